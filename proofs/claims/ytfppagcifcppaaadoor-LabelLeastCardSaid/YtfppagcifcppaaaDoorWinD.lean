/- Windows: the library's Clone and DeleteFunc at windows; plan and Muted. -/
import Derived.Test.YtfppagcifcppaaaDoorWinC
import Derived.Test.YtfppagcifcppaaaDoorOwn
import Derived.Lib.SliceRun
namespace Go.Proofs.YtfppagcifcppaaaDoor
open Go.RowKit

theorem oneWs (x : Win) : ∀ u ∈ encW x, u.oneCell' = true := oneW x
set_option maxHeartbeats 800000 in
theorem clone_any (A : Option Addr) (m c : Nat) (ws : List Win) (w : World) (h : Arr w 3 encW A m ws) (hm : m ≤ 65536) :
    Calls Tryd.prog 73 #[.slice A m c] w fun e w' => ∃ v, e = .returned v ∧ Own w' w.heap.size 39 3 encW v ws ∧ Grows w w' := by
  have heq := fun (w : World) => Lib.run_eql_slice_nil (P := Tryd.prog) w 24 39 A m c 0 0 Tryd.underlying24
  have hlen := h.1
  cases A with
  | none =>
    have hws : ws = [] := by
      rcases Nat.eq_zero_or_pos m with h0 | h0
      · exact List.eq_nil_of_length_eq_zero (by omega)
      · obtain ⟨b, off, e, _⟩ := h.2 h0; cases e
    subst hws
    clear hlen h
    go_enter Tryd.func73, Tryd.ntmps73
    go_wp2
    go_ret
    exact ⟨_, rfl, Own.nil_ _ _ _ _ _, Grows.refl _⟩
  | some ad =>
    have hown : Own (w.alloc (.cells #[] 39)) w.heap.size 39 3 encW (.slice (some ⟨w.heap.size, 0, none⟩) ([] : List Win).length 0) [] :=
      Own.mk_ (cur := #[]) hkW (by omega) (Nat.le_refl _) (heap_alloc_new w _) (by simp) (by simp [maxLen]) (by simp) (fun q hq => by simp at hq)
    have harr := h.keep ((Grows.refl w).alloc (.cells #[] 39))
    replace hlen := Lib.hid hlen
    clear h
    go_enter Tryd.func73, Tryd.ntmps73
    go_wp2_with (at_builtin; refine wpList_grownAll T_ww rfl (.tmp 5) (.tmp 6) rfl hown rfl ad rfl harr hkW oneW (by simp) (by simp; unfold maxLen; omega) (by simp; omega) (fun v1 w1 hown1 hgr hat => ?_))
    have hb1 : Below w.heap.size w w1 := Own.below hown ((Below.refl _ _).alloc (Nat.le_refl _) _) (Nat.le_refl _) (by simp) hgr
    clear hgr hat
    go_wp2
    go_ret
    exact ⟨v1, rfl, by simpa using hown1, hb1⟩

theorem idxOf_spec {α : Type} (p : α → Bool) : ∀ (xs : List α), (idxOf p xs = -1 ∧ xs.any p = false) ∨ ∃ (i : Nat) (x : α), idxOf p xs = i ∧ xs[i]? = some x ∧ p x = true ∧ (xs.take i).any p = false
  | [] => .inl ⟨rfl, rfl⟩
  | x :: r => by
    by_cases hp : p x = true
    · exact .inr ⟨0, x, by simp [idxOf, hp], by simp, hp, rfl⟩
    · simp only [Bool.not_eq_true] at hp
      rcases idxOf_spec p r with ⟨h1, h2⟩ | ⟨i, y, h1, h2, h3, h4⟩
      · exact .inl ⟨by simp [idxOf, hp, h1], by simp [hp, h2]⟩
      · exact .inr ⟨i + 1, y, by simp only [idxOf, hp, Bool.false_eq_true, if_false, h1]; rw [if_neg (by omega)]; omega, by simpa using h2, h3, by simp [hp, h4]⟩
theorem filter_not_of_any {α : Type} {p : α → Bool} : ∀ {xs : List α}, xs.any p = false → (xs.filter fun x => !p x) = xs
  | [], _ => rfl
  | x :: r, h => by
    simp only [List.any_cons, Bool.or_eq_false_iff] at h
    simp [h.1, filter_not_of_any h.2]

/-- The state of the sieve: of the first j elements those that stay stand in front. -/
structure Sieve {α : Type} (p : α → Bool) (xs ys : List α) (i j : Nat) : Prop where
  len : ys.length = xs.length
  lt : i < j
  le : j ≤ xs.length
  front : ys.take i = (xs.take j).filter fun x => !p x
  back : ys.drop j = xs.drop j
theorem Sieve.start {α : Type} {p : α → Bool} {xs : List α} {i : Nat} {x : α} (h1 : xs[i]? = some x) (h2 : p x = true) (h3 : (xs.take i).any p = false) : Sieve p xs xs i (i + 1) := by
  have hi : i < xs.length := (List.getElem?_eq_some_iff.1 h1).1
  refine ⟨rfl, by omega, by omega, ?_, rfl⟩
  rw [List.take_add_one, List.filter_append, filter_not_of_any h3, h1]
  simp [h2]
theorem Sieve.get {α : Type} {p : α → Bool} {xs ys : List α} {i j : Nat} (h : Sieve p xs ys i j) {x : α} (hx : xs[j]? = some x) : ys[j]? = some x := by
  have := congrArg (fun l => l[0]?) h.back
  simp only [List.getElem?_drop, Nat.add_zero] at this
  rw [this, hx]
theorem Sieve.drop_ {α : Type} {p : α → Bool} {xs ys : List α} {i j : Nat} (h : Sieve p xs ys i j) {x : α} (hx : xs[j]? = some x) (hp : p x = true) : Sieve p xs ys i (j + 1) := by
  have hj : j < xs.length := (List.getElem?_eq_some_iff.1 hx).1
  refine ⟨h.len, by have := h.lt; omega, by omega, ?_, ?_⟩
  · rw [List.take_add_one, List.filter_append, ← h.front, hx]; simp [hp]
  · have := congrArg (List.drop 1) h.back
    simpa [List.drop_drop] using this
theorem Sieve.keep_ {α : Type} {p : α → Bool} {xs ys : List α} {i j : Nat} (h : Sieve p xs ys i j) {x : α} (hx : xs[j]? = some x) (hp : p x = false) : Sieve p xs (ys.set i x) (i + 1) (j + 1) := by
  have hj : j < xs.length := (List.getElem?_eq_some_iff.1 hx).1
  have hlt := h.lt
  have hl := h.len
  refine ⟨by simp [hl], by omega, by omega, ?_, ?_⟩
  · rw [List.take_add_one, List.take_add_one, List.filter_append, ← h.front, hx, List.take_set_of_le (by omega), List.getElem?_set_self (by omega)]
    simp [hp]
  · rw [List.drop_set_of_lt (by omega)]
    have := congrArg (List.drop 1) h.back
    simpa [List.drop_drop] using this

/-- A predicate's closure, while blocks from B on are written. -/
def PredOn {α : Type} (P : Program) (g : FuncId) (lb : Array Value) (enc : α → List Value) (p : α → Bool) (B : Nat) (w : World) : Prop :=
  ∀ (x : α) (W : World), Below B w W → Calls P g (#[.agg (enc x).toArray] ++ lb) W fun e w' => e = .returned (.bool (p x)) ∧ Grows W w'

set_option maxRecDepth 100000 in
set_option maxHeartbeats 1600000 in
theorem deleteFunc_any (g : FuncId) (lb : Array Value) (eg : Enters Tryd.prog g) (p : Win → Bool) (base : Nat) (v : Value) (ws : List Win) (w : World) (h : Own w base 39 3 encW v ws) (hbase : base ≤ w.heap.size) (hm : ws.length ≤ 65536) (hp : PredOn Tryd.prog g lb encW p base w) :
    Calls Tryd.prog 72 #[v, .func (.func g) #[] lb] w fun e w' => ∃ v', e = .returned v' ∧ Own w' base 39 3 encW v' (ws.filter fun x => !p x) ∧ Below base w w' := by
  obtain ⟨A, c, rfl, hcap, hcm, harr⟩ := h.arr hkW
  have hlenm : ws.length ≤ maxLen := by unfold maxLen; omega
  have cI := idxFunc_any g lb eg p A ws.length c ws w harr hlenm (fun x W hW => hp x W (hW.below.mono hbase))
  unfold Enters at eg
  rcases idxOf_spec p ws with ⟨h1, h2⟩ | ⟨i0, x0, h1, h2, h3, h4⟩
  · rw [h1] at cI
    have hf := filter_not_of_any h2
    rw [hf]
    replace cI := Lib.hid cI
    clear h1 h2 hf hp harr
    go_enter Tryd.func72, Tryd.ntmps72
    go_wp2_with fail
    refine cI.out.mono ?_
    rintro e w1 ⟨rfl, hb⟩
    go_wp2
    go_ret
    exact ⟨_, rfl, h.grows hb, hb.below.mono hbase⟩
  · rw [h1] at cI
    have hS := Sieve.start h2 h3 h4
    have hi0 : i0 < ws.length := (List.getElem?_eq_some_iff.1 h2).1
    have hform : ∃ gb, A = some ⟨gb, 0, none⟩ := by
      rcases h.2 with ⟨h5, h6⟩ | ⟨gb, _, _, h5, _⟩
      · omega
      · simp only [Value.slice.injEq] at h5; exact ⟨gb, h5.1⟩
    obtain ⟨gb, rfl⟩ := hform
    have hgb : base ≤ gb := by obtain ⟨_, _, hb, _⟩ := h.cells_ hkW; exact hb
    have hne : ((i0 : Int) == -1) = false := by simp
    replace cI := Lib.hid cI
    replace hp := Lib.hid hp
    clear h1 h2 h3 h4 harr
    go_enter Tryd.func72, Tryd.ntmps72
    go_wp2_with fail
    refine cI.out.mono ?_
    rintro e w1 ⟨rfl, hb⟩
    obtain ⟨n, hn⟩ : ∃ n, n = ws.length := ⟨_, rfl⟩
    rw [← hn] at h hm hi0 hcap ⊢
    replace hn := Lib.hid hn
    unfold maxLen at hcm
    clear hlenm
    go_wp2
    go_loopw [5, 6] (fun vi vj wr => ∃ (i j : Nat) (ys : List Win), vi = .int .i64 i ∧ vj = .int .i64 j ∧ i < j ∧ j ≤ n ∧ Sieve p ws ys i j ∧ Own wr base 39 3 encW (.slice (some ⟨gb, 0, none⟩) n c) ys ∧ Below base w wr) (fun _ vj _ => n - (intOf vj).toNat)
    case atStart => exact ⟨i0, i0 + 1, ws, rfl, by go_num, by omega, by omega, hS, h.grows hb, hb.below.mono hbase⟩
    case round =>
      obtain ⟨i, j, ys, rfl, rfl, hij, hjn, hS', hown, hB⟩ := hrel
      have hBs := hB.size
      by_cases hlt : j < n
      · obtain ⟨x, hx⟩ : ∃ x, ws[j]? = some x := ⟨_, List.getElem?_eq_getElem (by rw [← hn.out]; exact hlt)⟩
        have hy := hS'.get hx
        have hs1 := hS'.drop_ hx
        have hs2 := hS'.keep_ hx
        obtain ⟨x', hx', hcell, _⟩ := hown.at_ hkW hlt
        obtain rfl : x' = x := Option.some.inj (hx'.symm.trans hy)
        have c0 : wr.cell? ⟨gb, j * 3, none⟩ = some (.int .i64 x'.p) := hcell 0 _ rfl
        have c1 : wr.cell? ⟨gb, j * 3 + 1, none⟩ = some (.int .i64 x'.f) := hcell 1 _ rfl
        have c2 : wr.cell? ⟨gb, j * 3 + 2, none⟩ = some (.int .i64 x'.l) := hcell 2 _ rfl
        have hgl : gb < wr.heap.size := World.block_lt_of_cell? wr ⟨gb, j * 3, none⟩ c0
        clear hcell hx' hx hy
        cases hq : p x'
        · have hs := hs2 hq
          have cP := fun W hW => hp.out x' W hW
          rw [hq] at cP
          replace cP := Lib.hid cP
          clear hs1 hs2 hq
          go_wp2_with fail
          refine (cP.out _ (by
            repeat (first | assumption | exact Below.refl _ _ | apply Below.drew | apply below_drewN | (refine Below.alloc2t ?_ (by first | rfl | simp) (by first | omega | (simp; omega) | simp)) | (refine Below.alloc ?_ (by first | omega | (simp; omega) | simp) _) | (refine Below.setCell ?_ (by first | omega | (simp; omega) | simp) _))
          )).mono ?_
          rintro e w2 ⟨rfl, hb2⟩
          have hown2 := (hown.alloc (.cells #[.int .i64 x'.p, .int .i64 x'.f, .int .i64 x'.l] 39)).grows hb2
          obtain ⟨y, _, dcell, dfro⟩ := hown2.at_ hkW (i := i) (by omega)
          have d0 : w2.cell? ⟨gb, i * 3, none⟩ = some (.int .i64 y.p) := dcell 0 _ rfl
          have d1 : w2.cell? ⟨gb, i * 3 + 1, none⟩ = some (.int .i64 y.f) := dcell 1 _ rfl
          have d2 : w2.cell? ⟨gb, i * 3 + 2, none⟩ = some (.int .i64 y.l) := dcell 2 _ rfl
          obtain ⟨hc2, hf2⟩ := bcells hb2
          have hset := hown2.set_ hkW (by omega) (i := i) (by omega) x'
          have hin : i < n := by omega
          have hB2 : Below base w w2 := (hB.alloc (by omega) (.cells #[.int .i64 x'.p, .int .i64 x'.f, .int .i64 x'.l] 39)).trans (hb2.below.mono (by simp; omega))
          replace hset := Lib.hid hset
          clear dcell hown2 hb2
          go_wp2
          go_roundw
          case rel => exact ⟨i + 1, j + 1, ys.set i x', by go_num, by go_num, by omega, by omega, hs, hset.out, Below.setCells hgb (encW x') (i * 3) w2 hB2⟩
          case measure => simp [intOf]; omega
        · have hs := hs1 hq
          have cP := fun W hW => hp.out x' W hW
          rw [hq] at cP
          replace cP := Lib.hid cP
          clear hs1 hs2 hq
          go_wp2_with fail
          refine (cP.out _ (by
            repeat (first | assumption | exact Below.refl _ _ | apply Below.drew | apply below_drewN | (refine Below.alloc2t ?_ (by first | rfl | simp) (by first | omega | (simp; omega) | simp)) | (refine Below.alloc ?_ (by first | omega | (simp; omega) | simp) _) | (refine Below.setCell ?_ (by first | omega | (simp; omega) | simp) _))
          )).mono ?_
          rintro e w2 ⟨rfl, hb2⟩
          have hown2 := (hown.alloc (.cells #[.int .i64 x'.p, .int .i64 x'.f, .int .i64 x'.l] 39)).grows hb2
          have hB2 : Below base w w2 := (hB.alloc (by omega) (.cells #[.int .i64 x'.p, .int .i64 x'.f, .int .i64 x'.l] 39)).trans (hb2.below.mono (by simp; omega))
          go_wp2
          go_roundw
          case rel => exact ⟨i, j + 1, ys, rfl, by go_num, by omega, by omega, hs, hown2, hB2⟩
          case measure => simp [intOf]; omega
      · obtain rfl : j = n := by omega
        have hf : ys.take i = ws.filter fun x => !p x := by
          have := hS'.front
          rwa [List.take_of_length_le (Nat.le_of_eq hn.out.symm)] at this
        have hcl := fun ty => hown.run_clear (P := Tryd.prog) (t := 24) (ty := ty) (c := c - i) (z := ⟨0, 0, 0⟩) (zv := .agg #[.int .i64 0, .int .i64 0, .int .i64 0]) hkW (by omega) oneW Tryd.underlying24 (fun _ => by kernel_rfl) rfl hij
        obtain ⟨zs, hz1, hz2⟩ := Own.clear_ hkW (by omega) (⟨0, 0, 0⟩ : Win) (j - i) i _ _ hown (by omega)
        have hfin : Own (wr.setCells gb (i * 3) (encAll encW (List.replicate (j - i) ⟨0, 0, 0⟩))) base 39 3 encW (.slice (some ⟨gb, 0, none⟩) i c) (ws.filter fun x => !p x) := by
          rw [← hf, ← hz2]; exact hz1.cut hkW (by omega) (by omega)
        have hB3 : Below base w (wr.setCells gb (i * 3) (encAll encW (List.replicate (j - i) ⟨0, 0, 0⟩))) := Below.setCells hgb _ _ _ hB
        generalize wr.setCells gb (i * 3) (encAll encW (List.replicate (j - i) ⟨0, 0, 0⟩)) = w3 at hcl hfin hB3
        clear hz1 hz2 hf hS' hown hB h hp
        go_wp2
        go_ret
        exact ⟨_, rfl, hfin, hB3⟩
end Go.Proofs.YtfppagcifcppaaaDoor
