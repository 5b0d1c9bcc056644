/- Parts: SlM PolE SlN PolB SlF -/
import Derived.Test.YtfoffneipdkdjaaGreatDoorBs5
namespace Go.Proofs.YtfoffneipdkdjaaGreatDoor
open Go.RowKit

set_option maxRecDepth 100000 in
set_option maxHeartbeats 1600000 in
theorem idxM_any (g : FuncId) (lb : Array Value) (eg : Enters Tryz.prog g) (p : Mat → Bool) (A : Option Addr) (m c : Nat) (l : List Mat) (w : World) (h : Arr w 3 encM A m l) (hm : m ≤ 9223372036854775807) (hp : PredM Tryz.prog g lb valM p l w) :
    Calls Tryz.prog 135 #[.slice A m c, .func (.func g) #[] lb] w fun e w' => e = .returned (.int .i64 (placeOf p l)) ∧ Grows w w' := by
  have hlen := h.1
  unfold Enters at eg
  obtain ⟨R, hR⟩ : ∃ R, R = placeOf p l := ⟨_, rfl⟩
  rw [← hR]
  replace hR := Lib.hid hR
  replace hp := Lib.hid hp
  replace h := Lib.hid h
  go_enter Tryz.func135, Tryz.ntmps135
  go_wp2
  go_loopw [5, 8] (fun _ i wr => ∃ k : Nat, k ≤ m ∧ i = .int .i64 k ∧ Hid (∀ j y, j < k → l[j]? = some y → p y = false) ∧ Hid (Grows w wr)) (fun _ i _ => m - (intOf i).toNat)
  case atStart => exact ⟨0, by omega, rfl, fun _ _ h => absurd h (by omega), Grows.refl _⟩
  case round =>
    obtain ⟨k, hk, rfl, hall, hg⟩ := hrel
    by_cases hlt : k < m
    · obtain ⟨b, off, x, rfl, _, hx, hcell⟩ := (h.out.keep hg.out).at_ hlt
      have c0 : wr.cell? ⟨b, off + k * 3, none⟩ = some (.string ⟨x.n.toArray⟩) := hcell 0 _ rfl
      have c1 : wr.cell? ⟨b, off + k * 3 + 1, none⟩ = some (.int .i64 x.op) := hcell 1 _ rfl
      have c2 : wr.cell? ⟨b, off + k * 3 + 2, none⟩ = some (.string ⟨x.v.toArray⟩) := hcell 2 _ rfl
      have hki : (k : Int) < (m : Int) := by omega
      have cI := hp.out x (List.mem_of_getElem? hx) wr hg.out
      unfold valM at cI
      cases hq : p x with
      | false =>
        rw [hq] at cI
        replace cI := Lib.hid cI
        have hnext := Lib.hid (show ∀ j y, j < k + 1 → l[j]? = some y → p y = false from fun j y hj hy => by
          by_cases hjk : j = k
          · subst hjk; rw [hx] at hy; rw [← Option.some.inj hy]; exact hq
          · exact hall.out j y (by omega) hy)
        clear hcell hq hx hall hR
        go_wp2_with fail
        refine (cI.out).mono ?_
        rintro e w1 ⟨rfl, hb⟩
        have hg1 := Lib.hid (hg.out.trans hb)
        go_wp2
        go_roundw
        case rel => exact ⟨k + 1, by omega, by go_num, hnext, hg1⟩
        case measure => simp [intOf]; omega
      | true =>
        rw [hq] at cI
        have hfin : Hid (R = (k : Int)) := Lib.hid (by rw [hR.out]; exact placeOf_hit hx hq hall.out)
        replace cI := Lib.hid cI
        clear hcell hq hx hall hR
        go_wp2_with fail
        refine (cI.out).mono ?_
        rintro e w1 ⟨rfl, hb⟩
        have hg1 := Lib.hid (hg.out.trans hb)
        go_wp2
        go_ret
        exact ⟨by rw [hfin.out]; rfl, hg1.out⟩
    · obtain rfl : k = m := by omega
      have hfin : Hid (R = -1) := Lib.hid (by rw [hR.out]; exact placeOf_miss fun j y hy => hall.out j y (by have := (List.getElem?_eq_some_iff.1 hy).1; omega) hy)
      clear hall hR
      go_wp2
      go_ret
      exact ⟨by rw [hfin.out]; rfl, hg.out⟩
set_option maxHeartbeats 400000 in
theorem conM_any (g : FuncId) (lb : Array Value) (eg : Enters Tryz.prog g) (p : Mat → Bool) (A : Option Addr) (m c : Nat) (l : List Mat) (w : World) (h : Arr w 3 encM A m l) (hm : m ≤ 9223372036854775807) (hp : PredM Tryz.prog g lb valM p l w) :
    Calls Tryz.prog 112 #[.slice A m c, .func (.func g) #[] lb] w fun e w' => e = .returned (.bool (l.any p)) ∧ Grows w w' := by
  have cI := idxM_any (c := c) g lb eg p A m l w h hm hp
  replace cI := Lib.hid cI
  have hfin := Lib.hid (placeOf_nonneg p l)
  clear h hp
  go_enter Tryz.func112, Tryz.ntmps112
  go_wp2_with fail
  refine cI.out.mono ?_
  rintro e w1 ⟨rfl, hb⟩
  go_wp2
  go_ret
  exact ⟨ret_bool hfin.out, hb⟩
end Go.Proofs.YtfoffneipdkdjaaGreatDoor
namespace Go.Proofs.YtfoffneipdkdjaaGreatDoor
open Go.RowKit Go.Maps

theorem Grows.by_none {w w' : World} (h : Grows w w') (row : Option Nat) : w.grownBy w' row := ⟨Below.os h, Below.tape h, Below.output h, h.size, fun k hk _ => Below.block h k hk⟩
theorem MapL.grows {P : Program} {k e : TypeId} {w w' : World} {b n : Nat} {l : List (List UInt8 × Lit)} (h : MapL P k e w b n l) (hg : Grows w w') : MapL P k e w' b n l := h.kept (hg.by_none none) (by simp)
theorem between_any (n lo hi : Int) (w : World) :
    Calls Tryz.prog 72 #[.int .i64 n, .int .i64 lo, .int .i64 hi] w fun e w' => e = .returned (.bool (decide (lo ≤ n) && decide (n ≤ hi))) ∧ Grows w w' := by
  by_cases h : lo ≤ n
  · go_enter Tryz.func72, Tryz.ntmps72
    go_wp2
    go_ret
    exact ⟨ret_bool (by simp [h]), Grows.refl _⟩
  · go_enter Tryz.func72, Tryz.ntmps72
    go_wp2
    go_ret
    exact ⟨ret_bool (by simp; omega), Grows.refl _⟩

/-- What a set of texts holds. -/
def seenL (l : List (List UInt8)) : List (List UInt8 × Lit) := l.map fun s => (s, .bool true)
theorem lookL_seen (s : List UInt8) : ∀ l : List (List UInt8), lookL (seenL l) s = if s ∈ l then some (.bool true) else none
  | [] => rfl
  | x :: r => by
    show lookL ((x, .bool true) :: seenL r) s = _
    rw [lookL_cons, lookL_seen s r]
    by_cases h : s ∈ r
    · simp [h]
    · by_cases hx : x = s
      · simp [h, hx]
      · simp [h, hx, Ne.symm hx]
theorem seenL_snoc (l : List (List UInt8)) (x : List UInt8) : seenL (l ++ [x]) = seenL l ++ [(x, .bool true)] := by simp [seenL]
abbrev SetL (w : World) (b n : Nat) (l : List (List UInt8)) : Prop := MapL Tryz.prog 9 4 w b n (seenL l)
theorem SetL.look {w : World} {b n : Nat} {l : List (List UInt8)} (h : SetL w b n l) {s : List UInt8} (hs : s.length ≤ maxLen) {x : Bool} (hx : decide (s ∈ l) = x) :
    (Instr.lookup 154 (.map (some b)) (.string ⟨s.toArray⟩) false).run Tryz.prog w = .ok (.bool x) w :=
  MapL.look_bool h Tryz.underlying9 Tryz.underlying154 Tryz.underlying4 (by kernel_rfl) hs (by
    rw [lookL_seen]
    by_cases hm : s ∈ l
    · simp only [hm, decide_true] at hx; subst hx; simp [hm]
    · simp only [hm, decide_false] at hx; subst hx; simp [hm])
theorem wpList_setL {ops : Array Oper} {rest : List Oper} {o : Oper} {a : Act} {Q : Exit → Act → World → Prop} {w : World} {b n : Nat} {l : List (List UInt8)} (h : SetL w b n l)
    (hg : o.guard = none) (m x v : Operand) (hop : o.op = Op.mapUpdate 154 m x v) (hn : n < maxLen) (s : List UInt8) (hs : s.length ≤ maxLen)
    (hm : a.eval m = .map (some b)) (hx : a.eval x = .string ⟨s.toArray⟩) (hv : a.eval v = .bool true)
    (hK : ∀ w', SetL w' b (n + 1) (l ++ [s]) → w.grownBy w' (some b) → wpList Tryz.prog ops Q rest (a.put o.dst undef) w') :
    wpList Tryz.prog ops Q (o :: rest) a w :=
  wpList_putL h hg m x v hop Tryz.underlying9 Tryz.underlying154 hn s hs (.bool true) (.bool true) hm hx hv (plainElem_bool Tryz.underlying4 true) (fun w' h1 h2 => hK w' (by unfold SetL; rw [seenL_snoc]; exact h1) h2)

/-! ### by -/
def byB (l : List (List UInt8)) : Bool := l.all nameB && decide l.Nodup && decide (l.length ≤ 8)
theorem byB_bad {l : List (List UInt8)} {k : Nat} {x : List UInt8} (hx : l[k]? = some x) (h : x ∈ l.take k ∨ nameB x = false) : byB l = false := by
  unfold byB
  rcases h with h | h
  · have : ¬ l.Nodup := by
      intro hn
      obtain ⟨i, hi, rfl⟩ := List.getElem_of_mem h
      rw [List.getElem_take] at hx
      have hik : i < k := by simp at hi; omega
      obtain ⟨hk, he⟩ := List.getElem?_eq_some_iff.1 hx
      exact absurd ((List.getElem_inj hn).1 he) (by omega)
    simp [this]
  · have : l.all nameB = false := by
      rw [← Bool.not_eq_true, List.all_eq_true]
      intro ha
      rw [ha x (List.mem_of_getElem? hx)] at h; cases h
    simp [this]
def byOk (l : List (List UInt8)) (k : Nat) : Prop := (l.take k).all nameB = true ∧ (l.take k).Nodup
theorem byOk.next {l : List (List UInt8)} {k : Nat} {x : List UInt8} (h : byOk l k) (hx : l[k]? = some x) (h1 : ¬ x ∈ l.take k) (h2 : nameB x = true) : byOk l (k + 1) := by
  unfold byOk
  rw [List.take_add_one, hx]
  refine ⟨by rw [List.all_append, h.1]; simp [h2], ?_⟩
  rw [List.nodup_append]
  refine ⟨h.2, by simp, fun a ha b hb => ?_⟩
  simp at hb
  subst hb
  exact fun e => h1 (e ▸ ha)
theorem byB_end {l : List (List UInt8)} {m : Nat} (hm : l.length = m) (h : byOk l m) : byB l = decide (m ≤ 8) := by
  unfold byOk at h
  rw [List.take_of_length_le (by omega)] at h
  unfold byB
  rw [h.1, decide_eq_true h.2, hm]
  simp
set_option maxRecDepth 100000 in
set_option maxHeartbeats 1600000 in
theorem by_any {A : Option Addr} {m c : Nat} {l : List (List UInt8)} (w : World) (hA : Arr w 1 encS A m l) (hm : m ≤ 9223372036854775807) (ht : ∀ x ∈ l, x.length ≤ 9223372036854775807) :
    Calls Tryz.prog 73 #[.slice A m c] w fun e w' => e = .returned (.bool (byB l)) ∧ Grows w w' := by
  have hml := hA.1
  obtain ⟨R, hR⟩ : ∃ R, R = byB l := ⟨_, rfl⟩
  rw [← hR]
  replace hR := Lib.hid hR
  replace hA := Lib.hid hA
  replace ht := Lib.hid ht
  replace hml := Lib.hid hml
  have hmm := @run_makeMap Tryz.prog
  go_enter Tryz.func73, Tryz.ntmps73
  go_wp2
  clear hmm
  go_loopw [5, 9] (fun _ i wr => ∃ k : Nat, k ≤ m ∧ i = .int .i64 k ∧ Hid (byOk l k) ∧ Hid (SetL wr w.heap.size k (l.take k)) ∧ Hid (Grows w wr)) (fun _ i _ => m - (intOf i).toNat)
  case atStart => exact ⟨0, by omega, rfl, ⟨by simp, by simp⟩, MapL.made w _ _ _, (Grows.refl w).alloc _⟩
  case round =>
    obtain ⟨k, hk, rfl, hok, hM, hG⟩ := hrel
    by_cases hkm : k < m
    · obtain ⟨bb, off, x, rfl, hsx, hx, hcell⟩ := (hA.out.keep hG.out).at_ hkm
      have c0 : wr.cell? ⟨bb, off + k, none⟩ = some (.string ⟨x.toArray⟩) := by simpa using hcell 0 _ rfl
      have hki : (k : Int) < (m : Int) := by omega
      have hxl : x.length ≤ maxLen := by have := ht.out x (List.mem_of_getElem? hx); unfold maxLen; omega
      by_cases hin : x ∈ l.take k
      · have hlk := hM.out.look hxl (x := true) (by simp [hin])
        have hfin : Hid (R = false) := Lib.hid (by rw [hR.out]; exact byB_bad hx (.inl hin))
        clear hR hcell hx hin hxl hM hok
        go_wp2
        go_ret
        exact ⟨ret_bool hfin.out.symm, by
          repeat (first | assumption | exact Grows.refl _ | apply Grows.drew | apply Grows.drewN | refine Grows.alloc ?_ _ | (refine Grows.setCell ?_ (by first | (simp; done) | (simp; omega) | omega) _) | (refine Grows.trans ?_ (by assumption)))
        ⟩
      · have hlk := hM.out.look hxl (x := false) (by simp [hin])
        have cN := name_any1 x
        have hbad := fun h => byB_bad hx (.inr h)
        have hnx := hok.out.next hx hin
        have htk : l.take (k + 1) = l.take k ++ [x] := by rw [List.take_add_one, hx]; rfl
        replace htk := Lib.hid htk
        generalize nameB x = B at *
        replace cN := Lib.hid cN
        clear hcell hx hin
        cases B
        · have hfin : Hid (R = false) := Lib.hid (by rw [hR.out]; exact hbad rfl)
          clear hR hbad hnx hM hok htk hxl
          go_wp2_with fail
          refine (cN.out _).mono ?_
          rintro e w1 ⟨rfl, hb⟩
          go_wp2
          go_ret
          exact ⟨ret_bool hfin.out.symm, hG.out.trans hb⟩
        · have hnx' := Lib.hid (hnx rfl)
          clear hbad hnx hok
          go_wp2_with fail
          refine (cN.out _).mono ?_
          rintro e w1 ⟨rfl, hb⟩
          have hM1 := Lib.hid (hM.out.grows hb)
          have hG1 := Lib.hid (hG.out.trans hb)
          clear hM hG hb hlk c0
          go_wp2_with (at_mapUpdate; refine wpList_setL hM1.out rfl _ _ _ rfl (by unfold maxLen; omega) x hxl rfl rfl rfl ?_; intro w2 hM2 hby; (have hG2 := Lib.hid (hG1.out.by_row hby (fun g hg => by injection hg with hg; omega))); (replace hM2 := Lib.hid hM2); clear hby hM1 hG1)
          go_roundw
          case rel => exact ⟨k + 1, by omega, by go_num, hnx', by rw [htk.out]; exact hM2.out, hG2.out⟩
          case measure => simp [intOf]; omega
    · obtain rfl : k = m := by omega
      have hfin : Hid (R = decide (k ≤ 8)) := Lib.hid (by rw [hR.out]; exact byB_end hml.out hok.out)
      clear hR hM hok
      go_wp2
      go_ret
      exact ⟨ret_bool (by rw [hfin.out]; first | rfl | (congr 1; simp; omega) | (rw [Bool.eq_iff_iff]; simp; omega)), hG.out⟩

/-! ### named -/
def nameOk (x : Nam) : Bool := nameB x.n && labRight x.l.lv
def namedB (l : List Nam) : Bool := l.all nameOk && decide (l.map (·.n)).Nodup
def namesOf (l : List Nam) : List (List UInt8) := l.map (·.n)
theorem namesOf_get {l : List Nam} {k : Nat} {x : Nam} (hx : l[k]? = some x) : (namesOf l)[k]? = some x.n := by simp [namesOf, hx]
theorem namedB_bad {l : List Nam} {k : Nat} {x : Nam} (hx : l[k]? = some x) (h : x.n ∈ (namesOf l).take k ∨ nameOk x = false) : namedB l = false := by
  unfold namedB
  rcases h with h | h
  · have hx' := namesOf_get hx
    have : ¬ (l.map (·.n)).Nodup := by
      intro hn
      obtain ⟨i, hi, he⟩ := List.getElem_of_mem h
      rw [List.getElem_take] at he
      have hik : i < k := by simp at hi; omega
      obtain ⟨hk, he2⟩ := List.getElem?_eq_some_iff.1 hx'
      rw [← he2] at he
      exact absurd ((List.getElem_inj hn).1 he) (by omega)
    simp [this]
  · have : l.all nameOk = false := by
      rw [← Bool.not_eq_true, List.all_eq_true]
      intro ha
      rw [ha x (List.mem_of_getElem? hx)] at h; cases h
    simp [this]
def namedOk (l : List Nam) (k : Nat) : Prop := (l.take k).all nameOk = true ∧ ((namesOf l).take k).Nodup
theorem namedOk.next {l : List Nam} {k : Nat} {x : Nam} (h : namedOk l k) (hx : l[k]? = some x) (h1 : ¬ x.n ∈ (namesOf l).take k) (h2 : nameOk x = true) : namedOk l (k + 1) := by
  unfold namedOk
  rw [List.take_add_one, List.take_add_one, hx, namesOf_get hx]
  refine ⟨by rw [List.all_append, h.1]; simp [h2], ?_⟩
  rw [List.nodup_append]
  refine ⟨h.2, by simp, fun a ha b hb => ?_⟩
  simp at hb
  subst hb
  exact fun e => h1 (e ▸ ha)
theorem namedB_end {l : List Nam} {m : Nat} (hm : l.length = m) (h : namedOk l m) : namedB l = true := by
  unfold namedOk at h
  rw [List.take_of_length_le (by omega), List.take_of_length_le (by simp [namesOf]; omega)] at h
  unfold namedB
  rw [h.1, decide_eq_true (show (l.map (·.n)).Nodup from h.2)]
  rfl
set_option maxRecDepth 100000 in
set_option maxHeartbeats 3200000 in
theorem named_any {x : NamsX} (w : World) (hx : x.At w) :
    Calls Tryz.prog 69 #[x.val] w fun e w' => e = .returned (.bool (namedB x.l)) ∧ Grows w w' := by
  have hA := hx.arr
  have hm := hx.le
  have ht := hx.txt
  have hlb := hx.lab
  unfold NamsX.val
  clear hx
  obtain ⟨l, A, m, c⟩ := x
  simp only at hA hm ht hlb ⊢
  have hml := hA.1
  obtain ⟨R, hR⟩ : ∃ R, R = namedB l := ⟨_, rfl⟩
  rw [← hR]
  replace hR := Lib.hid hR
  replace hA := Lib.hid hA
  replace ht := Lib.hid ht
  replace hlb := Lib.hid hlb
  replace hml := Lib.hid hml
  have hmm := @run_makeMap Tryz.prog
  go_enter Tryz.func69, Tryz.ntmps69
  go_wp2
  clear hmm
  go_loopw [5, 9] (fun _ i wr => ∃ k : Nat, k ≤ m ∧ i = .int .i64 k ∧ Hid (namedOk l k) ∧ Hid (SetL wr w.heap.size k ((namesOf l).take k)) ∧ Hid (Grows w wr)) (fun _ i _ => m - (intOf i).toNat)
  case atStart => exact ⟨0, by omega, rfl, ⟨by simp, by simp⟩, MapL.made w _ _ _, (Grows.refl w).alloc _⟩
  case round =>
    obtain ⟨k, hk, rfl, hok, hM, hG⟩ := hrel
    by_cases hkm : k < m
    · obtain ⟨bb, off, x, rfl, hsx, hx, hcell⟩ := (hA.out.keep hG.out).at_ hkm
      have c0 : wr.cell? ⟨bb, off + k * 3, none⟩ = some (.string ⟨x.n.toArray⟩) := hcell 0 _ rfl
      have c1 : wr.cell? ⟨bb, off + k * 3 + 1, none⟩ = some (.int .i64 x.l.lv) := hcell 1 _ rfl
      have c2 : wr.cell? ⟨bb, off + k * 3 + 2, none⟩ = some (.int .u32 (x.l.c : Int)) := hcell 2 _ rfl
      have hki : (k : Int) < (m : Int) := by omega
      have hxm := List.mem_of_getElem? hx
      have hxl : x.n.length ≤ maxLen := by have := ht.out x hxm; unfold maxLen; omega
      have hM1 := Lib.hid ((hM.out.alloc (.cells #[.string ⟨x.n.toArray⟩, .int .i64 x.l.lv, .int .u32 (x.l.c : Int)] 42)))
      by_cases hin : x.n ∈ (namesOf l).take k
      · have hlk := SetL.look hM1.out hxl (x := true) (by simp [hin])
        have hfin : Hid (R = false) := Lib.hid (by rw [hR.out]; exact namedB_bad hx (.inl hin))
        clear hR hcell hx hin hxl hM hM1 hok hxm
        go_wp2
        go_ret
        exact ⟨ret_bool hfin.out.symm, by
          have := hG.out
          repeat (first | assumption | exact Grows.refl _ | apply Grows.drew | apply Grows.drewN | refine Grows.alloc ?_ _ | (refine Grows.setCell ?_ (by first | (simp; done) | (simp; omega) | omega) _) | (refine Grows.trans ?_ (by assumption)))
        ⟩
      · have hlk := SetL.look hM1.out hxl (x := false) (by simp [hin])
        have cN := name_any1 x.n
        have cR := fun W => lRight_any x.l W
        have hbad := fun h => namedB_bad hx (.inr h)
        have hnx := hok.out.next hx hin
        have htk : (namesOf l).take (k + 1) = (namesOf l).take k ++ [x.n] := by rw [List.take_add_one, namesOf_get hx]; rfl
        replace htk := Lib.hid htk
        unfold nameOk at hbad hnx
        generalize nameB x.n = B at *
        generalize labRight x.l.lv = B2 at *
        replace cN := Lib.hid cN
        replace cR := Lib.hid cR
        clear hcell hx hin hxm
        have hGa : Hid (Grows w (wr.alloc (.cells #[.string ⟨x.n.toArray⟩, .int .i64 x.l.lv, .int .u32 (x.l.c : Int)] 42))) := Lib.hid (hG.out.alloc _)
        have ba : Blk (wr.alloc (.cells #[.string ⟨x.n.toArray⟩, .int .i64 x.l.lv, .int .u32 (x.l.c : Int)] 42)) wr.heap.size 42 #[.string ⟨x.n.toArray⟩, .int .i64 x.l.lv, .int .u32 (x.l.c : Int)] := Blk.new wr _ _
        cases B
        · have hfin : Hid (R = false) := Lib.hid (by rw [hR.out]; exact hbad (by simp))
          clear hR hbad hnx hM hM1 hok htk hxl ba
          go_wp2_with fail
          refine (cN.out _).mono ?_
          rintro e w1 ⟨rfl, hb⟩
          go_wp2
          go_ret
          exact ⟨ret_bool hfin.out.symm, hGa.out.trans hb⟩
        · cases B2
          · have hfin : Hid (R = false) := Lib.hid (by rw [hR.out]; exact hbad (by simp))
            clear hR hbad hnx hM hM1 hok htk hxl
            go_wp2_with fail
            refine (cN.out _).mono ?_
            rintro e w1 ⟨rfl, hb⟩
            replace ba := ba.grows hb
            have d1 : _ = some (Value.int .i64 x.l.lv) := ba.cell 1
            have d2 : _ = some (Value.int .u32 (x.l.c : Int)) := ba.cell 2
            have sa := ba.lt
            have hG1 := Lib.hid (hGa.out.trans hb)
            clear hb ba hGa
            go_wp2_with fail
            refine (cR.out _).mono ?_
            rintro e w2 ⟨rfl, hb2⟩
            go_wp2
            go_ret
            exact ⟨ret_bool hfin.out.symm, hG1.out.trans hb2⟩
          · have hnx' := Lib.hid (hnx (by simp))
            clear hbad hnx hok hM
            go_wp2_with fail
            refine (cN.out _).mono ?_
            rintro e w1 ⟨rfl, hb⟩
            replace ba := ba.grows hb
            have d1 : _ = some (Value.int .i64 x.l.lv) := ba.cell 1
            have d2 : _ = some (Value.int .u32 (x.l.c : Int)) := ba.cell 2
            have sa := ba.lt
            have hG1 := Lib.hid (hGa.out.trans hb)
            have hM2 := Lib.hid (hM1.out.grows hb)
            clear hb hGa hM1 hlk c0 c1 c2
            go_wp2_with fail
            refine (cR.out _).mono ?_
            rintro e w2 ⟨rfl, hb2⟩
            replace ba := ba.grows hb2
            have d0 : _ = some (Value.string ⟨x.n.toArray⟩) := ba.cell 0
            have sa2 := ba.lt
            have hG2 := Lib.hid (hG1.out.trans hb2)
            have hM3 := Lib.hid (hM2.out.grows hb2)
            clear hb2 ba hG1 hM2 d1 d2 sa
            go_wp2_with (at_mapUpdate; refine wpList_setL hM3.out rfl _ _ _ rfl (by unfold maxLen; omega) x.n hxl rfl rfl rfl ?_; intro w3 hM4 hby; (have hG3 := Lib.hid (hG2.out.by_row hby (fun g hg => by injection hg with hg; omega))); (replace hM4 := Lib.hid hM4); clear hby hM3 hG2)
            go_roundw
            case rel => exact ⟨k + 1, by omega, by go_num, hnx', by rw [htk.out]; exact hM4.out, hG3.out⟩
            case measure => simp [intOf]; omega
    · obtain rfl : k = m := by omega
      have hfin : Hid (R = true) := Lib.hid (by rw [hR.out]; exact namedB_end hml.out hok.out)
      clear hR hM hok
      go_wp2
      go_ret
      exact ⟨ret_bool hfin.out.symm, hG.out⟩
end Go.Proofs.YtfoffneipdkdjaaGreatDoor
namespace Go.Proofs.YtfoffneipdkdjaaGreatDoor
open Go.RowKit

set_option maxRecDepth 100000 in
set_option maxHeartbeats 1600000 in
theorem idxN_any (g : FuncId) (lb : Array Value) (eg : Enters Tryz.prog g) (p : Nam → Bool) (A : Option Addr) (m c : Nat) (l : List Nam) (w : World) (h : Arr w 3 encN A m l) (hm : m ≤ 9223372036854775807) (hp : PredM Tryz.prog g lb valN p l w) :
    Calls Tryz.prog 106 #[.slice A m c, .func (.func g) #[] lb] w fun e w' => e = .returned (.int .i64 (placeOf p l)) ∧ Grows w w' := by
  have hlen := h.1
  unfold Enters at eg
  obtain ⟨R, hR⟩ : ∃ R, R = placeOf p l := ⟨_, rfl⟩
  rw [← hR]
  replace hR := Lib.hid hR
  replace hp := Lib.hid hp
  replace h := Lib.hid h
  go_enter Tryz.func106, Tryz.ntmps106
  go_wp2
  go_loopw [5, 8] (fun _ i wr => ∃ k : Nat, k ≤ m ∧ i = .int .i64 k ∧ Hid (∀ j y, j < k → l[j]? = some y → p y = false) ∧ Hid (Grows w wr)) (fun _ i _ => m - (intOf i).toNat)
  case atStart => exact ⟨0, by omega, rfl, fun _ _ h => absurd h (by omega), Grows.refl _⟩
  case round =>
    obtain ⟨k, hk, rfl, hall, hg⟩ := hrel
    by_cases hlt : k < m
    · obtain ⟨b, off, x, rfl, _, hx, hcell⟩ := (h.out.keep hg.out).at_ hlt
      have c0 : wr.cell? ⟨b, off + k * 3, none⟩ = some (.string ⟨x.n.toArray⟩) := hcell 0 _ rfl
      have c1 : wr.cell? ⟨b, off + k * 3 + 1, none⟩ = some (.int .i64 x.l.lv) := hcell 1 _ rfl
      have c2 : wr.cell? ⟨b, off + k * 3 + 2, none⟩ = some (.int .u32 (x.l.c : Int)) := hcell 2 _ rfl
      have hki : (k : Int) < (m : Int) := by omega
      have cI := hp.out x (List.mem_of_getElem? hx) wr hg.out
      unfold valN at cI
      cases hq : p x with
      | false =>
        rw [hq] at cI
        replace cI := Lib.hid cI
        have hnext := Lib.hid (show ∀ j y, j < k + 1 → l[j]? = some y → p y = false from fun j y hj hy => by
          by_cases hjk : j = k
          · subst hjk; rw [hx] at hy; rw [← Option.some.inj hy]; exact hq
          · exact hall.out j y (by omega) hy)
        clear hcell hq hx hall hR
        go_wp2_with fail
        refine (cI.out).mono ?_
        rintro e w1 ⟨rfl, hb⟩
        have hg1 := Lib.hid (hg.out.trans hb)
        go_wp2
        go_roundw
        case rel => exact ⟨k + 1, by omega, by go_num, hnext, hg1⟩
        case measure => simp [intOf]; omega
      | true =>
        rw [hq] at cI
        have hfin : Hid (R = (k : Int)) := Lib.hid (by rw [hR.out]; exact placeOf_hit hx hq hall.out)
        replace cI := Lib.hid cI
        clear hcell hq hx hall hR
        go_wp2_with fail
        refine (cI.out).mono ?_
        rintro e w1 ⟨rfl, hb⟩
        have hg1 := Lib.hid (hg.out.trans hb)
        go_wp2
        go_ret
        exact ⟨by rw [hfin.out]; rfl, hg1.out⟩
    · obtain rfl : k = m := by omega
      have hfin : Hid (R = -1) := Lib.hid (by rw [hR.out]; exact placeOf_miss fun j y hy => hall.out j y (by have := (List.getElem?_eq_some_iff.1 hy).1; omega) hy)
      clear hall hR
      go_wp2
      go_ret
      exact ⟨by rw [hfin.out]; rfl, hg.out⟩
end Go.Proofs.YtfoffneipdkdjaaGreatDoor
namespace Go.Proofs.YtfoffneipdkdjaaGreatDoor
open Go.RowKit

set_option maxRecDepth 100000 in
theorem find1_any (x : Nam) {n : List UInt8} {g : Nat} (w : World) (hc : w.cell? ⟨g, 0, none⟩ = some (.string ⟨n.toArray⟩)) :
    Calls Tryz.prog 107 #[valN x, .pointer (some ⟨g, 0, none⟩)] w fun e w' => e = .returned (.bool (x.n == n)) ∧ Grows w w' := by
  unfold valN
  have hb := World.block_lt_of_cell? w _ hc
  simp only at hb
  obtain ⟨R, hR⟩ : ∃ R, R = (x.n == n) := ⟨_, rfl⟩
  rw [← hR]
  go_enter Tryz.func107, Tryz.ntmps107
  go_wp2
  go_ret
  refine ⟨ret_bool (by first | rfl | simp [hR]), ?_⟩
  repeat (first | assumption | exact Grows.refl _ | apply Grows.drew | apply Grows.drewN | refine Grows.alloc ?_ _ | (refine Grows.setCell ?_ (by first | (simp; done) | (simp; omega) | omega) _) | (refine Grows.trans ?_ (by assumption)))
theorem find_none {l : List Nam} {n : List UInt8} (h : l.any (fun x => x.n == n) = false) : findL l n = none := by
  unfold findL
  rw [List.find?_eq_none.2 (fun x hx => by have := List.any_eq_false.1 h x hx; simpa using this)]
  rfl
theorem find_some {n : List UInt8} : ∀ {l : List Nam} {i : Nat} {x : Nam}, l[i]? = some x → (x.n == n) = true → (l.take i).any (fun x => x.n == n) = false → findL l n = some x.l
  | [], i, x, h, _, _ => by simp at h
  | y :: r, 0, x, h, hp, _ => by
    simp at h
    subst h
    simp only [beq_iff_eq] at hp
    simp [findL, List.find?, hp]
  | y :: r, i + 1, x, h, hp, ha => by
    simp only [List.take_succ_cons, List.any_cons, Bool.or_eq_false_iff] at ha
    have h2 := find_some (l := r) (i := i) (by simpa using h) hp ha.2
    unfold findL at h2 ⊢
    rw [List.find?_cons_of_neg (by simpa using ha.1)]
    exact h2
theorem find_mem {n : List UInt8} {l : List Nam} {y : Lab} (h : findL l n = some y) : ∃ x ∈ l, x.l = y := by
  unfold findL at h
  obtain ⟨x, hx, rfl⟩ := Option.map_eq_some_iff.1 h
  exact ⟨x, List.mem_of_find?_eq_some hx, rfl⟩
def labOf (o : Option Lab) : Lab := o.getD ⟨0, 0⟩
set_option maxRecDepth 100000 in
set_option maxHeartbeats 800000 in
theorem find_any {A : Option Addr} {m c : Nat} {l : List Nam} {n : List UInt8} (w : World) (h : Arr w 3 encN A m l) (hm : m ≤ 9223372036854775807) :
    Calls Tryz.prog 71 #[.slice A m c, .string ⟨n.toArray⟩] w fun e w' => e = .returned (.tuple #[.agg #[.int .i64 (labOf (findL l n)).lv, .int .u32 ((labOf (findL l n)).c : Int)], .bool (findL l n).isSome]) ∧ Grows w w' := by
  have hw2 : Grows w ((w.alloc (.cells #[.string ⟨n.toArray⟩] 9)).alloc (.cells #[.int .i64 0, .int .u32 0] 40)) := ((Grows.refl w).alloc _).alloc _
  have b0 : Blk ((w.alloc (.cells #[.string ⟨n.toArray⟩] 9)).alloc (.cells #[.int .i64 0, .int .u32 0] 40)) w.heap.size 9 #[.string ⟨n.toArray⟩] := (Blk.new w _ _).alloc _
  have b1 : Blk ((w.alloc (.cells #[.string ⟨n.toArray⟩] 9)).alloc (.cells #[.int .i64 0, .int .u32 0] 40)) (w.heap.size + 1) 40 #[.int .i64 0, .int .u32 0] := Blk.new1 w _ _ _
  have hA2 := h.keep hw2
  have cI := idxN_any (c := c) 107 #[.pointer (some ⟨w.heap.size, 0, none⟩)] (enters_of Tryz.func107 (by kernel_rfl) rfl) (fun x => x.n == n) A m l _ hA2 hm (fun x _ W hW => find1_any x W (hW.cell (b0.cell 0)))
  rcases placeOf_spec (fun x : Nam => x.n == n) l with ⟨h1, h2⟩ | ⟨i, x, h1, h2, h3, h4⟩
  · rw [h1] at cI
    rw [find_none h2]
    replace cI := Lib.hid cI
    replace hw2 := Lib.hid hw2
    clear hA2 h1 h2 h b0
    go_enter Tryz.func71, Tryz.ntmps71
    go_wp2_with fail
    refine (cI.out).mono ?_
    rintro e w1 ⟨rfl, hb⟩
    have d0 := (b1.grows hb).cell 0
    have d1 := (b1.grows hb).cell 1
    have f0 := (b1.grows hb).frozen 0
    have f1 := (b1.grows hb).frozen 1
    have s1 := (b1.grows hb).lt
    have hg := hw2.out.trans hb
    have hg0 : Grows w w1 := hg
    clear cI hw2
    go_wp2_with fail
    refine bodyPost_ret (v := .tuple #[.agg #[.int .i64 0, .int .u32 0], .bool false]) ?_ rfl ⟨rfl, ?_⟩
    · simp [results, Tryz.results71, go_sem, d0, d1]
    · repeat (first | assumption | exact Grows.refl _ | apply Grows.drew | apply Grows.drewN | refine Grows.alloc ?_ _ | (refine Grows.setCell ?_ (by first | (simp; done) | (simp; omega) | omega) _) | (refine Grows.trans ?_ (by assumption)))
  · rw [h1] at cI
    rw [find_some h2 h3 h4]
    have hi : i < m := by have := (List.getElem?_eq_some_iff.1 h2).1; have := h.1; omega
    replace cI := Lib.hid cI
    replace hw2 := Lib.hid hw2
    replace hA2 := Lib.hid hA2
    clear h1 h3 h4 h b0
    go_enter Tryz.func71, Tryz.ntmps71
    go_wp2_with fail
    refine (cI.out).mono ?_
    rintro e w1 ⟨rfl, hb⟩
    obtain ⟨b, off, x', rfl, _, hx, hcell⟩ := (hA2.out.keep hb).at_ hi
    obtain rfl : x' = x := Option.some.inj (hx.symm.trans h2)
    have c1 : w1.cell? ⟨b, off + i * 3 + 1, none⟩ = some (.int .i64 x'.l.lv) := hcell 1 _ rfl
    have c2 : w1.cell? ⟨b, off + i * 3 + 2, none⟩ = some (.int .u32 (x'.l.c : Int)) := hcell 2 _ rfl
    have d0 := (b1.grows hb).cell 0
    have d1 := (b1.grows hb).cell 1
    have f0 := (b1.grows hb).frozen 0
    have f1 := (b1.grows hb).frozen 1
    have s1 := (b1.grows hb).lt
    have hg := hw2.out.trans hb
    have hg0 : Grows w w1 := hg
    clear cI hw2 hA2 hcell hx h2
    go_wp2_with fail
    refine bodyPost_ret (v := .tuple #[.agg #[.int .i64 x'.l.lv, .int .u32 (x'.l.c : Int)], .bool true]) ?_ rfl ⟨rfl, ?_⟩
    · simp [results, Tryz.results71, go_sem, d0, d1]
    · repeat (first | assumption | exact Grows.refl _ | apply Grows.drew | apply Grows.drewN | refine Grows.alloc ?_ _ | (refine Grows.setCell ?_ (by first | (simp; done) | (simp; omega) | omega) _) | (refine Grows.trans ?_ (by assumption)))
end Go.Proofs.YtfoffneipdkdjaaGreatDoor
namespace Go.Proofs.YtfoffneipdkdjaaGreatDoor
open Go.RowKit

set_option maxRecDepth 100000 in
set_option maxHeartbeats 1600000 in
theorem idxF_any (g : FuncId) (lb : Array Value) (eg : Enters Tryz.prog g) (p : Fld → Bool) (A : Option Addr) (m c : Nat) (l : List Fld) (w : World) (h : Arr w 2 encF A m l) (hm : m ≤ 9223372036854775807) (hp : PredM Tryz.prog g lb valF p l w) :
    Calls Tryz.prog 119 #[.slice A m c, .func (.func g) #[] lb] w fun e w' => e = .returned (.int .i64 (placeOf p l)) ∧ Grows w w' := by
  have hlen := h.1
  unfold Enters at eg
  obtain ⟨R, hR⟩ : ∃ R, R = placeOf p l := ⟨_, rfl⟩
  rw [← hR]
  replace hR := Lib.hid hR
  replace hp := Lib.hid hp
  replace h := Lib.hid h
  go_enter Tryz.func119, Tryz.ntmps119
  go_wp2
  go_loopw [5, 8] (fun _ i wr => ∃ k : Nat, k ≤ m ∧ i = .int .i64 k ∧ Hid (∀ j y, j < k → l[j]? = some y → p y = false) ∧ Hid (Grows w wr)) (fun _ i _ => m - (intOf i).toNat)
  case atStart => exact ⟨0, by omega, rfl, fun _ _ h => absurd h (by omega), Grows.refl _⟩
  case round =>
    obtain ⟨k, hk, rfl, hall, hg⟩ := hrel
    by_cases hlt : k < m
    · obtain ⟨b, off, x, rfl, _, hx, hcell⟩ := (h.out.keep hg.out).at_ hlt
      have c0 : wr.cell? ⟨b, off + k * 2, none⟩ = some (.string ⟨x.n.toArray⟩) := hcell 0 _ rfl
      have c1 : wr.cell? ⟨b, off + k * 2 + 1, none⟩ = some (.string ⟨x.v.toArray⟩) := hcell 1 _ rfl
      have hki : (k : Int) < (m : Int) := by omega
      have cI := hp.out x (List.mem_of_getElem? hx) wr hg.out
      unfold valF at cI
      cases hq : p x with
      | false =>
        rw [hq] at cI
        replace cI := Lib.hid cI
        have hnext := Lib.hid (show ∀ j y, j < k + 1 → l[j]? = some y → p y = false from fun j y hj hy => by
          by_cases hjk : j = k
          · subst hjk; rw [hx] at hy; rw [← Option.some.inj hy]; exact hq
          · exact hall.out j y (by omega) hy)
        clear hcell hq hx hall hR
        go_wp2_with fail
        refine (cI.out).mono ?_
        rintro e w1 ⟨rfl, hb⟩
        have hg1 := Lib.hid (hg.out.trans hb)
        go_wp2
        go_roundw
        case rel => exact ⟨k + 1, by omega, by go_num, hnext, hg1⟩
        case measure => simp [intOf]; omega
      | true =>
        rw [hq] at cI
        have hfin : Hid (R = (k : Int)) := Lib.hid (by rw [hR.out]; exact placeOf_hit hx hq hall.out)
        replace cI := Lib.hid cI
        clear hcell hq hx hall hR
        go_wp2_with fail
        refine (cI.out).mono ?_
        rintro e w1 ⟨rfl, hb⟩
        have hg1 := Lib.hid (hg.out.trans hb)
        go_wp2
        go_ret
        exact ⟨by rw [hfin.out]; rfl, hg1.out⟩
    · obtain rfl : k = m := by omega
      have hfin : Hid (R = -1) := Lib.hid (by rw [hR.out]; exact placeOf_miss fun j y hy => hall.out j y (by have := (List.getElem?_eq_some_iff.1 hy).1; omega) hy)
      clear hall hR
      go_wp2
      go_ret
      exact ⟨by rw [hfin.out]; rfl, hg.out⟩
set_option maxHeartbeats 1600000 in
theorem cloF_any {A : Option Addr} {m c : Nat} {xs : List Fld} (w : World) (h : Arr w 2 encF A m xs) (hm : m ≤ 65536) :
    Calls Tryz.prog 83 #[.slice A m c] w fun e w' => ∃ v, e = .returned v ∧ Own w' w.heap.size 76 2 encF v xs ∧ Grows w w' := by
  have heq := fun (w : World) => Lib.run_eql_slice_nil (P := Tryz.prog) w 22 76 A m c 0 0 Tryz.underlying22
  have hlen := h.1
  cases A with
  | none =>
    obtain ⟨rfl, rfl⟩ := h.nilOf
    clear hlen h
    go_enter Tryz.func83, Tryz.ntmps83
    go_wp2
    go_ret
    exact ⟨_, rfl, Own.nil_ _ _ _ _ _, Grows.refl _⟩
  | some ad =>
    have hown : Own (w.alloc (.cells #[] 76)) w.heap.size 76 2 encF (.slice (some ⟨w.heap.size, 0, none⟩) ([] : List Fld).length 0) [] :=
      Own.mk_ (cur := #[]) hkF (by omega) (Nat.le_refl _) (heap_alloc_new w _) (by simp) (by simp [maxLen]) (by simp) (fun q hq => by simp at hq)
    have harr := h.keep ((Grows.refl w).alloc (.cells #[] 76))
    replace hlen := Lib.hid hlen
    clear h
    go_enter Tryz.func83, Tryz.ntmps83
    go_wp2_with (at_builtin; refine wpList_grownAll T_F rfl (.tmp 5) (.tmp 6) rfl hown rfl ad rfl harr hkF oneF (by simp) (by simp; unfold maxLen; omega) (by simp; omega) (fun v1 w1 hown1 hgr hat => ?_))
    have hb1 : Below w.heap.size w w1 := Own.below hown ((Below.refl _ _).alloc (Nat.le_refl _) _) (Nat.le_refl _) (by simp) hgr
    clear hgr hat
    go_wp2
    go_ret
    exact ⟨v1, rfl, by simpa using hown1, hb1⟩
set_option maxRecDepth 100000 in
set_option maxHeartbeats 3200000 in
theorem delF_any (g : FuncId) (lb : Array Value) (eg : Enters Tryz.prog g) (p : Fld → Bool) (base : Nat) (v : Value) (ws : List Fld) (w : World) (h : Own w base 76 2 encF v ws) (hbase : base ≤ w.heap.size) (hm : ws.length ≤ 65536) (hp : PredB Tryz.prog g lb valF p base ws w) :
    Calls Tryz.prog 82 #[v, .func (.func g) #[] lb] w fun e w' => ∃ v', e = .returned v' ∧ Own w' base 76 2 encF v' (ws.filter fun x => !p x) ∧ Below base w w' := by
  obtain ⟨A, c, rfl, hcap, hcm, harr⟩ := h.arr hkF
  have cI := idxF_any (c := c) g lb eg p A ws.length ws w harr (by omega) (fun x hx W hW => hp x hx W (hW.below.mono hbase))
  unfold Enters at eg
  rcases placeOf_spec p ws with ⟨h1, h2⟩ | ⟨i0, x0, h1, h2, h3, h4⟩
  · rw [h1] at cI
    have hf := filter_not_of_any h2
    rw [hf]
    replace cI := Lib.hid cI
    clear h1 h2 hf hp harr
    go_enter Tryz.func82, Tryz.ntmps82
    go_wp2_with fail
    refine cI.out.mono ?_
    rintro e w1 ⟨rfl, hb⟩
    go_wp2
    go_ret
    exact ⟨_, rfl, h.grows hb, hb.below.mono hbase⟩
  · rw [h1] at cI
    have hS := Sieve.start h2 h3 h4
    have hi0 : i0 < ws.length := (List.getElem?_eq_some_iff.1 h2).1
    have hform : ∃ gb, A = some ⟨gb, 0, none⟩ := by
      rcases h.2 with ⟨h5, h6⟩ | ⟨gb, _, _, h5, _⟩
      · omega
      · simp only [Value.slice.injEq] at h5; exact ⟨gb, h5.1⟩
    obtain ⟨gb, rfl⟩ := hform
    have hgb : base ≤ gb := by obtain ⟨_, _, hb, _⟩ := h.cells_ hkF; exact hb
    have hne : ((i0 : Int) == -1) = false := by simp
    replace cI := Lib.hid cI
    replace hp := Lib.hid hp
    clear h1 h2 h3 h4 harr
    go_enter Tryz.func82, Tryz.ntmps82
    go_wp2_with fail
    refine cI.out.mono ?_
    rintro e w1 ⟨rfl, hb⟩
    obtain ⟨n, hn⟩ : ∃ n, n = ws.length := ⟨_, rfl⟩
    rw [← hn] at h hm hi0 hcap ⊢
    replace hn := Lib.hid hn
    unfold maxLen at hcm
    go_wp2
    go_loopw [5, 6] (fun vi vj wr => ∃ (i j : Nat) (ys : List Fld), vi = .int .i64 i ∧ vj = .int .i64 j ∧ i < j ∧ j ≤ n ∧ Sieve p ws ys i j ∧ Own wr base 76 2 encF (.slice (some ⟨gb, 0, none⟩) n c) ys ∧ Below base w wr) (fun _ vj _ => n - (intOf vj).toNat)
    case atStart => exact ⟨i0, i0 + 1, ws, rfl, by go_num, by omega, by omega, hS, h.grows hb, hb.below.mono hbase⟩
    case round =>
      obtain ⟨i, j, ys, rfl, rfl, hij, hjn, hS', hown, hB⟩ := hrel
      have hBs := hB.size
      by_cases hlt : j < n
      · obtain ⟨x, hx⟩ : ∃ x, ws[j]? = some x := ⟨_, List.getElem?_eq_getElem (by rw [← hn.out]; exact hlt)⟩
        have hxm := List.mem_of_getElem? hx
        have hy := hS'.get hx
        have hs1 := hS'.drop_ hx
        have hs2 := hS'.keep_ hx
        obtain ⟨x', hx', hcell, _⟩ := hown.at_ hkF hlt
        obtain rfl : x' = x := Option.some.inj (hx'.symm.trans hy)
        have c0 : wr.cell? ⟨gb, j * 2, none⟩ = some (.string ⟨x'.n.toArray⟩) := hcell 0 _ rfl
        have c1 : wr.cell? ⟨gb, j * 2 + 1, none⟩ = some (.string ⟨x'.v.toArray⟩) := hcell 1 _ rfl
        have hgl : gb < wr.heap.size := World.block_lt_of_cell? wr ⟨gb, j * 2, none⟩ c0
        clear hcell hx' hx hy
        cases hq : p x'
        · have hs := hs2 hq
          have cP := fun W hW => hp.out x' hxm W hW
          unfold valF at cP
          rw [hq] at cP
          replace cP := Lib.hid cP
          clear hs1 hs2 hq
          go_wp2_with fail
          refine (cP.out _ (by
            repeat (first | assumption | exact Below.refl _ _ | apply Below.drew | apply below_drewN | (refine Below.alloc2t ?_ (by first | rfl | simp) (by first | omega | (simp; omega) | simp)) | (refine Below.alloc ?_ (by first | omega | (simp; omega) | simp) _) | (refine Below.setCell ?_ (by first | omega | (simp; omega) | simp) _))
          )).mono ?_
          rintro e w2 ⟨rfl, hb2⟩
          have hown2 := (hown.alloc (.cells #[.string ⟨x'.n.toArray⟩, .string ⟨x'.v.toArray⟩] 76)).grows hb2
          obtain ⟨y, _, dcell, dfro⟩ := hown2.at_ hkF (i := i) (by omega)
          have d0 : w2.cell? ⟨gb, i * 2, none⟩ = some (.string ⟨y.n.toArray⟩) := dcell 0 _ rfl
          have d1 : w2.cell? ⟨gb, i * 2 + 1, none⟩ = some (.string ⟨y.v.toArray⟩) := dcell 1 _ rfl
          obtain ⟨hc2, hf2⟩ := bcells hb2
          have hset := hown2.set_ hkF (by omega) (i := i) (by omega) x'
          have hin : i < n := by omega
          have hB2 : Below base w w2 := (hB.alloc (by omega) (.cells #[.string ⟨x'.n.toArray⟩, .string ⟨x'.v.toArray⟩] 76)).trans (hb2.below.mono (by simp; omega))
          replace hset := Lib.hid hset
          clear dcell hown2 hb2
          go_wp2
          go_roundw
          case rel => exact ⟨i + 1, j + 1, ys.set i x', by go_num, by go_num, by omega, by omega, hs, hset.out, Below.setCells hgb (encF x') (i * 2) w2 hB2⟩
          case measure => simp [intOf]; omega
        · have hs := hs1 hq
          have cP := fun W hW => hp.out x' hxm W hW
          unfold valF at cP
          rw [hq] at cP
          replace cP := Lib.hid cP
          clear hs1 hs2 hq
          go_wp2_with fail
          refine (cP.out _ (by
            repeat (first | assumption | exact Below.refl _ _ | apply Below.drew | apply below_drewN | (refine Below.alloc2t ?_ (by first | rfl | simp) (by first | omega | (simp; omega) | simp)) | (refine Below.alloc ?_ (by first | omega | (simp; omega) | simp) _) | (refine Below.setCell ?_ (by first | omega | (simp; omega) | simp) _))
          )).mono ?_
          rintro e w2 ⟨rfl, hb2⟩
          have hown2 := (hown.alloc (.cells #[.string ⟨x'.n.toArray⟩, .string ⟨x'.v.toArray⟩] 76)).grows hb2
          have hB2 : Below base w w2 := (hB.alloc (by omega) (.cells #[.string ⟨x'.n.toArray⟩, .string ⟨x'.v.toArray⟩] 76)).trans (hb2.below.mono (by simp; omega))
          go_wp2
          go_roundw
          case rel => exact ⟨i, j + 1, ys, rfl, by go_num, by omega, by omega, hs, hown2, hB2⟩
          case measure => simp [intOf]; omega
      · obtain rfl : j = n := by omega
        have hf : ys.take i = ws.filter fun x => !p x := by
          have := hS'.front
          rwa [List.take_of_length_le (Nat.le_of_eq hn.out.symm)] at this
        have hcl := fun ty => hown.run_clear (P := Tryz.prog) (t := 22) (ty := ty) (c := c - i) (z := (⟨[], []⟩ : Fld)) (zv := .agg #[.string ⟨#[]⟩, .string ⟨#[]⟩]) hkF (by omega) oneF Tryz.underlying22 (fun _ => by kernel_rfl) rfl hij
        obtain ⟨zs, hz1, hz2⟩ := Own.clear_ hkF (by omega) (⟨[], []⟩ : Fld) (j - i) i _ _ hown (by omega)
        have hfin : Own (wr.setCells gb (i * 2) (encAll encF (List.replicate (j - i) (⟨[], []⟩ : Fld)))) base 76 2 encF (.slice (some ⟨gb, 0, none⟩) i c) (ws.filter fun x => !p x) := by
          rw [← hf, ← hz2]; exact hz1.cut hkF (by omega) (by omega)
        have hB3 : Below base w (wr.setCells gb (i * 2) (encAll encF (List.replicate (j - i) (⟨[], []⟩ : Fld)))) := Below.setCells hgb _ _ _ hB
        generalize wr.setCells gb (i * 2) (encAll encF (List.replicate (j - i) (⟨[], []⟩ : Fld))) = w3 at hcl hfin hB3
        clear hz1 hz2 hf hS' hown hB h hp
        go_wp2
        go_ret
        exact ⟨_, rfl, hfin, hB3⟩
end Go.Proofs.YtfoffneipdkdjaaGreatDoor
