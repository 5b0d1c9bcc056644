/- Parts: ShaL ShaM -/
import Derived.Laws.Cover3
import Derived.Test.YtfoffneipdkdjaaGreatDoorBs4
namespace Go.Proofs.YtfoffneipdkdjaaGreatDoor
open Go.RowKit

theorem eql_nil {P : Program} {t e : TypeId} (a : Option Addr) (l c : Nat) (h : P.underlying t = some (.slice e)) (w : World) : (binOp .eql t (.slice a l c) (.slice none 0 0)).run P w = .ok (.bool a.isNone) w := by
  simp only [binOp]
  simp [run_equal_slice_nil w t e a l c h]
set_option maxRecDepth 100000 in
theorem clone_any {A : Option Addr} {m c : Nat} {xs : List Nat} (w : World) (hA : Arr w 1 encB A m xs) (hl : m ≤ 1099511627776) :
    Calls Tryz.prog 131 #[.slice A m c] w fun e w' => ∃ v, e = .returned v ∧ Own w' w.heap.size 5 1 encB v xs ∧ Grows w w' := by
  have h63 : ([] : List Nat).length + m ≤ maxLen := by unfold maxLen; simp; omega
  have hbytes : (([] : List Nat).length + m) * 1 ≤ 140737488355328 := by simp; omega
  cases A with
  | none =>
    have hx : xs = [] := by
      apply List.eq_nil_of_length_eq_zero
      rw [hA.1]
      rcases Nat.eq_zero_or_pos m with h0 | h0
      · exact h0
      · obtain ⟨b, off, h, _⟩ := hA.2 h0
        cases h
    subst hx
    have hnil := fun W => eql_nil (P := Tryz.prog) none m c Tryz.underlying81 W
    go_enter Tryz.func131, Tryz.ntmps131
    go_wp2
    go_ret
    exact ⟨_, rfl, Own.nil_ _ _ _ _ _, Grows.refl _⟩
  | some ad =>
    have hO : Own (w.alloc (.cells #[] 5)) w.heap.size 5 1 encB (.slice (some ⟨w.heap.size, 0, none⟩) 0 0) [] :=
      Own.mk_ (xs := []) (cap := 0) hkB (by omega) (Nat.le_refl _) (heap_alloc_new w _) (by simp) (by simp [maxLen]) rfl (fun q h => absurd h (by simp))
    have hA1 := hA.keep ((Grows.refl w).alloc (.cells #[] 5))
    have hbs : w.heap.size ≤ (w.alloc (.cells #[] 5)).heap.size := by simp
    have hnil := fun W => eql_nil (P := Tryz.prog) (some ad) m c Tryz.underlying81 W
    replace hO := Lib.hid hO
    replace hA1 := Lib.hid hA1
    go_enter Tryz.func131, Tryz.ntmps131
    go_wp2_with (refine wpList_grownOpt T_bb rfl (.tmp 5) (.tmp 6) rfl hO.out rfl rfl hA1.out hkB oneB hbs h63 hbytes ?_; intro v2 w2 hO2 hby2 hv2; replace hO2 := Lib.hid hO2)
    go_ret
    exact ⟨_, rfl, hO2.out, ((Grows.refl w).alloc _).by_row hby2 (fun j hj => by simp [Value.ownBlock] at hj; omega)⟩
end Go.Proofs.YtfoffneipdkdjaaGreatDoor
namespace Go.Proofs.YtfoffneipdkdjaaGreatDoor
open Go.RowKit

theorem Own.base_le {α : Type} {w : World} {base base' k : Nat} {e : TypeId} {enc : α → List Value} {v : Value} {xs : List α} (h : Own w base e k enc v xs) (hb : base' ≤ base) : Own w base' e k enc v xs := by
  refine ⟨h.1, ?_⟩
  rcases h.2 with h2 | ⟨g', cap, cur, hv, hb', hh, r⟩
  · exact .inl h2
  · exact .inr ⟨g', cap, cur, hv, Nat.le_trans hb hb', hh, r⟩
theorem fresh_of {a w : World} {t : TypeId} {cs : Array Value} (_ : Grows a (w.alloc (.cells cs t))) : Blk (w.alloc (.cells cs t)) w.heap.size t cs := Blk.new w t cs
theorem Own.block_ge {α : Type} {w : World} {base k : Nat} {e : TypeId} {enc : α → List Value} {v : Value} {xs : List α} (h : Own w base e k enc v xs) : ∀ j, v.ownBlock = some j → base ≤ j := fun j hj => by
  rcases h.2 with ⟨h2, _⟩ | ⟨g', cap, cur, hv, hb', hh, r⟩
  · rw [h2] at hj; cases hj
  · rw [hv] at hj
    simp only [Value.ownBlock, Option.some.injEq] at hj
    omega
theorem Arr.one_byte {w : World} {g : Nat} {t : TypeId} {x : Nat} (h : Blk w g t #[.int .u8 (x : Int)]) : Arr w 1 encB (some ⟨g, 0, none⟩) 1 [x] := by
  refine ⟨rfl, fun _ => ⟨g, 0, rfl, h.lt, fun i hi j u hu => ?_⟩⟩
  have hi0 : i = 0 := by simpa using hi
  subst hi0
  have hj : j = 0 := by have := (List.getElem?_eq_some_iff.1 hu).1; simp [encB] at this; omega
  subst hj
  rw [h.cell]
  exact hu
theorem u8s_set (xs : List Nat) (i x : Nat) : (u8s xs).setIfInBounds i (.int .u8 (x : Int)) = u8s (xs.set i x) := by simp [u8s, List.map_set]
theorem bytesV_len (v : V8) : (bytesV v).length = 32 := rfl
theorem bytesV_at (v : V8) {k : Nat} (hk : k < 32) : (bytesV v).getD k 0 = (eightL v).getD (k / 4) 0 / 2 ^ (24 - 8 * (k % 4)) % 256 := by
  match k, hk with
  | 0, _ | 1, _ | 2, _ | 3, _ | 4, _ | 5, _ | 6, _ | 7, _ | 8, _ | 9, _ | 10, _ | 11, _ | 12, _ | 13, _ | 14, _ | 15, _ | 16, _ | 17, _ | 18, _ | 19, _ | 20, _ | 21, _ | 22, _ | 23, _ | 24, _ | 25, _ | 26, _ | 27, _ | 28, _ | 29, _ | 30, _ | 31, _ => simp [bytesV, eightL]
  | k + 32, h => exact absurd h (by omega)
theorem be8_byte (n : Nat) : ∀ x ∈ be8 n, x < 256 := by
  intro x hx
  simp only [be8, List.mem_map] at hx
  obtain ⟨i, _, rfl⟩ := hx
  exact Nat.mod_lt _ (by decide)
/-- What stands where a digest's end begins: a Sum of the call's own, and its bytes. -/
def NowR (w : World) (v : V8) (xs : List Nat) (f : Nat → Value) (w' : World) : Prop := ∃ (ge : Nat) (rest : Value), f 3 = .pointer (some ⟨ge, 0, none⟩) ∧ w.heap.size ≤ ge ∧ Blk w' ge 175 (sumC (eightL v) rest 0) ∧ Own w' w.heap.size 5 1 encB rest xs ∧ Grows w w'
set_option maxRecDepth 100000 in
set_option maxHeartbeats 1600000 in
theorem now_any {v : V8} (hv : v.ok) {g : Nat} {A : Option Addr} {c N : Nat} {r : List Nat} (w : World) (hS : Blk w g 175 (sumC (eightL v) (.slice A r.length c) N)) (hr : Arr w 1 encB A r.length r) (hb : ∀ x ∈ r, x < 256) (hN : N % 64 = r.length) (hN2 : N ≤ 1099511627776) :
    Calls Tryz.prog 103 #[.pointer (some ⟨g, 0, none⟩)] w fun e w' => e = .returned (.agg (u8s (bytesV (blocks ((r ++ padOf N).length / 64) v (r ++ padOf N))))) ∧ Grows w w' := by
  have hrl : r.length < 64 := by omega
  obtain ⟨n, hn⟩ : ∃ n, n = r.length := ⟨_, rfl⟩
  rw [← hn] at hS hr
  replace hS := Lib.hid hS
  replace hr := Lib.hid hr
  replace hb := Lib.hid hb
  replace hv := Lib.hid hv
  replace hn := Lib.hid hn
  have cC : ∀ W, Arr W 1 encB A n r → _ := fun W h => clone_any (c := c) W h (by have := hn.out; omega)
  replace cC := Lib.hid cC
  go_enter Tryz.func103, Tryz.ntmps103
  go_wp2_with fail
  refine named_alloc (Pr := fun W => Code.wp _ _ _ _ W) (fun w1 hB2 hG1 => ?_)
  replace hB2 : Blk w1 w.heap.size 83 (u8s (List.replicate 32 0)) := hB2.cast (by kernel_rfl)
  obtain ⟨g2, hg2⟩ : ∃ g2, g2 = w.heap.size := ⟨_, rfl⟩
  rw [← hg2] at hB2 ⊢
  replace hr := Lib.hid (hr.out.keep hG1)
  replace hS := Lib.hid (hS.out.grows hG1)
  have hlt2 := Lib.hid hB2.lt
  replace hB2 := Lib.hid hB2
  replace hG1 := Lib.hid hG1
  replace hg2 := Lib.hid hg2
  apply wp_cutS (is := [19, 20, 21, 22, 23, 3]) (R := NowR w1 v (r ++ [128]))
  case h1 =>
    have q0 : w1.cell? ⟨g, 0, none⟩ = some (.int .u32 (v.a : Int)) := hS.out.cell 0
    have q1 : w1.cell? ⟨g, 1, none⟩ = some (.int .u32 (v.b : Int)) := hS.out.cell 1
    have q2 : w1.cell? ⟨g, 2, none⟩ = some (.int .u32 (v.c : Int)) := hS.out.cell 2
    have q3 : w1.cell? ⟨g, 3, none⟩ = some (.int .u32 (v.d : Int)) := hS.out.cell 3
    have q4 : w1.cell? ⟨g, 4, none⟩ = some (.int .u32 (v.e : Int)) := hS.out.cell 4
    have q5 : w1.cell? ⟨g, 5, none⟩ = some (.int .u32 (v.f : Int)) := hS.out.cell 5
    have q6 : w1.cell? ⟨g, 6, none⟩ = some (.int .u32 (v.g : Int)) := hS.out.cell 6
    have q7 : w1.cell? ⟨g, 7, none⟩ = some (.int .u32 (v.h : Int)) := hS.out.cell 7
    have q8 : w1.cell? ⟨g, 8, none⟩ = some (.slice A n c) := hS.out.cell 8
    have qz := hS.out.lt
    have hbase := Nat.le_refl w1.heap.size
    refine wp_region_k (by kernel_rfl) ?_
    refine wpAnyK_run (l' := #[true, true, true, true, true, true, true, true, false, false, false, false, false, false]) [0, 1, 2, 3, 4, 5, 6, 7] 6 up_grows (by kernel_rfl) (by intro c a d v w h; first | (cases d <;> exact h) | exact hQ0 _ _ _ _ _ h) rfl (by kernel_rfl) (by kernel_rfl) ?_
    iterate 8 (refine wpMixC_q rfl (fun K hK => ?_); go_simp; (try go_bits); first | (refine hK.out _ ?_; clear hK K) | (apply Exists.intro; refine ⟨fun wq hsq => ?_, hK.out _ ?_⟩; (first | (go_simp; done) | ((try go_simp); (try simp only [↓IntWalk.iteOmega]); (try go_bits); rfl) | (obtain ⟨hcq, hfq⟩ := bcells hsq; go_simp; done) | (obtain ⟨hcq, hfq⟩ := bcells hsq; (try go_simp); (try simp only [↓IntWalk.iteOmega]); (try go_bits); rfl)); clear hK K))
    refine wpMixC_nil ?_
    refine wpAnyK_alt [8, 9] (by kernel_rfl) (by simp) (fun wN hN hS => (AllReadyK.cons rfl (fun K' hK => ?_) (AllReadyK.cons rfl (fun K' hK => ?_) AllReadyK.nil)))
    · skip
      try replace hr := Lib.hid (hr.out.keep hN)
      try replace hOc := Lib.hid (hOc.out.grows hN)
      try replace hO3 := Lib.hid (hO3.out.grows hN)
      try replace hB9 := Lib.hid (hB9.out.grows hN)
      try replace hB12 := Lib.hid (hB12.out.grows hN)
      clear hN
      go_simp
      refine (cC.out _ hr.out).mono ?_
      rintro e w8 ⟨vc, rfl, hOc, hg8⟩
      replace hOc := Lib.hid (hOc.base_le (base' := w1.heap.size) hS.size)
      replace hr := Lib.hid (hr.out.keep hg8)
      try replace hB9 := Lib.hid (hB9.out.grows hg8)
      refine hK.out _ _ ?_ (fun hS => ?_)
      · exact Grows.trans (by assumption) hg8
      clear hg8
      clear hK hS
      refine wpAnyK_alt [9] (by kernel_rfl) (by simp) (fun wN hN hS => (AllReadyK.cons rfl (fun K' hK => ?_) AllReadyK.nil))
      try replace hr := Lib.hid (hr.out.keep hN)
      try replace hOc := Lib.hid (hOc.out.grows hN)
      try replace hO3 := Lib.hid (hO3.out.grows hN)
      try replace hB9 := Lib.hid (hB9.out.grows hN)
      try replace hB12 := Lib.hid (hB12.out.grows hN)
      clear hN
      go_simp
      refine hK.out _ _ ?_ (fun hS => ?_)
      · repeat (first | assumption | exact Grows.refl _ | apply Grows.drew | apply Grows.drewN | refine Grows.alloc ?_ _ | (refine Grows.setCell ?_ (by first | (simp; done) | (simp; omega) | omega) _) | (refine Grows.trans ?_ (by assumption)))
      have hB9 := Lib.hid (fresh_of hS)
      replace hr := Lib.hid (hr.out.keep ((Grows.refl _).alloc (.cells #[.int .u8 128] 5)))
      try replace hOc := Lib.hid (hOc.out.alloc (.cells #[.int .u8 128] 5))
      clear hK hS
      refine wpAnyK_alt [10] (by kernel_rfl) (by simp) (fun wN hN hS => (AllReadyK.cons rfl (fun K' hK => ?_) AllReadyK.nil))
      try replace hr := Lib.hid (hr.out.keep hN)
      try replace hOc := Lib.hid (hOc.out.grows hN)
      try replace hO3 := Lib.hid (hO3.out.grows hN)
      try replace hB9 := Lib.hid (hB9.out.grows hN)
      try replace hB12 := Lib.hid (hB12.out.grows hN)
      clear hN
      have hbs := hS.size
      refine Own.grownOpt T_bb rfl (.tmp 19) (.tmp 20) rfl hOc.out rfl rfl (Arr.one_byte hB9.out) hkB oneB hbs (by have := hn.out; unfold maxLen; omega) (by have := hn.out; omega) (fun v3 w4 hO3 hby3 hv3 => ?_)
      obtain ⟨A3, c3, hv3e, -, -, -⟩ := hO3.arr hkB
      generalize hL3 : (r ++ [128]).length = L3 at hv3e
      replace hL3 := Lib.hid hL3
      subst hv3e
      replace hO3 := Lib.hid hO3
      clear hv3
      go_simp
      refine hK.out _ _ ?_ (fun hS => ?_)
      · exact Grows.by_row (by assumption) hby3 hOc.out.block_ge
      clear hOc hB9 hbs hr hby3
      clear hK hS
      refine wpAnyK_run (l' := #[true, true, true, true, true, true, true, true, true, true, true, true, false, false]) [11] 2 up_grows (by kernel_rfl) (by intro c a d v w h; first | (cases d <;> exact h) | exact hQ0 _ _ _ _ _ h) rfl (by kernel_rfl) (by kernel_rfl) ?_
      iterate 1 (refine wpMixC_q rfl (fun K hK => ?_); go_simp; (try go_bits); first | (refine hK.out _ ?_; clear hK K) | (apply Exists.intro; refine ⟨fun wq hsq => ?_, hK.out _ ?_⟩; (first | (go_simp; done) | ((try go_simp); (try simp only [↓IntWalk.iteOmega]); (try go_bits); rfl) | (obtain ⟨hcq, hfq⟩ := bcells hsq; go_simp; done) | (obtain ⟨hcq, hfq⟩ := bcells hsq; (try go_simp); (try simp only [↓IntWalk.iteOmega]); (try go_bits); rfl)); clear hK K))
      refine wpMixC_nil ?_
      refine wpAnyK_alt [12] (by kernel_rfl) (by simp) (fun wN hN hS => (AllReadyK.cons rfl (fun K' hK => ?_) AllReadyK.nil))
      try replace hr := Lib.hid (hr.out.keep hN)
      try replace hOc := Lib.hid (hOc.out.grows hN)
      try replace hO3 := Lib.hid (hO3.out.grows hN)
      try replace hB9 := Lib.hid (hB9.out.grows hN)
      try replace hB12 := Lib.hid (hB12.out.grows hN)
      clear hN
      have hbs := hS.size
      go_simp
      refine hK.out _ _ ?_ (fun hS => ?_)
      · repeat (first | assumption | exact Grows.refl _ | apply Grows.drew | apply Grows.drewN | refine Grows.alloc ?_ _ | (refine Grows.setCell ?_ (by first | (simp; done) | (simp; omega) | omega) _) | (refine Grows.trans ?_ (by assumption)))
      have hB12 := Lib.hid (fresh_of hS)
      have hge := Lib.hid hbs
      clear hbs
      replace hO3 := Lib.hid (hO3.out.alloc (.cells #[.int .u32 (v.a : Int), .int .u32 (v.b : Int), .int .u32 (v.c : Int), .int .u32 (v.d : Int), .int .u32 (v.e : Int), .int .u32 (v.f : Int), .int .u32 (v.g : Int), .int .u32 (v.h : Int), .slice A3 L3 c3, .int .i64 0] 175))
      clear hK hS
      refine wpAnyK_run (l' := #[true, true, true, true, true, true, true, true, true, true, true, true, true, true]) [13] 0 up_grows (by kernel_rfl) (by intro c a d v w h; first | (cases d <;> exact h) | exact hQ0 _ _ _ _ _ h) rfl (by kernel_rfl) (by kernel_rfl) ?_
      iterate 1 (refine wpMixC_q rfl (fun K hK => ?_); go_simp; (try go_bits); first | (refine hK.out _ ?_; clear hK K) | (apply Exists.intro; refine ⟨fun wq hsq => ?_, hK.out _ ?_⟩; (first | (go_simp; done) | ((try go_simp); (try simp only [↓IntWalk.iteOmega]); (try go_bits); rfl) | (obtain ⟨hcq, hfq⟩ := bcells hsq; go_simp; done) | (obtain ⟨hcq, hfq⟩ := bcells hsq; (try go_simp); (try simp only [↓IntWalk.iteOmega]); (try go_bits); rfl)); clear hK K))
      refine wpMixC_nil ?_
      refine wpAnyK_end (by kernel_rfl) (fun wN hN hS => ?_)
      try replace hr := Lib.hid (hr.out.keep hN)
      try replace hOc := Lib.hid (hOc.out.grows hN)
      try replace hO3 := Lib.hid (hO3.out.grows hN)
      try replace hB9 := Lib.hid (hB9.out.grows hN)
      try replace hB12 := Lib.hid (hB12.out.grows hN)
      exact ⟨(by
        simp only [resetAll, List.foldl_cons, List.foldl_nil]
        go_simp
        try rfl
      ), _, _, rfl, hge.out, hB12.out, hO3.out, hS⟩
    · skip
      try replace hr := Lib.hid (hr.out.keep hN)
      try replace hOc := Lib.hid (hOc.out.grows hN)
      try replace hO3 := Lib.hid (hO3.out.grows hN)
      try replace hB9 := Lib.hid (hB9.out.grows hN)
      try replace hB12 := Lib.hid (hB12.out.grows hN)
      clear hN
      go_simp
      refine hK.out _ _ ?_ (fun hS => ?_)
      · repeat (first | assumption | exact Grows.refl _ | apply Grows.drew | apply Grows.drewN | refine Grows.alloc ?_ _ | (refine Grows.setCell ?_ (by first | (simp; done) | (simp; omega) | omega) _) | (refine Grows.trans ?_ (by assumption)))
      have hB9 := Lib.hid (fresh_of hS)
      replace hr := Lib.hid (hr.out.keep ((Grows.refl _).alloc (.cells #[.int .u8 128] 5)))
      try replace hOc := Lib.hid (hOc.out.alloc (.cells #[.int .u8 128] 5))
      clear hK hS
      refine wpAnyK_alt [8] (by kernel_rfl) (by simp) (fun wN hN hS => (AllReadyK.cons rfl (fun K' hK => ?_) AllReadyK.nil))
      try replace hr := Lib.hid (hr.out.keep hN)
      try replace hOc := Lib.hid (hOc.out.grows hN)
      try replace hO3 := Lib.hid (hO3.out.grows hN)
      try replace hB9 := Lib.hid (hB9.out.grows hN)
      try replace hB12 := Lib.hid (hB12.out.grows hN)
      clear hN
      go_simp
      refine (cC.out _ hr.out).mono ?_
      rintro e w8 ⟨vc, rfl, hOc, hg8⟩
      replace hOc := Lib.hid (hOc.base_le (base' := w1.heap.size) hS.size)
      replace hr := Lib.hid (hr.out.keep hg8)
      try replace hB9 := Lib.hid (hB9.out.grows hg8)
      refine hK.out _ _ ?_ (fun hS => ?_)
      · exact Grows.trans (by assumption) hg8
      clear hg8
      clear hK hS
      refine wpAnyK_alt [10] (by kernel_rfl) (by simp) (fun wN hN hS => (AllReadyK.cons rfl (fun K' hK => ?_) AllReadyK.nil))
      try replace hr := Lib.hid (hr.out.keep hN)
      try replace hOc := Lib.hid (hOc.out.grows hN)
      try replace hO3 := Lib.hid (hO3.out.grows hN)
      try replace hB9 := Lib.hid (hB9.out.grows hN)
      try replace hB12 := Lib.hid (hB12.out.grows hN)
      clear hN
      have hbs := hS.size
      refine Own.grownOpt T_bb rfl (.tmp 19) (.tmp 20) rfl hOc.out rfl rfl (Arr.one_byte hB9.out) hkB oneB hbs (by have := hn.out; unfold maxLen; omega) (by have := hn.out; omega) (fun v3 w4 hO3 hby3 hv3 => ?_)
      obtain ⟨A3, c3, hv3e, -, -, -⟩ := hO3.arr hkB
      generalize hL3 : (r ++ [128]).length = L3 at hv3e
      replace hL3 := Lib.hid hL3
      subst hv3e
      replace hO3 := Lib.hid hO3
      clear hv3
      go_simp
      refine hK.out _ _ ?_ (fun hS => ?_)
      · exact Grows.by_row (by assumption) hby3 hOc.out.block_ge
      clear hOc hB9 hbs hr hby3
      clear hK hS
      refine wpAnyK_run (l' := #[true, true, true, true, true, true, true, true, true, true, true, true, false, false]) [11] 2 up_grows (by kernel_rfl) (by intro c a d v w h; first | (cases d <;> exact h) | exact hQ0 _ _ _ _ _ h) rfl (by kernel_rfl) (by kernel_rfl) ?_
      iterate 1 (refine wpMixC_q rfl (fun K hK => ?_); go_simp; (try go_bits); first | (refine hK.out _ ?_; clear hK K) | (apply Exists.intro; refine ⟨fun wq hsq => ?_, hK.out _ ?_⟩; (first | (go_simp; done) | ((try go_simp); (try simp only [↓IntWalk.iteOmega]); (try go_bits); rfl) | (obtain ⟨hcq, hfq⟩ := bcells hsq; go_simp; done) | (obtain ⟨hcq, hfq⟩ := bcells hsq; (try go_simp); (try simp only [↓IntWalk.iteOmega]); (try go_bits); rfl)); clear hK K))
      refine wpMixC_nil ?_
      refine wpAnyK_alt [12] (by kernel_rfl) (by simp) (fun wN hN hS => (AllReadyK.cons rfl (fun K' hK => ?_) AllReadyK.nil))
      try replace hr := Lib.hid (hr.out.keep hN)
      try replace hOc := Lib.hid (hOc.out.grows hN)
      try replace hO3 := Lib.hid (hO3.out.grows hN)
      try replace hB9 := Lib.hid (hB9.out.grows hN)
      try replace hB12 := Lib.hid (hB12.out.grows hN)
      clear hN
      have hbs := hS.size
      go_simp
      refine hK.out _ _ ?_ (fun hS => ?_)
      · repeat (first | assumption | exact Grows.refl _ | apply Grows.drew | apply Grows.drewN | refine Grows.alloc ?_ _ | (refine Grows.setCell ?_ (by first | (simp; done) | (simp; omega) | omega) _) | (refine Grows.trans ?_ (by assumption)))
      have hB12 := Lib.hid (fresh_of hS)
      have hge := Lib.hid hbs
      clear hbs
      replace hO3 := Lib.hid (hO3.out.alloc (.cells #[.int .u32 (v.a : Int), .int .u32 (v.b : Int), .int .u32 (v.c : Int), .int .u32 (v.d : Int), .int .u32 (v.e : Int), .int .u32 (v.f : Int), .int .u32 (v.g : Int), .int .u32 (v.h : Int), .slice A3 L3 c3, .int .i64 0] 175))
      clear hK hS
      refine wpAnyK_run (l' := #[true, true, true, true, true, true, true, true, true, true, true, true, true, true]) [13] 0 up_grows (by kernel_rfl) (by intro c a d v w h; first | (cases d <;> exact h) | exact hQ0 _ _ _ _ _ h) rfl (by kernel_rfl) (by kernel_rfl) ?_
      iterate 1 (refine wpMixC_q rfl (fun K hK => ?_); go_simp; (try go_bits); first | (refine hK.out _ ?_; clear hK K) | (apply Exists.intro; refine ⟨fun wq hsq => ?_, hK.out _ ?_⟩; (first | (go_simp; done) | ((try go_simp); (try simp only [↓IntWalk.iteOmega]); (try go_bits); rfl) | (obtain ⟨hcq, hfq⟩ := bcells hsq; go_simp; done) | (obtain ⟨hcq, hfq⟩ := bcells hsq; (try go_simp); (try simp only [↓IntWalk.iteOmega]); (try go_bits); rfl)); clear hK K))
      refine wpMixC_nil ?_
      refine wpAnyK_end (by kernel_rfl) (fun wN hN hS => ?_)
      try replace hr := Lib.hid (hr.out.keep hN)
      try replace hOc := Lib.hid (hOc.out.grows hN)
      try replace hO3 := Lib.hid (hO3.out.grows hN)
      try replace hB9 := Lib.hid (hB9.out.grows hN)
      try replace hB12 := Lib.hid (hB12.out.grows hN)
      exact ⟨(by
        simp only [resetAll, List.foldl_cons, List.foldl_nil]
        go_simp
        try rfl
      ), _, _, rfl, hge.out, hB12.out, hO3.out, hS⟩
  intro f w3 hR
  obtain ⟨ge, rest, e3, hge, hE, hO, hG3⟩ := hR
  simp only [fillAll, List.foldl_cons, List.foldl_nil, e3]
  go_simp
  have hbw1 : w1.heap.size ≤ ge := hge
  replace hge := Lib.hid hge
  replace hE := Lib.hid hE
  replace hO := Lib.hid hO
  replace hG3 := Lib.hid hG3
  have hz : zeros N < 64 := by unfold zeros; omega
  go_wp2
  go_loopw [] (fun wr => ∃ (j : Nat) (rs : Value), j ≤ zeros N ∧ Hid (Blk wr ge 175 (sumC (eightL v) rs 0)) ∧ Hid (Own wr w1.heap.size 5 1 encB rs (r ++ [128] ++ List.replicate j 0)) ∧ Hid (Grows w1 wr)) (fun wr => 200 - restLen ge wr)
  case atStart => exact ⟨0, rest, by omega, hE, by simpa using hO, hG3⟩
  case round =>
    clear hE hO hG3 e3
    obtain ⟨j, rs, hj, hE, hO, hG⟩ := hrel
    obtain ⟨A1, c1, hrs, hnc, hcm, hAp, hown⟩ := hO.out.apart hE.out (by decide)
    have hLx : (r ++ [128] ++ List.replicate j 0).length = n + 1 + j := by have := hn.out; simp; omega
    rw [hLx] at hrs hnc hAp
    obtain ⟨L, hL⟩ : ∃ L, L = n + 1 + j := ⟨_, rfl⟩
    rw [← hL] at hrs hnc hAp hLx
    subst hrs
    have e8 : wr.cell? ⟨ge, 8, none⟩ = some (.slice A1 L c1) := hE.out.cell 8
    have z8 := hE.out.lt
    have hrl0 := Lib.hid (restLen_of (g := ge) e8)
    have hn2 := hn.out
    by_cases hlt : j < zeros N
    · have hmod : ¬ ((L : Int) % 64 = 56) := by unfold zeros at hlt; omega
      have hmod2 : ¬ (L % 64 = 56) := by unfold zeros at hlt; omega
      have hO1 := Lib.hid (hO.out.alloc (.cells #[.int .u8 0] 5))
      have hE1 := Lib.hid (hE.out.alloc (.cells #[.int .u8 0] 5))
      have hA1 := Lib.hid (Arr.one_byte (x := 0) (Blk.new wr 5 #[.int .u8 ((0 : Nat) : Int)]))
      have hG1x := Lib.hid (hG.out.alloc (.cells #[.int .u8 0] 5))
      have hbs := hG1x.out.size
      replace hown := Lib.hid hown
      have hLb : L ≤ 130 := by omega
      replace hL := Lib.hid hL
      replace hn2 := Lib.hid hn2
      replace hLx := hLx
      go_wp2_with (at_builtin; (refine wpList_grownOpt T_bb rfl (.tmp 35) (.tmp 36) rfl hO1.out rfl rfl hA1.out hkB oneB hbs (by unfold maxLen; simp only [hLx]; omega) (by simp only [hLx]; omega) ?_; intro v2 w2 hO2 hby2 hv2; clear hv2; (have hS2 := hE1.out.by_row hby2 (fun e => (hown.out ge e.symm).2 rfl)); (have h02 := hG1x.out.by_row hby2 (fun j hj => (hown.out j hj).1)); (obtain ⟨A2, c2, hv2e, hn2, hcm2, hB2, hown2⟩ := hO2.apart hS2 (by decide)); clear hn2 hcm2 hB2; (rw [List.length_append, hLx] at hv2e); (simp only [List.length_cons, List.length_nil, Nat.zero_add] at hv2e); subst hv2e; (have e8 := hS2.cell 8); (have f8 := hS2.frozen 8); (have z8 := hS2.lt); (have hby3 := grownBy_cell w2 ⟨ge, 8, none⟩ (.slice A2 (L + 1) c2)); (have hS3 := hS2.set_ 8 (.slice A2 (L + 1) c2)); (rw [sumC_rest] at hS3); (have hO3 := hO2.by_ hby3 (fun j hj => (hown2 j hj).2)); (have h03 := h02.by_then hby3 hge.out); (replace hS3 := Lib.hid hS3); (replace hO3 := Lib.hid hO3); (replace h03 := Lib.hid h03); clear hby3 hown2 h02 hS2 hby2 hO2 hO1 hA1 hE1 hG1x hown))
      have hrl3 := Lib.hid (restLen_of (g := ge) (A := A2) (n := L + 1) (c := c2) (hS3.out.cell 8))
      go_roundw
      case rel => exact ⟨j + 1, _, by omega, hS3, by
        rw [List.replicate_succ', ← List.append_assoc]
        exact hO3, h03⟩
      case measure => rw [hrl3.out, hrl0.out]; omega
    · have hjz : j = zeros N := by omega
      have hmod : (L : Int) % 64 = 56 := by unfold zeros at hjz; omega
      have hmod2 : L % 64 = 56 := by unfold zeros at hjz; omega
      have hLz := hL
      rw [hjz] at hLz
      subst hjz
      replace hL := Lib.hid hL
      replace hn2 := Lib.hid hn2
      clear hAp hown hLx hrl0
      have hcnt : wr.cell? ⟨g, 9, none⟩ = some (.int .i64 N) := ((hS.out.grows hG.out).cell 9)
      have zg := (hS.out.grows hG.out).lt
      have hN0 : 0 ≤ (N : Int) ∧ (N : Int) ≤ 1099511627776 := by omega
      have hN8 : (N : Int) % 18446744073709551616 * 8 % 18446744073709551616 = ((N * 8 : Nat) : Int) := by omega
      replace hLz := Lib.hid hLz
      clear hcm hnc
      go_wp2
      have hP0 : (r ++ [128] ++ List.replicate (zeros N) 0).length = L := by have := hLz.out; have := hn2.out; simp; omega
      generalize hP : r ++ [128] ++ List.replicate (zeros N) 0 = P0 at *
      replace hP := Lib.hid hP
      have hLb : L ≤ 130 := by have := hLz.out; have := hn2.out; omega
      go_loopw [46] (fun i wr => ∃ (k : Nat) (rs : Value), k ≤ 8 ∧ i = .int .i64 k ∧ Hid (Blk wr ge 175 (sumC (eightL v) rs 0)) ∧ Hid (Own wr w1.heap.size 5 1 encB rs (P0 ++ (be8 (N * 8)).take k)) ∧ Hid (Grows w1 wr)) (fun i _ => 8 - (intOf i).toNat)
      case atStart => exact ⟨0, _, by omega, rfl, hE, by simpa using hO, hG⟩
      case round =>
        clear hE hO hG e8 z8 hL hcnt zg hmod hmod2
        obtain ⟨k, rs, hk, rfl, hE, hO, hG⟩ := hrel
        obtain ⟨A1, c1, hrs, hnc, hcm, hAp, hown⟩ := hO.out.apart hE.out (by decide)
        have hLx : (P0 ++ (be8 (N * 8)).take k).length = L + k := by rw [List.length_append, hP0, List.length_take]; simp [be8]; omega
        rw [hLx] at hrs hnc hAp
        subst hrs
        clear hnc hcm hAp
        obtain ⟨Lk, hLk⟩ : ∃ Lk, Lk = L + k := ⟨_, rfl⟩
        rw [← hLk] at hO hE hown hLx
        have e8 : wr.cell? ⟨ge, 8, none⟩ = some (.slice A1 Lk c1) := hE.out.cell 8
        have z8 := hE.out.lt
        have hLkb : Lk ≤ 140 := by omega
        replace hLk := Lib.hid hLk
        replace hown := Lib.hid hown
        by_cases hlt : k < 8
        · have hk8 : (k : Int) < 8 := by omega
          have hval : (N : Int) * 8 / 2 ^ (56 - 8 * k) % 256 = ((N * 8 / 2 ^ (56 - 8 * k) % 256 : Nat) : Int) := by
            rw [Int.natCast_emod, Int.natCast_ediv, Int.natCast_mul, Int.natCast_pow]; rfl
          have htk : (be8 (N * 8)).take (k + 1) = (be8 (N * 8)).take k ++ [N * 8 / 2 ^ (56 - 8 * k) % 256] := by
            rw [List.take_add_one]
            simp [be8, hlt]
          generalize N * 8 / 2 ^ (56 - 8 * k) % 256 = X at *
          replace htk := Lib.hid htk
          generalize hrow : (Value.slice A1 Lk c1).ownBlock = row at *
          have hrn : some ge ≠ row := fun e => (hown.out ge e.symm).2 rfl
          have hrb : ∀ j, row = some j → w1.heap.size ≤ j := fun j hj => (hown.out j hj).1
          replace hrow := Lib.hid hrow
          replace hrb := Lib.hid hrb
          go_wp2_with fail
          refine wp_region_kg (row) (by kernel_rfl) ?_
          refine wpAnyK_run (l' := #[true, true, true, true, true, true, true, true, true, true, true, false, false, false, false, false]) [0, 1, 2, 3, 4, 5, 6, 7, 8, 9, 10] 5 up_grown (by kernel_rfl) (by intro c a d v w h; first | (cases d <;> exact h) | exact hQ0 _ _ _ _ _ h) rfl (by kernel_rfl) (by kernel_rfl) ?_
          iterate 11 (refine wpMixC_q rfl (fun K hK => ?_); go_simp; (try go_bits); first | (refine hK.out _ ?_; clear hK K) | (apply Exists.intro; refine ⟨fun wq hsq => ?_, hK.out _ ?_⟩; (first | (go_simp; done) | ((try go_simp); (try simp only [↓IntWalk.iteOmega]); (try go_bits); rfl) | (obtain ⟨hcq, hfq⟩ := bcellsG hsq; go_simp; done) | (obtain ⟨hcq, hfq⟩ := bcellsG hsq; (try go_simp); (try simp only [↓IntWalk.iteOmega]); (try go_bits); rfl)); clear hK K))
          refine wpMixC_nil ?_
          refine wpAnyK_alt [11] (by kernel_rfl) (by simp) (fun wN hN hS => (AllReadyK.cons rfl (fun K' hK => ?_) AllReadyK.nil))
          try replace hO := Lib.hid (hO.out.grows hN)
          try replace hE := Lib.hid (hE.out.grows hN)
          try replace hB9 := Lib.hid (hB9.out.grows hN)
          try replace hO3 := Lib.hid (hO3.out.grows hN)
          replace hG := Lib.hid (hG.out.trans hN)
          clear hN
          go_simp
          refine hK.out _ _ ?_ (fun hS => ?_)
          · exact grownBy_up (by assumption) ((Grows.refl _).alloc _)
          have hB9 := Lib.hid (Blk.new wN 5 #[.int .u8 (X : Int)])
          replace hO := Lib.hid (hO.out.alloc (.cells #[.int .u8 (X : Int)] 5))
          replace hE := Lib.hid (hE.out.alloc (.cells #[.int .u8 (X : Int)] 5))
          replace hG := Lib.hid (hG.out.alloc (.cells #[.int .u8 (X : Int)] 5))
          clear hK hS
          refine wpAnyK_alt [12] (by kernel_rfl) (by simp) (fun wN hN hS => (AllReadyK.cons rfl (fun K' hK => ?_) AllReadyK.nil))
          try replace hO := Lib.hid (hO.out.grows hN)
          try replace hE := Lib.hid (hE.out.grows hN)
          try replace hB9 := Lib.hid (hB9.out.grows hN)
          try replace hO3 := Lib.hid (hO3.out.grows hN)
          replace hG := Lib.hid (hG.out.trans hN)
          clear hN
          have hbs := hG.out.size
          refine Own.grownOpt T_bb rfl (.tmp 53) (.tmp 60) rfl hO.out rfl rfl (Arr.one_byte hB9.out) hkB oneB hbs (by unfold maxLen; simp only [hLx]; omega) (by simp only [hLx]; omega) (fun v3 w4 hO3 hby3 hv3 => ?_)
          rw [hrow.out] at hby3
          replace hE := Lib.hid (hE.out.by_row hby3 hrn)
          replace hG := Lib.hid (hG.out.by_row hby3 hrb.out)
          obtain ⟨A3, c3, hv3e, _, _, _, hown3⟩ := hO3.apart hE.out (by decide)
          rw [List.length_append, hLx] at hv3e
          simp only [List.length_cons, List.length_nil, Nat.zero_add] at hv3e
          subst hv3e
          have hO3 := Lib.hid hO3
          have hown3 := Lib.hid hown3
          clear hv3 hbs hO hB9
          go_simp
          refine hK.out _ _ ?_ (fun hS => ?_)
          · exact World.grownBy.trans (by assumption) hby3
          clear hby3
          clear hK hS
          refine wpAnyK_run (l' := #[true, true, true, true, true, true, true, true, true, true, true, true, true, true, true, false]) [13, 14] 1 up_grown (by kernel_rfl) (by intro c a d v w h; first | (cases d <;> exact h) | exact hQ0 _ _ _ _ _ h) rfl (by kernel_rfl) (by kernel_rfl) ?_
          iterate 2 (refine wpMixC_q rfl (fun K hK => ?_); go_simp; (try go_bits); first | (refine hK.out _ ?_; clear hK K) | (apply Exists.intro; refine ⟨fun wq hsq => ?_, hK.out _ ?_⟩; (first | (go_simp; done) | ((try go_simp); (try simp only [↓IntWalk.iteOmega]); (try go_bits); rfl) | (obtain ⟨hcq, hfq⟩ := bcellsG hsq; go_simp; done) | (obtain ⟨hcq, hfq⟩ := bcellsG hsq; (try go_simp); (try simp only [↓IntWalk.iteOmega]); (try go_bits); rfl)); clear hK K))
          refine wpMixC_nil ?_
          refine wpAnyK_last (i := 15) rfl (by kernel_rfl) (by kernel_rfl) (fun wN hN hS K' hK => ?_)
          try replace hO := Lib.hid (hO.out.grows hN)
          try replace hE := Lib.hid (hE.out.grows hN)
          try replace hB9 := Lib.hid (hB9.out.grows hN)
          try replace hO3 := Lib.hid (hO3.out.grows hN)
          replace hG := Lib.hid (hG.out.trans hN)
          clear hS
          have f8 := hE.out.frozen 8
          have y8 := hE.out.lt
          have g8 : wN.cell? ⟨ge, 8, none⟩ = some (.slice A1 Lk c1) := hE.out.cell 8
          have hS3 := hE.out.set_ 8 (.slice A3 (Lk + 1) c3)
          rw [sumC_rest] at hS3
          have hby4 := grownBy_cell wN ⟨ge, 8, none⟩ (.slice A3 (Lk + 1) c3)
          have hO4 := Lib.hid (hO3.out.by_ hby4 (fun j hj => (hown3.out j hj).2))
          have hG4 := Lib.hid (hG.out.by_then hby4 hge.out)
          replace hS3 := Lib.hid hS3
          clear hby4 hN
          go_simp
          refine hK.out _ _ ?_
          clear hK hE hO3 hown3 hG f8 y8 g8 e8 z8
          generalize wN.setCell ⟨ge, 8, none⟩ (.slice A3 (Lk + 1) c3) = w9 at *
          go_wp2
          go_roundw
          case rel => exact ⟨k + 1, _, by omega, by go_num, hS3, by
            rw [htk.out, ← List.append_assoc]
            exact hO4, hG4⟩
          case measure => simp [intOf]; omega
        · obtain rfl : k = 8 := by omega
          have hN64 : N * 8 % 18446744073709551616 = N * 8 := by omega
          have hpad : P0 ++ (be8 (N * 8)).take 8 = r ++ padOf N := by
            rw [List.take_of_length_le (by simp [be8]), ← hP.out]
            unfold padOf
            rw [hN64]
            simp
          have hO5 := hO.out
          rw [hpad] at hO5 hLx
          have hbx : ∀ x ∈ (r ++ padOf N) ++ [], x < 256 := by
            intro x hx
            rw [List.append_nil] at hx
            rcases List.mem_append.1 hx with h | h
            · exact hb.out x h
            · unfold padOf at h
              rcases List.mem_cons.1 h with h | h
              · omega
              · rcases List.mem_append.1 h with h | h
                · have := List.eq_of_mem_replicate h; omega
                · exact be8_byte _ x h
          have hlk2 := hLk.out
          have hlm := pad_len N
          have hlx2 : (r ++ padOf N).length % 64 = 0 := by rw [List.length_append]; omega
          have cAdd := add_any (W0 := w1) (ys := []) (m := 0) (A := none) (c := 0) hv.out wr hG.out hge.out hE.out hO5 ⟨Arr.nil_, fun _ h => by cases h⟩ hbx (by rw [hLx]; omega) (by omega) (by omega)
          rw [List.append_nil] at cAdd
          replace cAdd := Lib.hid cAdd
          generalize hXS : r ++ padOf N = XS at *
          replace hXS := Lib.hid hXS
          clear hpad hO5 hbx hlm hO hE hown hP hLx
          go_wp2_with fail
          refine (cAdd.out).mono ?_
          rintro e w5 ⟨q, A5, c5, rfl, hq1, hq2, hE5, -, -, -, hG5⟩
          obtain rfl : q = XS.length / 64 := by omega
          clear hq1 hq2 cAdd hG
          generalize hV : blocks (XS.length / 64) v XS = V at *
          replace hV := Lib.hid hV
          go_wp2
          refine named_alloc (Pr := fun W => Code.wp _ _ _ _ W) (fun w6 hB6 hG6 => ?_)
          replace hB6 : Blk w6 w5.heap.size 83 (u8s (List.replicate 32 0)) := hB6.cast (by kernel_rfl)
          obtain ⟨g6, hg6⟩ : ∃ g6, g6 = w5.heap.size := ⟨_, rfl⟩
          have hlt5 := hE5.lt
          rw [← hg6] at hB6 hlt5 ⊢
          have hg61 : w1.heap.size ≤ g6 := by rw [hg6]; exact hG5.size
          have hne6 : ge ≠ g6 := Nat.ne_of_lt hlt5
          have hE6 := Lib.hid (hE5.grows hG6)
          have hG7 := Lib.hid (hG5.trans hG6)
          clear hE5 hG5 hG6 hg6 hlt5
          replace hB6 := Lib.hid hB6
          replace hg61 := Lib.hid hg61
          replace hne6 := Lib.hid hne6
          have hDat := fun k hk => bytesV_at V (k := k) hk
          have hDl := bytesV_len V
          have hZl : (List.replicate 32 0 : List Nat).length = 32 := List.length_replicate
          generalize hD : bytesV V = D at *
          generalize (List.replicate 32 0 : List Nat) = Z at *
          have hln : D.length = Z.length := by omega
          have hzat : ∀ k, k < 32 → (D.take k ++ Z.drop k).length = 32 := fun k hk => by rw [turned_len hln (by omega)]; exact hDl
          have hB0 : Hid (Blk w6 g6 83 (u8s (D.take 0 ++ Z.drop 0))) := hB6
          replace hD := Lib.hid hD
          replace hDat := Lib.hid hDat
          replace hzat := Lib.hid hzat
          clear hB6
          go_loopw [67] (fun i wr => ∃ k : Nat, k ≤ 32 ∧ i = .int .i64 k ∧ Hid (Blk wr g6 83 (u8s (D.take k ++ Z.drop k))) ∧ Hid (Blk wr ge 175 (sumC (eightL V) (.slice A5 (XS.length - 64 * (XS.length / 64)) c5) (0 + ((0 : Nat) : Int)))) ∧ Hid (Grows w1 wr)) (fun i _ => 32 - (intOf i).toNat)
          case atStart => exact ⟨0, by omega, rfl, hB0, hE6, hG7⟩
          case round =>
            clear hB0 hE6 hG7
            obtain ⟨k, hk, rfl, hB, hE, hG⟩ := hrel
            by_cases hlt : k < 32
            · have hx := hDat.out k hlt
              have e1 := (hE.out.cell (k / 4)).trans (sumC_at (by rw [eightL_len]; omega))
              have z1 := hE.out.lt
              have z6 := hB.out.lt
              have f6 := hB.out.frozen k
              have e6 := (hB.out.cell k).trans (u8s_at (by rw [hzat.out k hlt]; exact hlt))
              have hset := turned_set hln (k := k) (by omega)
              have hSn := fun x => u8s_set (D.take k ++ Z.drop k) k x
              generalize (eightL V).getD (k / 4) 0 = W at *
              have hval : (W : Int) / 2 ^ (24 - 8 * (k % 4)) % 256 = ((D.getD k 0 : Nat) : Int) := by
                rw [hx, Int.natCast_emod, Int.natCast_ediv, Int.natCast_pow]; rfl
              generalize D.getD k 0 = X at *
              clear hx
              replace hset := Lib.hid hset
              replace hSn := Lib.hid hSn
              have hB2' := hB.out.set_ k (.int .u8 (X : Int))
              rw [hSn.out, hset.out] at hB2'
              have hE2' := hE.out.far (p := ⟨g6, k, none⟩) hne6.out (.int .u8 (X : Int))
              have hG2' := hG.out.setCell (p := ⟨g6, k, none⟩) hg61.out (.int .u8 (X : Int))
              replace hB2' := Lib.hid hB2'
              replace hE2' := Lib.hid hE2'
              replace hG2' := Lib.hid hG2'
              go_wp2
              go_roundw
              case rel => exact ⟨k + 1, by omega, by go_num, hB2', hE2', hG2'⟩
              case measure => simp [intOf]; omega
            · obtain rfl : k = 32 := by omega
              have hB7 := hB.out
              rw [List.take_of_length_le (by omega), List.drop_of_length_le (by omega), List.append_nil] at hB7
              have hB8 := hB2.out.grows hG.out
              have hG8 := hG1.out.trans hG.out
              have hle2 : w.heap.size ≤ g2 := Nat.le_of_eq hg2.out.symm
              have hGf := hG8.by_then (grownBy_setRow wr g2 (u8s D)) hle2
              have hRf := setRow_heap wr g2 _ (u8s D) _ _ hB8
              have hsz : (u8s D).size = 32 := by rw [u8s_size]; exact hDl
              have hDsz : (Tryz.prog.info? 83).map (·.size) = some (u8s D).size := by rw [hsz]; kernel_rfl
              have hold : (u8s Z).size = (u8s D).size := by rw [hsz, u8s_size]; omega
              have h1 := u8s_one D
              replace hB7 := Lib.hid hB7
              replace hB8 := Lib.hid hB8
              replace hGf := Lib.hid hGf
              replace hRf := Lib.hid hRf
              replace hDsz := Lib.hid hDsz
              replace hold := Lib.hid hold
              replace h1 := Lib.hid h1
              replace hsz := Lib.hid hsz
              go_wp2_with (first | (refine wpList_load_row rfl 83 (.tmp 6) rfl g6 rfl 83 (u8s D) (0, 0) _ hB7.out Tryz.underlying83 rfl hDsz.out ?_) | (refine wpList_store_row rfl 83 (.tmp 2) (.tmp 86) rfl g2 (u8s D) rfl rfl 83 _ hB8.out hDsz.out hold.out h1.out ?_))
              rw [hXS.out, hV.out, hD.out]
              exact bodyPost_ret (v := .agg (u8s D)) (results_cell_row (p := 2) (ty := 83) (by kernel_rfl) _ _ g2 83 (u8s D) (0, 0) _ rfl hRf.out Tryz.underlying83 rfl hDsz.out) rfl ⟨rfl, hGf.out⟩
end Go.Proofs.YtfoffneipdkdjaaGreatDoor
