/- Parts: MatA MatB MatC MatD RliP RLiA RLiv -/
import Derived.Test.YtfoffneipdkdjaaGreatDoorBs19
import Derived.Test.YtfoffneipdkdjaaGreatDoorBs5
import Derived.Test.YtfoffneipdkdjaaGreatDoorBs9
import Derived.Test.YtfoffneipdkdjaaGreatDoorBs12
import Derived.Test.YtfoffneipdkdjaaGreatDoorBs13
import Derived.Test.YtfoffneipdkdjaaGreatDoorBs3
namespace Go.Proofs.YtfoffneipdkdjaaGreatDoor
open Go.RowKit

def fineM (x : Mat) : Bool := nameB x.n && decide (0 ≤ x.op) && decide (x.op ≤ 3) && decide (x.v.length ≤ 200) && (decide (x.op < 2) || decide (patErr x.v = 0))
set_option maxRecDepth 100000 in
set_option maxHeartbeats 1600000 in
theorem fine_any (x : Mat) : FineOK fineM x := by
  intro w
  obtain ⟨R, hR⟩ : ∃ R, R = fineM x := ⟨_, rfl⟩
  rw [← hR]
  obtain ⟨n, op, v⟩ := x
  have cN := Lib.hid (fun W => name_any1 n W)
  have cR := Lib.hid (fun W => right_any W v)
  unfold fineM at hR
  simp only at hR
  unfold valM
  simp only
  cases hn : nameB n with
  | false =>
    rw [hn] at cN hR
    have hfin : Hid (R = false) := Lib.hid (by rw [hR]; rfl)
    clear hR cR hn
    go_enter Tryz.func109, Tryz.ntmps109
    go_wp2_with fail
    refine (cN.out _).mono ?_
    rintro e w1 ⟨rfl, hg⟩
    go_wp2
    go_ret
    exact ⟨by rw [hfin.out]; rfl, ((Grows.refl w).alloc _).trans hg⟩
  | true =>
    rw [hn] at cN hR
    by_cases h0 : op < 0
    · have hfin : Hid (R = false) := Lib.hid (by rw [hR]; simp [show ¬ 0 ≤ op by omega])
      clear hR cR hn
      go_enter Tryz.func109, Tryz.ntmps109
      go_wp2_with fail
      refine (cN.out _).mono ?_
      rintro e w1 ⟨rfl, hg⟩
      have hB := (Blk.new w 147 #[.string ⟨n.toArray⟩, .int .i64 op, .string ⟨v.toArray⟩]).grows hg
      have d1 : w1.cell? ⟨w.heap.size, 1, none⟩ = some (.int .i64 op) := hB.cell 1
      have dl := hB.lt
      go_wp2
      go_ret
      exact ⟨by rw [hfin.out]; rfl, ((Grows.refl w).alloc _).trans hg⟩
    · by_cases h3 : 3 < op
      · have hfin : Hid (R = false) := Lib.hid (by rw [hR]; simp [show ¬ op ≤ 3 by omega])
        clear hR cR hn
        go_enter Tryz.func109, Tryz.ntmps109
        go_wp2_with fail
        refine (cN.out _).mono ?_
        rintro e w1 ⟨rfl, hg⟩
        have hB := (Blk.new w 147 #[.string ⟨n.toArray⟩, .int .i64 op, .string ⟨v.toArray⟩]).grows hg
        have d1 : w1.cell? ⟨w.heap.size, 1, none⟩ = some (.int .i64 op) := hB.cell 1
        have d2 : w1.cell? ⟨w.heap.size, 2, none⟩ = some (.string ⟨v.toArray⟩) := hB.cell 2
        have dl := hB.lt
        clear hB
        go_wp2
        go_ret
        exact ⟨by rw [hfin.out]; rfl, ((Grows.refl w).alloc _).trans hg⟩
      · by_cases hl : 200 < v.length
        · have hfin : Hid (R = false) := Lib.hid (by rw [hR]; simp [show ¬ v.length ≤ 200 by omega])
          have hli : (200 : Int) < (v.length : Int) := by omega
          clear hR cR hn
          go_enter Tryz.func109, Tryz.ntmps109
          go_wp2_with fail
          refine (cN.out _).mono ?_
          rintro e w1 ⟨rfl, hg⟩
          have hB := (Blk.new w 147 #[.string ⟨n.toArray⟩, .int .i64 op, .string ⟨v.toArray⟩]).grows hg
          have d1 : w1.cell? ⟨w.heap.size, 1, none⟩ = some (.int .i64 op) := hB.cell 1
          have d2 : w1.cell? ⟨w.heap.size, 2, none⟩ = some (.string ⟨v.toArray⟩) := hB.cell 2
          have dl := hB.lt
          clear hB
          go_wp2
          go_ret
          exact ⟨by rw [hfin.out]; rfl, ((Grows.refl w).alloc _).trans hg⟩
        · have hli : ¬ (200 : Int) < (v.length : Int) := by omega
          by_cases h2 : op < 2
          · have hfin : Hid (R = true) := Lib.hid (by rw [hR]; simp [h2, show 0 ≤ op by omega, show op ≤ 3 by omega, show v.length ≤ 200 by omega])
            clear hR cR hn
            go_enter Tryz.func109, Tryz.ntmps109
            go_wp2_with fail
            refine (cN.out _).mono ?_
            rintro e w1 ⟨rfl, hg⟩
            have hB := (Blk.new w 147 #[.string ⟨n.toArray⟩, .int .i64 op, .string ⟨v.toArray⟩]).grows hg
            have d1 : w1.cell? ⟨w.heap.size, 1, none⟩ = some (.int .i64 op) := hB.cell 1
            have d2 : w1.cell? ⟨w.heap.size, 2, none⟩ = some (.string ⟨v.toArray⟩) := hB.cell 2
            have dl := hB.lt
            clear hB
            go_wp2
            go_ret
            exact ⟨by rw [hfin.out]; rfl, ((Grows.refl w).alloc _).trans hg⟩
          · have hfin : Hid (R = decide (patErr v = 0)) := Lib.hid (by rw [hR]; simp [h2, show 0 ≤ op by omega, show op ≤ 3 by omega, show v.length ≤ 200 by omega])
            clear hR hn
            generalize patErr v = pe at *
            go_enter Tryz.func109, Tryz.ntmps109
            go_wp2_with fail
            refine (cN.out _).mono ?_
            rintro e w1 ⟨rfl, hg⟩
            have hB := (Blk.new w 147 #[.string ⟨n.toArray⟩, .int .i64 op, .string ⟨v.toArray⟩]).grows hg
            have d1 : w1.cell? ⟨w.heap.size, 1, none⟩ = some (.int .i64 op) := hB.cell 1
            have d2 : w1.cell? ⟨w.heap.size, 2, none⟩ = some (.string ⟨v.toArray⟩) := hB.cell 2
            have dl := hB.lt
            clear hB
            go_wp2_with fail
            refine (cR.out _).mono ?_
            rintro e w2 ⟨rfl, hg2⟩
            have hpd : ((pe : Int) == 0) = decide (pe = 0) := by
              rw [Bool.eq_iff_iff, beq_iff_eq, decide_eq_true_eq]; omega
            replace hpd := Lib.hid hpd
            go_wp2
            go_ret
            refine ⟨?_, (((Grows.refl w).alloc _).trans hg).trans hg2⟩
            rw [hfin.out]
            exact ret_bool (by rw [show decide (op < 2) = false from decide_eq_false (by omega), Bool.false_or, hpd.out])
end Go.Proofs.YtfoffneipdkdjaaGreatDoor
namespace Go.Proofs.YtfoffneipdkdjaaGreatDoor
open Go.RowKit

def valueP (l : List Fld) (n : List UInt8) : List UInt8 := match l.find? (fun f => f.n == n) with
  | some f => f.v
  | none => []
set_option maxRecDepth 100000 in
theorem valC_any {n : List UInt8} {g : Nat} (w : World) (hc : w.cell? ⟨g, 0, none⟩ = some (.string ⟨n.toArray⟩)) (x : Fld) :
    Calls Tryz.prog 151 #[valF x, .pointer (some ⟨g, 0, none⟩)] w fun e w' => e = .returned (.bool (x.n == n)) ∧ Grows w w' := by
  have hl := World.block_lt_of_cell? w _ hc
  simp only at hl
  obtain ⟨xn, xv⟩ := x
  unfold valF
  simp only
  generalize hx : (xn == n) = B at *
  cases B with
  | true =>
    go_enter Tryz.func151, Tryz.ntmps151
    go_wp2
    go_ret
    exact ⟨rfl, (Grows.refl w).alloc _⟩
  | false =>
    go_enter Tryz.func151, Tryz.ntmps151
    go_wp2
    go_ret
    exact ⟨rfl, (Grows.refl w).alloc _⟩
theorem find_place {α : Type} (p : α → Bool) (l : List α) : (placeOf p l = -1 ∧ l.find? p = none) ∨ ∃ (i : Nat) (x : α), placeOf p l = (i : Int) ∧ l[i]? = some x ∧ l.find? p = some x := by
  unfold placeOf
  cases h : l.findIdx? p with
  | none =>
    left
    refine ⟨rfl, ?_⟩
    rw [List.find?_eq_none]
    intro x hx
    have := List.findIdx?_eq_none_iff.1 h x hx
    simp [this]
  | some i =>
    right
    obtain ⟨h1, h2, h3⟩ := List.findIdx?_eq_some_iff_getElem.1 h
    refine ⟨i, l[i], rfl, List.getElem?_eq_getElem h1, ?_⟩
    rw [List.find?_eq_some_iff_getElem]
    exact ⟨h2, i, h1, rfl, fun j hj => by simpa using h3 j hj⟩
set_option maxRecDepth 100000 in
set_option maxHeartbeats 1600000 in
theorem value_any {A : Option Addr} {m c : Nat} {l : List Fld} (w : World) (hA : Arr w 2 encF A m l) (hm : m ≤ 9223372036854775807) (n : List UInt8) :
    Calls Tryz.prog 139 #[.slice A m c, .string ⟨n.toArray⟩] w fun e w' => e = .returned (.string ⟨(valueP l n).toArray⟩) ∧ Grows w w' := by
  have cC := fun (W : World) (hW : Grows w W) (hc : W.cell? ⟨w.heap.size, 0, none⟩ = some (.string ⟨n.toArray⟩)) => idxF_any 151 #[.pointer (some ⟨w.heap.size, 0, none⟩)] (enters_of Tryz.func151 (by kernel_rfl) rfl) (fun f => f.n == n) A m c l W (hA.keep hW) hm (fun x _ W' hW' => valC_any W' (hW'.cell hc) x)
  replace cC := Lib.hid cC
  have hml := hA.1
  obtain ⟨R, hR⟩ : ∃ R, R = valueP l n := ⟨_, rfl⟩
  rw [← hR]
  unfold valueP at hR
  rcases find_place (fun f : Fld => f.n == n) l with ⟨h1, h2⟩ | ⟨i, x, h1, h2, h3⟩
  · rw [h2] at hR
    simp only at hR
    subst hR
    rw [h1] at cC
    clear h1 h2 hA
    go_enter Tryz.func139, Tryz.ntmps139
    go_wp2_with fail
    refine (cC.out _ (by
      repeat (first | assumption | exact Grows.refl _ | apply Grows.drew | apply Grows.drewN | refine Grows.alloc ?_ _ | (refine Grows.setCell ?_ (by first | (simp; done) | (simp; omega) | omega) _) | (refine Grows.trans ?_ (by assumption)))
    ) ((Blk.new w _ _).cell 0)).mono ?_
    rintro e w1 ⟨rfl, hb⟩
    have hG : Grows w w1 := ((Grows.refl w).alloc _).trans hb
    go_wp2
    go_ret
    exact ⟨rfl, hG⟩
  · rw [h3] at hR
    simp only at hR
    rw [h1] at cC
    have hi : i < m := by rw [← hml]; exact (List.getElem?_eq_some_iff.1 h2).1
    obtain ⟨bb, off, x', rfl, hs0, hx', hcell⟩ := hA.at_ hi
    rw [h2] at hx'
    injection hx' with hx'
    subst hx'
    have c1 : w.cell? ⟨bb, off + i * 2 + 1, none⟩ = some (.string ⟨x.v.toArray⟩) := hcell 1 _ rfl
    have hii : (i : Int) < (m : Int) := by omega
    rw [← hR] at c1
    replace c1 := Lib.hid c1
    clear h1 h2 h3 hcell hA hR
    go_enter Tryz.func139, Tryz.ntmps139
    go_wp2_with fail
    refine (cC.out _ (by
      repeat (first | assumption | exact Grows.refl _ | apply Grows.drew | apply Grows.drewN | refine Grows.alloc ?_ _ | (refine Grows.setCell ?_ (by first | (simp; done) | (simp; omega) | omega) _) | (refine Grows.trans ?_ (by assumption)))
    ) ((Blk.new w _ _).cell 0)).mono ?_
    rintro e w1 ⟨rfl, hb⟩
    have hG : Grows w w1 := ((Grows.refl w).alloc _).trans hb
    have d1 := hG.cell c1.out
    go_wp2
    go_ret
    exact ⟨rfl, hG⟩
end Go.Proofs.YtfoffneipdkdjaaGreatDoor
namespace Go.Proofs.YtfoffneipdkdjaaGreatDoor
open Go.RowKit

def fitsM (l : List Fld) (x : Mat) : Bool := fineM x && (if x.op = 0 then valueP l x.n == x.v else if x.op = 1 then !(valueP l x.n == x.v) else if x.op = 2 then fitsPat x.v (valueP l x.n) else !fitsPat x.v (valueP l x.n))
theorem valueP_len {l : List Fld} {n : List UInt8} (h : ∀ f ∈ l, f.v.length ≤ 1000000) : (valueP l n).length ≤ 1000000 := by
  unfold valueP
  split
  · rename_i f hf
    exact h f (List.mem_of_find?_eq_some hf)
  · simp
set_option maxRecDepth 100000 in
theorem is_any (a b : List UInt8) (w : World) : Calls Tryz.prog 136 #[.string ⟨a.toArray⟩, .string ⟨b.toArray⟩] w fun e w' => e = .returned (.bool (b == a)) ∧ Grows w w' := by
  generalize hx : (b == a) = B
  cases B with
  | true =>
    go_enter Tryz.func136, Tryz.ntmps136
    go_wp2
    go_ret
    exact ⟨rfl, Grows.refl w⟩
  | false =>
    go_enter Tryz.func136, Tryz.ntmps136
    go_wp2
    go_ret
    exact ⟨rfl, Grows.refl w⟩
set_option maxRecDepth 100000 in
theorem notC_any {fn : FuncId} {R : Bool} {a b : List UInt8} {g : Nat} (w : World) (eg : Enters Tryz.prog fn) (hc : w.cell? ⟨g, 0, none⟩ = some (.func (.func fn) #[] #[])) (hf : ∀ W, Calls Tryz.prog fn #[.string ⟨a.toArray⟩, .string ⟨b.toArray⟩] W fun e w' => e = .returned (.bool R) ∧ Grows W w') :
    Calls Tryz.prog 149 #[.string ⟨a.toArray⟩, .string ⟨b.toArray⟩, .pointer (some ⟨g, 0, none⟩)] w fun e w' => e = .returned (.bool (!R)) ∧ Grows w w' := by
  unfold Enters at eg
  have hl := World.block_lt_of_cell? w _ hc
  simp only at hl
  replace hf := Lib.hid hf
  go_enter Tryz.func149, Tryz.ntmps149
  go_wp2_with fail
  refine (hf.out _).mono ?_
  rintro e w1 ⟨rfl, hb⟩
  go_wp2
  go_ret
  exact ⟨ret_bool rfl, hb⟩
theorem not_any (fn : FuncId) (w : World) : Calls Tryz.prog 137 #[.func (.func fn) #[] #[]] w fun e w' => e = .returned (.func (.func 149) #[] #[.pointer (some ⟨w.heap.size, 0, none⟩)]) ∧ w' = w.alloc (.cells #[.func (.func fn) #[] #[]] 114) := by
  have hmf : ∀ (fn : Fn) (first cap : Array Value) (w : World), (Instr.makeFunc fn first cap).run Tryz.prog w = .ok (.func fn first cap) w := fun _ _ _ _ => rfl
  go_enter Tryz.func137, Tryz.ntmps137
  go_wp2
  go_ret
  exact ⟨rfl, rfl⟩
set_option maxRecDepth 100000 in
set_option maxHeartbeats 3200000 in
theorem mfits_any (x : Mat) : FitsOKs fitsM x := by
  intro A m c l w hA hm hT
  obtain ⟨n, op, v⟩ := x
  have cFi := Lib.hid (fine_any ⟨n, op, v⟩)
  have cV := Lib.hid (fun W (hW : Grows w W) => value_any (c := c) W (hA.keep hW) hm n)
  have cP := Lib.hid (fun W => fits2_any W v (valueP l n) (valueP_len hT))
  have cI := Lib.hid (fun W => is_any v (valueP l n) W)
  obtain ⟨R, hR⟩ : ∃ R, R = fitsM l ⟨n, op, v⟩ := ⟨_, rfl⟩
  rw [← hR]
  unfold fitsM at hR
  simp only at hR
  have hop : fineM ⟨n, op, v⟩ = true → op = 0 ∨ op = 1 ∨ op = 2 ∨ op = 3 := fun h => by
    unfold fineM at h
    simp only [Bool.and_eq_true, decide_eq_true_eq] at h
    omega
  have hFi := cFi.out
  unfold FineOK valM at hFi
  simp only at hFi
  generalize fineM ⟨n, op, v⟩ = FB at *
  generalize valueP l n = vv at *
  generalize fitsPat v vv = fp at *
  unfold valM
  simp only
  clear hT hA
  go_enter Tryz.func118, Tryz.ntmps118
  go_wp2_with fail
  refine (not_any 136 _).mono ?_
  rintro e w1 ⟨rfl, hw1⟩
  have hX1 := (Blk.new w 147 #[.string ⟨n.toArray⟩, .int .i64 op, .string ⟨v.toArray⟩]).alloc (.cells #[.func (.func 136) #[] #[]] 114)
  have hI1 := Blk.new (w.alloc (.cells #[.string ⟨n.toArray⟩, .int .i64 op, .string ⟨v.toArray⟩] 147)) 114 #[.func (.func 136) #[] #[]]
  have hG1 : Grows w w1 := by rw [hw1]; exact ((Grows.refl w).alloc _).alloc _
  rw [← hw1] at hX1 hI1
  clear hw1
  generalize (w.alloc (.cells #[.string ⟨n.toArray⟩, .int .i64 op, .string ⟨v.toArray⟩] 147)).heap.size = gI at *
  replace hX1 := Lib.hid hX1
  replace hI1 := Lib.hid hI1
  replace hG1 := Lib.hid hG1
  go_wp2_with fail
  refine (not_any 138 _).mono ?_
  rintro e w2 ⟨rfl, hw2⟩
  have hF2 := Blk.new w1 114 #[.func (.func 138) #[] #[]]
  have hg2 : Grows w1 w2 := by rw [hw2]; exact (Grows.refl w1).alloc _
  rw [← hw2] at hF2
  clear hw2
  replace hX1 := Lib.hid (hX1.out.grows hg2)
  replace hI1 := Lib.hid (hI1.out.grows hg2)
  replace hG1 := Lib.hid (hG1.out.trans hg2)
  replace hF2 := Lib.hid hF2
  clear hg2
  generalize w1.heap.size = gF at *
  generalize w.heap.size = gX at *
  obtain ⟨ops, hops⟩ : ∃ ops : Array Value, ops = #[.func (.func 136) #[] #[], .func (.func 149) #[] #[.pointer (some ⟨gI, 0, none⟩)], .func (.func 138) #[] #[], .func (.func 149) #[] #[.pointer (some ⟨gF, 0, none⟩)]] := ⟨_, rfl⟩
  go_wp2_with (with_reducible show wpList _ _ _ _ _ _; refine wpList_store_row rfl 182 (.tmp 5) (.tmp 8) rfl w2.heap.size #[.func (.func 136) #[] #[], .func (.func 149) #[] #[.pointer (some ⟨gI, 0, none⟩)], .func (.func 138) #[] #[], .func (.func 149) #[] #[.pointer (some ⟨gF, 0, none⟩)]] rfl rfl 182 #[.nilFunc, .nilFunc, .nilFunc, .nilFunc] (heap_alloc_new w2 (.cells #[.nilFunc, .nilFunc, .nilFunc, .nilFunc] 182)) (by kernel_rfl) rfl (by simp [Value.oneCell']) ?_; rw [World.setRow_alloc_new])
  have hO3 := Blk.new w2 182 #[.func (.func 136) #[] #[], .func (.func 149) #[] #[.pointer (some ⟨gI, 0, none⟩)], .func (.func 138) #[] #[], .func (.func 149) #[] #[.pointer (some ⟨gF, 0, none⟩)]]
  have hg3 : Grows w2 (w2.alloc (.cells #[.func (.func 136) #[] #[], .func (.func 149) #[] #[.pointer (some ⟨gI, 0, none⟩)], .func (.func 138) #[] #[], .func (.func 149) #[] #[.pointer (some ⟨gF, 0, none⟩)]] 182)) := (Grows.refl _).alloc _
  replace hX1 := Lib.hid (hX1.out.grows hg3)
  replace hI1 := Lib.hid (hI1.out.grows hg3)
  replace hG1 := Lib.hid (hG1.out.trans hg3)
  replace hF2 := Lib.hid (hF2.out.grows hg3)
  clear hg3 hops ops
  generalize w2.alloc (.cells #[.func (.func 136) #[] #[], .func (.func 149) #[] #[.pointer (some ⟨gI, 0, none⟩)], .func (.func 138) #[] #[], .func (.func 149) #[] #[.pointer (some ⟨gF, 0, none⟩)]] 182) = w3 at *
  generalize w2.heap.size = gO at *
  have x0 : w3.cell? ⟨gX, 0, none⟩ = some (.string ⟨n.toArray⟩) := hX1.out.cell 0
  have x1 : w3.cell? ⟨gX, 1, none⟩ = some (.int .i64 op) := hX1.out.cell 1
  have x2 : w3.cell? ⟨gX, 2, none⟩ = some (.string ⟨v.toArray⟩) := hX1.out.cell 2
  have xl := hX1.out.lt
  have o0 : w3.cell? ⟨gO, 0, none⟩ = some (.func (.func 136) #[] #[]) := hO3.cell 0
  have o1 : w3.cell? ⟨gO, 1, none⟩ = some (.func (.func 149) #[] #[.pointer (some ⟨gI, 0, none⟩)]) := hO3.cell 1
  have o2 : w3.cell? ⟨gO, 2, none⟩ = some (.func (.func 138) #[] #[]) := hO3.cell 2
  have o3 : w3.cell? ⟨gO, 3, none⟩ = some (.func (.func 149) #[] #[.pointer (some ⟨gF, 0, none⟩)]) := hO3.cell 3
  have ol := hO3.lt
  have eI : Enters Tryz.prog 136 := enters_of Tryz.func136 (by kernel_rfl) rfl
  have eF : Enters Tryz.prog 138 := enters_of Tryz.func138 (by kernel_rfl) rfl
  have eN : Enters Tryz.prog 149 := enters_of Tryz.func149 (by kernel_rfl) rfl
  have cN1 := Lib.hid (fun W (hW : Grows w3 W) => notC_any (fn := 136) (R := vv == v) (a := v) (b := vv) W eI ((hI1.out.grows hW).cell 0) cI.out)
  have cN3 := Lib.hid (fun W (hW : Grows w3 W) => notC_any (fn := 138) (R := fp) (a := v) (b := vv) W eF ((hF2.out.grows hW).cell 0) cP.out)
  have cV3 := Lib.hid (fun W (hW : Grows w3 W) => cV.out W (hG1.out.trans hW))
  replace hFi := Lib.hid hFi
  unfold Enters at eI eF eN
  clear cV cFi hO3 hX1 hI1 hF2
  generalize hvb : (vv == v) = vb at *
  replace hvb := Lib.hid hvb
  cases FB with
  | false =>
    have hR2 : Hid (R = false) := Lib.hid (by rw [hR]; rfl)
    clear hop hR
    refine wp_region_k (by kernel_rfl) ?_
    refine wpAnyK_run (l' := #[true, true, true, true, true, true, true, true, true, true, true, true, true, true, true, true]) [0, 1, 2, 3, 4, 5, 6, 7, 8, 9, 10, 11, 12, 13, 14, 15] 0 up_grows (by kernel_rfl) (by intro c a d v w h; first | (cases d <;> exact h) | exact hQ0 _ _ _ _ _ h) rfl (by kernel_rfl) (by kernel_rfl) ?_
    iterate 1 (refine wpMixC_q rfl (fun K hK => ?_); go_simp; (try go_bits); first | (refine hK.out _ ?_; clear hK K) | (apply Exists.intro; refine ⟨fun wq hsq => ?_, hK.out _ ?_⟩; (first | (go_simp; done) | ((try go_simp); (try simp only [↓IntWalk.iteOmega]); (try go_bits); rfl) | (obtain ⟨hcq, hfq⟩ := bcells hsq; go_simp; done) | (obtain ⟨hcq, hfq⟩ := bcells hsq; (try go_simp); (try simp only [↓IntWalk.iteOmega]); (try go_bits); rfl)); clear hK K))
    refine wpMixC_c (.bool false) rfl (by first | rfl | (go_simp; done)) (fun wq hsq => ?_) ?_
    · obtain ⟨hcq, hfq⟩ := bcells hsq
      go_simp
      exact Calls.mono (hFi.out wq) (fun e w'' h => h)
    go_simp
    iterate 10 (refine wpMixC_q rfl (fun K hK => ?_); go_simp; (try go_bits); first | (refine hK.out _ ?_; clear hK K) | (apply Exists.intro; refine ⟨fun wq hsq => ?_, hK.out _ ?_⟩; (first | (go_simp; done) | ((try go_simp); (try simp only [↓IntWalk.iteOmega]); (try go_bits); rfl) | (obtain ⟨hcq, hfq⟩ := bcells hsq; go_simp; done) | (obtain ⟨hcq, hfq⟩ := bcells hsq; (try go_simp); (try simp only [↓IntWalk.iteOmega]); (try go_bits); rfl)); clear hK K))
    refine wpMixC_off rfl (by first | rfl | (go_simp; done)) ?_
    go_simp
    refine wpMixC_off rfl (by first | rfl | (go_simp; done)) ?_
    go_simp
    iterate 2 (refine wpMixC_q rfl (fun K hK => ?_); go_simp; (try go_bits); first | (refine hK.out _ ?_; clear hK K) | (apply Exists.intro; refine ⟨fun wq hsq => ?_, hK.out _ ?_⟩; (first | (go_simp; done) | ((try go_simp); (try simp only [↓IntWalk.iteOmega]); (try go_bits); rfl) | (obtain ⟨hcq, hfq⟩ := bcells hsq; go_simp; done) | (obtain ⟨hcq, hfq⟩ := bcells hsq; (try go_simp); (try simp only [↓IntWalk.iteOmega]); (try go_bits); rfl)); clear hK K))
    refine wpMixC_nil ?_
    refine wpAnyK_end (by kernel_rfl) (fun wN hN hS => ?_)
    go_wp2
    go_ret
    exact ⟨by rw [hR2.out]; rfl, hG1.out.trans hN⟩
  | true =>
    rcases hop rfl with rfl | rfl | rfl | rfl
    · have hR2 : Hid (R = vb) := Lib.hid (by rw [hR]; rfl)
      clear hop hR
      refine wp_region_k (by kernel_rfl) ?_
      refine wpAnyK_run (l' := #[true, true, true, true, true, true, true, true, true, true, true, true, true, true, true, true]) [0, 1, 2, 3, 4, 5, 6, 7, 8, 9, 10, 11, 12, 13, 14, 15] 0 up_grows (by kernel_rfl) (by intro c a d v w h; first | (cases d <;> exact h) | exact hQ0 _ _ _ _ _ h) rfl (by kernel_rfl) (by kernel_rfl) ?_
      iterate 1 (refine wpMixC_q rfl (fun K hK => ?_); go_simp; (try go_bits); first | (refine hK.out _ ?_; clear hK K) | (apply Exists.intro; refine ⟨fun wq hsq => ?_, hK.out _ ?_⟩; (first | (go_simp; done) | ((try go_simp); (try simp only [↓IntWalk.iteOmega]); (try go_bits); rfl) | (obtain ⟨hcq, hfq⟩ := bcells hsq; go_simp; done) | (obtain ⟨hcq, hfq⟩ := bcells hsq; (try go_simp); (try simp only [↓IntWalk.iteOmega]); (try go_bits); rfl)); clear hK K))
      refine wpMixC_c (.bool true) rfl (by first | rfl | (go_simp; done)) (fun wq hsq => ?_) ?_
      · obtain ⟨hcq, hfq⟩ := bcells hsq
        go_simp
        exact Calls.mono (hFi.out wq) (fun e w'' h => h)
      go_simp
      iterate 10 (refine wpMixC_q rfl (fun K hK => ?_); go_simp; (try go_bits); first | (refine hK.out _ ?_; clear hK K) | (apply Exists.intro; refine ⟨fun wq hsq => ?_, hK.out _ ?_⟩; (first | (go_simp; done) | ((try go_simp); (try simp only [↓IntWalk.iteOmega]); (try go_bits); rfl) | (obtain ⟨hcq, hfq⟩ := bcells hsq; go_simp; done) | (obtain ⟨hcq, hfq⟩ := bcells hsq; (try go_simp); (try simp only [↓IntWalk.iteOmega]); (try go_bits); rfl)); clear hK K))
      refine wpMixC_c (.string ⟨vv.toArray⟩) rfl (by first | rfl | (go_simp; done)) (fun wq hsq => ?_) ?_
      · obtain ⟨hcq, hfq⟩ := bcells hsq
        go_simp
        exact Calls.mono (cV3.out wq hsq) (fun e w'' h => h)
      go_simp
      refine wpMixC_c (.bool vb) rfl (by first | rfl | (go_simp; done)) (fun wq hsq => ?_) ?_
      · obtain ⟨hcq, hfq⟩ := bcells hsq
        go_simp
        exact Calls.mono (cI.out wq) (fun e w'' h => h)
      go_simp
      iterate 2 (refine wpMixC_q rfl (fun K hK => ?_); go_simp; (try go_bits); first | (refine hK.out _ ?_; clear hK K) | (apply Exists.intro; refine ⟨fun wq hsq => ?_, hK.out _ ?_⟩; (first | (go_simp; done) | ((try go_simp); (try simp only [↓IntWalk.iteOmega]); (try go_bits); rfl) | (obtain ⟨hcq, hfq⟩ := bcells hsq; go_simp; done) | (obtain ⟨hcq, hfq⟩ := bcells hsq; (try go_simp); (try simp only [↓IntWalk.iteOmega]); (try go_bits); rfl)); clear hK K))
      refine wpMixC_nil ?_
      refine wpAnyK_end (by kernel_rfl) (fun wN hN hS => ?_)
      go_wp2
      go_ret
      exact ⟨by rw [hR2.out]; rfl, hG1.out.trans hN⟩
    · have hR2 : Hid (R = !vb) := Lib.hid (by rw [hR]; rfl)
      clear hop hR
      refine wp_region_k (by kernel_rfl) ?_
      refine wpAnyK_run (l' := #[true, true, true, true, true, true, true, true, true, true, true, true, true, true, true, true]) [0, 1, 2, 3, 4, 5, 6, 7, 8, 9, 10, 11, 12, 13, 14, 15] 0 up_grows (by kernel_rfl) (by intro c a d v w h; first | (cases d <;> exact h) | exact hQ0 _ _ _ _ _ h) rfl (by kernel_rfl) (by kernel_rfl) ?_
      iterate 1 (refine wpMixC_q rfl (fun K hK => ?_); go_simp; (try go_bits); first | (refine hK.out _ ?_; clear hK K) | (apply Exists.intro; refine ⟨fun wq hsq => ?_, hK.out _ ?_⟩; (first | (go_simp; done) | ((try go_simp); (try simp only [↓IntWalk.iteOmega]); (try go_bits); rfl) | (obtain ⟨hcq, hfq⟩ := bcells hsq; go_simp; done) | (obtain ⟨hcq, hfq⟩ := bcells hsq; (try go_simp); (try simp only [↓IntWalk.iteOmega]); (try go_bits); rfl)); clear hK K))
      refine wpMixC_c (.bool true) rfl (by first | rfl | (go_simp; done)) (fun wq hsq => ?_) ?_
      · obtain ⟨hcq, hfq⟩ := bcells hsq
        go_simp
        exact Calls.mono (hFi.out wq) (fun e w'' h => h)
      go_simp
      iterate 10 (refine wpMixC_q rfl (fun K hK => ?_); go_simp; (try go_bits); first | (refine hK.out _ ?_; clear hK K) | (apply Exists.intro; refine ⟨fun wq hsq => ?_, hK.out _ ?_⟩; (first | (go_simp; done) | ((try go_simp); (try simp only [↓IntWalk.iteOmega]); (try go_bits); rfl) | (obtain ⟨hcq, hfq⟩ := bcells hsq; go_simp; done) | (obtain ⟨hcq, hfq⟩ := bcells hsq; (try go_simp); (try simp only [↓IntWalk.iteOmega]); (try go_bits); rfl)); clear hK K))
      refine wpMixC_c (.string ⟨vv.toArray⟩) rfl (by first | rfl | (go_simp; done)) (fun wq hsq => ?_) ?_
      · obtain ⟨hcq, hfq⟩ := bcells hsq
        go_simp
        exact Calls.mono (cV3.out wq hsq) (fun e w'' h => h)
      go_simp
      refine wpMixC_c (.bool (!vb)) rfl (by first | rfl | (go_simp; done)) (fun wq hsq => ?_) ?_
      · obtain ⟨hcq, hfq⟩ := bcells hsq
        go_simp
        exact Calls.mono (cN1.out wq hsq) (fun e w'' h => h)
      go_simp
      iterate 2 (refine wpMixC_q rfl (fun K hK => ?_); go_simp; (try go_bits); first | (refine hK.out _ ?_; clear hK K) | (apply Exists.intro; refine ⟨fun wq hsq => ?_, hK.out _ ?_⟩; (first | (go_simp; done) | ((try go_simp); (try simp only [↓IntWalk.iteOmega]); (try go_bits); rfl) | (obtain ⟨hcq, hfq⟩ := bcells hsq; go_simp; done) | (obtain ⟨hcq, hfq⟩ := bcells hsq; (try go_simp); (try simp only [↓IntWalk.iteOmega]); (try go_bits); rfl)); clear hK K))
      refine wpMixC_nil ?_
      refine wpAnyK_end (by kernel_rfl) (fun wN hN hS => ?_)
      go_wp2
      go_ret
      exact ⟨by rw [hR2.out]; rfl, hG1.out.trans hN⟩
    · have hR2 : Hid (R = fp) := Lib.hid (by rw [hR]; rfl)
      clear hop hR
      refine wp_region_k (by kernel_rfl) ?_
      refine wpAnyK_run (l' := #[true, true, true, true, true, true, true, true, true, true, true, true, true, true, true, true]) [0, 1, 2, 3, 4, 5, 6, 7, 8, 9, 10, 11, 12, 13, 14, 15] 0 up_grows (by kernel_rfl) (by intro c a d v w h; first | (cases d <;> exact h) | exact hQ0 _ _ _ _ _ h) rfl (by kernel_rfl) (by kernel_rfl) ?_
      iterate 1 (refine wpMixC_q rfl (fun K hK => ?_); go_simp; (try go_bits); first | (refine hK.out _ ?_; clear hK K) | (apply Exists.intro; refine ⟨fun wq hsq => ?_, hK.out _ ?_⟩; (first | (go_simp; done) | ((try go_simp); (try simp only [↓IntWalk.iteOmega]); (try go_bits); rfl) | (obtain ⟨hcq, hfq⟩ := bcells hsq; go_simp; done) | (obtain ⟨hcq, hfq⟩ := bcells hsq; (try go_simp); (try simp only [↓IntWalk.iteOmega]); (try go_bits); rfl)); clear hK K))
      refine wpMixC_c (.bool true) rfl (by first | rfl | (go_simp; done)) (fun wq hsq => ?_) ?_
      · obtain ⟨hcq, hfq⟩ := bcells hsq
        go_simp
        exact Calls.mono (hFi.out wq) (fun e w'' h => h)
      go_simp
      iterate 10 (refine wpMixC_q rfl (fun K hK => ?_); go_simp; (try go_bits); first | (refine hK.out _ ?_; clear hK K) | (apply Exists.intro; refine ⟨fun wq hsq => ?_, hK.out _ ?_⟩; (first | (go_simp; done) | ((try go_simp); (try simp only [↓IntWalk.iteOmega]); (try go_bits); rfl) | (obtain ⟨hcq, hfq⟩ := bcells hsq; go_simp; done) | (obtain ⟨hcq, hfq⟩ := bcells hsq; (try go_simp); (try simp only [↓IntWalk.iteOmega]); (try go_bits); rfl)); clear hK K))
      refine wpMixC_c (.string ⟨vv.toArray⟩) rfl (by first | rfl | (go_simp; done)) (fun wq hsq => ?_) ?_
      · obtain ⟨hcq, hfq⟩ := bcells hsq
        go_simp
        exact Calls.mono (cV3.out wq hsq) (fun e w'' h => h)
      go_simp
      refine wpMixC_c (.bool fp) rfl (by first | rfl | (go_simp; done)) (fun wq hsq => ?_) ?_
      · obtain ⟨hcq, hfq⟩ := bcells hsq
        go_simp
        exact Calls.mono (cP.out wq) (fun e w'' h => h)
      go_simp
      iterate 2 (refine wpMixC_q rfl (fun K hK => ?_); go_simp; (try go_bits); first | (refine hK.out _ ?_; clear hK K) | (apply Exists.intro; refine ⟨fun wq hsq => ?_, hK.out _ ?_⟩; (first | (go_simp; done) | ((try go_simp); (try simp only [↓IntWalk.iteOmega]); (try go_bits); rfl) | (obtain ⟨hcq, hfq⟩ := bcells hsq; go_simp; done) | (obtain ⟨hcq, hfq⟩ := bcells hsq; (try go_simp); (try simp only [↓IntWalk.iteOmega]); (try go_bits); rfl)); clear hK K))
      refine wpMixC_nil ?_
      refine wpAnyK_end (by kernel_rfl) (fun wN hN hS => ?_)
      go_wp2
      go_ret
      exact ⟨by rw [hR2.out]; rfl, hG1.out.trans hN⟩
    · have hR2 : Hid (R = !fp) := Lib.hid (by rw [hR]; rfl)
      clear hop hR
      refine wp_region_k (by kernel_rfl) ?_
      refine wpAnyK_run (l' := #[true, true, true, true, true, true, true, true, true, true, true, true, true, true, true, true]) [0, 1, 2, 3, 4, 5, 6, 7, 8, 9, 10, 11, 12, 13, 14, 15] 0 up_grows (by kernel_rfl) (by intro c a d v w h; first | (cases d <;> exact h) | exact hQ0 _ _ _ _ _ h) rfl (by kernel_rfl) (by kernel_rfl) ?_
      iterate 1 (refine wpMixC_q rfl (fun K hK => ?_); go_simp; (try go_bits); first | (refine hK.out _ ?_; clear hK K) | (apply Exists.intro; refine ⟨fun wq hsq => ?_, hK.out _ ?_⟩; (first | (go_simp; done) | ((try go_simp); (try simp only [↓IntWalk.iteOmega]); (try go_bits); rfl) | (obtain ⟨hcq, hfq⟩ := bcells hsq; go_simp; done) | (obtain ⟨hcq, hfq⟩ := bcells hsq; (try go_simp); (try simp only [↓IntWalk.iteOmega]); (try go_bits); rfl)); clear hK K))
      refine wpMixC_c (.bool true) rfl (by first | rfl | (go_simp; done)) (fun wq hsq => ?_) ?_
      · obtain ⟨hcq, hfq⟩ := bcells hsq
        go_simp
        exact Calls.mono (hFi.out wq) (fun e w'' h => h)
      go_simp
      iterate 10 (refine wpMixC_q rfl (fun K hK => ?_); go_simp; (try go_bits); first | (refine hK.out _ ?_; clear hK K) | (apply Exists.intro; refine ⟨fun wq hsq => ?_, hK.out _ ?_⟩; (first | (go_simp; done) | ((try go_simp); (try simp only [↓IntWalk.iteOmega]); (try go_bits); rfl) | (obtain ⟨hcq, hfq⟩ := bcells hsq; go_simp; done) | (obtain ⟨hcq, hfq⟩ := bcells hsq; (try go_simp); (try simp only [↓IntWalk.iteOmega]); (try go_bits); rfl)); clear hK K))
      refine wpMixC_c (.string ⟨vv.toArray⟩) rfl (by first | rfl | (go_simp; done)) (fun wq hsq => ?_) ?_
      · obtain ⟨hcq, hfq⟩ := bcells hsq
        go_simp
        exact Calls.mono (cV3.out wq hsq) (fun e w'' h => h)
      go_simp
      refine wpMixC_c (.bool (!fp)) rfl (by first | rfl | (go_simp; done)) (fun wq hsq => ?_) ?_
      · obtain ⟨hcq, hfq⟩ := bcells hsq
        go_simp
        exact Calls.mono (cN3.out wq hsq) (fun e w'' h => h)
      go_simp
      iterate 2 (refine wpMixC_q rfl (fun K hK => ?_); go_simp; (try go_bits); first | (refine hK.out _ ?_; clear hK K) | (apply Exists.intro; refine ⟨fun wq hsq => ?_, hK.out _ ?_⟩; (first | (go_simp; done) | ((try go_simp); (try simp only [↓IntWalk.iteOmega]); (try go_bits); rfl) | (obtain ⟨hcq, hfq⟩ := bcells hsq; go_simp; done) | (obtain ⟨hcq, hfq⟩ := bcells hsq; (try go_simp); (try simp only [↓IntWalk.iteOmega]); (try go_bits); rfl)); clear hK K))
      refine wpMixC_nil ?_
      refine wpAnyK_end (by kernel_rfl) (fun wN hN hS => ?_)
      go_wp2
      go_ret
      exact ⟨by rw [hR2.out]; rfl, hG1.out.trans hN⟩
end Go.Proofs.YtfoffneipdkdjaaGreatDoor
namespace Go.Proofs.YtfoffneipdkdjaaGreatDoor
open Go.RowKit Go.Maps

theorem fines_any (p : PolX) : FinesOK fineM p := ⟨fun _ _ y _ => fine_any y, fun _ _ => ⟨fun y _ => fine_any y, fun y _ => fine_any y⟩⟩
theorem fitss_any (p : PolX) : FitssOK fitsM p := fun _ _ y _ => mfits_any y
end Go.Proofs.YtfoffneipdkdjaaGreatDoor
namespace Go.Proofs.YtfoffneipdkdjaaGreatDoor

def xPager : List UInt8 := [112, 97, 103, 101, 114]
def xTeam : List UInt8 := [116, 101, 97, 109]
def xHost : List UInt8 := [104, 111, 115, 116]
def xProm : List UInt8 := [112, 114, 111, 109]
def xAl (b : UInt8) : Alr := ⟨xProm, [⟨xHost, [b]⟩, ⟨xTeam, [116]⟩], ⟨0, 0⟩, 0, 0⟩
def xPol : Pol := ⟨[], [⟨xPager, ⟨3, 0⟩⟩], [], [], [⟨xPager, [xTeam], 0, 1, 1, []⟩], []⟩
def fT : Mat → Bool := fun _ => true
def fTT : List Fld → Mat → Bool := fun _ _ => true
theorem x_check : checkL fT xPol = 0 := by decide
theorem x_seesA : seesA xPol xPager (xAl 49) 0 = some (xAl 49) := by kernel_rfl
theorem x_seesB : seesA xPol xPager (xAl 50) 0 = some (xAl 50) := by kernel_rfl
theorem x_fits (b : UInt8) : fitsL fTT xPol xPager (xAl b).fs = [0] := rfl
set_option maxRecDepth 100000 in
theorem x_ids : idA (xAl 49) ≠ idA (xAl 50) := by decide +kernel
def xBy : List Fld := [⟨xTeam, [116]⟩]
theorem addId_two {a b : Nat} (h : a ≠ b) : (addId (addId [] a) b).length = 2 := by
  have h1 : addId [] a = [a] := by simp [addId, putAt, posU]
  rw [h1]
  unfold addId
  rw [if_neg (by simpa using Ne.symm h), putAt_len (posU_le _ _)]
  rfl
theorem x_step1 (id ky : Nat) (hk : keyA xPager 0 xBy = ky) : stepG xPager id (xAl 49).fs (namesAt xPol) ⟨[[]], []⟩ 0 = ⟨[[⟨0, xBy, ky, addId [] id⟩]], [(whereL 0 xBy, 0)]⟩ := by
  have hp : pickF (xAl 49).fs (namesAt xPol 0) = xBy := by kernel_rfl
  unfold stepG
  rw [hp, hk]
  rfl
theorem x_step2 (id ky : Nat) (l : List Nat) : stepG xPager id (xAl 50).fs (namesAt xPol) ⟨[[⟨0, xBy, ky, l⟩]], [(whereL 0 xBy, 0)]⟩ 0 = ⟨[[⟨0, xBy, ky, addId l id⟩]], [(whereL 0 xBy, 0)]⟩ := by
  have hp : pickF (xAl 50).fs (namesAt xPol 0) = xBy := by kernel_rfl
  unfold stepG
  rw [hp]
  have hl : lookP [(whereL 0 xBy, 0)] (whereL 0 xBy) = some 0 := by simp [lookP]
  rw [hl]
  rfl
theorem x_groups : ∃ ids, groupsL fT fTT xPol xPager [xAl 49, xAl 50] 0 = [⟨0, xBy, keyA xPager 0 xBy, ids⟩] ∧ ids.length = 2 := by
  have h2 := addId_two x_ids
  refine ⟨addId (addId [] (idA (xAl 49))) (idA (xAl 50)), ?_, h2⟩
  have s1 := x_step1 (idA (xAl 49)) _ rfl
  have s2 := x_step2 (idA (xAl 50)) (keyA xPager 0 xBy) (addId [] (idA (xAl 49)))
  unfold groupsL
  rw [if_pos x_check]
  unfold groupsSt
  have a1 : alertG fTT xPol xPager 0 ⟨[[]], []⟩ (xAl 49) = stepG xPager (idA (xAl 49)) (xAl 49).fs (namesAt xPol) ⟨[[]], []⟩ 0 := by
    unfold alertG; rw [x_seesA]; simp only; rw [x_fits]; rfl
  have a2 : ∀ st, alertG fTT xPol xPager 0 st (xAl 50) = stepG xPager (idA (xAl 50)) (xAl 50).fs (namesAt xPol) st 0 := by
    intro st; unfold alertG; rw [x_seesB]; simp only; rw [x_fits]; rfl
  rw [List.foldl_cons, List.foldl_cons, List.foldl_nil]
  rw [show (⟨List.replicate xPol.routes.length [], []⟩ : GSt) = ⟨[[]], []⟩ from rfl, a1, s1, a2, s2]
  rfl
theorem x_goes : goesL fT fTT xPol xPager (xAl 49) 0 = [0] := by
  unfold goesL
  rw [x_seesA]
  simp only
  rw [if_pos x_check, x_fits]
end Go.Proofs.YtfoffneipdkdjaaGreatDoor
namespace Go.Proofs.YtfoffneipdkdjaaGreatDoor
open Go.RowKit Go.Maps

def rl1 (w : World) : World := w.alloc (.cells #[.string ⟨xPager.toArray⟩, .int .i64 3, .int .u32 0] 42)
def rl2 (w : World) : World := (rl1 w).alloc (.cells #[.string ⟨xTeam.toArray⟩] 9)
def rl3 (w : World) : World := (rl2 w).alloc (.cells #[.string ⟨xPager.toArray⟩, .slice (some ⟨w.heap.size + 1, 0, none⟩) 1 1, .int .i64 0, .int .i64 1, .int .i64 1, .slice none 0 0] 59)
def rl4 (w : World) : World := (rl3 w).alloc (.cells #[.slice none 0 0, .slice (some ⟨w.heap.size, 0, none⟩) 1 1, .slice none 0 0, .slice none 0 0, .slice (some ⟨w.heap.size + 1 + 1, 0, none⟩) 1 1, .slice none 0 0] 32)
def rl5 (w : World) : World := (rl4 w).alloc (.cells #[.string ⟨xHost.toArray⟩, .string ⟨#[49]⟩, .string ⟨xTeam.toArray⟩, .string ⟨#[116]⟩] 76)
def rl6 (w : World) : World := (rl5 w).alloc (.cells #[.string ⟨xProm.toArray⟩, .slice (some ⟨w.heap.size + 1 + 1 + 1 + 1, 0, none⟩) 2 2, .int .i64 0, .int .u32 0, .int .i64 0, .int .i64 0] 50)
def rl7 (w : World) : World := (rl6 w).alloc (.cells #[.string ⟨xHost.toArray⟩, .string ⟨#[50]⟩, .string ⟨xTeam.toArray⟩, .string ⟨#[116]⟩] 76)
def rl8 (w : World) : World := (rl7 w).alloc (.cells #[.string ⟨xProm.toArray⟩, .slice (some ⟨w.heap.size + 1 + 1 + 1 + 1 + 1 + 1, 0, none⟩) 2 2, .int .i64 0, .int .u32 0, .int .i64 0, .int .i64 0] 50)
def rl9 (w : World) : World := (rl8 w).alloc (.cells #[.string ⟨xProm.toArray⟩, .slice (some ⟨w.heap.size + 1 + 1 + 1 + 1, 0, none⟩) 2 2, .int .i64 0, .int .u32 0, .int .i64 0, .int .i64 0, .string ⟨xProm.toArray⟩, .slice (some ⟨w.heap.size + 1 + 1 + 1 + 1 + 1 + 1, 0, none⟩) 2 2, .int .i64 0, .int .u32 0, .int .i64 0, .int .i64 0] 50)
theorem rl_size (w : World) : (rl1 w).heap.size = w.heap.size + 1 ∧ (rl2 w).heap.size = w.heap.size + 1 + 1 ∧ (rl3 w).heap.size = w.heap.size + 1 + 1 + 1 ∧ (rl4 w).heap.size = w.heap.size + 1 + 1 + 1 + 1 ∧ (rl5 w).heap.size = w.heap.size + 1 + 1 + 1 + 1 + 1 ∧ (rl6 w).heap.size = w.heap.size + 1 + 1 + 1 + 1 + 1 + 1 ∧ (rl7 w).heap.size = w.heap.size + 1 + 1 + 1 + 1 + 1 + 1 + 1 ∧ (rl8 w).heap.size = w.heap.size + 1 + 1 + 1 + 1 + 1 + 1 + 1 + 1 ∧ (rl9 w).heap.size = w.heap.size + 1 + 1 + 1 + 1 + 1 + 1 + 1 + 1 + 1 := by
  simp [rl1, rl2, rl3, rl4, rl5, rl6, rl7, rl8, rl9]
theorem rl_g1 (w : World) : Grows (rl1 w) (rl9 w) := ((((((((Grows.refl _).alloc _).alloc _).alloc _).alloc _).alloc _).alloc _).alloc _).alloc _
theorem rl_b1 (w : World) : Blk (rl9 w) (w.heap.size) 42 #[.string ⟨xPager.toArray⟩, .int .i64 3, .int .u32 0] := by
  exact (Blk.new w _ _).grows (rl_g1 w)
theorem rl_g2 (w : World) : Grows (rl2 w) (rl9 w) := (((((((Grows.refl _).alloc _).alloc _).alloc _).alloc _).alloc _).alloc _).alloc _
theorem rl_b2 (w : World) : Blk (rl9 w) (w.heap.size + 1) 9 #[.string ⟨xTeam.toArray⟩] := by
  have h := Blk.new (rl1 w) 9 #[.string ⟨xTeam.toArray⟩]
  rw [show (rl1 w).heap.size = w.heap.size + 1 by have := rl_size w; exact this.1] at h
  exact h.grows (rl_g2 w)
theorem rl_g3 (w : World) : Grows (rl3 w) (rl9 w) := ((((((Grows.refl _).alloc _).alloc _).alloc _).alloc _).alloc _).alloc _
theorem rl_b3 (w : World) : Blk (rl9 w) (w.heap.size + 1 + 1) 59 #[.string ⟨xPager.toArray⟩, .slice (some ⟨w.heap.size + 1, 0, none⟩) 1 1, .int .i64 0, .int .i64 1, .int .i64 1, .slice none 0 0] := by
  have h := Blk.new (rl2 w) 59 #[.string ⟨xPager.toArray⟩, .slice (some ⟨w.heap.size + 1, 0, none⟩) 1 1, .int .i64 0, .int .i64 1, .int .i64 1, .slice none 0 0]
  rw [show (rl2 w).heap.size = w.heap.size + 1 + 1 by have := rl_size w; exact this.2.1] at h
  exact h.grows (rl_g3 w)
theorem rl_g4 (w : World) : Grows (rl4 w) (rl9 w) := (((((Grows.refl _).alloc _).alloc _).alloc _).alloc _).alloc _
theorem rl_b4 (w : World) : Blk (rl9 w) (w.heap.size + 1 + 1 + 1) 32 #[.slice none 0 0, .slice (some ⟨w.heap.size, 0, none⟩) 1 1, .slice none 0 0, .slice none 0 0, .slice (some ⟨w.heap.size + 1 + 1, 0, none⟩) 1 1, .slice none 0 0] := by
  have h := Blk.new (rl3 w) 32 #[.slice none 0 0, .slice (some ⟨w.heap.size, 0, none⟩) 1 1, .slice none 0 0, .slice none 0 0, .slice (some ⟨w.heap.size + 1 + 1, 0, none⟩) 1 1, .slice none 0 0]
  rw [show (rl3 w).heap.size = w.heap.size + 1 + 1 + 1 by have := rl_size w; exact this.2.2.1] at h
  exact h.grows (rl_g4 w)
theorem rl_g5 (w : World) : Grows (rl5 w) (rl9 w) := ((((Grows.refl _).alloc _).alloc _).alloc _).alloc _
theorem rl_b5 (w : World) : Blk (rl9 w) (w.heap.size + 1 + 1 + 1 + 1) 76 #[.string ⟨xHost.toArray⟩, .string ⟨#[49]⟩, .string ⟨xTeam.toArray⟩, .string ⟨#[116]⟩] := by
  have h := Blk.new (rl4 w) 76 #[.string ⟨xHost.toArray⟩, .string ⟨#[49]⟩, .string ⟨xTeam.toArray⟩, .string ⟨#[116]⟩]
  rw [show (rl4 w).heap.size = w.heap.size + 1 + 1 + 1 + 1 by have := rl_size w; exact this.2.2.2.1] at h
  exact h.grows (rl_g5 w)
theorem rl_g6 (w : World) : Grows (rl6 w) (rl9 w) := (((Grows.refl _).alloc _).alloc _).alloc _
theorem rl_b6 (w : World) : Blk (rl9 w) (w.heap.size + 1 + 1 + 1 + 1 + 1) 50 #[.string ⟨xProm.toArray⟩, .slice (some ⟨w.heap.size + 1 + 1 + 1 + 1, 0, none⟩) 2 2, .int .i64 0, .int .u32 0, .int .i64 0, .int .i64 0] := by
  have h := Blk.new (rl5 w) 50 #[.string ⟨xProm.toArray⟩, .slice (some ⟨w.heap.size + 1 + 1 + 1 + 1, 0, none⟩) 2 2, .int .i64 0, .int .u32 0, .int .i64 0, .int .i64 0]
  rw [show (rl5 w).heap.size = w.heap.size + 1 + 1 + 1 + 1 + 1 by have := rl_size w; exact this.2.2.2.2.1] at h
  exact h.grows (rl_g6 w)
theorem rl_g7 (w : World) : Grows (rl7 w) (rl9 w) := ((Grows.refl _).alloc _).alloc _
theorem rl_b7 (w : World) : Blk (rl9 w) (w.heap.size + 1 + 1 + 1 + 1 + 1 + 1) 76 #[.string ⟨xHost.toArray⟩, .string ⟨#[50]⟩, .string ⟨xTeam.toArray⟩, .string ⟨#[116]⟩] := by
  have h := Blk.new (rl6 w) 76 #[.string ⟨xHost.toArray⟩, .string ⟨#[50]⟩, .string ⟨xTeam.toArray⟩, .string ⟨#[116]⟩]
  rw [show (rl6 w).heap.size = w.heap.size + 1 + 1 + 1 + 1 + 1 + 1 by have := rl_size w; exact this.2.2.2.2.2.1] at h
  exact h.grows (rl_g7 w)
theorem rl_g9 (w : World) : Grows (rl9 w) (rl9 w) := Grows.refl _
theorem rl_b9 (w : World) : Blk (rl9 w) (w.heap.size + 1 + 1 + 1 + 1 + 1 + 1 + 1 + 1) 50 #[.string ⟨xProm.toArray⟩, .slice (some ⟨w.heap.size + 1 + 1 + 1 + 1, 0, none⟩) 2 2, .int .i64 0, .int .u32 0, .int .i64 0, .int .i64 0, .string ⟨xProm.toArray⟩, .slice (some ⟨w.heap.size + 1 + 1 + 1 + 1 + 1 + 1, 0, none⟩) 2 2, .int .i64 0, .int .u32 0, .int .i64 0, .int .i64 0] := by
  have h := Blk.new (rl8 w) 50 #[.string ⟨xProm.toArray⟩, .slice (some ⟨w.heap.size + 1 + 1 + 1 + 1, 0, none⟩) 2 2, .int .i64 0, .int .u32 0, .int .i64 0, .int .i64 0, .string ⟨xProm.toArray⟩, .slice (some ⟨w.heap.size + 1 + 1 + 1 + 1 + 1 + 1, 0, none⟩) 2 2, .int .i64 0, .int .u32 0, .int .i64 0, .int .i64 0]
  rw [show (rl8 w).heap.size = w.heap.size + 1 + 1 + 1 + 1 + 1 + 1 + 1 + 1 by have := rl_size w; exact this.2.2.2.2.2.2.2.1] at h
  exact h.grows (rl_g9 w)
theorem rl_g (w : World) : Grows w (rl9 w) := ((Grows.refl w).alloc _).trans (rl_g1 w)
theorem Arr.of_all {α : Type} {w : World} {g k : Nat} {t : TypeId} {enc : α → List Value} {l : List α} {cs : Array Value} (hk : ∀ x, (enc x).length = k) (h : Blk w g t cs) (hc : cs = (encAll enc l).toArray) : Arr w k enc (some ⟨g, 0, none⟩) l.length l := by
  subst hc
  refine ⟨rfl, fun _ => ⟨g, 0, rfl, h.lt, fun i hi j u hu => ?_⟩⟩
  have hj : j < k := by rw [← hk l[i]]; exact (List.getElem?_eq_some_iff.1 hu).1
  rw [h.cell, Nat.zero_add]
  have := encAll_get hk l i hi j hj
  rw [← hu, ← this]
  simp
def xPolX (w : World) : PolX where
  s := ⟨[], none, 0, 0⟩
  r := ⟨[⟨xPager, ⟨3, 0⟩⟩], some ⟨w.heap.size, 0, none⟩, 1, 1⟩
  e := ⟨[], none, 0, 0⟩
  a := ⟨[], none, 0, 0⟩
  o := [⟨⟨xPager, [xTeam], 0, 1, 1, []⟩, some ⟨w.heap.size + 1, 0, none⟩, 1, 1, none, 0, 0⟩]
  oA := some ⟨w.heap.size + 1 + 1, 0, none⟩
  om := 1
  ok := 1
  i := []
  iA := none
  im := 0
  ik := 0
def xAlrX (w : World) : AlrX := ⟨xAl 49, some ⟨w.heap.size + 1 + 1 + 1 + 1, 0, none⟩, 2, 2⟩
def xBlrX (w : World) : AlrX := ⟨xAl 50, some ⟨w.heap.size + 1 + 1 + 1 + 1 + 1 + 1, 0, none⟩, 2, 2⟩
theorem nil_at (w : World) : NamsX.At ⟨[], none, 0, 0⟩ w := ⟨Arr.nil_, by simp, by simp, by simp⟩
theorem hkR (x : RteX) : (encR x).length = 6 := rfl
theorem hkA (x : AlrX) : (encA x).length = 6 := rfl
theorem hkS1 (x : List UInt8) : (encS x).length = 1 := rfl
theorem xPol_at (w : World) : (xPolX w).At (rl9 w) where
  s := nil_at _
  r := ⟨by have h := Arr.of_all (enc := encN) (l := [(⟨xPager, ⟨3, 0⟩⟩ : Nam)]) hkN (rl_b1 w) rfl; exact h, by simp [xPolX], by intro y hy; simp only [xPolX, List.mem_singleton] at hy; subst hy; exact (by decide : (0 : Nat) < 4294967296), by intro y hy; simp only [xPolX, List.mem_singleton] at hy; subst hy; decide⟩
  e := nil_at _
  a := nil_at _
  o := by have h := Arr.of_all (enc := encR) (l := [(⟨⟨xPager, [xTeam], 0, 1, 1, []⟩, some ⟨w.heap.size + 1, 0, none⟩, 1, 1, none, 0, 0⟩ : RteX)]) hkR (rl_b3 w) rfl; exact h
  ole := by simp [xPolX]
  oAt := by
    intro y hy
    simp only [xPolX, List.mem_singleton] at hy
    subst hy
    exact ⟨Arr.of_all (l := [xTeam]) hkS1 (rl_b2 w) rfl, by simp, by intro z hz; simp only [List.mem_singleton] at hz; subst hz; decide, Arr.nil_, by simp⟩
  i := Arr.nil_
  ile := by simp [xPolX]
  iAt := by intro y hy; simp [xPolX] at hy
theorem xA_at (w : World) : (xAlrX w).At (rl9 w) := ⟨by have h := Arr.of_all (enc := encF) (l := [(⟨xHost, [49]⟩ : Fld), ⟨xTeam, [116]⟩]) hkF (rl_b5 w) rfl; exact h, by simp [xAlrX], (by decide : (0 : Nat) < 4294967296)⟩
theorem xB_at (w : World) : (xBlrX w).At (rl9 w) := ⟨by have h := Arr.of_all (enc := encF) (l := [(⟨xHost, [50]⟩ : Fld), ⟨xTeam, [116]⟩]) hkF (rl_b7 w) rfl; exact h, by simp [xBlrX], (by decide : (0 : Nat) < 4294967296)⟩
theorem xL_at (w : World) : Arr (rl9 w) 6 encA (some ⟨w.heap.size + 1 + 1 + 1 + 1 + 1 + 1 + 1 + 1, 0, none⟩) 2 [xAlrX w, xBlrX w] := Arr.of_all (l := [xAlrX w, xBlrX w]) hkA (rl_b9 w) rfl
theorem xFines (w : World) : FinesOK fT (xPolX w) := ⟨fun r hr y hy => by simp only [xPolX, List.mem_singleton] at hr; subst hr; simp at hy, fun i hi => by simp [xPolX] at hi⟩
theorem xFits (w : World) : FitssOK fTT (xPolX w) := fun r hr y hy => by simp only [xPolX, List.mem_singleton] at hr; subst hr; simp at hy
end Go.Proofs.YtfoffneipdkdjaaGreatDoor
namespace Go.Proofs.YtfoffneipdkdjaaGreatDoor
open Go.RowKit Go.Maps

theorem map_one {α β : Type} {f : α → β} {l : List α} {y : β} (h : l.map f = [y]) : ∃ x, l = [x] ∧ f x = y := by
  match l, h with
  | [], h => cases h
  | [x], h => exact ⟨x, rfl, by simpa using h⟩
  | _ :: _ :: _, h => simp at h
set_option maxRecDepth 100000 in
set_option maxHeartbeats 6400000 in
theorem rlives_any (w : World) (he : LibEnv w) :
    Calls Tryz.prog 9 #[] w fun e w' => e = .returned (.bool true) ∧ Grows w w' := by
  have cGr := groups_any (p := xPolX w) (rec := xPager) (lk := 2) (xs := [xAlrX w, xBlrX w]) (now := 0) (fb := fT) (ft := fTT) (rl9 w) (he.grows (rl_g w)) (xPol_at w) (xFines w) (xFits w) (xL_at w) (by
    intro a ha
    simp only [List.mem_cons, List.not_mem_nil, or_false] at ha
    rcases ha with rfl | rfl
    · exact xA_at w
    · exact xB_at w) (by omega)
  have cGo := fun W (hW : Grows (rl9 w) W) => goes_any (fb := fT) (ft := fTT) (p := xPolX w) (rec := xPager) (a := xAlrX w) (now := 0) W ((xPol_at w).keep hW) (xFines w) (xFits w) ((xA_at w).keep hW)
  have hg9 := rl_g w
  have b4 := rl_b4 w
  have b6 := rl_b6 w
  replace cGr := Lib.hid cGr
  replace cGo := Lib.hid cGo
  replace hg9 := Lib.hid hg9
  replace b4 := Lib.hid b4
  replace b6 := Lib.hid b6
  go_enter Tryz.func9, Tryz.ntmps9
  go_wp2_with fail
  refine (cGr.out).mono ?_
  rintro e w2 ⟨v, gs, rfl, hO, hGs, hgs, hb⟩
  obtain ⟨ids, hx, hil⟩ := x_groups
  have hgs2 : gs.map GrpX.g = [⟨0, xBy, keyA xPager 0 xBy, ids⟩] := hgs.trans hx
  obtain ⟨x, rfl, hxg⟩ : ∃ x, gs = [x] ∧ x.g = ⟨0, xBy, keyA xPager 0 xBy, ids⟩ := map_one hgs2
  obtain ⟨hxi, hxf⟩ := hGs x (by simp)
  obtain ⟨xr, xk, xb, xbA, xbm, xbk, xi, xiA, xim, xik⟩ := x
  simp only [GrpX.g, Grp.mk.injEq] at hxg
  obtain ⟨rfl, rfl, rfl, rfl⟩ := hxg
  obtain ⟨_, _, hv1, _, _, _⟩ := hxi.arr hkU
  simp only [GrpX.iv, Value.slice.injEq] at hv1
  obtain ⟨_, hv1, _⟩ := hv1
  obtain ⟨_, _, hv2, _, _, hbA⟩ := hxf.arr hkF
  simp only [GrpX.bv, Value.slice.injEq] at hv2
  obtain ⟨rfl, hv2, rfl⟩ := hv2
  obtain ⟨gb, cap, rfl⟩ := own_form hO (by simp)
  obtain ⟨y, hy, hc, hf⟩ := hO.at_ hkG (i := 0) (by simp)
  simp only [List.getElem?_cons_zero, Option.some.injEq] at hy
  subst hy
  have g1 : w2.cell? ⟨gb, 1, none⟩ = some (.slice xbA xbm xbk) := by simpa using hc 1 _ rfl
  have g2 : w2.cell? ⟨gb, 2, none⟩ = some (.int .u64 ((keyA xPager 0 xBy : Nat) : Int)) := by simpa using hc 2 _ rfl
  have g3 : w2.cell? ⟨gb, 3, none⟩ = some (.slice xiA xim xik) := by simpa using hc 3 _ rfl
  have gl := World.block_lt_of_cell? w2 _ g1
  simp only at gl
  have hbl : xBy.length = 1 := rfl
  simp only at hv1 hv2 hbA
  rw [hil] at hv1
  rw [hbl] at hv2 hbA
  subst hv1 hv2
  have cK := fun W (hW : Grows w2 W) => key_any (R := xPager) (a := 0) (c := xbk) W (hbA.keep hW) (by decide) (by omega) (by intro f hf; simp only [xBy, List.mem_singleton] at hf; subst hf; decide)
  change ∀ W, Grows w2 W → Calls _ _ _ _ fun e w' => e = .returned (.int .u64 ((keyA xPager 0 xBy : Nat) : Int)) ∧ Grows W w' at cK
  generalize keyA xPager 0 xBy = KY at *
  replace b4 := b4.out.grows hb
  replace b6 := b6.out.grows hb
  have p0 := b4.cell 0
  have p1 := b4.cell 1
  have p2 := b4.cell 2
  have p3 := b4.cell 3
  have p4 := b4.cell 4
  have p5 := b4.cell 5
  have pz := b4.lt
  have a0 := b6.cell 0
  have a1 := b6.cell 1
  have a2 := b6.cell 2
  have a3 := b6.cell 3
  have a4 := b6.cell 4
  have a5 := b6.cell 5
  have az := b6.lt
  simp only [List.getElem?_toArray, List.getElem?_cons_zero, List.getElem?_cons_succ] at p0 p1 p2 p3 p4 p5 a0 a1 a2 a3 a4 a5
  have hG := Lib.hid (hg9.out.trans hb)
  replace cGo := Lib.hid (fun W (hW : Grows w2 W) => cGo.out W (hb.trans hW))
  replace cK := Lib.hid cK
  clear hO hGs hgs hx hgs2 hxi hxf hbA hc hf b4 b6 hb hg9 cGr hil hbl
  go_wp2
  refine wp_region_k (by kernel_rfl) ?_
  refine wpAnyK_run (l' := #[true, true, true, true, true, true, true, true, true, true, true, true, true, true, true, true, true, true, true, true, true, true, true, true, true, true, true, true, true, true, true, true, true, true, false, false, false, false, false]) [0, 1, 2, 3, 4, 5, 6, 7, 8, 9, 10, 11, 12, 13, 14, 15, 16, 17, 18, 19, 20, 21, 22, 23, 24, 25, 26, 27, 28, 29, 30, 31, 32, 33] 5 up_grows (by kernel_rfl) (by intro c a d v w h; first | (cases d <;> exact h) | exact hQ0 _ _ _ _ _ h) rfl (by kernel_rfl) (by kernel_rfl) ?_
  iterate 28 (refine wpMixC_q rfl (fun K hK => ?_); go_simp; (try go_bits); first | (refine hK.out _ ?_; clear hK K) | (apply Exists.intro; refine ⟨fun wq hsq => ?_, hK.out _ ?_⟩; (first | (go_simp; done) | ((try go_simp); (try simp only [↓IntWalk.iteOmega]); (try go_bits); rfl) | (obtain ⟨hcq, hfq⟩ := bcells hsq; go_simp; done) | (obtain ⟨hcq, hfq⟩ := bcells hsq; (try go_simp); (try simp only [↓IntWalk.iteOmega]); (try go_bits); rfl)); clear hK K))
  refine wpMixC_c (.int .u64 (KY : Int)) rfl (by first | rfl | (go_simp; done)) (fun wq hsq => ?_) ?_
  · obtain ⟨hcq, hfq⟩ := bcells hsq
    go_simp
    exact Calls.mono (cK.out wq hsq) (fun e w'' h => h)
  go_simp
  iterate 5 (refine wpMixC_q rfl (fun K hK => ?_); go_simp; (try go_bits); first | (refine hK.out _ ?_; clear hK K) | (apply Exists.intro; refine ⟨fun wq hsq => ?_, hK.out _ ?_⟩; (first | (go_simp; done) | ((try go_simp); (try simp only [↓IntWalk.iteOmega]); (try go_bits); rfl) | (obtain ⟨hcq, hfq⟩ := bcells hsq; go_simp; done) | (obtain ⟨hcq, hfq⟩ := bcells hsq; (try go_simp); (try simp only [↓IntWalk.iteOmega]); (try go_bits); rfl)); clear hK K))
  refine wpMixC_nil ?_
  refine wpAnyK_alt [34] (by kernel_rfl) (by simp) (fun wN hN hS => (AllReadyK.cons rfl (fun K' hK => ?_) AllReadyK.nil))
  clear hN
  have hW2 : Grows w2 wN := hS
  have q0 := hW2.cell p0
  go_simp
  refine (cGo.out _ hW2).mono ?_
  rintro e w3 ⟨v3, rfl, hO3, hb3⟩
  obtain ⟨A3, c3, rfl, _, _, _⟩ := hO3.arr hkI
  rw [show goesL fT fTT (xPolX w).pol xPager (xAlrX w).a 0 = [0] from x_goes]
  simp only [List.length_cons, List.length_nil, Nat.zero_add]
  have hG3 := Lib.hid (hG.out.trans (hW2.trans hb3))
  refine hK.out _ _ ?_ (fun hS => ?_)
  · exact hW2.trans hb3
  clear hO3 q0 hb3
  clear hK hS
  refine wpAnyK_run (l' := #[true, true, true, true, true, true, true, true, true, true, true, true, true, true, true, true, true, true, true, true, true, true, true, true, true, true, true, true, true, true, true, true, true, true, true, true, true, true, true]) [35, 36, 37, 38] 0 up_grows (by kernel_rfl) (by intro c a d v w h; first | (cases d <;> exact h) | exact hQ0 _ _ _ _ _ h) rfl (by kernel_rfl) (by kernel_rfl) ?_
  iterate 4 (refine wpMixC_q rfl (fun K hK => ?_); go_simp; (try go_bits); first | (refine hK.out _ ?_; clear hK K) | (apply Exists.intro; refine ⟨fun wq hsq => ?_, hK.out _ ?_⟩; (first | (go_simp; done) | ((try go_simp); (try simp only [↓IntWalk.iteOmega]); (try go_bits); rfl) | (obtain ⟨hcq, hfq⟩ := bcells hsq; go_simp; done) | (obtain ⟨hcq, hfq⟩ := bcells hsq; (try go_simp); (try simp only [↓IntWalk.iteOmega]); (try go_bits); rfl)); clear hK K))
  refine wpMixC_nil ?_
  refine wpAnyK_end (by kernel_rfl) (fun wN hN hS => ?_)
  go_wp2
  go_ret
  exact ⟨rfl, hG3.out.trans hN⟩
end Go.Proofs.YtfoffneipdkdjaaGreatDoor
