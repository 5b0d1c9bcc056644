/- The walk of the law LabelOnly. -/
import Derived.Test.YtfppagcifcppaaaDoorLTexts
import Derived.Laws.IdiomStrings
namespace Go.Proofs.YtfppagcifcppaaaDoor
open Go.RowKit

theorem ext_snoc (l : List UInt8) (c : UInt8) : (⟨l.toArray⟩ : ByteArray) ++ ⟨#[c]⟩ = ⟨(l ++ [c]).toArray⟩ := ByteArray.ext (by simp)
set_option maxRecDepth 100000 in
set_option maxHeartbeats 3200000 in
theorem only_law (s : List UInt8) (c : UInt8) (w : World) (he : LibEnv w) (_hs : s.length ≤ maxLen) :
    Calls Tryd.prog 12 #[.string ⟨s.toArray⟩, .int .u8 (c.toNat : Int)] w fun e w' => e = .returned (.bool true) ∧ Grows w w' := by
  have cL := llives_any w he
  replace cL := Lib.hid cL
  have hs200 : (s.take 200).length ≤ 200 := by rw [List.length_take]; omega
  have cR : ∀ W, Grows w W → Calls Tryd.prog 40 #[.string ⟨(s.take 200).toArray⟩] W (LReadPost (s.take 200) W) := fun W hW => lRead_any _ (by omega) W (he.grows hW)
  have cRc : ∀ W, Grows w W → Calls Tryd.prog 40 #[.string ⟨(s.take 200 ++ [c]).toArray⟩] W (LReadPost (s.take 200 ++ [c]) W) := fun W hW => lRead_any _ (by rw [List.length_append, List.length_singleton]; omega) W (he.grows hW)
  have cT : ∀ x : Lab, x.ok → ∀ W, Grows w W → Calls Tryd.prog 38 #[.agg #[.int .i64 x.lv, .int .u32 (x.c : Int)]] W (LTup (labTextV x) (labErr x) W) := fun x hx W hW => lText_any x W hx (he.grows hW)
  have hcase : ∀ x e, LabIs (s.take 200) x e → (e = 0 ∧ x.ok ∧ labRight x.lv = true ∧ labTextV x = s.take 200 ∧ labErr x = 0) ∨ (e = 2 ∧ x = ⟨0, 0⟩) := fun x e h => by
    rcases h with ⟨h1, h2, h3, h4⟩ | ⟨h1, h2, _⟩
    · exact .inl ⟨h1, h3, h2, by unfold labTextV; rw [if_pos h2]; exact h4, by unfold labErr; rw [if_pos h2]⟩
    · exact .inr ⟨h1, h2⟩
  have hcase2 : ∀ x y f, labRight x.lv = true → labTextV x = s.take 200 → LabIs (s.take 200 ++ [c]) y f → (f = 0 ∧ x ≠ y) ∨ f = 2 := fun x y f hr ht h => by
    rcases h with ⟨h1, h2, h3, h4⟩ | ⟨h1, _⟩
    · refine .inl ⟨h1, fun e => ?_⟩
      subst e
      unfold labTextV at ht
      rw [if_pos hr, h4] at ht
      have := congrArg List.length ht
      simp at this
    · exact .inr h1
  obtain ⟨M, hM, hMm, hM1⟩ : ∃ M : Nat, min (s.length : Int) 200 = M ∧ M ≤ s.length ∧ s.take M = s.take 200 := by
    by_cases h22 : 200 < s.length
    · exact ⟨200, by omega, by omega, rfl⟩
    · exact ⟨s.length, by omega, by omega, by rw [List.take_of_length_le (by omega), List.take_of_length_le (by omega)]⟩
  have hM1 := Lib.hid hM1
  replace cR := Lib.hid cR
  replace cRc := Lib.hid cRc
  replace cT := Lib.hid cT
  replace hcase := Lib.hid hcase
  replace hcase2 := Lib.hid hcase2
  clear he
  go_enter Tryd.func12, Tryd.ntmps12
  go_wp2_with fail
  refine cL.out.mono ?_
  rintro e w1 ⟨rfl, hg⟩
  clear cL
  go_wp2_with fail
  rw [ext_take, hM1.out]
  refine (cR.out _ hg).mono ?_
  rintro e w2 ⟨x, g, rfl, hy, hb2⟩
  replace hg := (hg.trans hb2).alloc (.cells #[.int .i64 x.lv, .int .u32 (x.c : Int)] 62)
  clear hb2
  rcases hcase.out x g hy with ⟨rfl, hx, hr, ht, hE⟩ | ⟨rfl, rfl⟩
  · have cTx := cT.out x hx
    have cRx := fun W => lRight_any x W
    have h2 := fun y f => hcase2.out x y f hr ht
    rw [ht, hE] at cTx
    rw [hr] at cRx
    clear hcase hcase2 cT hx hr ht hE hy
    replace cTx := Lib.hid cTx
    replace cRx := Lib.hid cRx
    replace h2 := Lib.hid h2
    have blA : Blk (w2.alloc (.cells #[.int .i64 x.lv, .int .u32 (x.c : Int)] 62)) w2.heap.size 62 #[.int .i64 x.lv, .int .u32 (x.c : Int)] := Blk.new w2 62 #[.int .i64 x.lv, .int .u32 (x.c : Int)]
    go_wp2_with fail
    refine (cTx.out _ hg).mono ?_
    rintro e w4 ⟨rfl, hb4⟩
    replace hg := hg.trans hb4
    replace blA := blA.grows hb4
    (try clear d0A); (try clear d1A); (try clear sA)
    have d0A := blA.cell 0
    have d1A := blA.cell 1
    have sA := blA.lt
    clear hb4
    have hcv : (convert 70 9 (.slice (some ⟨w4.heap.size, 0, none⟩) 1 1)).run Tryd.prog (w4.alloc (.cells #[.int .u8 (c.toNat : Int)] 5)) = .ok (.string ⟨#[c]⟩) (w4.alloc (.cells #[.int .u8 (c.toNat : Int)] 5)) :=
      run_convert_bytes_back _ _ _ 5 ⟨w4.heap.size, 0, none⟩ 1 [c] Tryd.underlying70 Tryd.underlying5 Tryd.underlying9 (fun j hj => by
        obtain rfl : j = 0 := by simpa using hj
        simp [Addr.add])
    go_wp2_with fail
    rw [ext_snoc]
    refine (cRc.out _ (hg.alloc _)).mono ?_
    rintro e w5 ⟨y, f, rfl, hy, hb5⟩
    replace hg := (hg.alloc (.cells #[.int .u8 (c.toNat : Int)] 5)).trans hb5
    replace blA := (blA.alloc (.cells #[.int .u8 (c.toNat : Int)] 5)).grows hb5
    (try clear d0A); (try clear d1A); (try clear sA)
    have d0A := blA.cell 0
    have d1A := blA.cell 1
    have sA := blA.lt
    have blB := Blk.new w5 62 #[.int .i64 y.lv, .int .u32 (y.c : Int)]
    have hff := h2.out y f hy
    clear hb5 hy hcv h2 cTx cRc cR
    go_wp2_with fail
    refine (cRx.out _).mono ?_
    rintro e w6 ⟨rfl, hb6⟩
    replace hg := (hg.alloc (.cells #[.int .i64 y.lv, .int .u32 (y.c : Int)] 62)).trans hb6
    replace blA := (blA.alloc (.cells #[.int .i64 y.lv, .int .u32 (y.c : Int)] 62)).grows hb6
    (try clear d0A); (try clear d1A); (try clear sA)
    have d0A := blA.cell 0
    have d1A := blA.cell 1
    have sA := blA.lt
    replace blB := blB.grows hb6
    clear hb6
    have d0B := blB.cell 0
    have d1B := blB.cell 1
    have sB := blB.lt
    rcases hff with ⟨rfl, hne⟩ | rfl
    · go_wp2_with fail
      all_goals first | exact absurd (lab_ext (by assumption) (by omega)) hne | (go_ret; exact ⟨rfl, hg⟩)
    · go_wp2_with fail
      go_ret
      exact ⟨rfl, hg⟩
  · clear hcase hcase2 cT cRc
    go_wp2_with fail
    go_ret
    exact ⟨rfl, by
      repeat (first | assumption | exact Grows.refl _ | apply Grows.drew | apply Grows.drewN | refine Grows.alloc ?_ _ | (refine Grows.setCell ?_ (by first | (simp; done) | (simp; omega) | omega) _) | (refine Grows.trans ?_ (by assumption)))
    ⟩
end Go.Proofs.YtfppagcifcppaaaDoor
