/- Windows: the document's example holds. -/
import Derived.Test.YtfppagcifcppaaaDoorWinK
import Derived.Test.YtfppagcifcppaaaDoorWinH
import Derived.Test.YtfppagcifcppaaaDoorWinG
import Derived.Test.YtfppagcifcppaaaDoorWinF
namespace Go.Proofs.YtfppagcifcppaaaDoor
open Go.RowKit

theorem Arr.one {W : World} {g : Nat} {t : TypeId} {x : Win} (h : Blk W g t #[.int .i64 x.p, .int .i64 x.f, .int .i64 x.l]) : Arr W 3 encW (some ⟨g, 0, none⟩) 1 [x] :=
  ⟨rfl, fun _ => ⟨g, 0, rfl, h.lt, fun i hi j u hu => by
    obtain rfl : i = 0 := by simpa using hi
    rw [h.cell]
    simpa [encW] using hu⟩⟩
theorem ex_text : textW ⟨7, 5, 2⟩ = [55, 58, 53, 43, 50] := by
  have h1 : rightW ⟨7, 5, 2⟩ = true := by decide
  unfold textW
  rw [if_pos h1]
  unfold textL
  rw [Lib.decDigits_one (by decide), Lib.decDigits_one (by decide), Lib.decDigits_one (by decide)]
  rfl
theorem ex_read {x : Win} {e : Int} (h : ReadIs [55, 58, 53, 43, 50] x e) : x = ⟨7, 5, 2⟩ ∧ e = 0 := h.one (.inl ⟨rfl, by decide, ex_text⟩)
theorem ex_next {n : Int} {ok : Bool} (h : NextIs (mutedAt [⟨7, 5, 2⟩]) (max 5 0) n ok) : n = 7 ∧ ok = true := h.one (.inl ⟨rfl, by decide, by decide, by decide, by decide, fun s h1 h2 => by
    have : s = 5 ∨ s = 6 := by omega
    rcases this with rfl | rfl <;> decide⟩)
theorem ex_count : countW [⟨7, 5, 2⟩] 0 13 = 4 := by decide
set_option maxRecDepth 100000 in
set_option maxHeartbeats 1600000 in
theorem lives_any (w : World) (he : LibEnv w) :
    Calls Tryd.prog 18 #[] w fun e w' => e = .returned (.bool true) ∧ Grows w w' := by
  have cR := read_any [55, 58, 53, 43, 50] (by simp) w he
  have cN := fun A W h => next_any A 1 1 [⟨7, 5, 2⟩] 5 W h (by omega) (by simp [maxLen])
  have cC := fun A W h => count_any A 1 1 [⟨7, 5, 2⟩] 0 13 W h (by omega) (by simp [maxLen])
  rw [ex_count] at cC
  have c4 := fun W => in_any 7 5 2 4 W
  have c5 := fun W => in_any 7 5 2 5 W
  have c6 := fun W => in_any 7 5 2 6 W
  have c7 := fun W => in_any 7 5 2 7 W
  rw [show wIn 7 5 2 4 = false by decide] at c4
  rw [show wIn 7 5 2 5 = true by decide] at c5
  rw [show wIn 7 5 2 6 = true by decide] at c6
  rw [show wIn 7 5 2 7 = false by decide] at c7
  replace cR := Lib.hid cR
  replace cN := Lib.hid cN
  replace cC := Lib.hid cC
  replace c4 := Lib.hid c4
  replace c5 := Lib.hid c5
  replace c6 := Lib.hid c6
  replace c7 := Lib.hid c7
  go_enter Tryd.func18, Tryd.ntmps18
  go_wp2_with fail
  refine cR.out.mono ?_
  rintro e w1 ⟨x, err, rfl, hr, hb1⟩
  obtain ⟨rfl, rfl⟩ := ex_read hr
  clear hr cR
  simp only [encW]
  go_wp2_with fail
  refine (cN.out _ _ (Arr.one (x := ⟨7, 5, 2⟩) (by simpa using Blk.new (w1.alloc _) 39 _))).mono ?_
  rintro e w2 ⟨n, ok, rfl, hn, hb2⟩
  obtain ⟨rfl, rfl⟩ := ex_next hn
  clear hn cN
  have bl : Blk w2 w1.heap.size 39 #[.int .i64 7, .int .i64 5, .int .i64 2] := ((Blk.new w1 _ _).alloc _).grows hb2
  have hg : Grows w w2 := ((hb1.alloc _).alloc _).trans hb2
  have d0 : w2.cell? ⟨w1.heap.size, 0, none⟩ = some (.int .i64 7) := bl.cell 0
  have d1 : w2.cell? ⟨w1.heap.size, 1, none⟩ = some (.int .i64 5) := bl.cell 1
  have d2 : w2.cell? ⟨w1.heap.size, 2, none⟩ = some (.int .i64 2) := bl.cell 2
  clear hb1 hb2
  go_wp2_with fail
  refine (c4.out _).mono ?_
  rintro e wc4 ⟨rfl, hb5⟩
  replace bl := bl.grows hb5
  replace hg := hg.trans hb5
  clear hb5 d0 d1 d2
  have d0 : wc4.cell? ⟨w1.heap.size, 0, none⟩ = some (.int .i64 7) := bl.cell 0
  have d1 : wc4.cell? ⟨w1.heap.size, 1, none⟩ = some (.int .i64 5) := bl.cell 1
  have d2 : wc4.cell? ⟨w1.heap.size, 2, none⟩ = some (.int .i64 2) := bl.cell 2
  go_wp2_with fail
  refine (c5.out _).mono ?_
  rintro e wc5 ⟨rfl, hb5⟩
  replace bl := bl.grows hb5
  replace hg := hg.trans hb5
  clear hb5 d0 d1 d2
  have d0 : wc5.cell? ⟨w1.heap.size, 0, none⟩ = some (.int .i64 7) := bl.cell 0
  have d1 : wc5.cell? ⟨w1.heap.size, 1, none⟩ = some (.int .i64 5) := bl.cell 1
  have d2 : wc5.cell? ⟨w1.heap.size, 2, none⟩ = some (.int .i64 2) := bl.cell 2
  go_wp2_with fail
  refine (c6.out _).mono ?_
  rintro e wc6 ⟨rfl, hb5⟩
  replace bl := bl.grows hb5
  replace hg := hg.trans hb5
  clear hb5 d0 d1 d2
  have d0 : wc6.cell? ⟨w1.heap.size, 0, none⟩ = some (.int .i64 7) := bl.cell 0
  have d1 : wc6.cell? ⟨w1.heap.size, 1, none⟩ = some (.int .i64 5) := bl.cell 1
  have d2 : wc6.cell? ⟨w1.heap.size, 2, none⟩ = some (.int .i64 2) := bl.cell 2
  go_wp2_with fail
  refine (c7.out _).mono ?_
  rintro e wc7 ⟨rfl, hb5⟩
  replace bl := bl.grows hb5
  replace hg := hg.trans hb5
  clear hb5 d0 d1 d2
  have d0 : wc7.cell? ⟨w1.heap.size, 0, none⟩ = some (.int .i64 7) := bl.cell 0
  have d1 : wc7.cell? ⟨w1.heap.size, 1, none⟩ = some (.int .i64 5) := bl.cell 1
  have d2 : wc7.cell? ⟨w1.heap.size, 2, none⟩ = some (.int .i64 2) := bl.cell 2
  go_wp2_with fail
  refine (cC.out _ _ (Arr.one (x := ⟨7, 5, 2⟩) (Blk.new _ 39 _))).mono ?_
  rintro e w5 ⟨rfl, hb5⟩
  go_wp2_with fail
  go_ret
  exact ⟨rfl, (hg.alloc _).trans hb5⟩
end Go.Proofs.YtfppagcifcppaaaDoor
