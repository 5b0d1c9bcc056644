/- Labels: how many bits. -/
import Derived.Test.YtfppagcifcppaaaDoorLabC
namespace Go.Proofs.YtfppagcifcppaaaDoor
open Go.RowKit

theorem wrap_small (Z : Int) : 0 ≤ IntKind.i64.wrap (IntKind.u8.wrap Z) ∧ IntKind.i64.wrap (IntKind.u8.wrap Z) ≤ 255 := by
  rw [IntKind.wrap_u8', IntWalk.i64_in _ (by omega)]
  omega
def SomeCount (w : World) (e : Ending) (w' : World) : Prop := ∃ n : Int, e = .returned (.int .i64 n) ∧ 0 ≤ n ∧ n ≤ 255 ∧ Grows w w'
theorem and_255 {a : Int} (h0 : 0 ≤ a) (h1 : a < 4294967296) : ∃ A : Int, bits .and .u32 a 255 = A ∧ 0 ≤ A ∧ A < (Lib.pop8tab.size : Int) := by
  have hz : (Lib.pop8tab.size : Int) = 256 := by decide +kernel
  have h := u32_and a 255 h0 h1 (by decide) (by decide)
  refine ⟨_, h, by omega, ?_⟩
  have : a.toNat &&& (255 : Int).toNat ≤ 255 := Nat.and_le_right
  omega
set_option maxRecDepth 100000 in
set_option maxHeartbeats 1600000 in
theorem ones_any (x : Int) (w : World) (h0 : 0 ≤ x) (h1 : x < 4294967296) :
    Calls Tryd.prog 66 #[.int .u32 x] w (SomeCount w) := by
  have hz : (Lib.pop8tab.size : Int) = 256 := by decide +kernel
  have e1 : 0 ≤ x / 16777216 ∧ x / 16777216 < (Lib.pop8tab.size : Int) := by omega
  obtain ⟨e1a, e1b⟩ := e1
  obtain ⟨A, hA, hA0, hA1⟩ := and_255 (a := x / 65536) (by omega) (by omega)
  obtain ⟨B, hB, hB0, hB1⟩ := and_255 (a := x / 256) (by omega) (by omega)
  obtain ⟨C, hC, hC0, hC1⟩ := and_255 (a := x) (by omega) (by omega)
  clear hz
  go_enter Tryd.func66, Tryd.ntmps66
  go_wp2
  refine wp_region_bel (by kernel_rfl) (by kernel_rfl) ?_
  repeat (refine wpQuiet_step (fun K hK => ?_); go_simp; first | (refine hK _ ?_; clear hK K) | (apply Exists.intro; refine ⟨fun wq hbq => ?_, hK _ ?_⟩; (first | fail | (obtain ⟨hcq, hfq⟩ := bcells hbq; go_simp; done) | (obtain ⟨hcq, hfq⟩ := bcells hbq; go_simp; exact ⟨rfl, rfl⟩) | (obtain ⟨hcq, hfq⟩ := bcells hbq; go_simp; rfl)); clear hK K))
  refine wpQuiet_nil ?_
  intro w1 hbw1
  go_wp2
  go_ret
  exact ⟨_, rfl, (wrap_small _).1, (wrap_small _).2, hbw1⟩
end Go.Proofs.YtfppagcifcppaaaDoor
