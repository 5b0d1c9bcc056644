/- The law LabelLeast returns true at every input, and leaves its arguments as they were; its tied card. No conditions beyond the given statement's own. -/
import Derived.Test.YtfppagcifcppaaaDoorRowL
import Derived.Test.YtfppagcifcppaaaDoorLLeast
namespace Go.Proofs.YtfppagcifcppaaaDoor
namespace CLabelLeast
open Go.ChangeShapes Go.WideShapes Go.ChangeAt Go.RowKit Go.Deep Go.Joins

set_option maxRecDepth 100000 in
theorem contract (H : Type) (enc : TypeId × Value → H) (W : World) (base : Nat) (args : Array Value) (ds gs : List (DataW H)) (before : List MemPlace)
    (hval : ∀ (j : Nat) t v, Tryd.f14.params[j]? = some t → args[j]? = some v → Value.okWide Tryd.prog W .any base t v)
    (hW : DataW.Whole enc Tryd.prog Tryd.f14.params.toList Rows.labelLeastSpec.vars false W args.toList ds gs before) (hL : laidMetH Tryd.prog Rows.labelLeastRow.laid W) (hS : W.ShapedOpen Tryd.prog) :
    Calls Tryd.prog 14 args W fun e W' => ∃ v, e = .returned v ∧ Rows.labelLeastSpec.post enc Tryd.prog Tryd.f14 false true false false W args v W' := by
  have hW' := hW
  obtain ⟨p, q, hA0, hV, rfl, hfz, hnd⟩ := hW
  have hA : DataW.TrodAll enc Tryd.prog W 0 (fun _ => true) true Tryd.f14.params.toList args.toList ds p := hA0
  rw [Tryd.params14] at hA hval
  obtain ⟨v0, vs0, d0, ds0, p0, q0, hargs, rfl, rfl, h0, r0⟩ := trodAll_cons hA
  obtain ⟨v1, vs1, d1, ds1, p1, q1, rfl, rfl, rfl, h1, r1⟩ := trodAll_cons r0
  obtain ⟨v2, vs2, d2, ds2, p2, q2, rfl, rfl, rfl, h2, r2⟩ := trodAll_cons r1
  obtain ⟨rfl, rfl, rfl⟩ := trodAll_nil r2
  obtain rfl : args = #[v0, v1, v2] := by cases args; simp_all
  obtain ⟨rfl, rfl⟩ := trodVars_none hV
  obtain ⟨x0, rfl, hok0⟩ := open_lab Tryd.underlying62 (by kernel_rfl) (by kernel_rfl) Tryd.underlying3 Tryd.underlying60 (hval 0 _ _ rfl rfl) h0
  obtain ⟨x1, rfl, hok1⟩ := open_lab Tryd.underlying62 (by kernel_rfl) (by kernel_rfl) Tryd.underlying3 Tryd.underlying60 (hval 1 _ _ rfl rfl) h1
  obtain ⟨x2, rfl, hok2⟩ := open_lab Tryd.underlying62 (by kernel_rfl) (by kernel_rfl) Tryd.underlying3 Tryd.underlying60 (hval 2 _ _ rfl rfl) h2
  refine (least_law x0 x1 x2 W (env_ofL hL hS) hok0 hok1 hok2).mono fun e W' ⟨he, hg⟩ => ⟨_, he, ?_⟩
  exact post_true (by kernel_rfl) (fun t ht => by
    have hall : (Tryd.f14.params.toList.all fun t => Tryd.prog.readableRec t && decide (t < Tryd.prog.types.size)) = true := by kernel_rfl
    simpa using List.all_eq_true.1 hall t ht) rfl hW' rfl (by kernel_rfl) Tryd.underlying4 hg

set_option maxRecDepth 100000 in
theorem lifted (os : Os) (started : os.Started) (H : Type) (enc : TypeId × Value → H) (F : Stop.Interp) :
    ReturnsInHanded {} Tryd.checked os 14 .any ((OpenSpec.ofChange Rows.labelLeastSpec).preRow enc Tryd.prog Tryd.f14 Rows.labelLeastRow.domain false Rows.labelLeastRow.laid) (((OpenSpec.ofChange Rows.labelLeastSpec).at F).post enc Tryd.prog Tryd.f14 false true false false) := by
  obtain ⟨places, hx⟩ : ∃ places, DataW.whole enc Tryd.prog ((World.laidAll Tryd.prog os laidL).forCall (fun _ _ => 0) ⟨#[], #[.agg #[.int .i64 0, .int .u32 0], .agg #[.int .i64 0, .int .u32 0], .agg #[.int .i64 0, .int .u32 0]], []⟩).memory Tryd.f14.params.toList Rows.labelLeastSpec.vars false #[Value.agg #[.int .i64 0, .int .u32 0], .agg #[.int .i64 0, .int .u32 0], .agg #[.int .i64 0, .int .u32 0]].toList 8 = some ([.agg [.lit (.int .i64 0), .lit (.int .u32 0)], .agg [.lit (.int .i64 0), .lit (.int .u32 0)], .agg [.lit (.int .i64 0), .lit (.int .u32 0)]], [], places) := ⟨[], by kernel_rfl⟩
  refine returnsInHanded_of_row (C := Tryd.checked) (s := OpenSpec.ofChange Rows.labelLeastSpec) own started (by kernel_rfl) Tryd.func14
    (witness_row_atRef (enc := enc) (C := Tryd.checked) false (World.laidAll Tryd.prog os laidL) #[.agg #[.int .i64 0, .int .u32 0], .agg #[.int .i64 0, .int .u32 0], .agg #[.int .i64 0, .int .u32 0]] rfl (lay_shaped os _) (by kernel_rfl) (by kernel_rfl)
      (OpenSpec.preRow_of_cond 8 hx (by kernel_rfl) (fun k hk => by cases hk) (by kernel_rfl) (lay_met os _))) ?_
  intro W base args ds gs before hval hW _ _ _ hL hS _
  exact contract H enc W base args ds gs before hval hW hL hS
theorem said : Rows.LabelLeastSaid :=
  OpenClaim.holds_of_cond 14 Tryd.f14 rfl rfl rfl rfl rfl rfl rfl ⟨rfl, rfl, rfl, rfl, rfl⟩ rfl rfl rfl rfl rfl (by kernel_rfl) Tryd.func14 (by kernel_rfl)
    (of_decide_eq_true (by kernel_rfl)) (by unfold Func.isWrapper; first | (rw [if_pos (by decide +kernel)]; kernel_rfl) | (rw [if_neg (by decide +kernel)]; exact ⟨rfl, rfl⟩))
    (fun os started H enc _ F => by rw [OpenClaim.pre_eq_preRow]; exact lifted os started H enc F)
theorem plain (f : FuncId) (fn : Func) (hf : Tryd.pinned.checked.prog.funcNamed "lychgate/lychgatelaw01.LabelLeast" = some f) (hfn : Tryd.pinned.checked.prog.funcs[f]? = some fn) :
    true = Tryd.pinned.checked.prog.looks [] ∧ ∀ (j : Nat) t, fn.params[j]? = some t → Tryd.pinned.checked.prog.wantsStandIn t = false := by
  obtain rfl : f = 14 := Option.some.inj ((show Tryd.prog.funcNamed "lychgate/lychgatelaw01.LabelLeast" = some 14 by kernel_rfl).symm.trans hf) |>.symm
  obtain rfl : fn = Tryd.f14 := (Option.some.inj (Tryd.func14.symm.trans hfn)).symm
  refine ⟨by kernel_rfl, fun j t ht => ?_⟩
  have hall : (Tryd.f14.params.toList.all fun t => !Tryd.prog.wantsStandIn t) = true := by kernel_rfl
  have hm : t ∈ Tryd.f14.params.toList := by simpa using Array.mem_of_getElem? ht
  exact (show Tryd.prog.wantsStandIn t = false by simpa using List.all_eq_true.1 hall t hm)
theorem card : Rows.LabelLeastCardSaid :=
  Claim7.holds_tied_plain_at .later [] _ _ _ _ said (fun _ h => by cases h) (by kernel_rfl) (fun _ h => by cases h) labelLeast_row_tie rfl ⟨rfl, rfl⟩ (by kernel_rfl) rfl plain (by kernel_rfl)
end CLabelLeast
end Go.Proofs.YtfppagcifcppaaaDoor
