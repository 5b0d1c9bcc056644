/- The law LabelAll returns true at every input, and leaves its arguments as they were; its tied card. No conditions beyond the given statement's own. -/
import Derived.Test.YtfppagcifcppaaaDoorRowL
import Derived.Test.YtfppagcifcppaaaDoorLAll
namespace Go.Proofs.YtfppagcifcppaaaDoor
namespace CLabelAll
open Go.ChangeShapes Go.WideShapes Go.ChangeAt Go.RowKit Go.Deep Go.Joins

set_option maxRecDepth 100000 in
theorem contract (H : Type) (enc : TypeId × Value → H) (W : World) (base : Nat) (args : Array Value) (ds gs : List (DataW H)) (before : List MemPlace)
    (hval : ∀ (j : Nat) t v, Tryd.f17.params[j]? = some t → args[j]? = some v → Value.okWide Tryd.prog W .any base t v)
    (hW : DataW.Whole enc Tryd.prog Tryd.f17.params.toList Rows.labelAllSpec.vars false W args.toList ds gs before) (hL : laidMetH Tryd.prog Rows.labelAllRow.laid W) (hS : W.ShapedOpen Tryd.prog) :
    Calls Tryd.prog 17 args W fun e W' => ∃ v, e = .returned v ∧ Rows.labelAllSpec.post enc Tryd.prog Tryd.f17 false true false false W args v W' := by
  have hW' := hW
  obtain ⟨p, q, hA0, hV, rfl, hfz, hnd⟩ := hW
  have hA : DataW.TrodAll enc Tryd.prog W 0 (fun _ => true) true Tryd.f17.params.toList args.toList ds p := hA0
  rw [Tryd.params17] at hA hval
  obtain ⟨v0, vs0, d0, ds0, p0, q0, hargs, rfl, rfl, h0, r0⟩ := trodAll_cons hA
  obtain ⟨v1, vs1, d1, ds1, p1, q1, rfl, rfl, rfl, h1, r1⟩ := trodAll_cons r0
  obtain ⟨rfl, rfl, rfl⟩ := trodAll_nil r1
  obtain rfl : args = #[v0, v1] := by cases args; simp_all
  obtain ⟨rfl, rfl⟩ := trodVars_none hV
  obtain ⟨A0, m0, c0, ws0, rfl, hmc0, hcm0, hArr0, hok0⟩ := open_labs Tryd.underlying78 Tryd.underlying62 (by kernel_rfl) (by kernel_rfl) Tryd.underlying3 Tryd.underlying60 (hval 0 _ _ rfl rfl) h0
  obtain ⟨x1, rfl, hok1⟩ := open_lab Tryd.underlying62 (by kernel_rfl) (by kernel_rfl) Tryd.underlying3 Tryd.underlying60 (hval 1 _ _ rfl rfl) h1
  refine (all_law A0 m0 c0 ws0 x1 W (env_ofL hL hS) hArr0 hmc0 hcm0 hok0 hok1).mono fun e W' ⟨he, hg⟩ => ⟨_, he, ?_⟩
  exact post_true (by kernel_rfl) (fun t ht => by
    have hall : (Tryd.f17.params.toList.all fun t => Tryd.prog.readableRec t && decide (t < Tryd.prog.types.size)) = true := by kernel_rfl
    simpa using List.all_eq_true.1 hall t ht) rfl hW' rfl (by kernel_rfl) Tryd.underlying4 hg

set_option maxRecDepth 100000 in
theorem lifted (os : Os) (started : os.Started) (H : Type) (enc : TypeId × Value → H) (F : Stop.Interp) :
    ReturnsInHanded {} Tryd.checked os 17 .any ((OpenSpec.ofChange Rows.labelAllSpec).preRow enc Tryd.prog Tryd.f17 Rows.labelAllRow.domain false Rows.labelAllRow.laid) (((OpenSpec.ofChange Rows.labelAllSpec).at F).post enc Tryd.prog Tryd.f17 false true false false) := by
  obtain ⟨places, hx⟩ : ∃ places, DataW.whole enc Tryd.prog ((World.laidAll Tryd.prog os laidL).forCall (fun _ _ => 0) ⟨#[], #[.slice none 0 0, .agg #[.int .i64 0, .int .u32 0]], []⟩).memory Tryd.f17.params.toList Rows.labelAllSpec.vars false #[Value.slice none 0 0, .agg #[.int .i64 0, .int .u32 0]].toList 8 = some ([.nil, .agg [.lit (.int .i64 0), .lit (.int .u32 0)]], [], places) := ⟨[], by kernel_rfl⟩
  refine returnsInHanded_of_row (C := Tryd.checked) (s := OpenSpec.ofChange Rows.labelAllSpec) own started (by kernel_rfl) Tryd.func17
    (witness_row_atRef (enc := enc) (C := Tryd.checked) false (World.laidAll Tryd.prog os laidL) #[.slice none 0 0, .agg #[.int .i64 0, .int .u32 0]] rfl (lay_shaped os _) (by kernel_rfl) (by kernel_rfl)
      (OpenSpec.preRow_of_cond 8 hx (by kernel_rfl) (fun k hk => by cases hk) (by kernel_rfl) (lay_met os _))) ?_
  intro W base args ds gs before hval hW _ _ _ hL hS _
  exact contract H enc W base args ds gs before hval hW hL hS
theorem said : Rows.LabelAllSaid :=
  OpenClaim.holds_of_cond 17 Tryd.f17 rfl rfl rfl rfl rfl rfl rfl ⟨rfl, rfl, rfl, rfl, rfl⟩ rfl rfl rfl rfl rfl (by kernel_rfl) Tryd.func17 (by kernel_rfl)
    (of_decide_eq_true (by kernel_rfl)) (by unfold Func.isWrapper; first | (rw [if_pos (by decide +kernel)]; kernel_rfl) | (rw [if_neg (by decide +kernel)]; exact ⟨rfl, rfl⟩))
    (fun os started H enc _ F => by rw [OpenClaim.pre_eq_preRow]; exact lifted os started H enc F)
theorem plain (f : FuncId) (fn : Func) (hf : Tryd.pinned.checked.prog.funcNamed "lychgate/lychgatelaw01.LabelAll" = some f) (hfn : Tryd.pinned.checked.prog.funcs[f]? = some fn) :
    true = Tryd.pinned.checked.prog.looks [] ∧ ∀ (j : Nat) t, fn.params[j]? = some t → Tryd.pinned.checked.prog.wantsStandIn t = false := by
  obtain rfl : f = 17 := Option.some.inj ((show Tryd.prog.funcNamed "lychgate/lychgatelaw01.LabelAll" = some 17 by kernel_rfl).symm.trans hf) |>.symm
  obtain rfl : fn = Tryd.f17 := (Option.some.inj (Tryd.func17.symm.trans hfn)).symm
  refine ⟨by kernel_rfl, fun j t ht => ?_⟩
  have hall : (Tryd.f17.params.toList.all fun t => !Tryd.prog.wantsStandIn t) = true := by kernel_rfl
  have hm : t ∈ Tryd.f17.params.toList := by simpa using Array.mem_of_getElem? ht
  exact (show Tryd.prog.wantsStandIn t = false by simpa using List.all_eq_true.1 hall t hm)
theorem card : Rows.LabelAllCardSaid :=
  Claim7.holds_tied_plain_at .later [] _ _ _ _ said (fun _ h => by cases h) (by kernel_rfl) (fun _ h => by cases h) labelAll_row_tie rfl ⟨rfl, rfl⟩ (by kernel_rfl) rfl plain (by kernel_rfl)
end CLabelAll
end Go.Proofs.YtfppagcifcppaaaDoor
