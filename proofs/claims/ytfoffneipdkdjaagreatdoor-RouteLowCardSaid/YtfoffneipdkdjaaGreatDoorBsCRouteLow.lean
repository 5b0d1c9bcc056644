/- The law RouteLow returns true at every input, and leaves its arguments as they were; its tied card. No conditions beyond the given statement's own. -/
import Derived.Test.YtfoffneipdkdjaaGreatDoorBsRowT
import Derived.Test.YtfoffneipdkdjaaGreatDoorBsLLow
import Derived.Test.YtfoffneipdkdjaaGreatDoorBs20
namespace Go.Proofs.YtfoffneipdkdjaaGreatDoor
namespace CRouteLow
open Go.ChangeShapes Go.WideShapes Go.ChangeAt Go.RowKit Go.Deep Go.Joins

set_option maxRecDepth 100000 in
theorem contract (H : Type) (enc : TypeId × Value → H) (W : World) (base : Nat) (args : Array Value) (ds gs : List (DataW H)) (before : List MemPlace)
    (hval : ∀ (j : Nat) t v, Tryz.f8.params[j]? = some t → args[j]? = some v → Value.okWide Tryz.prog W .any base t v)
    (hW : DataW.Whole enc Tryz.prog Tryz.f8.params.toList Rows.routeLowSpec.vars false W args.toList ds gs before) (hL : laidMetH Tryz.prog Rows.routeLowRow.laid W) (_ : W.ShapedOpen Tryz.prog) :
    Calls Tryz.prog 8 args W fun e W' => ∃ v, e = .returned v ∧ Rows.routeLowSpec.post enc Tryz.prog Tryz.f8 false true false false W args v W' := by
  have hW' := hW
  obtain ⟨p, q, hA0, hV, rfl, hfz, hnd⟩ := hW
  have hA : DataW.TrodAll enc Tryz.prog W 0 (fun _ => true) true Tryz.f8.params.toList args.toList ds p := hA0
  rw [Tryz.params8] at hA hval
  obtain ⟨v0, vs0, d0, ds0, p0, q0, hargs, rfl, rfl, h0, r0⟩ := trodAll_cons hA
  obtain ⟨v1, vs1, d1, ds1, p1, q1, rfl, rfl, rfl, h1, r1⟩ := trodAll_cons r0
  obtain ⟨v2, vs2, d2, ds2, p2, q2, rfl, rfl, rfl, h2, r2⟩ := trodAll_cons r1
  obtain ⟨rfl, rfl, rfl⟩ := trodAll_nil r2
  obtain rfl : args = #[v0, v1, v2] := by cases args; simp_all
  obtain ⟨rfl, rfl⟩ := trodVars_none hV
  obtain ⟨p0, rfl, hp0, hc0⟩ := open_agg Tryz.underlying32 opens_pol (hval 0 _ _ rfl rfl) h0
  obtain ⟨A1, m1, c1, rfl⟩ := okWide_slice Tryz.underlying33 (hval 1 _ _ rfl rfl)
  obtain ⟨y1, hy1, hb1⟩ := open_one (e := fun (y : SlX AlrX) => .slice y.A y.m y.k) opens_alrsT rfl h1
  injection hy1 with e1 e2 e3
  subst e1 e2 e3
  obtain ⟨x2, rfl, hx2⟩ := open_str Tryz.underlying9 (hval 2 _ _ rfl rfl) h2
  refine (llow_law fines_any fitss_any (p := p0) (A0 := y1.A) (m0 := y1.m) (c0 := y1.k) (xs := y1.l) (val := x2) W (env_ofR hL) hp0 hc0 hb1.2.2.1 (by have h1 := hb1.1; have h2 := hb1.2.1; unfold maxLen at h2; omega) (fun x hx => by have h := (hb1.2.2.2 x hx).1; have h2 := h.2.1; unfold maxLen at h2; exact ⟨h.1, by omega⟩) (fun x hx => (hb1.2.2.2 x hx).1.2.2) (fun x hx f hf => by have h := (hb1.2.2.2 x hx).2 f hf; unfold maxLen at h; exact h) (by unfold maxLen at hx2; exact hx2)).mono fun e W' ⟨he, hg⟩ => ⟨_, he, ?_⟩
  exact post_true (by kernel_rfl) (fun t ht => by
    have hall : (Tryz.f8.params.toList.all fun t => Tryz.prog.readableRec t && decide (t < Tryz.prog.types.size)) = true := by kernel_rfl
    simpa using List.all_eq_true.1 hall t ht) rfl hW' rfl (by kernel_rfl) Tryz.underlying4 hg

def wit : Array Value := #[.agg #[.slice none 0 0, .slice none 0 0, .slice none 0 0, .slice none 0 0, .slice none 0 0, .slice none 0 0], .slice none 0 0, .string ⟨#[]⟩]
set_option maxRecDepth 100000 in
theorem lifted (os : Os) (started : os.Started) (H : Type) (enc : TypeId × Value → H) (F : Stop.Interp) :
    ReturnsInHanded {} Tryz.checked os 8 .any ((OpenSpec.ofChange Rows.routeLowSpec).preRow enc Tryz.prog Tryz.f8 Rows.routeLowRow.domain false Rows.routeLowRow.laid) (((OpenSpec.ofChange Rows.routeLowSpec).at F).post enc Tryz.prog Tryz.f8 false true false false) := by
  obtain ⟨places, hx⟩ : ∃ places, DataW.whole enc Tryz.prog ((World.laidAll Tryz.prog os laidR).forCall (fun _ _ => 0) ⟨#[], wit, []⟩).memory Tryz.f8.params.toList Rows.routeLowSpec.vars false wit.toList 8 = some ([.agg [.nil, .nil, .nil, .nil, .nil, .nil], .nil, .lit (.string [])], [], places) := ⟨[], by kernel_rfl⟩
  refine returnsInHanded_of_row (C := Tryz.checked) (s := OpenSpec.ofChange Rows.routeLowSpec) own started (by kernel_rfl) Tryz.func8
    (witness_row_atRef (enc := enc) (C := Tryz.checked) false (World.laidAll Tryz.prog os laidR) wit rfl (lay_shaped os _) (by kernel_rfl) (by kernel_rfl)
      (OpenSpec.preRow_of_cond 8 hx (by kernel_rfl) (fun k hk => by cases hk) (by kernel_rfl) (lay_met os _))) ?_
  intro W base args ds gs before hval hW _ _ _ hL hS _
  exact contract H enc W base args ds gs before hval hW hL hS
theorem said : Rows.RouteLowSaid :=
  OpenClaim.holds_of_cond 8 Tryz.f8 rfl rfl rfl rfl rfl rfl rfl ⟨rfl, rfl, rfl, rfl, rfl⟩ rfl rfl rfl rfl rfl (by kernel_rfl) Tryz.func8 (by kernel_rfl)
    (of_decide_eq_true (by kernel_rfl)) (by unfold Func.isWrapper; first | (rw [if_pos (by decide +kernel)]; kernel_rfl) | (rw [if_neg (by decide +kernel)]; exact ⟨rfl, rfl⟩))
    (fun os started H enc _ F => by rw [OpenClaim.pre_eq_preRow]; exact lifted os started H enc F)
theorem plain (f : FuncId) (fn : Func) (hf : Tryz.pinned.checked.prog.funcNamed "lychgate/lychgatelaw11.RouteLow" = some f) (hfn : Tryz.pinned.checked.prog.funcs[f]? = some fn) :
    false = Tryz.pinned.checked.prog.looks [] ∧ ∀ (j : Nat) t, fn.params[j]? = some t → Tryz.pinned.checked.prog.wantsStandIn t = false := by
  obtain rfl : f = 8 := Option.some.inj ((show Tryz.prog.funcNamed "lychgate/lychgatelaw11.RouteLow" = some 8 by kernel_rfl).symm.trans hf) |>.symm
  obtain rfl : fn = Tryz.f8 := (Option.some.inj (Tryz.func8.symm.trans hfn)).symm
  refine ⟨by kernel_rfl, fun j t ht => ?_⟩
  have hall : (Tryz.f8.params.toList.all fun t => !Tryz.prog.wantsStandIn t) = true := by kernel_rfl
  have hm : t ∈ Tryz.f8.params.toList := by simpa using Array.mem_of_getElem? ht
  exact (show Tryz.prog.wantsStandIn t = false by simpa using List.all_eq_true.1 hall t hm)
theorem card : Rows.RouteLowCardSaid :=
  Claim7.holds_tied_plain_at .later [] _ _ _ _ said (fun _ h => by cases h) (by kernel_rfl) (fun _ h => by cases h) routeLow_row_tie rfl ⟨rfl, rfl⟩ (by kernel_rfl) rfl plain (by kernel_rfl)
end CRouteLow
end Go.Proofs.YtfoffneipdkdjaaGreatDoor
