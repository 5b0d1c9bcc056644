/- The law RouteKeys returns true at every input, and leaves its arguments as they were; its tied card. No conditions beyond the given statement's own. -/
import Derived.Test.YtfoffneipdkdjaaGreatDoorMk11
import Derived.Test.YtfoffneipdkdjaaGreatDoorMk2
import Derived.Test.YtfoffneipdkdjaaGreatDoorMk7
import Derived.Test.YtfoffneipdkdjaaGreatDoorMk4
namespace Go.Proofs.YtfoffneipdkdjaaGreatDoor
open Go.RowKit Go.Maps

theorem map_one {α β : Type} {f : α → β} {l : List α} {y : β} (h : l.map f = [y]) : ∃ x, l = [x] ∧ f x = y := by
  match l, h with
  | [], h => cases h
  | [x], h => exact ⟨x, rfl, by simpa using h⟩
  | _ :: _ :: _, h => simp at h
set_option maxRecDepth 100000 in
set_option maxHeartbeats 6400000 in
theorem rlives_any (w : World) (he : LibEnv w) :
    Calls Tryz.prog 9 #[] w fun e w' => e = .returned (.bool true) ∧ Grows w w' := by
  have cGr := groups_any (p := xPolX w) (rec := xPager) (lk := 2) (xs := [xAlrX w, xBlrX w]) (now := 0) (fb := fT) (ft := fTT) (rl9 w) (he.grows (rl_g w)) (xPol_at w) (xFines w) (xFits w) (xL_at w) (by
    intro a ha
    simp only [List.mem_cons, List.not_mem_nil, or_false] at ha
    rcases ha with rfl | rfl
    · exact xA_at w
    · exact xB_at w) (by omega)
  have cGo := fun W (hW : Grows (rl9 w) W) => goes_any (fb := fT) (ft := fTT) (p := xPolX w) (rec := xPager) (a := xAlrX w) (now := 0) W ((xPol_at w).keep hW) (xFines w) (xFits w) ((xA_at w).keep hW)
  have hg9 := rl_g w
  have b4 := rl_b4 w
  have b6 := rl_b6 w
  replace cGr := Lib.hid cGr
  replace cGo := Lib.hid cGo
  replace hg9 := Lib.hid hg9
  replace b4 := Lib.hid b4
  replace b6 := Lib.hid b6
  go_enter Tryz.func9, Tryz.ntmps9
  go_wp2_with fail
  refine (cGr.out).mono ?_
  rintro e w2 ⟨v, gs, rfl, hO, hGs, hgs, hb⟩
  obtain ⟨ids, hx, hil⟩ := x_groups
  have hgs2 : gs.map GrpX.g = [⟨0, xBy, keyA xPager 0 xBy, ids⟩] := hgs.trans hx
  obtain ⟨x, rfl, hxg⟩ : ∃ x, gs = [x] ∧ x.g = ⟨0, xBy, keyA xPager 0 xBy, ids⟩ := map_one hgs2
  obtain ⟨hxi, hxf⟩ := hGs x (by simp)
  obtain ⟨xr, xk, xb, xbA, xbm, xbk, xi, xiA, xim, xik⟩ := x
  simp only [GrpX.g, Grp.mk.injEq] at hxg
  obtain ⟨rfl, rfl, rfl, rfl⟩ := hxg
  obtain ⟨_, _, hv1, _, _, _⟩ := hxi.arr hkU
  simp only [GrpX.iv, Value.slice.injEq] at hv1
  obtain ⟨_, hv1, _⟩ := hv1
  obtain ⟨_, _, hv2, _, _, hbA⟩ := hxf.arr hkF
  simp only [GrpX.bv, Value.slice.injEq] at hv2
  obtain ⟨rfl, hv2, rfl⟩ := hv2
  obtain ⟨gb, cap, rfl⟩ := own_form hO (by simp)
  obtain ⟨y, hy, hc, hf⟩ := hO.at_ hkG (i := 0) (by simp)
  simp only [List.getElem?_cons_zero, Option.some.injEq] at hy
  subst hy
  have g1 : w2.cell? ⟨gb, 1, none⟩ = some (.slice xbA xbm xbk) := by simpa using hc 1 _ rfl
  have g2 : w2.cell? ⟨gb, 2, none⟩ = some (.int .u64 ((keyA xPager 0 xBy : Nat) : Int)) := by simpa using hc 2 _ rfl
  have g3 : w2.cell? ⟨gb, 3, none⟩ = some (.slice xiA xim xik) := by simpa using hc 3 _ rfl
  have gl := World.block_lt_of_cell? w2 _ g1
  simp only at gl
  have hbl : xBy.length = 1 := rfl
  simp only at hv1 hv2 hbA
  rw [hil] at hv1
  rw [hbl] at hv2 hbA
  subst hv1 hv2
  have cK := fun W (hW : Grows w2 W) => key_any (R := xPager) (a := 0) (c := xbk) W (hbA.keep hW) (by decide) (by omega) (by intro f hf; simp only [xBy, List.mem_singleton] at hf; subst hf; decide)
  change ∀ W, Grows w2 W → Calls _ _ _ _ fun e w' => e = .returned (.int .u64 ((keyA xPager 0 xBy : Nat) : Int)) ∧ Grows W w' at cK
  generalize keyA xPager 0 xBy = KY at *
  replace b4 := b4.out.grows hb
  replace b6 := b6.out.grows hb
  have p0 := b4.cell 0
  have p1 := b4.cell 1
  have p2 := b4.cell 2
  have p3 := b4.cell 3
  have p4 := b4.cell 4
  have p5 := b4.cell 5
  have pz := b4.lt
  have a0 := b6.cell 0
  have a1 := b6.cell 1
  have a2 := b6.cell 2
  have a3 := b6.cell 3
  have a4 := b6.cell 4
  have a5 := b6.cell 5
  have az := b6.lt
  simp only [List.getElem?_toArray, List.getElem?_cons_zero, List.getElem?_cons_succ] at p0 p1 p2 p3 p4 p5 a0 a1 a2 a3 a4 a5
  have hG := Lib.hid (hg9.out.trans hb)
  replace cGo := Lib.hid (fun W (hW : Grows w2 W) => cGo.out W (hb.trans hW))
  replace cK := Lib.hid cK
  clear hO hGs hgs hx hgs2 hxi hxf hbA hc hf b4 b6 hb hg9 cGr hil hbl
  go_wp2
  refine wp_region_k (by kernel_rfl) ?_
  refine wpAnyK_run (l' := #[true, true, true, true, true, true, true, true, true, true, true, true, true, true, true, true, true, true, true, true, true, true, true, true, true, true, true, true, true, true, true, true, true, true, false, false, false, false, false]) [0, 1, 2, 3, 4, 5, 6, 7, 8, 9, 10, 11, 12, 13, 14, 15, 16, 17, 18, 19, 20, 21, 22, 23, 24, 25, 26, 27, 28, 29, 30, 31, 32, 33] 5 up_grows (by kernel_rfl) (by intro c a d v w h; first | (cases d <;> exact h) | exact hQ0 _ _ _ _ _ h) rfl (by kernel_rfl) (by kernel_rfl) ?_
  iterate 28 (refine wpMixC_q rfl (fun K hK => ?_); go_simp; (try go_bits); first | (refine hK.out _ ?_; clear hK K) | (apply Exists.intro; refine ⟨fun wq hsq => ?_, hK.out _ ?_⟩; (first | (go_simp; done) | ((try go_simp); (try simp only [↓IntWalk.iteOmega]); (try go_bits); rfl) | (obtain ⟨hcq, hfq⟩ := bcells hsq; go_simp; done) | (obtain ⟨hcq, hfq⟩ := bcells hsq; (try go_simp); (try simp only [↓IntWalk.iteOmega]); (try go_bits); rfl)); clear hK K))
  refine wpMixC_c (.int .u64 (KY : Int)) rfl (by first | rfl | (go_simp; done)) (fun wq hsq => ?_) ?_
  · obtain ⟨hcq, hfq⟩ := bcells hsq
    go_simp
    exact Calls.mono (cK.out wq hsq) (fun e w'' h => h)
  go_simp
  iterate 5 (refine wpMixC_q rfl (fun K hK => ?_); go_simp; (try go_bits); first | (refine hK.out _ ?_; clear hK K) | (apply Exists.intro; refine ⟨fun wq hsq => ?_, hK.out _ ?_⟩; (first | (go_simp; done) | ((try go_simp); (try simp only [↓IntWalk.iteOmega]); (try go_bits); rfl) | (obtain ⟨hcq, hfq⟩ := bcells hsq; go_simp; done) | (obtain ⟨hcq, hfq⟩ := bcells hsq; (try go_simp); (try simp only [↓IntWalk.iteOmega]); (try go_bits); rfl)); clear hK K))
  refine wpMixC_nil ?_
  refine wpAnyK_alt [34] (by kernel_rfl) (by simp) (fun wN hN hS => (AllReadyK.cons rfl (fun K' hK => ?_) AllReadyK.nil))
  clear hN
  have hW2 : Grows w2 wN := hS
  have q0 := hW2.cell p0
  go_simp
  refine (cGo.out _ hW2).mono ?_
  rintro e w3 ⟨v3, rfl, hO3, hb3⟩
  obtain ⟨A3, c3, rfl, _, _, _⟩ := hO3.arr hkI
  rw [show goesL fT fTT (xPolX w).pol xPager (xAlrX w).a 0 = [0] from x_goes]
  simp only [List.length_cons, List.length_nil, Nat.zero_add]
  have hG3 := Lib.hid (hG.out.trans (hW2.trans hb3))
  refine hK.out _ _ ?_ (fun hS => ?_)
  · exact hW2.trans hb3
  clear hO3 q0 hb3
  clear hK hS
  refine wpAnyK_run (l' := #[true, true, true, true, true, true, true, true, true, true, true, true, true, true, true, true, true, true, true, true, true, true, true, true, true, true, true, true, true, true, true, true, true, true, true, true, true, true, true]) [35, 36, 37, 38] 0 up_grows (by kernel_rfl) (by intro c a d v w h; first | (cases d <;> exact h) | exact hQ0 _ _ _ _ _ h) rfl (by kernel_rfl) (by kernel_rfl) ?_
  iterate 4 (refine wpMixC_q rfl (fun K hK => ?_); go_simp; (try go_bits); first | (refine hK.out _ ?_; clear hK K) | (apply Exists.intro; refine ⟨fun wq hsq => ?_, hK.out _ ?_⟩; (first | (go_simp; done) | ((try go_simp); (try simp only [↓IntWalk.iteOmega]); (try go_bits); rfl) | (obtain ⟨hcq, hfq⟩ := bcells hsq; go_simp; done) | (obtain ⟨hcq, hfq⟩ := bcells hsq; (try go_simp); (try simp only [↓IntWalk.iteOmega]); (try go_bits); rfl)); clear hK K))
  refine wpMixC_nil ?_
  refine wpAnyK_end (by kernel_rfl) (fun wN hN hS => ?_)
  go_wp2
  go_ret
  exact ⟨rfl, hG3.out.trans hN⟩
end Go.Proofs.YtfoffneipdkdjaaGreatDoor
namespace Go.Proofs.YtfoffneipdkdjaaGreatDoor
open Go.RowKit

theorem rkeys_law (R : List UInt8) (a : Int) (A : Option Addr) (m c : Nat) (fs : List Fld) (w : World) (he : LibEnv w) (hR : R.length ≤ maxLen) (hA : Arr w 2 encF A m fs) (hmc : m ≤ c) (hcm : c ≤ maxLen) (hf : ∀ f ∈ fs, f.n.length ≤ maxLen ∧ f.v.length ≤ maxLen) :
    Calls Tryz.prog 3 #[.string ⟨R.toArray⟩, .int .i64 a, .slice A m c] w fun e w' => e = .returned (.bool true) ∧ Grows w w' :=
  rkeys_of w (rlives_any w he) (by unfold maxLen at hR; omega) hA (by unfold maxLen at hcm; omega) (fun f h => by have := hf f h; unfold maxLen at this; omega)
end Go.Proofs.YtfoffneipdkdjaaGreatDoor
namespace Go.Proofs.YtfoffneipdkdjaaGreatDoor
namespace CRouteKeys
open Go.ChangeShapes Go.WideShapes Go.ChangeAt Go.RowKit Go.Deep Go.Joins

set_option maxRecDepth 100000 in
theorem contract (H : Type) (enc : TypeId × Value → H) (W : World) (base : Nat) (args : Array Value) (ds gs : List (DataW H)) (before : List MemPlace)
    (hval : ∀ (j : Nat) t v, Tryz.f3.params[j]? = some t → args[j]? = some v → Value.okWide Tryz.prog W .any base t v)
    (hW : DataW.Whole enc Tryz.prog Tryz.f3.params.toList Rows.routeKeysSpec.vars false W args.toList ds gs before) (hL : laidMetH Tryz.prog Rows.routeKeysRow.laid W) (_ : W.ShapedOpen Tryz.prog) :
    Calls Tryz.prog 3 args W fun e W' => ∃ v, e = .returned v ∧ Rows.routeKeysSpec.post enc Tryz.prog Tryz.f3 false true false false W args v W' := by
  have hW' := hW
  obtain ⟨p, q, hA0, hV, rfl, hfz, hnd⟩ := hW
  have hA : DataW.TrodAll enc Tryz.prog W 0 (fun _ => true) true Tryz.f3.params.toList args.toList ds p := hA0
  rw [Tryz.params3] at hA hval
  obtain ⟨v0, vs0, d0, ds0, p0, q0, hargs, rfl, rfl, h0, r0⟩ := trodAll_cons hA
  obtain ⟨v1, vs1, d1, ds1, p1, q1, rfl, rfl, rfl, h1, r1⟩ := trodAll_cons r0
  obtain ⟨v2, vs2, d2, ds2, p2, q2, rfl, rfl, rfl, h2, r2⟩ := trodAll_cons r1
  obtain ⟨rfl, rfl, rfl⟩ := trodAll_nil r2
  obtain rfl : args = #[v0, v1, v2] := by cases args; simp_all
  obtain ⟨rfl, rfl⟩ := trodVars_none hV
  obtain ⟨x0, rfl, hx0⟩ := open_str Tryz.underlying9 (hval 0 _ _ rfl rfl) h0
  obtain ⟨x1, rfl, _⟩ := open_int Tryz.underlying3 (hval 1 _ _ rfl rfl) h1
  obtain ⟨A2, m2, c2, ws2, rfl, hmc2, hcm2, hArr2, hf2⟩ := open_fields Tryz.underlying22 Tryz.underlying76 (by kernel_rfl) (by kernel_rfl) Tryz.underlying9 Tryz.underlying9 (hval 2 _ _ rfl rfl) h2
  refine (rkeys_law x0 x1 A2 m2 c2 ws2 W (env_ofR hL) hx0 hArr2 hmc2 hcm2 hf2).mono fun e W' ⟨he, hg⟩ => ⟨_, he, ?_⟩
  exact post_true (by kernel_rfl) (fun t ht => by
    have hall : (Tryz.f3.params.toList.all fun t => Tryz.prog.readableRec t && decide (t < Tryz.prog.types.size)) = true := by kernel_rfl
    simpa using List.all_eq_true.1 hall t ht) rfl hW' rfl (by kernel_rfl) Tryz.underlying4 hg

set_option maxRecDepth 100000 in
theorem lifted (os : Os) (started : os.Started) (H : Type) (enc : TypeId × Value → H) (F : Stop.Interp) :
    ReturnsInHanded {} Tryz.checked os 3 .any ((OpenSpec.ofChange Rows.routeKeysSpec).preRow enc Tryz.prog Tryz.f3 Rows.routeKeysRow.domain false Rows.routeKeysRow.laid) (((OpenSpec.ofChange Rows.routeKeysSpec).at F).post enc Tryz.prog Tryz.f3 false true false false) := by
  obtain ⟨places, hx⟩ : ∃ places, DataW.whole enc Tryz.prog ((World.laidAll Tryz.prog os laidR).forCall (fun _ _ => 0) ⟨#[], #[.string ⟨#[]⟩, .int .i64 0, .slice none 0 0], []⟩).memory Tryz.f3.params.toList Rows.routeKeysSpec.vars false #[Value.string ⟨#[]⟩, .int .i64 0, .slice none 0 0].toList 8 = some ([.lit (.string []), .lit (.int .i64 0), .nil], [], places) := ⟨[], by kernel_rfl⟩
  refine returnsInHanded_of_row (C := Tryz.checked) (s := OpenSpec.ofChange Rows.routeKeysSpec) own started (by kernel_rfl) Tryz.func3
    (witness_row_atRef (enc := enc) (C := Tryz.checked) false (World.laidAll Tryz.prog os laidR) #[.string ⟨#[]⟩, .int .i64 0, .slice none 0 0] rfl (lay_shaped os _) (by kernel_rfl) (by kernel_rfl)
      (OpenSpec.preRow_of_cond 8 hx (by kernel_rfl) (fun k hk => by cases hk) (by kernel_rfl) (lay_met os _))) ?_
  intro W base args ds gs before hval hW _ _ _ hL hS _
  exact contract H enc W base args ds gs before hval hW hL hS
theorem said : Rows.RouteKeysSaid :=
  OpenClaim.holds_of_cond 3 Tryz.f3 rfl rfl rfl rfl rfl rfl rfl ⟨rfl, rfl, rfl, rfl, rfl⟩ rfl rfl rfl rfl rfl (by kernel_rfl) Tryz.func3 (by kernel_rfl)
    (of_decide_eq_true (by kernel_rfl)) (by unfold Func.isWrapper; first | (rw [if_pos (by decide +kernel)]; kernel_rfl) | (rw [if_neg (by decide +kernel)]; exact ⟨rfl, rfl⟩))
    (fun os started H enc _ F => by rw [OpenClaim.pre_eq_preRow]; exact lifted os started H enc F)
theorem plain (f : FuncId) (fn : Func) (hf : Tryz.pinned.checked.prog.funcNamed "lychgate/lychgatelaw11.RouteKeys" = some f) (hfn : Tryz.pinned.checked.prog.funcs[f]? = some fn) :
    false = Tryz.pinned.checked.prog.looks [] ∧ ∀ (j : Nat) t, fn.params[j]? = some t → Tryz.pinned.checked.prog.wantsStandIn t = false := by
  obtain rfl : f = 3 := Option.some.inj ((show Tryz.prog.funcNamed "lychgate/lychgatelaw11.RouteKeys" = some 3 by kernel_rfl).symm.trans hf) |>.symm
  obtain rfl : fn = Tryz.f3 := (Option.some.inj (Tryz.func3.symm.trans hfn)).symm
  refine ⟨by kernel_rfl, fun j t ht => ?_⟩
  have hall : (Tryz.f3.params.toList.all fun t => !Tryz.prog.wantsStandIn t) = true := by kernel_rfl
  have hm : t ∈ Tryz.f3.params.toList := by simpa using Array.mem_of_getElem? ht
  exact (show Tryz.prog.wantsStandIn t = false by simpa using List.all_eq_true.1 hall t hm)
theorem card : Rows.RouteKeysCardSaid :=
  Claim7.holds_tied_plain_at .later [] _ _ _ _ said (fun _ h => by cases h) (by kernel_rfl) (fun _ h => by cases h) routeKeys_row_tie rfl ⟨rfl, rfl⟩ (by kernel_rfl) rfl plain (by kernel_rfl)
end CRouteKeys
end Go.Proofs.YtfoffneipdkdjaaGreatDoor
