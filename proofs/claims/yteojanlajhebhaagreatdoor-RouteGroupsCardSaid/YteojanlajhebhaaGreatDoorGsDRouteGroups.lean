/- The law RouteGroups: its run under the row's conditions. -/
import Derived.Test.YteojanlajhebhaaGreatDoorGs0
import Derived.Test.YteojanlajhebhaaGreatDoorGs30
import Derived.Test.YteojanlajhebhaaGreatDoorGs31
set_option maxRecDepth 100000
set_option maxHeartbeats 12800000
namespace Go.Proofs.YteojanlajhebhaaGreatDoor
namespace CRouteGroups
open Go.ChangeShapes Go.WideShapes Go.ChangeAt Go.RowKit Go.Deep Go.Joins
theorem contract (H:Type) (enc:TypeId×Value→H) (W:World) (base:Nat) (args:Array Value) (ds gs:List (DataW H)) (before:List MemPlace)
 (hval:∀(j:Nat) t v,Tryz.f3.params[j]? = some t→args[j]? = some v→Value.okWide Tryz.prog W .any base t v)
 (hW:DataW.Whole enc Tryz.prog Tryz.f3.params.toList Rows.routeGroupsSpec.vars false W args.toList ds gs before) (hL:laidMetH Tryz.prog Rows.routeGroupsRow.laid W) (_:W.ShapedOpen Tryz.prog) :
 Calls Tryz.prog 3 args W fun e W'=>∃v,e =.returned v∧Rows.routeGroupsSpec.post enc Tryz.prog Tryz.f3 false true false false W args v W':=by
 have XB:=hW;obtain⟨p,q,CS,hV,rfl,hfz,hnd⟩:=hW;have hA:DataW.TrodAll enc Tryz.prog W 0 (fun _=>true) true Tryz.f3.params.toList args.toList ds p:=CS;rw[Tryz.params3] at hA hval;obtain⟨v0,vs0,d0,ds0,p0,q0,akw,rfl,rfl,h0,r0⟩:=trodAll_cons hA;obtain⟨v1,vs1,d1,ds1,p1,q1,rfl,rfl,rfl,h1,r1⟩:=trodAll_cons r0;obtain⟨v2,vs2,d2,ds2,p2,q2,rfl,rfl,rfl,h2,r2⟩:=trodAll_cons r1;obtain⟨rfl,rfl,rfl⟩:=trodAll_nil r2;obtain rfl:args= #[v0,v1,v2]:=by cases args;simp_all
 obtain⟨rfl,rfl⟩:=trodVars_none hV;obtain⟨p0,rfl,⟨hp0,hc0⟩,ht0⟩:=ajq Tryz.underlying26 acF (hval 0 _ _ rfl rfl) h0;obtain⟨A1,m1,c1,rfl⟩:=okWide_slice Tryz.underlying27 (hval 1 _ _ rfl rfl);obtain⟨y1,Ls,hb1⟩:=ajp (e:=fun (y:SlX iI)=> .slice y.A y.m y.k) Zu rfl h1;injection Ls with e1 e2 e3
 subst e1 e2 e3;obtain⟨x2,rfl,_⟩:=open_int Tryz.underlying3 (hval 2 _ _ rfl rfl) h2;refine (ZC (p:=p0) (ahd _) (ag7 _) (acs ht0) (acp ht0) (A0:=y1.A) (m0:=y1.m) (c0:=y1.k) (xs:=y1.l) (now:=x2) W (ani hL) hp0 hc0 hb1.2.2.1 (by have h1:=hb1.1;have h2:=hb1.2.1;unfold maxLen at h2;omega) (fun x hx=>by have h:=hb1.2.2.2 x hx;have h2:=h.1.2.1;unfold maxLen at h2;exact⟨h.1.1,ω⟩) (fun x hx=>(hb1.2.2.2 x hx).1.2.2) (fun y hy=>by
  obtain⟨x,hx,rfl⟩:=List.mem_map.1 hy;have h:=(hb1.2.2.2 x (List.mem_of_mem_take hx)).2;unfold maxLen at h;refine⟨by show x.a.src.length≤_;omega,fun f hf=> ?_⟩;have h2:=h.2 f (List.mem_of_mem_take hf);omega)).mono fun e W' ⟨he,hg⟩=>⟨_,he,?_⟩
 exact af4 κ (fun t ht=>by
  have hall:(Tryz.f3.params.toList.all fun t=>Tryz.prog.readableRec t &&decide (t < Tryz.prog.types.size))=true:=by kernel_rfl
  simpa using List.all_eq_true.1 hall t ht) rfl XB rfl κ Tryz.underlying4 hg
def wit:Array Value:= #[.agg #[.slice none 0 0,.slice none 0 0,.slice none 0 0,.slice none 0 0,.slice none 0 0,.slice none 0 0],.slice none 0 0,.int .i64 0]
theorem lifted (os:Os) (started:os.Started) (H:Type) (enc:TypeId×Value→H) (F:Stop.Interp) :
 ReturnsInHanded {} Tryz.checked os 3 .any ((OpenSpec.ofChange Rows.routeGroupsSpec).preRow enc Tryz.prog Tryz.f3 Rows.routeGroupsRow.domain false Rows.routeGroupsRow.laid) (((OpenSpec.ofChange Rows.routeGroupsSpec).at F).post enc Tryz.prog Tryz.f3 false true false false):=by
 obtain⟨places,hx⟩:∃places,DataW.whole enc Tryz.prog ((World.laidAll Tryz.prog os VT).forCall (fun _ _=>0) ⟨#[],wit,[]⟩).memory Tryz.f3.params.toList Rows.routeGroupsSpec.vars false wit.toList 8=some ([.agg [.nil,.nil,.nil,.nil,.nil,.nil],.nil,.lit (.int .i64 0)],[],places):=⟨[],by kernel_rfl⟩;refine returnsInHanded_of_row (C:=Tryz.checked) (s:=OpenSpec.ofChange Rows.routeGroupsSpec) own started κ Tryz.func3
  (witness_row_atRef (enc:=enc) (C:=Tryz.checked) false (World.laidAll Tryz.prog os VT) wit rfl (acX os _) κ κ
   (OpenSpec.preRow_of_cond 8 hx κ (fun k hk=>by cases hk) κ (amE os _))) ?_
 intro W base args ds gs before hval hW _ _ _ hL hS _;exact contract H enc W base args ds gs before hval hW hL hS
end CRouteGroups
end Go.Proofs.YteojanlajhebhaaGreatDoor
