/- The law ViewOnce: its run under the row's conditions. -/
import Derived.Test.YtbhikkgpcmkonaaGreatDoorVo0
import Derived.Test.YtbhikkgpcmkonaaGreatDoorVo29
import Derived.Test.YtbhikkgpcmkonaaGreatDoorVo28
import Derived.Test.YtbhikkgpcmkonaaGreatDoorVo11
set_option maxRecDepth 100000
set_option maxHeartbeats 12800000
namespace Go.Proofs.YtbhikkgpcmkonaaGreatDoor
namespace CViewOnce
open Go.ChangeShapes Go.WideShapes Go.ChangeAt Go.RowKit Go.Deep Go.Joins
theorem contract (H:Type) (enc:TypeId×Value→H) (W:World) (base:Nat) (args:Array Value) (ds gs:List (DataW H)) (before:List MemPlace)
 (hval:∀(j:Nat) t v,Tryz.f7.params[j]? = some t→args[j]? = some v→Value.okWide Tryz.prog W .any base t v)
 (hW:DataW.Whole enc Tryz.prog Tryz.f7.params.toList Rows.viewOnceSpec.vars false W args.toList ds gs before) (hL:laidMetH Tryz.prog Rows.viewOnceRow.laid W) (_:W.ShapedOpen Tryz.prog) :
 Calls Tryz.prog 7 args W fun e W'=>∃v,e =.returned v∧Rows.viewOnceSpec.post enc Tryz.prog Tryz.f7 false true false false W args v W':=by
 have yI:=hW;obtain⟨p,q,QA,hV,rfl,hfz,hnd⟩:=hW;have hA:DataW.TrodAll enc Tryz.prog W 0 (fun _=>true) true Tryz.f7.params.toList args.toList ds p:=QA;rw[Tryz.params7] at hA hval;obtain⟨v0,vs0,d0,ds0,p0,q0,akp,rfl,rfl,h0,r0⟩:=trodAll_cons hA;obtain⟨v1,vs1,d1,ds1,p1,q1,rfl,rfl,rfl,h1,r1⟩:=trodAll_cons r0;obtain⟨rfl,rfl,rfl⟩:=trodAll_nil r1;obtain rfl:args= #[v0,v1]:=by cases args;simp_all
 obtain⟨rfl,rfl⟩:=trodVars_none hV;obtain⟨p0,rfl,hp0,hc0⟩:=ai9 Tryz.underlying50 afh (hval 0 _ _ rfl rfl) h0;obtain⟨A1,m1,c1,rfl⟩:=okWide_slice Tryz.underlying96 (hval 1 _ _ rfl rfl);obtain⟨y1,hy1,hb1⟩:=ai8 (e:=fun (y:SlX tN)=> .slice y.A y.m y.k) aa8 rfl h1;injection hy1 with e1 e2 e3
 subst e1 e2 e3;refine (ael Y2 afx (p:=p0) W (aoj hL) (amn hL) hp0 hc0 hb1.2.2.1 (fun y hy=>(hb1.2.2.2 y hy).1) (fun y hy=>(hb1.2.2.2 y hy).2)).mono fun e W' ⟨he,hg⟩=>⟨_,he,?_⟩
 exact ae6 κ (fun t ht=>by
  have hall:(Tryz.f7.params.toList.all fun t=>Tryz.prog.readableRec t &&decide (t < Tryz.prog.types.size))=true:=by kernel_rfl
  simpa using List.all_eq_true.1 hall t ht) rfl yI rfl κ Tryz.underlying4 hg
def wit:Array Value:= #[.agg #[.slice none 0 0,.slice none 0 0,.slice none 0 0,.slice none 0 0,.slice none 0 0,.slice none 0 0],.slice none 0 0]
theorem lifted (os:Os) (started:os.Started) (H:Type) (enc:TypeId×Value→H) (F:Stop.Interp) :
 ReturnsInHanded {} Tryz.checked os 7 .any ((OpenSpec.ofChange Rows.viewOnceSpec).preRow enc Tryz.prog Tryz.f7 Rows.viewOnceRow.domain false Rows.viewOnceRow.laid) (((OpenSpec.ofChange Rows.viewOnceSpec).at F).post enc Tryz.prog Tryz.f7 false true false false):=by
 obtain⟨places,hx⟩:∃places,DataW.whole enc Tryz.prog ((World.laidAll Tryz.prog os O4).forCall (fun _ _=>0) ⟨#[],wit,[]⟩).memory Tryz.f7.params.toList Rows.viewOnceSpec.vars false wit.toList 8=some ([.agg [.nil,.nil,.nil,.nil,.nil,.nil],.nil],[],places):=⟨[],by kernel_rfl⟩;refine returnsInHanded_of_row (C:=Tryz.checked) (s:=OpenSpec.ofChange Rows.viewOnceSpec) own started κ Tryz.func7
  (witness_row_atRef (enc:=enc) (C:=Tryz.checked) false (World.laidAll Tryz.prog os O4) wit rfl (abA os _) κ κ
   (OpenSpec.preRow_of_cond 8 hx κ (fun k hk=>by cases hk) κ (am4 os _))) ?_
 intro W base args ds gs before hval hW _ _ _ hL hS _;exact contract H enc W base args ds gs before hval hW hL hS
end CViewOnce
end Go.Proofs.YtbhikkgpcmkonaaGreatDoor
