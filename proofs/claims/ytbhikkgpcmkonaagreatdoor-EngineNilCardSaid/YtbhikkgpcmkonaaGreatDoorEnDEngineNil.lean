/- The law EngineNil: its run under the row's conditions. -/
import Derived.Test.YtbhikkgpcmkonaaGreatDoorEn0
import Derived.Test.YtbhikkgpcmkonaaGreatDoorEn24
import Derived.Test.YtbhikkgpcmkonaaGreatDoorEn23
set_option maxRecDepth 100000
set_option maxHeartbeats 12800000
namespace Go.Proofs.YtbhikkgpcmkonaaGreatDoor
namespace CEngineNil
open Go.ChangeShapes Go.WideShapes Go.ChangeAt Go.RowKit Go.Deep Go.Joins
theorem contract (H:Type) (enc:TypeId×Value→H) (W:World) (base:Nat) (args:Array Value) (ds gs:List (DataW H)) (before:List MemPlace)
 (hval:∀(j:Nat) t v,Tryz.f4.params[j]? = some t→args[j]? = some v→Value.okWide Tryz.prog W .any base t v)
 (hW:DataW.Whole enc Tryz.prog Tryz.f4.params.toList Rows.engineNilSpec.vars false W args.toList ds gs before) (hL:laidMetH Tryz.prog Rows.engineNilRow.laid W) (_:W.ShapedOpen Tryz.prog) :
 Calls Tryz.prog 4 args W fun e W'=>∃v,e =.returned v∧Rows.engineNilSpec.post enc Tryz.prog Tryz.f4 false true false false W args v W':=by
 have uK:=hW;obtain⟨p,q,QT,hV,rfl,hfz,YK⟩:=hW;have hA:DataW.TrodAll enc Tryz.prog W 0 (fun _=>true) true Tryz.f4.params.toList args.toList ds p:=QT;rw[Tryz.params4] at hA hval;obtain⟨v0,vs0,d0,ds0,p0,q0,aeF,rfl,rfl,h0,r0⟩:=trodAll_cons hA;obtain⟨v1,vs1,d1,ds1,p1,q1,rfl,rfl,rfl,h1,r1⟩:=trodAll_cons r0;obtain⟨rfl,rfl,rfl⟩:=trodAll_nil r1;obtain rfl:args= #[v0,v1]:=by cases args;simp_all
 obtain⟨rfl,rfl⟩:=trodVars_none hV;obtain⟨x0,rfl,_⟩:=open_int Tryz.underlying3 (hval 0 _ _ rfl rfl) h0;obtain⟨p1,rfl,hp1,hc1⟩:=adA Tryz.underlying50 aad (hval 1 _ _ rfl rfl) h1;refine (afj abk (p:=p1) (now:=x0) W (aij hL) (agG hL) hp1 hc1).mono fun e W' ⟨he,hg⟩=>⟨_,he,?_⟩
 exact ZY κ (fun t ht=>by
  have hall:(Tryz.f4.params.toList.all fun t=>Tryz.prog.readableRec t &&decide (t < Tryz.prog.types.size))=true:=by kernel_rfl
  simpa using List.all_eq_true.1 hall t ht) rfl uK rfl κ Tryz.underlying4 hg
def wit:Array Value:= #[.int .i64 0,.agg #[.slice none 0 0,.slice none 0 0,.slice none 0 0,.slice none 0 0,.slice none 0 0,.slice none 0 0]]
theorem lifted (os:Os) (started:os.Started) (H:Type) (enc:TypeId×Value→H) (F:Stop.Interp) :
 ReturnsInHanded {} Tryz.checked os 4 .any ((OpenSpec.ofChange Rows.engineNilSpec).preRow enc Tryz.prog Tryz.f4 Rows.engineNilRow.domain false Rows.engineNilRow.laid) (((OpenSpec.ofChange Rows.engineNilSpec).at F).post enc Tryz.prog Tryz.f4 false true false false):=by
 obtain⟨places,hx⟩:∃places,DataW.whole enc Tryz.prog ((World.laidAll Tryz.prog os JK).forCall (fun _ _=>0) ⟨#[],wit,[]⟩).memory Tryz.f4.params.toList Rows.engineNilSpec.vars false wit.toList 8=some ([.lit (.int .i64 0),.agg [.nil,.nil,.nil,.nil,.nil,.nil]],[],places):=⟨[],by kernel_rfl⟩;refine returnsInHanded_of_row (C:=Tryz.checked) (s:=OpenSpec.ofChange Rows.engineNilSpec) own started κ Tryz.func4
  (witness_row_atRef (enc:=enc) (C:=Tryz.checked) false (World.laidAll Tryz.prog os JK) wit rfl (WX os _) κ κ
   (OpenSpec.preRow_of_cond 8 hx κ (fun k hk=>by cases hk) κ (ahm os _))) ?_
 intro W base args ds gs before hval hW _ _ _ hL hS _;exact contract H enc W base args ds gs before hval hW hL hS
end CEngineNil
end Go.Proofs.YtbhikkgpcmkonaaGreatDoor
