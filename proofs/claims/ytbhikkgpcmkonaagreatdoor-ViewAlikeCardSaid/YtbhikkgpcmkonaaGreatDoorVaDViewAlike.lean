/- The law ViewAlike: its run under the row's conditions. -/
import Derived.Test.YtbhikkgpcmkonaaGreatDoorVa0
import Derived.Test.YtbhikkgpcmkonaaGreatDoorVa27
import Derived.Test.YtbhikkgpcmkonaaGreatDoorVa26
import Derived.Test.YtbhikkgpcmkonaaGreatDoorVa10
set_option maxRecDepth 100000
set_option maxHeartbeats 12800000
namespace Go.Proofs.YtbhikkgpcmkonaaGreatDoor
namespace CViewAlike
open Go.ChangeShapes Go.WideShapes Go.ChangeAt Go.RowKit Go.Deep Go.Joins
theorem contract (H:Type) (enc:TypeId×Value→H) (W:World) (base:Nat) (args:Array Value) (ds gs:List (DataW H)) (before:List MemPlace)
 (hval:∀(j:Nat) t v,Tryz.f8.params[j]? = some t→args[j]? = some v→Value.okWide Tryz.prog W .any base t v)
 (hW:DataW.Whole enc Tryz.prog Tryz.f8.params.toList Rows.viewAlikeSpec.vars false W args.toList ds gs before) (hL:laidMetH Tryz.prog Rows.viewAlikeRow.laid W) (_:W.ShapedOpen Tryz.prog) :
 Calls Tryz.prog 8 args W fun e W'=>∃v,e =.returned v∧Rows.viewAlikeSpec.post enc Tryz.prog Tryz.f8 false true false false W args v W':=by
 have yg:=hW;obtain⟨p,q,PN,hV,rfl,hfz,hnd⟩:=hW;have hA:DataW.TrodAll enc Tryz.prog W 0 (fun _=>true) true Tryz.f8.params.toList args.toList ds p:=PN;rw[Tryz.params8] at hA hval;obtain⟨v0,vs0,d0,ds0,p0,q0,ajz,rfl,rfl,h0,r0⟩:=trodAll_cons hA;obtain⟨v1,vs1,d1,ds1,p1,q1,rfl,rfl,rfl,h1,r1⟩:=trodAll_cons r0;obtain⟨v2,vs2,d2,ds2,p2,q2,rfl,rfl,rfl,h2,r2⟩:=trodAll_cons r1;obtain⟨rfl,rfl,rfl⟩:=trodAll_nil r2;obtain rfl:args= #[v0,v1,v2]:=by cases args;simp_all
 obtain⟨rfl,rfl⟩:=trodVars_none hV;obtain⟨p0,rfl,hp0,hc0⟩:=Xk Tryz.underlying50 aex (hval 0 _ _ rfl rfl) h0;obtain⟨y1,z1,rfl,hy1,hz1⟩:=aeD (hval 1 _ _ rfl rfl) h1;obtain⟨l2,rfl,hl2⟩:=Xk Tryz.underlying25 yI (hval 2 _ _ rfl rfl) h2;refine (Zw Yk aeM (p:=p0) (tt:=l2) W (ang hL) (alu hL) hp0 hc0 hy1.2.2.1 hy1.2.2.2 hz1.2.2.1 hz1.2.2.2 hl2).mono fun e W' ⟨he,hg⟩=>⟨_,he,?_⟩
 exact aej κ (fun t ht=>by
  have hall:(Tryz.f8.params.toList.all fun t=>Tryz.prog.readableRec t &&decide (t < Tryz.prog.types.size))=true:=by kernel_rfl
  simpa using List.all_eq_true.1 hall t ht) rfl yg rfl κ Tryz.underlying4 hg
def wit:Array Value:= #[.agg #[.slice none 0 0,.slice none 0 0,.slice none 0 0,.slice none 0 0,.slice none 0 0,.slice none 0 0],.agg #[.slice none 0 0,.slice none 0 0],.agg #[.int .i64 0,.int .u32 0]]
theorem lifted (os:Os) (started:os.Started) (H:Type) (enc:TypeId×Value→H) (F:Stop.Interp) :
 ReturnsInHanded {} Tryz.checked os 8 .any ((OpenSpec.ofChange Rows.viewAlikeSpec).preRow enc Tryz.prog Tryz.f8 Rows.viewAlikeRow.domain false Rows.viewAlikeRow.laid) (((OpenSpec.ofChange Rows.viewAlikeSpec).at F).post enc Tryz.prog Tryz.f8 false true false false):=by
 obtain⟨places,hx⟩:∃places,DataW.whole enc Tryz.prog ((World.laidAll Tryz.prog os Oe).forCall (fun _ _=>0) ⟨#[],wit,[]⟩).memory Tryz.f8.params.toList Rows.viewAlikeSpec.vars false wit.toList 8=some ([.agg [.nil,.nil,.nil,.nil,.nil,.nil],.agg [.nil,.nil],.agg [.lit (.int .i64 0),.lit (.int .u32 0)]],[],places):=⟨[],by kernel_rfl⟩;refine returnsInHanded_of_row (C:=Tryz.checked) (s:=OpenSpec.ofChange Rows.viewAlikeSpec) own started κ Tryz.func8
  (witness_row_atRef (enc:=enc) (C:=Tryz.checked) false (World.laidAll Tryz.prog os Oe) wit rfl (aaQ os _) κ κ
   (OpenSpec.preRow_of_cond 8 hx κ (fun k hk=>by cases hk) κ (al9 os _))) ?_
 intro W base args ds gs before hval hW _ _ _ hL hS _;exact contract H enc W base args ds gs before hval hW hL hS
end CViewAlike
end Go.Proofs.YtbhikkgpcmkonaaGreatDoor
