/- Parts: MatC RowR RowP RowQ RowV RowW -/
import Derived.Test.YtbhikkgpcmkonaaGreatDoorVa0
import Derived.Test.YtbhikkgpcmkonaaGreatDoorVa19
import Derived.Test.YtbhikkgpcmkonaaGreatDoorCards
import Derived.Test.YtbhikkgpcmkonaaGreatDoorTie
import Derived.ProofKit
import Derived.OpenShut
import Derived.LaidMore
import Derived.Deep.DeepHandedRow
import Derived.Deep.DeepWitnessRowRef
import Derived.Lib.LaidTab
import Derived.Stop.LaidErr
import Derived.Shelf.Vars
import Derived.SevenTiedAt
import Derived.Carry
import Derived.Deep.Slices
import Derived.Deep.Fields
import Derived.Lib.SmallJoins
import Derived.ChangeMaps5
import Derived.Laws.IdiomArrays
import Derived.Lay
import Derived.Test.YtbhikkgpcmkonaaGreatDoorVa5
import Derived.Test.YtbhikkgpcmkonaaGreatDoorVa3
import Derived.Test.YtbhikkgpcmkonaaGreatDoorVa8
import Derived.Test.YtbhikkgpcmkonaaGreatDoorVa12
import Derived.Lib.LaidU8T
import Derived.Lib.LaidIn
import Derived.Test.YtbhikkgpcmkonaaGreatDoorVa17
import Derived.Test.YtbhikkgpcmkonaaGreatDoorVa26
set_option maxRecDepth 100000
set_option maxHeartbeats 12800000
namespace Go.Proofs.YtbhikkgpcmkonaaGreatDoor
open Go.RowKit
def aj2 (l:List bK) (x:cZ):Bool:=OL x &&(if x.op=0 then kU l x.n ==x.v else if x.op=1 then !(kU l x.n ==x.v) else if x.op=2 then Af x.v (kU l x.n) else !Af x.v (kU l x.n))
theorem Zv {l:List bK} {n:List UInt8} (h:∀f∈l,f.v.length≤1000000):(kU l n).length≤1000000:=by
 unfold kU;split
 ·rename_i f hf;exact h f (List.mem_of_find?_eq_some hf)
 ·simp
theorem apG (a b:List UInt8) (w:World):Calls Tryz.prog 188 #[.string ⟨a.toArray⟩,.string ⟨b.toArray⟩] w fun e w'=>e =.returned (.bool (b ==a))∧ah w w':=by
 generalize hx:(b ==a)=B;cases B with
 | true=>
  go_enter Tryz.func188,Tryz.ntmps188
  go_wp2;go_ret;exact⟨rfl,ah.refl w⟩
 | false=>
  go_enter Tryz.func188,Tryz.ntmps188
  go_wp2;go_ret;exact⟨rfl,ah.refl w⟩
theorem Xn {fn:FuncId} {R:Bool} {a b:List UInt8} {g:Nat} (w:World) (eg:Enters Tryz.prog fn) (hc:w.cell? ⟨g,0,none⟩=some (.func (.func fn) #[] #[])) (hf:∀W,Calls Tryz.prog fn #[.string ⟨a.toArray⟩,.string ⟨b.toArray⟩] W fun e w'=>e =.returned (.bool R)∧ah W w') :
 Calls Tryz.prog 220 #[.string ⟨a.toArray⟩,.string ⟨b.toArray⟩,.pointer (some ⟨g,0,none⟩)] w fun e w'=>e =.returned (.bool (!R))∧ah w w':=by
 unfold Enters at eg;have hl:=World.block_lt_of_cell? w _ hc;simp only at hl;replace hf:=ζ hf;go_enter Tryz.func220,Tryz.ntmps220
 go_wp2_with fail;refine (hf.o _).mono ?_;rintro e w1 ⟨rfl,hb⟩;go_wp2;go_ret;exact⟨aP rfl,hb⟩
theorem acD (fn:FuncId) (w:World):Calls Tryz.prog 189 #[.func (.func fn) #[] #[]] w fun e w'=>e =.returned (.func (.func 220) #[] #[.pointer (some ⟨w.heap.size,0,none⟩)])∧w'=w.alloc (.cells #[.func (.func fn) #[] #[]] 209):=by
 have Y7:∀(fn:Fn) (first cap:Array Value) (w:World),(Instr.makeFunc fn first cap).run Tryz.prog w =.ok (.func fn first cap) w:=fun _ _ _ _=>rfl
 go_enter Tryz.func189,Tryz.ntmps189
 go_wp2;go_ret;exact⟨rfl,rfl⟩
theorem aeM (x:cZ):lN aj2 x:=by
 intro A m c l w hA hm hT;obtain⟨n,op,v⟩:=x;have cFi:=ζ (Yk ⟨n,op,v⟩);have cV:=ζ (fun W (hW:ah w W)=>Jh (c:=c) W (hA.keep hW) hm n);have cP:=ζ (fun W=>afH W v (kU l n) (Zv hT));have cI:=ζ (fun W=>apG v (kU l n) W);obtain⟨R,hR⟩:∃R,R=aj2 l ⟨n,op,v⟩:=⟨_,rfl⟩;rw[←hR];unfold aj2 at hR;simp only at hR;have hop:OL ⟨n,op,v⟩=true→op=0∨op=1∨op=2∨op=3:=fun h=>by
  unfold OL at h;simp only[Bool.and_eq_true,decide_eq_true_eq] at h;omega
 have hFi:=cFi.out;unfold mO Fv at hFi;simp only at hFi;generalize OL ⟨n,op,v⟩=FB at *
 generalize kU l n = vv at *
 generalize Af v vv=fp at *
 unfold Fv;simp only;clear hT hA;go_enter Tryz.func152,Tryz.ntmps152
 go_wp2_with fail;refine (acD 188 _).mono ?_;rintro e w1 ⟨rfl,hw1⟩;have AZ:=(aF.new w 213 #[.string ⟨n.toArray⟩,.int .i64 op,.string ⟨v.toArray⟩]).alloc (.cells #[.func (.func 188) #[] #[]] 209);have hI1:=aF.new (w.alloc (.cells #[.string ⟨n.toArray⟩,.int .i64 op,.string ⟨v.toArray⟩] 213)) 209 #[.func (.func 188) #[] #[]];have fF:ah w w1:=by rw[hw1];exact ((ah.refl w).alloc _).alloc _
 rw[←hw1] at AZ hI1;clear hw1;generalize (w.alloc (.cells #[.string ⟨n.toArray⟩,.int .i64 op,.string ⟨v.toArray⟩] 213)).heap.size=gI at *
 replace AZ:=ζ AZ;replace hI1:=ζ hI1;replace fF:=ζ fF;go_wp2_with fail;refine (acD 190 _).mono ?_;rintro e w2 ⟨rfl,hw2⟩;have hF2:=aF.new w1 209 #[.func (.func 190) #[] #[]];have hg2:ah w1 w2:=by rw[hw2];exact (ah.refl w1).alloc _
 rw[←hw2] at hF2;clear hw2;replace AZ:=ζ (AZ.o.grows hg2);replace hI1:=ζ (hI1.o.grows hg2);replace fF:=ζ (fF.o.trans hg2);replace hF2:=ζ hF2;clear hg2;generalize w1.heap.size=gF at *
 generalize w.heap.size=gX at *
 obtain⟨ops,ay3⟩:∃ops:Array Value,ops= #[.func (.func 188) #[] #[],.func (.func 220) #[] #[.pointer (some ⟨gI,0,none⟩)],.func (.func 190) #[] #[],.func (.func 220) #[] #[.pointer (some ⟨gF,0,none⟩)]]:=⟨_,rfl⟩;go_wp2_with (with_reducible show wpList _ _ _ _ _ _;refine wpList_store_row rfl 292 (.tmp 5) (.tmp 8) rfl w2.heap.size #[.func (.func 188) #[] #[],.func (.func 220) #[] #[.pointer (some ⟨gI,0,none⟩)],.func (.func 190) #[] #[],.func (.func 220) #[] #[.pointer (some ⟨gF,0,none⟩)]] rfl rfl 292 #[.nilFunc,.nilFunc,.nilFunc,.nilFunc] (heap_alloc_new w2 (.cells #[.nilFunc,.nilFunc,.nilFunc,.nilFunc] 292)) κ rfl (by simp[Value.oneCell']) ?_;rw[World.setRow_alloc_new]);have iT:=aF.new w2 292 #[.func (.func 188) #[] #[],.func (.func 220) #[] #[.pointer (some ⟨gI,0,none⟩)],.func (.func 190) #[] #[],.func (.func 220) #[] #[.pointer (some ⟨gF,0,none⟩)]];have hg3:ah w2 (w2.alloc (.cells #[.func (.func 188) #[] #[],.func (.func 220) #[] #[.pointer (some ⟨gI,0,none⟩)],.func (.func 190) #[] #[],.func (.func 220) #[] #[.pointer (some ⟨gF,0,none⟩)]] 292)):=(ah.refl _).alloc _;replace AZ:=ζ (AZ.o.grows hg3);replace hI1:=ζ (hI1.o.grows hg3);replace fF:=ζ (fF.o.trans hg3);replace hF2:=ζ (hF2.o.grows hg3);clear hg3 ay3 ops;generalize w2.alloc (.cells #[.func (.func 188) #[] #[],.func (.func 220) #[] #[.pointer (some ⟨gI,0,none⟩)],.func (.func 190) #[] #[],.func (.func 220) #[] #[.pointer (some ⟨gF,0,none⟩)]] 292)=w3 at *
 generalize w2.heap.size=gO at *
 have x0:=AZ.o.c0;have x1:=AZ.o.c1;have x2:=AZ.o.c2;have xl:=AZ.o.lt;have o0:=iT.c0;have o1:=iT.c1;have o2:=iT.c2;have o3:=iT.c3;have ol:=iT.lt;have eI:Enters Tryz.prog 188:=enters_of Tryz.func188 κ rfl;have eF:Enters Tryz.prog 190:=enters_of Tryz.func190 κ rfl;have eN:Enters Tryz.prog 220:=enters_of Tryz.func220 κ rfl;have cN1:=ζ (fun W (hW:ah w3 W)=>Xn (fn:=188) (R:=vv==v) (a:=v) (b:=vv) W eI ((hI1.o.grows hW).cell 0) cI.out);have cN3:=ζ (fun W (hW:ah w3 W)=>Xn (fn:=190) (R:=fp) (a:=v) (b:=vv) W eF ((hF2.o.grows hW).cell 0) cP.out);have cV3:=ζ (fun W (hW:ah w3 W)=>cV.out W (fF.o.trans hW));replace hFi:=ζ hFi;unfold Enters at eI eF eN;clear cV cFi iT AZ hI1 hF2;generalize hvb:(vv==v)=vb at *
 replace hvb:=ζ hvb;cases FB with
 | false=>
  have jr:Hid (R=false):=ζ (by rw[hR];rfl);clear hop hR;refine aG κ ?_;refine rK (.range 16) 0 ?_;iterate 1 refine aC ?_
  refine aY (.bool false) rfl χ (fun wq eG=> ?_) ?_
  ·obtain⟨nR,mY⟩:=bQ eG;go_simp;exact Calls.mono (hFi.o wq) (fun e w'' h=>h)
  go_simp;iterate 10 refine aC ?_
  refine uJ rfl χ ?_;go_simp;refine uJ rfl χ ?_;go_simp;iterate 2 refine aC ?_
  refine aB ?_;refine aJ κ (fun wN hN hS=> ?_);go_wp2;go_ret;exact⟨by rw[jr.o];rfl,fF.o.trans hN⟩
 | true=>
  rcases hop rfl with rfl | rfl | rfl | rfl
  ·have jr:Hid (R=vb):=ζ (by rw[hR];rfl);clear hop hR;refine aG κ ?_;refine rK (.range 16) 0 ?_;iterate 1 refine aC ?_
   refine aY (.bool true) rfl χ (fun wq eG=> ?_) ?_
   ·obtain⟨nR,mY⟩:=bQ eG;go_simp;exact Calls.mono (hFi.o wq) (fun e w'' h=>h)
   go_simp;iterate 10 refine aC ?_
   refine aY (.string ⟨vv.toArray⟩) rfl χ (fun wq eG=> ?_) ?_
   ·obtain⟨nR,mY⟩:=bQ eG;go_simp;exact Calls.mono (cV3.out wq eG) (fun e w'' h=>h)
   go_simp;refine aY (.bool vb) rfl χ (fun wq eG=> ?_) ?_
   ·obtain⟨nR,mY⟩:=bQ eG;go_simp;exact Calls.mono (cI.out wq) (fun e w'' h=>h)
   go_simp;iterate 2 refine aC ?_
   refine aB ?_;refine aJ κ (fun wN hN hS=> ?_);go_wp2;go_ret;exact⟨by rw[jr.o];rfl,fF.o.trans hN⟩
  ·have jr:Hid (R= !vb):=ζ (by rw[hR];rfl);clear hop hR;refine aG κ ?_;refine rK (.range 16) 0 ?_;iterate 1 refine aC ?_
   refine aY (.bool true) rfl χ (fun wq eG=> ?_) ?_
   ·obtain⟨nR,mY⟩:=bQ eG;go_simp;exact Calls.mono (hFi.o wq) (fun e w'' h=>h)
   go_simp;iterate 10 refine aC ?_
   refine aY (.string ⟨vv.toArray⟩) rfl χ (fun wq eG=> ?_) ?_
   ·obtain⟨nR,mY⟩:=bQ eG;go_simp;exact Calls.mono (cV3.out wq eG) (fun e w'' h=>h)
   go_simp;refine aY (.bool (!vb)) rfl χ (fun wq eG=> ?_) ?_
   ·obtain⟨nR,mY⟩:=bQ eG;go_simp;exact Calls.mono (cN1.out wq eG) (fun e w'' h=>h)
   go_simp;iterate 2 refine aC ?_
   refine aB ?_;refine aJ κ (fun wN hN hS=> ?_);go_wp2;go_ret;exact⟨by rw[jr.o];rfl,fF.o.trans hN⟩
  ·have jr:Hid (R=fp):=ζ (by rw[hR];rfl);clear hop hR;refine aG κ ?_;refine rK (.range 16) 0 ?_;iterate 1 refine aC ?_
   refine aY (.bool true) rfl χ (fun wq eG=> ?_) ?_
   ·obtain⟨nR,mY⟩:=bQ eG;go_simp;exact Calls.mono (hFi.o wq) (fun e w'' h=>h)
   go_simp;iterate 10 refine aC ?_
   refine aY (.string ⟨vv.toArray⟩) rfl χ (fun wq eG=> ?_) ?_
   ·obtain⟨nR,mY⟩:=bQ eG;go_simp;exact Calls.mono (cV3.out wq eG) (fun e w'' h=>h)
   go_simp;refine aY (.bool fp) rfl χ (fun wq eG=> ?_) ?_
   ·obtain⟨nR,mY⟩:=bQ eG;go_simp;exact Calls.mono (cP.out wq) (fun e w'' h=>h)
   go_simp;iterate 2 refine aC ?_
   refine aB ?_;refine aJ κ (fun wN hN hS=> ?_);go_wp2;go_ret;exact⟨by rw[jr.o];rfl,fF.o.trans hN⟩
  ·have jr:Hid (R= !fp):=ζ (by rw[hR];rfl);clear hop hR;refine aG κ ?_;refine rK (.range 16) 0 ?_;iterate 1 refine aC ?_
   refine aY (.bool true) rfl χ (fun wq eG=> ?_) ?_
   ·obtain⟨nR,mY⟩:=bQ eG;go_simp;exact Calls.mono (hFi.o wq) (fun e w'' h=>h)
   go_simp;iterate 10 refine aC ?_
   refine aY (.string ⟨vv.toArray⟩) rfl χ (fun wq eG=> ?_) ?_
   ·obtain⟨nR,mY⟩:=bQ eG;go_simp;exact Calls.mono (cV3.out wq eG) (fun e w'' h=>h)
   go_simp;refine aY (.bool (!fp)) rfl χ (fun wq eG=> ?_) ?_
   ·obtain⟨nR,mY⟩:=bQ eG;go_simp;exact Calls.mono (cN3.out wq eG) (fun e w'' h=>h)
   go_simp;iterate 2 refine aC ?_
   refine aB ?_;refine aJ κ (fun wN hN hS=> ?_);go_wp2;go_ret;exact⟨by rw[jr.o];rfl,fF.o.trans hN⟩
end Go.Proofs.YtbhikkgpcmkonaaGreatDoor
namespace Go.Proofs.YtbhikkgpcmkonaaGreatDoor
open Go.ChangeShapes Go.WideShapes Go.ChangeAt Go.RowKit Go.Deep Go.Joins
theorem own:ownKnob Tryz.prog.godebug=none:=by kernel_rfl
def Oe:List (String×DataW Unit):=Rows.engineTellsRow.laid
theorem avV:Tryz.prog.globalNamed "internal/strconv.uint64pow10"=some 2:=by kernel_rfl
theorem avU:(Tryz.prog.globals[2]?).map (·.type)=some 337:=by kernel_rfl
theorem ang {W:World} (hL:laidMetH Tryz.prog Oe W):oD W:=by
 rw[MakeChecks.laidMetH_plain _ _ _ κ] at hL;have h3:=hL.tail.tail;have hp:=Lib.tabIs_of_head (k:=.u64) (zs:=Lib.pow10Tab) avV avU Tryz.underlying337 Tryz.underlying33 κ κ h3;exact⟨hp,World.block_lt_of_cell? W _ (Lib.TabIs.cell hp avV 0 δ)⟩
theorem al9 (os:Os) (args:Array Value):laidMetH Tryz.prog Oe ((World.laidAll Tryz.prog os Oe).forCall (fun _ _=>0) ⟨#[],args,[]⟩).memory:=by
 rw[MakeChecks.laidMetH_plain _ _ _ κ];exact laidMet_laidAll _ κ κ
theorem aaQ (os:Os) (args:Array Value):((World.laidAll Tryz.prog os Oe).forCall (fun _ _=>0) ⟨#[],args,[]⟩).variablesRefB Tryz.prog=true:=by kernel_rfl
section
variable {H:Type} {enc:TypeId×Value→H} {P:Program}
theorem Ht (hl:laidOutB P=true) {W W':World} {sp:Nat→Bool}:∀{ts:List TypeId} {vs:List Value} {ds:List (DataW H)} {ps:List MemPlace},(∀t∈ts,P.readableRec t = true∧t < P.types.size)→
 DataW.TrodAll enc P W 0 (fun _=>true) true ts vs ds ps→(∀p∈ps,W.sameAt W' p)→(∀p∈ps,sp p.block=true)→DataW.TrodAll enc P W' 0 sp true ts vs ds ps
 | [],_,_,_,_,h,_,_=>by
  obtain⟨rfl,rfl,rfl⟩:=trodAll_nil h;exact trodAll_mk0
 | t ::ts,_,_,_,hr,h,h1,h2=>by
  obtain⟨v,vs1,d,ds1,a,b,rfl,rfl,rfl,h3,h4⟩:=trodAll_cons h;have ht:=hr t σ;exact trodAll_cons_mk (WideElems.Trod_stays hl ht.1 ht.2 h3 (fun p hp=>h1 p (by simp[hp])) (fun p hp=>h2 p (by simp[hp])))
   (Ht hl (fun t' ht'=>hr t' (by simp[ht'])) h4 (fun p hp=>h1 p (by simp[hp])) (fun p hp=>h2 p (by simp[hp])))
theorem aej {f:Func} {s:ChangeSpec} {apart fresh handsOn again:Bool} {W W':World} {args:Array Value} {ds:List (DataW H)} {before:List MemPlace} {tb:TypeId} (hl:laidOutB P=true)
 (hP:∀t∈f.params.toList,P.readableRec t = true∧t < P.types.size) (hv:s.vars=[]) (hW:DataW.Whole enc P f.params.toList s.vars apart W args.toList ds [] before)
 (hfn:s.fn H ds={results:=[.lit (.bool true)],args:=ds}) (hr:f.resultTypes= #[tb]) (hb:P.underlying tb=some .bool) (hg:ah W W') :
 s.post enc P f apart fresh handsOn again W args (.bool true) W':=by
 have hlt:=hW.lt;have hW0:=hW;obtain⟨p,q,hA,hV,e,hz,hn⟩:=hW;rw[hv] at hV;obtain⟨_,rfl⟩:=trodVars_none hV;obtain rfl:before=p:=by rw[e];simp
 have XO:∀x∈before,W.sameAt W' x:=fun x hx=>hg.below.same (hlt x hx)
 have ajz:∀sp:Nat→Bool,(∀x∈before,sp x.block=true)→DataW.TrodAll enc P W' 0 sp true f.params.toList args.toList ds before:=fun sp h=>Ht hl hP hA XO h
 have hres:∀(b:Nat) (sp:Nat→Bool) (hd:Bool),DataW.TrodAll enc P W' b sp hd f.resultTypes.toList ((Value.bool true).resultList f.resultTypes.size) [.lit (.bool true)] []:=fun b sp hd=>by
  rw[hr];exact trodAll_mk1 (shut_bool hb _)
 have hold:∀x∈before,(fun b=>decide (b < W.heap.size)) x.block=true:=fun x hx=>by simpa using hlt x hx
 have aqk:s.fn H (ds++[])={results:=[.lit (.bool true)],args:=ds}:=by rw[List.append_nil];exact hfn
 refine⟨ds,[],before,[],before,[],hW0,?_,?_,?_,?_,fun _=>⟨ok_one hr rfl (okWide_bool_mk hb _),_,_,([]++before)++[],⟨[]++before,[],trodAll_append (ajz _ (fun _ _=>rfl)) (hres _ _ _),by rw[hv];exact (show DataW.TrodVars enc P W' (fun _=>true) [] ([]:List (DataW H)) [] from rfl),rfl,?_,?_⟩,?_⟩⟩
 ·rw[aqk];exact hres _ _ _
 ·rw[aqk];exact ajz _ hold
 ·rw[aqk,hv];exact hV
 ·exact hg.below.frame _
 ·intro b off hp;have hm:MemPlace.cell b off∈before:=by simpa using hp
  rw[hg.below.frozen (p:=⟨b,off,none⟩) (hlt _ hm)];exact hz b off hm
 ·intro ha;simpa using hn ha
 ·intro x hx _;simpa using hx
end
section
variable {H:Type} {enc:TypeId×Value→H} {W:World}
def iM (enc:TypeId×Value→H) (W:World) (t:TypeId) {α:Type} (e:α→List Value) (Q:α→Prop):Prop:=
 ∀(fuel:Nat) (cs:List Value) (x:DataW H×List MemPlace),DataW.trod enc Tryz.prog W 0 (fun _=>true) true fuel t cs=some x→∃y,cs=e y∧Q y
theorem oJ {t:TypeId} (ht:Tryz.prog.underlying t = some .string):iM enc W t (fun (l:List UInt8)=>[.string ⟨l.toArray⟩]) (fun l=>l.length≤maxLen):=by
 intro fuel cs x h;obtain⟨n0,e0,_,m0⟩:=DataW.trod_string ht h;exact⟨n0.data.toList,by rw[e0],by show n0.data.toList.length≤maxLen;rw[Array.length_toList];exact m0⟩
theorem jv {t:TypeId} (ht:Tryz.prog.underlying t = some (.int .i64)):iM enc W t (fun (n:Int)=>[.int .i64 n]) (fun n=> -9223372036854775808≤n∧n≤9223372036854775807):=by
 intro fuel cs x h;obtain⟨n0,e0,_,w1⟩:=DataW.trod_int ht h;refine⟨n0,e0,?_⟩;have e1:IntKind.min .i64=-9223372036854775808:=δ;have e2:IntKind.max .i64=9223372036854775807:=δ;simp[Lit.wf,e1,e2] at w1;exact w1
theorem aeu {t:TypeId} (ht:Tryz.prog.underlying t = some (.int .u32)):iM enc W t (fun (n:Nat)=>[.int .u32 (n:Int)]) (fun n=>n < 4294967296):=by
 intro fuel cs x h;obtain⟨n0,e0,_,w1⟩:=DataW.trod_int ht h;have e1:IntKind.min .u32=0:=δ;have e2:IntKind.max .u32=4294967295:=δ;simp[Lit.wf,e1,e2] at w1;refine⟨n0.toNat,?_,ω⟩;show cs=[.int .u32 ((n0.toNat:Nat):Int)]
 rw[e0,show ((n0.toNat:Nat):Int)=n0 by omega]
structure SlX (α:Type) where
 l:List α
 A:Option Addr
 m:Nat
 k:Nat
theorem lW {α:Type} [Inhabited α] {t e:TypeId} {k:Nat} {ec:α→List Value} {Q:α→Prop} (ht:Tryz.prog.underlying t = some (.slice e)) (hC:Tryz.prog.cellsOf e = k) (hk:∀x,(ec x).length=k) (KH:0<k) (he:iM enc W e ec Q) :
 iM enc W t (fun (y:SlX α)=>[.slice y.A y.m y.k]) (fun y=>y.m≤y.k∧y.k≤maxLen∧bW W k ec y.A y.m y.l∧∀x∈y.l,Q x):=by
 intro fuel cs x h;rcases Deep.open_slice ht h with⟨rfl,_⟩ | ⟨a,len,cap,mm,n,D,Pl,rfl,_,hl,hm,hmm,_,hel⟩
 ·exact⟨⟨[],none,0,0⟩,rfl,Nat.le_refl _,Nat.zero_le _,bW.iH,by simp⟩
 ·simp only[if_true] at hmm;have hw:∀i,i < len→∃x:α,Q x∧∀j u,(ec x)[j]? = some u→W.cell? (a.add (i * k+j))=some u:=fun i hi=>by
   obtain⟨cs,hc,hd⟩:=hel i ω;rw[hC] at hc;obtain⟨y,rfl,hQ⟩:=he _ _ _ hd;obtain⟨_,hl3,hat⟩:=World.cells?_some hc;refine⟨y,hQ,fun j u hu=> ?_⟩;have hj:j < k:=by rw[←hk y];exact (List.getElem?_eq_some_iff.1 hu).1
   have:=hat j hj;rw[←Go.Deep.add_add,this];exact hu
  obtain⟨X,hX⟩:=choose_lt (α:=α) (p:=fun i x=>Q x∧∀j u,(ec x)[j]? = some u→W.cell? (a.add (i * k+j))=some u) hw;refine⟨⟨(List.range len).map X,some a,len,cap⟩,rfl,hl,hm,⟨by simp,fun LV=> ?_⟩,fun x hx=> ?_⟩
  ·obtain⟨u0,hu0⟩:∃u,(ec (X 0))[0]? = some u:=⟨_,List.getElem?_eq_getElem (by rw[hk];exact KH)⟩;have hc0:=(hX 0 LV).2 0 _ hu0;obtain⟨b,off,spot⟩:=a;have hs:=World.cell?_spot hc0;have hsp:spot=none:=by simpa[Addr.add] using hs
   subst hsp;refine⟨b,off,rfl,?_,fun i hi j u hu=> ?_⟩
   ·have:=World.block_lt_of_cell? W _ hc0;simpa[Addr.add] using this
   ·have hi':i < len:=by simpa using hi
    have:=(hX i hi').2 j u (by simpa using hu);have e:∀k,(⟨b,off,none⟩:Addr).add k=⟨b,off+k,none⟩:=fun k=>by unfold Addr.add;by_cases h:k=0 <;> simp[h]
    rw[e,←Nat.add_assoc] at this;exact this
  ·obtain⟨i,hi,rfl⟩:=List.mem_map.1 hx;exact (hX i (List.mem_range.1 hi)).1
theorem aT {t:TypeId} {fs:Array Field} {α:Type} {ec:α→List Value} {Q:α→Prop} {cs:List Value} {x:DataW H×List MemPlace} {fuel:Nat} (ht:Tryz.prog.underlying t = some (.struct fs)) (h:DataW.trod enc Tryz.prog W 0 (fun _=>true) true fuel t cs=some x)
 (i:Nat) {f:Field} (hf:fs[i]? = some f) (o k:Nat) (ho:f.offset=o) (hk:Tryz.prog.cellsOf f.type=k) (he:iM enc W f.type ec Q):∃y,(cs.drop o).take k=ec y∧Q y:=by
 subst ho hk;obtain⟨xs,n,_,_,_,hlen,hg⟩:=DataW.trod_struct ht h;have hi:i < fs.size:=(Array.getElem?_eq_some_iff.1 hf).1;have:=hg i f hf;rw[List.getElem?_eq_getElem ω] at this;exact he _ _ _ this
theorem jE {t:TypeId} {fs:Array Field} {cs:List Value} {x:DataW H×List MemPlace} {fuel:Nat} (ht:Tryz.prog.underlying t = some (.struct fs)) (h:DataW.trod enc Tryz.prog W 0 (fun _=>true) true fuel t cs=some x):cs.length=Tryz.prog.cellsOf t:=by
 obtain⟨xs,n,_,_,hl,_,_⟩:=DataW.trod_struct ht h;exact hl
def OZ (x:fZ):List Value:=[.int .i64 x.lv,.int .u32 (x.c:Int)]
theorem yI:iM enc W 25 OZ fZ.ok:=by
 intro fuel cs x h;have hl:=jE Tryz.underlying25 h;rw[show Tryz.prog.cellsOf 25=2 by kernel_rfl] at hl;obtain⟨y0,h0,_⟩:=aT Tryz.underlying25 h 0 rfl 0 1 rfl κ (jv κ);obtain⟨y1,h1,q1⟩:=aT Tryz.underlying25 h 1 rfl 1 1 rfl κ (aeu κ);match cs,hl with
 | [c0,c1],_=>
  simp at h0 h1;subst h0 h1;exact⟨⟨y0,y1⟩,rfl,q1⟩
theorem aey:iM enc W 41 Yt (fun y=>y.n.length≤maxLen∧y.l.ok):=by
 intro fuel cs x h;have hl:=jE Tryz.underlying41 h;rw[show Tryz.prog.cellsOf 41=3 by kernel_rfl] at hl;obtain⟨y0,h0,q0⟩:=aT Tryz.underlying41 h 0 rfl 0 1 rfl κ (oJ κ);obtain⟨y1,h1,q1⟩:=aT Tryz.underlying41 h 1 rfl 1 2 rfl κ yI;match cs,hl with
 | [c0,c1,c2],_=>
  simp[OZ] at h0 h1;obtain⟨rfl,rfl⟩:=h1;subst h0;exact⟨⟨y0,y1⟩,rfl,q0,q1⟩
theorem aez:iM enc W 213 qU (fun y=>y.n.length≤maxLen∧y.v.length≤maxLen):=by
 intro fuel cs x h;have hl:=jE Tryz.underlying213 h;rw[show Tryz.prog.cellsOf 213=3 by kernel_rfl] at hl;obtain⟨y0,h0,q0⟩:=aT Tryz.underlying213 h 0 rfl 0 1 rfl κ (oJ κ);obtain⟨y1,h1,_⟩:=aT Tryz.underlying213 h 1 rfl 1 1 rfl κ (jv κ);obtain⟨y2,h2,q2⟩:=aT Tryz.underlying213 h 2 rfl 2 1 rfl κ (oJ κ);match cs,hl with
 | [c0,c1,c2],_=>
  simp at h0 h1 h2;subst h0 h1 h2;exact⟨⟨y0,y1,y2⟩,rfl,q0,q2⟩
theorem aeB:iM enc W 88 dW (fun y=>y.n.length≤maxLen∧y.v.length≤maxLen):=by
 intro fuel cs x h;have hl:=jE Tryz.underlying88 h;rw[show Tryz.prog.cellsOf 88=2 by kernel_rfl] at hl;obtain⟨y0,h0,q0⟩:=aT Tryz.underlying88 h 0 rfl 0 1 rfl κ (oJ κ);obtain⟨y1,h1,q1⟩:=aT Tryz.underlying88 h 1 rfl 1 1 rfl κ (oJ κ);match cs,hl with
 | [c0,c1],_=>
  simp at h0 h1;subst h0 h1;exact⟨⟨y0,y1⟩,rfl,q0,q1⟩
def QSl {α:Type} (W:World) (k:Nat) (ec:α→List Value) (Q:α→Prop) (y:SlX α):Prop:=y.m≤y.k∧y.k≤maxLen∧bW W k ec y.A y.m y.l∧∀x∈y.l,Q x
instance:Inhabited Bo:=⟨⟨[],⟨0,0⟩⟩⟩
instance:Inhabited cZ:=⟨⟨[],0,[]⟩⟩
instance:Inhabited bK:=⟨⟨[],[]⟩⟩
theorem NW:iM enc W 43 (fun (y:SlX (List UInt8))=>[.slice y.A y.m y.k]) (QSl W 1 encS (fun l=>l.length≤maxLen)):=
 lW Tryz.underlying43 κ (fun _=>rfl) ω (oJ Tryz.underlying9)
theorem zu:iM enc W 42 (fun (y:SlX Bo)=>[.slice y.A y.m y.k]) (QSl W 3 Yt (fun y=>y.n.length≤maxLen∧y.l.ok)):=
 lW Tryz.underlying42 κ (fun _=>rfl) ω aey
theorem zy:iM enc W 44 (fun (y:SlX cZ)=>[.slice y.A y.m y.k]) (QSl W 3 qU (fun y=>y.n.length≤maxLen∧y.v.length≤maxLen)):=
 lW Tryz.underlying44 κ (fun _=>rfl) ω aez
theorem aas:iM enc W 22 (fun (y:SlX bK)=>[.slice y.A y.m y.k]) (QSl W 2 dW (fun y=>y.n.length≤maxLen∧y.v.length≤maxLen)):=
 lW Tryz.underlying22 κ (fun _=>rfl) ω aeB
end
section
variable {H:Type} {enc:TypeId×Value→H} {W:World}
instance:Inhabited Bc:=⟨⟨⟨[],[],0,0,0,[]⟩,none,0,0,none,0,0⟩⟩
instance:Inhabited Aq:=⟨⟨⟨[],⟨0,0⟩,[],[]⟩,none,0,0,none,0,0,none,0,0⟩⟩
instance:Inhabited dA:=⟨⟨⟨[],[],⟨0,0⟩,0,0⟩,none,0,0⟩⟩
theorem aew:iM enc W 46 encR (fun y=>y.At W):=by
 intro fuel cs x h;have hl:=jE Tryz.underlying46 h;rw[show Tryz.prog.cellsOf 46=6 by kernel_rfl] at hl;obtain⟨y0,h0,q0⟩:=aT Tryz.underlying46 h 0 rfl 0 1 rfl κ (oJ κ);obtain⟨y1,h1,q1⟩:=aT Tryz.underlying46 h 1 rfl 1 1 rfl κ NW;obtain⟨y2,h2,_⟩:=aT Tryz.underlying46 h 2 rfl 2 1 rfl κ (jv κ);obtain⟨y3,h3,_⟩:=aT Tryz.underlying46 h 3 rfl 3 1 rfl κ (jv κ);obtain⟨y4,h4,_⟩:=aT Tryz.underlying46 h 4 rfl 4 1 rfl κ (jv κ);obtain⟨y5,h5,q5⟩:=aT Tryz.underlying46 h 5 rfl 5 1 rfl κ zy;match cs,hl with
 | [c0,c1,c2,c3,c4,c5],_=>
  simp at h0 h1 h2 h3 h4 h5;subst h0 h1 h2 h3 h4 h5;obtain⟨a1,a2,a3,a4⟩:=q1;obtain⟨b1,b2,b3,b4⟩:=q5;unfold maxLen at *
  exact⟨⟨⟨y0,y1.l,y2,y3,y4,y5.l⟩,y1.A,y1.m,y1.k,y5.A,y5.m,y5.k⟩,rfl,a3,by simp only;omega,fun y hy=>by have:=a4 y hy;omega,b3,by simp only;omega⟩
theorem aeA:iM enc W 77 akk (fun y=>y.At W):=by
 intro fuel cs x h;have hl:=jE Tryz.underlying77 h;rw[show Tryz.prog.cellsOf 77=5 by kernel_rfl] at hl;obtain⟨y0,h0,q0⟩:=aT Tryz.underlying77 h 0 rfl 0 1 rfl κ NW;obtain⟨y1,h1,q1⟩:=aT Tryz.underlying77 h 1 rfl 1 2 rfl κ yI;obtain⟨y2,h2,q2⟩:=aT Tryz.underlying77 h 2 rfl 3 1 rfl κ zy;obtain⟨y3,h3,q3⟩:=aT Tryz.underlying77 h 3 rfl 4 1 rfl κ zy;match cs,hl with
 | [c0,c1,c2,c3,c4],_=>
  simp[OZ] at h0 h1 h2 h3;obtain⟨rfl,rfl⟩:=h1;subst h0 h2 h3;obtain⟨a1,a2,a3,a4⟩:=q0;obtain⟨b1,b2,b3,b4⟩:=q2;obtain⟨d1,d2,d3,d4⟩:=q3;unfold maxLen at *
  exact⟨⟨⟨y0.l,y1,y2.l,y3.l⟩,y0.A,y0.m,y0.k,y2.A,y2.m,y2.k,y3.A,y3.m,y3.k⟩,rfl,a3,by simp only;omega,fun y hy=>by have:=a4 y hy;omega,b3,by simp only;omega,d3,by simp only;omega,q1⟩
theorem aaq:iM enc W 47 (fun (y:SlX Bc)=>[.slice y.A y.m y.k]) (QSl W 6 encR (fun y=>y.At W)):=
 lW Tryz.underlying47 κ (fun _=>rfl) ω aew
theorem aar:iM enc W 48 (fun (y:SlX Aq)=>[.slice y.A y.m y.k]) (QSl W 5 akk (fun y=>y.At W)):=
 lW Tryz.underlying48 κ (fun _=>rfl) ω aeA
theorem MN {y:SlX Bo} (q:QSl W 3 Yt (fun y=>y.n.length≤maxLen∧y.l.ok) y):iO.At ⟨y.l,y.A,y.m,y.k⟩ W:=by
 obtain⟨a1,a2,a3,a4⟩:=q;unfold maxLen at *
 exact⟨a3,by simp only;omega,fun y hy=>(a4 y hy).2,fun y hy=>(a4 y hy).1⟩
theorem aex:iM enc W 50 bU.cells (fun y=>y.At W∧y.arl):=by
 intro fuel cs x h;have hl:=jE Tryz.underlying50 h;rw[show Tryz.prog.cellsOf 50=6 by kernel_rfl] at hl;obtain⟨y0,h0,q0⟩:=aT Tryz.underlying50 h 0 rfl 0 1 rfl κ zu;obtain⟨y1,h1,q1⟩:=aT Tryz.underlying50 h 1 rfl 1 1 rfl κ zu;obtain⟨y2,h2,q2⟩:=aT Tryz.underlying50 h 2 rfl 2 1 rfl κ zu;obtain⟨y3,h3,q3⟩:=aT Tryz.underlying50 h 3 rfl 3 1 rfl κ zu;obtain⟨y4,h4,q4⟩:=aT Tryz.underlying50 h 4 rfl 4 1 rfl κ aaq;obtain⟨y5,h5,q5⟩:=aT Tryz.underlying50 h 5 rfl 5 1 rfl κ aar;match cs,hl with
 | [c0,c1,c2,c3,c4,c5],_=>
  simp at h0 h1 h2 h3 h4 h5;subst h0 h1 h2 h3 h4 h5;have n0:=MN q0;have n1:=MN q1;have n2:=MN q2;have n3:=MN q3;obtain⟨a1,a2,_⟩:=q0;obtain⟨b1,b2,_⟩:=q1;obtain⟨d1,d2,_⟩:=q2;obtain⟨e1,e2,_⟩:=q3;obtain⟨f1,f2,f3,f4⟩:=q4;obtain⟨g1,g2,g3,g4⟩:=q5;unfold maxLen at *
  refine⟨⟨⟨y0.l,y0.A,y0.m,y0.k⟩,⟨y1.l,y1.A,y1.m,y1.k⟩,⟨y2.l,y2.A,y2.m,y2.k⟩,⟨y3.l,y3.A,y3.m,y3.k⟩,y4.l,y4.A,y4.m,y4.k,y5.l,y5.A,y5.m,y5.k⟩,rfl,⟨n0,n1,n2,n3,f3,by simp only;omega,f4,g3,by simp only;omega,g4⟩,⟨a1,b1,d1,e1,f1,g1,by simp only;omega,by simp only;omega,by simp only;omega,by simp only;omega,by simp only;omega,by simp only;omega⟩⟩
def QAl (W:World) (y:dA):Prop:=y.m≤y.k∧y.k≤maxLen∧bW W 2 dW y.A y.m y.a.fs∧y.a.l.ok
theorem aeC:iM enc W 27 tq (QAl W):=by
 intro fuel cs x h;have hl:=jE Tryz.underlying27 h;rw[show Tryz.prog.cellsOf 27=6 by kernel_rfl] at hl;obtain⟨y0,h0,q0⟩:=aT Tryz.underlying27 h 0 rfl 0 1 rfl κ (oJ κ);obtain⟨y1,h1,q1⟩:=aT Tryz.underlying27 h 1 rfl 1 1 rfl κ aas;obtain⟨y2,h2,q2⟩:=aT Tryz.underlying27 h 2 rfl 2 2 rfl κ yI;obtain⟨y3,h3,_⟩:=aT Tryz.underlying27 h 3 rfl 4 1 rfl κ (jv κ);obtain⟨y4,h4,_⟩:=aT Tryz.underlying27 h 4 rfl 5 1 rfl κ (jv κ);match cs,hl with
 | [c0,c1,c2,c3,c4,c5],_=>
  simp[OZ] at h0 h1 h2 h3 h4;obtain⟨rfl,rfl⟩:=h2;subst h0 h1 h3 h4;exact⟨⟨⟨y0,y1.l,y2,y3,y4⟩,y1.A,y1.m,y1.k⟩,rfl,q1.1,q1.2.1,q1.2.2.1,q2⟩
theorem Xk {α:Type} {t:TypeId} {fs:Array Field} {e:α→List Value} {Q:α→Prop} {v:Value} {d:DataW H} {p:List MemPlace} {base:Nat} (ht:Tryz.prog.underlying t = some (.struct fs)) (he:iM enc W t e Q) (hv:Value.okWide Tryz.prog W .any base t v) (h:DataW.Trod enc Tryz.prog W 0 (fun _=>true) true t v d p):∃y,v =.agg (e y).toArray∧Q y:=by
 obtain⟨cs,rfl,_⟩:=okWide_struct ht hv;obtain⟨fuel,hf⟩:=h;obtain⟨y,hy,q⟩:=he _ _ _ hf;refine⟨y,?_,q⟩;rw[←hy];simp[Value.cells]
end
end Go.Proofs.YtbhikkgpcmkonaaGreatDoor
namespace Go.Proofs.YtbhikkgpcmkonaaGreatDoor
open Go.ChangeShapes Go.WideShapes Go.ChangeAt Go.RowKit Go.Deep Go.Joins Go.Shelf Go.Lib
theorem aj3:(Rows.laid_unicode_utf8_first:DataW Unit)=Lib.firstData:=by kernel_rfl
theorem agv:(Rows.laid_unicode_utf8_acceptRanges:DataW Unit)=Lib.acceptData:=by kernel_rfl
theorem alu {W:World} (hL:laidMetH Tryz.prog Oe W):oz W:=by
 rw[MakeChecks.laidMetH_plain _ _ _ κ] at hL;have h4:=Lib.laidMet.reads hL (.tail _ (.tail _ (.tail _ (.head _))));have h5:=Lib.laidMet.reads hL (.tail _ (.tail _ (.tail _ (.tail _ (.head _)))));rw[agv] at h4;rw[aj3] at h5;exact utf8Tabs_of_readsT (U8Types.of196 Tryz.aiD) ⟨by kernel_rfl,by kernel_rfl,by kernel_rfl,by kernel_rfl,by kernel_rfl,by kernel_rfl,by kernel_rfl⟩ h5 h4
end Go.Proofs.YtbhikkgpcmkonaaGreatDoor
namespace Go.Proofs.YtbhikkgpcmkonaaGreatDoor
open Go.ChangeShapes Go.WideShapes Go.ChangeAt Go.RowKit Go.Deep Go.Joins
section
variable {H:Type} {enc:TypeId×Value→H} {W:World}
def aoL (z:Int×xZ):List Value:=[.int .i64 z.1,.slice z.2.A z.2.m z.2.k,.int .i64 z.2.s.f,.int .i64 z.2.s.t,.int .i64 z.2.s.l.lv,.int .u32 (z.2.s.l.c:Int)]
theorem aev:iM enc W 82 aoL (fun z=>z.2.m≤z.2.k∧z.2.k≤maxLen∧bW W 3 qU z.2.A z.2.m z.2.s.wh∧z.2.s.l.ok):=by
 intro fuel cs x h;have hl:=jE Tryz.underlying82 h;rw[show Tryz.prog.cellsOf 82=6 by kernel_rfl] at hl;obtain⟨y0,h0,_⟩:=aT Tryz.underlying82 h 0 rfl 0 1 rfl κ (jv κ);obtain⟨y1,h1,q1⟩:=aT Tryz.underlying82 h 1 rfl 1 1 rfl κ zy;obtain⟨y2,h2,_⟩:=aT Tryz.underlying82 h 2 rfl 2 1 rfl κ (jv κ);obtain⟨y3,h3,_⟩:=aT Tryz.underlying82 h 3 rfl 3 1 rfl κ (jv κ);obtain⟨y4,h4,q4⟩:=aT Tryz.underlying82 h 4 rfl 4 2 rfl κ yI;match cs,hl with
 | [c0,c1,c2,c3,c4,c5],_=>
  simp[OZ] at h0 h1 h2 h3 h4;obtain⟨rfl,rfl⟩:=h4;subst h0 h1 h2 h3;exact⟨(y0,⟨⟨y1.l,y2,y3,y4⟩,y1.A,y1.m,y1.k⟩),rfl,q1.1,q1.2.1,q1.2.2.1,q4⟩
theorem ain:iM enc W 168 mZ (xJ W):=by
 intro fuel cs x h;have hl:=jE Tryz.underlying168 h;rw[show Tryz.prog.cellsOf 168=14 by kernel_rfl] at hl;obtain⟨y0,h0,_⟩:=aT Tryz.underlying168 h 0 rfl 0 1 rfl κ (jv κ);obtain⟨y1,h1,q1⟩:=aT Tryz.underlying168 h 1 rfl 1 6 rfl κ aeC;obtain⟨y2,h2,q2⟩:=aT Tryz.underlying168 h 2 rfl 7 6 rfl κ aev;obtain⟨y3,h3,_⟩:=aT Tryz.underlying168 h 3 rfl 13 1 rfl κ (jv κ);match cs,hl with
 | [c0,c1,c2,c3,c4,c5,c6,c7,c8,c9,c10,c11,c12,c13],_=>
  simp[tq,aoL] at h0 h1 h2 h3;obtain⟨rfl,rfl,rfl,rfl,rfl,rfl⟩:=h1;obtain⟨rfl,rfl,rfl,rfl,rfl,rfl⟩:=h2;subst h0 h3;obtain⟨a1,a2,a3,a4⟩:=q1;obtain⟨s1,s2,s3,s4⟩:=q2;unfold maxLen at a2 s2;exact⟨⟨y2.1,⟨y0,y1,y2.2,y3⟩⟩,rfl,⟨a1,by simp only;omega,a3,a4,s1,by simp only;omega,s3,s4⟩⟩
instance:Inhabited vY:=⟨⟨0,⟨0,QN,LQ,0⟩⟩⟩
theorem Sr:iM enc W 96 (fun (y:SlX vY)=>[.slice y.A y.m y.k]) (QSl W 14 mZ (xJ W)):=
 lW Tryz.underlying96 κ auG ω ain
theorem aat:iM enc W 97 (fun (y:SlX vY×SlX vY)=>[.slice y.1.A y.1.m y.1.k,.slice y.2.A y.2.m y.2.k]) (fun y=>QSl W 14 mZ (xJ W) y.1∧QSl W 14 mZ (xJ W) y.2):=by
 intro fuel cs x h;obtain⟨xs,n,_,_,hl,hlen,hg⟩:=DataW.trod_array Tryz.underlying97 h;have g0:=hg 0 ω;have g1:=hg 1 ω;rw[show Tryz.prog.cellsOf 96=1 by kernel_rfl] at g0 g1;rw[List.getElem?_eq_getElem ω] at g0 g1;obtain⟨y0,e0,q0⟩:=Sr _ _ _ g0;obtain⟨y1,e1,q1⟩:=Sr _ _ _ g1;rw[show Tryz.prog.cellsOf 97=2 by kernel_rfl] at hl;match cs,hl with
 | [c0,c1],_=>
  simp at e0 e1;subst e0 e1;exact⟨(y0,y1),rfl,q0,q1⟩
theorem aeD {v:Value} {d:DataW H} {p:List MemPlace} {base:Nat} (hv:Value.okWide Tryz.prog W .any base 97 v) (h:DataW.Trod enc Tryz.prog W 0 (fun _=>true) true 97 v d p) :
 ∃y0 y1:SlX vY,v =.agg #[.slice y0.A y0.m y0.k,.slice y1.A y1.m y1.k]∧QSl W 14 mZ (xJ W) y0∧QSl W 14 mZ (xJ W) y1:=by
 obtain⟨cs,rfl⟩:∃cs,v =.agg cs:=by
  simp only[Value.okWide,Tryz.underlying97] at hv;obtain⟨cs,h1,_⟩:=hv;exact⟨cs,h1⟩
 obtain⟨fuel,hf⟩:=h;obtain⟨y,hy,hq⟩:=aat (enc:=enc) (W:=W) _ _ _ hf;refine⟨y.1,y.2,?_,hq.1,hq.2⟩;have h2:(Value.agg cs).cells.toList=[Value.slice y.1.A y.1.m y.1.k,.slice y.2.A y.2.m y.2.k]:=hy;simp only[Value.cells] at h2;rw[←Array.toArray_toList (xs:=cs),h2]
end
end Go.Proofs.YtbhikkgpcmkonaaGreatDoor
