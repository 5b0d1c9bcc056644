/- Parts: MatD RowR RowP RowQ RowV -/
import Derived.Test.YtbhikkgpcmkonaaGreatDoorEn0
import Derived.Test.YtbhikkgpcmkonaaGreatDoorEn18
import Derived.Test.YtbhikkgpcmkonaaGreatDoorEn10
import Derived.Test.YtbhikkgpcmkonaaGreatDoorCards
import Derived.Test.YtbhikkgpcmkonaaGreatDoorTie
import Derived.ProofKit
import Derived.OpenShut
import Derived.LaidMore
import Derived.Deep.DeepHandedRow
import Derived.Deep.DeepWitnessRowRef
import Derived.Lib.LaidTab
import Derived.Stop.LaidErr
import Derived.Shelf.Vars
import Derived.SevenTiedAt
import Derived.Carry
import Derived.Deep.Slices
import Derived.Deep.Fields
import Derived.Lib.SmallJoins
import Derived.ChangeMaps5
import Derived.Laws.IdiomArrays
import Derived.Lay
import Derived.Test.YtbhikkgpcmkonaaGreatDoorEn5
import Derived.Test.YtbhikkgpcmkonaaGreatDoorEn3
import Derived.Test.YtbhikkgpcmkonaaGreatDoorEn8
import Derived.Test.YtbhikkgpcmkonaaGreatDoorEn12
import Derived.Lib.LaidU8T
import Derived.Lib.LaidIn
import Derived.Test.YtbhikkgpcmkonaaGreatDoorEn17
set_option maxRecDepth 100000
set_option maxHeartbeats 12800000
namespace Go.Proofs.YtbhikkgpcmkonaaGreatDoor
open Go.RowKit Go.Maps
theorem abk (p:aY):jc YW p:=⟨fun _ _ y _=>Kr y,fun _ _=>⟨fun y _=>Kr y,fun y _=>Kr y⟩⟩
end Go.Proofs.YtbhikkgpcmkonaaGreatDoor
namespace Go.Proofs.YtbhikkgpcmkonaaGreatDoor
open Go.ChangeShapes Go.WideShapes Go.ChangeAt Go.RowKit Go.Deep Go.Joins
theorem own:ownKnob Tryz.prog.godebug=none:=by kernel_rfl
def JK:List (String×DataW Unit):=Rows.engineTellsRow.laid
theorem aqj:Tryz.prog.globalNamed "internal/strconv.uint64pow10"=some 2:=by kernel_rfl
theorem aqi:(Tryz.prog.globals[2]?).map (·.type)=some 337:=by kernel_rfl
theorem aij {W:World} (hL:laidMetH Tryz.prog JK W):lT W:=by
 rw[MakeChecks.laidMetH_plain _ _ _ κ] at hL;have h3:=hL.tail.tail;have hp:=Lib.tabIs_of_head (k:=.u64) (zs:=Lib.pow10Tab) aqj aqi Tryz.underlying337 Tryz.underlying33 κ κ h3;exact⟨hp,World.block_lt_of_cell? W _ (Lib.TabIs.cell hp aqj 0 δ)⟩
theorem ahm (os:Os) (args:Array Value):laidMetH Tryz.prog JK ((World.laidAll Tryz.prog os JK).forCall (fun _ _=>0) ⟨#[],args,[]⟩).memory:=by
 rw[MakeChecks.laidMetH_plain _ _ _ κ];exact laidMet_laidAll _ κ κ
theorem WX (os:Os) (args:Array Value):((World.laidAll Tryz.prog os JK).forCall (fun _ _=>0) ⟨#[],args,[]⟩).variablesRefB Tryz.prog=true:=by kernel_rfl
section
variable {H:Type} {enc:TypeId×Value→H} {P:Program}
theorem Dh (hl:laidOutB P=true) {W W':World} {sp:Nat→Bool}:∀{ts:List TypeId} {vs:List Value} {ds:List (DataW H)} {ps:List MemPlace},(∀t∈ts,P.readableRec t = true∧t < P.types.size)→
 DataW.TrodAll enc P W 0 (fun _=>true) true ts vs ds ps→(∀p∈ps,W.sameAt W' p)→(∀p∈ps,sp p.block=true)→DataW.TrodAll enc P W' 0 sp true ts vs ds ps
 | [],_,_,_,_,h,_,_=>by
  obtain⟨rfl,rfl,rfl⟩:=trodAll_nil h;exact trodAll_mk0
 | t ::ts,_,_,_,hr,h,h1,h2=>by
  obtain⟨v,vs1,d,ds1,a,b,rfl,rfl,rfl,h3,h4⟩:=trodAll_cons h;have ht:=hr t σ;exact trodAll_cons_mk (WideElems.Trod_stays hl ht.1 ht.2 h3 (fun p hp=>h1 p (by simp[hp])) (fun p hp=>h2 p (by simp[hp])))
   (Dh hl (fun t' ht'=>hr t' (by simp[ht'])) h4 (fun p hp=>h1 p (by simp[hp])) (fun p hp=>h2 p (by simp[hp])))
theorem ZY {f:Func} {s:ChangeSpec} {apart fresh handsOn again:Bool} {W W':World} {args:Array Value} {ds:List (DataW H)} {before:List MemPlace} {tb:TypeId} (hl:laidOutB P=true)
 (hP:∀t∈f.params.toList,P.readableRec t = true∧t < P.types.size) (hv:s.vars=[]) (hW:DataW.Whole enc P f.params.toList s.vars apart W args.toList ds [] before)
 (hfn:s.fn H ds={results:=[.lit (.bool true)],args:=ds}) (hr:f.resultTypes= #[tb]) (hb:P.underlying tb=some .bool) (hg:ah W W') :
 s.post enc P f apart fresh handsOn again W args (.bool true) W':=by
 have hlt:=hW.lt;have hW0:=hW;obtain⟨p,q,hA,hV,e,hz,hn⟩:=hW;rw[hv] at hV;obtain⟨_,rfl⟩:=trodVars_none hV;obtain rfl:before=p:=by rw[e];simp
 have aoB:∀x∈before,W.sameAt W' x:=fun x hx=>hg.below.same (hlt x hx)
 have aeF:∀sp:Nat→Bool,(∀x∈before,sp x.block=true)→DataW.TrodAll enc P W' 0 sp true f.params.toList args.toList ds before:=fun sp h=>Dh hl hP hA aoB h
 have hres:∀(b:Nat) (sp:Nat→Bool) (hd:Bool),DataW.TrodAll enc P W' b sp hd f.resultTypes.toList ((Value.bool true).resultList f.resultTypes.size) [.lit (.bool true)] []:=fun b sp hd=>by
  rw[hr];exact trodAll_mk1 (shut_bool hb _)
 have hold:∀x∈before,(fun b=>decide (b < W.heap.size)) x.block=true:=fun x hx=>by simpa using hlt x hx
 have alk:s.fn H (ds++[])={results:=[.lit (.bool true)],args:=ds}:=by rw[List.append_nil];exact hfn
 refine⟨ds,[],before,[],before,[],hW0,?_,?_,?_,?_,fun _=>⟨ok_one hr rfl (okWide_bool_mk hb _),_,_,([]++before)++[],⟨[]++before,[],trodAll_append (aeF _ (fun _ _=>rfl)) (hres _ _ _),by rw[hv];exact (show DataW.TrodVars enc P W' (fun _=>true) [] ([]:List (DataW H)) [] from rfl),rfl,?_,?_⟩,?_⟩⟩
 ·rw[alk];exact hres _ _ _
 ·rw[alk];exact aeF _ hold
 ·rw[alk,hv];exact hV
 ·exact hg.below.frame _
 ·intro b off hp;have hm:MemPlace.cell b off∈before:=by simpa using hp
  rw[hg.below.frozen (p:=⟨b,off,none⟩) (hlt _ hm)];exact hz b off hm
 ·intro ha;simpa using hn ha
 ·intro x hx _;simpa using hx
end
section
variable {H:Type} {enc:TypeId×Value→H} {W:World}
def jL (enc:TypeId×Value→H) (W:World) (t:TypeId) {α:Type} (e:α→List Value) (Q:α→Prop):Prop:=
 ∀(fuel:Nat) (cs:List Value) (x:DataW H×List MemPlace),DataW.trod enc Tryz.prog W 0 (fun _=>true) true fuel t cs=some x→∃y,cs=e y∧Q y
theorem u_ {t:TypeId} (ht:Tryz.prog.underlying t = some .string):jL enc W t (fun (l:List UInt8)=>[.string ⟨l.toArray⟩]) (fun l=>l.length≤maxLen):=by
 intro fuel cs x h;obtain⟨n0,e0,_,m0⟩:=DataW.trod_string ht h;exact⟨n0.data.toList,by rw[e0],by show n0.data.toList.length≤maxLen;rw[Array.length_toList];exact m0⟩
theorem vg {t:TypeId} (ht:Tryz.prog.underlying t = some (.int .i64)):jL enc W t (fun (n:Int)=>[.int .i64 n]) (fun n=> -9223372036854775808≤n∧n≤9223372036854775807):=by
 intro fuel cs x h;obtain⟨n0,e0,_,w1⟩:=DataW.trod_int ht h;refine⟨n0,e0,?_⟩;have e1:IntKind.min .i64=-9223372036854775808:=δ;have e2:IntKind.max .i64=9223372036854775807:=δ;simp[Lit.wf,e1,e2] at w1;exact w1
theorem Z_ {t:TypeId} (ht:Tryz.prog.underlying t = some (.int .u32)):jL enc W t (fun (n:Nat)=>[.int .u32 (n:Int)]) (fun n=>n < 4294967296):=by
 intro fuel cs x h;obtain⟨n0,e0,_,w1⟩:=DataW.trod_int ht h;have e1:IntKind.min .u32=0:=δ;have e2:IntKind.max .u32=4294967295:=δ;simp[Lit.wf,e1,e2] at w1;refine⟨n0.toNat,?_,ω⟩;show cs=[.int .u32 ((n0.toNat:Nat):Int)]
 rw[e0,show ((n0.toNat:Nat):Int)=n0 by omega]
structure SlX (α:Type) where
 l:List α
 A:Option Addr
 m:Nat
 k:Nat
theorem pK {α:Type} [Inhabited α] {t e:TypeId} {k:Nat} {ec:α→List Value} {Q:α→Prop} (ht:Tryz.prog.underlying t = some (.slice e)) (hC:Tryz.prog.cellsOf e = k) (hk:∀x,(ec x).length=k) (GR:0<k) (he:jL enc W e ec Q) :
 jL enc W t (fun (y:SlX α)=>[.slice y.A y.m y.k]) (fun y=>y.m≤y.k∧y.k≤maxLen∧cu W k ec y.A y.m y.l∧∀x∈y.l,Q x):=by
 intro fuel cs x h;rcases Deep.open_slice ht h with⟨rfl,_⟩ | ⟨a,len,cap,mm,n,D,Pl,rfl,_,hl,hm,hmm,_,hel⟩
 ·exact⟨⟨[],none,0,0⟩,rfl,Nat.le_refl _,Nat.zero_le _,cu.jA,by simp⟩
 ·simp only[if_true] at hmm;have hw:∀i,i < len→∃x:α,Q x∧∀j u,(ec x)[j]? = some u→W.cell? (a.add (i * k+j))=some u:=fun i hi=>by
   obtain⟨cs,hc,hd⟩:=hel i ω;rw[hC] at hc;obtain⟨y,rfl,hQ⟩:=he _ _ _ hd;obtain⟨_,hl3,hat⟩:=World.cells?_some hc;refine⟨y,hQ,fun j u hu=> ?_⟩;have hj:j < k:=by rw[←hk y];exact (List.getElem?_eq_some_iff.1 hu).1
   have:=hat j hj;rw[←Go.Deep.add_add,this];exact hu
  obtain⟨X,hX⟩:=choose_lt (α:=α) (p:=fun i x=>Q x∧∀j u,(ec x)[j]? = some u→W.cell? (a.add (i * k+j))=some u) hw;refine⟨⟨(List.range len).map X,some a,len,cap⟩,rfl,hl,hm,⟨by simp,fun Nh=> ?_⟩,fun x hx=> ?_⟩
  ·obtain⟨u0,hu0⟩:∃u,(ec (X 0))[0]? = some u:=⟨_,List.getElem?_eq_getElem (by rw[hk];exact GR)⟩;have hc0:=(hX 0 Nh).2 0 _ hu0;obtain⟨b,off,spot⟩:=a;have hs:=World.cell?_spot hc0;have hsp:spot=none:=by simpa[Addr.add] using hs
   subst hsp;refine⟨b,off,rfl,?_,fun i hi j u hu=> ?_⟩
   ·have:=World.block_lt_of_cell? W _ hc0;simpa[Addr.add] using this
   ·have hi':i < len:=by simpa using hi
    have:=(hX i hi').2 j u (by simpa using hu);have e:∀k,(⟨b,off,none⟩:Addr).add k=⟨b,off+k,none⟩:=fun k=>by unfold Addr.add;by_cases h:k=0 <;> simp[h]
    rw[e,←Nat.add_assoc] at this;exact this
  ·obtain⟨i,hi,rfl⟩:=List.mem_map.1 hx;exact (hX i (List.mem_range.1 hi)).1
theorem bF {t:TypeId} {fs:Array Field} {α:Type} {ec:α→List Value} {Q:α→Prop} {cs:List Value} {x:DataW H×List MemPlace} {fuel:Nat} (ht:Tryz.prog.underlying t = some (.struct fs)) (h:DataW.trod enc Tryz.prog W 0 (fun _=>true) true fuel t cs=some x)
 (i:Nat) {f:Field} (hf:fs[i]? = some f) (o k:Nat) (ho:f.offset=o) (hk:Tryz.prog.cellsOf f.type=k) (he:jL enc W f.type ec Q):∃y,(cs.drop o).take k=ec y∧Q y:=by
 subst ho hk;obtain⟨xs,n,_,_,_,hlen,hg⟩:=DataW.trod_struct ht h;have hi:i < fs.size:=(Array.getElem?_eq_some_iff.1 hf).1;have:=hg i f hf;rw[List.getElem?_eq_getElem ω] at this;exact he _ _ _ this
theorem nX {t:TypeId} {fs:Array Field} {cs:List Value} {x:DataW H×List MemPlace} {fuel:Nat} (ht:Tryz.prog.underlying t = some (.struct fs)) (h:DataW.trod enc Tryz.prog W 0 (fun _=>true) true fuel t cs=some x):cs.length=Tryz.prog.cellsOf t:=by
 obtain⟨xs,n,_,_,hl,_,_⟩:=DataW.trod_struct ht h;exact hl
def XW (x:jU):List Value:=[.int .i64 x.lv,.int .u32 (x.c:Int)]
theorem Oi:jL enc W 25 XW jU.ok:=by
 intro fuel cs x h;have hl:=nX Tryz.underlying25 h;rw[show Tryz.prog.cellsOf 25=2 by kernel_rfl] at hl;obtain⟨y0,h0,_⟩:=bF Tryz.underlying25 h 0 rfl 0 1 rfl κ (vg κ);obtain⟨y1,h1,q1⟩:=bF Tryz.underlying25 h 1 rfl 1 1 rfl κ (Z_ κ);match cs,hl with
 | [c0,c1],_=>
  simp at h0 h1;subst h0 h1;exact⟨⟨y0,y1⟩,rfl,q1⟩
theorem aae:jL enc W 41 Ur (fun y=>y.n.length≤maxLen∧y.l.ok):=by
 intro fuel cs x h;have hl:=nX Tryz.underlying41 h;rw[show Tryz.prog.cellsOf 41=3 by kernel_rfl] at hl;obtain⟨y0,h0,q0⟩:=bF Tryz.underlying41 h 0 rfl 0 1 rfl κ (u_ κ);obtain⟨y1,h1,q1⟩:=bF Tryz.underlying41 h 1 rfl 1 2 rfl κ Oi;match cs,hl with
 | [c0,c1,c2],_=>
  simp[XW] at h0 h1;obtain⟨rfl,rfl⟩:=h1;subst h0;exact⟨⟨y0,y1⟩,rfl,q0,q1⟩
theorem aaf:jL enc W 213 FY (fun y=>y.n.length≤maxLen∧y.v.length≤maxLen):=by
 intro fuel cs x h;have hl:=nX Tryz.underlying213 h;rw[show Tryz.prog.cellsOf 213=3 by kernel_rfl] at hl;obtain⟨y0,h0,q0⟩:=bF Tryz.underlying213 h 0 rfl 0 1 rfl κ (u_ κ);obtain⟨y1,h1,_⟩:=bF Tryz.underlying213 h 1 rfl 1 1 rfl κ (vg κ);obtain⟨y2,h2,q2⟩:=bF Tryz.underlying213 h 2 rfl 2 1 rfl κ (u_ κ);match cs,hl with
 | [c0,c1,c2],_=>
  simp at h0 h1 h2;subst h0 h1 h2;exact⟨⟨y0,y1,y2⟩,rfl,q0,q2⟩
def QSl {α:Type} (W:World) (k:Nat) (ec:α→List Value) (Q:α→Prop) (y:SlX α):Prop:=y.m≤y.k∧y.k≤maxLen∧cu W k ec y.A y.m y.l∧∀x∈y.l,Q x
instance:Inhabited xZ:=⟨⟨[],⟨0,0⟩⟩⟩
instance:Inhabited d_:=⟨⟨[],0,[]⟩⟩
instance:Inhabited bK:=⟨⟨[],[]⟩⟩
theorem JA:jL enc W 43 (fun (y:SlX (List UInt8))=>[.slice y.A y.m y.k]) (QSl W 1 encS (fun l=>l.length≤maxLen)):=
 pK Tryz.underlying43 κ (fun _=>rfl) ω (u_ Tryz.underlying9)
theorem wB:jL enc W 42 (fun (y:SlX xZ)=>[.slice y.A y.m y.k]) (QSl W 3 Ur (fun y=>y.n.length≤maxLen∧y.l.ok)):=
 pK Tryz.underlying42 κ (fun _=>rfl) ω aae
theorem Ah:jL enc W 44 (fun (y:SlX d_)=>[.slice y.A y.m y.k]) (QSl W 3 FY (fun y=>y.n.length≤maxLen∧y.v.length≤maxLen)):=
 pK Tryz.underlying44 κ (fun _=>rfl) ω aaf
end
section
variable {H:Type} {enc:TypeId×Value→H} {W:World}
instance:Inhabited xY:=⟨⟨⟨[],[],0,0,0,[]⟩,none,0,0,none,0,0⟩⟩
instance:Inhabited xC:=⟨⟨⟨[],⟨0,0⟩,[],[]⟩,none,0,0,none,0,0,none,0,0⟩⟩
instance:Inhabited dH:=⟨⟨⟨[],[],⟨0,0⟩,0,0⟩,none,0,0⟩⟩
theorem aac:jL enc W 46 encR (fun y=>y.At W):=by
 intro fuel cs x h;have hl:=nX Tryz.underlying46 h;rw[show Tryz.prog.cellsOf 46=6 by kernel_rfl] at hl;obtain⟨y0,h0,q0⟩:=bF Tryz.underlying46 h 0 rfl 0 1 rfl κ (u_ κ);obtain⟨y1,h1,q1⟩:=bF Tryz.underlying46 h 1 rfl 1 1 rfl κ JA;obtain⟨y2,h2,_⟩:=bF Tryz.underlying46 h 2 rfl 2 1 rfl κ (vg κ);obtain⟨y3,h3,_⟩:=bF Tryz.underlying46 h 3 rfl 3 1 rfl κ (vg κ);obtain⟨y4,h4,_⟩:=bF Tryz.underlying46 h 4 rfl 4 1 rfl κ (vg κ);obtain⟨y5,h5,q5⟩:=bF Tryz.underlying46 h 5 rfl 5 1 rfl κ Ah;match cs,hl with
 | [c0,c1,c2,c3,c4,c5],_=>
  simp at h0 h1 h2 h3 h4 h5;subst h0 h1 h2 h3 h4 h5;obtain⟨a1,a2,a3,a4⟩:=q1;obtain⟨b1,b2,b3,b4⟩:=q5;unfold maxLen at *
  exact⟨⟨⟨y0,y1.l,y2,y3,y4,y5.l⟩,y1.A,y1.m,y1.k,y5.A,y5.m,y5.k⟩,rfl,a3,by simp only;omega,fun y hy=>by have:=a4 y hy;omega,b3,by simp only;omega⟩
theorem aag:jL enc W 77 afr (fun y=>y.At W):=by
 intro fuel cs x h;have hl:=nX Tryz.underlying77 h;rw[show Tryz.prog.cellsOf 77=5 by kernel_rfl] at hl;obtain⟨y0,h0,q0⟩:=bF Tryz.underlying77 h 0 rfl 0 1 rfl κ JA;obtain⟨y1,h1,q1⟩:=bF Tryz.underlying77 h 1 rfl 1 2 rfl κ Oi;obtain⟨y2,h2,q2⟩:=bF Tryz.underlying77 h 2 rfl 3 1 rfl κ Ah;obtain⟨y3,h3,q3⟩:=bF Tryz.underlying77 h 3 rfl 4 1 rfl κ Ah;match cs,hl with
 | [c0,c1,c2,c3,c4],_=>
  simp[XW] at h0 h1 h2 h3;obtain⟨rfl,rfl⟩:=h1;subst h0 h2 h3;obtain⟨a1,a2,a3,a4⟩:=q0;obtain⟨b1,b2,b3,b4⟩:=q2;obtain⟨d1,d2,d3,d4⟩:=q3;unfold maxLen at *
  exact⟨⟨⟨y0.l,y1,y2.l,y3.l⟩,y0.A,y0.m,y0.k,y2.A,y2.m,y2.k,y3.A,y3.m,y3.k⟩,rfl,a3,by simp only;omega,fun y hy=>by have:=a4 y hy;omega,b3,by simp only;omega,d3,by simp only;omega,q1⟩
theorem Wp:jL enc W 47 (fun (y:SlX xY)=>[.slice y.A y.m y.k]) (QSl W 6 encR (fun y=>y.At W)):=
 pK Tryz.underlying47 κ (fun _=>rfl) ω aac
theorem Wq:jL enc W 48 (fun (y:SlX xC)=>[.slice y.A y.m y.k]) (QSl W 5 afr (fun y=>y.At W)):=
 pK Tryz.underlying48 κ (fun _=>rfl) ω aag
theorem IZ {y:SlX xZ} (q:QSl W 3 Ur (fun y=>y.n.length≤maxLen∧y.l.ok) y):f_.At ⟨y.l,y.A,y.m,y.k⟩ W:=by
 obtain⟨a1,a2,a3,a4⟩:=q;unfold maxLen at *
 exact⟨a3,by simp only;omega,fun y hy=>(a4 y hy).2,fun y hy=>(a4 y hy).1⟩
theorem aad:jL enc W 50 aY.cells (fun y=>y.At W∧y.amf):=by
 intro fuel cs x h;have hl:=nX Tryz.underlying50 h;rw[show Tryz.prog.cellsOf 50=6 by kernel_rfl] at hl;obtain⟨y0,h0,q0⟩:=bF Tryz.underlying50 h 0 rfl 0 1 rfl κ wB;obtain⟨y1,h1,q1⟩:=bF Tryz.underlying50 h 1 rfl 1 1 rfl κ wB;obtain⟨y2,h2,q2⟩:=bF Tryz.underlying50 h 2 rfl 2 1 rfl κ wB;obtain⟨y3,h3,q3⟩:=bF Tryz.underlying50 h 3 rfl 3 1 rfl κ wB;obtain⟨y4,h4,q4⟩:=bF Tryz.underlying50 h 4 rfl 4 1 rfl κ Wp;obtain⟨y5,h5,q5⟩:=bF Tryz.underlying50 h 5 rfl 5 1 rfl κ Wq;match cs,hl with
 | [c0,c1,c2,c3,c4,c5],_=>
  simp at h0 h1 h2 h3 h4 h5;subst h0 h1 h2 h3 h4 h5;have n0:=IZ q0;have n1:=IZ q1;have n2:=IZ q2;have n3:=IZ q3;obtain⟨a1,a2,_⟩:=q0;obtain⟨b1,b2,_⟩:=q1;obtain⟨d1,d2,_⟩:=q2;obtain⟨e1,e2,_⟩:=q3;obtain⟨f1,f2,f3,f4⟩:=q4;obtain⟨g1,g2,g3,g4⟩:=q5;unfold maxLen at *
  refine⟨⟨⟨y0.l,y0.A,y0.m,y0.k⟩,⟨y1.l,y1.A,y1.m,y1.k⟩,⟨y2.l,y2.A,y2.m,y2.k⟩,⟨y3.l,y3.A,y3.m,y3.k⟩,y4.l,y4.A,y4.m,y4.k,y5.l,y5.A,y5.m,y5.k⟩,rfl,⟨n0,n1,n2,n3,f3,by simp only;omega,f4,g3,by simp only;omega,g4⟩,⟨a1,b1,d1,e1,f1,g1,by simp only;omega,by simp only;omega,by simp only;omega,by simp only;omega,by simp only;omega,by simp only;omega⟩⟩
theorem adA {α:Type} {t:TypeId} {fs:Array Field} {e:α→List Value} {Q:α→Prop} {v:Value} {d:DataW H} {p:List MemPlace} {base:Nat} (ht:Tryz.prog.underlying t = some (.struct fs)) (he:jL enc W t e Q) (hv:Value.okWide Tryz.prog W .any base t v) (h:DataW.Trod enc Tryz.prog W 0 (fun _=>true) true t v d p):∃y,v =.agg (e y).toArray∧Q y:=by
 obtain⟨cs,rfl,_⟩:=okWide_struct ht hv;obtain⟨fuel,hf⟩:=h;obtain⟨y,hy,q⟩:=he _ _ _ hf;refine⟨y,?_,q⟩;rw[←hy];simp[Value.cells]
end
end Go.Proofs.YtbhikkgpcmkonaaGreatDoor
namespace Go.Proofs.YtbhikkgpcmkonaaGreatDoor
open Go.ChangeShapes Go.WideShapes Go.ChangeAt Go.RowKit Go.Deep Go.Joins Go.Shelf Go.Lib
theorem afb:(Rows.laid_unicode_utf8_first:DataW Unit)=Lib.firstData:=by kernel_rfl
theorem abW:(Rows.laid_unicode_utf8_acceptRanges:DataW Unit)=Lib.acceptData:=by kernel_rfl
theorem agG {W:World} (hL:laidMetH Tryz.prog JK W):lS W:=by
 rw[MakeChecks.laidMetH_plain _ _ _ κ] at hL;have h4:=Lib.laidMet.reads hL (.tail _ (.tail _ (.tail _ (.head _))));have h5:=Lib.laidMet.reads hL (.tail _ (.tail _ (.tail _ (.tail _ (.head _)))));rw[abW] at h4;rw[afb] at h5;exact utf8Tabs_of_readsT (U8Types.of196 Tryz.adN) ⟨by kernel_rfl,by kernel_rfl,by kernel_rfl,by kernel_rfl,by kernel_rfl,by kernel_rfl,by kernel_rfl⟩ h5 h4
end Go.Proofs.YtbhikkgpcmkonaaGreatDoor
