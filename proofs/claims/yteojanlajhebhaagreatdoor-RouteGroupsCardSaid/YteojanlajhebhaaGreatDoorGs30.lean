/- Parts: RLiA RLiv LGro MatD RowR RowP RowQ RowU -/
import Derived.Test.YteojanlajhebhaaGreatDoorGs0
import Derived.Test.YteojanlajhebhaaGreatDoorGs29
import Derived.Test.YteojanlajhebhaaGreatDoorGs3
import Derived.Test.YteojanlajhebhaaGreatDoorGs28
import Derived.Test.YteojanlajhebhaaGreatDoorGs27
import Derived.Test.YteojanlajhebhaaGreatDoorGs13
import Derived.Test.YteojanlajhebhaaGreatDoorCards
import Derived.Test.YteojanlajhebhaaGreatDoorTie
import Derived.ProofKit
import Derived.OpenShut
import Derived.LaidMore
import Derived.Deep.DeepHandedRow
import Derived.Deep.DeepWitnessRowRef
import Derived.Lib.LaidTab
import Derived.Stop.LaidErr
import Derived.Shelf.Vars
import Derived.SevenTiedAt
import Derived.Carry
import Derived.Deep.Slices
import Derived.Deep.Fields
import Derived.Lib.SmallJoins
import Derived.ChangeMaps5
import Derived.Laws.IdiomArrays
import Derived.Lay
import Derived.Test.YteojanlajhebhaaGreatDoorGs5
import Derived.Test.YteojanlajhebhaaGreatDoorGs9
set_option maxRecDepth 100000
set_option maxHeartbeats 12800000
namespace Go.Proofs.YteojanlajhebhaaGreatDoor
open Go.RowKit Go.Maps
def rl1 (w:World):World:=w.alloc (.cells #[.string ⟨fQ.toArray⟩,.int .i64 3,.int .u32 0] 58)
def rl2 (w:World):World:=(rl1 w).alloc (.cells #[.string ⟨wR.toArray⟩] 9)
def rl3 (w:World):World:=(rl2 w).alloc (.cells #[.string ⟨fQ.toArray⟩,.slice (some ⟨w.heap.size+1,0,none⟩) 1 1,.int .i64 0,.int .i64 1,.int .i64 1,.slice none 0 0] 61)
def rl4 (w:World):World:=(rl3 w).alloc (.cells #[.slice none 0 0,.slice (some ⟨w.heap.size,0,none⟩) 1 1,.slice none 0 0,.slice none 0 0,.slice (some ⟨w.heap.size+1+1,0,none⟩) 1 1,.slice none 0 0] 26)
def rl5 (w:World):World:=(rl4 w).alloc (.cells #[.string ⟨LC.toArray⟩,.string ⟨#[49]⟩,.string ⟨wR.toArray⟩,.string ⟨#[116]⟩] 63)
def rl6 (w:World):World:=(rl5 w).alloc (.cells #[.string ⟨Iz.toArray⟩,.slice (some ⟨w.heap.size+1+1+1+1,0,none⟩) 2 2,.int .i64 0,.int .u32 0,.int .i64 0,.int .i64 0] 42)
def rl7 (w:World):World:=(rl6 w).alloc (.cells #[.string ⟨LC.toArray⟩,.string ⟨#[50]⟩,.string ⟨wR.toArray⟩,.string ⟨#[116]⟩] 63)
def rl8 (w:World):World:=(rl7 w).alloc (.cells #[.string ⟨Iz.toArray⟩,.slice (some ⟨w.heap.size+1+1+1+1+1+1,0,none⟩) 2 2,.int .i64 0,.int .u32 0,.int .i64 0,.int .i64 0] 42)
def OU (w:World):World:=(rl8 w).alloc (.cells #[.string ⟨Iz.toArray⟩,.slice (some ⟨w.heap.size+1+1+1+1,0,none⟩) 2 2,.int .i64 0,.int .u32 0,.int .i64 0,.int .i64 0,.string ⟨Iz.toArray⟩,.slice (some ⟨w.heap.size+1+1+1+1+1+1,0,none⟩) 2 2,.int .i64 0,.int .u32 0,.int .i64 0,.int .i64 0] 42)
theorem Gl (w:World):(rl1 w).heap.size=w.heap.size+1∧(rl2 w).heap.size=w.heap.size+1+1∧(rl3 w).heap.size=w.heap.size+1+1+1∧(rl4 w).heap.size=w.heap.size+1+1+1+1∧(rl5 w).heap.size=w.heap.size+1+1+1+1+1∧(rl6 w).heap.size=w.heap.size+1+1+1+1+1+1∧(rl7 w).heap.size=w.heap.size+1+1+1+1+1+1+1∧(rl8 w).heap.size=w.heap.size+1+1+1+1+1+1+1+1∧(OU w).heap.size=w.heap.size+1+1+1+1+1+1+1+1+1:=by
 simp[rl1,rl2,rl3,rl4,rl5,rl6,rl7,rl8,OU]
theorem anJ (w:World):ah (rl1 w) (OU w):=((((((((ah.refl _).alloc _).alloc _).alloc _).alloc _).alloc _).alloc _).alloc _).alloc _
theorem arO (w:World):aS (OU w) (w.heap.size) 58 #[.string ⟨fQ.toArray⟩,.int .i64 3,.int .u32 0]:=by
 exact (aS.new w _ _).grows (anJ w)
theorem arF (w:World):ah (rl2 w) (OU w):=(((((((ah.refl _).alloc _).alloc _).alloc _).alloc _).alloc _).alloc _).alloc _
theorem arN (w:World):aS (OU w) (w.heap.size+1) 9 #[.string ⟨wR.toArray⟩]:=by
 have h:=aS.new (rl1 w) 9 #[.string ⟨wR.toArray⟩];rw[show (rl1 w).heap.size=w.heap.size+1 by have:=Gl w;exact this.1] at h;exact h.grows (arF w)
theorem arE (w:World):ah (rl3 w) (OU w):=((((((ah.refl _).alloc _).alloc _).alloc _).alloc _).alloc _).alloc _
theorem arM (w:World):aS (OU w) (w.heap.size+1+1) 61 #[.string ⟨fQ.toArray⟩,.slice (some ⟨w.heap.size+1,0,none⟩) 1 1,.int .i64 0,.int .i64 1,.int .i64 1,.slice none 0 0]:=by
 have h:=aS.new (rl2 w) 61 #[.string ⟨fQ.toArray⟩,.slice (some ⟨w.heap.size+1,0,none⟩) 1 1,.int .i64 0,.int .i64 1,.int .i64 1,.slice none 0 0];rw[show (rl2 w).heap.size=w.heap.size+1+1 by have:=Gl w;exact this.2.1] at h;exact h.grows (arE w)
theorem arD (w:World):ah (rl4 w) (OU w):=(((((ah.refl _).alloc _).alloc _).alloc _).alloc _).alloc _
theorem arL (w:World):aS (OU w) (w.heap.size+1+1+1) 26 #[.slice none 0 0,.slice (some ⟨w.heap.size,0,none⟩) 1 1,.slice none 0 0,.slice none 0 0,.slice (some ⟨w.heap.size+1+1,0,none⟩) 1 1,.slice none 0 0]:=by
 have h:=aS.new (rl3 w) 26 #[.slice none 0 0,.slice (some ⟨w.heap.size,0,none⟩) 1 1,.slice none 0 0,.slice none 0 0,.slice (some ⟨w.heap.size+1+1,0,none⟩) 1 1,.slice none 0 0];rw[show (rl3 w).heap.size=w.heap.size+1+1+1 by have:=Gl w;exact this.2.2.1] at h;exact h.grows (arD w)
theorem arC (w:World):ah (rl5 w) (OU w):=((((ah.refl _).alloc _).alloc _).alloc _).alloc _
theorem arK (w:World):aS (OU w) (w.heap.size+1+1+1+1) 63 #[.string ⟨LC.toArray⟩,.string ⟨#[49]⟩,.string ⟨wR.toArray⟩,.string ⟨#[116]⟩]:=by
 have h:=aS.new (rl4 w) 63 #[.string ⟨LC.toArray⟩,.string ⟨#[49]⟩,.string ⟨wR.toArray⟩,.string ⟨#[116]⟩];rw[show (rl4 w).heap.size=w.heap.size+1+1+1+1 by have:=Gl w;exact this.2.2.2.1] at h;exact h.grows (arC w)
theorem arB (w:World):ah (rl6 w) (OU w):=(((ah.refl _).alloc _).alloc _).alloc _
theorem arJ (w:World):aS (OU w) (w.heap.size+1+1+1+1+1) 42 #[.string ⟨Iz.toArray⟩,.slice (some ⟨w.heap.size+1+1+1+1,0,none⟩) 2 2,.int .i64 0,.int .u32 0,.int .i64 0,.int .i64 0]:=by
 have h:=aS.new (rl5 w) 42 #[.string ⟨Iz.toArray⟩,.slice (some ⟨w.heap.size+1+1+1+1,0,none⟩) 2 2,.int .i64 0,.int .u32 0,.int .i64 0,.int .i64 0];rw[show (rl5 w).heap.size=w.heap.size+1+1+1+1+1 by have:=Gl w;exact this.2.2.2.2.1] at h;exact h.grows (arB w)
theorem arA (w:World):ah (rl7 w) (OU w):=((ah.refl _).alloc _).alloc _
theorem arI (w:World):aS (OU w) (w.heap.size+1+1+1+1+1+1) 63 #[.string ⟨LC.toArray⟩,.string ⟨#[50]⟩,.string ⟨wR.toArray⟩,.string ⟨#[116]⟩]:=by
 have h:=aS.new (rl6 w) 63 #[.string ⟨LC.toArray⟩,.string ⟨#[50]⟩,.string ⟨wR.toArray⟩,.string ⟨#[116]⟩];rw[show (rl6 w).heap.size=w.heap.size+1+1+1+1+1+1 by have:=Gl w;exact this.2.2.2.2.2.1] at h;exact h.grows (arA w)
theorem arz (w:World):ah (OU w) (OU w):=ah.refl _
theorem arH (w:World):aS (OU w) (w.heap.size+1+1+1+1+1+1+1+1) 42 #[.string ⟨Iz.toArray⟩,.slice (some ⟨w.heap.size+1+1+1+1,0,none⟩) 2 2,.int .i64 0,.int .u32 0,.int .i64 0,.int .i64 0,.string ⟨Iz.toArray⟩,.slice (some ⟨w.heap.size+1+1+1+1+1+1,0,none⟩) 2 2,.int .i64 0,.int .u32 0,.int .i64 0,.int .i64 0]:=by
 have h:=aS.new (rl8 w) 42 #[.string ⟨Iz.toArray⟩,.slice (some ⟨w.heap.size+1+1+1+1,0,none⟩) 2 2,.int .i64 0,.int .u32 0,.int .i64 0,.int .i64 0,.string ⟨Iz.toArray⟩,.slice (some ⟨w.heap.size+1+1+1+1+1+1,0,none⟩) 2 2,.int .i64 0,.int .u32 0,.int .i64 0,.int .i64 0];rw[show (rl8 w).heap.size=w.heap.size+1+1+1+1+1+1+1+1 by have:=Gl w;exact this.2.2.2.2.2.2.2.1] at h;exact h.grows (arz w)
theorem arG (w:World):ah w (OU w):=((ah.refl w).alloc _).trans (anJ w)
theorem dH.NP {α:Type} {w:World} {g k:Nat} {t:TypeId} {enc:α→List Value} {l:List α} {cs:Array Value} (hk:∀x,(enc x).length=k) (h:aS w g t cs) (hc:cs=(fB enc l).toArray):dH w k enc (some ⟨g,0,none⟩) l.length l:=by
 subst hc;refine⟨rfl,fun _=>⟨g,0,rfl,h.lt,fun i hi j u hu=> ?_⟩⟩;have hj:j < k:=by rw[←hk l[i]];exact (List.getElem?_eq_some_iff.1 hu).1
 rw[h.cell,Nat.zero_add];have:=qG hk l i hi j hj;rw[←hu,←this];simp
def yx (w:World):dU where
 s:=⟨[],none,0,0⟩
 r:=⟨[⟨fQ,⟨3,0⟩⟩],some ⟨w.heap.size,0,none⟩,1,1⟩
 e:=⟨[],none,0,0⟩
 a:=⟨[],none,0,0⟩
 o:=[⟨⟨fQ,[wR],0,1,1,[]⟩,some ⟨w.heap.size+1,0,none⟩,1,1,none,0,0⟩]
 oA:=some ⟨w.heap.size+1+1,0,none⟩
 om:=1
 ok:=1
 i:=[]
 iA:=none
 im:=0
 ik:=0
def QK (w:World):iI:=⟨Ns 49,some ⟨w.heap.size+1+1+1+1,0,none⟩,2,2⟩
def YH (w:World):iI:=⟨Ns 50,some ⟨w.heap.size+1+1+1+1+1+1,0,none⟩,2,2⟩
theorem acL (w:World):jl.At ⟨[],none,0,0⟩ w:=⟨dH.iH,by simp,by simp,by simp⟩
theorem hkR (x:F6):(encR x).length=6:=rfl
theorem hkA (x:iI):(FV x).length=6:=rfl
theorem avF (x:List UInt8):(encS x).length=1:=rfl
theorem ad8 (w:World):(yx w).At (OU w) where
 s:=acL _
 r:=⟨by have h:=dH.NP (enc:=XL) (l:=[(⟨fQ,⟨3,0⟩⟩:Hl)]) hkN (arO w) rfl;exact h,by simp[yx],by intro y hy;simp only[yx,List.mem_singleton] at hy;subst hy;exact (by decide:(0:Nat)<4294967296),by intro y hy;simp only[yx,List.mem_singleton] at hy;subst hy;decide⟩
 e:=acL _
 a:=acL _
 o:=by have h:=dH.NP (enc:=encR) (l:=[(⟨⟨fQ,[wR],0,1,1,[]⟩,some ⟨w.heap.size+1,0,none⟩,1,1,none,0,0⟩:F6)]) hkR (arM w) rfl;exact h
 ole:=by simp[yx]
 oAt:=by
  intro y hy;simp only[yx,List.mem_singleton] at hy;subst hy;exact⟨dH.NP (l:=[wR]) avF (arN w) rfl,by simp,by intro z hz;simp only[List.mem_singleton] at hz;subst hz;decide,dH.iH,by simp⟩
 i:=dH.iH
 ile:=by simp[yx]
 iAt:=by intro y hy;simp[yx] at hy
theorem anD (w:World):(QK w).At (OU w):=⟨by have h:=dH.NP (enc:=fU) (l:=[(⟨LC,[49]⟩:eu),⟨wR,[116]⟩]) JW (arK w) rfl;exact h,by simp[QK],(by decide:(0:Nat)<4294967296)⟩
theorem aqX (w:World):(YH w).At (OU w):=⟨by have h:=dH.NP (enc:=fU) (l:=[(⟨LC,[50]⟩:eu),⟨wR,[116]⟩]) JW (arI w) rfl;exact h,by simp[YH],(by decide:(0:Nat)<4294967296)⟩
theorem aqW (w:World):dH (OU w) 6 FV (some ⟨w.heap.size+1+1+1+1+1+1+1+1,0,none⟩) 2 [QK w,YH w]:=dH.NP (l:=[QK w,YH w]) hkA (arH w) rfl
theorem ah6 (w:World):Hq fT (yx w):=⟨fun r hr y hy=>by simp only[yx,List.mem_singleton] at hr;subst hr;simp at hy,fun i hi=>by simp[yx] at hi⟩
theorem anC (w:World):Ho fTT (yx w):=fun r hr y hy=>by simp only[yx,List.mem_singleton] at hr;subst hr;simp at hy
theorem amw {α β:Type} {f:α→β} {l:List α} {y:β} (h:l.map f = [y]):∃x,l = [x]∧f x = y:=by
 match l,h with
 | [],h=>cases h
 | [x],h=>exact⟨x,rfl,by simpa using h⟩
 | _ ::_ ::_,h=>simp at h
theorem acn (w:World) (he:EX w) :
 Calls Tryz.prog 4 #[] w fun e w'=>e =.returned (.bool true)∧ah w w':=by
 have cGr:=Tm (p:=yx w) (rec:=fQ) (lk:=2) (xs:=[QK w,YH w]) (now:=0) (fb:=fT) (ft:=fTT) (OU w) (he.grows (arG w)) (ad8 w) (ah6 w) (anC w) (aqW w) (by
  intro a ha;simp only[List.mem_cons,List.not_mem_nil,or_false] at ha;rcases ha with rfl | rfl
  ·exact anD w
  ·exact aqX w) ω
 have cGo:=fun W (hW:ah (OU w) W)=>aae (fb:=fT) (ft:=fTT) (p:=yx w) (rec:=fQ) (a:=QK w) (now:=0) W ((ad8 w).keep hW) (ah6 w) (anC w) ((anD w).keep hW)
 have uZ:=arG w;have b4:=arL w;have b6:=arJ w;replace cGr:=ζ cGr;replace cGo:=ζ cGo;replace uZ:=ζ uZ;replace b4:=ζ b4;replace b6:=ζ b6;go_enter Tryz.func4,Tryz.ntmps4
 go_wp2_with fail;refine (cGr.out).mono ?_;rintro e w2 ⟨v,gs,rfl,hO,hGs,oQ,hb⟩;obtain⟨ids,hx,ZW⟩:=ah5;have agK:gs.map bM.g = [⟨0,QJ,yK fQ 0 QJ,ids⟩]:=oQ.trans hx;obtain⟨x,rfl,hxg⟩:∃x,gs=[x]∧x.g = ⟨0,QJ,yK fQ 0 QJ,ids⟩:=amw agK;obtain⟨hxi,hxf⟩:=hGs x σ;obtain⟨xr,xk,xb,xbA,xbm,xbk,xi,xiA,xim,xik⟩:=x;simp only[bM.g,oh.mk.injEq] at hxg;obtain⟨rfl,rfl,rfl,rfl⟩:=hxg;obtain⟨_,_,hv1,_,_,_⟩:=hxi.arr Qd;simp only[bM.iv,Value.slice.injEq] at hv1;obtain⟨_,hv1,_⟩:=hv1;obtain⟨_,_,hv2,_,_,Oa⟩:=hxf.arr JW;simp only[bM.bv,Value.slice.injEq] at hv2;obtain⟨rfl,hv2,rfl⟩:=hv2;obtain⟨gb,cap,rfl⟩:=Ap hO σ;obtain⟨y,hy,hc,hf⟩:=hO.at_ N7 (i:=0) σ;simp only[List.getElem?_cons_zero,Option.some.injEq] at hy;subst hy;have g1:w2.cell? ⟨gb,1,none⟩=some (.slice xbA xbm xbk):=by simpa using hc 1 _ rfl
 have g2:w2.cell? ⟨gb,2,none⟩=some (.int .u64 ((yK fQ 0 QJ:Nat):Int)):=by simpa using hc 2 _ rfl
 have g3:w2.cell? ⟨gb,3,none⟩=some (.slice xiA xim xik):=by simpa using hc 3 _ rfl
 have gl:=World.block_lt_of_cell? w2 _ g1;simp only at gl;have hbl:QJ.length=1:=rfl;simp only at hv1 hv2 Oa;rw[ZW] at hv1;rw[hbl] at hv2 Oa;subst hv1 hv2;have cK:=fun W (hW:ah w2 W)=>Xk (R:=fQ) (a:=0) (c:=xbk) W (Oa.keep hW) δ ω (by intro f hf;simp only[QJ,List.mem_singleton] at hf;subst hf;decide)
 change ∀W,ah w2 W→Calls _ _ _ _ fun e w'=>e =.returned (.int .u64 ((yK fQ 0 QJ:Nat):Int))∧ah W w' at cK
 generalize yK fQ 0 QJ=KY at *
 replace b4:=b4.out.grows hb;replace b6:=b6.out.grows hb;have p0:=b4.cell 0;have p1:=b4.cell 1;have p2:=b4.cell 2;have p3:=b4.cell 3;have p4:=b4.cell 4;have p5:=b4.cell 5;have pz:=b4.lt;have a0:=b6.cell 0;have a1:=b6.cell 1;have a2:=b6.cell 2;have a3:=b6.cell 3;have a4:=b6.cell 4;have a5:=b6.cell 5;have az:=b6.lt;simp only[List.getElem?_toArray,List.getElem?_cons_zero,List.getElem?_cons_succ] at p0 p1 p2 p3 p4 p5 a0 a1 a2 a3 a4 a5;have hG:=ζ (uZ.o.trans hb);replace cGo:=ζ (fun W (hW:ah w2 W)=>cGo.out W (hb.trans hW));replace cK:=ζ cK;clear hO hGs oQ hx agK hxi hxf Oa hc hf b4 b6 hb uZ cGr ZW hbl;go_wp2;refine aJ κ ?_;refine rK (.range 34) 5 ?_;iterate 28 refine aB ?_
 refine bJ (.int .u64 (KY:Int)) rfl χ (fun wq gY=> ?_) ?_
 ·obtain⟨qB,rE⟩:=bW gY;go_simp;exact Calls.mono (cK.out wq gY) (fun e w'' h=>h)
 go_simp;iterate 5 refine aB ?_
 refine ay ?_;refine aY [34] κ σ (fun wN hN hS=>(aK.cons rfl (fun K' hK=> ?_) aK.nil));clear hN;have hW2:ah w2 wN:=hS;have q0:=hW2.cell p0;go_simp;refine (cGo.out _ hW2).mono ?_;rintro e w3 ⟨v3,rfl,dS,hb3⟩;obtain⟨A3,c3,rfl,_,_,_⟩:=dS.arr JV;rw[show uJ fT fTT (yx w).dQ fQ (QK w).a 0=[0] from aox];simp only[List.length_cons,List.length_nil,Nat.zero_add];have uj:=ζ (hG.o.trans (hW2.trans hb3));refine hK.o _ _ ?_ (fun hS=> ?_)
 ·exact hW2.trans hb3
 clear dS q0 hb3;clear hK hS;refine rK [35,36,37,38] 0 ?_;iterate 4 refine aB ?_
 refine ay ?_;refine aP κ (fun wN hN hS=> ?_);go_wp2;go_ret;exact⟨rfl,uj.o.trans hN⟩
def YG:List UInt8:=[99,104,97,116]
def xZz:List UInt8:=[122,122]
def RJ:List (List UInt8):=[fQ,YG,xZz]
theorem agh {w:World} {g:Nat} (h:aS w g 9 #[.string ⟨fQ.toArray⟩,.string ⟨YG.toArray⟩,.string ⟨xZz.toArray⟩]):dH w 1 encS (some ⟨g,0,none⟩) 3 RJ:=
 ⟨rfl,fun _=>⟨g,0,rfl,h.lt,fun i hi j u hu=>by
  have hj:j = 0:=by
   have:=(List.getElem?_eq_some_iff.1 hu).1;simp[encS] at this;omega
  subst hj;match i,hi with
  | 0,_=>simp[encS,RJ] at hu;subst hu;exact h.cell 0
  | 1,_=>simp[encS,RJ] at hu;subst hu;exact h.cell 1
  | 2,_=>simp[encS,RJ] at hu;subst hu;exact h.cell 2⟩⟩
theorem am_ {w:World} {b0:Nat} {gs:List bM} (h:alC w b0 gs):∀x∈gs,x.At w:=fun x hx=>by
 obtain⟨h1,h2⟩:=h x hx;obtain⟨-,-,hc1,YD⟩:=aer h1 Qd;obtain⟨-,-,hc2,GZ⟩:=aer h2 JW;have e1:=h1.arr Qd;have e2:=h2.arr JW;obtain⟨_,_,hv1,hl1,hm1,_⟩:=e1;obtain⟨_,_,hv2,hl2,hm2,_⟩:=e2;unfold bM.iv at hv1;unfold bM.bv at hv2;simp only[Value.slice.injEq] at hv1 hv2;exact⟨GZ,YD,by unfold maxLen at *;omega,ω⟩
theorem ZC {fb:jq→Bool} {ft:List eu→jq→Bool} {p:dU} (Dq:Hq fb (p.cut 14)) (O_:Ho ft (p.cut 14)) (MF:xE fb (p.cut 14)) (hrt:Bd ft (p.cut 14)) {A0:Option Addr} {m0 c0:Nat} {xs:List iI} {now:Int} (w:World) (he:EX w) (hp:p.At w) (hc:p.aqe) (hA:dH w 6 FV A0 m0 xs) (FK:m0≤9223372036854775807)
 (hk:∀x∈xs,x.m≤x.k∧x.k≤9223372036854775807) (hx:∀x∈xs,dH w 2 fU x.A x.m x.a.fs∧x.a.l.ok) (P_:∀y∈(xs.take 12).map iI.qU,OC y.a) :
 Calls Tryz.prog 3 #[p.val,.slice A0 m0 c0,.int .i64 now] w fun e w'=>e =.returned (.bool true)∧ah w w':=by
 have cL:=fun W (hW:ah w W)=>acn W (he.grows hW)
 have cC:=fun W=>ahj (p:=p) W hc
 have hq:=hp.cut 14;have QA:(p.cut 14).om≤100:=by show min p.om 14≤100;omega
 have cF:=fun W (hW:ah w W)=>ane (c:=c0) W (hA.keep hW) FK hk
 have hat:=apQ hx;have hlen:((xs.take 12).map iI.qU).length≤12:=by simp;omega
 generalize (xs.take 12).map iI.qU=own at *
 generalize hQ:p.cut 14=q at *
 have jm:p.val=.agg #[.slice p.s.A p.s.m p.s.k,.slice p.r.A p.r.m p.r.k,.slice p.e.A p.e.m p.e.k,.slice p.a.A p.a.m p.a.k,.slice p.oA p.om p.ok,.slice p.iA p.im p.ik]:=rfl;have vP:q.val=.agg #[.slice q.s.A q.s.m q.s.k,.slice q.r.A q.r.m q.r.k,.slice q.e.A q.e.m q.e.k,.slice q.a.A q.a.m q.a.k,.slice q.oA q.om q.ok,.slice q.iA q.im q.ik]:=rfl;rw[jm,vP] at cC;rw[jm];replace cL:=ζ cL;replace cC:=ζ cC;replace cF:=ζ cF;replace hq:=ζ hq;replace hat:=ζ hat;replace vP:=ζ vP;replace he:=ζ he;replace Dq:=ζ Dq;replace O_:=ζ O_;replace MF:=ζ MF;replace hrt:=ζ hrt;replace P_:=ζ P_;replace QA:=ζ QA;clear hp hc hQ jm hA FK hk hx;go_enter Tryz.func3,Tryz.ntmps3
 go_wp2_with fail;refine (cL.out _ γ).mono ?_;rintro e w1 ⟨rfl,hb1⟩;have hP:aS w1 w.heap.size 26 #[.slice p.s.A p.s.m p.s.k,.slice p.r.A p.r.m p.r.k,.slice p.e.A p.e.m p.e.k,.slice p.a.A p.a.m p.a.k,.slice p.oA p.om p.ok,.slice p.iA p.im p.ik]:=(aS.new w _ _).grows hb1;have hG:ah w w1:=((ah.refl w).alloc _).trans hb1;have hGp:Hid (atX w w.heap.size):=ζ (Nat.le_refl _);clear hb1;generalize w.heap.size=gP at *
 have p0:=hP.cell 0;have p1:=hP.cell 1;have p2:=hP.cell 2;have p3:=hP.cell 3;have p4:=hP.cell 4;have p5:=hP.cell 5;have pl:=hP.lt;go_wp2_with fail;refine (cC.out w1).mono ?_;rintro e w2 ⟨rfl,hb2⟩;clear p0 p1 p2 p3 p4 p5 pl cC;replace hP:=hP.grows hb2;replace hG:=hG.trans hb2;clear hb2;replace hP:=ζ hP;rename_i hK;refine hK _ _ ?_;clear hK;with_reducible show wpList _ _ _ _ _ _
 refine wpList_store_row rfl 26 (.tmp 3) (.tmp 18) rfl gP #[.slice q.s.A q.s.m q.s.k,.slice q.r.A q.r.m q.r.k,.slice q.e.A q.e.m q.e.k,.slice q.a.A q.a.m q.a.k,.slice q.oA q.om q.ok,.slice q.iA q.im q.ik] rfl rfl 26 _ hP.o κ rfl (by simp[Value.oneCell']) ?_;have g3:=aF w2 gP #[.slice q.s.A q.s.m q.s.k,.slice q.r.A q.r.m q.r.k,.slice q.e.A q.e.m q.e.k,.slice q.a.A q.a.m q.a.k,.slice q.oA q.om q.ok,.slice q.iA q.im q.ik];have hQ:aS (w2.setRow gP #[.slice q.s.A q.s.m q.s.k,.slice q.r.A q.r.m q.r.k,.slice q.e.A q.e.m q.e.k,.slice q.a.A q.a.m q.a.k,.slice q.oA q.om q.ok,.slice q.iA q.im q.ik]) gP 26 #[.slice q.s.A q.s.m q.s.k,.slice q.r.A q.r.m q.r.k,.slice q.e.A q.e.m q.e.k,.slice q.a.A q.a.m q.a.k,.slice q.oA q.om q.ok,.slice q.iA q.im q.ik]:=setRow_heap _ _ _ _ _ _ hP.o;replace hG:=hG.kL g3 hGp.o;clear hP g3;generalize w2.setRow gP #[.slice q.s.A q.s.m q.s.k,.slice q.r.A q.r.m q.r.k,.slice q.e.A q.e.m q.e.k,.slice q.a.A q.a.m q.a.k,.slice q.oA q.om q.ok,.slice q.iA q.im q.ik]=w3 at *
 replace hQ:=ζ hQ;replace hG:=ζ hG;go_wp2_with fail;refine (cF.out _ (hG.o)).mono ?_;rintro e w4 ⟨v,u,rfl,hO,hD,hb4⟩;obtain⟨A7,c7,rfl,-,-,hO⟩:=hO.arr asI;obtain⟨A8,c8,rfl,-,-,hD⟩:=hD.arr asI;replace hQ:=ζ (hQ.o.grows hb4);replace hG:=ζ (hG.o.trans hb4);clear hb4 cF cL;obtain⟨L,hL⟩:∃L,L=own.length:=⟨_,rfl⟩;rw[←hL] at hO hD ⊢;rw[←hL] at hlen;clear hL;replace hO:=ζ hO;replace hD:=ζ hD;go_wp2_with fail;have hNa:=ζ (agh (aS.new w4 9 #[.string ⟨fQ.toArray⟩,.string ⟨YG.toArray⟩,.string ⟨xZz.toArray⟩]));have sQ:=(ah.refl w4).alloc (.cells #[.string ⟨fQ.toArray⟩,.string ⟨YG.toArray⟩,.string ⟨xZz.toArray⟩] 9);replace hQ:=ζ (hQ.o.grows sQ);replace hO:=ζ (hO.o.keep sQ);replace hD:=ζ (hD.o.keep sQ);replace hG:=ζ (hG.o.trans sQ);clear sQ;generalize w4.heap.size=nb at *
 have hw5:w4.alloc (.cells #[.string ⟨fQ.toArray⟩,.string ⟨YG.toArray⟩,.string ⟨xZz.toArray⟩] 9)=w4.alloc (.cells #[.string ⟨#[112,97,103,101,114]⟩,.string ⟨#[99,104,97,116]⟩,.string ⟨#[122,122]⟩] 9):=rfl;rw[hw5] at hQ hO hD hG hNa;clear hw5;generalize w4.alloc (.cells #[.string ⟨#[112,97,103,101,114]⟩,.string ⟨#[99,104,97,116]⟩,.string ⟨#[122,122]⟩] 9)=w5 at *
 go_loopw [10,11,12,13,14] (fun i _ _ _ _ wr=>∃n:Nat,n≤3∧i =.int .i64 (n:Int)∧Hid (aS wr gP 26 #[.slice q.s.A q.s.m q.s.k,.slice q.r.A q.r.m q.r.k,.slice q.e.A q.e.m q.e.k,.slice q.a.A q.a.m q.a.k,.slice q.oA q.om q.ok,.slice q.iA q.im q.ik])∧Hid (dH wr 6 FV A7 L own)∧Hid (dH wr 6 FV A8 L own)∧Hid (dH wr 1 encS (some ⟨nb,0,none⟩) 3 RJ)∧Hid (ah w wr)) (fun i _ _ _ _ _=>3-(intOf i).toNat)
 case atStart=>exact⟨0,ω,rfl,hQ,hO,hD,hNa,hG⟩
 case round=>
  clear hQ hO hD hNa hG;obtain⟨n,hn,rfl,hQ,hO,hD,hNa,hG⟩:=hrel;by_cases hlt:n < 3
  ·obtain⟨bN,oN,nm,hrA,Z4,Hw,hcN⟩:=hNa.o.at_ hlt;simp only[Option.some.injEq,Addr.mk.injEq,and_true] at hrA;obtain⟨rfl,rfl⟩:=hrA;have n0:wr.cell? ⟨nb,n,none⟩=some (.string ⟨nm.toArray⟩):=by simpa using hcN 0 _ rfl
   have hni:(n:Int)<3:=ω;clear hcN Hw;go_wp2_with fail;refine amD (q:=q) (ζ (hq.o.keep hG.o)) Dq O_ MF hrt hO hD (ζ (fun y hy=>(hat.o y hy).keep hG.o)) P_ hQ n0 hlt hlen π ?_;intros
   rename_i wz qI;replace hQ:=ζ (hQ.o.grows qI.o);replace hO:=ζ (hO.o.keep qI.o);replace hD:=ζ (hD.o.keep qI.o);replace hNa:=ζ (hNa.o.keep qI.o);replace hG:=ζ (hG.o.trans qI.o);replace n0:=qI.o.cell n0;have av3:=World.block_lt_of_cell? wz _ n0;clear qI Z4;have p0:=hQ.o.cell 0;have p1:=hQ.o.cell 1;have p2:=hQ.o.cell 2;have p3:=hQ.o.cell 3;have p4:=hQ.o.cell 4;have p5:=hQ.o.cell 5;have hbP:=hQ.o.lt;have cG1:=fun W (hW:ah wz W)=>Tm (p:=q) (rec:=nm) (now:=now) (lk:=c7) W (he.o.grows (hG.o.trans hW)) (hq.o.keep (hG.o.trans hW)) Dq.o O_.o (hO.o.keep hW) (fun y hy=>(hat.o y hy).keep (hG.o.trans hW)) ω
   have cG2:=fun W (hW:ah wz W)=>Y8 (q:=q) (rec:=nm) (now:=now) (lk:=c8) W (hq.o.keep (hG.o.trans hW)) MF.o hrt.o (hD.o.keep hW) (fun y hy=>(hat.o y hy).keep (hG.o.trans hW)) P_.o ω QA.o
   rw[vP.o] at cG1 cG2;replace cG1:=ζ cG1;replace cG2:=ζ cG2;go_wp2_with fail;refine bV (μ [0,1,2,3,4,5,6,8,9,10,11,12,13,14,7,15,16,17] [7,15]) κ κ rfl κ π ?_;iterate 14 refine dX ?_
   refine iw rfl (fun K' hK=> ?_);go_simp;refine (cG1.out _ γ).mono ?_;rintro e w6 ⟨v6,gs1,rfl,Nq,hI6,he6,hb6⟩;obtain⟨A5,c5,rfl,hl5,hc5,hX5⟩:=Nq.arr N7;clear Nq;replace hI6:=am_ hI6;refine hK.o _ _ ?_ (fun hS=> ?_)
   ·exact γ
   clear hK hS;refine iw rfl (fun K' hK=> ?_);go_simp;refine (cG2.out _ γ).mono ?_;rintro e w7 ⟨v7,rfl,gs2,hR7,he7,hb7⟩;obtain⟨A6,c6,rfl,-,hc6,hX6⟩:=hR7.own.arr N7;replace hX5:=hX5.keep hb7;replace hI6:∀x∈gs1,x.At w7:=fun x hx=>(hI6 x hx).keep hb7
   refine hK.o _ _ ?_ (fun hS=> ?_)
   ·exact γ
   clear hK hS;iterate 2 refine dX ?_
   refine gK ?_;have h86:ah wz w7:=by
    exact γ
   have hM:=he6.trans he7.symm;have hI7:=hR7.at_;replace hQ:=ζ (hQ.o.grows h86);replace hO:=ζ (hO.o.keep h86);replace hD:=ζ (hD.o.keep h86);replace hNa:=ζ (hNa.o.keep h86);replace hG:=ζ (hG.o.trans h86);have hll:gs2.length=gs1.length:=by
    have:=congrArg List.length hM;simpa using this.symm
   rw[hll] at hX6 ⊢;have avz:gs1.length≤9223372036854775807:=by unfold maxLen at hc5;omega
   replace hX5:=ζ hX5;replace hX6:=ζ hX6;replace hI6:=ζ hI6;replace hI7:=ζ hI7;replace hM:=ζ hM;clear hll hl5 hc5 hc6 he6 he7 hR7 h86 hb6 hb7 cG1 cG2 p0 p1 p2 p3 p4 p5 n0 hbP av3;generalize hm:gs1.length=m at *
   replace hm:=ζ hm;have hbb:((m:Int) != (m:Int))=false:=by simp
   go_wp2_with fail;refine amC hX5 hX6 hI6 hI7 hM avz π ?_;intros
   rename_i wy hgy;replace hQ:=ζ (hQ.o.grows hgy.o);replace hO:=ζ (hO.o.keep hgy.o);replace hD:=ζ (hD.o.keep hgy.o);replace hNa:=ζ (hNa.o.keep hgy.o);replace hG:=ζ (hG.o.trans hgy.o);clear hX5 hX6 hI6 hI7 hM hgy hbb;go_wp2;go_roundw
   case rel=>exact⟨n + 1,ω,ν,hQ,hO,hD,hNa,hG⟩
   case measure=>exact ψ
  ·have hni:¬(n:Int)<3:=ω;go_wp2;go_ret;exact⟨rfl,hG.o⟩
theorem ahd (p:dU):Hq uM p:=⟨fun _ _ y _=>MV y,fun _ _=>⟨fun y _=>MV y,fun y _=>MV y⟩⟩
theorem ag7 (p:dU):Ho MS p:=fun _ _ y _=>agp y
end Go.Proofs.YteojanlajhebhaaGreatDoor
namespace Go.Proofs.YteojanlajhebhaaGreatDoor
open Go.ChangeShapes Go.WideShapes Go.ChangeAt Go.RowKit Go.Deep Go.Joins
theorem own:ownKnob Tryz.prog.godebug=none:=by kernel_rfl
def VT:List (String×DataW Unit):=Rows.routeGroupsRow.laid
theorem atH:Tryz.prog.globalNamed "internal/strconv.uint64pow10"=some 0:=by kernel_rfl
theorem atG:(Tryz.prog.globals[0]?).map (·.type)=some 216:=by kernel_rfl
theorem ani {W:World} (hL:laidMetH Tryz.prog VT W):EX W:=by
 rw[MakeChecks.laidMetH_plain _ _ _ κ] at hL;have h3:=hL.tail.tail;have hp:=Lib.tabIs_of_head (k:=.u64) (zs:=Lib.pow10Tab) atH atG Tryz.underlying216 Tryz.underlying50 κ κ h3;exact⟨hp,World.block_lt_of_cell? W _ (Lib.TabIs.cell hp atH 0 δ)⟩
theorem amE (os:Os) (args:Array Value):laidMetH Tryz.prog VT ((World.laidAll Tryz.prog os VT).forCall (fun _ _=>0) ⟨#[],args,[]⟩).memory:=by
 rw[MakeChecks.laidMetH_plain _ _ _ κ];exact laidMet_laidAll _ κ κ
theorem acX (os:Os) (args:Array Value):((World.laidAll Tryz.prog os VT).forCall (fun _ _=>0) ⟨#[],args,[]⟩).variablesRefB Tryz.prog=true:=by kernel_rfl
section
variable {H:Type} {enc:TypeId×Value→H} {P:Program}
theorem LM (hl:laidOutB P=true) {W W':World} {sp:Nat→Bool}:∀{ts:List TypeId} {vs:List Value} {ds:List (DataW H)} {ps:List MemPlace},(∀t∈ts,P.readableRec t = true∧t < P.types.size)→
 DataW.TrodAll enc P W 0 (fun _=>true) true ts vs ds ps→(∀p∈ps,W.sameAt W' p)→(∀p∈ps,sp p.block=true)→DataW.TrodAll enc P W' 0 sp true ts vs ds ps
 | [],_,_,_,_,h,_,_=>by
  obtain⟨rfl,rfl,rfl⟩:=trodAll_nil h;exact trodAll_mk0
 | t ::ts,_,_,_,hr,h,h1,h2=>by
  obtain⟨v,vs1,d,ds1,a,b,rfl,rfl,rfl,h3,h4⟩:=trodAll_cons h;have ht:=hr t σ;exact trodAll_cons_mk (WideElems.Trod_stays hl ht.1 ht.2 h3 (fun p hp=>h1 p (by simp[hp])) (fun p hp=>h2 p (by simp[hp])))
   (LM hl (fun t' ht'=>hr t' (by simp[ht'])) h4 (fun p hp=>h1 p (by simp[hp])) (fun p hp=>h2 p (by simp[hp])))
theorem af4 {f:Func} {s:ChangeSpec} {apart fresh handsOn again:Bool} {W W':World} {args:Array Value} {ds:List (DataW H)} {before:List MemPlace} {tb:TypeId} (hl:laidOutB P=true)
 (hP:∀t∈f.params.toList,P.readableRec t = true∧t < P.types.size) (hv:s.vars=[]) (hW:DataW.Whole enc P f.params.toList s.vars apart W args.toList ds [] before)
 (hfn:s.fn H ds={results:=[.lit (.bool true)],args:=ds}) (hr:f.resultTypes= #[tb]) (hb:P.underlying tb=some .bool) (hg:ah W W') :
 s.post enc P f apart fresh handsOn again W args (.bool true) W':=by
 have hlt:=hW.lt;have hW0:=hW;obtain⟨p,q,hA,hV,e,hz,hn⟩:=hW;rw[hv] at hV;obtain⟨_,rfl⟩:=trodVars_none hV;obtain rfl:before=p:=by rw[e];simp
 have qQ:∀x∈before,W.sameAt W' x:=fun x hx=>hg.below.same (hlt x hx)
 have akw:∀sp:Nat→Bool,(∀x∈before,sp x.block=true)→DataW.TrodAll enc P W' 0 sp true f.params.toList args.toList ds before:=fun sp h=>LM hl hP hA qQ h
 have hres:∀(b:Nat) (sp:Nat→Bool) (hd:Bool),DataW.TrodAll enc P W' b sp hd f.resultTypes.toList ((Value.bool true).resultList f.resultTypes.size) [.lit (.bool true)] []:=fun b sp hd=>by
  rw[hr];exact trodAll_mk1 (shut_bool hb _)
 have hold:∀x∈before,(fun b=>decide (b < W.heap.size)) x.block=true:=fun x hx=>by simpa using hlt x hx
 have ape:s.fn H (ds++[])={results:=[.lit (.bool true)],args:=ds}:=by rw[List.append_nil];exact hfn
 refine⟨ds,[],before,[],before,[],hW0,?_,?_,?_,?_,fun _=>⟨ok_one hr rfl (okWide_bool_mk hb _),_,_,([]++before)++[],⟨[]++before,[],trodAll_append (akw _ (fun _ _=>rfl)) (hres _ _ _),by rw[hv];exact (show DataW.TrodVars enc P W' (fun _=>true) [] ([]:List (DataW H)) [] from rfl),rfl,?_,?_⟩,?_⟩⟩
 ·rw[ape];exact hres _ _ _
 ·rw[ape];exact akw _ hold
 ·rw[ape,hv];exact hV
 ·exact hg.below.frame _
 ·intro b off hp;have hm:MemPlace.cell b off∈before:=by simpa using hp
  rw[hg.below.frozen (p:=⟨b,off,none⟩) (hlt _ hm)];exact hz b off hm
 ·intro ha;simpa using hn ha
 ·intro x hx _;simpa using hx
end
section
variable {H:Type} {enc:TypeId×Value→H} {W:World}
def kH (enc:TypeId×Value→H) (W:World) (t:TypeId) {α:Type} (e:α→List Value) (Q:α→Prop):Prop:=
 ∀(fuel:Nat) (cs:List Value) (x:DataW H×List MemPlace),DataW.trod enc Tryz.prog W 0 (fun _=>true) true fuel t cs=some x→∃y,cs=e y∧Q y
theorem tN {t:TypeId} (ht:Tryz.prog.underlying t = some .string):kH enc W t (fun (l:List UInt8)=>[.string ⟨l.toArray⟩]) (fun l=>l.length≤maxLen):=by
 intro fuel cs x h;obtain⟨n0,e0,_,m0⟩:=DataW.trod_string ht h;exact⟨n0.data.toList,by rw[e0],by show n0.data.toList.length≤maxLen;rw[Array.length_toList];exact m0⟩
theorem vM {t:TypeId} (ht:Tryz.prog.underlying t = some (.int .i64)):kH enc W t (fun (n:Int)=>[.int .i64 n]) (fun n=> -9223372036854775808≤n∧n≤9223372036854775807):=by
 intro fuel cs x h;obtain⟨n0,e0,_,w1⟩:=DataW.trod_int ht h;refine⟨n0,e0,?_⟩;have e1:IntKind.min .i64=-9223372036854775808:=δ;have e2:IntKind.max .i64=9223372036854775807:=δ;simp[Lit.wf,e1,e2] at w1;exact w1
theorem aga {t:TypeId} (ht:Tryz.prog.underlying t = some (.int .u32)):kH enc W t (fun (n:Nat)=>[.int .u32 (n:Int)]) (fun n=>n < 4294967296):=by
 intro fuel cs x h;obtain⟨n0,e0,_,w1⟩:=DataW.trod_int ht h;have e1:IntKind.min .u32=0:=δ;have e2:IntKind.max .u32=4294967295:=δ;simp[Lit.wf,e1,e2] at w1;refine⟨n0.toNat,?_,ω⟩;show cs=[.int .u32 ((n0.toNat:Nat):Int)]
 rw[e0,show ((n0.toNat:Nat):Int)=n0 by omega]
structure SlX (α:Type) where
 l:List α
 A:Option Addr
 m:Nat
 k:Nat
theorem qx {α:Type} [Inhabited α] {t e:TypeId} {k:Nat} {ec:α→List Value} {Q:α→Prop} (ht:Tryz.prog.underlying t = some (.slice e)) (hC:Tryz.prog.cellsOf e = k) (hk:∀x,(ec x).length=k) (T_:0<k) (he:kH enc W e ec Q) :
 kH enc W t (fun (y:SlX α)=>[.slice y.A y.m y.k]) (fun y=>y.m≤y.k∧y.k≤maxLen∧dH W k ec y.A y.m y.l∧∀x∈y.l,Q x):=by
 intro fuel cs x h;rcases Deep.open_slice ht h with⟨rfl,_⟩ | ⟨a,len,cap,mm,n,D,Pl,rfl,_,hl,hm,U6,_,hel⟩
 ·exact⟨⟨[],none,0,0⟩,rfl,Nat.le_refl _,Nat.zero_le _,dH.iH,by simp⟩
 ·simp only[if_true] at U6;have hw:∀i,i < len→∃x:α,Q x∧∀j u,(ec x)[j]? = some u→W.cell? (a.add (i * k+j))=some u:=fun i hi=>by
   obtain⟨cs,hc,hd⟩:=hel i ω;rw[hC] at hc;obtain⟨y,rfl,hQ⟩:=he _ _ _ hd;obtain⟨_,hl3,hat⟩:=World.cells?_some hc;refine⟨y,hQ,fun j u hu=> ?_⟩;have hj:j < k:=by rw[←hk y];exact (List.getElem?_eq_some_iff.1 hu).1
   have:=hat j hj;rw[←Go.Deep.add_add,this];exact hu
  obtain⟨X,hX⟩:=choose_lt (α:=α) (p:=fun i x=>Q x∧∀j u,(ec x)[j]? = some u→W.cell? (a.add (i * k+j))=some u) hw;refine⟨⟨(List.range len).map X,some a,len,cap⟩,rfl,hl,hm,⟨by simp,fun Qb=> ?_⟩,fun x hx=> ?_⟩
  ·obtain⟨u0,hu0⟩:∃u,(ec (X 0))[0]? = some u:=⟨_,List.getElem?_eq_getElem (by rw[hk];exact T_)⟩;have hc0:=(hX 0 Qb).2 0 _ hu0;obtain⟨b,off,spot⟩:=a;have hs:=World.cell?_spot hc0;have hsp:spot=none:=by simpa[Addr.add] using hs
   subst hsp;refine⟨b,off,rfl,?_,fun i hi j u hu=> ?_⟩
   ·have:=World.block_lt_of_cell? W _ hc0;simpa[Addr.add] using this
   ·have hi':i < len:=by simpa using hi
    have:=(hX i hi').2 j u (by simpa using hu);have e:∀k,(⟨b,off,none⟩:Addr).add k=⟨b,off+k,none⟩:=fun k=>by unfold Addr.add;by_cases h:k=0 <;> simp[h]
    rw[e,←Nat.add_assoc] at this;exact this
  ·obtain⟨i,hi,rfl⟩:=List.mem_map.1 hx;exact (hX i (List.mem_range.1 hi)).1
theorem bQ {t:TypeId} {fs:Array Field} {α:Type} {ec:α→List Value} {Q:α→Prop} {cs:List Value} {x:DataW H×List MemPlace} {fuel:Nat} (ht:Tryz.prog.underlying t = some (.struct fs)) (h:DataW.trod enc Tryz.prog W 0 (fun _=>true) true fuel t cs=some x)
 (i:Nat) {f:Field} (hf:fs[i]? = some f) (o k:Nat) (ho:f.offset=o) (hk:Tryz.prog.cellsOf f.type=k) (he:kH enc W f.type ec Q):∃y,(cs.drop o).take k=ec y∧Q y:=by
 subst ho hk;obtain⟨xs,n,_,_,_,hlen,hg⟩:=DataW.trod_struct ht h;have hi:i < fs.size:=(Array.getElem?_eq_some_iff.1 hf).1;have:=hg i f hf;rw[List.getElem?_eq_getElem ω] at this;exact he _ _ _ this
theorem qo {t:TypeId} {fs:Array Field} {cs:List Value} {x:DataW H×List MemPlace} {fuel:Nat} (ht:Tryz.prog.underlying t = some (.struct fs)) (h:DataW.trod enc Tryz.prog W 0 (fun _=>true) true fuel t cs=some x):cs.length=Tryz.prog.cellsOf t:=by
 obtain⟨xs,n,_,_,hl,_,_⟩:=DataW.trod_struct ht h;exact hl
def XM (x:Cc):List Value:=[.int .i64 x.lv,.int .u32 (x.c:Int)]
theorem NM:kH enc W 40 XM Cc.ok:=by
 intro fuel cs x h;have hl:=qo Tryz.underlying40 h;rw[show Tryz.prog.cellsOf 40=2 by kernel_rfl] at hl;obtain⟨y0,h0,_⟩:=bQ Tryz.underlying40 h 0 rfl 0 1 rfl κ (vM κ);obtain⟨y1,h1,q1⟩:=bQ Tryz.underlying40 h 1 rfl 1 1 rfl κ (aga κ);match cs,hl with
 | [c0,c1],_=>
  simp at h0 h1;subst h0 h1;exact⟨⟨y0,y1⟩,rfl,q1⟩
theorem agb:kH enc W 58 XL (fun y=>y.n.length≤maxLen∧y.l.ok):=by
 intro fuel cs x h;have hl:=qo Tryz.underlying58 h;rw[show Tryz.prog.cellsOf 58=3 by kernel_rfl] at hl;obtain⟨y0,h0,q0⟩:=bQ Tryz.underlying58 h 0 rfl 0 1 rfl κ (tN κ);obtain⟨y1,h1,q1⟩:=bQ Tryz.underlying58 h 1 rfl 1 2 rfl κ NM;match cs,hl with
 | [c0,c1,c2],_=>
  simp[XM] at h0 h1;obtain⟨rfl,rfl⟩:=h1;subst h0;exact⟨⟨y0,y1⟩,rfl,q0,q1⟩
theorem agc:kH enc W 118 Tz (fun y=>y.n.length≤maxLen∧y.v.length≤maxLen):=by
 intro fuel cs x h;have hl:=qo Tryz.underlying118 h;rw[show Tryz.prog.cellsOf 118=3 by kernel_rfl] at hl;obtain⟨y0,h0,q0⟩:=bQ Tryz.underlying118 h 0 rfl 0 1 rfl κ (tN κ);obtain⟨y1,h1,_⟩:=bQ Tryz.underlying118 h 1 rfl 1 1 rfl κ (vM κ);obtain⟨y2,h2,q2⟩:=bQ Tryz.underlying118 h 2 rfl 2 1 rfl κ (tN κ);match cs,hl with
 | [c0,c1,c2],_=>
  simp at h0 h1 h2;subst h0 h1 h2;exact⟨⟨y0,y1,y2⟩,rfl,q0,q2⟩
theorem agd:kH enc W 63 fU (fun y=>y.n.length≤maxLen∧y.v.length≤maxLen):=by
 intro fuel cs x h;have hl:=qo Tryz.underlying63 h;rw[show Tryz.prog.cellsOf 63=2 by kernel_rfl] at hl;obtain⟨y0,h0,q0⟩:=bQ Tryz.underlying63 h 0 rfl 0 1 rfl κ (tN κ);obtain⟨y1,h1,q1⟩:=bQ Tryz.underlying63 h 1 rfl 1 1 rfl κ (tN κ);match cs,hl with
 | [c0,c1],_=>
  simp at h0 h1;subst h0 h1;exact⟨⟨y0,y1⟩,rfl,q0,q1⟩
def QSl {α:Type} (W:World) (k:Nat) (ec:α→List Value) (Q:α→Prop) (y:SlX α):Prop:=y.m≤y.k∧y.k≤maxLen∧dH W k ec y.A y.m y.l∧∀x∈y.l,Q x
instance:Inhabited Hl:=⟨⟨[],⟨0,0⟩⟩⟩
instance:Inhabited jq:=⟨⟨[],0,[]⟩⟩
instance:Inhabited eu:=⟨⟨[],[]⟩⟩
theorem RG:kH enc W 33 (fun (y:SlX (List UInt8))=>[.slice y.A y.m y.k]) (QSl W 1 encS (fun l=>l.length≤maxLen)):=
 qx Tryz.underlying33 κ (fun _=>rfl) ω (tN Tryz.underlying9)
theorem Gp:kH enc W 22 (fun (y:SlX Hl)=>[.slice y.A y.m y.k]) (QSl W 3 XL (fun y=>y.n.length≤maxLen∧y.l.ok)):=
 qx Tryz.underlying22 κ (fun _=>rfl) ω agb
theorem KE:kH enc W 59 (fun (y:SlX jq)=>[.slice y.A y.m y.k]) (QSl W 3 Tz (fun y=>y.n.length≤maxLen∧y.v.length≤maxLen)):=
 qx Tryz.underlying59 κ (fun _=>rfl) ω agc
theorem acH:kH enc W 37 (fun (y:SlX eu)=>[.slice y.A y.m y.k]) (QSl W 2 fU (fun y=>y.n.length≤maxLen∧y.v.length≤maxLen)):=
 qx Tryz.underlying37 κ (fun _=>rfl) ω agd
end
section
variable {H:Type} {enc:TypeId×Value→H} {W:World}
instance:Inhabited F6:=⟨⟨⟨[],[],0,0,0,[]⟩,none,0,0,none,0,0⟩⟩
instance:Inhabited JO:=⟨⟨⟨[],⟨0,0⟩,[],[]⟩,none,0,0,none,0,0,none,0,0⟩⟩
instance:Inhabited iI:=⟨⟨⟨[],[],⟨0,0⟩,0,0⟩,none,0,0⟩⟩
theorem Qw {y:SlX Hl} (q:QSl W 3 XL (fun y=>y.n.length≤maxLen∧y.l.ok) y):jl.At ⟨y.l,y.A,y.m,y.k⟩ W:=by
 obtain⟨a1,a2,a3,a4⟩:=q;unfold maxLen at *
 exact⟨a3,by simp only;omega,fun y hy=>(a4 y hy).2,fun y hy=>(a4 y hy).1⟩
def QAl (W:World) (y:iI):Prop:=y.m≤y.k∧y.k≤maxLen∧dH W 2 fU y.A y.m y.a.fs∧y.a.l.ok
theorem ajp {α:Type} {t:TypeId} {e:α→Value} {Q:α→Prop} {v:Value} {d:DataW H} {p:List MemPlace} (he:kH enc W t (fun y=>[e y]) Q) (hv:v.cells= #[v]) (h:DataW.Trod enc Tryz.prog W 0 (fun _=>true) true t v d p):∃y,v = e y∧Q y:=by
 obtain⟨fuel,hf⟩:=h;obtain⟨y,hy,q⟩:=he _ _ _ hf;rw[hv] at hy;simp at hy;exact⟨y,hy,q⟩
theorem ajq {α:Type} {t:TypeId} {fs:Array Field} {e:α→List Value} {Q:α→Prop} {v:Value} {d:DataW H} {p:List MemPlace} {base:Nat} (ht:Tryz.prog.underlying t = some (.struct fs)) (he:kH enc W t e Q) (hv:Value.okWide Tryz.prog W .any base t v) (h:DataW.Trod enc Tryz.prog W 0 (fun _=>true) true t v d p):∃y,v =.agg (e y).toArray∧Q y:=by
 obtain⟨cs,rfl,_⟩:=okWide_struct ht hv;obtain⟨fuel,hf⟩:=h;obtain⟨y,hy,q⟩:=he _ _ _ hf;refine⟨y,?_,q⟩;rw[←hy];simp[Value.cells]
end
def QH (l:List jq):Prop:=∀y∈l,y.n.length≤maxLen∧y.v.length≤maxLen
def ad3 (r:Rte):Prop:=r.r.length≤maxLen∧QH r.wh
def ad4 (i:Inh):Prop:=QH i.from_∧QH i.wh
def Ji (x:dU):Prop:=(∀r∈x.o,ad3 r.r)∧∀i∈x.i,ad4 i.i
section
variable {H:Type} {enc:TypeId×Value→H} {W:World}
theorem acE:kH enc W 61 encR (fun y=>y.At W∧ad3 y.r):=by
 intro fuel cs x h;have hl:=qo Tryz.underlying61 h;rw[show Tryz.prog.cellsOf 61=6 by kernel_rfl] at hl;obtain⟨y0,h0,q0⟩:=bQ Tryz.underlying61 h 0 rfl 0 1 rfl κ (tN κ);obtain⟨y1,h1,q1⟩:=bQ Tryz.underlying61 h 1 rfl 1 1 rfl κ RG;obtain⟨y2,h2,_⟩:=bQ Tryz.underlying61 h 2 rfl 2 1 rfl κ (vM κ);obtain⟨y3,h3,_⟩:=bQ Tryz.underlying61 h 3 rfl 3 1 rfl κ (vM κ);obtain⟨y4,h4,_⟩:=bQ Tryz.underlying61 h 4 rfl 4 1 rfl κ (vM κ);obtain⟨y5,h5,q5⟩:=bQ Tryz.underlying61 h 5 rfl 5 1 rfl κ KE;match cs,hl with
 | [c0,c1,c2,c3,c4,c5],_=>
  simp at h0 h1 h2 h3 h4 h5;subst h0 h1 h2 h3 h4 h5;obtain⟨a1,a2,a3,a4⟩:=q1;obtain⟨b1,b2,b3,b4⟩:=q5;unfold maxLen at *
  exact⟨⟨⟨y0,y1.l,y2,y3,y4,y5.l⟩,y1.A,y1.m,y1.k,y5.A,y5.m,y5.k⟩,rfl,⟨a3,by simp only;omega,fun y hy=>by have:=a4 y hy;omega,b3,by simp only;omega⟩,q0,b4⟩
theorem acG:kH enc W 106 ak6 (fun y=>y.At W∧ad4 y.i):=by
 intro fuel cs x h;have hl:=qo Tryz.underlying106 h;rw[show Tryz.prog.cellsOf 106=5 by kernel_rfl] at hl;obtain⟨y0,h0,q0⟩:=bQ Tryz.underlying106 h 0 rfl 0 1 rfl κ RG;obtain⟨y1,h1,q1⟩:=bQ Tryz.underlying106 h 1 rfl 1 2 rfl κ NM;obtain⟨y2,h2,q2⟩:=bQ Tryz.underlying106 h 2 rfl 3 1 rfl κ KE;obtain⟨y3,h3,q3⟩:=bQ Tryz.underlying106 h 3 rfl 4 1 rfl κ KE;match cs,hl with
 | [c0,c1,c2,c3,c4],_=>
  simp[XM] at h0 h1 h2 h3;obtain⟨rfl,rfl⟩:=h1;subst h0 h2 h3;obtain⟨a1,a2,a3,a4⟩:=q0;obtain⟨b1,b2,b3,b4⟩:=q2;obtain⟨d1,d2,d3,d4⟩:=q3;unfold maxLen at *
  exact⟨⟨⟨y0.l,y1,y2.l,y3.l⟩,y0.A,y0.m,y0.k,y2.A,y2.m,y2.k,y3.A,y3.m,y3.k⟩,rfl,⟨a3,by simp only;omega,fun y hy=>by have:=a4 y hy;omega,b3,by simp only;omega,d3,by simp only;omega,q1⟩,b4,d4⟩
theorem Zr:kH enc W 23 (fun (y:SlX F6)=>[.slice y.A y.m y.k]) (QSl W 6 encR (fun y=>y.At W∧ad3 y.r)):=
 qx Tryz.underlying23 κ (fun _=>rfl) ω acE
theorem Zt:kH enc W 24 (fun (y:SlX JO)=>[.slice y.A y.m y.k]) (QSl W 5 ak6 (fun y=>y.At W∧ad4 y.i)):=
 qx Tryz.underlying24 κ (fun _=>rfl) ω acG
theorem acF:kH enc W 26 dU.cells (fun y=>(y.At W∧y.aqe)∧Ji y):=by
 intro fuel cs x h;have hl:=qo Tryz.underlying26 h;rw[show Tryz.prog.cellsOf 26=6 by kernel_rfl] at hl;obtain⟨y0,h0,q0⟩:=bQ Tryz.underlying26 h 0 rfl 0 1 rfl κ Gp;obtain⟨y1,h1,q1⟩:=bQ Tryz.underlying26 h 1 rfl 1 1 rfl κ Gp;obtain⟨y2,h2,q2⟩:=bQ Tryz.underlying26 h 2 rfl 2 1 rfl κ Gp;obtain⟨y3,h3,q3⟩:=bQ Tryz.underlying26 h 3 rfl 3 1 rfl κ Gp;obtain⟨y4,h4,q4⟩:=bQ Tryz.underlying26 h 4 rfl 4 1 rfl κ Zr;obtain⟨y5,h5,q5⟩:=bQ Tryz.underlying26 h 5 rfl 5 1 rfl κ Zt;match cs,hl with
 | [c0,c1,c2,c3,c4,c5],_=>
  simp at h0 h1 h2 h3 h4 h5;subst h0 h1 h2 h3 h4 h5;have n0:=Qw q0;have n1:=Qw q1;have n2:=Qw q2;have n3:=Qw q3;obtain⟨a1,a2,_⟩:=q0;obtain⟨b1,b2,_⟩:=q1;obtain⟨d1,d2,_⟩:=q2;obtain⟨e1,e2,_⟩:=q3;obtain⟨f1,f2,f3,f4⟩:=q4;obtain⟨g1,g2,g3,g4⟩:=q5;unfold maxLen at *
  refine⟨⟨⟨y0.l,y0.A,y0.m,y0.k⟩,⟨y1.l,y1.A,y1.m,y1.k⟩,⟨y2.l,y2.A,y2.m,y2.k⟩,⟨y3.l,y3.A,y3.m,y3.k⟩,y4.l,y4.A,y4.m,y4.k,y5.l,y5.A,y5.m,y5.k⟩,rfl,⟨⟨n0,n1,n2,n3,f3,by simp only;omega,fun x hx=>(f4 x hx).1,g3,by simp only;omega,fun x hx=>(g4 x hx).1⟩,⟨a1,b1,d1,e1,f1,g1,by simp only;omega,by simp only;omega,by simp only;omega,by simp only;omega,by simp only;omega,by simp only;omega⟩⟩,fun x hx=>(f4 x hx).2,fun x hx=>(g4 x hx).2⟩
def atQ (W:World) (y:iI):Prop:=QAl W y∧y.a.src.length≤maxLen∧∀f∈y.a.fs,f.n.length≤maxLen∧f.v.length≤maxLen
theorem acI:kH enc W 44 FV (atQ W):=by
 intro fuel cs x h;have hl:=qo Tryz.underlying44 h;rw[show Tryz.prog.cellsOf 44=6 by kernel_rfl] at hl;obtain⟨y0,h0,q0⟩:=bQ Tryz.underlying44 h 0 rfl 0 1 rfl κ (tN κ);obtain⟨y1,h1,q1⟩:=bQ Tryz.underlying44 h 1 rfl 1 1 rfl κ acH;obtain⟨y2,h2,q2⟩:=bQ Tryz.underlying44 h 2 rfl 2 2 rfl κ NM;obtain⟨y3,h3,_⟩:=bQ Tryz.underlying44 h 3 rfl 4 1 rfl κ (vM κ);obtain⟨y4,h4,_⟩:=bQ Tryz.underlying44 h 4 rfl 5 1 rfl κ (vM κ);match cs,hl with
 | [c0,c1,c2,c3,c4,c5],_=>
  simp[XM] at h0 h1 h2 h3 h4;obtain⟨rfl,rfl⟩:=h2;subst h0 h1 h3 h4;exact⟨⟨⟨y0,y1.l,y2,y3,y4⟩,y1.A,y1.m,y1.k⟩,rfl,⟨q1.1,q1.2.1,q1.2.2.1,q2⟩,q0,q1.2.2.2⟩
theorem Zu:kH enc W 27 (fun (y:SlX iI)=>[.slice y.A y.m y.k]) (QSl W 6 FV (atQ W)):=
 qx Tryz.underlying27 κ (fun _=>rfl) ω acI
end
end Go.Proofs.YteojanlajhebhaaGreatDoor
