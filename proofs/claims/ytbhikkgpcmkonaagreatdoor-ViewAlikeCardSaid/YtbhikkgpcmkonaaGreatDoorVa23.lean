/- Parts: EqE ViwA EngE EngF EngT EngH EngI EngJ -/
import Derived.Test.YtbhikkgpcmkonaaGreatDoorVa0
import Derived.Test.YtbhikkgpcmkonaaGreatDoorVa22
import Derived.Test.YtbhikkgpcmkonaaGreatDoorVa3
import Derived.Test.YtbhikkgpcmkonaaGreatDoorVa21
import Derived.Sort.MapsRangeIn
set_option maxRecDepth 100000
set_option maxHeartbeats 12800000
namespace Go.Proofs.YtbhikkgpcmkonaaGreatDoor
open Go.RowKit
structure gJ.At (x:gJ) (w:World):Prop where
 a:x.a.At w
 s:x.s.At w
theorem gJ.At.keep {x:gJ} {w w':World} (h:x.At w) (hg:ah w w'):x.At w':=⟨h.a.keep hg,h.s.keep hg⟩
def uG:Array Value:= #[.slice none 0 0,.int .i64 0,.int .i64 0,.int .i64 0,.int .u32 0]
theorem wL {w:World} {g:Nat} (h:aF w g 159 uG) :
 w.cell? ⟨g,0,none⟩=some (.slice none 0 0)∧w.cell? ⟨g,1,none⟩=some (.int .i64 0)∧w.cell? ⟨g,2,none⟩=some (.int .i64 0)∧w.cell? ⟨g,3,none⟩=some (.int .i64 0)∧w.cell? ⟨g,4,none⟩=some (.int .u32 0)∧(∀i,w.frozen? ⟨g,i,none⟩=false)∧g < w.heap.size:=
 ⟨h.cell 0,h.cell 1,h.cell 2,h.cell 3,h.cell 4,fun i=>h.frozen i,h.lt⟩
theorem MX {w wM:World} {g:Nat} (hZ:aF wM g 159 uG) (hG:ah w wM) (qA:w.heap.size≤g) (u0 u1 u2 u3 u4:Value) :
 aF (((((wM.setCell ⟨g,0,none⟩ u0).setCell ⟨g,1,none⟩ u1).setCell ⟨g,2,none⟩ u2).setCell ⟨g,3,none⟩ u3).setCell ⟨g,4,none⟩ u4) g 159 #[u0,u1,u2,u3,u4]∧
 ah w (((((wM.setCell ⟨g,0,none⟩ u0).setCell ⟨g,1,none⟩ u1).setCell ⟨g,2,none⟩ u2).setCell ⟨g,3,none⟩ u3).setCell ⟨g,4,none⟩ u4)∧
 ∀g' t cs,aF wM g' t cs→g'≠g→aF (((((wM.setCell ⟨g,0,none⟩ u0).setCell ⟨g,1,none⟩ u1).setCell ⟨g,2,none⟩ u2).setCell ⟨g,3,none⟩ u3).setCell ⟨g,4,none⟩ u4) g' t cs:=by
 have h0:=hZ.bD 0 u0;have h1:=h0.bD 1 u1;have h2:=h1.bD 2 u2;have h3:=h2.bD 3 u3;have h4:=h3.bD 4 u4;refine⟨h4.cast (by simp[uG]),?_,fun g' t cs hB hne=>((((hB.far (p:=⟨g,0,none⟩) hne _).far (p:=⟨g,1,none⟩) hne _).far (p:=⟨g,2,none⟩) hne _).far (p:=⟨g,3,none⟩) hne _).far (p:=⟨g,4,none⟩) hne _⟩;exact ah.setCell (ah.setCell (ah.setCell (ah.setCell (ah.setCell hG (p:=⟨g,0,none⟩) qA _) (p:=⟨g,1,none⟩) qA _) (p:=⟨g,2,none⟩) qA _) (p:=⟨g,3,none⟩) qA _) (p:=⟨g,4,none⟩) qA _
def awn (wr:World) (ca cb:Array Value) (f:Nat→Value) (wz:World):Prop:=∃ga gb,f 5=.pointer (some ⟨ga,0,none⟩)∧f 6=.pointer (some ⟨gb,0,none⟩)∧aF wz ga 159 ca∧aF wz gb 159 cb∧ah wr wz
theorem afP (x y:gJ) (w:World) (hx:x.At w) (hy:y.At w):Calls Tryz.prog 69 #[Ul x,Ul y] w fun e w'=>e =.returned (.bool (decide (x.e = y.e)))∧ah w w':=by
 have cM:=ζ (fun W (hW:ah w W)=>afQ x.s.A y.s.A x.s.m x.s.k y.s.m y.s.k x.s.s.wh y.s.s.wh W (hx.s.arr.keep hW) (hy.s.arr.keep hW) (by have:=hx.s.le;omega) (by have:=hy.s.le;omega));have cA:=ζ (fun W (hW:ah w W)=>agq x.a y.a W (hx.a.keep hW) (hy.a.keep hW));obtain⟨R,hR⟩:∃R,R=decide (x.e = y.e):=⟨_,rfl⟩;rw[←hR];have jr:Hid (R=(decide (x.s.s.f = y.s.s.f∧x.s.s.t = y.s.s.t∧x.s.s.l.lv=y.s.s.l.lv∧x.s.s.l.c = y.s.s.l.c)&&(decide (x.s.s.wh=y.s.s.wh)&&(decide (x.k=y.k∧x.now=y.now)&&decide (x.a.a = y.a.a))))):=ζ (by
  rw[hR,←Bool.decide_and,←Bool.decide_and,←Bool.decide_and];refine decide_eq_decide.2 ?_;obtain⟨xk,xa,⟨⟨a1,a2,a3,⟨a4,a5⟩⟩,_,_,_⟩,xn⟩:=x;obtain⟨yk,ya,⟨⟨b1,b2,b3,⟨b4,b5⟩⟩,_,_,_⟩,yn⟩:=y;unfold gJ.e;simp only[ES.mk.injEq,Sil.mk.injEq,fZ.mk.injEq];constructor
  ·rintro⟨h1,h2,⟨h3,h4,h5,h6,h7⟩,h8⟩;exact⟨⟨h4,h5,h6,h7⟩,h3,⟨h1,h8⟩,h2⟩
  ·rintro⟨⟨h4,h5,h6,h7⟩,h3,⟨h1,h8⟩,h2⟩;exact⟨h1,h2,⟨h3,h4,h5,h6,h7⟩,h8⟩)
 clear hx hy hR;generalize decide (x.s.s.wh=y.s.s.wh)=D at *
 generalize decide (x.a.a = y.a.a)=E at *
 unfold Ul je at *
 have hg0:=ζ (((ah.refl w).alloc (.cells #[.int .i64 x.k,.string ⟨x.a.a.src.toArray⟩,.slice x.a.A x.a.m x.a.k,.int .i64 x.a.a.l.lv,.int .u32 (x.a.a.l.c:Int),.int .i64 x.a.a.f,.int .i64 x.a.a.t,.slice x.s.A x.s.m x.s.k,.int .i64 x.s.s.f,.int .i64 x.s.s.t,.int .i64 x.s.s.l.lv,.int .u32 (x.s.s.l.c:Int),.int .i64 x.now] 166)).alloc (.cells #[.int .i64 y.k,.string ⟨y.a.a.src.toArray⟩,.slice y.a.A y.a.m y.a.k,.int .i64 y.a.a.l.lv,.int .u32 (y.a.a.l.c:Int),.int .i64 y.a.a.f,.int .i64 y.a.a.t,.slice y.s.A y.s.m y.s.k,.int .i64 y.s.s.f,.int .i64 y.s.s.t,.int .i64 y.s.s.l.lv,.int .u32 (y.s.s.l.c:Int),.int .i64 y.now] 166));have bX:=ζ ((aF.new w 166 #[.int .i64 x.k,.string ⟨x.a.a.src.toArray⟩,.slice x.a.A x.a.m x.a.k,.int .i64 x.a.a.l.lv,.int .u32 (x.a.a.l.c:Int),.int .i64 x.a.a.f,.int .i64 x.a.a.t,.slice x.s.A x.s.m x.s.k,.int .i64 x.s.s.f,.int .i64 x.s.s.t,.int .i64 x.s.s.l.lv,.int .u32 (x.s.s.l.c:Int),.int .i64 x.now]).alloc (.cells #[.int .i64 y.k,.string ⟨y.a.a.src.toArray⟩,.slice y.a.A y.a.m y.a.k,.int .i64 y.a.a.l.lv,.int .u32 (y.a.a.l.c:Int),.int .i64 y.a.a.f,.int .i64 y.a.a.t,.slice y.s.A y.s.m y.s.k,.int .i64 y.s.s.f,.int .i64 y.s.s.t,.int .i64 y.s.s.l.lv,.int .u32 (y.s.s.l.c:Int),.int .i64 y.now] 166));have bY:=ζ (aF.kW w (.cells #[.int .i64 x.k,.string ⟨x.a.a.src.toArray⟩,.slice x.a.A x.a.m x.a.k,.int .i64 x.a.a.l.lv,.int .u32 (x.a.a.l.c:Int),.int .i64 x.a.a.f,.int .i64 x.a.a.t,.slice x.s.A x.s.m x.s.k,.int .i64 x.s.s.f,.int .i64 x.s.s.t,.int .i64 x.s.s.l.lv,.int .u32 (x.s.s.l.c:Int),.int .i64 x.now] 166) 166 #[.int .i64 y.k,.string ⟨y.a.a.src.toArray⟩,.slice y.a.A y.a.m y.a.k,.int .i64 y.a.a.l.lv,.int .u32 (y.a.a.l.c:Int),.int .i64 y.a.a.f,.int .i64 y.a.a.t,.slice y.s.A y.s.m y.s.k,.int .i64 y.s.s.f,.int .i64 y.s.s.t,.int .i64 y.s.s.l.lv,.int .u32 (y.s.s.l.c:Int),.int .i64 y.now]);go_enter Tryz.func69,Tryz.ntmps69
 go_wp2_with fail;generalize (w.alloc (.cells #[.int .i64 x.k,.string ⟨x.a.a.src.toArray⟩,.slice x.a.A x.a.m x.a.k,.int .i64 x.a.a.l.lv,.int .u32 (x.a.a.l.c:Int),.int .i64 x.a.a.f,.int .i64 x.a.a.t,.slice x.s.A x.s.m x.s.k,.int .i64 x.s.s.f,.int .i64 x.s.s.t,.int .i64 x.s.s.l.lv,.int .u32 (x.s.s.l.c:Int),.int .i64 x.now] 166)).alloc (.cells #[.int .i64 y.k,.string ⟨y.a.a.src.toArray⟩,.slice y.a.A y.a.m y.a.k,.int .i64 y.a.a.l.lv,.int .u32 (y.a.a.l.c:Int),.int .i64 y.a.a.f,.int .i64 y.a.a.t,.slice y.s.A y.s.m y.s.k,.int .i64 y.s.s.f,.int .i64 y.s.s.t,.int .i64 y.s.s.l.lv,.int .u32 (y.s.s.l.c:Int),.int .i64 y.now] 166)=w3 at *
 have x7:=bX.out.c7;have x8:w3.cell? ⟨w.heap.size,8,none⟩=some (.int .i64 x.s.s.f):=bX.out.cell 8;have x9:w3.cell? ⟨w.heap.size,9,none⟩=some (.int .i64 x.s.s.t):=bX.out.cell 9;have Fq:w3.cell? ⟨w.heap.size,10,none⟩=some (.int .i64 x.s.s.l.lv):=bX.out.cell 10;have ED:w3.cell? ⟨w.heap.size,11,none⟩=some (.int .u32 (x.s.s.l.c:Int)):=bX.out.cell 11;have xl:=bX.out.lt;have y7:=bY.out.c7;have y8:w3.cell? ⟨w.heap.size+1,8,none⟩=some (.int .i64 y.s.s.f):=bY.out.cell 8;have y9:w3.cell? ⟨w.heap.size+1,9,none⟩=some (.int .i64 y.s.s.t):=bY.out.cell 9;have y10:w3.cell? ⟨w.heap.size+1,10,none⟩=some (.int .i64 y.s.s.l.lv):=bY.out.cell 10;have y11:w3.cell? ⟨w.heap.size+1,11,none⟩=some (.int .u32 (y.s.s.l.c:Int)):=bY.out.cell 11;have yl:=bY.out.lt;have aN:=ζ (ah.refl w3);apply Hg (is:=[5,6]) (R:=awn w3 #[.slice x.s.A x.s.m x.s.k,.int .i64 x.s.s.f,.int .i64 x.s.s.t,.int .i64 x.s.s.l.lv,.int .u32 (x.s.s.l.c:Int)] #[.slice y.s.A y.s.m y.s.k,.int .i64 y.s.s.f,.int .i64 y.s.s.t,.int .i64 y.s.s.l.lv,.int .u32 (y.s.s.l.c:Int)])
 case h1=>
  refine aG κ ?_;refine rK [0,1,2,3] 4 ?_;iterate 4 refine aC ?_
  refine aB ?_;refine aH [4,5] κ σ (fun wN hN hS=>(au.cons rfl (fun K' hK=> ?_) (au.cons rfl (fun K' hK=> ?_) au.nil)))
  ·skip
   try replace iL:=ζ (iL.o.grows hN)
   try replace iy:=ζ (iy.o.grows hN)
   replace aN:=ζ (aN.o.trans hN);clear hN;go_simp;have hgA:=ζ aN.o.size;try have hab:=ζ (iy.o.lt)
   have iL:=ζ (aF.new wN 159 uG);replace aN:=ζ (aN.o.alloc (.cells uG 159));try replace iy:=ζ (iy.o.alloc (.cells uG 159))
   refine hK.o _ _ ?_ (fun hS=> ?_)
   ·exact aN.o
   generalize wN.heap.size=gA at *
   clear hK hS;refine aH [5] κ σ (fun wN hN hS=>(au.cons rfl (fun K' hK=> ?_) au.nil));try replace iL:=ζ (iL.o.grows hN)
   try replace iy:=ζ (iy.o.grows hN)
   replace aN:=ζ (aN.o.trans hN);clear hN;go_simp;have Y_:=ζ aN.o.size;try have hab:=ζ (iL.o.lt)
   have iy:=ζ (aF.new wN 159 uG);replace aN:=ζ (aN.o.alloc (.cells uG 159));try replace iL:=ζ (iL.o.alloc (.cells uG 159))
   refine hK.o _ _ ?_ (fun hS=> ?_)
   ·exact aN.o
   generalize wN.heap.size=gB at *
   clear hK hS;refine aH [6] κ σ (fun wN hN hS=>(au.cons rfl (fun K' hK=> ?_) au.nil));try replace iL:=ζ (iL.o.grows hN)
   try replace iy:=ζ (iy.o.grows hN)
   replace aN:=ζ (aN.o.trans hN);clear hN;obtain⟨z0,z1,z2,z3,z4,zf,zl⟩:=wL iL.o;obtain⟨n0,n1,n2⟩:=MX iL.o aN.o hgA.o (.slice x.s.A x.s.m x.s.k) (.int .i64 x.s.s.f) (.int .i64 x.s.s.t) (.int .i64 x.s.s.l.lv) (.int .u32 (x.s.s.l.c:Int));try replace iy:=ζ (n2 _ _ _ iy.o (by have:=hab.o;omega))
   replace n0:=ζ n0;replace n1:=ζ n1;clear n2;go_simp;refine hK.o _ _ ?_ (fun hS=> ?_)
   ·exact n1.out
   clear z0 z1 z2 z3 z4 zf zl iL aN;generalize ((((wN.setCell ⟨gA,0,none⟩ (.slice x.s.A x.s.m x.s.k)).setCell ⟨gA,1,none⟩ (.int .i64 x.s.s.f)).setCell ⟨gA,2,none⟩ (.int .i64 x.s.s.t)).setCell ⟨gA,3,none⟩ (.int .i64 x.s.s.l.lv)).setCell ⟨gA,4,none⟩ (.int .u32 (x.s.s.l.c:Int))=w9 at *
   have iL:=n0;have aN:=n1;clear n0 n1;clear hK hS;refine aH [7] κ σ (fun wN hN hS=>(au.cons rfl (fun K' hK=> ?_) au.nil));try replace iL:=ζ (iL.o.grows hN)
   try replace iy:=ζ (iy.o.grows hN)
   replace aN:=ζ (aN.o.trans hN);clear hN;obtain⟨z0,z1,z2,z3,z4,zf,zl⟩:=wL iy.o;obtain⟨n0,n1,n2⟩:=MX iy.o aN.o Y_.o (.slice y.s.A y.s.m y.s.k) (.int .i64 y.s.s.f) (.int .i64 y.s.s.t) (.int .i64 y.s.s.l.lv) (.int .u32 (y.s.s.l.c:Int));try replace iL:=ζ (n2 _ _ _ iL.o (by have:=hab.o;omega))
   replace n0:=ζ n0;replace n1:=ζ n1;clear n2;go_simp;refine hK.o _ _ ?_ (fun hS=> ?_)
   ·exact n1.out
   clear z0 z1 z2 z3 z4 zf zl iy aN;generalize ((((wN.setCell ⟨gB,0,none⟩ (.slice y.s.A y.s.m y.s.k)).setCell ⟨gB,1,none⟩ (.int .i64 y.s.s.f)).setCell ⟨gB,2,none⟩ (.int .i64 y.s.s.t)).setCell ⟨gB,3,none⟩ (.int .i64 y.s.s.l.lv)).setCell ⟨gB,4,none⟩ (.int .u32 (y.s.s.l.c:Int))=w9 at *
   have iy:=n0;have aN:=n1;clear n0 n1;clear hK hS;refine aJ κ (fun wN hN hS=> ?_);try replace iL:=ζ (iL.o.grows hN)
   try replace iy:=ζ (iy.o.grows hN)
   replace aN:=ζ (aN.o.trans hN);refine⟨(by
    simp only[gV,List.foldl_cons,List.foldl_nil];go_simp;try rfl
   ),_,_,rfl,rfl,iL.o,iy.o,aN.o⟩
  ·skip
   try replace iL:=ζ (iL.o.grows hN)
   try replace iy:=ζ (iy.o.grows hN)
   replace aN:=ζ (aN.o.trans hN);clear hN;go_simp;have Y_:=ζ aN.o.size;try have hab:=ζ (iL.o.lt)
   have iy:=ζ (aF.new wN 159 uG);replace aN:=ζ (aN.o.alloc (.cells uG 159));try replace iL:=ζ (iL.o.alloc (.cells uG 159))
   refine hK.o _ _ ?_ (fun hS=> ?_)
   ·exact aN.o
   generalize wN.heap.size=gB at *
   clear hK hS;refine aH [4] κ σ (fun wN hN hS=>(au.cons rfl (fun K' hK=> ?_) au.nil));try replace iL:=ζ (iL.o.grows hN)
   try replace iy:=ζ (iy.o.grows hN)
   replace aN:=ζ (aN.o.trans hN);clear hN;go_simp;have hgA:=ζ aN.o.size;try have hab:=ζ (iy.o.lt)
   have iL:=ζ (aF.new wN 159 uG);replace aN:=ζ (aN.o.alloc (.cells uG 159));try replace iy:=ζ (iy.o.alloc (.cells uG 159))
   refine hK.o _ _ ?_ (fun hS=> ?_)
   ·exact aN.o
   generalize wN.heap.size=gA at *
   clear hK hS;refine aH [6] κ σ (fun wN hN hS=>(au.cons rfl (fun K' hK=> ?_) au.nil));try replace iL:=ζ (iL.o.grows hN)
   try replace iy:=ζ (iy.o.grows hN)
   replace aN:=ζ (aN.o.trans hN);clear hN;obtain⟨z0,z1,z2,z3,z4,zf,zl⟩:=wL iL.o;obtain⟨n0,n1,n2⟩:=MX iL.o aN.o hgA.o (.slice x.s.A x.s.m x.s.k) (.int .i64 x.s.s.f) (.int .i64 x.s.s.t) (.int .i64 x.s.s.l.lv) (.int .u32 (x.s.s.l.c:Int));try replace iy:=ζ (n2 _ _ _ iy.o (by have:=hab.o;omega))
   replace n0:=ζ n0;replace n1:=ζ n1;clear n2;go_simp;refine hK.o _ _ ?_ (fun hS=> ?_)
   ·exact n1.out
   clear z0 z1 z2 z3 z4 zf zl iL aN;generalize ((((wN.setCell ⟨gA,0,none⟩ (.slice x.s.A x.s.m x.s.k)).setCell ⟨gA,1,none⟩ (.int .i64 x.s.s.f)).setCell ⟨gA,2,none⟩ (.int .i64 x.s.s.t)).setCell ⟨gA,3,none⟩ (.int .i64 x.s.s.l.lv)).setCell ⟨gA,4,none⟩ (.int .u32 (x.s.s.l.c:Int))=w9 at *
   have iL:=n0;have aN:=n1;clear n0 n1;clear hK hS;refine aH [7] κ σ (fun wN hN hS=>(au.cons rfl (fun K' hK=> ?_) au.nil));try replace iL:=ζ (iL.o.grows hN)
   try replace iy:=ζ (iy.o.grows hN)
   replace aN:=ζ (aN.o.trans hN);clear hN;obtain⟨z0,z1,z2,z3,z4,zf,zl⟩:=wL iy.o;obtain⟨n0,n1,n2⟩:=MX iy.o aN.o Y_.o (.slice y.s.A y.s.m y.s.k) (.int .i64 y.s.s.f) (.int .i64 y.s.s.t) (.int .i64 y.s.s.l.lv) (.int .u32 (y.s.s.l.c:Int));try replace iL:=ζ (n2 _ _ _ iL.o (by have:=hab.o;omega))
   replace n0:=ζ n0;replace n1:=ζ n1;clear n2;go_simp;refine hK.o _ _ ?_ (fun hS=> ?_)
   ·exact n1.out
   clear z0 z1 z2 z3 z4 zf zl iy aN;generalize ((((wN.setCell ⟨gB,0,none⟩ (.slice y.s.A y.s.m y.s.k)).setCell ⟨gB,1,none⟩ (.int .i64 y.s.s.f)).setCell ⟨gB,2,none⟩ (.int .i64 y.s.s.t)).setCell ⟨gB,3,none⟩ (.int .i64 y.s.s.l.lv)).setCell ⟨gB,4,none⟩ (.int .u32 (y.s.s.l.c:Int))=w9 at *
   have iy:=n0;have aN:=n1;clear n0 n1;clear hK hS;refine aJ κ (fun wN hN hS=> ?_);try replace iL:=ζ (iL.o.grows hN)
   try replace iy:=ζ (iy.o.grows hN)
   replace aN:=ζ (aN.o.trans hN);refine⟨(by
    simp only[gV,List.foldl_cons,List.foldl_nil];go_simp;try rfl
   ),_,_,rfl,rfl,iL.o,iy.o,aN.o⟩
 intro fz w9 hR9;obtain⟨ga,gb',e5,e6,iL,iy,abh⟩:=hR9;simp only[lM,List.foldl_cons,List.foldl_nil,e5,e6];have LZ:=ζ (hg0.o.trans abh);replace bX:=ζ (bX.out.grows abh);replace bY:=ζ (bY.out.grows abh);have sx0:=iL.c0;have sx1:=iL.c1;have sx2:=iL.c2;have sx3:=iL.c3;have sx4:=iL.c4;have sxl:=iL.lt;have sy0:=iy.c0;have sy1:=iy.c1;have sy2:=iy.c2;have sy3:=iy.c3;have sy4:=iy.c4;have syl:=iy.lt;clear iL iy abh aN hg0 e5 e6 x7 x8 x9 Fq ED xl y7 y8 y9 y10 y11 yl;by_cases h1:x.s.s.f = y.s.s.f∧x.s.s.t = y.s.s.t∧x.s.s.l.lv=y.s.s.l.lv∧x.s.s.l.c = y.s.s.l.c
 ·obtain⟨g1,g2,g3,g4⟩:=h1;have Dl:Hid (R=(D&&(decide (x.k=y.k∧x.now=y.now)&&E))):=ζ (by rw[jr.o,decide_eq_true (⟨g1,g2,g3,g4⟩:_∧_∧_∧_)];rfl);rw[←g1] at sy1;rw[←g2] at sy2;rw[←g3] at sy3;rw[←g4] at sy4;clear jr g1 g2 g3 g4;go_wp2_with fail;refine (cM.out _ LZ.o).mono ?_;rintro e w1 ⟨rfl,hb⟩;have hG:=ζ (LZ.o.trans hb);replace bX:=ζ (bX.out.grows hb);replace bY:=ζ (bY.out.grows hb);have x0:=bX.out.c0;have x1:=bX.out.c1;have x2:=bX.out.c2;have x3:=bX.out.c3;have x4:=bX.out.c4;have x5:=bX.out.c5;have x6:=bX.out.c6;have Bd:w1.cell? ⟨w.heap.size,12,none⟩=some (.int .i64 x.now):=bX.out.cell 12;have xl:=bX.out.lt;have y0:=bY.out.c0;have y1:=bY.out.c1;have y2:=bY.out.c2;have y3:=bY.out.c3;have y4:=bY.out.c4;have y5:=bY.out.c5;have y6:=bY.out.c6;have y12:w1.cell? ⟨w.heap.size+1,12,none⟩=some (.int .i64 y.now):=bY.out.cell 12;have yl:=bY.out.lt;clear hb bX bY cM LZ sx0 sx1 sx2 sx3 sx4 sy0 sy1 sy2 sy3 sy4;cases D with
  | false=>
   have hR4:Hid (R=false):=ζ (by rw[Dl.o];rfl);go_wp2;go_ret;exact⟨by rw[hR4.o];rfl,hG.o⟩
  | true=>
   by_cases h2:x.k=y.k
   ·by_cases h3:x.now=y.now
    ·have hR4:Hid (R=E):=ζ (by rw[Dl.o];simp[h2,h3]);rw[←h2] at y0;rw[←h3] at y12;clear Dl h2 h3;go_wp2_with fail;refine (cA.out _ hG.o).mono ?_;rintro e w2 ⟨rfl,hb⟩;have fQ:=ζ (hG.o.trans hb);clear hb hG;go_wp2;go_ret;exact⟨by rw[hR4.o];rfl,fQ.o⟩
    ·have hR4:Hid (R=false):=ζ (by rw[Dl.o];simp[h3]);have h3z:(x.now==y.now)=false:=by simp[h3]
     rw[←h2] at y0;clear h2 Dl;go_wp2;go_ret;exact⟨by rw[hR4.o];rfl,hG.o⟩
   ·have hR4:Hid (R=false):=ζ (by rw[Dl.o];simp[h2]);have h2z:(x.k==y.k)=false:=by simp[h2]
    clear Dl;go_wp2;go_ret;exact⟨by rw[hR4.o];rfl,hG.o⟩
 ·have Dl:Hid (R=false):=ζ (by rw[jr.o,decide_eq_false h1];rfl);clear cM cA jr;by_cases g1:x.s.s.f = y.s.s.f
  ·by_cases g2:x.s.s.t = y.s.s.t
   ·by_cases g3:x.s.s.l.lv=y.s.s.l.lv
    ·have g4:¬(x.s.s.l.c:Int)=(y.s.s.l.c:Int):=fun h=>h1 ⟨g1,g2,g3,ω⟩
     have g4z:((x.s.s.l.c:Int)==(y.s.s.l.c:Int))=false:=by simp;omega
     clear h1;go_wp2;go_ret;exact⟨by rw[Dl.o];rfl,LZ.o⟩
    ·have g3z:(x.s.s.l.lv==y.s.s.l.lv)=false:=by simp[g3]
     clear h1;go_wp2;go_ret;exact⟨by rw[Dl.o];rfl,LZ.o⟩
   ·have g2z:(x.s.s.t ==y.s.s.t)=false:=by simp[g2]
    clear h1;go_wp2;go_ret;exact⟨by rw[Dl.o];rfl,LZ.o⟩
  ·have g1z:(x.s.s.f ==y.s.s.f)=false:=by simp[g1]
   clear h1;go_wp2;go_ret;exact⟨by rw[Dl.o];rfl,LZ.o⟩
structure IJ (T:List TypeId) (base:Nat) (w w':World):Prop where
 below:Below base w w'
 kept:∀(g:Nat) (cur:Array Value) (te:TypeId) (fz:Nat×Nat),w.heap[g]? = some (Obj.cells cur te fz)→te∉T→w'.heap[g]? = w.heap[g]?
theorem IJ.trans {T:List TypeId} {base:Nat} {a b c:World} (h:IJ T base a b) (k:IJ T base b c):IJ T base a c:=
 ⟨h.below.trans k.below,fun g cur te fz hg ht=>(k.kept g cur te fz ((h.kept g cur te fz hg ht).trans hg) ht).trans (h.kept g cur te fz hg ht)⟩
theorem Cj {w:World} {g:Nat} {o:Obj} (h:w.heap[g]? = some o):g < w.heap.size:=(Array.getElem?_eq_some_iff.1 h).1
theorem IJ.grows {T:List TypeId} {base:Nat} {a b:World} (hg:ah a b) (hb:base≤a.heap.size):IJ T base a b:=
 ⟨Below.mono hg.below hb,fun g _ _ _ h _=>hg.below.block g (Cj h)⟩
theorem IJ.size {T:List TypeId} {base:Nat} {a b:World} (h:IJ T base a b):a.heap.size≤b.heap.size:=h.below.size
theorem IJ.blk {T:List TypeId} {base g:Nat} {a b:World} {te:TypeId} {cs:Array Value} (h:IJ T base a b) (hb:aF a g te cs) (ht:te∉T):aF b g te cs:=(h.kept g _ _ _ hb ht).trans hb
theorem IJ.row {T:List TypeId} {base:Nat} {w w':World} {row:Option Nat} (hg:w.grownBy w' row) (hb:base≤w.heap.size) (hr:∀m,row=some m→base≤m∧∃te cs,te∈T∧aF w m te cs):IJ T base w w':=by
 refine⟨⟨hg.os,hg.tape,hg.output,hg.size,fun k hk=>hg.block k (Nat.lt_of_lt_of_le hk hb) (fun e=> ?_)⟩,fun g cur te fz h ht=>hg.block g (Cj h) (fun e=> ?_)⟩
 ·have:=(hr k e.symm).1;omega
 ·obtain⟨_,te',cs,hT,hB⟩:=hr g e.symm;unfold aF at hB;rw[h] at hB;simp only[Option.some.injEq,Obj.cells.injEq] at hB;exact ht (hB.2.1 ▸ hT)
theorem IJ.setCell {T:List TypeId} {base g i:Nat} {w:World} {te:TypeId} {cs:Array Value} (hB:aF w g te cs) (hb:base≤g) (ht:te∈T) (u:Value):IJ T base w (w.setCell ⟨g,i,none⟩ u):=
 IJ.row (aj w ⟨g,i,none⟩ u) (by have:=hB.lt;omega) (fun m hm=>by injection hm with hm;subst hm;exact⟨hb,te,cs,ht,hB⟩)
theorem IJ.own {α:Type} {T:List TypeId} {w w':World} {base b0 k:Nat} {e:TypeId} {enc:α→List Value} {v:Value} {xs:List α} (h:Own w b0 e k enc v xs) (hT:IJ T base w w') (he:e∉T):Own w' b0 e k enc v xs:=by
 refine⟨h.1,?_⟩;rcases h.2 with h2 | ⟨g,cap,cur,hv,hb,hh,r⟩
 ·exact .inl h2
 ·exact .inr ⟨g,cap,cur,hv,hb,(hT.kept g _ _ _ hh he).trans hh,r⟩
theorem IJ.out {T:List TypeId} {base:Nat} {a b c:World} (hg:ah a b) (h:IJ T base b c) (hb:a.heap.size≤base):ah a c:=
 ah.of ((Below.mono hg.below (Nat.le_refl _)).trans (Below.mono h.below hb))
theorem Own.nV {α:Type} {w:World} {base k:Nat} {e:TypeId} {enc:α→List Value} {v:Value} {xs:List α} (h:Own w base e k enc v xs):∀m,v.ownBlock=some m→base≤m∧∃cs,aF w m e cs:=fun m hm=>by
 rcases h.2 with⟨h2,_⟩ | ⟨g,cap,cur,hv,hb,hh,r⟩
 ·rw[h2] at hm;cases hm
 ·rw[hv] at hm;simp only[Value.ownBlock,Option.some.injEq] at hm;subst hm;exact⟨hb,cur,hh⟩
theorem ark:eX Tryz.prog 98 166 13 144:=eX.mk' (z:=.agg #[.int .i64 0,.string ⟨#[]⟩,.slice none 0 0,.int .i64 0,.int .u32 0,.int .i64 0,.int .i64 0,.slice none 0 0,.int .i64 0,.int .i64 0,.int .i64 0,.int .u32 0,.int .i64 0]) Tryz.underlying98 κ rfl ω
theorem apv (x:gJ):∀u∈qV x,u.oneCell'=true:=by
 intro u hu;simp only[qV,List.mem_cons,List.not_mem_nil,or_false] at hu;rcases hu with rfl | rfl | rfl | rfl | rfl | rfl | rfl | rfl | rfl | rfl | rfl | rfl | rfl <;> rfl
def evT:List TypeId:=[166,98]
theorem aiG {y:gJ} {may:Bool} {go base:Nat} {v:Value} {ys:List gJ} (w:World) (hB:aF w go 98 #[v]) (hO:Own w base 166 13 qV v ys) (hb:base≤go) (hl:ys.length≤1000000) :
 Calls Tryz.prog 71 #[Ul y,.bool may,.pointer (some ⟨go,0,none⟩)] w fun e w'=>e =.returned (.tuple #[])∧∃v',aF w' go 98 #[v']∧Own w' base 166 13 qV v' (if may then ys++[y] else ys)∧IJ evT base w w':=by
 have EJ:=hB.lt;have c0:=hB.c0;have hT0:IJ evT base w (w.alloc (.cells (qV y).toArray 166)):=IJ.grows ((ah.refl w).alloc _) ω;have Yf:aF (w.alloc (.cells (qV y).toArray 166)) go 98 #[v]:=hB.alloc _;have LX:Own (w.alloc (.cells (qV y).toArray 166)) base 166 13 qV v ys:=hO.alloc _;cases may with
 | false=>
  unfold Ul;unfold qV at hT0 Yf LX;replace hT0:=ζ hT0;replace Yf:=ζ Yf;replace LX:=ζ LX;clear hB hO;go_enter Tryz.func71,Tryz.ntmps71
  go_wp2;go_end0;exact⟨rfl,v,Yf.o,LX.o,hT0.o⟩
 | true=>
  unfold Ul;unfold qV at hT0 Yf;replace hT0:=ζ hT0;replace Yf:=ζ Yf;replace LX:=ζ LX;go_enter Tryz.func71,Tryz.ntmps71
  go_wp2_with (at_builtin;go_loud (refine dH (x:=y) ark rfl (.tmp 6) (.tmp 8) rfl (LX.o.alloc _) rfl ⟨w.heap.size+1,0,none⟩ rfl rfl (iK (by exact aF.kW w _ _ _)) (apv y) (by simp;omega) (by unfold maxLen;omega) ω (fun v7 w7 rG hgr qQ=> ?_);(obtain⟨g7,k7,rfl⟩:=lV rG σ);(replace rG:=ζ rG);(have tN:=(Yf.o.alloc _).aO hgr (fun hh=>aZ hO hB δ hh.symm));(have hT7:=ζ ((hT0.o.trans (IJ.grows ((ah.refl _).alloc _) (by simp;omega))).trans (IJ.row hgr (by simp;omega) (fun m hm=>by obtain⟨h8,cs,h9⟩:=(LX.o.alloc _).nV m hm;exact⟨h8,_,cs,List.mem_cons_self ..,h9⟩))));(have c7:w7.cell? ⟨go,0,none⟩=some v:=tN.cell 0);have l7:=tN.lt;have f7:=tN.frozen 0;clear hgr qQ));go_end0;exact⟨rfl,_,(tN.bD 0 _).cast σ,rG.o.kept' (aj w7 ⟨go,0,none⟩ _) (fun j hj=>by injection hj with hj;subst hj;exact aZ rG.o tN δ),hT7.o.trans (IJ.setCell tN hb (by simp[evT]) _)⟩
end Go.Proofs.YtbhikkgpcmkonaaGreatDoor
namespace Go.Proofs.YtbhikkgpcmkonaaGreatDoor
open Go.RowKit Go.Maps Go.WideMaps
structure GX where
 key:List UInt8
 g:Ar
 r:RtX
 gb:Nat
 cb:Nat
 v:Value
def dJ (gs:List GX):List (List UInt8×Ar):=gs.map fun x=>(x.key,x.g)
def pO (gs:List GX):List (List UInt8×Nat):=gs.map fun x=>(x.key,x.gb)
structure vW (w:World) (base:Nat) (x:GX):Prop where
 blk:aF w x.gb 130 (L9 x.g x.r x.cb)
 jC:wo w base x.cb x.g.jC x.v
 Zl:base≤x.gb
 cge:base≤x.cb
 kl:x.key.length≤20000
structure dM (w:World) (base ge b:Nat) (rec:List UInt8) (now:Int) (B:Nat) (gs:List GX):Prop where
 blk:aF w ge 118 #[.string ⟨rec.toArray⟩,.map (some b),.int .i64 now]
 map:∃n,n≤B∧vX w b n (pO gs)
 nd:(gs.map (·.key)).Nodup
 gnd:(gs.map (·.gb)).Nodup
 cnd:(gs.map (·.cb)).Nodup
 at_:∀x∈gs,vW w base x
 num:∀x∈gs,x.g.number≤B
 jC:∀x∈gs,x.g.jC.now≤now
 ege:base≤ge
 YK:base≤b
def Yq:List TypeId:=[118,130,180,33]
theorem vW.grows {w w':World} {base:Nat} {x:GX} (h:vW w base x) (hg:ah w w'):vW w' base x:=⟨h.blk.grows hg,h.jC.grows hg,h.Zl,h.cge,h.kl⟩
theorem wo.aO {w w':World} {base g:Nat} {c:Uc} {v:Value} {row:Option Nat} (h:wo w base g c v) (hg:w.grownBy w' row) (h1:some g≠row) (h2:∀m,row=some m→∀cur te fz,w.heap[m]? = some (.cells cur te fz)→te≠33):wo w' base g c v:=
 ⟨h.blk.aO hg h1,h.told.kept' hg (fun m hm hv=>by obtain⟨cur,hc⟩:=bV h.told hv;exact h2 m hm _ _ _ hc rfl),h.ok,h.VX,h.len⟩
theorem vW.aO {w w':World} {base:Nat} {x:GX} {row:Option Nat} (h:vW w base x) (hg:w.grownBy w' row) (h0:some x.gb≠row) (h1:some x.cb≠row) (h2:∀m,row=some m→∀cur te fz,w.heap[m]? = some (.cells cur te fz)→te≠33):vW w' base x:=
 ⟨h.blk.aO hg h0,h.jC.aO hg h1 h2,h.Zl,h.cge,h.kl⟩
section
variable {w w':World} {base ge b B:Nat} {rec:List UInt8} {now:Int} {gs:List GX}
theorem dM.grows (h:dM w base ge b rec now B gs) (hg:ah w w'):dM w' base ge b rec now B gs:=
 ⟨h.blk.grows hg,by obtain⟨n,h1,h2⟩:=h.map;exact⟨n,h1,h2.grows hg⟩,h.nd,h.gnd,h.cnd,fun x hx=>(h.at_ x hx).grows hg,h.num,h.jC,h.ege,h.YK⟩
theorem dM.more (h:dM w base ge b rec now B gs) {B':Nat} (hb:B≤B'):dM w base ge b rec now B' gs:=
 ⟨h.blk,by obtain⟨n,h1,h2⟩:=h.map;exact⟨n,ω,h2⟩,h.nd,h.gnd,h.cnd,h.at_,fun x hx=>Nat.le_trans (h.num x hx) hb,h.jC,h.ege,h.YK⟩
theorem dM.other (h:dM w base ge b rec now B gs) {row:Option Nat} (hg:w.grownBy w' row) (hb:some b≠row) (ht:∀m,row=some m→∀cur te fz,w.heap[m]? = some (.cells cur te fz)→te∉Yq):dM w' base ge b rec now B gs:=by
 have hne:∀(g:Nat) te cs,aF w g te cs→te∈Yq→some g≠row:=fun g te cs hB hT e=>ht g e.symm _ _ _ hB hT
 refine⟨h.blk.aO hg (hne _ _ _ h.blk δ),?_,h.nd,h.gnd,h.cnd,fun x hx=> ?_,h.num,h.jC,h.ege,h.YK⟩
 ·obtain⟨n,h1,h2⟩:=h.map;exact⟨n,h1,h2.kept hg hb⟩
 ·have hx1:=h.at_ x hx;exact hx1.aO hg (hne _ _ _ hx1.blk δ) (hne _ _ _ hx1.jC.blk δ) (fun m hm cur te fz hc e=>ht m hm cur te fz hc (by rw[e];decide))
theorem dM.apn (h:dM w base ge b rec now B gs) {n':Int} (hn:now≤n'):dM (w.setCell ⟨ge,2,none⟩ (.int .i64 n')) base ge b rec n' B gs:=by
 have hg:=aj w ⟨ge,2,none⟩ (.int .i64 n');have hne:∀(g:Nat) te cs,aF w g te cs→te≠118→some g≠some ge:=fun g te cs hB hT e=>by
  injection e with e;subst e
  have h1:=h.blk;unfold aF at h1 hB;rw[h1] at hB;simp only[Option.some.injEq,Obj.cells.injEq] at hB;exact hT hB.2.1.symm
 refine⟨(h.blk.bD 2 _).cast σ,?_,h.nd,h.gnd,h.cnd,fun x hx=> ?_,h.num,fun x hx=>Int.le_trans (h.jC x hx) hn,h.ege,h.YK⟩
 ·obtain⟨n,h1,h2⟩:=h.map;exact⟨n,h1,h2.kept hg (fun e=>by injection e with e;exact h2.aX _ _ _ (by rw[e];exact h.blk))⟩
 ·have hx1:=h.at_ x hx;exact hx1.aO hg (hne _ _ _ hx1.blk δ) (hne _ _ _ hx1.jC.blk δ) (fun m hm cur te fz hc e=>by
   injection hm with hm;subst hm
   have h1:=h.blk;unfold aF at h1;rw[h1] at hc;simp only[Option.some.injEq,Obj.cells.injEq] at hc;rw[←hc.2.1] at e;revert e;decide)
theorem qK {α β:Type} {f:α→β}:∀{l:List α},(l.map f).Nodup→∀{x y:α},x∈l→y∈l→f x = f y→x = y
 | a ::l,hn,x,y,hx,hy,e=>by
  rw[List.map_cons,List.nodup_cons] at hn;rcases List.mem_cons.1 hx with rfl | yN <;> rcases List.mem_cons.1 hy with rfl | hy'
  ·rfl
  ·exact absurd (List.mem_map.2 ⟨y,hy',e.symm⟩) hn.1
  ·exact absurd (List.mem_map.2 ⟨x,yN,e⟩) hn.1
  ·exact qK hn.2 yN hy' e
def yx (gs:List GX) (k:List UInt8) (y:GX):List GX:=gs.map fun z=>if z.key=k then y else z
theorem uM {β:Type} {f:GX→β} {k:List UInt8} {y x:GX} (hx:x∈gs) (hn:(gs.map (·.key)).Nodup) (hk:x.key=k) (hf:f y = f x):(yx gs k y).map f = gs.map f:=by
 unfold yx;rw[List.map_map];apply List.map_congr_left;intro z hz;simp only[Function.comp_apply];split
 ·rename_i he;have:z = x:=qK hn hz hx (by rw[he,hk]);rw[this,hf]
 ·rfl
theorem dM.upd (h:dM w base ge b rec now B gs) {x y:GX} {m B':Nat} (hx:x∈gs) (hg:w.grownBy w' (some m)) (hm:m = x.gb∨m = x.cb) (hy:vW w' base y) (hk:y.key=x.key) (hgb:y.gb=x.gb) (hcb:y.cb=x.cb) (ap1:y.g.number≤B') (abm:y.g.jC.now≤now) (hB:B≤B') :
 dM w' base ge b rec now B' (yx gs x.key y):=by
 have hx1:=h.at_ x hx;have hmc:∃te cs,aF w m te cs∧te≠118∧te≠33:=by
  rcases hm with rfl | rfl
  ·exact⟨_,_,hx1.blk,δ,δ⟩
  ·exact⟨_,_,hx1.jC.blk,δ,δ⟩
 obtain⟨tm,cm,hBm,ht1,ht2⟩:=hmc;have hne:∀(g:Nat) te cs,aF w g te cs→te≠tm→some g≠some m:=fun g te cs hB hT e=>by
  injection e with e;subst e
  unfold aF at hBm hB;rw[hBm] at hB;simp only[Option.some.injEq,Obj.cells.injEq] at hB;exact hT hB.2.1.symm
 have nP:∀z∈yx gs x.key y,z = y∨(z∈gs∧z.key≠x.key):=fun z hz=>by
  obtain⟨z',hz',rfl⟩:=List.mem_map.1 hz;by_cases e:z'.key=x.key
  ·exact .inl (by simp only[e,if_true])
  ·exact .inr ⟨by simp only[e,if_false];exact hz',by simp only[e,if_false];exact fun e2=>(e e2).elim⟩
 refine⟨h.blk.aO hg (hne _ _ _ h.blk (Ne.symm ht1)),?_,by rw[uM hx h.nd rfl hk];exact h.nd,by rw[uM hx h.nd rfl hgb];exact h.gnd,by rw[uM hx h.nd rfl hcb];exact h.cnd,fun z hz=> ?_,fun z hz=> ?_,fun z hz=> ?_,h.ege,h.YK⟩
 ·obtain⟨n,h1,h2⟩:=h.map;refine⟨n,ω,?_⟩;have:pO (yx gs x.key y)=pO gs:=uM (f:=fun x=>(x.key,x.gb)) hx h.nd rfl (by rw[hk,hgb]);rw[this];exact h2.kept hg (fun e=>by injection e with e;exact h2.aX _ _ _ (by rw[e];exact hBm))
 ·rcases nP z hz with rfl | ⟨hz1,hz2⟩
  ·exact hy
  ·have hz3:=h.at_ z hz1;have hzx:z≠x:=fun e=>hz2 (by rw[e])
   refine hz3.aO hg (fun e=> ?_) (fun e=> ?_) (fun m' hm' cur te fz hc e=> ?_)
   ·injection e with e
    rcases hm with hm | hm
    ·exact hzx (qK h.gnd hz1 hx (by rw[e,hm]))
    ·rw[hm] at e;have h3:=hz3.blk;rw[e] at h3;have h4:=hx1.jC.blk;unfold aF at h3 h4;rw[h3] at h4;simp only[Option.some.injEq,Obj.cells.injEq] at h4;have h5:=h4.2.1;revert h5;decide
   ·injection e with e
    rcases hm with hm | hm
    ·rw[hm] at e;have h3:=hz3.jC.blk;rw[e] at h3;have h4:=hx1.blk;unfold aF at h3 h4;rw[h3] at h4;simp only[Option.some.injEq,Obj.cells.injEq] at h4;have h5:=h4.2.1;revert h5;decide
    ·exact hzx (qK h.cnd hz1 hx (by rw[e,hm]))
   ·injection hm' with hm';subst hm'
    unfold aF at hBm;rw[hBm] at hc;simp only[Option.some.injEq,Obj.cells.injEq] at hc;rw[←hc.2.1] at e;exact ht2 e
 ·rcases nP z hz with rfl | ⟨hz1,_⟩
  ·exact ap1
  ·exact Nat.le_trans (h.num z hz1) hB
 ·rcases nP z hz with rfl | ⟨hz1,_⟩
  ·exact abm
  ·exact h.jC z hz1
theorem dM.put (h:dM w base ge b rec now B gs) {y:GX} (hB:B+1≤1000000) (hy:vW w base y) (hno:fJ (pO gs) y.key=none) (hgb:∀x∈gs,x.gb≠y.gb) (hcb:∀x∈gs,x.cb≠y.cb) (ap1:y.g.number≤B+1) (abm:y.g.jC.now≤now) :
 ∃w',(Instr.mapUpdate 116 (.map (some b)) (.string ⟨y.key.toArray⟩) (.pointer (some ⟨y.gb,0,none⟩))).run Tryz.prog w =.ok () w'∧dM w' base ge b rec now (B+1) (gs++[y])∧w.grownBy w' (some b):=by
 obtain⟨n,h1,h2⟩:=h.map;obtain⟨w',hr,hM,hg⟩:=h2.put ω (by have:=hy.kl;omega) hno y.gb;have hne:∀(g:Nat) te cs,aF w g te cs→some g≠some b:=fun g te cs hB e=>by injection e with e;subst e;exact h2.aX _ _ _ hB
 have hk:∀x,vW w base x→vW w' base x:=fun x hx=>hx.aO hg (hne _ _ _ hx.blk) (hne _ _ _ hx.jC.blk) (fun m hm cur te fz hc=>by injection hm with hm;subst hm;exact (h2.aX _ _ _ hc).elim)
 have hkey:∀x∈gs,x.key≠y.key:=fun x hx e=>by
  have:fJ (pO gs) y.key=some x.gb:=vF (by unfold pO;rw[List.map_map];exact h.nd) (List.mem_map.2 ⟨x,hx,by rw[e]⟩);rw[hno] at this;cases this
 have hnd:∀{β:Type} (f:GX→β),(gs.map f).Nodup→(∀x∈gs,f x≠f y)→((gs++[y]).map f).Nodup:=fun f hn hf=>by
  rw[List.map_append,List.nodup_append];refine⟨hn,by simp,fun a ha c hc=> ?_⟩;obtain⟨x,hx,rfl⟩:=List.mem_map.1 ha;simp only[List.map_cons,List.map_nil,List.mem_singleton] at hc;subst hc;exact hf x hx
 refine⟨w',hr,⟨h.blk.aO hg (hne _ _ _ h.blk),⟨n + 1,ω,?_⟩,hnd _ h.nd hkey,hnd _ h.gnd hgb,hnd _ h.cnd hcb,?_,?_,?_,h.ege,h.YK⟩,hg⟩
 ·unfold pO;rw[List.map_append];exact hM
 ·intro x hx;rcases List.mem_append.1 hx with h3 | h3
  ·exact hk x (h.at_ x h3)
  ·rw[List.mem_singleton] at h3;subst h3;exact hk _ hy
 ·intro x hx;rcases List.mem_append.1 hx with h3 | h3
  ·exact Nat.le_succ_of_le (h.num x h3)
  ·rw[List.mem_singleton] at h3;subst h3;exact ap1
 ·intro x hx;rcases List.mem_append.1 hx with h3 | h3
  ·exact h.jC x h3
  ·rw[List.mem_singleton] at h3;subst h3;exact abm
end
theorem MS {gs:List GX} (hn:(gs.map (·.key)).Nodup) {x:GX} (hx:x∈gs):um (dJ gs) x.key=some x.g:=by
 have:um (dJ gs) x.key=fJ (dJ gs) x.key:=rfl;rw[this];exact vF (by unfold dJ;rw[List.map_map];exact hn) (List.mem_map.2 ⟨x,hx,rfl⟩)
theorem afA {gs:List GX} {k:List UInt8} (h:fJ (pO gs) k=none):um (dJ gs) k=none:=by
 refine zT fun x hx e=> ?_
 obtain⟨z,hz,rfl⟩:=List.mem_map.1 hx;unfold fJ at h;rw[Option.map_eq_none_iff,List.find?_eq_none] at h;have:=h (z.key,z.gb) (List.mem_map.2 ⟨z,hz,rfl⟩);simp only[decide_eq_true_eq] at this;exact this e
theorem N7 {gs:List GX} {k:List UInt8} {n:Nat} (h:fJ (pO gs) k=some n):∃x∈gs,x.key=k∧x.gb=n:=by
 have:=Ju h;obtain⟨x,hx,e⟩:=List.mem_map.1 this;injection e with e1 e2
 exact⟨x,hx,e1,e2⟩
theorem NI {gs:List GX} (hn:(gs.map (·.key)).Nodup) {x y:GX} (hx:x∈gs) (hk:y.key=x.key):dJ (yx gs x.key y)=qG (dJ gs) x.key y.g:=by
 unfold qG;rw[MS hn hx];simp only[Option.isSome_some,if_true];unfold yx dJ;rw[List.map_map,List.map_map];apply List.map_congr_left;intro z hz;simp only[Function.comp_apply];split
 ·rw[hk]
 ·rfl
theorem nJ.next {S:Nat→Prop} {a b c:World} {row:Option Nat} (h:nJ S a b) (hg:b.grownBy c row) (hr:∀k,row=some k→S k∨a.heap.size≤k):nJ S a c:=
 ⟨hg.os.trans h.os,hg.tape.trans h.tape,hg.output.trans h.output,Nat.le_trans h.size hg.size,fun j hj hn=>(hg.block j (Nat.lt_of_lt_of_le hj h.size) (fun e=>by rcases hr j e.symm with h1 | h1;exact hn h1;omega)).trans (h.block j hj hn)⟩
theorem nJ.iw {S:Nat→Prop} {a b c:World} (h:nJ S a b) (hg:ah b c):nJ S a c:=h.trans (hg.off S)
theorem dF.row {w w':World} {base:Nat} {x:fG} {row:Option Nat} (h:dF w base x) (hg:w.grownBy w' row) (ht:∀m,row=some m→∀cur te fz,w.heap[m]? = some (.cells cur te fz)→te≠88∧te≠65):dF w' base x:=
 ⟨h.fH.kept' hg (fun j hj hv=>by obtain⟨cur,hc⟩:=bV h.fH hv;exact (ht j hj _ _ _ hc).1 rfl),h.ts.kept' hg (fun j hj hv=>by obtain⟨cur,hc⟩:=bV h.ts hv;exact (ht j hj _ _ _ hc).2 rfl),
  fun y hy=>(h.at_ y hy).fH hg (fun j hj hv=>by obtain⟨cur,hc⟩:=bV (h.at_ y hy).1 hv;exact (ht j hj _ _ _ hc).1 rfl),h.ble,h.RD,h.tle⟩
def agp:List TypeId:=[130,180,53,64]
structure tX (T:List TypeId) (w w':World):Prop where
 size:w.heap.size≤w'.heap.size
 kept:∀(g:Nat) (cur:Array Value) (te:TypeId) (fz:Nat×Nat),w.heap[g]? = some (Obj.cells cur te fz)→te∉T→w'.heap[g]? = w.heap[g]?
theorem tX.refl (T:List TypeId) (w:World):tX T w w:=⟨Nat.le_refl _,fun _ _ _ _ _ _=>rfl⟩
theorem tX.trans {T:List TypeId} {a b c:World} (h:tX T a b) (k:tX T b c):tX T a c:=⟨Nat.le_trans h.size k.size,fun g cur te fz hg ht=>(k.kept g cur te fz ((h.kept g cur te fz hg ht).trans hg) ht).trans (h.kept g cur te fz hg ht)⟩
theorem tX.grows {T:List TypeId} {a b:World} (hg:ah a b):tX T a b:=⟨hg.size,fun g _ _ _ h _=>hg.below.block g (Cj h)⟩
theorem tX.row {T:List TypeId} {w w':World} {row:Option Nat} (hg:w.grownBy w' row) (ht:∀m,row=some m→∀cur te fz,w.heap[m]? = some (.cells cur te fz)→te∈T):tX T w w':=
 ⟨hg.size,fun g cur te fz h hn=>hg.block g (Cj h) (fun e=>hn (ht g e.symm cur te fz h))⟩
theorem tX.own {α:Type} {T:List TypeId} {w w':World} {b0 k:Nat} {e:TypeId} {enc:α→List Value} {v:Value} {xs:List α} (h:Own w b0 e k enc v xs) (hT:tX T w w') (he:e∉T):Own w' b0 e k enc v xs:=by
 refine⟨h.1,?_⟩;rcases h.2 with h2 | ⟨g,cap,cur,hv,hb,hh,r⟩
 ·exact .inl h2
 ·exact .inr ⟨g,cap,cur,hv,hb,(hT.kept g _ _ _ hh he).trans hh,r⟩
theorem tX.blk {T:List TypeId} {g:Nat} {a b:World} {te:TypeId} {cs:Array Value} (h:tX T a b) (hb:aF a g te cs) (ht:te∉T):aF b g te cs:=(h.kept g _ _ _ hb ht).trans hb
structure nY (S:Nat→Prop) (w0 W:World) (pc:Array Value) (ge ab:Nat) (now:Int) (oA:Option Addr) (om ok:Nat) (ys:List dA) (g1 g2 g3 g4 g5 g6:Nat) (v:Value) (ls:List fG):Prop where
 off:nJ S w0 W
 b1:aF W g1 51 #[.pointer (some ⟨ge,0,none⟩)]
 b2:aF W g2 50 pc
 b3:aF W g3 122 #[.map (some ab)]
 b4:aF W g4 3 #[.int .i64 now]
 b5:aF W g5 59 #[.slice oA om ok]
 b6:aF W g6 53 #[v]
 g6n:w0.heap.size≤g6
 own:Own W w0.heap.size 57 6 tq (.slice oA om ok) ys
 out:Own W w0.heap.size 64 6 jY v ls
 outs:∀x∈ls,dF W w0.heap.size x
theorem nY.o {S:Nat→Prop} {w0 W:World} {pc:Array Value} {ge ab:Nat} {now:Int} {oA:Option Addr} {om ok:Nat} {ys:List dA} {g1 g2 g3 g4 g5 g6:Nat} {v:Value} {ls:List fG} (h:nY S w0 W pc ge ab now oA om ok ys g1 g2 g3 g4 g5 g6 v ls):Own W w0.heap.size 64 6 jY v ls:=h.out
section
variable {S:Nat→Prop} {w0 W W':World} {pc:Array Value} {ge ab:Nat} {now:Int} {oA:Option Addr} {om ok:Nat} {ys:List dA} {g1 g2 g3 g4 g5 g6:Nat} {v:Value} {ls:List fG}
theorem nY.grows (h:nY S w0 W pc ge ab now oA om ok ys g1 g2 g3 g4 g5 g6 v ls) (hg:ah W W'):nY S w0 W' pc ge ab now oA om ok ys g1 g2 g3 g4 g5 g6 v ls:=
 ⟨h.off.iw hg,h.b1.grows hg,h.b2.grows hg,h.b3.grows hg,h.b4.grows hg,h.b5.grows hg,h.b6.grows hg,h.g6n,h.own.grows hg,h.o.grows hg,fun x hx=>(h.outs x hx).grows hg⟩
theorem nY.turn (h:nY S w0 W pc ge ab now oA om ok ys g1 g2 g3 g4 g5 g6 v ls) {m:Nat} (hg:W.grownBy W' (some m)) (hm:S m∨w0.heap.size≤m) (ht:∀cur te fz,W.heap[m]? = some (.cells cur te fz)→te=130∨te=180):nY S w0 W' pc ge ab now oA om ok ys g1 g2 g3 g4 g5 g6 v ls:=by
 have hne:∀(g:Nat) te cs,aF W g te cs→te≠130→te≠180→some g≠some m:=fun g te cs hB h1 h2 e=>by
  injection e with e;subst e
  rcases ht _ _ _ hB with h3 | h3
  ·exact h1 h3
  ·exact h2 h3
 have hO:∀{α:Type} {k:Nat} {e:TypeId} {enc:α→List Value} {u:Value} {xs:List α},Own W w0.heap.size e k enc u xs→e≠130→e≠180→Own W' w0.heap.size e k enc u xs:=fun hO h1 h2=>
  hO.kept' hg (fun j hj hv=>by obtain⟨cur,hc⟩:=bV hO hv;exact hne j _ _ hc h1 h2 (by rw[hj]))
 refine⟨h.off.next hg (fun k hk=>by injection hk with hk;subst hk;exact hm),h.b1.aO hg (hne _ _ _ h.b1 δ δ),h.b2.aO hg (hne _ _ _ h.b2 δ δ),h.b3.aO hg (hne _ _ _ h.b3 δ δ),h.b4.aO hg (hne _ _ _ h.b4 δ δ),h.b5.aO hg (hne _ _ _ h.b5 δ δ),h.b6.aO hg (hne _ _ _ h.b6 δ δ),h.g6n,hO h.own δ δ,hO h.o δ δ,fun x hx=>(h.outs x hx).row hg (fun j hj cur te fz hc=> ?_)⟩;injection hj with hj;subst hj
 rcases ht _ _ _ hc with rfl | rfl <;> constructor <;> decide
end
def vV (S:Nat→Prop) (w0:World) (gs:List GX):Prop:=∀x∈gs,(S x.gb∨w0.heap.size≤x.gb)∧(S x.cb∨w0.heap.size≤x.cb)
theorem vV.upd {S:Nat→Prop} {w0:World} {gs:List GX} (h:vV S w0 gs) {k:List UInt8} {x y:GX} (hx:x∈gs) (h1:y.gb=x.gb) (h2:y.cb=x.cb):vV S w0 (yx gs k y):=fun z hz=>by
 obtain⟨z',hz',rfl⟩:=List.mem_map.1 hz;split
 ·rw[h1,h2];exact h x hx
 ·exact h z' hz'
theorem vV.put {S:Nat→Prop} {w0:World} {gs:List GX} (h:vV S w0 gs) {y:GX} (h1:w0.heap.size≤y.gb) (h2:w0.heap.size≤y.cb):vV S w0 (gs++[y]):=fun z hz=>by
 rcases List.mem_append.1 hz with h3 | h3
 ·exact h z h3
 ·rw[List.mem_singleton] at h3;subst h3;exact⟨.inr h1,.inr h2⟩
def oP (W:World) (ab B:Nat) (asked:List (List UInt8)):Prop:=∃n,n≤B∧iV Tryz.prog 9 4 W ab n (asked.map fun k=>(k,Lit.bool true))
theorem oP.kept {W W':World} {ab B:Nat} {asked:List (List UInt8)} {row:Option Nat} (h:oP W ab B asked) (hg:W.grownBy W' row) (hne:some ab≠row):oP W' ab B asked:=by
 obtain⟨n,h1,h2⟩:=h;exact⟨n,h1,h2.kept hg hne⟩
theorem oP.grows {W W':World} {ab B:Nat} {asked:List (List UInt8)} (h:oP W ab B asked) (hg:ah W W'):oP W' ab B asked:=h.kept (hg.keeps none) σ
theorem oP.aX {W:World} {ab B:Nat} {asked:List (List UInt8)} (h:oP W ab B asked):∀cur e fz,W.heap[ab]?≠some (.cells cur e fz):=by
 obtain⟨n,_,es,clock,hb,_⟩:=h;intro cur e fz hc;rw[hb] at hc;cases hc
def adt (mk:m_→Int→Option Nj) (p:bU) (S:Nat→Prop) (w0 W:World) (base:Nat) (rec:List UInt8) (ge b ab B:Nat) (now:Int) (oA:Option Addr) (om ok:Nat) (ys:List dA) (g1 g2 g3 g4 g5 g6:Nat) (gs:List GX) (asked:List (List UInt8)) (ls:List fG) (x:m_) (e:Ending) (W':World):Prop:=
 e =.returned (.tuple #[])∧∃(gs':List GX) (v':Value) (QU:List fG),nY S w0 W' p.cells.toArray ge ab now oA om ok ys g1 g2 g3 g4 g5 g6 v' QU∧dM W' base ge b rec now (B+1) gs'∧vV S w0 gs'∧oP W' ab (B+1) (asked++[dn x.route x.fH])∧QU.length≤B+1∧tX agp W W'∧
  dJ gs'=(J5 mk p.aU now ⟨dJ gs,asked,ls.map (·.yc)⟩ x).gs∧QU.map (·.yc)=(J5 mk p.aU now ⟨dJ gs,asked,ls.map (·.yc)⟩ x).out
theorem afz {gs:List (List UInt8×Ar)} {k:List UInt8} {g:Ar} (h:um gs k=none):um (gs++[(k,g)]) k=some g:=by
 have h1:fJ gs k=none:=h;have:um (gs++[(k,g)]) k=fJ (gs++[(k,g)]) k:=rfl;rw[this,zS h1,if_pos rfl]
theorem Tt {gs:List (List UInt8×Ar)} {k:List UInt8} (h:um gs k=none):∀x∈gs,x.1≠k:=by
 unfold um at h;rw[Option.map_eq_none_iff,List.find?_eq_none] at h;exact fun x hx e=>h x hx (by simpa using e)
theorem adV {gs:List (List UInt8×Ar)} {k:List UInt8} {g g':Ar} (h:um gs k=none):qG (gs++[(k,g)]) k g'=qG gs k g':=by
 unfold qG;rw[afz h,h];simp only[Option.isSome_some,Option.isSome_none,if_true,Bool.false_eq_true,if_false];rw[List.map_append];congr 1
 ·rw[show gs=gs.map id by simp,List.map_map];apply List.map_congr_left;intro x hx;simp only[Function.comp_apply,id];rw[if_neg (Tt h x (by simpa using hx))]
 ·simp
theorem RY {gs:List (List UInt8×Ar)} {k:List UInt8} {g g':Ar} (h:(um gs k).isSome):qG (qG gs k g) k g'=qG gs k g':=by
 have e1:qG gs k g = gs.map (fun x=>if x.1=k then (k,g) else x):=by unfold qG;rw[if_pos h]
 have e2:qG gs k g'=gs.map (fun x=>if x.1=k then (k,g') else x):=by unfold qG;rw[if_pos h]
 have h3:(um (gs.map (fun x=>if x.1=k then (k,g) else x)) k).isSome:=by
  cases hn:um (gs.map (fun x=>if x.1=k then (k,g) else x)) k with
  | some _=>rfl
  | none=>
   have h4:=Tt hn;cases hk:um gs k with
   | none=>rw[hk] at h;cases h
   | some g0=>
    have:(k,g0)∈gs:=Ju (show fJ gs k=some g0 from hk);exact absurd (by simp:((if (k,g0).1=k then (k,g) else (k,g0)):List UInt8×Ar).1=k) (h4 _ (List.mem_map.2 ⟨(k,g0),this,rfl⟩))
 rw[e1,e2];unfold qG;rw[if_pos h3,List.map_map];apply List.map_congr_left;intro x _;simp only[Function.comp_apply];by_cases e:x.1=k <;> simp[e]
theorem Own.Sz {α:Type} {w w':World} {m b0 k:Nat} {e:TypeId} {enc:α→List Value} {v:Value} {xs:List α} (h:Own w b0 e k enc v xs) (hg:w.grownBy w' (some m)) (hm:∀cur te fz,w.heap[m]?≠some (.cells cur te fz)):Own w' b0 e k enc v xs:=
 h.kept' hg (fun j hj hv=>by injection hj with hj;subst hj;obtain⟨cur,hc⟩:=bV h hv;exact hm _ _ _ hc)
theorem aF.lG {w:World} {g:Nat} {t te:TypeId} {cs cur:Array Value} {fz:Nat×Nat} (h:aF w g t cs) (hc:w.heap[g]? = some (.cells cur te fz)):te=t:=by
 unfold aF at h;rw[h] at hc;simp only[Option.some.injEq,Obj.cells.injEq] at hc;exact hc.2.1.symm
theorem aF.Ku {w:World} {g g':Nat} {t t':TypeId} {cs cs':Array Value} (h:aF w g t cs) (h':aF w g' t' cs') (hn:t≠t'):g≠g':=fun e=>by subst e;exact hn (h'.lG h)
theorem Own.uN {α:Type} {w:World} {base k m c:Nat} {e:TypeId} {enc:α→List Value} {A:Option Addr} {xs:List α} (h:Own w base e k enc (.slice A m c) xs) (hk:∀x,(enc x).length=k):bW w k enc A m xs:=by
 obtain⟨A',c',he,-,-,hX⟩:=h.arr hk;simp only[Value.slice.injEq] at he;obtain⟨rfl,rfl,rfl⟩:=he;exact hX
theorem abf (x:dA):(tq x).length=6:=rfl
theorem acG {gs:List GX} {x y:GX} (hx:x∈gs):y∈yx gs x.key y:=List.mem_map.2 ⟨x,hx,by simp⟩
theorem arh:eX Tryz.prog 53 64 6 96:=eX.mk' (z:=.agg #[.string ⟨#[]⟩,.string ⟨#[]⟩,.int .i64 0,.int .i64 0,.slice none 0 0,.slice none 0 0]) Tryz.underlying53 κ rfl ω
theorem aip (x:fG):∀u∈jY x,u.oneCell'=true:=by
 intro u hu;simp only[jY,List.mem_cons,List.not_mem_nil,or_false] at hu;rcases hu with rfl | rfl | rfl | rfl | rfl | rfl <;> rfl
theorem SB (o:Option fG):∃(s1 s2:ByteArray) (n t:Int) (A:Option Addr) (m k:Nat) (A':Option Addr) (m' k':Nat),apB o = #[.string s1,.string s2,.int .i64 n,.int .i64 t,.slice A m k,.slice A' m' k']:=by
 cases o with
 | none=>exact⟨_,_,_,_,_,_,_,_,_,_,rfl⟩
 | some x=>exact⟨_,_,_,_,_,_,_,_,_,_,rfl⟩
theorem nY.push {S:Nat→Prop} {w0 W W1:World} {pc:Array Value} {ge ab:Nat} {now:Int} {oA:Option Addr} {om ok:Nat} {ys:List dA} {g1 g2 g3 g4 g5 g6:Nat} {v v':Value} {ls:List fG} {z:fG} (h:nY S w0 W pc ge ab now oA om ok ys g1 g2 g3 g4 g5 g6 v ls)
 (hO:Own W1 w0.heap.size 64 6 jY v' (ls++[z])) (hg:W.grownBy W1 v.ownBlock) (hz:dF W w0.heap.size z):nY S w0 (W1.setCell ⟨g6,0,none⟩ v') pc ge ab now oA om ok ys g1 g2 g3 g4 g5 g6 v' (ls++[z]):=by
 have MP:∀m,v.ownBlock=some m→w0.heap.size≤m∧∃cs,aF W m 64 cs:=h.o.nV;have hne:∀{g:Nat} {te:TypeId} {cs:Array Value},aF W g te cs→te≠64→some g≠v.ownBlock:=fun hB h1 e=>by
  obtain⟨cs,h2⟩:=(MP _ e.symm).2;exact hB.Ku h2 h1 rfl
 have hOk:∀{α:Type} {k:Nat} {e:TypeId} {enc:α→List Value} {u:Value} {xs:List α},Own W w0.heap.size e k enc u xs→e≠64→Own W1 w0.heap.size e k enc u xs:=fun hO h1=>
  hO.kept' hg (fun j hj hv=>by obtain⟨cs,h2⟩:=(MP j hj).2;exact aZ hO h2 h1 hv)
 have b6:=h.b6.aO hg (hne h.b6 δ);have hs:=aj W1 ⟨g6,0,none⟩ v';have Q9:∀{g:Nat} {te:TypeId} {cs:Array Value},aF W1 g te cs→te≠53→some g≠some g6:=fun hB h1 e=>by injection e with e;exact hB.Ku b6 h1 e
 have avr:∀{α:Type} {k:Nat} {e:TypeId} {enc:α→List Value} {u:Value} {xs:List α},Own W1 w0.heap.size e k enc u xs→e≠53→Own (W1.setCell ⟨g6,0,none⟩ v') w0.heap.size e k enc u xs:=fun hO h1=>
  hO.kept' hs (fun j hj hv=>by injection hj with hj;subst hj;exact aZ hO b6 h1 hv)
 have hB:∀{g:Nat} {te:TypeId} {cs:Array Value},aF W g te cs→te≠64→te≠53→aF (W1.setCell ⟨g6,0,none⟩ v') g te cs:=fun hB h1 h2=>(hB.aO hg (hne hB h1)).aO hs (Q9 (hB.aO hg (hne hB h1)) h2)
 have hL:∀x,dF W w0.heap.size x→dF (W1.setCell ⟨g6,0,none⟩ v') w0.heap.size x:=fun x hx=>(hx.row hg (fun m hm cur te fz hc=>by obtain⟨cs,h2⟩:=(MP m hm).2;rw[h2.lG hc];constructor <;> decide)).row hs (fun m hm cur te fz hc=>by injection hm with hm;subst hm;rw[b6.lG hc];constructor <;> decide)
 refine⟨(h.off.next hg (fun m hm=> .inr (MP m hm).1)).next hs (fun m hm=>by injection hm with hm;subst hm;exact .inr h.g6n),hB h.b1 δ δ,hB h.b2 δ δ,hB h.b3 δ δ,hB h.b4 δ δ,hB h.b5 δ δ,(b6.bD 0 v').cast σ,h.g6n,avr (hOk h.own δ) δ,avr hO δ,fun x hx=> ?_⟩;rcases List.mem_append.1 hx with h1 | h1
 ·exact hL x (h.outs x h1)
 ·rw[List.mem_singleton] at h1;subst h1;exact hL _ hz
theorem aan {S:Nat→Prop} {w0 W W1:World} {pc:Array Value} {ge ab:Nat} {now:Int} {oA:Option Addr} {om ok:Nat} {ys:List dA} {g1 g2 g3 g4 g5 g6:Nat} {v:Value} {ls:List fG} (h:nY S w0 W pc ge ab now oA om ok ys g1 g2 g3 g4 g5 g6 v ls) (hg:W.grownBy W1 v.ownBlock) (v':Value) :
 (∀m,v.ownBlock=some m→∀cur te fz,W.heap[m]? = some (.cells cur te fz)→te=64)∧(∀m,some g6=some m→∀cur te fz,W1.heap[m]? = some (.cells cur te fz)→te=53)∧W1.grownBy (W1.setCell ⟨g6,0,none⟩ v') (some g6)∧
 (∀m,(∀cur te fz,W.heap[m]?≠some (.cells cur te fz))→some m≠v.ownBlock)∧(∀m,m < W.heap.size→(∀cur te fz,W.heap[m]?≠some (.cells cur te fz))→some m≠some g6):=by
 have MP:∀m,v.ownBlock=some m→w0.heap.size≤m∧∃cs,aF W m 64 cs:=h.o.nV;refine⟨fun m hm cur te fz hc=> ?_,fun m hm cur te fz hc=> ?_,aj _ _ _,fun m hm e=> ?_,fun m _ hm e=> ?_⟩
 ·obtain⟨cs,h2⟩:=(MP m hm).2;exact h2.lG hc
 ·injection hm with hm;subst hm
  exact (h.b6.aO hg (fun e=>by obtain⟨cs,h2⟩:=(MP _ e.symm).2;exact h.b6.Ku h2 δ rfl)).lG hc
 ·obtain⟨cs,h2⟩:=(MP m e.symm).2;exact hm _ _ _ h2
 ·injection e with e;subst e;exact hm _ _ _ h.b6
theorem agn {mk:m_→Int→Option Nj} {p:fU} {now:Int} {gs:List (List UInt8×Ar)} {asked:List (List UInt8)} {lt:List Nj} {xr xk:Nat} {Gs:List bK} {kS:List Nat} {k:List UInt8} {g:Ar} (Ic:dn xr Gs=k) (h2:(um gs k).getD (QO p xr)=g) :
 J5 mk p now ⟨gs,asked,lt⟩ ⟨xr,Gs,xk,kS⟩=⟨qG gs k (WQ g now kS),asked++[k],if CJ g.jC now kS then lt++(mk ⟨xr,Gs,xk,kS⟩ ((g.number:Int)+1)).toList else lt⟩:=by
 subst Ic;rw[←h2];rfl
theorem qY {mk:m_→Int→Option Nj} {p:bU} {S:Nat→Prop} {w0 W W':World} {base:Nat} {rec:List UInt8} {ge b ab B:Nat} {now:Int} {oA:Option Addr} {om ok:Nat} {ys:List dA} {g1 g2 g3 g4 g5 g6:Nat} {gs gs':List GX} {asked:List (List UInt8)} {v':Value} {ls QU:List fG} {xr xk:Nat} {Gs:List bK} {kS:List Nat} {k:List UInt8} {g:Ar} (Ic:dn xr Gs=k) (h2:(um (dJ gs) k).getD (QO p.aU xr)=g)
 (EL:nY S w0 W' p.cells.toArray ge ab now oA om ok ys g1 g2 g3 g4 g5 g6 v' QU) (hE:dM W' base ge b rec now (B+1) gs') (LY:vV S w0 gs') (hA:oP W' ab (B+1) (asked++[k])) (hll:QU.length≤B+1) (hT:tX agp W W')
 (ny:dJ gs'=qG (dJ gs) k (WQ g now kS)) (hls:QU.map (·.yc)=if CJ g.jC now kS then ls.map (·.yc)++(mk ⟨xr,Gs,xk,kS⟩ ((g.number:Int)+1)).toList else ls.map (·.yc)) :
 adt mk p S w0 W base rec ge b ab B now oA om ok ys g1 g2 g3 g4 g5 g6 gs asked ls ⟨xr,Gs,xk,kS⟩ (.returned (.tuple #[])) W':=by
 have hp:=agn (mk:=mk) (p:=p.aU) (now:=now) (asked:=asked) (lt:=ls.map (·.yc)) (xk:=xk) (kS:=kS) Ic h2;refine⟨rfl,gs',v',QU,EL,hE,LY,by simp only[Ic];exact hA,hll,hT,?_,?_⟩
 ·rw[hp];exact ny
 ·rw[hp];exact hls
theorem RH {n B:Nat} (h:n≤B) (hB:B+1≤1000000):wrap64 ((n:Int)+1)=(n:Int)+1:=Go.IntWalk.wrap64_in _ ⟨ω,ω⟩
theorem akt {x:GX} {n B:Nat} (h:x.g.number=n) (hn:n≤B):x.g.number+1≤B+1:=ω
theorem dM.count {S:Nat→Prop} {w0 w:World} {base ge b B:Nat} {rec:List UInt8} {now:Int} {gs:List GX} (h:dM w base ge b rec now B gs) (hN:vV S w0 gs) {x:GX} (hx:x∈gs) (hn:x.g.number+1≤B) :
 ∃gs',dM (w.setCell ⟨x.gb,8,none⟩ (.int .i64 ((x.g.number:Int)+1))) base ge b rec now B gs'∧vV S w0 gs'∧dJ gs'=qG (dJ gs) x.key {x.g with number:=x.g.number+1}:=by
 have hg:=aj w ⟨x.gb,8,none⟩ (.int .i64 ((x.g.number:Int)+1));have hx1:=h.at_ x hx;have hy:vW (w.setCell ⟨x.gb,8,none⟩ (.int .i64 ((x.g.number:Int)+1))) base {x with g:={x.g with number:=x.g.number+1}}:=
  ⟨(hx1.blk.bD 8 _).cast (by unfold L9;simp),hx1.jC.aO hg (fun e=>by injection e with e;exact hx1.jC.blk.Ku hx1.blk δ e) (fun m hm cur te fz hc=>by injection hm with hm;subst hm;rw[hx1.blk.lG hc];decide),hx1.Zl,hx1.cge,hx1.kl⟩
 exact⟨_,h.upd (y:={x with g:={x.g with number:=x.g.number+1}}) hx hg (.inl rfl) hy rfl rfl rfl hn (h.jC x hx) (Nat.le_refl _),hN.upd hx rfl rfl,NI h.nd hx rfl⟩
theorem YS {S:Nat→Prop} {w0 W0 W W1:World} {pc:Array Value} {base ge b ab B':Nat} {rec:List UInt8} {now:Int} {oA:Option Addr} {om ok:Nat} {ys:List dA} {g1 g2 g3 g4 g5 g6:Nat} {v v':Value} {ls:List fG} {z:fG} {gs:List GX} {asked:List (List UInt8)}
 (h:nY S w0 W pc ge ab now oA om ok ys g1 g2 g3 g4 g5 g6 v ls) (hE:dM W base ge b rec now B' gs) (hA:oP W ab B' asked) (hT:tX agp W0 W) (hO:Own W1 w0.heap.size 64 6 jY v' (ls++[z])) (hg:W.grownBy W1 v.ownBlock) (hz:dF W w0.heap.size z) :
 nY S w0 (W1.setCell ⟨g6,0,none⟩ v') pc ge ab now oA om ok ys g1 g2 g3 g4 g5 g6 v' (ls++[z])∧dM (W1.setCell ⟨g6,0,none⟩ v') base ge b rec now B' gs∧oP (W1.setCell ⟨g6,0,none⟩ v') ab B' asked∧tX agp W0 (W1.setCell ⟨g6,0,none⟩ v'):=by
 obtain⟨t1,t2,hs,t3,t4⟩:=aan h hg v';obtain⟨n,-,hM⟩:=hE.map;have Bl:ab<W.heap.size:=by obtain⟨n2,-,h2⟩:=hA;exact World.ownsMap.lt h2
 refine⟨h.push hO hg hz,(hE.other hg (t3 b hM.aX) (fun m hm cur te fz hc=>by rw[t1 m hm cur te fz hc];decide)).other hs (t4 b hM.lt hM.aX) (fun m hm cur te fz hc=>by rw[t2 m hm cur te fz hc];decide),
  (hA.kept hg (t3 ab hA.aX)).kept hs (t4 ab Bl hA.aX),hT.trans ((tX.row hg (fun m hm cur te fz hc=>by rw[t1 m hm cur te fz hc];decide)).trans (tX.row hs (fun m hm cur te fz hc=>by rw[t2 m hm cur te fz hc];decide)))⟩
structure akY (p:bU) (ys:List dA) (W:World):Prop where
 aU:p.At W
 at_:∀y∈ys,y.At W
 lib:oD W
 utf:oz W
theorem BF (a b:List UInt8):(Lit.string a).sameKey (.string b)=decide (a = b):=by
 by_cases h:a = b
 ·subst h;rw[WideAt.sameKey_self (yL _)];simp
 ·rw[Maps.sameKey_ne (fun e=>h (Lit.string.inj e))];simp[h]
theorem keyOf_str {key:Value} {kl:Lit} (h:keyOf Tryz.prog 9 key=some kl):∃s:List UInt8,key=.string ⟨s.toArray⟩∧kl=.string s:=by
 have hu:=Tryz.underlying9;cases key <;> simp[keyOf,hu,mapKey] at h
 rename_i s;obtain⟨h1,rfl⟩:=h;refine⟨s.data.toList,by cases s;rfl,?_⟩;try rfl
def Az (p:fU) (left:Lit→Bool) (x:GX):Bool:=left (.string x.key)||uP p x.g
theorem ane {gs:List GX} (hn:(gs.map (·.key)).Nodup) {x:GX} (hx:x∈gs):fJ (pO gs) x.key=some x.gb:=
 vF (by unfold pO;rw[List.map_map];exact hn) (List.mem_map.2 ⟨x,hx,rfl⟩)
theorem acW {D:DataW Unit} {gs:List GX} (h:AO D (pO gs)) (hn:(gs.map (·.key)).Nodup) {x:GX} (hx:x∈gs):Maps.has D (.string x.key)=true:=by
 rw[h.has,ane hn hx];rfl
theorem aaT {D:DataW Unit} {gs:List GX} (h:AO D (pO gs)) (hn:(gs.map (·.key)).Nodup) (p:fU):gs.filter (Az p (Maps.has D))=gs:=by
 rw[List.filter_eq_self];intro x hx;unfold Az;rw[acW h hn hx];rfl
theorem aiK {left:Lit→Bool} (h:∀kl,left kl=false) (p:fU) (gs:List GX):gs.filter (Az p left)=gs.filter fun x=>uP p x.g:=by
 congr 1
 funext x
 unfold Az;rw[h];rfl
theorem aeU {gs:List GX} (hn:(gs.map (·.key)).Nodup) {p:fU} {left:Lit→Bool} {x:GX} (hx:x∈gs) (hs:uP p x.g = true):gs.filter (Az p fun z=>left z && !z.sameKey (.string x.key))=gs.filter (Az p left):=by
 apply List.filter_congr;intro y hy;unfold Az;simp only[BF];by_cases e:y.key=x.key
 ·rw[qK hn hy hx e,hs];simp
 ·simp[e]
theorem aeV {gs:List GX} (hn:(gs.map (·.key)).Nodup) {p:fU} {left:Lit→Bool} {x:GX} (hx:x∈gs) (hs:uP p x.g = false) :
 gs.filter (Az p fun z=>left z && !z.sameKey (.string x.key))=(gs.filter (Az p left)).filter fun y=>decide (y.key≠x.key):=by
 rw[List.filter_filter];apply List.filter_congr;intro y hy;unfold Az;simp only[BF];by_cases e:y.key=x.key
 ·rw[qK hn hy hx e,hs];simp
 ·simp[e]
theorem afy (gs:List GX) (s:List UInt8):pO (gs.filter fun y=>decide (y.key≠s))=(pO gs).filter fun x=>decide (x.1≠s):=by
 unfold pO;rw[List.filter_map];rfl
theorem ajX {gs:List GX} (hn:(gs.map (·.key)).Nodup):((pO gs).map (·.1)).Nodup:=by unfold pO;rw[List.map_map];exact hn
theorem dM.drop {w w':World} {base ge b B:Nat} {rec:List UInt8} {now:Int} {gs:List GX} (h:dM w base ge b rec now B gs) (hg:w.grownBy w' (some b)) {q:GX→Bool} (hM:∃n,n≤B∧vX w' b n (pO (gs.filter q))):dM w' base ge b rec now B (gs.filter q):=by
 obtain⟨n0,-,hM0⟩:=h.map;have hne:∀(g:Nat) te cs,aF w g te cs→some g≠some b:=fun g te cs hB e=>by injection e with e;subst e;exact hM0.aX _ _ _ hB
 have hs:∀x,x∈gs.filter q→x∈gs:=fun x hx=>(List.mem_filter.1 hx).1
 exact⟨h.blk.aO hg (hne _ _ _ h.blk),hM,List.Nodup.sublist (List.filter_sublist.map _) h.nd,List.Nodup.sublist (List.filter_sublist.map _) h.gnd,List.Nodup.sublist (List.filter_sublist.map _) h.cnd,
  fun x hx=>(h.at_ x (hs x hx)).aO hg (hne _ _ _ (h.at_ x (hs x hx)).blk) (hne _ _ _ (h.at_ x (hs x hx)).jC.blk) (fun m hm cur te fz hc=>by injection hm with hm;subst hm;exact (hM0.aX _ _ _ hc).elim),
  fun x hx=>h.num x (hs x hx),fun x hx=>h.jC x (hs x hx),h.ege,h.YK⟩
theorem aft (gs:List GX) (p:fU):dJ (gs.filter fun x=>uP p x.g)=(dJ gs).filter fun x=>uP p x.2:=by
 unfold dJ;rw[List.filter_map];rfl
def OY (left:Lit→Bool) (asked:List (List UInt8)) (now:Int) (x:List UInt8×Ar):List UInt8×Ar:=if left (.string x.1) then x else Gg asked now x
theorem akj (asked:List (List UInt8)) (now:Int) (x:List UInt8×Ar):(Gg asked now x).1=x.1:=by unfold Gg;split <;> rfl
theorem akh (left:Lit→Bool) (asked:List (List UInt8)) (now:Int) (x:List UInt8×Ar):(OY left asked now x).1=x.1:=by unfold OY;split <;> first | rfl | exact akj _ _ _
theorem afU {L:List (List UInt8×Ar)} {left:Lit→Bool} {asked:List (List UInt8)} {now:Int} {s:List UInt8} (hl:left (.string s)=true) :
 L.map (OY (fun z=>left z && !z.sameKey (.string s)) asked now)=(L.map (OY left asked now)).map fun z=>if z.1=s then Gg asked now z else z:=by
 rw[List.map_map];apply List.map_congr_left;intro z _;simp only[Function.comp_apply,akh];unfold OY;simp only[BF];by_cases e:z.1=s
 ·subst e;simp[hl]
 ·simp[e]
theorem abQ {L:List (List UInt8×Ar)} {asked:List (List UInt8)} {now:Int} {s:List UInt8} (h:s∈asked):(L.map fun z=>if z.1=s then Gg asked now z else z)=L:=by
 conv=>rhs;rw[←List.map_id L]
 apply List.map_congr_left;intro z _;by_cases e:z.1=s
 ·rw[if_pos e];unfold Gg;rw[if_pos (by rw[e];exact h)];rfl
 ·rw[if_neg e];rfl
theorem akg {gs:List GX} (hn:(gs.map (·.key)).Nodup) {x y:GX} {asked:List (List UInt8)} {now:Int} (hx:x∈gs) (hk:y.key=x.key) (hg:y.g = {x.g with jC:=D5 x.g.jC now []}) (ha:x.key∉asked) :
 dJ (yx gs x.key y)=(dJ gs).map fun z=>if z.1=x.key then Gg asked now z else z:=by
 unfold yx dJ;rw[List.map_map,List.map_map];apply List.map_congr_left;intro z hz;simp only[Function.comp_apply];by_cases e:z.key=x.key
 ·obtain rfl:=qK hn hz hx e;rw[if_pos rfl,if_pos rfl];unfold Gg;rw[if_neg ha,hk,hg]
 ·rw[if_neg e,if_neg e]
theorem abP {D:DataW Unit} {gs:List GX} (h:AO D (pO gs)) (hn:(gs.map (·.key)).Nodup) (asked:List (List UInt8)) (now:Int):dJ gs=(dJ gs).map (OY (Maps.has D) asked now):=by
 conv=>lhs;rw[←List.map_id (dJ gs)]
 apply List.map_congr_left;intro z hz;obtain⟨x,hx,rfl⟩:=List.mem_map.1 hz;unfold OY;rw[if_pos (acW h hn hx)];rfl
theorem aki {left:Lit→Bool} (h:∀kl,left kl=false) (L:List (List UInt8×Ar)) (asked:List (List UInt8)) (now:Int):L.map (OY left asked now)=L.map (Gg asked now):=by
 apply List.map_congr_left;intro z _;unfold OY;rw[h];rfl
theorem oI {w:World} {k:TypeId} {R:Value→Option (DataW Unit×List MemPlace)} {b r n:Nat} {D:DataW Unit} {left:Lit→Bool} {cnt:Nat} (h:w.ranges Tryz.prog k R b r n D left cnt):∀cur e fz,w.heap[r]?≠some (.cells cur e fz):=by
 obtain⟨es,clock,since,seen,c0,_,_,_,_,hr,_⟩:=h;intro cur e fz hc;rw[hr] at hc;cases hc
theorem str_inj {a b:List UInt8} (h:Value.string ⟨a.toArray⟩=Value.string ⟨b.toArray⟩):a = b:=by
 injection h with h
 injection h with h
 simpa using congrArg Array.toList h
def adF (b r:Nat) (k:Nat):Prop:=k=b∨k=r
theorem akb {p:bU} {base ge b B r n g1 g2:Nat} {rec:List UInt8} {now:Int} {gs:List GX} {D:DataW Unit} {wS:World} {Q0:Exit→Act→World→Prop} {x0 x1 x2 x3 x4 x7 x8 x9 Fq ED Bd Hf EC IX Dj GU GR DV GN DT Ez Ey Ew Di Dh Df DR DN DL DK DJ DI DF DC Dz Dy Dx Dw Eu Et Es Ep Eo En Em Ej Ei Eh Ef Ee Ed He GI Fp Dv Ec Eb G_ G9 G8 GH Gz Gy Gx Fj Fh Fg Fe Gw Gv Gu Fb Fa E_ E8 E5 EZ EY EX EW IW IV IU Gt EU Ea D_ D9 D8 D7 Jd Jc G7 G6 Np KZ KY sV sU sS sQ sO sN sK sJ sH sG sF sD uI tY:Value}
 (hp:Hid (∀W,nJ (adF b r) wS W→p.At W)) (hb1:Hid (aF wS g1 51 #[.pointer (some ⟨ge,0,none⟩)])) (hb2:Hid (aF wS g2 50 p.cells.toArray)) (hE:Hid (dM wS base ge b rec now B gs)) (hrg0:wS.ranges Tryz.prog 9 yF b r n D (Maps.has D) (Maps.size D)) (hD0:Hid (AO D (pO gs))) (hn:n≤B) (hbn:∀cur te fz,wS.heap[b]?≠some (.cells cur te fz))
 (hQ0:∀c a d v w,Q0 (.panic c) (Act.put a d v) w→Q0 (.panic c) a w)
 (oK:∀(u13 u14 u41 u42 u43 u44 u45 u46 u47 u48 u49 u50 u51 u52 u53 u54:Value) (wr:World),(Hid (nJ (adF b r) wS wr)∧Hid (dM wr base ge b rec now B (gs.filter fun x=>uP p.aU x.g)))→Q0 (.exit 0) ⟨(x0::x1::x2::x3::x4::(.pointer (some ⟨g1,0,none⟩))::(.pointer (some ⟨g2,0,none⟩))::x7::x8::x9::Fq::ED::Bd::u13::u14::IX::Dj::GU::GR::DV::GN::DT::Ez::Ey::Ew::Di::Dh::Df::DR::DN::DL::DK::DJ::DI::DF::DC::Dz::Dy::Dx::Dw::(.pointer (some ⟨r,0,none⟩))::u41::u42::u43::u44::u45::u46::u47::u48::u49::u50::u51::u52::u53::u54::GI::Fp::Dv::Ec::Eb::G_::G9::G8::GH::Gz::Gy::Gx::Fj::Fh::Fg::Fe::Gw::Gv::Gu::Fb::Fa::E_::E8::E5::EZ::EY::EX::EW::IW::IV::IU::Gt::EU::Ea::D_::D9::D8::D7::Jd::Jc::G7::G6::Np::KZ::KY::sV::sU::sS::sQ::sO::sN::sK::sJ::sH::sG::sF::sD::uI::tY::[]).toArray,[]⟩ wr) :
 Code.wp Tryz.prog (zQ Tryz.f13 0) Q0 ⟨(x0::x1::x2::x3::x4::(.pointer (some ⟨g1,0,none⟩))::(.pointer (some ⟨g2,0,none⟩))::x7::x8::x9::Fq::ED::Bd::Hf::EC::IX::Dj::GU::GR::DV::GN::DT::Ez::Ey::Ew::Di::Dh::Df::DR::DN::DL::DK::DJ::DI::DF::DC::Dz::Dy::Dx::Dw::(.pointer (some ⟨r,0,none⟩))::Eu::Et::Es::Ep::Eo::En::Em::Ej::Ei::Eh::Ef::Ee::Ed::He::GI::Fp::Dv::Ec::Eb::G_::G9::G8::GH::Gz::Gy::Gx::Fj::Fh::Fg::Fe::Gw::Gv::Gu::Fb::Fa::E_::E8::E5::EZ::EY::EX::EW::IW::IV::IU::Gt::EU::Ea::D_::D9::D8::D7::Jd::Jc::G7::G6::Np::KZ::KY::sV::sU::sS::sQ::sO::sN::sK::sJ::sH::sG::sF::sD::uI::tY::[]).toArray,[]⟩ wS:=by
 conv=>arg 2;whnf
 have hqz:=hQ0;clear hqz;have hnd:=ζ hE.o.nd;have hri:=oI hrg0;have hnb:∀{g:Nat} {te:TypeId} {cs:Array Value},aF wS g te cs→¬adF b r g:=fun hB h=>by
  rcases h with rfl | rfl
  ·exact hbn _ _ _ hB
  ·exact hri _ _ _ hB
 have hn1:=hnb hb1.o;have Y6:=hnb hb2.o;have KH:=aaT hD0.o hE.o.nd p.aU;clear hnb;replace hri:=ζ hri;replace hbn:=ζ hbn;go_loopw [13,14] (fun _ _ wr=>∃(left:Lit→Bool) (cnt:Nat) (D':DataW Unit),wr.ranges Tryz.prog 9 yF b r n D' left cnt∧Hid (AO D' (pO (gs.filter (Az p.aU left))))∧Hid (dM wr base ge b rec now B (gs.filter (Az p.aU left)))∧Hid (nJ (adF b r) wS wr)) (fun _ _ wr=>wr.rangeLeft b r)
 case atStart=>exact⟨_,_,D,hrg0,by rw[KH];exact hD0,by rw[KH];exact hE,ζ (nJ.refl _ _)⟩
 case round=>
  obtain⟨left,cnt,D',hrg,hD,hEr,Tf⟩:=hrel;go_wp2_with (first
   | (at_next;refine wpList_next_ranges _ rfl _ rfl 9 zV yF (fun s:List UInt8=>Value.string ⟨s.toArray⟩) UK (fun key kl hkey=>by obtain⟨s,rfl,_⟩:=keyOf_str hkey;exact⟨s,rfl⟩) (fun v y hv=>Jm hv) b r n _ _ _ rfl hrg ?_ ?_)
   | go_in)
  ·intro _ hl0;have aQ:Hid (dM wr base ge b rec now B (gs.filter fun x=>uP p.aU x.g)):=ζ (by rw[←aiK hl0];exact hEr.o);clear hrg hD hEr hl0;go_wp2;first
    | exact⟨Tf,aQ⟩
    | exact oK _ _ _ _ _ _ _ _ _ _ _ _ _ _ _ _ ⟨Tf,aQ⟩
  ·intro x c kl yd yp w3 Yz hkey hlk hv hat hrg3 hlt hg3 hs3 hen;obtain⟨s,e1,rfl⟩:=keyOf_str hkey;obtain rfl:x = s:=str_inj e1;rw[yE] at hv;simp only[Option.some.injEq,Prod.mk.injEq] at hv;obtain⟨gb,rfl,rW⟩:=hD.o.entry (s:=x) (o:=c) (fun zd=>by rw[hat zd,←hv.1]);obtain⟨y,yM,XI,rfl⟩:=N7 rW;have apJ:=(List.mem_filter.1 yM).1;have U9:∀cur te fz,wr.heap[r]?≠some (.cells cur te fz):=oI hrg;have I7:=hEr.o.other hg3 (fun e=>by injection e with e;exact hrg.ne e.symm) (fun m hm cur te fz hc=>by injection hm with hm;subst hm;exact (U9 _ _ _ hc).elim);have iT:=Tf.o.next hg3 (fun k hk=>by injection hk with hk;subst hk;exact .inl (.inr rfl));have VZ:=I7.at_ y yM;have cS:=ζ (fun W (hW:ah w3 W)=>ah3 (g:=y.g) W (hp.o W (iT.iw hW)) (VZ.blk.grows hW));have b1:=iT.blk hb1.o hn1;have b2:=iT.blk hb2.o Y6;have q1:=b1.c0;have q1l:=b1.lt;have p0:=b2.c0;have p1:=b2.c1;have p2:=b2.c2;have p3:=b2.c3;have p4:=b2.c4;have p5:=b2.c5;have p2l:=b2.lt;unfold bU.val at cS;replace iT:=ζ iT;replace I7:=ζ I7;have hks:=ζ (fun h=>aeU (left:=left) hnd.o apJ (p:=p.aU) h);have hkd:=ζ (fun h=>aeV (left:=left) hnd.o apJ (p:=p.aU) h);rw[XI] at hks hkd;simp only[UK,Option.map_some] at hen ⊢;generalize hSR:uP p.aU y.g = SR at cS hks hkd;clear hat hv rW e1 hEr Tf hg3 hs3 b1 b2 U9 VZ hSR KH hlk apJ;go_wp2_with fail;refine (cS.out _ (ah.refl w3)).mono ?_;rintro e w4 ⟨rfl,hb4⟩;have amn:=hrg3.kept (hb4.keeps none) σ σ;have hE4:=ζ (I7.o.grows hb4);have lq:=ζ (iT.o.iw hb4);have q1':=hb4.cell q1;have aDE:=Nat.lt_of_lt_of_le q1l hb4.size;have e1:=hE4.o.blk.c1;have e1l:=hE4.o.blk.lt;clear hrg3 I7 iT q1 q1l p0 p1 p2 p3 p4 p5 p2l cS hb4;cases SR with
   | true=>
    go_wp2;go_roundw
    case rel=>exact⟨_,Yz,D',amn,ζ (by rw[hks.o σ];exact hD.o),ζ (by rw[hks.o σ];exact hE4.o),lq⟩
    case measure=>
     rw[amn.left_eq,hrg.left_eq];exact hlt
   | false=>
    go_wp2_with (first
     | (at_delete;refine wpList_delete_ranges _ rfl _ _ _ _ rfl _ zV Tryz.underlying116 yF b r n _ _ _ rfl amn (.string ⟨x.toArray⟩) (.string x) rfl hkey ?_;intro w5 aGi JD hle hturn)
     | go_in)
    go_simp;go_roundw
    case rel=>
     rw[Maps.strike_twice] at JD;have hD5:=hD.o.del (amn.owns.tidy zV) (ajX hE4.o.nd) x;rw[←afy,←hkd.o σ] at hD5;have Yc:=hE4.o.drop (q:=fun y=>decide (y.key≠x)) hturn.grown ⟨n,hn,_,JD.owns,by rw[←hkd.o σ];exact hD5⟩;rw[←hkd.o σ] at Yc;exact⟨_,_,_,JD,ζ hD5,ζ Yc,ζ (lq.o.next hturn.grown (fun k hk=>by injection hk with hk;subst hk;exact .inl (.inl rfl)))⟩
    case measure=>
     rw[JD.left_eq,hrg.left_eq];omega
theorem an3 (x:dA):∀u∈tq x,u.oneCell'=true:=by
 intro u hu;simp only[tq,List.mem_cons,List.not_mem_nil,or_false] at hu;rcases hu with rfl | rfl | rfl | rfl | rfl | rfl <;> rfl
theorem aoO:eX Tryz.prog 59 57 6 72:=eX.mk' (z:=.agg #[.string ⟨#[]⟩,.slice none 0 0,.int .i64 0,.int .u32 0,.int .i64 0,.int .i64 0]) Tryz.underlying59 κ rfl ω
theorem aij {xs:List dA} {X:List Nat} {k j:Nat} {y:dA} (hx:X[k]? = some j) (hy:xs[j]? = some y):(X.take (k+1)).filterMap (fun k=>xs[k]?)=(X.take k).filterMap (fun k=>xs[k]?)++[y]:=by
 rw[List.take_add_one,hx,List.filterMap_append];simp[hy]
theorem aj_ {g5 lm lk c60:Nat} {lA A60:Option Addr} {xs:List dA} {X:List Nat} {wS:World} {Q0:Exit→Act→World→Prop} {x0 x1 x3 x4 x5 x6 x7 x8 x9 Fq ED Bd Hf EC Dj GU GR DV GN DT Ez Ey Ew Di Dh Df DR DN DL DK DJ DI DF DC Dz Dy Dx Dw GK Eu Et Es Ep Eo En Em Ej Ei Eh Ef Ee Ed He GI Fp Dv Ec Eb GH Gz Gy Gx Fj Fh Fg Fe Gw Gv Gu Fb Fa E_ E8 E5 EZ EY EX EW IW IV IU Gt EU Ea D_ D9 D8 D7 Jd Jc G7 G6 Np KZ KY sV sU sS sQ sO sN sK sJ sH sG sF sD uI tY:Value}
 (hX:Hid (∀W,nJ (fun j=>j = g5) wS W→bW W 1 encI A60 X.length X)) (hA:Hid (∀W,nJ (fun j=>j = g5) wS W→bW W 6 tq lA lm xs)) (Ih:Hid (∀k∈X,k<lm)) (OD:Hid (aF wS g5 59 #[.slice none 0 0])) (hXl:X.length≤1000000)
 (hQ0:∀c a d v w,Q0 (.panic c) (Act.put a d v) w→Q0 (.panic c) a w)
 (oK:∀(u17 u62 u63 u64 u65 u66 u67 u68 u69 u70 u71 u72 u73:Value) (wr:World),(∃(v:Value) (ys:List dA),Hid (aF wr g5 59 #[v])∧Hid (Own wr wS.heap.size 57 6 tq v ys)∧Hid (ys=X.filterMap fun k=>xs[k]?)∧Hid (nJ (fun j=>j = g5) wS wr))→Q0 (.exit 2) ⟨(x0::x1::(.slice lA lm lk)::x3::x4::x5::x6::x7::x8::x9::Fq::ED::Bd::Hf::EC::(.pointer (some ⟨g5,0,none⟩))::Dj::u17::GR::DV::GN::DT::Ez::Ey::Ew::Di::Dh::Df::DR::DN::DL::DK::DJ::DI::DF::DC::Dz::Dy::Dx::Dw::GK::Eu::Et::Es::Ep::Eo::En::Em::Ej::Ei::Eh::Ef::Ee::Ed::He::GI::Fp::Dv::Ec::Eb::(.slice A60 X.length c60)::(.int .i64 (X.length:Int))::u62::u63::u64::u65::u66::u67::u68::u69::u70::u71::u72::u73::Fb::Fa::E_::E8::E5::EZ::EY::EX::EW::IW::IV::IU::Gt::EU::Ea::D_::D9::D8::D7::Jd::Jc::G7::G6::Np::KZ::KY::sV::sU::sS::sQ::sO::sN::sK::sJ::sH::sG::sF::sD::uI::tY::[]).toArray,[]⟩ wr) :
 Code.wp Tryz.prog (zQ Tryz.f13 1) Q0 ⟨(x0::x1::(.slice lA lm lk)::x3::x4::x5::x6::x7::x8::x9::Fq::ED::Bd::Hf::EC::(.pointer (some ⟨g5,0,none⟩))::Dj::GU::GR::DV::GN::DT::Ez::Ey::Ew::Di::Dh::Df::DR::DN::DL::DK::DJ::DI::DF::DC::Dz::Dy::Dx::Dw::GK::Eu::Et::Es::Ep::Eo::En::Em::Ej::Ei::Eh::Ef::Ee::Ed::He::GI::Fp::Dv::Ec::Eb::(.slice A60 X.length c60)::(.int .i64 (X.length:Int))::(.int .i64 0)::GH::Gz::Gy::Gx::Fj::Fh::Fg::Fe::Gw::Gv::Gu::Fb::Fa::E_::E8::E5::EZ::EY::EX::EW::IW::IV::IU::Gt::EU::Ea::D_::D9::D8::D7::Jd::Jc::G7::G6::Np::KZ::KY::sV::sU::sS::sQ::sO::sN::sK::sJ::sH::sG::sF::sD::uI::tY::[]).toArray,[]⟩ wS:=by
 conv=>arg 2;whnf
 have GY:=OD.o.lt;have PN:=ζ (hA.o wS (nJ.refl _ _));go_loopw [62] (fun i wr=>∃(k:Nat) (v:Value) (ys:List dA),k≤X.length∧i =.int .i64 (k:Int)∧Hid (aF wr g5 59 #[v])∧Hid (Own wr wS.heap.size 57 6 tq v ys)∧Hid (ys=(X.take k).filterMap fun k=>xs[k]?)∧Hid (ys.length≤k)∧Hid (nJ (fun j=>j = g5) wS wr)) (fun i _=>X.length-(intOf i).toNat)
 case atStart=>exact⟨0,_,[],ω,rfl,OD,Own.iH _ _ _ _ _,ζ rfl,ζ (Nat.le_refl _),ζ (nJ.refl _ _)⟩
 case round=>
  obtain⟨k,v,ys,hk,rfl,hB,hO,JA,KG,Tf⟩:=hrel;by_cases wB:k<X.length
  ·obtain⟨b6,o6,j,rfl,Bj,hj,hc6⟩:=(hX.o wr Tf.o).at_ wB;have hjm:=Ih.o j (List.mem_of_getElem? hj);obtain⟨b2,o2,y0,rfl,aFb,hy0,-⟩:=PN.o.at_ hjm;obtain⟨b2',o2',y,e2,hb2,hy,hc2⟩:=(hA.o wr Tf.o).at_ hjm;simp only[Option.some.injEq,Addr.mk.injEq,and_true] at e2;obtain⟨rfl,rfl⟩:=e2;have c6:wr.cell? ⟨b6,o6+k,none⟩=some (.int .i64 (j:Int)):=by simpa using hc6 0 _ rfl
   have c0:wr.cell? ⟨b2,o2+j * 6,none⟩=some (.string ⟨y.a.src.toArray⟩):=by simpa using hc2 0 _ rfl
   have c1:wr.cell? ⟨b2,o2+j * 6+1,none⟩=some (.slice y.A y.m y.k):=hc2 1 _ rfl;have c2:wr.cell? ⟨b2,o2+j * 6+2,none⟩=some (.int .i64 y.a.l.lv):=hc2 2 _ rfl;have c3:wr.cell? ⟨b2,o2+j * 6+3,none⟩=some (.int .u32 (y.a.l.c:Int)):=hc2 3 _ rfl;have c4:wr.cell? ⟨b2,o2+j * 6+4,none⟩=some (.int .i64 y.a.f):=hc2 4 _ rfl;have c5:wr.cell? ⟨b2,o2+j * 6+5,none⟩=some (.int .i64 y.a.t):=hc2 5 _ rfl;have q5:=hB.o.c0;have q5l:=hB.o.lt;have kY:(k:Int)<(X.length:Int):=ω;have V5:(j:Int)<(lm:Int):=ω;have qp:=ζ (aij (xs:=xs) hj hy);have apP:=ζ Tf.o.size;have XQ:∀m,v.ownBlock=some m→wS.heap.size≤m:=fun m hm=>(hO.o.nV m hm).1
   have hr5:some g5≠v.ownBlock:=fun e=>by have:=XQ _ e.symm;omega
   have hr2:some b2≠v.ownBlock:=fun e=>by have:=XQ _ e.symm;omega
   obtain⟨sA,sm,sk,hvf⟩:∃sA sm sk,v =.slice sA sm sk:=by
    obtain⟨A',c',e,-⟩:=hO.o.arr abf;exact⟨_,_,_,e⟩
   generalize hrow:v.ownBlock=row at *
   replace hrow:=ζ hrow;replace XQ:=ζ XQ;subst hvf;clear hc6 hc2 hy0 hj hy;go_wp2_with fail;have hOr:=hO;have Zj:=hB;have aN:=ζ (World.grownBy.refl wr row);refine jA (row) κ ?_;refine rK (up:=jB) (.range 5) 3 ?_;iterate 5 refine h_ ?_
   refine aB ?_;refine aH [5] κ σ (fun wN hN hS=>(au.cons rfl (fun K' hK=> ?_) au.nil));try replace hOr:=ζ (hOr.o.grows hN)
   try replace Zj:=ζ (Zj.o.grows hN)
   try replace lq:=ζ (lq.o.grows hN)
   try replace iZ:=ζ (iZ.o.grows hN)
   replace aN:=ζ (dQ aN.o hN);clear hN;go_simp;refine hK.o _ _ ?_ (fun hS=> ?_)
   ·exact dQ (by assumption) ((ah.refl _).alloc _)
   have iZ:=ζ (aF.new wN 57 #[.string ⟨y.a.src.toArray⟩,.slice y.A y.m y.k,.int .i64 y.a.l.lv,.int .u32 (y.a.l.c:Int),.int .i64 y.a.f,.int .i64 y.a.t]);have dN:ah wN (wN.alloc (.cells #[.string ⟨y.a.src.toArray⟩,.slice y.A y.m y.k,.int .i64 y.a.l.lv,.int .u32 (y.a.l.c:Int),.int .i64 y.a.f,.int .i64 y.a.t] 57)):=(ah.refl _).alloc _;replace hOr:=ζ (hOr.o.grows dN);replace Zj:=ζ (Zj.o.grows dN);replace aN:=ζ (dQ aN.o dN);clear dN;clear hK hS;refine aH [6] κ σ (fun wN hN hS=>(au.cons rfl (fun K' hK=> ?_) au.nil));try replace hOr:=ζ (hOr.o.grows hN)
   try replace Zj:=ζ (Zj.o.grows hN)
   try replace lq:=ζ (lq.o.grows hN)
   try replace iZ:=ζ (iZ.o.grows hN)
   replace aN:=ζ (dQ aN.o hN);clear hN;have DY:=aN.o.size;refine Own.grown (x:=y) aoO rfl (.tmp 66) (.tmp 71) rfl hOr.o rfl ⟨_,0,none⟩ rfl (abf _) (iK iZ.o) (an3 _) (by have:=apP.o;omega) (by unfold maxLen;have:=KG.o;omega) (by have:=KG.o;omega) (fun v4 w4 lq iR hv4=> ?_);rw[hrow.o] at iR;obtain⟨gb,cap,QY⟩:=lV lq σ;rw[List.length_append] at QY;simp only[List.length_cons,List.length_nil,Nat.zero_add] at QY;subst QY;replace Zj:=ζ (Zj.o.aO iR hr5);replace aN:=ζ (aN.o.trans iR);replace lq:=ζ lq;clear DY hOr iZ;go_simp;refine hK.o _ _ ?_ (fun hS=> ?_)
   ·exact World.grownBy.trans (by assumption) iR
   clear iR hv4;clear hK hS;refine d_ (i:=7) rfl κ κ (fun wN hN hS K' hK=> ?_);try replace hOr:=ζ (hOr.o.grows hN)
   try replace Zj:=ζ (Zj.o.grows hN)
   try replace lq:=ζ (lq.o.grows hN)
   try replace iZ:=ζ (iZ.o.grows hN)
   replace aN:=ζ (dQ aN.o hN);clear hS;have qN:=Zj.o.c0;have qNl:=Zj.o.lt;have qNf:=Zj.o.frozen 0;go_simp;refine hK.o _ _ ?_;clear hK;have aI:=aj wN ⟨g5,0,none⟩ (.slice (some ⟨gb,0,none⟩) (ys.length+1) cap);have hBF:Hid (aF (wN.setCell ⟨g5,0,none⟩ (.slice (some ⟨gb,0,none⟩) (ys.length+1) cap)) g5 59 #[.slice (some ⟨gb,0,none⟩) (ys.length+1) cap]):=ζ ((Zj.o.bD 0 (.slice (some ⟨gb,0,none⟩) (ys.length+1) cap)).cast σ);have hOF:=ζ (lq.o.kept' aI (fun m hm=>by injection hm with hm;subst hm;exact aZ lq.o Zj.o δ));have aAj:=ζ ((Tf.o.next aN.o (fun m hm=> .inr (XQ.o m hm))).next aI (fun m hm=>by injection hm with hm;subst hm;exact .inl rfl));have ayp:Hid ((ys++[y]).length≤k+1):=ζ (by have:=KG.o;simp;omega);clear aI Zj lq aN qN qNl qNf hN q5 q5l c0 c1 c2 c3 c4 c5 c6 hB hO;go_wp2;go_roundw
   case rel=>exact⟨k+1,_,ys++[y],ω,ν,hBF,hOF,ζ (by rw[qp.o,JA.o]),ayp,aAj⟩
   case measure=>exact ψ
  ·obtain rfl:k=X.length:=ω;have aQ:Hid (ys=X.filterMap fun k=>xs[k]?):=ζ (by rw[JA.o,List.take_length]);clear JA KG;go_wp2;first
    | exact⟨v,ys,hB,hO,aQ,Tf⟩
    | exact oK _ _ _ _ _ _ _ _ _ _ _ _ _ _ _ ⟨v,ys,hB,hO,aQ,Tf⟩
end Go.Proofs.YtbhikkgpcmkonaaGreatDoor
