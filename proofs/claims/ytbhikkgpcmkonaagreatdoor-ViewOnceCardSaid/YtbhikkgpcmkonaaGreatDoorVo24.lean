/- Parts: EqE ViwA EngE EngF EngT EngH EngI EngJ -/
import Derived.Test.YtbhikkgpcmkonaaGreatDoorVo0
import Derived.Test.YtbhikkgpcmkonaaGreatDoorVo23
import Derived.Test.YtbhikkgpcmkonaaGreatDoorVo3
import Derived.Test.YtbhikkgpcmkonaaGreatDoorVo22
import Derived.Sort.MapsRangeIn
set_option maxRecDepth 100000
set_option maxHeartbeats 12800000
namespace Go.Proofs.YtbhikkgpcmkonaaGreatDoor
open Go.RowKit
structure g_.At (x:g_) (w:World):Prop where
 a:x.a.At w
 s:x.s.At w
theorem g_.At.keep {x:g_} {w w':World} (h:x.At w) (hg:ah w w'):x.At w':=⟨h.a.keep hg,h.s.keep hg⟩
def uP:Array Value:= #[.slice none 0 0,.int .i64 0,.int .i64 0,.int .i64 0,.int .u32 0]
theorem wY {w:World} {g:Nat} (h:aG w g 159 uP) :
 w.cell? ⟨g,0,none⟩=some (.slice none 0 0)∧w.cell? ⟨g,1,none⟩=some (.int .i64 0)∧w.cell? ⟨g,2,none⟩=some (.int .i64 0)∧w.cell? ⟨g,3,none⟩=some (.int .i64 0)∧w.cell? ⟨g,4,none⟩=some (.int .u32 0)∧(∀i,w.frozen? ⟨g,i,none⟩=false)∧g < w.heap.size:=
 ⟨h.cell 0,h.cell 1,h.cell 2,h.cell 3,h.cell 4,fun i=>h.frozen i,h.lt⟩
theorem NW {w wM:World} {g:Nat} (hZ:aG wM g 159 uP) (hG:ah w wM) (qE:w.heap.size≤g) (u0 u1 u2 u3 u4:Value) :
 aG (((((wM.setCell ⟨g,0,none⟩ u0).setCell ⟨g,1,none⟩ u1).setCell ⟨g,2,none⟩ u2).setCell ⟨g,3,none⟩ u3).setCell ⟨g,4,none⟩ u4) g 159 #[u0,u1,u2,u3,u4]∧
 ah w (((((wM.setCell ⟨g,0,none⟩ u0).setCell ⟨g,1,none⟩ u1).setCell ⟨g,2,none⟩ u2).setCell ⟨g,3,none⟩ u3).setCell ⟨g,4,none⟩ u4)∧
 ∀g' t cs,aG wM g' t cs→g'≠g→aG (((((wM.setCell ⟨g,0,none⟩ u0).setCell ⟨g,1,none⟩ u1).setCell ⟨g,2,none⟩ u2).setCell ⟨g,3,none⟩ u3).setCell ⟨g,4,none⟩ u4) g' t cs:=by
 have h0:=hZ.bH 0 u0;have h1:=h0.bH 1 u1;have h2:=h1.bH 2 u2;have h3:=h2.bH 3 u3;have h4:=h3.bH 4 u4;refine⟨h4.cast (by simp[uP]),?_,fun g' t cs hB hne=>((((hB.far (p:=⟨g,0,none⟩) hne _).far (p:=⟨g,1,none⟩) hne _).far (p:=⟨g,2,none⟩) hne _).far (p:=⟨g,3,none⟩) hne _).far (p:=⟨g,4,none⟩) hne _⟩;exact ah.setCell (ah.setCell (ah.setCell (ah.setCell (ah.setCell hG (p:=⟨g,0,none⟩) qE _) (p:=⟨g,1,none⟩) qE _) (p:=⟨g,2,none⟩) qE _) (p:=⟨g,3,none⟩) qE _) (p:=⟨g,4,none⟩) qE _
def axC (wr:World) (ca cb:Array Value) (f:Nat→Value) (wz:World):Prop:=∃ga gb,f 5=.pointer (some ⟨ga,0,none⟩)∧f 6=.pointer (some ⟨gb,0,none⟩)∧aG wz ga 159 ca∧aG wz gb 159 cb∧ah wr wz
theorem agD (x y:g_) (w:World) (hx:x.At w) (hy:y.At w):Calls Tryz.prog 69 #[Ve x,Ve y] w fun e w'=>e =.returned (.bool (decide (x.e = y.e)))∧ah w w':=by
 have cM:=ζ (fun W (hW:ah w W)=>agE x.s.A y.s.A x.s.m x.s.k y.s.m y.s.k x.s.s.wh y.s.s.wh W (hx.s.arr.keep hW) (hy.s.arr.keep hW) (by have:=hx.s.le;omega) (by have:=hy.s.le;omega));have cA:=ζ (fun W (hW:ah w W)=>aha x.a y.a W (hx.a.keep hW) (hy.a.keep hW));obtain⟨R,hR⟩:∃R,R=decide (x.e = y.e):=⟨_,rfl⟩;rw[←hR];have iE:Hid (R=(decide (x.s.s.f = y.s.s.f∧x.s.s.t = y.s.s.t∧x.s.s.l.lv=y.s.s.l.lv∧x.s.s.l.c = y.s.s.l.c)&&(decide (x.s.s.wh=y.s.s.wh)&&(decide (x.k=y.k∧x.now=y.now)&&decide (x.a.a = y.a.a))))):=ζ (by
  rw[hR,←Bool.decide_and,←Bool.decide_and,←Bool.decide_and];refine decide_eq_decide.2 ?_;obtain⟨xk,xa,⟨⟨a1,a2,a3,⟨a4,a5⟩⟩,_,_,_⟩,xn⟩:=x;obtain⟨yk,ya,⟨⟨b1,b2,b3,⟨b4,b5⟩⟩,_,_,_⟩,yn⟩:=y;unfold g_.e;simp only[zO.mk.injEq,Sil.mk.injEq,gy.mk.injEq];constructor
  ·rintro⟨h1,h2,⟨h3,h4,h5,h6,h7⟩,h8⟩;exact⟨⟨h4,h5,h6,h7⟩,h3,⟨h1,h8⟩,h2⟩
  ·rintro⟨⟨h4,h5,h6,h7⟩,h3,⟨h1,h8⟩,h2⟩;exact⟨h1,h2,⟨h3,h4,h5,h6,h7⟩,h8⟩)
 clear hx hy hR;generalize decide (x.s.s.wh=y.s.s.wh)=D at *
 generalize decide (x.a.a = y.a.a)=E at *
 unfold Ve iV at *
 have hg0:=ζ (((ah.refl w).alloc (.cells #[.int .i64 x.k,.string ⟨x.a.a.src.toArray⟩,.slice x.a.A x.a.m x.a.k,.int .i64 x.a.a.l.lv,.int .u32 (x.a.a.l.c:Int),.int .i64 x.a.a.f,.int .i64 x.a.a.t,.slice x.s.A x.s.m x.s.k,.int .i64 x.s.s.f,.int .i64 x.s.s.t,.int .i64 x.s.s.l.lv,.int .u32 (x.s.s.l.c:Int),.int .i64 x.now] 166)).alloc (.cells #[.int .i64 y.k,.string ⟨y.a.a.src.toArray⟩,.slice y.a.A y.a.m y.a.k,.int .i64 y.a.a.l.lv,.int .u32 (y.a.a.l.c:Int),.int .i64 y.a.a.f,.int .i64 y.a.a.t,.slice y.s.A y.s.m y.s.k,.int .i64 y.s.s.f,.int .i64 y.s.s.t,.int .i64 y.s.s.l.lv,.int .u32 (y.s.s.l.c:Int),.int .i64 y.now] 166));have bX:=ζ ((aG.new w 166 #[.int .i64 x.k,.string ⟨x.a.a.src.toArray⟩,.slice x.a.A x.a.m x.a.k,.int .i64 x.a.a.l.lv,.int .u32 (x.a.a.l.c:Int),.int .i64 x.a.a.f,.int .i64 x.a.a.t,.slice x.s.A x.s.m x.s.k,.int .i64 x.s.s.f,.int .i64 x.s.s.t,.int .i64 x.s.s.l.lv,.int .u32 (x.s.s.l.c:Int),.int .i64 x.now]).alloc (.cells #[.int .i64 y.k,.string ⟨y.a.a.src.toArray⟩,.slice y.a.A y.a.m y.a.k,.int .i64 y.a.a.l.lv,.int .u32 (y.a.a.l.c:Int),.int .i64 y.a.a.f,.int .i64 y.a.a.t,.slice y.s.A y.s.m y.s.k,.int .i64 y.s.s.f,.int .i64 y.s.s.t,.int .i64 y.s.s.l.lv,.int .u32 (y.s.s.l.c:Int),.int .i64 y.now] 166));have bY:=ζ (aG.kV w (.cells #[.int .i64 x.k,.string ⟨x.a.a.src.toArray⟩,.slice x.a.A x.a.m x.a.k,.int .i64 x.a.a.l.lv,.int .u32 (x.a.a.l.c:Int),.int .i64 x.a.a.f,.int .i64 x.a.a.t,.slice x.s.A x.s.m x.s.k,.int .i64 x.s.s.f,.int .i64 x.s.s.t,.int .i64 x.s.s.l.lv,.int .u32 (x.s.s.l.c:Int),.int .i64 x.now] 166) 166 #[.int .i64 y.k,.string ⟨y.a.a.src.toArray⟩,.slice y.a.A y.a.m y.a.k,.int .i64 y.a.a.l.lv,.int .u32 (y.a.a.l.c:Int),.int .i64 y.a.a.f,.int .i64 y.a.a.t,.slice y.s.A y.s.m y.s.k,.int .i64 y.s.s.f,.int .i64 y.s.s.t,.int .i64 y.s.s.l.lv,.int .u32 (y.s.s.l.c:Int),.int .i64 y.now]);go_enter Tryz.func69,Tryz.ntmps69
 go_wp2_with fail;generalize (w.alloc (.cells #[.int .i64 x.k,.string ⟨x.a.a.src.toArray⟩,.slice x.a.A x.a.m x.a.k,.int .i64 x.a.a.l.lv,.int .u32 (x.a.a.l.c:Int),.int .i64 x.a.a.f,.int .i64 x.a.a.t,.slice x.s.A x.s.m x.s.k,.int .i64 x.s.s.f,.int .i64 x.s.s.t,.int .i64 x.s.s.l.lv,.int .u32 (x.s.s.l.c:Int),.int .i64 x.now] 166)).alloc (.cells #[.int .i64 y.k,.string ⟨y.a.a.src.toArray⟩,.slice y.a.A y.a.m y.a.k,.int .i64 y.a.a.l.lv,.int .u32 (y.a.a.l.c:Int),.int .i64 y.a.a.f,.int .i64 y.a.a.t,.slice y.s.A y.s.m y.s.k,.int .i64 y.s.s.f,.int .i64 y.s.s.t,.int .i64 y.s.s.l.lv,.int .u32 (y.s.s.l.c:Int),.int .i64 y.now] 166)=w3 at *
 have x7:=bX.out.c7;have x8:w3.cell? ⟨w.heap.size,8,none⟩=some (.int .i64 x.s.s.f):=bX.out.cell 8;have x9:w3.cell? ⟨w.heap.size,9,none⟩=some (.int .i64 x.s.s.t):=bX.out.cell 9;have Gf:w3.cell? ⟨w.heap.size,10,none⟩=some (.int .i64 x.s.s.l.lv):=bX.out.cell 10;have E8:w3.cell? ⟨w.heap.size,11,none⟩=some (.int .u32 (x.s.s.l.c:Int)):=bX.out.cell 11;have xl:=bX.out.lt;have y7:=bY.out.c7;have y8:w3.cell? ⟨w.heap.size+1,8,none⟩=some (.int .i64 y.s.s.f):=bY.out.cell 8;have y9:w3.cell? ⟨w.heap.size+1,9,none⟩=some (.int .i64 y.s.s.t):=bY.out.cell 9;have y10:w3.cell? ⟨w.heap.size+1,10,none⟩=some (.int .i64 y.s.s.l.lv):=bY.out.cell 10;have y11:w3.cell? ⟨w.heap.size+1,11,none⟩=some (.int .u32 (y.s.s.l.c:Int)):=bY.out.cell 11;have yl:=bY.out.lt;have aP:=ζ (ah.refl w3);apply Ij (is:=[5,6]) (R:=axC w3 #[.slice x.s.A x.s.m x.s.k,.int .i64 x.s.s.f,.int .i64 x.s.s.t,.int .i64 x.s.s.l.lv,.int .u32 (x.s.s.l.c:Int)] #[.slice y.s.A y.s.m y.s.k,.int .i64 y.s.s.f,.int .i64 y.s.s.t,.int .i64 y.s.s.l.lv,.int .u32 (y.s.s.l.c:Int)])
 case h1=>
  refine aF κ ?_;refine rK [0,1,2,3] 4 ?_;iterate 4 refine ay ?_
  refine aB ?_;refine aI [4,5] κ σ (fun wN hN hS=>(au.cons rfl (fun K' hK=> ?_) (au.cons rfl (fun K' hK=> ?_) au.nil)))
  ·skip
   try replace iU:=ζ (iU.o.grows hN)
   try replace iI:=ζ (iI.o.grows hN)
   replace aP:=ζ (aP.o.trans hN);clear hN;go_simp;have hgA:=ζ aP.o.size;try have hab:=ζ (iI.o.lt)
   have iU:=ζ (aG.new wN 159 uP);replace aP:=ζ (aP.o.alloc (.cells uP 159));try replace iI:=ζ (iI.o.alloc (.cells uP 159))
   refine hK.o _ _ ?_ (fun hS=> ?_)
   ·exact aP.o
   generalize wN.heap.size=gA at *
   clear hK hS;refine aI [5] κ σ (fun wN hN hS=>(au.cons rfl (fun K' hK=> ?_) au.nil));try replace iU:=ζ (iU.o.grows hN)
   try replace iI:=ζ (iI.o.grows hN)
   replace aP:=ζ (aP.o.trans hN);clear hN;go_simp;have ZT:=ζ aP.o.size;try have hab:=ζ (iU.o.lt)
   have iI:=ζ (aG.new wN 159 uP);replace aP:=ζ (aP.o.alloc (.cells uP 159));try replace iU:=ζ (iU.o.alloc (.cells uP 159))
   refine hK.o _ _ ?_ (fun hS=> ?_)
   ·exact aP.o
   generalize wN.heap.size=gB at *
   clear hK hS;refine aI [6] κ σ (fun wN hN hS=>(au.cons rfl (fun K' hK=> ?_) au.nil));try replace iU:=ζ (iU.o.grows hN)
   try replace iI:=ζ (iI.o.grows hN)
   replace aP:=ζ (aP.o.trans hN);clear hN;obtain⟨z0,z1,z2,z3,z4,zf,zl⟩:=wY iU.o;obtain⟨n0,n1,n2⟩:=NW iU.o aP.o hgA.o (.slice x.s.A x.s.m x.s.k) (.int .i64 x.s.s.f) (.int .i64 x.s.s.t) (.int .i64 x.s.s.l.lv) (.int .u32 (x.s.s.l.c:Int));try replace iI:=ζ (n2 _ _ _ iI.o (by have:=hab.o;omega))
   replace n0:=ζ n0;replace n1:=ζ n1;clear n2;go_simp;refine hK.o _ _ ?_ (fun hS=> ?_)
   ·exact n1.out
   clear z0 z1 z2 z3 z4 zf zl iU aP;generalize ((((wN.setCell ⟨gA,0,none⟩ (.slice x.s.A x.s.m x.s.k)).setCell ⟨gA,1,none⟩ (.int .i64 x.s.s.f)).setCell ⟨gA,2,none⟩ (.int .i64 x.s.s.t)).setCell ⟨gA,3,none⟩ (.int .i64 x.s.s.l.lv)).setCell ⟨gA,4,none⟩ (.int .u32 (x.s.s.l.c:Int))=w9 at *
   have iU:=n0;have aP:=n1;clear n0 n1;clear hK hS;refine aI [7] κ σ (fun wN hN hS=>(au.cons rfl (fun K' hK=> ?_) au.nil));try replace iU:=ζ (iU.o.grows hN)
   try replace iI:=ζ (iI.o.grows hN)
   replace aP:=ζ (aP.o.trans hN);clear hN;obtain⟨z0,z1,z2,z3,z4,zf,zl⟩:=wY iI.o;obtain⟨n0,n1,n2⟩:=NW iI.o aP.o ZT.o (.slice y.s.A y.s.m y.s.k) (.int .i64 y.s.s.f) (.int .i64 y.s.s.t) (.int .i64 y.s.s.l.lv) (.int .u32 (y.s.s.l.c:Int));try replace iU:=ζ (n2 _ _ _ iU.o (by have:=hab.o;omega))
   replace n0:=ζ n0;replace n1:=ζ n1;clear n2;go_simp;refine hK.o _ _ ?_ (fun hS=> ?_)
   ·exact n1.out
   clear z0 z1 z2 z3 z4 zf zl iI aP;generalize ((((wN.setCell ⟨gB,0,none⟩ (.slice y.s.A y.s.m y.s.k)).setCell ⟨gB,1,none⟩ (.int .i64 y.s.s.f)).setCell ⟨gB,2,none⟩ (.int .i64 y.s.s.t)).setCell ⟨gB,3,none⟩ (.int .i64 y.s.s.l.lv)).setCell ⟨gB,4,none⟩ (.int .u32 (y.s.s.l.c:Int))=w9 at *
   have iI:=n0;have aP:=n1;clear n0 n1;clear hK hS;refine aH κ (fun wN hN hS=> ?_);try replace iU:=ζ (iU.o.grows hN)
   try replace iI:=ζ (iI.o.grows hN)
   replace aP:=ζ (aP.o.trans hN);refine⟨(by
    simp only[iy,List.foldl_cons,List.foldl_nil];go_simp;try rfl
   ),_,_,rfl,rfl,iU.o,iI.o,aP.o⟩
  ·skip
   try replace iU:=ζ (iU.o.grows hN)
   try replace iI:=ζ (iI.o.grows hN)
   replace aP:=ζ (aP.o.trans hN);clear hN;go_simp;have ZT:=ζ aP.o.size;try have hab:=ζ (iU.o.lt)
   have iI:=ζ (aG.new wN 159 uP);replace aP:=ζ (aP.o.alloc (.cells uP 159));try replace iU:=ζ (iU.o.alloc (.cells uP 159))
   refine hK.o _ _ ?_ (fun hS=> ?_)
   ·exact aP.o
   generalize wN.heap.size=gB at *
   clear hK hS;refine aI [4] κ σ (fun wN hN hS=>(au.cons rfl (fun K' hK=> ?_) au.nil));try replace iU:=ζ (iU.o.grows hN)
   try replace iI:=ζ (iI.o.grows hN)
   replace aP:=ζ (aP.o.trans hN);clear hN;go_simp;have hgA:=ζ aP.o.size;try have hab:=ζ (iI.o.lt)
   have iU:=ζ (aG.new wN 159 uP);replace aP:=ζ (aP.o.alloc (.cells uP 159));try replace iI:=ζ (iI.o.alloc (.cells uP 159))
   refine hK.o _ _ ?_ (fun hS=> ?_)
   ·exact aP.o
   generalize wN.heap.size=gA at *
   clear hK hS;refine aI [6] κ σ (fun wN hN hS=>(au.cons rfl (fun K' hK=> ?_) au.nil));try replace iU:=ζ (iU.o.grows hN)
   try replace iI:=ζ (iI.o.grows hN)
   replace aP:=ζ (aP.o.trans hN);clear hN;obtain⟨z0,z1,z2,z3,z4,zf,zl⟩:=wY iU.o;obtain⟨n0,n1,n2⟩:=NW iU.o aP.o hgA.o (.slice x.s.A x.s.m x.s.k) (.int .i64 x.s.s.f) (.int .i64 x.s.s.t) (.int .i64 x.s.s.l.lv) (.int .u32 (x.s.s.l.c:Int));try replace iI:=ζ (n2 _ _ _ iI.o (by have:=hab.o;omega))
   replace n0:=ζ n0;replace n1:=ζ n1;clear n2;go_simp;refine hK.o _ _ ?_ (fun hS=> ?_)
   ·exact n1.out
   clear z0 z1 z2 z3 z4 zf zl iU aP;generalize ((((wN.setCell ⟨gA,0,none⟩ (.slice x.s.A x.s.m x.s.k)).setCell ⟨gA,1,none⟩ (.int .i64 x.s.s.f)).setCell ⟨gA,2,none⟩ (.int .i64 x.s.s.t)).setCell ⟨gA,3,none⟩ (.int .i64 x.s.s.l.lv)).setCell ⟨gA,4,none⟩ (.int .u32 (x.s.s.l.c:Int))=w9 at *
   have iU:=n0;have aP:=n1;clear n0 n1;clear hK hS;refine aI [7] κ σ (fun wN hN hS=>(au.cons rfl (fun K' hK=> ?_) au.nil));try replace iU:=ζ (iU.o.grows hN)
   try replace iI:=ζ (iI.o.grows hN)
   replace aP:=ζ (aP.o.trans hN);clear hN;obtain⟨z0,z1,z2,z3,z4,zf,zl⟩:=wY iI.o;obtain⟨n0,n1,n2⟩:=NW iI.o aP.o ZT.o (.slice y.s.A y.s.m y.s.k) (.int .i64 y.s.s.f) (.int .i64 y.s.s.t) (.int .i64 y.s.s.l.lv) (.int .u32 (y.s.s.l.c:Int));try replace iU:=ζ (n2 _ _ _ iU.o (by have:=hab.o;omega))
   replace n0:=ζ n0;replace n1:=ζ n1;clear n2;go_simp;refine hK.o _ _ ?_ (fun hS=> ?_)
   ·exact n1.out
   clear z0 z1 z2 z3 z4 zf zl iI aP;generalize ((((wN.setCell ⟨gB,0,none⟩ (.slice y.s.A y.s.m y.s.k)).setCell ⟨gB,1,none⟩ (.int .i64 y.s.s.f)).setCell ⟨gB,2,none⟩ (.int .i64 y.s.s.t)).setCell ⟨gB,3,none⟩ (.int .i64 y.s.s.l.lv)).setCell ⟨gB,4,none⟩ (.int .u32 (y.s.s.l.c:Int))=w9 at *
   have iI:=n0;have aP:=n1;clear n0 n1;clear hK hS;refine aH κ (fun wN hN hS=> ?_);try replace iU:=ζ (iU.o.grows hN)
   try replace iI:=ζ (iI.o.grows hN)
   replace aP:=ζ (aP.o.trans hN);refine⟨(by
    simp only[iy,List.foldl_cons,List.foldl_nil];go_simp;try rfl
   ),_,_,rfl,rfl,iU.o,iI.o,aP.o⟩
 intro fz w9 hR9;obtain⟨ga,gb',e5,e6,iU,iI,ab2⟩:=hR9;simp only[lU,List.foldl_cons,List.foldl_nil,e5,e6];have Nl:=ζ (hg0.o.trans ab2);replace bX:=ζ (bX.out.grows ab2);replace bY:=ζ (bY.out.grows ab2);have sx0:=iU.c0;have sx1:=iU.c1;have sx2:=iU.c2;have sx3:=iU.c3;have sx4:=iU.c4;have sxl:=iU.lt;have sy0:=iI.c0;have sy1:=iI.c1;have sy2:=iI.c2;have sy3:=iI.c3;have sy4:=iI.c4;have syl:=iI.lt;clear iU iI ab2 aP hg0 e5 e6 x7 x8 x9 Gf E8 xl y7 y8 y9 y10 y11 yl;by_cases h1:x.s.s.f = y.s.s.f∧x.s.s.t = y.s.s.t∧x.s.s.l.lv=y.s.s.l.lv∧x.s.s.l.c = y.s.s.l.c
 ·obtain⟨g1,g2,g3,g4⟩:=h1;have yK:Hid (R=(D&&(decide (x.k=y.k∧x.now=y.now)&&E))):=ζ (by rw[iE.o,decide_eq_true (⟨g1,g2,g3,g4⟩:_∧_∧_∧_)];rfl);rw[←g1] at sy1;rw[←g2] at sy2;rw[←g3] at sy3;rw[←g4] at sy4;clear iE g1 g2 g3 g4;go_wp2_with fail;refine (cM.out _ Nl.o).mono ?_;rintro e w1 ⟨rfl,hb⟩;have hG:=ζ (Nl.o.trans hb);replace bX:=ζ (bX.out.grows hb);replace bY:=ζ (bY.out.grows hb);have x0:=bX.out.c0;have x1:=bX.out.c1;have x2:=bX.out.c2;have x3:=bX.out.c3;have x4:=bX.out.c4;have x5:=bX.out.c5;have x6:=bX.out.c6;have BJ:w1.cell? ⟨w.heap.size,12,none⟩=some (.int .i64 x.now):=bX.out.cell 12;have xl:=bX.out.lt;have y0:=bY.out.c0;have y1:=bY.out.c1;have y2:=bY.out.c2;have y3:=bY.out.c3;have y4:=bY.out.c4;have y5:=bY.out.c5;have y6:=bY.out.c6;have y12:w1.cell? ⟨w.heap.size+1,12,none⟩=some (.int .i64 y.now):=bY.out.cell 12;have yl:=bY.out.lt;clear hb bX bY cM Nl sx0 sx1 sx2 sx3 sx4 sy0 sy1 sy2 sy3 sy4;cases D with
  | false=>
   have hR4:Hid (R=false):=ζ (by rw[yK.o];rfl);go_wp2;go_ret;exact⟨by rw[hR4.o];rfl,hG.o⟩
  | true=>
   by_cases h2:x.k=y.k
   ·by_cases h3:x.now=y.now
    ·have hR4:Hid (R=E):=ζ (by rw[yK.o];simp[h2,h3]);rw[←h2] at y0;rw[←h3] at y12;clear yK h2 h3;go_wp2_with fail;refine (cA.out _ hG.o).mono ?_;rintro e w2 ⟨rfl,hb⟩;have gK:=ζ (hG.o.trans hb);clear hb hG;go_wp2;go_ret;exact⟨by rw[hR4.o];rfl,gK.o⟩
    ·have hR4:Hid (R=false):=ζ (by rw[yK.o];simp[h3]);have h3z:(x.now==y.now)=false:=by simp[h3]
     rw[←h2] at y0;clear h2 yK;go_wp2;go_ret;exact⟨by rw[hR4.o];rfl,hG.o⟩
   ·have hR4:Hid (R=false):=ζ (by rw[yK.o];simp[h2]);have h2z:(x.k==y.k)=false:=by simp[h2]
    clear yK;go_wp2;go_ret;exact⟨by rw[hR4.o];rfl,hG.o⟩
 ·have yK:Hid (R=false):=ζ (by rw[iE.o,decide_eq_false h1];rfl);clear cM cA iE;by_cases g1:x.s.s.f = y.s.s.f
  ·by_cases g2:x.s.s.t = y.s.s.t
   ·by_cases g3:x.s.s.l.lv=y.s.s.l.lv
    ·have g4:¬(x.s.s.l.c:Int)=(y.s.s.l.c:Int):=fun h=>h1 ⟨g1,g2,g3,ω⟩
     have g4z:((x.s.s.l.c:Int)==(y.s.s.l.c:Int))=false:=by simp;omega
     clear h1;go_wp2;go_ret;exact⟨by rw[yK.o];rfl,Nl.o⟩
    ·have g3z:(x.s.s.l.lv==y.s.s.l.lv)=false:=by simp[g3]
     clear h1;go_wp2;go_ret;exact⟨by rw[yK.o];rfl,Nl.o⟩
   ·have g2z:(x.s.s.t ==y.s.s.t)=false:=by simp[g2]
    clear h1;go_wp2;go_ret;exact⟨by rw[yK.o];rfl,Nl.o⟩
  ·have g1z:(x.s.s.f ==y.s.s.f)=false:=by simp[g1]
   clear h1;go_wp2;go_ret;exact⟨by rw[yK.o];rfl,Nl.o⟩
structure Jo (T:List TypeId) (base:Nat) (w w':World):Prop where
 below:Below base w w'
 kept:∀(g:Nat) (cur:Array Value) (te:TypeId) (fz:Nat×Nat),w.heap[g]? = some (Obj.cells cur te fz)→te∉T→w'.heap[g]? = w.heap[g]?
theorem Jo.trans {T:List TypeId} {base:Nat} {a b c:World} (h:Jo T base a b) (k:Jo T base b c):Jo T base a c:=
 ⟨h.below.trans k.below,fun g cur te fz hg ht=>(k.kept g cur te fz ((h.kept g cur te fz hg ht).trans hg) ht).trans (h.kept g cur te fz hg ht)⟩
theorem Dh {w:World} {g:Nat} {o:Obj} (h:w.heap[g]? = some o):g < w.heap.size:=(Array.getElem?_eq_some_iff.1 h).1
theorem Jo.grows {T:List TypeId} {base:Nat} {a b:World} (hg:ah a b) (hb:base≤a.heap.size):Jo T base a b:=
 ⟨Below.mono hg.below hb,fun g _ _ _ h _=>hg.below.block g (Dh h)⟩
theorem Jo.size {T:List TypeId} {base:Nat} {a b:World} (h:Jo T base a b):a.heap.size≤b.heap.size:=h.below.size
theorem Jo.blk {T:List TypeId} {base g:Nat} {a b:World} {te:TypeId} {cs:Array Value} (h:Jo T base a b) (hb:aG a g te cs) (ht:te∉T):aG b g te cs:=(h.kept g _ _ _ hb ht).trans hb
theorem Jo.row {T:List TypeId} {base:Nat} {w w':World} {row:Option Nat} (hg:w.grownBy w' row) (hb:base≤w.heap.size) (hr:∀m,row=some m→base≤m∧∃te cs,te∈T∧aG w m te cs):Jo T base w w':=by
 refine⟨⟨hg.os,hg.tape,hg.output,hg.size,fun k hk=>hg.block k (Nat.lt_of_lt_of_le hk hb) (fun e=> ?_)⟩,fun g cur te fz h ht=>hg.block g (Dh h) (fun e=> ?_)⟩
 ·have:=(hr k e.symm).1;omega
 ·obtain⟨_,te',cs,hT,hB⟩:=hr g e.symm;unfold aG at hB;rw[h] at hB;simp only[Option.some.injEq,Obj.cells.injEq] at hB;exact ht (hB.2.1 ▸ hT)
theorem Jo.setCell {T:List TypeId} {base g i:Nat} {w:World} {te:TypeId} {cs:Array Value} (hB:aG w g te cs) (hb:base≤g) (ht:te∈T) (u:Value):Jo T base w (w.setCell ⟨g,i,none⟩ u):=
 Jo.row (aj w ⟨g,i,none⟩ u) (by have:=hB.lt;omega) (fun m hm=>by injection hm with hm;subst hm;exact⟨hb,te,cs,ht,hB⟩)
theorem Jo.own {α:Type} {T:List TypeId} {w w':World} {base b0 k:Nat} {e:TypeId} {enc:α→List Value} {v:Value} {xs:List α} (h:Own w b0 e k enc v xs) (hT:Jo T base w w') (he:e∉T):Own w' b0 e k enc v xs:=by
 refine⟨h.1,?_⟩;rcases h.2 with h2 | ⟨g,cap,cur,hv,hb,hh,r⟩
 ·exact .inl h2
 ·exact .inr ⟨g,cap,cur,hv,hb,(hT.kept g _ _ _ hh he).trans hh,r⟩
theorem Jo.out {T:List TypeId} {base:Nat} {a b c:World} (hg:ah a b) (h:Jo T base b c) (hb:a.heap.size≤base):ah a c:=
 ah.of ((Below.mono hg.below (Nat.le_refl _)).trans (Below.mono h.below hb))
theorem Own.nZ {α:Type} {w:World} {base k:Nat} {e:TypeId} {enc:α→List Value} {v:Value} {xs:List α} (h:Own w base e k enc v xs):∀m,v.ownBlock=some m→base≤m∧∃cs,aG w m e cs:=fun m hm=>by
 rcases h.2 with⟨h2,_⟩ | ⟨g,cap,cur,hv,hb,hh,r⟩
 ·rw[h2] at hm;cases hm
 ·rw[hv] at hm;simp only[Value.ownBlock,Option.some.injEq] at hm;subst hm;exact⟨hb,cur,hh⟩
theorem asA:fB Tryz.prog 98 166 13 144:=fB.mk' (z:=.agg #[.int .i64 0,.string ⟨#[]⟩,.slice none 0 0,.int .i64 0,.int .u32 0,.int .i64 0,.int .i64 0,.slice none 0 0,.int .i64 0,.int .i64 0,.int .i64 0,.int .u32 0,.int .i64 0]) Tryz.underlying98 κ rfl ω
theorem aqz (x:g_):∀u∈su x,u.oneCell'=true:=by
 intro u hu;simp only[su,List.mem_cons,List.not_mem_nil,or_false] at hu;rcases hu with rfl | rfl | rfl | rfl | rfl | rfl | rfl | rfl | rfl | rfl | rfl | rfl | rfl <;> rfl
def evT:List TypeId:=[166,98]
theorem ajr {y:g_} {may:Bool} {go base:Nat} {v:Value} {ys:List g_} (w:World) (hB:aG w go 98 #[v]) (hO:Own w base 166 13 su v ys) (hb:base≤go) (hl:ys.length≤1000000) :
 Calls Tryz.prog 71 #[Ve y,.bool may,.pointer (some ⟨go,0,none⟩)] w fun e w'=>e =.returned (.tuple #[])∧∃v',aG w' go 98 #[v']∧Own w' base 166 13 su v' (if may then ys++[y] else ys)∧Jo evT base w w':=by
 have Fh:=hB.lt;have c0:=hB.c0;have hT0:Jo evT base w (w.alloc (.cells (su y).toArray 166)):=Jo.grows ((ah.refl w).alloc _) ω;have YW:aG (w.alloc (.cells (su y).toArray 166)) go 98 #[v]:=hB.alloc _;have Nj:Own (w.alloc (.cells (su y).toArray 166)) base 166 13 su v ys:=hO.alloc _;cases may with
 | false=>
  unfold Ve;unfold su at hT0 YW Nj;replace hT0:=ζ hT0;replace YW:=ζ YW;replace Nj:=ζ Nj;clear hB hO;go_enter Tryz.func71,Tryz.ntmps71
  go_wp2;go_end0;exact⟨rfl,v,YW.o,Nj.o,hT0.o⟩
 | true=>
  unfold Ve;unfold su at hT0 YW;replace hT0:=ζ hT0;replace YW:=ζ YW;replace Nj:=ζ Nj;go_enter Tryz.func71,Tryz.ntmps71
  go_wp2_with (at_builtin;go_loud (refine dB (x:=y) asA rfl (.tmp 6) (.tmp 8) rfl (Nj.o.alloc _) rfl ⟨w.heap.size+1,0,none⟩ rfl rfl (iK (by exact aG.kV w _ _ _)) (aqz y) (by simp;omega) (by unfold maxLen;omega) ω (fun v7 w7 rH hgr qU=> ?_);(obtain⟨g7,k7,rfl⟩:=mg rH σ);(replace rH:=ζ rH);(have t_:=(YW.o.alloc _).aQ hgr (fun hh=>aZ hO hB δ hh.symm));(have hT7:=ζ ((hT0.o.trans (Jo.grows ((ah.refl _).alloc _) (by simp;omega))).trans (Jo.row hgr (by simp;omega) (fun m hm=>by obtain⟨h8,cs,h9⟩:=(Nj.o.alloc _).nZ m hm;exact⟨h8,_,cs,List.mem_cons_self ..,h9⟩))));(have c7:w7.cell? ⟨go,0,none⟩=some v:=t_.cell 0);have l7:=t_.lt;have f7:=t_.frozen 0;clear hgr qU));go_end0;exact⟨rfl,_,(t_.bH 0 _).cast σ,rH.o.kept' (aj w7 ⟨go,0,none⟩ _) (fun j hj=>by injection hj with hj;subst hj;exact aZ rH.o t_ δ),hT7.o.trans (Jo.setCell t_ hb (by simp[evT]) _)⟩
end Go.Proofs.YtbhikkgpcmkonaaGreatDoor
namespace Go.Proofs.YtbhikkgpcmkonaaGreatDoor
open Go.RowKit Go.Maps Go.WideMaps
structure GX where
 key:List UInt8
 g:A_
 r:RtX
 gb:Nat
 cb:Nat
 v:Value
def dK (gs:List GX):List (List UInt8×A_):=gs.map fun x=>(x.key,x.g)
def pU (gs:List GX):List (List UInt8×Nat):=gs.map fun x=>(x.key,x.gb)
structure wG (w:World) (base:Nat) (x:GX):Prop where
 blk:aG w x.gb 130 (Nr x.g x.r x.cb)
 jH:wK w base x.cb x.g.jH x.v
 Z9:base≤x.gb
 cge:base≤x.cb
 kl:x.key.length≤20000
structure dO (w:World) (base ge b:Nat) (rec:List UInt8) (now:Int) (B:Nat) (gs:List GX):Prop where
 blk:aG w ge 118 #[.string ⟨rec.toArray⟩,.map (some b),.int .i64 now]
 map:∃n,n≤B∧wH w b n (pU gs)
 nd:(gs.map (·.key)).Nodup
 gnd:(gs.map (·.gb)).Nodup
 cnd:(gs.map (·.cb)).Nodup
 at_:∀x∈gs,wG w base x
 num:∀x∈gs,x.g.number≤B
 jH:∀x∈gs,x.g.jH.now≤now
 ege:base≤ge
 Zp:base≤b
def Y7:List TypeId:=[118,130,180,33]
theorem wG.grows {w w':World} {base:Nat} {x:GX} (h:wG w base x) (hg:ah w w'):wG w' base x:=⟨h.blk.grows hg,h.jH.grows hg,h.Z9,h.cge,h.kl⟩
theorem wK.aQ {w w':World} {base g:Nat} {c:U5} {v:Value} {row:Option Nat} (h:wK w base g c v) (hg:w.grownBy w' row) (h1:some g≠row) (h2:∀m,row=some m→∀cur te fz,w.heap[m]? = some (.cells cur te fz)→te≠33):wK w' base g c v:=
 ⟨h.blk.aQ hg h1,h.told.kept' hg (fun m hm hv=>by obtain⟨cur,hc⟩:=bV h.told hv;exact h2 m hm _ _ _ hc rfl),h.ok,h.Xg,h.len⟩
theorem wG.aQ {w w':World} {base:Nat} {x:GX} {row:Option Nat} (h:wG w base x) (hg:w.grownBy w' row) (h0:some x.gb≠row) (h1:some x.cb≠row) (h2:∀m,row=some m→∀cur te fz,w.heap[m]? = some (.cells cur te fz)→te≠33):wG w' base x:=
 ⟨h.blk.aQ hg h0,h.jH.aQ hg h1 h2,h.Z9,h.cge,h.kl⟩
section
variable {w w':World} {base ge b B:Nat} {rec:List UInt8} {now:Int} {gs:List GX}
theorem dO.grows (h:dO w base ge b rec now B gs) (hg:ah w w'):dO w' base ge b rec now B gs:=
 ⟨h.blk.grows hg,by obtain⟨n,h1,h2⟩:=h.map;exact⟨n,h1,h2.grows hg⟩,h.nd,h.gnd,h.cnd,fun x hx=>(h.at_ x hx).grows hg,h.num,h.jH,h.ege,h.Zp⟩
theorem dO.more (h:dO w base ge b rec now B gs) {B':Nat} (hb:B≤B'):dO w base ge b rec now B' gs:=
 ⟨h.blk,by obtain⟨n,h1,h2⟩:=h.map;exact⟨n,ω,h2⟩,h.nd,h.gnd,h.cnd,h.at_,fun x hx=>Nat.le_trans (h.num x hx) hb,h.jH,h.ege,h.Zp⟩
theorem dO.other (h:dO w base ge b rec now B gs) {row:Option Nat} (hg:w.grownBy w' row) (hb:some b≠row) (ht:∀m,row=some m→∀cur te fz,w.heap[m]? = some (.cells cur te fz)→te∉Y7):dO w' base ge b rec now B gs:=by
 have hne:∀(g:Nat) te cs,aG w g te cs→te∈Y7→some g≠row:=fun g te cs hB hT e=>ht g e.symm _ _ _ hB hT
 refine⟨h.blk.aQ hg (hne _ _ _ h.blk δ),?_,h.nd,h.gnd,h.cnd,fun x hx=> ?_,h.num,h.jH,h.ege,h.Zp⟩
 ·obtain⟨n,h1,h2⟩:=h.map;exact⟨n,h1,h2.kept hg hb⟩
 ·have hx1:=h.at_ x hx;exact hx1.aQ hg (hne _ _ _ hx1.blk δ) (hne _ _ _ hx1.jH.blk δ) (fun m hm cur te fz hc e=>ht m hm cur te fz hc (by rw[e];decide))
theorem dO.aqs (h:dO w base ge b rec now B gs) {n':Int} (hn:now≤n'):dO (w.setCell ⟨ge,2,none⟩ (.int .i64 n')) base ge b rec n' B gs:=by
 have hg:=aj w ⟨ge,2,none⟩ (.int .i64 n');have hne:∀(g:Nat) te cs,aG w g te cs→te≠118→some g≠some ge:=fun g te cs hB hT e=>by
  injection e with e;subst e
  have h1:=h.blk;unfold aG at h1 hB;rw[h1] at hB;simp only[Option.some.injEq,Obj.cells.injEq] at hB;exact hT hB.2.1.symm
 refine⟨(h.blk.bH 2 _).cast σ,?_,h.nd,h.gnd,h.cnd,fun x hx=> ?_,h.num,fun x hx=>Int.le_trans (h.jH x hx) hn,h.ege,h.Zp⟩
 ·obtain⟨n,h1,h2⟩:=h.map;exact⟨n,h1,h2.kept hg (fun e=>by injection e with e;exact h2.aY _ _ _ (by rw[e];exact h.blk))⟩
 ·have hx1:=h.at_ x hx;exact hx1.aQ hg (hne _ _ _ hx1.blk δ) (hne _ _ _ hx1.jH.blk δ) (fun m hm cur te fz hc e=>by
   injection hm with hm;subst hm
   have h1:=h.blk;unfold aG at h1;rw[h1] at hc;simp only[Option.some.injEq,Obj.cells.injEq] at hc;rw[←hc.2.1] at e;revert e;decide)
theorem qO {α β:Type} {f:α→β}:∀{l:List α},(l.map f).Nodup→∀{x y:α},x∈l→y∈l→f x = f y→x = y
 | a ::l,hn,x,y,hx,hy,e=>by
  rw[List.map_cons,List.nodup_cons] at hn;rcases List.mem_cons.1 hx with rfl | zo <;> rcases List.mem_cons.1 hy with rfl | hy'
  ·rfl
  ·exact absurd (List.mem_map.2 ⟨y,hy',e.symm⟩) hn.1
  ·exact absurd (List.mem_map.2 ⟨x,zo,e⟩) hn.1
  ·exact qO hn.2 zo hy' e
def yP (gs:List GX) (k:List UInt8) (y:GX):List GX:=gs.map fun z=>if z.key=k then y else z
theorem uT {β:Type} {f:GX→β} {k:List UInt8} {y x:GX} (hx:x∈gs) (hn:(gs.map (·.key)).Nodup) (hk:x.key=k) (hf:f y = f x):(yP gs k y).map f = gs.map f:=by
 unfold yP;rw[List.map_map];apply List.map_congr_left;intro z hz;simp only[Function.comp_apply];split
 ·rename_i he;have:z = x:=qO hn hz hx (by rw[he,hk]);rw[this,hf]
 ·rfl
theorem dO.upd (h:dO w base ge b rec now B gs) {x y:GX} {m B':Nat} (hx:x∈gs) (hg:w.grownBy w' (some m)) (hm:m = x.gb∨m = x.cb) (hy:wG w' base y) (hk:y.key=x.key) (hgb:y.gb=x.gb) (hcb:y.cb=x.cb) (aq6:y.g.number≤B') (ab5:y.g.jH.now≤now) (hB:B≤B') :
 dO w' base ge b rec now B' (yP gs x.key y):=by
 have hx1:=h.at_ x hx;have hmc:∃te cs,aG w m te cs∧te≠118∧te≠33:=by
  rcases hm with rfl | rfl
  ·exact⟨_,_,hx1.blk,δ,δ⟩
  ·exact⟨_,_,hx1.jH.blk,δ,δ⟩
 obtain⟨tm,cm,hBm,ht1,ht2⟩:=hmc;have hne:∀(g:Nat) te cs,aG w g te cs→te≠tm→some g≠some m:=fun g te cs hB hT e=>by
  injection e with e;subst e
  unfold aG at hBm hB;rw[hBm] at hB;simp only[Option.some.injEq,Obj.cells.injEq] at hB;exact hT hB.2.1.symm
 have nT:∀z∈yP gs x.key y,z = y∨(z∈gs∧z.key≠x.key):=fun z hz=>by
  obtain⟨z',hz',rfl⟩:=List.mem_map.1 hz;by_cases e:z'.key=x.key
  ·exact .inl (by simp only[e,if_true])
  ·exact .inr ⟨by simp only[e,if_false];exact hz',by simp only[e,if_false];exact fun e2=>(e e2).elim⟩
 refine⟨h.blk.aQ hg (hne _ _ _ h.blk (Ne.symm ht1)),?_,by rw[uT hx h.nd rfl hk];exact h.nd,by rw[uT hx h.nd rfl hgb];exact h.gnd,by rw[uT hx h.nd rfl hcb];exact h.cnd,fun z hz=> ?_,fun z hz=> ?_,fun z hz=> ?_,h.ege,h.Zp⟩
 ·obtain⟨n,h1,h2⟩:=h.map;refine⟨n,ω,?_⟩;have:pU (yP gs x.key y)=pU gs:=uT (f:=fun x=>(x.key,x.gb)) hx h.nd rfl (by rw[hk,hgb]);rw[this];exact h2.kept hg (fun e=>by injection e with e;exact h2.aY _ _ _ (by rw[e];exact hBm))
 ·rcases nT z hz with rfl | ⟨hz1,hz2⟩
  ·exact hy
  ·have hz3:=h.at_ z hz1;have hzx:z≠x:=fun e=>hz2 (by rw[e])
   refine hz3.aQ hg (fun e=> ?_) (fun e=> ?_) (fun m' hm' cur te fz hc e=> ?_)
   ·injection e with e
    rcases hm with hm | hm
    ·exact hzx (qO h.gnd hz1 hx (by rw[e,hm]))
    ·rw[hm] at e;have h3:=hz3.blk;rw[e] at h3;have h4:=hx1.jH.blk;unfold aG at h3 h4;rw[h3] at h4;simp only[Option.some.injEq,Obj.cells.injEq] at h4;have h5:=h4.2.1;revert h5;decide
   ·injection e with e
    rcases hm with hm | hm
    ·rw[hm] at e;have h3:=hz3.jH.blk;rw[e] at h3;have h4:=hx1.blk;unfold aG at h3 h4;rw[h3] at h4;simp only[Option.some.injEq,Obj.cells.injEq] at h4;have h5:=h4.2.1;revert h5;decide
    ·exact hzx (qO h.cnd hz1 hx (by rw[e,hm]))
   ·injection hm' with hm';subst hm'
    unfold aG at hBm;rw[hBm] at hc;simp only[Option.some.injEq,Obj.cells.injEq] at hc;rw[←hc.2.1] at e;exact ht2 e
 ·rcases nT z hz with rfl | ⟨hz1,_⟩
  ·exact aq6
  ·exact Nat.le_trans (h.num z hz1) hB
 ·rcases nT z hz with rfl | ⟨hz1,_⟩
  ·exact ab5
  ·exact h.jH z hz1
theorem dO.put (h:dO w base ge b rec now B gs) {y:GX} (hB:B+1≤1000000) (hy:wG w base y) (hno:fZ (pU gs) y.key=none) (hgb:∀x∈gs,x.gb≠y.gb) (hcb:∀x∈gs,x.cb≠y.cb) (aq6:y.g.number≤B+1) (ab5:y.g.jH.now≤now) :
 ∃w',(Instr.mapUpdate 116 (.map (some b)) (.string ⟨y.key.toArray⟩) (.pointer (some ⟨y.gb,0,none⟩))).run Tryz.prog w =.ok () w'∧dO w' base ge b rec now (B+1) (gs++[y])∧w.grownBy w' (some b):=by
 obtain⟨n,h1,h2⟩:=h.map;obtain⟨w',hr,hM,hg⟩:=h2.put ω (by have:=hy.kl;omega) hno y.gb;have hne:∀(g:Nat) te cs,aG w g te cs→some g≠some b:=fun g te cs hB e=>by injection e with e;subst e;exact h2.aY _ _ _ hB
 have hk:∀x,wG w base x→wG w' base x:=fun x hx=>hx.aQ hg (hne _ _ _ hx.blk) (hne _ _ _ hx.jH.blk) (fun m hm cur te fz hc=>by injection hm with hm;subst hm;exact (h2.aY _ _ _ hc).elim)
 have hkey:∀x∈gs,x.key≠y.key:=fun x hx e=>by
  have:fZ (pU gs) y.key=some x.gb:=vN (by unfold pU;rw[List.map_map];exact h.nd) (List.mem_map.2 ⟨x,hx,by rw[e]⟩);rw[hno] at this;cases this
 have hnd:∀{β:Type} (f:GX→β),(gs.map f).Nodup→(∀x∈gs,f x≠f y)→((gs++[y]).map f).Nodup:=fun f hn hf=>by
  rw[List.map_append,List.nodup_append];refine⟨hn,by simp,fun a ha c hc=> ?_⟩;obtain⟨x,hx,rfl⟩:=List.mem_map.1 ha;simp only[List.map_cons,List.map_nil,List.mem_singleton] at hc;subst hc;exact hf x hx
 refine⟨w',hr,⟨h.blk.aQ hg (hne _ _ _ h.blk),⟨n + 1,ω,?_⟩,hnd _ h.nd hkey,hnd _ h.gnd hgb,hnd _ h.cnd hcb,?_,?_,?_,h.ege,h.Zp⟩,hg⟩
 ·unfold pU;rw[List.map_append];exact hM
 ·intro x hx;rcases List.mem_append.1 hx with h3 | h3
  ·exact hk x (h.at_ x h3)
  ·rw[List.mem_singleton] at h3;subst h3;exact hk _ hy
 ·intro x hx;rcases List.mem_append.1 hx with h3 | h3
  ·exact Nat.le_succ_of_le (h.num x h3)
  ·rw[List.mem_singleton] at h3;subst h3;exact aq6
 ·intro x hx;rcases List.mem_append.1 hx with h3 | h3
  ·exact h.jH x h3
  ·rw[List.mem_singleton] at h3;subst h3;exact ab5
end
theorem NT {gs:List GX} (hn:(gs.map (·.key)).Nodup) {x:GX} (hx:x∈gs):uD (dK gs) x.key=some x.g:=by
 have:uD (dK gs) x.key=fZ (dK gs) x.key:=rfl;rw[this];exact vN (by unfold dK;rw[List.map_map];exact hn) (List.mem_map.2 ⟨x,hx,rfl⟩)
theorem agn {gs:List GX} {k:List UInt8} (h:fZ (pU gs) k=none):uD (dK gs) k=none:=by
 refine Ak fun x hx e=> ?_
 obtain⟨z,hz,rfl⟩:=List.mem_map.1 hx;unfold fZ at h;rw[Option.map_eq_none_iff,List.find?_eq_none] at h;have:=h (z.key,z.gb) (List.mem_map.2 ⟨z,hz,rfl⟩);simp only[decide_eq_true_eq] at this;exact this e
theorem OU {gs:List GX} {k:List UInt8} {n:Nat} (h:fZ (pU gs) k=some n):∃x∈gs,x.key=k∧x.gb=n:=by
 have:=J9 h;obtain⟨x,hx,e⟩:=List.mem_map.1 this;injection e with e1 e2
 exact⟨x,hx,e1,e2⟩
theorem Ox {gs:List GX} (hn:(gs.map (·.key)).Nodup) {x y:GX} (hx:x∈gs) (hk:y.key=x.key):dK (yP gs x.key y)=qJ (dK gs) x.key y.g:=by
 unfold qJ;rw[NT hn hx];simp only[Option.isSome_some,if_true];unfold yP dK;rw[List.map_map,List.map_map];apply List.map_congr_left;intro z hz;simp only[Function.comp_apply];split
 ·rw[hk]
 ·rfl
theorem nN.next {S:Nat→Prop} {a b c:World} {row:Option Nat} (h:nN S a b) (hg:b.grownBy c row) (hr:∀k,row=some k→S k∨a.heap.size≤k):nN S a c:=
 ⟨hg.os.trans h.os,hg.tape.trans h.tape,hg.output.trans h.output,Nat.le_trans h.size hg.size,fun j hj hn=>(hg.block j (Nat.lt_of_lt_of_le hj h.size) (fun e=>by rcases hr j e.symm with h1 | h1;exact hn h1;omega)).trans (h.block j hj hn)⟩
theorem nN.iw {S:Nat→Prop} {a b c:World} (h:nN S a b) (hg:ah b c):nN S a c:=h.trans (hg.off S)
theorem dH.row {w w':World} {base:Nat} {x:fO} {row:Option Nat} (h:dH w base x) (hg:w.grownBy w' row) (ht:∀m,row=some m→∀cur te fz,w.heap[m]? = some (.cells cur te fz)→te≠88∧te≠65):dH w' base x:=
 ⟨h.fP.kept' hg (fun j hj hv=>by obtain⟨cur,hc⟩:=bV h.fP hv;exact (ht j hj _ _ _ hc).1 rfl),h.ts.kept' hg (fun j hj hv=>by obtain⟨cur,hc⟩:=bV h.ts hv;exact (ht j hj _ _ _ hc).2 rfl),
  fun y hy=>(h.at_ y hy).fP hg (fun j hj hv=>by obtain⟨cur,hc⟩:=bV (h.at_ y hy).1 hv;exact (ht j hj _ _ _ hc).1 rfl),h.ble,h.Tm,h.tle⟩
def ag_:List TypeId:=[130,180,53,64]
structure uh (T:List TypeId) (w w':World):Prop where
 size:w.heap.size≤w'.heap.size
 kept:∀(g:Nat) (cur:Array Value) (te:TypeId) (fz:Nat×Nat),w.heap[g]? = some (Obj.cells cur te fz)→te∉T→w'.heap[g]? = w.heap[g]?
theorem uh.refl (T:List TypeId) (w:World):uh T w w:=⟨Nat.le_refl _,fun _ _ _ _ _ _=>rfl⟩
theorem uh.trans {T:List TypeId} {a b c:World} (h:uh T a b) (k:uh T b c):uh T a c:=⟨Nat.le_trans h.size k.size,fun g cur te fz hg ht=>(k.kept g cur te fz ((h.kept g cur te fz hg ht).trans hg) ht).trans (h.kept g cur te fz hg ht)⟩
theorem uh.grows {T:List TypeId} {a b:World} (hg:ah a b):uh T a b:=⟨hg.size,fun g _ _ _ h _=>hg.below.block g (Dh h)⟩
theorem uh.row {T:List TypeId} {w w':World} {row:Option Nat} (hg:w.grownBy w' row) (ht:∀m,row=some m→∀cur te fz,w.heap[m]? = some (.cells cur te fz)→te∈T):uh T w w':=
 ⟨hg.size,fun g cur te fz h hn=>hg.block g (Dh h) (fun e=>hn (ht g e.symm cur te fz h))⟩
theorem uh.own {α:Type} {T:List TypeId} {w w':World} {b0 k:Nat} {e:TypeId} {enc:α→List Value} {v:Value} {xs:List α} (h:Own w b0 e k enc v xs) (hT:uh T w w') (he:e∉T):Own w' b0 e k enc v xs:=by
 refine⟨h.1,?_⟩;rcases h.2 with h2 | ⟨g,cap,cur,hv,hb,hh,r⟩
 ·exact .inl h2
 ·exact .inr ⟨g,cap,cur,hv,hb,(hT.kept g _ _ _ hh he).trans hh,r⟩
theorem uh.blk {T:List TypeId} {g:Nat} {a b:World} {te:TypeId} {cs:Array Value} (h:uh T a b) (hb:aG a g te cs) (ht:te∉T):aG b g te cs:=(h.kept g _ _ _ hb ht).trans hb
structure oh (S:Nat→Prop) (w0 W:World) (pc:Array Value) (ge ab:Nat) (now:Int) (oA:Option Addr) (om ok:Nat) (ys:List dD) (g1 g2 g3 g4 g5 g6:Nat) (v:Value) (ls:List fO):Prop where
 off:nN S w0 W
 b1:aG W g1 51 #[.pointer (some ⟨ge,0,none⟩)]
 b2:aG W g2 50 pc
 b3:aG W g3 122 #[.map (some ab)]
 b4:aG W g4 3 #[.int .i64 now]
 b5:aG W g5 59 #[.slice oA om ok]
 b6:aG W g6 53 #[v]
 g6n:w0.heap.size≤g6
 own:Own W w0.heap.size 57 6 tH (.slice oA om ok) ys
 out:Own W w0.heap.size 64 6 kE v ls
 outs:∀x∈ls,dH W w0.heap.size x
theorem oh.o {S:Nat→Prop} {w0 W:World} {pc:Array Value} {ge ab:Nat} {now:Int} {oA:Option Addr} {om ok:Nat} {ys:List dD} {g1 g2 g3 g4 g5 g6:Nat} {v:Value} {ls:List fO} (h:oh S w0 W pc ge ab now oA om ok ys g1 g2 g3 g4 g5 g6 v ls):Own W w0.heap.size 64 6 kE v ls:=h.out
section
variable {S:Nat→Prop} {w0 W W':World} {pc:Array Value} {ge ab:Nat} {now:Int} {oA:Option Addr} {om ok:Nat} {ys:List dD} {g1 g2 g3 g4 g5 g6:Nat} {v:Value} {ls:List fO}
theorem oh.grows (h:oh S w0 W pc ge ab now oA om ok ys g1 g2 g3 g4 g5 g6 v ls) (hg:ah W W'):oh S w0 W' pc ge ab now oA om ok ys g1 g2 g3 g4 g5 g6 v ls:=
 ⟨h.off.iw hg,h.b1.grows hg,h.b2.grows hg,h.b3.grows hg,h.b4.grows hg,h.b5.grows hg,h.b6.grows hg,h.g6n,h.own.grows hg,h.o.grows hg,fun x hx=>(h.outs x hx).grows hg⟩
theorem oh.turn (h:oh S w0 W pc ge ab now oA om ok ys g1 g2 g3 g4 g5 g6 v ls) {m:Nat} (hg:W.grownBy W' (some m)) (hm:S m∨w0.heap.size≤m) (ht:∀cur te fz,W.heap[m]? = some (.cells cur te fz)→te=130∨te=180):oh S w0 W' pc ge ab now oA om ok ys g1 g2 g3 g4 g5 g6 v ls:=by
 have hne:∀(g:Nat) te cs,aG W g te cs→te≠130→te≠180→some g≠some m:=fun g te cs hB h1 h2 e=>by
  injection e with e;subst e
  rcases ht _ _ _ hB with h3 | h3
  ·exact h1 h3
  ·exact h2 h3
 have hO:∀{α:Type} {k:Nat} {e:TypeId} {enc:α→List Value} {u:Value} {xs:List α},Own W w0.heap.size e k enc u xs→e≠130→e≠180→Own W' w0.heap.size e k enc u xs:=fun hO h1 h2=>
  hO.kept' hg (fun j hj hv=>by obtain⟨cur,hc⟩:=bV hO hv;exact hne j _ _ hc h1 h2 (by rw[hj]))
 refine⟨h.off.next hg (fun k hk=>by injection hk with hk;subst hk;exact hm),h.b1.aQ hg (hne _ _ _ h.b1 δ δ),h.b2.aQ hg (hne _ _ _ h.b2 δ δ),h.b3.aQ hg (hne _ _ _ h.b3 δ δ),h.b4.aQ hg (hne _ _ _ h.b4 δ δ),h.b5.aQ hg (hne _ _ _ h.b5 δ δ),h.b6.aQ hg (hne _ _ _ h.b6 δ δ),h.g6n,hO h.own δ δ,hO h.o δ δ,fun x hx=>(h.outs x hx).row hg (fun j hj cur te fz hc=> ?_)⟩;injection hj with hj;subst hj
 rcases ht _ _ _ hc with rfl | rfl <;> constructor <;> decide
end
def wF (S:Nat→Prop) (w0:World) (gs:List GX):Prop:=∀x∈gs,(S x.gb∨w0.heap.size≤x.gb)∧(S x.cb∨w0.heap.size≤x.cb)
theorem wF.upd {S:Nat→Prop} {w0:World} {gs:List GX} (h:wF S w0 gs) {k:List UInt8} {x y:GX} (hx:x∈gs) (h1:y.gb=x.gb) (h2:y.cb=x.cb):wF S w0 (yP gs k y):=fun z hz=>by
 obtain⟨z',hz',rfl⟩:=List.mem_map.1 hz;split
 ·rw[h1,h2];exact h x hx
 ·exact h z' hz'
theorem wF.put {S:Nat→Prop} {w0:World} {gs:List GX} (h:wF S w0 gs) {y:GX} (h1:w0.heap.size≤y.gb) (h2:w0.heap.size≤y.cb):wF S w0 (gs++[y]):=fun z hz=>by
 rcases List.mem_append.1 hz with h3 | h3
 ·exact h z h3
 ·rw[List.mem_singleton] at h3;subst h3;exact⟨.inr h1,.inr h2⟩
def oV (W:World) (ab B:Nat) (asked:List (List UInt8)):Prop:=∃n,n≤B∧jg Tryz.prog 9 4 W ab n (asked.map fun k=>(k,Lit.bool true))
theorem oV.kept {W W':World} {ab B:Nat} {asked:List (List UInt8)} {row:Option Nat} (h:oV W ab B asked) (hg:W.grownBy W' row) (hne:some ab≠row):oV W' ab B asked:=by
 obtain⟨n,h1,h2⟩:=h;exact⟨n,h1,h2.kept hg hne⟩
theorem oV.grows {W W':World} {ab B:Nat} {asked:List (List UInt8)} (h:oV W ab B asked) (hg:ah W W'):oV W' ab B asked:=h.kept (hg.keeps none) σ
theorem oV.aY {W:World} {ab B:Nat} {asked:List (List UInt8)} (h:oV W ab B asked):∀cur e fz,W.heap[ab]?≠some (.cells cur e fz):=by
 obtain⟨n,_,es,clock,hb,_⟩:=h;intro cur e fz hc;rw[hb] at hc;cases hc
def aed (mk:ni→Int→Option N_) (p:bQ) (S:Nat→Prop) (w0 W:World) (base:Nat) (rec:List UInt8) (ge b ab B:Nat) (now:Int) (oA:Option Addr) (om ok:Nat) (ys:List dD) (g1 g2 g3 g4 g5 g6:Nat) (gs:List GX) (asked:List (List UInt8)) (ls:List fO) (x:ni) (e:Ending) (W':World):Prop:=
 e =.returned (.tuple #[])∧∃(gs':List GX) (v':Value) (RY:List fO),oh S w0 W' p.cells.toArray ge ab now oA om ok ys g1 g2 g3 g4 g5 g6 v' RY∧dO W' base ge b rec now (B+1) gs'∧wF S w0 gs'∧oV W' ab (B+1) (asked++[dw x.route x.fP])∧RY.length≤B+1∧uh ag_ W W'∧
  dK gs'=(KX mk p.aU now ⟨dK gs,asked,ls.map (·.xM)⟩ x).gs∧RY.map (·.xM)=(KX mk p.aU now ⟨dK gs,asked,ls.map (·.xM)⟩ x).out
theorem agm {gs:List (List UInt8×A_)} {k:List UInt8} {g:A_} (h:uD gs k=none):uD (gs++[(k,g)]) k=some g:=by
 have h1:fZ gs k=none:=h;have:uD (gs++[(k,g)]) k=fZ (gs++[(k,g)]) k:=rfl;rw[this,Aj h1,if_pos rfl]
theorem UC {gs:List (List UInt8×A_)} {k:List UInt8} (h:uD gs k=none):∀x∈gs,x.1≠k:=by
 unfold uD at h;rw[Option.map_eq_none_iff,List.find?_eq_none] at h;exact fun x hx e=>h x hx (by simpa using e)
theorem aeH {gs:List (List UInt8×A_)} {k:List UInt8} {g g':A_} (h:uD gs k=none):qJ (gs++[(k,g)]) k g'=qJ gs k g':=by
 unfold qJ;rw[agm h,h];simp only[Option.isSome_some,Option.isSome_none,if_true,Bool.false_eq_true,if_false];rw[List.map_append];congr 1
 ·rw[show gs=gs.map id by simp,List.map_map];apply List.map_congr_left;intro x hx;simp only[Function.comp_apply,id];rw[if_neg (UC h x (by simpa using hx))]
 ·simp
theorem TP {gs:List (List UInt8×A_)} {k:List UInt8} {g g':A_} (h:(uD gs k).isSome):qJ (qJ gs k g) k g'=qJ gs k g':=by
 have e1:qJ gs k g = gs.map (fun x=>if x.1=k then (k,g) else x):=by unfold qJ;rw[if_pos h]
 have e2:qJ gs k g'=gs.map (fun x=>if x.1=k then (k,g') else x):=by unfold qJ;rw[if_pos h]
 have h3:(uD (gs.map (fun x=>if x.1=k then (k,g) else x)) k).isSome:=by
  cases hn:uD (gs.map (fun x=>if x.1=k then (k,g) else x)) k with
  | some _=>rfl
  | none=>
   have h4:=UC hn;cases hk:uD gs k with
   | none=>rw[hk] at h;cases h
   | some g0=>
    have:(k,g0)∈gs:=J9 (show fZ gs k=some g0 from hk);exact absurd (by simp:((if (k,g0).1=k then (k,g) else (k,g0)):List UInt8×A_).1=k) (h4 _ (List.mem_map.2 ⟨(k,g0),this,rfl⟩))
 rw[e1,e2];unfold qJ;rw[if_pos h3,List.map_map];apply List.map_congr_left;intro x _;simp only[Function.comp_apply];by_cases e:x.1=k <;> simp[e]
theorem Own.Ua {α:Type} {w w':World} {m b0 k:Nat} {e:TypeId} {enc:α→List Value} {v:Value} {xs:List α} (h:Own w b0 e k enc v xs) (hg:w.grownBy w' (some m)) (hm:∀cur te fz,w.heap[m]?≠some (.cells cur te fz)):Own w' b0 e k enc v xs:=
 h.kept' hg (fun j hj hv=>by injection hj with hj;subst hj;obtain⟨cur,hc⟩:=bV h hv;exact hm _ _ _ hc)
theorem aG.lN {w:World} {g:Nat} {t te:TypeId} {cs cur:Array Value} {fz:Nat×Nat} (h:aG w g t cs) (hc:w.heap[g]? = some (.cells cur te fz)):te=t:=by
 unfold aG at h;rw[h] at hc;simp only[Option.some.injEq,Obj.cells.injEq] at hc;exact hc.2.1.symm
theorem aG.NJ {w:World} {g g':Nat} {t t':TypeId} {cs cs':Array Value} (h:aG w g t cs) (h':aG w g' t' cs') (hn:t≠t'):g≠g':=fun e=>by subst e;exact hn (h'.lN h)
theorem Own.uU {α:Type} {w:World} {base k m c:Nat} {e:TypeId} {enc:α→List Value} {A:Option Addr} {xs:List α} (h:Own w base e k enc (.slice A m c) xs) (hk:∀x,(enc x).length=k):bW w k enc A m xs:=by
 obtain⟨A',c',he,-,-,hX⟩:=h.arr hk;simp only[Value.slice.injEq] at he;obtain⟨rfl,rfl,rfl⟩:=he;exact hX
theorem abZ (x:dD):(tH x).length=6:=rfl
theorem adp {gs:List GX} {x y:GX} (hx:x∈gs):y∈yP gs x.key y:=List.mem_map.2 ⟨x,hx,by simp⟩
theorem asy:fB Tryz.prog 53 64 6 96:=fB.mk' (z:=.agg #[.string ⟨#[]⟩,.string ⟨#[]⟩,.int .i64 0,.int .i64 0,.slice none 0 0,.slice none 0 0]) Tryz.underlying53 κ rfl ω
theorem aja (x:fO):∀u∈kE x,u.oneCell'=true:=by
 intro u hu;simp only[kE,List.mem_cons,List.not_mem_nil,or_false] at hu;rcases hu with rfl | rfl | rfl | rfl | rfl | rfl <;> rfl
theorem Ub (o:Option fO):∃(s1 s2:ByteArray) (n t:Int) (A:Option Addr) (m k:Nat) (A':Option Addr) (m' k':Nat),aqF o = #[.string s1,.string s2,.int .i64 n,.int .i64 t,.slice A m k,.slice A' m' k']:=by
 cases o with
 | none=>exact⟨_,_,_,_,_,_,_,_,_,_,rfl⟩
 | some x=>exact⟨_,_,_,_,_,_,_,_,_,_,rfl⟩
theorem oh.push {S:Nat→Prop} {w0 W W1:World} {pc:Array Value} {ge ab:Nat} {now:Int} {oA:Option Addr} {om ok:Nat} {ys:List dD} {g1 g2 g3 g4 g5 g6:Nat} {v v':Value} {ls:List fO} {z:fO} (h:oh S w0 W pc ge ab now oA om ok ys g1 g2 g3 g4 g5 g6 v ls)
 (hO:Own W1 w0.heap.size 64 6 kE v' (ls++[z])) (hg:W.grownBy W1 v.ownBlock) (hz:dH W w0.heap.size z):oh S w0 (W1.setCell ⟨g6,0,none⟩ v') pc ge ab now oA om ok ys g1 g2 g3 g4 g5 g6 v' (ls++[z]):=by
 have NP:∀m,v.ownBlock=some m→w0.heap.size≤m∧∃cs,aG W m 64 cs:=h.o.nZ;have hne:∀{g:Nat} {te:TypeId} {cs:Array Value},aG W g te cs→te≠64→some g≠v.ownBlock:=fun hB h1 e=>by
  obtain⟨cs,h2⟩:=(NP _ e.symm).2;exact hB.NJ h2 h1 rfl
 have hOk:∀{α:Type} {k:Nat} {e:TypeId} {enc:α→List Value} {u:Value} {xs:List α},Own W w0.heap.size e k enc u xs→e≠64→Own W1 w0.heap.size e k enc u xs:=fun hO h1=>
  hO.kept' hg (fun j hj hv=>by obtain⟨cs,h2⟩:=(NP j hj).2;exact aZ hO h2 h1 hv)
 have b6:=h.b6.aQ hg (hne h.b6 δ);have hs:=aj W1 ⟨g6,0,none⟩ v';have Sz:∀{g:Nat} {te:TypeId} {cs:Array Value},aG W1 g te cs→te≠53→some g≠some g6:=fun hB h1 e=>by injection e with e;exact hB.NJ b6 h1 e
 have awK:∀{α:Type} {k:Nat} {e:TypeId} {enc:α→List Value} {u:Value} {xs:List α},Own W1 w0.heap.size e k enc u xs→e≠53→Own (W1.setCell ⟨g6,0,none⟩ v') w0.heap.size e k enc u xs:=fun hO h1=>
  hO.kept' hs (fun j hj hv=>by injection hj with hj;subst hj;exact aZ hO b6 h1 hv)
 have hB:∀{g:Nat} {te:TypeId} {cs:Array Value},aG W g te cs→te≠64→te≠53→aG (W1.setCell ⟨g6,0,none⟩ v') g te cs:=fun hB h1 h2=>(hB.aQ hg (hne hB h1)).aQ hs (Sz (hB.aQ hg (hne hB h1)) h2)
 have hL:∀x,dH W w0.heap.size x→dH (W1.setCell ⟨g6,0,none⟩ v') w0.heap.size x:=fun x hx=>(hx.row hg (fun m hm cur te fz hc=>by obtain⟨cs,h2⟩:=(NP m hm).2;rw[h2.lN hc];constructor <;> decide)).row hs (fun m hm cur te fz hc=>by injection hm with hm;subst hm;rw[b6.lN hc];constructor <;> decide)
 refine⟨(h.off.next hg (fun m hm=> .inr (NP m hm).1)).next hs (fun m hm=>by injection hm with hm;subst hm;exact .inr h.g6n),hB h.b1 δ δ,hB h.b2 δ δ,hB h.b3 δ δ,hB h.b4 δ δ,hB h.b5 δ δ,(b6.bH 0 v').cast σ,h.g6n,awK (hOk h.own δ) δ,awK hO δ,fun x hx=> ?_⟩;rcases List.mem_append.1 hx with h1 | h1
 ·exact hL x (h.outs x h1)
 ·rw[List.mem_singleton] at h1;subst h1;exact hL _ hz
theorem aa2 {S:Nat→Prop} {w0 W W1:World} {pc:Array Value} {ge ab:Nat} {now:Int} {oA:Option Addr} {om ok:Nat} {ys:List dD} {g1 g2 g3 g4 g5 g6:Nat} {v:Value} {ls:List fO} (h:oh S w0 W pc ge ab now oA om ok ys g1 g2 g3 g4 g5 g6 v ls) (hg:W.grownBy W1 v.ownBlock) (v':Value) :
 (∀m,v.ownBlock=some m→∀cur te fz,W.heap[m]? = some (.cells cur te fz)→te=64)∧(∀m,some g6=some m→∀cur te fz,W1.heap[m]? = some (.cells cur te fz)→te=53)∧W1.grownBy (W1.setCell ⟨g6,0,none⟩ v') (some g6)∧
 (∀m,(∀cur te fz,W.heap[m]?≠some (.cells cur te fz))→some m≠v.ownBlock)∧(∀m,m < W.heap.size→(∀cur te fz,W.heap[m]?≠some (.cells cur te fz))→some m≠some g6):=by
 have NP:∀m,v.ownBlock=some m→w0.heap.size≤m∧∃cs,aG W m 64 cs:=h.o.nZ;refine⟨fun m hm cur te fz hc=> ?_,fun m hm cur te fz hc=> ?_,aj _ _ _,fun m hm e=> ?_,fun m _ hm e=> ?_⟩
 ·obtain⟨cs,h2⟩:=(NP m hm).2;exact h2.lN hc
 ·injection hm with hm;subst hm
  exact (h.b6.aQ hg (fun e=>by obtain⟨cs,h2⟩:=(NP _ e.symm).2;exact h.b6.NJ h2 δ rfl)).lN hc
 ·obtain⟨cs,h2⟩:=(NP m e.symm).2;exact hm _ _ _ h2
 ·injection e with e;subst e;exact hm _ _ _ h.b6
theorem ag9 {mk:ni→Int→Option N_} {p:fQ} {now:Int} {gs:List (List UInt8×A_)} {asked:List (List UInt8)} {lt:List N_} {xr xk:Nat} {He:List bM} {lC:List Nat} {k:List UInt8} {g:A_} (IQ:dw xr He=k) (h2:(uD gs k).getD (RU p xr)=g) :
 KX mk p now ⟨gs,asked,lt⟩ ⟨xr,He,xk,lC⟩=⟨qJ gs k (XH g now lC),asked++[k],if Dk g.jH now lC then lt++(mk ⟨xr,He,xk,lC⟩ ((g.number:Int)+1)).toList else lt⟩:=by
 subst IQ;rw[←h2];rfl
theorem qZ {mk:ni→Int→Option N_} {p:bQ} {S:Nat→Prop} {w0 W W':World} {base:Nat} {rec:List UInt8} {ge b ab B:Nat} {now:Int} {oA:Option Addr} {om ok:Nat} {ys:List dD} {g1 g2 g3 g4 g5 g6:Nat} {gs gs':List GX} {asked:List (List UInt8)} {v':Value} {ls RY:List fO} {xr xk:Nat} {He:List bM} {lC:List Nat} {k:List UInt8} {g:A_} (IQ:dw xr He=k) (h2:(uD (dK gs) k).getD (RU p.aU xr)=g)
 (BN:oh S w0 W' p.cells.toArray ge ab now oA om ok ys g1 g2 g3 g4 g5 g6 v' RY) (hE:dO W' base ge b rec now (B+1) gs') (Nk:wF S w0 gs') (hA:oV W' ab (B+1) (asked++[k])) (hll:RY.length≤B+1) (hT:uh ag_ W W')
 (nD:dK gs'=qJ (dK gs) k (XH g now lC)) (hls:RY.map (·.xM)=if Dk g.jH now lC then ls.map (·.xM)++(mk ⟨xr,He,xk,lC⟩ ((g.number:Int)+1)).toList else ls.map (·.xM)) :
 aed mk p S w0 W base rec ge b ab B now oA om ok ys g1 g2 g3 g4 g5 g6 gs asked ls ⟨xr,He,xk,lC⟩ (.returned (.tuple #[])) W':=by
 have hp:=ag9 (mk:=mk) (p:=p.aU) (now:=now) (asked:=asked) (lt:=ls.map (·.xM)) (xk:=xk) (lC:=lC) IQ h2;refine⟨rfl,gs',v',RY,BN,hE,Nk,by simp only[IQ];exact hA,hll,hT,?_,?_⟩
 ·rw[hp];exact nD
 ·rw[hp];exact hls
theorem Tt {n B:Nat} (h:n≤B) (hB:B+1≤1000000):wrap64 ((n:Int)+1)=(n:Int)+1:=Go.IntWalk.wrap64_in _ ⟨ω,ω⟩
theorem alm {x:GX} {n B:Nat} (h:x.g.number=n) (hn:n≤B):x.g.number+1≤B+1:=ω
theorem dO.count {S:Nat→Prop} {w0 w:World} {base ge b B:Nat} {rec:List UInt8} {now:Int} {gs:List GX} (h:dO w base ge b rec now B gs) (hN:wF S w0 gs) {x:GX} (hx:x∈gs) (hn:x.g.number+1≤B) :
 ∃gs',dO (w.setCell ⟨x.gb,8,none⟩ (.int .i64 ((x.g.number:Int)+1))) base ge b rec now B gs'∧wF S w0 gs'∧dK gs'=qJ (dK gs) x.key {x.g with number:=x.g.number+1}:=by
 have hg:=aj w ⟨x.gb,8,none⟩ (.int .i64 ((x.g.number:Int)+1));have hx1:=h.at_ x hx;have hy:wG (w.setCell ⟨x.gb,8,none⟩ (.int .i64 ((x.g.number:Int)+1))) base {x with g:={x.g with number:=x.g.number+1}}:=
  ⟨(hx1.blk.bH 8 _).cast (by unfold Nr;simp),hx1.jH.aQ hg (fun e=>by injection e with e;exact hx1.jH.blk.NJ hx1.blk δ e) (fun m hm cur te fz hc=>by injection hm with hm;subst hm;rw[hx1.blk.lN hc];decide),hx1.Z9,hx1.cge,hx1.kl⟩
 exact⟨_,h.upd (y:={x with g:={x.g with number:=x.g.number+1}}) hx hg (.inl rfl) hy rfl rfl rfl hn (h.jH x hx) (Nat.le_refl _),hN.upd hx rfl rfl,Ox h.nd hx rfl⟩
theorem Zz {S:Nat→Prop} {w0 W0 W W1:World} {pc:Array Value} {base ge b ab B':Nat} {rec:List UInt8} {now:Int} {oA:Option Addr} {om ok:Nat} {ys:List dD} {g1 g2 g3 g4 g5 g6:Nat} {v v':Value} {ls:List fO} {z:fO} {gs:List GX} {asked:List (List UInt8)}
 (h:oh S w0 W pc ge ab now oA om ok ys g1 g2 g3 g4 g5 g6 v ls) (hE:dO W base ge b rec now B' gs) (hA:oV W ab B' asked) (hT:uh ag_ W0 W) (hO:Own W1 w0.heap.size 64 6 kE v' (ls++[z])) (hg:W.grownBy W1 v.ownBlock) (hz:dH W w0.heap.size z) :
 oh S w0 (W1.setCell ⟨g6,0,none⟩ v') pc ge ab now oA om ok ys g1 g2 g3 g4 g5 g6 v' (ls++[z])∧dO (W1.setCell ⟨g6,0,none⟩ v') base ge b rec now B' gs∧oV (W1.setCell ⟨g6,0,none⟩ v') ab B' asked∧uh ag_ W0 (W1.setCell ⟨g6,0,none⟩ v'):=by
 obtain⟨t1,t2,hs,t3,t4⟩:=aa2 h hg v';obtain⟨n,-,hM⟩:=hE.map;have DW:ab<W.heap.size:=by obtain⟨n2,-,h2⟩:=hA;exact World.ownsMap.lt h2
 refine⟨h.push hO hg hz,(hE.other hg (t3 b hM.aY) (fun m hm cur te fz hc=>by rw[t1 m hm cur te fz hc];decide)).other hs (t4 b hM.lt hM.aY) (fun m hm cur te fz hc=>by rw[t2 m hm cur te fz hc];decide),
  (hA.kept hg (t3 ab hA.aY)).kept hs (t4 ab DW hA.aY),hT.trans ((uh.row hg (fun m hm cur te fz hc=>by rw[t1 m hm cur te fz hc];decide)).trans (uh.row hs (fun m hm cur te fz hc=>by rw[t2 m hm cur te fz hc];decide)))⟩
structure alT (p:bQ) (ys:List dD) (W:World):Prop where
 aU:p.At W
 at_:∀y∈ys,y.At W
 lib:oJ W
 utf:oI W
theorem Ci (a b:List UInt8):(Lit.string a).sameKey (.string b)=decide (a = b):=by
 by_cases h:a = b
 ·subst h;rw[WideAt.sameKey_self (zi _)];simp
 ·rw[Maps.sameKey_ne (fun e=>h (Lit.string.inj e))];simp[h]
theorem keyOf_str {key:Value} {kl:Lit} (h:keyOf Tryz.prog 9 key=some kl):∃s:List UInt8,key=.string ⟨s.toArray⟩∧kl=.string s:=by
 have hu:=Tryz.underlying9;cases key <;> simp[keyOf,hu,mapKey] at h
 rename_i s;obtain⟨h1,rfl⟩:=h;refine⟨s.data.toList,by cases s;rfl,?_⟩;try rfl
def Bd (p:fQ) (left:Lit→Bool) (x:GX):Bool:=left (.string x.key)||uX p x.g
theorem aog {gs:List GX} (hn:(gs.map (·.key)).Nodup) {x:GX} (hx:x∈gs):fZ (pU gs) x.key=some x.gb:=
 vN (by unfold pU;rw[List.map_map];exact hn) (List.mem_map.2 ⟨x,hx,rfl⟩)
theorem adG {D:DataW Unit} {gs:List GX} (h:Bg D (pU gs)) (hn:(gs.map (·.key)).Nodup) {x:GX} (hx:x∈gs):Maps.has D (.string x.key)=true:=by
 rw[h.has,aog hn hx];rfl
theorem abD {D:DataW Unit} {gs:List GX} (h:Bg D (pU gs)) (hn:(gs.map (·.key)).Nodup) (p:fQ):gs.filter (Bd p (Maps.has D))=gs:=by
 rw[List.filter_eq_self];intro x hx;unfold Bd;rw[adG h hn hx];rfl
theorem ajv {left:Lit→Bool} (h:∀kl,left kl=false) (p:fQ) (gs:List GX):gs.filter (Bd p left)=gs.filter fun x=>uX p x.g:=by
 congr 1
 funext x
 unfold Bd;rw[h];rfl
theorem afE {gs:List GX} (hn:(gs.map (·.key)).Nodup) {p:fQ} {left:Lit→Bool} {x:GX} (hx:x∈gs) (hs:uX p x.g = true):gs.filter (Bd p fun z=>left z && !z.sameKey (.string x.key))=gs.filter (Bd p left):=by
 apply List.filter_congr;intro y hy;unfold Bd;simp only[Ci];by_cases e:y.key=x.key
 ·rw[qO hn hy hx e,hs];simp
 ·simp[e]
theorem afF {gs:List GX} (hn:(gs.map (·.key)).Nodup) {p:fQ} {left:Lit→Bool} {x:GX} (hx:x∈gs) (hs:uX p x.g = false) :
 gs.filter (Bd p fun z=>left z && !z.sameKey (.string x.key))=(gs.filter (Bd p left)).filter fun y=>decide (y.key≠x.key):=by
 rw[List.filter_filter];apply List.filter_congr;intro y hy;unfold Bd;simp only[Ci];by_cases e:y.key=x.key
 ·rw[qO hn hy hx e,hs];simp
 ·simp[e]
theorem agl (gs:List GX) (s:List UInt8):pU (gs.filter fun y=>decide (y.key≠s))=(pU gs).filter fun x=>decide (x.1≠s):=by
 unfold pU;rw[List.filter_map];rfl
theorem akO {gs:List GX} (hn:(gs.map (·.key)).Nodup):((pU gs).map (·.1)).Nodup:=by unfold pU;rw[List.map_map];exact hn
theorem dO.drop {w w':World} {base ge b B:Nat} {rec:List UInt8} {now:Int} {gs:List GX} (h:dO w base ge b rec now B gs) (hg:w.grownBy w' (some b)) {q:GX→Bool} (hM:∃n,n≤B∧wH w' b n (pU (gs.filter q))):dO w' base ge b rec now B (gs.filter q):=by
 obtain⟨n0,-,hM0⟩:=h.map;have hne:∀(g:Nat) te cs,aG w g te cs→some g≠some b:=fun g te cs hB e=>by injection e with e;subst e;exact hM0.aY _ _ _ hB
 have hs:∀x,x∈gs.filter q→x∈gs:=fun x hx=>(List.mem_filter.1 hx).1
 exact⟨h.blk.aQ hg (hne _ _ _ h.blk),hM,List.Nodup.sublist (List.filter_sublist.map _) h.nd,List.Nodup.sublist (List.filter_sublist.map _) h.gnd,List.Nodup.sublist (List.filter_sublist.map _) h.cnd,
  fun x hx=>(h.at_ x (hs x hx)).aQ hg (hne _ _ _ (h.at_ x (hs x hx)).blk) (hne _ _ _ (h.at_ x (hs x hx)).jH.blk) (fun m hm cur te fz hc=>by injection hm with hm;subst hm;exact (hM0.aY _ _ _ hc).elim),
  fun x hx=>h.num x (hs x hx),fun x hx=>h.jH x (hs x hx),h.ege,h.Zp⟩
theorem agf (gs:List GX) (p:fQ):dK (gs.filter fun x=>uX p x.g)=(dK gs).filter fun x=>uX p x.2:=by
 unfold dK;rw[List.filter_map];rfl
def P7 (left:Lit→Bool) (asked:List (List UInt8)) (now:Int) (x:List UInt8×A_):List UInt8×A_:=if left (.string x.1) then x else GU asked now x
theorem ala (asked:List (List UInt8)) (now:Int) (x:List UInt8×A_):(GU asked now x).1=x.1:=by unfold GU;split <;> rfl
theorem ak9 (left:Lit→Bool) (asked:List (List UInt8)) (now:Int) (x:List UInt8×A_):(P7 left asked now x).1=x.1:=by unfold P7;split <;> first | rfl | exact ala _ _ _
theorem agI {L:List (List UInt8×A_)} {left:Lit→Bool} {asked:List (List UInt8)} {now:Int} {s:List UInt8} (hl:left (.string s)=true) :
 L.map (P7 (fun z=>left z && !z.sameKey (.string s)) asked now)=(L.map (P7 left asked now)).map fun z=>if z.1=s then GU asked now z else z:=by
 rw[List.map_map];apply List.map_congr_left;intro z _;simp only[Function.comp_apply,ak9];unfold P7;simp only[Ci];by_cases e:z.1=s
 ·subst e;simp[hl]
 ·simp[e]
theorem acG {L:List (List UInt8×A_)} {asked:List (List UInt8)} {now:Int} {s:List UInt8} (h:s∈asked):(L.map fun z=>if z.1=s then GU asked now z else z)=L:=by
 conv=>rhs;rw[←List.map_id L]
 apply List.map_congr_left;intro z _;by_cases e:z.1=s
 ·rw[if_pos e];unfold GU;rw[if_pos (by rw[e];exact h)];rfl
 ·rw[if_neg e];rfl
theorem ak8 {gs:List GX} (hn:(gs.map (·.key)).Nodup) {x y:GX} {asked:List (List UInt8)} {now:Int} (hx:x∈gs) (hk:y.key=x.key) (hg:y.g = {x.g with jH:=Eu x.g.jH now []}) (ha:x.key∉asked) :
 dK (yP gs x.key y)=(dK gs).map fun z=>if z.1=x.key then GU asked now z else z:=by
 unfold yP dK;rw[List.map_map,List.map_map];apply List.map_congr_left;intro z hz;simp only[Function.comp_apply];by_cases e:z.key=x.key
 ·obtain rfl:=qO hn hz hx e;rw[if_pos rfl,if_pos rfl];unfold GU;rw[if_neg ha,hk,hg]
 ·rw[if_neg e,if_neg e]
theorem acF {D:DataW Unit} {gs:List GX} (h:Bg D (pU gs)) (hn:(gs.map (·.key)).Nodup) (asked:List (List UInt8)) (now:Int):dK gs=(dK gs).map (P7 (Maps.has D) asked now):=by
 conv=>lhs;rw[←List.map_id (dK gs)]
 apply List.map_congr_left;intro z hz;obtain⟨x,hx,rfl⟩:=List.mem_map.1 hz;unfold P7;rw[if_pos (adG h hn hx)];rfl
theorem ak_ {left:Lit→Bool} (h:∀kl,left kl=false) (L:List (List UInt8×A_)) (asked:List (List UInt8)) (now:Int):L.map (P7 left asked now)=L.map (GU asked now):=by
 apply List.map_congr_left;intro z _;unfold P7;rw[h];rfl
theorem oM {w:World} {k:TypeId} {R:Value→Option (DataW Unit×List MemPlace)} {b r n:Nat} {D:DataW Unit} {left:Lit→Bool} {cnt:Nat} (h:w.ranges Tryz.prog k R b r n D left cnt):∀cur e fz,w.heap[r]?≠some (.cells cur e fz):=by
 obtain⟨es,clock,since,seen,c0,_,_,_,_,hr,_⟩:=h;intro cur e fz hc;rw[hr] at hc;cases hc
theorem str_inj {a b:List UInt8} (h:Value.string ⟨a.toArray⟩=Value.string ⟨b.toArray⟩):a = b:=by
 injection h with h
 injection h with h
 simpa using congrArg Array.toList h
def aep (b r:Nat) (k:Nat):Prop:=k=b∨k=r
theorem ak3 {p:bQ} {base ge b B r n g1 g2:Nat} {rec:List UInt8} {now:Int} {gs:List GX} {D:DataW Unit} {wS:World} {Q0:Exit→Act→World→Prop} {x0 x1 x2 x3 x4 x7 x8 x9 Gf E8 BJ Ii E5 Jw DL H6 HY En Hz Em EZ EY EX DK DJ DI Ej Ei Eh Ef Ee Ed Ec Eb Ea D_ D9 D8 EW EU ET ES ER EP EO EN EM EL EK EJ EI Ih Hw F9 D7 EH EG Ig Ie Ic Hu Ht Hr Hq F8 F7 F6 F5 Ho Hl Hg FZ FY FX FV FQ FP FN FM FK Jv Ju Jt Hf FH EF ED EC Ez Ey JM JL Ib Ia Oc L9 L8 tq sZ sW sV sU sS sQ sO sN sK sJ sH uS uj:Value}
 (hp:Hid (∀W,nN (aep b r) wS W→p.At W)) (hb1:Hid (aG wS g1 51 #[.pointer (some ⟨ge,0,none⟩)])) (hb2:Hid (aG wS g2 50 p.cells.toArray)) (hE:Hid (dO wS base ge b rec now B gs)) (hrg0:wS.ranges Tryz.prog 9 yU b r n D (Maps.has D) (Maps.size D)) (hD0:Hid (Bg D (pU gs))) (hn:n≤B) (hbn:∀cur te fz,wS.heap[b]?≠some (.cells cur te fz))
 (hQ0:∀c a d v w,Q0 (.panic c) (Act.put a d v) w→Q0 (.panic c) a w)
 (oO:∀(u13 u14 u41 u42 u43 u44 u45 u46 u47 u48 u49 u50 u51 u52 u53 u54:Value) (wr:World),(Hid (nN (aep b r) wS wr)∧Hid (dO wr base ge b rec now B (gs.filter fun x=>uX p.aU x.g)))→Q0 (.exit 0) ⟨(x0::x1::x2::x3::x4::(.pointer (some ⟨g1,0,none⟩))::(.pointer (some ⟨g2,0,none⟩))::x7::x8::x9::Gf::E8::BJ::u13::u14::Jw::DL::H6::HY::En::Hz::Em::EZ::EY::EX::DK::DJ::DI::Ej::Ei::Eh::Ef::Ee::Ed::Ec::Eb::Ea::D_::D9::D8::(.pointer (some ⟨r,0,none⟩))::u41::u42::u43::u44::u45::u46::u47::u48::u49::u50::u51::u52::u53::u54::Hw::F9::D7::EH::EG::Ig::Ie::Ic::Hu::Ht::Hr::Hq::F8::F7::F6::F5::Ho::Hl::Hg::FZ::FY::FX::FV::FQ::FP::FN::FM::FK::Jv::Ju::Jt::Hf::FH::EF::ED::EC::Ez::Ey::JM::JL::Ib::Ia::Oc::L9::L8::tq::sZ::sW::sV::sU::sS::sQ::sO::sN::sK::sJ::sH::uS::uj::[]).toArray,[]⟩ wr) :
 Code.wp Tryz.prog (Ai Tryz.f13 0) Q0 ⟨(x0::x1::x2::x3::x4::(.pointer (some ⟨g1,0,none⟩))::(.pointer (some ⟨g2,0,none⟩))::x7::x8::x9::Gf::E8::BJ::Ii::E5::Jw::DL::H6::HY::En::Hz::Em::EZ::EY::EX::DK::DJ::DI::Ej::Ei::Eh::Ef::Ee::Ed::Ec::Eb::Ea::D_::D9::D8::(.pointer (some ⟨r,0,none⟩))::EW::EU::ET::ES::ER::EP::EO::EN::EM::EL::EK::EJ::EI::Ih::Hw::F9::D7::EH::EG::Ig::Ie::Ic::Hu::Ht::Hr::Hq::F8::F7::F6::F5::Ho::Hl::Hg::FZ::FY::FX::FV::FQ::FP::FN::FM::FK::Jv::Ju::Jt::Hf::FH::EF::ED::EC::Ez::Ey::JM::JL::Ib::Ia::Oc::L9::L8::tq::sZ::sW::sV::sU::sS::sQ::sO::sN::sK::sJ::sH::uS::uj::[]).toArray,[]⟩ wS:=by
 conv=>arg 2;whnf
 have hqz:=hQ0;clear hqz;have hnd:=ζ hE.o.nd;have hri:=oM hrg0;have hnb:∀{g:Nat} {te:TypeId} {cs:Array Value},aG wS g te cs→¬aep b r g:=fun hB h=>by
  rcases h with rfl | rfl
  ·exact hbn _ _ _ hB
  ·exact hri _ _ _ hB
 have hn1:=hnb hb1.o;have ZO:=hnb hb2.o;have JC:=abD hD0.o hE.o.nd p.aU;clear hnb;replace hri:=ζ hri;replace hbn:=ζ hbn;go_loopw [13,14] (fun _ _ wr=>∃(left:Lit→Bool) (cnt:Nat) (D':DataW Unit),wr.ranges Tryz.prog 9 yU b r n D' left cnt∧Hid (Bg D' (pU (gs.filter (Bd p.aU left))))∧Hid (dO wr base ge b rec now B (gs.filter (Bd p.aU left)))∧Hid (nN (aep b r) wS wr)) (fun _ _ wr=>wr.rangeLeft b r)
 case atStart=>exact⟨_,_,D,hrg0,by rw[JC];exact hD0,by rw[JC];exact hE,ζ (nN.refl _ _)⟩
 case round=>
  obtain⟨left,cnt,D',hrg,hD,hEr,Ut⟩:=hrel;go_wp2_with (first
   | (at_next;refine wpList_next_ranges _ rfl _ rfl 9 Aq yU (fun s:List UInt8=>Value.string ⟨s.toArray⟩) VD (fun key kl hkey=>by obtain⟨s,rfl,_⟩:=keyOf_str hkey;exact⟨s,rfl⟩) (fun v y hv=>JZ hv) b r n _ _ _ rfl hrg ?_ ?_)
   | go_in)
  ·intro _ hl0;have aN:Hid (dO wr base ge b rec now B (gs.filter fun x=>uX p.aU x.g)):=ζ (by rw[←ajv hl0];exact hEr.o);clear hrg hD hEr hl0;go_wp2;first
    | exact⟨Ut,aN⟩
    | exact oO _ _ _ _ _ _ _ _ _ _ _ _ _ _ _ _ ⟨Ut,aN⟩
  ·intro x c kl yd yp w3 Ze hkey hlk hv hat hrg3 hlt hg3 hs3 hen;obtain⟨s,e1,rfl⟩:=keyOf_str hkey;obtain rfl:x = s:=str_inj e1;rw[yT] at hv;simp only[Option.some.injEq,Prod.mk.injEq] at hv;obtain⟨gb,rfl,rX⟩:=hD.o.entry (s:=x) (o:=c) (fun zd=>by rw[hat zd,←hv.1]);obtain⟨y,wU,Yu,rfl⟩:=OU rX;have aqM:=(List.mem_filter.1 wU).1;have V4:∀cur te fz,wr.heap[r]?≠some (.cells cur te fz):=oM hrg;have JF:=hEr.o.other hg3 (fun e=>by injection e with e;exact hrg.ne e.symm) (fun m hm cur te fz hc=>by injection hm with hm;subst hm;exact (V4 _ _ _ hc).elim);have je:=Ut.o.next hg3 (fun k hk=>by injection hk with hk;subst hk;exact .inl (.inr rfl));have Xi:=JF.at_ y wU;have cS:=ζ (fun W (hW:ah w3 W)=>aiR (g:=y.g) W (hp.o W (je.iw hW)) (Xi.blk.grows hW));have b1:=je.blk hb1.o hn1;have b2:=je.blk hb2.o ZO;have q1:=b1.c0;have q1l:=b1.lt;have p0:=b2.c0;have p1:=b2.c1;have p2:=b2.c2;have p3:=b2.c3;have p4:=b2.c4;have p5:=b2.c5;have p2l:=b2.lt;unfold bQ.val at cS;replace je:=ζ je;replace JF:=ζ JF;have hks:=ζ (fun h=>afE (left:=left) hnd.o aqM (p:=p.aU) h);have hkd:=ζ (fun h=>afF (left:=left) hnd.o aqM (p:=p.aU) h);rw[Yu] at hks hkd;simp only[VD,Option.map_some] at hen ⊢;generalize hSR:uX p.aU y.g = SR at cS hks hkd;clear hat hv rX e1 hEr Ut hg3 hs3 b1 b2 V4 Xi hSR JC hlk aqM;go_wp2_with fail;refine (cS.out _ (ah.refl w3)).mono ?_;rintro e w4 ⟨rfl,hb4⟩;have anj:=hrg3.kept (hb4.keeps none) σ σ;have hE4:=ζ (JF.o.grows hb4);have lJ:=ζ (je.o.iw hb4);have q1':=hb4.cell q1;have aE4:=Nat.lt_of_lt_of_le q1l hb4.size;have e1:=hE4.o.blk.c1;have e1l:=hE4.o.blk.lt;clear hrg3 JF je q1 q1l p0 p1 p2 p3 p4 p5 p2l cS hb4;cases SR with
   | true=>
    go_wp2;go_roundw
    case rel=>exact⟨_,Ze,D',anj,ζ (by rw[hks.o σ];exact hD.o),ζ (by rw[hks.o σ];exact hE4.o),lJ⟩
    case measure=>
     rw[anj.left_eq,hrg.left_eq];exact hlt
   | false=>
    go_wp2_with (first
     | (at_delete;refine wpList_delete_ranges _ rfl _ _ _ _ rfl _ Aq Tryz.underlying116 yU b r n _ _ _ rfl anj (.string ⟨x.toArray⟩) (.string x) rfl hkey ?_;intro w5 aHG Kv hle hturn)
     | go_in)
    go_simp;go_roundw
    case rel=>
     rw[Maps.strike_twice] at Kv;have hD5:=hD.o.del (anj.owns.tidy Aq) (akO hE4.o.nd) x;rw[←agl,←hkd.o σ] at hD5;have YT:=hE4.o.drop (q:=fun y=>decide (y.key≠x)) hturn.grown ⟨n,hn,_,Kv.owns,by rw[←hkd.o σ];exact hD5⟩;rw[←hkd.o σ] at YT;exact⟨_,_,_,Kv,ζ hD5,ζ YT,ζ (lJ.o.next hturn.grown (fun k hk=>by injection hk with hk;subst hk;exact .inl (.inl rfl)))⟩
    case measure=>
     rw[Kv.left_eq,hrg.left_eq];omega
theorem ao1 (x:dD):∀u∈tH x,u.oneCell'=true:=by
 intro u hu;simp only[tH,List.mem_cons,List.not_mem_nil,or_false] at hu;rcases hu with rfl | rfl | rfl | rfl | rfl | rfl <;> rfl
theorem apR:fB Tryz.prog 59 57 6 72:=fB.mk' (z:=.agg #[.string ⟨#[]⟩,.slice none 0 0,.int .i64 0,.int .u32 0,.int .i64 0,.int .i64 0]) Tryz.underlying59 κ rfl ω
theorem ai5 {xs:List dD} {X:List Nat} {k j:Nat} {y:dD} (hx:X[k]? = some j) (hy:xs[j]? = some y):(X.take (k+1)).filterMap (fun k=>xs[k]?)=(X.take k).filterMap (fun k=>xs[k]?)++[y]:=by
 rw[List.take_add_one,hx,List.filterMap_append];simp[hy]
theorem ak2 {g5 lm lk c60:Nat} {lA A60:Option Addr} {xs:List dD} {X:List Nat} {wS:World} {Q0:Exit→Act→World→Prop} {x0 x1 x3 x4 x5 x6 x7 x8 x9 Gf E8 BJ Ii E5 DL H6 HY En Hz Em EZ EY EX DK DJ DI Ej Ei Eh Ef Ee Ed Ec Eb Ea D_ D9 D8 Hy EW EU ET ES ER EP EO EN EM EL EK EJ EI Ih Hw F9 D7 EH EG Hu Ht Hr Hq F8 F7 F6 F5 Ho Hl Hg FZ FY FX FV FQ FP FN FM FK Jv Ju Jt Hf FH EF ED EC Ez Ey JM JL Ib Ia Oc L9 L8 tq sZ sW sV sU sS sQ sO sN sK sJ sH uS uj:Value}
 (hX:Hid (∀W,nN (fun j=>j = g5) wS W→bW W 1 encI A60 X.length X)) (hA:Hid (∀W,nN (fun j=>j = g5) wS W→bW W 6 tH lA lm xs)) (IV:Hid (∀k∈X,k<lm)) (Py:Hid (aG wS g5 59 #[.slice none 0 0])) (hXl:X.length≤1000000)
 (hQ0:∀c a d v w,Q0 (.panic c) (Act.put a d v) w→Q0 (.panic c) a w)
 (oO:∀(u17 u62 u63 u64 u65 u66 u67 u68 u69 u70 u71 u72 u73:Value) (wr:World),(∃(v:Value) (ys:List dD),Hid (aG wr g5 59 #[v])∧Hid (Own wr wS.heap.size 57 6 tH v ys)∧Hid (ys=X.filterMap fun k=>xs[k]?)∧Hid (nN (fun j=>j = g5) wS wr))→Q0 (.exit 2) ⟨(x0::x1::(.slice lA lm lk)::x3::x4::x5::x6::x7::x8::x9::Gf::E8::BJ::Ii::E5::(.pointer (some ⟨g5,0,none⟩))::DL::u17::HY::En::Hz::Em::EZ::EY::EX::DK::DJ::DI::Ej::Ei::Eh::Ef::Ee::Ed::Ec::Eb::Ea::D_::D9::D8::Hy::EW::EU::ET::ES::ER::EP::EO::EN::EM::EL::EK::EJ::EI::Ih::Hw::F9::D7::EH::EG::(.slice A60 X.length c60)::(.int .i64 (X.length:Int))::u62::u63::u64::u65::u66::u67::u68::u69::u70::u71::u72::u73::FZ::FY::FX::FV::FQ::FP::FN::FM::FK::Jv::Ju::Jt::Hf::FH::EF::ED::EC::Ez::Ey::JM::JL::Ib::Ia::Oc::L9::L8::tq::sZ::sW::sV::sU::sS::sQ::sO::sN::sK::sJ::sH::uS::uj::[]).toArray,[]⟩ wr) :
 Code.wp Tryz.prog (Ai Tryz.f13 1) Q0 ⟨(x0::x1::(.slice lA lm lk)::x3::x4::x5::x6::x7::x8::x9::Gf::E8::BJ::Ii::E5::(.pointer (some ⟨g5,0,none⟩))::DL::H6::HY::En::Hz::Em::EZ::EY::EX::DK::DJ::DI::Ej::Ei::Eh::Ef::Ee::Ed::Ec::Eb::Ea::D_::D9::D8::Hy::EW::EU::ET::ES::ER::EP::EO::EN::EM::EL::EK::EJ::EI::Ih::Hw::F9::D7::EH::EG::(.slice A60 X.length c60)::(.int .i64 (X.length:Int))::(.int .i64 0)::Hu::Ht::Hr::Hq::F8::F7::F6::F5::Ho::Hl::Hg::FZ::FY::FX::FV::FQ::FP::FN::FM::FK::Jv::Ju::Jt::Hf::FH::EF::ED::EC::Ez::Ey::JM::JL::Ib::Ia::Oc::L9::L8::tq::sZ::sW::sV::sU::sS::sQ::sO::sN::sK::sJ::sH::uS::uj::[]).toArray,[]⟩ wS:=by
 conv=>arg 2;whnf
 have H8:=Py.o.lt;have QA:=ζ (hA.o wS (nN.refl _ _));go_loopw [62] (fun i wr=>∃(k:Nat) (v:Value) (ys:List dD),k≤X.length∧i =.int .i64 (k:Int)∧Hid (aG wr g5 59 #[v])∧Hid (Own wr wS.heap.size 57 6 tH v ys)∧Hid (ys=(X.take k).filterMap fun k=>xs[k]?)∧Hid (ys.length≤k)∧Hid (nN (fun j=>j = g5) wS wr)) (fun i _=>X.length-(intOf i).toNat)
 case atStart=>exact⟨0,_,[],ω,rfl,Py,Own.iO _ _ _ _ _,ζ rfl,ζ (Nat.le_refl _),ζ (nN.refl _ _)⟩
 case round=>
  obtain⟨k,v,ys,hk,rfl,hB,hO,Kt,DV,Ut⟩:=hrel;by_cases qC:k<X.length
  ·obtain⟨b6,o6,j,rfl,Et,hj,hc6⟩:=(hX.o wr Ut.o).at_ qC;have hjm:=IV.o j (List.mem_of_getElem? hj);obtain⟨b2,o2,y0,rfl,aGz,hy0,-⟩:=QA.o.at_ hjm;obtain⟨b2',o2',y,e2,hb2,hy,hc2⟩:=(hA.o wr Ut.o).at_ hjm;simp only[Option.some.injEq,Addr.mk.injEq,and_true] at e2;obtain⟨rfl,rfl⟩:=e2;have c6:wr.cell? ⟨b6,o6+k,none⟩=some (.int .i64 (j:Int)):=by simpa using hc6 0 _ rfl
   have c0:wr.cell? ⟨b2,o2+j * 6,none⟩=some (.string ⟨y.a.src.toArray⟩):=by simpa using hc2 0 _ rfl
   have c1:wr.cell? ⟨b2,o2+j * 6+1,none⟩=some (.slice y.A y.m y.k):=hc2 1 _ rfl;have c2:wr.cell? ⟨b2,o2+j * 6+2,none⟩=some (.int .i64 y.a.l.lv):=hc2 2 _ rfl;have c3:wr.cell? ⟨b2,o2+j * 6+3,none⟩=some (.int .u32 (y.a.l.c:Int)):=hc2 3 _ rfl;have c4:wr.cell? ⟨b2,o2+j * 6+4,none⟩=some (.int .i64 y.a.f):=hc2 4 _ rfl;have c5:wr.cell? ⟨b2,o2+j * 6+5,none⟩=some (.int .i64 y.a.t):=hc2 5 _ rfl;have q5:=hB.o.c0;have q5l:=hB.o.lt;have kX:(k:Int)<(X.length:Int):=ω;have Xl:(j:Int)<(lm:Int):=ω;have qw:=ζ (ai5 (xs:=xs) hj hy);have aqU:=ζ Ut.o.size;have YB:∀m,v.ownBlock=some m→wS.heap.size≤m:=fun m hm=>(hO.o.nZ m hm).1
   have hr5:some g5≠v.ownBlock:=fun e=>by have:=YB _ e.symm;omega
   have hr2:some b2≠v.ownBlock:=fun e=>by have:=YB _ e.symm;omega
   obtain⟨sA,sm,sk,hvf⟩:∃sA sm sk,v =.slice sA sm sk:=by
    obtain⟨A',c',e,-⟩:=hO.o.arr abZ;exact⟨_,_,_,e⟩
   generalize hrow:v.ownBlock=row at *
   replace hrow:=ζ hrow;replace YB:=ζ YB;subst hvf;clear hc6 hc2 hy0 hj hy;go_wp2_with fail;have hOr:=hO;have Z7:=hB;have aP:=ζ (World.grownBy.refl wr row);refine jF (row) κ ?_;refine rK (up:=jG) (.range 5) 3 ?_;iterate 5 refine iD ?_
   refine aB ?_;refine aI [5] κ σ (fun wN hN hS=>(au.cons rfl (fun K' hK=> ?_) au.nil));try replace hOr:=ζ (hOr.o.grows hN)
   try replace Z7:=ζ (Z7.o.grows hN)
   try replace lJ:=ζ (lJ.o.grows hN)
   try replace ji:=ζ (ji.o.grows hN)
   replace aP:=ζ (dS aP.o hN);clear hN;go_simp;refine hK.o _ _ ?_ (fun hS=> ?_)
   ·exact dS (by assumption) ((ah.refl _).alloc _)
   have ji:=ζ (aG.new wN 57 #[.string ⟨y.a.src.toArray⟩,.slice y.A y.m y.k,.int .i64 y.a.l.lv,.int .u32 (y.a.l.c:Int),.int .i64 y.a.f,.int .i64 y.a.t]);have dP:ah wN (wN.alloc (.cells #[.string ⟨y.a.src.toArray⟩,.slice y.A y.m y.k,.int .i64 y.a.l.lv,.int .u32 (y.a.l.c:Int),.int .i64 y.a.f,.int .i64 y.a.t] 57)):=(ah.refl _).alloc _;replace hOr:=ζ (hOr.o.grows dP);replace Z7:=ζ (Z7.o.grows dP);replace aP:=ζ (dS aP.o dP);clear dP;clear hK hS;refine aI [6] κ σ (fun wN hN hS=>(au.cons rfl (fun K' hK=> ?_) au.nil));try replace hOr:=ζ (hOr.o.grows hN)
   try replace Z7:=ζ (Z7.o.grows hN)
   try replace lJ:=ζ (lJ.o.grows hN)
   try replace ji:=ζ (ji.o.grows hN)
   replace aP:=ζ (dS aP.o hN);clear hN;have Es:=aP.o.size;refine Own.grown (x:=y) apR rfl (.tmp 66) (.tmp 71) rfl hOr.o rfl ⟨_,0,none⟩ rfl (abZ _) (iK ji.o) (ao1 _) (by have:=aqU.o;omega) (by unfold maxLen;have:=DV.o;omega) (by have:=DV.o;omega) (fun v4 w4 lJ jd hv4=> ?_);rw[hrow.o] at jd;obtain⟨gb,cap,Si⟩:=mg lJ σ;rw[List.length_append] at Si;simp only[List.length_cons,List.length_nil,Nat.zero_add] at Si;subst Si;replace Z7:=ζ (Z7.o.aQ jd hr5);replace aP:=ζ (aP.o.trans jd);replace lJ:=ζ lJ;clear Es hOr ji;go_simp;refine hK.o _ _ ?_ (fun hS=> ?_)
   ·exact World.grownBy.trans (by assumption) jd
   clear jd hv4;clear hK hS;refine eG (i:=7) rfl κ κ (fun wN hN hS K' hK=> ?_);try replace hOr:=ζ (hOr.o.grows hN)
   try replace Z7:=ζ (Z7.o.grows hN)
   try replace lJ:=ζ (lJ.o.grows hN)
   try replace ji:=ζ (ji.o.grows hN)
   replace aP:=ζ (dS aP.o hN);clear hS;have qN:=Z7.o.c0;have qNl:=Z7.o.lt;have qNf:=Z7.o.frozen 0;go_simp;refine hK.o _ _ ?_;clear hK;have aK:=aj wN ⟨g5,0,none⟩ (.slice (some ⟨gb,0,none⟩) (ys.length+1) cap);have hBF:Hid (aG (wN.setCell ⟨g5,0,none⟩ (.slice (some ⟨gb,0,none⟩) (ys.length+1) cap)) g5 59 #[.slice (some ⟨gb,0,none⟩) (ys.length+1) cap]):=ζ ((Z7.o.bH 0 (.slice (some ⟨gb,0,none⟩) (ys.length+1) cap)).cast σ);have hOF:=ζ (lJ.o.kept' aK (fun m hm=>by injection hm with hm;subst hm;exact aZ lJ.o Z7.o δ));have aBA:=ζ ((Ut.o.next aP.o (fun m hm=> .inr (YB.o m hm))).next aK (fun m hm=>by injection hm with hm;subst hm;exact .inl rfl));have azE:Hid ((ys++[y]).length≤k+1):=ζ (by have:=DV.o;simp;omega);clear aK Z7 lJ aP qN qNl qNf hN q5 q5l c0 c1 c2 c3 c4 c5 c6 hB hO;go_wp2;go_roundw
   case rel=>exact⟨k+1,_,ys++[y],ω,ν,hBF,hOF,ζ (by rw[qw.o,Kt.o]),azE,aBA⟩
   case measure=>exact ψ
  ·obtain rfl:k=X.length:=ω;have aN:Hid (ys=X.filterMap fun k=>xs[k]?):=ζ (by rw[Kt.o,List.take_length]);clear Kt DV;go_wp2;first
    | exact⟨v,ys,hB,hO,aN,Ut⟩
    | exact oO _ _ _ _ _ _ _ _ _ _ _ _ _ _ _ ⟨v,ys,hB,hO,aN,Ut⟩
end Go.Proofs.YtbhikkgpcmkonaaGreatDoor
