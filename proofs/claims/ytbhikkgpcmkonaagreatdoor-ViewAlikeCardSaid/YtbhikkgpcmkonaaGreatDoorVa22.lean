/- Parts: EngC MorP EngD EqA EqB EqC EqD -/
import Derived.Test.YtbhikkgpcmkonaaGreatDoorVa0
import Derived.Test.YtbhikkgpcmkonaaGreatDoorVa21
import Derived.Test.YtbhikkgpcmkonaaGreatDoorVa12
import Derived.Test.YtbhikkgpcmkonaaGreatDoorVa11
import Derived.Test.YtbhikkgpcmkonaaGreatDoorVa19
import Derived.Test.YtbhikkgpcmkonaaGreatDoorVa5
import Derived.Test.YtbhikkgpcmkonaaGreatDoorVa7
import Derived.Test.YtbhikkgpcmkonaaGreatDoorVa20
import Derived.Test.YtbhikkgpcmkonaaGreatDoorVa16
set_option maxRecDepth 100000
set_option maxHeartbeats 12800000
namespace Go.Proofs.YtbhikkgpcmkonaaGreatDoor
open Go.RowKit Go.Maps Go.WideMaps
structure RtX where
 bA:Option Addr
 bm:Nat
 bk:Nat
 wA:Option Addr
 wm:Nat
 wk:Nat
def L9 (g:Ar) (r:RtX) (cb:Nat):Array Value:= #[.int .i64 (g.place:Int),.string ⟨g.rc.toArray⟩,.slice r.bA r.bm r.bk,.int .i64 g.wait,.int .i64 g.every,.int .i64 g.again,.slice r.wA r.wm r.wk,.pointer (some ⟨cb,0,none⟩),.int .i64 (g.number:Int)]
def uH:Array Value:= #[.string ⟨#[]⟩,.slice none 0 0,.int .i64 0,.int .i64 0,.int .i64 0,.slice none 0 0]
theorem wO {w:World} {g:Nat} (h:aF w g 46 uH) :
 w.cell? ⟨g,0,none⟩=some (.string ⟨#[]⟩)∧w.cell? ⟨g,1,none⟩=some (.slice none 0 0)∧w.cell? ⟨g,2,none⟩=some (.int .i64 0)∧w.cell? ⟨g,3,none⟩=some (.int .i64 0)∧w.cell? ⟨g,4,none⟩=some (.int .i64 0)∧w.cell? ⟨g,5,none⟩=some (.slice none 0 0)∧(∀i,w.frozen? ⟨g,i,none⟩=false)∧g < w.heap.size:=
 ⟨h.cell 0,h.cell 1,h.cell 2,h.cell 3,h.cell 4,h.cell 5,fun i=>h.frozen i,h.lt⟩
theorem MZ {w wM:World} {g:Nat} (hZ:aF wM g 46 uH) (hG:ah w wM) (qA:w.heap.size≤g) (u0 u1 u2 u3 u4 u5:Value) :
 aF ((((((wM.setCell ⟨g,0,none⟩ u0).setCell ⟨g,1,none⟩ u1).setCell ⟨g,2,none⟩ u2).setCell ⟨g,3,none⟩ u3).setCell ⟨g,4,none⟩ u4).setCell ⟨g,5,none⟩ u5) g 46 #[u0,u1,u2,u3,u4,u5]∧
 ah w ((((((wM.setCell ⟨g,0,none⟩ u0).setCell ⟨g,1,none⟩ u1).setCell ⟨g,2,none⟩ u2).setCell ⟨g,3,none⟩ u3).setCell ⟨g,4,none⟩ u4).setCell ⟨g,5,none⟩ u5)∧
 ∀g' t cs,aF wM g' t cs→g'≠g→aF ((((((wM.setCell ⟨g,0,none⟩ u0).setCell ⟨g,1,none⟩ u1).setCell ⟨g,2,none⟩ u2).setCell ⟨g,3,none⟩ u3).setCell ⟨g,4,none⟩ u4).setCell ⟨g,5,none⟩ u5) g' t cs:=by
 have h0:=hZ.bD 0 u0;have h1:=h0.bD 1 u1;have h2:=h1.bD 2 u2;have h3:=h2.bD 3 u3;have h4:=h3.bD 4 u4;have h5:=h4.bD 5 u5;refine⟨h5.cast (by simp[uH]),?_,fun g' t cs hB hne=>(((((hB.far (p:=⟨g,0,none⟩) hne _).far (p:=⟨g,1,none⟩) hne _).far (p:=⟨g,2,none⟩) hne _).far (p:=⟨g,3,none⟩) hne _).far (p:=⟨g,4,none⟩) hne _).far (p:=⟨g,5,none⟩) hne _⟩;exact ah.setCell (ah.setCell (ah.setCell (ah.setCell (ah.setCell (ah.setCell hG (p:=⟨g,0,none⟩) qA _) (p:=⟨g,1,none⟩) qA _) (p:=⟨g,2,none⟩) qA _) (p:=⟨g,3,none⟩) qA _) (p:=⟨g,4,none⟩) qA _) (p:=⟨g,5,none⟩) qA _
def awo (wr:World) (ca cb:Array Value) (f:Nat→Value) (wz:World):Prop:=∃ga gb,f 5=.pointer (some ⟨ga,0,none⟩)∧f 6=.pointer (some ⟨gb,0,none⟩)∧aF wz ga 46 ca∧aF wz gb 46 cb∧ah wr wz
theorem ah3 {p:bU} {g:Ar} {r:RtX} {gb cb:Nat} (w:World) (hp:p.At w) (hB:aF w gb 130 (L9 g r cb)) :
 Calls Tryz.prog 42 #[.pointer (some ⟨gb,0,none⟩),p.val] w fun e w'=>e =.returned (.bool (uP p.aU g))∧ah w w':=by
 have hO:=ζ hp.o;have hR:uP p.aU g = match (p.o.map (·.r))[g.place]? with
  | none=>false
  | some r=>decide (r.r = g.rc)&&(decide (r.wait=g.wait)&&(decide (r.every=g.every)&&decide (r.again=g.again))):=rfl
 have SS:=hp.o.1;generalize uP p.aU g = RES at *
 clear hp;unfold bU.val L9 at *
 obtain⟨pl,rc,wa,ev,ag,ck,nu⟩:=g;obtain⟨bA,bm,bk,wA,wm,wk⟩:=r;obtain⟨⟨sl,sA,sm,sk⟩,⟨rl,rA,rm,rk⟩,⟨el,eA,em,ek⟩,⟨al,aA,am,ak⟩,o,oA,om,ok,i,iA,im,ik⟩:=p;simp only at *
 replace hR:=ζ hR;have b0:=hB.c0;have b1:=hB.c1;have b2:=hB.c2;have b3:=hB.c3;have b4:=hB.c4;have b5:=hB.c5;have b6:=hB.c6;have bl:=hB.lt;have hg0:=ζ ((ah.refl w).alloc (.cells #[.slice sA sm sk,.slice rA rm rk,.slice eA em ek,.slice aA am ak,.slice oA om ok,.slice iA im ik] 50));clear hB;by_cases hpl:pl<om
 ·obtain⟨ob,oo,x,rfl,GV,hx,hcell⟩:=hO.o.at_ hpl;have c0:w.cell? ⟨ob,oo+pl*6,none⟩=some (.string ⟨x.r.r.toArray⟩):=hcell 0 _ rfl;have c1:w.cell? ⟨ob,oo+pl*6+1,none⟩=some (.slice x.bA x.bm x.bk):=hcell 1 _ rfl;have c2:w.cell? ⟨ob,oo+pl*6+2,none⟩=some (.int .i64 x.r.wait):=hcell 2 _ rfl;have c3:w.cell? ⟨ob,oo+pl*6+3,none⟩=some (.int .i64 x.r.every):=hcell 3 _ rfl;have c4:w.cell? ⟨ob,oo+pl*6+4,none⟩=some (.int .i64 x.r.again):=hcell 4 _ rfl;have c5:w.cell? ⟨ob,oo+pl*6+5,none⟩=some (.slice x.wA x.wm x.wk):=hcell 5 _ rfl;have jr:Hid (RES=(decide (x.r.r = rc)&&(decide (x.r.wait=wa)&&(decide (x.r.every=ev)&&decide (x.r.again=ag))))):=ζ (by rw[hR.o,List.getElem?_map,hx];rfl);have hpz:(pl:Int)<(om:Int):=ω;have hpn:¬(om:Int)≤(pl:Int):=ω;clear hcell hx hR SS hO;go_enter Tryz.func42,Tryz.ntmps42
  go_wp2_with fail;refine dw (μ (.range 8) []) κ κ rfl κ π ?_;iterate 8 refine gK ?_
  refine g_ ?_;have bP3:aF (w.alloc (.cells #[.slice sA sm sk,.slice rA rm rk,.slice eA em ek,.slice aA am ak,.slice (some ⟨ob,oo,none⟩) om ok,.slice iA im ik] 50)).drew w.heap.size 50 #[.slice sA sm sk,.slice rA rm rk,.slice eA em ek,.slice aA am ak,.slice (some ⟨ob,oo,none⟩) om ok,.slice iA im ik]:=aF.new w _ _;have hg3:=hg0.o.drew;replace b0:=hg3.cell b0;replace b1:=hg3.cell b1;replace b2:=hg3.cell b2;replace b3:=hg3.cell b3;replace b4:=hg3.cell b4;replace b5:=hg3.cell b5;replace b6:=hg3.cell b6;replace c0:=hg3.cell c0;replace c1:=hg3.cell c1;replace c2:=hg3.cell c2;replace c3:=hg3.cell c3;replace c4:=hg3.cell c4;replace c5:=hg3.cell c5;replace bl:=Nat.lt_of_lt_of_le bl hg3.size;replace GV:=Nat.lt_of_lt_of_le GV hg3.size;have p4:=bP3.cell 4;simp only[List.getElem?_toArray,List.getElem?_cons_zero,List.getElem?_cons_succ] at p4;have pl':=bP3.lt;go_wp2_with fail;replace hg3:=ζ hg3;clear bP3 hg0;generalize (w.alloc (.cells #[.slice sA sm sk,.slice rA rm rk,.slice eA em ek,.slice aA am ak,.slice (some ⟨ob,oo,none⟩) om ok,.slice iA im ik] 50)).drew=w3 at *
  have aN:=ζ (ah.refl w3);apply Hg (is:=[5,6]) (R:=awo w3 #[.string ⟨x.r.r.toArray⟩,.slice x.bA x.bm x.bk,.int .i64 x.r.wait,.int .i64 x.r.every,.int .i64 x.r.again,.slice x.wA x.wm x.wk] #[.string ⟨rc.toArray⟩,.slice bA bm bk,.int .i64 wa,.int .i64 ev,.int .i64 ag,.slice wA wm wk])
  case h1=>
   refine aG κ ?_;refine rK (.range 12) 4 ?_;iterate 12 refine aC ?_
   refine aB ?_;refine aH [12,13] κ σ (fun wN hN hS=>(au.cons rfl (fun K' hK=> ?_) (au.cons rfl (fun K' hK=> ?_) au.nil)))
   ·skip
    try replace iL:=ζ (iL.o.grows hN)
    try replace iy:=ζ (iy.o.grows hN)
    replace aN:=ζ (aN.o.trans hN);clear hN;go_simp;have hgA:=ζ aN.o.size;try have hab:=ζ (iy.o.lt)
    have iL:=ζ (aF.new wN 46 uH);replace aN:=ζ (aN.o.alloc (.cells uH 46));try replace iy:=ζ (iy.o.alloc (.cells uH 46))
    refine hK.o _ _ ?_ (fun hS=> ?_)
    ·exact aN.o
    generalize wN.heap.size=gA at *
    clear hK hS;refine aH [13] κ σ (fun wN hN hS=>(au.cons rfl (fun K' hK=> ?_) au.nil));try replace iL:=ζ (iL.o.grows hN)
    try replace iy:=ζ (iy.o.grows hN)
    replace aN:=ζ (aN.o.trans hN);clear hN;go_simp;have Y_:=ζ aN.o.size;try have hab:=ζ (iL.o.lt)
    have iy:=ζ (aF.new wN 46 uH);replace aN:=ζ (aN.o.alloc (.cells uH 46));try replace iL:=ζ (iL.o.alloc (.cells uH 46))
    refine hK.o _ _ ?_ (fun hS=> ?_)
    ·exact aN.o
    generalize wN.heap.size=gB at *
    clear hK hS;refine aH [14] κ σ (fun wN hN hS=>(au.cons rfl (fun K' hK=> ?_) au.nil));try replace iL:=ζ (iL.o.grows hN)
    try replace iy:=ζ (iy.o.grows hN)
    replace aN:=ζ (aN.o.trans hN);clear hN;obtain⟨z0,z1,z2,z3,z4,z5,zf,zl⟩:=wO iL.o;obtain⟨n0,n1,n2⟩:=MZ iL.o aN.o hgA.o (.string ⟨x.r.r.toArray⟩) (.slice x.bA x.bm x.bk) (.int .i64 x.r.wait) (.int .i64 x.r.every) (.int .i64 x.r.again) (.slice x.wA x.wm x.wk);try replace iy:=ζ (n2 _ _ _ iy.o (by have:=hab.o;omega))
    replace n0:=ζ n0;replace n1:=ζ n1;clear n2;go_simp;refine hK.o _ _ ?_ (fun hS=> ?_)
    ·exact n1.out
    clear z0 z1 z2 z3 z4 z5 zf zl iL aN;generalize ((((((wN.setCell ⟨gA,0,none⟩ (.string ⟨x.r.r.toArray⟩)).setCell ⟨gA,1,none⟩ (.slice x.bA x.bm x.bk)).setCell ⟨gA,2,none⟩ (.int .i64 x.r.wait)).setCell ⟨gA,3,none⟩ (.int .i64 x.r.every)).setCell ⟨gA,4,none⟩ (.int .i64 x.r.again)).setCell ⟨gA,5,none⟩ (.slice x.wA x.wm x.wk))=w9 at *
    have iL:=n0;have aN:=n1;clear n0 n1;clear hK hS;refine aH [15] κ σ (fun wN hN hS=>(au.cons rfl (fun K' hK=> ?_) au.nil));try replace iL:=ζ (iL.o.grows hN)
    try replace iy:=ζ (iy.o.grows hN)
    replace aN:=ζ (aN.o.trans hN);clear hN;obtain⟨z0,z1,z2,z3,z4,z5,zf,zl⟩:=wO iy.o;obtain⟨n0,n1,n2⟩:=MZ iy.o aN.o Y_.o (.string ⟨rc.toArray⟩) (.slice bA bm bk) (.int .i64 wa) (.int .i64 ev) (.int .i64 ag) (.slice wA wm wk);try replace iL:=ζ (n2 _ _ _ iL.o (by have:=hab.o;omega))
    replace n0:=ζ n0;replace n1:=ζ n1;clear n2;go_simp;refine hK.o _ _ ?_ (fun hS=> ?_)
    ·exact n1.out
    clear z0 z1 z2 z3 z4 z5 zf zl iy aN;generalize ((((((wN.setCell ⟨gB,0,none⟩ (.string ⟨rc.toArray⟩)).setCell ⟨gB,1,none⟩ (.slice bA bm bk)).setCell ⟨gB,2,none⟩ (.int .i64 wa)).setCell ⟨gB,3,none⟩ (.int .i64 ev)).setCell ⟨gB,4,none⟩ (.int .i64 ag)).setCell ⟨gB,5,none⟩ (.slice wA wm wk))=w9 at *
    have iy:=n0;have aN:=n1;clear n0 n1;clear hK hS;refine aJ κ (fun wN hN hS=> ?_);try replace iL:=ζ (iL.o.grows hN)
    try replace iy:=ζ (iy.o.grows hN)
    replace aN:=ζ (aN.o.trans hN);refine⟨(by
     simp only[gV,List.foldl_cons,List.foldl_nil];go_simp;try rfl
    ),_,_,rfl,rfl,iL.o,iy.o,aN.o⟩
   ·skip
    try replace iL:=ζ (iL.o.grows hN)
    try replace iy:=ζ (iy.o.grows hN)
    replace aN:=ζ (aN.o.trans hN);clear hN;go_simp;have Y_:=ζ aN.o.size;try have hab:=ζ (iL.o.lt)
    have iy:=ζ (aF.new wN 46 uH);replace aN:=ζ (aN.o.alloc (.cells uH 46));try replace iL:=ζ (iL.o.alloc (.cells uH 46))
    refine hK.o _ _ ?_ (fun hS=> ?_)
    ·exact aN.o
    generalize wN.heap.size=gB at *
    clear hK hS;refine aH [12] κ σ (fun wN hN hS=>(au.cons rfl (fun K' hK=> ?_) au.nil));try replace iL:=ζ (iL.o.grows hN)
    try replace iy:=ζ (iy.o.grows hN)
    replace aN:=ζ (aN.o.trans hN);clear hN;go_simp;have hgA:=ζ aN.o.size;try have hab:=ζ (iy.o.lt)
    have iL:=ζ (aF.new wN 46 uH);replace aN:=ζ (aN.o.alloc (.cells uH 46));try replace iy:=ζ (iy.o.alloc (.cells uH 46))
    refine hK.o _ _ ?_ (fun hS=> ?_)
    ·exact aN.o
    generalize wN.heap.size=gA at *
    clear hK hS;refine aH [14] κ σ (fun wN hN hS=>(au.cons rfl (fun K' hK=> ?_) au.nil));try replace iL:=ζ (iL.o.grows hN)
    try replace iy:=ζ (iy.o.grows hN)
    replace aN:=ζ (aN.o.trans hN);clear hN;obtain⟨z0,z1,z2,z3,z4,z5,zf,zl⟩:=wO iL.o;obtain⟨n0,n1,n2⟩:=MZ iL.o aN.o hgA.o (.string ⟨x.r.r.toArray⟩) (.slice x.bA x.bm x.bk) (.int .i64 x.r.wait) (.int .i64 x.r.every) (.int .i64 x.r.again) (.slice x.wA x.wm x.wk);try replace iy:=ζ (n2 _ _ _ iy.o (by have:=hab.o;omega))
    replace n0:=ζ n0;replace n1:=ζ n1;clear n2;go_simp;refine hK.o _ _ ?_ (fun hS=> ?_)
    ·exact n1.out
    clear z0 z1 z2 z3 z4 z5 zf zl iL aN;generalize ((((((wN.setCell ⟨gA,0,none⟩ (.string ⟨x.r.r.toArray⟩)).setCell ⟨gA,1,none⟩ (.slice x.bA x.bm x.bk)).setCell ⟨gA,2,none⟩ (.int .i64 x.r.wait)).setCell ⟨gA,3,none⟩ (.int .i64 x.r.every)).setCell ⟨gA,4,none⟩ (.int .i64 x.r.again)).setCell ⟨gA,5,none⟩ (.slice x.wA x.wm x.wk))=w9 at *
    have iL:=n0;have aN:=n1;clear n0 n1;clear hK hS;refine aH [15] κ σ (fun wN hN hS=>(au.cons rfl (fun K' hK=> ?_) au.nil));try replace iL:=ζ (iL.o.grows hN)
    try replace iy:=ζ (iy.o.grows hN)
    replace aN:=ζ (aN.o.trans hN);clear hN;obtain⟨z0,z1,z2,z3,z4,z5,zf,zl⟩:=wO iy.o;obtain⟨n0,n1,n2⟩:=MZ iy.o aN.o Y_.o (.string ⟨rc.toArray⟩) (.slice bA bm bk) (.int .i64 wa) (.int .i64 ev) (.int .i64 ag) (.slice wA wm wk);try replace iL:=ζ (n2 _ _ _ iL.o (by have:=hab.o;omega))
    replace n0:=ζ n0;replace n1:=ζ n1;clear n2;go_simp;refine hK.o _ _ ?_ (fun hS=> ?_)
    ·exact n1.out
    clear z0 z1 z2 z3 z4 z5 zf zl iy aN;generalize ((((((wN.setCell ⟨gB,0,none⟩ (.string ⟨rc.toArray⟩)).setCell ⟨gB,1,none⟩ (.slice bA bm bk)).setCell ⟨gB,2,none⟩ (.int .i64 wa)).setCell ⟨gB,3,none⟩ (.int .i64 ev)).setCell ⟨gB,4,none⟩ (.int .i64 ag)).setCell ⟨gB,5,none⟩ (.slice wA wm wk))=w9 at *
    have iy:=n0;have aN:=n1;clear n0 n1;clear hK hS;refine aJ κ (fun wN hN hS=> ?_);try replace iL:=ζ (iL.o.grows hN)
    try replace iy:=ζ (iy.o.grows hN)
    replace aN:=ζ (aN.o.trans hN);refine⟨(by
     simp only[gV,List.foldl_cons,List.foldl_nil];go_simp;try rfl
    ),_,_,rfl,rfl,iL.o,iy.o,aN.o⟩
  intro fz w9 hR9;obtain⟨ga,gb',e5,e6,iL,iy,abh⟩:=hR9;simp only[lM,List.foldl_cons,List.foldl_nil,e5,e6];have LZ:=ζ (hg3.o.trans abh);have x0:=iL.c0;have x2:=iL.c2;have x3:=iL.c3;have x4:=iL.c4;have xl:=iL.lt;have y0:=iy.c0;have y2:=iy.c2;have y3:=iy.c3;have y4:=iy.c4;have yl:=iy.lt;clear iL iy abh aN b0 b1 b2 b3 b4 b5 b6 c0 c1 c2 c3 c4 c5 bl GV p4 pl' e5 e6 hg3;by_cases h1:x.r.r = rc
  ·have hb1:(x.r.r ==rc)=true:=by simp[h1]
   by_cases h2:x.r.wait=wa
   ·by_cases h3:x.r.every=ev
    ·by_cases h4:x.r.again=ag
     ·have Dl:Hid (RES=true):=ζ (by rw[jr.o];simp[h1,h2,h3,h4]);clear h1;go_wp2;go_ret;exact⟨by rw[Dl.o];rfl,LZ.o⟩
     ·have Dl:Hid (RES=false):=ζ (by rw[jr.o];simp[h4]);have hb4:(x.r.again==ag)=false:=by simp[h4]
      clear h1;go_wp2;go_ret;exact⟨aP (by rw[Dl.o]),LZ.o⟩
    ·have Dl:Hid (RES=false):=ζ (by rw[jr.o];simp[h3]);clear h1;go_wp2;go_ret;exact⟨by rw[Dl.o];rfl,LZ.o⟩
   ·have Dl:Hid (RES=false):=ζ (by rw[jr.o];simp[h2]);clear h1;go_wp2;go_ret;exact⟨by rw[Dl.o];rfl,LZ.o⟩
  ·have Dl:Hid (RES=false):=ζ (by rw[jr.o];simp[h1]);have hb1:(x.r.r ==rc)=false:=by simp[h1]
   clear h1;go_wp2;go_ret;exact⟨by rw[Dl.o];rfl,LZ.o⟩
 ·have jr:Hid (RES=false):=ζ (by rw[hR.o,List.getElem?_eq_none (by rw[List.length_map,SS];omega)]);have hpn:(om:Int)≤(pl:Int):=ω;clear hR SS hO;go_enter Tryz.func42,Tryz.ntmps42
  go_wp2_with fail;refine dw (μ (.range 8) []) κ κ rfl κ π ?_;iterate 8 refine gK ?_
  refine g_ ?_;go_wp2;go_ret;exact⟨by rw[jr.o];rfl,hg0.o.drew⟩
end Go.Proofs.YtbhikkgpcmkonaaGreatDoor
namespace Go.Proofs.YtbhikkgpcmkonaaGreatDoor
open Go.RowKit
def YX (g h:m_):Prop:=g.route=h.route∧g.fH=h.fH∧g.ids.length≤h.ids.length∧h.ids.length≤g.ids.length+1
theorem YX.refl (g:m_):YX g g:=⟨rfl,rfl,Nat.le_refl _,Nat.le_succ _⟩
def IK (r:Nat) (gs hs:List m_):Prop:=
 (gs.length=hs.length∧∀(i:Nat) g h,gs[i]? = some g→hs[i]? = some h→YX g h)∨(∃g:m_,hs=gs++[g]∧g.ids.length=1∧g.route=r)
theorem IK.refl (r:Nat) (gs:List m_):IK r gs gs:=.inl ⟨rfl,fun i g h h1 h2=>by rw[h1] at h2;injection h2 with h2;subst h2;exact YX.refl g⟩
def j_ (r0:Nat) (aV:List (List m_)):Prop:=∀(i:Nat) gs g,aV[i]? = some gs→g∈gs→g.route=r0+i
theorem Pn (l:List Nat) (t:Nat):l.length≤(jZ l t).length∧(jZ l t).length≤l.length+1:=by
 refine⟨?_,Ua l t⟩;unfold jZ;split
 ·exact Nat.le_refl _
 ·rw[uD (H6 l t)];omega
theorem Du {aV:List (List m_)} {r k id:Nat}:(nU aV r k id).length=aV.length∧(∀s,s≠r→(nU aV r k id)[s]? = aV[s]?):=by
 unfold nU;cases hr:aV[r]? with
 | none=>exact⟨rfl,fun _ _=>rfl⟩
 | some gs=>
  simp only;cases hk:gs[k]? with
  | none=>exact⟨rfl,fun _ _=>rfl⟩
  | some g=>exact⟨by simp,fun s hs=>by simp only;rw[List.getElem?_set_ne (Ne.symm hs)]⟩
theorem adh {aV:List (List m_)} {r k id:Nat} {gs:List m_} {g:m_} (hr:aV[r]? = some gs) (hk:gs[k]? = some g):(nU aV r k id)[r]? = some (gs.set k {g with ids:=jZ g.ids id}):=by
 rw[vT hr hk,List.getElem?_set_self (List.getElem?_eq_some_iff.1 hr).1]
theorem RP {rec:List UInt8} {id:Nat} {fs:List bK} {names:Nat→List (List UInt8)} {st:Ja} {r:Nat} {gs:List m_} (hr:st.aV[r]? = some gs) :
 (stepG rec id fs names st r).aV.length=st.aV.length∧(∀s,s≠r→(stepG rec id fs names st r).aV[s]? = st.aV[s]?)∧∃hs,(stepG rec id fs names st r).aV[r]? = some hs∧IK r gs hs:=by
 unfold stepG;cases hl:xu st.place (dn r (jh fs (names r))) with
 | some k=>
  simp only;refine⟨Du.1,Du.2,?_⟩;cases hk:gs[k]? with
  | none=>
   refine⟨gs,?_,IK.refl r gs⟩;unfold nU;rw[hr];simp only;rw[hk];exact hr
  | some g=>
   refine⟨_,adh hr hk,.inl ⟨by simp,fun i a b h1 h2=> ?_⟩⟩;by_cases kY:k=i
   ·subst kY;rw[List.getElem?_set_self (List.getElem?_eq_some_iff.1 hk).1] at h2;rw[hk] at h1;injection h1 with h1;injection h2 with h2
    subst h1 h2;exact⟨rfl,rfl,(Pn g.ids id).1,(Pn g.ids id).2⟩
   ·rw[List.getElem?_set_ne kY] at h2;rw[h1] at h2;injection h2 with h2;subst h2
    exact YX.refl _
 | none=>
  rw[hr];simp only;have qM:r < st.aV.length:=(List.getElem?_eq_some_iff.1 hr).1;refine⟨by rw[Du.1];simp,fun s hs=>by rw[Du.2 s hs,List.getElem?_set_ne (Ne.symm hs)],?_⟩;refine⟨_,adh (List.getElem?_set_self qM) List.getElem?_concat_length,.inr ⟨⟨r,jh fs (names r),Jy rec r (jh fs (names r)),[id]⟩,?_,rfl,rfl⟩⟩;simp[T_]
theorem RQ {rec:List UInt8} {id:Nat} {fs:List bK} {names:Nat→List (List UInt8)} {st:Ja} {r:Nat} (hr:st.aV[r]? = none):(stepG rec id fs names st r).aV=st.aV:=by
 unfold stepG;cases hl:xu st.place (dn r (jh fs (names r))) with
 | some k=>simp only;unfold nU;rw[hr]
 | none=>rw[hr]
theorem IK.route {r:Nat} {gs hs:List m_} (h:IK r gs hs) (hg:∀g∈gs,g.route=r):∀g∈hs,g.route=r:=by
 intro x hx;rcases h with⟨h1,h2⟩ | ⟨g,rfl,_,h2⟩
 ·obtain⟨i,hi,rfl⟩:=List.getElem_of_mem hx;have h3:i < gs.length:=ω;have:=h2 i _ _ (List.getElem?_eq_getElem h3) (List.getElem?_eq_getElem hi);rw[←this.1];exact hg _ (List.getElem_mem h3)
 ·rcases List.mem_append.1 hx with h | h
  ·exact hg x h
  ·rw[List.mem_singleton.1 h];exact h2
theorem j_.step {rec:List UInt8} {id:Nat} {fs:List bK} {names:Nat→List (List UInt8)} {st:Ja} (h:j_ 0 st.aV) (r:Nat):j_ 0 (stepG rec id fs names st r).aV:=by
 cases hr:st.aV[r]? with
 | none=>rw[RQ hr];exact h
 | some gs=>
  obtain⟨_,h1,hs,h2,h3⟩:=RP (rec:=rec) (id:=id) (fs:=fs) (names:=names) hr;intro i ys g h4 h5;by_cases hi:i = r
  ·subst hi;rw[h2] at h4;injection h4 with h4;subst h4
   have:=h3.route (fun g hg=>by have:=h i gs g hr hg;omega) g h5;omega
  ·rw[h1 i hi] at h4;exact h i ys g h4 h5
theorem j_.fold {rec:List UInt8} {id:Nat} {fs:List bK} {names:Nat→List (List UInt8)}:∀(F:List Nat) {st:Ja},j_ 0 st.aV→j_ 0 (F.foldl (stepG rec id fs names) st).aV
 | [],_,h=>h
 | r ::F,_,h=>j_.fold F (h.step r)
theorem j_.awk {ft:List bK→cZ→Bool} {p:fU} {rec:List UInt8} {now:Int} {st:Ja} (h:j_ 0 st.aV) (a:iD):j_ 0 (ig ft p rec now st a).aV:=by
 unfold ig;cases kG p rec a now with
 | none=>exact h
 | some c=>exact j_.fold _ h
theorem j_.start (n:Nat):j_ 0 (List.replicate n []):=fun i gs g h1 h2=>by
 have:=List.mem_of_getElem? h1;simp at this;rw[this.2] at h2;cases h2
theorem j_.all {ft:List bK→cZ→Bool} {p:fU} {rec:List UInt8} {now:Int}:∀(l:List iD) {st:Ja},j_ 0 st.aV→j_ 0 (l.foldl (ig ft p rec now) st).aV
 | [],_,h=>h
 | a ::l,_,h=>j_.all l (h.awk a)
theorem TA {rec:List UInt8} {id:Nat} {fs:List bK} {names:Nat→List (List UInt8)}:∀(F:List Nat) (st:Ja),F.Nodup→(F.foldl (stepG rec id fs names) st).aV.length=st.aV.length∧∀(i:Nat) gs,st.aV[i]? = some gs→∃hs,(F.foldl (stepG rec id fs names) st).aV[i]? = some hs∧IK i gs hs∧(¬i∈F→hs=gs)
 | [],st,_=>⟨rfl,fun i gs h=>⟨gs,h,IK.refl i gs,fun _=>rfl⟩⟩
 | r ::F,st,hF=>by
  obtain⟨hrF,hF'⟩:=List.nodup_cons.1 hF;obtain⟨hl,hi⟩:=TA (rec:=rec) (id:=id) (fs:=fs) (names:=names) F (stepG rec id fs names st r) hF';rw[List.foldl_cons];cases hr:st.aV[r]? with
  | none=>
   rw[RQ hr] at hl hi;refine⟨hl,fun i gs h=> ?_⟩;obtain⟨hs,h1,h2,h3⟩:=hi i gs h;exact⟨hs,h1,h2,fun hn=>h3 (fun hm=>hn (List.mem_cons_of_mem _ hm))⟩
  | some g0=>
   obtain⟨s1,s2,y,s3,s4⟩:=RP (rec:=rec) (id:=id) (fs:=fs) (names:=names) hr;refine⟨by rw[hl,s1],fun i gs h=> ?_⟩;by_cases hir:i = r
   ·subst hir;rw[hr] at h;injection h with h;subst h
    obtain⟨hs,h1,_,h3⟩:=hi i y s3;have:=h3 hrF;subst this;exact⟨hs,h1,s4,fun hn=>absurd List.mem_cons_self hn⟩
   ·obtain⟨hs,h1,h2,h3⟩:=hi i gs (by rw[s2 i hir];exact h);exact⟨hs,h1,h2,fun hn=>h3 (fun hm=>hn (List.mem_cons_of_mem _ hm))⟩
theorem Yi (ft:List bK→cZ→Bool) (p:fU) (rec:List UInt8) (fs:List bK):(vO ft p rec fs).Nodup:=by
 unfold vO nD;exact List.Pairwise.filter _ List.nodup_range
def qm (P:m_→Prop) (st:Ja):Prop:=∀(i:Nat) (gs:List m_),st.aV[i]? = some gs→∀g∈gs,P g
theorem qm.set {P:m_→Prop} {aV:List (List m_)} {pl pl':List (List UInt8×Nat)} (h:qm P ⟨aV,pl⟩) {r:Nat} {hs:List m_} (hh:∀g∈hs,P g):qm P ⟨aV.set r hs,pl'⟩:=fun i gs hi g hg=>by
 have h1:(aV.set r hs)[i]? = some gs:=hi;by_cases e:r = i
 ·subst e;rw[List.getElem?_set] at h1;simp only[if_true] at h1;split at h1
  ·injection h1 with h1;subst h1;exact hh g hg
  ·cases h1
 ·rw[List.getElem?_set_ne e] at h1;exact h i gs h1 g hg
theorem qm.bump {P:m_→Prop} {aV:List (List m_)} {pl pl':List (List UInt8×Nat)} (h:qm P ⟨aV,pl⟩) (hb:∀g id,P g→P {g with ids:=jZ g.ids id}) (r k id:Nat):qm P ⟨nU aV r k id,pl'⟩:=by
 unfold nU;split
 ·rename_i gs ny;split
  ·rename_i g hg;refine qm.set h fun x hx=> ?_
   rcases List.mem_or_eq_of_mem_set hx with h1 | h1
   ·exact h r gs ny x h1
   ·subst h1;exact hb g id (h r gs ny g (List.mem_of_getElem? hg))
  ·exact h
 ·exact h
theorem qm.step {P:m_→Prop} {st:Ja} {rec:List UInt8} {id:Nat} {fs:List bK} {names:Nat→List (List UInt8)} (h:qm P st) (hb:∀g id,P g→P {g with ids:=jZ g.ids id}) (hn:∀r,P ⟨r,jh fs (names r),Jy rec r (jh fs (names r)),[]⟩) (r:Nat):qm P (stepG rec id fs names st r):=by
 unfold stepG;split
 ·exact qm.bump (pl:=st.place) h hb r _ id
 ·split
  ·rename_i gs ny;refine qm.bump (pl:=st.place) (qm.set (pl:=st.place) h fun x hx=> ?_) hb r _ id;rcases List.mem_append.1 hx with h1 | h1
   ·exact h r gs ny x h1
   ·rw[List.mem_singleton] at h1;subst h1;exact hn r
  ·exact h
theorem qm.fold {P:m_→Prop} {rec:List UInt8} {id:Nat} {fs:List bK} {names:Nat→List (List UInt8)} (hb:∀g id,P g→P {g with ids:=jZ g.ids id}) (hn:∀r,P ⟨r,jh fs (names r),Jy rec r (jh fs (names r)),[]⟩):∀(F:List Nat) {st:Ja},qm P st→qm P (F.foldl (stepG rec id fs names) st)
 | [],_,h=>h
 | r ::F,_,h=>qm.fold hb hn F (h.step hb hn r)
theorem qm.start {P:m_→Prop} (n:Nat):qm P ⟨List.replicate n [],[]⟩:=fun i gs h1 g h2=>by
 have:=List.mem_of_getElem? h1;simp at this;rw[this.2] at h2;cases h2
def ByG (g:m_):Prop:=g.fH.length≤8∧∀f∈g.fH,f.n.length+f.v.length≤1000∧f.v.length≤200
theorem ZL {p:fU} {rec:List UInt8} {a c:iD} {now:Int} (h:kG p rec a now=some c):c.fs.length≤8∧∀f∈c.fs,f.n.length+f.v.length≤1000∧f.v.length≤200:=by
 unfold kG at h;split at h
 ·cases h
 ·split at h
  ·rename_i hb;simp only[Bool.and_eq_true] at hb;have hi:=fV hb.1;obtain⟨rfl,-,-⟩:=yU h;refine⟨Nat.le_trans (mQ ..) hi.2.1,fun f hf=>hi.2.2 f (List.mem_filter.1 hf).1⟩
  ·cases h
theorem alW {fs:List bK} (h:fs.length≤8∧∀f∈fs,f.n.length+f.v.length≤1000∧f.v.length≤200) (n:List (List UInt8)):(jh fs n).length≤8∧∀f∈jh fs n,f.n.length+f.v.length≤1000∧f.v.length≤200:=
 ⟨Nat.le_trans (List.length_filter_le ..) h.1,fun f hf=>h.2 f (List.mem_filter.1 hf).1⟩
theorem akC {ft:List bK→cZ→Bool} {p:fU} {rec:List UInt8} {now:Int}:∀(l:List iD) {st:Ja},qm ByG st→qm ByG (l.foldl (ig ft p rec now) st)
 | [],_,h=>h
 | a ::l,st,h=>by
  refine akC l ?_;unfold ig;cases hs:kG p rec a now with
  | none=>exact h
  | some c=>exact qm.fold (fun g id hg=>hg) (fun r=>alW (ZL hs) _) _ h
theorem afG (ft:List bK→cZ→Bool) (p:fU) (rec:List UInt8) (fs:List bK):(vO ft p rec fs).length≤p.routes.length:=by
 unfold vO nD;refine Nat.le_trans (List.length_filter_le ..) ?_;rw[List.length_range];exact Nat.le_refl _
theorem kQ.aoK {n:Nat} (rec:List UInt8) (id:Nat) (fs:List bK) (names:Nat→List (List UInt8)):∀(F:List Nat) {j:Nat} {st:Ja},kQ n j st→kQ n (j + 2*F.length) (F.foldl (stepG rec id fs names) st)
 | [],_,_,h=>h
 | r ::F,j,st,h=>by
  have:=kQ.aoK rec id fs names F (h.step rec id fs names r);rw[List.foldl_cons,List.length_cons];exact this.mono ω
theorem kQ.awj {n:Nat} {ft:List bK→cZ→Bool} {p:fU} {rec:List UInt8} {now:Int} (hr:p.routes.length≤12):∀(l:List iD) {j:Nat} {st:Ja},kQ n j st→kQ n (j + 24*l.length) (l.foldl (ig ft p rec now) st)
 | [],_,_,h=>h
 | a ::l,j,st,h=>by
  have h1:kQ n (j + 24) (ig ft p rec now st a):=by
   unfold ig;cases kG p rec a now with
   | none=>exact h.mono ω
   | some c=>
    have:=afG ft p rec c.fs;exact (kQ.aoK rec (BU c) c.fs (dB p) (vO ft p rec c.fs) h).mono ω
  rw[List.foldl_cons,List.length_cons];exact (kQ.awj hr l h1).mono ω
def VR (j:Nat) (g:m_):Prop:=g.ids.length≤j
theorem aiW {j r:Nat} {gs hs:List m_} (h:IK r gs hs) (hg:∀g∈gs,VR j g):∀g∈hs,VR (j + 1) g:=by
 rcases h with⟨hl,hi⟩ | ⟨y,rfl,hy,-⟩
 ·intro g hm;obtain⟨k,hk⟩:=List.getElem?_of_mem hm;have IY:k<gs.length:=by rw[hl];exact (List.getElem?_eq_some_iff.1 hk).1
  have h1:=(hi k _ g (List.getElem?_eq_getElem IY) hk).2.2.2;have h2:=hg _ (List.getElem_mem IY);unfold VR at *
  omega
 ·intro g hm;rcases List.mem_append.1 hm with h1 | h1
  ·exact Nat.le_succ_of_le (hg g h1)
  ·rw[List.mem_singleton] at h1;subst h1;unfold VR;omega
theorem acL {ft:List bK→cZ→Bool} {p:fU} {rec:List UInt8} {now:Int}:∀(l:List iD) {j:Nat} {st:Ja},qm (VR j) st→qm (VR (j + l.length)) (l.foldl (ig ft p rec now) st)
 | [],_,_,h=>h
 | a ::l,j,st,h=>by
  have h1:qm (VR (j + 1)) (ig ft p rec now st a):=by
   unfold ig;cases kG p rec a now with
   | none=>exact fun i gs hi g hg=>Nat.le_succ_of_le (h i gs hi g hg)
   | some c=>
    intro i gs hi g hg;obtain⟨hl,hr⟩:=TA (rec:=rec) (id:=BU c) (fs:=c.fs) (names:=dB p) (vO ft p rec c.fs) st (Yi ft p rec c.fs);have hlt:i < st.aV.length:=by rw[←hl];exact (List.getElem?_eq_some_iff.1 hi).1
    obtain⟨hs,h2,h3,-⟩:=hr i _ (List.getElem?_eq_getElem hlt);rw[hi] at h2;injection h2 with h2;subst h2
    exact aiW h3 (h i _ (List.getElem?_eq_getElem hlt)) g hg
  have:=acL (ft:=ft) (p:=p) (rec:=rec) (now:=now) l h1;rw[List.foldl_cons,List.length_cons,show j + (l.length+1)=j + 1+l.length by omega];exact this
structure Pv (p:fU) (n:Nat) (g:m_):Prop where
 r:g.route<p.routes.length
 r12:g.route<12
 fH:ByG g
 VX:jq g.ids
 ids:g.ids.length≤n
theorem Yh:∀(aV:List (List m_)) (j:Nat),(∀gs∈aV,gs.length≤j)→aV.flatten.length≤aV.length*j
 | [],_,_=>by simp
 | gs::aV,j,h=>by
  have h1:=Yh aV j (fun x hx=>h x (List.mem_cons_of_mem _ hx));have h2:=h gs List.mem_cons_self;rw[List.flatten_cons,List.length_append,List.length_cons,Nat.add_mul];omega
theorem KL (fb:cZ→Bool) (ft:List bK→cZ→Bool) (p:fU) (rec:List UInt8) (l:List iD) (now:Int):(∀g∈mV fb ft p rec l now,Pv p l.length g)∧(mV fb ft p rec l now).length≤288*l.length:=by
 unfold mV;split
 ·rename_i xE;have h12:p.routes.length≤12:=(H8 (CS xE).1).1;have hI:kQ p.routes.length (0+24*l.length) (mF ft p rec l now):=kQ.awj h12 l (kQ.start _);have hB:qm ByG (mF ft p rec l now):=akC l (qm.start _);have hD:qm (VR (0+l.length)) (mF ft p rec l now):=acL l (qm.start _);have hR:j_ 0 (mF ft p rec l now).aV:=j_.all l (j_.start _);generalize mF ft p rec l now=st at *
  refine⟨fun g hg=> ?_,?_⟩
  ·obtain⟨gs,h1,h2⟩:=List.mem_flatten.1 hg;obtain⟨i,hi⟩:=List.getElem?_of_mem h1;obtain⟨k,hk⟩:=List.getElem?_of_mem h2;have S_:i < st.aV.length:=(List.getElem?_eq_some_iff.1 hi).1;have hr:g.route=0+i:=hR i gs g hi h2;have hd:=hD i gs hi g h2;unfold VR at hd;have:=hI.len;exact⟨ω,ω,hB i gs hi g h2,hI.VX i gs k g hi hk,ω⟩
  ·have h1:=Yh st.aV (24*l.length) (fun gs hg=>by
    obtain⟨i,hi⟩:=List.getElem?_of_mem hg;have:=hI.mr i gs hi;omega)
   rw[hI.len] at h1;have h2:=Nat.mul_le_mul_right (24*l.length) h12;omega
 ·exact⟨fun g hg=>(List.not_mem_nil hg).elim,by simp⟩
theorem OQ {α:Type} {xs ys:List α} (hl:xs.length=ys.length) (hh:∀(i:Nat) x y,xs[i]? = some x→ys[i]? = some y→x = y):xs=ys:=by
 apply List.ext_getElem?;intro i;rcases Nat.lt_or_ge i xs.length with hi | hi
 ·rw[List.getElem?_eq_getElem hi,List.getElem?_eq_getElem ω];rw[hh i xs[i] ys[i] (List.getElem?_eq_getElem hi) (List.getElem?_eq_getElem ω)]
 ·rw[List.getElem?_eq_none hi,List.getElem?_eq_none ω]
theorem ac7 {α:Type} {xs ys:List α} {k:Nat} {x y:α} (h:∀(i:Nat) x y,i < k→xs[i]? = some x→ys[i]? = some y→x = y) (hx:xs[k]? = some x) (hy:ys[k]? = some y) (e:x = y):∀(i:Nat) a b,i < k+1→xs[i]? = some a→ys[i]? = some b→a = b:=fun i a b hi ha hb=>by
 rcases Nat.lt_or_ge i k with h3 | h3
 ·exact h i a b h3 ha hb
 ·have:i = k:=ω;subst this;rw[hx] at ha;rw[hy] at hb;injection ha with ha;injection hb with hb
  rw[←ha,←hb];exact e
theorem BK {α:Type} {xs ys:List α} {k:Nat} {x y:α} (hx:xs[k]? = some x) (hy:ys[k]? = some y) (e:¬x = y):¬xs=ys:=fun h=>by
 subst h;rw[hx] at hy;injection hy with hy;exact e hy
theorem OU (A B:Option Addr) (m c m' c':Nat) (xs ys:List bK) (w:World) (h:bW w 2 dW A m xs) (h':bW w 2 dW B m' ys) (hm:m≤1000000) (hm':m'≤1000000) :
 Calls Tryz.prog 64 #[.slice A m c,.slice B m' c'] w fun e w'=>e =.returned (.bool (decide (xs=ys)))∧ah w w':=by
 obtain⟨R,hR⟩:∃R,R=decide (xs=ys):=⟨_,rfl⟩;rw[←hR];replace hR:=ζ hR;have hl:=ζ h.1;have hl':=ζ h'.1;by_cases hne:m = m'
 ·subst hne;have Za:((m:Int) != (m:Int))=false:=by simp
  replace h:=ζ h;replace h':=ζ h';go_enter Tryz.func64,Tryz.ntmps64
  go_wp2;go_loopw [5,13] (fun _ i wr=>∃k:Nat,k≤m∧i =.int .i64 (k:Int)∧Hid (∀(i:Nat) x y,i < k→xs[i]? = some x→ys[i]? = some y→x = y)∧Hid (ah w wr)) (fun _ i _=>m - (intOf i).toNat)
  case atStart=>exact⟨0,ω,rfl,ζ (fun i x y hi=>absurd hi ω),ζ (ah.refl _)⟩
  case round=>
   obtain⟨k,hk,rfl,Ae,hG⟩:=hrel;by_cases hlt:k<m
   ·obtain⟨b,off,x,rfl,hb,hx,hc⟩:=(h.o.keep hG.o).at_ hlt;obtain⟨b',kJ,y,rfl,hb',hy,hc'⟩:=(h'.o.keep hG.o).at_ hlt;have e0:wr.cell? ⟨b,off+k*2,none⟩=some (.string ⟨x.n.toArray⟩):=by simpa using hc 0 _ rfl
    have e1:wr.cell? ⟨b,off+k*2+1,none⟩=some (.string ⟨x.v.toArray⟩):=hc 1 _ rfl;have f0:wr.cell? ⟨b',kJ+k*2,none⟩=some (.string ⟨y.n.toArray⟩):=by simpa using hc' 0 _ rfl
    have f1:wr.cell? ⟨b',kJ+k*2+1,none⟩=some (.string ⟨y.v.toArray⟩):=hc' 1 _ rfl;have kY:(k:Int)<(m:Int):=ω;obtain⟨xn,xv⟩:=x;obtain⟨yn,yv⟩:=y;simp only at e0 e1 f0 f1;have aN:=ζ (ah.refl wr);by_cases h1:xn=yn
    ·subst h1;by_cases h2:xv=yv
     ·subst h2;have AV:=ζ (ac7 Ae.o hx hy rfl);clear hc hc' hx hy Ae;go_wp2;go_quiet (fail)
      go_wp2;go_roundw
      case rel=>exact⟨k+1,ω,ν,AV,ζ (hG.o.drewN _)⟩
      case measure=>exact ψ
     ·have uh:Hid (R=false):=ζ (by rw[hR.o,decide_eq_false (BK hx hy (by intro e;injection e with e1 e2;exact h2 e2))]);have hb2:(xv==yv)=false:=by simp[h2]
      clear hc hc' hx hy Ae h2;go_wp2;go_quiet (fail)
      go_wp2;go_ret;exact⟨by rw[uh.o];rfl,hG.o.drewN _⟩
    ·have uh:Hid (R=false):=ζ (by rw[hR.o,decide_eq_false (BK hx hy (by intro e;injection e with e1 e2;exact h1 e1))]);have hb1:(xn==yn)=false:=by simp[h1]
     clear hc hc' hx hy Ae h1;go_wp2;go_quiet (fail)
     go_wp2;go_ret;exact⟨by rw[uh.o];rfl,hG.o.drewN _⟩
   ·obtain rfl:k=m:=ω;have Td:Hid (R=true):=ζ (by
     rw[hR.o,decide_eq_true_iff];exact OQ (by rw[hl.o,hl'.o]) (fun i x y hx hy=>Ae.o i x y (by rw[←hl.o];exact (List.getElem?_eq_some_iff.1 hx).1) hx hy))
    go_wp2;go_ret;exact⟨by rw[Td.o];rfl,hG.o⟩
 ·have uh:Hid (R=false):=ζ (by rw[hR.o,decide_eq_false (fun e=>hne (by rw[←hl.o,←hl'.o,e]))]);have Za:((m:Int) != (m':Int))=true:=by simp;omega
  go_enter Tryz.func64,Tryz.ntmps64
  go_wp2;go_ret;exact⟨by rw[uh.o];rfl,ah.refl _⟩
structure gJ where
 k:Int
 a:dA
 s:xZ
 now:Int
def gJ.e (x:gJ):ES:=⟨x.k,x.a.a,x.s.s,x.now⟩
def qV (x:gJ):List Value:=[.int .i64 x.k,.string ⟨x.a.a.src.toArray⟩,.slice x.a.A x.a.m x.a.k,.int .i64 x.a.a.l.lv,.int .u32 (x.a.a.l.c:Int),.int .i64 x.a.a.f,.int .i64 x.a.a.t,.slice x.s.A x.s.m x.s.k,.int .i64 x.s.s.f,.int .i64 x.s.s.t,.int .i64 x.s.s.l.lv,.int .u32 (x.s.s.l.c:Int),.int .i64 x.now]
def Ul (x:gJ):Value:=.agg #[.int .i64 x.k,.string ⟨x.a.a.src.toArray⟩,.slice x.a.A x.a.m x.a.k,.int .i64 x.a.a.l.lv,.int .u32 (x.a.a.l.c:Int),.int .i64 x.a.a.f,.int .i64 x.a.a.t,.slice x.s.A x.s.m x.s.k,.int .i64 x.s.s.f,.int .i64 x.s.s.t,.int .i64 x.s.s.l.lv,.int .u32 (x.s.s.l.c:Int),.int .i64 x.now]
def WG (x:nH):Value:=.agg #[.int .u64 (x.t.id:Int),.bool x.t.jH,.slice x.A x.m x.k]
def Gf {α:Type} (e:α→α→Bool) (xs ys:List α):Bool:=decide (xs.length=ys.length)&&(xs.zip ys).all fun p=>e p.1 p.2
theorem IC {α:Type} {e:α→α→Bool} {xs ys:List α} (hl:xs.length=ys.length) (h:∀(i:Nat) x y,xs[i]? = some x→ys[i]? = some y→e x y = true):Gf e xs ys=true:=by
 unfold Gf;rw[Bool.and_eq_true,decide_eq_true_iff,List.all_eq_true];refine⟨hl,fun p hp=> ?_⟩;obtain⟨i,hi⟩:=List.getElem?_of_mem hp;rw[List.getElem?_zip_eq_some] at hi;exact h i p.1 p.2 hi.1 hi.2
theorem MV {α:Type} {e:α→α→Bool} {xs ys:List α} {k:Nat} {x y:α} (hx:xs[k]? = some x) (hy:ys[k]? = some y) (h:e x y = false):Gf e xs ys=false:=by
 unfold Gf;have:((xs.zip ys).all fun p=>e p.1 p.2)=false:=by
  rw[List.all_eq_false];exact⟨(x,y),List.mem_of_getElem? (List.getElem?_zip_eq_some.2 ⟨hx,hy⟩),by simp[h]⟩
 rw[this,Bool.and_false]
theorem OV {α β:Type} [DecidableEq β] {e:α→α→Bool} {f:α→β} {xs ys:List α} (h:∀x∈xs,∀y∈ys,e x y = decide (f x = f y)):Gf e xs ys=decide (xs.map f = ys.map f):=by
 by_cases hm:xs.map f = ys.map f
 ·rw[decide_eq_true hm];have hl:xs.length=ys.length:=by have:=congrArg List.length hm;simpa using this
  refine IC hl (fun i x y hx hy=> ?_);rw[h x (List.mem_of_getElem? hx) y (List.mem_of_getElem? hy),decide_eq_true_iff];have h1:(xs.map f)[i]? = some (f x):=by rw[List.getElem?_map,hx];rfl
  rw[hm,List.getElem?_map,hy] at h1;injection h1 with h1
  exact h1.symm
 ·rw[decide_eq_false hm];by_cases hl:xs.length=ys.length
  ·rw[←Bool.not_eq_true];intro he;refine hm (OQ (by simpa using hl) (fun i a b ha hb=> ?_));rw[List.getElem?_map] at ha hb;obtain⟨x,hx,rfl⟩:=Option.map_eq_some_iff.1 ha;obtain⟨y,hy,rfl⟩:=Option.map_eq_some_iff.1 hb;by_cases hxy:f x = f y
   ·exact hxy
   ·have:=MV (e:=e) hx hy (by rw[h x (List.mem_of_getElem? hx) y (List.mem_of_getElem? hy),decide_eq_false hxy]);rw[this] at he;cases he
  ·unfold Gf;rw[decide_eq_false hl,Bool.false_and]
def ak2 {α:Type} (P:Program) (g:FuncId) (val:α→Value) (e:α→α→Bool) (xs ys:List α) (w:World):Prop:=
 ∀x∈xs,∀y∈ys,∀(W:World),ah w W→Calls P g #[val x,val y] W fun e' w'=>e'=.returned (.bool (e x y))∧ah W w'
theorem JW {α:Type} {e:α→α→Bool} {xs ys:List α} {k:Nat} {x y:α} (h:∀(i:Nat) x y,i < k→xs[i]? = some x→ys[i]? = some y→e x y = true) (hx:xs[k]? = some x) (hy:ys[k]? = some y) (he:e x y = true):∀(i:Nat) a b,i < k+1→xs[i]? = some a→ys[i]? = some b→e a b = true:=fun i a b hi ha hb=>by
 rcases Nat.lt_or_ge i k with h3 | h3
 ·exact h i a b h3 ha hb
 ·have:i = k:=ω;subst this;rw[hx] at ha;rw[hy] at hb;injection ha with ha;injection hb with hb
  rw[←ha,←hb];exact he
theorem abO (g:FuncId) (eg:Enters Tryz.prog g) (e:nH→nH→Bool) (A B:Option Addr) (m c m' c':Nat) (xs ys:List nH) (w:World) (h:bW w 3 Yr A m xs) (h':bW w 3 Yr B m' ys) (hm:m≤1000000) (hm':m'≤1000000) (hp:ak2 Tryz.prog g WG e xs ys w) :
 Calls Tryz.prog 65 #[.slice A m c,.slice B m' c',.func (.func g) #[] #[]] w fun e' w'=>e'=.returned (.bool (Gf e xs ys))∧ah w w':=by
 unfold Enters at eg;obtain⟨R,hR⟩:∃R,R=Gf e xs ys:=⟨_,rfl⟩;rw[←hR];replace hR:=ζ hR;have hl:=ζ h.1;have hl':=ζ h'.1;replace hp:=ζ hp;by_cases hne:m = m'
 ·subst hne;have Za:((m:Int) != (m:Int))=false:=by simp
  replace h:=ζ h;replace h':=ζ h';go_enter Tryz.func65,Tryz.ntmps65
  go_wp2;go_loopw [7,8,9,17] (fun _ _ _ i wr=>∃k:Nat,k≤m∧i =.int .i64 (k:Int)∧Hid (∀(i:Nat) x y,i < k→xs[i]? = some x→ys[i]? = some y→e x y = true)∧Hid (ah w wr)) (fun _ _ _ i _=>m - (intOf i).toNat)
  case atStart=>exact⟨0,ω,rfl,ζ (fun i x y hi=>absurd hi ω),ζ (ah.refl _)⟩
  case round=>
   obtain⟨k,hk,rfl,Ae,hG⟩:=hrel;by_cases hlt:k<m
   ·obtain⟨b,off,x,rfl,hb,hx,hc⟩:=(h.o.keep hG.o).at_ hlt;obtain⟨b',kJ,y,rfl,hb',hy,hc'⟩:=(h'.o.keep hG.o).at_ hlt;have e0:wr.cell? ⟨b,off+k*3,none⟩=some (.int .u64 (x.t.id:Int)):=hc 0 _ rfl;have e1:wr.cell? ⟨b,off+k*3+1,none⟩=some (.bool x.t.jH):=hc 1 _ rfl;have e2:wr.cell? ⟨b,off+k*3+2,none⟩=some (.slice x.A x.m x.k):=hc 2 _ rfl;have f0:wr.cell? ⟨b',kJ+k*3,none⟩=some (.int .u64 (y.t.id:Int)):=hc' 0 _ rfl;have f1:wr.cell? ⟨b',kJ+k*3+1,none⟩=some (.bool y.t.jH):=hc' 1 _ rfl;have f2:wr.cell? ⟨b',kJ+k*3+2,none⟩=some (.slice y.A y.m y.k):=hc' 2 _ rfl;have kY:(k:Int)<(m:Int):=ω;have jG:=ζ ((hG.o.alloc (.cells #[.int .u64 (x.t.id:Int),.bool x.t.jH,.slice x.A x.m x.k] 65)).alloc (.cells #[.int .u64 (y.t.id:Int),.bool y.t.jH,.slice y.A y.m y.k] 65));have cE:=hp.o x (List.mem_of_getElem? hx) y (List.mem_of_getElem? hy);unfold WG at cE;cases hq:e x y with
    | true=>
     rw[hq] at cE;have AV:=ζ (JW Ae.o hx hy hq);replace cE:=ζ cE;clear hc hc' hx hy Ae hq hR;go_wp2_with fail;refine (cE.out _ jG.o).mono ?_;rintro e' w1 ⟨rfl,hb1⟩;have fF:=ζ (jG.o.trans hb1);go_wp2;go_roundw
     case rel=>exact⟨k+1,ω,ν,AV,fF⟩
     case measure=>exact ψ
    | false=>
     rw[hq] at cE;have uh:Hid (R=false):=ζ (by rw[hR.o,MV hx hy hq]);replace cE:=ζ cE;clear hc hc' hx hy Ae hq hR;go_wp2_with fail;refine (cE.out _ jG.o).mono ?_;rintro e' w1 ⟨rfl,hb1⟩;have fF:=ζ (jG.o.trans hb1);go_wp2;go_ret;exact⟨by rw[uh.o];rfl,fF.o⟩
   ·obtain rfl:k=m:=ω;have Td:Hid (R=true):=ζ (by
     rw[hR.o];exact IC (by rw[hl.o,hl'.o]) (fun i x y hx hy=>Ae.o i x y (by rw[←hl.o];exact (List.getElem?_eq_some_iff.1 hx).1) hx hy))
    clear hR;go_wp2;go_ret;exact⟨by rw[Td.o];rfl,hG.o⟩
 ·have uh:Hid (R=false):=ζ (by rw[hR.o];unfold Gf;rw[decide_eq_false (fun e=>hne (by rw[←hl.o,←hl'.o,e]))];rfl);have Za:((m:Int) != (m':Int))=true:=by simp;omega
  clear hR;go_enter Tryz.func65,Tryz.ntmps65
  go_wp2;go_ret;exact⟨by rw[uh.o];rfl,ah.refl _⟩
theorem afR (g:FuncId) (eg:Enters Tryz.prog g) (e:fG→fG→Bool) (A B:Option Addr) (m c m' c':Nat) (xs ys:List fG) (w:World) (h:bW w 6 jY A m xs) (h':bW w 6 jY B m' ys) (hm:m≤1000000) (hm':m'≤1000000) (hp:ak2 Tryz.prog g WI e xs ys w) :
 Calls Tryz.prog 70 #[.slice A m c,.slice B m' c',.func (.func g) #[] #[]] w fun e' w'=>e'=.returned (.bool (Gf e xs ys))∧ah w w':=by
 unfold Enters at eg;obtain⟨R,hR⟩:∃R,R=Gf e xs ys:=⟨_,rfl⟩;rw[←hR];replace hR:=ζ hR;have hl:=ζ h.1;have hl':=ζ h'.1;replace hp:=ζ hp;by_cases hne:m = m'
 ·subst hne;have Za:((m:Int) != (m:Int))=false:=by simp
  replace h:=ζ h;replace h':=ζ h';go_enter Tryz.func70,Tryz.ntmps70
  go_wp2;go_loopw [7,8,9,17] (fun _ _ _ i wr=>∃k:Nat,k≤m∧i =.int .i64 (k:Int)∧Hid (∀(i:Nat) x y,i < k→xs[i]? = some x→ys[i]? = some y→e x y = true)∧Hid (ah w wr)) (fun _ _ _ i _=>m - (intOf i).toNat)
  case atStart=>exact⟨0,ω,rfl,ζ (fun i x y hi=>absurd hi ω),ζ (ah.refl _)⟩
  case round=>
   obtain⟨k,hk,rfl,Ae,hG⟩:=hrel;by_cases hlt:k<m
   ·obtain⟨b,off,x,rfl,hb,hx,hc⟩:=(h.o.keep hG.o).at_ hlt;obtain⟨b',kJ,y,rfl,hb',hy,hc'⟩:=(h'.o.keep hG.o).at_ hlt;have e0:wr.cell? ⟨b,off+k*6,none⟩=some (.string ⟨x.rc.toArray⟩):=hc 0 _ rfl;have e1:wr.cell? ⟨b,off+k*6+1,none⟩=some (.string ⟨x.gr.toArray⟩):=hc 1 _ rfl;have e2:wr.cell? ⟨b,off+k*6+2,none⟩=some (.int .i64 x.n):=hc 2 _ rfl;have e3:wr.cell? ⟨b,off+k*6+3,none⟩=some (.int .i64 x.tm):=hc 3 _ rfl;have e4:wr.cell? ⟨b,off+k*6+4,none⟩=some (.slice x.bA x.bm x.bk):=hc 4 _ rfl;have e5:wr.cell? ⟨b,off+k*6+5,none⟩=some (.slice x.tA x.tl x.tk):=hc 5 _ rfl;have f0:wr.cell? ⟨b',kJ+k*6,none⟩=some (.string ⟨y.rc.toArray⟩):=hc' 0 _ rfl;have f1:wr.cell? ⟨b',kJ+k*6+1,none⟩=some (.string ⟨y.gr.toArray⟩):=hc' 1 _ rfl;have f2:wr.cell? ⟨b',kJ+k*6+2,none⟩=some (.int .i64 y.n):=hc' 2 _ rfl;have f3:wr.cell? ⟨b',kJ+k*6+3,none⟩=some (.int .i64 y.tm):=hc' 3 _ rfl;have f4:wr.cell? ⟨b',kJ+k*6+4,none⟩=some (.slice y.bA y.bm y.bk):=hc' 4 _ rfl;have f5:wr.cell? ⟨b',kJ+k*6+5,none⟩=some (.slice y.tA y.tl y.tk):=hc' 5 _ rfl;have kY:(k:Int)<(m:Int):=ω;have jG:=ζ ((hG.o.alloc (.cells #[.string ⟨x.rc.toArray⟩,.string ⟨x.gr.toArray⟩,.int .i64 x.n,.int .i64 x.tm,.slice x.bA x.bm x.bk,.slice x.tA x.tl x.tk] 64)).alloc (.cells #[.string ⟨y.rc.toArray⟩,.string ⟨y.gr.toArray⟩,.int .i64 y.n,.int .i64 y.tm,.slice y.bA y.bm y.bk,.slice y.tA y.tl y.tk] 64));have cE:=hp.o x (List.mem_of_getElem? hx) y (List.mem_of_getElem? hy);unfold WI at cE;cases hq:e x y with
    | true=>
     rw[hq] at cE;have AV:=ζ (JW Ae.o hx hy hq);replace cE:=ζ cE;clear hc hc' hx hy Ae hq hR;go_wp2_with fail;refine (cE.out _ jG.o).mono ?_;rintro e' w1 ⟨rfl,hb1⟩;have fF:=ζ (jG.o.trans hb1);go_wp2;go_roundw
     case rel=>exact⟨k+1,ω,ν,AV,fF⟩
     case measure=>exact ψ
    | false=>
     rw[hq] at cE;have uh:Hid (R=false):=ζ (by rw[hR.o,MV hx hy hq]);replace cE:=ζ cE;clear hc hc' hx hy Ae hq hR;go_wp2_with fail;refine (cE.out _ jG.o).mono ?_;rintro e' w1 ⟨rfl,hb1⟩;have fF:=ζ (jG.o.trans hb1);go_wp2;go_ret;exact⟨by rw[uh.o];rfl,fF.o⟩
   ·obtain rfl:k=m:=ω;have Td:Hid (R=true):=ζ (by
     rw[hR.o];exact IC (by rw[hl.o,hl'.o]) (fun i x y hx hy=>Ae.o i x y (by rw[←hl.o];exact (List.getElem?_eq_some_iff.1 hx).1) hx hy))
    clear hR;go_wp2;go_ret;exact⟨by rw[Td.o];rfl,hG.o⟩
 ·have uh:Hid (R=false):=ζ (by rw[hR.o];unfold Gf;rw[decide_eq_false (fun e=>hne (by rw[←hl.o,←hl'.o,e]))];rfl);have Za:((m:Int) != (m':Int))=true:=by simp;omega
  clear hR;go_enter Tryz.func70,Tryz.ntmps70
  go_wp2;go_ret;exact⟨by rw[uh.o];rfl,ah.refl _⟩
theorem afS (g:FuncId) (eg:Enters Tryz.prog g) (e:gJ→gJ→Bool) (A B:Option Addr) (m c m' c':Nat) (xs ys:List gJ) (w:World) (h:bW w 13 qV A m xs) (h':bW w 13 qV B m' ys) (hm:m≤1000000) (hm':m'≤1000000) (hp:ak2 Tryz.prog g Ul e xs ys w) :
 Calls Tryz.prog 68 #[.slice A m c,.slice B m' c',.func (.func g) #[] #[]] w fun e' w'=>e'=.returned (.bool (Gf e xs ys))∧ah w w':=by
 unfold Enters at eg;obtain⟨R,hR⟩:∃R,R=Gf e xs ys:=⟨_,rfl⟩;rw[←hR];replace hR:=ζ hR;have hl:=ζ h.1;have hl':=ζ h'.1;replace hp:=ζ hp;by_cases hne:m = m'
 ·subst hne;have Za:((m:Int) != (m:Int))=false:=by simp
  replace h:=ζ h;replace h':=ζ h';go_enter Tryz.func68,Tryz.ntmps68
  go_wp2;go_loopw [7,8,9,17] (fun _ _ _ i wr=>∃k:Nat,k≤m∧i =.int .i64 (k:Int)∧Hid (∀(i:Nat) x y,i < k→xs[i]? = some x→ys[i]? = some y→e x y = true)∧Hid (ah w wr)) (fun _ _ _ i _=>m - (intOf i).toNat)
  case atStart=>exact⟨0,ω,rfl,ζ (fun i x y hi=>absurd hi ω),ζ (ah.refl _)⟩
  case round=>
   obtain⟨k,hk,rfl,Ae,hG⟩:=hrel;by_cases hlt:k<m
   ·obtain⟨b,off,x,rfl,hb,hx,hc⟩:=(h.o.keep hG.o).at_ hlt;obtain⟨b',kJ,y,rfl,hb',hy,hc'⟩:=(h'.o.keep hG.o).at_ hlt;have e0:wr.cell? ⟨b,off+k*13,none⟩=some (.int .i64 x.k):=hc 0 _ rfl;have e1:wr.cell? ⟨b,off+k*13+1,none⟩=some (.string ⟨x.a.a.src.toArray⟩):=hc 1 _ rfl;have e2:wr.cell? ⟨b,off+k*13+2,none⟩=some (.slice x.a.A x.a.m x.a.k):=hc 2 _ rfl;have e3:wr.cell? ⟨b,off+k*13+3,none⟩=some (.int .i64 x.a.a.l.lv):=hc 3 _ rfl;have e4:wr.cell? ⟨b,off+k*13+4,none⟩=some (.int .u32 (x.a.a.l.c:Int)):=hc 4 _ rfl;have e5:wr.cell? ⟨b,off+k*13+5,none⟩=some (.int .i64 x.a.a.f):=hc 5 _ rfl;have e6:wr.cell? ⟨b,off+k*13+6,none⟩=some (.int .i64 x.a.a.t):=hc 6 _ rfl;have e7:wr.cell? ⟨b,off+k*13+7,none⟩=some (.slice x.s.A x.s.m x.s.k):=hc 7 _ rfl;have e8:wr.cell? ⟨b,off+k*13+8,none⟩=some (.int .i64 x.s.s.f):=hc 8 _ rfl;have e9:wr.cell? ⟨b,off+k*13+9,none⟩=some (.int .i64 x.s.s.t):=hc 9 _ rfl;have e10:wr.cell? ⟨b,off+k*13+10,none⟩=some (.int .i64 x.s.s.l.lv):=hc 10 _ rfl;have e11:wr.cell? ⟨b,off+k*13+11,none⟩=some (.int .u32 (x.s.s.l.c:Int)):=hc 11 _ rfl;have e12:wr.cell? ⟨b,off+k*13+12,none⟩=some (.int .i64 x.now):=hc 12 _ rfl;have f0:wr.cell? ⟨b',kJ+k*13,none⟩=some (.int .i64 y.k):=hc' 0 _ rfl;have f1:wr.cell? ⟨b',kJ+k*13+1,none⟩=some (.string ⟨y.a.a.src.toArray⟩):=hc' 1 _ rfl;have f2:wr.cell? ⟨b',kJ+k*13+2,none⟩=some (.slice y.a.A y.a.m y.a.k):=hc' 2 _ rfl;have f3:wr.cell? ⟨b',kJ+k*13+3,none⟩=some (.int .i64 y.a.a.l.lv):=hc' 3 _ rfl;have f4:wr.cell? ⟨b',kJ+k*13+4,none⟩=some (.int .u32 (y.a.a.l.c:Int)):=hc' 4 _ rfl;have f5:wr.cell? ⟨b',kJ+k*13+5,none⟩=some (.int .i64 y.a.a.f):=hc' 5 _ rfl;have f6:wr.cell? ⟨b',kJ+k*13+6,none⟩=some (.int .i64 y.a.a.t):=hc' 6 _ rfl;have f7:wr.cell? ⟨b',kJ+k*13+7,none⟩=some (.slice y.s.A y.s.m y.s.k):=hc' 7 _ rfl;have f8:wr.cell? ⟨b',kJ+k*13+8,none⟩=some (.int .i64 y.s.s.f):=hc' 8 _ rfl;have f9:wr.cell? ⟨b',kJ+k*13+9,none⟩=some (.int .i64 y.s.s.t):=hc' 9 _ rfl;have f10:wr.cell? ⟨b',kJ+k*13+10,none⟩=some (.int .i64 y.s.s.l.lv):=hc' 10 _ rfl;have f11:wr.cell? ⟨b',kJ+k*13+11,none⟩=some (.int .u32 (y.s.s.l.c:Int)):=hc' 11 _ rfl;have f12:wr.cell? ⟨b',kJ+k*13+12,none⟩=some (.int .i64 y.now):=hc' 12 _ rfl;have kY:(k:Int)<(m:Int):=ω;have jG:=ζ ((hG.o.alloc (.cells #[.int .i64 x.k,.string ⟨x.a.a.src.toArray⟩,.slice x.a.A x.a.m x.a.k,.int .i64 x.a.a.l.lv,.int .u32 (x.a.a.l.c:Int),.int .i64 x.a.a.f,.int .i64 x.a.a.t,.slice x.s.A x.s.m x.s.k,.int .i64 x.s.s.f,.int .i64 x.s.s.t,.int .i64 x.s.s.l.lv,.int .u32 (x.s.s.l.c:Int),.int .i64 x.now] 166)).alloc (.cells #[.int .i64 y.k,.string ⟨y.a.a.src.toArray⟩,.slice y.a.A y.a.m y.a.k,.int .i64 y.a.a.l.lv,.int .u32 (y.a.a.l.c:Int),.int .i64 y.a.a.f,.int .i64 y.a.a.t,.slice y.s.A y.s.m y.s.k,.int .i64 y.s.s.f,.int .i64 y.s.s.t,.int .i64 y.s.s.l.lv,.int .u32 (y.s.s.l.c:Int),.int .i64 y.now] 166));have cE:=hp.o x (List.mem_of_getElem? hx) y (List.mem_of_getElem? hy);unfold Ul at cE;cases hq:e x y with
    | true=>
     rw[hq] at cE;have AV:=ζ (JW Ae.o hx hy hq);replace cE:=ζ cE;clear hc hc' hx hy Ae hq hR;go_wp2_with fail;refine (cE.out _ jG.o).mono ?_;rintro e' w1 ⟨rfl,hb1⟩;have fF:=ζ (jG.o.trans hb1);go_wp2;go_roundw
     case rel=>exact⟨k+1,ω,ν,AV,fF⟩
     case measure=>exact ψ
    | false=>
     rw[hq] at cE;have uh:Hid (R=false):=ζ (by rw[hR.o,MV hx hy hq]);replace cE:=ζ cE;clear hc hc' hx hy Ae hq hR;go_wp2_with fail;refine (cE.out _ jG.o).mono ?_;rintro e' w1 ⟨rfl,hb1⟩;have fF:=ζ (jG.o.trans hb1);go_wp2;go_ret;exact⟨by rw[uh.o];rfl,fF.o⟩
   ·obtain rfl:k=m:=ω;have Td:Hid (R=true):=ζ (by
     rw[hR.o];exact IC (by rw[hl.o,hl'.o]) (fun i x y hx hy=>Ae.o i x y (by rw[←hl.o];exact (List.getElem?_eq_some_iff.1 hx).1) hx hy))
    clear hR;go_wp2;go_ret;exact⟨by rw[Td.o];rfl,hG.o⟩
 ·have uh:Hid (R=false):=ζ (by rw[hR.o];unfold Gf;rw[decide_eq_false (fun e=>hne (by rw[←hl.o,←hl'.o,e]))];rfl);have Za:((m:Int) != (m':Int))=true:=by simp;omega
  clear hR;go_enter Tryz.func68,Tryz.ntmps68
  go_wp2;go_ret;exact⟨by rw[uh.o];rfl,ah.refl _⟩
theorem afQ (A B:Option Addr) (m c m' c':Nat) (xs ys:List cZ) (w:World) (h:bW w 3 qU A m xs) (h':bW w 3 qU B m' ys) (hm:m≤1000000) (hm':m'≤1000000) :
 Calls Tryz.prog 108 #[.slice A m c,.slice B m' c'] w fun e w'=>e =.returned (.bool (decide (xs=ys)))∧ah w w':=by
 obtain⟨R,hR⟩:∃R,R=decide (xs=ys):=⟨_,rfl⟩;rw[←hR];replace hR:=ζ hR;have hl:=ζ h.1;have hl':=ζ h'.1;by_cases hne:m = m'
 ·subst hne;have Za:((m:Int) != (m:Int))=false:=by simp
  replace h:=ζ h;replace h':=ζ h';go_enter Tryz.func108,Tryz.ntmps108
  go_wp2;go_loopw [5,13] (fun _ i wr=>∃k:Nat,k≤m∧i =.int .i64 (k:Int)∧Hid (∀(i:Nat) x y,i < k→xs[i]? = some x→ys[i]? = some y→x = y)∧Hid (ah w wr)) (fun _ i _=>m - (intOf i).toNat)
  case atStart=>exact⟨0,ω,rfl,ζ (fun i x y hi=>absurd hi ω),ζ (ah.refl _)⟩
  case round=>
   obtain⟨k,hk,rfl,Ae,hG⟩:=hrel;by_cases hlt:k<m
   ·obtain⟨b,off,x,rfl,hb,hx,hc⟩:=(h.o.keep hG.o).at_ hlt;obtain⟨b',kJ,y,rfl,hb',hy,hc'⟩:=(h'.o.keep hG.o).at_ hlt;have e0:wr.cell? ⟨b,off+k*3,none⟩=some (.string ⟨x.n.toArray⟩):=by simpa using hc 0 _ rfl
    have e1:wr.cell? ⟨b,off+k*3+2,none⟩=some (.string ⟨x.v.toArray⟩):=hc 2 _ rfl;have e2:wr.cell? ⟨b,off+k*3+1,none⟩=some (.int .i64 x.op):=hc 1 _ rfl;have f0:wr.cell? ⟨b',kJ+k*3,none⟩=some (.string ⟨y.n.toArray⟩):=by simpa using hc' 0 _ rfl
    have f1:wr.cell? ⟨b',kJ+k*3+2,none⟩=some (.string ⟨y.v.toArray⟩):=hc' 2 _ rfl;have f2:wr.cell? ⟨b',kJ+k*3+1,none⟩=some (.int .i64 y.op):=hc' 1 _ rfl;have kY:(k:Int)<(m:Int):=ω;obtain⟨xn,xo,xv⟩:=x;obtain⟨yn,yo,yv⟩:=y;simp only at e0 e1 e2 f0 f1 f2;have aN:=ζ (ah.refl wr);by_cases h1:xn=yn
    ·subst h1;by_cases h3:xo=yo
     ·subst h3;by_cases h2:xv=yv
      ·subst h2;have AV:=ζ (ac7 Ae.o hx hy rfl);clear hc hc' hx hy Ae;go_wp2;go_quiet (fail)
       go_wp2;go_roundw
       case rel=>exact⟨k+1,ω,ν,AV,ζ (hG.o.drewN _)⟩
       case measure=>exact ψ
      ·have uh:Hid (R=false):=ζ (by rw[hR.o,decide_eq_false (BK hx hy (by intro e;injection e with e1 e2 e3;exact h2 e3))]);have hb2:(xv==yv)=false:=by simp[h2]
       clear hc hc' hx hy Ae h2;go_wp2;go_quiet (fail)
       go_wp2;go_ret;exact⟨by rw[uh.o];rfl,hG.o.drewN _⟩
     ·have uh:Hid (R=false):=ζ (by rw[hR.o,decide_eq_false (BK hx hy (by intro e;injection e with e1 e2 e3;exact h3 e2))]);have hb3:(xo==yo)=false:=by simp[h3]
      clear hc hc' hx hy Ae;go_wp2;go_quiet (fail)
      go_wp2;go_ret;exact⟨by rw[uh.o];rfl,hG.o.drewN _⟩
    ·have uh:Hid (R=false):=ζ (by rw[hR.o,decide_eq_false (BK hx hy (by intro e;injection e with e1 e2 e3;exact h1 e1))]);have hb1:(xn==yn)=false:=by simp[h1]
     clear hc hc' hx hy Ae h1;go_wp2;go_quiet (fail)
     go_wp2;go_ret;exact⟨by rw[uh.o];rfl,hG.o.drewN _⟩
   ·obtain rfl:k=m:=ω;have Td:Hid (R=true):=ζ (by
     rw[hR.o,decide_eq_true_iff];exact OQ (by rw[hl.o,hl'.o]) (fun i x y hx hy=>Ae.o i x y (by rw[←hl.o];exact (List.getElem?_eq_some_iff.1 hx).1) hx hy))
    go_wp2;go_ret;exact⟨by rw[Td.o];rfl,hG.o⟩
 ·have uh:Hid (R=false):=ζ (by rw[hR.o,decide_eq_false (fun e=>hne (by rw[←hl.o,←hl'.o,e]))]);have Za:((m:Int) != (m':Int))=true:=by simp;omega
  go_enter Tryz.func108,Tryz.ntmps108
  go_wp2;go_ret;exact⟨by rw[uh.o];rfl,ah.refl _⟩
theorem ad1 (x y:nH) (w:World) (hx:x.At w) (hy:y.At w):Calls Tryz.prog 66 #[WG x,WG y] w fun e w'=>e =.returned (.bool (decide (x.t = y.t)))∧ah w w':=by
 have cE:=ζ (fun W (hW:ah w W)=>OU x.A y.A x.m x.k y.m y.k x.t.fs y.t.fs W (hx.arr.keep hW) (hy.arr.keep hW) (by have:=hx.le;omega) (by have:=hy.le;omega));obtain⟨R,hR⟩:∃R,R=decide (x.t = y.t):=⟨_,rfl⟩;rw[←hR];clear hx hy;obtain⟨⟨xi,xf,xs⟩,xA,xm,xk⟩:=x;obtain⟨⟨yi,yf,ys⟩,yA,ym,yk⟩:=y;unfold WG;simp only[Wj.mk.injEq] at *
 replace hR:=ζ hR;have hg0:=ζ (((ah.refl w).alloc (.cells #[.int .u64 (xi:Int),.bool xf,.slice xA xm xk] 65)).alloc (.cells #[.int .u64 (yi:Int),.bool yf,.slice yA ym yk] 65));by_cases h1:xi=yi
 ·subst h1;by_cases h2:xf=yf
  ·subst h2;have jr:Hid (R=decide (xs=ys)):=ζ (by rw[hR.o];simp);generalize decide (xs=ys)=D at *
   have hff:(xf==xf)=true:=by simp
   clear hR;go_enter Tryz.func66,Tryz.ntmps66
   go_wp2_with fail;refine (cE.out _ hg0.o).mono ?_;rintro e w1 ⟨rfl,hb⟩;have hG:=ζ (hg0.o.trans hb);cases D with
   | false=>
    go_wp2;go_ret;exact⟨by rw[jr.o];rfl,hG.o⟩
   | true=>
    go_wp2;go_ret;exact⟨by rw[jr.o];rfl,hG.o⟩
  ·have jr:Hid (R=false):=ζ (by rw[hR.o];simp[h2]);clear hR cE;cases xf <;> cases yf
   all_goals first
    | exact absurd rfl h2
    | (go_enter Tryz.func66,Tryz.ntmps66;go_wp2;go_ret;exact⟨by rw[jr.o];rfl,hg0.o⟩)
 ·have jr:Hid (R=false):=ζ (by rw[hR.o];simp[h1]);have h1z:((xi:Int)==(yi:Int))=false:=by simp;omega
  clear hR cE;go_enter Tryz.func66,Tryz.ntmps66
  go_wp2;go_ret;exact⟨by rw[jr.o];rfl,hg0.o⟩
theorem aeN (x y:fG) (w:World) (hx:x.At w) (hy:y.At w):Calls Tryz.prog 28 #[WI x,WI y] w fun e w'=>e =.returned (.bool (decide (x.yc=y.yc)))∧ah w w':=by
 have cE:=ζ (fun W (hW:ah w W)=>OU x.bA y.bA x.bm x.bk y.bm y.bk x.fH y.fH W (hx.fH.keep hW) (hy.fH.keep hW) (by have:=hx.ble;omega) (by have:=hy.ble;omega));have cT:=ζ (fun W (hW:ah w W)=>show Calls Tryz.prog 65 #[.slice x.tA x.tl x.tk,.slice y.tA y.tl y.tk,.func (.func 66) #[] #[]] W fun e w'=>e =.returned (.bool (decide (x.ts.map (·.t)=y.ts.map (·.t))))∧ah W w' by
  have h:=abO 66 (enters_of Tryz.func66 κ rfl) (fun a b=>decide (a.t = b.t)) x.tA y.tA x.tl x.tk y.tl y.tk x.ts y.ts W (hx.ts.keep hW) (hy.ts.keep hW) (by have:=hx.tle;omega) (by have:=hy.tle;omega) (fun a ha b hb V hV=>ad1 a b V ((hx.at_ a ha).keep (hW.trans hV)) ((hy.at_ b hb).keep (hW.trans hV)));rw[OV (f:=fun a:nH=>a.t) (fun a _ b _=>rfl)] at h;exact h)
 obtain⟨R,hR⟩:∃R,R=decide (x.yc=y.yc):=⟨_,rfl⟩;rw[←hR];clear hx hy;obtain⟨xrc,xgr,xn,xtm,Gs,xbA,xbm,xbk,xts,xtA,xtl,xtk⟩:=x;obtain⟨yrc,ygr,yn,ytm,yby,ybA,ybm,ybk,yts,ytA,ytl,ytk⟩:=y;unfold WI fG.yc at *
 simp only[Nj.mk.injEq] at *
 replace hR:=ζ hR;have hg0:=ζ (((ah.refl w).alloc (.cells #[.string ⟨xrc.toArray⟩,.string ⟨xgr.toArray⟩,.int .i64 xn,.int .i64 xtm,.slice xbA xbm xbk,.slice xtA xtl xtk] 64)).alloc (.cells #[.string ⟨yrc.toArray⟩,.string ⟨ygr.toArray⟩,.int .i64 yn,.int .i64 ytm,.slice ybA ybm ybk,.slice ytA ytl ytk] 64));by_cases h1:xrc=yrc
 ·subst h1;by_cases h2:xgr=ygr
  ·subst h2;by_cases h3:xn=yn
   ·subst h3;by_cases h4:xtm=ytm
    ·subst h4;have jr:Hid (R=(decide (Gs=yby)&&decide (xts.map (·.t)=yts.map (·.t)))):=ζ (by rw[hR.o];simp);generalize decide (Gs=yby)=D at *
     generalize decide (xts.map (·.t)=yts.map (·.t))=E at *
     have bX:=ζ ((aF.new w 64 #[.string ⟨xrc.toArray⟩,.string ⟨xgr.toArray⟩,.int .i64 xn,.int .i64 xtm,.slice xbA xbm xbk,.slice xtA xtl xtk]).alloc (.cells #[.string ⟨xrc.toArray⟩,.string ⟨xgr.toArray⟩,.int .i64 xn,.int .i64 xtm,.slice ybA ybm ybk,.slice ytA ytl ytk] 64));have bY:=ζ (aF.kW w (.cells #[.string ⟨xrc.toArray⟩,.string ⟨xgr.toArray⟩,.int .i64 xn,.int .i64 xtm,.slice xbA xbm xbk,.slice xtA xtl xtk] 64) 64 #[.string ⟨xrc.toArray⟩,.string ⟨xgr.toArray⟩,.int .i64 xn,.int .i64 xtm,.slice ybA ybm ybk,.slice ytA ytl ytk]);clear hR;go_enter Tryz.func28,Tryz.ntmps28
     go_wp2_with fail;refine (cE.out _ hg0.o).mono ?_;rintro e w1 ⟨rfl,hb⟩;have hG:=ζ (hg0.o.trans hb);have x5:=(bX.out.grows hb).c5;have xl:=(bX.out.grows hb).lt;have y5:=(bY.out.grows hb).c5;have yl:=(bY.out.grows hb).lt;clear hb bX bY cE hg0;cases D with
     | false=>
      go_wp2;go_ret;exact⟨by rw[jr.o];rfl,hG.o⟩
     | true=>
      go_wp2_with fail;refine (cT.out _ hG.o).mono ?_;rintro e w2 ⟨rfl,hb2⟩;have fQ:=ζ (hG.o.trans hb2);go_wp2;go_ret;exact⟨by rw[jr.o];rfl,fQ.o⟩
    ·have jr:Hid (R=false):=ζ (by rw[hR.o];simp[h4]);have h4z:(xtm==ytm)=false:=by simp[h4]
     clear hR cE cT;go_enter Tryz.func28,Tryz.ntmps28
     go_wp2;go_ret;exact⟨by rw[jr.o];rfl,hg0.o⟩
   ·have jr:Hid (R=false):=ζ (by rw[hR.o];simp[h3]);have h3z:(xn==yn)=false:=by simp[h3]
    clear hR cE cT;go_enter Tryz.func28,Tryz.ntmps28
    go_wp2;go_ret;exact⟨by rw[jr.o];rfl,hg0.o⟩
  ·have jr:Hid (R=false):=ζ (by rw[hR.o];simp[h2]);have h2z:(xgr==ygr)=false:=by simp[h2]
   clear hR cE cT h2;go_enter Tryz.func28,Tryz.ntmps28
   go_wp2;go_ret;exact⟨by rw[jr.o];rfl,hg0.o⟩
 ·have jr:Hid (R=false):=ζ (by rw[hR.o];simp[h1]);have h1z:(xrc==yrc)=false:=by simp[h1]
  clear hR cE cT h1;go_enter Tryz.func28,Tryz.ntmps28
  go_wp2;go_ret;exact⟨by rw[jr.o];rfl,hg0.o⟩
theorem agq (x y:dA) (w:World) (hx:x.At w) (hy:y.At w):Calls Tryz.prog 109 #[je x,je y] w fun e w'=>e =.returned (.bool (decide (x.a = y.a)))∧ah w w':=by
 have cE:=ζ (fun W (hW:ah w W)=>OU x.A y.A x.m x.k y.m y.k x.a.fs y.a.fs W (hx.arr.keep hW) (hy.arr.keep hW) (by have:=hx.le;omega) (by have:=hy.le;omega));obtain⟨R,hR⟩:∃R,R=decide (x.a = y.a):=⟨_,rfl⟩;rw[←hR];clear hx hy;obtain⟨⟨xs,xfs,⟨xlv,xlc⟩,xf,xt⟩,xA,xm,xk⟩:=x;obtain⟨⟨ys,yfs,⟨ylv,ylc⟩,yf,yt⟩,yA,ym,yk⟩:=y;unfold je;simp only[iD.mk.injEq,fZ.mk.injEq] at *
 replace hR:=ζ hR;have hg0:=ζ (((ah.refl w).alloc (.cells #[.string ⟨xs.toArray⟩,.slice xA xm xk,.int .i64 xlv,.int .u32 (xlc:Int),.int .i64 xf,.int .i64 xt] 57)).alloc (.cells #[.string ⟨ys.toArray⟩,.slice yA ym yk,.int .i64 ylv,.int .u32 (ylc:Int),.int .i64 yf,.int .i64 yt] 57));by_cases h1:xs=ys
 ·subst h1;have jr:Hid (R=(decide (xfs=yfs)&&decide ((xlv=ylv∧xlc=ylc)∧xf=yf∧xt=yt))):=ζ (by rw[hR.o,←Bool.decide_and];simp);generalize decide (xfs=yfs)=D at *
  have bX:=ζ ((aF.new w 57 #[.string ⟨xs.toArray⟩,.slice xA xm xk,.int .i64 xlv,.int .u32 (xlc:Int),.int .i64 xf,.int .i64 xt]).alloc (.cells #[.string ⟨xs.toArray⟩,.slice yA ym yk,.int .i64 ylv,.int .u32 (ylc:Int),.int .i64 yf,.int .i64 yt] 57));have bY:=ζ (aF.kW w (.cells #[.string ⟨xs.toArray⟩,.slice xA xm xk,.int .i64 xlv,.int .u32 (xlc:Int),.int .i64 xf,.int .i64 xt] 57) 57 #[.string ⟨xs.toArray⟩,.slice yA ym yk,.int .i64 ylv,.int .u32 (ylc:Int),.int .i64 yf,.int .i64 yt]);clear hR;go_enter Tryz.func109,Tryz.ntmps109
  go_wp2_with fail;refine (cE.out _ hg0.o).mono ?_;rintro e w1 ⟨rfl,hb⟩;have hG:=ζ (hg0.o.trans hb);have x2:=(bX.out.grows hb).c2;have x3:=(bX.out.grows hb).c3;have x4:=(bX.out.grows hb).c4;have x5:=(bX.out.grows hb).c5;have xl:=(bX.out.grows hb).lt;have y2:=(bY.out.grows hb).c2;have y3:=(bY.out.grows hb).c3;have y4:=(bY.out.grows hb).c4;have y5:=(bY.out.grows hb).c5;have yl:=(bY.out.grows hb).lt;clear hb bX bY cE hg0;cases D with
  | false=>
   have Dl:Hid (R=false):=ζ (by rw[jr.o];rfl);go_wp2;go_ret;exact⟨by rw[Dl.o];rfl,hG.o⟩
  | true=>
   by_cases h2:xlv=ylv
   ·by_cases h3:xlc=ylc
    ·by_cases h4:xf=yf
     ·by_cases h5:xt=yt
      ·have Dl:Hid (R=true):=ζ (by rw[jr.o];simp[h2,h3,h4,h5]);subst h2 h3 h4 h5;go_wp2;go_ret;exact⟨by rw[Dl.o];rfl,hG.o⟩
      ·have Dl:Hid (R=false):=ζ (by rw[jr.o];simp[h5]);have h5z:(xt==yt)=false:=by simp[h5]
       subst h2 h3 h4;go_wp2;go_ret;exact⟨by rw[Dl.o];rfl,hG.o⟩
     ·have Dl:Hid (R=false):=ζ (by rw[jr.o];simp[h4]);have h4z:(xf==yf)=false:=by simp[h4]
      subst h2 h3;go_wp2;go_ret;exact⟨by rw[Dl.o];rfl,hG.o⟩
    ·have Dl:Hid (R=false):=ζ (by rw[jr.o];simp[h3]);have h3z:((xlc:Int)==(ylc:Int))=false:=by simp;omega
     have h3n:¬(xlc:Int)=(ylc:Int):=ω;subst h2;go_wp2;go_ret;exact⟨by rw[Dl.o];rfl,hG.o⟩
   ·have Dl:Hid (R=false):=ζ (by rw[jr.o];simp[h2]);have h2z:(xlv==ylv)=false:=by simp[h2]
    go_wp2;go_ret;exact⟨by rw[Dl.o];rfl,hG.o⟩
 ·have jr:Hid (R=false):=ζ (by rw[hR.o];simp[h1]);have h1z:(xs==ys)=false:=by simp[h1]
  clear hR cE h1;go_enter Tryz.func109,Tryz.ntmps109
  go_wp2;go_ret;exact⟨by rw[jr.o];rfl,hg0.o⟩
theorem adC {A B:Option Addr} {m c m' c':Nat} {xs ys:List fG} (w:World) (hx:bW w 6 jY A m xs) (hy:bW w 6 jY B m' ys) (hm:m≤1000000) (hm':m'≤1000000) (hax:∀x∈xs,x.At w) (hay:∀y∈ys,y.At w) :
 Calls Tryz.prog 34 #[.slice A m c,.slice B m' c'] w fun e w'=>e =.returned (.bool (decide (xs.map (·.yc)=ys.map (·.yc))))∧ah w w':=by
 have cT:=ζ (show Calls Tryz.prog 70 #[.slice A m c,.slice B m' c',.func (.func 28) #[] #[]] w fun e w'=>e =.returned (.bool (decide (xs.map (·.yc)=ys.map (·.yc))))∧ah w w' by
  have h:=afR 28 (enters_of Tryz.func28 κ rfl) (fun a b=>decide (a.yc=b.yc)) A B m c m' c' xs ys w hx hy hm hm' (fun a ha b hb V hV=>aeN a b V ((hax a ha).keep hV) ((hay b hb).keep hV));rw[OV (f:=fun a:fG=>a.yc) (fun a _ b _=>rfl)] at h;exact h)
 clear hx hy hax hay;generalize decide (xs.map (·.yc)=ys.map (·.yc))=R at *
 go_enter Tryz.func34,Tryz.ntmps34
 go_wp2_with fail;refine cT.out.mono ?_;rintro e w1 ⟨rfl,hb⟩;go_wp2;go_ret;exact⟨rfl,hb⟩
end Go.Proofs.YtbhikkgpcmkonaaGreatDoor
