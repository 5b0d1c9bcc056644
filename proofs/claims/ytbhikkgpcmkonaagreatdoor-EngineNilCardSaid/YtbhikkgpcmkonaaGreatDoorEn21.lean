/- Parts: EngC MorP EngD EqB ViwA EngE EngF EngT EngH EngI -/
import Derived.Test.YtbhikkgpcmkonaaGreatDoorEn0
import Derived.Test.YtbhikkgpcmkonaaGreatDoorEn20
import Derived.Test.YtbhikkgpcmkonaaGreatDoorEn11
import Derived.Test.YtbhikkgpcmkonaaGreatDoorEn18
import Derived.Test.YtbhikkgpcmkonaaGreatDoorEn5
import Derived.Test.YtbhikkgpcmkonaaGreatDoorEn7
import Derived.Test.YtbhikkgpcmkonaaGreatDoorEn19
import Derived.Test.YtbhikkgpcmkonaaGreatDoorEn16
import Derived.Test.YtbhikkgpcmkonaaGreatDoorEn3
import Derived.Sort.MapsRangeIn
set_option maxRecDepth 100000
set_option maxHeartbeats 12800000
namespace Go.Proofs.YtbhikkgpcmkonaaGreatDoor
open Go.RowKit Go.Maps Go.WideMaps
structure RtX where
 bA:Option Addr
 bm:Nat
 bk:Nat
 wA:Option Addr
 wm:Nat
 wk:Nat
def IC (g:vV) (r:RtX) (cb:Nat):Array Value:= #[.int .i64 (g.place:Int),.string ⟨g.rc.toArray⟩,.slice r.bA r.bm r.bk,.int .i64 g.wait,.int .i64 g.every,.int .i64 g.again,.slice r.wA r.wm r.wk,.pointer (some ⟨cb,0,none⟩),.int .i64 (g.number:Int)]
def rE:Array Value:= #[.string ⟨#[]⟩,.slice none 0 0,.int .i64 0,.int .i64 0,.int .i64 0,.slice none 0 0]
theorem tJ {w:World} {g:Nat} (h:aF w g 46 rE) :
 w.cell? ⟨g,0,none⟩=some (.string ⟨#[]⟩)∧w.cell? ⟨g,1,none⟩=some (.slice none 0 0)∧w.cell? ⟨g,2,none⟩=some (.int .i64 0)∧w.cell? ⟨g,3,none⟩=some (.int .i64 0)∧w.cell? ⟨g,4,none⟩=some (.int .i64 0)∧w.cell? ⟨g,5,none⟩=some (.slice none 0 0)∧(∀i,w.frozen? ⟨g,i,none⟩=false)∧g < w.heap.size:=
 ⟨h.cell 0,h.cell 1,h.cell 2,h.cell 3,h.cell 4,h.cell 5,fun i=>h.frozen i,h.lt⟩
theorem Ja {w wM:World} {g:Nat} (hZ:aF wM g 46 rE) (hG:ah w wM) (sS:w.heap.size≤g) (u0 u1 u2 u3 u4 u5:Value) :
 aF ((((((wM.setCell ⟨g,0,none⟩ u0).setCell ⟨g,1,none⟩ u1).setCell ⟨g,2,none⟩ u2).setCell ⟨g,3,none⟩ u3).setCell ⟨g,4,none⟩ u4).setCell ⟨g,5,none⟩ u5) g 46 #[u0,u1,u2,u3,u4,u5]∧
 ah w ((((((wM.setCell ⟨g,0,none⟩ u0).setCell ⟨g,1,none⟩ u1).setCell ⟨g,2,none⟩ u2).setCell ⟨g,3,none⟩ u3).setCell ⟨g,4,none⟩ u4).setCell ⟨g,5,none⟩ u5)∧
 ∀g' t cs,aF wM g' t cs→g'≠g→aF ((((((wM.setCell ⟨g,0,none⟩ u0).setCell ⟨g,1,none⟩ u1).setCell ⟨g,2,none⟩ u2).setCell ⟨g,3,none⟩ u3).setCell ⟨g,4,none⟩ u4).setCell ⟨g,5,none⟩ u5) g' t cs:=by
 have h0:=hZ.aW 0 u0;have h1:=h0.aW 1 u1;have h2:=h1.aW 2 u2;have h3:=h2.aW 3 u3;have h4:=h3.aW 4 u4;have h5:=h4.aW 5 u5;refine⟨h5.cast (by simp[rE]),?_,fun g' t cs hB hne=>(((((hB.far (p:=⟨g,0,none⟩) hne _).far (p:=⟨g,1,none⟩) hne _).far (p:=⟨g,2,none⟩) hne _).far (p:=⟨g,3,none⟩) hne _).far (p:=⟨g,4,none⟩) hne _).far (p:=⟨g,5,none⟩) hne _⟩;exact ah.setCell (ah.setCell (ah.setCell (ah.setCell (ah.setCell (ah.setCell hG (p:=⟨g,0,none⟩) sS _) (p:=⟨g,1,none⟩) sS _) (p:=⟨g,2,none⟩) sS _) (p:=⟨g,3,none⟩) sS _) (p:=⟨g,4,none⟩) sS _) (p:=⟨g,5,none⟩) sS _
def aqW (wr:World) (ca cb:Array Value) (f:Nat→Value) (wz:World):Prop:=∃ga gb,f 5=.pointer (some ⟨ga,0,none⟩)∧f 6=.pointer (some ⟨gb,0,none⟩)∧aF wz ga 46 ca∧aF wz gb 46 cb∧ah wr wz
theorem adg {p:aY} {g:vV} {r:RtX} {gb cb:Nat} (w:World) (hp:p.At w) (hB:aF w gb 130 (IC g r cb)) :
 Calls Tryz.prog 42 #[.pointer (some ⟨gb,0,none⟩),p.val] w fun e w'=>e =.returned (.bool (qK p.aU g))∧ah w w':=by
 have hO:=ζ hp.o;have hR:qK p.aU g = match (p.o.map (·.r))[g.place]? with
  | none=>false
  | some r=>decide (r.r = g.rc)&&(decide (r.wait=g.wait)&&(decide (r.every=g.every)&&decide (r.again=g.again))):=rfl
 have hol:=hp.o.1;generalize qK p.aU g = Yi at *
 clear hp;unfold aY.val IC at *
 obtain⟨pl,rc,wa,ev,ag,ck,nu⟩:=g;obtain⟨bA,bm,bk,wA,wm,wk⟩:=r;obtain⟨⟨sl,sA,sm,sk⟩,⟨rl,rA,rm,rk⟩,⟨el,eA,em,ek⟩,⟨al,aA,am,ak⟩,o,oA,om,ok,i,iA,im,ik⟩:=p;simp only at *
 replace hR:=ζ hR;have b0:=hB.c0;have b1:=hB.c1;have b2:=hB.c2;have b3:=hB.c3;have b4:=hB.c4;have b5:=hB.c5;have b6:=hB.c6;have bl:=hB.lt;have hg0:=ζ ((ah.refl w).alloc (.cells #[.slice sA sm sk,.slice rA rm rk,.slice eA em ek,.slice aA am ak,.slice oA om ok,.slice iA im ik] 50));clear hB;by_cases hpl:pl<om
 ·obtain⟨ob,oo,x,rfl,GK,hx,hcell⟩:=hO.o.at_ hpl;have c0:w.cell? ⟨ob,oo+pl*6,none⟩=some (.string ⟨x.r.r.toArray⟩):=hcell 0 _ rfl;have c1:w.cell? ⟨ob,oo+pl*6+1,none⟩=some (.slice x.bA x.bm x.bk):=hcell 1 _ rfl;have c2:w.cell? ⟨ob,oo+pl*6+2,none⟩=some (.int .i64 x.r.wait):=hcell 2 _ rfl;have c3:w.cell? ⟨ob,oo+pl*6+3,none⟩=some (.int .i64 x.r.every):=hcell 3 _ rfl;have c4:w.cell? ⟨ob,oo+pl*6+4,none⟩=some (.int .i64 x.r.again):=hcell 4 _ rfl;have c5:w.cell? ⟨ob,oo+pl*6+5,none⟩=some (.slice x.wA x.wm x.wk):=hcell 5 _ rfl;have qV:Hid (Yi=(decide (x.r.r = rc)&&(decide (x.r.wait=wa)&&(decide (x.r.every=ev)&&decide (x.r.again=ag))))):=ζ (by rw[hR.o,List.getElem?_map,hx];rfl);have hpz:(pl:Int)<(om:Int):=ω;have hpn:¬(om:Int)≤(pl:Int):=ω;clear hcell hx hR hol hO;go_enter Tryz.func42,Tryz.ntmps42
  go_wp2_with fail;refine bV (μ (.range 8) []) κ κ rfl κ π ?_;iterate 8 refine fE ?_
  refine fJ ?_;have bP3:aF (w.alloc (.cells #[.slice sA sm sk,.slice rA rm rk,.slice eA em ek,.slice aA am ak,.slice (some ⟨ob,oo,none⟩) om ok,.slice iA im ik] 50)).drew w.heap.size 50 #[.slice sA sm sk,.slice rA rm rk,.slice eA em ek,.slice aA am ak,.slice (some ⟨ob,oo,none⟩) om ok,.slice iA im ik]:=aF.new w _ _;have hg3:=hg0.o.drew;replace b0:=hg3.cell b0;replace b1:=hg3.cell b1;replace b2:=hg3.cell b2;replace b3:=hg3.cell b3;replace b4:=hg3.cell b4;replace b5:=hg3.cell b5;replace b6:=hg3.cell b6;replace c0:=hg3.cell c0;replace c1:=hg3.cell c1;replace c2:=hg3.cell c2;replace c3:=hg3.cell c3;replace c4:=hg3.cell c4;replace c5:=hg3.cell c5;replace bl:=Nat.lt_of_lt_of_le bl hg3.size;replace GK:=Nat.lt_of_lt_of_le GK hg3.size;have p4:=bP3.cell 4;simp only[List.getElem?_toArray,List.getElem?_cons_zero,List.getElem?_cons_succ] at p4;have pl':=bP3.lt;go_wp2_with fail;replace hg3:=ζ hg3;clear bP3 hg0;generalize (w.alloc (.cells #[.slice sA sm sk,.slice rA rm rk,.slice eA em ek,.slice aA am ak,.slice (some ⟨ob,oo,none⟩) om ok,.slice iA im ik] 50)).drew=w3 at *
  have aS:=ζ (ah.refl w3);apply IV (is:=[5,6]) (R:=aqW w3 #[.string ⟨x.r.r.toArray⟩,.slice x.bA x.bm x.bk,.int .i64 x.r.wait,.int .i64 x.r.every,.int .i64 x.r.again,.slice x.wA x.wm x.wk] #[.string ⟨rc.toArray⟩,.slice bA bm bk,.int .i64 wa,.int .i64 ev,.int .i64 ag,.slice wA wm wk])
  case h1=>
   refine aH κ ?_;refine rK (.range 12) 4 ?_;iterate 12 refine aC ?_
   refine aB ?_;refine aK [12,13] κ σ (fun wN hN hS=>(ay.cons rfl (fun K' hK=> ?_) (ay.cons rfl (fun K' hK=> ?_) ay.nil)))
   ·skip
    try replace oW:=ζ (oW.o.grows hN)
    try replace mg:=ζ (mg.o.grows hN)
    replace aS:=ζ (aS.o.trans hN);clear hN;go_simp;have hgA:=ζ aS.o.size;try have hab:=ζ (mg.o.lt)
    have oW:=ζ (aF.new wN 46 rE);replace aS:=ζ (aS.o.alloc (.cells rE 46));try replace mg:=ζ (mg.o.alloc (.cells rE 46))
    refine hK.o _ _ ?_ (fun hS=> ?_)
    ·exact aS.o
    generalize wN.heap.size=gA at *
    clear hK hS;refine aK [13] κ σ (fun wN hN hS=>(ay.cons rfl (fun K' hK=> ?_) ay.nil));try replace oW:=ζ (oW.o.grows hN)
    try replace mg:=ζ (mg.o.grows hN)
    replace aS:=ζ (aS.o.trans hN);clear hN;go_simp;have hgB:=ζ aS.o.size;try have hab:=ζ (oW.o.lt)
    have mg:=ζ (aF.new wN 46 rE);replace aS:=ζ (aS.o.alloc (.cells rE 46));try replace oW:=ζ (oW.o.alloc (.cells rE 46))
    refine hK.o _ _ ?_ (fun hS=> ?_)
    ·exact aS.o
    generalize wN.heap.size=gB at *
    clear hK hS;refine aK [14] κ σ (fun wN hN hS=>(ay.cons rfl (fun K' hK=> ?_) ay.nil));try replace oW:=ζ (oW.o.grows hN)
    try replace mg:=ζ (mg.o.grows hN)
    replace aS:=ζ (aS.o.trans hN);clear hN;obtain⟨z0,z1,z2,z3,z4,z5,zf,zl⟩:=tJ oW.o;obtain⟨n0,n1,n2⟩:=Ja oW.o aS.o hgA.o (.string ⟨x.r.r.toArray⟩) (.slice x.bA x.bm x.bk) (.int .i64 x.r.wait) (.int .i64 x.r.every) (.int .i64 x.r.again) (.slice x.wA x.wm x.wk);try replace mg:=ζ (n2 _ _ _ mg.o (by have:=hab.o;omega))
    replace n0:=ζ n0;replace n1:=ζ n1;clear n2;go_simp;refine hK.o _ _ ?_ (fun hS=> ?_)
    ·exact n1.out
    clear z0 z1 z2 z3 z4 z5 zf zl oW aS;generalize ((((((wN.setCell ⟨gA,0,none⟩ (.string ⟨x.r.r.toArray⟩)).setCell ⟨gA,1,none⟩ (.slice x.bA x.bm x.bk)).setCell ⟨gA,2,none⟩ (.int .i64 x.r.wait)).setCell ⟨gA,3,none⟩ (.int .i64 x.r.every)).setCell ⟨gA,4,none⟩ (.int .i64 x.r.again)).setCell ⟨gA,5,none⟩ (.slice x.wA x.wm x.wk))=w9 at *
    have oW:=n0;have aS:=n1;clear n0 n1;clear hK hS;refine aK [15] κ σ (fun wN hN hS=>(ay.cons rfl (fun K' hK=> ?_) ay.nil));try replace oW:=ζ (oW.o.grows hN)
    try replace mg:=ζ (mg.o.grows hN)
    replace aS:=ζ (aS.o.trans hN);clear hN;obtain⟨z0,z1,z2,z3,z4,z5,zf,zl⟩:=tJ mg.o;obtain⟨n0,n1,n2⟩:=Ja mg.o aS.o hgB.o (.string ⟨rc.toArray⟩) (.slice bA bm bk) (.int .i64 wa) (.int .i64 ev) (.int .i64 ag) (.slice wA wm wk);try replace oW:=ζ (n2 _ _ _ oW.o (by have:=hab.o;omega))
    replace n0:=ζ n0;replace n1:=ζ n1;clear n2;go_simp;refine hK.o _ _ ?_ (fun hS=> ?_)
    ·exact n1.out
    clear z0 z1 z2 z3 z4 z5 zf zl mg aS;generalize ((((((wN.setCell ⟨gB,0,none⟩ (.string ⟨rc.toArray⟩)).setCell ⟨gB,1,none⟩ (.slice bA bm bk)).setCell ⟨gB,2,none⟩ (.int .i64 wa)).setCell ⟨gB,3,none⟩ (.int .i64 ev)).setCell ⟨gB,4,none⟩ (.int .i64 ag)).setCell ⟨gB,5,none⟩ (.slice wA wm wk))=w9 at *
    have mg:=n0;have aS:=n1;clear n0 n1;clear hK hS;refine aJ κ (fun wN hN hS=> ?_);try replace oW:=ζ (oW.o.grows hN)
    try replace mg:=ζ (mg.o.grows hN)
    replace aS:=ζ (aS.o.trans hN);refine⟨(by
     simp only[fZ,List.foldl_cons,List.foldl_nil];go_simp;try rfl
    ),_,_,rfl,rfl,oW.o,mg.o,aS.o⟩
   ·skip
    try replace oW:=ζ (oW.o.grows hN)
    try replace mg:=ζ (mg.o.grows hN)
    replace aS:=ζ (aS.o.trans hN);clear hN;go_simp;have hgB:=ζ aS.o.size;try have hab:=ζ (oW.o.lt)
    have mg:=ζ (aF.new wN 46 rE);replace aS:=ζ (aS.o.alloc (.cells rE 46));try replace oW:=ζ (oW.o.alloc (.cells rE 46))
    refine hK.o _ _ ?_ (fun hS=> ?_)
    ·exact aS.o
    generalize wN.heap.size=gB at *
    clear hK hS;refine aK [12] κ σ (fun wN hN hS=>(ay.cons rfl (fun K' hK=> ?_) ay.nil));try replace oW:=ζ (oW.o.grows hN)
    try replace mg:=ζ (mg.o.grows hN)
    replace aS:=ζ (aS.o.trans hN);clear hN;go_simp;have hgA:=ζ aS.o.size;try have hab:=ζ (mg.o.lt)
    have oW:=ζ (aF.new wN 46 rE);replace aS:=ζ (aS.o.alloc (.cells rE 46));try replace mg:=ζ (mg.o.alloc (.cells rE 46))
    refine hK.o _ _ ?_ (fun hS=> ?_)
    ·exact aS.o
    generalize wN.heap.size=gA at *
    clear hK hS;refine aK [14] κ σ (fun wN hN hS=>(ay.cons rfl (fun K' hK=> ?_) ay.nil));try replace oW:=ζ (oW.o.grows hN)
    try replace mg:=ζ (mg.o.grows hN)
    replace aS:=ζ (aS.o.trans hN);clear hN;obtain⟨z0,z1,z2,z3,z4,z5,zf,zl⟩:=tJ oW.o;obtain⟨n0,n1,n2⟩:=Ja oW.o aS.o hgA.o (.string ⟨x.r.r.toArray⟩) (.slice x.bA x.bm x.bk) (.int .i64 x.r.wait) (.int .i64 x.r.every) (.int .i64 x.r.again) (.slice x.wA x.wm x.wk);try replace mg:=ζ (n2 _ _ _ mg.o (by have:=hab.o;omega))
    replace n0:=ζ n0;replace n1:=ζ n1;clear n2;go_simp;refine hK.o _ _ ?_ (fun hS=> ?_)
    ·exact n1.out
    clear z0 z1 z2 z3 z4 z5 zf zl oW aS;generalize ((((((wN.setCell ⟨gA,0,none⟩ (.string ⟨x.r.r.toArray⟩)).setCell ⟨gA,1,none⟩ (.slice x.bA x.bm x.bk)).setCell ⟨gA,2,none⟩ (.int .i64 x.r.wait)).setCell ⟨gA,3,none⟩ (.int .i64 x.r.every)).setCell ⟨gA,4,none⟩ (.int .i64 x.r.again)).setCell ⟨gA,5,none⟩ (.slice x.wA x.wm x.wk))=w9 at *
    have oW:=n0;have aS:=n1;clear n0 n1;clear hK hS;refine aK [15] κ σ (fun wN hN hS=>(ay.cons rfl (fun K' hK=> ?_) ay.nil));try replace oW:=ζ (oW.o.grows hN)
    try replace mg:=ζ (mg.o.grows hN)
    replace aS:=ζ (aS.o.trans hN);clear hN;obtain⟨z0,z1,z2,z3,z4,z5,zf,zl⟩:=tJ mg.o;obtain⟨n0,n1,n2⟩:=Ja mg.o aS.o hgB.o (.string ⟨rc.toArray⟩) (.slice bA bm bk) (.int .i64 wa) (.int .i64 ev) (.int .i64 ag) (.slice wA wm wk);try replace oW:=ζ (n2 _ _ _ oW.o (by have:=hab.o;omega))
    replace n0:=ζ n0;replace n1:=ζ n1;clear n2;go_simp;refine hK.o _ _ ?_ (fun hS=> ?_)
    ·exact n1.out
    clear z0 z1 z2 z3 z4 z5 zf zl mg aS;generalize ((((((wN.setCell ⟨gB,0,none⟩ (.string ⟨rc.toArray⟩)).setCell ⟨gB,1,none⟩ (.slice bA bm bk)).setCell ⟨gB,2,none⟩ (.int .i64 wa)).setCell ⟨gB,3,none⟩ (.int .i64 ev)).setCell ⟨gB,4,none⟩ (.int .i64 ag)).setCell ⟨gB,5,none⟩ (.slice wA wm wk))=w9 at *
    have mg:=n0;have aS:=n1;clear n0 n1;clear hK hS;refine aJ κ (fun wN hN hS=> ?_);try replace oW:=ζ (oW.o.grows hN)
    try replace mg:=ζ (mg.o.grows hN)
    replace aS:=ζ (aS.o.trans hN);refine⟨(by
     simp only[fZ,List.foldl_cons,List.foldl_nil];go_simp;try rfl
    ),_,_,rfl,rfl,oW.o,mg.o,aS.o⟩
  intro fz w9 hR9;obtain⟨ga,gb',e5,e6,oW,mg,apk⟩:=hR9;simp only[kJ,List.foldl_cons,List.foldl_nil,e5,e6];have Ua:=ζ (hg3.o.trans apk);have x0:=oW.c0;have x2:=oW.c2;have x3:=oW.c3;have x4:=oW.c4;have xl:=oW.lt;have y0:=mg.c0;have y2:=mg.c2;have y3:=mg.c3;have y4:=mg.c4;have yl:=mg.lt;clear oW mg apk aS b0 b1 b2 b3 b4 b5 b6 c0 c1 c2 c3 c4 c5 bl GK p4 pl' e5 e6 hg3;by_cases h1:x.r.r = rc
  ·have hb1:(x.r.r ==rc)=true:=by simp[h1]
   by_cases h2:x.r.wait=wa
   ·by_cases h3:x.r.every=ev
    ·by_cases h4:x.r.again=ag
     ·have hR3:Hid (Yi=true):=ζ (by rw[qV.o];simp[h1,h2,h3,h4]);clear h1;go_wp2;go_ret;exact⟨by rw[hR3.o];rfl,Ua.o⟩
     ·have hR3:Hid (Yi=false):=ζ (by rw[qV.o];simp[h4]);have hb4:(x.r.again==ag)=false:=by simp[h4]
      clear h1;go_wp2;go_ret;exact⟨aN (by rw[hR3.o]),Ua.o⟩
    ·have hR3:Hid (Yi=false):=ζ (by rw[qV.o];simp[h3]);clear h1;go_wp2;go_ret;exact⟨by rw[hR3.o];rfl,Ua.o⟩
   ·have hR3:Hid (Yi=false):=ζ (by rw[qV.o];simp[h2]);clear h1;go_wp2;go_ret;exact⟨by rw[hR3.o];rfl,Ua.o⟩
  ·have hR3:Hid (Yi=false):=ζ (by rw[qV.o];simp[h1]);have hb1:(x.r.r ==rc)=false:=by simp[h1]
   clear h1;go_wp2;go_ret;exact⟨by rw[hR3.o];rfl,Ua.o⟩
 ·have qV:Hid (Yi=false):=ζ (by rw[hR.o,List.getElem?_eq_none (by rw[List.length_map,hol];omega)]);have hpn:(om:Int)≤(pl:Int):=ω;clear hR hol hO;go_enter Tryz.func42,Tryz.ntmps42
  go_wp2_with fail;refine bV (μ (.range 8) []) κ κ rfl κ π ?_;iterate 8 refine fE ?_
  refine fJ ?_;go_wp2;go_ret;exact⟨by rw[qV.o];rfl,hg0.o.drew⟩
end Go.Proofs.YtbhikkgpcmkonaaGreatDoor
namespace Go.Proofs.YtbhikkgpcmkonaaGreatDoor
open Go.RowKit
def U5 (g h:kS):Prop:=g.route=h.route∧g.eY=h.eY∧g.ids.length≤h.ids.length∧h.ids.length≤g.ids.length+1
theorem U5.refl (g:kS):U5 g g:=⟨rfl,rfl,Nat.le_refl _,Nat.le_succ _⟩
def D7 (r:Nat) (gs hs:List kS):Prop:=
 (gs.length=hs.length∧∀(i:Nat) g h,gs[i]? = some g→hs[i]? = some h→U5 g h)∨(∃g:kS,hs=gs++[g]∧g.ids.length=1∧g.route=r)
theorem D7.refl (r:Nat) (gs:List kS):D7 r gs gs:=.inl ⟨rfl,fun i g h h1 h2=>by rw[h1] at h2;injection h2 with h2;subst h2;exact U5.refl g⟩
def jm (r0:Nat) (aQ:List (List kS)):Prop:=∀(i:Nat) gs g,aQ[i]? = some gs→g∈gs→g.route=r0+i
theorem KP (l:List Nat) (t:Nat):l.length≤(jl l t).length∧(jl l t).length≤l.length+1:=by
 refine⟨?_,Pj l t⟩;unfold jl;split
 ·exact Nat.le_refl _
 ·rw[qZ (Dp l t)];omega
theorem zD {aQ:List (List kS)} {r k id:Nat}:(lF aQ r k id).length=aQ.length∧(∀s,s≠r→(lF aQ r k id)[s]? = aQ[s]?):=by
 unfold lF;cases hr:aQ[r]? with
 | none=>exact⟨rfl,fun _ _=>rfl⟩
 | some gs=>
  simp only;cases hk:gs[k]? with
  | none=>exact⟨rfl,fun _ _=>rfl⟩
  | some g=>exact⟨by simp,fun s hs=>by simp only;rw[List.getElem?_set_ne (Ne.symm hs)]⟩
theorem Y7 {aQ:List (List kS)} {r k id:Nat} {gs:List kS} {g:kS} (hr:aQ[r]? = some gs) (hk:gs[k]? = some g):(lF aQ r k id)[r]? = some (gs.set k {g with ids:=jl g.ids id}):=by
 rw[sJ hr hk,List.getElem?_set_self (List.getElem?_eq_some_iff.1 hr).1]
theorem N8 {rec:List UInt8} {id:Nat} {fs:List bK} {names:Nat→List (List UInt8)} {st:Gg} {r:Nat} {gs:List kS} (hr:st.aQ[r]? = some gs) :
 (stepG rec id fs names st r).aQ.length=st.aQ.length∧(∀s,s≠r→(stepG rec id fs names st r).aQ[s]? = st.aQ[s]?)∧∃hs,(stepG rec id fs names st r).aQ[r]? = some hs∧D7 r gs hs:=by
 unfold stepG;cases hl:t_ st.place (cZ r (g_ fs (names r))) with
 | some k=>
  simp only;refine⟨zD.1,zD.2,?_⟩;cases hk:gs[k]? with
  | none=>
   refine⟨gs,?_,D7.refl r gs⟩;unfold lF;rw[hr];simp only;rw[hk];exact hr
  | some g=>
   refine⟨_,Y7 hr hk,.inl ⟨by simp,fun i a b h1 h2=> ?_⟩⟩;by_cases lK:k=i
   ·subst lK;rw[List.getElem?_set_self (List.getElem?_eq_some_iff.1 hk).1] at h2;rw[hk] at h1;injection h1 with h1;injection h2 with h2
    subst h1 h2;exact⟨rfl,rfl,(KP g.ids id).1,(KP g.ids id).2⟩
   ·rw[List.getElem?_set_ne lK] at h2;rw[h1] at h2;injection h2 with h2;subst h2
    exact U5.refl _
 | none=>
  rw[hr];simp only;have oC:r < st.aQ.length:=(List.getElem?_eq_some_iff.1 hr).1;refine⟨by rw[zD.1];simp,fun s hs=>by rw[zD.2 s hs,List.getElem?_set_ne (Ne.symm hs)],?_⟩;refine⟨_,Y7 (List.getElem?_set_self oC) List.getElem?_concat_length,.inr ⟨⟨r,g_ fs (names r),Fq rec r (g_ fs (names r)),[id]⟩,?_,rfl,rfl⟩⟩;simp[Ph]
theorem N9 {rec:List UInt8} {id:Nat} {fs:List bK} {names:Nat→List (List UInt8)} {st:Gg} {r:Nat} (hr:st.aQ[r]? = none):(stepG rec id fs names st r).aQ=st.aQ:=by
 unfold stepG;cases hl:t_ st.place (cZ r (g_ fs (names r))) with
 | some k=>simp only;unfold lF;rw[hr]
 | none=>rw[hr]
theorem D7.route {r:Nat} {gs hs:List kS} (h:D7 r gs hs) (hg:∀g∈gs,g.route=r):∀g∈hs,g.route=r:=by
 intro x hx;rcases h with⟨h1,h2⟩ | ⟨g,rfl,_,h2⟩
 ·obtain⟨i,hi,rfl⟩:=List.getElem_of_mem hx;have h3:i < gs.length:=ω;have:=h2 i _ _ (List.getElem?_eq_getElem h3) (List.getElem?_eq_getElem hi);rw[←this.1];exact hg _ (List.getElem_mem h3)
 ·rcases List.mem_append.1 hx with h | h
  ·exact hg x h
  ·rw[List.mem_singleton.1 h];exact h2
theorem jm.step {rec:List UInt8} {id:Nat} {fs:List bK} {names:Nat→List (List UInt8)} {st:Gg} (h:jm 0 st.aQ) (r:Nat):jm 0 (stepG rec id fs names st r).aQ:=by
 cases hr:st.aQ[r]? with
 | none=>rw[N9 hr];exact h
 | some gs=>
  obtain⟨_,h1,hs,h2,h3⟩:=N8 (rec:=rec) (id:=id) (fs:=fs) (names:=names) hr;intro i ys g h4 h5;by_cases hi:i = r
  ·subst hi;rw[h2] at h4;injection h4 with h4;subst h4
   have:=h3.route (fun g hg=>by have:=h i gs g hr hg;omega) g h5;omega
  ·rw[h1 i hi] at h4;exact h i ys g h4 h5
theorem jm.fold {rec:List UInt8} {id:Nat} {fs:List bK} {names:Nat→List (List UInt8)}:∀(F:List Nat) {st:Gg},jm 0 st.aQ→jm 0 (F.foldl (stepG rec id fs names) st).aQ
 | [],_,h=>h
 | r ::F,_,h=>jm.fold F (h.step r)
theorem jm.aqQ {ft:List bK→d_→Bool} {p:jo} {rec:List UInt8} {now:Int} {st:Gg} (h:jm 0 st.aQ) (a:jq):jm 0 (jk ft p rec now st a).aQ:=by
 unfold jk;cases jP p rec a now with
 | none=>exact h
 | some c=>exact jm.fold _ h
theorem jm.start (n:Nat):jm 0 (List.replicate n []):=fun i gs g h1 h2=>by
 have:=List.mem_of_getElem? h1;simp at this;rw[this.2] at h2;cases h2
theorem jm.all {ft:List bK→d_→Bool} {p:jo} {rec:List UInt8} {now:Int}:∀(l:List jq) {st:Gg},jm 0 st.aQ→jm 0 (l.foldl (jk ft p rec now) st).aQ
 | [],_,h=>h
 | a ::l,_,h=>jm.all l (h.aqQ a)
theorem OW {rec:List UInt8} {id:Nat} {fs:List bK} {names:Nat→List (List UInt8)}:∀(F:List Nat) (st:Gg),F.Nodup→(F.foldl (stepG rec id fs names) st).aQ.length=st.aQ.length∧∀(i:Nat) gs,st.aQ[i]? = some gs→∃hs,(F.foldl (stepG rec id fs names) st).aQ[i]? = some hs∧D7 i gs hs∧(¬i∈F→hs=gs)
 | [],st,_=>⟨rfl,fun i gs h=>⟨gs,h,D7.refl i gs,fun _=>rfl⟩⟩
 | r ::F,st,hF=>by
  obtain⟨hrF,hF'⟩:=List.nodup_cons.1 hF;obtain⟨hl,hi⟩:=OW (rec:=rec) (id:=id) (fs:=fs) (names:=names) F (stepG rec id fs names st r) hF';rw[List.foldl_cons];cases hr:st.aQ[r]? with
  | none=>
   rw[N9 hr] at hl hi;refine⟨hl,fun i gs h=> ?_⟩;obtain⟨hs,h1,h2,h3⟩:=hi i gs h;exact⟨hs,h1,h2,fun hn=>h3 (fun hm=>hn (List.mem_cons_of_mem _ hm))⟩
  | some g0=>
   obtain⟨s1,s2,y,s3,s4⟩:=N8 (rec:=rec) (id:=id) (fs:=fs) (names:=names) hr;refine⟨by rw[hl,s1],fun i gs h=> ?_⟩;by_cases hir:i = r
   ·subst hir;rw[hr] at h;injection h with h;subst h
    obtain⟨hs,h1,_,h3⟩:=hi i y s3;have:=h3 hrF;subst this;exact⟨hs,h1,s4,fun hn=>absurd List.mem_cons_self hn⟩
   ·obtain⟨hs,h1,h2,h3⟩:=hi i gs (by rw[s2 i hir];exact h);exact⟨hs,h1,h2,fun hn=>h3 (fun hm=>hn (List.mem_cons_of_mem _ hm))⟩
theorem Ui (ft:List bK→d_→Bool) (p:jo) (rec:List UInt8) (fs:List bK):(sF ft p rec fs).Nodup:=by
 unfold sF kP;exact List.Pairwise.filter _ List.nodup_range
def nK (P:kS→Prop) (st:Gg):Prop:=∀(i:Nat) (gs:List kS),st.aQ[i]? = some gs→∀g∈gs,P g
theorem nK.set {P:kS→Prop} {aQ:List (List kS)} {pl pl':List (List UInt8×Nat)} (h:nK P ⟨aQ,pl⟩) {r:Nat} {hs:List kS} (hh:∀g∈hs,P g):nK P ⟨aQ.set r hs,pl'⟩:=fun i gs hi g hg=>by
 have h1:(aQ.set r hs)[i]? = some gs:=hi;by_cases e:r = i
 ·subst e;rw[List.getElem?_set] at h1;simp only[if_true] at h1;split at h1
  ·injection h1 with h1;subst h1;exact hh g hg
  ·cases h1
 ·rw[List.getElem?_set_ne e] at h1;exact h i gs h1 g hg
theorem nK.bump {P:kS→Prop} {aQ:List (List kS)} {pl pl':List (List UInt8×Nat)} (h:nK P ⟨aQ,pl⟩) (hb:∀g id,P g→P {g with ids:=jl g.ids id}) (r k id:Nat):nK P ⟨lF aQ r k id,pl'⟩:=by
 unfold lF;split
 ·rename_i gs kU;split
  ·rename_i g hg;refine nK.set h fun x hx=> ?_
   rcases List.mem_or_eq_of_mem_set hx with h1 | h1
   ·exact h r gs kU x h1
   ·subst h1;exact hb g id (h r gs kU g (List.mem_of_getElem? hg))
  ·exact h
 ·exact h
theorem nK.step {P:kS→Prop} {st:Gg} {rec:List UInt8} {id:Nat} {fs:List bK} {names:Nat→List (List UInt8)} (h:nK P st) (hb:∀g id,P g→P {g with ids:=jl g.ids id}) (hn:∀r,P ⟨r,g_ fs (names r),Fq rec r (g_ fs (names r)),[]⟩) (r:Nat):nK P (stepG rec id fs names st r):=by
 unfold stepG;split
 ·exact nK.bump (pl:=st.place) h hb r _ id
 ·split
  ·rename_i gs kU;refine nK.bump (pl:=st.place) (nK.set (pl:=st.place) h fun x hx=> ?_) hb r _ id;rcases List.mem_append.1 hx with h1 | h1
   ·exact h r gs kU x h1
   ·rw[List.mem_singleton] at h1;subst h1;exact hn r
  ·exact h
theorem nK.fold {P:kS→Prop} {rec:List UInt8} {id:Nat} {fs:List bK} {names:Nat→List (List UInt8)} (hb:∀g id,P g→P {g with ids:=jl g.ids id}) (hn:∀r,P ⟨r,g_ fs (names r),Fq rec r (g_ fs (names r)),[]⟩):∀(F:List Nat) {st:Gg},nK P st→nK P (F.foldl (stepG rec id fs names) st)
 | [],_,h=>h
 | r ::F,_,h=>nK.fold hb hn F (h.step hb hn r)
theorem nK.start {P:kS→Prop} (n:Nat):nK P ⟨List.replicate n [],[]⟩:=fun i gs h1 g h2=>by
 have:=List.mem_of_getElem? h1;simp at this;rw[this.2] at h2;cases h2
def ByG (g:kS):Prop:=g.eY.length≤8∧∀f∈g.eY,f.n.length+f.v.length≤1000∧f.v.length≤200
theorem VE {p:jo} {rec:List UInt8} {a c:jq} {now:Int} (h:jP p rec a now=some c):c.fs.length≤8∧∀f∈c.fs,f.n.length+f.v.length≤1000∧f.v.length≤200:=by
 unfold jP at h;split at h
 ·cases h
 ·split at h
  ·rename_i hb;simp only[Bool.and_eq_true] at hb;have hi:=eU hb.1;obtain⟨rfl,-,-⟩:=O6 h;refine⟨Nat.le_trans (mG ..) hi.2.1,fun f hf=>hi.2.2 f (List.mem_filter.1 hf).1⟩
  ·cases h
theorem ag9 {fs:List bK} (h:fs.length≤8∧∀f∈fs,f.n.length+f.v.length≤1000∧f.v.length≤200) (n:List (List UInt8)):(g_ fs n).length≤8∧∀f∈g_ fs n,f.n.length+f.v.length≤1000∧f.v.length≤200:=
 ⟨Nat.le_trans (List.length_filter_le ..) h.1,fun f hf=>h.2 f (List.mem_filter.1 hf).1⟩
theorem afH {ft:List bK→d_→Bool} {p:jo} {rec:List UInt8} {now:Int}:∀(l:List jq) {st:Gg},nK ByG st→nK ByG (l.foldl (jk ft p rec now) st)
 | [],_,h=>h
 | a ::l,st,h=>by
  refine afH l ?_;unfold jk;cases hs:jP p rec a now with
  | none=>exact h
  | some c=>exact nK.fold (fun g id hg=>hg) (fun r=>ag9 (VE hs) _) _ h
theorem abg (ft:List bK→d_→Bool) (p:jo) (rec:List UInt8) (fs:List bK):(sF ft p rec fs).length≤p.routes.length:=by
 unfold sF kP;refine Nat.le_trans (List.length_filter_le ..) ?_;rw[List.length_range];exact Nat.le_refl _
theorem jF.ajF {n:Nat} (rec:List UInt8) (id:Nat) (fs:List bK) (names:Nat→List (List UInt8)):∀(F:List Nat) {j:Nat} {st:Gg},jF n j st→jF n (j + 2*F.length) (F.foldl (stepG rec id fs names) st)
 | [],_,_,h=>h
 | r ::F,j,st,h=>by
  have:=jF.ajF rec id fs names F (h.step rec id fs names r);rw[List.foldl_cons,List.length_cons];exact this.mono ω
theorem jF.aqP {n:Nat} {ft:List bK→d_→Bool} {p:jo} {rec:List UInt8} {now:Int} (hr:p.routes.length≤12):∀(l:List jq) {j:Nat} {st:Gg},jF n j st→jF n (j + 24*l.length) (l.foldl (jk ft p rec now) st)
 | [],_,_,h=>h
 | a ::l,j,st,h=>by
  have h1:jF n (j + 24) (jk ft p rec now st a):=by
   unfold jk;cases jP p rec a now with
   | none=>exact h.mono ω
   | some c=>
    have:=abg ft p rec c.fs;exact (jF.ajF rec (yg c) c.fs (bY p) (sF ft p rec c.fs) h).mono ω
  rw[List.foldl_cons,List.length_cons];exact (jF.aqP hr l h1).mono ω
def Rl (j:Nat) (g:kS):Prop:=g.ids.length≤j
theorem ad5 {j r:Nat} {gs hs:List kS} (h:D7 r gs hs) (hg:∀g∈gs,Rl j g):∀g∈hs,Rl (j + 1) g:=by
 rcases h with⟨hl,hi⟩ | ⟨y,rfl,hy,-⟩
 ·intro g hm;obtain⟨k,hk⟩:=List.getElem?_of_mem hm;have Ey:k<gs.length:=by rw[hl];exact (List.getElem?_eq_some_iff.1 hk).1
  have h1:=(hi k _ g (List.getElem?_eq_getElem Ey) hk).2.2.2;have h2:=hg _ (List.getElem_mem Ey);unfold Rl at *
  omega
 ·intro g hm;rcases List.mem_append.1 hm with h1 | h1
  ·exact Nat.le_succ_of_le (hg g h1)
  ·rw[List.mem_singleton] at h1;subst h1;unfold Rl;omega
theorem YE {ft:List bK→d_→Bool} {p:jo} {rec:List UInt8} {now:Int}:∀(l:List jq) {j:Nat} {st:Gg},nK (Rl j) st→nK (Rl (j + l.length)) (l.foldl (jk ft p rec now) st)
 | [],_,_,h=>h
 | a ::l,j,st,h=>by
  have h1:nK (Rl (j + 1)) (jk ft p rec now st a):=by
   unfold jk;cases jP p rec a now with
   | none=>exact fun i gs hi g hg=>Nat.le_succ_of_le (h i gs hi g hg)
   | some c=>
    intro i gs hi g hg;obtain⟨hl,hr⟩:=OW (rec:=rec) (id:=yg c) (fs:=c.fs) (names:=bY p) (sF ft p rec c.fs) st (Ui ft p rec c.fs);have hlt:i < st.aQ.length:=by rw[←hl];exact (List.getElem?_eq_some_iff.1 hi).1
    obtain⟨hs,h2,h3,-⟩:=hr i _ (List.getElem?_eq_getElem hlt);rw[hi] at h2;injection h2 with h2;subst h2
    exact ad5 h3 (h i _ (List.getElem?_eq_getElem hlt)) g hg
  have:=YE (ft:=ft) (p:=p) (rec:=rec) (now:=now) l h1;rw[List.foldl_cons,List.length_cons,show j + (l.length+1)=j + 1+l.length by omega];exact this
structure KU (p:jo) (n:Nat) (g:kS):Prop where
 r:g.route<p.routes.length
 r12:g.route<12
 eY:ByG g
 RZ:iL g.ids
 ids:g.ids.length≤n
theorem Uh:∀(aQ:List (List kS)) (j:Nat),(∀gs∈aQ,gs.length≤j)→aQ.flatten.length≤aQ.length*j
 | [],_,_=>by simp
 | gs::aQ,j,h=>by
  have h1:=Uh aQ j (fun x hx=>h x (List.mem_cons_of_mem _ hx));have h2:=h gs List.mem_cons_self;rw[List.flatten_cons,List.length_append,List.length_cons,Nat.add_mul];omega
theorem Uf (fb:d_→Bool) (ft:List bK→d_→Bool) (p:jo) (rec:List UInt8) (l:List jq) (now:Int):(∀g∈qX fb ft p rec l now,KU p l.length g)∧(qX fb ft p rec l now).length≤288*l.length:=by
 unfold qX;split
 ·rename_i zH;have h12:p.routes.length≤12:=(JG (D6 zH).1).1;have hI:jF p.routes.length (0+24*l.length) (lu ft p rec l now):=jF.aqP h12 l (jF.start _);have hB:nK ByG (lu ft p rec l now):=afH l (nK.start _);have hD:nK (Rl (0+l.length)) (lu ft p rec l now):=YE l (nK.start _);have hR:jm 0 (lu ft p rec l now).aQ:=jm.all l (jm.start _);generalize lu ft p rec l now=st at *
  refine⟨fun g hg=> ?_,?_⟩
  ·obtain⟨gs,h1,h2⟩:=List.mem_flatten.1 hg;obtain⟨i,hi⟩:=List.getElem?_of_mem h1;obtain⟨k,hk⟩:=List.getElem?_of_mem h2;have OG:i < st.aQ.length:=(List.getElem?_eq_some_iff.1 hi).1;have hr:g.route=0+i:=hR i gs g hi h2;have hd:=hD i gs hi g h2;unfold Rl at hd;have:=hI.len;exact⟨ω,ω,hB i gs hi g h2,hI.RZ i gs k g hi hk,ω⟩
  ·have h1:=Uh st.aQ (24*l.length) (fun gs hg=>by
    obtain⟨i,hi⟩:=List.getElem?_of_mem hg;have:=hI.mr i gs hi;omega)
   rw[hI.len] at h1;have h2:=Nat.mul_le_mul_right (24*l.length) h12;omega
 ·exact⟨fun g hg=>(List.not_mem_nil hg).elim,by simp⟩
structure aq0 where
 k:Int
 a:dH
 s:U4
 now:Int
def aq0.e (x:aq0):Evt:=⟨x.k,x.a.a,x.s.s,x.now⟩
structure TKp (T:List TypeId) (base:Nat) (w w':World):Prop where
 below:Below base w w'
 kept:∀(g:Nat) (cur:Array Value) (te:TypeId) (fz:Nat×Nat),w.heap[g]? = some (Obj.cells cur te fz)→te∉T→w'.heap[g]? = w.heap[g]?
theorem TKp.trans {T:List TypeId} {base:Nat} {a b c:World} (h:TKp T base a b) (k:TKp T base b c):TKp T base a c:=
 ⟨h.below.trans k.below,fun g cur te fz hg ht=>(k.kept g cur te fz ((h.kept g cur te fz hg ht).trans hg) ht).trans (h.kept g cur te fz hg ht)⟩
theorem Dx {w:World} {g:Nat} {o:Obj} (h:w.heap[g]? = some o):g < w.heap.size:=(Array.getElem?_eq_some_iff.1 h).1
theorem TKp.size {T:List TypeId} {base:Nat} {a b:World} (h:TKp T base a b):a.heap.size≤b.heap.size:=h.below.size
theorem TKp.blk {T:List TypeId} {base g:Nat} {a b:World} {te:TypeId} {cs:Array Value} (h:TKp T base a b) (hb:aF a g te cs) (ht:te∉T):aF b g te cs:=(h.kept g _ _ _ hb ht).trans hb
theorem TKp.row {T:List TypeId} {base:Nat} {w w':World} {row:Option Nat} (hg:w.grownBy w' row) (hb:base≤w.heap.size) (hr:∀m,row=some m→base≤m∧∃te cs,te∈T∧aF w m te cs):TKp T base w w':=by
 refine⟨⟨hg.os,hg.tape,hg.output,hg.size,fun k hk=>hg.block k (Nat.lt_of_lt_of_le hk hb) (fun e=> ?_)⟩,fun g cur te fz h ht=>hg.block g (Dx h) (fun e=> ?_)⟩
 ·have:=(hr k e.symm).1;omega
 ·obtain⟨_,te',cs,hT,hB⟩:=hr g e.symm;unfold aF at hB;rw[h] at hB;simp only[Option.some.injEq,Obj.cells.injEq] at hB;exact ht (hB.2.1 ▸ hT)
theorem Own.afJ {α:Type} {w:World} {base k:Nat} {e:TypeId} {enc:α→List Value} {v:Value} {xs:List α} (h:Own w base e k enc v xs):∀m,v.ownBlock=some m→base≤m∧∃cs,aF w m e cs:=fun m hm=>by
 rcases h.2 with⟨h2,_⟩ | ⟨g,cap,cur,hv,hb,hh,r⟩
 ·rw[h2] at hm;cases hm
 ·rw[hv] at hm;simp only[Value.ownBlock,Option.some.injEq] at hm;subst hm;exact⟨hb,cur,hh⟩
end Go.Proofs.YtbhikkgpcmkonaaGreatDoor
namespace Go.Proofs.YtbhikkgpcmkonaaGreatDoor
open Go.RowKit Go.Maps Go.WideMaps
structure GX where
 key:List UInt8
 g:vV
 r:RtX
 gb:Nat
 cb:Nat
 v:Value
def dK (gs:List GX):List (List UInt8×vV):=gs.map fun x=>(x.key,x.g)
def lY (gs:List GX):List (List UInt8×Nat):=gs.map fun x=>(x.key,x.gb)
structure sO (w:World) (base:Nat) (x:GX):Prop where
 blk:aF w x.gb 130 (IC x.g x.r x.cb)
 iR:vS w base x.cb x.g.iR x.v
 gge:base≤x.gb
 cge:base≤x.cb
 kl:x.key.length≤20000
structure dG (w:World) (base ge b:Nat) (rec:List UInt8) (now:Int) (B:Nat) (gs:List GX):Prop where
 blk:aF w ge 118 #[.string ⟨rec.toArray⟩,.map (some b),.int .i64 now]
 map:∃n,n≤B∧qI w b n (lY gs)
 nd:(gs.map (·.key)).Nodup
 gnd:(gs.map (·.gb)).Nodup
 cnd:(gs.map (·.cb)).Nodup
 at_:∀x∈gs,sO w base x
 num:∀x∈gs,x.g.number≤B
 iR:∀x∈gs,x.g.iR.now≤now
 ege:base≤ge
 bge:base≤b
def aik:List TypeId:=[118,130,180,33]
theorem sO.grows {w w':World} {base:Nat} {x:GX} (h:sO w base x) (hg:ah w w'):sO w' base x:=⟨h.blk.grows hg,h.iR.grows hg,h.gge,h.cge,h.kl⟩
theorem vS.aP {w w':World} {base g:Nat} {c:Rq} {v:Value} {row:Option Nat} (h:vS w base g c v) (hg:w.grownBy w' row) (h1:some g≠row) (h2:∀m,row=some m→∀cur te fz,w.heap[m]? = some (.cells cur te fz)→te≠33):vS w' base g c v:=
 ⟨h.blk.aP hg h1,h.told.kept' hg (fun m hm hv=>by obtain⟨cur,hc⟩:=bD h.told hv;exact h2 m hm _ _ _ hc rfl),h.ok,h.RZ,h.len⟩
theorem sO.aP {w w':World} {base:Nat} {x:GX} {row:Option Nat} (h:sO w base x) (hg:w.grownBy w' row) (h0:some x.gb≠row) (h1:some x.cb≠row) (h2:∀m,row=some m→∀cur te fz,w.heap[m]? = some (.cells cur te fz)→te≠33):sO w' base x:=
 ⟨h.blk.aP hg h0,h.iR.aP hg h1 h2,h.gge,h.cge,h.kl⟩
section
variable {w w':World} {base ge b B:Nat} {rec:List UInt8} {now:Int} {gs:List GX}
theorem dG.grows (h:dG w base ge b rec now B gs) (hg:ah w w'):dG w' base ge b rec now B gs:=
 ⟨h.blk.grows hg,by obtain⟨n,h1,h2⟩:=h.map;exact⟨n,h1,h2.grows hg⟩,h.nd,h.gnd,h.cnd,fun x hx=>(h.at_ x hx).grows hg,h.num,h.iR,h.ege,h.bge⟩
theorem dG.more (h:dG w base ge b rec now B gs) {B':Nat} (hb:B≤B'):dG w base ge b rec now B' gs:=
 ⟨h.blk,by obtain⟨n,h1,h2⟩:=h.map;exact⟨n,ω,h2⟩,h.nd,h.gnd,h.cnd,h.at_,fun x hx=>Nat.le_trans (h.num x hx) hb,h.iR,h.ege,h.bge⟩
theorem dG.other (h:dG w base ge b rec now B gs) {row:Option Nat} (hg:w.grownBy w' row) (hb:some b≠row) (ht:∀m,row=some m→∀cur te fz,w.heap[m]? = some (.cells cur te fz)→te∉aik):dG w' base ge b rec now B gs:=by
 have hne:∀(g:Nat) te cs,aF w g te cs→te∈aik→some g≠row:=fun g te cs hB hT e=>ht g e.symm _ _ _ hB hT
 refine⟨h.blk.aP hg (hne _ _ _ h.blk δ),?_,h.nd,h.gnd,h.cnd,fun x hx=> ?_,h.num,h.iR,h.ege,h.bge⟩
 ·obtain⟨n,h1,h2⟩:=h.map;exact⟨n,h1,h2.kept hg hb⟩
 ·have hx1:=h.at_ x hx;exact hx1.aP hg (hne _ _ _ hx1.blk δ) (hne _ _ _ hx1.iR.blk δ) (fun m hm cur te fz hc e=>ht m hm cur te fz hc (by rw[e];decide))
theorem dG.akm (h:dG w base ge b rec now B gs) {n':Int} (hn:now≤n'):dG (w.setCell ⟨ge,2,none⟩ (.int .i64 n')) base ge b rec n' B gs:=by
 have hg:=aj w ⟨ge,2,none⟩ (.int .i64 n');have hne:∀(g:Nat) te cs,aF w g te cs→te≠118→some g≠some ge:=fun g te cs hB hT e=>by
  injection e with e;subst e
  have h1:=h.blk;unfold aF at h1 hB;rw[h1] at hB;simp only[Option.some.injEq,Obj.cells.injEq] at hB;exact hT hB.2.1.symm
 refine⟨(h.blk.aW 2 _).cast σ,?_,h.nd,h.gnd,h.cnd,fun x hx=> ?_,h.num,fun x hx=>Int.le_trans (h.iR x hx) hn,h.ege,h.bge⟩
 ·obtain⟨n,h1,h2⟩:=h.map;exact⟨n,h1,h2.kept hg (fun e=>by injection e with e;exact h2.bg _ _ _ (by rw[e];exact h.blk))⟩
 ·have hx1:=h.at_ x hx;exact hx1.aP hg (hne _ _ _ hx1.blk δ) (hne _ _ _ hx1.iR.blk δ) (fun m hm cur te fz hc e=>by
   injection hm with hm;subst hm
   have h1:=h.blk;unfold aF at h1;rw[h1] at hc;simp only[Option.some.injEq,Obj.cells.injEq] at hc;rw[←hc.2.1] at e;revert e;decide)
theorem oq {α β:Type} {f:α→β}:∀{l:List α},(l.map f).Nodup→∀{x y:α},x∈l→y∈l→f x = f y→x = y
 | a ::l,hn,x,y,hx,hy,e=>by
  rw[List.map_cons,List.nodup_cons] at hn;rcases List.mem_cons.1 hx with rfl | BK <;> rcases List.mem_cons.1 hy with rfl | hy'
  ·rfl
  ·exact absurd (List.mem_map.2 ⟨y,hy',e.symm⟩) hn.1
  ·exact absurd (List.mem_map.2 ⟨x,BK,e⟩) hn.1
  ·exact oq hn.2 BK hy' e
def uQ (gs:List GX) (k:List UInt8) (y:GX):List GX:=gs.map fun z=>if z.key=k then y else z
theorem rJ {β:Type} {f:GX→β} {k:List UInt8} {y x:GX} (hx:x∈gs) (hn:(gs.map (·.key)).Nodup) (hk:x.key=k) (hf:f y = f x):(uQ gs k y).map f = gs.map f:=by
 unfold uQ;rw[List.map_map];apply List.map_congr_left;intro z hz;simp only[Function.comp_apply];split
 ·rename_i he;have:z = x:=oq hn hz hx (by rw[he,hk]);rw[this,hf]
 ·rfl
theorem dG.upd (h:dG w base ge b rec now B gs) {x y:GX} {m B':Nat} (hx:x∈gs) (hg:w.grownBy w' (some m)) (hm:m = x.gb∨m = x.cb) (hy:sO w' base y) (hk:y.key=x.key) (hgb:y.gb=x.gb) (hcb:y.cb=x.cb) (akZ:y.g.number≤B') (Xv:y.g.iR.now≤now) (hB:B≤B') :
 dG w' base ge b rec now B' (uQ gs x.key y):=by
 have hx1:=h.at_ x hx;have hmc:∃te cs,aF w m te cs∧te≠118∧te≠33:=by
  rcases hm with rfl | rfl
  ·exact⟨_,_,hx1.blk,δ,δ⟩
  ·exact⟨_,_,hx1.iR.blk,δ,δ⟩
 obtain⟨tm,cm,hBm,ht1,ht2⟩:=hmc;have hne:∀(g:Nat) te cs,aF w g te cs→te≠tm→some g≠some m:=fun g te cs hB hT e=>by
  injection e with e;subst e
  unfold aF at hBm hB;rw[hBm] at hB;simp only[Option.some.injEq,Obj.cells.injEq] at hB;exact hT hB.2.1.symm
 have kY:∀z∈uQ gs x.key y,z = y∨(z∈gs∧z.key≠x.key):=fun z hz=>by
  obtain⟨z',hz',rfl⟩:=List.mem_map.1 hz;by_cases e:z'.key=x.key
  ·exact .inl (by simp only[e,if_true])
  ·exact .inr ⟨by simp only[e,if_false];exact hz',by simp only[e,if_false];exact fun e2=>(e e2).elim⟩
 refine⟨h.blk.aP hg (hne _ _ _ h.blk (Ne.symm ht1)),?_,by rw[rJ hx h.nd rfl hk];exact h.nd,by rw[rJ hx h.nd rfl hgb];exact h.gnd,by rw[rJ hx h.nd rfl hcb];exact h.cnd,fun z hz=> ?_,fun z hz=> ?_,fun z hz=> ?_,h.ege,h.bge⟩
 ·obtain⟨n,h1,h2⟩:=h.map;refine⟨n,ω,?_⟩;have:lY (uQ gs x.key y)=lY gs:=rJ (f:=fun x=>(x.key,x.gb)) hx h.nd rfl (by rw[hk,hgb]);rw[this];exact h2.kept hg (fun e=>by injection e with e;exact h2.bg _ _ _ (by rw[e];exact hBm))
 ·rcases kY z hz with rfl | ⟨hz1,hz2⟩
  ·exact hy
  ·have hz3:=h.at_ z hz1;have hzx:z≠x:=fun e=>hz2 (by rw[e])
   refine hz3.aP hg (fun e=> ?_) (fun e=> ?_) (fun m' hm' cur te fz hc e=> ?_)
   ·injection e with e
    rcases hm with hm | hm
    ·exact hzx (oq h.gnd hz1 hx (by rw[e,hm]))
    ·rw[hm] at e;have h3:=hz3.blk;rw[e] at h3;have h4:=hx1.iR.blk;unfold aF at h3 h4;rw[h3] at h4;simp only[Option.some.injEq,Obj.cells.injEq] at h4;have h5:=h4.2.1;revert h5;decide
   ·injection e with e
    rcases hm with hm | hm
    ·rw[hm] at e;have h3:=hz3.iR.blk;rw[e] at h3;have h4:=hx1.blk;unfold aF at h3 h4;rw[h3] at h4;simp only[Option.some.injEq,Obj.cells.injEq] at h4;have h5:=h4.2.1;revert h5;decide
    ·exact hzx (oq h.cnd hz1 hx (by rw[e,hm]))
   ·injection hm' with hm';subst hm'
    unfold aF at hBm;rw[hBm] at hc;simp only[Option.some.injEq,Obj.cells.injEq] at hc;rw[←hc.2.1] at e;exact ht2 e
 ·rcases kY z hz with rfl | ⟨hz1,_⟩
  ·exact akZ
  ·exact Nat.le_trans (h.num z hz1) hB
 ·rcases kY z hz with rfl | ⟨hz1,_⟩
  ·exact Xv
  ·exact h.iR z hz1
theorem dG.put (h:dG w base ge b rec now B gs) {y:GX} (hB:B+1≤1000000) (hy:sO w base y) (hno:eG (lY gs) y.key=none) (hgb:∀x∈gs,x.gb≠y.gb) (hcb:∀x∈gs,x.cb≠y.cb) (akZ:y.g.number≤B+1) (Xv:y.g.iR.now≤now) :
 ∃w',(Instr.mapUpdate 116 (.map (some b)) (.string ⟨y.key.toArray⟩) (.pointer (some ⟨y.gb,0,none⟩))).run Tryz.prog w =.ok () w'∧dG w' base ge b rec now (B+1) (gs++[y])∧w.grownBy w' (some b):=by
 obtain⟨n,h1,h2⟩:=h.map;obtain⟨w',hr,hM,hg⟩:=h2.put ω (by have:=hy.kl;omega) hno y.gb;have hne:∀(g:Nat) te cs,aF w g te cs→some g≠some b:=fun g te cs hB e=>by injection e with e;subst e;exact h2.bg _ _ _ hB
 have hk:∀x,sO w base x→sO w' base x:=fun x hx=>hx.aP hg (hne _ _ _ hx.blk) (hne _ _ _ hx.iR.blk) (fun m hm cur te fz hc=>by injection hm with hm;subst hm;exact (h2.bg _ _ _ hc).elim)
 have hkey:∀x∈gs,x.key≠y.key:=fun x hx e=>by
  have:eG (lY gs) y.key=some x.gb:=rX (by unfold lY;rw[List.map_map];exact h.nd) (List.mem_map.2 ⟨x,hx,by rw[e]⟩);rw[hno] at this;cases this
 have YK:∀{β:Type} (f:GX→β),(gs.map f).Nodup→(∀x∈gs,f x≠f y)→((gs++[y]).map f).Nodup:=fun f hn hf=>by
  rw[List.map_append,List.nodup_append];refine⟨hn,by simp,fun a ha c hc=> ?_⟩;obtain⟨x,hx,rfl⟩:=List.mem_map.1 ha;simp only[List.map_cons,List.map_nil,List.mem_singleton] at hc;subst hc;exact hf x hx
 refine⟨w',hr,⟨h.blk.aP hg (hne _ _ _ h.blk),⟨n + 1,ω,?_⟩,YK _ h.nd hkey,YK _ h.gnd hgb,YK _ h.cnd hcb,?_,?_,?_,h.ege,h.bge⟩,hg⟩
 ·unfold lY;rw[List.map_append];exact hM
 ·intro x hx;rcases List.mem_append.1 hx with h3 | h3
  ·exact hk x (h.at_ x h3)
  ·rw[List.mem_singleton] at h3;subst h3;exact hk _ hy
 ·intro x hx;rcases List.mem_append.1 hx with h3 | h3
  ·exact Nat.le_succ_of_le (h.num x h3)
  ·rw[List.mem_singleton] at h3;subst h3;exact akZ
 ·intro x hx;rcases List.mem_append.1 hx with h3 | h3
  ·exact h.iR x h3
  ·rw[List.mem_singleton] at h3;subst h3;exact Xv
end
theorem I_ {gs:List GX} (hn:(gs.map (·.key)).Nodup) {x:GX} (hx:x∈gs):sD (dK gs) x.key=some x.g:=by
 have:sD (dK gs) x.key=eG (dK gs) x.key:=rfl;rw[this];exact rX (by unfold dK;rw[List.map_map];exact hn) (List.mem_map.2 ⟨x,hx,rfl⟩)
theorem aa9 {gs:List GX} {k:List UInt8} (h:eG (lY gs) k=none):sD (dK gs) k=none:=by
 refine wQ fun x hx e=> ?_
 obtain⟨z,hz,rfl⟩:=List.mem_map.1 hx;unfold eG at h;rw[Option.map_eq_none_iff,List.find?_eq_none] at h;have:=h (z.key,z.gb) (List.mem_map.2 ⟨z,hz,rfl⟩);simp only[decide_eq_true_eq] at this;exact this e
theorem JD {gs:List GX} {k:List UInt8} {n:Nat} (h:eG (lY gs) k=some n):∃x∈gs,x.key=k∧x.gb=n:=by
 have:=Fj h;obtain⟨x,hx,e⟩:=List.mem_map.1 this;injection e with e1 e2
 exact⟨x,hx,e1,e2⟩
theorem Js {gs:List GX} (hn:(gs.map (·.key)).Nodup) {x y:GX} (hx:x∈gs) (hk:y.key=x.key):dK (uQ gs x.key y)=nZ (dK gs) x.key y.g:=by
 unfold nZ;rw[I_ hn hx];simp only[Option.isSome_some,if_true];unfold uQ dK;rw[List.map_map,List.map_map];apply List.map_congr_left;intro z hz;simp only[Function.comp_apply];split
 ·rw[hk]
 ·rfl
theorem nR.next {S:Nat→Prop} {a b c:World} {row:Option Nat} (h:nR S a b) (hg:b.grownBy c row) (hr:∀k,row=some k→S k∨a.heap.size≤k):nR S a c:=
 ⟨hg.os.trans h.os,hg.tape.trans h.tape,hg.output.trans h.output,Nat.le_trans h.size hg.size,fun j hj hn=>(hg.block j (Nat.lt_of_lt_of_le hj h.size) (fun e=>by rcases hr j e.symm with h1 | h1;exact hn h1;omega)).trans (h.block j hj hn)⟩
theorem nR.eP {S:Nat→Prop} {a b c:World} (h:nR S a b) (hg:ah b c):nR S a c:=h.trans (hg.off S)
theorem dX.row {w w':World} {base:Nat} {x:iC} {row:Option Nat} (h:dX w base x) (hg:w.grownBy w' row) (ht:∀m,row=some m→∀cur te fz,w.heap[m]? = some (.cells cur te fz)→te≠88∧te≠65):dX w' base x:=
 ⟨h.eY.kept' hg (fun j hj hv=>by obtain⟨cur,hc⟩:=bD h.eY hv;exact (ht j hj _ _ _ hc).1 rfl),h.ts.kept' hg (fun j hj hv=>by obtain⟨cur,hc⟩:=bD h.ts hv;exact (ht j hj _ _ _ hc).2 rfl),
  fun y hy=>(h.at_ y hy).eY hg (fun j hj hv=>by obtain⟨cur,hc⟩:=bD (h.at_ y hy).1 hv;exact (ht j hj _ _ _ hc).1 rfl),h.ble,h.UH,h.tle⟩
def abT:List TypeId:=[130,180,53,64]
structure qM (T:List TypeId) (w w':World):Prop where
 size:w.heap.size≤w'.heap.size
 kept:∀(g:Nat) (cur:Array Value) (te:TypeId) (fz:Nat×Nat),w.heap[g]? = some (Obj.cells cur te fz)→te∉T→w'.heap[g]? = w.heap[g]?
theorem qM.refl (T:List TypeId) (w:World):qM T w w:=⟨Nat.le_refl _,fun _ _ _ _ _ _=>rfl⟩
theorem qM.trans {T:List TypeId} {a b c:World} (h:qM T a b) (k:qM T b c):qM T a c:=⟨Nat.le_trans h.size k.size,fun g cur te fz hg ht=>(k.kept g cur te fz ((h.kept g cur te fz hg ht).trans hg) ht).trans (h.kept g cur te fz hg ht)⟩
theorem qM.grows {T:List TypeId} {a b:World} (hg:ah a b):qM T a b:=⟨hg.size,fun g _ _ _ h _=>hg.below.block g (Dx h)⟩
theorem qM.row {T:List TypeId} {w w':World} {row:Option Nat} (hg:w.grownBy w' row) (ht:∀m,row=some m→∀cur te fz,w.heap[m]? = some (.cells cur te fz)→te∈T):qM T w w':=
 ⟨hg.size,fun g cur te fz h hn=>hg.block g (Dx h) (fun e=>hn (ht g e.symm cur te fz h))⟩
theorem qM.own {α:Type} {T:List TypeId} {w w':World} {b0 k:Nat} {e:TypeId} {enc:α→List Value} {v:Value} {xs:List α} (h:Own w b0 e k enc v xs) (hT:qM T w w') (he:e∉T):Own w' b0 e k enc v xs:=by
 refine⟨h.1,?_⟩;rcases h.2 with h2 | ⟨g,cap,cur,hv,hb,hh,r⟩
 ·exact .inl h2
 ·exact .inr ⟨g,cap,cur,hv,hb,(hT.kept g _ _ _ hh he).trans hh,r⟩
theorem qM.blk {T:List TypeId} {g:Nat} {a b:World} {te:TypeId} {cs:Array Value} (h:qM T a b) (hb:aF a g te cs) (ht:te∉T):aF b g te cs:=(h.kept g _ _ _ hb ht).trans hb
structure lG (S:Nat→Prop) (w0 W:World) (pc:Array Value) (ge ab:Nat) (now:Int) (oA:Option Addr) (om ok:Nat) (ys:List dH) (g1 g2 g3 g4 g5 g6:Nat) (v:Value) (ls:List iC):Prop where
 off:nR S w0 W
 b1:aF W g1 51 #[.pointer (some ⟨ge,0,none⟩)]
 b2:aF W g2 50 pc
 b3:aF W g3 122 #[.map (some ab)]
 b4:aF W g4 3 #[.int .i64 now]
 b5:aF W g5 59 #[.slice oA om ok]
 b6:aF W g6 53 #[v]
 g6n:w0.heap.size≤g6
 own:Own W w0.heap.size 57 6 sG (.slice oA om ok) ys
 out:Own W w0.heap.size 64 6 nC v ls
 outs:∀x∈ls,dX W w0.heap.size x
theorem lG.o {S:Nat→Prop} {w0 W:World} {pc:Array Value} {ge ab:Nat} {now:Int} {oA:Option Addr} {om ok:Nat} {ys:List dH} {g1 g2 g3 g4 g5 g6:Nat} {v:Value} {ls:List iC} (h:lG S w0 W pc ge ab now oA om ok ys g1 g2 g3 g4 g5 g6 v ls):Own W w0.heap.size 64 6 nC v ls:=h.out
section
variable {S:Nat→Prop} {w0 W W':World} {pc:Array Value} {ge ab:Nat} {now:Int} {oA:Option Addr} {om ok:Nat} {ys:List dH} {g1 g2 g3 g4 g5 g6:Nat} {v:Value} {ls:List iC}
theorem lG.grows (h:lG S w0 W pc ge ab now oA om ok ys g1 g2 g3 g4 g5 g6 v ls) (hg:ah W W'):lG S w0 W' pc ge ab now oA om ok ys g1 g2 g3 g4 g5 g6 v ls:=
 ⟨h.off.eP hg,h.b1.grows hg,h.b2.grows hg,h.b3.grows hg,h.b4.grows hg,h.b5.grows hg,h.b6.grows hg,h.g6n,h.own.grows hg,h.o.grows hg,fun x hx=>(h.outs x hx).grows hg⟩
theorem lG.turn (h:lG S w0 W pc ge ab now oA om ok ys g1 g2 g3 g4 g5 g6 v ls) {m:Nat} (hg:W.grownBy W' (some m)) (hm:S m∨w0.heap.size≤m) (ht:∀cur te fz,W.heap[m]? = some (.cells cur te fz)→te=130∨te=180):lG S w0 W' pc ge ab now oA om ok ys g1 g2 g3 g4 g5 g6 v ls:=by
 have hne:∀(g:Nat) te cs,aF W g te cs→te≠130→te≠180→some g≠some m:=fun g te cs hB h1 h2 e=>by
  injection e with e;subst e
  rcases ht _ _ _ hB with h3 | h3
  ·exact h1 h3
  ·exact h2 h3
 have hO:∀{α:Type} {k:Nat} {e:TypeId} {enc:α→List Value} {u:Value} {xs:List α},Own W w0.heap.size e k enc u xs→e≠130→e≠180→Own W' w0.heap.size e k enc u xs:=fun hO h1 h2=>
  hO.kept' hg (fun j hj hv=>by obtain⟨cur,hc⟩:=bD hO hv;exact hne j _ _ hc h1 h2 (by rw[hj]))
 refine⟨h.off.next hg (fun k hk=>by injection hk with hk;subst hk;exact hm),h.b1.aP hg (hne _ _ _ h.b1 δ δ),h.b2.aP hg (hne _ _ _ h.b2 δ δ),h.b3.aP hg (hne _ _ _ h.b3 δ δ),h.b4.aP hg (hne _ _ _ h.b4 δ δ),h.b5.aP hg (hne _ _ _ h.b5 δ δ),h.b6.aP hg (hne _ _ _ h.b6 δ δ),h.g6n,hO h.own δ δ,hO h.o δ δ,fun x hx=>(h.outs x hx).row hg (fun j hj cur te fz hc=> ?_)⟩;injection hj with hj;subst hj
 rcases ht _ _ _ hc with rfl | rfl <;> constructor <;> decide
end
def sN (S:Nat→Prop) (w0:World) (gs:List GX):Prop:=∀x∈gs,(S x.gb∨w0.heap.size≤x.gb)∧(S x.cb∨w0.heap.size≤x.cb)
theorem sN.upd {S:Nat→Prop} {w0:World} {gs:List GX} (h:sN S w0 gs) {k:List UInt8} {x y:GX} (hx:x∈gs) (h1:y.gb=x.gb) (h2:y.cb=x.cb):sN S w0 (uQ gs k y):=fun z hz=>by
 obtain⟨z',hz',rfl⟩:=List.mem_map.1 hz;split
 ·rw[h1,h2];exact h x hx
 ·exact h z' hz'
theorem sN.put {S:Nat→Prop} {w0:World} {gs:List GX} (h:sN S w0 gs) {y:GX} (h1:w0.heap.size≤y.gb) (h2:w0.heap.size≤y.cb):sN S w0 (gs++[y]):=fun z hz=>by
 rcases List.mem_append.1 hz with h3 | h3
 ·exact h z h3
 ·rw[List.mem_singleton] at h3;subst h3;exact⟨.inr h1,.inr h2⟩
def lZ (W:World) (ab B:Nat) (asked:List (List UInt8)):Prop:=∃n,n≤B∧gK Tryz.prog 9 4 W ab n (asked.map fun k=>(k,Lit.bool true))
theorem lZ.kept {W W':World} {ab B:Nat} {asked:List (List UInt8)} {row:Option Nat} (h:lZ W ab B asked) (hg:W.grownBy W' row) (hne:some ab≠row):lZ W' ab B asked:=by
 obtain⟨n,h1,h2⟩:=h;exact⟨n,h1,h2.kept hg hne⟩
theorem lZ.grows {W W':World} {ab B:Nat} {asked:List (List UInt8)} (h:lZ W ab B asked) (hg:ah W W'):lZ W' ab B asked:=h.kept (hg.keeps none) σ
theorem lZ.bg {W:World} {ab B:Nat} {asked:List (List UInt8)} (h:lZ W ab B asked):∀cur e fz,W.heap[ab]?≠some (.cells cur e fz):=by
 obtain⟨n,_,es,clock,hb,_⟩:=h;intro cur e fz hc;rw[hb] at hc;cases hc
def Zg (mk:kS→Int→Option KT) (p:aY) (S:Nat→Prop) (w0 W:World) (base:Nat) (rec:List UInt8) (ge b ab B:Nat) (now:Int) (oA:Option Addr) (om ok:Nat) (ys:List dH) (g1 g2 g3 g4 g5 g6:Nat) (gs:List GX) (asked:List (List UInt8)) (ls:List iC) (x:kS) (e:Ending) (W':World):Prop:=
 e =.returned (.tuple #[])∧∃(gs':List GX) (v':Value) (M_:List iC),lG S w0 W' p.cells.toArray ge ab now oA om ok ys g1 g2 g3 g4 g5 g6 v' M_∧dG W' base ge b rec now (B+1) gs'∧sN S w0 gs'∧lZ W' ab (B+1) (asked++[cZ x.route x.eY])∧M_.length≤B+1∧qM abT W W'∧
  dK gs'=(KI mk p.aU now ⟨dK gs,asked,ls.map (·.I4)⟩ x).gs∧M_.map (·.I4)=(KI mk p.aU now ⟨dK gs,asked,ls.map (·.I4)⟩ x).out
theorem aa8 {gs:List (List UInt8×vV)} {k:List UInt8} {g:vV} (h:sD gs k=none):sD (gs++[(k,g)]) k=some g:=by
 have h1:eG gs k=none:=h;have:sD (gs++[(k,g)]) k=eG (gs++[(k,g)]) k:=rfl;rw[this,wP h1,if_pos rfl]
theorem OU {gs:List (List UInt8×vV)} {k:List UInt8} (h:sD gs k=none):∀x∈gs,x.1≠k:=by
 unfold sD at h;rw[Option.map_eq_none_iff,List.find?_eq_none] at h;exact fun x hx e=>h x hx (by simpa using e)
theorem ZA {gs:List (List UInt8×vV)} {k:List UInt8} {g g':vV} (h:sD gs k=none):nZ (gs++[(k,g)]) k g'=nZ gs k g':=by
 unfold nZ;rw[aa8 h,h];simp only[Option.isSome_some,Option.isSome_none,if_true,Bool.false_eq_true,if_false];rw[List.map_append];congr 1
 ·rw[show gs=gs.map id by simp,List.map_map];apply List.map_congr_left;intro x hx;simp only[Function.comp_apply,id];rw[if_neg (OU h x (by simpa using hx))]
 ·simp
theorem Oc {gs:List (List UInt8×vV)} {k:List UInt8} {g g':vV} (h:(sD gs k).isSome):nZ (nZ gs k g) k g'=nZ gs k g':=by
 have e1:nZ gs k g = gs.map (fun x=>if x.1=k then (k,g) else x):=by unfold nZ;rw[if_pos h]
 have e2:nZ gs k g'=gs.map (fun x=>if x.1=k then (k,g') else x):=by unfold nZ;rw[if_pos h]
 have h3:(sD (gs.map (fun x=>if x.1=k then (k,g) else x)) k).isSome:=by
  cases hn:sD (gs.map (fun x=>if x.1=k then (k,g) else x)) k with
  | some _=>rfl
  | none=>
   have h4:=OU hn;cases hk:sD gs k with
   | none=>rw[hk] at h;cases h
   | some g0=>
    have:(k,g0)∈gs:=Fj (show eG gs k=some g0 from hk);exact absurd (by simp:((if (k,g0).1=k then (k,g) else (k,g0)):List UInt8×vV).1=k) (h4 _ (List.mem_map.2 ⟨(k,g0),this,rfl⟩))
 rw[e1,e2];unfold nZ;rw[if_pos h3,List.map_map];apply List.map_congr_left;intro x _;simp only[Function.comp_apply];by_cases e:x.1=k <;> simp[e]
theorem Own.Ol {α:Type} {w w':World} {m b0 k:Nat} {e:TypeId} {enc:α→List Value} {v:Value} {xs:List α} (h:Own w b0 e k enc v xs) (hg:w.grownBy w' (some m)) (hm:∀cur te fz,w.heap[m]?≠some (.cells cur te fz)):Own w' b0 e k enc v xs:=
 h.kept' hg (fun j hj hv=>by injection hj with hj;subst hj;obtain⟨cur,hc⟩:=bD h hv;exact hm _ _ _ hc)
theorem aF.qJ {w:World} {g:Nat} {t te:TypeId} {cs cur:Array Value} {fz:Nat×Nat} (h:aF w g t cs) (hc:w.heap[g]? = some (.cells cur te fz)):te=t:=by
 unfold aF at h;rw[h] at hc;simp only[Option.some.injEq,Obj.cells.injEq] at hc;exact hc.2.1.symm
theorem aF.KX {w:World} {g g':Nat} {t t':TypeId} {cs cs':Array Value} (h:aF w g t cs) (h':aF w g' t' cs') (hn:t≠t'):g≠g':=fun e=>by subst e;exact hn (h'.qJ h)
theorem Own.zL {α:Type} {w:World} {base k m c:Nat} {e:TypeId} {enc:α→List Value} {A:Option Addr} {xs:List α} (h:Own w base e k enc (.slice A m c) xs) (hk:∀x,(enc x).length=k):cu w k enc A m xs:=by
 obtain⟨A',c',he,-,-,hX⟩:=h.arr hk;simp only[Value.slice.injEq] at he;obtain⟨rfl,rfl,rfl⟩:=he;exact hX
theorem aaL (x:dH):(sG x).length=6:=rfl
theorem Yy {gs:List GX} {x y:GX} (hx:x∈gs):y∈uQ gs x.key y:=List.mem_map.2 ⟨x,hx,by simp⟩
theorem aqR:eX Tryz.prog 53 64 6 96:=eX.mk' (z:=.agg #[.string ⟨#[]⟩,.string ⟨#[]⟩,.int .i64 0,.int .i64 0,.slice none 0 0,.slice none 0 0]) Tryz.underlying53 κ rfl ω
theorem ai2 (x:iC):∀u∈nC x,u.oneCell'=true:=by
 intro u hu;simp only[nC,List.mem_cons,List.not_mem_nil,or_false] at hu;rcases hu with rfl | rfl | rfl | rfl | rfl | rfl <;> rfl
theorem Om (o:Option iC):∃(s1 s2:ByteArray) (n t:Int) (A:Option Addr) (m k:Nat) (A':Option Addr) (m' k':Nat),akA o = #[.string s1,.string s2,.int .i64 n,.int .i64 t,.slice A m k,.slice A' m' k']:=by
 cases o with
 | none=>exact⟨_,_,_,_,_,_,_,_,_,_,rfl⟩
 | some x=>exact⟨_,_,_,_,_,_,_,_,_,_,rfl⟩
theorem lG.push {S:Nat→Prop} {w0 W W1:World} {pc:Array Value} {ge ab:Nat} {now:Int} {oA:Option Addr} {om ok:Nat} {ys:List dH} {g1 g2 g3 g4 g5 g6:Nat} {v v':Value} {ls:List iC} {z:iC} (h:lG S w0 W pc ge ab now oA om ok ys g1 g2 g3 g4 g5 g6 v ls)
 (hO:Own W1 w0.heap.size 64 6 nC v' (ls++[z])) (hg:W.grownBy W1 v.ownBlock) (hz:dX W w0.heap.size z):lG S w0 (W1.setCell ⟨g6,0,none⟩ v') pc ge ab now oA om ok ys g1 g2 g3 g4 g5 g6 v' (ls++[z]):=by
 have hty:∀m,v.ownBlock=some m→w0.heap.size≤m∧∃cs,aF W m 64 cs:=h.o.afJ;have hne:∀{g:Nat} {te:TypeId} {cs:Array Value},aF W g te cs→te≠64→some g≠v.ownBlock:=fun hB h1 e=>by
  obtain⟨cs,h2⟩:=(hty _ e.symm).2;exact hB.KX h2 h1 rfl
 have hOk:∀{α:Type} {k:Nat} {e:TypeId} {enc:α→List Value} {u:Value} {xs:List α},Own W w0.heap.size e k enc u xs→e≠64→Own W1 w0.heap.size e k enc u xs:=fun hO h1=>
  hO.kept' hg (fun j hj hv=>by obtain⟨cs,h2⟩:=(hty j hj).2;exact aV hO h2 h1 hv)
 have b6:=h.b6.aP hg (hne h.b6 δ);have hs:=aj W1 ⟨g6,0,none⟩ v';have Np:∀{g:Nat} {te:TypeId} {cs:Array Value},aF W1 g te cs→te≠53→some g≠some g6:=fun hB h1 e=>by injection e with e;exact hB.KX b6 h1 e
 have apV:∀{α:Type} {k:Nat} {e:TypeId} {enc:α→List Value} {u:Value} {xs:List α},Own W1 w0.heap.size e k enc u xs→e≠53→Own (W1.setCell ⟨g6,0,none⟩ v') w0.heap.size e k enc u xs:=fun hO h1=>
  hO.kept' hs (fun j hj hv=>by injection hj with hj;subst hj;exact aV hO b6 h1 hv)
 have hB:∀{g:Nat} {te:TypeId} {cs:Array Value},aF W g te cs→te≠64→te≠53→aF (W1.setCell ⟨g6,0,none⟩ v') g te cs:=fun hB h1 h2=>(hB.aP hg (hne hB h1)).aP hs (Np (hB.aP hg (hne hB h1)) h2)
 have hL:∀x,dX W w0.heap.size x→dX (W1.setCell ⟨g6,0,none⟩ v') w0.heap.size x:=fun x hx=>(hx.row hg (fun m hm cur te fz hc=>by obtain⟨cs,h2⟩:=(hty m hm).2;rw[h2.qJ hc];constructor <;> decide)).row hs (fun m hm cur te fz hc=>by injection hm with hm;subst hm;rw[b6.qJ hc];constructor <;> decide)
 refine⟨(h.off.next hg (fun m hm=> .inr (hty m hm).1)).next hs (fun m hm=>by injection hm with hm;subst hm;exact .inr h.g6n),hB h.b1 δ δ,hB h.b2 δ δ,hB h.b3 δ δ,hB h.b4 δ δ,hB h.b5 δ δ,(b6.aW 0 v').cast σ,h.g6n,apV (hOk h.own δ) δ,apV hO δ,fun x hx=> ?_⟩;rcases List.mem_append.1 hx with h1 | h1
 ·exact hL x (h.outs x h1)
 ·rw[List.mem_singleton] at h1;subst h1;exact hL _ hz
theorem Wh {S:Nat→Prop} {w0 W W1:World} {pc:Array Value} {ge ab:Nat} {now:Int} {oA:Option Addr} {om ok:Nat} {ys:List dH} {g1 g2 g3 g4 g5 g6:Nat} {v:Value} {ls:List iC} (h:lG S w0 W pc ge ab now oA om ok ys g1 g2 g3 g4 g5 g6 v ls) (hg:W.grownBy W1 v.ownBlock) (v':Value) :
 (∀m,v.ownBlock=some m→∀cur te fz,W.heap[m]? = some (.cells cur te fz)→te=64)∧(∀m,some g6=some m→∀cur te fz,W1.heap[m]? = some (.cells cur te fz)→te=53)∧W1.grownBy (W1.setCell ⟨g6,0,none⟩ v') (some g6)∧
 (∀m,(∀cur te fz,W.heap[m]?≠some (.cells cur te fz))→some m≠v.ownBlock)∧(∀m,m < W.heap.size→(∀cur te fz,W.heap[m]?≠some (.cells cur te fz))→some m≠some g6):=by
 have hty:∀m,v.ownBlock=some m→w0.heap.size≤m∧∃cs,aF W m 64 cs:=h.o.afJ;refine⟨fun m hm cur te fz hc=> ?_,fun m hm cur te fz hc=> ?_,aj _ _ _,fun m hm e=> ?_,fun m _ hm e=> ?_⟩
 ·obtain⟨cs,h2⟩:=(hty m hm).2;exact h2.qJ hc
 ·injection hm with hm;subst hm
  exact (h.b6.aP hg (fun e=>by obtain⟨cs,h2⟩:=(hty _ e.symm).2;exact h.b6.KX h2 δ rfl)).qJ hc
 ·obtain⟨cs,h2⟩:=(hty m e.symm).2;exact hm _ _ _ h2
 ·injection e with e;subst e;exact hm _ _ _ h.b6
theorem abS {mk:kS→Int→Option KT} {p:jo} {now:Int} {gs:List (List UInt8×vV)} {asked:List (List UInt8)} {lt:List KT} {xr xk:Nat} {EH:List bK} {jG:List Nat} {k:List UInt8} {g:vV} (Du:cZ xr EH=k) (h2:(sD gs k).getD (Qb p xr)=g) :
 KI mk p now ⟨gs,asked,lt⟩ ⟨xr,EH,xk,jG⟩=⟨nZ gs k (RS g now jG),asked++[k],if y9 g.iR now jG then lt++(mk ⟨xr,EH,xk,jG⟩ ((g.number:Int)+1)).toList else lt⟩:=by
 subst Du;rw[←h2];rfl
theorem oK {mk:kS→Int→Option KT} {p:aY} {S:Nat→Prop} {w0 W W':World} {base:Nat} {rec:List UInt8} {ge b ab B:Nat} {now:Int} {oA:Option Addr} {om ok:Nat} {ys:List dH} {g1 g2 g3 g4 g5 g6:Nat} {gs gs':List GX} {asked:List (List UInt8)} {v':Value} {ls M_:List iC} {xr xk:Nat} {EH:List bK} {jG:List Nat} {k:List UInt8} {g:vV} (Du:cZ xr EH=k) (h2:(sD (dK gs) k).getD (Qb p.aU xr)=g)
 (zU:lG S w0 W' p.cells.toArray ge ab now oA om ok ys g1 g2 g3 g4 g5 g6 v' M_) (hE:dG W' base ge b rec now (B+1) gs') (Iz:sN S w0 gs') (hA:lZ W' ab (B+1) (asked++[k])) (hll:M_.length≤B+1) (hT:qM abT W W')
 (kU:dK gs'=nZ (dK gs) k (RS g now jG)) (hls:M_.map (·.I4)=if y9 g.iR now jG then ls.map (·.I4)++(mk ⟨xr,EH,xk,jG⟩ ((g.number:Int)+1)).toList else ls.map (·.I4)) :
 Zg mk p S w0 W base rec ge b ab B now oA om ok ys g1 g2 g3 g4 g5 g6 gs asked ls ⟨xr,EH,xk,jG⟩ (.returned (.tuple #[])) W':=by
 have hp:=abS (mk:=mk) (p:=p.aU) (now:=now) (asked:=asked) (lt:=ls.map (·.I4)) (xk:=xk) (jG:=jG) Du h2;refine⟨rfl,gs',v',M_,zU,hE,Iz,by simp only[Du];exact hA,hll,hT,?_,?_⟩
 ·rw[hp];exact kU
 ·rw[hp];exact hls
theorem NU {n B:Nat} (h:n≤B) (hB:B+1≤1000000):wrap64 ((n:Int)+1)=(n:Int)+1:=Go.IntWalk.wrap64_in _ ⟨ω,ω⟩
theorem afA {x:GX} {n B:Nat} (h:x.g.number=n) (hn:n≤B):x.g.number+1≤B+1:=ω
theorem dG.count {S:Nat→Prop} {w0 w:World} {base ge b B:Nat} {rec:List UInt8} {now:Int} {gs:List GX} (h:dG w base ge b rec now B gs) (hN:sN S w0 gs) {x:GX} (hx:x∈gs) (hn:x.g.number+1≤B) :
 ∃gs',dG (w.setCell ⟨x.gb,8,none⟩ (.int .i64 ((x.g.number:Int)+1))) base ge b rec now B gs'∧sN S w0 gs'∧dK gs'=nZ (dK gs) x.key {x.g with number:=x.g.number+1}:=by
 have hg:=aj w ⟨x.gb,8,none⟩ (.int .i64 ((x.g.number:Int)+1));have hx1:=h.at_ x hx;have hy:sO (w.setCell ⟨x.gb,8,none⟩ (.int .i64 ((x.g.number:Int)+1))) base {x with g:={x.g with number:=x.g.number+1}}:=
  ⟨(hx1.blk.aW 8 _).cast (by unfold IC;simp),hx1.iR.aP hg (fun e=>by injection e with e;exact hx1.iR.blk.KX hx1.blk δ e) (fun m hm cur te fz hc=>by injection hm with hm;subst hm;rw[hx1.blk.qJ hc];decide),hx1.gge,hx1.cge,hx1.kl⟩
 exact⟨_,h.upd (y:={x with g:={x.g with number:=x.g.number+1}}) hx hg (.inl rfl) hy rfl rfl rfl hn (h.iR x hx) (Nat.le_refl _),hN.upd hx rfl rfl,Js h.nd hx rfl⟩
theorem UY {S:Nat→Prop} {w0 W0 W W1:World} {pc:Array Value} {base ge b ab B':Nat} {rec:List UInt8} {now:Int} {oA:Option Addr} {om ok:Nat} {ys:List dH} {g1 g2 g3 g4 g5 g6:Nat} {v v':Value} {ls:List iC} {z:iC} {gs:List GX} {asked:List (List UInt8)}
 (h:lG S w0 W pc ge ab now oA om ok ys g1 g2 g3 g4 g5 g6 v ls) (hE:dG W base ge b rec now B' gs) (hA:lZ W ab B' asked) (hT:qM abT W0 W) (hO:Own W1 w0.heap.size 64 6 nC v' (ls++[z])) (hg:W.grownBy W1 v.ownBlock) (hz:dX W w0.heap.size z) :
 lG S w0 (W1.setCell ⟨g6,0,none⟩ v') pc ge ab now oA om ok ys g1 g2 g3 g4 g5 g6 v' (ls++[z])∧dG (W1.setCell ⟨g6,0,none⟩ v') base ge b rec now B' gs∧lZ (W1.setCell ⟨g6,0,none⟩ v') ab B' asked∧qM abT W0 (W1.setCell ⟨g6,0,none⟩ v'):=by
 obtain⟨t1,t2,hs,t3,t4⟩:=Wh h hg v';obtain⟨n,-,hM⟩:=hE.map;have AQ:ab<W.heap.size:=by obtain⟨n2,-,h2⟩:=hA;exact World.ownsMap.lt h2
 refine⟨h.push hO hg hz,(hE.other hg (t3 b hM.bg) (fun m hm cur te fz hc=>by rw[t1 m hm cur te fz hc];decide)).other hs (t4 b hM.lt hM.bg) (fun m hm cur te fz hc=>by rw[t2 m hm cur te fz hc];decide),
  (hA.kept hg (t3 ab hA.bg)).kept hs (t4 ab AQ hA.bg),hT.trans ((qM.row hg (fun m hm cur te fz hc=>by rw[t1 m hm cur te fz hc];decide)).trans (qM.row hs (fun m hm cur te fz hc=>by rw[t2 m hm cur te fz hc];decide)))⟩
structure af2 (p:aY) (ys:List dH) (W:World):Prop where
 aU:p.At W
 at_:∀y∈ys,y.At W
 lib:lT W
 utf:lS W
theorem yx (a b:List UInt8):(Lit.string a).sameKey (.string b)=decide (a = b):=by
 by_cases h:a = b
 ·subst h;rw[WideAt.sameKey_self (vF _)];simp
 ·rw[Maps.sameKey_ne (fun e=>h (Lit.string.inj e))];simp[h]
theorem keyOf_str {key:Value} {kl:Lit} (h:keyOf Tryz.prog 9 key=some kl):∃s:List UInt8,key=.string ⟨s.toArray⟩∧kl=.string s:=by
 have hu:=Tryz.underlying9;cases key <;> simp[keyOf,hu,mapKey] at h
 rename_i s;obtain⟨h1,rfl⟩:=h;refine⟨s.data.toList,by cases s;rfl,?_⟩;try rfl
def xK (p:jo) (left:Lit→Bool) (x:GX):Bool:=left (.string x.key)||qK p x.g
theorem aif {gs:List GX} (hn:(gs.map (·.key)).Nodup) {x:GX} (hx:x∈gs):eG (lY gs) x.key=some x.gb:=
 rX (by unfold lY;rw[List.map_map];exact hn) (List.mem_map.2 ⟨x,hx,rfl⟩)
theorem YP {D:DataW Unit} {gs:List GX} (h:xP D (lY gs)) (hn:(gs.map (·.key)).Nodup) {x:GX} (hx:x∈gs):Maps.has D (.string x.key)=true:=by
 rw[h.has,aif hn hx];rfl
theorem W9 {D:DataW Unit} {gs:List GX} (h:xP D (lY gs)) (hn:(gs.map (·.key)).Nodup) (p:jo):gs.filter (xK p (Maps.has D))=gs:=by
 rw[List.filter_eq_self];intro x hx;unfold xK;rw[YP h hn hx];rfl
theorem adS {left:Lit→Bool} (h:∀kl,left kl=false) (p:jo) (gs:List GX):gs.filter (xK p left)=gs.filter fun x=>qK p x.g:=by
 congr 1
 funext x
 unfold xK;rw[h];rfl
theorem aau {gs:List GX} (hn:(gs.map (·.key)).Nodup) {p:jo} {left:Lit→Bool} {x:GX} (hx:x∈gs) (hs:qK p x.g = true):gs.filter (xK p fun z=>left z && !z.sameKey (.string x.key))=gs.filter (xK p left):=by
 apply List.filter_congr;intro y hy;unfold xK;simp only[yx];by_cases e:y.key=x.key
 ·rw[oq hn hy hx e,hs];simp
 ·simp[e]
theorem aav {gs:List GX} (hn:(gs.map (·.key)).Nodup) {p:jo} {left:Lit→Bool} {x:GX} (hx:x∈gs) (hs:qK p x.g = false) :
 gs.filter (xK p fun z=>left z && !z.sameKey (.string x.key))=(gs.filter (xK p left)).filter fun y=>decide (y.key≠x.key):=by
 rw[List.filter_filter];apply List.filter_congr;intro y hy;unfold xK;simp only[yx];by_cases e:y.key=x.key
 ·rw[oq hn hy hx e,hs];simp
 ·simp[e]
theorem aa7 (gs:List GX) (s:List UInt8):lY (gs.filter fun y=>decide (y.key≠s))=(lY gs).filter fun x=>decide (x.1≠s):=by
 unfold lY;rw[List.filter_map];rfl
theorem ae7 {gs:List GX} (hn:(gs.map (·.key)).Nodup):((lY gs).map (·.1)).Nodup:=by unfold lY;rw[List.map_map];exact hn
theorem dG.drop {w w':World} {base ge b B:Nat} {rec:List UInt8} {now:Int} {gs:List GX} (h:dG w base ge b rec now B gs) (hg:w.grownBy w' (some b)) {q:GX→Bool} (hM:∃n,n≤B∧qI w' b n (lY (gs.filter q))):dG w' base ge b rec now B (gs.filter q):=by
 obtain⟨n0,-,hM0⟩:=h.map;have hne:∀(g:Nat) te cs,aF w g te cs→some g≠some b:=fun g te cs hB e=>by injection e with e;subst e;exact hM0.bg _ _ _ hB
 have hs:∀x,x∈gs.filter q→x∈gs:=fun x hx=>(List.mem_filter.1 hx).1
 exact⟨h.blk.aP hg (hne _ _ _ h.blk),hM,List.Nodup.sublist (List.filter_sublist.map _) h.nd,List.Nodup.sublist (List.filter_sublist.map _) h.gnd,List.Nodup.sublist (List.filter_sublist.map _) h.cnd,
  fun x hx=>(h.at_ x (hs x hx)).aP hg (hne _ _ _ (h.at_ x (hs x hx)).blk) (hne _ _ _ (h.at_ x (hs x hx)).iR.blk) (fun m hm cur te fz hc=>by injection hm with hm;subst hm;exact (hM0.bg _ _ _ hc).elim),
  fun x hx=>h.num x (hs x hx),fun x hx=>h.iR x (hs x hx),h.ege,h.bge⟩
theorem aa2 (gs:List GX) (p:jo):dK (gs.filter fun x=>qK p x.g)=(dK gs).filter fun x=>qK p x.2:=by
 unfold dK;rw[List.filter_map];rfl
def Kv (left:Lit→Bool) (asked:List (List UInt8)) (now:Int) (x:List UInt8×vV):List UInt8×vV:=if left (.string x.1) then x else yX asked now x
theorem afq (asked:List (List UInt8)) (now:Int) (x:List UInt8×vV):(yX asked now x).1=x.1:=by unfold yX;split <;> rfl
theorem afo (left:Lit→Bool) (asked:List (List UInt8)) (now:Int) (x:List UInt8×vV):(Kv left asked now x).1=x.1:=by unfold Kv;split <;> first | rfl | exact afq _ _ _
theorem abv {L:List (List UInt8×vV)} {left:Lit→Bool} {asked:List (List UInt8)} {now:Int} {s:List UInt8} (hl:left (.string s)=true) :
 L.map (Kv (fun z=>left z && !z.sameKey (.string s)) asked now)=(L.map (Kv left asked now)).map fun z=>if z.1=s then yX asked now z else z:=by
 rw[List.map_map];apply List.map_congr_left;intro z _;simp only[Function.comp_apply,afo];unfold Kv;simp only[yx];by_cases e:z.1=s
 ·subst e;simp[hl]
 ·simp[e]
theorem XV {L:List (List UInt8×vV)} {asked:List (List UInt8)} {now:Int} {s:List UInt8} (h:s∈asked):(L.map fun z=>if z.1=s then yX asked now z else z)=L:=by
 conv=>rhs;rw[←List.map_id L]
 apply List.map_congr_left;intro z _;by_cases e:z.1=s
 ·rw[if_pos e];unfold yX;rw[if_pos (by rw[e];exact h)];rfl
 ·rw[if_neg e];rfl
theorem afn {gs:List GX} (hn:(gs.map (·.key)).Nodup) {x y:GX} {asked:List (List UInt8)} {now:Int} (hx:x∈gs) (hk:y.key=x.key) (hg:y.g = {x.g with iR:=zJ x.g.iR now []}) (ha:x.key∉asked) :
 dK (uQ gs x.key y)=(dK gs).map fun z=>if z.1=x.key then yX asked now z else z:=by
 unfold uQ dK;rw[List.map_map,List.map_map];apply List.map_congr_left;intro z hz;simp only[Function.comp_apply];by_cases e:z.key=x.key
 ·obtain rfl:=oq hn hz hx e;rw[if_pos rfl,if_pos rfl];unfold yX;rw[if_neg ha,hk,hg]
 ·rw[if_neg e,if_neg e]
theorem XU {D:DataW Unit} {gs:List GX} (h:xP D (lY gs)) (hn:(gs.map (·.key)).Nodup) (asked:List (List UInt8)) (now:Int):dK gs=(dK gs).map (Kv (Maps.has D) asked now):=by
 conv=>lhs;rw[←List.map_id (dK gs)]
 apply List.map_congr_left;intro z hz;obtain⟨x,hx,rfl⟩:=List.mem_map.1 hz;unfold Kv;rw[if_pos (YP h hn hx)];rfl
theorem afp {left:Lit→Bool} (h:∀kl,left kl=false) (L:List (List UInt8×vV)) (asked:List (List UInt8)) (now:Int):L.map (Kv left asked now)=L.map (yX asked now):=by
 apply List.map_congr_left;intro z _;unfold Kv;rw[h];rfl
theorem lW {w:World} {k:TypeId} {R:Value→Option (DataW Unit×List MemPlace)} {b r n:Nat} {D:DataW Unit} {left:Lit→Bool} {cnt:Nat} (h:w.ranges Tryz.prog k R b r n D left cnt):∀cur e fz,w.heap[r]?≠some (.cells cur e fz):=by
 obtain⟨es,clock,since,seen,c0,_,_,_,_,hr,_⟩:=h;intro cur e fz hc;rw[hr] at hc;cases hc
theorem str_inj {a b:List UInt8} (h:Value.string ⟨a.toArray⟩=Value.string ⟨b.toArray⟩):a = b:=by
 injection h with h
 injection h with h
 simpa using congrArg Array.toList h
def Zo (b r:Nat) (k:Nat):Prop:=k=b∨k=r
theorem afg {p:aY} {base ge b B r n g1 g2:Nat} {rec:List UInt8} {now:Int} {gs:List GX} {D:DataW Unit} {wS:World} {Q0:Exit→Act→World→Prop} {x0 x1 x2 x3 x4 x7 x8 x9 Iq Ip BJ Gp C9 Hw Ac ER EP BH EO BG CZ CY CX Aa z_ zZ BF BD BA Bz Bv Bq Bo Bl Bj Bh Bg Bf CW CV CS CQ CP CO CJ CG CB Cm Cj Ci Ce Gn EM Ew Bd Cc Cb Gm Gl Gj Eu Et Es Ep Eo En Em Ej EL EK EJ Ei Eh Ef Ee Ed Ec Eb Ea D_ Hu Ht Hr EI D9 B_ BX BU BR BP IU IQ Gi Gh Jh Hq Ho qC qB qA qy qx qw qp qo qm qj qh qg rG qO:Value}
 (hp:Hid (∀W,nR (Zo b r) wS W→p.At W)) (hb1:Hid (aF wS g1 51 #[.pointer (some ⟨ge,0,none⟩)])) (hb2:Hid (aF wS g2 50 p.cells.toArray)) (hE:Hid (dG wS base ge b rec now B gs)) (hrg0:wS.ranges Tryz.prog 9 uY b r n D (Maps.has D) (Maps.size D)) (hD0:Hid (xP D (lY gs))) (hn:n≤B) (hbn:∀cur te fz,wS.heap[b]?≠some (.cells cur te fz))
 (YR:∀c a d v w,Q0 (.panic c) (Act.put a d v) w→Q0 (.panic c) a w)
 (pV:∀(u13 u14 u41 u42 u43 u44 u45 u46 u47 u48 u49 u50 u51 u52 u53 u54:Value) (wr:World),(Hid (nR (Zo b r) wS wr)∧Hid (dG wr base ge b rec now B (gs.filter fun x=>qK p.aU x.g)))→Q0 (.exit 0) ⟨(x0::x1::x2::x3::x4::(.pointer (some ⟨g1,0,none⟩))::(.pointer (some ⟨g2,0,none⟩))::x7::x8::x9::Iq::Ip::BJ::u13::u14::Hw::Ac::ER::EP::BH::EO::BG::CZ::CY::CX::Aa::z_::zZ::BF::BD::BA::Bz::Bv::Bq::Bo::Bl::Bj::Bh::Bg::Bf::(.pointer (some ⟨r,0,none⟩))::u41::u42::u43::u44::u45::u46::u47::u48::u49::u50::u51::u52::u53::u54::EM::Ew::Bd::Cc::Cb::Gm::Gl::Gj::Eu::Et::Es::Ep::Eo::En::Em::Ej::EL::EK::EJ::Ei::Eh::Ef::Ee::Ed::Ec::Eb::Ea::D_::Hu::Ht::Hr::EI::D9::B_::BX::BU::BR::BP::IU::IQ::Gi::Gh::Jh::Hq::Ho::qC::qB::qA::qy::qx::qw::qp::qo::qm::qj::qh::qg::rG::qO::[]).toArray,[]⟩ wr) :
 Code.wp Tryz.prog (wO Tryz.f13 0) Q0 ⟨(x0::x1::x2::x3::x4::(.pointer (some ⟨g1,0,none⟩))::(.pointer (some ⟨g2,0,none⟩))::x7::x8::x9::Iq::Ip::BJ::Gp::C9::Hw::Ac::ER::EP::BH::EO::BG::CZ::CY::CX::Aa::z_::zZ::BF::BD::BA::Bz::Bv::Bq::Bo::Bl::Bj::Bh::Bg::Bf::(.pointer (some ⟨r,0,none⟩))::CW::CV::CS::CQ::CP::CO::CJ::CG::CB::Cm::Cj::Ci::Ce::Gn::EM::Ew::Bd::Cc::Cb::Gm::Gl::Gj::Eu::Et::Es::Ep::Eo::En::Em::Ej::EL::EK::EJ::Ei::Eh::Ef::Ee::Ed::Ec::Eb::Ea::D_::Hu::Ht::Hr::EI::D9::B_::BX::BU::BR::BP::IU::IQ::Gi::Gh::Jh::Hq::Ho::qC::qB::qA::qy::qx::qw::qp::qo::qm::qj::qh::qg::rG::qO::[]).toArray,[]⟩ wS:=by
 conv=>arg 2;whnf
 have hqz:=YR;clear hqz;have YK:=ζ hE.o.nd;have hri:=lW hrg0;have TA:∀{g:Nat} {te:TypeId} {cs:Array Value},aF wS g te cs→¬Zo b r g:=fun hB h=>by
  rcases h with rfl | rfl
  ·exact hbn _ _ _ hB
  ·exact hri _ _ _ hB
 have hn1:=TA hb1.o;have Vb:=TA hb2.o;have GR:=W9 hD0.o hE.o.nd p.aU;clear TA;replace hri:=ζ hri;replace hbn:=ζ hbn;go_loopw [13,14] (fun _ _ wr=>∃(left:Lit→Bool) (cnt:Nat) (D':DataW Unit),wr.ranges Tryz.prog 9 uY b r n D' left cnt∧Hid (xP D' (lY (gs.filter (xK p.aU left))))∧Hid (dG wr base ge b rec now B (gs.filter (xK p.aU left)))∧Hid (nR (Zo b r) wS wr)) (fun _ _ wr=>wr.rangeLeft b r)
 case atStart=>exact⟨_,_,D,hrg0,by rw[GR];exact hD0,by rw[GR];exact hE,ζ (nR.refl _ _)⟩
 case round=>
  obtain⟨left,cnt,D',hrg,hD,YU,OI⟩:=hrel;go_wp2_with (first
   | (at_next;refine wpList_next_ranges _ rfl _ rfl 9 wU uY (fun s:List UInt8=>Value.string ⟨s.toArray⟩) P9 (fun key kl hkey=>by obtain⟨s,rfl,_⟩:=keyOf_str hkey;exact⟨s,rfl⟩) (fun v y hv=>E5 hv) b r n _ _ _ rfl hrg ?_ ?_)
   | go_in)
  ·intro _ hl0;have aO:Hid (dG wr base ge b rec now B (gs.filter fun x=>qK p.aU x.g)):=ζ (by rw[←adS hl0];exact YU.o);clear hrg hD YU hl0;go_wp2;first
    | exact⟨OI,aO⟩
    | exact pV _ _ _ _ _ _ _ _ _ _ _ _ _ _ _ _ ⟨OI,aO⟩
  ·intro x c kl yd yp w3 ais hkey hlk hv hat hrg3 hlt hg3 hs3 hen;obtain⟨s,e1,rfl⟩:=keyOf_str hkey;obtain rfl:x = s:=str_inj e1;rw[uX] at hv;simp only[Option.some.injEq,Prod.mk.injEq] at hv;obtain⟨gb,rfl,uf⟩:=hD.o.entry (s:=x) (o:=c) (fun zd=>by rw[hat zd,←hv.1]);obtain⟨y,xO,Tn,rfl⟩:=JD uf;have akG:=(List.mem_filter.1 xO).1;have Qs:∀cur te fz,wr.heap[r]?≠some (.cells cur te fz):=lW hrg;have EC:=YU.o.other hg3 (fun e=>by injection e with e;exact hrg.ne e.symm) (fun m hm cur te fz hc=>by injection hm with hm;subst hm;exact (Qs _ _ _ hc).elim);have iM:=OI.o.next hg3 (fun k hk=>by injection hk with hk;subst hk;exact .inl (.inr rfl));have Rt:=EC.at_ y xO;have cS:=ζ (fun W (hW:ah w3 W)=>adg (g:=y.g) W (hp.o W (iM.eP hW)) (Rt.blk.grows hW));have b1:=iM.blk hb1.o hn1;have b2:=iM.blk hb2.o Vb;have q1:=b1.c0;have Yt:=b1.lt;have p0:=b2.c0;have p1:=b2.c1;have p2:=b2.c2;have p3:=b2.c3;have p4:=b2.c4;have p5:=b2.c5;have p2l:=b2.lt;unfold aY.val at cS;replace iM:=ζ iM;replace EC:=ζ EC;have hks:=ζ (fun h=>aau (left:=left) YK.o akG (p:=p.aU) h);have hkd:=ζ (fun h=>aav (left:=left) YK.o akG (p:=p.aU) h);rw[Tn] at hks hkd;simp only[P9,Option.map_some] at hen ⊢;generalize hSR:qK p.aU y.g = SR at cS hks hkd;clear hat hv uf e1 YU OI hg3 hs3 b1 b2 Qs Rt hSR GR hlk akG;go_wp2_with fail;refine (cS.out _ (ah.refl w3)).mono ?_;rintro e w4 ⟨rfl,hb4⟩;have ahA:=hrg3.kept (hb4.keeps none) σ σ;have hE4:=ζ (EC.o.grows hb4);have kF:=ζ (iM.o.eP hb4);have q1':=hb4.cell q1;have axi:=Nat.lt_of_lt_of_le Yt hb4.size;have e1:=hE4.o.blk.c1;have e1l:=hE4.o.blk.lt;clear hrg3 EC iM q1 Yt p0 p1 p2 p3 p4 p5 p2l cS hb4;cases SR with
   | true=>
    go_wp2;go_roundw
    case rel=>exact⟨_,ais,D',ahA,ζ (by rw[hks.o σ];exact hD.o),ζ (by rw[hks.o σ];exact hE4.o),kF⟩
    case measure=>
     rw[ahA.left_eq,hrg.left_eq];exact hlt
   | false=>
    go_wp2_with (first
     | (at_delete;refine wpList_delete_ranges _ rfl _ _ _ _ rfl _ wU Tryz.underlying116 uY b r n _ _ _ rfl ahA (.string ⟨x.toArray⟩) (.string x) rfl hkey ?_;intro w5 azO Xl hle hturn)
     | go_in)
    go_simp;go_roundw
    case rel=>
     rw[Maps.strike_twice] at Xl;have hD5:=hD.o.del (ahA.owns.tidy wU) (ae7 hE4.o.nd) x;rw[←aa7,←hkd.o σ] at hD5;have Ub:=hE4.o.drop (q:=fun y=>decide (y.key≠x)) hturn.grown ⟨n,hn,_,Xl.owns,by rw[←hkd.o σ];exact hD5⟩;rw[←hkd.o σ] at Ub;exact⟨_,_,_,Xl,ζ hD5,ζ Ub,ζ (kF.o.next hturn.grown (fun k hk=>by injection hk with hk;subst hk;exact .inl (.inl rfl)))⟩
    case measure=>
     rw[Xl.left_eq,hrg.left_eq];omega
end Go.Proofs.YtbhikkgpcmkonaaGreatDoor
