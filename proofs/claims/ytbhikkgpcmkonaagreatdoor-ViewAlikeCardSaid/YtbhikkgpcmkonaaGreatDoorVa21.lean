/- Parts: LetE EngA InhI EngB -/
import Derived.Test.YtbhikkgpcmkonaaGreatDoorVa0
import Derived.Test.YtbhikkgpcmkonaaGreatDoorVa20
import Derived.Test.YtbhikkgpcmkonaaGreatDoorVa9
import Derived.Test.YtbhikkgpcmkonaaGreatDoorVa17
import Derived.Test.YtbhikkgpcmkonaaGreatDoorVa16
set_option maxRecDepth 100000
set_option maxHeartbeats 12800000
namespace Go.Proofs.YtbhikkgpcmkonaaGreatDoor
open Go.RowKit
theorem aA9:eX Tryz.prog 62 65 3 40:=eX.mk' (z:=.agg #[.int .u64 0,.bool false,.slice none 0 0]) Tryz.underlying62 κ rfl ω
theorem hkT (x:nH):(Yr x).length=3:=rfl
theorem atE (x:nH):∀u∈Yr x,u.oneCell'=true:=by intro u hu;simp[Yr] at hu;rcases hu with rfl | rfl | rfl <;> rfl
theorem qZ.row {α:Type} {w w':World} {base b k:Nat} {x:nH} {t:TypeId} {enc:α→List Value} {v:Value} {ys:List α} (h:qZ w base x) (hO:Own w b t k enc v ys) (ht:88≠t) (hg:w.grownBy w' v.ownBlock):qZ w' base x:=
 h.fH hg (fun j hj=>by obtain⟨cur,hc⟩:=bV hO hj;exact aZ h.1 hc ht)
structure dF (w:World) (base:Nat) (x:fG):Prop where
 fH:Own w base 88 2 dW (.slice x.bA x.bm x.bk) x.fH
 ts:Own w base 65 3 Yr (.slice x.tA x.tl x.tk) x.ts
 at_:∀y∈x.ts,qZ w base y
 ble:x.bm≤1000
 RD:∀f∈x.fH,f.v.length≤1000000
 tle:x.tl≤1000
theorem dF.grows {w w':World} {base:Nat} {x:fG} (h:dF w base x) (hg:ah w w'):dF w' base x:=⟨h.fH.grows hg,h.ts.grows hg,fun y hy=>(h.at_ y hy).grows hg,h.ble,h.RD,h.tle⟩
theorem dF.bJ {w:World} {base b:Nat} {x:fG} (h:dF w base x) (hb:b≤base):dF w b x:=⟨h.fH.bJ hb,h.ts.bJ hb,fun y hy=>(h.at_ y hy).bJ hb,h.ble,h.RD,h.tle⟩
theorem dF.aO {w w':World} {base g:Nat} {x:fG} {t:TypeId} {cur:Array Value} {fz:Nat×Nat} (h:dF w base x) (hc:w.heap[g]? = some (.cells cur t fz)) (h1:88≠t) (h2:65≠t) (hg:w.grownBy w' (some g)):dF w' base x:=
 ⟨h.fH.kept' hg (fun j hj=>by injection hj with hj;subst hj;exact aZ h.fH hc h1),h.ts.kept' hg (fun j hj=>by injection hj with hj;subst hj;exact aZ h.ts hc h2),
  fun y hy=>(h.at_ y hy).fH hg (fun j hj=>by injection hj with hj;subst hj;exact aZ (h.at_ y hy).1 hc h1),h.ble,h.RD,h.tle⟩
theorem dF.far {w:World} {base g i:Nat} {x:fG} {t:TypeId} {cs:Array Value} (h:dF w base x) (hB:aF w g t cs) (h1:88≠t) (h2:65≠t) (u:Value):dF (w.setCell ⟨g,i,none⟩ u) base x:=h.aO hB h1 h2 (aj w ⟨g,i,none⟩ u)
theorem dF.good {w:World} {base:Nat} {x:fG} (h:dF w base x):x.At w:=by
 obtain⟨A,c,hv,-,-,hX⟩:=h.fH.arr IZ;injection hv with h1 h2 h3
 obtain⟨A',c',hv',-,-,hX'⟩:=h.ts.arr hkT;injection hv' with h1' h2' h3'
 exact⟨by rw[h1,h2];exact hX,h.ble,h.RD,by rw[h1',h2'];exact hX',h.tle,fun y hy=>(h.at_ y hy).at_⟩
def lF:Array Value:= #[.string ⟨#[]⟩,.string ⟨#[]⟩,.int .i64 0,.int .i64 0,.slice none 0 0,.slice none 0 0]
def apB (o:Option fG):Array Value:=match o with
 | none=>lF
 | some x=> #[.string ⟨x.rc.toArray⟩,.string ⟨x.gr.toArray⟩,.int .i64 x.n,.int .i64 x.tm,.slice x.bA x.bm x.bk,.slice x.tA x.tl x.tk]
theorem Ag {w wM:World} {g:Nat} (hZ:aF wM g 64 lF) (hG:ah w wM) (qA:w.heap.size≤g) (u0 u1 u2 u3 u4 u5:Value) :
 aF ((((((wM.setCell ⟨g,0,none⟩ u0).setCell ⟨g,1,none⟩ u1).setCell ⟨g,2,none⟩ u2).setCell ⟨g,3,none⟩ u3).setCell ⟨g,4,none⟩ u4).setCell ⟨g,5,none⟩ u5) g 64 #[u0,u1,u2,u3,u4,u5]∧
 ah w ((((((wM.setCell ⟨g,0,none⟩ u0).setCell ⟨g,1,none⟩ u1).setCell ⟨g,2,none⟩ u2).setCell ⟨g,3,none⟩ u3).setCell ⟨g,4,none⟩ u4).setCell ⟨g,5,none⟩ u5)∧
 ∀x b,dF wM b x→dF ((((((wM.setCell ⟨g,0,none⟩ u0).setCell ⟨g,1,none⟩ u1).setCell ⟨g,2,none⟩ u2).setCell ⟨g,3,none⟩ u3).setCell ⟨g,4,none⟩ u4).setCell ⟨g,5,none⟩ u5) b x:=by
 have h0:=hZ.bD 0 u0;have h1:=h0.bD 1 u1;have h2:=h1.bD 2 u2;have h3:=h2.bD 3 u3;have h4:=h3.bD 4 u4;have h5:=h4.bD 5 u5;refine⟨h5.cast (by simp[lF]),?_,fun x b hO=>(((((hO.far hZ δ δ _).far h0 δ δ _).far h1 δ δ _).far h2 δ δ _).far h3 δ δ _).far h4 δ δ _⟩;exact ah.setCell (ah.setCell (ah.setCell (ah.setCell (ah.setCell (ah.setCell hG (p:=⟨g,0,none⟩) qA _) (p:=⟨g,1,none⟩) qA _) (p:=⟨g,2,none⟩) qA _) (p:=⟨g,3,none⟩) qA _) (p:=⟨g,4,none⟩) qA _) (p:=⟨g,5,none⟩) qA _
theorem acJ {α:Type} {wM:World} {g b k:Nat} {t:TypeId} {enc:α→List Value} {v:Value} {xs:List α} {cs:Array Value} (hZ:aF wM g 64 cs) (hO:Own wM b t k enc v xs) (ht:t≠64) (u0 u1 u2 u3 u4 u5:Value) :
 Own ((((((wM.setCell ⟨g,0,none⟩ u0).setCell ⟨g,1,none⟩ u1).setCell ⟨g,2,none⟩ u2).setCell ⟨g,3,none⟩ u3).setCell ⟨g,4,none⟩ u4).setCell ⟨g,5,none⟩ u5) b t k enc v xs:=by
 have step:∀(w:World) (cs:Array Value) (i:Nat) (u:Value),aF w g 64 cs→Own w b t k enc v xs→aF (w.setCell ⟨g,i,none⟩ u) g 64 (cs.setIfInBounds i u)∧Own (w.setCell ⟨g,i,none⟩ u) b t k enc v xs:=fun w cs i u hB hO=>
  ⟨hB.bD i u,hO.kept' (aj w ⟨g,i,none⟩ u) (fun j hj=>by injection hj with hj;subst hj;exact aZ hO hB ht)⟩
 obtain⟨b0,o0⟩:=step _ _ 0 u0 hZ hO;obtain⟨b1,o1⟩:=step _ _ 1 u1 b0 o0;obtain⟨b2,o2⟩:=step _ _ 2 u2 b1 o1;obtain⟨b3,o3⟩:=step _ _ 3 u3 b2 o2;obtain⟨b4,o4⟩:=step _ _ 4 u4 b3 o3;exact (step _ _ 5 u5 b4 o4).2
theorem rO {w:World} {g:Nat} (h:aF w g 64 lF) :
 w.cell? ⟨g,0,none⟩=some (.string ⟨#[]⟩)∧w.cell? ⟨g,1,none⟩=some (.string ⟨#[]⟩)∧w.cell? ⟨g,2,none⟩=some (.int .i64 0)∧w.cell? ⟨g,3,none⟩=some (.int .i64 0)∧w.cell? ⟨g,4,none⟩=some (.slice none 0 0)∧w.cell? ⟨g,5,none⟩=some (.slice none 0 0)∧(∀i,w.frozen? ⟨g,i,none⟩=false)∧g < w.heap.size:=
 ⟨h.cell 0,h.cell 1,h.cell 2,h.cell 3,h.cell 4,h.cell 5,fun i=>h.frozen i,h.lt⟩
def awr (wr:World) (base:Nat) (rc sg:List UInt8) (n tm:Int) (bs:List bK) (f:Nat→Value) (wz:World):Prop:=
 ∃(gL:Nat) (A:Option Addr) (k:Nat),f 14=.pointer (some ⟨gL,0,none⟩)∧aF wz gL 64 #[.string ⟨rc.toArray⟩,.string ⟨sg.toArray⟩,.int .i64 n,.int .i64 tm,.slice A bs.length k,.slice none 0 0]∧
  Own wz base 88 2 dW (.slice A bs.length k) bs∧ah wr wz∧wr.heap.size≤gL
def Y0 (w:World) (L:Option Nj) (e:Ending) (w':World):Prop:=∃o:Option fG,e =.returned (.tuple #[.agg (apB o),.bool o.isSome])∧o.map (·.yc)=L∧(∀x,o = some x→dF w' w.heap.size x)∧ah w w'
theorem Xr {fb:cZ→Bool} {p:bU} {rec:List UInt8} {g:dO} {n now:Int} {lA:Option Addr} {lm lk:Nat} {xs:List dA} (w:World) (hT:oz w) (hp:p.At w) (oO:lQ fb p) (hA:bW w 6 tq lA lm xs) (hat:∀a∈xs,a.At w) (JG:lm≤1000)
 (hgb:bW w 2 dW g.bA g.bm g.fH) (jw:g.bm≤1000) (hgt:∀f∈g.fH,f.v.length≤1000000) (hgi:bW w 1 kK g.iA g.im g.ids) (XU:g.im≤1000) :
 Calls Tryz.prog 47 #[p.val,.string ⟨rec.toArray⟩,Uk g,.slice lA lm lk,.agg #[.int .i64 n,.int .i64 now]] w (Y0 w (jS fb p.aU rec g.g (xs.map (·.a)) n now)):=by
 have cF:=ζ (fun W (hW:ah w W)=>yT (c:=p.r.k) (n:=rec) W (hp.r.arr.keep hW) hp.r.le);have cK:=ζ (fun W (hW:ah w W)=>yV W (hp.keep hW) oO);have cO:=ζ (fun tt (ht:eu p.r.l rec=some tt) (id:Nat) W (hW:ah w W)=>aiB (id:=id) (lk:=lk) (now:=now) W (hp.keep hW) (hA.keep hW) (fun a ha=>(hat a ha).keep hW) JG (show tt.ok by obtain⟨y,hy,rfl⟩:=yS ht;exact hp.r.KC y hy));have cS:=ζ (fun W=>adT (n:=g.key) W);have cC:=ζ (fun W (hW:ah w W)=>O7 (c:=g.bk) W (hgb.keep hW) ω);have cR:=ζ (fun (x:fG) W (hW:ah w W) (hx:x.At W) (h:x.gr.length≤1000000)=>aaM W (hT.grows hW) hx h);have hM:jS fb p.aU rec g.g (xs.map (·.a)) n now=match eu p.r.l rec with
  | none=>none
  | some tt=>if fP fb p.aU=0 then (if t_ ⟨rec,qF g.key,n,now,g.fH,g.ids.filterMap fun id=>DW p.aU (xs.map (·.a)) id tt now⟩ then some ⟨rec,qF g.key,n,now,g.fH,g.ids.filterMap fun id=>DW p.aU (xs.map (·.a)) id tt now⟩ else none) else none:=rfl
 have hbl:=ζ hgb.1;have S_:=ζ hgi.1;replace hgi:=ζ hgi;replace hgt:=ζ hgt;generalize jS fb p.aU rec g.g (xs.map (·.a)) n now=RES at *
 generalize fP fb p.aU=CK at *
 have uf:(qF g.key).length≤1000000:=by unfold qF;rw[X3];unfold mJ;simp
 generalize qF g.key=SG at *
 generalize hpp:DW p.aU (xs.map (·.a))=OT at *
 clear hT hp oO hA hat hgb hpp;obtain⟨gr,gk,I_,gbA,gbm,gbk,VA,giA,gim,gik⟩:=g;unfold bU.val Uk at *
 obtain⟨⟨sl,sA,sm,sk⟩,⟨rl,rA,rm,rk⟩,⟨el,eA,em,ek⟩,⟨al,aA,am,ak⟩,o,oA,om,ok,i,iA,im,ik⟩:=p;simp only at *
 generalize hFL:eu rl rec=FL at *
 replace hM:=ζ hM;clear hFL;go_enter Tryz.func47,Tryz.ntmps47
 go_wp2_with fail;refine (cF.out _ γ).mono ?_;rintro e w1 ⟨rfl,hb1⟩;have bP:aF w1 w.heap.size 50 #[.slice sA sm sk,.slice rA rm rk,.slice eA em ek,.slice aA am ak,.slice oA om ok,.slice iA im ik]:=((((aF.new w _ _).alloc _).alloc _).alloc _).grows hb1;have bG:aF w1 (w.heap.size+1) 125 #[.int .i64 (gr:Int),.slice gbA gbm gbk,.int .u64 (gk:Int),.slice giA gim gik]:=(((aF.kW w _ _ _).alloc _).alloc _).grows hb1;have bN:aF w1 (w.heap.size+1+1) 135 #[.int .i64 n,.int .i64 now]:=((aF.zK w _ _ _ _).alloc _).grows hb1;have bZ:aF w1 (w.heap.size+1+1+1) 64 lF:=(aF.aaA w _ _ _ _ _).grows hb1;have fF:ah w w1:=(((((ah.refl w).alloc _).alloc _).alloc _).alloc _).trans hb1;have hz1:=hb1.size;simp only[World.size_alloc] at hz1;clear hb1 cF;cases FL with
 | none=>
  have Vp:=ζ hM.o;simp only[Option.isSome_none,kN,Option.getD_none] at *
  have hend:=ζ (Ag bZ fF ω);have z0:=bZ.c0;have z1:=bZ.c1;have z2:=bZ.c2;have z3:=bZ.c3;have z4:=bZ.c4;have z5:=bZ.c5;have zf:=fun j=>bZ.frozen j
  have zl:=bZ.lt;clear bP bG bN;go_wp2;obtain⟨n0,n1,-⟩:=hend.o (.string ⟨#[]⟩) (.string ⟨#[]⟩) (.int .i64 0) (.int .i64 0) (.slice none 0 0) (.slice none 0 0);replace n0:=ζ (n0.alloc (.cells #[.int .i64 0,.int .u32 0] 25));replace n1:=ζ (n1.alloc (.cells #[.int .i64 0,.int .u32 0] 25));refine bodyPost_ret (v:=.tuple #[.agg lF,.bool false]) ?_ rfl ⟨none,rfl,Vp.o.symm,(fun x hx=>by cases hx),n1.out⟩;have e0:=n0.out.cell 0;have e1:=n0.out.cell 1;have e2:=n0.out.cell 2;have e3:=n0.out.cell 3;have e4:=n0.out.cell 4;have e5:=n0.out.cell 5;simp only[List.getElem?_toArray,List.getElem?_cons_zero,List.getElem?_cons_succ] at e0 e1 e2 e3 e4 e5;simp[results,Tryz.results47,go_sem,e0,e1,e2,e3,e4,e5,lF]
 | some tt=>
  simp only[Option.isSome_some,kN,Option.getD_some] at *
  have bP2:=bP.alloc (.cells #[.int .i64 tt.lv,.int .u32 (tt.c:Int)] 25);have bG2:=bG.alloc (.cells #[.int .i64 tt.lv,.int .u32 (tt.c:Int)] 25);have bN2:=bN.alloc (.cells #[.int .i64 tt.lv,.int .u32 (tt.c:Int)] 25);have YM:=bZ.alloc (.cells #[.int .i64 tt.lv,.int .u32 (tt.c:Int)] 25);have bL2:=aF.new w1 25 #[.int .i64 tt.lv,.int .u32 (tt.c:Int)];have fQ:=fF.alloc (.cells #[.int .i64 tt.lv,.int .u32 (tt.c:Int)] 25);have p0:=bP.c0;have p1:=bP.c1;have p2:=bP.c2;have p3:=bP.c3;have p4:=bP.c4;have p5:=bP.c5;have pl:=bP.lt;clear bP bG bN bZ fF;go_wp2_with fail;refine (cK.out _ fQ).mono ?_;rintro e w2 ⟨rfl,hb2⟩;replace bP2:=bP2.grows hb2;replace bG2:=bG2.grows hb2;replace bN2:=bN2.grows hb2;replace YM:=YM.grows hb2;replace bL2:=bL2.grows hb2;replace fQ:=fQ.trans hb2;have hz2:=hb2.size;simp only[World.size_alloc] at hz2;obtain⟨gT,Ij⟩:∃gT,gT=w1.heap.size:=⟨_,rfl⟩;rw[←Ij] at bL2 hz1 hz2 ⊢;replace Ij:=ζ Ij;clear hb2 cK p0 p1 p2 p3 p4 p5 pl;by_cases xE:CK=0
  ·subst xE;replace hM:Hid (RES=if t_ ⟨rec,SG,n,now,I_,VA.filterMap fun id=>OT id tt now⟩ then some ⟨rec,SG,n,now,I_,VA.filterMap fun id=>OT id tt now⟩ else none):=ζ (hM.o.trans (if_pos rfl));have g1:=bG2.c1;have g2:=bG2.c2;have gl:=bG2.lt;have a0:=bN2.c0;have a1:=bN2.c1;have al:=bN2.lt;have aN:=ζ (ah.refl w2);replace bP2:=ζ bP2;replace bG2:=ζ bG2;replace bN2:=ζ bN2;replace YM:=ζ YM;replace bL2:=ζ bL2;replace fQ:=ζ fQ;go_wp2_with fail;apply Hg (is:=[44,45,14]) (R:=awr w2 w.heap.size rec SG n now I_)
   case h1=>
    refine aG κ ?_;refine rK (.range 10) 4 ?_;iterate 3 refine aC ?_
    refine aY (.string ⟨SG.toArray⟩) rfl χ (fun wq eG=> ?_) ?_
    ·obtain⟨nR,mY⟩:=bQ eG;go_simp;exact Calls.mono (cS.out wq) (fun e w'' h=>h)
    go_simp;iterate 6 refine aC ?_
    refine aB ?_;refine aH [10,12] κ σ (fun wN hN hS=>(au.cons rfl (fun K' hK=> ?_) (au.cons rfl (fun K' hK=> ?_) au.nil)))
    ·skip
     try replace iI:=ζ (iI.o.grows hN)
     try replace kP:=ζ (kP.o.grows hN)
     try replace aN:=ζ (aN.o.trans hN)
     clear hN;go_simp;refine (cC.out _ (fQ.o.trans aN.o)).mono ?_;rintro e w5 ⟨v5,rfl,lZ,fM⟩;obtain⟨A5,k5,rfl,-,-,-⟩:=lZ.arr IZ;have kP:=ζ (lZ.bJ (base':=w.heap.size) (by have:=(fQ.o.trans aN.o).size;omega));try replace iI:=ζ (iI.o.grows fM)
     replace aN:=ζ (aN.o.trans fM);refine hK.o _ _ ?_ (fun hS=> ?_)
     ·exact aN.o
     clear fM lZ;clear hK hS;refine rK [11] 2 ?_;iterate 1 refine aC ?_
     refine aB ?_;refine aH [12] κ σ (fun wN hN hS=>(au.cons rfl (fun K' hK=> ?_) au.nil));try replace iI:=ζ (iI.o.grows hN)
     try replace kP:=ζ (kP.o.grows hN)
     try replace aN:=ζ (aN.o.trans hN)
     clear hN;go_simp;have iI:=ζ (aF.new wN 64 lF);have Cc:Hid (w2.heap.size≤wN.heap.size):=ζ aN.o.size;replace aN:=ζ (aN.o.alloc (.cells lF 64));try replace kP:=ζ (kP.o.grows ((ah.refl wN).alloc (.cells lF 64)))
     refine hK.o _ _ ?_ (fun hS=> ?_)
     ·exact aN.o
     generalize wN.heap.size=gc at *
     clear hK hS;refine aH [13] κ σ (fun wN hN hS=>(au.cons rfl (fun K' hK=> ?_) au.nil));try replace iI:=ζ (iI.o.grows hN)
     try replace kP:=ζ (kP.o.grows hN)
     try replace aN:=ζ (aN.o.trans hN)
     clear hN;have hend:=ζ (Ag iI.o aN.o Cc.o);have hown:=ζ (acJ iI.o kP.o δ);obtain⟨z0,z1,z2,z3,z4,z5,zf,zl⟩:=rO iI.o;go_simp;refine hK.o _ _ ?_ (fun hS=> ?_)
     ·exact (hend.o _ _ _ _ _ _).2.1
     clear z0 z1 z2 z3 z4 z5 zf zl;obtain⟨n0,n1,-⟩:=hend.o (.string ⟨rec.toArray⟩) (.string ⟨SG.toArray⟩) (.int .i64 n) (.int .i64 now) (.slice A5 I_.length k5) (.slice none 0 0);have nO:=hown.o (.string ⟨rec.toArray⟩) (.string ⟨SG.toArray⟩) (.int .i64 n) (.int .i64 now) (.slice A5 I_.length k5) (.slice none 0 0);clear hend hown;generalize ((((((wN.setCell ⟨gc,0,none⟩ (.string ⟨rec.toArray⟩)).setCell ⟨gc,1,none⟩ (.string ⟨SG.toArray⟩)).setCell ⟨gc,2,none⟩ (.int .i64 n)).setCell ⟨gc,3,none⟩ (.int .i64 now)).setCell ⟨gc,4,none⟩ (.slice A5 I_.length k5)).setCell ⟨gc,5,none⟩ (.slice none 0 0))=w9 at *
     clear iI aN kP;have iI:=ζ n0;have aN:=ζ n1;have kP:=ζ nO;clear n0 n1 nO;clear hK hS;refine aJ κ (fun wN hN hS=> ?_);try replace iI:=ζ (iI.o.grows hN)
     try replace kP:=ζ (kP.o.grows hN)
     try replace aN:=ζ (aN.o.trans hN)
     refine⟨(by
      simp only[gV,List.foldl_cons,List.foldl_nil];go_simp;try rfl
     ),gc,A5,k5,rfl,iI.o,kP.o,aN.o,Cc.o⟩
    ·skip
     try replace iI:=ζ (iI.o.grows hN)
     try replace kP:=ζ (kP.o.grows hN)
     try replace aN:=ζ (aN.o.trans hN)
     clear hN;go_simp;have iI:=ζ (aF.new wN 64 lF);have Cc:Hid (w2.heap.size≤wN.heap.size):=ζ aN.o.size;replace aN:=ζ (aN.o.alloc (.cells lF 64));try replace kP:=ζ (kP.o.grows ((ah.refl wN).alloc (.cells lF 64)))
     refine hK.o _ _ ?_ (fun hS=> ?_)
     ·exact aN.o
     generalize wN.heap.size=gc at *
     clear hK hS;refine aH [10] κ σ (fun wN hN hS=>(au.cons rfl (fun K' hK=> ?_) au.nil));try replace iI:=ζ (iI.o.grows hN)
     try replace kP:=ζ (kP.o.grows hN)
     try replace aN:=ζ (aN.o.trans hN)
     clear hN;go_simp;refine (cC.out _ (fQ.o.trans aN.o)).mono ?_;rintro e w5 ⟨v5,rfl,lZ,fM⟩;obtain⟨A5,k5,rfl,-,-,-⟩:=lZ.arr IZ;have kP:=ζ (lZ.bJ (base':=w.heap.size) (by have:=(fQ.o.trans aN.o).size;omega));try replace iI:=ζ (iI.o.grows fM)
     replace aN:=ζ (aN.o.trans fM);refine hK.o _ _ ?_ (fun hS=> ?_)
     ·exact aN.o
     clear fM lZ;clear hK hS;refine rK [11] 1 ?_;iterate 1 refine aC ?_
     refine aB ?_;refine aH [13] κ σ (fun wN hN hS=>(au.cons rfl (fun K' hK=> ?_) au.nil));try replace iI:=ζ (iI.o.grows hN)
     try replace kP:=ζ (kP.o.grows hN)
     try replace aN:=ζ (aN.o.trans hN)
     clear hN;have hend:=ζ (Ag iI.o aN.o Cc.o);have hown:=ζ (acJ iI.o kP.o δ);obtain⟨z0,z1,z2,z3,z4,z5,zf,zl⟩:=rO iI.o;go_simp;refine hK.o _ _ ?_ (fun hS=> ?_)
     ·exact (hend.o _ _ _ _ _ _).2.1
     clear z0 z1 z2 z3 z4 z5 zf zl;obtain⟨n0,n1,-⟩:=hend.o (.string ⟨rec.toArray⟩) (.string ⟨SG.toArray⟩) (.int .i64 n) (.int .i64 now) (.slice A5 I_.length k5) (.slice none 0 0);have nO:=hown.o (.string ⟨rec.toArray⟩) (.string ⟨SG.toArray⟩) (.int .i64 n) (.int .i64 now) (.slice A5 I_.length k5) (.slice none 0 0);clear hend hown;generalize ((((((wN.setCell ⟨gc,0,none⟩ (.string ⟨rec.toArray⟩)).setCell ⟨gc,1,none⟩ (.string ⟨SG.toArray⟩)).setCell ⟨gc,2,none⟩ (.int .i64 n)).setCell ⟨gc,3,none⟩ (.int .i64 now)).setCell ⟨gc,4,none⟩ (.slice A5 I_.length k5)).setCell ⟨gc,5,none⟩ (.slice none 0 0))=w9 at *
     clear iI aN kP;have iI:=ζ n0;have aN:=ζ n1;have kP:=ζ nO;clear n0 n1 nO;clear hK hS;refine aJ κ (fun wN hN hS=> ?_);try replace iI:=ζ (iI.o.grows hN)
     try replace kP:=ζ (kP.o.grows hN)
     try replace aN:=ζ (aN.o.trans hN)
     refine⟨(by
      simp only[gV,List.foldl_cons,List.foldl_nil];go_simp;try rfl
     ),gc,A5,k5,rfl,iI.o,kP.o,aN.o,Cc.o⟩
   intro fz w3 hR;obtain⟨gL,A,kk,e14,Tm,Ro,hb3,aEZ⟩:=hR;simp only[lM,List.foldl_cons,List.foldl_nil,e14];replace bP2:=ζ (bP2.out.grows hb3);replace bG2:=ζ (bG2.out.grows hb3);replace bN2:=ζ (bN2.out.grows hb3);replace YM:=ζ (YM.out.grows hb3);replace bL2:=ζ (bL2.out.grows hb3);have qo:=ζ (fQ.o.trans hb3);have g3:=bG2.out.c3;have gl:=bG2.out.lt;have ae6:=qo.o.size;have aEW:=Tm.lt;replace Tm:=ζ Tm;replace Ro:=ζ Ro;clear hb3 aN g1 g2 a0 a1 al cC cS e14 fQ bG2;go_wp2;go_loopw [16,17,18,49] (fun _ _ _ n' wr=>∃(k:Nat) (ts:List nH) (vA:Option Addr) (vk:Nat),k≤gim∧n'=.int .i64 (k:Int)∧Hid (Own wr w3.heap.size 65 3 Yr (.slice vA ts.length vk) ts)∧Hid (∀y∈ts,qZ wr w.heap.size y)∧Hid (ts.map (·.t)=(VA.take k).filterMap fun id=>OT id tt now)∧Hid (ts.length≤k)∧
    Hid (aF wr gL 64 #[.string ⟨rec.toArray⟩,.string ⟨SG.toArray⟩,.int .i64 n,.int .i64 now,.slice A I_.length kk,.slice vA ts.length vk])∧Hid (Own wr w.heap.size 88 2 dW (.slice A I_.length kk) I_)∧
    Hid (aF wr w.heap.size 50 #[.slice sA sm sk,.slice rA rm rk,.slice eA em ek,.slice aA am ak,.slice oA om ok,.slice iA im ik])∧Hid (aF wr (w.heap.size+1+1) 135 #[.int .i64 n,.int .i64 now])∧Hid (aF wr (w.heap.size+1+1+1) 64 lF)∧Hid (aF wr gT 25 #[.int .i64 tt.lv,.int .u32 (tt.c:Int)])∧Hid (ah w wr)∧Hid (w3.heap.size≤wr.heap.size)) (fun _ _ _ n' _=>gim-(intOf n').toNat)
   case atStart=>exact⟨0,[],none,0,ω,rfl,Own.iH _ _ _ _ _,(fun y hy=>by cases hy),rfl,Nat.le_refl _,Tm,Ro,bP2,bN2,YM,bL2,qo,Nat.le_refl _⟩
   case round=>
    clear Tm Ro bP2 bN2 YM bL2;obtain⟨k,ts,vA,vk,hk,rfl,hO,hat,heq,hle,Tm,Ro,bP,bN,bZ,bL,hG,hsz⟩:=hrel;by_cases wB:k<gim
    ·obtain⟨bb,off,id,rfl,GV,hx,hcell⟩:=(hgi.o.keep hG.o).at_ wB;have c0:wr.cell? ⟨bb,off+k,none⟩=some (.int .u64 (id:Int)):=by simpa using hcell 0 _ rfl
     have kY:(k:Int)<(gim:Int):=ω;have xC:Hid ((VA.take (k+1)).filterMap (fun id=>OT id tt now)=(VA.take k).filterMap (fun id=>OT id tt now)++(OT id tt now).toList):=ζ (by
      rw[List.take_add_one,hx,List.filterMap_append];simp only[Option.toList_some];rw[List.filterMap_cons];cases OT id tt now <;> simp)
     have p0:=bP.out.c0;have p1:=bP.out.c1;have p2:=bP.out.c2;have p3:=bP.out.c3;have p4:=bP.out.c4;have p5:=bP.out.c5;have pl:=bP.out.lt;have l0:=bL.out.c0;have l1:=bL.out.c1;have ll:=bL.out.lt;have a1:=bN.out.c1;have al:=bN.out.lt;have cOx:=ζ (cO.out tt (by first | rfl | trivial) id wr hG.o);have hbw:=hG.o.size;clear hcell hx cR hM;go_wp2_with fail;refine cOx.out.mono ?_;rintro e w5 ⟨o,rfl,hot,hoo,fM⟩;clear c0 p0 p1 p2 p3 p4 p5 pl l0 l1 ll a1 al cOx;cases o with
     | none=>
      have hF:Hid (ts.map (·.t)=(VA.take (k+1)).filterMap (fun id=>OT id tt now)):=ζ (by rw[xC.o,←hot,heq.o];simp);have jG:=ζ (fM.alloc (.cells #[.int .u64 0,.bool false,.slice none 0 0] 65));clear hot xC heq hoo fM;simp only[Option.isSome_none,QJ];go_wp2;go_roundw
      case rel=>exact⟨k+1,ts,vA,vk,ω,ν,hO.o.grows jG.o,ζ (fun y hy=>(hat.o y hy).grows jG.o),hF,ζ (by have:=hle.o;omega),Tm.o.grows jG.o,Ro.o.grows jG.o,bP.out.grows jG.o,bN.out.grows jG.o,bZ.out.grows jG.o,bL.out.grows jG.o,hG.o.trans jG.o,ζ (Nat.le_trans hsz.o jG.o.size)⟩
      case measure=>exact ψ
     | some y=>
      have hF:Hid ((ts++[y]).map (·.t)=(VA.take (k+1)).filterMap (fun id=>OT id tt now)):=ζ (by rw[xC.o,←hot,List.map_append,heq.o];rfl);have jG:=ζ ((fM.alloc (.cells #[.int .u64 (y.t.id:Int),.bool y.t.jH,.slice y.A y.m y.k] 65)).alloc (.cells #[.int .u64 (y.t.id:Int),.bool y.t.jH,.slice y.A y.m y.k] 65));have Q8:((w5.alloc (.cells #[.int .u64 (y.t.id:Int),.bool y.t.jH,.slice y.A y.m y.k] 65)).alloc (.cells #[.int .u64 (y.t.id:Int),.bool y.t.jH,.slice y.A y.m y.k] 65)).heap[w5.heap.size+1]? = some (.cells #[.int .u64 (y.t.id:Int),.bool y.t.jH,.slice y.A y.m y.k] 65 (0,0)):=by
       have:=heap_alloc_new (w5.alloc (.cells #[.int .u64 (y.t.id:Int),.bool y.t.jH,.slice y.A y.m y.k] 65)) (.cells #[.int .u64 (y.t.id:Int),.bool y.t.jH,.slice y.A y.m y.k] 65);rwa [World.size_alloc] at this
      have hya:=ζ ((((hoo y rfl).bJ hbw).grows ((ah.refl w5).alloc (.cells #[.int .u64 (y.t.id:Int),.bool y.t.jH,.slice y.A y.m y.k] 65))).grows ((ah.refl _).alloc (.cells #[.int .u64 (y.t.id:Int),.bool y.t.jH,.slice y.A y.m y.k] 65)));have uj:=ζ (hO.o.grows jG.o);have azU:=ζ (fun z hz=>(hat.o z hz).grows jG.o);have avL:=ζ (Tm.o.grows jG.o);have aoD:=ζ (Ro.o.grows jG.o);have bP6:=ζ (bP.out.grows jG.o);have bN6:=ζ (bN.out.grows jG.o);have bZ6:=ζ (bZ.out.grows jG.o);have bL6:=ζ (bL.out.grows jG.o);have EN:=ζ (hG.o.trans jG.o);have amj:=ζ (Nat.le_trans hsz.o jG.o.size);have l5:=(Tm.o.grows fM).c5;have ll5:=(Tm.o.grows fM).lt;have amD:=hle.o;replace Q8:=ζ Q8;have ayD:=ζ (show w3.heap.size≤w5.heap.size+1+1 by have:=hsz.o;have:=fM.size;omega);clear hot xC heq hoo jG hO hat Tm Ro bP bN bZ bL hG hsz fM;simp only[Option.isSome_some,QJ];go_wp2_with (at_builtin;refine dH (x:=y) aA9 rfl (.tmp 65) (.tmp 67) rfl uj.o rfl ⟨w5.heap.size+1,0,none⟩ rfl rfl (iK Q8.o) (atE y) (by have:=ayD.o;simp;omega) (by unfold maxLen;omega) ω (fun v7 w7 rG hgr qQ=> ?_);(obtain⟨A7,k7,rfl,-,-,-⟩:=rG.arr hkT);(rw[show (ts++[y]).length=ts.length+1 by simp] at rG);(have Rt:=avL.o.aO hgr (fun e=>aZ uj.o avL.o δ e.symm));(have aoC:=ζ (aoD.o.kept' hgr (fun j hj hv=>by obtain⟨cur,hc⟩:=bV uj.o hj;exact aZ aoD.o hc δ hv)));(have azT:=ζ (fun z hz=>(azU.o z hz).row uj.o δ hgr));(have hy7:=ζ (hya.o.row uj.o δ hgr));(have bP7:=ζ (bP6.out.aO hgr (fun e=>aZ uj.o bP6.out δ e.symm)));(have bN7:=ζ (bN6.out.aO hgr (fun e=>aZ uj.o bN6.out δ e.symm)));(have bZ7:=ζ (bZ6.out.aO hgr (fun e=>aZ uj.o bZ6.out δ e.symm)));(have bL7:=ζ (bL6.out.aO hgr (fun e=>aZ uj.o bL6.out δ e.symm)));(have V_:=ζ (EN.o.aO hgr (fun g e=>Nat.le_trans ae6 (uj.o.gY g e))));(have ayH:=ζ (Nat.le_trans amj.o hgr.size));(have c7:w7.cell? ⟨gL,5,none⟩=some (.slice vA ts.length vk):=Rt.cell 5);(have f7:=Rt.frozen 5);(have l7:=Rt.lt);(replace Rt:=ζ Rt);(replace rG:=ζ rG);clear hgr qQ);go_roundw
      case rel=>
       have e1:(ts++[y]).length=ts.length+1:=by simp
       refine⟨k+1,ts++[y],A7,k7,ω,ν,?_,?_,hF,?_,?_,?_,?_,?_,?_,?_,?_,?_⟩
       ·rw[e1];exact ζ (rG.o.kept' (aj w7 ⟨gL,5,none⟩ _) (fun j hj=>by injection hj with hj;subst hj;exact aZ rG.o Rt.o δ))
       ·refine ζ (fun z hz=> ?_);rcases List.mem_append.1 hz with hz | hz
        ·exact (azT.o z hz).far Rt.o δ _
        ·rw[List.mem_singleton.1 hz];exact hy7.o.far Rt.o δ _
       ·exact ζ (by rw[e1];omega)
       ·rw[e1];exact ζ ((Rt.o.bD 5 (.slice A7 (ts.length+1) k7)).cast σ)
       ·exact ζ (aoC.o.kept' (aj w7 ⟨gL,5,none⟩ _) (fun j hj=>by injection hj with hj;subst hj;exact aZ aoC.o Rt.o δ))
       ·exact ζ (bP7.out.far (by simp;omega) _)
       ·exact ζ (bN7.out.far (by simp;omega) _)
       ·exact ζ (bZ7.out.far (by simp;omega) _)
       ·exact ζ (bL7.out.far (by simp;omega) _)
       ·exact ζ (V_.o.setCell (by simp;omega) _)
       ·exact ζ (by simpa using ayH.o)
      case measure=>exact ψ
    ·obtain rfl:k=gim:=ω;have hall:Hid (ts.map (·.t)=VA.filterMap fun id=>OT id tt now):=ζ (by rw[heq.o,←S_.o,List.take_length]);have hLO:dF wr w.heap.size ⟨rec,SG,n,now,I_,A,I_.length,kk,ts,vA,ts.length,vk⟩:=
      ⟨Ro.o,hO.o.bJ ae6,hat.o,by show I_.length≤1000;have:=hbl.o;omega,hgt.o,by show ts.length≤1000;have:=hle.o;omega⟩
     have TT:=ζ (cR.out ⟨rec,SG,n,now,I_,A,I_.length,kk,ts,vA,ts.length,vk⟩ wr hG.o hLO.good uf);have hlt:fG.yc ⟨rec,SG,n,now,I_,A,I_.length,kk,ts,vA,ts.length,vk⟩=⟨rec,SG,n,now,I_,VA.filterMap fun id=>OT id tt now⟩:=by unfold fG.yc;rw[hall.o]
     rw[←hlt] at hM;replace hlt:=ζ hlt;generalize hLB:t_ (fG.yc ⟨rec,SG,n,now,I_,A,I_.length,kk,ts,vA,ts.length,vk⟩)=LB at *
     have l0:=Tm.o.c0;have l1:=Tm.o.c1;have l2:=Tm.o.c2;have l3:=Tm.o.c3;have l4:=Tm.o.c4;have l5:=Tm.o.c5;have ll:=Tm.o.lt;replace hLO:=ζ hLO;unfold WI at TT;simp only at TT;clear hLB hgi hgt cR cO heq hle hat Ro hO bP bN bL hall;go_wp2_with fail;refine TT.out.mono ?_;rintro e w5 ⟨rfl,fM⟩;have hend:=ζ (Ag (bZ.out.grows fM) (hG.o.trans fM) ω);replace hLO:=ζ (hLO.o.grows fM);have Ye:=Tm.o.grows fM;obtain⟨z0,z1,z2,z3,z4,z5,zf,zl⟩:=rO (bZ.out.grows fM);clear l0 l1 l2 l3 l4 l5 ll bZ Tm hG TT hsz fM;cases LB with
     | false=>
      have Vp:Hid (RES=none):=ζ (by rw[hM.o];rfl);go_wp2;obtain⟨n0,n1,-⟩:=hend.o (.string ⟨#[]⟩) (.string ⟨#[]⟩) (.int .i64 0) (.int .i64 0) (.slice none 0 0) (.slice none 0 0);replace n0:=ζ n0;replace n1:=ζ n1;refine bodyPost_ret (v:=.tuple #[.agg lF,.bool false]) ?_ rfl ⟨none,rfl,Vp.o.symm,(fun x hx=>by cases hx),n1.out⟩;have e0:=n0.out.cell 0;have e1:=n0.out.cell 1;have e2:=n0.out.cell 2;have e3:=n0.out.cell 3;have e4:=n0.out.cell 4;have e5:=n0.out.cell 5;simp only[List.getElem?_toArray,List.getElem?_cons_zero,List.getElem?_cons_succ] at e0 e1 e2 e3 e4 e5;simp[results,Tryz.results47,go_sem,e0,e1,e2,e3,e4,e5,lF]
     | true=>
      have Vp:Hid (RES=some (fG.yc ⟨rec,SG,n,now,I_,A,I_.length,kk,ts,vA,ts.length,vk⟩)):=ζ (by rw[hM.o];rfl);have l0:=Ye.c0;have l1:=Ye.c1;have l2:=Ye.c2;have l3:=Ye.c3;have l4:=Ye.c4;have l5:=Ye.c5;have ll:=Ye.lt;clear Ye;go_wp2;obtain⟨n0,n1,n2⟩:=hend.o (.string ⟨rec.toArray⟩) (.string ⟨SG.toArray⟩) (.int .i64 n) (.int .i64 now) (.slice A I_.length kk) (.slice vA ts.length vk);replace n0:=ζ n0;replace n1:=ζ n1;replace n2:=ζ (n2 _ _ hLO.o);refine bodyPost_ret (v:=.tuple #[.agg #[.string ⟨rec.toArray⟩,.string ⟨SG.toArray⟩,.int .i64 n,.int .i64 now,.slice A I_.length kk,.slice vA ts.length vk],.bool true]) ?_ rfl ⟨some ⟨rec,SG,n,now,I_,A,I_.length,kk,ts,vA,ts.length,vk⟩,rfl,Vp.o.symm,(fun x hx=>by injection hx with hx;subst hx;exact n2.out),n1.out⟩;have e0:=n0.out.cell 0;have e1:=n0.out.cell 1;have e2:=n0.out.cell 2;have e3:=n0.out.cell 3;have e4:=n0.out.cell 4;have e5:=n0.out.cell 5;simp only[List.getElem?_toArray,List.getElem?_cons_zero,List.getElem?_cons_succ] at e0 e1 e2 e3 e4 e5;simp[results,Tryz.results47,go_sem,e0,e1,e2,e3,e4,e5]
  ·have Vp:Hid (RES=none):=ζ (by rw[hM.o,if_neg xE]);have hend:=ζ (Ag YM fQ ω);have z0:=YM.c0;have z1:=YM.c1;have z2:=YM.c2;have z3:=YM.c3;have z4:=YM.c4;have z5:=YM.c5;have zf:=fun j=>YM.frozen j
   have zl:=YM.lt;clear bP2 bG2 bN2 fQ bL2;go_wp2;obtain⟨n0,n1,-⟩:=hend.o (.string ⟨#[]⟩) (.string ⟨#[]⟩) (.int .i64 0) (.int .i64 0) (.slice none 0 0) (.slice none 0 0);replace n0:=ζ n0;replace n1:=ζ n1;refine bodyPost_ret (v:=.tuple #[.agg lF,.bool false]) ?_ rfl ⟨none,rfl,Vp.o.symm,(fun x hx=>by cases hx),n1.out⟩;have e0:=n0.out.cell 0;have e1:=n0.out.cell 1;have e2:=n0.out.cell 2;have e3:=n0.out.cell 3;have e4:=n0.out.cell 4;have e5:=n0.out.cell 5;simp only[List.getElem?_toArray,List.getElem?_cons_zero,List.getElem?_cons_succ] at e0 e1 e2 e3 e4 e5;simp[results,Tryz.results47,go_sem,e0,e1,e2,e3,e4,e5,lF]
end Go.Proofs.YtbhikkgpcmkonaaGreatDoor
namespace Go.Proofs.YtbhikkgpcmkonaaGreatDoor
open Go.RowKit Go.Maps Go.WideMaps
theorem afW {g:dO} (w:World) (he:oD w) (hr:g.r < 10000) (hA:bW w 2 dW g.bA g.bm g.fH) (hm:g.bm≤100) (hf:∀f∈g.fH,f.n.length+f.v.length≤1000) :
 Calls Tryz.prog 44 #[Uk g] w fun e w'=>e =.returned (.string ⟨(dn g.r g.fH).toArray⟩)∧ah w w':=by
 obtain⟨r,key,fs,A,m,c,ids,iA,im,ik⟩:=g;unfold Uk;simp only at *
 have lJ:=ζ hA.1;have cI:∀n:Nat,n≤100000→∀W,ah w W→Calls Tryz.prog 77 #[.int .i64 n] W fun e w'=>e =.returned (.string ⟨(Lib.decDigits n).toArray⟩)∧ah W w':=fun n h1 W hW=>by
  have:=XE (n:Int) ω ω W (he.grows hW);rwa [XD (n:Int) ω,Int.toNat_natCast] at this
 have cR:=cI r ω;have hkb:∀k,(dn r (fs.take k)).length≤200000:=fun k=>by
  have h1:=zh hr (fs.take k) (fun f h=>hf f (List.mem_of_mem_take h));have h2:(fs.take k).length≤100:=by have:=lJ.o;rw[List.length_take];omega
  omega
 have L8:=Nu r;generalize Lib.decDigits r = dr at *
 replace cI:=ζ cI;replace cR:=ζ cR;replace hA:=ζ hA;replace hf:=ζ hf;replace hkb:=ζ hkb;replace L8:=ζ L8;clear he;have hBg:=aF.new w 125 #[.int .i64 (r:Int),.slice A m c,.int .u64 (key:Int),.slice iA im ik];have hg0:=(ah.refl w).alloc (.cells #[.int .i64 (r:Int),.slice A m c,.int .u64 (key:Int),.slice iA im ik] 125);go_enter Tryz.func44,Tryz.ntmps44
 go_wp2_with fail;refine (cR.out _ hg0).mono ?_;rintro e w1 ⟨rfl,hb1⟩;have avJ:=hBg.grows hb1;have g1:=avJ.c1;have gl:=avJ.lt;have fF:=ζ (hg0.trans hb1);clear hBg hg0 hb1 cR;go_wp2;go_loopw [3,5,12] (fun s _ i wr=>∃(k:Nat) (S:List UInt8),k≤m∧i =.int .i64 k∧s =.string ⟨S.toArray⟩∧Hid (S=dn r (fs.take k))∧Hid (ah w wr)) (fun _ _ i _=>m - (intOf i).toNat)
 case atStart=>exact⟨0,dr,ω,rfl,rfl,(L8.o.symm:dr=dn r (fs.take 0)),fF⟩
 case round=>
  obtain⟨k,S,hk,rfl,rfl,hS,hG⟩:=hrel;by_cases wB:k<m
  ·obtain⟨bb,off,f,rfl,GV,hx,hcell⟩:=(hA.o.keep hG.o).at_ wB;have c0:wr.cell? ⟨bb,off+k*2,none⟩=some (.string ⟨f.n.toArray⟩):=by simpa using hcell 0 _ rfl
   have c1:wr.cell? ⟨bb,off+k*2+1,none⟩=some (.string ⟨f.v.toArray⟩):=by simpa using hcell 1 _ rfl
   have Bh:=hf.o f (List.mem_of_getElem? hx);have kY:(k:Int)<(m:Int):=ω;have Ic:=hkb.o k;rw[←hS.o] at Ic;have cL:=cI.out f.v.length ω;have xC:fs.take (k+1)=fs.take k++[f]:=by rw[List.take_add_one,hx];rfl
   have qp:S++xR f = dn r (fs.take (k+1)):=by rw[xC,J9,hS.o]
   have hdl:=Ah (n:=f.v.length) ω;unfold xR at qp;generalize Lib.decDigits f.v.length=dv at *
   replace cL:=ζ cL;replace qp:=ζ qp;have Yb:Hid (ah w (wr.alloc (.cells #[.string ⟨f.n.toArray⟩,.string ⟨f.v.toArray⟩] 88))):=ζ (hG.o.alloc _);clear hcell hx xC hS;go_wp2_with fail;refine aG κ ?_;refine rK (.range 16) 0 ?_;iterate 8 refine aC ?_
   refine aY (.string ⟨dv.toArray⟩) rfl χ (fun wq eG=> ?_) ?_
   ·obtain⟨nR,mY⟩:=bQ eG;go_simp;exact Calls.mono (cL.out wq (Yb.o.trans eG)) (fun e w'' h=>h)
   go_simp;iterate 7 refine aC ?_
   refine aB ?_;refine aJ κ (fun wN hN hS=> ?_);go_wp2;go_roundw
   case rel=>exact⟨k+1,S++0::(f.n ++61::(dv++58::f.v)),ω,ν,congrArg Value.string (ByteArray.ext σ),qp,Yb.o.trans hN⟩
   case measure=>exact ψ
  ·obtain rfl:k=m:=ω;have aQ:S=dn r fs:=by rw[hS.o,List.take_of_length_le (by have:=lJ.o;omega)]
   replace aQ:=ζ aQ;clear hS;go_wp2;go_ret;exact⟨by rw[aQ.o];rfl,hG.o⟩
theorem ake (rec:List UInt8) (w:World) :
 Calls Tryz.prog 12 #[.string ⟨rec.toArray⟩] w fun e w'=>∃ge b,e =.returned (.pointer (some ⟨ge,0,none⟩))∧aF w' ge 118 #[.string ⟨rec.toArray⟩,.map (some b),.int .i64 (-1)]∧vX w' b 0 []∧w.heap.size≤ge∧w.heap.size≤b∧ah w w':=by
 have hmm:= @run_makeMap Tryz.prog;go_enter Tryz.func12,Tryz.ntmps12
 go_wp2;go_ret;refine⟨w.heap.size+1,w.heap.size,rfl,aF.kW w _ _ _,(vX.made w).grows ((ah.refl _).alloc _),ω,ω,?_⟩;exact Γ
theorem acI {fb:cZ→Bool} {p:bU} {rec:List UInt8} {st:Eng} {now:Int} {ge b:Nat} (w:World) (hp:p.At w) (oO:lQ fb p) (hE:aF w ge 118 #[.string ⟨rec.toArray⟩,.map (some b),.int .i64 st.now]) :
 Calls Tryz.prog 41 #[.pointer (some ⟨ge,0,none⟩),p.val,.int .i64 now] w fun e w'=>e =.returned (.int .i64 (AP fb p.aU rec st now))∧ah w w':=by
 have cF:=ζ (fun W (hW:ah w W)=>yT (c:=p.r.k) (n:=rec) W (hp.r.arr.keep hW) hp.r.le);have cK:=ζ (fun W (hW:ah w W)=>yV W (hp.keep hW) oO);have Bh:p.aU.receivers=p.r.l:=rfl;have hM:AP fb p.aU rec st now=if now≤st.now∨now<0∨fC<now then 9 else if (eu p.r.l rec).isSome∧fP fb p.aU=0 then 0 else 5:=rfl
 generalize AP fb p.aU rec st now=M at *
 generalize fP fb p.aU=CK at *
 clear oO hp Bh;obtain⟨n0,gs⟩:=st;unfold bU.val at *
 obtain⟨⟨sl,sA,sm,sk⟩,⟨rl,rA,rm,rk⟩,⟨el,eA,em,ek⟩,⟨al,aA,am,ak⟩,o,oA,om,ok,i,iA,im,ik⟩:=p;unfold fC at hM;simp only at *
 generalize eu rl rec=FL at *
 replace hM:=ζ hM;have e0:=hE.c0;have e2:=hE.c2;have el':=hE.lt;clear hE;by_cases qP:now≤n0∨now<0∨1099511627776<now
 ·have hM9:M=9:=by rw[hM.o,if_pos qP]
  subst hM9;by_cases h1:now≤n0
  ·go_enter Tryz.func41,Tryz.ntmps41
   go_wp2;go_ret;exact⟨rfl,(ah.refl w).alloc _⟩
  ·by_cases h2:now<0
   ·go_enter Tryz.func41,Tryz.ntmps41
    go_wp2;go_ret;exact⟨rfl,(ah.refl w).alloc _⟩
   ·have h3:1099511627776<now:=ω;go_enter Tryz.func41,Tryz.ntmps41
    go_wp2;go_ret;exact⟨rfl,(ah.refl w).alloc _⟩
 ·have h1:¬now≤n0:=fun h=>qP (.inl h)
  have h2:¬now<0:=fun h=>qP (.inr (.inl h))
  have h3:¬1099511627776<now:=fun h=>qP (.inr (.inr h))
  have Zg:Hid (M=if FL.isSome=true∧CK=0 then 0 else 5):=ζ (by rw[hM.o,if_neg qP]);clear hM qP;have hbP:=aF.new w 50 #[.slice sA sm sk,.slice rA rm rk,.slice eA em ek,.slice aA am ak,.slice oA om ok,.slice iA im ik];have hg0:=(ah.refl w).alloc (.cells #[.slice sA sm sk,.slice rA rm rk,.slice eA em ek,.slice aA am ak,.slice oA om ok,.slice iA im ik] 50);have cF2:=ζ (fun W (hW:ah (w.alloc (.cells #[.slice sA sm sk,.slice rA rm rk,.slice eA em ek,.slice aA am ak,.slice oA om ok,.slice iA im ik] 50)) W)=>cF.out W (hg0.trans hW));have aN:=ζ (ah.refl (w.alloc (.cells #[.slice sA sm sk,.slice rA rm rk,.slice eA em ek,.slice aA am ak,.slice oA om ok,.slice iA im ik] 50)));replace hbP:=ζ hbP;replace hg0:=ζ hg0;clear cF;go_enter Tryz.func41,Tryz.ntmps41
  have uf:=ζ (Nat.lt_succ_self w.heap.size);go_wp2_with fail;refine aG κ ?_;refine rK (.range 10) 3 ?_;iterate 6 refine aC ?_
  refine aY (.tuple #[.agg #[.int .i64 (kN FL).lv,.int .u32 ((kN FL).c:Int)],.bool FL.isSome]) rfl χ (fun wq eG=> ?_) ?_
  ·obtain⟨nR,mY⟩:=bQ eG;go_simp;exact Calls.mono (cF2.out wq eG) (fun e w'' h=>h)
  go_simp;iterate 3 refine aC ?_
  refine aB ?_;refine aH [10] κ σ (fun wN hN hS=>(au.cons rfl (fun K' hK=> ?_) au.nil));try replace iI:=ζ (iI.o.grows hN)
  replace aN:=ζ (aN.o.trans hN);clear hN;go_simp;have iI:=ζ (aF.new wN 25 #[.int .i64 0,.int .u32 0]);have Cc:=ζ aN.o.size;replace aN:=ζ (aN.o.alloc (.cells #[.int .i64 0,.int .u32 0] 25));refine hK.o _ _ ?_ (fun hS=> ?_)
  ·exact aN.o
  generalize wN.heap.size=gB at *
  clear hK hS;refine aH [11] κ σ (fun wN hN hS=>(au.cons rfl (fun K' hK=> ?_) au.nil));try replace iI:=ζ (iI.o.grows hN)
  replace aN:=ζ (aN.o.trans hN);clear hN;have z0:=iI.o.c0;have z1:=iI.o.c1;have zf:=fun j=>iI.o.frozen j
  have zl:=iI.o.lt;have b1:=(iI.o.bD 0 (.int .i64 (kN FL).lv)).bD 1 (.int .u32 ((kN FL).c:Int));have g1:=(aN.o.setCell (p:=⟨gB,0,none⟩) Cc.o (.int .i64 (kN FL).lv)).setCell (p:=⟨gB,1,none⟩) Cc.o (.int .u32 ((kN FL).c:Int));replace b1:=ζ b1;replace g1:=ζ g1;go_simp;refine hK.o _ _ ?_ (fun hS=> ?_)
  ·exact g1.out
  clear z0 z1 zf zl iI aN;generalize (wN.setCell ⟨gB,0,none⟩ (.int .i64 (kN FL).lv)).setCell ⟨gB,1,none⟩ (.int .u32 ((kN FL).c:Int))=w9 at *
  have iI:=b1;have aN:=g1;clear b1 g1;clear hK hS;refine rK [12] 0 ?_;iterate 1 refine aC ?_
  refine aB ?_;refine aJ κ (fun wN hN hS=> ?_);try replace iI:=ζ (iI.o.grows hN)
  replace aN:=ζ (aN.o.trans hN);have EN:=ζ (hg0.o.trans aN.o);have bP6:=ζ (hbP.o.grows aN.o);clear aN iI Cc hg0 hbP hN hS e0 e2 el' cF2;generalize FL.isSome=FI at *
  cases FI with
  | false=>
   have hM5:Hid (M=5):=ζ (by rw[Zg.o];simp);go_wp2;go_ret;exact⟨by rw[hM5.o];rfl,EN.o⟩
  | true=>
   have p0:=bP6.out.c0;have p1:=bP6.out.c1;have p2:=bP6.out.c2;have p3:=bP6.out.c3;have p4:=bP6.out.c4;have p5:=bP6.out.c5;have pl:=bP6.out.lt;go_wp2_with fail;refine (cK.out _ EN.o).mono ?_;rintro e w7 ⟨rfl,hb7⟩;have V_:=ζ (EN.o.trans hb7);clear p0 p1 p2 p3 p4 p5 pl hb7 EN bP6 cK;by_cases xE:CK=0
   ·have hM0:Hid (M=0):=ζ (by rw[Zg.o];simp[xE]);subst xE;go_wp2;go_ret;exact⟨by rw[hM0.o];rfl,V_.o⟩
   ·have hM5:Hid (M=5):=ζ (by rw[Zg.o];simp[xE]);go_wp2;go_ret;exact⟨by rw[hM5.o];rfl,V_.o⟩
end Go.Proofs.YtbhikkgpcmkonaaGreatDoor
namespace Go.Proofs.YtbhikkgpcmkonaaGreatDoor
open Go.RowKit
theorem adH {p:fU} {l:List iD} {tO:fZ} {now:Int} {k:Nat} (h:k∈wU p l tO now):k<l.length:=by
 unfold wU at h;exact List.mem_range.1 (List.mem_filter.1 h).1
theorem aeS {fb:cZ→Bool} {ft:List bK→cZ→Bool} {p:bU} {tO:fZ} {lA:Option Addr} {lm lk:Nat} {xs:List dA} {now:Int} {k:Nat} {x:dA} {gp gl gt gn:Nat} (w:World) (hp:p.At w) (oO:lQ fb p) (I4:Px ft p) (hib:∀r∈p.i,r.bm≤1000000) (XU:p.im≤1000)
 (hA:bW w 6 tq lA lm xs) (hat:∀a∈xs,a.At w) (JG:lm≤1000) (mP:tO.ok) (hk:xs[k]? = some x)
 (bp:aF w gp 50 p.cells.toArray) (bl:aF w gl 59 #[.slice lA lm lk]) (bt:aF w gt 25 #[.int .i64 tO.lv,.int .u32 (tO.c:Int)]) (bn:aF w gn 3 #[.int .i64 now]) :
 Calls Tryz.prog 98 #[.int .i64 (k:Int),.pointer (some ⟨gp,0,none⟩),.pointer (some ⟨gl,0,none⟩),.pointer (some ⟨gt,0,none⟩),.pointer (some ⟨gn,0,none⟩)] w fun e w'=>e =.returned (.bool (!(xX fb ft p.aU (xs.map (·.a)) k tO now).isEmpty))∧ah w w':=by
 have cQ:=ζ (aaj (fb:=fb) (ft:=ft) (lk:=lk) (now:=now) w hp oO I4 hib XU hA hat JG mP hk);generalize xX fb ft p.aU (xs.map (·.a)) k tO now=Q at *
 have hQl:(decide (0<Q.length))= !Q.isEmpty:=by cases Q <;> simp
 have p0:=bp.cell 0;have p1:=bp.cell 1;have p2:=bp.cell 2;have p3:=bp.cell 3;have p4:=bp.cell 4;have p5:=bp.cell 5;have l0:=bl.c0;have t0:=bt.c0;have t1:=bt.c1;have n0:=bn.c0;have Y9:=bp.lt;have hl2:=bl.lt;have hl3:=bt.lt;have hl4:=bn.lt;unfold bU.cells at p0 p1 p2 p3 p4 p5;unfold bU.val at cQ;simp only[List.getElem?_toArray,List.getElem?_cons_zero,List.getElem?_cons_succ] at p0 p1 p2 p3 p4 p5;clear hp oO I4 hib hA hat hk bp bl bt bn;go_enter Tryz.func98,Tryz.ntmps98
 go_wp2_with fail;refine cQ.out.mono ?_;rintro e w1 ⟨v,rfl,hO,hG⟩;obtain⟨A,c,rfl,-,-,-⟩:=hO.arr Ig;go_wp2;go_ret;exact⟨rfl,hG⟩
theorem aiC {fb:cZ→Bool} {ft:List bK→cZ→Bool} {p:bU} {tO:fZ} {lA:Option Addr} {lm lk:Nat} {xs:List dA} {now:Int} (w:World) (hp:p.At w) (oO:lQ fb p) (I4:Px ft p) (hib:∀r∈p.i,r.bm≤1000000) (XU:p.im≤1000)
 (hA:bW w 6 tq lA lm xs) (hat:∀a∈xs,a.At w) (JG:lm≤1000) (mP:tO.ok) :
 Calls Tryz.prog 53 #[p.val,.slice lA lm lk,.agg #[.int .i64 tO.lv,.int .u32 (tO.c:Int)],.int .i64 now] w fun e w'=>∃v,e =.returned v∧Own w' w.heap.size 3 1 encI v (xB fb ft p.aU (xs.map (·.a)) tO now)∧ah w w':=by
 have cK:=ζ (fun W (hW:ah w W)=>yV W (hp.keep hW) oO);have cT:=ζ (fun W (hW:ah w W)=>ahL (lk:=lk) (now:=now) W (hp.keep hW) (hA.keep hW) (fun a ha=>(hat a ha).keep hW) JG mP);have cC:=ζ (fun k (hk:k∈wU p.aU (xs.map (·.a)) tO now) W (hW:ah w W) gp gl gt gn (bp:aF W gp 50 p.cells.toArray) (bl:aF W gl 59 #[.slice lA lm lk]) (bt:aF W gt 25 #[.int .i64 tO.lv,.int .u32 (tO.c:Int)]) (bn:aF W gn 3 #[.int .i64 now])=>
  have hkx:∃x,xs[k]? = some x:=⟨_,List.getElem?_eq_getElem (by have:=adH hk;rw[List.length_map] at this;exact this)⟩;hkx.elim fun x hx=>aeS (fb:=fb) (ft:=ft) W (hp.keep hW) oO I4 hib XU (hA.keep hW) (fun a ha=>(hat a ha).keep hW) JG mP hx bp bl bt bn)
 have hL:xB fb ft p.aU (xs.map (·.a)) tO now=if fP fb p.aU=0 then (wU p.aU (xs.map (·.a)) tO now).filter (fun k=> !!(xX fb ft p.aU (xs.map (·.a)) k tO now).isEmpty) else []:=by
  unfold xB;simp only[Bool.not_not]
 have hTl:(wU p.aU (xs.map (·.a)) tO now).length≤65536:=by
  have h1:(wU p.aU (xs.map (·.a)) tO now).length≤(List.range (xs.map (·.a)).length).length:=List.length_filter_le _ _;have h2:=hA.1;rw[List.length_range,List.length_map] at h1;omega
 replace hL:=ζ hL;replace hTl:=ζ hTl;generalize xB fb ft p.aU (xs.map (·.a)) tO now=LL at *
 generalize wU p.aU (xs.map (·.a)) tO now=TL at *
 generalize fP fb p.aU=CK at *
 have cC2:=ζ (fun k hk W hW gp gl gt gn=>cC.out k hk W hW gp gl gt gn);clear cC;unfold bU.cells at cC2;unfold bU.val at *
 obtain⟨⟨sl,sA,sm,sk⟩,⟨rl,rA,rm,rk⟩,⟨el,eA,em,ek⟩,⟨al,aA,am,ak⟩,o,oA,om,ok,i,iA,im,ik⟩:=p;simp only at cK cT cC2 ⊢;clear hp oO I4 hib XU hA hat JG;go_enter Tryz.func53,Tryz.ntmps53
 go_wp2_with fail;refine (cK.out _ γ).mono ?_;rintro e w1 ⟨rfl,hb1⟩;have bP:aF w1 w.heap.size 50 #[.slice sA sm sk,.slice rA rm rk,.slice eA em ek,.slice aA am ak,.slice oA om ok,.slice iA im ik]:=((((aF.new w _ _).alloc _).alloc _).alloc _).grows hb1;have bl:aF w1 (w.heap.size+1) 59 #[.slice lA lm lk]:=(((aF.kW w _ _ _).alloc _).alloc _).grows hb1;have bt:aF w1 (w.heap.size+1+1) 25 #[.int .i64 tO.lv,.int .u32 (tO.c:Int)]:=((aF.zK w _ _ _ _).alloc _).grows hb1;have bn:aF w1 (w.heap.size+1+1+1) 3 #[.int .i64 now]:=(aF.aaA w _ _ _ _ _).grows hb1;have fF:ah w w1:=(((((ah.refl w).alloc _).alloc _).alloc _).alloc _).trans hb1;have p0:=bP.c0;have p1:=bP.c1;have p2:=bP.c2;have p3:=bP.c3;have p4:=bP.c4;have p5:=bP.c5;have l0:=bl.c0;have t0:=bt.c0;have t1:=bt.c1;have n0:=bn.c0;have Y9:=bP.lt;have hl2:=bl.lt;have hl3:=bt.lt;have hl4:=bn.lt;have hsz:=fF.size;clear hb1 cK;by_cases xE:CK=0
 ·subst xE;have hLL:Hid (LL=_):=ζ (by rw[hL.o,if_pos rfl]);go_wp2_with fail;refine (cT.out _ fF).mono ?_;rintro e w2 ⟨v2,rfl,nI,hb2⟩;have cD:=ζ (O1 98 #[.pointer (some ⟨w.heap.size,0,none⟩),.pointer (some ⟨w.heap.size+1,0,none⟩),.pointer (some ⟨w.heap.size+1+1,0,none⟩),.pointer (some ⟨w.heap.size+1+1+1,0,none⟩)] (enters_of Tryz.func98 κ rfl) _ w1.heap.size v2 TL w2 nI hb2.size hTl.o (fun k hk W hW=>by
   have Zi:ah w1 W:=hb2.iw hW;exact cC2.out k hk W (fF.trans Zi) _ _ _ _ (bP.grows Zi) (bl.grows Zi) (bt.grows Zi) (bn.grows Zi)))
  have fQ:=fF.trans hb2;clear cT cC2;go_wp2_with fail;refine cD.out.mono ?_;rintro e w3 ⟨v3,rfl,iT,hb3⟩;go_wp2;go_ret;exact⟨_,rfl,by rw[hLL.o];exact iT.bJ hsz,fF.trans (hb2.iw hb3)⟩
 ·have hLL:LL=[]:=by rw[hL.o,if_neg xE]
  go_wp2;go_ret;exact⟨_,rfl,by rw[hLL];exact Own.iH _ _ _ _ _,fF⟩
end Go.Proofs.YtbhikkgpcmkonaaGreatDoor
namespace Go.Proofs.YtbhikkgpcmkonaaGreatDoor
open Go.RowKit Go.Maps Go.WideMaps
theorem SI {fb:cZ→Bool} {ft:List bK→cZ→Bool} {p:fU} {l:List iD} {tt:fZ} {now:Int} {k:Nat} (h:k∈xB fb ft p l tt now):∃a,l[k]? = some a∧bH a = true:=by
 unfold xB at h;split at h
 ·have h1:=(List.mem_filter.1 h).1;unfold wU at h1;have h2:=(List.mem_filter.1 h1).2;cases hk:l[k]? with
  | none=>rw[hk] at h2;cases h2
  | some a=>
   rw[hk] at h2;unfold zo at h2;simp only[Bool.and_eq_true] at h2;exact⟨a,rfl,h2.2.1⟩
 ·cases h
def ads (ft:List bK→cZ→Bool) (q:QX):Prop:=∀x∈q,∀y∈x.2.s.wh,lN ft y
theorem adZ {ft:List bK→cZ→Bool} {p:bU} {tt:fZ} {lA:Option Addr} {lm lk:Nat} {xs:List dA} {now:Int} {k:Nat} {x:dA} {base gq b last:Nat} {q:QX} {gs gp gl gt gn:Nat} (w:World) (hp:p.At w) (hA:bW w 6 tq lA lm xs) (hat:∀a∈xs,a.At w) (mP:tt.ok) (hk:xs[k]? = some x) (hr:bH x.a = true)
 (hL:jd w base gq b q last) (V4:q.length≤60000) (mY:ads ft q)
 (bs:aF w gs 60 #[.pointer (some ⟨gq,0,none⟩)]) (bp:aF w gp 50 p.cells.toArray) (bl:aF w gl 59 #[.slice lA lm lk]) (bt:aF w gt 25 #[.int .i64 tt.lv,.int .u32 (tt.c:Int)]) (bn:aF w gn 3 #[.int .i64 now]) :
 Calls Tryz.prog 54 #[.int .i64 (k:Int),.pointer (some ⟨gs,0,none⟩),.pointer (some ⟨gp,0,none⟩),.pointer (some ⟨gl,0,none⟩),.pointer (some ⟨gt,0,none⟩),.pointer (some ⟨gn,0,none⟩)] w fun e w'=>e =.returned (.bool (!(uV ft p.aU (bF q last) x.a tt now).isEmpty))∧ah w w':=by
 have wu:=List.mem_of_getElem? hk;have cQ:=ζ (fun W (hW:ah w W)=>aee (ft:=ft) (now:=now) W (hL.grows hW) (hp.keep hW) ((hat x wu).keep hW) mP (fun f hf=>by have:=((fV hr).2.2 f hf).2;omega) V4 mY);generalize uV ft p.aU (bF q last) x.a tt now=Q at *
 have ap_:k<lm:=by rw[←hA.1];exact (List.getElem?_eq_some_iff.1 hk).1
 obtain⟨xb,xo,x',hxp,hxb,yN,XJ⟩:=hA.at_ ap_;rw[hk] at yN;injection yN with yN
 subst yN;have hs0:w.cell? ⟨xb,xo+k*6,none⟩=some (.string ⟨x.a.src.toArray⟩):=XJ 0 _ rfl;have hs1:w.cell? ⟨xb,xo+k*6+1,none⟩=some (.slice x.A x.m x.k):=XJ 1 _ rfl;have hs2:w.cell? ⟨xb,xo+k*6+2,none⟩=some (.int .i64 x.a.l.lv):=XJ 2 _ rfl;have hs3:w.cell? ⟨xb,xo+k*6+3,none⟩=some (.int .u32 (x.a.l.c:Int)):=XJ 3 _ rfl;have hs4:w.cell? ⟨xb,xo+k*6+4,none⟩=some (.int .i64 x.a.f):=XJ 4 _ rfl;have hs5:w.cell? ⟨xb,xo+k*6+5,none⟩=some (.int .i64 x.a.t):=XJ 5 _ rfl;have kY:(k:Int)<(lm:Int):=ω;subst hxp;have p0:=bp.cell 0;have p1:=bp.cell 1;have p2:=bp.cell 2;have p3:=bp.cell 3;have p4:=bp.cell 4;have p5:=bp.cell 5;have s0:=bs.c0;have l0:=bl.c0;have t0:=bt.c0;have t1:=bt.c1;have n0:=bn.c0;have hl0:=bs.lt;have Y9:=bp.lt;have hl2:=bl.lt;have hl3:=bt.lt;have hl4:=bn.lt;unfold bU.cells at p0 p1 p2 p3 p4 p5;unfold bU.val je at cQ;simp only[List.getElem?_toArray,List.getElem?_cons_zero,List.getElem?_cons_succ] at p0 p1 p2 p3 p4 p5;have aN:=ζ (ah.refl w);clear hp hA hat hk wu XJ bs bp bl bt bn hL mY;go_enter Tryz.func54,Tryz.ntmps54
 go_wp2_with fail;refine aG κ ?_;refine rK (.range 8) 4 ?_;iterate 8 refine aC ?_
 refine aB ?_;refine aH [8] κ σ (fun wN hN hS=>(au.cons rfl (fun K' hK=> ?_) au.nil));replace aN:=ζ (aN.o.trans hN);try replace hO:=ζ (hO.o.grows hN)
 clear hN;go_simp;refine (cQ.out _ aN.o).mono ?_;rintro e w5 ⟨v5,rfl,hO,fM⟩;replace aN:=ζ (aN.o.trans fM);obtain⟨A5,c5,rfl,-,-,-⟩:=hO.arr Ig;replace hO:=ζ hO;refine hK.o _ _ ?_ (fun hS=> ?_)
 ·exact aN.o
 clear fM;clear hK hS;refine rK [9,10,11] 0 ?_;iterate 3 refine aC ?_
 refine aB ?_;refine aJ κ (fun wN hN hS=> ?_);replace aN:=ζ (aN.o.trans hN);try replace hO:=ζ (hO.o.grows hN)
 go_wp2;go_ret;refine⟨?_,aN.o⟩;exact aP (by cases Q <;> simp)
theorem ah2 {fb:cZ→Bool} {ft:List bK→cZ→Bool} {p:bU} {rec:List UInt8} {lA:Option Addr} {lm lk:Nat} {xs:List dA} {now n0:Int} {base gq b last ge bm:Nat} {q:QX} (w:World) (hp:p.At w) (oO:lQ fb p) (I4:Px ft p) (hib:∀r∈p.i,r.bm≤1000000) (XU:p.im≤1000)
 (hA:bW w 6 tq lA lm xs) (hat:∀a∈xs,a.At w) (JG:lm≤1000) (hL:jd w base gq b q last) (V4:q.length≤60000) (mY:ads ft q) (hE:aF w ge 118 #[.string ⟨rec.toArray⟩,.map (some bm),.int .i64 n0]) :
 Calls Tryz.prog 21 #[.pointer (some ⟨ge,0,none⟩),p.val,.slice lA lm lk,.pointer (some ⟨gq,0,none⟩),.int .i64 now] w fun e w'=>∃v,e =.returned v∧Own w' w.heap.size 3 1 encI v (yD fb ft p.aU rec (xs.map (·.a)) (bF q last) now)∧ah w w':=by
 have cF:=ζ (fun W (hW:ah w W)=>yT (c:=p.r.k) (n:=rec) W (hp.r.arr.keep hW) hp.r.le);have cT:=ζ (fun tt (ht:eu p.r.l rec=some tt) W (hW:ah w W)=>aiC (fb:=fb) (ft:=ft) (lk:=lk) (now:=now) W (hp.keep hW) oO I4 hib XU (hA.keep hW) (fun a ha=>(hat a ha).keep hW) JG (show tt.ok by obtain⟨y,hy,rfl⟩:=yS ht;exact hp.r.KC y hy));have cC:=ζ (fun tt (ht:eu p.r.l rec=some tt) k (hk:k∈xB fb ft p.aU (xs.map (·.a)) tt now) W (hW:ah w W) gs gp gl gt gn (bs:aF W gs 60 #[.pointer (some ⟨gq,0,none⟩)]) (bp:aF W gp 50 p.cells.toArray) (bl:aF W gl 59 #[.slice lA lm lk]) (bt:aF W gt 25 #[.int .i64 tt.lv,.int .u32 (tt.c:Int)]) (bn:aF W gn 3 #[.int .i64 now])=>
  show Calls Tryz.prog 54 #[.int .i64 (k:Int),.pointer (some ⟨gs,0,none⟩),.pointer (some ⟨gp,0,none⟩),.pointer (some ⟨gl,0,none⟩),.pointer (some ⟨gt,0,none⟩),.pointer (some ⟨gn,0,none⟩)] W fun e w'=>e =.returned (.bool (!FM ft p.aU (bF q last) (xs.map (·.a)) tt now k))∧ah W w' by
   obtain⟨a,ha,hr⟩:=SI hk;rw[List.getElem?_map] at ha;obtain⟨x,hx,rfl⟩:=Option.map_eq_some_iff.1 ha;have h:=adZ (ft:=ft) (now:=now) W (hp.keep hW) (hA.keep hW) (fun a ha=>(hat a ha).keep hW) (show tt.ok by obtain⟨y,hy,rfl⟩:=yS ht;exact hp.r.KC y hy) hx hr (hL.grows hW) V4 mY bs bp bl bt bn;have e1:FM ft p.aU (bF q last) (xs.map (·.a)) tt now k=(uV ft p.aU (bF q last) x.a tt now).isEmpty:=by unfold FM;rw[List.getElem?_map,hx];rfl
   rw[e1];exact h)
 have hS:yD fb ft p.aU rec (xs.map (·.a)) (bF q last) now=match eu p.r.l rec with
  | none=>[]
  | some tt=>(xB fb ft p.aU (xs.map (·.a)) tt now).filter (FM ft p.aU (bF q last) (xs.map (·.a)) tt now):=rfl
 have hLl:=ζ (fun tt=>show (xB fb ft p.aU (xs.map (·.a)) tt now).length≤65536 by
  unfold xB;split
  ·refine Nat.le_trans (List.length_filter_le _ _) ?_;have h1:(wU p.aU (xs.map (·.a)) tt now).length≤(List.range (xs.map (·.a)).length).length:=List.length_filter_le _ _;have h2:=hA.1;rw[List.length_range,List.length_map] at h1;omega
  ·exact Nat.zero_le _)
 have e0:=hE.c0;have el:=hE.lt;generalize yD fb ft p.aU rec (xs.map (·.a)) (bF q last) now=RES at *
 generalize xB fb ft p.aU (xs.map (·.a))=LL at *
 generalize FM ft p.aU (bF q last) (xs.map (·.a))=OA at *
 have hSn:=ζ hS;clear hS;have cC2:=ζ (fun tt ht k hk W hW gs gp gl gt gn=>cC.out tt ht k hk W hW gs gp gl gt gn);clear cC;unfold bU.cells at cC2;unfold bU.val at *
 obtain⟨⟨sl,sA,sm,sk⟩,⟨rl,rA,rm,rk⟩,⟨el',eA,em,ek⟩,⟨al,aA,am,ak⟩,o,oA,om,ok,i,iA,im,ik⟩:=p;simp only at cF cT cC2 hSn ⊢;clear hp oO I4 hib XU hA hat JG hL V4 mY hE;generalize hFL:eu rl rec=FL at *
 clear hFL;obtain⟨w0,hw0,bP,bl,bs,bn,hg0,hz0⟩:∃w0:World,w0=(((w.alloc (.cells #[.slice sA sm sk,.slice rA rm rk,.slice eA em ek,.slice aA am ak,.slice oA om ok,.slice iA im ik] 50)).alloc (.cells #[.slice lA lm lk] 59)).alloc (.cells #[.pointer (some ⟨gq,0,none⟩)] 60)).alloc (.cells #[.int .i64 now] 3)∧
  aF w0 w.heap.size 50 #[.slice sA sm sk,.slice rA rm rk,.slice eA em ek,.slice aA am ak,.slice oA om ok,.slice iA im ik]∧aF w0 (w.heap.size+1) 59 #[.slice lA lm lk]∧aF w0 (w.heap.size+1+1) 60 #[.pointer (some ⟨gq,0,none⟩)]∧aF w0 (w.heap.size+1+1+1) 3 #[.int .i64 now]∧ah w w0∧w0.heap.size=w.heap.size+4:=
  ⟨_,rfl,(((aF.new w _ _).alloc _).alloc _).alloc _,((aF.kW w _ _ _).alloc _).alloc _,(aF.zK w _ _ _ _).alloc _,aF.aaA w _ _ _ _ _,((((ah.refl w).alloc _).alloc _).alloc _).alloc _,by simp⟩
 have cF2:=ζ (fun W (hW:ah w0 W)=>cF.out W (hg0.trans hW));have aN:=ζ (ah.refl w0);have p1:=bP.c1;have pl:=bP.lt;replace e0:=hg0.cell e0;replace el:=Nat.lt_of_lt_of_le el hg0.size;replace bP:=ζ bP;replace bl:=ζ bl;replace bs:=ζ bs;replace bn:=ζ bn;replace hg0:=ζ hg0;replace hz0:=ζ hz0;clear cF;go_enter Tryz.func21,Tryz.ntmps21
 go_wp2_with fail;rw[←hw0];clear hw0;refine aG κ ?_;refine rK (.range 10) 3 ?_;iterate 6 refine aC ?_
 refine aY (.tuple #[.agg #[.int .i64 (kN FL).lv,.int .u32 ((kN FL).c:Int)],.bool FL.isSome]) rfl χ (fun wq eG=> ?_) ?_
 ·obtain⟨nR,mY⟩:=bQ eG;go_simp;exact Calls.mono (cF2.out wq eG) (fun e w'' h=>h)
 go_simp;iterate 3 refine aC ?_
 refine aB ?_;refine aH [10] κ σ (fun wN hN hS=>(au.cons rfl (fun K' hK=> ?_) au.nil));try replace iI:=ζ (iI.o.grows hN)
 replace aN:=ζ (aN.o.trans hN);clear hN;go_simp;have iI:=ζ (aF.new wN 25 #[.int .i64 0,.int .u32 0]);have Cc:=ζ aN.o.size;replace aN:=ζ (aN.o.alloc (.cells #[.int .i64 0,.int .u32 0] 25));refine hK.o _ _ ?_ (fun hS=> ?_)
 ·exact aN.o
 generalize wN.heap.size=gB at *
 clear hK hS;refine aH [11] κ σ (fun wN hN hS=>(au.cons rfl (fun K' hK=> ?_) au.nil));try replace iI:=ζ (iI.o.grows hN)
 replace aN:=ζ (aN.o.trans hN);clear hN;have z0:=iI.o.c0;have z1:=iI.o.c1;have zf:=fun j=>iI.o.frozen j
 have zl:=iI.o.lt;have b1:=(iI.o.bD 0 (.int .i64 (kN FL).lv)).bD 1 (.int .u32 ((kN FL).c:Int));have g1:=(aN.o.setCell (p:=⟨gB,0,none⟩) Cc.o (.int .i64 (kN FL).lv)).setCell (p:=⟨gB,1,none⟩) Cc.o (.int .u32 ((kN FL).c:Int));replace b1:=ζ b1;replace g1:=ζ g1;go_simp;refine hK.o _ _ ?_ (fun hS=> ?_)
 ·exact g1.out
 clear z0 z1 zf zl iI aN;generalize (wN.setCell ⟨gB,0,none⟩ (.int .i64 (kN FL).lv)).setCell ⟨gB,1,none⟩ (.int .u32 ((kN FL).c:Int))=w9 at *
 have iI:=b1;have aN:=g1;clear b1 g1;clear hK hS;refine rK [12] 0 ?_;iterate 1 refine aC ?_
 refine aB ?_;refine aJ κ (fun wN hN hS=> ?_);try replace iI:=ζ (iI.o.grows hN)
 replace aN:=ζ (aN.o.trans hN);have oL:=ζ (hg0.o.trans aN.o);have bP5:=ζ (bP.out.grows aN.o);have bl5:=ζ (bl.out.grows aN.o);have bs5:=ζ (bs.out.grows aN.o);have bn5:=ζ (bn.out.grows aN.o);have XL:=ζ oL.o.size;clear aN Cc hg0 hz0 bP bl bs bn hN hS e0 el p1 pl cF2;cases FL with
 | none=>
  simp only[Option.isSome_none] at *
  go_wp2;go_ret;exact⟨_,rfl,by rw[hSn.o];exact Own.iH _ _ _ _ _,oL.o⟩
 | some tt=>
  simp only[Option.isSome_some,kN,Option.getD_some] at *
  have cTx:=ζ (cT.out tt (by first | rfl | trivial) wN oL.o);have TU:=ζ (fun k hk W hW gs gp gl gt gn=>cC2.out tt (by first | rfl | trivial) k hk W hW gs gp gl gt gn);have Vp:Hid (RES=(LL tt now).filter (fun k=> !!OA tt now k)):=ζ (by rw[hSn.o];simp only[Bool.not_not]);have p0:=bP5.out.c0;have p1:=bP5.out.c1;have p2:=bP5.out.c2;have p3:=bP5.out.c3;have p4:=bP5.out.c4;have p5:=bP5.out.c5;have pl:=bP5.out.lt;have l0:=bl5.out.c0;have ll:=bl5.out.lt;have n0':=bn5.out.c0;have nl:=bn5.out.lt;have t0:=iI.o.c0;have t1:=iI.o.c1;have tl:=iI.o.lt;clear cT cC2 hSn;go_wp2_with fail;refine cTx.out.mono ?_;rintro e w6 ⟨v6,rfl,uj,Bj⟩;have cD:=ζ (O1 54 #[.pointer (some ⟨w.heap.size+1+1,0,none⟩),.pointer (some ⟨w.heap.size,0,none⟩),.pointer (some ⟨w.heap.size+1,0,none⟩),.pointer (some ⟨gB,0,none⟩),.pointer (some ⟨w.heap.size+1+1+1,0,none⟩)] (enters_of Tryz.func54 κ rfl) _ wN.heap.size v6 (LL tt now) w6 uj Bj.size (hLl.o tt) (fun k hk W hW=>by
   have Zi:ah wN W:=Bj.iw hW;exact TU.out k hk W (oL.o.trans Zi) _ _ _ _ _ (bs5.out.grows Zi) (bP5.out.grows Zi) (bl5.out.grows Zi) (iI.o.grows Zi) (bn5.out.grows Zi)))
  clear cTx TU p0 p1 p2 p3 p4 p5 pl l0 ll n0' nl t0 t1 tl;go_wp2_with fail;refine cD.out.mono ?_;rintro e w7 ⟨v7,rfl,rG,hb7⟩;go_wp2;go_ret;exact⟨_,rfl,by rw[Vp.o];exact rG.bJ XL.o,oL.o.trans (Bj.iw hb7)⟩
end Go.Proofs.YtbhikkgpcmkonaaGreatDoor
