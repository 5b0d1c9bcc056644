/- Parts: LetE EngA InhI EngB -/
import Derived.Test.YtbhikkgpcmkonaaGreatDoorEn0
import Derived.Test.YtbhikkgpcmkonaaGreatDoorEn19
import Derived.Test.YtbhikkgpcmkonaaGreatDoorEn9
import Derived.Test.YtbhikkgpcmkonaaGreatDoorEn17
import Derived.Test.YtbhikkgpcmkonaaGreatDoorEn16
set_option maxRecDepth 100000
set_option maxHeartbeats 12800000
namespace Go.Proofs.YtbhikkgpcmkonaaGreatDoor
open Go.RowKit
theorem ava:eX Tryz.prog 62 65 3 40:=eX.mk' (z:=.agg #[.int .u64 0,.bool false,.slice none 0 0]) Tryz.underlying62 κ rfl ω
theorem hkT (x:qH):(abw x).length=3:=rfl
theorem aof (x:qH):∀u∈abw x,u.oneCell'=true:=by intro u hu;simp[abw] at hu;rcases hu with rfl | rfl | rfl <;> rfl
theorem oL.row {α:Type} {w w':World} {base b k:Nat} {x:qH} {t:TypeId} {enc:α→List Value} {v:Value} {ys:List α} (h:oL w base x) (hO:Own w b t k enc v ys) (ht:88≠t) (hg:w.grownBy w' v.ownBlock):oL w' base x:=
 h.eY hg (fun j hj=>by obtain⟨cur,hc⟩:=bD hO hj;exact aV h.1 hc ht)
structure dX (w:World) (base:Nat) (x:iC):Prop where
 eY:Own w base 88 2 eu (.slice x.bA x.bm x.bk) x.eY
 ts:Own w base 65 3 abw (.slice x.tA x.tl x.tk) x.ts
 at_:∀y∈x.ts,oL w base y
 ble:x.bm≤1000
 UH:∀f∈x.eY,f.v.length≤1000000
 tle:x.tl≤1000
theorem dX.grows {w w':World} {base:Nat} {x:iC} (h:dX w base x) (hg:ah w w'):dX w' base x:=⟨h.eY.grows hg,h.ts.grows hg,fun y hy=>(h.at_ y hy).grows hg,h.ble,h.UH,h.tle⟩
theorem dX.bH {w:World} {base b:Nat} {x:iC} (h:dX w base x) (hb:b≤base):dX w b x:=⟨h.eY.bH hb,h.ts.bH hb,fun y hy=>(h.at_ y hy).bH hb,h.ble,h.UH,h.tle⟩
theorem dX.aP {w w':World} {base g:Nat} {x:iC} {t:TypeId} {cur:Array Value} {fz:Nat×Nat} (h:dX w base x) (hc:w.heap[g]? = some (.cells cur t fz)) (h1:88≠t) (h2:65≠t) (hg:w.grownBy w' (some g)):dX w' base x:=
 ⟨h.eY.kept' hg (fun j hj=>by injection hj with hj;subst hj;exact aV h.eY hc h1),h.ts.kept' hg (fun j hj=>by injection hj with hj;subst hj;exact aV h.ts hc h2),
  fun y hy=>(h.at_ y hy).eY hg (fun j hj=>by injection hj with hj;subst hj;exact aV (h.at_ y hy).1 hc h1),h.ble,h.UH,h.tle⟩
theorem dX.far {w:World} {base g i:Nat} {x:iC} {t:TypeId} {cs:Array Value} (h:dX w base x) (hB:aF w g t cs) (h1:88≠t) (h2:65≠t) (u:Value):dX (w.setCell ⟨g,i,none⟩ u) base x:=h.aP hB h1 h2 (aj w ⟨g,i,none⟩ u)
theorem dX.good {w:World} {base:Nat} {x:iC} (h:dX w base x):x.At w:=by
 obtain⟨A,c,hv,-,-,hX⟩:=h.eY.arr GN;injection hv with h1 h2 h3
 obtain⟨A',c',hv',-,-,hX'⟩:=h.ts.arr hkT;injection hv' with h1' h2' h3'
 exact⟨by rw[h1,h2];exact hX,h.ble,h.UH,by rw[h1',h2'];exact hX',h.tle,fun y hy=>(h.at_ y hy).at_⟩
def jO:Array Value:= #[.string ⟨#[]⟩,.string ⟨#[]⟩,.int .i64 0,.int .i64 0,.slice none 0 0,.slice none 0 0]
def akA (o:Option iC):Array Value:=match o with
 | none=>jO
 | some x=> #[.string ⟨x.rc.toArray⟩,.string ⟨x.gr.toArray⟩,.int .i64 x.n,.int .i64 x.tm,.slice x.bA x.bm x.bk,.slice x.tA x.tl x.tk]
theorem wZ {w wM:World} {g:Nat} (hZ:aF wM g 64 jO) (hG:ah w wM) (sS:w.heap.size≤g) (u0 u1 u2 u3 u4 u5:Value) :
 aF ((((((wM.setCell ⟨g,0,none⟩ u0).setCell ⟨g,1,none⟩ u1).setCell ⟨g,2,none⟩ u2).setCell ⟨g,3,none⟩ u3).setCell ⟨g,4,none⟩ u4).setCell ⟨g,5,none⟩ u5) g 64 #[u0,u1,u2,u3,u4,u5]∧
 ah w ((((((wM.setCell ⟨g,0,none⟩ u0).setCell ⟨g,1,none⟩ u1).setCell ⟨g,2,none⟩ u2).setCell ⟨g,3,none⟩ u3).setCell ⟨g,4,none⟩ u4).setCell ⟨g,5,none⟩ u5)∧
 ∀x b,dX wM b x→dX ((((((wM.setCell ⟨g,0,none⟩ u0).setCell ⟨g,1,none⟩ u1).setCell ⟨g,2,none⟩ u2).setCell ⟨g,3,none⟩ u3).setCell ⟨g,4,none⟩ u4).setCell ⟨g,5,none⟩ u5) b x:=by
 have h0:=hZ.aW 0 u0;have h1:=h0.aW 1 u1;have h2:=h1.aW 2 u2;have h3:=h2.aW 3 u3;have h4:=h3.aW 4 u4;have h5:=h4.aW 5 u5;refine⟨h5.cast (by simp[jO]),?_,fun x b hO=>(((((hO.far hZ δ δ _).far h0 δ δ _).far h1 δ δ _).far h2 δ δ _).far h3 δ δ _).far h4 δ δ _⟩;exact ah.setCell (ah.setCell (ah.setCell (ah.setCell (ah.setCell (ah.setCell hG (p:=⟨g,0,none⟩) sS _) (p:=⟨g,1,none⟩) sS _) (p:=⟨g,2,none⟩) sS _) (p:=⟨g,3,none⟩) sS _) (p:=⟨g,4,none⟩) sS _) (p:=⟨g,5,none⟩) sS _
theorem YB {α:Type} {wM:World} {g b k:Nat} {t:TypeId} {enc:α→List Value} {v:Value} {xs:List α} {cs:Array Value} (hZ:aF wM g 64 cs) (hO:Own wM b t k enc v xs) (ht:t≠64) (u0 u1 u2 u3 u4 u5:Value) :
 Own ((((((wM.setCell ⟨g,0,none⟩ u0).setCell ⟨g,1,none⟩ u1).setCell ⟨g,2,none⟩ u2).setCell ⟨g,3,none⟩ u3).setCell ⟨g,4,none⟩ u4).setCell ⟨g,5,none⟩ u5) b t k enc v xs:=by
 have step:∀(w:World) (cs:Array Value) (i:Nat) (u:Value),aF w g 64 cs→Own w b t k enc v xs→aF (w.setCell ⟨g,i,none⟩ u) g 64 (cs.setIfInBounds i u)∧Own (w.setCell ⟨g,i,none⟩ u) b t k enc v xs:=fun w cs i u hB hO=>
  ⟨hB.aW i u,hO.kept' (aj w ⟨g,i,none⟩ u) (fun j hj=>by injection hj with hj;subst hj;exact aV hO hB ht)⟩
 obtain⟨b0,o0⟩:=step _ _ 0 u0 hZ hO;obtain⟨b1,o1⟩:=step _ _ 1 u1 b0 o0;obtain⟨b2,o2⟩:=step _ _ 2 u2 b1 o1;obtain⟨b3,o3⟩:=step _ _ 3 u3 b2 o2;obtain⟨b4,o4⟩:=step _ _ 4 u4 b3 o3;exact (step _ _ 5 u5 b4 o4).2
theorem pF {w:World} {g:Nat} (h:aF w g 64 jO) :
 w.cell? ⟨g,0,none⟩=some (.string ⟨#[]⟩)∧w.cell? ⟨g,1,none⟩=some (.string ⟨#[]⟩)∧w.cell? ⟨g,2,none⟩=some (.int .i64 0)∧w.cell? ⟨g,3,none⟩=some (.int .i64 0)∧w.cell? ⟨g,4,none⟩=some (.slice none 0 0)∧w.cell? ⟨g,5,none⟩=some (.slice none 0 0)∧(∀i,w.frozen? ⟨g,i,none⟩=false)∧g < w.heap.size:=
 ⟨h.cell 0,h.cell 1,h.cell 2,h.cell 3,h.cell 4,h.cell 5,fun i=>h.frozen i,h.lt⟩
def aqZ (wr:World) (base:Nat) (rc sg:List UInt8) (n tm:Int) (bs:List bK) (f:Nat→Value) (wz:World):Prop:=
 ∃(gL:Nat) (A:Option Addr) (k:Nat),f 14=.pointer (some ⟨gL,0,none⟩)∧aF wz gL 64 #[.string ⟨rc.toArray⟩,.string ⟨sg.toArray⟩,.int .i64 n,.int .i64 tm,.slice A bs.length k,.slice none 0 0]∧
  Own wz base 88 2 eu (.slice A bs.length k) bs∧ah wr wz∧wr.heap.size≤gL
def U7 (w:World) (L:Option KT) (e:Ending) (w':World):Prop:=∃o:Option iC,e =.returned (.tuple #[.agg (akA o),.bool o.isSome])∧o.map (·.I4)=L∧(∀x,o = some x→dX w' w.heap.size x)∧ah w w'
theorem SQ {fb:d_→Bool} {p:aY} {rec:List UInt8} {g:dA} {n now:Int} {lA:Option Addr} {lm lk:Nat} {xs:List dH} (w:World) (hT:lS w) (hp:p.At w) (nN:jc fb p) (hA:cu w 6 sG lA lm xs) (hat:∀a∈xs,a.At w) (Iw:lm≤1000)
 (hgb:cu w 2 eu g.bA g.bm g.eY) (iE:g.bm≤1000) (hgt:∀f∈g.eY,f.v.length≤1000000) (hgi:cu w 1 jC g.iA g.im g.ids) (TD:g.im≤1000) :
 Calls Tryz.prog 47 #[p.val,.string ⟨rec.toArray⟩,Py g,.slice lA lm lk,.agg #[.int .i64 n,.int .i64 now]] w (U7 w (jW fb p.aU rec g.g (xs.map (·.a)) n now)):=by
 have cF:=ζ (fun W (hW:ah w W)=>vM (c:=p.r.k) (n:=rec) W (hp.r.arr.keep hW) hp.r.le);have cK:=ζ (fun W (hW:ah w W)=>vN W (hp.keep hW) nN);have cO:=ζ (fun tt (ht:dY p.r.l rec=some tt) (id:Nat) W (hW:ah w W)=>adL (id:=id) (lk:=lk) (now:=now) W (hp.keep hW) (hA.keep hW) (fun a ha=>(hat a ha).keep hW) Iw (show tt.ok by obtain⟨y,hy,rfl⟩:=vK ht;exact hp.r.U_ y hy));have cS:=ζ (fun W=>Zy (n:=g.key) W);have cC:=ζ (fun W (hW:ah w W)=>KC (c:=g.bk) W (hgb.keep hW) ω);have cR:=ζ (fun (x:iC) W (hW:ah w W) (hx:x.At W) (h:x.gr.length≤1000000)=>WT W (hT.grows hW) hx h);have hM:jW fb p.aU rec g.g (xs.map (·.a)) n now=match dY p.r.l rec with
  | none=>none
  | some tt=>if fQ fb p.aU=0 then (if qR ⟨rec,nY g.key,n,now,g.eY,g.ids.filterMap fun id=>Fg p.aU (xs.map (·.a)) id tt now⟩ then some ⟨rec,nY g.key,n,now,g.eY,g.ids.filterMap fun id=>Fg p.aU (xs.map (·.a)) id tt now⟩ else none) else none:=rfl
 have hbl:=ζ hgb.1;have OG:=ζ hgi.1;replace hgi:=ζ hgi;replace hgt:=ζ hgt;generalize jW fb p.aU rec g.g (xs.map (·.a)) n now=Yi at *
 generalize fQ fb p.aU=CK at *
 have xR:(nY g.key).length≤1000000:=by unfold nY;rw[TK];unfold kD;simp
 generalize nY g.key=SG at *
 generalize hpp:Fg p.aU (xs.map (·.a))=OT at *
 clear hT hp nN hA hat hgb hpp;obtain⟨gr,gk,EF,gbA,gbm,gbk,QU,giA,gim,gik⟩:=g;unfold aY.val Py at *
 obtain⟨⟨sl,sA,sm,sk⟩,⟨rl,rA,rm,rk⟩,⟨el,eA,em,ek⟩,⟨al,aA,am,ak⟩,o,oA,om,ok,i,iA,im,ik⟩:=p;simp only at *
 generalize hFL:dY rl rec=FL at *
 replace hM:=ζ hM;clear hFL;go_enter Tryz.func47,Tryz.ntmps47
 go_wp2_with fail;refine (cF.out _ γ).mono ?_;rintro e w1 ⟨rfl,hb1⟩;have bP:aF w1 w.heap.size 50 #[.slice sA sm sk,.slice rA rm rk,.slice eA em ek,.slice aA am ak,.slice oA om ok,.slice iA im ik]:=((((aF.new w _ _).alloc _).alloc _).alloc _).grows hb1;have bG:aF w1 (w.heap.size+1) 125 #[.int .i64 (gr:Int),.slice gbA gbm gbk,.int .u64 (gk:Int),.slice giA gim gik]:=(((aF.ou w _ _ _).alloc _).alloc _).grows hb1;have bN:aF w1 (w.heap.size+1+1) 135 #[.int .i64 n,.int .i64 now]:=((aF.yH w _ _ _ _).alloc _).grows hb1;have bZ:aF w1 (w.heap.size+1+1+1) 64 jO:=(aF.WB w _ _ _ _ _).grows hb1;have gu:ah w w1:=(((((ah.refl w).alloc _).alloc _).alloc _).alloc _).trans hb1;have hz1:=hb1.size;simp only[World.size_alloc] at hz1;clear hb1 cF;cases FL with
 | none=>
  have QF:=ζ hM.o;simp only[Option.isSome_none,jE,Option.getD_none] at *
  have hend:=ζ (wZ bZ gu ω);have z0:=bZ.c0;have z1:=bZ.c1;have z2:=bZ.c2;have z3:=bZ.c3;have z4:=bZ.c4;have z5:=bZ.c5;have zf:=fun j=>bZ.frozen j
  have zl:=bZ.lt;clear bP bG bN;go_wp2;obtain⟨n0,n1,-⟩:=hend.o (.string ⟨#[]⟩) (.string ⟨#[]⟩) (.int .i64 0) (.int .i64 0) (.slice none 0 0) (.slice none 0 0);replace n0:=ζ (n0.alloc (.cells #[.int .i64 0,.int .u32 0] 25));replace n1:=ζ (n1.alloc (.cells #[.int .i64 0,.int .u32 0] 25));refine bodyPost_ret (v:=.tuple #[.agg jO,.bool false]) ?_ rfl ⟨none,rfl,QF.o.symm,(fun x hx=>by cases hx),n1.out⟩;have e0:=n0.out.cell 0;have e1:=n0.out.cell 1;have e2:=n0.out.cell 2;have e3:=n0.out.cell 3;have e4:=n0.out.cell 4;have e5:=n0.out.cell 5;simp only[List.getElem?_toArray,List.getElem?_cons_zero,List.getElem?_cons_succ] at e0 e1 e2 e3 e4 e5;simp[results,Tryz.results47,go_sem,e0,e1,e2,e3,e4,e5,jO]
 | some tt=>
  simp only[Option.isSome_some,jE,Option.getD_some] at *
  have bP2:=bP.alloc (.cells #[.int .i64 tt.lv,.int .u32 (tt.c:Int)] 25);have bG2:=bG.alloc (.cells #[.int .i64 tt.lv,.int .u32 (tt.c:Int)] 25);have bN2:=bN.alloc (.cells #[.int .i64 tt.lv,.int .u32 (tt.c:Int)] 25);have UO:=bZ.alloc (.cells #[.int .i64 tt.lv,.int .u32 (tt.c:Int)] 25);have bL2:=aF.new w1 25 #[.int .i64 tt.lv,.int .u32 (tt.c:Int)];have fG:=gu.alloc (.cells #[.int .i64 tt.lv,.int .u32 (tt.c:Int)] 25);have p0:=bP.c0;have p1:=bP.c1;have p2:=bP.c2;have p3:=bP.c3;have p4:=bP.c4;have p5:=bP.c5;have pl:=bP.lt;clear bP bG bN bZ gu;go_wp2_with fail;refine (cK.out _ fG).mono ?_;rintro e w2 ⟨rfl,hb2⟩;replace bP2:=bP2.grows hb2;replace bG2:=bG2.grows hb2;replace bN2:=bN2.grows hb2;replace UO:=UO.grows hb2;replace bL2:=bL2.grows hb2;replace fG:=fG.trans hb2;have hz2:=hb2.size;simp only[World.size_alloc] at hz2;obtain⟨gT,Dw⟩:∃gT,gT=w1.heap.size:=⟨_,rfl⟩;rw[←Dw] at bL2 hz1 hz2 ⊢;replace Dw:=ζ Dw;clear hb2 cK p0 p1 p2 p3 p4 p5 pl;by_cases zH:CK=0
  ·subst zH;replace hM:Hid (Yi=if qR ⟨rec,SG,n,now,EF,QU.filterMap fun id=>OT id tt now⟩ then some ⟨rec,SG,n,now,EF,QU.filterMap fun id=>OT id tt now⟩ else none):=ζ (hM.o.trans (if_pos rfl));have g1:=bG2.c1;have g2:=bG2.c2;have gl:=bG2.lt;have a0:=bN2.c0;have a1:=bN2.c1;have al:=bN2.lt;have aS:=ζ (ah.refl w2);replace bP2:=ζ bP2;replace bG2:=ζ bG2;replace bN2:=ζ bN2;replace UO:=ζ UO;replace bL2:=ζ bL2;replace fG:=ζ fG;go_wp2_with fail;apply IV (is:=[44,45,14]) (R:=aqZ w2 w.heap.size rec SG n now EF)
   case h1=>
    refine aH κ ?_;refine rK (.range 10) 4 ?_;iterate 3 refine aC ?_
    refine bQ (.string ⟨SG.toArray⟩) rfl χ (fun wq fU=> ?_) ?_
    ·obtain⟨rC,qE⟩:=dM fU;go_simp;exact Calls.mono (cS.out wq) (fun e w'' h=>h)
    go_simp;iterate 6 refine aC ?_
    refine aB ?_;refine aK [10,12] κ σ (fun wN hN hS=>(ay.cons rfl (fun K' hK=> ?_) (ay.cons rfl (fun K' hK=> ?_) ay.nil)))
    ·skip
     try replace fV:=ζ (fV.o.grows hN)
     try replace jY:=ζ (jY.o.grows hN)
     try replace aS:=ζ (aS.o.trans hN)
     clear hN;go_simp;refine (cC.out _ (fG.o.trans aS.o)).mono ?_;rintro e w5 ⟨v5,rfl,mY,iU⟩;obtain⟨A5,k5,rfl,-,-,-⟩:=mY.arr GN;have jY:=ζ (mY.bH (base':=w.heap.size) (by have:=(fG.o.trans aS.o).size;omega));try replace fV:=ζ (fV.o.grows iU)
     replace aS:=ζ (aS.o.trans iU);refine hK.o _ _ ?_ (fun hS=> ?_)
     ·exact aS.o
     clear iU mY;clear hK hS;refine rK [11] 2 ?_;iterate 1 refine aC ?_
     refine aB ?_;refine aK [12] κ σ (fun wN hN hS=>(ay.cons rfl (fun K' hK=> ?_) ay.nil));try replace fV:=ζ (fV.o.grows hN)
     try replace jY:=ζ (jY.o.grows hN)
     try replace aS:=ζ (aS.o.trans hN)
     clear hN;go_simp;have fV:=ζ (aF.new wN 64 jO);have AA:Hid (w2.heap.size≤wN.heap.size):=ζ aS.o.size;replace aS:=ζ (aS.o.alloc (.cells jO 64));try replace jY:=ζ (jY.o.grows ((ah.refl wN).alloc (.cells jO 64)))
     refine hK.o _ _ ?_ (fun hS=> ?_)
     ·exact aS.o
     generalize wN.heap.size=gc at *
     clear hK hS;refine aK [13] κ σ (fun wN hN hS=>(ay.cons rfl (fun K' hK=> ?_) ay.nil));try replace fV:=ζ (fV.o.grows hN)
     try replace jY:=ζ (jY.o.grows hN)
     try replace aS:=ζ (aS.o.trans hN)
     clear hN;have hend:=ζ (wZ fV.o aS.o AA.o);have hown:=ζ (YB fV.o jY.o δ);obtain⟨z0,z1,z2,z3,z4,z5,zf,zl⟩:=pF fV.o;go_simp;refine hK.o _ _ ?_ (fun hS=> ?_)
     ·exact (hend.o _ _ _ _ _ _).2.1
     clear z0 z1 z2 z3 z4 z5 zf zl;obtain⟨n0,n1,-⟩:=hend.o (.string ⟨rec.toArray⟩) (.string ⟨SG.toArray⟩) (.int .i64 n) (.int .i64 now) (.slice A5 EF.length k5) (.slice none 0 0);have nO:=hown.o (.string ⟨rec.toArray⟩) (.string ⟨SG.toArray⟩) (.int .i64 n) (.int .i64 now) (.slice A5 EF.length k5) (.slice none 0 0);clear hend hown;generalize ((((((wN.setCell ⟨gc,0,none⟩ (.string ⟨rec.toArray⟩)).setCell ⟨gc,1,none⟩ (.string ⟨SG.toArray⟩)).setCell ⟨gc,2,none⟩ (.int .i64 n)).setCell ⟨gc,3,none⟩ (.int .i64 now)).setCell ⟨gc,4,none⟩ (.slice A5 EF.length k5)).setCell ⟨gc,5,none⟩ (.slice none 0 0))=w9 at *
     clear fV aS jY;have fV:=ζ n0;have aS:=ζ n1;have jY:=ζ nO;clear n0 n1 nO;clear hK hS;refine aJ κ (fun wN hN hS=> ?_);try replace fV:=ζ (fV.o.grows hN)
     try replace jY:=ζ (jY.o.grows hN)
     try replace aS:=ζ (aS.o.trans hN)
     refine⟨(by
      simp only[fZ,List.foldl_cons,List.foldl_nil];go_simp;try rfl
     ),gc,A5,k5,rfl,fV.o,jY.o,aS.o,AA.o⟩
    ·skip
     try replace fV:=ζ (fV.o.grows hN)
     try replace jY:=ζ (jY.o.grows hN)
     try replace aS:=ζ (aS.o.trans hN)
     clear hN;go_simp;have fV:=ζ (aF.new wN 64 jO);have AA:Hid (w2.heap.size≤wN.heap.size):=ζ aS.o.size;replace aS:=ζ (aS.o.alloc (.cells jO 64));try replace jY:=ζ (jY.o.grows ((ah.refl wN).alloc (.cells jO 64)))
     refine hK.o _ _ ?_ (fun hS=> ?_)
     ·exact aS.o
     generalize wN.heap.size=gc at *
     clear hK hS;refine aK [10] κ σ (fun wN hN hS=>(ay.cons rfl (fun K' hK=> ?_) ay.nil));try replace fV:=ζ (fV.o.grows hN)
     try replace jY:=ζ (jY.o.grows hN)
     try replace aS:=ζ (aS.o.trans hN)
     clear hN;go_simp;refine (cC.out _ (fG.o.trans aS.o)).mono ?_;rintro e w5 ⟨v5,rfl,mY,iU⟩;obtain⟨A5,k5,rfl,-,-,-⟩:=mY.arr GN;have jY:=ζ (mY.bH (base':=w.heap.size) (by have:=(fG.o.trans aS.o).size;omega));try replace fV:=ζ (fV.o.grows iU)
     replace aS:=ζ (aS.o.trans iU);refine hK.o _ _ ?_ (fun hS=> ?_)
     ·exact aS.o
     clear iU mY;clear hK hS;refine rK [11] 1 ?_;iterate 1 refine aC ?_
     refine aB ?_;refine aK [13] κ σ (fun wN hN hS=>(ay.cons rfl (fun K' hK=> ?_) ay.nil));try replace fV:=ζ (fV.o.grows hN)
     try replace jY:=ζ (jY.o.grows hN)
     try replace aS:=ζ (aS.o.trans hN)
     clear hN;have hend:=ζ (wZ fV.o aS.o AA.o);have hown:=ζ (YB fV.o jY.o δ);obtain⟨z0,z1,z2,z3,z4,z5,zf,zl⟩:=pF fV.o;go_simp;refine hK.o _ _ ?_ (fun hS=> ?_)
     ·exact (hend.o _ _ _ _ _ _).2.1
     clear z0 z1 z2 z3 z4 z5 zf zl;obtain⟨n0,n1,-⟩:=hend.o (.string ⟨rec.toArray⟩) (.string ⟨SG.toArray⟩) (.int .i64 n) (.int .i64 now) (.slice A5 EF.length k5) (.slice none 0 0);have nO:=hown.o (.string ⟨rec.toArray⟩) (.string ⟨SG.toArray⟩) (.int .i64 n) (.int .i64 now) (.slice A5 EF.length k5) (.slice none 0 0);clear hend hown;generalize ((((((wN.setCell ⟨gc,0,none⟩ (.string ⟨rec.toArray⟩)).setCell ⟨gc,1,none⟩ (.string ⟨SG.toArray⟩)).setCell ⟨gc,2,none⟩ (.int .i64 n)).setCell ⟨gc,3,none⟩ (.int .i64 now)).setCell ⟨gc,4,none⟩ (.slice A5 EF.length k5)).setCell ⟨gc,5,none⟩ (.slice none 0 0))=w9 at *
     clear fV aS jY;have fV:=ζ n0;have aS:=ζ n1;have jY:=ζ nO;clear n0 n1 nO;clear hK hS;refine aJ κ (fun wN hN hS=> ?_);try replace fV:=ζ (fV.o.grows hN)
     try replace jY:=ζ (jY.o.grows hN)
     try replace aS:=ζ (aS.o.trans hN)
     refine⟨(by
      simp only[fZ,List.foldl_cons,List.foldl_nil];go_simp;try rfl
     ),gc,A5,k5,rfl,fV.o,jY.o,aS.o,AA.o⟩
   intro fz w3 hR;obtain⟨gL,A,kk,e14,OL,NH,hb3,ayB⟩:=hR;simp only[kJ,List.foldl_cons,List.foldl_nil,e14];replace bP2:=ζ (bP2.out.grows hb3);replace bG2:=ζ (bG2.out.grows hb3);replace bN2:=ζ (bN2.out.grows hb3);replace UO:=ζ (UO.out.grows hb3);replace bL2:=ζ (bL2.out.grows hb3);have qW:=ζ (fG.o.trans hb3);have g3:=bG2.out.c3;have gl:=bG2.out.lt;have aaF:=qW.o.size;have ayy:=OL.lt;replace OL:=ζ OL;replace NH:=ζ NH;clear hb3 aS g1 g2 a0 a1 al cC cS e14 fG bG2;go_wp2;go_loopw [16,17,18,49] (fun _ _ _ n' wr=>∃(k:Nat) (ts:List qH) (vA:Option Addr) (vk:Nat),k≤gim∧n'=.int .i64 (k:Int)∧Hid (Own wr w3.heap.size 65 3 abw (.slice vA ts.length vk) ts)∧Hid (∀y∈ts,oL wr w.heap.size y)∧Hid (ts.map (·.t)=(QU.take k).filterMap fun id=>OT id tt now)∧Hid (ts.length≤k)∧
    Hid (aF wr gL 64 #[.string ⟨rec.toArray⟩,.string ⟨SG.toArray⟩,.int .i64 n,.int .i64 now,.slice A EF.length kk,.slice vA ts.length vk])∧Hid (Own wr w.heap.size 88 2 eu (.slice A EF.length kk) EF)∧
    Hid (aF wr w.heap.size 50 #[.slice sA sm sk,.slice rA rm rk,.slice eA em ek,.slice aA am ak,.slice oA om ok,.slice iA im ik])∧Hid (aF wr (w.heap.size+1+1) 135 #[.int .i64 n,.int .i64 now])∧Hid (aF wr (w.heap.size+1+1+1) 64 jO)∧Hid (aF wr gT 25 #[.int .i64 tt.lv,.int .u32 (tt.c:Int)])∧Hid (ah w wr)∧Hid (w3.heap.size≤wr.heap.size)) (fun _ _ _ n' _=>gim-(intOf n').toNat)
   case atStart=>exact⟨0,[],none,0,ω,rfl,Own.jA _ _ _ _ _,(fun y hy=>by cases hy),rfl,Nat.le_refl _,OL,NH,bP2,bN2,UO,bL2,qW,Nat.le_refl _⟩
   case round=>
    clear OL NH bP2 bN2 UO bL2;obtain⟨k,ts,vA,vk,hk,rfl,hO,hat,heq,hle,OL,NH,bP,bN,bZ,bL,hG,hsz⟩:=hrel;by_cases yR:k<gim
    ·obtain⟨bb,off,id,rfl,GK,hx,hcell⟩:=(hgi.o.keep hG.o).at_ yR;have c0:wr.cell? ⟨bb,off+k,none⟩=some (.int .u64 (id:Int)):=by simpa using hcell 0 _ rfl
     have lK:(k:Int)<(gim:Int):=ω;have uJ:Hid ((QU.take (k+1)).filterMap (fun id=>OT id tt now)=(QU.take k).filterMap (fun id=>OT id tt now)++(OT id tt now).toList):=ζ (by
      rw[List.take_add_one,hx,List.filterMap_append];simp only[Option.toList_some];rw[List.filterMap_cons];cases OT id tt now <;> simp)
     have p0:=bP.out.c0;have p1:=bP.out.c1;have p2:=bP.out.c2;have p3:=bP.out.c3;have p4:=bP.out.c4;have p5:=bP.out.c5;have pl:=bP.out.lt;have l0:=bL.out.c0;have l1:=bL.out.c1;have ll:=bL.out.lt;have a1:=bN.out.c1;have al:=bN.out.lt;have cOx:=ζ (cO.out tt (by first | rfl | trivial) id wr hG.o);have hbw:=hG.o.size;clear hcell hx cR hM;go_wp2_with fail;refine cOx.out.mono ?_;rintro e w5 ⟨o,rfl,hot,hoo,iU⟩;clear c0 p0 p1 p2 p3 p4 p5 pl l0 l1 ll a1 al cOx;cases o with
     | none=>
      have hF:Hid (ts.map (·.t)=(QU.take (k+1)).filterMap (fun id=>OT id tt now)):=ζ (by rw[uJ.o,←hot,heq.o];simp);have mX:=ζ (iU.alloc (.cells #[.int .u64 0,.bool false,.slice none 0 0] 65));clear hot uJ heq hoo iU;simp only[Option.isSome_none,MV];go_wp2;go_roundw
      case rel=>exact⟨k+1,ts,vA,vk,ω,ν,hO.o.grows mX.o,ζ (fun y hy=>(hat.o y hy).grows mX.o),hF,ζ (by have:=hle.o;omega),OL.o.grows mX.o,NH.o.grows mX.o,bP.out.grows mX.o,bN.out.grows mX.o,bZ.out.grows mX.o,bL.out.grows mX.o,hG.o.trans mX.o,ζ (Nat.le_trans hsz.o mX.o.size)⟩
      case measure=>exact ψ
     | some y=>
      have hF:Hid ((ts++[y]).map (·.t)=(QU.take (k+1)).filterMap (fun id=>OT id tt now)):=ζ (by rw[uJ.o,←hot,List.map_append,heq.o];rfl);have mX:=ζ ((iU.alloc (.cells #[.int .u64 (y.t.id:Int),.bool y.t.kQ,.slice y.A y.m y.k] 65)).alloc (.cells #[.int .u64 (y.t.id:Int),.bool y.t.kQ,.slice y.A y.m y.k] 65));have Nl:((w5.alloc (.cells #[.int .u64 (y.t.id:Int),.bool y.t.kQ,.slice y.A y.m y.k] 65)).alloc (.cells #[.int .u64 (y.t.id:Int),.bool y.t.kQ,.slice y.A y.m y.k] 65)).heap[w5.heap.size+1]? = some (.cells #[.int .u64 (y.t.id:Int),.bool y.t.kQ,.slice y.A y.m y.k] 65 (0,0)):=by
       have:=heap_alloc_new (w5.alloc (.cells #[.int .u64 (y.t.id:Int),.bool y.t.kQ,.slice y.A y.m y.k] 65)) (.cells #[.int .u64 (y.t.id:Int),.bool y.t.kQ,.slice y.A y.m y.k] 65);rwa [World.size_alloc] at this
      have hya:=ζ ((((hoo y rfl).bH hbw).grows ((ah.refl w5).alloc (.cells #[.int .u64 (y.t.id:Int),.bool y.t.kQ,.slice y.A y.m y.k] 65))).grows ((ah.refl _).alloc (.cells #[.int .u64 (y.t.id:Int),.bool y.t.kQ,.slice y.A y.m y.k] 65)));have uF:=ζ (hO.o.grows mX.o);have at1:=ζ (fun z hz=>(hat.o z hz).grows mX.o);have aqa:=ζ (OL.o.grows mX.o);have ajw:=ζ (NH.o.grows mX.o);have bP6:=ζ (bP.out.grows mX.o);have bN6:=ζ (bN.out.grows mX.o);have bZ6:=ζ (bZ.out.grows mX.o);have bL6:=ζ (bL.out.grows mX.o);have GV:=ζ (hG.o.trans mX.o);have ahw:=ζ (Nat.le_trans hsz.o mX.o.size);have l5:=(OL.o.grows iU).c5;have ll5:=(OL.o.grows iU).lt;have ahI:=hle.o;replace Nl:=ζ Nl;have asP:=ζ (show w3.heap.size≤w5.heap.size+1+1 by have:=hsz.o;have:=iU.size;omega);clear hot uJ heq hoo mX hO hat OL NH bP bN bZ bL hG hsz iU;simp only[Option.isSome_some,MV];go_wp2_with (at_builtin;refine gy (x:=y) ava rfl (.tmp 65) (.tmp 67) rfl uF.o rfl ⟨w5.heap.size+1,0,none⟩ rfl rfl (lJ Nl.o) (aof y) (by have:=asP.o;simp;omega) (by unfold maxLen;omega) ω (fun v7 w7 vT hgr FQ=> ?_);(obtain⟨A7,k7,rfl,-,-,-⟩:=vT.arr hkT);(rw[show (ts++[y]).length=ts.length+1 by simp] at vT);(have NM:=aqa.o.aP hgr (fun e=>aV uF.o aqa.o δ e.symm));(have ajv:=ζ (ajw.o.kept' hgr (fun j hj hv=>by obtain⟨cur,hc⟩:=bD uF.o hj;exact aV ajw.o hc δ hv)));(have atZ:=ζ (fun z hz=>(at1.o z hz).row uF.o δ hgr));(have hy7:=ζ (hya.o.row uF.o δ hgr));(have bP7:=ζ (bP6.out.aP hgr (fun e=>aV uF.o bP6.out δ e.symm)));(have bN7:=ζ (bN6.out.aP hgr (fun e=>aV uF.o bN6.out δ e.symm)));(have bZ7:=ζ (bZ6.out.aP hgr (fun e=>aV uF.o bZ6.out δ e.symm)));(have bL7:=ζ (bL6.out.aP hgr (fun e=>aV uF.o bL6.out δ e.symm)));(have hG7:=ζ (GV.o.aP hgr (fun g e=>Nat.le_trans aaF (uF.o.fH g e))));(have asV:=ζ (Nat.le_trans ahw.o hgr.size));(have c7:w7.cell? ⟨gL,5,none⟩=some (.slice vA ts.length vk):=NM.cell 5);(have f7:=NM.frozen 5);(have l7:=NM.lt);(replace NM:=ζ NM);(replace vT:=ζ vT);clear hgr FQ);go_roundw
      case rel=>
       have e1:(ts++[y]).length=ts.length+1:=by simp
       refine⟨k+1,ts++[y],A7,k7,ω,ν,?_,?_,hF,?_,?_,?_,?_,?_,?_,?_,?_,?_⟩
       ·rw[e1];exact ζ (vT.o.kept' (aj w7 ⟨gL,5,none⟩ _) (fun j hj=>by injection hj with hj;subst hj;exact aV vT.o NM.o δ))
       ·refine ζ (fun z hz=> ?_);rcases List.mem_append.1 hz with hz | hz
        ·exact (atZ.o z hz).far NM.o δ _
        ·rw[List.mem_singleton.1 hz];exact hy7.o.far NM.o δ _
       ·exact ζ (by rw[e1];omega)
       ·rw[e1];exact ζ ((NM.o.aW 5 (.slice A7 (ts.length+1) k7)).cast σ)
       ·exact ζ (ajv.o.kept' (aj w7 ⟨gL,5,none⟩ _) (fun j hj=>by injection hj with hj;subst hj;exact aV ajv.o NM.o δ))
       ·exact ζ (bP7.out.far (by simp;omega) _)
       ·exact ζ (bN7.out.far (by simp;omega) _)
       ·exact ζ (bZ7.out.far (by simp;omega) _)
       ·exact ζ (bL7.out.far (by simp;omega) _)
       ·exact ζ (hG7.o.setCell (by simp;omega) _)
       ·exact ζ (by simpa using asV.o)
      case measure=>exact ψ
    ·obtain rfl:k=gim:=ω;have hall:Hid (ts.map (·.t)=QU.filterMap fun id=>OT id tt now):=ζ (by rw[heq.o,←OG.o,List.take_length]);have hLO:dX wr w.heap.size ⟨rec,SG,n,now,EF,A,EF.length,kk,ts,vA,ts.length,vk⟩:=
      ⟨NH.o,hO.o.bH aaF,hat.o,by show EF.length≤1000;have:=hbl.o;omega,hgt.o,by show ts.length≤1000;have:=hle.o;omega⟩
     have Pe:=ζ (cR.out ⟨rec,SG,n,now,EF,A,EF.length,kk,ts,vA,ts.length,vk⟩ wr hG.o hLO.good xR);have hlt:iC.I4 ⟨rec,SG,n,now,EF,A,EF.length,kk,ts,vA,ts.length,vk⟩=⟨rec,SG,n,now,EF,QU.filterMap fun id=>OT id tt now⟩:=by unfold iC.I4;rw[hall.o]
     rw[←hlt] at hM;replace hlt:=ζ hlt;generalize hLB:qR (iC.I4 ⟨rec,SG,n,now,EF,A,EF.length,kk,ts,vA,ts.length,vk⟩)=LB at *
     have l0:=OL.o.c0;have l1:=OL.o.c1;have l2:=OL.o.c2;have l3:=OL.o.c3;have l4:=OL.o.c4;have l5:=OL.o.c5;have ll:=OL.o.lt;replace hLO:=ζ hLO;unfold aj6 at Pe;simp only at Pe;clear hLB hgi hgt cR cO heq hle hat NH hO bP bN bL hall;go_wp2_with fail;refine Pe.out.mono ?_;rintro e w5 ⟨rfl,iU⟩;have hend:=ζ (wZ (bZ.out.grows iU) (hG.o.trans iU) ω);replace hLO:=ζ (hLO.o.grows iU);have Ue:=OL.o.grows iU;obtain⟨z0,z1,z2,z3,z4,z5,zf,zl⟩:=pF (bZ.out.grows iU);clear l0 l1 l2 l3 l4 l5 ll bZ OL hG Pe hsz iU;cases LB with
     | false=>
      have QF:Hid (Yi=none):=ζ (by rw[hM.o];rfl);go_wp2;obtain⟨n0,n1,-⟩:=hend.o (.string ⟨#[]⟩) (.string ⟨#[]⟩) (.int .i64 0) (.int .i64 0) (.slice none 0 0) (.slice none 0 0);replace n0:=ζ n0;replace n1:=ζ n1;refine bodyPost_ret (v:=.tuple #[.agg jO,.bool false]) ?_ rfl ⟨none,rfl,QF.o.symm,(fun x hx=>by cases hx),n1.out⟩;have e0:=n0.out.cell 0;have e1:=n0.out.cell 1;have e2:=n0.out.cell 2;have e3:=n0.out.cell 3;have e4:=n0.out.cell 4;have e5:=n0.out.cell 5;simp only[List.getElem?_toArray,List.getElem?_cons_zero,List.getElem?_cons_succ] at e0 e1 e2 e3 e4 e5;simp[results,Tryz.results47,go_sem,e0,e1,e2,e3,e4,e5,jO]
     | true=>
      have QF:Hid (Yi=some (iC.I4 ⟨rec,SG,n,now,EF,A,EF.length,kk,ts,vA,ts.length,vk⟩)):=ζ (by rw[hM.o];rfl);have l0:=Ue.c0;have l1:=Ue.c1;have l2:=Ue.c2;have l3:=Ue.c3;have l4:=Ue.c4;have l5:=Ue.c5;have ll:=Ue.lt;clear Ue;go_wp2;obtain⟨n0,n1,n2⟩:=hend.o (.string ⟨rec.toArray⟩) (.string ⟨SG.toArray⟩) (.int .i64 n) (.int .i64 now) (.slice A EF.length kk) (.slice vA ts.length vk);replace n0:=ζ n0;replace n1:=ζ n1;replace n2:=ζ (n2 _ _ hLO.o);refine bodyPost_ret (v:=.tuple #[.agg #[.string ⟨rec.toArray⟩,.string ⟨SG.toArray⟩,.int .i64 n,.int .i64 now,.slice A EF.length kk,.slice vA ts.length vk],.bool true]) ?_ rfl ⟨some ⟨rec,SG,n,now,EF,A,EF.length,kk,ts,vA,ts.length,vk⟩,rfl,QF.o.symm,(fun x hx=>by injection hx with hx;subst hx;exact n2.out),n1.out⟩;have e0:=n0.out.cell 0;have e1:=n0.out.cell 1;have e2:=n0.out.cell 2;have e3:=n0.out.cell 3;have e4:=n0.out.cell 4;have e5:=n0.out.cell 5;simp only[List.getElem?_toArray,List.getElem?_cons_zero,List.getElem?_cons_succ] at e0 e1 e2 e3 e4 e5;simp[results,Tryz.results47,go_sem,e0,e1,e2,e3,e4,e5]
  ·have QF:Hid (Yi=none):=ζ (by rw[hM.o,if_neg zH]);have hend:=ζ (wZ UO fG ω);have z0:=UO.c0;have z1:=UO.c1;have z2:=UO.c2;have z3:=UO.c3;have z4:=UO.c4;have z5:=UO.c5;have zf:=fun j=>UO.frozen j
   have zl:=UO.lt;clear bP2 bG2 bN2 fG bL2;go_wp2;obtain⟨n0,n1,-⟩:=hend.o (.string ⟨#[]⟩) (.string ⟨#[]⟩) (.int .i64 0) (.int .i64 0) (.slice none 0 0) (.slice none 0 0);replace n0:=ζ n0;replace n1:=ζ n1;refine bodyPost_ret (v:=.tuple #[.agg jO,.bool false]) ?_ rfl ⟨none,rfl,QF.o.symm,(fun x hx=>by cases hx),n1.out⟩;have e0:=n0.out.cell 0;have e1:=n0.out.cell 1;have e2:=n0.out.cell 2;have e3:=n0.out.cell 3;have e4:=n0.out.cell 4;have e5:=n0.out.cell 5;simp only[List.getElem?_toArray,List.getElem?_cons_zero,List.getElem?_cons_succ] at e0 e1 e2 e3 e4 e5;simp[results,Tryz.results47,go_sem,e0,e1,e2,e3,e4,e5,jO]
end Go.Proofs.YtbhikkgpcmkonaaGreatDoor
namespace Go.Proofs.YtbhikkgpcmkonaaGreatDoor
open Go.RowKit Go.Maps Go.WideMaps
theorem aby {g:dA} (w:World) (he:lT w) (hr:g.r < 10000) (hA:cu w 2 eu g.bA g.bm g.eY) (hm:g.bm≤100) (hf:∀f∈g.eY,f.n.length+f.v.length≤1000) :
 Calls Tryz.prog 44 #[Py g] w fun e w'=>e =.returned (.string ⟨(cZ g.r g.eY).toArray⟩)∧ah w w':=by
 obtain⟨r,key,fs,A,m,c,ids,iA,im,ik⟩:=g;unfold Py;simp only at *
 have nM:=ζ hA.1;have cI:∀n:Nat,n≤100000→∀W,ah w W→Calls Tryz.prog 77 #[.int .i64 n] W fun e w'=>e =.returned (.string ⟨(Lib.decDigits n).toArray⟩)∧ah W w':=fun n h1 W hW=>by
  have:=Tf (n:Int) ω ω W (he.grows hW);rwa [Td (n:Int) ω,Int.toNat_natCast] at this
 have cR:=cI r ω;have hkb:∀k,(cZ r (fs.take k)).length≤200000:=fun k=>by
  have h1:=vX hr (fs.take k) (fun f h=>hf f (List.mem_of_mem_take h));have h2:(fs.take k).length≤100:=by have:=nM.o;rw[List.length_take];omega
  omega
 have OO:=Jl r;generalize Lib.decDigits r = dr at *
 replace cI:=ζ cI;replace cR:=ζ cR;replace hA:=ζ hA;replace hf:=ζ hf;replace hkb:=ζ hkb;replace OO:=ζ OO;clear he;have hBg:=aF.new w 125 #[.int .i64 (r:Int),.slice A m c,.int .u64 (key:Int),.slice iA im ik];have hg0:=(ah.refl w).alloc (.cells #[.int .i64 (r:Int),.slice A m c,.int .u64 (key:Int),.slice iA im ik] 125);go_enter Tryz.func44,Tryz.ntmps44
 go_wp2_with fail;refine (cR.out _ hg0).mono ?_;rintro e w1 ⟨rfl,hb1⟩;have ap9:=hBg.grows hb1;have g1:=ap9.c1;have gl:=ap9.lt;have gu:=ζ (hg0.trans hb1);clear hBg hg0 hb1 cR;go_wp2;go_loopw [3,5,12] (fun s _ i wr=>∃(k:Nat) (S:List UInt8),k≤m∧i =.int .i64 k∧s =.string ⟨S.toArray⟩∧Hid (S=cZ r (fs.take k))∧Hid (ah w wr)) (fun _ _ i _=>m - (intOf i).toNat)
 case atStart=>exact⟨0,dr,ω,rfl,rfl,(OO.o.symm:dr=cZ r (fs.take 0)),gu⟩
 case round=>
  obtain⟨k,S,hk,rfl,rfl,hS,hG⟩:=hrel;by_cases yR:k<m
  ·obtain⟨bb,off,f,rfl,GK,hx,hcell⟩:=(hA.o.keep hG.o).at_ yR;have c0:wr.cell? ⟨bb,off+k*2,none⟩=some (.string ⟨f.n.toArray⟩):=by simpa using hcell 0 _ rfl
   have c1:wr.cell? ⟨bb,off+k*2+1,none⟩=some (.string ⟨f.v.toArray⟩):=by simpa using hcell 1 _ rfl
   have zG:=hf.o f (List.mem_of_getElem? hx);have lK:(k:Int)<(m:Int):=ω;have Du:=hkb.o k;rw[←hS.o] at Du;have cL:=cI.out f.v.length ω;have uJ:fs.take (k+1)=fs.take k++[f]:=by rw[List.take_add_one,hx];rfl
   have nP:S++uw f = cZ r (fs.take (k+1)):=by rw[uJ,Gt,hS.o]
   have hdl:=w_ (n:=f.v.length) ω;unfold uw at nP;generalize Lib.decDigits f.v.length=dv at *
   replace cL:=ζ cL;replace nP:=ζ nP;have I8:Hid (ah w (wr.alloc (.cells #[.string ⟨f.n.toArray⟩,.string ⟨f.v.toArray⟩] 88))):=ζ (hG.o.alloc _);clear hcell hx uJ hS;go_wp2_with fail;refine aH κ ?_;refine rK (.range 16) 0 ?_;iterate 8 refine aC ?_
   refine bQ (.string ⟨dv.toArray⟩) rfl χ (fun wq fU=> ?_) ?_
   ·obtain⟨rC,qE⟩:=dM fU;go_simp;exact Calls.mono (cL.out wq (I8.o.trans fU)) (fun e w'' h=>h)
   go_simp;iterate 7 refine aC ?_
   refine aB ?_;refine aJ κ (fun wN hN hS=> ?_);go_wp2;go_roundw
   case rel=>exact⟨k+1,S++0::(f.n ++61::(dv++58::f.v)),ω,ν,congrArg Value.string (ByteArray.ext σ),nP,I8.o.trans hN⟩
   case measure=>exact ψ
  ·obtain rfl:k=m:=ω;have aO:S=cZ r fs:=by rw[hS.o,List.take_of_length_le (by have:=nM.o;omega)]
   replace aO:=ζ aO;clear hS;go_wp2;go_ret;exact⟨by rw[aO.o];rfl,hG.o⟩
theorem Uo (rec:List UInt8) (w:World) :
 Calls Tryz.prog 12 #[.string ⟨rec.toArray⟩] w fun e w'=>∃ge b,e =.returned (.pointer (some ⟨ge,0,none⟩))∧aF w' ge 118 #[.string ⟨rec.toArray⟩,.map (some b),.int .i64 (-1)]∧qI w' b 0 []∧w.heap.size≤ge∧w.heap.size≤b∧ah w w':=by
 have hmm:= @run_makeMap Tryz.prog;go_enter Tryz.func12,Tryz.ntmps12
 go_wp2;go_ret;refine⟨w.heap.size+1,w.heap.size,rfl,aF.ou w _ _ _,(qI.made w).grows ((ah.refl _).alloc _),ω,ω,?_⟩;exact Γ
theorem YA {fb:d_→Bool} {p:aY} {rec:List UInt8} {st:Eng} {now:Int} {ge b:Nat} (w:World) (hp:p.At w) (nN:jc fb p) (hE:aF w ge 118 #[.string ⟨rec.toArray⟩,.map (some b),.int .i64 st.now]) :
 Calls Tryz.prog 41 #[.pointer (some ⟨ge,0,none⟩),p.val,.int .i64 now] w fun e w'=>e =.returned (.int .i64 (Am fb p.aU rec st now))∧ah w w':=by
 have cF:=ζ (fun W (hW:ah w W)=>vM (c:=p.r.k) (n:=rec) W (hp.r.arr.keep hW) hp.r.le);have cK:=ζ (fun W (hW:ah w W)=>vN W (hp.keep hW) nN);have zG:p.aU.receivers=p.r.l:=rfl;have hM:Am fb p.aU rec st now=if now≤st.now∨now<0∨dP<now then 9 else if (dY p.r.l rec).isSome∧fQ fb p.aU=0 then 0 else 5:=rfl
 generalize Am fb p.aU rec st now=M at *
 generalize fQ fb p.aU=CK at *
 clear nN hp zG;obtain⟨n0,gs⟩:=st;unfold aY.val at *
 obtain⟨⟨sl,sA,sm,sk⟩,⟨rl,rA,rm,rk⟩,⟨el,eA,em,ek⟩,⟨al,aA,am,ak⟩,o,oA,om,ok,i,iA,im,ik⟩:=p;unfold dP at hM;simp only at *
 generalize dY rl rec=FL at *
 replace hM:=ζ hM;have e0:=hE.c0;have e2:=hE.c2;have el':=hE.lt;clear hE;by_cases oG:now≤n0∨now<0∨1099511627776<now
 ·have hM9:M=9:=by rw[hM.o,if_pos oG]
  subst hM9;by_cases h1:now≤n0
  ·go_enter Tryz.func41,Tryz.ntmps41
   go_wp2;go_ret;exact⟨rfl,(ah.refl w).alloc _⟩
  ·by_cases h2:now<0
   ·go_enter Tryz.func41,Tryz.ntmps41
    go_wp2;go_ret;exact⟨rfl,(ah.refl w).alloc _⟩
   ·have h3:1099511627776<now:=ω;go_enter Tryz.func41,Tryz.ntmps41
    go_wp2;go_ret;exact⟨rfl,(ah.refl w).alloc _⟩
 ·have h1:¬now≤n0:=fun h=>oG (.inl h)
  have h2:¬now<0:=fun h=>oG (.inr (.inl h))
  have h3:¬1099511627776<now:=fun h=>oG (.inr (.inr h))
  have K_:Hid (M=if FL.isSome=true∧CK=0 then 0 else 5):=ζ (by rw[hM.o,if_neg oG]);clear hM oG;have hbP:=aF.new w 50 #[.slice sA sm sk,.slice rA rm rk,.slice eA em ek,.slice aA am ak,.slice oA om ok,.slice iA im ik];have hg0:=(ah.refl w).alloc (.cells #[.slice sA sm sk,.slice rA rm rk,.slice eA em ek,.slice aA am ak,.slice oA om ok,.slice iA im ik] 50);have cF2:=ζ (fun W (hW:ah (w.alloc (.cells #[.slice sA sm sk,.slice rA rm rk,.slice eA em ek,.slice aA am ak,.slice oA om ok,.slice iA im ik] 50)) W)=>cF.out W (hg0.trans hW));have aS:=ζ (ah.refl (w.alloc (.cells #[.slice sA sm sk,.slice rA rm rk,.slice eA em ek,.slice aA am ak,.slice oA om ok,.slice iA im ik] 50)));replace hbP:=ζ hbP;replace hg0:=ζ hg0;clear cF;go_enter Tryz.func41,Tryz.ntmps41
  have xR:=ζ (Nat.lt_succ_self w.heap.size);go_wp2_with fail;refine aH κ ?_;refine rK (.range 10) 3 ?_;iterate 6 refine aC ?_
  refine bQ (.tuple #[.agg #[.int .i64 (jE FL).lv,.int .u32 ((jE FL).c:Int)],.bool FL.isSome]) rfl χ (fun wq fU=> ?_) ?_
  ·obtain⟨rC,qE⟩:=dM fU;go_simp;exact Calls.mono (cF2.out wq fU) (fun e w'' h=>h)
  go_simp;iterate 3 refine aC ?_
  refine aB ?_;refine aK [10] κ σ (fun wN hN hS=>(ay.cons rfl (fun K' hK=> ?_) ay.nil));try replace fV:=ζ (fV.o.grows hN)
  replace aS:=ζ (aS.o.trans hN);clear hN;go_simp;have fV:=ζ (aF.new wN 25 #[.int .i64 0,.int .u32 0]);have AA:=ζ aS.o.size;replace aS:=ζ (aS.o.alloc (.cells #[.int .i64 0,.int .u32 0] 25));refine hK.o _ _ ?_ (fun hS=> ?_)
  ·exact aS.o
  generalize wN.heap.size=gB at *
  clear hK hS;refine aK [11] κ σ (fun wN hN hS=>(ay.cons rfl (fun K' hK=> ?_) ay.nil));try replace fV:=ζ (fV.o.grows hN)
  replace aS:=ζ (aS.o.trans hN);clear hN;have z0:=fV.o.c0;have z1:=fV.o.c1;have zf:=fun j=>fV.o.frozen j
  have zl:=fV.o.lt;have b1:=(fV.o.aW 0 (.int .i64 (jE FL).lv)).aW 1 (.int .u32 ((jE FL).c:Int));have g1:=(aS.o.setCell (p:=⟨gB,0,none⟩) AA.o (.int .i64 (jE FL).lv)).setCell (p:=⟨gB,1,none⟩) AA.o (.int .u32 ((jE FL).c:Int));replace b1:=ζ b1;replace g1:=ζ g1;go_simp;refine hK.o _ _ ?_ (fun hS=> ?_)
  ·exact g1.out
  clear z0 z1 zf zl fV aS;generalize (wN.setCell ⟨gB,0,none⟩ (.int .i64 (jE FL).lv)).setCell ⟨gB,1,none⟩ (.int .u32 ((jE FL).c:Int))=w9 at *
  have fV:=b1;have aS:=g1;clear b1 g1;clear hK hS;refine rK [12] 0 ?_;iterate 1 refine aC ?_
  refine aB ?_;refine aJ κ (fun wN hN hS=> ?_);try replace fV:=ζ (fV.o.grows hN)
  replace aS:=ζ (aS.o.trans hN);have GV:=ζ (hg0.o.trans aS.o);have bP6:=ζ (hbP.o.grows aS.o);clear aS fV AA hg0 hbP hN hS e0 e2 el' cF2;generalize FL.isSome=FI at *
  cases FI with
  | false=>
   have hM5:Hid (M=5):=ζ (by rw[K_.o];simp);go_wp2;go_ret;exact⟨by rw[hM5.o];rfl,GV.o⟩
  | true=>
   have p0:=bP6.out.c0;have p1:=bP6.out.c1;have p2:=bP6.out.c2;have p3:=bP6.out.c3;have p4:=bP6.out.c4;have p5:=bP6.out.c5;have pl:=bP6.out.lt;go_wp2_with fail;refine (cK.out _ GV.o).mono ?_;rintro e w7 ⟨rfl,Nz⟩;have hG7:=ζ (GV.o.trans Nz);clear p0 p1 p2 p3 p4 p5 pl Nz GV bP6 cK;by_cases zH:CK=0
   ·have hM0:Hid (M=0):=ζ (by rw[K_.o];simp[zH]);subst zH;go_wp2;go_ret;exact⟨by rw[hM0.o];rfl,hG7.o⟩
   ·have hM5:Hid (M=5):=ζ (by rw[K_.o];simp[zH]);go_wp2;go_ret;exact⟨by rw[hM5.o];rfl,hG7.o⟩
end Go.Proofs.YtbhikkgpcmkonaaGreatDoor
namespace Go.Proofs.YtbhikkgpcmkonaaGreatDoor
open Go.RowKit
theorem Zq {p:jo} {l:List jq} {tO:jU} {now:Int} {k:Nat} (h:k∈uU p l tO now):k<l.length:=by
 unfold uU at h;exact List.mem_range.1 (List.mem_filter.1 h).1
theorem aas {fb:d_→Bool} {ft:List bK→d_→Bool} {p:aY} {tO:jU} {lA:Option Addr} {lm lk:Nat} {xs:List dH} {now:Int} {k:Nat} {x:dH} {gp gl gt gn:Nat} (w:World) (hp:p.At w) (nN:jc fb p) (Ez:KW ft p) (hib:∀r∈p.i,r.bm≤1000000) (TD:p.im≤1000)
 (hA:cu w 6 sG lA lm xs) (hat:∀a∈xs,a.At w) (Iw:lm≤1000) (xQ:tO.ok) (hk:xs[k]? = some x)
 (bp:aF w gp 50 p.cells.toArray) (bl:aF w gl 59 #[.slice lA lm lk]) (bt:aF w gt 25 #[.int .i64 tO.lv,.int .u32 (tO.c:Int)]) (bn:aF w gn 3 #[.int .i64 now]) :
 Calls Tryz.prog 98 #[.int .i64 (k:Int),.pointer (some ⟨gp,0,none⟩),.pointer (some ⟨gl,0,none⟩),.pointer (some ⟨gt,0,none⟩),.pointer (some ⟨gn,0,none⟩)] w fun e w'=>e =.returned (.bool (!(yC fb ft p.aU (xs.map (·.a)) k tO now).isEmpty))∧ah w w':=by
 have cQ:=ζ (V7 (fb:=fb) (ft:=ft) (lk:=lk) (now:=now) w hp nN Ez hib TD hA hat Iw xQ hk);generalize yC fb ft p.aU (xs.map (·.a)) k tO now=Q at *
 have hQl:(decide (0<Q.length))= !Q.isEmpty:=by cases Q <;> simp
 have p0:=bp.cell 0;have p1:=bp.cell 1;have p2:=bp.cell 2;have p3:=bp.cell 3;have p4:=bp.cell 4;have p5:=bp.cell 5;have l0:=bl.c0;have t0:=bt.c0;have t1:=bt.c1;have n0:=bn.c0;have hl1:=bp.lt;have hl2:=bl.lt;have hl3:=bt.lt;have hl4:=bn.lt;unfold aY.cells at p0 p1 p2 p3 p4 p5;unfold aY.val at cQ;simp only[List.getElem?_toArray,List.getElem?_cons_zero,List.getElem?_cons_succ] at p0 p1 p2 p3 p4 p5;clear hp nN Ez hib hA hat hk bp bl bt bn;go_enter Tryz.func98,Tryz.ntmps98
 go_wp2_with fail;refine cQ.out.mono ?_;rintro e w1 ⟨v,rfl,hO,hG⟩;obtain⟨A,c,rfl,-,-,-⟩:=hO.arr Xt;go_wp2;go_ret;exact⟨rfl,hG⟩
theorem adM {fb:d_→Bool} {ft:List bK→d_→Bool} {p:aY} {tO:jU} {lA:Option Addr} {lm lk:Nat} {xs:List dH} {now:Int} (w:World) (hp:p.At w) (nN:jc fb p) (Ez:KW ft p) (hib:∀r∈p.i,r.bm≤1000000) (TD:p.im≤1000)
 (hA:cu w 6 sG lA lm xs) (hat:∀a∈xs,a.At w) (Iw:lm≤1000) (xQ:tO.ok) :
 Calls Tryz.prog 53 #[p.val,.slice lA lm lk,.agg #[.int .i64 tO.lv,.int .u32 (tO.c:Int)],.int .i64 now] w fun e w'=>∃v,e =.returned v∧Own w' w.heap.size 3 1 encI v (vC fb ft p.aU (xs.map (·.a)) tO now)∧ah w w':=by
 have cK:=ζ (fun W (hW:ah w W)=>vN W (hp.keep hW) nN);have cT:=ζ (fun W (hW:ah w W)=>ac2 (lk:=lk) (now:=now) W (hp.keep hW) (hA.keep hW) (fun a ha=>(hat a ha).keep hW) Iw xQ);have cC:=ζ (fun k (hk:k∈uU p.aU (xs.map (·.a)) tO now) W (hW:ah w W) gp gl gt gn (bp:aF W gp 50 p.cells.toArray) (bl:aF W gl 59 #[.slice lA lm lk]) (bt:aF W gt 25 #[.int .i64 tO.lv,.int .u32 (tO.c:Int)]) (bn:aF W gn 3 #[.int .i64 now])=>
  have hkx:∃x,xs[k]? = some x:=⟨_,List.getElem?_eq_getElem (by have:=Zq hk;rw[List.length_map] at this;exact this)⟩;hkx.elim fun x hx=>aas (fb:=fb) (ft:=ft) W (hp.keep hW) nN Ez hib TD (hA.keep hW) (fun a ha=>(hat a ha).keep hW) Iw xQ hx bp bl bt bn)
 have hL:vC fb ft p.aU (xs.map (·.a)) tO now=if fQ fb p.aU=0 then (uU p.aU (xs.map (·.a)) tO now).filter (fun k=> !!(yC fb ft p.aU (xs.map (·.a)) k tO now).isEmpty) else []:=by
  unfold vC;simp only[Bool.not_not]
 have hTl:(uU p.aU (xs.map (·.a)) tO now).length≤65536:=by
  have h1:(uU p.aU (xs.map (·.a)) tO now).length≤(List.range (xs.map (·.a)).length).length:=List.length_filter_le _ _;have h2:=hA.1;rw[List.length_range,List.length_map] at h1;omega
 replace hL:=ζ hL;replace hTl:=ζ hTl;generalize vC fb ft p.aU (xs.map (·.a)) tO now=LL at *
 generalize uU p.aU (xs.map (·.a)) tO now=TL at *
 generalize fQ fb p.aU=CK at *
 have cC2:=ζ (fun k hk W hW gp gl gt gn=>cC.out k hk W hW gp gl gt gn);clear cC;unfold aY.cells at cC2;unfold aY.val at *
 obtain⟨⟨sl,sA,sm,sk⟩,⟨rl,rA,rm,rk⟩,⟨el,eA,em,ek⟩,⟨al,aA,am,ak⟩,o,oA,om,ok,i,iA,im,ik⟩:=p;simp only at cK cT cC2 ⊢;clear hp nN Ez hib TD hA hat Iw;go_enter Tryz.func53,Tryz.ntmps53
 go_wp2_with fail;refine (cK.out _ γ).mono ?_;rintro e w1 ⟨rfl,hb1⟩;have bP:aF w1 w.heap.size 50 #[.slice sA sm sk,.slice rA rm rk,.slice eA em ek,.slice aA am ak,.slice oA om ok,.slice iA im ik]:=((((aF.new w _ _).alloc _).alloc _).alloc _).grows hb1;have bl:aF w1 (w.heap.size+1) 59 #[.slice lA lm lk]:=(((aF.ou w _ _ _).alloc _).alloc _).grows hb1;have bt:aF w1 (w.heap.size+1+1) 25 #[.int .i64 tO.lv,.int .u32 (tO.c:Int)]:=((aF.yH w _ _ _ _).alloc _).grows hb1;have bn:aF w1 (w.heap.size+1+1+1) 3 #[.int .i64 now]:=(aF.WB w _ _ _ _ _).grows hb1;have gu:ah w w1:=(((((ah.refl w).alloc _).alloc _).alloc _).alloc _).trans hb1;have p0:=bP.c0;have p1:=bP.c1;have p2:=bP.c2;have p3:=bP.c3;have p4:=bP.c4;have p5:=bP.c5;have l0:=bl.c0;have t0:=bt.c0;have t1:=bt.c1;have n0:=bn.c0;have hl1:=bP.lt;have hl2:=bl.lt;have hl3:=bt.lt;have hl4:=bn.lt;have hsz:=gu.size;clear hb1 cK;by_cases zH:CK=0
 ·subst zH;have hLL:Hid (LL=_):=ζ (by rw[hL.o,if_pos rfl]);go_wp2_with fail;refine (cT.out _ gu).mono ?_;rintro e w2 ⟨v2,rfl,l9,hb2⟩;have cD:=ζ (Kw 98 #[.pointer (some ⟨w.heap.size,0,none⟩),.pointer (some ⟨w.heap.size+1,0,none⟩),.pointer (some ⟨w.heap.size+1+1,0,none⟩),.pointer (some ⟨w.heap.size+1+1+1,0,none⟩)] (enters_of Tryz.func98 κ rfl) _ w1.heap.size v2 TL w2 l9 hb2.size hTl.o (fun k hk W hW=>by
   have Vj:ah w1 W:=hb2.eP hW;exact cC2.out k hk W (gu.trans Vj) _ _ _ _ (bP.grows Vj) (bl.grows Vj) (bt.grows Vj) (bn.grows Vj)))
  have fG:=gu.trans hb2;clear cT cC2;go_wp2_with fail;refine cD.out.mono ?_;rintro e w3 ⟨v3,rfl,iM,hb3⟩;go_wp2;go_ret;exact⟨_,rfl,by rw[hLL.o];exact iM.bH hsz,gu.trans (hb2.eP hb3)⟩
 ·have hLL:LL=[]:=by rw[hL.o,if_neg zH]
  go_wp2;go_ret;exact⟨_,rfl,by rw[hLL];exact Own.jA _ _ _ _ _,gu⟩
end Go.Proofs.YtbhikkgpcmkonaaGreatDoor
namespace Go.Proofs.YtbhikkgpcmkonaaGreatDoor
open Go.RowKit Go.Maps Go.WideMaps
theorem Ot {fb:d_→Bool} {ft:List bK→d_→Bool} {p:jo} {l:List jq} {tt:jU} {now:Int} {k:Nat} (h:k∈vC fb ft p l tt now):∃a,l[k]? = some a∧bJ a = true:=by
 unfold vC at h;split at h
 ·have h1:=(List.mem_filter.1 h).1;unfold uU at h1;have h2:=(List.mem_filter.1 h1).2;cases hk:l[k]? with
  | none=>rw[hk] at h2;cases h2
  | some a=>
   rw[hk] at h2;unfold EW at h2;simp only[Bool.and_eq_true] at h2;exact⟨a,rfl,h2.2.1⟩
 ·cases h
def Zf (ft:List bK→d_→Bool) (q:QX):Prop:=∀x∈q,∀y∈x.2.s.wh,pq ft y
theorem ZF {ft:List bK→d_→Bool} {p:aY} {tt:jU} {lA:Option Addr} {lm lk:Nat} {xs:List dH} {now:Int} {k:Nat} {x:dH} {base gq b last:Nat} {q:QX} {gs gp gl gt gn:Nat} (w:World) (hp:p.At w) (hA:cu w 6 sG lA lm xs) (hat:∀a∈xs,a.At w) (xQ:tt.ok) (hk:xs[k]? = some x) (hr:bJ x.a = true)
 (hL:kL w base gq b q last) (hql:q.length≤60000) (qE:Zf ft q)
 (bs:aF w gs 60 #[.pointer (some ⟨gq,0,none⟩)]) (bp:aF w gp 50 p.cells.toArray) (bl:aF w gl 59 #[.slice lA lm lk]) (bt:aF w gt 25 #[.int .i64 tt.lv,.int .u32 (tt.c:Int)]) (bn:aF w gn 3 #[.int .i64 now]) :
 Calls Tryz.prog 54 #[.int .i64 (k:Int),.pointer (some ⟨gs,0,none⟩),.pointer (some ⟨gp,0,none⟩),.pointer (some ⟨gl,0,none⟩),.pointer (some ⟨gt,0,none⟩),.pointer (some ⟨gn,0,none⟩)] w fun e w'=>e =.returned (.bool (!(Af ft p.aU (fC q last) x.a tt now).isEmpty))∧ah w w':=by
 have yN:=List.mem_of_getElem? hk;have cQ:=ζ (fun W (hW:ah w W)=>ZU (ft:=ft) (now:=now) W (hL.grows hW) (hp.keep hW) ((hat x yN).keep hW) xQ (fun f hf=>by have:=((eU hr).2.2 f hf).2;omega) hql qE);generalize Af ft p.aU (fC q last) x.a tt now=Q at *
 have ak9:k<lm:=by rw[←hA.1];exact (List.getElem?_eq_some_iff.1 hk).1
 obtain⟨xb,xo,x',hxp,hxb,BK,Xe⟩:=hA.at_ ak9;rw[hk] at BK;injection BK with BK
 subst BK;have hs0:w.cell? ⟨xb,xo+k*6,none⟩=some (.string ⟨x.a.src.toArray⟩):=Xe 0 _ rfl;have hs1:w.cell? ⟨xb,xo+k*6+1,none⟩=some (.slice x.A x.m x.k):=Xe 1 _ rfl;have hs2:w.cell? ⟨xb,xo+k*6+2,none⟩=some (.int .i64 x.a.l.lv):=Xe 2 _ rfl;have hs3:w.cell? ⟨xb,xo+k*6+3,none⟩=some (.int .u32 (x.a.l.c:Int)):=Xe 3 _ rfl;have hs4:w.cell? ⟨xb,xo+k*6+4,none⟩=some (.int .i64 x.a.f):=Xe 4 _ rfl;have hs5:w.cell? ⟨xb,xo+k*6+5,none⟩=some (.int .i64 x.a.t):=Xe 5 _ rfl;have lK:(k:Int)<(lm:Int):=ω;subst hxp;have p0:=bp.cell 0;have p1:=bp.cell 1;have p2:=bp.cell 2;have p3:=bp.cell 3;have p4:=bp.cell 4;have p5:=bp.cell 5;have s0:=bs.c0;have l0:=bl.c0;have t0:=bt.c0;have t1:=bt.c1;have n0:=bn.c0;have hl0:=bs.lt;have hl1:=bp.lt;have hl2:=bl.lt;have hl3:=bt.lt;have hl4:=bn.lt;unfold aY.cells at p0 p1 p2 p3 p4 p5;unfold aY.val iT at cQ;simp only[List.getElem?_toArray,List.getElem?_cons_zero,List.getElem?_cons_succ] at p0 p1 p2 p3 p4 p5;have aS:=ζ (ah.refl w);clear hp hA hat hk yN Xe bs bp bl bt bn hL qE;go_enter Tryz.func54,Tryz.ntmps54
 go_wp2_with fail;refine aH κ ?_;refine rK (.range 8) 4 ?_;iterate 8 refine aC ?_
 refine aB ?_;refine aK [8] κ σ (fun wN hN hS=>(ay.cons rfl (fun K' hK=> ?_) ay.nil));replace aS:=ζ (aS.o.trans hN);try replace hO:=ζ (hO.o.grows hN)
 clear hN;go_simp;refine (cQ.out _ aS.o).mono ?_;rintro e w5 ⟨v5,rfl,hO,iU⟩;replace aS:=ζ (aS.o.trans iU);obtain⟨A5,c5,rfl,-,-,-⟩:=hO.arr Xt;replace hO:=ζ hO;refine hK.o _ _ ?_ (fun hS=> ?_)
 ·exact aS.o
 clear iU;clear hK hS;refine rK [9,10,11] 0 ?_;iterate 3 refine aC ?_
 refine aB ?_;refine aJ κ (fun wN hN hS=> ?_);replace aS:=ζ (aS.o.trans hN);try replace hO:=ζ (hO.o.grows hN)
 go_wp2;go_ret;refine⟨?_,aS.o⟩;exact aN (by cases Q <;> simp)
theorem adf {fb:d_→Bool} {ft:List bK→d_→Bool} {p:aY} {rec:List UInt8} {lA:Option Addr} {lm lk:Nat} {xs:List dH} {now n0:Int} {base gq b last ge bm:Nat} {q:QX} (w:World) (hp:p.At w) (nN:jc fb p) (Ez:KW ft p) (hib:∀r∈p.i,r.bm≤1000000) (TD:p.im≤1000)
 (hA:cu w 6 sG lA lm xs) (hat:∀a∈xs,a.At w) (Iw:lm≤1000) (hL:kL w base gq b q last) (hql:q.length≤60000) (qE:Zf ft q) (hE:aF w ge 118 #[.string ⟨rec.toArray⟩,.map (some bm),.int .i64 n0]) :
 Calls Tryz.prog 21 #[.pointer (some ⟨ge,0,none⟩),p.val,.slice lA lm lk,.pointer (some ⟨gq,0,none⟩),.int .i64 now] w fun e w'=>∃v,e =.returned v∧Own w' w.heap.size 3 1 encI v (xI fb ft p.aU rec (xs.map (·.a)) (fC q last) now)∧ah w w':=by
 have cF:=ζ (fun W (hW:ah w W)=>vM (c:=p.r.k) (n:=rec) W (hp.r.arr.keep hW) hp.r.le);have cT:=ζ (fun tt (ht:dY p.r.l rec=some tt) W (hW:ah w W)=>adM (fb:=fb) (ft:=ft) (lk:=lk) (now:=now) W (hp.keep hW) nN Ez hib TD (hA.keep hW) (fun a ha=>(hat a ha).keep hW) Iw (show tt.ok by obtain⟨y,hy,rfl⟩:=vK ht;exact hp.r.U_ y hy));have cC:=ζ (fun tt (ht:dY p.r.l rec=some tt) k (hk:k∈vC fb ft p.aU (xs.map (·.a)) tt now) W (hW:ah w W) gs gp gl gt gn (bs:aF W gs 60 #[.pointer (some ⟨gq,0,none⟩)]) (bp:aF W gp 50 p.cells.toArray) (bl:aF W gl 59 #[.slice lA lm lk]) (bt:aF W gt 25 #[.int .i64 tt.lv,.int .u32 (tt.c:Int)]) (bn:aF W gn 3 #[.int .i64 now])=>
  show Calls Tryz.prog 54 #[.int .i64 (k:Int),.pointer (some ⟨gs,0,none⟩),.pointer (some ⟨gp,0,none⟩),.pointer (some ⟨gl,0,none⟩),.pointer (some ⟨gt,0,none⟩),.pointer (some ⟨gn,0,none⟩)] W fun e w'=>e =.returned (.bool (!Fe ft p.aU (fC q last) (xs.map (·.a)) tt now k))∧ah W w' by
   obtain⟨a,ha,hr⟩:=Ot hk;rw[List.getElem?_map] at ha;obtain⟨x,hx,rfl⟩:=Option.map_eq_some_iff.1 ha;have h:=ZF (ft:=ft) (now:=now) W (hp.keep hW) (hA.keep hW) (fun a ha=>(hat a ha).keep hW) (show tt.ok by obtain⟨y,hy,rfl⟩:=vK ht;exact hp.r.U_ y hy) hx hr (hL.grows hW) hql qE bs bp bl bt bn;have e1:Fe ft p.aU (fC q last) (xs.map (·.a)) tt now k=(Af ft p.aU (fC q last) x.a tt now).isEmpty:=by unfold Fe;rw[List.getElem?_map,hx];rfl
   rw[e1];exact h)
 have hS:xI fb ft p.aU rec (xs.map (·.a)) (fC q last) now=match dY p.r.l rec with
  | none=>[]
  | some tt=>(vC fb ft p.aU (xs.map (·.a)) tt now).filter (Fe ft p.aU (fC q last) (xs.map (·.a)) tt now):=rfl
 have hLl:=ζ (fun tt=>show (vC fb ft p.aU (xs.map (·.a)) tt now).length≤65536 by
  unfold vC;split
  ·refine Nat.le_trans (List.length_filter_le _ _) ?_;have h1:(uU p.aU (xs.map (·.a)) tt now).length≤(List.range (xs.map (·.a)).length).length:=List.length_filter_le _ _;have h2:=hA.1;rw[List.length_range,List.length_map] at h1;omega
  ·exact Nat.zero_le _)
 have e0:=hE.c0;have el:=hE.lt;generalize xI fb ft p.aU rec (xs.map (·.a)) (fC q last) now=Yi at *
 generalize vC fb ft p.aU (xs.map (·.a))=LL at *
 generalize Fe ft p.aU (fC q last) (xs.map (·.a))=OA at *
 have hSn:=ζ hS;clear hS;have cC2:=ζ (fun tt ht k hk W hW gs gp gl gt gn=>cC.out tt ht k hk W hW gs gp gl gt gn);clear cC;unfold aY.cells at cC2;unfold aY.val at *
 obtain⟨⟨sl,sA,sm,sk⟩,⟨rl,rA,rm,rk⟩,⟨el',eA,em,ek⟩,⟨al,aA,am,ak⟩,o,oA,om,ok,i,iA,im,ik⟩:=p;simp only at cF cT cC2 hSn ⊢;clear hp nN Ez hib TD hA hat Iw hL hql qE hE;generalize hFL:dY rl rec=FL at *
 clear hFL;obtain⟨w0,hw0,bP,bl,bs,bn,hg0,hz0⟩:∃w0:World,w0=(((w.alloc (.cells #[.slice sA sm sk,.slice rA rm rk,.slice eA em ek,.slice aA am ak,.slice oA om ok,.slice iA im ik] 50)).alloc (.cells #[.slice lA lm lk] 59)).alloc (.cells #[.pointer (some ⟨gq,0,none⟩)] 60)).alloc (.cells #[.int .i64 now] 3)∧
  aF w0 w.heap.size 50 #[.slice sA sm sk,.slice rA rm rk,.slice eA em ek,.slice aA am ak,.slice oA om ok,.slice iA im ik]∧aF w0 (w.heap.size+1) 59 #[.slice lA lm lk]∧aF w0 (w.heap.size+1+1) 60 #[.pointer (some ⟨gq,0,none⟩)]∧aF w0 (w.heap.size+1+1+1) 3 #[.int .i64 now]∧ah w w0∧w0.heap.size=w.heap.size+4:=
  ⟨_,rfl,(((aF.new w _ _).alloc _).alloc _).alloc _,((aF.ou w _ _ _).alloc _).alloc _,(aF.yH w _ _ _ _).alloc _,aF.WB w _ _ _ _ _,((((ah.refl w).alloc _).alloc _).alloc _).alloc _,by simp⟩
 have cF2:=ζ (fun W (hW:ah w0 W)=>cF.out W (hg0.trans hW));have aS:=ζ (ah.refl w0);have p1:=bP.c1;have pl:=bP.lt;replace e0:=hg0.cell e0;replace el:=Nat.lt_of_lt_of_le el hg0.size;replace bP:=ζ bP;replace bl:=ζ bl;replace bs:=ζ bs;replace bn:=ζ bn;replace hg0:=ζ hg0;replace hz0:=ζ hz0;clear cF;go_enter Tryz.func21,Tryz.ntmps21
 go_wp2_with fail;rw[←hw0];clear hw0;refine aH κ ?_;refine rK (.range 10) 3 ?_;iterate 6 refine aC ?_
 refine bQ (.tuple #[.agg #[.int .i64 (jE FL).lv,.int .u32 ((jE FL).c:Int)],.bool FL.isSome]) rfl χ (fun wq fU=> ?_) ?_
 ·obtain⟨rC,qE⟩:=dM fU;go_simp;exact Calls.mono (cF2.out wq fU) (fun e w'' h=>h)
 go_simp;iterate 3 refine aC ?_
 refine aB ?_;refine aK [10] κ σ (fun wN hN hS=>(ay.cons rfl (fun K' hK=> ?_) ay.nil));try replace fV:=ζ (fV.o.grows hN)
 replace aS:=ζ (aS.o.trans hN);clear hN;go_simp;have fV:=ζ (aF.new wN 25 #[.int .i64 0,.int .u32 0]);have AA:=ζ aS.o.size;replace aS:=ζ (aS.o.alloc (.cells #[.int .i64 0,.int .u32 0] 25));refine hK.o _ _ ?_ (fun hS=> ?_)
 ·exact aS.o
 generalize wN.heap.size=gB at *
 clear hK hS;refine aK [11] κ σ (fun wN hN hS=>(ay.cons rfl (fun K' hK=> ?_) ay.nil));try replace fV:=ζ (fV.o.grows hN)
 replace aS:=ζ (aS.o.trans hN);clear hN;have z0:=fV.o.c0;have z1:=fV.o.c1;have zf:=fun j=>fV.o.frozen j
 have zl:=fV.o.lt;have b1:=(fV.o.aW 0 (.int .i64 (jE FL).lv)).aW 1 (.int .u32 ((jE FL).c:Int));have g1:=(aS.o.setCell (p:=⟨gB,0,none⟩) AA.o (.int .i64 (jE FL).lv)).setCell (p:=⟨gB,1,none⟩) AA.o (.int .u32 ((jE FL).c:Int));replace b1:=ζ b1;replace g1:=ζ g1;go_simp;refine hK.o _ _ ?_ (fun hS=> ?_)
 ·exact g1.out
 clear z0 z1 zf zl fV aS;generalize (wN.setCell ⟨gB,0,none⟩ (.int .i64 (jE FL).lv)).setCell ⟨gB,1,none⟩ (.int .u32 ((jE FL).c:Int))=w9 at *
 have fV:=b1;have aS:=g1;clear b1 g1;clear hK hS;refine rK [12] 0 ?_;iterate 1 refine aC ?_
 refine aB ?_;refine aJ κ (fun wN hN hS=> ?_);try replace fV:=ζ (fV.o.grows hN)
 replace aS:=ζ (aS.o.trans hN);have oV:=ζ (hg0.o.trans aS.o);have bP5:=ζ (bP.out.grows aS.o);have bl5:=ζ (bl.out.grows aS.o);have bs5:=ζ (bs.out.grows aS.o);have bn5:=ζ (bn.out.grows aS.o);have asW:=ζ oV.o.size;clear aS AA hg0 hz0 bP bl bs bn hN hS e0 el p1 pl cF2;cases FL with
 | none=>
  simp only[Option.isSome_none] at *
  go_wp2;go_ret;exact⟨_,rfl,by rw[hSn.o];exact Own.jA _ _ _ _ _,oV.o⟩
 | some tt=>
  simp only[Option.isSome_some,jE,Option.getD_some] at *
  have cTx:=ζ (cT.out tt (by first | rfl | trivial) wN oV.o);have Y5:=ζ (fun k hk W hW gs gp gl gt gn=>cC2.out tt (by first | rfl | trivial) k hk W hW gs gp gl gt gn);have QF:Hid (Yi=(LL tt now).filter (fun k=> !!OA tt now k)):=ζ (by rw[hSn.o];simp only[Bool.not_not]);have p0:=bP5.out.c0;have p1:=bP5.out.c1;have p2:=bP5.out.c2;have p3:=bP5.out.c3;have p4:=bP5.out.c4;have p5:=bP5.out.c5;have pl:=bP5.out.lt;have l0:=bl5.out.c0;have ll:=bl5.out.lt;have n0':=bn5.out.c0;have nl:=bn5.out.lt;have t0:=fV.o.c0;have t1:=fV.o.c1;have tl:=fV.o.lt;clear cT cC2 hSn;go_wp2_with fail;refine cTx.out.mono ?_;rintro e w6 ⟨v6,rfl,uF,sZ⟩;have cD:=ζ (Kw 54 #[.pointer (some ⟨w.heap.size+1+1,0,none⟩),.pointer (some ⟨w.heap.size,0,none⟩),.pointer (some ⟨w.heap.size+1,0,none⟩),.pointer (some ⟨gB,0,none⟩),.pointer (some ⟨w.heap.size+1+1+1,0,none⟩)] (enters_of Tryz.func54 κ rfl) _ wN.heap.size v6 (LL tt now) w6 uF sZ.size (hLl.o tt) (fun k hk W hW=>by
   have Vj:ah wN W:=sZ.eP hW;exact Y5.out k hk W (oV.o.trans Vj) _ _ _ _ _ (bs5.out.grows Vj) (bP5.out.grows Vj) (bl5.out.grows Vj) (fV.o.grows Vj) (bn5.out.grows Vj)))
  clear cTx Y5 p0 p1 p2 p3 p4 p5 pl l0 ll n0' nl t0 t1 tl;go_wp2_with fail;refine cD.out.mono ?_;rintro e w7 ⟨v7,rfl,vT,Nz⟩;go_wp2;go_ret;exact⟨_,rfl,by rw[QF.o];exact vT.bH asW.o,oV.o.trans (sZ.eP Nz)⟩
end Go.Proofs.YtbhikkgpcmkonaaGreatDoor
