/- Parts: LetE EngA InhI EngB -/
import Derived.Test.YtbhikkgpcmkonaaGreatDoorVo0
import Derived.Test.YtbhikkgpcmkonaaGreatDoorVo21
import Derived.Test.YtbhikkgpcmkonaaGreatDoorVo10
import Derived.Test.YtbhikkgpcmkonaaGreatDoorVo18
import Derived.Test.YtbhikkgpcmkonaaGreatDoorVo17
set_option maxRecDepth 100000
set_option maxHeartbeats 12800000
namespace Go.Proofs.YtbhikkgpcmkonaaGreatDoor
open Go.RowKit
theorem aCw:fB Tryz.prog 62 65 3 40:=fB.mk' (z:=.agg #[.int .u64 0,.bool false,.slice none 0 0]) Tryz.underlying62 κ rfl ω
theorem hkT (x:nK):(Y8 x).length=3:=rfl
theorem auT (x:nK):∀u∈Y8 x,u.oneCell'=true:=by intro u hu;simp[Y8] at hu;rcases hu with rfl | rfl | rfl <;> rfl
theorem ru.row {α:Type} {w w':World} {base b k:Nat} {x:nK} {t:TypeId} {enc:α→List Value} {v:Value} {ys:List α} (h:ru w base x) (hO:Own w b t k enc v ys) (ht:88≠t) (hg:w.grownBy w' v.ownBlock):ru w' base x:=
 h.fP hg (fun j hj=>by obtain⟨cur,hc⟩:=bV hO hj;exact aZ h.1 hc ht)
structure dH (w:World) (base:Nat) (x:fO):Prop where
 fP:Own w base 88 2 dZ (.slice x.bA x.bm x.bk) x.fP
 ts:Own w base 65 3 Y8 (.slice x.tA x.tl x.tk) x.ts
 at_:∀y∈x.ts,ru w base y
 ble:x.bm≤1000
 Tm:∀f∈x.fP,f.v.length≤1000000
 tle:x.tl≤1000
theorem dH.grows {w w':World} {base:Nat} {x:fO} (h:dH w base x) (hg:ah w w'):dH w' base x:=⟨h.fP.grows hg,h.ts.grows hg,fun y hy=>(h.at_ y hy).grows hg,h.ble,h.Tm,h.tle⟩
theorem dH.bK {w:World} {base b:Nat} {x:fO} (h:dH w base x) (hb:b≤base):dH w b x:=⟨h.fP.bK hb,h.ts.bK hb,fun y hy=>(h.at_ y hy).bK hb,h.ble,h.Tm,h.tle⟩
theorem dH.aQ {w w':World} {base g:Nat} {x:fO} {t:TypeId} {cur:Array Value} {fz:Nat×Nat} (h:dH w base x) (hc:w.heap[g]? = some (.cells cur t fz)) (h1:88≠t) (h2:65≠t) (hg:w.grownBy w' (some g)):dH w' base x:=
 ⟨h.fP.kept' hg (fun j hj=>by injection hj with hj;subst hj;exact aZ h.fP hc h1),h.ts.kept' hg (fun j hj=>by injection hj with hj;subst hj;exact aZ h.ts hc h2),
  fun y hy=>(h.at_ y hy).fP hg (fun j hj=>by injection hj with hj;subst hj;exact aZ (h.at_ y hy).1 hc h1),h.ble,h.Tm,h.tle⟩
theorem dH.far {w:World} {base g i:Nat} {x:fO} {t:TypeId} {cs:Array Value} (h:dH w base x) (hB:aG w g t cs) (h1:88≠t) (h2:65≠t) (u:Value):dH (w.setCell ⟨g,i,none⟩ u) base x:=h.aQ hB h1 h2 (aj w ⟨g,i,none⟩ u)
theorem dH.good {w:World} {base:Nat} {x:fO} (h:dH w base x):x.At w:=by
 obtain⟨A,c,hv,-,-,hX⟩:=h.fP.arr JB;injection hv with h1 h2 h3
 obtain⟨A',c',hv',-,-,hX'⟩:=h.ts.arr hkT;injection hv' with h1' h2' h3'
 exact⟨by rw[h1,h2];exact hX,h.ble,h.Tm,by rw[h1',h2'];exact hX',h.tle,fun y hy=>(h.at_ y hy).at_⟩
def lM:Array Value:= #[.string ⟨#[]⟩,.string ⟨#[]⟩,.int .i64 0,.int .i64 0,.slice none 0 0,.slice none 0 0]
def aqF (o:Option fO):Array Value:=match o with
 | none=>lM
 | some x=> #[.string ⟨x.rc.toArray⟩,.string ⟨x.gr.toArray⟩,.int .i64 x.n,.int .i64 x.tm,.slice x.bA x.bm x.bk,.slice x.tA x.tl x.tk]
theorem AQ {w wM:World} {g:Nat} (hZ:aG wM g 64 lM) (hG:ah w wM) (qE:w.heap.size≤g) (u0 u1 u2 u3 u4 u5:Value) :
 aG ((((((wM.setCell ⟨g,0,none⟩ u0).setCell ⟨g,1,none⟩ u1).setCell ⟨g,2,none⟩ u2).setCell ⟨g,3,none⟩ u3).setCell ⟨g,4,none⟩ u4).setCell ⟨g,5,none⟩ u5) g 64 #[u0,u1,u2,u3,u4,u5]∧
 ah w ((((((wM.setCell ⟨g,0,none⟩ u0).setCell ⟨g,1,none⟩ u1).setCell ⟨g,2,none⟩ u2).setCell ⟨g,3,none⟩ u3).setCell ⟨g,4,none⟩ u4).setCell ⟨g,5,none⟩ u5)∧
 ∀x b,dH wM b x→dH ((((((wM.setCell ⟨g,0,none⟩ u0).setCell ⟨g,1,none⟩ u1).setCell ⟨g,2,none⟩ u2).setCell ⟨g,3,none⟩ u3).setCell ⟨g,4,none⟩ u4).setCell ⟨g,5,none⟩ u5) b x:=by
 have h0:=hZ.bH 0 u0;have h1:=h0.bH 1 u1;have h2:=h1.bH 2 u2;have h3:=h2.bH 3 u3;have h4:=h3.bH 4 u4;have h5:=h4.bH 5 u5;refine⟨h5.cast (by simp[lM]),?_,fun x b hO=>(((((hO.far hZ δ δ _).far h0 δ δ _).far h1 δ δ _).far h2 δ δ _).far h3 δ δ _).far h4 δ δ _⟩;exact ah.setCell (ah.setCell (ah.setCell (ah.setCell (ah.setCell (ah.setCell hG (p:=⟨g,0,none⟩) qE _) (p:=⟨g,1,none⟩) qE _) (p:=⟨g,2,none⟩) qE _) (p:=⟨g,3,none⟩) qE _) (p:=⟨g,4,none⟩) qE _) (p:=⟨g,5,none⟩) qE _
theorem ads {α:Type} {wM:World} {g b k:Nat} {t:TypeId} {enc:α→List Value} {v:Value} {xs:List α} {cs:Array Value} (hZ:aG wM g 64 cs) (hO:Own wM b t k enc v xs) (ht:t≠64) (u0 u1 u2 u3 u4 u5:Value) :
 Own ((((((wM.setCell ⟨g,0,none⟩ u0).setCell ⟨g,1,none⟩ u1).setCell ⟨g,2,none⟩ u2).setCell ⟨g,3,none⟩ u3).setCell ⟨g,4,none⟩ u4).setCell ⟨g,5,none⟩ u5) b t k enc v xs:=by
 have step:∀(w:World) (cs:Array Value) (i:Nat) (u:Value),aG w g 64 cs→Own w b t k enc v xs→aG (w.setCell ⟨g,i,none⟩ u) g 64 (cs.setIfInBounds i u)∧Own (w.setCell ⟨g,i,none⟩ u) b t k enc v xs:=fun w cs i u hB hO=>
  ⟨hB.bH i u,hO.kept' (aj w ⟨g,i,none⟩ u) (fun j hj=>by injection hj with hj;subst hj;exact aZ hO hB ht)⟩
 obtain⟨b0,o0⟩:=step _ _ 0 u0 hZ hO;obtain⟨b1,o1⟩:=step _ _ 1 u1 b0 o0;obtain⟨b2,o2⟩:=step _ _ 2 u2 b1 o1;obtain⟨b3,o3⟩:=step _ _ 3 u3 b2 o2;obtain⟨b4,o4⟩:=step _ _ 4 u4 b3 o3;exact (step _ _ 5 u5 b4 o4).2
theorem rP {w:World} {g:Nat} (h:aG w g 64 lM) :
 w.cell? ⟨g,0,none⟩=some (.string ⟨#[]⟩)∧w.cell? ⟨g,1,none⟩=some (.string ⟨#[]⟩)∧w.cell? ⟨g,2,none⟩=some (.int .i64 0)∧w.cell? ⟨g,3,none⟩=some (.int .i64 0)∧w.cell? ⟨g,4,none⟩=some (.slice none 0 0)∧w.cell? ⟨g,5,none⟩=some (.slice none 0 0)∧(∀i,w.frozen? ⟨g,i,none⟩=false)∧g < w.heap.size:=
 ⟨h.cell 0,h.cell 1,h.cell 2,h.cell 3,h.cell 4,h.cell 5,fun i=>h.frozen i,h.lt⟩
def axG (wr:World) (base:Nat) (rc sg:List UInt8) (n tm:Int) (bs:List bM) (f:Nat→Value) (wz:World):Prop:=
 ∃(gL:Nat) (A:Option Addr) (k:Nat),f 14=.pointer (some ⟨gL,0,none⟩)∧aG wz gL 64 #[.string ⟨rc.toArray⟩,.string ⟨sg.toArray⟩,.int .i64 n,.int .i64 tm,.slice A bs.length k,.slice none 0 0]∧
  Own wz base 88 2 dZ (.slice A bs.length k) bs∧ah wr wz∧wr.heap.size≤gL
def ZI (w:World) (L:Option N_) (e:Ending) (w':World):Prop:=∃o:Option fO,e =.returned (.tuple #[.agg (aqF o),.bool o.isSome])∧o.map (·.xM)=L∧(∀x,o = some x→dH w' w.heap.size x)∧ah w w'
theorem Yd {fb:cu→Bool} {p:bQ} {rec:List UInt8} {g:dQ} {n now:Int} {lA:Option Addr} {lm lk:Nat} {xs:List dD} (w:World) (hT:oI w) (hp:p.At w) (nG:lW fb p) (hA:bW w 6 tH lA lm xs) (hat:∀a∈xs,a.At w) (Jz:lm≤1000)
 (hgb:bW w 2 dZ g.bA g.bm g.fP) (jD:g.bm≤1000) (hgt:∀f∈g.fP,f.v.length≤1000000) (hgi:bW w 1 kS g.iA g.im g.ids) (YF:g.im≤1000) :
 Calls Tryz.prog 47 #[p.val,.string ⟨rec.toArray⟩,Vd g,.slice lA lm lk,.agg #[.int .i64 n,.int .i64 now]] w (ZI w (jY fb p.aU rec g.g (xs.map (·.a)) n now)):=by
 have cF:=ζ (fun W (hW:ah w W)=>zD (c:=p.r.k) (n:=rec) W (hp.r.arr.keep hW) hp.r.le);have cK:=ζ (fun W (hW:ah w W)=>zI W (hp.keep hW) nG);have cO:=ζ (fun tt (ht:dY p.r.l rec=some tt) (id:Nat) W (hW:ah w W)=>ajm (id:=id) (lk:=lk) (now:=now) W (hp.keep hW) (hA.keep hW) (fun a ha=>(hat a ha).keep hW) Jz (show tt.ok by obtain⟨y,hy,rfl⟩:=zC ht;exact hp.r.Jy y hy));have cS:=ζ (fun W=>aeF (n:=g.key) W);have cC:=ζ (fun W (hW:ah w W)=>Qc (c:=g.bk) W (hgb.keep hW) ω);have cR:=ζ (fun (x:fO) W (hW:ah w W) (hx:x.At W) (h:x.gr.length≤1000000)=>abw W (hT.grows hW) hx h);have hM:jY fb p.aU rec g.g (xs.map (·.a)) n now=match dY p.r.l rec with
  | none=>none
  | some tt=>if fE fb p.aU=0 then (if uo ⟨rec,qI g.key,n,now,g.fP,g.ids.filterMap fun id=>Eo p.aU (xs.map (·.a)) id tt now⟩ then some ⟨rec,qI g.key,n,now,g.fP,g.ids.filterMap fun id=>Eo p.aU (xs.map (·.a)) id tt now⟩ else none) else none:=rfl
 have hbl:=ζ hgb.1;have Uo:=ζ hgi.1;replace hgi:=ζ hgi;replace hgt:=ζ hgt;generalize jY fb p.aU rec g.g (xs.map (·.a)) n now=RES at *
 generalize fE fb p.aU=CK at *
 have uq:(qI g.key).length≤1000000:=by unfold qI;rw[YK];unfold mV;simp
 generalize qI g.key=SG at *
 generalize hpp:Eo p.aU (xs.map (·.a))=OT at *
 clear hT hp nG hA hat hgb hpp;obtain⟨gr,gk,JI,gbA,gbm,gbk,WM,giA,gim,gik⟩:=g;unfold bQ.val Vd at *
 obtain⟨⟨sl,sA,sm,sk⟩,⟨rl,rA,rm,rk⟩,⟨el,eA,em,ek⟩,⟨al,aA,am,ak⟩,o,oA,om,ok,i,iA,im,ik⟩:=p;simp only at *
 generalize hFL:dY rl rec=FL at *
 replace hM:=ζ hM;clear hFL;go_enter Tryz.func47,Tryz.ntmps47
 go_wp2_with fail;refine (cF.out _ γ).mono ?_;rintro e w1 ⟨rfl,hb1⟩;have bP:aG w1 w.heap.size 50 #[.slice sA sm sk,.slice rA rm rk,.slice eA em ek,.slice aA am ak,.slice oA om ok,.slice iA im ik]:=((((aG.new w _ _).alloc _).alloc _).alloc _).grows hb1;have bG:aG w1 (w.heap.size+1) 125 #[.int .i64 (gr:Int),.slice gbA gbm gbk,.int .u64 (gk:Int),.slice giA gim gik]:=(((aG.kV w _ _ _).alloc _).alloc _).grows hb1;have bN:aG w1 (w.heap.size+1+1) 135 #[.int .i64 n,.int .i64 now]:=((aG.Bh w _ _ _ _).alloc _).grows hb1;have bZ:aG w1 (w.heap.size+1+1+1) 64 lM:=(aG.abh w _ _ _ _ _).grows hb1;have fM:ah w w1:=(((((ah.refl w).alloc _).alloc _).alloc _).alloc _).trans hb1;have hz1:=hb1.size;simp only[World.size_alloc] at hz1;clear hb1 cF;cases FL with
 | none=>
  have Wu:=ζ hM.o;simp only[Option.isSome_none,kW,Option.getD_none] at *
  have hend:=ζ (AQ bZ fM ω);have z0:=bZ.c0;have z1:=bZ.c1;have z2:=bZ.c2;have z3:=bZ.c3;have z4:=bZ.c4;have z5:=bZ.c5;have zf:=fun j=>bZ.frozen j
  have zl:=bZ.lt;clear bP bG bN;go_wp2;obtain⟨n0,n1,-⟩:=hend.o (.string ⟨#[]⟩) (.string ⟨#[]⟩) (.int .i64 0) (.int .i64 0) (.slice none 0 0) (.slice none 0 0);replace n0:=ζ (n0.alloc (.cells #[.int .i64 0,.int .u32 0] 25));replace n1:=ζ (n1.alloc (.cells #[.int .i64 0,.int .u32 0] 25));refine bodyPost_ret (v:=.tuple #[.agg lM,.bool false]) ?_ rfl ⟨none,rfl,Wu.o.symm,(fun x hx=>by cases hx),n1.out⟩;have e0:=n0.out.cell 0;have e1:=n0.out.cell 1;have e2:=n0.out.cell 2;have e3:=n0.out.cell 3;have e4:=n0.out.cell 4;have e5:=n0.out.cell 5;simp only[List.getElem?_toArray,List.getElem?_cons_zero,List.getElem?_cons_succ] at e0 e1 e2 e3 e4 e5;simp[results,Tryz.results47,go_sem,e0,e1,e2,e3,e4,e5,lM]
 | some tt=>
  simp only[Option.isSome_some,kW,Option.getD_some] at *
  have bP2:=bP.alloc (.cells #[.int .i64 tt.lv,.int .u32 (tt.c:Int)] 25);have bG2:=bG.alloc (.cells #[.int .i64 tt.lv,.int .u32 (tt.c:Int)] 25);have bN2:=bN.alloc (.cells #[.int .i64 tt.lv,.int .u32 (tt.c:Int)] 25);have Zt:=bZ.alloc (.cells #[.int .i64 tt.lv,.int .u32 (tt.c:Int)] 25);have bL2:=aG.new w1 25 #[.int .i64 tt.lv,.int .u32 (tt.c:Int)];have gK:=fM.alloc (.cells #[.int .i64 tt.lv,.int .u32 (tt.c:Int)] 25);have p0:=bP.c0;have p1:=bP.c1;have p2:=bP.c2;have p3:=bP.c3;have p4:=bP.c4;have p5:=bP.c5;have pl:=bP.lt;clear bP bG bN bZ fM;go_wp2_with fail;refine (cK.out _ gK).mono ?_;rintro e w2 ⟨rfl,hb2⟩;replace bP2:=bP2.grows hb2;replace bG2:=bG2.grows hb2;replace bN2:=bN2.grows hb2;replace Zt:=Zt.grows hb2;replace bL2:=bL2.grows hb2;replace gK:=gK.trans hb2;have hz2:=hb2.size;simp only[World.size_alloc] at hz2;obtain⟨gT,IX⟩:∃gT,gT=w1.heap.size:=⟨_,rfl⟩;rw[←IX] at bL2 hz1 hz2 ⊢;replace IX:=ζ IX;clear hb2 cK p0 p1 p2 p3 p4 p5 pl;by_cases uO:CK=0
  ·subst uO;replace hM:Hid (RES=if uo ⟨rec,SG,n,now,JI,WM.filterMap fun id=>OT id tt now⟩ then some ⟨rec,SG,n,now,JI,WM.filterMap fun id=>OT id tt now⟩ else none):=ζ (hM.o.trans (if_pos rfl));have g1:=bG2.c1;have g2:=bG2.c2;have gl:=bG2.lt;have a0:=bN2.c0;have a1:=bN2.c1;have al:=bN2.lt;have aP:=ζ (ah.refl w2);replace bP2:=ζ bP2;replace bG2:=ζ bG2;replace bN2:=ζ bN2;replace Zt:=ζ Zt;replace bL2:=ζ bL2;replace gK:=ζ gK;go_wp2_with fail;apply Ij (is:=[44,45,14]) (R:=axG w2 w.heap.size rec SG n now JI)
   case h1=>
    refine aF κ ?_;refine rK (.range 10) 4 ?_;iterate 3 refine ay ?_
    refine aT (.string ⟨SG.toArray⟩) rfl χ (fun wq dN=> ?_) ?_
    ·obtain⟨lu,kR⟩:=bF dN;go_simp;exact Calls.mono (cS.out wq) (fun e w'' h=>h)
    go_simp;iterate 6 refine ay ?_
    refine aB ?_;refine aI [10,12] κ σ (fun wN hN hS=>(au.cons rfl (fun K' hK=> ?_) (au.cons rfl (fun K' hK=> ?_) au.nil)))
    ·skip
     try replace iQ:=ζ (iQ.o.grows hN)
     try replace kY:=ζ (kY.o.grows hN)
     try replace aP:=ζ (aP.o.trans hN)
     clear hN;go_simp;refine (cC.out _ (gK.o.trans aP.o)).mono ?_;rintro e w5 ⟨v5,rfl,mJ,fK⟩;obtain⟨A5,k5,rfl,-,-,-⟩:=mJ.arr JB;have kY:=ζ (mJ.bK (base':=w.heap.size) (by have:=(gK.o.trans aP.o).size;omega));try replace iQ:=ζ (iQ.o.grows fK)
     replace aP:=ζ (aP.o.trans fK);refine hK.o _ _ ?_ (fun hS=> ?_)
     ·exact aP.o
     clear fK mJ;clear hK hS;refine rK [11] 2 ?_;iterate 1 refine ay ?_
     refine aB ?_;refine aI [12] κ σ (fun wN hN hS=>(au.cons rfl (fun K' hK=> ?_) au.nil));try replace iQ:=ζ (iQ.o.grows hN)
     try replace kY:=ζ (kY.o.grows hN)
     try replace aP:=ζ (aP.o.trans hN)
     clear hN;go_simp;have iQ:=ζ (aG.new wN 64 lM);have C9:Hid (w2.heap.size≤wN.heap.size):=ζ aP.o.size;replace aP:=ζ (aP.o.alloc (.cells lM 64));try replace kY:=ζ (kY.o.grows ((ah.refl wN).alloc (.cells lM 64)))
     refine hK.o _ _ ?_ (fun hS=> ?_)
     ·exact aP.o
     generalize wN.heap.size=gc at *
     clear hK hS;refine aI [13] κ σ (fun wN hN hS=>(au.cons rfl (fun K' hK=> ?_) au.nil));try replace iQ:=ζ (iQ.o.grows hN)
     try replace kY:=ζ (kY.o.grows hN)
     try replace aP:=ζ (aP.o.trans hN)
     clear hN;have hend:=ζ (AQ iQ.o aP.o C9.o);have hown:=ζ (ads iQ.o kY.o δ);obtain⟨z0,z1,z2,z3,z4,z5,zf,zl⟩:=rP iQ.o;go_simp;refine hK.o _ _ ?_ (fun hS=> ?_)
     ·exact (hend.o _ _ _ _ _ _).2.1
     clear z0 z1 z2 z3 z4 z5 zf zl;obtain⟨n0,n1,-⟩:=hend.o (.string ⟨rec.toArray⟩) (.string ⟨SG.toArray⟩) (.int .i64 n) (.int .i64 now) (.slice A5 JI.length k5) (.slice none 0 0);have nO:=hown.o (.string ⟨rec.toArray⟩) (.string ⟨SG.toArray⟩) (.int .i64 n) (.int .i64 now) (.slice A5 JI.length k5) (.slice none 0 0);clear hend hown;generalize ((((((wN.setCell ⟨gc,0,none⟩ (.string ⟨rec.toArray⟩)).setCell ⟨gc,1,none⟩ (.string ⟨SG.toArray⟩)).setCell ⟨gc,2,none⟩ (.int .i64 n)).setCell ⟨gc,3,none⟩ (.int .i64 now)).setCell ⟨gc,4,none⟩ (.slice A5 JI.length k5)).setCell ⟨gc,5,none⟩ (.slice none 0 0))=w9 at *
     clear iQ aP kY;have iQ:=ζ n0;have aP:=ζ n1;have kY:=ζ nO;clear n0 n1 nO;clear hK hS;refine aH κ (fun wN hN hS=> ?_);try replace iQ:=ζ (iQ.o.grows hN)
     try replace kY:=ζ (kY.o.grows hN)
     try replace aP:=ζ (aP.o.trans hN)
     refine⟨(by
      simp only[iy,List.foldl_cons,List.foldl_nil];go_simp;try rfl
     ),gc,A5,k5,rfl,iQ.o,kY.o,aP.o,C9.o⟩
    ·skip
     try replace iQ:=ζ (iQ.o.grows hN)
     try replace kY:=ζ (kY.o.grows hN)
     try replace aP:=ζ (aP.o.trans hN)
     clear hN;go_simp;have iQ:=ζ (aG.new wN 64 lM);have C9:Hid (w2.heap.size≤wN.heap.size):=ζ aP.o.size;replace aP:=ζ (aP.o.alloc (.cells lM 64));try replace kY:=ζ (kY.o.grows ((ah.refl wN).alloc (.cells lM 64)))
     refine hK.o _ _ ?_ (fun hS=> ?_)
     ·exact aP.o
     generalize wN.heap.size=gc at *
     clear hK hS;refine aI [10] κ σ (fun wN hN hS=>(au.cons rfl (fun K' hK=> ?_) au.nil));try replace iQ:=ζ (iQ.o.grows hN)
     try replace kY:=ζ (kY.o.grows hN)
     try replace aP:=ζ (aP.o.trans hN)
     clear hN;go_simp;refine (cC.out _ (gK.o.trans aP.o)).mono ?_;rintro e w5 ⟨v5,rfl,mJ,fK⟩;obtain⟨A5,k5,rfl,-,-,-⟩:=mJ.arr JB;have kY:=ζ (mJ.bK (base':=w.heap.size) (by have:=(gK.o.trans aP.o).size;omega));try replace iQ:=ζ (iQ.o.grows fK)
     replace aP:=ζ (aP.o.trans fK);refine hK.o _ _ ?_ (fun hS=> ?_)
     ·exact aP.o
     clear fK mJ;clear hK hS;refine rK [11] 1 ?_;iterate 1 refine ay ?_
     refine aB ?_;refine aI [13] κ σ (fun wN hN hS=>(au.cons rfl (fun K' hK=> ?_) au.nil));try replace iQ:=ζ (iQ.o.grows hN)
     try replace kY:=ζ (kY.o.grows hN)
     try replace aP:=ζ (aP.o.trans hN)
     clear hN;have hend:=ζ (AQ iQ.o aP.o C9.o);have hown:=ζ (ads iQ.o kY.o δ);obtain⟨z0,z1,z2,z3,z4,z5,zf,zl⟩:=rP iQ.o;go_simp;refine hK.o _ _ ?_ (fun hS=> ?_)
     ·exact (hend.o _ _ _ _ _ _).2.1
     clear z0 z1 z2 z3 z4 z5 zf zl;obtain⟨n0,n1,-⟩:=hend.o (.string ⟨rec.toArray⟩) (.string ⟨SG.toArray⟩) (.int .i64 n) (.int .i64 now) (.slice A5 JI.length k5) (.slice none 0 0);have nO:=hown.o (.string ⟨rec.toArray⟩) (.string ⟨SG.toArray⟩) (.int .i64 n) (.int .i64 now) (.slice A5 JI.length k5) (.slice none 0 0);clear hend hown;generalize ((((((wN.setCell ⟨gc,0,none⟩ (.string ⟨rec.toArray⟩)).setCell ⟨gc,1,none⟩ (.string ⟨SG.toArray⟩)).setCell ⟨gc,2,none⟩ (.int .i64 n)).setCell ⟨gc,3,none⟩ (.int .i64 now)).setCell ⟨gc,4,none⟩ (.slice A5 JI.length k5)).setCell ⟨gc,5,none⟩ (.slice none 0 0))=w9 at *
     clear iQ aP kY;have iQ:=ζ n0;have aP:=ζ n1;have kY:=ζ nO;clear n0 n1 nO;clear hK hS;refine aH κ (fun wN hN hS=> ?_);try replace iQ:=ζ (iQ.o.grows hN)
     try replace kY:=ζ (kY.o.grows hN)
     try replace aP:=ζ (aP.o.trans hN)
     refine⟨(by
      simp only[iy,List.foldl_cons,List.foldl_nil];go_simp;try rfl
     ),gc,A5,k5,rfl,iQ.o,kY.o,aP.o,C9.o⟩
   intro fz w3 hR;obtain⟨gL,A,kk,e14,Uy,SV,hb3,aGo⟩:=hR;simp only[lU,List.foldl_cons,List.foldl_nil,e14];replace bP2:=ζ (bP2.out.grows hb3);replace bG2:=ζ (bG2.out.grows hb3);replace bN2:=ζ (bN2.out.grows hb3);replace Zt:=ζ (Zt.out.grows hb3);replace bL2:=ζ (bL2.out.grows hb3);have qp:=ζ (gK.o.trans hb3);have g3:=bG2.out.c3;have gl:=bG2.out.lt;have afP:=qp.o.size;have aGl:=Uy.lt;replace Uy:=ζ Uy;replace SV:=ζ SV;clear hb3 aP g1 g2 a0 a1 al cC cS e14 gK bG2;go_wp2;go_loopw [16,17,18,49] (fun _ _ _ n' wr=>∃(k:Nat) (ts:List nK) (vA:Option Addr) (vk:Nat),k≤gim∧n'=.int .i64 (k:Int)∧Hid (Own wr w3.heap.size 65 3 Y8 (.slice vA ts.length vk) ts)∧Hid (∀y∈ts,ru wr w.heap.size y)∧Hid (ts.map (·.t)=(WM.take k).filterMap fun id=>OT id tt now)∧Hid (ts.length≤k)∧
    Hid (aG wr gL 64 #[.string ⟨rec.toArray⟩,.string ⟨SG.toArray⟩,.int .i64 n,.int .i64 now,.slice A JI.length kk,.slice vA ts.length vk])∧Hid (Own wr w.heap.size 88 2 dZ (.slice A JI.length kk) JI)∧
    Hid (aG wr w.heap.size 50 #[.slice sA sm sk,.slice rA rm rk,.slice eA em ek,.slice aA am ak,.slice oA om ok,.slice iA im ik])∧Hid (aG wr (w.heap.size+1+1) 135 #[.int .i64 n,.int .i64 now])∧Hid (aG wr (w.heap.size+1+1+1) 64 lM)∧Hid (aG wr gT 25 #[.int .i64 tt.lv,.int .u32 (tt.c:Int)])∧Hid (ah w wr)∧Hid (w3.heap.size≤wr.heap.size)) (fun _ _ _ n' _=>gim-(intOf n').toNat)
   case atStart=>exact⟨0,[],none,0,ω,rfl,Own.iO _ _ _ _ _,(fun y hy=>by cases hy),rfl,Nat.le_refl _,Uy,SV,bP2,bN2,Zt,bL2,qp,Nat.le_refl _⟩
   case round=>
    clear Uy SV bP2 bN2 Zt bL2;obtain⟨k,ts,vA,vk,hk,rfl,hO,hat,heq,hle,Uy,SV,bP,bN,bZ,bL,hG,hsz⟩:=hrel;by_cases qC:k<gim
    ·obtain⟨bb,off,id,rfl,CW,hx,hcell⟩:=(hgi.o.keep hG.o).at_ qC;have c0:wr.cell? ⟨bb,off+k,none⟩=some (.int .u64 (id:Int)):=by simpa using hcell 0 _ rfl
     have kX:(k:Int)<(gim:Int):=ω;have xR:Hid ((WM.take (k+1)).filterMap (fun id=>OT id tt now)=(WM.take k).filterMap (fun id=>OT id tt now)++(OT id tt now).toList):=ζ (by
      rw[List.take_add_one,hx,List.filterMap_append];simp only[Option.toList_some];rw[List.filterMap_cons];cases OT id tt now <;> simp)
     have p0:=bP.out.c0;have p1:=bP.out.c1;have p2:=bP.out.c2;have p3:=bP.out.c3;have p4:=bP.out.c4;have p5:=bP.out.c5;have pl:=bP.out.lt;have l0:=bL.out.c0;have l1:=bL.out.c1;have ll:=bL.out.lt;have a1:=bN.out.c1;have al:=bN.out.lt;have cOx:=ζ (cO.out tt (by first | rfl | trivial) id wr hG.o);have hbw:=hG.o.size;clear hcell hx cR hM;go_wp2_with fail;refine cOx.out.mono ?_;rintro e w5 ⟨o,rfl,hot,hoo,fK⟩;clear c0 p0 p1 p2 p3 p4 p5 pl l0 l1 ll a1 al cOx;cases o with
     | none=>
      have hF:Hid (ts.map (·.t)=(WM.take (k+1)).filterMap (fun id=>OT id tt now)):=ζ (by rw[xR.o,←hot,heq.o];simp);have jL:=ζ (fK.alloc (.cells #[.int .u64 0,.bool false,.slice none 0 0] 65));clear hot xR heq hoo fK;simp only[Option.isSome_none,RN];go_wp2;go_roundw
      case rel=>exact⟨k+1,ts,vA,vk,ω,ν,hO.o.grows jL.o,ζ (fun y hy=>(hat.o y hy).grows jL.o),hF,ζ (by have:=hle.o;omega),Uy.o.grows jL.o,SV.o.grows jL.o,bP.out.grows jL.o,bN.out.grows jL.o,bZ.out.grows jL.o,bL.out.grows jL.o,hG.o.trans jL.o,ζ (Nat.le_trans hsz.o jL.o.size)⟩
      case measure=>exact ψ
     | some y=>
      have hF:Hid ((ts++[y]).map (·.t)=(WM.take (k+1)).filterMap (fun id=>OT id tt now)):=ζ (by rw[xR.o,←hot,List.map_append,heq.o];rfl);have jL:=ζ ((fK.alloc (.cells #[.int .u64 (y.t.id:Int),.bool y.t.jM,.slice y.A y.m y.k] 65)).alloc (.cells #[.int .u64 (y.t.id:Int),.bool y.t.jM,.slice y.A y.m y.k] 65));have Sv:((w5.alloc (.cells #[.int .u64 (y.t.id:Int),.bool y.t.jM,.slice y.A y.m y.k] 65)).alloc (.cells #[.int .u64 (y.t.id:Int),.bool y.t.jM,.slice y.A y.m y.k] 65)).heap[w5.heap.size+1]? = some (.cells #[.int .u64 (y.t.id:Int),.bool y.t.jM,.slice y.A y.m y.k] 65 (0,0)):=by
       have:=heap_alloc_new (w5.alloc (.cells #[.int .u64 (y.t.id:Int),.bool y.t.jM,.slice y.A y.m y.k] 65)) (.cells #[.int .u64 (y.t.id:Int),.bool y.t.jM,.slice y.A y.m y.k] 65);rwa [World.size_alloc] at this
      have hya:=ζ ((((hoo y rfl).bK hbw).grows ((ah.refl w5).alloc (.cells #[.int .u64 (y.t.id:Int),.bool y.t.jM,.slice y.A y.m y.k] 65))).grows ((ah.refl _).alloc (.cells #[.int .u64 (y.t.id:Int),.bool y.t.jM,.slice y.A y.m y.k] 65)));have uz:=ζ (hO.o.grows jL.o);have aBa:=ζ (fun z hz=>(hat.o z hz).grows jL.o);have aw3:=ζ (Uy.o.grows jL.o);have apF:=ζ (SV.o.grows jL.o);have bP6:=ζ (bP.out.grows jL.o);have bN6:=ζ (bN.out.grows jL.o);have bZ6:=ζ (bZ.out.grows jL.o);have bL6:=ζ (bL.out.grows jL.o);have Fq:=ζ (hG.o.trans jL.o);have anf:=ζ (Nat.le_trans hsz.o jL.o.size);have l5:=(Uy.o.grows fK).c5;have ll5:=(Uy.o.grows fK).lt;have anC:=hle.o;replace Sv:=ζ Sv;have azS:=ζ (show w3.heap.size≤w5.heap.size+1+1 by have:=hsz.o;have:=fK.size;omega);clear hot xR heq hoo jL hO hat Uy SV bP bN bZ bL hG hsz fK;simp only[Option.isSome_some,RN];go_wp2_with (at_builtin;refine dB (x:=y) aCw rfl (.tmp 65) (.tmp 67) rfl uz.o rfl ⟨w5.heap.size+1,0,none⟩ rfl rfl (iK Sv.o) (auT y) (by have:=azS.o;simp;omega) (by unfold maxLen;omega) ω (fun v7 w7 rH hgr qU=> ?_);(obtain⟨A7,k7,rfl,-,-,-⟩:=rH.arr hkT);(rw[show (ts++[y]).length=ts.length+1 by simp] at rH);(have S9:=aw3.o.aQ hgr (fun e=>aZ uz.o aw3.o δ e.symm));(have apE:=ζ (apF.o.kept' hgr (fun j hj hv=>by obtain⟨cur,hc⟩:=bV uz.o hj;exact aZ apF.o hc δ hv)));(have aA_:=ζ (fun z hz=>(aBa.o z hz).row uz.o δ hgr));(have hy7:=ζ (hya.o.row uz.o δ hgr));(have bP7:=ζ (bP6.out.aQ hgr (fun e=>aZ uz.o bP6.out δ e.symm)));(have bN7:=ζ (bN6.out.aQ hgr (fun e=>aZ uz.o bN6.out δ e.symm)));(have bZ7:=ζ (bZ6.out.aQ hgr (fun e=>aZ uz.o bZ6.out δ e.symm)));(have bL7:=ζ (bL6.out.aQ hgr (fun e=>aZ uz.o bL6.out δ e.symm)));(have Xo:=ζ (Fq.o.aQ hgr (fun g e=>Nat.le_trans afP (uz.o.iC g e))));(have azW:=ζ (Nat.le_trans anf.o hgr.size));(have c7:w7.cell? ⟨gL,5,none⟩=some (.slice vA ts.length vk):=S9.cell 5);(have f7:=S9.frozen 5);(have l7:=S9.lt);(replace S9:=ζ S9);(replace rH:=ζ rH);clear hgr qU);go_roundw
      case rel=>
       have e1:(ts++[y]).length=ts.length+1:=by simp
       refine⟨k+1,ts++[y],A7,k7,ω,ν,?_,?_,hF,?_,?_,?_,?_,?_,?_,?_,?_,?_⟩
       ·rw[e1];exact ζ (rH.o.kept' (aj w7 ⟨gL,5,none⟩ _) (fun j hj=>by injection hj with hj;subst hj;exact aZ rH.o S9.o δ))
       ·refine ζ (fun z hz=> ?_);rcases List.mem_append.1 hz with hz | hz
        ·exact (aA_.o z hz).far S9.o δ _
        ·rw[List.mem_singleton.1 hz];exact hy7.o.far S9.o δ _
       ·exact ζ (by rw[e1];omega)
       ·rw[e1];exact ζ ((S9.o.bH 5 (.slice A7 (ts.length+1) k7)).cast σ)
       ·exact ζ (apE.o.kept' (aj w7 ⟨gL,5,none⟩ _) (fun j hj=>by injection hj with hj;subst hj;exact aZ apE.o S9.o δ))
       ·exact ζ (bP7.out.far (by simp;omega) _)
       ·exact ζ (bN7.out.far (by simp;omega) _)
       ·exact ζ (bZ7.out.far (by simp;omega) _)
       ·exact ζ (bL7.out.far (by simp;omega) _)
       ·exact ζ (Xo.o.setCell (by simp;omega) _)
       ·exact ζ (by simpa using azW.o)
      case measure=>exact ψ
    ·obtain rfl:k=gim:=ω;have hall:Hid (ts.map (·.t)=WM.filterMap fun id=>OT id tt now):=ζ (by rw[heq.o,←Uo.o,List.take_length]);have hLO:dH wr w.heap.size ⟨rec,SG,n,now,JI,A,JI.length,kk,ts,vA,ts.length,vk⟩:=
      ⟨SV.o,hO.o.bK afP,hat.o,by show JI.length≤1000;have:=hbl.o;omega,hgt.o,by show ts.length≤1000;have:=hle.o;omega⟩
     have UW:=ζ (cR.out ⟨rec,SG,n,now,JI,A,JI.length,kk,ts,vA,ts.length,vk⟩ wr hG.o hLO.good uq);have hlt:fO.xM ⟨rec,SG,n,now,JI,A,JI.length,kk,ts,vA,ts.length,vk⟩=⟨rec,SG,n,now,JI,WM.filterMap fun id=>OT id tt now⟩:=by unfold fO.xM;rw[hall.o]
     rw[←hlt] at hM;replace hlt:=ζ hlt;generalize hLB:uo (fO.xM ⟨rec,SG,n,now,JI,A,JI.length,kk,ts,vA,ts.length,vk⟩)=LB at *
     have l0:=Uy.o.c0;have l1:=Uy.o.c1;have l2:=Uy.o.c2;have l3:=Uy.o.c3;have l4:=Uy.o.c4;have l5:=Uy.o.c5;have ll:=Uy.o.lt;replace hLO:=ζ hLO;unfold XD at UW;simp only at UW;clear hLB hgi hgt cR cO heq hle hat SV hO bP bN bL hall;go_wp2_with fail;refine UW.out.mono ?_;rintro e w5 ⟨rfl,fK⟩;have hend:=ζ (AQ (bZ.out.grows fK) (hG.o.trans fK) ω);replace hLO:=ζ (hLO.o.grows fK);have YV:=Uy.o.grows fK;obtain⟨z0,z1,z2,z3,z4,z5,zf,zl⟩:=rP (bZ.out.grows fK);clear l0 l1 l2 l3 l4 l5 ll bZ Uy hG UW hsz fK;cases LB with
     | false=>
      have Wu:Hid (RES=none):=ζ (by rw[hM.o];rfl);go_wp2;obtain⟨n0,n1,-⟩:=hend.o (.string ⟨#[]⟩) (.string ⟨#[]⟩) (.int .i64 0) (.int .i64 0) (.slice none 0 0) (.slice none 0 0);replace n0:=ζ n0;replace n1:=ζ n1;refine bodyPost_ret (v:=.tuple #[.agg lM,.bool false]) ?_ rfl ⟨none,rfl,Wu.o.symm,(fun x hx=>by cases hx),n1.out⟩;have e0:=n0.out.cell 0;have e1:=n0.out.cell 1;have e2:=n0.out.cell 2;have e3:=n0.out.cell 3;have e4:=n0.out.cell 4;have e5:=n0.out.cell 5;simp only[List.getElem?_toArray,List.getElem?_cons_zero,List.getElem?_cons_succ] at e0 e1 e2 e3 e4 e5;simp[results,Tryz.results47,go_sem,e0,e1,e2,e3,e4,e5,lM]
     | true=>
      have Wu:Hid (RES=some (fO.xM ⟨rec,SG,n,now,JI,A,JI.length,kk,ts,vA,ts.length,vk⟩)):=ζ (by rw[hM.o];rfl);have l0:=YV.c0;have l1:=YV.c1;have l2:=YV.c2;have l3:=YV.c3;have l4:=YV.c4;have l5:=YV.c5;have ll:=YV.lt;clear YV;go_wp2;obtain⟨n0,n1,n2⟩:=hend.o (.string ⟨rec.toArray⟩) (.string ⟨SG.toArray⟩) (.int .i64 n) (.int .i64 now) (.slice A JI.length kk) (.slice vA ts.length vk);replace n0:=ζ n0;replace n1:=ζ n1;replace n2:=ζ (n2 _ _ hLO.o);refine bodyPost_ret (v:=.tuple #[.agg #[.string ⟨rec.toArray⟩,.string ⟨SG.toArray⟩,.int .i64 n,.int .i64 now,.slice A JI.length kk,.slice vA ts.length vk],.bool true]) ?_ rfl ⟨some ⟨rec,SG,n,now,JI,A,JI.length,kk,ts,vA,ts.length,vk⟩,rfl,Wu.o.symm,(fun x hx=>by injection hx with hx;subst hx;exact n2.out),n1.out⟩;have e0:=n0.out.cell 0;have e1:=n0.out.cell 1;have e2:=n0.out.cell 2;have e3:=n0.out.cell 3;have e4:=n0.out.cell 4;have e5:=n0.out.cell 5;simp only[List.getElem?_toArray,List.getElem?_cons_zero,List.getElem?_cons_succ] at e0 e1 e2 e3 e4 e5;simp[results,Tryz.results47,go_sem,e0,e1,e2,e3,e4,e5]
  ·have Wu:Hid (RES=none):=ζ (by rw[hM.o,if_neg uO]);have hend:=ζ (AQ Zt gK ω);have z0:=Zt.c0;have z1:=Zt.c1;have z2:=Zt.c2;have z3:=Zt.c3;have z4:=Zt.c4;have z5:=Zt.c5;have zf:=fun j=>Zt.frozen j
   have zl:=Zt.lt;clear bP2 bG2 bN2 gK bL2;go_wp2;obtain⟨n0,n1,-⟩:=hend.o (.string ⟨#[]⟩) (.string ⟨#[]⟩) (.int .i64 0) (.int .i64 0) (.slice none 0 0) (.slice none 0 0);replace n0:=ζ n0;replace n1:=ζ n1;refine bodyPost_ret (v:=.tuple #[.agg lM,.bool false]) ?_ rfl ⟨none,rfl,Wu.o.symm,(fun x hx=>by cases hx),n1.out⟩;have e0:=n0.out.cell 0;have e1:=n0.out.cell 1;have e2:=n0.out.cell 2;have e3:=n0.out.cell 3;have e4:=n0.out.cell 4;have e5:=n0.out.cell 5;simp only[List.getElem?_toArray,List.getElem?_cons_zero,List.getElem?_cons_succ] at e0 e1 e2 e3 e4 e5;simp[results,Tryz.results47,go_sem,e0,e1,e2,e3,e4,e5,lM]
end Go.Proofs.YtbhikkgpcmkonaaGreatDoor
namespace Go.Proofs.YtbhikkgpcmkonaaGreatDoor
open Go.RowKit Go.Maps Go.WideMaps
theorem agK {g:dQ} (w:World) (he:oJ w) (hr:g.r < 10000) (hA:bW w 2 dZ g.bA g.bm g.fP) (hm:g.bm≤100) (hf:∀f∈g.fP,f.n.length+f.v.length≤1000) :
 Calls Tryz.prog 44 #[Vd g] w fun e w'=>e =.returned (.string ⟨(dw g.r g.fP).toArray⟩)∧ah w w':=by
 obtain⟨r,key,fs,A,m,c,ids,iA,im,ik⟩:=g;unfold Vd;simp only at *
 have kN:=ζ hA.1;have cI:∀n:Nat,n≤100000→∀W,ah w W→Calls Tryz.prog 77 #[.int .i64 n] W fun e w'=>e =.returned (.string ⟨(Lib.decDigits n).toArray⟩)∧ah W w':=fun n h1 W hW=>by
  have:=Yp (n:Int) ω ω W (he.grows hW);rwa [Yo (n:Int) ω,Int.toNat_natCast] at this
 have cR:=cI r ω;have hkb:∀k,(dw r (fs.take k)).length≤200000:=fun k=>by
  have h1:=zS hr (fs.take k) (fun f h=>hf f (List.mem_of_mem_take h));have h2:(fs.take k).length≤100:=by have:=kN.o;rw[List.length_take];omega
  omega
 have Nq:=Oi r;generalize Lib.decDigits r = dr at *
 replace cI:=ζ cI;replace cR:=ζ cR;replace hA:=ζ hA;replace hf:=ζ hf;replace hkb:=ζ hkb;replace Nq:=ζ Nq;clear he;have hBg:=aG.new w 125 #[.int .i64 (r:Int),.slice A m c,.int .u64 (key:Int),.slice iA im ik];have hg0:=(ah.refl w).alloc (.cells #[.int .i64 (r:Int),.slice A m c,.int .u64 (key:Int),.slice iA im ik] 125);go_enter Tryz.func44,Tryz.ntmps44
 go_wp2_with fail;refine (cR.out _ hg0).mono ?_;rintro e w1 ⟨rfl,hb1⟩;have aw1:=hBg.grows hb1;have g1:=aw1.c1;have gl:=aw1.lt;have fM:=ζ (hg0.trans hb1);clear hBg hg0 hb1 cR;go_wp2;go_loopw [3,5,12] (fun s _ i wr=>∃(k:Nat) (S:List UInt8),k≤m∧i =.int .i64 k∧s =.string ⟨S.toArray⟩∧Hid (S=dw r (fs.take k))∧Hid (ah w wr)) (fun _ _ i _=>m - (intOf i).toNat)
 case atStart=>exact⟨0,dr,ω,rfl,rfl,(Nq.o.symm:dr=dw r (fs.take 0)),fM⟩
 case round=>
  obtain⟨k,S,hk,rfl,rfl,hS,hG⟩:=hrel;by_cases qC:k<m
  ·obtain⟨bb,off,f,rfl,CW,hx,hcell⟩:=(hA.o.keep hG.o).at_ qC;have c0:wr.cell? ⟨bb,off+k*2,none⟩=some (.string ⟨f.n.toArray⟩):=by simpa using hcell 0 _ rfl
   have c1:wr.cell? ⟨bb,off+k*2+1,none⟩=some (.string ⟨f.v.toArray⟩):=by simpa using hcell 1 _ rfl
   have tZ:=hf.o f (List.mem_of_getElem? hx);have kX:(k:Int)<(m:Int):=ω;have IQ:=hkb.o k;rw[←hS.o] at IQ;have cL:=cI.out f.v.length ω;have xR:fs.take (k+1)=fs.take k++[f]:=by rw[List.take_add_one,hx];rfl
   have qw:S++yu f = dw r (fs.take (k+1)):=by rw[xR,Lc,hS.o]
   have YM:=AU (n:=f.v.length) ω;unfold yu at qw;generalize Lib.decDigits f.v.length=dv at *
   replace cL:=ζ cL;replace qw:=ζ qw;have YS:Hid (ah w (wr.alloc (.cells #[.string ⟨f.n.toArray⟩,.string ⟨f.v.toArray⟩] 88))):=ζ (hG.o.alloc _);clear hcell hx xR hS;go_wp2_with fail;refine aF κ ?_;refine rK (.range 16) 0 ?_;iterate 8 refine ay ?_
   refine aT (.string ⟨dv.toArray⟩) rfl χ (fun wq dN=> ?_) ?_
   ·obtain⟨lu,kR⟩:=bF dN;go_simp;exact Calls.mono (cL.out wq (YS.o.trans dN)) (fun e w'' h=>h)
   go_simp;iterate 7 refine ay ?_
   refine aB ?_;refine aH κ (fun wN hN hS=> ?_);go_wp2;go_roundw
   case rel=>exact⟨k+1,S++0::(f.n ++61::(dv++58::f.v)),ω,ν,congrArg Value.string (ByteArray.ext σ),qw,YS.o.trans hN⟩
   case measure=>exact ψ
  ·obtain rfl:k=m:=ω;have aN:S=dw r fs:=by rw[hS.o,List.take_of_length_le (by have:=kN.o;omega)]
   replace aN:=ζ aN;clear hS;go_wp2;go_ret;exact⟨by rw[aN.o];rfl,hG.o⟩
theorem ak6 (rec:List UInt8) (w:World) :
 Calls Tryz.prog 12 #[.string ⟨rec.toArray⟩] w fun e w'=>∃ge b,e =.returned (.pointer (some ⟨ge,0,none⟩))∧aG w' ge 118 #[.string ⟨rec.toArray⟩,.map (some b),.int .i64 (-1)]∧wH w' b 0 []∧w.heap.size≤ge∧w.heap.size≤b∧ah w w':=by
 have hmm:= @run_makeMap Tryz.prog;go_enter Tryz.func12,Tryz.ntmps12
 go_wp2;go_ret;refine⟨w.heap.size+1,w.heap.size,rfl,aG.kV w _ _ _,(wH.made w).grows ((ah.refl _).alloc _),ω,ω,?_⟩;exact Γ
theorem adr {fb:cu→Bool} {p:bQ} {rec:List UInt8} {st:Eng} {now:Int} {ge b:Nat} (w:World) (hp:p.At w) (nG:lW fb p) (hE:aG w ge 118 #[.string ⟨rec.toArray⟩,.map (some b),.int .i64 st.now]) :
 Calls Tryz.prog 41 #[.pointer (some ⟨ge,0,none⟩),p.val,.int .i64 now] w fun e w'=>e =.returned (.int .i64 (yZ fb p.aU rec st now))∧ah w w':=by
 have cF:=ζ (fun W (hW:ah w W)=>zD (c:=p.r.k) (n:=rec) W (hp.r.arr.keep hW) hp.r.le);have cK:=ζ (fun W (hW:ah w W)=>zI W (hp.keep hW) nG);have tZ:p.aU.receivers=p.r.l:=rfl;have hM:yZ fb p.aU rec st now=if now≤st.now∨now<0∨eY<now then 9 else if (dY p.r.l rec).isSome∧fE fb p.aU=0 then 0 else 5:=rfl
 generalize yZ fb p.aU rec st now=M at *
 generalize fE fb p.aU=CK at *
 clear nG hp tZ;obtain⟨n0,gs⟩:=st;unfold bQ.val at *
 obtain⟨⟨sl,sA,sm,sk⟩,⟨rl,rA,rm,rk⟩,⟨el,eA,em,ek⟩,⟨al,aA,am,ak⟩,o,oA,om,ok,i,iA,im,ik⟩:=p;unfold eY at hM;simp only at *
 generalize dY rl rec=FL at *
 replace hM:=ζ hM;have e0:=hE.c0;have e2:=hE.c2;have el':=hE.lt;clear hE;by_cases qR:now≤n0∨now<0∨1099511627776<now
 ·have hM9:M=9:=by rw[hM.o,if_pos qR]
  subst hM9;by_cases h1:now≤n0
  ·go_enter Tryz.func41,Tryz.ntmps41
   go_wp2;go_ret;exact⟨rfl,(ah.refl w).alloc _⟩
  ·by_cases h2:now<0
   ·go_enter Tryz.func41,Tryz.ntmps41
    go_wp2;go_ret;exact⟨rfl,(ah.refl w).alloc _⟩
   ·have h3:1099511627776<now:=ω;go_enter Tryz.func41,Tryz.ntmps41
    go_wp2;go_ret;exact⟨rfl,(ah.refl w).alloc _⟩
 ·have h1:¬now≤n0:=fun h=>qR (.inl h)
  have h2:¬now<0:=fun h=>qR (.inr (.inl h))
  have h3:¬1099511627776<now:=fun h=>qR (.inr (.inr h))
  have Z4:Hid (M=if FL.isSome=true∧CK=0 then 0 else 5):=ζ (by rw[hM.o,if_neg qR]);clear hM qR;have hbP:=aG.new w 50 #[.slice sA sm sk,.slice rA rm rk,.slice eA em ek,.slice aA am ak,.slice oA om ok,.slice iA im ik];have hg0:=(ah.refl w).alloc (.cells #[.slice sA sm sk,.slice rA rm rk,.slice eA em ek,.slice aA am ak,.slice oA om ok,.slice iA im ik] 50);have cF2:=ζ (fun W (hW:ah (w.alloc (.cells #[.slice sA sm sk,.slice rA rm rk,.slice eA em ek,.slice aA am ak,.slice oA om ok,.slice iA im ik] 50)) W)=>cF.out W (hg0.trans hW));have aP:=ζ (ah.refl (w.alloc (.cells #[.slice sA sm sk,.slice rA rm rk,.slice eA em ek,.slice aA am ak,.slice oA om ok,.slice iA im ik] 50)));replace hbP:=ζ hbP;replace hg0:=ζ hg0;clear cF;go_enter Tryz.func41,Tryz.ntmps41
  have uq:=ζ (Nat.lt_succ_self w.heap.size);go_wp2_with fail;refine aF κ ?_;refine rK (.range 10) 3 ?_;iterate 6 refine ay ?_
  refine aT (.tuple #[.agg #[.int .i64 (kW FL).lv,.int .u32 ((kW FL).c:Int)],.bool FL.isSome]) rfl χ (fun wq dN=> ?_) ?_
  ·obtain⟨lu,kR⟩:=bF dN;go_simp;exact Calls.mono (cF2.out wq dN) (fun e w'' h=>h)
  go_simp;iterate 3 refine ay ?_
  refine aB ?_;refine aI [10] κ σ (fun wN hN hS=>(au.cons rfl (fun K' hK=> ?_) au.nil));try replace iQ:=ζ (iQ.o.grows hN)
  replace aP:=ζ (aP.o.trans hN);clear hN;go_simp;have iQ:=ζ (aG.new wN 25 #[.int .i64 0,.int .u32 0]);have C9:=ζ aP.o.size;replace aP:=ζ (aP.o.alloc (.cells #[.int .i64 0,.int .u32 0] 25));refine hK.o _ _ ?_ (fun hS=> ?_)
  ·exact aP.o
  generalize wN.heap.size=gB at *
  clear hK hS;refine aI [11] κ σ (fun wN hN hS=>(au.cons rfl (fun K' hK=> ?_) au.nil));try replace iQ:=ζ (iQ.o.grows hN)
  replace aP:=ζ (aP.o.trans hN);clear hN;have z0:=iQ.o.c0;have z1:=iQ.o.c1;have zf:=fun j=>iQ.o.frozen j
  have zl:=iQ.o.lt;have b1:=(iQ.o.bH 0 (.int .i64 (kW FL).lv)).bH 1 (.int .u32 ((kW FL).c:Int));have g1:=(aP.o.setCell (p:=⟨gB,0,none⟩) C9.o (.int .i64 (kW FL).lv)).setCell (p:=⟨gB,1,none⟩) C9.o (.int .u32 ((kW FL).c:Int));replace b1:=ζ b1;replace g1:=ζ g1;go_simp;refine hK.o _ _ ?_ (fun hS=> ?_)
  ·exact g1.out
  clear z0 z1 zf zl iQ aP;generalize (wN.setCell ⟨gB,0,none⟩ (.int .i64 (kW FL).lv)).setCell ⟨gB,1,none⟩ (.int .u32 ((kW FL).c:Int))=w9 at *
  have iQ:=b1;have aP:=g1;clear b1 g1;clear hK hS;refine rK [12] 0 ?_;iterate 1 refine ay ?_
  refine aB ?_;refine aH κ (fun wN hN hS=> ?_);try replace iQ:=ζ (iQ.o.grows hN)
  replace aP:=ζ (aP.o.trans hN);have Fq:=ζ (hg0.o.trans aP.o);have bP6:=ζ (hbP.o.grows aP.o);clear aP iQ C9 hg0 hbP hN hS e0 e2 el' cF2;generalize FL.isSome=FI at *
  cases FI with
  | false=>
   have hM5:Hid (M=5):=ζ (by rw[Z4.o];simp);go_wp2;go_ret;exact⟨by rw[hM5.o];rfl,Fq.o⟩
  | true=>
   have p0:=bP6.out.c0;have p1:=bP6.out.c1;have p2:=bP6.out.c2;have p3:=bP6.out.c3;have p4:=bP6.out.c4;have p5:=bP6.out.c5;have pl:=bP6.out.lt;go_wp2_with fail;refine (cK.out _ Fq.o).mono ?_;rintro e w7 ⟨rfl,hb7⟩;have Xo:=ζ (Fq.o.trans hb7);clear p0 p1 p2 p3 p4 p5 pl hb7 Fq bP6 cK;by_cases uO:CK=0
   ·have hM0:Hid (M=0):=ζ (by rw[Z4.o];simp[uO]);subst uO;go_wp2;go_ret;exact⟨by rw[hM0.o];rfl,Xo.o⟩
   ·have hM5:Hid (M=5):=ζ (by rw[Z4.o];simp[uO]);go_wp2;go_ret;exact⟨by rw[hM5.o];rfl,Xo.o⟩
end Go.Proofs.YtbhikkgpcmkonaaGreatDoor
namespace Go.Proofs.YtbhikkgpcmkonaaGreatDoor
open Go.RowKit
theorem aes {p:fQ} {l:List iH} {tO:gy} {now:Int} {k:Nat} (h:k∈xE p l tO now):k<l.length:=by
 unfold xE at h;exact List.mem_range.1 (List.mem_filter.1 h).1
theorem afC {fb:cu→Bool} {ft:List bM→cu→Bool} {p:bQ} {tO:gy} {lA:Option Addr} {lm lk:Nat} {xs:List dD} {now:Int} {k:Nat} {x:dD} {gp gl gt gn:Nat} (w:World) (hp:p.At w) (nG:lW fb p) (JD:Qs ft p) (hib:∀r∈p.i,r.bm≤1000000) (YF:p.im≤1000)
 (hA:bW w 6 tH lA lm xs) (hat:∀a∈xs,a.At w) (Jz:lm≤1000) (oC:tO.ok) (hk:xs[k]? = some x)
 (bp:aG w gp 50 p.cells.toArray) (bl:aG w gl 59 #[.slice lA lm lk]) (bt:aG w gt 25 #[.int .i64 tO.lv,.int .u32 (tO.c:Int)]) (bn:aG w gn 3 #[.int .i64 now]) :
 Calls Tryz.prog 98 #[.int .i64 (k:Int),.pointer (some ⟨gp,0,none⟩),.pointer (some ⟨gl,0,none⟩),.pointer (some ⟨gt,0,none⟩),.pointer (some ⟨gn,0,none⟩)] w fun e w'=>e =.returned (.bool (!(yC fb ft p.aU (xs.map (·.a)) k tO now).isEmpty))∧ah w w':=by
 have cQ:=ζ (aaY (fb:=fb) (ft:=ft) (lk:=lk) (now:=now) w hp nG JD hib YF hA hat Jz oC hk);generalize yC fb ft p.aU (xs.map (·.a)) k tO now=Q at *
 have hQl:(decide (0<Q.length))= !Q.isEmpty:=by cases Q <;> simp
 have p0:=bp.cell 0;have p1:=bp.cell 1;have p2:=bp.cell 2;have p3:=bp.cell 3;have p4:=bp.cell 4;have p5:=bp.cell 5;have l0:=bl.c0;have t0:=bt.c0;have t1:=bt.c1;have n0:=bn.c0;have ZR:=bp.lt;have hl2:=bl.lt;have hl3:=bt.lt;have hl4:=bn.lt;unfold bQ.cells at p0 p1 p2 p3 p4 p5;unfold bQ.val at cQ;simp only[List.getElem?_toArray,List.getElem?_cons_zero,List.getElem?_cons_succ] at p0 p1 p2 p3 p4 p5;clear hp nG JD hib hA hat hk bp bl bt bn;go_enter Tryz.func98,Tryz.ntmps98
 go_wp2_with fail;refine cQ.out.mono ?_;rintro e w1 ⟨v,rfl,hO,hG⟩;obtain⟨A,c,rfl,-,-,-⟩:=hO.arr Fe;go_wp2;go_ret;exact⟨rfl,hG⟩
theorem ajn {fb:cu→Bool} {ft:List bM→cu→Bool} {p:bQ} {tO:gy} {lA:Option Addr} {lm lk:Nat} {xs:List dD} {now:Int} (w:World) (hp:p.At w) (nG:lW fb p) (JD:Qs ft p) (hib:∀r∈p.i,r.bm≤1000000) (YF:p.im≤1000)
 (hA:bW w 6 tH lA lm xs) (hat:∀a∈xs,a.At w) (Jz:lm≤1000) (oC:tO.ok) :
 Calls Tryz.prog 53 #[p.val,.slice lA lm lk,.agg #[.int .i64 tO.lv,.int .u32 (tO.c:Int)],.int .i64 now] w fun e w'=>∃v,e =.returned v∧Own w' w.heap.size 3 1 encI v (xQ fb ft p.aU (xs.map (·.a)) tO now)∧ah w w':=by
 have cK:=ζ (fun W (hW:ah w W)=>zI W (hp.keep hW) nG);have cT:=ζ (fun W (hW:ah w W)=>aiA (lk:=lk) (now:=now) W (hp.keep hW) (hA.keep hW) (fun a ha=>(hat a ha).keep hW) Jz oC);have cC:=ζ (fun k (hk:k∈xE p.aU (xs.map (·.a)) tO now) W (hW:ah w W) gp gl gt gn (bp:aG W gp 50 p.cells.toArray) (bl:aG W gl 59 #[.slice lA lm lk]) (bt:aG W gt 25 #[.int .i64 tO.lv,.int .u32 (tO.c:Int)]) (bn:aG W gn 3 #[.int .i64 now])=>
  have hkx:∃x,xs[k]? = some x:=⟨_,List.getElem?_eq_getElem (by have:=aes hk;rw[List.length_map] at this;exact this)⟩;hkx.elim fun x hx=>afC (fb:=fb) (ft:=ft) W (hp.keep hW) nG JD hib YF (hA.keep hW) (fun a ha=>(hat a ha).keep hW) Jz oC hx bp bl bt bn)
 have hL:xQ fb ft p.aU (xs.map (·.a)) tO now=if fE fb p.aU=0 then (xE p.aU (xs.map (·.a)) tO now).filter (fun k=> !!(yC fb ft p.aU (xs.map (·.a)) k tO now).isEmpty) else []:=by
  unfold xQ;simp only[Bool.not_not]
 have hTl:(xE p.aU (xs.map (·.a)) tO now).length≤65536:=by
  have h1:(xE p.aU (xs.map (·.a)) tO now).length≤(List.range (xs.map (·.a)).length).length:=List.length_filter_le _ _;have h2:=hA.1;rw[List.length_range,List.length_map] at h1;omega
 replace hL:=ζ hL;replace hTl:=ζ hTl;generalize xQ fb ft p.aU (xs.map (·.a)) tO now=LL at *
 generalize xE p.aU (xs.map (·.a)) tO now=TL at *
 generalize fE fb p.aU=CK at *
 have cC2:=ζ (fun k hk W hW gp gl gt gn=>cC.out k hk W hW gp gl gt gn);clear cC;unfold bQ.cells at cC2;unfold bQ.val at *
 obtain⟨⟨sl,sA,sm,sk⟩,⟨rl,rA,rm,rk⟩,⟨el,eA,em,ek⟩,⟨al,aA,am,ak⟩,o,oA,om,ok,i,iA,im,ik⟩:=p;simp only at cK cT cC2 ⊢;clear hp nG JD hib YF hA hat Jz;go_enter Tryz.func53,Tryz.ntmps53
 go_wp2_with fail;refine (cK.out _ γ).mono ?_;rintro e w1 ⟨rfl,hb1⟩;have bP:aG w1 w.heap.size 50 #[.slice sA sm sk,.slice rA rm rk,.slice eA em ek,.slice aA am ak,.slice oA om ok,.slice iA im ik]:=((((aG.new w _ _).alloc _).alloc _).alloc _).grows hb1;have bl:aG w1 (w.heap.size+1) 59 #[.slice lA lm lk]:=(((aG.kV w _ _ _).alloc _).alloc _).grows hb1;have bt:aG w1 (w.heap.size+1+1) 25 #[.int .i64 tO.lv,.int .u32 (tO.c:Int)]:=((aG.Bh w _ _ _ _).alloc _).grows hb1;have bn:aG w1 (w.heap.size+1+1+1) 3 #[.int .i64 now]:=(aG.abh w _ _ _ _ _).grows hb1;have fM:ah w w1:=(((((ah.refl w).alloc _).alloc _).alloc _).alloc _).trans hb1;have p0:=bP.c0;have p1:=bP.c1;have p2:=bP.c2;have p3:=bP.c3;have p4:=bP.c4;have p5:=bP.c5;have l0:=bl.c0;have t0:=bt.c0;have t1:=bt.c1;have n0:=bn.c0;have ZR:=bP.lt;have hl2:=bl.lt;have hl3:=bt.lt;have hl4:=bn.lt;have hsz:=fM.size;clear hb1 cK;by_cases uO:CK=0
 ·subst uO;have hLL:Hid (LL=_):=ζ (by rw[hL.o,if_pos rfl]);go_wp2_with fail;refine (cT.out _ fM).mono ?_;rintro e w2 ⟨v2,rfl,nM,hb2⟩;have cD:=ζ (P9 98 #[.pointer (some ⟨w.heap.size,0,none⟩),.pointer (some ⟨w.heap.size+1,0,none⟩),.pointer (some ⟨w.heap.size+1+1,0,none⟩),.pointer (some ⟨w.heap.size+1+1+1,0,none⟩)] (enters_of Tryz.func98 κ rfl) _ w1.heap.size v2 TL w2 nM hb2.size hTl.o (fun k hk W hW=>by
   have Z5:ah w1 W:=hb2.iw hW;exact cC2.out k hk W (fM.trans Z5) _ _ _ _ (bP.grows Z5) (bl.grows Z5) (bt.grows Z5) (bn.grows Z5)))
  have gK:=fM.trans hb2;clear cT cC2;go_wp2_with fail;refine cD.out.mono ?_;rintro e w3 ⟨v3,rfl,je,hb3⟩;go_wp2;go_ret;exact⟨_,rfl,by rw[hLL.o];exact je.bK hsz,fM.trans (hb2.iw hb3)⟩
 ·have hLL:LL=[]:=by rw[hL.o,if_neg uO]
  go_wp2;go_ret;exact⟨_,rfl,by rw[hLL];exact Own.iO _ _ _ _ _,fM⟩
end Go.Proofs.YtbhikkgpcmkonaaGreatDoor
namespace Go.Proofs.YtbhikkgpcmkonaaGreatDoor
open Go.RowKit Go.Maps Go.WideMaps
theorem Ue {fb:cu→Bool} {ft:List bM→cu→Bool} {p:fQ} {l:List iH} {tt:gy} {now:Int} {k:Nat} (h:k∈xQ fb ft p l tt now):∃a,l[k]? = some a∧bg a = true:=by
 unfold xQ at h;split at h
 ·have h1:=(List.mem_filter.1 h).1;unfold xE at h1;have h2:=(List.mem_filter.1 h1).2;cases hk:l[k]? with
  | none=>rw[hk] at h2;cases h2
  | some a=>
   rw[hk] at h2;unfold zU at h2;simp only[Bool.and_eq_true] at h2;exact⟨a,rfl,h2.2.1⟩
 ·cases h
def aec (ft:List bM→cu→Bool) (q:QX):Prop:=∀x∈q,∀y∈x.2.s.wh,lV ft y
theorem aeL {ft:List bM→cu→Bool} {p:bQ} {tt:gy} {lA:Option Addr} {lm lk:Nat} {xs:List dD} {now:Int} {k:Nat} {x:dD} {base gq b last:Nat} {q:QX} {gs gp gl gt gn:Nat} (w:World) (hp:p.At w) (hA:bW w 6 tH lA lm xs) (hat:∀a∈xs,a.At w) (oC:tt.ok) (hk:xs[k]? = some x) (hr:bg x.a = true)
 (hL:jl w base gq b q last) (Xk:q.length≤60000) (kR:aec ft q)
 (bs:aG w gs 60 #[.pointer (some ⟨gq,0,none⟩)]) (bp:aG w gp 50 p.cells.toArray) (bl:aG w gl 59 #[.slice lA lm lk]) (bt:aG w gt 25 #[.int .i64 tt.lv,.int .u32 (tt.c:Int)]) (bn:aG w gn 3 #[.int .i64 now]) :
 Calls Tryz.prog 54 #[.int .i64 (k:Int),.pointer (some ⟨gs,0,none⟩),.pointer (some ⟨gp,0,none⟩),.pointer (some ⟨gl,0,none⟩),.pointer (some ⟨gt,0,none⟩),.pointer (some ⟨gn,0,none⟩)] w fun e w'=>e =.returned (.bool (!(vw ft p.aU (bJ q last) x.a tt now).isEmpty))∧ah w w':=by
 have wL:=List.mem_of_getElem? hk;have cQ:=ζ (fun W (hW:ah w W)=>ae1 (ft:=ft) (now:=now) W (hL.grows hW) (hp.keep hW) ((hat x wL).keep hW) oC (fun f hf=>by have:=((gQ hr).2.2 f hf).2;omega) Xk kR);generalize vw ft p.aU (bJ q last) x.a tt now=Q at *
 have arh:k<lm:=by rw[←hA.1];exact (List.getElem?_eq_some_iff.1 hk).1
 obtain⟨xb,xo,x',hxp,hxb,zo,Uh⟩:=hA.at_ arh;rw[hk] at zo;injection zo with zo
 subst zo;have hs0:w.cell? ⟨xb,xo+k*6,none⟩=some (.string ⟨x.a.src.toArray⟩):=Uh 0 _ rfl;have hs1:w.cell? ⟨xb,xo+k*6+1,none⟩=some (.slice x.A x.m x.k):=Uh 1 _ rfl;have hs2:w.cell? ⟨xb,xo+k*6+2,none⟩=some (.int .i64 x.a.l.lv):=Uh 2 _ rfl;have hs3:w.cell? ⟨xb,xo+k*6+3,none⟩=some (.int .u32 (x.a.l.c:Int)):=Uh 3 _ rfl;have hs4:w.cell? ⟨xb,xo+k*6+4,none⟩=some (.int .i64 x.a.f):=Uh 4 _ rfl;have hs5:w.cell? ⟨xb,xo+k*6+5,none⟩=some (.int .i64 x.a.t):=Uh 5 _ rfl;have kX:(k:Int)<(lm:Int):=ω;subst hxp;have p0:=bp.cell 0;have p1:=bp.cell 1;have p2:=bp.cell 2;have p3:=bp.cell 3;have p4:=bp.cell 4;have p5:=bp.cell 5;have s0:=bs.c0;have l0:=bl.c0;have t0:=bt.c0;have t1:=bt.c1;have n0:=bn.c0;have hl0:=bs.lt;have ZR:=bp.lt;have hl2:=bl.lt;have hl3:=bt.lt;have hl4:=bn.lt;unfold bQ.cells at p0 p1 p2 p3 p4 p5;unfold bQ.val iV at cQ;simp only[List.getElem?_toArray,List.getElem?_cons_zero,List.getElem?_cons_succ] at p0 p1 p2 p3 p4 p5;have aP:=ζ (ah.refl w);clear hp hA hat hk wL Uh bs bp bl bt bn hL kR;go_enter Tryz.func54,Tryz.ntmps54
 go_wp2_with fail;refine aF κ ?_;refine rK (.range 8) 4 ?_;iterate 8 refine ay ?_
 refine aB ?_;refine aI [8] κ σ (fun wN hN hS=>(au.cons rfl (fun K' hK=> ?_) au.nil));replace aP:=ζ (aP.o.trans hN);try replace hO:=ζ (hO.o.grows hN)
 clear hN;go_simp;refine (cQ.out _ aP.o).mono ?_;rintro e w5 ⟨v5,rfl,hO,fK⟩;replace aP:=ζ (aP.o.trans fK);obtain⟨A5,c5,rfl,-,-,-⟩:=hO.arr Fe;replace hO:=ζ hO;refine hK.o _ _ ?_ (fun hS=> ?_)
 ·exact aP.o
 clear fK;clear hK hS;refine rK [9,10,11] 0 ?_;iterate 3 refine ay ?_
 refine aB ?_;refine aH κ (fun wN hN hS=> ?_);replace aP:=ζ (aP.o.trans hN);try replace hO:=ζ (hO.o.grows hN)
 go_wp2;go_ret;refine⟨?_,aP.o⟩;exact aJ (by cases Q <;> simp)
theorem aiQ {fb:cu→Bool} {ft:List bM→cu→Bool} {p:bQ} {rec:List UInt8} {lA:Option Addr} {lm lk:Nat} {xs:List dD} {now n0:Int} {base gq b last ge bm:Nat} {q:QX} (w:World) (hp:p.At w) (nG:lW fb p) (JD:Qs ft p) (hib:∀r∈p.i,r.bm≤1000000) (YF:p.im≤1000)
 (hA:bW w 6 tH lA lm xs) (hat:∀a∈xs,a.At w) (Jz:lm≤1000) (hL:jl w base gq b q last) (Xk:q.length≤60000) (kR:aec ft q) (hE:aG w ge 118 #[.string ⟨rec.toArray⟩,.map (some bm),.int .i64 n0]) :
 Calls Tryz.prog 21 #[.pointer (some ⟨ge,0,none⟩),p.val,.slice lA lm lk,.pointer (some ⟨gq,0,none⟩),.int .i64 now] w fun e w'=>∃v,e =.returned v∧Own w' w.heap.size 3 1 encI v (yS fb ft p.aU rec (xs.map (·.a)) (bJ q last) now)∧ah w w':=by
 have cF:=ζ (fun W (hW:ah w W)=>zD (c:=p.r.k) (n:=rec) W (hp.r.arr.keep hW) hp.r.le);have cT:=ζ (fun tt (ht:dY p.r.l rec=some tt) W (hW:ah w W)=>ajn (fb:=fb) (ft:=ft) (lk:=lk) (now:=now) W (hp.keep hW) nG JD hib YF (hA.keep hW) (fun a ha=>(hat a ha).keep hW) Jz (show tt.ok by obtain⟨y,hy,rfl⟩:=zC ht;exact hp.r.Jy y hy));have cC:=ζ (fun tt (ht:dY p.r.l rec=some tt) k (hk:k∈xQ fb ft p.aU (xs.map (·.a)) tt now) W (hW:ah w W) gs gp gl gt gn (bs:aG W gs 60 #[.pointer (some ⟨gq,0,none⟩)]) (bp:aG W gp 50 p.cells.toArray) (bl:aG W gl 59 #[.slice lA lm lk]) (bt:aG W gt 25 #[.int .i64 tt.lv,.int .u32 (tt.c:Int)]) (bn:aG W gn 3 #[.int .i64 now])=>
  show Calls Tryz.prog 54 #[.int .i64 (k:Int),.pointer (some ⟨gs,0,none⟩),.pointer (some ⟨gp,0,none⟩),.pointer (some ⟨gl,0,none⟩),.pointer (some ⟨gt,0,none⟩),.pointer (some ⟨gn,0,none⟩)] W fun e w'=>e =.returned (.bool (!Gs ft p.aU (bJ q last) (xs.map (·.a)) tt now k))∧ah W w' by
   obtain⟨a,ha,hr⟩:=Ue hk;rw[List.getElem?_map] at ha;obtain⟨x,hx,rfl⟩:=Option.map_eq_some_iff.1 ha;have h:=aeL (ft:=ft) (now:=now) W (hp.keep hW) (hA.keep hW) (fun a ha=>(hat a ha).keep hW) (show tt.ok by obtain⟨y,hy,rfl⟩:=zC ht;exact hp.r.Jy y hy) hx hr (hL.grows hW) Xk kR bs bp bl bt bn;have e1:Gs ft p.aU (bJ q last) (xs.map (·.a)) tt now k=(vw ft p.aU (bJ q last) x.a tt now).isEmpty:=by unfold Gs;rw[List.getElem?_map,hx];rfl
   rw[e1];exact h)
 have hS:yS fb ft p.aU rec (xs.map (·.a)) (bJ q last) now=match dY p.r.l rec with
  | none=>[]
  | some tt=>(xQ fb ft p.aU (xs.map (·.a)) tt now).filter (Gs ft p.aU (bJ q last) (xs.map (·.a)) tt now):=rfl
 have hLl:=ζ (fun tt=>show (xQ fb ft p.aU (xs.map (·.a)) tt now).length≤65536 by
  unfold xQ;split
  ·refine Nat.le_trans (List.length_filter_le _ _) ?_;have h1:(xE p.aU (xs.map (·.a)) tt now).length≤(List.range (xs.map (·.a)).length).length:=List.length_filter_le _ _;have h2:=hA.1;rw[List.length_range,List.length_map] at h1;omega
  ·exact Nat.zero_le _)
 have e0:=hE.c0;have el:=hE.lt;generalize yS fb ft p.aU rec (xs.map (·.a)) (bJ q last) now=RES at *
 generalize xQ fb ft p.aU (xs.map (·.a))=LL at *
 generalize Gs ft p.aU (bJ q last) (xs.map (·.a))=OA at *
 have hSn:=ζ hS;clear hS;have cC2:=ζ (fun tt ht k hk W hW gs gp gl gt gn=>cC.out tt ht k hk W hW gs gp gl gt gn);clear cC;unfold bQ.cells at cC2;unfold bQ.val at *
 obtain⟨⟨sl,sA,sm,sk⟩,⟨rl,rA,rm,rk⟩,⟨el',eA,em,ek⟩,⟨al,aA,am,ak⟩,o,oA,om,ok,i,iA,im,ik⟩:=p;simp only at cF cT cC2 hSn ⊢;clear hp nG JD hib YF hA hat Jz hL Xk kR hE;generalize hFL:dY rl rec=FL at *
 clear hFL;obtain⟨w0,hw0,bP,bl,bs,bn,hg0,hz0⟩:∃w0:World,w0=(((w.alloc (.cells #[.slice sA sm sk,.slice rA rm rk,.slice eA em ek,.slice aA am ak,.slice oA om ok,.slice iA im ik] 50)).alloc (.cells #[.slice lA lm lk] 59)).alloc (.cells #[.pointer (some ⟨gq,0,none⟩)] 60)).alloc (.cells #[.int .i64 now] 3)∧
  aG w0 w.heap.size 50 #[.slice sA sm sk,.slice rA rm rk,.slice eA em ek,.slice aA am ak,.slice oA om ok,.slice iA im ik]∧aG w0 (w.heap.size+1) 59 #[.slice lA lm lk]∧aG w0 (w.heap.size+1+1) 60 #[.pointer (some ⟨gq,0,none⟩)]∧aG w0 (w.heap.size+1+1+1) 3 #[.int .i64 now]∧ah w w0∧w0.heap.size=w.heap.size+4:=
  ⟨_,rfl,(((aG.new w _ _).alloc _).alloc _).alloc _,((aG.kV w _ _ _).alloc _).alloc _,(aG.Bh w _ _ _ _).alloc _,aG.abh w _ _ _ _ _,((((ah.refl w).alloc _).alloc _).alloc _).alloc _,by simp⟩
 have cF2:=ζ (fun W (hW:ah w0 W)=>cF.out W (hg0.trans hW));have aP:=ζ (ah.refl w0);have p1:=bP.c1;have pl:=bP.lt;replace e0:=hg0.cell e0;replace el:=Nat.lt_of_lt_of_le el hg0.size;replace bP:=ζ bP;replace bl:=ζ bl;replace bs:=ζ bs;replace bn:=ζ bn;replace hg0:=ζ hg0;replace hz0:=ζ hz0;clear cF;go_enter Tryz.func21,Tryz.ntmps21
 go_wp2_with fail;rw[←hw0];clear hw0;refine aF κ ?_;refine rK (.range 10) 3 ?_;iterate 6 refine ay ?_
 refine aT (.tuple #[.agg #[.int .i64 (kW FL).lv,.int .u32 ((kW FL).c:Int)],.bool FL.isSome]) rfl χ (fun wq dN=> ?_) ?_
 ·obtain⟨lu,kR⟩:=bF dN;go_simp;exact Calls.mono (cF2.out wq dN) (fun e w'' h=>h)
 go_simp;iterate 3 refine ay ?_
 refine aB ?_;refine aI [10] κ σ (fun wN hN hS=>(au.cons rfl (fun K' hK=> ?_) au.nil));try replace iQ:=ζ (iQ.o.grows hN)
 replace aP:=ζ (aP.o.trans hN);clear hN;go_simp;have iQ:=ζ (aG.new wN 25 #[.int .i64 0,.int .u32 0]);have C9:=ζ aP.o.size;replace aP:=ζ (aP.o.alloc (.cells #[.int .i64 0,.int .u32 0] 25));refine hK.o _ _ ?_ (fun hS=> ?_)
 ·exact aP.o
 generalize wN.heap.size=gB at *
 clear hK hS;refine aI [11] κ σ (fun wN hN hS=>(au.cons rfl (fun K' hK=> ?_) au.nil));try replace iQ:=ζ (iQ.o.grows hN)
 replace aP:=ζ (aP.o.trans hN);clear hN;have z0:=iQ.o.c0;have z1:=iQ.o.c1;have zf:=fun j=>iQ.o.frozen j
 have zl:=iQ.o.lt;have b1:=(iQ.o.bH 0 (.int .i64 (kW FL).lv)).bH 1 (.int .u32 ((kW FL).c:Int));have g1:=(aP.o.setCell (p:=⟨gB,0,none⟩) C9.o (.int .i64 (kW FL).lv)).setCell (p:=⟨gB,1,none⟩) C9.o (.int .u32 ((kW FL).c:Int));replace b1:=ζ b1;replace g1:=ζ g1;go_simp;refine hK.o _ _ ?_ (fun hS=> ?_)
 ·exact g1.out
 clear z0 z1 zf zl iQ aP;generalize (wN.setCell ⟨gB,0,none⟩ (.int .i64 (kW FL).lv)).setCell ⟨gB,1,none⟩ (.int .u32 ((kW FL).c:Int))=w9 at *
 have iQ:=b1;have aP:=g1;clear b1 g1;clear hK hS;refine rK [12] 0 ?_;iterate 1 refine ay ?_
 refine aB ?_;refine aH κ (fun wN hN hS=> ?_);try replace iQ:=ζ (iQ.o.grows hN)
 replace aP:=ζ (aP.o.trans hN);have oP:=ζ (hg0.o.trans aP.o);have bP5:=ζ (bP.out.grows aP.o);have bl5:=ζ (bl.out.grows aP.o);have bs5:=ζ (bs.out.grows aP.o);have bn5:=ζ (bn.out.grows aP.o);have Yx:=ζ oP.o.size;clear aP C9 hg0 hz0 bP bl bs bn hN hS e0 el p1 pl cF2;cases FL with
 | none=>
  simp only[Option.isSome_none] at *
  go_wp2;go_ret;exact⟨_,rfl,by rw[hSn.o];exact Own.iO _ _ _ _ _,oP.o⟩
 | some tt=>
  simp only[Option.isSome_some,kW,Option.getD_some] at *
  have cTx:=ζ (cT.out tt (by first | rfl | trivial) wN oP.o);have UY:=ζ (fun k hk W hW gs gp gl gt gn=>cC2.out tt (by first | rfl | trivial) k hk W hW gs gp gl gt gn);have Wu:Hid (RES=(LL tt now).filter (fun k=> !!OA tt now k)):=ζ (by rw[hSn.o];simp only[Bool.not_not]);have p0:=bP5.out.c0;have p1:=bP5.out.c1;have p2:=bP5.out.c2;have p3:=bP5.out.c3;have p4:=bP5.out.c4;have p5:=bP5.out.c5;have pl:=bP5.out.lt;have l0:=bl5.out.c0;have ll:=bl5.out.lt;have n0':=bn5.out.c0;have nl:=bn5.out.lt;have t0:=iQ.o.c0;have t1:=iQ.o.c1;have tl:=iQ.o.lt;clear cT cC2 hSn;go_wp2_with fail;refine cTx.out.mono ?_;rintro e w6 ⟨v6,rfl,uz,Et⟩;have cD:=ζ (P9 54 #[.pointer (some ⟨w.heap.size+1+1,0,none⟩),.pointer (some ⟨w.heap.size,0,none⟩),.pointer (some ⟨w.heap.size+1,0,none⟩),.pointer (some ⟨gB,0,none⟩),.pointer (some ⟨w.heap.size+1+1+1,0,none⟩)] (enters_of Tryz.func54 κ rfl) _ wN.heap.size v6 (LL tt now) w6 uz Et.size (hLl.o tt) (fun k hk W hW=>by
   have Z5:ah wN W:=Et.iw hW;exact UY.out k hk W (oP.o.trans Z5) _ _ _ _ _ (bs5.out.grows Z5) (bP5.out.grows Z5) (bl5.out.grows Z5) (iQ.o.grows Z5) (bn5.out.grows Z5)))
  clear cTx UY p0 p1 p2 p3 p4 p5 pl l0 ll n0' nl t0 t1 tl;go_wp2_with fail;refine cD.out.mono ?_;rintro e w7 ⟨v7,rfl,rH,hb7⟩;go_wp2;go_ret;exact⟨_,rfl,by rw[Wu.o];exact rH.bK Yx.o,oP.o.trans (Et.iw hb7)⟩
end Go.Proofs.YtbhikkgpcmkonaaGreatDoor
