/- Parts: PolC AlrA AlrB AlrC -/
import Derived.Test.YteojanlajhebhaaGreatDoorGs0
import Derived.Test.YteojanlajhebhaaGreatDoorGs6
import Derived.Test.YteojanlajhebhaaGreatDoorGs7
import Derived.Test.YteojanlajhebhaaGreatDoorGs5
set_option maxRecDepth 100000
set_option maxHeartbeats 12800000
namespace Go.Proofs.YteojanlajhebhaaGreatDoor
open Go.RowKit
theorem ajF {a b:Cc} (ha:a.ok) (hb:b.ok):(yC a b).ok:=ajG ha hb
def Ii (l:Cc):Array Value:= #[.int .i64 l.lv,.int .u32 (l.c:Int)]
theorem Rx {p:HY} {n:List UInt8} {l:Cc} (hp:∀x∈p.raises,x.l.ok) (hl:l.ok):(jA p n l).ok:=by
 unfold jA;cases h:gG p.raises n with
 | none=>exact hl
 | some r=>
  obtain⟨x,hx,rfl⟩:=MW h;exact ajF hl (hp x hx)
theorem acA {p:dU} {n:List UInt8} {l:Cc} (w:World) (hp:p.At w) (hl:l.ok) :
 Calls Tryz.prog 118 #[p.val,.string ⟨n.toArray⟩,.agg #[.int .i64 l.lv,.int .u32 (l.c:Int)]] w fun e w'=>e =.returned (.agg #[.int .i64 (jA p.dQ n l).lv,.int .u32 ((jA p.dQ n l).c:Int)])∧ah w w':=by
 have hA:=fun W (hW:ah w W)=>Tv (c:=p.a.k) (n:=n) W (hp.a.arr.keep hW) hp.a.le
 have NY:=hp.a.Yu;unfold dU.val;have jU:jA p.dQ n l = (match gG p.a.l n with | some r=>yC l r | none=>l):=rfl;obtain⟨⟨sl,sA,sm,sk⟩,⟨rl,rA,rm,rk⟩,⟨el,eA,em,ek⟩,⟨al,aA,am,ak⟩,o,oA,om,ok,i,iA,im,ik⟩:=p;simp only at hA jU NY ⊢;clear hp;cases hf:gG al n with
 | none=>
  rw[hf] at hA jU;simp only at jU;rw[jU];simp only[AA,Option.getD_none,Option.isSome_none] at hA;replace hA:=ζ hA;clear jU hf;go_enter Tryz.func118,Tryz.ntmps118
  go_wp2_with fail;refine (hA.o _ γ).mono ?_;rintro e w1 ⟨rfl,hb⟩;have bl:aS w1 (w.heap.size+1) 40 (Ii l):=((aS.vO w _ _ _).alloc _).grows hb;have l0:=bl.c0;have l1:=bl.c1;have b1:aS w1 (w.heap.size+1+1) 40 (Ii ⟨0,0⟩):=(aS.IQ w _ _ _ _).grows hb;have sl:=bl.lt;clear bl;have d0:_ = some (Value.int .i64 0):=b1.cell 0;have d1:_ = some (Value.int .u32 0):=b1.cell 1;have f0:=b1.frozen 0;have f1:=b1.frozen 1;have s1:=b1.lt;have hg:ah w w1:=by
   exact γ
  clear hA hb b1;go_wp2_with fail;refine bodyPost_ret (v:=.agg #[.int .i64 l.lv,.int .u32 (l.c:Int)]) ?_ rfl ⟨rfl,?_⟩
  ·simp only[results,Tryz.results118];go_simp
  ·exact γ
 | some r=>
  have hr:r.ok:=by obtain⟨x,hx,rfl⟩:=MW hf;exact NY x hx
  rw[hf] at hA jU;simp only at jU;rw[jU];simp only[AA,Option.getD_some,Option.isSome_some] at hA;have cJ:=fun W=>agt l r W hl hr
  generalize yC l r = J at *
  replace hA:=ζ hA;replace cJ:=ζ cJ;clear jU hf hr NY;go_enter Tryz.func118,Tryz.ntmps118
  go_wp2_with fail;refine (hA.o _ γ).mono ?_;rintro e w1 ⟨rfl,hb⟩;have bl:aS w1 (w.heap.size+1) 40 (Ii l):=((aS.vO w _ _ _).alloc _).grows hb;have l0:=bl.c0;have l1:=bl.c1;have b1:aS w1 (w.heap.size+1+1) 40 (Ii ⟨0,0⟩):=(aS.IQ w _ _ _ _).grows hb;have sl:=bl.lt;clear bl;have s0:=b1.lt;have hg:ah w w1:=by
   exact γ
  clear hA hb;go_wp2_with fail;refine (cJ.out _).mono ?_;rintro e w2 ⟨rfl,hb2⟩;replace b1:=(b1.alloc _).grows hb2;have d0:_ = some (Value.int .i64 0):=b1.cell 0;have d1:_ = some (Value.int .u32 0):=b1.cell 1;have f0:=b1.frozen 0;have f1:=b1.frozen 1;have s1:=b1.lt;have hg2:ah w w2:=by
   exact γ
  clear cJ hb2 b1 hg s0;go_wp2_with fail;refine bodyPost_ret (v:=.agg #[.int .i64 J.lv,.int .u32 (J.c:Int)]) ?_ rfl ⟨rfl,?_⟩
  ·simp only[results,Tryz.results118];go_simp
  ·exact γ
theorem ah9 {p:dU} {l to:Cc} {f:eu} {gp ga gt:Nat} (w:World) (hp:p.At w) (hl:l.ok) (ht:to.ok) (bp:aS w gp 26 p.cells.toArray) (ba:aS w ga 40 (Ii l)) (bt:aS w gt 40 (Ii to)) :
 Calls Tryz.prog 117 #[QV f,.pointer (some ⟨gp,0,none⟩),.pointer (some ⟨ga,0,none⟩),.pointer (some ⟨gt,0,none⟩)] w fun e w'=>e =.returned (.bool (!nO (jA p.dQ f.n l) to))∧ah w w':=by
 have cR:=fun W (hW:ah w W)=>acA (n:=f.n) W (hp.keep hW) hl
 have hro:(jA p.dQ f.n l).ok:=Rx hp.a.Yu hl;have cF:=fun W=>Si (jA p.dQ f.n l) to W hro ht
 generalize jA p.dQ f.n l = R at *
 generalize nO R to=B at *
 unfold dU.val at cR;have q0:=bp.cell 0;have q1:=bp.cell 1;have q2:=bp.cell 2;have q3:=bp.cell 3;have q4:=bp.cell 4;have q5:=bp.cell 5;have a0:=ba.cell 0;have a1:=ba.cell 1;have t0:=bt.cell 0;have t1:=bt.cell 1;have sp:=bp.lt;have sa:=ba.lt;have st:=bt.lt;unfold Ii at a0 a1 t0 t1;unfold dU.cells at q0 q1 q2 q3 q4 q5;unfold QV;clear hp bp ba bt;obtain⟨⟨sl,sA,sm,sk⟩,⟨rl,rA,rm,rk⟩,⟨el,eA,em,ek⟩,⟨al,aA,am,ak⟩,o,oA,om,ok,i,iA,im,ik⟩:=p;simp only[List.getElem?_toArray,List.getElem?_cons_zero,List.getElem?_cons_succ] at cR q0 q1 q2 q3 q4 q5;replace cR:=ζ cR;replace cF:=ζ cF;go_enter Tryz.func117,Tryz.ntmps117
 go_wp2_with fail;refine bV (μ [0,1,2,3,5,4,6,7,8] [4,6]) κ κ rfl κ π ?_;iterate 5 refine dX ?_
 refine iw rfl (fun K' hK=> ?_);go_simp;refine (cR.out _ γ).mono ?_;rintro e w1 ⟨rfl,hb1⟩;refine hK.o _ _ ?_ (fun hS=> ?_)
 ·exact γ
 clear hK hS;refine iw rfl (fun K' hK=> ?_);go_simp;refine (cF.out _).mono ?_;rintro e w2 ⟨rfl,hb2⟩;refine hK.o _ _ ?_ (fun hS=> ?_)
 ·exact γ
 clear hK hS;iterate 2 refine dX ?_
 refine gK ?_;go_wp2;go_ret;exact⟨aU rfl,by
  exact γ
 ⟩
theorem Wh {α:Type} (p:α→Bool) (l:List α):(l.filter fun x=> !!p x)=l.filter p:=by congr 1;funext x;rw[Bool.not_not]
theorem YN {p:dU} {A:Option Addr} {m c:Nat} {fs:List eu} {l to:Cc} (w:World) (hp:p.At w) (hA:dH w 2 fU A m fs) (hm:m≤1000) (hl:l.ok) (ht:to.ok) :
 Calls Tryz.prog 84 #[p.val,.slice A m c,.agg #[.int .i64 l.lv,.int .u32 (l.c:Int)],.agg #[.int .i64 to.lv,.int .u32 (to.c:Int)]] w fun e w'=>∃v,e =.returned v∧Own w' w.heap.size 63 2 fU v (iY p.dQ fs l to)∧ah w w':=by
 have hlen:=hA.1;obtain⟨w3,hw3⟩:∃w3,w3=((w.alloc (.cells p.cells.toArray 26)).alloc (.cells (Ii l) 40)).alloc (.cells (Ii to) 40):=⟨_,rfl⟩;have hg3:ah w w3:=by rw[hw3];exact (((ah.refl w).alloc _).alloc _).alloc _
 have bp:aS w3 w.heap.size 26 p.cells.toArray:=by rw[hw3];exact ((aS.new w _ _).alloc _).alloc _
 have ba:aS w3 (w.heap.size+1) 40 (Ii l):=by rw[hw3];exact (aS.vO w _ _ _).alloc _
 have bt:aS w3 (w.heap.size+1+1) 40 (Ii to):=by rw[hw3];exact aS.IQ w _ _ _ _
 have cC:=aam (c:=c) w3 (hA.keep hg3) ω;have cD:=fun v w4 (hg:ah w3 w4) (hO:Own w4 w3.heap.size 63 2 fU v fs)=>aai 117 #[.pointer (some ⟨w.heap.size,0,none⟩),.pointer (some ⟨w.heap.size+1,0,none⟩),.pointer (some ⟨w.heap.size+1+1,0,none⟩)] (enters_of Tryz.func117 κ rfl)
  (fun f=> !nO (jA p.dQ f.n l) to) w3.heap.size v fs w4 hO hg.size ω (fun f _ W hW=>ah9 W (hp.keep (hg3.trans (hg.LP hW))) hl ht (bp.grows (hg.LP hW)) (ba.grows (hg.LP hW)) (bt.grows (hg.LP hW)))
 have akj:=Wh (fun f:eu=>nO (jA p.dQ f.n l) to) fs;rw[akj] at cD;change Calls _ _ _ _ fun e w'=>∃v,e =.returned v∧Own w' w.heap.size 63 2 fU v (fs.filter fun f=>nO (jA p.dQ f.n l) to)∧ah w w'
 generalize (fs.filter fun f=>nO (jA p.dQ f.n l) to)=R at *
 rw[hw3] at cC;have hs3:w3.heap.size=w.heap.size+1+1+1:=by rw[hw3];simp
 have hb3:w.heap.size≤w3.heap.size:=hg3.size;replace cC:=ζ cC;replace cD:=ζ cD;replace hw3:=ζ hw3;replace hg3:=ζ hg3;clear hp bp ba bt hA akj;unfold dU.val;unfold dU.cells Ii at hw3 cC;obtain⟨⟨sl,sA,sm,sk⟩,⟨rl,rA,rm,rk⟩,⟨el,eA,em,ek⟩,⟨al,aA,am,ak⟩,o,oA,om,ok,i,iA,im,ik⟩:=p;simp only at hw3 cC ⊢;go_enter Tryz.func84,Tryz.ntmps84
 go_wp2_with fail;refine (cC.out).mono ?_;rintro e w4 ⟨v4,rfl,gu,hg4⟩;rw[←hw3.o] at gu hg4;have cD':=ζ (cD.out v4 w4 hg4 gu);clear cD cC;go_wp2_with fail;refine (cD'.out).mono ?_;rintro e w5 ⟨v5,rfl,jk,GV⟩;go_wp2;go_ret;exact⟨v5,rfl,jk.ig hb3,hg3.o.trans (hg4.LP GV)⟩
theorem ahc (a:iI) (now:Int) (w:World) :
 Calls Tryz.prog 44 #[jy a,.int .i64 now] w fun e w'=>e =.returned (.bool (vX a.a now))∧ah w w':=by
 unfold jy;obtain⟨R,hR⟩:∃R,R=vX a.a now:=⟨_,rfl⟩;rw[←hR];unfold vX at hR;by_cases h1:a.a.f≤now
 ·rw[decide_eq_true h1,Bool.true_and] at hR;by_cases h2:a.a.t = 0
  ·rw[decide_eq_true h2,Bool.true_or] at hR;replace hR:=ζ hR;go_enter Tryz.func44,Tryz.ntmps44
   go_wp2;go_ret;exact⟨aU (by rw[hR.o];first | done | simp[h2]),by
    exact γ
   ⟩
  ·rw[decide_eq_false h2,Bool.false_or] at hR;replace hR:=ζ hR;go_enter Tryz.func44,Tryz.ntmps44
   go_wp2;go_ret;exact⟨aU (by rw[hR.o];first | done | simp[h2]),by
    exact γ
   ⟩
 ·rw[decide_eq_false h1,Bool.false_and] at hR;replace hR:=ζ hR;go_enter Tryz.func44,Tryz.ntmps44
  go_wp2;go_ret;exact⟨aU (by rw[hR.o]),by
   exact γ
  ⟩
theorem uy (p:HY) (fs:List eu) (l to:Cc):(iY p fs l to).length≤fs.length:=List.length_filter_le _ _
def jM:Value:=.agg #[.string ⟨#[]⟩,.slice none 0 0,.int .i64 0,.int .u32 0,.int .i64 0,.int .i64 0]
def ae8 (w:World) (base:Nat) (r:Option Jj) (v:Value):Prop:=match r with
 | none=>v = jM
 | some b=>∃A c,v = jy ⟨b,A,b.fs.length,c⟩∧Own w base 63 2 fU (.slice A b.fs.length c) b.fs
theorem Own.abR {α:Type} {w:World} {base k:Nat} {e:TypeId} {enc:α→List Value} {v:Value} {xs:List α} (h:Own w base e k enc v xs) {g o:Nat} (hp:g < base) (u:Value):Own (w.setCell ⟨g,o,none⟩ u) base e k enc v xs:=
 h.iM (g:=g) (aj w ⟨g,o,none⟩ u) (fun j hj=>by have:=h.eH j hj;omega)
def XZ (x:iI):Array Value:= #[.string ⟨x.a.src.toArray⟩,.slice x.A x.m x.k,.int .i64 x.a.l.lv,.int .u32 (x.a.l.c:Int),.int .i64 x.a.f,.int .i64 x.a.t]
def E_:Array Value:= #[.string ⟨#[]⟩,.slice none 0 0,.int .i64 0,.int .u32 0,.int .i64 0,.int .i64 0]
theorem aS.arV (w:World) (o o' o'':Obj) (t:TypeId) (cs:Array Value):aS ((((w.alloc o).alloc o').alloc o'').alloc (.cells cs t)) (w.heap.size+1+1+1) t cs:=by
 have:=aS.new (((w.alloc o).alloc o').alloc o'') t cs;rwa [World.size_alloc,World.size_alloc,World.size_alloc] at this
theorem ank {p:dU} {a:iI} {to:Cc} (w:World) (hp:p.At w) (ha:a.At w) (ht:to.ok) :
 Calls Tryz.prog 45 #[p.val,jy a,.agg #[.int .i64 to.lv,.int .u32 (to.c:Int)]] w fun e w'=>∃v,e =.returned (.tuple #[v,.bool (G9 p.dQ a.a to).isSome])∧ae8 w' w.heap.size (G9 p.dQ a.a to) v∧ah w w':=by
 have cV:=fun W (hW:ah w W)=>YN (c:=a.k) W (hp.keep hW) (ha.arr.keep hW) ha.le ha.Yu ht
 have cF:=fun W=>Si a.a.l to W ha.Yu ht
 have hcut:G9 p.dQ a.a to=(if (iY p.dQ a.a.fs a.a.l to).length=0∨nO a.a.l to=false then none else some {a.a with fs:=iY p.dQ a.a.fs a.a.l to}):=rfl;have hlen:=uy p.dQ a.a.fs a.a.l to;have hle:=ha.le;have wL:=ha.arr.1;generalize G9 p.dQ a.a to=RR at *
 generalize iY p.dQ a.a.fs a.a.l to=V at *
 generalize nO a.a.l to=F at *
 unfold jy dU.val;unfold dU.val at cV;clear hp ha;obtain⟨⟨sl,sA,sm,sk⟩,⟨rl,rA,rm,rk⟩,⟨el,eA,em,ek⟩,⟨al,aA,am,ak⟩,o,oA,om,ok,i,iA,im,ik⟩:=p;obtain⟨⟨src,fs,⟨lv,lc⟩,f,t⟩,A,m,k⟩:=a;simp only at cV cF hcut hlen hle wL ⊢;have hL:V.length≤1000:=ω;replace cV:=ζ cV;replace cF:=ζ cF;clear hlen hle wL;go_enter Tryz.func45,Tryz.ntmps45
 go_wp2_with fail;refine (cV.out _ γ).mono ?_;rintro e w1 ⟨v,rfl,hO,hb⟩;obtain⟨A1,c1,rfl,_,_,YD⟩:=hO.arr JW;have hg:ah w w1:=by
  exact γ
 have ba:aS w1 (w.heap.size+1) 42 (XZ ⟨⟨src,fs,⟨lv,lc⟩,f,t⟩,A,m,k⟩):=(((aS.vO w _ _ _).alloc _).alloc _).grows hb;have bt:aS w1 (w.heap.size+1+1) 40 (Ii to):=((aS.IQ w _ _ _ _).alloc _).grows hb;have br:aS w1 (w.heap.size+1+1+1) 42 E_:=(aS.arV w _ _ _ _ _).grows hb;simp only[World.size_alloc] at hO;replace hO:=ζ hO;clear hb cV YD;by_cases h0:V.length=0
 ·rw[if_pos (.inl h0)] at hcut;replace hcut:=ζ hcut;rw[h0];have x0:=ba.c0;have x1:=ba.c1;have x2:=ba.c2;have x3:=ba.c3;have x4:=ba.c4;have x5:=ba.c5;have xf:=fun i=>ba.frozen i
  have xl:=ba.lt;have y0:=br.c0;have y1:=br.c1;have y2:=br.c2;have y3:=br.c3;have y4:=br.c4;have y5:=br.c5;have yf:=fun i=>br.frozen i
  have yl:=br.lt;clear hO cF h0 ba bt br hL;go_wp2_with fail;refine bodyPost_ret (v:=.tuple #[jM,.bool false]) ?_ rfl ⟨jM,by rw[hcut.o];rfl,by rw[hcut.o];exact rfl,?_⟩
  ·simp only[results,Tryz.results45,jM];go_simp
  ·exact Γ
 ·have hi:¬(V.length:Int)=0:=ω;obtain⟨L,hLn⟩:∃L,L=V.length:=⟨_,rfl⟩;rw[←hLn] at hi hL hO ⊢;have hi':¬L=0:=ω;replace hLn:=ζ hLn;have a2:=ba.c2;have a3:=ba.c3;have t0:=bt.c0;have t1:=bt.c1;cases F
  ·rw[if_pos (.inr rfl)] at hcut;replace hcut:=ζ hcut;clear h0 hO;go_wp2_with fail;refine (cF.out _).mono ?_;rintro e w2 ⟨rfl,hb2⟩;replace ba:=ba.grows hb2;replace bt:=bt.grows hb2;replace br:=br.grows hb2;replace hg:=hg.trans hb2;have x0:=ba.c0;have x1:=ba.c1;have x2:=ba.c2;have x3:=ba.c3;have x4:=ba.c4;have x5:=ba.c5;have xf:=fun i=>ba.frozen i
   have xl:=ba.lt;have y0:=br.c0;have y1:=br.c1;have y2:=br.c2;have y3:=br.c3;have y4:=br.c4;have y5:=br.c5;have yf:=fun i=>br.frozen i
   have yl:=br.lt;clear cF a2 a3 t0 t1 ba bt br hb2;go_wp2_with fail;refine bodyPost_ret (v:=.tuple #[jM,.bool false]) ?_ rfl ⟨jM,by rw[hcut.o];rfl,by rw[hcut.o];exact rfl,?_⟩
   ·simp only[results,Tryz.results45,jM];go_simp
   ·exact Γ
  ·rw[if_neg (by rintro (h | h);exact h0 h;cases h)] at hcut;replace hcut:=ζ hcut;clear h0;go_wp2_with fail;refine (cF.out _).mono ?_;rintro e w2 ⟨rfl,hb2⟩;replace ba:=ba.grows hb2;replace bt:=bt.grows hb2;replace br:=br.grows hb2;replace hg:=hg.trans hb2;replace hO:=ζ (hO.o.grows hb2);have x0:=ba.c0;have x1:=ba.c1;have x2:=ba.c2;have x3:=ba.c3;have x4:=ba.c4;have x5:=ba.c5;have xf:=fun i=>ba.frozen i
   have xl:=ba.lt;have y0:=br.c0;have y1:=br.c1;have y2:=br.c2;have y3:=br.c3;have y4:=br.c4;have y5:=br.c5;have yf:=fun i=>br.frozen i
   have yl:=br.lt;clear cF a2 a3 t0 t1 ba bt br hb2;go_wp2_with fail;refine bodyPost_ret (v:=.tuple #[jy ⟨⟨src,V,⟨lv,lc⟩,f,t⟩,A1,L,c1⟩,.bool true]) ?_ rfl ⟨_,by rw[hcut.o];rfl,?_,?_⟩
   ·simp only[results,Tryz.results45,jy];go_simp
   ·rw[hcut.o];refine⟨A1,c1,by rw[hLn.o],?_⟩;rw[←hLn.o];refine Own.ig (base:=w.heap.size+1+1+1+1) ?_ ω;repeat (refine Own.abR ?_ ω _)
    exact hO.o
   ·exact Γ
theorem PK:∀a b:List UInt8,kZ a b = Op.bytesLess a b
 | [],[]=>rfl
 | [],_ ::_=>rfl
 | _ ::_,[]=>rfl
 | a ::x,b ::y=>by
  unfold kZ Op.bytesLess;rw[PK x y];by_cases h:a = b
  ·subst h;skip
   simp
  ·have h':(a ==b)=false:=by simpa using h
   rw[if_neg h,h',Bool.false_and,Bool.or_false];rfl
theorem adE {A:Option Addr} {m c:Nat} {fs:List eu} (w:World) (hA:dH w 2 fU A m fs) (hm:m≤9223372036854775807) :
 Calls Tryz.prog 83 #[.slice A m c] w fun e w'=>e =.returned (.bool (mZ fs))∧ah w w':=by
 have qA:=hA.1;obtain⟨R,hR⟩:∃R,R=mZ fs:=⟨_,rfl⟩;rw[←hR];replace hR:=ζ hR;replace hA:=ζ hA;go_enter Tryz.func83,Tryz.ntmps83
 go_wp2;go_loopw [3,4,7] (fun _ _ i wr=>∃k:Nat,k≤m∧i =.int .i64 k∧Hid (yS fs k)∧Hid (ah w wr)) (fun _ _ i _=>m - (intOf i).toNat)
 case atStart=>exact⟨0,ω,rfl,⟨fun _ _ h=>absurd h ω,fun _ _ _ h=>absurd h ω⟩,ah.refl _⟩
 case round=>
  obtain⟨k,hk,rfl,hall,hG⟩:=hrel;by_cases nV:k<m
  ·obtain⟨bb,off,f,rfl,JI,hx,hcell⟩:=(hA.o.keep hG.o).at_ nV;have c0:wr.cell? ⟨bb,off+k*2,none⟩=some (.string ⟨f.n.toArray⟩):=by simpa using hcell 0 _ rfl
   have c1:wr.cell? ⟨bb,off+k*2+1,none⟩=some (.string ⟨f.v.toArray⟩):=by simpa using hcell 1 _ rfl
   have w_:=0;have j_:(k:Int)<(m:Int):=ω;have cN:=fun W=>FC f.n W
   have hbz:=bsize f.v;cases Hw:f_ f.n with
   | false=>
    have aQ:=hR.o;rw[Dv hx (by unfold Qm;rw[Hw];rfl)] at aQ;rw[Hw] at cN;replace aQ:=ζ aQ;replace cN:=ζ cN;clear hcell hx w_ Hw hall hR hbz;go_wp2_with fail;refine aJ κ ?_;refine rK (.range 25) 0 ?_;iterate 2 refine aB ?_
    refine bJ (.bool false) rfl χ (fun wq gY=> ?_) ?_
    ·obtain⟨qB,rE⟩:=bW gY;go_simp;exact Calls.mono (cN.out wq) (fun e w'' h=>h)
    go_simp;iterate 22 refine aB ?_
    refine ay ?_;refine aP κ (fun wN hN hS=> ?_);go_wp2;go_ret;exact⟨aU (by rw[aQ.o]),(hG.o.alloc _).trans hN⟩
   | true=>
    rw[Hw] at cN;replace cN:=ζ cN;by_cases hv:f.v.length≤200
    ·have Dq:Qm f = true:=by unfold Qm;rw[Hw];simp[hv]
     have hvi:¬((200:Int)<(f.v.length:Int)):=ω;by_cases T_:0<k
     ·obtain⟨j,rfl⟩:∃j,k=j + 1:=⟨k-1,ω⟩;obtain⟨bb',acJ,e,hA',hse,he,KT⟩:=(hA.o.keep hG.o).at_ (show j < m by omega);injection hA' with hA'
      injection hA' with hb1 hb2
      subst hb1 hb2;have c2:wr.cell? ⟨bb,off+j * 2,none⟩=some (.string ⟨e.n.toArray⟩):=by simpa using KT 0 _ rfl
      have hlt:=(PK e.n f.n).symm;have i0:(0:Int)<((j + 1:Nat):Int):=ω;have i1:((j + 1:Nat):Int)-1=(j:Int):=ω;have i2:(j:Int)<(m:Int):=ω;cases hah:kZ e.n f.n with
      | false=>
       rw[hah] at hlt;have aQ:=hR.o;rw[Pq he hx hah] at aQ;replace aQ:=ζ aQ;clear hcell KT hx he w_ Hw hall hR Dq hah;go_wp2_with fail;refine aJ κ ?_;refine rK (.range 25) 0 ?_;iterate 2 refine aB ?_
       refine bJ (.bool true) rfl χ (fun wq gY=> ?_) ?_
       ·obtain⟨qB,rE⟩:=bW gY;go_simp;exact Calls.mono (cN.out wq) (fun e w'' h=>h)
       go_simp;iterate 22 refine aB ?_
       refine ay ?_;refine aP κ (fun wN hN hS=> ?_);go_wp2;go_ret;exact⟨aU (by rw[aQ.o]),(hG.o.alloc _).trans hN⟩
      | true=>
       rw[hah] at hlt;have jV:=ζ (hall.o.succ hx Dq (fun e' _ Xy=>by rw[show j + 1-1=j from rfl,he] at Xy;rw[←Option.some.inj Xy];exact hah));clear hcell KT hx he w_ Hw hall Dq hah;go_wp2_with fail;refine aJ κ ?_;refine rK (.range 25) 0 ?_;iterate 2 refine aB ?_
       refine bJ (.bool true) rfl χ (fun wq gY=> ?_) ?_
       ·obtain⟨qB,rE⟩:=bW gY;go_simp;exact Calls.mono (cN.out wq) (fun e w'' h=>h)
       go_simp;iterate 22 refine aB ?_
       refine ay ?_;refine aP κ (fun wN hN hS=> ?_);go_wp2;go_roundw
       case rel=>exact⟨j + 1+1,ω,ν,jV,(hG.o.alloc _).trans hN⟩
       case measure=>exact ψ
     ·obtain rfl:k=0:=ω;simp only[Nat.zero_mul,Nat.add_zero] at c0 c1;have jV:=ζ (hall.o.succ hx Dq (fun e' h _=>absurd h ω));clear hcell hx w_ Hw hall Dq T_;go_wp2_with fail;refine aJ κ ?_;refine rK (.range 25) 0 ?_;iterate 2 refine aB ?_
      refine bJ (.bool true) rfl χ (fun wq gY=> ?_) ?_
      ·obtain⟨qB,rE⟩:=bW gY;go_simp;exact Calls.mono (cN.out wq) (fun e w'' h=>h)
      go_simp;iterate 22 refine aB ?_
      refine ay ?_;refine aP κ (fun wN hN hS=> ?_);go_wp2;go_roundw
      case rel=>exact⟨1,ω,ν,jV,(hG.o.alloc _).trans hN⟩
      case measure=>exact ψ
    ·have hvi:(200:Int)<(f.v.length:Int):=ω;have aQ:=hR.o;rw[Dv hx (by unfold Qm;rw[Hw];simp[hv])] at aQ;replace aQ:=ζ aQ;clear hcell hx w_ Hw hall hR;go_wp2_with fail;refine aJ κ ?_;refine rK (.range 25) 0 ?_;iterate 2 refine aB ?_
     refine bJ (.bool true) rfl χ (fun wq gY=> ?_) ?_
     ·obtain⟨qB,rE⟩:=bW gY;go_simp;exact Calls.mono (cN.out wq) (fun e w'' h=>h)
     go_simp;iterate 22 refine aB ?_
     refine ay ?_;refine aP κ (fun wN hN hS=> ?_);go_wp2;go_ret;exact⟨aU (by rw[aQ.o]),(hG.o.alloc _).trans hN⟩
  ·obtain rfl:k=m:=ω;have aQ:=hR.o;rw[yS.all (by rw[qA];exact hall.o),qA] at aQ;by_cases h8:k≤8
   ·have h8i:(k:Int)≤8:=ω;simp only[h8,decide_true] at aQ;replace aQ:=ζ aQ;clear hR hall;go_wp2;go_ret;exact⟨aU (by rw[aQ.o]),hG.o⟩
   ·have h8i:¬((k:Int)≤8):=ω;simp only[h8,decide_false] at aQ;replace aQ:=ζ aQ;clear hR hall;go_wp2;go_ret;exact⟨aU (by rw[aQ.o]),hG.o⟩
theorem adX {a:iI} (w:World) (ha:a.At w) :
 Calls Tryz.prog 43 #[jy a] w fun e w'=>e =.returned (.bool (rD a.a))∧ah w w':=by
 have cN:=fun W=>FC a.a.src W
 have cF:=fun W (hW:ah w W)=>adE (c:=a.k) W (ha.arr.keep hW) (by have:=ha.le;omega)
 have cL:=fun W=>sV a.a.l W
 have hle:=ha.le;have Qc:=ha.arr.1;obtain⟨R,hR⟩:∃R,R=rD a.a:=⟨_,rfl⟩;rw[←hR];unfold rD Qx at hR;rw[Qc] at hR;generalize f_ a.a.src=N at *
 generalize mZ a.a.fs=FB at *
 generalize dK a.a.l.lv=L at *
 unfold jy;clear ha Qc;obtain⟨⟨src,fs,⟨lv,lc⟩,f,t⟩,A,m,k⟩:=a;simp only at cN cF cL hR hle ⊢;replace cN:=ζ cN;replace cF:=ζ cF;replace cL:=ζ cL;replace hR:=ζ hR;rcases (show (t ==0)=true∨(t ==0)=false by cases (t ==0) <;> simp) with a2 | a2 <;> by_cases a1:0≤f <;> by_cases a3:f < t
 all_goals
  go_enter Tryz.func43,Tryz.ntmps43
  go_wp2_with fail;refine (cN.out _).mono ?_;rintro e w1 ⟨rfl,hb1⟩;have bx:=ζ ((aS.new w 42 #[.string ⟨src.toArray⟩,.slice A m k,.int .i64 lv,.int .u32 (lc:Int),.int .i64 f,.int .i64 t]).grows hb1);have hG:Hid (ah w w1):=ζ (((ah.refl w).alloc _).trans hb1);clear hb1 cN;have q0:=bx.out.c0;have q1:=bx.out.c1;have q2:=bx.out.c2;have q3:=bx.out.c3;have q4:=bx.out.c4;have q5:=bx.out.c5;have qz:=bx.out.lt;cases N
  ·go_wp2;go_ret;exact⟨aU (by rw[hR.o];simp),hG.o⟩
  ·by_cases h0:m < 1
   ·have h0':¬(0:Int)<(m:Int):=ω;have am8:decide (0<m)=false:=by simp;omega
    go_wp2;go_ret;exact⟨aU (by rw[hR.o,am8];simp),hG.o⟩
   ·have h0':(0:Int)<(m:Int):=ω;have am8:decide (0<m)=true:=by simp;omega
    go_wp2_with fail;refine (cF.out _ hG.o).mono ?_;rintro e w2 ⟨rfl,hb2⟩;replace bx:=ζ (bx.out.grows hb2);replace hG:=ζ (hG.o.trans hb2);clear hb2 q0 q1 q2 q3 q4 q5 qz;have q0:=bx.out.c0;have q1:=bx.out.c1;have q2:=bx.out.c2;have q3:=bx.out.c3;have q4:=bx.out.c4;have q5:=bx.out.c5;have qz:=bx.out.lt;cases FB
    ·go_wp2;go_ret;exact⟨aU (by rw[hR.o];simp),hG.o⟩
    ·go_wp2_with fail;refine (cL.out _).mono ?_;rintro e w3 ⟨rfl,hb3⟩;replace bx:=ζ (bx.out.grows hb3);replace hG:=ζ (hG.o.trans hb3);clear hb3 q0 q1 q2 q3 q4 q5 qz;have q0:=bx.out.c0;have q1:=bx.out.c1;have q2:=bx.out.c2;have q3:=bx.out.c3;have q4:=bx.out.c4;have q5:=bx.out.c5;have qz:=bx.out.lt;cases L
     ·go_wp2;go_ret;exact⟨aU (by rw[hR.o];simp),hG.o⟩
     ·by_cases a4:f≤1099511627776
      ·go_wp2;go_ret;exact⟨aU (by rw[hR.o,am8,Bool.eq_iff_iff];simp at a2;simp <;> omega),hG.o⟩
      ·first
       | (exfalso;omega)
       | (go_wp2;go_ret;exact⟨aU (by rw[hR.o,am8,Bool.eq_iff_iff];simp at a2;simp <;> omega),hG.o⟩)
end Go.Proofs.YteojanlajhebhaaGreatDoor
