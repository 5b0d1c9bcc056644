/- Parts: PolC AlrA AlrB AlrC -/
import Derived.Test.YtbhikkgpcmkonaaGreatDoorVa0
import Derived.Test.YtbhikkgpcmkonaaGreatDoorVa5
import Derived.Test.YtbhikkgpcmkonaaGreatDoorVa6
set_option maxRecDepth 100000
set_option maxHeartbeats 12800000
namespace Go.Proofs.YtbhikkgpcmkonaaGreatDoor
open Go.RowKit
theorem aiL {a b:fZ} (ha:a.ok) (hb:b.ok):(AA a b).ok:=aiN ha hb
def Jw (l:fZ):Array Value:= #[.int .i64 l.lv,.int .u32 (l.c:Int)]
theorem aag {p:fU} {n:List UInt8} {l:fZ} (hp:∀x∈p.raises,x.l.ok) (hl:l.ok):(lI p n l).ok:=by
 unfold lI;cases h:eu p.raises n with
 | none=>exact hl
 | some r=>
  obtain⟨x,hx,rfl⟩:=yS h;exact aiL hl (hp x hx)
theorem aaf {p:bU} {n:List UInt8} {l:fZ} (w:World) (hp:p.At w) (hl:l.ok) :
 Calls Tryz.prog 157 #[p.val,.string ⟨n.toArray⟩,.agg #[.int .i64 l.lv,.int .u32 (l.c:Int)]] w fun e w'=>e =.returned (.agg #[.int .i64 (lI p.aU n l).lv,.int .u32 ((lI p.aU n l).c:Int)])∧ah w w':=by
 have hA:=fun W (hW:ah w W)=>yT (c:=p.a.k) (n:=n) W (hp.a.arr.keep hW) hp.a.le
 have ap8:=hp.a.KC;unfold bU.val;have qM:lI p.aU n l = (match eu p.a.l n with | some r=>AA l r | none=>l):=rfl;obtain⟨⟨sl,sA,sm,sk⟩,⟨rl,rA,rm,rk⟩,⟨el,eA,em,ek⟩,⟨al,aA,am,ak⟩,o,oA,om,ok,i,iA,im,ik⟩:=p;simp only at hA qM ap8 ⊢;clear hp;cases hf:eu al n with
 | none=>
  rw[hf] at hA qM;simp only at qM;rw[qM];simp only[kN,Option.getD_none,Option.isSome_none] at hA;replace hA:=ζ hA;clear qM hf;go_enter Tryz.func157,Tryz.ntmps157
  go_wp2_with fail;refine (hA.o _ γ).mono ?_;rintro e w1 ⟨rfl,hb⟩;have bl:aF w1 (w.heap.size+1) 25 (Jw l):=((aF.kW w _ _ _).alloc _).grows hb;have l0:=bl.c0;have l1:=bl.c1;have b1:aF w1 (w.heap.size+1+1) 25 (Jw ⟨0,0⟩):=(aF.zK w _ _ _ _).grows hb;have sl:=bl.lt;clear bl;have d0:_ = some (Value.int .i64 0):=b1.cell 0;have d1:_ = some (Value.int .u32 0):=b1.cell 1;have f0:=b1.frozen 0;have f1:=b1.frozen 1;have s1:=b1.lt;have hg:ah w w1:=by
   exact γ
  clear hA hb b1;go_wp2_with fail;refine bodyPost_ret (v:=.agg #[.int .i64 l.lv,.int .u32 (l.c:Int)]) ?_ rfl ⟨rfl,?_⟩
  ·simp only[results,Tryz.results157];go_simp
  ·exact γ
 | some r=>
  have hr:r.ok:=by obtain⟨x,hx,rfl⟩:=yS hf;exact ap8 x hx
  rw[hf] at hA qM;simp only at qM;rw[qM];simp only[kN,Option.getD_some,Option.isSome_some] at hA;have cJ:=fun W=>aeT l r W hl hr
  generalize AA l r = J at *
  replace hA:=ζ hA;replace cJ:=ζ cJ;clear qM hf hr ap8;go_enter Tryz.func157,Tryz.ntmps157
  go_wp2_with fail;refine (hA.o _ γ).mono ?_;rintro e w1 ⟨rfl,hb⟩;have bl:aF w1 (w.heap.size+1) 25 (Jw l):=((aF.kW w _ _ _).alloc _).grows hb;have l0:=bl.c0;have l1:=bl.c1;have b1:aF w1 (w.heap.size+1+1) 25 (Jw ⟨0,0⟩):=(aF.zK w _ _ _ _).grows hb;have sl:=bl.lt;clear bl;have s0:=b1.lt;have hg:ah w w1:=by
   exact γ
  clear hA hb;go_wp2_with fail;refine (cJ.out _).mono ?_;rintro e w2 ⟨rfl,hb2⟩;replace b1:=(b1.alloc _).grows hb2;have d0:_ = some (Value.int .i64 0):=b1.cell 0;have d1:_ = some (Value.int .u32 0):=b1.cell 1;have f0:=b1.frozen 0;have f1:=b1.frozen 1;have s1:=b1.lt;have hg2:ah w w2:=by
   exact γ
  clear cJ hb2 b1 hg s0;go_wp2_with fail;refine bodyPost_ret (v:=.agg #[.int .i64 J.lv,.int .u32 (J.c:Int)]) ?_ rfl ⟨rfl,?_⟩
  ·simp only[results,Tryz.results157];go_simp
  ·exact γ
theorem aha {p:bU} {l tO:fZ} {f:bK} {gp ga gt:Nat} (w:World) (hp:p.At w) (hl:l.ok) (ht:tO.ok) (bp:aF w gp 50 p.cells.toArray) (ba:aF w ga 25 (Jw l)) (bt:aF w gt 25 (Jw tO)) :
 Calls Tryz.prog 156 #[Hr f,.pointer (some ⟨gp,0,none⟩),.pointer (some ⟨ga,0,none⟩),.pointer (some ⟨gt,0,none⟩)] w fun e w'=>e =.returned (.bool (!gy (lI p.aU f.n l) tO))∧ah w w':=by
 have cR:=fun W (hW:ah w W)=>aaf (n:=f.n) W (hp.keep hW) hl
 have hro:(lI p.aU f.n l).ok:=aag hp.a.KC hl;have cF:=fun W=>vH (lI p.aU f.n l) tO W hro ht
 generalize lI p.aU f.n l = R at *
 generalize gy R tO=B at *
 unfold bU.val at cR;have q0:=bp.cell 0;have q1:=bp.cell 1;have q2:=bp.cell 2;have q3:=bp.cell 3;have q4:=bp.cell 4;have q5:=bp.cell 5;have a0:=ba.cell 0;have a1:=ba.cell 1;have t0:=bt.cell 0;have t1:=bt.cell 1;have sp:=bp.lt;have sa:=ba.lt;have st:=bt.lt;unfold Jw at a0 a1 t0 t1;unfold bU.cells at q0 q1 q2 q3 q4 q5;unfold Hr;clear hp bp ba bt;obtain⟨⟨sl,sA,sm,sk⟩,⟨rl,rA,rm,rk⟩,⟨el,eA,em,ek⟩,⟨al,aA,am,ak⟩,o,oA,om,ok,i,iA,im,ik⟩:=p;simp only[List.getElem?_toArray,List.getElem?_cons_zero,List.getElem?_cons_succ] at cR q0 q1 q2 q3 q4 q5;replace cR:=ζ cR;replace cF:=ζ cF;go_enter Tryz.func156,Tryz.ntmps156
 go_wp2_with fail;refine dw (μ [0,1,2,3,5,4,6,7,8] [4,6]) κ κ rfl κ π ?_;iterate 5 refine gK ?_
 refine jL rfl (fun K' hK=> ?_);go_simp;refine (cR.out _ γ).mono ?_;rintro e w1 ⟨rfl,hb1⟩;refine hK.o _ _ ?_ (fun hS=> ?_)
 ·exact γ
 clear hK hS;refine jL rfl (fun K' hK=> ?_);go_simp;refine (cF.out _).mono ?_;rintro e w2 ⟨rfl,hb2⟩;refine hK.o _ _ ?_ (fun hS=> ?_)
 ·exact γ
 clear hK hS;iterate 2 refine gK ?_
 refine g_ ?_;go_wp2;go_ret;exact⟨aP rfl,by
  exact γ
 ⟩
theorem TF {α:Type} (p:α→Bool) (l:List α):(l.filter fun x=> !!p x)=l.filter p:=by congr 1;funext x;rw[Bool.not_not]
theorem WB {p:bU} {A:Option Addr} {m c:Nat} {fs:List bK} {l tO:fZ} (w:World) (hp:p.At w) (hA:bW w 2 dW A m fs) (hm:m≤1000) (hl:l.ok) (ht:tO.ok) :
 Calls Tryz.prog 110 #[p.val,.slice A m c,.agg #[.int .i64 l.lv,.int .u32 (l.c:Int)],.agg #[.int .i64 tO.lv,.int .u32 (tO.c:Int)]] w fun e w'=>∃v,e =.returned v∧Own w' w.heap.size 88 2 dW v (jR p.aU fs l tO)∧ah w w':=by
 have hlen:=hA.1;obtain⟨w3,hw3⟩:∃w3,w3=((w.alloc (.cells p.cells.toArray 50)).alloc (.cells (Jw l) 25)).alloc (.cells (Jw tO) 25):=⟨_,rfl⟩;have hg3:ah w w3:=by rw[hw3];exact (((ah.refl w).alloc _).alloc _).alloc _
 have bp:aF w3 w.heap.size 50 p.cells.toArray:=by rw[hw3];exact ((aF.new w _ _).alloc _).alloc _
 have ba:aF w3 (w.heap.size+1) 25 (Jw l):=by rw[hw3];exact (aF.kW w _ _ _).alloc _
 have bt:aF w3 (w.heap.size+1+1) 25 (Jw tO):=by rw[hw3];exact aF.zK w _ _ _ _
 have cC:=O7 (c:=c) w3 (hA.keep hg3) ω;have cD:=fun v w4 (hg:ah w3 w4) (hO:Own w4 w3.heap.size 88 2 dW v fs)=>Yv 156 #[.pointer (some ⟨w.heap.size,0,none⟩),.pointer (some ⟨w.heap.size+1,0,none⟩),.pointer (some ⟨w.heap.size+1+1,0,none⟩)] (enters_of Tryz.func156 κ rfl)
  (fun f=> !gy (lI p.aU f.n l) tO) w3.heap.size v fs w4 hO hg.size ω (fun f _ W hW=>aha W (hp.keep (hg3.trans (hg.iw hW))) hl ht (bp.grows (hg.iw hW)) (ba.grows (hg.iw hW)) (bt.grows (hg.iw hW)))
 have ajp:=TF (fun f:bK=>gy (lI p.aU f.n l) tO) fs;rw[ajp] at cD;change Calls _ _ _ _ fun e w'=>∃v,e =.returned v∧Own w' w.heap.size 88 2 dW v (fs.filter fun f=>gy (lI p.aU f.n l) tO)∧ah w w'
 generalize (fs.filter fun f=>gy (lI p.aU f.n l) tO)=R at *
 rw[hw3] at cC;have hs3:w3.heap.size=w.heap.size+1+1+1:=by rw[hw3];simp
 have hb3:w.heap.size≤w3.heap.size:=hg3.size;replace cC:=ζ cC;replace cD:=ζ cD;replace hw3:=ζ hw3;replace hg3:=ζ hg3;clear hp bp ba bt hA ajp;unfold bU.val;unfold bU.cells Jw at hw3 cC;obtain⟨⟨sl,sA,sm,sk⟩,⟨rl,rA,rm,rk⟩,⟨el,eA,em,ek⟩,⟨al,aA,am,ak⟩,o,oA,om,ok,i,iA,im,ik⟩:=p;simp only at hw3 cC ⊢;go_enter Tryz.func110,Tryz.ntmps110
 go_wp2_with fail;refine (cC.out).mono ?_;rintro e w4 ⟨v4,rfl,lq,hg4⟩;rw[←hw3.o] at lq hg4;have cD':=ζ (cD.out v4 w4 hg4 lq);clear cD cC;go_wp2_with fail;refine (cD'.out).mono ?_;rintro e w5 ⟨v5,rfl,lZ,fM⟩;go_wp2;go_ret;exact⟨v5,rfl,lZ.bJ hb3,hg3.o.trans (hg4.iw fM)⟩
theorem Dn (a:dA) (now:Int) (w:World) :
 Calls Tryz.prog 130 #[je a,.int .i64 now] w fun e w'=>e =.returned (.bool (eP a.a now))∧ah w w':=by
 unfold je;obtain⟨R,hR⟩:∃R,R=eP a.a now:=⟨_,rfl⟩;rw[←hR];unfold eP at hR;by_cases h1:a.a.f≤now
 ·rw[decide_eq_true h1,Bool.true_and] at hR;by_cases h2:a.a.t = 0
  ·rw[decide_eq_true h2,Bool.true_or] at hR;replace hR:=ζ hR;go_enter Tryz.func130,Tryz.ntmps130
   go_wp2;go_ret;exact⟨aP (by rw[hR.o];first | done | simp[h2]),by
    exact γ
   ⟩
  ·rw[decide_eq_false h2,Bool.false_or] at hR;replace hR:=ζ hR;go_enter Tryz.func130,Tryz.ntmps130
   go_wp2;go_ret;exact⟨aP (by rw[hR.o];first | done | simp[h2]),by
    exact γ
   ⟩
 ·rw[decide_eq_false h1,Bool.false_and] at hR;replace hR:=ζ hR;go_enter Tryz.func130,Tryz.ntmps130
  go_wp2;go_ret;exact⟨aP (by rw[hR.o]),by
   exact γ
  ⟩
theorem mQ (p:fU) (fs:List bK) (l tO:fZ):(jR p fs l tO).length≤fs.length:=List.length_filter_le _ _
def jI:Value:=.agg #[.string ⟨#[]⟩,.slice none 0 0,.int .i64 0,.int .u32 0,.int .i64 0,.int .i64 0]
def qj (w:World) (base:Nat) (r:Option iD) (v:Value):Prop:=match r with
 | none=>v = jI
 | some b=>∃A c,v = je ⟨b,A,b.fs.length,c⟩∧Own w base 88 2 dW (.slice A b.fs.length c) b.fs
theorem Own.ah0 {α:Type} {w:World} {base k:Nat} {e:TypeId} {enc:α→List Value} {v:Value} {xs:List α} (h:Own w base e k enc v xs) {g o:Nat} (hp:g < base) (u:Value):Own (w.setCell ⟨g,o,none⟩ u) base e k enc v xs:=
 h.fH (g:=g) (aj w ⟨g,o,none⟩ u) (fun j hj=>by have:=h.gY j hj;omega)
def aA8 (x:dA):Array Value:= #[.string ⟨x.a.src.toArray⟩,.slice x.A x.m x.k,.int .i64 x.a.l.lv,.int .u32 (x.a.l.c:Int),.int .i64 x.a.f,.int .i64 x.a.t]
def Bq:Array Value:= #[.string ⟨#[]⟩,.slice none 0 0,.int .i64 0,.int .u32 0,.int .i64 0,.int .i64 0]
theorem aF.aaA (w:World) (o o' o'':Obj) (t:TypeId) (cs:Array Value):aF ((((w.alloc o).alloc o').alloc o'').alloc (.cells cs t)) (w.heap.size+1+1+1) t cs:=by
 have:=aF.new (((w.alloc o).alloc o').alloc o'') t cs;rwa [World.size_alloc,World.size_alloc,World.size_alloc] at this
theorem Dq {p:bU} {a:dA} {tO:fZ} (w:World) (hp:p.At w) (ha:a.At w) (ht:tO.ok) :
 Calls Tryz.prog 72 #[p.val,je a,.agg #[.int .i64 tO.lv,.int .u32 (tO.c:Int)]] w fun e w'=>∃v,e =.returned (.tuple #[v,.bool (iJ p.aU a.a tO).isSome])∧qj w' w.heap.size (iJ p.aU a.a tO) v∧ah w w':=by
 have cV:=fun W (hW:ah w W)=>WB (c:=a.k) W (hp.keep hW) (ha.arr.keep hW) ha.le ha.KC ht
 have cF:=fun W=>vH a.a.l tO W ha.KC ht
 have hcut:iJ p.aU a.a tO=(if (jR p.aU a.a.fs a.a.l tO).length=0∨gy a.a.l tO=false then none else some {a.a with fs:=jR p.aU a.a.fs a.a.l tO}):=rfl;have hlen:=mQ p.aU a.a.fs a.a.l tO;have hle:=ha.le;have Bl:=ha.arr.1;generalize iJ p.aU a.a tO=RR at *
 generalize jR p.aU a.a.fs a.a.l tO=V at *
 generalize gy a.a.l tO=F at *
 unfold je bU.val;unfold bU.val at cV;clear hp ha;obtain⟨⟨sl,sA,sm,sk⟩,⟨rl,rA,rm,rk⟩,⟨el,eA,em,ek⟩,⟨al,aA,am,ak⟩,o,oA,om,ok,i,iA,im,ik⟩:=p;obtain⟨⟨src,fs,⟨lv,lc⟩,f,t⟩,A,m,k⟩:=a;simp only at cV cF hcut hlen hle Bl ⊢;have hL:V.length≤1000:=ω;replace cV:=ζ cV;replace cF:=ζ cF;clear hlen hle Bl;go_enter Tryz.func72,Tryz.ntmps72
 go_wp2_with fail;refine (cV.out _ γ).mono ?_;rintro e w1 ⟨v,rfl,hO,hb⟩;obtain⟨A1,c1,rfl,_,_,Zk⟩:=hO.arr IZ;have hg:ah w w1:=by
  exact γ
 have ba:aF w1 (w.heap.size+1) 57 (aA8 ⟨⟨src,fs,⟨lv,lc⟩,f,t⟩,A,m,k⟩):=(((aF.kW w _ _ _).alloc _).alloc _).grows hb;have bt:aF w1 (w.heap.size+1+1) 25 (Jw tO):=((aF.zK w _ _ _ _).alloc _).grows hb;have br:aF w1 (w.heap.size+1+1+1) 57 Bq:=(aF.aaA w _ _ _ _ _).grows hb;simp only[World.size_alloc] at hO;replace hO:=ζ hO;clear hb cV Zk;by_cases h0:V.length=0
 ·rw[if_pos (.inl h0)] at hcut;replace hcut:=ζ hcut;rw[h0];have x0:=ba.c0;have x1:=ba.c1;have x2:=ba.c2;have x3:=ba.c3;have x4:=ba.c4;have x5:=ba.c5;have xf:=fun i=>ba.frozen i
  have xl:=ba.lt;have y0:=br.c0;have y1:=br.c1;have y2:=br.c2;have y3:=br.c3;have y4:=br.c4;have y5:=br.c5;have yf:=fun i=>br.frozen i
  have yl:=br.lt;clear hO cF h0 ba bt br hL;go_wp2_with fail;refine bodyPost_ret (v:=.tuple #[jI,.bool false]) ?_ rfl ⟨jI,by rw[hcut.o];rfl,by rw[hcut.o];exact rfl,?_⟩
  ·simp only[results,Tryz.results72,jI];go_simp
  ·exact Γ
 ·have hi:¬(V.length:Int)=0:=ω;obtain⟨L,Vu⟩:∃L,L=V.length:=⟨_,rfl⟩;rw[←Vu] at hi hL hO ⊢;have hi':¬L=0:=ω;replace Vu:=ζ Vu;have a2:=ba.c2;have a3:=ba.c3;have t0:=bt.c0;have t1:=bt.c1;cases F
  ·rw[if_pos (.inr rfl)] at hcut;replace hcut:=ζ hcut;clear h0 hO;go_wp2_with fail;refine (cF.out _).mono ?_;rintro e w2 ⟨rfl,hb2⟩;replace ba:=ba.grows hb2;replace bt:=bt.grows hb2;replace br:=br.grows hb2;replace hg:=hg.trans hb2;have x0:=ba.c0;have x1:=ba.c1;have x2:=ba.c2;have x3:=ba.c3;have x4:=ba.c4;have x5:=ba.c5;have xf:=fun i=>ba.frozen i
   have xl:=ba.lt;have y0:=br.c0;have y1:=br.c1;have y2:=br.c2;have y3:=br.c3;have y4:=br.c4;have y5:=br.c5;have yf:=fun i=>br.frozen i
   have yl:=br.lt;clear cF a2 a3 t0 t1 ba bt br hb2;go_wp2_with fail;refine bodyPost_ret (v:=.tuple #[jI,.bool false]) ?_ rfl ⟨jI,by rw[hcut.o];rfl,by rw[hcut.o];exact rfl,?_⟩
   ·simp only[results,Tryz.results72,jI];go_simp
   ·exact Γ
  ·rw[if_neg (by rintro (h | h);exact h0 h;cases h)] at hcut;replace hcut:=ζ hcut;clear h0;go_wp2_with fail;refine (cF.out _).mono ?_;rintro e w2 ⟨rfl,hb2⟩;replace ba:=ba.grows hb2;replace bt:=bt.grows hb2;replace br:=br.grows hb2;replace hg:=hg.trans hb2;replace hO:=ζ (hO.o.grows hb2);have x0:=ba.c0;have x1:=ba.c1;have x2:=ba.c2;have x3:=ba.c3;have x4:=ba.c4;have x5:=ba.c5;have xf:=fun i=>ba.frozen i
   have xl:=ba.lt;have y0:=br.c0;have y1:=br.c1;have y2:=br.c2;have y3:=br.c3;have y4:=br.c4;have y5:=br.c5;have yf:=fun i=>br.frozen i
   have yl:=br.lt;clear cF a2 a3 t0 t1 ba bt br hb2;go_wp2_with fail;refine bodyPost_ret (v:=.tuple #[je ⟨⟨src,V,⟨lv,lc⟩,f,t⟩,A1,L,c1⟩,.bool true]) ?_ rfl ⟨_,by rw[hcut.o];rfl,?_,?_⟩
   ·simp only[results,Tryz.results72,je];go_simp
   ·rw[hcut.o];refine⟨A1,c1,by rw[Vu.o],?_⟩;rw[←Vu.o];refine Own.bJ (base:=w.heap.size+1+1+1+1) ?_ ω;repeat (refine Own.ah0 ?_ ω _)
    exact hO.o
   ·exact Γ
theorem KX:∀a b:List UInt8,lC a b = Op.bytesLess a b
 | [],[]=>rfl
 | [],_ ::_=>rfl
 | _ ::_,[]=>rfl
 | a ::x,b ::y=>by
  unfold lC Op.bytesLess;rw[KX x y];by_cases h:a = b
  ·subst h;skip
   simp
  ·have h':(a ==b)=false:=by simpa using h
   rw[if_neg h,h',Bool.false_and,Bool.or_false];rfl
theorem OG {A:Option Addr} {m c:Nat} {fs:List bK} (w:World) (hA:bW w 2 dW A m fs) (hm:m≤9223372036854775807) :
 Calls Tryz.prog 170 #[.slice A m c] w fun e w'=>e =.returned (.bool (jl fs))∧ah w w':=by
 have lJ:=hA.1;obtain⟨R,hR⟩:∃R,R=jl fs:=⟨_,rfl⟩;rw[←hR];replace hR:=ζ hR;replace hA:=ζ hA;go_enter Tryz.func170,Tryz.ntmps170
 go_wp2;go_loopw [3,4,7] (fun _ _ i wr=>∃k:Nat,k≤m∧i =.int .i64 k∧Hid (Ap fs k)∧Hid (ah w wr)) (fun _ _ i _=>m - (intOf i).toNat)
 case atStart=>exact⟨0,ω,rfl,⟨fun _ _ h=>absurd h ω,fun _ _ _ h=>absurd h ω⟩,ah.refl _⟩
 case round=>
  obtain⟨k,hk,rfl,hall,hG⟩:=hrel;by_cases wB:k<m
  ·obtain⟨bb,off,f,rfl,GV,hx,hcell⟩:=(hA.o.keep hG.o).at_ wB;have c0:wr.cell? ⟨bb,off+k*2,none⟩=some (.string ⟨f.n.toArray⟩):=by simpa using hcell 0 _ rfl
   have c1:wr.cell? ⟨bb,off+k*2+1,none⟩=some (.string ⟨f.v.toArray⟩):=by simpa using hcell 1 _ rfl
   have Bh:=0;have kY:(k:Int)<(m:Int):=ω;have cN:=fun W=>uF f.n W
   have hbz:=bsize f.v;cases hnm:iF f.n with
   | false=>
    have aQ:=hR.o;rw[KP hx (by unfold Yg;rw[hnm];rfl)] at aQ;rw[hnm] at cN;replace aQ:=ζ aQ;replace cN:=ζ cN;clear hcell hx Bh hnm hall hR hbz;go_wp2_with fail;refine aG κ ?_;refine rK (.range 25) 0 ?_;iterate 2 refine aC ?_
    refine aY (.bool false) rfl χ (fun wq eG=> ?_) ?_
    ·obtain⟨nR,mY⟩:=bQ eG;go_simp;exact Calls.mono (cN.out wq) (fun e w'' h=>h)
    go_simp;iterate 22 refine aC ?_
    refine aB ?_;refine aJ κ (fun wN hN hS=> ?_);go_wp2;go_ret;exact⟨aP (by rw[aQ.o]),(hG.o.alloc _).trans hN⟩
   | true=>
    rw[hnm] at cN;replace cN:=ζ cN;by_cases hv:f.v.length≤200
    ·have oO:Yg f = true:=by unfold Yg;rw[hnm];simp[hv]
     have hvi:¬((200:Int)<(f.v.length:Int)):=ω;by_cases KH:0<k
     ·obtain⟨j,rfl⟩:∃j,k=j + 1:=⟨k-1,ω⟩;obtain⟨bb',kJ,e,hA',hse,he,F6⟩:=(hA.o.keep hG.o).at_ (show j < m by omega);injection hA' with hA'
      injection hA' with hb1 hb2
      subst hb1 hb2;have c2:wr.cell? ⟨bb,off+j * 2,none⟩=some (.string ⟨e.n.toArray⟩):=by simpa using F6 0 _ rfl
      have hlt:=(KX e.n f.n).symm;have i0:(0:Int)<((j + 1:Nat):Int):=ω;have i1:((j + 1:Nat):Int)-1=(j:Int):=ω;have i2:(j:Int)<(m:Int):=ω;cases hah:lC e.n f.n with
      | false=>
       rw[hah] at hlt;have aQ:=hR.o;rw[Yn he hx hah] at aQ;replace aQ:=ζ aQ;clear hcell F6 hx he Bh hnm hall hR oO hah;go_wp2_with fail;refine aG κ ?_;refine rK (.range 25) 0 ?_;iterate 2 refine aC ?_
       refine aY (.bool true) rfl χ (fun wq eG=> ?_) ?_
       ·obtain⟨nR,mY⟩:=bQ eG;go_simp;exact Calls.mono (cN.out wq) (fun e w'' h=>h)
       go_simp;iterate 22 refine aC ?_
       refine aB ?_;refine aJ κ (fun wN hN hS=> ?_);go_wp2;go_ret;exact⟨aP (by rw[aQ.o]),(hG.o.alloc _).trans hN⟩
      | true=>
       rw[hah] at hlt;have iY:=ζ (hall.o.succ hx oO (fun e' _ he'=>by rw[show j + 1-1=j from rfl,he] at he';rw[←Option.some.inj he'];exact hah));clear hcell F6 hx he Bh hnm hall oO hah;go_wp2_with fail;refine aG κ ?_;refine rK (.range 25) 0 ?_;iterate 2 refine aC ?_
       refine aY (.bool true) rfl χ (fun wq eG=> ?_) ?_
       ·obtain⟨nR,mY⟩:=bQ eG;go_simp;exact Calls.mono (cN.out wq) (fun e w'' h=>h)
       go_simp;iterate 22 refine aC ?_
       refine aB ?_;refine aJ κ (fun wN hN hS=> ?_);go_wp2;go_roundw
       case rel=>exact⟨j + 1+1,ω,ν,iY,(hG.o.alloc _).trans hN⟩
       case measure=>exact ψ
     ·obtain rfl:k=0:=ω;simp only[Nat.zero_mul,Nat.add_zero] at c0 c1;have iY:=ζ (hall.o.succ hx oO (fun e' h _=>absurd h ω));clear hcell hx Bh hnm hall oO KH;go_wp2_with fail;refine aG κ ?_;refine rK (.range 25) 0 ?_;iterate 2 refine aC ?_
      refine aY (.bool true) rfl χ (fun wq eG=> ?_) ?_
      ·obtain⟨nR,mY⟩:=bQ eG;go_simp;exact Calls.mono (cN.out wq) (fun e w'' h=>h)
      go_simp;iterate 22 refine aC ?_
      refine aB ?_;refine aJ κ (fun wN hN hS=> ?_);go_wp2;go_roundw
      case rel=>exact⟨1,ω,ν,iY,(hG.o.alloc _).trans hN⟩
      case measure=>exact ψ
    ·have hvi:(200:Int)<(f.v.length:Int):=ω;have aQ:=hR.o;rw[KP hx (by unfold Yg;rw[hnm];simp[hv])] at aQ;replace aQ:=ζ aQ;clear hcell hx Bh hnm hall hR;go_wp2_with fail;refine aG κ ?_;refine rK (.range 25) 0 ?_;iterate 2 refine aC ?_
     refine aY (.bool true) rfl χ (fun wq eG=> ?_) ?_
     ·obtain⟨nR,mY⟩:=bQ eG;go_simp;exact Calls.mono (cN.out wq) (fun e w'' h=>h)
     go_simp;iterate 22 refine aC ?_
     refine aB ?_;refine aJ κ (fun wN hN hS=> ?_);go_wp2;go_ret;exact⟨aP (by rw[aQ.o]),(hG.o.alloc _).trans hN⟩
  ·obtain rfl:k=m:=ω;have aQ:=hR.o;rw[Ap.all (by rw[lJ];exact hall.o),lJ] at aQ;by_cases h8:k≤8
   ·have h8i:(k:Int)≤8:=ω;simp only[h8,decide_true] at aQ;replace aQ:=ζ aQ;clear hR hall;go_wp2;go_ret;exact⟨aP (by rw[aQ.o]),hG.o⟩
   ·have h8i:¬((k:Int)≤8):=ω;simp only[h8,decide_false] at aQ;replace aQ:=ζ aQ;clear hR hall;go_wp2;go_ret;exact⟨aP (by rw[aQ.o]),hG.o⟩
theorem vU {a:dA} (w:World) (ha:a.At w) :
 Calls Tryz.prog 129 #[je a] w fun e w'=>e =.returned (.bool (bH a.a))∧ah w w':=by
 have cN:=fun W=>uF a.a.src W
 have cF:=fun W (hW:ah w W)=>OG (c:=a.k) W (ha.arr.keep hW) (by have:=ha.le;omega)
 have cL:=fun W=>lX a.a.l W
 have hle:=ha.le;have Va:=ha.arr.1;obtain⟨R,hR⟩:∃R,R=bH a.a:=⟨_,rfl⟩;rw[←hR];unfold bH fC at hR;rw[Va] at hR;generalize iF a.a.src=N at *
 generalize jl a.a.fs=FB at *
 generalize dX a.a.l.lv=L at *
 unfold je;clear ha Va;obtain⟨⟨src,fs,⟨lv,lc⟩,f,t⟩,A,m,k⟩:=a;simp only at cN cF cL hR hle ⊢;replace cN:=ζ cN;replace cF:=ζ cF;replace cL:=ζ cL;replace hR:=ζ hR;rcases (show (t ==0)=true∨(t ==0)=false by cases (t ==0) <;> simp) with a2 | a2 <;> by_cases a1:0≤f <;> by_cases a3:f < t
 all_goals
  go_enter Tryz.func129,Tryz.ntmps129
  go_wp2_with fail;refine (cN.out _).mono ?_;rintro e w1 ⟨rfl,hb1⟩;have bx:=ζ ((aF.new w 57 #[.string ⟨src.toArray⟩,.slice A m k,.int .i64 lv,.int .u32 (lc:Int),.int .i64 f,.int .i64 t]).grows hb1);have hG:Hid (ah w w1):=ζ (((ah.refl w).alloc _).trans hb1);clear hb1 cN;have q0:=bx.out.c0;have q1:=bx.out.c1;have q2:=bx.out.c2;have q3:=bx.out.c3;have q4:=bx.out.c4;have q5:=bx.out.c5;have qz:=bx.out.lt;cases N
  ·go_wp2;go_ret;exact⟨aP (by rw[hR.o];simp),hG.o⟩
  ·by_cases h0:m < 1
   ·have h0':¬(0:Int)<(m:Int):=ω;have ana:decide (0<m)=false:=by simp;omega
    go_wp2;go_ret;exact⟨aP (by rw[hR.o,ana];simp),hG.o⟩
   ·have h0':(0:Int)<(m:Int):=ω;have ana:decide (0<m)=true:=by simp;omega
    go_wp2_with fail;refine (cF.out _ hG.o).mono ?_;rintro e w2 ⟨rfl,hb2⟩;replace bx:=ζ (bx.out.grows hb2);replace hG:=ζ (hG.o.trans hb2);clear hb2 q0 q1 q2 q3 q4 q5 qz;have q0:=bx.out.c0;have q1:=bx.out.c1;have q2:=bx.out.c2;have q3:=bx.out.c3;have q4:=bx.out.c4;have q5:=bx.out.c5;have qz:=bx.out.lt;cases FB
    ·go_wp2;go_ret;exact⟨aP (by rw[hR.o];simp),hG.o⟩
    ·go_wp2_with fail;refine (cL.out _).mono ?_;rintro e w3 ⟨rfl,hb3⟩;replace bx:=ζ (bx.out.grows hb3);replace hG:=ζ (hG.o.trans hb3);clear hb3 q0 q1 q2 q3 q4 q5 qz;have q0:=bx.out.c0;have q1:=bx.out.c1;have q2:=bx.out.c2;have q3:=bx.out.c3;have q4:=bx.out.c4;have q5:=bx.out.c5;have qz:=bx.out.lt;cases L
     ·go_wp2;go_ret;exact⟨aP (by rw[hR.o];simp),hG.o⟩
     ·by_cases a4:f≤1099511627776
      ·go_wp2;go_ret;exact⟨aP (by rw[hR.o,ana,Bool.eq_iff_iff];simp at a2;simp <;> omega),hG.o⟩
      ·first
       | (exfalso;omega)
       | (go_wp2;go_ret;exact⟨aP (by rw[hR.o,ana,Bool.eq_iff_iff];simp at a2;simp <;> omega),hG.o⟩)
end Go.Proofs.YtbhikkgpcmkonaaGreatDoor
