/- Parts: PolC AlrA AlrB AlrC -/
import Derived.Test.YtbhikkgpcmkonaaGreatDoorVo0
import Derived.Test.YtbhikkgpcmkonaaGreatDoorVo6
import Derived.Test.YtbhikkgpcmkonaaGreatDoorVo7
import Derived.Test.YtbhikkgpcmkonaaGreatDoorVo5
set_option maxRecDepth 100000
set_option maxHeartbeats 12800000
namespace Go.Proofs.YtbhikkgpcmkonaaGreatDoor
open Go.RowKit
theorem ajw {a b:gy} (ha:a.ok) (hb:b.ok):(Bf a b).ok:=ajy ha hb
def Ko (l:gy):Array Value:= #[.int .i64 l.lv,.int .u32 (l.c:Int)]
theorem aaV {p:fQ} {n:List UInt8} {l:gy} (hp:∀x∈p.raises,x.l.ok) (hl:l.ok):(lQ p n l).ok:=by
 unfold lQ;cases h:dY p.raises n with
 | none=>exact hl
 | some r=>
  obtain⟨x,hx,rfl⟩:=zC h;exact ajw hl (hp x hx)
theorem aaU {p:bQ} {n:List UInt8} {l:gy} (w:World) (hp:p.At w) (hl:l.ok) :
 Calls Tryz.prog 157 #[p.val,.string ⟨n.toArray⟩,.agg #[.int .i64 l.lv,.int .u32 (l.c:Int)]] w fun e w'=>e =.returned (.agg #[.int .i64 (lQ p.aU n l).lv,.int .u32 ((lQ p.aU n l).c:Int)])∧ah w w':=by
 have hA:=fun W (hW:ah w W)=>zD (c:=p.a.k) (n:=n) W (hp.a.arr.keep hW) hp.a.le
 have arf:=hp.a.Jy;unfold bQ.val;have qB:lQ p.aU n l = (match dY p.a.l n with | some r=>Bf l r | none=>l):=rfl;obtain⟨⟨sl,sA,sm,sk⟩,⟨rl,rA,rm,rk⟩,⟨el,eA,em,ek⟩,⟨al,aA,am,ak⟩,o,oA,om,ok,i,iA,im,ik⟩:=p;simp only at hA qB arf ⊢;clear hp;cases hf:dY al n with
 | none=>
  rw[hf] at hA qB;simp only at qB;rw[qB];simp only[kW,Option.getD_none,Option.isSome_none] at hA;replace hA:=ζ hA;clear qB hf;go_enter Tryz.func157,Tryz.ntmps157
  go_wp2_with fail;refine (hA.o _ γ).mono ?_;rintro e w1 ⟨rfl,hb⟩;have bl:aG w1 (w.heap.size+1) 25 (Ko l):=((aG.kV w _ _ _).alloc _).grows hb;have l0:=bl.c0;have l1:=bl.c1;have b1:aG w1 (w.heap.size+1+1) 25 (Ko ⟨0,0⟩):=(aG.Bh w _ _ _ _).grows hb;have sl:=bl.lt;clear bl;have d0:_ = some (Value.int .i64 0):=b1.cell 0;have d1:_ = some (Value.int .u32 0):=b1.cell 1;have f0:=b1.frozen 0;have f1:=b1.frozen 1;have s1:=b1.lt;have hg:ah w w1:=by
   exact γ
  clear hA hb b1;go_wp2_with fail;refine bodyPost_ret (v:=.agg #[.int .i64 l.lv,.int .u32 (l.c:Int)]) ?_ rfl ⟨rfl,?_⟩
  ·simp only[results,Tryz.results157];go_simp
  ·exact γ
 | some r=>
  have hr:r.ok:=by obtain⟨x,hx,rfl⟩:=zC hf;exact arf x hx
  rw[hf] at hA qB;simp only at qB;rw[qB];simp only[kW,Option.getD_some,Option.isSome_some] at hA;have cJ:=fun W=>afD l r W hl hr
  generalize Bf l r = J at *
  replace hA:=ζ hA;replace cJ:=ζ cJ;clear qB hf hr arf;go_enter Tryz.func157,Tryz.ntmps157
  go_wp2_with fail;refine (hA.o _ γ).mono ?_;rintro e w1 ⟨rfl,hb⟩;have bl:aG w1 (w.heap.size+1) 25 (Ko l):=((aG.kV w _ _ _).alloc _).grows hb;have l0:=bl.c0;have l1:=bl.c1;have b1:aG w1 (w.heap.size+1+1) 25 (Ko ⟨0,0⟩):=(aG.Bh w _ _ _ _).grows hb;have sl:=bl.lt;clear bl;have s0:=b1.lt;have hg:ah w w1:=by
   exact γ
  clear hA hb;go_wp2_with fail;refine (cJ.out _).mono ?_;rintro e w2 ⟨rfl,hb2⟩;replace b1:=(b1.alloc _).grows hb2;have d0:_ = some (Value.int .i64 0):=b1.cell 0;have d1:_ = some (Value.int .u32 0):=b1.cell 1;have f0:=b1.frozen 0;have f1:=b1.frozen 1;have s1:=b1.lt;have hg2:ah w w2:=by
   exact γ
  clear cJ hb2 b1 hg s0;go_wp2_with fail;refine bodyPost_ret (v:=.agg #[.int .i64 J.lv,.int .u32 (J.c:Int)]) ?_ rfl ⟨rfl,?_⟩
  ·simp only[results,Tryz.results157];go_simp
  ·exact γ
theorem ahW {p:bQ} {l tO:gy} {f:bM} {gp ga gt:Nat} (w:World) (hp:p.At w) (hl:l.ok) (ht:tO.ok) (bp:aG w gp 50 p.cells.toArray) (ba:aG w ga 25 (Ko l)) (bt:aG w gt 25 (Ko tO)) :
 Calls Tryz.prog 156 #[Ip f,.pointer (some ⟨gp,0,none⟩),.pointer (some ⟨ga,0,none⟩),.pointer (some ⟨gt,0,none⟩)] w fun e w'=>e =.returned (.bool (!eU (lQ p.aU f.n l) tO))∧ah w w':=by
 have cR:=fun W (hW:ah w W)=>aaU (n:=f.n) W (hp.keep hW) hl
 have hro:(lQ p.aU f.n l).ok:=aaV hp.a.Jy hl;have cF:=fun W=>vO (lQ p.aU f.n l) tO W hro ht
 generalize lQ p.aU f.n l = R at *
 generalize eU R tO=B at *
 unfold bQ.val at cR;have q0:=bp.cell 0;have q1:=bp.cell 1;have q2:=bp.cell 2;have q3:=bp.cell 3;have q4:=bp.cell 4;have q5:=bp.cell 5;have a0:=ba.cell 0;have a1:=ba.cell 1;have t0:=bt.cell 0;have t1:=bt.cell 1;have sp:=bp.lt;have sa:=ba.lt;have st:=bt.lt;unfold Ko at a0 a1 t0 t1;unfold bQ.cells at q0 q1 q2 q3 q4 q5;unfold Ip;clear hp bp ba bt;obtain⟨⟨sl,sA,sm,sk⟩,⟨rl,rA,rm,rk⟩,⟨el,eA,em,ek⟩,⟨al,aA,am,ak⟩,o,oA,om,ok,i,iA,im,ik⟩:=p;simp only[List.getElem?_toArray,List.getElem?_cons_zero,List.getElem?_cons_succ] at cR q0 q1 q2 q3 q4 q5;replace cR:=ζ cR;replace cF:=ζ cF;go_enter Tryz.func156,Tryz.ntmps156
 go_wp2_with fail;refine b_ (μ [0,1,2,3,5,4,6,7,8] [4,6]) κ κ rfl κ π ?_;iterate 5 refine fJ ?_
 refine iT rfl (fun K' hK=> ?_);go_simp;refine (cR.out _ γ).mono ?_;rintro e w1 ⟨rfl,hb1⟩;refine hK.o _ _ ?_ (fun hS=> ?_)
 ·exact γ
 clear hK hS;refine iT rfl (fun K' hK=> ?_);go_simp;refine (cF.out _).mono ?_;rintro e w2 ⟨rfl,hb2⟩;refine hK.o _ _ ?_ (fun hS=> ?_)
 ·exact γ
 clear hK hS;iterate 2 refine fJ ?_
 refine fV ?_;go_wp2;go_ret;exact⟨aJ rfl,by
  exact γ
 ⟩
theorem UH {α:Type} (p:α→Bool) (l:List α):(l.filter fun x=> !!p x)=l.filter p:=by congr 1;funext x;rw[Bool.not_not]
theorem XA {p:bQ} {A:Option Addr} {m c:Nat} {fs:List bM} {l tO:gy} (w:World) (hp:p.At w) (hA:bW w 2 dZ A m fs) (hm:m≤1000) (hl:l.ok) (ht:tO.ok) :
 Calls Tryz.prog 110 #[p.val,.slice A m c,.agg #[.int .i64 l.lv,.int .u32 (l.c:Int)],.agg #[.int .i64 tO.lv,.int .u32 (tO.c:Int)]] w fun e w'=>∃v,e =.returned v∧Own w' w.heap.size 88 2 dZ v (jW p.aU fs l tO)∧ah w w':=by
 have hlen:=hA.1;obtain⟨w3,hw3⟩:∃w3,w3=((w.alloc (.cells p.cells.toArray 50)).alloc (.cells (Ko l) 25)).alloc (.cells (Ko tO) 25):=⟨_,rfl⟩;have hg3:ah w w3:=by rw[hw3];exact (((ah.refl w).alloc _).alloc _).alloc _
 have bp:aG w3 w.heap.size 50 p.cells.toArray:=by rw[hw3];exact ((aG.new w _ _).alloc _).alloc _
 have ba:aG w3 (w.heap.size+1) 25 (Ko l):=by rw[hw3];exact (aG.kV w _ _ _).alloc _
 have bt:aG w3 (w.heap.size+1+1) 25 (Ko tO):=by rw[hw3];exact aG.Bh w _ _ _ _
 have cC:=Qc (c:=c) w3 (hA.keep hg3) ω;have cD:=fun v w4 (hg:ah w3 w4) (hO:Own w4 w3.heap.size 88 2 dZ v fs)=>Za 156 #[.pointer (some ⟨w.heap.size,0,none⟩),.pointer (some ⟨w.heap.size+1,0,none⟩),.pointer (some ⟨w.heap.size+1+1,0,none⟩)] (enters_of Tryz.func156 κ rfl)
  (fun f=> !eU (lQ p.aU f.n l) tO) w3.heap.size v fs w4 hO hg.size ω (fun f _ W hW=>ahW W (hp.keep (hg3.trans (hg.iw hW))) hl ht (bp.grows (hg.iw hW)) (ba.grows (hg.iw hW)) (bt.grows (hg.iw hW)))
 have akf:=UH (fun f:bM=>eU (lQ p.aU f.n l) tO) fs;rw[akf] at cD;change Calls _ _ _ _ fun e w'=>∃v,e =.returned v∧Own w' w.heap.size 88 2 dZ v (fs.filter fun f=>eU (lQ p.aU f.n l) tO)∧ah w w'
 generalize (fs.filter fun f=>eU (lQ p.aU f.n l) tO)=R at *
 rw[hw3] at cC;have hs3:w3.heap.size=w.heap.size+1+1+1:=by rw[hw3];simp
 have hb3:w.heap.size≤w3.heap.size:=hg3.size;replace cC:=ζ cC;replace cD:=ζ cD;replace hw3:=ζ hw3;replace hg3:=ζ hg3;clear hp bp ba bt hA akf;unfold bQ.val;unfold bQ.cells Ko at hw3 cC;obtain⟨⟨sl,sA,sm,sk⟩,⟨rl,rA,rm,rk⟩,⟨el,eA,em,ek⟩,⟨al,aA,am,ak⟩,o,oA,om,ok,i,iA,im,ik⟩:=p;simp only at hw3 cC ⊢;go_enter Tryz.func110,Tryz.ntmps110
 go_wp2_with fail;refine (cC.out).mono ?_;rintro e w4 ⟨v4,rfl,lJ,hg4⟩;rw[←hw3.o] at lJ hg4;have cD':=ζ (cD.out v4 w4 hg4 lJ);clear cD cC;go_wp2_with fail;refine (cD'.out).mono ?_;rintro e w5 ⟨v5,rfl,mJ,fK⟩;go_wp2;go_ret;exact⟨v5,rfl,mJ.bK hb3,hg3.o.trans (hg4.iw fK)⟩
theorem DX (a:dD) (now:Int) (w:World) :
 Calls Tryz.prog 130 #[iV a,.int .i64 now] w fun e w'=>e =.returned (.bool (eX a.a now))∧ah w w':=by
 unfold iV;obtain⟨R,hR⟩:∃R,R=eX a.a now:=⟨_,rfl⟩;rw[←hR];unfold eX at hR;by_cases h1:a.a.f≤now
 ·rw[decide_eq_true h1,Bool.true_and] at hR;by_cases h2:a.a.t = 0
  ·rw[decide_eq_true h2,Bool.true_or] at hR;replace hR:=ζ hR;go_enter Tryz.func130,Tryz.ntmps130
   go_wp2;go_ret;exact⟨aJ (by rw[hR.o];first | done | simp[h2]),by
    exact γ
   ⟩
  ·rw[decide_eq_false h2,Bool.false_or] at hR;replace hR:=ζ hR;go_enter Tryz.func130,Tryz.ntmps130
   go_wp2;go_ret;exact⟨aJ (by rw[hR.o];first | done | simp[h2]),by
    exact γ
   ⟩
 ·rw[decide_eq_false h1,Bool.false_and] at hR;replace hR:=ζ hR;go_enter Tryz.func130,Tryz.ntmps130
  go_wp2;go_ret;exact⟨aJ (by rw[hR.o]),by
   exact γ
  ⟩
theorem mY (p:fQ) (fs:List bM) (l tO:gy):(jW p fs l tO).length≤fs.length:=List.length_filter_le _ _
def jP:Value:=.agg #[.string ⟨#[]⟩,.slice none 0 0,.int .i64 0,.int .u32 0,.int .i64 0,.int .i64 0]
def qm (w:World) (base:Nat) (r:Option iH) (v:Value):Prop:=match r with
 | none=>v = jP
 | some b=>∃A c,v = iV ⟨b,A,b.fs.length,c⟩∧Own w base 88 2 dZ (.slice A b.fs.length c) b.fs
theorem Own.aiO {α:Type} {w:World} {base k:Nat} {e:TypeId} {enc:α→List Value} {v:Value} {xs:List α} (h:Own w base e k enc v xs) {g o:Nat} (hp:g < base) (u:Value):Own (w.setCell ⟨g,o,none⟩ u) base e k enc v xs:=
 h.fP (g:=g) (aj w ⟨g,o,none⟩ u) (fun j hj=>by have:=h.iC j hj;omega)
def aCv (x:dD):Array Value:= #[.string ⟨x.a.src.toArray⟩,.slice x.A x.m x.k,.int .i64 x.a.l.lv,.int .u32 (x.a.l.c:Int),.int .i64 x.a.f,.int .i64 x.a.t]
def BP:Array Value:= #[.string ⟨#[]⟩,.slice none 0 0,.int .i64 0,.int .u32 0,.int .i64 0,.int .i64 0]
theorem aG.abh (w:World) (o o' o'':Obj) (t:TypeId) (cs:Array Value):aG ((((w.alloc o).alloc o').alloc o'').alloc (.cells cs t)) (w.heap.size+1+1+1) t cs:=by
 have:=aG.new (((w.alloc o).alloc o').alloc o'') t cs;rwa [World.size_alloc,World.size_alloc,World.size_alloc] at this
theorem DZ {p:bQ} {a:dD} {tO:gy} (w:World) (hp:p.At w) (ha:a.At w) (ht:tO.ok) :
 Calls Tryz.prog 72 #[p.val,iV a,.agg #[.int .i64 tO.lv,.int .u32 (tO.c:Int)]] w fun e w'=>∃v,e =.returned (.tuple #[v,.bool (iR p.aU a.a tO).isSome])∧qm w' w.heap.size (iR p.aU a.a tO) v∧ah w w':=by
 have cV:=fun W (hW:ah w W)=>XA (c:=a.k) W (hp.keep hW) (ha.arr.keep hW) ha.le ha.Jy ht
 have cF:=fun W=>vO a.a.l tO W ha.Jy ht
 have hcut:iR p.aU a.a tO=(if (jW p.aU a.a.fs a.a.l tO).length=0∨eU a.a.l tO=false then none else some {a.a with fs:=jW p.aU a.a.fs a.a.l tO}):=rfl;have hlen:=mY p.aU a.a.fs a.a.l tO;have hle:=ha.le;have DW:=ha.arr.1;generalize iR p.aU a.a tO=RR at *
 generalize jW p.aU a.a.fs a.a.l tO=V at *
 generalize eU a.a.l tO=F at *
 unfold iV bQ.val;unfold bQ.val at cV;clear hp ha;obtain⟨⟨sl,sA,sm,sk⟩,⟨rl,rA,rm,rk⟩,⟨el,eA,em,ek⟩,⟨al,aA,am,ak⟩,o,oA,om,ok,i,iA,im,ik⟩:=p;obtain⟨⟨src,fs,⟨lv,lc⟩,f,t⟩,A,m,k⟩:=a;simp only at cV cF hcut hlen hle DW ⊢;have hL:V.length≤1000:=ω;replace cV:=ζ cV;replace cF:=ζ cF;clear hlen hle DW;go_enter Tryz.func72,Tryz.ntmps72
 go_wp2_with fail;refine (cV.out _ γ).mono ?_;rintro e w1 ⟨v,rfl,hO,hb⟩;obtain⟨A1,c1,rfl,_,_,Z8⟩:=hO.arr JB;have hg:ah w w1:=by
  exact γ
 have ba:aG w1 (w.heap.size+1) 57 (aCv ⟨⟨src,fs,⟨lv,lc⟩,f,t⟩,A,m,k⟩):=(((aG.kV w _ _ _).alloc _).alloc _).grows hb;have bt:aG w1 (w.heap.size+1+1) 25 (Ko tO):=((aG.Bh w _ _ _ _).alloc _).grows hb;have br:aG w1 (w.heap.size+1+1+1) 57 BP:=(aG.abh w _ _ _ _ _).grows hb;simp only[World.size_alloc] at hO;replace hO:=ζ hO;clear hb cV Z8;by_cases h0:V.length=0
 ·rw[if_pos (.inl h0)] at hcut;replace hcut:=ζ hcut;rw[h0];have x0:=ba.c0;have x1:=ba.c1;have x2:=ba.c2;have x3:=ba.c3;have x4:=ba.c4;have x5:=ba.c5;have xf:=fun i=>ba.frozen i
  have xl:=ba.lt;have y0:=br.c0;have y1:=br.c1;have y2:=br.c2;have y3:=br.c3;have y4:=br.c4;have y5:=br.c5;have yf:=fun i=>br.frozen i
  have yl:=br.lt;clear hO cF h0 ba bt br hL;go_wp2_with fail;refine bodyPost_ret (v:=.tuple #[jP,.bool false]) ?_ rfl ⟨jP,by rw[hcut.o];rfl,by rw[hcut.o];exact rfl,?_⟩
  ·simp only[results,Tryz.results72,jP];go_simp
  ·exact Γ
 ·have hi:¬(V.length:Int)=0:=ω;obtain⟨L,WC⟩:∃L,L=V.length:=⟨_,rfl⟩;rw[←WC] at hi hL hO ⊢;have hi':¬L=0:=ω;replace WC:=ζ WC;have a2:=ba.c2;have a3:=ba.c3;have t0:=bt.c0;have t1:=bt.c1;cases F
  ·rw[if_pos (.inr rfl)] at hcut;replace hcut:=ζ hcut;clear h0 hO;go_wp2_with fail;refine (cF.out _).mono ?_;rintro e w2 ⟨rfl,hb2⟩;replace ba:=ba.grows hb2;replace bt:=bt.grows hb2;replace br:=br.grows hb2;replace hg:=hg.trans hb2;have x0:=ba.c0;have x1:=ba.c1;have x2:=ba.c2;have x3:=ba.c3;have x4:=ba.c4;have x5:=ba.c5;have xf:=fun i=>ba.frozen i
   have xl:=ba.lt;have y0:=br.c0;have y1:=br.c1;have y2:=br.c2;have y3:=br.c3;have y4:=br.c4;have y5:=br.c5;have yf:=fun i=>br.frozen i
   have yl:=br.lt;clear cF a2 a3 t0 t1 ba bt br hb2;go_wp2_with fail;refine bodyPost_ret (v:=.tuple #[jP,.bool false]) ?_ rfl ⟨jP,by rw[hcut.o];rfl,by rw[hcut.o];exact rfl,?_⟩
   ·simp only[results,Tryz.results72,jP];go_simp
   ·exact Γ
  ·rw[if_neg (by rintro (h | h);exact h0 h;cases h)] at hcut;replace hcut:=ζ hcut;clear h0;go_wp2_with fail;refine (cF.out _).mono ?_;rintro e w2 ⟨rfl,hb2⟩;replace ba:=ba.grows hb2;replace bt:=bt.grows hb2;replace br:=br.grows hb2;replace hg:=hg.trans hb2;replace hO:=ζ (hO.o.grows hb2);have x0:=ba.c0;have x1:=ba.c1;have x2:=ba.c2;have x3:=ba.c3;have x4:=ba.c4;have x5:=ba.c5;have xf:=fun i=>ba.frozen i
   have xl:=ba.lt;have y0:=br.c0;have y1:=br.c1;have y2:=br.c2;have y3:=br.c3;have y4:=br.c4;have y5:=br.c5;have yf:=fun i=>br.frozen i
   have yl:=br.lt;clear cF a2 a3 t0 t1 ba bt br hb2;go_wp2_with fail;refine bodyPost_ret (v:=.tuple #[iV ⟨⟨src,V,⟨lv,lc⟩,f,t⟩,A1,L,c1⟩,.bool true]) ?_ rfl ⟨_,by rw[hcut.o];rfl,?_,?_⟩
   ·simp only[results,Tryz.results72,iV];go_simp
   ·rw[hcut.o];refine⟨A1,c1,by rw[WC.o],?_⟩;rw[←WC.o];refine Own.bK (base:=w.heap.size+1+1+1+1) ?_ ω;repeat (refine Own.aiO ?_ ω _)
    exact hO.o
   ·exact Γ
theorem L6:∀a b:List UInt8,gY a b = Op.bytesLess a b
 | [],[]=>rfl
 | [],_ ::_=>rfl
 | _ ::_,[]=>rfl
 | a ::x,b ::y=>by
  unfold gY Op.bytesLess;rw[L6 x y];by_cases h:a = b
  ·subst h;skip
   simp
  ·have h':(a ==b)=false:=by simpa using h
   rw[if_neg h,h',Bool.false_and,Bool.or_false];rfl
theorem PE {A:Option Addr} {m c:Nat} {fs:List bM} (w:World) (hA:bW w 2 dZ A m fs) (hm:m≤9223372036854775807) :
 Calls Tryz.prog 170 #[.slice A m c] w fun e w'=>e =.returned (.bool (iL fs))∧ah w w':=by
 have kN:=hA.1;obtain⟨R,hR⟩:∃R,R=iL fs:=⟨_,rfl⟩;rw[←hR];replace hR:=ζ hR;replace hA:=ζ hA;go_enter Tryz.func170,Tryz.ntmps170
 go_wp2;go_loopw [3,4,7] (fun _ _ i wr=>∃k:Nat,k≤m∧i =.int .i64 k∧Hid (uJ fs k)∧Hid (ah w wr)) (fun _ _ i _=>m - (intOf i).toNat)
 case atStart=>exact⟨0,ω,rfl,⟨fun _ _ h=>absurd h ω,fun _ _ _ h=>absurd h ω⟩,ah.refl _⟩
 case round=>
  obtain⟨k,hk,rfl,hall,hG⟩:=hrel;by_cases qC:k<m
  ·obtain⟨bb,off,f,rfl,CW,hx,hcell⟩:=(hA.o.keep hG.o).at_ qC;have c0:wr.cell? ⟨bb,off+k*2,none⟩=some (.string ⟨f.n.toArray⟩):=by simpa using hcell 0 _ rfl
   have c1:wr.cell? ⟨bb,off+k*2+1,none⟩=some (.string ⟨f.v.toArray⟩):=by simpa using hcell 1 _ rfl
   have tZ:=0;have kX:(k:Int)<(m:Int):=ω;have cN:=fun W=>uN f.n W
   have hbz:=bsize f.v;cases NQ:fG f.n with
   | false=>
    have aN:=hR.o;rw[xW hx (by unfold Nu;rw[NQ];rfl)] at aN;rw[NQ] at cN;replace aN:=ζ aN;replace cN:=ζ cN;clear hcell hx tZ NQ hall hR hbz;go_wp2_with fail;refine aF κ ?_;refine rK (.range 25) 0 ?_;iterate 2 refine ay ?_
    refine aT (.bool false) rfl χ (fun wq dN=> ?_) ?_
    ·obtain⟨lu,kR⟩:=bF dN;go_simp;exact Calls.mono (cN.out wq) (fun e w'' h=>h)
    go_simp;iterate 22 refine ay ?_
    refine aB ?_;refine aH κ (fun wN hN hS=> ?_);go_wp2;go_ret;exact⟨aJ (by rw[aN.o]),(hG.o.alloc _).trans hN⟩
   | true=>
    rw[NQ] at cN;replace cN:=ζ cN;by_cases hv:f.v.length≤200
    ·have nG:Nu f = true:=by unfold Nu;rw[NQ];simp[hv]
     have hvi:¬((200:Int)<(f.v.length:Int)):=ω;by_cases JC:0<k
     ·obtain⟨j,rfl⟩:∃j,k=j + 1:=⟨k-1,ω⟩;obtain⟨bb',kJ,e,hA',hse,he,vT⟩:=(hA.o.keep hG.o).at_ (show j < m by omega);injection hA' with hA'
      injection hA' with hb1 hb2
      subst hb1 hb2;have c2:wr.cell? ⟨bb,off+j * 2,none⟩=some (.string ⟨e.n.toArray⟩):=by simpa using vT 0 _ rfl
      have hlt:=(L6 e.n f.n).symm;have i0:(0:Int)<((j + 1:Nat):Int):=ω;have i1:((j + 1:Nat):Int)-1=(j:Int):=ω;have i2:(j:Int)<(m:Int):=ω;cases hah:gY e.n f.n with
      | false=>
       rw[hah] at hlt;have aN:=hR.o;rw[LQ he hx hah] at aN;replace aN:=ζ aN;clear hcell vT hx he tZ NQ hall hR nG hah;go_wp2_with fail;refine aF κ ?_;refine rK (.range 25) 0 ?_;iterate 2 refine ay ?_
       refine aT (.bool true) rfl χ (fun wq dN=> ?_) ?_
       ·obtain⟨lu,kR⟩:=bF dN;go_simp;exact Calls.mono (cN.out wq) (fun e w'' h=>h)
       go_simp;iterate 22 refine ay ?_
       refine aB ?_;refine aH κ (fun wN hN hS=> ?_);go_wp2;go_ret;exact⟨aJ (by rw[aN.o]),(hG.o.alloc _).trans hN⟩
      | true=>
       rw[hah] at hlt;have f_:=ζ (hall.o.succ hx nG (fun e' _ he'=>by rw[show j + 1-1=j from rfl,he] at he';rw[←Option.some.inj he'];exact hah));clear hcell vT hx he tZ NQ hall nG hah;go_wp2_with fail;refine aF κ ?_;refine rK (.range 25) 0 ?_;iterate 2 refine ay ?_
       refine aT (.bool true) rfl χ (fun wq dN=> ?_) ?_
       ·obtain⟨lu,kR⟩:=bF dN;go_simp;exact Calls.mono (cN.out wq) (fun e w'' h=>h)
       go_simp;iterate 22 refine ay ?_
       refine aB ?_;refine aH κ (fun wN hN hS=> ?_);go_wp2;go_roundw
       case rel=>exact⟨j + 1+1,ω,ν,f_,(hG.o.alloc _).trans hN⟩
       case measure=>exact ψ
     ·obtain rfl:k=0:=ω;simp only[Nat.zero_mul,Nat.add_zero] at c0 c1;have f_:=ζ (hall.o.succ hx nG (fun e' h _=>absurd h ω));clear hcell hx tZ NQ hall nG JC;go_wp2_with fail;refine aF κ ?_;refine rK (.range 25) 0 ?_;iterate 2 refine ay ?_
      refine aT (.bool true) rfl χ (fun wq dN=> ?_) ?_
      ·obtain⟨lu,kR⟩:=bF dN;go_simp;exact Calls.mono (cN.out wq) (fun e w'' h=>h)
      go_simp;iterate 22 refine ay ?_
      refine aB ?_;refine aH κ (fun wN hN hS=> ?_);go_wp2;go_roundw
      case rel=>exact⟨1,ω,ν,f_,(hG.o.alloc _).trans hN⟩
      case measure=>exact ψ
    ·have hvi:(200:Int)<(f.v.length:Int):=ω;have aN:=hR.o;rw[xW hx (by unfold Nu;rw[NQ];simp[hv])] at aN;replace aN:=ζ aN;clear hcell hx tZ NQ hall hR;go_wp2_with fail;refine aF κ ?_;refine rK (.range 25) 0 ?_;iterate 2 refine ay ?_
     refine aT (.bool true) rfl χ (fun wq dN=> ?_) ?_
     ·obtain⟨lu,kR⟩:=bF dN;go_simp;exact Calls.mono (cN.out wq) (fun e w'' h=>h)
     go_simp;iterate 22 refine ay ?_
     refine aB ?_;refine aH κ (fun wN hN hS=> ?_);go_wp2;go_ret;exact⟨aJ (by rw[aN.o]),(hG.o.alloc _).trans hN⟩
  ·obtain rfl:k=m:=ω;have aN:=hR.o;rw[uJ.all (by rw[kN];exact hall.o),kN] at aN;by_cases h8:k≤8
   ·have h8i:(k:Int)≤8:=ω;simp only[h8,decide_true] at aN;replace aN:=ζ aN;clear hR hall;go_wp2;go_ret;exact⟨aJ (by rw[aN.o]),hG.o⟩
   ·have h8i:¬((k:Int)≤8):=ω;simp only[h8,decide_false] at aN;replace aN:=ζ aN;clear hR hall;go_wp2;go_ret;exact⟨aJ (by rw[aN.o]),hG.o⟩
theorem wB {a:dD} (w:World) (ha:a.At w) :
 Calls Tryz.prog 129 #[iV a] w fun e w'=>e =.returned (.bool (bg a.a))∧ah w w':=by
 have cN:=fun W=>uN a.a.src W
 have cF:=fun W (hW:ah w W)=>PE (c:=a.k) W (ha.arr.keep hW) (by have:=ha.le;omega)
 have cL:=fun W=>mF a.a.l W
 have hle:=ha.le;have Qv:=ha.arr.1;obtain⟨R,hR⟩:∃R,R=bg a.a:=⟨_,rfl⟩;rw[←hR];unfold bg eY at hR;rw[Qv] at hR;generalize fG a.a.src=N at *
 generalize iL a.a.fs=FB at *
 generalize dA a.a.l.lv=L at *
 unfold iV;clear ha Qv;obtain⟨⟨src,fs,⟨lv,lc⟩,f,t⟩,A,m,k⟩:=a;simp only at cN cF cL hR hle ⊢;replace cN:=ζ cN;replace cF:=ζ cF;replace cL:=ζ cL;replace hR:=ζ hR;rcases (show (t ==0)=true∨(t ==0)=false by cases (t ==0) <;> simp) with a2 | a2 <;> by_cases a1:0≤f <;> by_cases a3:f < t
 all_goals
  go_enter Tryz.func129,Tryz.ntmps129
  go_wp2_with fail;refine (cN.out _).mono ?_;rintro e w1 ⟨rfl,hb1⟩;have bx:=ζ ((aG.new w 57 #[.string ⟨src.toArray⟩,.slice A m k,.int .i64 lv,.int .u32 (lc:Int),.int .i64 f,.int .i64 t]).grows hb1);have hG:Hid (ah w w1):=ζ (((ah.refl w).alloc _).trans hb1);clear hb1 cN;have q0:=bx.out.c0;have q1:=bx.out.c1;have q2:=bx.out.c2;have q3:=bx.out.c3;have q4:=bx.out.c4;have q5:=bx.out.c5;have qz:=bx.out.lt;cases N
  ·go_wp2;go_ret;exact⟨aJ (by rw[hR.o];simp),hG.o⟩
  ·by_cases h0:m < 1
   ·have h0':¬(0:Int)<(m:Int):=ω;have aod:decide (0<m)=false:=by simp;omega
    go_wp2;go_ret;exact⟨aJ (by rw[hR.o,aod];simp),hG.o⟩
   ·have h0':(0:Int)<(m:Int):=ω;have aod:decide (0<m)=true:=by simp;omega
    go_wp2_with fail;refine (cF.out _ hG.o).mono ?_;rintro e w2 ⟨rfl,hb2⟩;replace bx:=ζ (bx.out.grows hb2);replace hG:=ζ (hG.o.trans hb2);clear hb2 q0 q1 q2 q3 q4 q5 qz;have q0:=bx.out.c0;have q1:=bx.out.c1;have q2:=bx.out.c2;have q3:=bx.out.c3;have q4:=bx.out.c4;have q5:=bx.out.c5;have qz:=bx.out.lt;cases FB
    ·go_wp2;go_ret;exact⟨aJ (by rw[hR.o];simp),hG.o⟩
    ·go_wp2_with fail;refine (cL.out _).mono ?_;rintro e w3 ⟨rfl,hb3⟩;replace bx:=ζ (bx.out.grows hb3);replace hG:=ζ (hG.o.trans hb3);clear hb3 q0 q1 q2 q3 q4 q5 qz;have q0:=bx.out.c0;have q1:=bx.out.c1;have q2:=bx.out.c2;have q3:=bx.out.c3;have q4:=bx.out.c4;have q5:=bx.out.c5;have qz:=bx.out.lt;cases L
     ·go_wp2;go_ret;exact⟨aJ (by rw[hR.o];simp),hG.o⟩
     ·by_cases a4:f≤1099511627776
      ·go_wp2;go_ret;exact⟨aJ (by rw[hR.o,aod,Bool.eq_iff_iff];simp at a2;simp <;> omega),hG.o⟩
      ·first
       | (exfalso;omega)
       | (go_wp2;go_ret;exact⟨aJ (by rw[hR.o,aod,Bool.eq_iff_iff];simp at a2;simp <;> omega),hG.o⟩)
end Go.Proofs.YtbhikkgpcmkonaaGreatDoor
