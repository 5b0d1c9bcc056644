/- Parts: LwB GrpB SlR SlI PolF PolG PolH GrpC -/
import Derived.Test.YteojanlajhebhaaGreatDoorGs0
import Derived.Test.YteojanlajhebhaaGreatDoorGs9
import Derived.Test.YteojanlajhebhaaGreatDoorGs12
import Derived.Test.YteojanlajhebhaaGreatDoorGs5
import Derived.Test.YteojanlajhebhaaGreatDoorGs6
import Derived.Test.YteojanlajhebhaaGreatDoorGs7
import Derived.Deep.OwnRows
set_option maxRecDepth 100000
set_option maxHeartbeats 12800000
namespace Go.Proofs.YteojanlajhebhaaGreatDoor
open Go.RowKit
def iI.qU (x:iI):iI:=⟨{x.a with fs:=x.a.fs.take (min x.m 12)},x.A,min x.m 12,x.k⟩
def atX (w:World) (g:Nat):Prop:=w.heap.size≤g
theorem asI (x:iI):(FV x).length=6:=rfl
theorem arS (x:iI):∀u∈FV x,u.oneCell'=true:=by
 intro u hu;simp[FV] at hu;rcases hu with rfl | rfl | rfl | rfl | rfl | rfl <;> rfl
theorem aw0:iK Tryz.prog 30 42 6 72:=iK.mk' (z:=.agg #[.string ⟨#[]⟩,.slice none 0 0,.int .i64 0,.int .u32 0,.int .i64 0,.int .i64 0]) Tryz.underlying30 κ rfl ω
theorem awZ:iK Tryz.prog 27 44 6 72:=iK.mk' (z:=.agg #[.string ⟨#[]⟩,.slice none 0 0,.int .i64 0,.int .u32 0,.int .i64 0,.int .i64 0]) Tryz.underlying27 κ rfl ω
theorem alk {x:iI} (w:World) (hk:x.m≤x.k) (hm:x.k≤9223372036854775807):Calls Tryz.prog 15 #[jy x] w fun e w'=>e =.returned (jy x.qU)∧ah w w':=by
 obtain⟨⟨src,fs,⟨lv,lc⟩,f,t⟩,A,m,k⟩:=x;simp only at hk hm;unfold jy iI.qU;simp only;have e:(min (m:Int) 12).toNat=min m 12:=ω;have hX:=aS.new w 44 #[.string ⟨src.toArray⟩,.slice A m k,.int .i64 lv,.int .u32 (lc:Int),.int .i64 f,.int .i64 t];have hR:=aS.new (w.alloc (.cells #[.string ⟨src.toArray⟩,.slice A m k,.int .i64 lv,.int .u32 (lc:Int),.int .i64 f,.int .i64 t] 44)) 42 #[.string ⟨#[]⟩,.slice none 0 0,.int .i64 0,.int .u32 0,.int .i64 0,.int .i64 0];have hG:ah w ((w.alloc (.cells #[.string ⟨src.toArray⟩,.slice A m k,.int .i64 lv,.int .u32 (lc:Int),.int .i64 f,.int .i64 t] 44)).alloc (.cells #[.string ⟨#[]⟩,.slice none 0 0,.int .i64 0,.int .u32 0,.int .i64 0,.int .i64 0] 42)):=((ah.refl w).alloc _).alloc _;replace hX:=hX.alloc (.cells #[.string ⟨#[]⟩,.slice none 0 0,.int .i64 0,.int .u32 0,.int .i64 0,.int .i64 0] 42);rw[show (w.alloc (.cells #[.string ⟨src.toArray⟩,.slice A m k,.int .i64 lv,.int .u32 (lc:Int),.int .i64 f,.int .i64 t] 44)).heap.size=w.heap.size+1 by simp] at hR;have hGr:Hid (w.heap.size≤w.heap.size+1):=ζ (Nat.le_succ _);go_enter Tryz.func15,Tryz.ntmps15
 go_wp2_with fail;generalize (w.alloc (.cells #[.string ⟨src.toArray⟩,.slice A m k,.int .i64 lv,.int .u32 (lc:Int),.int .i64 f,.int .i64 t] 44)).alloc (.cells #[.string ⟨#[]⟩,.slice none 0 0,.int .i64 0,.int .u32 0,.int .i64 0,.int .i64 0] 42)=w1 at *
 have agT:Hid (atX w (w.heap.size+1)):=hGr;generalize w.heap.size+1=gR at *
 generalize w.heap.size=gX at *
 have x0:=hX.c0;have x1:=hX.c1;have x2:=hX.c2;have x3:=hX.c3;have x4:=hX.c4;have x5:=hX.c5;have xl:=hX.lt;replace hR:=ζ hR;replace hG:=ζ hG;clear hX hGr;refine aJ κ ?_;refine rK (.range 16) 1 ?_;iterate 16 refine aB ?_
 refine ay ?_;refine dI (i:=16) rfl κ κ (fun wN hN hS K' hK=> ?_);clear hS;have hRN:=hR.o.grows hN;have r0:=hRN.cell 0;have r1:=hRN.cell 1;have r2:=hRN.cell 2;have r3:=hRN.cell 3;have r4:=hRN.cell 4;have r5:=hRN.cell 5;have q0:=hRN.frozen 0;have q1:=hRN.frozen 1;have q2:=hRN.frozen 2;have q3:=hRN.frozen 3;have q4:=hRN.frozen 4;have q5:=hRN.frozen 5;have rl:=hRN.lt;go_simp;refine hK.o _ _ ?_;clear hK;have hB:aS ((((((wN.setCell ⟨gR,0,none⟩ (.string ⟨src.toArray⟩)).setCell ⟨gR,1,none⟩ (.slice A (min m 12) k)).setCell ⟨gR,2,none⟩ (.int .i64 lv)).setCell ⟨gR,3,none⟩ (.int .u32 (lc:Int))).setCell ⟨gR,4,none⟩ (.int .i64 f)).setCell ⟨gR,5,none⟩ (.int .i64 t)) gR 42 #[.string ⟨src.toArray⟩,.slice A (min m 12) k,.int .i64 lv,.int .u32 (lc:Int),.int .i64 f,.int .i64 t]:=
  ((((((hRN.dO 0 (.string ⟨src.toArray⟩)).dO 1 (.slice A (min m 12) k)).dO 2 (.int .i64 lv)).dO 3 (.int .u32 (lc:Int))).dO 4 (.int .i64 f)).dO 5 (.int .i64 t))
 have uX:ah w ((((((wN.setCell ⟨gR,0,none⟩ (.string ⟨src.toArray⟩)).setCell ⟨gR,1,none⟩ (.slice A (min m 12) k)).setCell ⟨gR,2,none⟩ (.int .i64 lv)).setCell ⟨gR,3,none⟩ (.int .u32 (lc:Int))).setCell ⟨gR,4,none⟩ (.int .i64 f)).setCell ⟨gR,5,none⟩ (.int .i64 t)):=
  ((((((hG.o.trans hN).setCell (p:=⟨gR,0,none⟩) agT.o _).setCell (p:=⟨gR,1,none⟩) agT.o _).setCell (p:=⟨gR,2,none⟩) agT.o _).setCell (p:=⟨gR,3,none⟩) agT.o _).setCell (p:=⟨gR,4,none⟩) agT.o _).setCell (p:=⟨gR,5,none⟩) agT.o _
 generalize ((((((wN.setCell ⟨gR,0,none⟩ (.string ⟨src.toArray⟩)).setCell ⟨gR,1,none⟩ (.slice A (min m 12) k)).setCell ⟨gR,2,none⟩ (.int .i64 lv)).setCell ⟨gR,3,none⟩ (.int .u32 (lc:Int))).setCell ⟨gR,4,none⟩ (.int .i64 f)).setCell ⟨gR,5,none⟩ (.int .i64 t))=w9 at *
 clear r0 r1 r2 r3 r4 r5 q0 q1 q2 q3 q4 q5 rl x0 x1 x2 x3 x4 x5 xl hR hRN;have e0:=hB.cell 0;have e1:=hB.cell 1;have e2:=hB.cell 2;have e3:=hB.cell 3;have e4:=hB.cell 4;have e5:=hB.cell 5;go_wp2;refine bodyPost_ret (v:=.agg #[.string ⟨src.toArray⟩,.slice A (min m 12) k,.int .i64 lv,.int .u32 (lc:Int),.int .i64 f,.int .i64 t]) ?_ rfl ⟨rfl,uX⟩;simp[results,Tryz.results15,go_sem,e0,e1,e2,e3,e4,e5]
theorem ane {A:Option Addr} {m c:Nat} {xs:List iI} (w:World) (hA:dH w 6 FV A m xs) (hm:m≤9223372036854775807) (hk:∀x∈xs,x.m≤x.k∧x.k≤9223372036854775807) :
 Calls Tryz.prog 6 #[.slice A m c] w fun e w'=>∃v u,e =.returned (.tuple #[v,u])∧Own w' w.heap.size 42 6 FV v ((xs.take 12).map iI.qU)∧Own w' w.heap.size 44 6 FV u ((xs.take 12).map iI.qU)∧ah w w':=by
 have qA:=ζ hA.1;replace hA:=ζ hA;replace hk:=ζ hk;go_enter Tryz.func6,Tryz.ntmps6
 go_wp2;go_loopw [4,5,6,7] (fun vo vd i _ wr=>∃q:Nat,q≤m∧q≤12∧i =.int .i64 (q:Int)∧Hid (Own wr w.heap.size 42 6 FV vo ((xs.take q).map iI.qU))∧Hid (Own wr w.heap.size 44 6 FV vd ((xs.take q).map iI.qU))∧Hid (ah w wr)) (fun _ _ i _ _=>12-(intOf i).toNat)
 case atStart=>exact⟨0,ω,ω,rfl,ζ (Own.iH _ _ _ _ _),ζ (Own.iH _ _ _ _ _),ζ (ah.refl _)⟩
 case round=>
  obtain⟨q,hq,ayV,rfl,hO,hD,hG⟩:=hrel;by_cases hqm:q<m∧q<12
  ·obtain⟨b0,o0,x,rfl,hs0,hx,hcell⟩:=(hA.o.keep hG.o).at_ hqm.1;have hkx:=hk.o x (List.mem_of_getElem? hx);have cB:=ζ (fun W=>alk (x:=x.qU) W (Nat.le_trans (Nat.min_le_left _ _) hkx.1) hkx.2);have hqi:(q:Int)<(m:Int):=ω;have ayP:(q:Int)<12:=ω;have xJ:Hid ((xs.take (q+1)).map iI.qU=(xs.take q).map iI.qU++[x.qU]):=ζ (by rw[List.take_add_one,hx];simp);obtain⟨⟨src,fs,⟨lv,lc⟩,f,t⟩,xA,xm,xk⟩:=x;simp only at hkx;have y0:wr.cell? ⟨b0,o0+q*6,none⟩=some (.string ⟨src.toArray⟩):=by simpa using hcell 0 _ rfl
   have y1:wr.cell? ⟨b0,o0+q*6+1,none⟩=some (.slice xA xm xk):=hcell 1 _ rfl;have y2:wr.cell? ⟨b0,o0+q*6+2,none⟩=some (.int .i64 lv):=hcell 2 _ rfl;have y3:wr.cell? ⟨b0,o0+q*6+3,none⟩=some (.int .u32 (lc:Int)):=hcell 3 _ rfl;have y4:wr.cell? ⟨b0,o0+q*6+4,none⟩=some (.int .i64 f):=hcell 4 _ rfl;have y5:wr.cell? ⟨b0,o0+q*6+5,none⟩=some (.int .i64 t):=hcell 5 _ rfl;have azf:=hkx.1;have aze:=hkx.2;have aza:(min (xm:Int) 12).toNat=min xm 12:=ω;clear hcell hx hkx;have hcc:Hid (jy (iI.qU (iI.qU ⟨⟨src,fs,⟨lv,lc⟩,f,t⟩,xA,xm,xk⟩))=.agg #[.string ⟨src.toArray⟩,.slice xA (min xm 12) xk,.int .i64 lv,.int .u32 (lc:Int),.int .i64 f,.int .i64 t]):=ζ (by
    unfold jy iI.qU;simp only;rw[show min (min xm 12) 12=min xm 12 by omega])
   rw[hcc.o] at cB;have cB2:Hid (∀W,Calls Tryz.prog 15 #[.agg #[.string ⟨src.toArray⟩,.slice xA (min xm 12) xk,.int .i64 lv,.int .u32 (lc:Int),.int .i64 f,.int .i64 t]] W fun e w'=>e =.returned (.agg #[.string ⟨src.toArray⟩,.slice xA (min xm 12) xk,.int .i64 lv,.int .u32 (lc:Int),.int .i64 f,.int .i64 t])∧ah W w'):=ζ cB.out;clear cB hcc;have hZ:=aS.new wr 44 #[.string ⟨src.toArray⟩,.slice xA (min xm 12) xk,.int .i64 lv,.int .u32 (lc:Int),.int .i64 f,.int .i64 t];have hg1:ah wr (wr.alloc (.cells #[.string ⟨src.toArray⟩,.slice xA (min xm 12) xk,.int .i64 lv,.int .u32 (lc:Int),.int .i64 f,.int .i64 t] 44)):=(ah.refl _).alloc _;go_wp2_with fail;refine (cB2.out _).mono ?_;rintro e w2 ⟨rfl,hg2⟩;replace hZ:=hZ.grows hg2;have pY:=ζ (hO.o.grows (hg1.trans hg2));have hD2:=ζ (hD.o.grows (hg1.trans hg2));have iC:=ζ (hG.o.trans (hg1.trans hg2));clear hO hD hG hg1 hg2 cB2 y0 y1 y2 y3 y4 y5;generalize wr.heap.size=gZ at *
   replace hZ:=ζ hZ;have eP:=ζ iC.o.size;have hlq:Hid (((xs.take q).map iI.qU).length≤12):=ζ (by rw[List.length_map,List.length_take];omega);generalize (xs.take q).map iI.qU=acc at *
   go_wp2_with (first
    | (at_builtin;refine dM (x:=(⟨⟨src,fs.take (min xm 12),⟨lv,lc⟩,f,t⟩,xA,min xm 12,xk⟩:iI)) aw0 rfl (.tmp 30) (.tmp 33) rfl (pY.o.alloc _) rfl ⟨w2.heap.size,0,none⟩ rfl rfl (h_ (by exact heap_alloc_new w2 _)) (arS _) (by have:=eP.o;simp;omega) (by have:=hlq.o;unfold maxLen;omega) (by have:=hlq.o;omega) (fun v4 w4 gu fV agM=> ?_);(have hD4:=ζ ((hD2.o.alloc _).aeA fV (fun m hm=>by obtain⟨_,cs,hB⟩:=(pY.o.alloc (.cells #[.string ⟨src.toArray⟩,.slice xA (min xm 12) xk,.int .i64 lv,.int .u32 (lc:Int),.int .i64 f,.int .i64 t] 42)).kY m hm;exact⟨_,cs,δ,hB⟩)));(have CQ:=ζ ((iC.o.alloc _).bH fV (fun g hg=>(pY.o.kY g hg).1)));(have hZ4:aS w4 gZ _ _:=(fV.block gZ (by have:=hZ.o.lt;simp;omega) (fun e=>iZ (pY.o.alloc (.cells #[.string ⟨src.toArray⟩,.slice xA (min xm 12) xk,.int .i64 lv,.int .u32 (lc:Int),.int .i64 f,.int .i64 t] 42)) (hZ.o.alloc (.cells #[.string ⟨src.toArray⟩,.slice xA (min xm 12) xk,.int .i64 lv,.int .u32 (lc:Int),.int .i64 f,.int .i64 t] 42)) δ e.symm)).trans (hZ.o.alloc _));(have z0:=hZ4.cell 0);(have z1:=hZ4.cell 1);(have z2:=hZ4.cell 2);(have z3:=hZ4.cell 3);(have z4:=hZ4.cell 4);(have z5:=hZ4.cell 5);(have zl:=hZ4.lt);(have au8:=ζ CQ.o.size);(replace gu:=ζ gu);clear fV agM)
    | (at_builtin;refine dM (x:=(⟨⟨src,fs.take (min xm 12),⟨lv,lc⟩,f,t⟩,xA,min xm 12,xk⟩:iI)) awZ rfl (.tmp 35) (.tmp 37) rfl (hD4.o.alloc _) rfl ⟨w4.heap.size,0,none⟩ rfl rfl (h_ (by exact heap_alloc_new w4 _)) (arS _) (by have:=au8.o;simp;omega) (by have:=hlq.o;unfold maxLen;omega) (by have:=hlq.o;omega) (fun v5 w5 hD5 jG amV=> ?_);(have jk:=ζ ((gu.o.alloc _).aeA jG (fun m hm=>by obtain⟨_,cs,hB⟩:=(hD4.o.alloc (.cells #[.string ⟨src.toArray⟩,.slice xA (min xm 12) xk,.int .i64 lv,.int .u32 (lc:Int),.int .i64 f,.int .i64 t] 44)).kY m hm;exact⟨_,cs,δ,hB⟩)));(have vV:=ζ ((CQ.o.alloc _).bH jG (fun g hg=>(hD4.o.kY g hg).1)));(replace hD5:=ζ hD5);clear jG amV))
   go_roundw
   case rel=>exact⟨q+1,ω,ω,ν,ζ (by rw[xJ.o];exact jk.o),ζ (by rw[xJ.o];exact hD5.o),vV⟩
   case measure=>exact ψ
  ·have aQ:Hid ((xs.take q).map iI.qU=(xs.take 12).map iI.qU):=ζ (by
    rcases Nat.lt_or_ge q m with h | h
    ·rw[show q=12 by omega]
    ·rw[List.take_of_length_le (by rw[qA.o];exact h),List.take_of_length_le (by rw[qA.o];omega)])
   rw[aQ.o] at hO hD;by_cases Yx:q<m
   ·have h1:(q:Int)<(m:Int):=ω;have h2:¬(q:Int)<12:=ω;go_wp2;go_ret2;exact⟨u4,u5,rfl,by have:=hO.o;rw[List.map_take] at this;exact this,by have:=hD.o;rw[List.map_take] at this;exact this,hG.o⟩
   ·have h1:¬(q:Int)<(m:Int):=ω;go_wp2;go_ret2;exact⟨u4,u5,rfl,by have:=hO.o;rw[List.map_take] at this;exact this,by have:=hD.o;rw[List.map_take] at this;exact this,hG.o⟩
end Go.Proofs.YteojanlajhebhaaGreatDoor
namespace Go.Proofs.YteojanlajhebhaaGreatDoor
open Go.RowKit Go.Maps
def iU (ids:List Nat) (id:Nat):List Nat:=if id∈ids then ids else putAt ids (rX ids id) id
theorem Rz (l:List Nat) (t:Nat):∀(k x:Nat),k<rX l t→l[k]? = some x→x < t:=by
 induction l with
 | nil=>intro k x h;simp[rX] at h
 | cons a r ih=>
  intro k x hk hx;unfold rX at hk ih;by_cases ha:a < t
  ·rw[List.takeWhile_cons_of_pos (by simpa using ha),List.length_cons] at hk;cases k with
   | zero=>simp at hx;subst hx;exact ha
   | succ k=>exact ih k x ω (by simpa using hx)
  ·rw[List.takeWhile_cons_of_neg (by simpa using ha)] at hk;simp at hk
theorem aeo (l:List Nat) (t:Nat):∀x:Nat,l[rX l t]? = some x→t≤x:=by
 induction l with
 | nil=>intro x h;simp at h
 | cons a r ih=>
  intro x hx;unfold rX at hx ih;by_cases ha:a < t
  ·rw[List.takeWhile_cons_of_pos (by simpa using ha),List.length_cons,List.getElem?_cons_succ] at hx;exact ih x hx
  ·rw[List.takeWhile_cons_of_neg (by simpa using ha)] at hx;simp at hx;omega
theorem xC.put {l:List Nat} {t:Nat} (h:xC l) (ht:¬t∈l):xC (putAt l (rX l t) t):=by
 have hp:=Jq l t;unfold xC;rw[List.pairwise_iff_getElem];intro i j hi hj Xx;have hx:=Jp hp (List.getElem?_eq_getElem hi);have hy:=Jp hp (List.getElem?_eq_getElem hj);generalize (putAt l (rX l t) t)[i]=x at *
 generalize (putAt l (rX l t) t)[j]=y at *
 have Iu:∀(q y:Nat),rX l t≤q→l[q]? = some y→t < y:=fun q y hq hy=>by
  have h0:t≤y:=by
   rcases Nat.eq_or_lt_of_le hq with h1 | h1
   ·rw[←h1] at hy;exact aeo l t y hy
   ·have hl:rX l t < l.length:=by have:=(List.getElem?_eq_some_iff.1 hy).1;omega
    have h2:=aeo l t _ (List.getElem?_eq_getElem hl);have h3:=h.lt h1 (List.getElem?_eq_getElem hl) hy;omega
  have h1:t≠y:=fun e=>ht (by rw[e];exact List.mem_of_getElem? hy)
  omega
 rcases hx with⟨h1,h2⟩ | ⟨h1,h2⟩ | ⟨h1,h2⟩
 ·rcases hy with⟨h3,h4⟩ | ⟨h3,h4⟩ | ⟨h3,h4⟩
  ·exact h.lt Xx h2 h4
  ·rw[h4];exact Rz l t i x h1 h2
  ·have:=Rz l t i x h1 h2;have:=Iu (j - 1) y ω h4;omega
 ·rcases hy with⟨h3,h4⟩ | ⟨h3,h4⟩ | ⟨h3,h4⟩
  ·omega
  ·omega
  ·rw[h2];exact Iu (j - 1) y ω h4
 ·rcases hy with⟨h3,h4⟩ | ⟨h3,h4⟩ | ⟨h3,h4⟩
  ·omega
  ·omega
  ·exact h.lt (show i - 1<j - 1 by omega) h2 h4
theorem xC.add {l:List Nat} {t:Nat} (h:xC l):xC (iU l t):=by
 unfold iU;split
 ·exact h
 ·rename_i ht;exact h.put ht
theorem WC (l:List Nat) (t:Nat):(iU l t).length≤l.length+1:=by
 unfold iU;split
 ·omega
 ·rw[vJ (Jq l t)];omega
theorem J6 {a b:Nat} (h:Lib.decDigits a = Lib.decDigits b):a = b:=by
 have h1:=Py a;rw[h,Py b] at h1;exact (Option.some.inj h1).symm
theorem OH (r:Nat) (fs:List eu):(eU r fs).takeWhile (fun b=>decide (b.toNat≠0))=Lib.decDigits r:=by
 unfold eU;have h1:∀b∈Lib.decDigits r,(decide (b.toNat≠0))=true:=fun b hb=>by
  have:=J7 r b hb;simp;omega
 rw[List.takeWhile_append_of_pos h1];cases fs with
 | nil=>simp
 | cons f fs=>
  rw[List.flatMap_cons];unfold vF;rw[List.cons_append,List.takeWhile_cons_of_neg σ];simp
theorem LG {r r':Nat} {fs QE:List eu} (h:eU r fs=eU r' QE):r = r':=by
 have h1:=OH r fs;rw[h,OH r' QE] at h1;exact (J6 h1).symm
def oO:List (List UInt8×Nat)→List UInt8→Option Nat
 | [],_=>none
 | x ::r,s=>match oO r s with
  | some d=>some d
  | none=>if x.1=s then some x.2 else none
theorem KI (x:List UInt8×Nat) (r:List (List UInt8×Nat)) (s:List UInt8):oO (x ::r) s = match oO r s with
 | some d=>some d
 | none=>if x.1=s then some x.2 else none:=rfl
def qZ (l:List (List UInt8×Nat)):List (List UInt8×Lit):=l.map fun x=>(x.1,.int .i64 (x.2:Int))
theorem OW (s:List UInt8):∀l:List (List UInt8×Nat),tV (qZ l) s = (oO l s).map fun k=> .int .i64 (k:Int)
 | []=>rfl
 | x ::r=>by
  show tV ((x.1,.int .i64 (x.2:Int))::qZ r) s = _
  rw[GI,OW s r,KI];cases oO r s with
  | some d=>rfl
  | none=>by_cases h:x.1=s <;> simp[h]
theorem NR {s:List UInt8} {k:Nat}:∀{l:List (List UInt8×Nat)},oO l s = some k→(s,k)∈l
 | [],h=>by cases h
 | x ::r,h=>by
  unfold oO at h;cases hr:oO r s with
  | some d=>rw[hr] at h;injection h with h;subst h;exact List.mem_cons_of_mem _ (NR hr)
  | none=>
   rw[hr] at h;simp only at h;split at h
   ·rename_i he;injection h with h;subst h;rw[←he];exact List.mem_cons_self
   ·cases h
theorem Zl (l:List (List UInt8×Nat)) (x:List UInt8×Nat):qZ (l ++[x])=qZ l ++[(x.1,.int .i64 (x.2:Int))]:=by simp[qZ]
structure Qq where
 aX:List (List oh)
 place:List (List UInt8×Nat)
def yK (rec:List UInt8) (r:Nat) (iM:List eu):Nat:=iG (P6 (fE rec r iM)) 8
def pX (aX:List (List oh)) (r k id:Nat):List (List oh):=match aX[r]? with
 | some gs=>match gs[k]? with
  | some g=>aX.set r (gs.set k {g with ids:=iU g.ids id})
  | none=>aX
 | none=>aX
def stepG (rec:List UInt8) (id:Nat) (fs:List eu) (names:Nat→List (List UInt8)) (st:Qq) (r:Nat):Qq:=
 match oO st.place (eU r (dV fs (names r))) with
 | some k=>{st with aX:=pX st.aX r k id}
 | none=>match st.aX[r]? with
  | some gs=>{aX:=pX (st.aX.set r (gs++[⟨r,dV fs (names r),yK rec r (dV fs (names r)),[]⟩])) r gs.length id,place:=st.place++[(eU r (dV fs (names r)),gs.length)]}
  | none=>st
structure yw (n j:Nat) (st:Qq):Prop where
 len:st.aX.length=n
 pl:∀s k,(s,k)∈st.place→∀(r:Nat) (fs:List eu) (gs:List oh),eU r fs=s→st.aX[r]? = some gs→k<gs.length
 srt:∀(r:Nat) (gs:List oh) (k:Nat) (g:oh),st.aX[r]? = some gs→gs[k]? = some g→xC g.ids
 mr:∀(r:Nat) (gs:List oh),st.aX[r]? = some gs→gs.length≤j
 mi:∀(r:Nat) (gs:List oh) (k:Nat) (g:oh),st.aX[r]? = some gs→gs[k]? = some g→g.ids.length≤j
 mp:st.place.length≤j
theorem yw.start (n:Nat):yw n 0 ⟨List.replicate n [],[]⟩ where
 len:=by simp
 pl:=fun s k h=>by cases h
 srt:=fun r gs k g h1 h2=>by
  have:=List.mem_of_getElem? h1;simp at this;rw[this.2] at h2;simp at h2
 mr:=fun r gs h1=>by
  have:=List.mem_of_getElem? h1;simp at this;rw[this.2];simp
 mi:=fun r gs k g h1 h2=>by
  have:=List.mem_of_getElem? h1;simp at this;rw[this.2] at h2;simp at h2
 mp:=by simp
theorem yw.mono {n j j':Nat} {st:Qq} (h:yw n j st) (hj:j≤j'):yw n j' st:=
 ⟨h.len,h.pl,h.srt,fun r gs h1=>Nat.le_trans (h.mr r gs h1) hj,fun r gs k g h1 h2=>Nat.le_trans (h.mi r gs k g h1 h2) hj,Nat.le_trans h.mp hj⟩
theorem yw.bump {n j:Nat} {aX:List (List oh)} {place:List (List UInt8×Nat)} (h:yw n j ⟨aX,place⟩) {r k id:Nat} {gs:List oh} {g:oh} (oQ:aX[r]? = some gs) (hg:gs[k]? = some g) :
 yw n (j + 1) ⟨aX.set r (gs.set k {g with ids:=iU g.ids id}),place⟩:=by
 have hr:r < aX.length:=(List.getElem?_eq_some_iff.1 oQ).1;have hk:k<gs.length:=(List.getElem?_eq_some_iff.1 hg).1;have room:∀(s:Nat) (hs:List oh),(aX.set r (gs.set k {g with ids:=iU g.ids id}))[s]? = some hs→∃hs',aX[s]? = some hs'∧hs.length=hs'.length∧∀(i:Nat) (y:oh),hs[i]? = some y→∃y',hs'[i]? = some y'∧(y.ids=y'.ids∨y.ids=iU y'.ids id):=fun s hs h1=>by
  by_cases pR:r = s
  ·subst pR;rw[List.getElem?_set_self hr] at h1;injection h1 with h1;subst h1
   refine⟨gs,oQ,by simp,fun i y hy=> ?_⟩;by_cases j_:k=i
   ·subst j_;rw[List.getElem?_set_self hk] at hy;injection hy with hy;subst hy
    exact⟨g,hg,.inr rfl⟩
   ·rw[List.getElem?_set_ne j_] at hy;exact⟨y,hy,.inl rfl⟩
  ·rw[List.getElem?_set_ne pR] at h1;exact⟨hs,h1,rfl,fun i y hy=>⟨y,hy,.inl rfl⟩⟩
 refine⟨by simpa using h.len,fun s q hm r' fs gs' hw hr'=> ?_,fun s hs i y h1 h2=> ?_,fun s hs h1=> ?_,fun s hs i y h1 h2=> ?_,Nat.le_trans h.mp ω⟩
 ·obtain⟨hs',o1,o2,_⟩:=room r' gs' hr';rw[o2];exact h.pl s q hm r' fs hs' hw o1
 ·obtain⟨hs',o1,o2,o3⟩:=room s hs h1;obtain⟨y',o4,o5⟩:=o3 i y h2;have:=h.srt s hs' i y' o1 o4;rcases o5 with o5 | o5
  ·rw[o5];exact this
  ·rw[o5];exact this.add
 ·obtain⟨hs',o1,o2,_⟩:=room s hs h1;have:=h.mr s hs' o1;omega
 ·obtain⟨hs',o1,o2,o3⟩:=room s hs h1;obtain⟨y',o4,o5⟩:=o3 i y h2;have:=h.mi s hs' i y' o1 o4;rcases o5 with o5 | o5
  ·rw[o5];omega
  ·rw[o5];have:=WC y'.ids id;omega
theorem yw.push {n j:Nat} {aX:List (List oh)} {place:List (List UInt8×Nat)} (h:yw n j ⟨aX,place⟩) {r:Nat} {fs:List eu} {key:Nat} {gs:List oh} (oQ:aX[r]? = some gs) :
 yw n (j + 1) ⟨aX.set r (gs++[⟨r,fs,key,[]⟩]),place++[(eU r fs,gs.length)]⟩:=by
 have hr:r < aX.length:=(List.getElem?_eq_some_iff.1 oQ).1;have room:∀(s:Nat) (hs:List oh),(aX.set r (gs++[⟨r,fs,key,[]⟩]))[s]? = some hs→(s = r∧hs=gs++[⟨r,fs,key,[]⟩])∨(s≠r∧aX[s]? = some hs):=fun s hs h1=>by
  by_cases pR:r = s
  ·subst pR;rw[List.getElem?_set_self hr] at h1;injection h1 with h1
   exact .inl ⟨rfl,h1.symm⟩
  ·rw[List.getElem?_set_ne pR] at h1;exact .inr ⟨Ne.symm pR,h1⟩
 have elt:∀(i:Nat) (y:oh),(gs++[⟨r,fs,key,[]⟩])[i]? = some y→gs[i]? = some y∨y.ids=[]:=fun i y hy=>by
  rw[List.getElem?_append] at hy;split at hy
  ·exact .inl hy
  ·have:=List.mem_of_getElem? hy;simp at this;subst this;exact .inr rfl
 refine⟨by simpa using h.len,fun s q hm r' QE gs' hw hr'=> ?_,fun s hs i y h1 h2=> ?_,fun s hs h1=> ?_,fun s hs i y h1 h2=> ?_,by have:=h.mp;simp at this ⊢;omega⟩
 ·rw[List.mem_append] at hm;rcases hm with hm | hm
  ·rcases room r' gs' hr' with⟨rfl,rfl⟩ | ⟨_,h2⟩
   ·have:=h.pl s q hm r' QE gs hw oQ;simp;omega
   ·exact h.pl s q hm r' QE gs' hw h2
  ·simp only[List.mem_singleton,Prod.mk.injEq] at hm;obtain⟨rfl,rfl⟩:=hm;have:=LG hw;subst this;rcases room r' gs' hr' with⟨_,rfl⟩ | ⟨h2,_⟩
   ·simp
   ·exact absurd rfl h2
 ·rcases room s hs h1 with⟨rfl,rfl⟩ | ⟨_,h3⟩
  ·rcases elt i y h2 with h4 | h4
   ·exact h.srt s gs i y oQ h4
   ·rw[h4];exact List.Pairwise.nil
  ·exact h.srt s hs i y h3 h2
 ·rcases room s hs h1 with⟨rfl,rfl⟩ | ⟨_,h3⟩
  ·have:=h.mr s gs oQ;simp;omega
  ·have:=h.mr s hs h3;omega
 ·rcases room s hs h1 with⟨rfl,rfl⟩ | ⟨_,h3⟩
  ·rcases elt i y h2 with h4 | h4
   ·have:=h.mi s gs i y oQ h4;omega
   ·rw[h4];simp
  ·have:=h.mi s hs i y h3 h2;omega
theorem sJ {aX:List (List oh)} {r k id:Nat} {gs:List oh} {g:oh} (oQ:aX[r]? = some gs) (hg:gs[k]? = some g):pX aX r k id=aX.set r (gs.set k {g with ids:=iU g.ids id}):=by
 unfold pX;rw[oQ];simp only;rw[hg]
theorem yw.step {n j:Nat} {st:Qq} (h:yw n j st) (rec:List UInt8) (id:Nat) (fs:List eu) (names:Nat→List (List UInt8)) (r:Nat):yw n (j + 2) (stepG rec id fs names st r):=by
 unfold stepG;cases hl:oO st.place (eU r (dV fs (names r))) with
 | some k=>
  simp only;cases hr:st.aX[r]? with
  | none=>unfold pX;rw[hr];exact h.mono ω
  | some gs=>
   have hk:=h.pl _ _ (NR hl) r _ gs rfl hr;rw[sJ hr (List.getElem?_eq_getElem hk)];exact (yw.bump (place:=st.place) h hr (List.getElem?_eq_getElem hk)).mono ω
 | none=>
  simp only;cases hr:st.aX[r]? with
  | none=>exact h.mono ω
  | some gs=>
   simp only;have jU:r < st.aX.length:=(List.getElem?_eq_some_iff.1 hr).1;have h1:=yw.push (place:=st.place) h (fs:=dV fs (names r)) (key:=yK rec r (dV fs (names r))) hr;have h2:(st.aX.set r (gs++[⟨r,dV fs (names r),yK rec r (dV fs (names r)),[]⟩]))[r]? = some (gs++[⟨r,dV fs (names r),yK rec r (dV fs (names r)),[]⟩]):=List.getElem?_set_self jU;have h3:(gs++[(⟨r,dV fs (names r),yK rec r (dV fs (names r)),[]⟩:oh)])[gs.length]? = some ⟨r,dV fs (names r),yK rec r (dV fs (names r)),[]⟩:=by simp
   rw[sJ h2 h3];exact yw.bump h1 h2 h3
end Go.Proofs.YteojanlajhebhaaGreatDoor
namespace Go.Proofs.YteojanlajhebhaaGreatDoor
open Go.RowKit
theorem ajL (g:FuncId) (lb:Array Value) (eg:Enters Tryz.prog g) (p:F6→Bool) (A:Option Addr) (m c:Nat) (l:List F6) (w:World) (h:dH w 6 encR A m l) (hm:m≤9223372036854775807) (hp:Ko Tryz.prog g lb ah_ p l w) :
 Calls Tryz.prog 92 #[.slice A m c,.func (.func g) #[] lb] w fun e w'=>e =.returned (.int .i64 (placeOf p l))∧ah w w':=by
 have hlen:=h.1;unfold Enters at eg;obtain⟨R,hR⟩:∃R,R=placeOf p l:=⟨_,rfl⟩;rw[←hR];replace hR:=ζ hR;replace hp:=ζ hp;replace h:=ζ h;go_enter Tryz.func92,Tryz.ntmps92
 go_wp2;go_loopw [5,8] (fun _ i wr=>∃k:Nat,k≤m∧i =.int .i64 k∧Hid (∀j y,j < k→l[j]? = some y→p y = false)∧Hid (ah w wr)) (fun _ i _=>m - (intOf i).toNat)
 case atStart=>exact⟨0,ω,rfl,fun _ _ h=>absurd h ω,ah.refl _⟩
 case round=>
  obtain⟨k,hk,rfl,hall,hg⟩:=hrel;by_cases hlt:k<m
  ·obtain⟨b,off,x,rfl,_,hx,hcell⟩:=(h.o.keep hg.o).at_ hlt;have c0:wr.cell? ⟨b,off+k*6,none⟩=some (.string ⟨x.r.r.toArray⟩):=hcell 0 _ rfl;have c1:wr.cell? ⟨b,off+k*6+1,none⟩=some (.slice x.bA x.bm x.bk):=hcell 1 _ rfl;have c2:wr.cell? ⟨b,off+k*6+2,none⟩=some (.int .i64 x.r.wait):=hcell 2 _ rfl;have c3:wr.cell? ⟨b,off+k*6+3,none⟩=some (.int .i64 x.r.every):=hcell 3 _ rfl;have c4:wr.cell? ⟨b,off+k*6+4,none⟩=some (.int .i64 x.r.again):=hcell 4 _ rfl;have c5:wr.cell? ⟨b,off+k*6+5,none⟩=some (.slice x.wA x.wm x.wk):=hcell 5 _ rfl;have j_:(k:Int)<(m:Int):=ω;have cI:=hp.o x (List.mem_of_getElem? hx) wr hg.o;unfold ah_ at cI;cases hq:p x with
   | false=>
    rw[hq] at cI;replace cI:=ζ cI;have jV:=ζ (show ∀j y,j < k+1→l[j]? = some y→p y = false from fun j y hj hy=>by
     by_cases hjk:j = k
     ·subst hjk;rw[hx] at hy;rw[←Option.some.inj hy];exact hq
     ·exact hall.o j y ω hy)
    clear hcell hq hx hall hR;go_wp2_with fail;refine (cI.out).mono ?_;rintro e w1 ⟨rfl,hb⟩;have hg1:=ζ (hg.o.trans hb);go_wp2;go_roundw
    case rel=>exact⟨k+1,ω,ν,jV,hg1⟩
    case measure=>exact ψ
   | true=>
    rw[hq] at cI;have aQ:Hid (R=(k:Int)):=ζ (by rw[hR.o];exact nZ hx hq hall.o);replace cI:=ζ cI;clear hcell hq hx hall hR;go_wp2_with fail;refine (cI.out).mono ?_;rintro e w1 ⟨rfl,hb⟩;have hg1:=ζ (hg.o.trans hb);go_wp2;go_ret;exact⟨by rw[aQ.o];rfl,hg1.o⟩
  ·obtain rfl:k=m:=ω;have aQ:Hid (R=-1):=ζ (by rw[hR.o];exact lM fun j y hy=>hall.o j y (by have:=(List.getElem?_eq_some_iff.1 hy).1;omega) hy);clear hall hR;go_wp2;go_ret;exact⟨by rw[aQ.o];rfl,hg.o⟩
theorem ak_ (g:FuncId) (lb:Array Value) (eg:Enters Tryz.prog g) (p:F6→Bool) (A:Option Addr) (m c:Nat) (l:List F6) (w:World) (h:dH w 6 encR A m l) (hm:m≤9223372036854775807) (hp:Ko Tryz.prog g lb ah_ p l w) :
 Calls Tryz.prog 55 #[.slice A m c,.func (.func g) #[] lb] w fun e w'=>e =.returned (.bool (l.any p))∧ah w w':=by
 have cI:=ajL (c:=c) g lb eg p A m l w h hm hp;replace cI:=ζ cI;have aQ:=ζ (nG p l);clear h hp;go_enter Tryz.func55,Tryz.ntmps55
 go_wp2_with fail;refine cI.out.mono ?_;rintro e w1 ⟨rfl,hb⟩;go_wp2;go_ret;exact⟨aU aQ.o,hb⟩
theorem ajP (g:FuncId) (lb:Array Value) (eg:Enters Tryz.prog g) (p:JO→Bool) (A:Option Addr) (m c:Nat) (l:List JO) (w:World) (h:dH w 5 ak6 A m l) (hm:m≤9223372036854775807) (hp:Ko Tryz.prog g lb aia p l w) :
 Calls Tryz.prog 93 #[.slice A m c,.func (.func g) #[] lb] w fun e w'=>e =.returned (.int .i64 (placeOf p l))∧ah w w':=by
 have hlen:=h.1;unfold Enters at eg;obtain⟨R,hR⟩:∃R,R=placeOf p l:=⟨_,rfl⟩;rw[←hR];replace hR:=ζ hR;replace hp:=ζ hp;replace h:=ζ h;go_enter Tryz.func93,Tryz.ntmps93
 go_wp2;go_loopw [5,8] (fun _ i wr=>∃k:Nat,k≤m∧i =.int .i64 k∧Hid (∀j y,j < k→l[j]? = some y→p y = false)∧Hid (ah w wr)) (fun _ i _=>m - (intOf i).toNat)
 case atStart=>exact⟨0,ω,rfl,fun _ _ h=>absurd h ω,ah.refl _⟩
 case round=>
  obtain⟨k,hk,rfl,hall,hg⟩:=hrel;by_cases hlt:k<m
  ·obtain⟨b,off,x,rfl,_,hx,hcell⟩:=(h.o.keep hg.o).at_ hlt;have c0:wr.cell? ⟨b,off+k*5,none⟩=some (.slice x.bA x.bm x.bk):=hcell 0 _ rfl;have c1:wr.cell? ⟨b,off+k*5+1,none⟩=some (.int .i64 x.i.l.lv):=hcell 1 _ rfl;have c2:wr.cell? ⟨b,off+k*5+2,none⟩=some (.int .u32 (x.i.l.c:Int)):=hcell 2 _ rfl;have c3:wr.cell? ⟨b,off+k*5+3,none⟩=some (.slice x.fA x.fm x.fk):=hcell 3 _ rfl;have c4:wr.cell? ⟨b,off+k*5+4,none⟩=some (.slice x.wA x.wm x.wk):=hcell 4 _ rfl;have j_:(k:Int)<(m:Int):=ω;have cI:=hp.o x (List.mem_of_getElem? hx) wr hg.o;unfold aia at cI;cases hq:p x with
   | false=>
    rw[hq] at cI;replace cI:=ζ cI;have jV:=ζ (show ∀j y,j < k+1→l[j]? = some y→p y = false from fun j y hj hy=>by
     by_cases hjk:j = k
     ·subst hjk;rw[hx] at hy;rw[←Option.some.inj hy];exact hq
     ·exact hall.o j y ω hy)
    clear hcell hq hx hall hR;go_wp2_with fail;refine (cI.out).mono ?_;rintro e w1 ⟨rfl,hb⟩;have hg1:=ζ (hg.o.trans hb);go_wp2;go_roundw
    case rel=>exact⟨k+1,ω,ν,jV,hg1⟩
    case measure=>exact ψ
   | true=>
    rw[hq] at cI;have aQ:Hid (R=(k:Int)):=ζ (by rw[hR.o];exact nZ hx hq hall.o);replace cI:=ζ cI;clear hcell hq hx hall hR;go_wp2_with fail;refine (cI.out).mono ?_;rintro e w1 ⟨rfl,hb⟩;have hg1:=ζ (hg.o.trans hb);go_wp2;go_ret;exact⟨by rw[aQ.o];rfl,hg1.o⟩
  ·obtain rfl:k=m:=ω;have aQ:Hid (R=-1):=ζ (by rw[hR.o];exact lM fun j y hy=>hall.o j y (by have:=(List.getElem?_eq_some_iff.1 hy).1;omega) hy);clear hall hR;go_wp2;go_ret;exact⟨by rw[aQ.o];rfl,hg.o⟩
theorem alb (g:FuncId) (lb:Array Value) (eg:Enters Tryz.prog g) (p:JO→Bool) (A:Option Addr) (m c:Nat) (l:List JO) (w:World) (h:dH w 5 ak6 A m l) (hm:m≤9223372036854775807) (hp:Ko Tryz.prog g lb aia p l w) :
 Calls Tryz.prog 56 #[.slice A m c,.func (.func g) #[] lb] w fun e w'=>e =.returned (.bool (l.any p))∧ah w w':=by
 have cI:=ajP (c:=c) g lb eg p A m l w h hm hp;replace cI:=ζ cI;have aQ:=ζ (nG p l);clear h hp;go_enter Tryz.func56,Tryz.ntmps56
 go_wp2_with fail;refine cI.out.mono ?_;rintro e w1 ⟨rfl,hb⟩;go_wp2;go_ret;exact⟨aU aQ.o,hb⟩
end Go.Proofs.YteojanlajhebhaaGreatDoor
namespace Go.Proofs.YteojanlajhebhaaGreatDoor
open Go.RowKit Go.PlainAid Go.Maps
theorem aaj {s:ByteArray} {i:Nat} (h:128≤(s.get! i).toNat):1≤(Utf8.decode s i).2∧∀j,j < (Utf8.decode s i).2→128≤(s.get! (i + j)).toNat:=by
 have h0:∀j,j < 1→128≤(s.get! (i + j)).toNat:=fun j hj=>by
  obtain rfl:j = 0:=ω;exact h
 unfold Utf8.decode;have h':¬(s.get! i).toNat<128:=ω;simp only[Nat.add_zero,h',if_false];split
 ·rename_i hc;simp only[Bool.and_eq_true,decide_eq_true_eq,beq_iff_eq] at hc;split
  ·refine⟨by simp,fun j hj=> ?_⟩;simp only at hj;match j,hj with
   | 0,_=>exact h
   | 1,_=>omega
  ·exact⟨by simp,h0⟩
 ·split
  ·rename_i hc;simp only[Bool.and_eq_true,decide_eq_true_eq,beq_iff_eq] at hc;split
   ·refine⟨by simp,fun j hj=> ?_⟩;simp only at hj;match j,hj with
    | 0,_=>exact h
    | 1,_=>omega
    | 2,_=>omega
   ·exact⟨by simp,h0⟩
  ·split
   ·rename_i hc;simp only[Bool.and_eq_true,decide_eq_true_eq,beq_iff_eq] at hc;split
    ·refine⟨by simp,fun j hj=> ?_⟩;simp only at hj;match j,hj with
     | 0,_=>exact h
     | 1,_=>omega
     | 2,_=>omega
     | 3,_=>omega
    ·exact⟨by simp,h0⟩
   ·exact⟨by simp,h0⟩
theorem J9 {α:Type} {q:α→Bool} {l:List α}:∀(d pos:Nat),(∀j x,j < d→l[pos+j]? = some x→q x = false)→(l.drop pos).any q=(l.drop (pos+d)).any q
 | 0,_,_=>rfl
 | d + 1,pos,h=>by
  rw[show pos+(d + 1)=pos+1+d by omega,←J9 d (pos+1) (fun j x hj hx=>h (j + 1) x ω (by rw[←hx];congr 1;omega))];by_cases hp:pos<l.length
  ·rw[List.drop_eq_getElem_cons hp,List.any_cons,h 0 l[pos] ω (by simp[hp]),Bool.false_or]
  ·rw[List.drop_of_length_le ω,List.drop_of_length_le ω]
theorem Pm {s:ByteArray} {i:Nat} {x:UInt8} (h:s.data.toList[i]? = some x):s.get! i = x:=by
 obtain⟨hi,rfl⟩:=List.getElem?_eq_some_iff.1 h;rw[Array.getElem_toList];show s.data[i]! = _
 exact getElem!_pos s.data i (by simpa using hi)
theorem ZM {p:Nat→Bool} {q:UInt8→Bool} (h1:∀b:UInt8,b.toNat<128→p b.toNat=q b) (h2:∀r,128≤r→p r = false) (h3:∀b:UInt8,128≤b.toNat→q b = false) (s:ByteArray) :
 ∀(f pos:Nat),s.size≤pos+f→decide (0≤Lib.idxFuncFrom p true s f pos)=(s.data.toList.drop pos).any q:=by
 intro f;induction f with
 | zero=>
  intro pos hf;rw[List.drop_of_length_le (by rw[Array.length_toList];exact hf)];rfl
 | succ f ih=>
  intro pos hf;unfold Lib.idxFuncFrom;by_cases hp:pos<s.size
  ·rw[if_pos hp];have hl:pos<s.data.toList.length:=by rw[Array.length_toList];exact hp
   have hg:s.get! pos=s.data.toList[pos]:=Pm (List.getElem?_eq_getElem hl);by_cases hb:(s.get! pos).toNat<128
   ·rw[List.drop_eq_getElem_cons hl,List.any_cons];rw[TD rfl hb,h1 _ hb,hg];cases hq:q s.data.toList[pos]
    ·simp only[Bool.false_eq_true,if_false,Bool.false_or];exact ih (pos+1) ω
    ·simp
   ·have akQ:128≤(s.get! pos).toNat:=ω;obtain⟨d1,d2⟩:=aaj akQ;rw[h2 _ (decode_high rfl akQ),J9 (Utf8.decode s pos).2 pos (fun j x hj hx=>h3 x (by rw[←Pm hx];exact d2 j hj))];simp only[Bool.false_eq_true,if_false];exact ih _ ω
  ·rw[if_neg hp,List.drop_of_length_le (by rw[Array.length_toList];show s.size≤pos;omega)];rfl
def TF (r:Nat):Bool:=decide (r < 32)
def ano (s:List UInt8):Bool:=s.any fun b=>TF b.toNat
theorem anm (s:List UInt8):decide (0≤Lib.idxFunc TF true ⟨s.toArray⟩)=ano s:=by
 have:=ZM (p:=TF) (q:=fun b=>TF b.toNat) (fun _ _=>rfl) (fun r h=>by unfold TF;simp;omega) (fun b h=>by unfold TF;simp;omega) ⟨s.toArray⟩ s.length 0 (by show s.toArray.size≤_;simp);have hs:(⟨s.toArray⟩:ByteArray).size=s.length:=by show s.toArray.size=_;simp
 unfold Lib.idxFunc;rw[hs,this];simp[ano]
theorem ak9 (w:World):PredAt Tryz.prog 89 #[] Go.Proofs.encR TF w:=fun W r _=>by
 unfold FnGives;obtain⟨R,hR⟩:∃R,R=TF r:=⟨_,rfl⟩;rw[←hR];unfold TF at hR;by_cases h:r < 32
 ·have h':(r:Int)<32:=ω;go_enter Tryz.func89,Tryz.ntmps89
  go_wp2;go_ret;exact⟨by first | rfl | (rw[hR];simp[h]),0,rfl⟩
 ·have h':¬(r:Int)<32:=ω;go_enter Tryz.func89,Tryz.ntmps89
  go_wp2;go_ret;exact⟨by first | rfl | (rw[hR];simp;omega),0,rfl⟩
def P9 (fb:jq→Bool) (x:jq):Bool:= !fb x ||ano x.v
theorem ajs {fb:jq→Bool} {x:jq} (h:Bf fb x) (w:World) :
 Calls Tryz.prog 86 #[Fa x] w fun e w'=>e =.returned (.bool (P9 fb x))∧ah w w':=by
 have cC:=fun W=>Any.strings_ContainsFunc Tryz.ZG 89 #[] (enters_of Tryz.func89 κ rfl) TF ⟨x.v.toArray⟩ W (ak9 W)
 have Yz:=anm x.v;unfold Bf at h;obtain⟨R,hR⟩:∃R,R=P9 fb x:=⟨_,rfl⟩;rw[←hR];unfold P9 at hR;change ∀W,Calls Tryz.prog 88 _ W _ at cC
 generalize decide (0≤Lib.idxFunc TF true ⟨x.v.toArray⟩)=D at *
 subst Yz;unfold Fa at h ⊢;generalize fb x = B at *
 generalize ano x.v = D at *
 replace cC:=ζ cC;replace h:=ζ h;cases B
 ·replace hR:R=true:=by rw[hR];rfl
  subst hR;clear cC;go_enter Tryz.func86,Tryz.ntmps86
  go_wp2_with fail;refine (h.o _).mono ?_;rintro e w1 ⟨rfl,hb⟩;go_wp2;go_ret;exact⟨rfl,by
   exact γ
  ⟩
 ·replace hR:R=D:=by rw[hR];rfl
  subst hR;go_enter Tryz.func86,Tryz.ntmps86
  go_wp2_with fail;refine (h.o _).mono ?_;rintro e w1 ⟨rfl,hb⟩;have ba:=(aS.new w 118 #[.string ⟨x.n.toArray⟩,.int .i64 x.op,.string ⟨x.v.toArray⟩]).grows hb;have d2:_ = some (Value.string ⟨x.v.toArray⟩):=ba.cell 2;have sa:=ba.lt;clear ba h;go_wp2_with fail;refine (cC.out _).mono ?_;rintro e w2 ⟨rfl,hb2⟩;have hg2:ah w w2:=(((ah.refl w).alloc _).trans hb).trans hb2;go_wp2;go_ret;exact⟨rfl,by
   exact γ
  ⟩
def uw (fb:jq→Bool) (l:List jq):Bool:=decide (l.length≤12)&& !(l.any (P9 fb))
theorem QU {fb:jq→Bool} {A:Option Addr} {m c:Nat} {l:List jq} (w:World) (hA:dH w 3 Tz A m l) (hm:m≤9223372036854775807) (h:∀x∈l,Bf fb x) :
 Calls Tryz.prog 51 #[.slice A m c] w fun e w'=>e =.returned (.bool (uw fb l))∧ah w w':=by
 have cC:=aal (c:=c) 86 #[] (enters_of Tryz.func86 κ rfl) (P9 fb) A m l w hA hm (fun x hx W _=>ajs (h x hx) W);have qA:=hA.1;obtain⟨R,hR⟩:∃R,R=uw fb l:=⟨_,rfl⟩;rw[←hR];unfold uw at hR;rw[qA] at hR;generalize l.any (P9 fb)=D at *
 replace cC:=ζ cC;clear hA h qA;by_cases J3:m≤12
 ·rw[decide_eq_true J3,Bool.true_and] at hR;have awJ:(m:Int)≤12:=ω;subst hR;go_enter Tryz.func51,Tryz.ntmps51
  go_wp2_with fail;refine (cC.out).mono ?_;rintro e w1 ⟨rfl,hb⟩;go_wp2;go_ret;exact⟨rfl,hb⟩
 ·rw[decide_eq_false J3,Bool.false_and] at hR;have awJ:¬(m:Int)≤12:=ω;subst hR;clear cC;go_enter Tryz.func51,Tryz.ntmps51
  go_wp2;go_ret;exact⟨rfl,ah.refl _⟩
theorem anr {x:jl} (w:World) (hx:x.At w) :
 Calls Tryz.prog 46 #[x.val] w fun e w'=>e =.returned (.bool (!ku x.l))∧ah w w':=by
 have cN:=agi w hx;generalize ku x.l = B at *
 unfold jl.val at *
 replace cN:=ζ cN;clear hx;go_enter Tryz.func46,Tryz.ntmps46
 go_wp2_with fail;refine (cN.out).mono ?_;rintro e w1 ⟨rfl,hb⟩;go_wp2;go_ret;exact⟨aU rfl,hb⟩
def Af (r:Rte):Bool:=(decide (0≤r.wait)&&decide (r.wait≤1000))&&((decide (1≤r.every)&&decide (r.every≤1000))&&(decide (r.every≤r.again)&&decide (r.again≤100000)))
def jL (rs:List Hl) (fb:jq→Bool) (r:Rte):Bool:=(gG rs r.r).isNone||(!XT r.iM||(!Af r || !uw fb r.wh))
theorem anq {fb:jq→Bool} {rs:jl} {x:F6} {gp:Nat} (w:World) (hx:x.At w) (hr:rs.At w) (hp:w.cell? ⟨gp,1,none⟩=some rs.val) (Dq:∀y∈x.r.wh,Bf fb y) :
 Calls Tryz.prog 48 #[ah_ x,.pointer (some ⟨gp,0,none⟩)] w fun e w'=>e =.returned (.bool (jL rs.l fb x.r))∧ah w w':=by
 have cF:=fun W (hW:ah w W)=>Tv (c:=rs.k) (n:=x.r.r) W (hr.arr.keep hW) hr.le
 have c1:=fun W=>Jf x.r.wait 0 1000 W
 have c2:=fun W=>Jf x.r.every 1 1000 W
 have c3:=fun W=>Jf x.r.again x.r.every 100000 W
 have cB:=fun W (hW:ah w W)=>alh (c:=x.bk) W (hx.iM.keep hW) hx.Ve hx.TG
 have cW:=fun W (hW:ah w W)=>QU (c:=x.wk) W (hx.wh.keep hW) hx.WQ Dq
 have gpl:=World.block_lt_of_cell? w _ hp;simp only at gpl;obtain⟨R,hR⟩:∃R,R=jL rs.l fb x.r:=⟨_,rfl⟩;rw[←hR];unfold jL Af at hR;have hls:(gG rs.l x.r.r).isNone= !(gG rs.l x.r.r).isSome:=by cases gG rs.l x.r.r <;> rfl
 rw[hls] at hR;unfold jl.val at hp;generalize AA (gG rs.l x.r.r)=FL at *
 generalize (gG rs.l x.r.r).isSome=F at *
 generalize (decide (0≤x.r.wait)&&decide (x.r.wait≤1000))=B1 at *
 generalize (decide (1≤x.r.every)&&decide (x.r.every≤1000))=B2 at *
 generalize (decide (x.r.every≤x.r.again)&&decide (x.r.again≤100000))=B3 at *
 generalize XT x.r.iM=BY at *
 generalize uw fb x.r.wh=WH at *
 unfold ah_;clear hls hx hr Dq;replace cF:=ζ cF;replace c1:=ζ c1;replace c2:=ζ c2;replace c3:=ζ c3;replace cB:=ζ cB;replace cW:=ζ cW;replace hR:=ζ hR;go_enter Tryz.func48,Tryz.ntmps48
 go_wp2_with fail;refine (cF.out _ γ).mono ?_;rintro e w1 ⟨rfl,hb1⟩;have bx:=ζ (((aS.new w 61 #[.string ⟨x.r.r.toArray⟩,.slice x.bA x.bm x.bk,.int .i64 x.r.wait,.int .i64 x.r.every,.int .i64 x.r.again,.slice x.wA x.wm x.wk]).grows hb1).alloc (.cells #[.int .i64 FL.lv,.int .u32 (FL.c:Int)] 40));have hG:Hid (ah w (w1.alloc (.cells #[.int .i64 FL.lv,.int .u32 (FL.c:Int)] 40))):=ζ ((((ah.refl w).alloc _).trans hb1).alloc _);have e0:=((aS.new w 61 #[.string ⟨x.r.r.toArray⟩,.slice x.bA x.bm x.bk,.int .i64 x.r.wait,.int .i64 x.r.every,.int .i64 x.r.again,.slice x.wA x.wm x.wk]).grows hb1).cell 2;have ez:=hb1.lt;clear cF hb1 hp;go_wp2_with fail;refine (c1.out _).mono ?_;rintro e w2 ⟨rfl,hb2⟩;clear e0 ez;have q0:=0;have q1:=0;have q2:=0;have q3:=0;have q4:=0;have q5:=0;have qz:=0;replace bx:=ζ (bx.out.grows hb2);replace hG:=ζ (hG.o.trans hb2);clear hb2 q0 q1 q2 q3 q4 q5 qz;have q0:=bx.out.c0;have q1:=bx.out.c1;have q2:=bx.out.c2;have q3:=bx.out.c3;have q4:=bx.out.c4;have q5:=bx.out.c5;have qz:=bx.out.lt;cases B1
 ·have aQ:Hid (R=true):=ζ (by rw[hR.o];simp);clear c1 c2 c3 hR cW;cases F
  ·go_wp2;go_ret;exact⟨aU aQ.o.symm,hG.o⟩
  ·go_wp2_with fail;refine (cB.out _ hG.o).mono ?_;rintro e w5 ⟨rfl,GV⟩;replace bx:=ζ (bx.out.grows GV);replace hG:=ζ (hG.o.trans GV);clear GV q0 q1 q2 q3 q4 q5 qz;have q0:=bx.out.c0;have q1:=bx.out.c1;have q2:=bx.out.c2;have q3:=bx.out.c3;have q4:=bx.out.c4;have q5:=bx.out.c5;have qz:=bx.out.lt;cases BY
   ·go_wp2;go_ret;exact⟨aU aQ.o.symm,hG.o⟩
   ·go_wp2;go_ret;exact⟨aU aQ.o.symm,hG.o⟩
 ·go_wp2_with fail;refine (c2.out _).mono ?_;rintro e w3 ⟨rfl,hb3⟩;replace bx:=ζ (bx.out.grows hb3);replace hG:=ζ (hG.o.trans hb3);clear hb3 q0 q1 q2 q3 q4 q5 qz;have q0:=bx.out.c0;have q1:=bx.out.c1;have q2:=bx.out.c2;have q3:=bx.out.c3;have q4:=bx.out.c4;have q5:=bx.out.c5;have qz:=bx.out.lt;cases B2
  ·have aQ:Hid (R=true):=ζ (by rw[hR.o];simp);clear c1 c2 c3 hR cW;cases F
   ·go_wp2;go_ret;exact⟨aU aQ.o.symm,hG.o⟩
   ·go_wp2_with fail;refine (cB.out _ hG.o).mono ?_;rintro e w5 ⟨rfl,GV⟩;replace bx:=ζ (bx.out.grows GV);replace hG:=ζ (hG.o.trans GV);clear GV q0 q1 q2 q3 q4 q5 qz;have q0:=bx.out.c0;have q1:=bx.out.c1;have q2:=bx.out.c2;have q3:=bx.out.c3;have q4:=bx.out.c4;have q5:=bx.out.c5;have qz:=bx.out.lt;cases BY
    ·go_wp2;go_ret;exact⟨aU aQ.o.symm,hG.o⟩
    ·go_wp2;go_ret;exact⟨aU aQ.o.symm,hG.o⟩
  ·go_wp2_with fail;refine (c3.out _).mono ?_;rintro e w4 ⟨rfl,hb4⟩;replace bx:=ζ (bx.out.grows hb4);replace hG:=ζ (hG.o.trans hb4);clear hb4 q0 q1 q2 q3 q4 q5 qz;have q0:=bx.out.c0;have q1:=bx.out.c1;have q2:=bx.out.c2;have q3:=bx.out.c3;have q4:=bx.out.c4;have q5:=bx.out.c5;have qz:=bx.out.lt;clear c1 c2 c3;cases F
   ·have aQ:Hid (R=true):=ζ (by rw[hR.o];simp);clear hR cW;cases B3
    ·go_wp2;go_ret;exact⟨aU aQ.o.symm,hG.o⟩
    ·go_wp2;go_ret;exact⟨aU aQ.o.symm,hG.o⟩
   ·go_wp2_with fail;refine (cB.out _ hG.o).mono ?_;rintro e w5 ⟨rfl,GV⟩;replace bx:=ζ (bx.out.grows GV);replace hG:=ζ (hG.o.trans GV);clear GV q0 q1 q2 q3 q4 q5 qz;have q0:=bx.out.c0;have q1:=bx.out.c1;have q2:=bx.out.c2;have q3:=bx.out.c3;have q4:=bx.out.c4;have q5:=bx.out.c5;have qz:=bx.out.lt;cases BY
    ·have aQ:Hid (R=true):=ζ (by rw[hR.o];simp);clear hR cW;cases B3
     ·go_wp2;go_ret;exact⟨aU aQ.o.symm,hG.o⟩
     ·go_wp2;go_ret;exact⟨aU aQ.o.symm,hG.o⟩
    ·cases B3
     ·have aQ:Hid (R=true):=ζ (by rw[hR.o];simp);clear hR cW;go_wp2;go_ret;exact⟨aU aQ.o.symm,hG.o⟩
     ·have aQ:Hid (R= !WH):=ζ (by rw[hR.o];simp);clear hR;go_wp2_with fail;refine (cW.out _ hG.o).mono ?_;rintro e w6 ⟨rfl,hb6⟩;go_wp2;go_ret;exact⟨aU aQ.o.symm,hG.o.trans hb6⟩
def ru (fb:jq→Bool) (i:Inh):Bool:= !XT i.iM||(!dK i.l.lv||(!uw fb i.from_|| !uw fb i.wh))
theorem anp {fb:jq→Bool} {x:JO} (w:World) (hx:x.At w) (hf1:∀y∈x.i.from_,Bf fb y) (hf2:∀y∈x.i.wh,Bf fb y) :
 Calls Tryz.prog 52 #[aia x] w fun e w'=>e =.returned (.bool (ru fb x.i))∧ah w w':=by
 have cB:=fun W (hW:ah w W)=>alh (c:=x.bk) W (hx.iM.keep hW) hx.Ve hx.TG
 have cL:=fun W=>sV x.i.l W
 have cV:=fun W (hW:ah w W)=>QU (c:=x.fk) W (hx.fr.keep hW) hx.apP hf1
 have cW:=fun W (hW:ah w W)=>QU (c:=x.wk) W (hx.wh.keep hW) hx.WQ hf2
 obtain⟨R,hR⟩:∃R,R=ru fb x.i:=⟨_,rfl⟩;rw[←hR];unfold ru at hR;generalize XT x.i.iM=BY at *
 generalize dK x.i.l.lv=BL at *
 generalize uw fb x.i.from_=BV at *
 generalize uw fb x.i.wh=BW at *
 unfold aia;clear hx hf1 hf2;replace cB:=ζ cB;replace cL:=ζ cL;replace cV:=ζ cV;replace cW:=ζ cW;replace hR:=ζ hR;go_enter Tryz.func52,Tryz.ntmps52
 go_wp2_with fail;refine (cB.out _ γ).mono ?_;rintro e w1 ⟨rfl,hb1⟩;have bx:=ζ ((aS.new w 106 #[.slice x.bA x.bm x.bk,.int .i64 x.i.l.lv,.int .u32 (x.i.l.c:Int),.slice x.fA x.fm x.fk,.slice x.wA x.wm x.wk]).grows hb1);have hG:Hid (ah w w1):=ζ (((ah.refl w).alloc _).trans hb1);clear cB hb1;have q0:=bx.out.c0;have q1:=bx.out.c1;have q2:=bx.out.c2;have q3:=bx.out.c3;have q4:=bx.out.c4;have qz:=bx.out.lt;cases BY
 ·have aQ:Hid (R=true):=ζ (by rw[hR.o];simp);clear hR cL cV cW;go_wp2;go_ret;exact⟨aU aQ.o.symm,hG.o⟩
 ·go_wp2_with fail;refine (cL.out _).mono ?_;rintro e w2 ⟨rfl,hb2⟩;replace bx:=ζ (bx.out.grows hb2);replace hG:=ζ (hG.o.trans hb2);clear hb2 q0 q1 q2 q3 q4 qz;have q0:=bx.out.c0;have q1:=bx.out.c1;have q2:=bx.out.c2;have q3:=bx.out.c3;have q4:=bx.out.c4;have qz:=bx.out.lt;clear cL;cases BL
  ·have aQ:Hid (R=true):=ζ (by rw[hR.o];simp);clear hR cV cW;go_wp2;go_ret;exact⟨aU aQ.o.symm,hG.o⟩
  ·go_wp2_with fail;refine (cV.out _ hG.o).mono ?_;rintro e w3 ⟨rfl,hb3⟩;replace bx:=ζ (bx.out.grows hb3);replace hG:=ζ (hG.o.trans hb3);clear hb3 q0 q1 q2 q3 q4 qz;have q0:=bx.out.c0;have q1:=bx.out.c1;have q2:=bx.out.c2;have q3:=bx.out.c3;have q4:=bx.out.c4;have qz:=bx.out.lt;clear cV;cases BV
   ·have aQ:Hid (R=true):=ζ (by rw[hR.o];simp);clear hR cW;go_wp2;go_ret;exact⟨aU aQ.o.symm,hG.o⟩
   ·have aQ:Hid (R= !BW):=ζ (by rw[hR.o];simp);clear hR;go_wp2_with fail;refine (cW.out _ hG.o).mono ?_;rintro e w4 ⟨rfl,hb4⟩;go_wp2;go_ret;exact⟨aU aQ.o.symm,hG.o.trans hb4⟩
theorem dH.Gu {α:Type} {w:World} {g:Nat} {t:TypeId} {l:List α} {f:α→Value} (h:aS w g t (l.map f).toArray):dH w 1 (fun x=>[f x]) (some ⟨g,0,none⟩) l.length l:=by
 refine⟨rfl,fun _=>⟨g,0,rfl,h.lt,fun i hi j u hu=> ?_⟩⟩;have hj:j = 0:=by have:=(List.getElem?_eq_some_iff.1 hu).1;simp at this;omega
 subst hj;rw[h.cell];simp only[List.getElem?_cons_zero,Option.some.injEq] at hu;simp[hi,hu]
def Ju (p:HY):List (List Hl):=[p.sources,p.receivers,p.aoG,p.raises]
def OX (p:HY):Bool:=decide (12<max p.routes.length p.IX.length)||(Ju p).any fun l=>decide (12<l.length)
def ahq (fb:jq→Bool) (p:HY):Bool:=(Ju p).any (fun l=> !ku l)||(p.routes.any (jL p.receivers fb)||p.IX.any (ru fb))
def jJ (fb:jq→Bool) (p:HY):Int:=if OX p then 4 else if ahq fb p then 1 else 0
def Hq (fb:jq→Bool) (x:dU):Prop:=(∀r∈x.o,∀y∈r.r.wh,Bf fb y)∧∀i∈x.i,(∀y∈i.i.from_,Bf fb y)∧∀y∈i.i.wh,Bf fb y
def dU.lists (x:dU):List jl:=[x.s,x.r,x.e,x.a]
def IV (x:dU) (k:Nat):Bool:=decide (12<max x.om x.im)||(x.lists.take k).any fun q=>decide (12<q.m)
theorem acW {x:dU} {w:World} (h:x.At w):IV x 4=OX x.dQ:=by
 unfold IV OX;have h1:x.dQ.routes.length=x.om:=by simp[dU.dQ,h.o.1]
 have h2:x.dQ.IX.length=x.im:=by simp[dU.dQ,h.i.1]
 have e1:=h.s.arr.1;have e2:=h.r.arr.1;have e3:=h.e.arr.1;have e4:=h.a.arr.1;rw[h1,h2];simp[dU.lists,Ju,dU.dQ,e1,e2,e3,e4]
theorem ZB {x:dU} {k:Nat} {q:jl} (h:x.lists[k]? = some q):IV x (k+1)=(IV x k||decide (12<q.m)):=by
 unfold IV;rw[List.take_add_one,h,List.any_append];simp[Bool.or_assoc]
theorem ae1 (fb:jq→Bool) (x:dU):ahq fb x.dQ=(x.lists.any (fun q=> !ku q.l)||(x.o.any (fun y=>jL x.r.l fb y.r)||x.i.any (fun y=>ru fb y.i))):=by
 unfold ahq;simp only[dU.dQ,Ju,dU.lists,List.any_map,Function.comp_def];rfl
theorem Wq {fb:jq→Bool} {x:dU} (w:World) (hx:x.At w) (Dq:Hq fb x) :
 Calls Tryz.prog 17 #[x.val] w fun e w'=>e =.returned (.int .i64 (jJ fb x.dQ))∧ah w w':=by
 have cQ:=fun (A:Option Addr) (W:World) (hW:ah w W) (hA:dH W 1 anj A 4 x.lists)=>ala (c:=4) 46 #[] (enters_of Tryz.func46 κ rfl) (fun q=> !ku q.l) A 4 x.lists W hA ω (fun q hq W' XB=>anr W' (by
  have h4:x.s.At W'∧x.r.At W'∧x.e.At W'∧x.a.At W':=⟨hx.s.keep (hW.trans XB),hx.r.keep (hW.trans XB),hx.e.keep (hW.trans XB),hx.a.keep (hW.trans XB)⟩;simp only[dU.lists,List.mem_cons,List.not_mem_nil,or_false] at hq;rcases hq with rfl | rfl | rfl | rfl
  ·exact h4.1
  ·exact h4.2.1
  ·exact h4.2.2.1
  ·exact h4.2.2.2))
 have cO:=fun (W:World) (hW:ah w W) (hp:W.cell? ⟨w.heap.size,1,none⟩=some x.r.val)=>ak_ (c:=x.ok) 48 #[.pointer (some ⟨w.heap.size,0,none⟩)] (enters_of Tryz.func48 κ rfl) (fun y=>jL x.r.l fb y.r) x.oA x.om x.o W (hx.o.keep hW) hx.ole (fun y hy W' XB=>anq W' ((hx.oAt y hy).keep (hW.trans XB)) (hx.r.keep (hW.trans XB)) (XB.cell hp) (Dq.1 y hy))
 have cI:=fun (W:World) (hW:ah w W)=>alb (c:=x.ik) 52 #[] (enters_of Tryz.func52 κ rfl) (fun y=>ru fb y.i) x.iA x.im x.i W (hx.i.keep hW) hx.ile (fun y hy W' XB=>anp W' ((hx.iAt y hy).keep (hW.trans XB)) (Dq.2 y hy).1 (Dq.2 y hy).2)
 have hend:=acW hx;have jV:=fun k q=>ZB (x:=x) (k:=k) (q:=q)
 have lN:=ae1 fb x;obtain⟨R,hR⟩:∃R,R=jJ fb x.dQ:=⟨_,rfl⟩;rw[←hR];unfold jJ at hR;rw[lN,←hend] at hR;have hl0:IV x 0=decide (12<max x.om x.im):=by simp[IV]
 have aj8:x.lists=[x.s,x.r,x.e,x.a]:=rfl;have hl4:x.lists.length=4:=rfl;generalize IV x = LT at *
 generalize x.o.any (fun y=>jL x.r.l fb y.r)=BO at *
 generalize x.i.any (fun y=>ru fb y.i)=BI at *
 generalize x.lists.any (fun q=> !ku q.l)=BQ at *
 generalize hls:x.lists=ls at *
 unfold dU.val;clear hx Dq hend lN hls;obtain⟨⟨sl,sA,sm,sk⟩,⟨rl,rA,rm,rk⟩,⟨el,eA,em,ek⟩,⟨al,aA,am,ak⟩,o,oA,om,ok,i,iA,im,ik⟩:=x;simp only[jl.val] at cQ cO cI hR hl0 aj8 ⊢;replace cQ:=ζ cQ;replace cO:=ζ cO;replace cI:=ζ cI;replace hR:=ζ hR;replace jV:=ζ jV;replace hl4:=ζ hl4;have hmap:ls.map (fun q=>Value.slice q.A q.m q.k)=[.slice sA sm sk,.slice rA rm rk,.slice eA em ek,.slice aA am ak]:=by rw[aj8];rfl
 replace hmap:=ζ hmap;clear aj8;go_enter Tryz.func17,Tryz.ntmps17
 go_wp2_with fail;go_loopw [4,6,29] (fun lg _ i wr=>∃k:Nat,k≤4∧i =.int .i64 k∧lg=.bool (LT k)∧Hid (aS wr w.heap.size 26 #[.slice sA sm sk,.slice rA rm rk,.slice eA em ek,.slice aA am ak,.slice oA om ok,.slice iA im ik])∧Hid (dH wr 1 anj (some ⟨w.heap.size+1,0,none⟩) 4 ls)∧Hid (ah w wr)) (fun _ _ i _=>4-(intOf i).toNat)
 case atStart=>
  refine⟨0,ω,rfl,?_,(aS.new w _ _).alloc _,?_,((ah.refl w).alloc _).alloc _⟩
  ·rw[hl0];congr 1;rw[Bool.eq_iff_iff];simp;omega
  ·have hb:=aS.vO w (.cells #[.slice sA sm sk,.slice rA rm rk,.slice eA em ek,.slice aA am ak,.slice oA om ok,.slice iA im ik] 26) 22 (ls.map (fun q=>Value.slice q.A q.m q.k)).toArray;have:=dH.Gu hb;rw[hl4.o] at this;rw[hmap.o] at this;exact this
 case round=>
  obtain⟨k,hk,rfl,rfl,hP,hL,hG⟩:=hrel;by_cases hk4:k<4
  ·obtain⟨bb,off,q,hbb,JI,hq,hcell⟩:=hL.o.at_ hk4;obtain⟨rfl,rfl⟩:bb=w.heap.size+1∧off=0:=by
    simp only[Option.some.injEq,Addr.mk.injEq,and_true] at hbb;exact⟨hbb.1.symm,hbb.2.symm⟩
   clear hbb;have c0:wr.cell? ⟨w.heap.size+1,k,none⟩=some (.slice q.A q.m q.k):=by simpa using hcell 0 _ rfl
   have hnx:=jV.o k q hq;have j_:(k:Int)<4:=ω;clear hcell;generalize LT k=B at *
   cases B
   ·go_wp2;go_roundw
    case rel=>exact⟨k+1,ω,ν,by rw[hnx];congr 1;rw[Bool.eq_iff_iff];simp;omega,hP,hL,hG⟩
    case measure=>exact ψ
   ·go_wp2;go_roundw
    case rel=>exact⟨k+1,ω,ν,by rw[hnx];rfl,hP,hL,hG⟩
    case measure=>exact ψ
  ·obtain rfl:k=4:=ω;generalize LT 4=B at *
   have bp:=hP;have p0:=bp.out.c0;have p1:=bp.out.c1;have p2:=bp.out.c2;have p3:=bp.out.c3;have p4:=bp.out.c4;have p5:=bp.out.c5;have pz:=bp.out.lt;cases B
   ·have hR':Hid (R=if (BQ||(BO||BI))=true then 1 else 0):=ζ (by rw[hR.o];rfl);clear hR;have cQ':=ζ (cQ.out _ wr hG.o hL.o);clear cQ;go_wp2_with fail;refine (cQ'.out).mono ?_;rintro e w1 ⟨rfl,hb1⟩;replace bp:=ζ (bp.out.grows hb1);replace hG:=ζ (hG.o.trans hb1);clear hb1 cQ' hL hP p0 p1 p2 p3 p4 p5 pz;have p0:=bp.out.c0;have p1:=bp.out.c1;have p2:=bp.out.c2;have p3:=bp.out.c3;have p4:=bp.out.c4;have p5:=bp.out.c5;have pz:=bp.out.lt;cases BQ
    ·go_wp2_with fail;refine (cO.out _ hG.o p1).mono ?_;rintro e w2 ⟨rfl,hb2⟩;replace bp:=ζ (bp.out.grows hb2);replace hG:=ζ (hG.o.trans hb2);clear hb2 cO p0 p1 p2 p3 p4 p5 pz;have p0:=bp.out.c0;have p1:=bp.out.c1;have p2:=bp.out.c2;have p3:=bp.out.c3;have p4:=bp.out.c4;have p5:=bp.out.c5;have pz:=bp.out.lt;cases BO
     ·go_wp2_with fail;refine (cI.out _ hG.o).mono ?_;rintro e w3 ⟨rfl,hb3⟩;replace hG:=ζ (hG.o.trans hb3);clear hb3;cases BI
      ·go_wp2;go_ret;exact⟨by rw[hR'.o];rfl,hG.o⟩
      ·go_wp2;go_ret;exact⟨by rw[hR'.o];rfl,hG.o⟩
     ·go_wp2;go_ret;exact⟨by rw[hR'.o];rfl,hG.o⟩
    ·go_wp2;go_ret;exact⟨by rw[hR'.o];rfl,hG.o⟩
   ·have hR':Hid (R=4):=ζ (by rw[hR.o];rfl);clear hR;go_wp2;go_ret;exact⟨by rw[hR'.o];rfl,hG.o⟩
end Go.Proofs.YteojanlajhebhaaGreatDoor
namespace Go.Proofs.YteojanlajhebhaaGreatDoor
open Go.RowKit Go.Maps
theorem U1 (z:Value) (n:Nat):madeCells #[z] n = (List.replicate n z).toArray:=by
 apply Array.ext
 ·simp[madeCells]
 ·intro i h1 h2;simp[madeCells,Nat.mod_one]
def pW (w:World) (b0 g:Nat):Prop:=b0≤g∧∀cur e fz,w.heap[g]? = some (.cells cur e fz)→e = 53∨e = 50∨e = 45
theorem aS.IW {w w':World} {b0 g:Nat} {t:TypeId} {cs:Array Value} {row:Option Nat} (h:aS w g t cs) (hg:w.grownBy w' row) (hr:∀j,row=some j→pW w b0 j) (h1:t≠53) (h2:t≠50) (h3:t≠45):aS w' g t cs:=
 h.bH hg (fun e=>by
  rcases (hr g e.symm).2 _ _ _ h with h | h | h
  ·exact h1 h
  ·exact h2 h
  ·exact h3 h)
theorem Own.IW {α:Type} {w w':World} {b0 base k:Nat} {t:TypeId} {enc:α→List Value} {v:Value} {xs:List α} {row:Option Nat} (h:Own w base t k enc v xs) (hg:w.grownBy w' row) (hr:∀j,row=some j→pW w b0 j) (h1:t≠53) (h2:t≠50) (h3:t≠45):Own w' base t k enc v xs:=
 h.kept' hg (fun g pU hv=>by
  obtain⟨cur,hc⟩:=fP h hv;rcases (hr g pU).2 _ _ _ hc with h | h | h
  ·exact h1 h
  ·exact h2 h
  ·exact h3 h)
theorem lW.vN {P:Program} {k e:TypeId} {w:World} {b n:Nat} {l:List (List UInt8×Lit)} (h:lW P k e w b n l):∀cur e fz,w.heap[b]?≠some (.cells cur e fz):=by
 obtain⟨es,clock,hb,_⟩:=h;intro cur e fz hc;rw[hb] at hc;cases hc
structure X6 (w0:World) (pc:Array Value) (gc:Nat) (cc:Array Value) (fv:Value) (F:List Nat) (cv:Value) (cf:List eu) (w:World):Prop where
 G:ah w0 w
 B:aS w w0.heap.size 26 pc
 C:aS w gc 42 cc
 F:Own w w0.heap.size 3 1 encI fv F
 f:Own w w0.heap.size 63 2 fU cv cf
section
variable {w0 w w':World} {pc:Array Value} {gc:Nat} {cc:Array Value} {fv:Value} {F:List Nat} {cv:Value} {cf:List eu}
theorem X6.grows (h:X6 w0 pc gc cc fv F cv cf w) (hg:ah w w'):X6 w0 pc gc cc fv F cv cf w':=⟨h.G.trans hg,h.B.grows hg,h.C.grows hg,h.F.grows hg,h.f.grows hg⟩
theorem X6.row (h:X6 w0 pc gc cc fv F cv cf w) {row:Option Nat} (hg:w.grownBy w' row) (hr:∀j,row=some j→pW w w0.heap.size j):X6 w0 pc gc cc fv F cv cf w':=
 ⟨h.G.bH hg (fun j hj=>(hr j hj).1),h.B.IW hg hr δ δ δ,h.C.IW hg hr δ δ δ,h.F.IW hg hr δ δ δ,h.f.IW hg hr δ δ δ⟩
end
theorem pW.sU {α:Type} {w:World} {b0 base k:Nat} {t:TypeId} {enc:α→List Value} {v:Value} {xs:List α} (h:Own w base t k enc v xs) (hb:b0≤base) (ht:t = 53∨t = 50):∀j,v.ownBlock=some j→pW w b0 j:=fun j hj=>by
 refine⟨Nat.le_trans hb (World.ownsRow.lt h j hj).1,fun cur e fz hc=> ?_⟩;obtain⟨cur',hc'⟩:=fP h hj;rw[hc'] at hc;simp only[Option.some.injEq,Obj.cells.injEq] at hc;rw[←hc.2.1];rcases ht with h | h
 ·exact .inl h
 ·exact .inr (.inl h)
theorem pW.of_map {P:Program} {k e:TypeId} {w:World} {b0 b n:Nat} {l:List (List UInt8×Lit)} (h:lW P k e w b n l) (hb:b0≤b):∀j,some b = some j→pW w b0 j:=fun j hj=>by
 injection hj with hj;subst hj
 exact⟨hb,fun cur e fz hc=>absurd hc (h.vN cur e fz)⟩
theorem lW.IW {P:Program} {k e:TypeId} {w w':World} {b n g:Nat} {l:List (List UInt8×Lit)} {cur:Array Value} {t:TypeId} {fz:Nat×Nat} (h:lW P k e w b n l) (hg:w.grownBy w' (some g)) (hc:w.heap[g]? = some (.cells cur t fz)):lW P k e w' b n l:=
 h.kept hg (fun e'=>by injection e' with e';subst e';exact h.vN _ _ _ hc)
theorem lW.ajE {α:Type} {P:Program} {k e t:TypeId} {w w':World} {b n base kk:Nat} {l:List (List UInt8×Lit)} {enc:α→List Value} {v:Value} {xs:List α} (h:lW P k e w b n l) (hO:Own w base t kk enc v xs) (hg:w.grownBy w' v.ownBlock):lW P k e w' b n l:=
 h.kept hg (fun e'=>by obtain⟨cur,hc⟩:=fP hO e'.symm;exact h.vN _ _ _ hc)
theorem iE.start {w:World} {b0 n RB:Nat} (hB:w.heap[RB]? = some (.cells (madeCells #[.slice none 0 0] n) 45 (0,0))):iE w b0 RB (List.replicate n (.slice none 0 0)) (List.replicate n []) where
 row:=by rw[hB,U1]
 len:=by simp
 own:=fun r v gs h1 h2=>by
  have e1:=List.mem_of_getElem? h1;have e2:=List.mem_of_getElem? h2;simp at e1 e2;rw[e1.2,e2.2];exact Own.iH _ _ _ _ _
 apart:=fun r s v u g h1 h2 _ h3 _=>by
  have e1:=List.mem_of_getElem? h1;simp at e1;rw[e1.2] at h3;cases h3
 ids:=fun r gs k x h1 h2=>by
  have e1:=List.mem_of_getElem? h1;simp at e1;rw[e1.2] at h2;simp at h2
 Ql:=fun r gs k x h1 h2=>by
  have e1:=List.mem_of_getElem? h1;simp at e1;rw[e1.2] at h2;simp at h2
 U3:=fun r s k j gs hs x y g h1 h2=>by
  have e1:=List.mem_of_getElem? h1;simp at e1;rw[e1.2] at h2;simp at h2
end Go.Proofs.YteojanlajhebhaaGreatDoor
