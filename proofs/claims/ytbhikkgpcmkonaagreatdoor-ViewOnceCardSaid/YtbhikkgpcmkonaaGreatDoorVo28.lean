/- Parts: LabE VLow RcE VFit LVOnc -/
import Derived.Test.YtbhikkgpcmkonaaGreatDoorVo0
import Derived.Laws.ShiftsVarLaws
import Derived.Test.YtbhikkgpcmkonaaGreatDoorVo9
import Derived.Test.YtbhikkgpcmkonaaGreatDoorVo27
import Derived.Test.YtbhikkgpcmkonaaGreatDoorVo6
import Derived.Test.YtbhikkgpcmkonaaGreatDoorVo8
import Derived.Test.YtbhikkgpcmkonaaGreatDoorVo5
import Derived.Test.YtbhikkgpcmkonaaGreatDoorVo11
import Derived.Test.YtbhikkgpcmkonaaGreatDoorVo13
import Derived.Test.YtbhikkgpcmkonaaGreatDoorVo12
import Derived.Test.YtbhikkgpcmkonaaGreatDoorVo10
import Derived.Test.YtbhikkgpcmkonaaGreatDoorVo26
set_option maxRecDepth 100000
set_option maxHeartbeats 12800000
namespace Go.Proofs.YtbhikkgpcmkonaaGreatDoor
open Go.RowKit
theorem yF {α:Type} (q:α→Bool) (xs:List α) (k:Nat) (x:α) (h:xs[k]? = some x):(xs.take (k+1)).all q=((xs.take k).all q&&q x):=by
 rw[List.take_add_one,h];simp
theorem Dz {α:Type} {q:α→Bool} {xs:List α} {k:Nat} (h:(xs.take k).all q=false):xs.all q=false:=by
 rw[←Bool.not_eq_true,List.all_eq_true] at h ⊢;exact fun hh=>h fun x hx=>hh x ((List.take_sublist k xs).mem hx)
theorem Vy (a b:gy) (w:World) (ha:a.ok) (hb:b.ok) :
 Calls Tryz.prog 22 #[.agg #[.int .i64 a.lv,.int .u32 (a.c:Int)],.agg #[.int .i64 b.lv,.int .u32 (b.c:Int)]] w fun e w'=>e =.returned (.bool (eU a b))∧ah w w':=by
 have cA:=fun W=>yE a W
 have cB:=fun W=>yE b W
 have cTA:=fun W=>IB a W ha
 have cTB:=fun W=>IB b W hb
 have tZ:eU a b = (dA a.lv&&dA b.lv&&decide (a.lv≤b.lv)&&(B_ a.c).all (fun k=>decide (k∈B_ b.c))):=by rw[aaq];rfl
 have hlA:=TG a.c;have hlB:=TG b.c;have cH:=fun A m c j W h h'=>anU A m c (B_ b.c) j W h h' 57 rfl
 generalize eU a b = r at *
 generalize dA a.lv=p at *
 generalize dA b.lv=q at *
 generalize B_ a.c = ta at *
 generalize B_ b.c = tb at *
 replace cA:=ζ cA;replace cB:=ζ cB;replace cTA:=ζ cTA;replace cTB:=ζ cTB;replace cH:=ζ cH;replace tZ:=ζ tZ;clear ha hb;go_enter Tryz.func22,Tryz.ntmps22
 go_wp2_with fail;refine (cTA.out _).mono ?_;rintro e w1 ⟨v,rfl,ho,hb1⟩;obtain⟨A,c,rfl,hc,hcm,an9⟩:=ho.arr Fe;obtain⟨m,hm⟩:∃m,m = ta.length:=⟨_,rfl⟩;rw[←hm] at an9 hc ⊢;rw[←hm] at hlA;replace hm:=ζ hm;replace an9:=ζ an9;have bA:aG w1 w.heap.size 25 #[.int .i64 a.lv,.int .u32 (a.c:Int)]:=((aG.new w _ _).alloc _).grows hb1;have bB:aG w1 (w.heap.size+1) 25 #[.int .i64 b.lv,.int .u32 (b.c:Int)]:=(aG.kV w _ _ _).grows hb1;have hg1:ah w w1:=(((ah.refl w).alloc _).alloc _).trans hb1;clear ho hb1;go_wp2;go_loopw [6] (fun i wr=>∃(k:Nat),k≤m∧i =.int .i64 k∧Hid ((ta.take k).all (fun j=>decide (j∈tb))=true)∧ah w1 wr) (fun i _=>m - (intOf i).toNat)
 case atStart=>exact⟨0,ω,rfl,by simp[Hid],ah.refl _⟩
 case round=>
  obtain⟨k,hk,rfl,kQ,hg⟩:=hrel;have bA2:=bA.grows hg;have bB2:=bB.grows hg;have a0:=bA2.c0;have a1:=bA2.c1;have b0:=bB2.c0;have b1:=bB2.c1;have sA:=bA2.lt;have sB:=bB2.lt;by_cases qC:k<m
  ·obtain⟨bb,off,t,rfl,hbb,hx,hcell⟩:=((an9.o).keep hg).at_ qC;have c0:wr.cell? ⟨bb,off+k,none⟩=some (.int .i64 t):=by simpa using hcell 0 _ rfl
   have hs:=yF (fun j=>decide (j∈tb)) ta k t hx;rw[kQ.o,Bool.true_and] at hs;have cHt:=fun A m c W h h'=>cH.out A m c t W h h'
   cases hq:decide (t∈tb)
   ·rw[hq] at hs;have aN:r = false:=by rw[tZ.o,Dz hs,Bool.and_false]
    simp only[hq] at cHt;replace cHt:=ζ cHt;replace aN:=ζ aN;clear hs hq hx hcell kQ;go_wp2_with fail;refine b_ [(0,true),(2,true),(3,true),(4,true),(5,true),(1,false),(6,false),(7,true)] κ κ rfl κ π ?_;iterate 5 refine fJ ?_
    refine iT rfl (fun K' hK=> ?_);go_simp;refine (cTB.out _).mono ?_;rintro e w2 ⟨v2,rfl,ho2,hb2⟩;obtain⟨A2,c2,rfl,hc2,SK,Pz⟩:=ho2.arr Fe;generalize tb.length=m2 at *
    clear ho2;replace Pz:=ζ Pz;refine hK.o _ _ ?_ (fun hS=> ?_)
    ·exact γ
    clear hK hS;refine iT rfl (fun K' hK=> ?_);go_simp;refine (cHt.out _ _ _ _ Pz.o (by unfold maxLen;omega)).mono ?_;rintro e w3 ⟨rfl,rfl⟩;refine hK.o _ _ ?_ (fun hS=> ?_)
    ·exact γ
    clear hK hS;iterate 1 refine fJ ?_
    refine fV ?_;go_wp2;go_ret;exact⟨aJ aN.o.symm,((hg1.trans hg).drew).trans hb2⟩
   ·rw[hq] at hs;simp only[hq] at cHt;replace cHt:=ζ cHt;replace hs:=ζ hs;clear hq hx hcell kQ;go_wp2_with fail;refine b_ [(0,true),(2,true),(3,true),(4,true),(5,true),(1,false),(6,false),(7,true)] κ κ rfl κ π ?_;iterate 5 refine fJ ?_
    refine iT rfl (fun K' hK=> ?_);go_simp;refine (cTB.out _).mono ?_;rintro e w2 ⟨v2,rfl,ho2,hb2⟩;obtain⟨A2,c2,rfl,hc2,SK,Pz⟩:=ho2.arr Fe;generalize tb.length=m2 at *
    clear ho2;replace Pz:=ζ Pz;refine hK.o _ _ ?_ (fun hS=> ?_)
    ·exact γ
    clear hK hS;refine iT rfl (fun K' hK=> ?_);go_simp;refine (cHt.out _ _ _ _ Pz.o (by unfold maxLen;omega)).mono ?_;rintro e w3 ⟨rfl,rfl⟩;refine hK.o _ _ ?_ (fun hS=> ?_)
    ·exact γ
    clear hK hS;iterate 1 refine fJ ?_
    refine fV ?_;go_wp2;go_roundw
    case rel=>exact⟨k+1,ω,ν,hs.o,hg.drew.trans hb2⟩
    case measure=>exact ψ
  ·obtain rfl:k=m:=ω;have Bo:r = (p &&q&&decide (a.lv≤b.lv)):=by
    have:=kQ.o;rw[List.take_of_length_le (Nat.le_of_eq hm.o.symm)] at this;rw[tZ.o,this,Bool.and_true]
   clear kQ tZ;cases p
   ·simp only[Bool.false_and] at Bo;replace Bo:=ζ Bo;go_wp2_with fail;refine (cA.out _).mono ?_;rintro e w2 ⟨rfl,hb2⟩;go_wp2_with fail;go_ret;exact⟨aJ Bo.o.symm,(hg1.trans hg).trans hb2⟩
   ·cases q
    ·simp only[Bool.false_and,Bool.true_and] at Bo;replace Bo:=ζ Bo;go_wp2_with fail;refine (cA.out _).mono ?_;rintro e w2 ⟨rfl,hb2⟩;replace b0:=hb2.cell b0;replace b1:=hb2.cell b1;go_wp2_with fail;refine (cB.out _).mono ?_;rintro e w3 ⟨rfl,hb3⟩;go_wp2_with fail;go_ret;exact⟨aJ Bo.o.symm,((hg1.trans hg).trans hb2).trans hb3⟩
    ·simp only[Bool.true_and] at Bo;by_cases hle:a.lv≤b.lv
     ·rw[decide_eq_true hle] at Bo;replace Bo:=ζ Bo;go_wp2_with fail;refine (cA.out _).mono ?_;rintro e w2 ⟨rfl,hb2⟩;replace b0:=hb2.cell b0;replace b1:=hb2.cell b1;replace a0:=hb2.cell a0;go_wp2_with fail;refine (cB.out _).mono ?_;rintro e w3 ⟨rfl,hb3⟩;replace b0:=hb3.cell b0;replace a0:=hb3.cell a0;go_wp2_with fail;go_ret;exact⟨aJ Bo.o.symm,((hg1.trans hg).trans hb2).trans hb3⟩
     ·rw[decide_eq_false hle] at Bo;have aAB:=ζ hle;replace Bo:=ζ Bo;go_wp2_with fail;refine (cA.out _).mono ?_;rintro e w2 ⟨rfl,hb2⟩;replace b0:=hb2.cell b0;replace b1:=hb2.cell b1;replace a0:=hb2.cell a0;go_wp2_with fail;refine (cB.out _).mono ?_;rintro e w3 ⟨rfl,hb3⟩;replace b0:=hb3.cell b0;replace a0:=hb3.cell a0;go_wp2_with fail;go_ret;exact⟨aJ (by rw[Bo.o,decide_eq_false (by have:=aAB.o;omega)]),((hg1.trans hg).trans hb2).trans hb3⟩
theorem ahU {p:bQ} {tt:gy} (w:World) (hp:p.At w) (oC:tt.ok) :
 Calls Tryz.prog 31 #[p.val,.agg #[.int .i64 tt.lv,.int .u32 (tt.c:Int)]] w fun e w'=>e =.returned (.bool (Nb p.aU tt))∧ah w w':=by
 have cF:=ζ (fun (y:yH) (hy:y∈p.i) W=>Vy y.i.l tt W (hp.iAt y hy).Jy oC);have hI:=hp.i;have kN:=hI.1;have hle:=hp.ile;have hR1:Nb p.aU tt=p.i.all (fun y=> !eU y.i.l tt):=by unfold Nb bQ.aU;simp only[List.all_map];rfl
 rw[hR1];clear hR1 hp oC;unfold bQ.val;obtain⟨⟨sl,sA,sm,sk⟩,⟨rl,rA,rm,rk⟩,⟨el,eA,em,ek⟩,⟨al,aA,am,ak⟩,o,oA,om,ok,i,iA,im,ik⟩:=p;simp only at cF hI kN hle ⊢;obtain⟨R,hR⟩:∃R,R=i.all (fun y=> !eU y.i.l tt):=⟨_,rfl⟩;rw[←hR];replace hR:=ζ hR;replace hI:=ζ hI;go_enter Tryz.func31,Tryz.ntmps31
 go_wp2;go_loopw [5] (fun x wr=>∃k:Nat,k≤im∧x =.int .i64 k∧Hid ((i.take k).all (fun y=> !eU y.i.l tt)=true)∧Hid (aG wr w.heap.size 50 #[.slice sA sm sk,.slice rA rm rk,.slice eA em ek,.slice aA am ak,.slice oA om ok,.slice iA im ik])∧Hid (aG wr (w.heap.size+1) 25 #[.int .i64 tt.lv,.int .u32 (tt.c:Int)])∧Hid (ah w wr)) (fun x _=>im-(intOf x).toNat)
 case atStart=>exact⟨0,ω,rfl,ζ σ,ζ ((aG.new w _ _).alloc _),ζ (aG.kV w _ _ _),ζ (((ah.refl w).alloc _).alloc _)⟩
 case round=>
  obtain⟨k,hk,rfl,kQ,hB,hL,hG⟩:=hrel;have p5:=hB.o.c5;have pz:=hB.o.lt;have l0:=hL.o.c0;have l1:=hL.o.c1;have lz:=hL.o.lt;by_cases qC:k<im
  ·obtain⟨bb,off,y,rfl,CW,hx,hcell⟩:=(hI.o.keep hG.o).at_ qC;have c1:wr.cell? ⟨bb,off+k*5+1,none⟩=some (.int .i64 y.i.l.lv):=by simpa using hcell 1 _ rfl
   have c2:wr.cell? ⟨bb,off+k*5+2,none⟩=some (.int .u32 (y.i.l.c:Int)):=by simpa using hcell 2 _ rfl
   have hs:=yF (fun y:yH=> !eU y.i.l tt) i k y hx;rw[kQ.o,Bool.true_and] at hs;have WU:=fun W=>cF.out y (List.mem_of_getElem? hx) W
   cases hq:eU y.i.l tt with
   | true=>
    rw[hq] at hs;simp only[hq] at WU;have aN:R=false:=by rw[hR.o,Dz hs]
    replace WU:=ζ WU;replace aN:=ζ aN;clear hs hq hx hcell kQ;go_wp2_with fail;refine aF κ ?_;refine rK (.range 8) 0 ?_;iterate 7 refine ay ?_
    refine aT (.bool true) rfl χ (fun wq dN=> ?_) ?_
    ·obtain⟨lu,kR⟩:=bF dN;go_simp;exact Calls.mono (WU.out wq) (fun e w'' h=>h)
    go_simp;refine aB ?_;refine aH κ (fun wN hN hS=> ?_);go_wp2;go_ret;exact⟨aJ (by rw[aN.o]),hG.o.trans hN⟩
   | false=>
    rw[hq] at hs;simp only[hq] at WU;replace WU:=ζ WU;replace hs:=ζ hs;clear hq hx hcell kQ;go_wp2_with fail;refine aF κ ?_;refine rK (.range 8) 0 ?_;iterate 7 refine ay ?_
    refine aT (.bool false) rfl χ (fun wq dN=> ?_) ?_
    ·obtain⟨lu,kR⟩:=bF dN;go_simp;exact Calls.mono (WU.out wq) (fun e w'' h=>h)
    go_simp;refine aB ?_;refine aH κ (fun wN hN hS=> ?_);go_wp2;go_roundw
    case rel=>exact⟨k+1,ω,ν,hs,ζ (hB.o.grows hN),ζ (hL.o.grows hN),ζ (hG.o.trans hN)⟩
    case measure=>exact ψ
  ·obtain rfl:k=im:=ω;have aN:R=true:=by
    have:=kQ.o;rw[List.take_of_length_le ω] at this;rw[hR.o,this]
   replace aN:=ζ aN;clear kQ;go_wp2;go_ret;exact⟨aJ (by rw[aN.o]),hG.o⟩
def KZ (a:iH):Prop:=a.src.length≤9223372036854775807∧∀f∈a.fs,f.n.length≤9223372036854775807∧f.v.length≤9223372036854775807
theorem aaT {a:dD} (w:World) (ha:a.At w) (htx:KZ a.a) :
 Calls Tryz.prog 67 #[iV a] w fun e w'=>e =.returned (.bool (bg a.a))∧ah w w':=by
 have cN:=fun W=>TT a.a.src htx.1 W
 have cF:=fun W (hW:ah w W)=>aaz (c:=a.k) W (ha.arr.keep hW) (by have:=ha.le;omega) htx.2
 have cL:=fun W=>yE a.a.l W
 have hle:=ha.le;have Qv:=ha.arr.1;obtain⟨R,hR⟩:∃R,R=bg a.a:=⟨_,rfl⟩;rw[←hR];unfold bg eY at hR;rw[Qv] at hR;generalize fG a.a.src=N at *
 generalize iL a.a.fs=FB at *
 generalize dA a.a.l.lv=L at *
 unfold iV;clear ha Qv htx;obtain⟨⟨src,fs,⟨lv,lc⟩,f,t⟩,A,m,k⟩:=a;simp only at cN cF cL hR hle ⊢;replace cN:=ζ cN;replace cF:=ζ cF;replace cL:=ζ cL;replace hR:=ζ hR;have hB:=ζ (aG.new w 27 #[.string ⟨src.toArray⟩,.slice A m k,.int .i64 lv,.int .u32 (lc:Int),.int .i64 f,.int .i64 t]);have hG:=ζ ((ah.refl w).alloc (.cells #[.string ⟨src.toArray⟩,.slice A m k,.int .i64 lv,.int .u32 (lc:Int),.int .i64 f,.int .i64 t] 27));go_enter Tryz.func67,Tryz.ntmps67
 go_wp2_with fail;refine (cN.out _).mono ?_;rintro e w1 ⟨rfl,hb⟩;generalize w.alloc (.cells #[.string ⟨src.toArray⟩,.slice A m k,.int .i64 lv,.int .u32 (lc:Int),.int .i64 f,.int .i64 t] 27)=w0 at *
 clear cN;replace hB:=ζ (hB.o.grows hb);replace hG:=ζ (hG.o.trans hb);clear hb;have d1:=hB.o.c1;have d2:=hB.o.c2;have d3:=hB.o.c3;have d4:=hB.o.c4;have d5:=hB.o.c5;have lT:=hB.o.lt;cases N with
 | false=>
  have iE:R=false:=by rw[hR.o];rfl
  subst iE;go_wp2;go_ret;exact⟨rfl,hG.o⟩
 | true=>
 by_cases Bj:m < 1
 ·have hmi:(m:Int)<1:=ω;have iE:R=false:=by rw[hR.o,decide_eq_false (show ¬0<m by omega)];rfl
  subst iE;go_wp2;go_ret;exact⟨rfl,hG.o⟩
 have hmi:¬(m:Int)<1:=ω;go_wp2_with fail;refine (cF.out _ hG.o).mono ?_;rintro e w2 ⟨rfl,hb⟩;clear cF d1 d2 d3 d4 d5 lT;replace hB:=ζ (hB.o.grows hb);replace hG:=ζ (hG.o.trans hb);clear hb;have d1:=hB.o.c1;have d2:=hB.o.c2;have d3:=hB.o.c3;have d4:=hB.o.c4;have d5:=hB.o.c5;have lT:=hB.o.lt;cases FB with
 | false=>
  have iE:R=false:=by rw[hR.o];simp
  subst iE;go_wp2;go_ret;exact⟨rfl,hG.o⟩
 | true=>
 go_wp2_with fail;refine (cL.out _).mono ?_;rintro e w3 ⟨rfl,hb⟩;clear cL d1 d2 d3 d4 d5 lT;replace hB:=ζ (hB.o.grows hb);replace hG:=ζ (hG.o.trans hb);clear hb;have d1:=hB.o.c1;have d2:=hB.o.c2;have d3:=hB.o.c3;have d4:=hB.o.c4;have d5:=hB.o.c5;have lT:=hB.o.lt;cases L with
 | false=>
  have iE:R=false:=by rw[hR.o];simp
  subst iE;go_wp2;go_ret;exact⟨rfl,hG.o⟩
 | true=>
 have iE:R=(decide (0≤f∧f≤1099511627776)&&decide (t = 0∨(f < t∧t≤1099511627776))):=by
  rw[hR.o,decide_eq_true (show 0<m by omega)];rfl
 clear hR;by_cases a1:0≤f
 ·by_cases a2:f≤1099511627776
  ·rw[decide_eq_true (show 0≤f∧f≤1099511627776 from ⟨a1,a2⟩),Bool.true_and] at iE;by_cases a3:t = 0
   ·rw[decide_eq_true (show t = 0∨(f < t∧t≤1099511627776) from .inl a3)] at iE;have a3b:(t ==0)=true:=by rw[a3];rfl
    subst iE;clear a3;go_wp2;go_ret;exact⟨rfl,hG.o⟩
   ·have a3b:(t ==0)=false:=beq_eq_false_iff_ne.2 a3;by_cases a4:f < t
    ·have yK:R=decide (t≤1099511627776):=by
      rw[iE,Bool.eq_iff_iff,decide_eq_true_eq,decide_eq_true_eq];omega
     clear iE a3;go_wp2;go_ret;exact⟨aJ yK.symm,hG.o⟩
    ·have yK:R=false:=by rw[iE];exact decide_eq_false ω
     subst yK;clear iE a3;go_wp2;go_ret;exact⟨rfl,hG.o⟩
  ·have yK:R=false:=by rw[iE,decide_eq_false (show ¬(0≤f∧f≤1099511627776) by omega)];rfl
   subst yK;clear iE;go_wp2;go_ret;exact⟨rfl,hG.o⟩
 ·have yK:R=false:=by rw[iE,decide_eq_false (show ¬(0≤f∧f≤1099511627776) by omega)];rfl
  subst yK;clear iE;go_wp2;go_ret;exact⟨rfl,hG.o⟩
theorem aem {lA:Option Addr} {lm lk:Nat} {xs:List tN} (w:World) (hX:bW w 14 uf lA lm xs) (hat:∀y∈xs,y.x.a.At w) (htx:∀y∈xs,KZ y.x.a.a) (Jz:lm≤1000) :
 Calls Tryz.prog 32 #[.slice lA lm lk] w fun e w'=>e =.returned (.bool (PL (xs.map (·.x.e))))∧ah w w':=by
 have cF:=ζ (fun (y:tN) (hy:y∈xs) W (hW:ah w W)=>aaT W ((hat y hy).keep hW) (htx y hy));have kN:=hX.1;have hR1:PL (xs.map (·.x.e))=xs.all (fun y=> !decide (y.x.k=0)||bg y.x.a.a):=by unfold PL;simp only[List.all_map];rfl
 rw[hR1];clear hR1 hat htx;obtain⟨R,hR⟩:∃R,R=xs.all (fun y=> !decide (y.x.k=0)||bg y.x.a.a):=⟨_,rfl⟩;rw[←hR];replace hR:=ζ hR;replace hX:=ζ hX;go_enter Tryz.func32,Tryz.ntmps32
 go_wp2;go_loopw [3] (fun x wr=>∃k:Nat,k≤lm∧x =.int .i64 k∧Hid ((xs.take k).all (fun y=> !decide (y.x.k=0)||bg y.x.a.a)=true)∧Hid (ah w wr)) (fun x _=>lm-(intOf x).toNat)
 case atStart=>exact⟨0,ω,rfl,ζ σ,ζ (ah.refl w)⟩
 case round=>
  obtain⟨k,hk,rfl,kQ,hG⟩:=hrel;by_cases qC:k<lm
  ·obtain⟨bb,off,y,rfl,CW,hx,hcell⟩:=(hX.o.keep hG.o).at_ qC;have c0:wr.cell? ⟨bb,off+k*14,none⟩=some (.int .i64 y.x.k):=hcell 0 _ rfl;have c1:wr.cell? ⟨bb,off+k*14+1,none⟩=some (.string ⟨y.x.a.a.src.toArray⟩):=hcell 1 _ rfl;have c2:wr.cell? ⟨bb,off+k*14+2,none⟩=some (.slice y.x.a.A y.x.a.m y.x.a.k):=hcell 2 _ rfl;have c3:wr.cell? ⟨bb,off+k*14+3,none⟩=some (.int .i64 y.x.a.a.l.lv):=hcell 3 _ rfl;have c4:wr.cell? ⟨bb,off+k*14+4,none⟩=some (.int .u32 (y.x.a.a.l.c:Int)):=hcell 4 _ rfl;have c5:wr.cell? ⟨bb,off+k*14+5,none⟩=some (.int .i64 y.x.a.a.f):=hcell 5 _ rfl;have c6:wr.cell? ⟨bb,off+k*14+6,none⟩=some (.int .i64 y.x.a.a.t):=hcell 6 _ rfl;have kX:(k:Int)<(lm:Int):=ω;have hs:=yF (fun y:tN=> !decide (y.x.k=0)||bg y.x.a.a) xs k y hx;rw[kQ.o,Bool.true_and] at hs;have WU:=fun W hW=>cF.out y (List.mem_of_getElem? hx) W hW
   unfold iV at WU;by_cases h0:y.x.k=0
   ·rw[decide_eq_true h0,Bool.not_true,Bool.false_or] at hs;rw[h0] at c0;cases hq:bg y.x.a.a with
    | true=>
     rw[hq] at hs;simp only[hq] at WU;replace WU:=ζ WU;replace hs:=ζ hs;clear hq hx hcell kQ h0;go_wp2_with fail;refine (WU.out _ hG.o).mono ?_;rintro e w5 ⟨rfl,fK⟩;clear c0 c1 c2 c3 c4 c5 c6;go_wp2;go_roundw
     case rel=>exact⟨k+1,ω,ν,hs,ζ (hG.o.trans fK)⟩
     case measure=>exact ψ
    | false=>
     rw[hq] at hs;simp only[hq] at WU;have aN:R=false:=by rw[hR.o,Dz hs]
     replace WU:=ζ WU;replace aN:=ζ aN;clear hs hq hx hcell kQ h0;go_wp2_with fail;refine (WU.out _ hG.o).mono ?_;rintro e w5 ⟨rfl,fK⟩;clear c0 c1 c2 c3 c4 c5 c6;go_wp2;go_ret;exact⟨aJ (by rw[aN.o]),hG.o.trans fK⟩
   ·rw[decide_eq_false h0,Bool.not_false,Bool.true_or] at hs;have h0z:(y.x.k==0)=false:=by simp[h0]
    replace hs:=ζ hs;clear hx hcell kQ WU;go_wp2;go_roundw
    case rel=>exact⟨k+1,ω,ν,hs,hG⟩
    case measure=>exact ψ
  ·obtain rfl:k=lm:=ω;have aN:R=true:=by
    have:=kQ.o;rw[List.take_of_length_le ω] at this;rw[hR.o,this]
   replace aN:=ζ aN;clear kQ;go_wp2;go_ret;exact⟨aJ (by rw[aN.o]),hG.o⟩
end Go.Proofs.YtbhikkgpcmkonaaGreatDoor
namespace Go.Proofs.YtbhikkgpcmkonaaGreatDoor
open Go.RowKit Go.Maps Go.WideMaps
theorem akX {w w':World} {A:Option Addr} {xs ds:List tN} (hx:∀y∈xs,Jq w y) (hA:bW w' 13 su A ds.length (ds.map (·.x))) (hat:∀d∈ds,∃z∈xs,d = nX z) (hg:ah w w') (hl:ds.length≤25):zJ w' A ds.length (ds.map (·.x)):=
 ⟨hA,fun y hy=>by obtain⟨d,hd,rfl⟩:=List.mem_map.1 hy;obtain⟨z,hz,rfl⟩:=hat d hd;exact (adV (hx z hz)).keep hg,ω⟩
theorem aoi {w w':World} {xs ds:List tN} (hx:∀y∈xs,Jq w y) (hat:∀d∈ds,∃z∈xs,d = nX z) (hg:ah w w'):∀d∈ds,d.x.a.At w':=fun d hd=>by
 obtain⟨z,hz,rfl⟩:=hat d hd;exact ((adV (hx z hz)).keep hg).a
theorem akW {xs ds:List tN} (hx:∀y∈xs,KZ y.x.a.a) (hat:∀d∈ds,∃z∈xs,d = nX z):∀d∈ds,KZ d.x.a.a:=fun d hd=>by
 obtain⟨z,hz,rfl⟩:=hat d hd;exact⟨(hx z hz).1,fun f hf=>(hx z hz).2 f (List.mem_of_mem_take hf)⟩
theorem ald (p:fQ) (l:List zO) (tt:gy):(jv p l tt).length≤l.length:=by unfold jv;exact List.length_filterMap_le ..
theorem ael {fb:cu→Bool} {ft:List bM→cu→Bool} (Pm:∀y,mX fb y) (Sj:∀y,lV ft y) {p:bQ} {A0:Option Addr} {m0 c0:Nat} {xs:List tN} (w:World) (he:oJ w) (hu:oI w) (hp:p.At w) (hc:p.asB) (hX:bW w 14 uf A0 m0 xs) (hx:∀y∈xs,Jq w y) (htx:∀y∈xs,KZ y.x.a.a) :
 Calls Tryz.prog 7 #[p.val,.slice A0 m0 c0] w fun e w'=>e =.returned (.bool true)∧ah w w':=by
 have cL:=ζ (fun W (hW:ah w W)=>aah Pm Sj W (he.grows hW) (hu.grows hW));have cC:=fun W=>agQ (p:=p) W hc
 have hq:=hp.cut 14;generalize p.cut 14=q at *
 have oW:p.val=.agg #[.slice p.s.A p.s.m p.s.k,.slice p.r.A p.r.m p.r.k,.slice p.e.A p.e.m p.e.k,.slice p.a.A p.a.m p.a.k,.slice p.oA p.om p.ok,.slice p.iA p.im p.ik]:=rfl;have hqv:q.val=.agg #[.slice q.s.A q.s.m q.s.k,.slice q.r.A q.r.m q.r.k,.slice q.e.A q.e.m q.e.k,.slice q.a.A q.a.m q.a.k,.slice q.oA q.om q.ok,.slice q.iA q.im q.ik]:=rfl;rw[oW,hqv] at cC;rw[oW];replace cC:=ζ cC;have cF0:=ζ (fun W lk (hW:ah w W)=>aen (lk:=lk) W (hX.keep hW) (fun y h=>(hx y h).keep hW));have WE:ah w (w.alloc (.cells #[.slice p.s.A p.s.m p.s.k,.slice p.r.A p.r.m p.r.k,.slice p.e.A p.e.m p.e.k,.slice p.a.A p.a.m p.a.k,.slice p.oA p.om p.ok,.slice p.iA p.im p.ik] 50)):=(ah.refl w).alloc _;have hP0:=aG.new w 50 #[.slice p.s.A p.s.m p.s.k,.slice p.r.A p.r.m p.r.k,.slice p.e.A p.e.m p.e.k,.slice p.a.A p.a.m p.a.k,.slice p.oA p.om p.ok,.slice p.iA p.im p.ik];obtain⟨gP,hgP⟩:∃gP,gP=w.heap.size:=⟨_,rfl⟩;rw[←hgP] at hP0;replace hgP:=ζ hgP;replace hq:=ζ hq;replace hqv:=ζ hqv;replace hx:=ζ hx;replace htx:=ζ htx;replace he:=ζ he;replace hu:=ζ hu;replace Pm:=ζ Pm;replace Sj:=ζ Sj;clear oW hp hc hX;go_enter Tryz.func7,Tryz.ntmps7
 go_wp2_with fail;refine (cL.out _ WE).mono ?_;rintro e w1 ⟨rfl,hb1⟩;have hP1:=hP0.grows hb1;have fM:=ζ (WE.trans hb1);rw[←hgP.o];have p0:=hP1.c0;have p1:=hP1.c1;have p2:=hP1.c2;have p3:=hP1.c3;have p4:=hP1.c4;have p5:=hP1.c5;have pl:=hP1.lt;clear hb1 WE hP0 cL;go_wp2_with fail;refine (cC.out w1).mono ?_;rintro e w2 ⟨rfl,hb2⟩;replace hP1:=hP1.grows hb2;replace fM:=ζ (fM.o.trans hb2);clear hb2 p0 p1 p2 p3 p4 p5 pl cC;replace hP1:=ζ hP1;rename_i hK;refine hK _ _ ?_;clear hK;with_reducible show wpList _ _ _ _ _ _
 refine wpList_store_row rfl 50 (.tmp 2) (.tmp 13) rfl gP #[.slice q.s.A q.s.m q.s.k,.slice q.r.A q.r.m q.r.k,.slice q.e.A q.e.m q.e.k,.slice q.a.A q.a.m q.a.k,.slice q.oA q.om q.ok,.slice q.iA q.im q.ik] rfl rfl 50 _ hP1.o κ rfl (by simp[Value.oneCell']) ?_;have g3:=mO w2 gP #[.slice q.s.A q.s.m q.s.k,.slice q.r.A q.r.m q.r.k,.slice q.e.A q.e.m q.e.k,.slice q.a.A q.a.m q.a.k,.slice q.oA q.om q.ok,.slice q.iA q.im q.ik];have hP:Hid (aG (w2.setRow gP #[.slice q.s.A q.s.m q.s.k,.slice q.r.A q.r.m q.r.k,.slice q.e.A q.e.m q.e.k,.slice q.a.A q.a.m q.a.k,.slice q.oA q.om q.ok,.slice q.iA q.im q.ik]) gP 50 #[.slice q.s.A q.s.m q.s.k,.slice q.r.A q.r.m q.r.k,.slice q.e.A q.e.m q.e.k,.slice q.a.A q.a.m q.a.k,.slice q.oA q.om q.ok,.slice q.iA q.im q.ik]):=ζ (setRow_heap _ _ _ _ _ _ hP1.o);have hG:=ζ (fM.o.aQ g3 (fun j hj=>by injection hj with hj;have:=hgP.o;omega));clear hP1 g3 fM;generalize w2.setRow gP #[.slice q.s.A q.s.m q.s.k,.slice q.r.A q.r.m q.r.k,.slice q.e.A q.e.m q.e.k,.slice q.a.A q.a.m q.a.k,.slice q.oA q.om q.ok,.slice q.iA q.im q.ik]=w3 at *
 go_wp2_with fail;refine (cF0.out _ _ hG.o).mono ?_;rintro e w4 ⟨Aa,ca,Aa',ca',ds,rfl,hAa,hDa,wO,htl,YM,hb4⟩;replace hP:=ζ (hP.o.grows hb4);replace wO:=fun d hd=>(wO d hd)
 have hEa:=ζ (akX (fun y hy=>(hx.o y hy).keep hG.o) hAa wO hb4 YM);have hda:=ζ (aoi (fun y hy=>(hx.o y hy).keep hG.o) wO hb4);have hdt:=ζ (akW htx.o wO);replace hDa:=ζ hDa;replace hG:=ζ (hG.o.trans hb4);replace hq:=ζ (hq.o.keep hG.o);replace he:=ζ (he.o.grows hG.o);replace hu:=ζ (hu.o.grows hG.o);clear hb4 hAa wO cF0 hx htx hgP;have hel:(ds.map (·.x) |>.map (·.e))=ds.map (·.x.e):=by rw[List.map_map];rfl
 replace hel:=ζ hel;generalize hnL:ds.length=nL at *
 have hrm:=hq.o.r.arr.1;have qB:=hq.o.r.le;go_wp2;go_loopw [7,8,9] (fun i _ _ wr=>∃k:Nat,k≤q.r.m∧i =.int .i64 k∧Hid (aG wr gP 50 #[.slice q.s.A q.s.m q.s.k,.slice q.r.A q.r.m q.r.k,.slice q.e.A q.e.m q.e.k,.slice q.a.A q.a.m q.a.k,.slice q.oA q.om q.ok,.slice q.iA q.im q.ik])∧Hid (ah w4 wr)) (fun i _ _ _=>q.r.m - (intOf i).toNat)
 case atStart=>exact⟨0,ω,rfl,hP,ζ (ah.refl w4)⟩
 case round=>
  clear hP;obtain⟨k,hk,rfl,hP,AO⟩:=hrel;have p0:=hP.o.c0;have p1:=hP.o.c1;have p2:=hP.o.c2;have p3:=hP.o.c3;have p4:=hP.o.c4;have p5:=hP.o.c5;have pz:=hP.o.lt;by_cases qC:k<q.r.m
  ·obtain⟨bb,off,y,JE,CW,Yv,hcell⟩:=(hq.o.r.arr.keep AO.o).at_ qC;rw[JE] at p1;replace JE:=ζ JE;have c0:wr.cell? ⟨bb,off+k*3,none⟩=some (.string ⟨y.n.toArray⟩):=by simpa using hcell 0 _ rfl
   have c1:wr.cell? ⟨bb,off+k*3+1,none⟩=some (.int .i64 y.l.lv):=by simpa using hcell 1 _ rfl
   have c2:wr.cell? ⟨bb,off+k*3+2,none⟩=some (.int .u32 (y.l.c:Int)):=by simpa using hcell 2 _ rfl
   have wU:=ζ (List.mem_of_getElem? Yv);have DV:=ζ (hq.o.r.Jy y wU.o);clear hcell Yv;have cC1:=ζ (fun W (hW:ah wr W)=>by
    have h:=yO (p:=q) (tt:=y.l) (lk:=ca) W (hq.o.keep (AO.o.trans hW)) DV.o (hEa.o.keep (AO.o.trans hW));rw[hqv.o,JE.o] at h;exact h)
   go_wp2_with fail;refine (cC1.out _ ((ah.refl wr).alloc _)).mono ?_;rintro e w6 ⟨A6,m6,c6,ys,rfl,Uw,hm6,Et⟩;have hNb:=ζ ((aG.new wr 41 #[.string ⟨y.n.toArray⟩,.int .i64 y.l.lv,.int .u32 (y.l.c:Int)]).grows Et);have C_:=ζ (((ah.refl wr).alloc _).trans Et);replace hP:=ζ (hP.o.grows C_.o);replace AO:=ζ (AO.o.trans C_.o);replace Uw:=ζ Uw;replace hm6:=ζ hm6;obtain⟨gN,hgN⟩:∃gN,gN=wr.heap.size:=⟨_,rfl⟩;rw[←hgN] at hNb ⊢;clear p0 p1 p2 p3 p4 p5 pz c0 c1 c2 cC1 Et CW C_ JE hgN;have cA:=ζ (fun W (hW:ah w6 W)=>by
    have h:=Gg (p:=q) (tt:=y.l) (c:=ca) (c':=c6) W (hq.o.keep (AO.o.trans hW)) DV.o (hEa.o.keep (AO.o.trans hW)) (Uw.o.keep hW);rw[hm6.o,ahc,hqv.o] at h;exact h)
   have cC2:=ζ (fun W (hW:ah w6 W)=>by
    have h:=yO (p:=q) (tt:=y.l) (lk:=c6) W (hq.o.keep (AO.o.trans hW)) DV.o (Uw.o.keep hW);rw[hm6.o,GZ,←hm6.o,hqv.o] at h;exact h)
   have cLw:=ζ (fun W (hW:ah w6 W)=>by
    have h:=ahU (p:=q) (tt:=y.l) W (hq.o.keep (AO.o.trans hW)) DV.o;rw[hqv.o] at h;exact h)
   have cFt:=ζ (fun W (hW:ah w6 W)=>aem (lk:=ca') W (hDa.o.keep (AO.o.trans hW)) (fun d hd=>(hda.o d hd).keep (AO.o.trans hW)) hdt.o ω);have avD:=Uw.o.arr.1;have aAw:ys.length≤25:=by
    have h1:=congrArg List.length hm6.o;have h2:=ald q.aU (ds.map (·.x) |>.map (·.e)) y.l;rw[List.length_map] at h1;rw[List.length_map,List.length_map] at h2;omega
   have avC:gG (ys.map (·.e))≤12:=by
    have h1:=TF q.aU y.l (ds.map (·.x) |>.map (·.e));rw[hm6.o];rw[hel.o] at h1 ⊢;omega
   have cRa:=ζ (fun W (hW:ah w6 W)=>by
    have h:=xB (fb:=fb) (ft:=ft) (p:=q) (rec:=y.n) (lk:=ca) W (he.o.grows (AO.o.trans hW)) (hu.o.grows (AO.o.trans hW)) (hq.o.keep (AO.o.trans hW)) Pm.o Sj.o (hEa.o.keep (AO.o.trans hW)) ω (by rw[hel.o];omega);rw[hqv.o] at h;exact h)
   have cRc:=ζ (fun W (hW:ah w6 W)=>by
    have h:=xB (fb:=fb) (ft:=ft) (p:=q) (rec:=y.n) (lk:=c6) W (he.o.grows (AO.o.trans hW)) (hu.o.grows (AO.o.trans hW)) (hq.o.keep (AO.o.trans hW)) Pm.o Sj.o (Uw.o.keep hW) ω avC;rw[hqv.o] at h;exact h)
   have hEq:Nb q.aU y.l = true→PL (ds.map (·.x.e))=true→h_ fb ft q.aU y.n (ys.map (·.e))=h_ fb ft q.aU y.n (ds.map (·.x) |>.map (·.e)):=fun h1 h2=>by
    rw[hm6.o];exact aeY (r:=y) wU.o h1 (by rw[hel.o];exact h2)
   replace hEq:=ζ hEq;generalize Nb q.aU y.l = LW at *
   generalize PL (ds.map (·.x.e))=FT at *
   generalize h_ fb ft q.aU y.n (ys.map (·.e))=RC at *
   generalize h_ fb ft q.aU y.n (ds.map (·.x) |>.map (·.e))=RA at *
   have hyn:Hid (ys.map (·.e)=ys.map (·.e)):=ζ rfl;generalize hYE:ys.map (·.e)=YE at *
   have hYl:Hid (YE.length=m6):=ζ (by rw[←hYE,List.length_map];exact avD);clear hyn hYE avD aAw avC hm6 Uw wU DV hEa hda hdt hDa hel;have p0:=hP.o.c0;have p1:=hP.o.c1;have p2:=hP.o.c2;have p3:=hP.o.c3;have p4:=hP.o.c4;have p5:=hP.o.c5;have pz:=hP.o.lt;have n0:=hNb.o.c0;have n1:=hNb.o.c1;have n2:=hNb.o.c2;have nz:=hNb.o.lt;go_wp2_with fail;refine (cA.out _ (ah.refl w6)).mono ?_;rintro e w7 ⟨rfl,hb7⟩;replace hP:=ζ (hP.o.grows hb7);replace hNb:=ζ (hNb.o.grows hb7);replace hb7:=ζ hb7;clear p0 p1 p2 p3 p4 p5 pz n0 n1 n2 nz cA;have p0:=hP.o.c0;have p1:=hP.o.c1;have p2:=hP.o.c2;have p3:=hP.o.c3;have p4:=hP.o.c4;have p5:=hP.o.c5;have pz:=hP.o.lt;have n0:=hNb.o.c0;have n1:=hNb.o.c1;have n2:=hNb.o.c2;have nz:=hNb.o.lt;go_wp2_with fail;refine (cC2.out _ hb7.o).mono ?_;rintro e w8 ⟨A8,m8,c8,zs,rfl,SX,hm8,hb8⟩;obtain rfl:m8=m6:=by rw[←hYl.o,←hm8,List.length_map];exact SX.arr.1.symm
   replace hP:=ζ (hP.o.grows hb8);replace hNb:=ζ (hNb.o.grows hb8);have BM:=ζ (hb7.o.trans hb8);clear p0 p1 p2 p3 p4 p5 pz n0 n1 n2 nz cC2 SX hm8 hb8 hb7 hYl;have p0:=hP.o.c0;have p1:=hP.o.c1;have p2:=hP.o.c2;have p3:=hP.o.c3;have p4:=hP.o.c4;have p5:=hP.o.c5;have pz:=hP.o.lt;have n0:=hNb.o.c0;have n1:=hNb.o.c1;have n2:=hNb.o.c2;have nz:=hNb.o.lt;go_wp2_with fail;cases LW with
   | false=>
    clear cRa cRc cFt hEq Pm Sj he hu;refine aF κ ?_;refine rK (.range 22) 0 ?_;iterate 3 refine ay ?_
    refine aT (.bool false) rfl χ (fun wq dN=> ?_) ?_
    ·obtain⟨lu,kR⟩:=bF dN;go_simp;exact Calls.mono (cLw.out wq (BM.o.trans dN)) (fun e w'' h=>h)
    go_simp;iterate 2 refine ay ?_
    refine fU rfl χ ?_;go_simp;iterate 6 refine ay ?_
    refine fU rfl χ ?_;go_simp;iterate 4 refine ay ?_
    refine fU rfl χ ?_;go_simp;refine fU rfl χ ?_;go_simp;iterate 2 refine ay ?_
    refine aB ?_;refine aH κ (fun wN hN hS=> ?_);go_wp2;go_roundw
    case rel=>exact⟨k+1,ω,ν,ζ (hP.o.grows hN),ζ (AO.o.trans (BM.o.trans hN))⟩
    case measure=>exact ψ
   | true=>
   cases FT with
   | false=>
    clear cRa cRc hEq Pm Sj he hu;refine aF κ ?_;refine rK (.range 22) 0 ?_;iterate 3 refine ay ?_
    refine aT (.bool true) rfl χ (fun wq dN=> ?_) ?_
    ·obtain⟨lu,kR⟩:=bF dN;go_simp;exact Calls.mono (cLw.out wq (BM.o.trans dN)) (fun e w'' h=>h)
    go_simp;iterate 2 refine ay ?_
    refine aT (.bool false) rfl χ (fun wq dN=> ?_) ?_
    ·obtain⟨lu,kR⟩:=bF dN;go_simp;exact Calls.mono (cFt.out wq (BM.o.trans dN)) (fun e w'' h=>h)
    go_simp;iterate 6 refine ay ?_
    refine fU rfl χ ?_;go_simp;iterate 4 refine ay ?_
    refine fU rfl χ ?_;go_simp;refine fU rfl χ ?_;go_simp;iterate 2 refine ay ?_
    refine aB ?_;refine aH κ (fun wN hN hS=> ?_);go_wp2;go_roundw
    case rel=>exact⟨k+1,ω,ν,ζ (hP.o.grows hN),ζ (AO.o.trans (BM.o.trans hN))⟩
    case measure=>exact ψ
   | true=>
    have hE2:RC=RA:=hEq.o (by trivial) (by trivial);subst hE2;clear hEq Pm Sj he hu;have aP:=ζ (ah.refl w8);refine aF κ ?_;refine rK [0,1,2,3,4,5,6,7,8,9,10,11,12,14,15,16,17] 5 ?_;iterate 3 refine ay ?_
    refine aT (.bool true) rfl χ (fun wq dN=> ?_) ?_
    ·obtain⟨lu,kR⟩:=bF dN;go_simp;exact Calls.mono (cLw.out wq (BM.o.trans dN)) (fun e w'' h=>h)
    go_simp;iterate 2 refine ay ?_
    refine aT (.bool true) rfl χ (fun wq dN=> ?_) ?_
    ·obtain⟨lu,kR⟩:=bF dN;go_simp;exact Calls.mono (cFt.out wq (BM.o.trans dN)) (fun e w'' h=>h)
    go_simp;iterate 10 refine ay ?_
    refine aB ?_;refine aI [13] κ σ (fun wN hN hS=>(au.cons rfl (fun K' hK=> ?_) au.nil));replace aP:=ζ (aP.o.trans hN);try replace I4:=ζ (I4.o.keep hN)
    try replace IZ:=ζ (IZ.o.keep hN)
    try replace I_:=ζ (fun x hx=>(I_.o x hx).keep hN)
    try replace I9:=ζ (fun x hx=>(I9.o x hx).keep hN)
    clear hN;go_simp;refine (cRa.out _ (BM.o.trans aP.o)).mono ?_;rintro e w5 ⟨A13,k13,azB,rfl,I4,I_,anv,anG,fK⟩;replace I_:=ζ (fun x hx=>(I_ x hx).good);replace I4:=ζ I4;replace anv:=ζ anv;replace anG:=ζ anG;replace aP:=ζ (aP.o.trans fK);try replace IZ:=ζ (IZ.o.keep fK)
    try replace I9:=ζ (fun x hx=>(I9.o x hx).keep fK)
    refine hK.o _ _ ?_ (fun hS=> ?_)
    ·exact aP.o
    clear fK;clear hK hS;refine aI [18] κ σ (fun wN hN hS=>(au.cons rfl (fun K' hK=> ?_) au.nil));replace aP:=ζ (aP.o.trans hN);try replace I4:=ζ (I4.o.keep hN)
    try replace IZ:=ζ (IZ.o.keep hN)
    try replace I_:=ζ (fun x hx=>(I_.o x hx).keep hN)
    try replace I9:=ζ (fun x hx=>(I9.o x hx).keep hN)
    clear hN;go_simp;refine (cRc.out _ (BM.o.trans aP.o)).mono ?_;rintro e w5 ⟨A18,k18,azz,rfl,IZ,I9,anu,anF,fK⟩;replace I9:=ζ (fun x hx=>(I9 x hx).good);replace IZ:=ζ IZ;replace anu:=ζ anu;replace anF:=ζ anF;replace aP:=ζ (aP.o.trans fK);try replace I4:=ζ (I4.o.keep fK)
    try replace I_:=ζ (fun x hx=>(I_.o x hx).keep fK)
    refine hK.o _ _ ?_ (fun hS=> ?_)
    ·exact aP.o
    clear fK;clear hK hS;refine aI [19] κ σ (fun wN hN hS=>(au.cons rfl (fun K' hK=> ?_) au.nil));replace aP:=ζ (aP.o.trans hN);try replace I4:=ζ (I4.o.keep hN)
    try replace IZ:=ζ (IZ.o.keep hN)
    try replace I_:=ζ (fun x hx=>(I_.o x hx).keep hN)
    try replace I9:=ζ (fun x hx=>(I9.o x hx).keep hN)
    clear hN;go_simp;refine (Tz _ I4.o IZ.o (by have:=anG.o;omega) (by have:=anF.o;omega) I_.o I9.o).mono ?_;rintro e w5 ⟨rfl,fK⟩;rw[decide_eq_true (show azB.map (·.xM)=azz.map (·.xM) by rw[anv.o,anu.o])];replace aP:=ζ (aP.o.trans fK);refine hK.o _ _ ?_ (fun hS=> ?_)
    ·exact aP.o
    clear fK I4 IZ I_ I9 anv anu anG anF;clear hK hS;refine rK [20,21] 0 ?_;iterate 2 refine ay ?_
    refine aB ?_;refine aH κ (fun wN hN hS=> ?_);replace aP:=ζ (aP.o.trans hN);try replace I4:=ζ (I4.o.keep hN)
    try replace IZ:=ζ (IZ.o.keep hN)
    try replace I_:=ζ (fun x hx=>(I_.o x hx).keep hN)
    try replace I9:=ζ (fun x hx=>(I9.o x hx).keep hN)
    all_goals (
     go_wp2;go_roundw
     case rel=>exact⟨k+1,ω,ν,ζ (hP.o.grows aP.o),ζ (AO.o.trans (BM.o.trans aP.o))⟩
     case measure=>exact ψ)
  ·obtain rfl:k=q.r.m:=ω;go_wp2;go_ret;exact⟨rfl,hG.o.trans AO.o⟩
end Go.Proofs.YtbhikkgpcmkonaaGreatDoor
