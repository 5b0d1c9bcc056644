/- Parts: LabF LwE RcC PicA RcD RcE RcF MorP -/
import Derived.Test.YteojanlajhebhaaGreatDoorGs0
import Derived.Test.YteojanlajhebhaaGreatDoorGs15
import Derived.Test.YteojanlajhebhaaGreatDoorGs8
import Derived.Test.YteojanlajhebhaaGreatDoorGs13
import Derived.Test.YteojanlajhebhaaGreatDoorGs12
import Derived.Test.YteojanlajhebhaaGreatDoorGs11
import Derived.Test.YteojanlajhebhaaGreatDoorGs5
import Derived.Test.YteojanlajhebhaaGreatDoorGs14
set_option maxRecDepth 100000
set_option maxHeartbeats 12800000
namespace Go.Proofs.YteojanlajhebhaaGreatDoor
open Go.RowKit
theorem agv (x y k:Nat):(x |||y).testBit k=(x.testBit k||y.testBit k):=by
 rw[Nat.testBit_or]
theorem Za (a b:Cc) (w:World) (ha:a.ok) (hb:b.ok) :
 Calls Tryz.prog 126 #[.agg #[.int .i64 a.lv,.int .u32 (a.c:Int)],.agg #[.int .i64 b.lv,.int .u32 (b.c:Int)]] w fun e w'=>e =.returned (.agg #[.int .i64 (yC a b).lv,.int .u32 ((yC a b).c:Int)])∧ah w w':=by
 have cA:=fun W=>mM a W
 have cB:=fun W=>mM b W
 have hno:=ZK (a:=a) (b:=b);have pO:=VU (a:=a) (b:=b);have hmx:(if a.lv<b.lv then b.lv else a.lv)=max a.lv b.lv:=by split <;> omega
 have cTA:=fun W=>yJ a W ha
 have cTB:=fun W=>yJ b W hb
 have hDlt:a.c |||b.c < 4294967296:=Nat.or_lt_two_pow (n:=32) ha hb
 have XR:=fun M A m c W h hm=>amA M A m c (kU (a.c |||b.c)) W h hm (OM _) (fun k hk=>YS hk)
 rw[abL hDlt] at XR;have cHa:∀(k:Nat) A m c W,dH W 1 encI A m (kU a.c)→m≤maxLen→Calls Tryz.prog 100 #[.slice A m c,.int .i64 k] W fun e w'=>e =.returned (.bool (a.c.testBit k))∧w'=W:=fun k A m c W h h'=>by
  have:=XA A m c (kU a.c) k W h h' 100 rfl;rw[show decide (k∈kU a.c)=a.c.testBit k by rw[Bool.eq_iff_iff,decide_eq_true_eq,YT ha]] at this;exact this
 have cHb:∀(k:Nat) A m c W,dH W 1 encI A m (kU b.c)→m≤maxLen→Calls Tryz.prog 100 #[.slice A m c,.int .i64 k] W fun e w'=>e =.returned (.bool (b.c.testBit k))∧w'=W:=fun k A m c W h h'=>by
  have:=XA A m c (kU b.c) k W h h' 100 rfl;rw[show decide (k∈kU b.c)=b.c.testBit k by rw[Bool.eq_iff_iff,decide_eq_true_eq,YT hb]] at this;exact this
 generalize hM:max a.lv b.lv=M at *
 replace hM:=ζ hM;generalize dK a.lv=p at *
 generalize dK b.lv=q at *
 replace cA:=ζ cA;replace cB:=ζ cB;replace cTA:=ζ cTA;replace cTB:=ζ cTB;replace cHa:=ζ cHa;replace cHb:=ζ cHb;replace XR:=ζ XR;replace hno:=ζ hno;replace pO:=ζ pO;clear ha hb hDlt;have hpq:p = false∨(p = true∧q=false)∨(p = true∧q=true):=by cases p <;> cases q <;> simp
 rcases hpq with rfl | ⟨rfl,rfl⟩ | ⟨rfl,rfl⟩
 ·have aQ:=ζ (hno.o (.inl rfl));go_enter Tryz.func126,Tryz.ntmps126
  go_wp2_with fail;refine (cA.out _).mono ?_;rintro e w1 ⟨rfl,hb1⟩;have bC:aS w1 (w.heap.size+1+1) 40 #[.int .i64 0,.int .u32 0]:=(aS.IQ w _ _ _ _).grows hb1;have bB:aS w1 (w.heap.size+1) 40 #[.int .i64 b.lv,.int .u32 (b.c:Int)]:=((aS.vO w _ _ _).alloc _).grows hb1;have bA:aS w1 w.heap.size 40 #[.int .i64 a.lv,.int .u32 (a.c:Int)]:=(((aS.new w _ _).alloc _).alloc _).grows hb1;have hg1:ah w w1:=((((ah.refl w).alloc _).alloc _).alloc _).trans hb1;have e0:=bC.c0;have e1:=bC.c1;have f0:=bC.frozen 0;have f1:=bC.frozen 1;have s2:=bC.lt;have g0:=bB.c0;have g1:=bB.c1;have h0:=bA.c0;have h1:=bA.c1;go_wp2_with fail;refine bodyPost_ret (v:=.agg #[.int .i64 7,.int .u32 4294967295]) ?_ rfl ⟨by rw[aQ.o];rfl,?_⟩
  ·simp[results,Tryz.results126,go_sem,e0,e1]
  ·exact ah.setCell (ah.setCell hg1 (by simp;omega) _) (by simp;omega) _
 ·have aQ:=ζ (hno.o (.inr rfl));go_enter Tryz.func126,Tryz.ntmps126
  go_wp2_with fail;refine (cA.out _).mono ?_;rintro e w1 ⟨rfl,hb1⟩;have bC:aS w1 (w.heap.size+1+1) 40 #[.int .i64 0,.int .u32 0]:=(aS.IQ w _ _ _ _).grows hb1;have bB:aS w1 (w.heap.size+1) 40 #[.int .i64 b.lv,.int .u32 (b.c:Int)]:=((aS.vO w _ _ _).alloc _).grows hb1;have bA:aS w1 w.heap.size 40 #[.int .i64 a.lv,.int .u32 (a.c:Int)]:=(((aS.new w _ _).alloc _).alloc _).grows hb1;have hg1:ah w w1:=((((ah.refl w).alloc _).alloc _).alloc _).trans hb1;have e0:=bC.c0;have e1:=bC.c1;have f0:=bC.frozen 0;have f1:=bC.frozen 1;have s2:=bC.lt;have g0:=bB.c0;have g1:=bB.c1;have h0:=bA.c0;have h1:=bA.c1;go_wp2_with fail;refine (cB.out _).mono ?_;rintro e w2 ⟨rfl,hb2⟩;replace bA:=bA.grows hb2;replace bB:=bB.grows hb2;replace bC:=bC.grows hb2;replace hg1:ah w w2:=hg1.trans hb2;clear e0 e1 f0 f1 s2 g0 g1 h0 h1 hb2 hb1;have e0:=bC.c0;have e1:=bC.c1;have f0:=bC.frozen 0;have f1:=bC.frozen 1;have s2:=bC.lt;have g0:=bB.c0;have g1:=bB.c1;have h0:=bA.c0;have h1:=bA.c1;go_wp2_with fail;refine bodyPost_ret (v:=.agg #[.int .i64 7,.int .u32 4294967295]) ?_ rfl ⟨by rw[aQ.o];rfl,?_⟩
  ·simp[results,Tryz.results126,go_sem,e0,e1]
  ·exact ah.setCell (ah.setCell hg1 (by simp;omega) _) (by simp;omega) _
 ·have aQ:=ζ (pO.o rfl rfl);go_enter Tryz.func126,Tryz.ntmps126
  go_wp2_with fail;refine (cA.out _).mono ?_;rintro e w1 ⟨rfl,hb1⟩;have bC:aS w1 (w.heap.size+1+1) 40 #[.int .i64 0,.int .u32 0]:=(aS.IQ w _ _ _ _).grows hb1;have bB:aS w1 (w.heap.size+1) 40 #[.int .i64 b.lv,.int .u32 (b.c:Int)]:=((aS.vO w _ _ _).alloc _).grows hb1;have bA:aS w1 w.heap.size 40 #[.int .i64 a.lv,.int .u32 (a.c:Int)]:=(((aS.new w _ _).alloc _).alloc _).grows hb1;have hg1:ah w w1:=((((ah.refl w).alloc _).alloc _).alloc _).trans hb1;have e0:=bC.c0;have e1:=bC.c1;have f0:=bC.frozen 0;have f1:=bC.frozen 1;have s2:=bC.lt;have g0:=bB.c0;have g1:=bB.c1;have h0:=bA.c0;have h1:=bA.c1;go_wp2_with fail;refine (cB.out _).mono ?_;rintro e w2 ⟨rfl,hb2⟩;replace bA:=bA.grows hb2;replace bB:=bB.grows hb2;replace bC:=bC.grows hb2;replace hg1:ah w w2:=hg1.trans hb2;clear e0 e1 f0 f1 s2 g0 g1 h0 h1 hb2 hb1;have e0:=bC.c0;have e1:=bC.c1;have f0:=bC.frozen 0;have f1:=bC.frozen 1;have s2:=bC.lt;have g0:=bB.c0;have g1:=bB.c1;have h0:=bA.c0;have h1:=bA.c1;clear e0 e1 f0 f1 g0 g1 h0 h1;go_wp2_with fail;go_loopw [5,6] (fun v i wr=>∃k:Nat,k≤32∧i =.int .i64 k∧Own wr (w.heap.size+1+1+1) 3 1 encI v (Bc (a.c |||b.c) k)∧Below (w.heap.size+1+1+1) w2 wr) (fun _ i _=>32-(intOf i).toNat)
  case atStart=>exact⟨0,ω,rfl,Own.iH _ _ _ _ _,Below.refl _ _⟩
  case round=>
   obtain⟨k,hk,rfl,hown,hg⟩:=hrel;have sz:=hg.size;have bA2:=bA.below hg ω;have bB2:=bB.below hg ω;have bC2:=bC.below hg ω;have g0:=bB2.c0;have g1:=bB2.c1;have h0:=bA2.c0;have h1:=bA2.c1;have hl:=ζ (Lj (a.c |||b.c) k);by_cases hlt:k<32
   ·have cHA:=cHa.out k;have cHB:=cHb.out k;have hDk:=agv a.c b.c k;clear bA2 bB2 bC2;cases hpa:a.c.testBit k <;> cases hpb:b.c.testBit k
    ·skip
     have hstep:=ζ (Wx (c:=a.c |||b.c) (k:=k) (by rw[hDk,hpa,hpb];rfl));rw[hpa] at cHA;replace cHA:=ζ cHA;rw[hpb] at cHB;replace cHB:=ζ cHB;clear hpa hpb hDk;go_wp2_with fail;refine (cTA.out _).mono ?_;rintro e w3 ⟨v3,rfl,ho3,hb3⟩;obtain⟨A3,c3,rfl,hc3,SX,sG⟩:=ho3.arr JV;generalize (kU a.c).length=m3 at *
     clear ho3;replace sG:=ζ sG;go_wp2_with fail;refine (cHA.out _ _ _ _ sG.o (by unfold maxLen at SX ⊢;omega)).mono ?_;rintro e w4 ⟨rfl,rfl⟩;replace g0:=hb3.cell g0;replace g1:=hb3.cell g1;replace hown:=hown.grows hb3;replace hg:Below (w.heap.size+1+1+1) w2 w4:=hg.trans (hb3.below.mono ω);clear sG;go_wp2_with fail;refine (cTB.out _).mono ?_;rintro e w5 ⟨v5,rfl,ho5,GV⟩;obtain⟨A5,c5,rfl,hc5,aph,Ti⟩:=ho5.arr JV;generalize (kU b.c).length=m5 at *
     clear ho5;replace Ti:=ζ Ti;replace hown:=hown.grows GV;have hg':Below (w.heap.size+1+1+1) w2 w5:=hg.trans (GV.below.mono (by have:=hb3.size;omega));go_wp2_with fail;refine (cHB.out _ _ _ _ Ti.o (by unfold maxLen at aph ⊢;omega)).mono ?_;rintro e w6 ⟨rfl,rfl⟩;go_wp2;go_roundw
     case rel=>exact⟨k+1,ω,ν,by rw[hstep.o];exact hown,hg'⟩
     case measure=>exact ψ
    ·skip
     have hstep:=ζ (He (c:=a.c |||b.c) (k:=k) (by rw[hDk,hpa,hpb];rfl));rw[hpa] at cHA;replace cHA:=ζ cHA;rw[hpb] at cHB;replace cHB:=ζ cHB;clear hpa hpb hDk;go_wp2_with fail;refine (cTA.out _).mono ?_;rintro e w3 ⟨v3,rfl,ho3,hb3⟩;obtain⟨A3,c3,rfl,hc3,SX,sG⟩:=ho3.arr JV;generalize (kU a.c).length=m3 at *
     clear ho3;replace sG:=ζ sG;go_wp2_with fail;refine (cHA.out _ _ _ _ sG.o (by unfold maxLen at SX ⊢;omega)).mono ?_;rintro e w4 ⟨rfl,rfl⟩;replace g0:=hb3.cell g0;replace g1:=hb3.cell g1;replace hown:=hown.grows hb3;replace hg:Below (w.heap.size+1+1+1) w2 w4:=hg.trans (hb3.below.mono ω);clear sG;go_wp2_with fail;refine (cTB.out _).mono ?_;rintro e w5 ⟨v5,rfl,ho5,GV⟩;obtain⟨A5,c5,rfl,hc5,aph,Ti⟩:=ho5.arr JV;generalize (kU b.c).length=m5 at *
     clear ho5;replace Ti:=ζ Ti;replace hown:=hown.grows GV;have hg':Below (w.heap.size+1+1+1) w2 w5:=hg.trans (GV.below.mono (by have:=hb3.size;omega));go_wp2_with fail;refine (cHB.out _ _ _ _ Ti.o (by unfold maxLen at aph ⊢;omega)).mono ?_;rintro e w6 ⟨rfl,rfl⟩;go_wp2_with (at_builtin;refine dM (x:=k) aly rfl (.tmp 30) (.tmp 32) rfl (hown.alloc _) rfl ⟨w6.heap.size,0,none⟩ rfl rfl (h_ (by exact heap_alloc_new w6 _)) (UZ k) (by have:=hg'.size;simp;omega) (by have:=hl.o;unfold maxLen;omega) (by have:=hl.o;omega) (fun v8 w8 ZT hgr hat=> ?_));have Z5:Below (w.heap.size+1+1+1) w2 w8:=Own.below (hown.alloc _) (Below.alloc hg' (by have:=hg'.size;omega) _) (Nat.le_refl _) (by have:=hg'.size;simp;omega) hgr;clear hgr hat;go_wp2;go_roundw
     case rel=>exact⟨k+1,ω,ν,by rw[hstep.o];exact ZT,Z5⟩
     case measure=>exact ψ
    ·skip
     have hstep:=ζ (He (c:=a.c |||b.c) (k:=k) (by rw[hDk,hpa,hpb];rfl));rw[hpa] at cHA;replace cHA:=ζ cHA;clear hpa hpb hDk;go_wp2_with fail;refine (cTA.out _).mono ?_;rintro e w3 ⟨v3,rfl,ho3,hb3⟩;obtain⟨A3,c3,rfl,hc3,SX,sG⟩:=ho3.arr JV;generalize (kU a.c).length=m3 at *
     clear ho3;replace sG:=ζ sG;go_wp2_with fail;refine (cHA.out _ _ _ _ sG.o (by unfold maxLen at SX ⊢;omega)).mono ?_;rintro e w4 ⟨rfl,rfl⟩;replace g0:=hb3.cell g0;replace g1:=hb3.cell g1;replace hown:=hown.grows hb3;replace hg:Below (w.heap.size+1+1+1) w2 w4:=hg.trans (hb3.below.mono ω);go_wp2_with (at_builtin;refine dM (x:=k) aly rfl (.tmp 30) (.tmp 32) rfl (hown.alloc _) rfl ⟨w4.heap.size,0,none⟩ rfl rfl (h_ (by exact heap_alloc_new w4 _)) (UZ k) (by have:=hg.size;simp;omega) (by have:=hl.o;unfold maxLen;omega) (by have:=hl.o;omega) (fun v8 w8 ZT hgr hat=> ?_));have Z5:Below (w.heap.size+1+1+1) w2 w8:=Own.below (hown.alloc _) (Below.alloc hg (by have:=hg.size;omega) _) (Nat.le_refl _) (by have:=hg.size;simp;omega) hgr;clear hgr hat;go_wp2;go_roundw
     case rel=>exact⟨k+1,ω,ν,by rw[hstep.o];exact ZT,Z5⟩
     case measure=>exact ψ
    ·skip
     have hstep:=ζ (He (c:=a.c |||b.c) (k:=k) (by rw[hDk,hpa,hpb];rfl));rw[hpa] at cHA;replace cHA:=ζ cHA;clear hpa hpb hDk;go_wp2_with fail;refine (cTA.out _).mono ?_;rintro e w3 ⟨v3,rfl,ho3,hb3⟩;obtain⟨A3,c3,rfl,hc3,SX,sG⟩:=ho3.arr JV;generalize (kU a.c).length=m3 at *
     clear ho3;replace sG:=ζ sG;go_wp2_with fail;refine (cHA.out _ _ _ _ sG.o (by unfold maxLen at SX ⊢;omega)).mono ?_;rintro e w4 ⟨rfl,rfl⟩;replace g0:=hb3.cell g0;replace g1:=hb3.cell g1;replace hown:=hown.grows hb3;replace hg:Below (w.heap.size+1+1+1) w2 w4:=hg.trans (hb3.below.mono ω);go_wp2_with (at_builtin;refine dM (x:=k) aly rfl (.tmp 30) (.tmp 32) rfl (hown.alloc _) rfl ⟨w4.heap.size,0,none⟩ rfl rfl (h_ (by exact heap_alloc_new w4 _)) (UZ k) (by have:=hg.size;simp;omega) (by have:=hl.o;unfold maxLen;omega) (by have:=hl.o;omega) (fun v8 w8 ZT hgr hat=> ?_));have Z5:Below (w.heap.size+1+1+1) w2 w8:=Own.below (hown.alloc _) (Below.alloc hg (by have:=hg.size;omega) _) (Nat.le_refl _) (by have:=hg.size;simp;omega) hgr;clear hgr hat;go_wp2;go_roundw
     case rel=>exact⟨k+1,ω,ν,by rw[hstep.o];exact ZT,Z5⟩
     case measure=>exact ψ
   ·obtain rfl:k=32:=ω;rw[adS] at hown;obtain⟨A3,c3,rfl,hc3,SX,sG⟩:=hown.arr JV;generalize (kU (a.c |||b.c)).length=m3 at *
    clear hown hl;replace sG:=ζ sG;go_wp2_with fail;refine (XR.out _ _ _ _ _ sG.o (by unfold maxLen at SX ⊢;omega)).mono ?_;rintro e w9 ⟨rfl,hb9⟩;have bC9:=bC2.grows hb9;have e0:=bC9.c0;have e1:=bC9.c1;have f0:=bC9.frozen 0;have f1:=bC9.frozen 1;go_wp2_with fail;refine bodyPost_ret (v:=.agg #[.int .i64 M,.int .u32 ((a.c |||b.c:Nat):Int)]) ?_ rfl ⟨by rw[aQ.o],?_⟩
    ·first | (simp[results,Tryz.results126,go_sem,e0,e1];done) | (simp[results,Tryz.results126,go_sem,e0,e1];exact hM.o)
    ·exact ah.setCell (ah.setCell ((hg1.below.trans (hg.mono ω)).trans (hb9.below.mono ω)) (by simp;omega) _) (by simp;omega) _
theorem J8 {α:Type} {q:α→Bool} {l:List α} {k:Nat} {x:α} (h:l[k]? = some x):(l.take (k+1)).any q=((l.take k).any q||q x):=by
 rw[List.take_add_one,h];simp
theorem Jo {A:Option Addr} {m c:Nat} {l:List Hl} {n:List UInt8} (w:World) (h:dH w 3 XL A m l) (hm:m≤9223372036854775807) :
 Calls Tryz.prog 19 #[.slice A m c,.string ⟨n.toArray⟩] w fun e w'=>e =.returned (.tuple #[.agg #[.int .i64 (AA (gG l n)).lv,.int .u32 ((AA (gG l n)).c:Int)],.bool (gG l n).isSome])∧ah w w':=by
 have qA:=ζ h.1;obtain⟨R,hR⟩:∃R,R=gG l n:=⟨_,rfl⟩;rw[←hR];replace hR:=ζ hR;replace h:=ζ h;go_enter Tryz.func19,Tryz.ntmps19
 go_wp2;have b1:Hid (aS (w.alloc (.cells #[.int .i64 0,.int .u32 0] 40)) w.heap.size 40 #[.int .i64 0,.int .u32 0]):=ζ (aS.new w _ _);go_loopw [6] (fun iv wr=>∃k:Nat,k≤m∧iv=.int .i64 (k:Int)∧Hid ((l.take k).any (fun x=>x.n ==n)=false)∧Hid (aS wr w.heap.size 40 #[.int .i64 0,.int .u32 0])∧Hid (ah w wr)) (fun iv _=>m - (intOf iv).toNat)
 case atStart=>exact⟨0,ω,rfl,ζ σ,b1,ζ ((ah.refl w).alloc _)⟩
 case round=>
  clear b1;obtain⟨k,hk,rfl,hno,b1,hG⟩:=hrel;have d0:=b1.out.cell 0;have d1:=b1.out.cell 1;have f0:=b1.out.frozen 0;have f1:=b1.out.frozen 1;have s1:=b1.out.lt;by_cases nV:k<m
  ·obtain⟨b,off,x,rfl,hbb,hx,hcell⟩:=(h.o.keep hG.o).at_ nV;have c0:wr.cell? ⟨b,off+k*3,none⟩=some (.string ⟨x.n.toArray⟩):=by simpa using hcell 0 _ rfl
   have c1:wr.cell? ⟨b,off+k*3+1,none⟩=some (.int .i64 x.l.lv):=hcell 1 _ rfl;have c2:wr.cell? ⟨b,off+k*3+2,none⟩=some (.int .u32 (x.l.c:Int)):=hcell 2 _ rfl;have j_:(k:Int)<(m:Int):=ω;cases hb:(x.n ==n) with
   | true=>
    have iW:=hR.o;rw[Ot hx hb hno.o] at iW;subst iW;have hG0:=hG.o;clear hR hno hcell hx hG;go_wp2_with fail;refine bodyPost_ret (v:=.tuple #[.agg #[.int .i64 x.l.lv,.int .u32 (x.l.c:Int)],.bool true]) ?_ rfl ⟨rfl,?_⟩
    ·simp[results,Tryz.results19,go_sem,d0,d1]
    ·exact γ
   | false=>
    have vS:Hid ((l.take (k+1)).any (fun x=>x.n ==n)=false):=ζ (by rw[J8 hx,hno.o,hb];rfl);clear hno hcell hx;go_wp2;go_roundw
    case rel=>exact⟨k+1,ω,ν,vS,b1,hG⟩
    case measure=>exact ψ
  ·have j_:¬(k:Int)<(m:Int):=ω;have iW:=hR.o;have vS:=hno.o;rw[List.take_of_length_le (by rw[qA.o];omega)] at vS;rw[V_ vS] at iW;subst iW;have hG0:=hG.o;clear hR hno vS hG;go_wp2_with fail;refine bodyPost_ret (v:=.tuple #[.agg #[.int .i64 0,.int .u32 0],.bool false]) ?_ rfl ⟨rfl,?_⟩
   ·simp[results,Tryz.results19,go_sem,d0,d1]
   ·exact γ
theorem Y4 {p:dU} {n:List UInt8} {l:Cc} (w:World) (hp:p.At w) (hl:l.ok) :
 Calls Tryz.prog 98 #[p.val,.string ⟨n.toArray⟩,.agg #[.int .i64 l.lv,.int .u32 (l.c:Int)]] w fun e w'=>e =.returned (.agg #[.int .i64 (jA p.dQ n l).lv,.int .u32 ((jA p.dQ n l).c:Int)])∧ah w w':=by
 have hA:=fun W (hW:ah w W)=>Jo (c:=p.a.k) (n:=n) W (hp.a.arr.keep hW) hp.a.le
 have NY:=hp.a.Yu;unfold dU.val;have jU:jA p.dQ n l = (match gG p.a.l n with | some r=>yC l r | none=>l):=rfl;obtain⟨⟨sl,sA,sm,sk⟩,⟨rl,rA,rm,rk⟩,⟨el,eA,em,ek⟩,⟨al,aA,am,ak⟩,o,oA,om,ok,i,iA,im,ik⟩:=p;simp only at hA jU NY ⊢;clear hp;cases hf:gG al n with
 | none=>
  rw[hf] at hA jU;simp only at jU;rw[jU];simp only[AA,Option.getD_none,Option.isSome_none] at hA;replace hA:=ζ hA;clear jU hf;go_enter Tryz.func98,Tryz.ntmps98
  go_wp2_with fail;refine (hA.o _ γ).mono ?_;rintro e w1 ⟨rfl,hb⟩;have bl:aS w1 (w.heap.size+1) 40 (Ii l):=((aS.vO w _ _ _).alloc _).grows hb;have l0:=bl.c0;have l1:=bl.c1;have b1:aS w1 (w.heap.size+1+1) 40 (Ii ⟨0,0⟩):=(aS.IQ w _ _ _ _).grows hb;have sl:=bl.lt;clear bl;have d0:_ = some (Value.int .i64 0):=b1.cell 0;have d1:_ = some (Value.int .u32 0):=b1.cell 1;have f0:=b1.frozen 0;have f1:=b1.frozen 1;have s1:=b1.lt;have hg:ah w w1:=by
   exact γ
  clear hA hb b1;go_wp2_with fail;refine bodyPost_ret (v:=.agg #[.int .i64 l.lv,.int .u32 (l.c:Int)]) ?_ rfl ⟨rfl,?_⟩
  ·simp only[results,Tryz.results98];go_simp
  ·exact γ
 | some r=>
  have hr:r.ok:=by obtain⟨x,hx,rfl⟩:=MW hf;exact NY x hx
  rw[hf] at hA jU;simp only at jU;rw[jU];simp only[AA,Option.getD_some,Option.isSome_some] at hA;have cJ:=fun W=>Za l r W hl hr
  generalize yC l r = J at *
  replace hA:=ζ hA;replace cJ:=ζ cJ;clear jU hf hr NY;go_enter Tryz.func98,Tryz.ntmps98
  go_wp2_with fail;refine (hA.o _ γ).mono ?_;rintro e w1 ⟨rfl,hb⟩;have bl:aS w1 (w.heap.size+1) 40 (Ii l):=((aS.vO w _ _ _).alloc _).grows hb;have l0:=bl.c0;have l1:=bl.c1;have b1:aS w1 (w.heap.size+1+1) 40 (Ii ⟨0,0⟩):=(aS.IQ w _ _ _ _).grows hb;have sl:=bl.lt;clear bl;have s0:=b1.lt;have hg:ah w w1:=by
   exact γ
  clear hA hb;go_wp2_with fail;refine (cJ.out _).mono ?_;rintro e w2 ⟨rfl,hb2⟩;replace b1:=(b1.alloc _).grows hb2;have d0:_ = some (Value.int .i64 0):=b1.cell 0;have d1:_ = some (Value.int .u32 0):=b1.cell 1;have f0:=b1.frozen 0;have f1:=b1.frozen 1;have s1:=b1.lt;have hg2:ah w w2:=by
   exact γ
  clear cJ hb2 b1 hg s0;go_wp2_with fail;refine bodyPost_ret (v:=.agg #[.int .i64 J.lv,.int .u32 (J.c:Int)]) ?_ rfl ⟨rfl,?_⟩
  ·simp only[results,Tryz.results98];go_simp
  ·exact γ
end Go.Proofs.YteojanlajhebhaaGreatDoor
namespace Go.Proofs.YteojanlajhebhaaGreatDoor
open Go.RowKit Go.Maps
def xE (fb:jq→Bool) (x:dU):Prop:=(∀r∈x.o,∀y∈r.r.wh,Hf fb y∧y.v.length≤9223372036854775807)∧∀i∈x.i,(∀y∈i.i.from_,Hf fb y∧y.v.length≤9223372036854775807)∧∀y∈i.i.wh,Hf fb y∧y.v.length≤9223372036854775807
theorem UY {l:List F6} {rs:List Hl} {fb:jq→Bool} {k:Nat} {x:F6} (h:l[k]? = some x) (hn:(l.take k).any (fun y=>jL rs fb y.r)=false):(l.take (k+1)).any (fun y=>jL rs fb y.r)=jL rs fb x.r:=by
 rw[List.take_add_one,h,List.any_append,hn];simp
theorem ZL {l:List JO} {fb:jq→Bool} {k:Nat} {x:JO} (h:l[k]? = some x) (hn:(l.take k).any (fun y=>ru fb y.i)=false):(l.take (k+1)).any (fun y=>ru fb y.i)=ru fb x.i:=by
 rw[List.take_add_one,h,List.any_append,hn];simp
theorem acy {fb:jq→Bool} {q:dU} (w:World) (hq:q.At w) (hf:xE fb q) :
 Calls Tryz.prog 20 #[q.val] w fun e w'=>e =.returned (.int .i64 (jJ fb q.dQ))∧ah w w':=by
 obtain⟨R,hR⟩:∃R,R=jJ fb q.dQ:=⟨_,rfl⟩;rw[←hR];unfold jJ at hR;have anW:OX q.dQ=(decide (12<q.s.m)||(decide (12<q.r.m)||(decide (12<q.e.m)||(decide (12<q.a.m)||(decide (12<q.om)||decide (12<q.im)))))):=by
  unfold OX Ju;have e1:=hq.s.arr.1;have e2:=hq.r.arr.1;have e3:=hq.e.arr.1;have e4:=hq.a.arr.1;have e5:q.dQ.routes.length=q.om:=by simp[dU.dQ,hq.o.1]
  have e6:q.dQ.IX.length=q.im:=by simp[dU.dQ,hq.i.1]
  rw[e5,e6,Bool.eq_iff_iff];simp only[dU.dQ,List.any_cons,List.any_nil,Bool.or_eq_true,decide_eq_true_eq,e1,e2,e3,e4,Bool.or_false];omega
 rw[anW,ae1] at hR;clear anW;generalize hL:(decide (12<q.s.m)||(decide (12<q.r.m)||(decide (12<q.e.m)||(decide (12<q.a.m)||(decide (12<q.om)||decide (12<q.im))))))=L at *
 replace hL:=hL.symm;have cN:=fun (x:jl) W (hx:x.At W)=>aci W hx
 unfold jl.val at cN;have QA:=hq.ole;have him:=hq.ile;have QB:=ζ hq.o.1;have ZW:=ζ hq.i.1;replace hq:=ζ hq;replace hf:=ζ hf;replace cN:=ζ cN;have hB:=ζ (aS.new w 26 (EM q));have hG:=ζ ((ah.refl w).alloc (.cells (EM q) 26));unfold dU.val;by_cases h1:12<q.s.m
 ·skip
  have hi:(12:Int)<(q.s.m:Int):=ω;have hl:L=true:=by rw[hL];simp only[Bool.or_eq_true,decide_eq_true_eq];omega
  rw[if_pos hl] at hR;subst hR;go_enter Tryz.func20,Tryz.ntmps20
  go_wp2;go_ret;exact⟨rfl,hG.o⟩
 have n1:¬(12:Int)<(q.s.m:Int):=ω;by_cases h2:12<q.r.m
 ·skip
  have hi:(12:Int)<(q.r.m:Int):=ω;have hl:L=true:=by rw[hL];simp only[Bool.or_eq_true,decide_eq_true_eq];omega
  rw[if_pos hl] at hR;subst hR;go_enter Tryz.func20,Tryz.ntmps20
  go_wp2;go_ret;exact⟨rfl,hG.o⟩
 have n2:¬(12:Int)<(q.r.m:Int):=ω;by_cases h3:12<q.e.m
 ·skip
  have hi:(12:Int)<(q.e.m:Int):=ω;have hl:L=true:=by rw[hL];simp only[Bool.or_eq_true,decide_eq_true_eq];omega
  rw[if_pos hl] at hR;subst hR;go_enter Tryz.func20,Tryz.ntmps20
  go_wp2;go_ret;exact⟨rfl,hG.o⟩
 have n3:¬(12:Int)<(q.e.m:Int):=ω;by_cases h4:12<q.a.m
 ·skip
  have hi:(12:Int)<(q.a.m:Int):=ω;have hl:L=true:=by rw[hL];simp only[Bool.or_eq_true,decide_eq_true_eq];omega
  rw[if_pos hl] at hR;subst hR;go_enter Tryz.func20,Tryz.ntmps20
  go_wp2;go_ret;exact⟨rfl,hG.o⟩
 have n4:¬(12:Int)<(q.a.m:Int):=ω;by_cases h5:12<q.om
 ·skip
  have hi:(12:Int)<(q.om:Int):=ω;have hl:L=true:=by rw[hL];simp only[Bool.or_eq_true,decide_eq_true_eq];omega
  rw[if_pos hl] at hR;subst hR;go_enter Tryz.func20,Tryz.ntmps20
  go_wp2;go_ret;exact⟨rfl,hG.o⟩
 have n5:¬(12:Int)<(q.om:Int):=ω;by_cases h6:12<q.im
 ·skip
  have hi:(12:Int)<(q.im:Int):=ω;have hl:L=true:=by rw[hL];simp only[Bool.or_eq_true,decide_eq_true_eq];omega
  rw[if_pos hl] at hR;subst hR;go_enter Tryz.func20,Tryz.ntmps20
  go_wp2;go_ret;exact⟨rfl,hG.o⟩
 have n6:¬(12:Int)<(q.im:Int):=ω;have hl:L=false:=by rw[hL,←Bool.not_eq_true];simp only[Bool.or_eq_true,decide_eq_true_eq];omega
 rw[if_neg (by rw[hl];decide)] at hR;clear hL hl;unfold dU.lists at hR;simp only[List.any_cons,List.any_nil,Bool.or_false] at hR;clear h1 h2 h3 h4 h5 h6;generalize hN1:ku q.s.l = NB1 at *
 generalize hN2:ku q.r.l = NB2 at *
 generalize hN3:ku q.e.l = NB3 at *
 generalize hN4:ku q.a.l = NB4 at *
 replace hN1:=ζ hN1;replace hN2:=ζ hN2;replace hN3:=ζ hN3;replace hN4:=ζ hN4;replace hR:=ζ hR;go_enter Tryz.func20,Tryz.ntmps20
 go_wp2_with fail;refine (cN.out q.s _ (hq.o.s.keep hG.o)).mono ?_;rintro e w1 ⟨rfl,hb⟩;replace hB:=ζ (hB.o.grows hb);replace hG:=ζ (hG.o.trans hb);clear hb;have c0:=hB.o.c0;have c1:=hB.o.c1;have c2:=hB.o.c2;have c3:=hB.o.c3;have c4:=hB.o.c4;have lB:=hB.o.lt;rw[hN1.o];cases NB1 with
 | false=>
  obtain rfl:R=1:=by rw[hR.o];simp
  go_wp2;go_ret;exact⟨rfl,hG.o⟩
 | true=>
 go_wp2_with fail;refine (cN.out q.r _ (hq.o.r.keep hG.o)).mono ?_;rintro e w2 ⟨rfl,hb⟩;replace hB:=ζ (hB.o.grows hb);replace hG:=ζ (hG.o.trans hb);clear hb;have c0:=hB.o.c0;have c1:=hB.o.c1;have c2:=hB.o.c2;have c3:=hB.o.c3;have c4:=hB.o.c4;have lB:=hB.o.lt;rw[hN2.o];cases NB2 with
 | false=>
  obtain rfl:R=1:=by rw[hR.o];simp
  go_wp2;go_ret;exact⟨rfl,hG.o⟩
 | true=>
 go_wp2_with fail;refine (cN.out q.e _ (hq.o.e.keep hG.o)).mono ?_;rintro e w3 ⟨rfl,hb⟩;replace hB:=ζ (hB.o.grows hb);replace hG:=ζ (hG.o.trans hb);clear hb;have c0:=hB.o.c0;have c1:=hB.o.c1;have c2:=hB.o.c2;have c3:=hB.o.c3;have c4:=hB.o.c4;have lB:=hB.o.lt;rw[hN3.o];cases NB3 with
 | false=>
  obtain rfl:R=1:=by rw[hR.o];simp
  go_wp2;go_ret;exact⟨rfl,hG.o⟩
 | true=>
 go_wp2_with fail;refine (cN.out q.a _ (hq.o.a.keep hG.o)).mono ?_;rintro e w4 ⟨rfl,hb⟩;replace hB:=ζ (hB.o.grows hb);replace hG:=ζ (hG.o.trans hb);clear hb;have c0:=hB.o.c0;have c1:=hB.o.c1;have c2:=hB.o.c2;have c3:=hB.o.c3;have c4:=hB.o.c4;have lB:=hB.o.lt;rw[hN4.o];cases NB4 with
 | false=>
  obtain rfl:R=1:=by rw[hR.o];simp
  go_wp2;go_ret;exact⟨rfl,hG.o⟩
 | true=>
 have iW:Hid (R=if (q.o.any (fun y=>jL q.r.l fb y.r)||q.i.any (fun y=>ru fb y.i))=true then 1 else 0):=ζ (by rw[hR.o];simp);clear hR hN1 hN2 hN3 hN4;go_wp2;clear c0 c1 c2 c3 c4 lB n1 n2 n3 n4 n5 n6 cN;go_loopw [3,4,5,6] (fun i _ _ _ wr=>∃k:Nat,k≤q.om∧i =.int .i64 (k:Int)∧Hid ((q.o.take k).any (fun y=>jL q.r.l fb y.r)=false)∧Hid (aS wr w.heap.size 26 (EM q))∧Hid (ah w wr)) (fun i _ _ _ _=>q.om-(intOf i).toNat)
 case atStart=>exact⟨0,ω,rfl,ζ σ,hB,hG⟩
 case round=>
  clear hB hG;obtain⟨k,hk,rfl,hn,hB,hG⟩:=hrel;have e1:=hB.o.c1;have e4:=hB.o.c4;have lB:=hB.o.lt;by_cases nV:k<q.om
  ·obtain⟨b,off,x,O8,JI,hx,hcell⟩:=(hq.o.o.keep hG.o).at_ nV;rw[O8] at e4;have k0:wr.cell? ⟨b,off+k*6,none⟩=some (.string ⟨x.r.r.toArray⟩):=by simpa using hcell 0 _ rfl
   have k1:wr.cell? ⟨b,off+k*6+1,none⟩=some (.slice x.bA x.bm x.bk):=hcell 1 _ rfl;have k2:wr.cell? ⟨b,off+k*6+2,none⟩=some (.int .i64 x.r.wait):=hcell 2 _ rfl;have k3:wr.cell? ⟨b,off+k*6+3,none⟩=some (.int .i64 x.r.every):=hcell 3 _ rfl;have k4:wr.cell? ⟨b,off+k*6+4,none⟩=some (.int .i64 x.r.again):=hcell 4 _ rfl;have k5:wr.cell? ⟨b,off+k*6+5,none⟩=some (.slice x.wA x.wm x.wk):=hcell 5 _ rfl;have j_:(k:Int)<(q.om:Int):=ω;have NS:=List.mem_of_getElem? hx;have Md:=hq.o.oAt x NS;have hstep:=UY (rs:=q.r.l) (fb:=fb) hx hn.o;have lN:Hid (jL q.r.l fb x.r = true→R=1):=ζ (fun hb=>by
    rw[iW.o,DC (k:=k+1) (by rw[hstep,hb])];simp)
   have MF:jL q.r.l fb x.r = (!(gG q.r.l x.r.r).isSome||(!XT x.r.iM||(!Af x.r || !uw fb x.r.wh))):=by
    unfold jL;cases gG q.r.l x.r.r <;> rfl
   have cF:=ζ (fun W (hW:ah w W)=>Jo (c:=q.r.k) (n:=x.r.r) W (hq.o.r.arr.keep hW) hq.o.r.le);have cB:=ζ (fun W (hW:ah w W)=>ael (c:=x.bk) W (Md.iM.keep hW) Md.Ve Md.TG);have cW:=ζ (fun W (hW:ah w W)=>NC (c:=x.wk) W (Md.wh.keep hW) Md.WQ (fun y hy=>(hf.o.1 x NS y hy).1) (fun y hy=>(hf.o.1 x NS y hy).2));replace hstep:=ζ hstep;have hT0:=ζ (aS.new wr 61 #[.string ⟨x.r.r.toArray⟩,.slice x.bA x.bm x.bk,.int .i64 x.r.wait,.int .i64 x.r.every,.int .i64 x.r.again,.slice x.wA x.wm x.wk]);have hb:=(ah.refl wr).alloc (.cells #[.string ⟨x.r.r.toArray⟩,.slice x.bA x.bm x.bk,.int .i64 x.r.wait,.int .i64 x.r.every,.int .i64 x.r.again,.slice x.wA x.wm x.wk] 61);replace hB:=ζ (hB.o.grows hb);replace hG:=ζ (hG.o.trans hb);have hT:=hT0;clear hb hT0 hcell hx NS Md hn;generalize AA (gG q.r.l x.r.r)=FL at *
   generalize (gG q.r.l x.r.r).isSome=F at *
   generalize XT x.r.iM=BY at *
   generalize uw fb x.r.wh=WH at *
   generalize aoW:jL q.r.l fb x.r = RB at *
   clear aoW;replace MF:=ζ MF;go_wp2_with fail;refine (cF.out _ hG.o).mono ?_;rintro e w5 ⟨rfl,hb⟩;generalize wr.alloc (.cells #[.string ⟨x.r.r.toArray⟩,.slice x.bA x.bm x.bk,.int .i64 x.r.wait,.int .i64 x.r.every,.int .i64 x.r.again,.slice x.wA x.wm x.wk] 61)=w0 at *
   generalize wr.heap.size=gT at *
   clear k0 k1 k2 k3 k4 k5 e1 e4 lB O8;replace hT:=ζ (hT.o.grows hb);replace hB:=ζ (hB.o.grows hb);replace hG:=ζ (hG.o.trans hb);clear hb;have d1:=hT.o.c1;have d2:=hT.o.c2;have d3:=hT.o.c3;have d4:=hT.o.c4;have d5:=hT.o.c5;have lT:=hT.o.lt;clear cF;cases F with
   | false=>
    obtain rfl:=lN.o (show RB=true by rw[MF.o];rfl);go_wp2;go_ret;exact⟨rfl,hG.o.alloc _⟩
   | true=>
   have kC:=(ah.refl w5).alloc (.cells #[.int .i64 FL.lv,.int .u32 (FL.c:Int)] 40);have hb:=kC;go_wp2_with fail;generalize w5.alloc (.cells #[.int .i64 FL.lv,.int .u32 (FL.c:Int)] 40)=w6 at *
   clear d1 d2 d3 d4 d5 lT kC;replace hT:=ζ (hT.o.grows hb);replace hB:=ζ (hB.o.grows hb);replace hG:=ζ (hG.o.trans hb);clear hb;have d1:=hT.o.c1;have d2:=hT.o.c2;have d3:=hT.o.c3;have d4:=hT.o.c4;have d5:=hT.o.c5;have lT:=hT.o.lt;refine (cB.out _ hG.o).mono ?_;rintro e w7 ⟨rfl,hb⟩;clear d1 d2 d3 d4 d5 lT cB;replace hT:=ζ (hT.o.grows hb);replace hB:=ζ (hB.o.grows hb);replace hG:=ζ (hG.o.trans hb);clear hb;have d1:=hT.o.c1;have d2:=hT.o.c2;have d3:=hT.o.c3;have d4:=hT.o.c4;have d5:=hT.o.c5;have lT:=hT.o.lt;cases BY with
   | false=>
    have hx1:RB=true:=by rw[MF.o];rfl
    obtain rfl:=lN.o hx1;go_wp2;go_ret;exact⟨rfl,hG.o⟩
   | true=>
   have MC:RB=(!Af x.r || !WH):=by rw[MF.o];rfl
   clear MF;by_cases t1:x.r.wait<0
   ·have hx1:RB=true:=by rw[MC];unfold Af;rw[decide_eq_false (show ¬0≤x.r.wait by omega)];rfl
    clear MC;obtain rfl:=lN.o hx1;go_wp2;go_ret;exact⟨rfl,hG.o⟩
   by_cases t2:1000<x.r.wait
   ·have hx1:RB=true:=by rw[MC];unfold Af;rw[decide_eq_false (show ¬x.r.wait≤1000 by omega),Bool.and_false];rfl
    clear MC;obtain rfl:=lN.o hx1;go_wp2;go_ret;exact⟨rfl,hG.o⟩
   by_cases t3:x.r.every<1
   ·have hx1:RB=true:=by rw[MC];unfold Af;rw[decide_eq_false (show ¬1≤x.r.every by omega),Bool.false_and,Bool.false_and,Bool.and_false];rfl
    clear MC;obtain rfl:=lN.o hx1;go_wp2;go_ret;exact⟨rfl,hG.o⟩
   by_cases t4:1000<x.r.every
   ·have hx1:RB=true:=by rw[MC];unfold Af;rw[decide_eq_false (show ¬x.r.every≤1000 by omega),Bool.and_false,Bool.false_and,Bool.and_false];rfl
    clear MC;obtain rfl:=lN.o hx1;go_wp2;go_ret;exact⟨rfl,hG.o⟩
   by_cases t5:x.r.again<x.r.every
   ·have hx1:RB=true:=by rw[MC];unfold Af;rw[decide_eq_false (show ¬x.r.every≤x.r.again by omega),Bool.false_and,Bool.and_false,Bool.and_false];rfl
    clear MC;obtain rfl:=lN.o hx1;go_wp2;go_ret;exact⟨rfl,hG.o⟩
   by_cases t6:100000<x.r.again
   ·have hx1:RB=true:=by rw[MC];unfold Af;rw[decide_eq_false (show ¬x.r.again≤100000 by omega),Bool.and_false,Bool.and_false,Bool.and_false];rfl
    clear MC;obtain rfl:=lN.o hx1;go_wp2;go_ret;exact⟨rfl,hG.o⟩
   have ZR:RB= !WH:=by
    rw[MC];unfold Af;rw[decide_eq_true (show 0≤x.r.wait by omega),decide_eq_true (show x.r.wait≤1000 by omega),decide_eq_true (show 1≤x.r.every by omega),decide_eq_true (show x.r.every≤1000 by omega),decide_eq_true (show x.r.every≤x.r.again by omega),decide_eq_true (show x.r.again≤100000 by omega)];rfl
   replace ZR:=ζ ZR;clear MC;go_wp2_with fail;refine (cW.out _ hG.o).mono ?_;rintro e w8 ⟨rfl,hb⟩;replace hB:=ζ (hB.o.grows hb);replace hG:=ζ (hG.o.trans hb);clear hb d1 d2 d3 d4 d5 lT cW hT;cases WH with
   | false=>
    have hx1:RB=true:=ZR.o;obtain rfl:=lN.o hx1;go_wp2;go_ret;exact⟨rfl,hG.o⟩
   | true=>
    have O9:=hstep.o;rw[ZR.o] at O9;replace O9:=ζ O9;clear ZR;go_wp2;go_roundw
    case rel=>exact⟨k+1,ω,ν,O9,hB,hG⟩
    case measure=>exact ψ
  ·have j_:¬(k:Int)<(q.om:Int):=ω;rw[List.take_of_length_le (by rw[QB.o];omega)] at hn;have Iw:Hid (R=if q.i.any (fun y=>ru fb y.i)=true then 1 else 0):=ζ (by rw[iW.o,hn.o];simp);clear iW hn e1;go_wp2;go_loopw [7,8] (fun i _ wr2=>∃k:Nat,k≤q.im∧i =.int .i64 (k:Int)∧Hid ((q.i.take k).any (fun y=>ru fb y.i)=false)∧Hid (aS wr2 w.heap.size 26 (EM q))∧Hid (ah w wr2)) (fun i _ _=>q.im-(intOf i).toNat)
   case atStart=>exact⟨0,ω,rfl,ζ σ,hB,hG⟩
   case round=>
    clear hB hG e4 lB;obtain⟨k,hk,rfl,hn,hB,hG⟩:=hrel;have e5:=hB.o.c5;have lB:=hB.o.lt;by_cases nV:k<q.im
    ·obtain⟨b,off,x,O8,JI,hx,hcell⟩:=(hq.o.i.keep hG.o).at_ nV;rw[O8] at e5;have k0:wr.cell? ⟨b,off+k*5,none⟩=some (.slice x.bA x.bm x.bk):=by simpa using hcell 0 _ rfl
     have k1:wr.cell? ⟨b,off+k*5+1,none⟩=some (.int .i64 x.i.l.lv):=hcell 1 _ rfl;have k2:wr.cell? ⟨b,off+k*5+2,none⟩=some (.int .u32 (x.i.l.c:Int)):=hcell 2 _ rfl;have k3:wr.cell? ⟨b,off+k*5+3,none⟩=some (.slice x.fA x.fm x.fk):=hcell 3 _ rfl;have k4:wr.cell? ⟨b,off+k*5+4,none⟩=some (.slice x.wA x.wm x.wk):=hcell 4 _ rfl;have j_:(k:Int)<(q.im:Int):=ω;have NS:=List.mem_of_getElem? hx;have Md:=hq.o.iAt x NS;have hstep:=ZL (fb:=fb) hx hn.o;have lN:Hid (ru fb x.i = true→R=1):=ζ (fun hb=>by
      rw[Iw.o,DC (k:=k+1) (by rw[hstep,hb])];simp)
     have MF:ru fb x.i = (!XT x.i.iM||(!dK x.i.l.lv||(!uw fb x.i.from_|| !uw fb x.i.wh))):=rfl;have cB:=ζ (fun W (hW:ah w W)=>ael (c:=x.bk) W (Md.iM.keep hW) Md.Ve Md.TG);have cL:=ζ (fun W=>mM x.i.l W);have cV:=ζ (fun W (hW:ah w W)=>NC (c:=x.fk) W (Md.fr.keep hW) Md.apP (fun y hy=>((hf.o.2 x NS).1 y hy).1) (fun y hy=>((hf.o.2 x NS).1 y hy).2));have cW:=ζ (fun W (hW:ah w W)=>NC (c:=x.wk) W (Md.wh.keep hW) Md.WQ (fun y hy=>((hf.o.2 x NS).2 y hy).1) (fun y hy=>((hf.o.2 x NS).2 y hy).2));replace hstep:=ζ hstep;have hT0:=ζ (aS.new wr 106 #[.slice x.bA x.bm x.bk,.int .i64 x.i.l.lv,.int .u32 (x.i.l.c:Int),.slice x.fA x.fm x.fk,.slice x.wA x.wm x.wk]);have hb:=(ah.refl wr).alloc (.cells #[.slice x.bA x.bm x.bk,.int .i64 x.i.l.lv,.int .u32 (x.i.l.c:Int),.slice x.fA x.fm x.fk,.slice x.wA x.wm x.wk] 106);replace hB:=ζ (hB.o.grows hb);replace hG:=ζ (hG.o.trans hb);have hT:=hT0;clear hb hT0 hcell hx NS Md hn;generalize XT x.i.iM=BY at *
     generalize dK x.i.l.lv=LR at *
     generalize uw fb x.i.from_=WF at *
     generalize uw fb x.i.wh=WH at *
     generalize aoW:ru fb x.i = RB at *
     clear aoW;go_wp2_with fail;generalize wr.alloc (.cells #[.slice x.bA x.bm x.bk,.int .i64 x.i.l.lv,.int .u32 (x.i.l.c:Int),.slice x.fA x.fm x.fk,.slice x.wA x.wm x.wk] 106)=w0 at *
     generalize wr.heap.size=gT at *
     clear k0 k1 k2 k3 k4 e5 lB O8;refine (cB.out _ hG.o).mono ?_;rintro e w5 ⟨rfl,hb⟩;clear cB;replace hT:=ζ (hT.o.grows hb);replace hB:=ζ (hB.o.grows hb);replace hG:=ζ (hG.o.trans hb);clear hb;have d1:=hT.o.c1;have d2:=hT.o.c2;have d3:=hT.o.c3;have d4:=hT.o.c4;have lT:=hT.o.lt;cases BY with
     | false=>
      have hx1:RB=true:=MF;obtain rfl:=lN.o hx1;go_wp2;go_ret;exact⟨rfl,hG.o⟩
     | true=>
     go_wp2_with fail;refine (cL.out _).mono ?_;rintro e w6 ⟨rfl,hb⟩;clear cL d1 d2 d3 d4 lT;replace hT:=ζ (hT.o.grows hb);replace hB:=ζ (hB.o.grows hb);replace hG:=ζ (hG.o.trans hb);clear hb;have d1:=hT.o.c1;have d2:=hT.o.c2;have d3:=hT.o.c3;have d4:=hT.o.c4;have lT:=hT.o.lt;cases LR with
     | false=>
      have hx1:RB=true:=MF;obtain rfl:=lN.o hx1;go_wp2;go_ret;exact⟨rfl,hG.o⟩
     | true=>
     go_wp2_with fail;refine (cV.out _ hG.o).mono ?_;rintro e w7 ⟨rfl,hb⟩;clear cV d1 d2 d3 d4 lT;replace hT:=ζ (hT.o.grows hb);replace hB:=ζ (hB.o.grows hb);replace hG:=ζ (hG.o.trans hb);clear hb;have d1:=hT.o.c1;have d2:=hT.o.c2;have d3:=hT.o.c3;have d4:=hT.o.c4;have lT:=hT.o.lt;cases WF with
     | false=>
      have hx1:RB=true:=MF;obtain rfl:=lN.o hx1;go_wp2;go_ret;exact⟨rfl,hG.o⟩
     | true=>
     go_wp2_with fail;refine (cW.out _ hG.o).mono ?_;rintro e w8 ⟨rfl,hb⟩;clear cW d1 d2 d3 d4 lT;replace hT:=ζ (hT.o.grows hb);replace hB:=ζ (hB.o.grows hb);replace hG:=ζ (hG.o.trans hb);clear hb;have d1:=hT.o.c1;have d2:=hT.o.c2;have d3:=hT.o.c3;have d4:=hT.o.c4;have lT:=hT.o.lt;cases WH with
     | false=>
      have hx1:RB=true:=MF;obtain rfl:=lN.o hx1;go_wp2;go_ret;exact⟨rfl,hG.o⟩
     | true=>
      have ZR:RB=false:=MF;have O9:=hstep.o;rw[ZR] at O9;replace O9:=ζ O9;clear ZR MF hT d1 d2 d3 d4 lT;go_wp2;go_roundw
      case rel=>exact⟨k+1,ω,ν,O9,hB,hG⟩
      case measure=>exact ψ
    ·have j_:¬(k:Int)<(q.im:Int):=ω;rw[List.take_of_length_le (by rw[ZW.o];omega)] at hn;obtain rfl:R=0:=by rw[Iw.o,hn.o];rfl
     clear Iw hn;go_wp2;go_ret;exact⟨rfl,hG.o⟩
end Go.Proofs.YteojanlajhebhaaGreatDoor
namespace Go.Proofs.YteojanlajhebhaaGreatDoor
open Go.RowKit
theorem acD {fs:List eu} {names:List (List UInt8)} {k:Nat} {f:eu} (h:fs[k]? = some f):dV (fs.take (k+1)) names=dV (fs.take k) names++(if f.n∈names then [f] else []):=by
 unfold dV;rw[List.take_add_one,h,List.filter_append];by_cases hm:f.n∈names <;> simp[hm]
theorem VB {A:Option Addr} {m c:Nat} {fs:List eu} {A2:Option Addr} {m2 c2:Nat} {names:List (List UInt8)} (w:World) (hA:dH w 2 fU A m fs) (hm:m≤1000) (hN:dH w 1 encS A2 m2 names) (hm2:m2≤9223372036854775807) :
 Calls Tryz.prog 32 #[.slice A m c,.slice A2 m2 c2] w fun e w'=>∃v,e =.returned v∧Own w' w.heap.size 63 2 fU v (dV fs names)∧ah w w':=by
 have qA:=ζ hA.1;have avt:=ζ hN.1;replace hA:=ζ hA;replace hN:=ζ hN;go_enter Tryz.func32,Tryz.ntmps32
 go_wp2;go_loopw [5,6,7] (fun o i _ wr=>∃(k:Nat),k≤m∧i =.int .i64 (k:Int)∧Hid (Own wr w.heap.size 63 2 fU o (dV (fs.take k) names))∧Hid (ah w wr)) (fun _ i _ _=>m - (intOf i).toNat)
 case atStart=>exact⟨0,ω,rfl,Own.iH _ _ _ _ _,ζ (ah.refl _)⟩
 case round=>
  obtain⟨k,hk,rfl,hO,hG⟩:=hrel;by_cases nV:k<m
  ·obtain⟨bb,off,f,rfl,JI,hx,hcell⟩:=hA.o.at_ nV;have k0:w.cell? ⟨bb,off+k*2,none⟩=some (.string ⟨f.n.toArray⟩):=by simpa using hcell 0 _ rfl
   have k1:w.cell? ⟨bb,off+k*2+1,none⟩=some (.string ⟨f.v.toArray⟩):=by simpa using hcell 1 _ rfl
   have j_:(k:Int)<(m:Int):=ω;have hpt:=ζ (acD (names:=names) hx);have QB:Hid ((dV (fs.take k) names).length≤k):=ζ (by
    have h1:(dV (fs.take k) names).length≤(fs.take k).length:=List.length_filter_le _ _;rw[List.length_take] at h1;omega)
   generalize dV (fs.take k) names=out at *
   clear hcell hx;go_wp2;go_loopw [5,7] (fun o2 kv wr2=>∃(j:Nat),j≤m2∧kv=.int .i64 (j:Int)∧Hid (¬f.n∈names.take j)∧Hid (Own wr2 w.heap.size 63 2 fU o2 out)∧Hid (ah wr wr2)) (fun _ kv _=>m2-(intOf kv).toNat)
   case atStart=>exact⟨0,ω,rfl,ζ σ,hO,ζ (ah.refl _)⟩
   case round=>
    clear hO;obtain⟨j,hj,rfl,hno,hO,dF⟩:=hrel;replace hG:=ζ (hG.o.trans dF.o);by_cases hjm:j < m2
    ·obtain⟨b2,o2,n,rfl,hs2,hn,nK⟩:=(hN.o.keep hG.o).at_ hjm;have n0:wr.cell? ⟨b2,o2+j,none⟩=some (.string ⟨n.toArray⟩):=by simpa using nK 0 _ rfl
     have c0:=hG.o.cell k0;have c1:=hG.o.cell k1;have hbb:bb<wr.heap.size:=Nat.lt_of_lt_of_le JI hG.o.size;have avG:(j:Int)<(m2:Int):=ω;by_cases hen:n = f.n
     ·have V3:(n ==f.n)=true:=by rw[hen];simp
      have Jv:Hid (out++[f]=dV (fs.take (k+1)) names):=ζ (by
       rw[hpt.o,if_pos];rw[←hen];exact List.mem_of_getElem? hn)
      clear hen nK hn hpt hno;go_wp2_with fail;refine bV (μ (.range 10) []) κ κ rfl κ π ?_;iterate 10 refine dX ?_
      refine gK ?_;replace hG:=ζ hG.o.drew;replace hO:=ζ hO.o.drew;replace c0:=((ah.refl wr).drew).cell c0;replace c1:=((ah.refl wr).drew).cell c1;replace hbb:=Nat.lt_of_lt_of_le hbb ((ah.refl wr).drew).size;clear dF n0 hs2 V3;generalize wr.drew=w7 at *
      go_wp2_with (at_builtin;(refine dM (x:=f) ap_ rfl (.tmp 30) (.tmp 35) rfl (hO.o.alloc _) rfl ⟨w7.heap.size,0,none⟩ rfl rfl (h_ (by exact heap_alloc_new w7 _)) (amo _) (by have:=hG.o.size;simp;omega) (by have:=QB.o;unfold maxLen;omega) (by have:=QB.o;omega) (fun v8 w8 MK hgr hat=> ?_);(have apC:=ζ ((hG.o.alloc _).bH hgr hO.o.eH));(replace MK:=ζ MK);clear hgr hat));go_roundw
      case rel=>exact⟨k+1,ω,ν,ζ (by rw[←Jv.o];exact MK.o),apC⟩
      case measure=>exact ψ
     ·have V3:(n ==f.n)=false:=by simp[hen]
      have vS:Hid (¬f.n∈names.take (j + 1)):=ζ (by
       rw[List.take_add_one,hn];have h1:=hno.o;simp only[Option.toList,List.mem_append,List.mem_singleton,not_or];exact⟨h1,fun e=>hen e.symm⟩)
      clear hen nK hn hno;go_wp2_with fail;refine bV (μ (.range 10) []) κ κ rfl κ π ?_;iterate 10 refine dX ?_
      refine gK ?_;go_wp2;go_roundw
      case rel=>exact⟨j + 1,ω,ν,vS,ζ hO.o.drew,ζ (by
       have dF:=dF.o;exact γ
      )⟩
      case measure=>exact ψ
    ·have avG:¬(j:Int)<(m2:Int):=ω;have Jv:Hid (out=dV (fs.take (k+1)) names):=ζ (by
      have h1:=hno.o;rw[List.take_of_length_le (by rw[avt.o];omega)] at h1;rw[hpt.o,if_neg h1,List.append_nil])
     clear hpt hno;go_wp2;go_roundw
     case rel=>exact⟨k+1,ω,ν,ζ (by rw[←Jv.o];exact hO.o),hG⟩
     case measure=>exact ψ
  ·have j_:¬(k:Int)<(m:Int):=ω;rw[List.take_of_length_le (by rw[qA.o];omega)] at hO;go_wp2;go_ret;exact⟨_,rfl,hO.o,hG.o⟩
theorem WS {p:HY} {fs:List eu} {l to:Cc} {k:Nat} {f:eu} (h:fs[k]? = some f):iY p (fs.take (k+1)) l to=iY p (fs.take k) l to++(if nO (jA p f.n l) to=true then [f] else []):=by
 unfold iY;rw[List.take_add_one,h,List.filter_append];by_cases hm:nO (jA p f.n l) to=true <;> simp[hm]
theorem WW {q:dU} {A:Option Addr} {m c:Nat} {fs:List eu} {l to:Cc} (w:World) (hq:q.At w) (hA:dH w 2 fU A m fs) (hm:m≤1000) (hl:l.ok) (ht:to.ok) :
 Calls Tryz.prog 64 #[q.val,.slice A m c,.agg #[.int .i64 l.lv,.int .u32 (l.c:Int)],.agg #[.int .i64 to.lv,.int .u32 (to.c:Int)]] w fun e w'=>∃v,e =.returned v∧Own w' w.heap.size 63 2 fU v (iY q.dQ fs l to)∧ah w w':=by
 have qA:=ζ hA.1;replace hA:=ζ hA;have cR:=ζ (fun (n:List UInt8) W (hW:ah w W)=>Y4 (n:=n) (l:=l) W (hq.keep hW) hl);have cF:=ζ (fun (n:List UInt8) W=>L6 (jA q.dQ n l) to W (Rx hq.a.Yu hl) ht);have hg1:=(((ah.refl w).alloc (.cells (EM q) 26)).alloc (.cells #[.int .i64 l.lv,.int .u32 (l.c:Int)] 40)).alloc (.cells #[.int .i64 to.lv,.int .u32 (to.c:Int)] 40);have hP:=ζ (((aS.new w 26 (EM q)).alloc (.cells #[.int .i64 l.lv,.int .u32 (l.c:Int)] 40)).alloc (.cells #[.int .i64 to.lv,.int .u32 (to.c:Int)] 40));have hL:=ζ ((aS.new (w.alloc (.cells (EM q) 26)) 40 #[.int .i64 l.lv,.int .u32 (l.c:Int)]).alloc (.cells #[.int .i64 to.lv,.int .u32 (to.c:Int)] 40));have hT:=ζ (aS.new ((w.alloc (.cells (EM q) 26)).alloc (.cells #[.int .i64 l.lv,.int .u32 (l.c:Int)] 40)) 40 #[.int .i64 to.lv,.int .u32 (to.c:Int)]);simp only[World.size_alloc] at hL hT;replace hg1:=ζ hg1;clear hq hl ht;unfold dU.val at cR ⊢;go_enter Tryz.func64,Tryz.ntmps64
 go_wp2;unfold EM at hP hL hT hg1;generalize ((w.alloc (.cells #[.slice q.s.A q.s.m q.s.k,.slice q.r.A q.r.m q.r.k,.slice q.e.A q.e.m q.e.k,.slice q.a.A q.a.m q.a.k,.slice q.oA q.om q.ok,.slice q.iA q.im q.ik] 26)).alloc (.cells #[.int .i64 l.lv,.int .u32 (l.c:Int)] 40)).alloc (.cells #[.int .i64 to.lv,.int .u32 (to.c:Int)] 40)=w1 at *
 have hgo:=ζ (Own.iH w1 w.heap.size 63 2 fU);go_loopw [9,10] (fun o i wr=>∃(k:Nat),k≤m∧i =.int .i64 (k:Int)∧Hid (Own wr w.heap.size 63 2 fU o (iY q.dQ (fs.take k) l to))∧Hid (aS wr w.heap.size 26 (EM q))∧Hid (aS wr (w.heap.size+1) 40 #[.int .i64 l.lv,.int .u32 (l.c:Int)])∧Hid (aS wr (w.heap.size+1+1) 40 #[.int .i64 to.lv,.int .u32 (to.c:Int)])∧Hid (ah w wr)) (fun _ i _=>m - (intOf i).toNat)
 case atStart=>exact⟨0,ω,rfl,hgo,hP,hL,hT,hg1⟩
 case round=>
  clear hgo hP hL hT hg1;obtain⟨k,hk,rfl,hO,hP,hL,hT,hG⟩:=hrel;by_cases nV:k<m
  ·obtain⟨bb,off,f,rfl,JI,hx,hcell⟩:=(hA.o.keep hG.o).at_ nV;have k0:wr.cell? ⟨bb,off+k*2,none⟩=some (.string ⟨f.n.toArray⟩):=by simpa using hcell 0 _ rfl
   have k1:wr.cell? ⟨bb,off+k*2+1,none⟩=some (.string ⟨f.v.toArray⟩):=by simpa using hcell 1 _ rfl
   have j_:(k:Int)<(m:Int):=ω;have hpt:=ζ (WS (p:=q.dQ) (l:=l) (to:=to) hx);have QB:Hid ((iY q.dQ (fs.take k) l to).length≤k):=ζ (by
    have h1:=uy q.dQ (fs.take k) l to;rw[List.length_take] at h1;omega)
   have cRf:=ζ (fun W (hW:ah wr W)=>cR.out f.n W (hG.o.trans hW));have cFf:=ζ (cF.out f.n);generalize iY q.dQ (fs.take k) l to=out at *
   have p0:=hP.o.c0;have p1:=hP.o.c1;have p2:=hP.o.c2;have p3:=hP.o.c3;have p4:=hP.o.c4;have p5:=hP.o.c5;have l0:=hL.o.c0;have l1:=hL.o.c1;have t0:=hT.o.c0;have t1:=hT.o.c1;have lP:=hP.o.lt;have lL:=hL.o.lt;have lT:=hT.o.lt;generalize jA q.dQ f.n l = RL at *
   generalize hFB:nO RL to=FB at *
   replace hFB:=ζ hFB;clear hcell hx;go_wp2_with fail;refine aJ κ ?_;refine rK (.range 10) 0 ?_;iterate 7 refine aB ?_
   refine bJ (.agg #[.int .i64 RL.lv,.int .u32 (RL.c:Int)]) rfl χ (fun wq gY=> ?_) ?_
   ·obtain⟨qB,rE⟩:=bW gY;go_simp;exact Calls.mono (cRf.out wq gY) (fun e w'' h=>h)
   go_simp;iterate 1 refine aB ?_
   refine bJ (.bool FB) rfl χ (fun wq gY=> ?_) ?_
   ·obtain⟨qB,rE⟩:=bW gY;go_simp;exact Calls.mono (cFf.out wq) (fun e w'' h=>h)
   go_simp;refine ay ?_;refine aP κ (fun wN hN hS=> ?_);replace hP:=ζ (hP.o.grows hN);replace hL:=ζ (hL.o.grows hN);replace hT:=ζ (hT.o.grows hN);replace hO:=ζ (hO.o.grows hN);replace k0:=hN.cell k0;replace k1:=hN.cell k1;replace JI:=Nat.lt_of_lt_of_le JI hN.size;replace hG:=ζ (hG.o.trans hN);clear hN hS p0 p1 p2 p3 p4 p5 l0 l1 t0 t1 lP lL lT cRf cFf;cases FB with
   | true=>
    have Jv:Hid (out++[f]=iY q.dQ (fs.take (k+1)) l to):=ζ (by rw[hpt.o];simp);clear hpt hFB;have nP:=ζ (iZ hO.o hP.o δ);have nL:=ζ (iZ hO.o hL.o δ);have nT:=ζ (iZ hO.o hT.o δ);go_wp2_with (at_builtin;go_loud ((refine dM (x:=f) ap_ rfl (.tmp 27) (.tmp 32) rfl (hO.o.alloc _) rfl ⟨wN.heap.size,0,none⟩ rfl rfl (h_ (by exact heap_alloc_new wN _)) (amo _) (by have:=hG.o.size;simp;omega) (by have:=QB.o;unfold maxLen;omega) (by have:=QB.o;omega) (fun v8 w8 MK hgr hat=> ?_);(have apC:=ζ ((hG.o.alloc (.cells #[.string ⟨f.n.toArray⟩,.string ⟨f.v.toArray⟩] 63)).bH hgr hO.o.eH));(have hP8:=ζ ((hgr.block _ (by have:=hP.o.lt;simp;omega) (fun e=>nP.out e.symm)).trans (hP.o.alloc (.cells #[.string ⟨f.n.toArray⟩,.string ⟨f.v.toArray⟩] 63))));(have hL8:=ζ ((hgr.block _ (by have:=hL.o.lt;simp;omega) (fun e=>nL.out e.symm)).trans (hL.o.alloc (.cells #[.string ⟨f.n.toArray⟩,.string ⟨f.v.toArray⟩] 63))));(have hT8:=ζ ((hgr.block _ (by have:=hT.o.lt;simp;omega) (fun e=>nT.out e.symm)).trans (hT.o.alloc (.cells #[.string ⟨f.n.toArray⟩,.string ⟨f.v.toArray⟩] 63))));(replace MK:=ζ MK);clear hgr hat)));go_roundw
    case rel=>exact⟨k+1,ω,ν,ζ (by rw[←Jv.o];exact MK.o),hP8,hL8,hT8,apC⟩
    case measure=>exact ψ
   | false=>
    have Jv:Hid (out=iY q.dQ (fs.take (k+1)) l to):=ζ (by rw[hpt.o];simp);clear hpt hFB;go_wp2;go_roundw
    case rel=>exact⟨k+1,ω,ν,ζ (by rw[←Jv.o];exact hO.o),hP,hL,hT,hG⟩
    case measure=>exact ψ
  ·have j_:¬(k:Int)<(m:Int):=ω;rw[List.take_of_length_le (by rw[qA.o];omega)] at hO;go_wp2;go_ret;exact⟨_,rfl,hO.o,hG.o⟩
def OC (a:Jj):Prop:=a.src.length≤9223372036854775807∧∀f∈a.fs,f.n.length≤9223372036854775807∧f.v.length≤9223372036854775807
theorem acz {a:iI} (w:World) (ha:a.At w) (P_:OC a.a) :
 Calls Tryz.prog 21 #[jy a] w fun e w'=>e =.returned (.bool (rD a.a))∧ah w w':=by
 have cN:=fun W=>Fj a.a.src P_.1 W
 have cF:=fun W (hW:ah w W)=>abY (c:=a.k) W (ha.arr.keep hW) (by have:=ha.le;omega) P_.2
 have cL:=fun W=>mM a.a.l W
 have hle:=ha.le;have Qc:=ha.arr.1;obtain⟨R,hR⟩:∃R,R=rD a.a:=⟨_,rfl⟩;rw[←hR];unfold rD Qx at hR;rw[Qc] at hR;generalize f_ a.a.src=N at *
 generalize mZ a.a.fs=FB at *
 generalize dK a.a.l.lv=L at *
 unfold jy;clear ha Qc P_;obtain⟨⟨src,fs,⟨lv,lc⟩,f,t⟩,A,m,k⟩:=a;simp only at cN cF cL hR hle ⊢;replace cN:=ζ cN;replace cF:=ζ cF;replace cL:=ζ cL;replace hR:=ζ hR;have hB:=ζ (aS.new w 44 #[.string ⟨src.toArray⟩,.slice A m k,.int .i64 lv,.int .u32 (lc:Int),.int .i64 f,.int .i64 t]);have hG:=ζ ((ah.refl w).alloc (.cells #[.string ⟨src.toArray⟩,.slice A m k,.int .i64 lv,.int .u32 (lc:Int),.int .i64 f,.int .i64 t] 44));go_enter Tryz.func21,Tryz.ntmps21
 go_wp2_with fail;refine (cN.out _).mono ?_;rintro e w1 ⟨rfl,hb⟩;generalize w.alloc (.cells #[.string ⟨src.toArray⟩,.slice A m k,.int .i64 lv,.int .u32 (lc:Int),.int .i64 f,.int .i64 t] 44)=w0 at *
 clear cN;replace hB:=ζ (hB.o.grows hb);replace hG:=ζ (hG.o.trans hb);clear hb;have d1:=hB.o.c1;have d2:=hB.o.c2;have d3:=hB.o.c3;have d4:=hB.o.c4;have d5:=hB.o.c5;have lT:=hB.o.lt;cases N with
 | false=>
  have iW:R=false:=by rw[hR.o];rfl
  subst iW;go_wp2;go_ret;exact⟨rfl,hG.o⟩
 | true=>
 by_cases FK:m < 1
 ·have hmi:(m:Int)<1:=ω;have iW:R=false:=by rw[hR.o,decide_eq_false (show ¬0<m by omega)];rfl
  subst iW;go_wp2;go_ret;exact⟨rfl,hG.o⟩
 have hmi:¬(m:Int)<1:=ω;go_wp2_with fail;refine (cF.out _ hG.o).mono ?_;rintro e w2 ⟨rfl,hb⟩;clear cF d1 d2 d3 d4 d5 lT;replace hB:=ζ (hB.o.grows hb);replace hG:=ζ (hG.o.trans hb);clear hb;have d1:=hB.o.c1;have d2:=hB.o.c2;have d3:=hB.o.c3;have d4:=hB.o.c4;have d5:=hB.o.c5;have lT:=hB.o.lt;cases FB with
 | false=>
  have iW:R=false:=by rw[hR.o];simp
  subst iW;go_wp2;go_ret;exact⟨rfl,hG.o⟩
 | true=>
 go_wp2_with fail;refine (cL.out _).mono ?_;rintro e w3 ⟨rfl,hb⟩;clear cL d1 d2 d3 d4 d5 lT;replace hB:=ζ (hB.o.grows hb);replace hG:=ζ (hG.o.trans hb);clear hb;have d1:=hB.o.c1;have d2:=hB.o.c2;have d3:=hB.o.c3;have d4:=hB.o.c4;have d5:=hB.o.c5;have lT:=hB.o.lt;cases L with
 | false=>
  have iW:R=false:=by rw[hR.o];simp
  subst iW;go_wp2;go_ret;exact⟨rfl,hG.o⟩
 | true=>
 have iW:R=(decide (0≤f∧f≤1099511627776)&&decide (t = 0∨(f < t∧t≤1099511627776))):=by
  rw[hR.o,decide_eq_true (show 0<m by omega)];rfl
 clear hR;by_cases a1:0≤f
 ·by_cases a2:f≤1099511627776
  ·rw[decide_eq_true (show 0≤f∧f≤1099511627776 from ⟨a1,a2⟩),Bool.true_and] at iW;by_cases a3:t = 0
   ·rw[decide_eq_true (show t = 0∨(f < t∧t≤1099511627776) from .inl a3)] at iW;have a3b:(t ==0)=true:=by rw[a3];rfl
    subst iW;clear a3;go_wp2;go_ret;exact⟨rfl,hG.o⟩
   ·have a3b:(t ==0)=false:=beq_eq_false_iff_ne.2 a3;by_cases a4:f < t
    ·have Iw:R=decide (t≤1099511627776):=by
      rw[iW,Bool.eq_iff_iff,decide_eq_true_eq,decide_eq_true_eq];omega
     clear iW a3;go_wp2;go_ret;exact⟨aU Iw.symm,hG.o⟩
    ·have Iw:R=false:=by rw[iW];exact decide_eq_false ω
     subst Iw;clear iW a3;go_wp2;go_ret;exact⟨rfl,hG.o⟩
  ·have Iw:R=false:=by rw[iW,decide_eq_false (show ¬(0≤f∧f≤1099511627776) by omega)];rfl
   subst Iw;clear iW;go_wp2;go_ret;exact⟨rfl,hG.o⟩
 ·have Iw:R=false:=by rw[iW,decide_eq_false (show ¬(0≤f∧f≤1099511627776) by omega)];rfl
  subst Iw;clear iW;go_wp2;go_ret;exact⟨rfl,hG.o⟩
theorem acr {a:iI} (w:World) (now:Int) :
 Calls Tryz.prog 22 #[jy a,.int .i64 now] w fun e w'=>e =.returned (.bool (vX a.a now))∧ah w w':=by
 obtain⟨R,hR⟩:∃R,R=vX a.a now:=⟨_,rfl⟩;rw[←hR];unfold vX at hR;unfold jy;obtain⟨⟨src,fs,⟨lv,lc⟩,f,t⟩,A,m,k⟩:=a;simp only at hR ⊢;have hG:=ζ ((ah.refl w).alloc (.cells #[.string ⟨src.toArray⟩,.slice A m k,.int .i64 lv,.int .u32 (lc:Int),.int .i64 f,.int .i64 t] 44));by_cases a1:f≤now
 ·rw[decide_eq_true a1,Bool.true_and] at hR;by_cases a3:t = 0
  ·rw[decide_eq_true a3,Bool.true_or] at hR;have a3b:(t ==0)=true:=by rw[a3];rfl
   subst hR;clear a3;go_enter Tryz.func22,Tryz.ntmps22
   go_wp2;go_ret;exact⟨rfl,hG.o⟩
  ·rw[decide_eq_false a3,Bool.false_or] at hR;have a3b:(t ==0)=false:=beq_eq_false_iff_ne.2 a3;clear a3;go_enter Tryz.func22,Tryz.ntmps22
   go_wp2;go_ret;exact⟨aU hR.symm,hG.o⟩
 ·rw[decide_eq_false a1,Bool.false_and] at hR;subst hR;go_enter Tryz.func22,Tryz.ntmps22
  go_wp2;go_ret;exact⟨rfl,hG.o⟩
theorem VL {p:dU} {a:iI} {to:Cc} (w:World) (hp:p.At w) (ha:a.At w) (ht:to.ok) :
 Calls Tryz.prog 23 #[p.val,jy a,.agg #[.int .i64 to.lv,.int .u32 (to.c:Int)]] w fun e w'=>∃v,e =.returned (.tuple #[v,.bool (G9 p.dQ a.a to).isSome])∧ae8 w' w.heap.size (G9 p.dQ a.a to) v∧ah w w':=by
 have cV:=fun W (hW:ah w W)=>WW (c:=a.k) W (hp.keep hW) (ha.arr.keep hW) ha.le ha.Yu ht
 have cF:=fun W=>L6 a.a.l to W ha.Yu ht
 have hcut:G9 p.dQ a.a to=(if (iY p.dQ a.a.fs a.a.l to).length=0∨nO a.a.l to=false then none else some {a.a with fs:=iY p.dQ a.a.fs a.a.l to}):=rfl;have hlen:=uy p.dQ a.a.fs a.a.l to;have hle:=ha.le;have wL:=ha.arr.1;generalize G9 p.dQ a.a to=RR at *
 generalize iY p.dQ a.a.fs a.a.l to=V at *
 generalize nO a.a.l to=F at *
 unfold jy dU.val;unfold dU.val at cV;clear hp ha;obtain⟨⟨sl,sA,sm,sk⟩,⟨rl,rA,rm,rk⟩,⟨el,eA,em,ek⟩,⟨al,aA,am,ak⟩,o,oA,om,ok,i,iA,im,ik⟩:=p;obtain⟨⟨src,fs,⟨lv,lc⟩,f,t⟩,A,m,k⟩:=a;simp only at cV cF hcut hlen hle wL ⊢;have hL:V.length≤1000:=ω;replace cV:=ζ cV;replace cF:=ζ cF;clear hlen hle wL;go_enter Tryz.func23,Tryz.ntmps23
 go_wp2_with fail;refine (cV.out _ γ).mono ?_;rintro e w1 ⟨v,rfl,hO,hb⟩;obtain⟨A1,c1,rfl,_,_,YD⟩:=hO.arr JW;have hg:ah w w1:=by
  exact γ
 have ba:aS w1 (w.heap.size+1) 44 (XZ ⟨⟨src,fs,⟨lv,lc⟩,f,t⟩,A,m,k⟩):=(((aS.vO w _ _ _).alloc _).alloc _).grows hb;have bt:aS w1 (w.heap.size+1+1) 40 (Ii to):=((aS.IQ w _ _ _ _).alloc _).grows hb;have br:aS w1 (w.heap.size+1+1+1) 44 E_:=(aS.arV w _ _ _ _ _).grows hb;simp only[World.size_alloc] at hO;replace hO:=ζ hO;clear hb cV YD;have a2:=ba.c2;have a3:=ba.c3;have t0:=bt.c0;have t1:=bt.c1;obtain⟨L,hLn⟩:∃L,L=V.length:=⟨_,rfl⟩;rw[←hLn] at hL hO ⊢;rw[←hLn] at hcut;replace hLn:=ζ hLn;go_wp2_with fail;refine (cF.out _).mono ?_;rintro e w2 ⟨rfl,hb2⟩;replace ba:=ba.grows hb2;replace bt:=bt.grows hb2;replace br:=br.grows hb2;replace hg:=hg.trans hb2;replace hO:=ζ (hO.o.grows hb2);clear cF a2 a3 t0 t1 hb2;cases F with
 | false=>
  rw[if_pos (.inr rfl)] at hcut;replace hcut:=ζ hcut;have x0:=ba.c0;have x1:=ba.c1;have x2:=ba.c2;have x3:=ba.c3;have x4:=ba.c4;have x5:=ba.c5;have xf:=fun i=>ba.frozen i
  have xl:=ba.lt;have y0:=br.c0;have y1:=br.c1;have y2:=br.c2;have y3:=br.c3;have y4:=br.c4;have y5:=br.c5;have yf:=fun i=>br.frozen i
  have yl:=br.lt;clear ba bt br hO;go_wp2_with fail;refine bodyPost_ret (v:=.tuple #[jM,.bool false]) ?_ rfl ⟨jM,by rw[hcut.o];rfl,by rw[hcut.o];exact rfl,?_⟩
  ·simp only[results,Tryz.results23,jM];go_simp
  ·exact Γ
 | true=>
  by_cases h0:L=0
  ·rw[if_pos (.inl h0)] at hcut;replace hcut:=ζ hcut;rw[h0];have x0:=ba.c0;have x1:=ba.c1;have x2:=ba.c2;have x3:=ba.c3;have x4:=ba.c4;have x5:=ba.c5;have xf:=fun i=>ba.frozen i
   have xl:=ba.lt;have y0:=br.c0;have y1:=br.c1;have y2:=br.c2;have y3:=br.c3;have y4:=br.c4;have y5:=br.c5;have yf:=fun i=>br.frozen i
   have yl:=br.lt;clear ba bt br hO h0 hL;go_wp2_with fail;refine bodyPost_ret (v:=.tuple #[jM,.bool false]) ?_ rfl ⟨jM,by rw[hcut.o];rfl,by rw[hcut.o];exact rfl,?_⟩
   ·simp only[results,Tryz.results23,jM];go_simp
   ·exact Γ
  ·rw[if_neg (by rintro (h | h);exact h0 h;cases h)] at hcut;replace hcut:=ζ hcut;have hi:¬(L:Int)=0:=ω;have hi2:((L:Int)==0)=false:=by rw[beq_eq_false_iff_ne];exact hi
   have x0:=ba.c0;have x1:=ba.c1;have x2:=ba.c2;have x3:=ba.c3;have x4:=ba.c4;have x5:=ba.c5;have xf:=fun i=>ba.frozen i
   have xl:=ba.lt;have y0:=br.c0;have y1:=br.c1;have y2:=br.c2;have y3:=br.c3;have y4:=br.c4;have y5:=br.c5;have yf:=fun i=>br.frozen i
   have yl:=br.lt;clear ba bt br h0;go_wp2_with fail;refine bodyPost_ret (v:=.tuple #[jy ⟨⟨src,V,⟨lv,lc⟩,f,t⟩,A1,L,c1⟩,.bool true]) ?_ rfl ⟨_,by rw[hcut.o];rfl,?_,?_⟩
   ·simp only[results,Tryz.results23,jy];go_simp
   ·rw[hcut.o];refine⟨A1,c1,by rw[hLn.o],?_⟩;rw[←hLn.o];refine Own.ig (base:=w.heap.size+1+1+1+1) ?_ ω;repeat (refine Own.abR ?_ ω _)
    exact hO.o
   ·exact Γ
def aaD (g h:oh):Prop:=g.route=h.route∧g.iM=h.iM∧g.ids.length≤h.ids.length∧h.ids.length≤g.ids.length+1
theorem aaD.refl (g:oh):aaD g g:=⟨rfl,rfl,Nat.le_refl _,Nat.le_succ _⟩
def ae7 (r:Nat) (gs hs:List oh):Prop:=
 (gs.length=hs.length∧∀(i:Nat) g h,gs[i]? = some g→hs[i]? = some h→aaD g h)∨(∃g:oh,hs=gs++[g]∧g.ids.length=1∧g.route=r)
theorem ae7.refl (r:Nat) (gs:List oh):ae7 r gs gs:=.inl ⟨rfl,fun i g h h1 h2=>by rw[h1] at h2;injection h2 with h2;subst h2;exact aaD.refl g⟩
theorem TQ (l:List Nat) (t:Nat):l.length≤(iU l t).length∧(iU l t).length≤l.length+1:=by
 refine⟨?_,WC l t⟩;unfold iU;split
 ·exact Nat.le_refl _
 ·rw[vJ (Jq l t)];omega
theorem WB (t:Nat):iU [] t = [t]:=by simp[iU,putAt,rX]
theorem FX {aX:List (List oh)} {r k id:Nat}:(pX aX r k id).length=aX.length∧(∀s,s≠r→(pX aX r k id)[s]? = aX[s]?):=by
 unfold pX;cases hr:aX[r]? with
 | none=>exact⟨rfl,fun _ _=>rfl⟩
 | some gs=>
  simp only;cases hk:gs[k]? with
  | none=>exact⟨rfl,fun _ _=>rfl⟩
  | some g=>exact⟨by simp,fun s hs=>by simp only;rw[List.getElem?_set_ne (Ne.symm hs)]⟩
theorem XU {aX:List (List oh)} {r k id:Nat} {gs:List oh} {g:oh} (hr:aX[r]? = some gs) (hk:gs[k]? = some g):(pX aX r k id)[r]? = some (gs.set k {g with ids:=iU g.ids id}):=by
 rw[sJ hr hk,List.getElem?_set_self (List.getElem?_eq_some_iff.1 hr).1]
theorem afs {rec:List UInt8} {id:Nat} {fs:List eu} {names:Nat→List (List UInt8)} {st:Qq} {r:Nat} {gs:List oh} (hr:st.aX[r]? = some gs) :
 (stepG rec id fs names st r).aX.length=st.aX.length∧(∀s,s≠r→(stepG rec id fs names st r).aX[s]? = st.aX[s]?)∧∃hs,(stepG rec id fs names st r).aX[r]? = some hs∧ae7 r gs hs:=by
 unfold stepG;cases hl:oO st.place (eU r (dV fs (names r))) with
 | some k=>
  simp only;refine⟨FX.1,FX.2,?_⟩;cases hk:gs[k]? with
  | none=>
   refine⟨gs,?_,ae7.refl r gs⟩;unfold pX;rw[hr];simp only;rw[hk];exact hr
  | some g=>
   refine⟨_,XU hr hk,.inl ⟨by simp,fun i a b h1 h2=> ?_⟩⟩;by_cases j_:k=i
   ·subst j_;rw[List.getElem?_set_self (List.getElem?_eq_some_iff.1 hk).1] at h2;rw[hk] at h1;injection h1 with h1;injection h2 with h2
    subst h1 h2;exact⟨rfl,rfl,(TQ g.ids id).1,(TQ g.ids id).2⟩
   ·rw[List.getElem?_set_ne j_] at h2;rw[h1] at h2;injection h2 with h2;subst h2
    exact aaD.refl _
 | none=>
  rw[hr];simp only;have jU:r < st.aX.length:=(List.getElem?_eq_some_iff.1 hr).1;refine⟨by rw[FX.1];simp,fun s hs=>by rw[FX.2 s hs,List.getElem?_set_ne (Ne.symm hs)],?_⟩;refine⟨_,XU (List.getElem?_set_self jU) List.getElem?_concat_length,.inr ⟨⟨r,dV fs (names r),yK rec r (dV fs (names r)),[id]⟩,?_,rfl,rfl⟩⟩;simp[WB]
theorem aft {rec:List UInt8} {id:Nat} {fs:List eu} {names:Nat→List (List UInt8)} {st:Qq} {r:Nat} (hr:st.aX[r]? = none):(stepG rec id fs names st r).aX=st.aX:=by
 unfold stepG;cases hl:oO st.place (eU r (dV fs (names r))) with
 | some k=>simp only;unfold pX;rw[hr]
 | none=>rw[hr]
end Go.Proofs.YteojanlajhebhaaGreatDoor
