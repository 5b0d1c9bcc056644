/- Parts: ShaL ShaM -/
import Derived.Test.YtbhikkgpcmkonaaGreatDoorVo0
import Derived.Laws.Cover3
import Derived.Test.YtbhikkgpcmkonaaGreatDoorVo4
set_option maxRecDepth 100000
set_option maxHeartbeats 12800000
namespace Go.Proofs.YtbhikkgpcmkonaaGreatDoor
open Go.RowKit
theorem adQ {P:Program} {t e:TypeId} (a:Option Addr) (l c:Nat) (h:P.underlying t = some (.slice e)) (w:World):(binOp .eql t (.slice a l c) (.slice none 0 0)).run P w =.ok (.bool a.isNone) w:=by
 simp only[binOp];simp[run_equal_slice_nil w t e a l c h]
theorem agU {A:Option Addr} {m c:Nat} {xs:List Nat} (w:World) (hA:bW w 1 jr A m xs) (hl:m≤1099511627776) :
 Calls Tryz.prog 181 #[.slice A m c] w fun e w'=>∃v,e =.returned v∧Own w' w.heap.size 5 1 jr v xs∧ah w w':=by
 have h63:([]:List Nat).length+m≤maxLen:=by unfold maxLen;simp;omega
 have hbytes:(([]:List Nat).length+m)*1≤140737488355328:=by simp;omega
 cases A with
 | none=>
  have hx:xs=[]:=by
   apply List.eq_nil_of_length_eq_zero;rw[hA.1];rcases Nat.eq_zero_or_pos m with h0 | h0
   ·exact h0
   ·obtain⟨b,off,h,_⟩:=hA.2 h0;cases h
  subst hx;have hnil:=fun W=>adQ (P:=Tryz.prog) none m c Tryz.underlying112 W
  go_enter Tryz.func181,Tryz.ntmps181
  go_wp2;go_ret;exact⟨_,rfl,Own.iO _ _ _ _ _,ah.refl _⟩
 | some ad=>
  have hO:Own (w.alloc (.cells #[] 5)) w.heap.size 5 1 jr (.slice (some ⟨w.heap.size,0,none⟩) 0 0) []:=
   Own.mk_ (xs:=[]) (cap:=0) hkB ω (Nat.le_refl _) (heap_alloc_new w _) σ (by simp[maxLen]) rfl (fun q h=>absurd h σ)
  have Z8:=hA.keep ((ah.refl w).alloc (.cells #[] 5));have Es:w.heap.size≤(w.alloc (.cells #[] 5)).heap.size:=by simp
  have hnil:=fun W=>adQ (P:=Tryz.prog) (some ad) m c Tryz.underlying112 W
  replace hO:=ζ hO;replace Z8:=ζ Z8;go_enter Tryz.func181,Tryz.ntmps181
  go_wp2_with (refine gU ZE rfl (.tmp 5) (.tmp 6) rfl hO.o rfl rfl Z8.o hkB aa_ Es h63 hbytes ?_;intro v2 w2 nM mG hv2;replace nM:=ζ nM);go_ret;exact⟨_,rfl,nM.o,((ah.refl w).alloc _).aQ mG (fun j hj=>by simp[Value.ownBlock] at hj;omega)⟩
theorem Own.bK {α:Type} {w:World} {base base' k:Nat} {e:TypeId} {enc:α→List Value} {v:Value} {xs:List α} (h:Own w base e k enc v xs) (hb:base'≤base):Own w base' e k enc v xs:=by
 refine⟨h.1,?_⟩;rcases h.2 with h2 | ⟨g',cap,cur,hv,hb',hh,r⟩
 ·exact .inl h2
 ·exact .inr ⟨g',cap,cur,hv,Nat.le_trans hb hb',hh,r⟩
theorem Jf {a w:World} {t:TypeId} {cs:Array Value} (_:ah a (w.alloc (.cells cs t))):aG (w.alloc (.cells cs t)) w.heap.size t cs:=aG.new w t cs
theorem Own.iC {α:Type} {w:World} {base k:Nat} {e:TypeId} {enc:α→List Value} {v:Value} {xs:List α} (h:Own w base e k enc v xs):∀j,v.ownBlock=some j→base≤j:=fun j hj=>by
 rcases h.2 with⟨h2,_⟩ | ⟨g',cap,cur,hv,hb',hh,r⟩
 ·rw[h2] at hj;cases hj
 ·rw[hv] at hj;simp only[Value.ownBlock,Option.some.injEq] at hj;omega
theorem bW.pI {w:World} {g:Nat} {t:TypeId} {x:Nat} (h:aG w g t #[.int .u8 (x:Int)]):bW w 1 jr (some ⟨g,0,none⟩) 1 [x]:=by
 refine⟨rfl,fun _=>⟨g,0,rfl,h.lt,fun i hi j u hu=> ?_⟩⟩;have hi0:i = 0:=by simpa using hi
 subst hi0;have hj:j = 0:=by have:=(List.getElem?_eq_some_iff.1 hu).1;simp[jr] at this;omega
 subst hj;rw[h.cell];exact hu
theorem ac8 (xs:List Nat) (i x:Nat):(wQ xs).setIfInBounds i (.int .u8 (x:Int))=wQ (xs.set i x):=by simp[wQ,List.map_set]
theorem G6 (v:V8):(Dt v).length=32:=rfl
theorem agZ (v:V8) {k:Nat} (hk:k<32):(Dt v).getD k 0=(gJ v).getD (k / 4) 0 / 2 ^ (24-8*(k % 4)) % 256:=by
 match k,hk with
 | 0,_ | 1,_ | 2,_ | 3,_ | 4,_ | 5,_ | 6,_ | 7,_ | 8,_ | 9,_ | 10,_ | 11,_ | 12,_ | 13,_ | 14,_ | 15,_ | 16,_ | 17,_ | 18,_ | 19,_ | 20,_ | 21,_ | 22,_ | 23,_ | 24,_ | 25,_ | 26,_ | 27,_ | 28,_ | 29,_ | 30,_ | 31,_=>simp[Dt,gJ]
 | k+32,h=>exact absurd h ω
theorem alB (n:Nat):∀x∈be8 n,x < 256:=by
 intro x hx;simp only[be8,List.mem_map] at hx;obtain⟨i,_,rfl⟩:=hx;exact Nat.mod_lt _ δ
def aCB (w:World) (v:V8) (xs:List Nat) (f:Nat→Value) (w':World):Prop:=∃(ge:Nat) (rest:Value),f 3=.pointer (some ⟨ge,0,none⟩)∧w.heap.size≤ge∧aG w' ge 282 (um (gJ v) rest 0)∧Own w' w.heap.size 5 1 jr rest xs∧ah w w'
theorem amY {v:V8} (hv:v.ok) {g:Nat} {A:Option Addr} {c N:Nat} {r:List Nat} (w:World) (hS:aG w g 282 (um (gJ v) (.slice A r.length c) N)) (hr:bW w 1 jr A r.length r) (hb:∀x∈r,x < 256) (hN:N % 64=r.length) (hN2:N≤1099511627776) :
 Calls Tryz.prog 146 #[.pointer (some ⟨g,0,none⟩)] w fun e w'=>e =.returned (.agg (wQ (Dt (blocks ((r ++rW N).length / 64) v (r ++rW N)))))∧ah w w':=by
 have qB:r.length<64:=ω;obtain⟨n,hn⟩:∃n,n = r.length:=⟨_,rfl⟩;rw[←hn] at hS hr;replace hS:=ζ hS;replace hr:=ζ hr;replace hb:=ζ hb;replace hv:=ζ hv;replace hn:=ζ hn;have cC:∀W,bW W 1 jr A n r→_:=fun W h=>agU (c:=c) W h (by have:=hn.o;omega)
 replace cC:=ζ cC;go_enter Tryz.func146,Tryz.ntmps146
 go_wp2_with fail;refine xK (Pr:=fun W=>Code.wp _ _ _ _ W) (fun w1 r_ fM=> ?_);replace r_:aG w1 w.heap.size 201 (wQ (List.replicate 32 0)):=r_.cast κ;obtain⟨g2,hg2⟩:∃g2,g2=w.heap.size:=⟨_,rfl⟩;rw[←hg2] at r_ ⊢;replace hr:=ζ (hr.o.keep fM);replace hS:=ζ (hS.o.grows fM);have avH:=ζ r_.lt;replace r_:=ζ r_;replace fM:=ζ fM;replace hg2:=ζ hg2;apply Ij (is:=[19,20,21,22,23,3]) (R:=aCB w1 v (r ++[128]))
 case h1=>
  have q0:=hS.o.c0;have q1:=hS.o.c1;have q2:=hS.o.c2;have q3:=hS.o.c3;have q4:=hS.o.c4;have q5:=hS.o.c5;have q6:=hS.o.c6;have q7:=hS.o.c7;have q8:w1.cell? ⟨g,8,none⟩=some (.slice A n c):=hS.o.cell 8;have qz:=hS.o.lt;have hbase:=Nat.le_refl w1.heap.size;refine aF κ ?_;refine rK (.range 8) 6 ?_;iterate 8 refine ay ?_
  refine aB ?_;refine aI [8,9] κ σ (fun wN hN hS=>(au.cons rfl (fun K' hK=> ?_) (au.cons rfl (fun K' hK=> ?_) au.nil)))
  ·skip
   try replace hr:=ζ (hr.o.keep hN)
   try replace kY:=ζ (kY.o.grows hN)
   try replace je:=ζ (je.o.grows hN)
   try replace ji:=ζ (ji.o.grows hN)
   try replace vV:=ζ (vV.o.grows hN)
   clear hN;go_simp;refine (cC.out _ hr.o).mono ?_;rintro e w8 ⟨vc,rfl,kY,BM⟩;replace kY:=ζ (kY.bK (base':=w1.heap.size) hS.size);replace hr:=ζ (hr.o.keep BM);try replace ji:=ζ (ji.o.grows BM)
   refine hK.o _ _ ?_ (fun hS=> ?_)
   ·exact ah.trans (by assumption) BM
   clear BM;clear hK hS;refine aI [9] κ σ (fun wN hN hS=>(au.cons rfl (fun K' hK=> ?_) au.nil));try replace hr:=ζ (hr.o.keep hN)
   try replace kY:=ζ (kY.o.grows hN)
   try replace je:=ζ (je.o.grows hN)
   try replace ji:=ζ (ji.o.grows hN)
   try replace vV:=ζ (vV.o.grows hN)
   clear hN;go_simp;refine hK.o _ _ ?_ (fun hS=> ?_)
   ·exact γ
   have ji:=ζ (Jf hS);replace hr:=ζ (hr.o.keep ((ah.refl _).alloc (.cells #[.int .u8 128] 5)));try replace kY:=ζ (kY.o.alloc (.cells #[.int .u8 128] 5))
   clear hK hS;refine aI [10] κ σ (fun wN hN hS=>(au.cons rfl (fun K' hK=> ?_) au.nil));try replace hr:=ζ (hr.o.keep hN)
   try replace kY:=ζ (kY.o.grows hN)
   try replace je:=ζ (je.o.grows hN)
   try replace ji:=ζ (ji.o.grows hN)
   try replace vV:=ζ (vV.o.grows hN)
   clear hN;have Es:=hS.size;refine Own.Je ZE rfl (.tmp 19) (.tmp 20) rfl kY.o rfl rfl (bW.pI ji.o) hkB aa_ Es (by have:=hn.o;unfold maxLen;omega) (by have:=hn.o;omega) (fun v3 w4 je lI hv3=> ?_);obtain⟨A3,c3,VY,-,-,-⟩:=je.arr hkB;generalize hL3:(r ++[128]).length=L3 at VY;replace hL3:=ζ hL3;subst VY;replace je:=ζ je;clear hv3;go_simp;refine hK.o _ _ ?_ (fun hS=> ?_)
   ·exact ah.aQ (by assumption) lI kY.o.iC
   clear kY ji Es hr lI;clear hK hS;refine rK [11] 2 ?_;iterate 1 refine ay ?_
   refine aB ?_;refine aI [12] κ σ (fun wN hN hS=>(au.cons rfl (fun K' hK=> ?_) au.nil));try replace hr:=ζ (hr.o.keep hN)
   try replace kY:=ζ (kY.o.grows hN)
   try replace je:=ζ (je.o.grows hN)
   try replace ji:=ζ (ji.o.grows hN)
   try replace vV:=ζ (vV.o.grows hN)
   clear hN;have Es:=hS.size;go_simp;refine hK.o _ _ ?_ (fun hS=> ?_)
   ·exact γ
   have vV:=ζ (Jf hS);have qE:=ζ Es;clear Es;replace je:=ζ (je.o.alloc (.cells #[.int .u32 (v.a:Int),.int .u32 (v.b:Int),.int .u32 (v.c:Int),.int .u32 (v.d:Int),.int .u32 (v.e:Int),.int .u32 (v.f:Int),.int .u32 (v.g:Int),.int .u32 (v.h:Int),.slice A3 L3 c3,.int .i64 0] 282));clear hK hS;refine rK [13] 0 ?_;iterate 1 refine ay ?_
   refine aB ?_;refine aH κ (fun wN hN hS=> ?_);try replace hr:=ζ (hr.o.keep hN)
   try replace kY:=ζ (kY.o.grows hN)
   try replace je:=ζ (je.o.grows hN)
   try replace ji:=ζ (ji.o.grows hN)
   try replace vV:=ζ (vV.o.grows hN)
   exact⟨(by
    simp only[iy,List.foldl_cons,List.foldl_nil];go_simp;try rfl
   ),_,_,rfl,qE.o,vV.o,je.o,hS⟩
  ·skip
   try replace hr:=ζ (hr.o.keep hN)
   try replace kY:=ζ (kY.o.grows hN)
   try replace je:=ζ (je.o.grows hN)
   try replace ji:=ζ (ji.o.grows hN)
   try replace vV:=ζ (vV.o.grows hN)
   clear hN;go_simp;refine hK.o _ _ ?_ (fun hS=> ?_)
   ·exact γ
   have ji:=ζ (Jf hS);replace hr:=ζ (hr.o.keep ((ah.refl _).alloc (.cells #[.int .u8 128] 5)));try replace kY:=ζ (kY.o.alloc (.cells #[.int .u8 128] 5))
   clear hK hS;refine aI [8] κ σ (fun wN hN hS=>(au.cons rfl (fun K' hK=> ?_) au.nil));try replace hr:=ζ (hr.o.keep hN)
   try replace kY:=ζ (kY.o.grows hN)
   try replace je:=ζ (je.o.grows hN)
   try replace ji:=ζ (ji.o.grows hN)
   try replace vV:=ζ (vV.o.grows hN)
   clear hN;go_simp;refine (cC.out _ hr.o).mono ?_;rintro e w8 ⟨vc,rfl,kY,BM⟩;replace kY:=ζ (kY.bK (base':=w1.heap.size) hS.size);replace hr:=ζ (hr.o.keep BM);try replace ji:=ζ (ji.o.grows BM)
   refine hK.o _ _ ?_ (fun hS=> ?_)
   ·exact ah.trans (by assumption) BM
   clear BM;clear hK hS;refine aI [10] κ σ (fun wN hN hS=>(au.cons rfl (fun K' hK=> ?_) au.nil));try replace hr:=ζ (hr.o.keep hN)
   try replace kY:=ζ (kY.o.grows hN)
   try replace je:=ζ (je.o.grows hN)
   try replace ji:=ζ (ji.o.grows hN)
   try replace vV:=ζ (vV.o.grows hN)
   clear hN;have Es:=hS.size;refine Own.Je ZE rfl (.tmp 19) (.tmp 20) rfl kY.o rfl rfl (bW.pI ji.o) hkB aa_ Es (by have:=hn.o;unfold maxLen;omega) (by have:=hn.o;omega) (fun v3 w4 je lI hv3=> ?_);obtain⟨A3,c3,VY,-,-,-⟩:=je.arr hkB;generalize hL3:(r ++[128]).length=L3 at VY;replace hL3:=ζ hL3;subst VY;replace je:=ζ je;clear hv3;go_simp;refine hK.o _ _ ?_ (fun hS=> ?_)
   ·exact ah.aQ (by assumption) lI kY.o.iC
   clear kY ji Es hr lI;clear hK hS;refine rK [11] 2 ?_;iterate 1 refine ay ?_
   refine aB ?_;refine aI [12] κ σ (fun wN hN hS=>(au.cons rfl (fun K' hK=> ?_) au.nil));try replace hr:=ζ (hr.o.keep hN)
   try replace kY:=ζ (kY.o.grows hN)
   try replace je:=ζ (je.o.grows hN)
   try replace ji:=ζ (ji.o.grows hN)
   try replace vV:=ζ (vV.o.grows hN)
   clear hN;have Es:=hS.size;go_simp;refine hK.o _ _ ?_ (fun hS=> ?_)
   ·exact γ
   have vV:=ζ (Jf hS);have qE:=ζ Es;clear Es;replace je:=ζ (je.o.alloc (.cells #[.int .u32 (v.a:Int),.int .u32 (v.b:Int),.int .u32 (v.c:Int),.int .u32 (v.d:Int),.int .u32 (v.e:Int),.int .u32 (v.f:Int),.int .u32 (v.g:Int),.int .u32 (v.h:Int),.slice A3 L3 c3,.int .i64 0] 282));clear hK hS;refine rK [13] 0 ?_;iterate 1 refine ay ?_
   refine aB ?_;refine aH κ (fun wN hN hS=> ?_);try replace hr:=ζ (hr.o.keep hN)
   try replace kY:=ζ (kY.o.grows hN)
   try replace je:=ζ (je.o.grows hN)
   try replace ji:=ζ (ji.o.grows hN)
   try replace vV:=ζ (vV.o.grows hN)
   exact⟨(by
    simp only[iy,List.foldl_cons,List.foldl_nil];go_simp;try rfl
   ),_,_,rfl,qE.o,vV.o,je.o,hS⟩
 intro f w3 hR;obtain⟨ge,rest,e3,qE,hE,hO,qp⟩:=hR;simp only[lU,List.foldl_cons,List.foldl_nil,e3];go_simp;have aGx:w1.heap.size≤ge:=qE;replace qE:=ζ qE;replace hE:=ζ hE;replace hO:=ζ hO;replace qp:=ζ qp;have hz:zeros N<64:=by unfold zeros;omega
 go_wp2;go_loopw [] (fun wr=>∃(j:Nat) (rs:Value),j≤zeros N∧Hid (aG wr ge 282 (um (gJ v) rs 0))∧Hid (Own wr w1.heap.size 5 1 jr rs (r ++[128]++List.replicate j 0))∧Hid (ah w1 wr)) (fun wr=>200-ND ge wr)
 case atStart=>exact⟨0,rest,ω,hE,by simpa using hO,qp⟩
 case round=>
  clear hE hO qp e3;obtain⟨j,rs,hj,hE,hO,hG⟩:=hrel;obtain⟨A1,c1,nS,CZ,hcm,hAp,hown⟩:=hO.o.apart hE.o δ;have YR:(r ++[128]++List.replicate j 0).length=n + 1+j:=by have:=hn.o;simp;omega
  rw[YR] at nS CZ hAp;obtain⟨L,hL⟩:∃L,L=n + 1+j:=⟨_,rfl⟩;rw[←hL] at nS CZ hAp YR;subst nS;have e8:wr.cell? ⟨ge,8,none⟩=some (.slice A1 L c1):=hE.o.cell 8;have z8:=hE.o.lt;have avi:=ζ (u_ (g:=ge) e8);have ZO:=hn.o;by_cases hlt:j < zeros N
  ·have avy:¬((L:Int) % 64=56):=by unfold zeros at hlt;omega
   have ape:¬(L % 64=56):=by unfold zeros at hlt;omega
   have wV:=ζ (hO.o.alloc (.cells #[.int .u8 0] 5));have JG:=ζ (hE.o.alloc (.cells #[.int .u8 0] 5));have Z8:=ζ (bW.pI (x:=0) (aG.new wr 5 #[.int .u8 ((0:Nat):Int)]));have arZ:=ζ (hG.o.alloc (.cells #[.int .u8 0] 5));have Es:=arZ.o.size;replace hown:=ζ hown;have hLb:L≤130:=ω;replace hL:=ζ hL;replace ZO:=ζ ZO;replace YR:=YR;go_wp2_with (at_builtin;(refine gU ZE rfl (.tmp 35) (.tmp 36) rfl wV.o rfl rfl Z8.o hkB aa_ Es (by unfold maxLen;simp only[YR];omega) (by simp only[YR];omega) ?_;intro v2 w2 nM mG hv2;clear hv2;(have Fp:=JG.o.aQ mG (fun e=>(hown.o ge e.symm).2 rfl));(have h02:=arZ.o.aQ mG (fun j hj=>(hown.o j hj).1));(obtain⟨A2,c2,ajN,ZO,SK,r_,hown2⟩:=nM.apart Fp δ);clear ZO SK r_;(rw[List.length_append,YR] at ajN);(simp only[List.length_cons,List.length_nil,Nat.zero_add] at ajN);subst ajN;(have e8:=Fp.cell 8);(have f8:=Fp.frozen 8);(have z8:=Fp.lt);(have lI:=aj w2 ⟨ge,8,none⟩ (.slice A2 (L+1) c2));(have KJ:=Fp.bH 8 (.slice A2 (L+1) c2));(rw[yR] at KJ);(have je:=nM.fP lI (fun j hj=>(hown2 j hj).2));(have h03:=h02.qj lI qE.o);(replace KJ:=ζ KJ);(replace je:=ζ je);(replace h03:=ζ h03);clear lI hown2 h02 Fp mG nM wV Z8 JG arZ hown));have az8:=ζ (u_ (g:=ge) (A:=A2) (n:=L+1) (c:=c2) (KJ.o.cell 8));go_roundw
   case rel=>exact⟨j + 1,_,ω,KJ,by
    rw[List.replicate_succ',←List.append_assoc];exact je,h03⟩
   case measure=>rw[az8.o,avi.o];omega
  ·have hjz:j = zeros N:=ω;have avy:(L:Int) % 64=56:=by unfold zeros at hjz;omega
   have ape:L % 64=56:=by unfold zeros at hjz;omega
   have hLz:=hL;rw[hjz] at hLz;subst hjz;replace hL:=ζ hL;replace ZO:=ζ ZO;clear hAp hown YR avi;have aAZ:wr.cell? ⟨g,9,none⟩=some (.int .i64 N):=((hS.o.grows hG.o).cell 9);have zg:=(hS.o.grows hG.o).lt;have hN0:0≤(N:Int)∧(N:Int)≤1099511627776:=ω;have hN8:(N:Int) % 18446744073709551616*8 % 18446744073709551616=((N*8:Nat):Int):=ω;replace hLz:=ζ hLz;clear hcm CZ;go_wp2;have hP0:(r ++[128]++List.replicate (zeros N) 0).length=L:=by have:=hLz.o;have:=ZO.o;simp;omega
   generalize hP:r ++[128]++List.replicate (zeros N) 0=P0 at *
   replace hP:=ζ hP;have hLb:L≤130:=by have:=hLz.o;have:=ZO.o;omega
   go_loopw [46] (fun i wr=>∃(k:Nat) (rs:Value),k≤8∧i =.int .i64 k∧Hid (aG wr ge 282 (um (gJ v) rs 0))∧Hid (Own wr w1.heap.size 5 1 jr rs (P0++(be8 (N*8)).take k))∧Hid (ah w1 wr)) (fun i _=>8-(intOf i).toNat)
   case atStart=>exact⟨0,_,ω,rfl,hE,by simpa using hO,hG⟩
   case round=>
    clear hE hO hG e8 z8 hL aAZ zg avy ape;obtain⟨k,rs,hk,rfl,hE,hO,hG⟩:=hrel;obtain⟨A1,c1,nS,CZ,hcm,hAp,hown⟩:=hO.o.apart hE.o δ;have YR:(P0++(be8 (N*8)).take k).length=L+k:=by rw[List.length_append,hP0,List.length_take];simp[be8];omega
    rw[YR] at nS CZ hAp;subst nS;clear CZ hcm hAp;obtain⟨Lk,hLk⟩:∃Lk,Lk=L+k:=⟨_,rfl⟩;rw[←hLk] at hO hE hown YR;have e8:wr.cell? ⟨ge,8,none⟩=some (.slice A1 Lk c1):=hE.o.cell 8;have z8:=hE.o.lt;have aGT:Lk≤140:=ω;replace hLk:=ζ hLk;replace hown:=ζ hown;by_cases hlt:k<8
    ·have hk8:(k:Int)<8:=ω;have hval:(N:Int)*8 / 2 ^ (56-8*k) % 256=((N*8 / 2 ^ (56-8*k) % 256:Nat):Int):=by
      rw[Int.natCast_emod,Int.natCast_ediv,Int.natCast_mul,Int.natCast_pow];rfl
     have xR:(be8 (N*8)).take (k+1)=(be8 (N*8)).take k++[N*8 / 2 ^ (56-8*k) % 256]:=by
      rw[List.take_add_one];simp[be8,hlt]
     generalize N*8 / 2 ^ (56-8*k) % 256=X at *
     replace xR:=ζ xR;generalize hrow:(Value.slice A1 Lk c1).ownBlock=row at *
     have hrn:some ge≠row:=fun e=>(hown.o ge e.symm).2 rfl
     have hrb:∀j,row=some j→w1.heap.size≤j:=fun j hj=>(hown.o j hj).1
     replace hrow:=ζ hrow;replace hrb:=ζ hrb;go_wp2_with fail;refine jF (row) κ ?_;refine rK (up:=jG) (.range 11) 5 ?_;iterate 11 refine iD ?_
     refine aB ?_;refine aI [11] κ σ (fun wN hN hS=>(au.cons rfl (fun K' hK=> ?_) au.nil));try replace hO:=ζ (hO.o.grows hN)
     try replace hE:=ζ (hE.o.grows hN)
     try replace ji:=ζ (ji.o.grows hN)
     try replace je:=ζ (je.o.grows hN)
     replace hG:=ζ (hG.o.trans hN);clear hN;go_simp;refine hK.o _ _ ?_ (fun hS=> ?_)
     ·exact dS (by assumption) ((ah.refl _).alloc _)
     have ji:=ζ (aG.new wN 5 #[.int .u8 (X:Int)]);replace hO:=ζ (hO.o.alloc (.cells #[.int .u8 (X:Int)] 5));replace hE:=ζ (hE.o.alloc (.cells #[.int .u8 (X:Int)] 5));replace hG:=ζ (hG.o.alloc (.cells #[.int .u8 (X:Int)] 5));clear hK hS;refine aI [12] κ σ (fun wN hN hS=>(au.cons rfl (fun K' hK=> ?_) au.nil));try replace hO:=ζ (hO.o.grows hN)
     try replace hE:=ζ (hE.o.grows hN)
     try replace ji:=ζ (ji.o.grows hN)
     try replace je:=ζ (je.o.grows hN)
     replace hG:=ζ (hG.o.trans hN);clear hN;have Es:=hG.o.size;refine Own.Je ZE rfl (.tmp 53) (.tmp 60) rfl hO.o rfl rfl (bW.pI ji.o) hkB aa_ Es (by unfold maxLen;simp only[YR];omega) (by simp only[YR];omega) (fun v3 w4 je lI hv3=> ?_);rw[hrow.o] at lI;replace hE:=ζ (hE.o.aQ lI hrn);replace hG:=ζ (hG.o.aQ lI hrb.o);obtain⟨A3,c3,VY,_,_,_,adz⟩:=je.apart hE.o δ;rw[List.length_append,YR] at VY;simp only[List.length_cons,List.length_nil,Nat.zero_add] at VY;subst VY;have je:=ζ je;have adz:=ζ adz;clear hv3 Es hO ji;go_simp;refine hK.o _ _ ?_ (fun hS=> ?_)
     ·exact World.grownBy.trans (by assumption) lI
     clear lI;clear hK hS;refine rK (up:=jG) [13,14] 1 ?_;iterate 2 refine iD ?_
     refine aB ?_;refine eG (i:=15) rfl κ κ (fun wN hN hS K' hK=> ?_);try replace hO:=ζ (hO.o.grows hN)
     try replace hE:=ζ (hE.o.grows hN)
     try replace ji:=ζ (ji.o.grows hN)
     try replace je:=ζ (je.o.grows hN)
     replace hG:=ζ (hG.o.trans hN);clear hS;have f8:=hE.o.frozen 8;have y8:=hE.o.lt;have g8:wN.cell? ⟨ge,8,none⟩=some (.slice A1 Lk c1):=hE.o.cell 8;have KJ:=hE.o.bH 8 (.slice A3 (Lk+1) c3);rw[yR] at KJ;have jd:=aj wN ⟨ge,8,none⟩ (.slice A3 (Lk+1) c3);have lJ:=ζ (je.o.fP jd (fun j hj=>(adz.o j hj).2));have rJ:=ζ (hG.o.qj jd qE.o);replace KJ:=ζ KJ;clear jd hN;go_simp;refine hK.o _ _ ?_;clear hK hE je adz hG f8 y8 g8 e8 z8;generalize wN.setCell ⟨ge,8,none⟩ (.slice A3 (Lk+1) c3)=w9 at *
     go_wp2;go_roundw
     case rel=>exact⟨k+1,_,ω,ν,KJ,by
      rw[xR.o,←List.append_assoc];exact lJ,rJ⟩
     case measure=>exact ψ
    ·obtain rfl:k=8:=ω;have aBC:N*8 % 18446744073709551616=N*8:=ω;have avl:P0++(be8 (N*8)).take 8=r ++rW N:=by
      rw[List.take_of_length_le (by simp[be8]),←hP.o];unfold rW;rw[aBC];simp
     have mJ:=hO.o;rw[avl] at mJ YR;have BN:∀x∈(r ++rW N)++[],x < 256:=by
      intro x hx;rw[List.append_nil] at hx;rcases List.mem_append.1 hx with h | h
      ·exact hb.o x h
      ·unfold rW at h;rcases List.mem_cons.1 h with h | h
       ·omega
       ·rcases List.mem_append.1 h with h | h
        ·have:=List.eq_of_mem_replicate h;omega
        ·exact alB _ x h
     have ard:=hLk.o;have Jz:=amT N;have aF2:(r ++rW N).length % 64=0:=by rw[List.length_append];omega
     have cAdd:=ad_ (W0:=w1) (ys:=[]) (m:=0) (A:=none) (c:=0) hv.o wr hG.o qE.o hE.o mJ ⟨bW.iO,fun _ h=>by cases h⟩ BN (by rw[YR];omega) ω ω;rw[List.append_nil] at cAdd;replace cAdd:=ζ cAdd;generalize hXS:r ++rW N=XS at *
     replace hXS:=ζ hXS;clear avl mJ BN Jz hO hE hown hP YR;go_wp2_with fail;refine (cAdd.out).mono ?_;rintro e w5 ⟨q,A5,c5,rfl,hq1,Sm,YT,-,-,-,oP⟩;obtain rfl:q=XS.length / 64:=ω;clear hq1 Sm cAdd hG;generalize hV:blocks (XS.length / 64) v XS=V at *
     replace hV:=ζ hV;go_wp2;refine xK (Pr:=fun W=>Code.wp _ _ _ _ W) (fun w6 yM Fq=> ?_);replace yM:aG w6 w5.heap.size 201 (wQ (List.replicate 32 0)):=yM.cast κ;obtain⟨g6,C_⟩:∃g6,g6=w5.heap.size:=⟨_,rfl⟩;have aq_:=YT.lt;rw[←C_] at yM aq_ ⊢;have arq:w1.heap.size≤g6:=by rw[C_];exact oP.size
     have aq8:ge≠g6:=Nat.ne_of_lt aq_;have Uw:=ζ (YT.grows Fq);have Xo:=ζ (oP.trans Fq);clear YT oP Fq C_ aq_;replace yM:=ζ yM;replace arq:=ζ arq;replace aq8:=ζ aq8;have ar1:=fun k hk=>agZ V (k:=k) hk
     have hDl:=G6 V;have hZl:(List.replicate 32 0:List Nat).length=32:=List.length_replicate;generalize hD:Dt V=D at *
     generalize (List.replicate 32 0:List Nat)=Z at *
     have Qv:D.length=Z.length:=ω;have aqK:∀k,k<32→(D.take k++Z.drop k).length=32:=fun k hk=>by rw[Gi Qv ω];exact hDl
     have YW:Hid (aG w6 g6 201 (wQ (D.take 0++Z.drop 0))):=yM;replace hD:=ζ hD;replace ar1:=ζ ar1;replace aqK:=ζ aqK;clear yM;go_loopw [67] (fun i wr=>∃k:Nat,k≤32∧i =.int .i64 k∧Hid (aG wr g6 201 (wQ (D.take k++Z.drop k)))∧Hid (aG wr ge 282 (um (gJ V) (.slice A5 (XS.length-64*(XS.length / 64)) c5) (0+((0:Nat):Int))))∧Hid (ah w1 wr)) (fun i _=>32-(intOf i).toNat)
     case atStart=>exact⟨0,ω,rfl,YW,Uw,Xo⟩
     case round=>
      clear YW Uw Xo;obtain⟨k,hk,rfl,hB,hE,hG⟩:=hrel;by_cases hlt:k<32
      ·have hx:=ar1.o k hlt;have e1:=(hE.o.cell (k / 4)).trans (ac9 (by rw[vY];omega));have z1:=hE.o.lt;have z6:=hB.o.lt;have f6:=hB.o.frozen k;have e6:=(hB.o.cell k).trans (ah4 (by rw[aqK.o k hlt];exact hlt));have aK:=Oo Qv (k:=k) ω;have hSn:=fun x=>ac8 (D.take k++Z.drop k) k x
       generalize (gJ V).getD (k / 4) 0=W at *
       have hval:(W:Int) / 2 ^ (24-8*(k % 4)) % 256=((D.getD k 0:Nat):Int):=by
        rw[hx,Int.natCast_emod,Int.natCast_ediv,Int.natCast_pow];rfl
       generalize D.getD k 0=X at *
       clear hx;replace aK:=ζ aK;replace hSn:=ζ hSn;have an8:=hB.o.bH k (.int .u8 (X:Int));rw[hSn.o,aK.o] at an8;have ar0:=hE.o.far (p:=⟨g6,k,none⟩) aq8.o (.int .u8 (X:Int));have arY:=hG.o.setCell (p:=⟨g6,k,none⟩) arq.o (.int .u8 (X:Int));replace an8:=ζ an8;replace ar0:=ζ ar0;replace arY:=ζ arY;go_wp2;go_roundw
       case rel=>exact⟨k+1,ω,ν,an8,ar0,arY⟩
       case measure=>exact ψ
      ·obtain rfl:k=32:=ω;have t_:=hB.o;rw[List.take_of_length_le ω,List.drop_of_length_le ω,List.append_nil] at t_;have iI:=r_.o.grows hG.o;have hG8:=fM.o.trans hG.o;have anC:w.heap.size≤g2:=Nat.le_of_eq hg2.o.symm;have hGf:=hG8.qj (mO wr g2 (wQ D)) anC;have uy:=setRow_heap wr g2 _ (wQ D) _ _ iI;have hsz:(wQ D).size=32:=by rw[yQ];exact hDl
       have SY:(Tryz.prog.info? 201).map (·.size)=some (wQ D).size:=by rw[hsz];kernel_rfl
       have hold:(wQ Z).size=(wQ D).size:=by rw[hsz,yQ];omega
       have h1:=Vf D;replace t_:=ζ t_;replace iI:=ζ iI;replace hGf:=ζ hGf;replace uy:=ζ uy;replace SY:=ζ SY;replace hold:=ζ hold;replace h1:=ζ h1;replace hsz:=ζ hsz;go_wp2_with (first | (refine wpList_load_row rfl 201 (.tmp 6) rfl g6 rfl 201 (wQ D) (0,0) _ t_.o Tryz.underlying201 rfl SY.o ?_) | (refine wpList_store_row rfl 201 (.tmp 2) (.tmp 86) rfl g2 (wQ D) rfl rfl 201 _ iI.o SY.o hold.o h1.o ?_));rw[hXS.o,hV.o,hD.o];exact bodyPost_ret (v:=.agg (wQ D)) (results_cell_row (p:=2) (ty:=201) κ _ _ g2 201 (wQ D) (0,0) _ rfl uy.o Tryz.underlying201 rfl SY.o) rfl ⟨rfl,hGf.o⟩
end Go.Proofs.YtbhikkgpcmkonaaGreatDoor
