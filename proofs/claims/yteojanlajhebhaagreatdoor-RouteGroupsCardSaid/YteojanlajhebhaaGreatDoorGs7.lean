/- Parts: ShaL ShaM -/
import Derived.Test.YteojanlajhebhaaGreatDoorGs0
import Derived.Laws.Cover3
import Derived.Test.YteojanlajhebhaaGreatDoorGs4
set_option maxRecDepth 100000
set_option maxHeartbeats 12800000
namespace Go.Proofs.YteojanlajhebhaaGreatDoor
open Go.RowKit
theorem aeS {P:Program} {t e:TypeId} (a:Option Addr) (l c:Nat) (h:P.underlying t = some (.slice e)) (w:World):(binOp .eql t (.slice a l c) (.slice none 0 0)).run P w =.ok (.bool a.isNone) w:=by
 simp only[binOp];simp[run_equal_slice_nil w t e a l c h]
theorem ahl {A:Option Addr} {m c:Nat} {xs:List Nat} (w:World) (hA:dH w 1 kE A m xs) (hl:m≤1099511627776) :
 Calls Tryz.prog 135 #[.slice A m c] w fun e w'=>∃v,e =.returned v∧Own w' w.heap.size 5 1 kE v xs∧ah w w':=by
 have h63:([]:List Nat).length+m≤maxLen:=by unfold maxLen;simp;omega
 have hbytes:(([]:List Nat).length+m)*1≤140737488355328:=by simp;omega
 cases A with
 | none=>
  have hx:xs=[]:=by
   apply List.eq_nil_of_length_eq_zero;rw[hA.1];rcases Nat.eq_zero_or_pos m with h0 | h0
   ·exact h0
   ·obtain⟨b,off,h,_⟩:=hA.2 h0;cases h
  subst hx;have hnil:=fun W=>aeS (P:=Tryz.prog) none m c Tryz.underlying94 W
  go_enter Tryz.func135,Tryz.ntmps135
  go_wp2;go_ret;exact⟨_,rfl,Own.iH _ _ _ _ _,ah.refl _⟩
 | some ad=>
  have hO:Own (w.alloc (.cells #[] 5)) w.heap.size 5 1 kE (.slice (some ⟨w.heap.size,0,none⟩) 0 0) []:=
   Own.mk_ (xs:=[]) (cap:=0) Yy ω (Nat.le_refl _) (heap_alloc_new w _) σ (by simp[maxLen]) rfl (fun q h=>absurd h σ)
  have YD:=hA.keep ((ah.refl w).alloc (.cells #[] 5));have jY:w.heap.size≤(w.alloc (.cells #[] 5)).heap.size:=by simp
  have hnil:=fun W=>aeS (P:=Tryz.prog) (some ad) m c Tryz.underlying94 W
  replace hO:=ζ hO;replace YD:=ζ YD;go_enter Tryz.func135,Tryz.ntmps135
  go_wp2_with (refine fZ Vh rfl (.tmp 5) (.tmp 6) rfl hO.o rfl rfl YD.o Yy U0 jY h63 hbytes ?_;intro v2 w2 pY nM hv2;replace pY:=ζ pY);go_ret;exact⟨_,rfl,pY.o,((ah.refl w).alloc _).bH nM (fun j hj=>by simp[Value.ownBlock] at hj;omega)⟩
theorem Own.ig {α:Type} {w:World} {base base' k:Nat} {e:TypeId} {enc:α→List Value} {v:Value} {xs:List α} (h:Own w base e k enc v xs) (hb:base'≤base):Own w base' e k enc v xs:=by
 refine⟨h.1,?_⟩;rcases h.2 with h2 | ⟨g',cap,cur,hv,hb',hh,r⟩
 ·exact .inl h2
 ·exact .inr ⟨g',cap,cur,hv,Nat.le_trans hb hb',hh,r⟩
theorem MQ {a w:World} {t:TypeId} {cs:Array Value} (_:ah a (w.alloc (.cells cs t))):aS (w.alloc (.cells cs t)) w.heap.size t cs:=aS.new w t cs
theorem Own.eH {α:Type} {w:World} {base k:Nat} {e:TypeId} {enc:α→List Value} {v:Value} {xs:List α} (h:Own w base e k enc v xs):∀j,v.ownBlock=some j→base≤j:=fun j hj=>by
 rcases h.2 with⟨h2,_⟩ | ⟨g',cap,cur,hv,hb',hh,r⟩
 ·rw[h2] at hj;cases hj
 ·rw[hv] at hj;simp only[Value.ownBlock,Option.some.injEq] at hj;omega
theorem dH.jC {w:World} {g:Nat} {t:TypeId} {x:Nat} (h:aS w g t #[.int .u8 (x:Int)]):dH w 1 kE (some ⟨g,0,none⟩) 1 [x]:=by
 refine⟨rfl,fun _=>⟨g,0,rfl,h.lt,fun i hi j u hu=> ?_⟩⟩;have hi0:i = 0:=by simpa using hi
 subst hi0;have hj:j = 0:=by have:=(List.getElem?_eq_some_iff.1 hu).1;simp[kE] at this;omega
 subst hj;rw[h.cell];exact hu
theorem ad_ (xs:List Nat) (i x:Nat):(qY xs).setIfInBounds i (.int .u8 (x:Int))=qY (xs.set i x):=by simp[qY,List.map_set]
theorem wB (v:V8):(uU v).length=32:=rfl
theorem Wv (v:V8) {k:Nat} (hk:k<32):(uU v).getD k 0=(b_ v).getD (k / 4) 0 / 2 ^ (24-8*(k % 4)) % 256:=by
 match k,hk with
 | 0,_ | 1,_ | 2,_ | 3,_ | 4,_ | 5,_ | 6,_ | 7,_ | 8,_ | 9,_ | 10,_ | 11,_ | 12,_ | 13,_ | 14,_ | 15,_ | 16,_ | 17,_ | 18,_ | 19,_ | 20,_ | 21,_ | 22,_ | 23,_ | 24,_ | 25,_ | 26,_ | 27,_ | 28,_ | 29,_ | 30,_ | 31,_=>simp[uU,b_]
 | k+32,h=>exact absurd h ω
theorem aav (n:Nat):∀x∈Vf n,x < 256:=by
 intro x hx;simp only[Vf,List.mem_map] at hx;obtain⟨i,_,rfl⟩:=hx;exact Nat.mod_lt _ δ
def aw2 (w:World) (v:V8) (xs:List Nat) (f:Nat→Value) (w':World):Prop:=∃(ge:Nat) (rest:Value),f 3=.pointer (some ⟨ge,0,none⟩)∧w.heap.size≤ge∧aS w' ge 183 (yH (b_ v) rest 0)∧Own w' w.heap.size 5 1 kE rest xs∧ah w w'
theorem ams {v:V8} (hv:v.ok) {g:Nat} {A:Option Addr} {c N:Nat} {r:List Nat} (w:World) (hS:aS w g 183 (yH (b_ v) (.slice A r.length c) N)) (hr:dH w 1 kE A r.length r) (hb:∀x∈r,x < 256) (hN:N % 64=r.length) (hN2:N≤1099511627776) :
 Calls Tryz.prog 115 #[.pointer (some ⟨g,0,none⟩)] w fun e w'=>e =.returned (.agg (qY (uU (blocks ((r ++n_ N).length / 64) v (r ++n_ N)))))∧ah w w':=by
 have jU:r.length<64:=ω;obtain⟨n,hn⟩:∃n,n = r.length:=⟨_,rfl⟩;rw[←hn] at hS hr;replace hS:=ζ hS;replace hr:=ζ hr;replace hb:=ζ hb;replace hv:=ζ hv;replace hn:=ζ hn;have cC:∀W,dH W 1 kE A n r→_:=fun W h=>ahl (c:=c) W h (by have:=hn.o;omega)
 replace cC:=ζ cC;go_enter Tryz.func115,Tryz.ntmps115
 go_wp2_with fail;refine qy (Pr:=fun W=>Code.wp _ _ _ _ W) (fun w1 mY mX=> ?_);replace mY:aS w1 w.heap.size 130 (qY (List.replicate 32 0)):=mY.cast κ;obtain⟨g2,hg2⟩:∃g2,g2=w.heap.size:=⟨_,rfl⟩;rw[←hg2] at mY ⊢;replace hr:=ζ (hr.o.keep mX);replace hS:=ζ (hS.o.grows mX);have asB:=ζ mY.lt;replace mY:=ζ mY;replace mX:=ζ mX;replace hg2:=ζ hg2;apply al_ (is:=[19,20,21,22,23,3]) (R:=aw2 w1 v (r ++[128]))
 case h1=>
  have q0:=hS.o.c0;have q1:=hS.o.c1;have q2:=hS.o.c2;have q3:=hS.o.c3;have q4:=hS.o.c4;have q5:=hS.o.c5;have q6:=hS.o.c6;have q7:=hS.o.c7;have q8:w1.cell? ⟨g,8,none⟩=some (.slice A n c):=hS.o.cell 8;have qz:=hS.o.lt;have hbase:=Nat.le_refl w1.heap.size;refine aJ κ ?_;refine rK (.range 8) 6 ?_;iterate 8 refine aB ?_
  refine ay ?_;refine aY [8,9] κ σ (fun wN hN hS=>(aK.cons rfl (fun K' hK=> ?_) (aK.cons rfl (fun K' hK=> ?_) aK.nil)))
  ·skip
   try replace hr:=ζ (hr.o.keep hN)
   try replace FM:=ζ (FM.o.grows hN)
   try replace dS:=ζ (dS.o.grows hN)
   try replace dR:=ζ (dR.o.grows hN)
   try replace AZ:=ζ (AZ.o.grows hN)
   clear hN;go_simp;refine (cC.out _ hr.o).mono ?_;rintro e w8 ⟨vc,rfl,FM,hg8⟩;replace FM:=ζ (FM.ig (base':=w1.heap.size) hS.size);replace hr:=ζ (hr.o.keep hg8);try replace dR:=ζ (dR.o.grows hg8)
   refine hK.o _ _ ?_ (fun hS=> ?_)
   ·exact ah.trans (by assumption) hg8
   clear hg8;clear hK hS;refine aY [9] κ σ (fun wN hN hS=>(aK.cons rfl (fun K' hK=> ?_) aK.nil));try replace hr:=ζ (hr.o.keep hN)
   try replace FM:=ζ (FM.o.grows hN)
   try replace dS:=ζ (dS.o.grows hN)
   try replace dR:=ζ (dR.o.grows hN)
   try replace AZ:=ζ (AZ.o.grows hN)
   clear hN;go_simp;refine hK.o _ _ ?_ (fun hS=> ?_)
   ·exact γ
   have dR:=ζ (MQ hS);replace hr:=ζ (hr.o.keep ((ah.refl _).alloc (.cells #[.int .u8 128] 5)));try replace FM:=ζ (FM.o.alloc (.cells #[.int .u8 128] 5))
   clear hK hS;refine aY [10] κ σ (fun wN hN hS=>(aK.cons rfl (fun K' hK=> ?_) aK.nil));try replace hr:=ζ (hr.o.keep hN)
   try replace FM:=ζ (FM.o.grows hN)
   try replace dS:=ζ (dS.o.grows hN)
   try replace dR:=ζ (dR.o.grows hN)
   try replace AZ:=ζ (AZ.o.grows hN)
   clear hN;have jY:=hS.size;refine Own.jO Vh rfl (.tmp 19) (.tmp 20) rfl FM.o rfl rfl (dH.jC dR.o) Yy U0 jY (by have:=hn.o;unfold maxLen;omega) (by have:=hn.o;omega) (fun v3 w4 dS iT hv3=> ?_);obtain⟨A3,c3,Xo,-,-,-⟩:=dS.arr Yy;generalize hL3:(r ++[128]).length=L3 at Xo;replace hL3:=ζ hL3;subst Xo;replace dS:=ζ dS;clear hv3;go_simp;refine hK.o _ _ ?_ (fun hS=> ?_)
   ·exact ah.bH (by assumption) iT FM.o.eH
   clear FM dR jY hr iT;clear hK hS;refine rK [11] 2 ?_;iterate 1 refine aB ?_
   refine ay ?_;refine aY [12] κ σ (fun wN hN hS=>(aK.cons rfl (fun K' hK=> ?_) aK.nil));try replace hr:=ζ (hr.o.keep hN)
   try replace FM:=ζ (FM.o.grows hN)
   try replace dS:=ζ (dS.o.grows hN)
   try replace dR:=ζ (dR.o.grows hN)
   try replace AZ:=ζ (AZ.o.grows hN)
   clear hN;have jY:=hS.size;go_simp;refine hK.o _ _ ?_ (fun hS=> ?_)
   ·exact γ
   have AZ:=ζ (MQ hS);have N9:=ζ jY;clear jY;replace dS:=ζ (dS.o.alloc (.cells #[.int .u32 (v.a:Int),.int .u32 (v.b:Int),.int .u32 (v.c:Int),.int .u32 (v.d:Int),.int .u32 (v.e:Int),.int .u32 (v.f:Int),.int .u32 (v.g:Int),.int .u32 (v.h:Int),.slice A3 L3 c3,.int .i64 0] 183));clear hK hS;refine rK [13] 0 ?_;iterate 1 refine aB ?_
   refine ay ?_;refine aP κ (fun wN hN hS=> ?_);try replace hr:=ζ (hr.o.keep hN)
   try replace FM:=ζ (FM.o.grows hN)
   try replace dS:=ζ (dS.o.grows hN)
   try replace dR:=ζ (dR.o.grows hN)
   try replace AZ:=ζ (AZ.o.grows hN)
   exact⟨(by
    simp only[rW,List.foldl_cons,List.foldl_nil];go_simp;try rfl
   ),_,_,rfl,N9.o,AZ.o,dS.o,hS⟩
  ·skip
   try replace hr:=ζ (hr.o.keep hN)
   try replace FM:=ζ (FM.o.grows hN)
   try replace dS:=ζ (dS.o.grows hN)
   try replace dR:=ζ (dR.o.grows hN)
   try replace AZ:=ζ (AZ.o.grows hN)
   clear hN;go_simp;refine hK.o _ _ ?_ (fun hS=> ?_)
   ·exact γ
   have dR:=ζ (MQ hS);replace hr:=ζ (hr.o.keep ((ah.refl _).alloc (.cells #[.int .u8 128] 5)));try replace FM:=ζ (FM.o.alloc (.cells #[.int .u8 128] 5))
   clear hK hS;refine aY [8] κ σ (fun wN hN hS=>(aK.cons rfl (fun K' hK=> ?_) aK.nil));try replace hr:=ζ (hr.o.keep hN)
   try replace FM:=ζ (FM.o.grows hN)
   try replace dS:=ζ (dS.o.grows hN)
   try replace dR:=ζ (dR.o.grows hN)
   try replace AZ:=ζ (AZ.o.grows hN)
   clear hN;go_simp;refine (cC.out _ hr.o).mono ?_;rintro e w8 ⟨vc,rfl,FM,hg8⟩;replace FM:=ζ (FM.ig (base':=w1.heap.size) hS.size);replace hr:=ζ (hr.o.keep hg8);try replace dR:=ζ (dR.o.grows hg8)
   refine hK.o _ _ ?_ (fun hS=> ?_)
   ·exact ah.trans (by assumption) hg8
   clear hg8;clear hK hS;refine aY [10] κ σ (fun wN hN hS=>(aK.cons rfl (fun K' hK=> ?_) aK.nil));try replace hr:=ζ (hr.o.keep hN)
   try replace FM:=ζ (FM.o.grows hN)
   try replace dS:=ζ (dS.o.grows hN)
   try replace dR:=ζ (dR.o.grows hN)
   try replace AZ:=ζ (AZ.o.grows hN)
   clear hN;have jY:=hS.size;refine Own.jO Vh rfl (.tmp 19) (.tmp 20) rfl FM.o rfl rfl (dH.jC dR.o) Yy U0 jY (by have:=hn.o;unfold maxLen;omega) (by have:=hn.o;omega) (fun v3 w4 dS iT hv3=> ?_);obtain⟨A3,c3,Xo,-,-,-⟩:=dS.arr Yy;generalize hL3:(r ++[128]).length=L3 at Xo;replace hL3:=ζ hL3;subst Xo;replace dS:=ζ dS;clear hv3;go_simp;refine hK.o _ _ ?_ (fun hS=> ?_)
   ·exact ah.bH (by assumption) iT FM.o.eH
   clear FM dR jY hr iT;clear hK hS;refine rK [11] 2 ?_;iterate 1 refine aB ?_
   refine ay ?_;refine aY [12] κ σ (fun wN hN hS=>(aK.cons rfl (fun K' hK=> ?_) aK.nil));try replace hr:=ζ (hr.o.keep hN)
   try replace FM:=ζ (FM.o.grows hN)
   try replace dS:=ζ (dS.o.grows hN)
   try replace dR:=ζ (dR.o.grows hN)
   try replace AZ:=ζ (AZ.o.grows hN)
   clear hN;have jY:=hS.size;go_simp;refine hK.o _ _ ?_ (fun hS=> ?_)
   ·exact γ
   have AZ:=ζ (MQ hS);have N9:=ζ jY;clear jY;replace dS:=ζ (dS.o.alloc (.cells #[.int .u32 (v.a:Int),.int .u32 (v.b:Int),.int .u32 (v.c:Int),.int .u32 (v.d:Int),.int .u32 (v.e:Int),.int .u32 (v.f:Int),.int .u32 (v.g:Int),.int .u32 (v.h:Int),.slice A3 L3 c3,.int .i64 0] 183));clear hK hS;refine rK [13] 0 ?_;iterate 1 refine aB ?_
   refine ay ?_;refine aP κ (fun wN hN hS=> ?_);try replace hr:=ζ (hr.o.keep hN)
   try replace FM:=ζ (FM.o.grows hN)
   try replace dS:=ζ (dS.o.grows hN)
   try replace dR:=ζ (dR.o.grows hN)
   try replace AZ:=ζ (AZ.o.grows hN)
   exact⟨(by
    simp only[rW,List.foldl_cons,List.foldl_nil];go_simp;try rfl
   ),_,_,rfl,N9.o,AZ.o,dS.o,hS⟩
 intro f w3 hR;obtain⟨ge,rest,e3,N9,hE,hO,uj⟩:=hR;simp only[wM,List.foldl_cons,List.foldl_nil,e3];go_simp;have azB:w1.heap.size≤ge:=N9;replace N9:=ζ N9;replace hE:=ζ hE;replace hO:=ζ hO;replace uj:=ζ uj;have hz:zeros N<64:=by unfold zeros;omega
 go_wp2;go_loopw [] (fun wr=>∃(j:Nat) (rs:Value),j≤zeros N∧Hid (aS wr ge 183 (yH (b_ v) rs 0))∧Hid (Own wr w1.heap.size 5 1 kE rs (r ++[128]++List.replicate j 0))∧Hid (ah w1 wr)) (fun wr=>200-Qu ge wr)
 case atStart=>exact⟨0,rest,ω,hE,by simpa using hO,uj⟩
 case round=>
  clear hE hO uj e3;obtain⟨j,rs,hj,hE,hO,hG⟩:=hrel;obtain⟨A1,c1,pR,yc,hcm,Oh,hown⟩:=hO.o.apart hE.o δ;have Qi:(r ++[128]++List.replicate j 0).length=n + 1+j:=by have:=hn.o;simp;omega
  rw[Qi] at pR yc Oh;obtain⟨L,hL⟩:∃L,L=n + 1+j:=⟨_,rfl⟩;rw[←hL] at pR yc Oh Qi;subst pR;have e8:wr.cell? ⟨ge,8,none⟩=some (.slice A1 L c1):=hE.o.cell 8;have z8:=hE.o.lt;have asl:=ζ (Ak (g:=ge) e8);have O9:=hn.o;by_cases hlt:j < zeros N
  ·have amM:¬((L:Int) % 64=56):=by unfold zeros at hlt;omega
   have aeH:¬(L % 64=56):=by unfold zeros at hlt;omega
   have FN:=ζ (hO.o.alloc (.cells #[.int .u8 0] 5));have hE1:=ζ (hE.o.alloc (.cells #[.int .u8 0] 5));have YD:=ζ (dH.jC (x:=0) (aS.new wr 5 #[.int .u8 ((0:Nat):Int)]));have apE:=ζ (hG.o.alloc (.cells #[.int .u8 0] 5));have jY:=apE.o.size;replace hown:=ζ hown;have hLb:L≤130:=ω;replace hL:=ζ hL;replace O9:=ζ O9;replace Qi:=Qi;go_wp2_with (at_builtin;(refine fZ Vh rfl (.tmp 35) (.tmp 36) rfl FN.o rfl rfl YD.o Yy U0 jY (by unfold maxLen;simp only[Qi];omega) (by simp only[Qi];omega) ?_;intro v2 w2 pY nM hv2;clear hv2;(have jf:=hE1.o.bH nM (fun e=>(hown.o ge e.symm).2 rfl));(have h02:=apE.o.bH nM (fun j hj=>(hown.o j hj).1));(obtain⟨A2,c2,Xp,O9,MI,mY,hown2⟩:=pY.apart jf δ);clear O9 MI mY;(rw[List.length_append,Qi] at Xp);(simp only[List.length_cons,List.length_nil,Nat.zero_add] at Xp);subst Xp;(have e8:=jf.cell 8);(have f8:=jf.frozen 8);(have z8:=jf.lt);(have iT:=aj w2 ⟨ge,8,none⟩ (.slice A2 (L+1) c2));(have U9:=jf.dO 8 (.slice A2 (L+1) c2));(rw[Fg] at U9);(have dS:=pY.iM iT (fun j hj=>(hown2 j hj).2));(have h03:=h02.kL iT N9.o);(replace U9:=ζ U9);(replace dS:=ζ dS);(replace h03:=ζ h03);clear iT hown2 h02 jf nM pY FN YD hE1 apE hown));have ave:=ζ (Ak (g:=ge) (A:=A2) (n:=L+1) (c:=c2) (U9.o.cell 8));go_roundw
   case rel=>exact⟨j + 1,_,ω,U9,by
    rw[List.replicate_succ',←List.append_assoc];exact dS,h03⟩
   case measure=>rw[ave.o,asl.o];omega
  ·have hjz:j = zeros N:=ω;have amM:(L:Int) % 64=56:=by unfold zeros at hjz;omega
   have aeH:L % 64=56:=by unfold zeros at hjz;omega
   have hLz:=hL;rw[hjz] at hLz;subst hjz;replace hL:=ζ hL;replace O9:=ζ O9;clear Oh hown Qi asl;have avV:wr.cell? ⟨g,9,none⟩=some (.int .i64 N):=((hS.o.grows hG.o).cell 9);have zg:=(hS.o.grows hG.o).lt;have hN0:0≤(N:Int)∧(N:Int)≤1099511627776:=ω;have hN8:(N:Int) % 18446744073709551616*8 % 18446744073709551616=((N*8:Nat):Int):=ω;replace hLz:=ζ hLz;clear hcm yc;go_wp2;have hP0:(r ++[128]++List.replicate (zeros N) 0).length=L:=by have:=hLz.o;have:=O9.o;simp;omega
   generalize hP:r ++[128]++List.replicate (zeros N) 0=P0 at *
   replace hP:=ζ hP;have hLb:L≤130:=by have:=hLz.o;have:=O9.o;omega
   go_loopw [46] (fun i wr=>∃(k:Nat) (rs:Value),k≤8∧i =.int .i64 k∧Hid (aS wr ge 183 (yH (b_ v) rs 0))∧Hid (Own wr w1.heap.size 5 1 kE rs (P0++(Vf (N*8)).take k))∧Hid (ah w1 wr)) (fun i _=>8-(intOf i).toNat)
   case atStart=>exact⟨0,_,ω,rfl,hE,by simpa using hO,hG⟩
   case round=>
    clear hE hO hG e8 z8 hL avV zg amM aeH;obtain⟨k,rs,hk,rfl,hE,hO,hG⟩:=hrel;obtain⟨A1,c1,pR,yc,hcm,Oh,hown⟩:=hO.o.apart hE.o δ;have Qi:(P0++(Vf (N*8)).take k).length=L+k:=by rw[List.length_append,hP0,List.length_take];simp[Vf];omega
    rw[Qi] at pR yc Oh;subst pR;clear yc hcm Oh;obtain⟨Lk,hLk⟩:∃Lk,Lk=L+k:=⟨_,rfl⟩;rw[←hLk] at hO hE hown Qi;have e8:wr.cell? ⟨ge,8,none⟩=some (.slice A1 Lk c1):=hE.o.cell 8;have z8:=hE.o.lt;have awo:Lk≤140:=ω;replace hLk:=ζ hLk;replace hown:=ζ hown;by_cases hlt:k<8
    ·have hk8:(k:Int)<8:=ω;have hval:(N:Int)*8 / 2 ^ (56-8*k) % 256=((N*8 / 2 ^ (56-8*k) % 256:Nat):Int):=by
      rw[Int.natCast_emod,Int.natCast_ediv,Int.natCast_mul,Int.natCast_pow];rfl
     have xJ:(Vf (N*8)).take (k+1)=(Vf (N*8)).take k++[N*8 / 2 ^ (56-8*k) % 256]:=by
      rw[List.take_add_one];simp[Vf,hlt]
     generalize N*8 / 2 ^ (56-8*k) % 256=X at *
     replace xJ:=ζ xJ;generalize hrow:(Value.slice A1 Lk c1).ownBlock=row at *
     have hrn:some ge≠row:=fun e=>(hown.o ge e.symm).2 rfl
     have MF:∀j,row=some j→w1.heap.size≤j:=fun j hj=>(hown.o j hj).1
     replace hrow:=ζ hrow;replace MF:=ζ MF;go_wp2_with fail;refine qK (row) κ ?_;refine rK (up:=oK) (.range 11) 5 ?_;iterate 11 refine jX ?_
     refine ay ?_;refine aY [11] κ σ (fun wN hN hS=>(aK.cons rfl (fun K' hK=> ?_) aK.nil));try replace hO:=ζ (hO.o.grows hN)
     try replace hE:=ζ (hE.o.grows hN)
     try replace dR:=ζ (dR.o.grows hN)
     try replace dS:=ζ (dS.o.grows hN)
     replace hG:=ζ (hG.o.trans hN);clear hN;go_simp;refine hK.o _ _ ?_ (fun hS=> ?_)
     ·exact oD (by assumption) ((ah.refl _).alloc _)
     have dR:=ζ (aS.new wN 5 #[.int .u8 (X:Int)]);replace hO:=ζ (hO.o.alloc (.cells #[.int .u8 (X:Int)] 5));replace hE:=ζ (hE.o.alloc (.cells #[.int .u8 (X:Int)] 5));replace hG:=ζ (hG.o.alloc (.cells #[.int .u8 (X:Int)] 5));clear hK hS;refine aY [12] κ σ (fun wN hN hS=>(aK.cons rfl (fun K' hK=> ?_) aK.nil));try replace hO:=ζ (hO.o.grows hN)
     try replace hE:=ζ (hE.o.grows hN)
     try replace dR:=ζ (dR.o.grows hN)
     try replace dS:=ζ (dS.o.grows hN)
     replace hG:=ζ (hG.o.trans hN);clear hN;have jY:=hG.o.size;refine Own.jO Vh rfl (.tmp 53) (.tmp 60) rfl hO.o rfl rfl (dH.jC dR.o) Yy U0 jY (by unfold maxLen;simp only[Qi];omega) (by simp only[Qi];omega) (fun v3 w4 dS iT hv3=> ?_);rw[hrow.o] at iT;replace hE:=ζ (hE.o.bH iT hrn);replace hG:=ζ (hG.o.bH iT MF.o);obtain⟨A3,c3,Xo,_,_,_,aeG⟩:=dS.apart hE.o δ;rw[List.length_append,Qi] at Xo;simp only[List.length_cons,List.length_nil,Nat.zero_add] at Xo;subst Xo;have dS:=ζ dS;have aeG:=ζ aeG;clear hv3 jY hO dR;go_simp;refine hK.o _ _ ?_ (fun hS=> ?_)
     ·exact World.grownBy.trans (by assumption) iT
     clear iT;clear hK hS;refine rK (up:=oK) [13,14] 1 ?_;iterate 2 refine jX ?_
     refine ay ?_;refine dI (i:=15) rfl κ κ (fun wN hN hS K' hK=> ?_);try replace hO:=ζ (hO.o.grows hN)
     try replace hE:=ζ (hE.o.grows hN)
     try replace dR:=ζ (dR.o.grows hN)
     try replace dS:=ζ (dS.o.grows hN)
     replace hG:=ζ (hG.o.trans hN);clear hS;have f8:=hE.o.frozen 8;have y8:=hE.o.lt;have g8:wN.cell? ⟨ge,8,none⟩=some (.slice A1 Lk c1):=hE.o.cell 8;have U9:=hE.o.dO 8 (.slice A3 (Lk+1) c3);rw[Fg] at U9;have fV:=aj wN ⟨ge,8,none⟩ (.slice A3 (Lk+1) c3);have gu:=ζ (dS.o.iM fV (fun j hj=>(aeG.o j hj).2));have CQ:=ζ (hG.o.kL fV N9.o);replace U9:=ζ U9;clear fV hN;go_simp;refine hK.o _ _ ?_;clear hK hE dS aeG hG f8 y8 g8 e8 z8;generalize wN.setCell ⟨ge,8,none⟩ (.slice A3 (Lk+1) c3)=w9 at *
     go_wp2;go_roundw
     case rel=>exact⟨k+1,_,ω,ν,U9,by
      rw[xJ.o,←List.append_assoc];exact gu,CQ⟩
     case measure=>exact ψ
    ·obtain rfl:k=8:=ω;have apA:N*8 % 18446744073709551616=N*8:=ω;have aj0:P0++(Vf (N*8)).take 8=r ++n_ N:=by
      rw[List.take_of_length_le (by simp[Vf]),←hP.o];unfold n_;rw[apA];simp
     have jk:=hO.o;rw[aj0] at jk Qi;have SY:∀x∈(r ++n_ N)++[],x < 256:=by
      intro x hx;rw[List.append_nil] at hx;rcases List.mem_append.1 hx with h | h
      ·exact hb.o x h
      ·unfold n_ at h;rcases List.mem_cons.1 h with h | h
       ·omega
       ·rcases List.mem_append.1 h with h | h
        ·have:=List.eq_of_mem_replicate h;omega
        ·exact aav _ x h
     have ao6:=hLk.o;have hlm:=aep N;have avv:(r ++n_ N).length % 64=0:=by rw[List.length_append];omega
     have cAdd:=ae4 (W0:=w1) (ys:=[]) (m:=0) (A:=none) (c:=0) hv.o wr hG.o N9.o hE.o jk ⟨dH.iH,fun _ h=>by cases h⟩ SY (by rw[Qi];omega) ω ω;rw[List.append_nil] at cAdd;replace cAdd:=ζ cAdd;generalize hXS:r ++n_ N=XS at *
     replace hXS:=ζ hXS;clear aj0 jk SY hlm hO hE hown hP Qi;go_wp2_with fail;refine (cAdd.out).mono ?_;rintro e w5 ⟨q,A5,c5,rfl,hq1,Yx,hE5,-,-,-,vV⟩;obtain rfl:q=XS.length / 64:=ω;clear hq1 Yx cAdd hG;generalize hV:blocks (XS.length / 64) v XS=V at *
     replace hV:=ζ hV;go_wp2;refine qy (Pr:=fun W=>Code.wp _ _ _ _ W) (fun w6 yQ JY=> ?_);replace yQ:aS w6 w5.heap.size 130 (qY (List.replicate 32 0)):=yQ.cast κ;obtain⟨g6,Ua⟩:∃g6,g6=w5.heap.size:=⟨_,rfl⟩;have ao5:=hE5.lt;rw[←Ua] at yQ ao5 ⊢;have adh:w1.heap.size≤g6:=by rw[Ua];exact vV.size
     have ao1:ge≠g6:=Nat.ne_of_lt ao5;have hE6:=ζ (hE5.grows JY);have Z8:=ζ (vV.trans JY);clear hE5 vV JY Ua ao5;replace yQ:=ζ yQ;replace adh:=ζ adh;replace ao1:=ζ ao1;have adA:=fun k hk=>Wv V (k:=k) hk
     have hDl:=wB V;have hZl:(List.replicate 32 0:List Nat).length=32:=List.length_replicate;generalize hD:uU V=D at *
     generalize (List.replicate 32 0:List Nat)=Z at *
     have Qc:D.length=Z.length:=ω;have ac0:∀k,k<32→(D.take k++Z.drop k).length=32:=fun k hk=>by rw[Ae Qc ω];exact hDl
     have YC:Hid (aS w6 g6 130 (qY (D.take 0++Z.drop 0))):=yQ;replace hD:=ζ hD;replace adA:=ζ adA;replace ac0:=ζ ac0;clear yQ;go_loopw [67] (fun i wr=>∃k:Nat,k≤32∧i =.int .i64 k∧Hid (aS wr g6 130 (qY (D.take k++Z.drop k)))∧Hid (aS wr ge 183 (yH (b_ V) (.slice A5 (XS.length-64*(XS.length / 64)) c5) (0+((0:Nat):Int))))∧Hid (ah w1 wr)) (fun i _=>32-(intOf i).toNat)
     case atStart=>exact⟨0,ω,rfl,YC,hE6,Z8⟩
     case round=>
      clear YC hE6 Z8;obtain⟨k,hk,rfl,hB,hE,hG⟩:=hrel;by_cases hlt:k<32
      ·have hx:=adA.o k hlt;have e1:=(hE.o.cell (k / 4)).trans (aea (by rw[kF];omega));have z1:=hE.o.lt;have z6:=hB.o.lt;have f6:=hB.o.frozen k;have e6:=(hB.o.cell k).trans (QW (by rw[ac0.o k hlt];exact hlt));have aO:=Gh Qc (k:=k) ω;have hSn:=fun x=>ad_ (D.take k++Z.drop k) k x
       generalize (b_ V).getD (k / 4) 0=W at *
       have hval:(W:Int) / 2 ^ (24-8*(k % 4)) % 256=((D.getD k 0:Nat):Int):=by
        rw[hx,Int.natCast_emod,Int.natCast_ediv,Int.natCast_pow];rfl
       generalize D.getD k 0=X at *
       clear hx;replace aO:=ζ aO;replace hSn:=ζ hSn;have XI:=hB.o.dO k (.int .u8 (X:Int));rw[hSn.o,aO.o] at XI;have adz:=hE.o.far (p:=⟨g6,k,none⟩) ao1.o (.int .u8 (X:Int));have ady:=hG.o.setCell (p:=⟨g6,k,none⟩) adh.o (.int .u8 (X:Int));replace XI:=ζ XI;replace adz:=ζ adz;replace ady:=ζ ady;go_wp2;go_roundw
       case rel=>exact⟨k+1,ω,ν,XI,adz,ady⟩
       case measure=>exact ψ
      ·obtain rfl:k=32:=ω;have Lu:=hB.o;rw[List.take_of_length_le ω,List.drop_of_length_le ω,List.append_nil] at Lu;have QC:=mY.o.grows hG.o;have V4:=mX.o.trans hG.o;have akb:w.heap.size≤g2:=Nat.le_of_eq hg2.o.symm;have hGf:=V4.kL (aF wr g2 (qY D)) akb;have hRf:=setRow_heap wr g2 _ (qY D) _ _ QC;have hsz:(qY D).size=32:=by rw[oL];exact hDl
       have JL:(Tryz.prog.info? 130).map (·.size)=some (qY D).size:=by rw[hsz];kernel_rfl
       have hold:(qY Z).size=(qY D).size:=by rw[hsz,oL];omega
       have h1:=Jk D;replace Lu:=ζ Lu;replace QC:=ζ QC;replace hGf:=ζ hGf;replace hRf:=ζ hRf;replace JL:=ζ JL;replace hold:=ζ hold;replace h1:=ζ h1;replace hsz:=ζ hsz;go_wp2_with (first | (refine wpList_load_row rfl 130 (.tmp 6) rfl g6 rfl 130 (qY D) (0,0) _ Lu.o Tryz.underlying130 rfl JL.o ?_) | (refine wpList_store_row rfl 130 (.tmp 2) (.tmp 86) rfl g2 (qY D) rfl rfl 130 _ QC.o JL.o hold.o h1.o ?_));rw[hXS.o,hV.o,hD.o];exact bodyPost_ret (v:=.agg (qY D)) (results_cell_row (p:=2) (ty:=130) κ _ _ g2 130 (qY D) (0,0) _ rfl hRf.o Tryz.underlying130 rfl JL.o) rfl ⟨rfl,hGf.o⟩
end Go.Proofs.YteojanlajhebhaaGreatDoor
