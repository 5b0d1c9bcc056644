/- Parts: SlF ShaL ShaM -/
import Derived.Test.YtbhikkgpcmkonaaGreatDoorVa0
import Derived.Test.YtbhikkgpcmkonaaGreatDoorVa5
import Derived.Laws.Cover3
import Derived.Test.YtbhikkgpcmkonaaGreatDoorVa4
set_option maxRecDepth 100000
set_option maxHeartbeats 12800000
namespace Go.Proofs.YtbhikkgpcmkonaaGreatDoor
open Go.RowKit
theorem Ol (g:FuncId) (lb:Array Value) (eg:Enters Tryz.prog g) (p:bK→Bool) (A:Option Addr) (m c:Nat) (l:List bK) (w:World) (h:bW w 2 dW A m l) (hm:m≤9223372036854775807) (hp:xK Tryz.prog g lb Hr p l w) :
 Calls Tryz.prog 175 #[.slice A m c,.func (.func g) #[] lb] w fun e w'=>e =.returned (.int .i64 (placeOf p l))∧ah w w':=by
 have hlen:=h.1;unfold Enters at eg;obtain⟨R,hR⟩:∃R,R=placeOf p l:=⟨_,rfl⟩;rw[←hR];replace hR:=ζ hR;replace hp:=ζ hp;replace h:=ζ h;go_enter Tryz.func175,Tryz.ntmps175
 go_wp2;go_loopw [5,8] (fun _ i wr=>∃k:Nat,k≤m∧i =.int .i64 k∧Hid (∀j y,j < k→l[j]? = some y→p y = false)∧Hid (ah w wr)) (fun _ i _=>m - (intOf i).toNat)
 case atStart=>exact⟨0,ω,rfl,fun _ _ h=>absurd h ω,ah.refl _⟩
 case round=>
  obtain⟨k,hk,rfl,hall,hg⟩:=hrel;by_cases hlt:k<m
  ·obtain⟨b,off,x,rfl,_,hx,hcell⟩:=(h.o.keep hg.o).at_ hlt;have c0:wr.cell? ⟨b,off+k*2,none⟩=some (.string ⟨x.n.toArray⟩):=hcell 0 _ rfl;have c1:wr.cell? ⟨b,off+k*2+1,none⟩=some (.string ⟨x.v.toArray⟩):=hcell 1 _ rfl;have kY:(k:Int)<(m:Int):=ω;have cI:=hp.o x (List.mem_of_getElem? hx) wr hg.o;unfold Hr at cI;cases hq:p x with
   | false=>
    rw[hq] at cI;replace cI:=ζ cI;have iY:=ζ (show ∀j y,j < k+1→l[j]? = some y→p y = false from fun j y hj hy=>by
     by_cases hjk:j = k
     ·subst hjk;rw[hx] at hy;rw[←Option.some.inj hy];exact hq
     ·exact hall.o j y ω hy)
    clear hcell hq hx hall hR;go_wp2_with fail;refine (cI.out).mono ?_;rintro e w1 ⟨rfl,hb⟩;have hg1:=ζ (hg.o.trans hb);go_wp2;go_roundw
    case rel=>exact⟨k+1,ω,ν,iY,hg1⟩
    case measure=>exact ψ
   | true=>
    rw[hq] at cI;have aQ:Hid (R=(k:Int)):=ζ (by rw[hR.o];exact iW hx hq hall.o);replace cI:=ζ cI;clear hcell hq hx hall hR;go_wp2_with fail;refine (cI.out).mono ?_;rintro e w1 ⟨rfl,hb⟩;have hg1:=ζ (hg.o.trans hb);go_wp2;go_ret;exact⟨by rw[aQ.o];rfl,hg1.o⟩
  ·obtain rfl:k=m:=ω;have aQ:Hid (R=-1):=ζ (by rw[hR.o];exact iC fun j y hy=>hall.o j y (by have:=(List.getElem?_eq_some_iff.1 hy).1;omega) hy);clear hall hR;go_wp2;go_ret;exact⟨by rw[aQ.o];rfl,hg.o⟩
theorem O7 {A:Option Addr} {m c:Nat} {xs:List bK} (w:World) (h:bW w 2 dW A m xs) (hm:m≤65536) :
 Calls Tryz.prog 81 #[.slice A m c] w fun e w'=>∃v,e =.returned v∧Own w' w.heap.size 88 2 dW v xs∧ah w w':=by
 have heq:=fun (w:World)=>Lib.run_eql_slice_nil (P:=Tryz.prog) w 22 88 A m c 0 0 Tryz.underlying22
 have hlen:=h.1;cases A with
 | none=>
  obtain⟨rfl,rfl⟩:=h.acF;clear hlen h;go_enter Tryz.func81,Tryz.ntmps81
  go_wp2;go_ret;exact⟨_,rfl,Own.iH _ _ _ _ _,ah.refl _⟩
 | some ad=>
  have hown:Own (w.alloc (.cells #[] 88)) w.heap.size 88 2 dW (.slice (some ⟨w.heap.size,0,none⟩) ([]:List bK).length 0) []:=
   Own.mk_ (cur:= #[]) IZ ω (Nat.le_refl _) (heap_alloc_new w _) σ (by simp[maxLen]) σ (fun q hq=>by simp at hq)
  have kC:=h.keep ((ah.refl w).alloc (.cells #[] 88));replace hlen:=ζ hlen;clear h;go_enter Tryz.func81,Tryz.ntmps81
  go_wp2_with (at_builtin;refine nZ T_F rfl (.tmp 5) (.tmp 6) rfl hown rfl ad rfl kC IZ atH σ (by simp;unfold maxLen;omega) (by simp;omega) (fun v1 w1 hown1 hgr hat=> ?_));have hb1:Below w.heap.size w w1:=Own.below hown ((Below.refl _ _).alloc (Nat.le_refl _) _) (Nat.le_refl _) σ hgr;clear hgr hat;go_wp2;go_ret;exact⟨v1,rfl,by simpa using hown1,hb1⟩
theorem Yv (g:FuncId) (lb:Array Value) (eg:Enters Tryz.prog g) (p:bK→Bool) (base:Nat) (v:Value) (ws:List bK) (w:World) (h:Own w base 88 2 dW v ws) (hbase:base≤w.heap.size) (hm:ws.length≤65536) (hp:aoP Tryz.prog g lb Hr p base ws w) :
 Calls Tryz.prog 135 #[v,.func (.func g) #[] lb] w fun e w'=>∃v',e =.returned v'∧Own w' base 88 2 dW v' (ws.filter fun x=> !p x)∧Below base w w':=by
 obtain⟨A,c,rfl,aju,hcm,kC⟩:=h.arr IZ;have cI:=Ol (c:=c) g lb eg p A ws.length ws w kC ω (fun x hx W hW=>hp x hx W (hW.below.mono hbase));unfold Enters at eg;rcases zq p ws with⟨h1,h2⟩ | ⟨i0,x0,h1,h2,h3,h4⟩
 ·rw[h1] at cI;have hf:=lK h2;rw[hf];replace cI:=ζ cI;clear h1 h2 hf hp kC;go_enter Tryz.func135,Tryz.ntmps135
  go_wp2_with fail;refine cI.out.mono ?_;rintro e w1 ⟨rfl,hb⟩;go_wp2;go_ret;exact⟨_,rfl,h.grows hb,hb.below.mono hbase⟩
 ·rw[h1] at cI;have hS:=xI.start h2 h3 h4;have hi0:i0<ws.length:=(List.getElem?_eq_some_iff.1 h2).1;have ajo:∃gb,A=some ⟨gb,0,none⟩:=by
   rcases h.2 with⟨h5,h6⟩ | ⟨gb,_,_,h5,_⟩
   ·omega
   ·simp only[Value.slice.injEq] at h5;exact⟨gb,h5.1⟩
  obtain⟨gb,rfl⟩:=ajo;have hgb:base≤gb:=by obtain⟨_,_,hb,_⟩:=h.tu IZ;exact hb
  have hne:((i0:Int)==-1)=false:=by simp
  replace cI:=ζ cI;replace hp:=ζ hp;clear h1 h2 h3 h4 kC;go_enter Tryz.func135,Tryz.ntmps135
  go_wp2_with fail;refine cI.out.mono ?_;rintro e w1 ⟨rfl,hb⟩;obtain⟨n,hn⟩:∃n,n = ws.length:=⟨_,rfl⟩;rw[←hn] at h hm hi0 aju ⊢;replace hn:=ζ hn;unfold maxLen at hcm;go_wp2;go_loopw [5,6] (fun vi vj wr=>∃(i j:Nat) (ys:List bK),vi=.int .i64 i∧vj=.int .i64 j∧i < j∧j≤n∧xI p ws ys i j∧Own wr base 88 2 dW (.slice (some ⟨gb,0,none⟩) n c) ys∧Below base w wr) (fun _ vj _=>n - (intOf vj).toNat)
  case atStart=>exact⟨i0,i0+1,ws,rfl,ν,ω,ω,hS,h.grows hb,hb.below.mono hbase⟩
  case round=>
   obtain⟨i,j,ys,rfl,rfl,hij,hjn,Zc,hown,hB⟩:=hrel;have hBs:=hB.size;by_cases hlt:j < n
   ·obtain⟨x,hx⟩:∃x,ws[j]? = some x:=⟨_,List.getElem?_eq_getElem (by rw[←hn.o];exact hlt)⟩;have wu:=List.mem_of_getElem? hx;have hy:=Zc.get hx;have hs1:=Zc.aoM hx;have hs2:=Zc.an6 hx;obtain⟨x',yN,hcell,_⟩:=hown.at_ IZ hlt;obtain rfl:x'=x:=Option.some.inj (yN.symm.trans hy);have c0:wr.cell? ⟨gb,j * 2,none⟩=some (.string ⟨x'.n.toArray⟩):=hcell 0 _ rfl;have c1:wr.cell? ⟨gb,j * 2+1,none⟩=some (.string ⟨x'.v.toArray⟩):=hcell 1 _ rfl;have EJ:gb<wr.heap.size:=World.block_lt_of_cell? wr ⟨gb,j * 2,none⟩ c0;clear hcell yN hx hy;cases hq:p x'
    ·have hs:=hs2 hq;have cP:=fun W hW=>hp.o x' wu W hW
     unfold Hr at cP;rw[hq] at cP;replace cP:=ζ cP;clear hs1 hs2 hq;go_wp2_with fail;refine (cP.out _ (by
      repeat (first | assumption | exact Below.refl _ _ | apply Below.drew | apply below_drewN | (refine Below.Nb ?_ (by first | rfl | simp) (by first | omega | (simp;omega) | simp)) | (refine Below.alloc ?_ (by first | omega | (simp;omega) | simp) _) | (refine Below.setCell ?_ (by first | omega | (simp;omega) | simp) _))
     )).mono ?_
     rintro e w2 ⟨rfl,hb2⟩;have hown2:=(hown.alloc (.cells #[.string ⟨x'.n.toArray⟩,.string ⟨x'.v.toArray⟩] 88)).grows hb2;obtain⟨y,_,TK,aAV⟩:=hown2.at_ IZ (i:=i) ω;have d0:w2.cell? ⟨gb,i * 2,none⟩=some (.string ⟨y.n.toArray⟩):=TK 0 _ rfl;have d1:w2.cell? ⟨gb,i * 2+1,none⟩=some (.string ⟨y.v.toArray⟩):=TK 1 _ rfl;obtain⟨hc2,hf2⟩:=bQ hb2;have aI:=hown2.bD IZ ω (i:=i) ω x';have Ih:i < n:=ω;have rZ:Below base w w2:=(hB.alloc ω (.cells #[.string ⟨x'.n.toArray⟩,.string ⟨x'.v.toArray⟩] 88)).trans (hb2.below.mono (by simp;omega));replace aI:=ζ aI;clear TK hown2 hb2;go_wp2;go_roundw
     case rel=>exact⟨i + 1,j + 1,ys.set i x',ν,ν,ω,ω,hs,aI.o,Below.setCells hgb (dW x') (i * 2) w2 rZ⟩
     case measure=>exact ψ
    ·have hs:=hs1 hq;have cP:=fun W hW=>hp.o x' wu W hW
     unfold Hr at cP;rw[hq] at cP;replace cP:=ζ cP;clear hs1 hs2 hq;go_wp2_with fail;refine (cP.out _ (by
      repeat (first | assumption | exact Below.refl _ _ | apply Below.drew | apply below_drewN | (refine Below.Nb ?_ (by first | rfl | simp) (by first | omega | (simp;omega) | simp)) | (refine Below.alloc ?_ (by first | omega | (simp;omega) | simp) _) | (refine Below.setCell ?_ (by first | omega | (simp;omega) | simp) _))
     )).mono ?_
     rintro e w2 ⟨rfl,hb2⟩;have hown2:=(hown.alloc (.cells #[.string ⟨x'.n.toArray⟩,.string ⟨x'.v.toArray⟩] 88)).grows hb2;have rZ:Below base w w2:=(hB.alloc ω (.cells #[.string ⟨x'.n.toArray⟩,.string ⟨x'.v.toArray⟩] 88)).trans (hb2.below.mono (by simp;omega));go_wp2;go_roundw
     case rel=>exact⟨i,j + 1,ys,rfl,ν,ω,ω,hs,hown2,rZ⟩
     case measure=>exact ψ
   ·obtain rfl:j = n:=ω;have hf:ys.take i = ws.filter fun x=> !p x:=by
     have:=Zc.front;rwa [List.take_of_length_le (Nat.le_of_eq hn.o.symm)] at this
    have qB:=fun ty=>hown.R_ (P:=Tryz.prog) (t:=22) (ty:=ty) (c:=c - i) (z:=(⟨[],[]⟩:bK)) (zv:=.agg #[.string ⟨#[]⟩,.string ⟨#[]⟩]) IZ ω atH Tryz.underlying22 (fun _=>by kernel_rfl) rfl hij
    obtain⟨zs,hz1,hz2⟩:=Own.clear_ IZ ω (⟨[],[]⟩:bK) (j - i) i _ _ hown ω;have aQ:Own (wr.setCells gb (i * 2) (cu dW (List.replicate (j - i) (⟨[],[]⟩:bK)))) base 88 2 dW (.slice (some ⟨gb,0,none⟩) i c) (ws.filter fun x=> !p x):=by
     rw[←hf,←hz2];exact hz1.cut IZ ω ω
    have Wi:Below base w (wr.setCells gb (i * 2) (cu dW (List.replicate (j - i) (⟨[],[]⟩:bK)))):=Below.setCells hgb _ _ _ hB;generalize wr.setCells gb (i * 2) (cu dW (List.replicate (j - i) (⟨[],[]⟩:bK)))=w3 at qB aQ Wi;clear hz1 hz2 hf Zc hown hB h hp;go_wp2;go_ret;exact⟨_,rfl,aQ,Wi⟩
theorem ac6 {P:Program} {t e:TypeId} (a:Option Addr) (l c:Nat) (h:P.underlying t = some (.slice e)) (w:World):(binOp .eql t (.slice a l c) (.slice none 0 0)).run P w =.ok (.bool a.isNone) w:=by
 simp only[binOp];simp[run_equal_slice_nil w t e a l c h]
theorem af8 {A:Option Addr} {m c:Nat} {xs:List Nat} (w:World) (hA:bW w 1 ji A m xs) (hl:m≤1099511627776) :
 Calls Tryz.prog 181 #[.slice A m c] w fun e w'=>∃v,e =.returned v∧Own w' w.heap.size 5 1 ji v xs∧ah w w':=by
 have h63:([]:List Nat).length+m≤maxLen:=by unfold maxLen;simp;omega
 have hbytes:(([]:List Nat).length+m)*1≤140737488355328:=by simp;omega
 cases A with
 | none=>
  have hx:xs=[]:=by
   apply List.eq_nil_of_length_eq_zero;rw[hA.1];rcases Nat.eq_zero_or_pos m with h0 | h0
   ·exact h0
   ·obtain⟨b,off,h,_⟩:=hA.2 h0;cases h
  subst hx;have hnil:=fun W=>ac6 (P:=Tryz.prog) none m c Tryz.underlying112 W
  go_enter Tryz.func181,Tryz.ntmps181
  go_wp2;go_ret;exact⟨_,rfl,Own.iH _ _ _ _ _,ah.refl _⟩
 | some ad=>
  have hO:Own (w.alloc (.cells #[] 5)) w.heap.size 5 1 ji (.slice (some ⟨w.heap.size,0,none⟩) 0 0) []:=
   Own.mk_ (xs:=[]) (cap:=0) hkB ω (Nat.le_refl _) (heap_alloc_new w _) σ (by simp[maxLen]) rfl (fun q h=>absurd h σ)
  have Zk:=hA.keep ((ah.refl w).alloc (.cells #[] 5));have DY:w.heap.size≤(w.alloc (.cells #[] 5)).heap.size:=by simp
  have hnil:=fun W=>ac6 (P:=Tryz.prog) (some ad) m c Tryz.underlying112 W
  replace hO:=ζ hO;replace Zk:=ζ Zk;go_enter Tryz.func181,Tryz.ntmps181
  go_wp2_with (refine f_ YV rfl (.tmp 5) (.tmp 6) rfl hO.o rfl rfl Zk.o hkB aau DY h63 hbytes ?_;intro v2 w2 nI lY hv2;replace nI:=ζ nI);go_ret;exact⟨_,rfl,nI.o,((ah.refl w).alloc _).aO lY (fun j hj=>by simp[Value.ownBlock] at hj;omega)⟩
theorem Own.bJ {α:Type} {w:World} {base base' k:Nat} {e:TypeId} {enc:α→List Value} {v:Value} {xs:List α} (h:Own w base e k enc v xs) (hb:base'≤base):Own w base' e k enc v xs:=by
 refine⟨h.1,?_⟩;rcases h.2 with h2 | ⟨g',cap,cur,hv,hb',hh,r⟩
 ·exact .inl h2
 ·exact .inr ⟨g',cap,cur,hv,Nat.le_trans hb hb',hh,r⟩
theorem Iy {a w:World} {t:TypeId} {cs:Array Value} (_:ah a (w.alloc (.cells cs t))):aF (w.alloc (.cells cs t)) w.heap.size t cs:=aF.new w t cs
theorem Own.gY {α:Type} {w:World} {base k:Nat} {e:TypeId} {enc:α→List Value} {v:Value} {xs:List α} (h:Own w base e k enc v xs):∀j,v.ownBlock=some j→base≤j:=fun j hj=>by
 rcases h.2 with⟨h2,_⟩ | ⟨g',cap,cur,hv,hb',hh,r⟩
 ·rw[h2] at hj;cases hj
 ·rw[hv] at hj;simp only[Value.ownBlock,Option.some.injEq] at hj;omega
theorem bW.pq {w:World} {g:Nat} {t:TypeId} {x:Nat} (h:aF w g t #[.int .u8 (x:Int)]):bW w 1 ji (some ⟨g,0,none⟩) 1 [x]:=by
 refine⟨rfl,fun _=>⟨g,0,rfl,h.lt,fun i hi j u hu=> ?_⟩⟩;have hi0:i = 0:=by simpa using hi
 subst hi0;have hj:j = 0:=by have:=(List.getElem?_eq_some_iff.1 hu).1;simp[ji] at this;omega
 subst hj;rw[h.cell];exact hu
theorem acp (xs:List Nat) (i x:Nat):(wF xs).setIfInBounds i (.int .u8 (x:Int))=wF (xs.set i x):=by simp[wF,List.map_set]
theorem Gl (v:V8):(CV v).length=32:=rfl
theorem agc (v:V8) {k:Nat} (hk:k<32):(CV v).getD k 0=(fO v).getD (k / 4) 0 / 2 ^ (24-8*(k % 4)) % 256:=by
 match k,hk with
 | 0,_ | 1,_ | 2,_ | 3,_ | 4,_ | 5,_ | 6,_ | 7,_ | 8,_ | 9,_ | 10,_ | 11,_ | 12,_ | 13,_ | 14,_ | 15,_ | 16,_ | 17,_ | 18,_ | 19,_ | 20,_ | 21,_ | 22,_ | 23,_ | 24,_ | 25,_ | 26,_ | 27,_ | 28,_ | 29,_ | 30,_ | 31,_=>simp[CV,fO]
 | k+32,h=>exact absurd h ω
theorem akG (n:Nat):∀x∈be8 n,x < 256:=by
 intro x hx;simp only[be8,List.mem_map] at hx;obtain⟨i,_,rfl⟩:=hx;exact Nat.mod_lt _ δ
def aBd (w:World) (v:V8) (xs:List Nat) (f:Nat→Value) (w':World):Prop:=∃(ge:Nat) (rest:Value),f 3=.pointer (some ⟨ge,0,none⟩)∧w.heap.size≤ge∧aF w' ge 282 (tZ (fO v) rest 0)∧Own w' w.heap.size 5 1 ji rest xs∧ah w w'
theorem al3 {v:V8} (hv:v.ok) {g:Nat} {A:Option Addr} {c N:Nat} {r:List Nat} (w:World) (hS:aF w g 282 (tZ (fO v) (.slice A r.length c) N)) (hr:bW w 1 ji A r.length r) (hb:∀x∈r,x < 256) (hN:N % 64=r.length) (hN2:N≤1099511627776) :
 Calls Tryz.prog 146 #[.pointer (some ⟨g,0,none⟩)] w fun e w'=>e =.returned (.agg (wF (CV (blocks ((r ++rV N).length / 64) v (r ++rV N)))))∧ah w w':=by
 have qM:r.length<64:=ω;obtain⟨n,hn⟩:∃n,n = r.length:=⟨_,rfl⟩;rw[←hn] at hS hr;replace hS:=ζ hS;replace hr:=ζ hr;replace hb:=ζ hb;replace hv:=ζ hv;replace hn:=ζ hn;have cC:∀W,bW W 1 ji A n r→_:=fun W h=>af8 (c:=c) W h (by have:=hn.o;omega)
 replace cC:=ζ cC;go_enter Tryz.func146,Tryz.ntmps146
 go_wp2_with fail;refine wZ (Pr:=fun W=>Code.wp _ _ _ _ W) (fun w1 rZ fF=> ?_);replace rZ:aF w1 w.heap.size 201 (wF (List.replicate 32 0)):=rZ.cast κ;obtain⟨g2,hg2⟩:∃g2,g2=w.heap.size:=⟨_,rfl⟩;rw[←hg2] at rZ ⊢;replace hr:=ζ (hr.o.keep fF);replace hS:=ζ (hS.o.grows fF);have auy:=ζ rZ.lt;replace rZ:=ζ rZ;replace fF:=ζ fF;replace hg2:=ζ hg2;apply Hg (is:=[19,20,21,22,23,3]) (R:=aBd w1 v (r ++[128]))
 case h1=>
  have q0:=hS.o.c0;have q1:=hS.o.c1;have q2:=hS.o.c2;have q3:=hS.o.c3;have q4:=hS.o.c4;have q5:=hS.o.c5;have q6:=hS.o.c6;have q7:=hS.o.c7;have q8:w1.cell? ⟨g,8,none⟩=some (.slice A n c):=hS.o.cell 8;have qz:=hS.o.lt;have hbase:=Nat.le_refl w1.heap.size;refine aG κ ?_;refine rK (.range 8) 6 ?_;iterate 8 refine aC ?_
  refine aB ?_;refine aH [8,9] κ σ (fun wN hN hS=>(au.cons rfl (fun K' hK=> ?_) (au.cons rfl (fun K' hK=> ?_) au.nil)))
  ·skip
   try replace hr:=ζ (hr.o.keep hN)
   try replace kP:=ζ (kP.o.grows hN)
   try replace iT:=ζ (iT.o.grows hN)
   try replace iZ:=ζ (iZ.o.grows hN)
   try replace vM:=ζ (vM.o.grows hN)
   clear hN;go_simp;refine (cC.out _ hr.o).mono ?_;rintro e w8 ⟨vc,rfl,kP,LW⟩;replace kP:=ζ (kP.bJ (base':=w1.heap.size) hS.size);replace hr:=ζ (hr.o.keep LW);try replace iZ:=ζ (iZ.o.grows LW)
   refine hK.o _ _ ?_ (fun hS=> ?_)
   ·exact ah.trans (by assumption) LW
   clear LW;clear hK hS;refine aH [9] κ σ (fun wN hN hS=>(au.cons rfl (fun K' hK=> ?_) au.nil));try replace hr:=ζ (hr.o.keep hN)
   try replace kP:=ζ (kP.o.grows hN)
   try replace iT:=ζ (iT.o.grows hN)
   try replace iZ:=ζ (iZ.o.grows hN)
   try replace vM:=ζ (vM.o.grows hN)
   clear hN;go_simp;refine hK.o _ _ ?_ (fun hS=> ?_)
   ·exact γ
   have iZ:=ζ (Iy hS);replace hr:=ζ (hr.o.keep ((ah.refl _).alloc (.cells #[.int .u8 128] 5)));try replace kP:=ζ (kP.o.alloc (.cells #[.int .u8 128] 5))
   clear hK hS;refine aH [10] κ σ (fun wN hN hS=>(au.cons rfl (fun K' hK=> ?_) au.nil));try replace hr:=ζ (hr.o.keep hN)
   try replace kP:=ζ (kP.o.grows hN)
   try replace iT:=ζ (iT.o.grows hN)
   try replace iZ:=ζ (iZ.o.grows hN)
   try replace vM:=ζ (vM.o.grows hN)
   clear hN;have DY:=hS.size;refine Own.Iw YV rfl (.tmp 19) (.tmp 20) rfl kP.o rfl rfl (bW.pq iZ.o) hkB aau DY (by have:=hn.o;unfold maxLen;omega) (by have:=hn.o;omega) (fun v3 w4 iT kZ hv3=> ?_);obtain⟨A3,c3,U6,-,-,-⟩:=iT.arr hkB;generalize hL3:(r ++[128]).length=L3 at U6;replace hL3:=ζ hL3;subst U6;replace iT:=ζ iT;clear hv3;go_simp;refine hK.o _ _ ?_ (fun hS=> ?_)
   ·exact ah.aO (by assumption) kZ kP.o.gY
   clear kP iZ DY hr kZ;clear hK hS;refine rK [11] 2 ?_;iterate 1 refine aC ?_
   refine aB ?_;refine aH [12] κ σ (fun wN hN hS=>(au.cons rfl (fun K' hK=> ?_) au.nil));try replace hr:=ζ (hr.o.keep hN)
   try replace kP:=ζ (kP.o.grows hN)
   try replace iT:=ζ (iT.o.grows hN)
   try replace iZ:=ζ (iZ.o.grows hN)
   try replace vM:=ζ (vM.o.grows hN)
   clear hN;have DY:=hS.size;go_simp;refine hK.o _ _ ?_ (fun hS=> ?_)
   ·exact γ
   have vM:=ζ (Iy hS);have qA:=ζ DY;clear DY;replace iT:=ζ (iT.o.alloc (.cells #[.int .u32 (v.a:Int),.int .u32 (v.b:Int),.int .u32 (v.c:Int),.int .u32 (v.d:Int),.int .u32 (v.e:Int),.int .u32 (v.f:Int),.int .u32 (v.g:Int),.int .u32 (v.h:Int),.slice A3 L3 c3,.int .i64 0] 282));clear hK hS;refine rK [13] 0 ?_;iterate 1 refine aC ?_
   refine aB ?_;refine aJ κ (fun wN hN hS=> ?_);try replace hr:=ζ (hr.o.keep hN)
   try replace kP:=ζ (kP.o.grows hN)
   try replace iT:=ζ (iT.o.grows hN)
   try replace iZ:=ζ (iZ.o.grows hN)
   try replace vM:=ζ (vM.o.grows hN)
   exact⟨(by
    simp only[gV,List.foldl_cons,List.foldl_nil];go_simp;try rfl
   ),_,_,rfl,qA.o,vM.o,iT.o,hS⟩
  ·skip
   try replace hr:=ζ (hr.o.keep hN)
   try replace kP:=ζ (kP.o.grows hN)
   try replace iT:=ζ (iT.o.grows hN)
   try replace iZ:=ζ (iZ.o.grows hN)
   try replace vM:=ζ (vM.o.grows hN)
   clear hN;go_simp;refine hK.o _ _ ?_ (fun hS=> ?_)
   ·exact γ
   have iZ:=ζ (Iy hS);replace hr:=ζ (hr.o.keep ((ah.refl _).alloc (.cells #[.int .u8 128] 5)));try replace kP:=ζ (kP.o.alloc (.cells #[.int .u8 128] 5))
   clear hK hS;refine aH [8] κ σ (fun wN hN hS=>(au.cons rfl (fun K' hK=> ?_) au.nil));try replace hr:=ζ (hr.o.keep hN)
   try replace kP:=ζ (kP.o.grows hN)
   try replace iT:=ζ (iT.o.grows hN)
   try replace iZ:=ζ (iZ.o.grows hN)
   try replace vM:=ζ (vM.o.grows hN)
   clear hN;go_simp;refine (cC.out _ hr.o).mono ?_;rintro e w8 ⟨vc,rfl,kP,LW⟩;replace kP:=ζ (kP.bJ (base':=w1.heap.size) hS.size);replace hr:=ζ (hr.o.keep LW);try replace iZ:=ζ (iZ.o.grows LW)
   refine hK.o _ _ ?_ (fun hS=> ?_)
   ·exact ah.trans (by assumption) LW
   clear LW;clear hK hS;refine aH [10] κ σ (fun wN hN hS=>(au.cons rfl (fun K' hK=> ?_) au.nil));try replace hr:=ζ (hr.o.keep hN)
   try replace kP:=ζ (kP.o.grows hN)
   try replace iT:=ζ (iT.o.grows hN)
   try replace iZ:=ζ (iZ.o.grows hN)
   try replace vM:=ζ (vM.o.grows hN)
   clear hN;have DY:=hS.size;refine Own.Iw YV rfl (.tmp 19) (.tmp 20) rfl kP.o rfl rfl (bW.pq iZ.o) hkB aau DY (by have:=hn.o;unfold maxLen;omega) (by have:=hn.o;omega) (fun v3 w4 iT kZ hv3=> ?_);obtain⟨A3,c3,U6,-,-,-⟩:=iT.arr hkB;generalize hL3:(r ++[128]).length=L3 at U6;replace hL3:=ζ hL3;subst U6;replace iT:=ζ iT;clear hv3;go_simp;refine hK.o _ _ ?_ (fun hS=> ?_)
   ·exact ah.aO (by assumption) kZ kP.o.gY
   clear kP iZ DY hr kZ;clear hK hS;refine rK [11] 2 ?_;iterate 1 refine aC ?_
   refine aB ?_;refine aH [12] κ σ (fun wN hN hS=>(au.cons rfl (fun K' hK=> ?_) au.nil));try replace hr:=ζ (hr.o.keep hN)
   try replace kP:=ζ (kP.o.grows hN)
   try replace iT:=ζ (iT.o.grows hN)
   try replace iZ:=ζ (iZ.o.grows hN)
   try replace vM:=ζ (vM.o.grows hN)
   clear hN;have DY:=hS.size;go_simp;refine hK.o _ _ ?_ (fun hS=> ?_)
   ·exact γ
   have vM:=ζ (Iy hS);have qA:=ζ DY;clear DY;replace iT:=ζ (iT.o.alloc (.cells #[.int .u32 (v.a:Int),.int .u32 (v.b:Int),.int .u32 (v.c:Int),.int .u32 (v.d:Int),.int .u32 (v.e:Int),.int .u32 (v.f:Int),.int .u32 (v.g:Int),.int .u32 (v.h:Int),.slice A3 L3 c3,.int .i64 0] 282));clear hK hS;refine rK [13] 0 ?_;iterate 1 refine aC ?_
   refine aB ?_;refine aJ κ (fun wN hN hS=> ?_);try replace hr:=ζ (hr.o.keep hN)
   try replace kP:=ζ (kP.o.grows hN)
   try replace iT:=ζ (iT.o.grows hN)
   try replace iZ:=ζ (iZ.o.grows hN)
   try replace vM:=ζ (vM.o.grows hN)
   exact⟨(by
    simp only[gV,List.foldl_cons,List.foldl_nil];go_simp;try rfl
   ),_,_,rfl,qA.o,vM.o,iT.o,hS⟩
 intro f w3 hR;obtain⟨ge,rest,e3,qA,hE,hO,qo⟩:=hR;simp only[lM,List.foldl_cons,List.foldl_nil,e3];go_simp;have aE9:w1.heap.size≤ge:=qA;replace qA:=ζ qA;replace hE:=ζ hE;replace hO:=ζ hO;replace qo:=ζ qo;have hz:zeros N<64:=by unfold zeros;omega
 go_wp2;go_loopw [] (fun wr=>∃(j:Nat) (rs:Value),j≤zeros N∧Hid (aF wr ge 282 (tZ (fO v) rs 0))∧Hid (Own wr w1.heap.size 5 1 ji rs (r ++[128]++List.replicate j 0))∧Hid (ah w1 wr)) (fun wr=>200-MG ge wr)
 case atStart=>exact⟨0,rest,ω,hE,by simpa using hO,qo⟩
 case round=>
  clear hE hO qo e3;obtain⟨j,rs,hj,hE,hO,hG⟩:=hrel;obtain⟨A1,c1,nN,Cb,hcm,hAp,hown⟩:=hO.o.apart hE.o δ;have X_:(r ++[128]++List.replicate j 0).length=n + 1+j:=by have:=hn.o;simp;omega
  rw[X_] at nN Cb hAp;obtain⟨L,hL⟩:∃L,L=n + 1+j:=⟨_,rfl⟩;rw[←hL] at nN Cb hAp X_;subst nN;have e8:wr.cell? ⟨ge,8,none⟩=some (.slice A1 L c1):=hE.o.cell 8;have z8:=hE.o.lt;have auc:=ζ (uT (g:=ge) e8);have Y6:=hn.o;by_cases hlt:j < zeros N
  ·have aur:¬((L:Int) % 64=56):=by unfold zeros at hlt;omega
   have aoh:¬(L % 64=56):=by unfold zeros at hlt;omega
   have wH:=ζ (hO.o.alloc (.cells #[.int .u8 0] 5));have I8:=ζ (hE.o.alloc (.cells #[.int .u8 0] 5));have Zk:=ζ (bW.pq (x:=0) (aF.new wr 5 #[.int .u8 ((0:Nat):Int)]));have aqN:=ζ (hG.o.alloc (.cells #[.int .u8 0] 5));have DY:=aqN.o.size;replace hown:=ζ hown;have hLb:L≤130:=ω;replace hL:=ζ hL;replace Y6:=ζ Y6;replace X_:=X_;go_wp2_with (at_builtin;(refine f_ YV rfl (.tmp 35) (.tmp 36) rfl wH.o rfl rfl Zk.o hkB aau DY (by unfold maxLen;simp only[X_];omega) (by simp only[X_];omega) ?_;intro v2 w2 nI lY hv2;clear hv2;(have EM:=I8.o.aO lY (fun e=>(hown.o ge e.symm).2 rfl));(have h02:=aqN.o.aO lY (fun j hj=>(hown.o j hj).1));(obtain⟨A2,c2,ai2,Y6,X5,rZ,hown2⟩:=nI.apart EM δ);clear Y6 X5 rZ;(rw[List.length_append,X_] at ai2);(simp only[List.length_cons,List.length_nil,Nat.zero_add] at ai2);subst ai2;(have e8:=EM.cell 8);(have f8:=EM.frozen 8);(have z8:=EM.lt);(have kZ:=aj w2 ⟨ge,8,none⟩ (.slice A2 (L+1) c2));(have JQ:=EM.bD 8 (.slice A2 (L+1) c2));(rw[yC] at JQ);(have iT:=nI.fH kZ (fun j hj=>(hown2 j hj).2));(have h03:=h02.qh kZ qA.o);(replace JQ:=ζ JQ);(replace iT:=ζ iT);(replace h03:=ζ h03);clear kZ hown2 h02 EM lY nI wH Zk I8 aqN hown));have ayT:=ζ (uT (g:=ge) (A:=A2) (n:=L+1) (c:=c2) (JQ.o.cell 8));go_roundw
   case rel=>exact⟨j + 1,_,ω,JQ,by
    rw[List.replicate_succ',←List.append_assoc];exact iT,h03⟩
   case measure=>rw[ayT.o,auc.o];omega
  ·have hjz:j = zeros N:=ω;have aur:(L:Int) % 64=56:=by unfold zeros at hjz;omega
   have aoh:L % 64=56:=by unfold zeros at hjz;omega
   have hLz:=hL;rw[hjz] at hLz;subst hjz;replace hL:=ζ hL;replace Y6:=ζ Y6;clear hAp hown X_ auc;have azI:wr.cell? ⟨g,9,none⟩=some (.int .i64 N):=((hS.o.grows hG.o).cell 9);have zg:=(hS.o.grows hG.o).lt;have hN0:0≤(N:Int)∧(N:Int)≤1099511627776:=ω;have hN8:(N:Int) % 18446744073709551616*8 % 18446744073709551616=((N*8:Nat):Int):=ω;replace hLz:=ζ hLz;clear hcm Cb;go_wp2;have hP0:(r ++[128]++List.replicate (zeros N) 0).length=L:=by have:=hLz.o;have:=Y6.o;simp;omega
   generalize hP:r ++[128]++List.replicate (zeros N) 0=P0 at *
   replace hP:=ζ hP;have hLb:L≤130:=by have:=hLz.o;have:=Y6.o;omega
   go_loopw [46] (fun i wr=>∃(k:Nat) (rs:Value),k≤8∧i =.int .i64 k∧Hid (aF wr ge 282 (tZ (fO v) rs 0))∧Hid (Own wr w1.heap.size 5 1 ji rs (P0++(be8 (N*8)).take k))∧Hid (ah w1 wr)) (fun i _=>8-(intOf i).toNat)
   case atStart=>exact⟨0,_,ω,rfl,hE,by simpa using hO,hG⟩
   case round=>
    clear hE hO hG e8 z8 hL azI zg aur aoh;obtain⟨k,rs,hk,rfl,hE,hO,hG⟩:=hrel;obtain⟨A1,c1,nN,Cb,hcm,hAp,hown⟩:=hO.o.apart hE.o δ;have X_:(P0++(be8 (N*8)).take k).length=L+k:=by rw[List.length_append,hP0,List.length_take];simp[be8];omega
    rw[X_] at nN Cb hAp;subst nN;clear Cb hcm hAp;obtain⟨Lk,hLk⟩:∃Lk,Lk=L+k:=⟨_,rfl⟩;rw[←hLk] at hO hE hown X_;have e8:wr.cell? ⟨ge,8,none⟩=some (.slice A1 Lk c1):=hE.o.cell 8;have z8:=hE.o.lt;have aFv:Lk≤140:=ω;replace hLk:=ζ hLk;replace hown:=ζ hown;by_cases hlt:k<8
    ·have hk8:(k:Int)<8:=ω;have hval:(N:Int)*8 / 2 ^ (56-8*k) % 256=((N*8 / 2 ^ (56-8*k) % 256:Nat):Int):=by
      rw[Int.natCast_emod,Int.natCast_ediv,Int.natCast_mul,Int.natCast_pow];rfl
     have xC:(be8 (N*8)).take (k+1)=(be8 (N*8)).take k++[N*8 / 2 ^ (56-8*k) % 256]:=by
      rw[List.take_add_one];simp[be8,hlt]
     generalize N*8 / 2 ^ (56-8*k) % 256=X at *
     replace xC:=ζ xC;generalize hrow:(Value.slice A1 Lk c1).ownBlock=row at *
     have hrn:some ge≠row:=fun e=>(hown.o ge e.symm).2 rfl
     have hrb:∀j,row=some j→w1.heap.size≤j:=fun j hj=>(hown.o j hj).1
     replace hrow:=ζ hrow;replace hrb:=ζ hrb;go_wp2_with fail;refine jA (row) κ ?_;refine rK (up:=jB) (.range 11) 5 ?_;iterate 11 refine h_ ?_
     refine aB ?_;refine aH [11] κ σ (fun wN hN hS=>(au.cons rfl (fun K' hK=> ?_) au.nil));try replace hO:=ζ (hO.o.grows hN)
     try replace hE:=ζ (hE.o.grows hN)
     try replace iZ:=ζ (iZ.o.grows hN)
     try replace iT:=ζ (iT.o.grows hN)
     replace hG:=ζ (hG.o.trans hN);clear hN;go_simp;refine hK.o _ _ ?_ (fun hS=> ?_)
     ·exact dQ (by assumption) ((ah.refl _).alloc _)
     have iZ:=ζ (aF.new wN 5 #[.int .u8 (X:Int)]);replace hO:=ζ (hO.o.alloc (.cells #[.int .u8 (X:Int)] 5));replace hE:=ζ (hE.o.alloc (.cells #[.int .u8 (X:Int)] 5));replace hG:=ζ (hG.o.alloc (.cells #[.int .u8 (X:Int)] 5));clear hK hS;refine aH [12] κ σ (fun wN hN hS=>(au.cons rfl (fun K' hK=> ?_) au.nil));try replace hO:=ζ (hO.o.grows hN)
     try replace hE:=ζ (hE.o.grows hN)
     try replace iZ:=ζ (iZ.o.grows hN)
     try replace iT:=ζ (iT.o.grows hN)
     replace hG:=ζ (hG.o.trans hN);clear hN;have DY:=hG.o.size;refine Own.Iw YV rfl (.tmp 53) (.tmp 60) rfl hO.o rfl rfl (bW.pq iZ.o) hkB aau DY (by unfold maxLen;simp only[X_];omega) (by simp only[X_];omega) (fun v3 w4 iT kZ hv3=> ?_);rw[hrow.o] at kZ;replace hE:=ζ (hE.o.aO kZ hrn);replace hG:=ζ (hG.o.aO kZ hrb.o);obtain⟨A3,c3,U6,_,_,_,acP⟩:=iT.apart hE.o δ;rw[List.length_append,X_] at U6;simp only[List.length_cons,List.length_nil,Nat.zero_add] at U6;subst U6;have iT:=ζ iT;have acP:=ζ acP;clear hv3 DY hO iZ;go_simp;refine hK.o _ _ ?_ (fun hS=> ?_)
     ·exact World.grownBy.trans (by assumption) kZ
     clear kZ;clear hK hS;refine rK (up:=jB) [13,14] 1 ?_;iterate 2 refine h_ ?_
     refine aB ?_;refine d_ (i:=15) rfl κ κ (fun wN hN hS K' hK=> ?_);try replace hO:=ζ (hO.o.grows hN)
     try replace hE:=ζ (hE.o.grows hN)
     try replace iZ:=ζ (iZ.o.grows hN)
     try replace iT:=ζ (iT.o.grows hN)
     replace hG:=ζ (hG.o.trans hN);clear hS;have f8:=hE.o.frozen 8;have y8:=hE.o.lt;have g8:wN.cell? ⟨ge,8,none⟩=some (.slice A1 Lk c1):=hE.o.cell 8;have JQ:=hE.o.bD 8 (.slice A3 (Lk+1) c3);rw[yC] at JQ;have iR:=aj wN ⟨ge,8,none⟩ (.slice A3 (Lk+1) c3);have lq:=ζ (iT.o.fH iR (fun j hj=>(acP.o j hj).2));have rH:=ζ (hG.o.qh iR qA.o);replace JQ:=ζ JQ;clear iR hN;go_simp;refine hK.o _ _ ?_;clear hK hE iT acP hG f8 y8 g8 e8 z8;generalize wN.setCell ⟨ge,8,none⟩ (.slice A3 (Lk+1) c3)=w9 at *
     go_wp2;go_roundw
     case rel=>exact⟨k+1,_,ω,ν,JQ,by
      rw[xC.o,←List.append_assoc];exact lq,rH⟩
     case measure=>exact ψ
    ·obtain rfl:k=8:=ω;have aAl:N*8 % 18446744073709551616=N*8:=ω;have auf:P0++(be8 (N*8)).take 8=r ++rV N:=by
      rw[List.take_of_length_le (by simp[be8]),←hP.o];unfold rV;rw[aAl];simp
     have lZ:=hO.o;rw[auf] at lZ X_;have EL:∀x∈(r ++rV N)++[],x < 256:=by
      intro x hx;rw[List.append_nil] at hx;rcases List.mem_append.1 hx with h | h
      ·exact hb.o x h
      ·unfold rV at h;rcases List.mem_cons.1 h with h | h
       ·omega
       ·rcases List.mem_append.1 h with h | h
        ·have:=List.eq_of_mem_replicate h;omega
        ·exact akG _ x h
     have ap7:=hLk.o;have JG:=alY N;have aED:(r ++rV N).length % 64=0:=by rw[List.length_append];omega
     have cAdd:=adq (W0:=w1) (ys:=[]) (m:=0) (A:=none) (c:=0) hv.o wr hG.o qA.o hE.o lZ ⟨bW.iH,fun _ h=>by cases h⟩ EL (by rw[X_];omega) ω ω;rw[List.append_nil] at cAdd;replace cAdd:=ζ cAdd;generalize hXS:r ++rV N=XS at *
     replace hXS:=ζ hXS;clear auf lZ EL JG hO hE hown hP X_;go_wp2_with fail;refine (cAdd.out).mono ?_;rintro e w5 ⟨q,A5,c5,rfl,hq1,Q5,Yc,-,-,-,oL⟩;obtain rfl:q=XS.length / 64:=ω;clear hq1 Q5 cAdd hG;generalize hV:blocks (XS.length / 64) v XS=V at *
     replace hV:=ζ hV;go_wp2;refine wZ (Pr:=fun W=>Code.wp _ _ _ _ W) (fun w6 yj EN=> ?_);replace yj:aF w6 w5.heap.size 201 (wF (List.replicate 32 0)):=yj.cast κ;obtain⟨g6,FZ⟩:∃g6,g6=w5.heap.size:=⟨_,rfl⟩;have ap4:=Yc.lt;rw[←FZ] at yj ap4 ⊢;have aqh:w1.heap.size≤g6:=by rw[FZ];exact oL.size
     have ap2:ge≠g6:=Nat.ne_of_lt ap4;have hE6:=ζ (Yc.grows EN);have V_:=ζ (oL.trans EN);clear Yc oL EN FZ ap4;replace yj:=ζ yj;replace aqh:=ζ aqh;replace ap2:=ζ ap2;have aqP:=fun k hk=>agc V (k:=k) hk
     have hDl:=Gl V;have hZl:(List.replicate 32 0:List Nat).length=32:=List.length_replicate;generalize hD:CV V=D at *
     generalize (List.replicate 32 0:List Nat)=Z at *
     have Va:D.length=Z.length:=ω;have apI:∀k,k<32→(D.take k++Z.drop k).length=32:=fun k hk=>by rw[Fz Va ω];exact hDl
     have Yf:Hid (aF w6 g6 201 (wF (D.take 0++Z.drop 0))):=yj;replace hD:=ζ hD;replace aqP:=ζ aqP;replace apI:=ζ apI;clear yj;go_loopw [67] (fun i wr=>∃k:Nat,k≤32∧i =.int .i64 k∧Hid (aF wr g6 201 (wF (D.take k++Z.drop k)))∧Hid (aF wr ge 282 (tZ (fO V) (.slice A5 (XS.length-64*(XS.length / 64)) c5) (0+((0:Nat):Int))))∧Hid (ah w1 wr)) (fun i _=>32-(intOf i).toNat)
     case atStart=>exact⟨0,ω,rfl,Yf,hE6,V_⟩
     case round=>
      clear Yf hE6 V_;obtain⟨k,hk,rfl,hB,hE,hG⟩:=hrel;by_cases hlt:k<32
      ·have hx:=aqP.o k hlt;have e1:=(hE.o.cell (k / 4)).trans (acr (by rw[vP];omega));have z1:=hE.o.lt;have z6:=hB.o.lt;have f6:=hB.o.frozen k;have e6:=(hB.o.cell k).trans (ahi (by rw[apI.o k hlt];exact hlt));have aI:=Nz Va (k:=k) ω;have hSn:=fun x=>acp (D.take k++Z.drop k) k x
       generalize (fO V).getD (k / 4) 0=W at *
       have hval:(W:Int) / 2 ^ (24-8*(k % 4)) % 256=((D.getD k 0:Nat):Int):=by
        rw[hx,Int.natCast_emod,Int.natCast_ediv,Int.natCast_pow];rfl
       generalize D.getD k 0=X at *
       clear hx;replace aI:=ζ aI;replace hSn:=ζ hSn;have am7:=hB.o.bD k (.int .u8 (X:Int));rw[hSn.o,aI.o] at am7;have aqO:=hE.o.far (p:=⟨g6,k,none⟩) ap2.o (.int .u8 (X:Int));have aqM:=hG.o.setCell (p:=⟨g6,k,none⟩) aqh.o (.int .u8 (X:Int));replace am7:=ζ am7;replace aqO:=ζ aqO;replace aqM:=ζ aqM;go_wp2;go_roundw
       case rel=>exact⟨k+1,ω,ν,am7,aqO,aqM⟩
       case measure=>exact ψ
      ·obtain rfl:k=32:=ω;have tN:=hB.o;rw[List.take_of_length_le ω,List.drop_of_length_le ω,List.append_nil] at tN;have iy:=rZ.o.grows hG.o;have hG8:=fF.o.trans hG.o;have amD:w.heap.size≤g2:=Nat.le_of_eq hg2.o.symm;have hGf:=hG8.qh (mD wr g2 (wF D)) amD;have uh:=setRow_heap wr g2 _ (wF D) _ _ iy;have hsz:(wF D).size=32:=by rw[yB];exact hDl
       have Rq:(Tryz.prog.info? 201).map (·.size)=some (wF D).size:=by rw[hsz];kernel_rfl
       have hold:(wF Z).size=(wF D).size:=by rw[hsz,yB];omega
       have h1:=Um D;replace tN:=ζ tN;replace iy:=ζ iy;replace hGf:=ζ hGf;replace uh:=ζ uh;replace Rq:=ζ Rq;replace hold:=ζ hold;replace h1:=ζ h1;replace hsz:=ζ hsz;go_wp2_with (first | (refine wpList_load_row rfl 201 (.tmp 6) rfl g6 rfl 201 (wF D) (0,0) _ tN.o Tryz.underlying201 rfl Rq.o ?_) | (refine wpList_store_row rfl 201 (.tmp 2) (.tmp 86) rfl g2 (wF D) rfl rfl 201 _ iy.o Rq.o hold.o h1.o ?_));rw[hXS.o,hV.o,hD.o];exact bodyPost_ret (v:=.agg (wF D)) (results_cell_row (p:=2) (ty:=201) κ _ _ g2 201 (wF D) (0,0) _ rfl uh.o Tryz.underlying201 rfl Rq.o) rfl ⟨rfl,hGf.o⟩
end Go.Proofs.YtbhikkgpcmkonaaGreatDoor
