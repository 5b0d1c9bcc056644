/- Parts: SlF ShaL ShaM -/
import Derived.Test.YtbhikkgpcmkonaaGreatDoorEn0
import Derived.Test.YtbhikkgpcmkonaaGreatDoorEn5
import Derived.Laws.Cover3
import Derived.Test.YtbhikkgpcmkonaaGreatDoorEn4
set_option maxRecDepth 100000
set_option maxHeartbeats 12800000
namespace Go.Proofs.YtbhikkgpcmkonaaGreatDoor
open Go.RowKit
theorem JR (g:FuncId) (lb:Array Value) (eg:Enters Tryz.prog g) (p:bK→Bool) (A:Option Addr) (m c:Nat) (l:List bK) (w:World) (h:cu w 2 eu A m l) (hm:m≤9223372036854775807) (hp:uo Tryz.prog g lb Df p l w) :
 Calls Tryz.prog 175 #[.slice A m c,.func (.func g) #[] lb] w fun e w'=>e =.returned (.int .i64 (placeOf p l))∧ah w w':=by
 have hlen:=h.1;unfold Enters at eg;obtain⟨R,hR⟩:∃R,R=placeOf p l:=⟨_,rfl⟩;rw[←hR];replace hR:=ζ hR;replace hp:=ζ hp;replace h:=ζ h;go_enter Tryz.func175,Tryz.ntmps175
 go_wp2;go_loopw [5,8] (fun _ i wr=>∃k:Nat,k≤m∧i =.int .i64 k∧Hid (∀j y,j < k→l[j]? = some y→p y = false)∧Hid (ah w wr)) (fun _ i _=>m - (intOf i).toNat)
 case atStart=>exact⟨0,ω,rfl,fun _ _ h=>absurd h ω,ah.refl _⟩
 case round=>
  obtain⟨k,hk,rfl,hall,hg⟩:=hrel;by_cases hlt:k<m
  ·obtain⟨b,off,x,rfl,_,hx,hcell⟩:=(h.o.keep hg.o).at_ hlt;have c0:wr.cell? ⟨b,off+k*2,none⟩=some (.string ⟨x.n.toArray⟩):=hcell 0 _ rfl;have c1:wr.cell? ⟨b,off+k*2+1,none⟩=some (.string ⟨x.v.toArray⟩):=hcell 1 _ rfl;have lK:(k:Int)<(m:Int):=ω;have cI:=hp.o x (List.mem_of_getElem? hx) wr hg.o;unfold Df at cI;cases hq:p x with
   | false=>
    rw[hq] at cI;replace cI:=ζ cI;have iQ:=ζ (show ∀j y,j < k+1→l[j]? = some y→p y = false from fun j y hj hy=>by
     by_cases hjk:j = k
     ·subst hjk;rw[hx] at hy;rw[←Option.some.inj hy];exact hq
     ·exact hall.o j y ω hy)
    clear hcell hq hx hall hR;go_wp2_with fail;refine (cI.out).mono ?_;rintro e w1 ⟨rfl,hb⟩;have hg1:=ζ (hg.o.trans hb);go_wp2;go_roundw
    case rel=>exact⟨k+1,ω,ν,iQ,hg1⟩
    case measure=>exact ψ
   | true=>
    rw[hq] at cI;have aO:Hid (R=(k:Int)):=ζ (by rw[hR.o];exact iK hx hq hall.o);replace cI:=ζ cI;clear hcell hq hx hall hR;go_wp2_with fail;refine (cI.out).mono ?_;rintro e w1 ⟨rfl,hb⟩;have hg1:=ζ (hg.o.trans hb);go_wp2;go_ret;exact⟨by rw[aO.o];rfl,hg1.o⟩
  ·obtain rfl:k=m:=ω;have aO:Hid (R=-1):=ζ (by rw[hR.o];exact gG fun j y hy=>hall.o j y (by have:=(List.getElem?_eq_some_iff.1 hy).1;omega) hy);clear hall hR;go_wp2;go_ret;exact⟨by rw[aO.o];rfl,hg.o⟩
theorem KC {A:Option Addr} {m c:Nat} {xs:List bK} (w:World) (h:cu w 2 eu A m xs) (hm:m≤65536) :
 Calls Tryz.prog 81 #[.slice A m c] w fun e w'=>∃v,e =.returned v∧Own w' w.heap.size 88 2 eu v xs∧ah w w':=by
 have heq:=fun (w:World)=>Lib.run_eql_slice_nil (P:=Tryz.prog) w 22 88 A m c 0 0 Tryz.underlying22
 have hlen:=h.1;cases A with
 | none=>
  obtain⟨rfl,rfl⟩:=h.ai3;clear hlen h;go_enter Tryz.func81,Tryz.ntmps81
  go_wp2;go_ret;exact⟨_,rfl,Own.jA _ _ _ _ _,ah.refl _⟩
 | some ad=>
  have hown:Own (w.alloc (.cells #[] 88)) w.heap.size 88 2 eu (.slice (some ⟨w.heap.size,0,none⟩) ([]:List bK).length 0) []:=
   Own.mk_ (cur:= #[]) GN ω (Nat.le_refl _) (heap_alloc_new w _) σ (by simp[maxLen]) σ (fun q hq=>by simp at hq)
  have jT:=h.keep ((ah.refl w).alloc (.cells #[] 88));replace hlen:=ζ hlen;clear h;go_enter Tryz.func81,Tryz.ntmps81
  go_wp2_with (at_builtin;refine xG T_F rfl (.tmp 5) (.tmp 6) rfl hown rfl ad rfl jT GN aoi σ (by simp;unfold maxLen;omega) (by simp;omega) (fun v1 w1 hown1 hgr hat=> ?_));have hb1:Below w.heap.size w w1:=Own.below hown ((Below.refl _ _).alloc (Nat.le_refl _) _) (Nat.le_refl _) σ hgr;clear hgr hat;go_wp2;go_ret;exact⟨v1,rfl,by simpa using hown1,hb1⟩
theorem Ut (g:FuncId) (lb:Array Value) (eg:Enters Tryz.prog g) (p:bK→Bool) (base:Nat) (v:Value) (ws:List bK) (w:World) (h:Own w base 88 2 eu v ws) (hbase:base≤w.heap.size) (hm:ws.length≤65536) (hp:ajN Tryz.prog g lb Df p base ws w) :
 Calls Tryz.prog 135 #[v,.func (.func g) #[] lb] w fun e w'=>∃v',e =.returned v'∧Own w' base 88 2 eu v' (ws.filter fun x=> !p x)∧Below base w w':=by
 obtain⟨A,c,rfl,aeB,hcm,jT⟩:=h.arr GN;have cI:=JR (c:=c) g lb eg p A ws.length ws w jT ω (fun x hx W hW=>hp x hx W (hW.below.mono hbase));unfold Enters at eg;rcases wu p ws with⟨h1,h2⟩ | ⟨i0,x0,h1,h2,h3,h4⟩
 ·rw[h1] at cI;have hf:=jR h2;rw[hf];replace cI:=ζ cI;clear h1 h2 hf hp jT;go_enter Tryz.func135,Tryz.ntmps135
  go_wp2_with fail;refine cI.out.mono ?_;rintro e w1 ⟨rfl,hb⟩;go_wp2;go_ret;exact⟨_,rfl,h.grows hb,hb.below.mono hbase⟩
 ·rw[h1] at cI;have hS:=um.start h2 h3 h4;have hi0:i0<ws.length:=(List.getElem?_eq_some_iff.1 h2).1;have aev:∃gb,A=some ⟨gb,0,none⟩:=by
   rcases h.2 with⟨h5,h6⟩ | ⟨gb,_,_,h5,_⟩
   ·omega
   ·simp only[Value.slice.injEq] at h5;exact⟨gb,h5.1⟩
  obtain⟨gb,rfl⟩:=aev;have hgb:base≤gb:=by obtain⟨_,_,hb,_⟩:=h.uH GN;exact hb
  have hne:((i0:Int)==-1)=false:=by simp
  replace cI:=ζ cI;replace hp:=ζ hp;clear h1 h2 h3 h4 jT;go_enter Tryz.func135,Tryz.ntmps135
  go_wp2_with fail;refine cI.out.mono ?_;rintro e w1 ⟨rfl,hb⟩;obtain⟨n,hn⟩:∃n,n = ws.length:=⟨_,rfl⟩;rw[←hn] at h hm hi0 aeB ⊢;replace hn:=ζ hn;unfold maxLen at hcm;go_wp2;go_loopw [5,6] (fun vi vj wr=>∃(i j:Nat) (ys:List bK),vi=.int .i64 i∧vj=.int .i64 j∧i < j∧j≤n∧um p ws ys i j∧Own wr base 88 2 eu (.slice (some ⟨gb,0,none⟩) n c) ys∧Below base w wr) (fun _ vj _=>n - (intOf vj).toNat)
  case atStart=>exact⟨i0,i0+1,ws,rfl,ν,ω,ω,hS,h.grows hb,hb.below.mono hbase⟩
  case round=>
   obtain⟨i,j,ys,rfl,rfl,YM,hjn,Vf,hown,hB⟩:=hrel;have hBs:=hB.size;by_cases hlt:j < n
   ·obtain⟨x,hx⟩:∃x,ws[j]? = some x:=⟨_,List.getElem?_eq_getElem (by rw[←hn.o];exact hlt)⟩;have yN:=List.mem_of_getElem? hx;have hy:=Vf.get hx;have hs1:=Vf.ajI hx;have hs2:=Vf.ai6 hx;obtain⟨x',BK,hcell,_⟩:=hown.at_ GN hlt;obtain rfl:x'=x:=Option.some.inj (BK.symm.trans hy);have c0:wr.cell? ⟨gb,j * 2,none⟩=some (.string ⟨x'.n.toArray⟩):=hcell 0 _ rfl;have c1:wr.cell? ⟨gb,j * 2+1,none⟩=some (.string ⟨x'.v.toArray⟩):=hcell 1 _ rfl;have Az:gb<wr.heap.size:=World.block_lt_of_cell? wr ⟨gb,j * 2,none⟩ c0;clear hcell BK hx hy;cases hq:p x'
    ·have hs:=hs2 hq;have cP:=fun W hW=>hp.o x' yN W hW
     unfold Df at cP;rw[hq] at cP;replace cP:=ζ cP;clear hs1 hs2 hq;go_wp2_with fail;refine (cP.out _ (by
      repeat (first | assumption | exact Below.refl _ _ | apply Below.drew | apply below_drewN | (refine Below.Jd ?_ (by first | rfl | simp) (by first | omega | (simp;omega) | simp)) | (refine Below.alloc ?_ (by first | omega | (simp;omega) | simp) _) | (refine Below.setCell ?_ (by first | omega | (simp;omega) | simp) _))
     )).mono ?_
     rintro e w2 ⟨rfl,hb2⟩;have hown2:=(hown.alloc (.cells #[.string ⟨x'.n.toArray⟩,.string ⟨x'.v.toArray⟩] 88)).grows hb2;obtain⟨y,_,O5,auY⟩:=hown2.at_ GN (i:=i) ω;have d0:w2.cell? ⟨gb,i * 2,none⟩=some (.string ⟨y.n.toArray⟩):=O5 0 _ rfl;have d1:w2.cell? ⟨gb,i * 2+1,none⟩=some (.string ⟨y.v.toArray⟩):=O5 1 _ rfl;obtain⟨hc2,hf2⟩:=dM hb2;have aG:=hown2.aW GN ω (i:=i) ω x';have OE:i < n:=ω;have pW:Below base w w2:=(hB.alloc ω (.cells #[.string ⟨x'.n.toArray⟩,.string ⟨x'.v.toArray⟩] 88)).trans (hb2.below.mono (by simp;omega));replace aG:=ζ aG;clear O5 hown2 hb2;go_wp2;go_roundw
     case rel=>exact⟨i + 1,j + 1,ys.set i x',ν,ν,ω,ω,hs,aG.o,Below.setCells hgb (eu x') (i * 2) w2 pW⟩
     case measure=>exact ψ
    ·have hs:=hs1 hq;have cP:=fun W hW=>hp.o x' yN W hW
     unfold Df at cP;rw[hq] at cP;replace cP:=ζ cP;clear hs1 hs2 hq;go_wp2_with fail;refine (cP.out _ (by
      repeat (first | assumption | exact Below.refl _ _ | apply Below.drew | apply below_drewN | (refine Below.Jd ?_ (by first | rfl | simp) (by first | omega | (simp;omega) | simp)) | (refine Below.alloc ?_ (by first | omega | (simp;omega) | simp) _) | (refine Below.setCell ?_ (by first | omega | (simp;omega) | simp) _))
     )).mono ?_
     rintro e w2 ⟨rfl,hb2⟩;have hown2:=(hown.alloc (.cells #[.string ⟨x'.n.toArray⟩,.string ⟨x'.v.toArray⟩] 88)).grows hb2;have pW:Below base w w2:=(hB.alloc ω (.cells #[.string ⟨x'.n.toArray⟩,.string ⟨x'.v.toArray⟩] 88)).trans (hb2.below.mono (by simp;omega));go_wp2;go_roundw
     case rel=>exact⟨i,j + 1,ys,rfl,ν,ω,ω,hs,hown2,pW⟩
     case measure=>exact ψ
   ·obtain rfl:j = n:=ω;have hf:ys.take i = ws.filter fun x=> !p x:=by
     have:=Vf.front;rwa [List.take_of_length_le (Nat.le_of_eq hn.o.symm)] at this
    have rZ:=fun ty=>hown.Og (P:=Tryz.prog) (t:=22) (ty:=ty) (c:=c - i) (z:=(⟨[],[]⟩:bK)) (zv:=.agg #[.string ⟨#[]⟩,.string ⟨#[]⟩]) GN ω aoi Tryz.underlying22 (fun _=>by kernel_rfl) rfl YM
    obtain⟨zs,hz1,hz2⟩:=Own.clear_ GN ω (⟨[],[]⟩:bK) (j - i) i _ _ hown ω;have aO:Own (wr.setCells gb (i * 2) (bM eu (List.replicate (j - i) (⟨[],[]⟩:bK)))) base 88 2 eu (.slice (some ⟨gb,0,none⟩) i c) (ws.filter fun x=> !p x):=by
     rw[←hf,←hz2];exact hz1.cut GN ω ω
    have Rz:Below base w (wr.setCells gb (i * 2) (bM eu (List.replicate (j - i) (⟨[],[]⟩:bK)))):=Below.setCells hgb _ _ _ hB;generalize wr.setCells gb (i * 2) (bM eu (List.replicate (j - i) (⟨[],[]⟩:bK)))=w3 at rZ aO Rz;clear hz1 hz2 hf Vf hown hB h hp;go_wp2;go_ret;exact⟨_,rfl,aO,Rz⟩
theorem YX {P:Program} {t e:TypeId} (a:Option Addr) (l c:Nat) (h:P.underlying t = some (.slice e)) (w:World):(binOp .eql t (.slice a l c) (.slice none 0 0)).run P w =.ok (.bool a.isNone) w:=by
 simp only[binOp];simp[run_equal_slice_nil w t e a l c h]
theorem abD {A:Option Addr} {m c:Nat} {xs:List Nat} (w:World) (hA:cu w 1 h_ A m xs) (hl:m≤1099511627776) :
 Calls Tryz.prog 181 #[.slice A m c] w fun e w'=>∃v,e =.returned v∧Own w' w.heap.size 5 1 h_ v xs∧ah w w':=by
 have h63:([]:List Nat).length+m≤maxLen:=by unfold maxLen;simp;omega
 have hbytes:(([]:List Nat).length+m)*1≤140737488355328:=by simp;omega
 cases A with
 | none=>
  have hx:xs=[]:=by
   apply List.eq_nil_of_length_eq_zero;rw[hA.1];rcases Nat.eq_zero_or_pos m with h0 | h0
   ·exact h0
   ·obtain⟨b,off,h,_⟩:=hA.2 h0;cases h
  subst hx;have hnil:=fun W=>YX (P:=Tryz.prog) none m c Tryz.underlying112 W
  go_enter Tryz.func181,Tryz.ntmps181
  go_wp2;go_ret;exact⟨_,rfl,Own.jA _ _ _ _ _,ah.refl _⟩
 | some ad=>
  have hO:Own (w.alloc (.cells #[] 5)) w.heap.size 5 1 h_ (.slice (some ⟨w.heap.size,0,none⟩) 0 0) []:=
   Own.mk_ (xs:=[]) (cap:=0) hkB ω (Nat.le_refl _) (heap_alloc_new w _) σ (by simp[maxLen]) rfl (fun q h=>absurd h σ)
  have Vl:=hA.keep ((ah.refl w).alloc (.cells #[] 5));have zI:w.heap.size≤(w.alloc (.cells #[] 5)).heap.size:=by simp
  have hnil:=fun W=>YX (P:=Tryz.prog) (some ad) m c Tryz.underlying112 W
  replace hO:=ζ hO;replace Vl:=ζ Vl;go_enter Tryz.func181,Tryz.ntmps181
  go_wp2_with (refine iD U2 rfl (.tmp 5) (.tmp 6) rfl hO.o rfl rfl Vl.o hkB Ws zI h63 hbytes ?_;intro v2 w2 l9 jX hv2;replace l9:=ζ l9);go_ret;exact⟨_,rfl,l9.o,((ah.refl w).alloc _).aP jX (fun j hj=>by simp[Value.ownBlock] at hj;omega)⟩
theorem Own.bH {α:Type} {w:World} {base base' k:Nat} {e:TypeId} {enc:α→List Value} {v:Value} {xs:List α} (h:Own w base e k enc v xs) (hb:base'≤base):Own w base' e k enc v xs:=by
 refine⟨h.1,?_⟩;rcases h.2 with h2 | ⟨g',cap,cur,hv,hb',hh,r⟩
 ·exact .inl h2
 ·exact .inr ⟨g',cap,cur,hv,Nat.le_trans hb hb',hh,r⟩
theorem DN {a w:World} {t:TypeId} {cs:Array Value} (_:ah a (w.alloc (.cells cs t))):aF (w.alloc (.cells cs t)) w.heap.size t cs:=aF.new w t cs
theorem Own.fH {α:Type} {w:World} {base k:Nat} {e:TypeId} {enc:α→List Value} {v:Value} {xs:List α} (h:Own w base e k enc v xs):∀j,v.ownBlock=some j→base≤j:=fun j hj=>by
 rcases h.2 with⟨h2,_⟩ | ⟨g',cap,cur,hv,hb',hh,r⟩
 ·rw[h2] at hj;cases hj
 ·rw[hv] at hj;simp only[Value.ownBlock,Option.some.injEq] at hj;omega
theorem cu.mO {w:World} {g:Nat} {t:TypeId} {x:Nat} (h:aF w g t #[.int .u8 (x:Int)]):cu w 1 h_ (some ⟨g,0,none⟩) 1 [x]:=by
 refine⟨rfl,fun _=>⟨g,0,rfl,h.lt,fun i hi j u hu=> ?_⟩⟩;have hi0:i = 0:=by simpa using hi
 subst hi0;have hj:j = 0:=by have:=(List.getElem?_eq_some_iff.1 hu).1;simp[h_] at this;omega
 subst hj;rw[h.cell];exact hu
theorem Yn (xs:List Nat) (i x:Nat):(sV xs).setIfInBounds i (.int .u8 (x:Int))=sV (xs.set i x):=by simp[sV,List.map_set]
theorem AZ (v:V8):(zi v).length=32:=rfl
theorem abI (v:V8) {k:Nat} (hk:k<32):(zi v).getD k 0=(eH v).getD (k / 4) 0 / 2 ^ (24-8*(k % 4)) % 256:=by
 match k,hk with
 | 0,_ | 1,_ | 2,_ | 3,_ | 4,_ | 5,_ | 6,_ | 7,_ | 8,_ | 9,_ | 10,_ | 11,_ | 12,_ | 13,_ | 14,_ | 15,_ | 16,_ | 17,_ | 18,_ | 19,_ | 20,_ | 21,_ | 22,_ | 23,_ | 24,_ | 25,_ | 26,_ | 27,_ | 28,_ | 29,_ | 30,_ | 31,_=>simp[zi,eH]
 | k+32,h=>exact absurd h ω
theorem afM (n:Nat):∀x∈be8 n,x < 256:=by
 intro x hx;simp only[be8,List.mem_map] at hx;obtain⟨i,_,rfl⟩:=hx;exact Nat.mod_lt _ δ
def avf (w:World) (v:V8) (xs:List Nat) (f:Nat→Value) (w':World):Prop:=∃(ge:Nat) (rest:Value),f 3=.pointer (some ⟨ge,0,none⟩)∧w.heap.size≤ge∧aF w' ge 282 (qP (eH v) rest 0)∧Own w' w.heap.size 5 1 h_ rest xs∧ah w w'
theorem ahg {v:V8} (hv:v.ok) {g:Nat} {A:Option Addr} {c N:Nat} {r:List Nat} (w:World) (hS:aF w g 282 (qP (eH v) (.slice A r.length c) N)) (hr:cu w 1 h_ A r.length r) (hb:∀x∈r,x < 256) (hN:N % 64=r.length) (hN2:N≤1099511627776) :
 Calls Tryz.prog 146 #[.pointer (some ⟨g,0,none⟩)] w fun e w'=>e =.returned (.agg (sV (zi (blocks ((r ++pJ N).length / 64) v (r ++pJ N)))))∧ah w w':=by
 have oC:r.length<64:=ω;obtain⟨n,hn⟩:∃n,n = r.length:=⟨_,rfl⟩;rw[←hn] at hS hr;replace hS:=ζ hS;replace hr:=ζ hr;replace hb:=ζ hb;replace hv:=ζ hv;replace hn:=ζ hn;have cC:∀W,cu W 1 h_ A n r→_:=fun W h=>abD (c:=c) W h (by have:=hn.o;omega)
 replace cC:=ζ cC;go_enter Tryz.func146,Tryz.ntmps146
 go_wp2_with fail;refine tY (Pr:=fun W=>Code.wp _ _ _ _ W) (fun w1 pW gu=> ?_);replace pW:aF w1 w.heap.size 201 (sV (List.replicate 32 0)):=pW.cast κ;obtain⟨g2,hg2⟩:∃g2,g2=w.heap.size:=⟨_,rfl⟩;rw[←hg2] at pW ⊢;replace hr:=ζ (hr.o.keep gu);replace hS:=ζ (hS.o.grows gu);have aoZ:=ζ pW.lt;replace pW:=ζ pW;replace gu:=ζ gu;replace hg2:=ζ hg2;apply IV (is:=[19,20,21,22,23,3]) (R:=avf w1 v (r ++[128]))
 case h1=>
  have q0:=hS.o.c0;have q1:=hS.o.c1;have q2:=hS.o.c2;have q3:=hS.o.c3;have q4:=hS.o.c4;have q5:=hS.o.c5;have q6:=hS.o.c6;have q7:=hS.o.c7;have q8:w1.cell? ⟨g,8,none⟩=some (.slice A n c):=hS.o.cell 8;have qz:=hS.o.lt;have hbase:=Nat.le_refl w1.heap.size;refine aH κ ?_;refine rK (.range 8) 6 ?_;iterate 8 refine aC ?_
  refine aB ?_;refine aK [8,9] κ σ (fun wN hN hS=>(ay.cons rfl (fun K' hK=> ?_) (ay.cons rfl (fun K' hK=> ?_) ay.nil)))
  ·skip
   try replace hr:=ζ (hr.o.keep hN)
   try replace jY:=ζ (jY.o.grows hN)
   try replace iM:=ζ (iM.o.grows hN)
   try replace gQ:=ζ (gQ.o.grows hN)
   try replace su:=ζ (su.o.grows hN)
   clear hN;go_simp;refine (cC.out _ hr.o).mono ?_;rintro e w8 ⟨vc,rfl,jY,Iy⟩;replace jY:=ζ (jY.bH (base':=w1.heap.size) hS.size);replace hr:=ζ (hr.o.keep Iy);try replace gQ:=ζ (gQ.o.grows Iy)
   refine hK.o _ _ ?_ (fun hS=> ?_)
   ·exact ah.trans (by assumption) Iy
   clear Iy;clear hK hS;refine aK [9] κ σ (fun wN hN hS=>(ay.cons rfl (fun K' hK=> ?_) ay.nil));try replace hr:=ζ (hr.o.keep hN)
   try replace jY:=ζ (jY.o.grows hN)
   try replace iM:=ζ (iM.o.grows hN)
   try replace gQ:=ζ (gQ.o.grows hN)
   try replace su:=ζ (su.o.grows hN)
   clear hN;go_simp;refine hK.o _ _ ?_ (fun hS=> ?_)
   ·exact γ
   have gQ:=ζ (DN hS);replace hr:=ζ (hr.o.keep ((ah.refl _).alloc (.cells #[.int .u8 128] 5)));try replace jY:=ζ (jY.o.alloc (.cells #[.int .u8 128] 5))
   clear hK hS;refine aK [10] κ σ (fun wN hN hS=>(ay.cons rfl (fun K' hK=> ?_) ay.nil));try replace hr:=ζ (hr.o.keep hN)
   try replace jY:=ζ (jY.o.grows hN)
   try replace iM:=ζ (iM.o.grows hN)
   try replace gQ:=ζ (gQ.o.grows hN)
   try replace su:=ζ (su.o.grows hN)
   clear hN;have zI:=hS.size;refine Own.DL U2 rfl (.tmp 19) (.tmp 20) rfl jY.o rfl rfl (cu.mO gQ.o) hkB Ws zI (by have:=hn.o;unfold maxLen;omega) (by have:=hn.o;omega) (fun v3 w4 iM kZ hv3=> ?_);obtain⟨A3,c3,Qr,-,-,-⟩:=iM.arr hkB;generalize hL3:(r ++[128]).length=L3 at Qr;replace hL3:=ζ hL3;subst Qr;replace iM:=ζ iM;clear hv3;go_simp;refine hK.o _ _ ?_ (fun hS=> ?_)
   ·exact ah.aP (by assumption) kZ jY.o.fH
   clear jY gQ zI hr kZ;clear hK hS;refine rK [11] 2 ?_;iterate 1 refine aC ?_
   refine aB ?_;refine aK [12] κ σ (fun wN hN hS=>(ay.cons rfl (fun K' hK=> ?_) ay.nil));try replace hr:=ζ (hr.o.keep hN)
   try replace jY:=ζ (jY.o.grows hN)
   try replace iM:=ζ (iM.o.grows hN)
   try replace gQ:=ζ (gQ.o.grows hN)
   try replace su:=ζ (su.o.grows hN)
   clear hN;have zI:=hS.size;go_simp;refine hK.o _ _ ?_ (fun hS=> ?_)
   ·exact γ
   have su:=ζ (DN hS);have sS:=ζ zI;clear zI;replace iM:=ζ (iM.o.alloc (.cells #[.int .u32 (v.a:Int),.int .u32 (v.b:Int),.int .u32 (v.c:Int),.int .u32 (v.d:Int),.int .u32 (v.e:Int),.int .u32 (v.f:Int),.int .u32 (v.g:Int),.int .u32 (v.h:Int),.slice A3 L3 c3,.int .i64 0] 282));clear hK hS;refine rK [13] 0 ?_;iterate 1 refine aC ?_
   refine aB ?_;refine aJ κ (fun wN hN hS=> ?_);try replace hr:=ζ (hr.o.keep hN)
   try replace jY:=ζ (jY.o.grows hN)
   try replace iM:=ζ (iM.o.grows hN)
   try replace gQ:=ζ (gQ.o.grows hN)
   try replace su:=ζ (su.o.grows hN)
   exact⟨(by
    simp only[fZ,List.foldl_cons,List.foldl_nil];go_simp;try rfl
   ),_,_,rfl,sS.o,su.o,iM.o,hS⟩
  ·skip
   try replace hr:=ζ (hr.o.keep hN)
   try replace jY:=ζ (jY.o.grows hN)
   try replace iM:=ζ (iM.o.grows hN)
   try replace gQ:=ζ (gQ.o.grows hN)
   try replace su:=ζ (su.o.grows hN)
   clear hN;go_simp;refine hK.o _ _ ?_ (fun hS=> ?_)
   ·exact γ
   have gQ:=ζ (DN hS);replace hr:=ζ (hr.o.keep ((ah.refl _).alloc (.cells #[.int .u8 128] 5)));try replace jY:=ζ (jY.o.alloc (.cells #[.int .u8 128] 5))
   clear hK hS;refine aK [8] κ σ (fun wN hN hS=>(ay.cons rfl (fun K' hK=> ?_) ay.nil));try replace hr:=ζ (hr.o.keep hN)
   try replace jY:=ζ (jY.o.grows hN)
   try replace iM:=ζ (iM.o.grows hN)
   try replace gQ:=ζ (gQ.o.grows hN)
   try replace su:=ζ (su.o.grows hN)
   clear hN;go_simp;refine (cC.out _ hr.o).mono ?_;rintro e w8 ⟨vc,rfl,jY,Iy⟩;replace jY:=ζ (jY.bH (base':=w1.heap.size) hS.size);replace hr:=ζ (hr.o.keep Iy);try replace gQ:=ζ (gQ.o.grows Iy)
   refine hK.o _ _ ?_ (fun hS=> ?_)
   ·exact ah.trans (by assumption) Iy
   clear Iy;clear hK hS;refine aK [10] κ σ (fun wN hN hS=>(ay.cons rfl (fun K' hK=> ?_) ay.nil));try replace hr:=ζ (hr.o.keep hN)
   try replace jY:=ζ (jY.o.grows hN)
   try replace iM:=ζ (iM.o.grows hN)
   try replace gQ:=ζ (gQ.o.grows hN)
   try replace su:=ζ (su.o.grows hN)
   clear hN;have zI:=hS.size;refine Own.DL U2 rfl (.tmp 19) (.tmp 20) rfl jY.o rfl rfl (cu.mO gQ.o) hkB Ws zI (by have:=hn.o;unfold maxLen;omega) (by have:=hn.o;omega) (fun v3 w4 iM kZ hv3=> ?_);obtain⟨A3,c3,Qr,-,-,-⟩:=iM.arr hkB;generalize hL3:(r ++[128]).length=L3 at Qr;replace hL3:=ζ hL3;subst Qr;replace iM:=ζ iM;clear hv3;go_simp;refine hK.o _ _ ?_ (fun hS=> ?_)
   ·exact ah.aP (by assumption) kZ jY.o.fH
   clear jY gQ zI hr kZ;clear hK hS;refine rK [11] 2 ?_;iterate 1 refine aC ?_
   refine aB ?_;refine aK [12] κ σ (fun wN hN hS=>(ay.cons rfl (fun K' hK=> ?_) ay.nil));try replace hr:=ζ (hr.o.keep hN)
   try replace jY:=ζ (jY.o.grows hN)
   try replace iM:=ζ (iM.o.grows hN)
   try replace gQ:=ζ (gQ.o.grows hN)
   try replace su:=ζ (su.o.grows hN)
   clear hN;have zI:=hS.size;go_simp;refine hK.o _ _ ?_ (fun hS=> ?_)
   ·exact γ
   have su:=ζ (DN hS);have sS:=ζ zI;clear zI;replace iM:=ζ (iM.o.alloc (.cells #[.int .u32 (v.a:Int),.int .u32 (v.b:Int),.int .u32 (v.c:Int),.int .u32 (v.d:Int),.int .u32 (v.e:Int),.int .u32 (v.f:Int),.int .u32 (v.g:Int),.int .u32 (v.h:Int),.slice A3 L3 c3,.int .i64 0] 282));clear hK hS;refine rK [13] 0 ?_;iterate 1 refine aC ?_
   refine aB ?_;refine aJ κ (fun wN hN hS=> ?_);try replace hr:=ζ (hr.o.keep hN)
   try replace jY:=ζ (jY.o.grows hN)
   try replace iM:=ζ (iM.o.grows hN)
   try replace gQ:=ζ (gQ.o.grows hN)
   try replace su:=ζ (su.o.grows hN)
   exact⟨(by
    simp only[fZ,List.foldl_cons,List.foldl_nil];go_simp;try rfl
   ),_,_,rfl,sS.o,su.o,iM.o,hS⟩
 intro f w3 hR;obtain⟨ge,rest,e3,sS,hE,hO,qW⟩:=hR;simp only[kJ,List.foldl_cons,List.foldl_nil,e3];go_simp;have ayJ:w1.heap.size≤ge:=sS;replace sS:=ζ sS;replace hE:=ζ hE;replace hO:=ζ hO;replace qW:=ζ qW;have hz:zeros N<64:=by unfold zeros;omega
 go_wp2;go_loopw [] (fun wr=>∃(j:Nat) (rs:Value),j≤zeros N∧Hid (aF wr ge 282 (qP (eH v) rs 0))∧Hid (Own wr w1.heap.size 5 1 h_ rs (r ++[128]++List.replicate j 0))∧Hid (ah w1 wr)) (fun wr=>200-IW ge wr)
 case atStart=>exact⟨0,rest,ω,hE,by simpa using hO,qW⟩
 case round=>
  clear hE hO qW e3;obtain⟨j,rs,hj,hE,hO,hG⟩:=hrel;obtain⟨A1,c1,kX,zF,hcm,hAp,hown⟩:=hO.o.apart hE.o δ;have T_:(r ++[128]++List.replicate j 0).length=n + 1+j:=by have:=hn.o;simp;omega
  rw[T_] at kX zF hAp;obtain⟨L,hL⟩:∃L,L=n + 1+j:=⟨_,rfl⟩;rw[←hL] at kX zF hAp T_;subst kX;have e8:wr.cell? ⟨ge,8,none⟩=some (.slice A1 L c1):=hE.o.cell 8;have z8:=hE.o.lt;have aoH:=ζ (rQ (g:=ge) e8);have Vb:=hn.o;by_cases hlt:j < zeros N
  ·have aoX:¬((L:Int) % 64=56):=by unfold zeros at hlt;omega
   have aje:¬(L % 64=56):=by unfold zeros at hlt;omega
   have tq:=ζ (hO.o.alloc (.cells #[.int .u8 0] 5));have J6:=ζ (hE.o.alloc (.cells #[.int .u8 0] 5));have Vl:=ζ (cu.mO (x:=0) (aF.new wr 5 #[.int .u8 ((0:Nat):Int)]));have alL:=ζ (hG.o.alloc (.cells #[.int .u8 0] 5));have zI:=alL.o.size;replace hown:=ζ hown;have hLb:L≤130:=ω;replace hL:=ζ hL;replace Vb:=ζ Vb;replace T_:=T_;go_wp2_with (at_builtin;(refine iD U2 rfl (.tmp 35) (.tmp 36) rfl tq.o rfl rfl Vl.o hkB Ws zI (by unfold maxLen;simp only[T_];omega) (by simp only[T_];omega) ?_;intro v2 w2 l9 jX hv2;clear hv2;(have BM:=J6.o.aP jX (fun e=>(hown.o ge e.symm).2 rfl));(have h02:=alL.o.aP jX (fun j hj=>(hown.o j hj).1));(obtain⟨A2,c2,ad_,Vb,TN,pW,hown2⟩:=l9.apart BM δ);clear Vb TN pW;(rw[List.length_append,T_] at ad_);(simp only[List.length_cons,List.length_nil,Nat.zero_add] at ad_);subst ad_;(have e8:=BM.cell 8);(have f8:=BM.frozen 8);(have z8:=BM.lt);(have kZ:=aj w2 ⟨ge,8,none⟩ (.slice A2 (L+1) c2));(have ND:=BM.aW 8 (.slice A2 (L+1) c2));(rw[uV] at ND);(have iM:=l9.eY kZ (fun j hj=>(hown2 j hj).2));(have h03:=h02.nI kZ sS.o);(replace ND:=ζ ND);(replace iM:=ζ iM);(replace h03:=ζ h03);clear kZ hown2 h02 BM jX l9 tq Vl J6 alL hown));have as6:=ζ (rQ (g:=ge) (A:=A2) (n:=L+1) (c:=c2) (ND.o.cell 8));go_roundw
   case rel=>exact⟨j + 1,_,ω,ND,by
    rw[List.replicate_succ',←List.append_assoc];exact iM,h03⟩
   case measure=>rw[as6.o,aoH.o];omega
  ·have hjz:j = zeros N:=ω;have aoX:(L:Int) % 64=56:=by unfold zeros at hjz;omega
   have aje:L % 64=56:=by unfold zeros at hjz;omega
   have hLz:=hL;rw[hjz] at hLz;subst hjz;replace hL:=ζ hL;replace Vb:=ζ Vb;clear hAp hown T_ aoH;have atO:wr.cell? ⟨g,9,none⟩=some (.int .i64 N):=((hS.o.grows hG.o).cell 9);have zg:=(hS.o.grows hG.o).lt;have hN0:0≤(N:Int)∧(N:Int)≤1099511627776:=ω;have hN8:(N:Int) % 18446744073709551616*8 % 18446744073709551616=((N*8:Nat):Int):=ω;replace hLz:=ζ hLz;clear hcm zF;go_wp2;have hP0:(r ++[128]++List.replicate (zeros N) 0).length=L:=by have:=hLz.o;have:=Vb.o;simp;omega
   generalize hP:r ++[128]++List.replicate (zeros N) 0=P0 at *
   replace hP:=ζ hP;have hLb:L≤130:=by have:=hLz.o;have:=Vb.o;omega
   go_loopw [46] (fun i wr=>∃(k:Nat) (rs:Value),k≤8∧i =.int .i64 k∧Hid (aF wr ge 282 (qP (eH v) rs 0))∧Hid (Own wr w1.heap.size 5 1 h_ rs (P0++(be8 (N*8)).take k))∧Hid (ah w1 wr)) (fun i _=>8-(intOf i).toNat)
   case atStart=>exact⟨0,_,ω,rfl,hE,by simpa using hO,hG⟩
   case round=>
    clear hE hO hG e8 z8 hL atO zg aoX aje;obtain⟨k,rs,hk,rfl,hE,hO,hG⟩:=hrel;obtain⟨A1,c1,kX,zF,hcm,hAp,hown⟩:=hO.o.apart hE.o δ;have T_:(P0++(be8 (N*8)).take k).length=L+k:=by rw[List.length_append,hP0,List.length_take];simp[be8];omega
    rw[T_] at kX zF hAp;subst kX;clear zF hcm hAp;obtain⟨Lk,hLk⟩:∃Lk,Lk=L+k:=⟨_,rfl⟩;rw[←hLk] at hO hE hown T_;have e8:wr.cell? ⟨ge,8,none⟩=some (.slice A1 Lk c1):=hE.o.cell 8;have z8:=hE.o.lt;have ay6:Lk≤140:=ω;replace hLk:=ζ hLk;replace hown:=ζ hown;by_cases hlt:k<8
    ·have hk8:(k:Int)<8:=ω;have hval:(N:Int)*8 / 2 ^ (56-8*k) % 256=((N*8 / 2 ^ (56-8*k) % 256:Nat):Int):=by
      rw[Int.natCast_emod,Int.natCast_ediv,Int.natCast_mul,Int.natCast_pow];rfl
     have uJ:(be8 (N*8)).take (k+1)=(be8 (N*8)).take k++[N*8 / 2 ^ (56-8*k) % 256]:=by
      rw[List.take_add_one];simp[be8,hlt]
     generalize N*8 / 2 ^ (56-8*k) % 256=X at *
     replace uJ:=ζ uJ;generalize hrow:(Value.slice A1 Lk c1).ownBlock=row at *
     have hrn:some ge≠row:=fun e=>(hown.o ge e.symm).2 rfl
     have hrb:∀j,row=some j→w1.heap.size≤j:=fun j hj=>(hown.o j hj).1
     replace hrow:=ζ hrow;replace hrb:=ζ hrb;go_wp2_with fail;refine iI (row) κ ?_;refine rK (up:=iJ) (.range 11) 5 ?_;iterate 11 refine fK ?_
     refine aB ?_;refine aK [11] κ σ (fun wN hN hS=>(ay.cons rfl (fun K' hK=> ?_) ay.nil));try replace hO:=ζ (hO.o.grows hN)
     try replace hE:=ζ (hE.o.grows hN)
     try replace gQ:=ζ (gQ.o.grows hN)
     try replace iM:=ζ (iM.o.grows hN)
     replace hG:=ζ (hG.o.trans hN);clear hN;go_simp;refine hK.o _ _ ?_ (fun hS=> ?_)
     ·exact dD (by assumption) ((ah.refl _).alloc _)
     have gQ:=ζ (aF.new wN 5 #[.int .u8 (X:Int)]);replace hO:=ζ (hO.o.alloc (.cells #[.int .u8 (X:Int)] 5));replace hE:=ζ (hE.o.alloc (.cells #[.int .u8 (X:Int)] 5));replace hG:=ζ (hG.o.alloc (.cells #[.int .u8 (X:Int)] 5));clear hK hS;refine aK [12] κ σ (fun wN hN hS=>(ay.cons rfl (fun K' hK=> ?_) ay.nil));try replace hO:=ζ (hO.o.grows hN)
     try replace hE:=ζ (hE.o.grows hN)
     try replace gQ:=ζ (gQ.o.grows hN)
     try replace iM:=ζ (iM.o.grows hN)
     replace hG:=ζ (hG.o.trans hN);clear hN;have zI:=hG.o.size;refine Own.DL U2 rfl (.tmp 53) (.tmp 60) rfl hO.o rfl rfl (cu.mO gQ.o) hkB Ws zI (by unfold maxLen;simp only[T_];omega) (by simp only[T_];omega) (fun v3 w4 iM kZ hv3=> ?_);rw[hrow.o] at kZ;replace hE:=ζ (hE.o.aP kZ hrn);replace hG:=ζ (hG.o.aP kZ hrb.o);obtain⟨A3,c3,Qr,_,_,_,YJ⟩:=iM.apart hE.o δ;rw[List.length_append,T_] at Qr;simp only[List.length_cons,List.length_nil,Nat.zero_add] at Qr;subst Qr;have iM:=ζ iM;have YJ:=ζ YJ;clear hv3 zI hO gQ;go_simp;refine hK.o _ _ ?_ (fun hS=> ?_)
     ·exact World.grownBy.trans (by assumption) kZ
     clear kZ;clear hK hS;refine rK (up:=iJ) [13,14] 1 ?_;iterate 2 refine fK ?_
     refine aB ?_;refine eF (i:=15) rfl κ κ (fun wN hN hS K' hK=> ?_);try replace hO:=ζ (hO.o.grows hN)
     try replace hE:=ζ (hE.o.grows hN)
     try replace gQ:=ζ (gQ.o.grows hN)
     try replace iM:=ζ (iM.o.grows hN)
     replace hG:=ζ (hG.o.trans hN);clear hS;have f8:=hE.o.frozen 8;have y8:=hE.o.lt;have g8:wN.cell? ⟨ge,8,none⟩=some (.slice A1 Lk c1):=hE.o.cell 8;have ND:=hE.o.aW 8 (.slice A3 (Lk+1) c3);rw[uV] at ND;have jf:=aj wN ⟨ge,8,none⟩ (.slice A3 (Lk+1) c3);have kF:=ζ (iM.o.eY jf (fun j hj=>(YJ.o j hj).2));have AV:=ζ (hG.o.nI jf sS.o);replace ND:=ζ ND;clear jf hN;go_simp;refine hK.o _ _ ?_;clear hK hE iM YJ hG f8 y8 g8 e8 z8;generalize wN.setCell ⟨ge,8,none⟩ (.slice A3 (Lk+1) c3)=w9 at *
     go_wp2;go_roundw
     case rel=>exact⟨k+1,_,ω,ν,ND,by
      rw[uJ.o,←List.append_assoc];exact kF,AV⟩
     case measure=>exact ψ
    ·obtain rfl:k=8:=ω;have aut:N*8 % 18446744073709551616=N*8:=ω;have aoL:P0++(be8 (N*8)).take 8=r ++pJ N:=by
      rw[List.take_of_length_le (by simp[be8]),←hP.o];unfold pJ;rw[aut];simp
     have mY:=hO.o;rw[aoL] at mY T_;have zU:∀x∈(r ++pJ N)++[],x < 256:=by
      intro x hx;rw[List.append_nil] at hx;rcases List.mem_append.1 hx with h | h
      ·exact hb.o x h
      ·unfold pJ at h;rcases List.mem_cons.1 h with h | h
       ·omega
       ·rcases List.mem_append.1 h with h | h
        ·have:=List.eq_of_mem_replicate h;omega
        ·exact afM _ x h
     have ak5:=hLk.o;have Iw:=aha N;have ayg:(r ++pJ N).length % 64=0:=by rw[List.length_append];omega
     have cAdd:=Ze (W0:=w1) (ys:=[]) (m:=0) (A:=none) (c:=0) hv.o wr hG.o sS.o hE.o mY ⟨cu.jA,fun _ h=>by cases h⟩ zU (by rw[T_];omega) ω ω;rw[List.append_nil] at cAdd;replace cAdd:=ζ cAdd;generalize hXS:r ++pJ N=XS at *
     replace hXS:=ζ hXS;clear aoL mY zU Iw hO hE hown hP T_;go_wp2_with fail;refine (cAdd.out).mono ?_;rintro e w5 ⟨q,A5,c5,rfl,hq1,Oz,Ub,-,-,-,oV⟩;obtain rfl:q=XS.length / 64:=ω;clear hq1 Oz cAdd hG;generalize hV:blocks (XS.length / 64) v XS=V at *
     replace hV:=ζ hV;go_wp2;refine tY (Pr:=fun W=>Code.wp _ _ _ _ W) (fun w6 uN GV=> ?_);replace uN:aF w6 w5.heap.size 201 (sV (List.replicate 32 0)):=uN.cast κ;obtain⟨g6,hg6⟩:∃g6,g6=w5.heap.size:=⟨_,rfl⟩;have ak2:=Ub.lt;rw[←hg6] at uN ak2 ⊢;have ali:w1.heap.size≤g6:=by rw[hg6];exact oV.size
     have ak0:ge≠g6:=Nat.ne_of_lt ak2;have hE6:=ζ (Ub.grows GV);have hG7:=ζ (oV.trans GV);clear Ub oV GV hg6 ak2;replace uN:=ζ uN;replace ali:=ζ ali;replace ak0:=ζ ak0;have alN:=fun k hk=>abI V (k:=k) hk
     have hDl:=AZ V;have hZl:(List.replicate 32 0:List Nat).length=32:=List.length_replicate;generalize hD:zi V=D at *
     generalize (List.replicate 32 0:List Nat)=Z at *
     have Ru:D.length=Z.length:=ω;have akF:∀k,k<32→(D.take k++Z.drop k).length=32:=fun k hk=>by rw[Ae Ru ω];exact hDl
     have hB0:Hid (aF w6 g6 201 (sV (D.take 0++Z.drop 0))):=uN;replace hD:=ζ hD;replace alN:=ζ alN;replace akF:=ζ akF;clear uN;go_loopw [67] (fun i wr=>∃k:Nat,k≤32∧i =.int .i64 k∧Hid (aF wr g6 201 (sV (D.take k++Z.drop k)))∧Hid (aF wr ge 282 (qP (eH V) (.slice A5 (XS.length-64*(XS.length / 64)) c5) (0+((0:Nat):Int))))∧Hid (ah w1 wr)) (fun i _=>32-(intOf i).toNat)
     case atStart=>exact⟨0,ω,rfl,hB0,hE6,hG7⟩
     case round=>
      clear hB0 hE6 hG7;obtain⟨k,hk,rfl,hB,hE,hG⟩:=hrel;by_cases hlt:k<32
      ·have hx:=alN.o k hlt;have e1:=(hE.o.cell (k / 4)).trans (Yo (by rw[sH];omega));have z1:=hE.o.lt;have z6:=hB.o.lt;have f6:=hB.o.frozen k;have e6:=(hB.o.cell k).trans (acC (by rw[akF.o k hlt];exact hlt));have aG:=Jp Ru (k:=k) ω;have hSn:=fun x=>Yn (D.take k++Z.drop k) k x
       generalize (eH V).getD (k / 4) 0=W at *
       have hval:(W:Int) / 2 ^ (24-8*(k % 4)) % 256=((D.getD k 0:Nat):Int):=by
        rw[hx,Int.natCast_emod,Int.natCast_ediv,Int.natCast_pow];rfl
       generalize D.getD k 0=X at *
       clear hx;replace aG:=ζ aG;replace hSn:=ζ hSn;have ah9:=hB.o.aW k (.int .u8 (X:Int));rw[hSn.o,aG.o] at ah9;have alM:=hE.o.far (p:=⟨g6,k,none⟩) ak0.o (.int .u8 (X:Int));have alK:=hG.o.setCell (p:=⟨g6,k,none⟩) ali.o (.int .u8 (X:Int));replace ah9:=ζ ah9;replace alM:=ζ alM;replace alK:=ζ alK;go_wp2;go_roundw
       case rel=>exact⟨k+1,ω,ν,ah9,alM,alK⟩
       case measure=>exact ψ
      ·obtain rfl:k=32:=ω;have yV:=hB.o;rw[List.take_of_length_le ω,List.drop_of_length_le ω,List.append_nil] at yV;have mg:=pW.o.grows hG.o;have hG8:=gu.o.trans hG.o;have ahI:w.heap.size≤g2:=Nat.le_of_eq hg2.o.symm;have hGf:=hG8.nI (j_ wr g2 (sV D)) ahI;have hRf:=setRow_heap wr g2 _ (sV D) _ _ mg;have hsz:(sV D).size=32:=by rw[uT];exact hDl
       have NK:(Tryz.prog.info? 201).map (·.size)=some (sV D).size:=by rw[hsz];kernel_rfl
       have hold:(sV Z).size=(sV D).size:=by rw[hsz,uT];omega
       have h1:=Pz D;replace yV:=ζ yV;replace mg:=ζ mg;replace hGf:=ζ hGf;replace hRf:=ζ hRf;replace NK:=ζ NK;replace hold:=ζ hold;replace h1:=ζ h1;replace hsz:=ζ hsz;go_wp2_with (first | (refine wpList_load_row rfl 201 (.tmp 6) rfl g6 rfl 201 (sV D) (0,0) _ yV.o Tryz.underlying201 rfl NK.o ?_) | (refine wpList_store_row rfl 201 (.tmp 2) (.tmp 86) rfl g2 (sV D) rfl rfl 201 _ mg.o NK.o hold.o h1.o ?_));rw[hXS.o,hV.o,hD.o];exact bodyPost_ret (v:=.agg (sV D)) (results_cell_row (p:=2) (ty:=201) κ _ _ g2 201 (sV D) (0,0) _ rfl hRf.o Tryz.underlying201 rfl NK.o) rfl ⟨rfl,hGf.o⟩
end Go.Proofs.YtbhikkgpcmkonaaGreatDoor
