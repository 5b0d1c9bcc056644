/- Parts: LabD LabE LwD RcA RcB -/
import Derived.Test.YteojanlajhebhaaGreatDoorGs0
import Derived.Laws.ShiftsVarLaws
import Derived.Test.YteojanlajhebhaaGreatDoorGs9
import Derived.Test.YteojanlajhebhaaGreatDoorGs13
import Derived.Test.YteojanlajhebhaaGreatDoorGs14
import Derived.Test.YteojanlajhebhaaGreatDoorGs6
import Derived.Test.YteojanlajhebhaaGreatDoorGs8
import Derived.Test.YteojanlajhebhaaGreatDoorGs5
set_option maxRecDepth 100000
set_option maxHeartbeats 12800000
namespace Go.Proofs.YteojanlajhebhaaGreatDoor
open Go.RowKit
theorem afq {ts:List Nat} {k t:Nat} (h:ts[k]? = some t):JH (ts.take (k+1))=JH (ts.take k)+2 ^ t:=by
 unfold JH;rw[List.take_add_one,h];simp[List.sum_append]
theorem WT {ts:List Nat} (hn:ts.Nodup) (hlt:∀k∈ts,k<32) (k:Nat):JH (ts.take k)<4294967296:=
 (Nv (List.Pairwise.sublist (List.take_sublist k ts) hn) (fun j hj=>hlt j ((List.take_sublist k ts).mem hj))).1
theorem w32 {x:Int} (h0:0≤x) (h1:x < 4294967296):IntKind.u32.wrap x = x:=by rw[IntKind.wrap_u32'];omega
theorem ajl {t:Nat} (h:t≤31):(2:Nat) ^ t≤2147483648:=Nat.le_trans (Nat.pow_le_pow_right δ h) δ
theorem amA (lv:Int) (A:Option Addr) (m c:Nat) (ts:List Nat) (w:World) (h:dH w 1 encI A m ts) (hm:m≤maxLen) (hn:ts.Nodup) (hlt:∀k∈ts,k<32) :
 Calls Tryz.prog 142 #[.int .i64 lv,.slice A m c] w fun e w'=>e =.returned (.agg #[.int .i64 lv,.int .u32 (JH ts:Nat)])∧ah w w':=by
 unfold maxLen at hm;have hlen:=h.1;have hall:=WT hn hlt;replace hlen:=ζ hlen;replace hall:=ζ hall;replace hlt:=ζ hlt;replace hn:=ζ hn;go_enter Tryz.func142,Tryz.ntmps142
 go_wp2;go_loopw [6] (fun i wr=>∃(k:Nat) (S:Int),k≤m∧i =.int .i64 k∧Hid (S=(JH (ts.take k):Nat))∧0≤S∧aS wr (w.heap.size+1) 40 #[.int .i64 lv,.int .u32 S]∧aS wr w.heap.size 40 #[.int .i64 0,.int .u32 0]∧ah w wr) (fun i _=>m - (intOf i).toNat)
 case atStart=>exact⟨0,0,ω,rfl,by simp[Hid,JH],ω,aS.vO w _ _ _,(aS.new w _ _).alloc _,((ah.refl w).alloc _).alloc _⟩
 case round=>
  obtain⟨k,S,hk,rfl,hS,Oe,bA,bR,hg⟩:=hrel;have a0:=bA.c0;have a1:=bA.c1;have fa:=bA.frozen 1;have r0:=bR.c0;have r1:=bR.c1;have fr0:=bR.frozen 0;have fr1:=bR.frozen 1;by_cases nV:k<m
  ·obtain⟨b,off,t,rfl,_,hx,hcell⟩:=(h.keep hg).at_ nV;have c0:wr.cell? ⟨b,off+k,none⟩=some (.int .i64 t):=by simpa using hcell 0 _ rfl
   have ht:t≤31:=by have:=hlt.o t (List.mem_of_getElem? hx);omega
   have yN:=afq hx;have hb2:=hall.o (k+1);have hpt:=ajl ht;have hT0:(0:Int)≤((2 ^ t:Nat):Int):=Int.natCast_nonneg _;have aQ:((JH (ts.take (k+1)):Nat):Int)=S+((2 ^ t:Nat):Int):=by rw[yN,hS.o];simp
   have hbd:S+((2 ^ t:Nat):Int)<4294967296:=ω;obtain⟨T,hT⟩:∃T:Int,T=((2 ^ t:Nat):Int):=⟨_,rfl⟩;rw[←hT] at aQ hbd hT0;have hw:=w32 (x:=S+T) ω hbd;replace hT:=ζ hT;replace aQ:=ζ aQ;have hh:=ζ h;clear yN hb2 hpt hx hcell hbd h;go_wp2;go_loop [7,8] (fun vb vj=>∃(q:Nat) (B:Int),q≤t∧vj=.int .i64 q∧vb=.int .u32 B∧0≤B∧Hid (B=((2 ^ q:Nat):Int))) (fun _ vj=>t - (intOf vj).toNat)
   case atStart=>exact⟨0,1,ω,rfl,rfl,ω,by simp[Hid]⟩
   case round=>
    obtain⟨q,B,hq,rfl,rfl,YC,hB⟩:=hrel;by_cases hqt:q<t
    ·have hp:=ajl (t:=q+1) ω;have mY:B*2=((2 ^ (q+1):Nat):Int):=by rw[hB.o,Nat.pow_succ];simp
     have hw2:=w32 (x:=B*2) ω ω;replace mY:=ζ mY;clear hp hB;go_wp2;go_round
     case rel=>exact⟨q+1,B*2,ω,ν,rfl,ω,mY.o⟩
     case measure=>exact ψ
    ·obtain rfl:q=t:=ω;obtain rfl:B=T:=hB.o.trans hT.o.symm;go_wp2;go_roundw
     case rel=>exact⟨k+1,S+B,ω,ν,aQ.o.symm,ω,bA.dO 1 _,bR.far σ _,hg.setCell σ _⟩
     case measure=>exact ψ
  ·obtain rfl:k=m:=ω;have aQ:S=(JH ts:Nat):=by rw[hS.o,List.take_of_length_le (Nat.le_of_eq hlen.o)]
   replace aQ:=ζ aQ;clear hS;go_wp2;refine bodyPost_ret (v:=.agg #[.int .i64 lv,.int .u32 S]) ?_ rfl ⟨by rw[aQ.o],?_⟩
   ·simp[results,Tryz.results142,go_sem,r0,r1]
   ·exact ah.setCell (ah.setCell hg σ _) σ _
theorem wQ {α:Type} (q:α→Bool) (xs:List α) (k:Nat) (x:α) (h:xs[k]? = some x):(xs.take (k+1)).all q=((xs.take k).all q&&q x):=by
 rw[List.take_add_one,h];simp
theorem DF {α:Type} {q:α→Bool} {xs:List α} {k:Nat} (h:(xs.take k).all q=false):xs.all q=false:=by
 rw[←Bool.not_eq_true,List.all_eq_true] at h ⊢;exact fun hh=>h fun x hx=>hh x ((List.take_sublist k xs).mem hx)
theorem L6 (a b:Cc) (w:World) (ha:a.ok) (hb:b.ok) :
 Calls Tryz.prog 65 #[.agg #[.int .i64 a.lv,.int .u32 (a.c:Int)],.agg #[.int .i64 b.lv,.int .u32 (b.c:Int)]] w fun e w'=>e =.returned (.bool (nO a b))∧ah w w':=by
 have cA:=fun W=>mM a W
 have cB:=fun W=>mM b W
 have cTA:=fun W=>yJ a W ha
 have cTB:=fun W=>yJ b W hb
 have w_:nO a b = (dK a.lv&&dK b.lv&&decide (a.lv≤b.lv)&&(kU a.c).all (fun k=>decide (k∈kU b.c))):=by rw[abM];rfl
 have hlA:=Vs a.c;have hlB:=Vs b.c;have cH:=fun A m c j W h h'=>XA A m c (kU b.c) j W h h' 100 rfl
 generalize nO a b = r at *
 generalize dK a.lv=p at *
 generalize dK b.lv=q at *
 generalize kU a.c = ta at *
 generalize kU b.c = tb at *
 replace cA:=ζ cA;replace cB:=ζ cB;replace cTA:=ζ cTA;replace cTB:=ζ cTB;replace cH:=ζ cH;replace w_:=ζ w_;clear ha hb;go_enter Tryz.func65,Tryz.ntmps65
 go_wp2_with fail;refine (cTA.out _).mono ?_;rintro e w1 ⟨v,rfl,ho,hb1⟩;obtain⟨A,c,rfl,hc,hcm,am3⟩:=ho.arr JV;obtain⟨m,hm⟩:∃m,m = ta.length:=⟨_,rfl⟩;rw[←hm] at am3 hc ⊢;rw[←hm] at hlA;replace hm:=ζ hm;replace am3:=ζ am3;have bA:aS w1 w.heap.size 40 #[.int .i64 a.lv,.int .u32 (a.c:Int)]:=((aS.new w _ _).alloc _).grows hb1;have bB:aS w1 (w.heap.size+1) 40 #[.int .i64 b.lv,.int .u32 (b.c:Int)]:=(aS.vO w _ _ _).grows hb1;have hg1:ah w w1:=(((ah.refl w).alloc _).alloc _).trans hb1;clear ho hb1;go_wp2;go_loopw [6] (fun i wr=>∃(k:Nat),k≤m∧i =.int .i64 k∧Hid ((ta.take k).all (fun j=>decide (j∈tb))=true)∧ah w1 wr) (fun i _=>m - (intOf i).toNat)
 case atStart=>exact⟨0,ω,rfl,by simp[Hid],ah.refl _⟩
 case round=>
  obtain⟨k,hk,rfl,pO,hg⟩:=hrel;have bA2:=bA.grows hg;have bB2:=bB.grows hg;have a0:=bA2.c0;have a1:=bA2.c1;have b0:=bB2.c0;have b1:=bB2.c1;have sA:=bA2.lt;have sB:=bB2.lt;by_cases nV:k<m
  ·obtain⟨bb,off,t,rfl,hbb,hx,hcell⟩:=((am3.o).keep hg).at_ nV;have c0:wr.cell? ⟨bb,off+k,none⟩=some (.int .i64 t):=by simpa using hcell 0 _ rfl
   have hs:=wQ (fun j=>decide (j∈tb)) ta k t hx;rw[pO.o,Bool.true_and] at hs;have cHt:=fun A m c W h h'=>cH.out A m c t W h h'
   cases hq:decide (t∈tb)
   ·rw[hq] at hs;have aQ:r = false:=by rw[w_.o,DF hs,Bool.and_false]
    simp only[hq] at cHt;replace cHt:=ζ cHt;replace aQ:=ζ aQ;clear hs hq hx hcell pO;go_wp2_with fail;refine bV [(0,true),(2,true),(3,true),(4,true),(5,true),(1,false),(6,false),(7,true)] κ κ rfl κ π ?_;iterate 5 refine dX ?_
    refine iw rfl (fun K' hK=> ?_);go_simp;refine (cTB.out _).mono ?_;rintro e w2 ⟨v2,rfl,ho2,hb2⟩;obtain⟨A2,c2,rfl,hc2,MI,Tj⟩:=ho2.arr JV;generalize tb.length=m2 at *
    clear ho2;replace Tj:=ζ Tj;refine hK.o _ _ ?_ (fun hS=> ?_)
    ·exact γ
    clear hK hS;refine iw rfl (fun K' hK=> ?_);go_simp;refine (cHt.out _ _ _ _ Tj.o (by unfold maxLen;omega)).mono ?_;rintro e w3 ⟨rfl,rfl⟩;refine hK.o _ _ ?_ (fun hS=> ?_)
    ·exact γ
    clear hK hS;iterate 1 refine dX ?_
    refine gK ?_;go_wp2;go_ret;exact⟨aU aQ.o.symm,((hg1.trans hg).drew).trans hb2⟩
   ·rw[hq] at hs;simp only[hq] at cHt;replace cHt:=ζ cHt;replace hs:=ζ hs;clear hq hx hcell pO;go_wp2_with fail;refine bV [(0,true),(2,true),(3,true),(4,true),(5,true),(1,false),(6,false),(7,true)] κ κ rfl κ π ?_;iterate 5 refine dX ?_
    refine iw rfl (fun K' hK=> ?_);go_simp;refine (cTB.out _).mono ?_;rintro e w2 ⟨v2,rfl,ho2,hb2⟩;obtain⟨A2,c2,rfl,hc2,MI,Tj⟩:=ho2.arr JV;generalize tb.length=m2 at *
    clear ho2;replace Tj:=ζ Tj;refine hK.o _ _ ?_ (fun hS=> ?_)
    ·exact γ
    clear hK hS;refine iw rfl (fun K' hK=> ?_);go_simp;refine (cHt.out _ _ _ _ Tj.o (by unfold maxLen;omega)).mono ?_;rintro e w3 ⟨rfl,rfl⟩;refine hK.o _ _ ?_ (fun hS=> ?_)
    ·exact γ
    clear hK hS;iterate 1 refine dX ?_
    refine gK ?_;go_wp2;go_roundw
    case rel=>exact⟨k+1,ω,ν,hs.o,hg.drew.trans hb2⟩
    case measure=>exact ψ
  ·obtain rfl:k=m:=ω;have Io:r = (p &&q&&decide (a.lv≤b.lv)):=by
    have:=pO.o;rw[List.take_of_length_le (Nat.le_of_eq hm.o.symm)] at this;rw[w_.o,this,Bool.and_true]
   clear pO w_;cases p
   ·simp only[Bool.false_and] at Io;replace Io:=ζ Io;go_wp2_with fail;refine (cA.out _).mono ?_;rintro e w2 ⟨rfl,hb2⟩;go_wp2_with fail;go_ret;exact⟨aU Io.o.symm,(hg1.trans hg).trans hb2⟩
   ·cases q
    ·simp only[Bool.false_and,Bool.true_and] at Io;replace Io:=ζ Io;go_wp2_with fail;refine (cA.out _).mono ?_;rintro e w2 ⟨rfl,hb2⟩;replace b0:=hb2.cell b0;replace b1:=hb2.cell b1;go_wp2_with fail;refine (cB.out _).mono ?_;rintro e w3 ⟨rfl,hb3⟩;go_wp2_with fail;go_ret;exact⟨aU Io.o.symm,((hg1.trans hg).trans hb2).trans hb3⟩
    ·simp only[Bool.true_and] at Io;by_cases hle:a.lv≤b.lv
     ·rw[decide_eq_true hle] at Io;replace Io:=ζ Io;go_wp2_with fail;refine (cA.out _).mono ?_;rintro e w2 ⟨rfl,hb2⟩;replace b0:=hb2.cell b0;replace b1:=hb2.cell b1;replace a0:=hb2.cell a0;go_wp2_with fail;refine (cB.out _).mono ?_;rintro e w3 ⟨rfl,hb3⟩;replace b0:=hb3.cell b0;replace a0:=hb3.cell a0;go_wp2_with fail;go_ret;exact⟨aU Io.o.symm,((hg1.trans hg).trans hb2).trans hb3⟩
     ·rw[decide_eq_false hle] at Io;have avy:=ζ hle;replace Io:=ζ Io;go_wp2_with fail;refine (cA.out _).mono ?_;rintro e w2 ⟨rfl,hb2⟩;replace b0:=hb2.cell b0;replace b1:=hb2.cell b1;replace a0:=hb2.cell a0;go_wp2_with fail;refine (cB.out _).mono ?_;rintro e w3 ⟨rfl,hb3⟩;replace b0:=hb3.cell b0;replace a0:=hb3.cell a0;go_wp2_with fail;go_ret;exact⟨aU (by rw[Io.o,decide_eq_false (by have:=avy.o;omega)]),((hg1.trans hg).trans hb2).trans hb3⟩
theorem WV (A B:Option Addr) (m c m' c':Nat) (xs ys:List Nat) (w:World) (h:dH w 1 encI A m xs) (h':dH w 1 encI B m' ys) (hm:m≤maxLen) (hm':m'≤maxLen) :
 Calls Tryz.prog 7 #[.slice A m c,.slice B m' c'] w fun e w'=>e =.returned (.bool (decide (xs=ys)))∧ah w w':=by
 unfold maxLen at hm hm';have hl:=h.1;have hl':=h'.1;by_cases U6:m = m'
 ·subst U6;have hb:((m:Int) != (m:Int))=false:=by simp
  replace hl:=ζ hl;replace hl':=ζ hl';replace h:=ζ h;replace h':=ζ h';go_enter Tryz.func7,Tryz.ntmps7
  go_wp2;go_loopw [5] (fun i wr=>∃k:Nat,k≤m∧i =.int .i64 k∧Hid (xs.take k=ys.take k)∧ah w wr) (fun i _=>m - (intOf i).toNat)
  case atStart=>exact⟨0,ω,rfl,by simp[Hid],ah.refl _⟩
  case round=>
   obtain⟨k,hk,rfl,qQ,hg⟩:=hrel;by_cases nV:k<m
   ·obtain⟨b1,o1,x,rfl,_,hx,hc1⟩:=((h.o).keep hg).at_ nV;obtain⟨b2,o2,y,rfl,_,hy,hc2⟩:=((h'.o).keep hg).at_ nV;have c1:wr.cell? ⟨b1,o1+k,none⟩=some (.int .i64 x):=by simpa using hc1 0 _ rfl
    have c2:wr.cell? ⟨b2,o2+k,none⟩=some (.int .i64 y):=by simpa using hc2 0 _ rfl
    by_cases Qy:x = y
    ·subst Qy;have hs:xs.take (k+1)=ys.take (k+1):=by rw[List.take_add_one,List.take_add_one,hx,hy,qQ.o]
     replace hs:=ζ hs;clear hx hy hc1 hc2 qQ;go_wp2;go_quiet (fail)
     go_wp2;go_roundw
     case rel=>exact⟨k+1,ω,ν,hs.o,hg.drewN _⟩
     case measure=>exact ψ
    ·have ER:((x:Int) != (y:Int))=true:=by rw[bne_iff_ne];omega
     have aQ:decide (xs=ys)=false:=by
      rw[decide_eq_false_iff_not];rintro rfl;rw[hx] at hy;injection hy with hy;exact Qy hy
     replace aQ:=ζ aQ;clear hx hy hc1 hc2 qQ Qy;go_wp2;go_quiet (fail)
     go_wp2;go_ret;exact⟨aU aQ.o.symm,hg.drewN _⟩
   ·obtain rfl:k=m:=ω;have aQ:decide (xs=ys)=true:=by
     have:=qQ.o;rw[List.take_of_length_le (Nat.le_of_eq hl.o),List.take_of_length_le (Nat.le_of_eq hl'.o)] at this;rw[decide_eq_true_eq];exact this
    replace aQ:=ζ aQ;clear qQ;go_wp2;go_ret;exact⟨aU aQ.o.symm,hg⟩
 ·have hb:((m:Int) != (m':Int))=true:=by rw[bne_iff_ne];omega
  have aQ:decide (xs=ys)=false:=by
   rw[decide_eq_false_iff_not];rintro rfl;exact U6 (hl.symm.trans hl')
  replace aQ:=ζ aQ;clear hl hl' h h' U6;go_enter Tryz.func7,Tryz.ntmps7
  go_wp2;go_ret;exact⟨aU aQ.o.symm,ah.refl _⟩
end Go.Proofs.YteojanlajhebhaaGreatDoor
namespace Go.Proofs.YteojanlajhebhaaGreatDoor
open Go.RowKit Go.Maps
def EM (q:dU):Array Value:= #[.slice q.s.A q.s.m q.s.k,.slice q.r.A q.r.m q.r.k,.slice q.e.A q.e.m q.e.k,.slice q.a.A q.a.m q.a.k,.slice q.oA q.om q.ok,.slice q.iA q.im q.ik]
theorem ak8 {x:iI} {w:World} (h:dH w 2 fU x.A x.m x.a.fs) (hl:x.a.l.ok):x.qU.At w:=
 ⟨h.take (Nat.min_le_left _ _),by show min x.m 12≤1000;omega,hl⟩
theorem aer {α:Type} {w:World} {b0 k:Nat} {e:TypeId} {enc:α→List Value} {xs:List α} {A:Option Addr} {m c:Nat} (h:Own w b0 e k enc (.slice A m c) xs) (hk:∀x,(enc x).length=k):m = xs.length∧m≤c∧c≤maxLen∧dH w k enc A m xs:=by
 obtain⟨A',c',hv,h1,h2,h3⟩:=h.arr hk;injection hv with hv1 hv2 hv3
 subst hv1 hv2 hv3;exact⟨rfl,h1,h2,h3⟩
theorem apQ {xs:List iI} {w:World} (hx:∀x∈xs,dH w 2 fU x.A x.m x.a.fs∧x.a.l.ok):∀y∈(xs.take 12).map iI.qU,y.At w:=by
 intro y hy;obtain⟨x,NT,rfl⟩:=List.mem_map.1 hy;obtain⟨h1,h2⟩:=hx x (List.mem_of_mem_take NT);exact ak8 h1 h2
end Go.Proofs.YteojanlajhebhaaGreatDoor
namespace Go.Proofs.YteojanlajhebhaaGreatDoor
open Go.RowKit
theorem RH {α:Type} [DecidableEq α] {l:List α} {k:Nat} {x:α} (h:l[k]? = some x) (hn:(l.take k).Nodup) (hx:∀y∈l.take k,y≠x):(l.take (k+1)).Nodup:=by
 rw[List.take_add_one,h];exact List.nodup_append.2 ⟨hn,by simp,fun a ha b hb=>by
  simp at hb;subst hb;exact hx a ha⟩
theorem OV {α:Type} {l:List α} {i k:Nat} {x:α} (hi:l[i]? = some x) (hk:l[k]? = some x) (h:k<i):¬l.Nodup:=fun hn=>by
 have h1:=(List.getElem?_eq_some_iff.1 hi);have h2:=(List.getElem?_eq_some_iff.1 hk);have:=(List.getElem_inj (h₀:=h1.1) (h₁:=h2.1) hn).1 (h1.2.trans h2.2.symm);omega
theorem aex {α:Type} {l:List α} {k:Nat} {x y:α} (h:l[k]? = some y) (hn:∀z∈l.take k,z≠x) (hy:y≠x):∀z∈l.take (k+1),z≠x:=fun z hz=>by
 rw[List.take_add_one,h] at hz;rcases List.mem_append.1 hz with hz | hz
 ·exact hn z hz
 ·simp at hz;subst hz;exact hy
theorem ae0 {a b:List UInt8} (h:a≠b):(a ==b)=false:=by simp[h]
theorem ael {A:Option Addr} {m c:Nat} {l:List (List UInt8)} (w:World) (hA:dH w 1 encS A m l) (hm:m≤9223372036854775807) (P_:∀y∈l,y.length≤9223372036854775807) :
 Calls Tryz.prog 59 #[.slice A m c] w fun e w'=>e =.returned (.bool (XT l))∧ah w w':=by
 have qA:=ζ hA.1;obtain⟨R,hR⟩:∃R,R=XT l:=⟨_,rfl⟩;rw[←hR];replace hR:=ζ hR;replace hA:=ζ hA;replace P_:=ζ P_;go_enter Tryz.func59,Tryz.ntmps59
 go_wp2;go_loopw [3,4] (fun i _ wr=>∃k:Nat,k≤m∧i =.int .i64 (k:Int)∧Hid ((l.take k).Nodup)∧Hid ((l.take k).all f_=true)∧Hid (ah w wr)) (fun i _ _=>m - (intOf i).toNat)
 case atStart=>exact⟨0,ω,rfl,ζ σ,ζ σ,ζ (ah.refl _)⟩
 case round=>
  obtain⟨k,hk,rfl,hn,ha,hG⟩:=hrel;by_cases nV:k<m
  ·obtain⟨b,off,x,rfl,JI,hx,hcell⟩:=hA.o.at_ nV;have k0:w.cell? ⟨b,off+k,none⟩=some (.string ⟨x.toArray⟩):=by simpa using hcell 0 _ rfl
   have j_:(k:Int)<(m:Int):=ω;have yL:=P_.o x (List.mem_of_getElem? hx);replace hx:=ζ hx;clear hcell;go_wp2;go_loopw [4] (fun kv wr2=>∃j:Nat,j≤k∧kv=.int .i64 (j:Int)∧Hid (∀z∈l.take j,z≠x)∧Hid (ah w wr2)) (fun kv _=>k-(intOf kv).toNat)
   case atStart=>exact⟨0,ω,rfl,ζ σ,hG⟩
   case round=>
    clear hG;obtain⟨j,hj,rfl,hno,hG⟩:=hrel;have c0:=hG.o.cell k0;by_cases hjk:j < k
    ·obtain⟨b2,o2,y,e2,hs2,hy,nK⟩:=hA.o.at_ (show j < m by omega);injection e2 with e2
     injection e2 with e3 e4 _
     subst e3 e4;have n0:wr.cell? ⟨b,off+j,none⟩=some (.string ⟨y.toArray⟩):=hG.o.cell (by simpa using nK 0 _ rfl);have ake:(j:Int)<(k:Int):=ω;have jY:b < wr.heap.size:=Nat.lt_of_lt_of_le JI hG.o.size;by_cases hen:y = x
     ·have V3:(y ==x)=true:=by rw[hen];simp
      have hf:R=false:=by
       rw[hR.o];unfold XT;rw[decide_eq_false (OV hx.o (by rw[←hen];exact hy) hjk),Bool.and_false,Bool.false_and]
      subst hf;clear hen nK hy hno hR;go_wp2_with fail;refine bV (μ (.range 9) []) κ κ rfl κ π ?_;iterate 9 refine dX ?_
      refine gK ?_;go_wp2;go_ret;exact⟨rfl,hG.o.drew⟩
     ·have V3:(y ==x)=false:=ae0 hen;have vS:=ζ (aex hy hno.o hen);clear hen nK hy hno;go_wp2_with fail;refine bV (μ (.range 9) []) κ κ rfl κ π ?_;iterate 9 refine dX ?_
      refine gK ?_;go_wp2;go_roundw
      case rel=>exact⟨j + 1,ω,ν,vS,ζ hG.o.drew⟩
      case measure=>exact ψ
    ·have ake:¬(j:Int)<(k:Int):=ω;have hej:j = k:=ω;have O9:=ζ (RH hx.o hn.o (by rw[←hej];exact hno.o));have ha2:Hid ((l.take (k+1)).all f_=f_ x):=ζ (by rw[wQ f_ l k x hx.o,ha.o,Bool.true_and]);have iW:Hid (f_ x = false→R=false):=ζ (fun hb=>by
      rw[hR.o];unfold XT;rw[DF (k:=k+1) (by rw[ha2.o,hb]),Bool.false_and,Bool.false_and])
     clear hno hej;go_wp2_with fail;refine (Fj x yL wr).mono ?_;rintro e w2 ⟨rfl,hb2⟩;replace hG:=ζ (hG.o.trans hb2);clear hb2 c0;generalize f_ x = B at *
     cases B with
     | true=>
      go_wp2;go_roundw
      case rel=>exact⟨k+1,ω,ν,O9,ha2,hG⟩
      case measure=>exact ψ
     | false=>
      obtain rfl:=iW.o rfl;go_wp2;go_ret;exact⟨rfl,hG.o⟩
  ·have j_:¬(k:Int)<(m:Int):=ω;rw[List.take_of_length_le (by rw[qA.o];omega)] at hn ha;have iW:R=decide (m≤8):=by
    rw[hR.o];unfold XT;rw[ha.o,decide_eq_true hn.o,qA.o];simp
   clear hR hn ha;by_cases h8:m≤8
   ·have h8i:(m:Int)≤8:=ω;rw[decide_eq_true h8] at iW;subst iW;go_wp2;go_ret;exact⟨rfl,hG.o⟩
   ·have h8i:¬(m:Int)≤8:=ω;rw[decide_eq_false h8] at iW;subst iW;go_wp2;go_ret;exact⟨rfl,hG.o⟩
theorem aci {x:jl} (w:World) (hx:x.At w) :
 Calls Tryz.prog 58 #[x.val] w fun e w'=>e =.returned (.bool (ku x.l))∧ah w w':=by
 have hA:=hx.arr;have hm:=hx.le;have ht:=hx.txt;unfold jl.val;clear hx;obtain⟨l,A,m,c⟩:=x;simp only at hA hm ht ⊢;have qA:=ζ hA.1;obtain⟨R,hR⟩:∃R,R=ku l:=⟨_,rfl⟩;rw[←hR];have Hw:∀(k:Nat) (x:Hl),l[k]? = some x→(l.map (·.n))[k]? = some x.n:=fun k x h=>by rw[List.getElem?_map,h];rfl
 replace Hw:=ζ Hw;replace hR:=ζ hR;replace hA:=ζ hA;replace ht:=ζ ht;go_enter Tryz.func58,Tryz.ntmps58
 go_wp2;go_loopw [3,4] (fun i _ wr=>∃k:Nat,k≤m∧i =.int .i64 (k:Int)∧Hid (((l.map (·.n)).take k).Nodup)∧Hid ((l.take k).all uF=true)∧Hid (ah w wr)) (fun i _ _=>m - (intOf i).toNat)
 case atStart=>exact⟨0,ω,rfl,ζ σ,ζ σ,ζ (ah.refl _)⟩
 case round=>
  obtain⟨k,hk,rfl,hn,ha,hG⟩:=hrel;by_cases nV:k<m
  ·obtain⟨b,off,x,rfl,JI,hx,hcell⟩:=hA.o.at_ nV;have k0:w.cell? ⟨b,off+k*3,none⟩=some (.string ⟨x.n.toArray⟩):=by simpa using hcell 0 _ rfl
   have k1:w.cell? ⟨b,off+k*3+1,none⟩=some (.int .i64 x.l.lv):=hcell 1 _ rfl;have k2:w.cell? ⟨b,off+k*3+2,none⟩=some (.int .u32 (x.l.c:Int)):=hcell 2 _ rfl;have j_:(k:Int)<(m:Int):=ω;have yL:=ht.o x (List.mem_of_getElem? hx);have hxn:=ζ (Hw.o k x hx);replace hx:=ζ hx;clear hcell;go_wp2;go_loopw [4] (fun kv wr2=>∃j:Nat,j≤k∧kv=.int .i64 (j:Int)∧Hid (∀z∈(l.map (·.n)).take j,z≠x.n)∧Hid (ah w wr2)) (fun kv _=>k-(intOf kv).toNat)
   case atStart=>exact⟨0,ω,rfl,ζ σ,hG⟩
   case round=>
    clear hG;obtain⟨j,hj,rfl,hno,hG⟩:=hrel;have c0:=hG.o.cell k0;have c1:=hG.o.cell k1;have c2:=hG.o.cell k2;by_cases hjk:j < k
    ·obtain⟨b2,o2,y,e2,hs2,hy,nK⟩:=hA.o.at_ (show j < m by omega);injection e2 with e2
     injection e2 with e3 e4 _
     subst e3 e4;have n0:wr.cell? ⟨b,off+j * 3,none⟩=some (.string ⟨y.n.toArray⟩):=hG.o.cell (by simpa using nK 0 _ rfl);have ake:(j:Int)<(k:Int):=ω;have jY:b < wr.heap.size:=Nat.lt_of_lt_of_le JI hG.o.size;by_cases hen:y.n = x.n
     ·have V3:(y.n ==x.n)=true:=by rw[hen];simp
      have hf:R=false:=by
       rw[hR.o];unfold ku;rw[decide_eq_false (OV hxn.o (by rw[←hen];exact Hw.o j y hy) hjk),Bool.and_false]
      subst hf;clear hen nK hy hno hR;go_wp2_with fail;refine bV (μ (.range 11) []) κ κ rfl κ π ?_;iterate 11 refine dX ?_
      refine gK ?_;go_wp2;go_ret;exact⟨rfl,hG.o.drew⟩
     ·have V3:(y.n ==x.n)=false:=ae0 hen;have vS:=ζ (aex (Hw.o j y hy) hno.o hen);clear hen nK hy hno;go_wp2_with fail;refine bV (μ (.range 11) []) κ κ rfl κ π ?_;iterate 11 refine dX ?_
      refine gK ?_;go_wp2;go_roundw
      case rel=>exact⟨j + 1,ω,ν,vS,ζ hG.o.drew⟩
      case measure=>exact ψ
    ·have ake:¬(j:Int)<(k:Int):=ω;have hej:j = k:=ω;have O9:=ζ (RH hxn.o hn.o (by rw[←hej];exact hno.o));have ha2:Hid ((l.take (k+1)).all uF=uF x):=ζ (by rw[wQ uF l k x hx.o,ha.o,Bool.true_and]);have iW:Hid (uF x = false→R=false):=ζ (fun hb=>by
      rw[hR.o];unfold ku;rw[DF (k:=k+1) (by rw[ha2.o,hb]),Bool.false_and])
     have cN:=ζ (fun W=>Fj x.n yL W);have cR:=ζ (fun W=>mM x.l W);have oP:Hid (uF x = (f_ x.n &&dK x.l.lv)):=ζ rfl;have jY:b < wr.heap.size:=Nat.lt_of_lt_of_le JI hG.o.size;clear hno hej;generalize f_ x.n = B1 at *
     generalize dK x.l.lv=B2 at *
     generalize uF x = B at *
     go_wp2_with fail;refine (cN.out wr).mono ?_;rintro e w2 ⟨rfl,hb2⟩;replace hG:=ζ (hG.o.trans hb2);replace c1:=hb2.cell c1;replace c2:=hb2.cell c2;clear hb2 c0;cases B1 with
     | true=>
      go_wp2_with fail;refine (cR.out w2).mono ?_;rintro e w3 ⟨rfl,hb3⟩;replace hG:=ζ (hG.o.trans hb3);clear hb3 c1 c2;have aj2:=oP.o;simp only[Bool.true_and] at aj2;subst aj2;cases B with
      | true=>
       go_wp2;go_roundw
       case rel=>exact⟨k+1,ω,ν,O9,ha2,hG⟩
       case measure=>exact ψ
      | false=>
       obtain rfl:=iW.o rfl;go_wp2;go_ret;exact⟨rfl,hG.o⟩
     | false=>
      have aj2:=oP.o;simp only[Bool.false_and] at aj2;subst aj2;obtain rfl:=iW.o rfl;go_wp2;go_ret;exact⟨rfl,hG.o⟩
  ·have j_:¬(k:Int)<(m:Int):=ω;rw[List.take_of_length_le (by rw[qA.o];omega)] at ha;rw[List.take_of_length_le (by rw[List.length_map,qA.o];omega)] at hn;have iW:R=true:=by
    rw[hR.o];unfold ku;rw[ha.o,decide_eq_true hn.o];rfl
   subst iW;clear hR hn ha;go_wp2;go_ret;exact⟨rfl,hG.o⟩
def Hf (fb:jq→Bool) (x:jq):Prop:=∀W:World,Calls Tryz.prog 96 #[Fa x] W fun e w'=>e =.returned (.bool (fb x))∧ah W w'
theorem DC {α:Type} {q:α→Bool} {xs:List α} {k:Nat} (h:(xs.take k).any q=true):xs.any q=true:=by
 rw[List.any_eq_true] at h ⊢;obtain⟨x,hx,h⟩:=h;exact⟨x,(List.take_sublist k xs).mem hx,h⟩
theorem aeu (fb:jq→Bool) (x:jq):P9 fb x = (!fb x ||x.v.any (fun c=>decide (c.toNat<32))):=rfl
theorem NC {fb:jq→Bool} {A:Option Addr} {m c:Nat} {l:List jq} (w:World) (hA:dH w 3 Tz A m l) (hm:m≤9223372036854775807) (h:∀x∈l,Hf fb x) (hv:∀x∈l,x.v.length≤9223372036854775807) :
 Calls Tryz.prog 60 #[.slice A m c] w fun e w'=>e =.returned (.bool (uw fb l))∧ah w w':=by
 have qA:=ζ hA.1;obtain⟨R,hR⟩:∃R,R=uw fb l:=⟨_,rfl⟩;rw[←hR];replace hR:=ζ hR;replace hA:=ζ hA;replace h:=ζ h;replace hv:=ζ hv;go_enter Tryz.func60,Tryz.ntmps60
 go_wp2;go_loopw [3,4] (fun i _ wr=>∃k:Nat,k≤m∧i =.int .i64 (k:Int)∧Hid ((l.take k).any (P9 fb)=false)∧Hid (ah w wr)) (fun i _ _=>m - (intOf i).toNat)
 case atStart=>exact⟨0,ω,rfl,ζ σ,ζ (ah.refl _)⟩
 case round=>
  obtain⟨k,hk,rfl,hn,hG⟩:=hrel;by_cases nV:k<m
  ·obtain⟨b,off,x,rfl,JI,hx,hcell⟩:=hA.o.at_ nV;have k0:w.cell? ⟨b,off+k*3,none⟩=some (.string ⟨x.n.toArray⟩):=by simpa using hcell 0 _ rfl
   have k1:w.cell? ⟨b,off+k*3+1,none⟩=some (.int .i64 x.op):=hcell 1 _ rfl;have k2:w.cell? ⟨b,off+k*3+2,none⟩=some (.string ⟨x.v.toArray⟩):=hcell 2 _ rfl;have j_:(k:Int)<(m:Int):=ω;have hxv:=hv.o x (List.mem_of_getElem? hx);have hstep:Hid ((l.take (k+1)).any (P9 fb)=P9 fb x):=ζ (by rw[List.take_add_one,hx,List.any_append,hn.o];simp);have lN:Hid (P9 fb x = true→R=false):=ζ (fun hb=>by
    rw[hR.o];unfold uw;rw[DC (k:=k+1) (by rw[hstep.o,hb])];simp)
   have cF:=ζ (h.o x (List.mem_of_getElem? hx));clear hcell hx hn;go_wp2;go_loopw [4] (fun kv wr2=>∃j:Nat,j≤x.v.length∧kv=.int .i64 (j:Int)∧Hid ((x.v.take j).any (fun c=>decide (c.toNat<32))=false)∧Hid (ah w wr2)) (fun kv _=>x.v.length-(intOf kv).toNat)
   case atStart=>exact⟨0,ω,rfl,ζ σ,hG⟩
   case round=>
    clear hG;obtain⟨j,hj,rfl,hno,hG⟩:=hrel;have c0:=hG.o.cell k0;have c1:=hG.o.cell k1;have c2:=hG.o.cell k2;have jY:b < wr.heap.size:=Nat.lt_of_lt_of_le JI hG.o.size;by_cases hjk:j < x.v.length
    ·have ake:(j:Int)<((x.v.length:Nat):Int):=ω;have Il:x.v[j]? = some x.v[j]:=List.getElem?_eq_getElem hjk;have xJ:(x.v.take (j + 1)).any (fun c=>decide (c.toNat<32))=decide ((x.v[j]).toNat<32):=by rw[List.take_add_one,Il,List.any_append,hno.o];simp
     by_cases h32:(x.v[j]).toNat<32
     ·have awH:(((⟨x.v.toArray⟩:ByteArray)[j]'(by show j < x.v.toArray.size;simpa using hjk)).toNat:Int)<32:=by show ((x.v[j]).toNat:Int)<32;omega
      rw[decide_eq_true h32] at xJ;have hf:=lN.o (by rw[aeu,DC xJ,Bool.or_true]);subst hf;clear lN hstep xJ hno hR cF h32;go_wp2;go_ret;exact⟨rfl,hG.o⟩
     ·have awH:¬(((⟨x.v.toArray⟩:ByteArray)[j]'(by show j < x.v.toArray.size;simpa using hjk)).toNat:Int)<32:=by show ¬((x.v[j]).toNat:Int)<32;omega
      rw[decide_eq_false h32] at xJ;replace xJ:=ζ xJ;clear hno;go_wp2;go_roundw
      case rel=>exact⟨j + 1,ω,ν,xJ,hG⟩
      case measure=>exact ψ
    ·have ake:¬(j:Int)<((x.v.length:Nat):Int):=ω;rw[List.take_of_length_le ω] at hno;have ho:Hid (P9 fb x = !fb x):=ζ (by rw[aeu,hno.o,Bool.or_false]);rw[ho.o] at lN hstep;replace cF:=ζ (cF.out wr);clear hno ho;generalize fb x = B at *
     unfold Fa at cF;go_wp2_with fail;refine (cF.out).mono ?_;rintro e w2 ⟨rfl,hb2⟩;replace hG:=ζ (hG.o.trans hb2);clear hb2 c0 c1 c2 cF;cases B with
     | true=>
      go_wp2;go_roundw
      case rel=>exact⟨k+1,ω,ν,hstep,hG⟩
      case measure=>exact ψ
     | false=>
      obtain rfl:=lN.o rfl;go_wp2;go_ret;exact⟨rfl,hG.o⟩
  ·have j_:¬(k:Int)<(m:Int):=ω;rw[List.take_of_length_le (by rw[qA.o];omega)] at hn;have iW:R=decide (m≤12):=by
    rw[hR.o];unfold uw;rw[hn.o,qA.o];simp
   clear hR hn;by_cases h8:m≤12
   ·have h8i:(m:Int)≤12:=ω;rw[decide_eq_true h8] at iW;subst iW;go_wp2;go_ret;exact⟨rfl,hG.o⟩
   ·have h8i:¬(m:Int)≤12:=ω;rw[decide_eq_false h8] at iW;subst iW;go_wp2;go_ret;exact⟨rfl,hG.o⟩
end Go.Proofs.YteojanlajhebhaaGreatDoor
