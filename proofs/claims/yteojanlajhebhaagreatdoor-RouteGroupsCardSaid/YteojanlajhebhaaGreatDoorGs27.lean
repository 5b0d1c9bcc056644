/- Parts: MatA MatB MrA TomG MatC -/
import Derived.Test.YteojanlajhebhaaGreatDoorGs0
import Derived.Test.YteojanlajhebhaaGreatDoorGs26
import Derived.Test.YteojanlajhebhaaGreatDoorGs5
import Derived.Test.YteojanlajhebhaaGreatDoorGs9
import Derived.Test.YteojanlajhebhaaGreatDoorGs16
import Derived.Test.YteojanlajhebhaaGreatDoorGs18
set_option maxRecDepth 100000
set_option maxHeartbeats 12800000
namespace Go.Proofs.YteojanlajhebhaaGreatDoor
open Go.RowKit
def uM (x:jq):Bool:=f_ x.n &&decide (0≤x.op)&&decide (x.op≤3)&&decide (x.v.length≤200)&&(decide (x.op<2)||decide (ou x.v = 0))
theorem MV (x:jq):Bf uM x:=by
 intro w;obtain⟨R,hR⟩:∃R,R=uM x:=⟨_,rfl⟩;rw[←hR];obtain⟨n,op,v⟩:=x;have cN:=ζ (fun W=>FC n W);have cR:=ζ (fun W=>afR W v);unfold uM at hR;simp only at hR;unfold Fa;simp only;cases hn:f_ n with
 | false=>
  rw[hn] at cN hR;have aQ:Hid (R=false):=ζ (by rw[hR];rfl);clear hR cR hn;go_enter Tryz.func87,Tryz.ntmps87
  go_wp2_with fail;refine (cN.out _).mono ?_;rintro e w1 ⟨rfl,hg⟩;go_wp2;go_ret;exact⟨by rw[aQ.o];rfl,((ah.refl w).alloc _).trans hg⟩
 | true=>
  rw[hn] at cN hR;by_cases h0:op<0
  ·have aQ:Hid (R=false):=ζ (by rw[hR];simp[show ¬0≤op by omega]);clear hR cR hn;go_enter Tryz.func87,Tryz.ntmps87
   go_wp2_with fail;refine (cN.out _).mono ?_;rintro e w1 ⟨rfl,hg⟩;have hB:=(aS.new w 118 #[.string ⟨n.toArray⟩,.int .i64 op,.string ⟨v.toArray⟩]).grows hg;have d1:=hB.c1;have dl:=hB.lt;go_wp2;go_ret;exact⟨by rw[aQ.o];rfl,((ah.refl w).alloc _).trans hg⟩
  ·by_cases h3:3<op
   ·have aQ:Hid (R=false):=ζ (by rw[hR];simp[show ¬op≤3 by omega]);clear hR cR hn;go_enter Tryz.func87,Tryz.ntmps87
    go_wp2_with fail;refine (cN.out _).mono ?_;rintro e w1 ⟨rfl,hg⟩;have hB:=(aS.new w 118 #[.string ⟨n.toArray⟩,.int .i64 op,.string ⟨v.toArray⟩]).grows hg;have d1:=hB.c1;have d2:=hB.c2;have dl:=hB.lt;clear hB;go_wp2;go_ret;exact⟨by rw[aQ.o];rfl,((ah.refl w).alloc _).trans hg⟩
   ·by_cases hl:200<v.length
    ·have aQ:Hid (R=false):=ζ (by rw[hR];simp[show ¬v.length≤200 by omega]);have hli:(200:Int)<(v.length:Int):=ω;clear hR cR hn;go_enter Tryz.func87,Tryz.ntmps87
     go_wp2_with fail;refine (cN.out _).mono ?_;rintro e w1 ⟨rfl,hg⟩;have hB:=(aS.new w 118 #[.string ⟨n.toArray⟩,.int .i64 op,.string ⟨v.toArray⟩]).grows hg;have d1:=hB.c1;have d2:=hB.c2;have dl:=hB.lt;clear hB;go_wp2;go_ret;exact⟨by rw[aQ.o];rfl,((ah.refl w).alloc _).trans hg⟩
    ·have hli:¬(200:Int)<(v.length:Int):=ω;by_cases h2:op<2
     ·have aQ:Hid (R=true):=ζ (by rw[hR];simp[h2,show 0≤op by omega,show op≤3 by omega,show v.length≤200 by omega]);clear hR cR hn;go_enter Tryz.func87,Tryz.ntmps87
      go_wp2_with fail;refine (cN.out _).mono ?_;rintro e w1 ⟨rfl,hg⟩;have hB:=(aS.new w 118 #[.string ⟨n.toArray⟩,.int .i64 op,.string ⟨v.toArray⟩]).grows hg;have d1:=hB.c1;have d2:=hB.c2;have dl:=hB.lt;clear hB;go_wp2;go_ret;exact⟨by rw[aQ.o];rfl,((ah.refl w).alloc _).trans hg⟩
     ·have aQ:Hid (R=decide (ou v = 0)):=ζ (by rw[hR];simp[h2,show 0≤op by omega,show op≤3 by omega,show v.length≤200 by omega]);clear hR hn;generalize ou v = pe at *
      go_enter Tryz.func87,Tryz.ntmps87
      go_wp2_with fail;refine (cN.out _).mono ?_;rintro e w1 ⟨rfl,hg⟩;have hB:=(aS.new w 118 #[.string ⟨n.toArray⟩,.int .i64 op,.string ⟨v.toArray⟩]).grows hg;have d1:=hB.c1;have d2:=hB.c2;have dl:=hB.lt;clear hB;go_wp2_with fail;refine (cR.out _).mono ?_;rintro e w2 ⟨rfl,hg2⟩;have hpd:((pe:Int)==0)=decide (pe=0):=by
       rw[Bool.eq_iff_iff,beq_iff_eq,decide_eq_true_eq];omega
      replace hpd:=ζ hpd;go_wp2;go_ret;refine⟨?_,(((ah.refl w).alloc _).trans hg).trans hg2⟩;rw[aQ.o];exact aU (by rw[show decide (op<2)=false from decide_eq_false ω,Bool.false_or,hpd.o])
def mG (l:List eu) (n:List UInt8):List UInt8:=match l.find? (fun f=>f.n ==n) with
 | some f=>f.v
 | none=>[]
theorem aib {n:List UInt8} {g:Nat} (w:World) (hc:w.cell? ⟨g,0,none⟩=some (.string ⟨n.toArray⟩)) (x:eu) :
 Calls Tryz.prog 141 #[QV x,.pointer (some ⟨g,0,none⟩)] w fun e w'=>e =.returned (.bool (x.n ==n))∧ah w w':=by
 have hl:=World.block_lt_of_cell? w _ hc;simp only at hl;obtain⟨xn,xv⟩:=x;unfold QV;simp only;generalize hx:(xn==n)=B at *
 cases B with
 | true=>
  go_enter Tryz.func141,Tryz.ntmps141
  go_wp2;go_ret;exact⟨rfl,(ah.refl w).alloc _⟩
 | false=>
  go_enter Tryz.func141,Tryz.ntmps141
  go_wp2;go_ret;exact⟨rfl,(ah.refl w).alloc _⟩
theorem adF {α:Type} (p:α→Bool) (l:List α):(placeOf p l =-1∧l.find? p = none)∨∃(i:Nat) (x:α),placeOf p l = (i:Int)∧l[i]? = some x∧l.find? p = some x:=by
 unfold placeOf;cases h:l.findIdx? p with
 | none=>
  left
  refine⟨rfl,?_⟩;rw[List.find?_eq_none];intro x hx;have:=List.findIdx?_eq_none_iff.1 h x hx;simp[this]
 | some i=>
  right
  obtain⟨h1,h2,h3⟩:=List.findIdx?_eq_some_iff_getElem.1 h;refine⟨i,l[i],rfl,List.getElem?_eq_getElem h1,?_⟩;rw[List.find?_eq_some_iff_getElem];exact⟨h2,i,h1,rfl,fun j hj=>by simpa using h3 j hj⟩
theorem afc {A:Option Addr} {m c:Nat} {l:List eu} (w:World) (hA:dH w 2 fU A m l) (hm:m≤9223372036854775807) (n:List UInt8) :
 Calls Tryz.prog 125 #[.slice A m c,.string ⟨n.toArray⟩] w fun e w'=>e =.returned (.string ⟨(mG l n).toArray⟩)∧ah w w':=by
 have cC:=fun (W:World) (hW:ah w W) (hc:W.cell? ⟨w.heap.size,0,none⟩=some (.string ⟨n.toArray⟩))=>ZN 141 #[.pointer (some ⟨w.heap.size,0,none⟩)] (enters_of Tryz.func141 κ rfl) (fun f=>f.n ==n) A m c l W (hA.keep hW) hm (fun x _ W' XB=>aib W' (XB.cell hc) x)
 replace cC:=ζ cC;have qA:=hA.1;obtain⟨R,hR⟩:∃R,R=mG l n:=⟨_,rfl⟩;rw[←hR];unfold mG at hR;rcases adF (fun f:eu=>f.n ==n) l with⟨h1,h2⟩ | ⟨i,x,h1,h2,h3⟩
 ·rw[h2] at hR;simp only at hR;subst hR;rw[h1] at cC;clear h1 h2 hA;go_enter Tryz.func125,Tryz.ntmps125
  go_wp2_with fail;refine (cC.out _ γ ((aS.new w _ _).cell 0)).mono ?_;rintro e w1 ⟨rfl,hb⟩;have hG:ah w w1:=((ah.refl w).alloc _).trans hb;go_wp2;go_ret;exact⟨rfl,hG⟩
 ·rw[h3] at hR;simp only at hR;rw[h1] at cC;have hi:i < m:=by rw[←qA];exact (List.getElem?_eq_some_iff.1 h2).1
  obtain⟨bb,off,x',rfl,hs0,NT,hcell⟩:=hA.at_ hi;rw[h2] at NT;injection NT with NT
  subst NT;have c1:w.cell? ⟨bb,off+i * 2+1,none⟩=some (.string ⟨x.v.toArray⟩):=hcell 1 _ rfl;have hii:(i:Int)<(m:Int):=ω;rw[←hR] at c1;replace c1:=ζ c1;clear h1 h2 h3 hcell hA hR;go_enter Tryz.func125,Tryz.ntmps125
  go_wp2_with fail;refine (cC.out _ γ ((aS.new w _ _).cell 0)).mono ?_;rintro e w1 ⟨rfl,hb⟩;have hG:ah w w1:=((ah.refl w).alloc _).trans hb;have d1:=hG.cell c1.out;go_wp2;go_ret;exact⟨rfl,hG⟩
theorem YO {l:List eu} {n:List UInt8} {k:Nat} {x:eu} (hx:l[k]? = some x) (hb:(x.n ==n)=true) (hno:(l.take k).any (fun f=>f.n ==n)=false):mG l n = x.v:=by
 have hk:=(List.getElem?_eq_some_iff.1 hx).1;have h:l.find? (fun f=>f.n ==n)=some x:=by
  rw[List.find?_eq_some_iff_getElem];refine⟨hb,k,hk,(List.getElem?_eq_some_iff.1 hx).2,fun j hj=> ?_⟩;have:=List.any_eq_false.1 hno l[j] (List.mem_of_getElem? (by rw[List.getElem?_take,if_pos hj];exact List.getElem?_eq_getElem ω));simpa using this
 unfold mG;rw[h]
theorem YP {l:List eu} {n:List UInt8} (hno:l.any (fun f=>f.n ==n)=false):mG l n = []:=by
 have h:l.find? (fun f=>f.n ==n)=none:=by
  rw[List.find?_eq_none];intro x hx;have:=List.any_eq_false.1 hno x hx;simpa using this
 unfold mG;rw[h]
theorem abU {A:Option Addr} {m c:Nat} {l:List eu} {n:List UInt8} (w:World) (h:dH w 2 fU A m l) (hm:m≤9223372036854775807) :
 Calls Tryz.prog 101 #[.slice A m c,.string ⟨n.toArray⟩] w fun e w'=>e =.returned (.string ⟨(mG l n).toArray⟩)∧ah w w':=by
 have qA:=ζ h.1;obtain⟨R,hR⟩:∃R,R=mG l n:=⟨_,rfl⟩;rw[←hR];replace hR:=ζ hR;replace h:=ζ h;go_enter Tryz.func101,Tryz.ntmps101
 go_wp2;go_loopw [5] (fun iv wr=>∃k:Nat,k≤m∧iv=.int .i64 (k:Int)∧Hid ((l.take k).any (fun x=>x.n ==n)=false)∧Hid (ah w wr)) (fun iv _=>m - (intOf iv).toNat)
 case atStart=>exact⟨0,ω,rfl,ζ σ,ζ (ah.refl w)⟩
 case round=>
  obtain⟨k,hk,rfl,hno,hG⟩:=hrel;by_cases nV:k<m
  ·obtain⟨b,off,x,rfl,hbb,hx,hcell⟩:=(h.o.keep hG.o).at_ nV;have c0:wr.cell? ⟨b,off+k*2,none⟩=some (.string ⟨x.n.toArray⟩):=by simpa using hcell 0 _ rfl
   have c1:wr.cell? ⟨b,off+k*2+1,none⟩=some (.string ⟨x.v.toArray⟩):=hcell 1 _ rfl;have j_:(k:Int)<(m:Int):=ω;cases hb:(x.n ==n) with
   | true=>
    have iW:=hR.o;rw[YO hx hb hno.o] at iW;subst iW;clear hR hno hcell hx;go_wp2;go_ret;exact⟨rfl,hG.o⟩
   | false=>
    have vS:Hid ((l.take (k+1)).any (fun x=>x.n ==n)=false):=ζ (by rw[J8 hx,hno.o,hb];rfl);clear hno hcell hx;go_wp2;go_roundw
    case rel=>exact⟨k+1,ω,ν,vS,hG⟩
    case measure=>exact ψ
  ·have j_:¬(k:Int)<(m:Int):=ω;have iW:=hR.o;have vS:=hno.o;rw[List.take_of_length_le (by rw[qA.o];omega)] at vS;rw[YP vS] at iW;subst iW;clear hR hno vS;go_wp2;go_ret;exact⟨rfl,hG.o⟩
end Go.Proofs.YteojanlajhebhaaGreatDoor
namespace Go.Proofs.YteojanlajhebhaaGreatDoor
theorem RS {aT:List mW} {i j:Nat}:j∈qF aT i↔dG aT i [] j:=by
 unfold qF dG;cases h:aT[i]? with
 | none=>simp
 | some y=>simp
theorem aag {aT:List mW} {R:List Nat} (hR:∀x∈R,∀j∈qF aT x,j∈R):∀{n i:Nat} {w:List UInt8} {k:Nat},w = []→i∈R→qH aT n i w k→k∈R
 | 0,i,w,k,_,hi,⟨_,e⟩=>e ▸ hi
 | n + 1,i,w,k,hw,hi,⟨a,j,v,he,e,hp⟩=>by
  subst hw;obtain⟨rfl,rfl⟩:=List.append_eq_nil_iff.1 e.symm;exact aag hR rfl (hR i hi j (RS.2 he)) hp
theorem Gm {aT:List mW}:∀(f:Nat) (todo out:List Nat) (x:Nat),x∈pK aT f todo out→x∈out∨∃i∈todo,fM aT i [] x
 | 0,_,_,_,h=> .inl h
 | f + 1,todo,out,x,h=>by
  rw[pK] at h;split at h
  ·exact .inl h
  ·rename_i k hk;have nV:k∈todo:=List.mem_of_getLast? hk;have hd:∀j∈todo.dropLast,j∈todo:=fun j hj=>(List.dropLast_sublist todo).subset hj
   split at h
   ·rcases Gm f _ _ x h with h | ⟨i,hi,hp⟩
    ·exact .inl h
    ·exact .inr ⟨i,hd i hi,hp⟩
   ·rcases Gm f _ _ x h with h | ⟨i,hi,hp⟩
    ·rcases List.mem_append.1 h with h | h
     ·exact .inl h
     ·rw[List.mem_singleton.1 h];exact .inr ⟨k,nV,fM.refl _ _⟩
    ·rcases List.mem_append.1 hi with hi | hi
     ·exact .inr ⟨i,hd i hi,hp⟩
     ·exact .inr ⟨k,nV,fM.cons (RS.1 hi) hp⟩
theorem Jl {todo:List Nat} {k:Nat} (h:todo.getLast? =some k):∀j∈todo,j∈todo.dropLast∨j = k:=by
 intro j hj;have hne:todo≠[]:=fun e=>by rw[e] at hj;cases hj
 rw[←List.dropLast_concat_getLast hne] at hj;rcases List.mem_append.1 hj with hj | hj
 ·exact .inl hj
 ·rw[List.getLast?_eq_some_getLast hne] at h;injection h with h
  exact .inr ((List.mem_singleton.1 hj).trans h)
theorem EL {aT:List mW} (hv:yu aT):∀(f:Nat) (todo out:List Nat),(∀k∈todo,k<aT.length)→qm aT todo out≤f→(∀x∈out,∀j∈qF aT x,j∈out∨j∈todo)→
 (∀x∈out,x∈pK aT f todo out)∧(∀x∈todo,x∈pK aT f todo out)∧∀x∈pK aT f todo out,∀j∈qF aT x,j∈pK aT f todo out
 | 0,todo,out,_,hw,hc=>by
  have:todo=[]:=by
   unfold qm at hw;exact List.length_eq_zero_iff.1 ω
  subst this;exact⟨fun _ h=>h,fun _ h=>(by cases h),fun x hx j hj=>(hc x hx j hj).elim id (fun h=>by cases h)⟩
 | f + 1,todo,out,hl,hw,hc=>by
  rw[pK];split
  ·rename_i hk;have:todo=[]:=List.getLast?_eq_none_iff.1 hk;subst this;exact⟨fun _ h=>h,fun _ h=>(by cases h),fun x hx j hj=>(hc x hx j hj).elim id (fun h=>by cases h)⟩
  ·rename_i k hk;have nV:k∈todo:=List.mem_of_getLast? hk;have hne:todo≠[]:=fun e=>by rw[e] at nV;cases nV
   have hd:∀j∈todo.dropLast,j∈todo:=fun j hj=>(List.dropLast_sublist todo).subset hj
   split
   ·rename_i hko;have hws:=Vk (aT:=aT) (out:=out) hne;obtain⟨r1,r2,r3⟩:=EL hv f todo.dropLast out (fun j hj=>hl j (hd j hj)) ω (fun x hx j hj=>by
     rcases hc x hx j hj with h | h
     ·exact .inl h
     ·rcases Jl hk j h with h | rfl
      ·exact .inr h
      ·exact .inl hko)
    exact⟨r1,fun x hx=>(Jl hk x hx).elim (fun h=>r2 x h) (fun e=>by rw[e];exact r1 k hko),r3⟩
   ·rename_i hko;have hwn:=YJ (aT:=aT) (out:=out) hne hko (hl k nV);obtain⟨r1,r2,r3⟩:=EL hv f (todo.dropLast++qF aT k) (out++[k]) (fun j hj=>by
     rcases List.mem_append.1 hj with hj | hj
     ·exact hl j (hd j hj)
     ·exact Om hv j hj) ω (fun x hx j hj=>by
     rcases List.mem_append.1 hx with hx | hx
     ·rcases hc x hx j hj with h | h
      ·exact .inl (List.mem_append.2 (.inl h))
      ·rcases Jl hk j h with h | rfl
       ·exact .inr (List.mem_append.2 (.inl h))
       ·exact .inl (List.mem_append.2 (.inr (List.mem_singleton.2 rfl)))
     ·rw[List.mem_singleton.1 hx] at hj;exact .inr (List.mem_append.2 (.inr hj)))
    exact⟨fun x hx=>r1 x (List.mem_append.2 (.inl hx)),fun x hx=>(Jl hk x hx).elim (fun h=>r2 x (List.mem_append.2 (.inl h))) (fun e=>by rw[e];exact r1 k (List.mem_append.2 (.inr (List.mem_singleton.2 rfl)))),r3⟩
theorem RP {aT:List mW} (hv:yu aT) {l:List Nat} (hl:∀k∈l,k<aT.length) {x:Nat}:x∈sS aT l↔∃i∈l,fM aT i [] x:=by
 have hw:qm aT l []≤l.length+lS aT:=by unfold qm;rw[IJ];exact Nat.le_refl _
 obtain⟨_,r2,r3⟩:=EL hv _ l [] hl hw (fun x hx=>by cases hx);constructor
 ·intro h;rcases Gm _ _ _ x h with h | h
  ·cases h
  ·exact h
 ·rintro⟨i,hi,n,hp⟩;exact aag r3 rfl (r2 i hi) hp
theorem VQ {aT:List mW} {c:UInt8} {j:Nat}:∀(l out:List Nat),j∈l.foldl (ji aT c.toNat) out↔j∈out∨∃i∈l,dG aT i [c] j
 | [],out=>by simp
 | k::l,out=>by
  rw[List.foldl_cons,VQ l];have h1:j∈ji aT c.toNat out k↔j∈out∨dG aT k [c] j:=by
   unfold ji dG;cases hy:aT[k]? with
   | none=>simp
   | some y=>
    simp only[Option.some.injEq,exists_eq_left'];cases hs:y.set with
    | none=>simp
    | some ws=>
     simp only;by_cases hb:qC ws c.toNat=true
     ·rw[if_pos hb];constructor
      ·intro h;rcases List.mem_append.1 h with h | h
       ·exact .inl h
       ·exact .inr (.inr ⟨c,ws,rfl,rfl,hb,List.mem_singleton.1 h⟩)
      ·rintro (h | ⟨h,_⟩ | ⟨_,_,_,_,_,h⟩)
       ·exact List.mem_append.2 (.inl h)
       ·cases h
       ·exact List.mem_append.2 (.inr (List.mem_singleton.2 h))
     ·rw[if_neg hb];constructor
      ·exact .inl
      ·rintro (h | ⟨h,_⟩ | ⟨c',ws',h1,h2,h3,_⟩)
       ·exact h
       ·cases h
       ·injection h1 with h1
        injection h2 with h2
        subst h1 h2;exact absurd h3 hb
  rw[h1];constructor
  ·rintro ((h | h) | ⟨i,hi,h⟩)
   ·exact .inl h
   ·exact .inr ⟨k,List.mem_cons_self,h⟩
   ·exact .inr ⟨i,List.mem_cons_of_mem _ hi,h⟩
  ·rintro (h | ⟨i,hi,h⟩)
   ·exact .inl (.inl h)
   ·rcases List.mem_cons.1 hi with rfl | hi
    ·exact .inl (.inr h)
    ·exact .inr ⟨i,hi,h⟩
theorem VP {aT:List mW} {c:UInt8} {j:Nat} {l:List Nat}:j∈Dj aT c.toNat l↔∃i∈l,dG aT i [c] j:=by
 unfold Dj;rw[VQ];simp
theorem adL {aT:List mW} {i j:Nat} {a:List UInt8} (h:dG aT i a j):a = []∨∃c,a = [c]:=by
 obtain⟨y,_,⟨h,_⟩ | ⟨c,_,h,_⟩⟩:=h
 ·exact .inl h
 ·exact .inr ⟨c,h⟩
theorem NK {aT:List mW} {c:UInt8} {k:Nat}:∀{n i:Nat} {u:List UInt8},qH aT n i (u ++[c]) k→∃x y,fM aT i u x∧dG aT x [c] y∧fM aT y [] k
 | 0,i,u,⟨h,_⟩=>by simp at h
 | n + 1,i,u,⟨a,j,v,he,e,hp⟩=>by
  rcases adL he with rfl | ⟨d,rfl⟩
  ·rw[List.nil_append] at e;subst e;obtain⟨x,y,h1,h2,h3⟩:=NK hp;exact⟨x,y,fM.cons he h1,h2,h3⟩
  ·cases u with
   | nil=>
    simp at e;obtain⟨rfl,rfl⟩:=e;exact⟨i,j,fM.refl _ _,he,⟨n,hp⟩⟩
   | cons d' u=>
    simp at e;obtain⟨rfl,rfl⟩:=e;obtain⟨x,y,h1,h2,h3⟩:=NK hp;exact⟨x,y,fM.cons (a:=[d']) he h1,h2,h3⟩
theorem VR {p:TT} (oP:WI p):∀(t u:List UInt8) (L:List Nat),(∀k∈L,k<p.aT.length)→(∀k,k∈L↔fM p.aT p.start u k)→
 ∀k,k∈t.foldl (fun l c=>rU (sS p.aT (Dj p.aT c.toNat l))) L↔fM p.aT p.start (u ++t) k
 | [],u,L,_,h,k=>by rw[List.append_nil];exact h k
 | c ::t,u,L,hL,h,k=>by
  rw[List.foldl_cons,show u ++c ::t = (u ++[c])++t by simp];have hs:=LQ oP.vp (c:=c.toNat) L;refine VR oP t (u ++[c]) _ (LU (Fp oP.vp hs.1).1) (fun x=> ?_) k;rw[(Gi _).mem_iff,RP oP.vp hs.1];constructor
  ·rintro⟨j,hj,hp⟩;obtain⟨i,hi,he⟩:=VP.1 hj;exact ((h i).1 hi).trans (by simpa using fM.cons he hp)
  ·rintro⟨n,hp⟩;obtain⟨i,j,h1,h2,h3⟩:=NK hp;exact⟨j,VP.2 ⟨i,(h i).2 h1,h2⟩,h3⟩
theorem RQ {p:TT} (oP:WI p) (t:List UInt8) (k:Nat):k∈Am p t↔fM p.aT p.start t k:=by
 have hl:∀k∈[p.start],k<p.aT.length:=fun k hk=>by rw[List.mem_singleton.1 hk];exact oP.start
 have:=VR oP t [] (rU (sS p.aT [p.start])) (LU (Fp oP.vp hl).1) (fun k=>by
  rw[(Gi _).mem_iff,RP oP.vp hl];simp) k
 rwa [List.nil_append] at this
theorem ag8 (s t:List UInt8):oG s t = true↔lJ s = 0∧jK (WY s) t:=by
 have qQ:=Dk s;unfold oG;by_cases h:ou s = 0
 ·have h1:¬100<s.length:=fun h1=>by unfold ou at h;rw[if_pos h1] at h;cases h
  have h2:(qw s).1.err=0:=by unfold ou at h;rwa [if_neg h1] at h
  have hp:wW s = some ⟨(qw s).1.aT,(qw s).2.1,(qw s).2.2⟩:=by
   unfold wW;rw[if_neg (by rintro (h | h);exact h1 h;exact h h2)]
  have oP:=Zn hp;have hF:=(VG s).2 h2;rw[hp];simp only;rw[List.any_eq_true];constructor
  ·rintro⟨x,hx,he⟩;have he:=beq_iff_eq.1 he;subst he;exact⟨qQ.1 h,(hF.acc t).1 ((RQ oP t _).1 hx)⟩
  ·rintro⟨_,ha⟩;exact⟨_,(RQ oP t _).2 ((hF.acc t).2 ha),by simp⟩
 ·have hp:wW s = none:=by
   unfold wW;unfold ou at h;split at h
   ·rw[if_pos (.inl ‹_›)]
   ·rw[if_pos (.inr h)]
  rw[hp];simp only;constructor
  ·intro h;cases h
  ·rintro⟨h1,_⟩;exact absurd (qQ.2 h1) h
end Go.Proofs.YteojanlajhebhaaGreatDoor
namespace Go.Proofs.YteojanlajhebhaaGreatDoor
open Go.RowKit
def MS (l:List eu) (x:jq):Bool:=uM x &&(if x.op=0 then mG l x.n ==x.v else if x.op=1 then !(mG l x.n ==x.v) else if x.op=2 then oG x.v (mG l x.n) else !oG x.v (mG l x.n))
theorem aa6 {l:List eu} {n:List UInt8} (h:∀f∈l,f.v.length≤1000000):(mG l n).length≤1000000:=by
 unfold mG;split
 ·rename_i f hf;exact h f (List.mem_of_find?_eq_some hf)
 ·simp
theorem aoJ (a b:List UInt8) (w:World):Calls Tryz.prog 122 #[.string ⟨a.toArray⟩,.string ⟨b.toArray⟩] w fun e w'=>e =.returned (.bool (b ==a))∧ah w w':=by
 generalize hx:(b ==a)=B;cases B with
 | true=>
  go_enter Tryz.func122,Tryz.ntmps122
  go_wp2;go_ret;exact⟨rfl,ah.refl w⟩
 | false=>
  go_enter Tryz.func122,Tryz.ntmps122
  go_wp2;go_ret;exact⟨rfl,ah.refl w⟩
theorem Zx {fn:FuncId} {R:Bool} {a b:List UInt8} {g:Nat} (w:World) (eg:Enters Tryz.prog fn) (hc:w.cell? ⟨g,0,none⟩=some (.func (.func fn) #[] #[])) (hf:∀W,Calls Tryz.prog fn #[.string ⟨a.toArray⟩,.string ⟨b.toArray⟩] W fun e w'=>e =.returned (.bool R)∧ah W w') :
 Calls Tryz.prog 139 #[.string ⟨a.toArray⟩,.string ⟨b.toArray⟩,.pointer (some ⟨g,0,none⟩)] w fun e w'=>e =.returned (.bool (!R))∧ah w w':=by
 unfold Enters at eg;have hl:=World.block_lt_of_cell? w _ hc;simp only at hl;replace hf:=ζ hf;go_enter Tryz.func139,Tryz.ntmps139
 go_wp2_with fail;refine (hf.o _).mono ?_;rintro e w1 ⟨rfl,hb⟩;go_wp2;go_ret;exact⟨aU rfl,hb⟩
theorem aew (fn:FuncId) (w:World):Calls Tryz.prog 123 #[.func (.func fn) #[] #[]] w fun e w'=>e =.returned (.func (.func 139) #[] #[.pointer (some ⟨w.heap.size,0,none⟩)])∧w'=w.alloc (.cells #[.func (.func fn) #[] #[]] 142):=by
 have hmf:∀(fn:Fn) (first cap:Array Value) (w:World),(Instr.makeFunc fn first cap).run Tryz.prog w =.ok (.func fn first cap) w:=fun _ _ _ _=>rfl
 go_enter Tryz.func123,Tryz.ntmps123
 go_wp2;go_ret;exact⟨rfl,rfl⟩
theorem agp (x:jq):QI MS x:=by
 intro A m c l w hA hm hT;obtain⟨n,op,v⟩:=x;have cFi:=ζ (MV ⟨n,op,v⟩);have cV:=ζ (fun W (hW:ah w W)=>afc (c:=c) W (hA.keep hW) hm n);have cP:=ζ (fun W=>ag_ W v (mG l n) (aa6 hT));have cI:=ζ (fun W=>aoJ v (mG l n) W);obtain⟨R,hR⟩:∃R,R=MS l ⟨n,op,v⟩:=⟨_,rfl⟩;rw[←hR];unfold MS at hR;simp only at hR;have hop:uM ⟨n,op,v⟩=true→op=0∨op=1∨op=2∨op=3:=fun h=>by
  unfold uM at h;simp only[Bool.and_eq_true,decide_eq_true_eq] at h;omega
 have hFi:=cFi.out;unfold Bf Fa at hFi;simp only at hFi;generalize uM ⟨n,op,v⟩=FB at *
 generalize mG l n = vv at *
 generalize oG v vv=fp at *
 unfold Fa;simp only;clear hT hA;go_enter Tryz.func95,Tryz.ntmps95
 go_wp2_with fail;refine (aew 122 _).mono ?_;rintro e w1 ⟨rfl,hw1⟩;have hX1:=(aS.new w 118 #[.string ⟨n.toArray⟩,.int .i64 op,.string ⟨v.toArray⟩]).alloc (.cells #[.func (.func 122) #[] #[]] 142);have hI1:=aS.new (w.alloc (.cells #[.string ⟨n.toArray⟩,.int .i64 op,.string ⟨v.toArray⟩] 118)) 142 #[.func (.func 122) #[] #[]];have mX:ah w w1:=by rw[hw1];exact ((ah.refl w).alloc _).alloc _
 rw[←hw1] at hX1 hI1;clear hw1;generalize (w.alloc (.cells #[.string ⟨n.toArray⟩,.int .i64 op,.string ⟨v.toArray⟩] 118)).heap.size=gI at *
 replace hX1:=ζ hX1;replace hI1:=ζ hI1;replace mX:=ζ mX;go_wp2_with fail;refine (aew 124 _).mono ?_;rintro e w2 ⟨rfl,hw2⟩;have hF2:=aS.new w1 142 #[.func (.func 124) #[] #[]];have hg2:ah w1 w2:=by rw[hw2];exact (ah.refl w1).alloc _
 rw[←hw2] at hF2;clear hw2;replace hX1:=ζ (hX1.o.grows hg2);replace hI1:=ζ (hI1.o.grows hg2);replace mX:=ζ (mX.o.trans hg2);replace hF2:=ζ hF2;clear hg2;generalize w1.heap.size=gF at *
 generalize w.heap.size=gX at *
 obtain⟨ops,avm⟩:∃ops:Array Value,ops= #[.func (.func 122) #[] #[],.func (.func 139) #[] #[.pointer (some ⟨gI,0,none⟩)],.func (.func 124) #[] #[],.func (.func 139) #[] #[.pointer (some ⟨gF,0,none⟩)]]:=⟨_,rfl⟩;go_wp2_with (with_reducible show wpList _ _ _ _ _ _;refine wpList_store_row rfl 170 (.tmp 5) (.tmp 8) rfl w2.heap.size #[.func (.func 122) #[] #[],.func (.func 139) #[] #[.pointer (some ⟨gI,0,none⟩)],.func (.func 124) #[] #[],.func (.func 139) #[] #[.pointer (some ⟨gF,0,none⟩)]] rfl rfl 170 #[.nilFunc,.nilFunc,.nilFunc,.nilFunc] (heap_alloc_new w2 (.cells #[.nilFunc,.nilFunc,.nilFunc,.nilFunc] 170)) κ rfl (by simp[Value.oneCell']) ?_;rw[World.setRow_alloc_new]);have dS:=aS.new w2 170 #[.func (.func 122) #[] #[],.func (.func 139) #[] #[.pointer (some ⟨gI,0,none⟩)],.func (.func 124) #[] #[],.func (.func 139) #[] #[.pointer (some ⟨gF,0,none⟩)]];have hg3:ah w2 (w2.alloc (.cells #[.func (.func 122) #[] #[],.func (.func 139) #[] #[.pointer (some ⟨gI,0,none⟩)],.func (.func 124) #[] #[],.func (.func 139) #[] #[.pointer (some ⟨gF,0,none⟩)]] 170)):=(ah.refl _).alloc _;replace hX1:=ζ (hX1.o.grows hg3);replace hI1:=ζ (hI1.o.grows hg3);replace mX:=ζ (mX.o.trans hg3);replace hF2:=ζ (hF2.o.grows hg3);clear hg3 avm ops;generalize w2.alloc (.cells #[.func (.func 122) #[] #[],.func (.func 139) #[] #[.pointer (some ⟨gI,0,none⟩)],.func (.func 124) #[] #[],.func (.func 139) #[] #[.pointer (some ⟨gF,0,none⟩)]] 170)=w3 at *
 generalize w2.heap.size=gO at *
 have x0:=hX1.o.c0;have x1:=hX1.o.c1;have x2:=hX1.o.c2;have xl:=hX1.o.lt;have o0:=dS.c0;have o1:=dS.c1;have o2:=dS.c2;have o3:=dS.c3;have ol:=dS.lt;have eI:Enters Tryz.prog 122:=enters_of Tryz.func122 κ rfl;have eF:Enters Tryz.prog 124:=enters_of Tryz.func124 κ rfl;have eN:Enters Tryz.prog 139:=enters_of Tryz.func139 κ rfl;have cN1:=ζ (fun W (hW:ah w3 W)=>Zx (fn:=122) (R:=vv==v) (a:=v) (b:=vv) W eI ((hI1.o.grows hW).cell 0) cI.out);have cN3:=ζ (fun W (hW:ah w3 W)=>Zx (fn:=124) (R:=fp) (a:=v) (b:=vv) W eF ((hF2.o.grows hW).cell 0) cP.out);have cV3:=ζ (fun W (hW:ah w3 W)=>cV.out W (mX.o.trans hW));replace hFi:=ζ hFi;unfold Enters at eI eF eN;clear cV cFi dS hX1 hI1 hF2;generalize hvb:(vv==v)=vb at *
 replace hvb:=ζ hvb;cases FB with
 | false=>
  have iW:Hid (R=false):=ζ (by rw[hR];rfl);clear hop hR;refine aJ κ ?_;refine rK (.range 16) 0 ?_;iterate 1 refine aB ?_
  refine bJ (.bool false) rfl χ (fun wq gY=> ?_) ?_
  ·obtain⟨qB,rE⟩:=bW gY;go_simp;exact Calls.mono (hFi.o wq) (fun e w'' h=>h)
  go_simp;iterate 10 refine aB ?_
  refine vC rfl χ ?_;go_simp;refine vC rfl χ ?_;go_simp;iterate 2 refine aB ?_
  refine ay ?_;refine aP κ (fun wN hN hS=> ?_);go_wp2;go_ret;exact⟨by rw[iW.o];rfl,mX.o.trans hN⟩
 | true=>
  rcases hop rfl with rfl | rfl | rfl | rfl
  ·have iW:Hid (R=vb):=ζ (by rw[hR];rfl);clear hop hR;refine aJ κ ?_;refine rK (.range 16) 0 ?_;iterate 1 refine aB ?_
   refine bJ (.bool true) rfl χ (fun wq gY=> ?_) ?_
   ·obtain⟨qB,rE⟩:=bW gY;go_simp;exact Calls.mono (hFi.o wq) (fun e w'' h=>h)
   go_simp;iterate 10 refine aB ?_
   refine bJ (.string ⟨vv.toArray⟩) rfl χ (fun wq gY=> ?_) ?_
   ·obtain⟨qB,rE⟩:=bW gY;go_simp;exact Calls.mono (cV3.out wq gY) (fun e w'' h=>h)
   go_simp;refine bJ (.bool vb) rfl χ (fun wq gY=> ?_) ?_
   ·obtain⟨qB,rE⟩:=bW gY;go_simp;exact Calls.mono (cI.out wq) (fun e w'' h=>h)
   go_simp;iterate 2 refine aB ?_
   refine ay ?_;refine aP κ (fun wN hN hS=> ?_);go_wp2;go_ret;exact⟨by rw[iW.o];rfl,mX.o.trans hN⟩
  ·have iW:Hid (R= !vb):=ζ (by rw[hR];rfl);clear hop hR;refine aJ κ ?_;refine rK (.range 16) 0 ?_;iterate 1 refine aB ?_
   refine bJ (.bool true) rfl χ (fun wq gY=> ?_) ?_
   ·obtain⟨qB,rE⟩:=bW gY;go_simp;exact Calls.mono (hFi.o wq) (fun e w'' h=>h)
   go_simp;iterate 10 refine aB ?_
   refine bJ (.string ⟨vv.toArray⟩) rfl χ (fun wq gY=> ?_) ?_
   ·obtain⟨qB,rE⟩:=bW gY;go_simp;exact Calls.mono (cV3.out wq gY) (fun e w'' h=>h)
   go_simp;refine bJ (.bool (!vb)) rfl χ (fun wq gY=> ?_) ?_
   ·obtain⟨qB,rE⟩:=bW gY;go_simp;exact Calls.mono (cN1.out wq gY) (fun e w'' h=>h)
   go_simp;iterate 2 refine aB ?_
   refine ay ?_;refine aP κ (fun wN hN hS=> ?_);go_wp2;go_ret;exact⟨by rw[iW.o];rfl,mX.o.trans hN⟩
  ·have iW:Hid (R=fp):=ζ (by rw[hR];rfl);clear hop hR;refine aJ κ ?_;refine rK (.range 16) 0 ?_;iterate 1 refine aB ?_
   refine bJ (.bool true) rfl χ (fun wq gY=> ?_) ?_
   ·obtain⟨qB,rE⟩:=bW gY;go_simp;exact Calls.mono (hFi.o wq) (fun e w'' h=>h)
   go_simp;iterate 10 refine aB ?_
   refine bJ (.string ⟨vv.toArray⟩) rfl χ (fun wq gY=> ?_) ?_
   ·obtain⟨qB,rE⟩:=bW gY;go_simp;exact Calls.mono (cV3.out wq gY) (fun e w'' h=>h)
   go_simp;refine bJ (.bool fp) rfl χ (fun wq gY=> ?_) ?_
   ·obtain⟨qB,rE⟩:=bW gY;go_simp;exact Calls.mono (cP.out wq) (fun e w'' h=>h)
   go_simp;iterate 2 refine aB ?_
   refine ay ?_;refine aP κ (fun wN hN hS=> ?_);go_wp2;go_ret;exact⟨by rw[iW.o];rfl,mX.o.trans hN⟩
  ·have iW:Hid (R= !fp):=ζ (by rw[hR];rfl);clear hop hR;refine aJ κ ?_;refine rK (.range 16) 0 ?_;iterate 1 refine aB ?_
   refine bJ (.bool true) rfl χ (fun wq gY=> ?_) ?_
   ·obtain⟨qB,rE⟩:=bW gY;go_simp;exact Calls.mono (hFi.o wq) (fun e w'' h=>h)
   go_simp;iterate 10 refine aB ?_
   refine bJ (.string ⟨vv.toArray⟩) rfl χ (fun wq gY=> ?_) ?_
   ·obtain⟨qB,rE⟩:=bW gY;go_simp;exact Calls.mono (cV3.out wq gY) (fun e w'' h=>h)
   go_simp;refine bJ (.bool (!fp)) rfl χ (fun wq gY=> ?_) ?_
   ·obtain⟨qB,rE⟩:=bW gY;go_simp;exact Calls.mono (cN3.out wq gY) (fun e w'' h=>h)
   go_simp;iterate 2 refine aB ?_
   refine ay ?_;refine aP κ (fun wN hN hS=> ?_);go_wp2;go_ret;exact⟨by rw[iW.o];rfl,mX.o.trans hN⟩
end Go.Proofs.YteojanlajhebhaaGreatDoor
