/- Parts: ParP GrpR RcG RcH RcI -/
import Derived.Test.YteojanlajhebhaaGreatDoorGs0
import Derived.Test.YteojanlajhebhaaGreatDoorGs16
import Derived.Test.YteojanlajhebhaaGreatDoorGs11
set_option maxRecDepth 100000
set_option maxHeartbeats 12800000
namespace Go.Proofs.YteojanlajhebhaaGreatDoor
open Go.RowKit
def atW (l:List UInt8):Prop:=∀b∈l,b≠61
def Lr (fs:List eu):Prop:=∀f∈fs,atW f.n
theorem acQ {n:List UInt8} (h:f_ n = true):atW n:=by
 intro b hb e;subst e;unfold f_ at h;simp only[Bool.and_eq_true] at h;have:=List.all_eq_true.1 h.2 61 hb;revert this
 decide
theorem YX {a b x y:List UInt8} {s:UInt8} (ha:∀c∈a,c≠s) (hb:∀c∈b,c≠s) (h:a ++s ::x = b ++s ::y):a = b∧x = y:=by
 induction a generalizing b with
 | nil=>
  cases b with
  | nil=>simp at h;exact⟨rfl,h⟩
  | cons c b=>simp at h;exact absurd h.1.symm (hb c List.mem_cons_self)
 | cons c a ih=>
  cases b with
  | nil=>simp at h;exact absurd h.1 (ha c List.mem_cons_self)
  | cons d b=>
   simp only[List.cons_append,List.cons.injEq] at h;obtain⟨rfl,h⟩:=h;obtain⟨rfl,h2⟩:=ih (fun c hc=>ha c (List.mem_cons_of_mem _ hc)) (fun c hc=>hb c (List.mem_cons_of_mem _ hc)) h;exact⟨rfl,h2⟩
theorem Px (n:Nat):∀c∈Lib.decDigits n,c≠58:=fun c hc e=>by
 have:=J7 n c hc;subst e;revert this
 decide
theorem QT:∀{fs gs:List eu},Lr fs→Lr gs→fs.flatMap vF=gs.flatMap vF→fs=gs
 | [],[],_,_,_=>rfl
 | [],g ::gs,_,_,h=>by simp[vF] at h
 | f ::fs,[],_,_,h=>by simp[vF] at h
 | f ::fs,g ::gs,hf,hg,h=>by
  simp only[List.flatMap_cons,vF,List.cons_append,List.append_assoc,List.cons.injEq,true_and] at h;obtain⟨h1,h2⟩:=YX (hf f List.mem_cons_self) (hg g List.mem_cons_self) h;obtain⟨h3,h4⟩:=YX (Px _) (Px _) h2;have h5:=J6 h3;obtain⟨h6,h7⟩:=List.append_inj h4 h5;have h8:=QT (fun x hx=>hf x (List.mem_cons_of_mem _ hx)) (fun x hx=>hg x (List.mem_cons_of_mem _ hx)) h7;rw[h8];congr 1
  cases f;cases g
  simp only at h1 h6;rw[h1,h6]
theorem aa2 {r r':Nat} {fs gs:List eu} (hf:Lr fs) (hg:Lr gs) (h:eU r fs=eU r' gs):r = r'∧fs=gs:=by
 have hr:=LG h;subst hr;unfold eU at h;exact⟨rfl,QT hf hg (List.append_cancel_left h)⟩
theorem GH (s t:List UInt8) (k:Nat):∀l:List (List UInt8×Nat),oO (l ++[(t,k)]) s = if t = s then some k else oO l s
 | []=>by simp[oO]
 | x ::l=>by
  rw[List.cons_append,KI,KI,GH s t k l];by_cases h:t = s <;> simp[h]
structure F7 (st:Qq):Prop where
 at_:∀(r:Nat) (gs:List oh) (k:Nat) (g:oh),st.aX[r]? = some gs→gs[k]? = some g→oO st.place (eU r g.iM)=some k∧Lr g.iM∧g.ids≠[]∧xC g.ids
 of:∀(r:Nat) (fs:List eu) (k:Nat),Lr fs→oO st.place (eU r fs)=some k→∃(gs:List oh) (g:oh),st.aX[r]? = some gs∧gs[k]? = some g∧g.iM=fs
theorem F7.start (n:Nat):F7 ⟨List.replicate n [],[]⟩ where
 at_:=fun r gs k g h1 h2=>by
  have:=List.mem_of_getElem? h1;simp at this;rw[this.2] at h2;simp at h2
 of:=fun r fs k _ h=>by cases h
def Has (st:Qq) (r:Nat) (fs:List eu) (id:Nat):Prop:=∃(gs:List oh) (k:Nat) (g:oh),st.aX[r]? = some gs∧gs[k]? = some g∧g.iM=fs∧id∈g.ids
theorem OA (l:List Nat) (t:Nat):t∈iU l t∧∀x∈l,x∈iU l t:=by
 unfold iU;split
 ·rename_i h;exact⟨h,fun _ h=>h⟩
 ·unfold putAt;refine⟨by simp,fun x hx=> ?_⟩;rw[←List.take_append_drop (rX l t) l] at hx;rcases List.mem_append.1 hx with h | h
  ·exact List.mem_append.2 (.inl h)
  ·exact List.mem_append.2 (.inr (List.mem_cons_of_mem _ h))
theorem alx (l:List Nat) (t:Nat):iU l t≠[]:=fun h=>by have:=(OA l t).1;rw[h] at this;cases this
section
variable {aX:List (List oh)} {place:List (List UInt8×Nat)}
theorem F7.bump (h:F7 ⟨aX,place⟩) {r k id:Nat} {gs:List oh} {g:oh} (hr:aX[r]? = some gs) (hk:gs[k]? = some g) :
 F7 ⟨pX aX r k id,place⟩∧Has ⟨pX aX r k id,place⟩ r g.iM id∧∀r' fs id',Has ⟨aX,place⟩ r' fs id'→Has ⟨pX aX r k id,place⟩ r' fs id':=by
 have hat:=XU (id:=id) hr hk;have aj1:=(FX (aX:=aX) (r:=r) (k:=k) (id:=id)).2;have AO:k<gs.length:=(List.getElem?_eq_some_iff.1 hk).1;have fwd:∀(s i:Nat) xs x,aX[s]? = some xs→xs[i]? = some x→∃ys y,(pX aX r k id)[s]? = some ys∧ys[i]? = some y∧y.iM=x.iM∧∀z∈x.ids,z∈y.ids:=fun s i xs x h1 h2=>by
  by_cases hs:s = r
  ·subst hs;rw[hr] at h1;injection h1 with h1;subst h1
   refine⟨_,if k=i then {g with ids:=iU g.ids id} else x,hat,?_,?_⟩
   ·by_cases j_:k=i
    ·subst j_;rw[List.getElem?_set_self AO];simp
    ·rw[List.getElem?_set_ne j_,if_neg j_];exact h2
   ·by_cases j_:k=i
    ·subst j_;rw[hk] at h2;injection h2 with h2;subst h2
     simp only[if_pos];exact⟨trivial,(OA g.ids id).2⟩
    ·rw[if_neg j_];exact⟨rfl,fun z hz=>hz⟩
  ·exact⟨xs,x,by rw[aj1 s hs];exact h1,h2,rfl,fun z hz=>hz⟩
 refine⟨⟨fun s ys i y h1 h2=> ?_,fun s fs i hf hl=> ?_⟩,⟨_,k,_,hat,List.getElem?_set_self AO,rfl,(OA g.ids id).1⟩,fun s fs id' ⟨xs,i,x,h1,h2,h3,h4⟩=> ?_⟩
 ·simp only at h1 ⊢;by_cases hs:s = r
  ·subst hs;rw[hat] at h1;injection h1 with h1;subst h1
   by_cases j_:k=i
   ·subst j_;rw[List.getElem?_set_self AO] at h2;injection h2 with h2;subst h2
    obtain⟨a1,a2,a3,a4⟩:=h.at_ s gs k g hr hk;exact⟨a1,a2,alx _ _,a4.add⟩
   ·rw[List.getElem?_set_ne j_] at h2;exact h.at_ s gs i y hr h2
  ·rw[aj1 s hs] at h1;exact h.at_ s ys i y h1 h2
 ·obtain⟨xs,x,h1,h2,h3⟩:=h.of s fs i hf hl;obtain⟨ys,y,h4,h5,h6,_⟩:=fwd s i xs x h1 h2;exact⟨ys,y,h4,h5,h6.trans h3⟩
 ·obtain⟨ys,y,h5,h6,h7,h8⟩:=fwd s i xs x h1 h2;exact⟨ys,i,y,h5,h6,h7.trans h3,h8 _ h4⟩
theorem F7.push (h:F7 ⟨aX,place⟩) {r id key:Nat} {gs:List oh} {fs:List eu} (hr:aX[r]? = some gs) (hf:Lr fs) (hl:oO place (eU r fs)=none) :
 F7 ⟨aX.set r (gs++[⟨r,fs,key,[id]⟩]),place++[(eU r fs,gs.length)]⟩∧Has ⟨aX.set r (gs++[⟨r,fs,key,[id]⟩]),place++[(eU r fs,gs.length)]⟩ r fs id∧
  ∀r' QE id',Has ⟨aX,place⟩ r' QE id'→Has ⟨aX.set r (gs++[⟨r,fs,key,[id]⟩]),place++[(eU r fs,gs.length)]⟩ r' QE id':=by
 have jU:r < aX.length:=(List.getElem?_eq_some_iff.1 hr).1;have hat:(aX.set r (gs++[⟨r,fs,key,[id]⟩]))[r]? = some (gs++[⟨r,fs,key,[id]⟩]):=List.getElem?_set_self jU;have akc:(gs++[(⟨r,fs,key,[id]⟩:oh)])[gs.length]? = some ⟨r,fs,key,[id]⟩:=by simp
 have fwd:∀(s i:Nat) xs x,aX[s]? = some xs→xs[i]? = some x→∃ys,(aX.set r (gs++[⟨r,fs,key,[id]⟩]))[s]? = some ys∧ys[i]? = some x:=fun s i xs x h1 h2=>by
  by_cases hs:r = s
  ·subst hs;rw[hr] at h1;injection h1 with h1;subst h1
   exact⟨_,hat,by rw[List.getElem?_append_left (List.getElem?_eq_some_iff.1 h2).1];exact h2⟩
  ·exact⟨xs,by rw[List.getElem?_set_ne hs];exact h1,h2⟩
 have old:∀(s:Nat) xs (i:Nat) x,aX[s]? = some xs→xs[i]? = some x→oO (place++[(eU r fs,gs.length)]) (eU s x.iM)=some i∧Lr x.iM∧x.ids≠[]∧xC x.ids:=fun s xs i x h1 h2=>by
  obtain⟨a1,a2⟩:=h.at_ s xs i x h1 h2;refine⟨?_,a2⟩;rw[GH,if_neg]
  ·exact a1
  ·intro e;rw[←e] at a1;simp only at a1;rw[hl] at a1;cases a1
 refine⟨⟨fun s ys i y h1 h2=> ?_,fun s QE i hf' hl'=> ?_⟩,⟨_,gs.length,_,hat,akc,rfl,List.mem_singleton.2 rfl⟩,fun s QE id' ⟨xs,i,x,h1,h2,h3,h4⟩=> ?_⟩
 ·simp only at h1 ⊢;by_cases hs:r = s
  ·subst hs;rw[hat] at h1;injection h1 with h1;subst h1
   rcases Nat.lt_or_ge i gs.length with hi | hi
   ·rw[List.getElem?_append_left hi] at h2;exact old r gs i y hr h2
   ·have hi2:i = gs.length:=by have:=(List.getElem?_eq_some_iff.1 h2).1;simp at this;omega
    subst hi2;rw[akc] at h2;injection h2 with h2;subst h2
    refine⟨by rw[GH,if_pos rfl],hf,by simp,List.pairwise_singleton _ _⟩
  ·rw[List.getElem?_set_ne hs] at h1;exact old s ys i y h1 h2
 ·simp only at hl' ⊢;rw[GH] at hl';split at hl'
  ·rename_i he;injection hl' with hl';subst hl'
   obtain⟨rfl,rfl⟩:=aa2 hf hf' he;exact⟨_,_,hat,akc,rfl⟩
  ·obtain⟨xs,x,h1,h2,h3⟩:=h.of s QE i hf' hl';obtain⟨ys,h4,h5⟩:=fwd s i xs x h1 h2;exact⟨ys,x,h4,h5,h3⟩
 ·obtain⟨ys,h5,h6⟩:=fwd s i xs x h1 h2;exact⟨ys,i,x,h5,h6,h3,h4⟩
end
theorem Xa {fs:List eu} (h:Lr fs) (n:List (List UInt8)):Lr (dV fs n):=fun f hf=>h f (List.mem_filter.1 hf).1
theorem F7.step {st:Qq} (h:F7 st) (rec:List UInt8) (id:Nat) {fs:List eu} (hf:Lr fs) (names:Nat→List (List UInt8)) (r:Nat) :
 F7 (stepG rec id fs names st r)∧(r < st.aX.length→Has (stepG rec id fs names st r) r (dV fs (names r)) id)∧∀r' QE id',Has st r' QE id'→Has (stepG rec id fs names st r) r' QE id':=by
 obtain⟨aX,place⟩:=st;unfold stepG;simp only;cases hl:oO place (eU r (dV fs (names r))) with
 | some k=>
  simp only;obtain⟨gs,g,h1,h2,h3⟩:=h.of r _ k (Xa hf _) hl;simp only at h1;obtain⟨p1,p2,p3⟩:=h.bump (id:=id) h1 h2;rw[h3] at p2;exact⟨p1,fun _=>p2,p3⟩
 | none=>
  cases hr:aX[r]? with
  | none=>
   refine⟨h,fun hlt=> ?_,fun _ _ _ h=>h⟩;rw[List.getElem?_eq_none_iff] at hr;omega
  | some gs=>
   simp only;have jU:r < aX.length:=(List.getElem?_eq_some_iff.1 hr).1;have e:pX (aX.set r (gs++[⟨r,dV fs (names r),yK rec r (dV fs (names r)),[]⟩])) r gs.length id=aX.set r (gs++[⟨r,dV fs (names r),yK rec r (dV fs (names r)),[id]⟩]):=by
    rw[sJ (List.getElem?_set_self jU) List.getElem?_concat_length];simp[WB,List.set_set]
   rw[e];obtain⟨p1,p2,p3⟩:=h.push (id:=id) (key:=yK rec r (dV fs (names r))) hr (Xa hf _) hl;exact⟨p1,fun _=>p2,p3⟩
theorem IE {rec:List UInt8} {id:Nat} {fs:List eu} {names:Nat→List (List UInt8)} {st:Qq} {r:Nat}:(stepG rec id fs names st r).aX.length=st.aX.length:=by
 cases hr:st.aX[r]? with
 | none=>rw[aft hr]
 | some gs=>exact (afs hr).1
theorem F7.fold (rec:List UInt8) (id:Nat) {fs:List eu} (hf:Lr fs) (names:Nat→List (List UInt8)):∀(F:List Nat) {st:Qq},F7 st→(∀r∈F,r < st.aX.length)→
 F7 (F.foldl (stepG rec id fs names) st)∧(F.foldl (stepG rec id fs names) st).aX.length=st.aX.length∧(∀r∈F,Has (F.foldl (stepG rec id fs names) st) r (dV fs (names r)) id)∧∀r' QE id',Has st r' QE id'→Has (F.foldl (stepG rec id fs names) st) r' QE id'
 | [],st,h,_=>⟨h,rfl,fun _ h=>(by cases h),fun _ _ _ h=>h⟩
 | r ::F,st,h,hF=>by
  obtain⟨p1,p2,p3⟩:=h.step rec id hf names r;have hlen:=IE (rec:=rec) (id:=id) (fs:=fs) (names:=names) (st:=st) (r:=r);obtain⟨q1,q2,q3,q4⟩:=F7.fold rec id hf names F p1 (fun s hs=>by rw[hlen];exact hF s (List.mem_cons_of_mem _ hs));rw[List.foldl_cons];refine⟨q1,by rw[q2,hlen],fun s hs=> ?_,fun r' QE id' h'=>q4 r' QE id' (p3 r' QE id' h')⟩;rcases List.mem_cons.1 hs with rfl | hs
  ·exact q4 _ _ _ (p2 (hF _ List.mem_cons_self))
  ·exact q3 s hs
theorem aee {p:HY} {rec:List UInt8} {a c:Jj} {now:Int} (h:jH p rec a now=some c):Lr c.fs:=by
 unfold jH at h;split at h
 ·cases h
 ·split at h
  ·rename_i hb;simp only[Bool.and_eq_true] at hb;have hab:=hb.1;unfold rD at hab;simp only[Bool.and_eq_true] at hab;have hfi:=G8 hab.1.1.1.2;unfold G9 at h;split at h
   ·cases h
   ·injection h with h;subst h
    intro f hf;exact acQ (hfi.2 f (List.mem_filter.1 hf).1).1
  ·cases h
theorem ak0 {ft:List eu→jq→Bool} {p:HY} {rec:List UInt8} {fs:List eu} {r:Nat} (h:r∈qR ft p rec fs):r < p.routes.length:=by
 unfold qR nR at h;exact List.mem_range.1 (List.mem_filter.1 h).1
end Go.Proofs.YteojanlajhebhaaGreatDoor
namespace Go.Proofs.YteojanlajhebhaaGreatDoor
def Fq (l:List Nat) (id:Nat):Nat→Nat
 | 0=>0
 | k+1=>if id<l.getD k 0 then Fq l id k else k+1
def wV (l:List Nat) (id:Nat):List Nat:=
 if 0<Fq l id l.length∧l.getD (Fq l id l.length-1) 0=id then l else l.take (Fq l id l.length)++[id]++l.drop (Fq l id l.length)
theorem Jr (l:List Nat) (id:Nat):∀k,k≤l.length→Fq l id k≤k∧(∀j,Fq l id k≤j→j < k→id<l.getD j 0)∧(0<Fq l id k→l.getD (Fq l id k-1) 0≤id)
 | 0,_=>⟨Nat.le_refl _,fun j _ h=>ω,fun h=>by simp[Fq] at h⟩
 | k+1,hk=>by
  obtain⟨h1,h2,h3⟩:=Jr l id k ω;unfold Fq;split
  ·rename_i hlt;refine⟨ω,fun j hj hjk=> ?_,h3⟩;rcases Nat.lt_or_ge j k with hj2 | hj2
   ·exact h2 j hj hj2
   ·obtain rfl:j = k:=ω;exact hlt
  ·rename_i N9;exact⟨Nat.le_refl _,fun j hj hjk=>ω,fun _=>by simpa using Nat.le_of_not_lt N9⟩
theorem acC {l:List Nat} {t k:Nat} (hk:k≤l.length) (h1:∀j,j < k→l.getD j 0<t) (h2:k<l.length→t≤l.getD k 0):rX l t = k:=by
 induction l generalizing k with
 | nil=>simp at hk;subst hk;rfl
 | cons a r ih=>
  unfold rX;cases k with
  | zero=>
   have:=h2 σ;simp at this;rw[List.takeWhile_cons_of_neg (by simpa using this)];rfl
  | succ k=>
   have h0:=h1 0 ω;simp at h0;rw[List.takeWhile_cons_of_pos (by simpa using h0),List.length_cons];have:=ih (k:=k) (by simpa using hk) (fun j hj=>by simpa using h1 (j + 1) ω) (fun h=>by simpa using h2 (by simpa using h));unfold rX at this;omega
theorem Zk {l:List Nat} (h:xC l) (id:Nat):wV l id=iU l id:=by
 obtain⟨h1,h2,h3⟩:=Jr l id l.length (Nat.le_refl _);unfold wV iU;generalize Fq l id l.length=k at *
 have gd:∀j,j < l.length→l[j]? = some (l.getD j 0):=fun j hj=>by rw[List.getD_eq_getElem?_getD,List.getElem?_eq_getElem hj];rfl
 by_cases hc:0<k∧l.getD (k-1) 0=id
 ·rw[if_pos hc,if_pos];rw[←hc.2];exact List.mem_of_getElem? (gd (k-1) ω)
 ·rw[if_neg hc];have asD:∀j,j < k→l.getD j 0<id:=fun j hj=>by
   have h4:=h3 ω;rcases Nat.eq_or_lt_of_le (show j≤k-1 by omega) with e | e
   ·have:l.getD (k-1) 0≠id:=fun e=>hc ⟨ω,e⟩
    rw[e];omega
   ·have:=h.lt e (gd j ω) (gd (k-1) ω);omega
  rw[if_neg]
  ·rw[acC h1 asD (fun hk=>Nat.le_of_lt (h2 k (Nat.le_refl _) hk))];unfold putAt;simp
  ·intro hm;obtain⟨j,hj,e⟩:=List.getElem_of_mem hm;have e2:l.getD j 0=id:=by rw[List.getD_eq_getElem?_getD,List.getElem?_eq_getElem hj];exact e
   rcases Nat.lt_or_ge j k with hjk | hjk
   ·have:=asD j hjk;omega
   ·have:=h2 j hjk hj;omega
def rZ (gs:List oh) (fs:List eu):Nat→Option Nat
 | 0=>none
 | n + 1=>if (gs[n]?).map (·.iM)=some fs then some n else rZ gs fs n
theorem Az {gs:List oh} {fs:List eu}:∀{n k:Nat},rZ gs fs n = some k→k<n∧(gs[k]?).map (·.iM)=some fs
 | 0,k,h=>by cases h
 | n + 1,k,h=>by
  unfold rZ at h;split at h
  ·rename_i he;injection h with h;subst h;exact⟨ω,he⟩
  ·obtain⟨h1,h2⟩:=Az h;exact⟨ω,h2⟩
theorem R_ {gs:List oh} {fs:List eu}:∀{n:Nat},rZ gs fs n = none→∀k,k<n→(gs[k]?).map (·.iM)≠some fs
 | 0,_,k,hk=>ω
 | n + 1,h,k,hk=>by
  unfold rZ at h;split at h
  ·cases h
  ·rename_i he;rcases Nat.lt_or_ge k n with Np | Np
   ·exact R_ h k Np
   ·obtain rfl:k=n:=ω;exact he
def Nc (rec:List UInt8) (r:Nat) (fs:List eu) (id:Nat) (gs:List oh):List oh:=match rZ gs fs gs.length with
 | some k=>(match gs[k]? with
  | some g=>gs.set k {g with ids:=wV g.ids id}
  | none=>gs)
 | none=>gs++[⟨r,fs,yK rec r fs,wV [] id⟩]
def Aj (ft:List eu→jq→Bool) (p:HY) (rec:List UInt8) (now:Int) (r:Nat) (gs:List oh) (a:Jj):List oh:=match jH p rec a now with
 | none=>gs
 | some c=>if r∈qR ft p rec c.fs then Nc rec r (dV c.fs (bU p r)) (FH c) gs else gs
def aeh (ft:List eu→jq→Bool) (p:HY) (rec:List UInt8) (l:List Jj) (now:Int) (r:Nat):List oh:=l.foldl (Aj ft p rec now r) []
def QD (fb:jq→Bool) (ft:List eu→jq→Bool) (p:HY) (rec:List UInt8) (l:List Jj) (now:Int):List oh:=if jJ fb p = 0 then (List.range p.routes.length).flatMap (aeh ft p rec l now) else []
theorem afr {st:Qq} (h:F7 st) (rec:List UInt8) (id:Nat) {fs:List eu} (hf:Lr fs) (names:Nat→List (List UInt8)) {r:Nat} {gs:List oh} (hr:st.aX[r]? = some gs) :
 (stepG rec id fs names st r).aX=st.aX.set r (Nc rec r (dV fs (names r)) id gs):=by
 obtain⟨aX,place⟩:=st;have jU:r < aX.length:=(List.getElem?_eq_some_iff.1 hr).1;unfold stepG;simp only at hr ⊢;cases hl:oO place (eU r (dV fs (names r))) with
 | some k=>
  obtain⟨gs',g,h1,h2,h3⟩:=h.of r _ k (Xa hf _) hl;simp only at h1;rw[hr] at h1;injection h1 with h1;subst h1
  have hk:=(List.getElem?_eq_some_iff.1 h2).1;have Ik:rZ gs (dV fs (names r)) gs.length=some k:=by
   cases hq:rZ gs (dV fs (names r)) gs.length with
   | none=>exact absurd (by rw[h2,Option.map_some,h3]) (R_ hq k hk)
   | some q=>
    obtain⟨_,q2⟩:=Az hq;obtain⟨g',q3,q4⟩:=Option.map_eq_some_iff.1 q2;have:=(h.at_ r gs q g' hr q3).1;rw[q4] at this;simp only at this;rw[hl] at this;exact this.symm
  simp only;rw[sJ hr h2];unfold Nc;rw[Ik];simp only[h2];rw[Zk (h.at_ r gs k g hr h2).2.2.2]
 | none=>
  have Ik:rZ gs (dV fs (names r)) gs.length=none:=by
   cases hq:rZ gs (dV fs (names r)) gs.length with
   | none=>rfl
   | some q=>
    obtain⟨_,q2⟩:=Az hq;obtain⟨g',q3,q4⟩:=Option.map_eq_some_iff.1 q2;have:=(h.at_ r gs q g' hr q3).1;rw[q4] at this;simp only at this;rw[hl] at this;cases this
  simp only[hr];rw[sJ (List.getElem?_set_self jU) List.getElem?_concat_length];unfold Nc;rw[Ik,Zk List.Pairwise.nil];simp[List.set_set]
theorem Oo (rec:List UInt8) (id:Nat) {fs:List eu} (hf:Lr fs) (names:Nat→List (List UInt8)):∀(F:List Nat) {st:Qq},F7 st→F.Nodup→(∀r∈F,r < st.aX.length)→∀(r:Nat) (gs:List oh),st.aX[r]? = some gs→
 (F.foldl (stepG rec id fs names) st).aX[r]? = some (if r∈F then Nc rec r (dV fs (names r)) id gs else gs)
 | [],st,_,_,_,r,gs,hr=>by simpa using hr
 | q::F,st,h,hn,hF,r,gs,hr=>by
  rw[List.foldl_cons];obtain⟨p1,_,_⟩:=h.step rec id hf names q;have hlen:=IE (rec:=rec) (id:=id) (fs:=fs) (names:=names) (st:=st) (r:=q);obtain⟨gq,hq⟩:∃gq,st.aX[q]? = some gq:=⟨_,List.getElem?_eq_getElem (hF q List.mem_cons_self)⟩;have hs:=afr h rec id hf names hq;have hn':=List.nodup_cons.1 hn;have hF':∀s∈F,s < (stepG rec id fs names st q).aX.length:=fun s hs=>by rw[hlen];exact hF s (List.mem_cons_of_mem _ hs)
  by_cases e:q=r
  ·subst e;rw[hr] at hq;injection hq with hq;subst hq
   have h2:(stepG rec id fs names st q).aX[q]? = some (Nc rec q (dV fs (names q)) id gs):=by
    rw[hs];exact List.getElem?_set_self (List.getElem?_eq_some_iff.1 hr).1
   rw[Oo rec id hf names F p1 hn'.2 hF' q _ h2,if_neg hn'.1,if_pos List.mem_cons_self]
  ·have h2:(stepG rec id fs names st q).aX[r]? = some gs:=by
    rw[hs,List.getElem?_set_ne e];exact hr
   rw[Oo rec id hf names F p1 hn'.2 hF' r _ h2];have:(r∈q::F)↔r∈F:=by simp[Ne.symm e]
   simp only[this]
theorem Nb {ft:List eu→jq→Bool} {p:HY} {rec:List UInt8} {now:Int}:∀(l:List Jj) {st:Qq},F7 st→st.aX.length=p.routes.length→∀(r:Nat) (gs:List oh),st.aX[r]? = some gs→
 (l.foldl (oH ft p rec now) st).aX[r]? = some (l.foldl (Aj ft p rec now r) gs)∧(l.foldl (oH ft p rec now) st).aX.length=p.routes.length
 | [],st,_,hl,r,gs,hr=>⟨hr,hl⟩
 | a ::l,st,h,hl,r,gs,hr=>by
  rw[List.foldl_cons,List.foldl_cons];cases hs:jH p rec a now with
  | none=>
   have e:oH ft p rec now st a = st:=by unfold oH;rw[hs]
   have e2:Aj ft p rec now r gs a = gs:=by unfold Aj;rw[hs]
   rw[e,e2];exact Nb l h hl r gs hr
  | some c=>
   have e:oH ft p rec now st a = (qR ft p rec c.fs).foldl (stepG rec (FH c) c.fs (bU p)) st:=by unfold oH;rw[hs]
   have e2:Aj ft p rec now r gs a = if r∈qR ft p rec c.fs then Nc rec r (dV c.fs (bU p r)) (FH c) gs else gs:=by unfold Aj;rw[hs]
   have hlt:∀q∈qR ft p rec c.fs,q<st.aX.length:=fun q hq=>by rw[hl];exact ak0 hq
   have hnd:(qR ft p rec c.fs).Nodup:=by
    unfold qR nR;exact List.Pairwise.filter _ List.nodup_range
   obtain⟨p1,p2,_⟩:=h.fold rec (FH c) (aee hs) (bU p) (qR ft p rec c.fs) hlt;rw[e,e2];exact Nb l p1 (p2.trans hl) r _ (Oo rec (FH c) (aee hs) (bU p) _ h hnd hlt r gs hr)
theorem aad (fb:jq→Bool) (ft:List eu→jq→Bool) (p:HY) (rec:List UInt8) (l:List Jj) (now:Int):QD fb ft p rec l now=Du fb ft p rec l now:=by
 unfold QD Du;split
 ·have h0:∀r,r < p.routes.length→(uI ft p rec l now).aX[r]? = some (aeh ft p rec l now r):=fun r hr=>by
   have:=Nb (ft:=ft) (p:=p) (rec:=rec) (now:=now) l (F7.start p.routes.length) σ r [] (by simp[hr]);exact this.1
  have e:(uI ft p rec l now).aX=(List.range p.routes.length).map (aeh ft p rec l now):=by
   apply List.ext_getElem?;intro r;rcases Nat.lt_or_ge r p.routes.length with hr | hr
   ·rw[h0 r hr,List.getElem?_map,List.getElem?_range hr];rfl
   ·have hlen:(uI ft p rec l now).aX.length=p.routes.length:=by
     rcases Nat.eq_zero_or_pos p.routes.length with h | h
     ·unfold uI;have:∀(l:List Jj) (st:Qq),(l.foldl (oH ft p rec now) st).aX.length=st.aX.length:=by
       intro l;induction l with
       | nil=>intro st;rfl
       | cons a l ih=>
        intro st;rw[List.foldl_cons,ih];unfold oH;split
        ·rfl
        ·rename_i c _;have:∀(F:List Nat) (st:Qq),(F.foldl (stepG rec (FH c) c.fs (bU p)) st).aX.length=st.aX.length:=by
          intro F;induction F with
          | nil=>intro st;rfl
          | cons q F ih=>intro st;rw[List.foldl_cons,ih,IE]
         exact this _ _
      rw[this];simp
     ·exact (Nb (ft:=ft) (p:=p) (rec:=rec) (now:=now) l (F7.start p.routes.length) σ 0 [] (by simp[h])).2
    rw[List.getElem?_eq_none ω,List.getElem?_map,List.getElem?_eq_none (by simpa using hr)];rfl
  rw[e,List.flatMap_def]
 ·rfl
end Go.Proofs.YteojanlajhebhaaGreatDoor
namespace Go.Proofs.YteojanlajhebhaaGreatDoor
open Go.RowKit
theorem WX (A B:Option Addr) (m c m' c':Nat) (xs ys:List Nat) (w:World) (h:dH w 1 lU A m xs) (h':dH w 1 lU B m' ys) (hm:m≤maxLen) (hm':m'≤maxLen) :
 Calls Tryz.prog 37 #[.slice A m c,.slice B m' c'] w fun e w'=>e =.returned (.bool (decide (xs=ys)))∧ah w w':=by
 unfold maxLen at hm hm';have hl:=h.1;have hl':=h'.1;by_cases U6:m = m'
 ·subst U6;have hb:((m:Int) != (m:Int))=false:=by simp
  replace hl:=ζ hl;replace hl':=ζ hl';replace h:=ζ h;replace h':=ζ h';go_enter Tryz.func37,Tryz.ntmps37
  go_wp2;go_loopw [5] (fun i wr=>∃k:Nat,k≤m∧i =.int .i64 k∧Hid (xs.take k=ys.take k)∧ah w wr) (fun i _=>m - (intOf i).toNat)
  case atStart=>exact⟨0,ω,rfl,by simp[Hid],ah.refl _⟩
  case round=>
   obtain⟨k,hk,rfl,qQ,hg⟩:=hrel;by_cases nV:k<m
   ·obtain⟨b1,o1,x,rfl,_,hx,hc1⟩:=((h.o).keep hg).at_ nV;obtain⟨b2,o2,y,rfl,_,hy,hc2⟩:=((h'.o).keep hg).at_ nV;have c1:wr.cell? ⟨b1,o1+k,none⟩=some (.int .u64 x):=by simpa using hc1 0 _ rfl
    have c2:wr.cell? ⟨b2,o2+k,none⟩=some (.int .u64 y):=by simpa using hc2 0 _ rfl
    by_cases Qy:x = y
    ·subst Qy;have hs:xs.take (k+1)=ys.take (k+1):=by rw[List.take_add_one,List.take_add_one,hx,hy,qQ.o]
     replace hs:=ζ hs;clear hx hy hc1 hc2 qQ;go_wp2;go_quiet (fail)
     go_wp2;go_roundw
     case rel=>exact⟨k+1,ω,ν,hs.o,hg.drewN _⟩
     case measure=>exact ψ
    ·have ER:((x:Int) != (y:Int))=true:=by rw[bne_iff_ne];omega
     have aQ:decide (xs=ys)=false:=by
      rw[decide_eq_false_iff_not];rintro rfl;rw[hx] at hy;injection hy with hy;exact Qy hy
     replace aQ:=ζ aQ;clear hx hy hc1 hc2 qQ Qy;go_wp2;go_quiet (fail)
     go_wp2;go_ret;exact⟨aU aQ.o.symm,hg.drewN _⟩
   ·obtain rfl:k=m:=ω;have aQ:decide (xs=ys)=true:=by
     have:=qQ.o;rw[List.take_of_length_le (Nat.le_of_eq hl.o),List.take_of_length_le (Nat.le_of_eq hl'.o)] at this;rw[decide_eq_true_eq];exact this
    replace aQ:=ζ aQ;clear qQ;go_wp2;go_ret;exact⟨aU aQ.o.symm,hg⟩
 ·have hb:((m:Int) != (m':Int))=true:=by rw[bne_iff_ne];omega
  have aQ:decide (xs=ys)=false:=by
   rw[decide_eq_false_iff_not];rintro rfl;exact U6 (hl.symm.trans hl')
  replace aQ:=ζ aQ;clear hl hl' h h' U6;go_enter Tryz.func37,Tryz.ntmps37
  go_wp2;go_ret;exact⟨aU aQ.o.symm,ah.refl _⟩
theorem Y7 {A:Option Addr} {m c x:Nat} {l:List Nat} (w:World) (h:dH w 1 encI A m l) (hm:m≤9223372036854775807) :
 Calls Tryz.prog 31 #[.slice A m c,.int .i64 (x:Int)] w fun e w'=>e =.returned (.bool (decide (x∈l)))∧ah w w':=by
 have qA:=ζ h.1;obtain⟨R,hR⟩:∃R,R=decide (x∈l):=⟨_,rfl⟩;rw[←hR];replace hR:=ζ hR;replace h:=ζ h;go_enter Tryz.func31,Tryz.ntmps31
 go_wp2;go_loopw [5] (fun iv wr=>∃k:Nat,k≤m∧iv=.int .i64 (k:Int)∧Hid (¬x∈l.take k)∧Hid (ah w wr)) (fun iv _=>m - (intOf iv).toNat)
 case atStart=>exact⟨0,ω,rfl,ζ σ,ζ (ah.refl w)⟩
 case round=>
  obtain⟨k,hk,rfl,hno,hG⟩:=hrel;by_cases nV:k<m
  ·obtain⟨b,off,y,rfl,hbb,hy,hcell⟩:=(h.o.keep hG.o).at_ nV;have c0:wr.cell? ⟨b,off+k,none⟩=some (.int .i64 (y:Int)):=by simpa using hcell 0 _ rfl
   have j_:(k:Int)<(m:Int):=ω;by_cases Qy:y = x
   ·have V3:((y:Int)==(x:Int))=true:=by rw[Qy];simp
    have iW:R=true:=by rw[hR.o,decide_eq_true_eq,←Qy];exact List.mem_of_getElem? hy
    subst iW;clear hR hno hcell hy Qy;go_wp2;go_ret;exact⟨rfl,hG.o⟩
   ·have V3:((y:Int)==(x:Int))=false:=by rw[beq_eq_false_iff_ne];omega
    have vS:Hid (¬x∈l.take (k+1)):=ζ (by
     rw[List.take_add_one,hy];simp only[Option.toList,List.mem_append,List.mem_singleton,not_or];exact⟨hno.o,fun e=>Qy e.symm⟩)
    clear hno hcell hy Qy;go_wp2;go_roundw
    case rel=>exact⟨k+1,ω,ν,vS,hG⟩
    case measure=>exact ψ
  ·have j_:¬(k:Int)<(m:Int):=ω;have vS:=hno.o;rw[List.take_of_length_le (by rw[qA.o];omega)] at vS;have iW:R=false:=by rw[hR.o];exact decide_eq_false vS
   subst iW;clear hR hno vS;go_wp2;go_ret;exact⟨rfl,hG.o⟩
def aaE (w:World) (b:Nat) (t:TypeId):Prop:=∃cur,w.heap[b]? = some (.cells cur t (0,0))
theorem aaE.grows {w w':World} {b:Nat} {t:TypeId} (h:aaE w b t) (hg:ah w w'):aaE w' b t:=by
 obtain⟨cur,h⟩:=h;exact⟨cur,aS.grows h hg⟩
def ug (w:World) (v:Value) (l:List Nat):Prop:=(l = []∧v =.slice none 0 0)∨∃b off c,v =.slice (some ⟨b,off,none⟩) l.length c∧l.length≤c∧c≤maxLen∧0<l.length∧dH w 1 lU (some ⟨b,off,none⟩) l.length l∧aaE w b 50
theorem ug.grows {w w':World} {v:Value} {l:List Nat} (h:ug w v l) (hg:ah w w'):ug w' v l:=by
 rcases h with h | ⟨b,off,c,h1,h2,h3,h4,h5,h6⟩
 ·exact .inl h
 ·exact .inr ⟨b,off,c,h1,h2,h3,h4,h5.keep hg,h6.grows hg⟩
theorem aoK {w:World} {l:List Nat} {b off c m:Nat} (hm:m = l.length) (hc:m≤c) (hcm:c≤maxLen) (h0:0<m) (hA:dH w 1 lU (some ⟨b,off,none⟩) m l) (hr:aaE w b 50):ug w (.slice (some ⟨b,off,none⟩) m c) l:=by
 subst hm;exact .inr ⟨b,off,c,rfl,hc,hcm,h0,hA,hr⟩
theorem ug.sU {w:World} {base:Nat} {v:Value} {l:List Nat} (h:Own w base 50 1 lU v l) (h0:0<l.length):ug w v l:=by
 obtain⟨A,c,hv,hc,hm,hA⟩:=h.arr Qd;obtain⟨b,off,x,e,_⟩:=hA.at_ h0;refine .inr ⟨b,off,c,by rw[hv,e],hc,hm,h0,by rw[←e];exact hA,?_⟩;rcases h.2 with⟨h1,h2⟩ | ⟨g,cap,cur,h1,_,hh,_⟩
 ·omega
 ·rw[hv,e] at h1;simp only[Value.slice.injEq,Option.some.injEq,Addr.mk.injEq] at h1;rw[h1.1.1];exact⟨cur,hh⟩
theorem alr {w:World} {b off m:Nat} {l:List Nat} (h:dH w 1 lU (some ⟨b,off,none⟩) m l) {k:Nat} (hk:k≤m):dH w 1 lU (some ⟨b,off+k,none⟩) (m - k) (l.drop k):=by
 refine⟨by rw[List.length_drop,h.1],fun h0=> ?_⟩;obtain⟨b',acJ,e,hb,hc⟩:=h.2 ω;injection e with e
 injection e with e1 e2 _
 subst e1 e2;refine⟨b,off+k,rfl,hb,fun i hi j u hu=> ?_⟩;rw[List.length_drop] at hi;have:=hc (k+i) ω j u (by simpa[List.getElem_drop] using hu);have e:off+k+i * 1+j = off+(k+i)*1+j:=ω;rw[e];exact this
theorem LZ {v:Value} {l:List Nat} {id:Nat} (w:World) (h:ug w v l) (hl:l.length≤1000) :
 Calls Tryz.prog 35 #[v,.int .u64 (id:Int)] w fun e w'=>∃v',e =.returned v'∧ug w' v' (wV l id)∧ah w w':=by
 rcases h with⟨rfl,rfl⟩ | ⟨b,off,c,rfl,hc,hcm,h0,hA,hrow⟩
 ·have jF:=ζ (show dH w 1 lU none 0 ([]:List Nat) from dH.iH);have hL2:=jF;have hG:=ζ (ah.refl w);have hpr:Hid (wV [] id=([]++[id])++[]):=ζ rfl;have hsz:Hid ((([]:List Nat)++[id]).length+0≤1001):=ζ σ;have hs1:Hid (([]:List Nat).length+0≤1000):=ζ σ;have hs3:Hid (([]:List Nat).length≤1000):=ζ σ;go_enter Tryz.func35,Tryz.ntmps35
  go_wp2;have CS:∀W,ah w W→dH W 1 lU none 0 ([]:List Nat)∧dH W 1 lU none 0 ([]:List Nat):=fun W _=>⟨dH.iH,dH.iH⟩
  go_loopw [5] (fun iv wr=>iv=.int .i64 0∧Hid (ah w wr)) (fun iv _=>(intOf iv).toNat)
  case atStart=>exact⟨rfl,hG⟩
  case round=>
   clear hG jF hL2;obtain⟨rfl,hG⟩:=hrel;have jF:=ζ (CS _ hG.o).1;have hL2:=ζ (CS _ hG.o).2;replace CS:=ζ CS;have hwr:=ζ hG.o.size;go_wp2;refine aJ κ ?_;refine rK [0,1,2,4,7,8,9] 5 ?_;iterate 7 refine aB ?_
   refine ay ?_;refine aY [3,5] κ σ (fun wN hN hS=>(aK.cons rfl (fun K' hK=> ?_) (aK.cons rfl (fun K' hK=> ?_) aK.nil)))
   ·skip
    try replace jF:=ζ (jF.o.keep hN)
    try replace hL2:=ζ (hL2.o.keep hN)
    try replace hG:=ζ (hG.o.trans hN)
    try replace dR:=ζ (dR.o.grows hN)
    try replace dS:=ζ (dS.o.grows hN)
    try replace gu:=ζ (gu.o.grows hN)
    clear hN;have jY:=hS.size;refine Own.jO CY rfl (.const (.slice none 0 0)) (.tmp 35) rfl (Own.iH wN wr.heap.size 50 1 lU) rfl rfl jF.o Qd Fv jY (by have:=hs1.o;unfold maxLen;omega) (by have:=hs1.o;omega) (fun v3 w3 dS iT hv3=> ?_);have hg3:ah wN w3:=(ah.refl wN).bH iT (fun g e=>by cases e);have jf:=hS;refine hK.o _ _ ?_ (fun hS=> ?_)
    ·exact jf.trans hg3
    replace dS:=ζ dS;replace jF:=ζ (jF.o.keep hg3);replace hL2:=ζ (hL2.o.keep hg3);replace hG:=ζ (hG.o.trans hg3);try replace dR:=ζ (dR.o.grows hg3)
    clear iT hv3 hg3 jY jf;clear hK hS;refine aY [5] κ σ (fun wN hN hS=>(aK.cons rfl (fun K' hK=> ?_) aK.nil));try replace jF:=ζ (jF.o.keep hN)
    try replace hL2:=ζ (hL2.o.keep hN)
    try replace hG:=ζ (hG.o.trans hN)
    try replace dR:=ζ (dR.o.grows hN)
    try replace dS:=ζ (dS.o.grows hN)
    try replace gu:=ζ (gu.o.grows hN)
    clear hN;go_simp;have jf:=hS;refine hK.o _ _ ?_ (fun hS=> ?_)
    ·exact jf.alloc _
    have dR:=ζ (aS.new wN 50 #[.int .u64 (id:Int)]);have dF:ah wN (wN.alloc (.cells #[.int .u64 (id:Int)] 50)):=(ah.refl _).alloc _;replace jF:=ζ (jF.o.keep dF);replace hL2:=ζ (hL2.o.keep dF);replace hG:=ζ (hG.o.trans dF);try replace dS:=ζ (dS.o.grows dF)
    clear dF jf;clear hK hS;refine aY [6] κ σ (fun wN hN hS=>(aK.cons rfl (fun K' hK=> ?_) aK.nil));try replace jF:=ζ (jF.o.keep hN)
    try replace hL2:=ζ (hL2.o.keep hN)
    try replace hG:=ζ (hG.o.trans hN)
    try replace dR:=ζ (dR.o.grows hN)
    try replace dS:=ζ (dS.o.grows hN)
    try replace gu:=ζ (gu.o.grows hN)
    clear hN;have jY:=hS.size;refine Own.grown (x:=id) CY rfl (.tmp 36) (.tmp 38) rfl dS.o rfl ⟨_,0,none⟩ rfl rfl (h_ dR.o) (Fv id) jY (by have:=hs3.o;simp only[List.nil_append];unfold maxLen;omega) (by have:=hs3.o;simp only[List.nil_append];omega) (fun v4 w4 gu fV hv4=> ?_);have AU:=dS.o.kY;have hg4:ah w w4:=hG.o.bH fV (fun g hg=>Nat.le_trans hwr.o (AU g hg).1);have jf:=hS;refine hK.o _ _ ?_ (fun hS=> ?_)
    ·exact jf.bH fV (fun g hg=>(AU g hg).1)
    rw[List.nil_append] at gu;replace gu:=ζ gu;replace jF:=ζ (CS.o _ hg4).1;replace hL2:=ζ (CS.o _ hg4).2;replace hG:=ζ hg4;clear fV hv4 jY jf AU dS dR hg4;clear hK hS;refine aY [10] κ σ (fun wN hN hS=>(aK.cons rfl (fun K' hK=> ?_) aK.nil));try replace jF:=ζ (jF.o.keep hN)
    try replace hL2:=ζ (hL2.o.keep hN)
    try replace hG:=ζ (hG.o.trans hN)
    try replace dR:=ζ (dR.o.grows hN)
    try replace dS:=ζ (dS.o.grows hN)
    try replace gu:=ζ (gu.o.grows hN)
    clear hN;have jY:=hS.size;refine Own.jO CY rfl (.tmp 39) (.tmp 42) rfl gu.o rfl rfl hL2.o Qd Fv jY (by have:=hsz.o;unfold maxLen;omega) (by have:=hsz.o;omega) (fun v5 w5 jk jG SG=> ?_);have AQ:=gu.o.kY;have sQ:ah w w5:=hG.o.bH jG (fun g hg=>Nat.le_trans hwr.o (AQ g hg).1);have jf:=hS;refine hK.o _ _ ?_ (fun hS=> ?_)
    ·exact jf.bH jG (fun g hg=>(AQ g hg).1)
    rw[←hpr.o] at jk;replace jk:=ζ jk;replace hG:=ζ sQ;clear jG SG jY jf AQ gu sQ jF hL2;clear hK hS;refine rK [11] 0 ?_;iterate 1 refine aB ?_
    refine ay ?_;refine aP κ (fun wN hN hS=> ?_);try replace jF:=ζ (jF.o.keep hN)
    try replace hL2:=ζ (hL2.o.keep hN)
    try replace hG:=ζ (hG.o.trans hN)
    try replace dR:=ζ (dR.o.grows hN)
    try replace dS:=ζ (dS.o.grows hN)
    try replace gu:=ζ (gu.o.grows hN)
    replace jk:=ζ (jk.o.grows hN);go_wp2;all_goals go_ret
    all_goals exact⟨_,rfl,ug.sU jk.o (by rw[hpr.o,List.length_append,List.length_append,List.length_singleton];omega),hG.o⟩
   ·skip
    try replace jF:=ζ (jF.o.keep hN)
    try replace hL2:=ζ (hL2.o.keep hN)
    try replace hG:=ζ (hG.o.trans hN)
    try replace dR:=ζ (dR.o.grows hN)
    try replace dS:=ζ (dS.o.grows hN)
    try replace gu:=ζ (gu.o.grows hN)
    clear hN;go_simp;have jf:=hS;refine hK.o _ _ ?_ (fun hS=> ?_)
    ·exact jf.alloc _
    have dR:=ζ (aS.new wN 50 #[.int .u64 (id:Int)]);have dF:ah wN (wN.alloc (.cells #[.int .u64 (id:Int)] 50)):=(ah.refl _).alloc _;replace jF:=ζ (jF.o.keep dF);replace hL2:=ζ (hL2.o.keep dF);replace hG:=ζ (hG.o.trans dF);try replace dS:=ζ (dS.o.grows dF)
    clear dF jf;clear hK hS;refine aY [3] κ σ (fun wN hN hS=>(aK.cons rfl (fun K' hK=> ?_) aK.nil));try replace jF:=ζ (jF.o.keep hN)
    try replace hL2:=ζ (hL2.o.keep hN)
    try replace hG:=ζ (hG.o.trans hN)
    try replace dR:=ζ (dR.o.grows hN)
    try replace dS:=ζ (dS.o.grows hN)
    try replace gu:=ζ (gu.o.grows hN)
    clear hN;have jY:=hS.size;refine Own.jO CY rfl (.const (.slice none 0 0)) (.tmp 35) rfl (Own.iH wN wr.heap.size 50 1 lU) rfl rfl jF.o Qd Fv jY (by have:=hs1.o;unfold maxLen;omega) (by have:=hs1.o;omega) (fun v3 w3 dS iT hv3=> ?_);have hg3:ah wN w3:=(ah.refl wN).bH iT (fun g e=>by cases e);have jf:=hS;refine hK.o _ _ ?_ (fun hS=> ?_)
    ·exact jf.trans hg3
    replace dS:=ζ dS;replace jF:=ζ (jF.o.keep hg3);replace hL2:=ζ (hL2.o.keep hg3);replace hG:=ζ (hG.o.trans hg3);try replace dR:=ζ (dR.o.grows hg3)
    clear iT hv3 hg3 jY jf;clear hK hS;refine aY [6] κ σ (fun wN hN hS=>(aK.cons rfl (fun K' hK=> ?_) aK.nil));try replace jF:=ζ (jF.o.keep hN)
    try replace hL2:=ζ (hL2.o.keep hN)
    try replace hG:=ζ (hG.o.trans hN)
    try replace dR:=ζ (dR.o.grows hN)
    try replace dS:=ζ (dS.o.grows hN)
    try replace gu:=ζ (gu.o.grows hN)
    clear hN;have jY:=hS.size;refine Own.grown (x:=id) CY rfl (.tmp 36) (.tmp 38) rfl dS.o rfl ⟨_,0,none⟩ rfl rfl (h_ dR.o) (Fv id) jY (by have:=hs3.o;simp only[List.nil_append];unfold maxLen;omega) (by have:=hs3.o;simp only[List.nil_append];omega) (fun v4 w4 gu fV hv4=> ?_);have AU:=dS.o.kY;have hg4:ah w w4:=hG.o.bH fV (fun g hg=>Nat.le_trans hwr.o (AU g hg).1);have jf:=hS;refine hK.o _ _ ?_ (fun hS=> ?_)
    ·exact jf.bH fV (fun g hg=>(AU g hg).1)
    rw[List.nil_append] at gu;replace gu:=ζ gu;replace jF:=ζ (CS.o _ hg4).1;replace hL2:=ζ (CS.o _ hg4).2;replace hG:=ζ hg4;clear fV hv4 jY jf AU dS dR hg4;clear hK hS;refine aY [10] κ σ (fun wN hN hS=>(aK.cons rfl (fun K' hK=> ?_) aK.nil));try replace jF:=ζ (jF.o.keep hN)
    try replace hL2:=ζ (hL2.o.keep hN)
    try replace hG:=ζ (hG.o.trans hN)
    try replace dR:=ζ (dR.o.grows hN)
    try replace dS:=ζ (dS.o.grows hN)
    try replace gu:=ζ (gu.o.grows hN)
    clear hN;have jY:=hS.size;refine Own.jO CY rfl (.tmp 39) (.tmp 42) rfl gu.o rfl rfl hL2.o Qd Fv jY (by have:=hsz.o;unfold maxLen;omega) (by have:=hsz.o;omega) (fun v5 w5 jk jG SG=> ?_);have AQ:=gu.o.kY;have sQ:ah w w5:=hG.o.bH jG (fun g hg=>Nat.le_trans hwr.o (AQ g hg).1);have jf:=hS;refine hK.o _ _ ?_ (fun hS=> ?_)
    ·exact jf.bH jG (fun g hg=>(AQ g hg).1)
    rw[←hpr.o] at jk;replace jk:=ζ jk;replace hG:=ζ sQ;clear jG SG jY jf AQ gu sQ jF hL2;clear hK hS;refine rK [11] 0 ?_;iterate 1 refine aB ?_
    refine ay ?_;refine aP κ (fun wN hN hS=> ?_);try replace jF:=ζ (jF.o.keep hN)
    try replace hL2:=ζ (hL2.o.keep hN)
    try replace hG:=ζ (hG.o.trans hN)
    try replace dR:=ζ (dR.o.grows hN)
    try replace dS:=ζ (dS.o.grows hN)
    try replace gu:=ζ (gu.o.grows hN)
    replace jk:=ζ (jk.o.grows hN);go_wp2;all_goals go_ret
    all_goals exact⟨_,rfl,ug.sU jk.o (by rw[hpr.o,List.length_append,List.length_append,List.length_singleton];omega),hG.o⟩
 ·obtain⟨m,hm⟩:∃m,m = l.length:=⟨_,rfl⟩;rw[←hm] at hA hc h0 hl ⊢;have hK0:=Jr l id m ω;have hpu:Hid (wV l id=if 0<Fq l id m∧l.getD (Fq l id m - 1) 0=id then l else l.take (Fq l id m)++[id]++l.drop (Fq l id m)):=ζ (by rw[hm];rfl);obtain⟨K,hK⟩:∃K,K=Fq l id m:=⟨_,rfl⟩;rw[←hK] at hK0 hpu;replace hK:=ζ hK;replace hK0:=ζ hK0.1;have hgd:Hid (∀j,j < m→l[j]? = some (l.getD j 0)):=ζ (fun j hj=>by rw[List.getD_eq_getElem?_getD,List.getElem?_eq_getElem ω];rfl);have hcell:Hid (∀W,ah w W→∀j,j < m→W.cell? ⟨b,off+j,none⟩=some (.int .u64 (l.getD j 0:Int))∧b < W.heap.size):=ζ (fun W hW j hj=>by
   obtain⟨b',o',x,e,hb,hx,hcc⟩:=(hA.keep hW).at_ hj;injection e with e
   injection e with e1 e2 _
   subst e1 e2;have:=hgd.o j hj;rw[hx] at this;injection this with this
   exact⟨by rw[←this];simpa using hcc 0 _ rfl,hb⟩)
  have hAr:=ζ hA;replace hrow:=ζ hrow;replace hm:=ζ hm;clear hA;have Yz:(m:Int)≤(c:Int):=ω;have MI:(c:Int)≤9223372036854775807:=by unfold maxLen at hcm;omega
  go_enter Tryz.func35,Tryz.ntmps35
  go_wp2;go_loopw [5] (fun iv wr=>∃k:Nat,k≤m∧iv=.int .i64 (k:Int)∧Hid (Fq l id k=K)∧Hid (ah w wr)) (fun iv _=>(intOf iv).toNat)
  case atStart=>exact⟨m,Nat.le_refl _,rfl,ζ hK.o.symm,ζ (ah.refl _)⟩
  case round=>
   obtain⟨k,hk,rfl,hp,hG⟩:=hrel;cases k with
   | zero=>
    have hK1:K=0:=hp.o.symm;subst hK1;have hpr:Hid (wV l id=([]++[id])++l):=ζ (by rw[hpu.o,if_neg (by rintro⟨h,_⟩;exact absurd h (Nat.lt_irrefl _))];simp);have CS:Hid (∀W,ah w W→dH W 1 lU (some ⟨b,off,none⟩) 0 ([]:List Nat)∧dH W 1 lU (some ⟨b,off,none⟩) m l):=ζ (fun W hW=>⟨dH.iH,hAr.o.keep hW⟩);have jF:=ζ (CS.o _ hG.o).1;have hL2:=ζ (CS.o _ hG.o).2;have hs1:Hid (([]:List Nat).length+0≤1000):=ζ σ;have hs3:Hid (([]:List Nat).length≤1000):=ζ σ;have hsz:Hid ((([]:List Nat)++[id]).length+m≤1001):=ζ (by first | (simp;done) | (simp;omega));have hwr:=ζ hG.o.size;clear hp hpu hcell hK hK0;go_wp2;refine aJ κ ?_;refine rK [0,1,2,4,7,8,9] 5 ?_;iterate 7 refine aB ?_
    refine ay ?_;refine aY [3,5] κ σ (fun wN hN hS=>(aK.cons rfl (fun K' hK=> ?_) (aK.cons rfl (fun K' hK=> ?_) aK.nil)))
    ·skip
     try replace jF:=ζ (jF.o.keep hN)
     try replace hL2:=ζ (hL2.o.keep hN)
     try replace hG:=ζ (hG.o.trans hN)
     try replace dR:=ζ (dR.o.grows hN)
     try replace dS:=ζ (dS.o.grows hN)
     try replace gu:=ζ (gu.o.grows hN)
     clear hN;have jY:=hS.size;refine Own.jO CY rfl (.const (.slice none 0 0)) (.tmp 35) rfl (Own.iH wN wr.heap.size 50 1 lU) rfl rfl jF.o Qd Fv jY (by have:=hs1.o;unfold maxLen;omega) (by have:=hs1.o;omega) (fun v3 w3 dS iT hv3=> ?_);have hg3:ah wN w3:=(ah.refl wN).bH iT (fun g e=>by cases e);have jf:=hS;refine hK.o _ _ ?_ (fun hS=> ?_)
     ·exact jf.trans hg3
     replace dS:=ζ dS;replace jF:=ζ (jF.o.keep hg3);replace hL2:=ζ (hL2.o.keep hg3);replace hG:=ζ (hG.o.trans hg3);try replace dR:=ζ (dR.o.grows hg3)
     clear iT hv3 hg3 jY jf;clear hK hS;refine aY [5] κ σ (fun wN hN hS=>(aK.cons rfl (fun K' hK=> ?_) aK.nil));try replace jF:=ζ (jF.o.keep hN)
     try replace hL2:=ζ (hL2.o.keep hN)
     try replace hG:=ζ (hG.o.trans hN)
     try replace dR:=ζ (dR.o.grows hN)
     try replace dS:=ζ (dS.o.grows hN)
     try replace gu:=ζ (gu.o.grows hN)
     clear hN;go_simp;have jf:=hS;refine hK.o _ _ ?_ (fun hS=> ?_)
     ·exact jf.alloc _
     have dR:=ζ (aS.new wN 50 #[.int .u64 (id:Int)]);have dF:ah wN (wN.alloc (.cells #[.int .u64 (id:Int)] 50)):=(ah.refl _).alloc _;replace jF:=ζ (jF.o.keep dF);replace hL2:=ζ (hL2.o.keep dF);replace hG:=ζ (hG.o.trans dF);try replace dS:=ζ (dS.o.grows dF)
     clear dF jf;clear hK hS;refine aY [6] κ σ (fun wN hN hS=>(aK.cons rfl (fun K' hK=> ?_) aK.nil));try replace jF:=ζ (jF.o.keep hN)
     try replace hL2:=ζ (hL2.o.keep hN)
     try replace hG:=ζ (hG.o.trans hN)
     try replace dR:=ζ (dR.o.grows hN)
     try replace dS:=ζ (dS.o.grows hN)
     try replace gu:=ζ (gu.o.grows hN)
     clear hN;have jY:=hS.size;refine Own.grown (x:=id) CY rfl (.tmp 36) (.tmp 38) rfl dS.o rfl ⟨_,0,none⟩ rfl rfl (h_ dR.o) (Fv id) jY (by have:=hs3.o;simp only[List.nil_append];unfold maxLen;omega) (by have:=hs3.o;simp only[List.nil_append];omega) (fun v4 w4 gu fV hv4=> ?_);have AU:=dS.o.kY;have hg4:ah w w4:=hG.o.bH fV (fun g hg=>Nat.le_trans hwr.o (AU g hg).1);have jf:=hS;refine hK.o _ _ ?_ (fun hS=> ?_)
     ·exact jf.bH fV (fun g hg=>(AU g hg).1)
     rw[List.nil_append] at gu;replace gu:=ζ gu;replace jF:=ζ (CS.o _ hg4).1;replace hL2:=ζ (CS.o _ hg4).2;replace hG:=ζ hg4;clear fV hv4 jY jf AU dS dR hg4;clear hK hS;refine aY [10] κ σ (fun wN hN hS=>(aK.cons rfl (fun K' hK=> ?_) aK.nil));try replace jF:=ζ (jF.o.keep hN)
     try replace hL2:=ζ (hL2.o.keep hN)
     try replace hG:=ζ (hG.o.trans hN)
     try replace dR:=ζ (dR.o.grows hN)
     try replace dS:=ζ (dS.o.grows hN)
     try replace gu:=ζ (gu.o.grows hN)
     clear hN;have jY:=hS.size;refine Own.jO CY rfl (.tmp 39) (.tmp 42) rfl gu.o rfl rfl hL2.o Qd Fv jY (by have:=hsz.o;unfold maxLen;omega) (by have:=hsz.o;omega) (fun v5 w5 jk jG SG=> ?_);have AQ:=gu.o.kY;have sQ:ah w w5:=hG.o.bH jG (fun g hg=>Nat.le_trans hwr.o (AQ g hg).1);have jf:=hS;refine hK.o _ _ ?_ (fun hS=> ?_)
     ·exact jf.bH jG (fun g hg=>(AQ g hg).1)
     rw[←hpr.o] at jk;replace jk:=ζ jk;replace hG:=ζ sQ;clear jG SG jY jf AQ gu sQ jF hL2;clear hK hS;refine rK [11] 0 ?_;iterate 1 refine aB ?_
     refine ay ?_;refine aP κ (fun wN hN hS=> ?_);try replace jF:=ζ (jF.o.keep hN)
     try replace hL2:=ζ (hL2.o.keep hN)
     try replace hG:=ζ (hG.o.trans hN)
     try replace dR:=ζ (dR.o.grows hN)
     try replace dS:=ζ (dS.o.grows hN)
     try replace gu:=ζ (gu.o.grows hN)
     replace jk:=ζ (jk.o.grows hN);go_wp2;all_goals go_ret
     all_goals exact⟨_,rfl,ug.sU jk.o (by rw[hpr.o,List.length_append,List.length_append,List.length_singleton];omega),hG.o⟩
    ·skip
     try replace jF:=ζ (jF.o.keep hN)
     try replace hL2:=ζ (hL2.o.keep hN)
     try replace hG:=ζ (hG.o.trans hN)
     try replace dR:=ζ (dR.o.grows hN)
     try replace dS:=ζ (dS.o.grows hN)
     try replace gu:=ζ (gu.o.grows hN)
     clear hN;go_simp;have jf:=hS;refine hK.o _ _ ?_ (fun hS=> ?_)
     ·exact jf.alloc _
     have dR:=ζ (aS.new wN 50 #[.int .u64 (id:Int)]);have dF:ah wN (wN.alloc (.cells #[.int .u64 (id:Int)] 50)):=(ah.refl _).alloc _;replace jF:=ζ (jF.o.keep dF);replace hL2:=ζ (hL2.o.keep dF);replace hG:=ζ (hG.o.trans dF);try replace dS:=ζ (dS.o.grows dF)
     clear dF jf;clear hK hS;refine aY [3] κ σ (fun wN hN hS=>(aK.cons rfl (fun K' hK=> ?_) aK.nil));try replace jF:=ζ (jF.o.keep hN)
     try replace hL2:=ζ (hL2.o.keep hN)
     try replace hG:=ζ (hG.o.trans hN)
     try replace dR:=ζ (dR.o.grows hN)
     try replace dS:=ζ (dS.o.grows hN)
     try replace gu:=ζ (gu.o.grows hN)
     clear hN;have jY:=hS.size;refine Own.jO CY rfl (.const (.slice none 0 0)) (.tmp 35) rfl (Own.iH wN wr.heap.size 50 1 lU) rfl rfl jF.o Qd Fv jY (by have:=hs1.o;unfold maxLen;omega) (by have:=hs1.o;omega) (fun v3 w3 dS iT hv3=> ?_);have hg3:ah wN w3:=(ah.refl wN).bH iT (fun g e=>by cases e);have jf:=hS;refine hK.o _ _ ?_ (fun hS=> ?_)
     ·exact jf.trans hg3
     replace dS:=ζ dS;replace jF:=ζ (jF.o.keep hg3);replace hL2:=ζ (hL2.o.keep hg3);replace hG:=ζ (hG.o.trans hg3);try replace dR:=ζ (dR.o.grows hg3)
     clear iT hv3 hg3 jY jf;clear hK hS;refine aY [6] κ σ (fun wN hN hS=>(aK.cons rfl (fun K' hK=> ?_) aK.nil));try replace jF:=ζ (jF.o.keep hN)
     try replace hL2:=ζ (hL2.o.keep hN)
     try replace hG:=ζ (hG.o.trans hN)
     try replace dR:=ζ (dR.o.grows hN)
     try replace dS:=ζ (dS.o.grows hN)
     try replace gu:=ζ (gu.o.grows hN)
     clear hN;have jY:=hS.size;refine Own.grown (x:=id) CY rfl (.tmp 36) (.tmp 38) rfl dS.o rfl ⟨_,0,none⟩ rfl rfl (h_ dR.o) (Fv id) jY (by have:=hs3.o;simp only[List.nil_append];unfold maxLen;omega) (by have:=hs3.o;simp only[List.nil_append];omega) (fun v4 w4 gu fV hv4=> ?_);have AU:=dS.o.kY;have hg4:ah w w4:=hG.o.bH fV (fun g hg=>Nat.le_trans hwr.o (AU g hg).1);have jf:=hS;refine hK.o _ _ ?_ (fun hS=> ?_)
     ·exact jf.bH fV (fun g hg=>(AU g hg).1)
     rw[List.nil_append] at gu;replace gu:=ζ gu;replace jF:=ζ (CS.o _ hg4).1;replace hL2:=ζ (CS.o _ hg4).2;replace hG:=ζ hg4;clear fV hv4 jY jf AU dS dR hg4;clear hK hS;refine aY [10] κ σ (fun wN hN hS=>(aK.cons rfl (fun K' hK=> ?_) aK.nil));try replace jF:=ζ (jF.o.keep hN)
     try replace hL2:=ζ (hL2.o.keep hN)
     try replace hG:=ζ (hG.o.trans hN)
     try replace dR:=ζ (dR.o.grows hN)
     try replace dS:=ζ (dS.o.grows hN)
     try replace gu:=ζ (gu.o.grows hN)
     clear hN;have jY:=hS.size;refine Own.jO CY rfl (.tmp 39) (.tmp 42) rfl gu.o rfl rfl hL2.o Qd Fv jY (by have:=hsz.o;unfold maxLen;omega) (by have:=hsz.o;omega) (fun v5 w5 jk jG SG=> ?_);have AQ:=gu.o.kY;have sQ:ah w w5:=hG.o.bH jG (fun g hg=>Nat.le_trans hwr.o (AQ g hg).1);have jf:=hS;refine hK.o _ _ ?_ (fun hS=> ?_)
     ·exact jf.bH jG (fun g hg=>(AQ g hg).1)
     rw[←hpr.o] at jk;replace jk:=ζ jk;replace hG:=ζ sQ;clear jG SG jY jf AQ gu sQ jF hL2;clear hK hS;refine rK [11] 0 ?_;iterate 1 refine aB ?_
     refine ay ?_;refine aP κ (fun wN hN hS=> ?_);try replace jF:=ζ (jF.o.keep hN)
     try replace hL2:=ζ (hL2.o.keep hN)
     try replace hG:=ζ (hG.o.trans hN)
     try replace dR:=ζ (dR.o.grows hN)
     try replace dS:=ζ (dS.o.grows hN)
     try replace gu:=ζ (gu.o.grows hN)
     replace jk:=ζ (jk.o.grows hN);go_wp2;all_goals go_ret
     all_goals exact⟨_,rfl,ug.sU jk.o (by rw[hpr.o,List.length_append,List.length_append,List.length_singleton];omega),hG.o⟩
   | succ j=>
    have hjm:j < m:=ω;obtain⟨hc0,hbl⟩:=hcell.o wr hG.o j hjm;have hpj:Fq l id (j + 1)=if id<l.getD j 0 then Fq l id j else j + 1:=rfl
    rw[hp.o] at hpj;generalize hxv:l.getD j 0=x at *
    have KP:(0:Int)<(j:Int)+1:=ω;have hjb:(j:Int)<(m:Int):=ω;by_cases hlt:id<x
    ·have ZV:(id:Int)<(x:Int):=ω;rw[if_pos hlt] at hpj;have hp2:=ζ hpj.symm;clear hpj hp hxv hlt;go_wp2;go_roundw
     case rel=>exact⟨j,ω,ν,hp2,hG⟩
     case measure=>first | (simp[intOf];done) | (simp[intOf];omega)
    ·have ZV:¬(id:Int)<(x:Int):=ω;rw[if_neg hlt] at hpj;subst hpj;by_cases hxi:x = id
     ·have hxb:((x:Int)==(id:Int))=true:=by rw[hxi];simp
      have aQ:Hid (wV l id=l):=ζ (by rw[hpu.o,if_pos ⟨ω,by rw[Nat.add_sub_cancel,hxv];exact hxi⟩]);clear hp hxv hlt hxi hpu;go_wp2;go_ret;rw[aQ.o];exact⟨_,rfl,aoK hm.o hc hcm ω (hAr.o.keep hG.o) (hrow.o.grows hG.o),hG.o⟩
     ·have hxb:((x:Int)==(id:Int))=false:=by rw[beq_eq_false_iff_ne];omega
      have hpr:Hid (wV l id=(l.take (j + 1)++[id])++l.drop (j + 1)):=ζ (by rw[hpu.o,if_neg (by rintro⟨_,h⟩;rw[Nat.add_sub_cancel,hxv] at h;exact hxi h)]);have CS:Hid (∀W,ah w W→dH W 1 lU (some ⟨b,off,none⟩) (j + 1) (l.take (j + 1))∧dH W 1 lU (if c = j + 1 then some ⟨b,off,none⟩ else some ⟨b,off+(j + 1),none⟩) (m - (j + 1)) (l.drop (j + 1))):=ζ (fun W hW=>⟨(hAr.o.keep hW).take ω,by
       split
       ·refine⟨by rw[List.length_drop,←hm.o],fun h=>ω⟩
       ·exact alr (hAr.o.keep hW) ω⟩)
      have jF:=ζ (CS.o _ hG.o).1;have hL2:=ζ (CS.o _ hG.o).2;have hs1:Hid (([]:List Nat).length+(j + 1)≤1000):=ζ (by first | (simp;done) | (simp;omega));have hs3:Hid ((l.take (j + 1)).length≤1000):=ζ (by rw[List.length_take];omega);have hsz:Hid ((l.take (j + 1)++[id]).length+(m - (j + 1))≤1001):=ζ (by rw[List.length_append,List.length_take,List.length_singleton];omega);have hwr:=ζ hG.o.size;have hjc:(j:Int)+1≤(c:Int):=ω;have azo:(j:Int)+1≤(m:Int):=ω;clear hp hxv hlt hxi hpu hK hK0;go_wp2;refine aJ κ ?_;refine rK [0,1,2,4,7,8,9] 5 ?_;iterate 7 refine aB ?_
      refine ay ?_;refine aY [3,5] κ σ (fun wN hN hS=>(aK.cons rfl (fun K' hK=> ?_) (aK.cons rfl (fun K' hK=> ?_) aK.nil)))
      ·skip
       try replace jF:=ζ (jF.o.keep hN)
       try replace hL2:=ζ (hL2.o.keep hN)
       try replace hG:=ζ (hG.o.trans hN)
       try replace dR:=ζ (dR.o.grows hN)
       try replace dS:=ζ (dS.o.grows hN)
       try replace gu:=ζ (gu.o.grows hN)
       clear hN;have jY:=hS.size;refine Own.jO CY rfl (.const (.slice none 0 0)) (.tmp 35) rfl (Own.iH wN wr.heap.size 50 1 lU) rfl rfl jF.o Qd Fv jY (by have:=hs1.o;unfold maxLen;omega) (by have:=hs1.o;omega) (fun v3 w3 dS iT hv3=> ?_);have hg3:ah wN w3:=(ah.refl wN).bH iT (fun g e=>by cases e);have jf:=hS;refine hK.o _ _ ?_ (fun hS=> ?_)
       ·exact jf.trans hg3
       replace dS:=ζ dS;replace jF:=ζ (jF.o.keep hg3);replace hL2:=ζ (hL2.o.keep hg3);replace hG:=ζ (hG.o.trans hg3);try replace dR:=ζ (dR.o.grows hg3)
       clear iT hv3 hg3 jY jf;clear hK hS;refine aY [5] κ σ (fun wN hN hS=>(aK.cons rfl (fun K' hK=> ?_) aK.nil));try replace jF:=ζ (jF.o.keep hN)
       try replace hL2:=ζ (hL2.o.keep hN)
       try replace hG:=ζ (hG.o.trans hN)
       try replace dR:=ζ (dR.o.grows hN)
       try replace dS:=ζ (dS.o.grows hN)
       try replace gu:=ζ (gu.o.grows hN)
       clear hN;go_simp;have jf:=hS;refine hK.o _ _ ?_ (fun hS=> ?_)
       ·exact jf.alloc _
       have dR:=ζ (aS.new wN 50 #[.int .u64 (id:Int)]);have dF:ah wN (wN.alloc (.cells #[.int .u64 (id:Int)] 50)):=(ah.refl _).alloc _;replace jF:=ζ (jF.o.keep dF);replace hL2:=ζ (hL2.o.keep dF);replace hG:=ζ (hG.o.trans dF);try replace dS:=ζ (dS.o.grows dF)
       clear dF jf;clear hK hS;refine aY [6] κ σ (fun wN hN hS=>(aK.cons rfl (fun K' hK=> ?_) aK.nil));try replace jF:=ζ (jF.o.keep hN)
       try replace hL2:=ζ (hL2.o.keep hN)
       try replace hG:=ζ (hG.o.trans hN)
       try replace dR:=ζ (dR.o.grows hN)
       try replace dS:=ζ (dS.o.grows hN)
       try replace gu:=ζ (gu.o.grows hN)
       clear hN;have jY:=hS.size;refine Own.grown (x:=id) CY rfl (.tmp 36) (.tmp 38) rfl dS.o rfl ⟨_,0,none⟩ rfl rfl (h_ dR.o) (Fv id) jY (by have:=hs3.o;simp only[List.nil_append];unfold maxLen;omega) (by have:=hs3.o;simp only[List.nil_append];omega) (fun v4 w4 gu fV hv4=> ?_);have AU:=dS.o.kY;have hg4:ah w w4:=hG.o.bH fV (fun g hg=>Nat.le_trans hwr.o (AU g hg).1);have jf:=hS;refine hK.o _ _ ?_ (fun hS=> ?_)
       ·exact jf.bH fV (fun g hg=>(AU g hg).1)
       rw[List.nil_append] at gu;replace gu:=ζ gu;replace jF:=ζ (CS.o _ hg4).1;replace hL2:=ζ (CS.o _ hg4).2;replace hG:=ζ hg4;clear fV hv4 jY jf AU dS dR hg4;clear hK hS;refine aY [10] κ σ (fun wN hN hS=>(aK.cons rfl (fun K' hK=> ?_) aK.nil));try replace jF:=ζ (jF.o.keep hN)
       try replace hL2:=ζ (hL2.o.keep hN)
       try replace hG:=ζ (hG.o.trans hN)
       try replace dR:=ζ (dR.o.grows hN)
       try replace dS:=ζ (dS.o.grows hN)
       try replace gu:=ζ (gu.o.grows hN)
       clear hN;have jY:=hS.size;refine Own.jO CY rfl (.tmp 39) (.tmp 42) rfl gu.o rfl rfl hL2.o Qd Fv jY (by have:=hsz.o;unfold maxLen;omega) (by have:=hsz.o;omega) (fun v5 w5 jk jG SG=> ?_);have AQ:=gu.o.kY;have sQ:ah w w5:=hG.o.bH jG (fun g hg=>Nat.le_trans hwr.o (AQ g hg).1);have jf:=hS;refine hK.o _ _ ?_ (fun hS=> ?_)
       ·exact jf.bH jG (fun g hg=>(AQ g hg).1)
       rw[←hpr.o] at jk;replace jk:=ζ jk;replace hG:=ζ sQ;clear jG SG jY jf AQ gu sQ jF hL2;clear hK hS;refine rK [11] 0 ?_;iterate 1 refine aB ?_
       refine ay ?_;refine aP κ (fun wN hN hS=> ?_);try replace jF:=ζ (jF.o.keep hN)
       try replace hL2:=ζ (hL2.o.keep hN)
       try replace hG:=ζ (hG.o.trans hN)
       try replace dR:=ζ (dR.o.grows hN)
       try replace dS:=ζ (dS.o.grows hN)
       try replace gu:=ζ (gu.o.grows hN)
       replace jk:=ζ (jk.o.grows hN);go_wp2;all_goals go_ret
       all_goals exact⟨_,rfl,ug.sU jk.o (by rw[hpr.o,List.length_append,List.length_append,List.length_singleton];omega),hG.o⟩
      ·skip
       try replace jF:=ζ (jF.o.keep hN)
       try replace hL2:=ζ (hL2.o.keep hN)
       try replace hG:=ζ (hG.o.trans hN)
       try replace dR:=ζ (dR.o.grows hN)
       try replace dS:=ζ (dS.o.grows hN)
       try replace gu:=ζ (gu.o.grows hN)
       clear hN;go_simp;have jf:=hS;refine hK.o _ _ ?_ (fun hS=> ?_)
       ·exact jf.alloc _
       have dR:=ζ (aS.new wN 50 #[.int .u64 (id:Int)]);have dF:ah wN (wN.alloc (.cells #[.int .u64 (id:Int)] 50)):=(ah.refl _).alloc _;replace jF:=ζ (jF.o.keep dF);replace hL2:=ζ (hL2.o.keep dF);replace hG:=ζ (hG.o.trans dF);try replace dS:=ζ (dS.o.grows dF)
       clear dF jf;clear hK hS;refine aY [3] κ σ (fun wN hN hS=>(aK.cons rfl (fun K' hK=> ?_) aK.nil));try replace jF:=ζ (jF.o.keep hN)
       try replace hL2:=ζ (hL2.o.keep hN)
       try replace hG:=ζ (hG.o.trans hN)
       try replace dR:=ζ (dR.o.grows hN)
       try replace dS:=ζ (dS.o.grows hN)
       try replace gu:=ζ (gu.o.grows hN)
       clear hN;have jY:=hS.size;refine Own.jO CY rfl (.const (.slice none 0 0)) (.tmp 35) rfl (Own.iH wN wr.heap.size 50 1 lU) rfl rfl jF.o Qd Fv jY (by have:=hs1.o;unfold maxLen;omega) (by have:=hs1.o;omega) (fun v3 w3 dS iT hv3=> ?_);have hg3:ah wN w3:=(ah.refl wN).bH iT (fun g e=>by cases e);have jf:=hS;refine hK.o _ _ ?_ (fun hS=> ?_)
       ·exact jf.trans hg3
       replace dS:=ζ dS;replace jF:=ζ (jF.o.keep hg3);replace hL2:=ζ (hL2.o.keep hg3);replace hG:=ζ (hG.o.trans hg3);try replace dR:=ζ (dR.o.grows hg3)
       clear iT hv3 hg3 jY jf;clear hK hS;refine aY [6] κ σ (fun wN hN hS=>(aK.cons rfl (fun K' hK=> ?_) aK.nil));try replace jF:=ζ (jF.o.keep hN)
       try replace hL2:=ζ (hL2.o.keep hN)
       try replace hG:=ζ (hG.o.trans hN)
       try replace dR:=ζ (dR.o.grows hN)
       try replace dS:=ζ (dS.o.grows hN)
       try replace gu:=ζ (gu.o.grows hN)
       clear hN;have jY:=hS.size;refine Own.grown (x:=id) CY rfl (.tmp 36) (.tmp 38) rfl dS.o rfl ⟨_,0,none⟩ rfl rfl (h_ dR.o) (Fv id) jY (by have:=hs3.o;simp only[List.nil_append];unfold maxLen;omega) (by have:=hs3.o;simp only[List.nil_append];omega) (fun v4 w4 gu fV hv4=> ?_);have AU:=dS.o.kY;have hg4:ah w w4:=hG.o.bH fV (fun g hg=>Nat.le_trans hwr.o (AU g hg).1);have jf:=hS;refine hK.o _ _ ?_ (fun hS=> ?_)
       ·exact jf.bH fV (fun g hg=>(AU g hg).1)
       rw[List.nil_append] at gu;replace gu:=ζ gu;replace jF:=ζ (CS.o _ hg4).1;replace hL2:=ζ (CS.o _ hg4).2;replace hG:=ζ hg4;clear fV hv4 jY jf AU dS dR hg4;clear hK hS;refine aY [10] κ σ (fun wN hN hS=>(aK.cons rfl (fun K' hK=> ?_) aK.nil));try replace jF:=ζ (jF.o.keep hN)
       try replace hL2:=ζ (hL2.o.keep hN)
       try replace hG:=ζ (hG.o.trans hN)
       try replace dR:=ζ (dR.o.grows hN)
       try replace dS:=ζ (dS.o.grows hN)
       try replace gu:=ζ (gu.o.grows hN)
       clear hN;have jY:=hS.size;refine Own.jO CY rfl (.tmp 39) (.tmp 42) rfl gu.o rfl rfl hL2.o Qd Fv jY (by have:=hsz.o;unfold maxLen;omega) (by have:=hsz.o;omega) (fun v5 w5 jk jG SG=> ?_);have AQ:=gu.o.kY;have sQ:ah w w5:=hG.o.bH jG (fun g hg=>Nat.le_trans hwr.o (AQ g hg).1);have jf:=hS;refine hK.o _ _ ?_ (fun hS=> ?_)
       ·exact jf.bH jG (fun g hg=>(AQ g hg).1)
       rw[←hpr.o] at jk;replace jk:=ζ jk;replace hG:=ζ sQ;clear jG SG jY jf AQ gu sQ jF hL2;clear hK hS;refine rK [11] 0 ?_;iterate 1 refine aB ?_
       refine ay ?_;refine aP κ (fun wN hN hS=> ?_);try replace jF:=ζ (jF.o.keep hN)
       try replace hL2:=ζ (hL2.o.keep hN)
       try replace hG:=ζ (hG.o.trans hN)
       try replace dR:=ζ (dR.o.grows hN)
       try replace dS:=ζ (dS.o.grows hN)
       try replace gu:=ζ (gu.o.grows hN)
       replace jk:=ζ (jk.o.grows hN);go_wp2;all_goals go_ret
       all_goals exact⟨_,rfl,ug.sU jk.o (by rw[hpr.o,List.length_append,List.length_append,List.length_singleton];omega),hG.o⟩
theorem Qs {a:iI} (w:World) (hA:dH w 2 fU a.A a.m a.a.fs) (hR:a.a.src.length≤1000) (hm:a.m≤100) (hf:∀f∈a.a.fs,f.n.length+f.v.length≤1000) :
 Calls Tryz.prog 36 #[jy a] w fun e w'=>e =.returned (.int .u64 ((FH a.a:Nat):Int))∧ah w w':=by
 unfold jy FH;obtain⟨⟨R,fs,⟨lv,lc⟩,f0,t0⟩,A,m,c⟩:=a;simp only at hA hR hm hf ⊢;have qA:=hA.1;have AO:=fun k=>SB R (fs.take k) (fun f h=>hf f (List.mem_of_mem_take h))
 have hkb:∀k,(jD R (fs.take k)).length≤200000:=fun k=>by
  have h1:=AO k;have h2:(fs.take k).length≤100:=by rw[List.length_take];omega
  omega
 have hgb:=(ah.refl w).alloc (.cells #[.string ⟨R.toArray⟩,.slice A m c,.int .i64 lv,.int .u32 (lc:Int),.int .i64 f0,.int .i64 t0] 44);have SY:=aS.new w 44 #[.string ⟨R.toArray⟩,.slice A m c,.int .i64 lv,.int .u32 (lc:Int),.int .i64 f0,.int .i64 t0];replace hA:=ζ (hA.keep hgb);replace hf:=ζ hf;replace hkb:=ζ hkb;have hGb:=ζ hgb;have x1b:=ζ (show (w.alloc (.cells #[.string ⟨R.toArray⟩,.slice A m c,.int .i64 lv,.int .u32 (lc:Int),.int .i64 f0,.int .i64 t0] 44)).cell? ⟨w.heap.size,1,none⟩=some (.slice A m c) from SY.cell 1);clear AO hgb SY;go_enter Tryz.func36,Tryz.ntmps36
 go_wp2_with (first | (refine lG rfl (.tmp 9) rfl rfl (by rw[bsize];omega) ?_;intro v1 w1 FN mX;(replace FN:=ζ FN);(replace mX:=ζ mX)) | (at_builtin;(refine lH rfl (.tmp 10) (.tmp 11) rfl rfl rfl (FN.o.alloc (.cells #[.int .u8 ((0:Nat):Int)] 5)) (dH.jC (x:=0) (aS.new w1 5 _)) (mX.o.alloc (.cells #[.int .u8 ((0:Nat):Int)] 5)).size (by rw[gQ,bsize];omega) ?_;intro v2 w2 pY nM;(have iC:=ζ ((mX.o.alloc (.cells #[.int .u8 ((0:Nat):Int)] 5)).bH nM FN.o.eH));(replace pY:=ζ pY);clear nM)));generalize w.alloc (.cells #[.string ⟨R.toArray⟩,.slice A m c,.int .i64 lv,.int .u32 (lc:Int),.int .i64 f0,.int .i64 t0] 44)=wb at *
 have Pg:Hid (jg w2 wb.heap.size v2 (jD R (fs.take 0))):=by
  rw[List.take_zero,Sz];exact pY
 clear FN mX pY;generalize w.heap.size=gx at *
 go_loopw [3,4] (fun b i wr=>∃k:Nat,k≤m∧i =.int .i64 k∧Hid (jg wr wb.heap.size b (jD R (fs.take k)))∧Hid (ah wb wr)) (fun _ i _=>m - (intOf i).toNat)
 case atStart=>exact⟨0,ω,rfl,Pg,iC⟩
 case round=>
  clear Pg iC;obtain⟨k,hk,rfl,hO,hG⟩:=hrel;have y1:=hG.o.cell x1b.out;by_cases nV:k<m
  ·obtain⟨bb,off,f,rfl,JI,hx,hcell⟩:=hA.o.at_ nV;have c0w:wb.cell? ⟨bb,off+k*2,none⟩=some (.string ⟨f.n.toArray⟩):=by simpa using hcell 0 _ rfl
   have c1w:wb.cell? ⟨bb,off+k*2+1,none⟩=some (.string ⟨f.v.toArray⟩):=by simpa using hcell 1 _ rfl
   have w_:=hf.o f (List.mem_of_getElem? hx);have SS:=hkb.o k;have xJ:fs.take (k+1)=fs.take k++[f]:=by rw[List.take_add_one,hx];rfl
   have yN:=O6 R (fs.take k) f;rw[←xJ] at yN;have c0:=hG.o.cell c0w;have j_:(k:Int)<(m:Int):=ω;replace c0w:=ζ c0w;replace c1w:=ζ c1w;replace yN:=ζ yN;clear hcell hx xJ;go_wp2_with (at_builtin;first | (refine Di rfl (.tmp 20) (.tmp 26) rfl rfl rfl hO.o hG.o.size (by rw[bsize];omega) ?_;intro v3 w3 dS iT;(have uj:=ζ (hG.o.bH iT hO.o.eH));(replace dS:=ζ dS);clear iT) | (refine lH rfl (.tmp 27) (.tmp 28) rfl rfl rfl (dS.o.alloc (.cells #[.int .u8 ((61:Nat):Int)] 5)) (dH.jC (x:=61) (aS.new w3 5 _)) (uj.o.alloc (.cells #[.int .u8 ((61:Nat):Int)] 5)).size (by rw[List.length_append,gQ,bsize];omega) ?_;intro v4 w4 gu fV;(have CQ:=ζ ((uj.o.alloc (.cells #[.int .u8 ((61:Nat):Int)] 5)).bH fV dS.o.eH));(replace gu:=ζ gu);(have c1:=CQ.o.cell c1w.out);(have z1:=CQ.o.cell x1b.out);clear fV) | (refine Di rfl (.tmp 30) (.tmp 36) rfl rfl rfl gu.o CQ.o.size (by rw[List.length_append,List.length_append,gQ,bsize,bsize,List.length_singleton];omega) ?_;intro v5 w5 jk jG;(have vV:=ζ (CQ.o.bH jG gu.o.eH));(replace jk:=ζ jk);clear jG) | (refine lH rfl (.tmp 37) (.tmp 38) rfl rfl rfl (jk.o.alloc (.cells #[.int .u8 ((0:Nat):Int)] 5)) (dH.jC (x:=0) (aS.new w5 5 _)) (vV.o.alloc (.cells #[.int .u8 ((0:Nat):Int)] 5)).size (by rw[List.length_append,List.length_append,List.length_append,gQ,gQ,bsize,bsize,List.length_singleton];omega) ?_;intro v6 w6 Nq vU;(have JY:=ζ ((vV.o.alloc (.cells #[.int .u8 ((0:Nat):Int)] 5)).bH vU jk.o.eH));(replace Nq:=ζ Nq);clear vU));go_roundw
   case rel=>exact⟨k+1,ω,ν,by rw[yN.o];exact Nq,JY⟩
   case measure=>exact ψ
  ·obtain rfl:k=m:=ω;have ML:=hO.o;rw[List.take_of_length_le ω] at ML;obtain⟨A7,c7,rfl,yc,hcm,hAr⟩:=ML.arr;have SS:=hkb.o fs.length;rw[List.take_length] at SS;have XR:=aei (c:=c7) wr hAr (VX R fs) ω;have hDl:=wB (abP (jD R fs));have hDb:∀x∈P6 (jD R fs),x < 256:=fun x hx=>by
    unfold P6 uU at hx;simp only[List.mem_flatMap] at hx;obtain⟨y,_,hy⟩:=hx;simp only[List.mem_cons,List.not_mem_nil,or_false] at hy;rcases hy with rfl | rfl | rfl | rfl <;> exact Nat.mod_lt _ δ
   rw[show uU (abP (jD R fs))=P6 (jD R fs) from rfl] at hDl;generalize hDD:P6 (jD R fs)=D at *
   replace hDD:=ζ hDD;replace XR:=ζ XR;replace hDb:=ζ hDb;clear hO ML SS yc hcm hAr hA hf hkb;go_wp2_with fail;refine (XR.out).mono ?_;rintro e w8 ⟨rfl,Z5⟩;have V4:=ζ (hG.o.trans Z5);clear XR Z5 hG;go_wp2_with (refine wpList_store_row rfl 130 (.tmp 5) (.tmp 41) rfl w8.heap.size (qY D) rfl rfl 130 _ (aS.new w8 _ _) (by rw[oL,hDl];kernel_rfl) (by rw[oL,hDl];rfl) (Jk D) ?_);rw[World.setRow_alloc_new];have hB:aS (w8.alloc (.cells (qY D) 130)) w8.heap.size 130 (qY D):=aS.new w8 _ _;have hgr:ah wb (w8.alloc (.cells (qY D) 130)):=V4.o.alloc _;have hw1:=hB.lt;generalize w8.alloc (.cells (qY D) 130)=w9 at *
   generalize w8.heap.size=g at *
   clear V4;have hc:∀i,i < 8→w9.cell? ⟨g,i,none⟩=some (.int .u8 ((D.getD i 0:Nat):Int)):=fun i hi=>(hB.cell i).trans (QW ω)
   replace hc:=ζ hc;replace hB:=ζ hB;go_wp2;go_loopw [6,7] (fun n i wr=>∃k:Nat,k≤8∧i =.int .i64 k∧n =.int .u64 ((iG D k:Nat):Int)∧wr=w9) (fun _ i _=>8-(intOf i).toNat)
   case atStart=>exact⟨0,ω,rfl,rfl,rfl⟩
   case round=>
    obtain⟨k,hk,rfl,rfl,rfl⟩:=hrel;by_cases hlt:k<8
    ·have c0:=hc.o k hlt;have hx:=G6 hDb.o k;have hs:=yI D k;have hn:iG D k*256+D.getD k 0<18446744073709551616:=by
      have h1:=Ky hDb.o (k+1);rw[hs] at h1;exact Nat.lt_of_lt_of_le h1 (Nat.le_trans (Nat.pow_le_pow_right (n:=256) δ (by omega:k+1≤8)) δ)
     generalize D.getD k 0=x at *
     generalize iG D k=n at *
     have hv:((n:Int)*256+(x:Int)) % 18446744073709551616=((n * 256+x:Nat):Int):=ω;replace hs:=ζ hs;clear hn hx;go_wp2;go_roundw
     case rel=>exact⟨k+1,ω,ν,by rw[hs.o,Int.natCast_add,Int.natCast_mul];rfl,trivial⟩
     case measure=>exact ψ
    ·obtain rfl:k=8:=ω;go_wp2;go_ret;rw[hDD.o];exact⟨rfl,hGb.o.trans hgr⟩
end Go.Proofs.YteojanlajhebhaaGreatDoor
