/- Parts: PatT PatV TomA TomB TomC TomD TomE TomF RefA -/
import Derived.Test.YteojanlajhebhaaGreatDoorGs0
import Derived.Test.YteojanlajhebhaaGreatDoorGs12
set_option maxRecDepth 100000
set_option maxHeartbeats 12800000
namespace Go.Proofs.YteojanlajhebhaaGreatDoor
def yu (l:List mW):Prop:=∀y∈l,(∀j∈y.free,j < l.length)∧y.next<l.length
theorem yu.node {l:List mW} (h:yu l):yu (l ++[fD]):=by
 intro y hy;rw[List.length_append];rcases List.mem_append.1 hy with h1 | h1
 ·exact⟨fun j hj=>Nat.lt_of_lt_of_le ((h y h1).1 j hj) σ,Nat.lt_of_lt_of_le (h y h1).2 σ⟩
 ·rw[List.mem_singleton] at h1;subst h1;exact⟨fun j hj=>by simp[fD] at hj,by simp[fD]⟩
theorem yu.mod {l:List mW} {i:Nat} {f:mW→mW} (h:yu l) (hf:∀y∈l,(∀j∈(f y).free,j < l.length)∧(f y).next<l.length):yu (l.modify i f):=by
 intro y hy;rw[List.length_modify];obtain⟨k,hk,rfl⟩:=List.mem_iff_getElem.1 hy;rw[List.getElem_modify];rw[List.length_modify] at hk;split
 ·exact hf _ (List.getElem_mem hk)
 ·exact h _ (List.getElem_mem hk)
theorem Aw {b:PB} (h:yu b.aT):yu (bg b).aT:=h.node
theorem FT {b:PB} {i j:Nat} (h:yu b.aT) (hj:j < b.aT.length):yu (bG i j b).aT:=
 yu.mod h fun y hy=>⟨fun k hk=>by
  rcases List.mem_append.1 hk with h1 | h1
  ·exact (h y hy).1 k h1
  ·rw[List.mem_singleton] at h1;subst h1;exact hj,(h y hy).2⟩
theorem Gt {ws:List Nat} {b:PB} (h:yu b.aT):yu (nI ws b).1.aT:=by
 have h2:yu (bg (bg b)).aT:=Aw (Aw h);refine yu.mod h2 fun y hy=>⟨(h2 y hy).1,?_⟩
 show b.aT.length+1<_
 rw[d_,d_];omega
def alz (s:List UInt8) (sub:Option (PB→PB×qW)):Prop:=∀f,sub=some f→∀b,b.at_≤s.length→yu b.aT→yu (f b).1.aT
theorem alq {s:List UInt8} {sub:Option (PB→PB×qW)} {c:UInt8} {b:PB} (hs:alz s sub) (hb:b.at_<s.length) (h:yu b.aT):yu (dh s sub c b).1.aT:=by
 have wL:(aH b).at_≤s.length:=by simp[aH];omega
 have ha:yu (aH b).aT:=h;unfold dh;split
 ·split
  ·exact Gt (by rw[fC];exact ha)
  ·rename_i f;have h1:=hs f rfl (aH b) wL ha;simp only;split
   ·exact h1
   ·show yu (aW 2 (f (aH b)).1).aT
    rw[fC];exact h1
 ·split
  ·refine Gt ?_;rw[(Jw (s:=s) (b:=aH b) (WP.of_le wL)).2.2];exact ha
  ·split
   ·exact Gt ha
   ·split
    ·split
     ·refine Gt ?_;show yu (aW 2 (aH b)).aT
      rw[fC];exact ha
     ·exact Gt ha
    ·split
     ·exact Gt (by rw[fC];exact ha)
     ·exact Gt ha
theorem afo {s:List UInt8} {b:PB} {x:qW} (hx:Nk x b) (h:yu b.aT):yu (eX s b x).1.aT:=by
 unfold eX;split
 ·exact h
 ·rename_i c hc;split
  ·have hl:(bg (bg (aH b))).aT.length=b.aT.length+2:=by simp[bg,aH]
   have h0:yu (bg (bg (aH b))).aT:=Aw (Aw h);have hx1:=hx.1;have h1:yu (bG b.aT.length x.1 (bg (bg (aH b)))).aT:=FT h0 ω;have h2:yu (bG x.2 (b.aT.length+1) (bG b.aT.length x.1 (bg (bg (aH b))))).aT:=FT h1 (by rw[cu];omega);have hp:∀(p:Prop) [Decidable p] (i j:Nat) (z:PB),yu z.aT→j < z.aT.length→yu (if p then z else bG i j z).aT∧(if p then z else bG i j z).aT.length=z.aT.length:=by
    intro p _ i j z hz hj;split
    ·exact⟨hz,rfl⟩
    ·exact⟨FT hz hj,cu _ _ _⟩
   have h3:=hp (c = 43) b.aT.length (b.aT.length+1) _ h2 (by rw[cu,cu];omega);have h4:=hp (c = 63) x.2 x.1 _ h3.1 (by rw[h3.2,cu,cu];omega);exact h4.1
  ·exact h
theorem ami {s:List UInt8} {k:Nat} {sub:Option (PB→PB×qW)} (hv:alz s sub) (hs:Lp s k sub) (hk:2≤k):∀(f:Nat) (p:qW) (b:PB),WP s (k+1) b→Nk p b→yu b.aT→yu (Ah s sub f p b).1.aT:=by
 intro f;induction f with
 | zero=>intro p b _ _ h;exact h
 | succ f ih=>
  intro p b hW hI h;rw[Ah];split
  ·exact h
  ·rename_i c hc;split
   ·exact h
   ·have h1:=TM (c:=c) hs hk (dN hc).2.1;have h2:=Nu h1.2.1 h1.2.2;have v1:=alq (c:=c) hv (dN hc).2.1 h;have v2:=afo (s:=s) h1.2.2 v1;have v3:yu (bG p.2 (eX s (dh s sub c b).1 (dh s sub c b).2).2.1 (eX s (dh s sub c b).1 (dh s sub c b).2).1).aT:=FT v2 h2.2.2.1;exact ih (p.1,(eX s (dh s sub c b).1 (dh s sub c b).2).2.2) _ h2.2.1
     ⟨by rw[cu];exact Nat.lt_of_lt_of_le hI.1 (Nat.le_trans h1.1.len h2.1.len),by rw[cu];exact h2.2.2.2⟩ v3
theorem amg {s:List UInt8} {k:Nat} {sub:Option (PB→PB×qW)} (hv:alz s sub) (hs:Lp s k sub) (hk:2≤k) {b:PB} (hW:WP s (k+1) b) (h:yu b.aT):yu (iO s sub b).1.aT:=
 ami hv hs hk _ _ (bg b) hW ⟨by rw[d_];simp,by rw[d_];simp⟩ (Aw h)
theorem adK {s:List UInt8} {k:Nat} {sub:Option (PB→PB×qW)} (hv:alz s sub) (hs:Lp s k sub) (hk:2≤k):∀(f:Nat) (p:qW) (b:PB),WP s (k+1) b→Nk p b→yu b.aT→yu (iy s sub f p b).1.aT:=by
 intro f;induction f with
 | zero=>intro p b _ _ h;exact h
 | succ f ih=>
  intro p b hW hI h;rw[iy];have h1:=WZ hs hk hW;have v1:=amg hv hs hk hW h;have v2:yu (bG p.1 (iO s sub b).2.1 (iO s sub b).1).aT:=FT v1 h1.2.2.1;have v3:yu (bG (iO s sub b).2.2 p.2 (bG p.1 (iO s sub b).2.1 (iO s sub b).1)).aT:=FT v2 (by rw[cu];exact Nat.lt_of_lt_of_le hI.2 h1.1.len);have hI2:Nk p (bG (iO s sub b).2.2 p.2 (bG p.1 (iO s sub b).2.1 (iO s sub b).1)):=hI.mono (by rw[cu,cu];exact h1.1.len);split
  ·rename_i hp;exact ih p (aH (bG (iO s sub b).2.2 p.2 (bG p.1 (iO s sub b).2.1 (iO s sub b).1))) (WP.of_le (by have:=(dN hp).2.1;simp[aH,bG] at this ⊢;omega)) hI2 v3
  ·exact v3
theorem adI (s:List UInt8):∀(d:Nat) (b:PB),b.at_≤s.length→yu b.aT→yu (jB s d b).1.aT:=by
 have hst:∀(sub:Option (PB→PB×qW)) (k:Nat) (b:PB),alz s sub→Lp s k sub→2≤k→b.at_≤s.length→yu b.aT→yu (iy s sub (s.length+1) (b.aT.length,b.aT.length+1) (bg (bg b))).1.aT:=by
  intro sub k b hv hs hk hb h;exact adK hv hs hk (s.length+1) (b.aT.length,b.aT.length+1) (bg (bg b)) (WP.of_le hb) ⟨by simp only[d_];omega,by simp only[d_];omega⟩ (Aw (Aw h))
 intro d;induction d with
 | zero=>intro b hb h;exact hst none 2 b (fun f hf=>by cases hf) (fun f hf=>by cases hf) ω hb h
 | succ d ih=>
  intro b hb h;refine hst (some (jB s d)) (3+d) b (fun f hf b hb h=>by injection hf with hf;subst hf;exact ih b hb h) (fun f hf b hb=>by injection hf with hf;subst hf;exact K_ s d b hb) ω hb h
structure WI (p:TT):Prop where
 vp:yu p.aT
 start:p.start<p.aT.length
 stop:p.stop<p.aT.length
 len:p.aT.length≤10000
 fr:lS p.aT≤10000
theorem Zn {s:List UInt8} {p:TT} (h:wW s = some p):WI p:=by
 unfold wW at h;split at h
 ·cases h
 ·rename_i hn;injection h with h
  have tX:s.length≤100:=by
   have:¬100<s.length:=fun hh=>hn (.inl hh)
   omega
  have h1:=K_ s 8 ⟨0,0,[]⟩ (Nat.zero_le _);have h2:=adI s 8 ⟨0,0,[]⟩ (Nat.zero_le _) (fun y hy=>by simp at hy);have h3:(qw s).1.aT=(jB s 8 ⟨0,0,[]⟩).1.aT:=by
   unfold qw;simp only;split
   ·exact fC _ _
   ·rfl
  have hc:=h1.1.cost;have hw:=h1.2.1.1;have an_:gJ (jB s 8 ⟨0,0,[]⟩).1≤10000:=by
   have h0:gJ ⟨0,0,[]⟩=0:=rfl;rw[h0] at hc;simp only at hc;omega
  unfold gJ at an_;subst h;refine⟨?_,?_,?_,?_,?_⟩ <;> simp only[h3]
  ·exact h2
  ·exact h1.2.2.1
  ·exact h1.2.2.2
  ·omega
  ·omega
def qF (aT:List mW) (k:Nat):List Nat:=match aT[k]? with | some y=>y.free | none=>[]
def vk (g:mW→Nat) (out:List Nat):Nat→List mW→Nat
 | _,[]=>0
 | i,y ::r=>(if i∈out then 0 else g y)+vk g out (i + 1) r
theorem VF {g:mW→Nat} {out:List Nat} {k:Nat}:∀(r:List mW) (i:Nat),k<i→vk g (out++[k]) i r = vk g out i r
 | [],_,_=>rfl
 | y ::r,i,h=>by
  have hne:i≠k:=ω;unfold vk;rw[VF r (i + 1) ω];simp[hne]
theorem KC {g:mW→Nat} {out:List Nat} {k:Nat} {y:mW} (hk:k∉out):∀(r:List mW) (i:Nat),i≤k→r[k-i]? = some y→vk g (out++[k]) i r + g y = vk g out i r
 | [],_,_,h=>by simp at h
 | z ::r,i,hi,h=>by
  by_cases he:i = k
  ·subst he;rw[Nat.sub_self] at h;simp only[List.getElem?_cons_zero,Option.some.injEq] at h;subst h;unfold vk;rw[VF r (i + 1) ω];simp[hk];omega
  ·have h1:k-i = (k-(i + 1))+1:=ω;rw[h1,List.getElem?_cons_succ] at h;have ih:=KC (g:=g) hk r (i + 1) ω h;unfold vk;simp only[List.mem_append,List.mem_singleton,he,or_false];omega
theorem IJ:∀(r:List mW) (i:Nat),vk (fun y=>y.free.length) [] i r = lS r
 | [],_=>rfl
 | y ::r,i=>by
  have:=IJ r (i + 1);unfold vk;rw[this];simp[lS]
theorem NH:∀(r:List mW) (i:Nat),vk (fun _=>1) [] i r = r.length
 | [],_=>rfl
 | y ::r,i=>by
  have:=NH r (i + 1);unfold vk;rw[this];simp;omega
def qm (aT:List mW) (todo out:List Nat):Nat:=todo.length+vk (fun y=>y.free.length) out 0 aT
def pK (aT:List mW):Nat→List Nat→List Nat→List Nat
 | 0,_,out=>out
 | f + 1,todo,out=>match todo.getLast? with
  | none=>out
  | some k=>if k∈out then pK aT f todo.dropLast out else pK aT f (todo.dropLast++qF aT k) (out++[k])
theorem Zc {aT:List mW} {f:Nat} {todo out:List Nat} (hf:qm aT todo out≤f):pK aT f todo out=match todo.getLast? with
 | none=>out
 | some k=>if k∈out then pK aT (f - 1) todo.dropLast out else pK aT (f - 1) (todo.dropLast++qF aT k) (out++[k]):=by
 cases f with
 | zero=>
  have:todo=[]:=by
   unfold qm at hf;exact List.length_eq_zero_iff.1 ω
  subst this;rfl
 | succ f=>rfl
theorem Vk {aT:List mW} {todo out:List Nat} (h:todo≠[]):qm aT todo.dropLast out+1=qm aT todo out:=by
 have:=List.length_pos_iff.2 h;unfold qm;rw[List.length_dropLast];omega
theorem YJ {aT:List mW} {todo out:List Nat} {k:Nat} (h:todo≠[]) (hk:k∉out) (hn:k<aT.length):qm aT (todo.dropLast++qF aT k) (out++[k])+1=qm aT todo out:=by
 have h0:=List.length_pos_iff.2 h;have hy:aT[k]? = some aT[k]:=List.getElem?_eq_getElem hn;have:=KC (g:=fun y=>y.free.length) hk aT 0 (Nat.zero_le _) (by rw[Nat.sub_zero];exact hy);unfold qm qF;rw[hy,List.length_append,List.length_dropLast];simp only at *
 omega
theorem aes {aT:List mW} {out:List Nat} {k:Nat} (hk:k∉out) (hn:k<aT.length) (h:out.length+vk (fun _=>1) out 0 aT=aT.length):(out++[k]).length+vk (fun _=>1) (out++[k]) 0 aT=aT.length:=by
 have hy:aT[k]? = some aT[k]:=List.getElem?_eq_getElem hn;have:=KC (g:=fun _=>1) hk aT 0 (Nat.zero_le _) (by rw[Nat.sub_zero];exact hy);rw[List.length_append,List.length_singleton];omega
theorem Om {aT:List mW} (hv:yu aT) {k:Nat}:∀j∈qF aT k,j < aT.length:=by
 intro j hj;unfold qF at hj;cases hy:aT[k]? with
 | none=>rw[hy] at hj;simp at hj
 | some y=>rw[hy] at hj;exact (hv y (List.mem_of_getElem? hy)).1 j hj
def sS (aT:List mW) (l:List Nat):List Nat:=pK aT (l.length+lS aT) l []
theorem afU {aT:List mW} (hv:yu aT):∀(f:Nat) (todo out:List Nat),(∀k∈todo,k<aT.length)→(∀k∈out,k<aT.length)→out.length+vk (fun _=>1) out 0 aT=aT.length→
 (∀k∈pK aT f todo out,k<aT.length)∧(pK aT f todo out).length≤aT.length:=by
 intro f;induction f with
 | zero=>intro todo out _ h2 h3;exact⟨h2,by show out.length≤_;omega⟩
 | succ f ih=>
  intro todo out h1 h2 h3;rw[pK];split
  ·exact⟨h2,ω⟩
  ·rename_i k hk;have nV:k∈todo:=List.mem_of_getLast? hk;have hd:∀j∈todo.dropLast,j < aT.length:=fun j hj=>h1 j ((List.dropLast_sublist todo).subset hj)
   split
   ·exact ih _ _ hd h2 h3
   ·rename_i hno;refine ih _ _ ?_ ?_ (aes hno (h1 k nV) h3)
    ·intro j hj;rcases List.mem_append.1 hj with hj | hj
     ·exact hd j hj
     ·exact Om hv j hj
    ·intro j hj;rcases List.mem_append.1 hj with hj | hj
     ·exact h2 j hj
     ·rw[List.mem_singleton] at hj;subst hj;exact h1 _ nV
theorem Fp {aT:List mW} (hv:yu aT) {l:List Nat} (hl:∀k∈l,k<aT.length):(∀k∈sS aT l,k<aT.length)∧(sS aT l).length≤aT.length:=
 afU hv _ _ _ hl (fun k hk=>by simp at hk) (by rw[NH];simp)
def ji (aT:List mW) (c:Nat) (out:List Nat) (k:Nat):List Nat:=match aT[k]? with
 | none=>out
 | some y=>match y.set with
  | none=>out
  | some ws=>if qC ws c then out++[y.next] else out
def Dj (aT:List mW) (c:Nat) (l:List Nat):List Nat:=l.foldl (ji aT c) []
theorem abN {aT:List mW} (hv:yu aT) {c:Nat} {out:List Nat} {k:Nat} (h:∀j∈out,j < aT.length):(∀j∈ji aT c out k,j < aT.length)∧(ji aT c out k).length≤out.length+1:=by
 unfold ji;split
 ·exact⟨h,ω⟩
 ·rename_i y hy;split
  ·exact⟨h,ω⟩
  ·split
   ·refine⟨fun j hj=> ?_,by simp⟩;rcases List.mem_append.1 hj with hj | hj
    ·exact h j hj
    ·rw[List.mem_singleton] at hj;subst hj;exact (hv y (List.mem_of_getElem? hy)).2
   ·exact⟨h,ω⟩
theorem YW {aT:List mW} (hv:yu aT) {c:Nat}:∀(l out:List Nat),(∀j∈out,j < aT.length)→(∀j∈l.foldl (ji aT c) out,j < aT.length)∧(l.foldl (ji aT c) out).length≤out.length+l.length
 | [],out,h=>⟨h,by simp⟩
 | k::l,out,h=>by
  have h1:=abN hv (c:=c) (k:=k) h;have h2:=YW hv (c:=c) l _ h1.1;exact⟨h2.1,by rw[List.length_cons];have:=h2.2;simp only[List.foldl_cons];omega⟩
theorem LQ {aT:List mW} (hv:yu aT) {c:Nat} (l:List Nat):(∀j∈Dj aT c l,j < aT.length)∧(Dj aT c l).length≤l.length:=by
 have:=YW hv (c:=c) l [] (fun j hj=>by simp at hj);exact⟨this.1,by have:=this.2;simp at this;exact this⟩
inductive bF where
 | set (f:Nat→Bool)
 | alt (l:List bF)
 | row (l:List bF)
 | rep (k:Nat) (x:bF)
inductive jK:bF→List UInt8→Prop
 | set {f:Nat→Bool} {c:UInt8} (h:f c.toNat=true):jK (.set f) [c]
 | alt {l:List bF} {x:bF} {w:List UInt8} (h:x∈l) (h':jK x w):jK (.alt l) w
 | NG:jK (.row []) []
 | ajb {x:bF} {l:List bF} {u v:List UInt8} (h:jK x u) (h':jK (.row l) v):jK (.row (x ::l)) (u ++v)
 | none {k:Nat} {x:bF} (h:k≠4):jK (.rep k x) []
 | one {k:Nat} {x:bF} {u:List UInt8} (h:jK x u):jK (.rep k x) u
 | more {k:Nat} {x:bF} {u v:List UInt8} (hk:k≠5) (h:jK x u) (h':jK (.rep k x) v):jK (.rep k x) (u ++v)
theorem Nh {f:Nat→Bool} {w:List UInt8}:jK (.set f) w↔∃c:UInt8,w = [c]∧f c.toNat=true:=
 ⟨fun h=>by cases h with | set h=>exact⟨_,rfl,h⟩,fun⟨_,e,h⟩=>by rw[e];exact .set h⟩
theorem sN {l:List bF} {w:List UInt8}:jK (.alt l) w↔∃x∈l,jK x w:=
 ⟨fun h=>by cases h with | alt h h'=>exact⟨_,h,h'⟩,fun⟨_,h,h'⟩=> .alt h h'⟩
theorem Jh {w:List UInt8}:jK (.row []) w↔w = []:=
 ⟨fun h=>by cases h;rfl,fun e=>by rw[e];exact .NG⟩
theorem OB {x:bF} {l:List bF} {w:List UInt8}:jK (.row (x ::l)) w↔∃u v,w = u ++v∧jK x u∧jK (.row l) v:=
 ⟨fun h=>by cases h with | ajb h h'=>exact⟨_,_,rfl,h,h'⟩,fun⟨_,_,e,h,h'⟩=>by rw[e];exact .ajb h h'⟩
theorem FZ {x:bF}:∀{l:List bF} {w:List UInt8},jK (.row (l ++[x])) w↔∃u v,w = u ++v∧jK (.row l) u∧jK x v
 | [],w=>by
  rw[List.nil_append,OB];constructor
  ·rintro⟨u,v,rfl,h,h'⟩;rw[Jh] at h';subst h';exact⟨[],u,by simp,.NG,h⟩
  ·rintro⟨u,v,rfl,h,h'⟩;rw[Jh] at h;subst h;exact⟨v,[],by simp,h',.NG⟩
 | y ::l,w=>by
  rw[List.cons_append,OB];constructor
  ·rintro⟨u,v,rfl,h,h'⟩;obtain⟨a,b,rfl,h1,h2⟩:=FZ.1 h';exact⟨u ++a,b,by simp,.ajb h h1,h2⟩
  ·rintro⟨u,v,rfl,h,h'⟩;obtain⟨a,b,rfl,h1,h2⟩:=OB.1 h;exact⟨a,b ++v,by simp,h1,FZ.2 ⟨b,v,rfl,h2,h'⟩⟩
def dG (aT:List mW) (i:Nat) (a:List UInt8) (j:Nat):Prop:=∃y,aT[i]? = some y∧((a = []∧j∈y.free)∨∃(c:UInt8) (ws:List Nat),a = [c]∧y.set=some ws∧qC ws c.toNat=true∧j = y.next)
def qH (aT:List mW):Nat→Nat→List UInt8→Nat→Prop
 | 0,i,w,k=>w = []∧i = k
 | n + 1,i,w,k=>∃a j v,dG aT i a j∧w = a ++v∧qH aT n j v k
def fM (aT:List mW) (i:Nat) (w:List UInt8) (k:Nat):Prop:=∃n,qH aT n i w k
theorem fM.refl (aT:List mW) (i:Nat):fM aT i [] i:=⟨0,rfl,rfl⟩
theorem fM.cons {aT:List mW} {i j k:Nat} {a v:List UInt8} (h:dG aT i a j):fM aT j v k→fM aT i (a ++v) k:=fun⟨n,h'⟩=>⟨n + 1,a,j,v,h,rfl,h'⟩
theorem qH.trans {aT:List mW} {k l:Nat} {v:List UInt8} (h':fM aT k v l):∀{n i:Nat} {u:List UInt8},qH aT n i u k→fM aT i (u ++v) l
 | 0,i,u,⟨e,e'⟩=>by subst e e';exact h'
 | n + 1,i,u,⟨a,j,w,h1,e,h2⟩=>by
  subst e;rw[List.append_assoc];exact fM.cons h1 (qH.trans h' h2)
theorem fM.trans {aT:List mW} {i k l:Nat} {u v:List UInt8} (h:fM aT i u k) (h':fM aT k v l):fM aT i (u ++v) l:=by
 obtain⟨n,h⟩:=h;exact qH.trans h' h
structure vg (aT:List mW) (lo:Nat) (x:qW) (T:bF):Prop where
 lo1:lo≤x.1
 lt1:x.1<aT.length
 lo2:lo≤x.2
 lt2:x.2<aT.length
 cl:∀i a j,lo≤i→dG aT i a j→lo≤j∧j < aT.length
 out:∀a j,¬dG aT x.2 a j
 inn:∀i a,lo≤i→¬dG aT i a x.1
 acc:∀w,fM aT x.1 w x.2↔jK T w
def Kq (aT EH:List mW) (lo e:Nat):Prop:=∀i a j,lo≤i→i < aT.length→i≠e→(dG EH i a j↔dG aT i a j)
theorem Kq.edge {aT EH:List mW} {lo e i:Nat} (h:Kq aT EH lo e) (h1:lo≤i) (h2:i < aT.length) (h3:i≠e) {a:List UInt8} {j:Nat}:dG EH i a j↔dG aT i a j:=h i a j h1 h2 h3
theorem dG.lt {aT:List mW} {i j:Nat} {a:List UInt8} (h:dG aT i a j):i < aT.length:=by
 obtain⟨y,hy,_⟩:=h;exact (List.getElem?_eq_some_iff.1 hy).1
theorem qH.mono {aT EH:List mW} (hm:∀i a j,dG aT i a j→dG EH i a j):∀{n i:Nat} {w:List UInt8} {k:Nat},qH aT n i w k→qH EH n i w k
 | 0,_,_,_,h=>h
 | _ + 1,_,_,_,⟨a,j,v,he,e,hp⟩=>⟨a,j,v,hm _ _ _ he,e,hp.mono hm⟩
theorem qH.stuck {aT:List mW} {i k n:Nat} {w:List UInt8} (h:∀a j,¬dG aT i a j) (hp:qH aT n i w k):w = []∧i = k:=by
 cases n with
 | zero=>exact hp
 | succ n=>obtain⟨a,j,v,he,_,_⟩:=hp;exact (h _ _ he).elim
structure Hg (aT EH:List mW):Prop where
 len:aT.length≤EH.length
 edge:∀i a j,i < aT.length→(dG EH i a j↔dG aT i a j)
theorem Hg.trans {a b c:List mW} (h:Hg a b) (h':Hg b c):Hg a c:=
 ⟨Nat.le_trans h.len h'.len,fun i x j hi=>(h'.edge i x j (Nat.lt_of_lt_of_le hi h.len)).trans (h.edge i x j hi)⟩
section
variable {aT EH:List mW} {lo:Nat} {x:qW} {T:bF}
theorem vg.lift (h:vg aT lo x T) (hk:Kq aT EH lo x.2):∀(n i:Nat) (w:List UInt8) (k:Nat),lo≤i→i < aT.length→qH aT n i w k→qH EH n i w k
 | 0,_,_,_,_,_,hp=>hp
 | n + 1,i,w,k,h1,h2,⟨a,j,v,he,e,hp⟩=>by
  by_cases hi:i = x.2
  ·subst hi;exact (h.out _ _ he).elim
  ·obtain⟨c1,c2⟩:=h.cl i a j h1 he;exact⟨a,j,v,(hk.edge h1 h2 hi).2 he,e,h.lift hk n j v k c1 c2 hp⟩
theorem vg.split (h:vg aT lo x T) (hk:Kq aT EH lo x.2):∀(n i:Nat) (w:List UInt8) (k:Nat),lo≤i→i < aT.length→qH EH n i w k→(fM aT i w k∧lo≤k∧k<aT.length)∨∃u v m,w = u ++v∧m≤n∧fM aT i u x.2∧qH EH m x.2 v k
 | 0,i,w,k,h1,h2,⟨e,e'⟩=>by subst e e';exact .inl ⟨fM.refl _ _,h1,h2⟩
 | n + 1,i,w,k,h1,h2,hp=>by
  by_cases hi:i = x.2
  ·subst hi;exact .inr ⟨[],w,n + 1,rfl,Nat.le_refl _,fM.refl _ _,hp⟩
  ·obtain⟨a,j,v,he,e,hp⟩:=hp;have Xy:=(hk.edge h1 h2 hi).1 he;obtain⟨c1,c2⟩:=h.cl i a j h1 Xy;subst e;rcases h.split hk n j v k c1 c2 hp with⟨g,g'⟩ | ⟨u',v',m,e,hm,g,g'⟩
   ·exact .inl ⟨fM.cons Xy g,g'⟩
   ·exact .inr ⟨a ++u',v',m,by rw[e,List.append_assoc],ω,fM.cons Xy g,g'⟩
theorem vg.go (h:vg aT lo x T) (hk:Kq aT EH lo x.2) {w:List UInt8} (ha:jK T w):fM EH x.1 w x.2:=by
 obtain⟨n,hn⟩:=(h.acc w).2 ha;exact⟨n,h.lift hk n _ _ _ h.lo1 h.lt1 hn⟩
theorem vg.leave (h:vg aT lo x T) (hk:Kq aT EH lo x.2) {n k:Nat} {w:List UInt8} (hout:¬(lo≤k∧k<aT.length)∨k=x.2) (hp:qH EH n x.1 w k):∃u v m,w = u ++v∧m≤n∧jK T u∧qH EH m x.2 v k:=by
 rcases h.split hk n _ _ _ h.lo1 h.lt1 hp with⟨g,g1,g2⟩ | ⟨u,v,m,e,hm,g,g'⟩
 ·rcases hout with hout | hout
  ·exact absurd ⟨g1,g2⟩ hout
  ·subst hout;exact⟨w,[],0,by simp,ω,(h.acc w).1 g,rfl,rfl⟩
 ·exact⟨u,v,m,e,hm,(h.acc u).1 g,g'⟩
end
section
variable {oM Q8 uD:List mW} {lo:Nat} {p x:qW} {T:bF} {l:List bF}
theorem akV (h1:vg oM lo p (.row l)) (h2:vg Q8 oM.length x T) (hold:Hg oM Q8) (hE:∀i a j,dG uD i a j↔dG Q8 i a j∨(i = p.2∧a = []∧j = x.1)) (hlen:uD.length=Q8.length) :
 vg uD lo (p.1,x.2) (.row (l ++[T])):=by
 have l1:=h1.lt1;have l2:=h1.lt2;have l3:=h2.lo1;have l4:=h2.lo2;have l5:=h2.lt1;have l6:=h2.lt2;have l7:=h1.lo1;have l8:=h1.lo2;have l9:=hold.len;have k1:Kq oM uD lo p.2:=fun i a j _ hi hne=>by
  rw[hE,hold.edge i a j hi];exact⟨fun h=>h.elim id (fun h=>absurd h.1 hne),.inl⟩
 have k2:Kq Q8 uD oM.length x.2:=fun i a j hi _ _=>by
  rw[hE];exact⟨fun h=>h.elim id (fun h=>ω),.inl⟩
 have hx2:∀a j,¬dG uD x.2 a j:=fun a j h=>by
  rcases (hE _ _ _).1 h with h | h
  ·exact h2.out _ _ h
  ·omega
 refine⟨h1.lo1,by show p.1<_;omega,by show lo≤x.2;omega,by show x.2<_;omega,fun i a j hi h=> ?_,hx2,fun i a hi h=> ?_,fun w=> ?_⟩
 ·rcases (hE _ _ _).1 h with h | h
  ·rcases Nat.lt_or_ge i oM.length with hl | hl
   ·have:=h1.cl i a j hi ((hold.edge i a j hl).1 h);omega
   ·have:=h2.cl i a j hl h;omega
  ·omega
 ·rcases (hE _ _ _).1 h with h | h
  ·rcases Nat.lt_or_ge i oM.length with hl | hl
   ·exact h1.inn i a hi ((hold.edge i a _ hl).1 h)
   ·have h:dG Q8 i a p.1:=h;have:=h2.cl i a _ hl h;omega
  ·have h:i = p.2∧a = []∧p.1=x.1:=h;omega
 ·rw[FZ];constructor
  ·rintro⟨n,hp⟩;have hp:qH uD n p.1 w x.2:=hp;obtain⟨u,v,m,rfl,_,hu,hv⟩:=h1.leave k1 (.inl ω) hp;refine⟨u,v,rfl,hu,?_⟩;cases m with
   | zero=>have:=hv.2;omega
   | succ m=>
    obtain⟨a,j,v',he,rfl,hv⟩:=hv;rcases (hE _ _ _).1 he with he | ⟨_,rfl,rfl⟩
    ·exact (h1.out _ _ ((hold.edge _ _ _ l2).1 he)).elim
    ·obtain⟨u',v'',m',rfl,_,hu',hv'⟩:=h2.leave k2 (.inr rfl) hv;obtain⟨rfl,_⟩:=hv'.stuck hx2;simpa using hu'
  ·rintro⟨u,v,rfl,hu,hv⟩;have e1:dG uD p.2 [] x.1:=(hE _ _ _).2 (.inr ⟨rfl,rfl,rfl⟩);exact (h1.go k1 hu).trans (fM.cons e1 (h2.go k2 hv))
theorem akZ (h1:vg oM lo p (.alt l)) (hne:p.1≠p.2) (h2:vg Q8 oM.length x T) (hold:Hg oM Q8)
 (hE:∀i a j,dG uD i a j↔dG Q8 i a j∨(i = p.1∧a = []∧j = x.1)∨(i = x.2∧a = []∧j = p.2)) (hlen:uD.length=Q8.length) :
 vg uD lo p (.alt (l ++[T])):=by
 have l1:=h1.lt1;have l2:=h1.lt2;have l3:=h2.lo1;have l4:=h2.lo2;have l5:=h2.lt1;have l6:=h2.lt2;have l7:=h1.lo1;have l8:=h1.lo2;have l9:=hold.len;have k2:Kq Q8 uD oM.length x.2:=fun i a j hi _ hx=>by
  rw[hE];exact⟨fun h=>h.elim id (fun h=>h.elim (fun h=>ω) (fun h=>absurd h.1 hx)),.inl⟩
 have hp2:∀a j,¬dG uD p.2 a j:=fun a j h=>by
  rcases (hE _ _ _).1 h with h | h | h
  ·exact h1.out _ _ ((hold.edge _ _ _ l2).1 h)
  ·exact hne h.1.symm
  ·omega
 have inner:∀(m j:Nat) (v:List UInt8),lo≤j→j < oM.length→j≠p.1→qH uD m j v p.2→fM oM j v p.2:=by
  intro m;induction m with
  | zero=>intro j v _ _ _ h;exact⟨0,h⟩
  | succ m ih=>
   intro j v hj hjl hjp h;obtain⟨a,k,v',he,rfl,h⟩:=h;rcases (hE _ _ _).1 he with he | he | he
   ·have Xy:=(hold.edge _ _ _ hjl).1 he;obtain⟨c1,c2⟩:=h1.cl j a k hj Xy;refine fM.cons Xy (ih k v' c1 c2 ?_ h);rintro rfl;exact h1.inn j a hj Xy
   ·exact absurd he.1 hjp
   ·omega
 refine⟨h1.lo1,ω,h1.lo2,ω,fun i a j hi h=> ?_,hp2,fun i a hi h=> ?_,fun w=> ?_⟩
 ·rcases (hE _ _ _).1 h with h | h | h
  ·rcases Nat.lt_or_ge i oM.length with hl | hl
   ·have:=h1.cl i a j hi ((hold.edge i a j hl).1 h);omega
   ·have:=h2.cl i a j hl h;omega
  ·omega
  ·omega
 ·rcases (hE _ _ _).1 h with h | h | h
  ·rcases Nat.lt_or_ge i oM.length with hl | hl
   ·exact h1.inn i a hi ((hold.edge i a _ hl).1 h)
   ·have:=h2.cl i a _ hl h;omega
  ·omega
  ·exact hne h.2.2
 ·rw[sN];constructor
  ·rintro⟨n,hp⟩;cases n with
   | zero=>exact (hne hp.2).elim
   | succ n=>
    obtain⟨a,j,v,he,rfl,hp⟩:=hp;rcases (hE _ _ _).1 he with he | ⟨_,rfl,rfl⟩ | he
    ·have Xy:=(hold.edge _ _ _ l1).1 he;obtain⟨c1,c2⟩:=h1.cl _ a j h1.lo1 Xy;have:=(h1.acc _).1 (fM.cons Xy (inner n j v c1 c2 (by rintro rfl;exact h1.inn _ a h1.lo1 Xy) hp));obtain⟨y,hy,hw⟩:=sN.1 this;exact⟨y,List.mem_append.2 (.inl hy),hw⟩
    ·obtain⟨u,v',m,rfl,_,hu,hv⟩:=h2.leave k2 (.inl ω) hp;cases m with
     | zero=>have:=hv.2;omega
     | succ m=>
      obtain⟨a,j,v,he,rfl,hv⟩:=hv;rcases (hE _ _ _).1 he with he | he | ⟨_,rfl,rfl⟩
      ·exact (h2.out _ _ he).elim
      ·omega
      ·obtain⟨rfl,_⟩:=hv.stuck hp2;exact⟨T,by simp,by simpa using hu⟩
    ·omega
  ·rintro⟨y,hy,hw⟩;rcases List.mem_append.1 hy with hy | hy
   ·obtain⟨n,hn⟩:=(h1.acc w).2 (sN.2 ⟨y,hy,hw⟩);exact⟨n,hn.mono fun i a j h=>(hE _ _ _).2 (.inl ((hold.edge _ _ _ h.lt).2 h))⟩
   ·rw[List.mem_singleton.1 hy] at hw;have e1:dG uD p.1 [] x.1:=(hE _ _ _).2 (.inr (.inl ⟨rfl,rfl,rfl⟩));have e2:dG uD x.2 [] p.2:=(hE _ _ _).2 (.inr (.inr ⟨rfl,rfl,rfl⟩));have:=fM.cons e1 ((h2.go k2 hw).trans (fM.cons e2 (fM.refl _ _)));simpa using this
theorem X3 {k:Nat} {P:List UInt8→Prop} (h0:k≠4→P []) (h1:∀u,jK T u→P u) (h2:k≠5→∀u v,jK T u→P v→P (u ++v)) {w:List UInt8} (h:jK (.rep k T) w):P w:=by
 generalize hR:bF.rep k T=R at h;induction h with
 | set | alt | NG | ajb=>cases hR
 | none h=>injection hR with e1 e2;subst e1 e2;exact h0 h
 | one h=>injection hR with e1 e2;subst e1 e2;exact h1 _ h
 | more hk h h' _ ih=>injection hR with e1 e2;subst e1 e2;exact h2 hk _ _ h (ih rfl)
theorem akW {k:Nat} (h1:vg oM lo x T)
 (hE:∀i a j,dG uD i a j↔dG oM i a j∨(a = []∧((i = oM.length∧j = x.1)∨(i = x.2∧j = oM.length+1)∨(k≠4∧i = oM.length∧j = oM.length+1)∨(k≠5∧i = x.2∧j = x.1)))) (hlen:uD.length=oM.length+2) :
 vg uD lo (oM.length,oM.length+1) (.rep k T):=by
 have l1:=h1.lt1;have l2:=h1.lt2;have l7:=h1.lo1;have l8:=h1.lo2;have k1:Kq oM uD lo x.2:=fun i a j _ hi hx=>by
  rw[hE];exact⟨fun h=>h.elim id (fun h=>ω),.inl⟩
 have hend:∀a j,¬dG uD (oM.length+1) a j:=fun a j h=>by
  rcases (hE _ _ _).1 h with h | h
  ·have:=h.lt;omega
  ·omega
 have key:∀(n:Nat) (w:List UInt8),qH uD n x.1 w (oM.length+1)→jK (.rep k T) w:=by
  intro n;induction n using Nat.strongRecOn with
  | ind n ih=>
   intro w hp;obtain⟨u,v,m,rfl,hm,hu,hv⟩:=h1.leave k1 (.inl ω) hp;cases m with
   | zero=>have:=hv.2;omega
   | succ m=>
    obtain⟨a,j,v',he,rfl,hv⟩:=hv;rcases (hE _ _ _).1 he with he1 | ⟨e0,he2⟩
    ·exact (h1.out _ _ he1).elim
    ·subst e0;rcases he2 with he2 | ⟨_,e2⟩ | he2 | ⟨hk,_,e2⟩
     ·omega
     ·subst e2;obtain⟨rfl,_⟩:=hv.stuck hend;simpa using jK.one (k:=k) hu
     ·omega
     ·subst e2;exact jK.more hk hu (by simpa using ih m ω v' hv)
 refine⟨by show lo≤oM.length;omega,by show oM.length<_;omega,by show lo≤oM.length+1;omega,by show oM.length+1<_;omega,fun i a j hi h=> ?_,hend,fun i a hi h=> ?_,fun w=> ?_⟩
 ·rcases (hE _ _ _).1 h with h | h
  ·have:=h1.cl i a j hi h;omega
  ·omega
 ·have h:dG uD i a oM.length:=h;rcases (hE _ _ _).1 h with h | h
  ·have:=h1.cl i a _ hi h;omega
  ·omega
 ·constructor
  ·rintro⟨n,hp⟩;replace hp:qH uD n oM.length w (oM.length+1):=hp;cases n with
   | zero=>have:=hp.2;omega
   | succ n=>
    obtain⟨a,j,v,he,rfl,hp⟩:=hp;rcases (hE _ _ _).1 he with he1 | ⟨e0,he2⟩
    ·have:=he1.lt;omega
    ·subst e0;rcases he2 with⟨_,e2⟩ | he2 | ⟨hk,_,e2⟩ | he2
     ·subst e2;simpa using key n v hp
     ·omega
     ·subst e2;obtain⟨rfl,_⟩:=hp.stuck hend;exact jK.none hk
     ·omega
  ·intro h;have e1:dG uD oM.length [] x.1:=(hE _ _ _).2 (.inr ⟨rfl,.inl ⟨rfl,rfl⟩⟩);have e2:dG uD x.2 [] (oM.length+1):=(hE _ _ _).2 (.inr ⟨rfl,.inr (.inl ⟨rfl,rfl⟩)⟩);have main:(w = []∧k≠4)∨fM uD x.1 w (oM.length+1):=by
    refine X3 (P:=fun w=>(w = []∧k≠4)∨fM uD x.1 w (oM.length+1)) (fun hk=> .inl ⟨rfl,hk⟩) (fun u hu=> .inr ?_) (fun hk u v hu hv=> .inr ?_) h
    ·have:=(h1.go k1 hu).trans (fM.cons e2 (fM.refl _ _));simpa using this
    ·rcases hv with⟨rfl,_⟩ | hv
     ·have:=(h1.go k1 hu).trans (fM.cons e2 (fM.refl _ _));simpa using this
     ·have e3:dG uD x.2 [] x.1:=(hE _ _ _).2 (.inr ⟨rfl,.inr (.inr (.inr ⟨hk,rfl,rfl⟩))⟩);exact (h1.go k1 hu).trans (fM.cons e3 hv)
   rcases main with⟨rfl,hk⟩ | hp
   ·exact fM.cons ((hE _ _ _).2 (.inr ⟨rfl,.inr (.inr (.inl ⟨hk,rfl,rfl⟩))⟩)) (fM.refl _ _)
   ·exact fM.cons e1 hp
end
theorem Jt {α:Type} (l:List α) (i k:Nat) (f:α→α):(l.modify i f)[k]? = if i = k then (l[k]?).map f else l[k]? :=by
 rw[List.getElem?_modify];by_cases h:i = k <;> simp[h]
theorem ahi {l:List mW} {i j k m:Nat} {a:List UInt8}:dG (l.modify i fun x=>{x with free:=x.free++[j]}) k a m↔dG l k a m∨(k=i∧i < l.length∧a = []∧m = j):=by
 unfold dG;rw[Jt];by_cases hk:i = k
 ·subst hk;rw[if_pos rfl];cases hy:l[i]? with
  | none=>
   have:=List.getElem?_eq_none_iff.1 hy;simp;omega
  | some y=>
   have hl:=(List.getElem?_eq_some_iff.1 hy).1;simp only[Option.map_some,Option.some.injEq,exists_eq_left'];simp only[List.mem_append,List.mem_singleton];constructor
   ·rintro (⟨rfl,h | h⟩ | h)
    ·exact .inl (.inl ⟨rfl,h⟩)
    ·exact .inr ⟨trivial,hl,rfl,h⟩
    ·exact .inl (.inr h)
   ·rintro ((⟨rfl,h⟩ | h) | ⟨_,_,rfl,h⟩)
    ·exact .inl ⟨rfl,.inl h⟩
    ·exact .inr h
    ·exact .inl ⟨rfl,.inr h⟩
 ·rw[if_neg hk];constructor
  ·exact .inl
  ·rintro (h | h)
   ·exact h
   ·exact absurd h.1.symm hk
theorem vZ {l:List mW} {k m:Nat} {a:List UInt8}:dG (l ++[fD]) k a m↔dG l k a m:=by
 unfold dG;rw[List.getElem?_append];by_cases hk:k<l.length
 ·rw[if_pos hk]
 ·rw[if_neg hk,List.getElem?_eq_none (by omega:l.length≤k)];constructor
  ·rintro⟨y,hy,h⟩;have:=List.mem_of_getElem? hy;rw[List.mem_singleton] at this;subst this;simp[fD] at h
  ·rintro⟨y,hy,_⟩;cases hy
theorem vY {l:List mW} {k m:Nat} {a:List UInt8} (h:l.length≤k):¬dG l k a m:=fun he=>by have:=he.lt;omega
theorem FW {l:List mW} {ws:List Nat} {k m:Nat} {a:List UInt8}:dG (((l ++[fD])++[fD]).modify l.length fun x=>{x with set:=some ws,next:=l.length+1}) k a m↔dG l k a m∨(k=l.length∧m = l.length+1∧∃c:UInt8,a = [c]∧qC ws c.toNat=true):=by
 by_cases hk:l.length=k
 ·subst hk;constructor
  ·rintro⟨y,hy,h⟩;rw[Jt,if_pos rfl] at hy;simp at hy;subst hy;rcases h with⟨_,h⟩ | ⟨c,ws',rfl,h1,h2,h3⟩
   ·simp[fD] at h
   ·simp at h1;subst h1;exact .inr ⟨rfl,h3,c,rfl,h2⟩
  ·rintro (h | ⟨_,rfl,c,rfl,h⟩)
   ·exact (vY (Nat.le_refl _) h).elim
   ·refine⟨{fD with set:=some ws,next:=l.length+1},?_,.inr ⟨c,ws,rfl,rfl,h,rfl⟩⟩;rw[Jt,if_pos rfl];simp
 ·have e:dG (((l ++[fD])++[fD]).modify l.length fun x=>{x with set:=some ws,next:=l.length+1}) k a m↔dG ((l ++[fD])++[fD]) k a m:=by
   unfold dG;rw[Jt,if_neg hk]
  rw[e,vZ,vZ];constructor
  ·exact .inl
  ·rintro (h | h)
   ·exact h
   ·exact absurd h.1.symm hk
theorem akX (l:List mW) (ws:List Nat) (f:Nat→Bool) (hf:∀c:UInt8,qC ws c.toNat=f c.toNat):vg (((l ++[fD])++[fD]).modify l.length fun x=>{x with set:=some ws,next:=l.length+1}) l.length (l.length,l.length+1) (.set f):=by
 have hl:(((l ++[fD])++[fD]).modify l.length fun x=>{x with set:=some ws,next:=l.length+1}).length=l.length+2:=by simp
 have hend:∀a j,¬dG (((l ++[fD])++[fD]).modify l.length fun x=>{x with set:=some ws,next:=l.length+1}) (l.length+1) a j:=fun a j h=>by
  rcases FW.1 h with h | h
  ·exact vY (Nat.le_succ _) h
  ·omega
 refine⟨Nat.le_refl _,by rw[hl];show l.length<_;omega,by show l.length≤l.length+1;omega,by rw[hl];show l.length+1<_;omega,fun i a j hi h=> ?_,hend,fun i a hi h=> ?_,fun w=> ?_⟩
 ·rw[hl];rcases FW.1 h with h | h
  ·exact (vY hi h).elim
  ·omega
 ·rcases FW.1 h with h | ⟨_,h,_⟩
  ·exact vY hi h
  ·have h:l.length=l.length+1:=h;omega
 ·rw[Nh];constructor
  ·rintro⟨n,hp⟩;cases n with
   | zero=>have h:l.length=l.length+1:=hp.2;omega
   | succ n=>
    obtain⟨a,j,v,he,rfl,hp⟩:=hp;rcases FW.1 he with he | ⟨_,rfl,c,rfl,hc⟩
    ·exact (vY (Nat.le_refl _) he).elim
    ·obtain⟨rfl,_⟩:=hp.stuck hend;exact⟨c,rfl,by rw[←hf];exact hc⟩
  ·rintro⟨c,rfl,hc⟩;exact fM.cons (a:=[c]) (FW.2 (.inr ⟨rfl,rfl,c,rfl,by rw[hf];exact hc⟩)) (fM.refl _ _)
theorem akY (l:List mW):vg (l ++[fD]) l.length (l.length,l.length) (.row []):=by
 have hno:∀i a j,l.length≤i→¬dG (l ++[fD]) i a j:=fun i a j hi h=>vY hi (vZ.1 h)
 refine⟨Nat.le_refl _,by simp,Nat.le_refl _,by simp,fun i a j hi h=>(hno i a j hi h).elim,fun a j h=>hno _ a j (Nat.le_refl _) h,fun i a hi h=>hno i a _ hi h,fun w=> ?_⟩;rw[Jh];constructor
 ·rintro⟨n,hp⟩;exact (hp.stuck (fun a j h=>hno _ a j (Nat.le_refl _) h)).1
 ·rintro rfl;exact fM.refl _ _
theorem V7 (l:List mW):vg ((l ++[fD])++[fD]) l.length (l.length,l.length+1) (.alt []):=by
 have hno:∀i a j,l.length≤i→¬dG ((l ++[fD])++[fD]) i a j:=fun i a j hi h=>vY hi (vZ.1 (vZ.1 h))
 refine⟨Nat.le_refl _,by simp,by show l.length≤l.length+1;omega,by simp,fun i a j hi h=>(hno i a j hi h).elim,fun a j h=>hno _ a j (Nat.le_succ _) h,fun i a hi h=>hno i a _ hi h,fun w=> ?_⟩;rw[sN];constructor
 ·rintro⟨n,hp⟩;have:=(hp.stuck (fun a j h=>hno _ a j (Nat.le_refl _) h)).2;have h:l.length=l.length+1:=this;omega
 ·rintro⟨x,h,_⟩;cases h
def Jg (f:Nat→Bool) (lo hi:Nat):Nat→Bool:=fun c=>f c ||(decide (lo≤c)&&decide (c≤hi))
def aV:Nat→Bool:=fun _=>false
def bn (d:Nat):Nat→Bool:=Jg aV d d
def jR (s:List UInt8):Nat→Bool→PB→(Nat→Bool)→PB×(Nat→Bool)
 | 0,_,b,f=>(aW 2 b,f)
 | n + 1,first,b,f=>match kK s b with
  | none=>(aW 2 b,f)
  | some d=>
   if d = 93 then (if first=true then aW 2 (aH b) else aH b,f)
   else
    let r:=cZ s b
    let q:=if kK s r.1=some 45∧r.1.at_+1<s.length∧s[r.1.at_+1]?≠some 93 then cZ s (aH r.1) else r
    jR s n false (if q.2.toNat<r.2.toNat then aW 2 q.1 else q.1) (Jg f r.2.toNat q.2.toNat)
def tq (s:List UInt8) (b:PB):PB×(Nat→Bool):=
 if kK s b = some 94 then let r:=jR s (s.length+1) true (aH b) aV;(r.1,fun c=> !r.2 c)
 else jR s (s.length+1) true b aV
def jw (s:List UInt8) (sub:Option (PB→PB×bF)) (c:UInt8) (b:PB):PB×bF:=
 if c = 40 then (match sub with
  | none=>(aW 3 (aH b),.set aV)
  | some f=>let r:=f (aH b);(aH (if kK s r.1=some 41 then r.1 else aW 2 r.1),r.2))
 else if c = 91 then let r:=tq s (aH b);(r.1,.set r.2)
 else if c = 46 then (aH b,.set fun _=>true)
 else if c = 92 then (match kK s (aH b) with
  | none=>(aH (aW 2 (aH b)),.set (bn 0))
  | some d=>(aH (aH b),.set (bn d.toNat)))
 else (if c∈([42,43,63,93]:List UInt8) then aW 2 (aH b) else aH b,.set (bn c.toNat))
def ZJ (c:UInt8):Nat:=if c = 42 then 3 else if c = 43 then 4 else 5
def nD (s:List UInt8) (b:PB) (x:bF):PB×bF:=match kK s b with
 | none=>(b,x)
 | some c=>if JR c then (aH b,.rep (ZJ c) x) else (b,x)
def yA (s:List UInt8) (sub:Option (PB→PB×bF)):Nat→List bF→PB→PB×List bF
 | 0,l,b=>(b,l)
 | n + 1,l,b=>match kK s b with
  | none=>(b,l)
  | some c=>if c = 124∨c = 41 then (b,l) else
   let r:=jw s sub c b
   let q:=nD s r.1 r.2
   yA s sub n (l ++[q.2]) q.1
def EK (s:List UInt8) (sub:Option (PB→PB×bF)) (b:PB):PB×bF:=let r:=yA s sub (s.length+1) [] b;(r.1,.row r.2)
def jd (s:List UInt8) (sub:Option (PB→PB×bF)):Nat→List bF→PB→PB×List bF
 | 0,l,b=>(b,l)
 | n + 1,l,b=>
  let r:=EK s sub b
  if kK s r.1=some 124 then jd s sub n (l ++[r.2]) (aH r.1) else (r.1,l ++[r.2])
def m_ (s:List UInt8):Nat→PB→PB×bF
 | 0,b=>let r:=jd s none (s.length+1) [] b;(r.1,.alt r.2)
 | d + 1,b=>let r:=jd s (some (m_ s d)) (s.length+1) [] b;(r.1,.alt r.2)
def Rw (s:List UInt8):PB×bF:=let r:=m_ s 8 ⟨0,0,[]⟩;(if r.1.err=0∧r.1.at_<s.length then aW 2 r.1 else r.1,r.2)
def lJ (s:List UInt8):Nat:=if 100<s.length then 4 else (Rw s).1.err
def WY (s:List UInt8):bF:=(Rw s).2
def lq (b b':PB):Prop:=(b.err=0∧b'.err=0∧b.at_=b'.at_)∨(b.err≠0∧b'.err≠0)
theorem lq.pk {s:List UInt8} {b b':PB} (h:lq b b'):kK s b'=kK s b:=by
 unfold kK;rcases h with⟨h1,h2,h3⟩ | ⟨h1,h2⟩
 ·rw[if_pos h1,if_pos h2,h3]
 ·rw[if_neg h1,if_neg h2]
theorem lq.EW {b b':PB} (h:lq b b'):lq (aH b) (aH b'):=by
 rcases h with⟨h1,h2,h3⟩ | ⟨h1,h2⟩
 ·exact .inl ⟨h1,h2,by show b.at_+1=b'.at_+1;rw[h3]⟩
 ·exact .inr ⟨h1,h2⟩
theorem lq.fail {b b':PB} {e e':Nat} (he:e≠0) (Xy:e'≠0):lq (aW e b) (aW e' b'):=.inr ⟨iQ he b,iQ Xy b'⟩
theorem lq.same {b b':PB} (h:lq b b') {c c':PB} (hc:c.at_=b.at_∧c.err=b.err) (hc':c'.at_=b'.at_∧c'.err=b'.err):lq c c':=by
 unfold lq at *
 rw[hc.1,hc.2,hc'.1,hc'.2];exact h
theorem ajm {s:List UInt8} {b:PB} (h:b.err≠0):kK s b = none:=by unfold kK;rw[if_neg h]
theorem YZ {s:List UInt8} {b b':PB} (h:lq b b'):lq (cZ s b).1 (cZ s b').1∧(cZ s b').2=(cZ s b).2:=by
 unfold cZ;rw[h.pk,h.EW.pk];split
 ·split
  ·exact⟨lq.fail δ δ,rfl⟩
  ·exact⟨h.EW.EW,rfl⟩
 ·split
  ·exact⟨lq.fail δ δ,rfl⟩
  ·exact⟨h.EW,rfl⟩
theorem ai6 {p:Prop} [Decidable p] {b b' c c':PB} (h:p→lq b b') (h':¬p→lq c c'):lq (if p then b else c) (if p then b' else c'):=by
 split
 ·exact h ‹_›
 ·exact h' ‹_›
def ae6 (ws:List Nat):Prop:=ws.length=4∧∀x∈ws,x < 2 ^ 64
def Nj (ws:List Nat) (f:Nat→Bool):Prop:=ae6 ws∧∀c,c < 256→qC ws c = f c
theorem y7:Nj gV aV:=⟨⟨rfl,δ⟩,fun c _=>by
 unfold qC gV aV;rcases (show c / 64=0∨c / 64=1∨c / 64=2∨c / 64=3∨4≤c / 64 by omega) with h | h | h | h | h
 ·simp[h]
 ·simp[h]
 ·simp[h]
 ·simp[h]
 ·rw[List.getD_eq_getElem?_getD,List.getElem?_eq_none (by simpa using h)];simp⟩
theorem adp {ws:List Nat} (h:ws.length=4) {c d:Nat} (hd4:d < 256):qC (nU ws c) d = (qC ws d ||decide (d = c)):=by
 unfold qC nU;rw[List.getD_eq_getElem?_getD,List.getD_eq_getElem?_getD,Jt];by_cases hd:c / 64=d / 64
 ·rw[if_pos hd];have hl:d / 64<ws.length:=ω;rw[List.getElem?_eq_getElem hl];simp only[Option.map_some,Option.getD_some];rw[Nat.testBit_or,Nat.testBit_two_pow];congr 1
  by_cases h2:c % 64=d % 64
  ·rw[decide_eq_true h2,decide_eq_true ω]
  ·rw[decide_eq_false h2,decide_eq_false ω]
 ·rw[if_neg hd,decide_eq_false ω,Bool.or_false]
theorem ae6.bit {ws:List Nat} (h:ae6 ws) {c:Nat}:ae6 (nU ws c):=by
 refine⟨by unfold nU;simp[h.1],fun x hx=> ?_⟩;unfold nU at hx;obtain⟨k,hk,rfl⟩:=List.getElem_of_mem hx;have:=Jt ws (c / 64) k (fun x=>x |||2 ^ (c % 64));rw[List.getElem?_eq_getElem hk] at this;rw[List.length_modify] at hk;rw[List.getElem?_eq_getElem hk] at this;split at this
 ·simp only[Option.map_some,Option.some.injEq] at this;rw[this];exact Nat.or_lt_two_pow (h.2 _ (List.getElem_mem hk)) (Nat.pow_lt_pow_right ω ω)
 ·simp only[Option.some.injEq] at this;rw[this];exact h.2 _ (List.getElem_mem hk)
theorem Vw {f:Nat→Bool}:∀(n lo:Nat) (ws:List Nat),lo+n≤256→Nj ws f→Nj ((List.range' lo n).foldl nU ws) (fun c=>f c ||(decide (lo≤c)&&decide (c < lo+n)))
 | 0,lo,ws,_,h=>⟨h.1,fun c hc=>by
  rw[show (List.range' lo 0).foldl nU ws=ws from rfl,h.2 c hc];show f c = (f c ||(decide (lo≤c)&&decide (c < lo+0)))
  by_cases h1:lo≤c
  ·rw[decide_eq_false (show ¬c < lo+0 by omega)];simp
  ·rw[decide_eq_false h1];simp⟩
 | n + 1,lo,ws,hn,h=>by
  have h1:Nj (nU ws lo) (fun c=>f c ||decide (c = lo)):=⟨h.1.bit,fun c hc=>by rw[adp h.1.1 hc,h.2 c hc]⟩;have h2:=Vw n (lo+1) (nU ws lo) ω h1;refine⟨h2.1,fun c hc=> ?_⟩;rw[show (List.range' lo (n + 1)).foldl nU ws=(List.range' (lo+1) n).foldl nU (nU ws lo) from rfl,h2.2 c hc];show (f c ||decide (c = lo)||(decide (lo+1≤c)&&decide (c < lo+1+n)))=(f c ||(decide (lo≤c)&&decide (c < lo+(n + 1))))
  rw[Bool.or_assoc];congr 1
  by_cases e:c = lo
  ·subst e;simp
  ·rw[decide_eq_false e,Bool.false_or];by_cases e2:lo≤c
   ·rw[decide_eq_true (show lo+1≤c by omega),decide_eq_true e2];by_cases e3:c < lo+(n + 1)
    ·rw[decide_eq_true e3,decide_eq_true ω]
    ·rw[decide_eq_false e3,decide_eq_false ω]
   ·rw[decide_eq_false e2,decide_eq_false (show ¬lo+1≤c by omega),Bool.false_and,Bool.false_and]
theorem Nj.add {ws:List Nat} {f:Nat→Bool} (h:Nj ws f) {lo hi:Nat} (hh:hi<256):Nj (oJ ws lo hi) (Jg f lo hi):=by
 unfold oJ Jg;by_cases hl:lo≤hi
 ·have:=Vw (f:=f) (hi+1-lo) lo ws ω h;refine⟨this.1,fun c hc=> ?_⟩;rw[this.2 c hc];show (f c ||(decide (lo≤c)&&decide (c < lo+(hi+1-lo))))=(f c ||(decide (lo≤c)&&decide (c≤hi)))
  congr 2
  by_cases e:c≤hi
  ·rw[decide_eq_true e,decide_eq_true ω]
  ·rw[decide_eq_false e,decide_eq_false ω]
 ·rw[show hi+1-lo=0 by omega];refine⟨h.1,fun c hc=> ?_⟩;rw[show (List.range' lo 0).foldl nU ws=ws from rfl,h.2 c hc];show f c = (f c ||(decide (lo≤c)&&decide (c≤hi)))
  by_cases e:lo≤c
  ·rw[decide_eq_false (show ¬c≤hi by omega)];simp
  ·rw[decide_eq_false e];simp
theorem Nj.turn {ws:List Nat} {f:Nat→Bool} (h:Nj ws f):Nj (lI ws) (fun c=> !f c):=by
 refine⟨⟨by unfold lI;simp[h.1.1],fun x hx=> ?_⟩,fun c hc=> ?_⟩
 ·unfold lI at hx;obtain⟨y,_,rfl⟩:=List.mem_map.1 hx;omega
 ·show qC (lI ws) c = !f c
  rw[←h.2 c hc];unfold qC lI;have hl:c / 64<ws.length:=by rw[h.1.1];omega
  rw[List.getD_eq_getElem?_getD,List.getD_eq_getElem?_getD,List.getElem?_map,List.getElem?_eq_getElem hl];simp only[Option.map_some,Option.getD_some];have hw:=h.1.2 _ (List.getElem_mem hl);have:=Nat.testBit_two_pow_sub_succ hw (c % 64);rw[show 18446744073709551615-ws[c / 64]=2 ^ 64-(ws[c / 64]+1) by omega,this,decide_eq_true (Nat.mod_lt _ ω),Bool.true_and]
theorem afx {s:List UInt8} {r r':PB×UInt8} (h:lq r.1 r'.1) (he:r'.2=r.2):lq (dP s r).1 (dP s r').1∧(dP s r').2=(dP s r).2:=by
 unfold dP;rw[h.pk];by_cases h1:kK s r.1=some 45
 ·have h0:=(dN h1).1;have hat:r.1.at_=r'.1.at_:=by
   rcases h with⟨_,_,e⟩ | ⟨e,_⟩
   ·exact e
   ·exact absurd h0 e
  rw[←hat];split
  ·exact YZ h.EW
  ·exact⟨h,he⟩
 ·rw[if_neg (fun h=>h1 h.1),if_neg (fun h=>h1 h.1)];exact⟨h,he⟩
theorem Ox {s:List UInt8}:∀(n:Nat) (first:Bool) (b b':PB) (ws:List Nat) (f:Nat→Bool),lq b b'→Nj ws f→
 lq (mP s n first b ws).1 (jR s n first b' f).1∧((mP s n first b ws).1.err=0→Nj (mP s n first b ws).2 (jR s n first b' f).2)
 | 0,first,b,b',ws,f,h,hs=>⟨lq.fail δ δ,fun _=>hs⟩
 | n + 1,first,b,b',ws,f,h,hs=>by
  rw[mP,jR,h.pk];cases hp:kK s b with
  | none=>exact⟨lq.fail δ δ,fun _=>hs⟩
  | some d=>
   simp only;by_cases hd:d = 93
   ·cases first
    ·rw[if_neg σ,if_pos hd,if_pos hd];exact⟨h.EW,fun _=>hs⟩
    ·rw[if_pos ⟨hd,rfl⟩,if_pos hd];exact⟨lq.fail δ δ,fun _=>hs⟩
   ·rw[if_neg (fun h=>hd h.1),if_neg hd,if_neg hd];obtain⟨s1,s2⟩:=YZ (s:=s) h;obtain⟨q1,q2⟩:=afx (s:=s) s1 s2;have e1:(if kK s (cZ s b).1=some 45∧(cZ s b).1.at_+1<s.length∧s[(cZ s b).1.at_+1]?≠some 93 then cZ s (aH (cZ s b).1) else cZ s b)=dP s (cZ s b):=rfl;have e2:(if kK s (cZ s b').1=some 45∧(cZ s b').1.at_+1<s.length∧s[(cZ s b').1.at_+1]?≠some 93 then cZ s (aH (cZ s b').1) else cZ s b')=dP s (cZ s b'):=rfl;rw[e1,e2,q2,s2];exact Ox n false _ _ _ _ (ai6 (fun _=>lq.fail δ δ) (fun _=>q1)) (hs.add (UInt8.toNat_lt _))
theorem Q_ (s:List UInt8) (b:PB):(cZ s b).1.aT=b.aT:=by
 unfold cZ;split
 ·split
  ·rw[fC];rfl
  ·rfl
 ·split
  ·rw[fC];rfl
  ·rfl
theorem Le (s:List UInt8):∀(n:Nat) (first:Bool) (b:PB) (ws:List Nat),(mP s n first b ws).1.aT=b.aT
 | 0,_,b,_=>fC 2 b
 | n + 1,first,b,ws=>by
  rw[mP];split
  ·exact fC 2 b
  ·split
   ·exact fC 2 b
   ·split
    ·rfl
    ·simp only;rw[Le s n];have hq:(dP s (cZ s b)).1.aT=b.aT:=by
      unfold dP;split
      ·rw[Q_];exact Q_ s b
      ·exact Q_ s b
     show (if (dP s (cZ s b)).2.toNat<(cZ s b).2.toNat then aW 2 (dP s (cZ s b)).1 else (dP s (cZ s b)).1).aT=b.aT
     split
     ·rw[fC];exact hq
     ·exact hq
theorem ahm (s:List UInt8) (b:PB):(kG s b).1.aT=b.aT:=by
 unfold kG;split
 ·exact Le s _ _ _ _
 ·exact Le s _ _ _ _
theorem adN {s:List UInt8} {b b':PB} (h:lq b b'):lq (kG s b).1 (tq s b').1∧((kG s b).1.err=0→Nj (kG s b).2 (tq s b').2):=by
 unfold kG tq;rw[h.pk];split
 ·obtain⟨h1,h2⟩:=Ox (s:=s) (s.length+1) true (aH b) (aH b') gV aV h.EW y7;exact⟨h1,fun he=>(h2 he).turn⟩
 ·exact Ox (s:=s) (s.length+1) true b b' gV aV h y7
def aaF (b:PB) (r:PB×qW) (r':PB×bF):Prop:=lq r.1 r'.1∧(r.1.err=0→Hg b.aT r.1.aT∧vg r.1.aT b.aT.length r.2 r'.2)
theorem amq (l:List mW) (ws:List Nat):Hg l (((l ++[fD])++[fD]).modify l.length fun x=>{x with set:=some ws,next:=l.length+1}):=
 ⟨by simp,fun i a j hi=>by
  rw[FW];exact⟨fun h=>h.elim id (fun h=>ω),.inl⟩⟩
theorem Aq {b c c':PB} {ws:List Nat} {f:Nat→Bool} (hc:c.aT=b.aT) (h:lq c c') (hs:c.err=0→∀x:UInt8,qC ws x.toNat=f x.toNat):aaF b (nI ws c) (c',.set f):=by
 refine⟨h.same ⟨rfl,rfl⟩ ⟨rfl,rfl⟩,fun he=> ?_⟩;rw[←hc];exact⟨amq c.aT ws,akX c.aT ws f (hs he)⟩
theorem Fh {ws:List Nat} {f:Nat→Bool} (h:Nj ws f):∀x:UInt8,qC ws x.toNat=f x.toNat:=fun x=>h.2 _ (UInt8.toNat_lt x)
def anA (sub:Option (PB→PB×qW)) (sub':Option (PB→PB×bF)):Prop:=match sub,sub' with
 | none,none=>True
 | some f,some g=>∀b b',lq b b'→aaF b (f b) (g b')
 | _,_=>False
theorem ahs {s:List UInt8} {sub:Option (PB→PB×qW)} {sub':Option (PB→PB×bF)} (jc:anA sub sub') {c:UInt8} (h1:c≠124) (h2:c≠41) {b b':PB} (h:lq b b'):aaF b (dh s sub c b) (jw s sub' c b'):=by
 have SI:(aH b).aT=b.aT:=rfl;have hfs:∀e,(aW e (aH b)).aT=b.aT:=fun e=>by rw[fC];rfl
 unfold dh jw;split
 ·cases sub with
  | none=>
   cases sub' with
   | none=>exact Aq (hfs 3) (lq.fail δ δ) (fun he=>absurd he (iQ δ _))
   | some g=>exact jc.elim
  | some f=>
   cases sub' with
   | none=>exact jc.elim
   | some g=>
    obtain⟨q1,q2⟩:=jc (aH b) (aH b') h.EW;simp only;rw[q1.pk];refine⟨(ai6 (fun _=>q1) (fun _=>lq.fail δ δ)).EW,fun he=> ?_⟩;split at he
    ·rename_i hp;rw[if_pos hp];exact q2 he
    ·exact absurd he (iQ δ _)
 ·split
  ·obtain⟨q1,q2⟩:=adN (s:=s) h.EW;simp only;by_cases he:(kG s (aH b)).1.err=0
   ·refine Aq ?_ q1 (fun he=>Fh (q2 he));exact ahm s (aH b)
   ·exact⟨q1.same ⟨rfl,rfl⟩ ⟨rfl,rfl⟩,fun h0=>absurd h0 he⟩
  ·split
   ·exact Aq SI h.EW (fun _=>Fh (y7.turn))
   ·split
    ·rw[h.EW.pk];cases kK s (aH b) with
     | none=>exact Aq (hfs 2) (lq.fail δ δ).EW (fun _=>Fh (y7.add ω))
     | some d=>exact Aq SI h.EW.EW (fun _=>Fh (y7.add (UInt8.toNat_lt d)))
    ·rename_i c1 c2 c3 c4;have U4:Zw c = decide (c∈([42,43,63,93]:List UInt8)):=by
      unfold Zw;rw[Bool.eq_iff_iff];simp[c1,c2,c3,c4,h1,h2]
     by_cases ho:c∈([42,43,63,93]:List UInt8)
     ·rw[U4,if_pos (decide_eq_true ho),if_pos ho];exact Aq (hfs 2) (lq.fail δ δ) (fun he=>absurd he (iQ δ _))
     ·rw[U4,if_neg (by simpa using ho),if_neg ho];exact Aq SI h.EW (fun _=>Fh (y7.add (UInt8.toNat_lt c)))
theorem Hg.on {base l l':List mW} (h:Hg base l) (hl:l.length≤l'.length) (hE:∀i a j,i < base.length→(dG l' i a j↔dG l i a j)):Hg base l':=
 ⟨Nat.le_trans h.len hl,fun i a j hi=>(hE i a j hi).trans (h.edge i a j hi)⟩
theorem sZ {b:PB} {i j k m:Nat} {a:List UInt8}:dG (bG i j b).aT k a m↔dG b.aT k a m∨(k=i∧i < b.aT.length∧a = []∧m = j):=ahi
theorem TA {b:PB} {k m:Nat} {a:List UInt8}:dG (bg b).aT k a m↔dG b.aT k a m:=vZ
theorem abJ {s:List UInt8} {base:List mW} {b b':PB} {x:qW} {T:bF} (h:lq b b') (hF:b.err=0→Hg base b.aT∧vg b.aT base.length x T) :
 lq (eX s b x).1 (nD s b' T).1∧((eX s b x).1.err=0→Hg base (eX s b x).1.aT∧vg (eX s b x).1.aT base.length (eX s b x).2 (nD s b' T).2):=by
 unfold eX nD;rw[h.pk];cases hp:kK s b with
 | none=>exact⟨h,hF⟩
 | some c=>
  simp only;by_cases hc:JR c = true
  ·rw[if_pos hc,if_pos hc];have h0:=(dN hp).1;obtain⟨hO,hFr⟩:=hF h0;have l1:=hFr.lt1;have l2:=hFr.lt2;have l3:=hFr.lo1;have l4:=hFr.lo2;have lb:=hO.len;have hk4:c≠43↔ZJ c≠4:=by
    unfold JR at hc;simp at hc;rcases hc with rfl | rfl | rfl <;> decide
   have hk5:c≠63↔ZJ c≠5:=by
    unfold JR at hc;simp at hc;rcases hc with rfl | rfl | rfl <;> decide
   generalize hb1:bG x.2 (b.aT.length+1) (bG b.aT.length x.1 (bg (bg (aH b))))=b1;have e1:b1.at_=b.at_+1∧b1.err=b.err∧b1.aT.length=b.aT.length+2:=by
    subst hb1;refine⟨rfl,rfl,?_⟩;rw[cu,cu,d_,d_];rfl
   have E1:∀i a j,dG b1.aT i a j↔dG b.aT i a j∨(a = []∧((i = b.aT.length∧j = x.1)∨(i = x.2∧j = b.aT.length+1))):=by
    intro i a j;subst hb1;rw[sZ,sZ,TA,TA,cu,d_,d_];have:(aH b).aT=b.aT:=rfl;rw[this];constructor
    ·rintro ((h | ⟨h1,_,h3,h4⟩) | ⟨h1,_,h3,h4⟩)
     ·exact .inl h
     ·exact .inr ⟨h3,.inl ⟨h1,h4⟩⟩
     ·exact .inr ⟨h3,.inr ⟨h1,h4⟩⟩
    ·rintro (h | ⟨h3,⟨h1,h4⟩ | ⟨h1,h4⟩⟩)
     ·exact .inl (.inl h)
     ·exact .inl (.inr ⟨h1,ω,h3,h4⟩)
     ·exact .inr ⟨h1,ω,h3,h4⟩
   generalize hb2:(if c = 43 then b1 else bG b.aT.length (b.aT.length+1) b1)=b2;have e2:b2.at_=b.at_+1∧b2.err=b.err∧b2.aT.length=b.aT.length+2:=by
    subst hb2;split
    ·exact e1
    ·exact⟨e1.1,e1.2.1,by rw[cu];exact e1.2.2⟩
   have E2:∀i a j,dG b2.aT i a j↔dG b1.aT i a j∨(c≠43∧a = []∧i = b.aT.length∧j = b.aT.length+1):=by
    intro i a j;subst hb2;split
    ·rename_i apn;exact⟨.inl,fun h=>h.elim id (fun h=>absurd apn h.1)⟩
    ·rename_i apn;rw[sZ,e1.2.2];exact⟨fun h=>h.elim .inl (fun h=> .inr ⟨apn,h.2.2.1,h.1,h.2.2.2⟩),fun h=>h.elim .inl (fun h=> .inr ⟨h.2.2.1,ω,h.2.1,h.2.2.2⟩)⟩
   generalize hb3:(if c = 63 then b2 else bG x.2 x.1 b2)=b3;have e3:b3.at_=b.at_+1∧b3.err=b.err∧b3.aT.length=b.aT.length+2:=by
    subst hb3;split
    ·exact e2
    ·exact⟨e2.1,e2.2.1,by rw[cu];exact e2.2.2⟩
   have E3:∀i a j,dG b3.aT i a j↔dG b2.aT i a j∨(c≠63∧a = []∧i = x.2∧j = x.1):=by
    intro i a j;subst hb3;split
    ·rename_i apm;exact⟨.inl,fun h=>h.elim id (fun h=>absurd apm h.1)⟩
    ·rename_i apm;rw[sZ,e2.2.2];exact⟨fun h=>h.elim .inl (fun h=> .inr ⟨apm,h.2.2.1,h.1,h.2.2.2⟩),fun h=>h.elim .inl (fun h=> .inr ⟨h.2.2.1,ω,h.2.1,h.2.2.2⟩)⟩
   have E:∀i a j,dG b3.aT i a j↔dG b.aT i a j∨(a = []∧((i = b.aT.length∧j = x.1)∨(i = x.2∧j = b.aT.length+1)∨(ZJ c≠4∧i = b.aT.length∧j = b.aT.length+1)∨(ZJ c≠5∧i = x.2∧j = x.1))):=by
    intro i a j;rw[E3,E2,E1,hk4,hk5];constructor
    ·rintro (((h | ⟨ha,h | h⟩) | ⟨hk,ha,h⟩) | ⟨hk,ha,h⟩)
     ·exact .inl h
     ·exact .inr ⟨ha,.inl h⟩
     ·exact .inr ⟨ha,.inr (.inl h)⟩
     ·exact .inr ⟨ha,.inr (.inr (.inl ⟨hk,h⟩))⟩
     ·exact .inr ⟨ha,.inr (.inr (.inr ⟨hk,h⟩))⟩
    ·rintro (h | ⟨ha,h | h | ⟨hk,h⟩ | ⟨hk,h⟩⟩)
     ·exact .inl (.inl (.inl h))
     ·exact .inl (.inl (.inr ⟨ha,.inl h⟩))
     ·exact .inl (.inl (.inr ⟨ha,.inr h⟩))
     ·exact .inl (.inr ⟨hk,ha,h⟩)
     ·exact .inr ⟨hk,ha,h⟩
   refine⟨h.EW.same ⟨e3.1,e3.2.1⟩ ⟨rfl,rfl⟩,fun _=>⟨hO.on (by rw[e3.2.2];omega) (fun i a j hi=> ?_),akW hFr E e3.2.2⟩⟩;rw[E];exact⟨fun h=>h.elim id (fun h=>by obtain⟨_,h | h | ⟨_,h⟩ | ⟨_,h⟩⟩:=h <;> omega),.inl⟩
  ·rw[if_neg hc,if_neg hc];exact⟨h,hF⟩
section
variable {s:List UInt8} {sub:Option (PB→PB×qW)} {sub':Option (PB→PB×bF)}
theorem Y5 (jc:anA sub sub') {base:List mW}:∀(n:Nat) (l:List bF) (p:qW) (b b':PB),lq b b'→(b.err=0→Hg base b.aT∧vg b.aT base.length p (.row l))→
 lq (Ah s sub n p b).1 (yA s sub' n l b').1∧((Ah s sub n p b).1.err=0→Hg base (Ah s sub n p b).1.aT∧vg (Ah s sub n p b).1.aT base.length (Ah s sub n p b).2 (.row (yA s sub' n l b').2))
 | 0,_,_,_,_,h,hF=>⟨h,hF⟩
 | n + 1,l,p,b,b',h,hF=>by
  rw[Ah,yA,h.pk];cases hp:kK s b with
  | none=>exact⟨h,hF⟩
  | some c=>
   simp only;by_cases hc:c = 124∨c = 41
   ·rw[if_pos hc,if_pos hc];exact⟨h,hF⟩
   ·rw[if_neg hc,if_neg hc];obtain⟨hO,hFr⟩:=hF (dN hp).1;obtain⟨a1,a2⟩:=ahs (s:=s) jc (fun e=>hc (.inl e)) (fun e=>hc (.inr e)) h;obtain⟨t1,t2⟩:=abJ (s:=s) (base:=b.aT) (x:=(dh s sub c b).2) (T:=(jw s sub' c b').2) a1 a2;refine Y5 jc n _ _ _ _ (t1.same ⟨rfl,rfl⟩ ⟨rfl,rfl⟩) (fun he=> ?_);obtain⟨u1,u2⟩:=t2 he;have lt:=u2.lt2;have l1:=hFr.lt2;have l2:=hFr.lo2;have lb:=hO.len;have lu:=u1.len;have hE:∀i a j,dG (bG p.2 (eX s (dh s sub c b).1 (dh s sub c b).2).2.1 (eX s (dh s sub c b).1 (dh s sub c b).2).1).aT i a j↔dG (eX s (dh s sub c b).1 (dh s sub c b).2).1.aT i a j∨(i = p.2∧a = []∧j = (eX s (dh s sub c b).1 (dh s sub c b).2).2.1):=by
     intro i a j;rw[sZ];exact⟨fun h=>h.elim .inl (fun h=> .inr ⟨h.1,h.2.2⟩),fun h=>h.elim .inl (fun h=> .inr ⟨h.1,ω,h.2⟩)⟩
    refine⟨(hO.trans u1).on (by rw[cu];exact Nat.le_refl _) (fun i a j hi=> ?_),akV hFr u2 u1 hE (by rw[cu])⟩;rw[hE];exact⟨fun h=>h.elim id (fun h=>ω),.inl⟩
theorem aja {n:Nat} {p:qW} {b:PB} (h:b.err≠0):Ah s sub n p b = (b,p):=by
 cases n with
 | zero=>rfl
 | succ n=>rw[Ah,ajm h]
theorem IK (l:List mW):Hg l (l ++[fD]):=⟨by simp,fun _ _ _ _=>vZ⟩
theorem afI (jc:anA sub sub') {b b':PB} (h:lq b b'):aaF b (iO s sub b) (EK s sub' b'):=
 Y5 (base:=b.aT) jc (s.length+1) [] (b.aT.length,b.aT.length) (bg b) b' (h.same ⟨rfl,rfl⟩ ⟨rfl,rfl⟩) (fun _=>⟨IK b.aT,akY b.aT⟩)
theorem Ja (jc:anA sub sub') {base:List mW}:∀(n:Nat) (l:List bF) (p:qW) (b b':PB),p.1≠p.2→lq b b'→(b.err=0→Hg base b.aT∧vg b.aT base.length p (.alt l))→
 lq (iy s sub n p b).1 (jd s sub' n l b').1∧((iy s sub n p b).1.err=0→Hg base (iy s sub n p b).1.aT∧vg (iy s sub n p b).1.aT base.length (iy s sub n p b).2 (.alt (jd s sub' n l b').2))
 | 0,_,_,_,_,_,h,hF=>⟨h,hF⟩
 | n + 1,l,p,b,b',hne,h,hF=>by
  rw[iy,jd];obtain⟨r1,r2⟩:=afI (s:=s) jc h;have lN:(iO s sub b).1.err=0→b.err=0:=fun he=>by
   by_cases hb:b.err=0
   ·exact hb
   ·unfold iO at he;rw[aja (b:=bg b) hb] at he;exact absurd he hb
  have JJ:(iO s sub b).1.err=0→Hg base (bG (iO s sub b).2.2 p.2 (bG p.1 (iO s sub b).2.1 (iO s sub b).1)).aT∧vg (bG (iO s sub b).2.2 p.2 (bG p.1 (iO s sub b).2.1 (iO s sub b).1)).aT base.length p (.alt (l ++[(EK s sub' b').2])):=by
   intro he;obtain⟨hO,hFr⟩:=hF (lN he);obtain⟨u1,u2⟩:=r2 he;have l1:=hFr.lt1;have l2:=hFr.lo1;have l3:=u2.lt2;have l4:=u2.lo2;have lb:=hO.len;have lu:=u1.len;have hE:∀i a j,dG (bG (iO s sub b).2.2 p.2 (bG p.1 (iO s sub b).2.1 (iO s sub b).1)).aT i a j↔dG (iO s sub b).1.aT i a j∨(i = p.1∧a = []∧j = (iO s sub b).2.1)∨(i = (iO s sub b).2.2∧a = []∧j = p.2):=by
    intro i a j;rw[sZ,sZ,cu];constructor
    ·rintro ((h | h) | h)
     ·exact .inl h
     ·exact .inr (.inl ⟨h.1,h.2.2⟩)
     ·exact .inr (.inr ⟨h.1,h.2.2⟩)
    ·rintro (h | h | h)
     ·exact .inl (.inl h)
     ·exact .inl (.inr ⟨h.1,ω,h.2⟩)
     ·exact .inr ⟨h.1,ω,h.2⟩
   refine⟨(hO.trans u1).on (by rw[cu,cu];exact Nat.le_refl _) (fun i a j hi=> ?_),akZ hFr hne u2 u1 hE (by rw[cu,cu])⟩;rw[hE];exact⟨fun h=>h.elim id (fun h=>ω),.inl⟩
  have hs:lq (bG (iO s sub b).2.2 p.2 (bG p.1 (iO s sub b).2.1 (iO s sub b).1)) (EK s sub' b').1:=r1.same ⟨rfl,rfl⟩ ⟨rfl,rfl⟩;rw[hs.pk];split
  ·exact Ja jc n _ p _ _ hne hs.EW (fun he=>JJ he)
  ·exact⟨hs,JJ⟩
end
theorem MZ (s:List UInt8):∀(d:Nat) (b b':PB),lq b b'→aaF b (jB s d b) (m_ s d b')
 | 0,b,b',h=>Ja (base:=b.aT) (sub:=none) (sub':=none) trivial (s.length+1) [] (b.aT.length,b.aT.length+1) (bg (bg b)) b' σ (h.same ⟨rfl,rfl⟩ ⟨rfl,rfl⟩) (fun _=>⟨(IK b.aT).trans (IK _),V7 b.aT⟩)
 | d + 1,b,b',h=>Ja (base:=b.aT) (sub:=some (jB s d)) (sub':=some (m_ s d)) (MZ s d) (s.length+1) [] (b.aT.length,b.aT.length+1) (bg (bg b)) b' σ (h.same ⟨rfl,rfl⟩ ⟨rfl,rfl⟩) (fun _=>⟨(IK b.aT).trans (IK _),V7 b.aT⟩)
theorem VG (s:List UInt8):((qw s).1.err=0↔(Rw s).1.err=0)∧((qw s).1.err=0→vg (qw s).1.aT 0 (qw s).2 (Rw s).2):=by
 obtain⟨h1,h2⟩:=MZ s 8 ⟨0,0,[]⟩ ⟨0,0,[]⟩ (.inl ⟨rfl,rfl,rfl⟩);unfold qw Rw;simp only;generalize jB s 8 ⟨0,0,[]⟩=r at *
 generalize m_ s 8 ⟨0,0,[]⟩=r' at *
 rcases h1 with⟨e1,e2,e3⟩ | ⟨e1,e2⟩
 ·obtain⟨_,hF⟩:=h2 e1;by_cases hl:r'.1.at_<s.length
  ·have hl2:r.1.at_<s.length:=ω;rw[if_pos hl2,if_pos ⟨e2,hl⟩];exact⟨⟨fun h=>absurd h (iQ δ _),fun h=>absurd h (iQ δ _)⟩,fun h=>absurd h (iQ δ _)⟩
  ·have hl2:¬r.1.at_<s.length:=ω;rw[if_neg hl2,if_neg (fun h=>hl h.2)];exact⟨⟨fun _=>e2,fun _=>e1⟩,fun _=>hF⟩
 ·have hn:¬(r'.1.err=0∧r'.1.at_<s.length):=fun h=>e2 h.1
  rw[if_neg hn];have hb:(if r.1.at_<s.length then aW 2 r.1 else r.1).err≠0:=by
   split
   ·exact iQ δ _
   ·exact e1
  exact⟨⟨fun h=>absurd h hb,fun h=>absurd h e2⟩,fun h=>absurd h hb⟩
theorem Dk (s:List UInt8):ou s = 0↔lJ s = 0:=by
 unfold ou lJ;split
 ·simp
 ·exact (VG s).1
end Go.Proofs.YteojanlajhebhaaGreatDoor
namespace Go.Proofs.YteojanlajhebhaaGreatDoor
open Go.RowKit
def RdC (s:List UInt8) (b:PB):Array Value:= #[.string ⟨s.toArray⟩,.int .i64 (b.at_:Int),.int .i64 (b.err:Int)]
abbrev oV (w:World) (g:Nat) (s:List UInt8) (b:PB):Prop:=aS w g 174 (RdC s b)
theorem iR {w:World} {g:Nat} {s:List UInt8} {b:PB} (h:oV w g s b):oV (w.setCell ⟨g,1,none⟩ (.int .i64 ((b.at_:Int)+1))) g s (aH b):=by
 have e:(RdC s b).setIfInBounds 1 (.int .i64 ((b.at_:Int)+1))=RdC s (aH b):=rfl;rw[oV,←e];exact aS.dO h 1 _
theorem bP {w:World} {g:Nat} {s:List UInt8} {b:PB} (h:oV w g s b) :
 Calls Tryz.prog 144 #[.pointer (some ⟨g,0,none⟩)] w fun e w'=>e =.returned (iV s b)∧ah w w':=by
 have c0:w.cell? ⟨g,0,none⟩=some (.string ⟨s.toArray⟩):=(h.cell 0).trans rfl;have c1:w.cell? ⟨g,1,none⟩=some (.int .i64 (b.at_:Int)):=(h.cell 1).trans rfl;have c2:w.cell? ⟨g,2,none⟩=some (.int .i64 (b.err:Int)):=(h.cell 2).trans rfl;have hl:=h.lt;have hG:ah w w:=ah.refl w;by_cases he:b.err=0
 ·rw[he] at c2;by_cases ha:b.at_<s.length
  ·have hai:¬((s.length:Nat):Int)≤(b.at_:Int):=ω;have Il:s[b.at_]? = some s[b.at_]:=List.getElem?_eq_getElem ha;have hv:iV s b =.tuple #[.int .u8 (s[b.at_].toNat:Int),.bool true]:=by simp[iV,kK,he,Il]
   rw[hv];clear hv;replace h:=ζ h;go_enter Tryz.func144,Tryz.ntmps144
   go_wp2;refine aJ κ ?_;refine rK (.range 17) 0 ?_;iterate 17 refine aB ?_
   refine ay ?_;refine aP κ (fun wN hN hS=> ?_);clear hS;have d0:=(Below.cell (p:=⟨g,0,none⟩) hN.below hl).trans c0;have d1:=(Below.cell (p:=⟨g,1,none⟩) hN.below hl).trans c1;have hl1:=World.block_lt_of_cell? _ _ d0;simp only at hl1;replace hG:=hG.trans hN;clear hN c0 c1 c2 hl;go_wp2;refine aJ κ ?_;refine rK (.range 11) 0 ?_;iterate 11 refine aB ?_
   refine ay ?_;refine aP κ (fun wN hN hS=> ?_);go_wp2;go_ret2;exact⟨rfl,hG.trans hN⟩
  ·have hai:((s.length:Nat):Int)≤(b.at_:Int):=ω;have Il:s[b.at_]? = none:=List.getElem?_eq_none ω;have hv:iV s b =.tuple #[.int .u8 0,.bool false]:=by simp[iV,kK,he,Il]
   rw[hv];clear hv;replace h:=ζ h;go_enter Tryz.func144,Tryz.ntmps144
   go_wp2;refine aJ κ ?_;refine rK (.range 17) 0 ?_;iterate 17 refine aB ?_
   refine ay ?_;refine aP κ (fun wN hN hS=> ?_);go_wp2;go_ret2;exact⟨rfl,hG.trans hN⟩
 ·have hei:¬(b.err:Int)=0:=ω;have V3:((b.err:Int) != 0)=true:=by rw[bne_iff_ne];exact hei
  have hv:iV s b =.tuple #[.int .u8 0,.bool false]:=by simp[iV,kK,he]
  rw[hv];clear hv;replace h:=ζ h;go_enter Tryz.func144,Tryz.ntmps144
  go_wp2;refine aJ κ ?_;refine rK (.range 17) 0 ?_;iterate 17 refine aB ?_
  refine ay ?_;refine aP κ (fun wN hN hS=> ?_);go_wp2;go_ret2;exact⟨rfl,hG.trans hN⟩
theorem jI {w:World} {g e:Nat} {s:List UInt8} {b:PB} (h:oV w g s b) :
 Calls Tryz.prog 128 #[.pointer (some ⟨g,0,none⟩),.int .i64 (e:Int)] w fun r w'=>r =.returned (.tuple #[])∧oV w' g s (aW e b)∧w.grownBy w' (some g):=by
 have c2:w.cell? ⟨g,2,none⟩=some (.int .i64 (b.err:Int)):=(h.cell 2).trans rfl;have f2:=h.frozen 2;have hl:=h.lt;by_cases he:b.err=0
 ·rw[he] at c2;have hf:aW e b = {b with err:=e}:=by simp[aW,he]
  have aO:=aj w ⟨g,2,none⟩ (.int .i64 (e:Int));have hB:oV (w.setCell ⟨g,2,none⟩ (.int .i64 (e:Int))) g s (aW e b):=by
   rw[hf];exact aS.dO h 2 _
  replace hB:=ζ hB;replace aO:=ζ aO;clear hf h;go_enter Tryz.func128,Tryz.ntmps128
  go_wp2;go_end0;exact⟨rfl,hB.o,aO.o⟩
 ·have hei:¬(b.err:Int)=0:=ω;have hf:aW e b = b:=by simp[aW,he]
  rw[hf];clear hf;replace h:=ζ h;go_enter Tryz.func128,Tryz.ntmps128
  go_wp2;go_end0;exact⟨rfl,h.o,World.grownBy.refl _ _⟩
def aqc (g:Nat) (s:List UInt8) (w:World) (v:Value) (b:PB) (e:Ending) (w':World):Prop:=e =.returned v∧oV w' g s b∧w.grownBy w' (some g)
theorem Vy {w:World} {g:Nat} {s:List UInt8} {b:PB} (h:oV w g s b) (ha:b.at_<1000000000) :
 Calls Tryz.prog 179 #[.pointer (some ⟨g,0,none⟩)] w (aqc g s w (.int .u8 ((cZ s b).2.toNat:Int)) (cZ s b).1):=by
 have hG:=ζ (World.grownBy.refl w (some g));replace h:=ζ h;cases hp:kK s b with
 | none=>
  have KJ:cZ s b = (aW 2 (aH b),0):=by unfold cZ;rw[hp];rfl
  have jm:iV s b =.tuple #[.int .u8 0,.bool false]:=by simp only[iV,hp]
  replace KJ:=ζ KJ;clear hp;go_enter Tryz.func179,Tryz.ntmps179
  go_wp2_with fail;refine (bP h.o).mono ?_;rintro e w1 ⟨rfl,bZ⟩;replace h:=ζ (h.o.grows bZ);replace hG:=ζ (hG.o.trans (bZ.keeps (some g)));(try replace hF:=ζ (hF.o.grows bZ))
  (try replace aG:=ζ (aG.o.grows bZ))
  clear bZ;rw[jm];clear jm;have c1:w1.cell? ⟨g,1,none⟩=some (.int .i64 ((b).at_:Int)):=(h.o.cell 1).trans rfl;have f1:=h.o.frozen 1;have l1:=h.o.lt;have i1: -9223372036854775808≤((b).at_:Int)+1∧((b).at_:Int)+1≤9223372036854775807:=by first | omega | (simp only[aH];omega)
  have hA:=ζ (iR h.o);have aO:=aj w1 ⟨g,1,none⟩ (.int .i64 (((b).at_:Int)+1));have gU:=ζ (hG.o.trans aO);replace aO:=ζ aO;go_wp2_with fail;(try replace hF:=ζ (hF.o.far (p:=⟨g,1,none⟩) hFg.o (.int .i64 (((b).at_:Int)+1))))
  (try replace aG:=ζ (aG.o.far (p:=⟨g,1,none⟩) jE.o (.int .i64 (((b).at_:Int)+1))))
  clear c1 f1 l1 i1 h hG aO;generalize w1.setCell ⟨g,1,none⟩ (.int .i64 (((b).at_:Int)+1))=w2 at *
  have h:=hA;have hG:=gU;clear hA gU;go_wp2_with fail;refine (jI h.o).mono ?_;rintro e w3 ⟨rfl,Tf,iq⟩;replace hG:=ζ (hG.o.trans iq);(try replace hF:=ζ (hF.o.but iq hFg.o))
  (try replace aG:=ζ (aG.o.but iq jE.o))
  replace h:=ζ Tf;clear Tf iq;go_wp2_with fail;go_ret;rw[KJ.o];exact⟨rfl,h.o,hG.o⟩
 | some c=>
  have yO:=c.toNat_lt;by_cases hc:c = 92
  ·subst hc;have jm:iV s b =.tuple #[.int .u8 92,.bool true]:=by simp only[iV,hp];rfl
   cases hq:kK s (aH b) with
   | none=>
    have KJ:cZ s b = (aW 2 (aH (aH b)),0):=by unfold cZ;rw[hp,if_pos rfl,hq]
    have vP:iV s (aH b)=.tuple #[.int .u8 0,.bool false]:=by simp only[iV,hq]
    replace KJ:=ζ KJ;clear hp hq yO;go_enter Tryz.func179,Tryz.ntmps179
    go_wp2_with fail;refine (bP h.o).mono ?_;rintro e w1 ⟨rfl,bZ⟩;replace h:=ζ (h.o.grows bZ);replace hG:=ζ (hG.o.trans (bZ.keeps (some g)));(try replace hF:=ζ (hF.o.grows bZ))
    (try replace aG:=ζ (aG.o.grows bZ))
    clear bZ;rw[jm];clear jm;have c1:w1.cell? ⟨g,1,none⟩=some (.int .i64 ((b).at_:Int)):=(h.o.cell 1).trans rfl;have f1:=h.o.frozen 1;have l1:=h.o.lt;have i1: -9223372036854775808≤((b).at_:Int)+1∧((b).at_:Int)+1≤9223372036854775807:=by first | omega | (simp only[aH];omega)
    have hA:=ζ (iR h.o);have aO:=aj w1 ⟨g,1,none⟩ (.int .i64 (((b).at_:Int)+1));have gU:=ζ (hG.o.trans aO);replace aO:=ζ aO;go_wp2_with fail;(try replace hF:=ζ (hF.o.far (p:=⟨g,1,none⟩) hFg.o (.int .i64 (((b).at_:Int)+1))))
    (try replace aG:=ζ (aG.o.far (p:=⟨g,1,none⟩) jE.o (.int .i64 (((b).at_:Int)+1))))
    clear c1 f1 l1 i1 h hG aO;generalize w1.setCell ⟨g,1,none⟩ (.int .i64 (((b).at_:Int)+1))=w2 at *
    have h:=hA;have hG:=gU;clear hA gU;go_wp2_with fail;refine (bP h.o).mono ?_;rintro e w3 ⟨rfl,iq⟩;replace h:=ζ (h.o.grows iq);replace hG:=ζ (hG.o.trans (iq.keeps (some g)));(try replace hF:=ζ (hF.o.grows iq))
    (try replace aG:=ζ (aG.o.grows iq))
    clear iq;rw[vP];clear vP;have c1:w3.cell? ⟨g,1,none⟩=some (.int .i64 (((aH b)).at_:Int)):=(h.o.cell 1).trans rfl;have f1:=h.o.frozen 1;have l1:=h.o.lt;have i1: -9223372036854775808≤(((aH b)).at_:Int)+1∧(((aH b)).at_:Int)+1≤9223372036854775807:=by first | omega | (simp only[aH];omega)
    have hA:=ζ (iR h.o);have aO:=aj w3 ⟨g,1,none⟩ (.int .i64 ((((aH b)).at_:Int)+1));have gU:=ζ (hG.o.trans aO);replace aO:=ζ aO;go_wp2_with fail;(try replace hF:=ζ (hF.o.far (p:=⟨g,1,none⟩) hFg.o (.int .i64 ((((aH b)).at_:Int)+1))))
    (try replace aG:=ζ (aG.o.far (p:=⟨g,1,none⟩) jE.o (.int .i64 ((((aH b)).at_:Int)+1))))
    clear c1 f1 l1 i1 h hG aO;generalize w3.setCell ⟨g,1,none⟩ (.int .i64 ((((aH b)).at_:Int)+1))=w4 at *
    have h:=hA;have hG:=gU;clear hA gU;go_wp2_with fail;refine (jI h.o).mono ?_;rintro e w5 ⟨rfl,AY,jo⟩;replace hG:=ζ (hG.o.trans jo);(try replace hF:=ζ (hF.o.but jo hFg.o))
    (try replace aG:=ζ (aG.o.but jo jE.o))
    replace h:=ζ AY;clear AY jo;go_wp2_with fail;go_ret;rw[KJ.o];exact⟨rfl,h.o,hG.o⟩
   | some d=>
    have KJ:cZ s b = (aH (aH b),d):=by unfold cZ;rw[hp,if_pos rfl,hq]
    have vP:iV s (aH b)=.tuple #[.int .u8 (d.toNat:Int),.bool true]:=by simp only[iV,hq]
    replace KJ:=ζ KJ;clear hp hq yO;go_enter Tryz.func179,Tryz.ntmps179
    go_wp2_with fail;refine (bP h.o).mono ?_;rintro e w1 ⟨rfl,bZ⟩;replace h:=ζ (h.o.grows bZ);replace hG:=ζ (hG.o.trans (bZ.keeps (some g)));(try replace hF:=ζ (hF.o.grows bZ))
    (try replace aG:=ζ (aG.o.grows bZ))
    clear bZ;rw[jm];clear jm;have c1:w1.cell? ⟨g,1,none⟩=some (.int .i64 ((b).at_:Int)):=(h.o.cell 1).trans rfl;have f1:=h.o.frozen 1;have l1:=h.o.lt;have i1: -9223372036854775808≤((b).at_:Int)+1∧((b).at_:Int)+1≤9223372036854775807:=by first | omega | (simp only[aH];omega)
    have hA:=ζ (iR h.o);have aO:=aj w1 ⟨g,1,none⟩ (.int .i64 (((b).at_:Int)+1));have gU:=ζ (hG.o.trans aO);replace aO:=ζ aO;go_wp2_with fail;(try replace hF:=ζ (hF.o.far (p:=⟨g,1,none⟩) hFg.o (.int .i64 (((b).at_:Int)+1))))
    (try replace aG:=ζ (aG.o.far (p:=⟨g,1,none⟩) jE.o (.int .i64 (((b).at_:Int)+1))))
    clear c1 f1 l1 i1 h hG aO;generalize w1.setCell ⟨g,1,none⟩ (.int .i64 (((b).at_:Int)+1))=w2 at *
    have h:=hA;have hG:=gU;clear hA gU;go_wp2_with fail;refine (bP h.o).mono ?_;rintro e w3 ⟨rfl,iq⟩;replace h:=ζ (h.o.grows iq);replace hG:=ζ (hG.o.trans (iq.keeps (some g)));(try replace hF:=ζ (hF.o.grows iq))
    (try replace aG:=ζ (aG.o.grows iq))
    clear iq;rw[vP];clear vP;have c1:w3.cell? ⟨g,1,none⟩=some (.int .i64 (((aH b)).at_:Int)):=(h.o.cell 1).trans rfl;have f1:=h.o.frozen 1;have l1:=h.o.lt;have i1: -9223372036854775808≤(((aH b)).at_:Int)+1∧(((aH b)).at_:Int)+1≤9223372036854775807:=by first | omega | (simp only[aH];omega)
    have hA:=ζ (iR h.o);have aO:=aj w3 ⟨g,1,none⟩ (.int .i64 ((((aH b)).at_:Int)+1));have gU:=ζ (hG.o.trans aO);replace aO:=ζ aO;go_wp2_with fail;(try replace hF:=ζ (hF.o.far (p:=⟨g,1,none⟩) hFg.o (.int .i64 ((((aH b)).at_:Int)+1))))
    (try replace aG:=ζ (aG.o.far (p:=⟨g,1,none⟩) jE.o (.int .i64 ((((aH b)).at_:Int)+1))))
    clear c1 f1 l1 i1 h hG aO;generalize w3.setCell ⟨g,1,none⟩ (.int .i64 ((((aH b)).at_:Int)+1))=w4 at *
    have h:=hA;have hG:=gU;clear hA gU;go_ret;rw[KJ.o];exact⟨rfl,h.o,hG.o⟩
  ·have Yz:¬(c.toNat:Int)=92:=fun e=>hc (UInt8.toNat_inj.1 (by show c.toNat=92;omega))
   have jm:iV s b =.tuple #[.int .u8 (c.toNat:Int),.bool true]:=by simp only[iV,hp]
   have KJ:cZ s b = (aH b,c):=by unfold cZ;rw[hp,if_neg (by simpa using hc)]
   replace KJ:=ζ KJ;clear hp hc yO;go_enter Tryz.func179,Tryz.ntmps179
   go_wp2_with fail;refine (bP h.o).mono ?_;rintro e w1 ⟨rfl,bZ⟩;replace h:=ζ (h.o.grows bZ);replace hG:=ζ (hG.o.trans (bZ.keeps (some g)));(try replace hF:=ζ (hF.o.grows bZ))
   (try replace aG:=ζ (aG.o.grows bZ))
   clear bZ;rw[jm];clear jm;have c1:w1.cell? ⟨g,1,none⟩=some (.int .i64 ((b).at_:Int)):=(h.o.cell 1).trans rfl;have f1:=h.o.frozen 1;have l1:=h.o.lt;have i1: -9223372036854775808≤((b).at_:Int)+1∧((b).at_:Int)+1≤9223372036854775807:=by first | omega | (simp only[aH];omega)
   have hA:=ζ (iR h.o);have aO:=aj w1 ⟨g,1,none⟩ (.int .i64 (((b).at_:Int)+1));have gU:=ζ (hG.o.trans aO);replace aO:=ζ aO;go_wp2_with fail;(try replace hF:=ζ (hF.o.far (p:=⟨g,1,none⟩) hFg.o (.int .i64 (((b).at_:Int)+1))))
   (try replace aG:=ζ (aG.o.far (p:=⟨g,1,none⟩) jE.o (.int .i64 (((b).at_:Int)+1))))
   clear c1 f1 l1 i1 h hG aO;generalize w1.setCell ⟨g,1,none⟩ (.int .i64 (((b).at_:Int)+1))=w2 at *
   have h:=hA;have hG:=gU;clear hA gU;go_ret;rw[KJ.o];exact⟨rfl,h.o,hG.o⟩
end Go.Proofs.YteojanlajhebhaaGreatDoor
