/- Parts: PatT PatV PatW PatX PatY PatZ -/
import Derived.Test.YtbhikkgpcmkonaaGreatDoorVa0
import Derived.Test.YtbhikkgpcmkonaaGreatDoorVa12
import Derived.Test.YtbhikkgpcmkonaaGreatDoorVa16
import Derived.Test.YtbhikkgpcmkonaaGreatDoorVa5
import Derived.Test.YtbhikkgpcmkonaaGreatDoorVa6
set_option maxRecDepth 100000
set_option maxHeartbeats 12800000
namespace Go.Proofs.YtbhikkgpcmkonaaGreatDoor
def uy (l:List wC):Prop:=∀y∈l,(∀j∈y.free,j < l.length)∧y.next<l.length
theorem uy.node {l:List wC} (h:uy l):uy (l ++[uq]):=by
 intro y hy;rw[List.length_append];rcases List.mem_append.1 hy with h1 | h1
 ·exact⟨fun j hj=>Nat.lt_of_lt_of_le ((h y h1).1 j hj) σ,Nat.lt_of_lt_of_le (h y h1).2 σ⟩
 ·rw[List.mem_singleton] at h1;subst h1;exact⟨fun j hj=>by simp[uq] at hj,by simp[uq]⟩
theorem uy.mod {l:List wC} {i:Nat} {f:wC→wC} (h:uy l) (hf:∀y∈l,(∀j∈(f y).free,j < l.length)∧(f y).next<l.length):uy (l.modify i f):=by
 intro y hy;rw[List.length_modify];obtain⟨k,hk,rfl⟩:=List.mem_iff_getElem.1 hy;rw[List.getElem_modify];rw[List.length_modify] at hk;split
 ·exact hf _ (List.getElem_mem hk)
 ·exact h _ (List.getElem_mem hk)
theorem vw {b:PB} (h:uy b.aS):uy (aW b).aS:=h.node
theorem yQ {b:PB} {i j:Nat} (h:uy b.aS) (hj:j < b.aS.length):uy (bg i j b).aS:=
 uy.mod h fun y hy=>⟨fun k hk=>by
  rcases List.mem_append.1 hk with h1 | h1
  ·exact (h y hy).1 k h1
  ·rw[List.mem_singleton] at h1;subst h1;exact hj,(h y hy).2⟩
theorem zF {ws:List Nat} {b:PB} (h:uy b.aS):uy (ku ws b).1.aS:=by
 have h2:uy (aW (aW b)).aS:=vw (vw h);refine uy.mod h2 fun y hy=>⟨(h2 y hy).1,?_⟩
 show b.aS.length+1<_
 rw[dZ,dZ];omega
def akX (s:List UInt8) (sub:Option (PB→PB×qw)):Prop:=∀f,sub=some f→∀b,b.at_≤s.length→uy b.aS→uy (f b).1.aS
theorem akQ {s:List UInt8} {sub:Option (PB→PB×qw)} {c:UInt8} {b:PB} (hs:akX s sub) (hb:b.at_<s.length) (h:uy b.aS):uy (b_ s sub c b).1.aS:=by
 have Bl:(aK b).at_≤s.length:=by simp[aK];omega
 have ha:uy (aK b).aS:=h;unfold b_;split
 ·split
  ·exact zF (by rw[fK];exact ha)
  ·rename_i f;have h1:=hs f rfl (aK b) Bl ha;simp only;split
   ·exact h1
   ·show uy (bM 2 (f (aK b)).1).aS
    rw[fK];exact h1
 ·split
  ·refine zF ?_;rw[(Dt (s:=s) (b:=aK b) (WP.of_le Bl)).2.2];exact ha
  ·split
   ·exact zF ha
   ·split
    ·split
     ·refine zF ?_;show uy (bM 2 (aK b)).aS
      rw[fK];exact ha
     ·exact zF ha
    ·split
     ·exact zF (by rw[fK];exact ha)
     ·exact zF ha
theorem adL {s:List UInt8} {b:PB} {x:qw} (hx:IL x b) (h:uy b.aS):uy (fE s b x).1.aS:=by
 unfold fE;split
 ·exact h
 ·rename_i c hc;split
  ·have hl:(aW (aW (aK b))).aS.length=b.aS.length+2:=by simp[aW,aK]
   have h0:uy (aW (aW (aK b))).aS:=vw (vw h);have hx1:=hx.1;have h1:uy (bg b.aS.length x.1 (aW (aW (aK b)))).aS:=yQ h0 ω;have h2:uy (bg x.2 (b.aS.length+1) (bg b.aS.length x.1 (aW (aW (aK b))))).aS:=yQ h1 (by rw[dR];omega);have hp:∀(p:Prop) [Decidable p] (i j:Nat) (z:PB),uy z.aS→j < z.aS.length→uy (if p then z else bg i j z).aS∧(if p then z else bg i j z).aS.length=z.aS.length:=by
    intro p _ i j z hz hj;split
    ·exact⟨hz,rfl⟩
    ·exact⟨yQ hz hj,dR _ _ _⟩
   have h3:=hp (c = 43) b.aS.length (b.aS.length+1) _ h2 (by rw[dR,dR];omega);have h4:=hp (c = 63) x.2 x.1 _ h3.1 (by rw[h3.2,dR,dR];omega);exact h4.1
  ·exact h
theorem alV {s:List UInt8} {k:Nat} {sub:Option (PB→PB×qw)} (hv:akX s sub) (hs:Gq s k sub) (hk:2≤k):∀(f:Nat) (p:qw) (b:PB),WP s (k+1) b→IL p b→uy b.aS→uy (FC s sub f p b).1.aS:=by
 intro f;induction f with
 | zero=>intro p b _ _ h;exact h
 | succ f ih=>
  intro p b hW hI h;rw[FC];split
  ·exact h
  ·rename_i c hc;split
   ·exact h
   ·have h1:=Pe (c:=c) hs hk (iQ hc).2.1;have h2:=Ji h1.2.1 h1.2.2;have v1:=akQ (c:=c) hv (iQ hc).2.1 h;have v2:=adL (s:=s) h1.2.2 v1;have v3:uy (bg p.2 (fE s (b_ s sub c b).1 (b_ s sub c b).2).2.1 (fE s (b_ s sub c b).1 (b_ s sub c b).2).1).aS:=yQ v2 h2.2.2.1;exact ih (p.1,(fE s (b_ s sub c b).1 (b_ s sub c b).2).2.2) _ h2.2.1
     ⟨by rw[dR];exact Nat.lt_of_lt_of_le hI.1 (Nat.le_trans h1.1.len h2.1.len),by rw[dR];exact h2.2.2.2⟩ v3
theorem alT {s:List UInt8} {k:Nat} {sub:Option (PB→PB×qw)} (hv:akX s sub) (hs:Gq s k sub) (hk:2≤k) {b:PB} (hW:WP s (k+1) b) (h:uy b.aS):uy (jF s sub b).1.aS:=
 alV hv hs hk _ _ (aW b) hW ⟨by rw[dZ];simp,by rw[dZ];simp⟩ (vw h)
theorem abU {s:List UInt8} {k:Nat} {sub:Option (PB→PB×qw)} (hv:akX s sub) (hs:Gq s k sub) (hk:2≤k):∀(f:Nat) (p:qw) (b:PB),WP s (k+1) b→IL p b→uy b.aS→uy (gU s sub f p b).1.aS:=by
 intro f;induction f with
 | zero=>intro p b _ _ h;exact h
 | succ f ih=>
  intro p b hW hI h;rw[gU];have h1:=UF hs hk hW;have v1:=alT hv hs hk hW h;have v2:uy (bg p.1 (jF s sub b).2.1 (jF s sub b).1).aS:=yQ v1 h1.2.2.1;have v3:uy (bg (jF s sub b).2.2 p.2 (bg p.1 (jF s sub b).2.1 (jF s sub b).1)).aS:=yQ v2 (by rw[dR];exact Nat.lt_of_lt_of_le hI.2 h1.1.len);have hI2:IL p (bg (jF s sub b).2.2 p.2 (bg p.1 (jF s sub b).2.1 (jF s sub b).1)):=hI.mono (by rw[dR,dR];exact h1.1.len);split
  ·rename_i hp;exact ih p (aK (bg (jF s sub b).2.2 p.2 (bg p.1 (jF s sub b).2.1 (jF s sub b).1))) (WP.of_le (by have:=(iQ hp).2.1;simp[aK,bg] at this ⊢;omega)) hI2 v3
  ·exact v3
theorem abS (s:List UInt8):∀(d:Nat) (b:PB),b.at_≤s.length→uy b.aS→uy (jm s d b).1.aS:=by
 have hst:∀(sub:Option (PB→PB×qw)) (k:Nat) (b:PB),akX s sub→Gq s k sub→2≤k→b.at_≤s.length→uy b.aS→uy (gU s sub (s.length+1) (b.aS.length,b.aS.length+1) (aW (aW b))).1.aS:=by
  intro sub k b hv hs hk hb h;exact abU hv hs hk (s.length+1) (b.aS.length,b.aS.length+1) (aW (aW b)) (WP.of_le hb) ⟨by simp only[dZ];omega,by simp only[dZ];omega⟩ (vw (vw h))
 intro d;induction d with
 | zero=>intro b hb h;exact hst none 2 b (fun f hf=>by cases hf) (fun f hf=>by cases hf) ω hb h
 | succ d ih=>
  intro b hb h;refine hst (some (jm s d)) (3+d) b (fun f hf b hb h=>by injection hf with hf;subst hf;exact ih b hb h) (fun f hf b hb=>by injection hf with hf;subst hf;exact Gh s d b hb) ω hb h
structure adr (p:VQ):Prop where
 vp:uy p.aS
 start:p.start<p.aS.length
 stop:p.stop<p.aS.length
 len:p.aS.length≤10000
 fr:jJ p.aS≤10000
theorem aif {s:List UInt8} {p:VQ} (h:yG s = some p):adr p:=by
 unfold yG at h;split at h
 ·cases h
 ·rename_i hn;injection h with h
  have uf:s.length≤100:=by
   have:¬100<s.length:=fun hh=>hn (.inl hh)
   omega
  have h1:=Gh s 8 ⟨0,0,[]⟩ (Nat.zero_le _);have h2:=abS s 8 ⟨0,0,[]⟩ (Nat.zero_le _) (fun y hy=>by simp at hy);have h3:(wV s).1.aS=(jm s 8 ⟨0,0,[]⟩).1.aS:=by
   unfold wV;simp only;split
   ·exact fK _ _
   ·rfl
  have hc:=h1.1.cost;have hw:=h1.2.1.1;have aos:dY (jm s 8 ⟨0,0,[]⟩).1≤10000:=by
   have h0:dY ⟨0,0,[]⟩=0:=rfl;rw[h0] at hc;simp only at hc;omega
  unfold dY at aos;subst h;refine⟨?_,?_,?_,?_,?_⟩ <;> simp only[h3]
  ·exact h2
  ·exact h1.2.2.1
  ·exact h1.2.2.2
  ·omega
  ·omega
def vN (aS:List wC) (k:Nat):List Nat:=match aS[k]? with | some y=>y.free | none=>[]
def qx (g:wC→Nat) (out:List Nat):Nat→List wC→Nat
 | _,[]=>0
 | i,y ::r=>(if i∈out then 0 else g y)+qx g out (i + 1) r
theorem Si {g:wC→Nat} {out:List Nat} {k:Nat}:∀(r:List wC) (i:Nat),k<i→qx g (out++[k]) i r = qx g out i r
 | [],_,_=>rfl
 | y ::r,i,h=>by
  have hne:i≠k:=ω;unfold qx;rw[Si r (i + 1) ω];simp[hne]
theorem FD {g:wC→Nat} {out:List Nat} {k:Nat} {y:wC} (hk:k∉out):∀(r:List wC) (i:Nat),i≤k→r[k-i]? = some y→qx g (out++[k]) i r + g y = qx g out i r
 | [],_,_,h=>by simp at h
 | z ::r,i,hi,h=>by
  by_cases he:i = k
  ·subst he;rw[Nat.sub_self] at h;simp only[List.getElem?_cons_zero,Option.some.injEq] at h;subst h;unfold qx;rw[Si r (i + 1) ω];simp[hk];omega
  ·have h1:k-i = (k-(i + 1))+1:=ω;rw[h1,List.getElem?_cons_succ] at h;have ih:=FD (g:=g) hk r (i + 1) ω h;unfold qx;simp only[List.mem_append,List.mem_singleton,he,or_false];omega
theorem Kt:∀(r:List wC) (i:Nat),qx (fun y=>y.free.length) [] i r = jJ r
 | [],_=>rfl
 | y ::r,i=>by
  have:=Kt r (i + 1);unfold qx;rw[this];simp[jJ]
theorem Jl:∀(r:List wC) (i:Nat),qx (fun _=>1) [] i r = r.length
 | [],_=>rfl
 | y ::r,i=>by
  have:=Jl r (i + 1);unfold qx;rw[this];simp;omega
def oV (aS:List wC) (todo out:List Nat):Nat:=todo.length+qx (fun y=>y.free.length) out 0 aS
def uU (aS:List wC):Nat→List Nat→List Nat→List Nat
 | 0,_,out=>out
 | f + 1,todo,out=>match todo.getLast? with
  | none=>out
  | some k=>if k∈out then uU aS f todo.dropLast out else uU aS f (todo.dropLast++vN aS k) (out++[k])
theorem Xe {aS:List wC} {f:Nat} {todo out:List Nat} (hf:oV aS todo out≤f):uU aS f todo out=match todo.getLast? with
 | none=>out
 | some k=>if k∈out then uU aS (f - 1) todo.dropLast out else uU aS (f - 1) (todo.dropLast++vN aS k) (out++[k]):=by
 cases f with
 | zero=>
  have:todo=[]:=by
   unfold oV at hf;exact List.length_eq_zero_iff.1 ω
  subst this;rfl
 | succ f=>rfl
theorem adx {aS:List wC} {todo out:List Nat} (h:todo≠[]):oV aS todo.dropLast out+1=oV aS todo out:=by
 have:=List.length_pos_iff.2 h;unfold oV;rw[List.length_dropLast];omega
theorem ag7 {aS:List wC} {todo out:List Nat} {k:Nat} (h:todo≠[]) (hk:k∉out) (hn:k<aS.length):oV aS (todo.dropLast++vN aS k) (out++[k])+1=oV aS todo out:=by
 have h0:=List.length_pos_iff.2 h;have hy:aS[k]? = some aS[k]:=List.getElem?_eq_getElem hn;have:=FD (g:=fun y=>y.free.length) hk aS 0 (Nat.zero_le _) (by rw[Nat.sub_zero];exact hy);unfold oV vN;rw[hy,List.length_append,List.length_dropLast];simp only at *
 omega
theorem acB {aS:List wC} {out:List Nat} {k:Nat} (hk:k∉out) (hn:k<aS.length) (h:out.length+qx (fun _=>1) out 0 aS=aS.length):(out++[k]).length+qx (fun _=>1) (out++[k]) 0 aS=aS.length:=by
 have hy:aS[k]? = some aS[k]:=List.getElem?_eq_getElem hn;have:=FD (g:=fun _=>1) hk aS 0 (Nat.zero_le _) (by rw[Nat.sub_zero];exact hy);rw[List.length_append,List.length_singleton];omega
theorem Tz {aS:List wC} (hv:uy aS) {k:Nat}:∀j∈vN aS k,j < aS.length:=by
 intro j hj;unfold vN at hj;cases hy:aS[k]? with
 | none=>rw[hy] at hj;simp at hj
 | some y=>rw[hy] at hj;exact (hv y (List.mem_of_getElem? hy)).1 j hj
def sW (aS:List wC) (l:List Nat):List Nat:=uU aS (l.length+jJ aS) l []
theorem aec {aS:List wC} (hv:uy aS):∀(f:Nat) (todo out:List Nat),(∀k∈todo,k<aS.length)→(∀k∈out,k<aS.length)→out.length+qx (fun _=>1) out 0 aS=aS.length→
 (∀k∈uU aS f todo out,k<aS.length)∧(uU aS f todo out).length≤aS.length:=by
 intro f;induction f with
 | zero=>intro todo out _ h2 h3;exact⟨h2,by show out.length≤_;omega⟩
 | succ f ih=>
  intro todo out h1 h2 h3;rw[uU];split
  ·exact⟨h2,ω⟩
  ·rename_i k hk;have wB:k∈todo:=List.mem_of_getLast? hk;have hd:∀j∈todo.dropLast,j < aS.length:=fun j hj=>h1 j ((List.dropLast_sublist todo).subset hj)
   split
   ·exact ih _ _ hd h2 h3
   ·rename_i hno;refine ih _ _ ?_ ?_ (acB hno (h1 k wB) h3)
    ·intro j hj;rcases List.mem_append.1 hj with hj | hj
     ·exact hd j hj
     ·exact Tz hv j hj
    ·intro j hj;rcases List.mem_append.1 hj with hj | hj
     ·exact h2 j hj
     ·rw[List.mem_singleton] at hj;subst hj;exact h1 _ wB
theorem Jo {aS:List wC} (hv:uy aS) {l:List Nat} (hl:∀k∈l,k<aS.length):(∀k∈sW aS l,k<aS.length)∧(sW aS l).length≤aS.length:=
 aec hv _ _ _ hl (fun k hk=>by simp at hk) (by rw[Jl];simp)
def iP (aS:List wC) (c:Nat) (out:List Nat) (k:Nat):List Nat:=match aS[k]? with
 | none=>out
 | some y=>match y.set with
  | none=>out
  | some ws=>if Vk ws c then out++[y.next] else out
def BD (aS:List wC) (c:Nat) (l:List Nat):List Nat:=l.foldl (iP aS c) []
theorem ZG {aS:List wC} (hv:uy aS) {c:Nat} {out:List Nat} {k:Nat} (h:∀j∈out,j < aS.length):(∀j∈iP aS c out k,j < aS.length)∧(iP aS c out k).length≤out.length+1:=by
 unfold iP;split
 ·exact⟨h,ω⟩
 ·rename_i y hy;split
  ·exact⟨h,ω⟩
  ·split
   ·refine⟨fun j hj=> ?_,by simp⟩;rcases List.mem_append.1 hj with hj | hj
    ·exact h j hj
    ·rw[List.mem_singleton] at hj;subst hj;exact (hv y (List.mem_of_getElem? hy)).2
   ·exact⟨h,ω⟩
theorem WW {aS:List wC} (hv:uy aS) {c:Nat}:∀(l out:List Nat),(∀j∈out,j < aS.length)→(∀j∈l.foldl (iP aS c) out,j < aS.length)∧(l.foldl (iP aS c) out).length≤out.length+l.length
 | [],out,h=>⟨h,by simp⟩
 | k::l,out,h=>by
  have h1:=ZG hv (c:=c) (k:=k) h;have h2:=WW hv (c:=c) l _ h1.1;exact⟨h2.1,by rw[List.length_cons];have:=h2.2;simp only[List.foldl_cons];omega⟩
theorem ND {aS:List wC} (hv:uy aS) {c:Nat} (l:List Nat):(∀j∈BD aS c l,j < aS.length)∧(BD aS c l).length≤l.length:=by
 have:=WW hv (c:=c) l [] (fun j hj=>by simp at hj);exact⟨this.1,by have:=this.2;simp at this;exact this⟩
end Go.Proofs.YtbhikkgpcmkonaaGreatDoor
namespace Go.Proofs.YtbhikkgpcmkonaaGreatDoor
open Go.RowKit
theorem akx {A:Option Addr} {m c:Nat} {xs:List Nat} (w:World) (h:bW w 1 encI A m xs) (hm:m≤65536) :
 Calls Tryz.prog 268 #[.slice A m c] w fun e w'=>∃v,e =.returned v∧Own w' w.heap.size 3 1 encI v xs∧ah w w':=by
 have heq:=fun (w:World)=>Lib.run_eql_slice_nil (P:=Tryz.prog) w 71 3 A m c 0 0 Tryz.underlying71
 have hlen:=h.1;cases A with
 | none=>
  obtain⟨rfl,rfl⟩:=h.acF;clear hlen h;go_enter Tryz.func268,Tryz.ntmps268
  go_wp2;go_ret;exact⟨_,rfl,Own.iH _ _ _ _ _,ah.refl _⟩
 | some ad=>
  have hown:Own (w.alloc (.cells #[] 3)) w.heap.size 3 1 encI (.slice (some ⟨w.heap.size,0,none⟩) ([]:List Nat).length 0) []:=
   Own.mk_ (cur:= #[]) Ig ω (Nat.le_refl _) (heap_alloc_new w _) σ (by simp[maxLen]) σ (fun q hq=>by simp at hq)
  have kC:=h.keep ((ah.refl w).alloc (.cells #[] 3));replace hlen:=ζ hlen;clear h;go_enter Tryz.func268,Tryz.ntmps268
  go_wp2_with (at_builtin;refine nZ YU rfl (.tmp 5) (.tmp 6) rfl hown rfl ad rfl kC Ig Xl σ (by simp;unfold maxLen;omega) (by simp;omega) (fun v1 w1 hown1 hgr hat=> ?_));have hb1:Below w.heap.size w w1:=Own.below hown ((Below.refl _ _).alloc (Nat.le_refl _) _) (Nat.le_refl _) σ hgr;clear hgr hat;go_wp2;go_ret;exact⟨v1,rfl,by simpa using hown1,hb1⟩
theorem aaW {A:Option Addr} {m c:Nat} {l:List Nat} {v:Nat} (w:World) (hA:bW w 1 encI A m l) (hm:m≤9223372036854775807) :
 Calls Tryz.prog 270 #[.slice A m c,.int .i64 (v:Int)] w fun e w'=>e =.returned (.int .i64 (placeOf (fun x=>v ==x) l))∧ah w w':=by
 have lJ:=hA.1;obtain⟨R,hR⟩:∃R,R=placeOf (fun x=>v ==x) l:=⟨_,rfl⟩;rw[←hR];replace hR:=ζ hR;replace hA:=ζ hA;go_enter Tryz.func270,Tryz.ntmps270
 go_wp2;go_loopw [4,5,8] (fun r _ i wr=>∃k:Nat,k≤m∧i =.int .i64 k∧r =.int .i64 0∧Hid (∀j y,j < k→l[j]? = some y→(v ==y)=false)∧wr=w) (fun _ _ i _=>m - (intOf i).toNat)
 case atStart=>exact⟨0,ω,rfl,rfl,fun _ _ h=>absurd h ω,rfl⟩
 case round=>
  obtain⟨k,hk,rfl,rfl,hall,rfl⟩:=hrel;by_cases wB:k<m
  ·obtain⟨bb,off,x,rfl,GV,hx,hcell⟩:=hA.o.at_ wB;have c0:wr.cell? ⟨bb,off+k,none⟩=some (.int .i64 (x:Int)):=by simpa using hcell 0 _ rfl
   have kY:(k:Int)<(m:Int):=ω;cases hvx:v ==x with
   | true=>
    have hvi:(v:Int)=(x:Int):=by have:=beq_iff_eq.1 hvx;omega
    have hvb:((v:Int)==(x:Int))=true:=by simpa using hvi
    replace hvx:=ζ hvx;clear hvi;have aQ:Hid (R=(k:Int)):=ζ (by rw[hR.o];exact iW hx hvx.o hall.o);clear hR hall hcell hx;go_wp2;go_ret;exact⟨by rw[aQ.o];rfl,ah.refl _⟩
   | false=>
    have hvi:¬(v:Int)=(x:Int):=fun e=>by
     have h1:v = x:=ω;rw[h1] at hvx;simp at hvx
    have hvb:((v:Int)==(x:Int))=false:=by simpa using hvi
    clear hvi;replace hvx:=ζ hvx;have iY:=ζ (show ∀j y,j < k+1→l[j]? = some y→(v ==y)=false from fun j y hj hy=>by
     by_cases hjk:j = k
     ·subst hjk;rw[hx] at hy;rw[←Option.some.inj hy];exact hvx.o
     ·exact hall.o j y ω hy)
    clear hR hall hcell hx;go_wp2;go_roundw
    case rel=>exact⟨k+1,ω,ν,rfl,iY,trivial⟩
    case measure=>exact ψ
  ·obtain rfl:k=m:=ω;have aQ:Hid (R=-1):=ζ (by rw[hR.o];exact iC fun j y hy=>hall.o j y (by have:=(List.getElem?_eq_some_iff.1 hy).1;omega) hy);clear hR hall;go_wp2;go_ret;exact⟨by rw[aQ.o];rfl,ah.refl _⟩
theorem ajy {A:Option Addr} {m c:Nat} {l:List Nat} {v:Nat} (w:World) (hA:bW w 1 encI A m l) (hm:m≤9223372036854775807) :
 Calls Tryz.prog 253 #[.slice A m c,.int .i64 (v:Int)] w fun e w'=>e =.returned (.bool (l.any fun x=>v ==x))∧ah w w':=by
 have cI:=aaW (c:=c) (v:=v) w hA hm;have hp:=iE (fun x=>v ==x) l;generalize (l.any fun x=>v ==x)=R at *
 generalize placeOf (fun x=>v ==x) l = P at *
 subst hp;replace cI:=ζ cI;clear hA;go_enter Tryz.func253,Tryz.ntmps253
 go_wp2_with fail;refine (cI.out).mono ?_;rintro e w1 ⟨rfl,hg⟩;go_wp2;go_ret;exact⟨rfl,hg⟩
theorem Xi {w:World} {base:Nat} {v:Value} {xs ys:List Nat} (h:Own w base 3 1 encI v xs) (h':Own w base 3 1 encI v ys):xs=ys:=by
 obtain⟨A,c,e1,-,-,a1⟩:=h.arr Ig;obtain⟨A',c',e2,-,-,a2⟩:=h'.arr Ig;rw[e1] at e2;simp only[Value.slice.injEq] at e2;obtain⟨rfl,hl,rfl⟩:=e2;apply List.ext_getElem hl;intro i h1 h2;obtain⟨b,off,x,eA,_,hx,hc⟩:=a1.at_ h1;obtain⟨b',kJ,y,eA',_,hy,hc'⟩:=a2.at_ h2;rw[eA] at eA';injection eA' with eA'
 injection eA' with e3 e4 _
 subst e3 e4;have c1:=hc 0 _ rfl;have c2:=hc' 0 _ rfl;rw[c1] at c2;injection c2 with c2
 injection c2 with _ c2
 have yN:=(List.getElem?_eq_some_iff.1 hx).2;have hy':=(List.getElem?_eq_some_iff.1 hy).2;omega
theorem Nr {w:World} {base:Nat} {vo vt:Value} {todo out:List Nat} {aS:List wC} (ho:Own w base 3 1 encI vo out) (ht:Own w base 3 1 encI vt todo) :
 (Classical.epsilon fun (n:Nat)=>∃todo out,Own w base 3 1 encI vo out∧Own w base 3 1 encI vt todo∧n = oV aS todo out)=oV aS todo out:=by
 have:=Classical.epsilon_spec (p:=fun (n:Nat)=>∃todo out,Own w base 3 1 encI vo out∧Own w base 3 1 encI vt todo∧n = oV aS todo out) ⟨_,todo,out,ho,ht,rfl⟩;obtain⟨t2,o2,h1,h2,h3⟩:=this;rw[h3,Xi h1 ho,Xi h2 ht]
theorem Own.NZ {α:Type} {w:World} {b0 k MB:Nat} {e:TypeId} {enc:α→List Value} {v:Value} {xs:List α} {l:List Nat} (h:Own w b0 e k enc v xs) (hM:D6 w MB l):v.ownBlock≠some MB:=fun hv=>by
 obtain⟨cur,hc⟩:=bV h hv;exact hM.aX _ _ _ hc
theorem Sl {w:World} {bs gp:Nat} {s:List UInt8} {sv:Value} {xs:List xH} {p:VQ} {A:Option Addr} {m c:Nat} {l:List Nat} (hP:aF w gp 363 #[.string ⟨s.toArray⟩,sv,.int .i64 (p.start:Int),.int .i64 (p.stop:Int)]) (hS:Ub w bs xs sv p.aS) (oh:adr p) (hA:bW w 1 encI A m l) (hm:m≤60000) (hl:∀k∈l,k<p.aS.length) :
 Calls Tryz.prog 251 #[.pointer (some ⟨gp,0,none⟩),.slice A m c] w fun e w'=>∃v,e =.returned v∧Own w' w.heap.size 3 1 encI v (o_ (sW p.aS l))∧ah w w':=by
 have lJ:=hA.1;have uf:=hS.len;obtain⟨sA,sc,V3,-,-,QZ⟩:=hS.own.arr Ve;obtain⟨R,PG⟩:∃R,R=sW p.aS l:=⟨_,rfl⟩;have hRb:R.length≤p.aS.length:=by rw[PG];exact (Jo oh.vp hl).2
 rw[←PG];replace PG:=ζ PG;have aAc:Hid (R.length<4611686018427387904):=ζ (by have:=oh.len;omega);have hM0:=D6.made w;have hg1:ah w (w.alloc (.map #[] 0)):=(ah.refl _).alloc _;replace hA:=ζ (hA.keep hg1);replace hP:=ζ hP;replace hS:=ζ hS;replace QZ:=ζ QZ;replace oh:=ζ oh;replace hl:=ζ hl;replace lJ:=ζ lJ;replace uf:=ζ uf;replace V3:=ζ V3;have hmm:= @run_makeMap Tryz.prog;go_enter Tryz.func251,Tryz.ntmps251
 go_wp2_with fail;refine (akx (c:=c) _ hA.o ω).mono ?_;rintro e w2 ⟨vt,rfl,hT,hg2⟩;have hM:=ζ (hM0.kept (hg2.uw none) σ);have hG:=ζ (hg1.trans hg2);have hMB:Hid (w.heap.size≤w.heap.size):=ζ (Nat.le_refl _);replace hT:=ζ (hT.bJ (show w.heap.size≤_ by simp));clear hM0 hg1 hg2;generalize Vt:w.heap.size=MB at *
 replace Vt:=ζ Vt;clear hmm hA;have atT:oV p.aS l []=l.length+jJ p.aS:=by unfold oV;rw[Kt]
 have Tc:Hid (oV p.aS l []≤l.length+jJ p.aS):=ζ ω;have hwb:Hid (oV p.aS l []≤70000):=ζ (by rw[atT];have:=oh.o.fr;have:=lJ.o;omega);have hon:Hid (([]:List Nat).length+qx (fun _=>1) [] 0 p.aS=p.aS.length):=ζ (by rw[Jl];simp);have hRr:Hid (R=uU p.aS (l.length+jJ p.aS) l []):=PG;have hap:Hid (∀g,(Value.slice none 0 0).ownBlock=some g→vt.ownBlock≠some g):=ζ (fun g hg=>by cases hg);have SS:Hid (∀k∈([]:List Nat),k<p.aS.length):=ζ (fun k hk=>by simp at hk);have LX:=ζ (Own.iH w2 MB 3 1 encI);clear atT;go_wp2;go_loopw [6,7,8] (fun vo vt _ wr=>∃(f:Nat) (todo out:List Nat),Hid (oV p.aS todo out≤f)∧Hid (oV p.aS todo out≤70000)∧Hid (R=uU p.aS f todo out)∧Hid (∀k∈todo,k<p.aS.length)∧Hid (∀k∈out,k<p.aS.length)∧Hid (out.length+qx (fun _=>1) out 0 p.aS=p.aS.length)∧Hid (Own wr MB 3 1 encI vo out)∧Hid (Own wr MB 3 1 encI vt todo)∧Hid (∀g,vo.ownBlock=some g→vt.ownBlock≠some g)∧Hid (D6 wr MB out)∧Hid (ah w wr)) (fun vo vt _ wr=>Classical.epsilon fun (n:Nat)=>∃todo out,Own wr MB 3 1 encI vo out∧Own wr MB 3 1 encI vt todo∧n = oV p.aS todo out)
 case atStart=>exact⟨_,l,[],Tc,hwb,hRr,hl,SS,hon,LX,hT,hap,hM,hG⟩
 case round=>
  clear Tc hwb hRr SS hon LX hT hap hM hG hl;obtain⟨f,todo,out,hf,hwb,hR,hl,SS,hon,hO,hT,hap,hM,hG⟩:=hrel;have Ib:=ζ (Nr (aS:=p.aS) hO.o hT.o);have hstep:=Xe hf.o;rw[←hR.o] at hstep;by_cases h0:todo=[]
  ·subst h0;simp only[List.getLast?_nil] at hstep;replace hstep:=ζ hstep;obtain⟨tA,tc,htv,-⟩:=hT.o.arr Ig;simp only[List.length_nil] at htv;subst htv;obtain⟨wc,aE7,Cc⟩:=ZN (ty:=0) hM.o;have kP:=ζ (hO.o.kept' Cc (fun g hg hv=>by injection hg with hg;subst hg;exact hO.o.NZ hM.o hv));have hGc:=ζ (hG.o.aO Cc (fun g hg=>by injection hg with hg;subst hg;exact Nat.le_of_eq Vt.o));have SV:Hid (out.length<4611686018427387904):=ζ (by rw[←hstep.o];exact aAc.o);clear hO hT hap hM hG Cc Ib;go_wp2_with fail;refine (ahV kP.o SV.o).mono ?_;rintro e w9 ⟨rfl,hO9,iG⟩;go_wp2;go_ret;refine⟨_,rfl,?_,hGc.o.aO iG (fun g hg=>Nat.le_trans (Nat.le_of_eq Vt.o) (kP.o.Md g hg).1)⟩;rw[hstep.o,Vt.o];exact hO9
  ·have LV:=List.length_pos_iff.2 h0;obtain⟨gT,aq1,htv⟩:=yH hT.o LV;obtain⟨n,hn⟩:∃n,todo.length=n + 1:=⟨todo.length-1,ω⟩;rw[hn] at htv;subst htv;obtain⟨_,_,_,_,Cb,hcm,_,_⟩:=hT.o.tu Ig;obtain⟨k,hk,hcell,-⟩:=hT.o.at_ Ig (i:=n) ω;have c0:wr.cell? ⟨gT,n,none⟩=some (.int .i64 (k:Int)):=by simpa using hcell 0 _ rfl
   have EJ:todo.getLast? =some k:=by rw[List.getLast?_eq_getElem?,hn];exact hk
   have S9:=hl.o k (List.mem_of_getElem? hk);have hdl:todo.dropLast=todo.take n:=by rw[List.dropLast_eq_take,hn];rfl
   have V7:=hT.o.cut Ig ω (i:=n) ω;rw[←hdl] at V7;replace V7:=ζ V7;rw[EJ] at hstep;have hkb:k<4611686018427387904:=by have:=oh.o.len;omega
   have rW:=hM.o.look (s:=k) hkb;have aEq:(n:Int)≤(aq1:Int):=ω;have hni:(n:Int)<(n:Int)+1:=ω;have aE6:(aq1:Int)≤9223372036854775807:=by unfold maxLen at hcm;omega
   have hws:=ζ (adx (aS:=p.aS) (out:=out) h0);have hdm:Hid (∀j∈todo.dropLast,j < p.aS.length):=ζ (fun j hj=>hl.o j ((List.dropLast_sublist todo).subset hj));replace S9:=ζ S9;by_cases Ih:k∈out
   ·simp only[Ih,if_true] at hstep;rw[decide_eq_true Ih] at rW;replace hstep:=ζ hstep;clear hcell hk EJ hdl hT Ih;go_wp2;go_roundw
    case rel=>exact⟨f - 1,todo.dropLast,out,ζ (by have:=hws.o;have:=hf.o;omega),ζ (by have:=hws.o;have:=hwb.o;omega),hstep,hdm,SS,hon,hO,V7,hap,hM,hG⟩
    case measure=>rw[Ib.o,Nr (aS:=p.aS) hO.o V7.o];have:=hws.o;omega
   ·simp only[Ih,if_false] at hstep;rw[decide_eq_false Ih] at rW;replace hstep:=ζ hstep;have hwn:=ζ (ag7 (aS:=p.aS) h0 Ih S9.o);have auh:=ζ (acB Ih S9.o hon.o);obtain⟨y,hy⟩:∃y,p.aS[k]? = some y:=⟨_,List.getElem?_eq_getElem S9.o⟩;obtain⟨x,hx⟩:∃x,xs[k]? = some x:=⟨_,List.getElem?_eq_getElem (by rw[uf.o];exact S9.o)⟩;obtain⟨hs1,hs2,hs3⟩:=hS.o.st k x y hx hy;obtain⟨fA,fc,hfv,-,-,-⟩:=hs3.arr Ig;have hfo:vN p.aS k=y.free:=by unfold vN;rw[hy]
    have Bh:Hid (n + y.free.length≤70000):=ζ (by
     have h1:=hwn.o;have h2:=hwb.o;rw[hfo] at h1;unfold oV at h1 h2;rw[List.length_append,List.length_dropLast,hn] at h1;omega)
    have abe:k<xs.length:=by rw[uf.o];exact S9.o
    obtain⟨bb,off,x',aa6,hsz,yN,hcs⟩:=QZ.o.at_ abe;rw[hx] at yN;injection yN with yN
    subst yN;have cF:w.cell? ⟨bb,off+k*3+2,none⟩=some (.slice fA y.free.length fc):=by rw[←hfv];exact hcs 2 _ rfl
    rw[aa6] at V3;have cP:w.cell? ⟨gp,1,none⟩=some (.slice (some ⟨bb,off,none⟩) xs.length sc):=by rw[←V3.o];exact (hP.o.cell 1).trans rfl
    have kY:(k:Int)<(xs.length:Int):=ω;have ay5:Hid (∀j∈out++[k],j < p.aS.length):=ζ (fun j hj=>by
     rcases List.mem_append.1 hj with hj | hj
     ·exact SS.o j hj
     ·rw[List.mem_singleton] at hj;subst hj;exact S9.o)
    have ayA:Hid (∀j∈todo.dropLast++vN p.aS k,j < p.aS.length):=ζ (fun j hj=>by
     rcases List.mem_append.1 hj with hj | hj
     ·exact hdm.o j hj
     ·exact Tz oh.o.vp j hj)
    have hob:Hid (out.length<10000):=ζ (by have:=oh.o.len;have h3:=auh.o;rw[List.length_append,List.length_singleton] at h3;omega);have aoq:Hid (todo.dropLast.length=n):=ζ (by rw[List.length_dropLast,hn];rfl);replace cF:=ζ cF;replace cP:=ζ cP;replace hs3:=ζ hs3;rw[hfv] at hs3;replace hfo:=ζ hfo;have avv:=ζ (Nat.le_of_eq Vt.o.symm:MB≤w.heap.size);clear hcell hk EJ hdl Ih hs1 hs2 hfv aa6 hsz hcs hx hy hT V3 hn abe;go_wp2_with (first
     | (at_mapUpdate;refine Wu hM.o rfl _ _ _ rfl (by have:=hob.o;unfold maxLen;omega) k hkb rfl rfl rfl ?_;intro w3 Zf kZ;(have iT:=ζ (hO.o.kept' kZ (fun g hg hv=>by injection hg with hg;subst hg;exact hO.o.NZ hM.o hv)));(have hT3:=ζ (V7.o.kept' kZ (fun g hg hv=>by injection hg with hg;subst hg;exact V7.o.NZ hM.o hv)));(have qo:=ζ (hG.o.aO kZ (fun g hg=>by injection hg with hg;subst hg;exact Nat.le_of_eq Vt.o)));(replace Zf:=ζ Zf);clear kZ)
     | (at_builtin;refine dH (x:=k) YU rfl (.tmp 32) (.tmp 34) rfl (iT.o.alloc _) rfl ⟨w3.heap.size,0,none⟩ rfl rfl (iK (by exact heap_alloc_new w3 _)) (Xl k) (by have:=avv.o;have:=qo.o.size;simp;omega) (by have:=hob.o;unfold maxLen;omega) (by have:=hob.o;omega) (fun v4 w4 lq iR amS=> ?_);(have Vm:=ζ ((hT3.o.alloc _).kept' iR (fun g hg hv=>hap.o g hg hv)));(have hM4:=ζ ((Zf.o.kept (World.grownBy_alloc w3 _ none) σ).kept iR (fun e=>iT.o.NZ Zf.o e.symm)));(have rH:=ζ ((qo.o.alloc _).aO iR (fun g hg=>Nat.le_trans (Nat.le_of_eq Vt.o) (iT.o.Md g hg).1)));(have avc:=ζ (fun g (hg:v4.ownBlock=some g) (hv:(Value.slice (some ⟨gT,0,none⟩) n aq1).ownBlock=some g)=>by
      rcases amS with e | e
      ·rw[e] at hg;exact hap.o g hg hv
      ·rw[e] at hg;injection hg with hg;have h5:=(World.ownsRow.lt hT3.o g hv).2;simp at hg;omega));(have hS4:=ζ (hS.o.grows rH.o));(have cP4:=rH.o.cell cP.out);(have cF4:=rH.o.cell cF.out);(have hF4:=ζ (hs3.o.grows rH.o));(replace lq:=ζ lq);clear iR amS)
     | (at_builtin;obtain⟨fA',fc',hfe,-,-,hFa⟩:=hF4.o.arr Ig;simp only[Value.slice.injEq] at hfe;obtain⟨rfl,_,rfl⟩:=hfe;refine f_ YU rfl (.tmp 36) (.tmp 44) rfl Vm.o rfl rfl hFa Ig Xl (by have:=avv.o;have:=rH.o.size;omega) (by have:=Bh.o;have:=aoq.o;unfold maxLen;omega) (by have:=Bh.o;have:=aoq.o;omega) ?_;intro v5 w5 hT5 F7 avb;(have lZ:=ζ (lq.o.kept' F7 (fun g hg hv=>avc.o g hv hg)));(have hM5:=ζ (hM4.o.kept F7 (fun e=>Vm.o.NZ hM4.o e.symm)));(have oL:=ζ (rH.o.aO F7 (fun g hg=>Nat.le_trans (Nat.le_of_eq Vt.o) (Vm.o.Md g hg).1)));(have azW:=ζ (fun g (hg:v4.ownBlock=some g) (hv:v5.ownBlock=some g)=>by
      rcases avb with e | e
      ·rw[e] at hv;exact avc.o g hg hv
      ·rw[e] at hv;injection hv with hv;have h5:=(World.ownsRow.lt lq.o g hg).2;omega));(replace hT5:=ζ hT5);clear F7 avb))
    go_roundw
    case rel=>exact⟨f - 1,todo.dropLast++vN p.aS k,out++[k],ζ (by have:=hwn.o;have:=hf.o;omega),ζ (by have:=hwn.o;have:=hwb.o;omega),hstep,ayA,ay5,auh,lZ,ζ (by rw[hfo.o];exact hT5.o),azW,hM5,oL⟩
    case measure=>rw[Ib.o,Nr (aS:=p.aS) (todo:=todo.dropLast++vN p.aS k) lZ.o (by rw[hfo.o];exact hT5.o)];have:=hwn.o;omega
theorem adM {aS:List wC} {c:Nat} {l:List Nat} {i k:Nat} (h:l[i]? = some k):(l.take (i + 1)).foldl (iP aS c) []=iP aS c ((l.take i).foldl (iP aS c) []) k:=by
 rw[List.take_add_one,h];simp
theorem ahT {w:World} {bs gp:Nat} {s:List UInt8} {sv:Value} {xs:List xH} {p:VQ} {A:Option Addr} {m cp c:Nat} {l:List Nat} (hP:aF w gp 363 #[.string ⟨s.toArray⟩,sv,.int .i64 (p.start:Int),.int .i64 (p.stop:Int)]) (hS:Ub w bs xs sv p.aS) (oh:adr p) (hA:bW w 1 encI A m l) (hm:m≤60000) (hl:∀k∈l,k<p.aS.length) (hc:c < 256) :
 Calls Tryz.prog 252 #[.pointer (some ⟨gp,0,none⟩),.slice A m cp,.int .u8 (c:Int)] w fun e w'=>∃v,e =.returned v∧Own w' w.heap.size 3 1 encI v (o_ (sW p.aS (BD p.aS c l)))∧ah w w':=by
 have lJ:=ζ hA.1;have uf:=ζ hS.len;obtain⟨sA,sc,V3,-,-,QZ⟩:=hS.own.arr Ve;obtain⟨R,PG⟩:∃R,R=o_ (sW p.aS (BD p.aS c l)):=⟨_,rfl⟩;rw[←PG];replace PG:=ζ PG;replace hA:=ζ hA;replace hP:=ζ hP;replace hS:=ζ hS;replace QZ:=ζ QZ;replace oh:=ζ oh;replace hl:=ζ hl;replace V3:=ζ V3;replace hc:=ζ hc;go_enter Tryz.func252,Tryz.ntmps252
 go_wp2;go_loopw [7,9,10,13] (fun vo _ _ i wr=>∃q:Nat,q≤m∧i =.int .i64 (q:Int)∧Hid (Own wr w.heap.size 3 1 encI vo ((l.take q).foldl (iP p.aS c) []))∧Hid (ah w wr)) (fun _ _ _ i _=>m - (intOf i).toNat)
 case atStart=>exact⟨0,ω,rfl,ζ (Own.iH _ _ _ _ _),ζ (ah.refl _)⟩
 case round=>
  obtain⟨q,hq,rfl,hO,hG⟩:=hrel;by_cases hqm:q<m
  ·obtain⟨b0,o0,k,rfl,hs0,hk,hcell⟩:=(hA.o.keep hG.o).at_ hqm;have c0:wr.cell? ⟨b0,o0+q,none⟩=some (.int .i64 (k:Int)):=by simpa using hcell 0 _ rfl
   have hqi:(q:Int)<(m:Int):=ω;have S9:=hl.o k (List.mem_of_getElem? hk);obtain⟨y,hy⟩:∃y,p.aS[k]? = some y:=⟨_,List.getElem?_eq_getElem S9⟩;obtain⟨x,hx⟩:∃x,xs[k]? = some x:=⟨_,List.getElem?_eq_getElem (by rw[uf.o];exact S9)⟩;have abe:k<xs.length:=by rw[uf.o];exact S9
   obtain⟨hs1,hs2,hs3⟩:=hS.o.st k x y hx hy;obtain⟨fA,fc,hfv,-,-,-⟩:=hs3.arr Ig;obtain⟨bb,off,x',aa6,hsz,yN,hcs⟩:=(QZ.o.keep hG.o).at_ abe;rw[hx] at yN;injection yN with yN
   subst yN;have cF:wr.cell? ⟨bb,off+k*3+2,none⟩=some (.slice fA y.free.length fc):=by rw[←hfv];exact hcs 2 _ rfl
   have cN:wr.cell? ⟨bb,off+k*3+1,none⟩=some (.int .i64 (y.next:Int)):=by rw[←hs1];exact hcs 1 _ rfl
   have cV:wr.cell? ⟨bb,off+k*3,none⟩=some x.pv:=by simpa using hcs 0 _ rfl
   rw[aa6] at V3;have cP:wr.cell? ⟨gp,1,none⟩=some (.slice (some ⟨bb,off,none⟩) xs.length sc):=by rw[←V3.o];exact ((hP.o.grows hG.o).cell 1).trans rfl
   have kY:(k:Int)<(xs.length:Int):=ω;have htf:=adM (aS:=p.aS) (c:=c) hk;have hob:Hid (((l.take q).foldl (iP p.aS c) []).length<70000):=ζ (by have:=(ND oh.o.vp (c:=c) (l.take q)).2;unfold BD at this;rw[List.length_take] at this;omega);generalize hout:(l.take q).foldl (iP p.aS c) []=out at *
   have U7:=ζ hG.o.size;cases aI:y.set with
   | none=>
    rw[aI] at hs2;rw[hs2] at cV;have hst:Hid ((l.take (q+1)).foldl (iP p.aS c) []=out):=ζ (by rw[htf];unfold iP;rw[hy];simp only[aI]);clear hs1 hs2 hs3 hfv hcs hx hy aa6 htf hcell hk abe;go_wp2;go_roundw
    case rel=>exact⟨q+1,ω,ν,ζ (by rw[hst.o];exact hO.o.alloc _),ζ (hG.o.alloc _)⟩
    case measure=>exact ψ
   | some ws=>
    rw[aI] at hs2;obtain⟨gs,oQ,ny,az_⟩:=hs2;rw[oQ] at cV;have cH:=fun (W:World) (hW:ah w W)=>ajw (c:=c) (az_.grows hW) hc.o
    replace cH:=ζ cH;cases hhs:Vk ws c with
    | false=>
     rw[hhs] at cH;have hst:Hid ((l.take (q+1)).foldl (iP p.aS c) []=out):=ζ (by rw[htf];unfold iP;rw[hy];simp only[aI,hhs];rfl);clear hs1 hs3 hfv hcs hx hy aa6 htf hcell hk abe aI hhs oQ;go_wp2_with fail;refine (cH.out _ (hG.o.alloc _)).mono ?_;rintro e w2 ⟨rfl,hw2⟩;replace hw2:=hw2.symm;subst hw2;go_wp2;go_roundw
     case rel=>exact⟨q+1,ω,ν,ζ (by rw[hst.o];exact hO.o.alloc _),ζ (hG.o.alloc _)⟩
     case measure=>exact ψ
    | true=>
     rw[hhs] at cH;have hst:Hid ((l.take (q+1)).foldl (iP p.aS c) []=out++[y.next]):=ζ (by rw[htf];unfold iP;rw[hy];simp only[aI,hhs];rfl);clear hs1 hs3 hfv hcs hx hy aa6 htf hcell hk abe aI hhs oQ;go_wp2_with fail;refine (cH.out _ (hG.o.alloc _)).mono ?_;rintro e w2 ⟨rfl,hw2⟩;replace hw2:=hw2.symm;subst hw2;have hZ:=aF.new wr 377 #[.pointer (some ⟨gs,0,none⟩),.int .i64 (y.next:Int),.slice fA y.free.length fc];have nI:=ζ (hO.o.alloc (.cells #[.pointer (some ⟨gs,0,none⟩),.int .i64 (y.next:Int),.slice fA y.free.length fc] 377));have fQ:=ζ (hG.o.alloc (.cells #[.pointer (some ⟨gs,0,none⟩),.int .i64 (y.next:Int),.slice fA y.free.length fc] 377));clear hO hG cF cN cV cP c0 U7;generalize wr.alloc (.cells #[.pointer (some ⟨gs,0,none⟩),.int .i64 (y.next:Int),.slice fA y.free.length fc] 377)=w2 at *
     generalize wr.heap.size=gZ at *
     have z0:=hZ.c0;have z1:=hZ.c1;have zl:=hZ.lt;have ayI:=ζ fQ.o.size;clear hZ;go_wp2_with (at_builtin;refine dH (x:=y.next) YU rfl (.tmp 33) (.tmp 36) rfl (nI.o.alloc _) rfl ⟨w2.heap.size,0,none⟩ rfl rfl (iK (by exact heap_alloc_new w2 _)) (Xl _) (by have:=ayI.o;simp;omega) (by have:=hob.o;unfold maxLen;omega) (by have:=hob.o;omega) (fun v4 w4 lq iR amS=> ?_);(have rH:=ζ ((fQ.o.alloc _).aO iR (fun g hg=>(nI.o.Md g hg).1)));(replace lq:=ζ lq);clear iR amS);go_roundw
     case rel=>exact⟨q+1,ω,ν,ζ (by rw[hst.o];exact lq.o),rH⟩
     case measure=>exact ψ
  ·obtain rfl:q=m:=ω;have aQ:Hid ((l.take q).foldl (iP p.aS c) []=BD p.aS c l):=ζ (by rw[List.take_of_length_le (by rw[lJ.o];exact Nat.le_refl _)];rfl);have hOs:=hO.o;rw[aQ.o] at hOs;have hso:=ND oh.o.vp (c:=c) l;have aus:(BD p.aS c l).length≤60000:=by have:=hso.2;have:=lJ.o;omega
   obtain⟨oA,oc,hov,-,-,hoA⟩:=hOs.arr Ig;subst hov;have cR:=ζ (Sl (c:=oc) (hP.o.grows hG.o) (hS.o.grows hG.o) oh.o hoA aus hso.1);have U7:=ζ hG.o.size;clear hO aQ hso aus hoA hOs;go_wp2_with fail;refine (cR.out).mono ?_;rintro e w9 ⟨v,rfl,hO9,iG⟩;go_wp2;go_ret;refine⟨_,rfl,?_,hG.o.trans iG⟩;rw[PG.o];exact hO9.bJ U7.o
theorem aeb (w:World) (s:List UInt8):Calls Tryz.prog 192 #[.string ⟨s.toArray⟩] w fun e w'=>e =.returned (.int .i64 (uY s:Int))∧ah w w':=by
 have cR:=ζ (Xd w s);go_enter Tryz.func192,Tryz.ntmps192
 go_wp2_with fail;refine (cR.out).mono ?_;rintro e w1 ⟨v,rfl,hv,hg⟩;clear cR;go_wp2;go_ret;exact⟨rfl,hg⟩
def xY (p:VQ) (t:List UInt8):List Nat:=t.foldl (fun l c=>o_ (sW p.aS (BD p.aS c.toNat l))) (o_ (sW p.aS [p.start]))
def Af (s t:List UInt8):Bool:=match yG s with
 | none=>false
 | some p=>(xY p t).any fun x=>p.stop==x
theorem WY {l:List Nat} {n:Nat} (h:∀k∈l,k<n):∀k∈o_ l,k<n:=fun k hk=>h k ((NG l).mem_iff.1 hk)
theorem aen {p:VQ} (oh:adr p) (t:List UInt8):(∀k∈xY p t,k<p.aS.length)∧(xY p t).length≤p.aS.length:=by
 have key:∀(t:List UInt8) (l:List Nat),(∀k∈l,k<p.aS.length)∧l.length≤p.aS.length→(∀k∈t.foldl (fun l c=>o_ (sW p.aS (BD p.aS c.toNat l))) l,k<p.aS.length)∧(t.foldl (fun l c=>o_ (sW p.aS (BD p.aS c.toNat l))) l).length≤p.aS.length:=by
  intro t;induction t with
  | nil=>intro l h;exact h
  | cons c t ih=>
   intro l h;refine ih _ ?_;have h1:=Jo oh.vp (ND oh.vp (c:=c.toNat) l).1;exact⟨WY h1.1,by rw[Jj];exact h1.2⟩
 refine key t _ ?_;have h1:=Jo oh.vp (l:=[p.start]) (fun k hk=>by rw[List.mem_singleton] at hk;subst hk;exact oh.start);exact⟨WY h1.1,by rw[Jj];exact h1.2⟩
theorem Xh {p:VQ} {t:List UInt8} {q:Nat} {c:UInt8} (h:t[q]? = some c):xY p (t.take (q+1))=o_ (sW p.aS (BD p.aS c.toNat (xY p (t.take q)))):=by
 unfold xY;rw[List.take_add_one,h];simp
theorem aem {w:World} {bs:Nat} {s t:List UInt8} {v:Value} (hv:awp w bs s v (yG s)) (ht:t.length≤1000000) :
 Calls Tryz.prog 222 #[v,.string ⟨t.toArray⟩] w fun e w'=>e =.returned (.bool (Af s t))∧ah w w':=by
 obtain⟨R,hR⟩:∃R,R=Af s t:=⟨_,rfl⟩;rw[←hR];unfold Af at hR;cases JE:yG s with
 | none=>
  rw[JE] at hv hR;obtain rfl:v =.pointer none:=hv;simp only at hR;subst hR;clear JE;go_enter Tryz.func222,Tryz.ntmps222
  go_wp2;go_ret;exact⟨rfl,ah.refl _⟩
 | some p=>
  have oh:=ζ (aif JE);rw[JE] at hv hR;simp only at hR;replace hR:=ζ hR;obtain⟨gp,xs,sv,rfl,hP,hS⟩:=hv;clear JE;have cS:w.cell? ⟨gp,2,none⟩=some (.int .i64 (p.start:Int)):=(hP.cell 2).trans rfl;have cE:=ζ ((hP.cell 3).trans rfl:w.cell? ⟨gp,3,none⟩=some (.int .i64 (p.stop:Int)));have lP:=hP.lt;have hN:=aF.new w 3 #[.int .i64 (p.start:Int)];have hg1:ah w (w.alloc (.cells #[.int .i64 (p.start:Int)] 3)):=(ah.refl _).alloc _;have PN:bW (w.alloc (.cells #[.int .i64 (p.start:Int)] 3)) 1 encI (some ⟨w.heap.size,0,none⟩) 1 [p.start]:=⟨rfl,fun _=>⟨w.heap.size,0,rfl,hN.lt,fun i hi j u hu=>by
   have hi0:i = 0:=by simp at hi;omega
   have hj:j = 0:=by have:=(List.getElem?_eq_some_iff.1 hu).1;simp[encI] at this;omega
   subst hi0 hj;rw[hN.cell];exact hu⟩⟩
  have cR:=ζ (Sl (c:=1) (hP.grows hg1) (hS.grows hg1) oh.o PN ω (fun k hk=>by rw[List.mem_singleton] at hk;subst hk;exact oh.o.start));replace hP:=ζ hP;replace hS:=ζ hS;clear hN PN;go_enter Tryz.func222,Tryz.ntmps222
  go_wp2_with fail;refine (cR.out).mono ?_;rintro e w1 ⟨vl,rfl,hO,hg2⟩;replace hO:=ζ (hO.bJ (show w.heap.size≤_ by simp));have hG:=ζ (hg1.trans hg2);clear hg1 hg2 cR cS lP;go_wp2_with (refine lS rfl (.tmp 17) rfl rfl (by rw[bsize];omega) ?_;intro v1 w2 hB hg3;(obtain⟨bA,bc,hbv,-,-,PD⟩:=hB.arr);(rw[kR,bsize] at hbv PD);subst hbv;(replace PD:=ζ PD);(replace hO:=ζ (hO.o.grows hg3));(replace hG:=ζ (hG.o.trans hg3));clear hg3 hB);have Tc:xY p (t.take 0)=o_ (sW p.aS [p.start]):=rfl;rw[←Tc] at hO;clear Tc;have avD:=ζ (ah.refl w2);go_loopw [5,7,20] (fun vl _ i wr=>∃q:Nat,q≤t.length∧i =.int .i64 (q:Int)∧Hid (Own wr w.heap.size 3 1 encI vl (xY p (t.take q)))∧Hid (ah w wr)∧Hid (ah w2 wr)) (fun _ _ i _=>t.length-(intOf i).toNat)
  case atStart=>exact⟨0,ω,rfl,hO,hG,avD⟩
  case round=>
   clear hO hG avD;obtain⟨q,hq,rfl,hO,hG,fQ⟩:=hrel;have hlen:=aen oh.o (t.take q);obtain⟨oA,oc,hov,-,-,hoA⟩:=hO.o.arr Ig;have U7:=ζ hG.o.size;by_cases hqm:q<t.length
   ·obtain⟨bb,off,x,rfl,hs0,hx,hcell⟩:=(PD.o.keep fQ.o).at_ hqm;have c0:wr.cell? ⟨bb,off+q,none⟩=some (.int .u8 (x:Int)):=by simpa using hcell 0 _ rfl
    have hqi:(q:Int)<(t.length:Int):=ω;obtain⟨ch,hch⟩:∃ch,t[q]? = some ch:=⟨_,List.getElem?_eq_getElem hqm⟩;have XJ:x = ch.toNat:=by
     rw[uZ,oN,List.getElem?_map,hch] at hx;simpa using hx.symm
    subst XJ;have xC:=ζ (Xh (p:=p) hch);have cS:=ζ (ahT (cp:=oc) (hP.o.grows hG.o) (hS.o.grows hG.o) oh.o hoA (by have:=oh.o.len;omega) hlen.1 ch.toNat_lt);clear hlen hoA hcell hx hch;generalize (xY p (t.take q))=cur at *
    subst hov;go_wp2_with fail;refine (cS.out).mono ?_;rintro e w5 ⟨v5,rfl,lZ,GY⟩;replace lZ:=ζ (lZ.bJ U7.o);go_wp2;go_roundw
    case rel=>exact⟨q+1,ω,ν,ζ (by rw[xC.o];exact lZ.o),ζ (hG.o.trans GY),ζ (fQ.o.trans GY)⟩
    case measure=>exact ψ
   ·obtain rfl:q=t.length:=ω;rw[List.take_length] at hO hlen hoA hov;have cH:=ζ (ajy (c:=oc) (v:=p.stop) wr hoA (by have:=oh.o.len;omega));have cE2:=hG.o.cell cE.out;rw[←hR.o] at cH;clear hlen hoA;generalize (xY p t)=cur at *
    subst hov;go_wp2_with fail;refine (cH.out).mono ?_;rintro e w9 ⟨rfl,iG⟩;go_wp2;go_ret;exact⟨rfl,hG.o.trans iG⟩
theorem afH (w:World) (s t:List UInt8) (ht:t.length≤1000000):Calls Tryz.prog 190 #[.string ⟨s.toArray⟩,.string ⟨t.toArray⟩] w fun e w'=>e =.returned (.bool (Af s t))∧ah w w':=by
 have cR:=ζ (Xd w s);go_enter Tryz.func190,Tryz.ntmps190
 go_wp2_with fail;refine (cR.out).mono ?_;rintro e w1 ⟨v,rfl,hv,hg⟩;clear cR;have cF:=ζ (aem hv ht);go_wp2_with fail;refine (cF.out).mono ?_;rintro e w2 ⟨rfl,hg2⟩;go_wp2;go_ret;exact⟨rfl,hg.trans hg2⟩
end Go.Proofs.YtbhikkgpcmkonaaGreatDoor
