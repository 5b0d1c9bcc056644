/- Parts: PatT PatV PatW PatX PatY PatZ -/
import Derived.Test.YtbhikkgpcmkonaaGreatDoorVo0
import Derived.Test.YtbhikkgpcmkonaaGreatDoorVo13
import Derived.Test.YtbhikkgpcmkonaaGreatDoorVo17
import Derived.Test.YtbhikkgpcmkonaaGreatDoorVo5
import Derived.Test.YtbhikkgpcmkonaaGreatDoorVo6
set_option maxRecDepth 100000
set_option maxHeartbeats 12800000
namespace Go.Proofs.YtbhikkgpcmkonaaGreatDoor
def uI (l:List wP):Prop:=∀y∈l,(∀j∈y.free,j < l.length)∧y.next<l.length
theorem uI.node {l:List wP} (h:uI l):uI (l ++[uG]):=by
 intro y hy;rw[List.length_append];rcases List.mem_append.1 hy with h1 | h1
 ·exact⟨fun j hj=>Nat.lt_of_lt_of_le ((h y h1).1 j hj) σ,Nat.lt_of_lt_of_le (h y h1).2 σ⟩
 ·rw[List.mem_singleton] at h1;subst h1;exact⟨fun j hj=>by simp[uG] at hj,by simp[uG]⟩
theorem uI.mod {l:List wP} {i:Nat} {f:wP→wP} (h:uI l) (hf:∀y∈l,(∀j∈(f y).free,j < l.length)∧(f y).next<l.length):uI (l.modify i f):=by
 intro y hy;rw[List.length_modify];obtain⟨k,hk,rfl⟩:=List.mem_iff_getElem.1 hy;rw[List.getElem_modify];rw[List.length_modify] at hk;split
 ·exact hf _ (List.getElem_mem hk)
 ·exact h _ (List.getElem_mem hk)
theorem vK {b:PB} (h:uI b.aS):uI (aX b).aS:=h.node
theorem zy {b:PB} {i j:Nat} (h:uI b.aS) (hj:j < b.aS.length):uI (bD i j b).aS:=
 uI.mod h fun y hy=>⟨fun k hk=>by
  rcases List.mem_append.1 hk with h1 | h1
  ·exact (h y hy).1 k h1
  ·rw[List.mem_singleton] at h1;subst h1;exact hj,(h y hy).2⟩
theorem Ac {ws:List Nat} {b:PB} (h:uI b.aS):uI (kH ws b).1.aS:=by
 have h2:uI (aX (aX b)).aS:=vK (vK h);refine uI.mod h2 fun y hy=>⟨(h2 y hy).1,?_⟩
 show b.aS.length+1<_
 rw[eu,eu];omega
def alS (s:List UInt8) (sub:Option (PB→PB×qx)):Prop:=∀f,sub=some f→∀b,b.at_≤s.length→uI b.aS→uI (f b).1.aS
theorem alL {s:List UInt8} {sub:Option (PB→PB×qx)} {c:UInt8} {b:PB} (hs:alS s sub) (hb:b.at_<s.length) (h:uI b.aS):uI (cZ s sub c b).1.aS:=by
 have DW:(aO b).at_≤s.length:=by simp[aO];omega
 have ha:uI (aO b).aS:=h;unfold cZ;split
 ·split
  ·exact Ac (by rw[gu];exact ha)
  ·rename_i f;have h1:=hs f rfl (aO b) DW ha;simp only;split
   ·exact h1
   ·show uI (bU 2 (f (aO b)).1).aS
    rw[gu];exact h1
 ·split
  ·refine Ac ?_;rw[(D5 (s:=s) (b:=aO b) (WP.of_le DW)).2.2];exact ha
  ·split
   ·exact Ac ha
   ·split
    ·split
     ·refine Ac ?_;show uI (bU 2 (aO b)).aS
      rw[gu];exact ha
     ·exact Ac ha
    ·split
     ·exact Ac (by rw[gu];exact ha)
     ·exact Ac ha
theorem aex {s:List UInt8} {b:PB} {x:qx} (hx:Jr x b) (h:uI b.aS):uI (fH s b x).1.aS:=by
 unfold fH;split
 ·exact h
 ·rename_i c hc;split
  ·have hl:(aX (aX (aO b))).aS.length=b.aS.length+2:=by simp[aX,aO]
   have h0:uI (aX (aX (aO b))).aS:=vK (vK h);have hx1:=hx.1;have h1:uI (bD b.aS.length x.1 (aX (aX (aO b)))).aS:=zy h0 ω;have h2:uI (bD x.2 (b.aS.length+1) (bD b.aS.length x.1 (aX (aX (aO b))))).aS:=zy h1 (by rw[dU];omega);have hp:∀(p:Prop) [Decidable p] (i j:Nat) (z:PB),uI z.aS→j < z.aS.length→uI (if p then z else bD i j z).aS∧(if p then z else bD i j z).aS.length=z.aS.length:=by
    intro p _ i j z hz hj;split
    ·exact⟨hz,rfl⟩
    ·exact⟨zy hz hj,dU _ _ _⟩
   have h3:=hp (c = 43) b.aS.length (b.aS.length+1) _ h2 (by rw[dU,dU];omega);have h4:=hp (c = 63) x.2 x.1 _ h3.1 (by rw[h3.2,dU,dU];omega);exact h4.1
  ·exact h
theorem amQ {s:List UInt8} {k:Nat} {sub:Option (PB→PB×qx)} (hv:alS s sub) (hs:G_ s k sub) (hk:2≤k):∀(f:Nat) (p:qx) (b:PB),WP s (k+1) b→Jr p b→uI b.aS→uI (Gl s sub f p b).1.aS:=by
 intro f;induction f with
 | zero=>intro p b _ _ h;exact h
 | succ f ih=>
  intro p b hW hI h;rw[Gl];split
  ·exact h
  ·rename_i c hc;split
   ·exact h
   ·have h1:=Qi (c:=c) hs hk (jc hc).2.1;have h2:=JV h1.2.1 h1.2.2;have v1:=alL (c:=c) hv (jc hc).2.1 h;have v2:=aex (s:=s) h1.2.2 v1;have v3:uI (bD p.2 (fH s (cZ s sub c b).1 (cZ s sub c b).2).2.1 (fH s (cZ s sub c b).1 (cZ s sub c b).2).1).aS:=zy v2 h2.2.2.1;exact ih (p.1,(fH s (cZ s sub c b).1 (cZ s sub c b).2).2.2) _ h2.2.1
     ⟨by rw[dU];exact Nat.lt_of_lt_of_le hI.1 (Nat.le_trans h1.1.len h2.1.len),by rw[dU];exact h2.2.2.2⟩ v3
theorem amO {s:List UInt8} {k:Nat} {sub:Option (PB→PB×qx)} (hv:alS s sub) (hs:G_ s k sub) (hk:2≤k) {b:PB} (hW:WP s (k+1) b) (h:uI b.aS):uI (jK s sub b).1.aS:=
 amQ hv hs hk _ _ (aX b) hW ⟨by rw[eu];simp,by rw[eu];simp⟩ (vK h)
theorem acK {s:List UInt8} {k:Nat} {sub:Option (PB→PB×qx)} (hv:alS s sub) (hs:G_ s k sub) (hk:2≤k):∀(f:Nat) (p:qx) (b:PB),WP s (k+1) b→Jr p b→uI b.aS→uI (iq s sub f p b).1.aS:=by
 intro f;induction f with
 | zero=>intro p b _ _ h;exact h
 | succ f ih=>
  intro p b hW hI h;rw[iq];have h1:=Vx hs hk hW;have v1:=amO hv hs hk hW h;have v2:uI (bD p.1 (jK s sub b).2.1 (jK s sub b).1).aS:=zy v1 h1.2.2.1;have v3:uI (bD (jK s sub b).2.2 p.2 (bD p.1 (jK s sub b).2.1 (jK s sub b).1)).aS:=zy v2 (by rw[dU];exact Nat.lt_of_lt_of_le hI.2 h1.1.len);have hI2:Jr p (bD (jK s sub b).2.2 p.2 (bD p.1 (jK s sub b).2.1 (jK s sub b).1)):=hI.mono (by rw[dU,dU];exact h1.1.len);split
  ·rename_i hp;exact ih p (aO (bD (jK s sub b).2.2 p.2 (bD p.1 (jK s sub b).2.1 (jK s sub b).1))) (WP.of_le (by have:=(jc hp).2.1;simp[aO,bD] at this ⊢;omega)) hI2 v3
  ·exact v3
theorem acI (s:List UInt8):∀(d:Nat) (b:PB),b.at_≤s.length→uI b.aS→uI (jy s d b).1.aS:=by
 have hst:∀(sub:Option (PB→PB×qx)) (k:Nat) (b:PB),alS s sub→G_ s k sub→2≤k→b.at_≤s.length→uI b.aS→uI (iq s sub (s.length+1) (b.aS.length,b.aS.length+1) (aX (aX b))).1.aS:=by
  intro sub k b hv hs hk hb h;exact acK hv hs hk (s.length+1) (b.aS.length,b.aS.length+1) (aX (aX b)) (WP.of_le hb) ⟨by simp only[eu];omega,by simp only[eu];omega⟩ (vK (vK h))
 intro d;induction d with
 | zero=>intro b hb h;exact hst none 2 b (fun f hf=>by cases hf) (fun f hf=>by cases hf) ω hb h
 | succ d ih=>
  intro b hb h;refine hst (some (jy s d)) (3+d) b (fun f hf b hb h=>by injection hf with hf;subst hf;exact ih b hb h) (fun f hf b hb=>by injection hf with hf;subst hf;exact GV s d b hb) ω hb h
structure aeb (p:Xb):Prop where
 vp:uI p.aS
 start:p.start<p.aS.length
 stop:p.stop<p.aS.length
 len:p.aS.length≤10000
 fr:jQ p.aS≤10000
theorem ai3 {s:List UInt8} {p:Xb} (h:yV s = some p):aeb p:=by
 unfold yV at h;split at h
 ·cases h
 ·rename_i hn;injection h with h
  have uq:s.length≤100:=by
   have:¬100<s.length:=fun hh=>hn (.inl hh)
   omega
  have h1:=GV s 8 ⟨0,0,[]⟩ (Nat.zero_le _);have h2:=acI s 8 ⟨0,0,[]⟩ (Nat.zero_le _) (fun y hy=>by simp at hy);have h3:(xG s).1.aS=(jy s 8 ⟨0,0,[]⟩).1.aS:=by
   unfold xG;simp only;split
   ·exact gu _ _
   ·rfl
  have hc:=h1.1.cost;have hw:=h1.2.1.1;have aps:d_ (jy s 8 ⟨0,0,[]⟩).1≤10000:=by
   have h0:d_ ⟨0,0,[]⟩=0:=rfl;rw[h0] at hc;simp only at hc;omega
  unfold d_ at aps;subst h;refine⟨?_,?_,?_,?_,?_⟩ <;> simp only[h3]
  ·exact h2
  ·exact h1.2.2.1
  ·exact h1.2.2.2
  ·omega
  ·omega
def vW (aS:List wP) (k:Nat):List Nat:=match aS[k]? with | some y=>y.free | none=>[]
def qy (g:wP→Nat) (out:List Nat):Nat→List wP→Nat
 | _,[]=>0
 | i,y ::r=>(if i∈out then 0 else g y)+qy g out (i + 1) r
theorem TU {g:wP→Nat} {out:List Nat} {k:Nat}:∀(r:List wP) (i:Nat),k<i→qy g (out++[k]) i r = qy g out i r
 | [],_,_=>rfl
 | y ::r,i,h=>by
  have hne:i≠k:=ω;unfold qy;rw[TU r (i + 1) ω];simp[hne]
theorem Gm {g:wP→Nat} {out:List Nat} {k:Nat} {y:wP} (hk:k∉out):∀(r:List wP) (i:Nat),i≤k→r[k-i]? = some y→qy g (out++[k]) i r + g y = qy g out i r
 | [],_,_,h=>by simp at h
 | z ::r,i,hi,h=>by
  by_cases he:i = k
  ·subst he;rw[Nat.sub_self] at h;simp only[List.getElem?_cons_zero,Option.some.injEq] at h;subst h;unfold qy;rw[TU r (i + 1) ω];simp[hk];omega
  ·have h1:k-i = (k-(i + 1))+1:=ω;rw[h1,List.getElem?_cons_succ] at h;have ih:=Gm (g:=g) hk r (i + 1) ω h;unfold qy;simp only[List.mem_append,List.mem_singleton,he,or_false];omega
theorem Lm:∀(r:List wP) (i:Nat),qy (fun y=>y.free.length) [] i r = jQ r
 | [],_=>rfl
 | y ::r,i=>by
  have:=Lm r (i + 1);unfold qy;rw[this];simp[jQ]
theorem JY:∀(r:List wP) (i:Nat),qy (fun _=>1) [] i r = r.length
 | [],_=>rfl
 | y ::r,i=>by
  have:=JY r (i + 1);unfold qy;rw[this];simp;omega
def o_ (aS:List wP) (todo out:List Nat):Nat:=todo.length+qy (fun y=>y.free.length) out 0 aS
def vg (aS:List wP):Nat→List Nat→List Nat→List Nat
 | 0,_,out=>out
 | f + 1,todo,out=>match todo.getLast? with
  | none=>out
  | some k=>if k∈out then vg aS f todo.dropLast out else vg aS f (todo.dropLast++vW aS k) (out++[k])
theorem X3 {aS:List wP} {f:Nat} {todo out:List Nat} (hf:o_ aS todo out≤f):vg aS f todo out=match todo.getLast? with
 | none=>out
 | some k=>if k∈out then vg aS (f - 1) todo.dropLast out else vg aS (f - 1) (todo.dropLast++vW aS k) (out++[k]):=by
 cases f with
 | zero=>
  have:todo=[]:=by
   unfold o_ at hf;exact List.length_eq_zero_iff.1 ω
  subst this;rfl
 | succ f=>rfl
theorem aeg {aS:List wP} {todo out:List Nat} (h:todo≠[]):o_ aS todo.dropLast out+1=o_ aS todo out:=by
 have:=List.length_pos_iff.2 h;unfold o_;rw[List.length_dropLast];omega
theorem ahR {aS:List wP} {todo out:List Nat} {k:Nat} (h:todo≠[]) (hk:k∉out) (hn:k<aS.length):o_ aS (todo.dropLast++vW aS k) (out++[k])+1=o_ aS todo out:=by
 have h0:=List.length_pos_iff.2 h;have hy:aS[k]? = some aS[k]:=List.getElem?_eq_getElem hn;have:=Gm (g:=fun y=>y.free.length) hk aS 0 (Nat.zero_le _) (by rw[Nat.sub_zero];exact hy);unfold o_ vW;rw[hy,List.length_append,List.length_dropLast];simp only at *
 omega
theorem adi {aS:List wP} {out:List Nat} {k:Nat} (hk:k∉out) (hn:k<aS.length) (h:out.length+qy (fun _=>1) out 0 aS=aS.length):(out++[k]).length+qy (fun _=>1) (out++[k]) 0 aS=aS.length:=by
 have hy:aS[k]? = some aS[k]:=List.getElem?_eq_getElem hn;have:=Gm (g:=fun _=>1) hk aS 0 (Nat.zero_le _) (by rw[Nat.sub_zero];exact hy);rw[List.length_append,List.length_singleton];omega
theorem UE {aS:List wP} (hv:uI aS) {k:Nat}:∀j∈vW aS k,j < aS.length:=by
 intro j hj;unfold vW at hj;cases hy:aS[k]? with
 | none=>rw[hy] at hj;simp at hj
 | some y=>rw[hy] at hj;exact (hv y (List.mem_of_getElem? hy)).1 j hj
def tu (aS:List wP) (l:List Nat):List Nat:=vg aS (l.length+jQ aS) l []
theorem aeZ {aS:List wP} (hv:uI aS):∀(f:Nat) (todo out:List Nat),(∀k∈todo,k<aS.length)→(∀k∈out,k<aS.length)→out.length+qy (fun _=>1) out 0 aS=aS.length→
 (∀k∈vg aS f todo out,k<aS.length)∧(vg aS f todo out).length≤aS.length:=by
 intro f;induction f with
 | zero=>intro todo out _ h2 h3;exact⟨h2,by show out.length≤_;omega⟩
 | succ f ih=>
  intro todo out h1 h2 h3;rw[vg];split
  ·exact⟨h2,ω⟩
  ·rename_i k hk;have qC:k∈todo:=List.mem_of_getLast? hk;have hd:∀j∈todo.dropLast,j < aS.length:=fun j hj=>h1 j ((List.dropLast_sublist todo).subset hj)
   split
   ·exact ih _ _ hd h2 h3
   ·rename_i hno;refine ih _ _ ?_ ?_ (adi hno (h1 k qC) h3)
    ·intro j hj;rcases List.mem_append.1 hj with hj | hj
     ·exact hd j hj
     ·exact UE hv j hj
    ·intro j hj;rcases List.mem_append.1 hj with hj | hj
     ·exact h2 j hj
     ·rw[List.mem_singleton] at hj;subst hj;exact h1 _ qC
theorem J3 {aS:List wP} (hv:uI aS) {l:List Nat} (hl:∀k∈l,k<aS.length):(∀k∈tu aS l,k<aS.length)∧(tu aS l).length≤aS.length:=
 aeZ hv _ _ _ hl (fun k hk=>by simp at hk) (by rw[JY];simp)
def iZ (aS:List wP) (c:Nat) (out:List Nat) (k:Nat):List Nat:=match aS[k]? with
 | none=>out
 | some y=>match y.set with
  | none=>out
  | some ws=>if Wn ws c then out++[y.next] else out
def Cb (aS:List wP) (c:Nat) (l:List Nat):List Nat:=l.foldl (iZ aS c) []
theorem aar {aS:List wP} (hv:uI aS) {c:Nat} {out:List Nat} {k:Nat} (h:∀j∈out,j < aS.length):(∀j∈iZ aS c out k,j < aS.length)∧(iZ aS c out k).length≤out.length+1:=by
 unfold iZ;split
 ·exact⟨h,ω⟩
 ·rename_i y hy;split
  ·exact⟨h,ω⟩
  ·split
   ·refine⟨fun j hj=> ?_,by simp⟩;rcases List.mem_append.1 hj with hj | hj
    ·exact h j hj
    ·rw[List.mem_singleton] at hj;subst hj;exact (hv y (List.mem_of_getElem? hy)).2
   ·exact⟨h,ω⟩
theorem XP {aS:List wP} (hv:uI aS) {c:Nat}:∀(l out:List Nat),(∀j∈out,j < aS.length)→(∀j∈l.foldl (iZ aS c) out,j < aS.length)∧(l.foldl (iZ aS c) out).length≤out.length+l.length
 | [],out,h=>⟨h,by simp⟩
 | k::l,out,h=>by
  have h1:=aar hv (c:=c) (k:=k) h;have h2:=XP hv (c:=c) l _ h1.1;exact⟨h2.1,by rw[List.length_cons];have:=h2.2;simp only[List.foldl_cons];omega⟩
theorem Ot {aS:List wP} (hv:uI aS) {c:Nat} (l:List Nat):(∀j∈Cb aS c l,j < aS.length)∧(Cb aS c l).length≤l.length:=by
 have:=XP hv (c:=c) l [] (fun j hj=>by simp at hj);exact⟨this.1,by have:=this.2;simp at this;exact this⟩
end Go.Proofs.YtbhikkgpcmkonaaGreatDoor
namespace Go.Proofs.YtbhikkgpcmkonaaGreatDoor
open Go.RowKit
theorem alq {A:Option Addr} {m c:Nat} {xs:List Nat} (w:World) (h:bW w 1 encI A m xs) (hm:m≤65536) :
 Calls Tryz.prog 268 #[.slice A m c] w fun e w'=>∃v,e =.returned v∧Own w' w.heap.size 3 1 encI v xs∧ah w w':=by
 have heq:=fun (w:World)=>Lib.run_eql_slice_nil (P:=Tryz.prog) w 71 3 A m c 0 0 Tryz.underlying71
 have hlen:=h.1;cases A with
 | none=>
  obtain⟨rfl,rfl⟩:=h.ado;clear hlen h;go_enter Tryz.func268,Tryz.ntmps268
  go_wp2;go_ret;exact⟨_,rfl,Own.iO _ _ _ _ _,ah.refl _⟩
 | some ad=>
  have hown:Own (w.alloc (.cells #[] 3)) w.heap.size 3 1 encI (.slice (some ⟨w.heap.size,0,none⟩) ([]:List Nat).length 0) []:=
   Own.mk_ (cur:= #[]) Fe ω (Nat.le_refl _) (heap_alloc_new w _) σ (by simp[maxLen]) σ (fun q hq=>by simp at hq)
  have kK:=h.keep ((ah.refl w).alloc (.cells #[] 3));replace hlen:=ζ hlen;clear h;go_enter Tryz.func268,Tryz.ntmps268
  go_wp2_with (at_builtin;refine oq ZC rfl (.tmp 5) (.tmp 6) rfl hown rfl ad rfl kK Fe VE σ (by simp;unfold maxLen;omega) (by simp;omega) (fun v1 w1 hown1 hgr hat=> ?_));have hb1:Below w.heap.size w w1:=Own.below hown ((Below.refl _ _).alloc (Nat.le_refl _) _) (Nat.le_refl _) σ hgr;clear hgr hat;go_wp2;go_ret;exact⟨v1,rfl,by simpa using hown1,hb1⟩
theorem abH {A:Option Addr} {m c:Nat} {l:List Nat} {v:Nat} (w:World) (hA:bW w 1 encI A m l) (hm:m≤9223372036854775807) :
 Calls Tryz.prog 270 #[.slice A m c,.int .i64 (v:Int)] w fun e w'=>e =.returned (.int .i64 (placeOf (fun x=>v ==x) l))∧ah w w':=by
 have kN:=hA.1;obtain⟨R,hR⟩:∃R,R=placeOf (fun x=>v ==x) l:=⟨_,rfl⟩;rw[←hR];replace hR:=ζ hR;replace hA:=ζ hA;go_enter Tryz.func270,Tryz.ntmps270
 go_wp2;go_loopw [4,5,8] (fun r _ i wr=>∃k:Nat,k≤m∧i =.int .i64 k∧r =.int .i64 0∧Hid (∀j y,j < k→l[j]? = some y→(v ==y)=false)∧wr=w) (fun _ _ i _=>m - (intOf i).toNat)
 case atStart=>exact⟨0,ω,rfl,rfl,fun _ _ h=>absurd h ω,rfl⟩
 case round=>
  obtain⟨k,hk,rfl,rfl,hall,rfl⟩:=hrel;by_cases qC:k<m
  ·obtain⟨bb,off,x,rfl,CW,hx,hcell⟩:=hA.o.at_ qC;have c0:wr.cell? ⟨bb,off+k,none⟩=some (.int .i64 (x:Int)):=by simpa using hcell 0 _ rfl
   have kX:(k:Int)<(m:Int):=ω;cases hvx:v ==x with
   | true=>
    have hvi:(v:Int)=(x:Int):=by have:=beq_iff_eq.1 hvx;omega
    have hvb:((v:Int)==(x:Int))=true:=by simpa using hvi
    replace hvx:=ζ hvx;clear hvi;have aN:Hid (R=(k:Int)):=ζ (by rw[hR.o];exact jh hx hvx.o hall.o);clear hR hall hcell hx;go_wp2;go_ret;exact⟨by rw[aN.o];rfl,ah.refl _⟩
   | false=>
    have hvi:¬(v:Int)=(x:Int):=fun e=>by
     have h1:v = x:=ω;rw[h1] at hvx;simp at hvx
    have hvb:((v:Int)==(x:Int))=false:=by simpa using hvi
    clear hvi;replace hvx:=ζ hvx;have f_:=ζ (show ∀j y,j < k+1→l[j]? = some y→(v ==y)=false from fun j y hj hy=>by
     by_cases hjk:j = k
     ·subst hjk;rw[hx] at hy;rw[←Option.some.inj hy];exact hvx.o
     ·exact hall.o j y ω hy)
    clear hR hall hcell hx;go_wp2;go_roundw
    case rel=>exact⟨k+1,ω,ν,rfl,f_,trivial⟩
    case measure=>exact ψ
  ·obtain rfl:k=m:=ω;have aN:Hid (R=-1):=ζ (by rw[hR.o];exact iJ fun j y hy=>hall.o j y (by have:=(List.getElem?_eq_some_iff.1 hy).1;omega) hy);clear hR hall;go_wp2;go_ret;exact⟨by rw[aN.o];rfl,ah.refl _⟩
theorem ako {A:Option Addr} {m c:Nat} {l:List Nat} {v:Nat} (w:World) (hA:bW w 1 encI A m l) (hm:m≤9223372036854775807) :
 Calls Tryz.prog 253 #[.slice A m c,.int .i64 (v:Int)] w fun e w'=>e =.returned (.bool (l.any fun x=>v ==x))∧ah w w':=by
 have cI:=abH (c:=c) (v:=v) w hA hm;have hp:=iM (fun x=>v ==x) l;generalize (l.any fun x=>v ==x)=R at *
 generalize placeOf (fun x=>v ==x) l = P at *
 subst hp;replace cI:=ζ cI;clear hA;go_enter Tryz.func253,Tryz.ntmps253
 go_wp2_with fail;refine (cI.out).mono ?_;rintro e w1 ⟨rfl,hg⟩;go_wp2;go_ret;exact⟨rfl,hg⟩
theorem X7 {w:World} {base:Nat} {v:Value} {xs ys:List Nat} (h:Own w base 3 1 encI v xs) (h':Own w base 3 1 encI v ys):xs=ys:=by
 obtain⟨A,c,e1,-,-,a1⟩:=h.arr Fe;obtain⟨A',c',e2,-,-,a2⟩:=h'.arr Fe;rw[e1] at e2;simp only[Value.slice.injEq] at e2;obtain⟨rfl,hl,rfl⟩:=e2;apply List.ext_getElem hl;intro i h1 h2;obtain⟨b,off,x,eA,_,hx,hc⟩:=a1.at_ h1;obtain⟨b',kJ,y,eA',_,hy,hc'⟩:=a2.at_ h2;rw[eA] at eA';injection eA' with eA'
 injection eA' with e3 e4 _
 subst e3 e4;have c1:=hc 0 _ rfl;have c2:=hc' 0 _ rfl;rw[c1] at c2;injection c2 with c2
 injection c2 with _ c2
 have zo:=(List.getElem?_eq_some_iff.1 hx).2;have hy':=(List.getElem?_eq_some_iff.1 hy).2;omega
theorem Og {w:World} {base:Nat} {vo vt:Value} {todo out:List Nat} {aS:List wP} (ho:Own w base 3 1 encI vo out) (ht:Own w base 3 1 encI vt todo) :
 (Classical.epsilon fun (n:Nat)=>∃todo out,Own w base 3 1 encI vo out∧Own w base 3 1 encI vt todo∧n = o_ aS todo out)=o_ aS todo out:=by
 have:=Classical.epsilon_spec (p:=fun (n:Nat)=>∃todo out,Own w base 3 1 encI vo out∧Own w base 3 1 encI vt todo∧n = o_ aS todo out) ⟨_,todo,out,ho,ht,rfl⟩;obtain⟨t2,o2,h1,h2,h3⟩:=this;rw[h3,X7 h1 ho,X7 h2 ht]
theorem Own.OQ {α:Type} {w:World} {b0 k MB:Nat} {e:TypeId} {enc:α→List Value} {v:Value} {xs:List α} {l:List Nat} (h:Own w b0 e k enc v xs) (hM:Ew w MB l):v.ownBlock≠some MB:=fun hv=>by
 obtain⟨cur,hc⟩:=bV h hv;exact hM.aY _ _ _ hc
theorem TW {w:World} {bs gp:Nat} {s:List UInt8} {sv:Value} {xs:List xX} {p:Xb} {A:Option Addr} {m c:Nat} {l:List Nat} (hP:aG w gp 363 #[.string ⟨s.toArray⟩,sv,.int .i64 (p.start:Int),.int .i64 (p.stop:Int)]) (hS:U4 w bs xs sv p.aS) (oD:aeb p) (hA:bW w 1 encI A m l) (hm:m≤60000) (hl:∀k∈l,k<p.aS.length) :
 Calls Tryz.prog 251 #[.pointer (some ⟨gp,0,none⟩),.slice A m c] w fun e w'=>∃v,e =.returned v∧Own w' w.heap.size 3 1 encI v (pG (tu p.aS l))∧ah w w':=by
 have kN:=hA.1;have uq:=hS.len;obtain⟨sA,sc,Xj,-,-,Sl⟩:=hS.own.arr V9;obtain⟨R,yJ⟩:∃R,R=tu p.aS l:=⟨_,rfl⟩;have hRb:R.length≤p.aS.length:=by rw[yJ];exact (J3 oD.vp hl).2
 rw[←yJ];replace yJ:=ζ yJ;have aBt:Hid (R.length<4611686018427387904):=ζ (by have:=oD.len;omega);have hM0:=Ew.made w;have hg1:ah w (w.alloc (.map #[] 0)):=(ah.refl _).alloc _;replace hA:=ζ (hA.keep hg1);replace hP:=ζ hP;replace hS:=ζ hS;replace Sl:=ζ Sl;replace oD:=ζ oD;replace hl:=ζ hl;replace kN:=ζ kN;replace uq:=ζ uq;replace Xj:=ζ Xj;have hmm:= @run_makeMap Tryz.prog;go_enter Tryz.func251,Tryz.ntmps251
 go_wp2_with fail;refine (alq (c:=c) _ hA.o ω).mono ?_;rintro e w2 ⟨vt,rfl,hT,hg2⟩;have hM:=ζ (hM0.kept (hg2.uH none) σ);have hG:=ζ (hg1.trans hg2);have hMB:Hid (w.heap.size≤w.heap.size):=ζ (Nat.le_refl _);replace hT:=ζ (hT.bK (show w.heap.size≤_ by simp));clear hM0 hg1 hg2;generalize WB:w.heap.size=MB at *
 replace WB:=ζ WB;clear hmm hA;have au8:o_ p.aS l []=l.length+jQ p.aS:=by unfold o_;rw[Lm]
 have Ur:Hid (o_ p.aS l []≤l.length+jQ p.aS):=ζ ω;have hwb:Hid (o_ p.aS l []≤70000):=ζ (by rw[au8];have:=oD.o.fr;have:=kN.o;omega);have hon:Hid (([]:List Nat).length+qy (fun _=>1) [] 0 p.aS=p.aS.length):=ζ (by rw[JY];simp);have hRr:Hid (R=vg p.aS (l.length+jQ p.aS) l []):=yJ;have hap:Hid (∀g,(Value.slice none 0 0).ownBlock=some g→vt.ownBlock≠some g):=ζ (fun g hg=>by cases hg);have Uj:Hid (∀k∈([]:List Nat),k<p.aS.length):=ζ (fun k hk=>by simp at hk);have Nj:=ζ (Own.iO w2 MB 3 1 encI);clear au8;go_wp2;go_loopw [6,7,8] (fun vo vt _ wr=>∃(f:Nat) (todo out:List Nat),Hid (o_ p.aS todo out≤f)∧Hid (o_ p.aS todo out≤70000)∧Hid (R=vg p.aS f todo out)∧Hid (∀k∈todo,k<p.aS.length)∧Hid (∀k∈out,k<p.aS.length)∧Hid (out.length+qy (fun _=>1) out 0 p.aS=p.aS.length)∧Hid (Own wr MB 3 1 encI vo out)∧Hid (Own wr MB 3 1 encI vt todo)∧Hid (∀g,vo.ownBlock=some g→vt.ownBlock≠some g)∧Hid (Ew wr MB out)∧Hid (ah w wr)) (fun vo vt _ wr=>Classical.epsilon fun (n:Nat)=>∃todo out,Own wr MB 3 1 encI vo out∧Own wr MB 3 1 encI vt todo∧n = o_ p.aS todo out)
 case atStart=>exact⟨_,l,[],Ur,hwb,hRr,hl,Uj,hon,Nj,hT,hap,hM,hG⟩
 case round=>
  clear Ur hwb hRr Uj hon Nj hT hap hM hG hl;obtain⟨f,todo,out,hf,hwb,hR,hl,Uj,hon,hO,hT,hap,hM,hG⟩:=hrel;have IL:=ζ (Og (aS:=p.aS) hO.o hT.o);have hstep:=X3 hf.o;rw[←hR.o] at hstep;by_cases h0:todo=[]
  ·subst h0;simp only[List.getLast?_nil] at hstep;replace hstep:=ζ hstep;obtain⟨tA,tc,htv,-⟩:=hT.o.arr Fe;simp only[List.length_nil] at htv;subst htv;obtain⟨wc,aGv,C9⟩:=aay (ty:=0) hM.o;have kY:=ζ (hO.o.kept' C9 (fun g hg hv=>by injection hg with hg;subst hg;exact hO.o.OQ hM.o hv));have hGc:=ζ (hG.o.aQ C9 (fun g hg=>by injection hg with hg;subst hg;exact Nat.le_of_eq WB.o));have Uk:Hid (out.length<4611686018427387904):=ζ (by rw[←hstep.o];exact aBt.o);clear hO hT hap hM hG C9 IL;go_wp2_with fail;refine (aiK kY.o Uk.o).mono ?_;rintro e w9 ⟨rfl,hO9,iP⟩;go_wp2;go_ret;refine⟨_,rfl,?_,hGc.o.aQ iP (fun g hg=>Nat.le_trans (Nat.le_of_eq WB.o) (kY.o.Nw g hg).1)⟩;rw[hstep.o,WB.o];exact hO9
  ·have Nh:=List.length_pos_iff.2 h0;obtain⟨gT,asf,htv⟩:=yX hT.o Nh;obtain⟨n,hn⟩:∃n,todo.length=n + 1:=⟨todo.length-1,ω⟩;rw[hn] at htv;subst htv;obtain⟨_,_,_,_,CZ,hcm,_,_⟩:=hT.o.tJ Fe;obtain⟨k,hk,hcell,-⟩:=hT.o.at_ Fe (i:=n) ω;have c0:wr.cell? ⟨gT,n,none⟩=some (.int .i64 (k:Int)):=by simpa using hcell 0 _ rfl
   have Fh:todo.getLast? =some k:=by rw[List.getLast?_eq_getElem?,hn];exact hk
   have Un:=hl.o k (List.mem_of_getElem? hk);have YM:todo.dropLast=todo.take n:=by rw[List.dropLast_eq_take,hn];rfl
   have hT1:=hT.o.cut Fe ω (i:=n) ω;rw[←YM] at hT1;replace hT1:=ζ hT1;rw[Fh] at hstep;have hkb:k<4611686018427387904:=by have:=oD.o.len;omega
   have rX:=hM.o.look (s:=k) hkb;have aFQ:(n:Int)≤(asf:Int):=ω;have hni:(n:Int)<(n:Int)+1:=ω;have aGu:(asf:Int)≤9223372036854775807:=by unfold maxLen at hcm;omega
   have hws:=ζ (aeg (aS:=p.aS) (out:=out) h0);have hdm:Hid (∀j∈todo.dropLast,j < p.aS.length):=ζ (fun j hj=>hl.o j ((List.dropLast_sublist todo).subset hj));replace Un:=ζ Un;by_cases IV:k∈out
   ·simp only[IV,if_true] at hstep;rw[decide_eq_true IV] at rX;replace hstep:=ζ hstep;clear hcell hk Fh YM hT IV;go_wp2;go_roundw
    case rel=>exact⟨f - 1,todo.dropLast,out,ζ (by have:=hws.o;have:=hf.o;omega),ζ (by have:=hws.o;have:=hwb.o;omega),hstep,hdm,Uj,hon,hO,hT1,hap,hM,hG⟩
    case measure=>rw[IL.o,Og (aS:=p.aS) hO.o hT1.o];have:=hws.o;omega
   ·simp only[IV,if_false] at hstep;rw[decide_eq_false IV] at rX;replace hstep:=ζ hstep;have hwn:=ζ (ahR (aS:=p.aS) h0 IV Un.o);have avn:=ζ (adi IV Un.o hon.o);obtain⟨y,hy⟩:∃y,p.aS[k]? = some y:=⟨_,List.getElem?_eq_getElem Un.o⟩;obtain⟨x,hx⟩:∃x,xs[k]? = some x:=⟨_,List.getElem?_eq_getElem (by rw[uq.o];exact Un.o)⟩;obtain⟨hs1,hs2,hs3⟩:=hS.o.st k x y hx hy;obtain⟨fA,fc,hfv,-,-,-⟩:=hs3.arr Fe;have hfo:vW p.aS k=y.free:=by unfold vW;rw[hy]
    have tZ:Hid (n + y.free.length≤70000):=ζ (by
     have h1:=hwn.o;have h2:=hwb.o;rw[hfo] at h1;unfold o_ at h1 h2;rw[List.length_append,List.length_dropLast,hn] at h1;omega)
    have abY:k<xs.length:=by rw[uq.o];exact Un.o
    obtain⟨bb,off,x',abQ,hsz,zo,hcs⟩:=Sl.o.at_ abY;rw[hx] at zo;injection zo with zo
    subst zo;have cF:w.cell? ⟨bb,off+k*3+2,none⟩=some (.slice fA y.free.length fc):=by rw[←hfv];exact hcs 2 _ rfl
    rw[abQ] at Xj;have cP:w.cell? ⟨gp,1,none⟩=some (.slice (some ⟨bb,off,none⟩) xs.length sc):=by rw[←Xj.o];exact (hP.o.cell 1).trans rfl
    have kX:(k:Int)<(xs.length:Int):=ω;have aAj:Hid (∀j∈out++[k],j < p.aS.length):=ζ (fun j hj=>by
     rcases List.mem_append.1 hj with hj | hj
     ·exact Uj.o j hj
     ·rw[List.mem_singleton] at hj;subst hj;exact Un.o)
    have azP:Hid (∀j∈todo.dropLast++vW p.aS k,j < p.aS.length):=ζ (fun j hj=>by
     rcases List.mem_append.1 hj with hj | hj
     ·exact hdm.o j hj
     ·exact UE oD.o.vp j hj)
    have hob:Hid (out.length<10000):=ζ (by have:=oD.o.len;have h3:=avn.o;rw[List.length_append,List.length_singleton] at h3;omega);have apq:Hid (todo.dropLast.length=n):=ζ (by rw[List.length_dropLast,hn];rfl);replace cF:=ζ cF;replace cP:=ζ cP;replace hs3:=ζ hs3;rw[hfv] at hs3;replace hfo:=ζ hfo;have awO:=ζ (Nat.le_of_eq WB.o.symm:MB≤w.heap.size);clear hcell hk Fh YM IV hs1 hs2 hfv abQ hsz hcs hx hy hT Xj hn abY;go_wp2_with (first
     | (at_mapUpdate;refine Xw hM.o rfl _ _ _ rfl (by have:=hob.o;unfold maxLen;omega) k hkb rfl rfl rfl ?_;intro w3 ZY lI;(have je:=ζ (hO.o.kept' lI (fun g hg hv=>by injection hg with hg;subst hg;exact hO.o.OQ hM.o hv)));(have hT3:=ζ (hT1.o.kept' lI (fun g hg hv=>by injection hg with hg;subst hg;exact hT1.o.OQ hM.o hv)));(have qp:=ζ (hG.o.aQ lI (fun g hg=>by injection hg with hg;subst hg;exact Nat.le_of_eq WB.o)));(replace ZY:=ζ ZY);clear lI)
     | (at_builtin;refine dB (x:=k) ZC rfl (.tmp 32) (.tmp 34) rfl (je.o.alloc _) rfl ⟨w3.heap.size,0,none⟩ rfl rfl (iK (by exact heap_alloc_new w3 _)) (VE k) (by have:=awO.o;have:=qp.o.size;simp;omega) (by have:=hob.o;unfold maxLen;omega) (by have:=hob.o;omega) (fun v4 w4 lJ jd anT=> ?_);(have Wq:=ζ ((hT3.o.alloc _).kept' jd (fun g hg hv=>hap.o g hg hv)));(have hM4:=ζ ((ZY.o.kept (World.grownBy_alloc w3 _ none) σ).kept jd (fun e=>je.o.OQ ZY.o e.symm)));(have rJ:=ζ ((qp.o.alloc _).aQ jd (fun g hg=>Nat.le_trans (Nat.le_of_eq WB.o) (je.o.Nw g hg).1)));(have awo:=ζ (fun g (hg:v4.ownBlock=some g) (hv:(Value.slice (some ⟨gT,0,none⟩) n asf).ownBlock=some g)=>by
      rcases anT with e | e
      ·rw[e] at hg;exact hap.o g hg hv
      ·rw[e] at hg;injection hg with hg;have h5:=(World.ownsRow.lt hT3.o g hv).2;simp at hg;omega));(have hS4:=ζ (hS.o.grows rJ.o));(have cP4:=rJ.o.cell cP.out);(have cF4:=rJ.o.cell cF.out);(have hF4:=ζ (hs3.o.grows rJ.o));(replace lJ:=ζ lJ);clear jd anT)
     | (at_builtin;obtain⟨fA',fc',hfe,-,-,hFa⟩:=hF4.o.arr Fe;simp only[Value.slice.injEq] at hfe;obtain⟨rfl,_,rfl⟩:=hfe;refine gU ZC rfl (.tmp 36) (.tmp 44) rfl Wq.o rfl rfl hFa Fe VE (by have:=awO.o;have:=rJ.o.size;omega) (by have:=tZ.o;have:=apq.o;unfold maxLen;omega) (by have:=tZ.o;have:=apq.o;omega) ?_;intro v5 w5 hT5 GI awn;(have mJ:=ζ (lJ.o.kept' GI (fun g hg hv=>awo.o g hv hg)));(have hM5:=ζ (hM4.o.kept GI (fun e=>Wq.o.OQ hM4.o e.symm)));(have oP:=ζ (rJ.o.aQ GI (fun g hg=>Nat.le_trans (Nat.le_of_eq WB.o) (Wq.o.Nw g hg).1)));(have aBd:=ζ (fun g (hg:v4.ownBlock=some g) (hv:v5.ownBlock=some g)=>by
      rcases awn with e | e
      ·rw[e] at hv;exact awo.o g hg hv
      ·rw[e] at hv;injection hv with hv;have h5:=(World.ownsRow.lt lJ.o g hg).2;omega));(replace hT5:=ζ hT5);clear GI awn))
    go_roundw
    case rel=>exact⟨f - 1,todo.dropLast++vW p.aS k,out++[k],ζ (by have:=hwn.o;have:=hf.o;omega),ζ (by have:=hwn.o;have:=hwb.o;omega),hstep,azP,aAj,avn,mJ,ζ (by rw[hfo.o];exact hT5.o),aBd,hM5,oP⟩
    case measure=>rw[IL.o,Og (aS:=p.aS) (todo:=todo.dropLast++vW p.aS k) mJ.o (by rw[hfo.o];exact hT5.o)];have:=hwn.o;omega
theorem aey {aS:List wP} {c:Nat} {l:List Nat} {i k:Nat} (h:l[i]? = some k):(l.take (i + 1)).foldl (iZ aS c) []=iZ aS c ((l.take i).foldl (iZ aS c) []) k:=by
 rw[List.take_add_one,h];simp
theorem aiI {w:World} {bs gp:Nat} {s:List UInt8} {sv:Value} {xs:List xX} {p:Xb} {A:Option Addr} {m cp c:Nat} {l:List Nat} (hP:aG w gp 363 #[.string ⟨s.toArray⟩,sv,.int .i64 (p.start:Int),.int .i64 (p.stop:Int)]) (hS:U4 w bs xs sv p.aS) (oD:aeb p) (hA:bW w 1 encI A m l) (hm:m≤60000) (hl:∀k∈l,k<p.aS.length) (hc:c < 256) :
 Calls Tryz.prog 252 #[.pointer (some ⟨gp,0,none⟩),.slice A m cp,.int .u8 (c:Int)] w fun e w'=>∃v,e =.returned v∧Own w' w.heap.size 3 1 encI v (pG (tu p.aS (Cb p.aS c l)))∧ah w w':=by
 have kN:=ζ hA.1;have uq:=ζ hS.len;obtain⟨sA,sc,Xj,-,-,Sl⟩:=hS.own.arr V9;obtain⟨R,yJ⟩:∃R,R=pG (tu p.aS (Cb p.aS c l)):=⟨_,rfl⟩;rw[←yJ];replace yJ:=ζ yJ;replace hA:=ζ hA;replace hP:=ζ hP;replace hS:=ζ hS;replace Sl:=ζ Sl;replace oD:=ζ oD;replace hl:=ζ hl;replace Xj:=ζ Xj;replace hc:=ζ hc;go_enter Tryz.func252,Tryz.ntmps252
 go_wp2;go_loopw [7,9,10,13] (fun vo _ _ i wr=>∃q:Nat,q≤m∧i =.int .i64 (q:Int)∧Hid (Own wr w.heap.size 3 1 encI vo ((l.take q).foldl (iZ p.aS c) []))∧Hid (ah w wr)) (fun _ _ _ i _=>m - (intOf i).toNat)
 case atStart=>exact⟨0,ω,rfl,ζ (Own.iO _ _ _ _ _),ζ (ah.refl _)⟩
 case round=>
  obtain⟨q,hq,rfl,hO,hG⟩:=hrel;by_cases hqm:q<m
  ·obtain⟨b0,o0,k,rfl,hs0,hk,hcell⟩:=(hA.o.keep hG.o).at_ hqm;have c0:wr.cell? ⟨b0,o0+q,none⟩=some (.int .i64 (k:Int)):=by simpa using hcell 0 _ rfl
   have hqi:(q:Int)<(m:Int):=ω;have Un:=hl.o k (List.mem_of_getElem? hk);obtain⟨y,hy⟩:∃y,p.aS[k]? = some y:=⟨_,List.getElem?_eq_getElem Un⟩;obtain⟨x,hx⟩:∃x,xs[k]? = some x:=⟨_,List.getElem?_eq_getElem (by rw[uq.o];exact Un)⟩;have abY:k<xs.length:=by rw[uq.o];exact Un
   obtain⟨hs1,hs2,hs3⟩:=hS.o.st k x y hx hy;obtain⟨fA,fc,hfv,-,-,-⟩:=hs3.arr Fe;obtain⟨bb,off,x',abQ,hsz,zo,hcs⟩:=(Sl.o.keep hG.o).at_ abY;rw[hx] at zo;injection zo with zo
   subst zo;have cF:wr.cell? ⟨bb,off+k*3+2,none⟩=some (.slice fA y.free.length fc):=by rw[←hfv];exact hcs 2 _ rfl
   have cN:wr.cell? ⟨bb,off+k*3+1,none⟩=some (.int .i64 (y.next:Int)):=by rw[←hs1];exact hcs 1 _ rfl
   have cV:wr.cell? ⟨bb,off+k*3,none⟩=some x.pv:=by simpa using hcs 0 _ rfl
   rw[abQ] at Xj;have cP:wr.cell? ⟨gp,1,none⟩=some (.slice (some ⟨bb,off,none⟩) xs.length sc):=by rw[←Xj.o];exact ((hP.o.grows hG.o).cell 1).trans rfl
   have kX:(k:Int)<(xs.length:Int):=ω;have htf:=aey (aS:=p.aS) (c:=c) hk;have hob:Hid (((l.take q).foldl (iZ p.aS c) []).length<70000):=ζ (by have:=(Ot oD.o.vp (c:=c) (l.take q)).2;unfold Cb at this;rw[List.length_take] at this;omega);generalize hout:(l.take q).foldl (iZ p.aS c) []=out at *
   have VZ:=ζ hG.o.size;cases aK:y.set with
   | none=>
    rw[aK] at hs2;rw[hs2] at cV;have hst:Hid ((l.take (q+1)).foldl (iZ p.aS c) []=out):=ζ (by rw[htf];unfold iZ;rw[hy];simp only[aK]);clear hs1 hs2 hs3 hfv hcs hx hy abQ htf hcell hk abY;go_wp2;go_roundw
    case rel=>exact⟨q+1,ω,ν,ζ (by rw[hst.o];exact hO.o.alloc _),ζ (hG.o.alloc _)⟩
    case measure=>exact ψ
   | some ws=>
    rw[aK] at hs2;obtain⟨gs,oW,nD,aBq⟩:=hs2;rw[oW] at cV;have cH:=fun (W:World) (hW:ah w W)=>akm (c:=c) (aBq.grows hW) hc.o
    replace cH:=ζ cH;cases hhs:Wn ws c with
    | false=>
     rw[hhs] at cH;have hst:Hid ((l.take (q+1)).foldl (iZ p.aS c) []=out):=ζ (by rw[htf];unfold iZ;rw[hy];simp only[aK,hhs];rfl);clear hs1 hs3 hfv hcs hx hy abQ htf hcell hk abY aK hhs oW;go_wp2_with fail;refine (cH.out _ (hG.o.alloc _)).mono ?_;rintro e w2 ⟨rfl,hw2⟩;replace hw2:=hw2.symm;subst hw2;go_wp2;go_roundw
     case rel=>exact⟨q+1,ω,ν,ζ (by rw[hst.o];exact hO.o.alloc _),ζ (hG.o.alloc _)⟩
     case measure=>exact ψ
    | true=>
     rw[hhs] at cH;have hst:Hid ((l.take (q+1)).foldl (iZ p.aS c) []=out++[y.next]):=ζ (by rw[htf];unfold iZ;rw[hy];simp only[aK,hhs];rfl);clear hs1 hs3 hfv hcs hx hy abQ htf hcell hk abY aK hhs oW;go_wp2_with fail;refine (cH.out _ (hG.o.alloc _)).mono ?_;rintro e w2 ⟨rfl,hw2⟩;replace hw2:=hw2.symm;subst hw2;have hZ:=aG.new wr 377 #[.pointer (some ⟨gs,0,none⟩),.int .i64 (y.next:Int),.slice fA y.free.length fc];have nM:=ζ (hO.o.alloc (.cells #[.pointer (some ⟨gs,0,none⟩),.int .i64 (y.next:Int),.slice fA y.free.length fc] 377));have gK:=ζ (hG.o.alloc (.cells #[.pointer (some ⟨gs,0,none⟩),.int .i64 (y.next:Int),.slice fA y.free.length fc] 377));clear hO hG cF cN cV cP c0 VZ;generalize wr.alloc (.cells #[.pointer (some ⟨gs,0,none⟩),.int .i64 (y.next:Int),.slice fA y.free.length fc] 377)=w2 at *
     generalize wr.heap.size=gZ at *
     have z0:=hZ.c0;have z1:=hZ.c1;have zl:=hZ.lt;have azX:=ζ gK.o.size;clear hZ;go_wp2_with (at_builtin;refine dB (x:=y.next) ZC rfl (.tmp 33) (.tmp 36) rfl (nM.o.alloc _) rfl ⟨w2.heap.size,0,none⟩ rfl rfl (iK (by exact heap_alloc_new w2 _)) (VE _) (by have:=azX.o;simp;omega) (by have:=hob.o;unfold maxLen;omega) (by have:=hob.o;omega) (fun v4 w4 lJ jd anT=> ?_);(have rJ:=ζ ((gK.o.alloc _).aQ jd (fun g hg=>(nM.o.Nw g hg).1)));(replace lJ:=ζ lJ);clear jd anT);go_roundw
     case rel=>exact⟨q+1,ω,ν,ζ (by rw[hst.o];exact lJ.o),rJ⟩
     case measure=>exact ψ
  ·obtain rfl:q=m:=ω;have aN:Hid ((l.take q).foldl (iZ p.aS c) []=Cb p.aS c l):=ζ (by rw[List.take_of_length_le (by rw[kN.o];exact Nat.le_refl _)];rfl);have hOs:=hO.o;rw[aN.o] at hOs;have hso:=Ot oD.o.vp (c:=c) l;have avz:(Cb p.aS c l).length≤60000:=by have:=hso.2;have:=kN.o;omega
   obtain⟨oA,oc,hov,-,-,hoA⟩:=hOs.arr Fe;subst hov;have cR:=ζ (TW (c:=oc) (hP.o.grows hG.o) (hS.o.grows hG.o) oD.o hoA avz hso.1);have VZ:=ζ hG.o.size;clear hO aN hso avz hoA hOs;go_wp2_with fail;refine (cR.out).mono ?_;rintro e w9 ⟨v,rfl,hO9,iP⟩;go_wp2;go_ret;refine⟨_,rfl,?_,hG.o.trans iP⟩;rw[yJ.o];exact hO9.bK VZ.o
theorem aeX (w:World) (s:List UInt8):Calls Tryz.prog 192 #[.string ⟨s.toArray⟩] w fun e w'=>e =.returned (.int .i64 (vF s:Int))∧ah w w':=by
 have cR:=ζ (X0 w s);go_enter Tryz.func192,Tryz.ntmps192
 go_wp2_with fail;refine (cR.out).mono ?_;rintro e w1 ⟨v,rfl,hv,hg⟩;clear cR;go_wp2;go_ret;exact⟨rfl,hg⟩
def yD (p:Xb) (t:List UInt8):List Nat:=t.foldl (fun l c=>pG (tu p.aS (Cb p.aS c.toNat l))) (pG (tu p.aS [p.start]))
def AP (s t:List UInt8):Bool:=match yV s with
 | none=>false
 | some p=>(yD p t).any fun x=>p.stop==x
theorem XR {l:List Nat} {n:Nat} (h:∀k∈l,k<n):∀k∈pG l,k<n:=fun k hk=>h k ((Ou l).mem_iff.1 hk)
theorem ae_ {p:Xb} (oD:aeb p) (t:List UInt8):(∀k∈yD p t,k<p.aS.length)∧(yD p t).length≤p.aS.length:=by
 have key:∀(t:List UInt8) (l:List Nat),(∀k∈l,k<p.aS.length)∧l.length≤p.aS.length→(∀k∈t.foldl (fun l c=>pG (tu p.aS (Cb p.aS c.toNat l))) l,k<p.aS.length)∧(t.foldl (fun l c=>pG (tu p.aS (Cb p.aS c.toNat l))) l).length≤p.aS.length:=by
  intro t;induction t with
  | nil=>intro l h;exact h
  | cons c t ih=>
   intro l h;refine ih _ ?_;have h1:=J3 oD.vp (Ot oD.vp (c:=c.toNat) l).1;exact⟨XR h1.1,by rw[JW];exact h1.2⟩
 refine key t _ ?_;have h1:=J3 oD.vp (l:=[p.start]) (fun k hk=>by rw[List.mem_singleton] at hk;subst hk;exact oD.start);exact⟨XR h1.1,by rw[JW];exact h1.2⟩
theorem X6 {p:Xb} {t:List UInt8} {q:Nat} {c:UInt8} (h:t[q]? = some c):yD p (t.take (q+1))=pG (tu p.aS (Cb p.aS c.toNat (yD p (t.take q)))):=by
 unfold yD;rw[List.take_add_one,h];simp
theorem ae9 {w:World} {bs:Nat} {s t:List UInt8} {v:Value} (hv:axE w bs s v (yV s)) (ht:t.length≤1000000) :
 Calls Tryz.prog 222 #[v,.string ⟨t.toArray⟩] w fun e w'=>e =.returned (.bool (AP s t))∧ah w w':=by
 obtain⟨R,hR⟩:∃R,R=AP s t:=⟨_,rfl⟩;rw[←hR];unfold AP at hR;cases Kw:yV s with
 | none=>
  rw[Kw] at hv hR;obtain rfl:v =.pointer none:=hv;simp only at hR;subst hR;clear Kw;go_enter Tryz.func222,Tryz.ntmps222
  go_wp2;go_ret;exact⟨rfl,ah.refl _⟩
 | some p=>
  have oD:=ζ (ai3 Kw);rw[Kw] at hv hR;simp only at hR;replace hR:=ζ hR;obtain⟨gp,xs,sv,rfl,hP,hS⟩:=hv;clear Kw;have cS:w.cell? ⟨gp,2,none⟩=some (.int .i64 (p.start:Int)):=(hP.cell 2).trans rfl;have cE:=ζ ((hP.cell 3).trans rfl:w.cell? ⟨gp,3,none⟩=some (.int .i64 (p.stop:Int)));have lP:=hP.lt;have hN:=aG.new w 3 #[.int .i64 (p.start:Int)];have hg1:ah w (w.alloc (.cells #[.int .i64 (p.start:Int)] 3)):=(ah.refl _).alloc _;have QA:bW (w.alloc (.cells #[.int .i64 (p.start:Int)] 3)) 1 encI (some ⟨w.heap.size,0,none⟩) 1 [p.start]:=⟨rfl,fun _=>⟨w.heap.size,0,rfl,hN.lt,fun i hi j u hu=>by
   have hi0:i = 0:=by simp at hi;omega
   have hj:j = 0:=by have:=(List.getElem?_eq_some_iff.1 hu).1;simp[encI] at this;omega
   subst hi0 hj;rw[hN.cell];exact hu⟩⟩
  have cR:=ζ (TW (c:=1) (hP.grows hg1) (hS.grows hg1) oD.o QA ω (fun k hk=>by rw[List.mem_singleton] at hk;subst hk;exact oD.o.start));replace hP:=ζ hP;replace hS:=ζ hS;clear hN QA;go_enter Tryz.func222,Tryz.ntmps222
  go_wp2_with fail;refine (cR.out).mono ?_;rintro e w1 ⟨vl,rfl,hO,hg2⟩;replace hO:=ζ (hO.bK (show w.heap.size≤_ by simp));have hG:=ζ (hg1.trans hg2);clear hg1 hg2 cR cS lP;go_wp2_with (refine lX rfl (.tmp 17) rfl rfl (by rw[bsize];omega) ?_;intro v1 w2 hB hg3;(obtain⟨bA,bc,hbv,-,-,JE⟩:=hB.arr);(rw[lq,bsize] at hbv JE);subst hbv;(replace JE:=ζ JE);(replace hO:=ζ (hO.o.grows hg3));(replace hG:=ζ (hG.o.trans hg3));clear hg3 hB);have Ur:yD p (t.take 0)=pG (tu p.aS [p.start]):=rfl;rw[←Ur] at hO;clear Ur;have awV:=ζ (ah.refl w2);go_loopw [5,7,20] (fun vl _ i wr=>∃q:Nat,q≤t.length∧i =.int .i64 (q:Int)∧Hid (Own wr w.heap.size 3 1 encI vl (yD p (t.take q)))∧Hid (ah w wr)∧Hid (ah w2 wr)) (fun _ _ i _=>t.length-(intOf i).toNat)
  case atStart=>exact⟨0,ω,rfl,hO,hG,awV⟩
  case round=>
   clear hO hG awV;obtain⟨q,hq,rfl,hO,hG,gK⟩:=hrel;have hlen:=ae_ oD.o (t.take q);obtain⟨oA,oc,hov,-,-,hoA⟩:=hO.o.arr Fe;have VZ:=ζ hG.o.size;by_cases hqm:q<t.length
   ·obtain⟨bb,off,x,rfl,hs0,hx,hcell⟩:=(JE.o.keep gK.o).at_ hqm;have c0:wr.cell? ⟨bb,off+q,none⟩=some (.int .u8 (x:Int)):=by simpa using hcell 0 _ rfl
    have hqi:(q:Int)<(t.length:Int):=ω;obtain⟨ch,hch⟩:∃ch,t[q]? = some ch:=⟨_,List.getElem?_eq_getElem hqm⟩;have Uh:x = ch.toNat:=by
     rw[vH,oU,List.getElem?_map,hch] at hx;simpa using hx.symm
    subst Uh;have xR:=ζ (X6 (p:=p) hch);have cS:=ζ (aiI (cp:=oc) (hP.o.grows hG.o) (hS.o.grows hG.o) oD.o hoA (by have:=oD.o.len;omega) hlen.1 ch.toNat_lt);clear hlen hoA hcell hx hch;generalize (yD p (t.take q))=cur at *
    subst hov;go_wp2_with fail;refine (cS.out).mono ?_;rintro e w5 ⟨v5,rfl,mJ,H8⟩;replace mJ:=ζ (mJ.bK VZ.o);go_wp2;go_roundw
    case rel=>exact⟨q+1,ω,ν,ζ (by rw[xR.o];exact mJ.o),ζ (hG.o.trans H8),ζ (gK.o.trans H8)⟩
    case measure=>exact ψ
   ·obtain rfl:q=t.length:=ω;rw[List.take_length] at hO hlen hoA hov;have cH:=ζ (ako (c:=oc) (v:=p.stop) wr hoA (by have:=oD.o.len;omega));have cE2:=hG.o.cell cE.out;rw[←hR.o] at cH;clear hlen hoA;generalize (yD p t)=cur at *
    subst hov;go_wp2_with fail;refine (cH.out).mono ?_;rintro e w9 ⟨rfl,iP⟩;go_wp2;go_ret;exact⟨rfl,hG.o.trans iP⟩
theorem agv (w:World) (s t:List UInt8) (ht:t.length≤1000000):Calls Tryz.prog 190 #[.string ⟨s.toArray⟩,.string ⟨t.toArray⟩] w fun e w'=>e =.returned (.bool (AP s t))∧ah w w':=by
 have cR:=ζ (X0 w s);go_enter Tryz.func190,Tryz.ntmps190
 go_wp2_with fail;refine (cR.out).mono ?_;rintro e w1 ⟨v,rfl,hv,hg⟩;clear cR;have cF:=ζ (ae9 hv ht);go_wp2_with fail;refine (cF.out).mono ?_;rintro e w2 ⟨rfl,hg2⟩;go_wp2;go_ret;exact⟨rfl,hg.trans hg2⟩
end Go.Proofs.YtbhikkgpcmkonaaGreatDoor
