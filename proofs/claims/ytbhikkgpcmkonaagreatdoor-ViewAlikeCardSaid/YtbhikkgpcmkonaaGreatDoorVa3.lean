/- Parts: Alt CutS ComK LabP LabA -/
import Derived.Test.YtbhikkgpcmkonaaGreatDoorVa0
import Derived.Test.YtbhikkgpcmkonaaGreatDoorVa1
import Derived.Lib.Join
import Derived.Laws.BitsAllLaws
set_option maxRecDepth 100000
set_option maxHeartbeats 12800000
namespace Go.Proofs.YtbhikkgpcmkonaaGreatDoor
open Go.RowKit
section
variable {P:Program} {ops:Array Oper} {Q:Exit→Act→World→Prop} {S:World→Prop} {K:Act→World→Prop}
end
theorem run_append_nil {P:Program} {w:World} {base:Nat} {t ty e:TypeId} {i:TypeInfo} {k:Nat} (ht:P.underlying t = some (.slice e)) (hi:P.info? e = some i)
 {v:Value} {n:Nat} {xs:List Value} (hown:w.ownsRow base e k v n xs) (c:Nat):(Builtin.append_ #[t,t] ty #[v,.slice none 0 c]).run P w =.ok v w:=by
 rcases hown.2 with⟨rfl,rfl⟩ | ⟨g,cap,cur,rfl,_,_,Cb,_⟩
 ·simp[Builtin.append_,run_underlying ht,sizeOf,typeInfo,hi,Builtin.lenOf,Builtin.firstCells]
 ·simp[Builtin.append_,run_underlying ht,sizeOf,typeInfo,hi,Builtin.lenOf,Builtin.firstCells,Cb,storeCells]
theorem Own.Iw {α:Type} {w:World} {base k:Nat} {e:TypeId} {enc:α→List Value} {v:Value} {xs:List α} {P:Program} {ops:Array Oper} {o:Oper} {ac:Act} {K:Act→World→Prop} {Q:Exit→Act→World→Prop} {E:Prop} {ys:List α} {m bytes c:Nat} {t:TypeId} (T:eX P t e k bytes) (hgd:Region.wanted o (yielded ops ac.tmps)=true) (s y:Operand)
 (ho:o.op=.call {callee:=.builtin .append,args:= #[s,y],argTypes:= #[t,t]}) (h:Own w base e k enc v xs) (hs:ac.eval s = v) {A:Option Addr} (hy:ac.eval y =.slice A m c) (kC:bW w k enc A m ys)
 (hk:∀x,(enc x).length=k) (h1:∀x,∀u∈enc x,u.oneCell'=true) (hbase:base≤w.heap.size) (h63:xs.length+m≤maxLen) (hbytes:(xs.length+m)*bytes≤140737488355328)
 (hK:∀v' w',Own w' base e k enc v' (xs++ys)→w.grownBy w' v.ownBlock→(v'.ownBlock=v.ownBlock∨v'.ownBlock=some w.heap.size)→K (ac.put o.dst v') w') :
 if Region.wanted o (yielded ops ac.tmps)=true then Oper.wp P o ac w K Q else E:=by
 rw[if_pos hgd];obtain⟨i,z,hi,hz,hsz,hby,hzs⟩:=T.info;rcases A with _ | ad
 ·have hm:m = 0:=by
   rcases Nat.eq_zero_or_pos m with h0 | h0
   ·exact h0
   ·obtain⟨b,off,h,_⟩:=kC.2 h0;cases h
  subst hm;obtain rfl:ys=[]:=List.eq_nil_of_length_eq_zero kC.1;have hr:=run_append_nil (P:=P) (ty:=o.type) T.und hi h c;unfold Oper.wp execOp;simp only[ho,resolve,invoke,builtin,Sem.run_bind,Sem.run_pure,Result.andThen_ok,List.map_toArray,List.map_cons,List.map_nil,hs,hy,hr];exact hK v w (by simpa using h) (World.grownBy.refl w _) (.inl rfl)
 ·have hnews:∀j u,(cu enc ys)[j]? = some u→w.cell? (ad.add j)=some u:=by
   intro j u hu;have hj:=(List.getElem?_eq_some_iff.1 hu).1;rw[jc hk] at hj;have hm:0<ys.length:=by
    rcases Nat.eq_zero_or_pos ys.length with h0 | h0
    ·rw[h0] at hj;omega
    ·exact h0
   obtain⟨b,off,e1,_,hc⟩:=kC.2 (by rw[←kC.1];exact hm);have e2:j / k*k+j % k=j:=by rw[Nat.mul_comm];exact Nat.div_add_mod j k
   have hq:j / k<ys.length:=(Nat.div_lt_iff_lt_mul T.pos).2 hj;have h2:=mG hk ys _ hq _ (Nat.mod_lt j T.pos);rw[e2,hu] at h2;have h3:=hc _ hq _ u h2.symm;rw[show off+j / k*k+j % k=off+j by omega] at h3;injection e1 with e1
   subst e1;have:(⟨b,off,none⟩:Addr).add j = ⟨b,off+j,none⟩:=by unfold Addr.add;by_cases hj:j = 0 <;> simp[hj]
   rw[this];exact h3
  obtain⟨v',w',hr,h2,h3,_,h5⟩:=run_append_own_at (P:=P) w base t o.type e i z k bytes T.und hi hz hsz hby hzs T.pos v xs.length (cu enc xs) h ad m c (cu enc ys) (by rw[jc hk,kC.1]) hnews (fun u hu=>by
   simp only[cu,List.mem_flatMap] at hu;obtain⟨x,_,hx⟩:=hu;exact h1 x u hx) h63 hbytes hbase
  unfold Oper.wp execOp;simp only[ho,resolve,invoke,builtin,Sem.run_bind,Sem.run_pure,Result.andThen_ok,List.map_toArray,List.map_cons,List.map_nil,hs,hy,hr];refine hK v' w' ?_ h3 h5;unfold Own;rw[List.length_append,kC.1];have:cu enc (xs++ys)=cu enc xs++cu enc ys:=by simp[cu]
  rw[this];exact h2
def gV (is:List Nat) (a:Act):Act:=is.foldl (fun a i=>a.put (some i) undef) a
def lM (f:Nat→Value) (is:List Nat) (a:Act):Act:=is.foldl (fun a i=>a.put (some i) (f i)) a
theorem NH:∀(is:List Nat) (a:Act),(gV is a).tmps.size=a.tmps.size∧(gV is a).defers=a.defers
 | [],_=>⟨rfl,rfl⟩
 | i ::is,a=>by
  have h:=NH is (a.put (some i) undef);exact⟨h.1.trans (by simp[Act.put]),h.2.trans rfl⟩
theorem RU (f:Nat→Value):∀(is:List Nat) (a:Act),(lM f is a).tmps.size=a.tmps.size∧(lM f is a).defers=a.defers
 | [],_=>⟨rfl,rfl⟩
 | i ::is,a=>by
  have h:=RU f is (a.put (some i) (f i));exact⟨h.1.trans (by simp[Act.put]),h.2.trans rfl⟩
theorem YQ:∀(is:List Nat) (a:Act) (j:Nat),j∉is→(gV is a).tmps[j]? = a.tmps[j]?
 | [],_,_,_=>rfl
 | i ::is,a,j,h=>by
  have h1:=YQ is (a.put (some i) undef) j (fun hj=>h (List.mem_cons_of_mem _ hj));have hij:i≠j:=fun e=>h (by simp[e])
  exact h1.trans (by simp[Act.put,hij])
theorem Gm (f:Nat→Value):∀(is:List Nat) (a:Act) (j:Nat),j∉is→(lM f is a).tmps[j]? = a.tmps[j]?
 | [],_,_,_=>rfl
 | i ::is,a,j,h=>by
  have h1:=Gm f is (a.put (some i) (f i)) j (fun hj=>h (List.mem_cons_of_mem _ hj));have hij:i≠j:=fun e=>h (by simp[e])
  exact h1.trans (by simp[Act.put,hij])
theorem KU (f:Nat→Value):∀(is:List Nat) (a:Act) (j:Nat),j∈is→j < a.tmps.size→(lM f is a).tmps[j]? = some (f j)
 | [],_,_,h,_=>by simp at h
 | i ::is,a,j,h,hj=>by
  by_cases hm:j∈is
  ·exact KU f is (a.put (some i) (f i)) j hm (by simpa[Act.put] using hj)
  ·have hij:i = j:=by
    rcases List.mem_cons.1 h with e | e
    ·exact e.symm
    ·exact absurd e hm
   subst hij;exact (Gm f is (a.put (some i) (f i)) i hm).trans (by simp[Act.put,hj])
theorem abM (is:List Nat) (a:Act):a = lM (fun i=>a.tmps.getD i undef) is (gV is a):=by
 obtain⟨s1,d1⟩:=NH is a;obtain⟨s2,d2⟩:=RU (fun i=>a.tmps.getD i undef) is (gV is a);have ht:a.tmps=(lM (fun i=>a.tmps.getD i undef) is (gV is a)).tmps:=by
  apply Array.ext_getElem?;intro j;by_cases hj:j < a.tmps.size
  ·by_cases hm:j∈is
   ·rw[KU _ is _ j hm (by rw[s1];exact hj)];simp[hj]
   ·rw[Gm _ is _ j hm,YQ is a j hm]
  ·rw[Array.getElem?_eq_none ω,Array.getElem?_eq_none (by rw[s2,s1];omega)]
 have hd:a.defers=(lM (fun i=>a.tmps.getD i undef) is (gV is a)).defers:=(d2.trans d1).symm;cases a
 generalize lM _ _ _ = b at *
 cases b
 simp only at ht hd;subst ht hd;rfl
def ak5 (is:List Nat) (F:Act) (R:(Nat→Value)→World→Prop) (e:Exit) (a:Act) (w:World):Prop:=match e with
 | .normal=>gV is a = F∧R (fun i=>a.tmps.getD i undef) w
 | _=>False
theorem Hg {P:Program} {c:Code} {Q:Exit→Act→World→Prop} {a:Act} {w:World} (is:List Nat) (F:Act) (R:(Nat→Value)→World→Prop) (h1:c.wp P (ak5 is F R) a w) (h2:∀f w',R f w'→Q .normal (lM f is F) w'):c.wp P Q a w:=
 Code.wp_mono (fun e a' w' h=>by
  cases e with
  | normal=>
   obtain⟨rfl,h⟩:=h;have:=h2 _ w' h;rwa [←abM] at this
  | _=>exact h.elim) h1
section
variable {P:Program} {ops:Array Oper} {Q:Exit→Act→World→Prop} {S:World→Prop}
def awq (P:Program) (v:Value) (w:World):Result Next→Prop
 | .ok (.value u) w'=>u = v∧ah w w'
 | .ok (.enter f args) w'=>Calls P f args w' fun e w''=>e =.returned v∧ah w w''
 | _=>False
def mW (P:Program) (ops:Array Oper) (S:World→Prop) (o:Oper) (v:Value) (a:Act):Prop:=
 (Region.wanted o (yielded ops a.tmps)=true∧∀w,S w→awq P v w ((execOp a.eval o).run P w))∨(Region.wanted o (yielded ops a.tmps)=false∧v = undef)
theorem mW.wpOp {i:Nat} {o:Oper} {v:Value} {a:Act} (hi:ops[i]? = some o) (hy:mW P ops S o v a) {K:Act→World→Prop} {w:World} (hS:S w) (h:∀w',ah w w'→K (a.put o.dst v) w'):wpOp P ops Q i K a w:=by
 unfold Go.wpOp;simp only[hi];rcases hy with⟨hw,hv⟩ | ⟨hw,rfl⟩
 ·simp only[hw,if_true];refine .inl ?_;have hv:=hv w hS;unfold Oper.wp;generalize (execOp a.eval o).run P w = r at *
  cases r with
  | ok n w'=>
   cases n with
   | value u=>obtain⟨rfl,hg⟩:=hv;exact h w' hg
   | enter f args=>exact Calls.mono hv fun e w'' ⟨he,hg⟩=>by subst he;exact h w'' hg
   | _=>exact hv.elim
  | halt x w'=>exact hv.elim
 ·simp only[hw,Bool.false_eq_true,if_false];exact h w (ah.refl w)
theorem mW.of_same {o:Oper} {v:Value} {a a':Act} (hy:mW P ops S o v a) (he:execOp a'.eval o = execOp a.eval o)
 (hw:Region.wanted o (yielded ops a'.tmps)=Region.wanted o (yielded ops a.tmps)):mW P ops S o v a':=by
 unfold mW at *
 rw[he,hw];exact hy
theorem adw {j:Nat} {oi oj:Oper} {v:Value} (hj:ops[j]? = some oj) (hap:oi.apart ops oj=true)
 (hsi:∀cs b,oi.op≠.select cs b) (hsj:∀cs b,oj.op≠.select cs b)
 (hQ:∀c a w,Q (.panic c) (a.put oi.dst v) w→Q (.panic c) a w) {K:Act→World→Prop} {a:Act} {w:World}
 (hy:mW P ops S oi v a) (h:wpOp P ops Q j K (a.put oi.dst v) w) :
 wpOp P ops Q j (fun a' w'=>mW P ops S oi v a'∧K (a'.put oi.dst v) w') a w:=by
 obtain⟨h1,h2,h3⟩:=Oper.apart_spec hap;have keep:∀(a:Act),mW P ops S oi v a→∀u,mW P ops S oi v (a.put oj.dst u):=fun a hy u=>
  hy.of_same (execOp_put oi hsi a oj.dst u h3) (wanted_put oi a oj.dst u h3)
 have atM:∀d,mW P ops S oi v {a with defers:=d ::a.defers}:=fun d=>hy.of_same rfl rfl
 unfold wpOp at *
 simp only[hj] at *
 rw[wanted_put oj a oi.dst v h1] at h;split
 ·rename_i hw;simp only[hw,if_true] at h;rcases h with h | ⟨hasks,auD⟩
  case inr=>exact .inr ⟨by unfold Oper.asks at *;rw[execOp_put oj hsj a oi.dst v h1] at hasks;exact hasks,auD⟩
  refine .inl ?_;unfold Oper.wp at *
  rw[execOp_put oj hsj a oi.dst v h1] at h;generalize (execOp a.eval oj).run P w = r at *
  cases r with
  | ok n w'=>
   cases n <;> simp only[Oper.upon] at h ⊢
   case value u=>exact⟨keep a hy u,by rw[←Act.put_comm a v u h2];exact h⟩
   case skip=>exact⟨keep a hy _,by rw[←Act.put_comm a v undef h2];exact h⟩
   case defer d=>
    refine⟨keep _ (atM d) _,?_⟩;rw[←Act.put_comm _ v undef h2,←Act.put_defers];exact h
   case enter f args=>
    refine Calls.mono h fun e w'' he=> ?_
    cases e with
    | returned u=>exact⟨keep a hy u,by rw[←Act.put_comm a v u h2];exact he⟩
    | panicked c=>exact hQ _ _ _ he
    | outgrown=>exact he
   case row row args=>exact Rows.mono h fun u w'' he=>⟨keep a hy u,by rw[←Act.put_comm a v u h2];exact he⟩
  | halt x w'=>
   cases x <;> simp only[Oper.upon] at h ⊢
   case panic u=>exact hQ _ _ _ h
 ·rename_i hw;simp only[hw] at h;exact⟨keep a hy _,by rw[←Act.put_comm a v undef h2];exact h⟩
def Gi (ops:Array Oper) (i:Nat):List Nat:=match ops[i]? with
 | some o=>(o.after.toList.filter fun e=>Region.binds .any e).map (·.on)
 | none=>[]
def Uh (ops:Array Oper):Nat→Nat→Nat→Bool
 | 0,_,_=>false
 | n + 1,i,k=>(Gi ops i).any (fun j=>j ==k)||(Gi ops i).any fun j=>Uh ops n j k
def XB (ops:Array Oper) (i:Nat):Bool:=(List.range ops.size).all fun k=>k==i ||Uh ops ops.size i k
def vZ (ops:Array Oper) (l:Array Bool):Prop:=∀j,l.getD j false=true→∀k∈Gi ops j,l.getD k false=true
def M_ (ops:Array Oper) (l:Array Bool):Bool:=(List.range l.size).all fun j=> !(l.getD j false)||(Gi ops j).all fun k=>l.getD k false
theorem af7 {l:Array Bool} (h:M_ ops l = true):vZ ops l:=fun j hj k hk=>by
 unfold M_ at h;have hlt:j < l.size:=by
  rcases Nat.lt_or_ge j l.size with h' | h'
  ·exact h'
  ·simp[h'] at hj
 have:=List.all_eq_true.1 h j (List.mem_range.2 hlt);rw[hj] at this;simp only[Bool.not_true,Bool.false_or] at this;exact List.all_eq_true.1 this k hk
theorem CQ (n:Nat):vZ ops (Array.replicate n false):=fun j hj=>by
 exfalso
 rcases Nat.lt_or_ge j n with h' | h'
 ·simp[h'] at hj
 ·simp[h'] at hj
theorem NM {i:Nat} {l:Array Bool} (hr:i∈Region.ready .any ops l):∀k∈Gi ops i,l.getD k false=true:=fun k hk=>by
 obtain⟨_,o,ho,hall⟩:=mem_ready.1 hr;unfold Gi at hk;rw[ho] at hk;simp only[List.mem_map,List.mem_filter,Array.mem_toList_iff] at hk;obtain⟨e,⟨he,hb⟩,rfl⟩:=hk;exact hall e he hb
theorem vZ.step {i:Nat} {l:Array Bool} (h:vZ ops l) (hr:i∈Region.ready .any ops l):vZ ops (l.setIfInBounds i true):=fun j hj k hk=>by
 by_cases V5:i = j
 ·subst V5;exact getD_set_true (NM hr k hk)
 ·rw[getD_set_ne false V5] at hj;exact getD_set_true (h j hj k hk)
theorem Ho {l:Array Bool} (hc:vZ ops l):∀(n i k:Nat),(∀j∈Gi ops i,l.getD j false=true)→Uh ops n i k=true→l.getD k false=true
 | 0,_,_,_,h=>by cases h
 | n + 1,i,k,hd,h=>by
  unfold Uh at h;rcases Bool.or_eq_true _ _ ▸ h with h1 | h1
  ·obtain⟨j,hj,he⟩:=List.any_eq_true.1 h1;rw[←beq_iff_eq.1 he];exact hd j hj
  ·obtain⟨j,hj,he⟩:=List.any_eq_true.1 h1;exact Ho hc n j k (hc j (hd j hj)) he
theorem Ky {i k:Nat} {l:Array Bool} (hc:vZ ops l) (h:XB ops i = true) (hr:i∈Region.ready .any ops l) (hk:k<ops.size) (hne:k≠i):l.getD k false=true:=by
 have:=List.all_eq_true.1 h k (List.mem_range.2 hk);rcases Bool.or_eq_true _ _ ▸ this with h1 | h1
 ·exact absurd (beq_iff_eq.1 h1) hne
 ·exact Ho hc _ _ _ (NM hr) h1
theorem N_ {k:Nat} {l:Array Bool} (h:l.getD k false=true) (h0:l.getD k true=false):False:=by
 rcases Nat.lt_or_ge k l.size with h' | h'
 ·simp[h'] at h h0;rw[h0] at h;cases h
 ·simp[h'] at h
theorem aad {i:Nat} {listed:Array Bool} (hc:vZ ops listed) (h:XB ops i = true) (hr:i∈Region.ready .any ops listed):Region.ready .any ops (listed.setIfInBounds i true)=[]:=by
 rw[List.eq_nil_iff_forall_not_mem];intro k hk;obtain⟨g0,p,hp,_⟩:=mem_ready.1 hk;by_cases kY:k=i
 ·subst kY;rcases Nat.lt_or_ge k listed.size with h' | h'
  ·simp[h'] at g0
  ·simp[h'] at g0
 ·rw[getD_set_ne true (Ne.symm kY)] at g0;exact N_ (Ky hc h hr (Array.getElem?_eq_some_iff.1 hp).1 kY) g0
def jQ (P:Program) (ops:Array Oper) (Q:Exit→Act→World→Prop) (S:World→Prop):Nat→Array Bool→Act→World→Prop
 | 0,listed,a,w=>∀w1,ah w w1→S w1→Region.ready .any ops listed=[]∧Q .normal a w1
 | fuel+1,listed,a,w=>∀w1,ah w w1→S w1→(Region.ready .any ops listed=[]→Q .normal a w1)∧
  ∀i∈Region.ready .any ops listed,wpOp P ops Q i (fun a' w'=>(S w'∧jQ P ops Q S fuel (listed.setIfInBounds i true) a' w')∨(XB ops i = true∧Q .normal a' w')) a w1
theorem wpAny_done {listed:Array Bool} {a:Act} {w:World} (hr:Region.ready .any ops listed=[]) (h:Q .normal a w):∀fuel,wpAny P .any ops Q fuel listed a w
 | 0=>⟨hr,h⟩
 | _ + 1=>⟨fun _=>h,by rw[hr];simp⟩
theorem yZ:∀(fuel:Nat) (listed:Array Bool) (a:Act) (w:World),vZ ops listed→S w→jQ P ops Q S fuel listed a w→wpAny P .any ops Q fuel listed a w
 | 0,_,_,w,_,hS,h=>h w (ah.refl w) hS
 | fuel+1,_,_,w,hc,hS,h=>⟨(h w (ah.refl w) hS).1,fun i hi=>wpOp_mono (fun a' w' h'=>h'.elim (fun h'=>yZ fuel _ a' w' (hc.step hi) h'.1 h'.2) (fun h'=>wpAny_done (aad hc h'.1 hi) h'.2 fuel)) ((h w (ah.refl w) hS).2 i hi)⟩
theorem oU {fuel:Nat} {l:Array Bool} {a:Act} {w w':World} (hg:ah w w') (h:jQ P ops Q S fuel l a w):jQ P ops Q S fuel l a w':=by
 cases fuel with
 | zero=>exact fun w1 h1=>h w1 (hg.trans h1)
 | succ fuel=>exact fun w1 h1=>h w1 (hg.trans h1)
theorem Ue {i:Nat} {oi:Oper} {v:Value} (hup:∀w w',S w→ah w w'→S w') (hi:ops[i]? = some oi) (BX:∀(j:Nat) (o:Oper) cs b,ops[j]? = some o→o.op≠.select cs b)
 (hQ:∀c a w,Q (.panic c) (a.put oi.dst v) w→Q (.panic c) a w) :
 ∀(fuel:Nat) (listed:Array Bool) (a:Act) (w:World),vZ ops listed→
  (∀j oj,ops[j]? = some oj→j≠i→listed.getD j true=false→(∀e∈oj.after,Region.binds .any e = true→e.on≠i)→oi.apart ops oj=true)→
  i∈Region.ready .any ops listed→mW P ops S oi v a→
  jQ P ops Q S fuel (listed.setIfInBounds i true) (a.put oi.dst v) w→jQ P ops Q S (fuel+1) listed a w:=by
 intro fuel;induction fuel with
 | zero=>
  intro listed a w _ _ hr hy H w1 hG hS;refine⟨fun h=>(by rw[h] at hr;cases hr),fun j hj=> ?_⟩;by_cases V5:j = i
  ·subst V5;exact hy.wpOp hi hS fun w' hg=> .inl ⟨hup _ _ hS hg,oU (hG.trans hg) H⟩
  ·have:=ready_mono hj V5;rw[(H w1 hG hS).1] at this;cases this
 | succ fuel ih=>
  intro listed a w qB aon hr hy H w1 hG hS;refine⟨fun h=>(by rw[h] at hr;cases hr),fun j hj=> ?_⟩;by_cases V5:j = i
  ·subst V5;exact hy.wpOp hi hS fun w' hg=> .inl ⟨hup _ _ hS hg,oU (hG.trans hg) H⟩
  ·have h1:=(H w1 hG hS).2 j (ready_mono hj V5);obtain⟨auI,oj,hoj,hall⟩:=mem_ready.1 hj;have abd:∀e∈oj.after,Region.binds .any e = true→e.on≠i:=fun e he hb heq=>by
    have h1:=hall e he hb;have h0:=(mem_ready.1 hr).1;rw[heq] at h1;rcases Nat.lt_or_ge i listed.size with h' | h'
    ·simp[h'] at h0 h1;rw[h0] at h1;cases h1
    ·simp[Array.getElem?_eq_none h'] at h1
   have h2:=adw hoj (aon j oj hoj V5 auI abd) (fun cs b=>BX i oi cs b hi) (fun cs b=>BX j oj cs b hoj) hQ hy h1;have aqi:∀k ok,ops[k]? = some ok→k≠i→(listed.setIfInBounds j true).getD k true=false→
    (∀e∈ok.after,Region.binds .any e = true→e.on≠i)→oi.apart ops ok=true:=fun k ok hk kY hun hno=>by
    refine aon k ok hk kY ?_ hno;by_cases hjk:j = k
    ·subst hjk;exact auI
    ·rw[getD_set_ne true hjk] at hun;exact hun
   refine wpOp_mono (fun a' w' h3=> .inl ?_) h2;rcases h3.2 with h4 | h4
   ·refine⟨h4.1,ih (listed.setIfInBounds j true) a' w' (qB.step hj) aqi (ready_mono hr (Ne.symm V5)) h3.1 ?_⟩;rw[Array.setIfInBounds_comm _ _ V5];exact h4.2
   ·exact (N_ (Ky qB h4.1 hj (Array.getElem?_eq_some_iff.1 hi).1 (Ne.symm V5)) (mem_ready.1 hr).1).elim
def ng (P:Program) (ops:Array Oper) (S:World→Prop) (K:Act→Prop):List Nat→Act→Prop
 | [],a=>K a
 | i ::r,a=>∃o v,ops[i]? = some o∧mW P ops S o v a∧ng P ops S K r (a.put o.dst v)
def aaI (ops:Array Oper):List Nat→Array Bool→Option (Array Bool)
 | [],l=>some l
 | i ::r,l=>if (Region.ready .any ops l).contains i &&Region.free .any ops l i then aaI ops r (l.setIfInBounds i true) else none
theorem RI (hup:∀w w',S w→ah w w'→S w') (BX:Region.noSelect ops=true) (hQ:∀c a d v w,Q (.panic c) (Act.put a d v) w→Q (.panic c) a w) {n:Nat} {l':Array Bool} {w:World} :
 ∀(r:List Nat) (l:Array Bool) (a:Act),vZ ops l→aaI ops r l = some l'→ng P ops S (fun a=>jQ P ops Q S n l' a w) r a→jQ P ops Q S (r.length+n) l a w
 | [],l,a,_,hB,h=>by
  simp only[aaI,Option.some.injEq] at hB;subst hB;simpa[ng] using h
 | i ::r,l,a,qB,hB,h=>by
  unfold aaI at hB;split at hB
  ·rename_i hc;simp only[Bool.and_eq_true] at hc;obtain⟨o,v,ho,hy,h'⟩:=h;rw[show (i ::r).length+n = (r.length+n)+1 by simp only[List.length_cons];omega];exact Ue hup ho (Region.noSelect_spec BX) (fun c a w=>hQ c a o.dst v w) (r.length+n) l a w qB (Region.free_spec ho hc.2) (by simpa using hc.1) hy (RI hup BX hQ r _ _ (qB.step (by simpa using hc.1)) hB h')
  ·cases hB
theorem Zm {a:Act} {w:World} {l l':Array Bool} {m:Nat} (r:List Nat) (n:Nat) (hup:∀w w',S w→ah w w'→S w') (BX:Region.noSelect ops=true) (hQ:∀c a d v w,Q (.panic c) (Act.put a d v) w→Q (.panic c) a w) (hm:m = r.length+n) (qB:M_ ops l = true)
 (hB:aaI ops r l = some l') (h:ng P ops S (fun a=>jQ P ops Q S n l' a w) r a):jQ P ops Q S m l a w:=by
 subst hm;exact RI hup BX hQ r _ _ (af7 qB) hB h
theorem Ws {i:Nat} {o:Oper} {r:List Nat} {a:Act} {K:Act→Prop} (ho:ops[i]? = some o)
 (h:∀K':Act→Prop,Shut (∀a,ng P ops S K r a→K' a)→if Region.wanted o (yielded ops a.tmps)=true then ∃v,(∀wq,S wq→(execOp a.eval o).run P wq=.ok (.value v) wq)∧K' (a.put o.dst v) else K' (a.put o.dst undef)) :
 ng P ops S K (i ::r) a:=by
 have h':=h _ (fun _ h=>h);split at h'
 ·rename_i hw;obtain⟨v,h1,h2⟩:=h';exact⟨o,v,ho,.inl ⟨hw,fun w hS=>by rw[h1 w hS];exact⟨rfl,ah.refl w⟩⟩,h2⟩
 ·rename_i hw;exact⟨o,undef,ho,.inr ⟨by simpa using hw,rfl⟩,h'⟩
theorem h_ {P:Program} {ops:Array Oper} {S:World→Prop} {K:Act→Prop} {r:List Nat} {i:Nat} {a a':Act} (k:ng P ops S K r a') (ho:(ops[i]?).isSome=true:=by rfl)
 (h:∀o,ops[i]? = some o→∀K':Act→Prop,Shut (K' a')→if Region.wanted o (yielded ops a.tmps)=true then ∃v,(∀wq,S wq→(execOp a.eval o).run P wq=.ok (.value v) wq)∧K' (a.put o.dst v) else K' (a.put o.dst undef):=by
  intro o ho;obtain rfl:=Option.some.inj ho;clear ho;intro K hK;go_simp;(try go_bits);first | (exact hK.out) | (apply Exists.intro;refine And.intro ?_ ?_;(intro wq eG;first | (go_simp;done) | ((try go_simp);(try simp only[↓IntWalk.iteOmega]);(try go_bits);rfl) | (obtain⟨nR,mY⟩:=VH eG;go_simp;done) | (obtain⟨nR,mY⟩:=VH eG;(try go_simp);(try simp only[↓IntWalk.iteOmega]);(try go_bits);rfl));exact hK.out)):ng P ops S K (i ::r) a:=by
 obtain⟨o,ho⟩:=Option.isSome_iff_exists.1 ho;exact Ws ho fun K' hK=>h o ho K' (hK.out _ k)
theorem aC {P:Program} {ops:Array Oper} {S:World→Prop} {K:Act→Prop} {r:List Nat} {i:Nat} {a a':Act} (k:ng P ops S K r a') (ho:(ops[i]?).isSome=true:=by rfl)
 (h:∀o,ops[i]? = some o→∀K':Act→Prop,Shut (K' a')→if Region.wanted o (yielded ops a.tmps)=true then ∃v,(∀wq,S wq→(execOp a.eval o).run P wq=.ok (.value v) wq)∧K' (a.put o.dst v) else K' (a.put o.dst undef):=by
  intro o ho;obtain rfl:=Option.some.inj ho;clear ho;intro K hK;go_simp;(try go_bits);first | (exact hK.out) | (apply Exists.intro;refine And.intro ?_ ?_;(intro wq eG;first | (go_simp;done) | ((try go_simp);(try simp only[↓IntWalk.iteOmega]);(try go_bits);rfl) | (obtain⟨nR,mY⟩:=bQ eG;go_simp;done) | (obtain⟨nR,mY⟩:=bQ eG;(try go_simp);(try simp only[↓IntWalk.iteOmega]);(try go_bits);rfl));exact hK.out)):ng P ops S K (i ::r) a:=by
 obtain⟨o,ho⟩:=Option.isSome_iff_exists.1 ho;exact Ws ho fun K' hK=>h o ho K' (hK.out _ k)
theorem awu {i:Nat} {o:Oper} {r:List (Nat×Bool)} {a:Act} {w:World} (ho:ops[i]? = some o)
 (h:∀K:Act→Prop,Shut (∀a,wP P ops S Q r a w→K a)→if Region.wanted o (yielded ops a.tmps)=true then ∃v,(∀wq,S wq→(execOp a.eval o).run P wq=.ok (.value v) wq)∧K (a.put o.dst v) else K (a.put o.dst undef)) :
 wP P ops S Q ((i,true)::r) a w:=
 acj ho fun K hK=>h K hK
theorem aY {i:Nat} {o:Oper} {r:List Nat} {a:Act} {K:Act→Prop} (v:Value) (ho:ops[i]? = some o) (hw:Region.wanted o (yielded ops a.tmps)=true)
 (h:∀wq,S wq→awq P v wq ((execOp a.eval o).run P wq)) (h2:ng P ops S K r (a.put o.dst v)):ng P ops S K (i ::r) a:=
 ⟨o,v,ho,.inl ⟨hw,h⟩,h2⟩
theorem uJ {i:Nat} {o:Oper} {r:List Nat} {a:Act} {K:Act→Prop} (ho:ops[i]? = some o) (hw:Region.wanted o (yielded ops a.tmps)=false)
 (h2:ng P ops S K r (a.put o.dst undef)):ng P ops S K (i ::r) a:=
 ⟨o,undef,ho,.inr ⟨hw,rfl⟩,h2⟩
theorem aB {a:Act} {K:Act→Prop} (h:K a):ng P ops S K [] a:=h
def au (P:Program) (ops:Array Oper) (Q:Exit→Act→World→Prop) (S:World→Prop) (m:Nat) (l:Array Bool) (a:Act) (w:World) (rs:List Nat):Prop:=
 ∀i∈rs,wpOp P ops Q i (fun a' w'=>(S w'∧jQ P ops Q S m (l.setIfInBounds i true) a' w')∨(XB ops i = true∧Q .normal a' w')) a w
theorem au.nil {m:Nat} {l:Array Bool} {a:Act} {w:World}:au P ops Q S m l a w []:=fun _ h=>by cases h
theorem au.cons {m i:Nat} {l:Array Bool} {a:Act} {w:World} {rs:List Nat} {o:Oper} (ho:ops[i]? = some o)
 (h:∀K':Act→World→Prop,Shut (∀a w,S w→(S w→jQ P ops Q S m (l.setIfInBounds i true) a w)→K' a w)→if Region.wanted o (yielded ops a.tmps)=true then Oper.wp P o a w K' Q else K' (a.put o.dst undef) w)
 (hr:au P ops Q S m l a w rs):au P ops Q S m l a w (i ::rs):=fun j hj=>by
 rcases List.mem_cons.1 hj with rfl | hj
 ·exact wpOp_step ho (fun K' hK=>h K' (fun a w hS hW=>hK a w (.inl ⟨hS,hW hS⟩)))
 ·exact hr j hj
theorem aH {a:Act} {w:World} {l:Array Bool} {m:Nat} (rs:List Nat) (hr:Region.ready .any ops l = rs) (hne:rs≠[]) (h:∀w1,ah w w1→S w1→au P ops Q S m l a w1 rs):jQ P ops Q S (m + 1) l a w:=
 fun w1 hG hS=>⟨fun h0=>absurd (hr.symm.trans h0) hne,by rw[hr];exact h w1 hG hS⟩
theorem aJ {a:Act} {w:World} {l:Array Bool} {m:Nat} (hr:Region.ready .any ops l = []) (h:∀w1,ah w w1→S w1→Q .normal a w1):jQ P ops Q S m l a w:=by
 cases m with
 | zero=>exact fun w1 hG hS=>⟨hr,h w1 hG hS⟩
 | succ m=>exact fun w1 hG hS=>⟨fun _=>h w1 hG hS,fun i hi=>by rw[hr] at hi;cases hi⟩
theorem d_ {i:Nat} {o:Oper} {a:Act} {w:World} {l:Array Bool} {m:Nat} (ho:ops[i]? = some o) (hr:Region.ready .any ops l = [i]) (hend:XB ops i = true)
 (h:∀w1,ah w w1→S w1→∀K':Act→World→Prop,Shut (∀a w,Q .normal a w→K' a w)→if Region.wanted o (yielded ops a.tmps)=true then Oper.wp P o a w1 K' Q else K' (a.put o.dst undef) w1):jQ P ops Q S (m + 1) l a w:=
 fun w1 hG hS=>⟨fun h0=>(by rw[hr] at h0;cases h0),fun j hj=>by
  rw[hr] at hj;obtain rfl:j = i:=by simpa using hj
  exact wpOp_step ho (fun K' hK=>h w1 hG hS K' (fun a w hQ=>hK a w (.inr ⟨hend,hQ⟩)))⟩
theorem aG {id:Nat} {a:Act} {w:World} {l:List Oper} (hm:P.follows .mixedOrders=true)
 (h:jQ P l.toArray Q (ah w) l.length (Array.replicate l.length false) a w):(Code.region id l.toArray true).wp P Q a w:=by
 refine wp_region_any hm (yZ (S:=ah w) _ _ _ _ (CQ _) (ah.refl w).drew ?_);have:=oU (ah.refl w).drew h;simpa using this
theorem ah.keeps {w w':World} (h:ah w w') (row:Option Nat):w.grownBy w' row:=⟨Below.os h,Below.tape h,Below.output h,Below.size h,fun i hi _=>Below.block h i hi⟩
theorem jB {row:Option Nat} {w0:World}:∀w w',w0.grownBy w row→ah w w'→w0.grownBy w' row:=fun _ _ h k=>h.trans (k.keeps row)
theorem dQ {row:Option Nat} {a b c:World} (h:a.grownBy b row) (k:ah b c):a.grownBy c row:=h.trans (k.keeps row)
theorem VH {row:Option Nat} {W w1:World} (hb:W.grownBy w1 row):(∀b o,b < W.heap.size→some b≠row→w1.cell? ⟨b,o,none⟩=W.cell? ⟨b,o,none⟩)∧(∀b o,b < W.heap.size→some b≠row→w1.frozen? ⟨b,o,none⟩=W.frozen? ⟨b,o,none⟩):=
 ⟨fun b _ h hn=>World.cell?_of_block (hb.block b h hn),fun b _ h hn=>World.frozen?_of_block (hb.block b h hn)⟩
theorem jA {id:Nat} {a:Act} {w:World} {l:List Oper} (row:Option Nat) (hm:P.follows .mixedOrders=true)
 (h:jQ P l.toArray Q (fun w'=>w.grownBy w' row) l.length (Array.replicate l.length false) a w):(Code.region id l.toArray true).wp P Q a w:=by
 refine wp_region_any hm (yZ (S:=fun w'=>w.grownBy w' row) _ _ _ _ (CQ _) ((ah.refl w).drew.keeps row) ?_);have:=oU (ah.refl w).drew h;simpa using this
theorem ahh {w0:World}:∀w w',ah w0 w→ah w w'→ah w0 w':=fun _ _ h k=>h.trans k
end
theorem rK {P:Program} {ops:Array Oper} {Q:Exit→Act→World→Prop} {S:World→Prop} {a:Act} {w:World} {l:Array Bool} {m:Nat} (r:List Nat) (n:Nat) (k:ng P ops S (fun a=>jQ P ops Q S n ((aaI ops r l).getD #[]) a w) r a)
 (up:∀w w',S w→ah w w'→S w':=by exact ahh) (BX:Region.noSelect ops=true:=by kernel_rfl) (hQ:∀c a d v w,Q (.panic c) (Act.put a d v) w→Q (.panic c) a w:=by exact π) (hm:m = r.length+n:=by rfl) (qB:M_ ops l = true:=by kernel_rfl)
 (hB:(aaI ops r l).isSome=true:=by kernel_rfl):jQ P ops Q S m l a w:=by
 obtain⟨l',hl⟩:=Option.isSome_iff_exists.1 hB;rw[hl] at k;exact Zm (l':=l') r n up BX hQ hm qB hl k
end Go.Proofs.YtbhikkgpcmkonaaGreatDoor
namespace Go.Proofs.YtbhikkgpcmkonaaGreatDoor
structure fZ where
 lv:Int
 c:Nat
deriving DecidableEq
def dX (v:Int):Bool:=decide (0≤v∧v≤7)
theorem UZ {v:Int}:dX v = true↔0≤v∧v≤7:=by simp[dX]
theorem XV {c k:Nat} (hc:c < 4294967296) (hk:32≤k):c.testBit k=false:=
 Nat.testBit_lt_two_pow (Nat.lt_of_lt_of_le hc (by show 2 ^ 32≤2 ^ k;exact Nat.pow_le_pow_right δ hk))
theorem akE {a b:Nat} (ha:a < 4294967296) (hb:b < 4294967296) (h:∀k,k<32→a.testBit k=b.testBit k):a = b:=by
 refine Nat.eq_of_testBit_eq fun k=> ?_
 rcases Nat.lt_or_ge k 32 with hk | hk
 ·exact h k hk
 ·rw[XV ha hk,XV hb hk]
def ZF (a b:Nat):Bool:=(List.range 32).all fun k=> !a.testBit k||b.testBit k
theorem ahP {a b:Nat}:ZF a b = true↔∀k,k<32→a.testBit k=true→b.testBit k=true:=by
 simp only[ZF,List.all_eq_true,List.mem_range,Bool.or_eq_true,Bool.not_eq_true'];exact⟨fun h k hk ha=>by rcases h k hk with h | h <;> simp_all,fun h k hk=>by cases ha:a.testBit k <;> simp_all⟩
theorem acC {b k:Nat} (hb:b < 4294967296) (hk:k<32):(4294967295-b).testBit k= !b.testBit k:=by
 have:=Nat.testBit_two_pow_sub_succ (n:=32) (x:=b) ω k;rw[show 2 ^ 32-(b + 1)=4294967295-b by omega] at this;rw[this];simp[hk]
theorem ahQ {a b:Nat} (ha:a < 4294967296) (hb:b < 4294967296):decide (a &&&(4294967295-b)=0)=ZF a b:=by
 rw[Bool.eq_iff_iff,ahP,decide_eq_true_eq];constructor
 ·intro h k hk hak;have h2:=congrArg (fun n=>n.testBit k) h;simp only[Nat.testBit_and,Nat.zero_testBit,acC hb hk,hak,Bool.true_and] at h2;simpa using h2
 ·intro h;refine akE (Nat.lt_of_le_of_lt Nat.and_le_left ha) δ fun k hk=> ?_
  rw[Nat.testBit_and,acC hb hk,Nat.zero_testBit];cases hak:a.testBit k
  ·rfl
  ·rw[h k hk hak];rfl
def gy (a b:fZ):Bool:=dX a.lv&&dX b.lv&&decide (a.lv≤b.lv)&&ZF a.c b.c
def atz:fZ:=⟨7,4294967295⟩
def AA (a b:fZ):fZ:=if dX a.lv=true∧dX b.lv=true then ⟨max a.lv b.lv,a.c |||b.c⟩ else atz
theorem aiN {a b:fZ} (ha:a.c < 4294967296) (hb:b.c < 4294967296):(AA a b).c < 4294967296:=by
 unfold AA;split
 ·exact Nat.or_lt_two_pow (n:=32) ha hb
 ·decide
end Go.Proofs.YtbhikkgpcmkonaaGreatDoor
namespace Go.Proofs.YtbhikkgpcmkonaaGreatDoor
open Go.RowKit
def encS (l:List UInt8):List Value:=[.string ⟨l.toArray⟩]
theorem aF.kW (w:World) (o:Obj) (t:TypeId) (cs:Array Value):aF ((w.alloc o).alloc (.cells cs t)) (w.heap.size+1) t cs:=by
 have:=aF.new (w.alloc o) t cs;rwa [World.size_alloc] at this
theorem aF.zK (w:World) (o o':Obj) (t:TypeId) (cs:Array Value):aF (((w.alloc o).alloc o').alloc (.cells cs t)) (w.heap.size+1+1) t cs:=by
 have:=aF.new ((w.alloc o).alloc o') t cs;rwa [World.size_alloc,World.size_alloc] at this
def fZ.ok (x:fZ):Prop:=x.c < 4294967296
theorem lX (x:fZ) (w:World) :
 Calls Tryz.prog 111 #[.agg #[.int .i64 x.lv,.int .u32 (x.c:Int)]] w fun e w'=>e =.returned (.bool (dX x.lv))∧ah w w':=by
 go_enter Tryz.func111,Tryz.ntmps111
 go_wp2;all_goals go_ret
 all_goals refine⟨aP ?_,(ah.refl _).alloc _⟩
 all_goals (rw[Bool.eq_iff_iff];rw[UZ];simp only[decide_eq_true_eq,Bool.false_eq_true,false_iff];omega)
theorem ab9 {a b:Nat} (ha:a < 4294967296) (hb:b < 4294967296):∃D:Int,bits .andNot .u32 (a:Int) (b:Int)=D∧(D==0)=ZF a b:=by
 refine⟨_,u32_andNot_nat a b ha hb,?_⟩;rw[←ahQ ha hb,Bool.eq_iff_iff,beq_iff_eq,decide_eq_true_eq];omega
theorem vH (a b:fZ) (w:World) (ha:a.ok) (hb:b.ok) :
 Calls Tryz.prog 73 #[.agg #[.int .i64 a.lv,.int .u32 (a.c:Int)],.agg #[.int .i64 b.lv,.int .u32 (b.c:Int)]] w fun e w'=>e =.returned (.bool (gy a b))∧ah w w':=by
 have cA:=fun W=>lX a W
 have cB:=fun W=>lX b W
 obtain⟨D,hD,hD0⟩:=ab9 ha hb;have Bh:gy a b = (dX a.lv&&dX b.lv&&decide (a.lv≤b.lv)&&ZF a.c b.c):=rfl;generalize dX a.lv=p at *
 generalize dX b.lv=q at *
 generalize ZF a.c b.c = r at *
 replace cA:=ζ cA;replace cB:=ζ cB;cases p
 ·simp only[Bool.false_and] at Bh;replace Bh:=ζ Bh;go_enter Tryz.func73,Tryz.ntmps73
  go_wp2_with fail;refine (cA.out _).mono ?_;rintro e w1 ⟨rfl,hb1⟩;go_wp2_with fail;go_ret;exact⟨aP Bh.o.symm,by
   exact γ
  ⟩
 ·cases q
  ·simp only[Bool.false_and,Bool.true_and] at Bh;replace Bh:=ζ Bh;go_enter Tryz.func73,Tryz.ntmps73
   go_wp2_with fail;refine (cA.out _).mono ?_;rintro e w1 ⟨rfl,hb1⟩;have d0:w1.cell? ⟨w.heap.size+1,0,none⟩=some (.int .i64 b.lv):=hb1.cell σ;have d1:w1.cell? ⟨w.heap.size+1,1,none⟩=some (.int .u32 (b.c:Int)):=hb1.cell σ;go_wp2_with fail;refine (cB.out _).mono ?_;rintro e w2 ⟨rfl,hb2⟩;go_wp2_with fail;go_ret;exact⟨aP Bh.o.symm,by
    exact γ
   ⟩
  ·simp only[Bool.true_and] at Bh;by_cases hle:a.lv≤b.lv
   ·rw[decide_eq_true hle,Bool.true_and] at Bh;replace Bh:=ζ Bh;go_enter Tryz.func73,Tryz.ntmps73
    go_wp2_with fail;refine (cA.out _).mono ?_;rintro e w1 ⟨rfl,hb1⟩;have d0:w1.cell? ⟨w.heap.size+1,0,none⟩=some (.int .i64 b.lv):=hb1.cell σ;have d1:w1.cell? ⟨w.heap.size+1,1,none⟩=some (.int .u32 (b.c:Int)):=hb1.cell σ;have d2:w1.cell? ⟨w.heap.size,0,none⟩=some (.int .i64 a.lv):=hb1.cell σ;have d3:w1.cell? ⟨w.heap.size,1,none⟩=some (.int .u32 (a.c:Int)):=hb1.cell σ;go_wp2_with fail;refine (cB.out _).mono ?_;rintro e w2 ⟨rfl,hb2⟩;replace d0:=hb2.cell d0;replace d1:=hb2.cell d1;replace d2:=hb2.cell d2;replace d3:=hb2.cell d3;go_wp2_with fail;go_ret;exact⟨aP Bh.o.symm,by
     exact γ
    ⟩
   ·rw[decide_eq_false hle,Bool.false_and] at Bh;replace Bh:=ζ Bh;go_enter Tryz.func73,Tryz.ntmps73
    go_wp2_with fail;refine (cA.out _).mono ?_;rintro e w1 ⟨rfl,hb1⟩;have d0:w1.cell? ⟨w.heap.size+1,0,none⟩=some (.int .i64 b.lv):=hb1.cell σ;have d1:w1.cell? ⟨w.heap.size+1,1,none⟩=some (.int .u32 (b.c:Int)):=hb1.cell σ;have d2:w1.cell? ⟨w.heap.size,0,none⟩=some (.int .i64 a.lv):=hb1.cell σ;have d3:w1.cell? ⟨w.heap.size,1,none⟩=some (.int .u32 (a.c:Int)):=hb1.cell σ;go_wp2_with fail;refine (cB.out _).mono ?_;rintro e w2 ⟨rfl,hb2⟩;replace d0:=hb2.cell d0;replace d1:=hb2.cell d1;replace d2:=hb2.cell d2;replace d3:=hb2.cell d3;go_wp2_with fail;go_ret;exact⟨aP Bh.o.symm,by
     exact γ
    ⟩
theorem aiM {a b:fZ} (h:dX a.lv=false∨dX b.lv=false):AA a b = atz:=by
 unfold AA;rw[if_neg (by rcases h with h | h <;> simp[h])]
theorem aeW {a b:fZ} (h:dX a.lv=true) (h':dX b.lv=true):AA a b = ⟨max a.lv b.lv,a.c |||b.c⟩:=by
 unfold AA;rw[if_pos ⟨h,h'⟩]
theorem aeT (a b:fZ) (w:World) (ha:a.ok) (hb:b.ok) :
 Calls Tryz.prog 194 #[.agg #[.int .i64 a.lv,.int .u32 (a.c:Int)],.agg #[.int .i64 b.lv,.int .u32 (b.c:Int)]] w fun e w'=>e =.returned (.agg #[.int .i64 (AA a b).lv,.int .u32 ((AA a b).c:Int)])∧ah w w':=by
 have cA:=fun W=>lX a W
 have cB:=fun W=>lX b W
 have hno:=aiM (a:=a) (b:=b);have U3:=aeW (a:=a) (b:=b);have aFa:=u32_or_nat a.c b.c ha hb;have hmx:(if a.lv<b.lv then b.lv else a.lv)=max a.lv b.lv:=by split <;> omega
 generalize max a.lv b.lv=M at *
 generalize a.c |||b.c = D at *
 generalize dX a.lv=p at *
 generalize dX b.lv=q at *
 replace cA:=ζ cA;replace cB:=ζ cB;replace hno:=ζ hno;replace U3:=ζ U3;have hpq:p = false∨(p = true∧q=false)∨(p = true∧q=true):=by cases p <;> cases q <;> simp
 rcases hpq with rfl | ⟨rfl,rfl⟩ | ⟨rfl,rfl⟩
 ·have aQ:=ζ (hno.o (.inl rfl));go_enter Tryz.func194,Tryz.ntmps194
  go_wp2_with fail;refine (cA.out _).mono ?_;rintro e w1 ⟨rfl,hb1⟩;have bC:aF w1 (w.heap.size+1+1) 25 #[.int .i64 0,.int .u32 0]:=(aF.zK w _ _ _ _).grows hb1;have bB:aF w1 (w.heap.size+1) 25 #[.int .i64 b.lv,.int .u32 (b.c:Int)]:=((aF.kW w _ _ _).alloc _).grows hb1;have bA:aF w1 w.heap.size 25 #[.int .i64 a.lv,.int .u32 (a.c:Int)]:=(((aF.new w _ _).alloc _).alloc _).grows hb1;have e0:=bC.c0;have e1:=bC.c1;have f0:=bC.frozen 0;have f1:=bC.frozen 1;have s2:=bC.lt;have g0:=bB.c0;have g1:=bB.c1;have h0:=bA.c0;have h1:=bA.c1;go_wp2_with fail;refine bodyPost_ret (v:=.agg #[.int .i64 7,.int .u32 4294967295]) ?_ rfl ⟨by rw[aQ.o];rfl,?_⟩
  ·simp[results,Tryz.results194,go_sem,e0,e1]
  ·exact γ
 ·have aQ:=ζ (hno.o (.inr rfl));go_enter Tryz.func194,Tryz.ntmps194
  go_wp2_with fail;refine (cA.out _).mono ?_;rintro e w1 ⟨rfl,hb1⟩;have bC:aF w1 (w.heap.size+1+1) 25 #[.int .i64 0,.int .u32 0]:=(aF.zK w _ _ _ _).grows hb1;have bB:aF w1 (w.heap.size+1) 25 #[.int .i64 b.lv,.int .u32 (b.c:Int)]:=((aF.kW w _ _ _).alloc _).grows hb1;have bA:aF w1 w.heap.size 25 #[.int .i64 a.lv,.int .u32 (a.c:Int)]:=(((aF.new w _ _).alloc _).alloc _).grows hb1;have e0:=bC.c0;have e1:=bC.c1;have f0:=bC.frozen 0;have f1:=bC.frozen 1;have s2:=bC.lt;have g0:=bB.c0;have g1:=bB.c1;have h0:=bA.c0;have h1:=bA.c1;go_wp2_with fail;refine (cB.out _).mono ?_;rintro e w2 ⟨rfl,hb2⟩;replace bA:=bA.grows hb2;replace bB:=bB.grows hb2;replace bC:=bC.grows hb2;clear e0 e1 f0 f1 s2 g0 g1 h0 h1;have e0:=bC.c0;have e1:=bC.c1;have f0:=bC.frozen 0;have f1:=bC.frozen 1;have s2:=bC.lt;have g0:=bB.c0;have g1:=bB.c1;have h0:=bA.c0;have h1:=bA.c1;go_wp2_with fail;refine bodyPost_ret (v:=.agg #[.int .i64 7,.int .u32 4294967295]) ?_ rfl ⟨by rw[aQ.o];rfl,?_⟩
  ·simp[results,Tryz.results194,go_sem,e0,e1]
  ·exact γ
 ·have aQ:=ζ (U3.o rfl rfl);go_enter Tryz.func194,Tryz.ntmps194
  go_wp2_with fail;refine (cA.out _).mono ?_;rintro e w1 ⟨rfl,hb1⟩;have bC:aF w1 (w.heap.size+1+1) 25 #[.int .i64 0,.int .u32 0]:=(aF.zK w _ _ _ _).grows hb1;have bB:aF w1 (w.heap.size+1) 25 #[.int .i64 b.lv,.int .u32 (b.c:Int)]:=((aF.kW w _ _ _).alloc _).grows hb1;have bA:aF w1 w.heap.size 25 #[.int .i64 a.lv,.int .u32 (a.c:Int)]:=(((aF.new w _ _).alloc _).alloc _).grows hb1;have e0:=bC.c0;have e1:=bC.c1;have f0:=bC.frozen 0;have f1:=bC.frozen 1;have s2:=bC.lt;have g0:=bB.c0;have g1:=bB.c1;have h0:=bA.c0;have h1:=bA.c1;go_wp2_with fail;refine (cB.out _).mono ?_;rintro e w2 ⟨rfl,hb2⟩;replace bA:=bA.grows hb2;replace bB:=bB.grows hb2;replace bC:=bC.grows hb2;clear e0 e1 f0 f1 s2 g0 g1 h0 h1;have e0:=bC.c0;have e1:=bC.c1;have f0:=bC.frozen 0;have f1:=bC.frozen 1;have s2:=bC.lt;have g0:=bB.c0;have g1:=bB.c1;have h0:=bA.c0;have h1:=bA.c1;go_wp2_with fail;refine bodyPost_ret (v:=.agg #[.int .i64 M,.int .u32 (D:Int)]) ?_ rfl ⟨by rw[aQ.o],?_⟩
  ·simp[results,Tryz.results194,go_sem,e0,e1]
  ·exact γ
end Go.Proofs.YtbhikkgpcmkonaaGreatDoor
