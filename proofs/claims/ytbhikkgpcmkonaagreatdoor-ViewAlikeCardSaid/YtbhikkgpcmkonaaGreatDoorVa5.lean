/- Parts: RowB Txt RteP Dat FldA FldC MapS PolA Shelf LibR Sieve PolD SlQ SlM PolE SlN PolB -/
import Derived.Test.YtbhikkgpcmkonaaGreatDoorVa0
import Derived.Laws.IdiomStrings
import Derived.Lib.AppendStr
import Derived.ArgAppend
import Derived.Test.YtbhikkgpcmkonaaGreatDoorVa4
import Derived.Shelf.GgClosure.StringsIndexFunc
import Derived.Test.YtbhikkgpcmkonaaGreatDoorVa1
import Derived.Test.YtbhikkgpcmkonaaGreatDoorVa3
import Derived.Test.YtbhikkgpcmkonaaGreatDoorVa2
import Derived.PlainAid
import Derived.Maps.OwnSet
import Derived.Maps.OwnOps
import Derived.Shelf.GgClosure.StringsIndexFuncTop
import Derived.Shelf.LaysM
import Derived.Shelf.Strconv.Itoa3
import Derived.Test.YtbhikkgpcmkonaaGreatDoorProg
import Derived.Shelf.Abstract
import Derived.Lib.SliceRun
set_option maxRecDepth 100000
set_option maxHeartbeats 12800000
namespace Go.Proofs.YtbhikkgpcmkonaaGreatDoor
open Go.RowKit
def jo (w:World) (base:Nat) (v:Value) (xs:List Nat):Prop:=
 (v =.slice none 0 0∧xs=[])∨∃g cap cur fz,v =.slice (some ⟨g,0,none⟩) xs.length cap∧base≤g∧w.heap[g]? = some (.cells cur 5 fz)∧(∀j,j < cur.size→(decide (fz.1≤j)&&decide (j < fz.2))=false)∧
  xs.length≤cap∧cap≤maxLen∧cur.size=cap∧∀i (h:i < xs.length),cur[i]? = some (.int .u8 ((xs[i]:Nat):Int))
section
variable {w w':World} {base:Nat} {v:Value} {xs ys:List Nat}
theorem jo.iH (w:World) (base:Nat):jo w base (.slice none 0 0) []:=.inl ⟨rfl,rfl⟩
theorem jo.grows (h:jo w base v xs) (hg:ah w w'):jo w' base v xs:=by
 rcases h with h | ⟨g,cap,cur,fz,hv,hb,hh,r⟩
 ·exact .inl h
 ·exact .inr ⟨g,cap,cur,fz,hv,hb,(hg.below.block g (Array.getElem?_eq_some_iff.1 hh).1).trans hh,r⟩
theorem jo.alloc (h:jo w base v xs) (o:Obj):jo (w.alloc o) base v xs:=h.grows ((ah.refl w).alloc o)
theorem jo.gY (h:jo w base v xs):∀j,v.ownBlock=some j→base≤j:=fun j hj=>by
 rcases h with⟨h2,_⟩ | ⟨g,cap,cur,fz,hv,hb,_⟩
 ·rw[h2] at hj;cases hj
 ·rw[hv] at hj;simp only[Value.ownBlock,Option.some.injEq] at hj;omega
theorem jo.BH (h:Own w base 5 1 ji v xs):jo w base v xs:=by
 have h2:=h;rcases h.2 with⟨h3,h4⟩ | ⟨g,cap,cur,hv,hb,hh,_⟩
 ·exact .inl ⟨h3,List.eq_nil_of_length_eq_zero h4⟩
 ·rw[hv] at h2;obtain⟨cur',_,hb',hh',Cb,hcm,hcs,hc⟩:=h2.tu hkB;refine .inr ⟨g,cap,cur',(0,0),hv,hb',hh',fun j _=>by simp,Cb,hcm,ω,fun i hi=> ?_⟩;have:=hc i hi 0 ω;simpa[ji] using this
theorem jo.arr (h:jo w base v xs):∃A c,v =.slice A xs.length c∧xs.length≤c∧c≤maxLen∧bW w 1 ji A xs.length xs:=by
 rcases h with⟨rfl,rfl⟩ | ⟨g,cap,cur,fz,rfl,hb,hh,hfz,Cb,hcm,hcs,hc⟩
 ·exact⟨none,0,rfl,by simp,by simp[maxLen],bW.iH⟩
 ·refine⟨_,_,rfl,Cb,hcm,rfl,fun _=>⟨g,0,rfl,(Array.getElem?_eq_some_iff.1 hh).1,fun i hi j u hu=> ?_⟩⟩;have hj:j = 0:=by have:=(List.getElem?_eq_some_iff.1 hu).1;simp[ji] at this;omega
  subst hj;simp only[World.cell?,hh];have:=hc i hi;simp only[ji,List.getElem?_cons_zero,Option.some.injEq] at hu;subst hu;simpa using this
theorem Ci (g:Nat) (e:TypeId) (fz:Nat×Nat):∀(vs:List Value) (o:Nat) (w:World) (cur:Array Value),w.heap[g]? = some (.cells cur e fz)→o + vs.length≤cur.size→
 ∃cur',(w.setCells g o vs).heap[g]? = some (.cells cur' e fz)∧cur'.size=cur.size∧∀t:Nat,cur'[t]? = if o≤t∧t < o + vs.length then vs[t - o]? else cur[t]?
 | [],o,w,cur,h,_=>⟨cur,h,rfl,fun t=>by rw[if_neg σ]⟩
 | v ::r,o,w,cur,h,hl=>by
  simp only[List.length_cons] at hl;have h1:(w.setCell ⟨g,o,none⟩ v).heap[g]? = some (.cells (cur.setIfInBounds o v) e fz):=by
   simp[World.setCell,Array.getElem?_modify,h]
  obtain⟨cur',h2,h3,h4⟩:=Ci g e fz r (o + 1) _ _ h1 (by simp;omega);refine⟨cur',h2,by simpa using h3,fun t=> ?_⟩;rw[h4 t];by_cases ht:t = o
  ·subst ht;rw[if_neg ω,if_pos σ,Array.getElem?_setIfInBounds];simp;omega
  ·by_cases h5:o + 1≤t∧t < o + 1+r.length
   ·rw[if_pos h5,if_pos (by simp;omega),show t - o = (t - (o + 1))+1 by omega];simp
   ·rw[if_neg h5,if_neg (by simp;omega)];simp[Ne.symm ht]
theorem yP (g:Nat):∀(vs:List Value) (o:Nat) (w:World),w.grownBy (w.setCells g o vs) (some g)
 | [],_,w=>World.grownBy.refl w _
 | v ::r,o,w=>(aj w ⟨g,o,none⟩ v).trans (yP g r (o + 1) _)
def gG (ys:List Nat):List Value:=ys.map fun (x:Nat)=>Value.int .u8 (x:Int)
theorem jo.room {g cap:Nat} (h:jo w base (.slice (some ⟨g,0,none⟩) xs.length cap) xs) (hroom:xs.length+ys.length≤cap) :
 jo (w.setCells g xs.length (gG ys)) base (.slice (some ⟨g,0,none⟩) (xs.length+ys.length) cap) (xs++ys)∧(∀j,j < (gG ys).length→(w.cell? ⟨g,xs.length+j,none⟩).isSome=true)∧∀j,j < (gG ys).length→w.frozen? ⟨g,xs.length+j,none⟩=false:=by
 have qB:(gG ys).length=ys.length:=by simp[gG]
 rcases h with⟨h,_⟩ | ⟨g',cap',cur,fz,hv,hb,hh,hfz,Cb,hcm,hcs,hc⟩
 ·cases h
 simp only[Value.slice.injEq,Option.some.injEq,Addr.mk.injEq,and_true,true_and] at hv;obtain⟨rfl,rfl⟩:=hv;obtain⟨cur',h1,h2,h3⟩:=Ci g 5 fz (gG ys) xs.length w cur hh (by rw[qB];omega);refine⟨.inr ⟨g,cap,cur',fz,by rw[List.length_append],hb,h1,by rw[h2];exact hfz,by rw[List.length_append];exact hroom,hcm,ω,fun i hi=> ?_⟩,fun j hj=> ?_,fun j hj=> ?_⟩
 ·rw[h3];by_cases hi2:i < xs.length
  ·rw[if_neg ω,hc i hi2,List.getElem_append_left hi2]
  ·rw[List.length_append] at hi;rw[if_pos (by rw[qB];omega),List.getElem_append_right ω];simp[gG,show i - xs.length<ys.length by omega]
 ·have:xs.length+j < cur.size:=ω;simp[World.cell?,hh,this]
 ·have:=hfz (xs.length+j) ω;simpa[World.frozen?,hh] using this
theorem abW (ys:List Nat):cu ji ys=gG ys:=by
 unfold cu gG ji;induction ys with
 | nil=>rfl
 | cons y ys ih=>simp only[List.flatMap_cons,List.map_cons,ih];rfl
theorem O9 (ys:List Nat):∀u∈gG ys,u.oneCell'=true:=by
 intro u hu;simp only[gG,List.mem_map] at hu;obtain⟨x,_,rfl⟩:=hu;rfl
theorem Xo {ad:Addr} {m:Nat} (kC:bW w 1 ji (some ad) m ys):∀j u,(gG ys)[j]? = some u→w.cell? (ad.add j)=some u:=by
 intro j u hu;have hj:j < ys.length:=by have:=(List.getElem?_eq_some_iff.1 hu).1;simpa[gG] using this
 obtain⟨b,off,e1,_,hc⟩:=kC.2 (by rw[←kC.1];omega);cases e1
 have h3:=hc j hj 0 u (by rw[←hu];simp[gG,ji,hj]);have:(⟨b,off,none⟩:Addr).add j = ⟨b,off+j,none⟩:=by unfold Addr.add;by_cases hj:j = 0 <;> simp[hj]
 rw[this];simpa using h3
theorem jo.FN {base' n:Nat} {v':Value} {zs:List Nat} (h:w.ownsRow base' 5 1 v' n (gG zs)) (hb:base≤base'):jo w base v' zs:=by
 have hn:n = zs.length:=by have:=h.1;simp[gG] at this;omega
 subst hn;rw[←abW] at h;have h2:Own w base' 5 1 ji v' zs:=h;rcases jo.BH h2 with h | ⟨g,cap,cur,fz,hv,hb',r⟩
 ·exact .inl h
 ·exact .inr ⟨g,cap,cur,fz,hv,Nat.le_trans hb hb',r⟩
theorem adi:∃i,Tryz.prog.info? 5=some i∧i.zero=some (.int .u8 0)∧i.size=1∧i.bytes=1:=by
 have h:(Tryz.prog.info? 5).map (fun i=>(i.zero,i.size,i.bytes))=some (some (.int .u8 0),1,1):=by kernel_rfl
 cases hi:Tryz.prog.info? 5 with
 | none=>rw[hi] at h;cases h
 | some i=>
  rw[hi] at h;simp only[Option.map_some,Option.some.injEq,Prod.mk.injEq] at h;exact⟨i,rfl,h.1,h.2.1,h.2.2⟩
theorem jo.ab8 (h:jo w base v xs) {A:Option Addr} {m c:Nat} (kC:bW w 1 ji A m ys) (hbase:base≤w.heap.size) (hlen:xs.length+m≤1099511700000) (ty:TypeId) :
 ∃v' w',(Builtin.append_ #[112,112] ty #[v,.slice A m c]).run Tryz.prog w =.ok v' w'∧jo w' base v' (xs++ys)∧w.grownBy w' v.ownBlock:=by
 obtain⟨i,hi,hz,hsz,hby⟩:=adi;have ht:=Tryz.underlying112;have lJ:=kC.1;have qB:(gG ys).length=m * i.size:=by rw[hsz];simp[gG,lJ]
 have h63:xs.length+m≤maxLen:=by unfold maxLen;omega
 cases A with
 | none=>
  have hm:m = 0:=by
   rcases Nat.eq_zero_or_pos m with h0 | h0
   ·exact h0
   ·obtain⟨b,off,h,_⟩:=kC.2 h0;cases h
  subst hm;obtain rfl:ys=[]:=List.eq_nil_of_length_eq_zero lJ;refine⟨v,w,?_,by rw[List.append_nil];exact h,World.grownBy.refl w _⟩;rcases h with⟨rfl,rfl⟩ | ⟨g,cap,cur,fz,rfl,_,_,_,Cb,_⟩
  ·simp[Builtin.append_,run_underlying ht,sizeOf,typeInfo,hi,Builtin.lenOf,Builtin.firstCells]
  ·simp[Builtin.append_,run_underlying ht,sizeOf,typeInfo,hi,Builtin.lenOf,Builtin.firstCells,Cb,storeCells]
 | some ad=>
  have hnews:=Xo kC;have h0:=h;rcases h with⟨rfl,rfl⟩ | ⟨g,cap,cur,fz,rfl,hb,hh,hfz,Cb,hcm,hcs,hc⟩
  ·obtain⟨v',w',hr,h2,h3,_,_⟩:=run_append_own_at (P:=Tryz.prog) w base 112 ty 5 i (.int .u8 0) 1 1 ht hi hz hsz hby rfl ω (.slice none 0 0) 0 [] (World.ownsRow_nil w base _ _) ad m c (gG ys) (by rw[qB,hsz]) hnews (O9 ys) (by simpa using h63) (by simp at hlen;omega) hbase;exact⟨v',w',hr,jo.FN (by simpa using h2) (Nat.le_refl _),h3⟩
  ·by_cases hroom:xs.length+m≤cap
   ·obtain⟨hO,hcell,azD⟩:=jo.room (ys:=ys) h0 ω;have hr:=run_append_room_cells (P:=Tryz.prog) w 112 ty 5 i ht hi g 0 xs.length cap ad m c (gG ys) qB hnews (O9 ys) hroom (fun j hj=>by rw[hsz];have h9:=hcell j hj;rw[Nat.mul_one];first | exact h9 | (simp only[Nat.zero_add];exact h9)) (fun j hj=>by rw[hsz];have h9:=azD j hj;rw[Nat.mul_one];first | exact h9 | (simp only[Nat.zero_add];exact h9));rw[hsz,Nat.mul_one,Nat.zero_add] at hr;rw[lJ] at hO;exact⟨_,_,hr,hO,yP g _ _ _⟩
   ·have holds:∀j u,(gG xs)[j]? = some u→w.cell? ((⟨g,0,none⟩:Addr).add j)=some u:=by
     obtain⟨A',c',hv,_,_,hA⟩:=h0.arr;cases hv
     exact Xo hA
    obtain⟨v',w',hr,h2,h3⟩:=run_append_arg_grows (P:=Tryz.prog) w 112 ty 5 i (.int .u8 0) 1 1 ht hi hz hsz hby rfl ω ⟨g,0,none⟩ xs.length cap (gG xs) (by simp[gG]) holds ad m c (gG ys) (by rw[qB,hsz]) hnews ω h63 ω;refine⟨v',w',hr,jo.FN (n:=xs.length+m) (by rw[show gG (xs++ys)=gG xs++gG ys by simp[gG]];exact h2) hbase,h3.but _⟩
def wY (s:ByteArray):List Nat:=s.data.toList.map (·.toNat)
theorem kR (s:ByteArray):(wY s).length=s.size:=by
 unfold wY;rw[List.length_map,Array.length_toList];rfl
theorem jo.al2 (s:ByteArray) (w:World) (hs:s.size≤1099511627776) :
 ∃v w',(convert 9 112 (.string s)).run Tryz.prog w =.ok v w'∧jo w' w.heap.size v (wY s)∧ah w w':=by
 have hr:=run_bytes_of_string (P:=Tryz.prog) w 9 112 5 s Tryz.underlying9 Tryz.underlying112 Tryz.underlying5;have qA:=grownCap_ge w s.size 0 5;have hcm:=grownCap_le_maxLen w s.size 0 5 (by unfold maxLen;omega);have hsz:(bytesRow s (grownCap w s.size 0 5)).size=grownCap w s.size 0 5:=by
  unfold bytesRow;rw[Array.size_append,Array.size_map,Array.size_replicate];have:s.data.size=s.size:=rfl;omega
 refine⟨_,_,hr,.inr ⟨w.heap.size,_,_,_,by rw[kR],Nat.le_refl _,heap_alloc_new w.drew _,fun j hj=> ?_,by rw[kR];exact qA,hcm,hsz,fun i hi=> ?_⟩,(ah.refl w).drew.alloc _⟩
 ·simp;omega
 ·rw[kR] at hi;rw[bytesRow_at s _ i hi];simp[wY]
end
end Go.Proofs.YtbhikkgpcmkonaaGreatDoor
namespace Go.Proofs.YtbhikkgpcmkonaaGreatDoor
theorem O4 {s:ByteArray} {i:Nat} {b:UInt8} (hb:s.get! i = b) (h:b.toNat<128):Utf8.decode s i = (b.toNat,1):=by
 unfold Utf8.decode;simp only[Nat.add_zero,hb,h,if_true]
theorem decode_high {s:ByteArray} {i:Nat} {b:UInt8} (hb:s.get! i = b) (h:128≤b.toNat):128≤(Utf8.decode s i).1:=by
 unfold Utf8.decode;have h':¬b.toNat<128:=ω;simp only[Nat.add_zero,hb,h',if_false,Utf8.runeError];split
 ·split <;> (try simp) <;> omega
 ·split
  ·split
   ·rename_i hc;simp only[Bool.and_eq_true,decide_eq_true_eq] at hc;show 128≤_;omega
   ·simp
  ·split
   ·split
    ·rename_i hc;simp only[Bool.and_eq_true,decide_eq_true_eq] at hc;show 128≤_;omega
    ·simp
   ·simp
theorem QV {p:Nat→Bool} {q:UInt8→Bool} (h1:∀b:UInt8,b.toNat<128→p b.toNat=q b) (h2:∀r,128≤r→p r = true) (h3:∀b:UInt8,128≤b.toNat→q b = true) (s:ByteArray) :
 ∀(f pos:Nat),s.size≤pos+f→decide (0≤Lib.idxFuncFrom p true s f pos)=(s.data.toList.drop pos).any q:=by
 intro f;induction f with
 | zero=>
  intro pos hf;rw[List.drop_of_length_le (by rw[Array.length_toList];exact hf)];rfl
 | succ f ih=>
  intro pos hf;unfold Lib.idxFuncFrom;by_cases hp:pos<s.size
  ·rw[if_pos hp];have hl:pos<s.data.toList.length:=by rw[Array.length_toList];exact hp
   rw[List.drop_eq_getElem_cons hl,List.any_cons];have hg:s.get! pos=s.data.toList[pos]:=by
    rw[Array.getElem_toList];show s.data[pos]! = _
    exact getElem!_pos s.data pos hp
   by_cases hb:(s.get! pos).toNat<128
   ·rw[O4 rfl hb,h1 _ hb,hg];cases hq:q s.data.toList[pos]
    ·simp only[Bool.false_eq_true,if_false,Bool.false_or];exact ih (pos+1) ω
    ·simp
   ·have ajV:128≤(s.get! pos).toNat:=ω;rw[h2 _ (decode_high rfl ajV),←hg,h3 _ ajV];simp
  ·rw[if_neg hp,List.drop_of_length_le (by rw[Array.length_toList];show s.size≤pos;omega)];rfl
theorem ae0 {p:Nat→Bool} {q:UInt8→Bool} (h1:∀b:UInt8,b.toNat<128→p b.toNat=q b) (h2:∀r,128≤r→p r = true) (h3:∀b:UInt8,128≤b.toNat→q b = true) (s:ByteArray) :
 decide (0≤Lib.idxFunc p true s)=s.data.toList.any q:=QV h1 h2 h3 s s.size 0 ω
def apC (r:Nat):Bool:=decide (97≤r)&&decide (r≤122)
def abV (r:Nat):Bool:=decide (48≤r)&&decide (r≤57)
def QM (r:Nat):Bool:= !(decide (r = 95))&& !(apC r)&& !(abV r)
def ahX (b:UInt8):Bool:= !(QM b.toNat)
def iF (s:List UInt8):Bool:=decide (1≤s.length)&&decide (s.length≤12)&& !(abV (s.headD 0).toNat)&&s.all ahX
theorem Sv {r:Nat} (h:128≤r):QM r = true:=by
 unfold QM apC abV;simp;omega
theorem aiw (s:ByteArray):(!(decide (0≤Lib.idxFunc QM true s)))=s.data.toList.all ahX:=by
 rw[ae0 (q:=fun b=>QM b.toNat) (fun _ _=>rfl) (fun _ h=>Sv h) (fun _ h=>Sv h) s,List.not_any_eq_all_not];rfl
structure bK where
 n:List UInt8
 v:List UInt8
deriving DecidableEq
structure Bo where
 n:List UInt8
 l:fZ
deriving DecidableEq
structure cZ where
 n:List UInt8
 op:Int
 v:List UInt8
deriving DecidableEq
structure Rte where
 r:List UInt8
 fH:List (List UInt8)
 wait:Int
 every:Int
 again:Int
 wh:List cZ
deriving DecidableEq
structure Inh where
 fH:List (List UInt8)
 l:fZ
 from_:List cZ
 wh:List cZ
deriving DecidableEq
structure fU where
 sources:List Bo
 receivers:List Bo
 apq:List Bo
 raises:List Bo
 routes:List Rte
 jT:List Inh
structure iD where
 src:List UInt8
 fs:List bK
 l:fZ
 f:Int
 t:Int
structure m_ where
 route:Nat
 fH:List bK
 key:Nat
 ids:List Nat
deriving DecidableEq
def eu (l:List Bo) (n:List UInt8):Option fZ:=(l.find? fun x=>decide (x.n = n)).map (·.l)
def lI (p:fU) (n:List UInt8) (l:fZ):fZ:=match eu p.raises n with
 | some r=>AA l r
 | none=>l
def jR (p:fU) (fs:List bK) (l tO:fZ):List bK:=fs.filter fun f=>gy (lI p f.n l) tO
def lC:List UInt8→List UInt8→Bool
 | [],[]=>false
 | [],_ ::_=>true
 | _ ::_,[]=>false
 | a ::x,b ::y=>if a = b then lC x y else decide (a.toNat<b.toNat)
def Ak:List bK→Bool
 | []=>true
 | [_]=>true
 | a ::b ::l=>lC a.n b.n &&Ak (b ::l)
def jl (l:List bK):Bool:=(l.all fun f=>iF f.n &&decide (f.v.length≤200))&&Ak l &&decide (l.length≤8)
def fC:Int:=1099511627776
def bH (a:iD):Bool:=iF a.src&&decide (0<a.fs.length)&&jl a.fs&&dX a.l.lv&&decide (0≤a.f∧a.f≤fC)&&decide (a.t = 0∨(a.f < a.t∧a.t≤fC))
def eP (a:iD) (now:Int):Bool:=decide (a.f≤now)&&(decide (a.t = 0)||decide (now<a.t))
def iJ (p:fU) (a:iD) (tO:fZ):Option iD:=if (jR p a.fs a.l tO).length=0∨gy a.l tO=false then none else some {a with fs:=jR p a.fs a.l tO}
def kG (p:fU) (rec:List UInt8) (a:iD) (now:Int):Option iD:=match eu p.receivers rec with
 | none=>none
 | some tO=>if bH a &&eP a now then iJ p a tO else none
def xU (l:List bK) (n:List UInt8):List UInt8:=((l.find? fun x=>decide (x.n = n)).map (·.v)).getD []
def jh (l:List bK) (names:List (List UInt8)):List bK:=l.filter fun f=>decide (f.n∈names)
def qJ (f:bK):List UInt8:=f.n ++61::(f.v ++[0])
def oN (l:List UInt8):List Nat:=l.map (·.toNat)
end Go.Proofs.YtbhikkgpcmkonaaGreatDoor
namespace Go.Proofs.YtbhikkgpcmkonaaGreatDoor
open Go.RowKit
def sv (s:List UInt8):Value:=.string ⟨s.toArray⟩
def dW (x:bK):List Value:=[.string ⟨x.n.toArray⟩,.string ⟨x.v.toArray⟩]
theorem IZ (x:bK):(dW x).length=2:=rfl
theorem atH (x:bK):∀u∈dW x,u.oneCell'=true:=by intro u hu;simp[dW] at hu;rcases hu with rfl | rfl <;> rfl
theorem aBa:eX Tryz.prog 22 88 2 32:=eX.mk' (z:=.agg #[.string ⟨#[]⟩,.string ⟨#[]⟩]) Tryz.underlying22 κ rfl ω
theorem uZ (l:List UInt8):wY ⟨l.toArray⟩=oN l:=rfl
theorem bsize (l:List UInt8):(⟨l.toArray⟩:ByteArray).size=l.length:=by show l.toArray.size=_;simp
theorem ais (a:List UInt8):(oN a).length=a.length:=List.length_map _
theorem MI (a:List UInt8):∀x∈oN a,x < 256:=by
 intro x hx;simp only[oN,List.mem_map] at hx;obtain⟨b,_,rfl⟩:=hx;exact b.toNat_lt
theorem Nq {P:Program} {ops:Array Oper} {rest:List Oper} {o:Oper} {ac:Act} {w w':World} {v:Value} {Q:Exit→Act→World→Prop} (hgd:o.guard=none) (hr:(execOp ac.eval o).run P w =.ok (.value v) w')
 (hK:wpList P ops Q rest (ac.put o.dst v) w'):wpList P ops Q (o ::rest) ac w:=
 wpList_step fun K' hk=>by
  rw[if_pos (by simp[Region.wanted,hgd])];unfold Oper.wp;rw[hr];exact hk _ _ hK
theorem Yo {P:Program} {o:Oper} {ac:Act} {w w':World} {t u:TypeId} {v vy v':Value} (s y:Operand) (ho:o.op=.call {callee:=.builtin .append,args:= #[s,y],argTypes:= #[t,u]})
 (hs:ac.eval s = v) (hy:ac.eval y = vy) (hr:(Builtin.append_ #[t,u] o.type #[v,vy]).run P w =.ok v' w'):(execOp ac.eval o).run P w =.ok (.value v') w':=by
 unfold execOp;simp only[ho,resolve,invoke,builtin,Sem.run_bind,Sem.run_pure,Result.andThen_ok,List.map_toArray,List.map_cons,List.map_nil,hs,hy,hr]
theorem VD {P:Program} {o:Oper} {ac:Act} {w w':World} {t u:TypeId} {vx v':Value} (x:Operand) (ho:o.op=.convert t u x) (hx:ac.eval x = vx) (hr:(convert t u vx).run P w =.ok v' w') :
 (execOp ac.eval o).run P w =.ok (.value v') w':=by
 unfold execOp;simp only[ho,Sem.run_bind,Sem.run_pure,Result.andThen_ok,hx,hr]
theorem Bv {ops:Array Oper} {rest:List Oper} {o:Oper} {ac:Act} {w:World} {Q:Exit→Act→World→Prop} {base:Nat} {v:Value} {xs ys:List Nat} {A:Option Addr} {m c:Nat} (hgd:o.guard=none) (s y:Operand)
 (ho:o.op=.call {callee:=.builtin .append,args:= #[s,y],argTypes:= #[112,112]}) (hs:ac.eval s = v) (hy:ac.eval y =.slice A m c) (h:jo w base v xs) (kC:bW w 1 ji A m ys) (hbase:base≤w.heap.size) (hlen:xs.length+m≤1099511700000)
 (hK:∀v' w',jo w' base v' (xs++ys)→w.grownBy w' v.ownBlock→wpList Tryz.prog ops Q rest (ac.put o.dst v') w'):wpList Tryz.prog ops Q (o ::rest) ac w:=by
 obtain⟨v',w',hr,h1,h2⟩:=h.ab8 kC hbase hlen o.type;exact Nq hgd (Yo s y ho hs hy hr) (hK v' w' h1 h2)
theorem lS {ops:Array Oper} {rest:List Oper} {o:Oper} {ac:Act} {w:World} {Q:Exit→Act→World→Prop} {t:ByteArray} (hgd:o.guard=none) (x:Operand)
 (ho:o.op=.convert 9 112 x) (hx:ac.eval x =.string t) (hlen:t.size≤1099511627776)
 (hK:∀v' w',jo w' w.heap.size v' (wY t)→ah w w'→wpList Tryz.prog ops Q rest (ac.put o.dst v') w'):wpList Tryz.prog ops Q (o ::rest) ac w:=by
 obtain⟨v',w',hr,h1,h2⟩:=jo.al2 t w hlen;exact Nq hgd (VD x ho hx hr) (hK v' w' h1 h2)
theorem jo.bJ {w:World} {base base':Nat} {v:Value} {xs:List Nat} (h:jo w base v xs) (hb:base'≤base):jo w base' v xs:=by
 rcases h with h | ⟨g,cap,cur,fz,hv,hb',r⟩
 ·exact .inl h
 ·exact .inr ⟨g,cap,cur,fz,hv,Nat.le_trans hb hb',r⟩
theorem bW.aq4 {w:World} {g:Nat} {t:TypeId} {x y:Nat} (h:aF w g t #[.int .u8 (x:Int),.int .u8 (y:Int)]):bW w 1 ji (some ⟨g,0,none⟩) 2 [x,y]:=by
 refine⟨rfl,fun _=>⟨g,0,rfl,h.lt,fun i hi j u hu=> ?_⟩⟩;have hj:j = 0:=by have:=(List.getElem?_eq_some_iff.1 hu).1;simp[ji] at this;omega
 subst hj;rw[h.cell];have hi2:i < 2:=hi;match i,hi2 with
 | 0,_=>exact hu
 | 1,_=>exact hu
end Go.Proofs.YtbhikkgpcmkonaaGreatDoor
namespace Go.Proofs.YtbhikkgpcmkonaaGreatDoor
open Go.RowKit Go.PlainAid
theorem av7 (S:ByteArray) {k:Nat} {x:UInt8} (h:S.data.toList[k]? = some x):bt S k=(x.toNat:Int):=by
 have hk:k<S.size:=by
  have:=(List.getElem?_eq_some_iff.1 h).1;rw[Array.length_toList] at this;exact this
 rw[←get_bt S k hk];have h1:=(List.getElem?_eq_some_iff.1 h).2;congr 2
end Go.Proofs.YtbhikkgpcmkonaaGreatDoor
namespace Go.Proofs.YtbhikkgpcmkonaaGreatDoor
open Go.RowKit
theorem ado:∀{l:List bK},Ak l = true→∀{j:Nat} {e f:bK},l[j]? = some e→l[j + 1]? = some f→lC e.n f.n = true
 | [],_,_,_,_,h,_=>by simp at h
 | [_],_,_,_,_,_,h=>by simp at h
 | a ::b ::l,hl,j,e,f,he,hf=>by
  have h2:lC a.n b.n = true∧Ak (b ::l)=true:=by simpa[Ak] using hl
  cases j with
  | zero=>simp at he hf;subst he hf;exact h2.1
  | succ j=>exact ado h2.2 (by simpa using he) (by simpa using hf)
theorem adn:∀{l:List bK},(∀(j:Nat) (e f:bK),l[j]? = some e→l[j + 1]? = some f→lC e.n f.n = true)→Ak l = true
 | [],_=>rfl
 | [_],_=>rfl
 | a ::b ::l,h=>by
  have h1:=h 0 a b rfl rfl;have h2:=adn (l:=b ::l) (fun j e f he hf=>h (j + 1) e f (by simpa using he) (by simpa using hf));show (lC a.n b.n &&Ak (b ::l))=true
  rw[h1,h2];rfl
def Yg (f:bK):Bool:=iF f.n &&decide (f.v.length≤200)
theorem KP {l:List bK} {k:Nat} {f:bK} (hf:l[k]? = some f) (h:Yg f = false):jl l = false:=by
 have hall:l.all (fun f=>iF f.n &&decide (f.v.length≤200))=false:=by
  rw[←Bool.not_eq_true,List.all_eq_true];intro hh;have:=hh f (List.mem_of_getElem? hf);unfold Yg at h;rw[h] at this;cases this
 unfold jl;rw[hall];rfl
theorem Yn {l:List bK} {k:Nat} {e f:bK} (he:l[k]? = some e) (hf:l[k+1]? = some f) (h:lC e.n f.n = false):jl l = false:=by
 have hall:Ak l = false:=by
  rw[←Bool.not_eq_true];intro hh;rw[ado hh he hf] at h;cases h
 unfold jl;rw[hall];simp
def Ap (l:List bK) (k:Nat):Prop:=(∀j f,j < k→l[j]? = some f→Yg f = true)∧(∀j e f,j + 1<k→l[j]? = some e→l[j + 1]? = some f→lC e.n f.n = true)
theorem Ap.succ {l:List bK} {k:Nat} {f:bK} (h:Ap l k) (hf:l[k]? = some f) (hb:Yg f = true) (ha:∀e,0<k→l[k-1]? = some e→lC e.n f.n = true):Ap l (k+1):=by
 refine⟨fun j g hj hg=> ?_,fun j e g hj he hg=> ?_⟩
 ·by_cases hjk:j = k
  ·subst hjk;rw[hf] at hg;rw[←Option.some.inj hg];exact hb
  ·exact h.1 j g ω hg
 ·by_cases hjk:j + 1=k
  ·subst hjk;rw[hf] at hg;rw[←Option.some.inj hg];exact ha e ω (by simpa using he)
  ·exact h.2 j e g ω he hg
theorem Ap.all {l:List bK} (h:Ap l l.length):jl l = decide (l.length≤8):=by
 have h1:l.all (fun f=>iF f.n &&decide (f.v.length≤200))=true:=by
  rw[List.all_eq_true];intro f hf;obtain⟨j,hj⟩:=List.getElem?_of_mem hf;exact h.1 j f (List.getElem?_eq_some_iff.1 hj).1 hj
 have h2:Ak l = true:=adn fun j e f he hf=>h.2 j e f (List.getElem?_eq_some_iff.1 hf).1 he hf
 unfold jl;rw[h1,h2];simp
end Go.Proofs.YtbhikkgpcmkonaaGreatDoor
namespace Go.Proofs.YtbhikkgpcmkonaaGreatDoor
open Go.RowKit Go.Maps Go.WideMaps
def nM:List (List UInt8×Lit)→List UInt8→Option Lit
 | [],_=>none
 | x ::r,s=>match nM r s with
  | some d=>some d
  | none=>if x.1=s then some x.2 else none
theorem vC (x:List UInt8×Lit) (r:List (List UInt8×Lit)) (s:List UInt8):nM (x ::r) s = match nM r s with
 | some d=>some d
 | none=>if x.1=s then some x.2 else none:=rfl
def FK (l:List (List UInt8×Lit)) (m:DataW Unit):DataW Unit:=l.foldl (fun m x=>m.put (.string x.1) (.lit x.2)) m
theorem UJ:∀(l:List (List UInt8×Lit)) (m:DataW Unit),IsMap m→IsMap (FK l m)
 | [],_,h=>h
 | _ ::r,_,h=>UJ r _ (h.put _ _)
theorem yL (s:List UInt8):WideAt.IsKeyLit (.string s):=by first | trivial | simp[WideAt.IsKeyLit] | exact⟨⟩
theorem Jp (z:DataW Unit) (s:List UInt8):∀(l:List (List UInt8×Lit)) (m:DataW Unit),IsMap m→(FK l m).atKey (.string s) z = (match nM l s with | some d=> .lit d | none=>m.atKey (.string s) z)
 | [],_,_=>rfl
 | x ::r,m,h=>by
  show (FK r (m.put (.string x.1) (.lit x.2))).atKey (.string s) z = _
  rw[Jp z s r _ (h.put _ _)];rw[vC];cases nM r s with
  | some d=>rfl
  | none=>
   by_cases he:x.1=s
   ·subst he;simp only[if_true];exact atKey_put_same h (yL _) _ _
   ·simp only[he,if_false];exact atKey_put_other (fun e=>he (by injection e with e;exact e.symm)) _ _
theorem NR (s:List UInt8):∀(l:List (List UInt8×Lit)) (m:DataW Unit),IsMap m→Maps.has (FK l m) (.string s)=((nM l s).isSome||Maps.has m (.string s))
 | [],_,_=>rfl
 | x ::r,m,h=>by
  show Maps.has (FK r (m.put (.string x.1) (.lit x.2))) (.string s)=_
  rw[NR s r _ (h.put _ _)];rw[vC];cases nM r s with
  | some d=>rfl
  | none=>
   by_cases he:x.1=s
   ·subst he;simp only[if_true];rw[has_put_same h (yL _)];rfl
   ·simp only[he,if_false];rw[has_put_other (fun e=>he (by injection e with e;exact e.symm))]
def iV (P:Program) (k e:TypeId) (w:World) (b n:Nat) (l:List (List UInt8×Lit)):Prop:=w.ownsMap (H:=Unit) P k (plainElem P e) b n (FK l (.map []))
section
variable {P:Program} {k e t:TypeId} {w:World} {b n:Nat} {l:List (List UInt8×Lit)}
theorem iV.made (w:World) (P:Program) (k e:TypeId):iV P k e (w.alloc (.map #[] 0)) w.heap.size 0 []:=World.ownsMap_made w P k _
theorem iV.alloc (h:iV P k e w b n l) (o:Obj):iV P k e (w.alloc o) b n l:=World.ownsMap.alloc h o
theorem iV.lt (h:iV P k e w b n l):b < w.heap.size:=World.ownsMap.lt h
theorem iV.kept {w':World} {row:Option Nat} (h:iV P k e w b n l) (hg:w.grownBy w' row) (hne:some b≠row):iV P k e w' b n l:=World.ownsMap.kept h hg hne
theorem iV.SC (h:iV P k e w b n l) (hk:P.underlying k=some .string) (ht:P.underlying t = some (.map k e)) (he:P.underlying e = some .bool) (hz:(zeroValue e).run P w =.ok (.bool false) w) {s:List UInt8} (hs:s.length≤maxLen) {x:Bool} (hx:(nM l s).getD (.bool false)=.bool x) :
 (Instr.lookup t (.map (some b)) (.string ⟨s.toArray⟩) false).run P w =.ok (.bool x) w:=by
 obtain⟨v,ps,hrun,hv⟩:=World.ownsMap.lookup h (string_keyed hk) ht hz (plainElem_bool he false) (key:=.string ⟨s.toArray⟩) (kl:=.string s) (by simpa using keyOf_string_mk hk (s:=⟨s.toArray⟩) (by simpa[ByteArray.size] using hs));rw[Jp _ _ _ _ isMap_empty] at hv;have e1:(match nM l s with | some d=>(DataW.lit d:DataW Unit) | none=>(DataW.map []:DataW Unit).atKey (.string s) (.lit (.bool false)))=.lit (.bool x):=by
  cases hl:nM l s with
  | some d=>rw[hl] at hx;simp only[Option.getD_some] at hx;rw[hx]
  | none=>rw[hl] at hx;simp only[Option.getD_none] at hx;rw[←hx];rfl
 rw[e1] at hv;have:v =.bool x:=by
  unfold plainElem at hv;rw[he] at hv;cases v <;> simp at hv
  rw[hv.1]
 rw[←this];exact hrun
theorem iV.aiA (h:iV P k e w b n l) (hk:P.underlying k=some .string) (ht:P.underlying t = some (.map k e)) (he:P.underlying e = some (.int .i64)) (hz:(zeroValue e).run P w =.ok (.int .i64 0) w) {s:List UInt8} (hs:s.length≤maxLen) {x:Int} (hx:(nM l s).getD (.int .i64 0)=.int .i64 x) :
 (Instr.lookup t (.map (some b)) (.string ⟨s.toArray⟩) true).run P w =.ok (.tuple #[.int .i64 x,.bool (nM l s).isSome]) w:=by
 obtain⟨v,ps,hrun,hv⟩:=World.ownsMap.look_ok h (string_keyed hk) ht hz (plainElem_int he δ) (key:=.string ⟨s.toArray⟩) (kl:=.string s) (by simpa using keyOf_string_mk hk (s:=⟨s.toArray⟩) (by simpa[ByteArray.size] using hs));rw[Jp _ _ _ _ isMap_empty] at hv;have e1:(match nM l s with | some d=>(DataW.lit d:DataW Unit) | none=>(DataW.map []:DataW Unit).atKey (.string s) (.lit (.int .i64 0)))=.lit (.int .i64 x):=by
  cases hl:nM l s with
  | some d=>rw[hl] at hx;simp only[Option.getD_some] at hx;rw[hx]
  | none=>rw[hl] at hx;simp only[Option.getD_none] at hx;rw[←hx];rfl
 rw[e1] at hv;obtain⟨a,rfl,ha,_⟩:=plainElem_int_inv he hv;have:x = a:=by have:=congrArg Prod.fst ha;simpa using this
 subst this;rw[NR _ _ _ isMap_empty] at hrun;have e2:((nM l s).isSome||Maps.has (DataW.map []:DataW Unit) (.string s))=(nM l s).isSome:=by
  have:Maps.has (DataW.map []:DataW Unit) (.string s)=false:=rfl;rw[this,Bool.or_false]
 rw[e2] at hrun;exact hrun
theorem wQ {ops:Array Oper} {rest:List Oper} {o:Oper} {a:Act} {Q:Exit→Act→World→Prop} (h:iV P k e w b n l)
 (hg:o.guard=none) (m x v:Operand) (hop:o.op=Op.mapUpdate t m x v) (hk:P.underlying k=some .string) (ht:P.underlying t = some (.map k e)) (hn:n < maxLen) (s:List UInt8) (hs:s.length≤maxLen) (val:Value) (d:Lit)
 (hm:a.eval m =.map (some b)) (hx:a.eval x =.string ⟨s.toArray⟩) (hv:a.eval v = val) (hd:plainElem (H:=Unit) P e val=some (.lit d,[]))
 (hK:∀w',iV P k e w' b (n + 1) (l ++[(s,d)])→w.grownBy w' (some b)→wpList P ops Q rest (a.put o.dst undef) w') :
 wpList P ops Q (o ::rest) a w:=by
 refine wpList_mapUpdate_own w hg m x v t hop k e (string_keyed hk) ht _ b n _ hm h hn _ _ (.string s) hx hv (by simpa using keyOf_string_mk hk (s:=⟨s.toArray⟩) (by simpa[ByteArray.size] using hs)) _ _ hd ?_;intro w' h1 h2;refine hK w' ?_ h2;unfold iV;unfold FK;rw[List.foldl_append];exact h1
end
end Go.Proofs.YtbhikkgpcmkonaaGreatDoor
namespace Go.Proofs.YtbhikkgpcmkonaaGreatDoor
open Go.RowKit
def placeOf {α:Type} (p:α→Bool) (l:List α):Int:=match l.findIdx? p with
 | some i=>(i:Int)
 | none=> -1
theorem iW {α:Type} {p:α→Bool} {l:List α} {k:Nat} {x:α} (hx:l[k]? = some x) (hp:p x = true) (azQ:∀j y,j < k→l[j]? = some y→p y = false):placeOf p l = (k:Int):=by
 have:l.findIdx? p = some k:=by
  rw[List.findIdx?_eq_some_iff_getElem];obtain⟨h1,h2⟩:=List.getElem?_eq_some_iff.1 hx;refine⟨h1,by rw[h2];exact hp,fun j hj=> ?_⟩;have:=azQ j (l[j]'ω) hj (List.getElem?_eq_getElem _);simp[this]
 unfold placeOf;rw[this]
theorem iC {α:Type} {p:α→Bool} {l:List α} (h:∀(j:Nat) (y:α),l[j]? = some y→p y = false):placeOf p l =-1:=by
 have:l.findIdx? p = none:=by
  rw[List.findIdx?_eq_none_iff];intro x hx;obtain⟨j,hj⟩:=List.getElem?_of_mem hx;exact h j x hj
 unfold placeOf;rw[this]
theorem iE {α:Type} (p:α→Bool) (l:List α):decide (0≤placeOf p l)=l.any p:=by
 unfold placeOf;cases h:l.findIdx? p with
 | some i=>
  obtain⟨h1,h2,_⟩:=List.findIdx?_eq_some_iff_getElem.1 h;have:l.any p = true:=List.any_eq_true.2 ⟨_,List.getElem_mem h1,h2⟩;rw[this];simp
 | none=>
  have h1:=List.findIdx?_eq_none_iff.1 h;have:l.any p = false:=by
   rw[←Bool.not_eq_true,List.any_eq_true];rintro⟨x,hx,hp⟩;rw[h1 x hx] at hp;cases hp
  rw[this];simp
theorem aaV {A:Option Addr} {m c:Nat} {l:List (List UInt8)} {v:List UInt8} (w:World) (hA:bW w 1 encS A m l) (hm:m≤9223372036854775807) :
 Calls Tryz.prog 176 #[.slice A m c,.string ⟨v.toArray⟩] w fun e w'=>e =.returned (.int .i64 (placeOf (fun x=>v ==x) l))∧ah w w':=by
 have lJ:=hA.1;obtain⟨R,hR⟩:∃R,R=placeOf (fun x=>v ==x) l:=⟨_,rfl⟩;rw[←hR];replace hR:=ζ hR;replace hA:=ζ hA;go_enter Tryz.func176,Tryz.ntmps176
 go_wp2;go_loopw [4,5,8] (fun r _ i wr=>∃k:Nat,k≤m∧i =.int .i64 k∧r =.int .i64 0∧Hid (∀j y,j < k→l[j]? = some y→(v ==y)=false)∧wr=w) (fun _ _ i _=>m - (intOf i).toNat)
 case atStart=>exact⟨0,ω,rfl,rfl,fun _ _ h=>absurd h ω,rfl⟩
 case round=>
  obtain⟨k,hk,rfl,rfl,hall,rfl⟩:=hrel;by_cases wB:k<m
  ·obtain⟨bb,off,x,rfl,GV,hx,hcell⟩:=hA.o.at_ wB;have c0:wr.cell? ⟨bb,off+k,none⟩=some (.string ⟨x.toArray⟩):=by simpa using hcell 0 _ rfl
   have kY:(k:Int)<(m:Int):=ω;cases hvx:v ==x with
   | true=>
    have aQ:Hid (R=(k:Int)):=ζ (by rw[hR.o];exact iW hx hvx hall.o);clear hR hall hcell hx;go_wp2;go_ret;exact⟨by rw[aQ.o];rfl,ah.refl _⟩
   | false=>
    have iY:=ζ (show ∀j y,j < k+1→l[j]? = some y→(v ==y)=false from fun j y hj hy=>by
     by_cases hjk:j = k
     ·subst hjk;rw[hx] at hy;rw[←Option.some.inj hy];exact hvx
     ·exact hall.o j y ω hy)
    clear hR hall hcell hx;go_wp2;go_roundw
    case rel=>exact⟨k+1,ω,ν,rfl,iY,trivial⟩
    case measure=>exact ψ
  ·obtain rfl:k=m:=ω;have aQ:Hid (R=-1):=ζ (by rw[hR.o];exact iC fun j y hy=>hall.o j y (by have:=(List.getElem?_eq_some_iff.1 hy).1;omega) hy);clear hR hall;go_wp2;go_ret;exact⟨by rw[aQ.o];rfl,ah.refl _⟩
theorem ajx {A:Option Addr} {m c:Nat} {l:List (List UInt8)} {v:List UInt8} (w:World) (hA:bW w 1 encS A m l) (hm:m≤9223372036854775807) :
 Calls Tryz.prog 137 #[.slice A m c,.string ⟨v.toArray⟩] w fun e w'=>e =.returned (.bool (l.any fun x=>v ==x))∧ah w w':=by
 have cI:=aaV (c:=c) (v:=v) w hA hm;have hp:=iE (fun x=>v ==x) l;generalize (l.any fun x=>v ==x)=R at *
 generalize placeOf (fun x=>v ==x) l = P at *
 subst hp;replace cI:=ζ cI;clear hA;go_enter Tryz.func137,Tryz.ntmps137
 go_wp2_with fail;refine (cI.out).mono ?_;rintro e w1 ⟨rfl,hg⟩;go_wp2;go_ret;exact⟨rfl,hg⟩
end Go.Proofs.YtbhikkgpcmkonaaGreatDoor
namespace Go.Proofs
open Go.Shelf
def Tryz.UU:Go.Shelf.Ren:=⟨fun | 171=>77 | 243=>123 | 246=>164 | 283=>196 | 284=>197 | 285=>198 | 286=>199 | 129=>209 | 317=>227 | 318=>228 | 319=>229 | 320=>230 | 337=>256 | 338=>257 | n=>n,fun | 3=>3 | 9=>9 | 2=>2 | 4=>4 | 171=>302 | 0=>0 | 53=>33 | 37=>112 | 5=>5 | 173=>305 | 212=>337 | 51=>23 | 20=>20 | 213=>338 | 46=>39 | 232=>201 | 233=>380 | n=>n,fun | 17=>2 | 18=>3 | 19=>4 | n=>n⟩
theorem Tryz.aiE:Go.Proofs.LaysM.n171 Tryz.prog Tryz.UU:={
 mixed:=by kernel_rfl
 f129:=Tryz.func209.trans (congrArg some κ)
 f171:=Tryz.func77.trans (congrArg some κ)
 f243:=Tryz.func123.trans (congrArg some κ)
 f246:=Tryz.func164.trans (congrArg some κ)
 f283:=Tryz.func196.trans (congrArg some κ)
 f284:=Tryz.func197.trans (congrArg some κ)
 f285:=Tryz.func198.trans (congrArg some κ)
 f286:=Tryz.func199.trans (congrArg some κ)
 f317:=Tryz.func227.trans (congrArg some κ)
 f318:=Tryz.func228.trans (congrArg some κ)
 f319:=Tryz.func229.trans (congrArg some κ)
 f320:=Tryz.func230.trans (congrArg some κ)
 f337:=Tryz.func256.trans (congrArg some κ)
 f338:=Tryz.func257.trans (congrArg some κ)
 t0:=Tryz.underlying0
 a0:=Tryz.isAgg0
 z0:=Tryz.sizeOf0
 v0:=Tryz.zeroValue0
 t2:=Tryz.underlying2
 a2:=Tryz.isAgg2
 z2:=Tryz.sizeOf2
 v2:=Tryz.zeroValue2
 t3:=Tryz.underlying3
 a3:=Tryz.isAgg3
 z3:=Tryz.sizeOf3
 v3:=Tryz.zeroValue3
 t4:=Tryz.underlying4
 a4:=Tryz.isAgg4
 z4:=Tryz.sizeOf4
 v4:=Tryz.zeroValue4
 t5:=Tryz.underlying5
 a5:=Tryz.isAgg5
 z5:=Tryz.sizeOf5
 v5:=Tryz.zeroValue5
 t9:=Tryz.underlying9
 a9:=Tryz.isAgg9
 z9:=Tryz.sizeOf9
 v9:=Tryz.zeroValue9
 t20:=Tryz.underlying20
 a20:=Tryz.isAgg20
 z20:=Tryz.sizeOf20
 v20:=Tryz.zeroValue20
 t37:=Tryz.underlying112
 a37:=Tryz.isAgg112
 z37:=Tryz.sizeOf112
 v37:=Tryz.zeroValue112
 t46:=Tryz.underlying39
 a46:=Tryz.isAgg39
 z46:=Tryz.sizeOf39
 v46:=Tryz.zeroValue39
 t51:=Tryz.underlying23
 a51:=Tryz.isAgg23
 z51:=Tryz.sizeOf23
 v51:=Tryz.zeroValue23
 t53:=Tryz.underlying33
 a53:=Tryz.isAgg33
 z53:=Tryz.sizeOf33
 v53:=Tryz.zeroValue33
 t171:=Tryz.underlying302
 a171:=Tryz.isAgg302
 z171:=Tryz.sizeOf302
 v171:=Tryz.zeroValue302
 t173:=Tryz.underlying305
 a173:=Tryz.isAgg305
 z173:=Tryz.sizeOf305
 v173:=Tryz.zeroValue305
 t212:=Tryz.underlying337
 a212:=Tryz.isAgg337
 z212:=Tryz.sizeOf337
 v212:=Tryz.zeroValue337
 t213:=Tryz.underlying338
 a213:=Tryz.isAgg338
 z213:=Tryz.sizeOf338
 t232:=Tryz.underlying201
 a232:=Tryz.isAgg201
 z232:=Tryz.sizeOf201
 v232:=Tryz.zeroValue201
 t233:=Tryz.underlying380
 a233:=Tryz.isAgg380
 z233:=Tryz.sizeOf380
 v233:=Tryz.zeroValue380
 g17:=by kernel_rfl
 g18:=by kernel_rfl
 g19:=by kernel_rfl
 i0:=by kernel_rfl
 i2:=by kernel_rfl
 i3:=by kernel_rfl
 i4:=by kernel_rfl
 i5:=by kernel_rfl
 i9:=by kernel_rfl
 i20:=by kernel_rfl
 i37:=by kernel_rfl
 i46:=by kernel_rfl
 i51:=by kernel_rfl
 i53:=by kernel_rfl
 i171:=by kernel_rfl
 i173:=by kernel_rfl
 i212:=by kernel_rfl
 i232:=by kernel_rfl
 i233:=by kernel_rfl
 m17:=by kernel_rfl
 m18:=by kernel_rfl
 m19:=by kernel_rfl}
def Tryz.UW:Go.Shelf.Ren:=⟨fun | 17=>159 | 15=>195 | 20=>226 | n=>n,fun | 9=>9 | 23=>263 | 4=>4 | 3=>3 | 0=>0 | 21=>21 | n=>n,fun | n=>n⟩
theorem Tryz.Xz:Go.Proofs.LaysGw.n17 Tryz.prog Tryz.UW:={
 mixed:=by kernel_rfl
 f15:=Tryz.func195.trans (congrArg some κ)
 f17:=Tryz.func159.trans (congrArg some κ)
 f20:=Tryz.func226.trans (congrArg some κ)
 t0:=Tryz.underlying0
 a0:=Tryz.isAgg0
 z0:=Tryz.sizeOf0
 v0:=Tryz.zeroValue0
 i0:=by kernel_rfl
 t3:=Tryz.underlying3
 a3:=Tryz.isAgg3
 z3:=Tryz.sizeOf3
 v3:=Tryz.zeroValue3
 i3:=by kernel_rfl
 t4:=Tryz.underlying4
 a4:=Tryz.isAgg4
 z4:=Tryz.sizeOf4
 v4:=Tryz.zeroValue4
 i4:=by kernel_rfl
 t9:=Tryz.underlying9
 a9:=Tryz.isAgg9
 z9:=Tryz.sizeOf9
 v9:=Tryz.zeroValue9
 i9:=by kernel_rfl
 t21:=Tryz.underlying21
 a21:=Tryz.isAgg21
 z21:=Tryz.sizeOf21
 v21:=Tryz.zeroValue21
 i21:=by kernel_rfl
 t23:=Tryz.underlying263
 a23:=Tryz.isAgg263
 z23:=Tryz.sizeOf263
 v23:=Tryz.zeroValue263
 i23:=by kernel_rfl}
end Go.Proofs
namespace Go.Proofs.YtbhikkgpcmkonaaGreatDoor
open Go.RowKit Go.PlainAid
theorem Zu {P:Program} {w w':World} {nm:String} {g:Nat} {cs:Array Value} (h:ah w w') (hg:P.globalNamed nm=some g) (hv:w.var? P nm=some cs) (hlt:g < w.heap.size):w'.var? P nm=some cs:=var?_below h hg hlt hv
structure oD (w:World):Prop where
 pow:Lib.TabIs Tryz.prog w "internal/strconv.uint64pow10" .u64 Lib.pow10Tab
 apo:2<w.heap.size
theorem oD.grows {w w':World} (h:oD w) (hg:ah w w'):oD w' where
 pow:=Zu hg κ h.pow h.apo
 apo:=Nat.lt_of_lt_of_le h.apo hg.size
theorem abE (w:World) (k:Nat) (os:Array Obj):ah w (Go.Sort.grow (w.drewN k) os):=
 ⟨rfl,rfl,rfl,by show w.heap.size≤(w.heap++os).size;simp,fun j hj=>by show (w.heap++os)[j]? = _;rw[Array.getElem?_append_left hj]⟩
theorem XE (n:Int) (h0: -9223372036854775808≤n) (h1:n≤9223372036854775807) (w:World) (he:oD w) :
 Calls Tryz.prog 77 #[.int .i64 n] w fun e w'=>e =.returned (.string ⟨(Lib.itoa n).toArray⟩)∧ah w w':=
 (Any.strconv_Itoa Tryz.aiE n h0 h1 w he.pow).mono fun _ _ ⟨e,k,os,hw⟩=>⟨e,by rw[hw];exact abE w k os⟩
theorem aeK (w:World):PredAt Tryz.prog 172 #[] encR QM w:=fun W r _=>by
 unfold FnGives;obtain⟨R,hR⟩:∃R,R=QM r:=⟨_,rfl⟩;rw[←hR];unfold QM apC abV at hR;by_cases h1:r = 95
 ·subst h1;replace hR:R=false:=by rw[hR];decide
  subst hR;go_enter Tryz.func172,Tryz.ntmps172
  go_wp2;go_ret;exact⟨rfl,0,rfl⟩
 ·have h1':((r:Int) != 95)=true:=by simp;omega
  by_cases h2:r < 48
  ·replace hR:R=true:=by rw[hR];simp;omega
   subst hR;have h3:(r:Int)<97:=ω;have h4:(r:Int)<48:=ω;go_enter Tryz.func172,Tryz.ntmps172
   go_wp2;go_ret;exact⟨rfl,0,rfl⟩
  ·by_cases h3:r≤57
   ·replace hR:R=false:=by rw[hR];simp;omega
    subst hR;have h3:(r:Int)<97:=ω;have h4:¬(r:Int)<48:=ω;have h5:¬57<(r:Int):=ω;go_enter Tryz.func172,Tryz.ntmps172
    go_wp2;go_ret;exact⟨rfl,0,rfl⟩
   ·have h5:57<(r:Int):=ω;have h4:¬(r:Int)<48:=ω;by_cases h6:r < 97
    ·replace hR:R=true:=by rw[hR];simp;omega
     subst hR;have h7:(r:Int)<97:=ω;go_enter Tryz.func172,Tryz.ntmps172
     go_wp2;go_ret;exact⟨rfl,0,rfl⟩
    ·have h7:¬(r:Int)<97:=ω;by_cases h8:122<r
     ·replace hR:R=true:=by rw[hR];simp;omega
      subst hR;have h9:122<(r:Int):=ω;go_enter Tryz.func172,Tryz.ntmps172
      go_wp2;go_ret;exact⟨rfl,0,rfl⟩
     ·replace hR:R=false:=by rw[hR];simp;omega
      subst hR;have h9:¬122<(r:Int):=ω;go_enter Tryz.func172,Tryz.ntmps172
      go_wp2;go_ret;exact⟨rfl,0,rfl⟩
theorem aaE {s:List UInt8} (h:12<s.length):iF s = false:=by
 unfold iF;rw[decide_eq_false (show ¬s.length≤12 by omega)];simp
theorem aeL {b:UInt8} {r:List UInt8} (h:abV b.toNat=true):iF (b ::r)=false:=by
 unfold iF;simp[h]
theorem aaD {b:UInt8} {r:List UInt8} (h:abV b.toNat=false) (hl:(b ::r).length≤12):iF (b ::r)=(b ::r).all ahX:=by
 unfold iF;rw[decide_eq_true hl];simp[h]
theorem aeJ (S:ByteArray) (w:World):Calls Tryz.prog 132 #[.string S] w fun e w'=>e =.returned (.bool (iF S.data.toList))∧ah w w':=by
 have hS:S.data.toList.length=S.size:=Array.length_toList;have cC:=fun W=>Any.strings_ContainsFunc Tryz.Xz 172 #[] (enters_of Tryz.func172 κ rfl) QM S W (aeK W)
 have hna:=aiw S;change ∀W,Calls Tryz.prog 159 _ W _ at cC
 generalize decide (0≤Lib.idxFunc QM true S)=D at *
 obtain⟨R,hR⟩:∃R,R=iF S.data.toList:=⟨_,rfl⟩;rw[←hR];replace cC:=ζ cC;by_cases h0:S.size=0
 ·have hSe:S=⟨#[]⟩:=by
   apply ByteArray.ext;exact Array.eq_empty_of_size_eq_zero h0
  subst hSe;replace hR:R=false:=by rw[hR];rfl
  subst hR;clear hS hna cC h0;go_enter Tryz.func132,Tryz.ntmps132
  go_wp2;go_ret;exact⟨rfl,ah.refl _⟩
 ·have ay9:¬S.toList=[]:=fun h=>h0 (by rw[(toList_nil_iff_emptyBytes S).1 h];rfl)
  have Q9:S.toList.isEmpty=false:=by rw[←Bool.not_eq_true,List.isEmpty_iff];exact ay9
  have hp0:0<S.size:=ω;have hb0:=get_bt S 0 hp0;have hx0:=fun x=>av7 S (k:=0) (x:=x)
  cases hl:S.data.toList with
  | nil=>rw[hl] at hS;simp at hS;omega
  | cons b r=>
   rw[hl] at hR hna hS hx0;rw[hx0 b rfl] at hb0;have XW:=aaE (s:=b ::r);have hdi:=aeL (b:=b) (r:=r);have hre:=aaD (b:=b) (r:=r);rw[hS] at XW hre;rw[←hna] at hre;have hbl:=b.toNat_lt;unfold abV at hdi hre;clear hna hl hx0 hS;generalize b.toNat=X at *
   have hX0:0≤(X:Int)∧(X:Int)≤255:=ω;clear hbl h0;generalize iF (b ::r)=B at *
   subst hR;by_cases h12:12<S.size
   ·have hB:=XW h12;subst hB;have g0:(12:Int)<(S.size:Int):=ω;clear XW hdi hre cC;go_enter Tryz.func132,Tryz.ntmps132
    go_wp2;go_ret;exact⟨rfl,ah.refl _⟩
   ·have g0:¬(12:Int)<(S.size:Int):=ω;clear XW;by_cases hd:48≤X∧X≤57
    ·have hB:=hdi (by simp[hd.1,hd.2]);subst hB;have g1:(48:Int)≤X:=ω;have g2:(X:Int)≤57:=ω;clear hdi hre cC hd;go_enter Tryz.func132,Tryz.ntmps132
     go_wp2;go_ret;exact⟨rfl,ah.refl _⟩
    ·have hB:=hre (by simp;omega) ω;subst hB;clear hdi hre;by_cases h48:48≤X
     ·have g1:(48:Int)≤X:=ω;have g2:¬(X:Int)≤57:=ω;clear hd h48;go_enter Tryz.func132,Tryz.ntmps132
      go_wp2_with fail;refine (cC.out _).mono ?_;rintro e w1 ⟨rfl,hb⟩;go_wp2;go_ret;exact⟨rfl,hb⟩
     ·have g1:¬(48:Int)≤X:=ω;clear hd h48;go_enter Tryz.func132,Tryz.ntmps132
      go_wp2_with fail;refine (cC.out _).mono ?_;rintro e w1 ⟨rfl,hb⟩;go_wp2;go_ret;exact⟨rfl,hb⟩
theorem uF (s:List UInt8) (w:World):Calls Tryz.prog 132 #[.string ⟨s.toArray⟩] w fun e w'=>e =.returned (.bool (iF s))∧ah w w':=aeJ ⟨s.toArray⟩ w
def xK {α:Type} (P:Program) (g:FuncId) (lb:Array Value) (val:α→Value) (p:α→Bool) (l:List α) (w:World):Prop:=
 ∀x∈l,∀(W:World),ah w W→Calls P g (#[val x]++lb) W fun e w'=>e =.returned (.bool (p x))∧ah W w'
def aoP {α:Type} (P:Program) (g:FuncId) (lb:Array Value) (val:α→Value) (p:α→Bool) (B:Nat) (l:List α) (w:World):Prop:=
 ∀x∈l,∀(W:World),Below B w W→Calls P g (#[val x]++lb) W fun e w'=>e =.returned (.bool (p x))∧ah W w'
theorem bW.acF {α:Type} {w:World} {k:Nat} {enc:α→List Value} {m:Nat} {l:List α} (h:bW w k enc none m l):l = []∧m = 0:=by
 rcases Nat.eq_zero_or_pos m with h0 | h0
 ·exact⟨List.eq_nil_of_length_eq_zero (by rw[h.1,h0]),h0⟩
 ·obtain⟨b,off,e,_⟩:=h.2 h0;cases e
theorem lK {α:Type} {p:α→Bool}:∀{xs:List α},xs.any p = false→(xs.filter fun x=> !p x)=xs
 | [],_=>rfl
 | x ::r,h=>by
  simp only[List.any_cons,Bool.or_eq_false_iff] at h;simp[h.1,lK h.2]
theorem zq {α:Type} (p:α→Bool) (xs:List α):(placeOf p xs=-1∧xs.any p = false)∨∃(i:Nat) (x:α),placeOf p xs=i∧xs[i]? = some x∧p x = true∧(xs.take i).any p = false:=by
 unfold placeOf;cases h:xs.findIdx? p with
 | none=>
  refine .inl ⟨rfl,?_⟩;rw[←Bool.not_eq_true,List.any_eq_true];rintro⟨x,hx,hp⟩;rw[List.findIdx?_eq_none_iff.1 h x hx] at hp;cases hp
 | some i=>
  obtain⟨h1,h2,h3⟩:=List.findIdx?_eq_some_iff_getElem.1 h;refine .inr ⟨i,xs[i],rfl,List.getElem?_eq_getElem h1,h2,?_⟩;rw[←Bool.not_eq_true,List.any_eq_true];rintro⟨x,hx,hp⟩;obtain⟨j,hj,rfl⟩:=List.getElem_of_mem hx;rw[List.getElem_take] at hp;exact h3 j (by simp at hj;omega) hp
structure xI {α:Type} (p:α→Bool) (xs ys:List α) (i j:Nat):Prop where
 len:ys.length=xs.length
 lt:i < j
 le:j≤xs.length
 front:ys.take i = (xs.take j).filter fun x=> !p x
 back:ys.drop j = xs.drop j
theorem xI.start {α:Type} {p:α→Bool} {xs:List α} {i:Nat} {x:α} (h1:xs[i]? = some x) (h2:p x = true) (h3:(xs.take i).any p = false):xI p xs xs i (i + 1):=by
 have hi:i < xs.length:=(List.getElem?_eq_some_iff.1 h1).1;refine⟨rfl,ω,ω,?_,rfl⟩;rw[List.take_add_one,List.filter_append,lK h3,h1];simp[h2]
theorem xI.get {α:Type} {p:α→Bool} {xs ys:List α} {i j:Nat} (h:xI p xs ys i j) {x:α} (hx:xs[j]? = some x):ys[j]? = some x:=by
 have:=congrArg (fun l=>l[0]?) h.back;simp only[List.getElem?_drop,Nat.add_zero] at this;rw[this,hx]
theorem xI.aoM {α:Type} {p:α→Bool} {xs ys:List α} {i j:Nat} (h:xI p xs ys i j) {x:α} (hx:xs[j]? = some x) (hp:p x = true):xI p xs ys i (j + 1):=by
 have hj:j < xs.length:=(List.getElem?_eq_some_iff.1 hx).1;refine⟨h.len,by have:=h.lt;omega,ω,?_,?_⟩
 ·rw[List.take_add_one,List.filter_append,←h.front,hx];simp[hp]
 ·have:=congrArg (List.drop 1) h.back;simpa[List.drop_drop] using this
theorem xI.an6 {α:Type} {p:α→Bool} {xs ys:List α} {i j:Nat} (h:xI p xs ys i j) {x:α} (hx:xs[j]? = some x) (hp:p x = false):xI p xs (ys.set i x) (i + 1) (j + 1):=by
 have hj:j < xs.length:=(List.getElem?_eq_some_iff.1 hx).1;have hlt:=h.lt;have hl:=h.len;refine⟨by simp[hl],ω,ω,?_,?_⟩
 ·rw[List.take_add_one,List.take_add_one,List.filter_append,←h.front,hx,List.take_set_of_le ω,List.getElem?_set_self ω];simp[hp]
 ·rw[List.drop_set_of_lt ω];have:=congrArg (List.drop 1) h.back;simpa[List.drop_drop] using this
def Yt (x:Bo):List Value:=[.string ⟨x.n.toArray⟩,.int .i64 x.l.lv,.int .u32 (x.l.c:Int)]
def als (x:Bo):Value:=.agg #[.string ⟨x.n.toArray⟩,.int .i64 x.l.lv,.int .u32 (x.l.c:Int)]
theorem hkN (x:Bo):(Yt x).length=3:=rfl
def qU (x:cZ):List Value:=[.string ⟨x.n.toArray⟩,.int .i64 x.op,.string ⟨x.v.toArray⟩]
def Fv (x:cZ):Value:=.agg #[.string ⟨x.n.toArray⟩,.int .i64 x.op,.string ⟨x.v.toArray⟩]
theorem hkM (x:cZ):(qU x).length=3:=rfl
theorem ayh (x:cZ):∀u∈qU x,u.oneCell'=true:=by intro u hu;simp[qU] at hu;rcases hu with rfl | rfl | rfl <;> rfl
def Hr (x:bK):Value:=.agg #[.string ⟨x.n.toArray⟩,.string ⟨x.v.toArray⟩]
theorem T_F:eX Tryz.prog 22 88 2 32:=aBa
structure iO where
 l:List Bo
 A:Option Addr
 m:Nat
 k:Nat
def iO.val (x:iO):Value:=.slice x.A x.m x.k
structure iO.At (x:iO) (w:World):Prop where
 arr:bW w 3 Yt x.A x.m x.l
 le:x.m≤9223372036854775807
 KC:∀y∈x.l,y.l.ok
 txt:∀y∈x.l,y.n.length≤9223372036854775807
def ani (x:iO):List Value:=[.slice x.A x.m x.k]
def ao6 (x:iO):Value:=.slice x.A x.m x.k
structure Bc where
 r:Rte
 bA:Option Addr
 bm:Nat
 bk:Nat
 wA:Option Addr
 wm:Nat
 wk:Nat
structure Bc.At (x:Bc) (w:World):Prop where
 fH:bW w 1 encS x.bA x.bm x.r.fH
 agh:x.bm≤9223372036854775807
 YE:∀y∈x.r.fH,y.length≤9223372036854775807
 wh:bW w 3 qU x.wA x.wm x.r.wh
 Zo:x.wm≤9223372036854775807
def encR (x:Bc):List Value:=[.string ⟨x.r.r.toArray⟩,.slice x.bA x.bm x.bk,.int .i64 x.r.wait,.int .i64 x.r.every,.int .i64 x.r.again,.slice x.wA x.wm x.wk]
def ahc (x:Bc):Value:=.agg #[.string ⟨x.r.r.toArray⟩,.slice x.bA x.bm x.bk,.int .i64 x.r.wait,.int .i64 x.r.every,.int .i64 x.r.again,.slice x.wA x.wm x.wk]
structure Aq where
 i:Inh
 bA:Option Addr
 bm:Nat
 bk:Nat
 fA:Option Addr
 fm:Nat
 fk:Nat
 wA:Option Addr
 wm:Nat
 wk:Nat
structure Aq.At (x:Aq) (w:World):Prop where
 fH:bW w 1 encS x.bA x.bm x.i.fH
 agh:x.bm≤9223372036854775807
 YE:∀y∈x.i.fH,y.length≤9223372036854775807
 fr:bW w 3 qU x.fA x.fm x.i.from_
 aqY:x.fm≤9223372036854775807
 wh:bW w 3 qU x.wA x.wm x.i.wh
 Zo:x.wm≤9223372036854775807
 KC:x.i.l.ok
def akk (x:Aq):List Value:=[.slice x.bA x.bm x.bk,.int .i64 x.i.l.lv,.int .u32 (x.i.l.c:Int),.slice x.fA x.fm x.fk,.slice x.wA x.wm x.wk]
def WJ (x:Aq):Value:=.agg #[.slice x.bA x.bm x.bk,.int .i64 x.i.l.lv,.int .u32 (x.i.l.c:Int),.slice x.fA x.fm x.fk,.slice x.wA x.wm x.wk]
structure bU where
 s:iO
 r:iO
 e:iO
 a:iO
 o:List Bc
 oA:Option Addr
 om:Nat
 ok:Nat
 i:List Aq
 iA:Option Addr
 im:Nat
 ik:Nat
def bU.aU (x:bU):fU:=⟨x.s.l,x.r.l,x.e.l,x.a.l,x.o.map (·.r),x.i.map (·.i)⟩
def bU.cells (x:bU):List Value:=[.slice x.s.A x.s.m x.s.k,.slice x.r.A x.r.m x.r.k,.slice x.e.A x.e.m x.e.k,.slice x.a.A x.a.m x.a.k,.slice x.oA x.om x.ok,.slice x.iA x.im x.ik]
def bU.val (x:bU):Value:=.agg #[.slice x.s.A x.s.m x.s.k,.slice x.r.A x.r.m x.r.k,.slice x.e.A x.e.m x.e.k,.slice x.a.A x.a.m x.a.k,.slice x.oA x.om x.ok,.slice x.iA x.im x.ik]
structure bU.At (x:bU) (w:World):Prop where
 s:x.s.At w
 r:x.r.At w
 e:x.e.At w
 a:x.a.At w
 o:bW w 6 encR x.oA x.om x.o
 ole:x.om≤9223372036854775807
 oAt:∀y∈x.o,y.At w
 i:bW w 5 akk x.iA x.im x.i
 ile:x.im≤9223372036854775807
 iAt:∀y∈x.i,y.At w
theorem iO.At.keep {x:iO} {w w':World} (h:x.At w) (hg:ah w w'):x.At w':=⟨h.arr.keep hg,h.le,h.KC,h.txt⟩
theorem Bc.At.keep {x:Bc} {w w':World} (h:x.At w) (hg:ah w w'):x.At w':=⟨h.fH.keep hg,h.agh,h.YE,h.wh.keep hg,h.Zo⟩
theorem Aq.At.keep {x:Aq} {w w':World} (h:x.At w) (hg:ah w w'):x.At w':=⟨h.fH.keep hg,h.agh,h.YE,h.fr.keep hg,h.aqY,h.wh.keep hg,h.Zo,h.KC⟩
theorem bU.At.keep {x:bU} {w w':World} (h:x.At w) (hg:ah w w'):x.At w':=⟨h.s.keep hg,h.r.keep hg,h.e.keep hg,h.a.keep hg,h.o.keep hg,h.ole,fun y hy=>(h.oAt y hy).keep hg,h.i.keep hg,h.ile,fun y hy=>(h.iAt y hy).keep hg⟩
structure dA where
 a:iD
 A:Option Addr
 m:Nat
 k:Nat
def tq (x:dA):List Value:=[.string ⟨x.a.src.toArray⟩,.slice x.A x.m x.k,.int .i64 x.a.l.lv,.int .u32 (x.a.l.c:Int),.int .i64 x.a.f,.int .i64 x.a.t]
def je (x:dA):Value:=.agg #[.string ⟨x.a.src.toArray⟩,.slice x.A x.m x.k,.int .i64 x.a.l.lv,.int .u32 (x.a.l.c:Int),.int .i64 x.a.f,.int .i64 x.a.t]
structure dA.At (x:dA) (w:World):Prop where
 arr:bW w 2 dW x.A x.m x.a.fs
 le:x.m≤1000
 KC:x.a.l.ok
theorem dA.At.keep {x:dA} {w w':World} (h:x.At w) (hg:ah w w'):x.At w':=⟨h.arr.keep hg,h.le,h.KC⟩
def mO (fb:cZ→Bool) (x:cZ):Prop:=∀W:World,Calls Tryz.prog 154 #[Fv x] W fun e w'=>e =.returned (.bool (fb x))∧ah W w'
def aBe (ft:List bK→cZ→Bool) (x:cZ):Prop:=∀(A:Option Addr) (m c:Nat) (l:List bK) (W:World),bW W 2 dW A m l→m≤9223372036854775807→Calls Tryz.prog 152 #[.slice A m c,Fv x] W fun e w'=>e =.returned (.bool (ft l x))∧ah W w'
theorem aiR (g:FuncId) (lb:Array Value) (eg:Enters Tryz.prog g) (p:iO→Bool) (A:Option Addr) (m c:Nat) (l:List iO) (w:World) (h:bW w 1 ani A m l) (hm:m≤9223372036854775807) (hp:xK Tryz.prog g lb ao6 p l w) :
 Calls Tryz.prog 161 #[.slice A m c,.func (.func g) #[] lb] w fun e w'=>e =.returned (.int .i64 (placeOf p l))∧ah w w':=by
 have hlen:=h.1;unfold Enters at eg;obtain⟨R,hR⟩:∃R,R=placeOf p l:=⟨_,rfl⟩;rw[←hR];replace hR:=ζ hR;replace hp:=ζ hp;replace h:=ζ h;go_enter Tryz.func161,Tryz.ntmps161
 go_wp2;go_loopw [5,8] (fun _ i wr=>∃k:Nat,k≤m∧i =.int .i64 k∧Hid (∀j y,j < k→l[j]? = some y→p y = false)∧Hid (ah w wr)) (fun _ i _=>m - (intOf i).toNat)
 case atStart=>exact⟨0,ω,rfl,fun _ _ h=>absurd h ω,ah.refl _⟩
 case round=>
  obtain⟨k,hk,rfl,hall,hg⟩:=hrel;by_cases hlt:k<m
  ·obtain⟨b,off,x,rfl,_,hx,hcell⟩:=(h.o.keep hg.o).at_ hlt;have c0:wr.cell? ⟨b,off+k,none⟩=some (.slice x.A x.m x.k):=by simpa using hcell 0 _ rfl
   have kY:(k:Int)<(m:Int):=ω;have cI:=hp.o x (List.mem_of_getElem? hx) wr hg.o;unfold ao6 at cI;cases hq:p x with
   | false=>
    rw[hq] at cI;replace cI:=ζ cI;have iY:=ζ (show ∀j y,j < k+1→l[j]? = some y→p y = false from fun j y hj hy=>by
     by_cases hjk:j = k
     ·subst hjk;rw[hx] at hy;rw[←Option.some.inj hy];exact hq
     ·exact hall.o j y ω hy)
    clear hcell hq hx hall hR;go_wp2_with fail;refine (cI.out).mono ?_;rintro e w1 ⟨rfl,hb⟩;have hg1:=ζ (hg.o.trans hb);go_wp2;go_roundw
    case rel=>exact⟨k+1,ω,ν,iY,hg1⟩
    case measure=>exact ψ
   | true=>
    rw[hq] at cI;have aQ:Hid (R=(k:Int)):=ζ (by rw[hR.o];exact iW hx hq hall.o);replace cI:=ζ cI;clear hcell hq hx hall hR;go_wp2_with fail;refine (cI.out).mono ?_;rintro e w1 ⟨rfl,hb⟩;have hg1:=ζ (hg.o.trans hb);go_wp2;go_ret;exact⟨by rw[aQ.o];rfl,hg1.o⟩
  ·obtain rfl:k=m:=ω;have aQ:Hid (R=-1):=ζ (by rw[hR.o];exact iC fun j y hy=>hall.o j y (by have:=(List.getElem?_eq_some_iff.1 hy).1;omega) hy);clear hall hR;go_wp2;go_ret;exact⟨by rw[aQ.o];rfl,hg.o⟩
theorem akq (g:FuncId) (lb:Array Value) (eg:Enters Tryz.prog g) (p:iO→Bool) (A:Option Addr) (m c:Nat) (l:List iO) (w:World) (h:bW w 1 ani A m l) (hm:m≤9223372036854775807) (hp:xK Tryz.prog g lb ao6 p l w) :
 Calls Tryz.prog 120 #[.slice A m c,.func (.func g) #[] lb] w fun e w'=>e =.returned (.bool (l.any p))∧ah w w':=by
 have cI:=aiR (c:=c) g lb eg p A m l w h hm hp;replace cI:=ζ cI;have aQ:=ζ (iE p l);clear h hp;go_enter Tryz.func120,Tryz.ntmps120
 go_wp2_with fail;refine cI.out.mono ?_;rintro e w1 ⟨rfl,hb⟩;go_wp2;go_ret;exact⟨aP aQ.o,hb⟩
theorem aiT (g:FuncId) (lb:Array Value) (eg:Enters Tryz.prog g) (p:cZ→Bool) (A:Option Addr) (m c:Nat) (l:List cZ) (w:World) (h:bW w 3 qU A m l) (hm:m≤9223372036854775807) (hp:xK Tryz.prog g lb Fv p l w) :
 Calls Tryz.prog 187 #[.slice A m c,.func (.func g) #[] lb] w fun e w'=>e =.returned (.int .i64 (placeOf p l))∧ah w w':=by
 have hlen:=h.1;unfold Enters at eg;obtain⟨R,hR⟩:∃R,R=placeOf p l:=⟨_,rfl⟩;rw[←hR];replace hR:=ζ hR;replace hp:=ζ hp;replace h:=ζ h;go_enter Tryz.func187,Tryz.ntmps187
 go_wp2;go_loopw [5,8] (fun _ i wr=>∃k:Nat,k≤m∧i =.int .i64 k∧Hid (∀j y,j < k→l[j]? = some y→p y = false)∧Hid (ah w wr)) (fun _ i _=>m - (intOf i).toNat)
 case atStart=>exact⟨0,ω,rfl,fun _ _ h=>absurd h ω,ah.refl _⟩
 case round=>
  obtain⟨k,hk,rfl,hall,hg⟩:=hrel;by_cases hlt:k<m
  ·obtain⟨b,off,x,rfl,_,hx,hcell⟩:=(h.o.keep hg.o).at_ hlt;have c0:wr.cell? ⟨b,off+k*3,none⟩=some (.string ⟨x.n.toArray⟩):=hcell 0 _ rfl;have c1:wr.cell? ⟨b,off+k*3+1,none⟩=some (.int .i64 x.op):=hcell 1 _ rfl;have c2:wr.cell? ⟨b,off+k*3+2,none⟩=some (.string ⟨x.v.toArray⟩):=hcell 2 _ rfl;have kY:(k:Int)<(m:Int):=ω;have cI:=hp.o x (List.mem_of_getElem? hx) wr hg.o;unfold Fv at cI;cases hq:p x with
   | false=>
    rw[hq] at cI;replace cI:=ζ cI;have iY:=ζ (show ∀j y,j < k+1→l[j]? = some y→p y = false from fun j y hj hy=>by
     by_cases hjk:j = k
     ·subst hjk;rw[hx] at hy;rw[←Option.some.inj hy];exact hq
     ·exact hall.o j y ω hy)
    clear hcell hq hx hall hR;go_wp2_with fail;refine (cI.out).mono ?_;rintro e w1 ⟨rfl,hb⟩;have hg1:=ζ (hg.o.trans hb);go_wp2;go_roundw
    case rel=>exact⟨k+1,ω,ν,iY,hg1⟩
    case measure=>exact ψ
   | true=>
    rw[hq] at cI;have aQ:Hid (R=(k:Int)):=ζ (by rw[hR.o];exact iW hx hq hall.o);replace cI:=ζ cI;clear hcell hq hx hall hR;go_wp2_with fail;refine (cI.out).mono ?_;rintro e w1 ⟨rfl,hb⟩;have hg1:=ζ (hg.o.trans hb);go_wp2;go_ret;exact⟨by rw[aQ.o];rfl,hg1.o⟩
  ·obtain rfl:k=m:=ω;have aQ:Hid (R=-1):=ζ (by rw[hR.o];exact iC fun j y hy=>hall.o j y (by have:=(List.getElem?_eq_some_iff.1 hy).1;omega) hy);clear hall hR;go_wp2;go_ret;exact⟨by rw[aQ.o];rfl,hg.o⟩
theorem O6 (g:FuncId) (lb:Array Value) (eg:Enters Tryz.prog g) (p:cZ→Bool) (A:Option Addr) (m c:Nat) (l:List cZ) (w:World) (h:bW w 3 qU A m l) (hm:m≤9223372036854775807) (hp:xK Tryz.prog g lb Fv p l w) :
 Calls Tryz.prog 150 #[.slice A m c,.func (.func g) #[] lb] w fun e w'=>e =.returned (.bool (l.any p))∧ah w w':=by
 have cI:=aiT (c:=c) g lb eg p A m l w h hm hp;replace cI:=ζ cI;have aQ:=ζ (iE p l);clear h hp;go_enter Tryz.func150,Tryz.ntmps150
 go_wp2_with fail;refine cI.out.mono ?_;rintro e w1 ⟨rfl,hb⟩;go_wp2;go_ret;exact⟨aP aQ.o,hb⟩
end Go.Proofs.YtbhikkgpcmkonaaGreatDoor
namespace Go.Proofs.YtbhikkgpcmkonaaGreatDoor
open Go.RowKit Go.Maps
theorem ah.uw {w w':World} (h:ah w w') (row:Option Nat):w.grownBy w' row:=⟨Below.os h,Below.tape h,Below.output h,h.size,fun k hk _=>Below.block h k hk⟩
theorem iV.grows {P:Program} {k e:TypeId} {w w':World} {b n:Nat} {l:List (List UInt8×Lit)} (h:iV P k e w b n l) (hg:ah w w'):iV P k e w' b n l:=h.kept (hg.uw none) σ
theorem CW (n lo hi:Int) (w:World) :
 Calls Tryz.prog 116 #[.int .i64 n,.int .i64 lo,.int .i64 hi] w fun e w'=>e =.returned (.bool (decide (lo≤n)&&decide (n≤hi)))∧ah w w':=by
 by_cases h:lo≤n
 ·go_enter Tryz.func116,Tryz.ntmps116
  go_wp2;go_ret;exact⟨aP (by simp[h]),ah.refl _⟩
 ·go_enter Tryz.func116,Tryz.ntmps116
  go_wp2;go_ret;exact⟨aP (by simp;omega),ah.refl _⟩
def RZ (l:List (List UInt8)):List (List UInt8×Lit):=l.map fun s=>(s,.bool true)
theorem N9 (s:List UInt8):∀l:List (List UInt8),nM (RZ l) s = if s∈l then some (.bool true) else none
 | []=>rfl
 | x ::r=>by
  show nM ((x,.bool true)::RZ r) s = _
  rw[vC,N9 s r];by_cases h:s∈r
  ·simp[h]
  ·by_cases hx:x = s
   ·simp[h,hx]
   ·simp[h,hx,Ne.symm hx]
theorem ZM (l:List (List UInt8)) (x:List UInt8):RZ (l ++[x])=RZ l ++[(x,.bool true)]:=by simp[RZ]
abbrev VP (w:World) (b n:Nat) (l:List (List UInt8)):Prop:=iV Tryz.prog 9 4 w b n (RZ l)
theorem VP.look {w:World} {b n:Nat} {l:List (List UInt8)} (h:VP w b n l) {s:List UInt8} (hs:s.length≤maxLen) {x:Bool} (hx:decide (s∈l)=x) :
 (Instr.lookup 122 (.map (some b)) (.string ⟨s.toArray⟩) false).run Tryz.prog w =.ok (.bool x) w:=
 iV.SC h Tryz.underlying9 Tryz.underlying122 Tryz.underlying4 κ hs (by
  rw[N9];by_cases hm:s∈l
  ·simp only[hm,decide_true] at hx;subst hx;simp[hm]
  ·simp only[hm,decide_false] at hx;subst hx;simp[hm])
theorem J7 {ops:Array Oper} {rest:List Oper} {o:Oper} {a:Act} {Q:Exit→Act→World→Prop} {w:World} {b n:Nat} {l:List (List UInt8)} (h:VP w b n l)
 (hg:o.guard=none) (m x v:Operand) (hop:o.op=Op.mapUpdate 122 m x v) (hn:n < maxLen) (s:List UInt8) (hs:s.length≤maxLen)
 (hm:a.eval m =.map (some b)) (hx:a.eval x =.string ⟨s.toArray⟩) (hv:a.eval v =.bool true)
 (hK:∀w',VP w' b (n + 1) (l ++[s])→w.grownBy w' (some b)→wpList Tryz.prog ops Q rest (a.put o.dst undef) w') :
 wpList Tryz.prog ops Q (o ::rest) a w:=
 wQ h hg m x v hop Tryz.underlying9 Tryz.underlying122 hn s hs (.bool true) (.bool true) hm hx hv (plainElem_bool Tryz.underlying4 true) (fun w' h1 h2=>hK w' (by unfold VP;rw[ZM];exact h1) h2)
def byB (l:List (List UInt8)):Bool:=l.all iF&&decide l.Nodup&&decide (l.length≤8)
theorem adg {l:List (List UInt8)} {k:Nat} {x:List UInt8} (hx:l[k]? = some x) (h:x∈l.take k∨iF x = false):byB l = false:=by
 unfold byB;rcases h with h | h
 ·have:¬l.Nodup:=by
   intro hn;obtain⟨i,hi,rfl⟩:=List.getElem_of_mem h;rw[List.getElem_take] at hx;have hik:i < k:=by simp at hi;omega
   obtain⟨hk,he⟩:=List.getElem?_eq_some_iff.1 hx;exact absurd ((List.getElem_inj hn).1 he) ω
  simp[this]
 ·have:l.all iF=false:=by
   rw[←Bool.not_eq_true,List.all_eq_true];intro ha;rw[ha x (List.mem_of_getElem? hx)] at h;cases h
  simp[this]
def abY (l:List (List UInt8)) (k:Nat):Prop:=(l.take k).all iF=true∧(l.take k).Nodup
theorem abY.next {l:List (List UInt8)} {k:Nat} {x:List UInt8} (h:abY l k) (hx:l[k]? = some x) (h1:¬x∈l.take k) (h2:iF x = true):abY l (k+1):=by
 unfold abY;rw[List.take_add_one,hx];refine⟨by rw[List.all_append,h.1];simp[h2],?_⟩;rw[List.nodup_append];refine⟨h.2,by simp,fun a ha b hb=> ?_⟩;simp at hb;subst hb;exact fun e=>h1 (e ▸ ha)
theorem anB {l:List (List UInt8)} {m:Nat} (hm:l.length=m) (h:abY l m):byB l = decide (m≤8):=by
 unfold abY at h;rw[List.take_of_length_le ω] at h;unfold byB;rw[h.1,decide_eq_true h.2,hm];simp
theorem akB {A:Option Addr} {m c:Nat} {l:List (List UInt8)} (w:World) (hA:bW w 1 encS A m l) (hm:m≤9223372036854775807) (ht:∀x∈l,x.length≤9223372036854775807) :
 Calls Tryz.prog 117 #[.slice A m c] w fun e w'=>e =.returned (.bool (byB l))∧ah w w':=by
 have lJ:=hA.1;obtain⟨R,hR⟩:∃R,R=byB l:=⟨_,rfl⟩;rw[←hR];replace hR:=ζ hR;replace hA:=ζ hA;replace ht:=ζ ht;replace lJ:=ζ lJ;have hmm:= @run_makeMap Tryz.prog;go_enter Tryz.func117,Tryz.ntmps117
 go_wp2;clear hmm;go_loopw [5,9] (fun _ i wr=>∃k:Nat,k≤m∧i =.int .i64 k∧Hid (abY l k)∧Hid (VP wr w.heap.size k (l.take k))∧Hid (ah w wr)) (fun _ i _=>m - (intOf i).toNat)
 case atStart=>exact⟨0,ω,rfl,⟨by simp,by simp⟩,iV.made w _ _ _,(ah.refl w).alloc _⟩
 case round=>
  obtain⟨k,hk,rfl,oh,hM,hG⟩:=hrel;by_cases wB:k<m
  ·obtain⟨bb,off,x,rfl,GV,hx,hcell⟩:=(hA.o.keep hG.o).at_ wB;have c0:wr.cell? ⟨bb,off+k,none⟩=some (.string ⟨x.toArray⟩):=by simpa using hcell 0 _ rfl
   have kY:(k:Int)<(m:Int):=ω;have JB:x.length≤maxLen:=by have:=ht.o x (List.mem_of_getElem? hx);unfold maxLen;omega
   by_cases Ih:x∈l.take k
   ·have hlk:=hM.o.look JB (x:=true) (by simp[Ih]);have aQ:Hid (R=false):=ζ (by rw[hR.o];exact adg hx (.inl Ih));clear hR hcell hx Ih JB hM oh;go_wp2;go_ret;exact⟨aP aQ.o.symm,by
     exact γ
    ⟩
   ·have hlk:=hM.o.look JB (x:=false) (by simp[Ih]);have cN:=uF x;have qP:=fun h=>adg hx (.inr h)
    have Y5:=oh.o.next hx Ih;have xC:l.take (k+1)=l.take k++[x]:=by rw[List.take_add_one,hx];rfl
    replace xC:=ζ xC;generalize iF x = B at *
    replace cN:=ζ cN;clear hcell hx Ih;cases B
    ·have aQ:Hid (R=false):=ζ (by rw[hR.o];exact qP rfl);clear hR qP Y5 hM oh xC JB;go_wp2_with fail;refine (cN.out _).mono ?_;rintro e w1 ⟨rfl,hb⟩;go_wp2;go_ret;exact⟨aP aQ.o.symm,hG.o.trans hb⟩
    ·have ap0:=ζ (Y5 rfl);clear qP Y5 oh;go_wp2_with fail;refine (cN.out _).mono ?_;rintro e w1 ⟨rfl,hb⟩;have V9:=ζ (hM.o.grows hb);have fF:=ζ (hG.o.trans hb);clear hM hG hb hlk c0;go_wp2_with (at_mapUpdate;refine J7 V9.o rfl _ _ _ rfl (by unfold maxLen;omega) x JB rfl rfl rfl ?_;intro w2 Zg hby;(have fQ:=ζ (fF.o.aO hby (fun g hg=>by injection hg with hg;omega)));(replace Zg:=ζ Zg);clear hby V9 fF);go_roundw
     case rel=>exact⟨k+1,ω,ν,ap0,by rw[xC.o];exact Zg.o,fQ.o⟩
     case measure=>exact ψ
  ·obtain rfl:k=m:=ω;have aQ:Hid (R=decide (k≤8)):=ζ (by rw[hR.o];exact anB lJ.o oh.o);clear hR hM oh;go_wp2;go_ret;exact⟨aP (by rw[aQ.o];first | rfl | (congr 1;simp;omega) | (rw[Bool.eq_iff_iff];simp;omega)),hG.o⟩
def FQ (x:Bo):Bool:=iF x.n &&dX x.l.lv
def pG (l:List Bo):Bool:=l.all FQ&&decide (l.map (·.n)).Nodup
def rE (l:List Bo):List (List UInt8):=l.map (·.n)
theorem BM {l:List Bo} {k:Nat} {x:Bo} (hx:l[k]? = some x):(rE l)[k]? = some x.n:=by simp[rE,hx]
theorem NY {l:List Bo} {k:Nat} {x:Bo} (hx:l[k]? = some x) (h:x.n∈(rE l).take k∨FQ x = false):pG l = false:=by
 unfold pG;rcases h with h | h
 ·have yN:=BM hx;have:¬(l.map (·.n)).Nodup:=by
   intro hn;obtain⟨i,hi,he⟩:=List.getElem_of_mem h;rw[List.getElem_take] at he;have hik:i < k:=by simp at hi;omega
   obtain⟨hk,he2⟩:=List.getElem?_eq_some_iff.1 yN;rw[←he2] at he;exact absurd ((List.getElem_inj hn).1 he) ω
  simp[this]
 ·have:l.all FQ=false:=by
   rw[←Bool.not_eq_true,List.all_eq_true];intro ha;rw[ha x (List.mem_of_getElem? hx)] at h;cases h
  simp[this]
def zN (l:List Bo) (k:Nat):Prop:=(l.take k).all FQ=true∧((rE l).take k).Nodup
theorem zN.next {l:List Bo} {k:Nat} {x:Bo} (h:zN l k) (hx:l[k]? = some x) (h1:¬x.n∈(rE l).take k) (h2:FQ x = true):zN l (k+1):=by
 unfold zN;rw[List.take_add_one,List.take_add_one,hx,BM hx];refine⟨by rw[List.all_append,h.1];simp[h2],?_⟩;rw[List.nodup_append];refine⟨h.2,by simp,fun a ha b hb=> ?_⟩;simp at hb;subst hb;exact fun e=>h1 (e ▸ ha)
theorem aaC {l:List Bo} {m:Nat} (hm:l.length=m) (h:zN l m):pG l = true:=by
 unfold zN at h;rw[List.take_of_length_le ω,List.take_of_length_le (by simp[rE];omega)] at h;unfold pG;rw[h.1,decide_eq_true (show (l.map (·.n)).Nodup from h.2)];rfl
theorem aeI {x:iO} (w:World) (hx:x.At w) :
 Calls Tryz.prog 114 #[x.val] w fun e w'=>e =.returned (.bool (pG x.l))∧ah w w':=by
 have hA:=hx.arr;have hm:=hx.le;have ht:=hx.txt;have hlb:=hx.KC;unfold iO.val;clear hx;obtain⟨l,A,m,c⟩:=x;simp only at hA hm ht hlb ⊢;have lJ:=hA.1;obtain⟨R,hR⟩:∃R,R=pG l:=⟨_,rfl⟩;rw[←hR];replace hR:=ζ hR;replace hA:=ζ hA;replace ht:=ζ ht;replace hlb:=ζ hlb;replace lJ:=ζ lJ;have hmm:= @run_makeMap Tryz.prog;go_enter Tryz.func114,Tryz.ntmps114
 go_wp2;clear hmm;go_loopw [5,9] (fun _ i wr=>∃k:Nat,k≤m∧i =.int .i64 k∧Hid (zN l k)∧Hid (VP wr w.heap.size k ((rE l).take k))∧Hid (ah w wr)) (fun _ i _=>m - (intOf i).toNat)
 case atStart=>exact⟨0,ω,rfl,⟨by simp,by simp⟩,iV.made w _ _ _,(ah.refl w).alloc _⟩
 case round=>
  obtain⟨k,hk,rfl,oh,hM,hG⟩:=hrel;by_cases wB:k<m
  ·obtain⟨bb,off,x,rfl,GV,hx,hcell⟩:=(hA.o.keep hG.o).at_ wB;have c0:wr.cell? ⟨bb,off+k*3,none⟩=some (.string ⟨x.n.toArray⟩):=hcell 0 _ rfl;have c1:wr.cell? ⟨bb,off+k*3+1,none⟩=some (.int .i64 x.l.lv):=hcell 1 _ rfl;have c2:wr.cell? ⟨bb,off+k*3+2,none⟩=some (.int .u32 (x.l.c:Int)):=hcell 2 _ rfl;have kY:(k:Int)<(m:Int):=ω;have wu:=List.mem_of_getElem? hx;have JB:x.n.length≤maxLen:=by have:=ht.o x wu;unfold maxLen;omega
   have V9:=ζ ((hM.o.alloc (.cells #[.string ⟨x.n.toArray⟩,.int .i64 x.l.lv,.int .u32 (x.l.c:Int)] 41)));by_cases Ih:x.n∈(rE l).take k
   ·have hlk:=VP.look V9.o JB (x:=true) (by simp[Ih]);have aQ:Hid (R=false):=ζ (by rw[hR.o];exact NY hx (.inl Ih));clear hR hcell hx Ih JB hM V9 oh wu;go_wp2;go_ret;exact⟨aP aQ.o.symm,by
     have:=hG.o;exact γ
    ⟩
   ·have hlk:=VP.look V9.o JB (x:=false) (by simp[Ih]);have cN:=uF x.n;have cR:=fun W=>lX x.l W
    have qP:=fun h=>NY hx (.inr h)
    have Y5:=oh.o.next hx Ih;have xC:(rE l).take (k+1)=(rE l).take k++[x.n]:=by rw[List.take_add_one,BM hx];rfl
    replace xC:=ζ xC;unfold FQ at qP Y5;generalize iF x.n = B at *
    generalize dX x.l.lv=B2 at *
    replace cN:=ζ cN;replace cR:=ζ cR;clear hcell hx Ih wu;have Yb:Hid (ah w (wr.alloc (.cells #[.string ⟨x.n.toArray⟩,.int .i64 x.l.lv,.int .u32 (x.l.c:Int)] 41))):=ζ (hG.o.alloc _);have ba:aF (wr.alloc (.cells #[.string ⟨x.n.toArray⟩,.int .i64 x.l.lv,.int .u32 (x.l.c:Int)] 41)) wr.heap.size 41 #[.string ⟨x.n.toArray⟩,.int .i64 x.l.lv,.int .u32 (x.l.c:Int)]:=aF.new wr _ _;cases B
    ·have aQ:Hid (R=false):=ζ (by rw[hR.o];exact qP σ);clear hR qP Y5 hM V9 oh xC JB ba;go_wp2_with fail;refine (cN.out _).mono ?_;rintro e w1 ⟨rfl,hb⟩;go_wp2;go_ret;exact⟨aP aQ.o.symm,Yb.o.trans hb⟩
    ·cases B2
     ·have aQ:Hid (R=false):=ζ (by rw[hR.o];exact qP σ);clear hR qP Y5 hM V9 oh xC JB;go_wp2_with fail;refine (cN.out _).mono ?_;rintro e w1 ⟨rfl,hb⟩;replace ba:=ba.grows hb;have d1:_ = some (Value.int .i64 x.l.lv):=ba.cell 1;have d2:_ = some (Value.int .u32 (x.l.c:Int)):=ba.cell 2;have sa:=ba.lt;have fF:=ζ (Yb.o.trans hb);clear hb ba Yb;go_wp2_with fail;refine (cR.out _).mono ?_;rintro e w2 ⟨rfl,hb2⟩;go_wp2;go_ret;exact⟨aP aQ.o.symm,fF.o.trans hb2⟩
     ·have ap0:=ζ (Y5 σ);clear qP Y5 oh hM;go_wp2_with fail;refine (cN.out _).mono ?_;rintro e w1 ⟨rfl,hb⟩;replace ba:=ba.grows hb;have d1:_ = some (Value.int .i64 x.l.lv):=ba.cell 1;have d2:_ = some (Value.int .u32 (x.l.c:Int)):=ba.cell 2;have sa:=ba.lt;have fF:=ζ (Yb.o.trans hb);have Zg:=ζ (V9.o.grows hb);clear hb Yb V9 hlk c0 c1 c2;go_wp2_with fail;refine (cR.out _).mono ?_;rintro e w2 ⟨rfl,hb2⟩;replace ba:=ba.grows hb2;have d0:_ = some (Value.string ⟨x.n.toArray⟩):=ba.cell 0;have sa2:=ba.lt;have fQ:=ζ (fF.o.trans hb2);have Zf:=ζ (Zg.o.grows hb2);clear hb2 ba fF Zg d1 d2 sa;go_wp2_with (at_mapUpdate;refine J7 Zf.o rfl _ _ _ rfl (by unfold maxLen;omega) x.n JB rfl rfl rfl ?_;intro w3 hM4 hby;(have qo:=ζ (fQ.o.aO hby (fun g hg=>by injection hg with hg;omega)));(replace hM4:=ζ hM4);clear hby Zf fQ);go_roundw
      case rel=>exact⟨k+1,ω,ν,ap0,by rw[xC.o];exact hM4.o,qo.o⟩
      case measure=>exact ψ
  ·obtain rfl:k=m:=ω;have aQ:Hid (R=true):=ζ (by rw[hR.o];exact aaC lJ.o oh.o);clear hR hM oh;go_wp2;go_ret;exact⟨aP aQ.o.symm,hG.o⟩
end Go.Proofs.YtbhikkgpcmkonaaGreatDoor
namespace Go.Proofs.YtbhikkgpcmkonaaGreatDoor
open Go.RowKit
theorem aiS (g:FuncId) (lb:Array Value) (eg:Enters Tryz.prog g) (p:Bo→Bool) (A:Option Addr) (m c:Nat) (l:List Bo) (w:World) (h:bW w 3 Yt A m l) (hm:m≤9223372036854775807) (hp:xK Tryz.prog g lb als p l w) :
 Calls Tryz.prog 94 #[.slice A m c,.func (.func g) #[] lb] w fun e w'=>e =.returned (.int .i64 (placeOf p l))∧ah w w':=by
 have hlen:=h.1;unfold Enters at eg;obtain⟨R,hR⟩:∃R,R=placeOf p l:=⟨_,rfl⟩;rw[←hR];replace hR:=ζ hR;replace hp:=ζ hp;replace h:=ζ h;go_enter Tryz.func94,Tryz.ntmps94
 go_wp2;go_loopw [5,8] (fun _ i wr=>∃k:Nat,k≤m∧i =.int .i64 k∧Hid (∀j y,j < k→l[j]? = some y→p y = false)∧Hid (ah w wr)) (fun _ i _=>m - (intOf i).toNat)
 case atStart=>exact⟨0,ω,rfl,fun _ _ h=>absurd h ω,ah.refl _⟩
 case round=>
  obtain⟨k,hk,rfl,hall,hg⟩:=hrel;by_cases hlt:k<m
  ·obtain⟨b,off,x,rfl,_,hx,hcell⟩:=(h.o.keep hg.o).at_ hlt;have c0:wr.cell? ⟨b,off+k*3,none⟩=some (.string ⟨x.n.toArray⟩):=hcell 0 _ rfl;have c1:wr.cell? ⟨b,off+k*3+1,none⟩=some (.int .i64 x.l.lv):=hcell 1 _ rfl;have c2:wr.cell? ⟨b,off+k*3+2,none⟩=some (.int .u32 (x.l.c:Int)):=hcell 2 _ rfl;have kY:(k:Int)<(m:Int):=ω;have cI:=hp.o x (List.mem_of_getElem? hx) wr hg.o;unfold als at cI;cases hq:p x with
   | false=>
    rw[hq] at cI;replace cI:=ζ cI;have iY:=ζ (show ∀j y,j < k+1→l[j]? = some y→p y = false from fun j y hj hy=>by
     by_cases hjk:j = k
     ·subst hjk;rw[hx] at hy;rw[←Option.some.inj hy];exact hq
     ·exact hall.o j y ω hy)
    clear hcell hq hx hall hR;go_wp2_with fail;refine (cI.out).mono ?_;rintro e w1 ⟨rfl,hb⟩;have hg1:=ζ (hg.o.trans hb);go_wp2;go_roundw
    case rel=>exact⟨k+1,ω,ν,iY,hg1⟩
    case measure=>exact ψ
   | true=>
    rw[hq] at cI;have aQ:Hid (R=(k:Int)):=ζ (by rw[hR.o];exact iW hx hq hall.o);replace cI:=ζ cI;clear hcell hq hx hall hR;go_wp2_with fail;refine (cI.out).mono ?_;rintro e w1 ⟨rfl,hb⟩;have hg1:=ζ (hg.o.trans hb);go_wp2;go_ret;exact⟨by rw[aQ.o];rfl,hg1.o⟩
  ·obtain rfl:k=m:=ω;have aQ:Hid (R=-1):=ζ (by rw[hR.o];exact iC fun j y hy=>hall.o j y (by have:=(List.getElem?_eq_some_iff.1 hy).1;omega) hy);clear hall hR;go_wp2;go_ret;exact⟨by rw[aQ.o];rfl,hg.o⟩
theorem afM (x:Bo) {n:List UInt8} {g:Nat} (w:World) (hc:w.cell? ⟨g,0,none⟩=some (.string ⟨n.toArray⟩)) :
 Calls Tryz.prog 95 #[als x,.pointer (some ⟨g,0,none⟩)] w fun e w'=>e =.returned (.bool (x.n ==n))∧ah w w':=by
 unfold als;have hb:=World.block_lt_of_cell? w _ hc;simp only at hb;obtain⟨R,hR⟩:∃R,R=(x.n ==n):=⟨_,rfl⟩;rw[←hR];go_enter Tryz.func95,Tryz.ntmps95
 go_wp2;go_ret;refine⟨aP (by first | rfl | simp[hR]),?_⟩;exact γ
theorem afK {l:List Bo} {n:List UInt8} (h:l.any (fun x=>x.n ==n)=false):eu l n = none:=by
 unfold eu;rw[List.find?_eq_none.2 (fun x hx=>by have:=List.any_eq_false.1 h x hx;simpa using this)];rfl
theorem TD {n:List UInt8}:∀{l:List Bo} {i:Nat} {x:Bo},l[i]? = some x→(x.n ==n)=true→(l.take i).any (fun x=>x.n ==n)=false→eu l n = some x.l
 | [],i,x,h,_,_=>by simp at h
 | y ::r,0,x,h,hp,_=>by
  simp at h;subst h;simp only[beq_iff_eq] at hp;simp[eu,List.find?,hp]
 | y ::r,i + 1,x,h,hp,ha=>by
  simp only[List.take_succ_cons,List.any_cons,Bool.or_eq_false_iff] at ha;have h2:=TD (l:=r) (i:=i) (by simpa using h) hp ha.2;unfold eu at h2 ⊢;rw[List.find?_cons_of_neg (by simpa using ha.1)];exact h2
theorem yS {n:List UInt8} {l:List Bo} {y:fZ} (h:eu l n = some y):∃x∈l,x.l = y:=by
 unfold eu at h;obtain⟨x,hx,rfl⟩:=Option.map_eq_some_iff.1 h;exact⟨x,List.mem_of_find?_eq_some hx,rfl⟩
def kN (o:Option fZ):fZ:=o.getD ⟨0,0⟩
theorem yT {A:Option Addr} {m c:Nat} {l:List Bo} {n:List UInt8} (w:World) (h:bW w 3 Yt A m l) (hm:m≤9223372036854775807) :
 Calls Tryz.prog 51 #[.slice A m c,.string ⟨n.toArray⟩] w fun e w'=>e =.returned (.tuple #[.agg #[.int .i64 (kN (eu l n)).lv,.int .u32 ((kN (eu l n)).c:Int)],.bool (eu l n).isSome])∧ah w w':=by
 have hw2:ah w ((w.alloc (.cells #[.string ⟨n.toArray⟩] 9)).alloc (.cells #[.int .i64 0,.int .u32 0] 25)):=((ah.refl w).alloc _).alloc _;have b0:aF ((w.alloc (.cells #[.string ⟨n.toArray⟩] 9)).alloc (.cells #[.int .i64 0,.int .u32 0] 25)) w.heap.size 9 #[.string ⟨n.toArray⟩]:=(aF.new w _ _).alloc _;have b1:aF ((w.alloc (.cells #[.string ⟨n.toArray⟩] 9)).alloc (.cells #[.int .i64 0,.int .u32 0] 25)) (w.heap.size+1) 25 #[.int .i64 0,.int .u32 0]:=aF.kW w _ _ _;have hA2:=h.keep hw2;have cI:=aiS (c:=c) 95 #[.pointer (some ⟨w.heap.size,0,none⟩)] (enters_of Tryz.func95 κ rfl) (fun x=>x.n ==n) A m l _ hA2 hm (fun x _ W hW=>afM x W (hW.cell (b0.cell 0)));rcases zq (fun x:Bo=>x.n ==n) l with⟨h1,h2⟩ | ⟨i,x,h1,h2,h3,h4⟩
 ·rw[h1] at cI;rw[afK h2];replace cI:=ζ cI;replace hw2:=ζ hw2;clear hA2 h1 h2 h b0;go_enter Tryz.func51,Tryz.ntmps51
  go_wp2_with fail;refine (cI.out).mono ?_;rintro e w1 ⟨rfl,hb⟩;have d0:=(b1.grows hb).cell 0;have d1:=(b1.grows hb).cell 1;have f0:=(b1.grows hb).frozen 0;have f1:=(b1.grows hb).frozen 1;have s1:=(b1.grows hb).lt;have hg:=hw2.o.trans hb;have hg0:ah w w1:=hg;clear cI hw2;go_wp2_with fail;refine bodyPost_ret (v:=.tuple #[.agg #[.int .i64 0,.int .u32 0],.bool false]) ?_ rfl ⟨rfl,?_⟩
  ·simp[results,Tryz.results51,go_sem,d0,d1]
  ·exact γ
 ·rw[h1] at cI;rw[TD h2 h3 h4];have hi:i < m:=by have:=(List.getElem?_eq_some_iff.1 h2).1;have:=h.1;omega
  replace cI:=ζ cI;replace hw2:=ζ hw2;replace hA2:=ζ hA2;clear h1 h3 h4 h b0;go_enter Tryz.func51,Tryz.ntmps51
  go_wp2_with fail;refine (cI.out).mono ?_;rintro e w1 ⟨rfl,hb⟩;obtain⟨b,off,x',rfl,_,hx,hcell⟩:=(hA2.o.keep hb).at_ hi;obtain rfl:x'=x:=Option.some.inj (hx.symm.trans h2);have c1:w1.cell? ⟨b,off+i * 3+1,none⟩=some (.int .i64 x'.l.lv):=hcell 1 _ rfl;have c2:w1.cell? ⟨b,off+i * 3+2,none⟩=some (.int .u32 (x'.l.c:Int)):=hcell 2 _ rfl;have d0:=(b1.grows hb).cell 0;have d1:=(b1.grows hb).cell 1;have f0:=(b1.grows hb).frozen 0;have f1:=(b1.grows hb).frozen 1;have s1:=(b1.grows hb).lt;have hg:=hw2.o.trans hb;have hg0:ah w w1:=hg;clear cI hw2 hA2 hcell hx h2;go_wp2_with fail;refine bodyPost_ret (v:=.tuple #[.agg #[.int .i64 x'.l.lv,.int .u32 (x'.l.c:Int)],.bool true]) ?_ rfl ⟨rfl,?_⟩
  ·simp[results,Tryz.results51,go_sem,d0,d1]
  ·exact γ
end Go.Proofs.YtbhikkgpcmkonaaGreatDoor
