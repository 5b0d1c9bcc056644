/- Parts: RowB Txt RteP Dat FldA FldC MapS PolA Shelf LibR Sieve PolD SlQ SlM PolE SlN PolB -/
import Derived.Test.YtbhikkgpcmkonaaGreatDoorEn0
import Derived.Laws.IdiomStrings
import Derived.Lib.AppendStr
import Derived.ArgAppend
import Derived.Test.YtbhikkgpcmkonaaGreatDoorEn4
import Derived.Shelf.GgClosure.StringsIndexFunc
import Derived.Test.YtbhikkgpcmkonaaGreatDoorEn1
import Derived.Test.YtbhikkgpcmkonaaGreatDoorEn3
import Derived.Test.YtbhikkgpcmkonaaGreatDoorEn2
import Derived.PlainAid
import Derived.Maps.OwnSet
import Derived.Maps.OwnOps
import Derived.Shelf.GgClosure.StringsIndexFuncTop
import Derived.Shelf.LaysM
import Derived.Shelf.Strconv.Itoa3
import Derived.Test.YtbhikkgpcmkonaaGreatDoorProg
import Derived.Shelf.Abstract
import Derived.Lib.SliceRun
set_option maxRecDepth 100000
set_option maxHeartbeats 12800000
namespace Go.Proofs.YtbhikkgpcmkonaaGreatDoor
open Go.RowKit
def iy (w:World) (base:Nat) (v:Value) (xs:List Nat):Prop:=
 (v =.slice none 0 0∧xs=[])∨∃g cap cur fz,v =.slice (some ⟨g,0,none⟩) xs.length cap∧base≤g∧w.heap[g]? = some (.cells cur 5 fz)∧(∀j,j < cur.size→(decide (fz.1≤j)&&decide (j < fz.2))=false)∧
  xs.length≤cap∧cap≤maxLen∧cur.size=cap∧∀i (h:i < xs.length),cur[i]? = some (.int .u8 ((xs[i]:Nat):Int))
section
variable {w w':World} {base:Nat} {v:Value} {xs ys:List Nat}
theorem iy.jA (w:World) (base:Nat):iy w base (.slice none 0 0) []:=.inl ⟨rfl,rfl⟩
theorem iy.grows (h:iy w base v xs) (hg:ah w w'):iy w' base v xs:=by
 rcases h with h | ⟨g,cap,cur,fz,hv,hb,hh,r⟩
 ·exact .inl h
 ·exact .inr ⟨g,cap,cur,fz,hv,hb,(hg.below.block g (Array.getElem?_eq_some_iff.1 hh).1).trans hh,r⟩
theorem iy.alloc (h:iy w base v xs) (o:Obj):iy (w.alloc o) base v xs:=h.grows ((ah.refl w).alloc o)
theorem iy.fH (h:iy w base v xs):∀j,v.ownBlock=some j→base≤j:=fun j hj=>by
 rcases h with⟨h2,_⟩ | ⟨g,cap,cur,fz,hv,hb,_⟩
 ·rw[h2] at hj;cases hj
 ·rw[hv] at hj;simp only[Value.ownBlock,Option.some.injEq] at hj;omega
theorem iy.yE (h:Own w base 5 1 h_ v xs):iy w base v xs:=by
 have h2:=h;rcases h.2 with⟨h3,h4⟩ | ⟨g,cap,cur,hv,hb,hh,_⟩
 ·exact .inl ⟨h3,List.eq_nil_of_length_eq_zero h4⟩
 ·rw[hv] at h2;obtain⟨cur',_,hb',hh',zF,hcm,hcs,hc⟩:=h2.uH hkB;refine .inr ⟨g,cap,cur',(0,0),hv,hb',hh',fun j _=>by simp,zF,hcm,ω,fun i hi=> ?_⟩;have:=hc i hi 0 ω;simpa[h_] using this
theorem iy.arr (h:iy w base v xs):∃A c,v =.slice A xs.length c∧xs.length≤c∧c≤maxLen∧cu w 1 h_ A xs.length xs:=by
 rcases h with⟨rfl,rfl⟩ | ⟨g,cap,cur,fz,rfl,hb,hh,hfz,zF,hcm,hcs,hc⟩
 ·exact⟨none,0,rfl,by simp,by simp[maxLen],cu.jA⟩
 ·refine⟨_,_,rfl,zF,hcm,rfl,fun _=>⟨g,0,rfl,(Array.getElem?_eq_some_iff.1 hh).1,fun i hi j u hu=> ?_⟩⟩;have hj:j = 0:=by have:=(List.getElem?_eq_some_iff.1 hu).1;simp[h_] at this;omega
  subst hj;simp only[World.cell?,hh];have:=hc i hi;simp only[h_,List.getElem?_cons_zero,Option.some.injEq] at hu;subst hu;simpa using this
theorem yT (g:Nat) (e:TypeId) (fz:Nat×Nat):∀(vs:List Value) (o:Nat) (w:World) (cur:Array Value),w.heap[g]? = some (.cells cur e fz)→o + vs.length≤cur.size→
 ∃cur',(w.setCells g o vs).heap[g]? = some (.cells cur' e fz)∧cur'.size=cur.size∧∀t:Nat,cur'[t]? = if o≤t∧t < o + vs.length then vs[t - o]? else cur[t]?
 | [],o,w,cur,h,_=>⟨cur,h,rfl,fun t=>by rw[if_neg σ]⟩
 | v ::r,o,w,cur,h,hl=>by
  simp only[List.length_cons] at hl;have h1:(w.setCell ⟨g,o,none⟩ v).heap[g]? = some (.cells (cur.setIfInBounds o v) e fz):=by
   simp[World.setCell,Array.getElem?_modify,h]
  obtain⟨cur',h2,h3,h4⟩:=yT g e fz r (o + 1) _ _ h1 (by simp;omega);refine⟨cur',h2,by simpa using h3,fun t=> ?_⟩;rw[h4 t];by_cases ht:t = o
  ·subst ht;rw[if_neg ω,if_pos σ,Array.getElem?_setIfInBounds];simp;omega
  ·by_cases h5:o + 1≤t∧t < o + 1+r.length
   ·rw[if_pos h5,if_pos (by simp;omega),show t - o = (t - (o + 1))+1 by omega];simp
   ·rw[if_neg h5,if_neg (by simp;omega)];simp[Ne.symm ht]
theorem vI (g:Nat):∀(vs:List Value) (o:Nat) (w:World),w.grownBy (w.setCells g o vs) (some g)
 | [],_,w=>World.grownBy.refl w _
 | v ::r,o,w=>(aj w ⟨g,o,none⟩ v).trans (vI g r (o + 1) _)
def fD (ys:List Nat):List Value:=ys.map fun (x:Nat)=>Value.int .u8 (x:Int)
theorem iy.room {g cap:Nat} (h:iy w base (.slice (some ⟨g,0,none⟩) xs.length cap) xs) (hroom:xs.length+ys.length≤cap) :
 iy (w.setCells g xs.length (fD ys)) base (.slice (some ⟨g,0,none⟩) (xs.length+ys.length) cap) (xs++ys)∧(∀j,j < (fD ys).length→(w.cell? ⟨g,xs.length+j,none⟩).isSome=true)∧∀j,j < (fD ys).length→w.frozen? ⟨g,xs.length+j,none⟩=false:=by
 have rZ:(fD ys).length=ys.length:=by simp[fD]
 rcases h with⟨h,_⟩ | ⟨g',cap',cur,fz,hv,hb,hh,hfz,zF,hcm,hcs,hc⟩
 ·cases h
 simp only[Value.slice.injEq,Option.some.injEq,Addr.mk.injEq,and_true,true_and] at hv;obtain⟨rfl,rfl⟩:=hv;obtain⟨cur',h1,h2,h3⟩:=yT g 5 fz (fD ys) xs.length w cur hh (by rw[rZ];omega);refine⟨.inr ⟨g,cap,cur',fz,by rw[List.length_append],hb,h1,by rw[h2];exact hfz,by rw[List.length_append];exact hroom,hcm,ω,fun i hi=> ?_⟩,fun j hj=> ?_,fun j hj=> ?_⟩
 ·rw[h3];by_cases hi2:i < xs.length
  ·rw[if_neg ω,hc i hi2,List.getElem_append_left hi2]
  ·rw[List.length_append] at hi;rw[if_pos (by rw[rZ];omega),List.getElem_append_right ω];simp[fD,show i - xs.length<ys.length by omega]
 ·have:xs.length+j < cur.size:=ω;simp[World.cell?,hh,this]
 ·have:=hfz (xs.length+j) ω;simpa[World.frozen?,hh] using this
theorem X6 (ys:List Nat):bM h_ ys=fD ys:=by
 unfold bM fD h_;induction ys with
 | nil=>rfl
 | cons y ys ih=>simp only[List.flatMap_cons,List.map_cons,ih];rfl
theorem KE (ys:List Nat):∀u∈fD ys,u.oneCell'=true:=by
 intro u hu;simp only[fD,List.mem_map] at hu;obtain⟨x,_,rfl⟩:=hu;rfl
theorem SI {ad:Addr} {m:Nat} (jT:cu w 1 h_ (some ad) m ys):∀j u,(fD ys)[j]? = some u→w.cell? (ad.add j)=some u:=by
 intro j u hu;have hj:j < ys.length:=by have:=(List.getElem?_eq_some_iff.1 hu).1;simpa[fD] using this
 obtain⟨b,off,e1,_,hc⟩:=jT.2 (by rw[←jT.1];omega);cases e1
 have h3:=hc j hj 0 u (by rw[←hu];simp[fD,h_,hj]);have:(⟨b,off,none⟩:Addr).add j = ⟨b,off+j,none⟩:=by unfold Addr.add;by_cases hj:j = 0 <;> simp[hj]
 rw[this];simpa using h3
theorem iy.Ai {base' n:Nat} {v':Value} {zs:List Nat} (h:w.ownsRow base' 5 1 v' n (fD zs)) (hb:base≤base'):iy w base v' zs:=by
 have hn:n = zs.length:=by have:=h.1;simp[fD] at this;omega
 subst hn;rw[←X6] at h;have h2:Own w base' 5 1 h_ v' zs:=h;rcases iy.yE h2 with h | ⟨g,cap,cur,fz,hv,hb',r⟩
 ·exact .inl h
 ·exact .inr ⟨g,cap,cur,fz,hv,Nat.le_trans hb hb',r⟩
theorem Y9:∃i,Tryz.prog.info? 5=some i∧i.zero=some (.int .u8 0)∧i.size=1∧i.bytes=1:=by
 have h:(Tryz.prog.info? 5).map (fun i=>(i.zero,i.size,i.bytes))=some (some (.int .u8 0),1,1):=by kernel_rfl
 cases hi:Tryz.prog.info? 5 with
 | none=>rw[hi] at h;cases h
 | some i=>
  rw[hi] at h;simp only[Option.map_some,Option.some.injEq,Prod.mk.injEq] at h;exact⟨i,rfl,h.1,h.2.1,h.2.2⟩
theorem iy.Yf (h:iy w base v xs) {A:Option Addr} {m c:Nat} (jT:cu w 1 h_ A m ys) (hbase:base≤w.heap.size) (hlen:xs.length+m≤1099511700000) (ty:TypeId) :
 ∃v' w',(Builtin.append_ #[112,112] ty #[v,.slice A m c]).run Tryz.prog w =.ok v' w'∧iy w' base v' (xs++ys)∧w.grownBy w' v.ownBlock:=by
 obtain⟨i,hi,hz,hsz,hby⟩:=Y9;have ht:=Tryz.underlying112;have nM:=jT.1;have rZ:(fD ys).length=m * i.size:=by rw[hsz];simp[fD,nM]
 have h63:xs.length+m≤maxLen:=by unfold maxLen;omega
 cases A with
 | none=>
  have hm:m = 0:=by
   rcases Nat.eq_zero_or_pos m with h0 | h0
   ·exact h0
   ·obtain⟨b,off,h,_⟩:=jT.2 h0;cases h
  subst hm;obtain rfl:ys=[]:=List.eq_nil_of_length_eq_zero nM;refine⟨v,w,?_,by rw[List.append_nil];exact h,World.grownBy.refl w _⟩;rcases h with⟨rfl,rfl⟩ | ⟨g,cap,cur,fz,rfl,_,_,_,zF,_⟩
  ·simp[Builtin.append_,run_underlying ht,sizeOf,typeInfo,hi,Builtin.lenOf,Builtin.firstCells]
  ·simp[Builtin.append_,run_underlying ht,sizeOf,typeInfo,hi,Builtin.lenOf,Builtin.firstCells,zF,storeCells]
 | some ad=>
  have hnews:=SI jT;have h0:=h;rcases h with⟨rfl,rfl⟩ | ⟨g,cap,cur,fz,rfl,hb,hh,hfz,zF,hcm,hcs,hc⟩
  ·obtain⟨v',w',hr,h2,h3,_,_⟩:=run_append_own_at (P:=Tryz.prog) w base 112 ty 5 i (.int .u8 0) 1 1 ht hi hz hsz hby rfl ω (.slice none 0 0) 0 [] (World.ownsRow_nil w base _ _) ad m c (fD ys) (by rw[rZ,hsz]) hnews (KE ys) (by simpa using h63) (by simp at hlen;omega) hbase;exact⟨v',w',hr,iy.Ai (by simpa using h2) (Nat.le_refl _),h3⟩
  ·by_cases hroom:xs.length+m≤cap
   ·obtain⟨hO,hcell,atK⟩:=iy.room (ys:=ys) h0 ω;have hr:=run_append_room_cells (P:=Tryz.prog) w 112 ty 5 i ht hi g 0 xs.length cap ad m c (fD ys) rZ hnews (KE ys) hroom (fun j hj=>by rw[hsz];have h9:=hcell j hj;rw[Nat.mul_one];first | exact h9 | (simp only[Nat.zero_add];exact h9)) (fun j hj=>by rw[hsz];have h9:=atK j hj;rw[Nat.mul_one];first | exact h9 | (simp only[Nat.zero_add];exact h9));rw[hsz,Nat.mul_one,Nat.zero_add] at hr;rw[nM] at hO;exact⟨_,_,hr,hO,vI g _ _ _⟩
   ·have holds:∀j u,(fD xs)[j]? = some u→w.cell? ((⟨g,0,none⟩:Addr).add j)=some u:=by
     obtain⟨A',c',hv,_,_,hA⟩:=h0.arr;cases hv
     exact SI hA
    obtain⟨v',w',hr,h2,h3⟩:=run_append_arg_grows (P:=Tryz.prog) w 112 ty 5 i (.int .u8 0) 1 1 ht hi hz hsz hby rfl ω ⟨g,0,none⟩ xs.length cap (fD xs) (by simp[fD]) holds ad m c (fD ys) (by rw[rZ,hsz]) hnews ω h63 ω;refine⟨v',w',hr,iy.Ai (n:=xs.length+m) (by rw[show fD (xs++ys)=fD xs++fD ys by simp[fD]];exact h2) hbase,h3.but _⟩
def tX (s:ByteArray):List Nat:=s.data.toList.map (·.toNat)
theorem kH (s:ByteArray):(tX s).length=s.size:=by
 unfold tX;rw[List.length_map,Array.length_toList];rfl
theorem iy.ahf (s:ByteArray) (w:World) (hs:s.size≤1099511627776) :
 ∃v w',(convert 9 112 (.string s)).run Tryz.prog w =.ok v w'∧iy w' w.heap.size v (tX s)∧ah w w':=by
 have hr:=run_bytes_of_string (P:=Tryz.prog) w 9 112 5 s Tryz.underlying9 Tryz.underlying112 Tryz.underlying5;have sS:=grownCap_ge w s.size 0 5;have hcm:=grownCap_le_maxLen w s.size 0 5 (by unfold maxLen;omega);have hsz:(bytesRow s (grownCap w s.size 0 5)).size=grownCap w s.size 0 5:=by
  unfold bytesRow;rw[Array.size_append,Array.size_map,Array.size_replicate];have:s.data.size=s.size:=rfl;omega
 refine⟨_,_,hr,.inr ⟨w.heap.size,_,_,_,by rw[kH],Nat.le_refl _,heap_alloc_new w.drew _,fun j hj=> ?_,by rw[kH];exact sS,hcm,hsz,fun i hi=> ?_⟩,(ah.refl w).drew.alloc _⟩
 ·simp;omega
 ·rw[kH] at hi;rw[bytesRow_at s _ i hi];simp[tX]
end
end Go.Proofs.YtbhikkgpcmkonaaGreatDoor
namespace Go.Proofs.YtbhikkgpcmkonaaGreatDoor
theorem Ky {s:ByteArray} {i:Nat} {b:UInt8} (hb:s.get! i = b) (h:b.toNat<128):Utf8.decode s i = (b.toNat,1):=by
 unfold Utf8.decode;simp only[Nat.add_zero,hb,h,if_true]
theorem decode_high {s:ByteArray} {i:Nat} {b:UInt8} (hb:s.get! i = b) (h:128≤b.toNat):128≤(Utf8.decode s i).1:=by
 unfold Utf8.decode;have h':¬b.toNat<128:=ω;simp only[Nat.add_zero,hb,h',if_false,Utf8.runeError];split
 ·split <;> (try simp) <;> omega
 ·split
  ·split
   ·rename_i hc;simp only[Bool.and_eq_true,decide_eq_true_eq] at hc;show 128≤_;omega
   ·simp
  ·split
   ·split
    ·rename_i hc;simp only[Bool.and_eq_true,decide_eq_true_eq] at hc;show 128≤_;omega
    ·simp
   ·simp
theorem Na {p:Nat→Bool} {q:UInt8→Bool} (h1:∀b:UInt8,b.toNat<128→p b.toNat=q b) (h2:∀r,128≤r→p r = true) (h3:∀b:UInt8,128≤b.toNat→q b = true) (s:ByteArray) :
 ∀(f pos:Nat),s.size≤pos+f→decide (0≤Lib.idxFuncFrom p true s f pos)=(s.data.toList.drop pos).any q:=by
 intro f;induction f with
 | zero=>
  intro pos hf;rw[List.drop_of_length_le (by rw[Array.length_toList];exact hf)];rfl
 | succ f ih=>
  intro pos hf;unfold Lib.idxFuncFrom;by_cases hp:pos<s.size
  ·rw[if_pos hp];have hl:pos<s.data.toList.length:=by rw[Array.length_toList];exact hp
   rw[List.drop_eq_getElem_cons hl,List.any_cons];have hg:s.get! pos=s.data.toList[pos]:=by
    rw[Array.getElem_toList];show s.data[pos]! = _
    exact getElem!_pos s.data pos hp
   by_cases hb:(s.get! pos).toNat<128
   ·rw[Ky rfl hb,h1 _ hb,hg];cases hq:q s.data.toList[pos]
    ·simp only[Bool.false_eq_true,if_false,Bool.false_or];exact ih (pos+1) ω
    ·simp
   ·have ae5:128≤(s.get! pos).toNat:=ω;rw[h2 _ (decode_high rfl ae5),←hg,h3 _ ae5];simp
  ·rw[if_neg hp,List.drop_of_length_le (by rw[Array.length_toList];show s.size≤pos;omega)];rfl
theorem aaz {p:Nat→Bool} {q:UInt8→Bool} (h1:∀b:UInt8,b.toNat<128→p b.toNat=q b) (h2:∀r,128≤r→p r = true) (h3:∀b:UInt8,128≤b.toNat→q b = true) (s:ByteArray) :
 decide (0≤Lib.idxFunc p true s)=s.data.toList.any q:=Na h1 h2 h3 s s.size 0 ω
def akB (r:Nat):Bool:=decide (97≤r)&&decide (r≤122)
def X4 (r:Nat):Bool:=decide (48≤r)&&decide (r≤57)
def MX (r:Nat):Bool:= !(decide (r = 95))&& !(akB r)&& !(X4 r)
def ac9 (b:UInt8):Bool:= !(MX b.toNat)
def fP (s:List UInt8):Bool:=decide (1≤s.length)&&decide (s.length≤12)&& !(X4 (s.headD 0).toNat)&&s.all ac9
theorem Oj {r:Nat} (h:128≤r):MX r = true:=by
 unfold MX akB X4;simp;omega
theorem adG (s:ByteArray):(!(decide (0≤Lib.idxFunc MX true s)))=s.data.toList.all ac9:=by
 rw[aaz (q:=fun b=>MX b.toNat) (fun _ _=>rfl) (fun _ h=>Oj h) (fun _ h=>Oj h) s,List.not_any_eq_all_not];rfl
structure bK where
 n:List UInt8
 v:List UInt8
deriving DecidableEq
structure xZ where
 n:List UInt8
 l:jU
deriving DecidableEq
structure d_ where
 n:List UInt8
 op:Int
 v:List UInt8
deriving DecidableEq
structure Rte where
 r:List UInt8
 eY:List (List UInt8)
 wait:Int
 every:Int
 again:Int
 wh:List d_
deriving DecidableEq
structure Inh where
 eY:List (List UInt8)
 l:jU
 from_:List d_
 wh:List d_
deriving DecidableEq
structure jo where
 sources:List xZ
 receivers:List xZ
 ako:List xZ
 raises:List xZ
 routes:List Rte
 pO:List Inh
structure jq where
 src:List UInt8
 fs:List bK
 l:jU
 f:Int
 t:Int
structure kS where
 route:Nat
 eY:List bK
 key:Nat
 ids:List Nat
deriving DecidableEq
def dY (l:List xZ) (n:List UInt8):Option jU:=(l.find? fun x=>decide (x.n = n)).map (·.l)
def jQ (p:jo) (n:List UInt8) (l:jU):jU:=match dY p.raises n with
 | some r=>xM l r
 | none=>l
def mJ (p:jo) (fs:List bK) (l tO:jU):List bK:=fs.filter fun f=>jB (jQ p f.n l) tO
def jK:List UInt8→List UInt8→Bool
 | [],[]=>false
 | [],_ ::_=>true
 | _ ::_,[]=>false
 | a ::x,b ::y=>if a = b then jK x y else decide (a.toNat<b.toNat)
def xu:List bK→Bool
 | []=>true
 | [_]=>true
 | a ::b ::l=>jK a.n b.n &&xu (b ::l)
def iw (l:List bK):Bool:=(l.all fun f=>fP f.n &&decide (f.v.length≤200))&&xu l &&decide (l.length≤8)
def dP:Int:=1099511627776
def bJ (a:jq):Bool:=fP a.src&&decide (0<a.fs.length)&&iw a.fs&&dS a.l.lv&&decide (0≤a.f∧a.f≤dP)&&decide (a.t = 0∨(a.f < a.t∧a.t≤dP))
def dV (a:jq) (now:Int):Bool:=decide (a.f≤now)&&(decide (a.t = 0)||decide (now<a.t))
def kC (p:jo) (a:jq) (tO:jU):Option jq:=if (mJ p a.fs a.l tO).length=0∨jB a.l tO=false then none else some {a with fs:=mJ p a.fs a.l tO}
def jP (p:jo) (rec:List UInt8) (a:jq) (now:Int):Option jq:=match dY p.receivers rec with
 | none=>none
 | some tO=>if bJ a &&dV a now then kC p a tO else none
def uy (l:List bK) (n:List UInt8):List UInt8:=((l.find? fun x=>decide (x.n = n)).map (·.v)).getD []
def g_ (l:List bK) (names:List (List UInt8)):List bK:=l.filter fun f=>decide (f.n∈names)
def oh (f:bK):List UInt8:=f.n ++61::(f.v ++[0])
def mP (l:List UInt8):List Nat:=l.map (·.toNat)
end Go.Proofs.YtbhikkgpcmkonaaGreatDoor
namespace Go.Proofs.YtbhikkgpcmkonaaGreatDoor
open Go.RowKit
def sv (s:List UInt8):Value:=.string ⟨s.toArray⟩
def eu (x:bK):List Value:=[.string ⟨x.n.toArray⟩,.string ⟨x.v.toArray⟩]
theorem GN (x:bK):(eu x).length=2:=rfl
theorem aoi (x:bK):∀u∈eu x,u.oneCell'=true:=by intro u hu;simp[eu] at hu;rcases hu with rfl | rfl <;> rfl
theorem avc:eX Tryz.prog 22 88 2 32:=eX.mk' (z:=.agg #[.string ⟨#[]⟩,.string ⟨#[]⟩]) Tryz.underlying22 κ rfl ω
theorem wJ (l:List UInt8):tX ⟨l.toArray⟩=mP l:=rfl
theorem bsize (l:List UInt8):(⟨l.toArray⟩:ByteArray).size=l.length:=by show l.toArray.size=_;simp
theorem adD (a:List UInt8):(mP a).length=a.length:=List.length_map _
theorem IX (a:List UInt8):∀x∈mP a,x < 256:=by
 intro x hx;simp only[mP,List.mem_map] at hx;obtain⟨b,_,rfl⟩:=hx;exact b.toNat_lt
theorem Jj {P:Program} {ops:Array Oper} {rest:List Oper} {o:Oper} {ac:Act} {w w':World} {v:Value} {Q:Exit→Act→World→Prop} (hgd:o.guard=none) (hr:(execOp ac.eval o).run P w =.ok (.value v) w')
 (hK:wpList P ops Q rest (ac.put o.dst v) w'):wpList P ops Q (o ::rest) ac w:=
 wpList_step fun K' hk=>by
  rw[if_pos (by simp[Region.wanted,hgd])];unfold Oper.wp;rw[hr];exact hk _ _ hK
theorem Un {P:Program} {o:Oper} {ac:Act} {w w':World} {t u:TypeId} {v vy v':Value} (s y:Operand) (ho:o.op=.call {callee:=.builtin .append,args:= #[s,y],argTypes:= #[t,u]})
 (hs:ac.eval s = v) (hy:ac.eval y = vy) (hr:(Builtin.append_ #[t,u] o.type #[v,vy]).run P w =.ok v' w'):(execOp ac.eval o).run P w =.ok (.value v') w':=by
 unfold execOp;simp only[ho,resolve,invoke,builtin,Sem.run_bind,Sem.run_pure,Result.andThen_ok,List.map_toArray,List.map_cons,List.map_nil,hs,hy,hr]
theorem QW {P:Program} {o:Oper} {ac:Act} {w w':World} {t u:TypeId} {vx v':Value} (x:Operand) (ho:o.op=.convert t u x) (hx:ac.eval x = vx) (hr:(convert t u vx).run P w =.ok v' w') :
 (execOp ac.eval o).run P w =.ok (.value v') w':=by
 unfold execOp;simp only[ho,Sem.run_bind,Sem.run_pure,Result.andThen_ok,hx,hr]
theorem yj {ops:Array Oper} {rest:List Oper} {o:Oper} {ac:Act} {w:World} {Q:Exit→Act→World→Prop} {base:Nat} {v:Value} {xs ys:List Nat} {A:Option Addr} {m c:Nat} (hgd:o.guard=none) (s y:Operand)
 (ho:o.op=.call {callee:=.builtin .append,args:= #[s,y],argTypes:= #[112,112]}) (hs:ac.eval s = v) (hy:ac.eval y =.slice A m c) (h:iy w base v xs) (jT:cu w 1 h_ A m ys) (hbase:base≤w.heap.size) (hlen:xs.length+m≤1099511700000)
 (hK:∀v' w',iy w' base v' (xs++ys)→w.grownBy w' v.ownBlock→wpList Tryz.prog ops Q rest (ac.put o.dst v') w'):wpList Tryz.prog ops Q (o ::rest) ac w:=by
 obtain⟨v',w',hr,h1,h2⟩:=h.Yf jT hbase hlen o.type;exact Jj hgd (Un s y ho hs hy hr) (hK v' w' h1 h2)
theorem lU {ops:Array Oper} {rest:List Oper} {o:Oper} {ac:Act} {w:World} {Q:Exit→Act→World→Prop} {t:ByteArray} (hgd:o.guard=none) (x:Operand)
 (ho:o.op=.convert 9 112 x) (hx:ac.eval x =.string t) (hlen:t.size≤1099511627776)
 (hK:∀v' w',iy w' w.heap.size v' (tX t)→ah w w'→wpList Tryz.prog ops Q rest (ac.put o.dst v') w'):wpList Tryz.prog ops Q (o ::rest) ac w:=by
 obtain⟨v',w',hr,h1,h2⟩:=iy.ahf t w hlen;exact Jj hgd (QW x ho hx hr) (hK v' w' h1 h2)
theorem iy.bH {w:World} {base base':Nat} {v:Value} {xs:List Nat} (h:iy w base v xs) (hb:base'≤base):iy w base' v xs:=by
 rcases h with h | ⟨g,cap,cur,fz,hv,hb',r⟩
 ·exact .inl h
 ·exact .inr ⟨g,cap,cur,fz,hv,Nat.le_trans hb hb',r⟩
theorem cu.al2 {w:World} {g:Nat} {t:TypeId} {x y:Nat} (h:aF w g t #[.int .u8 (x:Int),.int .u8 (y:Int)]):cu w 1 h_ (some ⟨g,0,none⟩) 2 [x,y]:=by
 refine⟨rfl,fun _=>⟨g,0,rfl,h.lt,fun i hi j u hu=> ?_⟩⟩;have hj:j = 0:=by have:=(List.getElem?_eq_some_iff.1 hu).1;simp[h_] at this;omega
 subst hj;rw[h.cell];have hi2:i < 2:=hi;match i,hi2 with
 | 0,_=>exact hu
 | 1,_=>exact hu
end Go.Proofs.YtbhikkgpcmkonaaGreatDoor
namespace Go.Proofs.YtbhikkgpcmkonaaGreatDoor
open Go.RowKit Go.PlainAid
theorem aqG (S:ByteArray) {k:Nat} {x:UInt8} (h:S.data.toList[k]? = some x):bt S k=(x.toNat:Int):=by
 have hk:k<S.size:=by
  have:=(List.getElem?_eq_some_iff.1 h).1;rw[Array.length_toList] at this;exact this
 rw[←get_bt S k hk];have h1:=(List.getElem?_eq_some_iff.1 h).2;congr 2
end Go.Proofs.YtbhikkgpcmkonaaGreatDoor
namespace Go.Proofs.YtbhikkgpcmkonaaGreatDoor
open Go.RowKit
theorem Zc:∀{l:List bK},xu l = true→∀{j:Nat} {e f:bK},l[j]? = some e→l[j + 1]? = some f→jK e.n f.n = true
 | [],_,_,_,_,h,_=>by simp at h
 | [_],_,_,_,_,_,h=>by simp at h
 | a ::b ::l,hl,j,e,f,he,hf=>by
  have h2:jK a.n b.n = true∧xu (b ::l)=true:=by simpa[xu] using hl
  cases j with
  | zero=>simp at he hf;subst he hf;exact h2.1
  | succ j=>exact Zc h2.2 (by simpa using he) (by simpa using hf)
theorem Zb:∀{l:List bK},(∀(j:Nat) (e f:bK),l[j]? = some e→l[j + 1]? = some f→jK e.n f.n = true)→xu l = true
 | [],_=>rfl
 | [_],_=>rfl
 | a ::b ::l,h=>by
  have h1:=h 0 a b rfl rfl;have h2:=Zb (l:=b ::l) (fun j e f he hf=>h (j + 1) e f (by simpa using he) (by simpa using hf));show (jK a.n b.n &&xu (b ::l))=true
  rw[h1,h2];rfl
def Ug (f:bK):Bool:=fP f.n &&decide (f.v.length≤200)
theorem G6 {l:List bK} {k:Nat} {f:bK} (hf:l[k]? = some f) (h:Ug f = false):iw l = false:=by
 have hall:l.all (fun f=>fP f.n &&decide (f.v.length≤200))=false:=by
  rw[←Bool.not_eq_true,List.all_eq_true];intro hh;have:=hh f (List.mem_of_getElem? hf);unfold Ug at h;rw[h] at this;cases this
 unfold iw;rw[hall];rfl
theorem Um {l:List bK} {k:Nat} {e f:bK} (he:l[k]? = some e) (hf:l[k+1]? = some f) (h:jK e.n f.n = false):iw l = false:=by
 have hall:xu l = false:=by
  rw[←Bool.not_eq_true];intro hh;rw[Zc hh he hf] at h;cases h
 unfold iw;rw[hall];simp
def xB (l:List bK) (k:Nat):Prop:=(∀j f,j < k→l[j]? = some f→Ug f = true)∧(∀j e f,j + 1<k→l[j]? = some e→l[j + 1]? = some f→jK e.n f.n = true)
theorem xB.succ {l:List bK} {k:Nat} {f:bK} (h:xB l k) (hf:l[k]? = some f) (hb:Ug f = true) (ha:∀e,0<k→l[k-1]? = some e→jK e.n f.n = true):xB l (k+1):=by
 refine⟨fun j g hj hg=> ?_,fun j e g hj he hg=> ?_⟩
 ·by_cases hjk:j = k
  ·subst hjk;rw[hf] at hg;rw[←Option.some.inj hg];exact hb
  ·exact h.1 j g ω hg
 ·by_cases hjk:j + 1=k
  ·subst hjk;rw[hf] at hg;rw[←Option.some.inj hg];exact ha e ω (by simpa using he)
  ·exact h.2 j e g ω he hg
theorem xB.all {l:List bK} (h:xB l l.length):iw l = decide (l.length≤8):=by
 have h1:l.all (fun f=>fP f.n &&decide (f.v.length≤200))=true:=by
  rw[List.all_eq_true];intro f hf;obtain⟨j,hj⟩:=List.getElem?_of_mem hf;exact h.1 j f (List.getElem?_eq_some_iff.1 hj).1 hj
 have h2:xu l = true:=Zb fun j e f he hf=>h.2 j e f (List.getElem?_eq_some_iff.1 hf).1 he hf
 unfold iw;rw[h1,h2];simp
end Go.Proofs.YtbhikkgpcmkonaaGreatDoor
namespace Go.Proofs.YtbhikkgpcmkonaaGreatDoor
open Go.RowKit Go.Maps Go.WideMaps
def kW:List (List UInt8×Lit)→List UInt8→Option Lit
 | [],_=>none
 | x ::r,s=>match kW r s with
  | some d=>some d
  | none=>if x.1=s then some x.2 else none
theorem rW (x:List UInt8×Lit) (r:List (List UInt8×Lit)) (s:List UInt8):kW (x ::r) s = match kW r s with
 | some d=>some d
 | none=>if x.1=s then some x.2 else none:=rfl
def Ag (l:List (List UInt8×Lit)) (m:DataW Unit):DataW Unit:=l.foldl (fun m x=>m.put (.string x.1) (.lit x.2)) m
theorem P8:∀(l:List (List UInt8×Lit)) (m:DataW Unit),IsMap m→IsMap (Ag l m)
 | [],_,h=>h
 | _ ::r,_,h=>P8 r _ (h.put _ _)
theorem vF (s:List UInt8):WideAt.IsKeyLit (.string s):=by first | trivial | simp[WideAt.IsKeyLit] | exact⟨⟩
theorem E8 (z:DataW Unit) (s:List UInt8):∀(l:List (List UInt8×Lit)) (m:DataW Unit),IsMap m→(Ag l m).atKey (.string s) z = (match kW l s with | some d=> .lit d | none=>m.atKey (.string s) z)
 | [],_,_=>rfl
 | x ::r,m,h=>by
  show (Ag r (m.put (.string x.1) (.lit x.2))).atKey (.string s) z = _
  rw[E8 z s r _ (h.put _ _)];rw[rW];cases kW r s with
  | some d=>rfl
  | none=>
   by_cases he:x.1=s
   ·subst he;simp only[if_true];exact atKey_put_same h (vF _) _ _
   ·simp only[he,if_false];exact atKey_put_other (fun e=>he (by injection e with e;exact e.symm)) _ _
theorem Jv (s:List UInt8):∀(l:List (List UInt8×Lit)) (m:DataW Unit),IsMap m→Maps.has (Ag l m) (.string s)=((kW l s).isSome||Maps.has m (.string s))
 | [],_,_=>rfl
 | x ::r,m,h=>by
  show Maps.has (Ag r (m.put (.string x.1) (.lit x.2))) (.string s)=_
  rw[Jv s r _ (h.put _ _)];rw[rW];cases kW r s with
  | some d=>rfl
  | none=>
   by_cases he:x.1=s
   ·subst he;simp only[if_true];rw[has_put_same h (vF _)];rfl
   ·simp only[he,if_false];rw[has_put_other (fun e=>he (by injection e with e;exact e.symm))]
def gK (P:Program) (k e:TypeId) (w:World) (b n:Nat) (l:List (List UInt8×Lit)):Prop:=w.ownsMap (H:=Unit) P k (plainElem P e) b n (Ag l (.map []))
section
variable {P:Program} {k e t:TypeId} {w:World} {b n:Nat} {l:List (List UInt8×Lit)}
theorem gK.made (w:World) (P:Program) (k e:TypeId):gK P k e (w.alloc (.map #[] 0)) w.heap.size 0 []:=World.ownsMap_made w P k _
theorem gK.alloc (h:gK P k e w b n l) (o:Obj):gK P k e (w.alloc o) b n l:=World.ownsMap.alloc h o
theorem gK.lt (h:gK P k e w b n l):b < w.heap.size:=World.ownsMap.lt h
theorem gK.kept {w':World} {row:Option Nat} (h:gK P k e w b n l) (hg:w.grownBy w' row) (hne:some b≠row):gK P k e w' b n l:=World.ownsMap.kept h hg hne
theorem gK.Oo (h:gK P k e w b n l) (hk:P.underlying k=some .string) (ht:P.underlying t = some (.map k e)) (he:P.underlying e = some .bool) (hz:(zeroValue e).run P w =.ok (.bool false) w) {s:List UInt8} (hs:s.length≤maxLen) {x:Bool} (hx:(kW l s).getD (.bool false)=.bool x) :
 (Instr.lookup t (.map (some b)) (.string ⟨s.toArray⟩) false).run P w =.ok (.bool x) w:=by
 obtain⟨v,ps,hrun,hv⟩:=World.ownsMap.lookup h (string_keyed hk) ht hz (plainElem_bool he false) (key:=.string ⟨s.toArray⟩) (kl:=.string s) (by simpa using keyOf_string_mk hk (s:=⟨s.toArray⟩) (by simpa[ByteArray.size] using hs));rw[E8 _ _ _ _ isMap_empty] at hv;have e1:(match kW l s with | some d=>(DataW.lit d:DataW Unit) | none=>(DataW.map []:DataW Unit).atKey (.string s) (.lit (.bool false)))=.lit (.bool x):=by
  cases hl:kW l s with
  | some d=>rw[hl] at hx;simp only[Option.getD_some] at hx;rw[hx]
  | none=>rw[hl] at hx;simp only[Option.getD_none] at hx;rw[←hx];rfl
 rw[e1] at hv;have:v =.bool x:=by
  unfold plainElem at hv;rw[he] at hv;cases v <;> simp at hv
  rw[hv.1]
 rw[←this];exact hrun
theorem gK.adK (h:gK P k e w b n l) (hk:P.underlying k=some .string) (ht:P.underlying t = some (.map k e)) (he:P.underlying e = some (.int .i64)) (hz:(zeroValue e).run P w =.ok (.int .i64 0) w) {s:List UInt8} (hs:s.length≤maxLen) {x:Int} (hx:(kW l s).getD (.int .i64 0)=.int .i64 x) :
 (Instr.lookup t (.map (some b)) (.string ⟨s.toArray⟩) true).run P w =.ok (.tuple #[.int .i64 x,.bool (kW l s).isSome]) w:=by
 obtain⟨v,ps,hrun,hv⟩:=World.ownsMap.look_ok h (string_keyed hk) ht hz (plainElem_int he δ) (key:=.string ⟨s.toArray⟩) (kl:=.string s) (by simpa using keyOf_string_mk hk (s:=⟨s.toArray⟩) (by simpa[ByteArray.size] using hs));rw[E8 _ _ _ _ isMap_empty] at hv;have e1:(match kW l s with | some d=>(DataW.lit d:DataW Unit) | none=>(DataW.map []:DataW Unit).atKey (.string s) (.lit (.int .i64 0)))=.lit (.int .i64 x):=by
  cases hl:kW l s with
  | some d=>rw[hl] at hx;simp only[Option.getD_some] at hx;rw[hx]
  | none=>rw[hl] at hx;simp only[Option.getD_none] at hx;rw[←hx];rfl
 rw[e1] at hv;obtain⟨a,rfl,ha,_⟩:=plainElem_int_inv he hv;have:x = a:=by have:=congrArg Prod.fst ha;simpa using this
 subst this;rw[Jv _ _ _ isMap_empty] at hrun;have e2:((kW l s).isSome||Maps.has (DataW.map []:DataW Unit) (.string s))=(kW l s).isSome:=by
  have:Maps.has (DataW.map []:DataW Unit) (.string s)=false:=rfl;rw[this,Bool.or_false]
 rw[e2] at hrun;exact hrun
theorem tN {ops:Array Oper} {rest:List Oper} {o:Oper} {a:Act} {Q:Exit→Act→World→Prop} (h:gK P k e w b n l)
 (hg:o.guard=none) (m x v:Operand) (hop:o.op=Op.mapUpdate t m x v) (hk:P.underlying k=some .string) (ht:P.underlying t = some (.map k e)) (hn:n < maxLen) (s:List UInt8) (hs:s.length≤maxLen) (val:Value) (d:Lit)
 (hm:a.eval m =.map (some b)) (hx:a.eval x =.string ⟨s.toArray⟩) (hv:a.eval v = val) (hd:plainElem (H:=Unit) P e val=some (.lit d,[]))
 (hK:∀w',gK P k e w' b (n + 1) (l ++[(s,d)])→w.grownBy w' (some b)→wpList P ops Q rest (a.put o.dst undef) w') :
 wpList P ops Q (o ::rest) a w:=by
 refine wpList_mapUpdate_own w hg m x v t hop k e (string_keyed hk) ht _ b n _ hm h hn _ _ (.string s) hx hv (by simpa using keyOf_string_mk hk (s:=⟨s.toArray⟩) (by simpa[ByteArray.size] using hs)) _ _ hd ?_;intro w' h1 h2;refine hK w' ?_ h2;unfold gK;unfold Ag;rw[List.foldl_append];exact h1
end
end Go.Proofs.YtbhikkgpcmkonaaGreatDoor
namespace Go.Proofs.YtbhikkgpcmkonaaGreatDoor
open Go.RowKit
def placeOf {α:Type} (p:α→Bool) (l:List α):Int:=match l.findIdx? p with
 | some i=>(i:Int)
 | none=> -1
theorem iK {α:Type} {p:α→Bool} {l:List α} {k:Nat} {x:α} (hx:l[k]? = some x) (hp:p x = true) (atW:∀j y,j < k→l[j]? = some y→p y = false):placeOf p l = (k:Int):=by
 have:l.findIdx? p = some k:=by
  rw[List.findIdx?_eq_some_iff_getElem];obtain⟨h1,h2⟩:=List.getElem?_eq_some_iff.1 hx;refine⟨h1,by rw[h2];exact hp,fun j hj=> ?_⟩;have:=atW j (l[j]'ω) hj (List.getElem?_eq_getElem _);simp[this]
 unfold placeOf;rw[this]
theorem gG {α:Type} {p:α→Bool} {l:List α} (h:∀(j:Nat) (y:α),l[j]? = some y→p y = false):placeOf p l =-1:=by
 have:l.findIdx? p = none:=by
  rw[List.findIdx?_eq_none_iff];intro x hx;obtain⟨j,hj⟩:=List.getElem?_of_mem hx;exact h j x hj
 unfold placeOf;rw[this]
theorem gZ {α:Type} (p:α→Bool) (l:List α):decide (0≤placeOf p l)=l.any p:=by
 unfold placeOf;cases h:l.findIdx? p with
 | some i=>
  obtain⟨h1,h2,_⟩:=List.findIdx?_eq_some_iff_getElem.1 h;have:l.any p = true:=List.any_eq_true.2 ⟨_,List.getElem_mem h1,h2⟩;rw[this];simp
 | none=>
  have h1:=List.findIdx?_eq_none_iff.1 h;have:l.any p = false:=by
   rw[←Bool.not_eq_true,List.any_eq_true];rintro⟨x,hx,hp⟩;rw[h1 x hx] at hp;cases hp
  rw[this];simp
theorem Xa {A:Option Addr} {m c:Nat} {l:List (List UInt8)} {v:List UInt8} (w:World) (hA:cu w 1 encS A m l) (hm:m≤9223372036854775807) :
 Calls Tryz.prog 176 #[.slice A m c,.string ⟨v.toArray⟩] w fun e w'=>e =.returned (.int .i64 (placeOf (fun x=>v ==x) l))∧ah w w':=by
 have nM:=hA.1;obtain⟨R,hR⟩:∃R,R=placeOf (fun x=>v ==x) l:=⟨_,rfl⟩;rw[←hR];replace hR:=ζ hR;replace hA:=ζ hA;go_enter Tryz.func176,Tryz.ntmps176
 go_wp2;go_loopw [4,5,8] (fun r _ i wr=>∃k:Nat,k≤m∧i =.int .i64 k∧r =.int .i64 0∧Hid (∀j y,j < k→l[j]? = some y→(v ==y)=false)∧wr=w) (fun _ _ i _=>m - (intOf i).toNat)
 case atStart=>exact⟨0,ω,rfl,rfl,fun _ _ h=>absurd h ω,rfl⟩
 case round=>
  obtain⟨k,hk,rfl,rfl,hall,rfl⟩:=hrel;by_cases yR:k<m
  ·obtain⟨bb,off,x,rfl,GK,hx,hcell⟩:=hA.o.at_ yR;have c0:wr.cell? ⟨bb,off+k,none⟩=some (.string ⟨x.toArray⟩):=by simpa using hcell 0 _ rfl
   have lK:(k:Int)<(m:Int):=ω;cases hvx:v ==x with
   | true=>
    have aO:Hid (R=(k:Int)):=ζ (by rw[hR.o];exact iK hx hvx hall.o);clear hR hall hcell hx;go_wp2;go_ret;exact⟨by rw[aO.o];rfl,ah.refl _⟩
   | false=>
    have iQ:=ζ (show ∀j y,j < k+1→l[j]? = some y→(v ==y)=false from fun j y hj hy=>by
     by_cases hjk:j = k
     ·subst hjk;rw[hx] at hy;rw[←Option.some.inj hy];exact hvx
     ·exact hall.o j y ω hy)
    clear hR hall hcell hx;go_wp2;go_roundw
    case rel=>exact⟨k+1,ω,ν,rfl,iQ,trivial⟩
    case measure=>exact ψ
  ·obtain rfl:k=m:=ω;have aO:Hid (R=-1):=ζ (by rw[hR.o];exact gG fun j y hy=>hall.o j y (by have:=(List.getElem?_eq_some_iff.1 hy).1;omega) hy);clear hR hall;go_wp2;go_ret;exact⟨by rw[aO.o];rfl,ah.refl _⟩
theorem aeE {A:Option Addr} {m c:Nat} {l:List (List UInt8)} {v:List UInt8} (w:World) (hA:cu w 1 encS A m l) (hm:m≤9223372036854775807) :
 Calls Tryz.prog 137 #[.slice A m c,.string ⟨v.toArray⟩] w fun e w'=>e =.returned (.bool (l.any fun x=>v ==x))∧ah w w':=by
 have cI:=Xa (c:=c) (v:=v) w hA hm;have hp:=gZ (fun x=>v ==x) l;generalize (l.any fun x=>v ==x)=R at *
 generalize placeOf (fun x=>v ==x) l = P at *
 subst hp;replace cI:=ζ cI;clear hA;go_enter Tryz.func137,Tryz.ntmps137
 go_wp2_with fail;refine (cI.out).mono ?_;rintro e w1 ⟨rfl,hg⟩;go_wp2;go_ret;exact⟨rfl,hg⟩
end Go.Proofs.YtbhikkgpcmkonaaGreatDoor
namespace Go.Proofs
open Go.Shelf
def Tryz.Qi:Go.Shelf.Ren:=⟨fun | 171=>77 | 243=>123 | 246=>164 | 283=>196 | 284=>197 | 285=>198 | 286=>199 | 129=>209 | 317=>227 | 318=>228 | 319=>229 | 320=>230 | 337=>256 | 338=>257 | n=>n,fun | 3=>3 | 9=>9 | 2=>2 | 4=>4 | 171=>302 | 0=>0 | 53=>33 | 37=>112 | 5=>5 | 173=>305 | 212=>337 | 51=>23 | 20=>20 | 213=>338 | 46=>39 | 232=>201 | 233=>380 | n=>n,fun | 17=>2 | 18=>3 | 19=>4 | n=>n⟩
theorem Tryz.adO:Go.Proofs.LaysM.n171 Tryz.prog Tryz.Qi:={
 mixed:=by kernel_rfl
 f129:=Tryz.func209.trans (congrArg some κ)
 f171:=Tryz.func77.trans (congrArg some κ)
 f243:=Tryz.func123.trans (congrArg some κ)
 f246:=Tryz.func164.trans (congrArg some κ)
 f283:=Tryz.func196.trans (congrArg some κ)
 f284:=Tryz.func197.trans (congrArg some κ)
 f285:=Tryz.func198.trans (congrArg some κ)
 f286:=Tryz.func199.trans (congrArg some κ)
 f317:=Tryz.func227.trans (congrArg some κ)
 f318:=Tryz.func228.trans (congrArg some κ)
 f319:=Tryz.func229.trans (congrArg some κ)
 f320:=Tryz.func230.trans (congrArg some κ)
 f337:=Tryz.func256.trans (congrArg some κ)
 f338:=Tryz.func257.trans (congrArg some κ)
 t0:=Tryz.underlying0
 a0:=Tryz.isAgg0
 z0:=Tryz.sizeOf0
 v0:=Tryz.zeroValue0
 t2:=Tryz.underlying2
 a2:=Tryz.isAgg2
 z2:=Tryz.sizeOf2
 v2:=Tryz.zeroValue2
 t3:=Tryz.underlying3
 a3:=Tryz.isAgg3
 z3:=Tryz.sizeOf3
 v3:=Tryz.zeroValue3
 t4:=Tryz.underlying4
 a4:=Tryz.isAgg4
 z4:=Tryz.sizeOf4
 v4:=Tryz.zeroValue4
 t5:=Tryz.underlying5
 a5:=Tryz.isAgg5
 z5:=Tryz.sizeOf5
 v5:=Tryz.zeroValue5
 t9:=Tryz.underlying9
 a9:=Tryz.isAgg9
 z9:=Tryz.sizeOf9
 v9:=Tryz.zeroValue9
 t20:=Tryz.underlying20
 a20:=Tryz.isAgg20
 z20:=Tryz.sizeOf20
 v20:=Tryz.zeroValue20
 t37:=Tryz.underlying112
 a37:=Tryz.isAgg112
 z37:=Tryz.sizeOf112
 v37:=Tryz.zeroValue112
 t46:=Tryz.underlying39
 a46:=Tryz.isAgg39
 z46:=Tryz.sizeOf39
 v46:=Tryz.zeroValue39
 t51:=Tryz.underlying23
 a51:=Tryz.isAgg23
 z51:=Tryz.sizeOf23
 v51:=Tryz.zeroValue23
 t53:=Tryz.underlying33
 a53:=Tryz.isAgg33
 z53:=Tryz.sizeOf33
 v53:=Tryz.zeroValue33
 t171:=Tryz.underlying302
 a171:=Tryz.isAgg302
 z171:=Tryz.sizeOf302
 v171:=Tryz.zeroValue302
 t173:=Tryz.underlying305
 a173:=Tryz.isAgg305
 z173:=Tryz.sizeOf305
 v173:=Tryz.zeroValue305
 t212:=Tryz.underlying337
 a212:=Tryz.isAgg337
 z212:=Tryz.sizeOf337
 v212:=Tryz.zeroValue337
 t213:=Tryz.underlying338
 a213:=Tryz.isAgg338
 z213:=Tryz.sizeOf338
 t232:=Tryz.underlying201
 a232:=Tryz.isAgg201
 z232:=Tryz.sizeOf201
 v232:=Tryz.zeroValue201
 t233:=Tryz.underlying380
 a233:=Tryz.isAgg380
 z233:=Tryz.sizeOf380
 v233:=Tryz.zeroValue380
 g17:=by kernel_rfl
 g18:=by kernel_rfl
 g19:=by kernel_rfl
 i0:=by kernel_rfl
 i2:=by kernel_rfl
 i3:=by kernel_rfl
 i4:=by kernel_rfl
 i5:=by kernel_rfl
 i9:=by kernel_rfl
 i20:=by kernel_rfl
 i37:=by kernel_rfl
 i46:=by kernel_rfl
 i51:=by kernel_rfl
 i53:=by kernel_rfl
 i171:=by kernel_rfl
 i173:=by kernel_rfl
 i212:=by kernel_rfl
 i232:=by kernel_rfl
 i233:=by kernel_rfl
 m17:=by kernel_rfl
 m18:=by kernel_rfl
 m19:=by kernel_rfl}
def Tryz.Qj:Go.Shelf.Ren:=⟨fun | 17=>159 | 15=>195 | 20=>226 | n=>n,fun | 9=>9 | 23=>263 | 4=>4 | 3=>3 | 0=>0 | 21=>21 | n=>n,fun | n=>n⟩
theorem Tryz.SY:Go.Proofs.LaysGw.n17 Tryz.prog Tryz.Qj:={
 mixed:=by kernel_rfl
 f15:=Tryz.func195.trans (congrArg some κ)
 f17:=Tryz.func159.trans (congrArg some κ)
 f20:=Tryz.func226.trans (congrArg some κ)
 t0:=Tryz.underlying0
 a0:=Tryz.isAgg0
 z0:=Tryz.sizeOf0
 v0:=Tryz.zeroValue0
 i0:=by kernel_rfl
 t3:=Tryz.underlying3
 a3:=Tryz.isAgg3
 z3:=Tryz.sizeOf3
 v3:=Tryz.zeroValue3
 i3:=by kernel_rfl
 t4:=Tryz.underlying4
 a4:=Tryz.isAgg4
 z4:=Tryz.sizeOf4
 v4:=Tryz.zeroValue4
 i4:=by kernel_rfl
 t9:=Tryz.underlying9
 a9:=Tryz.isAgg9
 z9:=Tryz.sizeOf9
 v9:=Tryz.zeroValue9
 i9:=by kernel_rfl
 t21:=Tryz.underlying21
 a21:=Tryz.isAgg21
 z21:=Tryz.sizeOf21
 v21:=Tryz.zeroValue21
 i21:=by kernel_rfl
 t23:=Tryz.underlying263
 a23:=Tryz.isAgg263
 z23:=Tryz.sizeOf263
 v23:=Tryz.zeroValue263
 i23:=by kernel_rfl}
end Go.Proofs
namespace Go.Proofs.YtbhikkgpcmkonaaGreatDoor
open Go.RowKit Go.PlainAid
theorem Vu {P:Program} {w w':World} {nm:String} {g:Nat} {cs:Array Value} (h:ah w w') (hg:P.globalNamed nm=some g) (hv:w.var? P nm=some cs) (hlt:g < w.heap.size):w'.var? P nm=some cs:=var?_below h hg hlt hv
structure lT (w:World):Prop where
 pow:Lib.TabIs Tryz.prog w "internal/strconv.uint64pow10" .u64 Lib.pow10Tab
 akn:2<w.heap.size
theorem lT.grows {w w':World} (h:lT w) (hg:ah w w'):lT w' where
 pow:=Vu hg κ h.pow h.akn
 akn:=Nat.lt_of_lt_of_le h.akn hg.size
theorem XK (w:World) (k:Nat) (os:Array Obj):ah w (Go.Sort.grow (w.drewN k) os):=
 ⟨rfl,rfl,rfl,by show w.heap.size≤(w.heap++os).size;simp,fun j hj=>by show (w.heap++os)[j]? = _;rw[Array.getElem?_append_left hj]⟩
theorem Tf (n:Int) (h0: -9223372036854775808≤n) (h1:n≤9223372036854775807) (w:World) (he:lT w) :
 Calls Tryz.prog 77 #[.int .i64 n] w fun e w'=>e =.returned (.string ⟨(Lib.itoa n).toArray⟩)∧ah w w':=
 (Any.strconv_Itoa Tryz.adO n h0 h1 w he.pow).mono fun _ _ ⟨e,k,os,hw⟩=>⟨e,by rw[hw];exact XK w k os⟩
theorem aao (w:World):PredAt Tryz.prog 172 #[] encR MX w:=fun W r _=>by
 unfold FnGives;obtain⟨R,hR⟩:∃R,R=MX r:=⟨_,rfl⟩;rw[←hR];unfold MX akB X4 at hR;by_cases h1:r = 95
 ·subst h1;replace hR:R=false:=by rw[hR];decide
  subst hR;go_enter Tryz.func172,Tryz.ntmps172
  go_wp2;go_ret;exact⟨rfl,0,rfl⟩
 ·have h1':((r:Int) != 95)=true:=by simp;omega
  by_cases h2:r < 48
  ·replace hR:R=true:=by rw[hR];simp;omega
   subst hR;have h3:(r:Int)<97:=ω;have h4:(r:Int)<48:=ω;go_enter Tryz.func172,Tryz.ntmps172
   go_wp2;go_ret;exact⟨rfl,0,rfl⟩
  ·by_cases h3:r≤57
   ·replace hR:R=false:=by rw[hR];simp;omega
    subst hR;have h3:(r:Int)<97:=ω;have h4:¬(r:Int)<48:=ω;have h5:¬57<(r:Int):=ω;go_enter Tryz.func172,Tryz.ntmps172
    go_wp2;go_ret;exact⟨rfl,0,rfl⟩
   ·have h5:57<(r:Int):=ω;have h4:¬(r:Int)<48:=ω;by_cases h6:r < 97
    ·replace hR:R=true:=by rw[hR];simp;omega
     subst hR;have h7:(r:Int)<97:=ω;go_enter Tryz.func172,Tryz.ntmps172
     go_wp2;go_ret;exact⟨rfl,0,rfl⟩
    ·have h7:¬(r:Int)<97:=ω;by_cases h8:122<r
     ·replace hR:R=true:=by rw[hR];simp;omega
      subst hR;have h9:122<(r:Int):=ω;go_enter Tryz.func172,Tryz.ntmps172
      go_wp2;go_ret;exact⟨rfl,0,rfl⟩
     ·replace hR:R=false:=by rw[hR];simp;omega
      subst hR;have h9:¬122<(r:Int):=ω;go_enter Tryz.func172,Tryz.ntmps172
      go_wp2;go_ret;exact⟨rfl,0,rfl⟩
theorem WI {s:List UInt8} (h:12<s.length):fP s = false:=by
 unfold fP;rw[decide_eq_false (show ¬s.length≤12 by omega)];simp
theorem aap {b:UInt8} {r:List UInt8} (h:X4 b.toNat=true):fP (b ::r)=false:=by
 unfold fP;simp[h]
theorem WG {b:UInt8} {r:List UInt8} (h:X4 b.toNat=false) (hl:(b ::r).length≤12):fP (b ::r)=(b ::r).all ac9:=by
 unfold fP;rw[decide_eq_true hl];simp[h]
theorem aan (S:ByteArray) (w:World):Calls Tryz.prog 132 #[.string S] w fun e w'=>e =.returned (.bool (fP S.data.toList))∧ah w w':=by
 have hS:S.data.toList.length=S.size:=Array.length_toList;have cC:=fun W=>Any.strings_ContainsFunc Tryz.SY 172 #[] (enters_of Tryz.func172 κ rfl) MX S W (aao W)
 have hna:=adG S;change ∀W,Calls Tryz.prog 159 _ W _ at cC
 generalize decide (0≤Lib.idxFunc MX true S)=D at *
 obtain⟨R,hR⟩:∃R,R=fP S.data.toList:=⟨_,rfl⟩;rw[←hR];replace cC:=ζ cC;by_cases h0:S.size=0
 ·have hSe:S=⟨#[]⟩:=by
   apply ByteArray.ext;exact Array.eq_empty_of_size_eq_zero h0
  subst hSe;replace hR:R=false:=by rw[hR];rfl
  subst hR;clear hS hna cC h0;go_enter Tryz.func132,Tryz.ntmps132
  go_wp2;go_ret;exact⟨rfl,ah.refl _⟩
 ·have ath:¬S.toList=[]:=fun h=>h0 (by rw[(toList_nil_iff_emptyBytes S).1 h];rfl)
  have Np:S.toList.isEmpty=false:=by rw[←Bool.not_eq_true,List.isEmpty_iff];exact ath
  have hp0:0<S.size:=ω;have hb0:=get_bt S 0 hp0;have hx0:=fun x=>aqG S (k:=0) (x:=x)
  cases hl:S.data.toList with
  | nil=>rw[hl] at hS;simp at hS;omega
  | cons b r=>
   rw[hl] at hR hna hS hx0;rw[hx0 b rfl] at hb0;have TG:=WI (s:=b ::r);have hdi:=aap (b:=b) (r:=r);have hre:=WG (b:=b) (r:=r);rw[hS] at TG hre;rw[←hna] at hre;have hbl:=b.toNat_lt;unfold X4 at hdi hre;clear hna hl hx0 hS;generalize b.toNat=X at *
   have hX0:0≤(X:Int)∧(X:Int)≤255:=ω;clear hbl h0;generalize fP (b ::r)=B at *
   subst hR;by_cases h12:12<S.size
   ·have hB:=TG h12;subst hB;have g0:(12:Int)<(S.size:Int):=ω;clear TG hdi hre cC;go_enter Tryz.func132,Tryz.ntmps132
    go_wp2;go_ret;exact⟨rfl,ah.refl _⟩
   ·have g0:¬(12:Int)<(S.size:Int):=ω;clear TG;by_cases hd:48≤X∧X≤57
    ·have hB:=hdi (by simp[hd.1,hd.2]);subst hB;have g1:(48:Int)≤X:=ω;have g2:(X:Int)≤57:=ω;clear hdi hre cC hd;go_enter Tryz.func132,Tryz.ntmps132
     go_wp2;go_ret;exact⟨rfl,ah.refl _⟩
    ·have hB:=hre (by simp;omega) ω;subst hB;clear hdi hre;by_cases h48:48≤X
     ·have g1:(48:Int)≤X:=ω;have g2:¬(X:Int)≤57:=ω;clear hd h48;go_enter Tryz.func132,Tryz.ntmps132
      go_wp2_with fail;refine (cC.out _).mono ?_;rintro e w1 ⟨rfl,hb⟩;go_wp2;go_ret;exact⟨rfl,hb⟩
     ·have g1:¬(48:Int)≤X:=ω;clear hd h48;go_enter Tryz.func132,Tryz.ntmps132
      go_wp2_with fail;refine (cC.out _).mono ?_;rintro e w1 ⟨rfl,hb⟩;go_wp2;go_ret;exact⟨rfl,hb⟩
theorem ru (s:List UInt8) (w:World):Calls Tryz.prog 132 #[.string ⟨s.toArray⟩] w fun e w'=>e =.returned (.bool (fP s))∧ah w w':=aan ⟨s.toArray⟩ w
def uo {α:Type} (P:Program) (g:FuncId) (lb:Array Value) (val:α→Value) (p:α→Bool) (l:List α) (w:World):Prop:=
 ∀x∈l,∀(W:World),ah w W→Calls P g (#[val x]++lb) W fun e w'=>e =.returned (.bool (p x))∧ah W w'
def ajN {α:Type} (P:Program) (g:FuncId) (lb:Array Value) (val:α→Value) (p:α→Bool) (B:Nat) (l:List α) (w:World):Prop:=
 ∀x∈l,∀(W:World),Below B w W→Calls P g (#[val x]++lb) W fun e w'=>e =.returned (.bool (p x))∧ah W w'
theorem cu.ai3 {α:Type} {w:World} {k:Nat} {enc:α→List Value} {m:Nat} {l:List α} (h:cu w k enc none m l):l = []∧m = 0:=by
 rcases Nat.eq_zero_or_pos m with h0 | h0
 ·exact⟨List.eq_nil_of_length_eq_zero (by rw[h.1,h0]),h0⟩
 ·obtain⟨b,off,e,_⟩:=h.2 h0;cases e
theorem jR {α:Type} {p:α→Bool}:∀{xs:List α},xs.any p = false→(xs.filter fun x=> !p x)=xs
 | [],_=>rfl
 | x ::r,h=>by
  simp only[List.any_cons,Bool.or_eq_false_iff] at h;simp[h.1,jR h.2]
theorem wu {α:Type} (p:α→Bool) (xs:List α):(placeOf p xs=-1∧xs.any p = false)∨∃(i:Nat) (x:α),placeOf p xs=i∧xs[i]? = some x∧p x = true∧(xs.take i).any p = false:=by
 unfold placeOf;cases h:xs.findIdx? p with
 | none=>
  refine .inl ⟨rfl,?_⟩;rw[←Bool.not_eq_true,List.any_eq_true];rintro⟨x,hx,hp⟩;rw[List.findIdx?_eq_none_iff.1 h x hx] at hp;cases hp
 | some i=>
  obtain⟨h1,h2,h3⟩:=List.findIdx?_eq_some_iff_getElem.1 h;refine .inr ⟨i,xs[i],rfl,List.getElem?_eq_getElem h1,h2,?_⟩;rw[←Bool.not_eq_true,List.any_eq_true];rintro⟨x,hx,hp⟩;obtain⟨j,hj,rfl⟩:=List.getElem_of_mem hx;rw[List.getElem_take] at hp;exact h3 j (by simp at hj;omega) hp
structure um {α:Type} (p:α→Bool) (xs ys:List α) (i j:Nat):Prop where
 len:ys.length=xs.length
 lt:i < j
 le:j≤xs.length
 front:ys.take i = (xs.take j).filter fun x=> !p x
 back:ys.drop j = xs.drop j
theorem um.start {α:Type} {p:α→Bool} {xs:List α} {i:Nat} {x:α} (h1:xs[i]? = some x) (h2:p x = true) (h3:(xs.take i).any p = false):um p xs xs i (i + 1):=by
 have hi:i < xs.length:=(List.getElem?_eq_some_iff.1 h1).1;refine⟨rfl,ω,ω,?_,rfl⟩;rw[List.take_add_one,List.filter_append,jR h3,h1];simp[h2]
theorem um.get {α:Type} {p:α→Bool} {xs ys:List α} {i j:Nat} (h:um p xs ys i j) {x:α} (hx:xs[j]? = some x):ys[j]? = some x:=by
 have:=congrArg (fun l=>l[0]?) h.back;simp only[List.getElem?_drop,Nat.add_zero] at this;rw[this,hx]
theorem um.ajI {α:Type} {p:α→Bool} {xs ys:List α} {i j:Nat} (h:um p xs ys i j) {x:α} (hx:xs[j]? = some x) (hp:p x = true):um p xs ys i (j + 1):=by
 have hj:j < xs.length:=(List.getElem?_eq_some_iff.1 hx).1;refine⟨h.len,by have:=h.lt;omega,ω,?_,?_⟩
 ·rw[List.take_add_one,List.filter_append,←h.front,hx];simp[hp]
 ·have:=congrArg (List.drop 1) h.back;simpa[List.drop_drop] using this
theorem um.ai6 {α:Type} {p:α→Bool} {xs ys:List α} {i j:Nat} (h:um p xs ys i j) {x:α} (hx:xs[j]? = some x) (hp:p x = false):um p xs (ys.set i x) (i + 1) (j + 1):=by
 have hj:j < xs.length:=(List.getElem?_eq_some_iff.1 hx).1;have hlt:=h.lt;have hl:=h.len;refine⟨by simp[hl],ω,ω,?_,?_⟩
 ·rw[List.take_add_one,List.take_add_one,List.filter_append,←h.front,hx,List.take_set_of_le ω,List.getElem?_set_self ω];simp[hp]
 ·rw[List.drop_set_of_lt ω];have:=congrArg (List.drop 1) h.back;simpa[List.drop_drop] using this
def Ur (x:xZ):List Value:=[.string ⟨x.n.toArray⟩,.int .i64 x.l.lv,.int .u32 (x.l.c:Int)]
def agF (x:xZ):Value:=.agg #[.string ⟨x.n.toArray⟩,.int .i64 x.l.lv,.int .u32 (x.l.c:Int)]
theorem hkN (x:xZ):(Ur x).length=3:=rfl
def FY (x:d_):List Value:=[.string ⟨x.n.toArray⟩,.int .i64 x.op,.string ⟨x.v.toArray⟩]
def Jo (x:d_):Value:=.agg #[.string ⟨x.n.toArray⟩,.int .i64 x.op,.string ⟨x.v.toArray⟩]
theorem hkM (x:d_):(FY x).length=3:=rfl
def Df (x:bK):Value:=.agg #[.string ⟨x.n.toArray⟩,.string ⟨x.v.toArray⟩]
theorem T_F:eX Tryz.prog 22 88 2 32:=avc
structure f_ where
 l:List xZ
 A:Option Addr
 m:Nat
 k:Nat
def f_.val (x:f_):Value:=.slice x.A x.m x.k
structure f_.At (x:f_) (w:World):Prop where
 arr:cu w 3 Ur x.A x.m x.l
 le:x.m≤9223372036854775807
 U_:∀y∈x.l,y.l.ok
 txt:∀y∈x.l,y.n.length≤9223372036854775807
def ain (x:f_):List Value:=[.slice x.A x.m x.k]
def aj3 (x:f_):Value:=.slice x.A x.m x.k
structure xY where
 r:Rte
 bA:Option Addr
 bm:Nat
 bk:Nat
 wA:Option Addr
 wm:Nat
 wk:Nat
structure xY.At (x:xY) (w:World):Prop where
 eY:cu w 1 encS x.bA x.bm x.r.eY
 abL:x.bm≤9223372036854775807
 UE:∀y∈x.r.eY,y.length≤9223372036854775807
 wh:cu w 3 FY x.wA x.wm x.r.wh
 Vq:x.wm≤9223372036854775807
def encR (x:xY):List Value:=[.string ⟨x.r.r.toArray⟩,.slice x.bA x.bm x.bk,.int .i64 x.r.wait,.int .i64 x.r.every,.int .i64 x.r.again,.slice x.wA x.wm x.wk]
def acv (x:xY):Value:=.agg #[.string ⟨x.r.r.toArray⟩,.slice x.bA x.bm x.bk,.int .i64 x.r.wait,.int .i64 x.r.every,.int .i64 x.r.again,.slice x.wA x.wm x.wk]
structure xC where
 i:Inh
 bA:Option Addr
 bm:Nat
 bk:Nat
 fA:Option Addr
 fm:Nat
 fk:Nat
 wA:Option Addr
 wm:Nat
 wk:Nat
structure xC.At (x:xC) (w:World):Prop where
 eY:cu w 1 encS x.bA x.bm x.i.eY
 abL:x.bm≤9223372036854775807
 UE:∀y∈x.i.eY,y.length≤9223372036854775807
 fr:cu w 3 FY x.fA x.fm x.i.from_
 alW:x.fm≤9223372036854775807
 wh:cu w 3 FY x.wA x.wm x.i.wh
 Vq:x.wm≤9223372036854775807
 U_:x.i.l.ok
def afr (x:xC):List Value:=[.slice x.bA x.bm x.bk,.int .i64 x.i.l.lv,.int .u32 (x.i.l.c:Int),.slice x.fA x.fm x.fk,.slice x.wA x.wm x.wk]
def RN (x:xC):Value:=.agg #[.slice x.bA x.bm x.bk,.int .i64 x.i.l.lv,.int .u32 (x.i.l.c:Int),.slice x.fA x.fm x.fk,.slice x.wA x.wm x.wk]
structure aY where
 s:f_
 r:f_
 e:f_
 a:f_
 o:List xY
 oA:Option Addr
 om:Nat
 ok:Nat
 i:List xC
 iA:Option Addr
 im:Nat
 ik:Nat
def aY.aU (x:aY):jo:=⟨x.s.l,x.r.l,x.e.l,x.a.l,x.o.map (·.r),x.i.map (·.i)⟩
def aY.cells (x:aY):List Value:=[.slice x.s.A x.s.m x.s.k,.slice x.r.A x.r.m x.r.k,.slice x.e.A x.e.m x.e.k,.slice x.a.A x.a.m x.a.k,.slice x.oA x.om x.ok,.slice x.iA x.im x.ik]
def aY.val (x:aY):Value:=.agg #[.slice x.s.A x.s.m x.s.k,.slice x.r.A x.r.m x.r.k,.slice x.e.A x.e.m x.e.k,.slice x.a.A x.a.m x.a.k,.slice x.oA x.om x.ok,.slice x.iA x.im x.ik]
structure aY.At (x:aY) (w:World):Prop where
 s:x.s.At w
 r:x.r.At w
 e:x.e.At w
 a:x.a.At w
 o:cu w 6 encR x.oA x.om x.o
 ole:x.om≤9223372036854775807
 oAt:∀y∈x.o,y.At w
 i:cu w 5 afr x.iA x.im x.i
 ile:x.im≤9223372036854775807
 iAt:∀y∈x.i,y.At w
theorem f_.At.keep {x:f_} {w w':World} (h:x.At w) (hg:ah w w'):x.At w':=⟨h.arr.keep hg,h.le,h.U_,h.txt⟩
theorem xY.At.keep {x:xY} {w w':World} (h:x.At w) (hg:ah w w'):x.At w':=⟨h.eY.keep hg,h.abL,h.UE,h.wh.keep hg,h.Vq⟩
theorem xC.At.keep {x:xC} {w w':World} (h:x.At w) (hg:ah w w'):x.At w':=⟨h.eY.keep hg,h.abL,h.UE,h.fr.keep hg,h.alW,h.wh.keep hg,h.Vq,h.U_⟩
theorem aY.At.keep {x:aY} {w w':World} (h:x.At w) (hg:ah w w'):x.At w':=⟨h.s.keep hg,h.r.keep hg,h.e.keep hg,h.a.keep hg,h.o.keep hg,h.ole,fun y hy=>(h.oAt y hy).keep hg,h.i.keep hg,h.ile,fun y hy=>(h.iAt y hy).keep hg⟩
structure dH where
 a:jq
 A:Option Addr
 m:Nat
 k:Nat
def sG (x:dH):List Value:=[.string ⟨x.a.src.toArray⟩,.slice x.A x.m x.k,.int .i64 x.a.l.lv,.int .u32 (x.a.l.c:Int),.int .i64 x.a.f,.int .i64 x.a.t]
def iT (x:dH):Value:=.agg #[.string ⟨x.a.src.toArray⟩,.slice x.A x.m x.k,.int .i64 x.a.l.lv,.int .u32 (x.a.l.c:Int),.int .i64 x.a.f,.int .i64 x.a.t]
structure dH.At (x:dH) (w:World):Prop where
 arr:cu w 2 eu x.A x.m x.a.fs
 le:x.m≤1000
 U_:x.a.l.ok
theorem dH.At.keep {x:dH} {w w':World} (h:x.At w) (hg:ah w w'):x.At w':=⟨h.arr.keep hg,h.le,h.U_⟩
def uI (fb:d_→Bool) (x:d_):Prop:=∀W:World,Calls Tryz.prog 154 #[Jo x] W fun e w'=>e =.returned (.bool (fb x))∧ah W w'
def avg (ft:List bK→d_→Bool) (x:d_):Prop:=∀(A:Option Addr) (m c:Nat) (l:List bK) (W:World),cu W 2 eu A m l→m≤9223372036854775807→Calls Tryz.prog 152 #[.slice A m c,Jo x] W fun e w'=>e =.returned (.bool (ft l x))∧ah W w'
theorem adZ (g:FuncId) (lb:Array Value) (eg:Enters Tryz.prog g) (p:f_→Bool) (A:Option Addr) (m c:Nat) (l:List f_) (w:World) (h:cu w 1 ain A m l) (hm:m≤9223372036854775807) (hp:uo Tryz.prog g lb aj3 p l w) :
 Calls Tryz.prog 161 #[.slice A m c,.func (.func g) #[] lb] w fun e w'=>e =.returned (.int .i64 (placeOf p l))∧ah w w':=by
 have hlen:=h.1;unfold Enters at eg;obtain⟨R,hR⟩:∃R,R=placeOf p l:=⟨_,rfl⟩;rw[←hR];replace hR:=ζ hR;replace hp:=ζ hp;replace h:=ζ h;go_enter Tryz.func161,Tryz.ntmps161
 go_wp2;go_loopw [5,8] (fun _ i wr=>∃k:Nat,k≤m∧i =.int .i64 k∧Hid (∀j y,j < k→l[j]? = some y→p y = false)∧Hid (ah w wr)) (fun _ i _=>m - (intOf i).toNat)
 case atStart=>exact⟨0,ω,rfl,fun _ _ h=>absurd h ω,ah.refl _⟩
 case round=>
  obtain⟨k,hk,rfl,hall,hg⟩:=hrel;by_cases hlt:k<m
  ·obtain⟨b,off,x,rfl,_,hx,hcell⟩:=(h.o.keep hg.o).at_ hlt;have c0:wr.cell? ⟨b,off+k,none⟩=some (.slice x.A x.m x.k):=by simpa using hcell 0 _ rfl
   have lK:(k:Int)<(m:Int):=ω;have cI:=hp.o x (List.mem_of_getElem? hx) wr hg.o;unfold aj3 at cI;cases hq:p x with
   | false=>
    rw[hq] at cI;replace cI:=ζ cI;have iQ:=ζ (show ∀j y,j < k+1→l[j]? = some y→p y = false from fun j y hj hy=>by
     by_cases hjk:j = k
     ·subst hjk;rw[hx] at hy;rw[←Option.some.inj hy];exact hq
     ·exact hall.o j y ω hy)
    clear hcell hq hx hall hR;go_wp2_with fail;refine (cI.out).mono ?_;rintro e w1 ⟨rfl,hb⟩;have hg1:=ζ (hg.o.trans hb);go_wp2;go_roundw
    case rel=>exact⟨k+1,ω,ν,iQ,hg1⟩
    case measure=>exact ψ
   | true=>
    rw[hq] at cI;have aO:Hid (R=(k:Int)):=ζ (by rw[hR.o];exact iK hx hq hall.o);replace cI:=ζ cI;clear hcell hq hx hall hR;go_wp2_with fail;refine (cI.out).mono ?_;rintro e w1 ⟨rfl,hb⟩;have hg1:=ζ (hg.o.trans hb);go_wp2;go_ret;exact⟨by rw[aO.o];rfl,hg1.o⟩
  ·obtain rfl:k=m:=ω;have aO:Hid (R=-1):=ζ (by rw[hR.o];exact gG fun j y hy=>hall.o j y (by have:=(List.getElem?_eq_some_iff.1 hy).1;omega) hy);clear hall hR;go_wp2;go_ret;exact⟨by rw[aO.o];rfl,hg.o⟩
theorem afx (g:FuncId) (lb:Array Value) (eg:Enters Tryz.prog g) (p:f_→Bool) (A:Option Addr) (m c:Nat) (l:List f_) (w:World) (h:cu w 1 ain A m l) (hm:m≤9223372036854775807) (hp:uo Tryz.prog g lb aj3 p l w) :
 Calls Tryz.prog 120 #[.slice A m c,.func (.func g) #[] lb] w fun e w'=>e =.returned (.bool (l.any p))∧ah w w':=by
 have cI:=adZ (c:=c) g lb eg p A m l w h hm hp;replace cI:=ζ cI;have aO:=ζ (gZ p l);clear h hp;go_enter Tryz.func120,Tryz.ntmps120
 go_wp2_with fail;refine cI.out.mono ?_;rintro e w1 ⟨rfl,hb⟩;go_wp2;go_ret;exact⟨aN aO.o,hb⟩
theorem ad2 (g:FuncId) (lb:Array Value) (eg:Enters Tryz.prog g) (p:d_→Bool) (A:Option Addr) (m c:Nat) (l:List d_) (w:World) (h:cu w 3 FY A m l) (hm:m≤9223372036854775807) (hp:uo Tryz.prog g lb Jo p l w) :
 Calls Tryz.prog 187 #[.slice A m c,.func (.func g) #[] lb] w fun e w'=>e =.returned (.int .i64 (placeOf p l))∧ah w w':=by
 have hlen:=h.1;unfold Enters at eg;obtain⟨R,hR⟩:∃R,R=placeOf p l:=⟨_,rfl⟩;rw[←hR];replace hR:=ζ hR;replace hp:=ζ hp;replace h:=ζ h;go_enter Tryz.func187,Tryz.ntmps187
 go_wp2;go_loopw [5,8] (fun _ i wr=>∃k:Nat,k≤m∧i =.int .i64 k∧Hid (∀j y,j < k→l[j]? = some y→p y = false)∧Hid (ah w wr)) (fun _ i _=>m - (intOf i).toNat)
 case atStart=>exact⟨0,ω,rfl,fun _ _ h=>absurd h ω,ah.refl _⟩
 case round=>
  obtain⟨k,hk,rfl,hall,hg⟩:=hrel;by_cases hlt:k<m
  ·obtain⟨b,off,x,rfl,_,hx,hcell⟩:=(h.o.keep hg.o).at_ hlt;have c0:wr.cell? ⟨b,off+k*3,none⟩=some (.string ⟨x.n.toArray⟩):=hcell 0 _ rfl;have c1:wr.cell? ⟨b,off+k*3+1,none⟩=some (.int .i64 x.op):=hcell 1 _ rfl;have c2:wr.cell? ⟨b,off+k*3+2,none⟩=some (.string ⟨x.v.toArray⟩):=hcell 2 _ rfl;have lK:(k:Int)<(m:Int):=ω;have cI:=hp.o x (List.mem_of_getElem? hx) wr hg.o;unfold Jo at cI;cases hq:p x with
   | false=>
    rw[hq] at cI;replace cI:=ζ cI;have iQ:=ζ (show ∀j y,j < k+1→l[j]? = some y→p y = false from fun j y hj hy=>by
     by_cases hjk:j = k
     ·subst hjk;rw[hx] at hy;rw[←Option.some.inj hy];exact hq
     ·exact hall.o j y ω hy)
    clear hcell hq hx hall hR;go_wp2_with fail;refine (cI.out).mono ?_;rintro e w1 ⟨rfl,hb⟩;have hg1:=ζ (hg.o.trans hb);go_wp2;go_roundw
    case rel=>exact⟨k+1,ω,ν,iQ,hg1⟩
    case measure=>exact ψ
   | true=>
    rw[hq] at cI;have aO:Hid (R=(k:Int)):=ζ (by rw[hR.o];exact iK hx hq hall.o);replace cI:=ζ cI;clear hcell hq hx hall hR;go_wp2_with fail;refine (cI.out).mono ?_;rintro e w1 ⟨rfl,hb⟩;have hg1:=ζ (hg.o.trans hb);go_wp2;go_ret;exact⟨by rw[aO.o];rfl,hg1.o⟩
  ·obtain rfl:k=m:=ω;have aO:Hid (R=-1):=ζ (by rw[hR.o];exact gG fun j y hy=>hall.o j y (by have:=(List.getElem?_eq_some_iff.1 hy).1;omega) hy);clear hall hR;go_wp2;go_ret;exact⟨by rw[aO.o];rfl,hg.o⟩
theorem Uy (g:FuncId) (lb:Array Value) (eg:Enters Tryz.prog g) (p:d_→Bool) (A:Option Addr) (m c:Nat) (l:List d_) (w:World) (h:cu w 3 FY A m l) (hm:m≤9223372036854775807) (hp:uo Tryz.prog g lb Jo p l w) :
 Calls Tryz.prog 150 #[.slice A m c,.func (.func g) #[] lb] w fun e w'=>e =.returned (.bool (l.any p))∧ah w w':=by
 have cI:=ad2 (c:=c) g lb eg p A m l w h hm hp;replace cI:=ζ cI;have aO:=ζ (gZ p l);clear h hp;go_enter Tryz.func150,Tryz.ntmps150
 go_wp2_with fail;refine cI.out.mono ?_;rintro e w1 ⟨rfl,hb⟩;go_wp2;go_ret;exact⟨aN aO.o,hb⟩
end Go.Proofs.YtbhikkgpcmkonaaGreatDoor
namespace Go.Proofs.YtbhikkgpcmkonaaGreatDoor
open Go.RowKit Go.Maps
theorem ah.uj {w w':World} (h:ah w w') (row:Option Nat):w.grownBy w' row:=⟨Below.os h,Below.tape h,Below.output h,h.size,fun k hk _=>Below.block h k hk⟩
theorem gK.grows {P:Program} {k e:TypeId} {w w':World} {b n:Nat} {l:List (List UInt8×Lit)} (h:gK P k e w b n l) (hg:ah w w'):gK P k e w' b n l:=h.kept (hg.uj none) σ
theorem zk (n lo hi:Int) (w:World) :
 Calls Tryz.prog 116 #[.int .i64 n,.int .i64 lo,.int .i64 hi] w fun e w'=>e =.returned (.bool (decide (lo≤n)&&decide (n≤hi)))∧ah w w':=by
 by_cases h:lo≤n
 ·go_enter Tryz.func116,Tryz.ntmps116
  go_wp2;go_ret;exact⟨aN (by simp[h]),ah.refl _⟩
 ·go_enter Tryz.func116,Tryz.ntmps116
  go_wp2;go_ret;exact⟨aN (by simp;omega),ah.refl _⟩
def Oe (l:List (List UInt8)):List (List UInt8×Lit):=l.map fun s=>(s,.bool true)
theorem JF (s:List UInt8):∀l:List (List UInt8),kW (Oe l) s = if s∈l then some (.bool true) else none
 | []=>rfl
 | x ::r=>by
  show kW ((x,.bool true)::Oe r) s = _
  rw[rW,JF s r];by_cases h:s∈r
  ·simp[h]
  ·by_cases hx:x = s
   ·simp[h,hx]
   ·simp[h,hx,Ne.symm hx]
theorem VF (l:List (List UInt8)) (x:List UInt8):Oe (l ++[x])=Oe l ++[(x,.bool true)]:=by simp[Oe]
abbrev Rk (w:World) (b n:Nat) (l:List (List UInt8)):Prop:=gK Tryz.prog 9 4 w b n (Oe l)
theorem Rk.look {w:World} {b n:Nat} {l:List (List UInt8)} (h:Rk w b n l) {s:List UInt8} (hs:s.length≤maxLen) {x:Bool} (hx:decide (s∈l)=x) :
 (Instr.lookup 122 (.map (some b)) (.string ⟨s.toArray⟩) false).run Tryz.prog w =.ok (.bool x) w:=
 gK.Oo h Tryz.underlying9 Tryz.underlying122 Tryz.underlying4 κ hs (by
  rw[JF];by_cases hm:s∈l
  ·simp only[hm,decide_true] at hx;subst hx;simp[hm]
  ·simp only[hm,decide_false] at hx;subst hx;simp[hm])
theorem Gq {ops:Array Oper} {rest:List Oper} {o:Oper} {a:Act} {Q:Exit→Act→World→Prop} {w:World} {b n:Nat} {l:List (List UInt8)} (h:Rk w b n l)
 (hg:o.guard=none) (m x v:Operand) (hop:o.op=Op.mapUpdate 122 m x v) (hn:n < maxLen) (s:List UInt8) (hs:s.length≤maxLen)
 (hm:a.eval m =.map (some b)) (hx:a.eval x =.string ⟨s.toArray⟩) (hv:a.eval v =.bool true)
 (hK:∀w',Rk w' b (n + 1) (l ++[s])→w.grownBy w' (some b)→wpList Tryz.prog ops Q rest (a.put o.dst undef) w') :
 wpList Tryz.prog ops Q (o ::rest) a w:=
 tN h hg m x v hop Tryz.underlying9 Tryz.underlying122 hn s hs (.bool true) (.bool true) hm hx hv (plainElem_bool Tryz.underlying4 true) (fun w' h1 h2=>hK w' (by unfold Rk;rw[VF];exact h1) h2)
def byB (l:List (List UInt8)):Bool:=l.all fP&&decide l.Nodup&&decide (l.length≤8)
theorem Y6 {l:List (List UInt8)} {k:Nat} {x:List UInt8} (hx:l[k]? = some x) (h:x∈l.take k∨fP x = false):byB l = false:=by
 unfold byB;rcases h with h | h
 ·have:¬l.Nodup:=by
   intro hn;obtain⟨i,hi,rfl⟩:=List.getElem_of_mem h;rw[List.getElem_take] at hx;have hik:i < k:=by simp at hi;omega
   obtain⟨hk,he⟩:=List.getElem?_eq_some_iff.1 hx;exact absurd ((List.getElem_inj hn).1 he) ω
  simp[this]
 ·have:l.all fP=false:=by
   rw[←Bool.not_eq_true,List.all_eq_true];intro ha;rw[ha x (List.mem_of_getElem? hx)] at h;cases h
  simp[this]
def X8 (l:List (List UInt8)) (k:Nat):Prop:=(l.take k).all fP=true∧(l.take k).Nodup
theorem X8.next {l:List (List UInt8)} {k:Nat} {x:List UInt8} (h:X8 l k) (hx:l[k]? = some x) (h1:¬x∈l.take k) (h2:fP x = true):X8 l (k+1):=by
 unfold X8;rw[List.take_add_one,hx];refine⟨by rw[List.all_append,h.1];simp[h2],?_⟩;rw[List.nodup_append];refine⟨h.2,by simp,fun a ha b hb=> ?_⟩;simp at hb;subst hb;exact fun e=>h1 (e ▸ ha)
theorem aiA {l:List (List UInt8)} {m:Nat} (hm:l.length=m) (h:X8 l m):byB l = decide (m≤8):=by
 unfold X8 at h;rw[List.take_of_length_le ω] at h;unfold byB;rw[h.1,decide_eq_true h.2,hm];simp
theorem afG {A:Option Addr} {m c:Nat} {l:List (List UInt8)} (w:World) (hA:cu w 1 encS A m l) (hm:m≤9223372036854775807) (ht:∀x∈l,x.length≤9223372036854775807) :
 Calls Tryz.prog 117 #[.slice A m c] w fun e w'=>e =.returned (.bool (byB l))∧ah w w':=by
 have nM:=hA.1;obtain⟨R,hR⟩:∃R,R=byB l:=⟨_,rfl⟩;rw[←hR];replace hR:=ζ hR;replace hA:=ζ hA;replace ht:=ζ ht;replace nM:=ζ nM;have hmm:= @run_makeMap Tryz.prog;go_enter Tryz.func117,Tryz.ntmps117
 go_wp2;clear hmm;go_loopw [5,9] (fun _ i wr=>∃k:Nat,k≤m∧i =.int .i64 k∧Hid (X8 l k)∧Hid (Rk wr w.heap.size k (l.take k))∧Hid (ah w wr)) (fun _ i _=>m - (intOf i).toNat)
 case atStart=>exact⟨0,ω,rfl,⟨by simp,by simp⟩,gK.made w _ _ _,(ah.refl w).alloc _⟩
 case round=>
  obtain⟨k,hk,rfl,yQ,hM,hG⟩:=hrel;by_cases yR:k<m
  ·obtain⟨bb,off,x,rfl,GK,hx,hcell⟩:=(hA.o.keep hG.o).at_ yR;have c0:wr.cell? ⟨bb,off+k,none⟩=some (.string ⟨x.toArray⟩):=by simpa using hcell 0 _ rfl
   have lK:(k:Int)<(m:Int):=ω;have Fv:x.length≤maxLen:=by have:=ht.o x (List.mem_of_getElem? hx);unfold maxLen;omega
   by_cases OE:x∈l.take k
   ·have hlk:=hM.o.look Fv (x:=true) (by simp[OE]);have aO:Hid (R=false):=ζ (by rw[hR.o];exact Y6 hx (.inl OE));clear hR hcell hx OE Fv hM yQ;go_wp2;go_ret;exact⟨aN aO.o.symm,by
     exact γ
    ⟩
   ·have hlk:=hM.o.look Fv (x:=false) (by simp[OE]);have cN:=ru x;have oG:=fun h=>Y6 hx (.inr h)
    have Va:=yQ.o.next hx OE;have uJ:l.take (k+1)=l.take k++[x]:=by rw[List.take_add_one,hx];rfl
    replace uJ:=ζ uJ;generalize fP x = B at *
    replace cN:=ζ cN;clear hcell hx OE;cases B
    ·have aO:Hid (R=false):=ζ (by rw[hR.o];exact oG rfl);clear hR oG Va hM yQ uJ Fv;go_wp2_with fail;refine (cN.out _).mono ?_;rintro e w1 ⟨rfl,hb⟩;go_wp2;go_ret;exact⟨aN aO.o.symm,hG.o.trans hb⟩
    ·have akY:=ζ (Va rfl);clear oG Va yQ;go_wp2_with fail;refine (cN.out _).mono ?_;rintro e w1 ⟨rfl,hb⟩;have XG:=ζ (hM.o.grows hb);have gu:=ζ (hG.o.trans hb);clear hM hG hb hlk c0;go_wp2_with (at_mapUpdate;refine Gq XG.o rfl _ _ _ rfl (by unfold maxLen;omega) x Fv rfl rfl rfl ?_;intro w2 K_ hby;(have fG:=ζ (gu.o.aP hby (fun g hg=>by injection hg with hg;omega)));(replace K_:=ζ K_);clear hby XG gu);go_roundw
     case rel=>exact⟨k+1,ω,ν,akY,by rw[uJ.o];exact K_.o,fG.o⟩
     case measure=>exact ψ
  ·obtain rfl:k=m:=ω;have aO:Hid (R=decide (k≤8)):=ζ (by rw[hR.o];exact aiA nM.o yQ.o);clear hR hM yQ;go_wp2;go_ret;exact⟨aN (by rw[aO.o];first | rfl | (congr 1;simp;omega) | (rw[Bool.eq_iff_iff];simp;omega)),hG.o⟩
def Ak (x:xZ):Bool:=fP x.n &&dS x.l.lv
def mQ (l:List xZ):Bool:=l.all Ak&&decide (l.map (·.n)).Nodup
def oP (l:List xZ):List (List UInt8):=l.map (·.n)
theorem yI {l:List xZ} {k:Nat} {x:xZ} (hx:l[k]? = some x):(oP l)[k]? = some x.n:=by simp[oP,hx]
theorem JC {l:List xZ} {k:Nat} {x:xZ} (hx:l[k]? = some x) (h:x.n∈(oP l).take k∨Ak x = false):mQ l = false:=by
 unfold mQ;rcases h with h | h
 ·have BK:=yI hx;have:¬(l.map (·.n)).Nodup:=by
   intro hn;obtain⟨i,hi,he⟩:=List.getElem_of_mem h;rw[List.getElem_take] at he;have hik:i < k:=by simp at hi;omega
   obtain⟨hk,he2⟩:=List.getElem?_eq_some_iff.1 BK;rw[←he2] at he;exact absurd ((List.getElem_inj hn).1 he) ω
  simp[this]
 ·have:l.all Ak=false:=by
   rw[←Bool.not_eq_true,List.all_eq_true];intro ha;rw[ha x (List.mem_of_getElem? hx)] at h;cases h
  simp[this]
def wK (l:List xZ) (k:Nat):Prop:=(l.take k).all Ak=true∧((oP l).take k).Nodup
theorem wK.next {l:List xZ} {k:Nat} {x:xZ} (h:wK l k) (hx:l[k]? = some x) (h1:¬x.n∈(oP l).take k) (h2:Ak x = true):wK l (k+1):=by
 unfold wK;rw[List.take_add_one,List.take_add_one,hx,yI hx];refine⟨by rw[List.all_append,h.1];simp[h2],?_⟩;rw[List.nodup_append];refine⟨h.2,by simp,fun a ha b hb=> ?_⟩;simp at hb;subst hb;exact fun e=>h1 (e ▸ ha)
theorem WE {l:List xZ} {m:Nat} (hm:l.length=m) (h:wK l m):mQ l = true:=by
 unfold wK at h;rw[List.take_of_length_le ω,List.take_of_length_le (by simp[oP];omega)] at h;unfold mQ;rw[h.1,decide_eq_true (show (l.map (·.n)).Nodup from h.2)];rfl
theorem aam {x:f_} (w:World) (hx:x.At w) :
 Calls Tryz.prog 114 #[x.val] w fun e w'=>e =.returned (.bool (mQ x.l))∧ah w w':=by
 have hA:=hx.arr;have hm:=hx.le;have ht:=hx.txt;have hlb:=hx.U_;unfold f_.val;clear hx;obtain⟨l,A,m,c⟩:=x;simp only at hA hm ht hlb ⊢;have nM:=hA.1;obtain⟨R,hR⟩:∃R,R=mQ l:=⟨_,rfl⟩;rw[←hR];replace hR:=ζ hR;replace hA:=ζ hA;replace ht:=ζ ht;replace hlb:=ζ hlb;replace nM:=ζ nM;have hmm:= @run_makeMap Tryz.prog;go_enter Tryz.func114,Tryz.ntmps114
 go_wp2;clear hmm;go_loopw [5,9] (fun _ i wr=>∃k:Nat,k≤m∧i =.int .i64 k∧Hid (wK l k)∧Hid (Rk wr w.heap.size k ((oP l).take k))∧Hid (ah w wr)) (fun _ i _=>m - (intOf i).toNat)
 case atStart=>exact⟨0,ω,rfl,⟨by simp,by simp⟩,gK.made w _ _ _,(ah.refl w).alloc _⟩
 case round=>
  obtain⟨k,hk,rfl,yQ,hM,hG⟩:=hrel;by_cases yR:k<m
  ·obtain⟨bb,off,x,rfl,GK,hx,hcell⟩:=(hA.o.keep hG.o).at_ yR;have c0:wr.cell? ⟨bb,off+k*3,none⟩=some (.string ⟨x.n.toArray⟩):=hcell 0 _ rfl;have c1:wr.cell? ⟨bb,off+k*3+1,none⟩=some (.int .i64 x.l.lv):=hcell 1 _ rfl;have c2:wr.cell? ⟨bb,off+k*3+2,none⟩=some (.int .u32 (x.l.c:Int)):=hcell 2 _ rfl;have lK:(k:Int)<(m:Int):=ω;have yN:=List.mem_of_getElem? hx;have Fv:x.n.length≤maxLen:=by have:=ht.o x yN;unfold maxLen;omega
   have XG:=ζ ((hM.o.alloc (.cells #[.string ⟨x.n.toArray⟩,.int .i64 x.l.lv,.int .u32 (x.l.c:Int)] 41)));by_cases OE:x.n∈(oP l).take k
   ·have hlk:=Rk.look XG.o Fv (x:=true) (by simp[OE]);have aO:Hid (R=false):=ζ (by rw[hR.o];exact JC hx (.inl OE));clear hR hcell hx OE Fv hM XG yQ yN;go_wp2;go_ret;exact⟨aN aO.o.symm,by
     have:=hG.o;exact γ
    ⟩
   ·have hlk:=Rk.look XG.o Fv (x:=false) (by simp[OE]);have cN:=ru x.n;have cR:=fun W=>lN x.l W
    have oG:=fun h=>JC hx (.inr h)
    have Va:=yQ.o.next hx OE;have uJ:(oP l).take (k+1)=(oP l).take k++[x.n]:=by rw[List.take_add_one,yI hx];rfl
    replace uJ:=ζ uJ;unfold Ak at oG Va;generalize fP x.n = B at *
    generalize dS x.l.lv=B2 at *
    replace cN:=ζ cN;replace cR:=ζ cR;clear hcell hx OE yN;have I8:Hid (ah w (wr.alloc (.cells #[.string ⟨x.n.toArray⟩,.int .i64 x.l.lv,.int .u32 (x.l.c:Int)] 41))):=ζ (hG.o.alloc _);have ba:aF (wr.alloc (.cells #[.string ⟨x.n.toArray⟩,.int .i64 x.l.lv,.int .u32 (x.l.c:Int)] 41)) wr.heap.size 41 #[.string ⟨x.n.toArray⟩,.int .i64 x.l.lv,.int .u32 (x.l.c:Int)]:=aF.new wr _ _;cases B
    ·have aO:Hid (R=false):=ζ (by rw[hR.o];exact oG σ);clear hR oG Va hM XG yQ uJ Fv ba;go_wp2_with fail;refine (cN.out _).mono ?_;rintro e w1 ⟨rfl,hb⟩;go_wp2;go_ret;exact⟨aN aO.o.symm,I8.o.trans hb⟩
    ·cases B2
     ·have aO:Hid (R=false):=ζ (by rw[hR.o];exact oG σ);clear hR oG Va hM XG yQ uJ Fv;go_wp2_with fail;refine (cN.out _).mono ?_;rintro e w1 ⟨rfl,hb⟩;replace ba:=ba.grows hb;have d1:_ = some (Value.int .i64 x.l.lv):=ba.cell 1;have d2:_ = some (Value.int .u32 (x.l.c:Int)):=ba.cell 2;have sa:=ba.lt;have gu:=ζ (I8.o.trans hb);clear hb ba I8;go_wp2_with fail;refine (cR.out _).mono ?_;rintro e w2 ⟨rfl,hb2⟩;go_wp2;go_ret;exact⟨aN aO.o.symm,gu.o.trans hb2⟩
     ·have akY:=ζ (Va σ);clear oG Va yQ hM;go_wp2_with fail;refine (cN.out _).mono ?_;rintro e w1 ⟨rfl,hb⟩;replace ba:=ba.grows hb;have d1:_ = some (Value.int .i64 x.l.lv):=ba.cell 1;have d2:_ = some (Value.int .u32 (x.l.c:Int)):=ba.cell 2;have sa:=ba.lt;have gu:=ζ (I8.o.trans hb);have K_:=ζ (XG.o.grows hb);clear hb I8 XG hlk c0 c1 c2;go_wp2_with fail;refine (cR.out _).mono ?_;rintro e w2 ⟨rfl,hb2⟩;replace ba:=ba.grows hb2;have d0:_ = some (Value.string ⟨x.n.toArray⟩):=ba.cell 0;have sa2:=ba.lt;have fG:=ζ (gu.o.trans hb2);have hM3:=ζ (K_.o.grows hb2);clear hb2 ba gu K_ d1 d2 sa;go_wp2_with (at_mapUpdate;refine Gq hM3.o rfl _ _ _ rfl (by unfold maxLen;omega) x.n Fv rfl rfl rfl ?_;intro w3 hM4 hby;(have qW:=ζ (fG.o.aP hby (fun g hg=>by injection hg with hg;omega)));(replace hM4:=ζ hM4);clear hby hM3 fG);go_roundw
      case rel=>exact⟨k+1,ω,ν,akY,by rw[uJ.o];exact hM4.o,qW.o⟩
      case measure=>exact ψ
  ·obtain rfl:k=m:=ω;have aO:Hid (R=true):=ζ (by rw[hR.o];exact WE nM.o yQ.o);clear hR hM yQ;go_wp2;go_ret;exact⟨aN aO.o.symm,hG.o⟩
end Go.Proofs.YtbhikkgpcmkonaaGreatDoor
namespace Go.Proofs.YtbhikkgpcmkonaaGreatDoor
open Go.RowKit
theorem ad1 (g:FuncId) (lb:Array Value) (eg:Enters Tryz.prog g) (p:xZ→Bool) (A:Option Addr) (m c:Nat) (l:List xZ) (w:World) (h:cu w 3 Ur A m l) (hm:m≤9223372036854775807) (hp:uo Tryz.prog g lb agF p l w) :
 Calls Tryz.prog 94 #[.slice A m c,.func (.func g) #[] lb] w fun e w'=>e =.returned (.int .i64 (placeOf p l))∧ah w w':=by
 have hlen:=h.1;unfold Enters at eg;obtain⟨R,hR⟩:∃R,R=placeOf p l:=⟨_,rfl⟩;rw[←hR];replace hR:=ζ hR;replace hp:=ζ hp;replace h:=ζ h;go_enter Tryz.func94,Tryz.ntmps94
 go_wp2;go_loopw [5,8] (fun _ i wr=>∃k:Nat,k≤m∧i =.int .i64 k∧Hid (∀j y,j < k→l[j]? = some y→p y = false)∧Hid (ah w wr)) (fun _ i _=>m - (intOf i).toNat)
 case atStart=>exact⟨0,ω,rfl,fun _ _ h=>absurd h ω,ah.refl _⟩
 case round=>
  obtain⟨k,hk,rfl,hall,hg⟩:=hrel;by_cases hlt:k<m
  ·obtain⟨b,off,x,rfl,_,hx,hcell⟩:=(h.o.keep hg.o).at_ hlt;have c0:wr.cell? ⟨b,off+k*3,none⟩=some (.string ⟨x.n.toArray⟩):=hcell 0 _ rfl;have c1:wr.cell? ⟨b,off+k*3+1,none⟩=some (.int .i64 x.l.lv):=hcell 1 _ rfl;have c2:wr.cell? ⟨b,off+k*3+2,none⟩=some (.int .u32 (x.l.c:Int)):=hcell 2 _ rfl;have lK:(k:Int)<(m:Int):=ω;have cI:=hp.o x (List.mem_of_getElem? hx) wr hg.o;unfold agF at cI;cases hq:p x with
   | false=>
    rw[hq] at cI;replace cI:=ζ cI;have iQ:=ζ (show ∀j y,j < k+1→l[j]? = some y→p y = false from fun j y hj hy=>by
     by_cases hjk:j = k
     ·subst hjk;rw[hx] at hy;rw[←Option.some.inj hy];exact hq
     ·exact hall.o j y ω hy)
    clear hcell hq hx hall hR;go_wp2_with fail;refine (cI.out).mono ?_;rintro e w1 ⟨rfl,hb⟩;have hg1:=ζ (hg.o.trans hb);go_wp2;go_roundw
    case rel=>exact⟨k+1,ω,ν,iQ,hg1⟩
    case measure=>exact ψ
   | true=>
    rw[hq] at cI;have aO:Hid (R=(k:Int)):=ζ (by rw[hR.o];exact iK hx hq hall.o);replace cI:=ζ cI;clear hcell hq hx hall hR;go_wp2_with fail;refine (cI.out).mono ?_;rintro e w1 ⟨rfl,hb⟩;have hg1:=ζ (hg.o.trans hb);go_wp2;go_ret;exact⟨by rw[aO.o];rfl,hg1.o⟩
  ·obtain rfl:k=m:=ω;have aO:Hid (R=-1):=ζ (by rw[hR.o];exact gG fun j y hy=>hall.o j y (by have:=(List.getElem?_eq_some_iff.1 hy).1;omega) hy);clear hall hR;go_wp2;go_ret;exact⟨by rw[aO.o];rfl,hg.o⟩
theorem abn (x:xZ) {n:List UInt8} {g:Nat} (w:World) (hc:w.cell? ⟨g,0,none⟩=some (.string ⟨n.toArray⟩)) :
 Calls Tryz.prog 95 #[agF x,.pointer (some ⟨g,0,none⟩)] w fun e w'=>e =.returned (.bool (x.n ==n))∧ah w w':=by
 unfold agF;have hb:=World.block_lt_of_cell? w _ hc;simp only at hb;obtain⟨R,hR⟩:∃R,R=(x.n ==n):=⟨_,rfl⟩;rw[←hR];go_enter Tryz.func95,Tryz.ntmps95
 go_wp2;go_ret;refine⟨aN (by first | rfl | simp[hR]),?_⟩;exact γ
theorem abl {l:List xZ} {n:List UInt8} (h:l.any (fun x=>x.n ==n)=false):dY l n = none:=by
 unfold dY;rw[List.find?_eq_none.2 (fun x hx=>by have:=List.any_eq_false.1 h x hx;simpa using this)];rfl
theorem OX {n:List UInt8}:∀{l:List xZ} {i:Nat} {x:xZ},l[i]? = some x→(x.n ==n)=true→(l.take i).any (fun x=>x.n ==n)=false→dY l n = some x.l
 | [],i,x,h,_,_=>by simp at h
 | y ::r,0,x,h,hp,_=>by
  simp at h;subst h;simp only[beq_iff_eq] at hp;simp[dY,List.find?,hp]
 | y ::r,i + 1,x,h,hp,ha=>by
  simp only[List.take_succ_cons,List.any_cons,Bool.or_eq_false_iff] at ha;have h2:=OX (l:=r) (i:=i) (by simpa using h) hp ha.2;unfold dY at h2 ⊢;rw[List.find?_cons_of_neg (by simpa using ha.1)];exact h2
theorem vK {n:List UInt8} {l:List xZ} {y:jU} (h:dY l n = some y):∃x∈l,x.l = y:=by
 unfold dY at h;obtain⟨x,hx,rfl⟩:=Option.map_eq_some_iff.1 h;exact⟨x,List.mem_of_find?_eq_some hx,rfl⟩
def jE (o:Option jU):jU:=o.getD ⟨0,0⟩
theorem vM {A:Option Addr} {m c:Nat} {l:List xZ} {n:List UInt8} (w:World) (h:cu w 3 Ur A m l) (hm:m≤9223372036854775807) :
 Calls Tryz.prog 51 #[.slice A m c,.string ⟨n.toArray⟩] w fun e w'=>e =.returned (.tuple #[.agg #[.int .i64 (jE (dY l n)).lv,.int .u32 ((jE (dY l n)).c:Int)],.bool (dY l n).isSome])∧ah w w':=by
 have hw2:ah w ((w.alloc (.cells #[.string ⟨n.toArray⟩] 9)).alloc (.cells #[.int .i64 0,.int .u32 0] 25)):=((ah.refl w).alloc _).alloc _;have b0:aF ((w.alloc (.cells #[.string ⟨n.toArray⟩] 9)).alloc (.cells #[.int .i64 0,.int .u32 0] 25)) w.heap.size 9 #[.string ⟨n.toArray⟩]:=(aF.new w _ _).alloc _;have b1:aF ((w.alloc (.cells #[.string ⟨n.toArray⟩] 9)).alloc (.cells #[.int .i64 0,.int .u32 0] 25)) (w.heap.size+1) 25 #[.int .i64 0,.int .u32 0]:=aF.ou w _ _ _;have hA2:=h.keep hw2;have cI:=ad1 (c:=c) 95 #[.pointer (some ⟨w.heap.size,0,none⟩)] (enters_of Tryz.func95 κ rfl) (fun x=>x.n ==n) A m l _ hA2 hm (fun x _ W hW=>abn x W (hW.cell (b0.cell 0)));rcases wu (fun x:xZ=>x.n ==n) l with⟨h1,h2⟩ | ⟨i,x,h1,h2,h3,h4⟩
 ·rw[h1] at cI;rw[abl h2];replace cI:=ζ cI;replace hw2:=ζ hw2;clear hA2 h1 h2 h b0;go_enter Tryz.func51,Tryz.ntmps51
  go_wp2_with fail;refine (cI.out).mono ?_;rintro e w1 ⟨rfl,hb⟩;have d0:=(b1.grows hb).cell 0;have d1:=(b1.grows hb).cell 1;have f0:=(b1.grows hb).frozen 0;have f1:=(b1.grows hb).frozen 1;have s1:=(b1.grows hb).lt;have hg:=hw2.o.trans hb;have hg0:ah w w1:=hg;clear cI hw2;go_wp2_with fail;refine bodyPost_ret (v:=.tuple #[.agg #[.int .i64 0,.int .u32 0],.bool false]) ?_ rfl ⟨rfl,?_⟩
  ·simp[results,Tryz.results51,go_sem,d0,d1]
  ·exact γ
 ·rw[h1] at cI;rw[OX h2 h3 h4];have hi:i < m:=by have:=(List.getElem?_eq_some_iff.1 h2).1;have:=h.1;omega
  replace cI:=ζ cI;replace hw2:=ζ hw2;replace hA2:=ζ hA2;clear h1 h3 h4 h b0;go_enter Tryz.func51,Tryz.ntmps51
  go_wp2_with fail;refine (cI.out).mono ?_;rintro e w1 ⟨rfl,hb⟩;obtain⟨b,off,x',rfl,_,hx,hcell⟩:=(hA2.o.keep hb).at_ hi;obtain rfl:x'=x:=Option.some.inj (hx.symm.trans h2);have c1:w1.cell? ⟨b,off+i * 3+1,none⟩=some (.int .i64 x'.l.lv):=hcell 1 _ rfl;have c2:w1.cell? ⟨b,off+i * 3+2,none⟩=some (.int .u32 (x'.l.c:Int)):=hcell 2 _ rfl;have d0:=(b1.grows hb).cell 0;have d1:=(b1.grows hb).cell 1;have f0:=(b1.grows hb).frozen 0;have f1:=(b1.grows hb).frozen 1;have s1:=(b1.grows hb).lt;have hg:=hw2.o.trans hb;have hg0:ah w w1:=hg;clear cI hw2 hA2 hcell hx h2;go_wp2_with fail;refine bodyPost_ret (v:=.tuple #[.agg #[.int .i64 x'.l.lv,.int .u32 (x'.l.c:Int)],.bool true]) ?_ rfl ⟨rfl,?_⟩
  ·simp[results,Tryz.results51,go_sem,d0,d1]
  ·exact γ
end Go.Proofs.YtbhikkgpcmkonaaGreatDoor
