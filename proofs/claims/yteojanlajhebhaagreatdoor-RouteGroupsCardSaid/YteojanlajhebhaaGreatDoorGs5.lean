/- Parts: RowB Txt RteP Dat FldA FldB FldC MapS PolA Shelf LibR Sieve PolD -/
import Derived.Test.YteojanlajhebhaaGreatDoorGs0
import Derived.Laws.IdiomStrings
import Derived.Lib.AppendStr
import Derived.ArgAppend
import Derived.Test.YteojanlajhebhaaGreatDoorGs4
import Derived.Shelf.GgClosure.StringsIndexFunc
import Derived.Test.YteojanlajhebhaaGreatDoorGs1
import Derived.Test.YteojanlajhebhaaGreatDoorGs3
import Derived.Test.YteojanlajhebhaaGreatDoorGs2
import Derived.PlainAid
import Derived.Maps.OwnSet
import Derived.Maps.OwnOps
import Derived.Shelf.GgClosure.StringsIndexFuncTop
import Derived.Shelf.LaysM
import Derived.Shelf.Strconv.Itoa3
import Derived.Test.YteojanlajhebhaaGreatDoorProg
import Derived.Shelf.Abstract
import Derived.Lib.SliceRun
set_option maxRecDepth 100000
set_option maxHeartbeats 12800000
namespace Go.Proofs.YteojanlajhebhaaGreatDoor
open Go.RowKit
def jg (w:World) (base:Nat) (v:Value) (xs:List Nat):Prop:=
 (v =.slice none 0 0∧xs=[])∨∃g cap cur fz,v =.slice (some ⟨g,0,none⟩) xs.length cap∧base≤g∧w.heap[g]? = some (.cells cur 5 fz)∧(∀j,j < cur.size→(decide (fz.1≤j)&&decide (j < fz.2))=false)∧
  xs.length≤cap∧cap≤maxLen∧cur.size=cap∧∀i (h:i < xs.length),cur[i]? = some (.int .u8 ((xs[i]:Nat):Int))
section
variable {w w':World} {base:Nat} {v:Value} {xs ys:List Nat}
theorem jg.iH (w:World) (base:Nat):jg w base (.slice none 0 0) []:=.inl ⟨rfl,rfl⟩
theorem jg.grows (h:jg w base v xs) (hg:ah w w'):jg w' base v xs:=by
 rcases h with h | ⟨g,cap,cur,fz,hv,hb,hh,r⟩
 ·exact .inl h
 ·exact .inr ⟨g,cap,cur,fz,hv,hb,(hg.below.block g (Array.getElem?_eq_some_iff.1 hh).1).trans hh,r⟩
theorem jg.alloc (h:jg w base v xs) (o:Obj):jg (w.alloc o) base v xs:=h.grows ((ah.refl w).alloc o)
theorem jg.eH (h:jg w base v xs):∀j,v.ownBlock=some j→base≤j:=fun j hj=>by
 rcases h with⟨h2,_⟩ | ⟨g,cap,cur,fz,hv,hb,_⟩
 ·rw[h2] at hj;cases hj
 ·rw[hv] at hj;simp only[Value.ownBlock,Option.some.injEq] at hj;omega
theorem jg.sU (h:Own w base 5 1 kE v xs):jg w base v xs:=by
 have h2:=h;rcases h.2 with⟨h3,h4⟩ | ⟨g,cap,cur,hv,hb,hh,_⟩
 ·exact .inl ⟨h3,List.eq_nil_of_length_eq_zero h4⟩
 ·rw[hv] at h2;obtain⟨cur',_,hb',hh',yc,hcm,hcs,hc⟩:=h2.Ba Yy;refine .inr ⟨g,cap,cur',(0,0),hv,hb',hh',fun j _=>by simp,yc,hcm,ω,fun i hi=> ?_⟩;have:=hc i hi 0 ω;simpa[kE] using this
theorem jg.arr (h:jg w base v xs):∃A c,v =.slice A xs.length c∧xs.length≤c∧c≤maxLen∧dH w 1 kE A xs.length xs:=by
 rcases h with⟨rfl,rfl⟩ | ⟨g,cap,cur,fz,rfl,hb,hh,hfz,yc,hcm,hcs,hc⟩
 ·exact⟨none,0,rfl,by simp,by simp[maxLen],dH.iH⟩
 ·refine⟨_,_,rfl,yc,hcm,rfl,fun _=>⟨g,0,rfl,(Array.getElem?_eq_some_iff.1 hh).1,fun i hi j u hu=> ?_⟩⟩;have hj:j = 0:=by have:=(List.getElem?_eq_some_iff.1 hu).1;simp[kE] at this;omega
  subst hj;simp only[World.cell?,hh];have:=hc i hi;simp only[kE,List.getElem?_cons_zero,Option.some.injEq] at hu;subst hu;simpa using this
theorem I7 (g:Nat) (e:TypeId) (fz:Nat×Nat):∀(vs:List Value) (o:Nat) (w:World) (cur:Array Value),w.heap[g]? = some (.cells cur e fz)→o + vs.length≤cur.size→
 ∃cur',(w.setCells g o vs).heap[g]? = some (.cells cur' e fz)∧cur'.size=cur.size∧∀t:Nat,cur'[t]? = if o≤t∧t < o + vs.length then vs[t - o]? else cur[t]?
 | [],o,w,cur,h,_=>⟨cur,h,rfl,fun t=>by rw[if_neg σ]⟩
 | v ::r,o,w,cur,h,hl=>by
  simp only[List.length_cons] at hl;have h1:(w.setCell ⟨g,o,none⟩ v).heap[g]? = some (.cells (cur.setIfInBounds o v) e fz):=by
   simp[World.setCell,Array.getElem?_modify,h]
  obtain⟨cur',h2,h3,h4⟩:=I7 g e fz r (o + 1) _ _ h1 (by simp;omega);refine⟨cur',h2,by simpa using h3,fun t=> ?_⟩;rw[h4 t];by_cases ht:t = o
  ·subst ht;rw[if_neg ω,if_pos σ,Array.getElem?_setIfInBounds];simp;omega
  ·by_cases h5:o + 1≤t∧t < o + 1+r.length
   ·rw[if_pos h5,if_pos (by simp;omega),show t - o = (t - (o + 1))+1 by omega];simp
   ·rw[if_neg h5,if_neg (by simp;omega)];simp[Ne.symm ht]
theorem vW (g:Nat):∀(vs:List Value) (o:Nat) (w:World),w.grownBy (w.setCells g o vs) (some g)
 | [],_,w=>World.grownBy.refl w _
 | v ::r,o,w=>(aj w ⟨g,o,none⟩ v).trans (vW g r (o + 1) _)
def fK (ys:List Nat):List Value:=ys.map fun (x:Nat)=>Value.int .u8 (x:Int)
theorem jg.room {g cap:Nat} (h:jg w base (.slice (some ⟨g,0,none⟩) xs.length cap) xs) (hroom:xs.length+ys.length≤cap) :
 jg (w.setCells g xs.length (fK ys)) base (.slice (some ⟨g,0,none⟩) (xs.length+ys.length) cap) (xs++ys)∧(∀j,j < (fK ys).length→(w.cell? ⟨g,xs.length+j,none⟩).isSome=true)∧∀j,j < (fK ys).length→w.frozen? ⟨g,xs.length+j,none⟩=false:=by
 have yO:(fK ys).length=ys.length:=by simp[fK]
 rcases h with⟨h,_⟩ | ⟨g',cap',cur,fz,hv,hb,hh,hfz,yc,hcm,hcs,hc⟩
 ·cases h
 simp only[Value.slice.injEq,Option.some.injEq,Addr.mk.injEq,and_true,true_and] at hv;obtain⟨rfl,rfl⟩:=hv;obtain⟨cur',h1,h2,h3⟩:=I7 g 5 fz (fK ys) xs.length w cur hh (by rw[yO];omega);refine⟨.inr ⟨g,cap,cur',fz,by rw[List.length_append],hb,h1,by rw[h2];exact hfz,by rw[List.length_append];exact hroom,hcm,ω,fun i hi=> ?_⟩,fun j hj=> ?_,fun j hj=> ?_⟩
 ·rw[h3];by_cases hi2:i < xs.length
  ·rw[if_neg ω,hc i hi2,List.getElem_append_left hi2]
  ·rw[List.length_append] at hi;rw[if_pos (by rw[yO];omega),List.getElem_append_right ω];simp[fK,show i - xs.length<ys.length by omega]
 ·have:xs.length+j < cur.size:=ω;simp[World.cell?,hh,this]
 ·have:=hfz (xs.length+j) ω;simpa[World.frozen?,hh] using this
theorem adO (ys:List Nat):fB kE ys=fK ys:=by
 unfold fB fK kE;induction ys with
 | nil=>rfl
 | cons y ys ih=>simp only[List.flatMap_cons,List.map_cons,ih];rfl
theorem Lh (ys:List Nat):∀u∈fK ys,u.oneCell'=true:=by
 intro u hu;simp only[fK,List.mem_map] at hu;obtain⟨x,_,rfl⟩:=hu;rfl
theorem RI {ad:Addr} {m:Nat} (sD:dH w 1 kE (some ad) m ys):∀j u,(fK ys)[j]? = some u→w.cell? (ad.add j)=some u:=by
 intro j u hu;have hj:j < ys.length:=by have:=(List.getElem?_eq_some_iff.1 hu).1;simpa[fK] using this
 obtain⟨b,off,e1,_,hc⟩:=sD.2 (by rw[←sD.1];omega);cases e1
 have h3:=hc j hj 0 u (by rw[←hu];simp[fK,kE,hj]);have:(⟨b,off,none⟩:Addr).add j = ⟨b,off+j,none⟩:=by unfold Addr.add;by_cases hj:j = 0 <;> simp[hj]
 rw[this];simpa using h3
theorem jg.Gu {base' n:Nat} {v':Value} {zs:List Nat} (h:w.ownsRow base' 5 1 v' n (fK zs)) (hb:base≤base'):jg w base v' zs:=by
 have hn:n = zs.length:=by have:=h.1;simp[fK] at this;omega
 subst hn;rw[←adO] at h;have h2:Own w base' 5 1 kE v' zs:=h;rcases jg.sU h2 with h | ⟨g,cap,cur,fz,hv,hb',r⟩
 ·exact .inl h
 ·exact .inr ⟨g,cap,cur,fz,hv,Nat.le_trans hb hb',r⟩
theorem XW:∃i,Tryz.prog.info? 5=some i∧i.zero=some (.int .u8 0)∧i.size=1∧i.bytes=1:=by
 have h:(Tryz.prog.info? 5).map (fun i=>(i.zero,i.size,i.bytes))=some (some (.int .u8 0),1,1):=by kernel_rfl
 cases hi:Tryz.prog.info? 5 with
 | none=>rw[hi] at h;cases h
 | some i=>
  rw[hi] at h;simp only[Option.map_some,Option.some.injEq,Prod.mk.injEq] at h;exact⟨i,rfl,h.1,h.2.1,h.2.2⟩
theorem jg.adZ (h:jg w base v xs) {A:Option Addr} {m c:Nat} (sD:dH w 1 kE A m ys) (hbase:base≤w.heap.size) (hlen:xs.length+m≤1099511700000) (ty:TypeId) :
 ∃v' w',(Builtin.append_ #[94,94] ty #[v,.slice A m c]).run Tryz.prog w =.ok v' w'∧jg w' base v' (xs++ys)∧w.grownBy w' v.ownBlock:=by
 obtain⟨i,hi,hz,hsz,hby⟩:=XW;have ht:=Tryz.underlying94;have qA:=sD.1;have yO:(fK ys).length=m * i.size:=by rw[hsz];simp[fK,qA]
 have h63:xs.length+m≤maxLen:=by unfold maxLen;omega
 cases A with
 | none=>
  have hm:m = 0:=by
   rcases Nat.eq_zero_or_pos m with h0 | h0
   ·exact h0
   ·obtain⟨b,off,h,_⟩:=sD.2 h0;cases h
  subst hm;obtain rfl:ys=[]:=List.eq_nil_of_length_eq_zero qA;refine⟨v,w,?_,by rw[List.append_nil];exact h,World.grownBy.refl w _⟩;rcases h with⟨rfl,rfl⟩ | ⟨g,cap,cur,fz,rfl,_,_,_,yc,_⟩
  ·simp[Builtin.append_,run_underlying ht,sizeOf,typeInfo,hi,Builtin.lenOf,Builtin.firstCells]
  ·simp[Builtin.append_,run_underlying ht,sizeOf,typeInfo,hi,Builtin.lenOf,Builtin.firstCells,yc,storeCells]
 | some ad=>
  have hnews:=RI sD;have h0:=h;rcases h with⟨rfl,rfl⟩ | ⟨g,cap,cur,fz,rfl,hb,hh,hfz,yc,hcm,hcs,hc⟩
  ·obtain⟨v',w',hr,h2,h3,_,_⟩:=run_append_own_at (P:=Tryz.prog) w base 94 ty 5 i (.int .u8 0) 1 1 ht hi hz hsz hby rfl ω (.slice none 0 0) 0 [] (World.ownsRow_nil w base _ _) ad m c (fK ys) (by rw[yO,hsz]) hnews (Lh ys) (by simpa using h63) (by simp at hlen;omega) hbase;exact⟨v',w',hr,jg.Gu (by simpa using h2) (Nat.le_refl _),h3⟩
  ·by_cases hroom:xs.length+m≤cap
   ·obtain⟨hO,hcell,apb⟩:=jg.room (ys:=ys) h0 ω;have hr:=run_append_room_cells (P:=Tryz.prog) w 94 ty 5 i ht hi g 0 xs.length cap ad m c (fK ys) yO hnews (Lh ys) hroom (fun j hj=>by rw[hsz];have h9:=hcell j hj;rw[Nat.mul_one];first | exact h9 | (simp only[Nat.zero_add];exact h9)) (fun j hj=>by rw[hsz];have h9:=apb j hj;rw[Nat.mul_one];first | exact h9 | (simp only[Nat.zero_add];exact h9));rw[hsz,Nat.mul_one,Nat.zero_add] at hr;rw[qA] at hO;exact⟨_,_,hr,hO,vW g _ _ _⟩
   ·have holds:∀j u,(fK xs)[j]? = some u→w.cell? ((⟨g,0,none⟩:Addr).add j)=some u:=by
     obtain⟨A',c',hv,_,_,hA⟩:=h0.arr;cases hv
     exact RI hA
    obtain⟨v',w',hr,h2,h3⟩:=run_append_arg_grows (P:=Tryz.prog) w 94 ty 5 i (.int .u8 0) 1 1 ht hi hz hsz hby rfl ω ⟨g,0,none⟩ xs.length cap (fK xs) (by simp[fK]) holds ad m c (fK ys) (by rw[yO,hsz]) hnews ω h63 ω;refine⟨v',w',hr,jg.Gu (n:=xs.length+m) (by rw[show fK (xs++ys)=fK xs++fK ys by simp[fK]];exact h2) hbase,h3.but _⟩
def rY (s:ByteArray):List Nat:=s.data.toList.map (·.toNat)
theorem gQ (s:ByteArray):(rY s).length=s.size:=by
 unfold rY;rw[List.length_map,Array.length_toList];rfl
theorem EI (s:ByteArray):Lib.strCells s = fK (rY s):=by simp[Lib.strCells,fK,rY]
theorem jg.adY (h:jg w base v xs) (s:ByteArray) (hbase:base≤w.heap.size) (hlen:xs.length+s.size≤1099511700000) (ty:TypeId) :
 ∃v' w',(Builtin.append_ #[94,9] ty #[v,.string s]).run Tryz.prog w =.ok v' w'∧jg w' base v' (xs++rY s)∧w.grownBy w' v.ownBlock:=by
 obtain⟨i,hi,hz,hsz,hby⟩:=XW;have ht:=Tryz.underlying94;have hu:=Tryz.underlying9;have h63:xs.length+s.size≤maxLen:=by unfold maxLen;omega
 have h0:=h;rcases h with⟨rfl,rfl⟩ | ⟨g,cap,cur,fz,rfl,hb,hh,hfz,yc,hcm,hcs,hc⟩
 ·obtain⟨v',w',hr,h2,h3,_⟩:=Lib.run_append_own_string (P:=Tryz.prog) w base 94 9 ty 5 i ht hu hi hz hsz hby (.slice none 0 0) 0 [] (World.ownsRow_nil w base _ _) s (by simpa using h63) (by simp at hlen;omega) hbase;exact⟨v',w',hr,jg.Gu (by rw[List.nil_append,←EI];simpa using h2) (Nat.le_refl _),h3⟩
 ·have tX:=gQ s;by_cases hroom:xs.length+s.size≤cap
  ·obtain⟨hO,hcell,apb⟩:=jg.room (ys:=rY s) h0 ω;have hf:=Lib.run_firstCells_string (P:=Tryz.prog) w 1 s;have hst:=run_storeCells_cells (P:=Tryz.prog) g xs.length (fK (rY s)) 0 w (by simpa using hcell) (by simpa using apb) (Lh _);rw[EI] at hf;simp only[Nat.add_zero] at hst;rw[tX] at hO;refine⟨_,_,?_,hO,vW g _ _ _⟩;simp[Builtin.append_,run_underlying ht,run_underlying hu,sizeOf,typeInfo,hi,hsz,Builtin.lenOf,hroom,hf,Addr.add_lit,hst]
  ·have holds:∀j u,(fK xs)[j]? = some u→w.cell? ((⟨g,0,none⟩:Addr).add j)=some u:=by
    obtain⟨A',c',hv,_,_,hA⟩:=h0.arr;cases hv
    exact RI hA
   have hr:=Lib.run_append_grow_string (P:=Tryz.prog) w 94 9 ty 5 i (.int .u8 0) ht hu hi hz ⟨g,0,none⟩ xs.length cap (fK xs) (by simp[fK,hsz]) holds s ω ω (growslice_fits ω (by rw[hby];omega));have N9:=grownCap_ge w (xs.length+s.size) cap 5;have MI:=grownCap_le_maxLen w (xs.length+s.size) cap 5 h63;have hlx:(fK xs).length=xs.length:=by simp[fK]
   have hls:(Lib.strCells s).length=s.size:=Lib.strCells_length s;refine⟨_,_,hr,jg.Gu (n:=xs.length+s.size) (base':=w.heap.size) ?_ hbase,((ah.refl w).drew.alloc _).iM _⟩;rw[show fK (xs++rY s)=fK xs++Lib.strCells s by rw[EI];simp[fK]];refine⟨by rw[List.length_append,hlx,hls,Nat.mul_one],.inr ⟨w.heap.size,_,_,rfl,Nat.le_refl _,heap_alloc_new w.drew _,N9,MI,?_,?_⟩⟩
   ·simp only[Array.size_append,List.size_toArray,size_zeroCells,hlx,hls,Value.cells];simp;omega
   ·simp only[Array.toList_append,List.append_assoc];rw[←List.append_assoc];have:(xs.length+s.size)*1=(fK xs++Lib.strCells s).length:=by rw[List.length_append,hlx,hls,Nat.mul_one]
    rw[this];exact List.take_left
theorem jg.amr (s:ByteArray) (w:World) (hs:s.size≤1099511627776) :
 ∃v w',(convert 9 94 (.string s)).run Tryz.prog w =.ok v w'∧jg w' w.heap.size v (rY s)∧ah w w':=by
 have hr:=run_bytes_of_string (P:=Tryz.prog) w 9 94 5 s Tryz.underlying9 Tryz.underlying94 Tryz.underlying5;have N9:=grownCap_ge w s.size 0 5;have hcm:=grownCap_le_maxLen w s.size 0 5 (by unfold maxLen;omega);have hsz:(bytesRow s (grownCap w s.size 0 5)).size=grownCap w s.size 0 5:=by
  unfold bytesRow;rw[Array.size_append,Array.size_map,Array.size_replicate];have:s.data.size=s.size:=rfl;omega
 refine⟨_,_,hr,.inr ⟨w.heap.size,_,_,_,by rw[gQ],Nat.le_refl _,heap_alloc_new w.drew _,fun j hj=> ?_,by rw[gQ];exact N9,hcm,hsz,fun i hi=> ?_⟩,(ah.refl w).drew.alloc _⟩
 ·simp;omega
 ·rw[gQ] at hi;rw[bytesRow_at s _ i hi];simp[rY]
end
end Go.Proofs.YteojanlajhebhaaGreatDoor
namespace Go.Proofs.YteojanlajhebhaaGreatDoor
theorem TD {s:ByteArray} {i:Nat} {b:UInt8} (hb:s.get! i = b) (h:b.toNat<128):Utf8.decode s i = (b.toNat,1):=by
 unfold Utf8.decode;simp only[Nat.add_zero,hb,h,if_true]
theorem decode_high {s:ByteArray} {i:Nat} {b:UInt8} (hb:s.get! i = b) (h:128≤b.toNat):128≤(Utf8.decode s i).1:=by
 unfold Utf8.decode;have h':¬b.toNat<128:=ω;simp only[Nat.add_zero,hb,h',if_false,Utf8.runeError];split
 ·split <;> (try simp) <;> omega
 ·split
  ·split
   ·rename_i hc;simp only[Bool.and_eq_true,decide_eq_true_eq] at hc;show 128≤_;omega
   ·simp
  ·split
   ·split
    ·rename_i hc;simp only[Bool.and_eq_true,decide_eq_true_eq] at hc;show 128≤_;omega
    ·simp
   ·simp
theorem U2 {p:Nat→Bool} {q:UInt8→Bool} (h1:∀b:UInt8,b.toNat<128→p b.toNat=q b) (h2:∀r,128≤r→p r = true) (h3:∀b:UInt8,128≤b.toNat→q b = true) (s:ByteArray) :
 ∀(f pos:Nat),s.size≤pos+f→decide (0≤Lib.idxFuncFrom p true s f pos)=(s.data.toList.drop pos).any q:=by
 intro f;induction f with
 | zero=>
  intro pos hf;rw[List.drop_of_length_le (by rw[Array.length_toList];exact hf)];rfl
 | succ f ih=>
  intro pos hf;unfold Lib.idxFuncFrom;by_cases hp:pos<s.size
  ·rw[if_pos hp];have hl:pos<s.data.toList.length:=by rw[Array.length_toList];exact hp
   rw[List.drop_eq_getElem_cons hl,List.any_cons];have hg:s.get! pos=s.data.toList[pos]:=by
    rw[Array.getElem_toList];show s.data[pos]! = _
    exact getElem!_pos s.data pos hp
   by_cases hb:(s.get! pos).toNat<128
   ·rw[TD rfl hb,h1 _ hb,hg];cases hq:q s.data.toList[pos]
    ·simp only[Bool.false_eq_true,if_false,Bool.false_or];exact ih (pos+1) ω
    ·simp
   ·have akQ:128≤(s.get! pos).toNat:=ω;rw[h2 _ (decode_high rfl akQ),←hg,h3 _ akQ];simp
  ·rw[if_neg hp,List.drop_of_length_le (by rw[Array.length_toList];show s.size≤pos;omega)];rfl
theorem agz {p:Nat→Bool} {q:UInt8→Bool} (h1:∀b:UInt8,b.toNat<128→p b.toNat=q b) (h2:∀r,128≤r→p r = true) (h3:∀b:UInt8,128≤b.toNat→q b = true) (s:ByteArray) :
 decide (0≤Lib.idxFunc p true s)=s.data.toList.any q:=U2 h1 h2 h3 s s.size 0 ω
def Xh (r:Nat):Bool:=decide (97≤r)&&decide (r≤122)
def Jc (r:Nat):Bool:=decide (48≤r)&&decide (r≤57)
def P8 (r:Nat):Bool:= !(decide (r = 95))&& !(Xh r)&& !(Jc r)
def IG (b:UInt8):Bool:= !(P8 b.toNat)
def f_ (s:List UInt8):Bool:=decide (1≤s.length)&&decide (s.length≤12)&& !(Jc (s.headD 0).toNat)&&s.all IG
theorem VN {r:Nat} (h:128≤r):P8 r = true:=by
 unfold P8 Xh Jc;simp;omega
theorem ajw (s:ByteArray):(!(decide (0≤Lib.idxFunc P8 true s)))=s.data.toList.all IG:=by
 rw[agz (q:=fun b=>P8 b.toNat) (fun _ _=>rfl) (fun _ h=>VN h) (fun _ h=>VN h) s,List.not_any_eq_all_not];rfl
def EJ (i:Nat) (b:UInt8):Bool:=Xh b.toNat||decide (b.toNat=95)||(Jc b.toNat&&decide (0<i))
theorem OQ (i:Nat) (b:UInt8):EJ (i + 1) b = IG b:=by
 unfold EJ IG P8;simp only[Nat.zero_lt_succ,decide_true,Bool.and_true,Bool.not_and,Bool.not_not];cases Xh b.toNat <;> cases decide (b.toNat=95) <;> cases Jc b.toNat <;> rfl
theorem II (b:UInt8):EJ 0 b = (IG b && !(Jc b.toNat)):=by
 unfold EJ IG P8;have h:Xh b.toNat=true→Jc b.toNat=false:=by unfold Xh Jc;simp;omega
 have h5:decide (b.toNat=95)=true→Jc b.toNat=false:=by unfold Jc;simp;omega
 simp only[Nat.lt_irrefl,decide_false,Bool.and_false,Bool.or_false,Bool.not_and,Bool.not_not];revert h h5
 cases Xh b.toNat <;> cases decide (b.toNat=95) <;> cases Jc b.toNat <;> simp
structure eu where
 n:List UInt8
 v:List UInt8
deriving DecidableEq
structure Hl where
 n:List UInt8
 l:Cc
deriving DecidableEq
structure jq where
 n:List UInt8
 op:Int
 v:List UInt8
deriving DecidableEq
structure Rte where
 r:List UInt8
 iM:List (List UInt8)
 wait:Int
 every:Int
 again:Int
 wh:List jq
deriving DecidableEq
structure Inh where
 iM:List (List UInt8)
 l:Cc
 from_:List jq
 wh:List jq
deriving DecidableEq
structure HY where
 sources:List Hl
 receivers:List Hl
 aoG:List Hl
 raises:List Hl
 routes:List Rte
 IX:List Inh
structure Jj where
 src:List UInt8
 fs:List eu
 l:Cc
 f:Int
 t:Int
structure oh where
 route:Nat
 iM:List eu
 key:Nat
 ids:List Nat
deriving DecidableEq
def gG (l:List Hl) (n:List UInt8):Option Cc:=(l.find? fun x=>decide (x.n = n)).map (·.l)
def jA (p:HY) (n:List UInt8) (l:Cc):Cc:=match gG p.raises n with
 | some r=>yC l r
 | none=>l
def iY (p:HY) (fs:List eu) (l to:Cc):List eu:=fs.filter fun f=>nO (jA p f.n l) to
def kZ:List UInt8→List UInt8→Bool
 | [],[]=>false
 | [],_ ::_=>true
 | _ ::_,[]=>false
 | a ::x,b ::y=>if a = b then kZ x y else decide (a.toNat<b.toNat)
def XY:List eu→Bool
 | []=>true
 | [_]=>true
 | a ::b ::l=>kZ a.n b.n &&XY (b ::l)
def mZ (l:List eu):Bool:=(l.all fun f=>f_ f.n &&decide (f.v.length≤200))&&XY l &&decide (l.length≤8)
def Qx:Int:=1099511627776
def rD (a:Jj):Bool:=f_ a.src&&decide (0<a.fs.length)&&mZ a.fs&&dK a.l.lv&&decide (0≤a.f∧a.f≤Qx)&&decide (a.t = 0∨(a.f < a.t∧a.t≤Qx))
def vX (a:Jj) (now:Int):Bool:=decide (a.f≤now)&&(decide (a.t = 0)||decide (now<a.t))
def G9 (p:HY) (a:Jj) (to:Cc):Option Jj:=if (iY p a.fs a.l to).length=0∨nO a.l to=false then none else some {a with fs:=iY p a.fs a.l to}
def jH (p:HY) (rec:List UInt8) (a:Jj) (now:Int):Option Jj:=match gG p.receivers rec with
 | none=>none
 | some to=>if rD a &&vX a now then G9 p a to else none
def dV (l:List eu) (names:List (List UInt8)):List eu:=l.filter fun f=>decide (f.n∈names)
def vK (f:eu):List UInt8:=f.n ++61::(f.v ++[0])
def Gv (l:List UInt8):List Nat:=l.map (·.toNat)
end Go.Proofs.YteojanlajhebhaaGreatDoor
namespace Go.Proofs.YteojanlajhebhaaGreatDoor
open Go.RowKit
def sv (s:List UInt8):Value:=.string ⟨s.toArray⟩
def fU (x:eu):List Value:=[.string ⟨x.n.toArray⟩,.string ⟨x.v.toArray⟩]
theorem JW (x:eu):(fU x).length=2:=rfl
theorem amo (x:eu):∀u∈fU x,u.oneCell'=true:=by intro u hu;simp[fU] at hu;rcases hu with rfl | rfl <;> rfl
theorem ap_:iK Tryz.prog 37 63 2 32:=iK.mk' (z:=.agg #[.string ⟨#[]⟩,.string ⟨#[]⟩]) Tryz.underlying37 κ rfl ω
theorem Ar (l:List UInt8):rY ⟨l.toArray⟩=Gv l:=rfl
theorem bsize (l:List UInt8):(⟨l.toArray⟩:ByteArray).size=l.length:=by show l.toArray.size=_;simp
theorem aju (a:List UInt8):(Gv a).length=a.length:=List.length_map _
theorem Qv (a:List UInt8):∀x∈Gv a,x < 256:=by
 intro x hx;simp only[Gv,List.mem_map] at hx;obtain⟨b,_,rfl⟩:=hx;exact b.toNat_lt
theorem Kt {P:Program} {ops:Array Oper} {rest:List Oper} {o:Oper} {ac:Act} {w w':World} {v:Value} {Q:Exit→Act→World→Prop} (hgd:o.guard=none) (hr:(execOp ac.eval o).run P w =.ok (.value v) w')
 (hK:wpList P ops Q rest (ac.put o.dst v) w'):wpList P ops Q (o ::rest) ac w:=
 wpList_step fun K' hk=>by
  rw[if_pos (by simp[Region.wanted,hgd])];unfold Oper.wp;rw[hr];exact hk _ _ hK
theorem Pv {P:Program} {o:Oper} {ac:Act} {w w':World} {t u:TypeId} {v vy v':Value} (s y:Operand) (ho:o.op=.call {callee:=.builtin .append,args:= #[s,y],argTypes:= #[t,u]})
 (hs:ac.eval s = v) (hy:ac.eval y = vy) (hr:(Builtin.append_ #[t,u] o.type #[v,vy]).run P w =.ok v' w'):(execOp ac.eval o).run P w =.ok (.value v') w':=by
 unfold execOp;simp only[ho,resolve,invoke,builtin,Sem.run_bind,Sem.run_pure,Result.andThen_ok,List.map_toArray,List.map_cons,List.map_nil,hs,hy,hr]
theorem XK {P:Program} {o:Oper} {ac:Act} {w w':World} {t u:TypeId} {vx v':Value} (x:Operand) (ho:o.op=.convert t u x) (hx:ac.eval x = vx) (hr:(convert t u vx).run P w =.ok v' w') :
 (execOp ac.eval o).run P w =.ok (.value v') w':=by
 unfold execOp;simp only[ho,Sem.run_bind,Sem.run_pure,Result.andThen_ok,hx,hr]
theorem lH {ops:Array Oper} {rest:List Oper} {o:Oper} {ac:Act} {w:World} {Q:Exit→Act→World→Prop} {base:Nat} {v:Value} {xs ys:List Nat} {A:Option Addr} {m c:Nat} (hgd:o.guard=none) (s y:Operand)
 (ho:o.op=.call {callee:=.builtin .append,args:= #[s,y],argTypes:= #[94,94]}) (hs:ac.eval s = v) (hy:ac.eval y =.slice A m c) (h:jg w base v xs) (sD:dH w 1 kE A m ys) (hbase:base≤w.heap.size) (hlen:xs.length+m≤1099511700000)
 (hK:∀v' w',jg w' base v' (xs++ys)→w.grownBy w' v.ownBlock→wpList Tryz.prog ops Q rest (ac.put o.dst v') w'):wpList Tryz.prog ops Q (o ::rest) ac w:=by
 obtain⟨v',w',hr,h1,h2⟩:=h.adZ sD hbase hlen o.type;exact Kt hgd (Pv s y ho hs hy hr) (hK v' w' h1 h2)
theorem Di {ops:Array Oper} {rest:List Oper} {o:Oper} {ac:Act} {w:World} {Q:Exit→Act→World→Prop} {base:Nat} {v:Value} {xs:List Nat} {t:ByteArray} (hgd:o.guard=none) (s y:Operand)
 (ho:o.op=.call {callee:=.builtin .append,args:= #[s,y],argTypes:= #[94,9]}) (hs:ac.eval s = v) (hy:ac.eval y =.string t) (h:jg w base v xs) (hbase:base≤w.heap.size) (hlen:xs.length+t.size≤1099511700000)
 (hK:∀v' w',jg w' base v' (xs++rY t)→w.grownBy w' v.ownBlock→wpList Tryz.prog ops Q rest (ac.put o.dst v') w'):wpList Tryz.prog ops Q (o ::rest) ac w:=by
 obtain⟨v',w',hr,h1,h2⟩:=h.adY t hbase hlen o.type;exact Kt hgd (Pv s y ho hs hy hr) (hK v' w' h1 h2)
theorem lG {ops:Array Oper} {rest:List Oper} {o:Oper} {ac:Act} {w:World} {Q:Exit→Act→World→Prop} {t:ByteArray} (hgd:o.guard=none) (x:Operand)
 (ho:o.op=.convert 9 94 x) (hx:ac.eval x =.string t) (hlen:t.size≤1099511627776)
 (hK:∀v' w',jg w' w.heap.size v' (rY t)→ah w w'→wpList Tryz.prog ops Q rest (ac.put o.dst v') w'):wpList Tryz.prog ops Q (o ::rest) ac w:=by
 obtain⟨v',w',hr,h1,h2⟩:=jg.amr t w hlen;exact Kt hgd (XK x ho hx hr) (hK v' w' h1 h2)
theorem jg.ig {w:World} {base base':Nat} {v:Value} {xs:List Nat} (h:jg w base v xs) (hb:base'≤base):jg w base' v xs:=by
 rcases h with h | ⟨g,cap,cur,fz,hv,hb',r⟩
 ·exact .inl h
 ·exact .inr ⟨g,cap,cur,fz,hv,Nat.le_trans hb hb',r⟩
theorem dH.alg {w:World} {g:Nat} {t:TypeId} {x y:Nat} (h:aS w g t #[.int .u8 (x:Int),.int .u8 (y:Int)]):dH w 1 kE (some ⟨g,0,none⟩) 2 [x,y]:=by
 refine⟨rfl,fun _=>⟨g,0,rfl,h.lt,fun i hi j u hu=> ?_⟩⟩;have hj:j = 0:=by have:=(List.getElem?_eq_some_iff.1 hu).1;simp[kE] at this;omega
 subst hj;rw[h.cell];have hi2:i < 2:=hi;match i,hi2 with
 | 0,_=>exact hu
 | 1,_=>exact hu
end Go.Proofs.YteojanlajhebhaaGreatDoor
namespace Go.Proofs.YteojanlajhebhaaGreatDoor
open Go.RowKit Go.PlainAid
theorem aeZ (S:ByteArray) {k:Nat} {x:UInt8} (h:S.data.toList[k]? = some x):bt S k=(x.toNat:Int):=by
 have hk:k<S.size:=by
  have:=(List.getElem?_eq_some_iff.1 h).1;rw[Array.length_toList] at this;exact this
 rw[←get_bt S k hk];have h1:=(List.getElem?_eq_some_iff.1 h).2;congr 2
theorem aaA (x y:UInt8) (r s:List UInt8):kZ (x ::r) (y ::s)=if x = y then kZ r s else decide (x.toNat<y.toNat):=rfl
theorem TP {r s:List UInt8} (h:r = []∨s = []):kZ r s = decide (r.length<s.length):=by
 rcases h with rfl | rfl
 ·cases s <;> simp[kZ]
 ·cases r <;> simp[kZ]
theorem ad2 (S T:ByteArray) (hs:S.size≤9223372036854775807) (ht:T.size≤9223372036854775807) (w:World) :
 Calls Tryz.prog 97 #[.string S,.string T] w fun e w'=>e =.returned (.bool (kZ S.data.toList T.data.toList))∧ah w w':=by
 have hS:S.data.toList.length=S.size:=Array.length_toList;have hT:T.data.toList.length=T.size:=Array.length_toList;have hbS:=get_bt S;have hbT:=get_bt T;have hxS:=fun k x=>aeZ S (k:=k) (x:=x)
 have Xn:=fun k x=>aeZ T (k:=k) (x:=x)
 replace hxS:=ζ hxS;replace Xn:=ζ Xn;generalize S.data.toList=a at *
 generalize T.data.toList=b at *
 obtain⟨R,hR⟩:∃R,R=kZ a b:=⟨_,rfl⟩;rw[←hR];go_enter Tryz.func97,Tryz.ntmps97
 go_wp2;go_loopw [5] (fun i wr=>∃k:Nat,k≤S.size∧k≤T.size∧i =.int .i64 k∧Hid (R=kZ (a.drop k) (b.drop k))∧ah w wr) (fun i _=>S.size-(intOf i).toNat)
 case atStart=>exact⟨0,ω,ω,rfl,hR,ah.refl _⟩
 case round=>
  clear hR;obtain⟨k,hk1,hk2,rfl,hR,hG⟩:=hrel;by_cases hks:k<S.size
  ·have i1:(k:Int)<(S.size:Int):=ω;by_cases hkt:k<T.size
   ·have i2:(k:Int)<(T.size:Int):=ω;obtain⟨x,hx⟩:∃x,a[k]? = some x:=⟨_,List.getElem?_eq_getElem ω⟩;obtain⟨y,hy⟩:∃y,b[k]? = some y:=⟨_,List.getElem?_eq_getElem ω⟩;have SY:=hbS k hks;have hby:=hbT k hkt;rw[hxS.o k x hx] at SY;rw[Xn.o k y hy] at hby;have da:a.drop k=x ::a.drop (k+1):=by
     have h1:k<a.length:=ω;rw[List.drop_eq_getElem_cons h1];rw[List.getElem?_eq_getElem h1] at hx;rw[Option.some.inj hx]
    have db:b.drop k=y ::b.drop (k+1):=by
     have h1:k<b.length:=ω;rw[List.drop_eq_getElem_cons h1];rw[List.getElem?_eq_getElem h1] at hy;rw[Option.some.inj hy]
    have EZ:=hR.o;rw[da,db,aaA] at EZ;have yL:=x.toNat_lt;have VY:=y.toNat_lt;clear hbS hbT hR da db hx hy;by_cases Qy:x = y
    ·rw[if_pos Qy] at EZ;subst Qy;replace EZ:=ζ EZ;clear VY;go_wp2_with fail;refine aJ κ ?_;refine rK (.range 7) 0 ?_;iterate 7 refine aB ?_
     refine ay ?_;refine aP κ (fun wN hN hS=> ?_);go_wp2;go_roundw
     case rel=>exact⟨k+1,ω,ω,ν,EZ,hG.trans hN⟩
     case measure=>exact ψ
    ·rw[if_neg Qy] at EZ;have hne:¬((x.toNat:Int)=(y.toNat:Int)):=fun h=>Qy (UInt8.toNat_inj.1 ω)
     generalize x.toNat=X at *
     generalize y.toNat=Y at *
     clear Qy;replace EZ:=ζ EZ;go_wp2_with fail;refine aJ κ ?_;refine rK (.range 7) 0 ?_;iterate 7 refine aB ?_
     refine ay ?_;refine aP κ (fun wN hN hS=> ?_);rename_i aqY;replace hG:=hG.trans hN;clear hN hS;go_wp2_with fail;refine aJ κ ?_;refine rK (.range 8) 0 ?_;iterate 8 refine aB ?_
     refine ay ?_;refine aP κ (fun wN hN hS=> ?_);go_wp2;go_ret;rw[EZ.o];exact⟨aU σ,hG.trans hN⟩
   ·have i2:¬((k:Int)<(T.size:Int)):=ω;have EZ:=hR.o;rw[TP (.inr (List.drop_of_length_le ω)),List.length_drop,List.length_drop] at EZ;replace EZ:=ζ EZ;clear hR hbS hbT;go_wp2;go_ret;rw[EZ.o];refine⟨aU ?_,hG⟩;rw[Bool.eq_iff_iff];simp only[decide_eq_true_eq];omega
  ·have i1:¬((k:Int)<(S.size:Int)):=ω;have EZ:=hR.o;rw[TP (.inl (List.drop_of_length_le ω)),List.length_drop,List.length_drop] at EZ;replace EZ:=ζ EZ;clear hR hbS hbT;go_wp2;go_ret;rw[EZ.o];refine⟨aU ?_,hG⟩;rw[Bool.eq_iff_iff];simp only[decide_eq_true_eq];omega
theorem ahv (a b:List UInt8) (ha:a.length≤9223372036854775807) (hb:b.length≤9223372036854775807) (w:World) :
 Calls Tryz.prog 97 #[.string ⟨a.toArray⟩,.string ⟨b.toArray⟩] w fun e w'=>e =.returned (.bool (kZ a b))∧ah w w':=ad2 ⟨a.toArray⟩ ⟨b.toArray⟩ (by rw[bsize];exact ha) (by rw[bsize];exact hb) w
theorem acO {a:List UInt8} {k:Nat} {x:UInt8} (hx:a[k]? = some x) (h:EJ k x = false):f_ a = false:=by
 have hm:=List.mem_of_getElem? hx;have hall:IG x = false→a.all IG=false:=fun h=>by
  rw[←Bool.not_eq_true,List.all_eq_true];intro hh;rw[hh x hm] at h;cases h
 unfold f_;cases k with
 | zero=>
  rw[II] at h;have hh:a.headD 0=x:=by cases a <;> simp_all
  rw[hh];cases hs:IG x
  ·rw[hall hs];simp
  ·rw[hs] at h;have:Jc x.toNat=true:=by simpa using h
   rw[this];simp
 | succ k=>
  rw[OQ] at h;rw[hall h];simp
theorem agj {a:List UInt8} (h:∀j x,a[j]? = some x→EJ j x = true):f_ a = (decide (1≤a.length)&&decide (a.length≤12)):=by
 have h1:a.all IG=true:=by
  rw[List.all_eq_true];intro x hx;obtain⟨j,hj⟩:=List.getElem?_of_mem hx;have:=h j x hj;cases j with
  | zero=>rw[II] at this;simp at this;exact this.1
  | succ j=>rw[OQ] at this;exact this
 unfold f_;rw[h1];cases a with
 | nil=>simp
 | cons x r=>
  have:=h 0 x rfl;rw[II] at this;simp at this;simp[this.2]
theorem agk (S:ByteArray) (hs:S.size≤9223372036854775807) (w:World) :
 Calls Tryz.prog 62 #[.string S] w fun e w'=>e =.returned (.bool (f_ S.data.toList))∧ah w w':=by
 have hS:S.data.toList.length=S.size:=Array.length_toList;have hbS:=get_bt S;have hxS:=fun k x=>aeZ S (k:=k) (x:=x)
 replace hxS:=ζ hxS;generalize S.data.toList=a at *
 obtain⟨R,hR⟩:∃R,R=f_ a:=⟨_,rfl⟩;rw[←hR];replace hR:=ζ hR;go_enter Tryz.func62,Tryz.ntmps62
 go_wp2;go_loopw [3] (fun i wr=>∃k:Nat,k≤S.size∧i =.int .i64 k∧Hid (∀j x,j < k→a[j]? = some x→EJ j x = true)∧wr=w) (fun i _=>S.size-(intOf i).toNat)
 case atStart=>exact⟨0,ω,rfl,fun _ _ h=>absurd h ω,rfl⟩
 case round=>
  obtain⟨k,hk1,rfl,hall,rfl⟩:=hrel;by_cases hks:k<S.size
  ·have i1:(k:Int)<(S.size:Int):=ω;obtain⟨x,hx⟩:∃x,a[k]? = some x:=⟨_,List.getElem?_eq_getElem ω⟩;have SY:=hbS k hks;rw[hxS.o k x hx] at SY;have hno:=fun h=>acO hx h
   have pO:EJ k x = true→Hid (∀j y,j < k+1→a[j]? = some y→EJ j y = true):=fun h j y hj hy=>by
    by_cases hjk:j = k
    ·subst hjk;rw[hx] at hy;rw[←Option.some.inj hy];exact h
    ·exact hall.o j y ω hy
   unfold EJ Xh Jc at hno pO;clear hbS hx hall;have yL:=x.toNat_lt;generalize x.toNat=X at *
   have hX0:0≤(X:Int)∧(X:Int)≤255:=ω;clear yL;by_cases J3:97≤X∧X≤122
   ·have hy:=pO (by simp[J3.1,J3.2]);have g1:(97:Int)≤X:=ω;have g2:(X:Int)≤122:=ω;clear hno pO J3;go_wp2;go_roundw
    case rel=>exact⟨k+1,ω,ν,hy,trivial⟩
    case measure=>exact ψ
   ·by_cases h3:X=95
    ·have hy:=pO (by simp[h3]);subst h3;clear hno pO J3;go_wp2;go_roundw
     case rel=>exact⟨k+1,ω,ν,hy,trivial⟩
     case measure=>exact ψ
    ·have g3:¬((X:Int)=95):=ω;by_cases h45:48≤X∧X≤57∧0<k
     ·have hy:=pO (by simp[h45.1,h45.2.1,h45.2.2]);have g1:¬((97:Int)≤X):=ω;have g4:(48:Int)≤X:=ω;have g5:(X:Int)≤57:=ω;have g6:0<k:=h45.2.2;clear hno pO J3 h45;go_wp2;go_roundw
      case rel=>exact⟨k+1,ω,ν,hy,trivial⟩
      case measure=>exact ψ
     ·have hn:f_ a = false:=hno (by
       rw[Bool.or_eq_false_iff,Bool.or_eq_false_iff];refine⟨⟨?_,by simp[h3]⟩,?_⟩
       ·rw[←Bool.not_eq_true];simp;omega
       ·rw[←Bool.not_eq_true];simp;omega)
      have aQ:R=false:=by rw[hR.o,hn]
      replace aQ:=ζ aQ;clear hno pO hn;by_cases h1:97≤X
      ·have g1:(97:Int)≤X:=ω;have g2:¬((X:Int)≤122):=ω;have g4:(48:Int)≤X:=ω;have g5:¬((X:Int)≤57):=ω;clear J3 h45 h1 h3;go_wp2;go_ret;exact⟨aU aQ.o.symm,ah.refl _⟩
      ·have g1:¬((97:Int)≤X):=ω;by_cases h4:48≤X
       ·have g4:(48:Int)≤X:=ω;by_cases h5:X≤57
        ·have g5:(X:Int)≤57:=ω;have g6:¬(0<k):=ω;clear J3 h45 h1 h3 h4 h5;go_wp2;go_ret;exact⟨aU aQ.o.symm,ah.refl _⟩
        ·have g5:¬((X:Int)≤57):=ω;clear J3 h45 h1 h3 h4 h5;go_wp2;go_ret;exact⟨aU aQ.o.symm,ah.refl _⟩
       ·have g4:¬((48:Int)≤X):=ω;clear J3 h45 h1 h3 h4;go_wp2;go_ret;exact⟨aU aQ.o.symm,ah.refl _⟩
  ·obtain rfl:k=S.size:=ω;have aQ:R=(decide (1≤S.size)&&decide (S.size≤12)):=by
    rw[hR.o,agj (fun j x hx=>hall.o j x (by have:=(List.getElem?_eq_some_iff.1 hx).1;omega) hx),hS]
   clear hbS hall;by_cases h1:1≤S.size
   ·have g1:(1:Int)≤(S.size:Int):=ω;by_cases h2:S.size≤12
    ·have g2:(S.size:Int)≤12:=ω;simp only[h1,h2,decide_true,Bool.and_self] at aQ;replace aQ:=ζ aQ;go_wp2;go_ret;exact⟨aU (by rw[aQ.o]),ah.refl _⟩
    ·have g2:¬((S.size:Int)≤12):=ω;simp only[h2,decide_false,Bool.and_false] at aQ;replace aQ:=ζ aQ;go_wp2;go_ret;exact⟨aU (by rw[aQ.o]),ah.refl _⟩
   ·have g1:¬((1:Int)≤(S.size:Int)):=ω;simp only[h1,decide_false,Bool.false_and] at aQ;replace aQ:=ζ aQ;go_wp2;go_ret;exact⟨aU (by rw[aQ.o]),ah.refl _⟩
theorem Fj (a:List UInt8) (ha:a.length≤9223372036854775807) (w:World) :
 Calls Tryz.prog 62 #[.string ⟨a.toArray⟩] w fun e w'=>e =.returned (.bool (f_ a))∧ah w w':=agk ⟨a.toArray⟩ (by rw[bsize];exact ha) w
end Go.Proofs.YteojanlajhebhaaGreatDoor
namespace Go.Proofs.YteojanlajhebhaaGreatDoor
open Go.RowKit
theorem ae3:∀{l:List eu},XY l = true→∀{j:Nat} {e f:eu},l[j]? = some e→l[j + 1]? = some f→kZ e.n f.n = true
 | [],_,_,_,_,h,_=>by simp at h
 | [_],_,_,_,_,_,h=>by simp at h
 | a ::b ::l,hl,j,e,f,he,hf=>by
  have h2:kZ a.n b.n = true∧XY (b ::l)=true:=by simpa[XY] using hl
  cases j with
  | zero=>simp at he hf;subst he hf;exact h2.1
  | succ j=>exact ae3 h2.2 (by simpa using he) (by simpa using hf)
theorem ae2:∀{l:List eu},(∀(j:Nat) (e f:eu),l[j]? = some e→l[j + 1]? = some f→kZ e.n f.n = true)→XY l = true
 | [],_=>rfl
 | [_],_=>rfl
 | a ::b ::l,h=>by
  have h1:=h 0 a b rfl rfl;have h2:=ae2 (l:=b ::l) (fun j e f he hf=>h (j + 1) e f (by simpa using he) (by simpa using hf));show (kZ a.n b.n &&XY (b ::l))=true
  rw[h1,h2];rfl
def Qm (f:eu):Bool:=f_ f.n &&decide (f.v.length≤200)
theorem Dv {l:List eu} {k:Nat} {f:eu} (hf:l[k]? = some f) (h:Qm f = false):mZ l = false:=by
 have hall:l.all (fun f=>f_ f.n &&decide (f.v.length≤200))=false:=by
  rw[←Bool.not_eq_true,List.all_eq_true];intro hh;have:=hh f (List.mem_of_getElem? hf);unfold Qm at h;rw[h] at this;cases this
 unfold mZ;rw[hall];rfl
theorem Pq {l:List eu} {k:Nat} {e f:eu} (he:l[k]? = some e) (hf:l[k+1]? = some f) (h:kZ e.n f.n = false):mZ l = false:=by
 have hall:XY l = false:=by
  rw[←Bool.not_eq_true];intro hh;rw[ae3 hh he hf] at h;cases h
 unfold mZ;rw[hall];simp
def yS (l:List eu) (k:Nat):Prop:=(∀j f,j < k→l[j]? = some f→Qm f = true)∧(∀j e f,j + 1<k→l[j]? = some e→l[j + 1]? = some f→kZ e.n f.n = true)
theorem yS.succ {l:List eu} {k:Nat} {f:eu} (h:yS l k) (hf:l[k]? = some f) (hb:Qm f = true) (ha:∀e,0<k→l[k-1]? = some e→kZ e.n f.n = true):yS l (k+1):=by
 refine⟨fun j g hj hg=> ?_,fun j e g hj he hg=> ?_⟩
 ·by_cases hjk:j = k
  ·subst hjk;rw[hf] at hg;rw[←Option.some.inj hg];exact hb
  ·exact h.1 j g ω hg
 ·by_cases hjk:j + 1=k
  ·subst hjk;rw[hf] at hg;rw[←Option.some.inj hg];exact ha e ω (by simpa using he)
  ·exact h.2 j e g ω he hg
theorem yS.all {l:List eu} (h:yS l l.length):mZ l = decide (l.length≤8):=by
 have h1:l.all (fun f=>f_ f.n &&decide (f.v.length≤200))=true:=by
  rw[List.all_eq_true];intro f hf;obtain⟨j,hj⟩:=List.getElem?_of_mem hf;exact h.1 j f (List.getElem?_eq_some_iff.1 hj).1 hj
 have h2:XY l = true:=ae2 fun j e f he hf=>h.2 j e f (List.getElem?_eq_some_iff.1 hf).1 he hf
 unfold mZ;rw[h1,h2];simp
theorem abY {A:Option Addr} {m c:Nat} {fs:List eu} (w:World) (hA:dH w 2 fU A m fs) (hm:m≤9223372036854775807) (hf:∀f∈fs,f.n.length≤9223372036854775807∧f.v.length≤9223372036854775807) :
 Calls Tryz.prog 63 #[.slice A m c] w fun e w'=>e =.returned (.bool (mZ fs))∧ah w w':=by
 have qA:=hA.1;obtain⟨R,hR⟩:∃R,R=mZ fs:=⟨_,rfl⟩;rw[←hR];replace hR:=ζ hR;replace hA:=ζ hA;replace hf:=ζ hf;go_enter Tryz.func63,Tryz.ntmps63
 go_wp2;go_loopw [3] (fun i wr=>∃k:Nat,k≤m∧i =.int .i64 k∧Hid (yS fs k)∧Hid (ah w wr)) (fun i _=>m - (intOf i).toNat)
 case atStart=>exact⟨0,ω,rfl,⟨fun _ _ h=>absurd h ω,fun _ _ _ h=>absurd h ω⟩,ah.refl _⟩
 case round=>
  obtain⟨k,hk,rfl,hall,hG⟩:=hrel;by_cases nV:k<m
  ·obtain⟨bb,off,f,rfl,JI,hx,hcell⟩:=(hA.o.keep hG.o).at_ nV;have c0:wr.cell? ⟨bb,off+k*2,none⟩=some (.string ⟨f.n.toArray⟩):=by simpa using hcell 0 _ rfl
   have c1:wr.cell? ⟨bb,off+k*2+1,none⟩=some (.string ⟨f.v.toArray⟩):=by simpa using hcell 1 _ rfl
   have w_:=hf.o f (List.mem_of_getElem? hx);have asU:=w_.1;have Io:=w_.2;have j_:(k:Int)<(m:Int):=ω;have cN:=fun W=>Fj f.n asU W
   have hbz:=bsize f.v;cases Hw:f_ f.n with
   | false=>
    have aQ:=hR.o;rw[Dv hx (by unfold Qm;rw[Hw];rfl)] at aQ;rw[Hw] at cN;replace aQ:=ζ aQ;replace cN:=ζ cN;clear hcell hx w_ Hw hall hR hbz;go_wp2_with fail;refine aJ κ ?_;refine rK (.range 35) 0 ?_;iterate 5 refine aB ?_
    refine bJ (.bool false) rfl χ (fun wq gY=> ?_) ?_
    ·obtain⟨qB,rE⟩:=bW gY;go_simp;exact Calls.mono (cN.out wq) (fun e w'' h=>h)
    go_simp;iterate 25 refine aB ?_
    refine vC rfl χ ?_;go_simp;iterate 3 refine aB ?_
    refine ay ?_;refine aP κ (fun wN hN hS=> ?_);go_wp2;go_ret;exact⟨aU (by rw[aQ.o]),hG.o.trans hN⟩
   | true=>
    rw[Hw] at cN;replace cN:=ζ cN;by_cases hv:f.v.length≤200
    ·have Dq:Qm f = true:=by unfold Qm;rw[Hw];simp[hv]
     have hvi:¬((200:Int)<(f.v.length:Int)):=ω;by_cases T_:0<k
     ·obtain⟨j,rfl⟩:∃j,k=j + 1:=⟨k-1,ω⟩;obtain⟨bb',acJ,e,hA',hse,he,KT⟩:=(hA.o.keep hG.o).at_ (show j < m by omega);injection hA' with hA'
      injection hA' with hb1 hb2
      subst hb1 hb2;have c2:wr.cell? ⟨bb,off+j * 2,none⟩=some (.string ⟨e.n.toArray⟩):=by simpa using KT 0 _ rfl
      have cA:=fun W=>ahv e.n f.n (hf.o e (List.mem_of_getElem? he)).1 asU W
      have i0:(0:Int)<((j + 1:Nat):Int):=ω;have i1:((j + 1:Nat):Int)-1=(j:Int):=ω;have i2:(j:Int)<(m:Int):=ω;cases hah:kZ e.n f.n with
      | false=>
       rw[hah] at cA;replace cA:=ζ cA;have aQ:=hR.o;rw[Pq he hx hah] at aQ;replace aQ:=ζ aQ;clear hcell KT hx he w_ Hw hall hR Dq hah;go_wp2_with fail;refine aJ κ ?_;refine rK (.range 35) 0 ?_;iterate 5 refine aB ?_
       refine bJ (.bool true) rfl χ (fun wq gY=> ?_) ?_
       ·obtain⟨qB,rE⟩:=bW gY;go_simp;exact Calls.mono (cN.out wq) (fun e w'' h=>h)
       go_simp;iterate 25 refine aB ?_
       refine bJ (.bool false) rfl χ (fun wq gY=> ?_) ?_
       ·obtain⟨qB,rE⟩:=bW gY;go_simp;exact Calls.mono (cA.out wq) (fun e w'' h=>h)
       go_simp;iterate 3 refine aB ?_
       refine ay ?_;refine aP κ (fun wN hN hS=> ?_);go_wp2;go_ret;exact⟨aU (by rw[aQ.o]),hG.o.trans hN⟩
      | true=>
       rw[hah] at cA;replace cA:=ζ cA;have jV:=ζ (hall.o.succ hx Dq (fun e' _ Xy=>by rw[show j + 1-1=j from rfl,he] at Xy;rw[←Option.some.inj Xy];exact hah));clear hcell KT hx he w_ Hw hall Dq hah;go_wp2_with fail;refine aJ κ ?_;refine rK (.range 35) 0 ?_;iterate 5 refine aB ?_
       refine bJ (.bool true) rfl χ (fun wq gY=> ?_) ?_
       ·obtain⟨qB,rE⟩:=bW gY;go_simp;exact Calls.mono (cN.out wq) (fun e w'' h=>h)
       go_simp;iterate 25 refine aB ?_
       refine bJ (.bool true) rfl χ (fun wq gY=> ?_) ?_
       ·obtain⟨qB,rE⟩:=bW gY;go_simp;exact Calls.mono (cA.out wq) (fun e w'' h=>h)
       go_simp;iterate 3 refine aB ?_
       refine ay ?_;refine aP κ (fun wN hN hS=> ?_);go_wp2;go_roundw
       case rel=>exact⟨j + 1+1,ω,ν,jV,hG.o.trans hN⟩
       case measure=>exact ψ
     ·obtain rfl:k=0:=ω;simp only[Nat.zero_mul,Nat.add_zero] at c0 c1;have jV:=ζ (hall.o.succ hx Dq (fun e' h _=>absurd h ω));clear hcell hx w_ Hw hall Dq T_;go_wp2_with fail;refine aJ κ ?_;refine rK (.range 35) 0 ?_;iterate 5 refine aB ?_
      refine bJ (.bool true) rfl χ (fun wq gY=> ?_) ?_
      ·obtain⟨qB,rE⟩:=bW gY;go_simp;exact Calls.mono (cN.out wq) (fun e w'' h=>h)
      go_simp;iterate 25 refine aB ?_
      refine vC rfl χ ?_;go_simp;iterate 3 refine aB ?_
      refine ay ?_;refine aP κ (fun wN hN hS=> ?_);go_wp2;go_roundw
      case rel=>exact⟨1,ω,ν,jV,hG.o.trans hN⟩
      case measure=>exact ψ
    ·have hvi:(200:Int)<(f.v.length:Int):=ω;have aQ:=hR.o;rw[Dv hx (by unfold Qm;rw[Hw];simp[hv])] at aQ;replace aQ:=ζ aQ;clear hcell hx w_ Hw hall hR;go_wp2_with fail;refine aJ κ ?_;refine rK (.range 35) 0 ?_;iterate 5 refine aB ?_
     refine bJ (.bool true) rfl χ (fun wq gY=> ?_) ?_
     ·obtain⟨qB,rE⟩:=bW gY;go_simp;exact Calls.mono (cN.out wq) (fun e w'' h=>h)
     go_simp;iterate 25 refine aB ?_
     refine vC rfl χ ?_;go_simp;iterate 3 refine aB ?_
     refine ay ?_;refine aP κ (fun wN hN hS=> ?_);go_wp2;go_ret;exact⟨aU (by rw[aQ.o]),hG.o.trans hN⟩
  ·obtain rfl:k=m:=ω;have aQ:=hR.o;rw[yS.all (by rw[qA];exact hall.o),qA] at aQ;by_cases h8:k≤8
   ·have h8i:(k:Int)≤8:=ω;simp only[h8,decide_true] at aQ;replace aQ:=ζ aQ;clear hR hall;go_wp2;go_ret;exact⟨aU (by rw[aQ.o]),hG.o⟩
   ·have h8i:¬((k:Int)≤8):=ω;simp only[h8,decide_false] at aQ;replace aQ:=ζ aQ;clear hR hall;go_wp2;go_ret;exact⟨aU (by rw[aQ.o]),hG.o⟩
end Go.Proofs.YteojanlajhebhaaGreatDoor
namespace Go.Proofs.YteojanlajhebhaaGreatDoor
open Go.RowKit Go.Maps Go.WideMaps
def tV:List (List UInt8×Lit)→List UInt8→Option Lit
 | [],_=>none
 | x ::r,s=>match tV r s with
  | some d=>some d
  | none=>if x.1=s then some x.2 else none
theorem GI (x:List UInt8×Lit) (r:List (List UInt8×Lit)) (s:List UInt8):tV (x ::r) s = match tV r s with
 | some d=>some d
 | none=>if x.1=s then some x.2 else none:=rfl
def KD (l:List (List UInt8×Lit)) (m:DataW Unit):DataW Unit:=l.foldl (fun m x=>m.put (.string x.1) (.lit x.2)) m
theorem W_:∀(l:List (List UInt8×Lit)) (m:DataW Unit),IsMap m→IsMap (KD l m)
 | [],_,h=>h
 | _ ::r,_,h=>W_ r _ (h.put _ _)
theorem VW (s:List UInt8):WideAt.IsKeyLit (.string s):=by first | trivial | simp[WideAt.IsKeyLit] | exact⟨⟩
theorem NI (z:DataW Unit) (s:List UInt8):∀(l:List (List UInt8×Lit)) (m:DataW Unit),IsMap m→(KD l m).atKey (.string s) z = (match tV l s with | some d=> .lit d | none=>m.atKey (.string s) z)
 | [],_,_=>rfl
 | x ::r,m,h=>by
  show (KD r (m.put (.string x.1) (.lit x.2))).atKey (.string s) z = _
  rw[NI z s r _ (h.put _ _)];rw[GI];cases tV r s with
  | some d=>rfl
  | none=>
   by_cases he:x.1=s
   ·subst he;simp only[if_true];exact atKey_put_same h (VW _) _ _
   ·simp only[he,if_false];exact atKey_put_other (fun e=>he (by injection e with e;exact e.symm)) _ _
theorem Ry (s:List UInt8):∀(l:List (List UInt8×Lit)) (m:DataW Unit),IsMap m→Maps.has (KD l m) (.string s)=((tV l s).isSome||Maps.has m (.string s))
 | [],_,_=>rfl
 | x ::r,m,h=>by
  show Maps.has (KD r (m.put (.string x.1) (.lit x.2))) (.string s)=_
  rw[Ry s r _ (h.put _ _)];rw[GI];cases tV r s with
  | some d=>rfl
  | none=>
   by_cases he:x.1=s
   ·subst he;simp only[if_true];rw[has_put_same h (VW _)];rfl
   ·simp only[he,if_false];rw[has_put_other (fun e=>he (by injection e with e;exact e.symm))]
def lW (P:Program) (k e:TypeId) (w:World) (b n:Nat) (l:List (List UInt8×Lit)):Prop:=w.ownsMap (H:=Unit) P k (plainElem P e) b n (KD l (.map []))
section
variable {P:Program} {k e t:TypeId} {w:World} {b n:Nat} {l:List (List UInt8×Lit)}
theorem lW.made (w:World) (P:Program) (k e:TypeId):lW P k e (w.alloc (.map #[] 0)) w.heap.size 0 []:=World.ownsMap_made w P k _
theorem lW.alloc (h:lW P k e w b n l) (o:Obj):lW P k e (w.alloc o) b n l:=World.ownsMap.alloc h o
theorem lW.kept {w':World} {row:Option Nat} (h:lW P k e w b n l) (hg:w.grownBy w' row) (hne:some b≠row):lW P k e w' b n l:=World.ownsMap.kept h hg hne
theorem lW.agq (h:lW P k e w b n l) (hk:P.underlying k=some .string) (ht:P.underlying t = some (.map k e)) (he:P.underlying e = some .bool) (hz:(zeroValue e).run P w =.ok (.bool false) w) {s:List UInt8} (hs:s.length≤maxLen) {x:Bool} (hx:(tV l s).getD (.bool false)=.bool x) :
 (Instr.lookup t (.map (some b)) (.string ⟨s.toArray⟩) false).run P w =.ok (.bool x) w:=by
 obtain⟨v,ps,hrun,hv⟩:=World.ownsMap.lookup h (string_keyed hk) ht hz (plainElem_bool he false) (key:=.string ⟨s.toArray⟩) (kl:=.string s) (by simpa using keyOf_string_mk hk (s:=⟨s.toArray⟩) (by simpa[ByteArray.size] using hs));rw[NI _ _ _ _ isMap_empty] at hv;have e1:(match tV l s with | some d=>(DataW.lit d:DataW Unit) | none=>(DataW.map []:DataW Unit).atKey (.string s) (.lit (.bool false)))=.lit (.bool x):=by
  cases hl:tV l s with
  | some d=>rw[hl] at hx;simp only[Option.getD_some] at hx;rw[hx]
  | none=>rw[hl] at hx;simp only[Option.getD_none] at hx;rw[←hx];rfl
 rw[e1] at hv;have:v =.bool x:=by
  unfold plainElem at hv;rw[he] at hv;cases v <;> simp at hv
  rw[hv.1]
 rw[←this];exact hrun
theorem lW.ajy (h:lW P k e w b n l) (hk:P.underlying k=some .string) (ht:P.underlying t = some (.map k e)) (he:P.underlying e = some (.int .i64)) (hz:(zeroValue e).run P w =.ok (.int .i64 0) w) {s:List UInt8} (hs:s.length≤maxLen) {x:Int} (hx:(tV l s).getD (.int .i64 0)=.int .i64 x) :
 (Instr.lookup t (.map (some b)) (.string ⟨s.toArray⟩) true).run P w =.ok (.tuple #[.int .i64 x,.bool (tV l s).isSome]) w:=by
 obtain⟨v,ps,hrun,hv⟩:=World.ownsMap.look_ok h (string_keyed hk) ht hz (plainElem_int he δ) (key:=.string ⟨s.toArray⟩) (kl:=.string s) (by simpa using keyOf_string_mk hk (s:=⟨s.toArray⟩) (by simpa[ByteArray.size] using hs));rw[NI _ _ _ _ isMap_empty] at hv;have e1:(match tV l s with | some d=>(DataW.lit d:DataW Unit) | none=>(DataW.map []:DataW Unit).atKey (.string s) (.lit (.int .i64 0)))=.lit (.int .i64 x):=by
  cases hl:tV l s with
  | some d=>rw[hl] at hx;simp only[Option.getD_some] at hx;rw[hx]
  | none=>rw[hl] at hx;simp only[Option.getD_none] at hx;rw[←hx];rfl
 rw[e1] at hv;obtain⟨a,rfl,ha,_⟩:=plainElem_int_inv he hv;have:x = a:=by have:=congrArg Prod.fst ha;simpa using this
 subst this;rw[Ry _ _ _ isMap_empty] at hrun;have e2:((tV l s).isSome||Maps.has (DataW.map []:DataW Unit) (.string s))=(tV l s).isSome:=by
  have:Maps.has (DataW.map []:DataW Unit) (.string s)=false:=rfl;rw[this,Bool.or_false]
 rw[e2] at hrun;exact hrun
theorem OE {ops:Array Oper} {rest:List Oper} {o:Oper} {a:Act} {Q:Exit→Act→World→Prop} (h:lW P k e w b n l)
 (hg:o.guard=none) (m x v:Operand) (hop:o.op=Op.mapUpdate t m x v) (hk:P.underlying k=some .string) (ht:P.underlying t = some (.map k e)) (hn:n < maxLen) (s:List UInt8) (hs:s.length≤maxLen) (val:Value) (d:Lit)
 (hm:a.eval m =.map (some b)) (hx:a.eval x =.string ⟨s.toArray⟩) (hv:a.eval v = val) (hd:plainElem (H:=Unit) P e val=some (.lit d,[]))
 (hK:∀w',lW P k e w' b (n + 1) (l ++[(s,d)])→w.grownBy w' (some b)→wpList P ops Q rest (a.put o.dst undef) w') :
 wpList P ops Q (o ::rest) a w:=by
 refine wpList_mapUpdate_own w hg m x v t hop k e (string_keyed hk) ht _ b n _ hm h hn _ _ (.string s) hx hv (by simpa using keyOf_string_mk hk (s:=⟨s.toArray⟩) (by simpa[ByteArray.size] using hs)) _ _ hd ?_;intro w' h1 h2;refine hK w' ?_ h2;unfold lW;unfold KD;rw[List.foldl_append];exact h1
end
end Go.Proofs.YteojanlajhebhaaGreatDoor
namespace Go.Proofs.YteojanlajhebhaaGreatDoor
open Go.RowKit
def placeOf {α:Type} (p:α→Bool) (l:List α):Int:=match l.findIdx? p with
 | some i=>(i:Int)
 | none=> -1
theorem nZ {α:Type} {p:α→Bool} {l:List α} {k:Nat} {x:α} (hx:l[k]? = some x) (hp:p x = true) (av1:∀j y,j < k→l[j]? = some y→p y = false):placeOf p l = (k:Int):=by
 have:l.findIdx? p = some k:=by
  rw[List.findIdx?_eq_some_iff_getElem];obtain⟨h1,h2⟩:=List.getElem?_eq_some_iff.1 hx;refine⟨h1,by rw[h2];exact hp,fun j hj=> ?_⟩;have:=av1 j (l[j]'ω) hj (List.getElem?_eq_getElem _);simp[this]
 unfold placeOf;rw[this]
theorem lM {α:Type} {p:α→Bool} {l:List α} (h:∀(j:Nat) (y:α),l[j]? = some y→p y = false):placeOf p l =-1:=by
 have:l.findIdx? p = none:=by
  rw[List.findIdx?_eq_none_iff];intro x hx;obtain⟨j,hj⟩:=List.getElem?_of_mem hx;exact h j x hj
 unfold placeOf;rw[this]
theorem nG {α:Type} (p:α→Bool) (l:List α):decide (0≤placeOf p l)=l.any p:=by
 unfold placeOf;cases h:l.findIdx? p with
 | some i=>
  obtain⟨h1,h2,_⟩:=List.findIdx?_eq_some_iff_getElem.1 h;have:l.any p = true:=List.any_eq_true.2 ⟨_,List.getElem_mem h1,h2⟩;rw[this];simp
 | none=>
  have h1:=List.findIdx?_eq_none_iff.1 h;have:l.any p = false:=by
   rw[←Bool.not_eq_true,List.any_eq_true];rintro⟨x,hx,hp⟩;rw[h1 x hx] at hp;cases hp
  rw[this];simp
theorem acY {A:Option Addr} {m c:Nat} {l:List (List UInt8)} {v:List UInt8} (w:World) (hA:dH w 1 encS A m l) (hm:m≤9223372036854775807) :
 Calls Tryz.prog 106 #[.slice A m c,.string ⟨v.toArray⟩] w fun e w'=>e =.returned (.int .i64 (placeOf (fun x=>v ==x) l))∧ah w w':=by
 have qA:=hA.1;obtain⟨R,hR⟩:∃R,R=placeOf (fun x=>v ==x) l:=⟨_,rfl⟩;rw[←hR];replace hR:=ζ hR;replace hA:=ζ hA;go_enter Tryz.func106,Tryz.ntmps106
 go_wp2;go_loopw [4,5,8] (fun r _ i wr=>∃k:Nat,k≤m∧i =.int .i64 k∧r =.int .i64 0∧Hid (∀j y,j < k→l[j]? = some y→(v ==y)=false)∧wr=w) (fun _ _ i _=>m - (intOf i).toNat)
 case atStart=>exact⟨0,ω,rfl,rfl,fun _ _ h=>absurd h ω,rfl⟩
 case round=>
  obtain⟨k,hk,rfl,rfl,hall,rfl⟩:=hrel;by_cases nV:k<m
  ·obtain⟨bb,off,x,rfl,JI,hx,hcell⟩:=hA.o.at_ nV;have c0:wr.cell? ⟨bb,off+k,none⟩=some (.string ⟨x.toArray⟩):=by simpa using hcell 0 _ rfl
   have j_:(k:Int)<(m:Int):=ω;cases hvx:v ==x with
   | true=>
    have aQ:Hid (R=(k:Int)):=ζ (by rw[hR.o];exact nZ hx hvx hall.o);clear hR hall hcell hx;go_wp2;go_ret;exact⟨by rw[aQ.o];rfl,ah.refl _⟩
   | false=>
    have jV:=ζ (show ∀j y,j < k+1→l[j]? = some y→(v ==y)=false from fun j y hj hy=>by
     by_cases hjk:j = k
     ·subst hjk;rw[hx] at hy;rw[←Option.some.inj hy];exact hvx
     ·exact hall.o j y ω hy)
    clear hR hall hcell hx;go_wp2;go_roundw
    case rel=>exact⟨k+1,ω,ν,rfl,jV,trivial⟩
    case measure=>exact ψ
  ·obtain rfl:k=m:=ω;have aQ:Hid (R=-1):=ζ (by rw[hR.o];exact lM fun j y hy=>hall.o j y (by have:=(List.getElem?_eq_some_iff.1 hy).1;omega) hy);clear hR hall;go_wp2;go_ret;exact⟨by rw[aQ.o];rfl,ah.refl _⟩
theorem aku {A:Option Addr} {m c:Nat} {l:List (List UInt8)} {v:List UInt8} (w:World) (hA:dH w 1 encS A m l) (hm:m≤9223372036854775807) :
 Calls Tryz.prog 71 #[.slice A m c,.string ⟨v.toArray⟩] w fun e w'=>e =.returned (.bool (l.any fun x=>v ==x))∧ah w w':=by
 have cI:=acY (c:=c) (v:=v) w hA hm;have hp:=nG (fun x=>v ==x) l;generalize (l.any fun x=>v ==x)=R at *
 generalize placeOf (fun x=>v ==x) l = P at *
 subst hp;replace cI:=ζ cI;clear hA;go_enter Tryz.func71,Tryz.ntmps71
 go_wp2_with fail;refine (cI.out).mono ?_;rintro e w1 ⟨rfl,hg⟩;go_wp2;go_ret;exact⟨rfl,hg⟩
end Go.Proofs.YteojanlajhebhaaGreatDoor
namespace Go.Proofs
open Go.Shelf
def Tryz.Xi:Go.Shelf.Ren:=⟨fun | 171=>72 | 243=>107 | 246=>130 | 283=>146 | 284=>147 | 285=>148 | 286=>149 | 129=>159 | 317=>158 | 318=>160 | 319=>161 | 320=>162 | 337=>173 | 338=>174 | n=>n,fun | 3=>3 | 9=>9 | 2=>2 | 4=>4 | 171=>194 | 0=>0 | 53=>50 | 37=>94 | 5=>5 | 173=>197 | 212=>216 | 51=>38 | 20=>20 | 213=>217 | 46=>125 | 232=>130 | 233=>234 | n=>n,fun | 17=>0 | 18=>1 | 19=>2 | n=>n⟩
theorem Tryz.ajB:Go.Proofs.LaysM.n171 Tryz.prog Tryz.Xi:={
 mixed:=by kernel_rfl
 f129:=Tryz.func159.trans (congrArg some κ)
 f171:=Tryz.func72.trans (congrArg some κ)
 f243:=Tryz.func107.trans (congrArg some κ)
 f246:=Tryz.func130.trans (congrArg some κ)
 f283:=Tryz.func146.trans (congrArg some κ)
 f284:=Tryz.func147.trans (congrArg some κ)
 f285:=Tryz.func148.trans (congrArg some κ)
 f286:=Tryz.func149.trans (congrArg some κ)
 f317:=Tryz.func158.trans (congrArg some κ)
 f318:=Tryz.func160.trans (congrArg some κ)
 f319:=Tryz.func161.trans (congrArg some κ)
 f320:=Tryz.func162.trans (congrArg some κ)
 f337:=Tryz.func173.trans (congrArg some κ)
 f338:=Tryz.func174.trans (congrArg some κ)
 t0:=Tryz.underlying0
 a0:=Tryz.isAgg0
 z0:=Tryz.sizeOf0
 v0:=Tryz.zeroValue0
 t2:=Tryz.underlying2
 a2:=Tryz.isAgg2
 z2:=Tryz.sizeOf2
 v2:=Tryz.zeroValue2
 t3:=Tryz.underlying3
 a3:=Tryz.isAgg3
 z3:=Tryz.sizeOf3
 v3:=Tryz.zeroValue3
 t4:=Tryz.underlying4
 a4:=Tryz.isAgg4
 z4:=Tryz.sizeOf4
 v4:=Tryz.zeroValue4
 t5:=Tryz.underlying5
 a5:=Tryz.isAgg5
 z5:=Tryz.sizeOf5
 v5:=Tryz.zeroValue5
 t9:=Tryz.underlying9
 a9:=Tryz.isAgg9
 z9:=Tryz.sizeOf9
 v9:=Tryz.zeroValue9
 t20:=Tryz.underlying20
 a20:=Tryz.isAgg20
 z20:=Tryz.sizeOf20
 v20:=Tryz.zeroValue20
 t37:=Tryz.underlying94
 a37:=Tryz.isAgg94
 z37:=Tryz.sizeOf94
 v37:=Tryz.zeroValue94
 t46:=Tryz.underlying125
 a46:=Tryz.isAgg125
 z46:=Tryz.sizeOf125
 v46:=Tryz.zeroValue125
 t51:=Tryz.underlying38
 a51:=Tryz.isAgg38
 z51:=Tryz.sizeOf38
 v51:=Tryz.zeroValue38
 t53:=Tryz.underlying50
 a53:=Tryz.isAgg50
 z53:=Tryz.sizeOf50
 v53:=Tryz.zeroValue50
 t171:=Tryz.underlying194
 a171:=Tryz.isAgg194
 z171:=Tryz.sizeOf194
 v171:=Tryz.zeroValue194
 t173:=Tryz.underlying197
 a173:=Tryz.isAgg197
 z173:=Tryz.sizeOf197
 v173:=Tryz.zeroValue197
 t212:=Tryz.underlying216
 a212:=Tryz.isAgg216
 z212:=Tryz.sizeOf216
 v212:=Tryz.zeroValue216
 t213:=Tryz.underlying217
 a213:=Tryz.isAgg217
 z213:=Tryz.sizeOf217
 t232:=Tryz.underlying130
 a232:=Tryz.isAgg130
 z232:=Tryz.sizeOf130
 v232:=Tryz.zeroValue130
 t233:=Tryz.underlying234
 a233:=Tryz.isAgg234
 z233:=Tryz.sizeOf234
 v233:=Tryz.zeroValue234
 g17:=by kernel_rfl
 g18:=by kernel_rfl
 g19:=by kernel_rfl
 i0:=by kernel_rfl
 i2:=by kernel_rfl
 i3:=by kernel_rfl
 i4:=by kernel_rfl
 i5:=by kernel_rfl
 i9:=by kernel_rfl
 i20:=by kernel_rfl
 i37:=by kernel_rfl
 i46:=by kernel_rfl
 i51:=by kernel_rfl
 i53:=by kernel_rfl
 i171:=by kernel_rfl
 i173:=by kernel_rfl
 i212:=by kernel_rfl
 i232:=by kernel_rfl
 i233:=by kernel_rfl
 m17:=by kernel_rfl
 m18:=by kernel_rfl
 m19:=by kernel_rfl}
def Tryz.Xj:Go.Shelf.Ren:=⟨fun | 17=>88 | 15=>120 | 20=>138 | n=>n,fun | 9=>9 | 23=>137 | 4=>4 | 3=>3 | 0=>0 | 21=>21 | n=>n,fun | n=>n⟩
theorem Tryz.ZG:Go.Proofs.LaysGw.n17 Tryz.prog Tryz.Xj:={
 mixed:=by kernel_rfl
 f15:=Tryz.func120.trans (congrArg some κ)
 f17:=Tryz.func88.trans (congrArg some κ)
 f20:=Tryz.func138.trans (congrArg some κ)
 t0:=Tryz.underlying0
 a0:=Tryz.isAgg0
 z0:=Tryz.sizeOf0
 v0:=Tryz.zeroValue0
 i0:=by kernel_rfl
 t3:=Tryz.underlying3
 a3:=Tryz.isAgg3
 z3:=Tryz.sizeOf3
 v3:=Tryz.zeroValue3
 i3:=by kernel_rfl
 t4:=Tryz.underlying4
 a4:=Tryz.isAgg4
 z4:=Tryz.sizeOf4
 v4:=Tryz.zeroValue4
 i4:=by kernel_rfl
 t9:=Tryz.underlying9
 a9:=Tryz.isAgg9
 z9:=Tryz.sizeOf9
 v9:=Tryz.zeroValue9
 i9:=by kernel_rfl
 t21:=Tryz.underlying21
 a21:=Tryz.isAgg21
 z21:=Tryz.sizeOf21
 v21:=Tryz.zeroValue21
 i21:=by kernel_rfl
 t23:=Tryz.underlying137
 a23:=Tryz.isAgg137
 z23:=Tryz.sizeOf137
 v23:=Tryz.zeroValue137
 i23:=by kernel_rfl}
end Go.Proofs
namespace Go.Proofs.YteojanlajhebhaaGreatDoor
open Go.RowKit Go.PlainAid
theorem aa5 {P:Program} {w w':World} {nm:String} {g:Nat} {cs:Array Value} (h:ah w w') (hg:P.globalNamed nm=some g) (hv:w.var? P nm=some cs) (hlt:g < w.heap.size):w'.var? P nm=some cs:=var?_below h hg hlt hv
structure EX (w:World):Prop where
 pow:Lib.TabIs Tryz.prog w "internal/strconv.uint64pow10" .u64 Lib.pow10Tab
 aoF:0<w.heap.size
theorem EX.grows {w w':World} (h:EX w) (hg:ah w w'):EX w' where
 pow:=aa5 hg κ h.pow h.aoF
 aoF:=Nat.lt_of_lt_of_le h.aoF hg.size
theorem adB (w:World) (k:Nat) (os:Array Obj):ah w (Go.Sort.grow (w.drewN k) os):=
 ⟨rfl,rfl,rfl,by show w.heap.size≤(w.heap++os).size;simp,fun j hj=>by show (w.heap++os)[j]? = _;rw[Array.getElem?_append_left hj]⟩
theorem ajI (n:Int) (h0: -9223372036854775808≤n) (h1:n≤9223372036854775807) (w:World) (he:EX w) :
 Calls Tryz.prog 72 #[.int .i64 n] w fun e w'=>e =.returned (.string ⟨(Lib.itoa n).toArray⟩)∧ah w w':=
 (Any.strconv_Itoa Tryz.ajB n h0 h1 w he.pow).mono fun _ _ ⟨e,k,os,hw⟩=>⟨e,by rw[hw];exact adB w k os⟩
theorem agm (w:World):PredAt Tryz.prog 116 #[] encR P8 w:=fun W r _=>by
 unfold FnGives;obtain⟨R,hR⟩:∃R,R=P8 r:=⟨_,rfl⟩;rw[←hR];unfold P8 Xh Jc at hR;by_cases h1:r = 95
 ·subst h1;replace hR:R=false:=by rw[hR];decide
  subst hR;go_enter Tryz.func116,Tryz.ntmps116
  go_wp2;go_ret;exact⟨rfl,0,rfl⟩
 ·have h1':((r:Int) != 95)=true:=by simp;omega
  by_cases h2:r < 48
  ·replace hR:R=true:=by rw[hR];simp;omega
   subst hR;have h3:(r:Int)<97:=ω;have h4:(r:Int)<48:=ω;go_enter Tryz.func116,Tryz.ntmps116
   go_wp2;go_ret;exact⟨rfl,0,rfl⟩
  ·by_cases h3:r≤57
   ·replace hR:R=false:=by rw[hR];simp;omega
    subst hR;have h3:(r:Int)<97:=ω;have h4:¬(r:Int)<48:=ω;have h5:¬57<(r:Int):=ω;go_enter Tryz.func116,Tryz.ntmps116
    go_wp2;go_ret;exact⟨rfl,0,rfl⟩
   ·have h5:57<(r:Int):=ω;have h4:¬(r:Int)<48:=ω;by_cases h6:r < 97
    ·replace hR:R=true:=by rw[hR];simp;omega
     subst hR;have h7:(r:Int)<97:=ω;go_enter Tryz.func116,Tryz.ntmps116
     go_wp2;go_ret;exact⟨rfl,0,rfl⟩
    ·have h7:¬(r:Int)<97:=ω;by_cases h8:122<r
     ·replace hR:R=true:=by rw[hR];simp;omega
      subst hR;have h9:122<(r:Int):=ω;go_enter Tryz.func116,Tryz.ntmps116
      go_wp2;go_ret;exact⟨rfl,0,rfl⟩
     ·replace hR:R=false:=by rw[hR];simp;omega
      subst hR;have h9:¬122<(r:Int):=ω;go_enter Tryz.func116,Tryz.ntmps116
      go_wp2;go_ret;exact⟨rfl,0,rfl⟩
theorem acR {s:List UInt8} (h:12<s.length):f_ s = false:=by
 unfold f_;rw[decide_eq_false (show ¬s.length≤12 by omega)];simp
theorem agn {b:UInt8} {r:List UInt8} (h:Jc b.toNat=true):f_ (b ::r)=false:=by
 unfold f_;simp[h]
theorem acP {b:UInt8} {r:List UInt8} (h:Jc b.toNat=false) (hl:(b ::r).length≤12):f_ (b ::r)=(b ::r).all IG:=by
 unfold f_;rw[decide_eq_true hl];simp[h]
theorem agl (S:ByteArray) (w:World):Calls Tryz.prog 82 #[.string S] w fun e w'=>e =.returned (.bool (f_ S.data.toList))∧ah w w':=by
 have hS:S.data.toList.length=S.size:=Array.length_toList;have cC:=fun W=>Any.strings_ContainsFunc Tryz.ZG 116 #[] (enters_of Tryz.func116 κ rfl) P8 S W (agm W)
 have hna:=ajw S;change ∀W,Calls Tryz.prog 88 _ W _ at cC
 generalize decide (0≤Lib.idxFunc P8 true S)=D at *
 obtain⟨R,hR⟩:∃R,R=f_ S.data.toList:=⟨_,rfl⟩;rw[←hR];replace cC:=ζ cC;by_cases h0:S.size=0
 ·have hSe:S=⟨#[]⟩:=by
   apply ByteArray.ext;exact Array.eq_empty_of_size_eq_zero h0
  subst hSe;replace hR:R=false:=by rw[hR];rfl
  subst hR;clear hS hna cC h0;go_enter Tryz.func82,Tryz.ntmps82
  go_wp2;go_ret;exact⟨rfl,ah.refl _⟩
 ·have ada:¬S.toList=[]:=fun h=>h0 (by rw[(toList_nil_iff_emptyBytes S).1 h];rfl)
  have KO:S.toList.isEmpty=false:=by rw[←Bool.not_eq_true,List.isEmpty_iff];exact ada
  have hp0:0<S.size:=ω;have hb0:=get_bt S 0 hp0;have hx0:=fun x=>aeZ S (k:=0) (x:=x)
  cases hl:S.data.toList with
  | nil=>rw[hl] at hS;simp at hS;omega
  | cons b r=>
   rw[hl] at hR hna hS hx0;rw[hx0 b rfl] at hb0;have Iu:=acR (s:=b ::r);have hdi:=agn (b:=b) (r:=r);have hre:=acP (b:=b) (r:=r);rw[hS] at Iu hre;rw[←hna] at hre;have hbl:=b.toNat_lt;unfold Jc at hdi hre;clear hna hl hx0 hS;generalize b.toNat=X at *
   have hX0:0≤(X:Int)∧(X:Int)≤255:=ω;clear hbl h0;generalize f_ (b ::r)=B at *
   subst hR;by_cases J3:12<S.size
   ·have hB:=Iu J3;subst hB;have g0:(12:Int)<(S.size:Int):=ω;clear Iu hdi hre cC;go_enter Tryz.func82,Tryz.ntmps82
    go_wp2;go_ret;exact⟨rfl,ah.refl _⟩
   ·have g0:¬(12:Int)<(S.size:Int):=ω;clear Iu;by_cases hd:48≤X∧X≤57
    ·have hB:=hdi (by simp[hd.1,hd.2]);subst hB;have g1:(48:Int)≤X:=ω;have g2:(X:Int)≤57:=ω;clear hdi hre cC hd;go_enter Tryz.func82,Tryz.ntmps82
     go_wp2;go_ret;exact⟨rfl,ah.refl _⟩
    ·have hB:=hre (by simp;omega) ω;subst hB;clear hdi hre;by_cases h48:48≤X
     ·have g1:(48:Int)≤X:=ω;have g2:¬(X:Int)≤57:=ω;clear hd h48;go_enter Tryz.func82,Tryz.ntmps82
      go_wp2_with fail;refine (cC.out _).mono ?_;rintro e w1 ⟨rfl,hb⟩;go_wp2;go_ret;exact⟨rfl,hb⟩
     ·have g1:¬(48:Int)≤X:=ω;clear hd h48;go_enter Tryz.func82,Tryz.ntmps82
      go_wp2_with fail;refine (cC.out _).mono ?_;rintro e w1 ⟨rfl,hb⟩;go_wp2;go_ret;exact⟨rfl,hb⟩
theorem FC (s:List UInt8) (w:World):Calls Tryz.prog 82 #[.string ⟨s.toArray⟩] w fun e w'=>e =.returned (.bool (f_ s))∧ah w w':=agl ⟨s.toArray⟩ w
def Ko {α:Type} (P:Program) (g:FuncId) (lb:Array Value) (val:α→Value) (p:α→Bool) (l:List α) (w:World):Prop:=
 ∀x∈l,∀(W:World),ah w W→Calls P g (#[val x]++lb) W fun e w'=>e =.returned (.bool (p x))∧ah W w'
def atS {α:Type} (P:Program) (g:FuncId) (lb:Array Value) (val:α→Value) (p:α→Bool) (B:Nat) (l:List α) (w:World):Prop:=
 ∀x∈l,∀(W:World),Below B w W→Calls P g (#[val x]++lb) W fun e w'=>e =.returned (.bool (p x))∧ah W w'
theorem dH.anK {α:Type} {w:World} {k:Nat} {enc:α→List Value} {m:Nat} {l:List α} (h:dH w k enc none m l):l = []∧m = 0:=by
 rcases Nat.eq_zero_or_pos m with h0 | h0
 ·exact⟨List.eq_nil_of_length_eq_zero (by rw[h.1,h0]),h0⟩
 ·obtain⟨b,off,e,_⟩:=h.2 h0;cases e
theorem uN {α:Type} {p:α→Bool}:∀{xs:List α},xs.any p = false→(xs.filter fun x=> !p x)=xs
 | [],_=>rfl
 | x ::r,h=>by
  simp only[List.any_cons,Bool.or_eq_false_iff] at h;simp[h.1,uN h.2]
theorem L8 {α:Type} (p:α→Bool) (xs:List α):(placeOf p xs=-1∧xs.any p = false)∨∃(i:Nat) (x:α),placeOf p xs=i∧xs[i]? = some x∧p x = true∧(xs.take i).any p = false:=by
 unfold placeOf;cases h:xs.findIdx? p with
 | none=>
  refine .inl ⟨rfl,?_⟩;rw[←Bool.not_eq_true,List.any_eq_true];rintro⟨x,hx,hp⟩;rw[List.findIdx?_eq_none_iff.1 h x hx] at hp;cases hp
 | some i=>
  obtain⟨h1,h2,h3⟩:=List.findIdx?_eq_some_iff_getElem.1 h;refine .inr ⟨i,xs[i],rfl,List.getElem?_eq_getElem h1,h2,?_⟩;rw[←Bool.not_eq_true,List.any_eq_true];rintro⟨x,hx,hp⟩;obtain⟨j,hj,rfl⟩:=List.getElem_of_mem hx;rw[List.getElem_take] at hp;exact h3 j (by simp at hj;omega) hp
structure Hz {α:Type} (p:α→Bool) (xs ys:List α) (i j:Nat):Prop where
 len:ys.length=xs.length
 lt:i < j
 le:j≤xs.length
 front:ys.take i = (xs.take j).filter fun x=> !p x
 back:ys.drop j = xs.drop j
theorem Hz.start {α:Type} {p:α→Bool} {xs:List α} {i:Nat} {x:α} (h1:xs[i]? = some x) (h2:p x = true) (h3:(xs.take i).any p = false):Hz p xs xs i (i + 1):=by
 have hi:i < xs.length:=(List.getElem?_eq_some_iff.1 h1).1;refine⟨rfl,ω,ω,?_,rfl⟩;rw[List.take_add_one,List.filter_append,uN h3,h1];simp[h2]
theorem Hz.get {α:Type} {p:α→Bool} {xs ys:List α} {i j:Nat} (h:Hz p xs ys i j) {x:α} (hx:xs[j]? = some x):ys[j]? = some x:=by
 have:=congrArg (fun l=>l[0]?) h.back;simp only[List.getElem?_drop,Nat.add_zero] at this;rw[this,hx]
theorem Hz.atJ {α:Type} {p:α→Bool} {xs ys:List α} {i j:Nat} (h:Hz p xs ys i j) {x:α} (hx:xs[j]? = some x) (hp:p x = true):Hz p xs ys i (j + 1):=by
 have hj:j < xs.length:=(List.getElem?_eq_some_iff.1 hx).1;refine⟨h.len,by have:=h.lt;omega,ω,?_,?_⟩
 ·rw[List.take_add_one,List.filter_append,←h.front,hx];simp[hp]
 ·have:=congrArg (List.drop 1) h.back;simpa[List.drop_drop] using this
theorem Hz.arY {α:Type} {p:α→Bool} {xs ys:List α} {i j:Nat} (h:Hz p xs ys i j) {x:α} (hx:xs[j]? = some x) (hp:p x = false):Hz p xs (ys.set i x) (i + 1) (j + 1):=by
 have hj:j < xs.length:=(List.getElem?_eq_some_iff.1 hx).1;have hlt:=h.lt;have hl:=h.len;refine⟨by simp[hl],ω,ω,?_,?_⟩
 ·rw[List.take_add_one,List.take_add_one,List.filter_append,←h.front,hx,List.take_set_of_le ω,List.getElem?_set_self ω];simp[hp]
 ·rw[List.drop_set_of_lt ω];have:=congrArg (List.drop 1) h.back;simpa[List.drop_drop] using this
def XL (x:Hl):List Value:=[.string ⟨x.n.toArray⟩,.int .i64 x.l.lv,.int .u32 (x.l.c:Int)]
def amb (x:Hl):Value:=.agg #[.string ⟨x.n.toArray⟩,.int .i64 x.l.lv,.int .u32 (x.l.c:Int)]
theorem hkN (x:Hl):(XL x).length=3:=rfl
def Tz (x:jq):List Value:=[.string ⟨x.n.toArray⟩,.int .i64 x.op,.string ⟨x.v.toArray⟩]
def Fa (x:jq):Value:=.agg #[.string ⟨x.n.toArray⟩,.int .i64 x.op,.string ⟨x.v.toArray⟩]
def QV (x:eu):Value:=.agg #[.string ⟨x.n.toArray⟩,.string ⟨x.v.toArray⟩]
theorem T_F:iK Tryz.prog 37 63 2 32:=ap_
structure jl where
 l:List Hl
 A:Option Addr
 m:Nat
 k:Nat
def jl.val (x:jl):Value:=.slice x.A x.m x.k
structure jl.At (x:jl) (w:World):Prop where
 arr:dH w 3 XL x.A x.m x.l
 le:x.m≤9223372036854775807
 Yu:∀y∈x.l,y.l.ok
 txt:∀y∈x.l,y.n.length≤9223372036854775807
def anj (x:jl):List Value:=[.slice x.A x.m x.k]
def aoz (x:jl):Value:=.slice x.A x.m x.k
structure F6 where
 r:Rte
 bA:Option Addr
 bm:Nat
 bk:Nat
 wA:Option Addr
 wm:Nat
 wk:Nat
structure F6.At (x:F6) (w:World):Prop where
 iM:dH w 1 encS x.bA x.bm x.r.iM
 Ve:x.bm≤9223372036854775807
 TG:∀y∈x.r.iM,y.length≤9223372036854775807
 wh:dH w 3 Tz x.wA x.wm x.r.wh
 WQ:x.wm≤9223372036854775807
def encR (x:F6):List Value:=[.string ⟨x.r.r.toArray⟩,.slice x.bA x.bm x.bk,.int .i64 x.r.wait,.int .i64 x.r.every,.int .i64 x.r.again,.slice x.wA x.wm x.wk]
def ah_ (x:F6):Value:=.agg #[.string ⟨x.r.r.toArray⟩,.slice x.bA x.bm x.bk,.int .i64 x.r.wait,.int .i64 x.r.every,.int .i64 x.r.again,.slice x.wA x.wm x.wk]
structure JO where
 i:Inh
 bA:Option Addr
 bm:Nat
 bk:Nat
 fA:Option Addr
 fm:Nat
 fk:Nat
 wA:Option Addr
 wm:Nat
 wk:Nat
structure JO.At (x:JO) (w:World):Prop where
 iM:dH w 1 encS x.bA x.bm x.i.iM
 Ve:x.bm≤9223372036854775807
 TG:∀y∈x.i.iM,y.length≤9223372036854775807
 fr:dH w 3 Tz x.fA x.fm x.i.from_
 apP:x.fm≤9223372036854775807
 wh:dH w 3 Tz x.wA x.wm x.i.wh
 WQ:x.wm≤9223372036854775807
 Yu:x.i.l.ok
def ak6 (x:JO):List Value:=[.slice x.bA x.bm x.bk,.int .i64 x.i.l.lv,.int .u32 (x.i.l.c:Int),.slice x.fA x.fm x.fk,.slice x.wA x.wm x.wk]
def aia (x:JO):Value:=.agg #[.slice x.bA x.bm x.bk,.int .i64 x.i.l.lv,.int .u32 (x.i.l.c:Int),.slice x.fA x.fm x.fk,.slice x.wA x.wm x.wk]
structure dU where
 s:jl
 r:jl
 e:jl
 a:jl
 o:List F6
 oA:Option Addr
 om:Nat
 ok:Nat
 i:List JO
 iA:Option Addr
 im:Nat
 ik:Nat
def dU.dQ (x:dU):HY:=⟨x.s.l,x.r.l,x.e.l,x.a.l,x.o.map (·.r),x.i.map (·.i)⟩
def dU.cells (x:dU):List Value:=[.slice x.s.A x.s.m x.s.k,.slice x.r.A x.r.m x.r.k,.slice x.e.A x.e.m x.e.k,.slice x.a.A x.a.m x.a.k,.slice x.oA x.om x.ok,.slice x.iA x.im x.ik]
def dU.val (x:dU):Value:=.agg #[.slice x.s.A x.s.m x.s.k,.slice x.r.A x.r.m x.r.k,.slice x.e.A x.e.m x.e.k,.slice x.a.A x.a.m x.a.k,.slice x.oA x.om x.ok,.slice x.iA x.im x.ik]
structure dU.At (x:dU) (w:World):Prop where
 s:x.s.At w
 r:x.r.At w
 e:x.e.At w
 a:x.a.At w
 o:dH w 6 encR x.oA x.om x.o
 ole:x.om≤9223372036854775807
 oAt:∀y∈x.o,y.At w
 i:dH w 5 ak6 x.iA x.im x.i
 ile:x.im≤9223372036854775807
 iAt:∀y∈x.i,y.At w
theorem jl.At.keep {x:jl} {w w':World} (h:x.At w) (hg:ah w w'):x.At w':=⟨h.arr.keep hg,h.le,h.Yu,h.txt⟩
theorem F6.At.keep {x:F6} {w w':World} (h:x.At w) (hg:ah w w'):x.At w':=⟨h.iM.keep hg,h.Ve,h.TG,h.wh.keep hg,h.WQ⟩
theorem JO.At.keep {x:JO} {w w':World} (h:x.At w) (hg:ah w w'):x.At w':=⟨h.iM.keep hg,h.Ve,h.TG,h.fr.keep hg,h.apP,h.wh.keep hg,h.WQ,h.Yu⟩
theorem dU.At.keep {x:dU} {w w':World} (h:x.At w) (hg:ah w w'):x.At w':=⟨h.s.keep hg,h.r.keep hg,h.e.keep hg,h.a.keep hg,h.o.keep hg,h.ole,fun y hy=>(h.oAt y hy).keep hg,h.i.keep hg,h.ile,fun y hy=>(h.iAt y hy).keep hg⟩
structure iI where
 a:Jj
 A:Option Addr
 m:Nat
 k:Nat
def FV (x:iI):List Value:=[.string ⟨x.a.src.toArray⟩,.slice x.A x.m x.k,.int .i64 x.a.l.lv,.int .u32 (x.a.l.c:Int),.int .i64 x.a.f,.int .i64 x.a.t]
def jy (x:iI):Value:=.agg #[.string ⟨x.a.src.toArray⟩,.slice x.A x.m x.k,.int .i64 x.a.l.lv,.int .u32 (x.a.l.c:Int),.int .i64 x.a.f,.int .i64 x.a.t]
structure iI.At (x:iI) (w:World):Prop where
 arr:dH w 2 fU x.A x.m x.a.fs
 le:x.m≤1000
 Yu:x.a.l.ok
theorem iI.At.keep {x:iI} {w w':World} (h:x.At w) (hg:ah w w'):x.At w':=⟨h.arr.keep hg,h.le,h.Yu⟩
def Bf (fb:jq→Bool) (x:jq):Prop:=∀W:World,Calls Tryz.prog 87 #[Fa x] W fun e w'=>e =.returned (.bool (fb x))∧ah W w'
def aw3 (ft:List eu→jq→Bool) (x:jq):Prop:=∀(A:Option Addr) (m c:Nat) (l:List eu) (W:World),dH W 2 fU A m l→m≤9223372036854775807→Calls Tryz.prog 95 #[.slice A m c,Fa x] W fun e w'=>e =.returned (.bool (ft l x))∧ah W w'
end Go.Proofs.YteojanlajhebhaaGreatDoor
