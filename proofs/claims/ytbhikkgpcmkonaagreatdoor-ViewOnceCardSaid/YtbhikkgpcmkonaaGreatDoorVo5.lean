/- Parts: RowB Txt RteP Dat FldA FldB FldC MapS PolA Shelf LibR Sieve PolD SlQ -/
import Derived.Test.YtbhikkgpcmkonaaGreatDoorVo0
import Derived.Laws.IdiomStrings
import Derived.Lib.AppendStr
import Derived.ArgAppend
import Derived.Test.YtbhikkgpcmkonaaGreatDoorVo4
import Derived.Shelf.GgClosure.StringsIndexFunc
import Derived.Test.YtbhikkgpcmkonaaGreatDoorVo1
import Derived.Test.YtbhikkgpcmkonaaGreatDoorVo3
import Derived.Test.YtbhikkgpcmkonaaGreatDoorVo2
import Derived.PlainAid
import Derived.Maps.OwnSet
import Derived.Maps.OwnOps
import Derived.Shelf.GgClosure.StringsIndexFuncTop
import Derived.Shelf.LaysM
import Derived.Shelf.Strconv.Itoa3
import Derived.Test.YtbhikkgpcmkonaaGreatDoorProg
import Derived.Shelf.Abstract
import Derived.Lib.SliceRun
set_option maxRecDepth 100000
set_option maxHeartbeats 12800000
namespace Go.Proofs.YtbhikkgpcmkonaaGreatDoor
open Go.RowKit
def jA (w:World) (base:Nat) (v:Value) (xs:List Nat):Prop:=
 (v =.slice none 0 0∧xs=[])∨∃g cap cur fz,v =.slice (some ⟨g,0,none⟩) xs.length cap∧base≤g∧w.heap[g]? = some (.cells cur 5 fz)∧(∀j,j < cur.size→(decide (fz.1≤j)&&decide (j < fz.2))=false)∧
  xs.length≤cap∧cap≤maxLen∧cur.size=cap∧∀i (h:i < xs.length),cur[i]? = some (.int .u8 ((xs[i]:Nat):Int))
section
variable {w w':World} {base:Nat} {v:Value} {xs ys:List Nat}
theorem jA.iO (w:World) (base:Nat):jA w base (.slice none 0 0) []:=.inl ⟨rfl,rfl⟩
theorem jA.grows (h:jA w base v xs) (hg:ah w w'):jA w' base v xs:=by
 rcases h with h | ⟨g,cap,cur,fz,hv,hb,hh,r⟩
 ·exact .inl h
 ·exact .inr ⟨g,cap,cur,fz,hv,hb,(hg.below.block g (Array.getElem?_eq_some_iff.1 hh).1).trans hh,r⟩
theorem jA.alloc (h:jA w base v xs) (o:Obj):jA (w.alloc o) base v xs:=h.grows ((ah.refl w).alloc o)
theorem jA.iC (h:jA w base v xs):∀j,v.ownBlock=some j→base≤j:=fun j hj=>by
 rcases h with⟨h2,_⟩ | ⟨g,cap,cur,fz,hv,hb,_⟩
 ·rw[h2] at hj;cases hj
 ·rw[hv] at hj;simp only[Value.ownBlock,Option.some.injEq] at hj;omega
theorem jA.Cm (h:Own w base 5 1 jr v xs):jA w base v xs:=by
 have h2:=h;rcases h.2 with⟨h3,h4⟩ | ⟨g,cap,cur,hv,hb,hh,_⟩
 ·exact .inl ⟨h3,List.eq_nil_of_length_eq_zero h4⟩
 ·rw[hv] at h2;obtain⟨cur',_,hb',hh',CZ,hcm,hcs,hc⟩:=h2.tJ hkB;refine .inr ⟨g,cap,cur',(0,0),hv,hb',hh',fun j _=>by simp,CZ,hcm,ω,fun i hi=> ?_⟩;have:=hc i hi 0 ω;simpa[jr] using this
theorem jA.arr (h:jA w base v xs):∃A c,v =.slice A xs.length c∧xs.length≤c∧c≤maxLen∧bW w 1 jr A xs.length xs:=by
 rcases h with⟨rfl,rfl⟩ | ⟨g,cap,cur,fz,rfl,hb,hh,hfz,CZ,hcm,hcs,hc⟩
 ·exact⟨none,0,rfl,by simp,by simp[maxLen],bW.iO⟩
 ·refine⟨_,_,rfl,CZ,hcm,rfl,fun _=>⟨g,0,rfl,(Array.getElem?_eq_some_iff.1 hh).1,fun i hi j u hu=> ?_⟩⟩;have hj:j = 0:=by have:=(List.getElem?_eq_some_iff.1 hu).1;simp[jr] at this;omega
  subst hj;simp only[World.cell?,hh];have:=hc i hi;simp only[jr,List.getElem?_cons_zero,Option.some.injEq] at hu;subst hu;simpa using this
theorem Df (g:Nat) (e:TypeId) (fz:Nat×Nat):∀(vs:List Value) (o:Nat) (w:World) (cur:Array Value),w.heap[g]? = some (.cells cur e fz)→o + vs.length≤cur.size→
 ∃cur',(w.setCells g o vs).heap[g]? = some (.cells cur' e fz)∧cur'.size=cur.size∧∀t:Nat,cur'[t]? = if o≤t∧t < o + vs.length then vs[t - o]? else cur[t]?
 | [],o,w,cur,h,_=>⟨cur,h,rfl,fun t=>by rw[if_neg σ]⟩
 | v ::r,o,w,cur,h,hl=>by
  simp only[List.length_cons] at hl;have h1:(w.setCell ⟨g,o,none⟩ v).heap[g]? = some (.cells (cur.setIfInBounds o v) e fz):=by
   simp[World.setCell,Array.getElem?_modify,h]
  obtain⟨cur',h2,h3,h4⟩:=Df g e fz r (o + 1) _ _ h1 (by simp;omega);refine⟨cur',h2,by simpa using h3,fun t=> ?_⟩;rw[h4 t];by_cases ht:t = o
  ·subst ht;rw[if_neg ω,if_pos σ,Array.getElem?_setIfInBounds];simp;omega
  ·by_cases h5:o + 1≤t∧t < o + 1+r.length
   ·rw[if_pos h5,if_pos (by simp;omega),show t - o = (t - (o + 1))+1 by omega];simp
   ·rw[if_neg h5,if_neg (by simp;omega)];simp[Ne.symm ht]
theorem zu (g:Nat):∀(vs:List Value) (o:Nat) (w:World),w.grownBy (w.setCells g o vs) (some g)
 | [],_,w=>World.grownBy.refl w _
 | v ::r,o,w=>(aj w ⟨g,o,none⟩ v).trans (zu g r (o + 1) _)
def gV (ys:List Nat):List Value:=ys.map fun (x:Nat)=>Value.int .u8 (x:Int)
theorem jA.room {g cap:Nat} (h:jA w base (.slice (some ⟨g,0,none⟩) xs.length cap) xs) (hroom:xs.length+ys.length≤cap) :
 jA (w.setCells g xs.length (gV ys)) base (.slice (some ⟨g,0,none⟩) (xs.length+ys.length) cap) (xs++ys)∧(∀j,j < (gV ys).length→(w.cell? ⟨g,xs.length+j,none⟩).isSome=true)∧∀j,j < (gV ys).length→w.frozen? ⟨g,xs.length+j,none⟩=false:=by
 have qF:(gV ys).length=ys.length:=by simp[gV]
 rcases h with⟨h,_⟩ | ⟨g',cap',cur,fz,hv,hb,hh,hfz,CZ,hcm,hcs,hc⟩
 ·cases h
 simp only[Value.slice.injEq,Option.some.injEq,Addr.mk.injEq,and_true,true_and] at hv;obtain⟨rfl,rfl⟩:=hv;obtain⟨cur',h1,h2,h3⟩:=Df g 5 fz (gV ys) xs.length w cur hh (by rw[qF];omega);refine⟨.inr ⟨g,cap,cur',fz,by rw[List.length_append],hb,h1,by rw[h2];exact hfz,by rw[List.length_append];exact hroom,hcm,ω,fun i hi=> ?_⟩,fun j hj=> ?_,fun j hj=> ?_⟩
 ·rw[h3];by_cases hi2:i < xs.length
  ·rw[if_neg ω,hc i hi2,List.getElem_append_left hi2]
  ·rw[List.length_append] at hi;rw[if_pos (by rw[qF];omega),List.getElem_append_right ω];simp[gV,show i - xs.length<ys.length by omega]
 ·have:xs.length+j < cur.size:=ω;simp[World.cell?,hh,this]
 ·have:=hfz (xs.length+j) ω;simpa[World.frozen?,hh] using this
theorem acM (ys:List Nat):dh jr ys=gV ys:=by
 unfold dh gV jr;induction ys with
 | nil=>rfl
 | cons y ys ih=>simp only[List.flatMap_cons,List.map_cons,ih];rfl
theorem Qe (ys:List Nat):∀u∈gV ys,u.oneCell'=true:=by
 intro u hu;simp only[gV,List.mem_map] at hu;obtain⟨x,_,rfl⟩:=hu;rfl
theorem Ya {ad:Addr} {m:Nat} (kK:bW w 1 jr (some ad) m ys):∀j u,(gV ys)[j]? = some u→w.cell? (ad.add j)=some u:=by
 intro j u hu;have hj:j < ys.length:=by have:=(List.getElem?_eq_some_iff.1 hu).1;simpa[gV] using this
 obtain⟨b,off,e1,_,hc⟩:=kK.2 (by rw[←kK.1];omega);cases e1
 have h3:=hc j hj 0 u (by rw[←hu];simp[gV,jr,hj]);have:(⟨b,off,none⟩:Addr).add j = ⟨b,off+j,none⟩:=by unfold Addr.add;by_cases hj:j = 0 <;> simp[hj]
 rw[this];simpa using h3
theorem jA.Gt {base' n:Nat} {v':Value} {zs:List Nat} (h:w.ownsRow base' 5 1 v' n (gV zs)) (hb:base≤base'):jA w base v' zs:=by
 have hn:n = zs.length:=by have:=h.1;simp[gV] at this;omega
 subst hn;rw[←acM] at h;have h2:Own w base' 5 1 jr v' zs:=h;rcases jA.Cm h2 with h | ⟨g,cap,cur,fz,hv,hb',r⟩
 ·exact .inl h
 ·exact .inr ⟨g,cap,cur,fz,hv,Nat.le_trans hb hb',r⟩
theorem ad4:∃i,Tryz.prog.info? 5=some i∧i.zero=some (.int .u8 0)∧i.size=1∧i.bytes=1:=by
 have h:(Tryz.prog.info? 5).map (fun i=>(i.zero,i.size,i.bytes))=some (some (.int .u8 0),1,1):=by kernel_rfl
 cases hi:Tryz.prog.info? 5 with
 | none=>rw[hi] at h;cases h
 | some i=>
  rw[hi] at h;simp only[Option.map_some,Option.some.injEq,Prod.mk.injEq] at h;exact⟨i,rfl,h.1,h.2.1,h.2.2⟩
theorem jA.acX (h:jA w base v xs) {A:Option Addr} {m c:Nat} (kK:bW w 1 jr A m ys) (hbase:base≤w.heap.size) (hlen:xs.length+m≤1099511700000) (ty:TypeId) :
 ∃v' w',(Builtin.append_ #[112,112] ty #[v,.slice A m c]).run Tryz.prog w =.ok v' w'∧jA w' base v' (xs++ys)∧w.grownBy w' v.ownBlock:=by
 obtain⟨i,hi,hz,hsz,hby⟩:=ad4;have ht:=Tryz.underlying112;have kN:=kK.1;have qF:(gV ys).length=m * i.size:=by rw[hsz];simp[gV,kN]
 have h63:xs.length+m≤maxLen:=by unfold maxLen;omega
 cases A with
 | none=>
  have hm:m = 0:=by
   rcases Nat.eq_zero_or_pos m with h0 | h0
   ·exact h0
   ·obtain⟨b,off,h,_⟩:=kK.2 h0;cases h
  subst hm;obtain rfl:ys=[]:=List.eq_nil_of_length_eq_zero kN;refine⟨v,w,?_,by rw[List.append_nil];exact h,World.grownBy.refl w _⟩;rcases h with⟨rfl,rfl⟩ | ⟨g,cap,cur,fz,rfl,_,_,_,CZ,_⟩
  ·simp[Builtin.append_,run_underlying ht,sizeOf,typeInfo,hi,Builtin.lenOf,Builtin.firstCells]
  ·simp[Builtin.append_,run_underlying ht,sizeOf,typeInfo,hi,Builtin.lenOf,Builtin.firstCells,CZ,storeCells]
 | some ad=>
  have hnews:=Ya kK;have h0:=h;rcases h with⟨rfl,rfl⟩ | ⟨g,cap,cur,fz,rfl,hb,hh,hfz,CZ,hcm,hcs,hc⟩
  ·obtain⟨v',w',hr,h2,h3,_,_⟩:=run_append_own_at (P:=Tryz.prog) w base 112 ty 5 i (.int .u8 0) 1 1 ht hi hz hsz hby rfl ω (.slice none 0 0) 0 [] (World.ownsRow_nil w base _ _) ad m c (gV ys) (by rw[qF,hsz]) hnews (Qe ys) (by simpa using h63) (by simp at hlen;omega) hbase;exact⟨v',w',hr,jA.Gt (by simpa using h2) (Nat.le_refl _),h3⟩
  ·by_cases hroom:xs.length+m≤cap
   ·obtain⟨hO,hcell,aAU⟩:=jA.room (ys:=ys) h0 ω;have hr:=run_append_room_cells (P:=Tryz.prog) w 112 ty 5 i ht hi g 0 xs.length cap ad m c (gV ys) qF hnews (Qe ys) hroom (fun j hj=>by rw[hsz];have h9:=hcell j hj;rw[Nat.mul_one];first | exact h9 | (simp only[Nat.zero_add];exact h9)) (fun j hj=>by rw[hsz];have h9:=aAU j hj;rw[Nat.mul_one];first | exact h9 | (simp only[Nat.zero_add];exact h9));rw[hsz,Nat.mul_one,Nat.zero_add] at hr;rw[kN] at hO;exact⟨_,_,hr,hO,zu g _ _ _⟩
   ·have holds:∀j u,(gV xs)[j]? = some u→w.cell? ((⟨g,0,none⟩:Addr).add j)=some u:=by
     obtain⟨A',c',hv,_,_,hA⟩:=h0.arr;cases hv
     exact Ya hA
    obtain⟨v',w',hr,h2,h3⟩:=run_append_arg_grows (P:=Tryz.prog) w 112 ty 5 i (.int .u8 0) 1 1 ht hi hz hsz hby rfl ω ⟨g,0,none⟩ xs.length cap (gV xs) (by simp[gV]) holds ad m c (gV ys) (by rw[qF,hsz]) hnews ω h63 ω;refine⟨v',w',hr,jA.Gt (n:=xs.length+m) (by rw[show gV (xs++ys)=gV xs++gV ys by simp[gV]];exact h2) hbase,h3.but _⟩
def xJ (s:ByteArray):List Nat:=s.data.toList.map (·.toNat)
theorem lq (s:ByteArray):(xJ s).length=s.size:=by
 unfold xJ;rw[List.length_map,Array.length_toList];rfl
theorem jA.amX (s:ByteArray) (w:World) (hs:s.size≤1099511627776) :
 ∃v w',(convert 9 112 (.string s)).run Tryz.prog w =.ok v w'∧jA w' w.heap.size v (xJ s)∧ah w w':=by
 have hr:=run_bytes_of_string (P:=Tryz.prog) w 9 112 5 s Tryz.underlying9 Tryz.underlying112 Tryz.underlying5;have qE:=grownCap_ge w s.size 0 5;have hcm:=grownCap_le_maxLen w s.size 0 5 (by unfold maxLen;omega);have hsz:(bytesRow s (grownCap w s.size 0 5)).size=grownCap w s.size 0 5:=by
  unfold bytesRow;rw[Array.size_append,Array.size_map,Array.size_replicate];have:s.data.size=s.size:=rfl;omega
 refine⟨_,_,hr,.inr ⟨w.heap.size,_,_,_,by rw[lq],Nat.le_refl _,heap_alloc_new w.drew _,fun j hj=> ?_,by rw[lq];exact qE,hcm,hsz,fun i hi=> ?_⟩,(ah.refl w).drew.alloc _⟩
 ·simp;omega
 ·rw[lq] at hi;rw[bytesRow_at s _ i hi];simp[xJ]
end
end Go.Proofs.YtbhikkgpcmkonaaGreatDoor
namespace Go.Proofs.YtbhikkgpcmkonaaGreatDoor
theorem P_ {s:ByteArray} {i:Nat} {b:UInt8} (hb:s.get! i = b) (h:b.toNat<128):Utf8.decode s i = (b.toNat,1):=by
 unfold Utf8.decode;simp only[Nat.add_zero,hb,h,if_true]
theorem decode_high {s:ByteArray} {i:Nat} {b:UInt8} (hb:s.get! i = b) (h:128≤b.toNat):128≤(Utf8.decode s i).1:=by
 unfold Utf8.decode;have h':¬b.toNat<128:=ω;simp only[Nat.add_zero,hb,h',if_false,Utf8.runeError];split
 ·split <;> (try simp) <;> omega
 ·split
  ·split
   ·rename_i hc;simp only[Bool.and_eq_true,decide_eq_true_eq] at hc;show 128≤_;omega
   ·simp
  ·split
   ·split
    ·rename_i hc;simp only[Bool.and_eq_true,decide_eq_true_eq] at hc;show 128≤_;omega
    ·simp
   ·simp
theorem RZ {p:Nat→Bool} {q:UInt8→Bool} (h1:∀b:UInt8,b.toNat<128→p b.toNat=q b) (h2:∀r,128≤r→p r = true) (h3:∀b:UInt8,128≤b.toNat→q b = true) (s:ByteArray) :
 ∀(f pos:Nat),s.size≤pos+f→decide (0≤Lib.idxFuncFrom p true s f pos)=(s.data.toList.drop pos).any q:=by
 intro f;induction f with
 | zero=>
  intro pos hf;rw[List.drop_of_length_le (by rw[Array.length_toList];exact hf)];rfl
 | succ f ih=>
  intro pos hf;unfold Lib.idxFuncFrom;by_cases hp:pos<s.size
  ·rw[if_pos hp];have hl:pos<s.data.toList.length:=by rw[Array.length_toList];exact hp
   rw[List.drop_eq_getElem_cons hl,List.any_cons];have hg:s.get! pos=s.data.toList[pos]:=by
    rw[Array.getElem_toList];show s.data[pos]! = _
    exact getElem!_pos s.data pos hp
   by_cases hb:(s.get! pos).toNat<128
   ·rw[P_ rfl hb,h1 _ hb,hg];cases hq:q s.data.toList[pos]
    ·simp only[Bool.false_eq_true,if_false,Bool.false_or];exact ih (pos+1) ω
    ·simp
   ·have akM:128≤(s.get! pos).toNat:=ω;rw[h2 _ (decode_high rfl akM),←hg,h3 _ akM];simp
  ·rw[if_neg hp,List.drop_of_length_le (by rw[Array.length_toList];show s.size≤pos;omega)];rfl
theorem afK {p:Nat→Bool} {q:UInt8→Bool} (h1:∀b:UInt8,b.toNat<128→p b.toNat=q b) (h2:∀r,128≤r→p r = true) (h3:∀b:UInt8,128≤b.toNat→q b = true) (s:ByteArray) :
 decide (0≤Lib.idxFunc p true s)=s.data.toList.any q:=RZ h1 h2 h3 s s.size 0 ω
def VJ (r:Nat):Bool:=decide (97≤r)&&decide (r≤122)
def Dl (r:Nat):Bool:=decide (48≤r)&&decide (r≤57)
def M_ (r:Nat):Bool:= !(decide (r = 95))&& !(VJ r)&& !(Dl r)
def Cc (b:UInt8):Bool:= !(M_ b.toNat)
def fG (s:List UInt8):Bool:=decide (1≤s.length)&&decide (s.length≤12)&& !(Dl (s.headD 0).toNat)&&s.all Cc
theorem T_ {r:Nat} (h:128≤r):M_ r = true:=by
 unfold M_ VJ Dl;simp;omega
theorem ajh (s:ByteArray):(!(decide (0≤Lib.idxFunc M_ true s)))=s.data.toList.all Cc:=by
 rw[afK (q:=fun b=>M_ b.toNat) (fun _ _=>rfl) (fun _ h=>T_ h) (fun _ h=>T_ h) s,List.not_any_eq_all_not];rfl
def yB (i:Nat) (b:UInt8):Bool:=VJ b.toNat||decide (b.toNat=95)||(Dl b.toNat&&decide (0<i))
theorem Lj (i:Nat) (b:UInt8):yB (i + 1) b = Cc b:=by
 unfold yB Cc M_;simp only[Nat.zero_lt_succ,decide_true,Bool.and_true,Bool.not_and,Bool.not_not];cases VJ b.toNat <;> cases decide (b.toNat=95) <;> cases Dl b.toNat <;> rfl
theorem Ce (b:UInt8):yB 0 b = (Cc b && !(Dl b.toNat)):=by
 unfold yB Cc M_;have h:VJ b.toNat=true→Dl b.toNat=false:=by unfold VJ Dl;simp;omega
 have h5:decide (b.toNat=95)=true→Dl b.toNat=false:=by unfold Dl;simp;omega
 simp only[Nat.lt_irrefl,decide_false,Bool.and_false,Bool.or_false,Bool.not_and,Bool.not_not];revert h h5
 cases VJ b.toNat <;> cases decide (b.toNat=95) <;> cases Dl b.toNat <;> simp
structure bM where
 n:List UInt8
 v:List UInt8
deriving DecidableEq
structure zN where
 n:List UInt8
 l:gy
deriving DecidableEq
structure cu where
 n:List UInt8
 op:Int
 v:List UInt8
deriving DecidableEq
structure Rte where
 r:List UInt8
 fP:List (List UInt8)
 wait:Int
 every:Int
 again:Int
 wh:List cu
deriving DecidableEq
structure Inh where
 fP:List (List UInt8)
 l:gy
 from_:List cu
 wh:List cu
deriving DecidableEq
structure fQ where
 sources:List zN
 receivers:List zN
 aqu:List zN
 raises:List zN
 routes:List Rte
 jZ:List Inh
structure iH where
 src:List UInt8
 fs:List bM
 l:gy
 f:Int
 t:Int
structure ni where
 route:Nat
 fP:List bM
 key:Nat
 ids:List Nat
deriving DecidableEq
def dY (l:List zN) (n:List UInt8):Option gy:=(l.find? fun x=>decide (x.n = n)).map (·.l)
def lQ (p:fQ) (n:List UInt8) (l:gy):gy:=match dY p.raises n with
 | some r=>Bf l r
 | none=>l
def jW (p:fQ) (fs:List bM) (l tO:gy):List bM:=fs.filter fun f=>eU (lQ p f.n l) tO
def gY:List UInt8→List UInt8→Bool
 | [],[]=>false
 | [],_ ::_=>true
 | _ ::_,[]=>false
 | a ::x,b ::y=>if a = b then gY x y else decide (a.toNat<b.toNat)
def AY:List bM→Bool
 | []=>true
 | [_]=>true
 | a ::b ::l=>gY a.n b.n &&AY (b ::l)
def iL (l:List bM):Bool:=(l.all fun f=>fG f.n &&decide (f.v.length≤200))&&AY l &&decide (l.length≤8)
def eY:Int:=1099511627776
def bg (a:iH):Bool:=fG a.src&&decide (0<a.fs.length)&&iL a.fs&&dA a.l.lv&&decide (0≤a.f∧a.f≤eY)&&decide (a.t = 0∨(a.f < a.t∧a.t≤eY))
def eX (a:iH) (now:Int):Bool:=decide (a.f≤now)&&(decide (a.t = 0)||decide (now<a.t))
def iR (p:fQ) (a:iH) (tO:gy):Option iH:=if (jW p a.fs a.l tO).length=0∨eU a.l tO=false then none else some {a with fs:=jW p a.fs a.l tO}
def kM (p:fQ) (rec:List UInt8) (a:iH) (now:Int):Option iH:=match dY p.receivers rec with
 | none=>none
 | some tO=>if bg a &&eX a now then iR p a tO else none
def yw (l:List bM) (n:List UInt8):List UInt8:=((l.find? fun x=>decide (x.n = n)).map (·.v)).getD []
def jq (l:List bM) (names:List (List UInt8)):List bM:=l.filter fun f=>decide (f.n∈names)
def qM (f:bM):List UInt8:=f.n ++61::(f.v ++[0])
def oU (l:List UInt8):List Nat:=l.map (·.toNat)
end Go.Proofs.YtbhikkgpcmkonaaGreatDoor
namespace Go.Proofs.YtbhikkgpcmkonaaGreatDoor
open Go.RowKit
def sv (s:List UInt8):Value:=.string ⟨s.toArray⟩
def dZ (x:bM):List Value:=[.string ⟨x.n.toArray⟩,.string ⟨x.v.toArray⟩]
theorem JB (x:bM):(dZ x).length=2:=rfl
theorem auW (x:bM):∀u∈dZ x,u.oneCell'=true:=by intro u hu;simp[dZ] at hu;rcases hu with rfl | rfl <;> rfl
theorem aCy:fB Tryz.prog 22 88 2 32:=fB.mk' (z:=.agg #[.string ⟨#[]⟩,.string ⟨#[]⟩]) Tryz.underlying22 κ rfl ω
theorem vH (l:List UInt8):xJ ⟨l.toArray⟩=oU l:=rfl
theorem bsize (l:List UInt8):(⟨l.toArray⟩:ByteArray).size=l.length:=by show l.toArray.size=_;simp
theorem ajd (a:List UInt8):(oU a).length=a.length:=List.length_map _
theorem NH (a:List UInt8):∀x∈oU a,x < 256:=by
 intro x hx;simp only[oU,List.mem_map] at hx;obtain⟨b,_,rfl⟩:=hx;exact b.toNat_lt
theorem Oe {P:Program} {ops:Array Oper} {rest:List Oper} {o:Oper} {ac:Act} {w w':World} {v:Value} {Q:Exit→Act→World→Prop} (hgd:o.guard=none) (hr:(execOp ac.eval o).run P w =.ok (.value v) w')
 (hK:wpList P ops Q rest (ac.put o.dst v) w'):wpList P ops Q (o ::rest) ac w:=
 wpList_step fun K' hk=>by
  rw[if_pos (by simp[Region.wanted,hgd])];unfold Oper.wp;rw[hr];exact hk _ _ hK
theorem Y5 {P:Program} {o:Oper} {ac:Act} {w w':World} {t u:TypeId} {v vy v':Value} (s y:Operand) (ho:o.op=.call {callee:=.builtin .append,args:= #[s,y],argTypes:= #[t,u]})
 (hs:ac.eval s = v) (hy:ac.eval y = vy) (hr:(Builtin.append_ #[t,u] o.type #[v,vy]).run P w =.ok v' w'):(execOp ac.eval o).run P w =.ok (.value v') w':=by
 unfold execOp;simp only[ho,resolve,invoke,builtin,Sem.run_bind,Sem.run_pure,Result.andThen_ok,List.map_toArray,List.map_cons,List.map_nil,hs,hy,hr]
theorem WQ {P:Program} {o:Oper} {ac:Act} {w w':World} {t u:TypeId} {vx v':Value} (x:Operand) (ho:o.op=.convert t u x) (hx:ac.eval x = vx) (hr:(convert t u vx).run P w =.ok v' w') :
 (execOp ac.eval o).run P w =.ok (.value v') w':=by
 unfold execOp;simp only[ho,Sem.run_bind,Sem.run_pure,Result.andThen_ok,hx,hr]
theorem BR {ops:Array Oper} {rest:List Oper} {o:Oper} {ac:Act} {w:World} {Q:Exit→Act→World→Prop} {base:Nat} {v:Value} {xs ys:List Nat} {A:Option Addr} {m c:Nat} (hgd:o.guard=none) (s y:Operand)
 (ho:o.op=.call {callee:=.builtin .append,args:= #[s,y],argTypes:= #[112,112]}) (hs:ac.eval s = v) (hy:ac.eval y =.slice A m c) (h:jA w base v xs) (kK:bW w 1 jr A m ys) (hbase:base≤w.heap.size) (hlen:xs.length+m≤1099511700000)
 (hK:∀v' w',jA w' base v' (xs++ys)→w.grownBy w' v.ownBlock→wpList Tryz.prog ops Q rest (ac.put o.dst v') w'):wpList Tryz.prog ops Q (o ::rest) ac w:=by
 obtain⟨v',w',hr,h1,h2⟩:=h.acX kK hbase hlen o.type;exact Oe hgd (Y5 s y ho hs hy hr) (hK v' w' h1 h2)
theorem lX {ops:Array Oper} {rest:List Oper} {o:Oper} {ac:Act} {w:World} {Q:Exit→Act→World→Prop} {t:ByteArray} (hgd:o.guard=none) (x:Operand)
 (ho:o.op=.convert 9 112 x) (hx:ac.eval x =.string t) (hlen:t.size≤1099511627776)
 (hK:∀v' w',jA w' w.heap.size v' (xJ t)→ah w w'→wpList Tryz.prog ops Q rest (ac.put o.dst v') w'):wpList Tryz.prog ops Q (o ::rest) ac w:=by
 obtain⟨v',w',hr,h1,h2⟩:=jA.amX t w hlen;exact Oe hgd (WQ x ho hx hr) (hK v' w' h1 h2)
theorem jA.bK {w:World} {base base':Nat} {v:Value} {xs:List Nat} (h:jA w base v xs) (hb:base'≤base):jA w base' v xs:=by
 rcases h with h | ⟨g,cap,cur,fz,hv,hb',r⟩
 ·exact .inl h
 ·exact .inr ⟨g,cap,cur,fz,hv,Nat.le_trans hb hb',r⟩
theorem bW.asi {w:World} {g:Nat} {t:TypeId} {x y:Nat} (h:aG w g t #[.int .u8 (x:Int),.int .u8 (y:Int)]):bW w 1 jr (some ⟨g,0,none⟩) 2 [x,y]:=by
 refine⟨rfl,fun _=>⟨g,0,rfl,h.lt,fun i hi j u hu=> ?_⟩⟩;have hj:j = 0:=by have:=(List.getElem?_eq_some_iff.1 hu).1;simp[jr] at this;omega
 subst hj;rw[h.cell];have hi2:i < 2:=hi;match i,hi2 with
 | 0,_=>exact hu
 | 1,_=>exact hu
end Go.Proofs.YtbhikkgpcmkonaaGreatDoor
namespace Go.Proofs.YtbhikkgpcmkonaaGreatDoor
open Go.RowKit Go.PlainAid
theorem ad3 (S:ByteArray) {k:Nat} {x:UInt8} (h:S.data.toList[k]? = some x):bt S k=(x.toNat:Int):=by
 have hk:k<S.size:=by
  have:=(List.getElem?_eq_some_iff.1 h).1;rw[Array.length_toList] at this;exact this
 rw[←get_bt S k hk];have h1:=(List.getElem?_eq_some_iff.1 h).2;congr 2
theorem ZB (x y:UInt8) (r s:List UInt8):gY (x ::r) (y ::s)=if x = y then gY r s else decide (x.toNat<y.toNat):=rfl
theorem Qn {r s:List UInt8} (h:r = []∨s = []):gY r s = decide (r.length<s.length):=by
 rcases h with rfl | rfl
 ·cases s <;> simp[gY]
 ·cases r <;> simp[gY]
theorem ac0 (S T:ByteArray) (hs:S.size≤9223372036854775807) (ht:T.size≤9223372036854775807) (w:World) :
 Calls Tryz.prog 103 #[.string S,.string T] w fun e w'=>e =.returned (.bool (gY S.data.toList T.data.toList))∧ah w w':=by
 have hS:S.data.toList.length=S.size:=Array.length_toList;have hT:T.data.toList.length=T.size:=Array.length_toList;have hbS:=get_bt S;have hbT:=get_bt T;have hxS:=fun k x=>ad3 S (k:=k) (x:=x)
 have VW:=fun k x=>ad3 T (k:=k) (x:=x)
 replace hxS:=ζ hxS;replace VW:=ζ VW;generalize S.data.toList=a at *
 generalize T.data.toList=b at *
 obtain⟨R,hR⟩:∃R,R=gY a b:=⟨_,rfl⟩;rw[←hR];go_enter Tryz.func103,Tryz.ntmps103
 go_wp2;go_loopw [5] (fun i wr=>∃k:Nat,k≤S.size∧k≤T.size∧i =.int .i64 k∧Hid (R=gY (a.drop k) (b.drop k))∧ah w wr) (fun i _=>S.size-(intOf i).toNat)
 case atStart=>exact⟨0,ω,ω,rfl,hR,ah.refl _⟩
 case round=>
  clear hR;obtain⟨k,hk1,hk2,rfl,hR,hG⟩:=hrel;by_cases hks:k<S.size
  ·have i1:(k:Int)<(S.size:Int):=ω;by_cases hkt:k<T.size
   ·have i2:(k:Int)<(T.size:Int):=ω;obtain⟨x,hx⟩:∃x,a[k]? = some x:=⟨_,List.getElem?_eq_getElem ω⟩;obtain⟨y,hy⟩:∃y,b[k]? = some y:=⟨_,List.getElem?_eq_getElem ω⟩;have BN:=hbS k hks;have hby:=hbT k hkt;rw[hxS.o k x hx] at BN;rw[VW.o k y hy] at hby;have da:a.drop k=x ::a.drop (k+1):=by
     have h1:k<a.length:=ω;rw[List.drop_eq_getElem_cons h1];rw[List.getElem?_eq_getElem h1] at hx;rw[Option.some.inj hx]
    have db:b.drop k=y ::b.drop (k+1):=by
     have h1:k<b.length:=ω;rw[List.drop_eq_getElem_cons h1];rw[List.getElem?_eq_getElem h1] at hy;rw[Option.some.inj hy]
    have yJ:=hR.o;rw[da,db,ZB] at yJ;have H7:=x.toNat_lt;have DV:=y.toNat_lt;clear hbS hbT hR da db hx hy;by_cases Yv:x = y
    ·rw[if_pos Yv] at yJ;subst Yv;replace yJ:=ζ yJ;clear DV;go_wp2_with fail;refine aF κ ?_;refine rK (.range 7) 0 ?_;iterate 7 refine ay ?_
     refine aB ?_;refine aH κ (fun wN hN hS=> ?_);go_wp2;go_roundw
     case rel=>exact⟨k+1,ω,ω,ν,yJ,hG.trans hN⟩
     case measure=>exact ψ
    ·rw[if_neg Yv] at yJ;have hne:¬((x.toNat:Int)=(y.toNat:Int)):=fun h=>Yv (UInt8.toNat_inj.1 ω)
     generalize x.toNat=X at *
     generalize y.toNat=Y at *
     clear Yv;replace yJ:=ζ yJ;go_wp2_with fail;refine aF κ ?_;refine rK (.range 7) 0 ?_;iterate 7 refine ay ?_
     refine aB ?_;refine aH κ (fun wN hN hS=> ?_);rename_i azr;replace hG:=hG.trans hN;clear hN hS;go_wp2_with fail;refine aF κ ?_;refine rK (.range 8) 0 ?_;iterate 8 refine ay ?_
     refine aB ?_;refine aH κ (fun wN hN hS=> ?_);go_wp2;go_ret;rw[yJ.o];exact⟨aJ σ,hG.trans hN⟩
   ·have i2:¬((k:Int)<(T.size:Int)):=ω;have yJ:=hR.o;rw[Qn (.inr (List.drop_of_length_le ω)),List.length_drop,List.length_drop] at yJ;replace yJ:=ζ yJ;clear hR hbS hbT;go_wp2;go_ret;rw[yJ.o];refine⟨aJ ?_,hG⟩;rw[Bool.eq_iff_iff];simp only[decide_eq_true_eq];omega
  ·have i1:¬((k:Int)<(S.size:Int)):=ω;have yJ:=hR.o;rw[Qn (.inl (List.drop_of_length_le ω)),List.length_drop,List.length_drop] at yJ;replace yJ:=ζ yJ;clear hR hbS hbT;go_wp2;go_ret;rw[yJ.o];refine⟨aJ ?_,hG⟩;rw[Bool.eq_iff_iff];simp only[decide_eq_true_eq];omega
theorem ahe (a b:List UInt8) (ha:a.length≤9223372036854775807) (hb:b.length≤9223372036854775807) (w:World) :
 Calls Tryz.prog 103 #[.string ⟨a.toArray⟩,.string ⟨b.toArray⟩] w fun e w'=>e =.returned (.bool (gY a b))∧ah w w':=ac0 ⟨a.toArray⟩ ⟨b.toArray⟩ (by rw[bsize];exact ha) (by rw[bsize];exact hb) w
theorem abl {a:List UInt8} {k:Nat} {x:UInt8} (hx:a[k]? = some x) (h:yB k x = false):fG a = false:=by
 have hm:=List.mem_of_getElem? hx;have hall:Cc x = false→a.all Cc=false:=fun h=>by
  rw[←Bool.not_eq_true,List.all_eq_true];intro hh;rw[hh x hm] at h;cases h
 unfold fG;cases k with
 | zero=>
  rw[Ce] at h;have hh:a.headD 0=x:=by cases a <;> simp_all
  rw[hh];cases hs:Cc x
  ·rw[hall hs];simp
  ·rw[hs] at h;have:Dl x.toNat=true:=by simpa using h
   rw[this];simp
 | succ k=>
  rw[Lj] at h;rw[hall h];simp
theorem afs {a:List UInt8} (h:∀j x,a[j]? = some x→yB j x = true):fG a = (decide (1≤a.length)&&decide (a.length≤12)):=by
 have h1:a.all Cc=true:=by
  rw[List.all_eq_true];intro x hx;obtain⟨j,hj⟩:=List.getElem?_of_mem hx;have:=h j x hj;cases j with
  | zero=>rw[Ce] at this;simp at this;exact this.1
  | succ j=>rw[Lj] at this;exact this
 unfold fG;rw[h1];cases a with
 | nil=>simp
 | cons x r=>
  have:=h 0 x rfl;rw[Ce] at this;simp at this;simp[this.2]
theorem aft (S:ByteArray) (hs:S.size≤9223372036854775807) (w:World) :
 Calls Tryz.prog 37 #[.string S] w fun e w'=>e =.returned (.bool (fG S.data.toList))∧ah w w':=by
 have hS:S.data.toList.length=S.size:=Array.length_toList;have hbS:=get_bt S;have hxS:=fun k x=>ad3 S (k:=k) (x:=x)
 replace hxS:=ζ hxS;generalize S.data.toList=a at *
 obtain⟨R,hR⟩:∃R,R=fG a:=⟨_,rfl⟩;rw[←hR];replace hR:=ζ hR;go_enter Tryz.func37,Tryz.ntmps37
 go_wp2;go_loopw [3] (fun i wr=>∃k:Nat,k≤S.size∧i =.int .i64 k∧Hid (∀j x,j < k→a[j]? = some x→yB j x = true)∧wr=w) (fun i _=>S.size-(intOf i).toNat)
 case atStart=>exact⟨0,ω,rfl,fun _ _ h=>absurd h ω,rfl⟩
 case round=>
  obtain⟨k,hk1,rfl,hall,rfl⟩:=hrel;by_cases hks:k<S.size
  ·have i1:(k:Int)<(S.size:Int):=ω;obtain⟨x,hx⟩:∃x,a[k]? = some x:=⟨_,List.getElem?_eq_getElem ω⟩;have BN:=hbS k hks;rw[hxS.o k x hx] at BN;have hno:=fun h=>abl hx h
   have kQ:yB k x = true→Hid (∀j y,j < k+1→a[j]? = some y→yB j y = true):=fun h j y hj hy=>by
    by_cases hjk:j = k
    ·subst hjk;rw[hx] at hy;rw[←Option.some.inj hy];exact h
    ·exact hall.o j y ω hy
   unfold yB VJ Dl at hno kQ;clear hbS hx hall;have H7:=x.toNat_lt;generalize x.toNat=X at *
   have hX0:0≤(X:Int)∧(X:Int)≤255:=ω;clear H7;by_cases YX:97≤X∧X≤122
   ·have hy:=kQ (by simp[YX.1,YX.2]);have g1:(97:Int)≤X:=ω;have g2:(X:Int)≤122:=ω;clear hno kQ YX;go_wp2;go_roundw
    case rel=>exact⟨k+1,ω,ν,hy,trivial⟩
    case measure=>exact ψ
   ·by_cases h3:X=95
    ·have hy:=kQ (by simp[h3]);subst h3;clear hno kQ YX;go_wp2;go_roundw
     case rel=>exact⟨k+1,ω,ν,hy,trivial⟩
     case measure=>exact ψ
    ·have g3:¬((X:Int)=95):=ω;by_cases h45:48≤X∧X≤57∧0<k
     ·have hy:=kQ (by simp[h45.1,h45.2.1,h45.2.2]);have g1:¬((97:Int)≤X):=ω;have g4:(48:Int)≤X:=ω;have g5:(X:Int)≤57:=ω;have g6:0<k:=h45.2.2;clear hno kQ YX h45;go_wp2;go_roundw
      case rel=>exact⟨k+1,ω,ν,hy,trivial⟩
      case measure=>exact ψ
     ·have hn:fG a = false:=hno (by
       rw[Bool.or_eq_false_iff,Bool.or_eq_false_iff];refine⟨⟨?_,by simp[h3]⟩,?_⟩
       ·rw[←Bool.not_eq_true];simp;omega
       ·rw[←Bool.not_eq_true];simp;omega)
      have aN:R=false:=by rw[hR.o,hn]
      replace aN:=ζ aN;clear hno kQ hn;by_cases h1:97≤X
      ·have g1:(97:Int)≤X:=ω;have g2:¬((X:Int)≤122):=ω;have g4:(48:Int)≤X:=ω;have g5:¬((X:Int)≤57):=ω;clear YX h45 h1 h3;go_wp2;go_ret;exact⟨aJ aN.o.symm,ah.refl _⟩
      ·have g1:¬((97:Int)≤X):=ω;by_cases h4:48≤X
       ·have g4:(48:Int)≤X:=ω;by_cases h5:X≤57
        ·have g5:(X:Int)≤57:=ω;have g6:¬(0<k):=ω;clear YX h45 h1 h3 h4 h5;go_wp2;go_ret;exact⟨aJ aN.o.symm,ah.refl _⟩
        ·have g5:¬((X:Int)≤57):=ω;clear YX h45 h1 h3 h4 h5;go_wp2;go_ret;exact⟨aJ aN.o.symm,ah.refl _⟩
       ·have g4:¬((48:Int)≤X):=ω;clear YX h45 h1 h3 h4;go_wp2;go_ret;exact⟨aJ aN.o.symm,ah.refl _⟩
  ·obtain rfl:k=S.size:=ω;have aN:R=(decide (1≤S.size)&&decide (S.size≤12)):=by
    rw[hR.o,afs (fun j x hx=>hall.o j x (by have:=(List.getElem?_eq_some_iff.1 hx).1;omega) hx),hS]
   clear hbS hall;by_cases h1:1≤S.size
   ·have g1:(1:Int)≤(S.size:Int):=ω;by_cases h2:S.size≤12
    ·have g2:(S.size:Int)≤12:=ω;simp only[h1,h2,decide_true,Bool.and_self] at aN;replace aN:=ζ aN;go_wp2;go_ret;exact⟨aJ (by rw[aN.o]),ah.refl _⟩
    ·have g2:¬((S.size:Int)≤12):=ω;simp only[h2,decide_false,Bool.and_false] at aN;replace aN:=ζ aN;go_wp2;go_ret;exact⟨aJ (by rw[aN.o]),ah.refl _⟩
   ·have g1:¬((1:Int)≤(S.size:Int)):=ω;simp only[h1,decide_false,Bool.false_and] at aN;replace aN:=ζ aN;go_wp2;go_ret;exact⟨aJ (by rw[aN.o]),ah.refl _⟩
theorem TT (a:List UInt8) (ha:a.length≤9223372036854775807) (w:World) :
 Calls Tryz.prog 37 #[.string ⟨a.toArray⟩] w fun e w'=>e =.returned (.bool (fG a))∧ah w w':=aft ⟨a.toArray⟩ (by rw[bsize];exact ha) w
end Go.Proofs.YtbhikkgpcmkonaaGreatDoor
namespace Go.Proofs.YtbhikkgpcmkonaaGreatDoor
open Go.RowKit
theorem ad8:∀{l:List bM},AY l = true→∀{j:Nat} {e f:bM},l[j]? = some e→l[j + 1]? = some f→gY e.n f.n = true
 | [],_,_,_,_,h,_=>by simp at h
 | [_],_,_,_,_,_,h=>by simp at h
 | a ::b ::l,hl,j,e,f,he,hf=>by
  have h2:gY a.n b.n = true∧AY (b ::l)=true:=by simpa[AY] using hl
  cases j with
  | zero=>simp at he hf;subst he hf;exact h2.1
  | succ j=>exact ad8 h2.2 (by simpa using he) (by simpa using hf)
theorem ad7:∀{l:List bM},(∀(j:Nat) (e f:bM),l[j]? = some e→l[j + 1]? = some f→gY e.n f.n = true)→AY l = true
 | [],_=>rfl
 | [_],_=>rfl
 | a ::b ::l,h=>by
  have h1:=h 0 a b rfl rfl;have h2:=ad7 (l:=b ::l) (fun j e f he hf=>h (j + 1) e f (by simpa using he) (by simpa using hf));show (gY a.n b.n &&AY (b ::l))=true
  rw[h1,h2];rfl
def Nu (f:bM):Bool:=fG f.n &&decide (f.v.length≤200)
theorem xW {l:List bM} {k:Nat} {f:bM} (hf:l[k]? = some f) (h:Nu f = false):iL l = false:=by
 have hall:l.all (fun f=>fG f.n &&decide (f.v.length≤200))=false:=by
  rw[←Bool.not_eq_true,List.all_eq_true];intro hh;have:=hh f (List.mem_of_getElem? hf);unfold Nu at h;rw[h] at this;cases this
 unfold iL;rw[hall];rfl
theorem LQ {l:List bM} {k:Nat} {e f:bM} (he:l[k]? = some e) (hf:l[k+1]? = some f) (h:gY e.n f.n = false):iL l = false:=by
 have hall:AY l = false:=by
  rw[←Bool.not_eq_true];intro hh;rw[ad8 hh he hf] at h;cases h
 unfold iL;rw[hall];simp
def uJ (l:List bM) (k:Nat):Prop:=(∀j f,j < k→l[j]? = some f→Nu f = true)∧(∀j e f,j + 1<k→l[j]? = some e→l[j + 1]? = some f→gY e.n f.n = true)
theorem uJ.succ {l:List bM} {k:Nat} {f:bM} (h:uJ l k) (hf:l[k]? = some f) (hb:Nu f = true) (ha:∀e,0<k→l[k-1]? = some e→gY e.n f.n = true):uJ l (k+1):=by
 refine⟨fun j g hj hg=> ?_,fun j e g hj he hg=> ?_⟩
 ·by_cases hjk:j = k
  ·subst hjk;rw[hf] at hg;rw[←Option.some.inj hg];exact hb
  ·exact h.1 j g ω hg
 ·by_cases hjk:j + 1=k
  ·subst hjk;rw[hf] at hg;rw[←Option.some.inj hg];exact ha e ω (by simpa using he)
  ·exact h.2 j e g ω he hg
theorem uJ.all {l:List bM} (h:uJ l l.length):iL l = decide (l.length≤8):=by
 have h1:l.all (fun f=>fG f.n &&decide (f.v.length≤200))=true:=by
  rw[List.all_eq_true];intro f hf;obtain⟨j,hj⟩:=List.getElem?_of_mem hf;exact h.1 j f (List.getElem?_eq_some_iff.1 hj).1 hj
 have h2:AY l = true:=ad7 fun j e f he hf=>h.2 j e f (List.getElem?_eq_some_iff.1 hf).1 he hf
 unfold iL;rw[h1,h2];simp
theorem aaz {A:Option Addr} {m c:Nat} {fs:List bM} (w:World) (hA:bW w 2 dZ A m fs) (hm:m≤9223372036854775807) (hf:∀f∈fs,f.n.length≤9223372036854775807∧f.v.length≤9223372036854775807) :
 Calls Tryz.prog 59 #[.slice A m c] w fun e w'=>e =.returned (.bool (iL fs))∧ah w w':=by
 have kN:=hA.1;obtain⟨R,hR⟩:∃R,R=iL fs:=⟨_,rfl⟩;rw[←hR];replace hR:=ζ hR;replace hA:=ζ hA;replace hf:=ζ hf;go_enter Tryz.func59,Tryz.ntmps59
 go_wp2;go_loopw [3] (fun i wr=>∃k:Nat,k≤m∧i =.int .i64 k∧Hid (uJ fs k)∧Hid (ah w wr)) (fun i _=>m - (intOf i).toNat)
 case atStart=>exact⟨0,ω,rfl,⟨fun _ _ h=>absurd h ω,fun _ _ _ h=>absurd h ω⟩,ah.refl _⟩
 case round=>
  obtain⟨k,hk,rfl,hall,hG⟩:=hrel;by_cases qC:k<m
  ·obtain⟨bb,off,f,rfl,CW,hx,hcell⟩:=(hA.o.keep hG.o).at_ qC;have c0:wr.cell? ⟨bb,off+k*2,none⟩=some (.string ⟨f.n.toArray⟩):=by simpa using hcell 0 _ rfl
   have c1:wr.cell? ⟨bb,off+k*2+1,none⟩=some (.string ⟨f.v.toArray⟩):=by simpa using hcell 1 _ rfl
   have tZ:=hf.o f (List.mem_of_getElem? hx);have av5:=tZ.1;have Bo:=tZ.2;have kX:(k:Int)<(m:Int):=ω;have cN:=fun W=>TT f.n av5 W
   have hbz:=bsize f.v;cases NQ:fG f.n with
   | false=>
    have aN:=hR.o;rw[xW hx (by unfold Nu;rw[NQ];rfl)] at aN;rw[NQ] at cN;replace aN:=ζ aN;replace cN:=ζ cN;clear hcell hx tZ NQ hall hR hbz;go_wp2_with fail;refine aF κ ?_;refine rK (.range 35) 0 ?_;iterate 5 refine ay ?_
    refine aT (.bool false) rfl χ (fun wq dN=> ?_) ?_
    ·obtain⟨lu,kR⟩:=bF dN;go_simp;exact Calls.mono (cN.out wq) (fun e w'' h=>h)
    go_simp;iterate 25 refine ay ?_
    refine fU rfl χ ?_;go_simp;iterate 3 refine ay ?_
    refine aB ?_;refine aH κ (fun wN hN hS=> ?_);go_wp2;go_ret;exact⟨aJ (by rw[aN.o]),hG.o.trans hN⟩
   | true=>
    rw[NQ] at cN;replace cN:=ζ cN;by_cases hv:f.v.length≤200
    ·have nG:Nu f = true:=by unfold Nu;rw[NQ];simp[hv]
     have hvi:¬((200:Int)<(f.v.length:Int)):=ω;by_cases JC:0<k
     ·obtain⟨j,rfl⟩:∃j,k=j + 1:=⟨k-1,ω⟩;obtain⟨bb',kJ,e,hA',hse,he,vT⟩:=(hA.o.keep hG.o).at_ (show j < m by omega);injection hA' with hA'
      injection hA' with hb1 hb2
      subst hb1 hb2;have c2:wr.cell? ⟨bb,off+j * 2,none⟩=some (.string ⟨e.n.toArray⟩):=by simpa using vT 0 _ rfl
      have cA:=fun W=>ahe e.n f.n (hf.o e (List.mem_of_getElem? he)).1 av5 W
      have i0:(0:Int)<((j + 1:Nat):Int):=ω;have i1:((j + 1:Nat):Int)-1=(j:Int):=ω;have i2:(j:Int)<(m:Int):=ω;cases hah:gY e.n f.n with
      | false=>
       rw[hah] at cA;replace cA:=ζ cA;have aN:=hR.o;rw[LQ he hx hah] at aN;replace aN:=ζ aN;clear hcell vT hx he tZ NQ hall hR nG hah;go_wp2_with fail;refine aF κ ?_;refine rK (.range 35) 0 ?_;iterate 5 refine ay ?_
       refine aT (.bool true) rfl χ (fun wq dN=> ?_) ?_
       ·obtain⟨lu,kR⟩:=bF dN;go_simp;exact Calls.mono (cN.out wq) (fun e w'' h=>h)
       go_simp;iterate 25 refine ay ?_
       refine aT (.bool false) rfl χ (fun wq dN=> ?_) ?_
       ·obtain⟨lu,kR⟩:=bF dN;go_simp;exact Calls.mono (cA.out wq) (fun e w'' h=>h)
       go_simp;iterate 3 refine ay ?_
       refine aB ?_;refine aH κ (fun wN hN hS=> ?_);go_wp2;go_ret;exact⟨aJ (by rw[aN.o]),hG.o.trans hN⟩
      | true=>
       rw[hah] at cA;replace cA:=ζ cA;have f_:=ζ (hall.o.succ hx nG (fun e' _ he'=>by rw[show j + 1-1=j from rfl,he] at he';rw[←Option.some.inj he'];exact hah));clear hcell vT hx he tZ NQ hall nG hah;go_wp2_with fail;refine aF κ ?_;refine rK (.range 35) 0 ?_;iterate 5 refine ay ?_
       refine aT (.bool true) rfl χ (fun wq dN=> ?_) ?_
       ·obtain⟨lu,kR⟩:=bF dN;go_simp;exact Calls.mono (cN.out wq) (fun e w'' h=>h)
       go_simp;iterate 25 refine ay ?_
       refine aT (.bool true) rfl χ (fun wq dN=> ?_) ?_
       ·obtain⟨lu,kR⟩:=bF dN;go_simp;exact Calls.mono (cA.out wq) (fun e w'' h=>h)
       go_simp;iterate 3 refine ay ?_
       refine aB ?_;refine aH κ (fun wN hN hS=> ?_);go_wp2;go_roundw
       case rel=>exact⟨j + 1+1,ω,ν,f_,hG.o.trans hN⟩
       case measure=>exact ψ
     ·obtain rfl:k=0:=ω;simp only[Nat.zero_mul,Nat.add_zero] at c0 c1;have f_:=ζ (hall.o.succ hx nG (fun e' h _=>absurd h ω));clear hcell hx tZ NQ hall nG JC;go_wp2_with fail;refine aF κ ?_;refine rK (.range 35) 0 ?_;iterate 5 refine ay ?_
      refine aT (.bool true) rfl χ (fun wq dN=> ?_) ?_
      ·obtain⟨lu,kR⟩:=bF dN;go_simp;exact Calls.mono (cN.out wq) (fun e w'' h=>h)
      go_simp;iterate 25 refine ay ?_
      refine fU rfl χ ?_;go_simp;iterate 3 refine ay ?_
      refine aB ?_;refine aH κ (fun wN hN hS=> ?_);go_wp2;go_roundw
      case rel=>exact⟨1,ω,ν,f_,hG.o.trans hN⟩
      case measure=>exact ψ
    ·have hvi:(200:Int)<(f.v.length:Int):=ω;have aN:=hR.o;rw[xW hx (by unfold Nu;rw[NQ];simp[hv])] at aN;replace aN:=ζ aN;clear hcell hx tZ NQ hall hR;go_wp2_with fail;refine aF κ ?_;refine rK (.range 35) 0 ?_;iterate 5 refine ay ?_
     refine aT (.bool true) rfl χ (fun wq dN=> ?_) ?_
     ·obtain⟨lu,kR⟩:=bF dN;go_simp;exact Calls.mono (cN.out wq) (fun e w'' h=>h)
     go_simp;iterate 25 refine ay ?_
     refine fU rfl χ ?_;go_simp;iterate 3 refine ay ?_
     refine aB ?_;refine aH κ (fun wN hN hS=> ?_);go_wp2;go_ret;exact⟨aJ (by rw[aN.o]),hG.o.trans hN⟩
  ·obtain rfl:k=m:=ω;have aN:=hR.o;rw[uJ.all (by rw[kN];exact hall.o),kN] at aN;by_cases h8:k≤8
   ·have h8i:(k:Int)≤8:=ω;simp only[h8,decide_true] at aN;replace aN:=ζ aN;clear hR hall;go_wp2;go_ret;exact⟨aJ (by rw[aN.o]),hG.o⟩
   ·have h8i:¬((k:Int)≤8):=ω;simp only[h8,decide_false] at aN;replace aN:=ζ aN;clear hR hall;go_wp2;go_ret;exact⟨aJ (by rw[aN.o]),hG.o⟩
end Go.Proofs.YtbhikkgpcmkonaaGreatDoor
namespace Go.Proofs.YtbhikkgpcmkonaaGreatDoor
open Go.RowKit Go.Maps Go.WideMaps
def nR:List (List UInt8×Lit)→List UInt8→Option Lit
 | [],_=>none
 | x ::r,s=>match nR r s with
  | some d=>some d
  | none=>if x.1=s then some x.2 else none
theorem vM (x:List UInt8×Lit) (r:List (List UInt8×Lit)) (s:List UInt8):nR (x ::r) s = match nR r s with
 | some d=>some d
 | none=>if x.1=s then some x.2 else none:=rfl
def Gq (l:List (List UInt8×Lit)) (m:DataW Unit):DataW Unit:=l.foldl (fun m x=>m.put (.string x.1) (.lit x.2)) m
theorem VB:∀(l:List (List UInt8×Lit)) (m:DataW Unit),IsMap m→IsMap (Gq l m)
 | [],_,h=>h
 | _ ::r,_,h=>VB r _ (h.put _ _)
theorem zi (s:List UInt8):WideAt.IsKeyLit (.string s):=by first | trivial | simp[WideAt.IsKeyLit] | exact⟨⟩
theorem J4 (z:DataW Unit) (s:List UInt8):∀(l:List (List UInt8×Lit)) (m:DataW Unit),IsMap m→(Gq l m).atKey (.string s) z = (match nR l s with | some d=> .lit d | none=>m.atKey (.string s) z)
 | [],_,_=>rfl
 | x ::r,m,h=>by
  show (Gq r (m.put (.string x.1) (.lit x.2))).atKey (.string s) z = _
  rw[J4 z s r _ (h.put _ _)];rw[vM];cases nR r s with
  | some d=>rfl
  | none=>
   by_cases he:x.1=s
   ·subst he;simp only[if_true];exact atKey_put_same h (zi _) _ _
   ·simp only[he,if_false];exact atKey_put_other (fun e=>he (by injection e with e;exact e.symm)) _ _
theorem OG (s:List UInt8):∀(l:List (List UInt8×Lit)) (m:DataW Unit),IsMap m→Maps.has (Gq l m) (.string s)=((nR l s).isSome||Maps.has m (.string s))
 | [],_,_=>rfl
 | x ::r,m,h=>by
  show Maps.has (Gq r (m.put (.string x.1) (.lit x.2))) (.string s)=_
  rw[OG s r _ (h.put _ _)];rw[vM];cases nR r s with
  | some d=>rfl
  | none=>
   by_cases he:x.1=s
   ·subst he;simp only[if_true];rw[has_put_same h (zi _)];rfl
   ·simp only[he,if_false];rw[has_put_other (fun e=>he (by injection e with e;exact e.symm))]
def jg (P:Program) (k e:TypeId) (w:World) (b n:Nat) (l:List (List UInt8×Lit)):Prop:=w.ownsMap (H:=Unit) P k (plainElem P e) b n (Gq l (.map []))
section
variable {P:Program} {k e t:TypeId} {w:World} {b n:Nat} {l:List (List UInt8×Lit)}
theorem jg.made (w:World) (P:Program) (k e:TypeId):jg P k e (w.alloc (.map #[] 0)) w.heap.size 0 []:=World.ownsMap_made w P k _
theorem jg.alloc (h:jg P k e w b n l) (o:Obj):jg P k e (w.alloc o) b n l:=World.ownsMap.alloc h o
theorem jg.lt (h:jg P k e w b n l):b < w.heap.size:=World.ownsMap.lt h
theorem jg.kept {w':World} {row:Option Nat} (h:jg P k e w b n l) (hg:w.grownBy w' row) (hne:some b≠row):jg P k e w' b n l:=World.ownsMap.kept h hg hne
theorem jg.Uc (h:jg P k e w b n l) (hk:P.underlying k=some .string) (ht:P.underlying t = some (.map k e)) (he:P.underlying e = some .bool) (hz:(zeroValue e).run P w =.ok (.bool false) w) {s:List UInt8} (hs:s.length≤maxLen) {x:Bool} (hx:(nR l s).getD (.bool false)=.bool x) :
 (Instr.lookup t (.map (some b)) (.string ⟨s.toArray⟩) false).run P w =.ok (.bool x) w:=by
 obtain⟨v,ps,hrun,hv⟩:=World.ownsMap.lookup h (string_keyed hk) ht hz (plainElem_bool he false) (key:=.string ⟨s.toArray⟩) (kl:=.string s) (by simpa using keyOf_string_mk hk (s:=⟨s.toArray⟩) (by simpa[ByteArray.size] using hs));rw[J4 _ _ _ _ isMap_empty] at hv;have e1:(match nR l s with | some d=>(DataW.lit d:DataW Unit) | none=>(DataW.map []:DataW Unit).atKey (.string s) (.lit (.bool false)))=.lit (.bool x):=by
  cases hl:nR l s with
  | some d=>rw[hl] at hx;simp only[Option.getD_some] at hx;rw[hx]
  | none=>rw[hl] at hx;simp only[Option.getD_none] at hx;rw[←hx];rfl
 rw[e1] at hv;have:v =.bool x:=by
  unfold plainElem at hv;rw[he] at hv;cases v <;> simp at hv
  rw[hv.1]
 rw[←this];exact hrun
theorem jg.ajl (h:jg P k e w b n l) (hk:P.underlying k=some .string) (ht:P.underlying t = some (.map k e)) (he:P.underlying e = some (.int .i64)) (hz:(zeroValue e).run P w =.ok (.int .i64 0) w) {s:List UInt8} (hs:s.length≤maxLen) {x:Int} (hx:(nR l s).getD (.int .i64 0)=.int .i64 x) :
 (Instr.lookup t (.map (some b)) (.string ⟨s.toArray⟩) true).run P w =.ok (.tuple #[.int .i64 x,.bool (nR l s).isSome]) w:=by
 obtain⟨v,ps,hrun,hv⟩:=World.ownsMap.look_ok h (string_keyed hk) ht hz (plainElem_int he δ) (key:=.string ⟨s.toArray⟩) (kl:=.string s) (by simpa using keyOf_string_mk hk (s:=⟨s.toArray⟩) (by simpa[ByteArray.size] using hs));rw[J4 _ _ _ _ isMap_empty] at hv;have e1:(match nR l s with | some d=>(DataW.lit d:DataW Unit) | none=>(DataW.map []:DataW Unit).atKey (.string s) (.lit (.int .i64 0)))=.lit (.int .i64 x):=by
  cases hl:nR l s with
  | some d=>rw[hl] at hx;simp only[Option.getD_some] at hx;rw[hx]
  | none=>rw[hl] at hx;simp only[Option.getD_none] at hx;rw[←hx];rfl
 rw[e1] at hv;obtain⟨a,rfl,ha,_⟩:=plainElem_int_inv he hv;have:x = a:=by have:=congrArg Prod.fst ha;simpa using this
 subst this;rw[OG _ _ _ isMap_empty] at hrun;have e2:((nR l s).isSome||Maps.has (DataW.map []:DataW Unit) (.string s))=(nR l s).isSome:=by
  have:Maps.has (DataW.map []:DataW Unit) (.string s)=false:=rfl;rw[this,Bool.or_false]
 rw[e2] at hrun;exact hrun
theorem xu {ops:Array Oper} {rest:List Oper} {o:Oper} {a:Act} {Q:Exit→Act→World→Prop} (h:jg P k e w b n l)
 (hg:o.guard=none) (m x v:Operand) (hop:o.op=Op.mapUpdate t m x v) (hk:P.underlying k=some .string) (ht:P.underlying t = some (.map k e)) (hn:n < maxLen) (s:List UInt8) (hs:s.length≤maxLen) (val:Value) (d:Lit)
 (hm:a.eval m =.map (some b)) (hx:a.eval x =.string ⟨s.toArray⟩) (hv:a.eval v = val) (hd:plainElem (H:=Unit) P e val=some (.lit d,[]))
 (hK:∀w',jg P k e w' b (n + 1) (l ++[(s,d)])→w.grownBy w' (some b)→wpList P ops Q rest (a.put o.dst undef) w') :
 wpList P ops Q (o ::rest) a w:=by
 refine wpList_mapUpdate_own w hg m x v t hop k e (string_keyed hk) ht _ b n _ hm h hn _ _ (.string s) hx hv (by simpa using keyOf_string_mk hk (s:=⟨s.toArray⟩) (by simpa[ByteArray.size] using hs)) _ _ hd ?_;intro w' h1 h2;refine hK w' ?_ h2;unfold jg;unfold Gq;rw[List.foldl_append];exact h1
end
end Go.Proofs.YtbhikkgpcmkonaaGreatDoor
namespace Go.Proofs.YtbhikkgpcmkonaaGreatDoor
open Go.RowKit
def placeOf {α:Type} (p:α→Bool) (l:List α):Int:=match l.findIdx? p with
 | some i=>(i:Int)
 | none=> -1
theorem jh {α:Type} {p:α→Bool} {l:List α} {k:Nat} {x:α} (hx:l[k]? = some x) (hp:p x = true) (aA7:∀j y,j < k→l[j]? = some y→p y = false):placeOf p l = (k:Int):=by
 have:l.findIdx? p = some k:=by
  rw[List.findIdx?_eq_some_iff_getElem];obtain⟨h1,h2⟩:=List.getElem?_eq_some_iff.1 hx;refine⟨h1,by rw[h2];exact hp,fun j hj=> ?_⟩;have:=aA7 j (l[j]'ω) hj (List.getElem?_eq_getElem _);simp[this]
 unfold placeOf;rw[this]
theorem iJ {α:Type} {p:α→Bool} {l:List α} (h:∀(j:Nat) (y:α),l[j]? = some y→p y = false):placeOf p l =-1:=by
 have:l.findIdx? p = none:=by
  rw[List.findIdx?_eq_none_iff];intro x hx;obtain⟨j,hj⟩:=List.getElem?_of_mem hx;exact h j x hj
 unfold placeOf;rw[this]
theorem iM {α:Type} (p:α→Bool) (l:List α):decide (0≤placeOf p l)=l.any p:=by
 unfold placeOf;cases h:l.findIdx? p with
 | some i=>
  obtain⟨h1,h2,_⟩:=List.findIdx?_eq_some_iff_getElem.1 h;have:l.any p = true:=List.any_eq_true.2 ⟨_,List.getElem_mem h1,h2⟩;rw[this];simp
 | none=>
  have h1:=List.findIdx?_eq_none_iff.1 h;have:l.any p = false:=by
   rw[←Bool.not_eq_true,List.any_eq_true];rintro⟨x,hx,hp⟩;rw[h1 x hx] at hp;cases hp
  rw[this];simp
theorem abG {A:Option Addr} {m c:Nat} {l:List (List UInt8)} {v:List UInt8} (w:World) (hA:bW w 1 encS A m l) (hm:m≤9223372036854775807) :
 Calls Tryz.prog 176 #[.slice A m c,.string ⟨v.toArray⟩] w fun e w'=>e =.returned (.int .i64 (placeOf (fun x=>v ==x) l))∧ah w w':=by
 have kN:=hA.1;obtain⟨R,hR⟩:∃R,R=placeOf (fun x=>v ==x) l:=⟨_,rfl⟩;rw[←hR];replace hR:=ζ hR;replace hA:=ζ hA;go_enter Tryz.func176,Tryz.ntmps176
 go_wp2;go_loopw [4,5,8] (fun r _ i wr=>∃k:Nat,k≤m∧i =.int .i64 k∧r =.int .i64 0∧Hid (∀j y,j < k→l[j]? = some y→(v ==y)=false)∧wr=w) (fun _ _ i _=>m - (intOf i).toNat)
 case atStart=>exact⟨0,ω,rfl,rfl,fun _ _ h=>absurd h ω,rfl⟩
 case round=>
  obtain⟨k,hk,rfl,rfl,hall,rfl⟩:=hrel;by_cases qC:k<m
  ·obtain⟨bb,off,x,rfl,CW,hx,hcell⟩:=hA.o.at_ qC;have c0:wr.cell? ⟨bb,off+k,none⟩=some (.string ⟨x.toArray⟩):=by simpa using hcell 0 _ rfl
   have kX:(k:Int)<(m:Int):=ω;cases hvx:v ==x with
   | true=>
    have aN:Hid (R=(k:Int)):=ζ (by rw[hR.o];exact jh hx hvx hall.o);clear hR hall hcell hx;go_wp2;go_ret;exact⟨by rw[aN.o];rfl,ah.refl _⟩
   | false=>
    have f_:=ζ (show ∀j y,j < k+1→l[j]? = some y→(v ==y)=false from fun j y hj hy=>by
     by_cases hjk:j = k
     ·subst hjk;rw[hx] at hy;rw[←Option.some.inj hy];exact hvx
     ·exact hall.o j y ω hy)
    clear hR hall hcell hx;go_wp2;go_roundw
    case rel=>exact⟨k+1,ω,ν,rfl,f_,trivial⟩
    case measure=>exact ψ
  ·obtain rfl:k=m:=ω;have aN:Hid (R=-1):=ζ (by rw[hR.o];exact iJ fun j y hy=>hall.o j y (by have:=(List.getElem?_eq_some_iff.1 hy).1;omega) hy);clear hR hall;go_wp2;go_ret;exact⟨by rw[aN.o];rfl,ah.refl _⟩
theorem akn {A:Option Addr} {m c:Nat} {l:List (List UInt8)} {v:List UInt8} (w:World) (hA:bW w 1 encS A m l) (hm:m≤9223372036854775807) :
 Calls Tryz.prog 137 #[.slice A m c,.string ⟨v.toArray⟩] w fun e w'=>e =.returned (.bool (l.any fun x=>v ==x))∧ah w w':=by
 have cI:=abG (c:=c) (v:=v) w hA hm;have hp:=iM (fun x=>v ==x) l;generalize (l.any fun x=>v ==x)=R at *
 generalize placeOf (fun x=>v ==x) l = P at *
 subst hp;replace cI:=ζ cI;clear hA;go_enter Tryz.func137,Tryz.ntmps137
 go_wp2_with fail;refine (cI.out).mono ?_;rintro e w1 ⟨rfl,hg⟩;go_wp2;go_ret;exact⟨rfl,hg⟩
end Go.Proofs.YtbhikkgpcmkonaaGreatDoor
namespace Go.Proofs
open Go.Shelf
def Tryz.VN:Go.Shelf.Ren:=⟨fun | 171=>77 | 243=>123 | 246=>164 | 283=>196 | 284=>197 | 285=>198 | 286=>199 | 129=>209 | 317=>227 | 318=>228 | 319=>229 | 320=>230 | 337=>256 | 338=>257 | n=>n,fun | 3=>3 | 9=>9 | 2=>2 | 4=>4 | 171=>302 | 0=>0 | 53=>33 | 37=>112 | 5=>5 | 173=>305 | 212=>337 | 51=>23 | 20=>20 | 213=>338 | 46=>39 | 232=>201 | 233=>380 | n=>n,fun | 17=>2 | 18=>3 | 19=>4 | n=>n⟩
theorem Tryz.ajp:Go.Proofs.LaysM.n171 Tryz.prog Tryz.VN:={
 mixed:=by kernel_rfl
 f129:=Tryz.func209.trans (congrArg some κ)
 f171:=Tryz.func77.trans (congrArg some κ)
 f243:=Tryz.func123.trans (congrArg some κ)
 f246:=Tryz.func164.trans (congrArg some κ)
 f283:=Tryz.func196.trans (congrArg some κ)
 f284:=Tryz.func197.trans (congrArg some κ)
 f285:=Tryz.func198.trans (congrArg some κ)
 f286:=Tryz.func199.trans (congrArg some κ)
 f317:=Tryz.func227.trans (congrArg some κ)
 f318:=Tryz.func228.trans (congrArg some κ)
 f319:=Tryz.func229.trans (congrArg some κ)
 f320:=Tryz.func230.trans (congrArg some κ)
 f337:=Tryz.func256.trans (congrArg some κ)
 f338:=Tryz.func257.trans (congrArg some κ)
 t0:=Tryz.underlying0
 a0:=Tryz.isAgg0
 z0:=Tryz.sizeOf0
 v0:=Tryz.zeroValue0
 t2:=Tryz.underlying2
 a2:=Tryz.isAgg2
 z2:=Tryz.sizeOf2
 v2:=Tryz.zeroValue2
 t3:=Tryz.underlying3
 a3:=Tryz.isAgg3
 z3:=Tryz.sizeOf3
 v3:=Tryz.zeroValue3
 t4:=Tryz.underlying4
 a4:=Tryz.isAgg4
 z4:=Tryz.sizeOf4
 v4:=Tryz.zeroValue4
 t5:=Tryz.underlying5
 a5:=Tryz.isAgg5
 z5:=Tryz.sizeOf5
 v5:=Tryz.zeroValue5
 t9:=Tryz.underlying9
 a9:=Tryz.isAgg9
 z9:=Tryz.sizeOf9
 v9:=Tryz.zeroValue9
 t20:=Tryz.underlying20
 a20:=Tryz.isAgg20
 z20:=Tryz.sizeOf20
 v20:=Tryz.zeroValue20
 t37:=Tryz.underlying112
 a37:=Tryz.isAgg112
 z37:=Tryz.sizeOf112
 v37:=Tryz.zeroValue112
 t46:=Tryz.underlying39
 a46:=Tryz.isAgg39
 z46:=Tryz.sizeOf39
 v46:=Tryz.zeroValue39
 t51:=Tryz.underlying23
 a51:=Tryz.isAgg23
 z51:=Tryz.sizeOf23
 v51:=Tryz.zeroValue23
 t53:=Tryz.underlying33
 a53:=Tryz.isAgg33
 z53:=Tryz.sizeOf33
 v53:=Tryz.zeroValue33
 t171:=Tryz.underlying302
 a171:=Tryz.isAgg302
 z171:=Tryz.sizeOf302
 v171:=Tryz.zeroValue302
 t173:=Tryz.underlying305
 a173:=Tryz.isAgg305
 z173:=Tryz.sizeOf305
 v173:=Tryz.zeroValue305
 t212:=Tryz.underlying337
 a212:=Tryz.isAgg337
 z212:=Tryz.sizeOf337
 v212:=Tryz.zeroValue337
 t213:=Tryz.underlying338
 a213:=Tryz.isAgg338
 z213:=Tryz.sizeOf338
 t232:=Tryz.underlying201
 a232:=Tryz.isAgg201
 z232:=Tryz.sizeOf201
 v232:=Tryz.zeroValue201
 t233:=Tryz.underlying380
 a233:=Tryz.isAgg380
 z233:=Tryz.sizeOf380
 v233:=Tryz.zeroValue380
 g17:=by kernel_rfl
 g18:=by kernel_rfl
 g19:=by kernel_rfl
 i0:=by kernel_rfl
 i2:=by kernel_rfl
 i3:=by kernel_rfl
 i4:=by kernel_rfl
 i5:=by kernel_rfl
 i9:=by kernel_rfl
 i20:=by kernel_rfl
 i37:=by kernel_rfl
 i46:=by kernel_rfl
 i51:=by kernel_rfl
 i53:=by kernel_rfl
 i171:=by kernel_rfl
 i173:=by kernel_rfl
 i212:=by kernel_rfl
 i232:=by kernel_rfl
 i233:=by kernel_rfl
 m17:=by kernel_rfl
 m18:=by kernel_rfl
 m19:=by kernel_rfl}
def Tryz.VO:Go.Shelf.Ren:=⟨fun | 17=>159 | 15=>195 | 20=>226 | n=>n,fun | 9=>9 | 23=>263 | 4=>4 | 3=>3 | 0=>0 | 21=>21 | n=>n,fun | n=>n⟩
theorem Tryz.Yk:Go.Proofs.LaysGw.n17 Tryz.prog Tryz.VO:={
 mixed:=by kernel_rfl
 f15:=Tryz.func195.trans (congrArg some κ)
 f17:=Tryz.func159.trans (congrArg some κ)
 f20:=Tryz.func226.trans (congrArg some κ)
 t0:=Tryz.underlying0
 a0:=Tryz.isAgg0
 z0:=Tryz.sizeOf0
 v0:=Tryz.zeroValue0
 i0:=by kernel_rfl
 t3:=Tryz.underlying3
 a3:=Tryz.isAgg3
 z3:=Tryz.sizeOf3
 v3:=Tryz.zeroValue3
 i3:=by kernel_rfl
 t4:=Tryz.underlying4
 a4:=Tryz.isAgg4
 z4:=Tryz.sizeOf4
 v4:=Tryz.zeroValue4
 i4:=by kernel_rfl
 t9:=Tryz.underlying9
 a9:=Tryz.isAgg9
 z9:=Tryz.sizeOf9
 v9:=Tryz.zeroValue9
 i9:=by kernel_rfl
 t21:=Tryz.underlying21
 a21:=Tryz.isAgg21
 z21:=Tryz.sizeOf21
 v21:=Tryz.zeroValue21
 i21:=by kernel_rfl
 t23:=Tryz.underlying263
 a23:=Tryz.isAgg263
 z23:=Tryz.sizeOf263
 v23:=Tryz.zeroValue263
 i23:=by kernel_rfl}
end Go.Proofs
namespace Go.Proofs.YtbhikkgpcmkonaaGreatDoor
open Go.RowKit Go.PlainAid
theorem aai {P:Program} {w w':World} {nm:String} {g:Nat} {cs:Array Value} (h:ah w w') (hg:P.globalNamed nm=some g) (hv:w.var? P nm=some cs) (hlt:g < w.heap.size):w'.var? P nm=some cs:=var?_below h hg hlt hv
structure oJ (w:World):Prop where
 pow:Lib.TabIs Tryz.prog w "internal/strconv.uint64pow10" .u64 Lib.pow10Tab
 aqt:2<w.heap.size
theorem oJ.grows {w w':World} (h:oJ w) (hg:ah w w'):oJ w' where
 pow:=aai hg κ h.pow h.aqt
 aqt:=Nat.lt_of_lt_of_le h.aqt hg.size
theorem acu (w:World) (k:Nat) (os:Array Obj):ah w (Go.Sort.grow (w.drewN k) os):=
 ⟨rfl,rfl,rfl,by show w.heap.size≤(w.heap++os).size;simp,fun j hj=>by show (w.heap++os)[j]? = _;rw[Array.getElem?_append_left hj]⟩
theorem Yp (n:Int) (h0: -9223372036854775808≤n) (h1:n≤9223372036854775807) (w:World) (he:oJ w) :
 Calls Tryz.prog 77 #[.int .i64 n] w fun e w'=>e =.returned (.string ⟨(Lib.itoa n).toArray⟩)∧ah w w':=
 (Any.strconv_Itoa Tryz.ajp n h0 h1 w he.pow).mono fun _ _ ⟨e,k,os,hw⟩=>⟨e,by rw[hw];exact acu w k os⟩
theorem afv (w:World):PredAt Tryz.prog 172 #[] encR M_ w:=fun W r _=>by
 unfold FnGives;obtain⟨R,hR⟩:∃R,R=M_ r:=⟨_,rfl⟩;rw[←hR];unfold M_ VJ Dl at hR;by_cases h1:r = 95
 ·subst h1;replace hR:R=false:=by rw[hR];decide
  subst hR;go_enter Tryz.func172,Tryz.ntmps172
  go_wp2;go_ret;exact⟨rfl,0,rfl⟩
 ·have h1':((r:Int) != 95)=true:=by simp;omega
  by_cases h2:r < 48
  ·replace hR:R=true:=by rw[hR];simp;omega
   subst hR;have h3:(r:Int)<97:=ω;have h4:(r:Int)<48:=ω;go_enter Tryz.func172,Tryz.ntmps172
   go_wp2;go_ret;exact⟨rfl,0,rfl⟩
  ·by_cases h3:r≤57
   ·replace hR:R=false:=by rw[hR];simp;omega
    subst hR;have h3:(r:Int)<97:=ω;have h4:¬(r:Int)<48:=ω;have h5:¬57<(r:Int):=ω;go_enter Tryz.func172,Tryz.ntmps172
    go_wp2;go_ret;exact⟨rfl,0,rfl⟩
   ·have h5:57<(r:Int):=ω;have h4:¬(r:Int)<48:=ω;by_cases h6:r < 97
    ·replace hR:R=true:=by rw[hR];simp;omega
     subst hR;have h7:(r:Int)<97:=ω;go_enter Tryz.func172,Tryz.ntmps172
     go_wp2;go_ret;exact⟨rfl,0,rfl⟩
    ·have h7:¬(r:Int)<97:=ω;by_cases h8:122<r
     ·replace hR:R=true:=by rw[hR];simp;omega
      subst hR;have h9:122<(r:Int):=ω;go_enter Tryz.func172,Tryz.ntmps172
      go_wp2;go_ret;exact⟨rfl,0,rfl⟩
     ·replace hR:R=false:=by rw[hR];simp;omega
      subst hR;have h9:¬122<(r:Int):=ω;go_enter Tryz.func172,Tryz.ntmps172
      go_wp2;go_ret;exact⟨rfl,0,rfl⟩
theorem abn {s:List UInt8} (h:12<s.length):fG s = false:=by
 unfold fG;rw[decide_eq_false (show ¬s.length≤12 by omega)];simp
theorem afw {b:UInt8} {r:List UInt8} (h:Dl b.toNat=true):fG (b ::r)=false:=by
 unfold fG;simp[h]
theorem abm {b:UInt8} {r:List UInt8} (h:Dl b.toNat=false) (hl:(b ::r).length≤12):fG (b ::r)=(b ::r).all Cc:=by
 unfold fG;rw[decide_eq_true hl];simp[h]
theorem afu (S:ByteArray) (w:World):Calls Tryz.prog 132 #[.string S] w fun e w'=>e =.returned (.bool (fG S.data.toList))∧ah w w':=by
 have hS:S.data.toList.length=S.size:=Array.length_toList;have cC:=fun W=>Any.strings_ContainsFunc Tryz.Yk 172 #[] (enters_of Tryz.func172 κ rfl) M_ S W (afv W)
 have hna:=ajh S;change ∀W,Calls Tryz.prog 159 _ W _ at cC
 generalize decide (0≤Lib.idxFunc M_ true S)=D at *
 obtain⟨R,hR⟩:∃R,R=fG S.data.toList:=⟨_,rfl⟩;rw[←hR];replace cC:=ζ cC;by_cases h0:S.size=0
 ·have hSe:S=⟨#[]⟩:=by
   apply ByteArray.ext;exact Array.eq_empty_of_size_eq_zero h0
  subst hSe;replace hR:R=false:=by rw[hR];rfl
  subst hR;clear hS hna cC h0;go_enter Tryz.func132,Tryz.ntmps132
  go_wp2;go_ret;exact⟨rfl,ah.refl _⟩
 ·have aAn:¬S.toList=[]:=fun h=>h0 (by rw[(toList_nil_iff_emptyBytes S).1 h];rfl)
  have Sz:S.toList.isEmpty=false:=by rw[←Bool.not_eq_true,List.isEmpty_iff];exact aAn
  have hp0:0<S.size:=ω;have hb0:=get_bt S 0 hp0;have hx0:=fun x=>ad3 S (k:=0) (x:=x)
  cases hl:S.data.toList with
  | nil=>rw[hl] at hS;simp at hS;omega
  | cons b r=>
   rw[hl] at hR hna hS hx0;rw[hx0 b rfl] at hb0;have YH:=abn (s:=b ::r);have hdi:=afw (b:=b) (r:=r);have hre:=abm (b:=b) (r:=r);rw[hS] at YH hre;rw[←hna] at hre;have hbl:=b.toNat_lt;unfold Dl at hdi hre;clear hna hl hx0 hS;generalize b.toNat=X at *
   have hX0:0≤(X:Int)∧(X:Int)≤255:=ω;clear hbl h0;generalize fG (b ::r)=B at *
   subst hR;by_cases YX:12<S.size
   ·have hB:=YH YX;subst hB;have g0:(12:Int)<(S.size:Int):=ω;clear YH hdi hre cC;go_enter Tryz.func132,Tryz.ntmps132
    go_wp2;go_ret;exact⟨rfl,ah.refl _⟩
   ·have g0:¬(12:Int)<(S.size:Int):=ω;clear YH;by_cases hd:48≤X∧X≤57
    ·have hB:=hdi (by simp[hd.1,hd.2]);subst hB;have g1:(48:Int)≤X:=ω;have g2:(X:Int)≤57:=ω;clear hdi hre cC hd;go_enter Tryz.func132,Tryz.ntmps132
     go_wp2;go_ret;exact⟨rfl,ah.refl _⟩
    ·have hB:=hre (by simp;omega) ω;subst hB;clear hdi hre;by_cases h48:48≤X
     ·have g1:(48:Int)≤X:=ω;have g2:¬(X:Int)≤57:=ω;clear hd h48;go_enter Tryz.func132,Tryz.ntmps132
      go_wp2_with fail;refine (cC.out _).mono ?_;rintro e w1 ⟨rfl,hb⟩;go_wp2;go_ret;exact⟨rfl,hb⟩
     ·have g1:¬(48:Int)≤X:=ω;clear hd h48;go_enter Tryz.func132,Tryz.ntmps132
      go_wp2_with fail;refine (cC.out _).mono ?_;rintro e w1 ⟨rfl,hb⟩;go_wp2;go_ret;exact⟨rfl,hb⟩
theorem uN (s:List UInt8) (w:World):Calls Tryz.prog 132 #[.string ⟨s.toArray⟩] w fun e w'=>e =.returned (.bool (fG s))∧ah w w':=afu ⟨s.toArray⟩ w
def xZ {α:Type} (P:Program) (g:FuncId) (lb:Array Value) (val:α→Value) (p:α→Bool) (l:List α) (w:World):Prop:=
 ∀x∈l,∀(W:World),ah w W→Calls P g (#[val x]++lb) W fun e w'=>e =.returned (.bool (p x))∧ah W w'
def apU {α:Type} (P:Program) (g:FuncId) (lb:Array Value) (val:α→Value) (p:α→Bool) (B:Nat) (l:List α) (w:World):Prop:=
 ∀x∈l,∀(W:World),Below B w W→Calls P g (#[val x]++lb) W fun e w'=>e =.returned (.bool (p x))∧ah W w'
theorem bW.ado {α:Type} {w:World} {k:Nat} {enc:α→List Value} {m:Nat} {l:List α} (h:bW w k enc none m l):l = []∧m = 0:=by
 rcases Nat.eq_zero_or_pos m with h0 | h0
 ·exact⟨List.eq_nil_of_length_eq_zero (by rw[h.1,h0]),h0⟩
 ·obtain⟨b,off,e,_⟩:=h.2 h0;cases e
theorem lS {α:Type} {p:α→Bool}:∀{xs:List α},xs.any p = false→(xs.filter fun x=> !p x)=xs
 | [],_=>rfl
 | x ::r,h=>by
  simp only[List.any_cons,Bool.or_eq_false_iff] at h;simp[h.1,lS h.2]
theorem zV {α:Type} (p:α→Bool) (xs:List α):(placeOf p xs=-1∧xs.any p = false)∨∃(i:Nat) (x:α),placeOf p xs=i∧xs[i]? = some x∧p x = true∧(xs.take i).any p = false:=by
 unfold placeOf;cases h:xs.findIdx? p with
 | none=>
  refine .inl ⟨rfl,?_⟩;rw[←Bool.not_eq_true,List.any_eq_true];rintro⟨x,hx,hp⟩;rw[List.findIdx?_eq_none_iff.1 h x hx] at hp;cases hp
 | some i=>
  obtain⟨h1,h2,h3⟩:=List.findIdx?_eq_some_iff_getElem.1 h;refine .inr ⟨i,xs[i],rfl,List.getElem?_eq_getElem h1,h2,?_⟩;rw[←Bool.not_eq_true,List.any_eq_true];rintro⟨x,hx,hp⟩;obtain⟨j,hj,rfl⟩:=List.getElem_of_mem hx;rw[List.getElem_take] at hp;exact h3 j (by simp at hj;omega) hp
structure xY {α:Type} (p:α→Bool) (xs ys:List α) (i j:Nat):Prop where
 len:ys.length=xs.length
 lt:i < j
 le:j≤xs.length
 front:ys.take i = (xs.take j).filter fun x=> !p x
 back:ys.drop j = xs.drop j
theorem xY.start {α:Type} {p:α→Bool} {xs:List α} {i:Nat} {x:α} (h1:xs[i]? = some x) (h2:p x = true) (h3:(xs.take i).any p = false):xY p xs xs i (i + 1):=by
 have hi:i < xs.length:=(List.getElem?_eq_some_iff.1 h1).1;refine⟨rfl,ω,ω,?_,rfl⟩;rw[List.take_add_one,List.filter_append,lS h3,h1];simp[h2]
theorem xY.get {α:Type} {p:α→Bool} {xs ys:List α} {i j:Nat} (h:xY p xs ys i j) {x:α} (hx:xs[j]? = some x):ys[j]? = some x:=by
 have:=congrArg (fun l=>l[0]?) h.back;simp only[List.getElem?_drop,Nat.add_zero] at this;rw[this,hx]
theorem xY.apO {α:Type} {p:α→Bool} {xs ys:List α} {i j:Nat} (h:xY p xs ys i j) {x:α} (hx:xs[j]? = some x) (hp:p x = true):xY p xs ys i (j + 1):=by
 have hj:j < xs.length:=(List.getElem?_eq_some_iff.1 hx).1;refine⟨h.len,by have:=h.lt;omega,ω,?_,?_⟩
 ·rw[List.take_add_one,List.filter_append,←h.front,hx];simp[hp]
 ·have:=congrArg (List.drop 1) h.back;simpa[List.drop_drop] using this
theorem xY.ao4 {α:Type} {p:α→Bool} {xs ys:List α} {i j:Nat} (h:xY p xs ys i j) {x:α} (hx:xs[j]? = some x) (hp:p x = false):xY p xs (ys.set i x) (i + 1) (j + 1):=by
 have hj:j < xs.length:=(List.getElem?_eq_some_iff.1 hx).1;have hlt:=h.lt;have hl:=h.len;refine⟨by simp[hl],ω,ω,?_,?_⟩
 ·rw[List.take_add_one,List.take_add_one,List.filter_append,←h.front,hx,List.take_set_of_le ω,List.getElem?_set_self ω];simp[hp]
 ·rw[List.drop_set_of_lt ω];have:=congrArg (List.drop 1) h.back;simpa[List.drop_drop] using this
def Y9 (x:zN):List Value:=[.string ⟨x.n.toArray⟩,.int .i64 x.l.lv,.int .u32 (x.l.c:Int)]
def amm (x:zN):Value:=.agg #[.string ⟨x.n.toArray⟩,.int .i64 x.l.lv,.int .u32 (x.l.c:Int)]
theorem hkN (x:zN):(Y9 x).length=3:=rfl
def qW (x:cu):List Value:=[.string ⟨x.n.toArray⟩,.int .i64 x.op,.string ⟨x.v.toArray⟩]
def Gh (x:cu):Value:=.agg #[.string ⟨x.n.toArray⟩,.int .i64 x.op,.string ⟨x.v.toArray⟩]
theorem hkM (x:cu):(qW x).length=3:=rfl
theorem azu (x:cu):∀u∈qW x,u.oneCell'=true:=by intro u hu;simp[qW] at hu;rcases hu with rfl | rfl | rfl <;> rfl
def Ip (x:bM):Value:=.agg #[.string ⟨x.n.toArray⟩,.string ⟨x.v.toArray⟩]
theorem T_F:fB Tryz.prog 22 88 2 32:=aCy
structure iY where
 l:List zN
 A:Option Addr
 m:Nat
 k:Nat
def iY.val (x:iY):Value:=.slice x.A x.m x.k
structure iY.At (x:iY) (w:World):Prop where
 arr:bW w 3 Y9 x.A x.m x.l
 le:x.m≤9223372036854775807
 Jy:∀y∈x.l,y.l.ok
 txt:∀y∈x.l,y.n.length≤9223372036854775807
def aol (x:iY):List Value:=[.slice x.A x.m x.k]
def aqa (x:iY):Value:=.slice x.A x.m x.k
structure BH where
 r:Rte
 bA:Option Addr
 bm:Nat
 bk:Nat
 wA:Option Addr
 wm:Nat
 wk:Nat
structure BH.At (x:BH) (w:World):Prop where
 fP:bW w 1 encS x.bA x.bm x.r.fP
 ag2:x.bm≤9223372036854775807
 Zj:∀y∈x.r.fP,y.length≤9223372036854775807
 wh:bW w 3 qW x.wA x.wm x.r.wh
 aad:x.wm≤9223372036854775807
def encR (x:BH):List Value:=[.string ⟨x.r.r.toArray⟩,.slice x.bA x.bm x.bk,.int .i64 x.r.wait,.int .i64 x.r.every,.int .i64 x.r.again,.slice x.wA x.wm x.wk]
def ahY (x:BH):Value:=.agg #[.string ⟨x.r.r.toArray⟩,.slice x.bA x.bm x.bk,.int .i64 x.r.wait,.int .i64 x.r.every,.int .i64 x.r.again,.slice x.wA x.wm x.wk]
structure yH where
 i:Inh
 bA:Option Addr
 bm:Nat
 bk:Nat
 fA:Option Addr
 fm:Nat
 fk:Nat
 wA:Option Addr
 wm:Nat
 wk:Nat
structure yH.At (x:yH) (w:World):Prop where
 fP:bW w 1 encS x.bA x.bm x.i.fP
 ag2:x.bm≤9223372036854775807
 Zj:∀y∈x.i.fP,y.length≤9223372036854775807
 fr:bW w 3 qW x.fA x.fm x.i.from_
 ar_:x.fm≤9223372036854775807
 wh:bW w 3 qW x.wA x.wm x.i.wh
 aad:x.wm≤9223372036854775807
 Jy:x.i.l.ok
def alb (x:yH):List Value:=[.slice x.bA x.bm x.bk,.int .i64 x.i.l.lv,.int .u32 (x.i.l.c:Int),.slice x.fA x.fm x.fk,.slice x.wA x.wm x.wk]
def XE (x:yH):Value:=.agg #[.slice x.bA x.bm x.bk,.int .i64 x.i.l.lv,.int .u32 (x.i.l.c:Int),.slice x.fA x.fm x.fk,.slice x.wA x.wm x.wk]
structure bQ where
 s:iY
 r:iY
 e:iY
 a:iY
 o:List BH
 oA:Option Addr
 om:Nat
 ok:Nat
 i:List yH
 iA:Option Addr
 im:Nat
 ik:Nat
def bQ.aU (x:bQ):fQ:=⟨x.s.l,x.r.l,x.e.l,x.a.l,x.o.map (·.r),x.i.map (·.i)⟩
def bQ.cells (x:bQ):List Value:=[.slice x.s.A x.s.m x.s.k,.slice x.r.A x.r.m x.r.k,.slice x.e.A x.e.m x.e.k,.slice x.a.A x.a.m x.a.k,.slice x.oA x.om x.ok,.slice x.iA x.im x.ik]
def bQ.val (x:bQ):Value:=.agg #[.slice x.s.A x.s.m x.s.k,.slice x.r.A x.r.m x.r.k,.slice x.e.A x.e.m x.e.k,.slice x.a.A x.a.m x.a.k,.slice x.oA x.om x.ok,.slice x.iA x.im x.ik]
structure bQ.At (x:bQ) (w:World):Prop where
 s:x.s.At w
 r:x.r.At w
 e:x.e.At w
 a:x.a.At w
 o:bW w 6 encR x.oA x.om x.o
 ole:x.om≤9223372036854775807
 oAt:∀y∈x.o,y.At w
 i:bW w 5 alb x.iA x.im x.i
 ile:x.im≤9223372036854775807
 iAt:∀y∈x.i,y.At w
theorem iY.At.keep {x:iY} {w w':World} (h:x.At w) (hg:ah w w'):x.At w':=⟨h.arr.keep hg,h.le,h.Jy,h.txt⟩
theorem BH.At.keep {x:BH} {w w':World} (h:x.At w) (hg:ah w w'):x.At w':=⟨h.fP.keep hg,h.ag2,h.Zj,h.wh.keep hg,h.aad⟩
theorem yH.At.keep {x:yH} {w w':World} (h:x.At w) (hg:ah w w'):x.At w':=⟨h.fP.keep hg,h.ag2,h.Zj,h.fr.keep hg,h.ar_,h.wh.keep hg,h.aad,h.Jy⟩
theorem bQ.At.keep {x:bQ} {w w':World} (h:x.At w) (hg:ah w w'):x.At w':=⟨h.s.keep hg,h.r.keep hg,h.e.keep hg,h.a.keep hg,h.o.keep hg,h.ole,fun y hy=>(h.oAt y hy).keep hg,h.i.keep hg,h.ile,fun y hy=>(h.iAt y hy).keep hg⟩
structure dD where
 a:iH
 A:Option Addr
 m:Nat
 k:Nat
def tH (x:dD):List Value:=[.string ⟨x.a.src.toArray⟩,.slice x.A x.m x.k,.int .i64 x.a.l.lv,.int .u32 (x.a.l.c:Int),.int .i64 x.a.f,.int .i64 x.a.t]
def iV (x:dD):Value:=.agg #[.string ⟨x.a.src.toArray⟩,.slice x.A x.m x.k,.int .i64 x.a.l.lv,.int .u32 (x.a.l.c:Int),.int .i64 x.a.f,.int .i64 x.a.t]
structure dD.At (x:dD) (w:World):Prop where
 arr:bW w 2 dZ x.A x.m x.a.fs
 le:x.m≤1000
 Jy:x.a.l.ok
theorem dD.At.keep {x:dD} {w w':World} (h:x.At w) (hg:ah w w'):x.At w':=⟨h.arr.keep hg,h.le,h.Jy⟩
def mX (fb:cu→Bool) (x:cu):Prop:=∀W:World,Calls Tryz.prog 154 #[Gh x] W fun e w'=>e =.returned (.bool (fb x))∧ah W w'
def aCC (ft:List bM→cu→Bool) (x:cu):Prop:=∀(A:Option Addr) (m c:Nat) (l:List bM) (W:World),bW W 2 dZ A m l→m≤9223372036854775807→Calls Tryz.prog 152 #[.slice A m c,Gh x] W fun e w'=>e =.returned (.bool (ft l x))∧ah W w'
theorem ajC (g:FuncId) (lb:Array Value) (eg:Enters Tryz.prog g) (p:iY→Bool) (A:Option Addr) (m c:Nat) (l:List iY) (w:World) (h:bW w 1 aol A m l) (hm:m≤9223372036854775807) (hp:xZ Tryz.prog g lb aqa p l w) :
 Calls Tryz.prog 161 #[.slice A m c,.func (.func g) #[] lb] w fun e w'=>e =.returned (.int .i64 (placeOf p l))∧ah w w':=by
 have hlen:=h.1;unfold Enters at eg;obtain⟨R,hR⟩:∃R,R=placeOf p l:=⟨_,rfl⟩;rw[←hR];replace hR:=ζ hR;replace hp:=ζ hp;replace h:=ζ h;go_enter Tryz.func161,Tryz.ntmps161
 go_wp2;go_loopw [5,8] (fun _ i wr=>∃k:Nat,k≤m∧i =.int .i64 k∧Hid (∀j y,j < k→l[j]? = some y→p y = false)∧Hid (ah w wr)) (fun _ i _=>m - (intOf i).toNat)
 case atStart=>exact⟨0,ω,rfl,fun _ _ h=>absurd h ω,ah.refl _⟩
 case round=>
  obtain⟨k,hk,rfl,hall,hg⟩:=hrel;by_cases hlt:k<m
  ·obtain⟨b,off,x,rfl,_,hx,hcell⟩:=(h.o.keep hg.o).at_ hlt;have c0:wr.cell? ⟨b,off+k,none⟩=some (.slice x.A x.m x.k):=by simpa using hcell 0 _ rfl
   have kX:(k:Int)<(m:Int):=ω;have cI:=hp.o x (List.mem_of_getElem? hx) wr hg.o;unfold aqa at cI;cases hq:p x with
   | false=>
    rw[hq] at cI;replace cI:=ζ cI;have f_:=ζ (show ∀j y,j < k+1→l[j]? = some y→p y = false from fun j y hj hy=>by
     by_cases hjk:j = k
     ·subst hjk;rw[hx] at hy;rw[←Option.some.inj hy];exact hq
     ·exact hall.o j y ω hy)
    clear hcell hq hx hall hR;go_wp2_with fail;refine (cI.out).mono ?_;rintro e w1 ⟨rfl,hb⟩;have hg1:=ζ (hg.o.trans hb);go_wp2;go_roundw
    case rel=>exact⟨k+1,ω,ν,f_,hg1⟩
    case measure=>exact ψ
   | true=>
    rw[hq] at cI;have aN:Hid (R=(k:Int)):=ζ (by rw[hR.o];exact jh hx hq hall.o);replace cI:=ζ cI;clear hcell hq hx hall hR;go_wp2_with fail;refine (cI.out).mono ?_;rintro e w1 ⟨rfl,hb⟩;have hg1:=ζ (hg.o.trans hb);go_wp2;go_ret;exact⟨by rw[aN.o];rfl,hg1.o⟩
  ·obtain rfl:k=m:=ω;have aN:Hid (R=-1):=ζ (by rw[hR.o];exact iJ fun j y hy=>hall.o j y (by have:=(List.getElem?_eq_some_iff.1 hy).1;omega) hy);clear hall hR;go_wp2;go_ret;exact⟨by rw[aN.o];rfl,hg.o⟩
theorem ali (g:FuncId) (lb:Array Value) (eg:Enters Tryz.prog g) (p:iY→Bool) (A:Option Addr) (m c:Nat) (l:List iY) (w:World) (h:bW w 1 aol A m l) (hm:m≤9223372036854775807) (hp:xZ Tryz.prog g lb aqa p l w) :
 Calls Tryz.prog 120 #[.slice A m c,.func (.func g) #[] lb] w fun e w'=>e =.returned (.bool (l.any p))∧ah w w':=by
 have cI:=ajC (c:=c) g lb eg p A m l w h hm hp;replace cI:=ζ cI;have aN:=ζ (iM p l);clear h hp;go_enter Tryz.func120,Tryz.ntmps120
 go_wp2_with fail;refine cI.out.mono ?_;rintro e w1 ⟨rfl,hb⟩;go_wp2;go_ret;exact⟨aJ aN.o,hb⟩
end Go.Proofs.YtbhikkgpcmkonaaGreatDoor
