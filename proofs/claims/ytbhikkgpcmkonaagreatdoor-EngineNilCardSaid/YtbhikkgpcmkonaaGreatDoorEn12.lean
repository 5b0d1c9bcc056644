/- Parts: PatP PatA PatB PatC PatQ PatD PatE PatF -/
import Derived.Test.YtbhikkgpcmkonaaGreatDoorEn0
import Derived.Test.YtbhikkgpcmkonaaGreatDoorEn5
import Derived.Laws.ShiftsVarLaws
import Derived.Test.YtbhikkgpcmkonaaGreatDoorEn9
set_option maxRecDepth 100000
set_option maxHeartbeats 12800000
namespace Go.Proofs.YtbhikkgpcmkonaaGreatDoor
structure PSt where
 set:Option (List Nat)
 next:Nat
 free:List Nat
structure PB where
 at_:Nat
 err:Nat
 dO:List PSt
abbrev rD:=Nat×Nat
def yc (s:List UInt8) (b:PB):Option UInt8:=if b.err=0 then s[b.at_]? else none
def aZ (e:Nat) (b:PB):PB:=if b.err=0 then {b with err:=e} else b
def aI (b:PB):PB:={b with at_:=b.at_+1}
def zC:PSt:=⟨none,0,[]⟩
def aT (b:PB):PB:={b with dO:=b.dO++[zC]}
def aX (i j:Nat) (b:PB):PB:={b with dO:=b.dO.modify i fun x=>{x with free:=x.free++[j]}}
def dU:List Nat:=[0,0,0,0]
def Bc (ws:List Nat) (c:Nat):List Nat:=ws.modify (c / 64) fun x=>x |||2 ^ (c % 64)
def kE (ws:List Nat) (lo hi:Nat):List Nat:=(List.range' lo (hi+1-lo)).foldl Bc ws
def lH (ws:List Nat):List Nat:=ws.map fun x=>18446744073709551615-x
def jy (ws:List Nat) (b:PB):PB×rD:=({b with dO:=(aT (aT b)).dO.modify b.dO.length fun x=>{x with set:=some ws,next:=b.dO.length+1}},(b.dO.length,b.dO.length+1))
def jr (s:List UInt8) (b:PB):PB×UInt8:=
 if yc s b = some 92 then (match yc s (aI b) with
  | none=>(aZ 2 (aI (aI b)),0)
  | some c=>(aI (aI b),c))
 else (match yc s b with
  | none=>(aZ 2 (aI b),0)
  | some c=>(aI b,c))
def lQ (s:List UInt8):Nat→Bool→PB→List Nat→PB×List Nat
 | 0,_,b,ws=>(aZ 2 b,ws)
 | f + 1,first,b,ws=>match yc s b with
  | none=>(aZ 2 b,ws)
  | some d=>
   if d = 93∧first=true then (aZ 2 b,ws)
   else if d = 93 then (aI b,ws)
   else
    let r:=jr s b
    let q:=if yc s r.1=some 45∧r.1.at_+1<s.length∧s[r.1.at_+1]?≠some 93 then jr s (aI r.1) else r
    lQ s f false (if q.2.toNat<r.2.toNat then aZ 2 q.1 else q.1) (kE ws r.2.toNat q.2.toNat)
def kR (s:List UInt8) (b:PB):PB×List Nat:=
 if yc s b = some 94 then let r:=lQ s (s.length+1) true (aI b) dU;(r.1,lH r.2)
 else lQ s (s.length+1) true b dU
def aaj (c:UInt8):Bool:=c∈([42,43,63,124,40,41,91,93,92,46]:List UInt8)
def bW (s:List UInt8) (sub:Option (PB→PB×rD)) (c:UInt8) (b:PB):PB×rD:=
 if c = 40 then (match sub with
  | none=>jy dU (aZ 3 (aI b))
  | some f=>let r:=f (aI b);(aI (if yc s r.1=some 41 then r.1 else aZ 2 r.1),r.2))
 else if c = 91 then let r:=kR s (aI b);jy r.2 r.1
 else if c = 46 then jy (lH dU) (aI b)
 else if c = 92 then (match yc s (aI b) with
  | none=>jy (kE dU 0 0) (aI (aZ 2 (aI b)))
  | some d=>jy (kE dU d.toNat d.toNat) (aI (aI b)))
 else if aaj c then jy dU (aZ 2 (aI b))
 else jy (kE dU c.toNat c.toNat) (aI b)
def Sz (c:UInt8):Bool:=c∈([42,43,63]:List UInt8)
def fB (s:List UInt8) (b:PB) (x:rD):PB×rD:=match yc s b with
 | none=>(b,x)
 | some c=>if Sz c then
  let n:=b.dO.length
  let b1:=aX x.2 (n + 1) (aX n x.1 (aT (aT (aI b))))
  let b2:=if c = 43 then b1 else aX n (n + 1) b1
  let b3:=if c = 63 then b2 else aX x.2 x.1 b2
  (b3,(n,n + 1))
  else (b,x)
def EZ (s:List UInt8) (sub:Option (PB→PB×rD)):Nat→rD→PB→PB×rD
 | 0,p,b=>(b,p)
 | f + 1,p,b=>match yc s b with
  | none=>(b,p)
  | some c=>if c = 124∨c = 41 then (b,p) else
   let r:=bW s sub c b
   let q:=fB s r.1 r.2
   EZ s sub f (p.1,q.2.2) (aX p.2 q.2.1 q.1)
def lM (s:List UInt8) (sub:Option (PB→PB×rD)) (b:PB):PB×rD:=EZ s sub (s.length+1) (b.dO.length,b.dO.length) (aT b)
def gJ (s:List UInt8) (sub:Option (PB→PB×rD)):Nat→rD→PB→PB×rD
 | 0,p,b=>(b,p)
 | f + 1,p,b=>
  let r:=lM s sub b
  let b1:=aX r.2.2 p.2 (aX p.1 r.2.1 r.1)
  if yc s b1=some 124 then gJ s sub f p (aI b1) else (b1,p)
def jS (s:List UInt8):Nat→PB→PB×rD
 | 0,b=>gJ s none (s.length+1) (b.dO.length,b.dO.length+1) (aT (aT b))
 | d + 1,b=>gJ s (some (jS s d)) (s.length+1) (b.dO.length,b.dO.length+1) (aT (aT b))
structure aqX where
 dO:List PSt
 start:Nat
 stop:Nat
def xJ (s:List UInt8):PB×rD:=let r:=jS s 8 ⟨0,0,[]⟩;(if r.1.at_<s.length then aZ 2 r.1 else r.1,r.2)
def rU (s:List UInt8):Nat:=if 100<s.length then 4 else (xJ s).1.err
def Gw (s:List UInt8):Option aqX:=if 100<s.length∨(xJ s).1.err≠0 then none else some ⟨(xJ s).1.dO,(xJ s).2.1,(xJ s).2.2⟩
end Go.Proofs.YtbhikkgpcmkonaaGreatDoor
namespace Go.Proofs.YtbhikkgpcmkonaaGreatDoor
open Go.RowKit
def akb (ws:List Nat):List Value:=ws.map fun (x:Nat)=> .int .u64 (x:Int)
def dZ (w:World) (g:Nat) (ws:List Nat):Prop:=aF w g 385 (akb ws).toArray∧ws.length=4∧∀x∈ws,x < 18446744073709551616
theorem dZ.cell {w:World} {g:Nat} {ws:List Nat} (h:dZ w g ws) {i x:Nat} (hx:ws[i]? = some x):w.cell? ⟨g,i,none⟩=some (.int .u64 (x:Int)):=by
 rw[h.1.cell];simp[akb,hx]
theorem dZ.put {w:World} {g:Nat} {ws:List Nat} (h:dZ w g ws) {i x:Nat} (hx:x < 18446744073709551616):dZ (w.setCell ⟨g,i,none⟩ (.int .u64 (x:Int))) g (ws.set i x):=by
 refine⟨?_,by rw[List.length_set];exact h.2.1,?_⟩
 ·have:=h.1;unfold aF at *
  simp[World.setCell,Array.getElem?_modify,this,akb,List.map_set]
 ·intro y hy;rcases List.mem_or_eq_of_mem_set hy with hy | rfl
  ·exact h.2.2 y hy
  ·exact hx
theorem aaB (n:Int):bits .and .i64 n 63=n % 64:=by
 have h63:(BitVec.ofInt 64 63).toNat=2 ^ 6-1:=δ;have key:(BitVec.ofInt 64 n &&&BitVec.ofInt 64 63).toNat=(n % ((2 ^ 64:Nat):Int)).toNat % 2 ^ 6:=by
  rw[BitVec.toNat_and,BitVec.toNat_ofInt,h63,Nat.and_two_pow_sub_one_eq_mod]
 show IntKind.i64.wrap ((BitVec.ofInt 64 n &&&BitVec.ofInt 64 63).toNat:Nat)=n % 64
 rw[key,IntKind.wrap_i64];omega
theorem Z8 {x j:Nat} (hx:x < 18446744073709551616) (hj:j < 64):x |||2 ^ j < 18446744073709551616:=Nat.or_lt_two_pow (n:=64) hx (Nat.pow_lt_pow_right δ hj)
theorem abV {ws:List Nat} {c x:Nat} (h:ws[c / 64]? = some x):Bc ws c = ws.set (c / 64) (x |||2 ^ (c % 64)):=by
 apply List.ext_getElem?;intro i;rw[Bc,List.getElem?_modify,List.getElem?_set];by_cases hi:c / 64=i
 ·subst hi;obtain⟨hl,rfl⟩:=List.getElem?_eq_some_iff.1 h;simp[hl]
 ·simp[hi]
theorem jD {w:World} {g:Nat} {ws:List Nat} {lo hi:Nat} (h:dZ w g ws) (Nr:lo<256) (TG:hi<256) :
 Calls Tryz.prog 278 #[.pointer (some ⟨g,0,none⟩),.int .u8 (lo:Int),.int .u8 (hi:Int)] w fun e w'=>e =.returned (.tuple #[])∧dZ w' g (kE ws lo hi)∧w.grownBy w' (some g):=by
 have hl:g < w.heap.size:=World.block_lt_of_cell? w _ (h.cell (i:=0) (List.getElem?_eq_getElem (by rw[h.2.1];omega)));have hli:0≤(lo:Int)∧(lo:Int)≤255:=ω;have ayv:0≤(hi:Int)∧(hi:Int)≤255:=ω;replace Nr:=ζ Nr;replace TG:=ζ TG;replace h:=ζ h;go_enter Tryz.func278,Tryz.ntmps278
 go_wp2;go_loopw [6] (fun i wr=>∃k:Nat,lo+k≤256∧(k=0∨lo+k≤hi+1)∧i =.int .i64 ((lo+k:Nat):Int)∧dZ wr g ((List.range' lo k).foldl Bc ws)∧w.grownBy wr (some g)) (fun i _=>256-(intOf i).toNat)
 case atStart=>exact⟨0,by have:=Nr.o;omega,.inl rfl,by simp,h.o,World.grownBy.refl _ _⟩
 case round=>
  obtain⟨k,hk,hk2,rfl,hs,hg⟩:=hrel;by_cases hlt:lo+k≤hi
  ·have aeC:lo+k<256:=by have:=TG.o;omega
   obtain⟨x,hx⟩:∃x,((List.range' lo k).foldl Bc ws)[(lo+k) / 64]? = some x:=⟨_,List.getElem?_eq_getElem (by rw[hs.2.1];omega)⟩;have Fv:=hs.2.2 x (List.mem_of_getElem? hx);have yS:(List.range' lo (k+1)).foldl Bc ws=((List.range' lo k).foldl Bc ws).set ((lo+k) / 64) (x |||2 ^ ((lo+k) % 64)):=by
    rw[←abV hx,List.range'_concat,List.foldl_append];simp
   have c0:=hs.cell hx;have hlw:=World.block_lt_of_cell? wr _ c0;simp only at hlw;have hor:=u64_or_nat x (2 ^ ((lo+k) % 64)) Fv (Nat.pow_lt_pow_right δ (Nat.mod_lt (lo+k) (by decide:0<64)):2 ^ ((lo+k) % 64)<2 ^ 64);have hn:lo+(k+1)=lo+k+1:=ω;have hci:0≤((lo+k:Nat):Int)∧((lo+k:Nat):Int)≤hi:=ω;replace yS:=ζ yS;replace hs:=ζ hs;generalize zH:lo+k=c at *
   have hd:((c:Int) / 64).toNat=c / 64:=ω;have hA:bits .and .i64 (c:Int) 63=(c:Int) % 64:=aaB c;have h6:((c:Int) % 64).toNat=c % 64:=ω;have hW:IntKind.u64.wrap (2 ^ (c % 64))=2 ^ (c % 64):=by
    have h8:(2:Int) ^ (c % 64)<2 ^ 64:=by
     have:=Nat.pow_lt_pow_right (a:=2) δ (Nat.mod_lt c (by decide:0<64));exact_mod_cast this
    have h9:(0:Int)<2 ^ (c % 64):=Int.pow_pos δ;simp only[IntKind.wrap,IntKind.bits,IntKind.signed];simp;omega
   rw[show ((2 ^ (c % 64):Nat):Int)=2 ^ (c % 64) by simp] at hor;have Ox:=Z8 Fv (Nat.mod_lt c (by decide:0<64));generalize x |||2 ^ (c % 64)=y at *
   have hc4:(c:Int) / 64<4:=ω;have hc0:0≤(c:Int) / 64:=ω;replace zH:=ζ zH;replace aeC:=ζ aeC;replace hk:=ζ hk;replace hk2:=ζ hk2;go_wp2;refine aH κ ?_;refine rK (.range 12) 1 ?_;iterate 12 refine aC ?_
   refine aB ?_;refine eF (i:=12) rfl κ κ (fun wN hN hS K' hK=> ?_);clear hS;have YI:dZ wN g _:=⟨(hN.below.block g hlw).trans hs.o.1,hs.o.2⟩;have c0N:=YI.cell hx;have f0N:=YI.1.frozen (c / 64);have VZ:=World.block_lt_of_cell? wN _ c0N;simp only at VZ;have hput:=YI.put (i:=c / 64) Ox;rw[←yS.o] at hput;replace hput:=ζ hput;have hgN:Hid (w.grownBy _ (some g)):=ζ ((hg.trans (hN.uj (some g))).trans (aj wN ⟨g,c / 64,none⟩ (.int .u64 (y:Int))));clear YI;go_simp;refine hK.o _ _ ?_;clear hK;go_wp2;go_roundw
   case rel=>exact⟨k+1,by rw[hn];exact aeC.o,.inr ω,by rw[hn];simp,hput.o,hgN.o⟩
   case measure=>exact ψ
  ·have ao1:¬((lo+k:Nat):Int)≤hi:=ω;have pR:k=hi+1-lo:=ω;have hsz:=hg.size;have hci:0≤((lo+k:Nat):Int)∧((lo+k:Nat):Int)≤256:=ω;replace hk:=ζ hk;replace hk2:=ζ hk2;replace hlt:=ζ hlt;replace pR:=ζ pR;go_wp2;go_end0;refine⟨rfl,?_,hg⟩;rw[kE,←pR.o];exact hs
theorem Yj {x:Nat} (hx:x < 18446744073709551616):18446744073709551615 ^^^ x = 18446744073709551615-x:=by
 have:=congrArg BitVec.toNat (BitVec.allOnes_xor (x:=BitVec.ofNat 64 x));rw[BitVec.toNat_xor,BitVec.toNat_not,BitVec.toNat_ofNat,BitVec.toNat_allOnes,Nat.mod_eq_of_lt hx] at this;simpa using this
def nV (k:Nat) (ws:List Nat):List Nat:=(ws.take k).map (fun x=>18446744073709551615-x)++ws.drop k
theorem Jq {k:Nat} {ws:List Nat}:(nV k ws)[k]? = ws[k]? :=by
 unfold nV;by_cases hk:k≤ws.length
 ·rw[List.getElem?_append_right (by simp;omega)];simp[List.length_take,Nat.min_eq_left hk]
 ·rw[List.drop_of_length_le ω,List.append_nil,List.getElem?_eq_none (by simp;omega),List.getElem?_eq_none ω]
theorem Gu {k x:Nat} {ws:List Nat} (h:ws[k]? = some x):nV (k+1) ws=(nV k ws).set k (18446744073709551615-x):=by
 obtain⟨hl,rfl⟩:=List.getElem?_eq_some_iff.1 h;unfold nV;rw[List.set_append_right _ _ (by simp;omega),List.length_map,List.length_take,Nat.min_eq_left ω,Nat.sub_self,List.take_succ_eq_append_getElem hl,List.map_append];simp only[List.map_cons,List.map_nil,List.append_assoc,List.singleton_append];rw[List.drop_eq_getElem_cons hl];rfl
theorem RQ {w:World} {g:Nat} {ws:List Nat} (h:dZ w g ws) :
 Calls Tryz.prog 277 #[.pointer (some ⟨g,0,none⟩)] w fun e w'=>e =.returned (.tuple #[])∧dZ w' g (lH ws)∧w.grownBy w' (some g):=by
 have hl:g < w.heap.size:=World.block_lt_of_cell? w _ (h.cell (i:=0) (List.getElem?_eq_getElem (by rw[h.2.1];omega)));have hwl:=ζ h.2.1;replace h:=ζ h;go_enter Tryz.func277,Tryz.ntmps277
 go_wp2;go_loopw [3] (fun i wr=>∃k:Nat,k≤4∧i =.int .i64 (k:Int)∧dZ wr g (nV k ws)∧w.grownBy wr (some g)) (fun i _=>4-(intOf i).toNat)
 case atStart=>exact⟨0,ω,rfl,by simpa[nV] using h.o,World.grownBy.refl _ _⟩
 case round=>
  obtain⟨k,hk,rfl,hs,hg⟩:=hrel;by_cases hlt:k<4
  ·obtain⟨x,hx⟩:∃x,ws[k]? = some x:=⟨_,List.getElem?_eq_getElem (by rw[hwl.o];omega)⟩;have yS:=Gu hx;rw[←Jq] at hx;have Fv:=hs.2.2 x (List.mem_of_getElem? hx);have c0:=hs.cell hx;have hlw:=World.block_lt_of_cell? wr _ c0;simp only at hlw;have lK:(k:Int)<4:=ω;have Xp:((18446744073709551615-x:Nat):Int)=18446744073709551615-(x:Int):=ω;have Ox:18446744073709551615-x < 18446744073709551616:=ω;replace yS:=ζ yS;replace hs:=ζ hs;replace hk:=ζ hk;replace Xp:=ζ Xp;have hX:bits BinOp.xor IntKind.u64 (if IntKind.u64.signed=true then -1 else IntKind.u64.max) (x:Int)=((18446744073709551615-x:Nat):Int):=by
    rw[←Yj Fv];exact u64_xor_nat 18446744073709551615 x δ Fv
   replace hX:=ζ hX;go_wp2;refine aH κ ?_;refine rK (.range 10) 1 ?_;iterate 10 refine aC ?_
   refine aB ?_;refine eF (i:=10) rfl κ κ (fun wN hN hS K' hK=> ?_);clear hS;have YI:dZ wN g _:=⟨(hN.below.block g hlw).trans hs.o.1,hs.o.2⟩;have c0N:=YI.cell hx;have f0N:=YI.1.frozen k;have VZ:=World.block_lt_of_cell? wN _ c0N;simp only at VZ;have hput:=YI.put (i:=k) Ox;rw[←yS.o] at hput;replace hput:=ζ hput;have hgN:Hid (w.grownBy _ (some g)):=ζ ((hg.trans (hN.uj (some g))).trans (aj wN ⟨g,k,none⟩ (.int .u64 ((18446744073709551615-x:Nat):Int))));clear YI;go_simp;refine hK.o _ _ ?_;clear hK;go_wp2;go_roundw
   case rel=>exact⟨k+1,ω,by simp,by rw[hX.o];exact hput.o,by rw[hX.o];exact hgN.o⟩
   case measure=>exact ψ
  ·have ao1:¬(k:Int)<4:=ω;have pR:k=4:=ω;replace hk:=ζ hk;replace hlt:=ζ hlt;replace pR:=ζ pR;go_wp2;go_end0;refine⟨rfl,?_,hg⟩;have:nV k ws=lH ws:=by
    rw[pR.o,nV,lH,List.take_of_length_le (by rw[hwl.o];omega),List.drop_of_length_le (by rw[hwl.o];omega),List.append_nil]
   rw[←this];exact hs
structure vP where
 pv:Value
 next:Nat
 fv:Value
def DV (x:vP):List Value:=[x.pv,.int .i64 (x.next:Int),x.fv]
def II (w:World) (base:Nat) (v:Value):Option (List Nat)→Prop
 | none=>v =.pointer none
 | some ws=>∃g,v =.pointer (some ⟨g,0,none⟩)∧base≤g∧dZ w g ws
structure jd (w:World) (base gB:Nat) (s:List UInt8) (b:PB) (xs:List vP) (sv:Value):Prop where
 blk:aF w gB 358 #[.string ⟨s.toArray⟩,.int .i64 (b.at_:Int),.int .i64 (b.err:Int),sv]
 le:base≤gB
 own:Own w base 377 3 DV sv xs
 len:xs.length=b.dO.length
 st:∀(i:Nat) x y,xs[i]? = some x→b.dO[i]? = some y→x.next=y.next∧II w base x.pv y.set∧Own w base 3 1 encI x.fv y.free
 apart:∀(i j:Nat) x y g,xs[i]? = some x→xs[j]? = some y→i≠j→x.fv.ownBlock=some g→y.fv.ownBlock≠some g
theorem dZ.grows {w w':World} {g:Nat} {ws:List Nat} (h:dZ w g ws) (hg:ah w w'):dZ w' g ws:=⟨(hg.below.block g h.1.lt).trans h.1,h.2⟩
theorem II.grows {w w':World} {base:Nat} {v:Value} {o:Option (List Nat)} (h:II w base v o) (hg:ah w w'):II w' base v o:=by
 cases o with
 | none=>exact h
 | some ws=>obtain⟨g,h1,h2,h3⟩:=h;exact⟨g,h1,h2,h3.grows hg⟩
theorem jd.grows {w w':World} {base gB:Nat} {s:List UInt8} {b:PB} {xs:List vP} {sv:Value} (h:jd w base gB s b xs sv) (hg:ah w w'):jd w' base gB s b xs sv where
 blk:=(hg.below.block gB h.blk.lt).trans h.blk
 le:=h.le
 own:=h.own.grows hg
 len:=h.len
 st:=fun i x y h1 h2=>⟨(h.st i x y h1 h2).1,(h.st i x y h1 h2).2.1.grows hg,(h.st i x y h1 h2).2.2.grows hg⟩
 apart:=h.apart
def sW (s:List UInt8) (b:PB):Value:=.tuple (match yc s b with | none=> #[.int .u8 0,.bool false] | some c=> #[.int .u8 (c.toNat:Int),.bool true])
theorem dQ {w:World} {base gB:Nat} {s:List UInt8} {b:PB} {xs:List vP} {sv:Value} (h:jd w base gB s b xs sv) :
 Calls Tryz.prog 267 #[.pointer (some ⟨gB,0,none⟩)] w fun e w'=>e =.returned (sW s b)∧ah w w':=by
 have c0:w.cell? ⟨gB,0,none⟩=some (.string ⟨s.toArray⟩):=(h.blk.cell 0).trans rfl;have c1:w.cell? ⟨gB,1,none⟩=some (.int .i64 (b.at_:Int)):=(h.blk.cell 1).trans rfl;have c2:w.cell? ⟨gB,2,none⟩=some (.int .i64 (b.err:Int)):=(h.blk.cell 2).trans rfl;have hl:=h.blk.lt;have hG:ah w w:=ah.refl w;by_cases he:b.err=0
 ·rw[he] at c2;by_cases ha:b.at_<s.length
  ·have hai:¬((s.length:Nat):Int)≤(b.at_:Int):=ω;have Ns:s[b.at_]? = some s[b.at_]:=List.getElem?_eq_getElem ha;have hv:sW s b =.tuple #[.int .u8 (s[b.at_].toNat:Int),.bool true]:=by simp[sW,yc,he,Ns]
   rw[hv];clear hv;replace h:=ζ h;go_enter Tryz.func267,Tryz.ntmps267
   go_wp2;refine aH κ ?_;refine rK (.range 17) 0 ?_;iterate 17 refine aC ?_
   refine aB ?_;refine aJ κ (fun wN hN hS=> ?_);clear hS;have d0:=(Below.cell (p:=⟨gB,0,none⟩) hN.below hl).trans c0;have d1:=(Below.cell (p:=⟨gB,1,none⟩) hN.below hl).trans c1;have hl1:=World.block_lt_of_cell? _ _ d0;simp only at hl1;replace hG:=hG.trans hN;clear hN c0 c1 c2 hl;go_wp2;refine aH κ ?_;refine rK (.range 11) 0 ?_;iterate 11 refine aC ?_
   refine aB ?_;refine aJ κ (fun wN hN hS=> ?_);go_wp2;go_ret2;exact⟨rfl,hG.trans hN⟩
  ·have hai:((s.length:Nat):Int)≤(b.at_:Int):=ω;have Ns:s[b.at_]? = none:=List.getElem?_eq_none ω;have hv:sW s b =.tuple #[.int .u8 0,.bool false]:=by simp[sW,yc,he,Ns]
   rw[hv];clear hv;replace h:=ζ h;go_enter Tryz.func267,Tryz.ntmps267
   go_wp2;refine aH κ ?_;refine rK (.range 17) 0 ?_;iterate 17 refine aC ?_
   refine aB ?_;refine aJ κ (fun wN hN hS=> ?_);go_wp2;go_ret2;exact⟨rfl,hG.trans hN⟩
 ·have hei:¬(b.err:Int)=0:=ω;have hv:sW s b =.tuple #[.int .u8 0,.bool false]:=by simp[sW,yc,he]
  rw[hv];clear hv;replace h:=ζ h;go_enter Tryz.func267,Tryz.ntmps267
  go_wp2;refine aH κ ?_;refine rK (.range 17) 0 ?_;iterate 17 refine aC ?_
  refine aB ?_;refine aJ κ (fun wN hN hS=> ?_);go_wp2;go_ret2;exact⟨rfl,hG.trans hN⟩
theorem oO {α:Type} {w w':World} {base k m:Nat} {e te:TypeId} {enc:α→List Value} {v:Value} {xs:List α} {cs:Array Value} (h:Own w base e k enc v xs) (hm:aF w m te cs) (hne:e≠te) (hg:w.grownBy w' (some m)):Own w' base e k enc v xs:=
 h.kept' hg (fun g iE hv=>by
  injection iE with iE
  subst iE;obtain⟨cur,hc⟩:=bD h hv;unfold aF at hm;rw[hm] at hc;simp only[Option.some.injEq,Obj.cells.injEq] at hc;exact hne hc.2.1.symm)
theorem dZ.off {w w':World} {g m:Nat} {ws:List Nat} {te:TypeId} {cs:Array Value} (h:dZ w g ws) (hm:aF w m te cs) (hne:385≠te) (hg:w.grownBy w' (some m)):dZ w' g ws:=by
 refine⟨(hg.block g h.1.lt (fun hh=> ?_)).trans h.1,h.2⟩;injection hh with hh
 subst hh;have h1:=h.1;unfold aF at h1 hm;rw[hm] at h1;simp only[Option.some.injEq,Obj.cells.injEq] at h1;exact hne h1.2.1.symm
theorem II.off {w w':World} {base m:Nat} {v:Value} {o:Option (List Nat)} {te:TypeId} {cs:Array Value} (h:II w base v o) (hm:aF w m te cs) (hne:385≠te) (hg:w.grownBy w' (some m)):II w' base v o:=by
 cases o with
 | none=>exact h
 | some ws=>obtain⟨g,h1,h2,h3⟩:=h;exact⟨g,h1,h2,h3.off hm hne hg⟩
theorem jd.turn {w w':World} {base gB:Nat} {s:List UInt8} {b b':PB} {xs:List vP} {sv:Value} (h:jd w base gB s b xs sv) (hg:w.grownBy w' (some gB)) (hb:b'.dO=b.dO)
 (hc:aF w' gB 358 #[.string ⟨s.toArray⟩,.int .i64 (b'.at_:Int),.int .i64 (b'.err:Int),sv]):jd w' base gB s b' xs sv where
 blk:=hc
 le:=h.le
 own:=oO h.own h.blk δ hg
 len:=by rw[hb];exact h.len
 st:=fun i x y h1 h2=>by
  rw[hb] at h2;obtain⟨a1,a2,a3⟩:=h.st i x y h1 h2;exact⟨a1,a2.off h.blk δ hg,oO a3 h.blk δ hg⟩
 apart:=h.apart
theorem ji {w:World} {base gB e:Nat} {s:List UInt8} {b:PB} {xs:List vP} {sv:Value} (h:jd w base gB s b xs sv) :
 Calls Tryz.prog 250 #[.pointer (some ⟨gB,0,none⟩),.int .i64 (e:Int)] w fun r w'=>r =.returned (.tuple #[])∧jd w' base gB s (aZ e b) xs sv∧w.grownBy w' (some gB):=by
 have c2:w.cell? ⟨gB,2,none⟩=some (.int .i64 (b.err:Int)):=(h.blk.cell 2).trans rfl;have f2:=h.blk.frozen 2;have hl:=h.blk.lt;by_cases he:b.err=0
 ·rw[he] at c2;have hf:aZ e b = {b with err:=e}:=by simp[aZ,he]
  have aG:=aj w ⟨gB,2,none⟩ (.int .i64 (e:Int));have hB:jd (w.setCell ⟨gB,2,none⟩ (.int .i64 (e:Int))) base gB s (aZ e b) xs sv:=by
   refine h.turn aG (by rw[hf]) ?_;rw[hf];have:=h.blk;unfold aF at *
   simp[World.setCell,Array.getElem?_modify,this]
  replace hB:=ζ hB;replace aG:=ζ aG;clear hf h;go_enter Tryz.func250,Tryz.ntmps250
  go_wp2;go_end0;exact⟨rfl,hB.o,aG.o⟩
 ·have hei:¬(b.err:Int)=0:=ω;have hf:aZ e b = b:=by simp[aZ,he]
  rw[hf];clear hf;replace h:=ζ h;go_enter Tryz.func250,Tryz.ntmps250
  go_wp2;go_end0;exact⟨rfl,h.o,World.grownBy.refl _ _⟩
end Go.Proofs.YtbhikkgpcmkonaaGreatDoor
namespace Go.Proofs.YtbhikkgpcmkonaaGreatDoor
def lC (l:List PSt):Nat:=(l.map fun x=>x.free.length).sum
def dR (b:PB):Nat:=b.dO.length+lC b.dO
theorem DR (l:List PSt):∀(i j:Nat),lC (l.modify i fun x=>{x with free:=x.free++[j]})≤lC l + 1:=by
 induction l with
 | nil=>intro i j;simp[lC]
 | cons a l ih=>
  intro i j;cases i with
  | zero=>simp[lC];omega
  | succ i=>
   have:=ih i j;simp only[lC,List.modify_succ_cons,List.map_cons,List.sum_cons] at this ⊢;omega
theorem abb (l:List PSt) (ws:List Nat) (n:Nat):∀(i:Nat),lC (l.modify i fun x=>{x with set:=some ws,next:=n})=lC l:=by
 induction l with
 | nil=>intro i;simp[lC]
 | cons a l ih=>
  intro i;cases i with
  | zero=>simp[lC]
  | succ i=>
   have:=ih i;simp only[lC,List.modify_succ_cons,List.map_cons,List.sum_cons] at this ⊢;omega
theorem QV (l m:List PSt):lC (l ++m)=lC l + lC m:=by simp[lC]
theorem abd {l:List PSt} {i:Nat} {y:PSt} (h:l[i]? = some y):y.free.length≤lC l:=by
 have hm:y∈l:=List.mem_of_getElem? h;clear h;induction l with
 | nil=>cases hm
 | cons a l ih=>
  simp only[lC,List.map_cons,List.sum_cons] at ih ⊢;rcases List.mem_cons.1 hm with rfl | hm
  ·omega
  ·have:=ih hm;omega
structure PT (b b':PB) (c:Int):Prop where
 at_:b.at_≤b'.at_
 len:b.dO.length≤b'.dO.length
 cost:(dR b':Int)-8*b'.at_≤dR b - 8*b.at_+c
theorem PT.refl (b:PB):PT b b 0:=⟨Nat.le_refl _,Nat.le_refl _,ω⟩
theorem PT.trans {a b c:PB} {m n k:Int} (h:PT a b m) (h':PT b c n) (hk:m + n≤k):PT a c k:=
 ⟨Nat.le_trans h.at_ h'.at_,Nat.le_trans h.len h'.len,by have:=h.cost;have:=h'.cost;omega⟩
theorem PT.weak {a b:PB} {m k:Int} (h:PT a b m) (hk:m≤k):PT a b k:=⟨h.at_,h.len,by have:=h.cost;omega⟩
def WP (s:List UInt8) (k:Nat) (b:PB):Prop:=b.at_≤s.length+k∧(b.err=0→b.at_≤s.length)
theorem WP.weak {s:List UInt8} {k m:Nat} {b:PB} (h:WP s k b) (hm:k≤m):WP s m b:=⟨by have:=h.1;omega,h.2⟩
theorem WP.of_le {s:List UInt8} {k:Nat} {b:PB} (h:b.at_≤s.length):WP s k b:=⟨ω,fun _=>h⟩
theorem iY {s:List UInt8} {b:PB} {c:UInt8} (h:yc s b = some c):b.err=0∧b.at_<s.length∧s[b.at_]? = some c:=by
 unfold yc at h;split at h
 ·rename_i he;exact⟨he,(List.getElem?_eq_some_iff.1 h).1,h⟩
 ·cases h
theorem dF (e:Nat) (b:PB):(aZ e b).at_=b.at_:=by unfold aZ;split <;> rfl
theorem iG (e:Nat) (b:PB):(aZ e b).dO=b.dO:=by unfold aZ;split <;> rfl
theorem zB {e:Nat} (he:e≠0) (b:PB):(aZ e b).err≠0:=by unfold aZ;split <;> assumption
theorem ng {e k:Nat} {s:List UInt8} (he:e≠0) {b:PB} (h:b.at_≤s.length+k):WP s k (aZ e b):=⟨by rw[dF];exact h,fun h0=>absurd h0 (zB he b)⟩
theorem lD (e:Nat) (b:PB):PT b (aZ e b) 0:=⟨by rw[dF];exact Nat.le_refl _,by rw[iG];exact Nat.le_refl _,by unfold dR;rw[dF,iG];omega⟩
theorem iZ (b:PB):PT b (aI b) (-8):=⟨by simp[aI],by simp[aI],by simp[aI,dR];omega⟩
theorem yF (b:PB):PT b (aT b) 1:=⟨by simp[aT],by simp[aT],by simp[aT,dR,lC,zC];omega⟩
theorem vJ (i j:Nat) (b:PB):PT b (aX i j b) 1:=⟨by simp[aX],by simp[aX],by have:=DR b.dO i j;simp[aX,dR];omega⟩
theorem fM (b:PB):(aT b).dO.length=b.dO.length+1:=by simp[aT]
theorem iF (i j:Nat) (b:PB):(aX i j b).dO.length=b.dO.length:=by simp[aX]
theorem ae_ {s:List UInt8} {k i j:Nat} {b:PB} (h:WP s k b):WP s k (aX i j b):=h
def IL (x:rD) (b:PB):Prop:=x.1<b.dO.length∧x.2<b.dO.length
theorem IL.mono {x:rD} {b b':PB} (h:IL x b) (hl:b.dO.length≤b'.dO.length):IL x b':=⟨Nat.lt_of_lt_of_le h.1 hl,Nat.lt_of_lt_of_le h.2 hl⟩
theorem tV (ws:List Nat) (b:PB):PT b (jy ws b).1 2∧IL (jy ws b).2 (jy ws b).1∧(jy ws b).1.at_=b.at_∧(jy ws b).1.err=b.err:=by
 refine⟨⟨Nat.le_refl _,by simp[jy,aT],?_⟩,⟨by simp[jy,aT],by simp[jy,aT]⟩,rfl,rfl⟩;have:dR (jy ws b).1=dR b + 2:=by
  unfold dR jy;simp only[List.length_modify,abb,aT,QV,List.length_append];simp[lC,zC];omega
 have h2:(jy ws b).1.at_=b.at_:=rfl;rw[this,h2];omega
theorem wG {s:List UInt8} {k:Nat} {b:PB} {ws:List Nat} (h:WP s k b):WP s k (jy ws b).1:=h
theorem Dj {s:List UInt8} {b:PB} (h:b.at_<s.length):PT b (jr s b).1 (-8)∧WP s 2 (jr s b).1∧(jr s b).1.dO=b.dO∧b.at_<(jr s b).1.at_:=by
 unfold jr;split
 ·split
  ·refine⟨((iZ b).trans (iZ _) (Int.le_refl _)).trans (lD _ _) ω,ng δ (by simp[aI];omega),by rw[iG];rfl,by rw[dF];simp[aI];omega⟩
  ·rename_i hc;have:=(iY hc).2.1;refine⟨(iZ b).trans (iZ _) ω,WP.of_le (by simp[aI] at this ⊢;omega),rfl,by simp[aI];omega⟩
 ·split
  ·exact⟨(iZ b).trans (lD _ _) ω,ng δ (by simp[aI];omega),by rw[iG];rfl,by rw[dF];simp[aI]⟩
  ·exact⟨iZ b,WP.of_le (by simp[aI];omega),rfl,by simp[aI]⟩
def jI (s:List UInt8) (r:PB×UInt8):PB×UInt8:=if yc s r.1=some 45∧r.1.at_+1<s.length∧s[r.1.at_+1]?≠some 93 then jr s (aI r.1) else r
theorem ZT {s:List UInt8} {b:PB} {r:PB×UInt8} (h:PT b r.1 (-8)∧WP s 2 r.1∧r.1.dO=b.dO∧b.at_<r.1.at_):PT b (jI s r).1 (-8)∧WP s 2 (jI s r).1∧(jI s r).1.dO=b.dO∧b.at_<(jI s r).1.at_:=by
 unfold jI;split
 ·rename_i hc;have h1:=Dj (s:=s) (b:=aI r.1) (by simp[aI];omega);have h2:=h1.1.at_;exact⟨(h.1.trans (iZ _) (Int.le_refl _)).trans h1.1 ω,h1.2.1,by rw[h1.2.2.1];exact h.2.2.1,by have:=h.2.2.2;have h3:(aI r.1).at_=r.1.at_+1:=rfl;omega⟩
 ·exact h
theorem UA {s:List UInt8} {f:Nat} {first:Bool} {b:PB} {ws:List Nat} (hf:s.length≤f + b.at_):lQ s f first b ws=match yc s b with
 | none=>(aZ 2 b,ws)
 | some d=>
  if d = 93∧first=true then (aZ 2 b,ws)
  else if d = 93 then (aI b,ws)
  else
   let r:=jr s b
   let q:=jI s r
   lQ s (f - 1) false (if q.2.toNat<r.2.toNat then aZ 2 q.1 else q.1) (kE ws r.2.toNat q.2.toNat):=by
 cases f with
 | zero=>
  rw[lQ];split
  ·rfl
  ·rename_i hc;have:=(iY hc).2.1;omega
 | succ f=>rfl
theorem aii {s:List UInt8} {b:PB} {q:PB} {p:Prop} [Decidable p] (h:PT b q (-8)∧WP s 2 q∧q.dO=b.dO∧b.at_<q.at_) :
 PT b (if p then aZ 2 q else q) (-8)∧WP s 2 (if p then aZ 2 q else q)∧(if p then aZ 2 q else q).dO=b.dO∧b.at_<(if p then aZ 2 q else q).at_:=by
 split
 ·exact⟨h.1.trans (lD _ _) ω,ng δ h.2.1.1,by rw[iG];exact h.2.2.1,by rw[dF];exact h.2.2.2⟩
 ·exact h
theorem O8 (s:List UInt8):∀(f:Nat) (first:Bool) (b:PB) (ws:List Nat),WP s 2 b→PT b (lQ s f first b ws).1 0∧WP s 2 (lQ s f first b ws).1∧(lQ s f first b ws).1.dO=b.dO:=by
 intro f;induction f with
 | zero=>intro first b ws hW;exact⟨lD _ _,ng δ hW.1,iG _ _⟩
 | succ f ih=>
  intro first b ws hW;rw[lQ];split
  ·exact⟨lD _ _,ng δ hW.1,iG _ _⟩
  ·rename_i d hd;split
   ·exact⟨lD _ _,ng δ hW.1,iG _ _⟩
   ·split
    ·exact⟨(iZ b).weak ω,WP.of_le (by have:=(iY hd).2.1;simp[aI];omega),rfl⟩
    ·have h1:=ZT (Dj (iY hd).2.1);have h2:=aii (p:=(jI s (jr s b)).2.toNat<(jr s b).2.toNat) h1;have h3:=ih false _ (kE ws (jr s b).2.toNat (jI s (jr s b)).2.toNat) h2.2.1;exact⟨h2.1.trans h3.1 ω,h3.2.1,h3.2.2.trans h2.2.2.1⟩
theorem F7 {s:List UInt8} {b:PB} (hW:WP s 2 b):PT b (kR s b).1 0∧WP s 2 (kR s b).1∧(kR s b).1.dO=b.dO:=by
 unfold kR;split
 ·rename_i h;have h1:=O8 s (s.length+1) true (aI b) dU (WP.of_le (by have:=(iY h).2.1;simp[aI];omega));exact⟨(iZ b).trans h1.1 ω,h1.2.1,h1.2.2⟩
 ·exact O8 s _ true b dU hW
def KQ (s:List UInt8) (k:Nat) (sub:Option (PB→PB×rD)):Prop:=∀f,sub=some f→∀b,b.at_≤s.length→PT b (f b).1 5∧WP s k (f b).1∧IL (f b).2 (f b).1
theorem UU {s:List UInt8} {k:Nat} {sub:Option (PB→PB×rD)} {c:UInt8} {b:PB} (hs:KQ s k sub) (hk:2≤k) (hb:b.at_<s.length) :
 PT b (bW s sub c b).1 (-6)∧WP s (k+1) (bW s sub c b).1∧IL (bW s sub c b).2 (bW s sub c b).1:=by
 have ha:=iZ b;have AQ:(aI b).at_≤s.length:=by simp[aI];omega
 unfold bW;split
 ·split
  ·have h1:=tV dU (aZ 3 (aI b));exact⟨(ha.trans (lD _ _) (Int.le_refl _)).trans h1.1 ω,wG (ng δ ω),h1.2.1⟩
  ·rename_i f;have h1:=hs f rfl (aI b) AQ;simp only;split
   ·rename_i hp;refine⟨(ha.trans h1.1 (Int.le_refl _)).trans (iZ _) ω,WP.of_le ?_,h1.2.2⟩;have:=(iY hp).2.1;simp[aI] at this ⊢;omega
   ·refine⟨((ha.trans h1.1 (Int.le_refl _)).trans (lD 2 _) (Int.le_refl _)).trans (iZ _) ω,?_,?_⟩
    ·have h2:=h1.2.1.1;refine⟨by simp only[aI,dF] at h2 ⊢;omega,fun h0=>absurd h0 ?_⟩;exact zB (e:=2) δ (f (aI b)).1
    ·have:=h1.2.2;refine this.mono ?_;simp[aI,iG]
 ·split
  ·have h1:=F7 (s:=s) (b:=aI b) (WP.of_le AQ);have h2:=tV (kR s (aI b)).2 (kR s (aI b)).1;exact⟨(ha.trans h1.1 (Int.le_refl _)).trans h2.1 ω,(wG h1.2.1).weak ω,h2.2.1⟩
  ·split
   ·have h2:=tV (lH dU) (aI b);exact⟨ha.trans h2.1 ω,wG (WP.of_le AQ),h2.2.1⟩
   ·split
    ·split
     ·have h2:=tV (kE dU 0 0) (aI (aZ 2 (aI b)));refine⟨((ha.trans (lD 2 _) (Int.le_refl _)).trans (iZ _) (Int.le_refl _)).trans h2.1 ω,?_,h2.2.1⟩;refine wG ⟨by simp only[aI,dF] at AQ ⊢;omega,fun h0=>absurd h0 (zB (e:=2) δ (aI b))⟩
     ·rename_i d hd;have h2:=tV (kE dU d.toNat d.toNat) (aI (aI b));refine⟨(ha.trans (iZ _) (Int.le_refl _)).trans h2.1 ω,wG (WP.of_le ?_),h2.2.1⟩;have:=(iY hd).2.1;simp[aI] at this ⊢;omega
    ·split
     ·have h1:=tV dU (aZ 2 (aI b));exact⟨(ha.trans (lD _ _) (Int.le_refl _)).trans h1.1 ω,wG (ng δ ω),h1.2.1⟩
     ·have h2:=tV (kE dU c.toNat c.toNat) (aI b);exact⟨ha.trans h2.1 ω,wG (WP.of_le AQ),h2.2.1⟩
theorem N7 {s:List UInt8} {k:Nat} {b:PB} {x:rD} (hW:WP s k b) (hx:IL x b):PT b (fB s b x).1 0∧WP s k (fB s b x).1∧IL (fB s b x).2 (fB s b x).1:=by
 unfold fB;split
 ·exact⟨PT.refl b,hW,hx⟩
 ·rename_i c hc;split
  ·have h0:=(((((iZ b).trans (yF _) (Int.le_refl _)).trans (yF _) (Int.le_refl _)).trans (vJ b.dO.length x.1 _) (Int.le_refl _)).trans (vJ x.2 (b.dO.length+1) _) (Int.le_refl _));have uK:WP s k (aI b):=WP.of_le (by have:=(iY hc).2.1;simp[aI];omega);have hI:b.dO.length+1<(aX x.2 (b.dO.length+1) (aX b.dO.length x.1 (aT (aT (aI b))))).dO.length:=by
    simp only[iF,fM,aI];omega
   simp only;have hp:∀(p:Prop) [Decidable p] (i j:Nat) (z:PB),WP s k z→PT z (if p then z else aX i j z) 1∧WP s k (if p then z else aX i j z)∧(if p then z else aX i j z).dO.length=z.dO.length:=by
    intro p _ i j z hz;split
    ·exact⟨(PT.refl z).weak ω,hz,rfl⟩
    ·exact⟨vJ _ _ _,hz,iF _ _ _⟩
   have h1:=hp (c = 43) b.dO.length (b.dO.length+1) _ (show WP s k (aX x.2 (b.dO.length+1) (aX b.dO.length x.1 (aT (aT (aI b))))) from uK);have h2:=hp (c = 63) x.2 x.1 _ h1.2.1;refine⟨(h0.trans h1.1 (Int.le_refl _)).trans h2.1 ω,h2.2.1,?_,?_⟩
   ·rw[h2.2.2,h1.2.2];omega
   ·rw[h2.2.2,h1.2.2];exact hI
  ·exact⟨PT.refl b,hW,hx⟩
theorem ZI {s:List UInt8} {sub:Option (PB→PB×rD)} {f:Nat} {p:rD} {b:PB} (hf:s.length≤f + b.at_):EZ s sub f p b = match yc s b with
 | none=>(b,p)
 | some c=>if c = 124∨c = 41 then (b,p) else
  let r:=bW s sub c b
  let q:=fB s r.1 r.2
  EZ s sub (f - 1) (p.1,q.2.2) (aX p.2 q.2.1 q.1):=by
 cases f with
 | zero=>
  rw[EZ];split
  ·rfl
  ·rename_i hc;have:=(iY hc).2.1;omega
 | succ f=>rfl
theorem ag7 {s:List UInt8} {k:Nat} {sub:Option (PB→PB×rD)} (hs:KQ s k sub) (hk:2≤k):∀(f:Nat) (p:rD) (b:PB),WP s (k+1) b→IL p b→
 PT b (EZ s sub f p b).1 0∧WP s (k+1) (EZ s sub f p b).1∧IL (EZ s sub f p b).2 (EZ s sub f p b).1:=by
 intro f;induction f with
 | zero=>intro p b hW hI;exact⟨PT.refl b,hW,hI⟩
 | succ f ih=>
  intro p b hW hI;rw[EZ];split
  ·exact⟨PT.refl b,hW,hI⟩
  ·rename_i c hc;split
   ·exact⟨PT.refl b,hW,hI⟩
   ·have h1:=UU (c:=c) hs hk (iY hc).2.1;have h2:=N7 h1.2.1 h1.2.2;have h3:=ih (p.1,(fB s (bW s sub c b).1 (bW s sub c b).2).2.2) (aX p.2 (fB s (bW s sub c b).1 (bW s sub c b).2).2.1 (fB s (bW s sub c b).1 (bW s sub c b).2).1) h2.2.1
     ⟨by rw[iF];exact Nat.lt_of_lt_of_le hI.1 (Nat.le_trans h1.1.len h2.1.len),by rw[iF];exact h2.2.2.2⟩
    exact⟨((h1.1.trans h2.1 (Int.le_refl _)).trans (vJ _ _ _) (Int.le_refl _)).trans h3.1 ω,h3.2⟩
theorem Yq {s:List UInt8} {k:Nat} {sub:Option (PB→PB×rD)} (hs:KQ s k sub) (hk:2≤k) {b:PB} (hW:WP s (k+1) b) :
 PT b (lM s sub b).1 1∧WP s (k+1) (lM s sub b).1∧IL (lM s sub b).2 (lM s sub b).1:=by
 have h1:=ag7 hs hk (s.length+1) (b.dO.length,b.dO.length) (aT b) hW ⟨by rw[fM];simp,by rw[fM];simp⟩;exact⟨(yF b).trans h1.1 ω,h1.2⟩
theorem X3 {s:List UInt8} {k:Nat} {sub:Option (PB→PB×rD)} (hs:KQ s k sub) (hk:2≤k):∀(f:Nat) (p:rD) (b:PB),WP s (k+1) b→IL p b→
 PT b (gJ s sub f p b).1 3∧WP s (k+1) (gJ s sub f p b).1∧IL (gJ s sub f p b).2 (gJ s sub f p b).1:=by
 intro f;induction f with
 | zero=>intro p b hW hI;exact⟨(PT.refl b).weak ω,hW,hI⟩
 | succ f ih=>
  intro p b hW hI;rw[gJ];have h1:=Yq hs hk hW;have h2:PT b (aX (lM s sub b).2.2 p.2 (aX p.1 (lM s sub b).2.1 (lM s sub b).1)) 3:=(h1.1.trans (vJ _ _ _) (Int.le_refl _)).trans (vJ _ _ _) ω;have hI2:IL p (aX (lM s sub b).2.2 p.2 (aX p.1 (lM s sub b).2.1 (lM s sub b).1)):=hI.mono h2.len;split
  ·rename_i hp;have h3:=ih p (aI (aX (lM s sub b).2.2 p.2 (aX p.1 (lM s sub b).2.1 (lM s sub b).1))) (WP.of_le (by have:=(iY hp).2.1;simp[aI,aX] at this ⊢;omega)) hI2;exact⟨(h2.trans (iZ _) (Int.le_refl _)).trans h3.1 ω,h3.2⟩
  ·exact⟨h2,h1.2.1,hI2⟩
theorem X0 (s:List UInt8):∀(d:Nat) (b:PB),b.at_≤s.length→PT b (jS s d b).1 5∧WP s (3+d) (jS s d b).1∧IL (jS s d b).2 (jS s d b).1:=by
 have hst:∀(sub:Option (PB→PB×rD)) (k:Nat) (b:PB),KQ s k sub→2≤k→b.at_≤s.length→PT b (gJ s sub (s.length+1) (b.dO.length,b.dO.length+1) (aT (aT b))).1 5∧WP s (k+1) (gJ s sub (s.length+1) (b.dO.length,b.dO.length+1) (aT (aT b))).1∧IL (gJ s sub (s.length+1) (b.dO.length,b.dO.length+1) (aT (aT b))).2 (gJ s sub (s.length+1) (b.dO.length,b.dO.length+1) (aT (aT b))).1:=by
  intro sub k b hs hk hb;have h1:=X3 hs hk (s.length+1) (b.dO.length,b.dO.length+1) (aT (aT b)) (WP.of_le hb) ⟨by simp only[fM];omega,by simp only[fM];omega⟩;exact⟨((yF b).trans (yF _) (Int.le_refl _)).trans h1.1 ω,h1.2⟩
 intro d;induction d with
 | zero=>intro b hb;exact hst none 2 b (fun f hf=>by cases hf) ω hb
 | succ d ih=>
  intro b hb;have:=hst (some (jS s d)) (3+d) b (fun f hf b hb=>by injection hf with hf;subst hf;exact ih b hb) ω hb;exact⟨this.1,this.2.1.weak ω,this.2.2⟩
end Go.Proofs.YtbhikkgpcmkonaaGreatDoor
namespace Go.Proofs.YtbhikkgpcmkonaaGreatDoor
open Go.RowKit
theorem avb:eX Tryz.prog 356 377 3 40:=eX.mk' (z:=.agg #[.pointer none,.int .i64 0,.slice none 0 0]) Tryz.underlying356 κ rfl ω
def qL:vP:=⟨.pointer none,0,.slice none 0 0⟩
theorem aog:∀u∈DV qL,u.oneCell'=true:=by intro u hu;simp[DV,qL] at hu;rcases hu with rfl | rfl | rfl <;> rfl
theorem Xr:∀x,(DV x).length=3:=fun _=>rfl
structure au (T:List TypeId) (base:Nat) (w w':World):Prop where
 below:Below base w w'
 kept:∀(g:Nat) (cur:Array Value) (te:TypeId) (fz:Nat×Nat),w.heap[g]? = some (Obj.cells cur te fz)→te∉T→w'.heap[g]? = w.heap[g]?
theorem au.refl (T:List TypeId) (base:Nat) (w:World):au T base w w:=⟨Below.refl _ _,fun _ _ _ _ _ _=>rfl⟩
theorem au.trans {T:List TypeId} {base:Nat} {a b c:World} (h:au T base a b) (k:au T base b c):au T base a c:=
 ⟨h.below.trans k.below,fun g cur te fz hg ht=>(k.kept g cur te fz ((h.kept g cur te fz hg ht).trans hg) ht).trans (h.kept g cur te fz hg ht)⟩
theorem au.mono {T T':List TypeId} {base:Nat} {a b:World} (h:au T base a b) (hT:∀t∈T,t∈T'):au T' base a b:=
 ⟨h.below,fun g cur te fz hg ht=>h.kept g cur te fz hg fun hh=>ht (hT _ hh)⟩
theorem oU {w:World} {g:Nat} {o:Obj} (h:w.heap[g]? = some o):g < w.heap.size:=(Array.getElem?_eq_some_iff.1 h).1
theorem au.grows {T:List TypeId} {base:Nat} {a b:World} (hg:ah a b) (hb:base≤a.heap.size):au T base a b:=
 ⟨Below.mono hg.below hb,fun g _ _ _ h _=>hg.below.block g (oU h)⟩
theorem au.size {T:List TypeId} {base:Nat} {a b:World} (h:au T base a b):a.heap.size≤b.heap.size:=h.below.size
theorem au.blk {T:List TypeId} {base g:Nat} {a b:World} {te:TypeId} {cs:Array Value} (h:au T base a b) (hb:aF a g te cs) (ht:te∉T):aF b g te cs:=(h.kept g _ _ _ hb ht).trans hb
theorem au.row {T:List TypeId} {base:Nat} {w w':World} {row:Option Nat} (hg:w.grownBy w' row) (hb:base≤w.heap.size) (hr:∀m,row=some m→base≤m∧∃te cs,te∈T∧aF w m te cs):au T base w w':=by
 refine⟨⟨hg.os,hg.tape,hg.output,hg.size,fun k hk=>hg.block k (Nat.lt_of_lt_of_le hk hb) (fun e=> ?_)⟩,fun g cur te fz h ht=>hg.block g (oU h) (fun e=> ?_)⟩
 ·have:=(hr k e.symm).1;omega
 ·obtain⟨_,te',cs,hT,hB⟩:=hr g e.symm;unfold aF at hB;rw[h] at hB;simp only[Option.some.injEq,Obj.cells.injEq] at hB;exact ht (hB.2.1 ▸ hT)
theorem au.setCell {T:List TypeId} {base g i:Nat} {w:World} {te:TypeId} {cs:Array Value} (hB:aF w g te cs) (hb:base≤g) (ht:te∈T) (u:Value):au T base w (w.setCell ⟨g,i,none⟩ u):=
 au.row (aj w ⟨g,i,none⟩ u) (by have:=hB.lt;omega) (fun m hm=>by injection hm with hm;subst hm;exact⟨hb,te,cs,ht,hB⟩)
theorem Own.UM {α:Type} {w:World} {base k:Nat} {e:TypeId} {enc:α→List Value} {v:Value} {xs:List α} (h:Own w base e k enc v xs):∀m,v.ownBlock=some m→base≤m∧∃cs,aF w m e cs:=fun m hm=>by
 obtain⟨cur,hc⟩:=bD h hm;exact⟨(World.ownsRow.lt h m hm).1,cur,hc⟩
theorem Fb {α:Type} {w:World} {b0 k:Nat} {e:TypeId} {enc:α→List Value} {v:Value} {xs:List α} (h:Own w b0 e k enc v xs) (h0:0<xs.length):∃gb cap,v =.slice (some ⟨gb,0,none⟩) xs.length cap:=by
 rcases h.2 with⟨_,h6⟩ | ⟨g,cap,_,h5,_⟩
 ·omega
 ·exact⟨g,cap,h5⟩
theorem II.kept {w w':World} {base:Nat} {v:Value} {o:Option (List Nat)} {row:Option Nat} (h:II w base v o) (hg:w.grownBy w' row) (hr:∀m,row=some m→∃te cs,385≠te∧aF w m te cs):II w' base v o:=by
 cases row with
 | none=>
  cases o with
  | none=>exact h
  | some ws=>obtain⟨g,h1,h2,h3⟩:=h;exact⟨g,h1,h2,(hg.block g h3.1.lt σ).trans h3.1,h3.2⟩
 | some m=>obtain⟨te,cs,hne,hB⟩:=hr m rfl;exact h.off hB hne hg
theorem Own.ai5 {α:Type} {w w':World} {base k:Nat} {e:TypeId} {enc:α→List Value} {v:Value} {xs:List α} {row:Option Nat} (h:Own w base e k enc v xs) (hg:w.grownBy w' row) (hr:∀m,row=some m→∃te cs,e≠te∧aF w m te cs):Own w' base e k enc v xs:=
 h.kept' hg (fun g iE=>by obtain⟨te,cs,hne,hB⟩:=hr g iE;exact aV h hB hne)
theorem jd.push {w w2:World} {base gB:Nat} {s:List UInt8} {b:PB} {xs:List vP} {sv Vy:Value} (h:jd w base gB s b xs sv) (hO:Own w2 base 377 3 DV Vy (xs++[qL])) (hg:w.grownBy w2 sv.ownBlock) :
 jd (w2.setCell ⟨gB,3,none⟩ Vy) base gB s (aT b) (xs++[qL]) Vy:=by
 have hrow:∀(e:TypeId),e≠377→∀m,sv.ownBlock=some m→∃te cs,e≠te∧aF w m te cs:=fun e he m hm=>by
  obtain⟨_,cs,hB⟩:=h.own.UM m hm;exact⟨_,cs,he,hB⟩
 have hb2:aF w2 gB 358 #[.string ⟨s.toArray⟩,.int .i64 (b.at_:Int),.int .i64 (b.err:Int),sv]:=(hg.block gB h.blk.lt (fun e=>aV h.own h.blk δ e.symm)).trans h.blk;have aG:=aj w2 ⟨gB,3,none⟩ Vy;refine⟨?_,h.le,oO hO hb2 δ aG,by simp[aT,h.len],?_,?_⟩
 ·have:=hb2.aW 3 Vy;simpa[aT] using this
 ·intro i x y h1 h2;rcases Nat.lt_or_ge i xs.length with hi | hi
  ·rw[List.getElem?_append_left hi] at h1;simp only[aT] at h2;rw[List.getElem?_append_left (by rw[←h.len];exact hi)] at h2;obtain⟨a1,a2,a3⟩:=h.st i x y h1 h2;exact⟨a1,(a2.kept hg (hrow _ δ)).off hb2 δ aG,oO (a3.ai5 hg (hrow _ δ)) hb2 δ aG⟩
  ·have hi':i = xs.length:=by
    have:=(List.getElem?_eq_some_iff.1 h1).1;simp at this;omega
   subst hi';simp only[aT] at h2;rw[List.getElem?_append_right (Nat.le_refl _)] at h1;rw[h.len,List.getElem?_append_right (Nat.le_refl _)] at h2;simp at h1 h2;subst h1 h2;exact⟨rfl,rfl,Own.jA _ _ _ _ _⟩
 ·have old:∀(i:Nat) x,(xs++[qL])[i]? = some x→xs[i]? = some x∨x = qL:=fun i x h1=>by
   rcases Nat.lt_or_ge i xs.length with hi | hi
   ·rw[List.getElem?_append_left hi] at h1;exact .inl h1
   ·rw[List.getElem?_append_right hi] at h1;right
    have:=List.mem_of_getElem? h1;simpa using this
  intro i j x y g h1 h2 hne hg1 hg2;rcases old i x h1 with h1 | rfl
  ·rcases old j y h2 with h2 | rfl
   ·exact h.apart i j x y g h1 h2 hne hg1 hg2
   ·cases hg2
  ·cases hg1
theorem jd.upd {w w1:World} {base gB g n cap i j:Nat} {s:List UInt8} {b:PB} {xs:List vP} {x x':vP} {y y':PSt} {u:Value} {row:Option Nat} (h:jd w base gB s b xs (.slice (some ⟨g,0,none⟩) n cap))
 (hx:xs[i]? = some x) (hy:b.dO[i]? = some y) (hj:j < 3) (hg:w.grownBy w1 row) (hrow:row=none∨row=x.fv.ownBlock)
 (hn:x'.next=y'.next) (hS:II w1 base x'.pv y'.set) (hO:Own w1 base 3 1 encI x'.fv y'.free) (hf:x'.fv.ownBlock=x.fv.ownBlock∨∃m,x'.fv.ownBlock=some m∧w.heap.size≤m) (aln:DV x'=(DV x).set j u) :
 jd (w1.setCell ⟨g,i * 3+j,none⟩ u) base gB s {b with dO:=b.dO.set i y'} (xs.set i x') (.slice (some ⟨g,0,none⟩) n cap):=by
 have OG:i < xs.length:=(List.getElem?_eq_some_iff.1 hx).1;obtain⟨ax,bx,cx⟩:=h.st i x y hx hy;have hnl:=h.own.len Xr;have hr:∀(e:TypeId),e≠3→∀m,row=some m→∃te cs,e≠te∧aF w m te cs:=fun e he m hm=>by
  rcases hrow with h0 | h0
  ·rw[h0] at hm;cases hm
  ·rw[h0] at hm;obtain⟨_,cs,hB⟩:=cx.UM m hm;exact⟨_,cs,he,hB⟩
 obtain⟨_,alY,hcv⟩:=h.own.UM g rfl;have aek:∀m te cs,aF w m te cs→te≠3→some m≠row:=fun m te cs hB ht e=>by
  obtain⟨te',cs',hne,ED⟩:=hr te ht m e.symm;unfold aF at hB ED;rw[hB] at ED;simp only[Option.some.injEq,Obj.cells.injEq] at ED;exact hne ED.2.1
 have hb1:aF w1 gB 358 #[.string ⟨s.toArray⟩,.int .i64 (b.at_:Int),.int .i64 (b.err:Int),.slice (some ⟨g,0,none⟩) n cap]:=(hg.block gB h.blk.lt (aek _ _ _ h.blk δ)).trans h.blk;have Xu:aF w1 g 377 alY:=(hg.block g hcv.lt (aek _ _ _ hcv δ)).trans hcv;have aG:=aj w1 ⟨g,i * 3+j,none⟩ u;have hgB:gB≠g:=fun e=>by
  subst e;have:=h.blk;unfold aF at this hcv;rw[this] at hcv;simp only[Option.some.injEq,Obj.cells.injEq] at hcv;exact absurd hcv.2.1 δ
 have tq:=h.own.ai5 hg (hr _ δ);refine⟨hb1.far (by simpa using hgB) u,h.le,tq.ada Xr ω ω hj (fun z hz=>by rw[hx] at hz;injection hz with hz;subst hz;exact aln),by simp[h.len],?_,?_⟩
 ·intro k a c h1 h2;by_cases lK:i = k
  ·subst lK;rw[List.getElem?_set_self OG] at h1;rw[List.getElem?_set_self (by rw[←h.len];exact OG)] at h2;injection h1 with h1;injection h2 with h2
   subst h1 h2;exact⟨hn,hS.off Xu δ aG,oO hO Xu δ aG⟩
  ·rw[List.getElem?_set_ne lK] at h1 h2;obtain⟨a1,a2,a3⟩:=h.st k a c h1 h2;refine⟨a1,(a2.kept hg (hr _ δ)).off Xu δ aG,oO (a3.kept' hg (fun m hm hv=> ?_)) Xu δ aG⟩;rcases hrow with h0 | h0
   ·rw[h0] at hm;cases hm
   ·rw[h0] at hm;exact h.apart i k x a m hx h1 lK hm hv
 ·have far:∀(k:Nat) a m,xs[k]? = some a→k≠i→x'.fv.ownBlock=some m→a.fv.ownBlock≠some m:=fun k a m h1 lK hm hv=>by
   rcases hf with h0 | ⟨m',h0,hle⟩
   ·rw[h0] at hm;exact h.apart i k x a m hx h1 (Ne.symm lK) hm hv
   ·rw[h0] at hm;injection hm with hm
    subst hm;obtain⟨c,hc⟩:∃c,b.dO[k]? = some c:=⟨_,List.getElem?_eq_getElem (by rw[←h.len];exact (List.getElem?_eq_some_iff.1 h1).1)⟩;have:=Jz (h.st k a c h1 hc).2.2 hv;omega
  intro k l a c m h1 h2 Ey Ve Vd;by_cases lK:i = k
  ·subst lK;rw[List.getElem?_set_self OG] at h1;injection h1 with h1;subst h1
   rw[List.getElem?_set_ne Ey] at h2;exact far l c m h2 (Ne.symm Ey) Ve Vd
  ·rw[List.getElem?_set_ne lK] at h1;by_cases hli:i = l
   ·subst hli;rw[List.getElem?_set_self OG] at h2;injection h2 with h2;subst h2
    exact far k a m h1 (Ne.symm lK) Vd Ve
   ·rw[List.getElem?_set_ne hli] at h2;exact h.apart k l a c m h1 h2 Ey Ve Vd
def TB:List TypeId:=[358,377,3]
theorem rV {w:World} {base gB:Nat} {s:List UInt8} {b:PB} {xs:List vP} {sv:Value} (h:jd w base gB s b xs sv) (hb:base≤w.heap.size) (hn:b.dO.length<1000000000) :
 Calls Tryz.prog 264 #[.pointer (some ⟨gB,0,none⟩)] w fun r w'=>r =.returned (.int .i64 (b.dO.length:Int))∧∃Vy,jd w' base gB s (aT b) (xs++[qL]) Vy∧au TB base w w':=by
 have c3:w.cell? ⟨gB,3,none⟩=some sv:=(h.blk.cell 3).trans rfl;have f3:=h.blk.frozen 3;have hl:=h.blk.lt;have hO:=h.own;have hlen:=h.len;replace h:=ζ h;replace hO:=ζ hO;go_enter Tryz.func264,Tryz.ntmps264
 have hrow:∀m,sv.ownBlock=some m→some gB≠some m:=fun m hm e=>by injection e with e;subst e;exact aV hO.o h.o.blk δ hm
 replace hrow:=ζ hrow;go_wp2_with (at_builtin;refine gy (x:=qL) avb rfl (.tmp 7) (.tmp 9) rfl (hO.o.alloc _) rfl ⟨w.heap.size,0,none⟩ rfl rfl (lJ (by exact heap_alloc_new w _)) aog (by simp;omega) (by unfold maxLen;omega) ω (fun v8 w8 Vg hgr hat=> ?_);obtain⟨A8,c8,rfl,-⟩:=Vg.arr Xr;(have hP:=ζ (jd.push (h.o.grows ((ah.refl w).alloc _)) Vg hgr));(have hK8:=ζ (au.row (T:=TB) (base:=base) hgr (by simp;omega) (fun m hm=>by obtain⟨a1,cs,a2⟩:=(hO.o.alloc _).UM m hm;exact⟨a1,_,cs,δ,a2⟩)));(have mg:aF w8 gB _ _:=(hgr.block gB (by simp;omega) (fun e=>hrow.o gB e.symm rfl)).trans (h.o.blk.alloc _));(have c8:=mg.cell 3);(have f8:=mg.frozen 3);(have l8:=mg.lt);(replace mg:=ζ mg);(replace Vg:=ζ Vg);(replace hgr:=ζ hgr);clear hat);go_ret;have hP2:=hP.o;rw[show (xs++[qL]).length=b.dO.length+1 by simp[hlen]] at hP2;refine⟨by simp,_,hP2,?_⟩;exact ((au.grows ((ah.refl w).alloc _) hb).trans hK8.o).trans (au.setCell mg.o h.o.le δ _)
theorem aqS:eX Tryz.prog 71 3 1 8:=eX.mk' (z:=.int .i64 0) Tryz.underlying71 κ rfl ω
theorem ae9 {b:PB} {i j:Nat} {y:PSt} (hy:b.dO[i]? = some y):aX i j b = {b with dO:=b.dO.set i {y with free:=y.free++[j]}}:=by
 obtain⟨hl,rfl⟩:=List.getElem?_eq_some_iff.1 hy;unfold aX;congr 1
 apply List.ext_getElem?;intro k;rw[List.getElem?_modify,List.getElem?_set];by_cases hk:i = k
 ·subst hk;simp[hl]
 ·simp[hk]
theorem m_ {w:World} {base gB i j:Nat} {s:List UInt8} {b:PB} {xs:List vP} {sv:Value} (h:jd w base gB s b xs sv) (hb:base≤w.heap.size) (hi:i < b.dO.length) (hn:dR b < 1000000000) :
 Calls Tryz.prog 266 #[.pointer (some ⟨gB,0,none⟩),.int .i64 (i:Int),.int .i64 (j:Int)] w fun r w'=>r =.returned (.tuple #[])∧∃xs',jd w' base gB s (aX i j b) xs' sv∧au TB base w w':=by
 obtain⟨y,hy⟩:∃y,b.dO[i]? = some y:=⟨_,List.getElem?_eq_getElem hi⟩;obtain⟨x,hx⟩:∃x,xs[i]? = some x:=⟨_,List.getElem?_eq_getElem (by rw[h.len];exact hi)⟩;have OG:i < xs.length:=by rw[h.len];exact hi
 obtain⟨g,cap,hsv⟩:=Fb h.own ω;generalize Fv:xs.length=n at *
 subst hsv;obtain⟨x',BK,hcell,atJ⟩:=h.own.at_ Xr OG;rw[hx] at BK;injection BK with BK
 subst BK;have c3:w.cell? ⟨gB,3,none⟩=some (.slice (some ⟨g,0,none⟩) n cap):=(h.blk.cell 3).trans rfl;have c2:w.cell? ⟨g,i * 3+2,none⟩=some x.fv:=hcell 2 _ rfl;have hl:=h.blk.lt;have Az:=World.block_lt_of_cell? w _ c2;simp only at Az;obtain⟨hs1,hs2,hs3⟩:=h.st i x y hx hy;have Ox:y.free.length<1000000000:=by have:=abd hy;unfold dR at hn;omega
 obtain⟨alZ,FP⟩:=bD h.own (g:=g) rfl;have hr1:some gB≠x.fv.ownBlock:=fun e=>aV hs3 h.blk δ e.symm
 have hr2:some g≠x.fv.ownBlock:=fun e=>aV hs3 FP δ e.symm
 have hii:(i:Int)<(n:Int):=ω;generalize hrow:x.fv.ownBlock=row at *
 replace hrow:=ζ hrow;replace Fv:=ζ Fv;replace hs1:=ζ hs1;replace hs2:=ζ hs2;replace hs3:=ζ hs3;replace Ox:=ζ Ox;replace hx:=ζ hx;replace hy:=ζ hy;replace hn:=ζ hn;replace FP:=ζ FP;replace hb:=ζ hb;have hG:=ζ (ah.refl w);replace h:=ζ h;clear hcell atJ hi OG;go_enter Tryz.func266,Tryz.ntmps266
 go_wp2;refine iI (row) κ ?_;refine rK (up:=iJ) (.range 14) 5 ?_;iterate 14 refine fK ?_
 refine aB ?_;refine aK [14] κ σ (fun wN hN hS=>(ay.cons rfl (fun K' hK=> ?_) ay.nil));try replace h:=ζ (h.o.grows hN)
 try replace hs2:=ζ (hs2.o.grows hN)
 try replace hs3:=ζ (hs3.o.grows hN)
 try replace FP:=ζ ((hN.below.block _ (oU FP.o)).trans FP.o)
 try replace hG:=ζ (hG.o.trans hN)
 try replace gQ:=ζ (gQ.o.grows hN)
 try replace kF:=ζ (kF.o.grows hN)
 try replace jf:=ζ (dD jf.o hN)
 clear hN;go_simp;refine hK.o _ _ ?_ (fun hS=> ?_)
 ·exact dD (by assumption) ((ah.refl _).alloc _)
 have gQ:=ζ (aF.new wN 3 #[.int .i64 (j:Int)]);have dw:ah wN (wN.alloc (.cells #[.int .i64 (j:Int)] 3)):=(ah.refl _).alloc _;replace h:=ζ (h.o.grows dw);replace hs2:=ζ (hs2.o.grows dw);replace hs3:=ζ (hs3.o.grows dw);replace FP:=ζ ((dw.below.block _ (oU FP.o)).trans FP.o);replace hG:=ζ (hG.o.trans dw);clear dw;clear hK hS;refine aK [15] κ σ (fun wN hN hS=>(ay.cons rfl (fun K' hK=> ?_) ay.nil));try replace h:=ζ (h.o.grows hN)
 try replace hs2:=ζ (hs2.o.grows hN)
 try replace hs3:=ζ (hs3.o.grows hN)
 try replace FP:=ζ ((hN.below.block _ (oU FP.o)).trans FP.o)
 try replace hG:=ζ (hG.o.trans hN)
 try replace gQ:=ζ (gQ.o.grows hN)
 try replace kF:=ζ (kF.o.grows hN)
 try replace jf:=ζ (dD jf.o hN)
 clear hN;have zI:=Nat.le_trans hb.o hG.o.size;refine Own.grown (x:=j) aqS rfl (.tmp 18) (.tmp 20) rfl hs3.o rfl ⟨_,0,none⟩ rfl rfl (lJ gQ.o) (fun u hu=>by simp[encI] at hu;subst hu;rfl) zI (by have:=Ox.o;unfold maxLen;omega) (by have:=Ox.o;omega) (fun v4 w4 kF jf hv4=> ?_);have hrr:=hs3.o.UM;rw[hrow.o] at hrr;rw[hrow.o] at jf;obtain⟨gb4,au1,Nc⟩:=Fb kF σ;obtain⟨L4,hL4⟩:∃L,L=(y.free++[j]).length:=⟨_,rfl⟩;rw[←hL4] at Nc;subst Nc;clear hL4;have hA:=h;have hsA:=hs2;have hcA:=FP;have kN:=hG;replace kF:=ζ kF;replace hv4:=ζ hv4;replace hrr:=ζ hrr;clear zI hs3 gQ h hs2 FP hG;go_simp;refine hK.o _ _ ?_ (fun hS=> ?_)
 ·exact World.grownBy.trans (by assumption) jf
 replace jf:=ζ jf;clear hK hS;refine rK (up:=iJ) [16,17] 1 ?_;iterate 2 refine fK ?_
 refine aB ?_;refine eF (i:=18) rfl κ κ (fun wN hN hS K' hK=> ?_);try replace h:=ζ (h.o.grows hN)
 try replace hs2:=ζ (hs2.o.grows hN)
 try replace hs3:=ζ (hs3.o.grows hN)
 try replace FP:=ζ ((hN.below.block _ (oU FP.o)).trans FP.o)
 try replace hG:=ζ (hG.o.trans hN)
 try replace gQ:=ζ (gQ.o.grows hN)
 try replace kF:=ζ (kF.o.grows hN)
 try replace jf:=ζ (dD jf.o hN)
 clear hS;have VG:=(jf.o.block g (oU hcA.o) hr2).trans hcA.o;have hBN:aF wN g _ _:=VG;have rfN:=hBN.frozen (i * 3+2);have VZ:=hBN.lt;have c2N:=(World.cell?_of_block (a:=⟨g,i * 3+2,none⟩) (jf.o.block g (oU hcA.o) hr2)).trans (kN.o.cell c2);go_simp;refine hK.o _ _ ?_;clear hK;go_wp2;go_end0;have aeu:=(hA.o.own.UM g rfl).1;have hU:=jd.upd (x':={x with fv:=.slice (some ⟨gb4,0,none⟩) L4 au1}) (y':={y with free:=y.free++[j]}) (j:=2) hA.o hx.o hy.o ω jf.o (.inr hrow.o.symm) hs1.o (hsA.o.kept jf.o (fun m hm=>by obtain⟨_,cs,h⟩:=hrr.o m hm;exact⟨_,cs,δ,h⟩)) kF.o (hv4.o.imp (fun h=>h) (fun h=>⟨_,h,Nat.le_refl _⟩)) rfl;rw[←ae9 hy.o] at hU;refine⟨rfl,_,hU,?_⟩;exact ((au.grows kN.o hb.o).trans (au.row jf.o (Nat.le_trans hb.o kN.o.size) (fun m hm=>by obtain⟨h1,cs,h⟩:=hrr.o m hm;exact⟨h1,_,cs,δ,h⟩))).trans (au.setCell hBN aeu δ _)
def dh (p:rD):Value:=.agg #[.int .i64 (p.1:Int),.int .i64 (p.2:Int)]
def U6 (base gB:Nat) (s:List UInt8) (w:World) (r:PB×rD) (e:Ending) (w':World):Prop:=
 e =.returned (dh r.2)∧∃xs' Vy,jd w' base gB s r.1 xs' Vy∧au TB base w w'
theorem au.dn {T:List TypeId} {base g i:Nat} {w w5:World} (h:au T base w w5) (hg:w.heap.size≤g) (hb:base≤w.heap.size) (u:Value):au T base w (w5.setCell ⟨g,i,none⟩ u):=
 ⟨h.below.setCell (by simp;omega) u,fun k cur te fz hk ht=>by
  have hlt:=oU hk;rw[Below.heap_setCell _ _ _ _ (by simp;omega)];exact h.kept k cur te fz hk ht⟩
theorem jd.far {w w':World} {base gB m:Nat} {s:List UInt8} {b:PB} {xs:List vP} {sv:Value} {te:TypeId} {cs:Array Value} (h:jd w base gB s b xs sv) (hm:aF w m te cs) (ht:te∉(385::TB)) (hg:w.grownBy w' (some m)):jd w' base gB s b xs sv:=by
 simp only[TB,List.mem_cons,List.not_mem_nil,or_false,not_or] at ht;obtain⟨t1,t2,t3,t4⟩:=ht;refine⟨(hg.block gB h.blk.lt (fun e=> ?_)).trans h.blk,h.le,oO h.own hm (Ne.symm t3) hg,h.len,?_,h.apart⟩
 ·injection e with e
  subst e;have h1:=h.blk;unfold aF at h1 hm;rw[hm] at h1;simp only[Option.some.injEq,Obj.cells.injEq] at h1;exact t2 h1.2.1
 ·intro i x y h1 h2;obtain⟨a1,a2,a3⟩:=h.st i x y h1 h2;exact⟨a1,a2.off hm (Ne.symm t1) hg,oO a3 hm (Ne.symm t4) hg⟩
theorem ahd {ws:List Nat} {b:PB}:(jy ws b).1={(aT (aT b)) with dO:=((aT (aT b)).dO.set b.dO.length ⟨some ws,0,[]⟩).set b.dO.length ⟨some ws,b.dO.length+1,[]⟩}:=by
 unfold jy aT;simp only;congr 1
 apply List.ext_getElem?;intro k;rw[List.set_set,List.getElem?_modify,List.getElem?_set];by_cases hk:b.dO.length=k
 ·subst hk;simp[zC]
 ·simp[hk]
theorem wC {w:World} {base gB gs:Nat} {s:List UInt8} {b:PB} {ws:List Nat} {xs:List vP} {sv:Value} (h:jd w base gB s b xs sv) (hS:dZ w gs ws) (kU:base≤gs) (hb:base≤w.heap.size) (hn:b.dO.length<100000000) :
 Calls Tryz.prog 279 #[.pointer (some ⟨gB,0,none⟩),.pointer (some ⟨gs,0,none⟩)] w (U6 base gB s w (jy ws b)):=by
 replace h:=ζ h;replace hS:=ζ hS;replace kU:=ζ kU;replace hb:=ζ hb;replace hn:=ζ hn;go_enter Tryz.func279,Tryz.ntmps279
 have I7:=aF.new w 360 #[.int .i64 0,.int .i64 0];have GU:=hS.o.grows ((ah.refl w).alloc (.cells #[.int .i64 0,.int .i64 0] 360));go_wp2_with fail;refine (rV (h.o.grows ((ah.refl w).alloc _)) (by have:=hb.o;simp;omega) (by have:=hn.o;omega)).mono ?_;rintro e w1 ⟨rfl,sv1,h1,hk1⟩;replace I7:=hk1.blk I7 δ;replace GU:dZ w1 gs ws:=⟨hk1.blk GU.1 δ,GU.2⟩;replace hk1:=ζ ((au.grows ((ah.refl w).alloc _) hb.o).trans hk1);replace h1:=ζ h1;replace I7:=ζ I7;replace GU:=ζ GU;go_wp2_with fail;refine (rV h1.o (Nat.le_trans hb.o hk1.o.size) (by have:=hn.o;simp[aT];omega)).mono ?_;rintro e w2 ⟨rfl,sv2,h2,hk2⟩;replace I7:=hk2.blk I7.o δ;replace GU:dZ w2 gs ws:=⟨hk2.blk GU.o.1 δ,GU.o.2⟩;replace hk2:=hk1.o.trans hk2;clear h1 hk1;rw[fM];have hP:=aF.new w2 360 #[.int .i64 (b.dO.length:Int),.int .i64 ((b.dO.length:Int)+1)];have dw:ah w2 (w2.alloc (.cells #[.int .i64 (b.dO.length:Int),.int .i64 ((b.dO.length:Int)+1)] 360)):=(ah.refl _).alloc _;replace I7:=ζ (I7.grows dw);replace GU:=ζ (GU.grows dw);replace h2:=h2.grows dw;have hb2:=Nat.le_trans hb.o hk2.size;replace hk2:=ζ (hk2.trans (au.grows dw hb2));clear dw;replace hP:=ζ hP;replace h2:=ζ h2;replace hb2:=ζ hb2;go_wp2_with fail;generalize w2.alloc (.cells #[.int .i64 (b.dO.length:Int),.int .i64 ((b.dO.length:Int)+1)] 360)=w3 at *
 generalize w2.heap.size=gp at *
 replace hb2:Hid (base≤w3.heap.size):=ζ (Nat.le_trans hb.o hk2.o.size);generalize hgr:w.heap.size=gr at *
 have hlx:xs.length=b.dO.length:=h.o.len;obtain⟨g,cap,hsv⟩:=Fb h2.o.own σ;obtain⟨n,hnl⟩:∃n,n = (xs++[qL]++[qL]).length:=⟨_,rfl⟩;rw[←hnl] at hsv;subst hsv;have ahD:n = b.dO.length+2:=by simp at hnl;omega
 have hx:(xs++[qL]++[qL])[b.dO.length]? = some qL:=by rw[←hlx];simp
 have hy:(aT (aT b)).dO[b.dO.length]? = some zC:=by simp[aT]
 generalize hxx:xs++[qL]++[qL]=xx at *
 have hii:(b.dO.length:Int)<(n:Int):=ω;generalize hN:b.dO.length=N at *
 obtain⟨alZ,FP⟩:=bD h2.o.own (g:=g) rfl;have c3:w3.cell? ⟨gB,3,none⟩=some (.slice (some ⟨g,0,none⟩) n cap):=(h2.o.blk.cell 3).trans rfl;have cp0:=hP.o.c0;have cp1:=hP.o.c1;have hl3:=h2.o.blk.lt;have hlp:=hP.o.lt;have hlg:=oU FP;have hr1:some gB≠some g:=fun e=>aV h2.o.own h2.o.blk δ e.symm
 have hr2:some gp≠some g:=fun e=>aV h2.o.own hP.o δ e.symm
 replace FP:=ζ FP;replace hx:=ζ hx;replace hy:=ζ hy;replace hxx:=ζ hxx;replace hN:=ζ hN;replace hnl:=ζ hnl;replace ahD:=ζ ahD;replace hlx:=ζ hlx;replace hgr:=ζ hgr;refine iI ((some g)) κ ?_;refine rK (up:=iJ) (.range 17) 4 ?_;iterate 17 refine fK ?_
 refine aB ?_;refine aK [17] κ σ (fun wN hN hS=>(ay.cons rfl (fun K' hK=> ?_) ay.nil));try replace h2:=ζ (h2.o.grows hN)
 try replace hU:=ζ (hU.o.grows hN)
 replace GU:=ζ (GU.o.grows hN);replace hP:=ζ (hP.o.grows hN);replace I7:=ζ (I7.o.grows hN);replace hk2:=ζ (hk2.o.trans (au.grows hN hb2.o));replace hb2:=ζ (Nat.le_trans hb2.o hN.size);clear hN;obtain⟨x1,hx1,hc1,hf1⟩:=h2.o.own.at_ Xr (i:=N) (by have:=ahD.o;omega);rw[hx.o] at hx1;injection hx1 with hx1
 subst hx1;have rcN:wN.cell? ⟨g,N*3,none⟩=some (.pointer none):=hc1 0 _ rfl;have rfN:wN.frozen? ⟨g,N*3,none⟩=false:=hf1 _;have VZ:=World.block_lt_of_cell? wN _ rcN;simp only at VZ;have hU:=ζ (jd.upd (x':=⟨.pointer (some ⟨gs,0,none⟩),0,.slice none 0 0⟩) (y':=⟨some ws,0,[]⟩) (u:=.pointer (some ⟨gs,0,none⟩)) (j:=0) h2.o hx.o hy.o ω (World.grownBy.refl wN none) (.inl rfl) rfl ⟨gs,rfl,kU.o,GU.o⟩ (Own.jA _ _ _ _ _) (.inl rfl) rfl);obtain⟨aeu,cg,hBg⟩:=h2.o.own.UM g rfl;have Du:au TB base wN (wN.setCell ⟨g,N*3,none⟩ (.pointer (some ⟨gs,0,none⟩))):=au.setCell hBg aeu δ _;replace GU:Hid (dZ (wN.setCell ⟨g,N*3,none⟩ (.pointer (some ⟨gs,0,none⟩))) gs ws):=ζ ⟨Du.blk GU.o.1 δ,GU.o.2⟩;replace hP:=ζ (Du.blk hP.o δ);replace I7:=ζ (Du.blk I7.o δ);replace hb2:=ζ (Nat.le_trans hb2.o Du.size);replace hk2:=ζ (hk2.o.trans Du);clear h2 Du hc1 hf1 hBg;go_simp;refine hK.o _ _ ?_ (fun hS=> ?_)
 ·exact World.grownBy.trans (by assumption) (aj wN ⟨g,N*3,none⟩ _)
 clear rcN rfN VZ;clear hK hS;refine rK (up:=iJ) [18,19] 1 ?_;iterate 2 refine fK ?_
 refine aB ?_;refine eF (i:=20) rfl κ κ (fun wN hN hS K' hK=> ?_);try replace h2:=ζ (h2.o.grows hN)
 try replace hU:=ζ (hU.o.grows hN)
 replace GU:=ζ (GU.o.grows hN);replace hP:=ζ (hP.o.grows hN);replace I7:=ζ (I7.o.grows hN);replace hk2:=ζ (hk2.o.trans (au.grows hN hb2.o));replace hb2:=ζ (Nat.le_trans hb2.o hN.size);clear hS;have hx2:(xx.set N ⟨.pointer (some ⟨gs,0,none⟩),0,.slice none 0 0⟩)[N]? = some (⟨.pointer (some ⟨gs,0,none⟩),0,.slice none 0 0⟩:vP):=List.getElem?_set_self (List.getElem?_eq_some_iff.1 hx.o).1;have hy2:((aT (aT b)).dO.set N ⟨some ws,0,[]⟩)[N]? = some (⟨some ws,0,[]⟩:PSt):=List.getElem?_set_self (List.getElem?_eq_some_iff.1 hy.o).1;obtain⟨x1,hx1,hc1,hf1⟩:=hU.o.own.at_ Xr (i:=N) (by have:=ahD.o;omega);rw[hx2] at hx1;injection hx1 with hx1
 subst hx1;have rcN:wN.cell? ⟨g,N*3+1,none⟩=some (.int .i64 0):=hc1 1 _ rfl;have rfN:wN.frozen? ⟨g,N*3+1,none⟩=false:=hf1 _;have VZ:=World.block_lt_of_cell? wN _ rcN;simp only at VZ;have hV:=ζ (jd.upd (x':=⟨.pointer (some ⟨gs,0,none⟩),N+1,.slice none 0 0⟩) (y':=⟨some ws,N+1,[]⟩) (u:=.int .i64 ((N:Int)+1)) (j:=1) hU.o hx2 hy2 ω (World.grownBy.refl wN none) (.inl rfl) rfl ⟨gs,rfl,kU.o,GU.o⟩ (Own.jA _ _ _ _ _) (.inl rfl) (by simp[DV]));obtain⟨aeu,cg,hBg⟩:=hU.o.own.UM g rfl;have Du:au TB base wN (wN.setCell ⟨g,N*3+1,none⟩ (.int .i64 ((N:Int)+1))):=au.setCell hBg aeu δ _;replace hP:=ζ (Du.blk hP.o δ);replace I7:=ζ (Du.blk I7.o δ);replace hk2:=ζ (hk2.o.trans Du);clear hU GU Du hc1 hf1 hBg hx2 hy2 hb2;go_simp;refine hK.o _ _ ?_;clear hK;clear rcN rfN VZ c3 cp0 cp1 hl3 hlp hlg hr1 hr2 hN;generalize wN.setCell ⟨g,N*3+1,none⟩ (.int .i64 ((N:Int)+1))=w5 at *
 have dp0:=hP.o.c0;have dp1:=hP.o.c1;have dr0:=I7.o.c0;have dr1:=I7.o.c1;have fr0:=I7.o.frozen 0;have fr1:=I7.o.frozen 1;have lp:=hP.o.lt;have lr:=I7.o.lt;have av7:=ζ (hgr.o ▸ hb.o:base≤gr);go_wp2;have jh:=I7.o.aW 0 (.int .i64 (N:Int));have lX:=jh.aW 1 (.int .i64 ((N:Int)+1));have pR:=(hk2.o.dn (g:=gr) (i:=0) (by rw[hgr.o];exact Nat.le_refl _) (by rw[hgr.o];exact hb.o) (.int .i64 (N:Int))).dn (g:=gr) (i:=1) (by rw[hgr.o];exact Nat.le_refl _) (by rw[hgr.o];exact hb.o) (.int .i64 ((N:Int)+1));have uM:=(hV.o.far I7.o δ (aj w5 ⟨gr,0,none⟩ (.int .i64 (N:Int)))).far jh δ (aj _ ⟨gr,1,none⟩ (.int .i64 ((N:Int)+1)));clear dr0 dr1 fr0 fr1 dp0 dp1 lp lr I7 hP hV hk2 jh;generalize (w5.setCell ⟨gr,0,none⟩ (.int .i64 (N:Int))).setCell ⟨gr,1,none⟩ (.int .i64 ((N:Int)+1))=w7 at *
 have e0:=lX.c0;have e1:=lX.c1;refine bodyPost_ret (v:=dh (jy ws b).2) ?_ rfl ⟨rfl,?_⟩
 ·simp[dh,jy,hN.o,results,Tryz.results279,go_sem,e0,e1]
 ·have e2:=ahd (ws:=ws) (b:=b);rw[hN.o] at e2;rw[←e2] at uM;exact⟨_,_,uM,pR⟩
end Go.Proofs.YtbhikkgpcmkonaaGreatDoor
