/- Parts: Num ShaP Kit Own -/
import Derived.Test.YtbhikkgpcmkonaaGreatDoorVa0
import Derived.Lib.ItoaNum
import Derived.Lib.ItoaMem
import Derived.Lib.AtoiTie
import Derived.Lib.AtoiAllCases
import Derived.Lib.CutLaws
import Derived.Test.YtbhikkgpcmkonaaGreatDoorRows
import Derived.WalkKit
import Derived.WalkSpells
import Derived.WalkLawsBesides
import Derived.WalkSmall
import Derived.BigQuiet
import Derived.Deep.QuietTactic
import Derived.Deep.RegionHeld3
import Derived.Lib.Hide
import Derived.Maps.AppendAt
import Derived.Laws.IdiomCopy
set_option maxRecDepth 100000
set_option maxHeartbeats 12800000
namespace Go.Proofs.YtbhikkgpcmkonaaGreatDoor
theorem pX (u:Nat):Lib.decDigits u = (if u < 10 then [] else Lib.decDigits (u / 10))++[UInt8.ofNat (48+u % 10)]:=by
 by_cases h:u < 10
 ·rw[Lib.decDigits_one h,if_pos h,Nat.mod_eq_of_lt h];rfl
 ·rw[if_neg h];conv=>lhs;rw[Lib.decDigits]
  rw[dif_neg h]
theorem TJ {d:Nat} (h:d < 10):(UInt8.ofNat (48+d)).toNat=48+d:=by
 simp only[UInt8.toNat_ofNat'];omega
theorem Ry:∀(u:Nat) (c:UInt8),c∈Lib.decDigits u→48≤c.toNat∧c.toNat≤57:=by
 intro u;induction u using Nat.strongRecOn with
 | _ u ih=>
  intro c hc;rw[pX] at hc;rcases List.mem_append.1 hc with h | h
  ·by_cases h10:u < 10
   ·simp[h10] at h
   ·rw[if_neg h10] at h;exact ih (u / 10) ω c h
  ·obtain rfl:c = UInt8.ofNat (48+u % 10):=by simpa using h
   rw[TJ ω];omega
theorem CO:∀(l:List UInt8) (b:UInt8) (acc:Nat),Lib.decFrom acc (l ++[b])=(Lib.decFrom acc l).bind fun n=>(Lib.digitVal b).map fun d=>n * 10+d
 | [],b,acc=>by cases h:Lib.digitVal b <;> simp[Lib.decFrom,h]
 | x ::l,b,acc=>by
  cases h:Lib.digitVal x with
  | none=>simp[Lib.decFrom,h]
  | some d=>simp only[List.cons_append,Lib.decFrom,h];exact CO l b _
theorem KQ:∀u:Nat,Lib.decFrom 0 (Lib.decDigits u)=some u:=by
 intro u;induction u using Nat.strongRecOn with
 | _ u ih=>
  rw[pX,CO];have hd:Lib.digitVal (UInt8.ofNat (48+u % 10))=some (u % 10):=by
   unfold Lib.digitVal;rw[TJ ω,if_pos ω];congr 1;omega
  by_cases h10:u < 10
  ·rw[if_pos h10,hd];simp[Lib.decFrom];omega
  ·rw[if_neg h10,ih (u / 10) ω,hd];simp;omega
theorem EP:∀(k u:Nat),u < 10 ^ (k+1)→(Lib.decDigits u).length≤k+1
 | 0,u,h=>by rw[pX,if_pos ω];simp
 | k+1,u,h=>by
  rw[pX];by_cases h10:u < 10
  ·rw[if_pos h10];simp
  ·rw[if_neg h10,List.length_append];have:=EP k (u / 10) (by rw[Nat.pow_succ] at h;omega);simp;omega
theorem XD (n:Int) (h:0≤n):Lib.itoa n = Lib.decDigits n.toNat:=by
 obtain⟨u,rfl⟩:=Int.eq_ofNat_of_zero_le h;rw[Lib.itoa_nonneg];rfl
def Wd (x:Nat):Prop:=x < 4294967296
theorem Wd.lt {x:Nat} (h:Wd x):x < 4294967296:=h
theorem Wd.of {x:Nat} (h:x < 4294967296):Wd x:=h
theorem Wd.mod (x:Nat):Wd (x % 4294967296):=Nat.mod_lt _ δ
def dU (x n:Nat):Nat:=((x <<< (32-n)) % 4294967296) |||(x >>> n)
theorem jk {x n:Nat} (h:Wd x):Wd (dU x n):=by
 unfold Wd dU at *
 refine Nat.or_lt_two_pow (n:=32) (Nat.mod_lt _ δ) ?_;exact Nat.lt_of_le_of_lt (Nat.shiftRight_le _ _) h
theorem acn {x i:Nat} (h:Wd x) (hi:32≤i):x.testBit i = false:=
 Nat.testBit_lt_two_pow (Nat.lt_of_lt_of_le h.lt (Nat.pow_le_pow_right (n:=2) δ hi))
def sig (a b c x:Nat):Nat:=dU x a ^^^ dU x b ^^^ dU x c
def QK (a b c x:Nat):Nat:=dU x a ^^^ dU x b ^^^ (x >>> c)
theorem Jb {a b:Nat} (ha:Wd a) (hb:Wd b):Wd (a ^^^ b):=Nat.xor_lt_two_pow (n:=32) ha.lt hb.lt
theorem C9 {a b:Nat} (ha:Wd a):Wd (a &&&b):=Nat.lt_of_le_of_lt Nat.and_le_left ha.lt
def Uf (p q r s:Nat):Nat:=(((p + QK 7 18 3 q) % 4294967296+r) % 4294967296+QK 17 19 10 s) % 4294967296
def oW (ws:List Nat):Nat:=Uf (ws.getD (ws.length-16) 0) (ws.getD (ws.length-15) 0) (ws.getD (ws.length-7) 0) (ws.getD (ws.length-2) 0)
def words:Nat→List Nat→List Nat
 | 0,ws=>ws
 | n + 1,ws=>words n (ws++[oW ws])
theorem yu:∀(n:Nat) (ws:List Nat),(words n ws).length=ws.length+n
 | 0,_=>rfl
 | n + 1,ws=>by show (words n (ws++[oW ws])).length=_;rw[yu n,List.length_append];simp;omega
theorem Ns:∀(n:Nat) (ws:List Nat),words (n + 1) ws=words n ws++[oW (words n ws)]
 | 0,_=>rfl
 | n + 1,ws=>by show words (n + 1) (ws++[oW ws])=_;rw[Ns n];rfl
theorem ady (p q r s:Nat):Wd (Uf p q r s):=Wd.mod _
theorem ag8 (n:Nat):∀{ws:List Nat},(∀x∈ws,Wd x)→∀x∈words n ws,Wd x:=by
 induction n with
 | zero=>exact fun h=>h
 | succ n ih=>
  intro ws h;refine ih (ws:=ws++[oW ws]) fun x hx=> ?_
  rcases List.mem_append.1 hx with h' | h'
  ·exact h x h'
  ·obtain rfl:x = oW ws:=by simpa using h'
   exact ady _ _ _ _
structure V8 where
 (a b c d e f g h:Nat)
def V8.ok (v:V8):Prop:=Wd v.a∧Wd v.b∧Wd v.c∧Wd v.d∧Wd v.e∧Wd v.f∧Wd v.g∧Wd v.h
def UL (x:Nat):Nat:=4294967295-x
def t1 (v:V8) (k:Nat):Nat:=(((v.h + sig 6 11 25 v.e) % 4294967296+((v.e &&&v.f) ^^^ (UL v.e &&&v.g))) % 4294967296+k) % 4294967296
def tOf (v:V8) (k w:Nat):Nat:=(t1 v k+w) % 4294967296
def uOf (v:V8):Nat:=(sig 2 13 22 v.a + ((v.a &&&v.b) ^^^ (v.a &&&v.c) ^^^ (v.b &&&v.c))) % 4294967296
def WV (v:V8) (k w:Nat):V8:=⟨(tOf v k w + uOf v) % 4294967296,v.a,v.b,v.c,(v.d + tOf v k w) % 4294967296,v.e,v.f,v.g⟩
def rC (ks ws:List Nat):Nat→V8→V8
 | 0,v=>v
 | n + 1,v=>WV (rC ks ws n v) (ks.getD n 0) (ws.getD n 0)
def anU (v u:V8):V8:=⟨(v.a + u.a) % 4294967296,(v.b + u.b) % 4294967296,(v.c + u.c) % 4294967296,(v.d + u.d) % 4294967296,(v.e + u.e) % 4294967296,(v.f + u.f) % 4294967296,(v.g + u.g) % 4294967296,(v.h + u.h) % 4294967296⟩
theorem ahU {v:V8} (h:v.ok) (k w:Nat):(WV v k w).ok:=
 ⟨Wd.mod _,h.1,h.2.1,h.2.2.1,Wd.mod _,h.2.2.2.2.1,h.2.2.2.2.2.1,h.2.2.2.2.2.2.1⟩
theorem ZP {ks ws:List Nat} {v:V8} (h:v.ok) (n:Nat):(rC ks ws n v).ok:=by
 induction n with
 | zero=>exact h
 | succ n ih=>exact ahU ih _ _
theorem anS (v u:V8):(anU v u).ok:=
 ⟨Wd.mod _,Wd.mod _,Wd.mod _,Wd.mod _,Wd.mod _,Wd.mod _,Wd.mod _,Wd.mod _⟩
def be4 (b:List Nat) (i:Nat):Nat:=b.getD (4*i) 0*16777216+b.getD (4*i + 1) 0*65536+b.getD (4*i + 2) 0*256+b.getD (4*i + 3) 0
def dD (b:List Nat):List Nat:=(List.range 16).map (be4 b)
def pJ:List Nat:=[
 0x428a2f98,0x71374491,0xb5c0fbcf,0xe9b5dba5,0x3956c25b,0x59f111f1,0x923f82a4,0xab1c5ed5,
 0xd807aa98,0x12835b01,0x243185be,0x550c7dc3,0x72be5d74,0x80deb1fe,0x9bdc06a7,0xc19bf174,
 0xe49b69c1,0xefbe4786,0x0fc19dc6,0x240ca1cc,0x2de92c6f,0x4a7484aa,0x5cb0a9dc,0x76f988da,
 0x983e5152,0xa831c66d,0xb00327c8,0xbf597fc7,0xc6e00bf3,0xd5a79147,0x06ca6351,0x14292967,
 0x27b70a85,0x2e1b2138,0x4d2c6dfc,0x53380d13,0x650a7354,0x766a0abb,0x81c2c92e,0x92722c85,
 0xa2bfe8a1,0xa81a664b,0xc24b8b70,0xc76c51a3,0xd192e819,0xd6990624,0xf40e3585,0x106aa070,
 0x19a4c116,0x1e376c08,0x2748774c,0x34b0bcb5,0x391c0cb3,0x4ed8aa4a,0x5b9cca4f,0x682e6ff3,
 0x748f82ee,0x78a5636f,0x84c87814,0x8cc70208,0x90befffa,0xa4506ceb,0xbef9a3f7,0xc67178f2]
def oZ:V8:=⟨0x6a09e667,0xbb67ae85,0x3c6ef372,0xa54ff53a,0x510e527f,0x9b05688c,0x1f83d9ab,0x5be0cd19⟩
def EF (v:V8) (b:List Nat):V8:=anU v (rC pJ (words 48 (dD b)) 64 v)
theorem RS:oZ.ok:=by unfold V8.ok oZ Wd;decide
theorem aix (v:V8) (b:List Nat):(EF v b).ok:=anS _ _
def blocks:Nat→V8→List Nat→V8
 | 0,v,_=>v
 | n + 1,v,l=>blocks n (EF v (l.take 64)) (l.drop 64)
theorem TW (n:Nat):∀{v:V8} (l:List Nat),v.ok→(blocks n v l).ok:=by
 induction n with
 | zero=>exact fun _ h=>h
 | succ n ih=>exact fun _ _=>ih _ (aix _ _)
theorem O_ (m n:Nat):∀(v:V8) (l:List Nat),blocks (m + n) v l = blocks n (blocks m v l) (l.drop (64*m)):=by
 induction m with
 | zero=>intro v l;rw[Nat.zero_add];rfl
 | succ m ih=>
  intro v l;rw[show m + 1+n = (m + n)+1 by omega];show blocks (m + n) (EF v (l.take 64)) (l.drop 64)=blocks n (blocks m (EF v (l.take 64)) (l.drop 64)) _
  rw[ih,List.drop_drop,show 64+64*m = 64*(m + 1) by omega]
theorem abZ (n:Nat):∀(v:V8) (l r:List Nat),64*n≤l.length→blocks n v (l ++r)=blocks n v l:=by
 induction n with
 | zero=>exact fun _ _ _ _=>rfl
 | succ n ih=>
  intro v l r h;show blocks n (EF v ((l ++r).take 64)) ((l ++r).drop 64)=blocks n (EF v (l.take 64)) (l.drop 64)
  rw[List.take_append_of_le_length ω,List.drop_append_of_le_length ω,ih _ _ r (by rw[List.length_drop];omega)]
def be8 (n:Nat):List Nat:=(List.range 8).map fun i=>n / 2 ^ (56-8*i) % 256
def zeros (n:Nat):Nat:=(119-n % 64) % 64
def rV (n:Nat):List Nat:=128::(List.replicate (zeros n) 0++be8 (n * 8 % 18446744073709551616))
theorem alY (n:Nat):(n + (rV n).length) % 64=0∧(rV n).length=zeros n + 9:=by
 have:(rV n).length=zeros n + 9:=by simp[rV,be8]
 refine⟨?_,this⟩;rw[this];unfold zeros;omega
def CV (v:V8):List Nat:=[v.a,v.b,v.c,v.d,v.e,v.f,v.g,v.h].flatMap fun x=>[x / 16777216 % 256,x / 65536 % 256,x / 256 % 256,x % 256]
def apm (l:List Nat):V8:=blocks ((l ++rV l.length).length / 64) oZ (l ++rV l.length)
def sha (l:List Nat):List Nat:=CV (apm l)
theorem YJ (s:V8) (p:List Nat) {l r:List Nat} {m:Nat} (h:l.length=64*m + r.length) (hr:l.drop (64*m)=r) :
 blocks ((l ++p).length / 64) s (l ++p)=blocks ((r ++p).length / 64) (blocks m s l) (r ++p):=by
 have e1:(l ++p).length / 64=m + (r ++p).length / 64:=by
  rw[List.length_append,List.length_append,h];omega
 have e3:=abZ m s l p ω;have e4:(l ++p).drop (64*m)=r ++p:=by rw[List.drop_append_of_le_length ω,hr]
 rw[e1,O_,e3,e4]
theorem adU {l r:List Nat} {m:Nat} (h:l.length=64*m + r.length) (hr:l.drop (64*m)=r) :
 apm l = blocks ((r ++rV l.length).length / 64) (blocks m oZ l) (r ++rV l.length):=YJ oZ (rV l.length) h hr
end Go.Proofs.YtbhikkgpcmkonaaGreatDoor
namespace Go.Proofs.YtbhikkgpcmkonaaGreatDoor
open Go.RowKit
theorem aP {a b:Bool} (h:a = b):Ending.returned (.bool a)=.returned (.bool b):=by rw[h]
theorem og {k:IntKind} {a b:Int} (h:a = b):Ending.returned (.int k a)=.returned (.int k b):=by rw[h]
def ah (w w':World):Prop:=Below w.heap.size w w'
theorem ah.below {w w':World} (h:ah w w'):Below w.heap.size w w':=h
theorem ah.of {w w':World} (h:Below w.heap.size w w'):ah w w':=h
theorem ah.size {w w':World} (h:ah w w'):w.heap.size≤w'.heap.size:=Below.size h
theorem ah.lt {w w':World} {o:Obj} (h:ah (w.alloc o) w'):w.heap.size<w'.heap.size:=by have:=Below.size h;simp at this;omega
theorem ah.refl (w:World):ah w w:=Below.refl _ _
theorem ah.trans {a b c:World} (h:ah a b) (k:ah b c):ah a c:=Below.trans h (Below.mono k (Below.size h))
theorem ah.iw {a b c:World} (h:ah a b) (k:Below a.heap.size b c):ah a c:=Below.trans h k
theorem ah.drew {a b:World} (h:ah a b):ah a b.drew:=Below.drew h
theorem ah.drewN {a b:World} (h:ah a b) (n:Nat):ah a (b.drewN n):=below_drewN h n
theorem ah.alloc {a b:World} (h:ah a b) (o:Obj):ah a (b.alloc o):=Below.alloc h (Below.size h) o
theorem ah.setCell {a b:World} (h:ah a b) {p:Addr} (hp:a.heap.size≤p.block) (u:Value):ah a (b.setCell p u):=Below.setCell h hp u
theorem ah.cell {w w':World} (h:ah w w') {p:Addr} {v:Value} (hv:w.cell? p = some v):w'.cell? p = some v:=
 (Below.cell h (World.block_lt_of_cell? w p hv)).trans hv
theorem γ {a b:World} (h:ah a b:=by
 repeat (first | assumption | exact ah.refl _ | apply ah.drew | apply ah.drewN | refine ah.alloc ?_ _ | (refine ah.setCell ?_ (by first | (simp;done) | (simp;omega) | omega) _) | (refine ah.trans ?_ (by assumption)))):ah a b:=h
theorem Γ {a b:World} (h:ah a b:=by
 repeat (first | with_reducible assumption | with_reducible exact ah.refl _ | (with_reducible refine ah.setCell ?_ (by first | (simp;done) | (simp;omega) | omega) _) | with_reducible refine ah.alloc ?_ _ | with_reducible apply ah.drew)):ah a b:=h
theorem π {Q:Exit→Act→World→Prop} (h:∀c a d v w,Q (.panic c) (Act.put a d v) w→Q (.panic c) a w:=by
 first | assumption | (intro c a d v w h;cases d <;> exact h)):∀c a d v w,Q (.panic c) (Act.put a d v) w→Q (.panic c) a w:=h
theorem bQ {W w1:World} (hb:ah W w1):(∀b o,b < W.heap.size→w1.cell? ⟨b,o,none⟩=W.cell? ⟨b,o,none⟩)∧(∀b o,b < W.heap.size→w1.frozen? ⟨b,o,none⟩=W.frozen? ⟨b,o,none⟩):=
 ⟨fun b o h=>Below.cell (p:=⟨b,o,none⟩) hb h,fun b o h=>Below.frozen (p:=⟨b,o,none⟩) hb h⟩
theorem Below.Nb {B:Nat} {x y:World} {o o':Obj} (h:Below B x y) (hs:x.heap.size=y.heap.size) (hB:B≤x.heap.size):Below B (x.alloc o) (y.alloc o'):=
 ⟨h.os,h.tape,h.output,by simp[hs],fun k hk=>(Below.heap_alloc y o' k ω).trans ((h.block k hk).trans (Below.heap_alloc x o k ω).symm)⟩
section
variable {P:Program} {ops:Array Oper} {Q:Exit→Act→World→Prop} {S:World→Prop}
def wP (P:Program) (ops:Array Oper) (S:World→Prop) (Q:Exit→Act→World→Prop):List (Nat×Bool)→Act→World→Prop
 | [],a,w=>Q .normal a w
 | (i,true)::r,a,w=>∃o v,ops[i]? = some o∧YieldsIf P ops S o v a∧wP P ops S Q r (a.put o.dst v) w
 | (i,false)::r,a,w=>wpOp P ops Q i (fun a' w'=>S w'∧wP P ops S Q r a' w') a w
def Xq (ops:Array Oper):List (Nat×Bool)→Array Bool→Bool
 | [],l=>(Region.ready .any ops l).isEmpty
 | (i,true)::r,l=>(Region.ready .any ops l).contains i &&Region.free .any ops l i &&Xq ops r (l.setIfInBounds i true)
 | (i,false)::r,l=>decide (Region.ready .any ops l = [i])&&Xq ops r (l.setIfInBounds i true)
theorem xQ (BX:Region.noSelect ops=true) (hQ:∀c a d v w,Q (.panic c) (Act.put a d v) w→Q (.panic c) a w) :
 ∀(r:List (Nat×Bool)) (n:Nat) (l:Array Bool) (a:Act) (w:World),S w→Xq ops r l = true→wP P ops S Q r a w→wpAnyH P .any ops Q S (r.length+n) l a w
 | [],n,l,a,w,_,hB,h=>wpAnyH_done (by simpa[Xq] using hB) h _
 | (i,true)::r,n,l,a,w,hS,hB,h=>by
  simp only[Xq,Bool.and_eq_true] at hB;obtain⟨o,v,ho,hy,h'⟩:=h;rw[show ((i,true)::r).length+n = (r.length+n)+1 by simp only[List.length_cons];omega];exact wpAnyH_take ho BX hB.1.2 hB.1.1 (fun c a w=>hQ c a o.dst v w) hy hS (xQ BX hQ r n _ _ _ hS hB.2 h')
 | (i,false)::r,n,l,a,w,_,hB,h=>by
  simp only[Xq,Bool.and_eq_true,decide_eq_true_eq] at hB;rw[show ((i,false)::r).length+n = (r.length+n)+1 by simp only[List.length_cons];omega];refine wpAnyH_all hB.1 σ fun j hj=> ?_
  have V5:j = i:=by simpa using hj
  subst V5;exact wpOp_mono (fun a' w' h'=>⟨h'.1,xQ BX hQ r n _ _ _ h'.1 hB.2 h'.2⟩) h
theorem QH {id:Nat} {a:Act} {w:World} {l:List Oper} (r:List (Nat×Bool)) (hm:P.follows .mixedOrders=true) (BX:Region.noSelect l.toArray=true)
 (hlen:r.length=l.length) (hB:Xq l.toArray r (Array.replicate l.length false)=true) (hQ:∀c a d v w,Q (.panic c) (Act.put a d v) w→Q (.panic c) a w) (hS:S w.drew)
 (h:S w.drew→wP P l.toArray S Q r a w.drew):(Code.region id l.toArray true).wp P Q a w:=by
 refine wp_region_held_drew hm hS fun Zc=> ?_
 have:=xQ BX hQ r 0 (Array.replicate l.length false) a w.drew Zc hB (h Zc);simpa[hlen] using this
theorem dw {id:Nat} {a:Act} {w:World} {l:List Oper} (r:List (Nat×Bool)) (hm:P.follows .mixedOrders=true) (BX:Region.noSelect l.toArray=true)
 (hlen:r.length=l.length) (hB:Xq l.toArray r (Array.replicate l.length false)=true) (hQ:∀c a d v w,Q (.panic c) (Act.put a d v) w→Q (.panic c) a w)
 (h:wP P l.toArray (ah w) Q r a w.drew):(Code.region id l.toArray true).wp P Q a w:=
 QH (S:=ah w) r hm BX hlen hB hQ (ah.refl w).drew (fun _=>h)
theorem acj {i:Nat} {o:Oper} {r:List (Nat×Bool)} {a:Act} {w:World} (ho:ops[i]? = some o)
 (h:∀K:Act→Prop,(∀a,wP P ops S Q r a w→K a)→if Region.wanted o (yielded ops a.tmps)=true then ∃v,(∀wq,S wq→(execOp a.eval o).run P wq=.ok (.value v) wq)∧K (a.put o.dst v) else K (a.put o.dst undef)) :
 wP P ops S Q ((i,true)::r) a w:=by
 have h':=h _ (fun _ h=>h);split at h'
 ·rename_i hw;obtain⟨v,h1,h2⟩:=h';exact⟨o,v,ho,.inl ⟨hw,h1⟩,h2⟩
 ·rename_i hw;exact⟨o,undef,ho,.inr ⟨by simpa using hw,rfl⟩,h'⟩
theorem gK {P:Program} {ops:Array Oper} {S:World→Prop} {Q:Exit→Act→World→Prop} {r:List (Nat×Bool)} {w:World} {i:Nat} {a a':Act} (k:wP P ops S Q r a' w) (ho:(ops[i]?).isSome=true:=by rfl)
 (h:∀o,ops[i]? = some o→∀K':Act→Prop,Shut (K' a')→if Region.wanted o (yielded ops a.tmps)=true then ∃v,(∀wq,S wq→(execOp a.eval o).run P wq=.ok (.value v) wq)∧K' (a.put o.dst v) else K' (a.put o.dst undef):=by
  intro o ho;obtain rfl:=Option.some.inj ho;clear ho;intro K hK;go_simp;(try go_bits);first | (exact hK.out) | (apply Exists.intro;refine And.intro ?_ ?_;(intro wq eG;first | (go_simp;done) | ((try go_simp);(try simp only[↓IntWalk.iteOmega]);(try go_bits);rfl) | (obtain⟨nR,mY⟩:=bQ eG;go_simp;done) | (obtain⟨nR,mY⟩:=bQ eG;(try go_simp);(try simp only[↓IntWalk.iteOmega]);(try go_bits);rfl));exact hK.out)):wP P ops S Q ((i,true)::r) a w:=by
 obtain⟨o,ho⟩:=Option.isSome_iff_exists.1 ho;exact acj ho fun K' hK=>h o ho K' (hK _ k)
theorem jL {i:Nat} {o:Oper} {r:List (Nat×Bool)} {a:Act} {w:World} (ho:ops[i]? = some o)
 (h:∀K':Act→World→Prop,Shut (∀a w,S w→(S w→wP P ops S Q r a w)→K' a w)→if Region.wanted o (yielded ops a.tmps)=true then Oper.wp P o a w K' Q else K' (a.put o.dst undef) w) :
 wP P ops S Q ((i,false)::r) a w:=
 wpOp_step ho (fun K' hK=>h K' (fun a w hS hW=>hK a w ⟨hS,hW hS⟩))
theorem g_ {a:Act} {w:World} (h:Q .normal a w):wP P ops S Q [] a w:=h
end
def bW {α:Type} (w:World) (k:Nat) (enc:α→List Value) (A:Option Addr) (n:Nat) (xs:List α):Prop:=
 xs.length=n∧(0<n→∃b off,A=some ⟨b,off,none⟩∧b < w.heap.size∧∀i (h:i < xs.length) j u,(enc xs[i])[j]? = some u→w.cell? ⟨b,off+i * k+j,none⟩=some u)
section
variable {α:Type} {w w':World} {k n:Nat} {enc:α→List Value} {A:Option Addr} {xs:List α}
theorem bW.iH:bW w k enc A 0 ([]:List α):=⟨rfl,fun h=>absurd h ω⟩
theorem bW.keep (h:bW w k enc A n xs) (hg:ah w w'):bW w' k enc A n xs:=
 ⟨h.1,fun hn=>by
  obtain⟨b,off,e,hb,hc⟩:=h.2 hn;exact⟨b,off,e,Nat.lt_of_lt_of_le hb hg.size,fun i hi j u hu=>hg.cell (hc i hi j u hu)⟩⟩
theorem bW.at_ (h:bW w k enc A n xs) {i:Nat} (hi:i < n):∃b off x,A=some ⟨b,off,none⟩∧b < w.heap.size∧xs[i]? = some x∧∀j u,(enc x)[j]? = some u→w.cell? ⟨b,off+i * k+j,none⟩=some u:=by
 obtain⟨b,off,e,hb,hc⟩:=h.2 ω;have hl:i < xs.length:=by rw[h.1];exact hi
 exact⟨b,off,xs[i],e,hb,List.getElem?_eq_getElem hl,hc i hl⟩
theorem bW.take (h:bW w k enc A n xs) {m:Nat} (hm:m≤n):bW w k enc A m (xs.take m):=
 ⟨by rw[List.length_take,h.1];omega,fun hn=>by
  obtain⟨b,off,e,hb,hc⟩:=h.2 ω;exact⟨b,off,e,hb,fun i hi j u hu=>hc i (by rw[List.length_take] at hi;omega) j u (by rw[List.getElem_take] at hu;exact hu)⟩⟩
end
structure eX (P:Program) (t e:TypeId) (k bytes:Nat):Prop where
 und:P.underlying t = some (.slice e)
 info:∃i z,P.info? e = some i∧i.zero=some z∧i.size=k∧i.bytes=bytes∧z.cells.size=k
 pos:0<k
theorem eX.mk' {P:Program} {t e:TypeId} {k bytes:Nat} {z:Value} (h1:P.underlying t = some (.slice e)) (h2:(P.info? e).map (fun i=>(i.zero,i.size,i.bytes))=some (some z,k,bytes)) (h3:z.cells.size=k) (h4:0<k):eX P t e k bytes:=by
 refine⟨h1,?_,h4⟩;cases hi:P.info? e with
 | none=>rw[hi] at h2;cases h2
 | some i=>
  rw[hi] at h2;simp only[Option.map_some,Option.some.injEq,Prod.mk.injEq] at h2;exact⟨i,z,rfl,h2.1,h2.2.1,h2.2.2,h3⟩
def cu {α:Type} (enc:α→List Value) (xs:List α):List Value:=xs.flatMap enc
theorem Yu {α:Type} (enc:α→List Value) (xs:List α) (x:α):cu enc (xs++[x])=cu enc xs++enc x:=by simp[cu]
theorem jc {α:Type} {enc:α→List Value} {k:Nat} (hk:∀x,(enc x).length=k) (xs:List α):(cu enc xs).length=xs.length*k:=by
 induction xs with
 | nil=>simp[cu]
 | cons x xs ih=>simp only[cu,List.flatMap_cons,List.length_append,List.length_cons,hk] at ih ⊢;rw[ih,Nat.add_mul];omega
theorem mG {α:Type} {enc:α→List Value} {k:Nat} (hk:∀x,(enc x).length=k):∀(xs:List α) (i:Nat) (h:i < xs.length) (j:Nat),j < k→(cu enc xs)[i * k+j]? = (enc xs[i])[j]?
 | x ::xs,0,_,j,hj=>by
  simp only[cu,List.flatMap_cons,List.getElem_cons_zero,Nat.zero_mul,Nat.zero_add];rw[List.getElem?_append_left (by rw[hk];exact hj)]
 | x ::xs,i + 1,h,j,hj=>by
  simp only[cu,List.flatMap_cons,List.getElem_cons_succ];rw[List.getElem?_append_right (by rw[hk,Nat.add_mul];omega),hk,show (i + 1)*k+j - k=i * k+j by rw[Nat.add_mul];omega];exact mG hk xs i (by simpa using h) j hj
def Own {α:Type} (w:World) (base:Nat) (e:TypeId) (k:Nat) (enc:α→List Value) (v:Value) (xs:List α):Prop:=w.ownsRow base e k v xs.length (cu enc xs)
section
variable {α:Type} {w w' a:World} {base k n B:Nat} {e:TypeId} {enc:α→List Value} {v:Value} {xs:List α}
theorem Own.iH (w:World) (base:Nat) (e:TypeId) (k:Nat) (enc:α→List Value):Own w base e k enc (.slice none 0 0) []:=World.ownsRow_nil w base e k
theorem Own.alloc (h:Own w base e k enc v xs) (o:Obj):Own (w.alloc o) base e k enc v xs:=World.ownsRow.alloc h o
theorem Own.grows (h:Own w base e k enc v xs) (hg:ah w w'):Own w' base e k enc v xs:=by
 refine⟨h.1,?_⟩;rcases h.2 with h2 | ⟨g,cap,cur,hv,hb,hh,r⟩
 ·exact .inl h2
 ·have hlt:g < w.heap.size:=by
   rcases Nat.lt_or_ge g w.heap.size with h | h
   ·exact h
   ·rw[Array.getElem?_eq_none h] at hh;cases hh
  exact .inr ⟨g,cap,cur,hv,hb,(hg.below.block g hlt).trans hh,r⟩
theorem Own.arr (h:Own w base e k enc v xs) (hk:∀x,(enc x).length=k):∃A c,v =.slice A xs.length c∧xs.length≤c∧c≤maxLen∧bW w k enc A xs.length xs:=by
 rcases h.2 with⟨rfl,hn⟩ | ⟨g,cap,cur,rfl,hb,hh,Cb,hcm,hcs,ht⟩
 ·refine⟨none,0,by rw[hn],ω,by simp[maxLen],rfl,fun h0=>ω⟩
 ·refine⟨some ⟨g,0,none⟩,cap,rfl,Cb,hcm,rfl,fun _=>⟨g,0,rfl,?_,fun i hi j u hu=> ?_⟩⟩
  ·rcases Nat.lt_or_ge g w.heap.size with h | h
   ·exact h
   ·rw[Array.getElem?_eq_none h] at hh;cases hh
  ·have hj:j < k:=by rw[←hk xs[i]];exact (List.getElem?_eq_some_iff.1 hu).1
   have h1:=mG hk xs i hi j hj;rw[hu] at h1;rw[←ht] at h1;have h2:cur.toList[i * k+j]? = some u:=by
    have hlt:i * k+j < xs.length*k:=by
     have:=Nat.mul_le_mul_right k (show i + 1≤xs.length from hi);rw[Nat.add_mul] at this;omega
    rwa [List.getElem?_take_of_lt hlt] at h1
   rw[Nat.zero_add];have h3:cur[i * k+j]? = some u:=by simpa using h2
   simp only[World.cell?,hh];simpa using h3
theorem Own.below (h:Own w base e k enc v xs) (hb:Below B a w) (hB:B≤base) (ha:B≤w.heap.size) (hg:w.grownBy w' v.ownBlock):Below B a w':=
 hb.grown hg ha (fun g hk=>Nat.le_trans hB (World.ownsRow.lt h g hk).1)
theorem Own.grown {P:Program} {ops:Array Oper} {o:Oper} {ac:Act} {K:Act→World→Prop} {Q:Exit→Act→World→Prop} {E:Prop} {x:α} {bytes c:Nat} {t:TypeId} (T:eX P t e k bytes) (hgd:o.guard=none) (s y:Operand)
 (ho:o.op=.call {callee:=.builtin .append,args:= #[s,y],argTypes:= #[t,t]}) (h:Own w base e k enc v xs) (hs:ac.eval s = v) (ad:Addr) (hy:ac.eval y =.slice (some ad) 1 c)
 (hlen:(enc x).length=k) (hnews:∀j u,(enc x)[j]? = some u→w.cell? (ad.add j)=some u) (h1:∀u∈enc x,u.oneCell'=true) (hbase:base≤w.heap.size) (h63:xs.length+1≤maxLen) (hbytes:(xs.length+1)*bytes≤140737488355328)
 (hK:∀v' w',Own w' base e k enc v' (xs++[x])→w.grownBy w' v.ownBlock→(v'.ownBlock=v.ownBlock∨v'.ownBlock=some w.heap.size)→K (ac.put o.dst v') w') :
 if Region.wanted o (yielded ops ac.tmps)=true then Oper.wp P o ac w K Q else E:=by
 rw[if_pos (by simp[Region.wanted,hgd])];obtain⟨i,z,hi,hz,hsz,hby,hzs⟩:=T.info;obtain⟨v',w',hr,h2,h3,_,h5⟩:=run_append_own_at (P:=P) w base t o.type e i z k bytes T.und hi hz hsz hby hzs T.pos v xs.length (cu enc xs) h ad 1 c (enc x) (by rw[hlen];omega) hnews h1 h63 hbytes hbase;unfold Oper.wp execOp;simp only[ho,resolve,invoke,builtin,Sem.run_bind,Sem.run_pure,Result.andThen_ok,List.map_toArray,List.map_cons,List.map_nil,hs,hy,hr];refine hK v' w' ?_ h3 h5;unfold Own;rw[Yu,List.length_append];exact h2
end
theorem dH {α:Type} {w:World} {base k:Nat} {e:TypeId} {enc:α→List Value} {v:Value} {xs:List α} {P:Program} {ops:Array Oper} {rest:List Oper} {o:Oper} {ac:Act} {Q:Exit→Act→World→Prop} {x:α} {bytes c:Nat} {t:TypeId} (T:eX P t e k bytes) (hgd:o.guard=none) (s y:Operand)
 (ho:o.op=.call {callee:=.builtin .append,args:= #[s,y],argTypes:= #[t,t]}) (h:Own w base e k enc v xs) (hs:ac.eval s = v) (ad:Addr) (hy:ac.eval y =.slice (some ad) 1 c)
 (hlen:(enc x).length=k) (hnews:∀j u,(enc x)[j]? = some u→w.cell? (ad.add j)=some u) (h1:∀u∈enc x,u.oneCell'=true) (hbase:base≤w.heap.size) (h63:xs.length+1≤maxLen) (hbytes:(xs.length+1)*bytes≤140737488355328)
 (hK:∀v' w',Own w' base e k enc v' (xs++[x])→w.grownBy w' v.ownBlock→(v'.ownBlock=v.ownBlock∨v'.ownBlock=some w.heap.size)→wpList P ops Q rest (ac.put o.dst v') w'):wpList P ops Q (o ::rest) ac w:=
 wpList_step fun _ hk=>Own.grown (ops:=ops) T hgd s y ho h hs ad hy hlen hnews h1 hbase h63 hbytes fun v' w' a b c=>hk _ _ (hK v' w' a b c)
theorem iK {w:World} {g:Nat} {cs:List Value} {t:TypeId} {fr:Nat×Nat} (h:w.heap[g]? = some (.cells cs.toArray t fr)):∀j u,cs[j]? = some u→w.cell? ((⟨g,0,none⟩:Addr).add j)=some u:=by
 intro j u hu;have:(⟨g,0,none⟩:Addr).add j = ⟨g,j,none⟩:=by unfold Addr.add;by_cases hj:j = 0 <;> simp[hj]
 rw[this];simp only[World.cell?,h];simpa using hu
section
variable {α:Type} {w w' a:World} {base k n B g cap:Nat} {e:TypeId} {enc:α→List Value} {v:Value} {xs:List α}
theorem Own.mk_ {cur:Array Value} (hk:∀x,(enc x).length=k) (KH:0<k) (hb:base≤g) (hh:w.heap[g]? = some (.cells cur e (0,0))) (Cb:xs.length≤cap) (hcm:cap≤maxLen) (hcs:cur.size=cap*k)
 (hc:∀q (h:q<xs.length) r,r < k→cur[q*k+r]? = (enc xs[q])[r]?):Own w base e k enc (.slice (some ⟨g,0,none⟩) xs.length cap) xs:=by
 refine⟨jc hk xs,.inr ⟨g,cap,cur,rfl,hb,hh,Cb,hcm,hcs,?_⟩⟩;apply List.ext_getElem?;intro t;by_cases ht:t < xs.length*k
 ·have hq:t / k<xs.length:=(Nat.div_lt_iff_lt_mul KH).2 ht;have hr:t % k<k:=Nat.mod_lt _ KH;have e1:t / k*k+t % k=t:=by rw[Nat.mul_comm];exact Nat.div_add_mod t k
  have h1:=hc _ hq _ hr;have h2:=mG hk xs _ hq _ hr;rw[e1] at h1 h2;rw[List.getElem?_take_of_lt ht,h2,←h1];simp
 ·rw[List.getElem?_eq_none (by simp[List.length_take];omega),List.getElem?_eq_none (by rw[jc hk];omega)]
theorem Own.tu (h:Own w base e k enc (.slice (some ⟨g,0,none⟩) n cap) xs) (hk:∀x,(enc x).length=k):∃cur,xs.length=n∧base≤g∧w.heap[g]? = some (.cells cur e (0,0))∧n≤cap∧cap≤maxLen∧cur.size=cap*k∧
 ∀q (h:q<xs.length) r,r < k→cur[q*k+r]? = (enc xs[q])[r]? :=by
 rcases h.2 with⟨h1,_⟩ | ⟨g',cap',cur,hv,hb,hh,Cb,hcm,hcs,ht⟩
 ·cases h1
 ·simp only[Value.slice.injEq,Option.some.injEq,Addr.mk.injEq,and_true] at hv;obtain⟨hg',hn,hc'⟩:=hv;subst hg';subst hn;subst hc';refine⟨cur,rfl,hb,hh,Cb,hcm,hcs,fun q hq r hr=> ?_⟩;rw[←mG hk xs q hq r hr,←ht,List.getElem?_take_of_lt (by have:=Nat.mul_le_mul_right k (show q+1≤xs.length from hq);rw[Nat.add_mul] at this;omega)];simp
theorem Own.len (h:Own w base e k enc (.slice (some ⟨g,0,none⟩) n cap) xs) (hk:∀x,(enc x).length=k):xs.length=n:=by
 obtain⟨_,h,_⟩:=h.tu hk;exact h
theorem Own.at_ (h:Own w base e k enc (.slice (some ⟨g,0,none⟩) n cap) xs) (hk:∀x,(enc x).length=k) {i:Nat} (hi:i < n):∃x,xs[i]? = some x∧(∀r u,(enc x)[r]? = some u→w.cell? ⟨g,i * k+r,none⟩=some u)∧∀r,w.frozen? ⟨g,r,none⟩=false:=by
 obtain⟨cur,hl,_,hh,_,_,hcs,hc⟩:=h.tu hk;refine⟨xs[i]'ω,List.getElem?_eq_getElem ω,fun r u hu=> ?_,fun r=>by simp[World.frozen?,hh]⟩;have hr:r < k:=by rw[←hk (xs[i]'ω)];exact (List.getElem?_eq_some_iff.1 hu).1
 have e1:=hc i ω r hr;rw[hu] at e1;simp only[World.cell?,hh];simpa using e1
theorem Own.cut (h:Own w base e k enc (.slice (some ⟨g,0,none⟩) n cap) xs) (hk:∀x,(enc x).length=k) (KH:0<k) {i:Nat} (hi:i≤n):Own w base e k enc (.slice (some ⟨g,0,none⟩) i cap) (xs.take i):=by
 obtain⟨cur,hl,hb,hh,Cb,hcm,hcs,hc⟩:=h.tu hk;have hl':(xs.take i).length=i:=by rw[List.length_take];omega
 have:=Own.mk_ (xs:=xs.take i) (cap:=cap) hk KH hb hh ω hcm hcs (fun q hq r hr=>by
  rw[hc q ω r hr,List.getElem_take])
 rwa [hl'] at this
theorem EK (g:Nat) (e:TypeId):∀(vs:List Value) (o:Nat) (w:World) (cur:Array Value),w.heap[g]? = some (.cells cur e (0,0))→o + vs.length≤cur.size→
 ∃cur',(w.setCells g o vs).heap[g]? = some (.cells cur' e (0,0))∧cur'.size=cur.size∧∀t:Nat,cur'[t]? = if o≤t∧t < o + vs.length then vs[t - o]? else cur[t]?
 | [],o,w,cur,h,_=>⟨cur,h,rfl,fun t=>by rw[if_neg σ]⟩
 | v ::r,o,w,cur,h,hl=>by
  simp only[List.length_cons] at hl;have h1:(w.setCell ⟨g,o,none⟩ v).heap[g]? = some (.cells (cur.setIfInBounds o v) e (0,0)):=by
   simp[World.setCell,Array.getElem?_modify,h]
  obtain⟨cur',h2,h3,h4⟩:=EK g e r (o + 1) _ _ h1 (by simp;omega);refine⟨cur',h2,by simpa using h3,fun t=> ?_⟩;rw[h4 t];by_cases ht:t = o
  ·subst ht;rw[if_neg ω,if_pos σ,Array.getElem?_setIfInBounds];simp;omega
  ·by_cases h5:o + 1≤t∧t < o + 1+r.length
   ·rw[if_pos h5,if_pos (by simp;omega),show t - o = (t - (o + 1))+1 by omega];simp
   ·rw[if_neg h5,if_neg (by simp;omega)];simp[Ne.symm ht]
theorem Own.bD (h:Own w base e k enc (.slice (some ⟨g,0,none⟩) n cap) xs) (hk:∀x,(enc x).length=k) (KH:0<k) {i:Nat} (hi:i < n) (x:α) :
 Own (w.setCells g (i * k) (enc x)) base e k enc (.slice (some ⟨g,0,none⟩) n cap) (xs.set i x):=by
 obtain⟨cur,hl,hb,hh,Cb,hcm,hcs,hc⟩:=h.tu hk;have hlt:i * k+k≤cap*k:=by have:=Nat.mul_le_mul_right k (show i + 1≤cap by omega);rw[Nat.add_mul] at this;omega
 obtain⟨cur',h1,h2,h3⟩:=EK g e (enc x) (i * k) w cur hh (by rw[hk];omega);have hl':(xs.set i x).length=n:=by rw[List.length_set];exact hl
 have:=Own.mk_ (xs:=xs.set i x) (cap:=cap) hk KH hb h1 ω hcm ω (fun q hq r hr=>by
  rw[h3];rw[List.getElem_set];by_cases hq':i = q
  ·subst hq';rw[if_pos (by rw[hk];omega),if_pos rfl,show i * k+r - i * k=r by omega]
  ·rw[if_neg hq',if_neg (by
    rw[hk];rintro⟨h4,h5⟩;rcases Nat.lt_or_ge q i with h6 | h6
    ·have:=Nat.mul_le_mul_right k (show q+1≤i from h6);rw[Nat.add_mul] at this;omega
    ·have:=Nat.mul_le_mul_right k (show i + 1≤q by omega);rw[Nat.add_mul] at this;omega)]
   exact hc q ω r hr)
 rwa [hl'] at this
theorem Aw (g:Nat):∀(a b:List Value) (o:Nat) (w:World),w.setCells g o (a ++b)=(w.setCells g o a).setCells g (o + a.length) b
 | [],b,o,w=>by simp[World.setCells]
 | x ::a,b,o,w=>by simp only[List.cons_append,World.setCells,List.length_cons];rw[Aw g a b,show o + 1+a.length=o + (a.length+1) by omega]
theorem Own.clear_ (hk:∀x,(enc x).length=k) (KH:0<k) (z:α):∀(m i:Nat) (w:World) (xs:List α),Own w base e k enc (.slice (some ⟨g,0,none⟩) n cap) xs→i + m = n→
 ∃ys,Own (w.setCells g (i * k) (cu enc (List.replicate m z))) base e k enc (.slice (some ⟨g,0,none⟩) n cap) ys∧ys.take i = xs.take i
 | 0,i,w,xs,h,_=>⟨xs,by simpa[cu,World.setCells] using h,rfl⟩
 | m + 1,i,w,xs,h,hi=>by
  have h1:=h.bD hk KH (i:=i) ω z;obtain⟨ys,h2,h3⟩:=Own.clear_ hk KH z m (i + 1) _ _ h1 ω;refine⟨ys,?_,?_⟩
  ·have:cu enc (List.replicate (m + 1) z)=enc z ++cu enc (List.replicate m z):=by simp[cu,List.replicate_succ]
   rw[this,Aw,hk,show i * k+k=(i + 1)*k by rw[Nat.add_mul];omega];exact h2
  ·have:=congrArg (List.take i) h3;rw[List.take_take,List.take_take,Nat.min_eq_left ω] at this;rw[this];rw[List.take_set_of_le ω]
theorem Below.setCells {B:Nat} {a:World} {g:Nat} (hg:B≤g):∀(vs:List Value) (o:Nat) (w:World),Below B a w→Below B a (w.setCells g o vs)
 | [],_,_,h=>h
 | _ ::r,o,_,h=>Below.setCells hg r (o + 1) _ (Below.setCell h (p:=⟨g,o,none⟩) hg _)
theorem PX {z:α} {m:Nat} (hk:∀x,(enc x).length=k) (KH:0<k):(Builtin.zeroCells (enc z).toArray m).toList=cu enc (List.replicate m z):=by
 apply List.ext_getElem?;intro t;have hlen:=jc hk (List.replicate m z);rw[List.length_replicate] at hlen;by_cases ht:t < m * k
 ·have hq:t / k<m:=(Nat.div_lt_iff_lt_mul KH).2 ht;have hr:t % k<k:=Nat.mod_lt _ KH;have e1:t / k*k+t % k=t:=by rw[Nat.mul_comm];exact Nat.div_add_mod t k
  have h2:=mG hk (List.replicate m z) (t / k) (by rw[List.length_replicate];exact hq) _ hr;rw[e1,List.getElem_replicate] at h2;rw[h2];simp only[Builtin.zeroCells,List.size_toArray,hk,Array.toList_map,Array.toList_range,List.getElem?_map];rw[List.getElem?_range ht];simp only[Option.map_some];rw[List.getElem?_eq_getElem (by rw[hk];exact hr)];simp[hk,hr]
 ·rw[List.getElem?_eq_none (by simp[Builtin.zeroCells,hk];omega),List.getElem?_eq_none ω]
theorem Own.R_ {P:Program} {t ty:TypeId} {z:α} {zv:Value} {i c:Nat} (h:Own w base e k enc (.slice (some ⟨g,0,none⟩) n cap) xs) (hk:∀x,(enc x).length=k) (KH:0<k) (h1:∀x,∀u∈enc x,u.oneCell'=true)
 (ht:P.underlying t = some (.slice e)) (hz:∀w,(zeroValue e).run P w =.ok zv w) (hzc:zv.cells=(enc z).toArray) (hi:i < n) :
 (Builtin.clear_ #[t] ty #[.slice (some ⟨g,i * k,none⟩) (n - i) c]).run P w =.ok (.tuple #[]) (w.setCells g (i * k) (cu enc (List.replicate (n - i) z))):=by
 obtain⟨cur,hl,hb,hh,Cb,hcm,hcs,hc⟩:=h.tu hk;have hlen:=jc hk (List.replicate (n - i) z);rw[List.length_replicate] at hlen;have hle:i * k+(n - i)*k≤cur.size:=by
  rw[hcs,←Nat.add_mul];exact Nat.mul_le_mul_right k ω
 have hst:=run_storeCells_cells (P:=P) g (i * k) (cu enc (List.replicate (n - i) z)) 0 w
  (fun j hj=>by
   simp[World.cell?,hh];omega)
  (fun j hj=>by simp[World.frozen?,hh])
  (fun u hu=>by
   simp only[cu,List.mem_flatMap] at hu;obtain⟨x,_,hx⟩:=hu;exact h1 x u hx)
 simp only[Nat.add_zero] at hst;obtain⟨m,hm⟩:∃m,n - i = m + 1:=⟨n - i - 1,ω⟩;rw[hm] at hst ⊢;simp only[Builtin.clear_];simp[run_underlying ht,hz,hzc,PX hk KH,hst]
theorem Own.ajW {P:Program} {ops:Array Oper} {o:Oper} {ac:Act} {K:Act→World→Prop} {Q:Exit→Act→World→Prop} {E:Prop} {ys:List α} {m bytes c:Nat} {t:TypeId} (T:eX P t e k bytes) (hgd:o.guard=none) (s y:Operand)
 (ho:o.op=.call {callee:=.builtin .append,args:= #[s,y],argTypes:= #[t,t]}) (h:Own w base e k enc v xs) (hs:ac.eval s = v) (ad:Addr) (hy:ac.eval y =.slice (some ad) m c) (kC:bW w k enc (some ad) m ys)
 (hk:∀x,(enc x).length=k) (h1:∀x,∀u∈enc x,u.oneCell'=true) (hbase:base≤w.heap.size) (h63:xs.length+m≤maxLen) (hbytes:(xs.length+m)*bytes≤140737488355328)
 (hK:∀v' w',Own w' base e k enc v' (xs++ys)→w.grownBy w' v.ownBlock→(v'.ownBlock=v.ownBlock∨v'.ownBlock=some w.heap.size)→K (ac.put o.dst v') w') :
 if Region.wanted o (yielded ops ac.tmps)=true then Oper.wp P o ac w K Q else E:=by
 rw[if_pos (by simp[Region.wanted,hgd])];obtain⟨i,z,hi,hz,hsz,hby,hzs⟩:=T.info;have hnews:∀j u,(cu enc ys)[j]? = some u→w.cell? (ad.add j)=some u:=by
  intro j u hu;have hj:=(List.getElem?_eq_some_iff.1 hu).1;rw[jc hk] at hj;have hm:0<ys.length:=by
   rcases Nat.eq_zero_or_pos ys.length with h0 | h0
   ·rw[h0] at hj;omega
   ·exact h0
  obtain⟨b,off,e1,_,hc⟩:=kC.2 (by rw[←kC.1];exact hm);have e2:j / k*k+j % k=j:=by rw[Nat.mul_comm];exact Nat.div_add_mod j k
  have hq:j / k<ys.length:=(Nat.div_lt_iff_lt_mul T.pos).2 hj;have h2:=mG hk ys _ hq _ (Nat.mod_lt j T.pos);rw[e2,hu] at h2;have h3:=hc _ hq _ u h2.symm;rw[show off+j / k*k+j % k=off+j by omega] at h3;injection e1 with e1
  subst e1;have:(⟨b,off,none⟩:Addr).add j = ⟨b,off+j,none⟩:=by unfold Addr.add;by_cases hj:j = 0 <;> simp[hj]
  rw[this];exact h3
 obtain⟨v',w',hr,h2,h3,_,h5⟩:=run_append_own_at (P:=P) w base t o.type e i z k bytes T.und hi hz hsz hby hzs T.pos v xs.length (cu enc xs) h ad m c (cu enc ys) (by rw[jc hk,kC.1]) hnews (fun u hu=>by
  simp only[cu,List.mem_flatMap] at hu;obtain⟨x,_,hx⟩:=hu;exact h1 x u hx) h63 hbytes hbase
 unfold Oper.wp execOp;simp only[ho,resolve,invoke,builtin,Sem.run_bind,Sem.run_pure,Result.andThen_ok,List.map_toArray,List.map_cons,List.map_nil,hs,hy,hr];refine hK v' w' ?_ h3 h5;unfold Own;rw[List.length_append,kC.1];have:cu enc (xs++ys)=cu enc xs++cu enc ys:=by simp[cu]
 rw[this];exact h2
end
theorem nZ {α:Type} {w:World} {base k:Nat} {e:TypeId} {enc:α→List Value} {v:Value} {xs:List α} {P:Program} {ops:Array Oper} {rest:List Oper} {o:Oper} {ac:Act} {Q:Exit→Act→World→Prop} {ys:List α} {m bytes c:Nat} {t:TypeId} (T:eX P t e k bytes) (hgd:o.guard=none) (s y:Operand)
 (ho:o.op=.call {callee:=.builtin .append,args:= #[s,y],argTypes:= #[t,t]}) (h:Own w base e k enc v xs) (hs:ac.eval s = v) (ad:Addr) (hy:ac.eval y =.slice (some ad) m c) (kC:bW w k enc (some ad) m ys)
 (hk:∀x,(enc x).length=k) (h1:∀x,∀u∈enc x,u.oneCell'=true) (hbase:base≤w.heap.size) (h63:xs.length+m≤maxLen) (hbytes:(xs.length+m)*bytes≤140737488355328)
 (hK:∀v' w',Own w' base e k enc v' (xs++ys)→w.grownBy w' v.ownBlock→(v'.ownBlock=v.ownBlock∨v'.ownBlock=some w.heap.size)→wpList P ops Q rest (ac.put o.dst v') w'):wpList P ops Q (o ::rest) ac w:=
 wpList_step fun _ dV=>Own.ajW (ops:=ops) T hgd s y ho h hs ad hy kC hk h1 hbase h63 hbytes fun v' w' a b c=>dV _ _ (hK v' w' a b c)
def aF (w:World) (g:Nat) (t:TypeId) (cs:Array Value):Prop:=w.heap[g]? = some (.cells cs t (0,0))
section
variable {w w':World} {g:Nat} {t:TypeId} {cs:Array Value}
theorem aF.lt (h:aF w g t cs):g < w.heap.size:=by
 rcases Nat.lt_or_ge g w.heap.size with hlt | qA
 ·exact hlt
 ·unfold aF at h;rw[Array.getElem?_eq_none qA] at h;cases h
theorem aF.cell (h:aF w g t cs) (i:Nat):w.cell? ⟨g,i,none⟩=cs[i]? :=by unfold aF at h;simp[World.cell?,h]
theorem aF.c0 {w:World} {g:Nat} {t:TypeId} {a0:Value} {l:List Value} (h:aF w g t (a0::l).toArray):w.cell? ⟨g,0,none⟩=some a0:=h.cell 0
theorem aF.c1 {w:World} {g:Nat} {t:TypeId} {a0 a1:Value} {l:List Value} (h:aF w g t (a0::a1::l).toArray):w.cell? ⟨g,1,none⟩=some a1:=h.cell 1
theorem aF.c2 {w:World} {g:Nat} {t:TypeId} {a0 a1 a2:Value} {l:List Value} (h:aF w g t (a0::a1::a2::l).toArray):w.cell? ⟨g,2,none⟩=some a2:=h.cell 2
theorem aF.c3 {w:World} {g:Nat} {t:TypeId} {a0 a1 a2 a3:Value} {l:List Value} (h:aF w g t (a0::a1::a2::a3::l).toArray):w.cell? ⟨g,3,none⟩=some a3:=h.cell 3
theorem aF.c4 {w:World} {g:Nat} {t:TypeId} {a0 a1 a2 a3 a4:Value} {l:List Value} (h:aF w g t (a0::a1::a2::a3::a4::l).toArray):w.cell? ⟨g,4,none⟩=some a4:=h.cell 4
theorem aF.c5 {w:World} {g:Nat} {t:TypeId} {a0 a1 a2 a3 a4 a5:Value} {l:List Value} (h:aF w g t (a0::a1::a2::a3::a4::a5::l).toArray):w.cell? ⟨g,5,none⟩=some a5:=h.cell 5
theorem aF.c6 {w:World} {g:Nat} {t:TypeId} {a0 a1 a2 a3 a4 a5 a6:Value} {l:List Value} (h:aF w g t (a0::a1::a2::a3::a4::a5::a6::l).toArray):w.cell? ⟨g,6,none⟩=some a6:=h.cell 6
theorem aF.c7 {w:World} {g:Nat} {t:TypeId} {a0 a1 a2 a3 a4 a5 a6 a7:Value} {l:List Value} (h:aF w g t (a0::a1::a2::a3::a4::a5::a6::a7::l).toArray):w.cell? ⟨g,7,none⟩=some a7:=h.cell 7
theorem aF.frozen (h:aF w g t cs) (i:Nat):w.frozen? ⟨g,i,none⟩=false:=by unfold aF at h;simp[World.frozen?,h]
theorem aF.new (w:World) (t:TypeId) (cs:Array Value):aF (w.alloc (.cells cs t)) w.heap.size t cs:=heap_alloc_new w _
theorem aF.alloc (h:aF w g t cs) (o:Obj):aF (w.alloc o) g t cs:=(Below.heap_alloc w o g h.lt).trans h
theorem aF.bD (h:aF w g t cs) (i:Nat) (u:Value):aF (w.setCell ⟨g,i,none⟩ u) g t (cs.setIfInBounds i u):=by
 unfold aF at h ⊢;simp[World.setCell,Array.getElem?_modify,h]
theorem aF.far (h:aF w g t cs) {p:Addr} (hp:g≠p.block) (u:Value):aF (w.setCell p u) g t cs:=(Below.heap_setCell w p u g hp).trans h
theorem aF.below {B:Nat} (h:aF w g t cs) (hb:Below B w w') (hg:g < B):aF w' g t cs:=(hb.block g hg).trans h
theorem aF.grows (h:aF w g t cs) (hb:ah w w'):aF w' g t cs:=h.below hb.below h.lt
end
end Go.Proofs.YtbhikkgpcmkonaaGreatDoor
