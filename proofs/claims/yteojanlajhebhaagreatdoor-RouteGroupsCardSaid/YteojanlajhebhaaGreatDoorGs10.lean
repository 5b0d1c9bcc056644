/- Parts: PatP CatB ShaN ShaJ1 ShaJ2 ShaJ3 ShaJ4 ShaJ -/
import Derived.Test.YteojanlajhebhaaGreatDoorGs0
import Derived.Test.YteojanlajhebhaaGreatDoorGs5
import Derived.Lib.AppendZeros
import Derived.Test.YteojanlajhebhaaGreatDoorGs7
import Derived.Test.YteojanlajhebhaaGreatDoorGs4
set_option maxRecDepth 100000
set_option maxHeartbeats 12800000
namespace Go.Proofs.YteojanlajhebhaaGreatDoor
structure mW where
 set:Option (List Nat)
 next:Nat
 free:List Nat
structure PB where
 at_:Nat
 err:Nat
 aT:List mW
abbrev qW:=Nat×Nat
def kK (s:List UInt8) (b:PB):Option UInt8:=if b.err=0 then s[b.at_]? else none
def aW (e:Nat) (b:PB):PB:=if b.err=0 then {b with err:=e} else b
def aH (b:PB):PB:={b with at_:=b.at_+1}
def fD:mW:=⟨none,0,[]⟩
def bg (b:PB):PB:={b with aT:=b.aT++[fD]}
def bG (i j:Nat) (b:PB):PB:={b with aT:=b.aT.modify i fun x=>{x with free:=x.free++[j]}}
def gV:List Nat:=[0,0,0,0]
def nU (ws:List Nat) (c:Nat):List Nat:=ws.modify (c / 64) fun x=>x |||2 ^ (c % 64)
def oJ (ws:List Nat) (lo hi:Nat):List Nat:=(List.range' lo (hi+1-lo)).foldl nU ws
def lI (ws:List Nat):List Nat:=ws.map fun x=>18446744073709551615-x
def qC (ws:List Nat) (c:Nat):Bool:=(ws.getD (c / 64) 0).testBit (c % 64)
def nI (ws:List Nat) (b:PB):PB×qW:=({b with aT:=(bg (bg b)).aT.modify b.aT.length fun x=>{x with set:=some ws,next:=b.aT.length+1}},(b.aT.length,b.aT.length+1))
def cZ (s:List UInt8) (b:PB):PB×UInt8:=
 if kK s b = some 92 then (match kK s (aH b) with
  | none=>(aW 2 (aH (aH b)),0)
  | some c=>(aH (aH b),c))
 else (match kK s b with
  | none=>(aW 2 (aH b),0)
  | some c=>(aH b,c))
def mP (s:List UInt8):Nat→Bool→PB→List Nat→PB×List Nat
 | 0,_,b,ws=>(aW 2 b,ws)
 | f + 1,first,b,ws=>match kK s b with
  | none=>(aW 2 b,ws)
  | some d=>
   if d = 93∧first=true then (aW 2 b,ws)
   else if d = 93 then (aH b,ws)
   else
    let r:=cZ s b
    let q:=if kK s r.1=some 45∧r.1.at_+1<s.length∧s[r.1.at_+1]?≠some 93 then cZ s (aH r.1) else r
    mP s f false (if q.2.toNat<r.2.toNat then aW 2 q.1 else q.1) (oJ ws r.2.toNat q.2.toNat)
def kG (s:List UInt8) (b:PB):PB×List Nat:=
 if kK s b = some 94 then let r:=mP s (s.length+1) true (aH b) gV;(r.1,lI r.2)
 else mP s (s.length+1) true b gV
def Zw (c:UInt8):Bool:=c∈([42,43,63,124,40,41,91,93,92,46]:List UInt8)
def dh (s:List UInt8) (sub:Option (PB→PB×qW)) (c:UInt8) (b:PB):PB×qW:=
 if c = 40 then (match sub with
  | none=>nI gV (aW 3 (aH b))
  | some f=>let r:=f (aH b);(aH (if kK s r.1=some 41 then r.1 else aW 2 r.1),r.2))
 else if c = 91 then let r:=kG s (aH b);nI r.2 r.1
 else if c = 46 then nI (lI gV) (aH b)
 else if c = 92 then (match kK s (aH b) with
  | none=>nI (oJ gV 0 0) (aH (aW 2 (aH b)))
  | some d=>nI (oJ gV d.toNat d.toNat) (aH (aH b)))
 else if Zw c then nI gV (aW 2 (aH b))
 else nI (oJ gV c.toNat c.toNat) (aH b)
def JR (c:UInt8):Bool:=c∈([42,43,63]:List UInt8)
def eX (s:List UInt8) (b:PB) (x:qW):PB×qW:=match kK s b with
 | none=>(b,x)
 | some c=>if JR c then
  let n:=b.aT.length
  let b1:=bG x.2 (n + 1) (bG n x.1 (bg (bg (aH b))))
  let b2:=if c = 43 then b1 else bG n (n + 1) b1
  let b3:=if c = 63 then b2 else bG x.2 x.1 b2
  (b3,(n,n + 1))
  else (b,x)
def Ah (s:List UInt8) (sub:Option (PB→PB×qW)):Nat→qW→PB→PB×qW
 | 0,p,b=>(b,p)
 | f + 1,p,b=>match kK s b with
  | none=>(b,p)
  | some c=>if c = 124∨c = 41 then (b,p) else
   let r:=dh s sub c b
   let q:=eX s r.1 r.2
   Ah s sub f (p.1,q.2.2) (bG p.2 q.2.1 q.1)
def iO (s:List UInt8) (sub:Option (PB→PB×qW)) (b:PB):PB×qW:=Ah s sub (s.length+1) (b.aT.length,b.aT.length) (bg b)
def iy (s:List UInt8) (sub:Option (PB→PB×qW)):Nat→qW→PB→PB×qW
 | 0,p,b=>(b,p)
 | f + 1,p,b=>
  let r:=iO s sub b
  let b1:=bG r.2.2 p.2 (bG p.1 r.2.1 r.1)
  if kK s b1=some 124 then iy s sub f p (aH b1) else (b1,p)
def jB (s:List UInt8):Nat→PB→PB×qW
 | 0,b=>iy s none (s.length+1) (b.aT.length,b.aT.length+1) (bg (bg b))
 | d + 1,b=>iy s (some (jB s d)) (s.length+1) (b.aT.length,b.aT.length+1) (bg (bg b))
structure TT where
 aT:List mW
 start:Nat
 stop:Nat
def qw (s:List UInt8):PB×qW:=let r:=jB s 8 ⟨0,0,[]⟩;(if r.1.at_<s.length then aW 2 r.1 else r.1,r.2)
def ou (s:List UInt8):Nat:=if 100<s.length then 4 else (qw s).1.err
def wW (s:List UInt8):Option TT:=if 100<s.length∨(qw s).1.err≠0 then none else some ⟨(qw s).1.aT,(qw s).2.1,(qw s).2.2⟩
end Go.Proofs.YteojanlajhebhaaGreatDoor
namespace Go.Proofs.YteojanlajhebhaaGreatDoor
open Go.RowKit
theorem afC {n:Nat} (w:World) (h0:0<n) (hn:n≤1099511700000) (ty:TypeId) :
 ∃g cap w',(Builtin.append_ #[94,3] ty #[.slice none 0 0,.int .i64 n]).run Tryz.prog w =.ok (.slice (some ⟨g,0,none⟩) n cap) w'∧n≤cap∧cap≤maxLen∧jg w' w.heap.size (.slice (some ⟨g,0,none⟩) 0 cap) []∧ah w w':=by
 obtain⟨i,hi,hz,hsz,hby⟩:=XW;have hr:=Lib.run_append_nil_zeros (P:=Tryz.prog) w 94 3 ty 5 i (.int .u8 0) .i64 .i64 Tryz.underlying94 Tryz.underlying3 hi hz n h0 ω ω (by rw[hby];omega);have N9:=grownCap_ge w n 0 5;have hcm:=grownCap_le_maxLen w n 0 5 (by unfold maxLen;omega);refine⟨_,_,_,hr,N9,hcm,.inr ⟨w.heap.size,_,_,(0,0),rfl,Nat.le_refl _,heap_alloc_new w.drew _,fun j _=>by simp,by simp,hcm,?_,fun i hi=>absurd hi σ⟩,(ah.refl w).drew.alloc _⟩;simp only[Array.size_append,size_zeroCells,Value.cells];simp;omega
theorem ag2 {n:Nat} (w:World) (hn:n≤1099511700000) :
 Calls Tryz.prog 104 #[.slice none 0 0,.int .i64 n] w fun e w'=>∃v,e =.returned v∧jg w' w.heap.size v []∧ah w w':=by
 by_cases h0:n = 0
 ·subst h0;go_enter Tryz.func104,Tryz.ntmps104
  go_wp2;go_ret;exact⟨_,rfl,jg.iH _ _,ah.refl _⟩
 ·have hi:(0:Int)<(n:Int):=ω;have hi2:¬((n:Int)<0):=ω;have hb:0≤(n:Int)∧(n:Int)≤1099511700000:=ω;have h1:0<n:=ω;replace h1:=ζ h1;go_enter Tryz.func104,Tryz.ntmps104
  obtain⟨g,cap,w1,hr,N9,hcm,hO,hG⟩:=afC w h1.o hn 94;have MI:=hcm;replace hO:=ζ hO;replace hG:=ζ hG;go_wp2_with (at_builtin;(refine Lib.wpList_append_run _ rfl (.tmp 20) (.tmp 21) _ _ rfl _ _ rfl rfl _ _ hr ?_));go_ret;exact⟨_,rfl,hO.o,hG.o⟩
structure Bsl where
 A:Option Addr
 n:Nat
 c:Nat
 xs:List Nat
def atI (b:Bsl):List Value:=[.slice b.A b.n b.c]
def CW (bs:List Bsl):List Nat:=bs.flatMap (·.xs)
theorem Ws {bs:List Bsl} {k:Nat} {b:Bsl} (h:bs[k]? = some b):CW (bs.take (k+1))=CW (bs.take k)++b.xs:=by
 rw[List.take_add_one,h];simp[CW]
theorem aeW (bs:List Bsl) (k:Nat):(CW (bs.take k)).length≤(CW bs).length:=by
 have:CW bs=CW (bs.take k)++CW (bs.drop k):=by
  unfold CW;rw[←List.flatMap_append,List.take_append_drop]
 rw[this,List.length_append];omega
theorem Pz {A:Option Addr} {L c:Nat} {bs:List Bsl} (w:World) (hA:dH w 1 atI A L bs) (hb:∀b∈bs,dH w 1 kE b.A b.n b.xs) (ht:(CW bs).length≤1099511627776) (hL2:L≤1000) :
 Calls Tryz.prog 67 #[.slice A L c] w fun e w'=>∃v,e =.returned v∧jg w' w.heap.size v (CW bs)∧ah w w':=by
 have hL:=hA.1;have cG:=fun n W h=>ag2 (n:=n) W h
 replace cG:=ζ cG;replace hA:=ζ hA;replace hb:=ζ hb;go_enter Tryz.func67,Tryz.ntmps67
 go_wp2;go_loopw [3,11] (fun n i wr=>∃k:Nat,k≤L∧i =.int .i64 k∧n =.int .i64 ((CW (bs.take k)).length:Nat)∧w = wr) (fun _ i _=>L-(intOf i).toNat)
 case atStart=>exact⟨0,ω,rfl,rfl,rfl⟩
 case round=>
  obtain⟨k,hk,rfl,rfl,rfl⟩:=hrel;by_cases hlt:k<L
  ·obtain⟨bb,off,b,rfl,hs0,hx,hcell⟩:=hA.o.at_ hlt;have c0:w.cell? ⟨bb,off+k,none⟩=some (.slice b.A b.n b.c):=by simpa using hcell 0 _ rfl
   have h1:=Ws hx;have h2:=aeW bs (k+1);have h3:=(hb.o b (List.mem_of_getElem? hx)).1;rw[h1,List.length_append,h3] at h2;have h4:(CW (bs.take (k+1))).length=(CW (bs.take k)).length+b.n:=by rw[h1,List.length_append,h3]
   generalize hY:(CW (bs.take (k+1))).length=Y at *
   replace hY:=ζ hY;generalize (CW (bs.take k)).length=X at *
   have j_:(k:Int)<(L:Int):=ω;have h5:¬((X:Int)+(b.n:Int)<0):=ω;have h6:0≤(X:Int)∧(X:Int)≤1099511627776∧(b.n:Int)≤1099511627776:=ω;replace h4:=ζ h4;clear h1 hx hcell h3;go_wp2;go_roundw
   case rel=>exact⟨k+1,ω,ν,by rw[hY.o,h4.o,Int.natCast_add],trivial⟩
   case measure=>exact ψ
  ·obtain rfl:k=L:=ω;rw[List.take_of_length_le ω];go_wp2_with fail;refine (cG.out _ _ ω).mono ?_;rintro e w1 ⟨v1,rfl,hO,hG⟩;have Pg:Hid (jg w1 w.heap.size v1 (CW (bs.take 0))):=hO;replace hG:=ζ hG;clear hO cG;go_wp2;go_loopw [6,27] (fun v i wx=>∃j:Nat,j≤k∧i =.int .i64 j∧Hid (jg wx w.heap.size v (CW (bs.take j)))∧Hid (ah w wx)) (fun _ i _=>k-(intOf i).toNat)
   case atStart=>exact⟨0,ω,rfl,Pg,hG⟩
   case round=>
    clear Pg hG;obtain⟨j,hj,rfl,hO,hG⟩:=hrel;by_cases hjl:j < k
    ·obtain⟨bb,off,b,rfl,hs0,hx,hcell⟩:=(hA.o.keep hG.o).at_ hjl;have c0:wr.cell? ⟨bb,off+j,none⟩=some (.slice b.A b.n b.c):=by simpa using hcell 0 _ rfl
     have h1:=Ws hx;have h2:=aeW bs (j + 1);have Oa:=(hb.o b (List.mem_of_getElem? hx)).keep hG.o;have h3:=Oa.1;rw[h1,List.length_append,h3] at h2;have j_:(j:Int)<(k:Int):=ω;replace h1:=ζ h1;replace Oa:=ζ Oa;clear hx hcell h3;go_wp2_with (at_builtin;(refine lH rfl (.tmp 31) (.tmp 32) rfl rfl rfl hO.o Oa.o hG.o.size ω ?_;intro v2 w2 pY nM;(have iC:=ζ (hG.o.bH nM hO.o.eH));(replace pY:=ζ pY);clear nM));go_roundw
     case rel=>exact⟨j + 1,ω,ν,by rw[h1.o];exact pY,iC⟩
     case measure=>exact ψ
    ·obtain rfl:j = k:=ω;have dS:=hO.o;rw[List.take_of_length_le ω] at dS;go_wp2;go_ret;exact⟨_,rfl,dS,hG.o⟩
theorem aoH {A:Option Addr} {m c:Nat} {bs:List Nat} (w:World) (hA:dH w 1 kE A m bs) (hb:∀x∈bs,x < 256) (hm:m≤1099511627776) :
 Calls Tryz.prog 79 #[.slice A m c] w fun e w'=>e =.returned (.agg (qY (P6 bs)))∧ah w w':=by
 have qA:=hA.1;have cN:=fun W=>acM W
 replace cN:=ζ cN;replace hA:=ζ hA;replace hb:=ζ hb;go_enter Tryz.func79,Tryz.ntmps79
 go_wp2_with fail;refine qy (Pr:=fun W=>Calls _ _ _ W _) (fun w1 mY mX=> ?_);replace mY:aS w1 w.heap.size 130 (qY (List.replicate 32 0)):=mY.cast κ;obtain⟨g2,hg2⟩:∃g2,g2=w.heap.size:=⟨_,rfl⟩;rw[←hg2] at mY ⊢;replace hg2:=ζ hg2;refine (cN.out _).mono ?_;rintro e w2 ⟨g,rfl,oQ,hS,iC⟩;have hG:=mX.trans iC;have asB:=mY.lt;have hwg:w.heap.size≤g:=Nat.le_trans mX.size oQ;have Oh:iL w2 g A m bs:=by
  refine⟨hA.o.keep hG,fun ad e hn=> ?_⟩;obtain⟨b,off,e2,hlt,_⟩:=hA.o.2 hn;rw[e] at e2;cases e2
  simp only;omega
 have cAdd:=ae4 (W0:=w1) (v:=iJ) (xs:=[]) (ys:=bs) (c:=c) Jm w2 iC oQ hS (Own.iH _ _ _ _ _) Oh hb.o (by simpa using hm) ω ω;simp only[List.nil_append] at cAdd;replace cAdd:=ζ cAdd;replace mY:=ζ mY;replace mX:=ζ mX;clear hS iC hG Oh oQ hA;go_wp2_with fail;refine (cAdd.out).mono ?_;rintro e w3 ⟨n,A3,c3,rfl,hn1,O9,U9,Hy,-,-,uj⟩;clear cAdd;have aQ:=afy (l:=bs) (r:=bs.drop (64*n)) (m:=n) (by rw[List.length_drop];omega) rfl;have jU:(bs.drop (64*n)).length=bs.length-64*n:=List.length_drop;rw[←jU] at U9 Hy;rw[show (0:Int)+(m:Int)=((m:Nat):Int) by omega] at U9;have ahp:=ams (N:=m) (Jy n bs Jm) w3 U9 Hy.1 (fun x hx=>hb.o x (List.mem_of_mem_drop hx)) (by rw[jU];omega) hm;rw[←qA,←aQ] at ahp;have hD:uU (abP bs)=P6 bs:=rfl;rw[hD] at ahp;have hDl:(P6 bs).length=32:=wB _;generalize hDD:P6 bs=D at *
 replace hDD:=ζ hDD;have hB4:=mY.o.grows uj;have CQ:=mX.o.trans uj;have akb:w.heap.size≤g2:=Nat.le_of_eq hg2.o.symm;have hsz:(qY D).size=32:=by rw[oL];exact hDl
 have JL:(Tryz.prog.info? 130).map (·.size)=some (qY D).size:=by rw[hsz];kernel_rfl
 have hold:(qY (List.replicate 32 0)).size=(qY D).size:=by rw[hsz,oL];rfl
 have h1:=Jk D;replace ahp:=ζ ahp;replace JL:=ζ JL;replace hold:=ζ hold;replace h1:=ζ h1;replace hB4:=ζ hB4;replace CQ:=ζ CQ;clear U9 Hy aQ jU hD hDl hsz mY mX hn1 O9 uj;go_wp2_with fail;refine (ahp.out).mono ?_;rintro e w4 ⟨rfl,vV⟩;replace hB4:=ζ (hB4.o.grows vV);have hGf:=(CQ.o.trans vV).kL (aF w4 g2 (qY D)) akb;have hRf:=setRow_heap w4 g2 _ (qY D) _ _ hB4.o;replace hGf:=ζ hGf;replace hRf:=ζ hRf;clear vV CQ ahp;go_wp2_with (refine wpList_store_row rfl 130 (.tmp 2) (.tmp 9) rfl g2 (qY D) rfl rfl 130 _ hB4.o JL.o hold.o h1.o ?_);rw[hDD.o];exact bodyPost_ret (v:=.agg (qY D)) (results_cell_row (p:=2) (ty:=130) κ _ _ g2 130 (qY D) (0,0) _ rfl hRf.o Tryz.underlying130 rfl JL.o) rfl ⟨rfl,hGf.o⟩
theorem Vu {A:Option Addr} {m c:Nat} {bs:List Nat} (w:World) (hA:dH w 1 kE A m bs) (hb:∀x∈bs,x < 256) (hm:m≤1099511627776) :
 Calls Tryz.prog 40 #[.slice A m c] w fun e w'=>e =.returned (.int .u64 ((iG (P6 bs) 8:Nat):Int))∧ah w w':=by
 refine ai7 w (aoH w hA hb hm) (wB _) (fun x hx=> ?_);unfold P6 uU at hx;simp only[List.mem_flatMap] at hx;obtain⟨y,_,hy⟩:=hx;simp only[List.mem_cons,List.not_mem_nil,or_false] at hy;rcases hy with rfl | rfl | rfl | rfl <;> exact Nat.mod_lt _ δ
theorem afH {A:Option Addr} {c:Nat} {b:List Nat} {gw:Nat} {w w1:World} {Q0:Exit→Act→World→Prop} {x0 x1 x3 x4 x5 x6 x9 JA Hr F8 JQ Df yZ xX CJ Ad Ac yE xW xU xR xQ xI xH xG xP xO yD yY yX yV yU yT Aa z_ zZ zY zX zW zV zU zT zS zQ zO zN zM zL zK zJ zI Dc C_ CG zH Cb B_ BZ BX BU BR BP BN BM BK zG zF zD zC zB BJ BH BG BF BD BA Bz Bv Bq CB Cm Cj Ci Ce zA zy zx zu zq zo C9 CZ Bo Bl zn Bj Bh kS kR kQ kP kN kM mF mD mg lZ mV mQ nX ny ql qj qh qg qc pI pG pF pq o_ o9 oZ oW rP rO rM rJ rH rG qX qJ yF EF ED EC Ez Ey Ew Eu Et Es Ep Eo En Em Ej Ei Eh Ef Ee Ed Ec Eb Ea D_ Gf D9 D8 D7 D6 D5 DZ DY DX DW DV DU DT DR DN DL DK UL UK UJ UH UG UF UE UD UC UA Uz Uy Ux Uw Uu Ut Us Ur Uo Un Um Ul Uk Uj Ui QL:Value}
 (hA:Hid (dH w 1 kE A 64 b)) (hb:Hid (∀x∈b,x < 256)) (dF:Hid (w.heap.size≤gw)) (ET:Hid (aS w1 gw 159 (dJ (kV [])))) (mX:Hid (ah w w1))
 (U_:∀c a d v w,Q0 (.panic c) (Act.put a d v) w→Q0 (.panic c) a w)
 (tY:∀(u8 u9 u21 u22 u23 u24 u25 u26 u27 u28 u29 u30 u31 u32 u33 u34 u35 u36 u37 u38 u39 u40 u41 u42 u43:Value) (wr:World),Hid (aS wr gw 159 (dJ (kV (words 0 (bK b)))))∧Hid (ah w wr)→Q0 (.exit 0) ⟨(x0::x1::(.slice A 64 c)::x3::x4::x5::x6::(.pointer (some ⟨gw,0,none⟩))::u8::u9::JA::Hr::F8::JQ::Df::yZ::xX::CJ::Ad::Ac::yE::u21::u22::u23::u24::u25::u26::u27::u28::u29::u30::u31::u32::u33::u34::u35::u36::u37::u38::u39::u40::u41::u42::u43::zT::zS::zQ::zO::zN::zM::zL::zK::zJ::zI::Dc::C_::CG::zH::Cb::B_::BZ::BX::BU::BR::BP::BN::BM::BK::zG::zF::zD::zC::zB::BJ::BH::BG::BF::BD::BA::Bz::Bv::Bq::CB::Cm::Cj::Ci::Ce::zA::zy::zx::zu::zq::zo::C9::CZ::Bo::Bl::zn::Bj::Bh::kS::kR::kQ::kP::kN::kM::mF::mD::mg::lZ::mV::mQ::nX::ny::ql::qj::qh::qg::qc::pI::pG::pF::pq::o_::o9::oZ::oW::rP::rO::rM::rJ::rH::rG::qX::qJ::yF::EF::ED::EC::Ez::Ey::Ew::Eu::Et::Es::Ep::Eo::En::Em::Ej::Ei::Eh::Ef::Ee::Ed::Ec::Eb::Ea::D_::Gf::D9::D8::D7::D6::D5::DZ::DY::DX::DW::DV::DU::DT::DR::DN::DL::DK::UL::UK::UJ::UH::UG::UF::UE::UD::UC::UA::Uz::Uy::Ux::Uw::Uu::Ut::Us::Ur::Uo::Un::Um::Ul::Uk::Uj::Ui::QL::[]).toArray,[]⟩ wr) :
 Code.wp Tryz.prog (Gz Tryz.f112 0) Q0 ⟨(x0::x1::(.slice A 64 c)::x3::x4::x5::x6::(.pointer (some ⟨gw,0,none⟩))::(.int .i64 0)::x9::JA::Hr::F8::JQ::Df::yZ::xX::CJ::Ad::Ac::yE::xW::xU::xR::xQ::xI::xH::xG::xP::xO::yD::yY::yX::yV::yU::yT::Aa::z_::zZ::zY::zX::zW::zV::zU::zT::zS::zQ::zO::zN::zM::zL::zK::zJ::zI::Dc::C_::CG::zH::Cb::B_::BZ::BX::BU::BR::BP::BN::BM::BK::zG::zF::zD::zC::zB::BJ::BH::BG::BF::BD::BA::Bz::Bv::Bq::CB::Cm::Cj::Ci::Ce::zA::zy::zx::zu::zq::zo::C9::CZ::Bo::Bl::zn::Bj::Bh::kS::kR::kQ::kP::kN::kM::mF::mD::mg::lZ::mV::mQ::nX::ny::ql::qj::qh::qg::qc::pI::pG::pF::pq::o_::o9::oZ::oW::rP::rO::rM::rJ::rH::rG::qX::qJ::yF::EF::ED::EC::Ez::Ey::Ew::Eu::Et::Es::Ep::Eo::En::Em::Ej::Ei::Eh::Ef::Ee::Ed::Ec::Eb::Ea::D_::Gf::D9::D8::D7::D6::D5::DZ::DY::DX::DW::DV::DU::DT::DR::DN::DL::DK::UL::UK::UJ::UH::UG::UF::UE::UD::UC::UA::Uz::Uy::Ux::Uw::Uu::Ut::Us::Ur::Uo::Un::Um::Ul::Uk::Uj::Ui::QL::[]).toArray,[]⟩ w1:=by
 conv=>arg 2;whnf
 go_loopw [8] (fun i wr=>∃k:Nat,k≤16∧i =.int .i64 k∧Hid (aS wr gw 159 (dJ (kV ((bK b).take k))))∧Hid (ah w wr)) (fun i _=>16-(intOf i).toNat)
 case atStart=>exact⟨0,ω,rfl,ET,mX⟩
 case round=>
  obtain⟨k,hk,rfl,hB,hG⟩:=hrel;by_cases hlt:k<16
  ·have hl:((bK b).take k).length=k:=take_len ω;have aO:=Js (l:=(bK b).take k) (be4 b k) ω;rw[hl,←Po b hlt] at aO;have YC:Hid (aS wr gw 159 (dJ ((kV ((bK b).take k)).set k (YE b k 0)))):=by
    have:=ai8 (l:=(bK b).take k) ω;rw[hl] at this;rw[TL,this];exact hB
   have hpl:(kV ((bK b).take k)).length=64:=qL ω;clear hB hl;generalize kV ((bK b).take k)=PL at *
   replace aO:=ζ aO;have azm:(k:Int)<16:=ω;go_wp2;go_loopw [9] (fun i wx=>∃j:Nat,j≤4∧i =.int .i64 j∧Hid (aS wx gw 159 (dJ (PL.set k (YE b k j))))∧Hid (ah w wx)) (fun i _=>4-(intOf i).toNat)
   case atStart=>exact⟨0,ω,rfl,YC,hG⟩
   case round=>
    clear YC hG;obtain⟨j,hj,rfl,hB,hG⟩:=hrel;by_cases hjt:j < 4
    ·obtain⟨bb,off,x0,rfl,hs0,hx0,hc0⟩:=((hA.o).keep hG.o).at_ (i:=4*k+j) ω;have c0:wr.cell? ⟨bb,off+(4*k+j),none⟩=some (.int .u8 x0):=by simpa using hc0 0 _ rfl
     have yL:=hb.o x0 (List.mem_of_getElem? hx0);have jY:=FY b k j;have hbl:=ali hb.o k (j + 1);have hx1:b.getD (4*k+j) 0=x0:=by rw[List.getD_eq_getElem?_getD,hx0];rfl
     rw[hx1] at jY;have atC:256 ^ (j + 1)≤256 ^ 4:=Nat.pow_le_pow_right δ ω;rw[show (256:Nat) ^ 4=4294967296 from by decide] at atC;have s0:wr.cell? ⟨gw,k,none⟩=some (.int .u32 ((YE b k j:Nat):Int)):=by
      have:=(hB.o.cell k).trans (oq (by rw[List.length_set];omega));rw[List.getD_eq_getElem?_getD,List.getElem?_set_self ω] at this;exact this
     have f0:=hB.o.frozen k;have z0:=hB.o.lt;have ajV:∀y:Nat,(dJ (PL.set k (YE b k j))).setIfInBounds k (.int .u32 (y:Int))=dJ (PL.set k y):=fun y=>by
      rw[uz,List.set_set]
     have hval:(((YE b k j:Nat):Int)*256+((x0:Nat):Int) % 4294967296) % 4294967296=((YE b k (j + 1):Nat):Int):=by
      rw[jY] at hbl ⊢;omega
     have axi:(((YE b k j:Nat):Int)*256+((x0:Nat):Int)) % 4294967296=((YE b k (j + 1):Nat):Int):=by
      rw[jY] at hbl ⊢;omega
     have axh:((YE b k j:Nat):Int)*256 % 4294967296+((x0:Nat):Int)=((YE b k (j + 1):Nat):Int):=by
      rw[jY] at hbl ⊢;omega
     clear jY hbl atC hx1 hx0 hc0;generalize hY:YE b k (j + 1)=Y at *
     replace hY:=ζ hY;generalize YE b k j = X at *
     have hx5:0≤(x0:Int)∧(x0:Int)≤255:=ω;clear yL;replace ajV:=ζ ajV;go_wp2_with fail;refine aJ κ ?_;refine rK (.range 15) 1 ?_;iterate 15 refine aB ?_
     refine ay ?_;refine dI (i:=15) rfl κ κ (fun wN hN hS K' hK=> ?_);clear hS;have s1:=hN.cell s0;have f1:wN.frozen? ⟨gw,k,none⟩=false:=((bW hN).2 _ _ z0).trans f0;have mY:=(hB.o.grows hN).dO k (.int .u32 (Y:Int));have iC:=(hG.o.trans hN).setCell (p:=⟨gw,k,none⟩) dF.o (.int .u32 (Y:Int));rw[ajV.o] at mY;replace mY:=ζ mY;replace iC:=ζ iC;go_simp;refine hK.o _ _ ?_;clear hK s1 f1 hN hB hG s0 f0 z0 c0;generalize wN.setCell ⟨gw,k,none⟩ (.int .u32 (Y:Int))=w2 at *
     go_wp2;go_roundw
     case rel=>exact⟨j + 1,ω,ν,by rw[hY.o];exact mY,iC⟩
     case measure=>exact ψ
    ·obtain rfl:j = 4:=ω;have hB4:=hB.o;rw[aau,aO.o] at hB4;replace hB4:=ζ hB4;go_wp2;go_roundw
     case rel=>exact⟨k+1,ω,ν,hB4,hG⟩
     case measure=>exact ψ
  ·obtain rfl:k=16:=ω;have Iy:Hid (aS wr gw 159 (dJ (kV (words 0 (bK b))))):=by
    have:=hB.o;rw[List.take_of_length_le (Nat.le_of_eq (mO b))] at this;exact this
   clear hB;go_wp2;exact⟨Iy,hG⟩
theorem afG {b:List Nat} {gw:Nat} {w w3:World} {Q0:Exit→Act→World→Prop} {x0 x1 x2 x3 x4 x5 x6 x8 x9 Hr F8 JQ Df yZ xX CJ Ad Ac yE xW xU xR xQ xI xH xG xP xO yD yY yX yV yU yT Aa z_ zZ zY zX zW zV zU zT zS zQ zO zN zM zL zK zJ zI Dc C_ CG zH Cb B_ BZ BX BU BR BP BN BM BK zG zF zD zC zB BJ BH BG BF BD BA Bz Bv Bq CB Cm Cj Ci Ce zA zy zx zu zq zo C9 CZ Bo Bl zn Bj Bh kS kR kQ kP kN kM mF mD mg lZ mV mQ nX ny ql qj qh qg qc pI pG pF pq o_ o9 oZ oW rP rO rM rJ rH rG qX qJ yF EF ED EC Ez Ey Ew Eu Et Es Ep Eo En Em Ej Ei Eh Ef Ee Ed Ec Eb Ea D_ Gf D9 D8 D7 D6 D5 DZ DY DX DW DV DU DT DR DN DL DK UL UK UJ UH UG UF UE UD UC UA Uz Uy Ux Uw Uu Ut Us Ur Uo Un Um Ul Uk Uj Ui QL:Value}
 (hb:Hid (∀x∈b,x < 256)) (dF:Hid (w.heap.size≤gw)) (Iy:Hid (aS w3 gw 159 (dJ (kV (words 0 (bK b)))))) (CQ:Hid (ah w w3))
 (U_:∀c a d v w,Q0 (.panic c) (Act.put a d v) w→Q0 (.panic c) a w)
 (tY:∀(u10 u11 u12 u44 u45 u46 u47 u48 u49 u50 u51 u52 u53 u54 u55 u56 u57 Yt Yr Yq Yp Yo Yn u64 Ym Yl Yk u68 u69 u70 u71 u72 Yj Yi Yh Yg Yf Ye Yd Yc Yb Vq Vp Vo Vm Vl u87 u88 u89 u90 u91 u92 u93 Ya X_ X9:Value) (wr:World),Hid (aS wr gw 159 (dJ (words 48 (bK b))))∧Hid (ah w wr)→Q0 (.exit 4) ⟨(x0::x1::x2::x3::x4::x5::x6::(.pointer (some ⟨gw,0,none⟩))::x8::x9::u10::u11::u12::JQ::Df::yZ::xX::CJ::Ad::Ac::yE::xW::xU::xR::xQ::xI::xH::xG::xP::xO::yD::yY::yX::yV::yU::yT::Aa::z_::zZ::zY::zX::zW::zV::zU::u44::u45::u46::u47::u48::u49::u50::u51::u52::u53::u54::u55::u56::u57::Yt::Yr::Yq::Yp::Yo::Yn::u64::Ym::Yl::Yk::u68::u69::u70::u71::u72::Yj::Yi::Yh::Yg::Yf::Ye::Yd::Yc::Yb::Vq::Vp::Vo::Vm::Vl::u87::u88::u89::u90::u91::u92::u93::Ya::X_::X9::zn::Bj::Bh::kS::kR::kQ::kP::kN::kM::mF::mD::mg::lZ::mV::mQ::nX::ny::ql::qj::qh::qg::qc::pI::pG::pF::pq::o_::o9::oZ::oW::rP::rO::rM::rJ::rH::rG::qX::qJ::yF::EF::ED::EC::Ez::Ey::Ew::Eu::Et::Es::Ep::Eo::En::Em::Ej::Ei::Eh::Ef::Ee::Ed::Ec::Eb::Ea::D_::Gf::D9::D8::D7::D6::D5::DZ::DY::DX::DW::DV::DU::DT::DR::DN::DL::DK::UL::UK::UJ::UH::UG::UF::UE::UD::UC::UA::Uz::Uy::Ux::Uw::Uu::Ut::Us::Ur::Uo::Un::Um::Ul::Uk::Uj::Ui::QL::[]).toArray,[]⟩ wr) :
 Code.wp Tryz.prog (Gz Tryz.f112 1) Q0 ⟨(x0::x1::x2::x3::x4::x5::x6::(.pointer (some ⟨gw,0,none⟩))::x8::x9::(.int .i64 16)::Hr::F8::JQ::Df::yZ::xX::CJ::Ad::Ac::yE::xW::xU::xR::xQ::xI::xH::xG::xP::xO::yD::yY::yX::yV::yU::yT::Aa::z_::zZ::zY::zX::zW::zV::zU::zT::zS::zQ::zO::zN::zM::zL::zK::zJ::zI::Dc::C_::CG::zH::Cb::B_::BZ::BX::BU::BR::BP::BN::BM::BK::zG::zF::zD::zC::zB::BJ::BH::BG::BF::BD::BA::Bz::Bv::Bq::CB::Cm::Cj::Ci::Ce::zA::zy::zx::zu::zq::zo::C9::CZ::Bo::Bl::zn::Bj::Bh::kS::kR::kQ::kP::kN::kM::mF::mD::mg::lZ::mV::mQ::nX::ny::ql::qj::qh::qg::qc::pI::pG::pF::pq::o_::o9::oZ::oW::rP::rO::rM::rJ::rH::rG::qX::qJ::yF::EF::ED::EC::Ez::Ey::Ew::Eu::Et::Es::Ep::Eo::En::Em::Ej::Ei::Eh::Ef::Ee::Ed::Ec::Eb::Ea::D_::Gf::D9::D8::D7::D6::D5::DZ::DY::DX::DW::DV::DU::DT::DR::DN::DL::DK::UL::UK::UJ::UH::UG::UF::UE::UD::UC::UA::Uz::Uy::Ux::Uw::Uu::Ut::Us::Ur::Uo::Un::Um::Ul::Uk::Uj::Ui::QL::[]).toArray,[]⟩ w3:=by
 conv=>arg 2;whnf
 go_loopw [10] (fun i wr=>∃m:Nat,16≤m∧m≤64∧i =.int .i64 m∧Hid (aS wr gw 159 (dJ (kV (words (m - 16) (bK b)))))∧Hid (ah w wr)) (fun i _=>64-(intOf i).toNat)
 case atStart=>exact⟨16,ω,ω,rfl,Iy,CQ⟩
 case round=>
  clear Iy CQ;obtain⟨m,hm1,hm2,rfl,hB,hG⟩:=hrel;by_cases hlt:m < 64
  ·have hlen:(words (m - 16) (bK b)).length=m:=by rw[tu,mO];omega
   have hWd:=YK hb.o (m - 16);have hat:∀j,j < m→wr.cell? ⟨gw,j,none⟩=some (.int .u32 (((words (m - 16) (bK b)).getD j 0:Nat):Int)):=fun j hj=>by
    have:=(hB.o.cell j).trans (oq (by rw[qL ω];omega));rw[Zo ω] at this;exact this
   have c0:=hat (m - 16) ω;have c1:=hat (m - 15) ω;have c2:=hat (m - 7) ω;have c3:=hat (m - 2) ω;have hq:=hWd (m - 15);have hs:=hWd (m - 2);have hN1:=QN (n:=m - 16) (b:=b);rw[show m - 16+1=m - 15 by omega,show m - 16+9=m - 7 by omega,show m - 16+14=m - 2 by omega] at hN1;unfold QO at hN1;have s0:wr.cell? ⟨gw,m,none⟩=some (.int .u32 0):=by
    have h1:=Gn (l:=words (m - 16) (bK b)) ω;have:=(hB.o.cell m).trans (oq (by rw[qL ω];omega));rw[hlen] at h1;rw[h1] at this;exact this
   have f0:=hB.o.frozen m;have z0:=hB.o.lt;clear hWd hat;generalize (words (m - 16) (bK b)).getD (m - 16) 0=p at *
   generalize (words (m - 16) (bK b)).getD (m - 15) 0=q at *
   generalize (words (m - 16) (bK b)).getD (m - 7) 0=r at *
   generalize (words (m - 16) (bK b)).getD (m - 2) 0=s at *
   have hx1:bits .xor .u32 ((bY q 7:Nat):Int) ((bY q 18:Nat):Int)=((bY q 7 ^^^ bY q 18:Nat):Int):=rF (dY hq) (dY hq);have hx2:bits .xor .u32 ((bY q 7 ^^^ bY q 18:Nat):Int) ((q:Int) / 8)=((LV 7 18 3 q:Nat):Int):=by
    have e:(q:Int) / (8:Int)=((q >>> 3:Nat):Int):=by
     rw[Nat.shiftRight_eq_div_pow];exact (Int.natCast_ediv q (2 ^ 3)).symm
    rw[e];exact rF (DJ (dY hq) (dY hq)) (Wd.of (Nat.lt_of_le_of_lt (Nat.shiftRight_le _ _) hq.lt))
   have Ls:bits .xor .u32 ((bY s 17:Nat):Int) ((bY s 19:Nat):Int)=((bY s 17 ^^^ bY s 19:Nat):Int):=rF (dY hs) (dY hs);have hy2:bits .xor .u32 ((bY s 17 ^^^ bY s 19:Nat):Int) ((s:Int) / 1024)=((LV 17 19 10 s:Nat):Int):=by
    have e:(s:Int) / (1024:Int)=((s >>> 10:Nat):Int):=by
     rw[Nat.shiftRight_eq_div_pow];exact (Int.natCast_ediv s (2 ^ 10)).symm
    rw[e];exact rF (DJ (dY hs) (dY hs)) (Wd.of (Nat.lt_of_le_of_lt (Nat.shiftRight_le _ _) hs.lt))
   have cA:=fun W=>jS 7 hq δ W
   have cB:=fun W=>jS 18 hq δ W
   have cC:=fun W=>jS 17 hs δ W
   have cD:=fun W=>jS 19 hs δ W
   have hqi:0≤(q:Int)∧(q:Int)≤4294967295:=by have:=hq.lt;omega
   have hsi:0≤(s:Int)∧(s:Int)≤4294967295:=by have:=hs.lt;omega
   clear hq hs;generalize LV 7 18 3 q=L at *
   generalize LV 17 19 10 s = H at *
   generalize bY q 7 ^^^ bY q 18=R78 at *
   generalize bY s 17 ^^^ bY s 19=R79 at *
   generalize bY q 7=R7 at *
   generalize bY q 18=R18 at *
   generalize bY s 17=R17 at *
   generalize bY s 19=R19 at *
   have hw:=OG p L r H;rw[←hN1] at hw;generalize hX:rQ (words (m - 16) (bK b))=X at *
   replace hX:=ζ hX;clear hN1;replace hlen:=ζ hlen;replace cA:=ζ cA;replace cB:=ζ cB;replace cC:=ζ cC;replace cD:=ζ cD;go_wp2_with fail;refine aJ κ ?_;refine rK (.range 18) 0 ?_;iterate 4 refine aB ?_
   refine bJ (.int .u32 (R7:Int)) rfl χ (fun wq gY=> ?_) ?_
   ·obtain⟨qB,rE⟩:=bW gY;go_simp;exact Calls.mono (cA.out wq) (fun e w'' h=>h)
   go_simp;iterate 4 refine aB ?_
   refine bJ (.int .u32 (R18:Int)) rfl χ (fun wq gY=> ?_) ?_
   ·obtain⟨qB,rE⟩:=bW gY;go_simp;exact Calls.mono (cB.out wq) (fun e w'' h=>h)
   go_simp;iterate 8 refine aB ?_
   refine ay ?_;refine aP κ (fun wN hN hS=> ?_);have d0:=hN.cell c0;have d1:=hN.cell c1;have d2:=hN.cell c2;have d3:=hN.cell c3;replace s0:=hN.cell s0;replace f0:=((bW hN).2 _ _ z0).trans f0;replace z0:=Nat.lt_of_lt_of_le z0 hN.size;replace hB:=ζ (hB.o.grows hN);replace hG:=ζ (hG.o.trans hN);clear hN hS c0 c1 c2 c3;clear wr;go_wp2_with fail;refine aJ κ ?_;refine rK (.range 18) 0 ?_;iterate 4 refine aB ?_
   refine bJ (.int .u32 (R17:Int)) rfl χ (fun wq gY=> ?_) ?_
   ·obtain⟨qB,rE⟩:=bW gY;go_simp;exact Calls.mono (cC.out wq) (fun e w'' h=>h)
   go_simp;iterate 4 refine aB ?_
   refine bJ (.int .u32 (R19:Int)) rfl χ (fun wq gY=> ?_) ?_
   ·obtain⟨qB,rE⟩:=bW gY;go_simp;exact Calls.mono (cD.out wq) (fun e w'' h=>h)
   go_simp;iterate 8 refine aB ?_
   refine ay ?_;refine aP κ (fun wN hN hS=> ?_);replace d0:=hN.cell d0;replace d1:=hN.cell d1;replace d2:=hN.cell d2;replace d3:=hN.cell d3;replace s0:=hN.cell s0;replace f0:=((bW hN).2 _ _ z0).trans f0;replace z0:=Nat.lt_of_lt_of_le z0 hN.size;replace hB:=ζ (hB.o.grows hN);replace hG:=ζ (hG.o.trans hN);clear hN hS;go_wp2_with fail;refine aJ κ ?_;refine rK (.range 15) 1 ?_;iterate 15 refine aB ?_
   refine ay ?_;refine dI (i:=15) rfl κ κ (fun wN hN hS K' hK=> ?_);clear hS;have s1:=hN.cell s0;have f1:wN.frozen? ⟨gw,m,none⟩=false:=((bW hN).2 _ _ z0).trans f0;have mY:=(hB.o.grows hN).dO m (.int .u32 (X:Int));have iC:=(hG.o.trans hN).setCell (p:=⟨gw,m,none⟩) dF.o (.int .u32 (X:Int));replace mY:=ζ mY;replace iC:=ζ iC;go_simp;refine hK.o _ _ ?_;clear hK s1 f1 hN hB hG s0 f0 z0 d0 d1 d2 d3;generalize wN.setCell ⟨gw,m,none⟩ (.int .u32 (X:Int))=w2 at *
   go_wp2;go_roundw
   case rel=>exact⟨m + 1,ω,ω,ν,by
    have:=mY.o;rw[uz] at this;have h2:=Js (l:=words (m - 16) (bK b)) X (by rw[hlen.o];omega);rw[hlen.o,←hX.o,←Kv] at h2;rw[←hX.o,h2] at this;rw[show m + 1-16=m - 16+1 by omega];exact this,iC⟩
   case measure=>exact ψ
  ·obtain rfl:m = 64:=ω;have Iy:Hid (aS wr gw 159 (dJ (words 48 (bK b)))):=by
    have:=hB.o;rw[RD (by rw[tu,mO])] at this;exact this
   clear hB;go_wp2;exact⟨Iy,hG⟩
theorem alf {e f g:Nat} (he:Wd e):bits .xor .u32 (bits .and .u32 (e:Int) (f:Int)) (bits .and .u32 ((Fz e:Nat):Int) (g:Int))=(((e &&&f) ^^^ (Fz e &&&g):Nat):Int):=by
 have hn:Wd (Fz e):=Wd.of (by unfold Fz;omega);rw[Lm he,Lm hn,rF (EU he) (EU hn)]
theorem lQ {w w':World} {g o:Nat} (h:w.grownBy w' (some g)) (v:Value):w.grownBy (w'.setCell ⟨g,o,none⟩ v) (some g):=h.trans (aj w' ⟨g,o,none⟩ v)
theorem arv {w:World} {g:Nat} {t:TypeId} {xs:List Nat} (h:aS w g t (dJ xs)) (hl:xs.length=8) (a b c d e f i j:Nat) :
 aS ((((((((w.setCell ⟨g,0,none⟩ (.int .u32 (a:Int))).setCell ⟨g,1,none⟩ (.int .u32 (b:Int))).setCell ⟨g,2,none⟩ (.int .u32 (c:Int))).setCell ⟨g,3,none⟩ (.int .u32 (d:Int))).setCell ⟨g,4,none⟩ (.int .u32 (e:Int))).setCell ⟨g,5,none⟩ (.int .u32 (f:Int))).setCell ⟨g,6,none⟩ (.int .u32 (i:Int))).setCell ⟨g,7,none⟩ (.int .u32 (j:Int))) g t (dJ [a,b,c,d,e,f,i,j])∧
 w.grownBy ((((((((w.setCell ⟨g,0,none⟩ (.int .u32 (a:Int))).setCell ⟨g,1,none⟩ (.int .u32 (b:Int))).setCell ⟨g,2,none⟩ (.int .u32 (c:Int))).setCell ⟨g,3,none⟩ (.int .u32 (d:Int))).setCell ⟨g,4,none⟩ (.int .u32 (e:Int))).setCell ⟨g,5,none⟩ (.int .u32 (f:Int))).setCell ⟨g,6,none⟩ (.int .u32 (i:Int))).setCell ⟨g,7,none⟩ (.int .u32 (j:Int))) (some g):=by
 refine⟨?_,lQ (lQ (lQ (lQ (lQ (lQ (lQ (lQ ((ah.refl w).iM _) _) _) _) _) _) _) _) _⟩;have h8:=(((((((h.dO 0 (.int .u32 (a:Int))).dO 1 (.int .u32 (b:Int))).dO 2 (.int .u32 (c:Int))).dO 3 (.int .u32 (d:Int))).dO 4 (.int .u32 (e:Int))).dO 5 (.int .u32 (f:Int))).dO 6 (.int .u32 (i:Int))).dO 7 (.int .u32 (j:Int));simp only[uz] at h8;match xs,hl with
 | [_,_,_,_,_,_,_,_],_=>exact h8
theorem afF {KL WL:List Nat} {RV:Nat→V8} {gk gw gv:Nat} {w w5:World} {Q0:Exit→Act→World→Prop} {x0 x1 x2 x3 x5 x6 x8 x9 JA Hr F8 yZ xX CJ Ad Ac yE xW xU xR xQ xI xH xG xP xO yD yY yX yV yU yT Aa z_ zZ zY zX zW zV zU zT zS zQ zO zN zM zL zK zJ zI Dc C_ CG zH Cb B_ BZ BX BU BR BP BN BM BK zG zF zD zC zB BJ BH BG BF BD BA Bz Bv Bq CB Cm Cj Ci Ce zA zy zx zu zq zo C9 CZ Bo Bl zn Bj Bh kS kR kQ kP kN kM mF mD mg lZ mV mQ nX ny ql qj qh qg qc pI pG pF pq o_ o9 oZ oW rP rO rM rJ rH rG qX qJ yF EF ED EC Ez Ey Ew Eu Et Es Ep Eo En Em Ej Ei Eh Ef Ee Ed Ec Eb Ea D_ Gf D9 D8 D7 D6 D5 DZ DY DX DW DV DU DT DR DN DL DK UL UK UJ UH UG UF UE UD UC UA Uz Uy Ux Uw Uu Ut Us Ur Uo Un Um Ul Uk Uj Ui QL:Value}
 (hKat:Hid (∀k,k<64→(dJ KL)[k]? = some (.int .u32 ((KL.getD k 0:Nat):Int)))) (Oc:Hid (∀k,k<64→(dJ WL)[k]? = some (.int .u32 ((WL.getD k 0:Nat):Int)))) (KN:Hid (∀k,RV (k+1)=OO (RV k) (KL.getD k 0) (WL.getD k 0))) (oP:Hid (∀k,(RV k).ok))
 (hgv:Hid (w.heap.size≤gv)) (ada:gw≠gv) (KO:gk≠gv) (Iy:Hid (aS w5 gw 159 (dJ WL))) (ato:Hid (aS w5 gk 159 (dJ KL))) (hV':Hid (aS w5 gv 157 (dJ (b_ (RV 0))))) (vV:Hid (ah w w5))
 (U_:∀c a d v w,Q0 (.panic c) (Act.put a d v) w→Q0 (.panic c) a w)
 (tY:∀(u14 u15 u16 u17 u18 u19 X8 X7 Ih Ig Ie Ic Ib Ia H_ H9 H8 H7 Fe Fb H6 JG JF JE JD JC JB PZ PY PX PW PV PU PS PN UW UU UR UQ UO UN abG aiX aiW aiV aiU u138 aiT aiS aiR aiQ aiP aiO aiN aiM aiL aiK aiJ aiI aiH aiG aiF aiE aiD aiC aiB aiA aiz aiy aix aiw aiv aiu ait ais air aiq aip aio ain ail aik aij aii arq arp aro arn arl ark arj ari arh arf ard arb ara:Value) (wr:World),Hid (aS wr gv 157 (dJ (b_ (RV 64))))∧Hid (ah w wr)→Q0 (.exit 6) ⟨(x0::x1::x2::x3::(.pointer (some ⟨gk,0,none⟩))::x5::x6::(.pointer (some ⟨gw,0,none⟩))::x8::x9::JA::Hr::F8::(.pointer (some ⟨gv,0,none⟩))::u14::u15::u16::u17::u18::u19::yE::xW::xU::xR::xQ::xI::xH::xG::xP::xO::yD::yY::yX::yV::yU::yT::Aa::z_::zZ::zY::zX::zW::zV::zU::zT::zS::zQ::zO::zN::zM::zL::zK::zJ::zI::Dc::C_::CG::zH::Cb::B_::BZ::BX::BU::BR::BP::BN::BM::BK::zG::zF::zD::zC::zB::BJ::BH::BG::BF::BD::BA::Bz::Bv::Bq::CB::Cm::Cj::Ci::Ce::zA::zy::zx::zu::zq::zo::C9::CZ::Bo::Bl::zn::X8::X7::Ih::Ig::Ie::Ic::Ib::Ia::H_::H9::H8::H7::Fe::Fb::H6::JG::JF::JE::JD::JC::JB::PZ::PY::PX::PW::PV::PU::PS::PN::UW::UU::UR::UQ::UO::UN::abG::aiX::aiW::aiV::aiU::u138::aiT::aiS::aiR::aiQ::aiP::aiO::aiN::aiM::aiL::aiK::aiJ::aiI::aiH::aiG::aiF::aiE::aiD::aiC::aiB::aiA::aiz::aiy::aix::aiw::aiv::aiu::ait::ais::air::aiq::aip::aio::ain::ail::aik::aij::aii::arq::arp::aro::arn::arl::ark::arj::ari::arh::arf::ard::arb::ara::Uw::Uu::Ut::Us::Ur::Uo::Un::Um::Ul::Uk::Uj::Ui::QL::[]).toArray,[]⟩ wr) :
 Code.wp Tryz.prog (Gz Tryz.f112 2) Q0 ⟨(x0::x1::x2::x3::(.pointer (some ⟨gk,0,none⟩))::x5::x6::(.pointer (some ⟨gw,0,none⟩))::x8::x9::JA::Hr::F8::(.pointer (some ⟨gv,0,none⟩))::(.int .i64 0)::yZ::xX::CJ::Ad::Ac::yE::xW::xU::xR::xQ::xI::xH::xG::xP::xO::yD::yY::yX::yV::yU::yT::Aa::z_::zZ::zY::zX::zW::zV::zU::zT::zS::zQ::zO::zN::zM::zL::zK::zJ::zI::Dc::C_::CG::zH::Cb::B_::BZ::BX::BU::BR::BP::BN::BM::BK::zG::zF::zD::zC::zB::BJ::BH::BG::BF::BD::BA::Bz::Bv::Bq::CB::Cm::Cj::Ci::Ce::zA::zy::zx::zu::zq::zo::C9::CZ::Bo::Bl::zn::Bj::Bh::kS::kR::kQ::kP::kN::kM::mF::mD::mg::lZ::mV::mQ::nX::ny::ql::qj::qh::qg::qc::pI::pG::pF::pq::o_::o9::oZ::oW::rP::rO::rM::rJ::rH::rG::qX::qJ::yF::EF::ED::EC::Ez::Ey::Ew::Eu::Et::Es::Ep::Eo::En::Em::Ej::Ei::Eh::Ef::Ee::Ed::Ec::Eb::Ea::D_::Gf::D9::D8::D7::D6::D5::DZ::DY::DX::DW::DV::DU::DT::DR::DN::DL::DK::UL::UK::UJ::UH::UG::UF::UE::UD::UC::UA::Uz::Uy::Ux::Uw::Uu::Ut::Us::Ur::Uo::Un::Um::Ul::Uk::Uj::Ui::QL::[]).toArray,[]⟩ w5:=by
 conv=>arg 2;whnf
 replace ada:=ζ ada;replace KO:=ζ KO;go_loopw [14] (fun i wr=>∃k:Nat,k≤64∧i =.int .i64 k∧Hid (aS wr gw 159 (dJ WL))∧Hid (aS wr gk 159 (dJ KL))∧Hid (aS wr gv 157 (dJ (b_ (RV k))))∧Hid (ah w wr)) (fun i _=>64-(intOf i).toNat)
 case atStart=>exact⟨0,ω,rfl,Iy,ato,hV',vV⟩
 case round=>
  clear Iy ato hV' vV;obtain⟨k,hk,rfl,hB,MN,hV,hG⟩:=hrel;by_cases hlt:k<64
  ·have hka:=(MN.o.cell k).trans (hKat.o k hlt);have hwa:=(hB.o.cell k).trans (Oc.o k hlt);have hst:=KN.o k;have hu:=oP.o k;generalize hRk:RV k=u at *
   replace hRk:=ζ hRk;obtain⟨a,b',c',d,e,f,g',z'⟩:=u;have q0:=hV.o.c0;have q1:=hV.o.c1;have q2:=hV.o.c2;have q3:=hV.o.c3;have q4:=hV.o.c4;have q5:=hV.o.c5;have q6:=hV.o.c6;have q7:=hV.o.c7;have qz:=hV.o.lt;have kz:=MN.o.lt;have wz:=hB.o.lt;have hE:Wd e:=hu.2.2.2.2.1;have hAd:Wd a:=hu.1;have cE1:=fun W=>jS 6 hE δ W
   have cE2:=fun W=>jS 11 hE δ W
   have cE3:=fun W=>jS 25 hE δ W
   have cA1:=fun W=>jS 2 hAd δ W
   have cA2:=fun W=>jS 13 hAd δ W
   have cA3:=fun W=>jS 22 hAd δ W
   have hx1:bits .xor .u32 ((bY e 6:Nat):Int) ((bY e 11:Nat):Int)=((bY e 6 ^^^ bY e 11:Nat):Int):=rF (dY hE) (dY hE);have hx2:bits .xor .u32 ((bY e 6 ^^^ bY e 11:Nat):Int) ((bY e 25:Nat):Int)=((sig 6 11 25 e:Nat):Int):=rF (DJ (dY hE) (dY hE)) (dY hE);have Ls:bits .xor .u32 ((bY a 2:Nat):Int) ((bY a 13:Nat):Int)=((bY a 2 ^^^ bY a 13:Nat):Int):=rF (dY hAd) (dY hAd);have hy2:bits .xor .u32 ((bY a 2 ^^^ bY a 13:Nat):Int) ((bY a 22:Nat):Int)=((sig 2 13 22 a:Nat):Int):=rF (DJ (dY hAd) (dY hAd)) (dY hAd);have hch:=alf (e:=e) (f:=f) (g:=g') hE;have hmj:=ZA (a:=a) (b:=b') (c:=c') hAd hu.2.1;have hnt:(4294967295-(e:Int)) % 4294967296=((Fz e:Nat):Int):=by have:=hE.lt;unfold Fz;omega
   have ay1:4294967295-(e:Int)=((Fz e:Nat):Int):=by have:=hE.lt;unfold Fz;omega
   generalize WL.getD k 0=Wk at *
   generalize KL.getD k 0=Kk at *
   generalize hSE:sig 6 11 25 e = SE at *
   generalize hSA:sig 2 13 22 a = SA at *
   generalize bY e 6 ^^^ bY e 11=E12 at *
   generalize bY a 2 ^^^ bY a 13=A12 at *
   generalize bY e 6=E1 at *
   generalize bY e 11=E2 at *
   generalize bY e 25=E3 at *
   generalize bY a 2=A1 at *
   generalize bY a 13=A2 at *
   generalize bY a 22=A3 at *
   have hT:((z':Int)+(SE:Int)+(((e &&&f) ^^^ (Fz e &&&g'):Nat):Int)+(Kk:Int)+(Wk:Int)) % 4294967296=((tOf ⟨a,b',c',d,e,f,g',z'⟩ Kk Wk:Nat):Int):=by
    unfold tOf t1;simp only[hSE];omega
   have hU:uOf ⟨a,b',c',d,e,f,g',z'⟩=(SA+((a &&&b') ^^^ (a &&&c') ^^^ (b' &&&c'))) % 4294967296:=by
    unfold uOf;simp only[hSA]
   unfold OO at hst;simp only[hU] at hst;clear hU;generalize tOf ⟨a,b',c',d,e,f,g',z'⟩ Kk Wk=T at *
   generalize (e &&&f) ^^^ (Fz e &&&g')=CH at *
   generalize (a &&&b') ^^^ (a &&&c') ^^^ (b' &&&c')=MJ at *
   generalize Fz e = NE at *
   have hA':((T:Int)+(SA:Int)+(MJ:Int)) % 4294967296=(((T+(SA+MJ) % 4294967296) % 4294967296:Nat):Int):=ω;have hD:((d:Int)+(T:Int)) % 4294967296=(((d + T) % 4294967296:Nat):Int):=ω;generalize (T+(SA+MJ) % 4294967296) % 4294967296=A' at *
   generalize (d + T) % 4294967296=D' at *
   have hei:0≤(e:Int)∧(e:Int)≤4294967295:=by have:=hE.lt;omega
   clear hE hAd hu;replace cE1:=ζ cE1;replace cE2:=ζ cE2;replace cE3:=ζ cE3;replace cA1:=ζ cA1;replace cA2:=ζ cA2;replace cA3:=ζ cA3;replace hst:=ζ hst;replace hSE:=ζ hSE;replace hSA:=ζ hSA;go_wp2_with fail;refine aJ κ ?_;refine rK (.range 12) 0 ?_;iterate 2 refine aB ?_
   refine bJ (.int .u32 (E1:Int)) rfl χ (fun wq gY=> ?_) ?_
   ·obtain⟨qB,rE⟩:=bW gY;go_simp;exact Calls.mono (cE1.out wq) (fun e w'' h=>h)
   go_simp;iterate 2 refine aB ?_
   refine bJ (.int .u32 (E2:Int)) rfl χ (fun wq gY=> ?_) ?_
   ·obtain⟨qB,rE⟩:=bW gY;go_simp;exact Calls.mono (cE2.out wq) (fun e w'' h=>h)
   go_simp;iterate 3 refine aB ?_
   refine bJ (.int .u32 (E3:Int)) rfl χ (fun wq gY=> ?_) ?_
   ·obtain⟨qB,rE⟩:=bW gY;go_simp;exact Calls.mono (cE3.out wq) (fun e w'' h=>h)
   go_simp;iterate 2 refine aB ?_
   refine ay ?_;refine aP κ (fun wN hN hS=> ?_);replace hB:=ζ (hB.o.grows hN);replace MN:=ζ (MN.o.grows hN);replace hV:=ζ (hV.o.grows hN);replace hG:=ζ (hG.o.trans hN);replace hwa:=hN.cell hwa;replace hka:=hN.cell hka;clear hN hS q0 q1 q2 q3 q4 q5 q6 q7 qz kz wz;have q0:=hV.o.c0;have q1:=hV.o.c1;have q2:=hV.o.c2;have q3:=hV.o.c3;have q4:=hV.o.c4;have q5:=hV.o.c5;have q6:=hV.o.c6;have q7:=hV.o.c7;have qz:=hV.o.lt;have kz:=MN.o.lt;have wz:=hB.o.lt;clear wr;go_wp2_with fail;refine aJ κ ?_;refine rK (.range 15) 0 ?_;iterate 15 refine aB ?_
   refine ay ?_;refine aP κ (fun wN hN hS=> ?_);rename_i aqY;replace hB:=ζ (hB.o.grows hN);replace MN:=ζ (MN.o.grows hN);replace hV:=ζ (hV.o.grows hN);replace hG:=ζ (hG.o.trans hN);replace hwa:=hN.cell hwa;replace hka:=hN.cell hka;clear hN hS q0 q1 q2 q3 q4 q5 q6 q7 qz kz wz;have q0:=hV.o.c0;have q1:=hV.o.c1;have q2:=hV.o.c2;have q3:=hV.o.c3;have q4:=hV.o.c4;have q5:=hV.o.c5;have q6:=hV.o.c6;have q7:=hV.o.c7;have qz:=hV.o.lt;have kz:=MN.o.lt;have wz:=hB.o.lt;go_wp2_with fail;refine aJ κ ?_;refine rK (.range 12) 0 ?_;iterate 2 refine aB ?_
   refine bJ (.int .u32 (A1:Int)) rfl χ (fun wq gY=> ?_) ?_
   ·obtain⟨qB,rE⟩:=bW gY;go_simp;exact Calls.mono (cA1.out wq) (fun e w'' h=>h)
   go_simp;iterate 2 refine aB ?_
   refine bJ (.int .u32 (A2:Int)) rfl χ (fun wq gY=> ?_) ?_
   ·obtain⟨qB,rE⟩:=bW gY;go_simp;exact Calls.mono (cA2.out wq) (fun e w'' h=>h)
   go_simp;iterate 3 refine aB ?_
   refine bJ (.int .u32 (A3:Int)) rfl χ (fun wq gY=> ?_) ?_
   ·obtain⟨qB,rE⟩:=bW gY;go_simp;exact Calls.mono (cA3.out wq) (fun e w'' h=>h)
   go_simp;iterate 2 refine aB ?_
   refine ay ?_;refine aP κ (fun wN hN hS=> ?_);replace hB:=ζ (hB.o.grows hN);replace MN:=ζ (MN.o.grows hN);replace hV:=ζ (hV.o.grows hN);replace hG:=ζ (hG.o.trans hN);replace hwa:=hN.cell hwa;replace hka:=hN.cell hka;clear hN hS q0 q1 q2 q3 q4 q5 q6 q7 qz kz wz;have q0:=hV.o.c0;have q1:=hV.o.c1;have q2:=hV.o.c2;have q3:=hV.o.c3;have q4:=hV.o.c4;have q5:=hV.o.c5;have q6:=hV.o.c6;have q7:=hV.o.c7;have qz:=hV.o.lt;have kz:=MN.o.lt;have wz:=hB.o.lt;have f0:=hV.o.frozen 0;have f1:=hV.o.frozen 1;have f2:=hV.o.frozen 2;have f3:=hV.o.frozen 3;have f4:=hV.o.frozen 4;have f5:=hV.o.frozen 5;have f6:=hV.o.frozen 6;have f7:=hV.o.frozen 7;go_wp2;obtain⟨h8,hby⟩:=arv hV.o rfl A' a b' c' D' e f g';replace hB:=ζ (hB.o.iM hby ada.o);replace MN:=ζ (MN.o.iM hby KO.o);replace hG:=ζ (hG.o.kL hby hgv.o);go_roundw
   case rel=>exact⟨k+1,ω,ν,hB,MN,by rw[hst.o];exact h8,hG⟩
   case measure=>exact ψ
  ·obtain rfl:k=64:=ω;clear hB MN;go_wp2;exact⟨hV,hG⟩
theorem afE {xs ys zs:List Nat} {gh gv:Nat} {w w5:World} {Q0:Exit→Act→World→Prop} {x0 x1 x2 x4 x5 x6 x7 x8 x9 JA Hr F8 Df yZ xX CJ Ad Ac xW xU xR xQ xI xH xG xP xO yD yY yX yV yU yT Aa z_ zZ zY zX zW zV zU zT zS zQ zO zN zM zL zK zJ zI Dc C_ CG zH Cb B_ BZ BX BU BR BP BN BM BK zG zF zD zC zB BJ BH BG BF BD BA Bz Bv Bq CB Cm Cj Ci Ce zA zy zx zu zq zo C9 CZ Bo Bl zn Bj Bh kS kR kQ kP kN kM mF mD mg lZ mV mQ nX ny ql qj qh qg qc pI pG pF pq o_ o9 oZ oW rP rO rM rJ rH rG qX qJ yF EF ED EC Ez Ey Ew Eu Et Es Ep Eo En Em Ej Ei Eh Ef Ee Ed Ec Eb Ea D_ Gf D9 D8 D7 D6 D5 DZ DY DX DW DV DU DT DR DN DL DK UL UK UJ UH UG UF UE UD UC UA Uz Uy Ux Uw Uu Ut Us Ur Uo Un Um Ul Uk Uj Ui QL:Value}
 (JJ:Hid (∀j,j < 8→xs.getD j 0=(ys.getD j 0+zs.getD j 0) % 4294967296)) (Qc:xs.length=ys.length) (hl8:ys.length=8) (hlR:zs.length=8) (hgv:Hid (w.heap.size≤gv)) (hH':Hid (aS w5 gh 157 (dJ zs))) (hV':Hid (aS w5 gv 157 (dJ ys))) (vV:Hid (ah w w5)) (hgg:Hid (gh≠gv))
 (U_:∀c a d v w,Q0 (.panic c) (Act.put a d v) w→Q0 (.panic c) a w)
 (tY:∀(u20 aq_ aq9 aq8 aq7 u193 aq6 aq5 aq4 aq3 u198 aq2 aq1:Value) (wr:World),Hid (aS wr gv 157 (dJ xs))∧Hid (ah w wr)→Q0 (.exit 8) ⟨(x0::x1::x2::(.pointer (some ⟨gh,0,none⟩))::x4::x5::x6::x7::x8::x9::JA::Hr::F8::(.pointer (some ⟨gv,0,none⟩))::Df::yZ::xX::CJ::Ad::Ac::u20::xW::xU::xR::xQ::xI::xH::xG::xP::xO::yD::yY::yX::yV::yU::yT::Aa::z_::zZ::zY::zX::zW::zV::zU::zT::zS::zQ::zO::zN::zM::zL::zK::zJ::zI::Dc::C_::CG::zH::Cb::B_::BZ::BX::BU::BR::BP::BN::BM::BK::zG::zF::zD::zC::zB::BJ::BH::BG::BF::BD::BA::Bz::Bv::Bq::CB::Cm::Cj::Ci::Ce::zA::zy::zx::zu::zq::zo::C9::CZ::Bo::Bl::zn::Bj::Bh::kS::kR::kQ::kP::kN::kM::mF::mD::mg::lZ::mV::mQ::nX::ny::ql::qj::qh::qg::qc::pI::pG::pF::pq::o_::o9::oZ::oW::rP::rO::rM::rJ::rH::rG::qX::qJ::yF::EF::ED::EC::Ez::Ey::Ew::Eu::Et::Es::Ep::Eo::En::Em::Ej::Ei::Eh::Ef::Ee::Ed::Ec::Eb::Ea::D_::Gf::D9::D8::D7::D6::D5::DZ::DY::DX::DW::DV::DU::DT::DR::DN::DL::DK::UL::UK::UJ::UH::UG::UF::UE::UD::UC::UA::Uz::Uy::Ux::aq_::aq9::aq8::aq7::u193::aq6::aq5::aq4::aq3::u198::aq2::aq1::QL::[]).toArray,[]⟩ wr) :
 Code.wp Tryz.prog (Gz Tryz.f112 3) Q0 ⟨(x0::x1::x2::(.pointer (some ⟨gh,0,none⟩))::x4::x5::x6::x7::x8::x9::JA::Hr::F8::(.pointer (some ⟨gv,0,none⟩))::Df::yZ::xX::CJ::Ad::Ac::(.int .i64 0)::xW::xU::xR::xQ::xI::xH::xG::xP::xO::yD::yY::yX::yV::yU::yT::Aa::z_::zZ::zY::zX::zW::zV::zU::zT::zS::zQ::zO::zN::zM::zL::zK::zJ::zI::Dc::C_::CG::zH::Cb::B_::BZ::BX::BU::BR::BP::BN::BM::BK::zG::zF::zD::zC::zB::BJ::BH::BG::BF::BD::BA::Bz::Bv::Bq::CB::Cm::Cj::Ci::Ce::zA::zy::zx::zu::zq::zo::C9::CZ::Bo::Bl::zn::Bj::Bh::kS::kR::kQ::kP::kN::kM::mF::mD::mg::lZ::mV::mQ::nX::ny::ql::qj::qh::qg::qc::pI::pG::pF::pq::o_::o9::oZ::oW::rP::rO::rM::rJ::rH::rG::qX::qJ::yF::EF::ED::EC::Ez::Ey::Ew::Eu::Et::Es::Ep::Eo::En::Em::Ej::Ei::Eh::Ef::Ee::Ed::Ec::Eb::Ea::D_::Gf::D9::D8::D7::D6::D5::DZ::DY::DX::DW::DV::DU::DT::DR::DN::DL::DK::UL::UK::UJ::UH::UG::UF::UE::UD::UC::UA::Uz::Uy::Ux::Uw::Uu::Ut::Us::Ur::Uo::Un::Um::Ul::Uk::Uj::Ui::QL::[]).toArray,[]⟩ w5:=by
 conv=>arg 2;whnf
 go_loopw [20] (fun i wx=>∃k:Nat,k≤8∧i =.int .i64 k∧Hid (aS wx gv 157 (dJ (xs.take k++ys.drop k)))∧Hid (aS wx gh 157 (dJ zs))∧Hid (ah w wx)) (fun i _=>8-(intOf i).toNat)
 case atStart=>exact⟨0,ω,rfl,hV',hH',vV⟩
 case round=>
  clear hV' hH' vV;obtain⟨k,hk,rfl,hS,hZ,hG⟩:=hrel;by_cases hlt:k<8
  ·have e1:=(hS.o.cell k).trans (oq (by rw[Ae Qc ω];omega));rw[Vr Qc ω] at e1;have e2:=(hZ.o.cell k).trans (oq ω);have hne:=JJ.o k hlt;have aO:=Gh Qc (k:=k) ω;have hSn:=fun x=>uz (xs.take k++ys.drop k) k x
   have f1:=hS.o.frozen k;have z1:=hS.o.lt;have z2:=hZ.o.lt;generalize ys.getD k 0=Y at *
   generalize zs.getD k 0=Z at *
   have KO:((Y:Int)+(Z:Int)) % 4294967296=((xs.getD k 0:Nat):Int):=by rw[hne];omega
   generalize xs.getD k 0=X at *
   clear hne;replace aO:=ζ aO;replace hSn:=ζ hSn;go_wp2_with fail;refine aJ κ ?_;refine rK (.range 8) 1 ?_;iterate 8 refine aB ?_
   refine ay ?_;refine dI (i:=8) rfl κ κ (fun wN hN hS K' hK=> ?_);clear hS;have e3:=hN.cell e1;have f3:wN.frozen? ⟨gv,k,none⟩=false:=((bW hN).2 _ _ z1).trans f1;have jf:=(hS.o.grows hN).dO k (.int .u32 (X:Int));have hZ2:=(hZ.o.grows hN).far (p:=⟨gv,k,none⟩) (by have:=hgg.o;simp only;omega) (.int .u32 (X:Int));have iC:=(hG.o.trans hN).setCell (p:=⟨gv,k,none⟩) hgv.o (.int .u32 (X:Int));rw[hSn.o,aO.o] at jf;replace jf:=ζ jf;replace hZ2:=ζ hZ2;replace iC:=ζ iC;clear hN hS hZ hG;go_simp;refine hK.o _ _ ?_;clear hK e3 f3 e1 e2 f1 z1 z2;generalize wN.setCell ⟨gv,k,none⟩ (.int .u32 (X:Int))=w9 at *
   go_wp2;go_roundw
   case rel=>exact⟨k+1,ω,ν,jf,hZ2,iC⟩
   case measure=>exact ψ
  ·obtain rfl:k=8:=ω;have jf:=hS.o;rw[List.take_of_length_le ω,List.drop_of_length_le ω,List.append_nil] at jf;replace jf:=ζ jf;clear hS;go_wp2;exact⟨jf,hG⟩
theorem Xe {Pr:World→Prop} {w:World} {t1 t2 t3 t4:TypeId} {c1 c2 c3 c4:Array Value} (h:∀w3 w1,aS w3 w.heap.size t1 c1→aS w3 (w.heap.size+1) t2 c2→aS w3 (w.heap.size+1+1) t3 c3→ah w w3→w3.heap.size=w.heap.size+1+1+1→aS w1 (w.heap.size+1+1+1) t4 c4→ah w3 w1→Pr w1) :
 Pr ((((w.alloc (.cells c1 t1)).alloc (.cells c2 t2)).alloc (.cells c3 t3)).alloc (.cells c4 t4)):=by
 refine h _ _ (((aS.new w t1 c1).alloc _).alloc _) ((aS.vO w _ t2 c2).alloc _) (aS.IQ w _ _ t3 c3) ((((ah.refl w).alloc _).alloc _).alloc _) (by rw[World.size_alloc,World.size_alloc,World.size_alloc]) ?_ ((ah.refl _).alloc _);have:=aS.new (((w.alloc (.cells c1 t1)).alloc (.cells c2 t2)).alloc (.cells c3 t3)) t4 c4;rwa [World.size_alloc,World.size_alloc,World.size_alloc] at this
theorem abX {v:V8} (hv:v.ok) {A:Option Addr} {c:Nat} {b:List Nat} (w:World) (hA:dH w 1 kE A 64 b) (hb:∀x∈b,x < 256) :
 Calls Tryz.prog 112 #[.agg (dJ (b_ v)),.agg (dJ jh),.slice A 64 c] w fun e w'=>e =.returned (.agg (dJ (b_ (FD v b))))∧ah w w':=by
 replace hA:=ζ hA;replace hb:=ζ hb;replace hv:=ζ hv;have hs8:(dJ (b_ v)).size=8:=by rw[tC];rfl
 have asf:(dJ jh).size=64:=by rw[tC,L_]
 replace hs8:=ζ hs8;replace asf:=ζ asf;go_enter Tryz.func112,Tryz.ntmps112
 go_wp2;refine Xe (Pr:=fun W=>Code.wp _ _ _ _ W) (fun w3 w1 hH MN hR uj hsz ET mX=> ?_);replace ET:aS w1 (w.heap.size+1+1+1) 159 (dJ (kV [])):=ET.cast κ;replace hR:aS w3 (w.heap.size+1+1) 157 (dJ [0,0,0,0,0,0,0,0]):=hR;replace hA:=ζ (hA.o.keep uj);obtain⟨gh,hgh⟩:∃gh,gh=w.heap.size:=⟨_,rfl⟩;rw[←hgh] at ET hH MN hR hsz ⊢;have dF:Hid (w3.heap.size≤gh+1+1+1):=Nat.le_of_eq hsz;have hgr:w.heap.size≤gh+1+1:=ω;replace hgh:=ζ hgh;replace hgr:=ζ hgr;replace hsz:=ζ hsz;replace ET:=ζ ET;replace mX:=ζ mX;replace hH:=ζ hH;replace MN:=ζ MN;replace hR:=ζ hR;replace uj:=ζ uj;refine afH hA hb dF ET mX π ?_;intro u8 u9 u21 u22 u23 u24 u25 u26 u27 u28 u29 u30 u31 u32 u33 u34 u35 u36 u37 u38 u39 u40 u41 u42 u43 wr h;obtain⟨hB,hG⟩:=h;clear ET mX hA w1;go_wp2;refine afG hb dF hB hG π ?_;clear hB hG wr;intro u10 u11 u12 u44 u45 u46 u47 u48 u49 u50 u51 u52 u53 u54 u55 u56 u57 Yt Yr Yq Yp Yo Yn u64 Ym Yl Yk u68 u69 u70 u71 u72 Yj Yi Yh Yg Yf Ye Yd Yc Yb Vq Vp Vo Vm Vl u87 u88 u89 u90 u91 u92 u93 Ya X_ X9 wr h;obtain⟨hB,hG⟩:=h;replace hH:=ζ (hH.o.grows hG.o);replace MN:=ζ (MN.o.grows hG.o);replace hR:=ζ (hR.o.grows hG.o);replace uj:=ζ (uj.o.trans hG.o);clear hG;have q0:=hH.o.c0;have q1:=hH.o.c1;have q2:=hH.o.c2;have q3:=hH.o.c3;have q4:=hH.o.c4;have q5:=hH.o.c5;have q6:=hH.o.c6;have q7:=hH.o.c7;have qz:=hH.o.lt;go_wp2;refine qy (Pr:=fun W=>Code.wp _ _ _ _ W) (fun w5 hV vV=> ?_);replace hV:aS w5 wr.heap.size 157 (dJ (b_ v)):=hV;have hle:=Nat.le_refl wr.heap.size;have ada:=Nat.ne_of_lt hB.o.lt;have KO:=Nat.ne_of_lt MN.o.lt;have JK:=Nat.ne_of_lt hH.o.lt;have ay4:=Nat.ne_of_lt hR.o.lt;have azb:=hR.o.lt;have hB5:=ζ (hB.o.grows vV);have atn:=ζ (MN.o.grows vV);replace hV:=ζ hV;replace vV:=ζ vV;clear q0 q1 q2 q3 q4 q5 q6 q7 qz;have hKat:∀k,k<64→(dJ jh)[k]? = some (.int .u32 ((jh.getD k 0:Nat):Int)):=fun k hk=>oq (by rw[L_];exact hk)
 have Oc:∀k,k<64→(dJ (words 48 (bK b)))[k]? = some (.int .u32 (((words 48 (bK b)).getD k 0:Nat):Int)):=fun k hk=>oq (by rw[tu,mO];exact hk)
 have KN:∀k,lK jh (words 48 (bK b)) (k+1) v = OO (lK jh (words 48 (bK b)) k v) (jh.getD k 0) ((words 48 (bK b)).getD k 0):=fun _=>rfl
 have aQ:FD v b = alu v (lK jh (words 48 (bK b)) 64 v):=rfl;have oP:∀k,(lK jh (words 48 (bK b)) k v).ok:=fun k=>Rj hv.o k
 have hr0:lK jh (words 48 (bK b)) 0 v = v:=rfl;generalize hvF:FD v b = aa8 at *
 replace hvF:=ζ hvF;generalize words 48 (bK b)=WL at *
 generalize jh=KL at *
 generalize hRV:(fun k=>lK KL WL k v)=RV at *
 have akD:∀k,lK KL WL k v = RV k:=fun k=>congrFun hRV k
 simp only[akD] at KN aQ oP hr0;clear akD hRV hb;have hV0:Hid (aS w5 wr.heap.size 157 (dJ (b_ (RV 0)))):=by rw[hr0];exact hV
 replace hKat:=ζ hKat;replace Oc:=ζ Oc;replace KN:=ζ KN;replace aQ:=ζ aQ;replace oP:=ζ oP;clear hr0 hV;generalize hgv:wr.heap.size=gv at *
 refine afF (w:=wr) hKat Oc KN oP (by rw[hgv];exact hle) ada KO hB5 atn hV0 vV π ?_;clear hB5 atn hV0 vV w5;intro u14 u15 u16 u17 u18 u19 X8 X7 Ih Ig Ie Ic Ib Ia H_ H9 H8 H7 Fe Fb H6 JG JF JE JD JC JB PZ PY PX PW PV PU PS PN UW UU UR UQ UO UN abG aiX aiW aiV aiU u138 aiT aiS aiR aiQ aiP aiO aiN aiM aiL aiK aiJ aiI aiH aiG aiF aiE aiD aiC aiB aiA aiz aiy aix aiw aiv aiu ait ais air aiq aip aio ain ail aik aij aii arq arp aro arn arl ark arj ari arh arf ard arb ara w5 h;obtain⟨hV,hG⟩:=h;have JJ:∀j,j < 8→(b_ aa8).getD j 0=((b_ (RV 64)).getD j 0+(b_ v).getD j 0) % 4294967296:=fun j hj=>by
  rw[aQ.o,ae5 v (RV 64) (k:=j) hj,Nat.add_comm]
 have Qc:=(kF aa8).trans (kF (RV 64)).symm;have hl8:=kF (RV 64);have hlR:=kF v;have hl9:=kF aa8;replace hH:=ζ (hH.o.grows hG.o);generalize b_ (RV 64)=ys at *
 generalize hxs:b_ aa8=xs at *
 replace hxs:=ζ hxs;generalize b_ v = zs at *
 clear aQ hKat Oc KN oP MN hB;replace JJ:=ζ JJ;go_wp2;refine afE (w:=wr) JJ Qc hl8 hlR (by rw[hgv];exact hle) hH hV hG JK π ?_;clear hH hV hG JJ hl8 hlR w5;intro u20 aq_ aq9 aq8 aq7 u193 aq6 aq5 aq4 aq3 u198 aq2 aq1 w5 h;obtain⟨hV,hG⟩:=h;match xs,hl9 with
 | [x0,x1,x2,x3,x4,x5,x6,x7],_=>
  have q0:=hV.o.c0;have q1:=hV.o.c1;have q2:=hV.o.c2;have q3:=hV.o.c3;have q4:=hV.o.c4;have q5:=hV.o.c5;have q6:=hV.o.c6;have q7:=hV.o.c7;have Qg:=hR.o.grows hG.o;have r0:=Qg.c0;have r1:=Qg.c1;have r2:=Qg.c2;have r3:=Qg.c3;have r4:=Qg.c4;have r5:=Qg.c5;have r6:=Qg.c6;have r7:=Qg.c7;have f0:=Qg.frozen 0;have f1:=Qg.frozen 1;have f2:=Qg.frozen 2;have f3:=Qg.frozen 3;have f4:=Qg.frozen 4;have f5:=Qg.frozen 5;have f6:=Qg.frozen 6;have f7:=Qg.frozen 7;obtain⟨h8,hby⟩:=arv Qg rfl x0 x1 x2 x3 x4 x5 x6 x7;have hGf:=(uj.o.trans hG.o).kL hby hgr.o;replace h8:=ζ h8;replace hGf:=ζ hGf;clear hby;replace Qg:=ζ Qg;go_wp2;rw[hvF.o,hxs.o];refine bodyPost_ret (v:=.agg (dJ [x0,x1,x2,x3,x4,x5,x6,x7])) ?_ (by with_reducible rfl) ⟨by with_reducible rfl,hGf.o⟩;exact results_cell_row (p:=6) (ty:=157) κ _ _ (gh+1+1) 157 (dJ [x0,x1,x2,x3,x4,x5,x6,x7]) (0,0) _ κ h8.o Tryz.underlying157 rfl κ
end Go.Proofs.YteojanlajhebhaaGreatDoor
