/- Parts: ELiP RLiA SilA PatP PatA PatB PatC PatQ PatD PatE PatF -/
import Derived.Test.YtbhikkgpcmkonaaGreatDoorVa0
import Derived.Test.YtbhikkgpcmkonaaGreatDoorVa11
import Derived.Test.YtbhikkgpcmkonaaGreatDoorVa10
import Derived.Test.YtbhikkgpcmkonaaGreatDoorVa5
import Derived.Laws.ShiftsVarLaws
import Derived.Test.YtbhikkgpcmkonaaGreatDoorVa9
set_option maxRecDepth 100000
set_option maxHeartbeats 12800000
namespace Go.Proofs.YtbhikkgpcmkonaaGreatDoor
open Go.RowKit
theorem X4 {n:Nat} (h:n < 16):zZ (JM n)=true:=by
 have:∀m:Fin 16,zZ (JM m.1)=true:=δ;exact this ⟨n,h⟩
theorem aaS (n:Nat):Og (qF n)=true:=by
 have h:∀l:List Nat,(∀x∈l,x < 256)→(F5 l).length=2*l.length∧(F5 l).all zZ=true:=by
  intro l;induction l with
  | nil=>intro _;exact⟨rfl,rfl⟩
  | cons a r ih=>
   intro hl;obtain⟨h1,h2⟩:=ih (fun x hx=>hl x (List.mem_cons_of_mem _ hx));have ha:=hl a List.mem_cons_self;unfold F5 at *
   rw[List.flatMap_cons];constructor
   ·rw[List.length_append,h1];simp;omega
   ·rw[List.all_append,h2];simp only[List.all_cons,List.all_nil,Bool.and_true];rw[X4 ω,X4 ω];rfl
 have hb:(∀x∈mJ n,x < 256)∧(mJ n).length=8:=by
  unfold mJ;refine⟨fun x hx=> ?_,by simp⟩;obtain⟨i,-,rfl⟩:=List.mem_map.1 hx;exact Nat.mod_lt _ ω
 obtain⟨h1,h2⟩:=h (mJ n) hb.1;unfold Og qF;rw[h1,hb.2,h2];rfl
def xP:iD:=⟨RG,[⟨Nl,[116]⟩],⟨0,0⟩,0,0⟩
def rP:fU:=⟨[],[⟨dG,⟨3,0⟩⟩],[],[],[⟨dG,[],0,1,9,[]⟩],[]⟩
def zAl:iD:={xP with l:=⟨5,0⟩}
def noS:oC:=⟨[],0⟩
theorem T_ (id:Nat):jZ [] id=[id]:=by simp[jZ,putAt,qI]
theorem acg (fb:cZ→Bool):fP fb rP=0:=by kernel_rfl
theorem aoT (id ky:Nat) (hk:Jy dG 0 []=ky):stepG dG id xP.fs (dB rP) ⟨[[]],[]⟩ 0=⟨[[⟨0,[],ky,jZ [] id⟩]],[(dn 0 [],0)]⟩:=by
 have hp:jh xP.fs (dB rP 0)=[]:=by kernel_rfl
 unfold stepG;rw[hp,hk];rfl
theorem ag2 (fb:cZ→Bool) (ft:List bK→cZ→Bool) {now:Int} (hs:kG rP dG xP now=some xP):mV fb ft rP dG [xP] now=[⟨0,[],Jy dG 0 [],[BU xP]⟩]:=by
 have s1:=aoT (BU xP) _ rfl;rw[T_] at s1;unfold mV;rw[if_pos (acg fb)];unfold mF;have a1:ig ft rP dG now ⟨[[]],[]⟩ xP=stepG dG (BU xP) xP.fs (dB rP) ⟨[[]],[]⟩ 0:=by
  unfold ig;rw[hs];simp only;rw[show vO ft rP dG xP.fs=[0] from rfl];rfl
 rw[List.foldl_cons,List.foldl_nil];rw[show (⟨List.replicate rP.routes.length [],[]⟩:Ja)=⟨[[]],[]⟩ from rfl,a1,s1];rfl
theorem apt {p:fU} {tO:fZ} {now:Int} (hc:iJ p xP tO=some xP) (hf:eP xP now=true):DW p [xP] (BU xP) tO now=some ⟨BU xP,true,xP.fs⟩:=by
 have ha:bH xP=true:=by kernel_rfl
 have h1:pF p (BU xP) tO now xP=some (true,xP.fs):=by
  unfold pF;rw[hc];simp only;rw[ha,hf,if_pos σ]
 unfold DW;rw[List.filterMap_cons,h1,List.filterMap_nil];rfl
theorem afN:fieldsU xP.fs=true:=by kernel_rfl
theorem aeP {key id:Nat} {n now:Int} {fH:List bK} (hb:fieldsU fH=true) (hn:rQ n = true) (hw:rQ now=true):t_ ⟨dG,qF key,n,now,fH,[⟨id,true,xP.fs⟩]⟩=true:=by
 unfold t_;simp only;rw[aaS,show iF dG=true by kernel_rfl,hn,hw,hb];simp only[List.all_cons,List.all_nil,afN];rfl
theorem al6 {fb:cZ→Bool} {p:fU} {tO:fZ} {now:Int} {g:m_} {n:Int} (mP:eu p.receivers dG=some tO) (xE:fP fb p = 0) (hg:g.ids=[BU xP]) (hb:fieldsU g.fH=true) (hn:rQ n = true) (hw:rQ now=true) (hc:iJ p xP tO=some xP) (hf:eP xP now=true) :
 jS fb p dG g [xP] n now=some ⟨dG,qF g.key,n,now,g.fH,[⟨BU xP,true,xP.fs⟩]⟩:=by
 unfold jS;rw[mP];simp only;rw[if_pos xE,hg,List.filterMap_cons,apt hc hf,List.filterMap_nil];rw[if_pos (aeP hb hn hw)]
def zL:List ES:=[⟨0,xP,u_,0⟩,⟨2,zI,u_,1⟩]
def zM:List ES:=[⟨0,xP,u_,0⟩,⟨0,zAl,u_,0⟩,⟨2,zI,u_,1⟩]
theorem asx (fb:cZ→Bool) (ft:List bK→cZ→Bool):H7 fb ft rP dG [xP] noS 1=[xP]:=by kernel_rfl
def zG (id:Nat):Ar:=⟨0,dG,0,1,9,⟨0,1,9,1,1,1,[id]⟩,1⟩
theorem asy (mk:m_→Int→Option Nj) (id ky:Nat):J5 mk rP 1 ⟨[],[],[]⟩ ⟨0,[],ky,[id]⟩=⟨[(dn 0 [],zG id)],[dn 0 []],(mk ⟨0,[],ky,[id]⟩ 1).toList⟩:=by kernel_rfl
theorem ag1 (fb:cZ→Bool) (ft:List bK→cZ→Bool):(lH fb ft rP dG zL).length=1:=by
 have h:kE fb ft rP dG ⟨-1,[]⟩ [xP] noS 1=(⟨1,[(dn 0 [],zG (BU xP))].map (Gg [dn 0 []] 1)⟩,[⟨dG,qF (Jy dG 0 []),1,1,[],[⟨BU xP,true,xP.fs⟩]⟩]):=by
  unfold kE;rw[if_pos κ];unfold CZ;rw[asx,ag2 fb ft κ,List.foldl_cons,List.foldl_nil];simp only[List.filter_nil];rw[asy];simp only;rw[al6 (tO:=⟨3,0⟩) κ (acg fb) rfl κ κ κ κ κ];rfl
 have e:kM fb ft rP dG zL=eU fb ft rP dG ⟨⟨-1,[]⟩,[xP],noS,[]⟩ ⟨2,zI,u_,1⟩:=rfl;unfold lH;rw[e];unfold eU;rw[if_neg δ,if_neg δ,if_pos rfl];simp only;rw[h];rfl
theorem ag3:kD rP zM ⟨3,0⟩=kD rP zL ⟨3,0⟩:=by kernel_rfl
theorem aoV:(kD rP zM ⟨5,0⟩).length=3∧(kD rP zL ⟨5,0⟩).length=2:=by constructor <;> kernel_rfl
theorem aoW:(kD rP zM ⟨0,0⟩).length=2:=by kernel_rfl
theorem ag5:lu rP zL zM ⟨3,0⟩=true:=by unfold lu;rw[ag3];simp
theorem ag4:lu rP zL zM ⟨5,0⟩=false:=by
 unfold lu;simp only[decide_eq_false_iff_not];intro e;have h:=aoV;rw[e] at h;omega
theorem aoU (fb:cZ→Bool) (ft:List bK→cZ→Bool):lH fb ft rP dG zM=lH fb ft rP dG zL:=by
 have ht:eu rP.receivers dG=some ⟨3,0⟩:=by kernel_rfl
 have hl:aeO rP ⟨3,0⟩=true:=by kernel_rfl
 have ha:bH xP=true:=by kernel_rfl
 have hb:bH zAl=true:=by kernel_rfl
 have hz:((2:Int)=0)→bH zI=true:=fun h=>absurd h δ
 have h1:=NK (fb:=fb) (ft:=ft) (l:=zM) ht hl (fun e he hk=>by
  simp only[zM,List.mem_cons,List.not_mem_nil,or_false] at he;rcases he with rfl | rfl | rfl
  ·exact ha
  ·exact hb
  ·exact hz hk)
 have h2:=NK (fb:=fb) (ft:=ft) (l:=zL) ht hl (fun e he hk=>by
  simp only[zL,List.mem_cons,List.not_mem_nil,or_false] at he;rcases he with rfl | rfl
  ·exact ha
  ·exact hz hk)
 rw[←h1,←h2,ag3]
end Go.Proofs.YtbhikkgpcmkonaaGreatDoor
namespace Go.Proofs.YtbhikkgpcmkonaaGreatDoor
open Go.RowKit Go.Maps
theorem bW.Js {α:Type} {w:World} {g k:Nat} {t:TypeId} {enc:α→List Value} {l:List α} {cs:Array Value} (hk:∀x,(enc x).length=k) (h:aF w g t cs) (hc:cs=(cu enc l).toArray):bW w k enc (some ⟨g,0,none⟩) l.length l:=by
 subst hc;refine⟨rfl,fun _=>⟨g,0,rfl,h.lt,fun i hi j u hu=> ?_⟩⟩;have hj:j < k:=by rw[←hk l[i]];exact (List.getElem?_eq_some_iff.1 hu).1
 rw[h.cell,Nat.zero_add];have:=mG hk l i hi j hj;rw[←hu,←this];simp
theorem aay (w:World):iO.At ⟨[],none,0,0⟩ w:=⟨bW.iH,by simp,by simp,by simp⟩
theorem hkR (x:Bc):(encR x).length=6:=rfl
end Go.Proofs.YtbhikkgpcmkonaaGreatDoor
namespace Go.Proofs.YtbhikkgpcmkonaaGreatDoor
open Go.RowKit
structure xZ where
 s:Sil
 A:Option Addr
 m:Nat
 k:Nat
def LP (x:xZ):Value:=.agg #[.slice x.A x.m x.k,.int .i64 x.s.f,.int .i64 x.s.t,.int .i64 x.s.l.lv,.int .u32 (x.s.l.c:Int)]
structure xZ.At (x:xZ) (w:World):Prop where
 arr:bW w 3 qU x.A x.m x.s.wh
 le:x.m≤65536
 KC:x.s.l.ok
theorem xZ.At.keep {x:xZ} {w w':World} (h:x.At w) (hg:ah w w'):x.At w':=⟨h.arr.keep hg,h.le,h.KC⟩
theorem ahW {fb:cZ→Bool} {x:cZ} (h:mO fb x) (w:World) :
 Calls Tryz.prog 153 #[Fv x] w fun e w'=>e =.returned (.bool (!fb x))∧ah w w':=by
 have cF:=ζ (fun W=>h W);generalize fb x = B at *
 unfold Fv at *
 go_enter Tryz.func153,Tryz.ntmps153
 go_wp2_with fail;refine (cF.out _).mono ?_;rintro e w1 ⟨rfl,hb⟩;have hG:ah w w1:=((ah.refl w).alloc _).trans hb;go_wp2;go_ret;exact⟨aP rfl,hG⟩
theorem ZH {fb:cZ→Bool} {x:xZ} (w:World) (hx:x.At w) (oO:∀y∈x.s.wh,mO fb y) :
 Calls Tryz.prog 104 #[LP x] w fun e w'=>e =.returned (.bool (adS fb x.s))∧ah w w':=by
 have cC:=ζ (fun W (hW:ah w W)=>O6 (c:=x.k) 153 #[] (enters_of Tryz.func153 κ rfl) (fun y=> !fb y) x.A x.m x.s.wh W (hx.arr.keep hW) (by have:=hx.le;omega) (fun y hy W' _=>ahW (oO y hy) W'));have cL:=ζ (fun W=>lX x.s.l W);obtain⟨R,hR⟩:∃R,R=adS fb x.s:=⟨_,rfl⟩;rw[←hR];unfold adS at hR;have lJ:=hx.arr.1;have hle:=hx.le;rw[lJ] at hR;clear hx oO lJ;obtain⟨⟨wh,f,t,⟨lv,lc⟩⟩,A,m,k⟩:=x;simp only at *
 generalize (wh.any fun y=> !fb y)=D at *
 generalize dX lv=G at *
 unfold fC at hR;unfold LP;replace hR:=ζ hR;simp only at *
 by_cases h1:0<m
 ·by_cases h2:m≤12
  ·have h1i:(0:Int)<(m:Int):=ω;have h2i:(m:Int)≤12:=ω;cases D with
   | true=>
    have uh:Hid (R=false):=ζ (by rw[hR.o];simp);go_enter Tryz.func104,Tryz.ntmps104
    go_wp2_with fail;refine (cC.out _ γ).mono ?_;rintro e w1 ⟨rfl,hb⟩;have hG:ah w w1:=((ah.refl w).alloc _).trans hb;go_wp2;go_ret;exact⟨by rw[uh.o];rfl,hG⟩
   | false=>
    go_enter Tryz.func104,Tryz.ntmps104
    go_wp2_with fail;refine (cC.out _ γ).mono ?_;rintro e w1 ⟨rfl,hb⟩;have hG:ah w w1:=((ah.refl w).alloc _).trans hb;have hS:=(aF.new w 159 #[.slice A m k,.int .i64 f,.int .i64 t,.int .i64 lv,.int .u32 (lc:Int)]).grows hb;have s1:=hS.c1;have s2:=hS.c2;have s3:=hS.c3;have s4:=hS.c4;have sl:=hS.lt;clear hS hb cC;by_cases hf:0≤f
    ·by_cases ht:f < t
     ·by_cases hx:t≤1099511627776
      ·have hRg:Hid (R=G):=ζ (by rw[hR.o];simp[h1,h2,hf,ht,hx]);go_wp2_with fail;refine (cL.out _).mono ?_;rintro e w2 ⟨rfl,hb2⟩;go_wp2;go_ret;exact⟨by rw[hRg.o];rfl,hG.trans hb2⟩
      ·have uh:Hid (R=false):=ζ (by rw[hR.o];simp[hx]);go_wp2;go_ret;exact⟨by rw[uh.o];rfl,hG⟩
     ·have uh:Hid (R=false):=ζ (by rw[hR.o];simp[ht]);go_wp2;go_ret;exact⟨by rw[uh.o];rfl,hG⟩
    ·have uh:Hid (R=false):=ζ (by rw[hR.o];simp[hf]);go_wp2;go_ret;exact⟨by rw[uh.o];rfl,hG⟩
  ·have h1i:(0:Int)<(m:Int):=ω;have h2i:¬(m:Int)≤12:=ω;have uh:Hid (R=false):=ζ (by rw[hR.o];simp[h2]);go_enter Tryz.func104,Tryz.ntmps104
   go_wp2;go_ret;refine⟨by rw[uh.o];rfl,?_⟩;exact γ
 ·have h1i:¬(0:Int)<(m:Int):=ω;have uh:Hid (R=false):=ζ (by rw[hR.o];simp[h1]);go_enter Tryz.func104,Tryz.ntmps104
  go_wp2;go_ret;refine⟨by rw[uh.o];rfl,?_⟩;exact γ
end Go.Proofs.YtbhikkgpcmkonaaGreatDoor
namespace Go.Proofs.YtbhikkgpcmkonaaGreatDoor
structure wC where
 set:Option (List Nat)
 next:Nat
 free:List Nat
structure PB where
 at_:Nat
 err:Nat
 aS:List wC
abbrev qw:=Nat×Nat
def Bf (s:List UInt8) (b:PB):Option UInt8:=if b.err=0 then s[b.at_]? else none
def bM (e:Nat) (b:PB):PB:=if b.err=0 then {b with err:=e} else b
def aK (b:PB):PB:={b with at_:=b.at_+1}
def uq:wC:=⟨none,0,[]⟩
def aW (b:PB):PB:={b with aS:=b.aS++[uq]}
def bg (i j:Nat) (b:PB):PB:={b with aS:=b.aS.modify i fun x=>{x with free:=x.free++[j]}}
def eY:List Nat:=[0,0,0,0]
def Gp (ws:List Nat) (c:Nat):List Nat:=ws.modify (c / 64) fun x=>x |||2 ^ (c % 64)
def mM (ws:List Nat) (lo hi:Nat):List Nat:=(List.range' lo (hi+1-lo)).foldl Gp ws
def n_ (ws:List Nat):List Nat:=ws.map fun x=>18446744073709551615-x
def Vk (ws:List Nat) (c:Nat):Bool:=(ws.getD (c / 64) 0).testBit (c % 64)
def ku (ws:List Nat) (b:PB):PB×qw:=({b with aS:=(aW (aW b)).aS.modify b.aS.length fun x=>{x with set:=some ws,next:=b.aS.length+1}},(b.aS.length,b.aS.length+1))
def kF (s:List UInt8) (b:PB):PB×UInt8:=
 if Bf s b = some 92 then (match Bf s (aK b) with
  | none=>(bM 2 (aK (aK b)),0)
  | some c=>(aK (aK b),c))
 else (match Bf s b with
  | none=>(bM 2 (aK b),0)
  | some c=>(aK b,c))
def ou (s:List UInt8):Nat→Bool→PB→List Nat→PB×List Nat
 | 0,_,b,ws=>(bM 2 b,ws)
 | f + 1,first,b,ws=>match Bf s b with
  | none=>(bM 2 b,ws)
  | some d=>
   if d = 93∧first=true then (bM 2 b,ws)
   else if d = 93 then (aK b,ws)
   else
    let r:=kF s b
    let q:=if Bf s r.1=some 45∧r.1.at_+1<s.length∧s[r.1.at_+1]?≠some 93 then kF s (aK r.1) else r
    ou s f false (if q.2.toNat<r.2.toNat then bM 2 q.1 else q.1) (mM ws r.2.toNat q.2.toNat)
def nG (s:List UInt8) (b:PB):PB×List Nat:=
 if Bf s b = some 94 then let r:=ou s (s.length+1) true (aK b) eY;(r.1,n_ r.2)
 else ou s (s.length+1) true b eY
def aeF (c:UInt8):Bool:=c∈([42,43,63,124,40,41,91,93,92,46]:List UInt8)
def b_ (s:List UInt8) (sub:Option (PB→PB×qw)) (c:UInt8) (b:PB):PB×qw:=
 if c = 40 then (match sub with
  | none=>ku eY (bM 3 (aK b))
  | some f=>let r:=f (aK b);(aK (if Bf s r.1=some 41 then r.1 else bM 2 r.1),r.2))
 else if c = 91 then let r:=nG s (aK b);ku r.2 r.1
 else if c = 46 then ku (n_ eY) (aK b)
 else if c = 92 then (match Bf s (aK b) with
  | none=>ku (mM eY 0 0) (aK (bM 2 (aK b)))
  | some d=>ku (mM eY d.toNat d.toNat) (aK (aK b)))
 else if aeF c then ku eY (bM 2 (aK b))
 else ku (mM eY c.toNat c.toNat) (aK b)
def Xf (c:UInt8):Bool:=c∈([42,43,63]:List UInt8)
def fE (s:List UInt8) (b:PB) (x:qw):PB×qw:=match Bf s b with
 | none=>(b,x)
 | some c=>if Xf c then
  let n:=b.aS.length
  let b1:=bg x.2 (n + 1) (bg n x.1 (aW (aW (aK b))))
  let b2:=if c = 43 then b1 else bg n (n + 1) b1
  let b3:=if c = 63 then b2 else bg x.2 x.1 b2
  (b3,(n,n + 1))
  else (b,x)
def FC (s:List UInt8) (sub:Option (PB→PB×qw)):Nat→qw→PB→PB×qw
 | 0,p,b=>(b,p)
 | f + 1,p,b=>match Bf s b with
  | none=>(b,p)
  | some c=>if c = 124∨c = 41 then (b,p) else
   let r:=b_ s sub c b
   let q:=fE s r.1 r.2
   FC s sub f (p.1,q.2.2) (bg p.2 q.2.1 q.1)
def jF (s:List UInt8) (sub:Option (PB→PB×qw)) (b:PB):PB×qw:=FC s sub (s.length+1) (b.aS.length,b.aS.length) (aW b)
def gU (s:List UInt8) (sub:Option (PB→PB×qw)):Nat→qw→PB→PB×qw
 | 0,p,b=>(b,p)
 | f + 1,p,b=>
  let r:=jF s sub b
  let b1:=bg r.2.2 p.2 (bg p.1 r.2.1 r.1)
  if Bf s b1=some 124 then gU s sub f p (aK b1) else (b1,p)
def jm (s:List UInt8):Nat→PB→PB×qw
 | 0,b=>gU s none (s.length+1) (b.aS.length,b.aS.length+1) (aW (aW b))
 | d + 1,b=>gU s (some (jm s d)) (s.length+1) (b.aS.length,b.aS.length+1) (aW (aW b))
structure VQ where
 aS:List wC
 start:Nat
 stop:Nat
def wV (s:List UInt8):PB×qw:=let r:=jm s 8 ⟨0,0,[]⟩;(if r.1.at_<s.length then bM 2 r.1 else r.1,r.2)
def uY (s:List UInt8):Nat:=if 100<s.length then 4 else (wV s).1.err
def yG (s:List UInt8):Option VQ:=if 100<s.length∨(wV s).1.err≠0 then none else some ⟨(wV s).1.aS,(wV s).2.1,(wV s).2.2⟩
end Go.Proofs.YtbhikkgpcmkonaaGreatDoor
namespace Go.Proofs.YtbhikkgpcmkonaaGreatDoor
open Go.RowKit
def apa (ws:List Nat):List Value:=ws.map fun (x:Nat)=> .int .u64 (x:Int)
def fB (w:World) (g:Nat) (ws:List Nat):Prop:=aF w g 385 (apa ws).toArray∧ws.length=4∧∀x∈ws,x < 18446744073709551616
theorem fB.cell {w:World} {g:Nat} {ws:List Nat} (h:fB w g ws) {i x:Nat} (hx:ws[i]? = some x):w.cell? ⟨g,i,none⟩=some (.int .u64 (x:Int)):=by
 rw[h.1.cell];simp[apa,hx]
theorem agr (x k:Nat) (hx:x < 18446744073709551616):(bits .and .u64 ((x:Int) / 2 ^ k) 1==1)=x.testBit k:=by
 have h0:x / 2 ^ k<18446744073709551616:=Nat.lt_of_le_of_lt (Nat.div_le_self _ _) hx;have h1:=u64_and_nat (x / 2 ^ k) 1 h0 δ;have h2:((x / 2 ^ k:Nat):Int)=(x:Int) / 2 ^ k:=by simp
 rw[h2] at h1;rw[show bits .and .u64 ((x:Int) / 2 ^ k) 1=bits .and .u64 ((x:Int) / 2 ^ k) ((1:Nat):Int) from rfl,h1,Nat.and_one_is_mod,WU,Bool.eq_iff_iff,beq_iff_eq,decide_eq_true_eq];omega
theorem ajw {w:World} {g:Nat} {ws:List Nat} {c:Nat} (h:fB w g ws) (hc:c < 256) :
 Calls Tryz.prog 269 #[.pointer (some ⟨g,0,none⟩),.int .u8 (c:Int)] w fun e w'=>e =.returned (.bool (Vk ws c))∧w'=w:=by
 obtain⟨x,hx⟩:∃x,ws[c / 64]? = some x:=⟨_,List.getElem?_eq_getElem (by rw[h.2.1];omega)⟩;have c0:=h.cell hx;have hl:=World.block_lt_of_cell? w _ c0;simp only at hl;have hci:0≤(c:Int)∧(c:Int)≤255:=ω;have hd:((c:Int) / 64).toNat=c / 64:=ω;have hc4:(c:Int) / 64<4:=ω;have hc0:0≤(c:Int) / 64:=ω;replace hc:=ζ hc;go_enter Tryz.func269,Tryz.ntmps269
 have hb:=agr x (c % 64) (h.2.2 x (List.mem_of_getElem? hx));go_wp2;go_ret;refine⟨?_,rfl⟩;simp[Vk,hx]
theorem fB.put {w:World} {g:Nat} {ws:List Nat} (h:fB w g ws) {i x:Nat} (hx:x < 18446744073709551616):fB (w.setCell ⟨g,i,none⟩ (.int .u64 (x:Int))) g (ws.set i x):=by
 refine⟨?_,by rw[List.length_set];exact h.2.1,?_⟩
 ·have:=h.1;unfold aF at *
  simp[World.setCell,Array.getElem?_modify,this,apa,List.map_set]
 ·intro y hy;rcases List.mem_or_eq_of_mem_set hy with hy | rfl
  ·exact h.2.2 y hy
  ·exact hx
theorem ae2 (n:Int):bits .and .i64 n 63=n % 64:=by
 have h63:(BitVec.ofInt 64 63).toNat=2 ^ 6-1:=δ;have key:(BitVec.ofInt 64 n &&&BitVec.ofInt 64 63).toNat=(n % ((2 ^ 64:Nat):Int)).toNat % 2 ^ 6:=by
  rw[BitVec.toNat_and,BitVec.toNat_ofInt,h63,Nat.and_two_pow_sub_one_eq_mod]
 show IntKind.i64.wrap ((BitVec.ofInt 64 n &&&BitVec.ofInt 64 63).toNat:Nat)=n % 64
 rw[key,IntKind.wrap_i64];omega
theorem aer {x j:Nat} (hx:x < 18446744073709551616) (hj:j < 64):x |||2 ^ j < 18446744073709551616:=Nat.or_lt_two_pow (n:=64) hx (Nat.pow_lt_pow_right δ hj)
theorem agu {ws:List Nat} {c x:Nat} (h:ws[c / 64]? = some x):Gp ws c = ws.set (c / 64) (x |||2 ^ (c % 64)):=by
 apply List.ext_getElem?;intro i;rw[Gp,List.getElem?_modify,List.getElem?_set];by_cases hi:c / 64=i
 ·subst hi;obtain⟨hl,rfl⟩:=List.getElem?_eq_some_iff.1 h;simp[hl]
 ·simp[hi]
theorem kL {w:World} {g:Nat} {ws:List Nat} {lo hi:Nat} (h:fB w g ws) (SV:lo<256) (XW:hi<256) :
 Calls Tryz.prog 278 #[.pointer (some ⟨g,0,none⟩),.int .u8 (lo:Int),.int .u8 (hi:Int)] w fun e w'=>e =.returned (.tuple #[])∧fB w' g (mM ws lo hi)∧w.grownBy w' (some g):=by
 have hl:g < w.heap.size:=World.block_lt_of_cell? w _ (h.cell (i:=0) (List.getElem?_eq_getElem (by rw[h.2.1];omega)));have hli:0≤(lo:Int)∧(lo:Int)≤255:=ω;have aES:0≤(hi:Int)∧(hi:Int)≤255:=ω;replace SV:=ζ SV;replace XW:=ζ XW;replace h:=ζ h;go_enter Tryz.func278,Tryz.ntmps278
 go_wp2;go_loopw [6] (fun i wr=>∃k:Nat,lo+k≤256∧(k=0∨lo+k≤hi+1)∧i =.int .i64 ((lo+k:Nat):Int)∧fB wr g ((List.range' lo k).foldl Gp ws)∧w.grownBy wr (some g)) (fun i _=>256-(intOf i).toNat)
 case atStart=>exact⟨0,by have:=SV.o;omega,.inl rfl,by simp,h.o,World.grownBy.refl _ _⟩
 case round=>
  obtain⟨k,hk,hk2,rfl,hs,hg⟩:=hrel;by_cases hlt:lo+k≤hi
  ·have ajv:lo+k<256:=by have:=XW.o;omega
   obtain⟨x,hx⟩:∃x,((List.range' lo k).foldl Gp ws)[(lo+k) / 64]? = some x:=⟨_,List.getElem?_eq_getElem (by rw[hs.2.1];omega)⟩;have JB:=hs.2.2 x (List.mem_of_getElem? hx);have Ce:(List.range' lo (k+1)).foldl Gp ws=((List.range' lo k).foldl Gp ws).set ((lo+k) / 64) (x |||2 ^ ((lo+k) % 64)):=by
    rw[←agu hx,List.range'_concat,List.foldl_append];simp
   have c0:=hs.cell hx;have hlw:=World.block_lt_of_cell? wr _ c0;simp only at hlw;have hor:=u64_or_nat x (2 ^ ((lo+k) % 64)) JB (Nat.pow_lt_pow_right δ (Nat.mod_lt (lo+k) (by decide:0<64)):2 ^ ((lo+k) % 64)<2 ^ 64);have hn:lo+(k+1)=lo+k+1:=ω;have hci:0≤((lo+k:Nat):Int)∧((lo+k:Nat):Int)≤hi:=ω;replace Ce:=ζ Ce;replace hs:=ζ hs;generalize xE:lo+k=c at *
   have hd:((c:Int) / 64).toNat=c / 64:=ω;have hA:bits .and .i64 (c:Int) 63=(c:Int) % 64:=ae2 c;have h6:((c:Int) % 64).toNat=c % 64:=ω;have hW:IntKind.u64.wrap (2 ^ (c % 64))=2 ^ (c % 64):=by
    have h8:(2:Int) ^ (c % 64)<2 ^ 64:=by
     have:=Nat.pow_lt_pow_right (a:=2) δ (Nat.mod_lt c (by decide:0<64));exact_mod_cast this
    have h9:(0:Int)<2 ^ (c % 64):=Int.pow_pos δ;simp only[IntKind.wrap,IntKind.bits,IntKind.signed];simp;omega
   rw[show ((2 ^ (c % 64):Nat):Int)=2 ^ (c % 64) by simp] at hor;have KG:=aer JB (Nat.mod_lt c (by decide:0<64));generalize x |||2 ^ (c % 64)=y at *
   have hc4:(c:Int) / 64<4:=ω;have hc0:0≤(c:Int) / 64:=ω;replace xE:=ζ xE;replace ajv:=ζ ajv;replace hk:=ζ hk;replace hk2:=ζ hk2;go_wp2;refine aG κ ?_;refine rK (.range 12) 1 ?_;iterate 12 refine aC ?_
   refine aB ?_;refine d_ (i:=12) rfl κ κ (fun wN hN hS K' hK=> ?_);clear hS;have hsN:fB wN g _:=⟨(hN.below.block g hlw).trans hs.o.1,hs.o.2⟩;have c0N:=hsN.cell hx;have f0N:=hsN.1.frozen (c / 64);have rlN:=World.block_lt_of_cell? wN _ c0N;simp only at rlN;have hput:=hsN.put (i:=c / 64) KG;rw[←Ce.o] at hput;replace hput:=ζ hput;have hgN:Hid (w.grownBy _ (some g)):=ζ ((hg.trans (hN.uw (some g))).trans (aj wN ⟨g,c / 64,none⟩ (.int .u64 (y:Int))));clear hsN;go_simp;refine hK.o _ _ ?_;clear hK;go_wp2;go_roundw
   case rel=>exact⟨k+1,by rw[hn];exact ajv.o,.inr ω,by rw[hn];simp,hput.o,hgN.o⟩
   case measure=>exact ψ
  ·have auA:¬((lo+k:Nat):Int)≤hi:=ω;have rX:k=hi+1-lo:=ω;have hsz:=hg.size;have hci:0≤((lo+k:Nat):Int)∧((lo+k:Nat):Int)≤256:=ω;replace hk:=ζ hk;replace hk2:=ζ hk2;replace hlt:=ζ hlt;replace rX:=ζ rX;go_wp2;go_end0;refine⟨rfl,?_,hg⟩;rw[mM,←rX.o];exact hs
theorem aci {x:Nat} (hx:x < 18446744073709551616):18446744073709551615 ^^^ x = 18446744073709551615-x:=by
 have:=congrArg BitVec.toNat (BitVec.allOnes_xor (x:=BitVec.ofNat 64 x));rw[BitVec.toNat_xor,BitVec.toNat_not,BitVec.toNat_ofNat,BitVec.toNat_allOnes,Nat.mod_eq_of_lt hx] at this;simpa using this
def qE (k:Nat) (ws:List Nat):List Nat:=(ws.take k).map (fun x=>18446744073709551615-x)++ws.drop k
theorem NC {k:Nat} {ws:List Nat}:(qE k ws)[k]? = ws[k]? :=by
 unfold qE;by_cases hk:k≤ws.length
 ·rw[List.getElem?_append_right (by simp;omega)];simp[List.length_take,Nat.min_eq_left hk]
 ·rw[List.drop_of_length_le ω,List.append_nil,List.getElem?_eq_none (by simp;omega),List.getElem?_eq_none ω]
theorem Ko {k x:Nat} {ws:List Nat} (h:ws[k]? = some x):qE (k+1) ws=(qE k ws).set k (18446744073709551615-x):=by
 obtain⟨hl,rfl⟩:=List.getElem?_eq_some_iff.1 h;unfold qE;rw[List.set_append_right _ _ (by simp;omega),List.length_map,List.length_take,Nat.min_eq_left ω,Nat.sub_self,List.take_succ_eq_append_getElem hl,List.map_append];simp only[List.map_cons,List.map_nil,List.append_assoc,List.singleton_append];rw[List.drop_eq_getElem_cons hl];rfl
theorem WO {w:World} {g:Nat} {ws:List Nat} (h:fB w g ws) :
 Calls Tryz.prog 277 #[.pointer (some ⟨g,0,none⟩)] w fun e w'=>e =.returned (.tuple #[])∧fB w' g (n_ ws)∧w.grownBy w' (some g):=by
 have hl:g < w.heap.size:=World.block_lt_of_cell? w _ (h.cell (i:=0) (List.getElem?_eq_getElem (by rw[h.2.1];omega)));have hwl:=ζ h.2.1;replace h:=ζ h;go_enter Tryz.func277,Tryz.ntmps277
 go_wp2;go_loopw [3] (fun i wr=>∃k:Nat,k≤4∧i =.int .i64 (k:Int)∧fB wr g (qE k ws)∧w.grownBy wr (some g)) (fun i _=>4-(intOf i).toNat)
 case atStart=>exact⟨0,ω,rfl,by simpa[qE] using h.o,World.grownBy.refl _ _⟩
 case round=>
  obtain⟨k,hk,rfl,hs,hg⟩:=hrel;by_cases hlt:k<4
  ·obtain⟨x,hx⟩:∃x,ws[k]? = some x:=⟨_,List.getElem?_eq_getElem (by rw[hwl.o];omega)⟩;have Ce:=Ko hx;rw[←NC] at hx;have JB:=hs.2.2 x (List.mem_of_getElem? hx);have c0:=hs.cell hx;have hlw:=World.block_lt_of_cell? wr _ c0;simp only at hlw;have kY:(k:Int)<4:=ω;have abd:((18446744073709551615-x:Nat):Int)=18446744073709551615-(x:Int):=ω;have KG:18446744073709551615-x < 18446744073709551616:=ω;replace Ce:=ζ Ce;replace hs:=ζ hs;replace hk:=ζ hk;replace abd:=ζ abd;have hX:bits BinOp.xor IntKind.u64 (if IntKind.u64.signed=true then -1 else IntKind.u64.max) (x:Int)=((18446744073709551615-x:Nat):Int):=by
    rw[←aci JB];exact u64_xor_nat 18446744073709551615 x δ JB
   replace hX:=ζ hX;go_wp2;refine aG κ ?_;refine rK (.range 10) 1 ?_;iterate 10 refine aC ?_
   refine aB ?_;refine d_ (i:=10) rfl κ κ (fun wN hN hS K' hK=> ?_);clear hS;have hsN:fB wN g _:=⟨(hN.below.block g hlw).trans hs.o.1,hs.o.2⟩;have c0N:=hsN.cell hx;have f0N:=hsN.1.frozen k;have rlN:=World.block_lt_of_cell? wN _ c0N;simp only at rlN;have hput:=hsN.put (i:=k) KG;rw[←Ce.o] at hput;replace hput:=ζ hput;have hgN:Hid (w.grownBy _ (some g)):=ζ ((hg.trans (hN.uw (some g))).trans (aj wN ⟨g,k,none⟩ (.int .u64 ((18446744073709551615-x:Nat):Int))));clear hsN;go_simp;refine hK.o _ _ ?_;clear hK;go_wp2;go_roundw
   case rel=>exact⟨k+1,ω,by simp,by rw[hX.o];exact hput.o,by rw[hX.o];exact hgN.o⟩
   case measure=>exact ψ
  ·have auA:¬(k:Int)<4:=ω;have rX:k=4:=ω;replace hk:=ζ hk;replace hlt:=ζ hlt;replace rX:=ζ rX;go_wp2;go_end0;refine⟨rfl,?_,hg⟩;have:qE k ws=n_ ws:=by
    rw[rX.o,qE,n_,List.take_of_length_le (by rw[hwl.o];omega),List.drop_of_length_le (by rw[hwl.o];omega),List.append_nil]
   rw[←this];exact hs
structure xH where
 pv:Value
 next:Nat
 fv:Value
def IE (x:xH):List Value:=[x.pv,.int .i64 (x.next:Int),x.fv]
def Me (w:World) (base:Nat) (v:Value):Option (List Nat)→Prop
 | none=>v =.pointer none
 | some ws=>∃g,v =.pointer (some ⟨g,0,none⟩)∧base≤g∧fB w g ws
structure jP (w:World) (base gB:Nat) (s:List UInt8) (b:PB) (xs:List xH) (sv:Value):Prop where
 blk:aF w gB 358 #[.string ⟨s.toArray⟩,.int .i64 (b.at_:Int),.int .i64 (b.err:Int),sv]
 le:base≤gB
 own:Own w base 377 3 IE sv xs
 len:xs.length=b.aS.length
 st:∀(i:Nat) x y,xs[i]? = some x→b.aS[i]? = some y→x.next=y.next∧Me w base x.pv y.set∧Own w base 3 1 encI x.fv y.free
 apart:∀(i j:Nat) x y g,xs[i]? = some x→xs[j]? = some y→i≠j→x.fv.ownBlock=some g→y.fv.ownBlock≠some g
theorem fB.grows {w w':World} {g:Nat} {ws:List Nat} (h:fB w g ws) (hg:ah w w'):fB w' g ws:=⟨(hg.below.block g h.1.lt).trans h.1,h.2⟩
theorem Me.grows {w w':World} {base:Nat} {v:Value} {o:Option (List Nat)} (h:Me w base v o) (hg:ah w w'):Me w' base v o:=by
 cases o with
 | none=>exact h
 | some ws=>obtain⟨g,h1,h2,h3⟩:=h;exact⟨g,h1,h2,h3.grows hg⟩
theorem jP.grows {w w':World} {base gB:Nat} {s:List UInt8} {b:PB} {xs:List xH} {sv:Value} (h:jP w base gB s b xs sv) (hg:ah w w'):jP w' base gB s b xs sv where
 blk:=(hg.below.block gB h.blk.lt).trans h.blk
 le:=h.le
 own:=h.own.grows hg
 len:=h.len
 st:=fun i x y h1 h2=>⟨(h.st i x y h1 h2).1,(h.st i x y h1 h2).2.1.grows hg,(h.st i x y h1 h2).2.2.grows hg⟩
 apart:=h.apart
def wG (s:List UInt8) (b:PB):Value:=.tuple (match Bf s b with | none=> #[.int .u8 0,.bool false] | some c=> #[.int .u8 (c.toNat:Int),.bool true])
theorem eH {w:World} {base gB:Nat} {s:List UInt8} {b:PB} {xs:List xH} {sv:Value} (h:jP w base gB s b xs sv) :
 Calls Tryz.prog 267 #[.pointer (some ⟨gB,0,none⟩)] w fun e w'=>e =.returned (wG s b)∧ah w w':=by
 have c0:w.cell? ⟨gB,0,none⟩=some (.string ⟨s.toArray⟩):=(h.blk.cell 0).trans rfl;have c1:w.cell? ⟨gB,1,none⟩=some (.int .i64 (b.at_:Int)):=(h.blk.cell 1).trans rfl;have c2:w.cell? ⟨gB,2,none⟩=some (.int .i64 (b.err:Int)):=(h.blk.cell 2).trans rfl;have hl:=h.blk.lt;have hG:ah w w:=ah.refl w;by_cases he:b.err=0
 ·rw[he] at c2;by_cases ha:b.at_<s.length
  ·have hai:¬((s.length:Nat):Int)≤(b.at_:Int):=ω;have Rh:s[b.at_]? = some s[b.at_]:=List.getElem?_eq_getElem ha;have hv:wG s b =.tuple #[.int .u8 (s[b.at_].toNat:Int),.bool true]:=by simp[wG,Bf,he,Rh]
   rw[hv];clear hv;replace h:=ζ h;go_enter Tryz.func267,Tryz.ntmps267
   go_wp2;refine aG κ ?_;refine rK (.range 17) 0 ?_;iterate 17 refine aC ?_
   refine aB ?_;refine aJ κ (fun wN hN hS=> ?_);clear hS;have d0:=(Below.cell (p:=⟨gB,0,none⟩) hN.below hl).trans c0;have d1:=(Below.cell (p:=⟨gB,1,none⟩) hN.below hl).trans c1;have Y9:=World.block_lt_of_cell? _ _ d0;simp only at Y9;replace hG:=hG.trans hN;clear hN c0 c1 c2 hl;go_wp2;refine aG κ ?_;refine rK (.range 11) 0 ?_;iterate 11 refine aC ?_
   refine aB ?_;refine aJ κ (fun wN hN hS=> ?_);go_wp2;go_ret2;exact⟨rfl,hG.trans hN⟩
  ·have hai:((s.length:Nat):Int)≤(b.at_:Int):=ω;have Rh:s[b.at_]? = none:=List.getElem?_eq_none ω;have hv:wG s b =.tuple #[.int .u8 0,.bool false]:=by simp[wG,Bf,he,Rh]
   rw[hv];clear hv;replace h:=ζ h;go_enter Tryz.func267,Tryz.ntmps267
   go_wp2;refine aG κ ?_;refine rK (.range 17) 0 ?_;iterate 17 refine aC ?_
   refine aB ?_;refine aJ κ (fun wN hN hS=> ?_);go_wp2;go_ret2;exact⟨rfl,hG.trans hN⟩
 ·have hei:¬(b.err:Int)=0:=ω;have hv:wG s b =.tuple #[.int .u8 0,.bool false]:=by simp[wG,Bf,he]
  rw[hv];clear hv;replace h:=ζ h;go_enter Tryz.func267,Tryz.ntmps267
  go_wp2;refine aG κ ?_;refine rK (.range 17) 0 ?_;iterate 17 refine aC ?_
  refine aB ?_;refine aJ κ (fun wN hN hS=> ?_);go_wp2;go_ret2;exact⟨rfl,hG.trans hN⟩
theorem rD {α:Type} {w w':World} {base k m:Nat} {e te:TypeId} {enc:α→List Value} {v:Value} {xs:List α} {cs:Array Value} (h:Own w base e k enc v xs) (hm:aF w m te cs) (hne:e≠te) (hg:w.grownBy w' (some m)):Own w' base e k enc v xs:=
 h.kept' hg (fun g jw hv=>by
  injection jw with jw
  subst jw;obtain⟨cur,hc⟩:=bV h hv;unfold aF at hm;rw[hm] at hc;simp only[Option.some.injEq,Obj.cells.injEq] at hc;exact hne hc.2.1.symm)
theorem fB.off {w w':World} {g m:Nat} {ws:List Nat} {te:TypeId} {cs:Array Value} (h:fB w g ws) (hm:aF w m te cs) (hne:385≠te) (hg:w.grownBy w' (some m)):fB w' g ws:=by
 refine⟨(hg.block g h.1.lt (fun hh=> ?_)).trans h.1,h.2⟩;injection hh with hh
 subst hh;have h1:=h.1;unfold aF at h1 hm;rw[hm] at h1;simp only[Option.some.injEq,Obj.cells.injEq] at h1;exact hne h1.2.1.symm
theorem Me.off {w w':World} {base m:Nat} {v:Value} {o:Option (List Nat)} {te:TypeId} {cs:Array Value} (h:Me w base v o) (hm:aF w m te cs) (hne:385≠te) (hg:w.grownBy w' (some m)):Me w' base v o:=by
 cases o with
 | none=>exact h
 | some ws=>obtain⟨g,h1,h2,h3⟩:=h;exact⟨g,h1,h2,h3.off hm hne hg⟩
theorem jP.turn {w w':World} {base gB:Nat} {s:List UInt8} {b b':PB} {xs:List xH} {sv:Value} (h:jP w base gB s b xs sv) (hg:w.grownBy w' (some gB)) (hb:b'.aS=b.aS)
 (hc:aF w' gB 358 #[.string ⟨s.toArray⟩,.int .i64 (b'.at_:Int),.int .i64 (b'.err:Int),sv]):jP w' base gB s b' xs sv where
 blk:=hc
 le:=h.le
 own:=rD h.own h.blk δ hg
 len:=by rw[hb];exact h.len
 st:=fun i x y h1 h2=>by
  rw[hb] at h2;obtain⟨a1,a2,a3⟩:=h.st i x y h1 h2;exact⟨a1,a2.off h.blk δ hg,rD a3 h.blk δ hg⟩
 apart:=h.apart
theorem jX {w:World} {base gB e:Nat} {s:List UInt8} {b:PB} {xs:List xH} {sv:Value} (h:jP w base gB s b xs sv) :
 Calls Tryz.prog 250 #[.pointer (some ⟨gB,0,none⟩),.int .i64 (e:Int)] w fun r w'=>r =.returned (.tuple #[])∧jP w' base gB s (bM e b) xs sv∧w.grownBy w' (some gB):=by
 have c2:w.cell? ⟨gB,2,none⟩=some (.int .i64 (b.err:Int)):=(h.blk.cell 2).trans rfl;have f2:=h.blk.frozen 2;have hl:=h.blk.lt;by_cases he:b.err=0
 ·rw[he] at c2;have hf:bM e b = {b with err:=e}:=by simp[bM,he]
  have aI:=aj w ⟨gB,2,none⟩ (.int .i64 (e:Int));have hB:jP (w.setCell ⟨gB,2,none⟩ (.int .i64 (e:Int))) base gB s (bM e b) xs sv:=by
   refine h.turn aI (by rw[hf]) ?_;rw[hf];have:=h.blk;unfold aF at *
   simp[World.setCell,Array.getElem?_modify,this]
  replace hB:=ζ hB;replace aI:=ζ aI;clear hf h;go_enter Tryz.func250,Tryz.ntmps250
  go_wp2;go_end0;exact⟨rfl,hB.o,aI.o⟩
 ·have hei:¬(b.err:Int)=0:=ω;have hf:bM e b = b:=by simp[bM,he]
  rw[hf];clear hf;replace h:=ζ h;go_enter Tryz.func250,Tryz.ntmps250
  go_wp2;go_end0;exact⟨rfl,h.o,World.grownBy.refl _ _⟩
end Go.Proofs.YtbhikkgpcmkonaaGreatDoor
namespace Go.Proofs.YtbhikkgpcmkonaaGreatDoor
def jJ (l:List wC):Nat:=(l.map fun x=>x.free.length).sum
def dY (b:PB):Nat:=b.aS.length+jJ b.aS
theorem Iz (l:List wC):∀(i j:Nat),jJ (l.modify i fun x=>{x with free:=x.free++[j]})≤jJ l + 1:=by
 induction l with
 | nil=>intro i j;simp[jJ]
 | cons a l ih=>
  intro i j;cases i with
  | zero=>simp[jJ];omega
  | succ i=>
   have:=ih i j;simp only[jJ,List.modify_succ_cons,List.map_cons,List.sum_cons] at this ⊢;omega
theorem afC (l:List wC) (ws:List Nat) (n:Nat):∀(i:Nat),jJ (l.modify i fun x=>{x with set:=some ws,next:=n})=jJ l:=by
 induction l with
 | nil=>intro i;simp[jJ]
 | cons a l ih=>
  intro i;cases i with
  | zero=>simp[jJ]
  | succ i=>
   have:=ih i;simp only[jJ,List.modify_succ_cons,List.map_cons,List.sum_cons] at this ⊢;omega
theorem VB (l m:List wC):jJ (l ++m)=jJ l + jJ m:=by simp[jJ]
theorem afD {l:List wC} {i:Nat} {y:wC} (h:l[i]? = some y):y.free.length≤jJ l:=by
 have hm:y∈l:=List.mem_of_getElem? h;clear h;induction l with
 | nil=>cases hm
 | cons a l ih=>
  simp only[jJ,List.map_cons,List.sum_cons] at ih ⊢;rcases List.mem_cons.1 hm with rfl | hm
  ·omega
  ·have:=ih hm;omega
structure PT (b b':PB) (c:Int):Prop where
 at_:b.at_≤b'.at_
 len:b.aS.length≤b'.aS.length
 cost:(dY b':Int)-8*b'.at_≤dY b - 8*b.at_+c
theorem PT.refl (b:PB):PT b b 0:=⟨Nat.le_refl _,Nat.le_refl _,ω⟩
theorem PT.trans {a b c:PB} {m n k:Int} (h:PT a b m) (h':PT b c n) (hk:m + n≤k):PT a c k:=
 ⟨Nat.le_trans h.at_ h'.at_,Nat.le_trans h.len h'.len,by have:=h.cost;have:=h'.cost;omega⟩
theorem PT.weak {a b:PB} {m k:Int} (h:PT a b m) (hk:m≤k):PT a b k:=⟨h.at_,h.len,by have:=h.cost;omega⟩
def WP (s:List UInt8) (k:Nat) (b:PB):Prop:=b.at_≤s.length+k∧(b.err=0→b.at_≤s.length)
theorem WP.weak {s:List UInt8} {k m:Nat} {b:PB} (h:WP s k b) (hm:k≤m):WP s m b:=⟨by have:=h.1;omega,h.2⟩
theorem WP.of_le {s:List UInt8} {k:Nat} {b:PB} (h:b.at_≤s.length):WP s k b:=⟨ω,fun _=>h⟩
theorem iQ {s:List UInt8} {b:PB} {c:UInt8} (h:Bf s b = some c):b.err=0∧b.at_<s.length∧s[b.at_]? = some c:=by
 unfold Bf at h;split at h
 ·rename_i he;exact⟨he,(List.getElem?_eq_some_iff.1 h).1,h⟩
 ·cases h
theorem dS (e:Nat) (b:PB):(bM e b).at_=b.at_:=by unfold bM;split <;> rfl
theorem fK (e:Nat) (b:PB):(bM e b).aS=b.aS:=by unfold bM;split <;> rfl
theorem Dp {e:Nat} (he:e≠0) (b:PB):(bM e b).err≠0:=by unfold bM;split <;> assumption
theorem pU {e k:Nat} {s:List UInt8} (he:e≠0) {b:PB} (h:b.at_≤s.length+k):WP s k (bM e b):=⟨by rw[dS];exact h,fun h0=>absurd h0 (Dp he b)⟩
theorem nT (e:Nat) (b:PB):PT b (bM e b) 0:=⟨by rw[dS];exact Nat.le_refl _,by rw[fK];exact Nat.le_refl _,by unfold dY;rw[dS,fK];omega⟩
theorem jO (b:PB):PT b (aK b) (-8):=⟨by simp[aK],by simp[aK],by simp[aK,dY];omega⟩
theorem BJ (b:PB):PT b (aW b) 1:=⟨by simp[aW],by simp[aW],by simp[aW,dY,jJ,uq];omega⟩
theorem yR (i j:Nat) (b:PB):PT b (bg i j b) 1:=⟨by simp[bg],by simp[bg],by have:=Iz b.aS i j;simp[bg,dY];omega⟩
theorem dZ (b:PB):(aW b).aS.length=b.aS.length+1:=by simp[aW]
theorem dR (i j:Nat) (b:PB):(bg i j b).aS.length=b.aS.length:=by simp[bg]
theorem aj0 {s:List UInt8} {k i j:Nat} {b:PB} (h:WP s k b):WP s k (bg i j b):=h
def IL (x:qw) (b:PB):Prop:=x.1<b.aS.length∧x.2<b.aS.length
theorem IL.mono {x:qw} {b b':PB} (h:IL x b) (hl:b.aS.length≤b'.aS.length):IL x b':=⟨Nat.lt_of_lt_of_le h.1 hl,Nat.lt_of_lt_of_le h.2 hl⟩
theorem wX (ws:List Nat) (b:PB):PT b (ku ws b).1 2∧IL (ku ws b).2 (ku ws b).1∧(ku ws b).1.at_=b.at_∧(ku ws b).1.err=b.err:=by
 refine⟨⟨Nat.le_refl _,by simp[ku,aW],?_⟩,⟨by simp[ku,aW],by simp[ku,aW]⟩,rfl,rfl⟩;have:dY (ku ws b).1=dY b + 2:=by
  unfold dY ku;simp only[List.length_modify,afC,aW,VB,List.length_append];simp[jJ,uq];omega
 have h2:(ku ws b).1.at_=b.at_:=rfl;rw[this,h2];omega
theorem zD {s:List UInt8} {k:Nat} {b:PB} {ws:List Nat} (h:WP s k b):WP s k (ku ws b).1:=h
theorem Hw {s:List UInt8} {b:PB} (h:b.at_<s.length):PT b (kF s b).1 (-8)∧WP s 2 (kF s b).1∧(kF s b).1.aS=b.aS∧b.at_<(kF s b).1.at_:=by
 unfold kF;split
 ·split
  ·refine⟨((jO b).trans (jO _) (Int.le_refl _)).trans (nT _ _) ω,pU δ (by simp[aK];omega),by rw[fK];rfl,by rw[dS];simp[aK];omega⟩
  ·rename_i hc;have:=(iQ hc).2.1;refine⟨(jO b).trans (jO _) ω,WP.of_le (by simp[aK] at this ⊢;omega),rfl,by simp[aK];omega⟩
 ·split
  ·exact⟨(jO b).trans (nT _ _) ω,pU δ (by simp[aK];omega),by rw[fK];rfl,by rw[dS];simp[aK]⟩
  ·exact⟨jO b,WP.of_le (by simp[aK];omega),rfl,by simp[aK]⟩
def kV (s:List UInt8) (r:PB×UInt8):PB×UInt8:=if Bf s r.1=some 45∧r.1.at_+1<s.length∧s[r.1.at_+1]?≠some 93 then kF s (aK r.1) else r
theorem aed {s:List UInt8} {b:PB} {r:PB×UInt8} (h:PT b r.1 (-8)∧WP s 2 r.1∧r.1.aS=b.aS∧b.at_<r.1.at_):PT b (kV s r).1 (-8)∧WP s 2 (kV s r).1∧(kV s r).1.aS=b.aS∧b.at_<(kV s r).1.at_:=by
 unfold kV;split
 ·rename_i hc;have h1:=Hw (s:=s) (b:=aK r.1) (by simp[aK];omega);have h2:=h1.1.at_;exact⟨(h.1.trans (jO _) (Int.le_refl _)).trans h1.1 ω,h1.2.1,by rw[h1.2.2.1];exact h.2.2.1,by have:=h.2.2.2;have h3:(aK r.1).at_=r.1.at_+1:=rfl;omega⟩
 ·exact h
theorem YB {s:List UInt8} {f:Nat} {first:Bool} {b:PB} {ws:List Nat} (hf:s.length≤f + b.at_):ou s f first b ws=match Bf s b with
 | none=>(bM 2 b,ws)
 | some d=>
  if d = 93∧first=true then (bM 2 b,ws)
  else if d = 93 then (aK b,ws)
  else
   let r:=kF s b
   let q:=kV s r
   ou s (f - 1) false (if q.2.toNat<r.2.toNat then bM 2 q.1 else q.1) (mM ws r.2.toNat q.2.toNat):=by
 cases f with
 | zero=>
  rw[ou];split
  ·rfl
  ·rename_i hc;have:=(iQ hc).2.1;omega
 | succ f=>rfl
theorem anf {s:List UInt8} {b:PB} {q:PB} {p:Prop} [Decidable p] (h:PT b q (-8)∧WP s 2 q∧q.aS=b.aS∧b.at_<q.at_) :
 PT b (if p then bM 2 q else q) (-8)∧WP s 2 (if p then bM 2 q else q)∧(if p then bM 2 q else q).aS=b.aS∧b.at_<(if p then bM 2 q else q).at_:=by
 split
 ·exact⟨h.1.trans (nT _ _) ω,pU δ h.2.1.1,by rw[fK];exact h.2.2.1,by rw[dS];exact h.2.2.2⟩
 ·exact h
theorem TP (s:List UInt8):∀(f:Nat) (first:Bool) (b:PB) (ws:List Nat),WP s 2 b→PT b (ou s f first b ws).1 0∧WP s 2 (ou s f first b ws).1∧(ou s f first b ws).1.aS=b.aS:=by
 intro f;induction f with
 | zero=>intro first b ws hW;exact⟨nT _ _,pU δ hW.1,fK _ _⟩
 | succ f ih=>
  intro first b ws hW;rw[ou];split
  ·exact⟨nT _ _,pU δ hW.1,fK _ _⟩
  ·rename_i d hd;split
   ·exact⟨nT _ _,pU δ hW.1,fK _ _⟩
   ·split
    ·exact⟨(jO b).weak ω,WP.of_le (by have:=(iQ hd).2.1;simp[aK];omega),rfl⟩
    ·have h1:=aed (Hw (iQ hd).2.1);have h2:=anf (p:=(kV s (kF s b)).2.toNat<(kF s b).2.toNat) h1;have h3:=ih false _ (mM ws (kF s b).2.toNat (kV s (kF s b)).2.toNat) h2.2.1;exact⟨h2.1.trans h3.1 ω,h3.2.1,h3.2.2.trans h2.2.2.1⟩
theorem Dt {s:List UInt8} {b:PB} (hW:WP s 2 b):PT b (nG s b).1 0∧WP s 2 (nG s b).1∧(nG s b).1.aS=b.aS:=by
 unfold nG;split
 ·rename_i h;have h1:=TP s (s.length+1) true (aK b) eY (WP.of_le (by have:=(iQ h).2.1;simp[aK];omega));exact⟨(jO b).trans h1.1 ω,h1.2.1,h1.2.2⟩
 ·exact TP s _ true b eY hW
def Gq (s:List UInt8) (k:Nat) (sub:Option (PB→PB×qw)):Prop:=∀f,sub=some f→∀b,b.at_≤s.length→PT b (f b).1 5∧WP s k (f b).1∧IL (f b).2 (f b).1
theorem Pe {s:List UInt8} {k:Nat} {sub:Option (PB→PB×qw)} {c:UInt8} {b:PB} (hs:Gq s k sub) (hk:2≤k) (hb:b.at_<s.length) :
 PT b (b_ s sub c b).1 (-6)∧WP s (k+1) (b_ s sub c b).1∧IL (b_ s sub c b).2 (b_ s sub c b).1:=by
 have ha:=jO b;have Bl:(aK b).at_≤s.length:=by simp[aK];omega
 unfold b_;split
 ·split
  ·have h1:=wX eY (bM 3 (aK b));exact⟨(ha.trans (nT _ _) (Int.le_refl _)).trans h1.1 ω,zD (pU δ ω),h1.2.1⟩
  ·rename_i f;have h1:=hs f rfl (aK b) Bl;simp only;split
   ·rename_i hp;refine⟨(ha.trans h1.1 (Int.le_refl _)).trans (jO _) ω,WP.of_le ?_,h1.2.2⟩;have:=(iQ hp).2.1;simp[aK] at this ⊢;omega
   ·refine⟨((ha.trans h1.1 (Int.le_refl _)).trans (nT 2 _) (Int.le_refl _)).trans (jO _) ω,?_,?_⟩
    ·have h2:=h1.2.1.1;refine⟨by simp only[aK,dS] at h2 ⊢;omega,fun h0=>absurd h0 ?_⟩;exact Dp (e:=2) δ (f (aK b)).1
    ·have:=h1.2.2;refine this.mono ?_;simp[aK,fK]
 ·split
  ·have h1:=Dt (s:=s) (b:=aK b) (WP.of_le Bl);have h2:=wX (nG s (aK b)).2 (nG s (aK b)).1;exact⟨(ha.trans h1.1 (Int.le_refl _)).trans h2.1 ω,(zD h1.2.1).weak ω,h2.2.1⟩
  ·split
   ·have h2:=wX (n_ eY) (aK b);exact⟨ha.trans h2.1 ω,zD (WP.of_le Bl),h2.2.1⟩
   ·split
    ·split
     ·have h2:=wX (mM eY 0 0) (aK (bM 2 (aK b)));refine⟨((ha.trans (nT 2 _) (Int.le_refl _)).trans (jO _) (Int.le_refl _)).trans h2.1 ω,?_,h2.2.1⟩;refine zD ⟨by simp only[aK,dS] at Bl ⊢;omega,fun h0=>absurd h0 (Dp (e:=2) δ (aK b))⟩
     ·rename_i d hd;have h2:=wX (mM eY d.toNat d.toNat) (aK (aK b));refine⟨(ha.trans (jO _) (Int.le_refl _)).trans h2.1 ω,zD (WP.of_le ?_),h2.2.1⟩;have:=(iQ hd).2.1;simp[aK] at this ⊢;omega
    ·split
     ·have h1:=wX eY (bM 2 (aK b));exact⟨(ha.trans (nT _ _) (Int.le_refl _)).trans h1.1 ω,zD (pU δ ω),h1.2.1⟩
     ·have h2:=wX (mM eY c.toNat c.toNat) (aK b);exact⟨ha.trans h2.1 ω,zD (WP.of_le Bl),h2.2.1⟩
theorem Ji {s:List UInt8} {k:Nat} {b:PB} {x:qw} (hW:WP s k b) (hx:IL x b):PT b (fE s b x).1 0∧WP s k (fE s b x).1∧IL (fE s b x).2 (fE s b x).1:=by
 unfold fE;split
 ·exact⟨PT.refl b,hW,hx⟩
 ·rename_i c hc;split
  ·have h0:=(((((jO b).trans (BJ _) (Int.le_refl _)).trans (BJ _) (Int.le_refl _)).trans (yR b.aS.length x.1 _) (Int.le_refl _)).trans (yR x.2 (b.aS.length+1) _) (Int.le_refl _));have yg:WP s k (aK b):=WP.of_le (by have:=(iQ hc).2.1;simp[aK];omega);have hI:b.aS.length+1<(bg x.2 (b.aS.length+1) (bg b.aS.length x.1 (aW (aW (aK b))))).aS.length:=by
    simp only[dR,dZ,aK];omega
   simp only;have hp:∀(p:Prop) [Decidable p] (i j:Nat) (z:PB),WP s k z→PT z (if p then z else bg i j z) 1∧WP s k (if p then z else bg i j z)∧(if p then z else bg i j z).aS.length=z.aS.length:=by
    intro p _ i j z hz;split
    ·exact⟨(PT.refl z).weak ω,hz,rfl⟩
    ·exact⟨yR _ _ _,hz,dR _ _ _⟩
   have h1:=hp (c = 43) b.aS.length (b.aS.length+1) _ (show WP s k (bg x.2 (b.aS.length+1) (bg b.aS.length x.1 (aW (aW (aK b))))) from yg);have h2:=hp (c = 63) x.2 x.1 _ h1.2.1;refine⟨(h0.trans h1.1 (Int.le_refl _)).trans h2.1 ω,h2.2.1,?_,?_⟩
   ·rw[h2.2.2,h1.2.2];omega
   ·rw[h2.2.2,h1.2.2];exact hI
  ·exact⟨PT.refl b,hW,hx⟩
theorem ad4 {s:List UInt8} {sub:Option (PB→PB×qw)} {f:Nat} {p:qw} {b:PB} (hf:s.length≤f + b.at_):FC s sub f p b = match Bf s b with
 | none=>(b,p)
 | some c=>if c = 124∨c = 41 then (b,p) else
  let r:=b_ s sub c b
  let q:=fE s r.1 r.2
  FC s sub (f - 1) (p.1,q.2.2) (bg p.2 q.2.1 q.1):=by
 cases f with
 | zero=>
  rw[FC];split
  ·rfl
  ·rename_i hc;have:=(iQ hc).2.1;omega
 | succ f=>rfl
theorem alU {s:List UInt8} {k:Nat} {sub:Option (PB→PB×qw)} (hs:Gq s k sub) (hk:2≤k):∀(f:Nat) (p:qw) (b:PB),WP s (k+1) b→IL p b→
 PT b (FC s sub f p b).1 0∧WP s (k+1) (FC s sub f p b).1∧IL (FC s sub f p b).2 (FC s sub f p b).1:=by
 intro f;induction f with
 | zero=>intro p b hW hI;exact⟨PT.refl b,hW,hI⟩
 | succ f ih=>
  intro p b hW hI;rw[FC];split
  ·exact⟨PT.refl b,hW,hI⟩
  ·rename_i c hc;split
   ·exact⟨PT.refl b,hW,hI⟩
   ·have h1:=Pe (c:=c) hs hk (iQ hc).2.1;have h2:=Ji h1.2.1 h1.2.2;have h3:=ih (p.1,(fE s (b_ s sub c b).1 (b_ s sub c b).2).2.2) (bg p.2 (fE s (b_ s sub c b).1 (b_ s sub c b).2).2.1 (fE s (b_ s sub c b).1 (b_ s sub c b).2).1) h2.2.1
     ⟨by rw[dR];exact Nat.lt_of_lt_of_le hI.1 (Nat.le_trans h1.1.len h2.1.len),by rw[dR];exact h2.2.2.2⟩
    exact⟨((h1.1.trans h2.1 (Int.le_refl _)).trans (yR _ _ _) (Int.le_refl _)).trans h3.1 ω,h3.2⟩
theorem UF {s:List UInt8} {k:Nat} {sub:Option (PB→PB×qw)} (hs:Gq s k sub) (hk:2≤k) {b:PB} (hW:WP s (k+1) b) :
 PT b (jF s sub b).1 1∧WP s (k+1) (jF s sub b).1∧IL (jF s sub b).2 (jF s sub b).1:=by
 have h1:=alU hs hk (s.length+1) (b.aS.length,b.aS.length) (aW b) hW ⟨by rw[dZ];simp,by rw[dZ];simp⟩;exact⟨(BJ b).trans h1.1 ω,h1.2⟩
theorem abT {s:List UInt8} {k:Nat} {sub:Option (PB→PB×qw)} (hs:Gq s k sub) (hk:2≤k):∀(f:Nat) (p:qw) (b:PB),WP s (k+1) b→IL p b→
 PT b (gU s sub f p b).1 3∧WP s (k+1) (gU s sub f p b).1∧IL (gU s sub f p b).2 (gU s sub f p b).1:=by
 intro f;induction f with
 | zero=>intro p b hW hI;exact⟨(PT.refl b).weak ω,hW,hI⟩
 | succ f ih=>
  intro p b hW hI;rw[gU];have h1:=UF hs hk hW;have h2:PT b (bg (jF s sub b).2.2 p.2 (bg p.1 (jF s sub b).2.1 (jF s sub b).1)) 3:=(h1.1.trans (yR _ _ _) (Int.le_refl _)).trans (yR _ _ _) ω;have hI2:IL p (bg (jF s sub b).2.2 p.2 (bg p.1 (jF s sub b).2.1 (jF s sub b).1)):=hI.mono h2.len;split
  ·rename_i hp;have h3:=ih p (aK (bg (jF s sub b).2.2 p.2 (bg p.1 (jF s sub b).2.1 (jF s sub b).1))) (WP.of_le (by have:=(iQ hp).2.1;simp[aK,bg] at this ⊢;omega)) hI2;exact⟨(h2.trans (jO _) (Int.le_refl _)).trans h3.1 ω,h3.2⟩
  ·exact⟨h2,h1.2.1,hI2⟩
theorem Gh (s:List UInt8):∀(d:Nat) (b:PB),b.at_≤s.length→PT b (jm s d b).1 5∧WP s (3+d) (jm s d b).1∧IL (jm s d b).2 (jm s d b).1:=by
 have hst:∀(sub:Option (PB→PB×qw)) (k:Nat) (b:PB),Gq s k sub→2≤k→b.at_≤s.length→PT b (gU s sub (s.length+1) (b.aS.length,b.aS.length+1) (aW (aW b))).1 5∧WP s (k+1) (gU s sub (s.length+1) (b.aS.length,b.aS.length+1) (aW (aW b))).1∧IL (gU s sub (s.length+1) (b.aS.length,b.aS.length+1) (aW (aW b))).2 (gU s sub (s.length+1) (b.aS.length,b.aS.length+1) (aW (aW b))).1:=by
  intro sub k b hs hk hb;have h1:=abT hs hk (s.length+1) (b.aS.length,b.aS.length+1) (aW (aW b)) (WP.of_le hb) ⟨by simp only[dZ];omega,by simp only[dZ];omega⟩;exact⟨((BJ b).trans (BJ _) (Int.le_refl _)).trans h1.1 ω,h1.2⟩
 intro d;induction d with
 | zero=>intro b hb;exact hst none 2 b (fun f hf=>by cases hf) ω hb
 | succ d ih=>
  intro b hb;have:=hst (some (jm s d)) (3+d) b (fun f hf b hb=>by injection hf with hf;subst hf;exact ih b hb) ω hb;exact⟨this.1,this.2.1.weak ω,this.2.2⟩
end Go.Proofs.YtbhikkgpcmkonaaGreatDoor
namespace Go.Proofs.YtbhikkgpcmkonaaGreatDoor
open Go.RowKit
theorem aA_:eX Tryz.prog 356 377 3 40:=eX.mk' (z:=.agg #[.pointer none,.int .i64 0,.slice none 0 0]) Tryz.underlying356 κ rfl ω
def tH:xH:=⟨.pointer none,0,.slice none 0 0⟩
theorem atF:∀u∈IE tH,u.oneCell'=true:=by intro u hu;simp[IE,tH] at hu;rcases hu with rfl | rfl | rfl <;> rfl
theorem Ve:∀x,(IE x).length=3:=fun _=>rfl
structure ay (T:List TypeId) (base:Nat) (w w':World):Prop where
 below:Below base w w'
 kept:∀(g:Nat) (cur:Array Value) (te:TypeId) (fz:Nat×Nat),w.heap[g]? = some (Obj.cells cur te fz)→te∉T→w'.heap[g]? = w.heap[g]?
theorem ay.refl (T:List TypeId) (base:Nat) (w:World):ay T base w w:=⟨Below.refl _ _,fun _ _ _ _ _ _=>rfl⟩
theorem ay.trans {T:List TypeId} {base:Nat} {a b c:World} (h:ay T base a b) (k:ay T base b c):ay T base a c:=
 ⟨h.below.trans k.below,fun g cur te fz hg ht=>(k.kept g cur te fz ((h.kept g cur te fz hg ht).trans hg) ht).trans (h.kept g cur te fz hg ht)⟩
theorem ay.mono {T T':List TypeId} {base:Nat} {a b:World} (h:ay T base a b) (hT:∀t∈T,t∈T'):ay T' base a b:=
 ⟨h.below,fun g cur te fz hg ht=>h.kept g cur te fz hg fun hh=>ht (hT _ hh)⟩
theorem oq {w:World} {g:Nat} {o:Obj} (h:w.heap[g]? = some o):g < w.heap.size:=(Array.getElem?_eq_some_iff.1 h).1
theorem ay.grows {T:List TypeId} {base:Nat} {a b:World} (hg:ah a b) (hb:base≤a.heap.size):ay T base a b:=
 ⟨Below.mono hg.below hb,fun g _ _ _ h _=>hg.below.block g (oq h)⟩
theorem ay.size {T:List TypeId} {base:Nat} {a b:World} (h:ay T base a b):a.heap.size≤b.heap.size:=h.below.size
theorem ay.blk {T:List TypeId} {base g:Nat} {a b:World} {te:TypeId} {cs:Array Value} (h:ay T base a b) (hb:aF a g te cs) (ht:te∉T):aF b g te cs:=(h.kept g _ _ _ hb ht).trans hb
theorem ay.row {T:List TypeId} {base:Nat} {w w':World} {row:Option Nat} (hg:w.grownBy w' row) (hb:base≤w.heap.size) (hr:∀m,row=some m→base≤m∧∃te cs,te∈T∧aF w m te cs):ay T base w w':=by
 refine⟨⟨hg.os,hg.tape,hg.output,hg.size,fun k hk=>hg.block k (Nat.lt_of_lt_of_le hk hb) (fun e=> ?_)⟩,fun g cur te fz h ht=>hg.block g (oq h) (fun e=> ?_)⟩
 ·have:=(hr k e.symm).1;omega
 ·obtain⟨_,te',cs,hT,hB⟩:=hr g e.symm;unfold aF at hB;rw[h] at hB;simp only[Option.some.injEq,Obj.cells.injEq] at hB;exact ht (hB.2.1 ▸ hT)
theorem ay.setCell {T:List TypeId} {base g i:Nat} {w:World} {te:TypeId} {cs:Array Value} (hB:aF w g te cs) (hb:base≤g) (ht:te∈T) (u:Value):ay T base w (w.setCell ⟨g,i,none⟩ u):=
 ay.row (aj w ⟨g,i,none⟩ u) (by have:=hB.lt;omega) (fun m hm=>by injection hm with hm;subst hm;exact⟨hb,te,cs,ht,hB⟩)
theorem Own.Md {α:Type} {w:World} {base k:Nat} {e:TypeId} {enc:α→List Value} {v:Value} {xs:List α} (h:Own w base e k enc v xs):∀m,v.ownBlock=some m→base≤m∧∃cs,aF w m e cs:=fun m hm=>by
 obtain⟨cur,hc⟩:=bV h hm;exact⟨(World.ownsRow.lt h m hm).1,cur,hc⟩
theorem yH {α:Type} {w:World} {b0 k:Nat} {e:TypeId} {enc:α→List Value} {v:Value} {xs:List α} (h:Own w b0 e k enc v xs) (h0:0<xs.length):∃gb cap,v =.slice (some ⟨gb,0,none⟩) xs.length cap:=by
 rcases h.2 with⟨_,h6⟩ | ⟨g,cap,_,h5,_⟩
 ·omega
 ·exact⟨g,cap,h5⟩
theorem Me.kept {w w':World} {base:Nat} {v:Value} {o:Option (List Nat)} {row:Option Nat} (h:Me w base v o) (hg:w.grownBy w' row) (hr:∀m,row=some m→∃te cs,385≠te∧aF w m te cs):Me w' base v o:=by
 cases row with
 | none=>
  cases o with
  | none=>exact h
  | some ws=>obtain⟨g,h1,h2,h3⟩:=h;exact⟨g,h1,h2,(hg.block g h3.1.lt σ).trans h3.1,h3.2⟩
 | some m=>obtain⟨te,cs,hne,hB⟩:=hr m rfl;exact h.off hB hne hg
theorem Own.an5 {α:Type} {w w':World} {base k:Nat} {e:TypeId} {enc:α→List Value} {v:Value} {xs:List α} {row:Option Nat} (h:Own w base e k enc v xs) (hg:w.grownBy w' row) (hr:∀m,row=some m→∃te cs,e≠te∧aF w m te cs):Own w' base e k enc v xs:=
 h.kept' hg (fun g jw=>by obtain⟨te,cs,hne,hB⟩:=hr g jw;exact aZ h hB hne)
theorem jP.push {w w2:World} {base gB:Nat} {s:List UInt8} {b:PB} {xs:List xH} {sv ZE:Value} (h:jP w base gB s b xs sv) (hO:Own w2 base 377 3 IE ZE (xs++[tH])) (hg:w.grownBy w2 sv.ownBlock) :
 jP (w2.setCell ⟨gB,3,none⟩ ZE) base gB s (aW b) (xs++[tH]) ZE:=by
 have hrow:∀(e:TypeId),e≠377→∀m,sv.ownBlock=some m→∃te cs,e≠te∧aF w m te cs:=fun e he m hm=>by
  obtain⟨_,cs,hB⟩:=h.own.Md m hm;exact⟨_,cs,he,hB⟩
 have hb2:aF w2 gB 358 #[.string ⟨s.toArray⟩,.int .i64 (b.at_:Int),.int .i64 (b.err:Int),sv]:=(hg.block gB h.blk.lt (fun e=>aZ h.own h.blk δ e.symm)).trans h.blk;have aI:=aj w2 ⟨gB,3,none⟩ ZE;refine⟨?_,h.le,rD hO hb2 δ aI,by simp[aW,h.len],?_,?_⟩
 ·have:=hb2.bD 3 ZE;simpa[aW] using this
 ·intro i x y h1 h2;rcases Nat.lt_or_ge i xs.length with hi | hi
  ·rw[List.getElem?_append_left hi] at h1;simp only[aW] at h2;rw[List.getElem?_append_left (by rw[←h.len];exact hi)] at h2;obtain⟨a1,a2,a3⟩:=h.st i x y h1 h2;exact⟨a1,(a2.kept hg (hrow _ δ)).off hb2 δ aI,rD (a3.an5 hg (hrow _ δ)) hb2 δ aI⟩
  ·have hi':i = xs.length:=by
    have:=(List.getElem?_eq_some_iff.1 h1).1;simp at this;omega
   subst hi';simp only[aW] at h2;rw[List.getElem?_append_right (Nat.le_refl _)] at h1;rw[h.len,List.getElem?_append_right (Nat.le_refl _)] at h2;simp at h1 h2;subst h1 h2;exact⟨rfl,rfl,Own.iH _ _ _ _ _⟩
 ·have old:∀(i:Nat) x,(xs++[tH])[i]? = some x→xs[i]? = some x∨x = tH:=fun i x h1=>by
   rcases Nat.lt_or_ge i xs.length with hi | hi
   ·rw[List.getElem?_append_left hi] at h1;exact .inl h1
   ·rw[List.getElem?_append_right hi] at h1;right
    have:=List.mem_of_getElem? h1;simpa using this
  intro i j x y g h1 h2 hne hg1 hg2;rcases old i x h1 with h1 | rfl
  ·rcases old j y h2 with h2 | rfl
   ·exact h.apart i j x y g h1 h2 hne hg1 hg2
   ·cases hg2
  ·cases hg1
theorem jP.upd {w w1:World} {base gB g n cap i j:Nat} {s:List UInt8} {b:PB} {xs:List xH} {x x':xH} {y y':wC} {u:Value} {row:Option Nat} (h:jP w base gB s b xs (.slice (some ⟨g,0,none⟩) n cap))
 (hx:xs[i]? = some x) (hy:b.aS[i]? = some y) (hj:j < 3) (hg:w.grownBy w1 row) (hrow:row=none∨row=x.fv.ownBlock)
 (hn:x'.next=y'.next) (hS:Me w1 base x'.pv y'.set) (hO:Own w1 base 3 1 encI x'.fv y'.free) (hf:x'.fv.ownBlock=x.fv.ownBlock∨∃m,x'.fv.ownBlock=some m∧w.heap.size≤m) (aqm:IE x'=(IE x).set j u) :
 jP (w1.setCell ⟨g,i * 3+j,none⟩ u) base gB s {b with aS:=b.aS.set i y'} (xs.set i x') (.slice (some ⟨g,0,none⟩) n cap):=by
 have S_:i < xs.length:=(List.getElem?_eq_some_iff.1 hx).1;obtain⟨ax,bx,cx⟩:=h.st i x y hx hy;have hnl:=h.own.len Ve;have hr:∀(e:TypeId),e≠3→∀m,row=some m→∃te cs,e≠te∧aF w m te cs:=fun e he m hm=>by
  rcases hrow with h0 | h0
  ·rw[h0] at hm;cases hm
  ·rw[h0] at hm;obtain⟨_,cs,hB⟩:=cx.Md m hm;exact⟨_,cs,he,hB⟩
 obtain⟨_,aqZ,hcv⟩:=h.own.Md g rfl;have ajc:∀m te cs,aF w m te cs→te≠3→some m≠row:=fun m te cs hB ht e=>by
  obtain⟨te',cs',hne,I9⟩:=hr te ht m e.symm;unfold aF at hB I9;rw[hB] at I9;simp only[Option.some.injEq,Obj.cells.injEq] at I9;exact hne I9.2.1
 have hb1:aF w1 gB 358 #[.string ⟨s.toArray⟩,.int .i64 (b.at_:Int),.int .i64 (b.err:Int),.slice (some ⟨g,0,none⟩) n cap]:=(hg.block gB h.blk.lt (ajc _ _ _ h.blk δ)).trans h.blk;have abl:aF w1 g 377 aqZ:=(hg.block g hcv.lt (ajc _ _ _ hcv δ)).trans hcv;have aI:=aj w1 ⟨g,i * 3+j,none⟩ u;have Y_:gB≠g:=fun e=>by
  subst e;have:=h.blk;unfold aF at this hcv;rw[this] at hcv;simp only[Option.some.injEq,Obj.cells.injEq] at hcv;exact absurd hcv.2.1 δ
 have wH:=h.own.an5 hg (hr _ δ);refine⟨hb1.far (by simpa using Y_) u,h.le,wH.ahZ Ve ω ω hj (fun z hz=>by rw[hx] at hz;injection hz with hz;subst hz;exact aqm),by simp[h.len],?_,?_⟩
 ·intro k a c h1 h2;by_cases kY:i = k
  ·subst kY;rw[List.getElem?_set_self S_] at h1;rw[List.getElem?_set_self (by rw[←h.len];exact S_)] at h2;injection h1 with h1;injection h2 with h2
   subst h1 h2;exact⟨hn,hS.off abl δ aI,rD hO abl δ aI⟩
  ·rw[List.getElem?_set_ne kY] at h1 h2;obtain⟨a1,a2,a3⟩:=h.st k a c h1 h2;refine⟨a1,(a2.kept hg (hr _ δ)).off abl δ aI,rD (a3.kept' hg (fun m hm hv=> ?_)) abl δ aI⟩;rcases hrow with h0 | h0
   ·rw[h0] at hm;cases hm
   ·rw[h0] at hm;exact h.apart i k x a m hx h1 kY hm hv
 ·have far:∀(k:Nat) a m,xs[k]? = some a→k≠i→x'.fv.ownBlock=some m→a.fv.ownBlock≠some m:=fun k a m h1 kY hm hv=>by
   rcases hf with h0 | ⟨m',h0,hle⟩
   ·rw[h0] at hm;exact h.apart i k x a m hx h1 (Ne.symm kY) hm hv
   ·rw[h0] at hm;injection hm with hm
    subst hm;obtain⟨c,hc⟩:∃c,b.aS[k]? = some c:=⟨_,List.getElem?_eq_getElem (by rw[←h.len];exact (List.getElem?_eq_some_iff.1 h1).1)⟩;have:=NU (h.st k a c h1 hc).2.2 hv;omega
  intro k l a c m h1 h2 IY Y8 Q_;by_cases kY:i = k
  ·subst kY;rw[List.getElem?_set_self S_] at h1;injection h1 with h1;subst h1
   rw[List.getElem?_set_ne IY] at h2;exact far l c m h2 (Ne.symm IY) Y8 Q_
  ·rw[List.getElem?_set_ne kY] at h1;by_cases hli:i = l
   ·subst hli;rw[List.getElem?_set_self S_] at h2;injection h2 with h2;subst h2
    exact far k a m h1 (Ne.symm kY) Q_ Y8
   ·rw[List.getElem?_set_ne hli] at h2;exact h.apart k l a c m h1 h2 IY Y8 Q_
def TB:List TypeId:=[358,377,3]
theorem vg {w:World} {base gB:Nat} {s:List UInt8} {b:PB} {xs:List xH} {sv:Value} (h:jP w base gB s b xs sv) (hb:base≤w.heap.size) (hn:b.aS.length<1000000000) :
 Calls Tryz.prog 264 #[.pointer (some ⟨gB,0,none⟩)] w fun r w'=>r =.returned (.int .i64 (b.aS.length:Int))∧∃ZE,jP w' base gB s (aW b) (xs++[tH]) ZE∧ay TB base w w':=by
 have c3:w.cell? ⟨gB,3,none⟩=some sv:=(h.blk.cell 3).trans rfl;have f3:=h.blk.frozen 3;have hl:=h.blk.lt;have hO:=h.own;have hlen:=h.len;replace h:=ζ h;replace hO:=ζ hO;go_enter Tryz.func264,Tryz.ntmps264
 have hrow:∀m,sv.ownBlock=some m→some gB≠some m:=fun m hm e=>by injection e with e;subst e;exact aZ hO.o h.o.blk δ hm
 replace hrow:=ζ hrow;go_wp2_with (at_builtin;refine dH (x:=tH) aA_ rfl (.tmp 7) (.tmp 9) rfl (hO.o.alloc _) rfl ⟨w.heap.size,0,none⟩ rfl rfl (iK (by exact heap_alloc_new w _)) atF (by simp;omega) (by unfold maxLen;omega) ω (fun v8 w8 Ze hgr hat=> ?_);obtain⟨A8,c8,rfl,-⟩:=Ze.arr Ve;(have hP:=ζ (jP.push (h.o.grows ((ah.refl w).alloc _)) Ze hgr));(have hK8:=ζ (ay.row (T:=TB) (base:=base) hgr (by simp;omega) (fun m hm=>by obtain⟨a1,cs,a2⟩:=(hO.o.alloc _).Md m hm;exact⟨a1,_,cs,δ,a2⟩)));(have iy:aF w8 gB _ _:=(hgr.block gB (by simp;omega) (fun e=>hrow.o gB e.symm rfl)).trans (h.o.blk.alloc _));(have c8:=iy.cell 3);(have f8:=iy.frozen 3);(have l8:=iy.lt);(replace iy:=ζ iy);(replace Ze:=ζ Ze);(replace hgr:=ζ hgr);clear hat);go_ret;have hP2:=hP.o;rw[show (xs++[tH]).length=b.aS.length+1 by simp[hlen]] at hP2;refine⟨by simp,_,hP2,?_⟩;exact ((ay.grows ((ah.refl w).alloc _) hb).trans hK8.o).trans (ay.setCell iy.o h.o.le δ _)
theorem YU:eX Tryz.prog 71 3 1 8:=eX.mk' (z:=.int .i64 0) Tryz.underlying71 κ rfl ω
theorem ajZ {b:PB} {i j:Nat} {y:wC} (hy:b.aS[i]? = some y):bg i j b = {b with aS:=b.aS.set i {y with free:=y.free++[j]}}:=by
 obtain⟨hl,rfl⟩:=List.getElem?_eq_some_iff.1 hy;unfold bg;congr 1
 apply List.ext_getElem?;intro k;rw[List.getElem?_modify,List.getElem?_set];by_cases hk:i = k
 ·subst hk;simp[hl]
 ·simp[hk]
theorem pR {w:World} {base gB i j:Nat} {s:List UInt8} {b:PB} {xs:List xH} {sv:Value} (h:jP w base gB s b xs sv) (hb:base≤w.heap.size) (hi:i < b.aS.length) (hn:dY b < 1000000000) :
 Calls Tryz.prog 266 #[.pointer (some ⟨gB,0,none⟩),.int .i64 (i:Int),.int .i64 (j:Int)] w fun r w'=>r =.returned (.tuple #[])∧∃xs',jP w' base gB s (bg i j b) xs' sv∧ay TB base w w':=by
 obtain⟨y,hy⟩:∃y,b.aS[i]? = some y:=⟨_,List.getElem?_eq_getElem hi⟩;obtain⟨x,hx⟩:∃x,xs[i]? = some x:=⟨_,List.getElem?_eq_getElem (by rw[h.len];exact hi)⟩;have S_:i < xs.length:=by rw[h.len];exact hi
 obtain⟨g,cap,V3⟩:=yH h.own ω;generalize JB:xs.length=n at *
 subst V3;obtain⟨x',yN,hcell,azC⟩:=h.own.at_ Ve S_;rw[hx] at yN;injection yN with yN
 subst yN;have c3:w.cell? ⟨gB,3,none⟩=some (.slice (some ⟨g,0,none⟩) n cap):=(h.blk.cell 3).trans rfl;have c2:w.cell? ⟨g,i * 3+2,none⟩=some x.fv:=hcell 2 _ rfl;have hl:=h.blk.lt;have EJ:=World.block_lt_of_cell? w _ c2;simp only at EJ;obtain⟨hs1,hs2,hs3⟩:=h.st i x y hx hy;have KG:y.free.length<1000000000:=by have:=afD hy;unfold dY at hn;omega
 obtain⟨aq0,JO⟩:=bV h.own (g:=g) rfl;have hr1:some gB≠x.fv.ownBlock:=fun e=>aZ hs3 h.blk δ e.symm
 have hr2:some g≠x.fv.ownBlock:=fun e=>aZ hs3 JO δ e.symm
 have hii:(i:Int)<(n:Int):=ω;generalize hrow:x.fv.ownBlock=row at *
 replace hrow:=ζ hrow;replace JB:=ζ JB;replace hs1:=ζ hs1;replace hs2:=ζ hs2;replace hs3:=ζ hs3;replace KG:=ζ KG;replace hx:=ζ hx;replace hy:=ζ hy;replace hn:=ζ hn;replace JO:=ζ JO;replace hb:=ζ hb;have hG:=ζ (ah.refl w);replace h:=ζ h;clear hcell azC hi S_;go_enter Tryz.func266,Tryz.ntmps266
 go_wp2;refine jA (row) κ ?_;refine rK (up:=jB) (.range 14) 5 ?_;iterate 14 refine h_ ?_
 refine aB ?_;refine aH [14] κ σ (fun wN hN hS=>(au.cons rfl (fun K' hK=> ?_) au.nil));try replace h:=ζ (h.o.grows hN)
 try replace hs2:=ζ (hs2.o.grows hN)
 try replace hs3:=ζ (hs3.o.grows hN)
 try replace JO:=ζ ((hN.below.block _ (oq JO.o)).trans JO.o)
 try replace hG:=ζ (hG.o.trans hN)
 try replace iZ:=ζ (iZ.o.grows hN)
 try replace lq:=ζ (lq.o.grows hN)
 try replace iR:=ζ (dQ iR.o hN)
 clear hN;go_simp;refine hK.o _ _ ?_ (fun hS=> ?_)
 ·exact dQ (by assumption) ((ah.refl _).alloc _)
 have iZ:=ζ (aF.new wN 3 #[.int .i64 (j:Int)]);have dN:ah wN (wN.alloc (.cells #[.int .i64 (j:Int)] 3)):=(ah.refl _).alloc _;replace h:=ζ (h.o.grows dN);replace hs2:=ζ (hs2.o.grows dN);replace hs3:=ζ (hs3.o.grows dN);replace JO:=ζ ((dN.below.block _ (oq JO.o)).trans JO.o);replace hG:=ζ (hG.o.trans dN);clear dN;clear hK hS;refine aH [15] κ σ (fun wN hN hS=>(au.cons rfl (fun K' hK=> ?_) au.nil));try replace h:=ζ (h.o.grows hN)
 try replace hs2:=ζ (hs2.o.grows hN)
 try replace hs3:=ζ (hs3.o.grows hN)
 try replace JO:=ζ ((hN.below.block _ (oq JO.o)).trans JO.o)
 try replace hG:=ζ (hG.o.trans hN)
 try replace iZ:=ζ (iZ.o.grows hN)
 try replace lq:=ζ (lq.o.grows hN)
 try replace iR:=ζ (dQ iR.o hN)
 clear hN;have DY:=Nat.le_trans hb.o hG.o.size;refine Own.grown (x:=j) YU rfl (.tmp 18) (.tmp 20) rfl hs3.o rfl ⟨_,0,none⟩ rfl rfl (iK iZ.o) (fun u hu=>by simp[encI] at hu;subst hu;rfl) DY (by have:=KG.o;unfold maxLen;omega) (by have:=KG.o;omega) (fun v4 w4 lq iR hv4=> ?_);have hrr:=hs3.o.Md;rw[hrow.o] at hrr;rw[hrow.o] at iR;obtain⟨gb4,aAY,QY⟩:=yH lq σ;obtain⟨L4,hL4⟩:∃L,L=(y.free++[j]).length:=⟨_,rfl⟩;rw[←hL4] at QY;subst QY;clear hL4;have hA:=h;have QZ:=hs2;have hcA:=JO;have nC:=hG;replace lq:=ζ lq;replace hv4:=ζ hv4;replace hrr:=ζ hrr;clear DY hs3 iZ h hs2 JO hG;go_simp;refine hK.o _ _ ?_ (fun hS=> ?_)
 ·exact World.grownBy.trans (by assumption) iR
 replace iR:=ζ iR;clear hK hS;refine rK (up:=jB) [16,17] 1 ?_;iterate 2 refine h_ ?_
 refine aB ?_;refine d_ (i:=18) rfl κ κ (fun wN hN hS K' hK=> ?_);try replace h:=ζ (h.o.grows hN)
 try replace hs2:=ζ (hs2.o.grows hN)
 try replace hs3:=ζ (hs3.o.grows hN)
 try replace JO:=ζ ((hN.below.block _ (oq JO.o)).trans JO.o)
 try replace hG:=ζ (hG.o.trans hN)
 try replace iZ:=ζ (iZ.o.grows hN)
 try replace lq:=ζ (lq.o.grows hN)
 try replace iR:=ζ (dQ iR.o hN)
 clear hS;have ZO:=(iR.o.block g (oq hcA.o) hr2).trans hcA.o;have hBN:aF wN g _ _:=ZO;have rfN:=hBN.frozen (i * 3+2);have rlN:=hBN.lt;have c2N:=(World.cell?_of_block (a:=⟨g,i * 3+2,none⟩) (iR.o.block g (oq hcA.o) hr2)).trans (nC.o.cell c2);go_simp;refine hK.o _ _ ?_;clear hK;go_wp2;go_end0;have ajn:=(hA.o.own.Md g rfl).1;have hU:=jP.upd (x':={x with fv:=.slice (some ⟨gb4,0,none⟩) L4 aAY}) (y':={y with free:=y.free++[j]}) (j:=2) hA.o hx.o hy.o ω iR.o (.inr hrow.o.symm) hs1.o (QZ.o.kept iR.o (fun m hm=>by obtain⟨_,cs,h⟩:=hrr.o m hm;exact⟨_,cs,δ,h⟩)) lq.o (hv4.o.imp (fun h=>h) (fun h=>⟨_,h,Nat.le_refl _⟩)) rfl;rw[←ajZ hy.o] at hU;refine⟨rfl,_,hU,?_⟩;exact ((ay.grows nC.o hb.o).trans (ay.row iR.o (Nat.le_trans hb.o nC.o.size) (fun m hm=>by obtain⟨h1,cs,h⟩:=hrr.o m hm;exact⟨h1,_,cs,δ,h⟩))).trans (ay.setCell hBN ajn δ _)
def dI (p:qw):Value:=.agg #[.int .i64 (p.1:Int),.int .i64 (p.2:Int)]
def YZ (base gB:Nat) (s:List UInt8) (w:World) (r:PB×qw) (e:Ending) (w':World):Prop:=
 e =.returned (dI r.2)∧∃xs' ZE,jP w' base gB s r.1 xs' ZE∧ay TB base w w'
theorem ay.dK {T:List TypeId} {base g i:Nat} {w w5:World} (h:ay T base w w5) (hg:w.heap.size≤g) (hb:base≤w.heap.size) (u:Value):ay T base w (w5.setCell ⟨g,i,none⟩ u):=
 ⟨h.below.setCell (by simp;omega) u,fun k cur te fz hk ht=>by
  have hlt:=oq hk;rw[Below.heap_setCell _ _ _ _ (by simp;omega)];exact h.kept k cur te fz hk ht⟩
theorem jP.far {w w':World} {base gB m:Nat} {s:List UInt8} {b:PB} {xs:List xH} {sv:Value} {te:TypeId} {cs:Array Value} (h:jP w base gB s b xs sv) (hm:aF w m te cs) (ht:te∉(385::TB)) (hg:w.grownBy w' (some m)):jP w' base gB s b xs sv:=by
 simp only[TB,List.mem_cons,List.not_mem_nil,or_false,not_or] at ht;obtain⟨t1,t2,t3,t4⟩:=ht;refine⟨(hg.block gB h.blk.lt (fun e=> ?_)).trans h.blk,h.le,rD h.own hm (Ne.symm t3) hg,h.len,?_,h.apart⟩
 ·injection e with e
  subst e;have h1:=h.blk;unfold aF at h1 hm;rw[hm] at h1;simp only[Option.some.injEq,Obj.cells.injEq] at h1;exact t2 h1.2.1
 ·intro i x y h1 h2;obtain⟨a1,a2,a3⟩:=h.st i x y h1 h2;exact⟨a1,a2.off hm (Ne.symm t1) hg,rD a3 hm (Ne.symm t4) hg⟩
theorem al1 {ws:List Nat} {b:PB}:(ku ws b).1={(aW (aW b)) with aS:=((aW (aW b)).aS.set b.aS.length ⟨some ws,0,[]⟩).set b.aS.length ⟨some ws,b.aS.length+1,[]⟩}:=by
 unfold ku aW;simp only;congr 1
 apply List.ext_getElem?;intro k;rw[List.set_set,List.getElem?_modify,List.getElem?_set];by_cases hk:b.aS.length=k
 ·subst hk;simp[uq]
 ·simp[hk]
theorem zB {w:World} {base gB gs:Nat} {s:List UInt8} {b:PB} {ws:List Nat} {xs:List xH} {sv:Value} (h:jP w base gB s b xs sv) (hS:fB w gs ws) (ny:base≤gs) (hb:base≤w.heap.size) (hn:b.aS.length<100000000) :
 Calls Tryz.prog 279 #[.pointer (some ⟨gB,0,none⟩),.pointer (some ⟨gs,0,none⟩)] w (YZ base gB s w (ku ws b)):=by
 replace h:=ζ h;replace hS:=ζ hS;replace ny:=ζ ny;replace hb:=ζ hb;replace hn:=ζ hn;go_enter Tryz.func279,Tryz.ntmps279
 have I5:=aF.new w 360 #[.int .i64 0,.int .i64 0];have KI:=hS.o.grows ((ah.refl w).alloc (.cells #[.int .i64 0,.int .i64 0] 360));go_wp2_with fail;refine (vg (h.o.grows ((ah.refl w).alloc _)) (by have:=hb.o;simp;omega) (by have:=hn.o;omega)).mono ?_;rintro e w1 ⟨rfl,sv1,h1,hk1⟩;replace I5:=hk1.blk I5 δ;replace KI:fB w1 gs ws:=⟨hk1.blk KI.1 δ,KI.2⟩;replace hk1:=ζ ((ay.grows ((ah.refl w).alloc _) hb.o).trans hk1);replace h1:=ζ h1;replace I5:=ζ I5;replace KI:=ζ KI;go_wp2_with fail;refine (vg h1.o (Nat.le_trans hb.o hk1.o.size) (by have:=hn.o;simp[aW];omega)).mono ?_;rintro e w2 ⟨rfl,sv2,h2,hk2⟩;replace I5:=hk2.blk I5.o δ;replace KI:fB w2 gs ws:=⟨hk2.blk KI.o.1 δ,KI.o.2⟩;replace hk2:=hk1.o.trans hk2;clear h1 hk1;rw[dZ];have hP:=aF.new w2 360 #[.int .i64 (b.aS.length:Int),.int .i64 ((b.aS.length:Int)+1)];have dN:ah w2 (w2.alloc (.cells #[.int .i64 (b.aS.length:Int),.int .i64 ((b.aS.length:Int)+1)] 360)):=(ah.refl _).alloc _;replace I5:=ζ (I5.grows dN);replace KI:=ζ (KI.grows dN);replace h2:=h2.grows dN;have hb2:=Nat.le_trans hb.o hk2.size;replace hk2:=ζ (hk2.trans (ay.grows dN hb2));clear dN;replace hP:=ζ hP;replace h2:=ζ h2;replace hb2:=ζ hb2;go_wp2_with fail;generalize w2.alloc (.cells #[.int .i64 (b.aS.length:Int),.int .i64 ((b.aS.length:Int)+1)] 360)=w3 at *
 generalize w2.heap.size=gp at *
 replace hb2:Hid (base≤w3.heap.size):=ζ (Nat.le_trans hb.o hk2.o.size);generalize hgr:w.heap.size=gr at *
 have hlx:xs.length=b.aS.length:=h.o.len;obtain⟨g,cap,V3⟩:=yH h2.o.own σ;obtain⟨n,hnl⟩:∃n,n = (xs++[tH]++[tH]).length:=⟨_,rfl⟩;rw[←hnl] at V3;subst V3;have amu:n = b.aS.length+2:=by simp at hnl;omega
 have hx:(xs++[tH]++[tH])[b.aS.length]? = some tH:=by rw[←hlx];simp
 have hy:(aW (aW b)).aS[b.aS.length]? = some uq:=by simp[aW]
 generalize hxx:xs++[tH]++[tH]=xx at *
 have hii:(b.aS.length:Int)<(n:Int):=ω;generalize hN:b.aS.length=N at *
 obtain⟨aq0,JO⟩:=bV h2.o.own (g:=g) rfl;have c3:w3.cell? ⟨gB,3,none⟩=some (.slice (some ⟨g,0,none⟩) n cap):=(h2.o.blk.cell 3).trans rfl;have cp0:=hP.o.c0;have cp1:=hP.o.c1;have hl3:=h2.o.blk.lt;have hlp:=hP.o.lt;have hlg:=oq JO;have hr1:some gB≠some g:=fun e=>aZ h2.o.own h2.o.blk δ e.symm
 have hr2:some gp≠some g:=fun e=>aZ h2.o.own hP.o δ e.symm
 replace JO:=ζ JO;replace hx:=ζ hx;replace hy:=ζ hy;replace hxx:=ζ hxx;replace hN:=ζ hN;replace hnl:=ζ hnl;replace amu:=ζ amu;replace hlx:=ζ hlx;replace hgr:=ζ hgr;refine jA ((some g)) κ ?_;refine rK (up:=jB) (.range 17) 4 ?_;iterate 17 refine h_ ?_
 refine aB ?_;refine aH [17] κ σ (fun wN hN hS=>(au.cons rfl (fun K' hK=> ?_) au.nil));try replace h2:=ζ (h2.o.grows hN)
 try replace hU:=ζ (hU.o.grows hN)
 replace KI:=ζ (KI.o.grows hN);replace hP:=ζ (hP.o.grows hN);replace I5:=ζ (I5.o.grows hN);replace hk2:=ζ (hk2.o.trans (ay.grows hN hb2.o));replace hb2:=ζ (Nat.le_trans hb2.o hN.size);clear hN;obtain⟨x1,hx1,hc1,hf1⟩:=h2.o.own.at_ Ve (i:=N) (by have:=amu.o;omega);rw[hx.o] at hx1;injection hx1 with hx1
 subst hx1;have rcN:wN.cell? ⟨g,N*3,none⟩=some (.pointer none):=hc1 0 _ rfl;have rfN:wN.frozen? ⟨g,N*3,none⟩=false:=hf1 _;have rlN:=World.block_lt_of_cell? wN _ rcN;simp only at rlN;have hU:=ζ (jP.upd (x':=⟨.pointer (some ⟨gs,0,none⟩),0,.slice none 0 0⟩) (y':=⟨some ws,0,[]⟩) (u:=.pointer (some ⟨gs,0,none⟩)) (j:=0) h2.o hx.o hy.o ω (World.grownBy.refl wN none) (.inl rfl) rfl ⟨gs,rfl,ny.o,KI.o⟩ (Own.iH _ _ _ _ _) (.inl rfl) rfl);obtain⟨ajn,cg,hBg⟩:=h2.o.own.Md g rfl;have Ic:ay TB base wN (wN.setCell ⟨g,N*3,none⟩ (.pointer (some ⟨gs,0,none⟩))):=ay.setCell hBg ajn δ _;replace KI:Hid (fB (wN.setCell ⟨g,N*3,none⟩ (.pointer (some ⟨gs,0,none⟩))) gs ws):=ζ ⟨Ic.blk KI.o.1 δ,KI.o.2⟩;replace hP:=ζ (Ic.blk hP.o δ);replace I5:=ζ (Ic.blk I5.o δ);replace hb2:=ζ (Nat.le_trans hb2.o Ic.size);replace hk2:=ζ (hk2.o.trans Ic);clear h2 Ic hc1 hf1 hBg;go_simp;refine hK.o _ _ ?_ (fun hS=> ?_)
 ·exact World.grownBy.trans (by assumption) (aj wN ⟨g,N*3,none⟩ _)
 clear rcN rfN rlN;clear hK hS;refine rK (up:=jB) [18,19] 1 ?_;iterate 2 refine h_ ?_
 refine aB ?_;refine d_ (i:=20) rfl κ κ (fun wN hN hS K' hK=> ?_);try replace h2:=ζ (h2.o.grows hN)
 try replace hU:=ζ (hU.o.grows hN)
 replace KI:=ζ (KI.o.grows hN);replace hP:=ζ (hP.o.grows hN);replace I5:=ζ (I5.o.grows hN);replace hk2:=ζ (hk2.o.trans (ay.grows hN hb2.o));replace hb2:=ζ (Nat.le_trans hb2.o hN.size);clear hS;have hx2:(xx.set N ⟨.pointer (some ⟨gs,0,none⟩),0,.slice none 0 0⟩)[N]? = some (⟨.pointer (some ⟨gs,0,none⟩),0,.slice none 0 0⟩:xH):=List.getElem?_set_self (List.getElem?_eq_some_iff.1 hx.o).1;have hy2:((aW (aW b)).aS.set N ⟨some ws,0,[]⟩)[N]? = some (⟨some ws,0,[]⟩:wC):=List.getElem?_set_self (List.getElem?_eq_some_iff.1 hy.o).1;obtain⟨x1,hx1,hc1,hf1⟩:=hU.o.own.at_ Ve (i:=N) (by have:=amu.o;omega);rw[hx2] at hx1;injection hx1 with hx1
 subst hx1;have rcN:wN.cell? ⟨g,N*3+1,none⟩=some (.int .i64 0):=hc1 1 _ rfl;have rfN:wN.frozen? ⟨g,N*3+1,none⟩=false:=hf1 _;have rlN:=World.block_lt_of_cell? wN _ rcN;simp only at rlN;have hV:=ζ (jP.upd (x':=⟨.pointer (some ⟨gs,0,none⟩),N+1,.slice none 0 0⟩) (y':=⟨some ws,N+1,[]⟩) (u:=.int .i64 ((N:Int)+1)) (j:=1) hU.o hx2 hy2 ω (World.grownBy.refl wN none) (.inl rfl) rfl ⟨gs,rfl,ny.o,KI.o⟩ (Own.iH _ _ _ _ _) (.inl rfl) (by simp[IE]));obtain⟨ajn,cg,hBg⟩:=hU.o.own.Md g rfl;have Ic:ay TB base wN (wN.setCell ⟨g,N*3+1,none⟩ (.int .i64 ((N:Int)+1))):=ay.setCell hBg ajn δ _;replace hP:=ζ (Ic.blk hP.o δ);replace I5:=ζ (Ic.blk I5.o δ);replace hk2:=ζ (hk2.o.trans Ic);clear hU KI Ic hc1 hf1 hBg hx2 hy2 hb2;go_simp;refine hK.o _ _ ?_;clear hK;clear rcN rfN rlN c3 cp0 cp1 hl3 hlp hlg hr1 hr2 hN;generalize wN.setCell ⟨g,N*3+1,none⟩ (.int .i64 ((N:Int)+1))=w5 at *
 have dp0:=hP.o.c0;have dp1:=hP.o.c1;have dr0:=I5.o.c0;have dr1:=I5.o.c1;have fr0:=I5.o.frozen 0;have fr1:=I5.o.frozen 1;have lp:=hP.o.lt;have lr:=I5.o.lt;have aB_:=ζ (hgr.o ▸ hb.o:base≤gr);go_wp2;have jW:=I5.o.bD 0 (.int .i64 (N:Int));have oM:=jW.bD 1 (.int .i64 ((N:Int)+1));have rX:=(hk2.o.dK (g:=gr) (i:=0) (by rw[hgr.o];exact Nat.le_refl _) (by rw[hgr.o];exact hb.o) (.int .i64 (N:Int))).dK (g:=gr) (i:=1) (by rw[hgr.o];exact Nat.le_refl _) (by rw[hgr.o];exact hb.o) (.int .i64 ((N:Int)+1));have yh:=(hV.o.far I5.o δ (aj w5 ⟨gr,0,none⟩ (.int .i64 (N:Int)))).far jW δ (aj _ ⟨gr,1,none⟩ (.int .i64 ((N:Int)+1)));clear dr0 dr1 fr0 fr1 dp0 dp1 lp lr I5 hP hV hk2 jW;generalize (w5.setCell ⟨gr,0,none⟩ (.int .i64 (N:Int))).setCell ⟨gr,1,none⟩ (.int .i64 ((N:Int)+1))=w7 at *
 have e0:=oM.c0;have e1:=oM.c1;refine bodyPost_ret (v:=dI (ku ws b).2) ?_ rfl ⟨rfl,?_⟩
 ·simp[dI,ku,hN.o,results,Tryz.results279,go_sem,e0,e1]
 ·have e2:=al1 (ws:=ws) (b:=b);rw[hN.o] at e2;rw[←e2] at yh;exact⟨_,_,yh,rX⟩
end Go.Proofs.YtbhikkgpcmkonaaGreatDoor
