/- Parts: ELiP RLiA SilA PatP PatA PatB PatC PatQ PatD PatE PatF -/
import Derived.Test.YtbhikkgpcmkonaaGreatDoorVo0
import Derived.Test.YtbhikkgpcmkonaaGreatDoorVo12
import Derived.Test.YtbhikkgpcmkonaaGreatDoorVo11
import Derived.Test.YtbhikkgpcmkonaaGreatDoorVo5
import Derived.Laws.ShiftsVarLaws
import Derived.Test.YtbhikkgpcmkonaaGreatDoorVo10
set_option maxRecDepth 100000
set_option maxHeartbeats 12800000
namespace Go.Proofs.YtbhikkgpcmkonaaGreatDoor
open Go.RowKit
theorem YL {n:Nat} (h:n < 16):Aw (KH n)=true:=by
 have:∀m:Fin 16,Aw (KH m.1)=true:=δ;exact this ⟨n,h⟩
theorem abC (n:Nat):O5 (qI n)=true:=by
 have h:∀l:List Nat,(∀x∈l,x < 256)→(GH l).length=2*l.length∧(GH l).all Aw=true:=by
  intro l;induction l with
  | nil=>intro _;exact⟨rfl,rfl⟩
  | cons a r ih=>
   intro hl;obtain⟨h1,h2⟩:=ih (fun x hx=>hl x (List.mem_cons_of_mem _ hx));have ha:=hl a List.mem_cons_self;unfold GH at *
   rw[List.flatMap_cons];constructor
   ·rw[List.length_append,h1];simp;omega
   ·rw[List.all_append,h2];simp only[List.all_cons,List.all_nil,Bool.and_true];rw[YL ω,YL ω];rfl
 have hb:(∀x∈mV n,x < 256)∧(mV n).length=8:=by
  unfold mV;refine⟨fun x hx=> ?_,by simp⟩;obtain⟨i,-,rfl⟩:=List.mem_map.1 hx;exact Nat.mod_lt _ ω
 obtain⟨h1,h2⟩:=h (mV n) hb.1;unfold O5 qI;rw[h1,hb.2,h2];rfl
def yh:iH:=⟨Tq,[⟨Ob,[116]⟩],⟨0,0⟩,0,0⟩
def rQ:fQ:=⟨[],[⟨dI,⟨3,0⟩⟩],[],[],[⟨dI,[],0,1,9,[]⟩],[]⟩
def zAl:iH:={yh with l:=⟨5,0⟩}
def noS:n_:=⟨[],0⟩
theorem U2 (id:Nat):kF [] id=[id]:=by simp[kF,putAt,qL]
theorem ac2 (fb:cu→Bool):fE fb rQ=0:=by kernel_rfl
theorem apY (id ky:Nat) (hk:Kq dI 0 []=ky):stepG dI id yh.fs (dF rQ) ⟨[[]],[]⟩ 0=⟨[[⟨0,[],ky,kF [] id⟩]],[(dw 0 [],0)]⟩:=by
 have hp:jq yh.fs (dF rQ 0)=[]:=by kernel_rfl
 unfold stepG;rw[hp,hk];rfl
theorem ahM (fb:cu→Bool) (ft:List bM→cu→Bool) {now:Int} (hs:kM rQ dI yh now=some yh):mZ fb ft rQ dI [yh] now=[⟨0,[],Kq dI 0 [],[CV yh]⟩]:=by
 have s1:=apY (CV yh) _ rfl;rw[U2] at s1;unfold mZ;rw[if_pos (ac2 fb)];unfold mP;have a1:iF ft rQ dI now ⟨[[]],[]⟩ yh=stepG dI (CV yh) yh.fs (dF rQ) ⟨[[]],[]⟩ 0:=by
  unfold iF;rw[hs];simp only;rw[show vX ft rQ dI yh.fs=[0] from rfl];rfl
 rw[List.foldl_cons,List.foldl_nil];rw[show (⟨List.replicate rQ.routes.length [],[]⟩:JJ)=⟨[[]],[]⟩ from rfl,a1,s1];rfl
theorem aqx {p:fQ} {tO:gy} {now:Int} (hc:iR p yh tO=some yh) (hf:eX yh now=true):Eo p [yh] (CV yh) tO now=some ⟨CV yh,true,yh.fs⟩:=by
 have ha:bg yh=true:=by kernel_rfl
 have h1:pJ p (CV yh) tO now yh=some (true,yh.fs):=by
  unfold pJ;rw[hc];simp only;rw[ha,hf,if_pos σ]
 unfold Eo;rw[List.filterMap_cons,h1,List.filterMap_nil];rfl
theorem agB:fieldsU yh.fs=true:=by kernel_rfl
theorem afz {key id:Nat} {n now:Int} {fP:List bM} (hb:fieldsU fP=true) (hn:rU n = true) (hw:rU now=true):uo ⟨dI,qI key,n,now,fP,[⟨id,true,yh.fs⟩]⟩=true:=by
 unfold uo;simp only;rw[abC,show fG dI=true by kernel_rfl,hn,hw,hb];simp only[List.all_cons,List.all_nil,agB];rfl
theorem am1 {fb:cu→Bool} {p:fQ} {tO:gy} {now:Int} {g:ni} {n:Int} (oC:dY p.receivers dI=some tO) (uO:fE fb p = 0) (hg:g.ids=[CV yh]) (hb:fieldsU g.fP=true) (hn:rU n = true) (hw:rU now=true) (hc:iR p yh tO=some yh) (hf:eX yh now=true) :
 jY fb p dI g [yh] n now=some ⟨dI,qI g.key,n,now,g.fP,[⟨CV yh,true,yh.fs⟩]⟩:=by
 unfold jY;rw[oC];simp only;rw[if_pos uO,hg,List.filterMap_cons,aqx hc hf,List.filterMap_nil];rw[if_pos (afz hb hn hw)]
def zL:List zO:=[⟨0,yh,vI,0⟩,⟨2,Ae,vI,1⟩]
def zM:List zO:=[⟨0,yh,vI,0⟩,⟨0,zAl,vI,0⟩,⟨2,Ae,vI,1⟩]
theorem atH (fb:cu→Bool) (ft:List bM→cu→Bool):IE fb ft rQ dI [yh] noS 1=[yh]:=by kernel_rfl
def zG (id:Nat):A_:=⟨0,dI,0,1,9,⟨0,1,9,1,1,1,[id]⟩,1⟩
theorem atI (mk:ni→Int→Option N_) (id ky:Nat):KX mk rQ 1 ⟨[],[],[]⟩ ⟨0,[],ky,[id]⟩=⟨[(dw 0 [],zG id)],[dw 0 []],(mk ⟨0,[],ky,[id]⟩ 1).toList⟩:=by kernel_rfl
theorem ahL (fb:cu→Bool) (ft:List bM→cu→Bool):(h_ fb ft rQ dI zL).length=1:=by
 have h:jO fb ft rQ dI ⟨-1,[]⟩ [yh] noS 1=(⟨1,[(dw 0 [],zG (CV yh))].map (GU [dw 0 []] 1)⟩,[⟨dI,qI (Kq dI 0 []),1,1,[],[⟨CV yh,true,yh.fs⟩]⟩]):=by
  unfold jO;rw[if_pos κ];unfold Dx;rw[atH,ahM fb ft κ,List.foldl_cons,List.foldl_nil];simp only[List.filter_nil];rw[atI];simp only;rw[am1 (tO:=⟨3,0⟩) κ (ac2 fb) rfl κ κ κ κ κ];rfl
 have e:jX fb ft rQ dI zL=eH fb ft rQ dI ⟨⟨-1,[]⟩,[yh],noS,[]⟩ ⟨2,Ae,vI,1⟩:=rfl;unfold h_;rw[e];unfold eH;rw[if_neg δ,if_neg δ,if_pos rfl];simp only;rw[h];rfl
theorem ahN:jv rQ zM ⟨3,0⟩=jv rQ zL ⟨3,0⟩:=by kernel_rfl
theorem ap0:(jv rQ zM ⟨5,0⟩).length=3∧(jv rQ zL ⟨5,0⟩).length=2:=by constructor <;> kernel_rfl
theorem ap1:(jv rQ zM ⟨0,0⟩).length=2:=by kernel_rfl
theorem ahP:wC rQ zL zM ⟨3,0⟩=true:=by unfold wC;rw[ahN];simp
theorem ahO:wC rQ zL zM ⟨5,0⟩=false:=by
 unfold wC;simp only[decide_eq_false_iff_not];intro e;have h:=ap0;rw[e] at h;omega
theorem apZ (fb:cu→Bool) (ft:List bM→cu→Bool):h_ fb ft rQ dI zM=h_ fb ft rQ dI zL:=by
 have ht:dY rQ.receivers dI=some ⟨3,0⟩:=by kernel_rfl
 have hl:Nb rQ ⟨3,0⟩=true:=by kernel_rfl
 have ha:bg yh=true:=by kernel_rfl
 have hb:bg zAl=true:=by kernel_rfl
 have hz:((2:Int)=0)→bg Ae=true:=fun h=>absurd h δ
 have h1:=Gn (fb:=fb) (ft:=ft) (l:=zM) ht hl (fun e he hk=>by
  simp only[zM,List.mem_cons,List.not_mem_nil,or_false] at he;rcases he with rfl | rfl | rfl
  ·exact ha
  ·exact hb
  ·exact hz hk)
 have h2:=Gn (fb:=fb) (ft:=ft) (l:=zL) ht hl (fun e he hk=>by
  simp only[zL,List.mem_cons,List.not_mem_nil,or_false] at he;rcases he with rfl | rfl
  ·exact ha
  ·exact hz hk)
 rw[←h1,←h2,ahN]
end Go.Proofs.YtbhikkgpcmkonaaGreatDoor
namespace Go.Proofs.YtbhikkgpcmkonaaGreatDoor
open Go.RowKit Go.Maps
theorem bW.J7 {α:Type} {w:World} {g k:Nat} {t:TypeId} {enc:α→List Value} {l:List α} {cs:Array Value} (hk:∀x,(enc x).length=k) (h:aG w g t cs) (hc:cs=(dh enc l).toArray):bW w k enc (some ⟨g,0,none⟩) l.length l:=by
 subst hc;refine⟨rfl,fun _=>⟨g,0,rfl,h.lt,fun i hi j u hu=> ?_⟩⟩;have hj:j < k:=by rw[←hk l[i]];exact (List.getElem?_eq_some_iff.1 hu).1
 rw[h.cell,Nat.zero_add];have:=mQ hk l i hi j hj;rw[←hu,←this];simp
theorem abf (w:World):iY.At ⟨[],none,0,0⟩ w:=⟨bW.iO,by simp,by simp,by simp⟩
theorem hkR (x:BH):(encR x).length=6:=rfl
end Go.Proofs.YtbhikkgpcmkonaaGreatDoor
namespace Go.Proofs.YtbhikkgpcmkonaaGreatDoor
open Go.RowKit
structure yG where
 s:Sil
 A:Option Addr
 m:Nat
 k:Nat
def MZ (x:yG):Value:=.agg #[.slice x.A x.m x.k,.int .i64 x.s.f,.int .i64 x.s.t,.int .i64 x.s.l.lv,.int .u32 (x.s.l.c:Int)]
structure yG.At (x:yG) (w:World):Prop where
 arr:bW w 3 qW x.A x.m x.s.wh
 le:x.m≤65536
 Jy:x.s.l.ok
theorem yG.At.keep {x:yG} {w w':World} (h:x.At w) (hg:ah w w'):x.At w':=⟨h.arr.keep hg,h.le,h.Jy⟩
theorem aiL {fb:cu→Bool} {x:cu} (h:mX fb x) (w:World) :
 Calls Tryz.prog 153 #[Gh x] w fun e w'=>e =.returned (.bool (!fb x))∧ah w w':=by
 have cF:=ζ (fun W=>h W);generalize fb x = B at *
 unfold Gh at *
 go_enter Tryz.func153,Tryz.ntmps153
 go_wp2_with fail;refine (cF.out _).mono ?_;rintro e w1 ⟨rfl,hb⟩;have hG:ah w w1:=((ah.refl w).alloc _).trans hb;go_wp2;go_ret;exact⟨aJ rfl,hG⟩
theorem aas {fb:cu→Bool} {x:yG} (w:World) (hx:x.At w) (nG:∀y∈x.s.wh,mX fb y) :
 Calls Tryz.prog 104 #[MZ x] w fun e w'=>e =.returned (.bool (aeE fb x.s))∧ah w w':=by
 have cC:=ζ (fun W (hW:ah w W)=>Qb (c:=x.k) 153 #[] (enters_of Tryz.func153 κ rfl) (fun y=> !fb y) x.A x.m x.s.wh W (hx.arr.keep hW) (by have:=hx.le;omega) (fun y hy W' _=>aiL (nG y hy) W'));have cL:=ζ (fun W=>mF x.s.l W);obtain⟨R,hR⟩:∃R,R=aeE fb x.s:=⟨_,rfl⟩;rw[←hR];unfold aeE at hR;have kN:=hx.arr.1;have hle:=hx.le;rw[kN] at hR;clear hx nG kN;obtain⟨⟨wh,f,t,⟨lv,lc⟩⟩,A,m,k⟩:=x;simp only at *
 generalize (wh.any fun y=> !fb y)=D at *
 generalize dA lv=G at *
 unfold eY at hR;unfold MZ;replace hR:=ζ hR;simp only at *
 by_cases h1:0<m
 ·by_cases h2:m≤12
  ·have h1i:(0:Int)<(m:Int):=ω;have h2i:(m:Int)≤12:=ω;cases D with
   | true=>
    have uy:Hid (R=false):=ζ (by rw[hR.o];simp);go_enter Tryz.func104,Tryz.ntmps104
    go_wp2_with fail;refine (cC.out _ γ).mono ?_;rintro e w1 ⟨rfl,hb⟩;have hG:ah w w1:=((ah.refl w).alloc _).trans hb;go_wp2;go_ret;exact⟨by rw[uy.o];rfl,hG⟩
   | false=>
    go_enter Tryz.func104,Tryz.ntmps104
    go_wp2_with fail;refine (cC.out _ γ).mono ?_;rintro e w1 ⟨rfl,hb⟩;have hG:ah w w1:=((ah.refl w).alloc _).trans hb;have hS:=(aG.new w 159 #[.slice A m k,.int .i64 f,.int .i64 t,.int .i64 lv,.int .u32 (lc:Int)]).grows hb;have s1:=hS.c1;have s2:=hS.c2;have s3:=hS.c3;have s4:=hS.c4;have sl:=hS.lt;clear hS hb cC;by_cases hf:0≤f
    ·by_cases ht:f < t
     ·by_cases hx:t≤1099511627776
      ·have hRg:Hid (R=G):=ζ (by rw[hR.o];simp[h1,h2,hf,ht,hx]);go_wp2_with fail;refine (cL.out _).mono ?_;rintro e w2 ⟨rfl,hb2⟩;go_wp2;go_ret;exact⟨by rw[hRg.o];rfl,hG.trans hb2⟩
      ·have uy:Hid (R=false):=ζ (by rw[hR.o];simp[hx]);go_wp2;go_ret;exact⟨by rw[uy.o];rfl,hG⟩
     ·have uy:Hid (R=false):=ζ (by rw[hR.o];simp[ht]);go_wp2;go_ret;exact⟨by rw[uy.o];rfl,hG⟩
    ·have uy:Hid (R=false):=ζ (by rw[hR.o];simp[hf]);go_wp2;go_ret;exact⟨by rw[uy.o];rfl,hG⟩
  ·have h1i:(0:Int)<(m:Int):=ω;have h2i:¬(m:Int)≤12:=ω;have uy:Hid (R=false):=ζ (by rw[hR.o];simp[h2]);go_enter Tryz.func104,Tryz.ntmps104
   go_wp2;go_ret;refine⟨by rw[uy.o];rfl,?_⟩;exact γ
 ·have h1i:¬(0:Int)<(m:Int):=ω;have uy:Hid (R=false):=ζ (by rw[hR.o];simp[h1]);go_enter Tryz.func104,Tryz.ntmps104
  go_wp2;go_ret;refine⟨by rw[uy.o];rfl,?_⟩;exact γ
end Go.Proofs.YtbhikkgpcmkonaaGreatDoor
namespace Go.Proofs.YtbhikkgpcmkonaaGreatDoor
structure wP where
 set:Option (List Nat)
 next:Nat
 free:List Nat
structure PB where
 at_:Nat
 err:Nat
 aS:List wP
abbrev qx:=Nat×Nat
def BK (s:List UInt8) (b:PB):Option UInt8:=if b.err=0 then s[b.at_]? else none
def bU (e:Nat) (b:PB):PB:=if b.err=0 then {b with err:=e} else b
def aO (b:PB):PB:={b with at_:=b.at_+1}
def uG:wP:=⟨none,0,[]⟩
def aX (b:PB):PB:={b with aS:=b.aS++[uG]}
def bD (i j:Nat) (b:PB):PB:={b with aS:=b.aS.modify i fun x=>{x with free:=x.free++[j]}}
def fC:List Nat:=[0,0,0,0]
def G9 (ws:List Nat) (c:Nat):List Nat:=ws.modify (c / 64) fun x=>x |||2 ^ (c % 64)
def mW (ws:List Nat) (lo hi:Nat):List Nat:=(List.range' lo (hi+1-lo)).foldl G9 ws
def ou (ws:List Nat):List Nat:=ws.map fun x=>18446744073709551615-x
def Wn (ws:List Nat) (c:Nat):Bool:=(ws.getD (c / 64) 0).testBit (c % 64)
def kH (ws:List Nat) (b:PB):PB×qx:=({b with aS:=(aX (aX b)).aS.modify b.aS.length fun x=>{x with set:=some ws,next:=b.aS.length+1}},(b.aS.length,b.aS.length+1))
def kL (s:List UInt8) (b:PB):PB×UInt8:=
 if BK s b = some 92 then (match BK s (aO b) with
  | none=>(bU 2 (aO (aO b)),0)
  | some c=>(aO (aO b),c))
 else (match BK s b with
  | none=>(bU 2 (aO b),0)
  | some c=>(aO b,c))
def oH (s:List UInt8):Nat→Bool→PB→List Nat→PB×List Nat
 | 0,_,b,ws=>(bU 2 b,ws)
 | f + 1,first,b,ws=>match BK s b with
  | none=>(bU 2 b,ws)
  | some d=>
   if d = 93∧first=true then (bU 2 b,ws)
   else if d = 93 then (aO b,ws)
   else
    let r:=kL s b
    let q:=if BK s r.1=some 45∧r.1.at_+1<s.length∧s[r.1.at_+1]?≠some 93 then kL s (aO r.1) else r
    oH s f false (if q.2.toNat<r.2.toNat then bU 2 q.1 else q.1) (mW ws r.2.toNat q.2.toNat)
def nJ (s:List UInt8) (b:PB):PB×List Nat:=
 if BK s b = some 94 then let r:=oH s (s.length+1) true (aO b) fC;(r.1,ou r.2)
 else oH s (s.length+1) true b fC
def afo (c:UInt8):Bool:=c∈([42,43,63,124,40,41,91,93,92,46]:List UInt8)
def cZ (s:List UInt8) (sub:Option (PB→PB×qx)) (c:UInt8) (b:PB):PB×qx:=
 if c = 40 then (match sub with
  | none=>kH fC (bU 3 (aO b))
  | some f=>let r:=f (aO b);(aO (if BK s r.1=some 41 then r.1 else bU 2 r.1),r.2))
 else if c = 91 then let r:=nJ s (aO b);kH r.2 r.1
 else if c = 46 then kH (ou fC) (aO b)
 else if c = 92 then (match BK s (aO b) with
  | none=>kH (mW fC 0 0) (aO (bU 2 (aO b)))
  | some d=>kH (mW fC d.toNat d.toNat) (aO (aO b)))
 else if afo c then kH fC (bU 2 (aO b))
 else kH (mW fC c.toNat c.toNat) (aO b)
def X4 (c:UInt8):Bool:=c∈([42,43,63]:List UInt8)
def fH (s:List UInt8) (b:PB) (x:qx):PB×qx:=match BK s b with
 | none=>(b,x)
 | some c=>if X4 c then
  let n:=b.aS.length
  let b1:=bD x.2 (n + 1) (bD n x.1 (aX (aX (aO b))))
  let b2:=if c = 43 then b1 else bD n (n + 1) b1
  let b3:=if c = 63 then b2 else bD x.2 x.1 b2
  (b3,(n,n + 1))
  else (b,x)
def Gl (s:List UInt8) (sub:Option (PB→PB×qx)):Nat→qx→PB→PB×qx
 | 0,p,b=>(b,p)
 | f + 1,p,b=>match BK s b with
  | none=>(b,p)
  | some c=>if c = 124∨c = 41 then (b,p) else
   let r:=cZ s sub c b
   let q:=fH s r.1 r.2
   Gl s sub f (p.1,q.2.2) (bD p.2 q.2.1 q.1)
def jK (s:List UInt8) (sub:Option (PB→PB×qx)) (b:PB):PB×qx:=Gl s sub (s.length+1) (b.aS.length,b.aS.length) (aX b)
def iq (s:List UInt8) (sub:Option (PB→PB×qx)):Nat→qx→PB→PB×qx
 | 0,p,b=>(b,p)
 | f + 1,p,b=>
  let r:=jK s sub b
  let b1:=bD r.2.2 p.2 (bD p.1 r.2.1 r.1)
  if BK s b1=some 124 then iq s sub f p (aO b1) else (b1,p)
def jy (s:List UInt8):Nat→PB→PB×qx
 | 0,b=>iq s none (s.length+1) (b.aS.length,b.aS.length+1) (aX (aX b))
 | d + 1,b=>iq s (some (jy s d)) (s.length+1) (b.aS.length,b.aS.length+1) (aX (aX b))
structure Xb where
 aS:List wP
 start:Nat
 stop:Nat
def xG (s:List UInt8):PB×qx:=let r:=jy s 8 ⟨0,0,[]⟩;(if r.1.at_<s.length then bU 2 r.1 else r.1,r.2)
def vF (s:List UInt8):Nat:=if 100<s.length then 4 else (xG s).1.err
def yV (s:List UInt8):Option Xb:=if 100<s.length∨(xG s).1.err≠0 then none else some ⟨(xG s).1.aS,(xG s).2.1,(xG s).2.2⟩
end Go.Proofs.YtbhikkgpcmkonaaGreatDoor
namespace Go.Proofs.YtbhikkgpcmkonaaGreatDoor
open Go.RowKit
def aqf (ws:List Nat):List Value:=ws.map fun (x:Nat)=> .int .u64 (x:Int)
def fD (w:World) (g:Nat) (ws:List Nat):Prop:=aG w g 385 (aqf ws).toArray∧ws.length=4∧∀x∈ws,x < 18446744073709551616
theorem fD.cell {w:World} {g:Nat} {ws:List Nat} (h:fD w g ws) {i x:Nat} (hx:ws[i]? = some x):w.cell? ⟨g,i,none⟩=some (.int .u64 (x:Int)):=by
 rw[h.1.cell];simp[aqf,hx]
theorem ahb (x k:Nat) (hx:x < 18446744073709551616):(bits .and .u64 ((x:Int) / 2 ^ k) 1==1)=x.testBit k:=by
 have h0:x / 2 ^ k<18446744073709551616:=Nat.lt_of_le_of_lt (Nat.div_le_self _ _) hx;have h1:=u64_and_nat (x / 2 ^ k) 1 h0 δ;have h2:((x / 2 ^ k:Nat):Int)=(x:Int) / 2 ^ k:=by simp
 rw[h2] at h1;rw[show bits .and .u64 ((x:Int) / 2 ^ k) 1=bits .and .u64 ((x:Int) / 2 ^ k) ((1:Nat):Int) from rfl,h1,Nat.and_one_is_mod,Le,Bool.eq_iff_iff,beq_iff_eq,decide_eq_true_eq];omega
theorem akm {w:World} {g:Nat} {ws:List Nat} {c:Nat} (h:fD w g ws) (hc:c < 256) :
 Calls Tryz.prog 269 #[.pointer (some ⟨g,0,none⟩),.int .u8 (c:Int)] w fun e w'=>e =.returned (.bool (Wn ws c))∧w'=w:=by
 obtain⟨x,hx⟩:∃x,ws[c / 64]? = some x:=⟨_,List.getElem?_eq_getElem (by rw[h.2.1];omega)⟩;have c0:=h.cell hx;have hl:=World.block_lt_of_cell? w _ c0;simp only at hl;have hci:0≤(c:Int)∧(c:Int)≤255:=ω;have hd:((c:Int) / 64).toNat=c / 64:=ω;have hc4:(c:Int) / 64<4:=ω;have hc0:0≤(c:Int) / 64:=ω;replace hc:=ζ hc;go_enter Tryz.func269,Tryz.ntmps269
 have hb:=ahb x (c % 64) (h.2.2 x (List.mem_of_getElem? hx));go_wp2;go_ret;refine⟨?_,rfl⟩;simp[Wn,hx]
theorem fD.put {w:World} {g:Nat} {ws:List Nat} (h:fD w g ws) {i x:Nat} (hx:x < 18446744073709551616):fD (w.setCell ⟨g,i,none⟩ (.int .u64 (x:Int))) g (ws.set i x):=by
 refine⟨?_,by rw[List.length_set];exact h.2.1,?_⟩
 ·have:=h.1;unfold aG at *
  simp[World.setCell,Array.getElem?_modify,this,aqf,List.map_set]
 ·intro y hy;rcases List.mem_or_eq_of_mem_set hy with hy | rfl
  ·exact h.2.2 y hy
  ·exact hx
theorem afM (n:Int):bits .and .i64 n 63=n % 64:=by
 have h63:(BitVec.ofInt 64 63).toNat=2 ^ 6-1:=δ;have key:(BitVec.ofInt 64 n &&&BitVec.ofInt 64 63).toNat=(n % ((2 ^ 64:Nat):Int)).toNat % 2 ^ 6:=by
  rw[BitVec.toNat_and,BitVec.toNat_ofInt,h63,Nat.and_two_pow_sub_one_eq_mod]
 show IntKind.i64.wrap ((BitVec.ofInt 64 n &&&BitVec.ofInt 64 63).toNat:Nat)=n % 64
 rw[key,IntKind.wrap_i64];omega
theorem afc {x j:Nat} (hx:x < 18446744073709551616) (hj:j < 64):x |||2 ^ j < 18446744073709551616:=Nat.or_lt_two_pow (n:=64) hx (Nat.pow_lt_pow_right δ hj)
theorem ahf {ws:List Nat} {c x:Nat} (h:ws[c / 64]? = some x):G9 ws c = ws.set (c / 64) (x |||2 ^ (c % 64)):=by
 apply List.ext_getElem?;intro i;rw[G9,List.getElem?_modify,List.getElem?_set];by_cases hi:c / 64=i
 ·subst hi;obtain⟨hl,rfl⟩:=List.getElem?_eq_some_iff.1 h;simp[hl]
 ·simp[hi]
theorem kU {w:World} {g:Nat} {ws:List Nat} {lo hi:Nat} (h:fD w g ws) (Uk:lo<256) (YH:hi<256) :
 Calls Tryz.prog 278 #[.pointer (some ⟨g,0,none⟩),.int .u8 (lo:Int),.int .u8 (hi:Int)] w fun e w'=>e =.returned (.tuple #[])∧fD w' g (mW ws lo hi)∧w.grownBy w' (some g):=by
 have hl:g < w.heap.size:=World.block_lt_of_cell? w _ (h.cell (i:=0) (List.getElem?_eq_getElem (by rw[h.2.1];omega)));have hli:0≤(lo:Int)∧(lo:Int)≤255:=ω;have aGh:0≤(hi:Int)∧(hi:Int)≤255:=ω;replace Uk:=ζ Uk;replace YH:=ζ YH;replace h:=ζ h;go_enter Tryz.func278,Tryz.ntmps278
 go_wp2;go_loopw [6] (fun i wr=>∃k:Nat,lo+k≤256∧(k=0∨lo+k≤hi+1)∧i =.int .i64 ((lo+k:Nat):Int)∧fD wr g ((List.range' lo k).foldl G9 ws)∧w.grownBy wr (some g)) (fun i _=>256-(intOf i).toNat)
 case atStart=>exact⟨0,by have:=Uk.o;omega,.inl rfl,by simp,h.o,World.grownBy.refl _ _⟩
 case round=>
  obtain⟨k,hk,hk2,rfl,hs,hg⟩:=hrel;by_cases hlt:lo+k≤hi
  ·have akl:lo+k<256:=by have:=YH.o;omega
   obtain⟨x,hx⟩:∃x,((List.range' lo k).foldl G9 ws)[(lo+k) / 64]? = some x:=⟨_,List.getElem?_eq_getElem (by rw[hs.2.1];omega)⟩;have H7:=hs.2.2 x (List.mem_of_getElem? hx);have Dc:(List.range' lo (k+1)).foldl G9 ws=((List.range' lo k).foldl G9 ws).set ((lo+k) / 64) (x |||2 ^ ((lo+k) % 64)):=by
    rw[←ahf hx,List.range'_concat,List.foldl_append];simp
   have c0:=hs.cell hx;have hlw:=World.block_lt_of_cell? wr _ c0;simp only at hlw;have hor:=u64_or_nat x (2 ^ ((lo+k) % 64)) H7 (Nat.pow_lt_pow_right δ (Nat.mod_lt (lo+k) (by decide:0<64)):2 ^ ((lo+k) % 64)<2 ^ 64);have hn:lo+(k+1)=lo+k+1:=ω;have hci:0≤((lo+k:Nat):Int)∧((lo+k:Nat):Int)≤hi:=ω;replace Dc:=ζ Dc;replace hs:=ζ hs;generalize uO:lo+k=c at *
   have hd:((c:Int) / 64).toNat=c / 64:=ω;have hA:bits .and .i64 (c:Int) 63=(c:Int) % 64:=afM c;have h6:((c:Int) % 64).toNat=c % 64:=ω;have hW:IntKind.u64.wrap (2 ^ (c % 64))=2 ^ (c % 64):=by
    have h8:(2:Int) ^ (c % 64)<2 ^ 64:=by
     have:=Nat.pow_lt_pow_right (a:=2) δ (Nat.mod_lt c (by decide:0<64));exact_mod_cast this
    have h9:(0:Int)<2 ^ (c % 64):=Int.pow_pos δ;simp only[IntKind.wrap,IntKind.bits,IntKind.signed];simp;omega
   rw[show ((2 ^ (c % 64):Nat):Int)=2 ^ (c % 64) by simp] at hor;have DV:=afc H7 (Nat.mod_lt c (by decide:0<64));generalize x |||2 ^ (c % 64)=y at *
   have hc4:(c:Int) / 64<4:=ω;have hc0:0≤(c:Int) / 64:=ω;replace uO:=ζ uO;replace akl:=ζ akl;replace hk:=ζ hk;replace hk2:=ζ hk2;go_wp2;refine aF κ ?_;refine rK (.range 12) 1 ?_;iterate 12 refine ay ?_
   refine aB ?_;refine eG (i:=12) rfl κ κ (fun wN hN hS K' hK=> ?_);clear hS;have hsN:fD wN g _:=⟨(hN.below.block g hlw).trans hs.o.1,hs.o.2⟩;have c0N:=hsN.cell hx;have f0N:=hsN.1.frozen (c / 64);have rlN:=World.block_lt_of_cell? wN _ c0N;simp only at rlN;have hput:=hsN.put (i:=c / 64) DV;rw[←Dc.o] at hput;replace hput:=ζ hput;have hgN:Hid (w.grownBy _ (some g)):=ζ ((hg.trans (hN.uH (some g))).trans (aj wN ⟨g,c / 64,none⟩ (.int .u64 (y:Int))));clear hsN;go_simp;refine hK.o _ _ ?_;clear hK;go_wp2;go_roundw
   case rel=>exact⟨k+1,by rw[hn];exact akl.o,.inr ω,by rw[hn];simp,hput.o,hgN.o⟩
   case measure=>exact ψ
  ·have avJ:¬((lo+k:Nat):Int)≤hi:=ω;have rY:k=hi+1-lo:=ω;have hsz:=hg.size;have hci:0≤((lo+k:Nat):Int)∧((lo+k:Nat):Int)≤256:=ω;replace hk:=ζ hk;replace hk2:=ζ hk2;replace hlt:=ζ hlt;replace rY:=ζ rY;go_wp2;go_end0;refine⟨rfl,?_,hg⟩;rw[mW,←rY.o];exact hs
theorem ac4 {x:Nat} (hx:x < 18446744073709551616):18446744073709551615 ^^^ x = 18446744073709551615-x:=by
 have:=congrArg BitVec.toNat (BitVec.allOnes_xor (x:=BitVec.ofNat 64 x));rw[BitVec.toNat_xor,BitVec.toNat_not,BitVec.toNat_ofNat,BitVec.toNat_allOnes,Nat.mod_eq_of_lt hx] at this;simpa using this
def qH (k:Nat) (ws:List Nat):List Nat:=(ws.take k).map (fun x=>18446744073709551615-x)++ws.drop k
theorem Oq {k:Nat} {ws:List Nat}:(qH k ws)[k]? = ws[k]? :=by
 unfold qH;by_cases hk:k≤ws.length
 ·rw[List.getElem?_append_right (by simp;omega)];simp[List.length_take,Nat.min_eq_left hk]
 ·rw[List.drop_of_length_le ω,List.append_nil,List.getElem?_eq_none (by simp;omega),List.getElem?_eq_none ω]
theorem Ld {k x:Nat} {ws:List Nat} (h:ws[k]? = some x):qH (k+1) ws=(qH k ws).set k (18446744073709551615-x):=by
 obtain⟨hl,rfl⟩:=List.getElem?_eq_some_iff.1 h;unfold qH;rw[List.set_append_right _ _ (by simp;omega),List.length_map,List.length_take,Nat.min_eq_left ω,Nat.sub_self,List.take_succ_eq_append_getElem hl,List.map_append];simp only[List.map_cons,List.map_nil,List.append_assoc,List.singleton_append];rw[List.drop_eq_getElem_cons hl];rfl
theorem XG {w:World} {g:Nat} {ws:List Nat} (h:fD w g ws) :
 Calls Tryz.prog 277 #[.pointer (some ⟨g,0,none⟩)] w fun e w'=>e =.returned (.tuple #[])∧fD w' g (ou ws)∧w.grownBy w' (some g):=by
 have hl:g < w.heap.size:=World.block_lt_of_cell? w _ (h.cell (i:=0) (List.getElem?_eq_getElem (by rw[h.2.1];omega)));have hwl:=ζ h.2.1;replace h:=ζ h;go_enter Tryz.func277,Tryz.ntmps277
 go_wp2;go_loopw [3] (fun i wr=>∃k:Nat,k≤4∧i =.int .i64 (k:Int)∧fD wr g (qH k ws)∧w.grownBy wr (some g)) (fun i _=>4-(intOf i).toNat)
 case atStart=>exact⟨0,ω,rfl,by simpa[qH] using h.o,World.grownBy.refl _ _⟩
 case round=>
  obtain⟨k,hk,rfl,hs,hg⟩:=hrel;by_cases hlt:k<4
  ·obtain⟨x,hx⟩:∃x,ws[k]? = some x:=⟨_,List.getElem?_eq_getElem (by rw[hwl.o];omega)⟩;have Dc:=Ld hx;rw[←Oq] at hx;have H7:=hs.2.2 x (List.mem_of_getElem? hx);have c0:=hs.cell hx;have hlw:=World.block_lt_of_cell? wr _ c0;simp only at hlw;have kX:(k:Int)<4:=ω;have abW:((18446744073709551615-x:Nat):Int)=18446744073709551615-(x:Int):=ω;have DV:18446744073709551615-x < 18446744073709551616:=ω;replace Dc:=ζ Dc;replace hs:=ζ hs;replace hk:=ζ hk;replace abW:=ζ abW;have hX:bits BinOp.xor IntKind.u64 (if IntKind.u64.signed=true then -1 else IntKind.u64.max) (x:Int)=((18446744073709551615-x:Nat):Int):=by
    rw[←ac4 H7];exact u64_xor_nat 18446744073709551615 x δ H7
   replace hX:=ζ hX;go_wp2;refine aF κ ?_;refine rK (.range 10) 1 ?_;iterate 10 refine ay ?_
   refine aB ?_;refine eG (i:=10) rfl κ κ (fun wN hN hS K' hK=> ?_);clear hS;have hsN:fD wN g _:=⟨(hN.below.block g hlw).trans hs.o.1,hs.o.2⟩;have c0N:=hsN.cell hx;have f0N:=hsN.1.frozen k;have rlN:=World.block_lt_of_cell? wN _ c0N;simp only at rlN;have hput:=hsN.put (i:=k) DV;rw[←Dc.o] at hput;replace hput:=ζ hput;have hgN:Hid (w.grownBy _ (some g)):=ζ ((hg.trans (hN.uH (some g))).trans (aj wN ⟨g,k,none⟩ (.int .u64 ((18446744073709551615-x:Nat):Int))));clear hsN;go_simp;refine hK.o _ _ ?_;clear hK;go_wp2;go_roundw
   case rel=>exact⟨k+1,ω,by simp,by rw[hX.o];exact hput.o,by rw[hX.o];exact hgN.o⟩
   case measure=>exact ψ
  ·have avJ:¬(k:Int)<4:=ω;have rY:k=4:=ω;replace hk:=ζ hk;replace hlt:=ζ hlt;replace rY:=ζ rY;go_wp2;go_end0;refine⟨rfl,?_,hg⟩;have:qH k ws=ou ws:=by
    rw[rY.o,qH,ou,List.take_of_length_le (by rw[hwl.o];omega),List.drop_of_length_le (by rw[hwl.o];omega),List.append_nil]
   rw[←this];exact hs
structure xX where
 pv:Value
 next:Nat
 fv:Value
def Jj (x:xX):List Value:=[x.pv,.int .i64 (x.next:Int),x.fv]
def Ny (w:World) (base:Nat) (v:Value):Option (List Nat)→Prop
 | none=>v =.pointer none
 | some ws=>∃g,v =.pointer (some ⟨g,0,none⟩)∧base≤g∧fD w g ws
structure jU (w:World) (base gB:Nat) (s:List UInt8) (b:PB) (xs:List xX) (sv:Value):Prop where
 blk:aG w gB 358 #[.string ⟨s.toArray⟩,.int .i64 (b.at_:Int),.int .i64 (b.err:Int),sv]
 le:base≤gB
 own:Own w base 377 3 Jj sv xs
 len:xs.length=b.aS.length
 st:∀(i:Nat) x y,xs[i]? = some x→b.aS[i]? = some y→x.next=y.next∧Ny w base x.pv y.set∧Own w base 3 1 encI x.fv y.free
 apart:∀(i j:Nat) x y g,xs[i]? = some x→xs[j]? = some y→i≠j→x.fv.ownBlock=some g→y.fv.ownBlock≠some g
theorem fD.grows {w w':World} {g:Nat} {ws:List Nat} (h:fD w g ws) (hg:ah w w'):fD w' g ws:=⟨(hg.below.block g h.1.lt).trans h.1,h.2⟩
theorem Ny.grows {w w':World} {base:Nat} {v:Value} {o:Option (List Nat)} (h:Ny w base v o) (hg:ah w w'):Ny w' base v o:=by
 cases o with
 | none=>exact h
 | some ws=>obtain⟨g,h1,h2,h3⟩:=h;exact⟨g,h1,h2,h3.grows hg⟩
theorem jU.grows {w w':World} {base gB:Nat} {s:List UInt8} {b:PB} {xs:List xX} {sv:Value} (h:jU w base gB s b xs sv) (hg:ah w w'):jU w' base gB s b xs sv where
 blk:=(hg.below.block gB h.blk.lt).trans h.blk
 le:=h.le
 own:=h.own.grows hg
 len:=h.len
 st:=fun i x y h1 h2=>⟨(h.st i x y h1 h2).1,(h.st i x y h1 h2).2.1.grows hg,(h.st i x y h1 h2).2.2.grows hg⟩
 apart:=h.apart
def wR (s:List UInt8) (b:PB):Value:=.tuple (match BK s b with | none=> #[.int .u8 0,.bool false] | some c=> #[.int .u8 (c.toNat:Int),.bool true])
theorem eP {w:World} {base gB:Nat} {s:List UInt8} {b:PB} {xs:List xX} {sv:Value} (h:jU w base gB s b xs sv) :
 Calls Tryz.prog 267 #[.pointer (some ⟨gB,0,none⟩)] w fun e w'=>e =.returned (wR s b)∧ah w w':=by
 have c0:w.cell? ⟨gB,0,none⟩=some (.string ⟨s.toArray⟩):=(h.blk.cell 0).trans rfl;have c1:w.cell? ⟨gB,1,none⟩=some (.int .i64 (b.at_:Int)):=(h.blk.cell 1).trans rfl;have c2:w.cell? ⟨gB,2,none⟩=some (.int .i64 (b.err:Int)):=(h.blk.cell 2).trans rfl;have hl:=h.blk.lt;have hG:ah w w:=ah.refl w;by_cases he:b.err=0
 ·rw[he] at c2;by_cases ha:b.at_<s.length
  ·have hai:¬((s.length:Nat):Int)≤(b.at_:Int):=ω;have SH:s[b.at_]? = some s[b.at_]:=List.getElem?_eq_getElem ha;have hv:wR s b =.tuple #[.int .u8 (s[b.at_].toNat:Int),.bool true]:=by simp[wR,BK,he,SH]
   rw[hv];clear hv;replace h:=ζ h;go_enter Tryz.func267,Tryz.ntmps267
   go_wp2;refine aF κ ?_;refine rK (.range 17) 0 ?_;iterate 17 refine ay ?_
   refine aB ?_;refine aH κ (fun wN hN hS=> ?_);clear hS;have d0:=(Below.cell (p:=⟨gB,0,none⟩) hN.below hl).trans c0;have d1:=(Below.cell (p:=⟨gB,1,none⟩) hN.below hl).trans c1;have ZR:=World.block_lt_of_cell? _ _ d0;simp only at ZR;replace hG:=hG.trans hN;clear hN c0 c1 c2 hl;go_wp2;refine aF κ ?_;refine rK (.range 11) 0 ?_;iterate 11 refine ay ?_
   refine aB ?_;refine aH κ (fun wN hN hS=> ?_);go_wp2;go_ret2;exact⟨rfl,hG.trans hN⟩
  ·have hai:((s.length:Nat):Int)≤(b.at_:Int):=ω;have SH:s[b.at_]? = none:=List.getElem?_eq_none ω;have hv:wR s b =.tuple #[.int .u8 0,.bool false]:=by simp[wR,BK,he,SH]
   rw[hv];clear hv;replace h:=ζ h;go_enter Tryz.func267,Tryz.ntmps267
   go_wp2;refine aF κ ?_;refine rK (.range 17) 0 ?_;iterate 17 refine ay ?_
   refine aB ?_;refine aH κ (fun wN hN hS=> ?_);go_wp2;go_ret2;exact⟨rfl,hG.trans hN⟩
 ·have hei:¬(b.err:Int)=0:=ω;have hv:wR s b =.tuple #[.int .u8 0,.bool false]:=by simp[wR,BK,he]
  rw[hv];clear hv;replace h:=ζ h;go_enter Tryz.func267,Tryz.ntmps267
  go_wp2;refine aF κ ?_;refine rK (.range 17) 0 ?_;iterate 17 refine ay ?_
  refine aB ?_;refine aH κ (fun wN hN hS=> ?_);go_wp2;go_ret2;exact⟨rfl,hG.trans hN⟩
theorem rE {α:Type} {w w':World} {base k m:Nat} {e te:TypeId} {enc:α→List Value} {v:Value} {xs:List α} {cs:Array Value} (h:Own w base e k enc v xs) (hm:aG w m te cs) (hne:e≠te) (hg:w.grownBy w' (some m)):Own w' base e k enc v xs:=
 h.kept' hg (fun g jD hv=>by
  injection jD with jD
  subst jD;obtain⟨cur,hc⟩:=bV h hv;unfold aG at hm;rw[hm] at hc;simp only[Option.some.injEq,Obj.cells.injEq] at hc;exact hne hc.2.1.symm)
theorem fD.off {w w':World} {g m:Nat} {ws:List Nat} {te:TypeId} {cs:Array Value} (h:fD w g ws) (hm:aG w m te cs) (hne:385≠te) (hg:w.grownBy w' (some m)):fD w' g ws:=by
 refine⟨(hg.block g h.1.lt (fun hh=> ?_)).trans h.1,h.2⟩;injection hh with hh
 subst hh;have h1:=h.1;unfold aG at h1 hm;rw[hm] at h1;simp only[Option.some.injEq,Obj.cells.injEq] at h1;exact hne h1.2.1.symm
theorem Ny.off {w w':World} {base m:Nat} {v:Value} {o:Option (List Nat)} {te:TypeId} {cs:Array Value} (h:Ny w base v o) (hm:aG w m te cs) (hne:385≠te) (hg:w.grownBy w' (some m)):Ny w' base v o:=by
 cases o with
 | none=>exact h
 | some ws=>obtain⟨g,h1,h2,h3⟩:=h;exact⟨g,h1,h2,h3.off hm hne hg⟩
theorem jU.turn {w w':World} {base gB:Nat} {s:List UInt8} {b b':PB} {xs:List xX} {sv:Value} (h:jU w base gB s b xs sv) (hg:w.grownBy w' (some gB)) (hb:b'.aS=b.aS)
 (hc:aG w' gB 358 #[.string ⟨s.toArray⟩,.int .i64 (b'.at_:Int),.int .i64 (b'.err:Int),sv]):jU w' base gB s b' xs sv where
 blk:=hc
 le:=h.le
 own:=rE h.own h.blk δ hg
 len:=by rw[hb];exact h.len
 st:=fun i x y h1 h2=>by
  rw[hb] at h2;obtain⟨a1,a2,a3⟩:=h.st i x y h1 h2;exact⟨a1,a2.off h.blk δ hg,rE a3 h.blk δ hg⟩
 apart:=h.apart
theorem kD {w:World} {base gB e:Nat} {s:List UInt8} {b:PB} {xs:List xX} {sv:Value} (h:jU w base gB s b xs sv) :
 Calls Tryz.prog 250 #[.pointer (some ⟨gB,0,none⟩),.int .i64 (e:Int)] w fun r w'=>r =.returned (.tuple #[])∧jU w' base gB s (bU e b) xs sv∧w.grownBy w' (some gB):=by
 have c2:w.cell? ⟨gB,2,none⟩=some (.int .i64 (b.err:Int)):=(h.blk.cell 2).trans rfl;have f2:=h.blk.frozen 2;have hl:=h.blk.lt;by_cases he:b.err=0
 ·rw[he] at c2;have hf:bU e b = {b with err:=e}:=by simp[bU,he]
  have aK:=aj w ⟨gB,2,none⟩ (.int .i64 (e:Int));have hB:jU (w.setCell ⟨gB,2,none⟩ (.int .i64 (e:Int))) base gB s (bU e b) xs sv:=by
   refine h.turn aK (by rw[hf]) ?_;rw[hf];have:=h.blk;unfold aG at *
   simp[World.setCell,Array.getElem?_modify,this]
  replace hB:=ζ hB;replace aK:=ζ aK;clear hf h;go_enter Tryz.func250,Tryz.ntmps250
  go_wp2;go_end0;exact⟨rfl,hB.o,aK.o⟩
 ·have hei:¬(b.err:Int)=0:=ω;have hf:bU e b = b:=by simp[bU,he]
  rw[hf];clear hf;replace h:=ζ h;go_enter Tryz.func250,Tryz.ntmps250
  go_wp2;go_end0;exact⟨rfl,h.o,World.grownBy.refl _ _⟩
end Go.Proofs.YtbhikkgpcmkonaaGreatDoor
namespace Go.Proofs.YtbhikkgpcmkonaaGreatDoor
def jQ (l:List wP):Nat:=(l.map fun x=>x.free.length).sum
def d_ (b:PB):Nat:=b.aS.length+jQ b.aS
theorem Jg (l:List wP):∀(i j:Nat),jQ (l.modify i fun x=>{x with free:=x.free++[j]})≤jQ l + 1:=by
 induction l with
 | nil=>intro i j;simp[jQ]
 | cons a l ih=>
  intro i j;cases i with
  | zero=>simp[jQ];omega
  | succ i=>
   have:=ih i j;simp only[jQ,List.modify_succ_cons,List.map_cons,List.sum_cons] at this ⊢;omega
theorem agq (l:List wP) (ws:List Nat) (n:Nat):∀(i:Nat),jQ (l.modify i fun x=>{x with set:=some ws,next:=n})=jQ l:=by
 induction l with
 | nil=>intro i;simp[jQ]
 | cons a l ih=>
  intro i;cases i with
  | zero=>simp[jQ]
  | succ i=>
   have:=ih i;simp only[jQ,List.modify_succ_cons,List.map_cons,List.sum_cons] at this ⊢;omega
theorem WO (l m:List wP):jQ (l ++m)=jQ l + jQ m:=by simp[jQ]
theorem agr {l:List wP} {i:Nat} {y:wP} (h:l[i]? = some y):y.free.length≤jQ l:=by
 have hm:y∈l:=List.mem_of_getElem? h;clear h;induction l with
 | nil=>cases hm
 | cons a l ih=>
  simp only[jQ,List.map_cons,List.sum_cons] at ih ⊢;rcases List.mem_cons.1 hm with rfl | hm
  ·omega
  ·have:=ih hm;omega
structure PT (b b':PB) (c:Int):Prop where
 at_:b.at_≤b'.at_
 len:b.aS.length≤b'.aS.length
 cost:(d_ b':Int)-8*b'.at_≤d_ b - 8*b.at_+c
theorem PT.refl (b:PB):PT b b 0:=⟨Nat.le_refl _,Nat.le_refl _,ω⟩
theorem PT.trans {a b c:PB} {m n k:Int} (h:PT a b m) (h':PT b c n) (hk:m + n≤k):PT a c k:=
 ⟨Nat.le_trans h.at_ h'.at_,Nat.le_trans h.len h'.len,by have:=h.cost;have:=h'.cost;omega⟩
theorem PT.weak {a b:PB} {m k:Int} (h:PT a b m) (hk:m≤k):PT a b k:=⟨h.at_,h.len,by have:=h.cost;omega⟩
def WP (s:List UInt8) (k:Nat) (b:PB):Prop:=b.at_≤s.length+k∧(b.err=0→b.at_≤s.length)
theorem WP.weak {s:List UInt8} {k m:Nat} {b:PB} (h:WP s k b) (hm:k≤m):WP s m b:=⟨by have:=h.1;omega,h.2⟩
theorem WP.of_le {s:List UInt8} {k:Nat} {b:PB} (h:b.at_≤s.length):WP s k b:=⟨ω,fun _=>h⟩
theorem jc {s:List UInt8} {b:PB} {c:UInt8} (h:BK s b = some c):b.err=0∧b.at_<s.length∧s[b.at_]? = some c:=by
 unfold BK at h;split at h
 ·rename_i he;exact⟨he,(List.getElem?_eq_some_iff.1 h).1,h⟩
 ·cases h
theorem dV (e:Nat) (b:PB):(bU e b).at_=b.at_:=by unfold bU;split <;> rfl
theorem gu (e:Nat) (b:PB):(bU e b).aS=b.aS:=by unfold bU;split <;> rfl
theorem DY {e:Nat} (he:e≠0) (b:PB):(bU e b).err≠0:=by unfold bU;split <;> assumption
theorem pW {e k:Nat} {s:List UInt8} (he:e≠0) {b:PB} (h:b.at_≤s.length+k):WP s k (bU e b):=⟨by rw[dV];exact h,fun h0=>absurd h0 (DY he b)⟩
theorem nV (e:Nat) (b:PB):PT b (bU e b) 0:=⟨by rw[dV];exact Nat.le_refl _,by rw[gu];exact Nat.le_refl _,by unfold d_;rw[dV,gu];omega⟩
theorem jT (b:PB):PT b (aO b) (-8):=⟨by simp[aO],by simp[aO],by simp[aO,d_];omega⟩
theorem CG (b:PB):PT b (aX b) 1:=⟨by simp[aX],by simp[aX],by simp[aX,d_,jQ,uG];omega⟩
theorem zB (i j:Nat) (b:PB):PT b (bD i j b) 1:=⟨by simp[bD],by simp[bD],by have:=Jg b.aS i j;simp[bD,d_];omega⟩
theorem eu (b:PB):(aX b).aS.length=b.aS.length+1:=by simp[aX]
theorem dU (i j:Nat) (b:PB):(bD i j b).aS.length=b.aS.length:=by simp[bD]
theorem akR {s:List UInt8} {k i j:Nat} {b:PB} (h:WP s k b):WP s k (bD i j b):=h
def Jr (x:qx) (b:PB):Prop:=x.1<b.aS.length∧x.2<b.aS.length
theorem Jr.mono {x:qx} {b b':PB} (h:Jr x b) (hl:b.aS.length≤b'.aS.length):Jr x b':=⟨Nat.lt_of_lt_of_le h.1 hl,Nat.lt_of_lt_of_le h.2 hl⟩
theorem xI (ws:List Nat) (b:PB):PT b (kH ws b).1 2∧Jr (kH ws b).2 (kH ws b).1∧(kH ws b).1.at_=b.at_∧(kH ws b).1.err=b.err:=by
 refine⟨⟨Nat.le_refl _,by simp[kH,aX],?_⟩,⟨by simp[kH,aX],by simp[kH,aX]⟩,rfl,rfl⟩;have:d_ (kH ws b).1=d_ b + 2:=by
  unfold d_ kH;simp only[List.length_modify,agq,aX,WO,List.length_append];simp[jQ,uG];omega
 have h2:(kH ws b).1.at_=b.at_:=rfl;rw[this,h2];omega
theorem z_ {s:List UInt8} {k:Nat} {b:PB} {ws:List Nat} (h:WP s k b):WP s k (kH ws b).1:=h
theorem Iu {s:List UInt8} {b:PB} (h:b.at_<s.length):PT b (kL s b).1 (-8)∧WP s 2 (kL s b).1∧(kL s b).1.aS=b.aS∧b.at_<(kL s b).1.at_:=by
 unfold kL;split
 ·split
  ·refine⟨((jT b).trans (jT _) (Int.le_refl _)).trans (nV _ _) ω,pW δ (by simp[aO];omega),by rw[gu];rfl,by rw[dV];simp[aO];omega⟩
  ·rename_i hc;have:=(jc hc).2.1;refine⟨(jT b).trans (jT _) ω,WP.of_le (by simp[aO] at this ⊢;omega),rfl,by simp[aO];omega⟩
 ·split
  ·exact⟨(jT b).trans (nV _ _) ω,pW δ (by simp[aO];omega),by rw[gu];rfl,by rw[dV];simp[aO]⟩
  ·exact⟨jT b,WP.of_le (by simp[aO];omega),rfl,by simp[aO]⟩
def lF (s:List UInt8) (r:PB×UInt8):PB×UInt8:=if BK s r.1=some 45∧r.1.at_+1<s.length∧s[r.1.at_+1]?≠some 93 then kL s (aO r.1) else r
theorem ae0 {s:List UInt8} {b:PB} {r:PB×UInt8} (h:PT b r.1 (-8)∧WP s 2 r.1∧r.1.aS=b.aS∧b.at_<r.1.at_):PT b (lF s r).1 (-8)∧WP s 2 (lF s r).1∧(lF s r).1.aS=b.aS∧b.at_<(lF s r).1.at_:=by
 unfold lF;split
 ·rename_i hc;have h1:=Iu (s:=s) (b:=aO r.1) (by simp[aO];omega);have h2:=h1.1.at_;exact⟨(h.1.trans (jT _) (Int.le_refl _)).trans h1.1 ω,h1.2.1,by rw[h1.2.2.1];exact h.2.2.1,by have:=h.2.2.2;have h3:(aO r.1).at_=r.1.at_+1:=rfl;omega⟩
 ·exact h
theorem Zg {s:List UInt8} {f:Nat} {first:Bool} {b:PB} {ws:List Nat} (hf:s.length≤f + b.at_):oH s f first b ws=match BK s b with
 | none=>(bU 2 b,ws)
 | some d=>
  if d = 93∧first=true then (bU 2 b,ws)
  else if d = 93 then (aO b,ws)
  else
   let r:=kL s b
   let q:=lF s r
   oH s (f - 1) false (if q.2.toNat<r.2.toNat then bU 2 q.1 else q.1) (mW ws r.2.toNat q.2.toNat):=by
 cases f with
 | zero=>
  rw[oH];split
  ·rfl
  ·rename_i hc;have:=(jc hc).2.1;omega
 | succ f=>rfl
theorem aoh {s:List UInt8} {b:PB} {q:PB} {p:Prop} [Decidable p] (h:PT b q (-8)∧WP s 2 q∧q.aS=b.aS∧b.at_<q.at_) :
 PT b (if p then bU 2 q else q) (-8)∧WP s 2 (if p then bU 2 q else q)∧(if p then bU 2 q else q).aS=b.aS∧b.at_<(if p then bU 2 q else q).at_:=by
 split
 ·exact⟨h.1.trans (nV _ _) ω,pW δ h.2.1.1,by rw[gu];exact h.2.2.1,by rw[dV];exact h.2.2.2⟩
 ·exact h
theorem UQ (s:List UInt8):∀(f:Nat) (first:Bool) (b:PB) (ws:List Nat),WP s 2 b→PT b (oH s f first b ws).1 0∧WP s 2 (oH s f first b ws).1∧(oH s f first b ws).1.aS=b.aS:=by
 intro f;induction f with
 | zero=>intro first b ws hW;exact⟨nV _ _,pW δ hW.1,gu _ _⟩
 | succ f ih=>
  intro first b ws hW;rw[oH];split
  ·exact⟨nV _ _,pW δ hW.1,gu _ _⟩
  ·rename_i d hd;split
   ·exact⟨nV _ _,pW δ hW.1,gu _ _⟩
   ·split
    ·exact⟨(jT b).weak ω,WP.of_le (by have:=(jc hd).2.1;simp[aO];omega),rfl⟩
    ·have h1:=ae0 (Iu (jc hd).2.1);have h2:=aoh (p:=(lF s (kL s b)).2.toNat<(kL s b).2.toNat) h1;have h3:=ih false _ (mW ws (kL s b).2.toNat (lF s (kL s b)).2.toNat) h2.2.1;exact⟨h2.1.trans h3.1 ω,h3.2.1,h3.2.2.trans h2.2.2.1⟩
theorem D5 {s:List UInt8} {b:PB} (hW:WP s 2 b):PT b (nJ s b).1 0∧WP s 2 (nJ s b).1∧(nJ s b).1.aS=b.aS:=by
 unfold nJ;split
 ·rename_i h;have h1:=UQ s (s.length+1) true (aO b) fC (WP.of_le (by have:=(jc h).2.1;simp[aO];omega));exact⟨(jT b).trans h1.1 ω,h1.2.1,h1.2.2⟩
 ·exact UQ s _ true b fC hW
def G_ (s:List UInt8) (k:Nat) (sub:Option (PB→PB×qx)):Prop:=∀f,sub=some f→∀b,b.at_≤s.length→PT b (f b).1 5∧WP s k (f b).1∧Jr (f b).2 (f b).1
theorem Qi {s:List UInt8} {k:Nat} {sub:Option (PB→PB×qx)} {c:UInt8} {b:PB} (hs:G_ s k sub) (hk:2≤k) (hb:b.at_<s.length) :
 PT b (cZ s sub c b).1 (-6)∧WP s (k+1) (cZ s sub c b).1∧Jr (cZ s sub c b).2 (cZ s sub c b).1:=by
 have ha:=jT b;have DW:(aO b).at_≤s.length:=by simp[aO];omega
 unfold cZ;split
 ·split
  ·have h1:=xI fC (bU 3 (aO b));exact⟨(ha.trans (nV _ _) (Int.le_refl _)).trans h1.1 ω,z_ (pW δ ω),h1.2.1⟩
  ·rename_i f;have h1:=hs f rfl (aO b) DW;simp only;split
   ·rename_i hp;refine⟨(ha.trans h1.1 (Int.le_refl _)).trans (jT _) ω,WP.of_le ?_,h1.2.2⟩;have:=(jc hp).2.1;simp[aO] at this ⊢;omega
   ·refine⟨((ha.trans h1.1 (Int.le_refl _)).trans (nV 2 _) (Int.le_refl _)).trans (jT _) ω,?_,?_⟩
    ·have h2:=h1.2.1.1;refine⟨by simp only[aO,dV] at h2 ⊢;omega,fun h0=>absurd h0 ?_⟩;exact DY (e:=2) δ (f (aO b)).1
    ·have:=h1.2.2;refine this.mono ?_;simp[aO,gu]
 ·split
  ·have h1:=D5 (s:=s) (b:=aO b) (WP.of_le DW);have h2:=xI (nJ s (aO b)).2 (nJ s (aO b)).1;exact⟨(ha.trans h1.1 (Int.le_refl _)).trans h2.1 ω,(z_ h1.2.1).weak ω,h2.2.1⟩
  ·split
   ·have h2:=xI (ou fC) (aO b);exact⟨ha.trans h2.1 ω,z_ (WP.of_le DW),h2.2.1⟩
   ·split
    ·split
     ·have h2:=xI (mW fC 0 0) (aO (bU 2 (aO b)));refine⟨((ha.trans (nV 2 _) (Int.le_refl _)).trans (jT _) (Int.le_refl _)).trans h2.1 ω,?_,h2.2.1⟩;refine z_ ⟨by simp only[aO,dV] at DW ⊢;omega,fun h0=>absurd h0 (DY (e:=2) δ (aO b))⟩
     ·rename_i d hd;have h2:=xI (mW fC d.toNat d.toNat) (aO (aO b));refine⟨(ha.trans (jT _) (Int.le_refl _)).trans h2.1 ω,z_ (WP.of_le ?_),h2.2.1⟩;have:=(jc hd).2.1;simp[aO] at this ⊢;omega
    ·split
     ·have h1:=xI fC (bU 2 (aO b));exact⟨(ha.trans (nV _ _) (Int.le_refl _)).trans h1.1 ω,z_ (pW δ ω),h1.2.1⟩
     ·have h2:=xI (mW fC c.toNat c.toNat) (aO b);exact⟨ha.trans h2.1 ω,z_ (WP.of_le DW),h2.2.1⟩
theorem JV {s:List UInt8} {k:Nat} {b:PB} {x:qx} (hW:WP s k b) (hx:Jr x b):PT b (fH s b x).1 0∧WP s k (fH s b x).1∧Jr (fH s b x).2 (fH s b x).1:=by
 unfold fH;split
 ·exact⟨PT.refl b,hW,hx⟩
 ·rename_i c hc;split
  ·have h0:=(((((jT b).trans (CG _) (Int.le_refl _)).trans (CG _) (Int.le_refl _)).trans (zB b.aS.length x.1 _) (Int.le_refl _)).trans (zB x.2 (b.aS.length+1) _) (Int.le_refl _));have yI:WP s k (aO b):=WP.of_le (by have:=(jc hc).2.1;simp[aO];omega);have hI:b.aS.length+1<(bD x.2 (b.aS.length+1) (bD b.aS.length x.1 (aX (aX (aO b))))).aS.length:=by
    simp only[dU,eu,aO];omega
   simp only;have hp:∀(p:Prop) [Decidable p] (i j:Nat) (z:PB),WP s k z→PT z (if p then z else bD i j z) 1∧WP s k (if p then z else bD i j z)∧(if p then z else bD i j z).aS.length=z.aS.length:=by
    intro p _ i j z hz;split
    ·exact⟨(PT.refl z).weak ω,hz,rfl⟩
    ·exact⟨zB _ _ _,hz,dU _ _ _⟩
   have h1:=hp (c = 43) b.aS.length (b.aS.length+1) _ (show WP s k (bD x.2 (b.aS.length+1) (bD b.aS.length x.1 (aX (aX (aO b))))) from yI);have h2:=hp (c = 63) x.2 x.1 _ h1.2.1;refine⟨(h0.trans h1.1 (Int.le_refl _)).trans h2.1 ω,h2.2.1,?_,?_⟩
   ·rw[h2.2.2,h1.2.2];omega
   ·rw[h2.2.2,h1.2.2];exact hI
  ·exact⟨PT.refl b,hW,hx⟩
theorem aeP {s:List UInt8} {sub:Option (PB→PB×qx)} {f:Nat} {p:qx} {b:PB} (hf:s.length≤f + b.at_):Gl s sub f p b = match BK s b with
 | none=>(b,p)
 | some c=>if c = 124∨c = 41 then (b,p) else
  let r:=cZ s sub c b
  let q:=fH s r.1 r.2
  Gl s sub (f - 1) (p.1,q.2.2) (bD p.2 q.2.1 q.1):=by
 cases f with
 | zero=>
  rw[Gl];split
  ·rfl
  ·rename_i hc;have:=(jc hc).2.1;omega
 | succ f=>rfl
theorem amP {s:List UInt8} {k:Nat} {sub:Option (PB→PB×qx)} (hs:G_ s k sub) (hk:2≤k):∀(f:Nat) (p:qx) (b:PB),WP s (k+1) b→Jr p b→
 PT b (Gl s sub f p b).1 0∧WP s (k+1) (Gl s sub f p b).1∧Jr (Gl s sub f p b).2 (Gl s sub f p b).1:=by
 intro f;induction f with
 | zero=>intro p b hW hI;exact⟨PT.refl b,hW,hI⟩
 | succ f ih=>
  intro p b hW hI;rw[Gl];split
  ·exact⟨PT.refl b,hW,hI⟩
  ·rename_i c hc;split
   ·exact⟨PT.refl b,hW,hI⟩
   ·have h1:=Qi (c:=c) hs hk (jc hc).2.1;have h2:=JV h1.2.1 h1.2.2;have h3:=ih (p.1,(fH s (cZ s sub c b).1 (cZ s sub c b).2).2.2) (bD p.2 (fH s (cZ s sub c b).1 (cZ s sub c b).2).2.1 (fH s (cZ s sub c b).1 (cZ s sub c b).2).1) h2.2.1
     ⟨by rw[dU];exact Nat.lt_of_lt_of_le hI.1 (Nat.le_trans h1.1.len h2.1.len),by rw[dU];exact h2.2.2.2⟩
    exact⟨((h1.1.trans h2.1 (Int.le_refl _)).trans (zB _ _ _) (Int.le_refl _)).trans h3.1 ω,h3.2⟩
theorem Vx {s:List UInt8} {k:Nat} {sub:Option (PB→PB×qx)} (hs:G_ s k sub) (hk:2≤k) {b:PB} (hW:WP s (k+1) b) :
 PT b (jK s sub b).1 1∧WP s (k+1) (jK s sub b).1∧Jr (jK s sub b).2 (jK s sub b).1:=by
 have h1:=amP hs hk (s.length+1) (b.aS.length,b.aS.length) (aX b) hW ⟨by rw[eu];simp,by rw[eu];simp⟩;exact⟨(CG b).trans h1.1 ω,h1.2⟩
theorem acJ {s:List UInt8} {k:Nat} {sub:Option (PB→PB×qx)} (hs:G_ s k sub) (hk:2≤k):∀(f:Nat) (p:qx) (b:PB),WP s (k+1) b→Jr p b→
 PT b (iq s sub f p b).1 3∧WP s (k+1) (iq s sub f p b).1∧Jr (iq s sub f p b).2 (iq s sub f p b).1:=by
 intro f;induction f with
 | zero=>intro p b hW hI;exact⟨(PT.refl b).weak ω,hW,hI⟩
 | succ f ih=>
  intro p b hW hI;rw[iq];have h1:=Vx hs hk hW;have h2:PT b (bD (jK s sub b).2.2 p.2 (bD p.1 (jK s sub b).2.1 (jK s sub b).1)) 3:=(h1.1.trans (zB _ _ _) (Int.le_refl _)).trans (zB _ _ _) ω;have hI2:Jr p (bD (jK s sub b).2.2 p.2 (bD p.1 (jK s sub b).2.1 (jK s sub b).1)):=hI.mono h2.len;split
  ·rename_i hp;have h3:=ih p (aO (bD (jK s sub b).2.2 p.2 (bD p.1 (jK s sub b).2.1 (jK s sub b).1))) (WP.of_le (by have:=(jc hp).2.1;simp[aO,bD] at this ⊢;omega)) hI2;exact⟨(h2.trans (jT _) (Int.le_refl _)).trans h3.1 ω,h3.2⟩
  ·exact⟨h2,h1.2.1,hI2⟩
theorem GV (s:List UInt8):∀(d:Nat) (b:PB),b.at_≤s.length→PT b (jy s d b).1 5∧WP s (3+d) (jy s d b).1∧Jr (jy s d b).2 (jy s d b).1:=by
 have hst:∀(sub:Option (PB→PB×qx)) (k:Nat) (b:PB),G_ s k sub→2≤k→b.at_≤s.length→PT b (iq s sub (s.length+1) (b.aS.length,b.aS.length+1) (aX (aX b))).1 5∧WP s (k+1) (iq s sub (s.length+1) (b.aS.length,b.aS.length+1) (aX (aX b))).1∧Jr (iq s sub (s.length+1) (b.aS.length,b.aS.length+1) (aX (aX b))).2 (iq s sub (s.length+1) (b.aS.length,b.aS.length+1) (aX (aX b))).1:=by
  intro sub k b hs hk hb;have h1:=acJ hs hk (s.length+1) (b.aS.length,b.aS.length+1) (aX (aX b)) (WP.of_le hb) ⟨by simp only[eu];omega,by simp only[eu];omega⟩;exact⟨((CG b).trans (CG _) (Int.le_refl _)).trans h1.1 ω,h1.2⟩
 intro d;induction d with
 | zero=>intro b hb;exact hst none 2 b (fun f hf=>by cases hf) ω hb
 | succ d ih=>
  intro b hb;have:=hst (some (jy s d)) (3+d) b (fun f hf b hb=>by injection hf with hf;subst hf;exact ih b hb) ω hb;exact⟨this.1,this.2.1.weak ω,this.2.2⟩
end Go.Proofs.YtbhikkgpcmkonaaGreatDoor
namespace Go.Proofs.YtbhikkgpcmkonaaGreatDoor
open Go.RowKit
theorem aCx:fB Tryz.prog 356 377 3 40:=fB.mk' (z:=.agg #[.pointer none,.int .i64 0,.slice none 0 0]) Tryz.underlying356 κ rfl ω
def tV:xX:=⟨.pointer none,0,.slice none 0 0⟩
theorem auU:∀u∈Jj tV,u.oneCell'=true:=by intro u hu;simp[Jj,tV] at hu;rcases hu with rfl | rfl | rfl <;> rfl
theorem V9:∀x,(Jj x).length=3:=fun _=>rfl
structure aC (T:List TypeId) (base:Nat) (w w':World):Prop where
 below:Below base w w'
 kept:∀(g:Nat) (cur:Array Value) (te:TypeId) (fz:Nat×Nat),w.heap[g]? = some (Obj.cells cur te fz)→te∉T→w'.heap[g]? = w.heap[g]?
theorem aC.refl (T:List TypeId) (base:Nat) (w:World):aC T base w w:=⟨Below.refl _ _,fun _ _ _ _ _ _=>rfl⟩
theorem aC.trans {T:List TypeId} {base:Nat} {a b c:World} (h:aC T base a b) (k:aC T base b c):aC T base a c:=
 ⟨h.below.trans k.below,fun g cur te fz hg ht=>(k.kept g cur te fz ((h.kept g cur te fz hg ht).trans hg) ht).trans (h.kept g cur te fz hg ht)⟩
theorem aC.mono {T T':List TypeId} {base:Nat} {a b:World} (h:aC T base a b) (hT:∀t∈T,t∈T'):aC T' base a b:=
 ⟨h.below,fun g cur te fz hg ht=>h.kept g cur te fz hg fun hh=>ht (hT _ hh)⟩
theorem oG {w:World} {g:Nat} {o:Obj} (h:w.heap[g]? = some o):g < w.heap.size:=(Array.getElem?_eq_some_iff.1 h).1
theorem aC.grows {T:List TypeId} {base:Nat} {a b:World} (hg:ah a b) (hb:base≤a.heap.size):aC T base a b:=
 ⟨Below.mono hg.below hb,fun g _ _ _ h _=>hg.below.block g (oG h)⟩
theorem aC.size {T:List TypeId} {base:Nat} {a b:World} (h:aC T base a b):a.heap.size≤b.heap.size:=h.below.size
theorem aC.blk {T:List TypeId} {base g:Nat} {a b:World} {te:TypeId} {cs:Array Value} (h:aC T base a b) (hb:aG a g te cs) (ht:te∉T):aG b g te cs:=(h.kept g _ _ _ hb ht).trans hb
theorem aC.row {T:List TypeId} {base:Nat} {w w':World} {row:Option Nat} (hg:w.grownBy w' row) (hb:base≤w.heap.size) (hr:∀m,row=some m→base≤m∧∃te cs,te∈T∧aG w m te cs):aC T base w w':=by
 refine⟨⟨hg.os,hg.tape,hg.output,hg.size,fun k hk=>hg.block k (Nat.lt_of_lt_of_le hk hb) (fun e=> ?_)⟩,fun g cur te fz h ht=>hg.block g (oG h) (fun e=> ?_)⟩
 ·have:=(hr k e.symm).1;omega
 ·obtain⟨_,te',cs,hT,hB⟩:=hr g e.symm;unfold aG at hB;rw[h] at hB;simp only[Option.some.injEq,Obj.cells.injEq] at hB;exact ht (hB.2.1 ▸ hT)
theorem aC.setCell {T:List TypeId} {base g i:Nat} {w:World} {te:TypeId} {cs:Array Value} (hB:aG w g te cs) (hb:base≤g) (ht:te∈T) (u:Value):aC T base w (w.setCell ⟨g,i,none⟩ u):=
 aC.row (aj w ⟨g,i,none⟩ u) (by have:=hB.lt;omega) (fun m hm=>by injection hm with hm;subst hm;exact⟨hb,te,cs,ht,hB⟩)
theorem Own.Nw {α:Type} {w:World} {base k:Nat} {e:TypeId} {enc:α→List Value} {v:Value} {xs:List α} (h:Own w base e k enc v xs):∀m,v.ownBlock=some m→base≤m∧∃cs,aG w m e cs:=fun m hm=>by
 obtain⟨cur,hc⟩:=bV h hm;exact⟨(World.ownsRow.lt h m hm).1,cur,hc⟩
theorem yX {α:Type} {w:World} {b0 k:Nat} {e:TypeId} {enc:α→List Value} {v:Value} {xs:List α} (h:Own w b0 e k enc v xs) (h0:0<xs.length):∃gb cap,v =.slice (some ⟨gb,0,none⟩) xs.length cap:=by
 rcases h.2 with⟨_,h6⟩ | ⟨g,cap,_,h5,_⟩
 ·omega
 ·exact⟨g,cap,h5⟩
theorem Ny.kept {w w':World} {base:Nat} {v:Value} {o:Option (List Nat)} {row:Option Nat} (h:Ny w base v o) (hg:w.grownBy w' row) (hr:∀m,row=some m→∃te cs,385≠te∧aG w m te cs):Ny w' base v o:=by
 cases row with
 | none=>
  cases o with
  | none=>exact h
  | some ws=>obtain⟨g,h1,h2,h3⟩:=h;exact⟨g,h1,h2,(hg.block g h3.1.lt σ).trans h3.1,h3.2⟩
 | some m=>obtain⟨te,cs,hne,hB⟩:=hr m rfl;exact h.off hB hne hg
theorem Own.ao3 {α:Type} {w w':World} {base k:Nat} {e:TypeId} {enc:α→List Value} {v:Value} {xs:List α} {row:Option Nat} (h:Own w base e k enc v xs) (hg:w.grownBy w' row) (hr:∀m,row=some m→∃te cs,e≠te∧aG w m te cs):Own w' base e k enc v xs:=
 h.kept' hg (fun g jD=>by obtain⟨te,cs,hne,hB⟩:=hr g jD;exact aZ h hB hne)
theorem jU.push {w w2:World} {base gB:Nat} {s:List UInt8} {b:PB} {xs:List xX} {sv sv':Value} (h:jU w base gB s b xs sv) (hO:Own w2 base 377 3 Jj sv' (xs++[tV])) (hg:w.grownBy w2 sv.ownBlock) :
 jU (w2.setCell ⟨gB,3,none⟩ sv') base gB s (aX b) (xs++[tV]) sv':=by
 have hrow:∀(e:TypeId),e≠377→∀m,sv.ownBlock=some m→∃te cs,e≠te∧aG w m te cs:=fun e he m hm=>by
  obtain⟨_,cs,hB⟩:=h.own.Nw m hm;exact⟨_,cs,he,hB⟩
 have hb2:aG w2 gB 358 #[.string ⟨s.toArray⟩,.int .i64 (b.at_:Int),.int .i64 (b.err:Int),sv]:=(hg.block gB h.blk.lt (fun e=>aZ h.own h.blk δ e.symm)).trans h.blk;have aK:=aj w2 ⟨gB,3,none⟩ sv';refine⟨?_,h.le,rE hO hb2 δ aK,by simp[aX,h.len],?_,?_⟩
 ·have:=hb2.bH 3 sv';simpa[aX] using this
 ·intro i x y h1 h2;rcases Nat.lt_or_ge i xs.length with hi | hi
  ·rw[List.getElem?_append_left hi] at h1;simp only[aX] at h2;rw[List.getElem?_append_left (by rw[←h.len];exact hi)] at h2;obtain⟨a1,a2,a3⟩:=h.st i x y h1 h2;exact⟨a1,(a2.kept hg (hrow _ δ)).off hb2 δ aK,rE (a3.ao3 hg (hrow _ δ)) hb2 δ aK⟩
  ·have hi':i = xs.length:=by
    have:=(List.getElem?_eq_some_iff.1 h1).1;simp at this;omega
   subst hi';simp only[aX] at h2;rw[List.getElem?_append_right (Nat.le_refl _)] at h1;rw[h.len,List.getElem?_append_right (Nat.le_refl _)] at h2;simp at h1 h2;subst h1 h2;exact⟨rfl,rfl,Own.iO _ _ _ _ _⟩
 ·have old:∀(i:Nat) x,(xs++[tV])[i]? = some x→xs[i]? = some x∨x = tV:=fun i x h1=>by
   rcases Nat.lt_or_ge i xs.length with hi | hi
   ·rw[List.getElem?_append_left hi] at h1;exact .inl h1
   ·rw[List.getElem?_append_right hi] at h1;right
    have:=List.mem_of_getElem? h1;simpa using this
  intro i j x y g h1 h2 hne hg1 hg2;rcases old i x h1 with h1 | rfl
  ·rcases old j y h2 with h2 | rfl
   ·exact h.apart i j x y g h1 h2 hne hg1 hg2
   ·cases hg2
  ·cases hg1
theorem jU.upd {w w1:World} {base gB g n cap i j:Nat} {s:List UInt8} {b:PB} {xs:List xX} {x x':xX} {y y':wP} {u:Value} {row:Option Nat} (h:jU w base gB s b xs (.slice (some ⟨g,0,none⟩) n cap))
 (hx:xs[i]? = some x) (hy:b.aS[i]? = some y) (hj:j < 3) (hg:w.grownBy w1 row) (hrow:row=none∨row=x.fv.ownBlock)
 (hn:x'.next=y'.next) (hS:Ny w1 base x'.pv y'.set) (hO:Own w1 base 3 1 encI x'.fv y'.free) (hf:x'.fv.ownBlock=x.fv.ownBlock∨∃m,x'.fv.ownBlock=some m∧w.heap.size≤m) (arx:Jj x'=(Jj x).set j u) :
 jU (w1.setCell ⟨g,i * 3+j,none⟩ u) base gB s {b with aS:=b.aS.set i y'} (xs.set i x') (.slice (some ⟨g,0,none⟩) n cap):=by
 have Uo:i < xs.length:=(List.getElem?_eq_some_iff.1 hx).1;obtain⟨ax,bx,cx⟩:=h.st i x y hx hy;have hnl:=h.own.len V9;have hr:∀(e:TypeId),e≠3→∀m,row=some m→∃te cs,e≠te∧aG w m te cs:=fun e he m hm=>by
  rcases hrow with h0 | h0
  ·rw[h0] at hm;cases hm
  ·rw[h0] at hm;obtain⟨_,cs,hB⟩:=cx.Nw m hm;exact⟨_,cs,he,hB⟩
 obtain⟨_,asb,hcv⟩:=h.own.Nw g rfl;have ajZ:∀m te cs,aG w m te cs→te≠3→some m≠row:=fun m te cs hB ht e=>by
  obtain⟨te',cs',hne,JH⟩:=hr te ht m e.symm;unfold aG at hB JH;rw[hB] at JH;simp only[Option.some.injEq,Obj.cells.injEq] at JH;exact hne JH.2.1
 have hb1:aG w1 gB 358 #[.string ⟨s.toArray⟩,.int .i64 (b.at_:Int),.int .i64 (b.err:Int),.slice (some ⟨g,0,none⟩) n cap]:=(hg.block gB h.blk.lt (ajZ _ _ _ h.blk δ)).trans h.blk;have ab4:aG w1 g 377 asb:=(hg.block g hcv.lt (ajZ _ _ _ hcv δ)).trans hcv;have aK:=aj w1 ⟨g,i * 3+j,none⟩ u;have ZT:gB≠g:=fun e=>by
  subst e;have:=h.blk;unfold aG at this hcv;rw[this] at hcv;simp only[Option.some.injEq,Obj.cells.injEq] at hcv;exact absurd hcv.2.1 δ
 have wV:=h.own.ao3 hg (hr _ δ);refine⟨hb1.far (by simpa using ZT) u,h.le,wV.aiN V9 ω ω hj (fun z hz=>by rw[hx] at hz;injection hz with hz;subst hz;exact arx),by simp[h.len],?_,?_⟩
 ·intro k a c h1 h2;by_cases kX:i = k
  ·subst kX;rw[List.getElem?_set_self Uo] at h1;rw[List.getElem?_set_self (by rw[←h.len];exact Uo)] at h2;injection h1 with h1;injection h2 with h2
   subst h1 h2;exact⟨hn,hS.off ab4 δ aK,rE hO ab4 δ aK⟩
  ·rw[List.getElem?_set_ne kX] at h1 h2;obtain⟨a1,a2,a3⟩:=h.st k a c h1 h2;refine⟨a1,(a2.kept hg (hr _ δ)).off ab4 δ aK,rE (a3.kept' hg (fun m hm hv=> ?_)) ab4 δ aK⟩;rcases hrow with h0 | h0
   ·rw[h0] at hm;cases hm
   ·rw[h0] at hm;exact h.apart i k x a m hx h1 kX hm hv
 ·have far:∀(k:Nat) a m,xs[k]? = some a→k≠i→x'.fv.ownBlock=some m→a.fv.ownBlock≠some m:=fun k a m h1 kX hm hv=>by
   rcases hf with h0 | ⟨m',h0,hle⟩
   ·rw[h0] at hm;exact h.apart i k x a m hx h1 (Ne.symm kX) hm hv
   ·rw[h0] at hm;injection hm with hm
    subst hm;obtain⟨c,hc⟩:∃c,b.aS[k]? = some c:=⟨_,List.getElem?_eq_getElem (by rw[←h.len];exact (List.getElem?_eq_some_iff.1 h1).1)⟩;have:=OJ (h.st k a c h1 hc).2.2 hv;omega
  intro k l a c m h1 h2 JA ZQ SB;by_cases kX:i = k
  ·subst kX;rw[List.getElem?_set_self Uo] at h1;injection h1 with h1;subst h1
   rw[List.getElem?_set_ne JA] at h2;exact far l c m h2 (Ne.symm JA) ZQ SB
  ·rw[List.getElem?_set_ne kX] at h1;by_cases hli:i = l
   ·subst hli;rw[List.getElem?_set_self Uo] at h2;injection h2 with h2;subst h2
    exact far k a m h1 (Ne.symm kX) SB ZQ
   ·rw[List.getElem?_set_ne hli] at h2;exact h.apart k l a c m h1 h2 JA ZQ SB
def TB:List TypeId:=[358,377,3]
theorem vJ {w:World} {base gB:Nat} {s:List UInt8} {b:PB} {xs:List xX} {sv:Value} (h:jU w base gB s b xs sv) (hb:base≤w.heap.size) (hn:b.aS.length<1000000000) :
 Calls Tryz.prog 264 #[.pointer (some ⟨gB,0,none⟩)] w fun r w'=>r =.returned (.int .i64 (b.aS.length:Int))∧∃sv',jU w' base gB s (aX b) (xs++[tV]) sv'∧aC TB base w w':=by
 have c3:w.cell? ⟨gB,3,none⟩=some sv:=(h.blk.cell 3).trans rfl;have f3:=h.blk.frozen 3;have hl:=h.blk.lt;have hO:=h.own;have hlen:=h.len;replace h:=ζ h;replace hO:=ζ hO;go_enter Tryz.func264,Tryz.ntmps264
 have hrow:∀m,sv.ownBlock=some m→some gB≠some m:=fun m hm e=>by injection e with e;subst e;exact aZ hO.o h.o.blk δ hm
 replace hrow:=ζ hrow;go_wp2_with (at_builtin;refine dB (x:=tV) aCx rfl (.tmp 7) (.tmp 9) rfl (hO.o.alloc _) rfl ⟨w.heap.size,0,none⟩ rfl rfl (iK (by exact heap_alloc_new w _)) auU (by simp;omega) (by unfold maxLen;omega) ω (fun v8 w8 ZX hgr hat=> ?_);obtain⟨A8,c8,rfl,-⟩:=ZX.arr V9;(have hP:=ζ (jU.push (h.o.grows ((ah.refl w).alloc _)) ZX hgr));(have hK8:=ζ (aC.row (T:=TB) (base:=base) hgr (by simp;omega) (fun m hm=>by obtain⟨a1,cs,a2⟩:=(hO.o.alloc _).Nw m hm;exact⟨a1,_,cs,δ,a2⟩)));(have iI:aG w8 gB _ _:=(hgr.block gB (by simp;omega) (fun e=>hrow.o gB e.symm rfl)).trans (h.o.blk.alloc _));(have c8:=iI.cell 3);(have f8:=iI.frozen 3);(have l8:=iI.lt);(replace iI:=ζ iI);(replace ZX:=ζ ZX);(replace hgr:=ζ hgr);clear hat);go_ret;have hP2:=hP.o;rw[show (xs++[tV]).length=b.aS.length+1 by simp[hlen]] at hP2;refine⟨by simp,_,hP2,?_⟩;exact ((aC.grows ((ah.refl w).alloc _) hb).trans hK8.o).trans (aC.setCell iI.o h.o.le δ _)
theorem ZC:fB Tryz.prog 71 3 1 8:=fB.mk' (z:=.int .i64 0) Tryz.underlying71 κ rfl ω
theorem akQ {b:PB} {i j:Nat} {y:wP} (hy:b.aS[i]? = some y):bD i j b = {b with aS:=b.aS.set i {y with free:=y.free++[j]}}:=by
 obtain⟨hl,rfl⟩:=List.getElem?_eq_some_iff.1 hy;unfold bD;congr 1
 apply List.ext_getElem?;intro k;rw[List.getElem?_modify,List.getElem?_set];by_cases hk:i = k
 ·subst hk;simp[hl]
 ·simp[hk]
theorem pV {w:World} {base gB i j:Nat} {s:List UInt8} {b:PB} {xs:List xX} {sv:Value} (h:jU w base gB s b xs sv) (hb:base≤w.heap.size) (hi:i < b.aS.length) (hn:d_ b < 1000000000) :
 Calls Tryz.prog 266 #[.pointer (some ⟨gB,0,none⟩),.int .i64 (i:Int),.int .i64 (j:Int)] w fun r w'=>r =.returned (.tuple #[])∧∃xs',jU w' base gB s (bD i j b) xs' sv∧aC TB base w w':=by
 obtain⟨y,hy⟩:∃y,b.aS[i]? = some y:=⟨_,List.getElem?_eq_getElem hi⟩;obtain⟨x,hx⟩:∃x,xs[i]? = some x:=⟨_,List.getElem?_eq_getElem (by rw[h.len];exact hi)⟩;have Uo:i < xs.length:=by rw[h.len];exact hi
 obtain⟨g,cap,Xj⟩:=yX h.own ω;generalize H7:xs.length=n at *
 subst Xj;obtain⟨x',zo,hcell,aAT⟩:=h.own.at_ V9 Uo;rw[hx] at zo;injection zo with zo
 subst zo;have c3:w.cell? ⟨gB,3,none⟩=some (.slice (some ⟨g,0,none⟩) n cap):=(h.blk.cell 3).trans rfl;have c2:w.cell? ⟨g,i * 3+2,none⟩=some x.fv:=hcell 2 _ rfl;have hl:=h.blk.lt;have Fh:=World.block_lt_of_cell? w _ c2;simp only at Fh;obtain⟨hs1,hs2,hs3⟩:=h.st i x y hx hy;have DV:y.free.length<1000000000:=by have:=agr hy;unfold d_ at hn;omega
 obtain⟨ase,KI⟩:=bV h.own (g:=g) rfl;have hr1:some gB≠x.fv.ownBlock:=fun e=>aZ hs3 h.blk δ e.symm
 have hr2:some g≠x.fv.ownBlock:=fun e=>aZ hs3 KI δ e.symm
 have hii:(i:Int)<(n:Int):=ω;generalize hrow:x.fv.ownBlock=row at *
 replace hrow:=ζ hrow;replace H7:=ζ H7;replace hs1:=ζ hs1;replace hs2:=ζ hs2;replace hs3:=ζ hs3;replace DV:=ζ DV;replace hx:=ζ hx;replace hy:=ζ hy;replace hn:=ζ hn;replace KI:=ζ KI;replace hb:=ζ hb;have hG:=ζ (ah.refl w);replace h:=ζ h;clear hcell aAT hi Uo;go_enter Tryz.func266,Tryz.ntmps266
 go_wp2;refine jF (row) κ ?_;refine rK (up:=jG) (.range 14) 5 ?_;iterate 14 refine iD ?_
 refine aB ?_;refine aI [14] κ σ (fun wN hN hS=>(au.cons rfl (fun K' hK=> ?_) au.nil));try replace h:=ζ (h.o.grows hN)
 try replace hs2:=ζ (hs2.o.grows hN)
 try replace hs3:=ζ (hs3.o.grows hN)
 try replace KI:=ζ ((hN.below.block _ (oG KI.o)).trans KI.o)
 try replace hG:=ζ (hG.o.trans hN)
 try replace ji:=ζ (ji.o.grows hN)
 try replace lJ:=ζ (lJ.o.grows hN)
 try replace jd:=ζ (dS jd.o hN)
 clear hN;go_simp;refine hK.o _ _ ?_ (fun hS=> ?_)
 ·exact dS (by assumption) ((ah.refl _).alloc _)
 have ji:=ζ (aG.new wN 3 #[.int .i64 (j:Int)]);have dP:ah wN (wN.alloc (.cells #[.int .i64 (j:Int)] 3)):=(ah.refl _).alloc _;replace h:=ζ (h.o.grows dP);replace hs2:=ζ (hs2.o.grows dP);replace hs3:=ζ (hs3.o.grows dP);replace KI:=ζ ((dP.below.block _ (oG KI.o)).trans KI.o);replace hG:=ζ (hG.o.trans dP);clear dP;clear hK hS;refine aI [15] κ σ (fun wN hN hS=>(au.cons rfl (fun K' hK=> ?_) au.nil));try replace h:=ζ (h.o.grows hN)
 try replace hs2:=ζ (hs2.o.grows hN)
 try replace hs3:=ζ (hs3.o.grows hN)
 try replace KI:=ζ ((hN.below.block _ (oG KI.o)).trans KI.o)
 try replace hG:=ζ (hG.o.trans hN)
 try replace ji:=ζ (ji.o.grows hN)
 try replace lJ:=ζ (lJ.o.grows hN)
 try replace jd:=ζ (dS jd.o hN)
 clear hN;have Es:=Nat.le_trans hb.o hG.o.size;refine Own.grown (x:=j) ZC rfl (.tmp 18) (.tmp 20) rfl hs3.o rfl ⟨_,0,none⟩ rfl rfl (iK ji.o) (fun u hu=>by simp[encI] at hu;subst hu;rfl) Es (by have:=DV.o;unfold maxLen;omega) (by have:=DV.o;omega) (fun v4 w4 lJ jd hv4=> ?_);have hrr:=hs3.o.Nw;rw[hrow.o] at hrr;rw[hrow.o] at jd;obtain⟨gb4,aCe,Si⟩:=yX lJ σ;obtain⟨L4,hL4⟩:∃L,L=(y.free++[j]).length:=⟨_,rfl⟩;rw[←hL4] at Si;subst Si;clear hL4;have hA:=h;have Sl:=hs2;have hcA:=KI;have nH:=hG;replace lJ:=ζ lJ;replace hv4:=ζ hv4;replace hrr:=ζ hrr;clear Es hs3 ji h hs2 KI hG;go_simp;refine hK.o _ _ ?_ (fun hS=> ?_)
 ·exact World.grownBy.trans (by assumption) jd
 replace jd:=ζ jd;clear hK hS;refine rK (up:=jG) [16,17] 1 ?_;iterate 2 refine iD ?_
 refine aB ?_;refine eG (i:=18) rfl κ κ (fun wN hN hS K' hK=> ?_);try replace h:=ζ (h.o.grows hN)
 try replace hs2:=ζ (hs2.o.grows hN)
 try replace hs3:=ζ (hs3.o.grows hN)
 try replace KI:=ζ ((hN.below.block _ (oG KI.o)).trans KI.o)
 try replace hG:=ζ (hG.o.trans hN)
 try replace ji:=ζ (ji.o.grows hN)
 try replace lJ:=ζ (lJ.o.grows hN)
 try replace jd:=ζ (dS jd.o hN)
 clear hS;have aaA:=(jd.o.block g (oG hcA.o) hr2).trans hcA.o;have hBN:aG wN g _ _:=aaA;have rfN:=hBN.frozen (i * 3+2);have rlN:=hBN.lt;have c2N:=(World.cell?_of_block (a:=⟨g,i * 3+2,none⟩) (jd.o.block g (oG hcA.o) hr2)).trans (nH.o.cell c2);go_simp;refine hK.o _ _ ?_;clear hK;go_wp2;go_end0;have akd:=(hA.o.own.Nw g rfl).1;have hU:=jU.upd (x':={x with fv:=.slice (some ⟨gb4,0,none⟩) L4 aCe}) (y':={y with free:=y.free++[j]}) (j:=2) hA.o hx.o hy.o ω jd.o (.inr hrow.o.symm) hs1.o (Sl.o.kept jd.o (fun m hm=>by obtain⟨_,cs,h⟩:=hrr.o m hm;exact⟨_,cs,δ,h⟩)) lJ.o (hv4.o.imp (fun h=>h) (fun h=>⟨_,h,Nat.le_refl _⟩)) rfl;rw[←akQ hy.o] at hU;refine⟨rfl,_,hU,?_⟩;exact ((aC.grows nH.o hb.o).trans (aC.row jd.o (Nat.le_trans hb.o nH.o.size) (fun m hm=>by obtain⟨h1,cs,h⟩:=hrr.o m hm;exact⟨h1,_,cs,δ,h⟩))).trans (aC.setCell hBN akd δ _)
def dJ (p:qx):Value:=.agg #[.int .i64 (p.1:Int),.int .i64 (p.2:Int)]
def ZH (base gB:Nat) (s:List UInt8) (w:World) (r:PB×qx) (e:Ending) (w':World):Prop:=
 e =.returned (dJ r.2)∧∃xs' sv',jU w' base gB s r.1 xs' sv'∧aC TB base w w'
theorem aC.dM {T:List TypeId} {base g i:Nat} {w w5:World} (h:aC T base w w5) (hg:w.heap.size≤g) (hb:base≤w.heap.size) (u:Value):aC T base w (w5.setCell ⟨g,i,none⟩ u):=
 ⟨h.below.setCell (by simp;omega) u,fun k cur te fz hk ht=>by
  have hlt:=oG hk;rw[Below.heap_setCell _ _ _ _ (by simp;omega)];exact h.kept k cur te fz hk ht⟩
theorem jU.far {w w':World} {base gB m:Nat} {s:List UInt8} {b:PB} {xs:List xX} {sv:Value} {te:TypeId} {cs:Array Value} (h:jU w base gB s b xs sv) (hm:aG w m te cs) (ht:te∉(385::TB)) (hg:w.grownBy w' (some m)):jU w' base gB s b xs sv:=by
 simp only[TB,List.mem_cons,List.not_mem_nil,or_false,not_or] at ht;obtain⟨t1,t2,t3,t4⟩:=ht;refine⟨(hg.block gB h.blk.lt (fun e=> ?_)).trans h.blk,h.le,rE h.own hm (Ne.symm t3) hg,h.len,?_,h.apart⟩
 ·injection e with e
  subst e;have h1:=h.blk;unfold aG at h1 hm;rw[hm] at h1;simp only[Option.some.injEq,Obj.cells.injEq] at h1;exact t2 h1.2.1
 ·intro i x y h1 h2;obtain⟨a1,a2,a3⟩:=h.st i x y h1 h2;exact⟨a1,a2.off hm (Ne.symm t1) hg,rE a3 hm (Ne.symm t4) hg⟩
theorem amW {ws:List Nat} {b:PB}:(kH ws b).1={(aX (aX b)) with aS:=((aX (aX b)).aS.set b.aS.length ⟨some ws,0,[]⟩).set b.aS.length ⟨some ws,b.aS.length+1,[]⟩}:=by
 unfold kH aX;simp only;congr 1
 apply List.ext_getElem?;intro k;rw[List.set_set,List.getElem?_modify,List.getElem?_set];by_cases hk:b.aS.length=k
 ·subst hk;simp[uG]
 ·simp[hk]
theorem zY {w:World} {base gB gs:Nat} {s:List UInt8} {b:PB} {ws:List Nat} {xs:List xX} {sv:Value} (h:jU w base gB s b xs sv) (hS:fD w gs ws) (nD:base≤gs) (hb:base≤w.heap.size) (hn:b.aS.length<100000000) :
 Calls Tryz.prog 279 #[.pointer (some ⟨gB,0,none⟩),.pointer (some ⟨gs,0,none⟩)] w (ZH base gB s w (kH ws b)):=by
 replace h:=ζ h;replace hS:=ζ hS;replace nD:=ζ nD;replace hb:=ζ hb;replace hn:=ζ hn;go_enter Tryz.func279,Tryz.ntmps279
 have I5:=aG.new w 360 #[.int .i64 0,.int .i64 0];have LH:=hS.o.grows ((ah.refl w).alloc (.cells #[.int .i64 0,.int .i64 0] 360));go_wp2_with fail;refine (vJ (h.o.grows ((ah.refl w).alloc _)) (by have:=hb.o;simp;omega) (by have:=hn.o;omega)).mono ?_;rintro e w1 ⟨rfl,sv1,h1,hk1⟩;replace I5:=hk1.blk I5 δ;replace LH:fD w1 gs ws:=⟨hk1.blk LH.1 δ,LH.2⟩;replace hk1:=ζ ((aC.grows ((ah.refl w).alloc _) hb.o).trans hk1);replace h1:=ζ h1;replace I5:=ζ I5;replace LH:=ζ LH;go_wp2_with fail;refine (vJ h1.o (Nat.le_trans hb.o hk1.o.size) (by have:=hn.o;simp[aX];omega)).mono ?_;rintro e w2 ⟨rfl,sv2,h2,hk2⟩;replace I5:=hk2.blk I5.o δ;replace LH:fD w2 gs ws:=⟨hk2.blk LH.o.1 δ,LH.o.2⟩;replace hk2:=hk1.o.trans hk2;clear h1 hk1;rw[eu];have hP:=aG.new w2 360 #[.int .i64 (b.aS.length:Int),.int .i64 ((b.aS.length:Int)+1)];have dP:ah w2 (w2.alloc (.cells #[.int .i64 (b.aS.length:Int),.int .i64 ((b.aS.length:Int)+1)] 360)):=(ah.refl _).alloc _;replace I5:=ζ (I5.grows dP);replace LH:=ζ (LH.grows dP);replace h2:=h2.grows dP;have hb2:=Nat.le_trans hb.o hk2.size;replace hk2:=ζ (hk2.trans (aC.grows dP hb2));clear dP;replace hP:=ζ hP;replace h2:=ζ h2;replace hb2:=ζ hb2;go_wp2_with fail;generalize w2.alloc (.cells #[.int .i64 (b.aS.length:Int),.int .i64 ((b.aS.length:Int)+1)] 360)=w3 at *
 generalize w2.heap.size=gp at *
 replace hb2:Hid (base≤w3.heap.size):=ζ (Nat.le_trans hb.o hk2.o.size);generalize hgr:w.heap.size=gr at *
 have hlx:xs.length=b.aS.length:=h.o.len;obtain⟨g,cap,Xj⟩:=yX h2.o.own σ;obtain⟨n,hnl⟩:∃n,n = (xs++[tV]++[tV]).length:=⟨_,rfl⟩;rw[←hnl] at Xj;subst Xj;have anp:n = b.aS.length+2:=by simp at hnl;omega
 have hx:(xs++[tV]++[tV])[b.aS.length]? = some tV:=by rw[←hlx];simp
 have hy:(aX (aX b)).aS[b.aS.length]? = some uG:=by simp[aX]
 generalize hxx:xs++[tV]++[tV]=xx at *
 have hii:(b.aS.length:Int)<(n:Int):=ω;generalize hN:b.aS.length=N at *
 obtain⟨ase,KI⟩:=bV h2.o.own (g:=g) rfl;have c3:w3.cell? ⟨gB,3,none⟩=some (.slice (some ⟨g,0,none⟩) n cap):=(h2.o.blk.cell 3).trans rfl;have cp0:=hP.o.c0;have cp1:=hP.o.c1;have hl3:=h2.o.blk.lt;have hlp:=hP.o.lt;have hlg:=oG KI;have hr1:some gB≠some g:=fun e=>aZ h2.o.own h2.o.blk δ e.symm
 have hr2:some gp≠some g:=fun e=>aZ h2.o.own hP.o δ e.symm
 replace KI:=ζ KI;replace hx:=ζ hx;replace hy:=ζ hy;replace hxx:=ζ hxx;replace hN:=ζ hN;replace hnl:=ζ hnl;replace anp:=ζ anp;replace hlx:=ζ hlx;replace hgr:=ζ hgr;refine jF ((some g)) κ ?_;refine rK (up:=jG) (.range 17) 4 ?_;iterate 17 refine iD ?_
 refine aB ?_;refine aI [17] κ σ (fun wN hN hS=>(au.cons rfl (fun K' hK=> ?_) au.nil));try replace h2:=ζ (h2.o.grows hN)
 try replace hU:=ζ (hU.o.grows hN)
 replace LH:=ζ (LH.o.grows hN);replace hP:=ζ (hP.o.grows hN);replace I5:=ζ (I5.o.grows hN);replace hk2:=ζ (hk2.o.trans (aC.grows hN hb2.o));replace hb2:=ζ (Nat.le_trans hb2.o hN.size);clear hN;obtain⟨x1,hx1,hc1,hf1⟩:=h2.o.own.at_ V9 (i:=N) (by have:=anp.o;omega);rw[hx.o] at hx1;injection hx1 with hx1
 subst hx1;have rcN:wN.cell? ⟨g,N*3,none⟩=some (.pointer none):=hc1 0 _ rfl;have rfN:wN.frozen? ⟨g,N*3,none⟩=false:=hf1 _;have rlN:=World.block_lt_of_cell? wN _ rcN;simp only at rlN;have hU:=ζ (jU.upd (x':=⟨.pointer (some ⟨gs,0,none⟩),0,.slice none 0 0⟩) (y':=⟨some ws,0,[]⟩) (u:=.pointer (some ⟨gs,0,none⟩)) (j:=0) h2.o hx.o hy.o ω (World.grownBy.refl wN none) (.inl rfl) rfl ⟨gs,rfl,nD.o,LH.o⟩ (Own.iO _ _ _ _ _) (.inl rfl) rfl);obtain⟨akd,cg,hBg⟩:=h2.o.own.Nw g rfl;have IQ:aC TB base wN (wN.setCell ⟨g,N*3,none⟩ (.pointer (some ⟨gs,0,none⟩))):=aC.setCell hBg akd δ _;replace LH:Hid (fD (wN.setCell ⟨g,N*3,none⟩ (.pointer (some ⟨gs,0,none⟩))) gs ws):=ζ ⟨IQ.blk LH.o.1 δ,LH.o.2⟩;replace hP:=ζ (IQ.blk hP.o δ);replace I5:=ζ (IQ.blk I5.o δ);replace hb2:=ζ (Nat.le_trans hb2.o IQ.size);replace hk2:=ζ (hk2.o.trans IQ);clear h2 IQ hc1 hf1 hBg;go_simp;refine hK.o _ _ ?_ (fun hS=> ?_)
 ·exact World.grownBy.trans (by assumption) (aj wN ⟨g,N*3,none⟩ _)
 clear rcN rfN rlN;clear hK hS;refine rK (up:=jG) [18,19] 1 ?_;iterate 2 refine iD ?_
 refine aB ?_;refine eG (i:=20) rfl κ κ (fun wN hN hS K' hK=> ?_);try replace h2:=ζ (h2.o.grows hN)
 try replace hU:=ζ (hU.o.grows hN)
 replace LH:=ζ (LH.o.grows hN);replace hP:=ζ (hP.o.grows hN);replace I5:=ζ (I5.o.grows hN);replace hk2:=ζ (hk2.o.trans (aC.grows hN hb2.o));replace hb2:=ζ (Nat.le_trans hb2.o hN.size);clear hS;have hx2:(xx.set N ⟨.pointer (some ⟨gs,0,none⟩),0,.slice none 0 0⟩)[N]? = some (⟨.pointer (some ⟨gs,0,none⟩),0,.slice none 0 0⟩:xX):=List.getElem?_set_self (List.getElem?_eq_some_iff.1 hx.o).1;have hy2:((aX (aX b)).aS.set N ⟨some ws,0,[]⟩)[N]? = some (⟨some ws,0,[]⟩:wP):=List.getElem?_set_self (List.getElem?_eq_some_iff.1 hy.o).1;obtain⟨x1,hx1,hc1,hf1⟩:=hU.o.own.at_ V9 (i:=N) (by have:=anp.o;omega);rw[hx2] at hx1;injection hx1 with hx1
 subst hx1;have rcN:wN.cell? ⟨g,N*3+1,none⟩=some (.int .i64 0):=hc1 1 _ rfl;have rfN:wN.frozen? ⟨g,N*3+1,none⟩=false:=hf1 _;have rlN:=World.block_lt_of_cell? wN _ rcN;simp only at rlN;have hV:=ζ (jU.upd (x':=⟨.pointer (some ⟨gs,0,none⟩),N+1,.slice none 0 0⟩) (y':=⟨some ws,N+1,[]⟩) (u:=.int .i64 ((N:Int)+1)) (j:=1) hU.o hx2 hy2 ω (World.grownBy.refl wN none) (.inl rfl) rfl ⟨gs,rfl,nD.o,LH.o⟩ (Own.iO _ _ _ _ _) (.inl rfl) (by simp[Jj]));obtain⟨akd,cg,hBg⟩:=hU.o.own.Nw g rfl;have IQ:aC TB base wN (wN.setCell ⟨g,N*3+1,none⟩ (.int .i64 ((N:Int)+1))):=aC.setCell hBg akd δ _;replace hP:=ζ (IQ.blk hP.o δ);replace I5:=ζ (IQ.blk I5.o δ);replace hk2:=ζ (hk2.o.trans IQ);clear hU LH IQ hc1 hf1 hBg hx2 hy2 hb2;go_simp;refine hK.o _ _ ?_;clear hK;clear rcN rfN rlN c3 cp0 cp1 hl3 hlp hlg hr1 hr2 hN;generalize wN.setCell ⟨g,N*3+1,none⟩ (.int .i64 ((N:Int)+1))=w5 at *
 have dp0:=hP.o.c0;have dp1:=hP.o.c1;have dr0:=I5.o.c0;have dr1:=I5.o.c1;have fr0:=I5.o.frozen 0;have fr1:=I5.o.frozen 1;have lp:=hP.o.lt;have lr:=I5.o.lt;have aDy:=ζ (hgr.o ▸ hb.o:base≤gr);go_wp2;have kC:=I5.o.bH 0 (.int .i64 (N:Int));have oQ:=kC.bH 1 (.int .i64 ((N:Int)+1));have rY:=(hk2.o.dM (g:=gr) (i:=0) (by rw[hgr.o];exact Nat.le_refl _) (by rw[hgr.o];exact hb.o) (.int .i64 (N:Int))).dM (g:=gr) (i:=1) (by rw[hgr.o];exact Nat.le_refl _) (by rw[hgr.o];exact hb.o) (.int .i64 ((N:Int)+1));have yL:=(hV.o.far I5.o δ (aj w5 ⟨gr,0,none⟩ (.int .i64 (N:Int)))).far kC δ (aj _ ⟨gr,1,none⟩ (.int .i64 ((N:Int)+1)));clear dr0 dr1 fr0 fr1 dp0 dp1 lp lr I5 hP hV hk2 kC;generalize (w5.setCell ⟨gr,0,none⟩ (.int .i64 (N:Int))).setCell ⟨gr,1,none⟩ (.int .i64 ((N:Int)+1))=w7 at *
 have e0:=oQ.c0;have e1:=oQ.c1;refine bodyPost_ret (v:=dJ (kH ws b).2) ?_ rfl ⟨rfl,?_⟩
 ·simp[dJ,kH,hN.o,results,Tryz.results279,go_sem,e0,e1]
 ·have e2:=amW (ws:=ws) (b:=b);rw[hN.o] at e2;rw[←e2] at yL;exact⟨_,_,yL,rY⟩
end Go.Proofs.YtbhikkgpcmkonaaGreatDoor
