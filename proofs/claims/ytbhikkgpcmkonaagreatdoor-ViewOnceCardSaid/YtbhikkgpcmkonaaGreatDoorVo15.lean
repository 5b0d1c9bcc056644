/- Parts: Shelf3 PatK PatL PatLa PatLb PatLc PatLd PatLe PatLf -/
import Derived.Test.YtbhikkgpcmkonaaGreatDoorVo0
import Derived.Shelf.Small.Strs
import Derived.Test.YtbhikkgpcmkonaaGreatDoorProg
import Derived.Test.YtbhikkgpcmkonaaGreatDoorVo14
set_option maxRecDepth 100000
set_option maxHeartbeats 12800000
namespace Go.Proofs
open Go.Shelf
def Tryz.Yl:Go.Shelf.Ren:=⟨fun | 137=>211 | 217=>237 | 266=>259 | n=>n,fun | 9=>9 | 5=>5 | 3=>3 | n=>n,fun | n=>n⟩
theorem Tryz.VP:Go.Proofs.Lays.n137 Tryz.prog Tryz.Yl:={
 mixed:=by kernel_rfl
 f137:=Tryz.func211.trans (congrArg some κ)
 f217:=Tryz.func237.trans (congrArg some κ)
 f266:=Tryz.func259.trans (congrArg some κ)
 t3:=Tryz.underlying3
 a3:=Tryz.isAgg3
 z3:=Tryz.sizeOf3
 v3:=Tryz.zeroValue3
 t5:=Tryz.underlying5
 a5:=Tryz.isAgg5
 z5:=Tryz.sizeOf5
 v5:=Tryz.zeroValue5
 t9:=Tryz.underlying9
 a9:=Tryz.isAgg9
 z9:=Tryz.sizeOf9
 v9:=Tryz.zeroValue9}
end Go.Proofs
namespace Go.Proofs.YtbhikkgpcmkonaaGreatDoor
open Go.RowKit
theorem qX (b:PB):d_ (aX b)=d_ b + 1:=by simp[d_,aX,jQ,uG];omega
theorem qY (i j:Nat) (b:PB):d_ (bD i j b)≤d_ b + 1:=by have:=Jg b.aS i j;simp[bD,d_];omega
theorem KQ (b:PB):d_ (aO b)=d_ b:=rfl
theorem jE (b:PB):b.aS.length≤d_ b:=by unfold d_;omega
theorem J5 (c:UInt8):(X4 c = true↔0≤Lib.indexByte [42,43,63] c)∧(X4 c = true→c = 42∨c = 43∨c = 63):=by
 unfold X4;by_cases h1:c = 42
 ·subst h1;decide
 ·by_cases h2:c = 43
  ·subst h2;decide
  ·by_cases h3:c = 63
   ·subst h3;decide
   ·have e1:((42:UInt8)==c)=false:=by simpa using Ne.symm h1
    have e2:((43:UInt8)==c)=false:=by simpa using Ne.symm h2
    have e3:((63:UInt8)==c)=false:=by simpa using Ne.symm h3
    simp[Lib.indexByte,e1,e2,e3,h1,h2,h3]
theorem LD (W:World) (c:UInt8):Calls Tryz.prog 211 #[.string {data:= #[42,43,63]},.int .u8 (c.toNat:Int)] W fun e w'=>e =.returned (.int .i64 (Lib.indexByte [42,43,63] c))∧w'=W:=by
 have:=Any.strings_IndexByte Tryz.VP {data:= #[42,43,63]} (c.toNat:Int) W;rw[show (c.toNat:Int).toNat.toUInt8=c by simp] at this;exact this
def BLe (base:Nat) (w:World):Prop:=base≤w.heap.size
def GLe (w:World) (g:Nat):Prop:=w.heap.size≤g
theorem aew {w:World} {base gB:Nat} {s:List UInt8} {b:PB} {x:qx} {xs:List xX} {sv:Value} (h:jU w base gB s b xs sv) (hb:base≤w.heap.size) (hx:Jr x b) (hat:b.at_<1000000) (hc:d_ b < 100000000) :
 Calls Tryz.prog 273 #[.pointer (some ⟨gB,0,none⟩),dJ x] w (ZH base gB s w (fH s b x)):=by
 obtain⟨x1,x2⟩:=x;have hX:=aG.new w 360 #[.int .i64 (x1:Int),.int .i64 (x2:Int)];have hg1:ah w (w.alloc (.cells #[.int .i64 (x1:Int),.int .i64 (x2:Int)] 360)):=(ah.refl _).alloc _;have hR:aG ((w.alloc (.cells #[.int .i64 (x1:Int),.int .i64 (x2:Int)] 360)).alloc (.cells #[.int .i64 0,.int .i64 0] 360)) (w.heap.size+1) 360 #[.int .i64 0,.int .i64 0]:=by
  have:=aG.new (w.alloc (.cells #[.int .i64 (x1:Int),.int .i64 (x2:Int)] 360)) 360 #[.int .i64 0,.int .i64 0];simpa using this
 have hg2:=hg1.alloc (.cells #[.int .i64 0,.int .i64 0] 360);replace hX:=ζ (hX.alloc (.cells #[.int .i64 0,.int .i64 0] 360));replace hR:=ζ hR;have hG:=ζ (aC.grows (T:=TB) hg2 hb);replace h:=ζ (h.grows hg2);have hb0:Hid (BLe base w):=ζ hb;replace hb:=ζ (Nat.le_trans hb hg2.size);have hgr:Hid (GLe w (w.heap.size+1)):=ζ (Nat.le_succ _);clear hg1 hg2;cases hp:BK s b with
 | none=>
  have htp:fH s b (x1,x2)=(b,(x1,x2)):=by unfold fH;rw[hp]
  have oW:wR s b =.tuple #[.int .u8 0,.bool false]:=by simp only[wR,hp]
  rw[htp];clear hp htp;unfold dJ;go_enter Tryz.func273,Tryz.ntmps273
  go_wp2_with fail;refine (eP h.o).mono ?_;rintro e w1 ⟨rfl,dn⟩;replace h:=ζ (h.o.grows dn);replace hG:=ζ (hG.o.trans (aC.grows dn hb.o));replace hb:=ζ (Nat.le_trans hb.o dn.size);(try replace aK:=ζ (aK.o.grows dn))
  (try replace hX:=ζ (hX.o.grows dn))
  (try replace hP:=ζ (hP.o.grows dn))
  (try replace hR:=ζ (hR.o.grows dn))
  clear dn;rw[oW];clear oW;generalize w.heap.size=gX at *
  generalize gX+1=gR at *
  (try clear QE);(try clear QD);(try clear Qu);(try clear QC);(try clear QB)
  have QE:w1.cell? ⟨gX,0,none⟩=_:=hX.o.cell 0;have QD:w1.cell? ⟨gX,1,none⟩=_:=hX.o.cell 1;have QC:=hX.o.frozen 0;have QB:=hX.o.frozen 1;have Qu:=hX.o.lt;(try clear qh);(try clear qg);(try clear pK);(try clear pY);(try clear pX)
  have qh:w1.cell? ⟨gR,0,none⟩=_:=hR.o.cell 0;have qg:w1.cell? ⟨gR,1,none⟩=_:=hR.o.cell 1;have pY:=hR.o.frozen 0;have pX:=hR.o.frozen 1;have pK:=hR.o.lt;go_wp2;clear QE QD QC QB Qu;clear qh qg pY pX pK;have kC:=hR.o.bH 0 (.int .i64 (x1:Int));have oQ:=kC.bH 1 (.int .i64 (x2:Int));have rY:=(hG.o.dM (g:=gR) (i:=0) hgr.o hb0.o (.int .i64 (x1:Int))).dM (g:=gR) (i:=1) hgr.o hb0.o (.int .i64 (x2:Int));have yL:=(h.o.far hR.o δ (aj w1 ⟨gR,0,none⟩ (.int .i64 (x1:Int)))).far kC δ (aj _ ⟨gR,1,none⟩ (.int .i64 (x2:Int)));clear hR hG h kC;generalize (w1.setCell ⟨gR,0,none⟩ (.int .i64 (x1:Int))).setCell ⟨gR,1,none⟩ (.int .i64 (x2:Int))=w7 at *
  have e0:=oQ.c0;have e1:=oQ.c1;refine bodyPost_ret (v:=dJ (x1,x2)) ?_ rfl ⟨?_,?_⟩
  ·simp[dJ,results,Tryz.results273,go_sem,e0,e1]
  ·rfl
  ·exact⟨_,_,yL,rY⟩
 | some c=>
  have oW:wR s b =.tuple #[.int .u8 (c.toNat:Int),.bool true]:=by simp only[wR,hp]
  by_cases Kw:X4 c = true
  ·have aps:d_ (aO b)<100000000:=hc;have SH:=(J5 c).1.1 Kw;have cI:=ζ (fun W=>LD W c);generalize Lib.indexByte [42,43,63] c = ki at *
   have avs:¬ki<0:=ω;have htp:fH s b (x1,x2)=((if c = 63 then (if c = 43 then bD x2 (b.aS.length+1) (bD b.aS.length x1 (aX (aX (aO b)))) else bD b.aS.length (b.aS.length+1) (bD x2 (b.aS.length+1) (bD b.aS.length x1 (aX (aX (aO b)))))) else bD x2 x1 (if c = 43 then bD x2 (b.aS.length+1) (bD b.aS.length x1 (aX (aX (aO b)))) else bD b.aS.length (b.aS.length+1) (bD x2 (b.aS.length+1) (bD b.aS.length x1 (aX (aX (aO b))))))),(b.aS.length,b.aS.length+1)):=by
    unfold fH;rw[hp];simp only[Kw,if_true]
   have tC:Hid (∀t∈[358],t∈TB):=ζ (by intro t ht;simp[TB] at *;exact .inl ht);replace htp:=ζ htp;replace SH:=ζ SH;have hx1:=hx.1;have hx2:=hx.2;unfold dJ;go_enter Tryz.func273,Tryz.ntmps273
   go_wp2_with fail;refine (eP h.o).mono ?_;rintro e w1 ⟨rfl,dn⟩;replace h:=ζ (h.o.grows dn);replace hG:=ζ (hG.o.trans (aC.grows dn hb.o));replace hb:=ζ (Nat.le_trans hb.o dn.size);(try replace aK:=ζ (aK.o.grows dn))
   (try replace hX:=ζ (hX.o.grows dn))
   (try replace hP:=ζ (hP.o.grows dn))
   (try replace hR:=ζ (hR.o.grows dn))
   clear dn;rw[oW];clear oW;go_wp2_with fail;refine (cI.out _).mono ?_;rintro e wI ⟨rfl,hwI⟩;replace hwI:=hwI.symm;subst hwI;generalize w.heap.size=gX at *
   generalize gX+1=gR at *
   have c1:w1.cell? ⟨gB,1,none⟩=some (.int .i64 ((b).at_:Int)):=(h.o.blk.cell 1).trans rfl;have f1:=h.o.blk.frozen 1;have l1:=h.o.blk.lt;have i1: -9223372036854775808≤((b).at_:Int)+1∧((b).at_:Int)+1≤9223372036854775807:=by first | omega | (simp only[aO];omega)
   have hA:=ζ h.o.N9;have nH:=ζ (hG.o.trans ((aC.own h.o (aj w1 ⟨gB,1,none⟩ (.int .i64 (((b).at_:Int)+1)))).mono tC.o));have hsz:Hid ((w1.setCell ⟨gB,1,none⟩ (.int .i64 (((b).at_:Int)+1))).heap.size=w1.heap.size):=ζ σ;go_wp2_with fail;(try replace aK:=ζ (aK.o.tk (aC.own h.o (aj w1 ⟨gB,1,none⟩ (.int .i64 (((b).at_:Int)+1)))) δ))
   (try replace hX:=ζ ((aC.own h.o (aj w1 ⟨gB,1,none⟩ (.int .i64 (((b).at_:Int)+1)))).blk hX.o δ))
   (try replace hP:=ζ ((aC.own h.o (aj w1 ⟨gB,1,none⟩ (.int .i64 (((b).at_:Int)+1)))).blk hP.o δ))
   (try replace hR:=ζ ((aC.own h.o (aj w1 ⟨gB,1,none⟩ (.int .i64 (((b).at_:Int)+1)))).blk hR.o δ))
   clear c1 f1 l1 i1 h hG;generalize w1.setCell ⟨gB,1,none⟩ (.int .i64 (((b).at_:Int)+1))=w2 at *
   have h:=hA;have hG:=nH;clear hA nH;replace hb:=ζ (Nat.le_trans hb0.o hG.o.size);refine (vJ h.o hb.o (by have:=jE (aO b);omega)).mono ?_;rintro e w3 ⟨rfl,sv3,h',dX⟩;replace h:=ζ h';clear h';(try replace hX:=ζ (dX.blk hX.o δ))
   (try replace hP:=ζ (dX.blk hP.o δ))
   (try replace hR:=ζ (dX.blk hR.o δ))
   replace hG:=ζ (hG.o.trans dX);replace hb:=ζ (Nat.le_trans hb0.o hG.o.size);clear dX;go_wp2_with fail;refine (vJ h.o hb.o (by have:=jE (aX (aO b));have:=qX (aO b);omega)).mono ?_;rintro e w4 ⟨rfl,sv4,h',dX⟩;replace h:=ζ h';clear h';(try replace hX:=ζ (dX.blk hX.o δ))
   (try replace hP:=ζ (dX.blk hP.o δ))
   (try replace hR:=ζ (dX.blk hR.o δ))
   replace hG:=ζ (hG.o.trans dX);replace hb:=ζ (Nat.le_trans hb0.o hG.o.size);clear dX;rw[eu,show (aO b).aS.length=b.aS.length from rfl];have hn:(aX (aX (aO b))).aS.length=b.aS.length+2:=by simp[aX,aO]
   have hcn:d_ (aX (aX (aO b)))≤d_ b + 2:=by rw[qX,qX,KQ];omega
   generalize b.aS.length=N at *
   generalize YW:aX (aX (aO b))=b0 at *
   replace YW:=ζ YW;(try clear QE);(try clear QD);(try clear Qu);(try clear QC);(try clear QB)
   have QE:w4.cell? ⟨gX,0,none⟩=_:=hX.o.cell 0;have QD:w4.cell? ⟨gX,1,none⟩=_:=hX.o.cell 1;have QC:=hX.o.frozen 0;have QB:=hX.o.frozen 1;have Qu:=hX.o.lt;go_wp2_with fail;clear QE QD QC QB Qu;have hP:=aG.new w4 360 #[.int .i64 (N:Int),.int .i64 ((N:Int)+1)];have dP:ah w4 (w4.alloc (.cells #[.int .i64 (N:Int),.int .i64 ((N:Int)+1)] 360)):=(ah.refl _).alloc _;(try replace hX:=ζ (hX.o.grows dP))
   (try replace hR:=ζ (hR.o.grows dP))
   replace h:=ζ (h.o.grows dP);replace hG:=ζ (hG.o.trans (aC.grows dP hb.o));replace hb:=ζ (Nat.le_trans hb.o dP.size);clear dP;generalize w4.alloc (.cells #[.int .i64 (N:Int),.int .i64 ((N:Int)+1)] 360)=w5 at *
   generalize w4.heap.size=gP at *
   replace hP:=ζ hP;refine (pV h.o hb.o ω ω).mono ?_;rintro e w6 ⟨rfl,xs',h',dX⟩;replace h:=ζ h';clear h';(try replace hX:=ζ (dX.blk hX.o δ))
   (try replace hP:=ζ (dX.blk hP.o δ))
   (try replace hR:=ζ (dX.blk hR.o δ))
   replace hG:=ζ (hG.o.trans dX);replace hb:=ζ (Nat.le_trans hb0.o hG.o.size);clear dX;have hc6:=qY N x1 b0;(try clear QE);(try clear QD);(try clear Qu);(try clear QC);(try clear QB)
   have QE:w6.cell? ⟨gX,0,none⟩=_:=hX.o.cell 0;have QD:w6.cell? ⟨gX,1,none⟩=_:=hX.o.cell 1;have QC:=hX.o.frozen 0;have QB:=hX.o.frozen 1;have Qu:=hX.o.lt;(try clear rO);(try clear rM);(try clear rG);(try clear sG);(try clear sF)
   have rO:w6.cell? ⟨gP,0,none⟩=_:=hP.o.cell 0;have rM:w6.cell? ⟨gP,1,none⟩=_:=hP.o.cell 1;have sG:=hP.o.frozen 0;have sF:=hP.o.frozen 1;have rG:=hP.o.lt;go_wp2_with fail;refine (pV (i:=x2) (j:=N+1) h.o hb.o (by rw[dU];omega) ω).mono ?_;rintro e w7 ⟨rfl,xs7,h',dX⟩;clear QE QD QC QB Qu;clear rO rM sG sF rG;replace h:=ζ h';clear h';(try replace hX:=ζ (dX.blk hX.o δ))
   (try replace hP:=ζ (dX.blk hP.o δ))
   (try replace hR:=ζ (dX.blk hR.o δ))
   replace hG:=ζ (hG.o.trans dX);replace hb:=ζ (Nat.le_trans hb0.o hG.o.size);clear dX;have hc7:=qY x2 (N+1) (bD N x1 b0);have hn7:(bD x2 (N+1) (bD N x1 b0)).aS.length=N+2:=by rw[dU,dU,hn]
   generalize t_:bD x2 (N+1) (bD N x1 b0)=b7 at *
   replace t_:=ζ t_;rcases (J5 c).2 Kw with rfl | rfl | rfl
   ·have IK:fH s b (x1,x2)=(bD x2 x1 (bD N (N+1) b7),(N,N+1)):=htp.o;replace IK:=ζ IK;clear htp;(try clear rO);(try clear rM);(try clear rG);(try clear sG);(try clear sF)
    have rO:w7.cell? ⟨gP,0,none⟩=_:=hP.o.cell 0;have rM:w7.cell? ⟨gP,1,none⟩=_:=hP.o.cell 1;have sG:=hP.o.frozen 0;have sF:=hP.o.frozen 1;have rG:=hP.o.lt;go_wp2_with fail;refine (pV (i:=N) (j:=N+1) h.o hb.o ω ω).mono ?_;rintro e w8 ⟨rfl,xs8,h',dX⟩;clear rO rM sG sF rG;replace h:=ζ h';clear h';(try replace hX:=ζ (dX.blk hX.o δ))
    (try replace hP:=ζ (dX.blk hP.o δ))
    (try replace hR:=ζ (dX.blk hR.o δ))
    replace hG:=ζ (hG.o.trans dX);replace hb:=ζ (Nat.le_trans hb0.o hG.o.size);clear dX;have hc8:=qY N (N+1) b7;(try clear QE);(try clear QD);(try clear Qu);(try clear QC);(try clear QB)
    have QE:w8.cell? ⟨gX,0,none⟩=_:=hX.o.cell 0;have QD:w8.cell? ⟨gX,1,none⟩=_:=hX.o.cell 1;have QC:=hX.o.frozen 0;have QB:=hX.o.frozen 1;have Qu:=hX.o.lt;go_wp2_with fail;refine (pV (i:=x2) (j:=x1) h.o hb.o (by rw[dU];omega) ω).mono ?_;rintro e w9 ⟨rfl,xs9,h',dX⟩;clear QE QD QC QB Qu;replace h:=ζ h';clear h';(try replace hX:=ζ (dX.blk hX.o δ))
    (try replace hP:=ζ (dX.blk hP.o δ))
    (try replace hR:=ζ (dX.blk hR.o δ))
    replace hG:=ζ (hG.o.trans dX);replace hb:=ζ (Nat.le_trans hb0.o hG.o.size);clear dX;(try clear rO);(try clear rM);(try clear rG);(try clear sG);(try clear sF)
    have rO:w9.cell? ⟨gP,0,none⟩=_:=hP.o.cell 0;have rM:w9.cell? ⟨gP,1,none⟩=_:=hP.o.cell 1;have sG:=hP.o.frozen 0;have sF:=hP.o.frozen 1;have rG:=hP.o.lt;(try clear qh);(try clear qg);(try clear pK);(try clear pY);(try clear pX)
    have qh:w9.cell? ⟨gR,0,none⟩=_:=hR.o.cell 0;have qg:w9.cell? ⟨gR,1,none⟩=_:=hR.o.cell 1;have pY:=hR.o.frozen 0;have pX:=hR.o.frozen 1;have pK:=hR.o.lt;go_wp2;clear rO rM sG sF rG;clear qh qg pY pX pK;clear hP hX;have kC:=hR.o.bH 0 (.int .i64 (N:Int));have oQ:=kC.bH 1 (.int .i64 ((N:Int)+1));have rY:=(hG.o.dM (g:=gR) (i:=0) hgr.o hb0.o (.int .i64 (N:Int))).dM (g:=gR) (i:=1) hgr.o hb0.o (.int .i64 ((N:Int)+1));have yL:=(h.o.far hR.o δ (aj w9 ⟨gR,0,none⟩ (.int .i64 (N:Int)))).far kC δ (aj _ ⟨gR,1,none⟩ (.int .i64 ((N:Int)+1)));clear hR hG h kC;generalize (w9.setCell ⟨gR,0,none⟩ (.int .i64 (N:Int))).setCell ⟨gR,1,none⟩ (.int .i64 ((N:Int)+1))=w7 at *
    have e0:=oQ.c0;have e1:=oQ.c1;refine bodyPost_ret (v:=dJ (N,N+1)) ?_ rfl ⟨?_,?_⟩
    ·simp[dJ,results,Tryz.results273,go_sem,e0,e1]
    ·rw[IK.o]
    ·rw[IK.o];exact⟨_,_,yL,rY⟩
   ·have IK:fH s b (x1,x2)=(bD x2 x1 b7,(N,N+1)):=htp.o;replace IK:=ζ IK;clear htp;(try clear QE);(try clear QD);(try clear Qu);(try clear QC);(try clear QB)
    have QE:w7.cell? ⟨gX,0,none⟩=_:=hX.o.cell 0;have QD:w7.cell? ⟨gX,1,none⟩=_:=hX.o.cell 1;have QC:=hX.o.frozen 0;have QB:=hX.o.frozen 1;have Qu:=hX.o.lt;go_wp2_with fail;refine (pV (i:=x2) (j:=x1) h.o hb.o ω ω).mono ?_;rintro e w9 ⟨rfl,xs9,h',dX⟩;clear QE QD QC QB Qu;replace h:=ζ h';clear h';(try replace hX:=ζ (dX.blk hX.o δ))
    (try replace hP:=ζ (dX.blk hP.o δ))
    (try replace hR:=ζ (dX.blk hR.o δ))
    replace hG:=ζ (hG.o.trans dX);replace hb:=ζ (Nat.le_trans hb0.o hG.o.size);clear dX;(try clear rO);(try clear rM);(try clear rG);(try clear sG);(try clear sF)
    have rO:w9.cell? ⟨gP,0,none⟩=_:=hP.o.cell 0;have rM:w9.cell? ⟨gP,1,none⟩=_:=hP.o.cell 1;have sG:=hP.o.frozen 0;have sF:=hP.o.frozen 1;have rG:=hP.o.lt;(try clear qh);(try clear qg);(try clear pK);(try clear pY);(try clear pX)
    have qh:w9.cell? ⟨gR,0,none⟩=_:=hR.o.cell 0;have qg:w9.cell? ⟨gR,1,none⟩=_:=hR.o.cell 1;have pY:=hR.o.frozen 0;have pX:=hR.o.frozen 1;have pK:=hR.o.lt;go_wp2;clear rO rM sG sF rG;clear qh qg pY pX pK;clear hP hX;have kC:=hR.o.bH 0 (.int .i64 (N:Int));have oQ:=kC.bH 1 (.int .i64 ((N:Int)+1));have rY:=(hG.o.dM (g:=gR) (i:=0) hgr.o hb0.o (.int .i64 (N:Int))).dM (g:=gR) (i:=1) hgr.o hb0.o (.int .i64 ((N:Int)+1));have yL:=(h.o.far hR.o δ (aj w9 ⟨gR,0,none⟩ (.int .i64 (N:Int)))).far kC δ (aj _ ⟨gR,1,none⟩ (.int .i64 ((N:Int)+1)));clear hR hG h kC;generalize (w9.setCell ⟨gR,0,none⟩ (.int .i64 (N:Int))).setCell ⟨gR,1,none⟩ (.int .i64 ((N:Int)+1))=w7 at *
    have e0:=oQ.c0;have e1:=oQ.c1;refine bodyPost_ret (v:=dJ (N,N+1)) ?_ rfl ⟨?_,?_⟩
    ·simp[dJ,results,Tryz.results273,go_sem,e0,e1]
    ·rw[IK.o]
    ·rw[IK.o];exact⟨_,_,yL,rY⟩
   ·have IK:fH s b (x1,x2)=(bD N (N+1) b7,(N,N+1)):=htp.o;replace IK:=ζ IK;clear htp;(try clear rO);(try clear rM);(try clear rG);(try clear sG);(try clear sF)
    have rO:w7.cell? ⟨gP,0,none⟩=_:=hP.o.cell 0;have rM:w7.cell? ⟨gP,1,none⟩=_:=hP.o.cell 1;have sG:=hP.o.frozen 0;have sF:=hP.o.frozen 1;have rG:=hP.o.lt;go_wp2_with fail;refine (pV (i:=N) (j:=N+1) h.o hb.o ω ω).mono ?_;rintro e w9 ⟨rfl,xs8,h',dX⟩;clear rO rM sG sF rG;replace h:=ζ h';clear h';(try replace hX:=ζ (dX.blk hX.o δ))
    (try replace hP:=ζ (dX.blk hP.o δ))
    (try replace hR:=ζ (dX.blk hR.o δ))
    replace hG:=ζ (hG.o.trans dX);replace hb:=ζ (Nat.le_trans hb0.o hG.o.size);clear dX;(try clear rO);(try clear rM);(try clear rG);(try clear sG);(try clear sF)
    have rO:w9.cell? ⟨gP,0,none⟩=_:=hP.o.cell 0;have rM:w9.cell? ⟨gP,1,none⟩=_:=hP.o.cell 1;have sG:=hP.o.frozen 0;have sF:=hP.o.frozen 1;have rG:=hP.o.lt;(try clear qh);(try clear qg);(try clear pK);(try clear pY);(try clear pX)
    have qh:w9.cell? ⟨gR,0,none⟩=_:=hR.o.cell 0;have qg:w9.cell? ⟨gR,1,none⟩=_:=hR.o.cell 1;have pY:=hR.o.frozen 0;have pX:=hR.o.frozen 1;have pK:=hR.o.lt;go_wp2;clear rO rM sG sF rG;clear qh qg pY pX pK;clear hP hX;have kC:=hR.o.bH 0 (.int .i64 (N:Int));have oQ:=kC.bH 1 (.int .i64 ((N:Int)+1));have rY:=(hG.o.dM (g:=gR) (i:=0) hgr.o hb0.o (.int .i64 (N:Int))).dM (g:=gR) (i:=1) hgr.o hb0.o (.int .i64 ((N:Int)+1));have yL:=(h.o.far hR.o δ (aj w9 ⟨gR,0,none⟩ (.int .i64 (N:Int)))).far kC δ (aj _ ⟨gR,1,none⟩ (.int .i64 ((N:Int)+1)));clear hR hG h kC;generalize (w9.setCell ⟨gR,0,none⟩ (.int .i64 (N:Int))).setCell ⟨gR,1,none⟩ (.int .i64 ((N:Int)+1))=w7 at *
    have e0:=oQ.c0;have e1:=oQ.c1;refine bodyPost_ret (v:=dJ (N,N+1)) ?_ rfl ⟨?_,?_⟩
    ·simp[dJ,results,Tryz.results273,go_sem,e0,e1]
    ·rw[IK.o]
    ·rw[IK.o];exact⟨_,_,yL,rY⟩
  ·have SH:¬0≤Lib.indexByte [42,43,63] c:=fun hh=>Kw ((J5 c).1.2 hh)
   have cI:=ζ (fun W=>LD W c);have htp:fH s b (x1,x2)=(b,(x1,x2)):=by unfold fH;rw[hp];simp only[Kw];rfl
   generalize Lib.indexByte [42,43,63] c = ki at *
   have avs:ki<0:=ω;rw[htp];clear hp htp SH Kw;unfold dJ;go_enter Tryz.func273,Tryz.ntmps273
   go_wp2_with fail;refine (eP h.o).mono ?_;rintro e w1 ⟨rfl,dn⟩;replace h:=ζ (h.o.grows dn);replace hG:=ζ (hG.o.trans (aC.grows dn hb.o));replace hb:=ζ (Nat.le_trans hb.o dn.size);(try replace aK:=ζ (aK.o.grows dn))
   (try replace hX:=ζ (hX.o.grows dn))
   (try replace hP:=ζ (hP.o.grows dn))
   (try replace hR:=ζ (hR.o.grows dn))
   clear dn;rw[oW];clear oW;go_wp2_with fail;refine (cI.out _).mono ?_;rintro e wI ⟨rfl,hwI⟩;replace hwI:=hwI.symm;subst hwI;generalize w.heap.size=gX at *
   generalize gX+1=gR at *
   (try clear QE);(try clear QD);(try clear Qu);(try clear QC);(try clear QB)
   have QE:w1.cell? ⟨gX,0,none⟩=_:=hX.o.cell 0;have QD:w1.cell? ⟨gX,1,none⟩=_:=hX.o.cell 1;have QC:=hX.o.frozen 0;have QB:=hX.o.frozen 1;have Qu:=hX.o.lt;(try clear qh);(try clear qg);(try clear pK);(try clear pY);(try clear pX)
   have qh:w1.cell? ⟨gR,0,none⟩=_:=hR.o.cell 0;have qg:w1.cell? ⟨gR,1,none⟩=_:=hR.o.cell 1;have pY:=hR.o.frozen 0;have pX:=hR.o.frozen 1;have pK:=hR.o.lt;go_wp2;clear QE QD QC QB Qu;clear qh qg pY pX pK;have kC:=hR.o.bH 0 (.int .i64 (x1:Int));have oQ:=kC.bH 1 (.int .i64 (x2:Int));have rY:=(hG.o.dM (g:=gR) (i:=0) hgr.o hb0.o (.int .i64 (x1:Int))).dM (g:=gR) (i:=1) hgr.o hb0.o (.int .i64 (x2:Int));have yL:=(h.o.far hR.o δ (aj w1 ⟨gR,0,none⟩ (.int .i64 (x1:Int)))).far kC δ (aj _ ⟨gR,1,none⟩ (.int .i64 (x2:Int)));clear hR hG h kC;generalize (w1.setCell ⟨gR,0,none⟩ (.int .i64 (x1:Int))).setCell ⟨gR,1,none⟩ (.int .i64 (x2:Int))=w7 at *
   have e0:=oQ.c0;have e1:=oQ.c1;refine bodyPost_ret (v:=dJ (x1,x2)) ?_ rfl ⟨?_,?_⟩
   ·simp[dJ,results,Tryz.results273,go_sem,e0,e1]
   ·rfl
   ·exact⟨_,_,yL,rY⟩
end Go.Proofs.YtbhikkgpcmkonaaGreatDoor
namespace Go.Proofs.YtbhikkgpcmkonaaGreatDoor
open Go.RowKit
def TS:List TypeId:=385::TB
def jo (base gB:Nat) (s:List UInt8) (w:World) (r:PB×qx) (e:Ending) (w':World):Prop:=
 e =.returned (dJ r.2)∧∃xs' sv',jU w' base gB s r.1 xs' sv'∧aC TS base w w'
def ZF (s:List UInt8) (sub:Option (PB→PB×qx)) (dp:Nat):Prop:=
 (sub=none→dp=8)∧∀f,sub=some f→dp<8∧∀(w:World) (base gB:Nat) (b:PB) (xs:List xX) (sv:Value),jU w base gB s b xs sv→base≤w.heap.size→b.at_≤s.length→d_ b≤8*b.at_+53→
  Calls Tryz.prog 249 #[.pointer (some ⟨gB,0,none⟩),.int .i64 ((dp:Int)+1)] w (jo base gB s w (f b))
theorem LG:∀(l:List UInt8) (c:UInt8),-1≤Lib.indexByte l c∧(0≤Lib.indexByte l c↔c∈l)
 | [],c=>by simp[Lib.indexByte]
 | b ::l,c=>by
  have ih:=LG l c;unfold Lib.indexByte;by_cases h:b = c
  ·subst h;simp
  ·have hb:(b ==c)=false:=by simpa using h
   rw[hb];simp only[Bool.false_eq_true,if_false,List.mem_cons,Ne.symm h,false_or];by_cases h1:Lib.indexByte l c =-1
   ·rw[if_pos (by simp[h1])];rw[h1] at ih;exact⟨ω,ih.2⟩
   ·rw[if_neg (by simpa using h1)];refine⟨ω,?_⟩;rw[←ih.2];omega
theorem X9 (c:UInt8):afo c = true↔0≤Lib.indexByte [42,43,63,124,40,41,91,93,92,46] c:=by
 rw[(LG _ c).2,afo,decide_eq_true_eq]
theorem O8 (W:World) (c:UInt8):Calls Tryz.prog 211 #[.string {data:= #[42,43,63,124,40,41,91,93,92,46]},.int .u8 (c.toNat:Int)] W fun e w'=>e =.returned (.int .i64 (Lib.indexByte [42,43,63,124,40,41,91,93,92,46] c))∧w'=W:=by
 have:=Any.strings_IndexByte Tryz.VP {data:= #[42,43,63,124,40,41,91,93,92,46]} (c.toNat:Int) W;rw[show (c.toNat:Int).toNat.toUInt8=c by simp] at this;exact this
theorem jU.fresh {w:World} {base gB:Nat} {s:List UInt8} {b:PB} {xs:List xX} {sv:Value} (h:jU w base gB s b xs sv):∀x∈xs,x.pv≠.pointer (some ⟨w.heap.size,0,none⟩):=by
 intro x hx e;obtain⟨i,hi,rfl⟩:=List.mem_iff_getElem.1 hx;have hi2:i < b.aS.length:=by rw[←h.len];exact hi
 obtain⟨_,a2,_⟩:=h.st i xs[i] _ (List.getElem?_eq_getElem hi) (List.getElem?_eq_getElem hi2);generalize b.aS[i].set=o at *
 cases o with
 | none=>rw[a2] at e;cases e
 | some ws=>
  obtain⟨g,e1,e2,e3⟩:=a2;rw[e1] at e;injection e with e
  injection e with e
  injection e with e
  have:=e3.1.lt;omega
theorem ag8 {w:World} {base gB dp:Nat} {s:List UInt8} {b:PB} {c:UInt8} {sub:Option (PB→PB×qx)} {xs:List xX} {sv:Value} (Ar:ZF s sub dp) (hsp:G_ s 11 sub) (h:jU w base gB s b xs sv) (hb:base≤w.heap.size) (uq:s.length≤100) (hcs:s[b.at_]? = some c) (hc:d_ b≤8*b.at_+61) (zK:c = 40) (Yy:sub=none) :
 Calls Tryz.prog 274 #[.pointer (some ⟨gB,0,none⟩),.int .i64 (dp:Int)] w (jo base gB s w (cZ s sub c b)):=by
 have i40:(c.toNat:Int)=40:=by rw[zK];rfl
 obtain rfl:=Ar.1 Yy;subst Yy;have Um:c.toNat<256:=c.toNat_lt;have qF:=ζ (jE b);have DW:Hid ((aO b).at_≤s.length):=ζ (by have:=(List.getElem?_eq_some_iff.1 hcs).1;simp only[aO];omega);have hat:Hid (cZ s none c b = kH fC (bU 3 (aO b))):=ζ (by unfold cZ;rw[if_pos zK]);clear zK hsp Ar;have hlt:b.at_<s.length:=(List.getElem?_eq_some_iff.1 hcs).1;have tC:Hid (∀t∈[358],t∈TS):=ζ (by intro t ht;simp[TS,TB] at *;exact .inr (.inl ht));have nU:Hid (∀t∈TB,t∈TS):=ζ (fun t ht=>List.mem_cons_of_mem _ ht);have hTK:Hid (∀t∈TC,t∈TS):=ζ (by intro t ht;simp[TS,TB,TC] at *;rcases ht with h | h;exact .inr (.inl h);exact .inl h);have hR:=aG.new w 360 #[.int .i64 0,.int .i64 0];have hg1:ah w (w.alloc (.cells #[.int .i64 0,.int .i64 0] 360)):=(ah.refl _).alloc _;replace hR:=ζ hR;have hG:=ζ (aC.grows (T:=TS) hg1 hb);replace h:=ζ (h.grows hg1);have hb0:Hid (BLe base w):=ζ hb;replace hb:=ζ (Nat.le_trans hb hg1.size);have hgr:Hid (GLe w w.heap.size):=ζ (Nat.le_refl _);have hci:((b.at_:Nat):Int)<(s.length:Int):=ω;have BN:∀h:b.at_<(⟨s.toArray⟩:ByteArray).size,(⟨s.toArray⟩:ByteArray)[b.at_]'h = c:=fun h=>by
  show s.toArray[b.at_]=c
  rw[List.getElem_toArray];exact (List.getElem?_eq_some_iff.1 hcs).2
 have c0:∀w',jU w' base gB s b xs sv→w'.cell? ⟨gB,0,none⟩=some (.string ⟨s.toArray⟩):=fun w' hh=>(hh.blk.cell 0).trans rfl
 have c1:∀w',jU w' base gB s b xs sv→w'.cell? ⟨gB,1,none⟩=some (.int .i64 (b.at_:Int)):=fun w' hh=>(hh.blk.cell 1).trans rfl
 replace c0:=c0 _ h.o;replace c1:=c1 _ h.o;have l1:=h.o.blk.lt;clear hg1;go_enter Tryz.func274,Tryz.ntmps274
 go_wp2_with fail;generalize w.alloc (.cells #[.int .i64 0,.int .i64 0] 360)=w0 at *
 generalize w.heap.size=gR at *
 refine aF κ ?_;refine rK (.range 10) 0 ?_;iterate 10 refine ay ?_
 refine aB ?_;refine aH κ (fun wN hN hS=> ?_);clear c0 c1 l1;replace hR:=ζ (hR.o.grows hN);replace h:=ζ (h.o.grows hN);replace hG:=ζ (hG.o.trans (aC.grows hN hb.o));replace hb:=ζ (Nat.le_trans hb.o hN.size);clear hN hS;have c1:wN.cell? ⟨gB,1,none⟩=some (.int .i64 ((b).at_:Int)):=(h.o.blk.cell 1).trans rfl;have f1:=h.o.blk.frozen 1;have l1:=h.o.blk.lt;have i1: -9223372036854775808≤((b).at_:Int)+1∧((b).at_:Int)+1≤9223372036854775807:=by first | omega | (simp only[aO];omega)
 have hA:=ζ h.o.N9;have nH:=ζ (hG.o.trans ((aC.own h.o (aj wN ⟨gB,1,none⟩ (.int .i64 (((b).at_:Int)+1)))).mono tC.o));have hsz:Hid ((wN.setCell ⟨gB,1,none⟩ (.int .i64 (((b).at_:Int)+1))).heap.size=wN.heap.size):=ζ σ;go_wp2_with fail;(try replace aK:=ζ (aK.o.tk (aC.own h.o (aj wN ⟨gB,1,none⟩ (.int .i64 (((b).at_:Int)+1)))) δ))
 (try replace hX:=ζ ((aC.own h.o (aj wN ⟨gB,1,none⟩ (.int .i64 (((b).at_:Int)+1)))).blk hX.o δ))
 (try replace hP:=ζ ((aC.own h.o (aj wN ⟨gB,1,none⟩ (.int .i64 (((b).at_:Int)+1)))).blk hP.o δ))
 (try replace hR:=ζ ((aC.own h.o (aj wN ⟨gB,1,none⟩ (.int .i64 (((b).at_:Int)+1)))).blk hR.o δ))
 clear c1 f1 l1 i1 h hG;generalize wN.setCell ⟨gB,1,none⟩ (.int .i64 (((b).at_:Int)+1))=w2 at *
 have h:=hA;have hG:=nH;clear hA nH;replace hb:=ζ (Nat.le_trans hb0.o hG.o.size);have aK:Hid (fD (w2.alloc (.cells #[.int .u64 0,.int .u64 0,.int .u64 0,.int .u64 0] 385)) w2.heap.size fC):=ζ ⟨aG.new w2 _ _,rfl,by intro x hx;simp[fC] at hx;omega⟩;have dP:ah w2 (w2.alloc (.cells #[.int .u64 0,.int .u64 0,.int .u64 0,.int .u64 0] 385)):=(ah.refl _).alloc _;have wO:=ζ h.o.fresh;have tY:=hb;replace hR:=ζ (hR.o.grows dP);replace h:=ζ (h.o.grows dP);replace hG:=ζ (hG.o.trans (aC.grows dP hb.o));replace hb:Hid (base≤(w2.alloc (.cells #[.int .u64 0,.int .u64 0,.int .u64 0,.int .u64 0] 385)).heap.size):=ζ (Nat.le_trans hb.o dP.size);clear dP;generalize w2.alloc (.cells #[.int .u64 0,.int .u64 0,.int .u64 0,.int .u64 0] 385)=w3 at *
 rw[hsz.o] at aK wO tY;clear hsz;generalize wN.heap.size=gS at *
 refine (kD h.o).mono ?_;rintro e w4 ⟨rfl,YU,dR⟩;(try replace aK:=ζ (aK.o.tk (aC.own h.o dR) δ))
 (try replace hX:=ζ ((aC.own h.o dR).blk hX.o δ))
 (try replace hP:=ζ ((aC.own h.o dR).blk hP.o δ))
 (try replace hR:=ζ ((aC.own h.o dR).blk hR.o δ))
 replace hG:=ζ (hG.o.trans ((aC.own h.o dR).mono tC.o));replace h:=ζ YU;replace hb:=ζ (Nat.le_trans hb0.o hG.o.size);clear YU dR;go_wp2_with fail;refine (zY h.o aK.o tY.o hb.o (by rw[gu];have:=qF.o;simp only[aO];omega)).mono ?_;rintro e wE ⟨rfl,xsE,svE,h',dX⟩;replace h:=ζ h';(try replace hX:=ζ ((dX.mono nU.o).blk hX.o δ))
 (try replace hP:=ζ ((dX.mono nU.o).blk hP.o δ))
 (try replace hR:=ζ ((dX.mono nU.o).blk hR.o δ))
 replace hG:=ζ (hG.o.trans (dX.mono nU.o));replace hb:=ζ (Nat.le_trans hb0.o hG.o.size);clear h' dX aK;generalize hr:kH fC (bU 3 (aO b))=r at *
 obtain⟨rb,p1,p2⟩:=r;simp only[dJ];(try clear qh);(try clear qg);(try clear pK);(try clear pY);(try clear pX)
 have qh:wE.cell? ⟨gR,0,none⟩=_:=hR.o.cell 0;have qg:wE.cell? ⟨gR,1,none⟩=_:=hR.o.cell 1;have pY:=hR.o.frozen 0;have pX:=hR.o.frozen 1;have pK:=hR.o.lt;go_wp2;clear qh qg pY pX pK;have kC:=hR.o.bH 0 (.int .i64 (p1:Int));have oQ:=kC.bH 1 (.int .i64 (p2:Int));have rY:=(hG.o.dM (g:=gR) (i:=0) hgr.o hb0.o (.int .i64 (p1:Int))).dM (g:=gR) (i:=1) hgr.o hb0.o (.int .i64 (p2:Int));have yL:=(h.o.far hR.o δ (aj wE ⟨gR,0,none⟩ (.int .i64 (p1:Int)))).far kC δ (aj _ ⟨gR,1,none⟩ (.int .i64 (p2:Int)));clear hR hG h kC;generalize (wE.setCell ⟨gR,0,none⟩ (.int .i64 (p1:Int))).setCell ⟨gR,1,none⟩ (.int .i64 (p2:Int))=w7 at *
 have e0:=oQ.c0;have e1:=oQ.c1;refine bodyPost_ret (v:=dJ (p1,p2)) ?_ rfl ⟨?_,?_⟩
 ·simp[dJ,results,Tryz.results274,go_sem,e0,e1]
 ·rw[hat.o]
 ·rw[hat.o];exact⟨_,_,yL,rY⟩
end Go.Proofs.YtbhikkgpcmkonaaGreatDoor
namespace Go.Proofs.YtbhikkgpcmkonaaGreatDoor
open Go.RowKit
theorem acV {w:World} {base gB dp:Nat} {s:List UInt8} {b:PB} {c:UInt8} {sub:Option (PB→PB×qx)} {xs:List xX} {sv:Value} (h:jU w base gB s b xs sv) (hb:base≤w.heap.size) (uq:s.length≤100) (hcs:s[b.at_]? = some c) (hc:d_ b≤8*b.at_+61) (zK:¬c = 40) (H9:c = 91) :
 Calls Tryz.prog 274 #[.pointer (some ⟨gB,0,none⟩),.int .i64 (dp:Int)] w (jo base gB s w (cZ s sub c b)):=by
 have i40:¬(c.toNat:Int)=40:=fun e=>zK (UInt8.toNat_inj.1 (by show c.toNat=40;omega))
 have i91:(c.toNat:Int)=91:=by rw[H9];rfl
 have Um:c.toNat<256:=c.toNat_lt;have qF:=ζ (jE b);have DW:Hid ((aO b).at_≤s.length):=ζ (by have:=(List.getElem?_eq_some_iff.1 hcs).1;simp only[aO];omega);have hat:Hid (cZ s sub c b = kH (nJ s (aO b)).2 (nJ s (aO b)).1):=ζ (by unfold cZ;rw[if_neg zK,if_pos H9]);clear zK H9;have hlt:b.at_<s.length:=(List.getElem?_eq_some_iff.1 hcs).1;have tC:Hid (∀t∈[358],t∈TS):=ζ (by intro t ht;simp[TS,TB] at *;exact .inr (.inl ht));have nU:Hid (∀t∈TB,t∈TS):=ζ (fun t ht=>List.mem_cons_of_mem _ ht);have hTK:Hid (∀t∈TC,t∈TS):=ζ (by intro t ht;simp[TS,TB,TC] at *;rcases ht with h | h;exact .inr (.inl h);exact .inl h);have hR:=aG.new w 360 #[.int .i64 0,.int .i64 0];have hg1:ah w (w.alloc (.cells #[.int .i64 0,.int .i64 0] 360)):=(ah.refl _).alloc _;replace hR:=ζ hR;have hG:=ζ (aC.grows (T:=TS) hg1 hb);replace h:=ζ (h.grows hg1);have hb0:Hid (BLe base w):=ζ hb;replace hb:=ζ (Nat.le_trans hb hg1.size);have hgr:Hid (GLe w w.heap.size):=ζ (Nat.le_refl _);have hci:((b.at_:Nat):Int)<(s.length:Int):=ω;have BN:∀h:b.at_<(⟨s.toArray⟩:ByteArray).size,(⟨s.toArray⟩:ByteArray)[b.at_]'h = c:=fun h=>by
  show s.toArray[b.at_]=c
  rw[List.getElem_toArray];exact (List.getElem?_eq_some_iff.1 hcs).2
 have c0:∀w',jU w' base gB s b xs sv→w'.cell? ⟨gB,0,none⟩=some (.string ⟨s.toArray⟩):=fun w' hh=>(hh.blk.cell 0).trans rfl
 have c1:∀w',jU w' base gB s b xs sv→w'.cell? ⟨gB,1,none⟩=some (.int .i64 (b.at_:Int)):=fun w' hh=>(hh.blk.cell 1).trans rfl
 replace c0:=c0 _ h.o;replace c1:=c1 _ h.o;have l1:=h.o.blk.lt;clear hg1;go_enter Tryz.func274,Tryz.ntmps274
 go_wp2_with fail;generalize w.alloc (.cells #[.int .i64 0,.int .i64 0] 360)=w0 at *
 generalize w.heap.size=gR at *
 refine aF κ ?_;refine rK (.range 10) 0 ?_;iterate 10 refine ay ?_
 refine aB ?_;refine aH κ (fun wN hN hS=> ?_);clear c0 c1 l1;replace hR:=ζ (hR.o.grows hN);replace h:=ζ (h.o.grows hN);replace hG:=ζ (hG.o.trans (aC.grows hN hb.o));replace hb:=ζ (Nat.le_trans hb.o hN.size);clear hN hS;have c1:wN.cell? ⟨gB,1,none⟩=some (.int .i64 ((b).at_:Int)):=(h.o.blk.cell 1).trans rfl;have f1:=h.o.blk.frozen 1;have l1:=h.o.blk.lt;have i1: -9223372036854775808≤((b).at_:Int)+1∧((b).at_:Int)+1≤9223372036854775807:=by first | omega | (simp only[aO];omega)
 have hA:=ζ h.o.N9;have nH:=ζ (hG.o.trans ((aC.own h.o (aj wN ⟨gB,1,none⟩ (.int .i64 (((b).at_:Int)+1)))).mono tC.o));have hsz:Hid ((wN.setCell ⟨gB,1,none⟩ (.int .i64 (((b).at_:Int)+1))).heap.size=wN.heap.size):=ζ σ;go_wp2_with fail;(try replace aK:=ζ (aK.o.tk (aC.own h.o (aj wN ⟨gB,1,none⟩ (.int .i64 (((b).at_:Int)+1)))) δ))
 (try replace hX:=ζ ((aC.own h.o (aj wN ⟨gB,1,none⟩ (.int .i64 (((b).at_:Int)+1)))).blk hX.o δ))
 (try replace hP:=ζ ((aC.own h.o (aj wN ⟨gB,1,none⟩ (.int .i64 (((b).at_:Int)+1)))).blk hP.o δ))
 (try replace hR:=ζ ((aC.own h.o (aj wN ⟨gB,1,none⟩ (.int .i64 (((b).at_:Int)+1)))).blk hR.o δ))
 clear c1 f1 l1 i1 h hG;generalize wN.setCell ⟨gB,1,none⟩ (.int .i64 (((b).at_:Int)+1))=w2 at *
 have h:=hA;have hG:=nH;clear hA nH;replace hb:=ζ (Nat.le_trans hb0.o hG.o.size);have aK:Hid (fD (w2.alloc (.cells #[.int .u64 0,.int .u64 0,.int .u64 0,.int .u64 0] 385)) w2.heap.size fC):=ζ ⟨aG.new w2 _ _,rfl,by intro x hx;simp[fC] at hx;omega⟩;have dP:ah w2 (w2.alloc (.cells #[.int .u64 0,.int .u64 0,.int .u64 0,.int .u64 0] 385)):=(ah.refl _).alloc _;have wO:=ζ h.o.fresh;have tY:=hb;replace hR:=ζ (hR.o.grows dP);replace h:=ζ (h.o.grows dP);replace hG:=ζ (hG.o.trans (aC.grows dP hb.o));replace hb:Hid (base≤(w2.alloc (.cells #[.int .u64 0,.int .u64 0,.int .u64 0,.int .u64 0] 385)).heap.size):=ζ (Nat.le_trans hb.o dP.size);clear dP;generalize w2.alloc (.cells #[.int .u64 0,.int .u64 0,.int .u64 0,.int .u64 0] 385)=w3 at *
 rw[hsz.o] at aK wO tY;clear hsz;generalize wN.heap.size=gS at *
 refine (agV h.o aK.o tY.o wO.o hb.o uq DW.o).mono ?_;rintro e w4 ⟨rfl,h',hs',dX⟩;replace h:=ζ h';(try replace hX:=ζ ((dX.mono hTK.o).blk hX.o δ))
 (try replace hP:=ζ ((dX.mono hTK.o).blk hP.o δ))
 (try replace hR:=ζ ((dX.mono hTK.o).blk hR.o δ))
 replace hG:=ζ (hG.o.trans (dX.mono hTK.o));replace hb:=ζ (Nat.le_trans hb0.o hG.o.size);replace aK:=ζ hs';clear h' dX hs';have hcs:=(D5 (s:=s) (b:=aO b) (WP.of_le DW.o)).2.2;replace hcs:=ζ hcs;go_wp2_with fail;refine (zY h.o aK.o tY.o hb.o (by rw[hcs.o];have:=qF.o;simp only[aO];omega)).mono ?_;rintro e wE ⟨rfl,xsE,svE,h',dX⟩;replace h:=ζ h';(try replace hX:=ζ ((dX.mono nU.o).blk hX.o δ))
 (try replace hP:=ζ ((dX.mono nU.o).blk hP.o δ))
 (try replace hR:=ζ ((dX.mono nU.o).blk hR.o δ))
 replace hG:=ζ (hG.o.trans (dX.mono nU.o));replace hb:=ζ (Nat.le_trans hb0.o hG.o.size);clear h' dX aK;generalize hr:kH (nJ s (aO b)).2 (nJ s (aO b)).1=r at *
 obtain⟨rb,p1,p2⟩:=r;simp only[dJ];(try clear qh);(try clear qg);(try clear pK);(try clear pY);(try clear pX)
 have qh:wE.cell? ⟨gR,0,none⟩=_:=hR.o.cell 0;have qg:wE.cell? ⟨gR,1,none⟩=_:=hR.o.cell 1;have pY:=hR.o.frozen 0;have pX:=hR.o.frozen 1;have pK:=hR.o.lt;go_wp2;clear qh qg pY pX pK;have kC:=hR.o.bH 0 (.int .i64 (p1:Int));have oQ:=kC.bH 1 (.int .i64 (p2:Int));have rY:=(hG.o.dM (g:=gR) (i:=0) hgr.o hb0.o (.int .i64 (p1:Int))).dM (g:=gR) (i:=1) hgr.o hb0.o (.int .i64 (p2:Int));have yL:=(h.o.far hR.o δ (aj wE ⟨gR,0,none⟩ (.int .i64 (p1:Int)))).far kC δ (aj _ ⟨gR,1,none⟩ (.int .i64 (p2:Int)));clear hR hG h kC;generalize (wE.setCell ⟨gR,0,none⟩ (.int .i64 (p1:Int))).setCell ⟨gR,1,none⟩ (.int .i64 (p2:Int))=w7 at *
 have e0:=oQ.c0;have e1:=oQ.c1;refine bodyPost_ret (v:=dJ (p1,p2)) ?_ rfl ⟨?_,?_⟩
 ·simp[dJ,results,Tryz.results274,go_sem,e0,e1]
 ·rw[hat.o]
 ·rw[hat.o];exact⟨_,_,yL,rY⟩
end Go.Proofs.YtbhikkgpcmkonaaGreatDoor
namespace Go.Proofs.YtbhikkgpcmkonaaGreatDoor
open Go.RowKit
theorem alI {w:World} {base gB dp:Nat} {s:List UInt8} {b:PB} {c:UInt8} {sub:Option (PB→PB×qx)} {xs:List xX} {sv:Value} (h:jU w base gB s b xs sv) (hb:base≤w.heap.size) (uq:s.length≤100) (hcs:s[b.at_]? = some c) (hc:d_ b≤8*b.at_+61) (zK:¬c = 40) (H9:¬c = 91) (Np:c = 46) :
 Calls Tryz.prog 274 #[.pointer (some ⟨gB,0,none⟩),.int .i64 (dp:Int)] w (jo base gB s w (cZ s sub c b)):=by
 have i40:¬(c.toNat:Int)=40:=fun e=>zK (UInt8.toNat_inj.1 (by show c.toNat=40;omega))
 have i91:¬(c.toNat:Int)=91:=fun e=>H9 (UInt8.toNat_inj.1 (by show c.toNat=91;omega))
 have i46:(c.toNat:Int)=46:=by rw[Np];rfl
 have Um:c.toNat<256:=c.toNat_lt;have qF:=ζ (jE b);have DW:Hid ((aO b).at_≤s.length):=ζ (by have:=(List.getElem?_eq_some_iff.1 hcs).1;simp only[aO];omega);have hat:Hid (cZ s sub c b = kH (ou fC) (aO b)):=ζ (by unfold cZ;rw[if_neg zK,if_neg H9,if_pos Np]);clear zK H9 Np;have hlt:b.at_<s.length:=(List.getElem?_eq_some_iff.1 hcs).1;have tC:Hid (∀t∈[358],t∈TS):=ζ (by intro t ht;simp[TS,TB] at *;exact .inr (.inl ht));have nU:Hid (∀t∈TB,t∈TS):=ζ (fun t ht=>List.mem_cons_of_mem _ ht);have hTK:Hid (∀t∈TC,t∈TS):=ζ (by intro t ht;simp[TS,TB,TC] at *;rcases ht with h | h;exact .inr (.inl h);exact .inl h);have hR:=aG.new w 360 #[.int .i64 0,.int .i64 0];have hg1:ah w (w.alloc (.cells #[.int .i64 0,.int .i64 0] 360)):=(ah.refl _).alloc _;replace hR:=ζ hR;have hG:=ζ (aC.grows (T:=TS) hg1 hb);replace h:=ζ (h.grows hg1);have hb0:Hid (BLe base w):=ζ hb;replace hb:=ζ (Nat.le_trans hb hg1.size);have hgr:Hid (GLe w w.heap.size):=ζ (Nat.le_refl _);have hci:((b.at_:Nat):Int)<(s.length:Int):=ω;have BN:∀h:b.at_<(⟨s.toArray⟩:ByteArray).size,(⟨s.toArray⟩:ByteArray)[b.at_]'h = c:=fun h=>by
  show s.toArray[b.at_]=c
  rw[List.getElem_toArray];exact (List.getElem?_eq_some_iff.1 hcs).2
 have c0:∀w',jU w' base gB s b xs sv→w'.cell? ⟨gB,0,none⟩=some (.string ⟨s.toArray⟩):=fun w' hh=>(hh.blk.cell 0).trans rfl
 have c1:∀w',jU w' base gB s b xs sv→w'.cell? ⟨gB,1,none⟩=some (.int .i64 (b.at_:Int)):=fun w' hh=>(hh.blk.cell 1).trans rfl
 replace c0:=c0 _ h.o;replace c1:=c1 _ h.o;have l1:=h.o.blk.lt;clear hg1;go_enter Tryz.func274,Tryz.ntmps274
 go_wp2_with fail;generalize w.alloc (.cells #[.int .i64 0,.int .i64 0] 360)=w0 at *
 generalize w.heap.size=gR at *
 refine aF κ ?_;refine rK (.range 10) 0 ?_;iterate 10 refine ay ?_
 refine aB ?_;refine aH κ (fun wN hN hS=> ?_);clear c0 c1 l1;replace hR:=ζ (hR.o.grows hN);replace h:=ζ (h.o.grows hN);replace hG:=ζ (hG.o.trans (aC.grows hN hb.o));replace hb:=ζ (Nat.le_trans hb.o hN.size);clear hN hS;have c1:wN.cell? ⟨gB,1,none⟩=some (.int .i64 ((b).at_:Int)):=(h.o.blk.cell 1).trans rfl;have f1:=h.o.blk.frozen 1;have l1:=h.o.blk.lt;have i1: -9223372036854775808≤((b).at_:Int)+1∧((b).at_:Int)+1≤9223372036854775807:=by first | omega | (simp only[aO];omega)
 have hA:=ζ h.o.N9;have nH:=ζ (hG.o.trans ((aC.own h.o (aj wN ⟨gB,1,none⟩ (.int .i64 (((b).at_:Int)+1)))).mono tC.o));have hsz:Hid ((wN.setCell ⟨gB,1,none⟩ (.int .i64 (((b).at_:Int)+1))).heap.size=wN.heap.size):=ζ σ;go_wp2_with fail;(try replace aK:=ζ (aK.o.tk (aC.own h.o (aj wN ⟨gB,1,none⟩ (.int .i64 (((b).at_:Int)+1)))) δ))
 (try replace hX:=ζ ((aC.own h.o (aj wN ⟨gB,1,none⟩ (.int .i64 (((b).at_:Int)+1)))).blk hX.o δ))
 (try replace hP:=ζ ((aC.own h.o (aj wN ⟨gB,1,none⟩ (.int .i64 (((b).at_:Int)+1)))).blk hP.o δ))
 (try replace hR:=ζ ((aC.own h.o (aj wN ⟨gB,1,none⟩ (.int .i64 (((b).at_:Int)+1)))).blk hR.o δ))
 clear c1 f1 l1 i1 h hG;generalize wN.setCell ⟨gB,1,none⟩ (.int .i64 (((b).at_:Int)+1))=w2 at *
 have h:=hA;have hG:=nH;clear hA nH;replace hb:=ζ (Nat.le_trans hb0.o hG.o.size);have aK:Hid (fD (w2.alloc (.cells #[.int .u64 0,.int .u64 0,.int .u64 0,.int .u64 0] 385)) w2.heap.size fC):=ζ ⟨aG.new w2 _ _,rfl,by intro x hx;simp[fC] at hx;omega⟩;have dP:ah w2 (w2.alloc (.cells #[.int .u64 0,.int .u64 0,.int .u64 0,.int .u64 0] 385)):=(ah.refl _).alloc _;have wO:=ζ h.o.fresh;have tY:=hb;replace hR:=ζ (hR.o.grows dP);replace h:=ζ (h.o.grows dP);replace hG:=ζ (hG.o.trans (aC.grows dP hb.o));replace hb:Hid (base≤(w2.alloc (.cells #[.int .u64 0,.int .u64 0,.int .u64 0,.int .u64 0] 385)).heap.size):=ζ (Nat.le_trans hb.o dP.size);clear dP;generalize w2.alloc (.cells #[.int .u64 0,.int .u64 0,.int .u64 0,.int .u64 0] 385)=w3 at *
 rw[hsz.o] at aK wO tY;clear hsz;generalize wN.heap.size=gS at *
 refine (XG aK.o).mono ?_;rintro e w4 ⟨rfl,CY,iP⟩;replace h:=ζ (h.o.uV aK.o wO.o iP);replace hR:=ζ ((aC.set aK.o tY.o iP).blk hR.o δ);replace hG:=ζ (hG.o.trans ((aC.set aK.o tY.o iP).mono hTK.o));replace hb:=ζ (Nat.le_trans hb0.o hG.o.size);replace aK:=ζ CY;clear CY iP;go_wp2_with fail;refine (zY h.o aK.o tY.o hb.o (by have:=qF.o;simp only[aO];omega)).mono ?_;rintro e wE ⟨rfl,xsE,svE,h',dX⟩;replace h:=ζ h';(try replace hX:=ζ ((dX.mono nU.o).blk hX.o δ))
 (try replace hP:=ζ ((dX.mono nU.o).blk hP.o δ))
 (try replace hR:=ζ ((dX.mono nU.o).blk hR.o δ))
 replace hG:=ζ (hG.o.trans (dX.mono nU.o));replace hb:=ζ (Nat.le_trans hb0.o hG.o.size);clear h' dX aK;generalize hr:kH (ou fC) (aO b)=r at *
 obtain⟨rb,p1,p2⟩:=r;simp only[dJ];(try clear qh);(try clear qg);(try clear pK);(try clear pY);(try clear pX)
 have qh:wE.cell? ⟨gR,0,none⟩=_:=hR.o.cell 0;have qg:wE.cell? ⟨gR,1,none⟩=_:=hR.o.cell 1;have pY:=hR.o.frozen 0;have pX:=hR.o.frozen 1;have pK:=hR.o.lt;go_wp2;clear qh qg pY pX pK;have kC:=hR.o.bH 0 (.int .i64 (p1:Int));have oQ:=kC.bH 1 (.int .i64 (p2:Int));have rY:=(hG.o.dM (g:=gR) (i:=0) hgr.o hb0.o (.int .i64 (p1:Int))).dM (g:=gR) (i:=1) hgr.o hb0.o (.int .i64 (p2:Int));have yL:=(h.o.far hR.o δ (aj wE ⟨gR,0,none⟩ (.int .i64 (p1:Int)))).far kC δ (aj _ ⟨gR,1,none⟩ (.int .i64 (p2:Int)));clear hR hG h kC;generalize (wE.setCell ⟨gR,0,none⟩ (.int .i64 (p1:Int))).setCell ⟨gR,1,none⟩ (.int .i64 (p2:Int))=w7 at *
 have e0:=oQ.c0;have e1:=oQ.c1;refine bodyPost_ret (v:=dJ (p1,p2)) ?_ rfl ⟨?_,?_⟩
 ·simp[dJ,results,Tryz.results274,go_sem,e0,e1]
 ·rw[hat.o]
 ·rw[hat.o];exact⟨_,_,yL,rY⟩
end Go.Proofs.YtbhikkgpcmkonaaGreatDoor
namespace Go.Proofs.YtbhikkgpcmkonaaGreatDoor
open Go.RowKit
theorem Zw {w:World} {base gB dp:Nat} {s:List UInt8} {b:PB} {c:UInt8} {sub:Option (PB→PB×qx)} {xs:List xX} {sv:Value} (h:jU w base gB s b xs sv) (hb:base≤w.heap.size) (uq:s.length≤100) (hcs:s[b.at_]? = some c) (hc:d_ b≤8*b.at_+61) (zK:¬c = 40) (H9:¬c = 91) (Np:¬c = 46) (Uz:c = 92) (hp:BK s (aO b)=none) :
 Calls Tryz.prog 274 #[.pointer (some ⟨gB,0,none⟩),.int .i64 (dp:Int)] w (jo base gB s w (cZ s sub c b)):=by
 have i40:¬(c.toNat:Int)=40:=fun e=>zK (UInt8.toNat_inj.1 (by show c.toNat=40;omega))
 have i91:¬(c.toNat:Int)=91:=fun e=>H9 (UInt8.toNat_inj.1 (by show c.toNat=91;omega))
 have i46:¬(c.toNat:Int)=46:=fun e=>Np (UInt8.toNat_inj.1 (by show c.toNat=46;omega))
 have i92:(c.toNat:Int)=92:=by rw[Uz];rfl
 have Um:c.toNat<256:=c.toNat_lt;have qF:=ζ (jE b);have DW:Hid ((aO b).at_≤s.length):=ζ (by have:=(List.getElem?_eq_some_iff.1 hcs).1;simp only[aO];omega);have hat:Hid (cZ s sub c b = kH (mW fC 0 0) (aO (bU 2 (aO b)))):=ζ (by unfold cZ;rw[if_neg zK,if_neg H9,if_neg Np,if_pos Uz,hp]);have oW:wR s (aO b)=.tuple #[.int .u8 0,.bool false]:=by simp only[wR,hp]
 have Pm:(bU 2 (aO b)).at_<100000:=by rw[dV];have:=DW.o;omega
 clear zK H9 Np Uz hp;have hlt:b.at_<s.length:=(List.getElem?_eq_some_iff.1 hcs).1;have tC:Hid (∀t∈[358],t∈TS):=ζ (by intro t ht;simp[TS,TB] at *;exact .inr (.inl ht));have nU:Hid (∀t∈TB,t∈TS):=ζ (fun t ht=>List.mem_cons_of_mem _ ht);have hTK:Hid (∀t∈TC,t∈TS):=ζ (by intro t ht;simp[TS,TB,TC] at *;rcases ht with h | h;exact .inr (.inl h);exact .inl h);have hR:=aG.new w 360 #[.int .i64 0,.int .i64 0];have hg1:ah w (w.alloc (.cells #[.int .i64 0,.int .i64 0] 360)):=(ah.refl _).alloc _;replace hR:=ζ hR;have hG:=ζ (aC.grows (T:=TS) hg1 hb);replace h:=ζ (h.grows hg1);have hb0:Hid (BLe base w):=ζ hb;replace hb:=ζ (Nat.le_trans hb hg1.size);have hgr:Hid (GLe w w.heap.size):=ζ (Nat.le_refl _);have hci:((b.at_:Nat):Int)<(s.length:Int):=ω;have BN:∀h:b.at_<(⟨s.toArray⟩:ByteArray).size,(⟨s.toArray⟩:ByteArray)[b.at_]'h = c:=fun h=>by
  show s.toArray[b.at_]=c
  rw[List.getElem_toArray];exact (List.getElem?_eq_some_iff.1 hcs).2
 have c0:∀w',jU w' base gB s b xs sv→w'.cell? ⟨gB,0,none⟩=some (.string ⟨s.toArray⟩):=fun w' hh=>(hh.blk.cell 0).trans rfl
 have c1:∀w',jU w' base gB s b xs sv→w'.cell? ⟨gB,1,none⟩=some (.int .i64 (b.at_:Int)):=fun w' hh=>(hh.blk.cell 1).trans rfl
 replace c0:=c0 _ h.o;replace c1:=c1 _ h.o;have l1:=h.o.blk.lt;clear hg1;go_enter Tryz.func274,Tryz.ntmps274
 go_wp2_with fail;generalize w.alloc (.cells #[.int .i64 0,.int .i64 0] 360)=w0 at *
 generalize w.heap.size=gR at *
 refine aF κ ?_;refine rK (.range 10) 0 ?_;iterate 10 refine ay ?_
 refine aB ?_;refine aH κ (fun wN hN hS=> ?_);clear c0 c1 l1;replace hR:=ζ (hR.o.grows hN);replace h:=ζ (h.o.grows hN);replace hG:=ζ (hG.o.trans (aC.grows hN hb.o));replace hb:=ζ (Nat.le_trans hb.o hN.size);clear hN hS;have c1:wN.cell? ⟨gB,1,none⟩=some (.int .i64 ((b).at_:Int)):=(h.o.blk.cell 1).trans rfl;have f1:=h.o.blk.frozen 1;have l1:=h.o.blk.lt;have i1: -9223372036854775808≤((b).at_:Int)+1∧((b).at_:Int)+1≤9223372036854775807:=by first | omega | (simp only[aO];omega)
 have hA:=ζ h.o.N9;have nH:=ζ (hG.o.trans ((aC.own h.o (aj wN ⟨gB,1,none⟩ (.int .i64 (((b).at_:Int)+1)))).mono tC.o));have hsz:Hid ((wN.setCell ⟨gB,1,none⟩ (.int .i64 (((b).at_:Int)+1))).heap.size=wN.heap.size):=ζ σ;go_wp2_with fail;(try replace aK:=ζ (aK.o.tk (aC.own h.o (aj wN ⟨gB,1,none⟩ (.int .i64 (((b).at_:Int)+1)))) δ))
 (try replace hX:=ζ ((aC.own h.o (aj wN ⟨gB,1,none⟩ (.int .i64 (((b).at_:Int)+1)))).blk hX.o δ))
 (try replace hP:=ζ ((aC.own h.o (aj wN ⟨gB,1,none⟩ (.int .i64 (((b).at_:Int)+1)))).blk hP.o δ))
 (try replace hR:=ζ ((aC.own h.o (aj wN ⟨gB,1,none⟩ (.int .i64 (((b).at_:Int)+1)))).blk hR.o δ))
 clear c1 f1 l1 i1 h hG;generalize wN.setCell ⟨gB,1,none⟩ (.int .i64 (((b).at_:Int)+1))=w2 at *
 have h:=hA;have hG:=nH;clear hA nH;replace hb:=ζ (Nat.le_trans hb0.o hG.o.size);have aK:Hid (fD (w2.alloc (.cells #[.int .u64 0,.int .u64 0,.int .u64 0,.int .u64 0] 385)) w2.heap.size fC):=ζ ⟨aG.new w2 _ _,rfl,by intro x hx;simp[fC] at hx;omega⟩;have dP:ah w2 (w2.alloc (.cells #[.int .u64 0,.int .u64 0,.int .u64 0,.int .u64 0] 385)):=(ah.refl _).alloc _;have wO:=ζ h.o.fresh;have tY:=hb;replace hR:=ζ (hR.o.grows dP);replace h:=ζ (h.o.grows dP);replace hG:=ζ (hG.o.trans (aC.grows dP hb.o));replace hb:Hid (base≤(w2.alloc (.cells #[.int .u64 0,.int .u64 0,.int .u64 0,.int .u64 0] 385)).heap.size):=ζ (Nat.le_trans hb.o dP.size);clear dP;generalize w2.alloc (.cells #[.int .u64 0,.int .u64 0,.int .u64 0,.int .u64 0] 385)=w3 at *
 rw[hsz.o] at aK wO tY;clear hsz;generalize wN.heap.size=gS at *
 go_wp2_with fail;refine (eP h.o).mono ?_;rintro e w4 ⟨rfl,dR⟩;replace h:=ζ (h.o.grows dR);replace hG:=ζ (hG.o.trans (aC.grows dR hb.o));replace hb:=ζ (Nat.le_trans hb.o dR.size);(try replace aK:=ζ (aK.o.grows dR))
 (try replace hX:=ζ (hX.o.grows dR))
 (try replace hP:=ζ (hP.o.grows dR))
 (try replace hR:=ζ (hR.o.grows dR))
 clear dR;rw[oW];clear oW;go_wp2_with fail;refine (kD h.o).mono ?_;rintro e w5 ⟨rfl,akG,KC⟩;(try replace aK:=ζ (aK.o.tk (aC.own h.o KC) δ))
 (try replace hX:=ζ ((aC.own h.o KC).blk hX.o δ))
 (try replace hP:=ζ ((aC.own h.o KC).blk hP.o δ))
 (try replace hR:=ζ ((aC.own h.o KC).blk hR.o δ))
 replace hG:=ζ (hG.o.trans ((aC.own h.o KC).mono tC.o));replace h:=ζ akG;replace hb:=ζ (Nat.le_trans hb0.o hG.o.size);clear akG KC;have c1:w5.cell? ⟨gB,1,none⟩=some (.int .i64 (((bU 2 (aO b))).at_:Int)):=(h.o.blk.cell 1).trans rfl;have f1:=h.o.blk.frozen 1;have l1:=h.o.blk.lt;have i1: -9223372036854775808≤(((bU 2 (aO b))).at_:Int)+1∧(((bU 2 (aO b))).at_:Int)+1≤9223372036854775807:=by first | omega | (simp only[aO];omega)
 have hA:=ζ h.o.N9;have nH:=ζ (hG.o.trans ((aC.own h.o (aj w5 ⟨gB,1,none⟩ (.int .i64 ((((bU 2 (aO b))).at_:Int)+1)))).mono tC.o));have hsz:Hid ((w5.setCell ⟨gB,1,none⟩ (.int .i64 ((((bU 2 (aO b))).at_:Int)+1))).heap.size=w5.heap.size):=ζ σ;go_wp2_with fail;(try replace aK:=ζ (aK.o.tk (aC.own h.o (aj w5 ⟨gB,1,none⟩ (.int .i64 ((((bU 2 (aO b))).at_:Int)+1)))) δ))
 (try replace hX:=ζ ((aC.own h.o (aj w5 ⟨gB,1,none⟩ (.int .i64 ((((bU 2 (aO b))).at_:Int)+1)))).blk hX.o δ))
 (try replace hP:=ζ ((aC.own h.o (aj w5 ⟨gB,1,none⟩ (.int .i64 ((((bU 2 (aO b))).at_:Int)+1)))).blk hP.o δ))
 (try replace hR:=ζ ((aC.own h.o (aj w5 ⟨gB,1,none⟩ (.int .i64 ((((bU 2 (aO b))).at_:Int)+1)))).blk hR.o δ))
 clear c1 f1 l1 i1 h hG;generalize w5.setCell ⟨gB,1,none⟩ (.int .i64 ((((bU 2 (aO b))).at_:Int)+1))=w6 at *
 have h:=hA;have hG:=nH;clear hA nH;replace hb:=ζ (Nat.le_trans hb0.o hG.o.size);have hz:=kU (lo:=0) (hi:=0) aK.o ω ω;rw[show ((0:Nat):Int)=0 from rfl] at hz;refine hz.mono ?_;clear hz;rintro e w7 ⟨rfl,CY,iP⟩;replace h:=ζ (h.o.uV aK.o wO.o iP);replace hR:=ζ ((aC.set aK.o tY.o iP).blk hR.o δ);replace hG:=ζ (hG.o.trans ((aC.set aK.o tY.o iP).mono hTK.o));replace hb:=ζ (Nat.le_trans hb0.o hG.o.size);replace aK:=ζ CY;clear CY iP;go_wp2_with fail;refine (zY h.o aK.o tY.o hb.o (by have:=qF.o;simp only[aO];rw[gu];simp only;omega)).mono ?_;rintro e wE ⟨rfl,xsE,svE,h',dX⟩;replace h:=ζ h';(try replace hX:=ζ ((dX.mono nU.o).blk hX.o δ))
 (try replace hP:=ζ ((dX.mono nU.o).blk hP.o δ))
 (try replace hR:=ζ ((dX.mono nU.o).blk hR.o δ))
 replace hG:=ζ (hG.o.trans (dX.mono nU.o));replace hb:=ζ (Nat.le_trans hb0.o hG.o.size);clear h' dX aK;generalize hr:kH (mW fC 0 0) (aO (bU 2 (aO b)))=r at *
 obtain⟨rb,p1,p2⟩:=r;simp only[dJ];(try clear qh);(try clear qg);(try clear pK);(try clear pY);(try clear pX)
 have qh:wE.cell? ⟨gR,0,none⟩=_:=hR.o.cell 0;have qg:wE.cell? ⟨gR,1,none⟩=_:=hR.o.cell 1;have pY:=hR.o.frozen 0;have pX:=hR.o.frozen 1;have pK:=hR.o.lt;go_wp2;clear qh qg pY pX pK;have kC:=hR.o.bH 0 (.int .i64 (p1:Int));have oQ:=kC.bH 1 (.int .i64 (p2:Int));have rY:=(hG.o.dM (g:=gR) (i:=0) hgr.o hb0.o (.int .i64 (p1:Int))).dM (g:=gR) (i:=1) hgr.o hb0.o (.int .i64 (p2:Int));have yL:=(h.o.far hR.o δ (aj wE ⟨gR,0,none⟩ (.int .i64 (p1:Int)))).far kC δ (aj _ ⟨gR,1,none⟩ (.int .i64 (p2:Int)));clear hR hG h kC;generalize (wE.setCell ⟨gR,0,none⟩ (.int .i64 (p1:Int))).setCell ⟨gR,1,none⟩ (.int .i64 (p2:Int))=w7 at *
 have e0:=oQ.c0;have e1:=oQ.c1;refine bodyPost_ret (v:=dJ (p1,p2)) ?_ rfl ⟨?_,?_⟩
 ·simp[dJ,results,Tryz.results274,go_sem,e0,e1]
 ·rw[hat.o]
 ·rw[hat.o];exact⟨_,_,yL,rY⟩
end Go.Proofs.YtbhikkgpcmkonaaGreatDoor
namespace Go.Proofs.YtbhikkgpcmkonaaGreatDoor
open Go.RowKit
theorem acT {w:World} {base gB dp:Nat} {s:List UInt8} {b:PB} {c:UInt8} {sub:Option (PB→PB×qx)} {xs:List xX} {sv:Value} (h:jU w base gB s b xs sv) (hb:base≤w.heap.size) (uq:s.length≤100) (hcs:s[b.at_]? = some c) (hc:d_ b≤8*b.at_+61) {d:UInt8} (zK:¬c = 40) (H9:¬c = 91) (Np:¬c = 46) (Uz:c = 92) (hp:BK s (aO b)=some d) :
 Calls Tryz.prog 274 #[.pointer (some ⟨gB,0,none⟩),.int .i64 (dp:Int)] w (jo base gB s w (cZ s sub c b)):=by
 have i40:¬(c.toNat:Int)=40:=fun e=>zK (UInt8.toNat_inj.1 (by show c.toNat=40;omega))
 have i91:¬(c.toNat:Int)=91:=fun e=>H9 (UInt8.toNat_inj.1 (by show c.toNat=91;omega))
 have i46:¬(c.toNat:Int)=46:=fun e=>Np (UInt8.toNat_inj.1 (by show c.toNat=46;omega))
 have i92:(c.toNat:Int)=92:=by rw[Uz];rfl
 have Um:c.toNat<256:=c.toNat_lt;have qF:=ζ (jE b);have DW:Hid ((aO b).at_≤s.length):=ζ (by have:=(List.getElem?_eq_some_iff.1 hcs).1;simp only[aO];omega);have aDG:d.toNat<256:=d.toNat_lt;have hat:Hid (cZ s sub c b = kH (mW fC d.toNat d.toNat) (aO (aO b))):=ζ (by unfold cZ;rw[if_neg zK,if_neg H9,if_neg Np,if_pos Uz,hp]);have oW:wR s (aO b)=.tuple #[.int .u8 (d.toNat:Int),.bool true]:=by simp only[wR,hp]
 clear zK H9 Np Uz hp;have hlt:b.at_<s.length:=(List.getElem?_eq_some_iff.1 hcs).1;have tC:Hid (∀t∈[358],t∈TS):=ζ (by intro t ht;simp[TS,TB] at *;exact .inr (.inl ht));have nU:Hid (∀t∈TB,t∈TS):=ζ (fun t ht=>List.mem_cons_of_mem _ ht);have hTK:Hid (∀t∈TC,t∈TS):=ζ (by intro t ht;simp[TS,TB,TC] at *;rcases ht with h | h;exact .inr (.inl h);exact .inl h);have hR:=aG.new w 360 #[.int .i64 0,.int .i64 0];have hg1:ah w (w.alloc (.cells #[.int .i64 0,.int .i64 0] 360)):=(ah.refl _).alloc _;replace hR:=ζ hR;have hG:=ζ (aC.grows (T:=TS) hg1 hb);replace h:=ζ (h.grows hg1);have hb0:Hid (BLe base w):=ζ hb;replace hb:=ζ (Nat.le_trans hb hg1.size);have hgr:Hid (GLe w w.heap.size):=ζ (Nat.le_refl _);have hci:((b.at_:Nat):Int)<(s.length:Int):=ω;have BN:∀h:b.at_<(⟨s.toArray⟩:ByteArray).size,(⟨s.toArray⟩:ByteArray)[b.at_]'h = c:=fun h=>by
  show s.toArray[b.at_]=c
  rw[List.getElem_toArray];exact (List.getElem?_eq_some_iff.1 hcs).2
 have c0:∀w',jU w' base gB s b xs sv→w'.cell? ⟨gB,0,none⟩=some (.string ⟨s.toArray⟩):=fun w' hh=>(hh.blk.cell 0).trans rfl
 have c1:∀w',jU w' base gB s b xs sv→w'.cell? ⟨gB,1,none⟩=some (.int .i64 (b.at_:Int)):=fun w' hh=>(hh.blk.cell 1).trans rfl
 replace c0:=c0 _ h.o;replace c1:=c1 _ h.o;have l1:=h.o.blk.lt;clear hg1;go_enter Tryz.func274,Tryz.ntmps274
 go_wp2_with fail;generalize w.alloc (.cells #[.int .i64 0,.int .i64 0] 360)=w0 at *
 generalize w.heap.size=gR at *
 refine aF κ ?_;refine rK (.range 10) 0 ?_;iterate 10 refine ay ?_
 refine aB ?_;refine aH κ (fun wN hN hS=> ?_);clear c0 c1 l1;replace hR:=ζ (hR.o.grows hN);replace h:=ζ (h.o.grows hN);replace hG:=ζ (hG.o.trans (aC.grows hN hb.o));replace hb:=ζ (Nat.le_trans hb.o hN.size);clear hN hS;have c1:wN.cell? ⟨gB,1,none⟩=some (.int .i64 ((b).at_:Int)):=(h.o.blk.cell 1).trans rfl;have f1:=h.o.blk.frozen 1;have l1:=h.o.blk.lt;have i1: -9223372036854775808≤((b).at_:Int)+1∧((b).at_:Int)+1≤9223372036854775807:=by first | omega | (simp only[aO];omega)
 have hA:=ζ h.o.N9;have nH:=ζ (hG.o.trans ((aC.own h.o (aj wN ⟨gB,1,none⟩ (.int .i64 (((b).at_:Int)+1)))).mono tC.o));have hsz:Hid ((wN.setCell ⟨gB,1,none⟩ (.int .i64 (((b).at_:Int)+1))).heap.size=wN.heap.size):=ζ σ;go_wp2_with fail;(try replace aK:=ζ (aK.o.tk (aC.own h.o (aj wN ⟨gB,1,none⟩ (.int .i64 (((b).at_:Int)+1)))) δ))
 (try replace hX:=ζ ((aC.own h.o (aj wN ⟨gB,1,none⟩ (.int .i64 (((b).at_:Int)+1)))).blk hX.o δ))
 (try replace hP:=ζ ((aC.own h.o (aj wN ⟨gB,1,none⟩ (.int .i64 (((b).at_:Int)+1)))).blk hP.o δ))
 (try replace hR:=ζ ((aC.own h.o (aj wN ⟨gB,1,none⟩ (.int .i64 (((b).at_:Int)+1)))).blk hR.o δ))
 clear c1 f1 l1 i1 h hG;generalize wN.setCell ⟨gB,1,none⟩ (.int .i64 (((b).at_:Int)+1))=w2 at *
 have h:=hA;have hG:=nH;clear hA nH;replace hb:=ζ (Nat.le_trans hb0.o hG.o.size);have aK:Hid (fD (w2.alloc (.cells #[.int .u64 0,.int .u64 0,.int .u64 0,.int .u64 0] 385)) w2.heap.size fC):=ζ ⟨aG.new w2 _ _,rfl,by intro x hx;simp[fC] at hx;omega⟩;have dP:ah w2 (w2.alloc (.cells #[.int .u64 0,.int .u64 0,.int .u64 0,.int .u64 0] 385)):=(ah.refl _).alloc _;have wO:=ζ h.o.fresh;have tY:=hb;replace hR:=ζ (hR.o.grows dP);replace h:=ζ (h.o.grows dP);replace hG:=ζ (hG.o.trans (aC.grows dP hb.o));replace hb:Hid (base≤(w2.alloc (.cells #[.int .u64 0,.int .u64 0,.int .u64 0,.int .u64 0] 385)).heap.size):=ζ (Nat.le_trans hb.o dP.size);clear dP;generalize w2.alloc (.cells #[.int .u64 0,.int .u64 0,.int .u64 0,.int .u64 0] 385)=w3 at *
 rw[hsz.o] at aK wO tY;clear hsz;generalize wN.heap.size=gS at *
 go_wp2_with fail;refine (eP h.o).mono ?_;rintro e w4 ⟨rfl,dR⟩;replace h:=ζ (h.o.grows dR);replace hG:=ζ (hG.o.trans (aC.grows dR hb.o));replace hb:=ζ (Nat.le_trans hb.o dR.size);(try replace aK:=ζ (aK.o.grows dR))
 (try replace hX:=ζ (hX.o.grows dR))
 (try replace hP:=ζ (hP.o.grows dR))
 (try replace hR:=ζ (hR.o.grows dR))
 clear dR;rw[oW];clear oW;have c1:w4.cell? ⟨gB,1,none⟩=some (.int .i64 (((aO b)).at_:Int)):=(h.o.blk.cell 1).trans rfl;have f1:=h.o.blk.frozen 1;have l1:=h.o.blk.lt;have i1: -9223372036854775808≤(((aO b)).at_:Int)+1∧(((aO b)).at_:Int)+1≤9223372036854775807:=by first | omega | (simp only[aO];omega)
 have hA:=ζ h.o.N9;have nH:=ζ (hG.o.trans ((aC.own h.o (aj w4 ⟨gB,1,none⟩ (.int .i64 ((((aO b)).at_:Int)+1)))).mono tC.o));have hsz:Hid ((w4.setCell ⟨gB,1,none⟩ (.int .i64 ((((aO b)).at_:Int)+1))).heap.size=w4.heap.size):=ζ σ;go_wp2_with fail;(try replace aK:=ζ (aK.o.tk (aC.own h.o (aj w4 ⟨gB,1,none⟩ (.int .i64 ((((aO b)).at_:Int)+1)))) δ))
 (try replace hX:=ζ ((aC.own h.o (aj w4 ⟨gB,1,none⟩ (.int .i64 ((((aO b)).at_:Int)+1)))).blk hX.o δ))
 (try replace hP:=ζ ((aC.own h.o (aj w4 ⟨gB,1,none⟩ (.int .i64 ((((aO b)).at_:Int)+1)))).blk hP.o δ))
 (try replace hR:=ζ ((aC.own h.o (aj w4 ⟨gB,1,none⟩ (.int .i64 ((((aO b)).at_:Int)+1)))).blk hR.o δ))
 clear c1 f1 l1 i1 h hG;generalize w4.setCell ⟨gB,1,none⟩ (.int .i64 ((((aO b)).at_:Int)+1))=w6 at *
 have h:=hA;have hG:=nH;clear hA nH;replace hb:=ζ (Nat.le_trans hb0.o hG.o.size);refine (kU (lo:=d.toNat) (hi:=d.toNat) aK.o ω ω).mono ?_;rintro e w7 ⟨rfl,CY,iP⟩;replace h:=ζ (h.o.uV aK.o wO.o iP);replace hR:=ζ ((aC.set aK.o tY.o iP).blk hR.o δ);replace hG:=ζ (hG.o.trans ((aC.set aK.o tY.o iP).mono hTK.o));replace hb:=ζ (Nat.le_trans hb0.o hG.o.size);replace aK:=ζ CY;clear CY iP;go_wp2_with fail;refine (zY h.o aK.o tY.o hb.o (by have:=qF.o;simp only[aO];omega)).mono ?_;rintro e wE ⟨rfl,xsE,svE,h',dX⟩;replace h:=ζ h';(try replace hX:=ζ ((dX.mono nU.o).blk hX.o δ))
 (try replace hP:=ζ ((dX.mono nU.o).blk hP.o δ))
 (try replace hR:=ζ ((dX.mono nU.o).blk hR.o δ))
 replace hG:=ζ (hG.o.trans (dX.mono nU.o));replace hb:=ζ (Nat.le_trans hb0.o hG.o.size);clear h' dX aK;generalize hr:kH (mW fC d.toNat d.toNat) (aO (aO b))=r at *
 obtain⟨rb,p1,p2⟩:=r;simp only[dJ];(try clear qh);(try clear qg);(try clear pK);(try clear pY);(try clear pX)
 have qh:wE.cell? ⟨gR,0,none⟩=_:=hR.o.cell 0;have qg:wE.cell? ⟨gR,1,none⟩=_:=hR.o.cell 1;have pY:=hR.o.frozen 0;have pX:=hR.o.frozen 1;have pK:=hR.o.lt;go_wp2;clear qh qg pY pX pK;have kC:=hR.o.bH 0 (.int .i64 (p1:Int));have oQ:=kC.bH 1 (.int .i64 (p2:Int));have rY:=(hG.o.dM (g:=gR) (i:=0) hgr.o hb0.o (.int .i64 (p1:Int))).dM (g:=gR) (i:=1) hgr.o hb0.o (.int .i64 (p2:Int));have yL:=(h.o.far hR.o δ (aj wE ⟨gR,0,none⟩ (.int .i64 (p1:Int)))).far kC δ (aj _ ⟨gR,1,none⟩ (.int .i64 (p2:Int)));clear hR hG h kC;generalize (wE.setCell ⟨gR,0,none⟩ (.int .i64 (p1:Int))).setCell ⟨gR,1,none⟩ (.int .i64 (p2:Int))=w7 at *
 have e0:=oQ.c0;have e1:=oQ.c1;refine bodyPost_ret (v:=dJ (p1,p2)) ?_ rfl ⟨?_,?_⟩
 ·simp[dJ,results,Tryz.results274,go_sem,e0,e1]
 ·rw[hat.o]
 ·rw[hat.o];exact⟨_,_,yL,rY⟩
end Go.Proofs.YtbhikkgpcmkonaaGreatDoor
namespace Go.Proofs.YtbhikkgpcmkonaaGreatDoor
open Go.RowKit
theorem alH {w:World} {base gB dp:Nat} {s:List UInt8} {b:PB} {c:UInt8} {sub:Option (PB→PB×qx)} {xs:List xX} {sv:Value} (h:jU w base gB s b xs sv) (hb:base≤w.heap.size) (uq:s.length≤100) (hcs:s[b.at_]? = some c) (hc:d_ b≤8*b.at_+61) (zK:¬c = 40) (H9:¬c = 91) (Np:¬c = 46) (Uz:¬c = 92) (Sr:afo c = true) :
 Calls Tryz.prog 274 #[.pointer (some ⟨gB,0,none⟩),.int .i64 (dp:Int)] w (jo base gB s w (cZ s sub c b)):=by
 have i40:¬(c.toNat:Int)=40:=fun e=>zK (UInt8.toNat_inj.1 (by show c.toNat=40;omega))
 have i91:¬(c.toNat:Int)=91:=fun e=>H9 (UInt8.toNat_inj.1 (by show c.toNat=91;omega))
 have i46:¬(c.toNat:Int)=46:=fun e=>Np (UInt8.toNat_inj.1 (by show c.toNat=46;omega))
 have i92:¬(c.toNat:Int)=92:=fun e=>Uz (UInt8.toNat_inj.1 (by show c.toNat=92;omega))
 have cI:=ζ (fun W=>O8 W c);have Um:c.toNat<256:=c.toNat_lt;have qF:=ζ (jE b);have DW:Hid ((aO b).at_≤s.length):=ζ (by have:=(List.getElem?_eq_some_iff.1 hcs).1;simp only[aO];omega);have SH:=(X9 c).1 Sr;have hat:Hid (cZ s sub c b = kH fC (bU 2 (aO b))):=ζ (by unfold cZ;rw[if_neg zK,if_neg H9,if_neg Np,if_neg Uz,if_pos Sr]);clear zK H9 Np Uz Sr;generalize Lib.indexByte [42,43,63,124,40,41,91,93,92,46] c = ki at *
 have hlt:b.at_<s.length:=(List.getElem?_eq_some_iff.1 hcs).1;have tC:Hid (∀t∈[358],t∈TS):=ζ (by intro t ht;simp[TS,TB] at *;exact .inr (.inl ht));have nU:Hid (∀t∈TB,t∈TS):=ζ (fun t ht=>List.mem_cons_of_mem _ ht);have hTK:Hid (∀t∈TC,t∈TS):=ζ (by intro t ht;simp[TS,TB,TC] at *;rcases ht with h | h;exact .inr (.inl h);exact .inl h);have hR:=aG.new w 360 #[.int .i64 0,.int .i64 0];have hg1:ah w (w.alloc (.cells #[.int .i64 0,.int .i64 0] 360)):=(ah.refl _).alloc _;replace hR:=ζ hR;have hG:=ζ (aC.grows (T:=TS) hg1 hb);replace h:=ζ (h.grows hg1);have hb0:Hid (BLe base w):=ζ hb;replace hb:=ζ (Nat.le_trans hb hg1.size);have hgr:Hid (GLe w w.heap.size):=ζ (Nat.le_refl _);have hci:((b.at_:Nat):Int)<(s.length:Int):=ω;have BN:∀h:b.at_<(⟨s.toArray⟩:ByteArray).size,(⟨s.toArray⟩:ByteArray)[b.at_]'h = c:=fun h=>by
  show s.toArray[b.at_]=c
  rw[List.getElem_toArray];exact (List.getElem?_eq_some_iff.1 hcs).2
 have c0:∀w',jU w' base gB s b xs sv→w'.cell? ⟨gB,0,none⟩=some (.string ⟨s.toArray⟩):=fun w' hh=>(hh.blk.cell 0).trans rfl
 have c1:∀w',jU w' base gB s b xs sv→w'.cell? ⟨gB,1,none⟩=some (.int .i64 (b.at_:Int)):=fun w' hh=>(hh.blk.cell 1).trans rfl
 replace c0:=c0 _ h.o;replace c1:=c1 _ h.o;have l1:=h.o.blk.lt;clear hg1;go_enter Tryz.func274,Tryz.ntmps274
 go_wp2_with fail;generalize w.alloc (.cells #[.int .i64 0,.int .i64 0] 360)=w0 at *
 generalize w.heap.size=gR at *
 refine aF κ ?_;refine rK (.range 10) 0 ?_;iterate 10 refine ay ?_
 refine aB ?_;refine aH κ (fun wN hN hS=> ?_);clear c0 c1 l1;replace hR:=ζ (hR.o.grows hN);replace h:=ζ (h.o.grows hN);replace hG:=ζ (hG.o.trans (aC.grows hN hb.o));replace hb:=ζ (Nat.le_trans hb.o hN.size);clear hN hS;have c1:wN.cell? ⟨gB,1,none⟩=some (.int .i64 ((b).at_:Int)):=(h.o.blk.cell 1).trans rfl;have f1:=h.o.blk.frozen 1;have l1:=h.o.blk.lt;have i1: -9223372036854775808≤((b).at_:Int)+1∧((b).at_:Int)+1≤9223372036854775807:=by first | omega | (simp only[aO];omega)
 have hA:=ζ h.o.N9;have nH:=ζ (hG.o.trans ((aC.own h.o (aj wN ⟨gB,1,none⟩ (.int .i64 (((b).at_:Int)+1)))).mono tC.o));have hsz:Hid ((wN.setCell ⟨gB,1,none⟩ (.int .i64 (((b).at_:Int)+1))).heap.size=wN.heap.size):=ζ σ;go_wp2_with fail;(try replace aK:=ζ (aK.o.tk (aC.own h.o (aj wN ⟨gB,1,none⟩ (.int .i64 (((b).at_:Int)+1)))) δ))
 (try replace hX:=ζ ((aC.own h.o (aj wN ⟨gB,1,none⟩ (.int .i64 (((b).at_:Int)+1)))).blk hX.o δ))
 (try replace hP:=ζ ((aC.own h.o (aj wN ⟨gB,1,none⟩ (.int .i64 (((b).at_:Int)+1)))).blk hP.o δ))
 (try replace hR:=ζ ((aC.own h.o (aj wN ⟨gB,1,none⟩ (.int .i64 (((b).at_:Int)+1)))).blk hR.o δ))
 clear c1 f1 l1 i1 h hG;generalize wN.setCell ⟨gB,1,none⟩ (.int .i64 (((b).at_:Int)+1))=w2 at *
 have h:=hA;have hG:=nH;clear hA nH;replace hb:=ζ (Nat.le_trans hb0.o hG.o.size);have aK:Hid (fD (w2.alloc (.cells #[.int .u64 0,.int .u64 0,.int .u64 0,.int .u64 0] 385)) w2.heap.size fC):=ζ ⟨aG.new w2 _ _,rfl,by intro x hx;simp[fC] at hx;omega⟩;have dP:ah w2 (w2.alloc (.cells #[.int .u64 0,.int .u64 0,.int .u64 0,.int .u64 0] 385)):=(ah.refl _).alloc _;have wO:=ζ h.o.fresh;have tY:=hb;replace hR:=ζ (hR.o.grows dP);replace h:=ζ (h.o.grows dP);replace hG:=ζ (hG.o.trans (aC.grows dP hb.o));replace hb:Hid (base≤(w2.alloc (.cells #[.int .u64 0,.int .u64 0,.int .u64 0,.int .u64 0] 385)).heap.size):=ζ (Nat.le_trans hb.o dP.size);clear dP;generalize w2.alloc (.cells #[.int .u64 0,.int .u64 0,.int .u64 0,.int .u64 0] 385)=w3 at *
 rw[hsz.o] at aK wO tY;clear hsz;generalize wN.heap.size=gS at *
 refine (cI.out _).mono ?_;rintro e wI ⟨rfl,hwI⟩;replace hwI:=hwI.symm;subst hwI;go_wp2_with fail;refine (kD h.o).mono ?_;rintro e w4 ⟨rfl,YU,dR⟩;(try replace aK:=ζ (aK.o.tk (aC.own h.o dR) δ))
 (try replace hX:=ζ ((aC.own h.o dR).blk hX.o δ))
 (try replace hP:=ζ ((aC.own h.o dR).blk hP.o δ))
 (try replace hR:=ζ ((aC.own h.o dR).blk hR.o δ))
 replace hG:=ζ (hG.o.trans ((aC.own h.o dR).mono tC.o));replace h:=ζ YU;replace hb:=ζ (Nat.le_trans hb0.o hG.o.size);clear YU dR;go_wp2_with fail;refine (zY h.o aK.o tY.o hb.o (by rw[gu];have:=qF.o;simp only[aO];omega)).mono ?_;rintro e wE ⟨rfl,xsE,svE,h',dX⟩;replace h:=ζ h';(try replace hX:=ζ ((dX.mono nU.o).blk hX.o δ))
 (try replace hP:=ζ ((dX.mono nU.o).blk hP.o δ))
 (try replace hR:=ζ ((dX.mono nU.o).blk hR.o δ))
 replace hG:=ζ (hG.o.trans (dX.mono nU.o));replace hb:=ζ (Nat.le_trans hb0.o hG.o.size);clear h' dX aK;generalize hr:kH fC (bU 2 (aO b))=r at *
 obtain⟨rb,p1,p2⟩:=r;simp only[dJ];(try clear qh);(try clear qg);(try clear pK);(try clear pY);(try clear pX)
 have qh:wE.cell? ⟨gR,0,none⟩=_:=hR.o.cell 0;have qg:wE.cell? ⟨gR,1,none⟩=_:=hR.o.cell 1;have pY:=hR.o.frozen 0;have pX:=hR.o.frozen 1;have pK:=hR.o.lt;go_wp2;clear qh qg pY pX pK;have kC:=hR.o.bH 0 (.int .i64 (p1:Int));have oQ:=kC.bH 1 (.int .i64 (p2:Int));have rY:=(hG.o.dM (g:=gR) (i:=0) hgr.o hb0.o (.int .i64 (p1:Int))).dM (g:=gR) (i:=1) hgr.o hb0.o (.int .i64 (p2:Int));have yL:=(h.o.far hR.o δ (aj wE ⟨gR,0,none⟩ (.int .i64 (p1:Int)))).far kC δ (aj _ ⟨gR,1,none⟩ (.int .i64 (p2:Int)));clear hR hG h kC;generalize (wE.setCell ⟨gR,0,none⟩ (.int .i64 (p1:Int))).setCell ⟨gR,1,none⟩ (.int .i64 (p2:Int))=w7 at *
 have e0:=oQ.c0;have e1:=oQ.c1;refine bodyPost_ret (v:=dJ (p1,p2)) ?_ rfl ⟨?_,?_⟩
 ·simp[dJ,results,Tryz.results274,go_sem,e0,e1]
 ·rw[hat.o]
 ·rw[hat.o];exact⟨_,_,yL,rY⟩
end Go.Proofs.YtbhikkgpcmkonaaGreatDoor
namespace Go.Proofs.YtbhikkgpcmkonaaGreatDoor
open Go.RowKit
theorem acU {w:World} {base gB dp:Nat} {s:List UInt8} {b:PB} {c:UInt8} {sub:Option (PB→PB×qx)} {xs:List xX} {sv:Value} (h:jU w base gB s b xs sv) (hb:base≤w.heap.size) (uq:s.length≤100) (hcs:s[b.at_]? = some c) (hc:d_ b≤8*b.at_+61) (zK:¬c = 40) (H9:¬c = 91) (Np:¬c = 46) (Uz:¬c = 92) (Sr:¬afo c = true) :
 Calls Tryz.prog 274 #[.pointer (some ⟨gB,0,none⟩),.int .i64 (dp:Int)] w (jo base gB s w (cZ s sub c b)):=by
 have i40:¬(c.toNat:Int)=40:=fun e=>zK (UInt8.toNat_inj.1 (by show c.toNat=40;omega))
 have i91:¬(c.toNat:Int)=91:=fun e=>H9 (UInt8.toNat_inj.1 (by show c.toNat=91;omega))
 have i46:¬(c.toNat:Int)=46:=fun e=>Np (UInt8.toNat_inj.1 (by show c.toNat=46;omega))
 have i92:¬(c.toNat:Int)=92:=fun e=>Uz (UInt8.toNat_inj.1 (by show c.toNat=92;omega))
 have cI:=ζ (fun W=>O8 W c);have Um:c.toNat<256:=c.toNat_lt;have qF:=ζ (jE b);have DW:Hid ((aO b).at_≤s.length):=ζ (by have:=(List.getElem?_eq_some_iff.1 hcs).1;simp only[aO];omega);have SH:¬0≤Lib.indexByte [42,43,63,124,40,41,91,93,92,46] c:=fun hh=>Sr ((X9 c).2 hh)
 have hat:Hid (cZ s sub c b = kH (mW fC c.toNat c.toNat) (aO b)):=ζ (by unfold cZ;rw[if_neg zK,if_neg H9,if_neg Np,if_neg Uz,if_neg Sr]);clear zK H9 Np Uz Sr;generalize Lib.indexByte [42,43,63,124,40,41,91,93,92,46] c = ki at *
 have avs:ki<0:=ω;have hlt:b.at_<s.length:=(List.getElem?_eq_some_iff.1 hcs).1;have tC:Hid (∀t∈[358],t∈TS):=ζ (by intro t ht;simp[TS,TB] at *;exact .inr (.inl ht));have nU:Hid (∀t∈TB,t∈TS):=ζ (fun t ht=>List.mem_cons_of_mem _ ht);have hTK:Hid (∀t∈TC,t∈TS):=ζ (by intro t ht;simp[TS,TB,TC] at *;rcases ht with h | h;exact .inr (.inl h);exact .inl h);have hR:=aG.new w 360 #[.int .i64 0,.int .i64 0];have hg1:ah w (w.alloc (.cells #[.int .i64 0,.int .i64 0] 360)):=(ah.refl _).alloc _;replace hR:=ζ hR;have hG:=ζ (aC.grows (T:=TS) hg1 hb);replace h:=ζ (h.grows hg1);have hb0:Hid (BLe base w):=ζ hb;replace hb:=ζ (Nat.le_trans hb hg1.size);have hgr:Hid (GLe w w.heap.size):=ζ (Nat.le_refl _);have hci:((b.at_:Nat):Int)<(s.length:Int):=ω;have BN:∀h:b.at_<(⟨s.toArray⟩:ByteArray).size,(⟨s.toArray⟩:ByteArray)[b.at_]'h = c:=fun h=>by
  show s.toArray[b.at_]=c
  rw[List.getElem_toArray];exact (List.getElem?_eq_some_iff.1 hcs).2
 have c0:∀w',jU w' base gB s b xs sv→w'.cell? ⟨gB,0,none⟩=some (.string ⟨s.toArray⟩):=fun w' hh=>(hh.blk.cell 0).trans rfl
 have c1:∀w',jU w' base gB s b xs sv→w'.cell? ⟨gB,1,none⟩=some (.int .i64 (b.at_:Int)):=fun w' hh=>(hh.blk.cell 1).trans rfl
 replace c0:=c0 _ h.o;replace c1:=c1 _ h.o;have l1:=h.o.blk.lt;clear hg1;go_enter Tryz.func274,Tryz.ntmps274
 go_wp2_with fail;generalize w.alloc (.cells #[.int .i64 0,.int .i64 0] 360)=w0 at *
 generalize w.heap.size=gR at *
 refine aF κ ?_;refine rK (.range 10) 0 ?_;iterate 10 refine ay ?_
 refine aB ?_;refine aH κ (fun wN hN hS=> ?_);clear c0 c1 l1;replace hR:=ζ (hR.o.grows hN);replace h:=ζ (h.o.grows hN);replace hG:=ζ (hG.o.trans (aC.grows hN hb.o));replace hb:=ζ (Nat.le_trans hb.o hN.size);clear hN hS;have c1:wN.cell? ⟨gB,1,none⟩=some (.int .i64 ((b).at_:Int)):=(h.o.blk.cell 1).trans rfl;have f1:=h.o.blk.frozen 1;have l1:=h.o.blk.lt;have i1: -9223372036854775808≤((b).at_:Int)+1∧((b).at_:Int)+1≤9223372036854775807:=by first | omega | (simp only[aO];omega)
 have hA:=ζ h.o.N9;have nH:=ζ (hG.o.trans ((aC.own h.o (aj wN ⟨gB,1,none⟩ (.int .i64 (((b).at_:Int)+1)))).mono tC.o));have hsz:Hid ((wN.setCell ⟨gB,1,none⟩ (.int .i64 (((b).at_:Int)+1))).heap.size=wN.heap.size):=ζ σ;go_wp2_with fail;(try replace aK:=ζ (aK.o.tk (aC.own h.o (aj wN ⟨gB,1,none⟩ (.int .i64 (((b).at_:Int)+1)))) δ))
 (try replace hX:=ζ ((aC.own h.o (aj wN ⟨gB,1,none⟩ (.int .i64 (((b).at_:Int)+1)))).blk hX.o δ))
 (try replace hP:=ζ ((aC.own h.o (aj wN ⟨gB,1,none⟩ (.int .i64 (((b).at_:Int)+1)))).blk hP.o δ))
 (try replace hR:=ζ ((aC.own h.o (aj wN ⟨gB,1,none⟩ (.int .i64 (((b).at_:Int)+1)))).blk hR.o δ))
 clear c1 f1 l1 i1 h hG;generalize wN.setCell ⟨gB,1,none⟩ (.int .i64 (((b).at_:Int)+1))=w2 at *
 have h:=hA;have hG:=nH;clear hA nH;replace hb:=ζ (Nat.le_trans hb0.o hG.o.size);have aK:Hid (fD (w2.alloc (.cells #[.int .u64 0,.int .u64 0,.int .u64 0,.int .u64 0] 385)) w2.heap.size fC):=ζ ⟨aG.new w2 _ _,rfl,by intro x hx;simp[fC] at hx;omega⟩;have dP:ah w2 (w2.alloc (.cells #[.int .u64 0,.int .u64 0,.int .u64 0,.int .u64 0] 385)):=(ah.refl _).alloc _;have wO:=ζ h.o.fresh;have tY:=hb;replace hR:=ζ (hR.o.grows dP);replace h:=ζ (h.o.grows dP);replace hG:=ζ (hG.o.trans (aC.grows dP hb.o));replace hb:Hid (base≤(w2.alloc (.cells #[.int .u64 0,.int .u64 0,.int .u64 0,.int .u64 0] 385)).heap.size):=ζ (Nat.le_trans hb.o dP.size);clear dP;generalize w2.alloc (.cells #[.int .u64 0,.int .u64 0,.int .u64 0,.int .u64 0] 385)=w3 at *
 rw[hsz.o] at aK wO tY;clear hsz;generalize wN.heap.size=gS at *
 refine (cI.out _).mono ?_;rintro e wI ⟨rfl,hwI⟩;replace hwI:=hwI.symm;subst hwI;go_wp2_with fail;refine (kU (lo:=c.toNat) (hi:=c.toNat) aK.o ω ω).mono ?_;rintro e w7 ⟨rfl,CY,iP⟩;replace h:=ζ (h.o.uV aK.o wO.o iP);replace hR:=ζ ((aC.set aK.o tY.o iP).blk hR.o δ);replace hG:=ζ (hG.o.trans ((aC.set aK.o tY.o iP).mono hTK.o));replace hb:=ζ (Nat.le_trans hb0.o hG.o.size);replace aK:=ζ CY;clear CY iP;go_wp2_with fail;refine (zY h.o aK.o tY.o hb.o (by have:=qF.o;simp only[aO];omega)).mono ?_;rintro e wE ⟨rfl,xsE,svE,h',dX⟩;replace h:=ζ h';(try replace hX:=ζ ((dX.mono nU.o).blk hX.o δ))
 (try replace hP:=ζ ((dX.mono nU.o).blk hP.o δ))
 (try replace hR:=ζ ((dX.mono nU.o).blk hR.o δ))
 replace hG:=ζ (hG.o.trans (dX.mono nU.o));replace hb:=ζ (Nat.le_trans hb0.o hG.o.size);clear h' dX aK;generalize hr:kH (mW fC c.toNat c.toNat) (aO b)=r at *
 obtain⟨rb,p1,p2⟩:=r;simp only[dJ];(try clear qh);(try clear qg);(try clear pK);(try clear pY);(try clear pX)
 have qh:wE.cell? ⟨gR,0,none⟩=_:=hR.o.cell 0;have qg:wE.cell? ⟨gR,1,none⟩=_:=hR.o.cell 1;have pY:=hR.o.frozen 0;have pX:=hR.o.frozen 1;have pK:=hR.o.lt;go_wp2;clear qh qg pY pX pK;have kC:=hR.o.bH 0 (.int .i64 (p1:Int));have oQ:=kC.bH 1 (.int .i64 (p2:Int));have rY:=(hG.o.dM (g:=gR) (i:=0) hgr.o hb0.o (.int .i64 (p1:Int))).dM (g:=gR) (i:=1) hgr.o hb0.o (.int .i64 (p2:Int));have yL:=(h.o.far hR.o δ (aj wE ⟨gR,0,none⟩ (.int .i64 (p1:Int)))).far kC δ (aj _ ⟨gR,1,none⟩ (.int .i64 (p2:Int)));clear hR hG h kC;generalize (wE.setCell ⟨gR,0,none⟩ (.int .i64 (p1:Int))).setCell ⟨gR,1,none⟩ (.int .i64 (p2:Int))=w7 at *
 have e0:=oQ.c0;have e1:=oQ.c1;refine bodyPost_ret (v:=dJ (p1,p2)) ?_ rfl ⟨?_,?_⟩
 ·simp[dJ,results,Tryz.results274,go_sem,e0,e1]
 ·rw[hat.o]
 ·rw[hat.o];exact⟨_,_,yL,rY⟩
end Go.Proofs.YtbhikkgpcmkonaaGreatDoor
