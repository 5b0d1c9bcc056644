/- Parts: Shelf3 PatK PatL PatLa PatLb PatLc PatLd PatLe PatLf -/
import Derived.Test.YtbhikkgpcmkonaaGreatDoorVa0
import Derived.Shelf.Small.Strs
import Derived.Test.YtbhikkgpcmkonaaGreatDoorProg
import Derived.Test.YtbhikkgpcmkonaaGreatDoorVa13
set_option maxRecDepth 100000
set_option maxHeartbeats 12800000
namespace Go.Proofs
open Go.Shelf
def Tryz.XA:Go.Shelf.Ren:=⟨fun | 137=>211 | 217=>237 | 266=>259 | n=>n,fun | 9=>9 | 5=>5 | 3=>3 | n=>n,fun | n=>n⟩
theorem Tryz.UY:Go.Proofs.Lays.n137 Tryz.prog Tryz.XA:={
 mixed:=by kernel_rfl
 f137:=Tryz.func211.trans (congrArg some κ)
 f217:=Tryz.func237.trans (congrArg some κ)
 f266:=Tryz.func259.trans (congrArg some κ)
 t3:=Tryz.underlying3
 a3:=Tryz.isAgg3
 z3:=Tryz.sizeOf3
 v3:=Tryz.zeroValue3
 t5:=Tryz.underlying5
 a5:=Tryz.isAgg5
 z5:=Tryz.sizeOf5
 v5:=Tryz.zeroValue5
 t9:=Tryz.underlying9
 a9:=Tryz.isAgg9
 z9:=Tryz.sizeOf9
 v9:=Tryz.zeroValue9}
end Go.Proofs
namespace Go.Proofs.YtbhikkgpcmkonaaGreatDoor
open Go.RowKit
theorem qW (b:PB):dY (aW b)=dY b + 1:=by simp[dY,aW,jJ,uq];omega
theorem qX (i j:Nat) (b:PB):dY (bg i j b)≤dY b + 1:=by have:=Iz b.aS i j;simp[bg,dY];omega
theorem JX (b:PB):dY (aK b)=dY b:=rfl
theorem jy (b:PB):b.aS.length≤dY b:=by unfold dY;omega
theorem Jq (c:UInt8):(Xf c = true↔0≤Lib.indexByte [42,43,63] c)∧(Xf c = true→c = 42∨c = 43∨c = 63):=by
 unfold Xf;by_cases h1:c = 42
 ·subst h1;decide
 ·by_cases h2:c = 43
  ·subst h2;decide
  ·by_cases h3:c = 63
   ·subst h3;decide
   ·have e1:((42:UInt8)==c)=false:=by simpa using Ne.symm h1
    have e2:((43:UInt8)==c)=false:=by simpa using Ne.symm h2
    have e3:((63:UInt8)==c)=false:=by simpa using Ne.symm h3
    simp[Lib.indexByte,e1,e2,e3,h1,h2,h3]
theorem KD (W:World) (c:UInt8):Calls Tryz.prog 211 #[.string {data:= #[42,43,63]},.int .u8 (c.toNat:Int)] W fun e w'=>e =.returned (.int .i64 (Lib.indexByte [42,43,63] c))∧w'=W:=by
 have:=Any.strings_IndexByte Tryz.UY {data:= #[42,43,63]} (c.toNat:Int) W;rw[show (c.toNat:Int).toNat.toUInt8=c by simp] at this;exact this
def BLe (base:Nat) (w:World):Prop:=base≤w.heap.size
def GLe (w:World) (g:Nat):Prop:=w.heap.size≤g
theorem adK {w:World} {base gB:Nat} {s:List UInt8} {b:PB} {x:qw} {xs:List xH} {sv:Value} (h:jP w base gB s b xs sv) (hb:base≤w.heap.size) (hx:IL x b) (hat:b.at_<1000000) (hc:dY b < 100000000) :
 Calls Tryz.prog 273 #[.pointer (some ⟨gB,0,none⟩),dI x] w (YZ base gB s w (fE s b x)):=by
 obtain⟨x1,x2⟩:=x;have hX:=aF.new w 360 #[.int .i64 (x1:Int),.int .i64 (x2:Int)];have hg1:ah w (w.alloc (.cells #[.int .i64 (x1:Int),.int .i64 (x2:Int)] 360)):=(ah.refl _).alloc _;have hR:aF ((w.alloc (.cells #[.int .i64 (x1:Int),.int .i64 (x2:Int)] 360)).alloc (.cells #[.int .i64 0,.int .i64 0] 360)) (w.heap.size+1) 360 #[.int .i64 0,.int .i64 0]:=by
  have:=aF.new (w.alloc (.cells #[.int .i64 (x1:Int),.int .i64 (x2:Int)] 360)) 360 #[.int .i64 0,.int .i64 0];simpa using this
 have hg2:=hg1.alloc (.cells #[.int .i64 0,.int .i64 0] 360);replace hX:=ζ (hX.alloc (.cells #[.int .i64 0,.int .i64 0] 360));replace hR:=ζ hR;have hG:=ζ (ay.grows (T:=TB) hg2 hb);replace h:=ζ (h.grows hg2);have hb0:Hid (BLe base w):=ζ hb;replace hb:=ζ (Nat.le_trans hb hg2.size);have hgr:Hid (GLe w (w.heap.size+1)):=ζ (Nat.le_succ _);clear hg1 hg2;cases hp:Bf s b with
 | none=>
  have htp:fE s b (x1,x2)=(b,(x1,x2)):=by unfold fE;rw[hp]
  have oQ:wG s b =.tuple #[.int .u8 0,.bool false]:=by simp only[wG,hp]
  rw[htp];clear hp htp;unfold dI;go_enter Tryz.func273,Tryz.ntmps273
  go_wp2_with fail;refine (eH h.o).mono ?_;rintro e w1 ⟨rfl,dh⟩;replace h:=ζ (h.o.grows dh);replace hG:=ζ (hG.o.trans (ay.grows dh hb.o));replace hb:=ζ (Nat.le_trans hb.o dh.size);(try replace aI:=ζ (aI.o.grows dh))
  (try replace hX:=ζ (hX.o.grows dh))
  (try replace hP:=ζ (hP.o.grows dh))
  (try replace hR:=ζ (hR.o.grows dh))
  clear dh;rw[oQ];clear oQ;generalize w.heap.size=gX at *
  generalize gX+1=gR at *
  (try clear PW);(try clear PV);(try clear Py);(try clear PU);(try clear PS)
  have PW:w1.cell? ⟨gX,0,none⟩=_:=hX.o.cell 0;have PV:w1.cell? ⟨gX,1,none⟩=_:=hX.o.cell 1;have PU:=hX.o.frozen 0;have PS:=hX.o.frozen 1;have Py:=hX.o.lt;(try clear qc);(try clear pY);(try clear pI);(try clear pW);(try clear pV)
  have qc:w1.cell? ⟨gR,0,none⟩=_:=hR.o.cell 0;have pY:w1.cell? ⟨gR,1,none⟩=_:=hR.o.cell 1;have pW:=hR.o.frozen 0;have pV:=hR.o.frozen 1;have pI:=hR.o.lt;go_wp2;clear PW PV PU PS Py;clear qc pY pW pV pI;have jW:=hR.o.bD 0 (.int .i64 (x1:Int));have oM:=jW.bD 1 (.int .i64 (x2:Int));have rX:=(hG.o.dK (g:=gR) (i:=0) hgr.o hb0.o (.int .i64 (x1:Int))).dK (g:=gR) (i:=1) hgr.o hb0.o (.int .i64 (x2:Int));have yh:=(h.o.far hR.o δ (aj w1 ⟨gR,0,none⟩ (.int .i64 (x1:Int)))).far jW δ (aj _ ⟨gR,1,none⟩ (.int .i64 (x2:Int)));clear hR hG h jW;generalize (w1.setCell ⟨gR,0,none⟩ (.int .i64 (x1:Int))).setCell ⟨gR,1,none⟩ (.int .i64 (x2:Int))=w7 at *
  have e0:=oM.c0;have e1:=oM.c1;refine bodyPost_ret (v:=dI (x1,x2)) ?_ rfl ⟨?_,?_⟩
  ·simp[dI,results,Tryz.results273,go_sem,e0,e1]
  ·rfl
  ·exact⟨_,_,yh,rX⟩
 | some c=>
  have oQ:wG s b =.tuple #[.int .u8 (c.toNat:Int),.bool true]:=by simp only[wG,hp]
  by_cases JE:Xf c = true
  ·have aos:dY (aK b)<100000000:=hc;have Rh:=(Jq c).1.1 JE;have cI:=ζ (fun W=>KD W c);generalize Lib.indexByte [42,43,63] c = ki at *
   have aul:¬ki<0:=ω;have htp:fE s b (x1,x2)=((if c = 63 then (if c = 43 then bg x2 (b.aS.length+1) (bg b.aS.length x1 (aW (aW (aK b)))) else bg b.aS.length (b.aS.length+1) (bg x2 (b.aS.length+1) (bg b.aS.length x1 (aW (aW (aK b)))))) else bg x2 x1 (if c = 43 then bg x2 (b.aS.length+1) (bg b.aS.length x1 (aW (aW (aK b)))) else bg b.aS.length (b.aS.length+1) (bg x2 (b.aS.length+1) (bg b.aS.length x1 (aW (aW (aK b))))))),(b.aS.length,b.aS.length+1)):=by
    unfold fE;rw[hp];simp only[JE,if_true]
   have sZ:Hid (∀t∈[358],t∈TB):=ζ (by intro t ht;simp[TB] at *;exact .inl ht);replace htp:=ζ htp;replace Rh:=ζ Rh;have hx1:=hx.1;have hx2:=hx.2;unfold dI;go_enter Tryz.func273,Tryz.ntmps273
   go_wp2_with fail;refine (eH h.o).mono ?_;rintro e w1 ⟨rfl,dh⟩;replace h:=ζ (h.o.grows dh);replace hG:=ζ (hG.o.trans (ay.grows dh hb.o));replace hb:=ζ (Nat.le_trans hb.o dh.size);(try replace aI:=ζ (aI.o.grows dh))
   (try replace hX:=ζ (hX.o.grows dh))
   (try replace hP:=ζ (hP.o.grows dh))
   (try replace hR:=ζ (hR.o.grows dh))
   clear dh;rw[oQ];clear oQ;go_wp2_with fail;refine (cI.out _).mono ?_;rintro e wI ⟨rfl,hwI⟩;replace hwI:=hwI.symm;subst hwI;generalize w.heap.size=gX at *
   generalize gX+1=gR at *
   have c1:w1.cell? ⟨gB,1,none⟩=some (.int .i64 ((b).at_:Int)):=(h.o.blk.cell 1).trans rfl;have f1:=h.o.blk.frozen 1;have l1:=h.o.blk.lt;have i1: -9223372036854775808≤((b).at_:Int)+1∧((b).at_:Int)+1≤9223372036854775807:=by first | omega | (simp only[aK];omega)
   have hA:=ζ h.o.Nh;have nC:=ζ (hG.o.trans ((ay.own h.o (aj w1 ⟨gB,1,none⟩ (.int .i64 (((b).at_:Int)+1)))).mono sZ.o));have hsz:Hid ((w1.setCell ⟨gB,1,none⟩ (.int .i64 (((b).at_:Int)+1))).heap.size=w1.heap.size):=ζ σ;go_wp2_with fail;(try replace aI:=ζ (aI.o.tk (ay.own h.o (aj w1 ⟨gB,1,none⟩ (.int .i64 (((b).at_:Int)+1)))) δ))
   (try replace hX:=ζ ((ay.own h.o (aj w1 ⟨gB,1,none⟩ (.int .i64 (((b).at_:Int)+1)))).blk hX.o δ))
   (try replace hP:=ζ ((ay.own h.o (aj w1 ⟨gB,1,none⟩ (.int .i64 (((b).at_:Int)+1)))).blk hP.o δ))
   (try replace hR:=ζ ((ay.own h.o (aj w1 ⟨gB,1,none⟩ (.int .i64 (((b).at_:Int)+1)))).blk hR.o δ))
   clear c1 f1 l1 i1 h hG;generalize w1.setCell ⟨gB,1,none⟩ (.int .i64 (((b).at_:Int)+1))=w2 at *
   have h:=hA;have hG:=nC;clear hA nC;replace hb:=ζ (Nat.le_trans hb0.o hG.o.size);refine (vg h.o hb.o (by have:=jy (aK b);omega)).mono ?_;rintro e w3 ⟨rfl,sv3,h',dV⟩;replace h:=ζ h';clear h';(try replace hX:=ζ (dV.blk hX.o δ))
   (try replace hP:=ζ (dV.blk hP.o δ))
   (try replace hR:=ζ (dV.blk hR.o δ))
   replace hG:=ζ (hG.o.trans dV);replace hb:=ζ (Nat.le_trans hb0.o hG.o.size);clear dV;go_wp2_with fail;refine (vg h.o hb.o (by have:=jy (aW (aK b));have:=qW (aK b);omega)).mono ?_;rintro e w4 ⟨rfl,sv4,h',dV⟩;replace h:=ζ h';clear h';(try replace hX:=ζ (dV.blk hX.o δ))
   (try replace hP:=ζ (dV.blk hP.o δ))
   (try replace hR:=ζ (dV.blk hR.o δ))
   replace hG:=ζ (hG.o.trans dV);replace hb:=ζ (Nat.le_trans hb0.o hG.o.size);clear dV;rw[dZ,show (aK b).aS.length=b.aS.length from rfl];have hn:(aW (aW (aK b))).aS.length=b.aS.length+2:=by simp[aW,aK]
   have hcn:dY (aW (aW (aK b)))≤dY b + 2:=by rw[qW,qW,JX];omega
   generalize b.aS.length=N at *
   generalize Yf:aW (aW (aK b))=b0 at *
   replace Yf:=ζ Yf;(try clear PW);(try clear PV);(try clear Py);(try clear PU);(try clear PS)
   have PW:w4.cell? ⟨gX,0,none⟩=_:=hX.o.cell 0;have PV:w4.cell? ⟨gX,1,none⟩=_:=hX.o.cell 1;have PU:=hX.o.frozen 0;have PS:=hX.o.frozen 1;have Py:=hX.o.lt;go_wp2_with fail;clear PW PV PU PS Py;have hP:=aF.new w4 360 #[.int .i64 (N:Int),.int .i64 ((N:Int)+1)];have dN:ah w4 (w4.alloc (.cells #[.int .i64 (N:Int),.int .i64 ((N:Int)+1)] 360)):=(ah.refl _).alloc _;(try replace hX:=ζ (hX.o.grows dN))
   (try replace hR:=ζ (hR.o.grows dN))
   replace h:=ζ (h.o.grows dN);replace hG:=ζ (hG.o.trans (ay.grows dN hb.o));replace hb:=ζ (Nat.le_trans hb.o dN.size);clear dN;generalize w4.alloc (.cells #[.int .i64 (N:Int),.int .i64 ((N:Int)+1)] 360)=w5 at *
   generalize w4.heap.size=gP at *
   replace hP:=ζ hP;refine (pR h.o hb.o ω ω).mono ?_;rintro e w6 ⟨rfl,xs',h',dV⟩;replace h:=ζ h';clear h';(try replace hX:=ζ (dV.blk hX.o δ))
   (try replace hP:=ζ (dV.blk hP.o δ))
   (try replace hR:=ζ (dV.blk hR.o δ))
   replace hG:=ζ (hG.o.trans dV);replace hb:=ζ (Nat.le_trans hb0.o hG.o.size);clear dV;have hc6:=qX N x1 b0;(try clear PW);(try clear PV);(try clear Py);(try clear PU);(try clear PS)
   have PW:w6.cell? ⟨gX,0,none⟩=_:=hX.o.cell 0;have PV:w6.cell? ⟨gX,1,none⟩=_:=hX.o.cell 1;have PU:=hX.o.frozen 0;have PS:=hX.o.frozen 1;have Py:=hX.o.lt;(try clear rM);(try clear rJ);(try clear rF);(try clear su);(try clear r_)
   have rM:w6.cell? ⟨gP,0,none⟩=_:=hP.o.cell 0;have rJ:w6.cell? ⟨gP,1,none⟩=_:=hP.o.cell 1;have su:=hP.o.frozen 0;have r_:=hP.o.frozen 1;have rF:=hP.o.lt;go_wp2_with fail;refine (pR (i:=x2) (j:=N+1) h.o hb.o (by rw[dR];omega) ω).mono ?_;rintro e w7 ⟨rfl,xs7,h',dV⟩;clear PW PV PU PS Py;clear rM rJ su r_ rF;replace h:=ζ h';clear h';(try replace hX:=ζ (dV.blk hX.o δ))
   (try replace hP:=ζ (dV.blk hP.o δ))
   (try replace hR:=ζ (dV.blk hR.o δ))
   replace hG:=ζ (hG.o.trans dV);replace hb:=ζ (Nat.le_trans hb0.o hG.o.size);clear dV;have hc7:=qX x2 (N+1) (bg N x1 b0);have hn7:(bg x2 (N+1) (bg N x1 b0)).aS.length=N+2:=by rw[dR,dR,hn]
   generalize tN:bg x2 (N+1) (bg N x1 b0)=b7 at *
   replace tN:=ζ tN;rcases (Jq c).2 JE with rfl | rfl | rfl
   ·have Ia:fE s b (x1,x2)=(bg x2 x1 (bg N (N+1) b7),(N,N+1)):=htp.o;replace Ia:=ζ Ia;clear htp;(try clear rM);(try clear rJ);(try clear rF);(try clear su);(try clear r_)
    have rM:w7.cell? ⟨gP,0,none⟩=_:=hP.o.cell 0;have rJ:w7.cell? ⟨gP,1,none⟩=_:=hP.o.cell 1;have su:=hP.o.frozen 0;have r_:=hP.o.frozen 1;have rF:=hP.o.lt;go_wp2_with fail;refine (pR (i:=N) (j:=N+1) h.o hb.o ω ω).mono ?_;rintro e w8 ⟨rfl,xs8,h',dV⟩;clear rM rJ su r_ rF;replace h:=ζ h';clear h';(try replace hX:=ζ (dV.blk hX.o δ))
    (try replace hP:=ζ (dV.blk hP.o δ))
    (try replace hR:=ζ (dV.blk hR.o δ))
    replace hG:=ζ (hG.o.trans dV);replace hb:=ζ (Nat.le_trans hb0.o hG.o.size);clear dV;have hc8:=qX N (N+1) b7;(try clear PW);(try clear PV);(try clear Py);(try clear PU);(try clear PS)
    have PW:w8.cell? ⟨gX,0,none⟩=_:=hX.o.cell 0;have PV:w8.cell? ⟨gX,1,none⟩=_:=hX.o.cell 1;have PU:=hX.o.frozen 0;have PS:=hX.o.frozen 1;have Py:=hX.o.lt;go_wp2_with fail;refine (pR (i:=x2) (j:=x1) h.o hb.o (by rw[dR];omega) ω).mono ?_;rintro e w9 ⟨rfl,xs9,h',dV⟩;clear PW PV PU PS Py;replace h:=ζ h';clear h';(try replace hX:=ζ (dV.blk hX.o δ))
    (try replace hP:=ζ (dV.blk hP.o δ))
    (try replace hR:=ζ (dV.blk hR.o δ))
    replace hG:=ζ (hG.o.trans dV);replace hb:=ζ (Nat.le_trans hb0.o hG.o.size);clear dV;(try clear rM);(try clear rJ);(try clear rF);(try clear su);(try clear r_)
    have rM:w9.cell? ⟨gP,0,none⟩=_:=hP.o.cell 0;have rJ:w9.cell? ⟨gP,1,none⟩=_:=hP.o.cell 1;have su:=hP.o.frozen 0;have r_:=hP.o.frozen 1;have rF:=hP.o.lt;(try clear qc);(try clear pY);(try clear pI);(try clear pW);(try clear pV)
    have qc:w9.cell? ⟨gR,0,none⟩=_:=hR.o.cell 0;have pY:w9.cell? ⟨gR,1,none⟩=_:=hR.o.cell 1;have pW:=hR.o.frozen 0;have pV:=hR.o.frozen 1;have pI:=hR.o.lt;go_wp2;clear rM rJ su r_ rF;clear qc pY pW pV pI;clear hP hX;have jW:=hR.o.bD 0 (.int .i64 (N:Int));have oM:=jW.bD 1 (.int .i64 ((N:Int)+1));have rX:=(hG.o.dK (g:=gR) (i:=0) hgr.o hb0.o (.int .i64 (N:Int))).dK (g:=gR) (i:=1) hgr.o hb0.o (.int .i64 ((N:Int)+1));have yh:=(h.o.far hR.o δ (aj w9 ⟨gR,0,none⟩ (.int .i64 (N:Int)))).far jW δ (aj _ ⟨gR,1,none⟩ (.int .i64 ((N:Int)+1)));clear hR hG h jW;generalize (w9.setCell ⟨gR,0,none⟩ (.int .i64 (N:Int))).setCell ⟨gR,1,none⟩ (.int .i64 ((N:Int)+1))=w7 at *
    have e0:=oM.c0;have e1:=oM.c1;refine bodyPost_ret (v:=dI (N,N+1)) ?_ rfl ⟨?_,?_⟩
    ·simp[dI,results,Tryz.results273,go_sem,e0,e1]
    ·rw[Ia.o]
    ·rw[Ia.o];exact⟨_,_,yh,rX⟩
   ·have Ia:fE s b (x1,x2)=(bg x2 x1 b7,(N,N+1)):=htp.o;replace Ia:=ζ Ia;clear htp;(try clear PW);(try clear PV);(try clear Py);(try clear PU);(try clear PS)
    have PW:w7.cell? ⟨gX,0,none⟩=_:=hX.o.cell 0;have PV:w7.cell? ⟨gX,1,none⟩=_:=hX.o.cell 1;have PU:=hX.o.frozen 0;have PS:=hX.o.frozen 1;have Py:=hX.o.lt;go_wp2_with fail;refine (pR (i:=x2) (j:=x1) h.o hb.o ω ω).mono ?_;rintro e w9 ⟨rfl,xs9,h',dV⟩;clear PW PV PU PS Py;replace h:=ζ h';clear h';(try replace hX:=ζ (dV.blk hX.o δ))
    (try replace hP:=ζ (dV.blk hP.o δ))
    (try replace hR:=ζ (dV.blk hR.o δ))
    replace hG:=ζ (hG.o.trans dV);replace hb:=ζ (Nat.le_trans hb0.o hG.o.size);clear dV;(try clear rM);(try clear rJ);(try clear rF);(try clear su);(try clear r_)
    have rM:w9.cell? ⟨gP,0,none⟩=_:=hP.o.cell 0;have rJ:w9.cell? ⟨gP,1,none⟩=_:=hP.o.cell 1;have su:=hP.o.frozen 0;have r_:=hP.o.frozen 1;have rF:=hP.o.lt;(try clear qc);(try clear pY);(try clear pI);(try clear pW);(try clear pV)
    have qc:w9.cell? ⟨gR,0,none⟩=_:=hR.o.cell 0;have pY:w9.cell? ⟨gR,1,none⟩=_:=hR.o.cell 1;have pW:=hR.o.frozen 0;have pV:=hR.o.frozen 1;have pI:=hR.o.lt;go_wp2;clear rM rJ su r_ rF;clear qc pY pW pV pI;clear hP hX;have jW:=hR.o.bD 0 (.int .i64 (N:Int));have oM:=jW.bD 1 (.int .i64 ((N:Int)+1));have rX:=(hG.o.dK (g:=gR) (i:=0) hgr.o hb0.o (.int .i64 (N:Int))).dK (g:=gR) (i:=1) hgr.o hb0.o (.int .i64 ((N:Int)+1));have yh:=(h.o.far hR.o δ (aj w9 ⟨gR,0,none⟩ (.int .i64 (N:Int)))).far jW δ (aj _ ⟨gR,1,none⟩ (.int .i64 ((N:Int)+1)));clear hR hG h jW;generalize (w9.setCell ⟨gR,0,none⟩ (.int .i64 (N:Int))).setCell ⟨gR,1,none⟩ (.int .i64 ((N:Int)+1))=w7 at *
    have e0:=oM.c0;have e1:=oM.c1;refine bodyPost_ret (v:=dI (N,N+1)) ?_ rfl ⟨?_,?_⟩
    ·simp[dI,results,Tryz.results273,go_sem,e0,e1]
    ·rw[Ia.o]
    ·rw[Ia.o];exact⟨_,_,yh,rX⟩
   ·have Ia:fE s b (x1,x2)=(bg N (N+1) b7,(N,N+1)):=htp.o;replace Ia:=ζ Ia;clear htp;(try clear rM);(try clear rJ);(try clear rF);(try clear su);(try clear r_)
    have rM:w7.cell? ⟨gP,0,none⟩=_:=hP.o.cell 0;have rJ:w7.cell? ⟨gP,1,none⟩=_:=hP.o.cell 1;have su:=hP.o.frozen 0;have r_:=hP.o.frozen 1;have rF:=hP.o.lt;go_wp2_with fail;refine (pR (i:=N) (j:=N+1) h.o hb.o ω ω).mono ?_;rintro e w9 ⟨rfl,xs8,h',dV⟩;clear rM rJ su r_ rF;replace h:=ζ h';clear h';(try replace hX:=ζ (dV.blk hX.o δ))
    (try replace hP:=ζ (dV.blk hP.o δ))
    (try replace hR:=ζ (dV.blk hR.o δ))
    replace hG:=ζ (hG.o.trans dV);replace hb:=ζ (Nat.le_trans hb0.o hG.o.size);clear dV;(try clear rM);(try clear rJ);(try clear rF);(try clear su);(try clear r_)
    have rM:w9.cell? ⟨gP,0,none⟩=_:=hP.o.cell 0;have rJ:w9.cell? ⟨gP,1,none⟩=_:=hP.o.cell 1;have su:=hP.o.frozen 0;have r_:=hP.o.frozen 1;have rF:=hP.o.lt;(try clear qc);(try clear pY);(try clear pI);(try clear pW);(try clear pV)
    have qc:w9.cell? ⟨gR,0,none⟩=_:=hR.o.cell 0;have pY:w9.cell? ⟨gR,1,none⟩=_:=hR.o.cell 1;have pW:=hR.o.frozen 0;have pV:=hR.o.frozen 1;have pI:=hR.o.lt;go_wp2;clear rM rJ su r_ rF;clear qc pY pW pV pI;clear hP hX;have jW:=hR.o.bD 0 (.int .i64 (N:Int));have oM:=jW.bD 1 (.int .i64 ((N:Int)+1));have rX:=(hG.o.dK (g:=gR) (i:=0) hgr.o hb0.o (.int .i64 (N:Int))).dK (g:=gR) (i:=1) hgr.o hb0.o (.int .i64 ((N:Int)+1));have yh:=(h.o.far hR.o δ (aj w9 ⟨gR,0,none⟩ (.int .i64 (N:Int)))).far jW δ (aj _ ⟨gR,1,none⟩ (.int .i64 ((N:Int)+1)));clear hR hG h jW;generalize (w9.setCell ⟨gR,0,none⟩ (.int .i64 (N:Int))).setCell ⟨gR,1,none⟩ (.int .i64 ((N:Int)+1))=w7 at *
    have e0:=oM.c0;have e1:=oM.c1;refine bodyPost_ret (v:=dI (N,N+1)) ?_ rfl ⟨?_,?_⟩
    ·simp[dI,results,Tryz.results273,go_sem,e0,e1]
    ·rw[Ia.o]
    ·rw[Ia.o];exact⟨_,_,yh,rX⟩
  ·have Rh:¬0≤Lib.indexByte [42,43,63] c:=fun hh=>JE ((Jq c).1.2 hh)
   have cI:=ζ (fun W=>KD W c);have htp:fE s b (x1,x2)=(b,(x1,x2)):=by unfold fE;rw[hp];simp only[JE];rfl
   generalize Lib.indexByte [42,43,63] c = ki at *
   have aul:ki<0:=ω;rw[htp];clear hp htp Rh JE;unfold dI;go_enter Tryz.func273,Tryz.ntmps273
   go_wp2_with fail;refine (eH h.o).mono ?_;rintro e w1 ⟨rfl,dh⟩;replace h:=ζ (h.o.grows dh);replace hG:=ζ (hG.o.trans (ay.grows dh hb.o));replace hb:=ζ (Nat.le_trans hb.o dh.size);(try replace aI:=ζ (aI.o.grows dh))
   (try replace hX:=ζ (hX.o.grows dh))
   (try replace hP:=ζ (hP.o.grows dh))
   (try replace hR:=ζ (hR.o.grows dh))
   clear dh;rw[oQ];clear oQ;go_wp2_with fail;refine (cI.out _).mono ?_;rintro e wI ⟨rfl,hwI⟩;replace hwI:=hwI.symm;subst hwI;generalize w.heap.size=gX at *
   generalize gX+1=gR at *
   (try clear PW);(try clear PV);(try clear Py);(try clear PU);(try clear PS)
   have PW:w1.cell? ⟨gX,0,none⟩=_:=hX.o.cell 0;have PV:w1.cell? ⟨gX,1,none⟩=_:=hX.o.cell 1;have PU:=hX.o.frozen 0;have PS:=hX.o.frozen 1;have Py:=hX.o.lt;(try clear qc);(try clear pY);(try clear pI);(try clear pW);(try clear pV)
   have qc:w1.cell? ⟨gR,0,none⟩=_:=hR.o.cell 0;have pY:w1.cell? ⟨gR,1,none⟩=_:=hR.o.cell 1;have pW:=hR.o.frozen 0;have pV:=hR.o.frozen 1;have pI:=hR.o.lt;go_wp2;clear PW PV PU PS Py;clear qc pY pW pV pI;have jW:=hR.o.bD 0 (.int .i64 (x1:Int));have oM:=jW.bD 1 (.int .i64 (x2:Int));have rX:=(hG.o.dK (g:=gR) (i:=0) hgr.o hb0.o (.int .i64 (x1:Int))).dK (g:=gR) (i:=1) hgr.o hb0.o (.int .i64 (x2:Int));have yh:=(h.o.far hR.o δ (aj w1 ⟨gR,0,none⟩ (.int .i64 (x1:Int)))).far jW δ (aj _ ⟨gR,1,none⟩ (.int .i64 (x2:Int)));clear hR hG h jW;generalize (w1.setCell ⟨gR,0,none⟩ (.int .i64 (x1:Int))).setCell ⟨gR,1,none⟩ (.int .i64 (x2:Int))=w7 at *
   have e0:=oM.c0;have e1:=oM.c1;refine bodyPost_ret (v:=dI (x1,x2)) ?_ rfl ⟨?_,?_⟩
   ·simp[dI,results,Tryz.results273,go_sem,e0,e1]
   ·rfl
   ·exact⟨_,_,yh,rX⟩
end Go.Proofs.YtbhikkgpcmkonaaGreatDoor
namespace Go.Proofs.YtbhikkgpcmkonaaGreatDoor
open Go.RowKit
def TS:List TypeId:=385::TB
def jg (base gB:Nat) (s:List UInt8) (w:World) (r:PB×qw) (e:Ending) (w':World):Prop:=
 e =.returned (dI r.2)∧∃xs' ZE,jP w' base gB s r.1 xs' ZE∧ay TS base w w'
def YW (s:List UInt8) (sub:Option (PB→PB×qw)) (dp:Nat):Prop:=
 (sub=none→dp=8)∧∀f,sub=some f→dp<8∧∀(w:World) (base gB:Nat) (b:PB) (xs:List xH) (sv:Value),jP w base gB s b xs sv→base≤w.heap.size→b.at_≤s.length→dY b≤8*b.at_+53→
  Calls Tryz.prog 249 #[.pointer (some ⟨gB,0,none⟩),.int .i64 ((dp:Int)+1)] w (jg base gB s w (f b))
theorem KE:∀(l:List UInt8) (c:UInt8),-1≤Lib.indexByte l c∧(0≤Lib.indexByte l c↔c∈l)
 | [],c=>by simp[Lib.indexByte]
 | b ::l,c=>by
  have ih:=KE l c;unfold Lib.indexByte;by_cases h:b = c
  ·subst h;simp
  ·have hb:(b ==c)=false:=by simpa using h
   rw[hb];simp only[Bool.false_eq_true,if_false,List.mem_cons,Ne.symm h,false_or];by_cases h1:Lib.indexByte l c =-1
   ·rw[if_pos (by simp[h1])];rw[h1] at ih;exact⟨ω,ih.2⟩
   ·rw[if_neg (by simpa using h1)];refine⟨ω,?_⟩;rw[←ih.2];omega
theorem Xm (c:UInt8):aeF c = true↔0≤Lib.indexByte [42,43,63,124,40,41,91,93,92,46] c:=by
 rw[(KE _ c).2,aeF,decide_eq_true_eq]
theorem Oj (W:World) (c:UInt8):Calls Tryz.prog 211 #[.string {data:= #[42,43,63,124,40,41,91,93,92,46]},.int .u8 (c.toNat:Int)] W fun e w'=>e =.returned (.int .i64 (Lib.indexByte [42,43,63,124,40,41,91,93,92,46] c))∧w'=W:=by
 have:=Any.strings_IndexByte Tryz.UY {data:= #[42,43,63,124,40,41,91,93,92,46]} (c.toNat:Int) W;rw[show (c.toNat:Int).toNat.toUInt8=c by simp] at this;exact this
theorem jP.fresh {w:World} {base gB:Nat} {s:List UInt8} {b:PB} {xs:List xH} {sv:Value} (h:jP w base gB s b xs sv):∀x∈xs,x.pv≠.pointer (some ⟨w.heap.size,0,none⟩):=by
 intro x hx e;obtain⟨i,hi,rfl⟩:=List.mem_iff_getElem.1 hx;have hi2:i < b.aS.length:=by rw[←h.len];exact hi
 obtain⟨_,a2,_⟩:=h.st i xs[i] _ (List.getElem?_eq_getElem hi) (List.getElem?_eq_getElem hi2);generalize b.aS[i].set=o at *
 cases o with
 | none=>rw[a2] at e;cases e
 | some ws=>
  obtain⟨g,e1,e2,e3⟩:=a2;rw[e1] at e;injection e with e
  injection e with e
  injection e with e
  have:=e3.1.lt;omega
theorem agm {w:World} {base gB dp:Nat} {s:List UInt8} {b:PB} {c:UInt8} {sub:Option (PB→PB×qw)} {xs:List xH} {sv:Value} (zW:YW s sub dp) (hsp:Gq s 11 sub) (h:jP w base gB s b xs sv) (hb:base≤w.heap.size) (uf:s.length≤100) (hcs:s[b.at_]? = some c) (hc:dY b≤8*b.at_+61) (yY:c = 40) (XM:sub=none) :
 Calls Tryz.prog 274 #[.pointer (some ⟨gB,0,none⟩),.int .i64 (dp:Int)] w (jg base gB s w (b_ s sub c b)):=by
 have i40:(c.toNat:Int)=40:=by rw[yY];rfl
 obtain rfl:=zW.1 XM;subst XM;have SY:c.toNat<256:=c.toNat_lt;have qB:=ζ (jy b);have Bl:Hid ((aK b).at_≤s.length):=ζ (by have:=(List.getElem?_eq_some_iff.1 hcs).1;simp only[aK];omega);have hat:Hid (b_ s none c b = ku eY (bM 3 (aK b))):=ζ (by unfold b_;rw[if_pos yY]);clear yY hsp zW;have hlt:b.at_<s.length:=(List.getElem?_eq_some_iff.1 hcs).1;have sZ:Hid (∀t∈[358],t∈TS):=ζ (by intro t ht;simp[TS,TB] at *;exact .inr (.inl ht));have nS:Hid (∀t∈TB,t∈TS):=ζ (fun t ht=>List.mem_cons_of_mem _ ht);have hTK:Hid (∀t∈TC,t∈TS):=ζ (by intro t ht;simp[TS,TB,TC] at *;rcases ht with h | h;exact .inr (.inl h);exact .inl h);have hR:=aF.new w 360 #[.int .i64 0,.int .i64 0];have hg1:ah w (w.alloc (.cells #[.int .i64 0,.int .i64 0] 360)):=(ah.refl _).alloc _;replace hR:=ζ hR;have hG:=ζ (ay.grows (T:=TS) hg1 hb);replace h:=ζ (h.grows hg1);have hb0:Hid (BLe base w):=ζ hb;replace hb:=ζ (Nat.le_trans hb hg1.size);have hgr:Hid (GLe w w.heap.size):=ζ (Nat.le_refl _);have hci:((b.at_:Nat):Int)<(s.length:Int):=ω;have EL:∀h:b.at_<(⟨s.toArray⟩:ByteArray).size,(⟨s.toArray⟩:ByteArray)[b.at_]'h = c:=fun h=>by
  show s.toArray[b.at_]=c
  rw[List.getElem_toArray];exact (List.getElem?_eq_some_iff.1 hcs).2
 have c0:∀w',jP w' base gB s b xs sv→w'.cell? ⟨gB,0,none⟩=some (.string ⟨s.toArray⟩):=fun w' hh=>(hh.blk.cell 0).trans rfl
 have c1:∀w',jP w' base gB s b xs sv→w'.cell? ⟨gB,1,none⟩=some (.int .i64 (b.at_:Int)):=fun w' hh=>(hh.blk.cell 1).trans rfl
 replace c0:=c0 _ h.o;replace c1:=c1 _ h.o;have l1:=h.o.blk.lt;clear hg1;go_enter Tryz.func274,Tryz.ntmps274
 go_wp2_with fail;generalize w.alloc (.cells #[.int .i64 0,.int .i64 0] 360)=w0 at *
 generalize w.heap.size=gR at *
 refine aG κ ?_;refine rK (.range 10) 0 ?_;iterate 10 refine aC ?_
 refine aB ?_;refine aJ κ (fun wN hN hS=> ?_);clear c0 c1 l1;replace hR:=ζ (hR.o.grows hN);replace h:=ζ (h.o.grows hN);replace hG:=ζ (hG.o.trans (ay.grows hN hb.o));replace hb:=ζ (Nat.le_trans hb.o hN.size);clear hN hS;have c1:wN.cell? ⟨gB,1,none⟩=some (.int .i64 ((b).at_:Int)):=(h.o.blk.cell 1).trans rfl;have f1:=h.o.blk.frozen 1;have l1:=h.o.blk.lt;have i1: -9223372036854775808≤((b).at_:Int)+1∧((b).at_:Int)+1≤9223372036854775807:=by first | omega | (simp only[aK];omega)
 have hA:=ζ h.o.Nh;have nC:=ζ (hG.o.trans ((ay.own h.o (aj wN ⟨gB,1,none⟩ (.int .i64 (((b).at_:Int)+1)))).mono sZ.o));have hsz:Hid ((wN.setCell ⟨gB,1,none⟩ (.int .i64 (((b).at_:Int)+1))).heap.size=wN.heap.size):=ζ σ;go_wp2_with fail;(try replace aI:=ζ (aI.o.tk (ay.own h.o (aj wN ⟨gB,1,none⟩ (.int .i64 (((b).at_:Int)+1)))) δ))
 (try replace hX:=ζ ((ay.own h.o (aj wN ⟨gB,1,none⟩ (.int .i64 (((b).at_:Int)+1)))).blk hX.o δ))
 (try replace hP:=ζ ((ay.own h.o (aj wN ⟨gB,1,none⟩ (.int .i64 (((b).at_:Int)+1)))).blk hP.o δ))
 (try replace hR:=ζ ((ay.own h.o (aj wN ⟨gB,1,none⟩ (.int .i64 (((b).at_:Int)+1)))).blk hR.o δ))
 clear c1 f1 l1 i1 h hG;generalize wN.setCell ⟨gB,1,none⟩ (.int .i64 (((b).at_:Int)+1))=w2 at *
 have h:=hA;have hG:=nC;clear hA nC;replace hb:=ζ (Nat.le_trans hb0.o hG.o.size);have aI:Hid (fB (w2.alloc (.cells #[.int .u64 0,.int .u64 0,.int .u64 0,.int .u64 0] 385)) w2.heap.size eY):=ζ ⟨aF.new w2 _ _,rfl,by intro x hx;simp[eY] at hx;omega⟩;have dN:ah w2 (w2.alloc (.cells #[.int .u64 0,.int .u64 0,.int .u64 0,.int .u64 0] 385)):=(ah.refl _).alloc _;have zY:=ζ h.o.fresh;have tK:=hb;replace hR:=ζ (hR.o.grows dN);replace h:=ζ (h.o.grows dN);replace hG:=ζ (hG.o.trans (ay.grows dN hb.o));replace hb:Hid (base≤(w2.alloc (.cells #[.int .u64 0,.int .u64 0,.int .u64 0,.int .u64 0] 385)).heap.size):=ζ (Nat.le_trans hb.o dN.size);clear dN;generalize w2.alloc (.cells #[.int .u64 0,.int .u64 0,.int .u64 0,.int .u64 0] 385)=w3 at *
 rw[hsz.o] at aI zY tK;clear hsz;generalize wN.heap.size=gS at *
 refine (jX h.o).mono ?_;rintro e w4 ⟨rfl,Yd,dP⟩;(try replace aI:=ζ (aI.o.tk (ay.own h.o dP) δ))
 (try replace hX:=ζ ((ay.own h.o dP).blk hX.o δ))
 (try replace hP:=ζ ((ay.own h.o dP).blk hP.o δ))
 (try replace hR:=ζ ((ay.own h.o dP).blk hR.o δ))
 replace hG:=ζ (hG.o.trans ((ay.own h.o dP).mono sZ.o));replace h:=ζ Yd;replace hb:=ζ (Nat.le_trans hb0.o hG.o.size);clear Yd dP;go_wp2_with fail;refine (zB h.o aI.o tK.o hb.o (by rw[fK];have:=qB.o;simp only[aK];omega)).mono ?_;rintro e wE ⟨rfl,xsE,svE,h',dV⟩;replace h:=ζ h';(try replace hX:=ζ ((dV.mono nS.o).blk hX.o δ))
 (try replace hP:=ζ ((dV.mono nS.o).blk hP.o δ))
 (try replace hR:=ζ ((dV.mono nS.o).blk hR.o δ))
 replace hG:=ζ (hG.o.trans (dV.mono nS.o));replace hb:=ζ (Nat.le_trans hb0.o hG.o.size);clear h' dV aI;generalize hr:ku eY (bM 3 (aK b))=r at *
 obtain⟨rb,p1,p2⟩:=r;simp only[dI];(try clear qc);(try clear pY);(try clear pI);(try clear pW);(try clear pV)
 have qc:wE.cell? ⟨gR,0,none⟩=_:=hR.o.cell 0;have pY:wE.cell? ⟨gR,1,none⟩=_:=hR.o.cell 1;have pW:=hR.o.frozen 0;have pV:=hR.o.frozen 1;have pI:=hR.o.lt;go_wp2;clear qc pY pW pV pI;have jW:=hR.o.bD 0 (.int .i64 (p1:Int));have oM:=jW.bD 1 (.int .i64 (p2:Int));have rX:=(hG.o.dK (g:=gR) (i:=0) hgr.o hb0.o (.int .i64 (p1:Int))).dK (g:=gR) (i:=1) hgr.o hb0.o (.int .i64 (p2:Int));have yh:=(h.o.far hR.o δ (aj wE ⟨gR,0,none⟩ (.int .i64 (p1:Int)))).far jW δ (aj _ ⟨gR,1,none⟩ (.int .i64 (p2:Int)));clear hR hG h jW;generalize (wE.setCell ⟨gR,0,none⟩ (.int .i64 (p1:Int))).setCell ⟨gR,1,none⟩ (.int .i64 (p2:Int))=w7 at *
 have e0:=oM.c0;have e1:=oM.c1;refine bodyPost_ret (v:=dI (p1,p2)) ?_ rfl ⟨?_,?_⟩
 ·simp[dI,results,Tryz.results274,go_sem,e0,e1]
 ·rw[hat.o]
 ·rw[hat.o];exact⟨_,_,yh,rX⟩
end Go.Proofs.YtbhikkgpcmkonaaGreatDoor
namespace Go.Proofs.YtbhikkgpcmkonaaGreatDoor
open Go.RowKit
theorem ab6 {w:World} {base gB dp:Nat} {s:List UInt8} {b:PB} {c:UInt8} {sub:Option (PB→PB×qw)} {xs:List xH} {sv:Value} (h:jP w base gB s b xs sv) (hb:base≤w.heap.size) (uf:s.length≤100) (hcs:s[b.at_]? = some c) (hc:dY b≤8*b.at_+61) (yY:¬c = 40) (GZ:c = 91) :
 Calls Tryz.prog 274 #[.pointer (some ⟨gB,0,none⟩),.int .i64 (dp:Int)] w (jg base gB s w (b_ s sub c b)):=by
 have i40:¬(c.toNat:Int)=40:=fun e=>yY (UInt8.toNat_inj.1 (by show c.toNat=40;omega))
 have i91:(c.toNat:Int)=91:=by rw[GZ];rfl
 have SY:c.toNat<256:=c.toNat_lt;have qB:=ζ (jy b);have Bl:Hid ((aK b).at_≤s.length):=ζ (by have:=(List.getElem?_eq_some_iff.1 hcs).1;simp only[aK];omega);have hat:Hid (b_ s sub c b = ku (nG s (aK b)).2 (nG s (aK b)).1):=ζ (by unfold b_;rw[if_neg yY,if_pos GZ]);clear yY GZ;have hlt:b.at_<s.length:=(List.getElem?_eq_some_iff.1 hcs).1;have sZ:Hid (∀t∈[358],t∈TS):=ζ (by intro t ht;simp[TS,TB] at *;exact .inr (.inl ht));have nS:Hid (∀t∈TB,t∈TS):=ζ (fun t ht=>List.mem_cons_of_mem _ ht);have hTK:Hid (∀t∈TC,t∈TS):=ζ (by intro t ht;simp[TS,TB,TC] at *;rcases ht with h | h;exact .inr (.inl h);exact .inl h);have hR:=aF.new w 360 #[.int .i64 0,.int .i64 0];have hg1:ah w (w.alloc (.cells #[.int .i64 0,.int .i64 0] 360)):=(ah.refl _).alloc _;replace hR:=ζ hR;have hG:=ζ (ay.grows (T:=TS) hg1 hb);replace h:=ζ (h.grows hg1);have hb0:Hid (BLe base w):=ζ hb;replace hb:=ζ (Nat.le_trans hb hg1.size);have hgr:Hid (GLe w w.heap.size):=ζ (Nat.le_refl _);have hci:((b.at_:Nat):Int)<(s.length:Int):=ω;have EL:∀h:b.at_<(⟨s.toArray⟩:ByteArray).size,(⟨s.toArray⟩:ByteArray)[b.at_]'h = c:=fun h=>by
  show s.toArray[b.at_]=c
  rw[List.getElem_toArray];exact (List.getElem?_eq_some_iff.1 hcs).2
 have c0:∀w',jP w' base gB s b xs sv→w'.cell? ⟨gB,0,none⟩=some (.string ⟨s.toArray⟩):=fun w' hh=>(hh.blk.cell 0).trans rfl
 have c1:∀w',jP w' base gB s b xs sv→w'.cell? ⟨gB,1,none⟩=some (.int .i64 (b.at_:Int)):=fun w' hh=>(hh.blk.cell 1).trans rfl
 replace c0:=c0 _ h.o;replace c1:=c1 _ h.o;have l1:=h.o.blk.lt;clear hg1;go_enter Tryz.func274,Tryz.ntmps274
 go_wp2_with fail;generalize w.alloc (.cells #[.int .i64 0,.int .i64 0] 360)=w0 at *
 generalize w.heap.size=gR at *
 refine aG κ ?_;refine rK (.range 10) 0 ?_;iterate 10 refine aC ?_
 refine aB ?_;refine aJ κ (fun wN hN hS=> ?_);clear c0 c1 l1;replace hR:=ζ (hR.o.grows hN);replace h:=ζ (h.o.grows hN);replace hG:=ζ (hG.o.trans (ay.grows hN hb.o));replace hb:=ζ (Nat.le_trans hb.o hN.size);clear hN hS;have c1:wN.cell? ⟨gB,1,none⟩=some (.int .i64 ((b).at_:Int)):=(h.o.blk.cell 1).trans rfl;have f1:=h.o.blk.frozen 1;have l1:=h.o.blk.lt;have i1: -9223372036854775808≤((b).at_:Int)+1∧((b).at_:Int)+1≤9223372036854775807:=by first | omega | (simp only[aK];omega)
 have hA:=ζ h.o.Nh;have nC:=ζ (hG.o.trans ((ay.own h.o (aj wN ⟨gB,1,none⟩ (.int .i64 (((b).at_:Int)+1)))).mono sZ.o));have hsz:Hid ((wN.setCell ⟨gB,1,none⟩ (.int .i64 (((b).at_:Int)+1))).heap.size=wN.heap.size):=ζ σ;go_wp2_with fail;(try replace aI:=ζ (aI.o.tk (ay.own h.o (aj wN ⟨gB,1,none⟩ (.int .i64 (((b).at_:Int)+1)))) δ))
 (try replace hX:=ζ ((ay.own h.o (aj wN ⟨gB,1,none⟩ (.int .i64 (((b).at_:Int)+1)))).blk hX.o δ))
 (try replace hP:=ζ ((ay.own h.o (aj wN ⟨gB,1,none⟩ (.int .i64 (((b).at_:Int)+1)))).blk hP.o δ))
 (try replace hR:=ζ ((ay.own h.o (aj wN ⟨gB,1,none⟩ (.int .i64 (((b).at_:Int)+1)))).blk hR.o δ))
 clear c1 f1 l1 i1 h hG;generalize wN.setCell ⟨gB,1,none⟩ (.int .i64 (((b).at_:Int)+1))=w2 at *
 have h:=hA;have hG:=nC;clear hA nC;replace hb:=ζ (Nat.le_trans hb0.o hG.o.size);have aI:Hid (fB (w2.alloc (.cells #[.int .u64 0,.int .u64 0,.int .u64 0,.int .u64 0] 385)) w2.heap.size eY):=ζ ⟨aF.new w2 _ _,rfl,by intro x hx;simp[eY] at hx;omega⟩;have dN:ah w2 (w2.alloc (.cells #[.int .u64 0,.int .u64 0,.int .u64 0,.int .u64 0] 385)):=(ah.refl _).alloc _;have zY:=ζ h.o.fresh;have tK:=hb;replace hR:=ζ (hR.o.grows dN);replace h:=ζ (h.o.grows dN);replace hG:=ζ (hG.o.trans (ay.grows dN hb.o));replace hb:Hid (base≤(w2.alloc (.cells #[.int .u64 0,.int .u64 0,.int .u64 0,.int .u64 0] 385)).heap.size):=ζ (Nat.le_trans hb.o dN.size);clear dN;generalize w2.alloc (.cells #[.int .u64 0,.int .u64 0,.int .u64 0,.int .u64 0] 385)=w3 at *
 rw[hsz.o] at aI zY tK;clear hsz;generalize wN.heap.size=gS at *
 refine (af9 h.o aI.o tK.o zY.o hb.o uf Bl.o).mono ?_;rintro e w4 ⟨rfl,h',hs',dV⟩;replace h:=ζ h';(try replace hX:=ζ ((dV.mono hTK.o).blk hX.o δ))
 (try replace hP:=ζ ((dV.mono hTK.o).blk hP.o δ))
 (try replace hR:=ζ ((dV.mono hTK.o).blk hR.o δ))
 replace hG:=ζ (hG.o.trans (dV.mono hTK.o));replace hb:=ζ (Nat.le_trans hb0.o hG.o.size);replace aI:=ζ hs';clear h' dV hs';have hcs:=(Dt (s:=s) (b:=aK b) (WP.of_le Bl.o)).2.2;replace hcs:=ζ hcs;go_wp2_with fail;refine (zB h.o aI.o tK.o hb.o (by rw[hcs.o];have:=qB.o;simp only[aK];omega)).mono ?_;rintro e wE ⟨rfl,xsE,svE,h',dV⟩;replace h:=ζ h';(try replace hX:=ζ ((dV.mono nS.o).blk hX.o δ))
 (try replace hP:=ζ ((dV.mono nS.o).blk hP.o δ))
 (try replace hR:=ζ ((dV.mono nS.o).blk hR.o δ))
 replace hG:=ζ (hG.o.trans (dV.mono nS.o));replace hb:=ζ (Nat.le_trans hb0.o hG.o.size);clear h' dV aI;generalize hr:ku (nG s (aK b)).2 (nG s (aK b)).1=r at *
 obtain⟨rb,p1,p2⟩:=r;simp only[dI];(try clear qc);(try clear pY);(try clear pI);(try clear pW);(try clear pV)
 have qc:wE.cell? ⟨gR,0,none⟩=_:=hR.o.cell 0;have pY:wE.cell? ⟨gR,1,none⟩=_:=hR.o.cell 1;have pW:=hR.o.frozen 0;have pV:=hR.o.frozen 1;have pI:=hR.o.lt;go_wp2;clear qc pY pW pV pI;have jW:=hR.o.bD 0 (.int .i64 (p1:Int));have oM:=jW.bD 1 (.int .i64 (p2:Int));have rX:=(hG.o.dK (g:=gR) (i:=0) hgr.o hb0.o (.int .i64 (p1:Int))).dK (g:=gR) (i:=1) hgr.o hb0.o (.int .i64 (p2:Int));have yh:=(h.o.far hR.o δ (aj wE ⟨gR,0,none⟩ (.int .i64 (p1:Int)))).far jW δ (aj _ ⟨gR,1,none⟩ (.int .i64 (p2:Int)));clear hR hG h jW;generalize (wE.setCell ⟨gR,0,none⟩ (.int .i64 (p1:Int))).setCell ⟨gR,1,none⟩ (.int .i64 (p2:Int))=w7 at *
 have e0:=oM.c0;have e1:=oM.c1;refine bodyPost_ret (v:=dI (p1,p2)) ?_ rfl ⟨?_,?_⟩
 ·simp[dI,results,Tryz.results274,go_sem,e0,e1]
 ·rw[hat.o]
 ·rw[hat.o];exact⟨_,_,yh,rX⟩
end Go.Proofs.YtbhikkgpcmkonaaGreatDoor
namespace Go.Proofs.YtbhikkgpcmkonaaGreatDoor
open Go.RowKit
theorem akN {w:World} {base gB dp:Nat} {s:List UInt8} {b:PB} {c:UInt8} {sub:Option (PB→PB×qw)} {xs:List xH} {sv:Value} (h:jP w base gB s b xs sv) (hb:base≤w.heap.size) (uf:s.length≤100) (hcs:s[b.at_]? = some c) (hc:dY b≤8*b.at_+61) (yY:¬c = 40) (GZ:¬c = 91) (L6:c = 46) :
 Calls Tryz.prog 274 #[.pointer (some ⟨gB,0,none⟩),.int .i64 (dp:Int)] w (jg base gB s w (b_ s sub c b)):=by
 have i40:¬(c.toNat:Int)=40:=fun e=>yY (UInt8.toNat_inj.1 (by show c.toNat=40;omega))
 have i91:¬(c.toNat:Int)=91:=fun e=>GZ (UInt8.toNat_inj.1 (by show c.toNat=91;omega))
 have i46:(c.toNat:Int)=46:=by rw[L6];rfl
 have SY:c.toNat<256:=c.toNat_lt;have qB:=ζ (jy b);have Bl:Hid ((aK b).at_≤s.length):=ζ (by have:=(List.getElem?_eq_some_iff.1 hcs).1;simp only[aK];omega);have hat:Hid (b_ s sub c b = ku (n_ eY) (aK b)):=ζ (by unfold b_;rw[if_neg yY,if_neg GZ,if_pos L6]);clear yY GZ L6;have hlt:b.at_<s.length:=(List.getElem?_eq_some_iff.1 hcs).1;have sZ:Hid (∀t∈[358],t∈TS):=ζ (by intro t ht;simp[TS,TB] at *;exact .inr (.inl ht));have nS:Hid (∀t∈TB,t∈TS):=ζ (fun t ht=>List.mem_cons_of_mem _ ht);have hTK:Hid (∀t∈TC,t∈TS):=ζ (by intro t ht;simp[TS,TB,TC] at *;rcases ht with h | h;exact .inr (.inl h);exact .inl h);have hR:=aF.new w 360 #[.int .i64 0,.int .i64 0];have hg1:ah w (w.alloc (.cells #[.int .i64 0,.int .i64 0] 360)):=(ah.refl _).alloc _;replace hR:=ζ hR;have hG:=ζ (ay.grows (T:=TS) hg1 hb);replace h:=ζ (h.grows hg1);have hb0:Hid (BLe base w):=ζ hb;replace hb:=ζ (Nat.le_trans hb hg1.size);have hgr:Hid (GLe w w.heap.size):=ζ (Nat.le_refl _);have hci:((b.at_:Nat):Int)<(s.length:Int):=ω;have EL:∀h:b.at_<(⟨s.toArray⟩:ByteArray).size,(⟨s.toArray⟩:ByteArray)[b.at_]'h = c:=fun h=>by
  show s.toArray[b.at_]=c
  rw[List.getElem_toArray];exact (List.getElem?_eq_some_iff.1 hcs).2
 have c0:∀w',jP w' base gB s b xs sv→w'.cell? ⟨gB,0,none⟩=some (.string ⟨s.toArray⟩):=fun w' hh=>(hh.blk.cell 0).trans rfl
 have c1:∀w',jP w' base gB s b xs sv→w'.cell? ⟨gB,1,none⟩=some (.int .i64 (b.at_:Int)):=fun w' hh=>(hh.blk.cell 1).trans rfl
 replace c0:=c0 _ h.o;replace c1:=c1 _ h.o;have l1:=h.o.blk.lt;clear hg1;go_enter Tryz.func274,Tryz.ntmps274
 go_wp2_with fail;generalize w.alloc (.cells #[.int .i64 0,.int .i64 0] 360)=w0 at *
 generalize w.heap.size=gR at *
 refine aG κ ?_;refine rK (.range 10) 0 ?_;iterate 10 refine aC ?_
 refine aB ?_;refine aJ κ (fun wN hN hS=> ?_);clear c0 c1 l1;replace hR:=ζ (hR.o.grows hN);replace h:=ζ (h.o.grows hN);replace hG:=ζ (hG.o.trans (ay.grows hN hb.o));replace hb:=ζ (Nat.le_trans hb.o hN.size);clear hN hS;have c1:wN.cell? ⟨gB,1,none⟩=some (.int .i64 ((b).at_:Int)):=(h.o.blk.cell 1).trans rfl;have f1:=h.o.blk.frozen 1;have l1:=h.o.blk.lt;have i1: -9223372036854775808≤((b).at_:Int)+1∧((b).at_:Int)+1≤9223372036854775807:=by first | omega | (simp only[aK];omega)
 have hA:=ζ h.o.Nh;have nC:=ζ (hG.o.trans ((ay.own h.o (aj wN ⟨gB,1,none⟩ (.int .i64 (((b).at_:Int)+1)))).mono sZ.o));have hsz:Hid ((wN.setCell ⟨gB,1,none⟩ (.int .i64 (((b).at_:Int)+1))).heap.size=wN.heap.size):=ζ σ;go_wp2_with fail;(try replace aI:=ζ (aI.o.tk (ay.own h.o (aj wN ⟨gB,1,none⟩ (.int .i64 (((b).at_:Int)+1)))) δ))
 (try replace hX:=ζ ((ay.own h.o (aj wN ⟨gB,1,none⟩ (.int .i64 (((b).at_:Int)+1)))).blk hX.o δ))
 (try replace hP:=ζ ((ay.own h.o (aj wN ⟨gB,1,none⟩ (.int .i64 (((b).at_:Int)+1)))).blk hP.o δ))
 (try replace hR:=ζ ((ay.own h.o (aj wN ⟨gB,1,none⟩ (.int .i64 (((b).at_:Int)+1)))).blk hR.o δ))
 clear c1 f1 l1 i1 h hG;generalize wN.setCell ⟨gB,1,none⟩ (.int .i64 (((b).at_:Int)+1))=w2 at *
 have h:=hA;have hG:=nC;clear hA nC;replace hb:=ζ (Nat.le_trans hb0.o hG.o.size);have aI:Hid (fB (w2.alloc (.cells #[.int .u64 0,.int .u64 0,.int .u64 0,.int .u64 0] 385)) w2.heap.size eY):=ζ ⟨aF.new w2 _ _,rfl,by intro x hx;simp[eY] at hx;omega⟩;have dN:ah w2 (w2.alloc (.cells #[.int .u64 0,.int .u64 0,.int .u64 0,.int .u64 0] 385)):=(ah.refl _).alloc _;have zY:=ζ h.o.fresh;have tK:=hb;replace hR:=ζ (hR.o.grows dN);replace h:=ζ (h.o.grows dN);replace hG:=ζ (hG.o.trans (ay.grows dN hb.o));replace hb:Hid (base≤(w2.alloc (.cells #[.int .u64 0,.int .u64 0,.int .u64 0,.int .u64 0] 385)).heap.size):=ζ (Nat.le_trans hb.o dN.size);clear dN;generalize w2.alloc (.cells #[.int .u64 0,.int .u64 0,.int .u64 0,.int .u64 0] 385)=w3 at *
 rw[hsz.o] at aI zY tK;clear hsz;generalize wN.heap.size=gS at *
 refine (WO aI.o).mono ?_;rintro e w4 ⟨rfl,B_,iG⟩;replace h:=ζ (h.o.uO aI.o zY.o iG);replace hR:=ζ ((ay.set aI.o tK.o iG).blk hR.o δ);replace hG:=ζ (hG.o.trans ((ay.set aI.o tK.o iG).mono hTK.o));replace hb:=ζ (Nat.le_trans hb0.o hG.o.size);replace aI:=ζ B_;clear B_ iG;go_wp2_with fail;refine (zB h.o aI.o tK.o hb.o (by have:=qB.o;simp only[aK];omega)).mono ?_;rintro e wE ⟨rfl,xsE,svE,h',dV⟩;replace h:=ζ h';(try replace hX:=ζ ((dV.mono nS.o).blk hX.o δ))
 (try replace hP:=ζ ((dV.mono nS.o).blk hP.o δ))
 (try replace hR:=ζ ((dV.mono nS.o).blk hR.o δ))
 replace hG:=ζ (hG.o.trans (dV.mono nS.o));replace hb:=ζ (Nat.le_trans hb0.o hG.o.size);clear h' dV aI;generalize hr:ku (n_ eY) (aK b)=r at *
 obtain⟨rb,p1,p2⟩:=r;simp only[dI];(try clear qc);(try clear pY);(try clear pI);(try clear pW);(try clear pV)
 have qc:wE.cell? ⟨gR,0,none⟩=_:=hR.o.cell 0;have pY:wE.cell? ⟨gR,1,none⟩=_:=hR.o.cell 1;have pW:=hR.o.frozen 0;have pV:=hR.o.frozen 1;have pI:=hR.o.lt;go_wp2;clear qc pY pW pV pI;have jW:=hR.o.bD 0 (.int .i64 (p1:Int));have oM:=jW.bD 1 (.int .i64 (p2:Int));have rX:=(hG.o.dK (g:=gR) (i:=0) hgr.o hb0.o (.int .i64 (p1:Int))).dK (g:=gR) (i:=1) hgr.o hb0.o (.int .i64 (p2:Int));have yh:=(h.o.far hR.o δ (aj wE ⟨gR,0,none⟩ (.int .i64 (p1:Int)))).far jW δ (aj _ ⟨gR,1,none⟩ (.int .i64 (p2:Int)));clear hR hG h jW;generalize (wE.setCell ⟨gR,0,none⟩ (.int .i64 (p1:Int))).setCell ⟨gR,1,none⟩ (.int .i64 (p2:Int))=w7 at *
 have e0:=oM.c0;have e1:=oM.c1;refine bodyPost_ret (v:=dI (p1,p2)) ?_ rfl ⟨?_,?_⟩
 ·simp[dI,results,Tryz.results274,go_sem,e0,e1]
 ·rw[hat.o]
 ·rw[hat.o];exact⟨_,_,yh,rX⟩
end Go.Proofs.YtbhikkgpcmkonaaGreatDoor
namespace Go.Proofs.YtbhikkgpcmkonaaGreatDoor
open Go.RowKit
theorem YP {w:World} {base gB dp:Nat} {s:List UInt8} {b:PB} {c:UInt8} {sub:Option (PB→PB×qw)} {xs:List xH} {sv:Value} (h:jP w base gB s b xs sv) (hb:base≤w.heap.size) (uf:s.length≤100) (hcs:s[b.at_]? = some c) (hc:dY b≤8*b.at_+61) (yY:¬c = 40) (GZ:¬c = 91) (L6:¬c = 46) (Tn:c = 92) (hp:Bf s (aK b)=none) :
 Calls Tryz.prog 274 #[.pointer (some ⟨gB,0,none⟩),.int .i64 (dp:Int)] w (jg base gB s w (b_ s sub c b)):=by
 have i40:¬(c.toNat:Int)=40:=fun e=>yY (UInt8.toNat_inj.1 (by show c.toNat=40;omega))
 have i91:¬(c.toNat:Int)=91:=fun e=>GZ (UInt8.toNat_inj.1 (by show c.toNat=91;omega))
 have i46:¬(c.toNat:Int)=46:=fun e=>L6 (UInt8.toNat_inj.1 (by show c.toNat=46;omega))
 have i92:(c.toNat:Int)=92:=by rw[Tn];rfl
 have SY:c.toNat<256:=c.toNat_lt;have qB:=ζ (jy b);have Bl:Hid ((aK b).at_≤s.length):=ζ (by have:=(List.getElem?_eq_some_iff.1 hcs).1;simp only[aK];omega);have hat:Hid (b_ s sub c b = ku (mM eY 0 0) (aK (bM 2 (aK b)))):=ζ (by unfold b_;rw[if_neg yY,if_neg GZ,if_neg L6,if_pos Tn,hp]);have oQ:wG s (aK b)=.tuple #[.int .u8 0,.bool false]:=by simp only[wG,hp]
 have X0:(bM 2 (aK b)).at_<100000:=by rw[dS];have:=Bl.o;omega
 clear yY GZ L6 Tn hp;have hlt:b.at_<s.length:=(List.getElem?_eq_some_iff.1 hcs).1;have sZ:Hid (∀t∈[358],t∈TS):=ζ (by intro t ht;simp[TS,TB] at *;exact .inr (.inl ht));have nS:Hid (∀t∈TB,t∈TS):=ζ (fun t ht=>List.mem_cons_of_mem _ ht);have hTK:Hid (∀t∈TC,t∈TS):=ζ (by intro t ht;simp[TS,TB,TC] at *;rcases ht with h | h;exact .inr (.inl h);exact .inl h);have hR:=aF.new w 360 #[.int .i64 0,.int .i64 0];have hg1:ah w (w.alloc (.cells #[.int .i64 0,.int .i64 0] 360)):=(ah.refl _).alloc _;replace hR:=ζ hR;have hG:=ζ (ay.grows (T:=TS) hg1 hb);replace h:=ζ (h.grows hg1);have hb0:Hid (BLe base w):=ζ hb;replace hb:=ζ (Nat.le_trans hb hg1.size);have hgr:Hid (GLe w w.heap.size):=ζ (Nat.le_refl _);have hci:((b.at_:Nat):Int)<(s.length:Int):=ω;have EL:∀h:b.at_<(⟨s.toArray⟩:ByteArray).size,(⟨s.toArray⟩:ByteArray)[b.at_]'h = c:=fun h=>by
  show s.toArray[b.at_]=c
  rw[List.getElem_toArray];exact (List.getElem?_eq_some_iff.1 hcs).2
 have c0:∀w',jP w' base gB s b xs sv→w'.cell? ⟨gB,0,none⟩=some (.string ⟨s.toArray⟩):=fun w' hh=>(hh.blk.cell 0).trans rfl
 have c1:∀w',jP w' base gB s b xs sv→w'.cell? ⟨gB,1,none⟩=some (.int .i64 (b.at_:Int)):=fun w' hh=>(hh.blk.cell 1).trans rfl
 replace c0:=c0 _ h.o;replace c1:=c1 _ h.o;have l1:=h.o.blk.lt;clear hg1;go_enter Tryz.func274,Tryz.ntmps274
 go_wp2_with fail;generalize w.alloc (.cells #[.int .i64 0,.int .i64 0] 360)=w0 at *
 generalize w.heap.size=gR at *
 refine aG κ ?_;refine rK (.range 10) 0 ?_;iterate 10 refine aC ?_
 refine aB ?_;refine aJ κ (fun wN hN hS=> ?_);clear c0 c1 l1;replace hR:=ζ (hR.o.grows hN);replace h:=ζ (h.o.grows hN);replace hG:=ζ (hG.o.trans (ay.grows hN hb.o));replace hb:=ζ (Nat.le_trans hb.o hN.size);clear hN hS;have c1:wN.cell? ⟨gB,1,none⟩=some (.int .i64 ((b).at_:Int)):=(h.o.blk.cell 1).trans rfl;have f1:=h.o.blk.frozen 1;have l1:=h.o.blk.lt;have i1: -9223372036854775808≤((b).at_:Int)+1∧((b).at_:Int)+1≤9223372036854775807:=by first | omega | (simp only[aK];omega)
 have hA:=ζ h.o.Nh;have nC:=ζ (hG.o.trans ((ay.own h.o (aj wN ⟨gB,1,none⟩ (.int .i64 (((b).at_:Int)+1)))).mono sZ.o));have hsz:Hid ((wN.setCell ⟨gB,1,none⟩ (.int .i64 (((b).at_:Int)+1))).heap.size=wN.heap.size):=ζ σ;go_wp2_with fail;(try replace aI:=ζ (aI.o.tk (ay.own h.o (aj wN ⟨gB,1,none⟩ (.int .i64 (((b).at_:Int)+1)))) δ))
 (try replace hX:=ζ ((ay.own h.o (aj wN ⟨gB,1,none⟩ (.int .i64 (((b).at_:Int)+1)))).blk hX.o δ))
 (try replace hP:=ζ ((ay.own h.o (aj wN ⟨gB,1,none⟩ (.int .i64 (((b).at_:Int)+1)))).blk hP.o δ))
 (try replace hR:=ζ ((ay.own h.o (aj wN ⟨gB,1,none⟩ (.int .i64 (((b).at_:Int)+1)))).blk hR.o δ))
 clear c1 f1 l1 i1 h hG;generalize wN.setCell ⟨gB,1,none⟩ (.int .i64 (((b).at_:Int)+1))=w2 at *
 have h:=hA;have hG:=nC;clear hA nC;replace hb:=ζ (Nat.le_trans hb0.o hG.o.size);have aI:Hid (fB (w2.alloc (.cells #[.int .u64 0,.int .u64 0,.int .u64 0,.int .u64 0] 385)) w2.heap.size eY):=ζ ⟨aF.new w2 _ _,rfl,by intro x hx;simp[eY] at hx;omega⟩;have dN:ah w2 (w2.alloc (.cells #[.int .u64 0,.int .u64 0,.int .u64 0,.int .u64 0] 385)):=(ah.refl _).alloc _;have zY:=ζ h.o.fresh;have tK:=hb;replace hR:=ζ (hR.o.grows dN);replace h:=ζ (h.o.grows dN);replace hG:=ζ (hG.o.trans (ay.grows dN hb.o));replace hb:Hid (base≤(w2.alloc (.cells #[.int .u64 0,.int .u64 0,.int .u64 0,.int .u64 0] 385)).heap.size):=ζ (Nat.le_trans hb.o dN.size);clear dN;generalize w2.alloc (.cells #[.int .u64 0,.int .u64 0,.int .u64 0,.int .u64 0] 385)=w3 at *
 rw[hsz.o] at aI zY tK;clear hsz;generalize wN.heap.size=gS at *
 go_wp2_with fail;refine (eH h.o).mono ?_;rintro e w4 ⟨rfl,dP⟩;replace h:=ζ (h.o.grows dP);replace hG:=ζ (hG.o.trans (ay.grows dP hb.o));replace hb:=ζ (Nat.le_trans hb.o dP.size);(try replace aI:=ζ (aI.o.grows dP))
 (try replace hX:=ζ (hX.o.grows dP))
 (try replace hP:=ζ (hP.o.grows dP))
 (try replace hR:=ζ (hR.o.grows dP))
 clear dP;rw[oQ];clear oQ;go_wp2_with fail;refine (jX h.o).mono ?_;rintro e w5 ⟨rfl,ajP,JI⟩;(try replace aI:=ζ (aI.o.tk (ay.own h.o JI) δ))
 (try replace hX:=ζ ((ay.own h.o JI).blk hX.o δ))
 (try replace hP:=ζ ((ay.own h.o JI).blk hP.o δ))
 (try replace hR:=ζ ((ay.own h.o JI).blk hR.o δ))
 replace hG:=ζ (hG.o.trans ((ay.own h.o JI).mono sZ.o));replace h:=ζ ajP;replace hb:=ζ (Nat.le_trans hb0.o hG.o.size);clear ajP JI;have c1:w5.cell? ⟨gB,1,none⟩=some (.int .i64 (((bM 2 (aK b))).at_:Int)):=(h.o.blk.cell 1).trans rfl;have f1:=h.o.blk.frozen 1;have l1:=h.o.blk.lt;have i1: -9223372036854775808≤(((bM 2 (aK b))).at_:Int)+1∧(((bM 2 (aK b))).at_:Int)+1≤9223372036854775807:=by first | omega | (simp only[aK];omega)
 have hA:=ζ h.o.Nh;have nC:=ζ (hG.o.trans ((ay.own h.o (aj w5 ⟨gB,1,none⟩ (.int .i64 ((((bM 2 (aK b))).at_:Int)+1)))).mono sZ.o));have hsz:Hid ((w5.setCell ⟨gB,1,none⟩ (.int .i64 ((((bM 2 (aK b))).at_:Int)+1))).heap.size=w5.heap.size):=ζ σ;go_wp2_with fail;(try replace aI:=ζ (aI.o.tk (ay.own h.o (aj w5 ⟨gB,1,none⟩ (.int .i64 ((((bM 2 (aK b))).at_:Int)+1)))) δ))
 (try replace hX:=ζ ((ay.own h.o (aj w5 ⟨gB,1,none⟩ (.int .i64 ((((bM 2 (aK b))).at_:Int)+1)))).blk hX.o δ))
 (try replace hP:=ζ ((ay.own h.o (aj w5 ⟨gB,1,none⟩ (.int .i64 ((((bM 2 (aK b))).at_:Int)+1)))).blk hP.o δ))
 (try replace hR:=ζ ((ay.own h.o (aj w5 ⟨gB,1,none⟩ (.int .i64 ((((bM 2 (aK b))).at_:Int)+1)))).blk hR.o δ))
 clear c1 f1 l1 i1 h hG;generalize w5.setCell ⟨gB,1,none⟩ (.int .i64 ((((bM 2 (aK b))).at_:Int)+1))=w6 at *
 have h:=hA;have hG:=nC;clear hA nC;replace hb:=ζ (Nat.le_trans hb0.o hG.o.size);have hz:=kL (lo:=0) (hi:=0) aI.o ω ω;rw[show ((0:Nat):Int)=0 from rfl] at hz;refine hz.mono ?_;clear hz;rintro e w7 ⟨rfl,B_,iG⟩;replace h:=ζ (h.o.uO aI.o zY.o iG);replace hR:=ζ ((ay.set aI.o tK.o iG).blk hR.o δ);replace hG:=ζ (hG.o.trans ((ay.set aI.o tK.o iG).mono hTK.o));replace hb:=ζ (Nat.le_trans hb0.o hG.o.size);replace aI:=ζ B_;clear B_ iG;go_wp2_with fail;refine (zB h.o aI.o tK.o hb.o (by have:=qB.o;simp only[aK];rw[fK];simp only;omega)).mono ?_;rintro e wE ⟨rfl,xsE,svE,h',dV⟩;replace h:=ζ h';(try replace hX:=ζ ((dV.mono nS.o).blk hX.o δ))
 (try replace hP:=ζ ((dV.mono nS.o).blk hP.o δ))
 (try replace hR:=ζ ((dV.mono nS.o).blk hR.o δ))
 replace hG:=ζ (hG.o.trans (dV.mono nS.o));replace hb:=ζ (Nat.le_trans hb0.o hG.o.size);clear h' dV aI;generalize hr:ku (mM eY 0 0) (aK (bM 2 (aK b)))=r at *
 obtain⟨rb,p1,p2⟩:=r;simp only[dI];(try clear qc);(try clear pY);(try clear pI);(try clear pW);(try clear pV)
 have qc:wE.cell? ⟨gR,0,none⟩=_:=hR.o.cell 0;have pY:wE.cell? ⟨gR,1,none⟩=_:=hR.o.cell 1;have pW:=hR.o.frozen 0;have pV:=hR.o.frozen 1;have pI:=hR.o.lt;go_wp2;clear qc pY pW pV pI;have jW:=hR.o.bD 0 (.int .i64 (p1:Int));have oM:=jW.bD 1 (.int .i64 (p2:Int));have rX:=(hG.o.dK (g:=gR) (i:=0) hgr.o hb0.o (.int .i64 (p1:Int))).dK (g:=gR) (i:=1) hgr.o hb0.o (.int .i64 (p2:Int));have yh:=(h.o.far hR.o δ (aj wE ⟨gR,0,none⟩ (.int .i64 (p1:Int)))).far jW δ (aj _ ⟨gR,1,none⟩ (.int .i64 (p2:Int)));clear hR hG h jW;generalize (wE.setCell ⟨gR,0,none⟩ (.int .i64 (p1:Int))).setCell ⟨gR,1,none⟩ (.int .i64 (p2:Int))=w7 at *
 have e0:=oM.c0;have e1:=oM.c1;refine bodyPost_ret (v:=dI (p1,p2)) ?_ rfl ⟨?_,?_⟩
 ·simp[dI,results,Tryz.results274,go_sem,e0,e1]
 ·rw[hat.o]
 ·rw[hat.o];exact⟨_,_,yh,rX⟩
end Go.Proofs.YtbhikkgpcmkonaaGreatDoor
namespace Go.Proofs.YtbhikkgpcmkonaaGreatDoor
open Go.RowKit
theorem ab4 {w:World} {base gB dp:Nat} {s:List UInt8} {b:PB} {c:UInt8} {sub:Option (PB→PB×qw)} {xs:List xH} {sv:Value} (h:jP w base gB s b xs sv) (hb:base≤w.heap.size) (uf:s.length≤100) (hcs:s[b.at_]? = some c) (hc:dY b≤8*b.at_+61) {d:UInt8} (yY:¬c = 40) (GZ:¬c = 91) (L6:¬c = 46) (Tn:c = 92) (hp:Bf s (aK b)=some d) :
 Calls Tryz.prog 274 #[.pointer (some ⟨gB,0,none⟩),.int .i64 (dp:Int)] w (jg base gB s w (b_ s sub c b)):=by
 have i40:¬(c.toNat:Int)=40:=fun e=>yY (UInt8.toNat_inj.1 (by show c.toNat=40;omega))
 have i91:¬(c.toNat:Int)=91:=fun e=>GZ (UInt8.toNat_inj.1 (by show c.toNat=91;omega))
 have i46:¬(c.toNat:Int)=46:=fun e=>L6 (UInt8.toNat_inj.1 (by show c.toNat=46;omega))
 have i92:(c.toNat:Int)=92:=by rw[Tn];rfl
 have SY:c.toNat<256:=c.toNat_lt;have qB:=ζ (jy b);have Bl:Hid ((aK b).at_≤s.length):=ζ (by have:=(List.getElem?_eq_some_iff.1 hcs).1;simp only[aK];omega);have aCf:d.toNat<256:=d.toNat_lt;have hat:Hid (b_ s sub c b = ku (mM eY d.toNat d.toNat) (aK (aK b))):=ζ (by unfold b_;rw[if_neg yY,if_neg GZ,if_neg L6,if_pos Tn,hp]);have oQ:wG s (aK b)=.tuple #[.int .u8 (d.toNat:Int),.bool true]:=by simp only[wG,hp]
 clear yY GZ L6 Tn hp;have hlt:b.at_<s.length:=(List.getElem?_eq_some_iff.1 hcs).1;have sZ:Hid (∀t∈[358],t∈TS):=ζ (by intro t ht;simp[TS,TB] at *;exact .inr (.inl ht));have nS:Hid (∀t∈TB,t∈TS):=ζ (fun t ht=>List.mem_cons_of_mem _ ht);have hTK:Hid (∀t∈TC,t∈TS):=ζ (by intro t ht;simp[TS,TB,TC] at *;rcases ht with h | h;exact .inr (.inl h);exact .inl h);have hR:=aF.new w 360 #[.int .i64 0,.int .i64 0];have hg1:ah w (w.alloc (.cells #[.int .i64 0,.int .i64 0] 360)):=(ah.refl _).alloc _;replace hR:=ζ hR;have hG:=ζ (ay.grows (T:=TS) hg1 hb);replace h:=ζ (h.grows hg1);have hb0:Hid (BLe base w):=ζ hb;replace hb:=ζ (Nat.le_trans hb hg1.size);have hgr:Hid (GLe w w.heap.size):=ζ (Nat.le_refl _);have hci:((b.at_:Nat):Int)<(s.length:Int):=ω;have EL:∀h:b.at_<(⟨s.toArray⟩:ByteArray).size,(⟨s.toArray⟩:ByteArray)[b.at_]'h = c:=fun h=>by
  show s.toArray[b.at_]=c
  rw[List.getElem_toArray];exact (List.getElem?_eq_some_iff.1 hcs).2
 have c0:∀w',jP w' base gB s b xs sv→w'.cell? ⟨gB,0,none⟩=some (.string ⟨s.toArray⟩):=fun w' hh=>(hh.blk.cell 0).trans rfl
 have c1:∀w',jP w' base gB s b xs sv→w'.cell? ⟨gB,1,none⟩=some (.int .i64 (b.at_:Int)):=fun w' hh=>(hh.blk.cell 1).trans rfl
 replace c0:=c0 _ h.o;replace c1:=c1 _ h.o;have l1:=h.o.blk.lt;clear hg1;go_enter Tryz.func274,Tryz.ntmps274
 go_wp2_with fail;generalize w.alloc (.cells #[.int .i64 0,.int .i64 0] 360)=w0 at *
 generalize w.heap.size=gR at *
 refine aG κ ?_;refine rK (.range 10) 0 ?_;iterate 10 refine aC ?_
 refine aB ?_;refine aJ κ (fun wN hN hS=> ?_);clear c0 c1 l1;replace hR:=ζ (hR.o.grows hN);replace h:=ζ (h.o.grows hN);replace hG:=ζ (hG.o.trans (ay.grows hN hb.o));replace hb:=ζ (Nat.le_trans hb.o hN.size);clear hN hS;have c1:wN.cell? ⟨gB,1,none⟩=some (.int .i64 ((b).at_:Int)):=(h.o.blk.cell 1).trans rfl;have f1:=h.o.blk.frozen 1;have l1:=h.o.blk.lt;have i1: -9223372036854775808≤((b).at_:Int)+1∧((b).at_:Int)+1≤9223372036854775807:=by first | omega | (simp only[aK];omega)
 have hA:=ζ h.o.Nh;have nC:=ζ (hG.o.trans ((ay.own h.o (aj wN ⟨gB,1,none⟩ (.int .i64 (((b).at_:Int)+1)))).mono sZ.o));have hsz:Hid ((wN.setCell ⟨gB,1,none⟩ (.int .i64 (((b).at_:Int)+1))).heap.size=wN.heap.size):=ζ σ;go_wp2_with fail;(try replace aI:=ζ (aI.o.tk (ay.own h.o (aj wN ⟨gB,1,none⟩ (.int .i64 (((b).at_:Int)+1)))) δ))
 (try replace hX:=ζ ((ay.own h.o (aj wN ⟨gB,1,none⟩ (.int .i64 (((b).at_:Int)+1)))).blk hX.o δ))
 (try replace hP:=ζ ((ay.own h.o (aj wN ⟨gB,1,none⟩ (.int .i64 (((b).at_:Int)+1)))).blk hP.o δ))
 (try replace hR:=ζ ((ay.own h.o (aj wN ⟨gB,1,none⟩ (.int .i64 (((b).at_:Int)+1)))).blk hR.o δ))
 clear c1 f1 l1 i1 h hG;generalize wN.setCell ⟨gB,1,none⟩ (.int .i64 (((b).at_:Int)+1))=w2 at *
 have h:=hA;have hG:=nC;clear hA nC;replace hb:=ζ (Nat.le_trans hb0.o hG.o.size);have aI:Hid (fB (w2.alloc (.cells #[.int .u64 0,.int .u64 0,.int .u64 0,.int .u64 0] 385)) w2.heap.size eY):=ζ ⟨aF.new w2 _ _,rfl,by intro x hx;simp[eY] at hx;omega⟩;have dN:ah w2 (w2.alloc (.cells #[.int .u64 0,.int .u64 0,.int .u64 0,.int .u64 0] 385)):=(ah.refl _).alloc _;have zY:=ζ h.o.fresh;have tK:=hb;replace hR:=ζ (hR.o.grows dN);replace h:=ζ (h.o.grows dN);replace hG:=ζ (hG.o.trans (ay.grows dN hb.o));replace hb:Hid (base≤(w2.alloc (.cells #[.int .u64 0,.int .u64 0,.int .u64 0,.int .u64 0] 385)).heap.size):=ζ (Nat.le_trans hb.o dN.size);clear dN;generalize w2.alloc (.cells #[.int .u64 0,.int .u64 0,.int .u64 0,.int .u64 0] 385)=w3 at *
 rw[hsz.o] at aI zY tK;clear hsz;generalize wN.heap.size=gS at *
 go_wp2_with fail;refine (eH h.o).mono ?_;rintro e w4 ⟨rfl,dP⟩;replace h:=ζ (h.o.grows dP);replace hG:=ζ (hG.o.trans (ay.grows dP hb.o));replace hb:=ζ (Nat.le_trans hb.o dP.size);(try replace aI:=ζ (aI.o.grows dP))
 (try replace hX:=ζ (hX.o.grows dP))
 (try replace hP:=ζ (hP.o.grows dP))
 (try replace hR:=ζ (hR.o.grows dP))
 clear dP;rw[oQ];clear oQ;have c1:w4.cell? ⟨gB,1,none⟩=some (.int .i64 (((aK b)).at_:Int)):=(h.o.blk.cell 1).trans rfl;have f1:=h.o.blk.frozen 1;have l1:=h.o.blk.lt;have i1: -9223372036854775808≤(((aK b)).at_:Int)+1∧(((aK b)).at_:Int)+1≤9223372036854775807:=by first | omega | (simp only[aK];omega)
 have hA:=ζ h.o.Nh;have nC:=ζ (hG.o.trans ((ay.own h.o (aj w4 ⟨gB,1,none⟩ (.int .i64 ((((aK b)).at_:Int)+1)))).mono sZ.o));have hsz:Hid ((w4.setCell ⟨gB,1,none⟩ (.int .i64 ((((aK b)).at_:Int)+1))).heap.size=w4.heap.size):=ζ σ;go_wp2_with fail;(try replace aI:=ζ (aI.o.tk (ay.own h.o (aj w4 ⟨gB,1,none⟩ (.int .i64 ((((aK b)).at_:Int)+1)))) δ))
 (try replace hX:=ζ ((ay.own h.o (aj w4 ⟨gB,1,none⟩ (.int .i64 ((((aK b)).at_:Int)+1)))).blk hX.o δ))
 (try replace hP:=ζ ((ay.own h.o (aj w4 ⟨gB,1,none⟩ (.int .i64 ((((aK b)).at_:Int)+1)))).blk hP.o δ))
 (try replace hR:=ζ ((ay.own h.o (aj w4 ⟨gB,1,none⟩ (.int .i64 ((((aK b)).at_:Int)+1)))).blk hR.o δ))
 clear c1 f1 l1 i1 h hG;generalize w4.setCell ⟨gB,1,none⟩ (.int .i64 ((((aK b)).at_:Int)+1))=w6 at *
 have h:=hA;have hG:=nC;clear hA nC;replace hb:=ζ (Nat.le_trans hb0.o hG.o.size);refine (kL (lo:=d.toNat) (hi:=d.toNat) aI.o ω ω).mono ?_;rintro e w7 ⟨rfl,B_,iG⟩;replace h:=ζ (h.o.uO aI.o zY.o iG);replace hR:=ζ ((ay.set aI.o tK.o iG).blk hR.o δ);replace hG:=ζ (hG.o.trans ((ay.set aI.o tK.o iG).mono hTK.o));replace hb:=ζ (Nat.le_trans hb0.o hG.o.size);replace aI:=ζ B_;clear B_ iG;go_wp2_with fail;refine (zB h.o aI.o tK.o hb.o (by have:=qB.o;simp only[aK];omega)).mono ?_;rintro e wE ⟨rfl,xsE,svE,h',dV⟩;replace h:=ζ h';(try replace hX:=ζ ((dV.mono nS.o).blk hX.o δ))
 (try replace hP:=ζ ((dV.mono nS.o).blk hP.o δ))
 (try replace hR:=ζ ((dV.mono nS.o).blk hR.o δ))
 replace hG:=ζ (hG.o.trans (dV.mono nS.o));replace hb:=ζ (Nat.le_trans hb0.o hG.o.size);clear h' dV aI;generalize hr:ku (mM eY d.toNat d.toNat) (aK (aK b))=r at *
 obtain⟨rb,p1,p2⟩:=r;simp only[dI];(try clear qc);(try clear pY);(try clear pI);(try clear pW);(try clear pV)
 have qc:wE.cell? ⟨gR,0,none⟩=_:=hR.o.cell 0;have pY:wE.cell? ⟨gR,1,none⟩=_:=hR.o.cell 1;have pW:=hR.o.frozen 0;have pV:=hR.o.frozen 1;have pI:=hR.o.lt;go_wp2;clear qc pY pW pV pI;have jW:=hR.o.bD 0 (.int .i64 (p1:Int));have oM:=jW.bD 1 (.int .i64 (p2:Int));have rX:=(hG.o.dK (g:=gR) (i:=0) hgr.o hb0.o (.int .i64 (p1:Int))).dK (g:=gR) (i:=1) hgr.o hb0.o (.int .i64 (p2:Int));have yh:=(h.o.far hR.o δ (aj wE ⟨gR,0,none⟩ (.int .i64 (p1:Int)))).far jW δ (aj _ ⟨gR,1,none⟩ (.int .i64 (p2:Int)));clear hR hG h jW;generalize (wE.setCell ⟨gR,0,none⟩ (.int .i64 (p1:Int))).setCell ⟨gR,1,none⟩ (.int .i64 (p2:Int))=w7 at *
 have e0:=oM.c0;have e1:=oM.c1;refine bodyPost_ret (v:=dI (p1,p2)) ?_ rfl ⟨?_,?_⟩
 ·simp[dI,results,Tryz.results274,go_sem,e0,e1]
 ·rw[hat.o]
 ·rw[hat.o];exact⟨_,_,yh,rX⟩
end Go.Proofs.YtbhikkgpcmkonaaGreatDoor
namespace Go.Proofs.YtbhikkgpcmkonaaGreatDoor
open Go.RowKit
theorem akM {w:World} {base gB dp:Nat} {s:List UInt8} {b:PB} {c:UInt8} {sub:Option (PB→PB×qw)} {xs:List xH} {sv:Value} (h:jP w base gB s b xs sv) (hb:base≤w.heap.size) (uf:s.length≤100) (hcs:s[b.at_]? = some c) (hc:dY b≤8*b.at_+61) (yY:¬c = 40) (GZ:¬c = 91) (L6:¬c = 46) (Tn:¬c = 92) (Q7:aeF c = true) :
 Calls Tryz.prog 274 #[.pointer (some ⟨gB,0,none⟩),.int .i64 (dp:Int)] w (jg base gB s w (b_ s sub c b)):=by
 have i40:¬(c.toNat:Int)=40:=fun e=>yY (UInt8.toNat_inj.1 (by show c.toNat=40;omega))
 have i91:¬(c.toNat:Int)=91:=fun e=>GZ (UInt8.toNat_inj.1 (by show c.toNat=91;omega))
 have i46:¬(c.toNat:Int)=46:=fun e=>L6 (UInt8.toNat_inj.1 (by show c.toNat=46;omega))
 have i92:¬(c.toNat:Int)=92:=fun e=>Tn (UInt8.toNat_inj.1 (by show c.toNat=92;omega))
 have cI:=ζ (fun W=>Oj W c);have SY:c.toNat<256:=c.toNat_lt;have qB:=ζ (jy b);have Bl:Hid ((aK b).at_≤s.length):=ζ (by have:=(List.getElem?_eq_some_iff.1 hcs).1;simp only[aK];omega);have Rh:=(Xm c).1 Q7;have hat:Hid (b_ s sub c b = ku eY (bM 2 (aK b))):=ζ (by unfold b_;rw[if_neg yY,if_neg GZ,if_neg L6,if_neg Tn,if_pos Q7]);clear yY GZ L6 Tn Q7;generalize Lib.indexByte [42,43,63,124,40,41,91,93,92,46] c = ki at *
 have hlt:b.at_<s.length:=(List.getElem?_eq_some_iff.1 hcs).1;have sZ:Hid (∀t∈[358],t∈TS):=ζ (by intro t ht;simp[TS,TB] at *;exact .inr (.inl ht));have nS:Hid (∀t∈TB,t∈TS):=ζ (fun t ht=>List.mem_cons_of_mem _ ht);have hTK:Hid (∀t∈TC,t∈TS):=ζ (by intro t ht;simp[TS,TB,TC] at *;rcases ht with h | h;exact .inr (.inl h);exact .inl h);have hR:=aF.new w 360 #[.int .i64 0,.int .i64 0];have hg1:ah w (w.alloc (.cells #[.int .i64 0,.int .i64 0] 360)):=(ah.refl _).alloc _;replace hR:=ζ hR;have hG:=ζ (ay.grows (T:=TS) hg1 hb);replace h:=ζ (h.grows hg1);have hb0:Hid (BLe base w):=ζ hb;replace hb:=ζ (Nat.le_trans hb hg1.size);have hgr:Hid (GLe w w.heap.size):=ζ (Nat.le_refl _);have hci:((b.at_:Nat):Int)<(s.length:Int):=ω;have EL:∀h:b.at_<(⟨s.toArray⟩:ByteArray).size,(⟨s.toArray⟩:ByteArray)[b.at_]'h = c:=fun h=>by
  show s.toArray[b.at_]=c
  rw[List.getElem_toArray];exact (List.getElem?_eq_some_iff.1 hcs).2
 have c0:∀w',jP w' base gB s b xs sv→w'.cell? ⟨gB,0,none⟩=some (.string ⟨s.toArray⟩):=fun w' hh=>(hh.blk.cell 0).trans rfl
 have c1:∀w',jP w' base gB s b xs sv→w'.cell? ⟨gB,1,none⟩=some (.int .i64 (b.at_:Int)):=fun w' hh=>(hh.blk.cell 1).trans rfl
 replace c0:=c0 _ h.o;replace c1:=c1 _ h.o;have l1:=h.o.blk.lt;clear hg1;go_enter Tryz.func274,Tryz.ntmps274
 go_wp2_with fail;generalize w.alloc (.cells #[.int .i64 0,.int .i64 0] 360)=w0 at *
 generalize w.heap.size=gR at *
 refine aG κ ?_;refine rK (.range 10) 0 ?_;iterate 10 refine aC ?_
 refine aB ?_;refine aJ κ (fun wN hN hS=> ?_);clear c0 c1 l1;replace hR:=ζ (hR.o.grows hN);replace h:=ζ (h.o.grows hN);replace hG:=ζ (hG.o.trans (ay.grows hN hb.o));replace hb:=ζ (Nat.le_trans hb.o hN.size);clear hN hS;have c1:wN.cell? ⟨gB,1,none⟩=some (.int .i64 ((b).at_:Int)):=(h.o.blk.cell 1).trans rfl;have f1:=h.o.blk.frozen 1;have l1:=h.o.blk.lt;have i1: -9223372036854775808≤((b).at_:Int)+1∧((b).at_:Int)+1≤9223372036854775807:=by first | omega | (simp only[aK];omega)
 have hA:=ζ h.o.Nh;have nC:=ζ (hG.o.trans ((ay.own h.o (aj wN ⟨gB,1,none⟩ (.int .i64 (((b).at_:Int)+1)))).mono sZ.o));have hsz:Hid ((wN.setCell ⟨gB,1,none⟩ (.int .i64 (((b).at_:Int)+1))).heap.size=wN.heap.size):=ζ σ;go_wp2_with fail;(try replace aI:=ζ (aI.o.tk (ay.own h.o (aj wN ⟨gB,1,none⟩ (.int .i64 (((b).at_:Int)+1)))) δ))
 (try replace hX:=ζ ((ay.own h.o (aj wN ⟨gB,1,none⟩ (.int .i64 (((b).at_:Int)+1)))).blk hX.o δ))
 (try replace hP:=ζ ((ay.own h.o (aj wN ⟨gB,1,none⟩ (.int .i64 (((b).at_:Int)+1)))).blk hP.o δ))
 (try replace hR:=ζ ((ay.own h.o (aj wN ⟨gB,1,none⟩ (.int .i64 (((b).at_:Int)+1)))).blk hR.o δ))
 clear c1 f1 l1 i1 h hG;generalize wN.setCell ⟨gB,1,none⟩ (.int .i64 (((b).at_:Int)+1))=w2 at *
 have h:=hA;have hG:=nC;clear hA nC;replace hb:=ζ (Nat.le_trans hb0.o hG.o.size);have aI:Hid (fB (w2.alloc (.cells #[.int .u64 0,.int .u64 0,.int .u64 0,.int .u64 0] 385)) w2.heap.size eY):=ζ ⟨aF.new w2 _ _,rfl,by intro x hx;simp[eY] at hx;omega⟩;have dN:ah w2 (w2.alloc (.cells #[.int .u64 0,.int .u64 0,.int .u64 0,.int .u64 0] 385)):=(ah.refl _).alloc _;have zY:=ζ h.o.fresh;have tK:=hb;replace hR:=ζ (hR.o.grows dN);replace h:=ζ (h.o.grows dN);replace hG:=ζ (hG.o.trans (ay.grows dN hb.o));replace hb:Hid (base≤(w2.alloc (.cells #[.int .u64 0,.int .u64 0,.int .u64 0,.int .u64 0] 385)).heap.size):=ζ (Nat.le_trans hb.o dN.size);clear dN;generalize w2.alloc (.cells #[.int .u64 0,.int .u64 0,.int .u64 0,.int .u64 0] 385)=w3 at *
 rw[hsz.o] at aI zY tK;clear hsz;generalize wN.heap.size=gS at *
 refine (cI.out _).mono ?_;rintro e wI ⟨rfl,hwI⟩;replace hwI:=hwI.symm;subst hwI;go_wp2_with fail;refine (jX h.o).mono ?_;rintro e w4 ⟨rfl,Yd,dP⟩;(try replace aI:=ζ (aI.o.tk (ay.own h.o dP) δ))
 (try replace hX:=ζ ((ay.own h.o dP).blk hX.o δ))
 (try replace hP:=ζ ((ay.own h.o dP).blk hP.o δ))
 (try replace hR:=ζ ((ay.own h.o dP).blk hR.o δ))
 replace hG:=ζ (hG.o.trans ((ay.own h.o dP).mono sZ.o));replace h:=ζ Yd;replace hb:=ζ (Nat.le_trans hb0.o hG.o.size);clear Yd dP;go_wp2_with fail;refine (zB h.o aI.o tK.o hb.o (by rw[fK];have:=qB.o;simp only[aK];omega)).mono ?_;rintro e wE ⟨rfl,xsE,svE,h',dV⟩;replace h:=ζ h';(try replace hX:=ζ ((dV.mono nS.o).blk hX.o δ))
 (try replace hP:=ζ ((dV.mono nS.o).blk hP.o δ))
 (try replace hR:=ζ ((dV.mono nS.o).blk hR.o δ))
 replace hG:=ζ (hG.o.trans (dV.mono nS.o));replace hb:=ζ (Nat.le_trans hb0.o hG.o.size);clear h' dV aI;generalize hr:ku eY (bM 2 (aK b))=r at *
 obtain⟨rb,p1,p2⟩:=r;simp only[dI];(try clear qc);(try clear pY);(try clear pI);(try clear pW);(try clear pV)
 have qc:wE.cell? ⟨gR,0,none⟩=_:=hR.o.cell 0;have pY:wE.cell? ⟨gR,1,none⟩=_:=hR.o.cell 1;have pW:=hR.o.frozen 0;have pV:=hR.o.frozen 1;have pI:=hR.o.lt;go_wp2;clear qc pY pW pV pI;have jW:=hR.o.bD 0 (.int .i64 (p1:Int));have oM:=jW.bD 1 (.int .i64 (p2:Int));have rX:=(hG.o.dK (g:=gR) (i:=0) hgr.o hb0.o (.int .i64 (p1:Int))).dK (g:=gR) (i:=1) hgr.o hb0.o (.int .i64 (p2:Int));have yh:=(h.o.far hR.o δ (aj wE ⟨gR,0,none⟩ (.int .i64 (p1:Int)))).far jW δ (aj _ ⟨gR,1,none⟩ (.int .i64 (p2:Int)));clear hR hG h jW;generalize (wE.setCell ⟨gR,0,none⟩ (.int .i64 (p1:Int))).setCell ⟨gR,1,none⟩ (.int .i64 (p2:Int))=w7 at *
 have e0:=oM.c0;have e1:=oM.c1;refine bodyPost_ret (v:=dI (p1,p2)) ?_ rfl ⟨?_,?_⟩
 ·simp[dI,results,Tryz.results274,go_sem,e0,e1]
 ·rw[hat.o]
 ·rw[hat.o];exact⟨_,_,yh,rX⟩
end Go.Proofs.YtbhikkgpcmkonaaGreatDoor
namespace Go.Proofs.YtbhikkgpcmkonaaGreatDoor
open Go.RowKit
theorem ab5 {w:World} {base gB dp:Nat} {s:List UInt8} {b:PB} {c:UInt8} {sub:Option (PB→PB×qw)} {xs:List xH} {sv:Value} (h:jP w base gB s b xs sv) (hb:base≤w.heap.size) (uf:s.length≤100) (hcs:s[b.at_]? = some c) (hc:dY b≤8*b.at_+61) (yY:¬c = 40) (GZ:¬c = 91) (L6:¬c = 46) (Tn:¬c = 92) (Q7:¬aeF c = true) :
 Calls Tryz.prog 274 #[.pointer (some ⟨gB,0,none⟩),.int .i64 (dp:Int)] w (jg base gB s w (b_ s sub c b)):=by
 have i40:¬(c.toNat:Int)=40:=fun e=>yY (UInt8.toNat_inj.1 (by show c.toNat=40;omega))
 have i91:¬(c.toNat:Int)=91:=fun e=>GZ (UInt8.toNat_inj.1 (by show c.toNat=91;omega))
 have i46:¬(c.toNat:Int)=46:=fun e=>L6 (UInt8.toNat_inj.1 (by show c.toNat=46;omega))
 have i92:¬(c.toNat:Int)=92:=fun e=>Tn (UInt8.toNat_inj.1 (by show c.toNat=92;omega))
 have cI:=ζ (fun W=>Oj W c);have SY:c.toNat<256:=c.toNat_lt;have qB:=ζ (jy b);have Bl:Hid ((aK b).at_≤s.length):=ζ (by have:=(List.getElem?_eq_some_iff.1 hcs).1;simp only[aK];omega);have Rh:¬0≤Lib.indexByte [42,43,63,124,40,41,91,93,92,46] c:=fun hh=>Q7 ((Xm c).2 hh)
 have hat:Hid (b_ s sub c b = ku (mM eY c.toNat c.toNat) (aK b)):=ζ (by unfold b_;rw[if_neg yY,if_neg GZ,if_neg L6,if_neg Tn,if_neg Q7]);clear yY GZ L6 Tn Q7;generalize Lib.indexByte [42,43,63,124,40,41,91,93,92,46] c = ki at *
 have aul:ki<0:=ω;have hlt:b.at_<s.length:=(List.getElem?_eq_some_iff.1 hcs).1;have sZ:Hid (∀t∈[358],t∈TS):=ζ (by intro t ht;simp[TS,TB] at *;exact .inr (.inl ht));have nS:Hid (∀t∈TB,t∈TS):=ζ (fun t ht=>List.mem_cons_of_mem _ ht);have hTK:Hid (∀t∈TC,t∈TS):=ζ (by intro t ht;simp[TS,TB,TC] at *;rcases ht with h | h;exact .inr (.inl h);exact .inl h);have hR:=aF.new w 360 #[.int .i64 0,.int .i64 0];have hg1:ah w (w.alloc (.cells #[.int .i64 0,.int .i64 0] 360)):=(ah.refl _).alloc _;replace hR:=ζ hR;have hG:=ζ (ay.grows (T:=TS) hg1 hb);replace h:=ζ (h.grows hg1);have hb0:Hid (BLe base w):=ζ hb;replace hb:=ζ (Nat.le_trans hb hg1.size);have hgr:Hid (GLe w w.heap.size):=ζ (Nat.le_refl _);have hci:((b.at_:Nat):Int)<(s.length:Int):=ω;have EL:∀h:b.at_<(⟨s.toArray⟩:ByteArray).size,(⟨s.toArray⟩:ByteArray)[b.at_]'h = c:=fun h=>by
  show s.toArray[b.at_]=c
  rw[List.getElem_toArray];exact (List.getElem?_eq_some_iff.1 hcs).2
 have c0:∀w',jP w' base gB s b xs sv→w'.cell? ⟨gB,0,none⟩=some (.string ⟨s.toArray⟩):=fun w' hh=>(hh.blk.cell 0).trans rfl
 have c1:∀w',jP w' base gB s b xs sv→w'.cell? ⟨gB,1,none⟩=some (.int .i64 (b.at_:Int)):=fun w' hh=>(hh.blk.cell 1).trans rfl
 replace c0:=c0 _ h.o;replace c1:=c1 _ h.o;have l1:=h.o.blk.lt;clear hg1;go_enter Tryz.func274,Tryz.ntmps274
 go_wp2_with fail;generalize w.alloc (.cells #[.int .i64 0,.int .i64 0] 360)=w0 at *
 generalize w.heap.size=gR at *
 refine aG κ ?_;refine rK (.range 10) 0 ?_;iterate 10 refine aC ?_
 refine aB ?_;refine aJ κ (fun wN hN hS=> ?_);clear c0 c1 l1;replace hR:=ζ (hR.o.grows hN);replace h:=ζ (h.o.grows hN);replace hG:=ζ (hG.o.trans (ay.grows hN hb.o));replace hb:=ζ (Nat.le_trans hb.o hN.size);clear hN hS;have c1:wN.cell? ⟨gB,1,none⟩=some (.int .i64 ((b).at_:Int)):=(h.o.blk.cell 1).trans rfl;have f1:=h.o.blk.frozen 1;have l1:=h.o.blk.lt;have i1: -9223372036854775808≤((b).at_:Int)+1∧((b).at_:Int)+1≤9223372036854775807:=by first | omega | (simp only[aK];omega)
 have hA:=ζ h.o.Nh;have nC:=ζ (hG.o.trans ((ay.own h.o (aj wN ⟨gB,1,none⟩ (.int .i64 (((b).at_:Int)+1)))).mono sZ.o));have hsz:Hid ((wN.setCell ⟨gB,1,none⟩ (.int .i64 (((b).at_:Int)+1))).heap.size=wN.heap.size):=ζ σ;go_wp2_with fail;(try replace aI:=ζ (aI.o.tk (ay.own h.o (aj wN ⟨gB,1,none⟩ (.int .i64 (((b).at_:Int)+1)))) δ))
 (try replace hX:=ζ ((ay.own h.o (aj wN ⟨gB,1,none⟩ (.int .i64 (((b).at_:Int)+1)))).blk hX.o δ))
 (try replace hP:=ζ ((ay.own h.o (aj wN ⟨gB,1,none⟩ (.int .i64 (((b).at_:Int)+1)))).blk hP.o δ))
 (try replace hR:=ζ ((ay.own h.o (aj wN ⟨gB,1,none⟩ (.int .i64 (((b).at_:Int)+1)))).blk hR.o δ))
 clear c1 f1 l1 i1 h hG;generalize wN.setCell ⟨gB,1,none⟩ (.int .i64 (((b).at_:Int)+1))=w2 at *
 have h:=hA;have hG:=nC;clear hA nC;replace hb:=ζ (Nat.le_trans hb0.o hG.o.size);have aI:Hid (fB (w2.alloc (.cells #[.int .u64 0,.int .u64 0,.int .u64 0,.int .u64 0] 385)) w2.heap.size eY):=ζ ⟨aF.new w2 _ _,rfl,by intro x hx;simp[eY] at hx;omega⟩;have dN:ah w2 (w2.alloc (.cells #[.int .u64 0,.int .u64 0,.int .u64 0,.int .u64 0] 385)):=(ah.refl _).alloc _;have zY:=ζ h.o.fresh;have tK:=hb;replace hR:=ζ (hR.o.grows dN);replace h:=ζ (h.o.grows dN);replace hG:=ζ (hG.o.trans (ay.grows dN hb.o));replace hb:Hid (base≤(w2.alloc (.cells #[.int .u64 0,.int .u64 0,.int .u64 0,.int .u64 0] 385)).heap.size):=ζ (Nat.le_trans hb.o dN.size);clear dN;generalize w2.alloc (.cells #[.int .u64 0,.int .u64 0,.int .u64 0,.int .u64 0] 385)=w3 at *
 rw[hsz.o] at aI zY tK;clear hsz;generalize wN.heap.size=gS at *
 refine (cI.out _).mono ?_;rintro e wI ⟨rfl,hwI⟩;replace hwI:=hwI.symm;subst hwI;go_wp2_with fail;refine (kL (lo:=c.toNat) (hi:=c.toNat) aI.o ω ω).mono ?_;rintro e w7 ⟨rfl,B_,iG⟩;replace h:=ζ (h.o.uO aI.o zY.o iG);replace hR:=ζ ((ay.set aI.o tK.o iG).blk hR.o δ);replace hG:=ζ (hG.o.trans ((ay.set aI.o tK.o iG).mono hTK.o));replace hb:=ζ (Nat.le_trans hb0.o hG.o.size);replace aI:=ζ B_;clear B_ iG;go_wp2_with fail;refine (zB h.o aI.o tK.o hb.o (by have:=qB.o;simp only[aK];omega)).mono ?_;rintro e wE ⟨rfl,xsE,svE,h',dV⟩;replace h:=ζ h';(try replace hX:=ζ ((dV.mono nS.o).blk hX.o δ))
 (try replace hP:=ζ ((dV.mono nS.o).blk hP.o δ))
 (try replace hR:=ζ ((dV.mono nS.o).blk hR.o δ))
 replace hG:=ζ (hG.o.trans (dV.mono nS.o));replace hb:=ζ (Nat.le_trans hb0.o hG.o.size);clear h' dV aI;generalize hr:ku (mM eY c.toNat c.toNat) (aK b)=r at *
 obtain⟨rb,p1,p2⟩:=r;simp only[dI];(try clear qc);(try clear pY);(try clear pI);(try clear pW);(try clear pV)
 have qc:wE.cell? ⟨gR,0,none⟩=_:=hR.o.cell 0;have pY:wE.cell? ⟨gR,1,none⟩=_:=hR.o.cell 1;have pW:=hR.o.frozen 0;have pV:=hR.o.frozen 1;have pI:=hR.o.lt;go_wp2;clear qc pY pW pV pI;have jW:=hR.o.bD 0 (.int .i64 (p1:Int));have oM:=jW.bD 1 (.int .i64 (p2:Int));have rX:=(hG.o.dK (g:=gR) (i:=0) hgr.o hb0.o (.int .i64 (p1:Int))).dK (g:=gR) (i:=1) hgr.o hb0.o (.int .i64 (p2:Int));have yh:=(h.o.far hR.o δ (aj wE ⟨gR,0,none⟩ (.int .i64 (p1:Int)))).far jW δ (aj _ ⟨gR,1,none⟩ (.int .i64 (p2:Int)));clear hR hG h jW;generalize (wE.setCell ⟨gR,0,none⟩ (.int .i64 (p1:Int))).setCell ⟨gR,1,none⟩ (.int .i64 (p2:Int))=w7 at *
 have e0:=oM.c0;have e1:=oM.c1;refine bodyPost_ret (v:=dI (p1,p2)) ?_ rfl ⟨?_,?_⟩
 ·simp[dI,results,Tryz.results274,go_sem,e0,e1]
 ·rw[hat.o]
 ·rw[hat.o];exact⟨_,_,yh,rX⟩
end Go.Proofs.YtbhikkgpcmkonaaGreatDoor
