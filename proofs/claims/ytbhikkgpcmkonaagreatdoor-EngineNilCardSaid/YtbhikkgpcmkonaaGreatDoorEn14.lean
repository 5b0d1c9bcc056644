/- Parts: Shelf3 PatK PatL PatLa PatLb PatLc PatLd PatLe PatLf -/
import Derived.Test.YtbhikkgpcmkonaaGreatDoorEn0
import Derived.Shelf.Small.Strs
import Derived.Test.YtbhikkgpcmkonaaGreatDoorProg
import Derived.Test.YtbhikkgpcmkonaaGreatDoorEn13
set_option maxRecDepth 100000
set_option maxHeartbeats 12800000
namespace Go.Proofs
open Go.Shelf
def Tryz.S9:Go.Shelf.Ren:=⟨fun | 137=>211 | 217=>237 | 266=>259 | n=>n,fun | 9=>9 | 5=>5 | 3=>3 | n=>n,fun | n=>n⟩
theorem Tryz.Qk:Go.Proofs.Lays.n137 Tryz.prog Tryz.S9:={
 mixed:=by kernel_rfl
 f137:=Tryz.func211.trans (congrArg some κ)
 f217:=Tryz.func237.trans (congrArg some κ)
 f266:=Tryz.func259.trans (congrArg some κ)
 t3:=Tryz.underlying3
 a3:=Tryz.isAgg3
 z3:=Tryz.sizeOf3
 v3:=Tryz.zeroValue3
 t5:=Tryz.underlying5
 a5:=Tryz.isAgg5
 z5:=Tryz.sizeOf5
 v5:=Tryz.zeroValue5
 t9:=Tryz.underlying9
 a9:=Tryz.isAgg9
 z9:=Tryz.sizeOf9
 v9:=Tryz.zeroValue9}
end Go.Proofs
namespace Go.Proofs.YtbhikkgpcmkonaaGreatDoor
open Go.RowKit
theorem oI (b:PB):dR (aT b)=dR b + 1:=by simp[dR,aT,lC,zC];omega
theorem oJ (i j:Nat) (b:PB):dR (aX i j b)≤dR b + 1:=by have:=DR b.dO i j;simp[aX,dR];omega
theorem FZ (b:PB):dR (aI b)=dR b:=rfl
theorem iH (b:PB):b.dO.length≤dR b:=by unfold dR;omega
theorem E_ (c:UInt8):(Sz c = true↔0≤Lib.indexByte [42,43,63] c)∧(Sz c = true→c = 42∨c = 43∨c = 63):=by
 unfold Sz;by_cases h1:c = 42
 ·subst h1;decide
 ·by_cases h2:c = 43
  ·subst h2;decide
  ·by_cases h3:c = 63
   ·subst h3;decide
   ·have e1:((42:UInt8)==c)=false:=by simpa using Ne.symm h1
    have e2:((43:UInt8)==c)=false:=by simpa using Ne.symm h2
    have e3:((63:UInt8)==c)=false:=by simpa using Ne.symm h3
    simp[Lib.indexByte,e1,e2,e3,h1,h2,h3]
theorem GH (W:World) (c:UInt8):Calls Tryz.prog 211 #[.string {data:= #[42,43,63]},.int .u8 (c.toNat:Int)] W fun e w'=>e =.returned (.int .i64 (Lib.indexByte [42,43,63] c))∧w'=W:=by
 have:=Any.strings_IndexByte Tryz.Qk {data:= #[42,43,63]} (c.toNat:Int) W;rw[show (c.toNat:Int).toNat.toUInt8=c by simp] at this;exact this
def BLe (base:Nat) (w:World):Prop:=base≤w.heap.size
def GLe (w:World) (g:Nat):Prop:=w.heap.size≤g
theorem Zu {w:World} {base gB:Nat} {s:List UInt8} {b:PB} {x:rD} {xs:List vP} {sv:Value} (h:jd w base gB s b xs sv) (hb:base≤w.heap.size) (hx:IL x b) (hat:b.at_<1000000) (hc:dR b < 100000000) :
 Calls Tryz.prog 273 #[.pointer (some ⟨gB,0,none⟩),dh x] w (U6 base gB s w (fB s b x)):=by
 obtain⟨x1,x2⟩:=x;have hX:=aF.new w 360 #[.int .i64 (x1:Int),.int .i64 (x2:Int)];have hg1:ah w (w.alloc (.cells #[.int .i64 (x1:Int),.int .i64 (x2:Int)] 360)):=(ah.refl _).alloc _;have hR:aF ((w.alloc (.cells #[.int .i64 (x1:Int),.int .i64 (x2:Int)] 360)).alloc (.cells #[.int .i64 0,.int .i64 0] 360)) (w.heap.size+1) 360 #[.int .i64 0,.int .i64 0]:=by
  have:=aF.new (w.alloc (.cells #[.int .i64 (x1:Int),.int .i64 (x2:Int)] 360)) 360 #[.int .i64 0,.int .i64 0];simpa using this
 have hg2:=hg1.alloc (.cells #[.int .i64 0,.int .i64 0] 360);replace hX:=ζ (hX.alloc (.cells #[.int .i64 0,.int .i64 0] 360));replace hR:=ζ hR;have hG:=ζ (au.grows (T:=TB) hg2 hb);replace h:=ζ (h.grows hg2);have hb0:Hid (BLe base w):=ζ hb;replace hb:=ζ (Nat.le_trans hb hg2.size);have hgr:Hid (GLe w (w.heap.size+1)):=ζ (Nat.le_succ _);clear hg1 hg2;cases hp:yc s b with
 | none=>
  have YF:fB s b (x1,x2)=(b,(x1,x2)):=by unfold fB;rw[hp]
  have nT:sW s b =.tuple #[.int .u8 0,.bool false]:=by simp only[sW,hp]
  rw[YF];clear hp YF;unfold dh;go_enter Tryz.func273,Tryz.ntmps273
  go_wp2_with fail;refine (dQ h.o).mono ?_;rintro e w1 ⟨rfl,bU⟩;replace h:=ζ (h.o.grows bU);replace hG:=ζ (hG.o.trans (au.grows bU hb.o));replace hb:=ζ (Nat.le_trans hb.o bU.size);(try replace aG:=ζ (aG.o.grows bU))
  (try replace hX:=ζ (hX.o.grows bU))
  (try replace hP:=ζ (hP.o.grows bU))
  (try replace hR:=ζ (hR.o.grows bU))
  clear bU;rw[nT];clear nT;generalize w.heap.size=gX at *
  generalize gX+1=gR at *
  (try clear Le);(try clear Ld);(try clear KY);(try clear Lc);(try clear La)
  have Le:w1.cell? ⟨gX,0,none⟩=_:=hX.o.cell 0;have Ld:w1.cell? ⟨gX,1,none⟩=_:=hX.o.cell 1;have Lc:=hX.o.frozen 0;have La:=hX.o.frozen 1;have KY:=hX.o.lt;(try clear nH);(try clear nG);(try clear mV);(try clear ny);(try clear ni)
  have nH:w1.cell? ⟨gR,0,none⟩=_:=hR.o.cell 0;have nG:w1.cell? ⟨gR,1,none⟩=_:=hR.o.cell 1;have ny:=hR.o.frozen 0;have ni:=hR.o.frozen 1;have mV:=hR.o.lt;go_wp2;clear Le Ld Lc La KY;clear nH nG ny ni mV;have jh:=hR.o.aW 0 (.int .i64 (x1:Int));have lX:=jh.aW 1 (.int .i64 (x2:Int));have pR:=(hG.o.dn (g:=gR) (i:=0) hgr.o hb0.o (.int .i64 (x1:Int))).dn (g:=gR) (i:=1) hgr.o hb0.o (.int .i64 (x2:Int));have uM:=(h.o.far hR.o δ (aj w1 ⟨gR,0,none⟩ (.int .i64 (x1:Int)))).far jh δ (aj _ ⟨gR,1,none⟩ (.int .i64 (x2:Int)));clear hR hG h jh;generalize (w1.setCell ⟨gR,0,none⟩ (.int .i64 (x1:Int))).setCell ⟨gR,1,none⟩ (.int .i64 (x2:Int))=w7 at *
  have e0:=lX.c0;have e1:=lX.c1;refine bodyPost_ret (v:=dh (x1,x2)) ?_ rfl ⟨?_,?_⟩
  ·simp[dh,results,Tryz.results273,go_sem,e0,e1]
  ·rfl
  ·exact⟨_,_,uM,pR⟩
 | some c=>
  have nT:sW s b =.tuple #[.int .u8 (c.toNat:Int),.bool true]:=by simp only[sW,hp]
  by_cases Nj:Sz c = true
  ·have awg:dR (aI b)<100000000:=hc;have Ns:=(E_ c).1.1 Nj;have cI:=ζ (fun W=>GH W c);generalize Lib.indexByte [42,43,63] c = ki at *
   have aoR:¬ki<0:=ω;have YF:fB s b (x1,x2)=((if c = 63 then (if c = 43 then aX x2 (b.dO.length+1) (aX b.dO.length x1 (aT (aT (aI b)))) else aX b.dO.length (b.dO.length+1) (aX x2 (b.dO.length+1) (aX b.dO.length x1 (aT (aT (aI b)))))) else aX x2 x1 (if c = 43 then aX x2 (b.dO.length+1) (aX b.dO.length x1 (aT (aT (aI b)))) else aX b.dO.length (b.dO.length+1) (aX x2 (b.dO.length+1) (aX b.dO.length x1 (aT (aT (aI b))))))),(b.dO.length,b.dO.length+1)):=by
    unfold fB;rw[hp];simp only[Nj,if_true]
   have qF:Hid (∀t∈[358],t∈TB):=ζ (by intro t ht;simp[TB] at *;exact .inl ht);replace YF:=ζ YF;replace Ns:=ζ Ns;have hx1:=hx.1;have hx2:=hx.2;unfold dh;go_enter Tryz.func273,Tryz.ntmps273
   go_wp2_with fail;refine (dQ h.o).mono ?_;rintro e w1 ⟨rfl,bU⟩;replace h:=ζ (h.o.grows bU);replace hG:=ζ (hG.o.trans (au.grows bU hb.o));replace hb:=ζ (Nat.le_trans hb.o bU.size);(try replace aG:=ζ (aG.o.grows bU))
   (try replace hX:=ζ (hX.o.grows bU))
   (try replace hP:=ζ (hP.o.grows bU))
   (try replace hR:=ζ (hR.o.grows bU))
   clear bU;rw[nT];clear nT;go_wp2_with fail;refine (cI.out _).mono ?_;rintro e wI ⟨rfl,Xg⟩;replace Xg:=Xg.symm;subst Xg;generalize w.heap.size=gX at *
   generalize gX+1=gR at *
   have c1:w1.cell? ⟨gB,1,none⟩=some (.int .i64 ((b).at_:Int)):=(h.o.blk.cell 1).trans rfl;have f1:=h.o.blk.frozen 1;have l1:=h.o.blk.lt;have i1: -9223372036854775808≤((b).at_:Int)+1∧((b).at_:Int)+1≤9223372036854775807:=by first | omega | (simp only[aI];omega)
   have hA:=ζ h.o.Jf;have kN:=ζ (hG.o.trans ((au.own h.o (aj w1 ⟨gB,1,none⟩ (.int .i64 (((b).at_:Int)+1)))).mono qF.o));have hsz:Hid ((w1.setCell ⟨gB,1,none⟩ (.int .i64 (((b).at_:Int)+1))).heap.size=w1.heap.size):=ζ σ;go_wp2_with fail;(try replace aG:=ζ (aG.o.tk (au.own h.o (aj w1 ⟨gB,1,none⟩ (.int .i64 (((b).at_:Int)+1)))) δ))
   (try replace hX:=ζ ((au.own h.o (aj w1 ⟨gB,1,none⟩ (.int .i64 (((b).at_:Int)+1)))).blk hX.o δ))
   (try replace hP:=ζ ((au.own h.o (aj w1 ⟨gB,1,none⟩ (.int .i64 (((b).at_:Int)+1)))).blk hP.o δ))
   (try replace hR:=ζ ((au.own h.o (aj w1 ⟨gB,1,none⟩ (.int .i64 (((b).at_:Int)+1)))).blk hR.o δ))
   clear c1 f1 l1 i1 h hG;generalize w1.setCell ⟨gB,1,none⟩ (.int .i64 (((b).at_:Int)+1))=w2 at *
   have h:=hA;have hG:=kN;clear hA kN;replace hb:=ζ (Nat.le_trans hb0.o hG.o.size);refine (rV h.o hb.o (by have:=iH (aI b);omega)).mono ?_;rintro e w3 ⟨rfl,sv3,h',dJ⟩;replace h:=ζ h';clear h';(try replace hX:=ζ (dJ.blk hX.o δ))
   (try replace hP:=ζ (dJ.blk hP.o δ))
   (try replace hR:=ζ (dJ.blk hR.o δ))
   replace hG:=ζ (hG.o.trans dJ);replace hb:=ζ (Nat.le_trans hb0.o hG.o.size);clear dJ;go_wp2_with fail;refine (rV h.o hb.o (by have:=iH (aT (aI b));have:=oI (aI b);omega)).mono ?_;rintro e w4 ⟨rfl,sv4,h',dJ⟩;replace h:=ζ h';clear h';(try replace hX:=ζ (dJ.blk hX.o δ))
   (try replace hP:=ζ (dJ.blk hP.o δ))
   (try replace hR:=ζ (dJ.blk hR.o δ))
   replace hG:=ζ (hG.o.trans dJ);replace hb:=ζ (Nat.le_trans hb0.o hG.o.size);clear dJ;rw[fM,show (aI b).dO.length=b.dO.length from rfl];have hn:(aT (aT (aI b))).dO.length=b.dO.length+2:=by simp[aT,aI]
   have hcn:dR (aT (aT (aI b)))≤dR b + 2:=by rw[oI,oI,FZ];omega
   generalize b.dO.length=N at *
   generalize hB0:aT (aT (aI b))=b0 at *
   replace hB0:=ζ hB0;(try clear Le);(try clear Ld);(try clear KY);(try clear Lc);(try clear La)
   have Le:w4.cell? ⟨gX,0,none⟩=_:=hX.o.cell 0;have Ld:w4.cell? ⟨gX,1,none⟩=_:=hX.o.cell 1;have Lc:=hX.o.frozen 0;have La:=hX.o.frozen 1;have KY:=hX.o.lt;go_wp2_with fail;clear Le Ld Lc La KY;have hP:=aF.new w4 360 #[.int .i64 (N:Int),.int .i64 ((N:Int)+1)];have dw:ah w4 (w4.alloc (.cells #[.int .i64 (N:Int),.int .i64 ((N:Int)+1)] 360)):=(ah.refl _).alloc _;(try replace hX:=ζ (hX.o.grows dw))
   (try replace hR:=ζ (hR.o.grows dw))
   replace h:=ζ (h.o.grows dw);replace hG:=ζ (hG.o.trans (au.grows dw hb.o));replace hb:=ζ (Nat.le_trans hb.o dw.size);clear dw;generalize w4.alloc (.cells #[.int .i64 (N:Int),.int .i64 ((N:Int)+1)] 360)=w5 at *
   generalize w4.heap.size=gP at *
   replace hP:=ζ hP;refine (m_ h.o hb.o ω ω).mono ?_;rintro e w6 ⟨rfl,xs',h',dJ⟩;replace h:=ζ h';clear h';(try replace hX:=ζ (dJ.blk hX.o δ))
   (try replace hP:=ζ (dJ.blk hP.o δ))
   (try replace hR:=ζ (dJ.blk hR.o δ))
   replace hG:=ζ (hG.o.trans dJ);replace hb:=ζ (Nat.le_trans hb0.o hG.o.size);clear dJ;have hc6:=oJ N x1 b0;(try clear Le);(try clear Ld);(try clear KY);(try clear Lc);(try clear La)
   have Le:w6.cell? ⟨gX,0,none⟩=_:=hX.o.cell 0;have Ld:w6.cell? ⟨gX,1,none⟩=_:=hX.o.cell 1;have Lc:=hX.o.frozen 0;have La:=hX.o.frozen 1;have KY:=hX.o.lt;(try clear o_);(try clear oZ);(try clear oQ);(try clear qc);(try clear pY)
   have o_:w6.cell? ⟨gP,0,none⟩=_:=hP.o.cell 0;have oZ:w6.cell? ⟨gP,1,none⟩=_:=hP.o.cell 1;have qc:=hP.o.frozen 0;have pY:=hP.o.frozen 1;have oQ:=hP.o.lt;go_wp2_with fail;refine (m_ (i:=x2) (j:=N+1) h.o hb.o (by rw[iF];omega) ω).mono ?_;rintro e w7 ⟨rfl,xs7,h',dJ⟩;clear Le Ld Lc La KY;clear o_ oZ qc pY oQ;replace h:=ζ h';clear h';(try replace hX:=ζ (dJ.blk hX.o δ))
   (try replace hP:=ζ (dJ.blk hP.o δ))
   (try replace hR:=ζ (dJ.blk hR.o δ))
   replace hG:=ζ (hG.o.trans dJ);replace hb:=ζ (Nat.le_trans hb0.o hG.o.size);clear dJ;have hc7:=oJ x2 (N+1) (aX N x1 b0);have hn7:(aX x2 (N+1) (aX N x1 b0)).dO.length=N+2:=by rw[iF,iF,hn]
   generalize yV:aX x2 (N+1) (aX N x1 b0)=b7 at *
   replace yV:=ζ yV;rcases (E_ c).2 Nj with rfl | rfl | rfl
   ·have Dt:fB s b (x1,x2)=(aX x2 x1 (aX N (N+1) b7),(N,N+1)):=YF.o;replace Dt:=ζ Dt;clear YF;(try clear o_);(try clear oZ);(try clear oQ);(try clear qc);(try clear pY)
    have o_:w7.cell? ⟨gP,0,none⟩=_:=hP.o.cell 0;have oZ:w7.cell? ⟨gP,1,none⟩=_:=hP.o.cell 1;have qc:=hP.o.frozen 0;have pY:=hP.o.frozen 1;have oQ:=hP.o.lt;go_wp2_with fail;refine (m_ (i:=N) (j:=N+1) h.o hb.o ω ω).mono ?_;rintro e w8 ⟨rfl,xs8,h',dJ⟩;clear o_ oZ qc pY oQ;replace h:=ζ h';clear h';(try replace hX:=ζ (dJ.blk hX.o δ))
    (try replace hP:=ζ (dJ.blk hP.o δ))
    (try replace hR:=ζ (dJ.blk hR.o δ))
    replace hG:=ζ (hG.o.trans dJ);replace hb:=ζ (Nat.le_trans hb0.o hG.o.size);clear dJ;have hc8:=oJ N (N+1) b7;(try clear Le);(try clear Ld);(try clear KY);(try clear Lc);(try clear La)
    have Le:w8.cell? ⟨gX,0,none⟩=_:=hX.o.cell 0;have Ld:w8.cell? ⟨gX,1,none⟩=_:=hX.o.cell 1;have Lc:=hX.o.frozen 0;have La:=hX.o.frozen 1;have KY:=hX.o.lt;go_wp2_with fail;refine (m_ (i:=x2) (j:=x1) h.o hb.o (by rw[iF];omega) ω).mono ?_;rintro e w9 ⟨rfl,xs9,h',dJ⟩;clear Le Ld Lc La KY;replace h:=ζ h';clear h';(try replace hX:=ζ (dJ.blk hX.o δ))
    (try replace hP:=ζ (dJ.blk hP.o δ))
    (try replace hR:=ζ (dJ.blk hR.o δ))
    replace hG:=ζ (hG.o.trans dJ);replace hb:=ζ (Nat.le_trans hb0.o hG.o.size);clear dJ;(try clear o_);(try clear oZ);(try clear oQ);(try clear qc);(try clear pY)
    have o_:w9.cell? ⟨gP,0,none⟩=_:=hP.o.cell 0;have oZ:w9.cell? ⟨gP,1,none⟩=_:=hP.o.cell 1;have qc:=hP.o.frozen 0;have pY:=hP.o.frozen 1;have oQ:=hP.o.lt;(try clear nH);(try clear nG);(try clear mV);(try clear ny);(try clear ni)
    have nH:w9.cell? ⟨gR,0,none⟩=_:=hR.o.cell 0;have nG:w9.cell? ⟨gR,1,none⟩=_:=hR.o.cell 1;have ny:=hR.o.frozen 0;have ni:=hR.o.frozen 1;have mV:=hR.o.lt;go_wp2;clear o_ oZ qc pY oQ;clear nH nG ny ni mV;clear hP hX;have jh:=hR.o.aW 0 (.int .i64 (N:Int));have lX:=jh.aW 1 (.int .i64 ((N:Int)+1));have pR:=(hG.o.dn (g:=gR) (i:=0) hgr.o hb0.o (.int .i64 (N:Int))).dn (g:=gR) (i:=1) hgr.o hb0.o (.int .i64 ((N:Int)+1));have uM:=(h.o.far hR.o δ (aj w9 ⟨gR,0,none⟩ (.int .i64 (N:Int)))).far jh δ (aj _ ⟨gR,1,none⟩ (.int .i64 ((N:Int)+1)));clear hR hG h jh;generalize (w9.setCell ⟨gR,0,none⟩ (.int .i64 (N:Int))).setCell ⟨gR,1,none⟩ (.int .i64 ((N:Int)+1))=w7 at *
    have e0:=lX.c0;have e1:=lX.c1;refine bodyPost_ret (v:=dh (N,N+1)) ?_ rfl ⟨?_,?_⟩
    ·simp[dh,results,Tryz.results273,go_sem,e0,e1]
    ·rw[Dt.o]
    ·rw[Dt.o];exact⟨_,_,uM,pR⟩
   ·have Dt:fB s b (x1,x2)=(aX x2 x1 b7,(N,N+1)):=YF.o;replace Dt:=ζ Dt;clear YF;(try clear Le);(try clear Ld);(try clear KY);(try clear Lc);(try clear La)
    have Le:w7.cell? ⟨gX,0,none⟩=_:=hX.o.cell 0;have Ld:w7.cell? ⟨gX,1,none⟩=_:=hX.o.cell 1;have Lc:=hX.o.frozen 0;have La:=hX.o.frozen 1;have KY:=hX.o.lt;go_wp2_with fail;refine (m_ (i:=x2) (j:=x1) h.o hb.o ω ω).mono ?_;rintro e w9 ⟨rfl,xs9,h',dJ⟩;clear Le Ld Lc La KY;replace h:=ζ h';clear h';(try replace hX:=ζ (dJ.blk hX.o δ))
    (try replace hP:=ζ (dJ.blk hP.o δ))
    (try replace hR:=ζ (dJ.blk hR.o δ))
    replace hG:=ζ (hG.o.trans dJ);replace hb:=ζ (Nat.le_trans hb0.o hG.o.size);clear dJ;(try clear o_);(try clear oZ);(try clear oQ);(try clear qc);(try clear pY)
    have o_:w9.cell? ⟨gP,0,none⟩=_:=hP.o.cell 0;have oZ:w9.cell? ⟨gP,1,none⟩=_:=hP.o.cell 1;have qc:=hP.o.frozen 0;have pY:=hP.o.frozen 1;have oQ:=hP.o.lt;(try clear nH);(try clear nG);(try clear mV);(try clear ny);(try clear ni)
    have nH:w9.cell? ⟨gR,0,none⟩=_:=hR.o.cell 0;have nG:w9.cell? ⟨gR,1,none⟩=_:=hR.o.cell 1;have ny:=hR.o.frozen 0;have ni:=hR.o.frozen 1;have mV:=hR.o.lt;go_wp2;clear o_ oZ qc pY oQ;clear nH nG ny ni mV;clear hP hX;have jh:=hR.o.aW 0 (.int .i64 (N:Int));have lX:=jh.aW 1 (.int .i64 ((N:Int)+1));have pR:=(hG.o.dn (g:=gR) (i:=0) hgr.o hb0.o (.int .i64 (N:Int))).dn (g:=gR) (i:=1) hgr.o hb0.o (.int .i64 ((N:Int)+1));have uM:=(h.o.far hR.o δ (aj w9 ⟨gR,0,none⟩ (.int .i64 (N:Int)))).far jh δ (aj _ ⟨gR,1,none⟩ (.int .i64 ((N:Int)+1)));clear hR hG h jh;generalize (w9.setCell ⟨gR,0,none⟩ (.int .i64 (N:Int))).setCell ⟨gR,1,none⟩ (.int .i64 ((N:Int)+1))=w7 at *
    have e0:=lX.c0;have e1:=lX.c1;refine bodyPost_ret (v:=dh (N,N+1)) ?_ rfl ⟨?_,?_⟩
    ·simp[dh,results,Tryz.results273,go_sem,e0,e1]
    ·rw[Dt.o]
    ·rw[Dt.o];exact⟨_,_,uM,pR⟩
   ·have Dt:fB s b (x1,x2)=(aX N (N+1) b7,(N,N+1)):=YF.o;replace Dt:=ζ Dt;clear YF;(try clear o_);(try clear oZ);(try clear oQ);(try clear qc);(try clear pY)
    have o_:w7.cell? ⟨gP,0,none⟩=_:=hP.o.cell 0;have oZ:w7.cell? ⟨gP,1,none⟩=_:=hP.o.cell 1;have qc:=hP.o.frozen 0;have pY:=hP.o.frozen 1;have oQ:=hP.o.lt;go_wp2_with fail;refine (m_ (i:=N) (j:=N+1) h.o hb.o ω ω).mono ?_;rintro e w9 ⟨rfl,xs8,h',dJ⟩;clear o_ oZ qc pY oQ;replace h:=ζ h';clear h';(try replace hX:=ζ (dJ.blk hX.o δ))
    (try replace hP:=ζ (dJ.blk hP.o δ))
    (try replace hR:=ζ (dJ.blk hR.o δ))
    replace hG:=ζ (hG.o.trans dJ);replace hb:=ζ (Nat.le_trans hb0.o hG.o.size);clear dJ;(try clear o_);(try clear oZ);(try clear oQ);(try clear qc);(try clear pY)
    have o_:w9.cell? ⟨gP,0,none⟩=_:=hP.o.cell 0;have oZ:w9.cell? ⟨gP,1,none⟩=_:=hP.o.cell 1;have qc:=hP.o.frozen 0;have pY:=hP.o.frozen 1;have oQ:=hP.o.lt;(try clear nH);(try clear nG);(try clear mV);(try clear ny);(try clear ni)
    have nH:w9.cell? ⟨gR,0,none⟩=_:=hR.o.cell 0;have nG:w9.cell? ⟨gR,1,none⟩=_:=hR.o.cell 1;have ny:=hR.o.frozen 0;have ni:=hR.o.frozen 1;have mV:=hR.o.lt;go_wp2;clear o_ oZ qc pY oQ;clear nH nG ny ni mV;clear hP hX;have jh:=hR.o.aW 0 (.int .i64 (N:Int));have lX:=jh.aW 1 (.int .i64 ((N:Int)+1));have pR:=(hG.o.dn (g:=gR) (i:=0) hgr.o hb0.o (.int .i64 (N:Int))).dn (g:=gR) (i:=1) hgr.o hb0.o (.int .i64 ((N:Int)+1));have uM:=(h.o.far hR.o δ (aj w9 ⟨gR,0,none⟩ (.int .i64 (N:Int)))).far jh δ (aj _ ⟨gR,1,none⟩ (.int .i64 ((N:Int)+1)));clear hR hG h jh;generalize (w9.setCell ⟨gR,0,none⟩ (.int .i64 (N:Int))).setCell ⟨gR,1,none⟩ (.int .i64 ((N:Int)+1))=w7 at *
    have e0:=lX.c0;have e1:=lX.c1;refine bodyPost_ret (v:=dh (N,N+1)) ?_ rfl ⟨?_,?_⟩
    ·simp[dh,results,Tryz.results273,go_sem,e0,e1]
    ·rw[Dt.o]
    ·rw[Dt.o];exact⟨_,_,uM,pR⟩
  ·have Ns:¬0≤Lib.indexByte [42,43,63] c:=fun hh=>Nj ((E_ c).1.2 hh)
   have cI:=ζ (fun W=>GH W c);have YF:fB s b (x1,x2)=(b,(x1,x2)):=by unfold fB;rw[hp];simp only[Nj];rfl
   generalize Lib.indexByte [42,43,63] c = ki at *
   have aoR:ki<0:=ω;rw[YF];clear hp YF Ns Nj;unfold dh;go_enter Tryz.func273,Tryz.ntmps273
   go_wp2_with fail;refine (dQ h.o).mono ?_;rintro e w1 ⟨rfl,bU⟩;replace h:=ζ (h.o.grows bU);replace hG:=ζ (hG.o.trans (au.grows bU hb.o));replace hb:=ζ (Nat.le_trans hb.o bU.size);(try replace aG:=ζ (aG.o.grows bU))
   (try replace hX:=ζ (hX.o.grows bU))
   (try replace hP:=ζ (hP.o.grows bU))
   (try replace hR:=ζ (hR.o.grows bU))
   clear bU;rw[nT];clear nT;go_wp2_with fail;refine (cI.out _).mono ?_;rintro e wI ⟨rfl,Xg⟩;replace Xg:=Xg.symm;subst Xg;generalize w.heap.size=gX at *
   generalize gX+1=gR at *
   (try clear Le);(try clear Ld);(try clear KY);(try clear Lc);(try clear La)
   have Le:w1.cell? ⟨gX,0,none⟩=_:=hX.o.cell 0;have Ld:w1.cell? ⟨gX,1,none⟩=_:=hX.o.cell 1;have Lc:=hX.o.frozen 0;have La:=hX.o.frozen 1;have KY:=hX.o.lt;(try clear nH);(try clear nG);(try clear mV);(try clear ny);(try clear ni)
   have nH:w1.cell? ⟨gR,0,none⟩=_:=hR.o.cell 0;have nG:w1.cell? ⟨gR,1,none⟩=_:=hR.o.cell 1;have ny:=hR.o.frozen 0;have ni:=hR.o.frozen 1;have mV:=hR.o.lt;go_wp2;clear Le Ld Lc La KY;clear nH nG ny ni mV;have jh:=hR.o.aW 0 (.int .i64 (x1:Int));have lX:=jh.aW 1 (.int .i64 (x2:Int));have pR:=(hG.o.dn (g:=gR) (i:=0) hgr.o hb0.o (.int .i64 (x1:Int))).dn (g:=gR) (i:=1) hgr.o hb0.o (.int .i64 (x2:Int));have uM:=(h.o.far hR.o δ (aj w1 ⟨gR,0,none⟩ (.int .i64 (x1:Int)))).far jh δ (aj _ ⟨gR,1,none⟩ (.int .i64 (x2:Int)));clear hR hG h jh;generalize (w1.setCell ⟨gR,0,none⟩ (.int .i64 (x1:Int))).setCell ⟨gR,1,none⟩ (.int .i64 (x2:Int))=w7 at *
   have e0:=lX.c0;have e1:=lX.c1;refine bodyPost_ret (v:=dh (x1,x2)) ?_ rfl ⟨?_,?_⟩
   ·simp[dh,results,Tryz.results273,go_sem,e0,e1]
   ·rfl
   ·exact⟨_,_,uM,pR⟩
end Go.Proofs.YtbhikkgpcmkonaaGreatDoor
namespace Go.Proofs.YtbhikkgpcmkonaaGreatDoor
open Go.RowKit
def TS:List TypeId:=385::TB
def gY (base gB:Nat) (s:List UInt8) (w:World) (r:PB×rD) (e:Ending) (w':World):Prop:=
 e =.returned (dh r.2)∧∃xs' Vy,jd w' base gB s r.1 xs' Vy∧au TS base w w'
def U3 (s:List UInt8) (sub:Option (PB→PB×rD)) (dp:Nat):Prop:=
 (sub=none→dp=8)∧∀f,sub=some f→dp<8∧∀(w:World) (base gB:Nat) (b:PB) (xs:List vP) (sv:Value),jd w base gB s b xs sv→base≤w.heap.size→b.at_≤s.length→dR b≤8*b.at_+53→
  Calls Tryz.prog 249 #[.pointer (some ⟨gB,0,none⟩),.int .i64 ((dp:Int)+1)] w (gY base gB s w (f b))
theorem GI:∀(l:List UInt8) (c:UInt8),-1≤Lib.indexByte l c∧(0≤Lib.indexByte l c↔c∈l)
 | [],c=>by simp[Lib.indexByte]
 | b ::l,c=>by
  have ih:=GI l c;unfold Lib.indexByte;by_cases h:b = c
  ·subst h;simp
  ·have hb:(b ==c)=false:=by simpa using h
   rw[hb];simp only[Bool.false_eq_true,if_false,List.mem_cons,Ne.symm h,false_or];by_cases h1:Lib.indexByte l c =-1
   ·rw[if_pos (by simp[h1])];rw[h1] at ih;exact⟨ω,ih.2⟩
   ·rw[if_neg (by simpa using h1)];refine⟨ω,?_⟩;rw[←ih.2];omega
theorem SH (c:UInt8):aaj c = true↔0≤Lib.indexByte [42,43,63,124,40,41,91,93,92,46] c:=by
 rw[(GI _ c).2,aaj,decide_eq_true_eq]
theorem JQ (W:World) (c:UInt8):Calls Tryz.prog 211 #[.string {data:= #[42,43,63,124,40,41,91,93,92,46]},.int .u8 (c.toNat:Int)] W fun e w'=>e =.returned (.int .i64 (Lib.indexByte [42,43,63,124,40,41,91,93,92,46] c))∧w'=W:=by
 have:=Any.strings_IndexByte Tryz.Qk {data:= #[42,43,63,124,40,41,91,93,92,46]} (c.toNat:Int) W;rw[show (c.toNat:Int).toNat.toUInt8=c by simp] at this;exact this
theorem jd.fresh {w:World} {base gB:Nat} {s:List UInt8} {b:PB} {xs:List vP} {sv:Value} (h:jd w base gB s b xs sv):∀x∈xs,x.pv≠.pointer (some ⟨w.heap.size,0,none⟩):=by
 intro x hx e;obtain⟨i,hi,rfl⟩:=List.mem_iff_getElem.1 hx;have hi2:i < b.dO.length:=by rw[←h.len];exact hi
 obtain⟨_,a2,_⟩:=h.st i xs[i] _ (List.getElem?_eq_getElem hi) (List.getElem?_eq_getElem hi2);generalize b.dO[i].set=o at *
 cases o with
 | none=>rw[a2] at e;cases e
 | some ws=>
  obtain⟨g,e1,e2,e3⟩:=a2;rw[e1] at e;injection e with e
  injection e with e
  injection e with e
  have:=e3.1.lt;omega
theorem abR {w:World} {base gB dp:Nat} {s:List UInt8} {b:PB} {c:UInt8} {sub:Option (PB→PB×rD)} {xs:List vP} {sv:Value} (wV:U3 s sub dp) (hsp:KQ s 11 sub) (h:jd w base gB s b xs sv) (hb:base≤w.heap.size) (xR:s.length≤100) (hcs:s[b.at_]? = some c) (hc:dR b≤8*b.at_+61) (vU:c = 40) (YH:sub=none) :
 Calls Tryz.prog 274 #[.pointer (some ⟨gB,0,none⟩),.int .i64 (dp:Int)] w (gY base gB s w (bW s sub c b)):=by
 have i40:(c.toNat:Int)=40:=by rw[vU];rfl
 obtain rfl:=wV.1 YH;subst YH;have OB:c.toNat<256:=c.toNat_lt;have rZ:=ζ (iH b);have AQ:Hid ((aI b).at_≤s.length):=ζ (by have:=(List.getElem?_eq_some_iff.1 hcs).1;simp only[aI];omega);have hat:Hid (bW s none c b = jy dU (aZ 3 (aI b))):=ζ (by unfold bW;rw[if_pos vU]);clear vU hsp wV;have hlt:b.at_<s.length:=(List.getElem?_eq_some_iff.1 hcs).1;have qF:Hid (∀t∈[358],t∈TS):=ζ (by intro t ht;simp[TS,TB] at *;exact .inr (.inl ht));have lq:Hid (∀t∈TB,t∈TS):=ζ (fun t ht=>List.mem_cons_of_mem _ ht);have Xy:Hid (∀t∈TC,t∈TS):=ζ (by intro t ht;simp[TS,TB,TC] at *;rcases ht with h | h;exact .inr (.inl h);exact .inl h);have hR:=aF.new w 360 #[.int .i64 0,.int .i64 0];have hg1:ah w (w.alloc (.cells #[.int .i64 0,.int .i64 0] 360)):=(ah.refl _).alloc _;replace hR:=ζ hR;have hG:=ζ (au.grows (T:=TS) hg1 hb);replace h:=ζ (h.grows hg1);have hb0:Hid (BLe base w):=ζ hb;replace hb:=ζ (Nat.le_trans hb hg1.size);have hgr:Hid (GLe w w.heap.size):=ζ (Nat.le_refl _);have hci:((b.at_:Nat):Int)<(s.length:Int):=ω;have zU:∀h:b.at_<(⟨s.toArray⟩:ByteArray).size,(⟨s.toArray⟩:ByteArray)[b.at_]'h = c:=fun h=>by
  show s.toArray[b.at_]=c
  rw[List.getElem_toArray];exact (List.getElem?_eq_some_iff.1 hcs).2
 have c0:∀w',jd w' base gB s b xs sv→w'.cell? ⟨gB,0,none⟩=some (.string ⟨s.toArray⟩):=fun w' hh=>(hh.blk.cell 0).trans rfl
 have c1:∀w',jd w' base gB s b xs sv→w'.cell? ⟨gB,1,none⟩=some (.int .i64 (b.at_:Int)):=fun w' hh=>(hh.blk.cell 1).trans rfl
 replace c0:=c0 _ h.o;replace c1:=c1 _ h.o;have l1:=h.o.blk.lt;clear hg1;go_enter Tryz.func274,Tryz.ntmps274
 go_wp2_with fail;generalize w.alloc (.cells #[.int .i64 0,.int .i64 0] 360)=w0 at *
 generalize w.heap.size=gR at *
 refine aH κ ?_;refine rK (.range 10) 0 ?_;iterate 10 refine aC ?_
 refine aB ?_;refine aJ κ (fun wN hN hS=> ?_);clear c0 c1 l1;replace hR:=ζ (hR.o.grows hN);replace h:=ζ (h.o.grows hN);replace hG:=ζ (hG.o.trans (au.grows hN hb.o));replace hb:=ζ (Nat.le_trans hb.o hN.size);clear hN hS;have c1:wN.cell? ⟨gB,1,none⟩=some (.int .i64 ((b).at_:Int)):=(h.o.blk.cell 1).trans rfl;have f1:=h.o.blk.frozen 1;have l1:=h.o.blk.lt;have i1: -9223372036854775808≤((b).at_:Int)+1∧((b).at_:Int)+1≤9223372036854775807:=by first | omega | (simp only[aI];omega)
 have hA:=ζ h.o.Jf;have kN:=ζ (hG.o.trans ((au.own h.o (aj wN ⟨gB,1,none⟩ (.int .i64 (((b).at_:Int)+1)))).mono qF.o));have hsz:Hid ((wN.setCell ⟨gB,1,none⟩ (.int .i64 (((b).at_:Int)+1))).heap.size=wN.heap.size):=ζ σ;go_wp2_with fail;(try replace aG:=ζ (aG.o.tk (au.own h.o (aj wN ⟨gB,1,none⟩ (.int .i64 (((b).at_:Int)+1)))) δ))
 (try replace hX:=ζ ((au.own h.o (aj wN ⟨gB,1,none⟩ (.int .i64 (((b).at_:Int)+1)))).blk hX.o δ))
 (try replace hP:=ζ ((au.own h.o (aj wN ⟨gB,1,none⟩ (.int .i64 (((b).at_:Int)+1)))).blk hP.o δ))
 (try replace hR:=ζ ((au.own h.o (aj wN ⟨gB,1,none⟩ (.int .i64 (((b).at_:Int)+1)))).blk hR.o δ))
 clear c1 f1 l1 i1 h hG;generalize wN.setCell ⟨gB,1,none⟩ (.int .i64 (((b).at_:Int)+1))=w2 at *
 have h:=hA;have hG:=kN;clear hA kN;replace hb:=ζ (Nat.le_trans hb0.o hG.o.size);have aG:Hid (dZ (w2.alloc (.cells #[.int .u64 0,.int .u64 0,.int .u64 0,.int .u64 0] 385)) w2.heap.size dU):=ζ ⟨aF.new w2 _ _,rfl,by intro x hx;simp[dU] at hx;omega⟩;have dw:ah w2 (w2.alloc (.cells #[.int .u64 0,.int .u64 0,.int .u64 0,.int .u64 0] 385)):=(ah.refl _).alloc _;have xW:=ζ h.o.fresh;have uD:=hb;replace hR:=ζ (hR.o.grows dw);replace h:=ζ (h.o.grows dw);replace hG:=ζ (hG.o.trans (au.grows dw hb.o));replace hb:Hid (base≤(w2.alloc (.cells #[.int .u64 0,.int .u64 0,.int .u64 0,.int .u64 0] 385)).heap.size):=ζ (Nat.le_trans hb.o dw.size);clear dw;generalize w2.alloc (.cells #[.int .u64 0,.int .u64 0,.int .u64 0,.int .u64 0] 385)=w3 at *
 rw[hsz.o] at aG xW uD;clear hsz;generalize wN.heap.size=gS at *
 refine (ji h.o).mono ?_;rintro e w4 ⟨rfl,Uc,dB⟩;(try replace aG:=ζ (aG.o.tk (au.own h.o dB) δ))
 (try replace hX:=ζ ((au.own h.o dB).blk hX.o δ))
 (try replace hP:=ζ ((au.own h.o dB).blk hP.o δ))
 (try replace hR:=ζ ((au.own h.o dB).blk hR.o δ))
 replace hG:=ζ (hG.o.trans ((au.own h.o dB).mono qF.o));replace h:=ζ Uc;replace hb:=ζ (Nat.le_trans hb0.o hG.o.size);clear Uc dB;go_wp2_with fail;refine (wC h.o aG.o uD.o hb.o (by rw[iG];have:=rZ.o;simp only[aI];omega)).mono ?_;rintro e wE ⟨rfl,xsE,svE,h',dJ⟩;replace h:=ζ h';(try replace hX:=ζ ((dJ.mono lq.o).blk hX.o δ))
 (try replace hP:=ζ ((dJ.mono lq.o).blk hP.o δ))
 (try replace hR:=ζ ((dJ.mono lq.o).blk hR.o δ))
 replace hG:=ζ (hG.o.trans (dJ.mono lq.o));replace hb:=ζ (Nat.le_trans hb0.o hG.o.size);clear h' dJ aG;generalize hr:jy dU (aZ 3 (aI b))=r at *
 obtain⟨rb,p1,p2⟩:=r;simp only[dh];(try clear nH);(try clear nG);(try clear mV);(try clear ny);(try clear ni)
 have nH:wE.cell? ⟨gR,0,none⟩=_:=hR.o.cell 0;have nG:wE.cell? ⟨gR,1,none⟩=_:=hR.o.cell 1;have ny:=hR.o.frozen 0;have ni:=hR.o.frozen 1;have mV:=hR.o.lt;go_wp2;clear nH nG ny ni mV;have jh:=hR.o.aW 0 (.int .i64 (p1:Int));have lX:=jh.aW 1 (.int .i64 (p2:Int));have pR:=(hG.o.dn (g:=gR) (i:=0) hgr.o hb0.o (.int .i64 (p1:Int))).dn (g:=gR) (i:=1) hgr.o hb0.o (.int .i64 (p2:Int));have uM:=(h.o.far hR.o δ (aj wE ⟨gR,0,none⟩ (.int .i64 (p1:Int)))).far jh δ (aj _ ⟨gR,1,none⟩ (.int .i64 (p2:Int)));clear hR hG h jh;generalize (wE.setCell ⟨gR,0,none⟩ (.int .i64 (p1:Int))).setCell ⟨gR,1,none⟩ (.int .i64 (p2:Int))=w7 at *
 have e0:=lX.c0;have e1:=lX.c1;refine bodyPost_ret (v:=dh (p1,p2)) ?_ rfl ⟨?_,?_⟩
 ·simp[dh,results,Tryz.results274,go_sem,e0,e1]
 ·rw[hat.o]
 ·rw[hat.o];exact⟨_,_,uM,pR⟩
end Go.Proofs.YtbhikkgpcmkonaaGreatDoor
namespace Go.Proofs.YtbhikkgpcmkonaaGreatDoor
open Go.RowKit
theorem Yd {w:World} {base gB dp:Nat} {s:List UInt8} {b:PB} {c:UInt8} {sub:Option (PB→PB×rD)} {xs:List vP} {sv:Value} (h:jd w base gB s b xs sv) (hb:base≤w.heap.size) (xR:s.length≤100) (hcs:s[b.at_]? = some c) (hc:dR b≤8*b.at_+61) (vU:¬c = 40) (BN:c = 91) :
 Calls Tryz.prog 274 #[.pointer (some ⟨gB,0,none⟩),.int .i64 (dp:Int)] w (gY base gB s w (bW s sub c b)):=by
 have i40:¬(c.toNat:Int)=40:=fun e=>vU (UInt8.toNat_inj.1 (by show c.toNat=40;omega))
 have i91:(c.toNat:Int)=91:=by rw[BN];rfl
 have OB:c.toNat<256:=c.toNat_lt;have rZ:=ζ (iH b);have AQ:Hid ((aI b).at_≤s.length):=ζ (by have:=(List.getElem?_eq_some_iff.1 hcs).1;simp only[aI];omega);have hat:Hid (bW s sub c b = jy (kR s (aI b)).2 (kR s (aI b)).1):=ζ (by unfold bW;rw[if_neg vU,if_pos BN]);clear vU BN;have hlt:b.at_<s.length:=(List.getElem?_eq_some_iff.1 hcs).1;have qF:Hid (∀t∈[358],t∈TS):=ζ (by intro t ht;simp[TS,TB] at *;exact .inr (.inl ht));have lq:Hid (∀t∈TB,t∈TS):=ζ (fun t ht=>List.mem_cons_of_mem _ ht);have Xy:Hid (∀t∈TC,t∈TS):=ζ (by intro t ht;simp[TS,TB,TC] at *;rcases ht with h | h;exact .inr (.inl h);exact .inl h);have hR:=aF.new w 360 #[.int .i64 0,.int .i64 0];have hg1:ah w (w.alloc (.cells #[.int .i64 0,.int .i64 0] 360)):=(ah.refl _).alloc _;replace hR:=ζ hR;have hG:=ζ (au.grows (T:=TS) hg1 hb);replace h:=ζ (h.grows hg1);have hb0:Hid (BLe base w):=ζ hb;replace hb:=ζ (Nat.le_trans hb hg1.size);have hgr:Hid (GLe w w.heap.size):=ζ (Nat.le_refl _);have hci:((b.at_:Nat):Int)<(s.length:Int):=ω;have zU:∀h:b.at_<(⟨s.toArray⟩:ByteArray).size,(⟨s.toArray⟩:ByteArray)[b.at_]'h = c:=fun h=>by
  show s.toArray[b.at_]=c
  rw[List.getElem_toArray];exact (List.getElem?_eq_some_iff.1 hcs).2
 have c0:∀w',jd w' base gB s b xs sv→w'.cell? ⟨gB,0,none⟩=some (.string ⟨s.toArray⟩):=fun w' hh=>(hh.blk.cell 0).trans rfl
 have c1:∀w',jd w' base gB s b xs sv→w'.cell? ⟨gB,1,none⟩=some (.int .i64 (b.at_:Int)):=fun w' hh=>(hh.blk.cell 1).trans rfl
 replace c0:=c0 _ h.o;replace c1:=c1 _ h.o;have l1:=h.o.blk.lt;clear hg1;go_enter Tryz.func274,Tryz.ntmps274
 go_wp2_with fail;generalize w.alloc (.cells #[.int .i64 0,.int .i64 0] 360)=w0 at *
 generalize w.heap.size=gR at *
 refine aH κ ?_;refine rK (.range 10) 0 ?_;iterate 10 refine aC ?_
 refine aB ?_;refine aJ κ (fun wN hN hS=> ?_);clear c0 c1 l1;replace hR:=ζ (hR.o.grows hN);replace h:=ζ (h.o.grows hN);replace hG:=ζ (hG.o.trans (au.grows hN hb.o));replace hb:=ζ (Nat.le_trans hb.o hN.size);clear hN hS;have c1:wN.cell? ⟨gB,1,none⟩=some (.int .i64 ((b).at_:Int)):=(h.o.blk.cell 1).trans rfl;have f1:=h.o.blk.frozen 1;have l1:=h.o.blk.lt;have i1: -9223372036854775808≤((b).at_:Int)+1∧((b).at_:Int)+1≤9223372036854775807:=by first | omega | (simp only[aI];omega)
 have hA:=ζ h.o.Jf;have kN:=ζ (hG.o.trans ((au.own h.o (aj wN ⟨gB,1,none⟩ (.int .i64 (((b).at_:Int)+1)))).mono qF.o));have hsz:Hid ((wN.setCell ⟨gB,1,none⟩ (.int .i64 (((b).at_:Int)+1))).heap.size=wN.heap.size):=ζ σ;go_wp2_with fail;(try replace aG:=ζ (aG.o.tk (au.own h.o (aj wN ⟨gB,1,none⟩ (.int .i64 (((b).at_:Int)+1)))) δ))
 (try replace hX:=ζ ((au.own h.o (aj wN ⟨gB,1,none⟩ (.int .i64 (((b).at_:Int)+1)))).blk hX.o δ))
 (try replace hP:=ζ ((au.own h.o (aj wN ⟨gB,1,none⟩ (.int .i64 (((b).at_:Int)+1)))).blk hP.o δ))
 (try replace hR:=ζ ((au.own h.o (aj wN ⟨gB,1,none⟩ (.int .i64 (((b).at_:Int)+1)))).blk hR.o δ))
 clear c1 f1 l1 i1 h hG;generalize wN.setCell ⟨gB,1,none⟩ (.int .i64 (((b).at_:Int)+1))=w2 at *
 have h:=hA;have hG:=kN;clear hA kN;replace hb:=ζ (Nat.le_trans hb0.o hG.o.size);have aG:Hid (dZ (w2.alloc (.cells #[.int .u64 0,.int .u64 0,.int .u64 0,.int .u64 0] 385)) w2.heap.size dU):=ζ ⟨aF.new w2 _ _,rfl,by intro x hx;simp[dU] at hx;omega⟩;have dw:ah w2 (w2.alloc (.cells #[.int .u64 0,.int .u64 0,.int .u64 0,.int .u64 0] 385)):=(ah.refl _).alloc _;have xW:=ζ h.o.fresh;have uD:=hb;replace hR:=ζ (hR.o.grows dw);replace h:=ζ (h.o.grows dw);replace hG:=ζ (hG.o.trans (au.grows dw hb.o));replace hb:Hid (base≤(w2.alloc (.cells #[.int .u64 0,.int .u64 0,.int .u64 0,.int .u64 0] 385)).heap.size):=ζ (Nat.le_trans hb.o dw.size);clear dw;generalize w2.alloc (.cells #[.int .u64 0,.int .u64 0,.int .u64 0,.int .u64 0] 385)=w3 at *
 rw[hsz.o] at aG xW uD;clear hsz;generalize wN.heap.size=gS at *
 refine (abE h.o aG.o uD.o xW.o hb.o xR AQ.o).mono ?_;rintro e w4 ⟨rfl,h',hs',dJ⟩;replace h:=ζ h';(try replace hX:=ζ ((dJ.mono Xy.o).blk hX.o δ))
 (try replace hP:=ζ ((dJ.mono Xy.o).blk hP.o δ))
 (try replace hR:=ζ ((dJ.mono Xy.o).blk hR.o δ))
 replace hG:=ζ (hG.o.trans (dJ.mono Xy.o));replace hb:=ζ (Nat.le_trans hb0.o hG.o.size);replace aG:=ζ hs';clear h' dJ hs';have hcs:=(F7 (s:=s) (b:=aI b) (WP.of_le AQ.o)).2.2;replace hcs:=ζ hcs;go_wp2_with fail;refine (wC h.o aG.o uD.o hb.o (by rw[hcs.o];have:=rZ.o;simp only[aI];omega)).mono ?_;rintro e wE ⟨rfl,xsE,svE,h',dJ⟩;replace h:=ζ h';(try replace hX:=ζ ((dJ.mono lq.o).blk hX.o δ))
 (try replace hP:=ζ ((dJ.mono lq.o).blk hP.o δ))
 (try replace hR:=ζ ((dJ.mono lq.o).blk hR.o δ))
 replace hG:=ζ (hG.o.trans (dJ.mono lq.o));replace hb:=ζ (Nat.le_trans hb0.o hG.o.size);clear h' dJ aG;generalize hr:jy (kR s (aI b)).2 (kR s (aI b)).1=r at *
 obtain⟨rb,p1,p2⟩:=r;simp only[dh];(try clear nH);(try clear nG);(try clear mV);(try clear ny);(try clear ni)
 have nH:wE.cell? ⟨gR,0,none⟩=_:=hR.o.cell 0;have nG:wE.cell? ⟨gR,1,none⟩=_:=hR.o.cell 1;have ny:=hR.o.frozen 0;have ni:=hR.o.frozen 1;have mV:=hR.o.lt;go_wp2;clear nH nG ny ni mV;have jh:=hR.o.aW 0 (.int .i64 (p1:Int));have lX:=jh.aW 1 (.int .i64 (p2:Int));have pR:=(hG.o.dn (g:=gR) (i:=0) hgr.o hb0.o (.int .i64 (p1:Int))).dn (g:=gR) (i:=1) hgr.o hb0.o (.int .i64 (p2:Int));have uM:=(h.o.far hR.o δ (aj wE ⟨gR,0,none⟩ (.int .i64 (p1:Int)))).far jh δ (aj _ ⟨gR,1,none⟩ (.int .i64 (p2:Int)));clear hR hG h jh;generalize (wE.setCell ⟨gR,0,none⟩ (.int .i64 (p1:Int))).setCell ⟨gR,1,none⟩ (.int .i64 (p2:Int))=w7 at *
 have e0:=lX.c0;have e1:=lX.c1;refine bodyPost_ret (v:=dh (p1,p2)) ?_ rfl ⟨?_,?_⟩
 ·simp[dh,results,Tryz.results274,go_sem,e0,e1]
 ·rw[hat.o]
 ·rw[hat.o];exact⟨_,_,uM,pR⟩
end Go.Proofs.YtbhikkgpcmkonaaGreatDoor
namespace Go.Proofs.YtbhikkgpcmkonaaGreatDoor
open Go.RowKit
theorem afT {w:World} {base gB dp:Nat} {s:List UInt8} {b:PB} {c:UInt8} {sub:Option (PB→PB×rD)} {xs:List vP} {sv:Value} (h:jd w base gB s b xs sv) (hb:base≤w.heap.size) (xR:s.length≤100) (hcs:s[b.at_]? = some c) (hc:dR b≤8*b.at_+61) (vU:¬c = 40) (BN:¬c = 91) (IB:c = 46) :
 Calls Tryz.prog 274 #[.pointer (some ⟨gB,0,none⟩),.int .i64 (dp:Int)] w (gY base gB s w (bW s sub c b)):=by
 have i40:¬(c.toNat:Int)=40:=fun e=>vU (UInt8.toNat_inj.1 (by show c.toNat=40;omega))
 have i91:¬(c.toNat:Int)=91:=fun e=>BN (UInt8.toNat_inj.1 (by show c.toNat=91;omega))
 have i46:(c.toNat:Int)=46:=by rw[IB];rfl
 have OB:c.toNat<256:=c.toNat_lt;have rZ:=ζ (iH b);have AQ:Hid ((aI b).at_≤s.length):=ζ (by have:=(List.getElem?_eq_some_iff.1 hcs).1;simp only[aI];omega);have hat:Hid (bW s sub c b = jy (lH dU) (aI b)):=ζ (by unfold bW;rw[if_neg vU,if_neg BN,if_pos IB]);clear vU BN IB;have hlt:b.at_<s.length:=(List.getElem?_eq_some_iff.1 hcs).1;have qF:Hid (∀t∈[358],t∈TS):=ζ (by intro t ht;simp[TS,TB] at *;exact .inr (.inl ht));have lq:Hid (∀t∈TB,t∈TS):=ζ (fun t ht=>List.mem_cons_of_mem _ ht);have Xy:Hid (∀t∈TC,t∈TS):=ζ (by intro t ht;simp[TS,TB,TC] at *;rcases ht with h | h;exact .inr (.inl h);exact .inl h);have hR:=aF.new w 360 #[.int .i64 0,.int .i64 0];have hg1:ah w (w.alloc (.cells #[.int .i64 0,.int .i64 0] 360)):=(ah.refl _).alloc _;replace hR:=ζ hR;have hG:=ζ (au.grows (T:=TS) hg1 hb);replace h:=ζ (h.grows hg1);have hb0:Hid (BLe base w):=ζ hb;replace hb:=ζ (Nat.le_trans hb hg1.size);have hgr:Hid (GLe w w.heap.size):=ζ (Nat.le_refl _);have hci:((b.at_:Nat):Int)<(s.length:Int):=ω;have zU:∀h:b.at_<(⟨s.toArray⟩:ByteArray).size,(⟨s.toArray⟩:ByteArray)[b.at_]'h = c:=fun h=>by
  show s.toArray[b.at_]=c
  rw[List.getElem_toArray];exact (List.getElem?_eq_some_iff.1 hcs).2
 have c0:∀w',jd w' base gB s b xs sv→w'.cell? ⟨gB,0,none⟩=some (.string ⟨s.toArray⟩):=fun w' hh=>(hh.blk.cell 0).trans rfl
 have c1:∀w',jd w' base gB s b xs sv→w'.cell? ⟨gB,1,none⟩=some (.int .i64 (b.at_:Int)):=fun w' hh=>(hh.blk.cell 1).trans rfl
 replace c0:=c0 _ h.o;replace c1:=c1 _ h.o;have l1:=h.o.blk.lt;clear hg1;go_enter Tryz.func274,Tryz.ntmps274
 go_wp2_with fail;generalize w.alloc (.cells #[.int .i64 0,.int .i64 0] 360)=w0 at *
 generalize w.heap.size=gR at *
 refine aH κ ?_;refine rK (.range 10) 0 ?_;iterate 10 refine aC ?_
 refine aB ?_;refine aJ κ (fun wN hN hS=> ?_);clear c0 c1 l1;replace hR:=ζ (hR.o.grows hN);replace h:=ζ (h.o.grows hN);replace hG:=ζ (hG.o.trans (au.grows hN hb.o));replace hb:=ζ (Nat.le_trans hb.o hN.size);clear hN hS;have c1:wN.cell? ⟨gB,1,none⟩=some (.int .i64 ((b).at_:Int)):=(h.o.blk.cell 1).trans rfl;have f1:=h.o.blk.frozen 1;have l1:=h.o.blk.lt;have i1: -9223372036854775808≤((b).at_:Int)+1∧((b).at_:Int)+1≤9223372036854775807:=by first | omega | (simp only[aI];omega)
 have hA:=ζ h.o.Jf;have kN:=ζ (hG.o.trans ((au.own h.o (aj wN ⟨gB,1,none⟩ (.int .i64 (((b).at_:Int)+1)))).mono qF.o));have hsz:Hid ((wN.setCell ⟨gB,1,none⟩ (.int .i64 (((b).at_:Int)+1))).heap.size=wN.heap.size):=ζ σ;go_wp2_with fail;(try replace aG:=ζ (aG.o.tk (au.own h.o (aj wN ⟨gB,1,none⟩ (.int .i64 (((b).at_:Int)+1)))) δ))
 (try replace hX:=ζ ((au.own h.o (aj wN ⟨gB,1,none⟩ (.int .i64 (((b).at_:Int)+1)))).blk hX.o δ))
 (try replace hP:=ζ ((au.own h.o (aj wN ⟨gB,1,none⟩ (.int .i64 (((b).at_:Int)+1)))).blk hP.o δ))
 (try replace hR:=ζ ((au.own h.o (aj wN ⟨gB,1,none⟩ (.int .i64 (((b).at_:Int)+1)))).blk hR.o δ))
 clear c1 f1 l1 i1 h hG;generalize wN.setCell ⟨gB,1,none⟩ (.int .i64 (((b).at_:Int)+1))=w2 at *
 have h:=hA;have hG:=kN;clear hA kN;replace hb:=ζ (Nat.le_trans hb0.o hG.o.size);have aG:Hid (dZ (w2.alloc (.cells #[.int .u64 0,.int .u64 0,.int .u64 0,.int .u64 0] 385)) w2.heap.size dU):=ζ ⟨aF.new w2 _ _,rfl,by intro x hx;simp[dU] at hx;omega⟩;have dw:ah w2 (w2.alloc (.cells #[.int .u64 0,.int .u64 0,.int .u64 0,.int .u64 0] 385)):=(ah.refl _).alloc _;have xW:=ζ h.o.fresh;have uD:=hb;replace hR:=ζ (hR.o.grows dw);replace h:=ζ (h.o.grows dw);replace hG:=ζ (hG.o.trans (au.grows dw hb.o));replace hb:Hid (base≤(w2.alloc (.cells #[.int .u64 0,.int .u64 0,.int .u64 0,.int .u64 0] 385)).heap.size):=ζ (Nat.le_trans hb.o dw.size);clear dw;generalize w2.alloc (.cells #[.int .u64 0,.int .u64 0,.int .u64 0,.int .u64 0] 385)=w3 at *
 rw[hsz.o] at aG xW uD;clear hsz;generalize wN.heap.size=gS at *
 refine (RQ aG.o).mono ?_;rintro e w4 ⟨rfl,yP,iq⟩;replace h:=ζ (h.o.rM aG.o xW.o iq);replace hR:=ζ ((au.set aG.o uD.o iq).blk hR.o δ);replace hG:=ζ (hG.o.trans ((au.set aG.o uD.o iq).mono Xy.o));replace hb:=ζ (Nat.le_trans hb0.o hG.o.size);replace aG:=ζ yP;clear yP iq;go_wp2_with fail;refine (wC h.o aG.o uD.o hb.o (by have:=rZ.o;simp only[aI];omega)).mono ?_;rintro e wE ⟨rfl,xsE,svE,h',dJ⟩;replace h:=ζ h';(try replace hX:=ζ ((dJ.mono lq.o).blk hX.o δ))
 (try replace hP:=ζ ((dJ.mono lq.o).blk hP.o δ))
 (try replace hR:=ζ ((dJ.mono lq.o).blk hR.o δ))
 replace hG:=ζ (hG.o.trans (dJ.mono lq.o));replace hb:=ζ (Nat.le_trans hb0.o hG.o.size);clear h' dJ aG;generalize hr:jy (lH dU) (aI b)=r at *
 obtain⟨rb,p1,p2⟩:=r;simp only[dh];(try clear nH);(try clear nG);(try clear mV);(try clear ny);(try clear ni)
 have nH:wE.cell? ⟨gR,0,none⟩=_:=hR.o.cell 0;have nG:wE.cell? ⟨gR,1,none⟩=_:=hR.o.cell 1;have ny:=hR.o.frozen 0;have ni:=hR.o.frozen 1;have mV:=hR.o.lt;go_wp2;clear nH nG ny ni mV;have jh:=hR.o.aW 0 (.int .i64 (p1:Int));have lX:=jh.aW 1 (.int .i64 (p2:Int));have pR:=(hG.o.dn (g:=gR) (i:=0) hgr.o hb0.o (.int .i64 (p1:Int))).dn (g:=gR) (i:=1) hgr.o hb0.o (.int .i64 (p2:Int));have uM:=(h.o.far hR.o δ (aj wE ⟨gR,0,none⟩ (.int .i64 (p1:Int)))).far jh δ (aj _ ⟨gR,1,none⟩ (.int .i64 (p2:Int)));clear hR hG h jh;generalize (wE.setCell ⟨gR,0,none⟩ (.int .i64 (p1:Int))).setCell ⟨gR,1,none⟩ (.int .i64 (p2:Int))=w7 at *
 have e0:=lX.c0;have e1:=lX.c1;refine bodyPost_ret (v:=dh (p1,p2)) ?_ rfl ⟨?_,?_⟩
 ·simp[dh,results,Tryz.results274,go_sem,e0,e1]
 ·rw[hat.o]
 ·rw[hat.o];exact⟨_,_,uM,pR⟩
end Go.Proofs.YtbhikkgpcmkonaaGreatDoor
namespace Go.Proofs.YtbhikkgpcmkonaaGreatDoor
open Go.RowKit
theorem UR {w:World} {base gB dp:Nat} {s:List UInt8} {b:PB} {c:UInt8} {sub:Option (PB→PB×rD)} {xs:List vP} {sv:Value} (h:jd w base gB s b xs sv) (hb:base≤w.heap.size) (xR:s.length≤100) (hcs:s[b.at_]? = some c) (hc:dR b≤8*b.at_+61) (vU:¬c = 40) (BN:¬c = 91) (IB:¬c = 46) (OM:c = 92) (hp:yc s (aI b)=none) :
 Calls Tryz.prog 274 #[.pointer (some ⟨gB,0,none⟩),.int .i64 (dp:Int)] w (gY base gB s w (bW s sub c b)):=by
 have i40:¬(c.toNat:Int)=40:=fun e=>vU (UInt8.toNat_inj.1 (by show c.toNat=40;omega))
 have i91:¬(c.toNat:Int)=91:=fun e=>BN (UInt8.toNat_inj.1 (by show c.toNat=91;omega))
 have i46:¬(c.toNat:Int)=46:=fun e=>IB (UInt8.toNat_inj.1 (by show c.toNat=46;omega))
 have i92:(c.toNat:Int)=92:=by rw[OM];rfl
 have OB:c.toNat<256:=c.toNat_lt;have rZ:=ζ (iH b);have AQ:Hid ((aI b).at_≤s.length):=ζ (by have:=(List.getElem?_eq_some_iff.1 hcs).1;simp only[aI];omega);have hat:Hid (bW s sub c b = jy (kE dU 0 0) (aI (aZ 2 (aI b)))):=ζ (by unfold bW;rw[if_neg vU,if_neg BN,if_neg IB,if_pos OM,hp]);have nT:sW s (aI b)=.tuple #[.int .u8 0,.bool false]:=by simp only[sW,hp]
 have hfa:(aZ 2 (aI b)).at_<100000:=by rw[dF];have:=AQ.o;omega
 clear vU BN IB OM hp;have hlt:b.at_<s.length:=(List.getElem?_eq_some_iff.1 hcs).1;have qF:Hid (∀t∈[358],t∈TS):=ζ (by intro t ht;simp[TS,TB] at *;exact .inr (.inl ht));have lq:Hid (∀t∈TB,t∈TS):=ζ (fun t ht=>List.mem_cons_of_mem _ ht);have Xy:Hid (∀t∈TC,t∈TS):=ζ (by intro t ht;simp[TS,TB,TC] at *;rcases ht with h | h;exact .inr (.inl h);exact .inl h);have hR:=aF.new w 360 #[.int .i64 0,.int .i64 0];have hg1:ah w (w.alloc (.cells #[.int .i64 0,.int .i64 0] 360)):=(ah.refl _).alloc _;replace hR:=ζ hR;have hG:=ζ (au.grows (T:=TS) hg1 hb);replace h:=ζ (h.grows hg1);have hb0:Hid (BLe base w):=ζ hb;replace hb:=ζ (Nat.le_trans hb hg1.size);have hgr:Hid (GLe w w.heap.size):=ζ (Nat.le_refl _);have hci:((b.at_:Nat):Int)<(s.length:Int):=ω;have zU:∀h:b.at_<(⟨s.toArray⟩:ByteArray).size,(⟨s.toArray⟩:ByteArray)[b.at_]'h = c:=fun h=>by
  show s.toArray[b.at_]=c
  rw[List.getElem_toArray];exact (List.getElem?_eq_some_iff.1 hcs).2
 have c0:∀w',jd w' base gB s b xs sv→w'.cell? ⟨gB,0,none⟩=some (.string ⟨s.toArray⟩):=fun w' hh=>(hh.blk.cell 0).trans rfl
 have c1:∀w',jd w' base gB s b xs sv→w'.cell? ⟨gB,1,none⟩=some (.int .i64 (b.at_:Int)):=fun w' hh=>(hh.blk.cell 1).trans rfl
 replace c0:=c0 _ h.o;replace c1:=c1 _ h.o;have l1:=h.o.blk.lt;clear hg1;go_enter Tryz.func274,Tryz.ntmps274
 go_wp2_with fail;generalize w.alloc (.cells #[.int .i64 0,.int .i64 0] 360)=w0 at *
 generalize w.heap.size=gR at *
 refine aH κ ?_;refine rK (.range 10) 0 ?_;iterate 10 refine aC ?_
 refine aB ?_;refine aJ κ (fun wN hN hS=> ?_);clear c0 c1 l1;replace hR:=ζ (hR.o.grows hN);replace h:=ζ (h.o.grows hN);replace hG:=ζ (hG.o.trans (au.grows hN hb.o));replace hb:=ζ (Nat.le_trans hb.o hN.size);clear hN hS;have c1:wN.cell? ⟨gB,1,none⟩=some (.int .i64 ((b).at_:Int)):=(h.o.blk.cell 1).trans rfl;have f1:=h.o.blk.frozen 1;have l1:=h.o.blk.lt;have i1: -9223372036854775808≤((b).at_:Int)+1∧((b).at_:Int)+1≤9223372036854775807:=by first | omega | (simp only[aI];omega)
 have hA:=ζ h.o.Jf;have kN:=ζ (hG.o.trans ((au.own h.o (aj wN ⟨gB,1,none⟩ (.int .i64 (((b).at_:Int)+1)))).mono qF.o));have hsz:Hid ((wN.setCell ⟨gB,1,none⟩ (.int .i64 (((b).at_:Int)+1))).heap.size=wN.heap.size):=ζ σ;go_wp2_with fail;(try replace aG:=ζ (aG.o.tk (au.own h.o (aj wN ⟨gB,1,none⟩ (.int .i64 (((b).at_:Int)+1)))) δ))
 (try replace hX:=ζ ((au.own h.o (aj wN ⟨gB,1,none⟩ (.int .i64 (((b).at_:Int)+1)))).blk hX.o δ))
 (try replace hP:=ζ ((au.own h.o (aj wN ⟨gB,1,none⟩ (.int .i64 (((b).at_:Int)+1)))).blk hP.o δ))
 (try replace hR:=ζ ((au.own h.o (aj wN ⟨gB,1,none⟩ (.int .i64 (((b).at_:Int)+1)))).blk hR.o δ))
 clear c1 f1 l1 i1 h hG;generalize wN.setCell ⟨gB,1,none⟩ (.int .i64 (((b).at_:Int)+1))=w2 at *
 have h:=hA;have hG:=kN;clear hA kN;replace hb:=ζ (Nat.le_trans hb0.o hG.o.size);have aG:Hid (dZ (w2.alloc (.cells #[.int .u64 0,.int .u64 0,.int .u64 0,.int .u64 0] 385)) w2.heap.size dU):=ζ ⟨aF.new w2 _ _,rfl,by intro x hx;simp[dU] at hx;omega⟩;have dw:ah w2 (w2.alloc (.cells #[.int .u64 0,.int .u64 0,.int .u64 0,.int .u64 0] 385)):=(ah.refl _).alloc _;have xW:=ζ h.o.fresh;have uD:=hb;replace hR:=ζ (hR.o.grows dw);replace h:=ζ (h.o.grows dw);replace hG:=ζ (hG.o.trans (au.grows dw hb.o));replace hb:Hid (base≤(w2.alloc (.cells #[.int .u64 0,.int .u64 0,.int .u64 0,.int .u64 0] 385)).heap.size):=ζ (Nat.le_trans hb.o dw.size);clear dw;generalize w2.alloc (.cells #[.int .u64 0,.int .u64 0,.int .u64 0,.int .u64 0] 385)=w3 at *
 rw[hsz.o] at aG xW uD;clear hsz;generalize wN.heap.size=gS at *
 go_wp2_with fail;refine (dQ h.o).mono ?_;rintro e w4 ⟨rfl,dB⟩;replace h:=ζ (h.o.grows dB);replace hG:=ζ (hG.o.trans (au.grows dB hb.o));replace hb:=ζ (Nat.le_trans hb.o dB.size);(try replace aG:=ζ (aG.o.grows dB))
 (try replace hX:=ζ (hX.o.grows dB))
 (try replace hP:=ζ (hP.o.grows dB))
 (try replace hR:=ζ (hR.o.grows dB))
 clear dB;rw[nT];clear nT;go_wp2_with fail;refine (ji h.o).mono ?_;rintro e w5 ⟨rfl,aeZ,FH⟩;(try replace aG:=ζ (aG.o.tk (au.own h.o FH) δ))
 (try replace hX:=ζ ((au.own h.o FH).blk hX.o δ))
 (try replace hP:=ζ ((au.own h.o FH).blk hP.o δ))
 (try replace hR:=ζ ((au.own h.o FH).blk hR.o δ))
 replace hG:=ζ (hG.o.trans ((au.own h.o FH).mono qF.o));replace h:=ζ aeZ;replace hb:=ζ (Nat.le_trans hb0.o hG.o.size);clear aeZ FH;have c1:w5.cell? ⟨gB,1,none⟩=some (.int .i64 (((aZ 2 (aI b))).at_:Int)):=(h.o.blk.cell 1).trans rfl;have f1:=h.o.blk.frozen 1;have l1:=h.o.blk.lt;have i1: -9223372036854775808≤(((aZ 2 (aI b))).at_:Int)+1∧(((aZ 2 (aI b))).at_:Int)+1≤9223372036854775807:=by first | omega | (simp only[aI];omega)
 have hA:=ζ h.o.Jf;have kN:=ζ (hG.o.trans ((au.own h.o (aj w5 ⟨gB,1,none⟩ (.int .i64 ((((aZ 2 (aI b))).at_:Int)+1)))).mono qF.o));have hsz:Hid ((w5.setCell ⟨gB,1,none⟩ (.int .i64 ((((aZ 2 (aI b))).at_:Int)+1))).heap.size=w5.heap.size):=ζ σ;go_wp2_with fail;(try replace aG:=ζ (aG.o.tk (au.own h.o (aj w5 ⟨gB,1,none⟩ (.int .i64 ((((aZ 2 (aI b))).at_:Int)+1)))) δ))
 (try replace hX:=ζ ((au.own h.o (aj w5 ⟨gB,1,none⟩ (.int .i64 ((((aZ 2 (aI b))).at_:Int)+1)))).blk hX.o δ))
 (try replace hP:=ζ ((au.own h.o (aj w5 ⟨gB,1,none⟩ (.int .i64 ((((aZ 2 (aI b))).at_:Int)+1)))).blk hP.o δ))
 (try replace hR:=ζ ((au.own h.o (aj w5 ⟨gB,1,none⟩ (.int .i64 ((((aZ 2 (aI b))).at_:Int)+1)))).blk hR.o δ))
 clear c1 f1 l1 i1 h hG;generalize w5.setCell ⟨gB,1,none⟩ (.int .i64 ((((aZ 2 (aI b))).at_:Int)+1))=w6 at *
 have h:=hA;have hG:=kN;clear hA kN;replace hb:=ζ (Nat.le_trans hb0.o hG.o.size);have hz:=jD (lo:=0) (hi:=0) aG.o ω ω;rw[show ((0:Nat):Int)=0 from rfl] at hz;refine hz.mono ?_;clear hz;rintro e w7 ⟨rfl,yP,iq⟩;replace h:=ζ (h.o.rM aG.o xW.o iq);replace hR:=ζ ((au.set aG.o uD.o iq).blk hR.o δ);replace hG:=ζ (hG.o.trans ((au.set aG.o uD.o iq).mono Xy.o));replace hb:=ζ (Nat.le_trans hb0.o hG.o.size);replace aG:=ζ yP;clear yP iq;go_wp2_with fail;refine (wC h.o aG.o uD.o hb.o (by have:=rZ.o;simp only[aI];rw[iG];simp only;omega)).mono ?_;rintro e wE ⟨rfl,xsE,svE,h',dJ⟩;replace h:=ζ h';(try replace hX:=ζ ((dJ.mono lq.o).blk hX.o δ))
 (try replace hP:=ζ ((dJ.mono lq.o).blk hP.o δ))
 (try replace hR:=ζ ((dJ.mono lq.o).blk hR.o δ))
 replace hG:=ζ (hG.o.trans (dJ.mono lq.o));replace hb:=ζ (Nat.le_trans hb0.o hG.o.size);clear h' dJ aG;generalize hr:jy (kE dU 0 0) (aI (aZ 2 (aI b)))=r at *
 obtain⟨rb,p1,p2⟩:=r;simp only[dh];(try clear nH);(try clear nG);(try clear mV);(try clear ny);(try clear ni)
 have nH:wE.cell? ⟨gR,0,none⟩=_:=hR.o.cell 0;have nG:wE.cell? ⟨gR,1,none⟩=_:=hR.o.cell 1;have ny:=hR.o.frozen 0;have ni:=hR.o.frozen 1;have mV:=hR.o.lt;go_wp2;clear nH nG ny ni mV;have jh:=hR.o.aW 0 (.int .i64 (p1:Int));have lX:=jh.aW 1 (.int .i64 (p2:Int));have pR:=(hG.o.dn (g:=gR) (i:=0) hgr.o hb0.o (.int .i64 (p1:Int))).dn (g:=gR) (i:=1) hgr.o hb0.o (.int .i64 (p2:Int));have uM:=(h.o.far hR.o δ (aj wE ⟨gR,0,none⟩ (.int .i64 (p1:Int)))).far jh δ (aj _ ⟨gR,1,none⟩ (.int .i64 (p2:Int)));clear hR hG h jh;generalize (wE.setCell ⟨gR,0,none⟩ (.int .i64 (p1:Int))).setCell ⟨gR,1,none⟩ (.int .i64 (p2:Int))=w7 at *
 have e0:=lX.c0;have e1:=lX.c1;refine bodyPost_ret (v:=dh (p1,p2)) ?_ rfl ⟨?_,?_⟩
 ·simp[dh,results,Tryz.results274,go_sem,e0,e1]
 ·rw[hat.o]
 ·rw[hat.o];exact⟨_,_,uM,pR⟩
end Go.Proofs.YtbhikkgpcmkonaaGreatDoor
namespace Go.Proofs.YtbhikkgpcmkonaaGreatDoor
open Go.RowKit
theorem Yb {w:World} {base gB dp:Nat} {s:List UInt8} {b:PB} {c:UInt8} {sub:Option (PB→PB×rD)} {xs:List vP} {sv:Value} (h:jd w base gB s b xs sv) (hb:base≤w.heap.size) (xR:s.length≤100) (hcs:s[b.at_]? = some c) (hc:dR b≤8*b.at_+61) {d:UInt8} (vU:¬c = 40) (BN:¬c = 91) (IB:¬c = 46) (OM:c = 92) (hp:yc s (aI b)=some d) :
 Calls Tryz.prog 274 #[.pointer (some ⟨gB,0,none⟩),.int .i64 (dp:Int)] w (gY base gB s w (bW s sub c b)):=by
 have i40:¬(c.toNat:Int)=40:=fun e=>vU (UInt8.toNat_inj.1 (by show c.toNat=40;omega))
 have i91:¬(c.toNat:Int)=91:=fun e=>BN (UInt8.toNat_inj.1 (by show c.toNat=91;omega))
 have i46:¬(c.toNat:Int)=46:=fun e=>IB (UInt8.toNat_inj.1 (by show c.toNat=46;omega))
 have i92:(c.toNat:Int)=92:=by rw[OM];rfl
 have OB:c.toNat<256:=c.toNat_lt;have rZ:=ζ (iH b);have AQ:Hid ((aI b).at_≤s.length):=ζ (by have:=(List.getElem?_eq_some_iff.1 hcs).1;simp only[aI];omega);have awf:d.toNat<256:=d.toNat_lt;have hat:Hid (bW s sub c b = jy (kE dU d.toNat d.toNat) (aI (aI b))):=ζ (by unfold bW;rw[if_neg vU,if_neg BN,if_neg IB,if_pos OM,hp]);have nT:sW s (aI b)=.tuple #[.int .u8 (d.toNat:Int),.bool true]:=by simp only[sW,hp]
 clear vU BN IB OM hp;have hlt:b.at_<s.length:=(List.getElem?_eq_some_iff.1 hcs).1;have qF:Hid (∀t∈[358],t∈TS):=ζ (by intro t ht;simp[TS,TB] at *;exact .inr (.inl ht));have lq:Hid (∀t∈TB,t∈TS):=ζ (fun t ht=>List.mem_cons_of_mem _ ht);have Xy:Hid (∀t∈TC,t∈TS):=ζ (by intro t ht;simp[TS,TB,TC] at *;rcases ht with h | h;exact .inr (.inl h);exact .inl h);have hR:=aF.new w 360 #[.int .i64 0,.int .i64 0];have hg1:ah w (w.alloc (.cells #[.int .i64 0,.int .i64 0] 360)):=(ah.refl _).alloc _;replace hR:=ζ hR;have hG:=ζ (au.grows (T:=TS) hg1 hb);replace h:=ζ (h.grows hg1);have hb0:Hid (BLe base w):=ζ hb;replace hb:=ζ (Nat.le_trans hb hg1.size);have hgr:Hid (GLe w w.heap.size):=ζ (Nat.le_refl _);have hci:((b.at_:Nat):Int)<(s.length:Int):=ω;have zU:∀h:b.at_<(⟨s.toArray⟩:ByteArray).size,(⟨s.toArray⟩:ByteArray)[b.at_]'h = c:=fun h=>by
  show s.toArray[b.at_]=c
  rw[List.getElem_toArray];exact (List.getElem?_eq_some_iff.1 hcs).2
 have c0:∀w',jd w' base gB s b xs sv→w'.cell? ⟨gB,0,none⟩=some (.string ⟨s.toArray⟩):=fun w' hh=>(hh.blk.cell 0).trans rfl
 have c1:∀w',jd w' base gB s b xs sv→w'.cell? ⟨gB,1,none⟩=some (.int .i64 (b.at_:Int)):=fun w' hh=>(hh.blk.cell 1).trans rfl
 replace c0:=c0 _ h.o;replace c1:=c1 _ h.o;have l1:=h.o.blk.lt;clear hg1;go_enter Tryz.func274,Tryz.ntmps274
 go_wp2_with fail;generalize w.alloc (.cells #[.int .i64 0,.int .i64 0] 360)=w0 at *
 generalize w.heap.size=gR at *
 refine aH κ ?_;refine rK (.range 10) 0 ?_;iterate 10 refine aC ?_
 refine aB ?_;refine aJ κ (fun wN hN hS=> ?_);clear c0 c1 l1;replace hR:=ζ (hR.o.grows hN);replace h:=ζ (h.o.grows hN);replace hG:=ζ (hG.o.trans (au.grows hN hb.o));replace hb:=ζ (Nat.le_trans hb.o hN.size);clear hN hS;have c1:wN.cell? ⟨gB,1,none⟩=some (.int .i64 ((b).at_:Int)):=(h.o.blk.cell 1).trans rfl;have f1:=h.o.blk.frozen 1;have l1:=h.o.blk.lt;have i1: -9223372036854775808≤((b).at_:Int)+1∧((b).at_:Int)+1≤9223372036854775807:=by first | omega | (simp only[aI];omega)
 have hA:=ζ h.o.Jf;have kN:=ζ (hG.o.trans ((au.own h.o (aj wN ⟨gB,1,none⟩ (.int .i64 (((b).at_:Int)+1)))).mono qF.o));have hsz:Hid ((wN.setCell ⟨gB,1,none⟩ (.int .i64 (((b).at_:Int)+1))).heap.size=wN.heap.size):=ζ σ;go_wp2_with fail;(try replace aG:=ζ (aG.o.tk (au.own h.o (aj wN ⟨gB,1,none⟩ (.int .i64 (((b).at_:Int)+1)))) δ))
 (try replace hX:=ζ ((au.own h.o (aj wN ⟨gB,1,none⟩ (.int .i64 (((b).at_:Int)+1)))).blk hX.o δ))
 (try replace hP:=ζ ((au.own h.o (aj wN ⟨gB,1,none⟩ (.int .i64 (((b).at_:Int)+1)))).blk hP.o δ))
 (try replace hR:=ζ ((au.own h.o (aj wN ⟨gB,1,none⟩ (.int .i64 (((b).at_:Int)+1)))).blk hR.o δ))
 clear c1 f1 l1 i1 h hG;generalize wN.setCell ⟨gB,1,none⟩ (.int .i64 (((b).at_:Int)+1))=w2 at *
 have h:=hA;have hG:=kN;clear hA kN;replace hb:=ζ (Nat.le_trans hb0.o hG.o.size);have aG:Hid (dZ (w2.alloc (.cells #[.int .u64 0,.int .u64 0,.int .u64 0,.int .u64 0] 385)) w2.heap.size dU):=ζ ⟨aF.new w2 _ _,rfl,by intro x hx;simp[dU] at hx;omega⟩;have dw:ah w2 (w2.alloc (.cells #[.int .u64 0,.int .u64 0,.int .u64 0,.int .u64 0] 385)):=(ah.refl _).alloc _;have xW:=ζ h.o.fresh;have uD:=hb;replace hR:=ζ (hR.o.grows dw);replace h:=ζ (h.o.grows dw);replace hG:=ζ (hG.o.trans (au.grows dw hb.o));replace hb:Hid (base≤(w2.alloc (.cells #[.int .u64 0,.int .u64 0,.int .u64 0,.int .u64 0] 385)).heap.size):=ζ (Nat.le_trans hb.o dw.size);clear dw;generalize w2.alloc (.cells #[.int .u64 0,.int .u64 0,.int .u64 0,.int .u64 0] 385)=w3 at *
 rw[hsz.o] at aG xW uD;clear hsz;generalize wN.heap.size=gS at *
 go_wp2_with fail;refine (dQ h.o).mono ?_;rintro e w4 ⟨rfl,dB⟩;replace h:=ζ (h.o.grows dB);replace hG:=ζ (hG.o.trans (au.grows dB hb.o));replace hb:=ζ (Nat.le_trans hb.o dB.size);(try replace aG:=ζ (aG.o.grows dB))
 (try replace hX:=ζ (hX.o.grows dB))
 (try replace hP:=ζ (hP.o.grows dB))
 (try replace hR:=ζ (hR.o.grows dB))
 clear dB;rw[nT];clear nT;have c1:w4.cell? ⟨gB,1,none⟩=some (.int .i64 (((aI b)).at_:Int)):=(h.o.blk.cell 1).trans rfl;have f1:=h.o.blk.frozen 1;have l1:=h.o.blk.lt;have i1: -9223372036854775808≤(((aI b)).at_:Int)+1∧(((aI b)).at_:Int)+1≤9223372036854775807:=by first | omega | (simp only[aI];omega)
 have hA:=ζ h.o.Jf;have kN:=ζ (hG.o.trans ((au.own h.o (aj w4 ⟨gB,1,none⟩ (.int .i64 ((((aI b)).at_:Int)+1)))).mono qF.o));have hsz:Hid ((w4.setCell ⟨gB,1,none⟩ (.int .i64 ((((aI b)).at_:Int)+1))).heap.size=w4.heap.size):=ζ σ;go_wp2_with fail;(try replace aG:=ζ (aG.o.tk (au.own h.o (aj w4 ⟨gB,1,none⟩ (.int .i64 ((((aI b)).at_:Int)+1)))) δ))
 (try replace hX:=ζ ((au.own h.o (aj w4 ⟨gB,1,none⟩ (.int .i64 ((((aI b)).at_:Int)+1)))).blk hX.o δ))
 (try replace hP:=ζ ((au.own h.o (aj w4 ⟨gB,1,none⟩ (.int .i64 ((((aI b)).at_:Int)+1)))).blk hP.o δ))
 (try replace hR:=ζ ((au.own h.o (aj w4 ⟨gB,1,none⟩ (.int .i64 ((((aI b)).at_:Int)+1)))).blk hR.o δ))
 clear c1 f1 l1 i1 h hG;generalize w4.setCell ⟨gB,1,none⟩ (.int .i64 ((((aI b)).at_:Int)+1))=w6 at *
 have h:=hA;have hG:=kN;clear hA kN;replace hb:=ζ (Nat.le_trans hb0.o hG.o.size);refine (jD (lo:=d.toNat) (hi:=d.toNat) aG.o ω ω).mono ?_;rintro e w7 ⟨rfl,yP,iq⟩;replace h:=ζ (h.o.rM aG.o xW.o iq);replace hR:=ζ ((au.set aG.o uD.o iq).blk hR.o δ);replace hG:=ζ (hG.o.trans ((au.set aG.o uD.o iq).mono Xy.o));replace hb:=ζ (Nat.le_trans hb0.o hG.o.size);replace aG:=ζ yP;clear yP iq;go_wp2_with fail;refine (wC h.o aG.o uD.o hb.o (by have:=rZ.o;simp only[aI];omega)).mono ?_;rintro e wE ⟨rfl,xsE,svE,h',dJ⟩;replace h:=ζ h';(try replace hX:=ζ ((dJ.mono lq.o).blk hX.o δ))
 (try replace hP:=ζ ((dJ.mono lq.o).blk hP.o δ))
 (try replace hR:=ζ ((dJ.mono lq.o).blk hR.o δ))
 replace hG:=ζ (hG.o.trans (dJ.mono lq.o));replace hb:=ζ (Nat.le_trans hb0.o hG.o.size);clear h' dJ aG;generalize hr:jy (kE dU d.toNat d.toNat) (aI (aI b))=r at *
 obtain⟨rb,p1,p2⟩:=r;simp only[dh];(try clear nH);(try clear nG);(try clear mV);(try clear ny);(try clear ni)
 have nH:wE.cell? ⟨gR,0,none⟩=_:=hR.o.cell 0;have nG:wE.cell? ⟨gR,1,none⟩=_:=hR.o.cell 1;have ny:=hR.o.frozen 0;have ni:=hR.o.frozen 1;have mV:=hR.o.lt;go_wp2;clear nH nG ny ni mV;have jh:=hR.o.aW 0 (.int .i64 (p1:Int));have lX:=jh.aW 1 (.int .i64 (p2:Int));have pR:=(hG.o.dn (g:=gR) (i:=0) hgr.o hb0.o (.int .i64 (p1:Int))).dn (g:=gR) (i:=1) hgr.o hb0.o (.int .i64 (p2:Int));have uM:=(h.o.far hR.o δ (aj wE ⟨gR,0,none⟩ (.int .i64 (p1:Int)))).far jh δ (aj _ ⟨gR,1,none⟩ (.int .i64 (p2:Int)));clear hR hG h jh;generalize (wE.setCell ⟨gR,0,none⟩ (.int .i64 (p1:Int))).setCell ⟨gR,1,none⟩ (.int .i64 (p2:Int))=w7 at *
 have e0:=lX.c0;have e1:=lX.c1;refine bodyPost_ret (v:=dh (p1,p2)) ?_ rfl ⟨?_,?_⟩
 ·simp[dh,results,Tryz.results274,go_sem,e0,e1]
 ·rw[hat.o]
 ·rw[hat.o];exact⟨_,_,uM,pR⟩
end Go.Proofs.YtbhikkgpcmkonaaGreatDoor
namespace Go.Proofs.YtbhikkgpcmkonaaGreatDoor
open Go.RowKit
theorem afS {w:World} {base gB dp:Nat} {s:List UInt8} {b:PB} {c:UInt8} {sub:Option (PB→PB×rD)} {xs:List vP} {sv:Value} (h:jd w base gB s b xs sv) (hb:base≤w.heap.size) (xR:s.length≤100) (hcs:s[b.at_]? = some c) (hc:dR b≤8*b.at_+61) (vU:¬c = 40) (BN:¬c = 91) (IB:¬c = 46) (OM:¬c = 92) (Nk:aaj c = true) :
 Calls Tryz.prog 274 #[.pointer (some ⟨gB,0,none⟩),.int .i64 (dp:Int)] w (gY base gB s w (bW s sub c b)):=by
 have i40:¬(c.toNat:Int)=40:=fun e=>vU (UInt8.toNat_inj.1 (by show c.toNat=40;omega))
 have i91:¬(c.toNat:Int)=91:=fun e=>BN (UInt8.toNat_inj.1 (by show c.toNat=91;omega))
 have i46:¬(c.toNat:Int)=46:=fun e=>IB (UInt8.toNat_inj.1 (by show c.toNat=46;omega))
 have i92:¬(c.toNat:Int)=92:=fun e=>OM (UInt8.toNat_inj.1 (by show c.toNat=92;omega))
 have cI:=ζ (fun W=>JQ W c);have OB:c.toNat<256:=c.toNat_lt;have rZ:=ζ (iH b);have AQ:Hid ((aI b).at_≤s.length):=ζ (by have:=(List.getElem?_eq_some_iff.1 hcs).1;simp only[aI];omega);have Ns:=(SH c).1 Nk;have hat:Hid (bW s sub c b = jy dU (aZ 2 (aI b))):=ζ (by unfold bW;rw[if_neg vU,if_neg BN,if_neg IB,if_neg OM,if_pos Nk]);clear vU BN IB OM Nk;generalize Lib.indexByte [42,43,63,124,40,41,91,93,92,46] c = ki at *
 have hlt:b.at_<s.length:=(List.getElem?_eq_some_iff.1 hcs).1;have qF:Hid (∀t∈[358],t∈TS):=ζ (by intro t ht;simp[TS,TB] at *;exact .inr (.inl ht));have lq:Hid (∀t∈TB,t∈TS):=ζ (fun t ht=>List.mem_cons_of_mem _ ht);have Xy:Hid (∀t∈TC,t∈TS):=ζ (by intro t ht;simp[TS,TB,TC] at *;rcases ht with h | h;exact .inr (.inl h);exact .inl h);have hR:=aF.new w 360 #[.int .i64 0,.int .i64 0];have hg1:ah w (w.alloc (.cells #[.int .i64 0,.int .i64 0] 360)):=(ah.refl _).alloc _;replace hR:=ζ hR;have hG:=ζ (au.grows (T:=TS) hg1 hb);replace h:=ζ (h.grows hg1);have hb0:Hid (BLe base w):=ζ hb;replace hb:=ζ (Nat.le_trans hb hg1.size);have hgr:Hid (GLe w w.heap.size):=ζ (Nat.le_refl _);have hci:((b.at_:Nat):Int)<(s.length:Int):=ω;have zU:∀h:b.at_<(⟨s.toArray⟩:ByteArray).size,(⟨s.toArray⟩:ByteArray)[b.at_]'h = c:=fun h=>by
  show s.toArray[b.at_]=c
  rw[List.getElem_toArray];exact (List.getElem?_eq_some_iff.1 hcs).2
 have c0:∀w',jd w' base gB s b xs sv→w'.cell? ⟨gB,0,none⟩=some (.string ⟨s.toArray⟩):=fun w' hh=>(hh.blk.cell 0).trans rfl
 have c1:∀w',jd w' base gB s b xs sv→w'.cell? ⟨gB,1,none⟩=some (.int .i64 (b.at_:Int)):=fun w' hh=>(hh.blk.cell 1).trans rfl
 replace c0:=c0 _ h.o;replace c1:=c1 _ h.o;have l1:=h.o.blk.lt;clear hg1;go_enter Tryz.func274,Tryz.ntmps274
 go_wp2_with fail;generalize w.alloc (.cells #[.int .i64 0,.int .i64 0] 360)=w0 at *
 generalize w.heap.size=gR at *
 refine aH κ ?_;refine rK (.range 10) 0 ?_;iterate 10 refine aC ?_
 refine aB ?_;refine aJ κ (fun wN hN hS=> ?_);clear c0 c1 l1;replace hR:=ζ (hR.o.grows hN);replace h:=ζ (h.o.grows hN);replace hG:=ζ (hG.o.trans (au.grows hN hb.o));replace hb:=ζ (Nat.le_trans hb.o hN.size);clear hN hS;have c1:wN.cell? ⟨gB,1,none⟩=some (.int .i64 ((b).at_:Int)):=(h.o.blk.cell 1).trans rfl;have f1:=h.o.blk.frozen 1;have l1:=h.o.blk.lt;have i1: -9223372036854775808≤((b).at_:Int)+1∧((b).at_:Int)+1≤9223372036854775807:=by first | omega | (simp only[aI];omega)
 have hA:=ζ h.o.Jf;have kN:=ζ (hG.o.trans ((au.own h.o (aj wN ⟨gB,1,none⟩ (.int .i64 (((b).at_:Int)+1)))).mono qF.o));have hsz:Hid ((wN.setCell ⟨gB,1,none⟩ (.int .i64 (((b).at_:Int)+1))).heap.size=wN.heap.size):=ζ σ;go_wp2_with fail;(try replace aG:=ζ (aG.o.tk (au.own h.o (aj wN ⟨gB,1,none⟩ (.int .i64 (((b).at_:Int)+1)))) δ))
 (try replace hX:=ζ ((au.own h.o (aj wN ⟨gB,1,none⟩ (.int .i64 (((b).at_:Int)+1)))).blk hX.o δ))
 (try replace hP:=ζ ((au.own h.o (aj wN ⟨gB,1,none⟩ (.int .i64 (((b).at_:Int)+1)))).blk hP.o δ))
 (try replace hR:=ζ ((au.own h.o (aj wN ⟨gB,1,none⟩ (.int .i64 (((b).at_:Int)+1)))).blk hR.o δ))
 clear c1 f1 l1 i1 h hG;generalize wN.setCell ⟨gB,1,none⟩ (.int .i64 (((b).at_:Int)+1))=w2 at *
 have h:=hA;have hG:=kN;clear hA kN;replace hb:=ζ (Nat.le_trans hb0.o hG.o.size);have aG:Hid (dZ (w2.alloc (.cells #[.int .u64 0,.int .u64 0,.int .u64 0,.int .u64 0] 385)) w2.heap.size dU):=ζ ⟨aF.new w2 _ _,rfl,by intro x hx;simp[dU] at hx;omega⟩;have dw:ah w2 (w2.alloc (.cells #[.int .u64 0,.int .u64 0,.int .u64 0,.int .u64 0] 385)):=(ah.refl _).alloc _;have xW:=ζ h.o.fresh;have uD:=hb;replace hR:=ζ (hR.o.grows dw);replace h:=ζ (h.o.grows dw);replace hG:=ζ (hG.o.trans (au.grows dw hb.o));replace hb:Hid (base≤(w2.alloc (.cells #[.int .u64 0,.int .u64 0,.int .u64 0,.int .u64 0] 385)).heap.size):=ζ (Nat.le_trans hb.o dw.size);clear dw;generalize w2.alloc (.cells #[.int .u64 0,.int .u64 0,.int .u64 0,.int .u64 0] 385)=w3 at *
 rw[hsz.o] at aG xW uD;clear hsz;generalize wN.heap.size=gS at *
 refine (cI.out _).mono ?_;rintro e wI ⟨rfl,Xg⟩;replace Xg:=Xg.symm;subst Xg;go_wp2_with fail;refine (ji h.o).mono ?_;rintro e w4 ⟨rfl,Uc,dB⟩;(try replace aG:=ζ (aG.o.tk (au.own h.o dB) δ))
 (try replace hX:=ζ ((au.own h.o dB).blk hX.o δ))
 (try replace hP:=ζ ((au.own h.o dB).blk hP.o δ))
 (try replace hR:=ζ ((au.own h.o dB).blk hR.o δ))
 replace hG:=ζ (hG.o.trans ((au.own h.o dB).mono qF.o));replace h:=ζ Uc;replace hb:=ζ (Nat.le_trans hb0.o hG.o.size);clear Uc dB;go_wp2_with fail;refine (wC h.o aG.o uD.o hb.o (by rw[iG];have:=rZ.o;simp only[aI];omega)).mono ?_;rintro e wE ⟨rfl,xsE,svE,h',dJ⟩;replace h:=ζ h';(try replace hX:=ζ ((dJ.mono lq.o).blk hX.o δ))
 (try replace hP:=ζ ((dJ.mono lq.o).blk hP.o δ))
 (try replace hR:=ζ ((dJ.mono lq.o).blk hR.o δ))
 replace hG:=ζ (hG.o.trans (dJ.mono lq.o));replace hb:=ζ (Nat.le_trans hb0.o hG.o.size);clear h' dJ aG;generalize hr:jy dU (aZ 2 (aI b))=r at *
 obtain⟨rb,p1,p2⟩:=r;simp only[dh];(try clear nH);(try clear nG);(try clear mV);(try clear ny);(try clear ni)
 have nH:wE.cell? ⟨gR,0,none⟩=_:=hR.o.cell 0;have nG:wE.cell? ⟨gR,1,none⟩=_:=hR.o.cell 1;have ny:=hR.o.frozen 0;have ni:=hR.o.frozen 1;have mV:=hR.o.lt;go_wp2;clear nH nG ny ni mV;have jh:=hR.o.aW 0 (.int .i64 (p1:Int));have lX:=jh.aW 1 (.int .i64 (p2:Int));have pR:=(hG.o.dn (g:=gR) (i:=0) hgr.o hb0.o (.int .i64 (p1:Int))).dn (g:=gR) (i:=1) hgr.o hb0.o (.int .i64 (p2:Int));have uM:=(h.o.far hR.o δ (aj wE ⟨gR,0,none⟩ (.int .i64 (p1:Int)))).far jh δ (aj _ ⟨gR,1,none⟩ (.int .i64 (p2:Int)));clear hR hG h jh;generalize (wE.setCell ⟨gR,0,none⟩ (.int .i64 (p1:Int))).setCell ⟨gR,1,none⟩ (.int .i64 (p2:Int))=w7 at *
 have e0:=lX.c0;have e1:=lX.c1;refine bodyPost_ret (v:=dh (p1,p2)) ?_ rfl ⟨?_,?_⟩
 ·simp[dh,results,Tryz.results274,go_sem,e0,e1]
 ·rw[hat.o]
 ·rw[hat.o];exact⟨_,_,uM,pR⟩
end Go.Proofs.YtbhikkgpcmkonaaGreatDoor
namespace Go.Proofs.YtbhikkgpcmkonaaGreatDoor
open Go.RowKit
theorem Yc {w:World} {base gB dp:Nat} {s:List UInt8} {b:PB} {c:UInt8} {sub:Option (PB→PB×rD)} {xs:List vP} {sv:Value} (h:jd w base gB s b xs sv) (hb:base≤w.heap.size) (xR:s.length≤100) (hcs:s[b.at_]? = some c) (hc:dR b≤8*b.at_+61) (vU:¬c = 40) (BN:¬c = 91) (IB:¬c = 46) (OM:¬c = 92) (Nk:¬aaj c = true) :
 Calls Tryz.prog 274 #[.pointer (some ⟨gB,0,none⟩),.int .i64 (dp:Int)] w (gY base gB s w (bW s sub c b)):=by
 have i40:¬(c.toNat:Int)=40:=fun e=>vU (UInt8.toNat_inj.1 (by show c.toNat=40;omega))
 have i91:¬(c.toNat:Int)=91:=fun e=>BN (UInt8.toNat_inj.1 (by show c.toNat=91;omega))
 have i46:¬(c.toNat:Int)=46:=fun e=>IB (UInt8.toNat_inj.1 (by show c.toNat=46;omega))
 have i92:¬(c.toNat:Int)=92:=fun e=>OM (UInt8.toNat_inj.1 (by show c.toNat=92;omega))
 have cI:=ζ (fun W=>JQ W c);have OB:c.toNat<256:=c.toNat_lt;have rZ:=ζ (iH b);have AQ:Hid ((aI b).at_≤s.length):=ζ (by have:=(List.getElem?_eq_some_iff.1 hcs).1;simp only[aI];omega);have Ns:¬0≤Lib.indexByte [42,43,63,124,40,41,91,93,92,46] c:=fun hh=>Nk ((SH c).2 hh)
 have hat:Hid (bW s sub c b = jy (kE dU c.toNat c.toNat) (aI b)):=ζ (by unfold bW;rw[if_neg vU,if_neg BN,if_neg IB,if_neg OM,if_neg Nk]);clear vU BN IB OM Nk;generalize Lib.indexByte [42,43,63,124,40,41,91,93,92,46] c = ki at *
 have aoR:ki<0:=ω;have hlt:b.at_<s.length:=(List.getElem?_eq_some_iff.1 hcs).1;have qF:Hid (∀t∈[358],t∈TS):=ζ (by intro t ht;simp[TS,TB] at *;exact .inr (.inl ht));have lq:Hid (∀t∈TB,t∈TS):=ζ (fun t ht=>List.mem_cons_of_mem _ ht);have Xy:Hid (∀t∈TC,t∈TS):=ζ (by intro t ht;simp[TS,TB,TC] at *;rcases ht with h | h;exact .inr (.inl h);exact .inl h);have hR:=aF.new w 360 #[.int .i64 0,.int .i64 0];have hg1:ah w (w.alloc (.cells #[.int .i64 0,.int .i64 0] 360)):=(ah.refl _).alloc _;replace hR:=ζ hR;have hG:=ζ (au.grows (T:=TS) hg1 hb);replace h:=ζ (h.grows hg1);have hb0:Hid (BLe base w):=ζ hb;replace hb:=ζ (Nat.le_trans hb hg1.size);have hgr:Hid (GLe w w.heap.size):=ζ (Nat.le_refl _);have hci:((b.at_:Nat):Int)<(s.length:Int):=ω;have zU:∀h:b.at_<(⟨s.toArray⟩:ByteArray).size,(⟨s.toArray⟩:ByteArray)[b.at_]'h = c:=fun h=>by
  show s.toArray[b.at_]=c
  rw[List.getElem_toArray];exact (List.getElem?_eq_some_iff.1 hcs).2
 have c0:∀w',jd w' base gB s b xs sv→w'.cell? ⟨gB,0,none⟩=some (.string ⟨s.toArray⟩):=fun w' hh=>(hh.blk.cell 0).trans rfl
 have c1:∀w',jd w' base gB s b xs sv→w'.cell? ⟨gB,1,none⟩=some (.int .i64 (b.at_:Int)):=fun w' hh=>(hh.blk.cell 1).trans rfl
 replace c0:=c0 _ h.o;replace c1:=c1 _ h.o;have l1:=h.o.blk.lt;clear hg1;go_enter Tryz.func274,Tryz.ntmps274
 go_wp2_with fail;generalize w.alloc (.cells #[.int .i64 0,.int .i64 0] 360)=w0 at *
 generalize w.heap.size=gR at *
 refine aH κ ?_;refine rK (.range 10) 0 ?_;iterate 10 refine aC ?_
 refine aB ?_;refine aJ κ (fun wN hN hS=> ?_);clear c0 c1 l1;replace hR:=ζ (hR.o.grows hN);replace h:=ζ (h.o.grows hN);replace hG:=ζ (hG.o.trans (au.grows hN hb.o));replace hb:=ζ (Nat.le_trans hb.o hN.size);clear hN hS;have c1:wN.cell? ⟨gB,1,none⟩=some (.int .i64 ((b).at_:Int)):=(h.o.blk.cell 1).trans rfl;have f1:=h.o.blk.frozen 1;have l1:=h.o.blk.lt;have i1: -9223372036854775808≤((b).at_:Int)+1∧((b).at_:Int)+1≤9223372036854775807:=by first | omega | (simp only[aI];omega)
 have hA:=ζ h.o.Jf;have kN:=ζ (hG.o.trans ((au.own h.o (aj wN ⟨gB,1,none⟩ (.int .i64 (((b).at_:Int)+1)))).mono qF.o));have hsz:Hid ((wN.setCell ⟨gB,1,none⟩ (.int .i64 (((b).at_:Int)+1))).heap.size=wN.heap.size):=ζ σ;go_wp2_with fail;(try replace aG:=ζ (aG.o.tk (au.own h.o (aj wN ⟨gB,1,none⟩ (.int .i64 (((b).at_:Int)+1)))) δ))
 (try replace hX:=ζ ((au.own h.o (aj wN ⟨gB,1,none⟩ (.int .i64 (((b).at_:Int)+1)))).blk hX.o δ))
 (try replace hP:=ζ ((au.own h.o (aj wN ⟨gB,1,none⟩ (.int .i64 (((b).at_:Int)+1)))).blk hP.o δ))
 (try replace hR:=ζ ((au.own h.o (aj wN ⟨gB,1,none⟩ (.int .i64 (((b).at_:Int)+1)))).blk hR.o δ))
 clear c1 f1 l1 i1 h hG;generalize wN.setCell ⟨gB,1,none⟩ (.int .i64 (((b).at_:Int)+1))=w2 at *
 have h:=hA;have hG:=kN;clear hA kN;replace hb:=ζ (Nat.le_trans hb0.o hG.o.size);have aG:Hid (dZ (w2.alloc (.cells #[.int .u64 0,.int .u64 0,.int .u64 0,.int .u64 0] 385)) w2.heap.size dU):=ζ ⟨aF.new w2 _ _,rfl,by intro x hx;simp[dU] at hx;omega⟩;have dw:ah w2 (w2.alloc (.cells #[.int .u64 0,.int .u64 0,.int .u64 0,.int .u64 0] 385)):=(ah.refl _).alloc _;have xW:=ζ h.o.fresh;have uD:=hb;replace hR:=ζ (hR.o.grows dw);replace h:=ζ (h.o.grows dw);replace hG:=ζ (hG.o.trans (au.grows dw hb.o));replace hb:Hid (base≤(w2.alloc (.cells #[.int .u64 0,.int .u64 0,.int .u64 0,.int .u64 0] 385)).heap.size):=ζ (Nat.le_trans hb.o dw.size);clear dw;generalize w2.alloc (.cells #[.int .u64 0,.int .u64 0,.int .u64 0,.int .u64 0] 385)=w3 at *
 rw[hsz.o] at aG xW uD;clear hsz;generalize wN.heap.size=gS at *
 refine (cI.out _).mono ?_;rintro e wI ⟨rfl,Xg⟩;replace Xg:=Xg.symm;subst Xg;go_wp2_with fail;refine (jD (lo:=c.toNat) (hi:=c.toNat) aG.o ω ω).mono ?_;rintro e w7 ⟨rfl,yP,iq⟩;replace h:=ζ (h.o.rM aG.o xW.o iq);replace hR:=ζ ((au.set aG.o uD.o iq).blk hR.o δ);replace hG:=ζ (hG.o.trans ((au.set aG.o uD.o iq).mono Xy.o));replace hb:=ζ (Nat.le_trans hb0.o hG.o.size);replace aG:=ζ yP;clear yP iq;go_wp2_with fail;refine (wC h.o aG.o uD.o hb.o (by have:=rZ.o;simp only[aI];omega)).mono ?_;rintro e wE ⟨rfl,xsE,svE,h',dJ⟩;replace h:=ζ h';(try replace hX:=ζ ((dJ.mono lq.o).blk hX.o δ))
 (try replace hP:=ζ ((dJ.mono lq.o).blk hP.o δ))
 (try replace hR:=ζ ((dJ.mono lq.o).blk hR.o δ))
 replace hG:=ζ (hG.o.trans (dJ.mono lq.o));replace hb:=ζ (Nat.le_trans hb0.o hG.o.size);clear h' dJ aG;generalize hr:jy (kE dU c.toNat c.toNat) (aI b)=r at *
 obtain⟨rb,p1,p2⟩:=r;simp only[dh];(try clear nH);(try clear nG);(try clear mV);(try clear ny);(try clear ni)
 have nH:wE.cell? ⟨gR,0,none⟩=_:=hR.o.cell 0;have nG:wE.cell? ⟨gR,1,none⟩=_:=hR.o.cell 1;have ny:=hR.o.frozen 0;have ni:=hR.o.frozen 1;have mV:=hR.o.lt;go_wp2;clear nH nG ny ni mV;have jh:=hR.o.aW 0 (.int .i64 (p1:Int));have lX:=jh.aW 1 (.int .i64 (p2:Int));have pR:=(hG.o.dn (g:=gR) (i:=0) hgr.o hb0.o (.int .i64 (p1:Int))).dn (g:=gR) (i:=1) hgr.o hb0.o (.int .i64 (p2:Int));have uM:=(h.o.far hR.o δ (aj wE ⟨gR,0,none⟩ (.int .i64 (p1:Int)))).far jh δ (aj _ ⟨gR,1,none⟩ (.int .i64 (p2:Int)));clear hR hG h jh;generalize (wE.setCell ⟨gR,0,none⟩ (.int .i64 (p1:Int))).setCell ⟨gR,1,none⟩ (.int .i64 (p2:Int))=w7 at *
 have e0:=lX.c0;have e1:=lX.c1;refine bodyPost_ret (v:=dh (p1,p2)) ?_ rfl ⟨?_,?_⟩
 ·simp[dh,results,Tryz.results274,go_sem,e0,e1]
 ·rw[hat.o]
 ·rw[hat.o];exact⟨_,_,uM,pR⟩
end Go.Proofs.YtbhikkgpcmkonaaGreatDoor
