/- Parts: Shelf3 PatK PatL PatLa PatLb PatLc PatLd PatLe PatLf -/
import Derived.Test.YteojanlajhebhaaGreatDoorGs0
import Derived.Shelf.Small.Strs
import Derived.Test.YteojanlajhebhaaGreatDoorProg
import Derived.Test.YteojanlajhebhaaGreatDoorGs23
set_option maxRecDepth 100000
set_option maxHeartbeats 12800000
namespace Go.Proofs
open Go.Shelf
def Tryz.ZH:Go.Shelf.Ren:=⟨fun | 137=>180 | 217=>195 | 266=>203 | n=>n,fun | 9=>9 | 5=>5 | 3=>3 | n=>n,fun | n=>n⟩
theorem Tryz.aez:Go.Proofs.Lays.n137 Tryz.prog Tryz.ZH:={
 mixed:=by kernel_rfl
 f137:=Tryz.func180.trans (congrArg some κ)
 f217:=Tryz.func195.trans (congrArg some κ)
 f266:=Tryz.func203.trans (congrArg some κ)
 t3:=Tryz.underlying3
 a3:=Tryz.isAgg3
 z3:=Tryz.sizeOf3
 v3:=Tryz.zeroValue3
 t5:=Tryz.underlying5
 a5:=Tryz.isAgg5
 z5:=Tryz.sizeOf5
 v5:=Tryz.zeroValue5
 t9:=Tryz.underlying9
 a9:=Tryz.isAgg9
 z9:=Tryz.sizeOf9
 v9:=Tryz.zeroValue9}
end Go.Proofs
namespace Go.Proofs.YteojanlajhebhaaGreatDoor
open Go.RowKit
theorem wo (b:PB):gJ (bg b)=gJ b + 1:=by simp[gJ,bg,lS,fD];omega
theorem wu (i j:Nat) (b:PB):gJ (bG i j b)≤gJ b + 1:=by have:=MR b.aT i j;simp[bG,gJ];omega
theorem Ov (b:PB):gJ (aH b)=gJ b:=rfl
theorem lD (b:PB):b.aT.length≤gJ b:=by unfold gJ;omega
theorem NJ (c:UInt8):(JR c = true↔0≤Lib.indexByte [42,43,63] c)∧(JR c = true→c = 42∨c = 43∨c = 63):=by
 unfold JR;by_cases h1:c = 42
 ·subst h1;decide
 ·by_cases h2:c = 43
  ·subst h2;decide
  ·by_cases h3:c = 63
   ·subst h3;decide
   ·have e1:((42:UInt8)==c)=false:=by simpa using Ne.symm h1
    have e2:((43:UInt8)==c)=false:=by simpa using Ne.symm h2
    have e3:((63:UInt8)==c)=false:=by simpa using Ne.symm h3
    simp[Lib.indexByte,e1,e2,e3,h1,h2,h3]
theorem O4 (W:World) (c:UInt8):Calls Tryz.prog 180 #[.string {data:= #[42,43,63]},.int .u8 (c.toNat:Int)] W fun e w'=>e =.returned (.int .i64 (Lib.indexByte [42,43,63] c))∧w'=W:=by
 have:=Any.strings_IndexByte Tryz.aez {data:= #[42,43,63]} (c.toNat:Int) W;rw[show (c.toNat:Int).toNat.toUInt8=c by simp] at this;exact this
def BLe (base:Nat) (w:World):Prop:=base≤w.heap.size
def GLe (w:World) (g:Nat):Prop:=w.heap.size≤g
theorem afm {w:World} {base gB:Nat} {s:List UInt8} {b:PB} {x:qW} {xs:List DI} {sv:Value} (h:ni w base gB s b xs sv) (hb:base≤w.heap.size) (hx:Nk x b) (hat:b.at_<1000000) (hc:gJ b < 100000000) :
 Calls Tryz.prog 175 #[.pointer (some ⟨gB,0,none⟩),eG x] w (aaG base gB s w (eX s b x)):=by
 obtain⟨x1,x2⟩:=x;have hX:=aS.new w 208 #[.int .i64 (x1:Int),.int .i64 (x2:Int)];have hg1:ah w (w.alloc (.cells #[.int .i64 (x1:Int),.int .i64 (x2:Int)] 208)):=(ah.refl _).alloc _;have hR:aS ((w.alloc (.cells #[.int .i64 (x1:Int),.int .i64 (x2:Int)] 208)).alloc (.cells #[.int .i64 0,.int .i64 0] 208)) (w.heap.size+1) 208 #[.int .i64 0,.int .i64 0]:=by
  have:=aS.new (w.alloc (.cells #[.int .i64 (x1:Int),.int .i64 (x2:Int)] 208)) 208 #[.int .i64 0,.int .i64 0];simpa using this
 have hg2:=hg1.alloc (.cells #[.int .i64 0,.int .i64 0] 208);replace hX:=ζ (hX.alloc (.cells #[.int .i64 0,.int .i64 0] 208));replace hR:=ζ hR;have hG:=ζ (aC.grows (T:=TB) hg2 hb);replace h:=ζ (h.grows hg2);have hb0:Hid (BLe base w):=ζ hb;replace hb:=ζ (Nat.le_trans hb hg2.size);have hgr:Hid (GLe w (w.heap.size+1)):=ζ (Nat.le_succ _);clear hg1 hg2;cases hp:kK s b with
 | none=>
  have htp:eX s b (x1,x2)=(b,(x1,x2)):=by unfold eX;rw[hp]
  have jm:iV s b =.tuple #[.int .u8 0,.bool false]:=by simp only[iV,hp]
  rw[htp];clear hp htp;unfold eG;go_enter Tryz.func175,Tryz.ntmps175
  go_wp2_with fail;refine (g_ h.o).mono ?_;rintro e w1 ⟨rfl,bZ⟩;replace h:=ζ (h.o.grows bZ);replace hG:=ζ (hG.o.trans (aC.grows bZ hb.o));replace hb:=ζ (Nat.le_trans hb.o bZ.size);(try replace aO:=ζ (aO.o.grows bZ))
  (try replace hX:=ζ (hX.o.grows bZ))
  (try replace hP:=ζ (hP.o.grows bZ))
  (try replace hR:=ζ (hR.o.grows bZ))
  clear bZ;rw[jm];clear jm;generalize w.heap.size=gX at *
  generalize gX+1=gR at *
  (try clear Ug);(try clear Uf);(try clear TV);(try clear Ue);(try clear Ud)
  have Ug:w1.cell? ⟨gX,0,none⟩=_:=hX.o.cell 0;have Uf:w1.cell? ⟨gX,1,none⟩=_:=hX.o.cell 1;have Ue:=hX.o.frozen 0;have Ud:=hX.o.frozen 1;have TV:=hX.o.lt;(try clear uT);(try clear uS);(try clear uG);(try clear uP);(try clear uO)
  have uT:w1.cell? ⟨gR,0,none⟩=_:=hR.o.cell 0;have uS:w1.cell? ⟨gR,1,none⟩=_:=hR.o.cell 1;have uP:=hR.o.frozen 0;have uO:=hR.o.frozen 1;have uG:=hR.o.lt;go_wp2;clear Ug Uf Ue Ud TV;clear uT uS uP uO uG;have nN:=hR.o.dO 0 (.int .i64 (x1:Int));have t_:=nN.dO 1 (.int .i64 (x2:Int));have vT:=(hG.o.eY (g:=gR) (i:=0) hgr.o hb0.o (.int .i64 (x1:Int))).eY (g:=gR) (i:=1) hgr.o hb0.o (.int .i64 (x2:Int));have E5:=(h.o.far hR.o δ (aj w1 ⟨gR,0,none⟩ (.int .i64 (x1:Int)))).far nN δ (aj _ ⟨gR,1,none⟩ (.int .i64 (x2:Int)));clear hR hG h nN;generalize (w1.setCell ⟨gR,0,none⟩ (.int .i64 (x1:Int))).setCell ⟨gR,1,none⟩ (.int .i64 (x2:Int))=w7 at *
  have e0:=t_.c0;have e1:=t_.c1;refine bodyPost_ret (v:=eG (x1,x2)) ?_ rfl ⟨?_,?_⟩
  ·simp[eG,results,Tryz.results175,go_sem,e0,e1]
  ·rfl
  ·exact⟨_,_,E5,vT⟩
 | some c=>
  have jm:iV s b =.tuple #[.int .u8 (c.toNat:Int),.bool true]:=by simp only[iV,hp]
  by_cases SQ:JR c = true
  ·have an_:gJ (aH b)<100000000:=hc;have Il:=(NJ c).1.1 SQ;have cI:=ζ (fun W=>O4 W c);generalize Lib.indexByte [42,43,63] c = ki at *
   have asw:¬ki<0:=ω;have htp:eX s b (x1,x2)=((if c = 63 then (if c = 43 then bG x2 (b.aT.length+1) (bG b.aT.length x1 (bg (bg (aH b)))) else bG b.aT.length (b.aT.length+1) (bG x2 (b.aT.length+1) (bG b.aT.length x1 (bg (bg (aH b)))))) else bG x2 x1 (if c = 43 then bG x2 (b.aT.length+1) (bG b.aT.length x1 (bg (bg (aH b)))) else bG b.aT.length (b.aT.length+1) (bG x2 (b.aT.length+1) (bG b.aT.length x1 (bg (bg (aH b))))))),(b.aT.length,b.aT.length+1)):=by
    unfold eX;rw[hp];simp only[SQ,if_true]
   have yg:Hid (∀t∈[206],t∈TB):=ζ (by intro t ht;simp[TB] at *;exact .inl ht);replace htp:=ζ htp;replace Il:=ζ Il;have hx1:=hx.1;have hx2:=hx.2;unfold eG;go_enter Tryz.func175,Tryz.ntmps175
   go_wp2_with fail;refine (g_ h.o).mono ?_;rintro e w1 ⟨rfl,bZ⟩;replace h:=ζ (h.o.grows bZ);replace hG:=ζ (hG.o.trans (aC.grows bZ hb.o));replace hb:=ζ (Nat.le_trans hb.o bZ.size);(try replace aO:=ζ (aO.o.grows bZ))
   (try replace hX:=ζ (hX.o.grows bZ))
   (try replace hP:=ζ (hP.o.grows bZ))
   (try replace hR:=ζ (hR.o.grows bZ))
   clear bZ;rw[jm];clear jm;go_wp2_with fail;refine (cI.out _).mono ?_;rintro e wI ⟨rfl,hwI⟩;replace hwI:=hwI.symm;subst hwI;generalize w.heap.size=gX at *
   generalize gX+1=gR at *
   have c1:w1.cell? ⟨gB,1,none⟩=some (.int .i64 ((b).at_:Int)):=(h.o.blk.cell 1).trans rfl;have f1:=h.o.blk.frozen 1;have l1:=h.o.blk.lt;have i1: -9223372036854775808≤((b).at_:Int)+1∧((b).at_:Int)+1≤9223372036854775807:=by first | omega | (simp only[aH];omega)
   have hA:=ζ h.o.EW;have gU:=ζ (hG.o.trans ((aC.own h.o (aj w1 ⟨gB,1,none⟩ (.int .i64 (((b).at_:Int)+1)))).mono yg.o));have hsz:Hid ((w1.setCell ⟨gB,1,none⟩ (.int .i64 (((b).at_:Int)+1))).heap.size=w1.heap.size):=ζ σ;go_wp2_with fail;(try replace aO:=ζ (aO.o.tk (aC.own h.o (aj w1 ⟨gB,1,none⟩ (.int .i64 (((b).at_:Int)+1)))) δ))
   (try replace hX:=ζ ((aC.own h.o (aj w1 ⟨gB,1,none⟩ (.int .i64 (((b).at_:Int)+1)))).blk hX.o δ))
   (try replace hP:=ζ ((aC.own h.o (aj w1 ⟨gB,1,none⟩ (.int .i64 (((b).at_:Int)+1)))).blk hP.o δ))
   (try replace hR:=ζ ((aC.own h.o (aj w1 ⟨gB,1,none⟩ (.int .i64 (((b).at_:Int)+1)))).blk hR.o δ))
   clear c1 f1 l1 i1 h hG;generalize w1.setCell ⟨gB,1,none⟩ (.int .i64 (((b).at_:Int)+1))=w2 at *
   have h:=hA;have hG:=gU;clear hA gU;replace hb:=ζ (Nat.le_trans hb0.o hG.o.size);refine (Au h.o hb.o (by have:=lD (aH b);omega)).mono ?_;rintro e w3 ⟨rfl,sv3,h',fH⟩;replace h:=ζ h';clear h';(try replace hX:=ζ (fH.blk hX.o δ))
   (try replace hP:=ζ (fH.blk hP.o δ))
   (try replace hR:=ζ (fH.blk hR.o δ))
   replace hG:=ζ (hG.o.trans fH);replace hb:=ζ (Nat.le_trans hb0.o hG.o.size);clear fH;go_wp2_with fail;refine (Au h.o hb.o (by have:=lD (bg (aH b));have:=wo (aH b);omega)).mono ?_;rintro e w4 ⟨rfl,sv4,h',fH⟩;replace h:=ζ h';clear h';(try replace hX:=ζ (fH.blk hX.o δ))
   (try replace hP:=ζ (fH.blk hP.o δ))
   (try replace hR:=ζ (fH.blk hR.o δ))
   replace hG:=ζ (hG.o.trans fH);replace hb:=ζ (Nat.le_trans hb0.o hG.o.size);clear fH;rw[d_,show (aH b).aT.length=b.aT.length from rfl];have hn:(bg (bg (aH b))).aT.length=b.aT.length+2:=by simp[bg,aH]
   have hcn:gJ (bg (bg (aH b)))≤gJ b + 2:=by rw[wo,wo,Ov];omega
   generalize b.aT.length=N at *
   generalize YC:bg (bg (aH b))=b0 at *
   replace YC:=ζ YC;(try clear Ug);(try clear Uf);(try clear TV);(try clear Ue);(try clear Ud)
   have Ug:w4.cell? ⟨gX,0,none⟩=_:=hX.o.cell 0;have Uf:w4.cell? ⟨gX,1,none⟩=_:=hX.o.cell 1;have Ue:=hX.o.frozen 0;have Ud:=hX.o.frozen 1;have TV:=hX.o.lt;go_wp2_with fail;clear Ug Uf Ue Ud TV;have hP:=aS.new w4 208 #[.int .i64 (N:Int),.int .i64 ((N:Int)+1)];have dF:ah w4 (w4.alloc (.cells #[.int .i64 (N:Int),.int .i64 ((N:Int)+1)] 208)):=(ah.refl _).alloc _;(try replace hX:=ζ (hX.o.grows dF))
   (try replace hR:=ζ (hR.o.grows dF))
   replace h:=ζ (h.o.grows dF);replace hG:=ζ (hG.o.trans (aC.grows dF hb.o));replace hb:=ζ (Nat.le_trans hb.o dF.size);clear dF;generalize w4.alloc (.cells #[.int .i64 (N:Int),.int .i64 ((N:Int)+1)] 208)=w5 at *
   generalize w4.heap.size=gP at *
   replace hP:=ζ hP;refine (uK h.o hb.o ω ω).mono ?_;rintro e w6 ⟨rfl,xs',h',fH⟩;replace h:=ζ h';clear h';(try replace hX:=ζ (fH.blk hX.o δ))
   (try replace hP:=ζ (fH.blk hP.o δ))
   (try replace hR:=ζ (fH.blk hR.o δ))
   replace hG:=ζ (hG.o.trans fH);replace hb:=ζ (Nat.le_trans hb0.o hG.o.size);clear fH;have hc6:=wu N x1 b0;(try clear Ug);(try clear Uf);(try clear TV);(try clear Ue);(try clear Ud)
   have Ug:w6.cell? ⟨gX,0,none⟩=_:=hX.o.cell 0;have Uf:w6.cell? ⟨gX,1,none⟩=_:=hX.o.cell 1;have Ue:=hX.o.frozen 0;have Ud:=hX.o.frozen 1;have TV:=hX.o.lt;(try clear wP);(try clear wO);(try clear wK);(try clear xM);(try clear xK)
   have wP:w6.cell? ⟨gP,0,none⟩=_:=hP.o.cell 0;have wO:w6.cell? ⟨gP,1,none⟩=_:=hP.o.cell 1;have xM:=hP.o.frozen 0;have xK:=hP.o.frozen 1;have wK:=hP.o.lt;go_wp2_with fail;refine (uK (i:=x2) (j:=N+1) h.o hb.o (by rw[cu];omega) ω).mono ?_;rintro e w7 ⟨rfl,xs7,h',fH⟩;clear Ug Uf Ue Ud TV;clear wP wO xM xK wK;replace h:=ζ h';clear h';(try replace hX:=ζ (fH.blk hX.o δ))
   (try replace hP:=ζ (fH.blk hP.o δ))
   (try replace hR:=ζ (fH.blk hR.o δ))
   replace hG:=ζ (hG.o.trans fH);replace hb:=ζ (Nat.le_trans hb0.o hG.o.size);clear fH;have hc7:=wu x2 (N+1) (bG N x1 b0);have hn7:(bG x2 (N+1) (bG N x1 b0)).aT.length=N+2:=by rw[cu,cu,hn]
   generalize Lu:bG x2 (N+1) (bG N x1 b0)=b7 at *
   replace Lu:=ζ Lu;rcases (NJ c).2 SQ with rfl | rfl | rfl
   ·have Me:eX s b (x1,x2)=(bG x2 x1 (bG N (N+1) b7),(N,N+1)):=htp.o;replace Me:=ζ Me;clear htp;(try clear wP);(try clear wO);(try clear wK);(try clear xM);(try clear xK)
    have wP:w7.cell? ⟨gP,0,none⟩=_:=hP.o.cell 0;have wO:w7.cell? ⟨gP,1,none⟩=_:=hP.o.cell 1;have xM:=hP.o.frozen 0;have xK:=hP.o.frozen 1;have wK:=hP.o.lt;go_wp2_with fail;refine (uK (i:=N) (j:=N+1) h.o hb.o ω ω).mono ?_;rintro e w8 ⟨rfl,xs8,h',fH⟩;clear wP wO xM xK wK;replace h:=ζ h';clear h';(try replace hX:=ζ (fH.blk hX.o δ))
    (try replace hP:=ζ (fH.blk hP.o δ))
    (try replace hR:=ζ (fH.blk hR.o δ))
    replace hG:=ζ (hG.o.trans fH);replace hb:=ζ (Nat.le_trans hb0.o hG.o.size);clear fH;have hc8:=wu N (N+1) b7;(try clear Ug);(try clear Uf);(try clear TV);(try clear Ue);(try clear Ud)
    have Ug:w8.cell? ⟨gX,0,none⟩=_:=hX.o.cell 0;have Uf:w8.cell? ⟨gX,1,none⟩=_:=hX.o.cell 1;have Ue:=hX.o.frozen 0;have Ud:=hX.o.frozen 1;have TV:=hX.o.lt;go_wp2_with fail;refine (uK (i:=x2) (j:=x1) h.o hb.o (by rw[cu];omega) ω).mono ?_;rintro e w9 ⟨rfl,xs9,h',fH⟩;clear Ug Uf Ue Ud TV;replace h:=ζ h';clear h';(try replace hX:=ζ (fH.blk hX.o δ))
    (try replace hP:=ζ (fH.blk hP.o δ))
    (try replace hR:=ζ (fH.blk hR.o δ))
    replace hG:=ζ (hG.o.trans fH);replace hb:=ζ (Nat.le_trans hb0.o hG.o.size);clear fH;(try clear wP);(try clear wO);(try clear wK);(try clear xM);(try clear xK)
    have wP:w9.cell? ⟨gP,0,none⟩=_:=hP.o.cell 0;have wO:w9.cell? ⟨gP,1,none⟩=_:=hP.o.cell 1;have xM:=hP.o.frozen 0;have xK:=hP.o.frozen 1;have wK:=hP.o.lt;(try clear uT);(try clear uS);(try clear uG);(try clear uP);(try clear uO)
    have uT:w9.cell? ⟨gR,0,none⟩=_:=hR.o.cell 0;have uS:w9.cell? ⟨gR,1,none⟩=_:=hR.o.cell 1;have uP:=hR.o.frozen 0;have uO:=hR.o.frozen 1;have uG:=hR.o.lt;go_wp2;clear wP wO xM xK wK;clear uT uS uP uO uG;clear hP hX;have nN:=hR.o.dO 0 (.int .i64 (N:Int));have t_:=nN.dO 1 (.int .i64 ((N:Int)+1));have vT:=(hG.o.eY (g:=gR) (i:=0) hgr.o hb0.o (.int .i64 (N:Int))).eY (g:=gR) (i:=1) hgr.o hb0.o (.int .i64 ((N:Int)+1));have E5:=(h.o.far hR.o δ (aj w9 ⟨gR,0,none⟩ (.int .i64 (N:Int)))).far nN δ (aj _ ⟨gR,1,none⟩ (.int .i64 ((N:Int)+1)));clear hR hG h nN;generalize (w9.setCell ⟨gR,0,none⟩ (.int .i64 (N:Int))).setCell ⟨gR,1,none⟩ (.int .i64 ((N:Int)+1))=w7 at *
    have e0:=t_.c0;have e1:=t_.c1;refine bodyPost_ret (v:=eG (N,N+1)) ?_ rfl ⟨?_,?_⟩
    ·simp[eG,results,Tryz.results175,go_sem,e0,e1]
    ·rw[Me.o]
    ·rw[Me.o];exact⟨_,_,E5,vT⟩
   ·have Me:eX s b (x1,x2)=(bG x2 x1 b7,(N,N+1)):=htp.o;replace Me:=ζ Me;clear htp;(try clear Ug);(try clear Uf);(try clear TV);(try clear Ue);(try clear Ud)
    have Ug:w7.cell? ⟨gX,0,none⟩=_:=hX.o.cell 0;have Uf:w7.cell? ⟨gX,1,none⟩=_:=hX.o.cell 1;have Ue:=hX.o.frozen 0;have Ud:=hX.o.frozen 1;have TV:=hX.o.lt;go_wp2_with fail;refine (uK (i:=x2) (j:=x1) h.o hb.o ω ω).mono ?_;rintro e w9 ⟨rfl,xs9,h',fH⟩;clear Ug Uf Ue Ud TV;replace h:=ζ h';clear h';(try replace hX:=ζ (fH.blk hX.o δ))
    (try replace hP:=ζ (fH.blk hP.o δ))
    (try replace hR:=ζ (fH.blk hR.o δ))
    replace hG:=ζ (hG.o.trans fH);replace hb:=ζ (Nat.le_trans hb0.o hG.o.size);clear fH;(try clear wP);(try clear wO);(try clear wK);(try clear xM);(try clear xK)
    have wP:w9.cell? ⟨gP,0,none⟩=_:=hP.o.cell 0;have wO:w9.cell? ⟨gP,1,none⟩=_:=hP.o.cell 1;have xM:=hP.o.frozen 0;have xK:=hP.o.frozen 1;have wK:=hP.o.lt;(try clear uT);(try clear uS);(try clear uG);(try clear uP);(try clear uO)
    have uT:w9.cell? ⟨gR,0,none⟩=_:=hR.o.cell 0;have uS:w9.cell? ⟨gR,1,none⟩=_:=hR.o.cell 1;have uP:=hR.o.frozen 0;have uO:=hR.o.frozen 1;have uG:=hR.o.lt;go_wp2;clear wP wO xM xK wK;clear uT uS uP uO uG;clear hP hX;have nN:=hR.o.dO 0 (.int .i64 (N:Int));have t_:=nN.dO 1 (.int .i64 ((N:Int)+1));have vT:=(hG.o.eY (g:=gR) (i:=0) hgr.o hb0.o (.int .i64 (N:Int))).eY (g:=gR) (i:=1) hgr.o hb0.o (.int .i64 ((N:Int)+1));have E5:=(h.o.far hR.o δ (aj w9 ⟨gR,0,none⟩ (.int .i64 (N:Int)))).far nN δ (aj _ ⟨gR,1,none⟩ (.int .i64 ((N:Int)+1)));clear hR hG h nN;generalize (w9.setCell ⟨gR,0,none⟩ (.int .i64 (N:Int))).setCell ⟨gR,1,none⟩ (.int .i64 ((N:Int)+1))=w7 at *
    have e0:=t_.c0;have e1:=t_.c1;refine bodyPost_ret (v:=eG (N,N+1)) ?_ rfl ⟨?_,?_⟩
    ·simp[eG,results,Tryz.results175,go_sem,e0,e1]
    ·rw[Me.o]
    ·rw[Me.o];exact⟨_,_,E5,vT⟩
   ·have Me:eX s b (x1,x2)=(bG N (N+1) b7,(N,N+1)):=htp.o;replace Me:=ζ Me;clear htp;(try clear wP);(try clear wO);(try clear wK);(try clear xM);(try clear xK)
    have wP:w7.cell? ⟨gP,0,none⟩=_:=hP.o.cell 0;have wO:w7.cell? ⟨gP,1,none⟩=_:=hP.o.cell 1;have xM:=hP.o.frozen 0;have xK:=hP.o.frozen 1;have wK:=hP.o.lt;go_wp2_with fail;refine (uK (i:=N) (j:=N+1) h.o hb.o ω ω).mono ?_;rintro e w9 ⟨rfl,xs8,h',fH⟩;clear wP wO xM xK wK;replace h:=ζ h';clear h';(try replace hX:=ζ (fH.blk hX.o δ))
    (try replace hP:=ζ (fH.blk hP.o δ))
    (try replace hR:=ζ (fH.blk hR.o δ))
    replace hG:=ζ (hG.o.trans fH);replace hb:=ζ (Nat.le_trans hb0.o hG.o.size);clear fH;(try clear wP);(try clear wO);(try clear wK);(try clear xM);(try clear xK)
    have wP:w9.cell? ⟨gP,0,none⟩=_:=hP.o.cell 0;have wO:w9.cell? ⟨gP,1,none⟩=_:=hP.o.cell 1;have xM:=hP.o.frozen 0;have xK:=hP.o.frozen 1;have wK:=hP.o.lt;(try clear uT);(try clear uS);(try clear uG);(try clear uP);(try clear uO)
    have uT:w9.cell? ⟨gR,0,none⟩=_:=hR.o.cell 0;have uS:w9.cell? ⟨gR,1,none⟩=_:=hR.o.cell 1;have uP:=hR.o.frozen 0;have uO:=hR.o.frozen 1;have uG:=hR.o.lt;go_wp2;clear wP wO xM xK wK;clear uT uS uP uO uG;clear hP hX;have nN:=hR.o.dO 0 (.int .i64 (N:Int));have t_:=nN.dO 1 (.int .i64 ((N:Int)+1));have vT:=(hG.o.eY (g:=gR) (i:=0) hgr.o hb0.o (.int .i64 (N:Int))).eY (g:=gR) (i:=1) hgr.o hb0.o (.int .i64 ((N:Int)+1));have E5:=(h.o.far hR.o δ (aj w9 ⟨gR,0,none⟩ (.int .i64 (N:Int)))).far nN δ (aj _ ⟨gR,1,none⟩ (.int .i64 ((N:Int)+1)));clear hR hG h nN;generalize (w9.setCell ⟨gR,0,none⟩ (.int .i64 (N:Int))).setCell ⟨gR,1,none⟩ (.int .i64 ((N:Int)+1))=w7 at *
    have e0:=t_.c0;have e1:=t_.c1;refine bodyPost_ret (v:=eG (N,N+1)) ?_ rfl ⟨?_,?_⟩
    ·simp[eG,results,Tryz.results175,go_sem,e0,e1]
    ·rw[Me.o]
    ·rw[Me.o];exact⟨_,_,E5,vT⟩
  ·have Il:¬0≤Lib.indexByte [42,43,63] c:=fun hh=>SQ ((NJ c).1.2 hh)
   have cI:=ζ (fun W=>O4 W c);have htp:eX s b (x1,x2)=(b,(x1,x2)):=by unfold eX;rw[hp];simp only[SQ];rfl
   generalize Lib.indexByte [42,43,63] c = ki at *
   have asw:ki<0:=ω;rw[htp];clear hp htp Il SQ;unfold eG;go_enter Tryz.func175,Tryz.ntmps175
   go_wp2_with fail;refine (g_ h.o).mono ?_;rintro e w1 ⟨rfl,bZ⟩;replace h:=ζ (h.o.grows bZ);replace hG:=ζ (hG.o.trans (aC.grows bZ hb.o));replace hb:=ζ (Nat.le_trans hb.o bZ.size);(try replace aO:=ζ (aO.o.grows bZ))
   (try replace hX:=ζ (hX.o.grows bZ))
   (try replace hP:=ζ (hP.o.grows bZ))
   (try replace hR:=ζ (hR.o.grows bZ))
   clear bZ;rw[jm];clear jm;go_wp2_with fail;refine (cI.out _).mono ?_;rintro e wI ⟨rfl,hwI⟩;replace hwI:=hwI.symm;subst hwI;generalize w.heap.size=gX at *
   generalize gX+1=gR at *
   (try clear Ug);(try clear Uf);(try clear TV);(try clear Ue);(try clear Ud)
   have Ug:w1.cell? ⟨gX,0,none⟩=_:=hX.o.cell 0;have Uf:w1.cell? ⟨gX,1,none⟩=_:=hX.o.cell 1;have Ue:=hX.o.frozen 0;have Ud:=hX.o.frozen 1;have TV:=hX.o.lt;(try clear uT);(try clear uS);(try clear uG);(try clear uP);(try clear uO)
   have uT:w1.cell? ⟨gR,0,none⟩=_:=hR.o.cell 0;have uS:w1.cell? ⟨gR,1,none⟩=_:=hR.o.cell 1;have uP:=hR.o.frozen 0;have uO:=hR.o.frozen 1;have uG:=hR.o.lt;go_wp2;clear Ug Uf Ue Ud TV;clear uT uS uP uO uG;have nN:=hR.o.dO 0 (.int .i64 (x1:Int));have t_:=nN.dO 1 (.int .i64 (x2:Int));have vT:=(hG.o.eY (g:=gR) (i:=0) hgr.o hb0.o (.int .i64 (x1:Int))).eY (g:=gR) (i:=1) hgr.o hb0.o (.int .i64 (x2:Int));have E5:=(h.o.far hR.o δ (aj w1 ⟨gR,0,none⟩ (.int .i64 (x1:Int)))).far nN δ (aj _ ⟨gR,1,none⟩ (.int .i64 (x2:Int)));clear hR hG h nN;generalize (w1.setCell ⟨gR,0,none⟩ (.int .i64 (x1:Int))).setCell ⟨gR,1,none⟩ (.int .i64 (x2:Int))=w7 at *
   have e0:=t_.c0;have e1:=t_.c1;refine bodyPost_ret (v:=eG (x1,x2)) ?_ rfl ⟨?_,?_⟩
   ·simp[eG,results,Tryz.results175,go_sem,e0,e1]
   ·rfl
   ·exact⟨_,_,E5,vT⟩
end Go.Proofs.YteojanlajhebhaaGreatDoor
namespace Go.Proofs.YteojanlajhebhaaGreatDoor
open Go.RowKit
def TS:List TypeId:=237::TB
def jZ (base gB:Nat) (s:List UInt8) (w:World) (r:PB×qW) (e:Ending) (w':World):Prop:=
 e =.returned (eG r.2)∧∃xs' sv',ni w' base gB s r.1 xs' sv'∧aC TS base w w'
def aaC (s:List UInt8) (sub:Option (PB→PB×qW)) (dp:Nat):Prop:=
 (sub=none→dp=8)∧∀f,sub=some f→dp<8∧∀(w:World) (base gB:Nat) (b:PB) (xs:List DI) (sv:Value),ni w base gB s b xs sv→base≤w.heap.size→b.at_≤s.length→gJ b≤8*b.at_+53→
  Calls Tryz.prog 152 #[.pointer (some ⟨gB,0,none⟩),.int .i64 ((dp:Int)+1)] w (jZ base gB s w (f b))
theorem O5:∀(l:List UInt8) (c:UInt8),-1≤Lib.indexByte l c∧(0≤Lib.indexByte l c↔c∈l)
 | [],c=>by simp[Lib.indexByte]
 | b ::l,c=>by
  have ih:=O5 l c;unfold Lib.indexByte;by_cases h:b = c
  ·subst h;simp
  ·have hb:(b ==c)=false:=by simpa using h
   rw[hb];simp only[Bool.false_eq_true,if_false,List.mem_cons,Ne.symm h,false_or];by_cases h1:Lib.indexByte l c =-1
   ·rw[if_pos (by simp[h1])];rw[h1] at ih;exact⟨ω,ih.2⟩
   ·rw[if_neg (by simpa using h1)];refine⟨ω,?_⟩;rw[←ih.2];omega
theorem Zv (c:UInt8):Zw c = true↔0≤Lib.indexByte [42,43,63,124,40,41,91,93,92,46] c:=by
 rw[(O5 _ c).2,Zw,decide_eq_true_eq]
theorem Sv (W:World) (c:UInt8):Calls Tryz.prog 180 #[.string {data:= #[42,43,63,124,40,41,91,93,92,46]},.int .u8 (c.toNat:Int)] W fun e w'=>e =.returned (.int .i64 (Lib.indexByte [42,43,63,124,40,41,91,93,92,46] c))∧w'=W:=by
 have:=Any.strings_IndexByte Tryz.aez {data:= #[42,43,63,124,40,41,91,93,92,46]} (c.toNat:Int) W;rw[show (c.toNat:Int).toNat.toUInt8=c by simp] at this;exact this
theorem ni.fresh {w:World} {base gB:Nat} {s:List UInt8} {b:PB} {xs:List DI} {sv:Value} (h:ni w base gB s b xs sv):∀x∈xs,x.pv≠.pointer (some ⟨w.heap.size,0,none⟩):=by
 intro x hx e;obtain⟨i,hi,rfl⟩:=List.mem_iff_getElem.1 hx;have hi2:i < b.aT.length:=by rw[←h.len];exact hi
 obtain⟨_,a2,_⟩:=h.st i xs[i] _ (List.getElem?_eq_getElem hi) (List.getElem?_eq_getElem hi2);generalize b.aT[i].set=o at *
 cases o with
 | none=>rw[a2] at e;cases e
 | some ws=>
  obtain⟨g,e1,e2,e3⟩:=a2;rw[e1] at e;injection e with e
  injection e with e
  injection e with e
  have:=e3.1.lt;omega
theorem aht {w:World} {base gB dp:Nat} {s:List UInt8} {b:PB} {c:UInt8} {sub:Option (PB→PB×qW)} {xs:List DI} {sv:Value} (jc:aaC s sub dp) (hsp:Lp s 11 sub) (h:ni w base gB s b xs sv) (hb:base≤w.heap.size) (tX:s.length≤100) (hcs:s[b.at_]? = some c) (hc:gJ b≤8*b.at_+61) (A_:c = 40) (hsb:sub=none) :
 Calls Tryz.prog 176 #[.pointer (some ⟨gB,0,none⟩),.int .i64 (dp:Int)] w (jZ base gB s w (dh s sub c b)):=by
 have i40:(c.toNat:Int)=40:=by rw[A_];rfl
 obtain rfl:=jc.1 hsb;subst hsb;have VZ:c.toNat<256:=c.toNat_lt;have yO:=ζ (lD b);have wL:Hid ((aH b).at_≤s.length):=ζ (by have:=(List.getElem?_eq_some_iff.1 hcs).1;simp only[aH];omega);have hat:Hid (dh s none c b = nI gV (aW 3 (aH b))):=ζ (by unfold dh;rw[if_pos A_]);clear A_ hsp jc;have hlt:b.at_<s.length:=(List.getElem?_eq_some_iff.1 hcs).1;have yg:Hid (∀t∈[206],t∈TS):=ζ (by intro t ht;simp[TS,TB] at *;exact .inr (.inl ht));have sF:Hid (∀t∈TB,t∈TS):=ζ (fun t ht=>List.mem_cons_of_mem _ ht);have hTK:Hid (∀t∈TC,t∈TS):=ζ (by intro t ht;simp[TS,TB,TC] at *;rcases ht with h | h;exact .inr (.inl h);exact .inl h);have hR:=aS.new w 208 #[.int .i64 0,.int .i64 0];have hg1:ah w (w.alloc (.cells #[.int .i64 0,.int .i64 0] 208)):=(ah.refl _).alloc _;replace hR:=ζ hR;have hG:=ζ (aC.grows (T:=TS) hg1 hb);replace h:=ζ (h.grows hg1);have hb0:Hid (BLe base w):=ζ hb;replace hb:=ζ (Nat.le_trans hb hg1.size);have hgr:Hid (GLe w w.heap.size):=ζ (Nat.le_refl _);have Yz:((b.at_:Nat):Int)<(s.length:Int):=ω;have SY:∀h:b.at_<(⟨s.toArray⟩:ByteArray).size,(⟨s.toArray⟩:ByteArray)[b.at_]'h = c:=fun h=>by
  show s.toArray[b.at_]=c
  rw[List.getElem_toArray];exact (List.getElem?_eq_some_iff.1 hcs).2
 have c0:∀w',ni w' base gB s b xs sv→w'.cell? ⟨gB,0,none⟩=some (.string ⟨s.toArray⟩):=fun w' hh=>(hh.blk.cell 0).trans rfl
 have c1:∀w',ni w' base gB s b xs sv→w'.cell? ⟨gB,1,none⟩=some (.int .i64 (b.at_:Int)):=fun w' hh=>(hh.blk.cell 1).trans rfl
 replace c0:=c0 _ h.o;replace c1:=c1 _ h.o;have l1:=h.o.blk.lt;clear hg1;go_enter Tryz.func176,Tryz.ntmps176
 go_wp2_with fail;generalize w.alloc (.cells #[.int .i64 0,.int .i64 0] 208)=w0 at *
 generalize w.heap.size=gR at *
 refine aJ κ ?_;refine rK (.range 10) 0 ?_;iterate 10 refine aB ?_
 refine ay ?_;refine aP κ (fun wN hN hS=> ?_);clear c0 c1 l1;replace hR:=ζ (hR.o.grows hN);replace h:=ζ (h.o.grows hN);replace hG:=ζ (hG.o.trans (aC.grows hN hb.o));replace hb:=ζ (Nat.le_trans hb.o hN.size);clear hN hS;have c1:wN.cell? ⟨gB,1,none⟩=some (.int .i64 ((b).at_:Int)):=(h.o.blk.cell 1).trans rfl;have f1:=h.o.blk.frozen 1;have l1:=h.o.blk.lt;have i1: -9223372036854775808≤((b).at_:Int)+1∧((b).at_:Int)+1≤9223372036854775807:=by first | omega | (simp only[aH];omega)
 have hA:=ζ h.o.EW;have gU:=ζ (hG.o.trans ((aC.own h.o (aj wN ⟨gB,1,none⟩ (.int .i64 (((b).at_:Int)+1)))).mono yg.o));have hsz:Hid ((wN.setCell ⟨gB,1,none⟩ (.int .i64 (((b).at_:Int)+1))).heap.size=wN.heap.size):=ζ σ;go_wp2_with fail;(try replace aO:=ζ (aO.o.tk (aC.own h.o (aj wN ⟨gB,1,none⟩ (.int .i64 (((b).at_:Int)+1)))) δ))
 (try replace hX:=ζ ((aC.own h.o (aj wN ⟨gB,1,none⟩ (.int .i64 (((b).at_:Int)+1)))).blk hX.o δ))
 (try replace hP:=ζ ((aC.own h.o (aj wN ⟨gB,1,none⟩ (.int .i64 (((b).at_:Int)+1)))).blk hP.o δ))
 (try replace hR:=ζ ((aC.own h.o (aj wN ⟨gB,1,none⟩ (.int .i64 (((b).at_:Int)+1)))).blk hR.o δ))
 clear c1 f1 l1 i1 h hG;generalize wN.setCell ⟨gB,1,none⟩ (.int .i64 (((b).at_:Int)+1))=w2 at *
 have h:=hA;have hG:=gU;clear hA gU;replace hb:=ζ (Nat.le_trans hb0.o hG.o.size);have aO:Hid (iD (w2.alloc (.cells #[.int .u64 0,.int .u64 0,.int .u64 0,.int .u64 0] 237)) w2.heap.size gV):=ζ ⟨aS.new w2 _ _,rfl,by intro x hx;simp[gV] at hx;omega⟩;have dF:ah w2 (w2.alloc (.cells #[.int .u64 0,.int .u64 0,.int .u64 0,.int .u64 0] 237)):=(ah.refl _).alloc _;have GR:=ζ h.o.fresh;have EP:=hb;replace hR:=ζ (hR.o.grows dF);replace h:=ζ (h.o.grows dF);replace hG:=ζ (hG.o.trans (aC.grows dF hb.o));replace hb:Hid (base≤(w2.alloc (.cells #[.int .u64 0,.int .u64 0,.int .u64 0,.int .u64 0] 237)).heap.size):=ζ (Nat.le_trans hb.o dF.size);clear dF;generalize w2.alloc (.cells #[.int .u64 0,.int .u64 0,.int .u64 0,.int .u64 0] 237)=w3 at *
 rw[hsz.o] at aO GR EP;clear hsz;generalize wN.heap.size=gS at *
 refine (nS h.o).mono ?_;rintro e w4 ⟨rfl,Z9,dD⟩;(try replace aO:=ζ (aO.o.tk (aC.own h.o dD) δ))
 (try replace hX:=ζ ((aC.own h.o dD).blk hX.o δ))
 (try replace hP:=ζ ((aC.own h.o dD).blk hP.o δ))
 (try replace hR:=ζ ((aC.own h.o dD).blk hR.o δ))
 replace hG:=ζ (hG.o.trans ((aC.own h.o dD).mono yg.o));replace h:=ζ Z9;replace hb:=ζ (Nat.le_trans hb0.o hG.o.size);clear Z9 dD;go_wp2_with fail;refine (Gq h.o aO.o EP.o hb.o (by rw[fC];have:=yO.o;simp only[aH];omega)).mono ?_;rintro e wE ⟨rfl,xsE,svE,h',fH⟩;replace h:=ζ h';(try replace hX:=ζ ((fH.mono sF.o).blk hX.o δ))
 (try replace hP:=ζ ((fH.mono sF.o).blk hP.o δ))
 (try replace hR:=ζ ((fH.mono sF.o).blk hR.o δ))
 replace hG:=ζ (hG.o.trans (fH.mono sF.o));replace hb:=ζ (Nat.le_trans hb0.o hG.o.size);clear h' fH aO;generalize hr:nI gV (aW 3 (aH b))=r at *
 obtain⟨rb,p1,p2⟩:=r;simp only[eG];(try clear uT);(try clear uS);(try clear uG);(try clear uP);(try clear uO)
 have uT:wE.cell? ⟨gR,0,none⟩=_:=hR.o.cell 0;have uS:wE.cell? ⟨gR,1,none⟩=_:=hR.o.cell 1;have uP:=hR.o.frozen 0;have uO:=hR.o.frozen 1;have uG:=hR.o.lt;go_wp2;clear uT uS uP uO uG;have nN:=hR.o.dO 0 (.int .i64 (p1:Int));have t_:=nN.dO 1 (.int .i64 (p2:Int));have vT:=(hG.o.eY (g:=gR) (i:=0) hgr.o hb0.o (.int .i64 (p1:Int))).eY (g:=gR) (i:=1) hgr.o hb0.o (.int .i64 (p2:Int));have E5:=(h.o.far hR.o δ (aj wE ⟨gR,0,none⟩ (.int .i64 (p1:Int)))).far nN δ (aj _ ⟨gR,1,none⟩ (.int .i64 (p2:Int)));clear hR hG h nN;generalize (wE.setCell ⟨gR,0,none⟩ (.int .i64 (p1:Int))).setCell ⟨gR,1,none⟩ (.int .i64 (p2:Int))=w7 at *
 have e0:=t_.c0;have e1:=t_.c1;refine bodyPost_ret (v:=eG (p1,p2)) ?_ rfl ⟨?_,?_⟩
 ·simp[eG,results,Tryz.results176,go_sem,e0,e1]
 ·rw[hat.o]
 ·rw[hat.o];exact⟨_,_,E5,vT⟩
end Go.Proofs.YteojanlajhebhaaGreatDoor
namespace Go.Proofs.YteojanlajhebhaaGreatDoor
open Go.RowKit
theorem adW {w:World} {base gB dp:Nat} {s:List UInt8} {b:PB} {c:UInt8} {sub:Option (PB→PB×qW)} {xs:List DI} {sv:Value} (h:ni w base gB s b xs sv) (hb:base≤w.heap.size) (tX:s.length≤100) (hcs:s[b.at_]? = some c) (hc:gJ b≤8*b.at_+61) (A_:¬c = 40) (Iq:c = 91) :
 Calls Tryz.prog 176 #[.pointer (some ⟨gB,0,none⟩),.int .i64 (dp:Int)] w (jZ base gB s w (dh s sub c b)):=by
 have i40:¬(c.toNat:Int)=40:=fun e=>A_ (UInt8.toNat_inj.1 (by show c.toNat=40;omega))
 have i91:(c.toNat:Int)=91:=by rw[Iq];rfl
 have VZ:c.toNat<256:=c.toNat_lt;have yO:=ζ (lD b);have wL:Hid ((aH b).at_≤s.length):=ζ (by have:=(List.getElem?_eq_some_iff.1 hcs).1;simp only[aH];omega);have hat:Hid (dh s sub c b = nI (kG s (aH b)).2 (kG s (aH b)).1):=ζ (by unfold dh;rw[if_neg A_,if_pos Iq]);clear A_ Iq;have hlt:b.at_<s.length:=(List.getElem?_eq_some_iff.1 hcs).1;have yg:Hid (∀t∈[206],t∈TS):=ζ (by intro t ht;simp[TS,TB] at *;exact .inr (.inl ht));have sF:Hid (∀t∈TB,t∈TS):=ζ (fun t ht=>List.mem_cons_of_mem _ ht);have hTK:Hid (∀t∈TC,t∈TS):=ζ (by intro t ht;simp[TS,TB,TC] at *;rcases ht with h | h;exact .inr (.inl h);exact .inl h);have hR:=aS.new w 208 #[.int .i64 0,.int .i64 0];have hg1:ah w (w.alloc (.cells #[.int .i64 0,.int .i64 0] 208)):=(ah.refl _).alloc _;replace hR:=ζ hR;have hG:=ζ (aC.grows (T:=TS) hg1 hb);replace h:=ζ (h.grows hg1);have hb0:Hid (BLe base w):=ζ hb;replace hb:=ζ (Nat.le_trans hb hg1.size);have hgr:Hid (GLe w w.heap.size):=ζ (Nat.le_refl _);have Yz:((b.at_:Nat):Int)<(s.length:Int):=ω;have SY:∀h:b.at_<(⟨s.toArray⟩:ByteArray).size,(⟨s.toArray⟩:ByteArray)[b.at_]'h = c:=fun h=>by
  show s.toArray[b.at_]=c
  rw[List.getElem_toArray];exact (List.getElem?_eq_some_iff.1 hcs).2
 have c0:∀w',ni w' base gB s b xs sv→w'.cell? ⟨gB,0,none⟩=some (.string ⟨s.toArray⟩):=fun w' hh=>(hh.blk.cell 0).trans rfl
 have c1:∀w',ni w' base gB s b xs sv→w'.cell? ⟨gB,1,none⟩=some (.int .i64 (b.at_:Int)):=fun w' hh=>(hh.blk.cell 1).trans rfl
 replace c0:=c0 _ h.o;replace c1:=c1 _ h.o;have l1:=h.o.blk.lt;clear hg1;go_enter Tryz.func176,Tryz.ntmps176
 go_wp2_with fail;generalize w.alloc (.cells #[.int .i64 0,.int .i64 0] 208)=w0 at *
 generalize w.heap.size=gR at *
 refine aJ κ ?_;refine rK (.range 10) 0 ?_;iterate 10 refine aB ?_
 refine ay ?_;refine aP κ (fun wN hN hS=> ?_);clear c0 c1 l1;replace hR:=ζ (hR.o.grows hN);replace h:=ζ (h.o.grows hN);replace hG:=ζ (hG.o.trans (aC.grows hN hb.o));replace hb:=ζ (Nat.le_trans hb.o hN.size);clear hN hS;have c1:wN.cell? ⟨gB,1,none⟩=some (.int .i64 ((b).at_:Int)):=(h.o.blk.cell 1).trans rfl;have f1:=h.o.blk.frozen 1;have l1:=h.o.blk.lt;have i1: -9223372036854775808≤((b).at_:Int)+1∧((b).at_:Int)+1≤9223372036854775807:=by first | omega | (simp only[aH];omega)
 have hA:=ζ h.o.EW;have gU:=ζ (hG.o.trans ((aC.own h.o (aj wN ⟨gB,1,none⟩ (.int .i64 (((b).at_:Int)+1)))).mono yg.o));have hsz:Hid ((wN.setCell ⟨gB,1,none⟩ (.int .i64 (((b).at_:Int)+1))).heap.size=wN.heap.size):=ζ σ;go_wp2_with fail;(try replace aO:=ζ (aO.o.tk (aC.own h.o (aj wN ⟨gB,1,none⟩ (.int .i64 (((b).at_:Int)+1)))) δ))
 (try replace hX:=ζ ((aC.own h.o (aj wN ⟨gB,1,none⟩ (.int .i64 (((b).at_:Int)+1)))).blk hX.o δ))
 (try replace hP:=ζ ((aC.own h.o (aj wN ⟨gB,1,none⟩ (.int .i64 (((b).at_:Int)+1)))).blk hP.o δ))
 (try replace hR:=ζ ((aC.own h.o (aj wN ⟨gB,1,none⟩ (.int .i64 (((b).at_:Int)+1)))).blk hR.o δ))
 clear c1 f1 l1 i1 h hG;generalize wN.setCell ⟨gB,1,none⟩ (.int .i64 (((b).at_:Int)+1))=w2 at *
 have h:=hA;have hG:=gU;clear hA gU;replace hb:=ζ (Nat.le_trans hb0.o hG.o.size);have aO:Hid (iD (w2.alloc (.cells #[.int .u64 0,.int .u64 0,.int .u64 0,.int .u64 0] 237)) w2.heap.size gV):=ζ ⟨aS.new w2 _ _,rfl,by intro x hx;simp[gV] at hx;omega⟩;have dF:ah w2 (w2.alloc (.cells #[.int .u64 0,.int .u64 0,.int .u64 0,.int .u64 0] 237)):=(ah.refl _).alloc _;have GR:=ζ h.o.fresh;have EP:=hb;replace hR:=ζ (hR.o.grows dF);replace h:=ζ (h.o.grows dF);replace hG:=ζ (hG.o.trans (aC.grows dF hb.o));replace hb:Hid (base≤(w2.alloc (.cells #[.int .u64 0,.int .u64 0,.int .u64 0,.int .u64 0] 237)).heap.size):=ζ (Nat.le_trans hb.o dF.size);clear dF;generalize w2.alloc (.cells #[.int .u64 0,.int .u64 0,.int .u64 0,.int .u64 0] 237)=w3 at *
 rw[hsz.o] at aO GR EP;clear hsz;generalize wN.heap.size=gS at *
 refine (ahn h.o aO.o EP.o GR.o hb.o tX wL.o).mono ?_;rintro e w4 ⟨rfl,h',hs',fH⟩;replace h:=ζ h';(try replace hX:=ζ ((fH.mono hTK.o).blk hX.o δ))
 (try replace hP:=ζ ((fH.mono hTK.o).blk hP.o δ))
 (try replace hR:=ζ ((fH.mono hTK.o).blk hR.o δ))
 replace hG:=ζ (hG.o.trans (fH.mono hTK.o));replace hb:=ζ (Nat.le_trans hb0.o hG.o.size);replace aO:=ζ hs';clear h' fH hs';have hcs:=(Jw (s:=s) (b:=aH b) (WP.of_le wL.o)).2.2;replace hcs:=ζ hcs;go_wp2_with fail;refine (Gq h.o aO.o EP.o hb.o (by rw[hcs.o];have:=yO.o;simp only[aH];omega)).mono ?_;rintro e wE ⟨rfl,xsE,svE,h',fH⟩;replace h:=ζ h';(try replace hX:=ζ ((fH.mono sF.o).blk hX.o δ))
 (try replace hP:=ζ ((fH.mono sF.o).blk hP.o δ))
 (try replace hR:=ζ ((fH.mono sF.o).blk hR.o δ))
 replace hG:=ζ (hG.o.trans (fH.mono sF.o));replace hb:=ζ (Nat.le_trans hb0.o hG.o.size);clear h' fH aO;generalize hr:nI (kG s (aH b)).2 (kG s (aH b)).1=r at *
 obtain⟨rb,p1,p2⟩:=r;simp only[eG];(try clear uT);(try clear uS);(try clear uG);(try clear uP);(try clear uO)
 have uT:wE.cell? ⟨gR,0,none⟩=_:=hR.o.cell 0;have uS:wE.cell? ⟨gR,1,none⟩=_:=hR.o.cell 1;have uP:=hR.o.frozen 0;have uO:=hR.o.frozen 1;have uG:=hR.o.lt;go_wp2;clear uT uS uP uO uG;have nN:=hR.o.dO 0 (.int .i64 (p1:Int));have t_:=nN.dO 1 (.int .i64 (p2:Int));have vT:=(hG.o.eY (g:=gR) (i:=0) hgr.o hb0.o (.int .i64 (p1:Int))).eY (g:=gR) (i:=1) hgr.o hb0.o (.int .i64 (p2:Int));have E5:=(h.o.far hR.o δ (aj wE ⟨gR,0,none⟩ (.int .i64 (p1:Int)))).far nN δ (aj _ ⟨gR,1,none⟩ (.int .i64 (p2:Int)));clear hR hG h nN;generalize (wE.setCell ⟨gR,0,none⟩ (.int .i64 (p1:Int))).setCell ⟨gR,1,none⟩ (.int .i64 (p2:Int))=w7 at *
 have e0:=t_.c0;have e1:=t_.c1;refine bodyPost_ret (v:=eG (p1,p2)) ?_ rfl ⟨?_,?_⟩
 ·simp[eG,results,Tryz.results176,go_sem,e0,e1]
 ·rw[hat.o]
 ·rw[hat.o];exact⟨_,_,E5,vT⟩
end Go.Proofs.YteojanlajhebhaaGreatDoor
namespace Go.Proofs.YteojanlajhebhaaGreatDoor
open Go.RowKit
theorem aln {w:World} {base gB dp:Nat} {s:List UInt8} {b:PB} {c:UInt8} {sub:Option (PB→PB×qW)} {xs:List DI} {sv:Value} (h:ni w base gB s b xs sv) (hb:base≤w.heap.size) (tX:s.length≤100) (hcs:s[b.at_]? = some c) (hc:gJ b≤8*b.at_+61) (A_:¬c = 40) (Iq:¬c = 91) (JZ:c = 46) :
 Calls Tryz.prog 176 #[.pointer (some ⟨gB,0,none⟩),.int .i64 (dp:Int)] w (jZ base gB s w (dh s sub c b)):=by
 have i40:¬(c.toNat:Int)=40:=fun e=>A_ (UInt8.toNat_inj.1 (by show c.toNat=40;omega))
 have i91:¬(c.toNat:Int)=91:=fun e=>Iq (UInt8.toNat_inj.1 (by show c.toNat=91;omega))
 have i46:(c.toNat:Int)=46:=by rw[JZ];rfl
 have VZ:c.toNat<256:=c.toNat_lt;have yO:=ζ (lD b);have wL:Hid ((aH b).at_≤s.length):=ζ (by have:=(List.getElem?_eq_some_iff.1 hcs).1;simp only[aH];omega);have hat:Hid (dh s sub c b = nI (lI gV) (aH b)):=ζ (by unfold dh;rw[if_neg A_,if_neg Iq,if_pos JZ]);clear A_ Iq JZ;have hlt:b.at_<s.length:=(List.getElem?_eq_some_iff.1 hcs).1;have yg:Hid (∀t∈[206],t∈TS):=ζ (by intro t ht;simp[TS,TB] at *;exact .inr (.inl ht));have sF:Hid (∀t∈TB,t∈TS):=ζ (fun t ht=>List.mem_cons_of_mem _ ht);have hTK:Hid (∀t∈TC,t∈TS):=ζ (by intro t ht;simp[TS,TB,TC] at *;rcases ht with h | h;exact .inr (.inl h);exact .inl h);have hR:=aS.new w 208 #[.int .i64 0,.int .i64 0];have hg1:ah w (w.alloc (.cells #[.int .i64 0,.int .i64 0] 208)):=(ah.refl _).alloc _;replace hR:=ζ hR;have hG:=ζ (aC.grows (T:=TS) hg1 hb);replace h:=ζ (h.grows hg1);have hb0:Hid (BLe base w):=ζ hb;replace hb:=ζ (Nat.le_trans hb hg1.size);have hgr:Hid (GLe w w.heap.size):=ζ (Nat.le_refl _);have Yz:((b.at_:Nat):Int)<(s.length:Int):=ω;have SY:∀h:b.at_<(⟨s.toArray⟩:ByteArray).size,(⟨s.toArray⟩:ByteArray)[b.at_]'h = c:=fun h=>by
  show s.toArray[b.at_]=c
  rw[List.getElem_toArray];exact (List.getElem?_eq_some_iff.1 hcs).2
 have c0:∀w',ni w' base gB s b xs sv→w'.cell? ⟨gB,0,none⟩=some (.string ⟨s.toArray⟩):=fun w' hh=>(hh.blk.cell 0).trans rfl
 have c1:∀w',ni w' base gB s b xs sv→w'.cell? ⟨gB,1,none⟩=some (.int .i64 (b.at_:Int)):=fun w' hh=>(hh.blk.cell 1).trans rfl
 replace c0:=c0 _ h.o;replace c1:=c1 _ h.o;have l1:=h.o.blk.lt;clear hg1;go_enter Tryz.func176,Tryz.ntmps176
 go_wp2_with fail;generalize w.alloc (.cells #[.int .i64 0,.int .i64 0] 208)=w0 at *
 generalize w.heap.size=gR at *
 refine aJ κ ?_;refine rK (.range 10) 0 ?_;iterate 10 refine aB ?_
 refine ay ?_;refine aP κ (fun wN hN hS=> ?_);clear c0 c1 l1;replace hR:=ζ (hR.o.grows hN);replace h:=ζ (h.o.grows hN);replace hG:=ζ (hG.o.trans (aC.grows hN hb.o));replace hb:=ζ (Nat.le_trans hb.o hN.size);clear hN hS;have c1:wN.cell? ⟨gB,1,none⟩=some (.int .i64 ((b).at_:Int)):=(h.o.blk.cell 1).trans rfl;have f1:=h.o.blk.frozen 1;have l1:=h.o.blk.lt;have i1: -9223372036854775808≤((b).at_:Int)+1∧((b).at_:Int)+1≤9223372036854775807:=by first | omega | (simp only[aH];omega)
 have hA:=ζ h.o.EW;have gU:=ζ (hG.o.trans ((aC.own h.o (aj wN ⟨gB,1,none⟩ (.int .i64 (((b).at_:Int)+1)))).mono yg.o));have hsz:Hid ((wN.setCell ⟨gB,1,none⟩ (.int .i64 (((b).at_:Int)+1))).heap.size=wN.heap.size):=ζ σ;go_wp2_with fail;(try replace aO:=ζ (aO.o.tk (aC.own h.o (aj wN ⟨gB,1,none⟩ (.int .i64 (((b).at_:Int)+1)))) δ))
 (try replace hX:=ζ ((aC.own h.o (aj wN ⟨gB,1,none⟩ (.int .i64 (((b).at_:Int)+1)))).blk hX.o δ))
 (try replace hP:=ζ ((aC.own h.o (aj wN ⟨gB,1,none⟩ (.int .i64 (((b).at_:Int)+1)))).blk hP.o δ))
 (try replace hR:=ζ ((aC.own h.o (aj wN ⟨gB,1,none⟩ (.int .i64 (((b).at_:Int)+1)))).blk hR.o δ))
 clear c1 f1 l1 i1 h hG;generalize wN.setCell ⟨gB,1,none⟩ (.int .i64 (((b).at_:Int)+1))=w2 at *
 have h:=hA;have hG:=gU;clear hA gU;replace hb:=ζ (Nat.le_trans hb0.o hG.o.size);have aO:Hid (iD (w2.alloc (.cells #[.int .u64 0,.int .u64 0,.int .u64 0,.int .u64 0] 237)) w2.heap.size gV):=ζ ⟨aS.new w2 _ _,rfl,by intro x hx;simp[gV] at hx;omega⟩;have dF:ah w2 (w2.alloc (.cells #[.int .u64 0,.int .u64 0,.int .u64 0,.int .u64 0] 237)):=(ah.refl _).alloc _;have GR:=ζ h.o.fresh;have EP:=hb;replace hR:=ζ (hR.o.grows dF);replace h:=ζ (h.o.grows dF);replace hG:=ζ (hG.o.trans (aC.grows dF hb.o));replace hb:Hid (base≤(w2.alloc (.cells #[.int .u64 0,.int .u64 0,.int .u64 0,.int .u64 0] 237)).heap.size):=ζ (Nat.le_trans hb.o dF.size);clear dF;generalize w2.alloc (.cells #[.int .u64 0,.int .u64 0,.int .u64 0,.int .u64 0] 237)=w3 at *
 rw[hsz.o] at aO GR EP;clear hsz;generalize wN.heap.size=gS at *
 refine (YR aO.o).mono ?_;rintro e w4 ⟨rfl,wX,uZ⟩;replace h:=ζ (h.o.Ag aO.o GR.o uZ);replace hR:=ζ ((aC.set aO.o EP.o uZ).blk hR.o δ);replace hG:=ζ (hG.o.trans ((aC.set aO.o EP.o uZ).mono hTK.o));replace hb:=ζ (Nat.le_trans hb0.o hG.o.size);replace aO:=ζ wX;clear wX uZ;go_wp2_with fail;refine (Gq h.o aO.o EP.o hb.o (by have:=yO.o;simp only[aH];omega)).mono ?_;rintro e wE ⟨rfl,xsE,svE,h',fH⟩;replace h:=ζ h';(try replace hX:=ζ ((fH.mono sF.o).blk hX.o δ))
 (try replace hP:=ζ ((fH.mono sF.o).blk hP.o δ))
 (try replace hR:=ζ ((fH.mono sF.o).blk hR.o δ))
 replace hG:=ζ (hG.o.trans (fH.mono sF.o));replace hb:=ζ (Nat.le_trans hb0.o hG.o.size);clear h' fH aO;generalize hr:nI (lI gV) (aH b)=r at *
 obtain⟨rb,p1,p2⟩:=r;simp only[eG];(try clear uT);(try clear uS);(try clear uG);(try clear uP);(try clear uO)
 have uT:wE.cell? ⟨gR,0,none⟩=_:=hR.o.cell 0;have uS:wE.cell? ⟨gR,1,none⟩=_:=hR.o.cell 1;have uP:=hR.o.frozen 0;have uO:=hR.o.frozen 1;have uG:=hR.o.lt;go_wp2;clear uT uS uP uO uG;have nN:=hR.o.dO 0 (.int .i64 (p1:Int));have t_:=nN.dO 1 (.int .i64 (p2:Int));have vT:=(hG.o.eY (g:=gR) (i:=0) hgr.o hb0.o (.int .i64 (p1:Int))).eY (g:=gR) (i:=1) hgr.o hb0.o (.int .i64 (p2:Int));have E5:=(h.o.far hR.o δ (aj wE ⟨gR,0,none⟩ (.int .i64 (p1:Int)))).far nN δ (aj _ ⟨gR,1,none⟩ (.int .i64 (p2:Int)));clear hR hG h nN;generalize (wE.setCell ⟨gR,0,none⟩ (.int .i64 (p1:Int))).setCell ⟨gR,1,none⟩ (.int .i64 (p2:Int))=w7 at *
 have e0:=t_.c0;have e1:=t_.c1;refine bodyPost_ret (v:=eG (p1,p2)) ?_ rfl ⟨?_,?_⟩
 ·simp[eG,results,Tryz.results176,go_sem,e0,e1]
 ·rw[hat.o]
 ·rw[hat.o];exact⟨_,_,E5,vT⟩
end Go.Proofs.YteojanlajhebhaaGreatDoor
namespace Go.Proofs.YteojanlajhebhaaGreatDoor
open Go.RowKit
theorem aaw {w:World} {base gB dp:Nat} {s:List UInt8} {b:PB} {c:UInt8} {sub:Option (PB→PB×qW)} {xs:List DI} {sv:Value} (h:ni w base gB s b xs sv) (hb:base≤w.heap.size) (tX:s.length≤100) (hcs:s[b.at_]? = some c) (hc:gJ b≤8*b.at_+61) (A_:¬c = 40) (Iq:¬c = 91) (JZ:¬c = 46) (Oi:c = 92) (hp:kK s (aH b)=none) :
 Calls Tryz.prog 176 #[.pointer (some ⟨gB,0,none⟩),.int .i64 (dp:Int)] w (jZ base gB s w (dh s sub c b)):=by
 have i40:¬(c.toNat:Int)=40:=fun e=>A_ (UInt8.toNat_inj.1 (by show c.toNat=40;omega))
 have i91:¬(c.toNat:Int)=91:=fun e=>Iq (UInt8.toNat_inj.1 (by show c.toNat=91;omega))
 have i46:¬(c.toNat:Int)=46:=fun e=>JZ (UInt8.toNat_inj.1 (by show c.toNat=46;omega))
 have i92:(c.toNat:Int)=92:=by rw[Oi];rfl
 have VZ:c.toNat<256:=c.toNat_lt;have yO:=ζ (lD b);have wL:Hid ((aH b).at_≤s.length):=ζ (by have:=(List.getElem?_eq_some_iff.1 hcs).1;simp only[aH];omega);have hat:Hid (dh s sub c b = nI (oJ gV 0 0) (aH (aW 2 (aH b)))):=ζ (by unfold dh;rw[if_neg A_,if_neg Iq,if_neg JZ,if_pos Oi,hp]);have jm:iV s (aH b)=.tuple #[.int .u8 0,.bool false]:=by simp only[iV,hp]
 have hfa:(aW 2 (aH b)).at_<100000:=by rw[bD];have:=wL.o;omega
 clear A_ Iq JZ Oi hp;have hlt:b.at_<s.length:=(List.getElem?_eq_some_iff.1 hcs).1;have yg:Hid (∀t∈[206],t∈TS):=ζ (by intro t ht;simp[TS,TB] at *;exact .inr (.inl ht));have sF:Hid (∀t∈TB,t∈TS):=ζ (fun t ht=>List.mem_cons_of_mem _ ht);have hTK:Hid (∀t∈TC,t∈TS):=ζ (by intro t ht;simp[TS,TB,TC] at *;rcases ht with h | h;exact .inr (.inl h);exact .inl h);have hR:=aS.new w 208 #[.int .i64 0,.int .i64 0];have hg1:ah w (w.alloc (.cells #[.int .i64 0,.int .i64 0] 208)):=(ah.refl _).alloc _;replace hR:=ζ hR;have hG:=ζ (aC.grows (T:=TS) hg1 hb);replace h:=ζ (h.grows hg1);have hb0:Hid (BLe base w):=ζ hb;replace hb:=ζ (Nat.le_trans hb hg1.size);have hgr:Hid (GLe w w.heap.size):=ζ (Nat.le_refl _);have Yz:((b.at_:Nat):Int)<(s.length:Int):=ω;have SY:∀h:b.at_<(⟨s.toArray⟩:ByteArray).size,(⟨s.toArray⟩:ByteArray)[b.at_]'h = c:=fun h=>by
  show s.toArray[b.at_]=c
  rw[List.getElem_toArray];exact (List.getElem?_eq_some_iff.1 hcs).2
 have c0:∀w',ni w' base gB s b xs sv→w'.cell? ⟨gB,0,none⟩=some (.string ⟨s.toArray⟩):=fun w' hh=>(hh.blk.cell 0).trans rfl
 have c1:∀w',ni w' base gB s b xs sv→w'.cell? ⟨gB,1,none⟩=some (.int .i64 (b.at_:Int)):=fun w' hh=>(hh.blk.cell 1).trans rfl
 replace c0:=c0 _ h.o;replace c1:=c1 _ h.o;have l1:=h.o.blk.lt;clear hg1;go_enter Tryz.func176,Tryz.ntmps176
 go_wp2_with fail;generalize w.alloc (.cells #[.int .i64 0,.int .i64 0] 208)=w0 at *
 generalize w.heap.size=gR at *
 refine aJ κ ?_;refine rK (.range 10) 0 ?_;iterate 10 refine aB ?_
 refine ay ?_;refine aP κ (fun wN hN hS=> ?_);clear c0 c1 l1;replace hR:=ζ (hR.o.grows hN);replace h:=ζ (h.o.grows hN);replace hG:=ζ (hG.o.trans (aC.grows hN hb.o));replace hb:=ζ (Nat.le_trans hb.o hN.size);clear hN hS;have c1:wN.cell? ⟨gB,1,none⟩=some (.int .i64 ((b).at_:Int)):=(h.o.blk.cell 1).trans rfl;have f1:=h.o.blk.frozen 1;have l1:=h.o.blk.lt;have i1: -9223372036854775808≤((b).at_:Int)+1∧((b).at_:Int)+1≤9223372036854775807:=by first | omega | (simp only[aH];omega)
 have hA:=ζ h.o.EW;have gU:=ζ (hG.o.trans ((aC.own h.o (aj wN ⟨gB,1,none⟩ (.int .i64 (((b).at_:Int)+1)))).mono yg.o));have hsz:Hid ((wN.setCell ⟨gB,1,none⟩ (.int .i64 (((b).at_:Int)+1))).heap.size=wN.heap.size):=ζ σ;go_wp2_with fail;(try replace aO:=ζ (aO.o.tk (aC.own h.o (aj wN ⟨gB,1,none⟩ (.int .i64 (((b).at_:Int)+1)))) δ))
 (try replace hX:=ζ ((aC.own h.o (aj wN ⟨gB,1,none⟩ (.int .i64 (((b).at_:Int)+1)))).blk hX.o δ))
 (try replace hP:=ζ ((aC.own h.o (aj wN ⟨gB,1,none⟩ (.int .i64 (((b).at_:Int)+1)))).blk hP.o δ))
 (try replace hR:=ζ ((aC.own h.o (aj wN ⟨gB,1,none⟩ (.int .i64 (((b).at_:Int)+1)))).blk hR.o δ))
 clear c1 f1 l1 i1 h hG;generalize wN.setCell ⟨gB,1,none⟩ (.int .i64 (((b).at_:Int)+1))=w2 at *
 have h:=hA;have hG:=gU;clear hA gU;replace hb:=ζ (Nat.le_trans hb0.o hG.o.size);have aO:Hid (iD (w2.alloc (.cells #[.int .u64 0,.int .u64 0,.int .u64 0,.int .u64 0] 237)) w2.heap.size gV):=ζ ⟨aS.new w2 _ _,rfl,by intro x hx;simp[gV] at hx;omega⟩;have dF:ah w2 (w2.alloc (.cells #[.int .u64 0,.int .u64 0,.int .u64 0,.int .u64 0] 237)):=(ah.refl _).alloc _;have GR:=ζ h.o.fresh;have EP:=hb;replace hR:=ζ (hR.o.grows dF);replace h:=ζ (h.o.grows dF);replace hG:=ζ (hG.o.trans (aC.grows dF hb.o));replace hb:Hid (base≤(w2.alloc (.cells #[.int .u64 0,.int .u64 0,.int .u64 0,.int .u64 0] 237)).heap.size):=ζ (Nat.le_trans hb.o dF.size);clear dF;generalize w2.alloc (.cells #[.int .u64 0,.int .u64 0,.int .u64 0,.int .u64 0] 237)=w3 at *
 rw[hsz.o] at aO GR EP;clear hsz;generalize wN.heap.size=gS at *
 go_wp2_with fail;refine (g_ h.o).mono ?_;rintro e w4 ⟨rfl,dD⟩;replace h:=ζ (h.o.grows dD);replace hG:=ζ (hG.o.trans (aC.grows dD hb.o));replace hb:=ζ (Nat.le_trans hb.o dD.size);(try replace aO:=ζ (aO.o.grows dD))
 (try replace hX:=ζ (hX.o.grows dD))
 (try replace hP:=ζ (hP.o.grows dD))
 (try replace hR:=ζ (hR.o.grows dD))
 clear dD;rw[jm];clear jm;go_wp2_with fail;refine (nS h.o).mono ?_;rintro e w5 ⟨rfl,AY,jo⟩;(try replace aO:=ζ (aO.o.tk (aC.own h.o jo) δ))
 (try replace hX:=ζ ((aC.own h.o jo).blk hX.o δ))
 (try replace hP:=ζ ((aC.own h.o jo).blk hP.o δ))
 (try replace hR:=ζ ((aC.own h.o jo).blk hR.o δ))
 replace hG:=ζ (hG.o.trans ((aC.own h.o jo).mono yg.o));replace h:=ζ AY;replace hb:=ζ (Nat.le_trans hb0.o hG.o.size);clear AY jo;have c1:w5.cell? ⟨gB,1,none⟩=some (.int .i64 (((aW 2 (aH b))).at_:Int)):=(h.o.blk.cell 1).trans rfl;have f1:=h.o.blk.frozen 1;have l1:=h.o.blk.lt;have i1: -9223372036854775808≤(((aW 2 (aH b))).at_:Int)+1∧(((aW 2 (aH b))).at_:Int)+1≤9223372036854775807:=by first | omega | (simp only[aH];omega)
 have hA:=ζ h.o.EW;have gU:=ζ (hG.o.trans ((aC.own h.o (aj w5 ⟨gB,1,none⟩ (.int .i64 ((((aW 2 (aH b))).at_:Int)+1)))).mono yg.o));have hsz:Hid ((w5.setCell ⟨gB,1,none⟩ (.int .i64 ((((aW 2 (aH b))).at_:Int)+1))).heap.size=w5.heap.size):=ζ σ;go_wp2_with fail;(try replace aO:=ζ (aO.o.tk (aC.own h.o (aj w5 ⟨gB,1,none⟩ (.int .i64 ((((aW 2 (aH b))).at_:Int)+1)))) δ))
 (try replace hX:=ζ ((aC.own h.o (aj w5 ⟨gB,1,none⟩ (.int .i64 ((((aW 2 (aH b))).at_:Int)+1)))).blk hX.o δ))
 (try replace hP:=ζ ((aC.own h.o (aj w5 ⟨gB,1,none⟩ (.int .i64 ((((aW 2 (aH b))).at_:Int)+1)))).blk hP.o δ))
 (try replace hR:=ζ ((aC.own h.o (aj w5 ⟨gB,1,none⟩ (.int .i64 ((((aW 2 (aH b))).at_:Int)+1)))).blk hR.o δ))
 clear c1 f1 l1 i1 h hG;generalize w5.setCell ⟨gB,1,none⟩ (.int .i64 ((((aW 2 (aH b))).at_:Int)+1))=w6 at *
 have h:=hA;have hG:=gU;clear hA gU;replace hb:=ζ (Nat.le_trans hb0.o hG.o.size);have hz:=oI (lo:=0) (hi:=0) aO.o ω ω;rw[show ((0:Nat):Int)=0 from rfl] at hz;refine hz.mono ?_;clear hz;rintro e w7 ⟨rfl,wX,uZ⟩;replace h:=ζ (h.o.Ag aO.o GR.o uZ);replace hR:=ζ ((aC.set aO.o EP.o uZ).blk hR.o δ);replace hG:=ζ (hG.o.trans ((aC.set aO.o EP.o uZ).mono hTK.o));replace hb:=ζ (Nat.le_trans hb0.o hG.o.size);replace aO:=ζ wX;clear wX uZ;go_wp2_with fail;refine (Gq h.o aO.o EP.o hb.o (by have:=yO.o;simp only[aH];rw[fC];simp only;omega)).mono ?_;rintro e wE ⟨rfl,xsE,svE,h',fH⟩;replace h:=ζ h';(try replace hX:=ζ ((fH.mono sF.o).blk hX.o δ))
 (try replace hP:=ζ ((fH.mono sF.o).blk hP.o δ))
 (try replace hR:=ζ ((fH.mono sF.o).blk hR.o δ))
 replace hG:=ζ (hG.o.trans (fH.mono sF.o));replace hb:=ζ (Nat.le_trans hb0.o hG.o.size);clear h' fH aO;generalize hr:nI (oJ gV 0 0) (aH (aW 2 (aH b)))=r at *
 obtain⟨rb,p1,p2⟩:=r;simp only[eG];(try clear uT);(try clear uS);(try clear uG);(try clear uP);(try clear uO)
 have uT:wE.cell? ⟨gR,0,none⟩=_:=hR.o.cell 0;have uS:wE.cell? ⟨gR,1,none⟩=_:=hR.o.cell 1;have uP:=hR.o.frozen 0;have uO:=hR.o.frozen 1;have uG:=hR.o.lt;go_wp2;clear uT uS uP uO uG;have nN:=hR.o.dO 0 (.int .i64 (p1:Int));have t_:=nN.dO 1 (.int .i64 (p2:Int));have vT:=(hG.o.eY (g:=gR) (i:=0) hgr.o hb0.o (.int .i64 (p1:Int))).eY (g:=gR) (i:=1) hgr.o hb0.o (.int .i64 (p2:Int));have E5:=(h.o.far hR.o δ (aj wE ⟨gR,0,none⟩ (.int .i64 (p1:Int)))).far nN δ (aj _ ⟨gR,1,none⟩ (.int .i64 (p2:Int)));clear hR hG h nN;generalize (wE.setCell ⟨gR,0,none⟩ (.int .i64 (p1:Int))).setCell ⟨gR,1,none⟩ (.int .i64 (p2:Int))=w7 at *
 have e0:=t_.c0;have e1:=t_.c1;refine bodyPost_ret (v:=eG (p1,p2)) ?_ rfl ⟨?_,?_⟩
 ·simp[eG,results,Tryz.results176,go_sem,e0,e1]
 ·rw[hat.o]
 ·rw[hat.o];exact⟨_,_,E5,vT⟩
end Go.Proofs.YteojanlajhebhaaGreatDoor
namespace Go.Proofs.YteojanlajhebhaaGreatDoor
open Go.RowKit
theorem adU {w:World} {base gB dp:Nat} {s:List UInt8} {b:PB} {c:UInt8} {sub:Option (PB→PB×qW)} {xs:List DI} {sv:Value} (h:ni w base gB s b xs sv) (hb:base≤w.heap.size) (tX:s.length≤100) (hcs:s[b.at_]? = some c) (hc:gJ b≤8*b.at_+61) {d:UInt8} (A_:¬c = 40) (Iq:¬c = 91) (JZ:¬c = 46) (Oi:c = 92) (hp:kK s (aH b)=some d) :
 Calls Tryz.prog 176 #[.pointer (some ⟨gB,0,none⟩),.int .i64 (dp:Int)] w (jZ base gB s w (dh s sub c b)):=by
 have i40:¬(c.toNat:Int)=40:=fun e=>A_ (UInt8.toNat_inj.1 (by show c.toNat=40;omega))
 have i91:¬(c.toNat:Int)=91:=fun e=>Iq (UInt8.toNat_inj.1 (by show c.toNat=91;omega))
 have i46:¬(c.toNat:Int)=46:=fun e=>JZ (UInt8.toNat_inj.1 (by show c.toNat=46;omega))
 have i92:(c.toNat:Int)=92:=by rw[Oi];rfl
 have VZ:c.toNat<256:=c.toNat_lt;have yO:=ζ (lD b);have wL:Hid ((aH b).at_≤s.length):=ζ (by have:=(List.getElem?_eq_some_iff.1 hcs).1;simp only[aH];omega);have axK:d.toNat<256:=d.toNat_lt;have hat:Hid (dh s sub c b = nI (oJ gV d.toNat d.toNat) (aH (aH b))):=ζ (by unfold dh;rw[if_neg A_,if_neg Iq,if_neg JZ,if_pos Oi,hp]);have jm:iV s (aH b)=.tuple #[.int .u8 (d.toNat:Int),.bool true]:=by simp only[iV,hp]
 clear A_ Iq JZ Oi hp;have hlt:b.at_<s.length:=(List.getElem?_eq_some_iff.1 hcs).1;have yg:Hid (∀t∈[206],t∈TS):=ζ (by intro t ht;simp[TS,TB] at *;exact .inr (.inl ht));have sF:Hid (∀t∈TB,t∈TS):=ζ (fun t ht=>List.mem_cons_of_mem _ ht);have hTK:Hid (∀t∈TC,t∈TS):=ζ (by intro t ht;simp[TS,TB,TC] at *;rcases ht with h | h;exact .inr (.inl h);exact .inl h);have hR:=aS.new w 208 #[.int .i64 0,.int .i64 0];have hg1:ah w (w.alloc (.cells #[.int .i64 0,.int .i64 0] 208)):=(ah.refl _).alloc _;replace hR:=ζ hR;have hG:=ζ (aC.grows (T:=TS) hg1 hb);replace h:=ζ (h.grows hg1);have hb0:Hid (BLe base w):=ζ hb;replace hb:=ζ (Nat.le_trans hb hg1.size);have hgr:Hid (GLe w w.heap.size):=ζ (Nat.le_refl _);have Yz:((b.at_:Nat):Int)<(s.length:Int):=ω;have SY:∀h:b.at_<(⟨s.toArray⟩:ByteArray).size,(⟨s.toArray⟩:ByteArray)[b.at_]'h = c:=fun h=>by
  show s.toArray[b.at_]=c
  rw[List.getElem_toArray];exact (List.getElem?_eq_some_iff.1 hcs).2
 have c0:∀w',ni w' base gB s b xs sv→w'.cell? ⟨gB,0,none⟩=some (.string ⟨s.toArray⟩):=fun w' hh=>(hh.blk.cell 0).trans rfl
 have c1:∀w',ni w' base gB s b xs sv→w'.cell? ⟨gB,1,none⟩=some (.int .i64 (b.at_:Int)):=fun w' hh=>(hh.blk.cell 1).trans rfl
 replace c0:=c0 _ h.o;replace c1:=c1 _ h.o;have l1:=h.o.blk.lt;clear hg1;go_enter Tryz.func176,Tryz.ntmps176
 go_wp2_with fail;generalize w.alloc (.cells #[.int .i64 0,.int .i64 0] 208)=w0 at *
 generalize w.heap.size=gR at *
 refine aJ κ ?_;refine rK (.range 10) 0 ?_;iterate 10 refine aB ?_
 refine ay ?_;refine aP κ (fun wN hN hS=> ?_);clear c0 c1 l1;replace hR:=ζ (hR.o.grows hN);replace h:=ζ (h.o.grows hN);replace hG:=ζ (hG.o.trans (aC.grows hN hb.o));replace hb:=ζ (Nat.le_trans hb.o hN.size);clear hN hS;have c1:wN.cell? ⟨gB,1,none⟩=some (.int .i64 ((b).at_:Int)):=(h.o.blk.cell 1).trans rfl;have f1:=h.o.blk.frozen 1;have l1:=h.o.blk.lt;have i1: -9223372036854775808≤((b).at_:Int)+1∧((b).at_:Int)+1≤9223372036854775807:=by first | omega | (simp only[aH];omega)
 have hA:=ζ h.o.EW;have gU:=ζ (hG.o.trans ((aC.own h.o (aj wN ⟨gB,1,none⟩ (.int .i64 (((b).at_:Int)+1)))).mono yg.o));have hsz:Hid ((wN.setCell ⟨gB,1,none⟩ (.int .i64 (((b).at_:Int)+1))).heap.size=wN.heap.size):=ζ σ;go_wp2_with fail;(try replace aO:=ζ (aO.o.tk (aC.own h.o (aj wN ⟨gB,1,none⟩ (.int .i64 (((b).at_:Int)+1)))) δ))
 (try replace hX:=ζ ((aC.own h.o (aj wN ⟨gB,1,none⟩ (.int .i64 (((b).at_:Int)+1)))).blk hX.o δ))
 (try replace hP:=ζ ((aC.own h.o (aj wN ⟨gB,1,none⟩ (.int .i64 (((b).at_:Int)+1)))).blk hP.o δ))
 (try replace hR:=ζ ((aC.own h.o (aj wN ⟨gB,1,none⟩ (.int .i64 (((b).at_:Int)+1)))).blk hR.o δ))
 clear c1 f1 l1 i1 h hG;generalize wN.setCell ⟨gB,1,none⟩ (.int .i64 (((b).at_:Int)+1))=w2 at *
 have h:=hA;have hG:=gU;clear hA gU;replace hb:=ζ (Nat.le_trans hb0.o hG.o.size);have aO:Hid (iD (w2.alloc (.cells #[.int .u64 0,.int .u64 0,.int .u64 0,.int .u64 0] 237)) w2.heap.size gV):=ζ ⟨aS.new w2 _ _,rfl,by intro x hx;simp[gV] at hx;omega⟩;have dF:ah w2 (w2.alloc (.cells #[.int .u64 0,.int .u64 0,.int .u64 0,.int .u64 0] 237)):=(ah.refl _).alloc _;have GR:=ζ h.o.fresh;have EP:=hb;replace hR:=ζ (hR.o.grows dF);replace h:=ζ (h.o.grows dF);replace hG:=ζ (hG.o.trans (aC.grows dF hb.o));replace hb:Hid (base≤(w2.alloc (.cells #[.int .u64 0,.int .u64 0,.int .u64 0,.int .u64 0] 237)).heap.size):=ζ (Nat.le_trans hb.o dF.size);clear dF;generalize w2.alloc (.cells #[.int .u64 0,.int .u64 0,.int .u64 0,.int .u64 0] 237)=w3 at *
 rw[hsz.o] at aO GR EP;clear hsz;generalize wN.heap.size=gS at *
 go_wp2_with fail;refine (g_ h.o).mono ?_;rintro e w4 ⟨rfl,dD⟩;replace h:=ζ (h.o.grows dD);replace hG:=ζ (hG.o.trans (aC.grows dD hb.o));replace hb:=ζ (Nat.le_trans hb.o dD.size);(try replace aO:=ζ (aO.o.grows dD))
 (try replace hX:=ζ (hX.o.grows dD))
 (try replace hP:=ζ (hP.o.grows dD))
 (try replace hR:=ζ (hR.o.grows dD))
 clear dD;rw[jm];clear jm;have c1:w4.cell? ⟨gB,1,none⟩=some (.int .i64 (((aH b)).at_:Int)):=(h.o.blk.cell 1).trans rfl;have f1:=h.o.blk.frozen 1;have l1:=h.o.blk.lt;have i1: -9223372036854775808≤(((aH b)).at_:Int)+1∧(((aH b)).at_:Int)+1≤9223372036854775807:=by first | omega | (simp only[aH];omega)
 have hA:=ζ h.o.EW;have gU:=ζ (hG.o.trans ((aC.own h.o (aj w4 ⟨gB,1,none⟩ (.int .i64 ((((aH b)).at_:Int)+1)))).mono yg.o));have hsz:Hid ((w4.setCell ⟨gB,1,none⟩ (.int .i64 ((((aH b)).at_:Int)+1))).heap.size=w4.heap.size):=ζ σ;go_wp2_with fail;(try replace aO:=ζ (aO.o.tk (aC.own h.o (aj w4 ⟨gB,1,none⟩ (.int .i64 ((((aH b)).at_:Int)+1)))) δ))
 (try replace hX:=ζ ((aC.own h.o (aj w4 ⟨gB,1,none⟩ (.int .i64 ((((aH b)).at_:Int)+1)))).blk hX.o δ))
 (try replace hP:=ζ ((aC.own h.o (aj w4 ⟨gB,1,none⟩ (.int .i64 ((((aH b)).at_:Int)+1)))).blk hP.o δ))
 (try replace hR:=ζ ((aC.own h.o (aj w4 ⟨gB,1,none⟩ (.int .i64 ((((aH b)).at_:Int)+1)))).blk hR.o δ))
 clear c1 f1 l1 i1 h hG;generalize w4.setCell ⟨gB,1,none⟩ (.int .i64 ((((aH b)).at_:Int)+1))=w6 at *
 have h:=hA;have hG:=gU;clear hA gU;replace hb:=ζ (Nat.le_trans hb0.o hG.o.size);refine (oI (lo:=d.toNat) (hi:=d.toNat) aO.o ω ω).mono ?_;rintro e w7 ⟨rfl,wX,uZ⟩;replace h:=ζ (h.o.Ag aO.o GR.o uZ);replace hR:=ζ ((aC.set aO.o EP.o uZ).blk hR.o δ);replace hG:=ζ (hG.o.trans ((aC.set aO.o EP.o uZ).mono hTK.o));replace hb:=ζ (Nat.le_trans hb0.o hG.o.size);replace aO:=ζ wX;clear wX uZ;go_wp2_with fail;refine (Gq h.o aO.o EP.o hb.o (by have:=yO.o;simp only[aH];omega)).mono ?_;rintro e wE ⟨rfl,xsE,svE,h',fH⟩;replace h:=ζ h';(try replace hX:=ζ ((fH.mono sF.o).blk hX.o δ))
 (try replace hP:=ζ ((fH.mono sF.o).blk hP.o δ))
 (try replace hR:=ζ ((fH.mono sF.o).blk hR.o δ))
 replace hG:=ζ (hG.o.trans (fH.mono sF.o));replace hb:=ζ (Nat.le_trans hb0.o hG.o.size);clear h' fH aO;generalize hr:nI (oJ gV d.toNat d.toNat) (aH (aH b))=r at *
 obtain⟨rb,p1,p2⟩:=r;simp only[eG];(try clear uT);(try clear uS);(try clear uG);(try clear uP);(try clear uO)
 have uT:wE.cell? ⟨gR,0,none⟩=_:=hR.o.cell 0;have uS:wE.cell? ⟨gR,1,none⟩=_:=hR.o.cell 1;have uP:=hR.o.frozen 0;have uO:=hR.o.frozen 1;have uG:=hR.o.lt;go_wp2;clear uT uS uP uO uG;have nN:=hR.o.dO 0 (.int .i64 (p1:Int));have t_:=nN.dO 1 (.int .i64 (p2:Int));have vT:=(hG.o.eY (g:=gR) (i:=0) hgr.o hb0.o (.int .i64 (p1:Int))).eY (g:=gR) (i:=1) hgr.o hb0.o (.int .i64 (p2:Int));have E5:=(h.o.far hR.o δ (aj wE ⟨gR,0,none⟩ (.int .i64 (p1:Int)))).far nN δ (aj _ ⟨gR,1,none⟩ (.int .i64 (p2:Int)));clear hR hG h nN;generalize (wE.setCell ⟨gR,0,none⟩ (.int .i64 (p1:Int))).setCell ⟨gR,1,none⟩ (.int .i64 (p2:Int))=w7 at *
 have e0:=t_.c0;have e1:=t_.c1;refine bodyPost_ret (v:=eG (p1,p2)) ?_ rfl ⟨?_,?_⟩
 ·simp[eG,results,Tryz.results176,go_sem,e0,e1]
 ·rw[hat.o]
 ·rw[hat.o];exact⟨_,_,E5,vT⟩
end Go.Proofs.YteojanlajhebhaaGreatDoor
namespace Go.Proofs.YteojanlajhebhaaGreatDoor
open Go.RowKit
theorem alm {w:World} {base gB dp:Nat} {s:List UInt8} {b:PB} {c:UInt8} {sub:Option (PB→PB×qW)} {xs:List DI} {sv:Value} (h:ni w base gB s b xs sv) (hb:base≤w.heap.size) (tX:s.length≤100) (hcs:s[b.at_]? = some c) (hc:gJ b≤8*b.at_+61) (A_:¬c = 40) (Iq:¬c = 91) (JZ:¬c = 46) (Oi:¬c = 92) (U4:Zw c = true) :
 Calls Tryz.prog 176 #[.pointer (some ⟨gB,0,none⟩),.int .i64 (dp:Int)] w (jZ base gB s w (dh s sub c b)):=by
 have i40:¬(c.toNat:Int)=40:=fun e=>A_ (UInt8.toNat_inj.1 (by show c.toNat=40;omega))
 have i91:¬(c.toNat:Int)=91:=fun e=>Iq (UInt8.toNat_inj.1 (by show c.toNat=91;omega))
 have i46:¬(c.toNat:Int)=46:=fun e=>JZ (UInt8.toNat_inj.1 (by show c.toNat=46;omega))
 have i92:¬(c.toNat:Int)=92:=fun e=>Oi (UInt8.toNat_inj.1 (by show c.toNat=92;omega))
 have cI:=ζ (fun W=>Sv W c);have VZ:c.toNat<256:=c.toNat_lt;have yO:=ζ (lD b);have wL:Hid ((aH b).at_≤s.length):=ζ (by have:=(List.getElem?_eq_some_iff.1 hcs).1;simp only[aH];omega);have Il:=(Zv c).1 U4;have hat:Hid (dh s sub c b = nI gV (aW 2 (aH b))):=ζ (by unfold dh;rw[if_neg A_,if_neg Iq,if_neg JZ,if_neg Oi,if_pos U4]);clear A_ Iq JZ Oi U4;generalize Lib.indexByte [42,43,63,124,40,41,91,93,92,46] c = ki at *
 have hlt:b.at_<s.length:=(List.getElem?_eq_some_iff.1 hcs).1;have yg:Hid (∀t∈[206],t∈TS):=ζ (by intro t ht;simp[TS,TB] at *;exact .inr (.inl ht));have sF:Hid (∀t∈TB,t∈TS):=ζ (fun t ht=>List.mem_cons_of_mem _ ht);have hTK:Hid (∀t∈TC,t∈TS):=ζ (by intro t ht;simp[TS,TB,TC] at *;rcases ht with h | h;exact .inr (.inl h);exact .inl h);have hR:=aS.new w 208 #[.int .i64 0,.int .i64 0];have hg1:ah w (w.alloc (.cells #[.int .i64 0,.int .i64 0] 208)):=(ah.refl _).alloc _;replace hR:=ζ hR;have hG:=ζ (aC.grows (T:=TS) hg1 hb);replace h:=ζ (h.grows hg1);have hb0:Hid (BLe base w):=ζ hb;replace hb:=ζ (Nat.le_trans hb hg1.size);have hgr:Hid (GLe w w.heap.size):=ζ (Nat.le_refl _);have Yz:((b.at_:Nat):Int)<(s.length:Int):=ω;have SY:∀h:b.at_<(⟨s.toArray⟩:ByteArray).size,(⟨s.toArray⟩:ByteArray)[b.at_]'h = c:=fun h=>by
  show s.toArray[b.at_]=c
  rw[List.getElem_toArray];exact (List.getElem?_eq_some_iff.1 hcs).2
 have c0:∀w',ni w' base gB s b xs sv→w'.cell? ⟨gB,0,none⟩=some (.string ⟨s.toArray⟩):=fun w' hh=>(hh.blk.cell 0).trans rfl
 have c1:∀w',ni w' base gB s b xs sv→w'.cell? ⟨gB,1,none⟩=some (.int .i64 (b.at_:Int)):=fun w' hh=>(hh.blk.cell 1).trans rfl
 replace c0:=c0 _ h.o;replace c1:=c1 _ h.o;have l1:=h.o.blk.lt;clear hg1;go_enter Tryz.func176,Tryz.ntmps176
 go_wp2_with fail;generalize w.alloc (.cells #[.int .i64 0,.int .i64 0] 208)=w0 at *
 generalize w.heap.size=gR at *
 refine aJ κ ?_;refine rK (.range 10) 0 ?_;iterate 10 refine aB ?_
 refine ay ?_;refine aP κ (fun wN hN hS=> ?_);clear c0 c1 l1;replace hR:=ζ (hR.o.grows hN);replace h:=ζ (h.o.grows hN);replace hG:=ζ (hG.o.trans (aC.grows hN hb.o));replace hb:=ζ (Nat.le_trans hb.o hN.size);clear hN hS;have c1:wN.cell? ⟨gB,1,none⟩=some (.int .i64 ((b).at_:Int)):=(h.o.blk.cell 1).trans rfl;have f1:=h.o.blk.frozen 1;have l1:=h.o.blk.lt;have i1: -9223372036854775808≤((b).at_:Int)+1∧((b).at_:Int)+1≤9223372036854775807:=by first | omega | (simp only[aH];omega)
 have hA:=ζ h.o.EW;have gU:=ζ (hG.o.trans ((aC.own h.o (aj wN ⟨gB,1,none⟩ (.int .i64 (((b).at_:Int)+1)))).mono yg.o));have hsz:Hid ((wN.setCell ⟨gB,1,none⟩ (.int .i64 (((b).at_:Int)+1))).heap.size=wN.heap.size):=ζ σ;go_wp2_with fail;(try replace aO:=ζ (aO.o.tk (aC.own h.o (aj wN ⟨gB,1,none⟩ (.int .i64 (((b).at_:Int)+1)))) δ))
 (try replace hX:=ζ ((aC.own h.o (aj wN ⟨gB,1,none⟩ (.int .i64 (((b).at_:Int)+1)))).blk hX.o δ))
 (try replace hP:=ζ ((aC.own h.o (aj wN ⟨gB,1,none⟩ (.int .i64 (((b).at_:Int)+1)))).blk hP.o δ))
 (try replace hR:=ζ ((aC.own h.o (aj wN ⟨gB,1,none⟩ (.int .i64 (((b).at_:Int)+1)))).blk hR.o δ))
 clear c1 f1 l1 i1 h hG;generalize wN.setCell ⟨gB,1,none⟩ (.int .i64 (((b).at_:Int)+1))=w2 at *
 have h:=hA;have hG:=gU;clear hA gU;replace hb:=ζ (Nat.le_trans hb0.o hG.o.size);have aO:Hid (iD (w2.alloc (.cells #[.int .u64 0,.int .u64 0,.int .u64 0,.int .u64 0] 237)) w2.heap.size gV):=ζ ⟨aS.new w2 _ _,rfl,by intro x hx;simp[gV] at hx;omega⟩;have dF:ah w2 (w2.alloc (.cells #[.int .u64 0,.int .u64 0,.int .u64 0,.int .u64 0] 237)):=(ah.refl _).alloc _;have GR:=ζ h.o.fresh;have EP:=hb;replace hR:=ζ (hR.o.grows dF);replace h:=ζ (h.o.grows dF);replace hG:=ζ (hG.o.trans (aC.grows dF hb.o));replace hb:Hid (base≤(w2.alloc (.cells #[.int .u64 0,.int .u64 0,.int .u64 0,.int .u64 0] 237)).heap.size):=ζ (Nat.le_trans hb.o dF.size);clear dF;generalize w2.alloc (.cells #[.int .u64 0,.int .u64 0,.int .u64 0,.int .u64 0] 237)=w3 at *
 rw[hsz.o] at aO GR EP;clear hsz;generalize wN.heap.size=gS at *
 refine (cI.out _).mono ?_;rintro e wI ⟨rfl,hwI⟩;replace hwI:=hwI.symm;subst hwI;go_wp2_with fail;refine (nS h.o).mono ?_;rintro e w4 ⟨rfl,Z9,dD⟩;(try replace aO:=ζ (aO.o.tk (aC.own h.o dD) δ))
 (try replace hX:=ζ ((aC.own h.o dD).blk hX.o δ))
 (try replace hP:=ζ ((aC.own h.o dD).blk hP.o δ))
 (try replace hR:=ζ ((aC.own h.o dD).blk hR.o δ))
 replace hG:=ζ (hG.o.trans ((aC.own h.o dD).mono yg.o));replace h:=ζ Z9;replace hb:=ζ (Nat.le_trans hb0.o hG.o.size);clear Z9 dD;go_wp2_with fail;refine (Gq h.o aO.o EP.o hb.o (by rw[fC];have:=yO.o;simp only[aH];omega)).mono ?_;rintro e wE ⟨rfl,xsE,svE,h',fH⟩;replace h:=ζ h';(try replace hX:=ζ ((fH.mono sF.o).blk hX.o δ))
 (try replace hP:=ζ ((fH.mono sF.o).blk hP.o δ))
 (try replace hR:=ζ ((fH.mono sF.o).blk hR.o δ))
 replace hG:=ζ (hG.o.trans (fH.mono sF.o));replace hb:=ζ (Nat.le_trans hb0.o hG.o.size);clear h' fH aO;generalize hr:nI gV (aW 2 (aH b))=r at *
 obtain⟨rb,p1,p2⟩:=r;simp only[eG];(try clear uT);(try clear uS);(try clear uG);(try clear uP);(try clear uO)
 have uT:wE.cell? ⟨gR,0,none⟩=_:=hR.o.cell 0;have uS:wE.cell? ⟨gR,1,none⟩=_:=hR.o.cell 1;have uP:=hR.o.frozen 0;have uO:=hR.o.frozen 1;have uG:=hR.o.lt;go_wp2;clear uT uS uP uO uG;have nN:=hR.o.dO 0 (.int .i64 (p1:Int));have t_:=nN.dO 1 (.int .i64 (p2:Int));have vT:=(hG.o.eY (g:=gR) (i:=0) hgr.o hb0.o (.int .i64 (p1:Int))).eY (g:=gR) (i:=1) hgr.o hb0.o (.int .i64 (p2:Int));have E5:=(h.o.far hR.o δ (aj wE ⟨gR,0,none⟩ (.int .i64 (p1:Int)))).far nN δ (aj _ ⟨gR,1,none⟩ (.int .i64 (p2:Int)));clear hR hG h nN;generalize (wE.setCell ⟨gR,0,none⟩ (.int .i64 (p1:Int))).setCell ⟨gR,1,none⟩ (.int .i64 (p2:Int))=w7 at *
 have e0:=t_.c0;have e1:=t_.c1;refine bodyPost_ret (v:=eG (p1,p2)) ?_ rfl ⟨?_,?_⟩
 ·simp[eG,results,Tryz.results176,go_sem,e0,e1]
 ·rw[hat.o]
 ·rw[hat.o];exact⟨_,_,E5,vT⟩
end Go.Proofs.YteojanlajhebhaaGreatDoor
namespace Go.Proofs.YteojanlajhebhaaGreatDoor
open Go.RowKit
theorem adV {w:World} {base gB dp:Nat} {s:List UInt8} {b:PB} {c:UInt8} {sub:Option (PB→PB×qW)} {xs:List DI} {sv:Value} (h:ni w base gB s b xs sv) (hb:base≤w.heap.size) (tX:s.length≤100) (hcs:s[b.at_]? = some c) (hc:gJ b≤8*b.at_+61) (A_:¬c = 40) (Iq:¬c = 91) (JZ:¬c = 46) (Oi:¬c = 92) (U4:¬Zw c = true) :
 Calls Tryz.prog 176 #[.pointer (some ⟨gB,0,none⟩),.int .i64 (dp:Int)] w (jZ base gB s w (dh s sub c b)):=by
 have i40:¬(c.toNat:Int)=40:=fun e=>A_ (UInt8.toNat_inj.1 (by show c.toNat=40;omega))
 have i91:¬(c.toNat:Int)=91:=fun e=>Iq (UInt8.toNat_inj.1 (by show c.toNat=91;omega))
 have i46:¬(c.toNat:Int)=46:=fun e=>JZ (UInt8.toNat_inj.1 (by show c.toNat=46;omega))
 have i92:¬(c.toNat:Int)=92:=fun e=>Oi (UInt8.toNat_inj.1 (by show c.toNat=92;omega))
 have cI:=ζ (fun W=>Sv W c);have VZ:c.toNat<256:=c.toNat_lt;have yO:=ζ (lD b);have wL:Hid ((aH b).at_≤s.length):=ζ (by have:=(List.getElem?_eq_some_iff.1 hcs).1;simp only[aH];omega);have Il:¬0≤Lib.indexByte [42,43,63,124,40,41,91,93,92,46] c:=fun hh=>U4 ((Zv c).2 hh)
 have hat:Hid (dh s sub c b = nI (oJ gV c.toNat c.toNat) (aH b)):=ζ (by unfold dh;rw[if_neg A_,if_neg Iq,if_neg JZ,if_neg Oi,if_neg U4]);clear A_ Iq JZ Oi U4;generalize Lib.indexByte [42,43,63,124,40,41,91,93,92,46] c = ki at *
 have asw:ki<0:=ω;have hlt:b.at_<s.length:=(List.getElem?_eq_some_iff.1 hcs).1;have yg:Hid (∀t∈[206],t∈TS):=ζ (by intro t ht;simp[TS,TB] at *;exact .inr (.inl ht));have sF:Hid (∀t∈TB,t∈TS):=ζ (fun t ht=>List.mem_cons_of_mem _ ht);have hTK:Hid (∀t∈TC,t∈TS):=ζ (by intro t ht;simp[TS,TB,TC] at *;rcases ht with h | h;exact .inr (.inl h);exact .inl h);have hR:=aS.new w 208 #[.int .i64 0,.int .i64 0];have hg1:ah w (w.alloc (.cells #[.int .i64 0,.int .i64 0] 208)):=(ah.refl _).alloc _;replace hR:=ζ hR;have hG:=ζ (aC.grows (T:=TS) hg1 hb);replace h:=ζ (h.grows hg1);have hb0:Hid (BLe base w):=ζ hb;replace hb:=ζ (Nat.le_trans hb hg1.size);have hgr:Hid (GLe w w.heap.size):=ζ (Nat.le_refl _);have Yz:((b.at_:Nat):Int)<(s.length:Int):=ω;have SY:∀h:b.at_<(⟨s.toArray⟩:ByteArray).size,(⟨s.toArray⟩:ByteArray)[b.at_]'h = c:=fun h=>by
  show s.toArray[b.at_]=c
  rw[List.getElem_toArray];exact (List.getElem?_eq_some_iff.1 hcs).2
 have c0:∀w',ni w' base gB s b xs sv→w'.cell? ⟨gB,0,none⟩=some (.string ⟨s.toArray⟩):=fun w' hh=>(hh.blk.cell 0).trans rfl
 have c1:∀w',ni w' base gB s b xs sv→w'.cell? ⟨gB,1,none⟩=some (.int .i64 (b.at_:Int)):=fun w' hh=>(hh.blk.cell 1).trans rfl
 replace c0:=c0 _ h.o;replace c1:=c1 _ h.o;have l1:=h.o.blk.lt;clear hg1;go_enter Tryz.func176,Tryz.ntmps176
 go_wp2_with fail;generalize w.alloc (.cells #[.int .i64 0,.int .i64 0] 208)=w0 at *
 generalize w.heap.size=gR at *
 refine aJ κ ?_;refine rK (.range 10) 0 ?_;iterate 10 refine aB ?_
 refine ay ?_;refine aP κ (fun wN hN hS=> ?_);clear c0 c1 l1;replace hR:=ζ (hR.o.grows hN);replace h:=ζ (h.o.grows hN);replace hG:=ζ (hG.o.trans (aC.grows hN hb.o));replace hb:=ζ (Nat.le_trans hb.o hN.size);clear hN hS;have c1:wN.cell? ⟨gB,1,none⟩=some (.int .i64 ((b).at_:Int)):=(h.o.blk.cell 1).trans rfl;have f1:=h.o.blk.frozen 1;have l1:=h.o.blk.lt;have i1: -9223372036854775808≤((b).at_:Int)+1∧((b).at_:Int)+1≤9223372036854775807:=by first | omega | (simp only[aH];omega)
 have hA:=ζ h.o.EW;have gU:=ζ (hG.o.trans ((aC.own h.o (aj wN ⟨gB,1,none⟩ (.int .i64 (((b).at_:Int)+1)))).mono yg.o));have hsz:Hid ((wN.setCell ⟨gB,1,none⟩ (.int .i64 (((b).at_:Int)+1))).heap.size=wN.heap.size):=ζ σ;go_wp2_with fail;(try replace aO:=ζ (aO.o.tk (aC.own h.o (aj wN ⟨gB,1,none⟩ (.int .i64 (((b).at_:Int)+1)))) δ))
 (try replace hX:=ζ ((aC.own h.o (aj wN ⟨gB,1,none⟩ (.int .i64 (((b).at_:Int)+1)))).blk hX.o δ))
 (try replace hP:=ζ ((aC.own h.o (aj wN ⟨gB,1,none⟩ (.int .i64 (((b).at_:Int)+1)))).blk hP.o δ))
 (try replace hR:=ζ ((aC.own h.o (aj wN ⟨gB,1,none⟩ (.int .i64 (((b).at_:Int)+1)))).blk hR.o δ))
 clear c1 f1 l1 i1 h hG;generalize wN.setCell ⟨gB,1,none⟩ (.int .i64 (((b).at_:Int)+1))=w2 at *
 have h:=hA;have hG:=gU;clear hA gU;replace hb:=ζ (Nat.le_trans hb0.o hG.o.size);have aO:Hid (iD (w2.alloc (.cells #[.int .u64 0,.int .u64 0,.int .u64 0,.int .u64 0] 237)) w2.heap.size gV):=ζ ⟨aS.new w2 _ _,rfl,by intro x hx;simp[gV] at hx;omega⟩;have dF:ah w2 (w2.alloc (.cells #[.int .u64 0,.int .u64 0,.int .u64 0,.int .u64 0] 237)):=(ah.refl _).alloc _;have GR:=ζ h.o.fresh;have EP:=hb;replace hR:=ζ (hR.o.grows dF);replace h:=ζ (h.o.grows dF);replace hG:=ζ (hG.o.trans (aC.grows dF hb.o));replace hb:Hid (base≤(w2.alloc (.cells #[.int .u64 0,.int .u64 0,.int .u64 0,.int .u64 0] 237)).heap.size):=ζ (Nat.le_trans hb.o dF.size);clear dF;generalize w2.alloc (.cells #[.int .u64 0,.int .u64 0,.int .u64 0,.int .u64 0] 237)=w3 at *
 rw[hsz.o] at aO GR EP;clear hsz;generalize wN.heap.size=gS at *
 refine (cI.out _).mono ?_;rintro e wI ⟨rfl,hwI⟩;replace hwI:=hwI.symm;subst hwI;go_wp2_with fail;refine (oI (lo:=c.toNat) (hi:=c.toNat) aO.o ω ω).mono ?_;rintro e w7 ⟨rfl,wX,uZ⟩;replace h:=ζ (h.o.Ag aO.o GR.o uZ);replace hR:=ζ ((aC.set aO.o EP.o uZ).blk hR.o δ);replace hG:=ζ (hG.o.trans ((aC.set aO.o EP.o uZ).mono hTK.o));replace hb:=ζ (Nat.le_trans hb0.o hG.o.size);replace aO:=ζ wX;clear wX uZ;go_wp2_with fail;refine (Gq h.o aO.o EP.o hb.o (by have:=yO.o;simp only[aH];omega)).mono ?_;rintro e wE ⟨rfl,xsE,svE,h',fH⟩;replace h:=ζ h';(try replace hX:=ζ ((fH.mono sF.o).blk hX.o δ))
 (try replace hP:=ζ ((fH.mono sF.o).blk hP.o δ))
 (try replace hR:=ζ ((fH.mono sF.o).blk hR.o δ))
 replace hG:=ζ (hG.o.trans (fH.mono sF.o));replace hb:=ζ (Nat.le_trans hb0.o hG.o.size);clear h' fH aO;generalize hr:nI (oJ gV c.toNat c.toNat) (aH b)=r at *
 obtain⟨rb,p1,p2⟩:=r;simp only[eG];(try clear uT);(try clear uS);(try clear uG);(try clear uP);(try clear uO)
 have uT:wE.cell? ⟨gR,0,none⟩=_:=hR.o.cell 0;have uS:wE.cell? ⟨gR,1,none⟩=_:=hR.o.cell 1;have uP:=hR.o.frozen 0;have uO:=hR.o.frozen 1;have uG:=hR.o.lt;go_wp2;clear uT uS uP uO uG;have nN:=hR.o.dO 0 (.int .i64 (p1:Int));have t_:=nN.dO 1 (.int .i64 (p2:Int));have vT:=(hG.o.eY (g:=gR) (i:=0) hgr.o hb0.o (.int .i64 (p1:Int))).eY (g:=gR) (i:=1) hgr.o hb0.o (.int .i64 (p2:Int));have E5:=(h.o.far hR.o δ (aj wE ⟨gR,0,none⟩ (.int .i64 (p1:Int)))).far nN δ (aj _ ⟨gR,1,none⟩ (.int .i64 (p2:Int)));clear hR hG h nN;generalize (wE.setCell ⟨gR,0,none⟩ (.int .i64 (p1:Int))).setCell ⟨gR,1,none⟩ (.int .i64 (p2:Int))=w7 at *
 have e0:=t_.c0;have e1:=t_.c1;refine bodyPost_ret (v:=eG (p1,p2)) ?_ rfl ⟨?_,?_⟩
 ·simp[eG,results,Tryz.results176,go_sem,e0,e1]
 ·rw[hat.o]
 ·rw[hat.o];exact⟨_,_,E5,vT⟩
end Go.Proofs.YteojanlajhebhaaGreatDoor
