/- Parts: ShaN KeyA KeyB AlrF AlrG IdsA IdsB IdsC CatG GrpA -/
import Derived.Test.YtbhikkgpcmkonaaGreatDoorVa0
import Derived.Test.YtbhikkgpcmkonaaGreatDoorVa6
import Derived.Test.YtbhikkgpcmkonaaGreatDoorVa5
import Derived.Test.YtbhikkgpcmkonaaGreatDoorVa4
import Derived.Test.YtbhikkgpcmkonaaGreatDoorVa8
import Derived.Test.YtbhikkgpcmkonaaGreatDoorVa3
import Derived.Laws.CopyRow
import Derived.Laws.Externs
import Derived.Lib.AppendZeros
set_option maxRecDepth 100000
set_option maxHeartbeats 12800000
namespace Go.Proofs.YtbhikkgpcmkonaaGreatDoor
open Go.RowKit
theorem apx {A:Option Addr} {m c:Nat} {bs:List Nat} (w:World) (hA:bW w 1 ji A m bs) (hb:∀x∈bs,x < 256) (hm:m≤1099511627776) :
 Calls Tryz.prog 93 #[.slice A m c] w fun e w'=>e =.returned (.agg (wF (sha bs)))∧ah w w':=by
 have lJ:=hA.1;have cN:=fun W=>aaz W
 replace cN:=ζ cN;replace hA:=ζ hA;replace hb:=ζ hb;go_enter Tryz.func93,Tryz.ntmps93
 go_wp2_with fail;refine wZ (Pr:=fun W=>Calls _ _ _ W _) (fun w1 rZ fF=> ?_);replace rZ:aF w1 w.heap.size 201 (wF (List.replicate 32 0)):=rZ.cast κ;obtain⟨g2,hg2⟩:∃g2,g2=w.heap.size:=⟨_,rfl⟩;rw[←hg2] at rZ ⊢;replace hg2:=ζ hg2;refine (cN.out _).mono ?_;rintro e w2 ⟨g,rfl,ny,hS,fQ⟩;have hG:=fF.trans fQ;have auy:=rZ.lt;have hwg:w.heap.size≤g:=Nat.le_trans fF.size ny;have hAp:iq w2 g A m bs:=by
  refine⟨hA.o.keep hG,fun ad e hn=> ?_⟩;obtain⟨b,off,e2,hlt,_⟩:=hA.o.2 hn;rw[e] at e2;cases e2
  simp only;omega
 have cAdd:=adq (W0:=w1) (v:=oZ) (xs:=[]) (ys:=bs) (c:=c) RS w2 fQ ny hS (Own.iH _ _ _ _ _) hAp hb.o (by simpa using hm) ω ω;simp only[List.nil_append] at cAdd;replace cAdd:=ζ cAdd;replace rZ:=ζ rZ;replace fF:=ζ fF;clear hS fQ hG hAp ny hA;go_wp2_with fail;refine (cAdd.out).mono ?_;rintro e w3 ⟨n,A3,c3,rfl,hn1,Y6,JQ,Wi,-,-,qo⟩;clear cAdd;have aQ:=adU (l:=bs) (r:=bs.drop (64*n)) (m:=n) (by rw[List.length_drop];omega) rfl;have qM:(bs.drop (64*n)).length=bs.length-64*n:=List.length_drop;rw[←qM] at JQ Wi;rw[show (0:Int)+(m:Int)=((m:Nat):Int) by omega] at JQ;have af_:=al3 (N:=m) (TW n bs RS) w3 JQ Wi.1 (fun x hx=>hb.o x (List.mem_of_mem_drop hx)) (by rw[qM];omega) hm;rw[←lJ,←aQ] at af_;have hD:CV (apm bs)=sha bs:=rfl;rw[hD] at af_;have hDl:(sha bs).length=32:=Gl _;generalize hDD:sha bs=D at *
 replace hDD:=ζ hDD;have Vy:=rZ.o.grows qo;have rH:=fF.o.trans qo;have amD:w.heap.size≤g2:=Nat.le_of_eq hg2.o.symm;have hsz:(wF D).size=32:=by rw[yB];exact hDl
 have Rq:(Tryz.prog.info? 201).map (·.size)=some (wF D).size:=by rw[hsz];kernel_rfl
 have hold:(wF (List.replicate 32 0)).size=(wF D).size:=by rw[hsz,yB];rfl
 have h1:=Um D;replace af_:=ζ af_;replace Rq:=ζ Rq;replace hold:=ζ hold;replace h1:=ζ h1;replace Vy:=ζ Vy;replace rH:=ζ rH;clear JQ Wi aQ qM hD hDl hsz rZ fF hn1 Y6 qo;go_wp2_with fail;refine (af_.out).mono ?_;rintro e w4 ⟨rfl,oL⟩;replace Vy:=ζ (Vy.o.grows oL);have hGf:=(rH.o.trans oL).qh (mD w4 g2 (wF D)) amD;have uh:=setRow_heap w4 g2 _ (wF D) _ _ Vy.o;replace hGf:=ζ hGf;replace uh:=ζ uh;clear oL rH af_;go_wp2_with (refine wpList_store_row rfl 201 (.tmp 2) (.tmp 9) rfl g2 (wF D) rfl rfl 201 _ Vy.o Rq.o hold.o h1.o ?_);rw[hDD.o];exact bodyPost_ret (v:=.agg (wF D)) (results_cell_row (p:=2) (ty:=201) κ _ _ g2 201 (wF D) (0,0) _ rfl uh.o Tryz.underlying201 rfl Rq.o) rfl ⟨rfl,hGf.o⟩
theorem RX {A:Option Addr} {m c:Nat} {bs:List Nat} (w:World) (hA:bW w 1 ji A m bs) (hb:∀x∈bs,x < 256) (hm:m≤1099511627776) :
 Calls Tryz.prog 50 #[.slice A m c] w fun e w'=>e =.returned (.int .u64 ((jM (sha bs) 8:Nat):Int))∧ah w w':=by
 refine ahY w (apx w hA hb hm) (Gl _) (fun x hx=> ?_);unfold sha CV at hx;simp only[List.mem_flatMap] at hx;obtain⟨y,_,hy⟩:=hx;simp only[List.mem_cons,List.not_mem_nil,or_false] at hy;rcases hy with rfl | rfl | rfl | rfl <;> exact Nat.mod_lt _ δ
def gQ (R:List UInt8) (a:Int) (fs:List bK):List Nat:=oN R++[0,(a % 256).toNat]++oN (fs.flatMap qJ)
theorem XC (R:List UInt8) (a:Int):gQ R a []=oN R++[0,(a % 256).toNat]:=by simp[gQ,oN]
theorem U0 (R:List UInt8) (a:Int) (fs:List bK) (f:bK):gQ R a (fs++[f])=(((gQ R a fs++oN f.n)++[61])++oN f.v)++[0]:=by
 simp[gQ,qJ,oN]
theorem aaR (R:List UInt8) (a:Int) (fs:List bK):∀x∈gQ R a fs,x < 256:=by
 intro x hx;unfold gQ at hx;simp only[List.mem_append,List.mem_cons,List.not_mem_nil,or_false] at hx;rcases hx with (h | rfl | rfl) | h
 ·exact MI _ x h
 ·omega
 ·have:=Int.emod_lt_of_pos a (show (0:Int)<256 by decide);have:=Int.emod_nonneg a (show (256:Int)≠0 by decide);omega
 ·exact MI _ x h
theorem BP (R:List UInt8) (a:Int) (fs:List bK) (h:∀f∈fs,f.n.length+f.v.length≤1000):(gQ R a fs).length≤R.length+2+1002*fs.length:=by
 have h2:(fs.flatMap qJ).length≤1002*fs.length:=by
  induction fs with
  | nil=>simp
  | cons f fs ih=>
   have h1:=h f σ;have h3:=ih (fun g hg=>h g (by simp[hg]));simp only[List.flatMap_cons,List.length_append,List.length_cons];have:(qJ f).length=f.n.length+f.v.length+2:=by simp[qJ];omega
   omega
 simp only[gQ,List.length_append,ais,List.length_cons,List.length_nil];omega
theorem bW.aiq {α:Type} {w:World} {g:Nat} {t:TypeId} {enc:α→List Value} {e1:α→Value} (he:∀x,enc x = [e1 x]) {bs:List α} (h:aF w g t (bs.map e1).toArray):bW w 1 enc (some ⟨g,0,none⟩) bs.length bs:=by
 refine⟨rfl,fun _=>⟨g,0,rfl,h.lt,fun i hi j u hu=> ?_⟩⟩;rw[he] at hu;have hj:j = 0:=by have:=(List.getElem?_eq_some_iff.1 hu).1;simp at this;omega
 subst hj;rw[h.cell];simp only[List.getElem?_cons_zero,Option.some.injEq] at hu;simp[hi,←hu]
theorem YG {R:List UInt8} {a:Int} {A:Option Addr} {m c:Nat} {fs:List bK} (w:World) (hA:bW w 2 dW A m fs) (hR:R.length≤1000) (hm:m≤100) (hf:∀f∈fs,f.n.length+f.v.length≤1000) :
 Calls Tryz.prog 138 #[.string ⟨R.toArray⟩,.int .i64 a,.slice A m c] w fun e w'=>∃v,e =.returned v∧jo w' w.heap.size v (gQ R a fs)∧ah w w':=by
 have lJ:=hA.1;have IY:=fun k=>BP R a (fs.take k) (fun f h=>hf f (List.mem_of_mem_take h))
 have hkb:∀k,(gQ R a (fs.take k)).length≤200000:=fun k=>by
  have h1:=IY k;have h2:(fs.take k).length≤100:=by rw[List.length_take];omega
  omega
 have hb0:=Int.emod_nonneg a (show (256:Int)≠0 by decide);have ha:a % 256=(((a % 256).toNat:Nat):Int):=ω;generalize hB:(a % 256).toNat=B at ha;replace hB:=ζ hB;replace hA:=ζ hA;replace hf:=ζ hf;replace hkb:=ζ hkb;clear IY hb0;go_enter Tryz.func138,Tryz.ntmps138
 go_wp2_with (first | (refine lS rfl (.tmp 10) rfl rfl (by rw[bsize];omega) ?_;intro v1 w1 wH fF;(replace wH:=ζ wH);(replace fF:=ζ fF)) | (at_builtin;(refine Bv rfl (.tmp 11) (.tmp 14) rfl rfl rfl (wH.o.alloc (.cells #[.int .u8 ((0:Nat):Int),.int .u8 (B:Int)] 5)) (bW.aq4 (aF.new w1 5 _)) (fF.o.alloc (.cells #[.int .u8 ((0:Nat):Int),.int .u8 (B:Int)] 5)).size (by rw[kR,bsize];omega) ?_;intro v2 w2 nI lY;(have fQ:=ζ ((fF.o.alloc (.cells #[.int .u8 ((0:Nat):Int),.int .u8 (B:Int)] 5)).aO lY wH.o.gY));(replace nI:=ζ nI);clear lY)));have LX:Hid (jo w2 w.heap.size v2 (gQ R a (fs.take 0))):=by
  rw[List.take_zero,XC,hB.o];exact nI
 clear wH fF nI;go_loopw [7,18] (fun b i wr=>∃k:Nat,k≤m∧i =.int .i64 k∧Hid (jo wr w.heap.size b (gQ R a (fs.take k)))∧Hid (ah w wr)) (fun _ i _=>m - (intOf i).toNat)
 case atStart=>exact⟨0,ω,rfl,LX,fQ⟩
 case round=>
  clear LX fQ;obtain⟨k,hk,rfl,hO,hG⟩:=hrel;by_cases wB:k<m
  ·obtain⟨bb,off,f,rfl,GV,hx,hcell⟩:=(hA.o.keep hG.o).at_ wB;have c0:wr.cell? ⟨bb,off+k*2,none⟩=some (.string ⟨f.n.toArray⟩):=by simpa using hcell 0 _ rfl
   have c1:wr.cell? ⟨bb,off+k*2+1,none⟩=some (.string ⟨f.v.toArray⟩):=by simpa using hcell 1 _ rfl
   have Bh:=hf.o f (List.mem_of_getElem? hx);have Ic:=hkb.o k;have azn:=hkb.o (k+1);have xC:fs.take (k+1)=fs.take k++[f]:=by rw[List.take_add_one,hx];rfl
   have qp:=U0 R a (fs.take k) f;rw[←xC] at qp;have kY:(k:Int)<(m:Int):=ω;obtain⟨A0,c0',hv0,hn0,Bg,PN⟩:=hO.o.arr;generalize hN0:(gQ R a (fs.take k)).length=N0 at *
   subst hv0;replace qp:=ζ qp;replace PN:=ζ PN;clear hcell hx xC;go_wp2_with (first | (refine lS rfl (.tmp 24) rfl rfl (by rw[bsize];omega) ?_;intro v3 w3 iT qo;(obtain⟨A3,c3,hv3,_,_,hA3⟩:=iT.arr);(rw[kR,bsize] at hv3 hA3);subst hv3;(replace hA3:=ζ hA3);(have b9:=(aF.new wr 88 #[.string ⟨f.n.toArray⟩,.string ⟨f.v.toArray⟩]).grows qo);(have d1:w3.cell? ⟨wr.heap.size,1,none⟩=some (.string ⟨f.v.toArray⟩):=b9.cell 1);(have z1:=b9.lt);(replace qo:=ζ qo);clear iT b9) | (refine lS rfl (.tmp 28) rfl rfl (by rw[bsize];omega) ?_;intro v5 w5 lZ oL;(obtain⟨A5,c5,Y4,_,_,hA5⟩:=lZ.arr);(rw[kR,bsize] at Y4 hA5);subst Y4;(replace hA5:=ζ hA5);(replace oL:=ζ oL);clear lZ));have g3:ah wr w3:=((ah.refl wr).alloc _).trans qo.o;have g5:ah w3 w5:=((ah.refl w3).alloc _).trans oL.o;have gW:ah w5 ((w5.alloc (.cells #[.int .u8 0] 5)).alloc (.cells #[.slice A0 N0 c0',.slice A3 f.n.length c3,.slice (some ⟨w3.heap.size,0,none⟩) 1 1,.slice A5 f.v.length c5,.slice (some ⟨w5.heap.size,0,none⟩) 1 1] 112)):=((ah.refl w5).alloc _).alloc _;have hct:wJ [⟨A0,N0,c0',gQ R a (fs.take k)⟩,⟨A3,f.n.length,c3,wY ⟨f.n.toArray⟩⟩,⟨some ⟨w3.heap.size,0,none⟩,1,1,[61]⟩,⟨A5,f.v.length,c5,wY ⟨f.v.toArray⟩⟩,⟨some ⟨w5.heap.size,0,none⟩,1,1,[0]⟩]=gQ R a (fs.take (k+1)):=by
    rw[qp.o,uZ,uZ];simp[wJ]
   have h61:bW w5 1 ji (some ⟨w3.heap.size,0,none⟩) 1 [61]:=(bW.pq (x:=61) (aF.new w3 5 #[.int .u8 ((61:Nat):Int)])).keep oL.o;have L8:bW (w5.alloc (.cells #[.int .u8 0] 5)) 1 ji (some ⟨w5.heap.size,0,none⟩) 1 [0]:=bW.pq (x:=0) (aF.new w5 5 #[.int .u8 ((0:Nat):Int)]);refine (KR (L:=5) (c:=5) (A:=some ⟨w5.heap.size+1,0,none⟩) (bs:=[⟨A0,N0,c0',gQ R a (fs.take k)⟩,⟨A3,f.n.length,c3,wY ⟨f.n.toArray⟩⟩,⟨some ⟨w3.heap.size,0,none⟩,1,1,[61]⟩,⟨A5,f.v.length,c5,wY ⟨f.v.toArray⟩⟩,⟨some ⟨w5.heap.size,0,none⟩,1,1,[0]⟩]) _ (bW.aiq (e1:=fun (b:Bsl)=>Value.slice b.A b.n b.c) (fun _=>rfl) (aF.kW w5 _ _ _)) ?_ (by rw[hct];omega) ω).mono ?_
   ·intro b hb;simp only[List.mem_cons,List.not_mem_nil,or_false] at hb;rcases hb with rfl | rfl | rfl | rfl | rfl
    ·exact PN.o.keep (g3.trans (g5.trans gW))
    ·exact hA3.o.keep (g5.trans gW)
    ·exact h61.keep gW
    ·exact hA5.o.keep gW
    ·exact L8.keep ((ah.refl _).alloc _)
   rintro e w8 ⟨v8,rfl,Ze,hG8⟩;rw[hct] at Ze;have LZ:=hG.o.trans (g3.trans (g5.trans (gW.trans hG8)));have hO9:=ζ (Ze.bJ (base':=w.heap.size) (hG.o.trans (g3.trans (g5.trans gW))).size);replace LZ:=ζ LZ;clear Ze hG8 h61 L8 gW g5 g3 hct;go_wp2;go_roundw
   case rel=>exact⟨k+1,ω,ν,hO9,LZ⟩
   case measure=>exact ψ
  ·obtain rfl:k=m:=ω;have rG:=hO.o;rw[List.take_of_length_le ω] at rG;go_wp2;go_ret;exact⟨_,rfl,rG,hG.o⟩
theorem acK {R:List UInt8} {a:Int} {A:Option Addr} {m c:Nat} {fs:List bK} (w:World) (hA:bW w 2 dW A m fs) (hR:R.length≤1000) (hm:m≤100) (hf:∀f∈fs,f.n.length+f.v.length≤1000) :
 Calls Tryz.prog 88 #[.string ⟨R.toArray⟩,.int .i64 a,.slice A m c] w fun e w'=>e =.returned (.int .u64 ((jM (sha (gQ R a fs)) 8:Nat):Int))∧ah w w':=by
 have IY:=BP R a fs hf;have lJ:=hA.1;have cB:=YG (c:=c) (a:=a) w hA hR hm hf;replace cB:=ζ cB;replace hf:=ζ hf;replace IY:=ζ IY;go_enter Tryz.func88,Tryz.ntmps88
 go_wp2_with fail;refine (cB.out).mono ?_;rintro e w1 ⟨v,rfl,hO,hG⟩;obtain⟨A1,c1,rfl,_,_,Zk⟩:=hO.arr;have cS:=RX (c:=c1) w1 Zk (aaR R a fs) (by have:=IY.o;omega);generalize hD:jM (sha (gQ R a fs)) 8=D at *
 replace hD:=ζ hD;replace cS:=ζ cS;replace hG:=ζ hG;clear hO Zk;go_wp2_with fail;refine (cS.out).mono ?_;rintro e w2 ⟨rfl,fQ⟩;go_wp2;go_ret;rw[hD.o];exact⟨rfl,hG.o.trans fQ⟩
def kX (R:List UInt8) (fs:List bK):List Nat:=oN R++[0]++oN (fs.flatMap qJ)
def BU (a:iD):Nat:=jM (sha (kX a.src a.fs)) 8
theorem aaX (R:List UInt8):kX R []=oN R++[0]:=by simp[kX,oN]
theorem XH (R:List UInt8) (fs:List bK) (f:bK):kX R (fs++[f])=(((kX R fs++oN f.n)++[61])++oN f.v)++[0]:=by
 simp[kX,qJ,oN]
theorem ae1 (R:List UInt8) (fs:List bK):∀x∈kX R fs,x < 256:=by
 intro x hx;unfold kX at hx;simp only[List.mem_append,List.mem_cons,List.not_mem_nil,or_false] at hx;rcases hx with (h | rfl) | h
 ·exact MI _ x h
 ·omega
 ·exact MI _ x h
theorem aaY (R:List UInt8) (fs:List bK) (h:∀f∈fs,f.n.length+f.v.length≤1000):(kX R fs).length≤R.length+2+1002*fs.length:=by
 have:=BP R 0 fs h;simp only[gQ,kX,List.length_append,List.length_cons,List.length_nil] at this ⊢;omega
theorem U2 {a:dA} (w:World) (hA:bW w 2 dW a.A a.m a.a.fs) (hR:a.a.src.length≤1000) (hm:a.m≤100) (hf:∀f∈a.a.fs,f.n.length+f.v.length≤1000) :
 Calls Tryz.prog 16 #[je a] w fun e w'=>e =.returned (.int .u64 ((BU a.a:Nat):Int))∧ah w w':=by
 unfold je BU;obtain⟨⟨R,fs,⟨lv,lc⟩,f0,t0⟩,A,m,c⟩:=a;simp only at hA hR hm hf ⊢;have lJ:=hA.1;have IY:=fun k=>aaY R (fs.take k) (fun f h=>hf f (List.mem_of_mem_take h))
 have hkb:∀k,(kX R (fs.take k)).length≤200000:=fun k=>by
  have h1:=IY k;have h2:(fs.take k).length≤100:=by rw[List.length_take];omega
  omega
 replace hA:=ζ hA;replace hf:=ζ hf;replace hkb:=ζ hkb;clear IY;generalize hD:jM (sha (kX R fs)) 8=D;replace hD:=ζ hD;go_enter Tryz.func16,Tryz.ntmps16
 go_wp2_with (first | (refine lS rfl (.tmp 7) rfl rfl (by rw[bsize];omega) ?_;intro v1 w1 wH fF;(replace wH:=ζ wH);(replace fF:=ζ fF)) | (at_builtin;(refine Bv rfl (.tmp 8) (.tmp 9) rfl rfl rfl (wH.o.alloc (.cells #[.int .u8 ((0:Nat):Int)] 5)) (bW.pq (x:=0) (aF.new w1 5 _)) (fF.o.alloc (.cells #[.int .u8 ((0:Nat):Int)] 5)).size (by rw[kR,bsize];omega) ?_;intro v2 w2 nI lY;(have fQ:=ζ ((fF.o.alloc (.cells #[.int .u8 ((0:Nat):Int)] 5)).aO lY wH.o.gY));(replace nI:=ζ nI);(have bx:=(aF.new w 57 #[.string ⟨R.toArray⟩,.slice A m c,.int .i64 lv,.int .u32 (lc:Int),.int .i64 f0,.int .i64 t0]).grows fQ.o);(have x1:w2.cell? ⟨w.heap.size,1,none⟩=some (.slice A m c):=bx.cell 1);(have xl:=bx.lt);clear lY bx)));have LX:Hid (jo w2 w.heap.size v2 (kX R (fs.take 0))):=by
  rw[List.take_zero,aaX];exact nI.o.bJ σ
 replace fQ:=ζ ((ah.refl w).alloc _ |>.trans fQ.o);clear wH fF nI;go_loopw [3,5,14] (fun b _ i wr=>∃k:Nat,k≤m∧i =.int .i64 k∧Hid (jo wr w.heap.size b (kX R (fs.take k)))∧Hid (ah w wr)) (fun _ _ i _=>m - (intOf i).toNat)
 case atStart=>exact⟨0,ω,rfl,LX,fQ⟩
 case round=>
  clear LX fQ x1 xl;obtain⟨k,hk,rfl,hO,hG⟩:=hrel;by_cases wB:k<m
  ·obtain⟨bb,off,f,rfl,GV,hx,hcell⟩:=(hA.o.keep hG.o).at_ wB;have c0:wr.cell? ⟨bb,off+k*2,none⟩=some (.string ⟨f.n.toArray⟩):=by simpa using hcell 0 _ rfl
   have c1:wr.cell? ⟨bb,off+k*2+1,none⟩=some (.string ⟨f.v.toArray⟩):=by simpa using hcell 1 _ rfl
   have Bh:=hf.o f (List.mem_of_getElem? hx);have Ic:=hkb.o k;have azn:=hkb.o (k+1);have xC:fs.take (k+1)=fs.take k++[f]:=by rw[List.take_add_one,hx];rfl
   have qp:=XH R (fs.take k) f;rw[←xC] at qp;have kY:(k:Int)<(m:Int):=ω;obtain⟨A0,c0',hv0,hn0,Bg,PN⟩:=hO.o.arr;generalize hN0:(kX R (fs.take k)).length=N0 at *
   subst hv0;replace qp:=ζ qp;replace PN:=ζ PN;clear hcell hx xC;go_wp2_with (first | (refine lS rfl (.tmp 20) rfl rfl (by rw[bsize];omega) ?_;intro v3 w3 iT qo;(obtain⟨A3,c3,hv3,_,_,hA3⟩:=iT.arr);(rw[kR,bsize] at hv3 hA3);subst hv3;(replace hA3:=ζ hA3);(have b9:=(aF.new wr 88 #[.string ⟨f.n.toArray⟩,.string ⟨f.v.toArray⟩]).grows qo);(have d1:w3.cell? ⟨wr.heap.size,1,none⟩=some (.string ⟨f.v.toArray⟩):=b9.cell 1);(have z1:=b9.lt);(replace qo:=ζ qo);clear iT b9) | (refine lS rfl (.tmp 24) rfl rfl (by rw[bsize];omega) ?_;intro v5 w5 lZ oL;(obtain⟨A5,c5,Y4,_,_,hA5⟩:=lZ.arr);(rw[kR,bsize] at Y4 hA5);subst Y4;(replace hA5:=ζ hA5);(replace oL:=ζ oL);clear lZ));have g3:ah wr w3:=((ah.refl wr).alloc _).trans qo.o;have g5:ah w3 w5:=((ah.refl w3).alloc _).trans oL.o;have gW:ah w5 ((w5.alloc (.cells #[.int .u8 0] 5)).alloc (.cells #[.slice A0 N0 c0',.slice A3 f.n.length c3,.slice (some ⟨w3.heap.size,0,none⟩) 1 1,.slice A5 f.v.length c5,.slice (some ⟨w5.heap.size,0,none⟩) 1 1] 112)):=((ah.refl w5).alloc _).alloc _;have hct:wJ [⟨A0,N0,c0',kX R (fs.take k)⟩,⟨A3,f.n.length,c3,wY ⟨f.n.toArray⟩⟩,⟨some ⟨w3.heap.size,0,none⟩,1,1,[61]⟩,⟨A5,f.v.length,c5,wY ⟨f.v.toArray⟩⟩,⟨some ⟨w5.heap.size,0,none⟩,1,1,[0]⟩]=kX R (fs.take (k+1)):=by
    rw[qp.o,uZ,uZ];simp[wJ]
   have h61:bW w5 1 ji (some ⟨w3.heap.size,0,none⟩) 1 [61]:=(bW.pq (x:=61) (aF.new w3 5 #[.int .u8 ((61:Nat):Int)])).keep oL.o;have L8:bW (w5.alloc (.cells #[.int .u8 0] 5)) 1 ji (some ⟨w5.heap.size,0,none⟩) 1 [0]:=bW.pq (x:=0) (aF.new w5 5 #[.int .u8 ((0:Nat):Int)]);refine (KR (L:=5) (c:=5) (A:=some ⟨w5.heap.size+1,0,none⟩) (bs:=[⟨A0,N0,c0',kX R (fs.take k)⟩,⟨A3,f.n.length,c3,wY ⟨f.n.toArray⟩⟩,⟨some ⟨w3.heap.size,0,none⟩,1,1,[61]⟩,⟨A5,f.v.length,c5,wY ⟨f.v.toArray⟩⟩,⟨some ⟨w5.heap.size,0,none⟩,1,1,[0]⟩]) _ (bW.aiq (e1:=fun (b:Bsl)=>Value.slice b.A b.n b.c) (fun _=>rfl) (aF.kW w5 _ _ _)) ?_ (by rw[hct];omega) ω).mono ?_
   ·intro b hb;simp only[List.mem_cons,List.not_mem_nil,or_false] at hb;rcases hb with rfl | rfl | rfl | rfl | rfl
    ·exact PN.o.keep (g3.trans (g5.trans gW))
    ·exact hA3.o.keep (g5.trans gW)
    ·exact h61.keep gW
    ·exact hA5.o.keep gW
    ·exact L8.keep ((ah.refl _).alloc _)
   rintro e w8 ⟨v8,rfl,Ze,hG8⟩;rw[hct] at Ze;have LZ:=hG.o.trans (g3.trans (g5.trans (gW.trans hG8)));have hO9:=ζ (Ze.bJ (base':=w.heap.size) (hG.o.trans (g3.trans (g5.trans gW))).size);replace LZ:=ζ LZ;clear Ze hG8 h61 L8 gW g5 g3 hct;go_wp2;go_roundw
   case rel=>exact⟨k+1,ω,ν,hO9,LZ⟩
   case measure=>exact ψ
  ·obtain rfl:k=m:=ω;have rG:=hO.o;rw[List.take_of_length_le ω] at rG;obtain⟨A1,c1,hv1,_,_,Zk⟩:=rG.arr;subst hv1;have cS:=RX (c:=c1) wr Zk (ae1 R fs) (by have:=hkb.o fs.length;rw[List.take_length] at this;omega);rw[hD.o] at cS;replace cS:=ζ cS;clear rG hO Zk hkb;go_wp2_with fail;refine (cS.out).mono ?_;rintro e w2 ⟨rfl,fQ⟩;go_wp2;go_ret;exact⟨rfl,hG.o.trans fQ⟩
theorem acH (x:List UInt8):∀l:List (List UInt8),(l.any fun y=>x ==y)=decide (x∈l)
 | []=>by simp
 | y ::r=>by
  rw[List.any_cons,acH x r];by_cases h:x = y
  ·simp[h]
  ·simp[h]
theorem ael {f:bK} {g:Nat} {A:Option Addr} {m c:Nat} {names:List (List UInt8)} (w:World) (hc:w.cell? ⟨g,0,none⟩=some (.slice A m c)) (hA:bW w 1 encS A m names) (hm:m≤9223372036854775807) :
 Calls Tryz.prog 136 #[Hr f,.pointer (some ⟨g,0,none⟩)] w fun e w'=>e =.returned (.bool (!decide (f.n∈names)))∧ah w w':=by
 have cC:=fun W (hW:ah w W)=>ajx (c:=c) (v:=f.n) W (hA.keep hW) hm
 rw[acH] at cC;have hg:=World.block_lt_of_cell? w _ hc;simp only at hg;generalize decide (f.n∈names)=B at *
 unfold Hr;replace cC:=ζ cC;clear hA;go_enter Tryz.func136,Tryz.ntmps136
 go_wp2_with fail;refine (cC.out _ γ).mono ?_;rintro e w1 ⟨rfl,hb⟩;have hG:ah w w1:=((ah.refl w).alloc _).trans hb;go_wp2;go_ret;exact⟨aP rfl,hG⟩
theorem aie {A:Option Addr} {m c:Nat} {fs:List bK} {A2:Option Addr} {m2 c2:Nat} {names:List (List UInt8)} (w:World) (hA:bW w 2 dW A m fs) (hm:m≤1000) (hN:bW w 1 encS A2 m2 names) (Q_:m2≤9223372036854775807) :
 Calls Tryz.prog 86 #[.slice A m c,.slice A2 m2 c2] w fun e w'=>∃v,e =.returned v∧Own w' w.heap.size 88 2 dW v (jh fs names)∧ah w w':=by
 have hlen:=hA.1;obtain⟨w3,hw3⟩:∃w3,w3=(w.alloc (.cells #[.slice A2 m2 c2] 43)):=⟨_,rfl⟩;have hg3:ah w w3:=by rw[hw3];exact (ah.refl w).alloc _
 have bp:aF w3 w.heap.size 43 #[.slice A2 m2 c2]:=by rw[hw3];exact aF.new w _ _
 have cC:=O7 (c:=c) w3 (hA.keep hg3) ω;have cD:=fun v w4 (hg:ah w3 w4) (hO:Own w4 w3.heap.size 88 2 dW v fs)=>Yv 136 #[.pointer (some ⟨w.heap.size,0,none⟩)] (enters_of Tryz.func136 κ rfl)
  (fun f=> !decide (f.n∈names)) w3.heap.size v fs w4 hO hg.size ω (fun f _ W hW=>ael W ((bp.grows (hg.iw hW)).cell 0) (hN.keep (hg3.trans (hg.iw hW))) Q_)
 have ajp:=TF (fun f:bK=>decide (f.n∈names)) fs;rw[ajp] at cD;change Calls _ _ _ _ fun e w'=>∃v,e =.returned v∧Own w' w.heap.size 88 2 dW v (fs.filter fun f=>decide (f.n∈names))∧ah w w'
 generalize (fs.filter fun f=>decide (f.n∈names))=R at *
 rw[hw3] at cC;have hb3:w.heap.size≤w3.heap.size:=hg3.size;replace cC:=ζ cC;replace cD:=ζ cD;replace hw3:=ζ hw3;replace hg3:=ζ hg3;clear bp hA ajp hN;go_enter Tryz.func86,Tryz.ntmps86
 go_wp2_with fail;refine (cC.out).mono ?_;rintro e w4 ⟨v4,rfl,lq,hg4⟩;rw[←hw3.o] at lq hg4;have cD':=ζ (cD.out v4 w4 hg4 lq);clear cD cC;go_wp2_with fail;refine (cD'.out).mono ?_;rintro e w5 ⟨v5,rfl,lZ,fM⟩;go_wp2;go_ret;exact⟨v5,rfl,lZ.bJ hb3,hg3.o.trans (hg4.iw fM)⟩
def xR (f:bK):List UInt8:=0::(f.n ++61::(Lib.decDigits f.v.length++58::f.v))
def dn (r:Nat) (fs:List bK):List UInt8:=Lib.decDigits r ++fs.flatMap xR
theorem Nu (r:Nat):dn r []=Lib.decDigits r:=by simp[dn]
theorem J9 (r:Nat) (fs:List bK) (f:bK):dn r (fs++[f])=dn r fs++xR f:=by simp[dn]
theorem Ah {n:Nat} (h:n < 10000):(Lib.decDigits n).length≤4:=EP 3 n ω
theorem Zp {f:bK} (h:f.n.length+f.v.length≤1000):(xR f).length≤1007:=by
 have:=Ah (n:=f.v.length) ω;simp only[xR,List.length_cons,List.length_append];omega
theorem zh {r:Nat} (hr:r < 10000):∀(fs:List bK),(∀f∈fs,f.n.length+f.v.length≤1000)→(dn r fs).length≤4+1007*fs.length:=by
 intro fs h;have h1:=Ah hr;have h2:(fs.flatMap xR).length≤1007*fs.length:=by
  induction fs with
  | nil=>simp
  | cons f r ih=>
   have h3:=Zp (h f σ);have h4:=ih (fun g hg=>h g (by simp[hg]));simp only[List.flatMap_cons,List.length_append,List.length_cons];omega
 simp only[dn,List.length_append];omega
theorem adz {r:Nat} {A:Option Addr} {m c:Nat} {fs:List bK} (w:World) (he:oD w) (hr:r < 10000) (hA:bW w 2 dW A m fs) (hm:m≤100) (hf:∀f∈fs,f.n.length+f.v.length≤1000) :
 Calls Tryz.prog 87 #[.int .i64 r,.slice A m c] w fun e w'=>e =.returned (.string ⟨(dn r fs).toArray⟩)∧ah w w':=by
 have lJ:=hA.1;have cI:∀n:Nat,n≤100000→∀W,ah w W→Calls Tryz.prog 77 #[.int .i64 n] W fun e w'=>e =.returned (.string ⟨(Lib.decDigits n).toArray⟩)∧ah W w':=fun n h1 W hW=>by
  have:=XE (n:Int) ω ω W (he.grows hW);rwa [XD (n:Int) ω,Int.toNat_natCast] at this
 have cR:=cI r ω;have hkb:∀k,(dn r (fs.take k)).length≤200000:=fun k=>by
  have h1:=zh hr (fs.take k) (fun f h=>hf f (List.mem_of_mem_take h));have h2:(fs.take k).length≤100:=by rw[List.length_take];omega
  omega
 have L8:=Nu r;generalize Lib.decDigits r = dr at *
 replace cI:=ζ cI;replace cR:=ζ cR;replace hA:=ζ hA;replace hf:=ζ hf;replace hkb:=ζ hkb;replace L8:=ζ L8;clear he;go_enter Tryz.func87,Tryz.ntmps87
 go_wp2_with fail;refine (cR.out _ (ah.refl _)).mono ?_;rintro e w1 ⟨rfl,hb1⟩;replace hb1:=ζ hb1;go_wp2;go_loopw [5,7,12] (fun s _ i wr=>∃(k:Nat) (S:List UInt8),k≤m∧i =.int .i64 k∧s =.string ⟨S.toArray⟩∧Hid (S=dn r (fs.take k))∧Hid (ah w wr)) (fun _ _ i _=>m - (intOf i).toNat)
 case atStart=>exact⟨0,dr,ω,rfl,rfl,(L8.o.symm:dr=dn r (fs.take 0)),hb1⟩
 case round=>
  obtain⟨k,S,hk,rfl,rfl,hS,hG⟩:=hrel;by_cases wB:k<m
  ·obtain⟨bb,off,f,rfl,GV,hx,hcell⟩:=(hA.o.keep hG.o).at_ wB;have c0:wr.cell? ⟨bb,off+k*2,none⟩=some (.string ⟨f.n.toArray⟩):=by simpa using hcell 0 _ rfl
   have c1:wr.cell? ⟨bb,off+k*2+1,none⟩=some (.string ⟨f.v.toArray⟩):=by simpa using hcell 1 _ rfl
   have Bh:=hf.o f (List.mem_of_getElem? hx);have kY:(k:Int)<(m:Int):=ω;have Ic:=hkb.o k;rw[←hS.o] at Ic;have cL:=cI.out f.v.length ω;have xC:fs.take (k+1)=fs.take k++[f]:=by rw[List.take_add_one,hx];rfl
   have qp:S++xR f = dn r (fs.take (k+1)):=by rw[xC,J9,hS.o]
   have hdl:=Ah (n:=f.v.length) ω;unfold xR at qp;generalize Lib.decDigits f.v.length=dv at *
   replace cL:=ζ cL;replace qp:=ζ qp;have Yb:Hid (ah w (wr.alloc (.cells #[.string ⟨f.n.toArray⟩,.string ⟨f.v.toArray⟩] 88))):=ζ (hG.o.alloc _);clear hcell hx xC hS;go_wp2_with fail;refine aG κ ?_;refine rK (.range 16) 0 ?_;iterate 8 refine aC ?_
   refine aY (.string ⟨dv.toArray⟩) rfl χ (fun wq eG=> ?_) ?_
   ·obtain⟨nR,mY⟩:=bQ eG;go_simp;exact Calls.mono (cL.out wq (Yb.o.trans eG)) (fun e w'' h=>h)
   go_simp;iterate 7 refine aC ?_
   refine aB ?_;refine aJ κ (fun wN hN hS=> ?_);go_wp2;go_roundw
   case rel=>exact⟨k+1,S++0::(f.n ++61::(dv++58::f.v)),ω,ν,congrArg Value.string (ByteArray.ext σ),qp,Yb.o.trans hN⟩
   case measure=>exact ψ
  ·obtain rfl:k=m:=ω;have aQ:S=dn r fs:=by rw[hS.o,List.take_of_length_le ω]
   replace aQ:=ζ aQ;clear hS;go_wp2;go_ret;exact⟨by rw[aQ.o];rfl,hG.o⟩
def kK (n:Nat):List Value:=[.int .u64 (n:Int)]
theorem Pz (n:Nat):(kK n).length=1:=rfl
theorem apu (n:Nat):∀u∈kK n,u.oneCell'=true:=by intro u hu;simp[kK] at hu;subst hu;rfl
theorem akW:eX Tryz.prog 123 33 1 8:=eX.mk' (z:=.int .u64 0) Tryz.underlying123 κ rfl ω
def qI (l:List Nat) (t:Nat):Nat:=(l.takeWhile fun x=>decide (x < t)).length
def jq (l:List Nat):Prop:=l.Pairwise (· < ·)
theorem H6 (l:List Nat) (t:Nat):qI l t≤l.length:=by
 unfold qI;exact (List.takeWhile_sublist _).length_le
theorem acy {t:Nat}:∀{l:List Nat} {i:Nat},i≤l.length→(∀(k x:Nat),k<i→l[k]? = some x→x < t)→(∀x:Nat,l[i]? = some x→t≤x)→qI l t = i
 | [],i,h,_,_=>by simp at h;subst h;rfl
 | a ::r,0,_,_,h=>by
  have:=h a rfl;unfold qI;rw[List.takeWhile_cons_of_neg (by simp;omega)];rfl
 | a ::r,i + 1,hi,h1,h2=>by
  have ha:=h1 0 a ω rfl;have:=acy (l:=r) (i:=i) (t:=t) (by simpa using hi) (fun k x hk hx=>h1 (k+1) x ω (by simpa using hx)) (fun x hx=>h2 x (by simpa using hx));unfold qI at this ⊢;rw[List.takeWhile_cons_of_pos (by simpa using ha),List.length_cons,this]
theorem jq.lt {l:List Nat} (h:jq l) {i j x y:Nat} (hij:i < j) (hx:l[i]? = some x) (hy:l[j]? = some y):x < y:=by
 obtain⟨h1,rfl⟩:=List.getElem?_eq_some_iff.1 hx;obtain⟨h2,rfl⟩:=List.getElem?_eq_some_iff.1 hy;exact List.pairwise_iff_getElem.1 h i j h1 h2 hij
theorem aaK {l:List Nat} {t i:Nat} (hs:jq l) (h1:∀(k x:Nat),k<i→l[k]? = some x→x < t) (h2:∀x:Nat,l[i]? = some x→t≤x):(t∈l)↔l[i]? = some t:=by
 constructor
 ·intro h;obtain⟨j,hj⟩:=List.getElem?_of_mem h;rcases Nat.lt_trichotomy j i with h3 | h3 | h3
  ·have:=h1 j t h3 hj;omega
  ·rw[←h3];exact hj
  ·have S_:i < l.length:=by have:=(List.getElem?_eq_some_iff.1 hj).1;omega
   have h4:=h2 l[i] (List.getElem?_eq_getElem S_);have h5:=hs.lt h3 (List.getElem?_eq_getElem S_) hj;omega
 ·exact List.mem_of_getElem?
theorem al5 (x:Nat) (w:World):Calls Tryz.prog 140 #[.int .u64 x] w fun e w'=>e =.returned (.bool false)∧w'=w:=by
 go_enter Tryz.func140,Tryz.ntmps140
 go_wp2;go_ret;exact⟨aP σ,rfl⟩
theorem aiv (x:Nat) (w:World):Calls Tryz.prog 177 #[.int .u64 x] w fun e w'=>e =.returned (.bool false)∧w'=w:=by
 go_enter Tryz.func177,Tryz.ntmps177
 go_wp2;go_ret;exact⟨aP σ,rfl⟩
theorem Xw (x y:Nat) (w:World):Calls Tryz.prog 139 #[.int .u64 x,.int .u64 y] w fun e w'=>e =.returned (.bool (decide (x < y)))∧w'=w:=by
 have cN:=fun W=>aiv x W
 replace cN:=ζ cN;go_enter Tryz.func139,Tryz.ntmps139
 go_wp2_with fail;refine (cN.out _).mono ?_;rintro e w1 ⟨rfl,rfl⟩;go_wp2;go_ret;exact⟨aP σ,rfl⟩
theorem KT {A:Option Addr} {m c:Nat} {l:List Nat} {t:Nat} (w:World) (hA:bW w 1 kK A m l) (hm:m≤1000000) (hs:jq l) :
 Calls Tryz.prog 89 #[.slice A m c,.int .u64 t] w fun e w'=>e =.returned (.tuple #[.int .i64 (qI l t),.bool (decide (t∈l))])∧w'=w:=by
 have lJ:=hA.1;have cL:=fun x W=>Xw x t W
 have cN:=fun x W=>al5 x W
 obtain⟨R,hR⟩:∃R,R=(Value.tuple #[.int .i64 (qI l t),.bool (decide (t∈l))]):=⟨_,rfl⟩;rw[←hR];replace hR:=ζ hR;replace cL:=ζ cL;replace cN:=ζ cN;replace hA:=ζ hA;replace hs:=ζ hs;go_enter Tryz.func89,Tryz.ntmps89
 go_wp2;go_loopw [7,8,9] (fun vi vj _ wr=>∃i j:Nat,i≤j∧j≤m∧vi=.int .i64 i∧vj=.int .i64 j∧Hid (∀(k x:Nat),k<i→l[k]? = some x→x < t)∧Hid (∀x:Nat,l[j]? = some x→t≤x)∧wr=w) (fun vi vj _ _=>(intOf vj-intOf vi).toNat)
 case atStart=>exact⟨0,m,ω,ω,rfl,rfl,fun _ _ h=>absurd h ω,(fun x hx=>by have:=(List.getElem?_eq_some_iff.1 hx).1;omega),rfl⟩
 case round=>
  obtain⟨i,j,hij,hjm,rfl,rfl,SV,XW,rfl⟩:=hrel;by_cases hlt:i < j
  ·have amx:(i:Int)<(j:Int):=ω;obtain⟨h,hh⟩:∃h,h = (i + j) / 2:=⟨_,rfl⟩;have hhm:h < m:=ω;obtain⟨bb,off,x,rfl,GV,hx,hcell⟩:=hA.o.at_ hhm;have c0:wr.cell? ⟨bb,off+h,none⟩=some (.int .u64 (x:Int)):=by simpa using hcell 0 _ rfl
   have aER:((i:Int)+(j:Int)) / 2=(h:Int):=ω;have hhj:h < j:=ω;have hih:i≤h:=ω;clear hcell hh;have cX:=cL.out x;cases hxt:decide (x < t) with
   | true=>
    rw[hxt] at cX;replace cX:=ζ cX;have azh:=ζ (show ∀(k y:Nat),k<h + 1→l[k]? = some y→y < t from fun k y hk hy=>by
     have aa0:=of_decide_eq_true hxt;by_cases hkh:k=h
     ·subst hkh;rw[hx] at hy;rw[←Option.some.inj hy];exact aa0
     ·have:=hs.o.lt (show k<h by omega) hy hx;omega)
    clear hxt hx;go_wp2_with fail;refine (cX.out _).mono ?_;rintro e w1 ⟨rfl,rfl⟩;go_wp2;go_roundw
    case rel=>exact⟨h + 1,j,ω,ω,ν,rfl,azh,XW,trivial⟩
    case measure=>exact ψ
   | false=>
    rw[hxt] at cX;replace cX:=ζ cX;have azu:=ζ (show ∀y:Nat,l[h]? = some y→t≤y from fun y hy=>by
     rw[hx] at hy;rw[←Option.some.inj hy];exact Nat.le_of_not_lt (of_decide_eq_false hxt))
    clear hxt hx;go_wp2_with fail;refine (cX.out _).mono ?_;rintro e w1 ⟨rfl,rfl⟩;go_wp2;go_roundw
    case rel=>exact⟨i,h,ω,ω,rfl,rfl,SV,azu,trivial⟩
    case measure=>exact ψ
  ·obtain rfl:i = j:=ω;have LV:=acy (t:=t) ω SV.o XW.o;have nP:=aaK hs.o SV.o XW.o;have jr:=hR.o;rw[LV] at jr;clear hR LV;by_cases XU:i < m
   ·obtain⟨bb,off,x,rfl,GV,hx,hcell⟩:=hA.o.at_ XU;have c0:wr.cell? ⟨bb,off+i,none⟩=some (.int .u64 (x:Int)):=by simpa using hcell 0 _ rfl
    have azt:(i:Int)<(m:Int):=ω;rw[hx] at nP;clear hcell hx SV XW;have cX:=cN.out x;cases hxt:((x:Int)==(t:Int)) with
    | true=>
     have aa0:x = t:=by have:=of_decide_eq_true (show decide ((x:Int)=(t:Int))=true by simpa using hxt);omega
     rw[decide_eq_true (nP.2 (by rw[aa0]))] at jr;replace jr:=ζ jr;clear nP aa0;go_wp2;go_ret2;exact⟨by rw[jr.o];rfl,rfl⟩
    | false=>
     have aa0:¬x = t:=fun h=>by rw[h] at hxt;simp at hxt
     rw[decide_eq_false (fun h=>aa0 (Option.some.inj (nP.1 h)))] at jr;replace jr:=ζ jr;replace cX:=ζ cX;clear nP aa0;go_wp2_with fail;refine (cX.out _).mono ?_;rintro e w1 ⟨rfl,rfl⟩;go_wp2;go_ret2;exact⟨by rw[jr.o];rfl,rfl⟩
   ·have hx:l[i]? = none:=List.getElem?_eq_none ω;rw[hx] at nP;rw[decide_eq_false (fun h=>by have:=nP.1 h;cases this)] at jr;have azt:¬(i:Int)<(m:Int):=ω;replace jr:=ζ jr;clear nP hx SV XW;go_wp2;go_ret2;exact⟨by rw[jr.o];rfl,rfl⟩
def lT (cur:Array Value) (o:Nat) (cs:List Value):Array Value:=(cur.toList.take o ++cs++cur.toList.drop (o + cs.length)).toArray
theorem oH {cur:Array Value} {o:Nat} {cs:List Value} (h:o + cs.length≤cur.size):(lT cur o cs).size=cur.size:=by
 simp only[lT,List.size_toArray,List.length_append,List.length_take,List.length_drop,Array.length_toList];omega
theorem qH {cur:Array Value} {o:Nat} {cs:List Value} (h:o + cs.length≤cur.size) (q:Nat):(lT cur o cs)[q]? = if o≤q∧q<o + cs.length then cs[q-o]? else cur[q]? :=by
 simp only[lT,List.getElem?_toArray,List.append_assoc];have mP:(cur.toList.take o).length=o:=by rw[List.length_take,Array.length_toList];omega
 by_cases h1:q<o
 ·rw[List.getElem?_append_left ω,List.getElem?_take_of_lt h1,if_neg ω];simp
 ·rw[List.getElem?_append_right ω,mP];by_cases h2:q<o + cs.length
  ·rw[List.getElem?_append_left ω,if_pos ω]
  ·rw[List.getElem?_append_right ω,if_neg ω,List.getElem?_drop,show o + cs.length+(q-o - cs.length)=q by omega];simp
theorem VG {w:World} {g o dL dC a b sL sC:Nat} {cur:Array Value} {t:TypeId} {cs:List Value} (hg:w.heap[g]? = some (.cells cur t (0,0))) (hn:cs.length=min sL dL)
 (ayM:∀j v,cs[j]? = some v→w.cell? ⟨a,b + j,none⟩=some v) (auV:o + cs.length≤cur.size) (h1:∀v∈cs,v.oneCell'=true) :
 ∃w',(Builtin.copy_ #[123,123] 3 #[.slice (some ⟨g,o,none⟩) dL dC,.slice (some ⟨a,b,none⟩) sL sC]).run Tryz.prog w =.ok (goInt (min sL dL:Nat)) w'∧w'.heap[g]? = some (.cells (lT cur o cs) t (0,0))∧w.grownBy w' (some g):=by
 have hc:=run_copy_row (P:=Tryz.prog) w 123 123 3 33 g o dL dC ⟨a,b,none⟩ sL sC cur t cs Tryz.underlying123 κ hg hn (fun j v hv=>by
  have:=ayM j v hv;have he:(⟨a,b,none⟩:Addr).add j = ⟨a,b + j,none⟩:=by unfold Addr.add;by_cases hj:j = 0 <;> simp[hj]
  rw[he];exact this) auV h1
 refine⟨_,by rw[←hn];exact hc,?_,mD _ _ _⟩;exact setRow_heap w g cur _ t _ hg
theorem ail {M:Array Value→Type} {a b:Option Addr} {la ca lb cb:Nat} (h1:(a:Option Addr)→(la ca:Nat)→(b:Option Addr)→(lb cb:Nat)→M #[.slice a la ca,.slice b lb cb]) (h2:(x:Array Value)→M x) :
 Extern.SlicesOverlaps.overlaps.match_4 M #[.slice a la ca,.slice b lb cb] h1 h2=h1 a la ca b lb cb:=rfl
theorem Xj {a b:Nat} {oa ob la lb ca cb:Nat} {w:World} {xs ys:Array Value} {t u:TypeId} (ha:w.heap[a]? = some (.cells xs t (0,0))) (hb:w.heap[b]? = some (.cells ys u (0,0))) (hne:a≠b) :
 (callFunc 141 #[.slice (some ⟨a,oa,none⟩) la ca,.slice (some ⟨b,ob,none⟩) lb cb]).run Tryz.prog w =.ok (.value (.bool false)) w:=by
 rw[run_callFunc_extern (e:=Extern.SlicesOverlaps.overlaps #[123,123] #[4]) Tryz.func141 κ κ κ (by rfl)];obtain⟨i,z,hi,hz,hsz,hby,hzs⟩:=akW.info;have hsa:w.shape? a = some (t,xs.size):=by simp[World.shape?,ha]
 have XM:w.shape? b = some (u,ys.size):=by simp[World.shape?,hb]
 have X0:∀j,w.frozen? ⟨a,j,none⟩=false:=fun j=>by simp[World.frozen?,ha]
 have oO:∀j,w.frozen? ⟨b,j,none⟩=false:=fun j=>by simp[World.frozen?,hb]
 have ay_:(a != b)=true:=by simpa using hne
 have Q9:(a ==b)=false:=by simpa using hne
 unfold Extern.SlicesOverlaps.overlaps;rw[ail];by_cases h0:la=0∨lb=0
 ·simp[run_underlying Tryz.underlying123,sizeOf,typeInfo,hi,hsz,h0,Result.andThen]
 ·simp[run_underlying Tryz.underlying123,sizeOf,typeInfo,hi,hsz,h0,ay_,Q9,noView,viewAt,mayBeOne,stringish,hsa,XM,X0,oO,Result.andThen]
theorem Jk {P:Program} (w:World) (t tn ty e:TypeId) (i:TypeInfo) (z:Value) (k kn:IntKind) (ht:P.underlying t = some (.slice e)) (htn:P.underlying tn=some (.int kn)) (hi:P.info? e = some i) (hz:i.zero=some z)
 (b:Addr) (HY W9:Nat) (olds:List Value) (SV:olds.length=HY*i.size) (holds:∀j v,olds[j]? = some v→w.cell? (b.add j)=some v)
 (n:Nat) (h0:0<n) (hs:0<i.size) (hg:W9<HY+n) (h63:((HY+n:Nat):Int)≤9223372036854775807) (auV:Builtin.nextslicecap (HY+n) W9*i.bytes≤281474976710656) (h48:n * i.bytes≤281474976710656) :
 (Builtin.append_ #[t,tn] ty #[.slice (some b) HY W9,.int k n]).run P w =
  .ok (.slice (some ⟨w.heap.size,0,none⟩) (HY+n) (grownCap w (HY+n) W9 e)) (w.drew.alloc (.cells (olds.toArray++Builtin.zeroCells z.cells n ++Builtin.zeroCells z.cells (grownCap w (HY+n) W9 e - (HY+n))) e)):=by
 have hn:n≠0:=ω;have hw:IntKind.i64.wrap (n:Int)=n:=by rw[IntKind.wrap_i64];omega
 have hne:¬(HY+n≤W9):=ω;have aAG:¬(9223372036854775807<((HY:Int)+(n:Int))):=ω;have aAI:¬(281474976710656<Builtin.nextslicecap (HY+n) W9*i.bytes):=ω;have aAH:¬(281474976710656<(n:Int)*(i.bytes:Int)):=by
  rw[←Int.natCast_mul];omega
 have ay8:¬((n:Int)<0):=ω;have hns:¬(n * i.size=0):=Nat.mul_ne_zero hn ω;have hfo:=run_firstCells_some (P:=P) w.drew i.size HY b HY W9 olds SV (by simpa using holds);simp[Builtin.append_,run_underlying ht,run_underlying htn,sizeOf,typeInfo,zeroValue,hi,hz,asInt,asIntOf,hw,ay8,hns,aAG,aAI,aAH,hne,Question.forced,hfo,newRow,grownCap]
def putAt (l:List Nat) (i t:Nat):List Nat:=l.take i ++t ::l.drop i
theorem aei (l:List Nat) (t:Nat):putAt l l.length t = l ++[t]:=by simp[putAt]
theorem uD {l:List Nat} {i t:Nat} (h:i≤l.length):(putAt l i t).length=l.length+1:=by
 simp only[putAt,List.length_append,List.length_take,List.length_cons,List.length_drop];omega
theorem aia {l:List Nat} {i t q:Nat} (hi:i≤l.length) (h:q<i):(putAt l i t)[q]? = l[q]? :=by
 unfold putAt;rw[List.getElem?_append_left (by rw[List.length_take];omega),List.getElem?_take_of_lt h]
theorem aic {l:List Nat} {i t:Nat} (h:i≤l.length):(putAt l i t)[i]? = some t:=by
 unfold putAt;rw[List.getElem?_append_right (by rw[List.length_take];omega),List.length_take,show i - min i l.length=0 by omega];rfl
theorem aib {l:List Nat} {i t q:Nat} (h:i≤l.length) (hq:i < q):(putAt l i t)[q]? = l[q-1]? :=by
 unfold putAt;rw[List.getElem?_append_right (by rw[List.length_take];omega),List.length_take,show q-min i l.length=(q-1-i)+1 by omega,List.getElem?_cons_succ,List.getElem?_drop,show i + (q-1-i)=q-1 by omega]
def MF (w:World) (h:Nat) (t:Nat):Prop:=w.heap[h]? = some (.cells #[.int .u64 (t:Int)] 33 (0,0))
theorem MF.arr {w:World} {h t:Nat} (ho:MF w h t):bW w 1 kK (some ⟨h,0,none⟩) 1 [t]:=by
 refine⟨rfl,fun _=>⟨h,0,rfl,(Array.getElem?_eq_some_iff.1 ho).1,fun i hi j u hu=> ?_⟩⟩;have hi0:i = 0:=by simpa using hi
 subst hi0;have hj:j = 0:=by have:=(List.getElem?_eq_some_iff.1 hu).1;simp[kK] at this;omega
 subst hj;simp only[World.cell?,show w.heap[h]? = _ from ho];simpa[kK] using hu
def uv (x:Nat):Value:=.int .u64 (x:Int)
theorem ahf:∀(l:List Nat),∀v∈l.map uv,v.oneCell'=true:=by intro l v hv;simp only[List.mem_map] at hv;obtain⟨x,_,rfl⟩:=hv;rfl
theorem Dk {l:List Nat} {i t q x:Nat} (hi:i≤l.length) (h:(putAt l i t)[q]? = some x):(q<i∧l[q]? = some x)∨(q=i∧x = t)∨(i < q∧l[q-1]? = some x):=by
 rcases Nat.lt_trichotomy q i with h1 | h1 | h1
 ·rw[aia hi h1] at h;exact .inl ⟨h1,h⟩
 ·subst h1;rw[aic hi] at h;exact .inr (.inl ⟨rfl,(Option.some.inj h).symm⟩)
 ·rw[aib hi h1] at h;exact .inr (.inr ⟨h1,h⟩)
theorem ac_ {l:List Nat} {i q x:Nat} (h:l[i + q]? = some x):((l.drop i).map uv)[q]? = some (uv x):=by simp[h]
theorem aiO {cur:Array Value} {l:List Nat} {i t:Nat} (hc:∀(q x:Nat),l[q]? = some x→cur[q]? = some (uv x)) (hi:i < l.length) (hsz:l.length+1≤cur.size) :
 ∀(q x:Nat),(putAt l i t)[q]? = some x→(lT (lT cur (i + 1) ((l.drop i).map uv)) i [uv t])[q]? = some (uv x):=by
 intro q x hq;have hl:((l.drop i).map uv).length=l.length-i:=by simp
 have hs1:(lT cur (i + 1) ((l.drop i).map uv)).size=cur.size:=oH ω;rw[qH (by rw[hs1,List.length_singleton];omega)];rcases Dk ω hq with⟨h1,h2⟩ | ⟨rfl,rfl⟩ | ⟨h1,h2⟩
 ·rw[if_neg ω,qH ω,if_neg ω];exact hc q x h2
 ·rw[if_pos σ];simp
 ·have Q5:=(List.getElem?_eq_some_iff.1 h2).1;rw[if_neg (by simp;omega),qH ω,if_pos ω];exact ac_ (by rw[show i + (q-(i + 1))=q-1 by omega];exact h2)
theorem amb {cur:Array Value} {l:List Nat} {i t:Nat} (hc:∀(q x:Nat),q<i→l[q]? = some x→cur[q]? = some (uv x)) (hi:i < l.length) (hsz:l.length+1≤cur.size) :
 ∀(q x:Nat),(putAt l i t)[q]? = some x→(lT (lT cur i [uv t]) (i + 1) ((l.drop i).map uv))[q]? = some (uv x):=by
 intro q x hq;have hl:((l.drop i).map uv).length=l.length-i:=by simp
 have hs1:(lT cur i [uv t]).size=cur.size:=oH (by simp;omega);rw[qH ω];rcases Dk ω hq with⟨h1,h2⟩ | ⟨rfl,rfl⟩ | ⟨h1,h2⟩
 ·rw[if_neg ω,qH (by simp;omega),if_neg ω];exact hc q x h1 h2
 ·rw[if_neg ω,qH (by simp;omega),if_pos σ];simp
 ·have Q5:=(List.getElem?_eq_some_iff.1 h2).1;rw[if_pos ω];exact ac_ (by rw[show i + (q-(i + 1))=q-1 by omega];exact h2)
theorem Own.FN {w:World} {base g cap n:Nat} {cur:Array Value} {xs:List Nat} (hb:base≤g) (hh:w.heap[g]? = some (.cells cur 33 (0,0))) (hn:xs.length=n) (Cb:n≤cap) (hcm:cap≤maxLen) (hcs:cur.size=cap)
 (hc:∀(q x:Nat),xs[q]? = some x→cur[q]? = some (uv x)):Own w base 33 1 kK (.slice (some ⟨g,0,none⟩) n cap) xs:=by
 subst hn;refine Own.mk_ Pz ω hb hh Cb hcm ω (fun q hq r hr=> ?_);have hr0:r = 0:=ω;subst hr0;have:=hc q xs[q] (List.getElem?_eq_getElem hq);simpa[kK,uv] using this
theorem MF.cell {w:World} {h t:Nat} (ho:MF w h t):∀(j:Nat) v,[uv t][j]? = some v→w.cell? ⟨h,0+j,none⟩=some v:=by
 intro j v hv;have hj:j = 0:=by have:=(List.getElem?_eq_some_iff.1 hv).1;simp at this;omega
 subst hj;simp only[World.cell?,show w.heap[h]? = _ from ho];simpa[uv] using hv
theorem MF.fH {w w':World} {h t:Nat} {row:Option Nat} (ho:MF w h t) (hg:w.grownBy w' row) (hne:some h≠row):MF w' h t:=(hg.block h (Array.getElem?_eq_some_iff.1 ho).1 hne).trans ho
theorem acu {w:World} {g i:Nat} {cur:Array Value} {t:TypeId} {l:List Nat} (hh:w.heap[g]? = some (.cells cur t (0,0))) (hc:∀(q x:Nat),l[q]? = some x→cur[q]? = some (uv x)) :
 ∀(j:Nat) v,((l.drop i).map uv)[j]? = some v→w.cell? ⟨g,i + j,none⟩=some v:=by
 intro j v hv;simp only[List.getElem?_map,List.getElem?_drop,Option.map_eq_some_iff] at hv;obtain⟨x,hx,rfl⟩:=hv;have:=hc _ x hx;simp only[World.cell?,hh];simpa using this
theorem alm {w:World} {g i n d cap:Nat} {cur:Array Value} {l:List Nat} (hh:w.heap[g]? = some (.cells cur 33 (0,0))) (hc:∀(q x:Nat),l[q]? = some x→cur[q]? = some (uv x)) (hl:l.length=n) (hi:i < n) (hd:n + 1-i = d) (hroom:cap<n + 1) (hn:n≤1000000) :
 ∃YD w2 Mc,(Builtin.append_ #[123,3] 123 #[.slice (some ⟨g,0,none⟩) i cap,.int .i64 (d:Int)]).run Tryz.prog w =.ok (.slice (some ⟨w.heap.size,0,none⟩) (n + 1) YD) w2∧n + 1≤YD∧YD≤maxLen∧
  w2.heap[w.heap.size]? = some (.cells Mc 33 (0,0))∧Mc.size=YD∧(∀(q x:Nat),q<i→l[q]? = some x→Mc[q]? = some (uv x))∧ah w w2:=by
 obtain⟨ti,z,hti,hz,hsz,hby,hzs⟩:=akW.info;have SS:((l.take i).map uv).length=i:=by rw[List.length_map,List.length_take];omega
 have hr:=Jk (P:=Tryz.prog) w 123 3 123 33 ti z .i64 .i64 Tryz.underlying123 Tryz.underlying3 hti hz ⟨g,0,none⟩ i cap ((l.take i).map uv) (by rw[SS,hsz,Nat.mul_one]) (fun j v hv=>by
  simp only[List.getElem?_map,Option.map_eq_some_iff] at hv;obtain⟨x,hx,rfl⟩:=hv;have V5:j < i:=by have:=(List.getElem?_eq_some_iff.1 hx).1;rw[List.length_take] at this;omega
  rw[List.getElem?_take_of_lt V5] at hx;have he:(⟨g,0,none⟩:Addr).add j = ⟨g,j,none⟩:=by unfold Addr.add;by_cases hj:j = 0 <;> simp[hj]
  rw[he];simp only[World.cell?,hh];simpa using hc j x hx) d ω ω ω ω (by rw[hby];exact growslice_fits ω ω) (by rw[hby];omega)
 rw[show i + d = n + 1 by omega] at hr;have qA:=grownCap_ge w (n + 1) cap 33;have hcm:=grownCap_le_maxLen w (n + 1) cap 33 (by unfold maxLen;omega);refine⟨_,_,_,hr,qA,hcm,heap_alloc_new w.drew _,?_,?_,(ah.refl w).drew.alloc _⟩
 ·simp only[Array.size_append,size_zeroCells,hzs,List.size_toArray,SS];omega
 ·intro q x hq hx;rw[Array.getElem?_append_left (by simp only[Array.size_append,List.size_toArray,SS];omega),Array.getElem?_append_left (by rw[List.size_toArray,SS];omega)];simp[hq,hx]
theorem Oi {base:Nat} {v:Value} {l:List Nat} {i t h c:Nat} (w:World) (hO:Own w base 33 1 kK v l) (hbase:base≤w.heap.size) (hi:i≤l.length) (hl:l.length≤1000000) (hT:MF w h t) (hne:∀j,v.ownBlock=some j→j≠h) :
 Calls Tryz.prog 90 #[v,.int .i64 i,.slice (some ⟨h,0,none⟩) 1 c] w fun e w'=>∃v',e =.returned v'∧Own w' base 33 1 kK v' (putAt l i t)∧w.grownBy w' v.ownBlock∧(v'.ownBlock=v.ownBlock∨∃j,v'.ownBlock=some j∧w.heap.size≤j):=by
 obtain⟨A,cap,rfl,aju,hcm,hA⟩:=hO.arr Pz;by_cases Ih:i = l.length
 ·subst Ih;rw[aei];have hOn:=hO;rcases hO.2 with⟨h5,h6⟩ | ⟨g,aAZ,cur,h5,hb,hh,Cb,_,hcs,xC⟩
  ·injection h5 with h5 h7 h8
   subst h5 h8;have hn:=h6;obtain rfl:l = []:=List.eq_nil_of_length_eq_zero h6;replace hO:=ζ hO;replace hT:=ζ hT;clear hA hne hOn h7 aju hcm hi hl hn h6;go_enter Tryz.func90,Tryz.ntmps90
   go_wp2_with (at_builtin;refine f_ akW rfl (.tmp 23) (.tmp 24) rfl hO.o rfl rfl hT.o.arr Pz apu hbase (by simp[maxLen]) σ ?_;intro v2 w2 nI lY hv2);go_ret;exact⟨v2,rfl,nI,lY,hv2.imp id (fun h=>⟨_,h,Nat.le_refl _⟩)⟩
  ·simp only[Value.slice.injEq] at h5;obtain⟨rfl,_,rfl⟩:=h5;clear hb hh Cb hcs xC;generalize hn:l.length=n at *
   replace hn:=ζ hn;replace hO:=ζ hO;replace hT:=ζ hT;clear hA hne hi hOn;unfold maxLen at hcm;go_enter Tryz.func90,Tryz.ntmps90
   go_wp2_with (at_builtin;refine f_ akW rfl (.tmp 23) (.tmp 24) rfl hO.o rfl rfl hT.o.arr Pz apu hbase (by rw[hn.o];unfold maxLen;omega) (by rw[hn.o];omega) ?_;intro v2 w2 nI lY hv2);all_goals (go_ret;exact⟨v2,rfl,nI,lY,hv2.imp id (fun h=>⟨_,h,Nat.le_refl _⟩)⟩)
 ·have azs:i < l.length:=ω;clear Ih;obtain⟨g,aAZ,cur,h5,hb,hh,Cb,_,hcs,xC⟩:=hO.2.resolve_left (fun h=>by have:=h.2;omega);simp only[Value.slice.injEq] at h5;obtain⟨rfl,_,rfl⟩:=h5;obtain⟨Mc,_,_,hh2,_,_,amO,hcell⟩:=hO.tu Pz;obtain rfl:Mc=cur:=by rw[hh] at hh2;injection hh2 with h;injection h with h;exact h.symm
  have hgh:g≠h:=hne g rfl;replace hcell:∀(q x:Nat),l[q]? = some x→Mc[q]? = some (uv x):=fun q x hx=>by
   obtain⟨h1,rfl⟩:=List.getElem?_eq_some_iff.1 hx;simpa[kK,uv] using hcell q h1 0 ω
  rw[Nat.mul_one] at hcs;clear hh2 amO xC hA hne;generalize hn:l.length=n at *
  unfold maxLen at hcm;have aEO:((i:Int)==(n:Int))=false:=by rw[beq_eq_false_iff_ne];omega
  by_cases hroom:n + 1≤cap
  ·have hri:¬(cap:Int)<(n:Int)+1:=ω;have hov:=fun (c1:Nat)=>Xj (oa:=0) (ob:=i + 1) (la:=1) (lb:=n - i) (ca:=c) (cb:=c1) hT hh (Ne.symm hgh)
   replace hn:=ζ hn;replace hO:=ζ hO;replace hT:=ζ hT;replace hh:=ζ hh;replace hcell:=ζ hcell;go_enter Tryz.func90,Tryz.ntmps90
   go_wp2;have EJ:g < w.heap.size:=(Array.getElem?_eq_some_iff.1 hh.o).1;refine aG κ ?_;refine rK (.range 8) 1 ?_;iterate 8 refine aC ?_
   refine aB ?_;refine d_ (i:=8) rfl κ κ (fun wN hN hS K' hK=> ?_);clear hS;have hhN:=(hN.below.block g EJ).trans hh.o;have hdl:((l.drop i).map uv).length=n - i:=by rw[List.length_map,List.length_drop,hn.o]
   obtain⟨w2,hcp,hh2,lY⟩:=VG (o:=i + 1) (dL:=n - i) (dC:=cap-(i + 1)) (sL:=n + 1-i) (sC:=cap-i) hhN (by rw[hdl];omega) (acu (i:=i) hhN hcell.o) (by rw[hdl,hcs];omega) (ahf _);have hTN:=ζ (MF.fH (MF.fH hT.o (hN.uw none) σ) lY (by simpa using Ne.symm hgh));have aqr:Hid (w.grownBy w2 (some g)):=ζ ((hN.uw _).trans lY);replace hh2:=ζ hh2;clear hhN hN hdl lY;go_simp;refine hK.o _ _ ?_;clear hK hcp;have QZ:(lT Mc (i + 1) ((l.drop i).map uv)).size=cap:=by rw[oH (cur:=Mc) (o:=i + 1) (cs:=(l.drop i).map uv) (by rw[List.length_map,List.length_drop,hn.o,hcs];omega),hcs]
   have hsB:(lT (lT Mc (i + 1) ((l.drop i).map uv)) i [uv t]).size=cap:=by rw[oH (cur:=lT Mc (i + 1) ((l.drop i).map uv)) (o:=i) (cs:=[uv t]) (by rw[QZ,List.length_singleton];omega),QZ]
   obtain⟨w3,azH,hh3,kZ⟩:=VG (o:=i) (dL:=n + 1-i) (dC:=cap-i) (sL:=1) (sC:=c) hh2.o (by rw[List.length_singleton];omega) hTN.o.cell (by rw[QZ,List.length_singleton];omega) (by intro v hv;rw[List.mem_singleton] at hv;subst hv;rfl);have aQ:=Own.FN (base:=base) hb hh3 (uD (t:=t) (by have:=hn.o;omega)) (by have:=hn.o;omega) (by unfold maxLen;omega) hsB (aiO (t:=t) hcell.o (by have:=hn.o;omega) (by have:=hn.o;omega));clear QZ hsB;rw[hn.o] at aQ;replace aQ:=ζ aQ;replace aqr:=ζ (aqr.o.trans kZ);clear hh2 hTN hh3 kZ;go_wp2;go_ret;exact⟨_,rfl,aQ.o,aqr.o,.inl rfl⟩
  ·have hri:(cap:Int)<(n:Int)+1:=ω;obtain⟨d,hd⟩:∃d,n + 1-i = d:=⟨_,rfl⟩;have hdi:(n:Int)+1-(i:Int)=(d:Int):=ω;obtain⟨YD,w2,ano,hrun,Y6,X5,hh2,au1,hc3,fQ⟩:=alm (cap:=cap) hh hcell hn azs hd ω hl;have azJ:=X5;unfold maxLen at azJ;have EJ:g < w.heap.size:=(Array.getElem?_eq_some_iff.1 hh).1;have hhl:h < w.heap.size:=(Array.getElem?_eq_some_iff.1 hT).1;have hhh:Hid (w2.heap[g]? = some (.cells Mc 33 (0,0))):=ζ ((fQ.below.block g EJ).trans hh);have hT2:MF w2 h t:=MF.fH hT (fQ.uw none) σ;obtain⟨w3,azH,hh3,kZ⟩:=VG (o:=i) (dL:=n + 1-i) (dC:=YD-i) (sL:=1) (sC:=c) (cur:=ano) hh2 (by rw[List.length_singleton];omega) hT2.cell (by rw[List.length_singleton,au1];omega) (by intro v hv;rw[List.mem_singleton] at hv;subst hv;rfl);have hh4:Hid (w3.heap[g]? = some (.cells Mc 33 (0,0))):=ζ ((kZ.block g (Nat.lt_of_lt_of_le EJ fQ.size) (by simp;omega)).trans hhh.o);have qo:Hid (ah w w3):=ζ (fQ.aO kZ (fun j hj=>by injection hj with hj;omega));have QZ:Hid ((lT ano i [uv t]).size=YD):=ζ (by rw[oH (cur:=ano) (o:=i) (cs:=[uv t]) (by rw[List.length_singleton];omega),au1]);generalize hG:w.heap.size=G at *
   replace hn:=ζ hn;replace hO:=ζ hO;replace hT:=ζ hT;replace hh:=ζ hh;replace hcell:=ζ hcell;replace hd:=ζ hd;replace hh3:=ζ hh3;replace hc3:=ζ hc3;clear hh2 hT2 hhh kZ fQ;go_enter Tryz.func90,Tryz.ntmps90
   go_wp2_with (at_builtin;refine Lib.wpList_append_run _ rfl (.tmp 34) (.tmp 39) _ _ rfl _ _ rfl rfl _ _ hrun ?_);clear hrun;have azy:g < w3.heap.size:=(Array.getElem?_eq_some_iff.1 hh4.o).1;refine aG κ ?_;refine rK (.range 8) 1 ?_;iterate 8 refine aC ?_
   refine aB ?_;refine d_ (i:=8) rfl κ κ (fun wN hN hS K' hK=> ?_);clear hS;have hhN:=(hN.below.block g azy).trans hh4.o;have hhM:=(hN.below.block G (Array.getElem?_eq_some_iff.1 hh3.o).1).trans hh3.o;have hdl:((l.drop i).map uv).length=n - i:=by rw[List.length_map,List.length_drop,hn.o]
   obtain⟨w5,hcp,hh5,F7⟩:=VG (o:=i + 1) (dL:=n - i) (dC:=YD-(i + 1)) (sL:=n - i) (sC:=cap-i) hhM (by rw[hdl];omega) (acu (i:=i) hhN hcell.o) (by rw[hdl,QZ.o];omega) (ahf _);have aQ:=Own.FN (base:=base) ω hh5 (uD (t:=t) (by have:=hn.o;omega)) (by have:=hn.o;omega) X5 (by rw[oH (cur:=lT ano i [uv t]) (o:=i + 1) (cs:=(l.drop i).map uv) (by rw[hdl,QZ.o];omega),QZ.o]) (amb (t:=t) hc3.o (by have:=hn.o;omega) (by have:=hn.o;omega));rw[hn.o] at aQ;replace aQ:=ζ aQ;have oL:Hid (ah w w5):=ζ ((qo.o.trans hN).aO F7 (fun j hj=>by injection hj with hj;omega));clear hhN hhM hN hdl F7 hh5;go_simp;refine hK.o _ _ ?_;clear hK hcp;go_wp2;go_ret;exact⟨_,rfl,aQ.o,oL.o.uw _,.inr ⟨G,rfl,Nat.le_refl _⟩⟩
structure dO where
 r:Nat
 key:Nat
 fH:List bK
 bA:Option Addr
 bm:Nat
 bk:Nat
 ids:List Nat
 iA:Option Addr
 im:Nat
 ik:Nat
def dO.bv (x:dO):Value:=.slice x.bA x.bm x.bk
def dO.iv (x:dO):Value:=.slice x.iA x.im x.ik
def dO.g (x:dO):m_:=⟨x.r,x.fH,x.key,x.ids⟩
def VE (x:dO):List Value:=[.int .i64 (x.r:Int),.slice x.bA x.bm x.bk,.int .u64 (x.key:Int),.slice x.iA x.im x.ik]
def Uk (x:dO):Value:=.agg #[.int .i64 (x.r:Int),.slice x.bA x.bm x.bk,.int .u64 (x.key:Int),.slice x.iA x.im x.ik]
theorem hkG (x:dO):(VE x).length=4:=rfl
theorem atG (x:dO):∀u∈VE x,u.oneCell'=true:=by intro u hu;simp[VE] at hu;rcases hu with rfl | rfl | rfl | rfl <;> rfl
theorem arj:eX Tryz.prog 137 125 4 64:=eX.mk' (z:=.agg #[.int .i64 0,.slice none 0 0,.int .u64 0,.slice none 0 0]) Tryz.underlying137 κ rfl ω
abbrev MC (w:World) (base:Nat) (v:Value) (gs:List dO):Prop:=Own w base 125 4 VE v gs
theorem ad2 {n:Nat} (w:World) (h0:0<n) (hn:n≤1000000000) (ty:TypeId) :
 ∃g cap w',(Builtin.append_ #[137,3] ty #[.slice none 0 0,.int .i64 n]).run Tryz.prog w =.ok (.slice (some ⟨g,0,none⟩) n cap) w'∧n≤cap∧cap≤maxLen∧MC w' w.heap.size (.slice (some ⟨g,0,none⟩) 0 cap) []∧ah w w':=by
 obtain⟨i,z,hi,hz,hsz,hby,hzs⟩:=arj.info;have hr:=Lib.run_append_nil_zeros (P:=Tryz.prog) w 137 3 ty 125 i z .i64 .i64 Tryz.underlying137 Tryz.underlying3 hi hz n h0 ω ω (by rw[hby];omega);have qA:=grownCap_ge w n 0 125;have hcm:=grownCap_le_maxLen w n 0 125 (by unfold maxLen;omega);refine⟨_,_,_,hr,qA,hcm,⟨rfl,.inr ⟨w.heap.size,_,_,rfl,Nat.le_refl _,heap_alloc_new w.drew _,Nat.zero_le _,hcm,?_,by simp[cu]⟩⟩,(ah.refl w).drew.alloc _⟩;simp only[Array.size_append,size_zeroCells,hzs];rw[←Nat.add_mul,Nat.add_sub_cancel' qA]
theorem afv {n:Nat} (w:World) (hn:n≤1000000000) :
 Calls Tryz.prog 143 #[.slice none 0 0,.int .i64 n] w fun e w'=>∃v,e =.returned v∧MC w' w.heap.size v []∧ah w w':=by
 by_cases h0:n = 0
 ·subst h0;go_enter Tryz.func143,Tryz.ntmps143
  go_wp2;go_ret;exact⟨_,rfl,Own.iH _ _ _ _ _,ah.refl _⟩
 ·have hi:(0:Int)<(n:Int):=ω;have hi2:¬((n:Int)<0):=ω;have hb:0≤(n:Int)∧(n:Int)≤1000000000:=ω;have h1:0<n:=ω;replace h1:=ζ h1;go_enter Tryz.func143,Tryz.ntmps143
  obtain⟨g,cap,w1,hr,qA,hcm,hO,hG⟩:=ad2 w h1.o hn 137;have X5:=hcm;replace hO:=ζ hO;replace hG:=ζ hG;go_wp2_with (at_builtin;(refine Lib.wpList_append_run _ rfl (.tmp 20) (.tmp 21) _ _ rfl _ _ rfl rfl _ _ hr ?_));go_ret;exact⟨_,rfl,hO.o,hG.o⟩
structure Gsl where
 A:Option Addr
 n:Nat
 c:Nat
 xs:List dO
def ac9 (b:Gsl):List Value:=[.slice b.A b.n b.c]
def wK (bs:List Gsl):List dO:=bs.flatMap (·.xs)
theorem TR {bs:List Gsl} {k:Nat} {b:Gsl} (h:bs[k]? = some b):wK (bs.take (k+1))=wK (bs.take k)++b.xs:=by
 rw[List.take_add_one,h];simp[wK]
theorem adf (bs:List Gsl) (k:Nat):(wK (bs.take k)).length≤(wK bs).length:=by
 have:wK bs=wK (bs.take k)++wK (bs.drop k):=by
  unfold wK;rw[←List.flatMap_append,List.take_append_drop]
 rw[this,List.length_append];omega
theorem Yy {A:Option Addr} {L c:Nat} {bs:List Gsl} (w:World) (hA:bW w 1 ac9 A L bs) (hb:∀b∈bs,bW w 4 VE b.A b.n b.xs) (ht:(wK bs).length≤1000000000) (hL2:L≤1000) :
 Calls Tryz.prog 91 #[.slice A L c] w fun e w'=>∃v,e =.returned v∧MC w' w.heap.size v (wK bs)∧ah w w':=by
 have hL:=hA.1;have cG:=fun n W h=>afv (n:=n) W h
 replace cG:=ζ cG;replace hA:=ζ hA;replace hb:=ζ hb;go_enter Tryz.func91,Tryz.ntmps91
 go_wp2;go_loopw [3,11] (fun n i wr=>∃k:Nat,k≤L∧i =.int .i64 k∧n =.int .i64 ((wK (bs.take k)).length:Nat)∧w = wr) (fun _ i _=>L-(intOf i).toNat)
 case atStart=>exact⟨0,ω,rfl,rfl,rfl⟩
 case round=>
  obtain⟨k,hk,rfl,rfl,rfl⟩:=hrel;by_cases hlt:k<L
  ·obtain⟨bb,off,b,rfl,hs0,hx,hcell⟩:=hA.o.at_ hlt;have c0:w.cell? ⟨bb,off+k,none⟩=some (.slice b.A b.n b.c):=by simpa using hcell 0 _ rfl
   have h1:=TR hx;have h2:=adf bs (k+1);have h3:=(hb.o b (List.mem_of_getElem? hx)).1;rw[h1,List.length_append,h3] at h2;have h4:(wK (bs.take (k+1))).length=(wK (bs.take k)).length+b.n:=by rw[h1,List.length_append,h3]
   generalize hY:(wK (bs.take (k+1))).length=Y at *
   replace hY:=ζ hY;generalize (wK (bs.take k)).length=X at *
   have kY:(k:Int)<(L:Int):=ω;have h5:¬((X:Int)+(b.n:Int)<0):=ω;have h6:0≤(X:Int)∧(X:Int)≤1000000000∧(b.n:Int)≤1000000000:=ω;replace h4:=ζ h4;clear h1 hx hcell h3;go_wp2;go_roundw
   case rel=>exact⟨k+1,ω,ν,by rw[hY.o,h4.o,Int.natCast_add],trivial⟩
   case measure=>exact ψ
  ·obtain rfl:k=L:=ω;rw[List.take_of_length_le ω];go_wp2_with fail;refine (cG.out _ _ ω).mono ?_;rintro e w1 ⟨v1,rfl,hO,hG⟩;have LX:Hid (MC w1 w.heap.size v1 (wK (bs.take 0))):=hO;replace hG:=ζ hG;clear hO cG;go_wp2;go_loopw [6,27] (fun v i wx=>∃j:Nat,j≤k∧i =.int .i64 j∧Hid (MC wx w.heap.size v (wK (bs.take j)))∧Hid (ah w wx)) (fun _ i _=>k-(intOf i).toNat)
   case atStart=>exact⟨0,ω,rfl,LX,hG⟩
   case round=>
    clear LX hG;obtain⟨j,hj,rfl,hO,hG⟩:=hrel;by_cases hjl:j < k
    ·obtain⟨bb,off,b,rfl,hs0,hx,hcell⟩:=(hA.o.keep hG.o).at_ hjl;have c0:wr.cell? ⟨bb,off+j,none⟩=some (.slice b.A b.n b.c):=by simpa using hcell 0 _ rfl
     have h1:=TR hx;have h2:=adf bs (j + 1);have PD:=(hb.o b (List.mem_of_getElem? hx)).keep hG.o;have h3:=PD.1;rw[h1,List.length_append,h3] at h2;have kY:(j:Int)<(k:Int):=ω;replace h1:=ζ h1;replace PD:=ζ PD;clear hx hcell h3;go_wp2_with (at_builtin;(refine f_ arj rfl (.tmp 31) (.tmp 32) rfl hO.o rfl rfl PD.o hkG atG hG.o.size (by unfold maxLen;omega) ω ?_;intro v2 w2 nI lY hv2;clear hv2;(have fQ:=ζ (hG.o.aO lY hO.o.gY));(replace nI:=ζ nI);clear lY));go_roundw
     case rel=>exact⟨j + 1,ω,ν,by rw[h1.o];exact nI,fQ⟩
     case measure=>exact ψ
    ·obtain rfl:j = k:=ω;have iT:=hO.o;rw[List.take_of_length_le ω] at iT;go_wp2;go_ret;exact⟨_,rfl,iT,hG.o⟩
theorem aZ {α:Type} {w:World} {b0 k g:Nat} {e e':TypeId} {enc:α→List Value} {v:Value} {xs:List α} {cur:Array Value} {fz:Nat×Nat} (h:Own w b0 e k enc v xs) (hg:w.heap[g]? = some (.cells cur e' fz)) (hne:e≠e'):v.ownBlock≠some g:=by
 intro hv;rcases h.2 with⟨h5,_⟩ | ⟨g',cap,cur',h5,_,hh,_⟩
 ·rw[h5] at hv;cases hv
 ·rw[h5] at hv;simp only[Value.ownBlock,Option.some.injEq] at hv;subst hv;rw[hh] at hg;simp only[Option.some.injEq,Obj.cells.injEq] at hg;exact hne hg.2.1
theorem bV {α:Type} {w:World} {b0 k g:Nat} {e:TypeId} {enc:α→List Value} {v:Value} {xs:List α} (h:Own w b0 e k enc v xs) (hv:v.ownBlock=some g):∃cur,w.heap[g]? = some (.cells cur e (0,0)):=by
 rcases h.2 with⟨h5,_⟩ | ⟨g',cap,cur',h5,_,hh,_⟩
 ·rw[h5] at hv;cases hv
 ·rw[h5] at hv;simp only[Value.ownBlock,Option.some.injEq] at hv;subst hv;exact⟨_,hh⟩
theorem Own.kept' {α:Type} {w w':World} {b0 k:Nat} {e:TypeId} {enc:α→List Value} {v:Value} {xs:List α} {row:Option Nat} (h:Own w b0 e k enc v xs) (hg:w.grownBy w' row) (hne:∀g,row=some g→v.ownBlock≠some g):Own w' b0 e k enc v xs:=by
 refine World.ownsRow.kept h hg ?_;cases hv:v.ownBlock with
 | none=>exact .inl rfl
 | some g=>exact .inr (fun hr=>hne g hr.symm hv)
theorem Own.ahZ {α:Type} {w:World} {base k n g cap:Nat} {e:TypeId} {enc:α→List Value} {xs:List α} (h:Own w base e k enc (.slice (some ⟨g,0,none⟩) n cap) xs) (hk:∀x,(enc x).length=k) (KH:0<k) {i j:Nat} (hi:i < n) (hj:j < k) {x:α} {u:Value}
 (hx:∀y,xs[i]? = some y→enc x = (enc y).set j u):Own (w.setCell ⟨g,i * k+j,none⟩ u) base e k enc (.slice (some ⟨g,0,none⟩) n cap) (xs.set i x):=by
 obtain⟨cur,hl,hb,hh,Cb,hcm,hcs,hc⟩:=h.tu hk;have hlt:i * k+k≤cap*k:=by have:=Nat.mul_le_mul_right k (show i + 1≤cap by omega);rw[Nat.add_mul] at this;omega
 have hh2:(w.setCell ⟨g,i * k+j,none⟩ u).heap[g]? = some (.cells (cur.setIfInBounds (i * k+j) u) e (0,0)):=by
  simp[World.setCell,Array.getElem?_modify,hh]
 have hl':(xs.set i x).length=n:=by rw[List.length_set];exact hl
 have:=Own.mk_ (xs:=xs.set i x) (cap:=cap) hk KH hb hh2 ω hcm (by simpa using hcs) (fun q hq r hr=>by
  rw[List.getElem_set];by_cases hq':i = q
  ·subst hq';rw[if_pos rfl,hx _ (List.getElem?_eq_getElem ω),List.getElem?_set];by_cases hr':j = r
   ·subst hr';rw[if_pos rfl,if_pos (by rw[hk];exact hr),Array.getElem?_setIfInBounds];simp;omega
   ·rw[if_neg hr',Array.getElem?_setIfInBounds,if_neg ω];exact hc i ω r hr
  ·rw[if_neg hq',Array.getElem?_setIfInBounds,if_neg (by
    intro h4;rcases Nat.lt_or_ge q i with h6 | h6
    ·have:=Nat.mul_le_mul_right k (show q+1≤i from h6);rw[Nat.add_mul] at this;omega
    ·have:=Nat.mul_le_mul_right k (show i + 1≤q by omega);rw[Nat.add_mul] at this;omega)]
   exact hc q ω r hr)
 rwa [hl'] at this
structure fD (w:World) (b0 RB:Nat) (vs:List Value) (rs:List (List dO)):Prop where
 row:w.heap[RB]? = some (.cells vs.toArray 137 (0,0))
 len:vs.length=rs.length
 own:∀(r:Nat) v gs,vs[r]? = some v→rs[r]? = some gs→MC w b0 v gs
 apart:∀(r s:Nat) v u g,vs[r]? = some v→vs[s]? = some u→r≠s→v.ownBlock=some g→u.ownBlock≠some g
 ids:∀(r:Nat) (gs:List dO) (k:Nat) (x:dO),rs[r]? = some gs→gs[k]? = some x→Own w b0 33 1 kK x.iv x.ids
 L_:∀(r:Nat) (gs:List dO) (k:Nat) (x:dO),rs[r]? = some gs→gs[k]? = some x→Own w b0 88 2 dW x.bv x.fH
 QW:∀(r s k j:Nat) (gs hs:List dO) (x y:dO) (g:Nat),rs[r]? = some gs→gs[k]? = some x→rs[s]? = some hs→hs[j]? = some y→(r≠s∨k≠j)→x.iv.ownBlock=some g→y.iv.ownBlock≠some g
section
variable {w w':World} {b0 RB:Nat} {vs:List Value} {rs:List (List dO)}
theorem fD.lt (h:fD w b0 RB vs rs):RB<w.heap.size:=(Array.getElem?_eq_some_iff.1 h.row).1
theorem fD.grows (h:fD w b0 RB vs rs) (hg:ah w w'):fD w' b0 RB vs rs where
 row:=(hg.below.block RB h.lt).trans h.row
 len:=h.len
 own:=fun r v gs h1 h2=>(h.own r v gs h1 h2).grows hg
 apart:=h.apart
 ids:=fun r gs k x h1 h2=>(h.ids r gs k x h1 h2).grows hg
 L_:=fun r gs k x h1 h2=>(h.L_ r gs k x h1 h2).grows hg
 QW:=h.QW
theorem fD.other (h:fD w b0 RB vs rs) {m:Nat} (hg:w.grownBy w' (some m)) (hm:∀cur e fz,w.heap[m]?≠some (.cells cur e fz)):fD w' b0 RB vs rs where
 row:=(hg.block RB h.lt (by intro hh;injection hh with hh;subst hh;exact hm _ _ _ h.row)).trans h.row
 len:=h.len
 own:=fun r v gs h1 h2=>(h.own r v gs h1 h2).kept' hg (fun g jw hv=>by injection jw with jw;subst jw;obtain⟨cur,hc⟩:=bV (h.own r v gs h1 h2) hv;exact hm _ _ _ hc)
 apart:=h.apart
 ids:=fun r gs k x h1 h2=>(h.ids r gs k x h1 h2).kept' hg (fun g jw hv=>by injection jw with jw;subst jw;obtain⟨cur,hc⟩:=bV (h.ids r gs k x h1 h2) hv;exact hm _ _ _ hc)
 L_:=fun r gs k x h1 h2=>(h.L_ r gs k x h1 h2).kept' hg (fun g jw hv=>by injection jw with jw;subst jw;obtain⟨cur,hc⟩:=bV (h.L_ r gs k x h1 h2) hv;exact hm _ _ _ hc)
 QW:=h.QW
theorem NU {α:Type} {w:World} {b0 k g:Nat} {e:TypeId} {enc:α→List Value} {v:Value} {xs:List α} (h:Own w b0 e k enc v xs) (hv:v.ownBlock=some g):g < w.heap.size:=(World.ownsRow.lt h g hv).2
theorem fD.push (h:fD w b0 RB vs rs) {r:Nat} {v v':Value} {gs:List dO} {x:dO} (hv:vs[r]? = some v) (ny:rs[r]? = some gs) {w1:World} (hO:MC w1 b0 v' (gs++[x])) (hg:w.grownBy w1 v.ownBlock) (hv':v'.ownBlock=v.ownBlock∨∃j,v'.ownBlock=some j∧w.heap.size≤j)
 (hid:x.iv=.slice none 0 0∧x.ids=[]) (hby:Own w b0 88 2 dW x.bv x.fH) :
 fD (w1.setCell ⟨RB,r,none⟩ v') b0 RB (vs.set r v') (rs.set r (gs++[x])):=by
 have qM:r < vs.length:=(List.getElem?_eq_some_iff.1 hv).1;have hOv:=h.own r v gs hv ny;have aAd:∀g,v.ownBlock=some g→g≠RB:=fun g hg e=>aZ hOv h.row δ (by rw[hg,e])
 have EH:w1.heap[RB]? = some (.cells vs.toArray 137 (0,0)):=(hg.block RB h.lt (fun e=>aAd RB e.symm rfl)).trans h.row;have aI:=aj w1 ⟨RB,r,none⟩ v';have azM:Own w1 b0 88 2 dW x.bv x.fH:=hby.kept' hg (fun g jw hv2=>by obtain⟨cur,hc⟩:=bV hOv jw;exact aZ hby hc δ hv2);have ayn:(vs.set r v').length=(rs.set r (gs++[x])).length:=by simp[h.len]
 refine⟨?_,ayn,?_,?_,?_,?_,?_⟩
 ·simp[World.setCell,Array.getElem?_modify,EH]
 ·intro s u hs h1 h2;by_cases nN:r = s
  ·subst nN;rw[List.getElem?_set_self qM] at h1;rw[List.getElem?_set_self (by rw[←h.len];exact qM)] at h2;injection h1 with h1;injection h2 with h2
   subst h1 h2;exact hO.kept' aI (fun g jw hv2=>by injection jw with jw;subst jw;exact aZ hO EH δ hv2)
  ·rw[List.getElem?_set_ne nN] at h1 h2;have h3:=h.own s u hs h1 h2;have h4:MC w1 b0 u hs:=h3.kept' hg (fun g jw hv2=>h.apart r s v u g hv h1 nN jw hv2);exact h4.kept' aI (fun g jw hv2=>by injection jw with jw;subst jw;exact aZ h4 EH δ hv2)
 ·intro s t u1 u2 g h1 h2 hst hg1 hg2;have key:∀(t:Nat) u2,vs[t]? = some u2→t≠r→v'.ownBlock=some g→u2.ownBlock=some g→False:=fun t u2 h2 htr hg1 hg2=>by
   have h2l:=NU (h.own t u2 _ h2 (List.getElem?_eq_getElem (by rw[←h.len];exact (List.getElem?_eq_some_iff.1 h2).1))) hg2;rcases hv' with hv' | ⟨j,hj,hjs⟩
   ·rw[hv'] at hg1;exact h.apart r t v u2 g hv h2 (Ne.symm htr) hg1 hg2
   ·rw[hj] at hg1;injection hg1 with hg1;omega
  by_cases nN:r = s
  ·subst nN;rw[List.getElem?_set_self qM] at h1;rw[List.getElem?_set_ne hst] at h2;injection h1 with h1;subst h1
   exact key t u2 h2 (Ne.symm hst) hg1 hg2
  ·rw[List.getElem?_set_ne nN] at h1;by_cases hrt:r = t
   ·subst hrt;rw[List.getElem?_set_self qM] at h2;injection h2 with h2;subst h2
    exact key s u1 h1 (Ne.symm nN) hg2 hg1
   ·rw[List.getElem?_set_ne hrt] at h2;exact h.apart s t u1 u2 g h1 h2 hst hg1 hg2
 ·intro s hs k y h1 h2;have key:Own w b0 33 1 kK y.iv y.ids:=by
   by_cases nN:r = s
   ·subst nN;rw[List.getElem?_set_self (by rw[←h.len];exact qM)] at h1;injection h1 with h1;subst h1
    rw[List.getElem?_append] at h2;split at h2
    ·exact h.ids r gs k y ny h2
    ·have:y = x:=by have:=List.mem_of_getElem? h2;simpa using this
     subst this;rw[hid.1,hid.2];exact Own.iH _ _ _ _ _
   ·rw[List.getElem?_set_ne nN] at h1;exact h.ids s hs k y h1 h2
  have Oh:Own w1 b0 33 1 kK y.iv y.ids:=key.kept' hg (fun g jw hv2=>by obtain⟨cur,hc⟩:=bV hOv jw;exact aZ key hc δ hv2);exact Oh.kept' aI (fun g jw hv2=>by injection jw with jw;subst jw;exact aZ Oh EH δ hv2)
 ·intro s hs k y h1 h2;have Oh:Own w1 b0 88 2 dW y.bv y.fH:=by
   by_cases nN:r = s
   ·subst nN;rw[List.getElem?_set_self (by rw[←h.len];exact qM)] at h1;injection h1 with h1;subst h1
    rw[List.getElem?_append] at h2;split at h2
    ·have:=h.L_ r gs k y ny h2;exact this.kept' hg (fun g jw hv2=>by obtain⟨cur,hc⟩:=bV hOv jw;exact aZ this hc δ hv2)
    ·have:y = x:=by have:=List.mem_of_getElem? h2;simpa using this
     subst this;exact azM
   ·rw[List.getElem?_set_ne nN] at h1;have:=h.L_ s hs k y h1 h2;exact this.kept' hg (fun g jw hv2=>by obtain⟨cur,hc⟩:=bV hOv jw;exact aZ this hc δ hv2)
  exact Oh.kept' aI (fun g jw hv2=>by injection jw with jw;subst jw;exact aZ Oh EH δ hv2)
 ·have old:∀(s:Nat) (hs:List dO) (k:Nat) (y:dO) (g:Nat),(rs.set r (gs++[x]))[s]? = some hs→hs[k]? = some y→y.iv.ownBlock=some g→∃hs',rs[s]? = some hs'∧hs'[k]? = some y:=fun s hs k y g h1 h2 h3=>by
   by_cases nN:r = s
   ·subst nN;rw[List.getElem?_set_self (by rw[←h.len];exact qM)] at h1;injection h1 with h1;subst h1
    rw[List.getElem?_append] at h2;split at h2
    ·exact⟨gs,ny,h2⟩
    ·have:y = x:=by have:=List.mem_of_getElem? h2;simpa using this
     subst this;rw[hid.1] at h3;cases h3
   ·rw[List.getElem?_set_ne nN] at h1;exact⟨hs,h1,h2⟩
  intro s t k j MR hs1 a b g h1 h2 h3 h4 hne hg1 hg2;obtain⟨anb,o1,o2⟩:=old s MR k a g h1 h2 hg1;obtain⟨ai8,o3,o4⟩:=old t hs1 j b g h3 h4 hg2;exact h.QW s t k j anb ai8 a b g o1 o2 o3 o4 hne hg1 hg2
theorem fD.upd (h:fD w b0 RB vs rs) {r k gb n cap:Nat} {gs:List dO} {x x':dO} (hv:vs[r]? = some (.slice (some ⟨gb,0,none⟩) n cap)) (ny:rs[r]? = some gs) (hx:gs[k]? = some x) {w1:World}
 (hO:Own w1 b0 33 1 kK x'.iv x'.ids) (hg:w.grownBy w1 x.iv.ownBlock) (hv':x'.iv.ownBlock=x.iv.ownBlock∨∃j,x'.iv.ownBlock=some j∧w.heap.size≤j) (hbv:x'.bv=x.bv∧x'.fH=x.fH) (aqm:VE x'=(VE x).set 3 x'.iv) :
 fD (w1.setCell ⟨gb,k*4+3,none⟩ x'.iv) b0 RB vs (rs.set r (gs.set k x')):=by
 have qM:r < rs.length:=(List.getElem?_eq_some_iff.1 ny).1;have IY:k<gs.length:=(List.getElem?_eq_some_iff.1 hx).1;have hOx:=h.ids r gs k x ny hx;have hOv:=h.own r _ gs hv ny;have hnl:=hOv.len hkG;obtain⟨aqZ,hcv⟩:=bV hOv (g:=gb) rfl;have hne:∀g,x.iv.ownBlock=some g→∀(α:Type) (v:Value) (e:TypeId) (kk:Nat) (enc:α→List Value) (xs:List α),Own w b0 e kk enc v xs→e≠33→v.ownBlock≠some g:=fun g hg α v e kk enc xs ho he=>by
  obtain⟨cur,hc⟩:=bV hOx hg;exact aZ ho hc he
 have EH:w1.heap[RB]? = some (.cells vs.toArray 137 (0,0)):=(hg.block RB h.lt (fun e=>aZ hOx h.row δ e.symm)).trans h.row;have abl:w1.heap[gb]? = some (.cells aqZ 125 (0,0)):=(hg.block gb (Array.getElem?_eq_some_iff.1 hcv).1 (fun e=>aZ hOx hcv δ e.symm)).trans hcv;have aI:=aj w1 ⟨gb,k*4+3,none⟩ x'.iv;have auP:gb≠RB:=fun e=>by subst e;rw[h.row] at hcv;simp only[Option.some.injEq,Obj.cells.injEq] at hcv;exact absurd hcv.2.1 δ
 refine⟨?_,by simp[h.len],?_,h.apart,?_,?_,?_⟩
 ·exact (aI.block RB (Array.getElem?_eq_some_iff.1 EH).1 (by simpa using Ne.symm auP)).trans EH
 ·intro s u hs h1 h2;by_cases nN:r = s
  ·subst nN;rw[hv] at h1;rw[List.getElem?_set_self qM] at h2;injection h1 with h1;injection h2 with h2
   subst h1 h2;have wH:MC w1 b0 (.slice (some ⟨gb,0,none⟩) n cap) gs:=hOv.kept' hg (fun g jw hv2=>hne g jw _ _ _ _ _ _ hOv δ hv2);exact wH.ahZ hkG ω ω ω (fun y hy=>by rw[hx] at hy;injection hy with hy;subst hy;exact aqm)
  ·rw[List.getElem?_set_ne nN] at h2;have h3:=h.own s u hs h1 h2;have h4:MC w1 b0 u hs:=h3.kept' hg (fun g jw hv2=>hne g jw _ _ _ _ _ _ h3 δ hv2);exact h4.kept' aI (fun g jw hv2=>by injection jw with jw;subst jw;exact h.apart r s _ u gb hv h1 nN rfl hv2)
 ·intro s hs j y h1 h2;have Oh:Own w1 b0 33 1 kK y.iv y.ids:=by
   by_cases nN:r = s
   ·subst nN;rw[List.getElem?_set_self qM] at h1;injection h1 with h1;subst h1
    by_cases hkj:k=j
    ·subst hkj;rw[List.getElem?_set_self IY] at h2;injection h2 with h2;subst h2
     exact hO
    ·rw[List.getElem?_set_ne hkj] at h2;exact (h.ids r gs j y ny h2).kept' hg (fun g jw hv2=>h.QW r r k j gs gs x y g ny hx ny h2 (.inr hkj) jw hv2)
   ·rw[List.getElem?_set_ne nN] at h1;exact (h.ids s hs j y h1 h2).kept' hg (fun g jw hv2=>h.QW r s k j gs hs x y g ny hx h1 h2 (.inl nN) jw hv2)
  exact Oh.kept' aI (fun g jw hv2=>by injection jw with jw;subst jw;exact aZ Oh abl δ hv2)
 ·intro s hs j y h1 h2;have atL:Own w b0 88 2 dW y.bv y.fH:=by
   by_cases nN:r = s
   ·subst nN;rw[List.getElem?_set_self qM] at h1;injection h1 with h1;subst h1
    by_cases hkj:k=j
    ·subst hkj;rw[List.getElem?_set_self IY] at h2;injection h2 with h2;subst h2
     rw[hbv.1,hbv.2];exact h.L_ r gs k x ny hx
    ·rw[List.getElem?_set_ne hkj] at h2;exact h.L_ r gs j y ny h2
   ·rw[List.getElem?_set_ne nN] at h1;exact h.L_ s hs j y h1 h2
  have Oh:Own w1 b0 88 2 dW y.bv y.fH:=atL.kept' hg (fun g jw hv2=>hne g jw _ _ _ _ _ _ atL δ hv2);exact Oh.kept' aI (fun g jw hv2=>by injection jw with jw;subst jw;exact aZ Oh abl δ hv2)
 ·have old:∀(s:Nat) (hs:List dO) (j:Nat) (y:dO),(rs.set r (gs.set k x'))[s]? = some hs→hs[j]? = some y→(s = r∧j = k∧y = x')∨((s≠r∨j≠k)∧∃hs',rs[s]? = some hs'∧hs'[j]? = some y):=fun s hs j y h1 h2=>by
   by_cases nN:r = s
   ·subst nN;rw[List.getElem?_set_self qM] at h1;injection h1 with h1;subst h1
    by_cases hkj:k=j
    ·subst hkj;rw[List.getElem?_set_self IY] at h2;injection h2 with h2
     exact .inl ⟨rfl,rfl,h2.symm⟩
    ·rw[List.getElem?_set_ne hkj] at h2;exact .inr ⟨.inr (Ne.symm hkj),gs,ny,h2⟩
   ·rw[List.getElem?_set_ne nN] at h1;exact .inr ⟨.inl (Ne.symm nN),hs,h1,h2⟩
  have key:∀(t:Nat) (hs:List dO) (j:Nat) (y:dO) (g:Nat),(t≠r∨j≠k)→rs[t]? = some hs→hs[j]? = some y→x'.iv.ownBlock=some g→y.iv.ownBlock=some g→False:=fun t hs j y g Q9 o1 o2 hg1 hg2=>by
   have hlt:=NU (h.ids t hs j y o1 o2) hg2;rcases hv' with hv' | ⟨q,hq,hqs⟩
   ·rw[hv'] at hg1;exact h.QW r t k j gs hs x y g ny hx o1 o2 (Q9.imp Ne.symm Ne.symm) hg1 hg2
   ·rw[hq] at hg1;injection hg1 with hg1;omega
  intro s t i j MR hs1 a b g h1 h2 h3 h4 Q9 hg1 hg2;rcases old s MR i a h1 h2 with⟨rfl,rfl,rfl⟩ | ⟨n1,anb,o1,o2⟩
  ·rcases old t hs1 j b h3 h4 with⟨rfl,rfl,rfl⟩ | ⟨n2,ai8,o3,o4⟩
   ·rcases Q9 with h5 | h5 <;> exact h5 rfl
   ·exact key t ai8 j b g n2 o3 o4 hg1 hg2
  ·rcases old t hs1 j b h3 h4 with⟨rfl,rfl,rfl⟩ | ⟨n2,ai8,o3,o4⟩
   ·exact key s anb i a g n1 o1 o2 hg2 hg1
   ·exact h.QW s t i j anb ai8 a b g o1 o2 o3 o4 Q9 hg1 hg2
end
end Go.Proofs.YtbhikkgpcmkonaaGreatDoor
