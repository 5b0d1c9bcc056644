/- Parts: ShaN KeyA KeyB AlrF AlrG IdsA IdsB IdsC CatG GrpA -/
import Derived.Test.YtbhikkgpcmkonaaGreatDoorEn0
import Derived.Test.YtbhikkgpcmkonaaGreatDoorEn6
import Derived.Test.YtbhikkgpcmkonaaGreatDoorEn5
import Derived.Test.YtbhikkgpcmkonaaGreatDoorEn4
import Derived.Test.YtbhikkgpcmkonaaGreatDoorEn8
import Derived.Test.YtbhikkgpcmkonaaGreatDoorEn3
import Derived.Laws.CopyRow
import Derived.Laws.Externs
import Derived.Lib.AppendZeros
set_option maxRecDepth 100000
set_option maxHeartbeats 12800000
namespace Go.Proofs.YtbhikkgpcmkonaaGreatDoor
open Go.RowKit
theorem akt {A:Option Addr} {m c:Nat} {bs:List Nat} (w:World) (hA:cu w 1 h_ A m bs) (hb:∀x∈bs,x < 256) (hm:m≤1099511627776) :
 Calls Tryz.prog 93 #[.slice A m c] w fun e w'=>e =.returned (.agg (sV (sha bs)))∧ah w w':=by
 have nM:=hA.1;have cN:=fun W=>Wy W
 replace cN:=ζ cN;replace hA:=ζ hA;replace hb:=ζ hb;go_enter Tryz.func93,Tryz.ntmps93
 go_wp2_with fail;refine tY (Pr:=fun W=>Calls _ _ _ W _) (fun w1 pW gu=> ?_);replace pW:aF w1 w.heap.size 201 (sV (List.replicate 32 0)):=pW.cast κ;obtain⟨g2,hg2⟩:∃g2,g2=w.heap.size:=⟨_,rfl⟩;rw[←hg2] at pW ⊢;replace hg2:=ζ hg2;refine (cN.out _).mono ?_;rintro e w2 ⟨g,rfl,kU,hS,fG⟩;have hG:=gu.trans fG;have aoZ:=pW.lt;have hwg:w.heap.size≤g:=Nat.le_trans gu.size kU;have hAp:fO w2 g A m bs:=by
  refine⟨hA.o.keep hG,fun ad e hn=> ?_⟩;obtain⟨b,off,e2,hlt,_⟩:=hA.o.2 hn;rw[e] at e2;cases e2
  simp only;omega
 have cAdd:=Ze (W0:=w1) (v:=mM) (xs:=[]) (ys:=bs) (c:=c) N_ w2 fG kU hS (Own.jA _ _ _ _ _) hAp hb.o (by simpa using hm) ω ω;simp only[List.nil_append] at cAdd;replace cAdd:=ζ cAdd;replace pW:=ζ pW;replace gu:=ζ gu;clear hS fG hG hAp kU hA;go_wp2_with fail;refine (cAdd.out).mono ?_;rintro e w3 ⟨n,A3,c3,rfl,hn1,Vb,ND,Rz,-,-,qW⟩;clear cAdd;have aO:=Zz (l:=bs) (r:=bs.drop (64*n)) (m:=n) (by rw[List.length_drop];omega) rfl;have oC:(bs.drop (64*n)).length=bs.length-64*n:=List.length_drop;rw[←oC] at ND Rz;rw[show (0:Int)+(m:Int)=((m:Nat):Int) by omega] at ND;have NS:=ahg (N:=m) (Pg n bs N_) w3 ND Rz.1 (fun x hx=>hb.o x (List.mem_of_mem_drop hx)) (by rw[oC];omega) hm;rw[←nM,←aO] at NS;have hD:zi (akl bs)=sha bs:=rfl;rw[hD] at NS;have hDl:(sha bs).length=32:=AZ _;generalize hDD:sha bs=D at *
 replace hDD:=ζ hDD;have QN:=pW.o.grows qW;have AV:=gu.o.trans qW;have ahI:w.heap.size≤g2:=Nat.le_of_eq hg2.o.symm;have hsz:(sV D).size=32:=by rw[uT];exact hDl
 have NK:(Tryz.prog.info? 201).map (·.size)=some (sV D).size:=by rw[hsz];kernel_rfl
 have hold:(sV (List.replicate 32 0)).size=(sV D).size:=by rw[hsz,uT];rfl
 have h1:=Pz D;replace NS:=ζ NS;replace NK:=ζ NK;replace hold:=ζ hold;replace h1:=ζ h1;replace QN:=ζ QN;replace AV:=ζ AV;clear ND Rz aO oC hD hDl hsz pW gu hn1 Vb qW;go_wp2_with fail;refine (NS.out).mono ?_;rintro e w4 ⟨rfl,oV⟩;replace QN:=ζ (QN.o.grows oV);have hGf:=(AV.o.trans oV).nI (j_ w4 g2 (sV D)) ahI;have hRf:=setRow_heap w4 g2 _ (sV D) _ _ QN.o;replace hGf:=ζ hGf;replace hRf:=ζ hRf;clear oV AV NS;go_wp2_with (refine wpList_store_row rfl 201 (.tmp 2) (.tmp 9) rfl g2 (sV D) rfl rfl 201 _ QN.o NK.o hold.o h1.o ?_);rw[hDD.o];exact bodyPost_ret (v:=.agg (sV D)) (results_cell_row (p:=2) (ty:=201) κ _ _ g2 201 (sV D) (0,0) _ rfl hRf.o Tryz.underlying201 rfl NK.o) rfl ⟨rfl,hGf.o⟩
theorem Ob {A:Option Addr} {m c:Nat} {bs:List Nat} (w:World) (hA:cu w 1 h_ A m bs) (hb:∀x∈bs,x < 256) (hm:m≤1099511627776) :
 Calls Tryz.prog 50 #[.slice A m c] w fun e w'=>e =.returned (.int .u64 ((iW (sha bs) 8:Nat):Int))∧ah w w':=by
 refine ac_ w (akt w hA hb hm) (AZ _) (fun x hx=> ?_);unfold sha zi at hx;simp only[List.mem_flatMap] at hx;obtain⟨y,_,hy⟩:=hx;simp only[List.mem_cons,List.not_mem_nil,or_false] at hy;rcases hy with rfl | rfl | rfl | rfl <;> exact Nat.mod_lt _ δ
def fF (R:List UInt8) (a:Int) (fs:List bK):List Nat:=mP R++[0,(a % 256).toNat]++mP (fs.flatMap oh)
theorem Tc (R:List UInt8) (a:Int):fF R a []=mP R++[0,(a % 256).toNat]:=by simp[fF,mP]
theorem Qm (R:List UInt8) (a:Int) (fs:List bK) (f:bK):fF R a (fs++[f])=(((fF R a fs++mP f.n)++[61])++mP f.v)++[0]:=by
 simp[fF,oh,mP]
theorem WY (R:List UInt8) (a:Int) (fs:List bK):∀x∈fF R a fs,x < 256:=by
 intro x hx;unfold fF at hx;simp only[List.mem_append,List.mem_cons,List.not_mem_nil,or_false] at hx;rcases hx with (h | rfl | rfl) | h
 ·exact IX _ x h
 ·omega
 ·have:=Int.emod_lt_of_pos a (show (0:Int)<256 by decide);have:=Int.emod_nonneg a (show (256:Int)≠0 by decide);omega
 ·exact IX _ x h
theorem yL (R:List UInt8) (a:Int) (fs:List bK) (h:∀f∈fs,f.n.length+f.v.length≤1000):(fF R a fs).length≤R.length+2+1002*fs.length:=by
 have h2:(fs.flatMap oh).length≤1002*fs.length:=by
  induction fs with
  | nil=>simp
  | cons f fs ih=>
   have h1:=h f σ;have h3:=ih (fun g hg=>h g (by simp[hg]));simp only[List.flatMap_cons,List.length_append,List.length_cons];have:(oh f).length=f.n.length+f.v.length+2:=by simp[oh];omega
   omega
 simp only[fF,List.length_append,adD,List.length_cons,List.length_nil];omega
theorem cu.adB {α:Type} {w:World} {g:Nat} {t:TypeId} {enc:α→List Value} {e1:α→Value} (he:∀x,enc x = [e1 x]) {bs:List α} (h:aF w g t (bs.map e1).toArray):cu w 1 enc (some ⟨g,0,none⟩) bs.length bs:=by
 refine⟨rfl,fun _=>⟨g,0,rfl,h.lt,fun i hi j u hu=> ?_⟩⟩;rw[he] at hu;have hj:j = 0:=by have:=(List.getElem?_eq_some_iff.1 hu).1;simp at this;omega
 subst hj;rw[h.cell];simp only[List.getElem?_cons_zero,Option.some.injEq] at hu;simp[hi,←hu]
theorem UG {R:List UInt8} {a:Int} {A:Option Addr} {m c:Nat} {fs:List bK} (w:World) (hA:cu w 2 eu A m fs) (hR:R.length≤1000) (hm:m≤100) (hf:∀f∈fs,f.n.length+f.v.length≤1000) :
 Calls Tryz.prog 138 #[.string ⟨R.toArray⟩,.int .i64 a,.slice A m c] w fun e w'=>∃v,e =.returned v∧iy w' w.heap.size v (fF R a fs)∧ah w w':=by
 have nM:=hA.1;have Ey:=fun k=>yL R a (fs.take k) (fun f h=>hf f (List.mem_of_mem_take h))
 have hkb:∀k,(fF R a (fs.take k)).length≤200000:=fun k=>by
  have h1:=Ey k;have h2:(fs.take k).length≤100:=by rw[List.length_take];omega
  omega
 have hb0:=Int.emod_nonneg a (show (256:Int)≠0 by decide);have ha:a % 256=(((a % 256).toNat:Nat):Int):=ω;generalize hB:(a % 256).toNat=B at ha;replace hB:=ζ hB;replace hA:=ζ hA;replace hf:=ζ hf;replace hkb:=ζ hkb;clear Ey hb0;go_enter Tryz.func138,Tryz.ntmps138
 go_wp2_with (first | (refine lU rfl (.tmp 10) rfl rfl (by rw[bsize];omega) ?_;intro v1 w1 tq gu;(replace tq:=ζ tq);(replace gu:=ζ gu)) | (at_builtin;(refine yj rfl (.tmp 11) (.tmp 14) rfl rfl rfl (tq.o.alloc (.cells #[.int .u8 ((0:Nat):Int),.int .u8 (B:Int)] 5)) (cu.al2 (aF.new w1 5 _)) (gu.o.alloc (.cells #[.int .u8 ((0:Nat):Int),.int .u8 (B:Int)] 5)).size (by rw[kH,bsize];omega) ?_;intro v2 w2 l9 jX;(have fG:=ζ ((gu.o.alloc (.cells #[.int .u8 ((0:Nat):Int),.int .u8 (B:Int)] 5)).aP jX tq.o.fH));(replace l9:=ζ l9);clear jX)));have hO0:Hid (iy w2 w.heap.size v2 (fF R a (fs.take 0))):=by
  rw[List.take_zero,Tc,hB.o];exact l9
 clear tq gu l9;go_loopw [7,18] (fun b i wr=>∃k:Nat,k≤m∧i =.int .i64 k∧Hid (iy wr w.heap.size b (fF R a (fs.take k)))∧Hid (ah w wr)) (fun _ i _=>m - (intOf i).toNat)
 case atStart=>exact⟨0,ω,rfl,hO0,fG⟩
 case round=>
  clear hO0 fG;obtain⟨k,hk,rfl,hO,hG⟩:=hrel;by_cases yR:k<m
  ·obtain⟨bb,off,f,rfl,GK,hx,hcell⟩:=(hA.o.keep hG.o).at_ yR;have c0:wr.cell? ⟨bb,off+k*2,none⟩=some (.string ⟨f.n.toArray⟩):=by simpa using hcell 0 _ rfl
   have c1:wr.cell? ⟨bb,off+k*2+1,none⟩=some (.string ⟨f.v.toArray⟩):=by simpa using hcell 1 _ rfl
   have zG:=hf.o f (List.mem_of_getElem? hx);have Du:=hkb.o k;have atv:=hkb.o (k+1);have uJ:fs.take (k+1)=fs.take k++[f]:=by rw[List.take_add_one,hx];rfl
   have nP:=Qm R a (fs.take k) f;rw[←uJ] at nP;have lK:(k:Int)<(m:Int):=ω;obtain⟨A0,c0',hv0,hn0,yh,QT⟩:=hO.o.arr;generalize hN0:(fF R a (fs.take k)).length=N0 at *
   subst hv0;replace nP:=ζ nP;replace QT:=ζ QT;clear hcell hx uJ;go_wp2_with (first | (refine lU rfl (.tmp 24) rfl rfl (by rw[bsize];omega) ?_;intro v3 w3 iM qW;(obtain⟨A3,c3,hv3,_,_,hA3⟩:=iM.arr);(rw[kH,bsize] at hv3 hA3);subst hv3;(replace hA3:=ζ hA3);(have b9:=(aF.new wr 88 #[.string ⟨f.n.toArray⟩,.string ⟨f.v.toArray⟩]).grows qW);(have d1:w3.cell? ⟨wr.heap.size,1,none⟩=some (.string ⟨f.v.toArray⟩):=b9.cell 1);(have z1:=b9.lt);(replace qW:=ζ qW);clear iM b9) | (refine lU rfl (.tmp 28) rfl rfl (by rw[bsize];omega) ?_;intro v5 w5 mY oV;(obtain⟨A5,c5,hv5,_,_,hA5⟩:=mY.arr);(rw[kH,bsize] at hv5 hA5);subst hv5;(replace hA5:=ζ hA5);(replace oV:=ζ oV);clear mY));have g3:ah wr w3:=((ah.refl wr).alloc _).trans qW.o;have g5:ah w3 w5:=((ah.refl w3).alloc _).trans oV.o;have gW:ah w5 ((w5.alloc (.cells #[.int .u8 0] 5)).alloc (.cells #[.slice A0 N0 c0',.slice A3 f.n.length c3,.slice (some ⟨w3.heap.size,0,none⟩) 1 1,.slice A5 f.v.length c5,.slice (some ⟨w5.heap.size,0,none⟩) 1 1] 112)):=((ah.refl w5).alloc _).alloc _;have hct:tC [⟨A0,N0,c0',fF R a (fs.take k)⟩,⟨A3,f.n.length,c3,tX ⟨f.n.toArray⟩⟩,⟨some ⟨w3.heap.size,0,none⟩,1,1,[61]⟩,⟨A5,f.v.length,c5,tX ⟨f.v.toArray⟩⟩,⟨some ⟨w5.heap.size,0,none⟩,1,1,[0]⟩]=fF R a (fs.take (k+1)):=by
    rw[nP.o,wJ,wJ];simp[tC]
   have h61:cu w5 1 h_ (some ⟨w3.heap.size,0,none⟩) 1 [61]:=(cu.mO (x:=61) (aF.new w3 5 #[.int .u8 ((61:Nat):Int)])).keep oV.o;have OO:cu (w5.alloc (.cells #[.int .u8 0] 5)) 1 h_ (some ⟨w5.heap.size,0,none⟩) 1 [0]:=cu.mO (x:=0) (aF.new w5 5 #[.int .u8 ((0:Nat):Int)]);refine (G9 (L:=5) (c:=5) (A:=some ⟨w5.heap.size+1,0,none⟩) (bs:=[⟨A0,N0,c0',fF R a (fs.take k)⟩,⟨A3,f.n.length,c3,tX ⟨f.n.toArray⟩⟩,⟨some ⟨w3.heap.size,0,none⟩,1,1,[61]⟩,⟨A5,f.v.length,c5,tX ⟨f.v.toArray⟩⟩,⟨some ⟨w5.heap.size,0,none⟩,1,1,[0]⟩]) _ (cu.adB (e1:=fun (b:Bsl)=>Value.slice b.A b.n b.c) (fun _=>rfl) (aF.ou w5 _ _ _)) ?_ (by rw[hct];omega) ω).mono ?_
   ·intro b hb;simp only[List.mem_cons,List.not_mem_nil,or_false] at hb;rcases hb with rfl | rfl | rfl | rfl | rfl
    ·exact QT.o.keep (g3.trans (g5.trans gW))
    ·exact hA3.o.keep (g5.trans gW)
    ·exact h61.keep gW
    ·exact hA5.o.keep gW
    ·exact OO.keep ((ah.refl _).alloc _)
   rintro e w8 ⟨v8,rfl,Vg,hG8⟩;rw[hct] at Vg;have Ua:=hG.o.trans (g3.trans (g5.trans (gW.trans hG8)));have hO9:=ζ (Vg.bH (base':=w.heap.size) (hG.o.trans (g3.trans (g5.trans gW))).size);replace Ua:=ζ Ua;clear Vg hG8 h61 OO gW g5 g3 hct;go_wp2;go_roundw
   case rel=>exact⟨k+1,ω,ν,hO9,Ua⟩
   case measure=>exact ψ
  ·obtain rfl:k=m:=ω;have vT:=hO.o;rw[List.take_of_length_le ω] at vT;go_wp2;go_ret;exact⟨_,rfl,vT,hG.o⟩
theorem YC {R:List UInt8} {a:Int} {A:Option Addr} {m c:Nat} {fs:List bK} (w:World) (hA:cu w 2 eu A m fs) (hR:R.length≤1000) (hm:m≤100) (hf:∀f∈fs,f.n.length+f.v.length≤1000) :
 Calls Tryz.prog 88 #[.string ⟨R.toArray⟩,.int .i64 a,.slice A m c] w fun e w'=>e =.returned (.int .u64 ((iW (sha (fF R a fs)) 8:Nat):Int))∧ah w w':=by
 have Ey:=yL R a fs hf;have nM:=hA.1;have cB:=UG (c:=c) (a:=a) w hA hR hm hf;replace cB:=ζ cB;replace hf:=ζ hf;replace Ey:=ζ Ey;go_enter Tryz.func88,Tryz.ntmps88
 go_wp2_with fail;refine (cB.out).mono ?_;rintro e w1 ⟨v,rfl,hO,hG⟩;obtain⟨A1,c1,rfl,_,_,Vl⟩:=hO.arr;have cS:=Ob (c:=c1) w1 Vl (WY R a fs) (by have:=Ey.o;omega);generalize hD:iW (sha (fF R a fs)) 8=D at *
 replace hD:=ζ hD;replace cS:=ζ cS;replace hG:=ζ hG;clear hO Vl;go_wp2_with fail;refine (cS.out).mono ?_;rintro e w2 ⟨rfl,fG⟩;go_wp2;go_ret;rw[hD.o];exact⟨rfl,hG.o.trans fG⟩
def jJ (R:List UInt8) (fs:List bK):List Nat:=mP R++[0]++mP (fs.flatMap oh)
def yg (a:jq):Nat:=iW (sha (jJ a.src a.fs)) 8
theorem Xb (R:List UInt8):jJ R []=mP R++[0]:=by simp[jJ,mP]
theorem Tm (R:List UInt8) (fs:List bK) (f:bK):jJ R (fs++[f])=(((jJ R fs++mP f.n)++[61])++mP f.v)++[0]:=by
 simp[jJ,oh,mP]
theorem aaA (R:List UInt8) (fs:List bK):∀x∈jJ R fs,x < 256:=by
 intro x hx;unfold jJ at hx;simp only[List.mem_append,List.mem_cons,List.not_mem_nil,or_false] at hx;rcases hx with (h | rfl) | h
 ·exact IX _ x h
 ·omega
 ·exact IX _ x h
theorem Xc (R:List UInt8) (fs:List bK) (h:∀f∈fs,f.n.length+f.v.length≤1000):(jJ R fs).length≤R.length+2+1002*fs.length:=by
 have:=yL R 0 fs h;simp only[fF,jJ,List.length_append,List.length_cons,List.length_nil] at this ⊢;omega
theorem Qo {a:dH} (w:World) (hA:cu w 2 eu a.A a.m a.a.fs) (hR:a.a.src.length≤1000) (hm:a.m≤100) (hf:∀f∈a.a.fs,f.n.length+f.v.length≤1000) :
 Calls Tryz.prog 16 #[iT a] w fun e w'=>e =.returned (.int .u64 ((yg a.a:Nat):Int))∧ah w w':=by
 unfold iT yg;obtain⟨⟨R,fs,⟨lv,lc⟩,f0,t0⟩,A,m,c⟩:=a;simp only at hA hR hm hf ⊢;have nM:=hA.1;have Ey:=fun k=>Xc R (fs.take k) (fun f h=>hf f (List.mem_of_mem_take h))
 have hkb:∀k,(jJ R (fs.take k)).length≤200000:=fun k=>by
  have h1:=Ey k;have h2:(fs.take k).length≤100:=by rw[List.length_take];omega
  omega
 replace hA:=ζ hA;replace hf:=ζ hf;replace hkb:=ζ hkb;clear Ey;generalize hD:iW (sha (jJ R fs)) 8=D;replace hD:=ζ hD;go_enter Tryz.func16,Tryz.ntmps16
 go_wp2_with (first | (refine lU rfl (.tmp 7) rfl rfl (by rw[bsize];omega) ?_;intro v1 w1 tq gu;(replace tq:=ζ tq);(replace gu:=ζ gu)) | (at_builtin;(refine yj rfl (.tmp 8) (.tmp 9) rfl rfl rfl (tq.o.alloc (.cells #[.int .u8 ((0:Nat):Int)] 5)) (cu.mO (x:=0) (aF.new w1 5 _)) (gu.o.alloc (.cells #[.int .u8 ((0:Nat):Int)] 5)).size (by rw[kH,bsize];omega) ?_;intro v2 w2 l9 jX;(have fG:=ζ ((gu.o.alloc (.cells #[.int .u8 ((0:Nat):Int)] 5)).aP jX tq.o.fH));(replace l9:=ζ l9);(have bx:=(aF.new w 57 #[.string ⟨R.toArray⟩,.slice A m c,.int .i64 lv,.int .u32 (lc:Int),.int .i64 f0,.int .i64 t0]).grows fG.o);(have x1:w2.cell? ⟨w.heap.size,1,none⟩=some (.slice A m c):=bx.cell 1);(have xl:=bx.lt);clear jX bx)));have hO0:Hid (iy w2 w.heap.size v2 (jJ R (fs.take 0))):=by
  rw[List.take_zero,Xb];exact l9.o.bH σ
 replace fG:=ζ ((ah.refl w).alloc _ |>.trans fG.o);clear tq gu l9;go_loopw [3,5,14] (fun b _ i wr=>∃k:Nat,k≤m∧i =.int .i64 k∧Hid (iy wr w.heap.size b (jJ R (fs.take k)))∧Hid (ah w wr)) (fun _ _ i _=>m - (intOf i).toNat)
 case atStart=>exact⟨0,ω,rfl,hO0,fG⟩
 case round=>
  clear hO0 fG x1 xl;obtain⟨k,hk,rfl,hO,hG⟩:=hrel;by_cases yR:k<m
  ·obtain⟨bb,off,f,rfl,GK,hx,hcell⟩:=(hA.o.keep hG.o).at_ yR;have c0:wr.cell? ⟨bb,off+k*2,none⟩=some (.string ⟨f.n.toArray⟩):=by simpa using hcell 0 _ rfl
   have c1:wr.cell? ⟨bb,off+k*2+1,none⟩=some (.string ⟨f.v.toArray⟩):=by simpa using hcell 1 _ rfl
   have zG:=hf.o f (List.mem_of_getElem? hx);have Du:=hkb.o k;have atv:=hkb.o (k+1);have uJ:fs.take (k+1)=fs.take k++[f]:=by rw[List.take_add_one,hx];rfl
   have nP:=Tm R (fs.take k) f;rw[←uJ] at nP;have lK:(k:Int)<(m:Int):=ω;obtain⟨A0,c0',hv0,hn0,yh,QT⟩:=hO.o.arr;generalize hN0:(jJ R (fs.take k)).length=N0 at *
   subst hv0;replace nP:=ζ nP;replace QT:=ζ QT;clear hcell hx uJ;go_wp2_with (first | (refine lU rfl (.tmp 20) rfl rfl (by rw[bsize];omega) ?_;intro v3 w3 iM qW;(obtain⟨A3,c3,hv3,_,_,hA3⟩:=iM.arr);(rw[kH,bsize] at hv3 hA3);subst hv3;(replace hA3:=ζ hA3);(have b9:=(aF.new wr 88 #[.string ⟨f.n.toArray⟩,.string ⟨f.v.toArray⟩]).grows qW);(have d1:w3.cell? ⟨wr.heap.size,1,none⟩=some (.string ⟨f.v.toArray⟩):=b9.cell 1);(have z1:=b9.lt);(replace qW:=ζ qW);clear iM b9) | (refine lU rfl (.tmp 24) rfl rfl (by rw[bsize];omega) ?_;intro v5 w5 mY oV;(obtain⟨A5,c5,hv5,_,_,hA5⟩:=mY.arr);(rw[kH,bsize] at hv5 hA5);subst hv5;(replace hA5:=ζ hA5);(replace oV:=ζ oV);clear mY));have g3:ah wr w3:=((ah.refl wr).alloc _).trans qW.o;have g5:ah w3 w5:=((ah.refl w3).alloc _).trans oV.o;have gW:ah w5 ((w5.alloc (.cells #[.int .u8 0] 5)).alloc (.cells #[.slice A0 N0 c0',.slice A3 f.n.length c3,.slice (some ⟨w3.heap.size,0,none⟩) 1 1,.slice A5 f.v.length c5,.slice (some ⟨w5.heap.size,0,none⟩) 1 1] 112)):=((ah.refl w5).alloc _).alloc _;have hct:tC [⟨A0,N0,c0',jJ R (fs.take k)⟩,⟨A3,f.n.length,c3,tX ⟨f.n.toArray⟩⟩,⟨some ⟨w3.heap.size,0,none⟩,1,1,[61]⟩,⟨A5,f.v.length,c5,tX ⟨f.v.toArray⟩⟩,⟨some ⟨w5.heap.size,0,none⟩,1,1,[0]⟩]=jJ R (fs.take (k+1)):=by
    rw[nP.o,wJ,wJ];simp[tC]
   have h61:cu w5 1 h_ (some ⟨w3.heap.size,0,none⟩) 1 [61]:=(cu.mO (x:=61) (aF.new w3 5 #[.int .u8 ((61:Nat):Int)])).keep oV.o;have OO:cu (w5.alloc (.cells #[.int .u8 0] 5)) 1 h_ (some ⟨w5.heap.size,0,none⟩) 1 [0]:=cu.mO (x:=0) (aF.new w5 5 #[.int .u8 ((0:Nat):Int)]);refine (G9 (L:=5) (c:=5) (A:=some ⟨w5.heap.size+1,0,none⟩) (bs:=[⟨A0,N0,c0',jJ R (fs.take k)⟩,⟨A3,f.n.length,c3,tX ⟨f.n.toArray⟩⟩,⟨some ⟨w3.heap.size,0,none⟩,1,1,[61]⟩,⟨A5,f.v.length,c5,tX ⟨f.v.toArray⟩⟩,⟨some ⟨w5.heap.size,0,none⟩,1,1,[0]⟩]) _ (cu.adB (e1:=fun (b:Bsl)=>Value.slice b.A b.n b.c) (fun _=>rfl) (aF.ou w5 _ _ _)) ?_ (by rw[hct];omega) ω).mono ?_
   ·intro b hb;simp only[List.mem_cons,List.not_mem_nil,or_false] at hb;rcases hb with rfl | rfl | rfl | rfl | rfl
    ·exact QT.o.keep (g3.trans (g5.trans gW))
    ·exact hA3.o.keep (g5.trans gW)
    ·exact h61.keep gW
    ·exact hA5.o.keep gW
    ·exact OO.keep ((ah.refl _).alloc _)
   rintro e w8 ⟨v8,rfl,Vg,hG8⟩;rw[hct] at Vg;have Ua:=hG.o.trans (g3.trans (g5.trans (gW.trans hG8)));have hO9:=ζ (Vg.bH (base':=w.heap.size) (hG.o.trans (g3.trans (g5.trans gW))).size);replace Ua:=ζ Ua;clear Vg hG8 h61 OO gW g5 g3 hct;go_wp2;go_roundw
   case rel=>exact⟨k+1,ω,ν,hO9,Ua⟩
   case measure=>exact ψ
  ·obtain rfl:k=m:=ω;have vT:=hO.o;rw[List.take_of_length_le ω] at vT;obtain⟨A1,c1,hv1,_,_,Vl⟩:=vT.arr;subst hv1;have cS:=Ob (c:=c1) wr Vl (aaA R fs) (by have:=hkb.o fs.length;rw[List.take_length] at this;omega);rw[hD.o] at cS;replace cS:=ζ cS;clear vT hO Vl hkb;go_wp2_with fail;refine (cS.out).mono ?_;rintro e w2 ⟨rfl,fG⟩;go_wp2;go_ret;exact⟨rfl,hG.o.trans fG⟩
theorem Yz (x:List UInt8):∀l:List (List UInt8),(l.any fun y=>x ==y)=decide (x∈l)
 | []=>by simp
 | y ::r=>by
  rw[List.any_cons,Yz x r];by_cases h:x = y
  ·simp[h]
  ·simp[h]
theorem Z5 {f:bK} {g:Nat} {A:Option Addr} {m c:Nat} {names:List (List UInt8)} (w:World) (hc:w.cell? ⟨g,0,none⟩=some (.slice A m c)) (hA:cu w 1 encS A m names) (hm:m≤9223372036854775807) :
 Calls Tryz.prog 136 #[Df f,.pointer (some ⟨g,0,none⟩)] w fun e w'=>e =.returned (.bool (!decide (f.n∈names)))∧ah w w':=by
 have cC:=fun W (hW:ah w W)=>aeE (c:=c) (v:=f.n) W (hA.keep hW) hm
 rw[Yz] at cC;have hg:=World.block_lt_of_cell? w _ hc;simp only at hg;generalize decide (f.n∈names)=B at *
 unfold Df;replace cC:=ζ cC;clear hA;go_enter Tryz.func136,Tryz.ntmps136
 go_wp2_with fail;refine (cC.out _ γ).mono ?_;rintro e w1 ⟨rfl,hb⟩;have hG:ah w w1:=((ah.refl w).alloc _).trans hb;go_wp2;go_ret;exact⟨aN rfl,hG⟩
theorem adw {A:Option Addr} {m c:Nat} {fs:List bK} {A2:Option Addr} {m2 c2:Nat} {names:List (List UInt8)} (w:World) (hA:cu w 2 eu A m fs) (hm:m≤1000) (hN:cu w 1 encS A2 m2 names) (Vd:m2≤9223372036854775807) :
 Calls Tryz.prog 86 #[.slice A m c,.slice A2 m2 c2] w fun e w'=>∃v,e =.returned v∧Own w' w.heap.size 88 2 eu v (g_ fs names)∧ah w w':=by
 have hlen:=hA.1;obtain⟨w3,hw3⟩:∃w3,w3=(w.alloc (.cells #[.slice A2 m2 c2] 43)):=⟨_,rfl⟩;have hg3:ah w w3:=by rw[hw3];exact (ah.refl w).alloc _
 have bp:aF w3 w.heap.size 43 #[.slice A2 m2 c2]:=by rw[hw3];exact aF.new w _ _
 have cC:=KC (c:=c) w3 (hA.keep hg3) ω;have cD:=fun v w4 (hg:ah w3 w4) (hO:Own w4 w3.heap.size 88 2 eu v fs)=>Ut 136 #[.pointer (some ⟨w.heap.size,0,none⟩)] (enters_of Tryz.func136 κ rfl)
  (fun f=> !decide (f.n∈names)) w3.heap.size v fs w4 hO hg.size ω (fun f _ W hW=>Z5 W ((bp.grows (hg.eP hW)).cell 0) (hN.keep (hg3.trans (hg.eP hW))) Vd)
 have aew:=OY (fun f:bK=>decide (f.n∈names)) fs;rw[aew] at cD;change Calls _ _ _ _ fun e w'=>∃v,e =.returned v∧Own w' w.heap.size 88 2 eu v (fs.filter fun f=>decide (f.n∈names))∧ah w w'
 generalize (fs.filter fun f=>decide (f.n∈names))=R at *
 rw[hw3] at cC;have hb3:w.heap.size≤w3.heap.size:=hg3.size;replace cC:=ζ cC;replace cD:=ζ cD;replace hw3:=ζ hw3;replace hg3:=ζ hg3;clear bp hA aew hN;go_enter Tryz.func86,Tryz.ntmps86
 go_wp2_with fail;refine (cC.out).mono ?_;rintro e w4 ⟨v4,rfl,kF,hg4⟩;rw[←hw3.o] at kF hg4;have cD':=ζ (cD.out v4 w4 hg4 kF);clear cD cC;go_wp2_with fail;refine (cD'.out).mono ?_;rintro e w5 ⟨v5,rfl,mY,iU⟩;go_wp2;go_ret;exact⟨v5,rfl,mY.bH hb3,hg3.o.trans (hg4.eP iU)⟩
def uw (f:bK):List UInt8:=0::(f.n ++61::(Lib.decDigits f.v.length++58::f.v))
def cZ (r:Nat) (fs:List bK):List UInt8:=Lib.decDigits r ++fs.flatMap uw
theorem Jl (r:Nat):cZ r []=Lib.decDigits r:=by simp[cZ]
theorem Gt (r:Nat) (fs:List bK) (f:bK):cZ r (fs++[f])=cZ r fs++uw f:=by simp[cZ]
theorem w_ {n:Nat} (h:n < 10000):(Lib.decDigits n).length≤4:=zW 3 n ω
theorem Vr {f:bK} (h:f.n.length+f.v.length≤1000):(uw f).length≤1007:=by
 have:=w_ (n:=f.v.length) ω;simp only[uw,List.length_cons,List.length_append];omega
theorem vX {r:Nat} (hr:r < 10000):∀(fs:List bK),(∀f∈fs,f.n.length+f.v.length≤1000)→(cZ r fs).length≤4+1007*fs.length:=by
 intro fs h;have h1:=w_ hr;have h2:(fs.flatMap uw).length≤1007*fs.length:=by
  induction fs with
  | nil=>simp
  | cons f r ih=>
   have h3:=Vr (h f σ);have h4:=ih (fun g hg=>h g (by simp[hg]));simp only[List.flatMap_cons,List.length_append,List.length_cons];omega
 simp only[cZ,List.length_append];omega
theorem Zl {r:Nat} {A:Option Addr} {m c:Nat} {fs:List bK} (w:World) (he:lT w) (hr:r < 10000) (hA:cu w 2 eu A m fs) (hm:m≤100) (hf:∀f∈fs,f.n.length+f.v.length≤1000) :
 Calls Tryz.prog 87 #[.int .i64 r,.slice A m c] w fun e w'=>e =.returned (.string ⟨(cZ r fs).toArray⟩)∧ah w w':=by
 have nM:=hA.1;have cI:∀n:Nat,n≤100000→∀W,ah w W→Calls Tryz.prog 77 #[.int .i64 n] W fun e w'=>e =.returned (.string ⟨(Lib.decDigits n).toArray⟩)∧ah W w':=fun n h1 W hW=>by
  have:=Tf (n:Int) ω ω W (he.grows hW);rwa [Td (n:Int) ω,Int.toNat_natCast] at this
 have cR:=cI r ω;have hkb:∀k,(cZ r (fs.take k)).length≤200000:=fun k=>by
  have h1:=vX hr (fs.take k) (fun f h=>hf f (List.mem_of_mem_take h));have h2:(fs.take k).length≤100:=by rw[List.length_take];omega
  omega
 have OO:=Jl r;generalize Lib.decDigits r = dr at *
 replace cI:=ζ cI;replace cR:=ζ cR;replace hA:=ζ hA;replace hf:=ζ hf;replace hkb:=ζ hkb;replace OO:=ζ OO;clear he;go_enter Tryz.func87,Tryz.ntmps87
 go_wp2_with fail;refine (cR.out _ (ah.refl _)).mono ?_;rintro e w1 ⟨rfl,hb1⟩;replace hb1:=ζ hb1;go_wp2;go_loopw [5,7,12] (fun s _ i wr=>∃(k:Nat) (S:List UInt8),k≤m∧i =.int .i64 k∧s =.string ⟨S.toArray⟩∧Hid (S=cZ r (fs.take k))∧Hid (ah w wr)) (fun _ _ i _=>m - (intOf i).toNat)
 case atStart=>exact⟨0,dr,ω,rfl,rfl,(OO.o.symm:dr=cZ r (fs.take 0)),hb1⟩
 case round=>
  obtain⟨k,S,hk,rfl,rfl,hS,hG⟩:=hrel;by_cases yR:k<m
  ·obtain⟨bb,off,f,rfl,GK,hx,hcell⟩:=(hA.o.keep hG.o).at_ yR;have c0:wr.cell? ⟨bb,off+k*2,none⟩=some (.string ⟨f.n.toArray⟩):=by simpa using hcell 0 _ rfl
   have c1:wr.cell? ⟨bb,off+k*2+1,none⟩=some (.string ⟨f.v.toArray⟩):=by simpa using hcell 1 _ rfl
   have zG:=hf.o f (List.mem_of_getElem? hx);have lK:(k:Int)<(m:Int):=ω;have Du:=hkb.o k;rw[←hS.o] at Du;have cL:=cI.out f.v.length ω;have uJ:fs.take (k+1)=fs.take k++[f]:=by rw[List.take_add_one,hx];rfl
   have nP:S++uw f = cZ r (fs.take (k+1)):=by rw[uJ,Gt,hS.o]
   have hdl:=w_ (n:=f.v.length) ω;unfold uw at nP;generalize Lib.decDigits f.v.length=dv at *
   replace cL:=ζ cL;replace nP:=ζ nP;have I8:Hid (ah w (wr.alloc (.cells #[.string ⟨f.n.toArray⟩,.string ⟨f.v.toArray⟩] 88))):=ζ (hG.o.alloc _);clear hcell hx uJ hS;go_wp2_with fail;refine aH κ ?_;refine rK (.range 16) 0 ?_;iterate 8 refine aC ?_
   refine bQ (.string ⟨dv.toArray⟩) rfl χ (fun wq fU=> ?_) ?_
   ·obtain⟨rC,qE⟩:=dM fU;go_simp;exact Calls.mono (cL.out wq (I8.o.trans fU)) (fun e w'' h=>h)
   go_simp;iterate 7 refine aC ?_
   refine aB ?_;refine aJ κ (fun wN hN hS=> ?_);go_wp2;go_roundw
   case rel=>exact⟨k+1,S++0::(f.n ++61::(dv++58::f.v)),ω,ν,congrArg Value.string (ByteArray.ext σ),nP,I8.o.trans hN⟩
   case measure=>exact ψ
  ·obtain rfl:k=m:=ω;have aO:S=cZ r fs:=by rw[hS.o,List.take_of_length_le ω]
   replace aO:=ζ aO;clear hS;go_wp2;go_ret;exact⟨by rw[aO.o];rfl,hG.o⟩
def jC (n:Nat):List Value:=[.int .u64 (n:Int)]
theorem KZ (n:Nat):(jC n).length=1:=rfl
theorem aks (n:Nat):∀u∈jC n,u.oneCell'=true:=by intro u hu;simp[jC] at hu;subst hu;rfl
theorem af0:eX Tryz.prog 123 33 1 8:=eX.mk' (z:=.int .u64 0) Tryz.underlying123 κ rfl ω
def og (l:List Nat) (t:Nat):Nat:=(l.takeWhile fun x=>decide (x < t)).length
def iL (l:List Nat):Prop:=l.Pairwise (· < ·)
theorem Dp (l:List Nat) (t:Nat):og l t≤l.length:=by
 unfold og;exact (List.takeWhile_sublist _).length_le
theorem Yv {t:Nat}:∀{l:List Nat} {i:Nat},i≤l.length→(∀(k x:Nat),k<i→l[k]? = some x→x < t)→(∀x:Nat,l[i]? = some x→t≤x)→og l t = i
 | [],i,h,_,_=>by simp at h;subst h;rfl
 | a ::r,0,_,_,h=>by
  have:=h a rfl;unfold og;rw[List.takeWhile_cons_of_neg (by simp;omega)];rfl
 | a ::r,i + 1,hi,h1,h2=>by
  have ha:=h1 0 a ω rfl;have:=Yv (l:=r) (i:=i) (t:=t) (by simpa using hi) (fun k x hk hx=>h1 (k+1) x ω (by simpa using hx)) (fun x hx=>h2 x (by simpa using hx));unfold og at this ⊢;rw[List.takeWhile_cons_of_pos (by simpa using ha),List.length_cons,this]
theorem iL.lt {l:List Nat} (h:iL l) {i j x y:Nat} (YM:i < j) (hx:l[i]? = some x) (hy:l[j]? = some y):x < y:=by
 obtain⟨h1,rfl⟩:=List.getElem?_eq_some_iff.1 hx;obtain⟨h2,rfl⟩:=List.getElem?_eq_some_iff.1 hy;exact List.pairwise_iff_getElem.1 h i j h1 h2 YM
theorem WS {l:List Nat} {t i:Nat} (hs:iL l) (h1:∀(k x:Nat),k<i→l[k]? = some x→x < t) (h2:∀x:Nat,l[i]? = some x→t≤x):(t∈l)↔l[i]? = some t:=by
 constructor
 ·intro h;obtain⟨j,hj⟩:=List.getElem?_of_mem h;rcases Nat.lt_trichotomy j i with h3 | h3 | h3
  ·have:=h1 j t h3 hj;omega
  ·rw[←h3];exact hj
  ·have OG:i < l.length:=by have:=(List.getElem?_eq_some_iff.1 hj).1;omega
   have h4:=h2 l[i] (List.getElem?_eq_getElem OG);have h5:=hs.lt h3 (List.getElem?_eq_getElem OG) hj;omega
 ·exact List.mem_of_getElem?
theorem ahi (x:Nat) (w:World):Calls Tryz.prog 140 #[.int .u64 x] w fun e w'=>e =.returned (.bool false)∧w'=w:=by
 go_enter Tryz.func140,Tryz.ntmps140
 go_wp2;go_ret;exact⟨aN σ,rfl⟩
theorem adF (x:Nat) (w:World):Calls Tryz.prog 177 #[.int .u64 x] w fun e w'=>e =.returned (.bool false)∧w'=w:=by
 go_enter Tryz.func177,Tryz.ntmps177
 go_wp2;go_ret;exact⟨aN σ,rfl⟩
theorem SV (x y:Nat) (w:World):Calls Tryz.prog 139 #[.int .u64 x,.int .u64 y] w fun e w'=>e =.returned (.bool (decide (x < y)))∧w'=w:=by
 have cN:=fun W=>adF x W
 replace cN:=ζ cN;go_enter Tryz.func139,Tryz.ntmps139
 go_wp2_with fail;refine (cN.out _).mono ?_;rintro e w1 ⟨rfl,rfl⟩;go_wp2;go_ret;exact⟨aN σ,rfl⟩
theorem G_ {A:Option Addr} {m c:Nat} {l:List Nat} {t:Nat} (w:World) (hA:cu w 1 jC A m l) (hm:m≤1000000) (hs:iL l) :
 Calls Tryz.prog 89 #[.slice A m c,.int .u64 t] w fun e w'=>e =.returned (.tuple #[.int .i64 (og l t),.bool (decide (t∈l))])∧w'=w:=by
 have nM:=hA.1;have cL:=fun x W=>SV x t W
 have cN:=fun x W=>ahi x W
 obtain⟨R,hR⟩:∃R,R=(Value.tuple #[.int .i64 (og l t),.bool (decide (t∈l))]):=⟨_,rfl⟩;rw[←hR];replace hR:=ζ hR;replace cL:=ζ cL;replace cN:=ζ cN;replace hA:=ζ hA;replace hs:=ζ hs;go_enter Tryz.func89,Tryz.ntmps89
 go_wp2;go_loopw [7,8,9] (fun vi vj _ wr=>∃i j:Nat,i≤j∧j≤m∧vi=.int .i64 i∧vj=.int .i64 j∧Hid (∀(k x:Nat),k<i→l[k]? = some x→x < t)∧Hid (∀x:Nat,l[j]? = some x→t≤x)∧wr=w) (fun vi vj _ _=>(intOf vj-intOf vi).toNat)
 case atStart=>exact⟨0,m,ω,ω,rfl,rfl,fun _ _ h=>absurd h ω,(fun x hx=>by have:=(List.getElem?_eq_some_iff.1 hx).1;omega),rfl⟩
 case round=>
  obtain⟨i,j,YM,hjm,rfl,rfl,Nr,TG,rfl⟩:=hrel;by_cases hlt:i < j
  ·have ahE:(i:Int)<(j:Int):=ω;obtain⟨h,hh⟩:∃h,h = (i + j) / 2:=⟨_,rfl⟩;have hhm:h < m:=ω;obtain⟨bb,off,x,rfl,GK,hx,hcell⟩:=hA.o.at_ hhm;have c0:wr.cell? ⟨bb,off+h,none⟩=some (.int .u64 (x:Int)):=by simpa using hcell 0 _ rfl
   have ayu:((i:Int)+(j:Int)) / 2=(h:Int):=ω;have hhj:h < j:=ω;have hih:i≤h:=ω;clear hcell hh;have cX:=cL.out x;cases hxt:decide (x < t) with
   | true=>
    rw[hxt] at cX;replace cX:=ζ cX;have atp:=ζ (show ∀(k y:Nat),k<h + 1→l[k]? = some y→y < t from fun k y hk hy=>by
     have Xd:=of_decide_eq_true hxt;by_cases hkh:k=h
     ·subst hkh;rw[hx] at hy;rw[←Option.some.inj hy];exact Xd
     ·have:=hs.o.lt (show k<h by omega) hy hx;omega)
    clear hxt hx;go_wp2_with fail;refine (cX.out _).mono ?_;rintro e w1 ⟨rfl,rfl⟩;go_wp2;go_roundw
    case rel=>exact⟨h + 1,j,ω,ω,ν,rfl,atp,TG,trivial⟩
    case measure=>exact ψ
   | false=>
    rw[hxt] at cX;replace cX:=ζ cX;have atC:=ζ (show ∀y:Nat,l[h]? = some y→t≤y from fun y hy=>by
     rw[hx] at hy;rw[←Option.some.inj hy];exact Nat.le_of_not_lt (of_decide_eq_false hxt))
    clear hxt hx;go_wp2_with fail;refine (cX.out _).mono ?_;rintro e w1 ⟨rfl,rfl⟩;go_wp2;go_roundw
    case rel=>exact⟨i,h,ω,ω,rfl,rfl,Nr,atC,trivial⟩
    case measure=>exact ψ
  ·obtain rfl:i = j:=ω;have Nh:=Yv (t:=t) ω Nr.o TG.o;have kY:=WS hs.o Nr.o TG.o;have qV:=hR.o;rw[Nh] at qV;clear hR Nh;by_cases TD:i < m
   ·obtain⟨bb,off,x,rfl,GK,hx,hcell⟩:=hA.o.at_ TD;have c0:wr.cell? ⟨bb,off+i,none⟩=some (.int .u64 (x:Int)):=by simpa using hcell 0 _ rfl
    have atB:(i:Int)<(m:Int):=ω;rw[hx] at kY;clear hcell hx Nr TG;have cX:=cN.out x;cases hxt:((x:Int)==(t:Int)) with
    | true=>
     have Xd:x = t:=by have:=of_decide_eq_true (show decide ((x:Int)=(t:Int))=true by simpa using hxt);omega
     rw[decide_eq_true (kY.2 (by rw[Xd]))] at qV;replace qV:=ζ qV;clear kY Xd;go_wp2;go_ret2;exact⟨by rw[qV.o];rfl,rfl⟩
    | false=>
     have Xd:¬x = t:=fun h=>by rw[h] at hxt;simp at hxt
     rw[decide_eq_false (fun h=>Xd (Option.some.inj (kY.1 h)))] at qV;replace qV:=ζ qV;replace cX:=ζ cX;clear kY Xd;go_wp2_with fail;refine (cX.out _).mono ?_;rintro e w1 ⟨rfl,rfl⟩;go_wp2;go_ret2;exact⟨by rw[qV.o];rfl,rfl⟩
   ·have hx:l[i]? = none:=List.getElem?_eq_none ω;rw[hx] at kY;rw[decide_eq_false (fun h=>by have:=kY.1 h;cases this)] at qV;have atB:¬(i:Int)<(m:Int):=ω;replace qV:=ζ qV;clear kY hx Nr TG;go_wp2;go_ret2;exact⟨by rw[qV.o];rfl,rfl⟩
def jV (cur:Array Value) (o:Nat) (cs:List Value):Array Value:=(cur.toList.take o ++cs++cur.toList.drop (o + cs.length)).toArray
theorem lV {cur:Array Value} {o:Nat} {cs:List Value} (h:o + cs.length≤cur.size):(jV cur o cs).size=cur.size:=by
 simp only[jV,List.size_toArray,List.length_append,List.length_take,List.length_drop,Array.length_toList];omega
theorem n_ {cur:Array Value} {o:Nat} {cs:List Value} (h:o + cs.length≤cur.size) (q:Nat):(jV cur o cs)[q]? = if o≤q∧q<o + cs.length then cs[q-o]? else cur[q]? :=by
 simp only[jV,List.getElem?_toArray,List.append_assoc];have xQ:(cur.toList.take o).length=o:=by rw[List.length_take,Array.length_toList];omega
 by_cases h1:q<o
 ·rw[List.getElem?_append_left ω,List.getElem?_take_of_lt h1,if_neg ω];simp
 ·rw[List.getElem?_append_right ω,xQ];by_cases h2:q<o + cs.length
  ·rw[List.getElem?_append_left ω,if_pos ω]
  ·rw[List.getElem?_append_right ω,if_neg ω,List.getElem?_drop,show o + cs.length+(q-o - cs.length)=q by omega];simp
theorem Q7 {w:World} {g o dL dC a b sL sC:Nat} {cur:Array Value} {t:TypeId} {cs:List Value} (hg:w.heap[g]? = some (.cells cur t (0,0))) (hn:cs.length=min sL dL)
 (asZ:∀j v,cs[j]? = some v→w.cell? ⟨a,b + j,none⟩=some v) (apo:o + cs.length≤cur.size) (h1:∀v∈cs,v.oneCell'=true) :
 ∃w',(Builtin.copy_ #[123,123] 3 #[.slice (some ⟨g,o,none⟩) dL dC,.slice (some ⟨a,b,none⟩) sL sC]).run Tryz.prog w =.ok (goInt (min sL dL:Nat)) w'∧w'.heap[g]? = some (.cells (jV cur o cs) t (0,0))∧w.grownBy w' (some g):=by
 have hc:=run_copy_row (P:=Tryz.prog) w 123 123 3 33 g o dL dC ⟨a,b,none⟩ sL sC cur t cs Tryz.underlying123 κ hg hn (fun j v hv=>by
  have:=asZ j v hv;have he:(⟨a,b,none⟩:Addr).add j = ⟨a,b + j,none⟩:=by unfold Addr.add;by_cases hj:j = 0 <;> simp[hj]
  rw[he];exact this) apo h1
 refine⟨_,by rw[←hn];exact hc,?_,j_ _ _ _⟩;exact setRow_heap w g cur _ t _ hg
theorem adz {M:Array Value→Type} {a b:Option Addr} {la ca lb cb:Nat} (h1:(a:Option Addr)→(la ca:Nat)→(b:Option Addr)→(lb cb:Nat)→M #[.slice a la ca,.slice b lb cb]) (h2:(x:Array Value)→M x) :
 Extern.SlicesOverlaps.overlaps.match_4 M #[.slice a la ca,.slice b lb cb] h1 h2=h1 a la ca b lb cb:=rfl
theorem SC {a b:Nat} {oa ob la lb ca cb:Nat} {w:World} {xs ys:Array Value} {t u:TypeId} (ha:w.heap[a]? = some (.cells xs t (0,0))) (hb:w.heap[b]? = some (.cells ys u (0,0))) (hne:a≠b) :
 (callFunc 141 #[.slice (some ⟨a,oa,none⟩) la ca,.slice (some ⟨b,ob,none⟩) lb cb]).run Tryz.prog w =.ok (.value (.bool false)) w:=by
 rw[run_callFunc_extern (e:=Extern.SlicesOverlaps.overlaps #[123,123] #[4]) Tryz.func141 κ κ κ (by rfl)];obtain⟨i,z,hi,hz,hsz,hby,hzs⟩:=af0.info;have hsa:w.shape? a = some (t,xs.size):=by simp[World.shape?,ha]
 have YH:w.shape? b = some (u,ys.size):=by simp[World.shape?,hb]
 have hfa:∀j,w.frozen? ⟨a,j,none⟩=false:=fun j=>by simp[World.frozen?,ha]
 have nN:∀j,w.frozen? ⟨b,j,none⟩=false:=fun j=>by simp[World.frozen?,hb]
 have ati:(a != b)=true:=by simpa using hne
 have Np:(a ==b)=false:=by simpa using hne
 unfold Extern.SlicesOverlaps.overlaps;rw[adz];by_cases h0:la=0∨lb=0
 ·simp[run_underlying Tryz.underlying123,sizeOf,typeInfo,hi,hsz,h0,Result.andThen]
 ·simp[run_underlying Tryz.underlying123,sizeOf,typeInfo,hi,hsz,h0,ati,Np,noView,viewAt,mayBeOne,stringish,hsa,YH,hfa,nN,Result.andThen]
theorem EY {P:Program} (w:World) (t tn ty e:TypeId) (i:TypeInfo) (z:Value) (k kn:IntKind) (ht:P.underlying t = some (.slice e)) (htn:P.underlying tn=some (.int kn)) (hi:P.info? e = some i) (hz:i.zero=some z)
 (b:Addr) (Dn Sl:Nat) (olds:List Value) (Nr:olds.length=Dn*i.size) (holds:∀j v,olds[j]? = some v→w.cell? (b.add j)=some v)
 (n:Nat) (h0:0<n) (hs:0<i.size) (hg:Sl<Dn+n) (h63:((Dn+n:Nat):Int)≤9223372036854775807) (apo:Builtin.nextslicecap (Dn+n) Sl*i.bytes≤281474976710656) (h48:n * i.bytes≤281474976710656) :
 (Builtin.append_ #[t,tn] ty #[.slice (some b) Dn Sl,.int k n]).run P w =
  .ok (.slice (some ⟨w.heap.size,0,none⟩) (Dn+n) (grownCap w (Dn+n) Sl e)) (w.drew.alloc (.cells (olds.toArray++Builtin.zeroCells z.cells n ++Builtin.zeroCells z.cells (grownCap w (Dn+n) Sl e - (Dn+n))) e)):=by
 have hn:n≠0:=ω;have hw:IntKind.i64.wrap (n:Int)=n:=by rw[IntKind.wrap_i64];omega
 have hne:¬(Dn+n≤Sl):=ω;have auM:¬(9223372036854775807<((Dn:Int)+(n:Int))):=ω;have auO:¬(281474976710656<Builtin.nextslicecap (Dn+n) Sl*i.bytes):=ω;have auN:¬(281474976710656<(n:Int)*(i.bytes:Int)):=by
  rw[←Int.natCast_mul];omega
 have atg:¬((n:Int)<0):=ω;have hns:¬(n * i.size=0):=Nat.mul_ne_zero hn ω;have hfo:=run_firstCells_some (P:=P) w.drew i.size Dn b Dn Sl olds Nr (by simpa using holds);simp[Builtin.append_,run_underlying ht,run_underlying htn,sizeOf,typeInfo,zeroValue,hi,hz,asInt,asIntOf,hw,atg,hns,auM,auO,auN,hne,Question.forced,hfo,newRow,grownCap]
def putAt (l:List Nat) (i t:Nat):List Nat:=l.take i ++t ::l.drop i
theorem ZX (l:List Nat) (t:Nat):putAt l l.length t = l ++[t]:=by simp[putAt]
theorem qZ {l:List Nat} {i t:Nat} (h:i≤l.length):(putAt l i t).length=l.length+1:=by
 simp only[putAt,List.length_append,List.length_take,List.length_cons,List.length_drop];omega
theorem ads {l:List Nat} {i t q:Nat} (hi:i≤l.length) (h:q<i):(putAt l i t)[q]? = l[q]? :=by
 unfold putAt;rw[List.getElem?_append_left (by rw[List.length_take];omega),List.getElem?_take_of_lt h]
theorem adu {l:List Nat} {i t:Nat} (h:i≤l.length):(putAt l i t)[i]? = some t:=by
 unfold putAt;rw[List.getElem?_append_right (by rw[List.length_take];omega),List.length_take,show i - min i l.length=0 by omega];rfl
theorem adt {l:List Nat} {i t q:Nat} (h:i≤l.length) (hq:i < q):(putAt l i t)[q]? = l[q-1]? :=by
 unfold putAt;rw[List.getElem?_append_right (by rw[List.length_take];omega),List.length_take,show q-min i l.length=(q-1-i)+1 by omega,List.getElem?_cons_succ,List.getElem?_drop,show i + (q-1-i)=q-1 by omega]
def IK (w:World) (h:Nat) (t:Nat):Prop:=w.heap[h]? = some (.cells #[.int .u64 (t:Int)] 33 (0,0))
theorem IK.arr {w:World} {h t:Nat} (ho:IK w h t):cu w 1 jC (some ⟨h,0,none⟩) 1 [t]:=by
 refine⟨rfl,fun _=>⟨h,0,rfl,(Array.getElem?_eq_some_iff.1 ho).1,fun i hi j u hu=> ?_⟩⟩;have hi0:i = 0:=by simpa using hi
 subst hi0;have hj:j = 0:=by have:=(List.getElem?_eq_some_iff.1 hu).1;simp[jC] at this;omega
 subst hj;simp only[World.cell?,show w.heap[h]? = _ from ho];simpa[jC] using hu
def uv (x:Nat):Value:=.int .u64 (x:Int)
theorem acz:∀(l:List Nat),∀v∈l.map uv,v.oneCell'=true:=by intro l v hv;simp only[List.mem_map] at hv;obtain⟨x,_,rfl⟩:=hv;rfl
theorem zy {l:List Nat} {i t q x:Nat} (hi:i≤l.length) (h:(putAt l i t)[q]? = some x):(q<i∧l[q]? = some x)∨(q=i∧x = t)∨(i < q∧l[q-1]? = some x):=by
 rcases Nat.lt_trichotomy q i with h1 | h1 | h1
 ·rw[ads hi h1] at h;exact .inl ⟨h1,h⟩
 ·subst h1;rw[adu hi] at h;exact .inr (.inl ⟨rfl,(Option.some.inj h).symm⟩)
 ·rw[adt hi h1] at h;exact .inr (.inr ⟨h1,h⟩)
theorem Y0 {l:List Nat} {i q x:Nat} (h:l[i + q]? = some x):((l.drop i).map uv)[q]? = some (uv x):=by simp[h]
theorem adW {cur:Array Value} {l:List Nat} {i t:Nat} (hc:∀(q x:Nat),l[q]? = some x→cur[q]? = some (uv x)) (hi:i < l.length) (hsz:l.length+1≤cur.size) :
 ∀(q x:Nat),(putAt l i t)[q]? = some x→(jV (jV cur (i + 1) ((l.drop i).map uv)) i [uv t])[q]? = some (uv x):=by
 intro q x hq;have hl:((l.drop i).map uv).length=l.length-i:=by simp
 have hs1:(jV cur (i + 1) ((l.drop i).map uv)).size=cur.size:=lV ω;rw[n_ (by rw[hs1,List.length_singleton];omega)];rcases zy ω hq with⟨h1,h2⟩ | ⟨rfl,rfl⟩ | ⟨h1,h2⟩
 ·rw[if_neg ω,n_ ω,if_neg ω];exact hc q x h2
 ·rw[if_pos σ];simp
 ·have Oz:=(List.getElem?_eq_some_iff.1 h2).1;rw[if_neg (by simp;omega),n_ ω,if_pos ω];exact Y0 (by rw[show i + (q-(i + 1))=q-1 by omega];exact h2)
theorem ahn {cur:Array Value} {l:List Nat} {i t:Nat} (hc:∀(q x:Nat),q<i→l[q]? = some x→cur[q]? = some (uv x)) (hi:i < l.length) (hsz:l.length+1≤cur.size) :
 ∀(q x:Nat),(putAt l i t)[q]? = some x→(jV (jV cur i [uv t]) (i + 1) ((l.drop i).map uv))[q]? = some (uv x):=by
 intro q x hq;have hl:((l.drop i).map uv).length=l.length-i:=by simp
 have hs1:(jV cur i [uv t]).size=cur.size:=lV (by simp;omega);rw[n_ ω];rcases zy ω hq with⟨h1,h2⟩ | ⟨rfl,rfl⟩ | ⟨h1,h2⟩
 ·rw[if_neg ω,n_ (by simp;omega),if_neg ω];exact hc q x h1 h2
 ·rw[if_neg ω,n_ (by simp;omega),if_pos σ];simp
 ·have Oz:=(List.getElem?_eq_some_iff.1 h2).1;rw[if_pos ω];exact Y0 (by rw[show i + (q-(i + 1))=q-1 by omega];exact h2)
theorem Own.Ai {w:World} {base g cap n:Nat} {cur:Array Value} {xs:List Nat} (hb:base≤g) (hh:w.heap[g]? = some (.cells cur 33 (0,0))) (hn:xs.length=n) (zF:n≤cap) (hcm:cap≤maxLen) (hcs:cur.size=cap)
 (hc:∀(q x:Nat),xs[q]? = some x→cur[q]? = some (uv x)):Own w base 33 1 jC (.slice (some ⟨g,0,none⟩) n cap) xs:=by
 subst hn;refine Own.mk_ KZ ω hb hh zF hcm ω (fun q hq r hr=> ?_);have hr0:r = 0:=ω;subst hr0;have:=hc q xs[q] (List.getElem?_eq_getElem hq);simpa[jC,uv] using this
theorem IK.cell {w:World} {h t:Nat} (ho:IK w h t):∀(j:Nat) v,[uv t][j]? = some v→w.cell? ⟨h,0+j,none⟩=some v:=by
 intro j v hv;have hj:j = 0:=by have:=(List.getElem?_eq_some_iff.1 hv).1;simp at this;omega
 subst hj;simp only[World.cell?,show w.heap[h]? = _ from ho];simpa[uv] using hv
theorem IK.eY {w w':World} {h t:Nat} {row:Option Nat} (ho:IK w h t) (hg:w.grownBy w' row) (hne:some h≠row):IK w' h t:=(hg.block h (Array.getElem?_eq_some_iff.1 ho).1 hne).trans ho
theorem Yp {w:World} {g i:Nat} {cur:Array Value} {t:TypeId} {l:List Nat} (hh:w.heap[g]? = some (.cells cur t (0,0))) (hc:∀(q x:Nat),l[q]? = some x→cur[q]? = some (uv x)) :
 ∀(j:Nat) v,((l.drop i).map uv)[j]? = some v→w.cell? ⟨g,i + j,none⟩=some v:=by
 intro j v hv;simp only[List.getElem?_map,List.getElem?_drop,Option.map_eq_some_iff] at hv;obtain⟨x,hx,rfl⟩:=hv;have:=hc _ x hx;simp only[World.cell?,hh];simpa using this
theorem agy {w:World} {g i n d cap:Nat} {cur:Array Value} {l:List Nat} (hh:w.heap[g]? = some (.cells cur 33 (0,0))) (hc:∀(q x:Nat),l[q]? = some x→cur[q]? = some (uv x)) (hl:l.length=n) (hi:i < n) (hd:n + 1-i = d) (hroom:cap<n + 1) (hn:n≤1000000) :
 ∃UD w2 IG,(Builtin.append_ #[123,3] 123 #[.slice (some ⟨g,0,none⟩) i cap,.int .i64 (d:Int)]).run Tryz.prog w =.ok (.slice (some ⟨w.heap.size,0,none⟩) (n + 1) UD) w2∧n + 1≤UD∧UD≤maxLen∧
  w2.heap[w.heap.size]? = some (.cells IG 33 (0,0))∧IG.size=UD∧(∀(q x:Nat),q<i→l[q]? = some x→IG[q]? = some (uv x))∧ah w w2:=by
 obtain⟨ti,z,hti,hz,hsz,hby,hzs⟩:=af0.info;have hol:((l.take i).map uv).length=i:=by rw[List.length_map,List.length_take];omega
 have hr:=EY (P:=Tryz.prog) w 123 3 123 33 ti z .i64 .i64 Tryz.underlying123 Tryz.underlying3 hti hz ⟨g,0,none⟩ i cap ((l.take i).map uv) (by rw[hol,hsz,Nat.mul_one]) (fun j v hv=>by
  simp only[List.getElem?_map,Option.map_eq_some_iff] at hv;obtain⟨x,hx,rfl⟩:=hv;have Rw:j < i:=by have:=(List.getElem?_eq_some_iff.1 hx).1;rw[List.length_take] at this;omega
  rw[List.getElem?_take_of_lt Rw] at hx;have he:(⟨g,0,none⟩:Addr).add j = ⟨g,j,none⟩:=by unfold Addr.add;by_cases hj:j = 0 <;> simp[hj]
  rw[he];simp only[World.cell?,hh];simpa using hc j x hx) d ω ω ω ω (by rw[hby];exact growslice_fits ω ω) (by rw[hby];omega)
 rw[show i + d = n + 1 by omega] at hr;have sS:=grownCap_ge w (n + 1) cap 33;have hcm:=grownCap_le_maxLen w (n + 1) cap 33 (by unfold maxLen;omega);refine⟨_,_,_,hr,sS,hcm,heap_alloc_new w.drew _,?_,?_,(ah.refl w).drew.alloc _⟩
 ·simp only[Array.size_append,size_zeroCells,hzs,List.size_toArray,hol];omega
 ·intro q x hq hx;rw[Array.getElem?_append_left (by simp only[Array.size_append,List.size_toArray,hol];omega),Array.getElem?_append_left (by rw[List.size_toArray,hol];omega)];simp[hq,hx]
theorem JO {base:Nat} {v:Value} {l:List Nat} {i t h c:Nat} (w:World) (hO:Own w base 33 1 jC v l) (hbase:base≤w.heap.size) (hi:i≤l.length) (hl:l.length≤1000000) (hT:IK w h t) (hne:∀j,v.ownBlock=some j→j≠h) :
 Calls Tryz.prog 90 #[v,.int .i64 i,.slice (some ⟨h,0,none⟩) 1 c] w fun e w'=>∃v',e =.returned v'∧Own w' base 33 1 jC v' (putAt l i t)∧w.grownBy w' v.ownBlock∧(v'.ownBlock=v.ownBlock∨∃j,v'.ownBlock=some j∧w.heap.size≤j):=by
 obtain⟨A,cap,rfl,aeB,hcm,hA⟩:=hO.arr KZ;by_cases OE:i = l.length
 ·subst OE;rw[ZX];have YT:=hO;rcases hO.2 with⟨h5,h6⟩ | ⟨g,au2,cur,h5,hb,hh,zF,_,hcs,uJ⟩
  ·injection h5 with h5 h7 h8
   subst h5 h8;have hn:=h6;obtain rfl:l = []:=List.eq_nil_of_length_eq_zero h6;replace hO:=ζ hO;replace hT:=ζ hT;clear hA hne YT h7 aeB hcm hi hl hn h6;go_enter Tryz.func90,Tryz.ntmps90
   go_wp2_with (at_builtin;refine iD af0 rfl (.tmp 23) (.tmp 24) rfl hO.o rfl rfl hT.o.arr KZ aks hbase (by simp[maxLen]) σ ?_;intro v2 w2 l9 jX hv2);go_ret;exact⟨v2,rfl,l9,jX,hv2.imp id (fun h=>⟨_,h,Nat.le_refl _⟩)⟩
  ·simp only[Value.slice.injEq] at h5;obtain⟨rfl,_,rfl⟩:=h5;clear hb hh zF hcs uJ;generalize hn:l.length=n at *
   replace hn:=ζ hn;replace hO:=ζ hO;replace hT:=ζ hT;clear hA hne hi YT;unfold maxLen at hcm;go_enter Tryz.func90,Tryz.ntmps90
   go_wp2_with (at_builtin;refine iD af0 rfl (.tmp 23) (.tmp 24) rfl hO.o rfl rfl hT.o.arr KZ aks hbase (by rw[hn.o];unfold maxLen;omega) (by rw[hn.o];omega) ?_;intro v2 w2 l9 jX hv2);all_goals (go_ret;exact⟨v2,rfl,l9,jX,hv2.imp id (fun h=>⟨_,h,Nat.le_refl _⟩)⟩)
 ·have atA:i < l.length:=ω;clear OE;obtain⟨g,au2,cur,h5,hb,hh,zF,_,hcs,uJ⟩:=hO.2.resolve_left (fun h=>by have:=h.2;omega);simp only[Value.slice.injEq] at h5;obtain⟨rfl,_,rfl⟩:=h5;obtain⟨IG,_,_,hh2,_,_,ahS,hcell⟩:=hO.uH KZ;obtain rfl:IG=cur:=by rw[hh] at hh2;injection hh2 with h;injection h with h;exact h.symm
  have hgh:g≠h:=hne g rfl;replace hcell:∀(q x:Nat),l[q]? = some x→IG[q]? = some (uv x):=fun q x hx=>by
   obtain⟨h1,rfl⟩:=List.getElem?_eq_some_iff.1 hx;simpa[jC,uv] using hcell q h1 0 ω
  rw[Nat.mul_one] at hcs;clear hh2 ahS uJ hA hne;generalize hn:l.length=n at *
  unfold maxLen at hcm;have ayr:((i:Int)==(n:Int))=false:=by rw[beq_eq_false_iff_ne];omega
  by_cases hroom:n + 1≤cap
  ·have hri:¬(cap:Int)<(n:Int)+1:=ω;have hov:=fun (c1:Nat)=>SC (oa:=0) (ob:=i + 1) (la:=1) (lb:=n - i) (ca:=c) (cb:=c1) hT hh (Ne.symm hgh)
   replace hn:=ζ hn;replace hO:=ζ hO;replace hT:=ζ hT;replace hh:=ζ hh;replace hcell:=ζ hcell;go_enter Tryz.func90,Tryz.ntmps90
   go_wp2;have Az:g < w.heap.size:=(Array.getElem?_eq_some_iff.1 hh.o).1;refine aH κ ?_;refine rK (.range 8) 1 ?_;iterate 8 refine aC ?_
   refine aB ?_;refine eF (i:=8) rfl κ κ (fun wN hN hS K' hK=> ?_);clear hS;have hhN:=(hN.below.block g Az).trans hh.o;have hdl:((l.drop i).map uv).length=n - i:=by rw[List.length_map,List.length_drop,hn.o]
   obtain⟨w2,hcp,hh2,jX⟩:=Q7 (o:=i + 1) (dL:=n - i) (dC:=cap-(i + 1)) (sL:=n + 1-i) (sC:=cap-i) hhN (by rw[hdl];omega) (Yp (i:=i) hhN hcell.o) (by rw[hdl,hcs];omega) (acz _);have hTN:=ζ (IK.eY (IK.eY hT.o (hN.uj none) σ) jX (by simpa using Ne.symm hgh));have alq:Hid (w.grownBy w2 (some g)):=ζ ((hN.uj _).trans jX);replace hh2:=ζ hh2;clear hhN hN hdl jX;go_simp;refine hK.o _ _ ?_;clear hK hcp;have hsA:(jV IG (i + 1) ((l.drop i).map uv)).size=cap:=by rw[lV (cur:=IG) (o:=i + 1) (cs:=(l.drop i).map uv) (by rw[List.length_map,List.length_drop,hn.o,hcs];omega),hcs]
   have hsB:(jV (jV IG (i + 1) ((l.drop i).map uv)) i [uv t]).size=cap:=by rw[lV (cur:=jV IG (i + 1) ((l.drop i).map uv)) (o:=i) (cs:=[uv t]) (by rw[hsA,List.length_singleton];omega),hsA]
   obtain⟨w3,atN,hh3,kZ⟩:=Q7 (o:=i) (dL:=n + 1-i) (dC:=cap-i) (sL:=1) (sC:=c) hh2.o (by rw[List.length_singleton];omega) hTN.o.cell (by rw[hsA,List.length_singleton];omega) (by intro v hv;rw[List.mem_singleton] at hv;subst hv;rfl);have aO:=Own.Ai (base:=base) hb hh3 (qZ (t:=t) (by have:=hn.o;omega)) (by have:=hn.o;omega) (by unfold maxLen;omega) hsB (adW (t:=t) hcell.o (by have:=hn.o;omega) (by have:=hn.o;omega));clear hsA hsB;rw[hn.o] at aO;replace aO:=ζ aO;replace alq:=ζ (alq.o.trans kZ);clear hh2 hTN hh3 kZ;go_wp2;go_ret;exact⟨_,rfl,aO.o,alq.o,.inl rfl⟩
  ·have hri:(cap:Int)<(n:Int)+1:=ω;obtain⟨d,hd⟩:∃d,n + 1-i = d:=⟨_,rfl⟩;have hdi:(n:Int)+1-(i:Int)=(d:Int):=ω;obtain⟨UD,w2,aip,hrun,Vb,TN,hh2,apu,hc3,fG⟩:=agy (cap:=cap) hh hcell hn atA hd ω hl;have atP:=TN;unfold maxLen at atP;have Az:g < w.heap.size:=(Array.getElem?_eq_some_iff.1 hh).1;have hhl:h < w.heap.size:=(Array.getElem?_eq_some_iff.1 hT).1;have hhh:Hid (w2.heap[g]? = some (.cells IG 33 (0,0))):=ζ ((fG.below.block g Az).trans hh);have hT2:IK w2 h t:=IK.eY hT (fG.uj none) σ;obtain⟨w3,atN,hh3,kZ⟩:=Q7 (o:=i) (dL:=n + 1-i) (dC:=UD-i) (sL:=1) (sC:=c) (cur:=aip) hh2 (by rw[List.length_singleton];omega) hT2.cell (by rw[List.length_singleton,apu];omega) (by intro v hv;rw[List.mem_singleton] at hv;subst hv;rfl);have hh4:Hid (w3.heap[g]? = some (.cells IG 33 (0,0))):=ζ ((kZ.block g (Nat.lt_of_lt_of_le Az fG.size) (by simp;omega)).trans hhh.o);have qW:Hid (ah w w3):=ζ (fG.aP kZ (fun j hj=>by injection hj with hj;omega));have hsA:Hid ((jV aip i [uv t]).size=UD):=ζ (by rw[lV (cur:=aip) (o:=i) (cs:=[uv t]) (by rw[List.length_singleton];omega),apu]);generalize hG:w.heap.size=G at *
   replace hn:=ζ hn;replace hO:=ζ hO;replace hT:=ζ hT;replace hh:=ζ hh;replace hcell:=ζ hcell;replace hd:=ζ hd;replace hh3:=ζ hh3;replace hc3:=ζ hc3;clear hh2 hT2 hhh kZ fG;go_enter Tryz.func90,Tryz.ntmps90
   go_wp2_with (at_builtin;refine Lib.wpList_append_run _ rfl (.tmp 34) (.tmp 39) _ _ rfl _ _ rfl rfl _ _ hrun ?_);clear hrun;have atF:g < w3.heap.size:=(Array.getElem?_eq_some_iff.1 hh4.o).1;refine aH κ ?_;refine rK (.range 8) 1 ?_;iterate 8 refine aC ?_
   refine aB ?_;refine eF (i:=8) rfl κ κ (fun wN hN hS K' hK=> ?_);clear hS;have hhN:=(hN.below.block g atF).trans hh4.o;have hhM:=(hN.below.block G (Array.getElem?_eq_some_iff.1 hh3.o).1).trans hh3.o;have hdl:((l.drop i).map uv).length=n - i:=by rw[List.length_map,List.length_drop,hn.o]
   obtain⟨w5,hcp,hh5,Nv⟩:=Q7 (o:=i + 1) (dL:=n - i) (dC:=UD-(i + 1)) (sL:=n - i) (sC:=cap-i) hhM (by rw[hdl];omega) (Yp (i:=i) hhN hcell.o) (by rw[hdl,hsA.o];omega) (acz _);have aO:=Own.Ai (base:=base) ω hh5 (qZ (t:=t) (by have:=hn.o;omega)) (by have:=hn.o;omega) TN (by rw[lV (cur:=jV aip i [uv t]) (o:=i + 1) (cs:=(l.drop i).map uv) (by rw[hdl,hsA.o];omega),hsA.o]) (ahn (t:=t) hc3.o (by have:=hn.o;omega) (by have:=hn.o;omega));rw[hn.o] at aO;replace aO:=ζ aO;have oV:Hid (ah w w5):=ζ ((qW.o.trans hN).aP Nv (fun j hj=>by injection hj with hj;omega));clear hhN hhM hN hdl Nv hh5;go_simp;refine hK.o _ _ ?_;clear hK hcp;go_wp2;go_ret;exact⟨_,rfl,aO.o,oV.o.uj _,.inr ⟨G,rfl,Nat.le_refl _⟩⟩
structure dA where
 r:Nat
 key:Nat
 eY:List bK
 bA:Option Addr
 bm:Nat
 bk:Nat
 ids:List Nat
 iA:Option Addr
 im:Nat
 ik:Nat
def dA.bv (x:dA):Value:=.slice x.bA x.bm x.bk
def dA.iv (x:dA):Value:=.slice x.iA x.im x.ik
def dA.g (x:dA):kS:=⟨x.r,x.eY,x.key,x.ids⟩
def QZ (x:dA):List Value:=[.int .i64 (x.r:Int),.slice x.bA x.bm x.bk,.int .u64 (x.key:Int),.slice x.iA x.im x.ik]
def Py (x:dA):Value:=.agg #[.int .i64 (x.r:Int),.slice x.bA x.bm x.bk,.int .u64 (x.key:Int),.slice x.iA x.im x.ik]
theorem YL (x:dA):(QZ x).length=4:=rfl
theorem aoh (x:dA):∀u∈QZ x,u.oneCell'=true:=by intro u hu;simp[QZ] at hu;rcases hu with rfl | rfl | rfl | rfl <;> rfl
theorem amd:eX Tryz.prog 137 125 4 64:=eX.mk' (z:=.agg #[.int .i64 0,.slice none 0 0,.int .u64 0,.slice none 0 0]) Tryz.underlying137 κ rfl ω
abbrev IJ (w:World) (base:Nat) (v:Value) (gs:List dA):Prop:=Own w base 125 4 QZ v gs
theorem ZG {n:Nat} (w:World) (h0:0<n) (hn:n≤1000000000) (ty:TypeId) :
 ∃g cap w',(Builtin.append_ #[137,3] ty #[.slice none 0 0,.int .i64 n]).run Tryz.prog w =.ok (.slice (some ⟨g,0,none⟩) n cap) w'∧n≤cap∧cap≤maxLen∧IJ w' w.heap.size (.slice (some ⟨g,0,none⟩) 0 cap) []∧ah w w':=by
 obtain⟨i,z,hi,hz,hsz,hby,hzs⟩:=amd.info;have hr:=Lib.run_append_nil_zeros (P:=Tryz.prog) w 137 3 ty 125 i z .i64 .i64 Tryz.underlying137 Tryz.underlying3 hi hz n h0 ω ω (by rw[hby];omega);have sS:=grownCap_ge w n 0 125;have hcm:=grownCap_le_maxLen w n 0 125 (by unfold maxLen;omega);refine⟨_,_,_,hr,sS,hcm,⟨rfl,.inr ⟨w.heap.size,_,_,rfl,Nat.le_refl _,heap_alloc_new w.drew _,Nat.zero_le _,hcm,?_,by simp[bM]⟩⟩,(ah.refl w).drew.alloc _⟩;simp only[Array.size_append,size_zeroCells,hzs];rw[←Nat.add_mul,Nat.add_sub_cancel' sS]
theorem aa4 {n:Nat} (w:World) (hn:n≤1000000000) :
 Calls Tryz.prog 143 #[.slice none 0 0,.int .i64 n] w fun e w'=>∃v,e =.returned v∧IJ w' w.heap.size v []∧ah w w':=by
 by_cases h0:n = 0
 ·subst h0;go_enter Tryz.func143,Tryz.ntmps143
  go_wp2;go_ret;exact⟨_,rfl,Own.jA _ _ _ _ _,ah.refl _⟩
 ·have hi:(0:Int)<(n:Int):=ω;have hi2:¬((n:Int)<0):=ω;have hb:0≤(n:Int)∧(n:Int)≤1000000000:=ω;have h1:0<n:=ω;replace h1:=ζ h1;go_enter Tryz.func143,Tryz.ntmps143
  obtain⟨g,cap,w1,hr,sS,hcm,hO,hG⟩:=ZG w h1.o hn 137;have TN:=hcm;replace hO:=ζ hO;replace hG:=ζ hG;go_wp2_with (at_builtin;(refine Lib.wpList_append_run _ rfl (.tmp 20) (.tmp 21) _ _ rfl _ _ rfl rfl _ _ hr ?_));go_ret;exact⟨_,rfl,hO.o,hG.o⟩
structure Gsl where
 A:Option Addr
 n:Nat
 c:Nat
 xs:List dA
def YZ (b:Gsl):List Value:=[.slice b.A b.n b.c]
def tH (bs:List Gsl):List dA:=bs.flatMap (·.xs)
theorem O_ {bs:List Gsl} {k:Nat} {b:Gsl} (h:bs[k]? = some b):tH (bs.take (k+1))=tH (bs.take k)++b.xs:=by
 rw[List.take_add_one,h];simp[tH]
theorem Y4 (bs:List Gsl) (k:Nat):(tH (bs.take k)).length≤(tH bs).length:=by
 have:tH bs=tH (bs.take k)++tH (bs.drop k):=by
  unfold tH;rw[←List.flatMap_append,List.take_append_drop]
 rw[this,List.length_append];omega
theorem Ux {A:Option Addr} {L c:Nat} {bs:List Gsl} (w:World) (hA:cu w 1 YZ A L bs) (hb:∀b∈bs,cu w 4 QZ b.A b.n b.xs) (ht:(tH bs).length≤1000000000) (hL2:L≤1000) :
 Calls Tryz.prog 91 #[.slice A L c] w fun e w'=>∃v,e =.returned v∧IJ w' w.heap.size v (tH bs)∧ah w w':=by
 have hL:=hA.1;have cG:=fun n W h=>aa4 (n:=n) W h
 replace cG:=ζ cG;replace hA:=ζ hA;replace hb:=ζ hb;go_enter Tryz.func91,Tryz.ntmps91
 go_wp2;go_loopw [3,11] (fun n i wr=>∃k:Nat,k≤L∧i =.int .i64 k∧n =.int .i64 ((tH (bs.take k)).length:Nat)∧w = wr) (fun _ i _=>L-(intOf i).toNat)
 case atStart=>exact⟨0,ω,rfl,rfl,rfl⟩
 case round=>
  obtain⟨k,hk,rfl,rfl,rfl⟩:=hrel;by_cases hlt:k<L
  ·obtain⟨bb,off,b,rfl,hs0,hx,hcell⟩:=hA.o.at_ hlt;have c0:w.cell? ⟨bb,off+k,none⟩=some (.slice b.A b.n b.c):=by simpa using hcell 0 _ rfl
   have h1:=O_ hx;have h2:=Y4 bs (k+1);have h3:=(hb.o b (List.mem_of_getElem? hx)).1;rw[h1,List.length_append,h3] at h2;have h4:(tH (bs.take (k+1))).length=(tH (bs.take k)).length+b.n:=by rw[h1,List.length_append,h3]
   generalize hY:(tH (bs.take (k+1))).length=Y at *
   replace hY:=ζ hY;generalize (tH (bs.take k)).length=X at *
   have lK:(k:Int)<(L:Int):=ω;have h5:¬((X:Int)+(b.n:Int)<0):=ω;have h6:0≤(X:Int)∧(X:Int)≤1000000000∧(b.n:Int)≤1000000000:=ω;replace h4:=ζ h4;clear h1 hx hcell h3;go_wp2;go_roundw
   case rel=>exact⟨k+1,ω,ν,by rw[hY.o,h4.o,Int.natCast_add],trivial⟩
   case measure=>exact ψ
  ·obtain rfl:k=L:=ω;rw[List.take_of_length_le ω];go_wp2_with fail;refine (cG.out _ _ ω).mono ?_;rintro e w1 ⟨v1,rfl,hO,hG⟩;have hO0:Hid (IJ w1 w.heap.size v1 (tH (bs.take 0))):=hO;replace hG:=ζ hG;clear hO cG;go_wp2;go_loopw [6,27] (fun v i wx=>∃j:Nat,j≤k∧i =.int .i64 j∧Hid (IJ wx w.heap.size v (tH (bs.take j)))∧Hid (ah w wx)) (fun _ i _=>k-(intOf i).toNat)
   case atStart=>exact⟨0,ω,rfl,hO0,hG⟩
   case round=>
    clear hO0 hG;obtain⟨j,hj,rfl,hO,hG⟩:=hrel;by_cases hjl:j < k
    ·obtain⟨bb,off,b,rfl,hs0,hx,hcell⟩:=(hA.o.keep hG.o).at_ hjl;have c0:wr.cell? ⟨bb,off+j,none⟩=some (.slice b.A b.n b.c):=by simpa using hcell 0 _ rfl
     have h1:=O_ hx;have h2:=Y4 bs (j + 1);have TQ:=(hb.o b (List.mem_of_getElem? hx)).keep hG.o;have h3:=TQ.1;rw[h1,List.length_append,h3] at h2;have lK:(j:Int)<(k:Int):=ω;replace h1:=ζ h1;replace TQ:=ζ TQ;clear hx hcell h3;go_wp2_with (at_builtin;(refine iD amd rfl (.tmp 31) (.tmp 32) rfl hO.o rfl rfl TQ.o YL aoh hG.o.size (by unfold maxLen;omega) ω ?_;intro v2 w2 l9 jX hv2;clear hv2;(have fG:=ζ (hG.o.aP jX hO.o.fH));(replace l9:=ζ l9);clear jX));go_roundw
     case rel=>exact⟨j + 1,ω,ν,by rw[h1.o];exact l9,fG⟩
     case measure=>exact ψ
    ·obtain rfl:j = k:=ω;have iM:=hO.o;rw[List.take_of_length_le ω] at iM;go_wp2;go_ret;exact⟨_,rfl,iM,hG.o⟩
theorem aV {α:Type} {w:World} {b0 k g:Nat} {e e':TypeId} {enc:α→List Value} {v:Value} {xs:List α} {cur:Array Value} {fz:Nat×Nat} (h:Own w b0 e k enc v xs) (hg:w.heap[g]? = some (.cells cur e' fz)) (hne:e≠e'):v.ownBlock≠some g:=by
 intro hv;rcases h.2 with⟨h5,_⟩ | ⟨g',cap,cur',h5,_,hh,_⟩
 ·rw[h5] at hv;cases hv
 ·rw[h5] at hv;simp only[Value.ownBlock,Option.some.injEq] at hv;subst hv;rw[hh] at hg;simp only[Option.some.injEq,Obj.cells.injEq] at hg;exact hne hg.2.1
theorem bD {α:Type} {w:World} {b0 k g:Nat} {e:TypeId} {enc:α→List Value} {v:Value} {xs:List α} (h:Own w b0 e k enc v xs) (hv:v.ownBlock=some g):∃cur,w.heap[g]? = some (.cells cur e (0,0)):=by
 rcases h.2 with⟨h5,_⟩ | ⟨g',cap,cur',h5,_,hh,_⟩
 ·rw[h5] at hv;cases hv
 ·rw[h5] at hv;simp only[Value.ownBlock,Option.some.injEq] at hv;subst hv;exact⟨_,hh⟩
theorem Own.kept' {α:Type} {w w':World} {b0 k:Nat} {e:TypeId} {enc:α→List Value} {v:Value} {xs:List α} {row:Option Nat} (h:Own w b0 e k enc v xs) (hg:w.grownBy w' row) (hne:∀g,row=some g→v.ownBlock≠some g):Own w' b0 e k enc v xs:=by
 refine World.ownsRow.kept h hg ?_;cases hv:v.ownBlock with
 | none=>exact .inl rfl
 | some g=>exact .inr (fun hr=>hne g hr.symm hv)
theorem Own.ada {α:Type} {w:World} {base k n g cap:Nat} {e:TypeId} {enc:α→List Value} {xs:List α} (h:Own w base e k enc (.slice (some ⟨g,0,none⟩) n cap) xs) (hk:∀x,(enc x).length=k) (GR:0<k) {i j:Nat} (hi:i < n) (hj:j < k) {x:α} {u:Value}
 (hx:∀y,xs[i]? = some y→enc x = (enc y).set j u):Own (w.setCell ⟨g,i * k+j,none⟩ u) base e k enc (.slice (some ⟨g,0,none⟩) n cap) (xs.set i x):=by
 obtain⟨cur,hl,hb,hh,zF,hcm,hcs,hc⟩:=h.uH hk;have hlt:i * k+k≤cap*k:=by have:=Nat.mul_le_mul_right k (show i + 1≤cap by omega);rw[Nat.add_mul] at this;omega
 have hh2:(w.setCell ⟨g,i * k+j,none⟩ u).heap[g]? = some (.cells (cur.setIfInBounds (i * k+j) u) e (0,0)):=by
  simp[World.setCell,Array.getElem?_modify,hh]
 have hl':(xs.set i x).length=n:=by rw[List.length_set];exact hl
 have:=Own.mk_ (xs:=xs.set i x) (cap:=cap) hk GR hb hh2 ω hcm (by simpa using hcs) (fun q hq r hr=>by
  rw[List.getElem_set];by_cases hq':i = q
  ·subst hq';rw[if_pos rfl,hx _ (List.getElem?_eq_getElem ω),List.getElem?_set];by_cases hr':j = r
   ·subst hr';rw[if_pos rfl,if_pos (by rw[hk];exact hr),Array.getElem?_setIfInBounds];simp;omega
   ·rw[if_neg hr',Array.getElem?_setIfInBounds,if_neg ω];exact hc i ω r hr
  ·rw[if_neg hq',Array.getElem?_setIfInBounds,if_neg (by
    intro h4;rcases Nat.lt_or_ge q i with h6 | h6
    ·have:=Nat.mul_le_mul_right k (show q+1≤i from h6);rw[Nat.add_mul] at this;omega
    ·have:=Nat.mul_le_mul_right k (show i + 1≤q by omega);rw[Nat.add_mul] at this;omega)]
   exact hc q ω r hr)
 rwa [hl'] at this
structure dW (w:World) (b0 RB:Nat) (vs:List Value) (rs:List (List dA)):Prop where
 row:w.heap[RB]? = some (.cells vs.toArray 137 (0,0))
 len:vs.length=rs.length
 own:∀(r:Nat) v gs,vs[r]? = some v→rs[r]? = some gs→IJ w b0 v gs
 apart:∀(r s:Nat) v u g,vs[r]? = some v→vs[s]? = some u→r≠s→v.ownBlock=some g→u.ownBlock≠some g
 ids:∀(r:Nat) (gs:List dA) (k:Nat) (x:dA),rs[r]? = some gs→gs[k]? = some x→Own w b0 33 1 jC x.iv x.ids
 IE:∀(r:Nat) (gs:List dA) (k:Nat) (x:dA),rs[r]? = some gs→gs[k]? = some x→Own w b0 88 2 eu x.bv x.eY
 Nb:∀(r s k j:Nat) (gs hs:List dA) (x y:dA) (g:Nat),rs[r]? = some gs→gs[k]? = some x→rs[s]? = some hs→hs[j]? = some y→(r≠s∨k≠j)→x.iv.ownBlock=some g→y.iv.ownBlock≠some g
section
variable {w w':World} {b0 RB:Nat} {vs:List Value} {rs:List (List dA)}
theorem dW.lt (h:dW w b0 RB vs rs):RB<w.heap.size:=(Array.getElem?_eq_some_iff.1 h.row).1
theorem dW.grows (h:dW w b0 RB vs rs) (hg:ah w w'):dW w' b0 RB vs rs where
 row:=(hg.below.block RB h.lt).trans h.row
 len:=h.len
 own:=fun r v gs h1 h2=>(h.own r v gs h1 h2).grows hg
 apart:=h.apart
 ids:=fun r gs k x h1 h2=>(h.ids r gs k x h1 h2).grows hg
 IE:=fun r gs k x h1 h2=>(h.IE r gs k x h1 h2).grows hg
 Nb:=h.Nb
theorem dW.other (h:dW w b0 RB vs rs) {m:Nat} (hg:w.grownBy w' (some m)) (hm:∀cur e fz,w.heap[m]?≠some (.cells cur e fz)):dW w' b0 RB vs rs where
 row:=(hg.block RB h.lt (by intro hh;injection hh with hh;subst hh;exact hm _ _ _ h.row)).trans h.row
 len:=h.len
 own:=fun r v gs h1 h2=>(h.own r v gs h1 h2).kept' hg (fun g iE hv=>by injection iE with iE;subst iE;obtain⟨cur,hc⟩:=bD (h.own r v gs h1 h2) hv;exact hm _ _ _ hc)
 apart:=h.apart
 ids:=fun r gs k x h1 h2=>(h.ids r gs k x h1 h2).kept' hg (fun g iE hv=>by injection iE with iE;subst iE;obtain⟨cur,hc⟩:=bD (h.ids r gs k x h1 h2) hv;exact hm _ _ _ hc)
 IE:=fun r gs k x h1 h2=>(h.IE r gs k x h1 h2).kept' hg (fun g iE hv=>by injection iE with iE;subst iE;obtain⟨cur,hc⟩:=bD (h.IE r gs k x h1 h2) hv;exact hm _ _ _ hc)
 Nb:=h.Nb
theorem Jz {α:Type} {w:World} {b0 k g:Nat} {e:TypeId} {enc:α→List Value} {v:Value} {xs:List α} (h:Own w b0 e k enc v xs) (hv:v.ownBlock=some g):g < w.heap.size:=(World.ownsRow.lt h g hv).2
theorem dW.push (h:dW w b0 RB vs rs) {r:Nat} {v v':Value} {gs:List dA} {x:dA} (hv:vs[r]? = some v) (kU:rs[r]? = some gs) {w1:World} (hO:IJ w1 b0 v' (gs++[x])) (hg:w.grownBy w1 v.ownBlock) (hv':v'.ownBlock=v.ownBlock∨∃j,v'.ownBlock=some j∧w.heap.size≤j)
 (hid:x.iv=.slice none 0 0∧x.ids=[]) (hby:Own w b0 88 2 eu x.bv x.eY) :
 dW (w1.setCell ⟨RB,r,none⟩ v') b0 RB (vs.set r v') (rs.set r (gs++[x])):=by
 have oC:r < vs.length:=(List.getElem?_eq_some_iff.1 hv).1;have hOv:=h.own r v gs hv kU;have auo:∀g,v.ownBlock=some g→g≠RB:=fun g hg e=>aV hOv h.row δ (by rw[hg,e])
 have zQ:w1.heap[RB]? = some (.cells vs.toArray 137 (0,0)):=(hg.block RB h.lt (fun e=>auo RB e.symm rfl)).trans h.row;have aG:=aj w1 ⟨RB,r,none⟩ v';have atS:Own w1 b0 88 2 eu x.bv x.eY:=hby.kept' hg (fun g iE hv2=>by obtain⟨cur,hc⟩:=bD hOv iE;exact aV hby hc δ hv2);have asC:(vs.set r v').length=(rs.set r (gs++[x])).length:=by simp[h.len]
 refine⟨?_,asC,?_,?_,?_,?_,?_⟩
 ·simp[World.setCell,Array.getElem?_modify,zQ]
 ·intro s u hs h1 h2;by_cases kX:r = s
  ·subst kX;rw[List.getElem?_set_self oC] at h1;rw[List.getElem?_set_self (by rw[←h.len];exact oC)] at h2;injection h1 with h1;injection h2 with h2
   subst h1 h2;exact hO.kept' aG (fun g iE hv2=>by injection iE with iE;subst iE;exact aV hO zQ δ hv2)
  ·rw[List.getElem?_set_ne kX] at h1 h2;have h3:=h.own s u hs h1 h2;have h4:IJ w1 b0 u hs:=h3.kept' hg (fun g iE hv2=>h.apart r s v u g hv h1 kX iE hv2);exact h4.kept' aG (fun g iE hv2=>by injection iE with iE;subst iE;exact aV h4 zQ δ hv2)
 ·intro s t u1 u2 g h1 h2 hst hg1 hg2;have key:∀(t:Nat) u2,vs[t]? = some u2→t≠r→v'.ownBlock=some g→u2.ownBlock=some g→False:=fun t u2 h2 htr hg1 hg2=>by
   have h2l:=Jz (h.own t u2 _ h2 (List.getElem?_eq_getElem (by rw[←h.len];exact (List.getElem?_eq_some_iff.1 h2).1))) hg2;rcases hv' with hv' | ⟨j,hj,hjs⟩
   ·rw[hv'] at hg1;exact h.apart r t v u2 g hv h2 (Ne.symm htr) hg1 hg2
   ·rw[hj] at hg1;injection hg1 with hg1;omega
  by_cases kX:r = s
  ·subst kX;rw[List.getElem?_set_self oC] at h1;rw[List.getElem?_set_ne hst] at h2;injection h1 with h1;subst h1
   exact key t u2 h2 (Ne.symm hst) hg1 hg2
  ·rw[List.getElem?_set_ne kX] at h1;by_cases hrt:r = t
   ·subst hrt;rw[List.getElem?_set_self oC] at h2;injection h2 with h2;subst h2
    exact key s u1 h1 (Ne.symm kX) hg2 hg1
   ·rw[List.getElem?_set_ne hrt] at h2;exact h.apart s t u1 u2 g h1 h2 hst hg1 hg2
 ·intro s hs k y h1 h2;have key:Own w b0 33 1 jC y.iv y.ids:=by
   by_cases kX:r = s
   ·subst kX;rw[List.getElem?_set_self (by rw[←h.len];exact oC)] at h1;injection h1 with h1;subst h1
    rw[List.getElem?_append] at h2;split at h2
    ·exact h.ids r gs k y kU h2
    ·have:y = x:=by have:=List.mem_of_getElem? h2;simpa using this
     subst this;rw[hid.1,hid.2];exact Own.jA _ _ _ _ _
   ·rw[List.getElem?_set_ne kX] at h1;exact h.ids s hs k y h1 h2
  have JM:Own w1 b0 33 1 jC y.iv y.ids:=key.kept' hg (fun g iE hv2=>by obtain⟨cur,hc⟩:=bD hOv iE;exact aV key hc δ hv2);exact JM.kept' aG (fun g iE hv2=>by injection iE with iE;subst iE;exact aV JM zQ δ hv2)
 ·intro s hs k y h1 h2;have JM:Own w1 b0 88 2 eu y.bv y.eY:=by
   by_cases kX:r = s
   ·subst kX;rw[List.getElem?_set_self (by rw[←h.len];exact oC)] at h1;injection h1 with h1;subst h1
    rw[List.getElem?_append] at h2;split at h2
    ·have:=h.IE r gs k y kU h2;exact this.kept' hg (fun g iE hv2=>by obtain⟨cur,hc⟩:=bD hOv iE;exact aV this hc δ hv2)
    ·have:y = x:=by have:=List.mem_of_getElem? h2;simpa using this
     subst this;exact atS
   ·rw[List.getElem?_set_ne kX] at h1;have:=h.IE s hs k y h1 h2;exact this.kept' hg (fun g iE hv2=>by obtain⟨cur,hc⟩:=bD hOv iE;exact aV this hc δ hv2)
  exact JM.kept' aG (fun g iE hv2=>by injection iE with iE;subst iE;exact aV JM zQ δ hv2)
 ·have old:∀(s:Nat) (hs:List dA) (k:Nat) (y:dA) (g:Nat),(rs.set r (gs++[x]))[s]? = some hs→hs[k]? = some y→y.iv.ownBlock=some g→∃hs',rs[s]? = some hs'∧hs'[k]? = some y:=fun s hs k y g h1 h2 h3=>by
   by_cases kX:r = s
   ·subst kX;rw[List.getElem?_set_self (by rw[←h.len];exact oC)] at h1;injection h1 with h1;subst h1
    rw[List.getElem?_append] at h2;split at h2
    ·exact⟨gs,kU,h2⟩
    ·have:y = x:=by have:=List.mem_of_getElem? h2;simpa using this
     subst this;rw[hid.1] at h3;cases h3
   ·rw[List.getElem?_set_ne kX] at h1;exact⟨hs,h1,h2⟩
  intro s t k j I9 hs1 a b g h1 h2 h3 h4 hne hg1 hg2;obtain⟨aie,o1,o2⟩:=old s I9 k a g h1 h2 hg1;obtain⟨aee,o3,o4⟩:=old t hs1 j b g h3 h4 hg2;exact h.Nb s t k j aie aee a b g o1 o2 o3 o4 hne hg1 hg2
theorem dW.upd (h:dW w b0 RB vs rs) {r k gb n cap:Nat} {gs:List dA} {x x':dA} (hv:vs[r]? = some (.slice (some ⟨gb,0,none⟩) n cap)) (kU:rs[r]? = some gs) (hx:gs[k]? = some x) {w1:World}
 (hO:Own w1 b0 33 1 jC x'.iv x'.ids) (hg:w.grownBy w1 x.iv.ownBlock) (hv':x'.iv.ownBlock=x.iv.ownBlock∨∃j,x'.iv.ownBlock=some j∧w.heap.size≤j) (hbv:x'.bv=x.bv∧x'.eY=x.eY) (aln:QZ x'=(QZ x).set 3 x'.iv) :
 dW (w1.setCell ⟨gb,k*4+3,none⟩ x'.iv) b0 RB vs (rs.set r (gs.set k x')):=by
 have oC:r < rs.length:=(List.getElem?_eq_some_iff.1 kU).1;have Ey:k<gs.length:=(List.getElem?_eq_some_iff.1 hx).1;have hOx:=h.ids r gs k x kU hx;have hOv:=h.own r _ gs hv kU;have hnl:=hOv.len YL;obtain⟨alY,hcv⟩:=bD hOv (g:=gb) rfl;have hne:∀g,x.iv.ownBlock=some g→∀(α:Type) (v:Value) (e:TypeId) (kk:Nat) (enc:α→List Value) (xs:List α),Own w b0 e kk enc v xs→e≠33→v.ownBlock≠some g:=fun g hg α v e kk enc xs ho he=>by
  obtain⟨cur,hc⟩:=bD hOx hg;exact aV ho hc he
 have zQ:w1.heap[RB]? = some (.cells vs.toArray 137 (0,0)):=(hg.block RB h.lt (fun e=>aV hOx h.row δ e.symm)).trans h.row;have Xu:w1.heap[gb]? = some (.cells alY 125 (0,0)):=(hg.block gb (Array.getElem?_eq_some_iff.1 hcv).1 (fun e=>aV hOx hcv δ e.symm)).trans hcv;have aG:=aj w1 ⟨gb,k*4+3,none⟩ x'.iv;have apg:gb≠RB:=fun e=>by subst e;rw[h.row] at hcv;simp only[Option.some.injEq,Obj.cells.injEq] at hcv;exact absurd hcv.2.1 δ
 refine⟨?_,by simp[h.len],?_,h.apart,?_,?_,?_⟩
 ·exact (aG.block RB (Array.getElem?_eq_some_iff.1 zQ).1 (by simpa using Ne.symm apg)).trans zQ
 ·intro s u hs h1 h2;by_cases kX:r = s
  ·subst kX;rw[hv] at h1;rw[List.getElem?_set_self oC] at h2;injection h1 with h1;injection h2 with h2
   subst h1 h2;have tq:IJ w1 b0 (.slice (some ⟨gb,0,none⟩) n cap) gs:=hOv.kept' hg (fun g iE hv2=>hne g iE _ _ _ _ _ _ hOv δ hv2);exact tq.ada YL ω ω ω (fun y hy=>by rw[hx] at hy;injection hy with hy;subst hy;exact aln)
  ·rw[List.getElem?_set_ne kX] at h2;have h3:=h.own s u hs h1 h2;have h4:IJ w1 b0 u hs:=h3.kept' hg (fun g iE hv2=>hne g iE _ _ _ _ _ _ h3 δ hv2);exact h4.kept' aG (fun g iE hv2=>by injection iE with iE;subst iE;exact h.apart r s _ u gb hv h1 kX rfl hv2)
 ·intro s hs j y h1 h2;have JM:Own w1 b0 33 1 jC y.iv y.ids:=by
   by_cases kX:r = s
   ·subst kX;rw[List.getElem?_set_self oC] at h1;injection h1 with h1;subst h1
    by_cases hkj:k=j
    ·subst hkj;rw[List.getElem?_set_self Ey] at h2;injection h2 with h2;subst h2
     exact hO
    ·rw[List.getElem?_set_ne hkj] at h2;exact (h.ids r gs j y kU h2).kept' hg (fun g iE hv2=>h.Nb r r k j gs gs x y g kU hx kU h2 (.inr hkj) iE hv2)
   ·rw[List.getElem?_set_ne kX] at h1;exact (h.ids s hs j y h1 h2).kept' hg (fun g iE hv2=>h.Nb r s k j gs hs x y g kU hx h1 h2 (.inl kX) iE hv2)
  exact JM.kept' aG (fun g iE hv2=>by injection iE with iE;subst iE;exact aV JM Xu δ hv2)
 ·intro s hs j y h1 h2;have aon:Own w b0 88 2 eu y.bv y.eY:=by
   by_cases kX:r = s
   ·subst kX;rw[List.getElem?_set_self oC] at h1;injection h1 with h1;subst h1
    by_cases hkj:k=j
    ·subst hkj;rw[List.getElem?_set_self Ey] at h2;injection h2 with h2;subst h2
     rw[hbv.1,hbv.2];exact h.IE r gs k x kU hx
    ·rw[List.getElem?_set_ne hkj] at h2;exact h.IE r gs j y kU h2
   ·rw[List.getElem?_set_ne kX] at h1;exact h.IE s hs j y h1 h2
  have JM:Own w1 b0 88 2 eu y.bv y.eY:=aon.kept' hg (fun g iE hv2=>hne g iE _ _ _ _ _ _ aon δ hv2);exact JM.kept' aG (fun g iE hv2=>by injection iE with iE;subst iE;exact aV JM Xu δ hv2)
 ·have old:∀(s:Nat) (hs:List dA) (j:Nat) (y:dA),(rs.set r (gs.set k x'))[s]? = some hs→hs[j]? = some y→(s = r∧j = k∧y = x')∨((s≠r∨j≠k)∧∃hs',rs[s]? = some hs'∧hs'[j]? = some y):=fun s hs j y h1 h2=>by
   by_cases kX:r = s
   ·subst kX;rw[List.getElem?_set_self oC] at h1;injection h1 with h1;subst h1
    by_cases hkj:k=j
    ·subst hkj;rw[List.getElem?_set_self Ey] at h2;injection h2 with h2
     exact .inl ⟨rfl,rfl,h2.symm⟩
    ·rw[List.getElem?_set_ne hkj] at h2;exact .inr ⟨.inr (Ne.symm hkj),gs,kU,h2⟩
   ·rw[List.getElem?_set_ne kX] at h1;exact .inr ⟨.inl (Ne.symm kX),hs,h1,h2⟩
  have key:∀(t:Nat) (hs:List dA) (j:Nat) (y:dA) (g:Nat),(t≠r∨j≠k)→rs[t]? = some hs→hs[j]? = some y→x'.iv.ownBlock=some g→y.iv.ownBlock=some g→False:=fun t hs j y g Np o1 o2 hg1 hg2=>by
   have hlt:=Jz (h.ids t hs j y o1 o2) hg2;rcases hv' with hv' | ⟨q,hq,hqs⟩
   ·rw[hv'] at hg1;exact h.Nb r t k j gs hs x y g kU hx o1 o2 (Np.imp Ne.symm Ne.symm) hg1 hg2
   ·rw[hq] at hg1;injection hg1 with hg1;omega
  intro s t i j I9 hs1 a b g h1 h2 h3 h4 Np hg1 hg2;rcases old s I9 i a h1 h2 with⟨rfl,rfl,rfl⟩ | ⟨n1,aie,o1,o2⟩
  ·rcases old t hs1 j b h3 h4 with⟨rfl,rfl,rfl⟩ | ⟨n2,aee,o3,o4⟩
   ·rcases Np with h5 | h5 <;> exact h5 rfl
   ·exact key t aee j b g n2 o3 o4 hg1 hg2
  ·rcases old t hs1 j b h3 h4 with⟨rfl,rfl,rfl⟩ | ⟨n2,aee,o3,o4⟩
   ·exact key s aie i a g n1 o1 o2 hg2 hg1
   ·exact h.Nb s t i j aie aee a b g o1 o2 o3 o4 Np hg1 hg2
end
end Go.Proofs.YtbhikkgpcmkonaaGreatDoor
