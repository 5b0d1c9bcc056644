/- Parts: LabB AlrD AlrE LwA CatB -/
import Derived.Test.YtbhikkgpcmkonaaGreatDoorVo0
import Derived.Test.YtbhikkgpcmkonaaGreatDoorVo3
import Derived.Test.YtbhikkgpcmkonaaGreatDoorVo8
import Derived.Test.YtbhikkgpcmkonaaGreatDoorVo6
import Derived.Lib.AppendZeros
import Derived.Test.YtbhikkgpcmkonaaGreatDoorVo5
set_option maxRecDepth 100000
set_option maxHeartbeats 12800000
namespace Go.Proofs.YtbhikkgpcmkonaaGreatDoor
open Go.RowKit
def encI (n:Nat):List Value:=[.int .i64 (n:Int)]
theorem Fe (n:Nat):(encI n).length=1:=rfl
theorem VE (n:Nat):∀u∈encI n,u.oneCell'=true:=by intro u hu;simp[encI] at hu;subst hu;rfl
theorem aoT:fB Tryz.prog 71 3 1 8:=fB.mk' (z:=.int .i64 0) Tryz.underlying71 κ rfl ω
def AX (c k:Nat):List Nat:=(List.range k).filter fun j=>c.testBit j
theorem acQ {c k:Nat} (h:c.testBit k=true):AX c (k+1)=AX c k++[k]:=by
 unfold AX;rw[List.range_succ,List.filter_append];simp[h]
theorem ag3 {c k:Nat} (h:c.testBit k=false):AX c (k+1)=AX c k:=by
 unfold AX;rw[List.range_succ,List.filter_append];simp[h]
theorem Qh (c k:Nat):(AX c k).length≤k:=by
 unfold AX;exact Nat.le_trans (List.length_filter_le _ _) σ
theorem TG (c:Nat):(B_ c).length≤32:=Qh c 32
theorem Le (c k:Nat):c.testBit k=decide (c / 2 ^ k % 2=1):=by
 rw[Nat.testBit_eq_decide_div_mod_eq]
theorem IB (x:gy) (w:World) (hx:x.ok) :
 Calls Tryz.prog 56 #[.agg #[.int .i64 x.lv,.int .u32 (x.c:Int)]] w fun e w'=>∃v,e =.returned v∧Own w' w.heap.size 3 1 encI v (B_ x.c)∧ah w w':=by
 have Uh:(x.c:Int)<4294967296:=by unfold gy.ok at hx;omega
 go_enter Tryz.func56,Tryz.ntmps56
 go_wp2;go_loopw [3,4,5] (fun v r i wr=>∃(k:Nat) (R:Int),k≤32∧i =.int .i64 k∧r =.int .u32 R∧0≤R∧R<4294967296∧Hid (R=((x.c / 2 ^ k:Nat):Int))∧Own wr w.heap.size 3 1 encI v (AX x.c k)∧ah w wr) (fun _ _ i _=>32-(intOf i).toNat)
 case atStart=>exact⟨0,x.c,ω,rfl,rfl,ω,Uh,(by simp:(x.c:Int)=((x.c / 2 ^ 0:Nat):Int)),Own.iO _ _ _ _ _,(ah.refl w).alloc _⟩
 case round=>
  obtain⟨k,R,hk,rfl,rfl,I5,hR,hRk,hown,hg⟩:=hrel;by_cases hlt:k<32
  ·have f_:R / 2=((x.c / 2 ^ (k+1):Nat):Int):=by rw[hRk.o,Nat.pow_succ,←Nat.div_div_eq_div_mul];omega
   have ab7:=Le x.c k;have awy:=hRk.o;have hl:=Qh x.c k;have hsz:=hg.size;replace f_:=ζ f_;clear Uh hx;cases hb:x.c.testBit k
   ·have hr1:R % 2=0:=by
     rw[hb] at ab7;simp only[Bool.false_eq,decide_eq_false_iff_not] at ab7;omega
    have hno:=ζ (ag3 hb);clear hb ab7 hRk awy hl;go_wp2;go_roundw
    case rel=>exact⟨k+1,R / 2,ω,ν,rfl,ω,ω,f_.o,by rw[hno.o];exact hown,hg⟩
    case measure=>exact ψ
   ·have hr1:R % 2=1:=by
     rw[hb] at ab7;simp only[Bool.true_eq,decide_eq_true_eq] at ab7;omega
    have kQ:=ζ (acQ hb);clear hb ab7 hRk awy;replace hl:=ζ hl;go_wp2_with (at_builtin;refine dB (x:=k) aoT rfl (.tmp 15) (.tmp 17) rfl (hown.alloc _) rfl ⟨wr.heap.size,0,none⟩ rfl rfl (iK (by exact heap_alloc_new wr _)) (VE k) (by simp;omega) (by have:=hl.o;unfold maxLen;omega) (by have:=hl.o;omega) (fun v1 w1 hown1 hgr hat=> ?_));have hb1:Below w.heap.size wr w1:=Own.below (hown.alloc _) (by
     repeat (first | assumption | exact Below.refl _ _ | apply Below.drew | apply below_drewN | (refine Below.Jm ?_ (by first | rfl | simp) (by first | omega | (simp;omega) | simp)) | (refine Below.alloc ?_ (by first | omega | (simp;omega) | simp) _) | (refine Below.setCell ?_ (by first | omega | (simp;omega) | simp) _))
    ) (Nat.le_refl _) (by simp;omega) hgr
    clear hgr hat;go_wp2;go_roundw
    case rel=>exact⟨k+1,R / 2,ω,ν,rfl,ω,ω,f_.o,by rw[kQ.o];exact hown1,hg.iw hb1⟩
    case measure=>exact ψ
  ·obtain rfl:k=32:=ω;clear hRk;go_wp2;go_ret;exact⟨u3,rfl,hown,hg⟩
theorem anU (A:Option Addr) (m c:Nat) (xs:List Nat) (j:Nat) (w:World) (h:bW w 1 encI A m xs) (hm:m≤maxLen) (g:FuncId) (hgf:g = 57) :
 Calls Tryz.prog g #[.slice A m c,.int .i64 j] w fun e w'=>e =.returned (.bool (decide (j∈xs)))∧w'=w:=by
 subst hgf;unfold maxLen at hm;have hlen:=h.1;go_enter Tryz.func57,Tryz.ntmps57
 go_wp2;go_loop [5] (fun i=>∃k:Nat,k≤m∧i =.int .i64 k∧Hid (j∉xs.take k)) (fun i=>m - (intOf i).toNat)
 case atStart=>exact⟨0,ω,rfl,by simp[Hid]⟩
 case round=>
  obtain⟨k,hk,rfl,hno⟩:=hrel;by_cases hlt:k<m
  ·obtain⟨b,off,y,rfl,_,hy,hcell⟩:=h.at_ hlt;have c0:w.cell? ⟨b,off+k,none⟩=some (.int .i64 y):=by simpa using hcell 0 _ rfl
   by_cases hyj:y = j
   ·have hb:((y:Int)==(j:Int))=true:=by simp[hyj]
    have aN:decide (j∈xs)=true:=by rw[decide_eq_true_eq,←hyj];exact List.mem_of_getElem? hy
    replace aN:=ζ aN;clear hyj hno hy hcell h hlen;go_wp2;go_ret;exact⟨aJ aN.o.symm,rfl⟩
   ·have hb:((y:Int)==(j:Int))=false:=by rw[beq_eq_false_iff_ne];omega
    have aq7:j∉xs.take (k+1):=by
     rw[List.take_add_one,hy];simp[hno.o,Ne.symm hyj]
    replace aq7:=ζ aq7;clear hyj hno hy hcell h hlen;go_wp2;go_round
    case rel=>exact⟨k+1,ω,ν,aq7.o⟩
    case measure=>exact ψ
  ·obtain rfl:k=m:=ω;have aN:decide (j∈xs)=false:=by rw[decide_eq_false_iff_not,←List.take_of_length_le (Nat.le_of_eq hlen)];exact hno.o
   replace aN:=ζ aN;clear hno h hlen;go_wp2;go_ret;exact⟨aJ aN.o.symm,rfl⟩
theorem KY {w:World} {g m k lc:Nat} {src:List UInt8} {A:Option Addr} {lv f t:Int} (h:aG w g 57 #[.string ⟨src.toArray⟩,.slice A m k,.int .i64 lv,.int .u32 (lc:Int),.int .i64 f,.int .i64 t]) :
 w.cell? ⟨g,0,none⟩=some (.string ⟨src.toArray⟩)∧w.cell? ⟨g,1,none⟩=some (.slice A m k)∧w.cell? ⟨g,2,none⟩=some (.int .i64 lv)∧w.cell? ⟨g,3,none⟩=some (.int .u32 (lc:Int))∧w.cell? ⟨g,4,none⟩=some (.int .i64 f)∧w.cell? ⟨g,5,none⟩=some (.int .i64 t)∧g < w.heap.size:=
 ⟨h.cell 0,h.cell 1,h.cell 2,h.cell 3,h.cell 4,h.cell 5,h.lt⟩
theorem qG {w:World} {g:Nat} (h:aG w g 57 BP) :
 w.cell? ⟨g,0,none⟩=some (.string ⟨#[]⟩)∧w.cell? ⟨g,1,none⟩=some (.slice none 0 0)∧w.cell? ⟨g,2,none⟩=some (.int .i64 0)∧w.cell? ⟨g,3,none⟩=some (.int .u32 0)∧w.cell? ⟨g,4,none⟩=some (.int .i64 0)∧w.cell? ⟨g,5,none⟩=some (.int .i64 0)∧(∀i,w.frozen? ⟨g,i,none⟩=false)∧g < w.heap.size:=
 ⟨h.cell 0,h.cell 1,h.cell 2,h.cell 3,h.cell 4,h.cell 5,fun i=>h.frozen i,h.lt⟩
theorem aav {p:fQ} {rec:List UInt8} {a:iH} {now:Int} (h:dY p.receivers rec=none):kM p rec a now=none:=by unfold kM;rw[h]
theorem aeJ {p:fQ} {rec:List UInt8} {a:iH} {now:Int} (h:bg a = false∨eX a now=false):kM p rec a now=none:=by
 unfold kM;cases dY p.receivers rec with
 | none=>rfl
 | some tO=>rcases h with h | h <;> simp[h]
theorem aeK {p:fQ} {rec:List UInt8} {a:iH} {now:Int} {tO:gy} (h:dY p.receivers rec=some tO) (h1:bg a = true) (h2:eX a now=true):kM p rec a now=iR p a tO:=by
 unfold kM;rw[h];simp[h1,h2]
theorem aiP {p:bQ} {rec:List UInt8} {a:dD} {now:Int} (w:World) (hp:p.At w) (ha:a.At w) :
 Calls Tryz.prog 84 #[p.val,.string ⟨rec.toArray⟩,iV a,.int .i64 now] w fun e w'=>∃v,e =.returned (.tuple #[v,.bool (kM p.aU rec a.a now).isSome])∧qm w' w.heap.size (kM p.aU rec a.a now) v∧ah w w':=by
 have cF:=fun W (hW:ah w W)=>zD (c:=p.r.k) (n:=rec) W (hp.r.arr.keep hW) hp.r.le
 have cR:=fun W (hW:ah w W)=>wB W (ha.keep hW)
 have cT:=fun W=>DX a now W
 have LH:dY p.aU.receivers rec=none→kM p.aU rec a.a now=none:=aav;have hS1:bg a.a = false∨eX a.a now=false→kM p.aU rec a.a now=none:=aeJ;have tZ:p.aU.receivers=p.r.l:=rfl;rw[tZ] at LH;have cC:∀tO,dY p.r.l rec=some tO→∀W,ah w W→Calls Tryz.prog 72 #[p.val,iV a,.agg #[.int .i64 tO.lv,.int .u32 (tO.c:Int)]] W fun e w'=>∃v,e =.returned (.tuple #[v,.bool (iR p.aU a.a tO).isSome])∧qm w' W.heap.size (iR p.aU a.a tO) v∧ah W w':=fun tO oC W hW=>
  DZ W (hp.keep hW) (ha.keep hW) (by obtain⟨y,hy,rfl⟩:=zC oC;exact hp.r.Jy y hy)
 have Fp:∀tO,dY p.r.l rec=some tO→bg a.a = true→eX a.a now=true→kM p.aU rec a.a now=iR p.aU a.a tO:=fun tO oC h1 h2=>aeK (tZ ▸ oC) h1 h2
 generalize iR p.aU a.a = CU at *
 generalize kM p.aU rec a.a now=S at *
 generalize bg a.a = AB at *
 generalize eX a.a now=FI at *
 unfold iV bQ.val at *
 clear hp ha tZ;obtain⟨⟨sl,sA,sm,sk⟩,⟨rl,rA,rm,rk⟩,⟨el,eA,em,ek⟩,⟨al,aA,am,ak⟩,o,oA,om,ok,i,iA,im,ik⟩:=p;obtain⟨⟨src,fs,⟨lv,lc⟩,f,t⟩,A,m,k⟩:=a;simp only at cF cR cT cC LH Fp ⊢;replace cR:=ζ cR;replace cT:=ζ cT;replace cF:=ζ cF;generalize av8:dY rl rec=FL at *
 clear av8;cases FL with
 | none=>
  obtain rfl:=LH rfl;clear cR cT cC LH hS1 Fp;go_enter Tryz.func84,Tryz.ntmps84
  go_wp2_with fail;refine (cF.out _ γ).mono ?_;rintro e w1 ⟨rfl,hb1⟩;have br:aG w1 (w.heap.size+1+1) 57 BP:=(aG.Bh w _ _ _ _).grows hb1;have hG:Hid (ah w w1):=ζ ((((ah.refl w).alloc _).alloc _).alloc _ |>.trans hb1);have y0:=br.c0;have y1:=br.c1;have y2:=br.c2;have y3:=br.c3;have y4:=br.c4;have y5:=br.c5;have yf:=fun i=>br.frozen i
  have yl:=br.lt;clear cF hb1 br;go_wp2_with fail;refine bodyPost_ret (v:=.tuple #[jP,.bool false]) ?_ rfl ⟨jP,rfl,rfl,?_⟩
  ·simp only[results,Tryz.results84,jP];go_simp
  ·have hG:=hG.o;exact Γ
 | some tO=>
  replace cC:=ζ (cC tO rfl);replace hS1:=ζ hS1;have anX:=ζ (Fp tO rfl);generalize CU tO=C at *
  clear LH Fp;simp only[kW,Option.getD_some,Option.isSome_some] at cF;replace cF:=ζ cF.out;go_enter Tryz.func84,Tryz.ntmps84
  go_wp2_with fail;refine (cF.out _ γ).mono ?_;rintro e w1 ⟨rfl,hb1⟩;have bp:Hid (aG w1 w.heap.size 50 #[.slice sA sm sk,.slice rA rm rk,.slice eA em ek,.slice aA am ak,.slice oA om ok,.slice iA im ik]):=ζ ((((aG.new w _ _).alloc _).alloc _).grows hb1);have ba:Hid (aG w1 (w.heap.size+1) 57 #[.string ⟨src.toArray⟩,.slice A m k,.int .i64 lv,.int .u32 (lc:Int),.int .i64 f,.int .i64 t]):=ζ (((aG.kV w _ _ _).alloc _).grows hb1);have br:Hid (aG w1 (w.heap.size+1+1) 57 BP):=ζ ((aG.Bh w _ _ _ _).grows hb1);have hG:Hid (ah w w1):=ζ ((((ah.refl w).alloc _).alloc _).alloc _ |>.trans hb1);have sz1:w.heap.size+3≤w1.heap.size:=by have:=hb1.size;simp at this;omega
  clear cF hb1;replace bp:=ζ (bp.out.alloc (.cells #[.int .i64 tO.lv,.int .u32 (tO.c:Int)] 25));replace ba:=ζ (ba.out.alloc (.cells #[.int .i64 tO.lv,.int .u32 (tO.c:Int)] 25));replace br:=ζ (br.out.alloc (.cells #[.int .i64 tO.lv,.int .u32 (tO.c:Int)] 25));have hN:Hid (ah w (w1.alloc (.cells #[.int .i64 tO.lv,.int .u32 (tO.c:Int)] 25))):=ζ (hG.o.alloc _);have bl:Hid (aG (w1.alloc (.cells #[.int .i64 tO.lv,.int .u32 (tO.c:Int)] 25)) w1.heap.size 25 #[.int .i64 tO.lv,.int .u32 (tO.c:Int)]):=ζ (aG.new w1 _ _);obtain⟨x0,x1,x2,x3,x4,x5,xl⟩:=KY ba.out;obtain⟨y0,y1,y2,y3,y4,y5,yf,yl⟩:=qG br.out;go_wp2_with fail;refine (cR.out _ hN.o).mono ?_;rintro e w2 ⟨rfl,hb2⟩;replace bp:=ζ (bp.out.grows hb2);replace ba:=ζ (ba.out.grows hb2);replace br:=ζ (br.out.grows hb2);replace bl:=ζ (bl.out.grows hb2);replace hN:=ζ (hN.o.trans hb2);clear hb2 x0 x1 x2 x3 x4 x5 xl y0 y1 y2 y3 y4 y5 yf yl;obtain⟨x0,x1,x2,x3,x4,x5,xl⟩:=KY ba.out;obtain⟨y0,y1,y2,y3,y4,y5,yf,yl⟩:=qG br.out;clear cR;cases AB
  ·obtain rfl:=hS1.o (.inl (by trivial));clear cT cC hS1 anX;go_wp2_with fail;refine bodyPost_ret (v:=.tuple #[jP,.bool false]) ?_ rfl ⟨jP,rfl,rfl,?_⟩
   ·simp only[results,Tryz.results84,jP];go_simp
   ·have hN:=hN.o;exact Γ
  ·go_wp2_with fail;refine (cT.out _).mono ?_;rintro e w3 ⟨rfl,hb3⟩;replace bp:=ζ (bp.out.grows hb3);replace ba:=ζ (ba.out.grows hb3);replace br:=ζ (br.out.grows hb3);replace bl:=ζ (bl.out.grows hb3);replace hN:=ζ (hN.o.trans hb3);clear hb3 x0 x1 x2 x3 x4 x5 xl y0 y1 y2 y3 y4 y5 yf yl;obtain⟨x0,x1,x2,x3,x4,x5,xl⟩:=KY ba.out;obtain⟨y0,y1,y2,y3,y4,y5,yf,yl⟩:=qG br.out;clear cT;cases FI
   ·obtain rfl:=hS1.o (.inr (by trivial));clear cC hS1 anX;go_wp2_with fail;refine bodyPost_ret (v:=.tuple #[jP,.bool false]) ?_ rfl ⟨jP,rfl,rfl,?_⟩
    ·simp only[results,Tryz.results84,jP];go_simp
    ·have hN:=hN.o;exact Γ
   ·obtain rfl:=anX.o (by trivial) (by trivial);clear hS1 anX;have p0:_ = some (Value.slice sA sm sk):=bp.out.cell 0;have p1:_ = some (Value.slice rA rm rk):=bp.out.cell 1;have p2:_ = some (Value.slice eA em ek):=bp.out.cell 2;have p3:_ = some (Value.slice aA am ak):=bp.out.cell 3;have p4:_ = some (Value.slice oA om ok):=bp.out.cell 4;have p5:_ = some (Value.slice iA im ik):=bp.out.cell 5;have pl:=bp.out.lt;have l0:_ = some (Value.int .i64 tO.lv):=bl.out.cell 0;have l1:_ = some (Value.int .u32 (tO.c:Int)):=bl.out.cell 1;have ll:=bl.out.lt;go_wp2_with fail;refine (cC.out _ hN.o).mono ?_;rintro e w4 ⟨v,rfl,hv,hb4⟩;have sz3:=hN.o.size;replace hN:=ζ (hN.o.trans hb4);clear cC x0 x1 x2 x3 x4 x5 xl y0 y1 y2 y3 y4 y5 yf yl p0 p1 p2 p3 p4 p5 pl l0 l1 ll ba bp bl;have sz4:=br.out.lt;replace br:=ζ (br.out.grows hb4);clear hb4;obtain⟨y0,y1,y2,y3,y4,y5,yf,yl⟩:=qG br.out;cases S with
    | none=>
     obtain rfl:v = jP:=hv;unfold jP;clear br;go_wp2_with fail;refine bodyPost_ret (v:=.tuple #[jP,.bool false]) ?_ rfl ⟨jP,rfl,rfl,?_⟩
     ·simp only[results,Tryz.results84,jP];go_simp
     ·have hN:=hN.o;exact Γ
    | some b=>
     obtain⟨A',c',rfl,hO⟩:=hv;unfold iV;obtain⟨src',fs',⟨lv',lc'⟩,f',t'⟩:=b;simp only at hO ⊢;replace hO:=ζ hO;generalize hL:fs'.length=L at *
     replace hL:=ζ hL;clear br;go_wp2_with fail;refine bodyPost_ret (v:=.tuple #[iV ⟨⟨src',fs',⟨lv',lc'⟩,f',t'⟩,A',L,c'⟩,.bool true]) ?_ rfl ⟨iV ⟨⟨src',fs',⟨lv',lc'⟩,f',t'⟩,A',L,c'⟩,rfl,?_,?_⟩
     ·simp only[results,Tryz.results84,iV];go_simp
     ·refine⟨A',c',by rw[hL.o],?_⟩;rw[hL.o];refine Own.bK (base:=w3.heap.size) ?_ ω;repeat (with_reducible refine Own.aiO ?_ (by first | omega | (simp;omega)) _)
      with_reducible exact hO.o
     ·have hN:=hN.o;exact Γ
def lV (ft:List bM→cu→Bool) (x:cu):Prop:=∀(A:Option Addr) (m c:Nat) (l:List bM) (W:World),bW W 2 dZ A m l→m≤9223372036854775807→(∀f∈l,f.v.length≤1000000)→Calls Tryz.prog 152 #[.slice A m c,Gh x] W fun e w'=>e =.returned (.bool (ft l x))∧ah W w'
theorem alQ {ft:List bM→cu→Bool} {x:cu} {g:Nat} {A:Option Addr} {m c:Nat} {l:List bM} (w:World) (hx:lV ft x) (hc:w.cell? ⟨g,0,none⟩=some (.slice A m c)) (hA:bW w 2 dZ A m l) (hm:m≤9223372036854775807) (hT:∀f∈l,f.v.length≤1000000) :
 Calls Tryz.prog 151 #[Gh x,.pointer (some ⟨g,0,none⟩)] w fun e w'=>e =.returned (.bool (!ft l x))∧ah w w':=by
 have cF:=fun W (hW:ah w W)=>hx A m c l W (hA.keep hW) hm hT
 have hg:=World.block_lt_of_cell? w _ hc;simp only at hg;generalize ft l x = B at *
 unfold Gh at *
 replace cF:=ζ cF;clear hx hA;go_enter Tryz.func151,Tryz.ntmps151
 go_wp2_with fail;refine (cF.out _ γ).mono ?_;rintro e w1 ⟨rfl,hb⟩;have hG:ah w w1:=((ah.refl w).alloc _).trans hb;go_wp2;go_ret;exact⟨aJ rfl,hG⟩
theorem ZA {α:Type} (p:α→Bool) (l:List α):l.all p = !(l.any fun x=> !p x):=by
 rw[List.not_any_eq_all_not];congr 1;funext x;rw[Bool.not_not]
theorem N8 {ft:List bM→cu→Bool} {A:Option Addr} {m c:Nat} {l:List bM} {A2:Option Addr} {m2 c2:Nat} {ms:List cu} (w:World) (hA:bW w 2 dZ A m l) (hm:m≤9223372036854775807) (hM:bW w 3 qW A2 m2 ms) (SB:m2≤9223372036854775807) (hT:∀f∈l,f.v.length≤1000000) (hx:∀x∈ms,lV ft x) :
 Calls Tryz.prog 102 #[.slice A m c,.slice A2 m2 c2] w fun e w'=>e =.returned (.bool (ms.all (ft l)))∧ah w w':=by
 have cC:=fun (W:World) (hW:ah w W) (hc:W.cell? ⟨w.heap.size,0,none⟩=some (.slice A m c))=>Qb (c:=c2) 151 #[.pointer (some ⟨w.heap.size,0,none⟩)] (enters_of Tryz.func151 κ rfl) (fun y=> !ft l y) A2 m2 ms W (hM.keep hW) SB (fun y hy W' yI=>alQ W' (hx y hy) (yI.cell hc) (hA.keep (hW.trans yI)) hm hT)
 have hna:=ZA (ft l) ms;rw[hna];generalize (ms.any fun x=> !ft l x)=B at *
 replace cC:=ζ cC;clear hx hA hM hna;go_enter Tryz.func102,Tryz.ntmps102
 go_wp2_with fail;refine (cC.out _ γ ((aG.new w _ _).cell 0)).mono ?_;rintro e w1 ⟨rfl,hb⟩;have hG:ah w w1:=((ah.refl w).alloc _).trans hb;go_wp2;go_ret;exact⟨aJ rfl,hG⟩
def KN (ft:List bM→cu→Bool) (rec:List UInt8) (fs:List bM) (r:Rte):Bool:=decide (r.r = rec)&&r.wh.all (ft fs)
def nI (ft:List bM→cu→Bool) (rs:List Rte) (rec:List UInt8) (fs:List bM) (k:Nat):List Nat:=(List.range k).filter fun i=>match rs[i]? with | some r=>KN ft rec fs r | none=>false
def vX (ft:List bM→cu→Bool) (p:fQ) (rec:List UInt8) (fs:List bM):List Nat:=nI ft p.routes rec fs p.routes.length
theorem acy {ft:List bM→cu→Bool} {rs:List Rte} {rec:List UInt8} {fs:List bM} {k:Nat} {r:Rte} (hr:rs[k]? = some r) (h:KN ft rec fs r = true):nI ft rs rec fs (k+1)=nI ft rs rec fs k++[k]:=by
 unfold nI;rw[List.range_succ,List.filter_append];simp[hr,h]
theorem ags {ft:List bM→cu→Bool} {rs:List Rte} {rec:List UInt8} {fs:List bM} {k:Nat} {r:Rte} (hr:rs[k]? = some r) (h:KN ft rec fs r = false):nI ft rs rec fs (k+1)=nI ft rs rec fs k:=by
 unfold nI;rw[List.range_succ,List.filter_append];simp[hr,h]
theorem PN (ft:List bM→cu→Bool) (rs:List Rte) (rec:List UInt8) (fs:List bM) (k:Nat):(nI ft rs rec fs k).length≤k:=by
 unfold nI;exact Nat.le_trans (List.length_filter_le _ _) σ
def Js (ft:List bM→cu→Bool) (x:bQ):Prop:=∀r∈x.o,∀y∈r.r.wh,lV ft y
theorem akS {ft:List bM→cu→Bool} {p:bQ} {rec:List UInt8} {a:dD} (w:World) (hp:p.At w) (hA:bW w 2 dZ a.A a.m a.a.fs) (hm:a.m≤9223372036854775807) (hT:∀f∈a.a.fs,f.v.length≤1000000) (hom:p.om≤1000) (YJ:Js ft p) :
 Calls Tryz.prog 85 #[p.val,.string ⟨rec.toArray⟩,iV a] w fun e w'=>∃v,e =.returned v∧Own w' w.heap.size 3 1 encI v (vX ft p.aU rec a.a.fs)∧ah w w':=by
 have hO:=hp.o;have Uj:=hO.1;have cA:=fun (r:BH) (hr:r∈p.o) (W:World) (hW:ah w W)=>N8 (ft:=ft) (c:=a.k) (c2:=r.wk) W (hA.keep hW) hm ((hp.oAt r hr).keep hW).wh (hp.oAt r hr).aad hT (YJ r hr)
 have aN:vX ft p.aU rec a.a.fs=nI ft (p.o.map (·.r)) rec a.a.fs p.om:=by
  show nI ft (p.o.map (·.r)) rec a.a.fs (p.o.map (·.r)).length=_
  rw[List.length_map,Uj]
 rw[aN];have kQ:=fun k r (hr:p.o[k]? = some r) (h:KN ft rec a.a.fs r.r = true)=>acy (rs:=p.o.map (·.r)) (rec:=rec) (fs:=a.a.fs) (k:=k) (ft:=ft) (by rw[List.getElem?_map,hr];rfl) h
 have hno:=fun k r (hr:p.o[k]? = some r) (h:KN ft rec a.a.fs r.r = false)=>ags (rs:=p.o.map (·.r)) (rec:=rec) (fs:=a.a.fs) (k:=k) (ft:=ft) (by rw[List.getElem?_map,hr];rfl) h
 have hlen:=PN ft (p.o.map (·.r)) rec a.a.fs;have Nq:nI ft (p.o.map (·.r)) rec a.a.fs 0=[]:=rfl;unfold KN at kQ hno;generalize nI ft (p.o.map (·.r)) rec a.a.fs=F at *
 unfold bQ.val iV;clear aN hp YJ hA;obtain⟨⟨sl,sA,sm,sk⟩,⟨rl,rA,rm,rk⟩,⟨el,eA,em,ek⟩,⟨al,aA,am,ak⟩,o,oA,om,ok,i,iA,im,ik⟩:=p;obtain⟨⟨src,fs,⟨lv,lc⟩,f,t⟩,A,m,k0⟩:=a;simp only at cA hO Uj hom hm kQ hno ⊢;replace cA:=ζ cA;replace hO:=ζ hO;replace kQ:=ζ kQ;replace hno:=ζ hno;replace hlen:=ζ hlen;go_enter Tryz.func85,Tryz.ntmps85
 go_wp2;go_loopw [7,8,9,13] (fun v _ _ i wr=>∃k:Nat,k≤om∧i =.int .i64 k∧Hid (Own wr (w.heap.size+2) 3 1 encI v (F k))∧Hid (aG wr (w.heap.size+1) 57 #[.string ⟨src.toArray⟩,.slice A m k0,.int .i64 lv,.int .u32 (lc:Int),.int .i64 f,.int .i64 t])∧Hid (ah w wr)) (fun _ _ _ i _=>om-(intOf i).toNat)
 case atStart=>exact⟨0,ω,rfl,by rw[Nq];exact Own.iO _ _ _ _ _,aG.kV w _ _ _,((ah.refl w).alloc _).alloc _⟩
 case round=>
  obtain⟨k,hk,rfl,Pv,hB,hG⟩:=hrel;by_cases qC:k<om
  ·obtain⟨bb,off,r,rfl,CW,hr,hcell⟩:=(hO.o.keep hG.o).at_ qC;have c0:wr.cell? ⟨bb,off+k*6,none⟩=some (.string ⟨r.r.r.toArray⟩):=hcell 0 _ rfl;have c1:wr.cell? ⟨bb,off+k*6+1,none⟩=some (.slice r.bA r.bm r.bk):=hcell 1 _ rfl;have c2:wr.cell? ⟨bb,off+k*6+2,none⟩=some (.int .i64 r.r.wait):=hcell 2 _ rfl;have c3:wr.cell? ⟨bb,off+k*6+3,none⟩=some (.int .i64 r.r.every):=hcell 3 _ rfl;have c4:wr.cell? ⟨bb,off+k*6+4,none⟩=some (.int .i64 r.r.again):=hcell 4 _ rfl;have c5:wr.cell? ⟨bb,off+k*6+5,none⟩=some (.slice r.wA r.wm r.wk):=hcell 5 _ rfl;have kX:(k:Int)<(om:Int):=ω;have hy:=kQ.o k r hr;have hn:=hno.o k r hr;have cR:=cA.out r (List.mem_of_getElem? hr);have q1:=hB.o.c1;have qz:=hB.o.lt;have hsz:=hG.o.size;have hlk:=hlen.o k;generalize r.r.wh.all (ft fs)=B at *
   replace cR:=ζ cR;clear hcell;by_cases Nc:r.r.r = rec
   ·have ZU:(r.r.r ==rec)=true:=by simp[Nc]
    have hde:decide (r.r.r = rec)=true:=by simp[Nc]
    rw[hde] at hy hn;clear Nc hde hr;cases B
    ·have hn':=ζ (hn rfl);clear hy hn;go_wp2_with fail;refine (cR.out _ (by
      have hG:=hG.o;exact γ
     )).mono ?_
     rintro e w1 ⟨rfl,hb⟩;have fM:=ζ ((hG.o.alloc _).trans hb);have wV:=ζ ((Pv.o.alloc _).grows hb);have xU:=ζ ((hB.o.alloc _).grows hb);clear hb c0 c1 c2 c3 c4 c5 hG Pv hB q1 qz;go_wp2;go_roundw
     case rel=>exact⟨k+1,ω,ν,by rw[hn'.o];exact wV.o,xU.o,fM.o⟩
     case measure=>exact ψ
    ·have hy':=ζ (hy rfl);clear hy hn;go_wp2_with fail;refine (cR.out _ (by
      have hG:=hG.o;exact γ
     )).mono ?_
     rintro e w1 ⟨rfl,hb⟩;have fM:=ζ ((hG.o.alloc _).trans hb);have wV:=ζ ((Pv.o.alloc _).grows hb);have xU:=ζ ((hB.o.alloc _).grows hb);clear hb c0 c1 c2 c3 c4 c5 hG Pv hB q1 qz;have V3:=xU.o.lt;replace hlk:=ζ hlk;go_wp2_with (at_builtin;refine dB (x:=k) aoT rfl (.tmp 29) (.tmp 31) rfl (wV.o.alloc _) rfl ⟨w1.heap.size,0,none⟩ rfl rfl (iK (by exact heap_alloc_new w1 _)) (VE k) (by simp;omega) (by have:=hlk.o;unfold maxLen;omega) (by have:=hlk.o;omega) (fun v2 w2 nM hgr hat=> ?_);(have gK:=ζ ((fM.o.alloc _).aQ hgr (fun g hg=>by have:=wV.o.iC g hg;omega)));(have r_:=ζ ((xU.o.alloc _).aQ hgr (fun e=>by have:=wV.o.iC _ e.symm;omega)));(replace nM:=ζ nM);clear hgr hat);go_roundw
     case rel=>exact⟨k+1,ω,ν,by rw[hy'.o];exact nM.o,r_.o,gK.o⟩
     case measure=>exact ψ
   ·have ZU:(r.r.r ==rec)=false:=by simp[Nc]
    have hde:decide (r.r.r = rec)=false:=by simp[Nc]
    rw[hde] at hn;have hn':=ζ (hn rfl);clear Nc hde hr hy hn cR;go_wp2;go_roundw
    case rel=>exact⟨k+1,ω,ν,by rw[hn'.o];exact Pv.o.alloc _,hB.o.alloc _,hG.o.alloc _⟩
    case measure=>exact ψ
  ·obtain rfl:k=om:=ω;go_wp2;go_ret;exact⟨_,rfl,Pv.o.bK ω,hG.o⟩
def iY.cut (x:iY) (n:Nat):iY:=⟨x.l.take (min x.m n),x.A,min x.m n,x.k⟩
def bQ.cut (p:bQ) (n:Nat):bQ:=⟨p.s.cut n,p.r.cut n,p.e.cut n,p.a.cut n,p.o.take (min p.om n),p.oA,min p.om n,p.ok,p.i.take (min p.im n),p.iA,min p.im n,p.ik⟩
structure bQ.asB (p:bQ):Prop where
 s:p.s.m≤p.s.k
 r:p.r.m≤p.r.k
 e:p.e.m≤p.e.k
 a:p.a.m≤p.a.k
 o:p.om≤p.ok
 i:p.im≤p.ik
 sk:p.s.k≤9223372036854775807
 rk:p.r.k≤9223372036854775807
 ek:p.e.k≤9223372036854775807
 ak:p.a.k≤9223372036854775807
 ok_:p.ok≤9223372036854775807
 ik_:p.ik≤9223372036854775807
theorem iY.At.cut {x:iY} {w:World} (h:x.At w) (n:Nat):(x.cut n).At w:=
 ⟨h.arr.take (Nat.min_le_left _ _),Nat.le_trans (Nat.min_le_left _ _) h.le,fun y hy=>h.Jy y (List.mem_of_mem_take hy),fun y hy=>h.txt y (List.mem_of_mem_take hy)⟩
theorem bQ.At.cut {p:bQ} {w:World} (h:p.At w) (n:Nat):(p.cut n).At w:=
 ⟨h.s.cut n,h.r.cut n,h.e.cut n,h.a.cut n,h.o.take (Nat.min_le_left _ _),Nat.le_trans (Nat.min_le_left _ _) h.ole,fun y hy=>h.oAt y (List.mem_of_mem_take hy),h.i.take (Nat.min_le_left _ _),Nat.le_trans (Nat.min_le_left _ _) h.ile,fun y hy=>h.iAt y (List.mem_of_mem_take hy)⟩
theorem agQ {p:bQ} (w:World) (hk:p.asB):Calls Tryz.prog 17 #[p.val,.int .i64 14] w fun e w'=>e =.returned (p.cut 14).val∧ah w w':=by
 obtain⟨⟨sl,sA,sm,sk⟩,⟨rl,rA,rm,rk⟩,⟨el,eA,em,ek⟩,⟨al,aA,am,ak⟩,o,oA,om,ok,i,iA,im,ik⟩:=p;obtain⟨h1,h2,h3,h4,h5,h6,k1,k2,k3,k4,k5,k6⟩:=hk;simp only at h1 h2 h3 h4 h5 h6 k1 k2 k3 k4 k5 k6;unfold bQ.val bQ.cut iY.cut;simp only;go_enter Tryz.func17,Tryz.ntmps17
 go_wp2;have e:∀m:Nat,(min (m:Int) 14).toNat=min m 14:=fun m=>ω
 simp only[e];have hB:=aG.new (w.alloc (.cells #[.slice sA (min sm 14) sk,.slice rA (min rm 14) rk,.slice eA (min em 14) ek,.slice aA (min am 14) ak,.slice oA (min om 14) ok,.slice iA (min im 14) ik] 50)) 50 #[.slice sA (min sm 14) sk,.slice rA (min rm 14) rk,.slice eA (min em 14) ek,.slice aA (min am 14) ak,.slice oA (min om 14) ok,.slice iA (min im 14) ik];rw[show (w.alloc (.cells #[.slice sA (min sm 14) sk,.slice rA (min rm 14) rk,.slice eA (min em 14) ek,.slice aA (min am 14) ak,.slice oA (min om 14) ok,.slice iA (min im 14) ik] 50)).heap.size=w.heap.size+1 by simp] at hB;have hG:ah w ((w.alloc (.cells #[.slice sA (min sm 14) sk,.slice rA (min rm 14) rk,.slice eA (min em 14) ek,.slice aA (min am 14) ak,.slice oA (min om 14) ok,.slice iA (min im 14) ik] 50)).alloc (.cells #[.slice sA (min sm 14) sk,.slice rA (min rm 14) rk,.slice eA (min em 14) ek,.slice aA (min am 14) ak,.slice oA (min om 14) ok,.slice iA (min im 14) ik] 50)):=((ah.refl w).alloc _).alloc _;generalize (w.alloc (.cells #[.slice sA (min sm 14) sk,.slice rA (min rm 14) rk,.slice eA (min em 14) ek,.slice aA (min am 14) ak,.slice oA (min om 14) ok,.slice iA (min im 14) ik] 50)).alloc (.cells #[.slice sA (min sm 14) sk,.slice rA (min rm 14) rk,.slice eA (min em 14) ek,.slice aA (min am 14) ak,.slice oA (min om 14) ok,.slice iA (min im 14) ik] 50)=w9 at *
 have e0:=hB.cell 0;have e1:=hB.cell 1;have e2:=hB.cell 2;have e3:=hB.cell 3;have e4:=hB.cell 4;have e5:=hB.cell 5;refine bodyPost_ret (v:=.agg #[.slice sA (min sm 14) sk,.slice rA (min rm 14) rk,.slice eA (min em 14) ek,.slice aA (min am 14) ak,.slice oA (min om 14) ok,.slice iA (min im 14) ik]) ?_ rfl ⟨rfl,hG⟩;simp[results,Tryz.results17,go_sem,e0,e1,e2,e3,e4,e5]
theorem aeO {n:Nat} (w:World) (h0:0<n) (hn:n≤1099511700000) (ty:TypeId) :
 ∃g cap w',(Builtin.append_ #[112,3] ty #[.slice none 0 0,.int .i64 n]).run Tryz.prog w =.ok (.slice (some ⟨g,0,none⟩) n cap) w'∧n≤cap∧cap≤maxLen∧jA w' w.heap.size (.slice (some ⟨g,0,none⟩) 0 cap) []∧ah w w':=by
 obtain⟨i,hi,hz,hsz,hby⟩:=ad4;have hr:=Lib.run_append_nil_zeros (P:=Tryz.prog) w 112 3 ty 5 i (.int .u8 0) .i64 .i64 Tryz.underlying112 Tryz.underlying3 hi hz n h0 ω ω (by rw[hby];omega);have qE:=grownCap_ge w n 0 5;have hcm:=grownCap_le_maxLen w n 0 5 (by unfold maxLen;omega);refine⟨_,_,_,hr,qE,hcm,.inr ⟨w.heap.size,_,_,(0,0),rfl,Nat.le_refl _,heap_alloc_new w.drew _,fun j _=>by simp,by simp,hcm,?_,fun i hi=>absurd hi σ⟩,(ah.refl w).drew.alloc _⟩;simp only[Array.size_append,size_zeroCells,Value.cells];simp;omega
theorem agj {n:Nat} (w:World) (hn:n≤1099511700000) :
 Calls Tryz.prog 92 #[.slice none 0 0,.int .i64 n] w fun e w'=>∃v,e =.returned v∧jA w' w.heap.size v []∧ah w w':=by
 by_cases h0:n = 0
 ·subst h0;go_enter Tryz.func92,Tryz.ntmps92
  go_wp2;go_ret;exact⟨_,rfl,jA.iO _ _,ah.refl _⟩
 ·have hi:(0:Int)<(n:Int):=ω;have hi2:¬((n:Int)<0):=ω;have hb:0≤(n:Int)∧(n:Int)≤1099511700000:=ω;have h1:0<n:=ω;replace h1:=ζ h1;go_enter Tryz.func92,Tryz.ntmps92
  obtain⟨g,cap,w1,hr,qE,hcm,hO,hG⟩:=aeO w h1.o hn 112;have SK:=hcm;replace hO:=ζ hO;replace hG:=ζ hG;go_wp2_with (at_builtin;(refine Lib.wpList_append_run _ rfl (.tmp 20) (.tmp 21) _ _ rfl _ _ rfl rfl _ _ hr ?_));go_ret;exact⟨_,rfl,hO.o,hG.o⟩
structure Bsl where
 A:Option Addr
 n:Nat
 c:Nat
 xs:List Nat
def axd (b:Bsl):List Value:=[.slice b.A b.n b.c]
def wW (bs:List Bsl):List Nat:=bs.flatMap (·.xs)
theorem UR {bs:List Bsl} {k:Nat} {b:Bsl} (h:bs[k]? = some b):wW (bs.take (k+1))=wW (bs.take k)++b.xs:=by
 rw[List.take_add_one,h];simp[wW]
theorem adY (bs:List Bsl) (k:Nat):(wW (bs.take k)).length≤(wW bs).length:=by
 have:wW bs=wW (bs.take k)++wW (bs.drop k):=by
  unfold wW;rw[←List.flatMap_append,List.take_append_drop]
 rw[this,List.length_append];omega
theorem LV {A:Option Addr} {L c:Nat} {bs:List Bsl} (w:World) (hA:bW w 1 axd A L bs) (hb:∀b∈bs,bW w 1 jr b.A b.n b.xs) (ht:(wW bs).length≤1099511627776) (hL2:L≤1000) :
 Calls Tryz.prog 49 #[.slice A L c] w fun e w'=>∃v,e =.returned v∧jA w' w.heap.size v (wW bs)∧ah w w':=by
 have hL:=hA.1;have cG:=fun n W h=>agj (n:=n) W h
 replace cG:=ζ cG;replace hA:=ζ hA;replace hb:=ζ hb;go_enter Tryz.func49,Tryz.ntmps49
 go_wp2;go_loopw [3,11] (fun n i wr=>∃k:Nat,k≤L∧i =.int .i64 k∧n =.int .i64 ((wW (bs.take k)).length:Nat)∧w = wr) (fun _ i _=>L-(intOf i).toNat)
 case atStart=>exact⟨0,ω,rfl,rfl,rfl⟩
 case round=>
  obtain⟨k,hk,rfl,rfl,rfl⟩:=hrel;by_cases hlt:k<L
  ·obtain⟨bb,off,b,rfl,hs0,hx,hcell⟩:=hA.o.at_ hlt;have c0:w.cell? ⟨bb,off+k,none⟩=some (.slice b.A b.n b.c):=by simpa using hcell 0 _ rfl
   have h1:=UR hx;have h2:=adY bs (k+1);have h3:=(hb.o b (List.mem_of_getElem? hx)).1;rw[h1,List.length_append,h3] at h2;have h4:(wW (bs.take (k+1))).length=(wW (bs.take k)).length+b.n:=by rw[h1,List.length_append,h3]
   generalize hY:(wW (bs.take (k+1))).length=Y at *
   replace hY:=ζ hY;generalize (wW (bs.take k)).length=X at *
   have kX:(k:Int)<(L:Int):=ω;have h5:¬((X:Int)+(b.n:Int)<0):=ω;have h6:0≤(X:Int)∧(X:Int)≤1099511627776∧(b.n:Int)≤1099511627776:=ω;replace h4:=ζ h4;clear h1 hx hcell h3;go_wp2;go_roundw
   case rel=>exact⟨k+1,ω,ν,by rw[hY.o,h4.o,Int.natCast_add],trivial⟩
   case measure=>exact ψ
  ·obtain rfl:k=L:=ω;rw[List.take_of_length_le ω];go_wp2_with fail;refine (cG.out _ _ ω).mono ?_;rintro e w1 ⟨v1,rfl,hO,hG⟩;have Nj:Hid (jA w1 w.heap.size v1 (wW (bs.take 0))):=hO;replace hG:=ζ hG;clear hO cG;go_wp2;go_loopw [6,27] (fun v i wx=>∃j:Nat,j≤k∧i =.int .i64 j∧Hid (jA wx w.heap.size v (wW (bs.take j)))∧Hid (ah w wx)) (fun _ i _=>k-(intOf i).toNat)
   case atStart=>exact⟨0,ω,rfl,Nj,hG⟩
   case round=>
    clear Nj hG;obtain⟨j,hj,rfl,hO,hG⟩:=hrel;by_cases hjl:j < k
    ·obtain⟨bb,off,b,rfl,hs0,hx,hcell⟩:=(hA.o.keep hG.o).at_ hjl;have c0:wr.cell? ⟨bb,off+j,none⟩=some (.slice b.A b.n b.c):=by simpa using hcell 0 _ rfl
     have h1:=UR hx;have h2:=adY bs (j + 1);have JE:=(hb.o b (List.mem_of_getElem? hx)).keep hG.o;have h3:=JE.1;rw[h1,List.length_append,h3] at h2;have kX:(j:Int)<(k:Int):=ω;replace h1:=ζ h1;replace JE:=ζ JE;clear hx hcell h3;go_wp2_with (at_builtin;(refine BR rfl (.tmp 31) (.tmp 32) rfl rfl rfl hO.o JE.o hG.o.size ω ?_;intro v2 w2 nM mG;(have gK:=ζ (hG.o.aQ mG hO.o.iC));(replace nM:=ζ nM);clear mG));go_roundw
     case rel=>exact⟨j + 1,ω,ν,by rw[h1.o];exact nM,gK⟩
     case measure=>exact ψ
    ·obtain rfl:j = k:=ω;have je:=hO.o;rw[List.take_of_length_le ω] at je;go_wp2;go_ret;exact⟨_,rfl,je,hG.o⟩
end Go.Proofs.YtbhikkgpcmkonaaGreatDoor
