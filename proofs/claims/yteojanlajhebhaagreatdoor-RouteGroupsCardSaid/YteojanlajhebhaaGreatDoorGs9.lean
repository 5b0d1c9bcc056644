/- Parts: LabB AlrD AlrE LwA -/
import Derived.Test.YteojanlajhebhaaGreatDoorGs0
import Derived.Test.YteojanlajhebhaaGreatDoorGs3
import Derived.Test.YteojanlajhebhaaGreatDoorGs8
import Derived.Test.YteojanlajhebhaaGreatDoorGs6
set_option maxRecDepth 100000
set_option maxHeartbeats 12800000
namespace Go.Proofs.YteojanlajhebhaaGreatDoor
open Go.RowKit
def encI (n:Nat):List Value:=[.int .i64 (n:Int)]
theorem JV (n:Nat):(encI n).length=1:=rfl
theorem UZ (n:Nat):∀u∈encI n,u.oneCell'=true:=by intro u hu;simp[encI] at hu;subst hu;rfl
theorem aly:iK Tryz.prog 35 3 1 8:=iK.mk' (z:=.int .i64 0) Tryz.underlying35 κ rfl ω
def Bc (c k:Nat):List Nat:=(List.range k).filter fun j=>c.testBit j
theorem adS (c:Nat):Bc c 32=kU c:=rfl
theorem He {c k:Nat} (h:c.testBit k=true):Bc c (k+1)=Bc c k++[k]:=by
 unfold Bc;rw[List.range_succ,List.filter_append];simp[h]
theorem Wx {c k:Nat} (h:c.testBit k=false):Bc c (k+1)=Bc c k:=by
 unfold Bc;rw[List.range_succ,List.filter_append];simp[h]
theorem Lj (c k:Nat):(Bc c k).length≤k:=by
 unfold Bc;exact Nat.le_trans (List.length_filter_le _ _) σ
theorem Vs (c:Nat):(kU c).length≤32:=Lj c 32
theorem OL (c k:Nat):c.testBit k=decide (c / 2 ^ k % 2=1):=by
 rw[Nat.testBit_eq_decide_div_mod_eq]
theorem yJ (x:Cc) (w:World) (hx:x.ok) :
 Calls Tryz.prog 99 #[.agg #[.int .i64 x.lv,.int .u32 (x.c:Int)]] w fun e w'=>∃v,e =.returned v∧Own w' w.heap.size 3 1 encI v (kU x.c)∧ah w w':=by
 have hxc:(x.c:Int)<4294967296:=by unfold Cc.ok at hx;omega
 go_enter Tryz.func99,Tryz.ntmps99
 go_wp2;go_loopw [3,4,5] (fun v r i wr=>∃(k:Nat) (R:Int),k≤32∧i =.int .i64 k∧r =.int .u32 R∧0≤R∧R<4294967296∧Hid (R=((x.c / 2 ^ k:Nat):Int))∧Own wr w.heap.size 3 1 encI v (Bc x.c k)∧ah w wr) (fun _ _ i _=>32-(intOf i).toNat)
 case atStart=>exact⟨0,x.c,ω,rfl,rfl,ω,hxc,(by simp:(x.c:Int)=((x.c / 2 ^ 0:Nat):Int)),Own.iH _ _ _ _ _,(ah.refl w).alloc _⟩
 case round=>
  obtain⟨k,R,hk,rfl,rfl,Qh,hR,hRk,hown,hg⟩:=hrel;by_cases hlt:k<32
  ·have jV:R / 2=((x.c / 2 ^ (k+1):Nat):Int):=by rw[hRk.o,Nat.pow_succ,←Nat.div_div_eq_div_mul];omega
   have ado:=OL x.c k;have atb:=hRk.o;have hl:=Lj x.c k;have hsz:=hg.size;replace jV:=ζ jV;clear hxc hx;cases hb:x.c.testBit k
   ·have hr1:R % 2=0:=by
     rw[hb] at ado;simp only[Bool.false_eq,decide_eq_false_iff_not] at ado;omega
    have hno:=ζ (Wx hb);clear hb ado hRk atb hl;go_wp2;go_roundw
    case rel=>exact⟨k+1,R / 2,ω,ν,rfl,ω,ω,jV.o,by rw[hno.o];exact hown,hg⟩
    case measure=>exact ψ
   ·have hr1:R % 2=1:=by
     rw[hb] at ado;simp only[Bool.true_eq,decide_eq_true_eq] at ado;omega
    have pO:=ζ (He hb);clear hb ado hRk atb;replace hl:=ζ hl;go_wp2_with (at_builtin;refine dM (x:=k) aly rfl (.tmp 15) (.tmp 17) rfl (hown.alloc _) rfl ⟨wr.heap.size,0,none⟩ rfl rfl (h_ (by exact heap_alloc_new wr _)) (UZ k) (by simp;omega) (by have:=hl.o;unfold maxLen;omega) (by have:=hl.o;omega) (fun v1 w1 hown1 hgr hat=> ?_));have hb1:Below w.heap.size wr w1:=Own.below (hown.alloc _) (by
     repeat (first | assumption | exact Below.refl _ _ | apply Below.drew | apply below_drewN | (refine Below.X0 ?_ (by first | rfl | simp) (by first | omega | (simp;omega) | simp)) | (refine Below.alloc ?_ (by first | omega | (simp;omega) | simp) _) | (refine Below.setCell ?_ (by first | omega | (simp;omega) | simp) _))
    ) (Nat.le_refl _) (by simp;omega) hgr
    clear hgr hat;go_wp2;go_roundw
    case rel=>exact⟨k+1,R / 2,ω,ν,rfl,ω,ω,jV.o,by rw[pO.o];exact hown1,hg.LP hb1⟩
    case measure=>exact ψ
  ·obtain rfl:k=32:=ω;clear hRk;go_wp2;go_ret;exact⟨u3,rfl,hown,hg⟩
theorem XA (A:Option Addr) (m c:Nat) (xs:List Nat) (j:Nat) (w:World) (h:dH w 1 encI A m xs) (hm:m≤maxLen) (g:FuncId) (hgf:g = 100) :
 Calls Tryz.prog g #[.slice A m c,.int .i64 j] w fun e w'=>e =.returned (.bool (decide (j∈xs)))∧w'=w:=by
 subst hgf;unfold maxLen at hm;have hlen:=h.1;go_enter Tryz.func100,Tryz.ntmps100
 go_wp2;go_loop [5] (fun i=>∃k:Nat,k≤m∧i =.int .i64 k∧Hid (j∉xs.take k)) (fun i=>m - (intOf i).toNat)
 case atStart=>exact⟨0,ω,rfl,by simp[Hid]⟩
 case round=>
  obtain⟨k,hk,rfl,hno⟩:=hrel;by_cases hlt:k<m
  ·obtain⟨b,off,y,rfl,_,hy,hcell⟩:=h.at_ hlt;have c0:w.cell? ⟨b,off+k,none⟩=some (.int .i64 y):=by simpa using hcell 0 _ rfl
   by_cases hyj:y = j
   ·have hb:((y:Int)==(j:Int))=true:=by simp[hyj]
    have aQ:decide (j∈xs)=true:=by rw[decide_eq_true_eq,←hyj];exact List.mem_of_getElem? hy
    replace aQ:=ζ aQ;clear hyj hno hy hcell h hlen;go_wp2;go_ret;exact⟨aU aQ.o.symm,rfl⟩
   ·have hb:((y:Int)==(j:Int))=false:=by rw[beq_eq_false_iff_ne];omega
    have vS:j∉xs.take (k+1):=by
     rw[List.take_add_one,hy];simp[hno.o,Ne.symm hyj]
    replace vS:=ζ vS;clear hyj hno hy hcell h hlen;go_wp2;go_round
    case rel=>exact⟨k+1,ω,ν,vS.o⟩
    case measure=>exact ψ
  ·obtain rfl:k=m:=ω;have aQ:decide (j∈xs)=false:=by rw[decide_eq_false_iff_not,←List.take_of_length_le (Nat.le_of_eq hlen)];exact hno.o
   replace aQ:=ζ aQ;clear hno h hlen;go_wp2;go_ret;exact⟨aU aQ.o.symm,rfl⟩
theorem Oz {w:World} {g m k lc:Nat} {src:List UInt8} {A:Option Addr} {lv f t:Int} (h:aS w g 42 #[.string ⟨src.toArray⟩,.slice A m k,.int .i64 lv,.int .u32 (lc:Int),.int .i64 f,.int .i64 t]) :
 w.cell? ⟨g,0,none⟩=some (.string ⟨src.toArray⟩)∧w.cell? ⟨g,1,none⟩=some (.slice A m k)∧w.cell? ⟨g,2,none⟩=some (.int .i64 lv)∧w.cell? ⟨g,3,none⟩=some (.int .u32 (lc:Int))∧w.cell? ⟨g,4,none⟩=some (.int .i64 f)∧w.cell? ⟨g,5,none⟩=some (.int .i64 t)∧g < w.heap.size:=
 ⟨h.cell 0,h.cell 1,h.cell 2,h.cell 3,h.cell 4,h.cell 5,h.lt⟩
theorem F9 {w:World} {g:Nat} (h:aS w g 42 E_) :
 w.cell? ⟨g,0,none⟩=some (.string ⟨#[]⟩)∧w.cell? ⟨g,1,none⟩=some (.slice none 0 0)∧w.cell? ⟨g,2,none⟩=some (.int .i64 0)∧w.cell? ⟨g,3,none⟩=some (.int .u32 0)∧w.cell? ⟨g,4,none⟩=some (.int .i64 0)∧w.cell? ⟨g,5,none⟩=some (.int .i64 0)∧(∀i,w.frozen? ⟨g,i,none⟩=false)∧g < w.heap.size:=
 ⟨h.cell 0,h.cell 1,h.cell 2,h.cell 3,h.cell 4,h.cell 5,fun i=>h.frozen i,h.lt⟩
theorem abS {p:HY} {rec:List UInt8} {a:Jj} {now:Int} (h:gG p.receivers rec=none):jH p rec a now=none:=by unfold jH;rw[h]
theorem afz {p:HY} {rec:List UInt8} {a:Jj} {now:Int} (h:rD a = false∨vX a now=false):jH p rec a now=none:=by
 unfold jH;cases gG p.receivers rec with
 | none=>rfl
 | some to=>rcases h with h | h <;> simp[h]
theorem afA {p:HY} {rec:List UInt8} {a:Jj} {now:Int} {to:Cc} (h:gG p.receivers rec=some to) (h1:rD a = true) (h2:vX a now=true):jH p rec a now=G9 p a to:=by
 unfold jH;rw[h];simp[h1,h2]
theorem Y1 {p:dU} {rec:List UInt8} {a:iI} {now:Int} (w:World) (hp:p.At w) (ha:a.At w) :
 Calls Tryz.prog 16 #[p.val,.string ⟨rec.toArray⟩,jy a,.int .i64 now] w fun e w'=>∃v,e =.returned (.tuple #[v,.bool (jH p.dQ rec a.a now).isSome])∧ae8 w' w.heap.size (jH p.dQ rec a.a now) v∧ah w w':=by
 have cF:=fun W (hW:ah w W)=>Tv (c:=p.r.k) (n:=rec) W (hp.r.arr.keep hW) hp.r.le
 have cR:=fun W (hW:ah w W)=>adX W (ha.keep hW)
 have cT:=fun W=>ahc a now W
 have Oe:gG p.dQ.receivers rec=none→jH p.dQ rec a.a now=none:=abS;have hS1:rD a.a = false∨vX a.a now=false→jH p.dQ rec a.a now=none:=afz;have w_:p.dQ.receivers=p.r.l:=rfl;rw[w_] at Oe;have cC:∀to,gG p.r.l rec=some to→∀W,ah w W→Calls Tryz.prog 45 #[p.val,jy a,.agg #[.int .i64 to.lv,.int .u32 (to.c:Int)]] W fun e w'=>∃v,e =.returned (.tuple #[v,.bool (G9 p.dQ a.a to).isSome])∧ae8 w' W.heap.size (G9 p.dQ a.a to) v∧ah W w':=fun to TW W hW=>
  ank W (hp.keep hW) (ha.keep hW) (by obtain⟨y,hy,rfl⟩:=MW TW;exact hp.r.Yu y hy)
 have jf:∀to,gG p.r.l rec=some to→rD a.a = true→vX a.a now=true→jH p.dQ rec a.a now=G9 p.dQ a.a to:=fun to TW h1 h2=>afA (w_ ▸ TW) h1 h2
 generalize G9 p.dQ a.a = CU at *
 generalize jH p.dQ rec a.a now=S at *
 generalize rD a.a = AB at *
 generalize vX a.a now=FI at *
 unfold jy dU.val at *
 clear hp ha w_;obtain⟨⟨sl,sA,sm,sk⟩,⟨rl,rA,rm,rk⟩,⟨el,eA,em,ek⟩,⟨al,aA,am,ak⟩,o,oA,om,ok,i,iA,im,ik⟩:=p;obtain⟨⟨src,fs,⟨lv,lc⟩,f,t⟩,A,m,k⟩:=a;simp only at cF cR cT cC Oe jf ⊢;replace cR:=ζ cR;replace cT:=ζ cT;replace cF:=ζ cF;generalize asV:gG rl rec=FL at *
 clear asV;cases FL with
 | none=>
  obtain rfl:=Oe rfl;clear cR cT cC Oe hS1 jf;go_enter Tryz.func16,Tryz.ntmps16
  go_wp2_with fail;refine (cF.out _ γ).mono ?_;rintro e w1 ⟨rfl,hb1⟩;have br:aS w1 (w.heap.size+1+1) 42 E_:=(aS.IQ w _ _ _ _).grows hb1;have hG:Hid (ah w w1):=ζ ((((ah.refl w).alloc _).alloc _).alloc _ |>.trans hb1);have y0:=br.c0;have y1:=br.c1;have y2:=br.c2;have y3:=br.c3;have y4:=br.c4;have y5:=br.c5;have yf:=fun i=>br.frozen i
  have yl:=br.lt;clear cF hb1 br;go_wp2_with fail;refine bodyPost_ret (v:=.tuple #[jM,.bool false]) ?_ rfl ⟨jM,rfl,rfl,?_⟩
  ·simp only[results,Tryz.results16,jM];go_simp
  ·have hG:=hG.o;exact Γ
 | some to=>
  replace cC:=ζ (cC to rfl);replace hS1:=ζ hS1;have amW:=ζ (jf to rfl);generalize CU to=C at *
  clear Oe jf;simp only[AA,Option.getD_some,Option.isSome_some] at cF;replace cF:=ζ cF.out;go_enter Tryz.func16,Tryz.ntmps16
  go_wp2_with fail;refine (cF.out _ γ).mono ?_;rintro e w1 ⟨rfl,hb1⟩;have bp:Hid (aS w1 w.heap.size 26 #[.slice sA sm sk,.slice rA rm rk,.slice eA em ek,.slice aA am ak,.slice oA om ok,.slice iA im ik]):=ζ ((((aS.new w _ _).alloc _).alloc _).grows hb1);have ba:Hid (aS w1 (w.heap.size+1) 42 #[.string ⟨src.toArray⟩,.slice A m k,.int .i64 lv,.int .u32 (lc:Int),.int .i64 f,.int .i64 t]):=ζ (((aS.vO w _ _ _).alloc _).grows hb1);have br:Hid (aS w1 (w.heap.size+1+1) 42 E_):=ζ ((aS.IQ w _ _ _ _).grows hb1);have hG:Hid (ah w w1):=ζ ((((ah.refl w).alloc _).alloc _).alloc _ |>.trans hb1);have sz1:w.heap.size+3≤w1.heap.size:=by have:=hb1.size;simp at this;omega
  clear cF hb1;replace bp:=ζ (bp.out.alloc (.cells #[.int .i64 to.lv,.int .u32 (to.c:Int)] 40));replace ba:=ζ (ba.out.alloc (.cells #[.int .i64 to.lv,.int .u32 (to.c:Int)] 40));replace br:=ζ (br.out.alloc (.cells #[.int .i64 to.lv,.int .u32 (to.c:Int)] 40));have hN:Hid (ah w (w1.alloc (.cells #[.int .i64 to.lv,.int .u32 (to.c:Int)] 40))):=ζ (hG.o.alloc _);have bl:Hid (aS (w1.alloc (.cells #[.int .i64 to.lv,.int .u32 (to.c:Int)] 40)) w1.heap.size 40 #[.int .i64 to.lv,.int .u32 (to.c:Int)]):=ζ (aS.new w1 _ _);obtain⟨x0,x1,x2,x3,x4,x5,xl⟩:=Oz ba.out;obtain⟨y0,y1,y2,y3,y4,y5,yf,yl⟩:=F9 br.out;go_wp2_with fail;refine (cR.out _ hN.o).mono ?_;rintro e w2 ⟨rfl,hb2⟩;replace bp:=ζ (bp.out.grows hb2);replace ba:=ζ (ba.out.grows hb2);replace br:=ζ (br.out.grows hb2);replace bl:=ζ (bl.out.grows hb2);replace hN:=ζ (hN.o.trans hb2);clear hb2 x0 x1 x2 x3 x4 x5 xl y0 y1 y2 y3 y4 y5 yf yl;obtain⟨x0,x1,x2,x3,x4,x5,xl⟩:=Oz ba.out;obtain⟨y0,y1,y2,y3,y4,y5,yf,yl⟩:=F9 br.out;clear cR;cases AB
  ·obtain rfl:=hS1.o (.inl (by trivial));clear cT cC hS1 amW;go_wp2_with fail;refine bodyPost_ret (v:=.tuple #[jM,.bool false]) ?_ rfl ⟨jM,rfl,rfl,?_⟩
   ·simp only[results,Tryz.results16,jM];go_simp
   ·have hN:=hN.o;exact Γ
  ·go_wp2_with fail;refine (cT.out _).mono ?_;rintro e w3 ⟨rfl,hb3⟩;replace bp:=ζ (bp.out.grows hb3);replace ba:=ζ (ba.out.grows hb3);replace br:=ζ (br.out.grows hb3);replace bl:=ζ (bl.out.grows hb3);replace hN:=ζ (hN.o.trans hb3);clear hb3 x0 x1 x2 x3 x4 x5 xl y0 y1 y2 y3 y4 y5 yf yl;obtain⟨x0,x1,x2,x3,x4,x5,xl⟩:=Oz ba.out;obtain⟨y0,y1,y2,y3,y4,y5,yf,yl⟩:=F9 br.out;clear cT;cases FI
   ·obtain rfl:=hS1.o (.inr (by trivial));clear cC hS1 amW;go_wp2_with fail;refine bodyPost_ret (v:=.tuple #[jM,.bool false]) ?_ rfl ⟨jM,rfl,rfl,?_⟩
    ·simp only[results,Tryz.results16,jM];go_simp
    ·have hN:=hN.o;exact Γ
   ·obtain rfl:=amW.o (by trivial) (by trivial);clear hS1 amW;have p0:_ = some (Value.slice sA sm sk):=bp.out.cell 0;have p1:_ = some (Value.slice rA rm rk):=bp.out.cell 1;have p2:_ = some (Value.slice eA em ek):=bp.out.cell 2;have p3:_ = some (Value.slice aA am ak):=bp.out.cell 3;have p4:_ = some (Value.slice oA om ok):=bp.out.cell 4;have p5:_ = some (Value.slice iA im ik):=bp.out.cell 5;have pl:=bp.out.lt;have l0:_ = some (Value.int .i64 to.lv):=bl.out.cell 0;have l1:_ = some (Value.int .u32 (to.c:Int)):=bl.out.cell 1;have ll:=bl.out.lt;go_wp2_with fail;refine (cC.out _ hN.o).mono ?_;rintro e w4 ⟨v,rfl,hv,hb4⟩;have sz3:=hN.o.size;replace hN:=ζ (hN.o.trans hb4);clear cC x0 x1 x2 x3 x4 x5 xl y0 y1 y2 y3 y4 y5 yf yl p0 p1 p2 p3 p4 p5 pl l0 l1 ll ba bp bl;have sz4:=br.out.lt;replace br:=ζ (br.out.grows hb4);clear hb4;obtain⟨y0,y1,y2,y3,y4,y5,yf,yl⟩:=F9 br.out;cases S with
    | none=>
     obtain rfl:v = jM:=hv;unfold jM;clear br;go_wp2_with fail;refine bodyPost_ret (v:=.tuple #[jM,.bool false]) ?_ rfl ⟨jM,rfl,rfl,?_⟩
     ·simp only[results,Tryz.results16,jM];go_simp
     ·have hN:=hN.o;exact Γ
    | some b=>
     obtain⟨A',c',rfl,hO⟩:=hv;unfold jy;obtain⟨src',QE,⟨lv',lc'⟩,f',t'⟩:=b;simp only at hO ⊢;replace hO:=ζ hO;generalize hL:QE.length=L at *
     replace hL:=ζ hL;clear br;go_wp2_with fail;refine bodyPost_ret (v:=.tuple #[jy ⟨⟨src',QE,⟨lv',lc'⟩,f',t'⟩,A',L,c'⟩,.bool true]) ?_ rfl ⟨jy ⟨⟨src',QE,⟨lv',lc'⟩,f',t'⟩,A',L,c'⟩,rfl,?_,?_⟩
     ·simp only[results,Tryz.results16,jy];go_simp
     ·refine⟨A',c',by rw[hL.o],?_⟩;rw[hL.o];refine Own.ig (base:=w3.heap.size) ?_ ω;repeat (with_reducible refine Own.abR ?_ (by first | omega | (simp;omega)) _)
      with_reducible exact hO.o
     ·have hN:=hN.o;exact Γ
def QI (ft:List eu→jq→Bool) (x:jq):Prop:=∀(A:Option Addr) (m c:Nat) (l:List eu) (W:World),dH W 2 fU A m l→m≤9223372036854775807→(∀f∈l,f.v.length≤1000000)→Calls Tryz.prog 95 #[.slice A m c,Fa x] W fun e w'=>e =.returned (.bool (ft l x))∧ah W w'
theorem als {ft:List eu→jq→Bool} {x:jq} {g:Nat} {A:Option Addr} {m c:Nat} {l:List eu} (w:World) (hx:QI ft x) (hc:w.cell? ⟨g,0,none⟩=some (.slice A m c)) (hA:dH w 2 fU A m l) (hm:m≤9223372036854775807) (hT:∀f∈l,f.v.length≤1000000) :
 Calls Tryz.prog 94 #[Fa x,.pointer (some ⟨g,0,none⟩)] w fun e w'=>e =.returned (.bool (!ft l x))∧ah w w':=by
 have cF:=fun W (hW:ah w W)=>hx A m c l W (hA.keep hW) hm hT
 have hg:=World.block_lt_of_cell? w _ hc;simp only at hg;generalize ft l x = B at *
 unfold Fa at *
 replace cF:=ζ cF;clear hx hA;go_enter Tryz.func94,Tryz.ntmps94
 go_wp2_with fail;refine (cF.out _ γ).mono ?_;rintro e w1 ⟨rfl,hb⟩;have hG:ah w w1:=((ah.refl w).alloc _).trans hb;go_wp2;go_ret;exact⟨aU rfl,hG⟩
theorem aaz {α:Type} (p:α→Bool) (l:List α):l.all p = !(l.any fun x=> !p x):=by
 rw[List.not_any_eq_all_not];congr 1;funext x;rw[Bool.not_not]
theorem anx {ft:List eu→jq→Bool} {A:Option Addr} {m c:Nat} {l:List eu} {A2:Option Addr} {m2 c2:Nat} {ms:List jq} (w:World) (hA:dH w 2 fU A m l) (hm:m≤9223372036854775807) (hM:dH w 3 Tz A2 m2 ms) (hm2:m2≤9223372036854775807) (hT:∀f∈l,f.v.length≤1000000) (hx:∀x∈ms,QI ft x) :
 Calls Tryz.prog 57 #[.slice A m c,.slice A2 m2 c2] w fun e w'=>e =.returned (.bool (ms.all (ft l)))∧ah w w':=by
 have cC:=fun (W:World) (hW:ah w W) (hc:W.cell? ⟨w.heap.size,0,none⟩=some (.slice A m c))=>aal (c:=c2) 94 #[.pointer (some ⟨w.heap.size,0,none⟩)] (enters_of Tryz.func94 κ rfl) (fun y=> !ft l y) A2 m2 ms W (hM.keep hW) hm2 (fun y hy W' XB=>als W' (hx y hy) (XB.cell hc) (hA.keep (hW.trans XB)) hm hT)
 have hna:=aaz (ft l) ms;rw[hna];generalize (ms.any fun x=> !ft l x)=B at *
 replace cC:=ζ cC;clear hx hA hM hna;go_enter Tryz.func57,Tryz.ntmps57
 go_wp2_with fail;refine (cC.out _ γ ((aS.new w _ _).cell 0)).mono ?_;rintro e w1 ⟨rfl,hb⟩;have hG:ah w w1:=((ah.refl w).alloc _).trans hb;go_wp2;go_ret;exact⟨aU rfl,hG⟩
def G7 (ft:List eu→jq→Bool) (rec:List UInt8) (fs:List eu) (r:Rte):Bool:=decide (r.r = rec)&&r.wh.all (ft fs)
def nR (ft:List eu→jq→Bool) (rs:List Rte) (rec:List UInt8) (fs:List eu) (k:Nat):List Nat:=(List.range k).filter fun i=>match rs[i]? with | some r=>G7 ft rec fs r | none=>false
def qR (ft:List eu→jq→Bool) (p:HY) (rec:List UInt8) (fs:List eu):List Nat:=nR ft p.routes rec fs p.routes.length
theorem Tt {ft:List eu→jq→Bool} {rs:List Rte} {rec:List UInt8} {fs:List eu} {k:Nat} {r:Rte} (hr:rs[k]? = some r) (h:G7 ft rec fs r = true):nR ft rs rec fs (k+1)=nR ft rs rec fs k++[k]:=by
 unfold nR;rw[List.range_succ,List.filter_append];simp[hr,h]
theorem Oq {ft:List eu→jq→Bool} {rs:List Rte} {rec:List UInt8} {fs:List eu} {k:Nat} {r:Rte} (hr:rs[k]? = some r) (h:G7 ft rec fs r = false):nR ft rs rec fs (k+1)=nR ft rs rec fs k:=by
 unfold nR;rw[List.range_succ,List.filter_append];simp[hr,h]
theorem KW (ft:List eu→jq→Bool) (rs:List Rte) (rec:List UInt8) (fs:List eu) (k:Nat):(nR ft rs rec fs k).length≤k:=by
 unfold nR;exact Nat.le_trans (List.length_filter_le _ _) σ
def Ho (ft:List eu→jq→Bool) (x:dU):Prop:=∀r∈x.o,∀y∈r.r.wh,QI ft y
theorem aaf {ft:List eu→jq→Bool} {p:dU} {rec:List UInt8} {a:iI} (w:World) (hp:p.At w) (hA:dH w 2 fU a.A a.m a.a.fs) (hm:a.m≤9223372036854775807) (hT:∀f∈a.a.fs,f.v.length≤1000000) (QA:p.om≤1000) (O_:Ho ft p) :
 Calls Tryz.prog 18 #[p.val,.string ⟨rec.toArray⟩,jy a] w fun e w'=>∃v,e =.returned v∧Own w' w.heap.size 3 1 encI v (qR ft p.dQ rec a.a.fs)∧ah w w':=by
 have hO:=hp.o;have QB:=hO.1;have cA:=fun (r:F6) (hr:r∈p.o) (W:World) (hW:ah w W)=>anx (ft:=ft) (c:=a.k) (c2:=r.wk) W (hA.keep hW) hm ((hp.oAt r hr).keep hW).wh (hp.oAt r hr).WQ hT (O_ r hr)
 have aQ:qR ft p.dQ rec a.a.fs=nR ft (p.o.map (·.r)) rec a.a.fs p.om:=by
  show nR ft (p.o.map (·.r)) rec a.a.fs (p.o.map (·.r)).length=_
  rw[List.length_map,QB]
 rw[aQ];have pO:=fun k r (hr:p.o[k]? = some r) (h:G7 ft rec a.a.fs r.r = true)=>Tt (rs:=p.o.map (·.r)) (rec:=rec) (fs:=a.a.fs) (k:=k) (ft:=ft) (by rw[List.getElem?_map,hr];rfl) h
 have hno:=fun k r (hr:p.o[k]? = some r) (h:G7 ft rec a.a.fs r.r = false)=>Oq (rs:=p.o.map (·.r)) (rec:=rec) (fs:=a.a.fs) (k:=k) (ft:=ft) (by rw[List.getElem?_map,hr];rfl) h
 have hlen:=KW ft (p.o.map (·.r)) rec a.a.fs;have h00:nR ft (p.o.map (·.r)) rec a.a.fs 0=[]:=rfl;unfold G7 at pO hno;generalize nR ft (p.o.map (·.r)) rec a.a.fs=F at *
 unfold dU.val jy;clear aQ hp O_ hA;obtain⟨⟨sl,sA,sm,sk⟩,⟨rl,rA,rm,rk⟩,⟨el,eA,em,ek⟩,⟨al,aA,am,ak⟩,o,oA,om,ok,i,iA,im,ik⟩:=p;obtain⟨⟨src,fs,⟨lv,lc⟩,f,t⟩,A,m,k0⟩:=a;simp only at cA hO QB QA hm pO hno ⊢;replace cA:=ζ cA;replace hO:=ζ hO;replace pO:=ζ pO;replace hno:=ζ hno;replace hlen:=ζ hlen;go_enter Tryz.func18,Tryz.ntmps18
 go_wp2;go_loopw [7,8,9,13] (fun v _ _ i wr=>∃k:Nat,k≤om∧i =.int .i64 k∧Hid (Own wr (w.heap.size+2) 3 1 encI v (F k))∧Hid (aS wr (w.heap.size+1) 42 #[.string ⟨src.toArray⟩,.slice A m k0,.int .i64 lv,.int .u32 (lc:Int),.int .i64 f,.int .i64 t])∧Hid (ah w wr)) (fun _ _ _ i _=>om-(intOf i).toNat)
 case atStart=>exact⟨0,ω,rfl,by rw[h00];exact Own.iH _ _ _ _ _,aS.vO w _ _ _,((ah.refl w).alloc _).alloc _⟩
 case round=>
  obtain⟨k,hk,rfl,hOw,hB,hG⟩:=hrel;by_cases nV:k<om
  ·obtain⟨bb,off,r,rfl,JI,hr,hcell⟩:=(hO.o.keep hG.o).at_ nV;have c0:wr.cell? ⟨bb,off+k*6,none⟩=some (.string ⟨r.r.r.toArray⟩):=hcell 0 _ rfl;have c1:wr.cell? ⟨bb,off+k*6+1,none⟩=some (.slice r.bA r.bm r.bk):=hcell 1 _ rfl;have c2:wr.cell? ⟨bb,off+k*6+2,none⟩=some (.int .i64 r.r.wait):=hcell 2 _ rfl;have c3:wr.cell? ⟨bb,off+k*6+3,none⟩=some (.int .i64 r.r.every):=hcell 3 _ rfl;have c4:wr.cell? ⟨bb,off+k*6+4,none⟩=some (.int .i64 r.r.again):=hcell 4 _ rfl;have c5:wr.cell? ⟨bb,off+k*6+5,none⟩=some (.slice r.wA r.wm r.wk):=hcell 5 _ rfl;have j_:(k:Int)<(om:Int):=ω;have hy:=pO.o k r hr;have hn:=hno.o k r hr;have cR:=cA.out r (List.mem_of_getElem? hr);have q1:=hB.o.c1;have qz:=hB.o.lt;have hsz:=hG.o.size;have hlk:=hlen.o k;generalize r.r.wh.all (ft fs)=B at *
   replace cR:=ζ cR;clear hcell;by_cases Qa:r.r.r = rec
   ·have V3:(r.r.r ==rec)=true:=by simp[Qa]
    have hde:decide (r.r.r = rec)=true:=by simp[Qa]
    rw[hde] at hy hn;clear Qa hde hr;cases B
    ·have hn':=ζ (hn rfl);clear hy hn;go_wp2_with fail;refine (cR.out _ (by
      have hG:=hG.o;exact γ
     )).mono ?_
     rintro e w1 ⟨rfl,hb⟩;have mX:=ζ ((hG.o.alloc _).trans hb);have FN:=ζ ((hOw.o.alloc _).grows hb);have ET:=ζ ((hB.o.alloc _).grows hb);clear hb c0 c1 c2 c3 c4 c5 hG hOw hB q1 qz;go_wp2;go_roundw
     case rel=>exact⟨k+1,ω,ν,by rw[hn'.o];exact FN.o,ET.o,mX.o⟩
     case measure=>exact ψ
    ·have hy':=ζ (hy rfl);clear hy hn;go_wp2_with fail;refine (cR.out _ (by
      have hG:=hG.o;exact γ
     )).mono ?_
     rintro e w1 ⟨rfl,hb⟩;have mX:=ζ ((hG.o.alloc _).trans hb);have FN:=ζ ((hOw.o.alloc _).grows hb);have ET:=ζ ((hB.o.alloc _).grows hb);clear hb c0 c1 c2 c3 c4 c5 hG hOw hB q1 qz;have aoQ:=ET.o.lt;replace hlk:=ζ hlk;go_wp2_with (at_builtin;refine dM (x:=k) aly rfl (.tmp 29) (.tmp 31) rfl (FN.o.alloc _) rfl ⟨w1.heap.size,0,none⟩ rfl rfl (h_ (by exact heap_alloc_new w1 _)) (UZ k) (by simp;omega) (by have:=hlk.o;unfold maxLen;omega) (by have:=hlk.o;omega) (fun v2 w2 pY hgr hat=> ?_);(have iC:=ζ ((mX.o.alloc _).bH hgr (fun g hg=>by have:=FN.o.eH g hg;omega)));(have mY:=ζ ((ET.o.alloc _).bH hgr (fun e=>by have:=FN.o.eH _ e.symm;omega)));(replace pY:=ζ pY);clear hgr hat);go_roundw
     case rel=>exact⟨k+1,ω,ν,by rw[hy'.o];exact pY.o,mY.o,iC.o⟩
     case measure=>exact ψ
   ·have V3:(r.r.r ==rec)=false:=by simp[Qa]
    have hde:decide (r.r.r = rec)=false:=by simp[Qa]
    rw[hde] at hn;have hn':=ζ (hn rfl);clear Qa hde hr hy hn cR;go_wp2;go_roundw
    case rel=>exact⟨k+1,ω,ν,by rw[hn'.o];exact hOw.o.alloc _,hB.o.alloc _,hG.o.alloc _⟩
    case measure=>exact ψ
  ·obtain rfl:k=om:=ω;go_wp2;go_ret;exact⟨_,rfl,hOw.o.ig ω,hG.o⟩
def jl.cut (x:jl) (n:Nat):jl:=⟨x.l.take (min x.m n),x.A,min x.m n,x.k⟩
def dU.cut (p:dU) (n:Nat):dU:=⟨p.s.cut n,p.r.cut n,p.e.cut n,p.a.cut n,p.o.take (min p.om n),p.oA,min p.om n,p.ok,p.i.take (min p.im n),p.iA,min p.im n,p.ik⟩
structure dU.aqe (p:dU):Prop where
 s:p.s.m≤p.s.k
 r:p.r.m≤p.r.k
 e:p.e.m≤p.e.k
 a:p.a.m≤p.a.k
 o:p.om≤p.ok
 i:p.im≤p.ik
 sk:p.s.k≤9223372036854775807
 rk:p.r.k≤9223372036854775807
 ek:p.e.k≤9223372036854775807
 ak:p.a.k≤9223372036854775807
 ok_:p.ok≤9223372036854775807
 ik_:p.ik≤9223372036854775807
theorem jl.At.cut {x:jl} {w:World} (h:x.At w) (n:Nat):(x.cut n).At w:=
 ⟨h.arr.take (Nat.min_le_left _ _),Nat.le_trans (Nat.min_le_left _ _) h.le,fun y hy=>h.Yu y (List.mem_of_mem_take hy),fun y hy=>h.txt y (List.mem_of_mem_take hy)⟩
theorem dU.At.cut {p:dU} {w:World} (h:p.At w) (n:Nat):(p.cut n).At w:=
 ⟨h.s.cut n,h.r.cut n,h.e.cut n,h.a.cut n,h.o.take (Nat.min_le_left _ _),Nat.le_trans (Nat.min_le_left _ _) h.ole,fun y hy=>h.oAt y (List.mem_of_mem_take hy),h.i.take (Nat.min_le_left _ _),Nat.le_trans (Nat.min_le_left _ _) h.ile,fun y hy=>h.iAt y (List.mem_of_mem_take hy)⟩
theorem ahj {p:dU} (w:World) (hk:p.aqe):Calls Tryz.prog 5 #[p.val,.int .i64 14] w fun e w'=>e =.returned (p.cut 14).val∧ah w w':=by
 obtain⟨⟨sl,sA,sm,sk⟩,⟨rl,rA,rm,rk⟩,⟨el,eA,em,ek⟩,⟨al,aA,am,ak⟩,o,oA,om,ok,i,iA,im,ik⟩:=p;obtain⟨h1,h2,h3,h4,h5,h6,k1,k2,k3,k4,k5,k6⟩:=hk;simp only at h1 h2 h3 h4 h5 h6 k1 k2 k3 k4 k5 k6;unfold dU.val dU.cut jl.cut;simp only;go_enter Tryz.func5,Tryz.ntmps5
 go_wp2;have e:∀m:Nat,(min (m:Int) 14).toNat=min m 14:=fun m=>ω
 simp only[e];have hB:=aS.new (w.alloc (.cells #[.slice sA (min sm 14) sk,.slice rA (min rm 14) rk,.slice eA (min em 14) ek,.slice aA (min am 14) ak,.slice oA (min om 14) ok,.slice iA (min im 14) ik] 26)) 26 #[.slice sA (min sm 14) sk,.slice rA (min rm 14) rk,.slice eA (min em 14) ek,.slice aA (min am 14) ak,.slice oA (min om 14) ok,.slice iA (min im 14) ik];rw[show (w.alloc (.cells #[.slice sA (min sm 14) sk,.slice rA (min rm 14) rk,.slice eA (min em 14) ek,.slice aA (min am 14) ak,.slice oA (min om 14) ok,.slice iA (min im 14) ik] 26)).heap.size=w.heap.size+1 by simp] at hB;have hG:ah w ((w.alloc (.cells #[.slice sA (min sm 14) sk,.slice rA (min rm 14) rk,.slice eA (min em 14) ek,.slice aA (min am 14) ak,.slice oA (min om 14) ok,.slice iA (min im 14) ik] 26)).alloc (.cells #[.slice sA (min sm 14) sk,.slice rA (min rm 14) rk,.slice eA (min em 14) ek,.slice aA (min am 14) ak,.slice oA (min om 14) ok,.slice iA (min im 14) ik] 26)):=((ah.refl w).alloc _).alloc _;generalize (w.alloc (.cells #[.slice sA (min sm 14) sk,.slice rA (min rm 14) rk,.slice eA (min em 14) ek,.slice aA (min am 14) ak,.slice oA (min om 14) ok,.slice iA (min im 14) ik] 26)).alloc (.cells #[.slice sA (min sm 14) sk,.slice rA (min rm 14) rk,.slice eA (min em 14) ek,.slice aA (min am 14) ak,.slice oA (min om 14) ok,.slice iA (min im 14) ik] 26)=w9 at *
 have e0:=hB.cell 0;have e1:=hB.cell 1;have e2:=hB.cell 2;have e3:=hB.cell 3;have e4:=hB.cell 4;have e5:=hB.cell 5;refine bodyPost_ret (v:=.agg #[.slice sA (min sm 14) sk,.slice rA (min rm 14) rk,.slice eA (min em 14) ek,.slice aA (min am 14) ak,.slice oA (min om 14) ok,.slice iA (min im 14) ik]) ?_ rfl ⟨rfl,hG⟩;simp[results,Tryz.results5,go_sem,e0,e1,e2,e3,e4,e5]
end Go.Proofs.YteojanlajhebhaaGreatDoor
