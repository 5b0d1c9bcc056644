/- Parts: LabB AlrD AlrE LwA CatB -/
import Derived.Test.YtbhikkgpcmkonaaGreatDoorEn0
import Derived.Test.YtbhikkgpcmkonaaGreatDoorEn3
import Derived.Test.YtbhikkgpcmkonaaGreatDoorEn7
import Derived.Test.YtbhikkgpcmkonaaGreatDoorEn5
import Derived.Lib.AppendZeros
set_option maxRecDepth 100000
set_option maxHeartbeats 12800000
namespace Go.Proofs.YtbhikkgpcmkonaaGreatDoor
open Go.RowKit
def encI (n:Nat):List Value:=[.int .i64 (n:Int)]
theorem Xt (n:Nat):(encI n).length=1:=rfl
theorem ahe (n:Nat):∀u∈encI n,u.oneCell'=true:=by intro u hu;simp[encI] at hu;subst hu;rfl
theorem amc:eX Tryz.prog 71 3 1 8:=eX.mk' (z:=.int .i64 0) Tryz.underlying71 κ rfl ω
theorem F9 {w:World} {g m k lc:Nat} {src:List UInt8} {A:Option Addr} {lv f t:Int} (h:aF w g 57 #[.string ⟨src.toArray⟩,.slice A m k,.int .i64 lv,.int .u32 (lc:Int),.int .i64 f,.int .i64 t]) :
 w.cell? ⟨g,0,none⟩=some (.string ⟨src.toArray⟩)∧w.cell? ⟨g,1,none⟩=some (.slice A m k)∧w.cell? ⟨g,2,none⟩=some (.int .i64 lv)∧w.cell? ⟨g,3,none⟩=some (.int .u32 (lc:Int))∧w.cell? ⟨g,4,none⟩=some (.int .i64 f)∧w.cell? ⟨g,5,none⟩=some (.int .i64 t)∧g < w.heap.size:=
 ⟨h.cell 0,h.cell 1,h.cell 2,h.cell 3,h.cell 4,h.cell 5,h.lt⟩
theorem nU {w:World} {g:Nat} (h:aF w g 57 zK) :
 w.cell? ⟨g,0,none⟩=some (.string ⟨#[]⟩)∧w.cell? ⟨g,1,none⟩=some (.slice none 0 0)∧w.cell? ⟨g,2,none⟩=some (.int .i64 0)∧w.cell? ⟨g,3,none⟩=some (.int .u32 0)∧w.cell? ⟨g,4,none⟩=some (.int .i64 0)∧w.cell? ⟨g,5,none⟩=some (.int .i64 0)∧(∀i,w.frozen? ⟨g,i,none⟩=false)∧g < w.heap.size:=
 ⟨h.cell 0,h.cell 1,h.cell 2,h.cell 3,h.cell 4,h.cell 5,fun i=>h.frozen i,h.lt⟩
theorem VD {p:jo} {rec:List UInt8} {a:jq} {now:Int} (h:dY p.receivers rec=none):jP p rec a now=none:=by unfold jP;rw[h]
theorem ZC {p:jo} {rec:List UInt8} {a:jq} {now:Int} (h:bJ a = false∨dV a now=false):jP p rec a now=none:=by
 unfold jP;cases dY p.receivers rec with
 | none=>rfl
 | some tO=>rcases h with h | h <;> simp[h]
theorem ZE {p:jo} {rec:List UInt8} {a:jq} {now:Int} {tO:jU} (h:dY p.receivers rec=some tO) (h1:bJ a = true) (h2:dV a now=true):jP p rec a now=kC p a tO:=by
 unfold jP;rw[h];simp[h1,h2]
theorem ade {p:aY} {rec:List UInt8} {a:dH} {now:Int} (w:World) (hp:p.At w) (ha:a.At w) :
 Calls Tryz.prog 84 #[p.val,.string ⟨rec.toArray⟩,iT a,.int .i64 now] w fun e w'=>∃v,e =.returned (.tuple #[v,.bool (jP p.aU rec a.a now).isSome])∧nJ w' w.heap.size (jP p.aU rec a.a now) v∧ah w w':=by
 have cF:=fun W (hW:ah w W)=>vM (c:=p.r.k) (n:=rec) W (hp.r.arr.keep hW) hp.r.le
 have cR:=fun W (hW:ah w W)=>sK W (ha.keep hW)
 have cT:=fun W=>zA a now W
 have GU:dY p.aU.receivers rec=none→jP p.aU rec a.a now=none:=VD;have hS1:bJ a.a = false∨dV a.a now=false→jP p.aU rec a.a now=none:=ZC;have zG:p.aU.receivers=p.r.l:=rfl;rw[zG] at GU;have cC:∀tO,dY p.r.l rec=some tO→∀W,ah w W→Calls Tryz.prog 72 #[p.val,iT a,.agg #[.int .i64 tO.lv,.int .u32 (tO.c:Int)]] W fun e w'=>∃v,e =.returned (.tuple #[v,.bool (kC p.aU a.a tO).isSome])∧nJ w' W.heap.size (kC p.aU a.a tO) v∧ah W w':=fun tO xQ W hW=>
  DY W (hp.keep hW) (ha.keep hW) (by obtain⟨y,hy,rfl⟩:=vK xQ;exact hp.r.U_ y hy)
 have BM:∀tO,dY p.r.l rec=some tO→bJ a.a = true→dV a.a now=true→jP p.aU rec a.a now=kC p.aU a.a tO:=fun tO xQ h1 h2=>ZE (zG ▸ xQ) h1 h2
 generalize kC p.aU a.a = CU at *
 generalize jP p.aU rec a.a now=S at *
 generalize bJ a.a = AB at *
 generalize dV a.a now=FI at *
 unfold iT aY.val at *
 clear hp ha zG;obtain⟨⟨sl,sA,sm,sk⟩,⟨rl,rA,rm,rk⟩,⟨el,eA,em,ek⟩,⟨al,aA,am,ak⟩,o,oA,om,ok,i,iA,im,ik⟩:=p;obtain⟨⟨src,fs,⟨lv,lc⟩,f,t⟩,A,m,k⟩:=a;simp only at cF cR cT cC GU BM ⊢;replace cR:=ζ cR;replace cT:=ζ cT;replace cF:=ζ cF;generalize apr:dY rl rec=FL at *
 clear apr;cases FL with
 | none=>
  obtain rfl:=GU rfl;clear cR cT cC GU hS1 BM;go_enter Tryz.func84,Tryz.ntmps84
  go_wp2_with fail;refine (cF.out _ γ).mono ?_;rintro e w1 ⟨rfl,hb1⟩;have br:aF w1 (w.heap.size+1+1) 57 zK:=(aF.yH w _ _ _ _).grows hb1;have hG:Hid (ah w w1):=ζ ((((ah.refl w).alloc _).alloc _).alloc _ |>.trans hb1);have y0:=br.c0;have y1:=br.c1;have y2:=br.c2;have y3:=br.c3;have y4:=br.c4;have y5:=br.c5;have yf:=fun i=>br.frozen i
  have yl:=br.lt;clear cF hb1 br;go_wp2_with fail;refine bodyPost_ret (v:=.tuple #[jv,.bool false]) ?_ rfl ⟨jv,rfl,rfl,?_⟩
  ·simp only[results,Tryz.results84,jv];go_simp
  ·have hG:=hG.o;exact Γ
 | some tO=>
  replace cC:=ζ (cC tO rfl);replace hS1:=ζ hS1;have ahZ:=ζ (BM tO rfl);generalize CU tO=C at *
  clear GU BM;simp only[jE,Option.getD_some,Option.isSome_some] at cF;replace cF:=ζ cF.out;go_enter Tryz.func84,Tryz.ntmps84
  go_wp2_with fail;refine (cF.out _ γ).mono ?_;rintro e w1 ⟨rfl,hb1⟩;have bp:Hid (aF w1 w.heap.size 50 #[.slice sA sm sk,.slice rA rm rk,.slice eA em ek,.slice aA am ak,.slice oA om ok,.slice iA im ik]):=ζ ((((aF.new w _ _).alloc _).alloc _).grows hb1);have ba:Hid (aF w1 (w.heap.size+1) 57 #[.string ⟨src.toArray⟩,.slice A m k,.int .i64 lv,.int .u32 (lc:Int),.int .i64 f,.int .i64 t]):=ζ (((aF.ou w _ _ _).alloc _).grows hb1);have br:Hid (aF w1 (w.heap.size+1+1) 57 zK):=ζ ((aF.yH w _ _ _ _).grows hb1);have hG:Hid (ah w w1):=ζ ((((ah.refl w).alloc _).alloc _).alloc _ |>.trans hb1);have sz1:w.heap.size+3≤w1.heap.size:=by have:=hb1.size;simp at this;omega
  clear cF hb1;replace bp:=ζ (bp.out.alloc (.cells #[.int .i64 tO.lv,.int .u32 (tO.c:Int)] 25));replace ba:=ζ (ba.out.alloc (.cells #[.int .i64 tO.lv,.int .u32 (tO.c:Int)] 25));replace br:=ζ (br.out.alloc (.cells #[.int .i64 tO.lv,.int .u32 (tO.c:Int)] 25));have hN:Hid (ah w (w1.alloc (.cells #[.int .i64 tO.lv,.int .u32 (tO.c:Int)] 25))):=ζ (hG.o.alloc _);have bl:Hid (aF (w1.alloc (.cells #[.int .i64 tO.lv,.int .u32 (tO.c:Int)] 25)) w1.heap.size 25 #[.int .i64 tO.lv,.int .u32 (tO.c:Int)]):=ζ (aF.new w1 _ _);obtain⟨x0,x1,x2,x3,x4,x5,xl⟩:=F9 ba.out;obtain⟨y0,y1,y2,y3,y4,y5,yf,yl⟩:=nU br.out;go_wp2_with fail;refine (cR.out _ hN.o).mono ?_;rintro e w2 ⟨rfl,hb2⟩;replace bp:=ζ (bp.out.grows hb2);replace ba:=ζ (ba.out.grows hb2);replace br:=ζ (br.out.grows hb2);replace bl:=ζ (bl.out.grows hb2);replace hN:=ζ (hN.o.trans hb2);clear hb2 x0 x1 x2 x3 x4 x5 xl y0 y1 y2 y3 y4 y5 yf yl;obtain⟨x0,x1,x2,x3,x4,x5,xl⟩:=F9 ba.out;obtain⟨y0,y1,y2,y3,y4,y5,yf,yl⟩:=nU br.out;clear cR;cases AB
  ·obtain rfl:=hS1.o (.inl (by trivial));clear cT cC hS1 ahZ;go_wp2_with fail;refine bodyPost_ret (v:=.tuple #[jv,.bool false]) ?_ rfl ⟨jv,rfl,rfl,?_⟩
   ·simp only[results,Tryz.results84,jv];go_simp
   ·have hN:=hN.o;exact Γ
  ·go_wp2_with fail;refine (cT.out _).mono ?_;rintro e w3 ⟨rfl,hb3⟩;replace bp:=ζ (bp.out.grows hb3);replace ba:=ζ (ba.out.grows hb3);replace br:=ζ (br.out.grows hb3);replace bl:=ζ (bl.out.grows hb3);replace hN:=ζ (hN.o.trans hb3);clear hb3 x0 x1 x2 x3 x4 x5 xl y0 y1 y2 y3 y4 y5 yf yl;obtain⟨x0,x1,x2,x3,x4,x5,xl⟩:=F9 ba.out;obtain⟨y0,y1,y2,y3,y4,y5,yf,yl⟩:=nU br.out;clear cT;cases FI
   ·obtain rfl:=hS1.o (.inr (by trivial));clear cC hS1 ahZ;go_wp2_with fail;refine bodyPost_ret (v:=.tuple #[jv,.bool false]) ?_ rfl ⟨jv,rfl,rfl,?_⟩
    ·simp only[results,Tryz.results84,jv];go_simp
    ·have hN:=hN.o;exact Γ
   ·obtain rfl:=ahZ.o (by trivial) (by trivial);clear hS1 ahZ;have p0:_ = some (Value.slice sA sm sk):=bp.out.cell 0;have p1:_ = some (Value.slice rA rm rk):=bp.out.cell 1;have p2:_ = some (Value.slice eA em ek):=bp.out.cell 2;have p3:_ = some (Value.slice aA am ak):=bp.out.cell 3;have p4:_ = some (Value.slice oA om ok):=bp.out.cell 4;have p5:_ = some (Value.slice iA im ik):=bp.out.cell 5;have pl:=bp.out.lt;have l0:_ = some (Value.int .i64 tO.lv):=bl.out.cell 0;have l1:_ = some (Value.int .u32 (tO.c:Int)):=bl.out.cell 1;have ll:=bl.out.lt;go_wp2_with fail;refine (cC.out _ hN.o).mono ?_;rintro e w4 ⟨v,rfl,hv,hb4⟩;have sz3:=hN.o.size;replace hN:=ζ (hN.o.trans hb4);clear cC x0 x1 x2 x3 x4 x5 xl y0 y1 y2 y3 y4 y5 yf yl p0 p1 p2 p3 p4 p5 pl l0 l1 ll ba bp bl;have sz4:=br.out.lt;replace br:=ζ (br.out.grows hb4);clear hb4;obtain⟨y0,y1,y2,y3,y4,y5,yf,yl⟩:=nU br.out;cases S with
    | none=>
     obtain rfl:v = jv:=hv;unfold jv;clear br;go_wp2_with fail;refine bodyPost_ret (v:=.tuple #[jv,.bool false]) ?_ rfl ⟨jv,rfl,rfl,?_⟩
     ·simp only[results,Tryz.results84,jv];go_simp
     ·have hN:=hN.o;exact Γ
    | some b=>
     obtain⟨A',c',rfl,hO⟩:=hv;unfold iT;obtain⟨src',YV,⟨lv',lc'⟩,f',t'⟩:=b;simp only at hO ⊢;replace hO:=ζ hO;generalize hL:YV.length=L at *
     replace hL:=ζ hL;clear br;go_wp2_with fail;refine bodyPost_ret (v:=.tuple #[iT ⟨⟨src',YV,⟨lv',lc'⟩,f',t'⟩,A',L,c'⟩,.bool true]) ?_ rfl ⟨iT ⟨⟨src',YV,⟨lv',lc'⟩,f',t'⟩,A',L,c'⟩,rfl,?_,?_⟩
     ·simp only[results,Tryz.results84,iT];go_simp
     ·refine⟨A',c',by rw[hL.o],?_⟩;rw[hL.o];refine Own.bH (base:=w3.heap.size) ?_ ω;repeat (with_reducible refine Own.adb ?_ (by first | omega | (simp;omega)) _)
      with_reducible exact hO.o
     ·have hN:=hN.o;exact Γ
def pq (ft:List bK→d_→Bool) (x:d_):Prop:=∀(A:Option Addr) (m c:Nat) (l:List bK) (W:World),cu W 2 eu A m l→m≤9223372036854775807→(∀f∈l,f.v.length≤1000000)→Calls Tryz.prog 152 #[.slice A m c,Jo x] W fun e w'=>e =.returned (.bool (ft l x))∧ah W w'
theorem afZ {ft:List bK→d_→Bool} {x:d_} {g:Nat} {A:Option Addr} {m c:Nat} {l:List bK} (w:World) (hx:pq ft x) (hc:w.cell? ⟨g,0,none⟩=some (.slice A m c)) (hA:cu w 2 eu A m l) (hm:m≤9223372036854775807) (hT:∀f∈l,f.v.length≤1000000) :
 Calls Tryz.prog 151 #[Jo x,.pointer (some ⟨g,0,none⟩)] w fun e w'=>e =.returned (.bool (!ft l x))∧ah w w':=by
 have cF:=fun W (hW:ah w W)=>hx A m c l W (hA.keep hW) hm hT
 have hg:=World.block_lt_of_cell? w _ hc;simp only at hg;generalize ft l x = B at *
 unfold Jo at *
 replace cF:=ζ cF;clear hx hA;go_enter Tryz.func151,Tryz.ntmps151
 go_wp2_with fail;refine (cF.out _ γ).mono ?_;rintro e w1 ⟨rfl,hb⟩;have hG:ah w w1:=((ah.refl w).alloc _).trans hb;go_wp2;go_ret;exact⟨aN rfl,hG⟩
theorem UZ {α:Type} (p:α→Bool) (l:List α):l.all p = !(l.any fun x=> !p x):=by
 rw[List.not_any_eq_all_not];congr 1;funext x;rw[Bool.not_not]
theorem Je {ft:List bK→d_→Bool} {A:Option Addr} {m c:Nat} {l:List bK} {A2:Option Addr} {m2 c2:Nat} {ms:List d_} (w:World) (hA:cu w 2 eu A m l) (hm:m≤9223372036854775807) (hM:cu w 3 FY A2 m2 ms) (Vd:m2≤9223372036854775807) (hT:∀f∈l,f.v.length≤1000000) (hx:∀x∈ms,pq ft x) :
 Calls Tryz.prog 102 #[.slice A m c,.slice A2 m2 c2] w fun e w'=>e =.returned (.bool (ms.all (ft l)))∧ah w w':=by
 have cC:=fun (W:World) (hW:ah w W) (hc:W.cell? ⟨w.heap.size,0,none⟩=some (.slice A m c))=>Uy (c:=c2) 151 #[.pointer (some ⟨w.heap.size,0,none⟩)] (enters_of Tryz.func151 κ rfl) (fun y=> !ft l y) A2 m2 ms W (hM.keep hW) Vd (fun y hy W' uK=>afZ W' (hx y hy) (uK.cell hc) (hA.keep (hW.trans uK)) hm hT)
 have hna:=UZ (ft l) ms;rw[hna];generalize (ms.any fun x=> !ft l x)=B at *
 replace cC:=ζ cC;clear hx hA hM hna;go_enter Tryz.func102,Tryz.ntmps102
 go_wp2_with fail;refine (cC.out _ γ ((aF.new w _ _).cell 0)).mono ?_;rintro e w1 ⟨rfl,hb⟩;have hG:ah w w1:=((ah.refl w).alloc _).trans hb;go_wp2;go_ret;exact⟨aN rfl,hG⟩
def FV (ft:List bK→d_→Bool) (rec:List UInt8) (fs:List bK) (r:Rte):Bool:=decide (r.r = rec)&&r.wh.all (ft fs)
def kP (ft:List bK→d_→Bool) (rs:List Rte) (rec:List UInt8) (fs:List bK) (k:Nat):List Nat:=(List.range k).filter fun i=>match rs[i]? with | some r=>FV ft rec fs r | none=>false
def sF (ft:List bK→d_→Bool) (p:jo) (rec:List UInt8) (fs:List bK):List Nat:=kP ft p.routes rec fs p.routes.length
theorem XM {ft:List bK→d_→Bool} {rs:List Rte} {rec:List UInt8} {fs:List bK} {k:Nat} {r:Rte} (hr:rs[k]? = some r) (h:FV ft rec fs r = true):kP ft rs rec fs (k+1)=kP ft rs rec fs k++[k]:=by
 unfold kP;rw[List.range_succ,List.filter_append];simp[hr,h]
theorem abe {ft:List bK→d_→Bool} {rs:List Rte} {rec:List UInt8} {fs:List bK} {k:Nat} {r:Rte} (hr:rs[k]? = some r) (h:FV ft rec fs r = false):kP ft rs rec fs (k+1)=kP ft rs rec fs k:=by
 unfold kP;rw[List.range_succ,List.filter_append];simp[hr,h]
theorem Kq (ft:List bK→d_→Bool) (rs:List Rte) (rec:List UInt8) (fs:List bK) (k:Nat):(kP ft rs rec fs k).length≤k:=by
 unfold kP;exact Nat.le_trans (List.length_filter_le _ _) σ
def D8 (ft:List bK→d_→Bool) (x:aY):Prop:=∀r∈x.o,∀y∈r.r.wh,pq ft y
theorem afa {ft:List bK→d_→Bool} {p:aY} {rec:List UInt8} {a:dH} (w:World) (hp:p.At w) (hA:cu w 2 eu a.A a.m a.a.fs) (hm:a.m≤9223372036854775807) (hT:∀f∈a.a.fs,f.v.length≤1000000) (hom:p.om≤1000) (TJ:D8 ft p) :
 Calls Tryz.prog 85 #[p.val,.string ⟨rec.toArray⟩,iT a] w fun e w'=>∃v,e =.returned v∧Own w' w.heap.size 3 1 encI v (sF ft p.aU rec a.a.fs)∧ah w w':=by
 have hO:=hp.o;have hol:=hO.1;have cA:=fun (r:xY) (hr:r∈p.o) (W:World) (hW:ah w W)=>Je (ft:=ft) (c:=a.k) (c2:=r.wk) W (hA.keep hW) hm ((hp.oAt r hr).keep hW).wh (hp.oAt r hr).Vq hT (TJ r hr)
 have aO:sF ft p.aU rec a.a.fs=kP ft (p.o.map (·.r)) rec a.a.fs p.om:=by
  show kP ft (p.o.map (·.r)) rec a.a.fs (p.o.map (·.r)).length=_
  rw[List.length_map,hol]
 rw[aO];have Qp:=fun k r (hr:p.o[k]? = some r) (h:FV ft rec a.a.fs r.r = true)=>XM (rs:=p.o.map (·.r)) (rec:=rec) (fs:=a.a.fs) (k:=k) (ft:=ft) (by rw[List.getElem?_map,hr];rfl) h
 have hno:=fun k r (hr:p.o[k]? = some r) (h:FV ft rec a.a.fs r.r = false)=>abe (rs:=p.o.map (·.r)) (rec:=rec) (fs:=a.a.fs) (k:=k) (ft:=ft) (by rw[List.getElem?_map,hr];rfl) h
 have hlen:=Kq ft (p.o.map (·.r)) rec a.a.fs;have OO:kP ft (p.o.map (·.r)) rec a.a.fs 0=[]:=rfl;unfold FV at Qp hno;generalize kP ft (p.o.map (·.r)) rec a.a.fs=F at *
 unfold aY.val iT;clear aO hp TJ hA;obtain⟨⟨sl,sA,sm,sk⟩,⟨rl,rA,rm,rk⟩,⟨el,eA,em,ek⟩,⟨al,aA,am,ak⟩,o,oA,om,ok,i,iA,im,ik⟩:=p;obtain⟨⟨src,fs,⟨lv,lc⟩,f,t⟩,A,m,k0⟩:=a;simp only at cA hO hol hom hm Qp hno ⊢;replace cA:=ζ cA;replace hO:=ζ hO;replace Qp:=ζ Qp;replace hno:=ζ hno;replace hlen:=ζ hlen;go_enter Tryz.func85,Tryz.ntmps85
 go_wp2;go_loopw [7,8,9,13] (fun v _ _ i wr=>∃k:Nat,k≤om∧i =.int .i64 k∧Hid (Own wr (w.heap.size+2) 3 1 encI v (F k))∧Hid (aF wr (w.heap.size+1) 57 #[.string ⟨src.toArray⟩,.slice A m k0,.int .i64 lv,.int .u32 (lc:Int),.int .i64 f,.int .i64 t])∧Hid (ah w wr)) (fun _ _ _ i _=>om-(intOf i).toNat)
 case atStart=>exact⟨0,ω,rfl,by rw[OO];exact Own.jA _ _ _ _ _,aF.ou w _ _ _,((ah.refl w).alloc _).alloc _⟩
 case round=>
  obtain⟨k,hk,rfl,hOw,hB,hG⟩:=hrel;by_cases yR:k<om
  ·obtain⟨bb,off,r,rfl,GK,hr,hcell⟩:=(hO.o.keep hG.o).at_ yR;have c0:wr.cell? ⟨bb,off+k*6,none⟩=some (.string ⟨r.r.r.toArray⟩):=hcell 0 _ rfl;have c1:wr.cell? ⟨bb,off+k*6+1,none⟩=some (.slice r.bA r.bm r.bk):=hcell 1 _ rfl;have c2:wr.cell? ⟨bb,off+k*6+2,none⟩=some (.int .i64 r.r.wait):=hcell 2 _ rfl;have c3:wr.cell? ⟨bb,off+k*6+3,none⟩=some (.int .i64 r.r.every):=hcell 3 _ rfl;have c4:wr.cell? ⟨bb,off+k*6+4,none⟩=some (.int .i64 r.r.again):=hcell 4 _ rfl;have c5:wr.cell? ⟨bb,off+k*6+5,none⟩=some (.slice r.wA r.wm r.wk):=hcell 5 _ rfl;have lK:(k:Int)<(om:Int):=ω;have hy:=Qp.o k r hr;have hn:=hno.o k r hr;have cR:=cA.out r (List.mem_of_getElem? hr);have q1:=hB.o.c1;have qz:=hB.o.lt;have hsz:=hG.o.size;have hlk:=hlen.o k;generalize r.r.wh.all (ft fs)=B at *
   replace cR:=ζ cR;clear hcell;by_cases Iu:r.r.r = rec
   ·have hbe:(r.r.r ==rec)=true:=by simp[Iu]
    have hde:decide (r.r.r = rec)=true:=by simp[Iu]
    rw[hde] at hy hn;clear Iu hde hr;cases B
    ·have hn':=ζ (hn rfl);clear hy hn;go_wp2_with fail;refine (cR.out _ (by
      have hG:=hG.o;exact γ
     )).mono ?_
     rintro e w1 ⟨rfl,hb⟩;have gu:=ζ ((hG.o.alloc _).trans hb);have tq:=ζ ((hOw.o.alloc _).grows hb);have ug:=ζ ((hB.o.alloc _).grows hb);clear hb c0 c1 c2 c3 c4 c5 hG hOw hB q1 qz;go_wp2;go_roundw
     case rel=>exact⟨k+1,ω,ν,by rw[hn'.o];exact tq.o,ug.o,gu.o⟩
     case measure=>exact ψ
    ·have hy':=ζ (hy rfl);clear hy hn;go_wp2_with fail;refine (cR.out _ (by
      have hG:=hG.o;exact γ
     )).mono ?_
     rintro e w1 ⟨rfl,hb⟩;have gu:=ζ ((hG.o.alloc _).trans hb);have tq:=ζ ((hOw.o.alloc _).grows hb);have ug:=ζ ((hB.o.alloc _).grows hb);clear hb c0 c1 c2 c3 c4 c5 hG hOw hB q1 qz;have Xi:=ug.o.lt;replace hlk:=ζ hlk;go_wp2_with (at_builtin;refine gy (x:=k) amc rfl (.tmp 29) (.tmp 31) rfl (tq.o.alloc _) rfl ⟨w1.heap.size,0,none⟩ rfl rfl (lJ (by exact heap_alloc_new w1 _)) (ahe k) (by simp;omega) (by have:=hlk.o;unfold maxLen;omega) (by have:=hlk.o;omega) (fun v2 w2 l9 hgr hat=> ?_);(have fG:=ζ ((gu.o.alloc _).aP hgr (fun g hg=>by have:=tq.o.fH g hg;omega)));(have pW:=ζ ((ug.o.alloc _).aP hgr (fun e=>by have:=tq.o.fH _ e.symm;omega)));(replace l9:=ζ l9);clear hgr hat);go_roundw
     case rel=>exact⟨k+1,ω,ν,by rw[hy'.o];exact l9.o,pW.o,fG.o⟩
     case measure=>exact ψ
   ·have hbe:(r.r.r ==rec)=false:=by simp[Iu]
    have hde:decide (r.r.r = rec)=false:=by simp[Iu]
    rw[hde] at hn;have hn':=ζ (hn rfl);clear Iu hde hr hy hn cR;go_wp2;go_roundw
    case rel=>exact⟨k+1,ω,ν,by rw[hn'.o];exact hOw.o.alloc _,hB.o.alloc _,hG.o.alloc _⟩
    case measure=>exact ψ
  ·obtain rfl:k=om:=ω;go_wp2;go_ret;exact⟨_,rfl,hOw.o.bH ω,hG.o⟩
def f_.cut (x:f_) (n:Nat):f_:=⟨x.l.take (min x.m n),x.A,min x.m n,x.k⟩
def aY.cut (p:aY) (n:Nat):aY:=⟨p.s.cut n,p.r.cut n,p.e.cut n,p.a.cut n,p.o.take (min p.om n),p.oA,min p.om n,p.ok,p.i.take (min p.im n),p.iA,min p.im n,p.ik⟩
structure aY.amf (p:aY):Prop where
 s:p.s.m≤p.s.k
 r:p.r.m≤p.r.k
 e:p.e.m≤p.e.k
 a:p.a.m≤p.a.k
 o:p.om≤p.ok
 i:p.im≤p.ik
 sk:p.s.k≤9223372036854775807
 rk:p.r.k≤9223372036854775807
 ek:p.e.k≤9223372036854775807
 ak:p.a.k≤9223372036854775807
 ok_:p.ok≤9223372036854775807
 ik_:p.ik≤9223372036854775807
theorem f_.At.cut {x:f_} {w:World} (h:x.At w) (n:Nat):(x.cut n).At w:=
 ⟨h.arr.take (Nat.min_le_left _ _),Nat.le_trans (Nat.min_le_left _ _) h.le,fun y hy=>h.U_ y (List.mem_of_mem_take hy),fun y hy=>h.txt y (List.mem_of_mem_take hy)⟩
theorem aY.At.cut {p:aY} {w:World} (h:p.At w) (n:Nat):(p.cut n).At w:=
 ⟨h.s.cut n,h.r.cut n,h.e.cut n,h.a.cut n,h.o.take (Nat.min_le_left _ _),Nat.le_trans (Nat.min_le_left _ _) h.ole,fun y hy=>h.oAt y (List.mem_of_mem_take hy),h.i.take (Nat.min_le_left _ _),Nat.le_trans (Nat.min_le_left _ _) h.ile,fun y hy=>h.iAt y (List.mem_of_mem_take hy)⟩
theorem abz {p:aY} (w:World) (hk:p.amf):Calls Tryz.prog 17 #[p.val,.int .i64 14] w fun e w'=>e =.returned (p.cut 14).val∧ah w w':=by
 obtain⟨⟨sl,sA,sm,sk⟩,⟨rl,rA,rm,rk⟩,⟨el,eA,em,ek⟩,⟨al,aA,am,ak⟩,o,oA,om,ok,i,iA,im,ik⟩:=p;obtain⟨h1,h2,h3,h4,h5,h6,k1,k2,k3,k4,k5,k6⟩:=hk;simp only at h1 h2 h3 h4 h5 h6 k1 k2 k3 k4 k5 k6;unfold aY.val aY.cut f_.cut;simp only;go_enter Tryz.func17,Tryz.ntmps17
 go_wp2;have e:∀m:Nat,(min (m:Int) 14).toNat=min m 14:=fun m=>ω
 simp only[e];have hB:=aF.new (w.alloc (.cells #[.slice sA (min sm 14) sk,.slice rA (min rm 14) rk,.slice eA (min em 14) ek,.slice aA (min am 14) ak,.slice oA (min om 14) ok,.slice iA (min im 14) ik] 50)) 50 #[.slice sA (min sm 14) sk,.slice rA (min rm 14) rk,.slice eA (min em 14) ek,.slice aA (min am 14) ak,.slice oA (min om 14) ok,.slice iA (min im 14) ik];rw[show (w.alloc (.cells #[.slice sA (min sm 14) sk,.slice rA (min rm 14) rk,.slice eA (min em 14) ek,.slice aA (min am 14) ak,.slice oA (min om 14) ok,.slice iA (min im 14) ik] 50)).heap.size=w.heap.size+1 by simp] at hB;have hG:ah w ((w.alloc (.cells #[.slice sA (min sm 14) sk,.slice rA (min rm 14) rk,.slice eA (min em 14) ek,.slice aA (min am 14) ak,.slice oA (min om 14) ok,.slice iA (min im 14) ik] 50)).alloc (.cells #[.slice sA (min sm 14) sk,.slice rA (min rm 14) rk,.slice eA (min em 14) ek,.slice aA (min am 14) ak,.slice oA (min om 14) ok,.slice iA (min im 14) ik] 50)):=((ah.refl w).alloc _).alloc _;generalize (w.alloc (.cells #[.slice sA (min sm 14) sk,.slice rA (min rm 14) rk,.slice eA (min em 14) ek,.slice aA (min am 14) ak,.slice oA (min om 14) ok,.slice iA (min im 14) ik] 50)).alloc (.cells #[.slice sA (min sm 14) sk,.slice rA (min rm 14) rk,.slice eA (min em 14) ek,.slice aA (min am 14) ak,.slice oA (min om 14) ok,.slice iA (min im 14) ik] 50)=w9 at *
 have e0:=hB.cell 0;have e1:=hB.cell 1;have e2:=hB.cell 2;have e3:=hB.cell 3;have e4:=hB.cell 4;have e5:=hB.cell 5;refine bodyPost_ret (v:=.agg #[.slice sA (min sm 14) sk,.slice rA (min rm 14) rk,.slice eA (min em 14) ek,.slice aA (min am 14) ak,.slice oA (min om 14) ok,.slice iA (min im 14) ik]) ?_ rfl ⟨rfl,hG⟩;simp[results,Tryz.results17,go_sem,e0,e1,e2,e3,e4,e5]
theorem ZH {n:Nat} (w:World) (h0:0<n) (hn:n≤1099511700000) (ty:TypeId) :
 ∃g cap w',(Builtin.append_ #[112,3] ty #[.slice none 0 0,.int .i64 n]).run Tryz.prog w =.ok (.slice (some ⟨g,0,none⟩) n cap) w'∧n≤cap∧cap≤maxLen∧iy w' w.heap.size (.slice (some ⟨g,0,none⟩) 0 cap) []∧ah w w':=by
 obtain⟨i,hi,hz,hsz,hby⟩:=Y9;have hr:=Lib.run_append_nil_zeros (P:=Tryz.prog) w 112 3 ty 5 i (.int .u8 0) .i64 .i64 Tryz.underlying112 Tryz.underlying3 hi hz n h0 ω ω (by rw[hby];omega);have sS:=grownCap_ge w n 0 5;have hcm:=grownCap_le_maxLen w n 0 5 (by unfold maxLen;omega);refine⟨_,_,_,hr,sS,hcm,.inr ⟨w.heap.size,_,_,(0,0),rfl,Nat.le_refl _,heap_alloc_new w.drew _,fun j _=>by simp,by simp,hcm,?_,fun i hi=>absurd hi σ⟩,(ah.refl w).drew.alloc _⟩;simp only[Array.size_append,size_zeroCells,Value.cells];simp;omega
theorem aa5 {n:Nat} (w:World) (hn:n≤1099511700000) :
 Calls Tryz.prog 92 #[.slice none 0 0,.int .i64 n] w fun e w'=>∃v,e =.returned v∧iy w' w.heap.size v []∧ah w w':=by
 by_cases h0:n = 0
 ·subst h0;go_enter Tryz.func92,Tryz.ntmps92
  go_wp2;go_ret;exact⟨_,rfl,iy.jA _ _,ah.refl _⟩
 ·have hi:(0:Int)<(n:Int):=ω;have hi2:¬((n:Int)<0):=ω;have hb:0≤(n:Int)∧(n:Int)≤1099511700000:=ω;have h1:0<n:=ω;replace h1:=ζ h1;go_enter Tryz.func92,Tryz.ntmps92
  obtain⟨g,cap,w1,hr,sS,hcm,hO,hG⟩:=ZH w h1.o hn 112;have TN:=hcm;replace hO:=ζ hO;replace hG:=ζ hG;go_wp2_with (at_builtin;(refine Lib.wpList_append_run _ rfl (.tmp 20) (.tmp 21) _ _ rfl _ _ rfl rfl _ _ hr ?_));go_ret;exact⟨_,rfl,hO.o,hG.o⟩
structure Bsl where
 A:Option Addr
 n:Nat
 c:Nat
 xs:List Nat
def aqk (b:Bsl):List Value:=[.slice b.A b.n b.c]
def tC (bs:List Bsl):List Nat:=bs.flatMap (·.xs)
theorem O9 {bs:List Bsl} {k:Nat} {b:Bsl} (h:bs[k]? = some b):tC (bs.take (k+1))=tC (bs.take k)++b.xs:=by
 rw[List.take_add_one,h];simp[tC]
theorem Y3 (bs:List Bsl) (k:Nat):(tC (bs.take k)).length≤(tC bs).length:=by
 have:tC bs=tC (bs.take k)++tC (bs.drop k):=by
  unfold tC;rw[←List.flatMap_append,List.take_append_drop]
 rw[this,List.length_append];omega
theorem G9 {A:Option Addr} {L c:Nat} {bs:List Bsl} (w:World) (hA:cu w 1 aqk A L bs) (hb:∀b∈bs,cu w 1 h_ b.A b.n b.xs) (ht:(tC bs).length≤1099511627776) (hL2:L≤1000) :
 Calls Tryz.prog 49 #[.slice A L c] w fun e w'=>∃v,e =.returned v∧iy w' w.heap.size v (tC bs)∧ah w w':=by
 have hL:=hA.1;have cG:=fun n W h=>aa5 (n:=n) W h
 replace cG:=ζ cG;replace hA:=ζ hA;replace hb:=ζ hb;go_enter Tryz.func49,Tryz.ntmps49
 go_wp2;go_loopw [3,11] (fun n i wr=>∃k:Nat,k≤L∧i =.int .i64 k∧n =.int .i64 ((tC (bs.take k)).length:Nat)∧w = wr) (fun _ i _=>L-(intOf i).toNat)
 case atStart=>exact⟨0,ω,rfl,rfl,rfl⟩
 case round=>
  obtain⟨k,hk,rfl,rfl,rfl⟩:=hrel;by_cases hlt:k<L
  ·obtain⟨bb,off,b,rfl,hs0,hx,hcell⟩:=hA.o.at_ hlt;have c0:w.cell? ⟨bb,off+k,none⟩=some (.slice b.A b.n b.c):=by simpa using hcell 0 _ rfl
   have h1:=O9 hx;have h2:=Y3 bs (k+1);have h3:=(hb.o b (List.mem_of_getElem? hx)).1;rw[h1,List.length_append,h3] at h2;have h4:(tC (bs.take (k+1))).length=(tC (bs.take k)).length+b.n:=by rw[h1,List.length_append,h3]
   generalize hY:(tC (bs.take (k+1))).length=Y at *
   replace hY:=ζ hY;generalize (tC (bs.take k)).length=X at *
   have lK:(k:Int)<(L:Int):=ω;have h5:¬((X:Int)+(b.n:Int)<0):=ω;have h6:0≤(X:Int)∧(X:Int)≤1099511627776∧(b.n:Int)≤1099511627776:=ω;replace h4:=ζ h4;clear h1 hx hcell h3;go_wp2;go_roundw
   case rel=>exact⟨k+1,ω,ν,by rw[hY.o,h4.o,Int.natCast_add],trivial⟩
   case measure=>exact ψ
  ·obtain rfl:k=L:=ω;rw[List.take_of_length_le ω];go_wp2_with fail;refine (cG.out _ _ ω).mono ?_;rintro e w1 ⟨v1,rfl,hO,hG⟩;have hO0:Hid (iy w1 w.heap.size v1 (tC (bs.take 0))):=hO;replace hG:=ζ hG;clear hO cG;go_wp2;go_loopw [6,27] (fun v i wx=>∃j:Nat,j≤k∧i =.int .i64 j∧Hid (iy wx w.heap.size v (tC (bs.take j)))∧Hid (ah w wx)) (fun _ i _=>k-(intOf i).toNat)
   case atStart=>exact⟨0,ω,rfl,hO0,hG⟩
   case round=>
    clear hO0 hG;obtain⟨j,hj,rfl,hO,hG⟩:=hrel;by_cases hjl:j < k
    ·obtain⟨bb,off,b,rfl,hs0,hx,hcell⟩:=(hA.o.keep hG.o).at_ hjl;have c0:wr.cell? ⟨bb,off+j,none⟩=some (.slice b.A b.n b.c):=by simpa using hcell 0 _ rfl
     have h1:=O9 hx;have h2:=Y3 bs (j + 1);have TQ:=(hb.o b (List.mem_of_getElem? hx)).keep hG.o;have h3:=TQ.1;rw[h1,List.length_append,h3] at h2;have lK:(j:Int)<(k:Int):=ω;replace h1:=ζ h1;replace TQ:=ζ TQ;clear hx hcell h3;go_wp2_with (at_builtin;(refine yj rfl (.tmp 31) (.tmp 32) rfl rfl rfl hO.o TQ.o hG.o.size ω ?_;intro v2 w2 l9 jX;(have fG:=ζ (hG.o.aP jX hO.o.fH));(replace l9:=ζ l9);clear jX));go_roundw
     case rel=>exact⟨j + 1,ω,ν,by rw[h1.o];exact l9,fG⟩
     case measure=>exact ψ
    ·obtain rfl:j = k:=ω;have iM:=hO.o;rw[List.take_of_length_le ω] at iM;go_wp2;go_ret;exact⟨_,rfl,iM,hG.o⟩
end Go.Proofs.YtbhikkgpcmkonaaGreatDoor
