/- Parts: RefP EndA EndP EndB EndC EndD EndE EndF -/
import Derived.Test.YteojanlajhebhaaGreatDoorGs0
import Derived.Test.YteojanlajhebhaaGreatDoorGs21
import Derived.Laws.MakeOwn
import Derived.Test.YteojanlajhebhaaGreatDoorGs18
import Derived.Test.YteojanlajhebhaaGreatDoorGs12
import Derived.Deep.MidRow
import Derived.Test.YteojanlajhebhaaGreatDoorGs19
import Derived.Test.YteojanlajhebhaaGreatDoorGs20
set_option maxRecDepth 100000
set_option maxHeartbeats 12800000
namespace Go.Proofs.YteojanlajhebhaaGreatDoor
open Go.RowKit
def aqb (s:List UInt8) (w:World) (e:Ending) (w':World):Prop:=
 ∃x:um,e =.returned (.tuple #[.agg x.cells,.int .i64 (lJ s:Int)])∧ah w w'∧(lJ s = 0→bI w' w.heap.size (fresh w) 28 x (WY s))
theorem results_cell_tmp {P:Program} {fn:Func} {p q:Tmp} {ty:TypeId} (h:fn.results= #[.cell p ty,.tmp q]) (tmps:Array Value) (w:World) (g:Nat) (t:TypeId) (cs:Array Value) (fr:Nat×Nat) (d:TypeDesc) (u:Value)
 (hp:tmps.getD p undef=.pointer (some ⟨g,0,none⟩)) (hq:tmps.getD q undef=u) (hg:w.heap[g]? = some (.cells cs t fr))
 (hu:P.underlying ty=some d) (hd:(match d with | .struct _ | .array _ _=>true | _=>false)=true) (hi:(P.info? ty).map (·.size)=some cs.size) :
 (results fn tmps).run P w =.ok (.tuple #[.agg cs,u]) w:=by
 have hp':tmps[p]?.getD undef=.pointer (some ⟨g,0,none⟩):=by simpa using hp
 have hq':tmps[q]?.getD undef=u:=by simpa using hq
 simp[results,h,hp',hq',asAddr,run_loadVar_row w g t ty cs fr d hg hu hd hi]
theorem LJ {P:Program} {ops:Array Oper} {o:Oper} {a:Act} {w:World} {K:Act→World→Prop} {Q:Exit→Act→World→Prop} {E:Prop} (hgd:o.guard=none) (ty:TypeId) (x y:Operand) (ho:o.op=.store ty x y)
 (g:Nat) (cells:Array Value) (hx:a.eval x =.pointer (some ⟨g,0,none⟩)) (hy:a.eval y =.agg cells)
 (t:TypeId) (old:Array Value) (hg:w.heap[g]? = some (.cells old t (0,0))) (hi:(P.info? ty).map (·.size)=some cells.size)
 (hold:old.size=cells.size) (h1:cells.all (·.oneCell')=true) (h:K (a.put o.dst undef) (w.setRow g cells)):if Region.wanted o (yielded ops a.tmps)=true then Oper.wp P o a w K Q else E:=by
 rw[if_pos (by simp[Region.wanted,hgd])];exact wp_store_row ty x y ho g cells hx hy t old hg hi hold h1 h
theorem ah.setRow {a b:World} (h:ah a b) {g:Nat} (hg:a.heap.size≤g) (cs:Array Value):ah a (b.setRow g cs):=
 h.bH (aF b g cs) (fun j e=>by injection e with e;subst e;exact hg)
theorem VA {s:List UInt8} (w:World) (hs:s.length≤9223372036854775807):Calls Tryz.prog 102 #[.string ⟨s.toArray⟩] w (aqb s w):=by
 have hsz:=ζ (show (Tryz.prog.info? 149).map (·.size)=some (au 0 aV aI).size by rw[aN];exact aZ);have eP:=ζ (show Tryz.zeroCells149.size=(au 0 aV aI).size by rw[dn]);have h1:=ζ (bT (k:=0) (f:=aV) (kv:=aI) rfl);by_cases hl:100<s.length
 ·have hli:(100:Int)<(s.length:Int):=ω;have he:Hid (lJ s = 4):=ζ (by unfold lJ;rw[if_pos hl]);have hG:=ζ ((ah.refl w).alloc (.cells (au 0 aV aI) 149));have hR:=ζ (aS.new w 149 (au 0 aV aI));clear hl;go_enter Tryz.func102,Tryz.ntmps102
  go_wp2_with (refine wpList_store_row rfl 149 (.tmp 2) (.tmp 9) rfl w.heap.size (au 0 aV aI) rfl κ 149 _ (heap_alloc_new w _) hsz.o eP.o h1.o ?_;rw[World.setRow_alloc_new];generalize w.alloc (.cells (au 0 aV aI) 149)=w1 at *);refine bodyPost_ret (v:=.tuple #[.agg (au 0 aV aI),.int .i64 4]) (results_cell_tmp (p:=2) (q:=3) (ty:=149) κ _ _ w.heap.size 149 (au 0 aV aI) (0,0) _ _ rfl rfl hR.o Tryz.underlying149 rfl hsz.o) rfl ?_;exact⟨vw aV,by rw[he.o];rfl,hG.o,fun h0=>by rw[he.o] at h0;cases h0⟩
 ·have hli:¬(100:Int)<(s.length:Int):=ω;have tX:s.length≤100:=ω;have TY:lJ s = (Rw s).1.err:=by unfold lJ;rw[if_neg hl]
  have KN:(Rw s).1=if (m_ s 8 ⟨0,0,[]⟩).1.err=0∧(m_ s 8 ⟨0,0,[]⟩).1.at_<s.length then aW 2 (m_ s 8 ⟨0,0,[]⟩).1 else (m_ s 8 ⟨0,0,[]⟩).1:=rfl
  have Xr:WY s = (m_ s 8 ⟨0,0,[]⟩).2:=rfl;have hro:=ζ (KZ s 8 ⟨0,0,[]⟩ (Nat.zero_le _));rw[KN] at TY;replace TY:=ζ TY;replace Xr:=ζ Xr;have aG:=ζ (show dZ (w.alloc (.cells Tryz.zeroCells149 149)) w.heap.size 0 aV aI by rw[dZ,←dn];exact aS.new w _ _);have hg1:=(ah.refl w).alloc (.cells Tryz.zeroCells149 149);have asb:=World.size_alloc w (.cells Tryz.zeroCells149 149);clear KN hl;go_enter Tryz.func102,Tryz.ntmps102
  go_wp2_with fail;generalize w.alloc (.cells Tryz.zeroCells149 149)=w1 at *
  have hs1:w1.heap.size=w.heap.size+1:=asb;have h:Hid (oV (w1.alloc (.cells #[.string ⟨s.toArray⟩,.int .i64 0,.int .i64 0] 174)) (w.heap.size+1) s ⟨0,0,[]⟩):=ζ (by
   rw[←hs1];exact aS.new w1 _ _)
  have GN:=(ah.refl w1).alloc (.cells #[.string ⟨s.toArray⟩,.int .i64 0,.int .i64 0] 174);replace aG:=ζ (aG.o.grows GN);have hG:=ζ (hg1.trans GN);have hs2:Hid ((w1.alloc (.cells #[.string ⟨s.toArray⟩,.int .i64 0,.int .i64 0] 174)).heap.size=w.heap.size+2):=ζ (by rw[World.size_alloc,hs1]);clear GN hg1 hs1 asb;generalize w1.alloc (.cells #[.string ⟨s.toArray⟩,.int .i64 0,.int .i64 0] 174)=w2 at *
  have hc:=Y9 tX 8 (Nat.le_refl _) w2 (w.heap.size+1) ⟨0,0,[]⟩ h.o (Nat.zero_le _);have hgg:Hid (w.heap.size≤w.heap.size+1):=ζ ω;have jE:Hid (w.heap.size≠w.heap.size+1):=ζ ω;generalize hr:m_ s 8 ⟨0,0,[]⟩=r at *
  refine hc.mono ?_;rintro e w3 ⟨x,n,rfl,Iw,hg3,hN3,hn3⟩;generalize hgq:w.heap.size+1=g at *
  replace h:=ζ Iw;replace aG:=ζ (aG.o.but hg3 jE.o);replace hG:=ζ (hG.o.bH hg3 (fun j e=>by injection e with e;subst e;exact hgg.o));have jr:Hid (bI w3 w.heap.size (fun j=>w.heap.size<j) 28 x n):=ζ (bI.to (by have:=hs2.o;omega) (fun j hj _ _=>by have:=hs2.o;unfold fresh at *;omega) _ _ _ _ (Nat.le_refl _) hN3);replace hn3:=ζ hn3;have rC:=ζ (show (Tryz.prog.info? 149).map (·.size)=some x.cells.size by rw[kW];exact aZ);have Ij:=ζ (show Tryz.zeroCells149.size=x.cells.size by rw[dn];exact (aN _ _ _).trans (kW x).symm);have hox:=ζ (YF x);have hA:Hid (aS (w3.alloc (.cells x.cells 149)) w3.heap.size 149 x.cells):=ζ (aS.new w3 _ _);have N8:=(ah.refl w3).alloc (.cells x.cells 149);replace aG:=ζ (aG.o.grows N8);replace h:=ζ (h.o.grows N8);replace jr:=ζ (jr.o.grows N8);replace hG:=ζ (hG.o.trans N8);have hgA:Hid (w.heap.size<w3.heap.size):=ζ (by have:=hg3.size;have:=hs2.o;omega);clear Iw hg3 hN3 N8 hc;go_wp2_with (refine wpList_store_row rfl 149 (.tmp 5) (.tmp 14) rfl w3.heap.size x.cells rfl rfl 149 _ (heap_alloc_new w3 _) rC.o Ij.o hox.o ?_;rw[World.setRow_alloc_new];generalize w3.alloc (.cells x.cells 149)=w5 at *;generalize w3.heap.size=gA at *);have c0:w5.cell? ⟨g,0,none⟩=some (.string ⟨s.toArray⟩):=(h.o.cell 0).trans rfl;have c1:w5.cell? ⟨g,1,none⟩=some (.int .i64 (r.1.at_:Int)):=(h.o.cell 1).trans rfl;have c2:w5.cell? ⟨g,2,none⟩=some (.int .i64 (r.1.err:Int)):=(h.o.cell 2).trans rfl;have lg:=h.o.lt;have hnS:Hid (¬w.heap.size<w.heap.size):=ζ (Nat.lt_irrefl _);by_cases he:r.1.err=0
  ·rw[he] at c2;by_cases hat:r.1.at_<s.length
   ·have av5:(r.1.at_:Int)<(s.length:Int):=ω;have hf2:(aW 2 r.1).err=2:=by unfold aW;rw[if_pos he]
    have SN:=TY.o;rw[if_pos ⟨he,hat⟩,hf2] at SN;replace TY:=ζ SN;have lN:Hid (lJ s≠0):=ζ (by rw[TY.o];decide);clear SN he hat;refine aJ κ ?_;refine rK (.range 17) 0 ?_;iterate 17 refine aB ?_
    refine ay ?_;refine aP κ (fun wN hN hS=> ?_);replace h:=ζ (h.o.grows hN);replace aG:=ζ (aG.o.grows hN);replace hG:=ζ (hG.o.trans hN);clear hN hS c0 c1 c2 lg;go_wp2_with fail;refine (jI h.o).mono ?_;rintro e w6 ⟨rfl,yQ,Ua⟩;replace aG:=ζ (aG.o.but Ua jE.o);replace hG:=ζ (hG.o.bH Ua (fun j e=>by injection e with e;subst e;exact hgg.o));replace h:=ζ yQ;clear yQ Ua;have c2:w6.cell? ⟨g,2,none⟩=some (.int .i64 2):=(h.o.cell 2).trans (by show some (Value.int .i64 ((aW 2 r.1).err:Int))=_;rw[hf2];rfl);have lg:=h.o.lt;go_wp2_with fail;have hr1:some g≠some w.heap.size:=fun e=>by injection e with e;exact jE.o e.symm
    refine qK ((some w.heap.size)) κ ?_;refine rK (up:=oK) (.range 5) 2 ?_;iterate 5 refine jX ?_
    refine ay ?_;refine aY [5] κ σ (fun wN hN hS=>(aK.cons rfl (fun K' hK=> ?_) aK.nil));replace h:=ζ (h.o.grows hN);replace aG:=ζ (aG.o.grows hN);replace hG:=ζ (hG.o.trans hN);clear hN;refine LJ rfl 149 (.tmp 2) (.tmp 39) rfl w.heap.size (au 0 aV aI) rfl κ 149 _ aG.o hsz.o rfl h1.o ?_;have jf:=hS;refine hK.o _ _ ?_ (fun hS=> ?_)
    ·exact World.grownBy.trans jf (aF _ _ _)
    have yh:=ζ (show dZ (wN.setRow w.heap.size (au 0 aV aI)) w.heap.size 0 aV aI from setRow_heap _ _ _ _ _ _ aG.o);replace h:=ζ (h.o.but (aF wN w.heap.size (au 0 aV aI)) (fun e=>jE.o e.symm));replace hG:=ζ (hG.o.setRow (Nat.le_refl _) (au 0 aV aI));clear aG jf;have aG:=yh;clear yh;generalize wN.setRow w.heap.size (au 0 aV aI)=w9 at *
    clear hK hS;refine rK (up:=oK) [6] 0 ?_;iterate 1 refine jX ?_
    refine ay ?_;refine aP κ (fun wN hN hS=> ?_);replace h:=ζ (h.o.grows hN);replace aG:=ζ (aG.o.grows hN);replace hG:=ζ (hG.o.trans hN);go_wp2_with fail;refine bodyPost_ret (v:=.tuple #[.agg (au 0 aV aI),.int .i64 (lJ s:Int)]) (results_cell_tmp (p:=2) (q:=3) (ty:=149) κ _ _ w.heap.size 149 (au 0 aV aI) (0,0) _ _ rfl (by rw[TY.o];rfl) aG.o Tryz.underlying149 rfl hsz.o) rfl ?_;exact⟨vw aV,rfl,hG.o,fun h0=>absurd h0 lN.o⟩
   ·have av5:¬(r.1.at_:Int)<(s.length:Int):=ω;have SN:=TY.o;rw[if_neg (fun h=>hat h.2),he] at SN;replace TY:=ζ SN;have hn4:=ζ (hn3.o he);have he2:=ζ he;clear SN he hat;refine aJ κ ?_;refine rK (.range 17) 0 ?_;iterate 17 refine aB ?_
    refine ay ?_;refine aP κ (fun wN hN hS=> ?_);replace h:=ζ (h.o.grows hN);replace aG:=ζ (aG.o.grows hN);replace hA:=ζ (hA.o.grows hN);replace jr:=ζ (jr.o.grows hN);replace hG:=ζ (hG.o.trans hN);clear hN hS c0 c1 c2 lg;have c2:wN.cell? ⟨g,2,none⟩=some (.int .i64 0):=by
     have e:=(h.o.cell 2).trans (show _ = some (Value.int .i64 (r.1.err:Int)) from rfl);rw[he2.o] at e;exact e
    have lg:=h.o.lt;have xZ:=ζ (show (au 0 aV aI).size=x.cells.size from (aN _ _ _).trans (kW x).symm);have hNy:=ζ (bI.keep (aF wN w.heap.size x.cells) (fun j e=>by injection e with e;subst e;exact hnS.o) _ _ _ jr.o);have yh:Hid (aS (wN.setRow w.heap.size x.cells) w.heap.size 149 x.cells):=ζ (setRow_heap _ _ _ _ _ _ aG.o);have CP:=ζ (hG.o.setRow (Nat.le_refl _) x.cells);go_wp2_with (first | (refine wpList_load_row rfl 149 (.tmp 5) rfl gA rfl 149 x.cells (0,0) _ hA.o Tryz.underlying149 rfl rC.o ?_) | (refine wpList_store_row rfl 149 (.tmp 2) (.tmp 44) rfl w.heap.size x.cells rfl rfl 149 _ aG.o rC.o xZ.o hox.o ?_));refine bodyPost_ret (v:=.tuple #[.agg x.cells,.int .i64 (lJ s:Int)]) (results_cell_tmp (p:=2) (q:=3) (ty:=149) κ _ _ w.heap.size 149 x.cells (0,0) _ _ rfl (by rw[TY.o];rfl) yh.o Tryz.underlying149 rfl rC.o) rfl ?_;exact⟨x,rfl,CP.o,fun _=>by rw[Xr.o,←hn4.o];exact bI.mono (fun _ h=>Nat.le_of_lt h) _ _ _ _ (Nat.le_refl _) hNy.o⟩
  ·have hei:((r.1.err:Int)==0)=false:=by rw[beq_eq_false_iff_ne];omega
   have azw:((r.1.err:Int) != 0)=true:=by rw[bne_iff_ne];omega
   have SN:=TY.o;rw[if_neg (fun h=>he h.1)] at SN;replace TY:=ζ SN;have lN:Hid (lJ s≠0):=ζ (by rw[TY.o];exact he);clear SN he;refine aJ κ ?_;refine rK (.range 17) 0 ?_;iterate 17 refine aB ?_
   refine ay ?_;refine aP κ (fun wN hN hS=> ?_);replace h:=ζ (h.o.grows hN);replace aG:=ζ (aG.o.grows hN);replace hG:=ζ (hG.o.trans hN);clear hN hS c0 c1 c2 lg;have c2:wN.cell? ⟨g,2,none⟩=some (.int .i64 (r.1.err:Int)):=(h.o.cell 2).trans rfl;have lg:=h.o.lt;go_wp2_with fail;have hr1:some g≠some w.heap.size:=fun e=>by injection e with e;exact jE.o e.symm
   refine qK ((some w.heap.size)) κ ?_;refine rK (up:=oK) (.range 5) 2 ?_;iterate 5 refine jX ?_
   refine ay ?_;refine aY [5] κ σ (fun wN hN hS=>(aK.cons rfl (fun K' hK=> ?_) aK.nil));replace h:=ζ (h.o.grows hN);replace aG:=ζ (aG.o.grows hN);replace hG:=ζ (hG.o.trans hN);clear hN;refine LJ rfl 149 (.tmp 2) (.tmp 39) rfl w.heap.size (au 0 aV aI) rfl κ 149 _ aG.o hsz.o rfl h1.o ?_;have jf:=hS;refine hK.o _ _ ?_ (fun hS=> ?_)
   ·exact World.grownBy.trans jf (aF _ _ _)
   have yh:=ζ (show dZ (wN.setRow w.heap.size (au 0 aV aI)) w.heap.size 0 aV aI from setRow_heap _ _ _ _ _ _ aG.o);replace h:=ζ (h.o.but (aF wN w.heap.size (au 0 aV aI)) (fun e=>jE.o e.symm));replace hG:=ζ (hG.o.setRow (Nat.le_refl _) (au 0 aV aI));clear aG jf;have aG:=yh;clear yh;generalize wN.setRow w.heap.size (au 0 aV aI)=w9 at *
   clear hK hS;refine rK (up:=oK) [6] 0 ?_;iterate 1 refine jX ?_
   refine ay ?_;refine aP κ (fun wN hN hS=> ?_);replace h:=ζ (h.o.grows hN);replace aG:=ζ (aG.o.grows hN);replace hG:=ζ (hG.o.trans hN);go_wp2_with fail;refine bodyPost_ret (v:=.tuple #[.agg (au 0 aV aI),.int .i64 (lJ s:Int)]) (results_cell_tmp (p:=2) (q:=3) (ty:=149) κ _ _ w.heap.size 149 (au 0 aV aI) (0,0) _ _ rfl (by rw[TY.o];rfl) aG.o Tryz.underlying149 rfl hsz.o) rfl ?_;exact⟨vw aV,rfl,hG.o,fun h0=>absurd h0 lN.o⟩
def dA (n:Nat) (f:Nat→Bool):Array Value:=((List.range n).map fun i=> .bool (f i)).toArray
theorem xB (n:Nat) (f:Nat→Bool):(dA n f).size=n:=by simp[dA]
theorem G_ {n:Nat} {f:Nat→Bool} {i:Nat} (hi:i < n):(dA n f)[i]? = some (.bool (f i)):=by simp[dA,hi]
theorem TJ {n:Nat} {f g:Nat→Bool} (h:∀i,i < n→f i = g i):dA n f = dA n g:=by
 unfold dA;congr 1
 exact List.map_congr_left fun i hi=>by rw[h i (List.mem_range.1 hi)]
theorem TI {n:Nat} {f:Nat→Bool} {i:Nat} {b:Bool}:(dA n f).setIfInBounds i (.bool b)=dA n (fun c=>if c = i then b else f c):=by
 apply Array.ext_getElem?;intro j;rw[Array.getElem?_setIfInBounds];rcases Nat.lt_or_ge j n with hj | hj
 ·have e1:=G_ (f:=f) hj;have e2:=G_ (f:=fun c=>if c = i then b else f c) hj;rw[e1,e2];by_cases Xx:i = j
  ·subst Xx;rw[if_pos rfl,if_pos (by rw[xB];exact hj),if_pos rfl]
  ·rw[if_neg Xx,if_neg (Ne.symm Xx)]
 ·have e2:(dA n fun c=>if c = i then b else f c)[j]? = none:=Array.getElem?_eq_none (by rw[xB];exact hj);have e1:(dA n f)[j]? = none:=Array.getElem?_eq_none (by rw[xB];exact hj);rw[e1,e2];by_cases Xx:i = j
  ·subst Xx;rw[if_pos rfl,if_neg (by rw[xB];omega)]
  ·rw[if_neg Xx]
abbrev dw (w:World) (g n:Nat) (f:Nat→Bool):Prop:=aS w g 4 (dA n f)
def pV (g n:Nat):Value:=.slice (some ⟨g,0,none⟩) n n
theorem dw.get {w:World} {g n:Nat} {f:Nat→Bool} (h:dw w g n f) {i:Nat} (hi:i < n):w.cell? ⟨g,i,none⟩=some (.bool (f i)):=(h.cell i).trans (G_ hi)
theorem dw.set {w:World} {g n:Nat} {f:Nat→Bool} (h:dw w g n f) (i:Nat) (b:Bool):dw (w.setCell ⟨g,i,none⟩ (.bool b)) g n (fun c=>if c = i then b else f c):=by
 have:=aS.dO h i (.bool b);rwa [TI] at this
theorem dw.ext {w:World} {g n:Nat} {f f':Nat→Bool} (h:dw w g n f) (he:∀i,i < n→f i = f' i):dw w g n f':=by
 rw[dw,←TJ he];exact h
theorem tJ (w:World) (n:Nat) (hn:n≤1000000):(Instr.makeSlice 177 (.int .i64 (n:Int)) (.int .i64 (n:Int))).run Tryz.prog w =.ok (pV w.heap.size n) (w.alloc (.cells (dA n aV) 4)):=by
 obtain⟨i0,hi,hz0,hz1,hz2⟩:=info_parts (show (Tryz.prog.info? 4).map (fun i=>(i.zero,i.size,i.bytes))=some (some (.bool false),1,1) by kernel_rfl);have h:=run_makeSlice (P:=Tryz.prog) w 177 4 i0 _ Tryz.underlying177 hi hz0 .i64 .i64 n n ω ω (by rw[hz1];omega) (by rw[hz2];omega) ω;rw[hz1,Nat.mul_one] at h;have e:madeCells (Value.bool false).cells (Int.toNat (n:Int))=dA n aV:=by
  apply Array.ext_getElem?;intro j;rw[Int.toNat_natCast];rcases Nat.lt_or_ge j n with hj | hj
  ·rw[G_ hj];simp[madeCells,Value.cells,aV,hj,Nat.mod_one]
  ·have e1:(dA n aV)[j]? = none:=Array.getElem?_eq_none (by rw[xB];exact hj);rw[e1];exact Array.getElem?_eq_none (by rw[size_madeCells];exact hj)
 rw[e] at h;exact h
theorem Na {w:World} {ga gb n:Nat} {f h:Nat→Bool} (hA:dw w ga n f) (hB:dw w gb n h) (hn:n≤1000000) :
 Calls Tryz.prog 145 #[pV ga n,pV gb n] w fun e w'=>∃g,e =.returned (pV g n)∧dw w' g n (fun i=>f i ||h i)∧ah w w':=by
 have ZU:=tJ w n hn;have CS:=ζ (hA.grows ((ah.refl w).alloc (.cells (dA n aV) 4)));have YC:=ζ (hB.grows ((ah.refl w).alloc (.cells (dA n aV) 4)));have hO:Hid (dw (w.alloc (.cells (dA n aV) 4)) w.heap.size n aV):=ζ (aS.new w 4 (dA n aV));have hG:=ζ ((ah.refl w).alloc (.cells (dA n aV) 4));have hgo:Hid (w.heap.size≤w.heap.size):=ζ (Nat.le_refl _);have Ik:=hA.lt;have hlb:=hB.lt;have NU:Hid (w.heap.size≠ga):=ζ ω;have asx:Hid (w.heap.size≠gb):=ζ ω;clear hA hB Ik hlb;unfold pV at *
 go_enter Tryz.func145,Tryz.ntmps145
 go_wp2;clear ZU;generalize w.alloc (.cells (dA n aV) 4)=w1 at *
 generalize akf:w.heap.size=go at hO NU asx hgo ⊢;go_loopw [6] (fun i wr=>∃k:Nat,k≤n∧i =.int .i64 (k:Int)∧Hid (dw wr go n (fun j=>decide (j < k)&&(f j ||h j)))∧Hid (dw wr ga n f)∧Hid (dw wr gb n h)∧Hid (ah w wr)) (fun i _=>n - (intOf i).toNat)
 case atStart=>exact⟨0,ω,rfl,ζ (hO.o.ext fun i _=>by simp[aV]),CS,YC,hG⟩
 case round=>
  clear hO CS YC hG;obtain⟨k,hk,rfl,hO,hA,hB,hG⟩:=hrel;by_cases Np:k<n
  ·have j_:(k:Int)<(n:Int):=ω;have cA:=hA.o.get Np;have cB:=hB.o.get Np;have cO:=hO.o.get Np;have fO:=hO.o.frozen k;have lO:=hO.o.lt;have pY:Hid (dw (wr.setCell ⟨go,k,none⟩ (.bool (f k||h k))) go n (fun j=>decide (j < k+1)&&(f j ||h j))):=ζ ((hO.o.set k (f k||h k)).ext fun j _=>by
    by_cases e:j = k
    ·subst e;simp
    ·rw[if_neg e];congr 1
     by_cases e2:j < k
     ·rw[decide_eq_true e2,decide_eq_true ω]
     ·rw[decide_eq_false e2,decide_eq_false ω])
   have GZ:=ζ (hA.o.far (p:=⟨go,k,none⟩) (fun e=>NU.o e.symm) (.bool (f k||h k)));have mY:=ζ (hB.o.far (p:=⟨go,k,none⟩) (fun e=>asx.o e.symm) (.bool (f k||h k)));have iC:=ζ (hG.o.setCell (p:=⟨go,k,none⟩) (by have:=hgo.o;simp;omega) (.bool (f k||h k)));clear hO hA hB hG;generalize f k=fk at *
   generalize h k=fH at *
   cases fk
   ·simp only[Bool.false_or] at *
    go_wp2;go_roundw
    case rel=>exact⟨k+1,ω,ν,pY,GZ,mY,iC⟩
    case measure=>exact ψ
   ·simp only[Bool.true_or] at *
    go_wp2;go_roundw
    case rel=>exact⟨k+1,ω,ν,pY,GZ,mY,iC⟩
    case measure=>exact ψ
  ·have j_:¬(k:Int)<(n:Int):=ω;have pY:Hid (dw wr go n (fun i=>f i ||h i)):=ζ (hO.o.ext fun i hi=>by rw[decide_eq_true ω];simp);clear hO;go_wp2;go_ret;exact⟨go,rfl,pY.o,hG.o⟩
end Go.Proofs.YteojanlajhebhaaGreatDoor
namespace Go.Proofs.YteojanlajhebhaaGreatDoor
def P7 (s:List UInt8) (i j:Nat):List UInt8:=(s.take j).drop i
theorem Rh (s:List UInt8) (i:Nat):P7 s i i = []:=by
 unfold P7;exact List.drop_eq_nil_of_le (by rw[List.length_take];omega)
theorem Gj {s:List UInt8} {i j:Nat} (hj:j≤s.length):(P7 s i j).length=j - i:=by
 unfold P7;rw[List.length_drop,List.length_take];omega
theorem aed (s:List UInt8):P7 s 0 s.length=s:=by simp[P7]
theorem Ny {s:List UInt8} {i j k:Nat} (h1:i≤j) (h2:j≤k):P7 s i k=P7 s i j ++P7 s j k:=by
 unfold P7;have e:s.take k=s.take j ++(s.take k).drop j:=by
  conv=>lhs;rw[←List.take_append_drop j (s.take k)]
  rw[List.take_take,Nat.min_eq_left h2]
 by_cases hj:j≤s.length
 ·conv=>lhs;rw[e]
  rw[List.drop_append_of_le_length (by rw[List.length_take];omega)]
 ·rw[List.take_of_length_le (by omega:s.length≤k),List.take_of_length_le (by omega:s.length≤j),List.drop_eq_nil_of_le (by omega:s.length≤j),List.append_nil]
theorem aec {s u v:List UInt8} {i k:Nat} (hi:i≤k) (hk:k≤s.length) (h:P7 s i k=u ++v):∃j,i≤j∧j≤k∧P7 s i j = u∧P7 s j k=v:=by
 have hl:=Gj (s:=s) (i:=i) hk;rw[h,List.length_append] at hl;refine⟨i + u.length,ω,ω,?_⟩;have e:=Ny (s:=s) (i:=i) (j:=i + u.length) (k:=k) ω ω;rw[h] at e;have:=List.append_inj e (by rw[Gj ω];omega);exact⟨this.1.symm,this.2.symm⟩
theorem aeb {s:List UInt8} {i:Nat} (hi:i < s.length):P7 s i (i + 1)=[s[i]]:=by
 unfold P7;rw[List.take_succ_eq_append_getElem hi,List.drop_append_of_le_length (by rw[List.length_take];omega),List.drop_eq_nil_of_le (by rw[List.length_take];omega)];rfl
theorem ai9 {s:List UInt8} {i j:Nat} {c:UInt8} (hi:i≤j) (hj:j≤s.length) (h:P7 s i j = [c]):j = i + 1∧s[i]? = some c:=by
 have hl:=Gj (s:=s) (i:=i) hj;rw[h] at hl;obtain rfl:j = i + 1:=by simp at hl;omega
 rw[aeb ω] at h;refine⟨rfl,?_⟩;rw[List.getElem?_eq_getElem ω];injection h with h _
 rw[h]
def sO (s:List UInt8) (n:bF) (f g:Nat→Bool):Prop:=∀j,j≤s.length→(g j = true↔∃i,i≤j∧f i = true∧jK n (P7 s i j))
section
variable {s:List UInt8} {n x:bF} {l:List bF} {f g h:Nat→Bool}
theorem sO.congr (he:sO s n f g) (hf:∀j,j≤s.length→f j = h j):sO s n h g:=fun j hj=>by
 rw[he j hj];constructor
 ·rintro⟨i,h1,h2,h3⟩;exact⟨i,h1,by rw[←hf i ω];exact h2,h3⟩
 ·rintro⟨i,h1,h2,h3⟩;exact⟨i,h1,by rw[hf i ω];exact h2,h3⟩
theorem ak1 {p:Nat→Bool} (h0:g 0=false) (h1:∀i (hi:i < s.length),g (i + 1)=(f i &&p (s[i]).toNat)):sO s (.set p) f g:=fun j hj=>by
 cases j with
 | zero=>
  rw[h0];constructor
  ·intro h;cases h
  ·rintro⟨i,hi,_,ha⟩;obtain⟨c,hc,_⟩:=Nh.1 ha;have hl:=Gj (s:=s) (i:=i) (j:=0) ω;rw[hc] at hl;simp at hl
 | succ j=>
  rw[h1 j ω,Bool.and_eq_true];constructor
  ·rintro⟨h2,h3⟩;exact⟨j,ω,h2,Nh.2 ⟨s[j],aeb ω,h3⟩⟩
  ·rintro⟨i,hi,h2,ha⟩;obtain⟨c,hc,h3⟩:=Nh.1 ha;obtain⟨e,hs⟩:=ai9 hi hj hc;obtain rfl:i = j:=ω;rw[List.getElem?_eq_getElem ω,Option.some.injEq] at hs;exact⟨h2,by rw[hs];exact h3⟩
theorem ahh (h0:∀j,j≤s.length→g j = false):sO s (.alt []) f g:=fun j hj=>by
 rw[h0 j hj];constructor
 ·intro h;cases h
 ·rintro⟨i,_,_,ha⟩;obtain⟨x,hx,_⟩:=sN.1 ha;cases hx
theorem ak4 (h1:sO s (.alt l) f g) (h2:sO s x f h):sO s (.alt (l ++[x])) f (fun j=>g j ||h j):=fun j hj=>by
 rw[Bool.or_eq_true,h1 j hj,h2 j hj];constructor
 ·rintro (⟨i,a,b,c⟩ | ⟨i,a,b,c⟩)
  ·obtain⟨y,hy,c⟩:=sN.1 c;exact⟨i,a,b,sN.2 ⟨y,List.mem_append.2 (.inl hy),c⟩⟩
  ·exact⟨i,a,b,sN.2 ⟨x,by simp,c⟩⟩
 ·rintro⟨i,a,b,c⟩;obtain⟨y,hy,c⟩:=sN.1 c;rcases List.mem_append.1 hy with hy | hy
  ·exact .inl ⟨i,a,b,sN.2 ⟨y,hy,c⟩⟩
  ·rw[List.mem_singleton.1 hy] at c;exact .inr ⟨i,a,b,c⟩
theorem ahf (f:Nat→Bool):sO s (.row []) f f:=fun j hj=>by
 constructor
 ·intro h;exact⟨j,Nat.le_refl _,h,Jh.2 (Rh s j)⟩
 ·rintro⟨i,hi,h,ha⟩;have e:=Jh.1 ha;have hl:=Gj (s:=s) (i:=i) hj;rw[e] at hl;obtain rfl:i = j:=by simp at hl;omega
  exact h
theorem ak2 (h1:sO s (.row l) f g) (h2:sO s x g h):sO s (.row (l ++[x])) f h:=fun j hj=>by
 rw[h2 j hj];constructor
 ·rintro⟨i,a,b,c⟩;obtain⟨k,a',b',c'⟩:=(h1 i ω).1 b;exact⟨k,ω,b',FZ.2 ⟨_,_,Ny a' a,c',c⟩⟩
 ·rintro⟨i,a,b,c⟩;obtain⟨u,v,e,c1,c2⟩:=FZ.1 c;obtain⟨m,m1,m2,rfl,rfl⟩:=aec a hj e;exact⟨m,m2,(h1 m ω).2 ⟨i,m1,b,c1⟩,c2⟩
theorem ak3 (h1:sO s x f h):sO s (.rep 5 x) f (fun j=>f j ||h j):=fun j hj=>by
 rw[Bool.or_eq_true,h1 j hj];constructor
 ·rintro (b | ⟨i,a,b,c⟩)
  ·exact⟨j,Nat.le_refl _,b,by rw[Rh];exact .none δ⟩
  ·exact⟨i,a,b,.one c⟩
 ·rintro⟨i,a,b,c⟩;generalize hw:P7 s i j = w at c;cases c with
  | none h=>
   have hl:=Gj (s:=s) (i:=i) hj;rw[hw] at hl;obtain rfl:i = j:=by simp at hl;omega
   exact .inl b
  | one c=>exact .inr ⟨i,a,b,by rw[hw];exact c⟩
  | more hk=>exact absurd rfl hk
end
theorem J_ {T:bF} {k:Nat} {P:List UInt8→Prop} (h0:k≠4→P []) (h1:∀u,jK T u→P u) (h2:k≠5→∀u v,jK T u→P v→P (u ++v)) {w:List UInt8} (h:jK (.rep k T) w):P w:=by
 generalize hR:bF.rep k T=R at h;induction h with
 | set | alt | NG | ajb=>cases hR
 | none h=>injection hR with e1 e2;subst e1 e2;exact h0 h
 | one h=>injection hR with e1 e2;subst e1 e2;exact h1 _ h
 | more hk h h' _ ih=>injection hR with e1 e2;subst e1 e2;exact h2 hk _ _ h (ih rfl)
theorem Vg {T:bF} {k:Nat} (hk:k≠5) {u v:List UInt8} (h:jK (.rep k T) u) (hv:jK T v):jK (.rep k T) (u ++v):=by
 refine J_ (P:=fun u=>jK (.rep k T) (u ++v)) (fun _=>by rw[List.nil_append];exact .one hv) (fun u hu=> .more hk hu (.one hv)) (fun _ u u' hu ih=>by rw[List.append_assoc];exact .more hk hu ih) h
structure F5 (s:List UInt8) (k:Nat) (x:bF) (f out step:Nat→Bool) (more:Bool):Prop where
 arx:∀j,j≤s.length→out j = true→∃i,i≤j∧f i = true∧jK (.rep k x) (P7 s i j)
 arw:∀j,j≤s.length→step j = true→f j = true∨∃i,i≤j∧f i = true∧jK (.rep k x) (P7 s i j)
 base:k≠4→∀j,j≤s.length→f j = true→out j = true
 cl:∀i j,i≤j→j≤s.length→(out i = true∨f i = true)→jK x (P7 s i j)→out j = true∨(more=true∧step i = true)
theorem aru (s:List UInt8) (x:bF) (f:Nat→Bool):F5 s 3 x f f f true:=
 ⟨fun j _ h=>⟨j,Nat.le_refl _,h,by rw[Rh];exact .none δ⟩,fun _ _ h=> .inl h,fun _ _ _ h=>h,fun _ _ _ _ h _=> .inr ⟨rfl,h.elim id id⟩⟩
theorem arQ (s:List UInt8) (x:bF) (f g:Nat→Bool) (hg:∀j,j≤s.length→g j = false):F5 s 4 x f g f true:=
 ⟨fun j hj h=>absurd h (by rw[hg j hj];decide),fun _ _ h=> .inl h,fun h=>absurd rfl h,fun i j hi hj h _=> .inr ⟨rfl,h.elim (fun h=>absurd h (by rw[hg i ω];decide)) id⟩⟩
theorem F5.next {s:List UInt8} {k:Nat} {x:bF} {f out step step2:Nat→Bool} {anL:Bool} (hk:k≠5) (h:F5 s k x f out step true) (he:sO s x step step2) (hm:anL=true↔∃j,j≤s.length∧step2 j = true∧out j = false) :
 F5 s k x f (fun j=>out j ||step2 j) step2 anL:=by
 have s2:∀j,j≤s.length→step2 j = true→∃i,i≤j∧f i = true∧jK (.rep k x) (P7 s i j):=fun j hj h2=>by
  obtain⟨m,m1,m2,m3⟩:=(he j hj).1 h2;rcases h.arw m ω m2 with hf | ⟨i,i1,i2,i3⟩
  ·exact⟨m,m1,hf,.one m3⟩
  ·exact⟨i,ω,i2,by rw[Ny i1 m1];exact Vg hk i3 m3⟩
 refine⟨fun j hj ho=> ?_,fun j hj h2=> .inr (s2 j hj h2),fun h4 j hj hf=>by rw[h.base h4 j hj hf];rfl,fun i j hi hj ho hx=> ?_⟩
 ·rw[Bool.or_eq_true] at ho;rcases ho with ho | ho
  ·exact h.arx j hj ho
  ·exact s2 j hj ho
 ·have old:(out i = true∨f i = true)→(out j ||step2 j)=true:=fun hh=>by
   rw[Bool.or_eq_true];rcases h.cl i j hi hj hh hx with h1 | ⟨_,h1⟩
   ·exact .inl h1
   ·exact .inr ((he j hj).2 ⟨i,hi,h1,hx⟩)
  rcases ho with ho | ho
  ·rw[Bool.or_eq_true] at ho;rcases ho with ho | ho
   ·exact .inl (old (.inl ho))
   ·cases hout:out i with
    | true=>exact .inl (old (.inl hout))
    | false=>exact .inr ⟨hm.2 ⟨i,ω,ho,hout⟩,ho⟩
  ·exact .inl (old (.inr ho))
theorem F5.ends {s:List UInt8} {k:Nat} {x:bF} {f out step:Nat→Bool} (h:F5 s k x f out step false):sO s (.rep k x) f out:=fun j hj=>by
 refine⟨h.arx j hj,?_⟩;have cl:∀i j,i≤j→j≤s.length→(out i = true∨f i = true)→jK x (P7 s i j)→out j = true:=fun i j hi hj ho hx=>(h.cl i j hi hj ho hx).elim id (fun h=>by cases h.1)
 rintro⟨i,hi,hf,ha⟩;suffices hP:∀w,jK (.rep k x) w→∀i,i≤j→P7 s i j = w→(out i = true∨f i = true)→out j = true from hP _ ha i hi rfl (.inr hf)
 intro w hw;refine J_ (P:=fun w=>∀i,i≤j→P7 s i j = w→(out i = true∨f i = true)→out j = true) ?_ ?_ ?_ hw
 ·intro h4 i hi e ho;have hl:=Gj (s:=s) (i:=i) hj;rw[e] at hl;obtain rfl:i = j:=by simp at hl;omega
  exact ho.elim id (h.base h4 i hj)
 ·intro u hu i hi e ho;exact cl i j hi hj ho (by rw[e];exact hu)
 ·intro _ u v hu hv i hi e ho;obtain⟨m,m1,m2,rfl,rfl⟩:=aec hi hj e;exact hv m m2 rfl (.inl (cl i m m1 ω ho hu))
end Go.Proofs.YteojanlajhebhaaGreatDoor
namespace Go.Proofs.YteojanlajhebhaaGreatDoor
open Go.RowKit
def kJ (s:List UInt8) (w:World) (x:um) (n:bF):Prop:=∀(W:World) (ga:Nat) (f:Nat→Bool),ah w W→dw W ga (s.length+1) f→
 Calls Tryz.prog 129 #[.agg x.cells,.string ⟨s.toArray⟩,pV ga (s.length+1)] W fun e w'=>∃g,e =.returned (pV g (s.length+1))∧∃h,dw w' g (s.length+1) h∧sO s n f h∧ah W w'
theorem kJ.mono {s:List UInt8} {w w':World} {x:um} {n:bF} (h:kJ s w x n) (hg:ah w w'):kJ s w' x n:=fun W ga f hG hB=>h W ga f (hg.trans hG) hB
def OT (s:List UInt8) (p f:Nat→Bool) (i:Nat):Nat→Bool:=fun j=>match j with
 | 0=>false
 | k+1=>decide (k<i)&&(f k&&p (s.getD k 0).toNat)
theorem Rf (s:List UInt8) (p f:Nat→Bool) (i k:Nat):OT s p f i (k+1)=(decide (k<i)&&(f k&&p (s.getD k 0).toNat)):=rfl
theorem apW {s:List UInt8} {w:World} {p:Nat→Bool} (hs:s.length≤999999):kJ s w (vw p) (.set p):=by
 intro W ga f hGW hA;clear hGW;have aQ:Hid (sO s (.set p) f (OT s p f s.length)):=ζ (ak1 rfl fun i hi=>by
  show (decide (i < s.length)&&(f i &&p (s.getD i 0).toNat))=_
  rw[decide_eq_true hi,List.getD_eq_getElem?_getD,List.getElem?_eq_getElem hi];rfl)
 rw[ZF];obtain⟨N,hN⟩:∃N,N=s.length+1:=⟨_,rfl⟩;rw[←hN] at hA ⊢;have hX:=ζ (aS.new W 149 (au 0 p aI));have hg1:=(ah.refl W).alloc (.cells (au 0 p aI) 149);have hlA:=hA.lt;have ZU:=fun W'=>tJ W' N ω
 unfold pV at *
 replace hN:=ζ hN;go_enter Tryz.func129,Tryz.ntmps129
 have hXl:=hX.o.lt;replace hA:=ζ (hA.grows hg1);have hG:=ζ hg1;have NU:Hid (ga≠(W.alloc (.cells (au 0 p aI) 149)).heap.size):=ζ (by rw[World.size_alloc];omega);have U5:Hid (W.heap.size≠(W.alloc (.cells (au 0 p aI) 149)).heap.size):=ζ (by rw[World.size_alloc];omega);have x1:=mJ 0 p aI;go_wp2;clear x1 ZU;have U8:=ζ (hX.o.alloc (.cells (dA N aV) 4));have GZ:=ζ (hA.o.grows ((ah.refl _).alloc (.cells (dA N aV) 4)));have iC:=ζ (hG.o.alloc (.cells (dA N aV) 4));have hO:Hid (dw ((W.alloc (.cells (au 0 p aI) 149)).alloc (.cells (dA N aV) 4)) (W.alloc (.cells (au 0 p aI) 149)).heap.size N aV):=ζ (aS.new _ _ _);clear hX hA hG;rw[World.size_alloc] at hO NU U5;generalize (W.alloc (.cells (au 0 p aI) 149)).alloc (.cells (dA N aV) 4)=w2 at *
 have hgo:Hid (W.heap.size≤W.heap.size+1):=ζ ω;generalize akf:W.heap.size+1=go at *
 generalize agJ:W.heap.size=gx at *
 have hX:=U8;clear U8;go_loopw [8] (fun i wr=>∃k:Nat,k≤s.length∧i =.int .i64 (k:Int)∧Hid (dw wr go N (OT s p f k))∧Hid (dw wr ga N f)∧Hid (dZ wr gx 0 p aI)∧Hid (ah W wr)) (fun i _=>s.length-(intOf i).toNat)
 case atStart=>exact⟨0,ω,rfl,ζ (dw.ext hO.o fun i _=>by cases i <;> simp[aV,OT]),GZ,hX,iC⟩
 case round=>
  clear hO GZ hX iC;obtain⟨k,hk,rfl,hO,hA,hX,hG⟩:=hrel;by_cases Np:k<s.length
  ·have j_:(k:Int)<(s.length:Int):=ω;have hk1:(k:Int)<(N:Int):=by have:=hN.o;omega
   have hk2:(k:Int)+1<(N:Int):=by have:=hN.o;omega
   have Il:s[k]? = some s[k]:=List.getElem?_eq_getElem Np;have hub:=UInt8.toNat_lt s[k];have cO:=hO.o.get (show k+1<N by omega);have fO:=hO.o.frozen (k+1);have lO:=hO.o.lt;have lX:=hX.o.lt;have hkb:k<(⟨s.toArray⟩:ByteArray).size:=by show k<s.toArray.size;simpa using Np
   have ayD:((((⟨s.toArray⟩:ByteArray)[k]'hkb).toNat:Nat):Int)<256:=by show ((s[k].toNat:Nat):Int)<256;omega
   have cA:=hA.o.get (show k<N by omega);have cX:wr.cell? ⟨gx,1+((⟨s.toArray⟩:ByteArray)[k]'hkb).toNat,none⟩=some (.bool (p (s[k]).toNat)):=(hX.o.cell (1+(s[k]).toNat)).trans (je hub);have aO:Hid (∀b,b = (f k&&p (s[k]).toNat)→dw (wr.setCell ⟨go,k+1,none⟩ (.bool b)) go N (OT s p f (k+1))):=ζ (fun b hb=>dw.ext (hO.o.set (k+1) b) fun j _=>by
    cases j with
    | zero=>simp[OT]
    | succ j=>
     rw[Rf,Rf];by_cases e:j = k
     ·subst e;rw[if_pos rfl,hb,List.getD_eq_getElem?_getD,Il];simp
     ·rw[if_neg ω];by_cases e2:j < k
      ·rw[decide_eq_true e2,decide_eq_true ω]
      ·rw[decide_eq_false e2,decide_eq_false ω])
   have GZ:=fun b=>ζ (hA.o.far (p:=⟨go,k+1,none⟩) NU.o (.bool b))
   have U8:=fun b=>ζ (hX.o.far (p:=⟨go,k+1,none⟩) U5.o (.bool b))
   have iC:=fun b=>ζ (hG.o.setCell (p:=⟨go,k+1,none⟩) (by have:=hgo.o;rw[agJ];exact this) (.bool b))
   clear hO hA hX hG;replace GZ:=ζ GZ;replace U8:=ζ U8;replace iC:=ζ iC;generalize f k=fk at *
   cases fk with
   | true=>
    simp only[Bool.true_and] at aO;go_wp2;go_roundw
    case rel=>exact⟨k+1,ω,ν,ζ (aO.o _ rfl),GZ.o _,U8.o _,iC.o _⟩
    case measure=>exact ψ
   | false=>
    simp only[Bool.false_and] at aO;go_wp2;go_roundw
    case rel=>exact⟨k+1,ω,ν,ζ (aO.o _ rfl),GZ.o _,U8.o _,iC.o _⟩
    case measure=>exact ψ
  ·have j_:¬(k:Int)<(s.length:Int):=ω;have hks:Hid (OT s p f k=OT s p f s.length):=ζ (by rw[show k=s.length by omega]);go_wp2;go_ret;exact⟨go,rfl,_,hO.o,by rw[hks.o];exact aQ.o,hG.o⟩
theorem GK {w:World} {A:Option Addr} {m:Nat} {xs:List um} (h:dH w 258 oU A m xs) {i:Nat} (hi:i < m):∃b off x,A=some ⟨b,off,none⟩∧xs[i]? = some x∧w.rangeAt b (off+i * 258) (oU x):=by
 obtain⟨b,off,x,e,_,hx,hc⟩:=h.at_ hi;exact⟨b,off,x,e,hx,fun j v hv=>hc j v hv⟩
theorem xw (x:um):(oU x).toArray=x.cells:=by simp[oU]
theorem apV {s:List UInt8} {w:World} {xs:List um} {l:List bF} {A:Option Addr} {m c:Nat} (hs:s.length≤999999) (hR:dH w 258 oU A m xs) (hm:m≤9223372036854775807) (hl:l.length=m)
 (uh:∀(i:Nat) (x:um) (y:bF),xs[i]? = some x→l[i]? = some y→kJ s w x y):kJ s w ⟨1,aV,A,m,c⟩ (.alt l):=by
 intro W ga f hGW hA;show Calls _ _ #[.agg (au 1 aV (.slice A m c)),_,_] _ _
 have iW:=ζ (hR.keep hGW);clear hR;obtain⟨N,hN⟩:∃N,N=s.length+1:=⟨_,rfl⟩;unfold kJ at uh;rw[←hN] at hA ⊢ uh;have hX:=ζ (aS.new W 149 (au 1 aV (.slice A m c)));have hg1:=(ah.refl W).alloc (.cells (au 1 aV (.slice A m c)) 149);have hlA:=hA.lt;have ZU:=fun W'=>tJ W' N ω
 unfold pV at *
 replace hN:=ζ hN;replace uh:=ζ uh;have hsz:=ζ (show (Tryz.prog.info? 149).map (·.size)=some 258 from aZ);go_enter Tryz.func129,Tryz.ntmps129
 have hXl:=hX.o.lt;replace hA:=ζ (hA.grows hg1);have hG:=ζ hg1;have NU:Hid (ga≠(W.alloc (.cells (au 1 aV (.slice A m c)) 149)).heap.size):=ζ (by rw[World.size_alloc];omega);have U5:Hid (W.heap.size≠(W.alloc (.cells (au 1 aV (.slice A m c)) 149)).heap.size):=ζ (by rw[World.size_alloc];omega);have x1:=mJ 1 aV (.slice A m c);go_wp2;clear x1 ZU;have U8:=ζ (hX.o.alloc (.cells (dA N aV) 4));have GZ:=ζ (hA.o.grows ((ah.refl _).alloc (.cells (dA N aV) 4)));have iC:=ζ (hG.o.alloc (.cells (dA N aV) 4));have hO:Hid (dw ((W.alloc (.cells (au 1 aV (.slice A m c)) 149)).alloc (.cells (dA N aV) 4)) (W.alloc (.cells (au 1 aV (.slice A m c)) 149)).heap.size N aV):=ζ (aS.new _ _ _);clear hX hA hG hg1;rw[World.size_alloc] at hO NU U5;generalize (W.alloc (.cells (au 1 aV (.slice A m c)) 149)).alloc (.cells (dA N aV) 4)=w2 at *
 have hgo:Hid (W.heap.size≤W.heap.size+1):=ζ ω;generalize akf:W.heap.size+1=go at *
 generalize agJ:W.heap.size=gx at *
 have hX:=U8;clear U8;go_loopw [7,9] (fun ov i wr=>∃(k g:Nat) (h:Nat→Bool),k≤m∧i =.int .i64 (k:Int)∧ov=.slice (some ⟨g,0,none⟩) N N∧Hid (dw wr g N h)∧Hid (sO s (.alt (l.take k)) f h)∧Hid (ah w2 wr)) (fun _ i _=>m - (intOf i).toNat)
 case atStart=>exact⟨0,go,aV,ω,rfl,rfl,hO,ζ (by rw[List.take_zero];exact ahh fun _ _=>rfl),ζ (ah.refl _)⟩
 case round=>
  clear hO;obtain⟨k,g,h,hk,rfl,rfl,hO,hE,hgr⟩:=hrel;have hG:=ζ (iC.o.trans hgr.o);have WJ:=((hX.o.grows hgr.o).cell 257).trans (dW 1 aV (.slice A m c));by_cases nV:k<m
  ·obtain⟨b,off,x,rfl,hx,NW⟩:=GK (iW.o.keep hG.o) nV;obtain⟨y,hy⟩:∃y,l[k]? = some y:=⟨_,List.getElem?_eq_getElem ω⟩;have j_:(k:Int)<(m:Int):=ω;have hc:=ζ (uh.o k x y hx hy wr ga f (hGW.trans hG.o) (GZ.o.grows hgr.o));have xJ:Hid (l.take (k+1)=l.take k++[y]):=ζ (by rw[List.take_add_one,hy];rfl);replace NW:=ζ NW;clear hx hy;go_wp2_with (refine wpList_load_mid rfl 149 (.tmp 56) rfl b (off+k*258) rfl (oU x) _ NW.o Tryz.underlying149 rfl (hsz.o.trans (by rw[zi])) ?_);rw[xw];refine (hc.o).mono ?_;rintro e w4 ⟨g2,rfl,h2,mY,hE2,hg4⟩;replace hO:=ζ (hO.o.grows hg4);replace hgr:=ζ (hgr.o.trans hg4);have hE3:=ζ (ak4 hE.o hE2);clear hg4 hc NW WJ hE hE2;go_wp2_with fail;have hbo:=Na hO.o mY (by have:=hN.o;omega);unfold pV at hbo;refine hbo.mono ?_;rintro e w5 ⟨g3,rfl,Hy,sQ⟩;replace hgr:=ζ (hgr.o.trans sQ);clear hbo sQ mY hO;replace Hy:=ζ Hy;go_wp2;go_roundw
   case rel=>exact⟨k+1,g3,_,ω,ν,rfl,Hy,ζ (by rw[xJ.o];exact hE3.o),hgr⟩
   case measure=>exact ψ
  ·have j_:¬(k:Int)<(m:Int):=ω;rw[List.take_of_length_le ω] at hE;go_wp2;go_ret;exact⟨g,rfl,h,hO.o,hE.o,hG.o⟩
theorem apU {s:List UInt8} {w:World} {xs:List um} {l:List bF} {A:Option Addr} {m c:Nat} (hs:s.length≤999999) (hR:dH w 258 oU A m xs) (hm:m≤9223372036854775807) (hl:l.length=m)
 (uh:∀(i:Nat) (x:um) (y:bF),xs[i]? = some x→l[i]? = some y→kJ s w x y):kJ s w ⟨2,aV,A,m,c⟩ (.row l):=by
 intro W ga f hGW hA;show Calls _ _ #[.agg (au 2 aV (.slice A m c)),_,_] _ _
 have iW:=ζ (hR.keep hGW);clear hR;obtain⟨N,hN⟩:∃N,N=s.length+1:=⟨_,rfl⟩;unfold kJ at uh;rw[←hN] at hA ⊢ uh;have hX:=ζ (aS.new W 149 (au 2 aV (.slice A m c)));have hg1:=(ah.refl W).alloc (.cells (au 2 aV (.slice A m c)) 149);have hlA:=hA.lt;have ZU:=fun W'=>tJ W' N ω
 unfold pV at *
 replace hN:=ζ hN;replace uh:=ζ uh;have hsz:=ζ (show (Tryz.prog.info? 149).map (·.size)=some 258 from aZ);go_enter Tryz.func129,Tryz.ntmps129
 have hXl:=hX.o.lt;replace hA:=ζ (hA.grows hg1);have hG:=ζ hg1;have NU:Hid (ga≠(W.alloc (.cells (au 2 aV (.slice A m c)) 149)).heap.size):=ζ (by rw[World.size_alloc];omega);have U5:Hid (W.heap.size≠(W.alloc (.cells (au 2 aV (.slice A m c)) 149)).heap.size):=ζ (by rw[World.size_alloc];omega);have x1:=mJ 2 aV (.slice A m c);go_wp2;clear x1 ZU;have U8:=ζ (hX.o.alloc (.cells (dA N aV) 4));have GZ:=ζ (hA.o.grows ((ah.refl _).alloc (.cells (dA N aV) 4)));have iC:=ζ (hG.o.alloc (.cells (dA N aV) 4));have hO:Hid (dw ((W.alloc (.cells (au 2 aV (.slice A m c)) 149)).alloc (.cells (dA N aV) 4)) (W.alloc (.cells (au 2 aV (.slice A m c)) 149)).heap.size N aV):=ζ (aS.new _ _ _);clear hX hA hG hg1;rw[World.size_alloc] at hO NU U5;generalize (W.alloc (.cells (au 2 aV (.slice A m c)) 149)).alloc (.cells (dA N aV) 4)=w2 at *
 have hgo:Hid (W.heap.size≤W.heap.size+1):=ζ ω;generalize akf:W.heap.size+1=go at *
 generalize agJ:W.heap.size=gx at *
 have hX:=U8;clear U8;go_loopw [7,10] (fun ov i wr=>∃(k g:Nat) (h:Nat→Bool),k≤m∧i =.int .i64 (k:Int)∧ov=.slice (some ⟨g,0,none⟩) N N∧Hid (dw wr g N h)∧Hid (sO s (.row (l.take k)) f h)∧Hid (ah w2 wr)) (fun _ i _=>m - (intOf i).toNat)
 case atStart=>exact⟨0,ga,f,ω,rfl,rfl,GZ,ζ (by rw[List.take_zero];exact ahf f),ζ (ah.refl _)⟩
 case round=>
  clear hO;obtain⟨k,g,h,hk,rfl,rfl,hO,hE,hgr⟩:=hrel;have hG:=ζ (iC.o.trans hgr.o);have WJ:=((hX.o.grows hgr.o).cell 257).trans (dW 2 aV (.slice A m c));by_cases nV:k<m
  ·obtain⟨b,off,x,rfl,hx,NW⟩:=GK (iW.o.keep hG.o) nV;obtain⟨y,hy⟩:∃y,l[k]? = some y:=⟨_,List.getElem?_eq_getElem ω⟩;have j_:(k:Int)<(m:Int):=ω;have hc:=ζ (uh.o k x y hx hy wr g h (hGW.trans hG.o) hO.o);have xJ:Hid (l.take (k+1)=l.take k++[y]):=ζ (by rw[List.take_add_one,hy];rfl);replace NW:=ζ NW;clear hx hy;go_wp2_with (refine wpList_load_mid rfl 149 (.tmp 75) rfl b (off+k*258) rfl (oU x) _ NW.o Tryz.underlying149 rfl (hsz.o.trans (by rw[zi])) ?_);rw[xw];refine (hc.o).mono ?_;rintro e w4 ⟨g2,rfl,h2,mY,hE2,hg4⟩;replace hgr:=ζ (hgr.o.trans hg4);have hE3:=ζ (ak2 hE.o hE2);replace mY:=ζ mY;clear hg4 hc NW WJ hE hE2 hO;go_wp2;go_roundw
   case rel=>exact⟨k+1,g2,_,ω,ν,rfl,mY,ζ (by rw[xJ.o];exact hE3.o),hgr⟩
   case measure=>exact ψ
  ·have j_:¬(k:Int)<(m:Int):=ω;rw[List.take_of_length_le ω] at hE;go_wp2;go_ret;exact⟨g,rfl,h,hO.o,hE.o,hG.o⟩
def isF (o:Option Value):Bool:=match o with
 | some (.bool false)=>true
 | _=>false
def adM (n:Nat) (v:Value) (w:World):Nat:=match v with
 | .slice (some a) _ _=>(List.range n).countP fun i=>isF (w.cell? ⟨a.block,i,none⟩)
 | _=>0
theorem Wn {n:Nat} {p q:Nat→Bool} (h:∀i,i < n→p i = q i):(List.range n).countP p = (List.range n).countP q:=
 List.countP_congr fun i hi=>by rw[h i (List.mem_range.1 hi)]
theorem QF {n g c:Nat} {f:Nat→Bool} {w:World} (h:dw w g n f):adM n (.slice (some ⟨g,0,none⟩) n c) w = (List.range n).countP fun i=> !f i:=
 Wn fun i hi=>by rw[h.get hi];cases f i <;> rfl
theorem ald {p q:Nat→Bool}:∀(n:Nat),(∀i,i < n→p i = true→q i = true)→(List.range n).countP p≤(List.range n).countP q
 | 0,_=>by simp
 | n + 1,h=>by
  have ih:=ald n (fun i hi=>h i ω);rw[List.range_succ,List.countP_append,List.countP_append];have:=h n ω;cases hp:p n
  ·simp[hp];omega
  ·simp[hp,this hp];omega
theorem alc {p q:Nat→Bool}:∀(n j:Nat),(∀i,i < n→p i = true→q i = true)→j < n→q j = true→p j = false→(List.range n).countP p < (List.range n).countP q
 | 0,j,_,h,_,_=>ω
 | n + 1,j,h,hj,hq,hp=>by
  rw[List.range_succ,List.countP_append,List.countP_append];rcases Nat.lt_or_ge j n with Xw | Xw
  ·have ih:=alc n j (fun i hi=>h i ω) Xw hq hp;have:=h n ω;cases hpn:p n
   ·simp[hpn];omega
   ·simp[hpn,this hpn];omega
  ·obtain rfl:j = n:=ω;have:=ald (p:=p) (q:=q) j (fun i hi=>h i ω);simp[hp,hq];omega
def sK (st h:Nat→Bool) (j:Nat):Bool:=(List.range j).any fun i=>st i && !h i
theorem TN (st h:Nat→Bool) (j:Nat):sK st h (j + 1)=(sK st h j ||(st j && !h j)):=by
 unfold sK;rw[List.range_succ,List.any_append];simp
theorem WA {st h:Nat→Bool} {n:Nat}:sK st h (n + 1)=true↔∃j,j≤n∧st j = true∧h j = false:=by
 unfold sK;rw[List.any_eq_true];constructor
 ·rintro⟨j,hj,h1⟩;rw[Bool.and_eq_true] at h1;exact⟨j,by have:=List.mem_range.1 hj;omega,h1.1,by simpa using h1.2⟩
 ·rintro⟨j,hj,h1,h2⟩;exact⟨j,List.mem_range.2 ω,by rw[h1,h2];rfl⟩
def V9 (v:Value):Nat:=match v with
 | .bool true=>1
 | _=>0
theorem apR {s:List UInt8} {w:World} {x:um} {y:bF} {A:Option Addr} {m c:Nat} (hs:s.length≤999999) (hR:dH w 258 oU A m [x]) (uh:kJ s w x y):kJ s w ⟨5,aV,A,m,c⟩ (.rep 5 y):=by
 intro W ga f hGW hA;show Calls _ _ #[.agg (au 5 aV (.slice A m c)),_,_] _ _
 obtain rfl:m = 1:=hR.1.symm;have iW:=ζ (hR.keep hGW);clear hR;obtain⟨N,hN⟩:∃N,N=s.length+1:=⟨_,rfl⟩;unfold kJ at uh;rw[←hN] at hA ⊢ uh;have hX:=ζ (aS.new W 149 (au 5 aV (.slice A 1 c)));have hg1:=(ah.refl W).alloc (.cells (au 5 aV (.slice A 1 c)) 149);have hlA:=hA.lt;have ZU:=fun W'=>tJ W' N ω
 unfold pV at *
 replace hN:=ζ hN;replace uh:=ζ uh;have hsz:=ζ (show (Tryz.prog.info? 149).map (·.size)=some 258 from aZ);have GZ:=ζ ((hA.grows hg1).grows ((ah.refl _).alloc (.cells (dA N aV) 4)));have iC:=ζ (hg1.alloc (.cells (dA N aV) 4));obtain⟨b,off,x',rfl,hx,NW⟩:=GK (iW.o.keep iC.o) (show 0<1 by omega);obtain rfl:x = x':=by simpa using hx
 rw[Nat.zero_mul,Nat.add_zero] at NW;have U8:=ζ (hX.o.alloc (.cells (dA N aV) 4));go_enter Tryz.func129,Tryz.ntmps129
 have hXl:=hX.o.lt;have x1:=mJ 5 aV (.slice (some ⟨b,off,none⟩) 1 c);have WJ:=dW 5 aV (.slice (some ⟨b,off,none⟩) 1 c);have hc:=ζ (uh.o _ ga f (hGW.trans iC.o) GZ.o);clear hX uh hx iW hg1;replace NW:=ζ NW;go_wp2_with (refine wpList_load_mid rfl 149 (.tmp 124) rfl b off rfl (oU x) _ NW.o Tryz.underlying149 rfl (hsz.o.trans (by rw[zi])) ?_);rw[xw];clear x1 WJ ZU;refine (hc.o).mono ?_;rintro e w4 ⟨g2,rfl,h2,mY,hE2,hg4⟩;have hA4:=ζ (GZ.o.grows hg4);have CQ:=ζ (iC.o.trans hg4);clear hg4 hc NW GZ iC U8;go_wp2_with fail;have hbo:=Na hA4.o mY (by have:=hN.o;omega);unfold pV at hbo;refine hbo.mono ?_;rintro e w5 ⟨g3,rfl,Hy,sQ⟩;have hE3:=ζ (ak3 hE2);go_wp2;go_ret;exact⟨g3,rfl,_,Hy,hE3.o,CQ.o.trans sQ⟩
theorem Rl {n:Nat} {h st:Nat→Bool} {ha:sK st h n = true}:(List.range n).countP (fun i=> !(h i ||st i))<(List.range n).countP (fun i=> !h i):=by
 unfold sK at ha;rw[List.any_eq_true] at ha;obtain⟨j,hj,h1⟩:=ha;rw[Bool.and_eq_true] at h1;refine alc n j (fun i _ hi=> ?_) (List.mem_range.1 hj) h1.2 (by rw[h1.1];simp);cases hh:h i
 ·rfl
 ·rw[hh] at hi;simp at hi
theorem Rk {n:Nat} {h st:Nat→Bool} {ha:sK st h n = false}:(List.range n).countP (fun i=> !(h i ||st i))=(List.range n).countP (fun i=> !h i):=by
 unfold sK at ha;rw[List.any_eq_false] at ha;refine Wn fun i hi=> ?_
 have:=ha i (List.mem_range.2 hi);cases hh:h i
 ·cases hs:st i
  ·rfl
  ·rw[hh,hs] at this;simp at this
 ·rfl
theorem apT {s:List UInt8} {w:World} {x:um} {y:bF} {A:Option Addr} {m c:Nat} (hs:s.length≤999999) (hR:dH w 258 oU A m [x]) (uh:kJ s w x y):kJ s w ⟨3,aV,A,m,c⟩ (.rep 3 y):=by
 intro W ga f hGW hA;show Calls _ _ #[.agg (au 3 aV (.slice A m c)),_,_] _ _
 obtain rfl:m = 1:=hR.1.symm;obtain⟨b,off,x',rfl,hx,-⟩:=GK hR (show 0<1 by omega);obtain rfl:x = x':=by simpa using hx
 have iW:=ζ (hR.keep hGW);clear hR hx;obtain⟨N,hN⟩:∃N,N=s.length+1:=⟨_,rfl⟩;unfold kJ at uh;rw[←hN] at hA ⊢ uh;have hX:=ζ (aS.new W 149 (au 3 aV (.slice (some ⟨b,off,none⟩) 1 c)));have hg1:=(ah.refl W).alloc (.cells (au 3 aV (.slice (some ⟨b,off,none⟩) 1 c)) 149);have hlA:=hA.lt;have ZU:=fun W'=>tJ W' N ω
 unfold pV at *
 replace hN:=ζ hN;replace uh:=ζ uh;have hsz:=ζ (show (Tryz.prog.info? 149).map (·.size)=some 258 from aZ);go_enter Tryz.func129,Tryz.ntmps129
 have hXl:=hX.o.lt;replace hA:=ζ (hA.grows hg1);have hG:=ζ hg1;have NU:Hid (ga≠(W.alloc (.cells (au 3 aV (.slice (some ⟨b,off,none⟩) 1 c)) 149)).heap.size):=ζ (by rw[World.size_alloc];omega);have U5:Hid (W.heap.size≠(W.alloc (.cells (au 3 aV (.slice (some ⟨b,off,none⟩) 1 c)) 149)).heap.size):=ζ (by rw[World.size_alloc];omega);have x1:=mJ 3 aV (.slice (some ⟨b,off,none⟩) 1 c);go_wp2;clear x1 ZU;have U8:=ζ (hX.o.alloc (.cells (dA N aV) 4));have GZ:=ζ (hA.o.grows ((ah.refl _).alloc (.cells (dA N aV) 4)));have iC:=ζ (hG.o.alloc (.cells (dA N aV) 4));have hO:Hid (dw ((W.alloc (.cells (au 3 aV (.slice (some ⟨b,off,none⟩) 1 c)) 149)).alloc (.cells (dA N aV) 4)) (W.alloc (.cells (au 3 aV (.slice (some ⟨b,off,none⟩) 1 c)) 149)).heap.size N aV):=ζ (aS.new _ _ _);clear hX hA hG hg1;rw[World.size_alloc] at hO NU U5;generalize (W.alloc (.cells (au 3 aV (.slice (some ⟨b,off,none⟩) 1 c)) 149)).alloc (.cells (dA N aV) 4)=w2 at *
 have hgo:Hid (W.heap.size≤W.heap.size+1):=ζ ω;generalize akf:W.heap.size+1=go at *
 generalize agJ:W.heap.size=gx at *
 have hX:=U8;clear U8;have ajR:Hid (F5 s 3 y f f f true):=ζ (aru s y f);go_loopw [7,11,12,13] (fun ov sv mv _ wr=>∃(g gs:Nat) (h st:Nat→Bool) (more:Bool),ov=.slice (some ⟨g,0,none⟩) N N∧sv=.slice (some ⟨gs,0,none⟩) N N∧mv=.bool more∧Hid (dw wr g N h)∧Hid (dw wr gs N st)∧Hid (F5 s 3 y f h st more)∧Hid (ah w2 wr)) (fun ov _ mv _ wr=>adM N ov wr+V9 mv)
 case atStart=>exact⟨ga,ga,f,f,true,rfl,rfl,rfl,GZ,GZ,ajR,ζ (ah.refl _)⟩
 case round=>
  clear ajR hO;obtain⟨g,gs,h,st,more,rfl,rfl,rfl,hO,hS,hI,hgr⟩:=hrel;have hG:=ζ (iC.o.trans hgr.o);have WJ:=((hX.o.grows hgr.o).cell 257).trans (dW 3 aV (.slice (some ⟨b,off,none⟩) 1 c));have nY:=ζ (QF (c:=N) hO.o);cases more with
  | false=>
   clear nY;go_wp2;go_ret;exact⟨g,rfl,h,hO.o,hI.o.ends,hG.o⟩
  | true=>
   obtain⟨b',acJ,x',e',hx,NW⟩:=GK (iW.o.keep hG.o) (show 0<1 by omega);obtain rfl:x = x':=by simpa using hx
   injection e' with e'
   injection e' with e3 e4 _
   subst e3 e4;rw[Nat.zero_mul,Nat.add_zero] at NW;have hc:=ζ (uh.o wr gs st (hGW.trans hG.o) hS.o);replace NW:=ζ NW;clear hx hS;go_wp2_with (refine wpList_load_mid rfl 149 (.tmp 91) rfl b off rfl (oU x) _ NW.o Tryz.underlying149 rfl (hsz.o.trans (by rw[zi])) ?_);rw[xw];refine (hc.o).mono ?_;rintro e w4 ⟨g2,rfl,P5,mY,hE2,hg4⟩;replace hO:=ζ (hO.o.grows hg4);replace hgr:=ζ (hgr.o.trans hg4);have hI2:Hid (F5 s 3 y f (fun j=>h j ||P5 j) P5 (sK P5 h N)):=ζ (hI.o.next δ hE2 (by rw[hN.o];exact WA));replace mY:=ζ mY;clear hg4 hc NW WJ hE2 hI hG;have aj9:=ζ (show ∀W' g',dw W' g' N (fun i=>h i ||P5 i)→adM N (.slice (some ⟨g',0,none⟩) N N) W'+V9 (.bool (sK P5 h N))<adM N (.slice (some ⟨g,0,none⟩) N N) wr+V9 (.bool true) from fun W' g' Iy=>by
    rw[QF Iy,nY.o];cases ha:sK P5 h N
    ·rw[Rk (ha:=ha)];show _ + 0<_ + 1;omega
    ·have:=Rl (ha:=ha);show _ + 1<_ + 1;omega)
   have hNb:N≤1000000:=by have:=hN.o;omega
   clear nY;go_wp2;go_loopw [12,13] (fun mv i wr2=>∃j:Nat,j≤N∧i =.int .i64 (j:Int)∧mv=.bool (sK P5 h j)∧Hid (ah w4 wr2)) (fun _ i _=>N-(intOf i).toNat)
   case atStart=>exact⟨0,ω,rfl,rfl,ζ (ah.refl _)⟩
   case round=>
    obtain⟨j,hj,rfl,rfl,sQ⟩:=hrel;by_cases Xw:j < N
    ·have KP:(j:Int)<(N:Int):=ω;have hsu:=TN P5 h j;have cS:=dw.get (mY.o.grows sQ.o) Xw;have cO:=dw.get (hO.o.grows sQ.o) Xw;generalize sK P5 h j = B at *
     generalize ET:sK P5 h (j + 1)=B1 at *
     replace ET:=ζ ET;generalize P5 j = s1 at *
     generalize h j = h1 at *
     cases B with
     | true=>
      rw[Bool.true_or] at hsu;subst hsu;go_wp2;go_roundw
      case rel=>exact⟨j + 1,ω,ν,by rw[ET.o] <;> rfl,sQ⟩
      case measure=>exact ψ
     | false=>
      cases s1 with
      | false=>
       rw[Bool.false_and,Bool.or_false] at hsu;subst hsu;go_wp2;go_roundw
       case rel=>exact⟨j + 1,ω,ν,by rw[ET.o] <;> rfl,sQ⟩
       case measure=>exact ψ
      | true=>
       cases h1 with
       | false=>
        subst hsu;go_wp2;go_roundw
        case rel=>exact⟨j + 1,ω,ν,by rw[ET.o] <;> rfl,sQ⟩
        case measure=>exact ψ
       | true=>
        subst hsu;go_wp2;go_roundw
        case rel=>exact⟨j + 1,ω,ν,by rw[ET.o] <;> rfl,sQ⟩
        case measure=>exact ψ
    ·have KP:¬(j:Int)<(N:Int):=ω;obtain rfl:j = N:=ω;have hbo:=Na (hO.o.grows sQ.o) (mY.o.grows sQ.o) (by have:=hN.o;omega);unfold pV at hbo;go_wp2_with fail;refine hbo.mono ?_;rintro e w6 ⟨g3,rfl,Hy,Ua⟩;replace hgr:=ζ ((hgr.o.trans sQ.o).trans Ua);replace mY:=ζ ((mY.o.grows sQ.o).grows Ua);replace Hy:=ζ Hy;clear hbo sQ Ua hO;go_wp2;go_roundw
     case rel=>exact⟨g3,g2,_,P5,_,rfl,rfl,rfl,Hy,mY,hI2,hgr⟩
     case measure=>exact aj9.o _ _ Hy.o
theorem apS {s:List UInt8} {w:World} {x:um} {y:bF} {A:Option Addr} {m c:Nat} (hs:s.length≤999999) (hR:dH w 258 oU A m [x]) (uh:kJ s w x y):kJ s w ⟨4,aV,A,m,c⟩ (.rep 4 y):=by
 intro W ga f hGW hA;show Calls _ _ #[.agg (au 4 aV (.slice A m c)),_,_] _ _
 obtain rfl:m = 1:=hR.1.symm;obtain⟨b,off,x',rfl,hx,-⟩:=GK hR (show 0<1 by omega);obtain rfl:x = x':=by simpa using hx
 have iW:=ζ (hR.keep hGW);clear hR hx;obtain⟨N,hN⟩:∃N,N=s.length+1:=⟨_,rfl⟩;unfold kJ at uh;rw[←hN] at hA ⊢ uh;have hX:=ζ (aS.new W 149 (au 4 aV (.slice (some ⟨b,off,none⟩) 1 c)));have hg1:=(ah.refl W).alloc (.cells (au 4 aV (.slice (some ⟨b,off,none⟩) 1 c)) 149);have hlA:=hA.lt;have ZU:=fun W'=>tJ W' N ω
 unfold pV at *
 replace hN:=ζ hN;replace uh:=ζ uh;have hsz:=ζ (show (Tryz.prog.info? 149).map (·.size)=some 258 from aZ);go_enter Tryz.func129,Tryz.ntmps129
 have hXl:=hX.o.lt;replace hA:=ζ (hA.grows hg1);have hG:=ζ hg1;have NU:Hid (ga≠(W.alloc (.cells (au 4 aV (.slice (some ⟨b,off,none⟩) 1 c)) 149)).heap.size):=ζ (by rw[World.size_alloc];omega);have U5:Hid (W.heap.size≠(W.alloc (.cells (au 4 aV (.slice (some ⟨b,off,none⟩) 1 c)) 149)).heap.size):=ζ (by rw[World.size_alloc];omega);have x1:=mJ 4 aV (.slice (some ⟨b,off,none⟩) 1 c);go_wp2;clear x1 ZU;have U8:=ζ (hX.o.alloc (.cells (dA N aV) 4));have GZ:=ζ (hA.o.grows ((ah.refl _).alloc (.cells (dA N aV) 4)));have iC:=ζ (hG.o.alloc (.cells (dA N aV) 4));have hO:Hid (dw ((W.alloc (.cells (au 4 aV (.slice (some ⟨b,off,none⟩) 1 c)) 149)).alloc (.cells (dA N aV) 4)) (W.alloc (.cells (au 4 aV (.slice (some ⟨b,off,none⟩) 1 c)) 149)).heap.size N aV):=ζ (aS.new _ _ _);clear hX hA hG hg1;rw[World.size_alloc] at hO NU U5;generalize (W.alloc (.cells (au 4 aV (.slice (some ⟨b,off,none⟩) 1 c)) 149)).alloc (.cells (dA N aV) 4)=w2 at *
 have hgo:Hid (W.heap.size≤W.heap.size+1):=ζ ω;generalize akf:W.heap.size+1=go at *
 generalize agJ:W.heap.size=gx at *
 have hX:=U8;clear U8;have ajR:Hid (F5 s 4 y f aV f true):=ζ (arQ s y f aV (fun _ _=>rfl));go_loopw [7,11,12,13] (fun ov sv mv _ wr=>∃(g gs:Nat) (h st:Nat→Bool) (more:Bool),ov=.slice (some ⟨g,0,none⟩) N N∧sv=.slice (some ⟨gs,0,none⟩) N N∧mv=.bool more∧Hid (dw wr g N h)∧Hid (dw wr gs N st)∧Hid (F5 s 4 y f h st more)∧Hid (ah w2 wr)) (fun ov _ mv _ wr=>adM N ov wr+V9 mv)
 case atStart=>exact⟨go,ga,aV,f,true,rfl,rfl,rfl,hO,GZ,ajR,ζ (ah.refl _)⟩
 case round=>
  clear ajR hO;obtain⟨g,gs,h,st,more,rfl,rfl,rfl,hO,hS,hI,hgr⟩:=hrel;have hG:=ζ (iC.o.trans hgr.o);have WJ:=((hX.o.grows hgr.o).cell 257).trans (dW 4 aV (.slice (some ⟨b,off,none⟩) 1 c));have nY:=ζ (QF (c:=N) hO.o);cases more with
  | false=>
   clear nY;go_wp2;go_ret;exact⟨g,rfl,h,hO.o,hI.o.ends,hG.o⟩
  | true=>
   obtain⟨b',acJ,x',e',hx,NW⟩:=GK (iW.o.keep hG.o) (show 0<1 by omega);obtain rfl:x = x':=by simpa using hx
   injection e' with e'
   injection e' with e3 e4 _
   subst e3 e4;rw[Nat.zero_mul,Nat.add_zero] at NW;have hc:=ζ (uh.o wr gs st (hGW.trans hG.o) hS.o);replace NW:=ζ NW;clear hx hS;go_wp2_with (refine wpList_load_mid rfl 149 (.tmp 91) rfl b off rfl (oU x) _ NW.o Tryz.underlying149 rfl (hsz.o.trans (by rw[zi])) ?_);rw[xw];refine (hc.o).mono ?_;rintro e w4 ⟨g2,rfl,P5,mY,hE2,hg4⟩;replace hO:=ζ (hO.o.grows hg4);replace hgr:=ζ (hgr.o.trans hg4);have hI2:Hid (F5 s 4 y f (fun j=>h j ||P5 j) P5 (sK P5 h N)):=ζ (hI.o.next δ hE2 (by rw[hN.o];exact WA));replace mY:=ζ mY;clear hg4 hc NW WJ hE2 hI hG;have aj9:=ζ (show ∀W' g',dw W' g' N (fun i=>h i ||P5 i)→adM N (.slice (some ⟨g',0,none⟩) N N) W'+V9 (.bool (sK P5 h N))<adM N (.slice (some ⟨g,0,none⟩) N N) wr+V9 (.bool true) from fun W' g' Iy=>by
    rw[QF Iy,nY.o];cases ha:sK P5 h N
    ·rw[Rk (ha:=ha)];show _ + 0<_ + 1;omega
    ·have:=Rl (ha:=ha);show _ + 1<_ + 1;omega)
   have hNb:N≤1000000:=by have:=hN.o;omega
   clear nY;go_wp2;go_loopw [12,13] (fun mv i wr2=>∃j:Nat,j≤N∧i =.int .i64 (j:Int)∧mv=.bool (sK P5 h j)∧Hid (ah w4 wr2)) (fun _ i _=>N-(intOf i).toNat)
   case atStart=>exact⟨0,ω,rfl,rfl,ζ (ah.refl _)⟩
   case round=>
    obtain⟨j,hj,rfl,rfl,sQ⟩:=hrel;by_cases Xw:j < N
    ·have KP:(j:Int)<(N:Int):=ω;have hsu:=TN P5 h j;have cS:=dw.get (mY.o.grows sQ.o) Xw;have cO:=dw.get (hO.o.grows sQ.o) Xw;generalize sK P5 h j = B at *
     generalize ET:sK P5 h (j + 1)=B1 at *
     replace ET:=ζ ET;generalize P5 j = s1 at *
     generalize h j = h1 at *
     cases B with
     | true=>
      rw[Bool.true_or] at hsu;subst hsu;go_wp2;go_roundw
      case rel=>exact⟨j + 1,ω,ν,by rw[ET.o] <;> rfl,sQ⟩
      case measure=>exact ψ
     | false=>
      cases s1 with
      | false=>
       rw[Bool.false_and,Bool.or_false] at hsu;subst hsu;go_wp2;go_roundw
       case rel=>exact⟨j + 1,ω,ν,by rw[ET.o] <;> rfl,sQ⟩
       case measure=>exact ψ
      | true=>
       cases h1 with
       | false=>
        subst hsu;go_wp2;go_roundw
        case rel=>exact⟨j + 1,ω,ν,by rw[ET.o] <;> rfl,sQ⟩
        case measure=>exact ψ
       | true=>
        subst hsu;go_wp2;go_roundw
        case rel=>exact⟨j + 1,ω,ν,by rw[ET.o] <;> rfl,sQ⟩
        case measure=>exact ψ
    ·have KP:¬(j:Int)<(N:Int):=ω;obtain rfl:j = N:=ω;have hbo:=Na (hO.o.grows sQ.o) (mY.o.grows sQ.o) (by have:=hN.o;omega);unfold pV at hbo;go_wp2_with fail;refine hbo.mono ?_;rintro e w6 ⟨g3,rfl,Hy,Ua⟩;replace hgr:=ζ ((hgr.o.trans sQ.o).trans Ua);replace mY:=ζ ((mY.o.grows sQ.o).grows Ua);replace Hy:=ζ Hy;clear hbo sQ Ua hO;go_wp2;go_roundw
     case rel=>exact⟨g3,g2,_,P5,_,rfl,rfl,rfl,Hy,mY,hI2,hgr⟩
     case measure=>exact aj9.o _ _ Hy.o
theorem ak5 {s:List UInt8} (hs:s.length≤999999) {base:Nat} {S:Nat→Prop}:∀(d:Nat) (w:World) (x:um) (n:bF),bI w base S d x n→kJ s w x n:=by
 intro d;induction d with
 | zero=>intro w x n h;exact h.elim
 | succ d ih=>
  intro w x n h;obtain⟨k,p,A,m,c⟩:=x;cases n with
  | set f=>
   have h:(⟨k,p,A,m,c⟩:um)=vw f:=h;rw[h];exact apW hs
  | alt l=>
   obtain⟨h1,h2,xs,hO,_,hl,hP⟩:=h;obtain⟨A',c',hv,hc,hm,hA⟩:=hO.arr EN;simp only[um.kv,Value.slice.injEq] at hv h1 h2;obtain⟨rfl,rfl,rfl⟩:=hv;subst h1 h2;exact apV hs hA (by unfold maxLen at hm;omega) hl.symm (fun i x y hx hy=>ih w x y (hP i x y hx hy))
  | row l=>
   obtain⟨h1,h2,xs,hO,_,hl,hP⟩:=h;obtain⟨A',c',hv,hc,hm,hA⟩:=hO.arr EN;simp only[um.kv,Value.slice.injEq] at hv h1 h2;obtain⟨rfl,rfl,rfl⟩:=hv;subst h1 h2;exact apU hs hA (by unfold maxLen at hm;omega) hl.symm (fun i x y hx hy=>ih w x y (hP i x y hx hy))
  | rep q y=>
   obtain⟨h3,h1,h2,xs,hO,_,hl,hP⟩:=h;obtain⟨A',c',hv,hc,hm,hA⟩:=hO.arr EN;simp only[um.kv,Value.slice.injEq] at hv h1 h2;obtain⟨rfl,rfl,rfl⟩:=hv;subst h1 h2;obtain⟨x,rfl⟩:∃x,xs=[x]:=by
    match xs,hl with
    | [x],_=>exact⟨x,rfl⟩
   have hk:=ih w x y (hP 0 x y rfl rfl);rcases h3 with rfl | rfl | rfl
   ·exact apT hs hA hk
   ·exact apS hs hA hk
   ·exact apR hs hA hk
def at0:Nat→Bool:=fun j=>decide (j = 0)
theorem ahg {s:List UInt8} {n:bF} {h:Nat→Bool} (he:sO s n at0 h):h s.length=true↔jK n s:=by
 rw[he s.length (Nat.le_refl _)];constructor
 ·rintro⟨i,_,h0,ha⟩;unfold at0 at h0;rw[of_decide_eq_true h0,aed] at ha;exact ha
 ·intro ha;exact⟨0,ω,rfl,by rw[aed];exact ha⟩
theorem abZ {s:List UInt8} {w:World} {x:um} {n:bF} (hs:s.length≤999999) (h:kJ s w x n) :
 Calls Tryz.prog 103 #[.agg x.cells,.string ⟨s.toArray⟩] w fun e w'=>∃b,e =.returned (.bool b)∧(b = true↔jK n s)∧ah w w':=by
 obtain⟨N,hN⟩:∃N,N=s.length+1:=⟨_,rfl⟩;have hNi:(s.length:Int)+1=(N:Int):=ω;have hX:=ζ (aS.new w 149 x.cells);have hg1:=(ah.refl w).alloc (.cells x.cells 149);have ZU:=fun W'=>tJ W' N ω
 have hO:Hid (dw ((w.alloc (.cells x.cells 149)).alloc (.cells (dA N aV) 4)) (w.alloc (.cells x.cells 149)).heap.size N aV):=ζ (aS.new _ _ _);have iC:=ζ (hg1.alloc (.cells (dA N aV) 4));rw[World.size_alloc] at hO;have hsz:=ζ (show (Tryz.prog.info? 149).map (·.size)=some x.cells.size by unfold um.cells;rw[aN];exact aZ);unfold kJ at h;rw[←hN] at h;unfold pV at *
 replace h:=ζ h;replace hN:=ζ hN;generalize hC:x.cells=C at *
 clear hX;go_enter Tryz.func103,Tryz.ntmps103
 have e0:(dA N aV).setIfInBounds 0 (.bool true)=dA N at0:=by
  rw[TI];exact TJ fun i _=>by unfold at0 aV;by_cases e:i = 0 <;> simp[e]
 have dS:Hid (dw ((w.alloc (.cells C 149)).alloc (.cells ((dA N aV).setIfInBounds 0 (.bool true)) 4)) (w.heap.size+1) N at0):=ζ (by
  rw[e0];have:=aS.new (w.alloc (.cells C 149)) 4 (dA N at0);rwa [World.size_alloc] at this)
 have hX3:Hid (aS ((w.alloc (.cells C 149)).alloc (.cells ((dA N aV).setIfInBounds 0 (.bool true)) 4)) w.heap.size 149 C):=ζ ((aS.new w 149 C).alloc _);have uj:=ζ (hg1.alloc (.cells ((dA N aV).setIfInBounds 0 (.bool true)) 4));have hNp:(0:Int)<(N:Int):=by have:=hN.o;omega
 have cO:=hO.o.get (show 0<N by have:=hN.o;omega);have fO:=hO.o.frozen 0;have lO:=hO.o.lt;have hc:=ζ (h.o _ _ _ uj.o dS.o);clear hO iC h e0;go_wp2_with (refine wpList_load_row rfl 149 (.tmp 2) rfl w.heap.size rfl 149 C (0,0) _ hX3.o Tryz.underlying149 rfl hsz.o ?_);refine (hc.o).mono ?_;rintro e w4 ⟨g2,rfl,h2,mY,hE2,hg4⟩;have hb2:=ahg hE2;have CQ:=ζ (uj.o.trans hg4);have c2:=dw.get mY (show s.length<N by have:=hN.o;omega);have hsN:(s.length:Int)<(N:Int):=ω;clear dS hX3 uj hg4 hc cO fO lO ZU hE2;go_wp2;go_ret;exact⟨h2 s.length,rfl,hb2,CQ.o⟩
end Go.Proofs.YteojanlajhebhaaGreatDoor
