/- Parts: PatG PatH PatI PatJ -/
import Derived.Test.YtbhikkgpcmkonaaGreatDoorVa0
import Derived.Test.YtbhikkgpcmkonaaGreatDoorVa12
import Derived.Defers
set_option maxRecDepth 100000
set_option maxHeartbeats 12800000
namespace Go.Proofs.YtbhikkgpcmkonaaGreatDoor
open Go.RowKit
def anV (base gB:Nat) (s:List UInt8) (xs:List xH) (sv:Value) (w:World) (v:Value) (b:PB) (e:Ending) (w':World):Prop:=
 e =.returned v∧jP w' base gB s b xs sv∧ay [358] base w w'
theorem jP.Nh {w:World} {base gB:Nat} {s:List UInt8} {b:PB} {xs:List xH} {sv:Value} (h:jP w base gB s b xs sv):jP (w.setCell ⟨gB,1,none⟩ (.int .i64 ((b.at_:Int)+1))) base gB s (aK b) xs sv:=by
 refine h.turn (aj w _ _) rfl ?_;have:=h.blk.bD 1 (.int .i64 ((b.at_:Int)+1));simpa[aK] using this
theorem ay.own {w w':World} {base gB:Nat} {s:List UInt8} {b:PB} {xs:List xH} {sv:Value} (h:jP w base gB s b xs sv) (hg:w.grownBy w' (some gB)):ay [358] base w w':=
 ay.row hg (by have:=h.blk.lt;have:=h.le;omega) (fun m hm=>by injection hm with hm;subst hm;exact⟨h.le,_,_,by simp,h.blk⟩)
theorem WZ {w:World} {base gB:Nat} {s:List UInt8} {b:PB} {xs:List xH} {sv:Value} (h:jP w base gB s b xs sv) (hb:base≤w.heap.size) (ha:b.at_<1000000) :
 Calls Tryz.prog 281 #[.pointer (some ⟨gB,0,none⟩)] w (anV base gB s xs sv w (.int .u8 ((kF s b).2.toNat:Int)) (kF s b).1):=by
 replace hb:=ζ hb;have hb0:=hb;have sZ:Hid (∀t∈[358],t∈[358]):=ζ (fun _ h=>h);have hG:=ζ (ay.refl [358] base w);replace h:=ζ h;cases hp:Bf s b with
 | none=>
  have hsg:kF s b = (bM 2 (aK b),0):=by unfold kF;rw[hp];rfl
  have oQ:wG s b =.tuple #[.int .u8 0,.bool false]:=by simp only[wG,hp]
  replace hsg:=ζ hsg;clear hp;go_enter Tryz.func281,Tryz.ntmps281
  go_wp2_with fail;refine (eH h.o).mono ?_;rintro e w1 ⟨rfl,dh⟩;replace h:=ζ (h.o.grows dh);replace hG:=ζ (hG.o.trans (ay.grows dh hb.o));replace hb:=ζ (Nat.le_trans hb.o dh.size);(try replace aI:=ζ (aI.o.grows dh))
  (try replace hX:=ζ (hX.o.grows dh))
  (try replace hP:=ζ (hP.o.grows dh))
  (try replace hR:=ζ (hR.o.grows dh))
  clear dh;rw[oQ];clear oQ;have c1:w1.cell? ⟨gB,1,none⟩=some (.int .i64 ((b).at_:Int)):=(h.o.blk.cell 1).trans rfl;have f1:=h.o.blk.frozen 1;have l1:=h.o.blk.lt;have i1: -9223372036854775808≤((b).at_:Int)+1∧((b).at_:Int)+1≤9223372036854775807:=by first | omega | (simp only[aK];omega)
  have hA:=ζ h.o.Nh;have nC:=ζ (hG.o.trans ((ay.own h.o (aj w1 ⟨gB,1,none⟩ (.int .i64 (((b).at_:Int)+1)))).mono sZ.o));have hsz:Hid ((w1.setCell ⟨gB,1,none⟩ (.int .i64 (((b).at_:Int)+1))).heap.size=w1.heap.size):=ζ σ;go_wp2_with fail;(try replace aI:=ζ (aI.o.tk (ay.own h.o (aj w1 ⟨gB,1,none⟩ (.int .i64 (((b).at_:Int)+1)))) δ))
  (try replace hX:=ζ ((ay.own h.o (aj w1 ⟨gB,1,none⟩ (.int .i64 (((b).at_:Int)+1)))).blk hX.o δ))
  (try replace hP:=ζ ((ay.own h.o (aj w1 ⟨gB,1,none⟩ (.int .i64 (((b).at_:Int)+1)))).blk hP.o δ))
  (try replace hR:=ζ ((ay.own h.o (aj w1 ⟨gB,1,none⟩ (.int .i64 (((b).at_:Int)+1)))).blk hR.o δ))
  clear c1 f1 l1 i1 h hG;generalize w1.setCell ⟨gB,1,none⟩ (.int .i64 (((b).at_:Int)+1))=w2 at *
  have h:=hA;have hG:=nC;clear hA nC;replace hb:=ζ (Nat.le_trans hb0.o hG.o.size);refine (jX h.o).mono ?_;rintro e w3 ⟨rfl,avI,ug⟩;(try replace aI:=ζ (aI.o.tk (ay.own h.o ug) δ))
  (try replace hX:=ζ ((ay.own h.o ug).blk hX.o δ))
  (try replace hP:=ζ ((ay.own h.o ug).blk hP.o δ))
  (try replace hR:=ζ ((ay.own h.o ug).blk hR.o δ))
  replace hG:=ζ (hG.o.trans ((ay.own h.o ug).mono sZ.o));replace h:=ζ avI;replace hb:=ζ (Nat.le_trans hb0.o hG.o.size);clear avI ug;go_wp2_with fail;go_ret;rw[hsg.o];exact⟨rfl,h.o,hG.o⟩
 | some c=>
  have qB:=c.toNat_lt;by_cases hc:c = 92
  ·subst hc;have oQ:wG s b =.tuple #[.int .u8 92,.bool true]:=by simp only[wG,hp];rfl
   cases hq:Bf s (aK b) with
   | none=>
    have hsg:kF s b = (bM 2 (aK (aK b)),0):=by unfold kF;rw[hp,if_pos rfl,hq]
    have hqv:wG s (aK b)=.tuple #[.int .u8 0,.bool false]:=by simp only[wG,hq]
    replace hsg:=ζ hsg;clear hp hq qB;go_enter Tryz.func281,Tryz.ntmps281
    go_wp2_with fail;refine (eH h.o).mono ?_;rintro e w1 ⟨rfl,dh⟩;replace h:=ζ (h.o.grows dh);replace hG:=ζ (hG.o.trans (ay.grows dh hb.o));replace hb:=ζ (Nat.le_trans hb.o dh.size);(try replace aI:=ζ (aI.o.grows dh))
    (try replace hX:=ζ (hX.o.grows dh))
    (try replace hP:=ζ (hP.o.grows dh))
    (try replace hR:=ζ (hR.o.grows dh))
    clear dh;rw[oQ];clear oQ;have c1:w1.cell? ⟨gB,1,none⟩=some (.int .i64 ((b).at_:Int)):=(h.o.blk.cell 1).trans rfl;have f1:=h.o.blk.frozen 1;have l1:=h.o.blk.lt;have i1: -9223372036854775808≤((b).at_:Int)+1∧((b).at_:Int)+1≤9223372036854775807:=by first | omega | (simp only[aK];omega)
    have hA:=ζ h.o.Nh;have nC:=ζ (hG.o.trans ((ay.own h.o (aj w1 ⟨gB,1,none⟩ (.int .i64 (((b).at_:Int)+1)))).mono sZ.o));have hsz:Hid ((w1.setCell ⟨gB,1,none⟩ (.int .i64 (((b).at_:Int)+1))).heap.size=w1.heap.size):=ζ σ;go_wp2_with fail;(try replace aI:=ζ (aI.o.tk (ay.own h.o (aj w1 ⟨gB,1,none⟩ (.int .i64 (((b).at_:Int)+1)))) δ))
    (try replace hX:=ζ ((ay.own h.o (aj w1 ⟨gB,1,none⟩ (.int .i64 (((b).at_:Int)+1)))).blk hX.o δ))
    (try replace hP:=ζ ((ay.own h.o (aj w1 ⟨gB,1,none⟩ (.int .i64 (((b).at_:Int)+1)))).blk hP.o δ))
    (try replace hR:=ζ ((ay.own h.o (aj w1 ⟨gB,1,none⟩ (.int .i64 (((b).at_:Int)+1)))).blk hR.o δ))
    clear c1 f1 l1 i1 h hG;generalize w1.setCell ⟨gB,1,none⟩ (.int .i64 (((b).at_:Int)+1))=w2 at *
    have h:=hA;have hG:=nC;clear hA nC;replace hb:=ζ (Nat.le_trans hb0.o hG.o.size);go_wp2_with fail;refine (eH h.o).mono ?_;rintro e w3 ⟨rfl,ug⟩;replace h:=ζ (h.o.grows ug);replace hG:=ζ (hG.o.trans (ay.grows ug hb.o));replace hb:=ζ (Nat.le_trans hb.o ug.size);(try replace aI:=ζ (aI.o.grows ug))
    (try replace hX:=ζ (hX.o.grows ug))
    (try replace hP:=ζ (hP.o.grows ug))
    (try replace hR:=ζ (hR.o.grows ug))
    clear ug;rw[hqv];clear hqv;have c1:w3.cell? ⟨gB,1,none⟩=some (.int .i64 (((aK b)).at_:Int)):=(h.o.blk.cell 1).trans rfl;have f1:=h.o.blk.frozen 1;have l1:=h.o.blk.lt;have i1: -9223372036854775808≤(((aK b)).at_:Int)+1∧(((aK b)).at_:Int)+1≤9223372036854775807:=by first | omega | (simp only[aK];omega)
    have hA:=ζ h.o.Nh;have nC:=ζ (hG.o.trans ((ay.own h.o (aj w3 ⟨gB,1,none⟩ (.int .i64 ((((aK b)).at_:Int)+1)))).mono sZ.o));have hsz:Hid ((w3.setCell ⟨gB,1,none⟩ (.int .i64 ((((aK b)).at_:Int)+1))).heap.size=w3.heap.size):=ζ σ;go_wp2_with fail;(try replace aI:=ζ (aI.o.tk (ay.own h.o (aj w3 ⟨gB,1,none⟩ (.int .i64 ((((aK b)).at_:Int)+1)))) δ))
    (try replace hX:=ζ ((ay.own h.o (aj w3 ⟨gB,1,none⟩ (.int .i64 ((((aK b)).at_:Int)+1)))).blk hX.o δ))
    (try replace hP:=ζ ((ay.own h.o (aj w3 ⟨gB,1,none⟩ (.int .i64 ((((aK b)).at_:Int)+1)))).blk hP.o δ))
    (try replace hR:=ζ ((ay.own h.o (aj w3 ⟨gB,1,none⟩ (.int .i64 ((((aK b)).at_:Int)+1)))).blk hR.o δ))
    clear c1 f1 l1 i1 h hG;generalize w3.setCell ⟨gB,1,none⟩ (.int .i64 ((((aK b)).at_:Int)+1))=w4 at *
    have h:=hA;have hG:=nC;clear hA nC;replace hb:=ζ (Nat.le_trans hb0.o hG.o.size);refine (jX h.o).mono ?_;rintro e w5 ⟨rfl,ajP,JI⟩;(try replace aI:=ζ (aI.o.tk (ay.own h.o JI) δ))
    (try replace hX:=ζ ((ay.own h.o JI).blk hX.o δ))
    (try replace hP:=ζ ((ay.own h.o JI).blk hP.o δ))
    (try replace hR:=ζ ((ay.own h.o JI).blk hR.o δ))
    replace hG:=ζ (hG.o.trans ((ay.own h.o JI).mono sZ.o));replace h:=ζ ajP;replace hb:=ζ (Nat.le_trans hb0.o hG.o.size);clear ajP JI;go_wp2_with fail;go_ret;rw[hsg.o];exact⟨rfl,h.o,hG.o⟩
   | some d=>
    have hsg:kF s b = (aK (aK b),d):=by unfold kF;rw[hp,if_pos rfl,hq]
    have hqv:wG s (aK b)=.tuple #[.int .u8 (d.toNat:Int),.bool true]:=by simp only[wG,hq]
    replace hsg:=ζ hsg;clear hp hq qB;go_enter Tryz.func281,Tryz.ntmps281
    go_wp2_with fail;refine (eH h.o).mono ?_;rintro e w1 ⟨rfl,dh⟩;replace h:=ζ (h.o.grows dh);replace hG:=ζ (hG.o.trans (ay.grows dh hb.o));replace hb:=ζ (Nat.le_trans hb.o dh.size);(try replace aI:=ζ (aI.o.grows dh))
    (try replace hX:=ζ (hX.o.grows dh))
    (try replace hP:=ζ (hP.o.grows dh))
    (try replace hR:=ζ (hR.o.grows dh))
    clear dh;rw[oQ];clear oQ;have c1:w1.cell? ⟨gB,1,none⟩=some (.int .i64 ((b).at_:Int)):=(h.o.blk.cell 1).trans rfl;have f1:=h.o.blk.frozen 1;have l1:=h.o.blk.lt;have i1: -9223372036854775808≤((b).at_:Int)+1∧((b).at_:Int)+1≤9223372036854775807:=by first | omega | (simp only[aK];omega)
    have hA:=ζ h.o.Nh;have nC:=ζ (hG.o.trans ((ay.own h.o (aj w1 ⟨gB,1,none⟩ (.int .i64 (((b).at_:Int)+1)))).mono sZ.o));have hsz:Hid ((w1.setCell ⟨gB,1,none⟩ (.int .i64 (((b).at_:Int)+1))).heap.size=w1.heap.size):=ζ σ;go_wp2_with fail;(try replace aI:=ζ (aI.o.tk (ay.own h.o (aj w1 ⟨gB,1,none⟩ (.int .i64 (((b).at_:Int)+1)))) δ))
    (try replace hX:=ζ ((ay.own h.o (aj w1 ⟨gB,1,none⟩ (.int .i64 (((b).at_:Int)+1)))).blk hX.o δ))
    (try replace hP:=ζ ((ay.own h.o (aj w1 ⟨gB,1,none⟩ (.int .i64 (((b).at_:Int)+1)))).blk hP.o δ))
    (try replace hR:=ζ ((ay.own h.o (aj w1 ⟨gB,1,none⟩ (.int .i64 (((b).at_:Int)+1)))).blk hR.o δ))
    clear c1 f1 l1 i1 h hG;generalize w1.setCell ⟨gB,1,none⟩ (.int .i64 (((b).at_:Int)+1))=w2 at *
    have h:=hA;have hG:=nC;clear hA nC;replace hb:=ζ (Nat.le_trans hb0.o hG.o.size);go_wp2_with fail;refine (eH h.o).mono ?_;rintro e w3 ⟨rfl,ug⟩;replace h:=ζ (h.o.grows ug);replace hG:=ζ (hG.o.trans (ay.grows ug hb.o));replace hb:=ζ (Nat.le_trans hb.o ug.size);(try replace aI:=ζ (aI.o.grows ug))
    (try replace hX:=ζ (hX.o.grows ug))
    (try replace hP:=ζ (hP.o.grows ug))
    (try replace hR:=ζ (hR.o.grows ug))
    clear ug;rw[hqv];clear hqv;have c1:w3.cell? ⟨gB,1,none⟩=some (.int .i64 (((aK b)).at_:Int)):=(h.o.blk.cell 1).trans rfl;have f1:=h.o.blk.frozen 1;have l1:=h.o.blk.lt;have i1: -9223372036854775808≤(((aK b)).at_:Int)+1∧(((aK b)).at_:Int)+1≤9223372036854775807:=by first | omega | (simp only[aK];omega)
    have hA:=ζ h.o.Nh;have nC:=ζ (hG.o.trans ((ay.own h.o (aj w3 ⟨gB,1,none⟩ (.int .i64 ((((aK b)).at_:Int)+1)))).mono sZ.o));have hsz:Hid ((w3.setCell ⟨gB,1,none⟩ (.int .i64 ((((aK b)).at_:Int)+1))).heap.size=w3.heap.size):=ζ σ;go_wp2_with fail;(try replace aI:=ζ (aI.o.tk (ay.own h.o (aj w3 ⟨gB,1,none⟩ (.int .i64 ((((aK b)).at_:Int)+1)))) δ))
    (try replace hX:=ζ ((ay.own h.o (aj w3 ⟨gB,1,none⟩ (.int .i64 ((((aK b)).at_:Int)+1)))).blk hX.o δ))
    (try replace hP:=ζ ((ay.own h.o (aj w3 ⟨gB,1,none⟩ (.int .i64 ((((aK b)).at_:Int)+1)))).blk hP.o δ))
    (try replace hR:=ζ ((ay.own h.o (aj w3 ⟨gB,1,none⟩ (.int .i64 ((((aK b)).at_:Int)+1)))).blk hR.o δ))
    clear c1 f1 l1 i1 h hG;generalize w3.setCell ⟨gB,1,none⟩ (.int .i64 ((((aK b)).at_:Int)+1))=w4 at *
    have h:=hA;have hG:=nC;clear hA nC;replace hb:=ζ (Nat.le_trans hb0.o hG.o.size);go_ret;rw[hsg.o];exact⟨rfl,h.o,hG.o⟩
  ·have hci:¬(c.toNat:Int)=92:=fun e=>hc (UInt8.toNat_inj.1 (by show c.toNat=92;omega))
   have oQ:wG s b =.tuple #[.int .u8 (c.toNat:Int),.bool true]:=by simp only[wG,hp]
   have hsg:kF s b = (aK b,c):=by unfold kF;rw[hp,if_neg (by simpa using hc)]
   replace hsg:=ζ hsg;clear hp hc qB;go_enter Tryz.func281,Tryz.ntmps281
   go_wp2_with fail;refine (eH h.o).mono ?_;rintro e w1 ⟨rfl,dh⟩;replace h:=ζ (h.o.grows dh);replace hG:=ζ (hG.o.trans (ay.grows dh hb.o));replace hb:=ζ (Nat.le_trans hb.o dh.size);(try replace aI:=ζ (aI.o.grows dh))
   (try replace hX:=ζ (hX.o.grows dh))
   (try replace hP:=ζ (hP.o.grows dh))
   (try replace hR:=ζ (hR.o.grows dh))
   clear dh;rw[oQ];clear oQ;have c1:w1.cell? ⟨gB,1,none⟩=some (.int .i64 ((b).at_:Int)):=(h.o.blk.cell 1).trans rfl;have f1:=h.o.blk.frozen 1;have l1:=h.o.blk.lt;have i1: -9223372036854775808≤((b).at_:Int)+1∧((b).at_:Int)+1≤9223372036854775807:=by first | omega | (simp only[aK];omega)
   have hA:=ζ h.o.Nh;have nC:=ζ (hG.o.trans ((ay.own h.o (aj w1 ⟨gB,1,none⟩ (.int .i64 (((b).at_:Int)+1)))).mono sZ.o));have hsz:Hid ((w1.setCell ⟨gB,1,none⟩ (.int .i64 (((b).at_:Int)+1))).heap.size=w1.heap.size):=ζ σ;go_wp2_with fail;(try replace aI:=ζ (aI.o.tk (ay.own h.o (aj w1 ⟨gB,1,none⟩ (.int .i64 (((b).at_:Int)+1)))) δ))
   (try replace hX:=ζ ((ay.own h.o (aj w1 ⟨gB,1,none⟩ (.int .i64 (((b).at_:Int)+1)))).blk hX.o δ))
   (try replace hP:=ζ ((ay.own h.o (aj w1 ⟨gB,1,none⟩ (.int .i64 (((b).at_:Int)+1)))).blk hP.o δ))
   (try replace hR:=ζ ((ay.own h.o (aj w1 ⟨gB,1,none⟩ (.int .i64 (((b).at_:Int)+1)))).blk hR.o δ))
   clear c1 f1 l1 i1 h hG;generalize w1.setCell ⟨gB,1,none⟩ (.int .i64 (((b).at_:Int)+1))=w2 at *
   have h:=hA;have hG:=nC;clear hA nC;replace hb:=ζ (Nat.le_trans hb0.o hG.o.size);go_ret;rw[hsg.o];exact⟨rfl,h.o,hG.o⟩
theorem WM {w:World} {g:Nat} {ws:List Nat} {u:FrameMode} (h:fB w g ws) :
 CallsD Tryz.prog 277 #[.pointer (some ⟨g,0,none⟩)] u w fun e u' w'=>u'=u∧(e =.returned (.tuple #[])∧fB w' g (n_ ws)∧w.grownBy w' (some g)):=by
 have hl:g < w.heap.size:=World.block_lt_of_cell? w _ (h.cell (i:=0) (List.getElem?_eq_getElem (by rw[h.2.1];omega)));have hwl:=ζ h.2.1;replace h:=ζ h;go_enter_d Tryz.func277,Tryz.ntmps277
 go_wp2;go_loopw [3] (fun i wr=>∃k:Nat,k≤4∧i =.int .i64 (k:Int)∧fB wr g (qE k ws)∧w.grownBy wr (some g)) (fun i _=>4-(intOf i).toNat)
 case atStart=>exact⟨0,ω,rfl,by simpa[qE] using h.o,World.grownBy.refl _ _⟩
 case round=>
  obtain⟨k,hk,rfl,hs,hg⟩:=hrel;by_cases hlt:k<4
  ·obtain⟨x,hx⟩:∃x,ws[k]? = some x:=⟨_,List.getElem?_eq_getElem (by rw[hwl.o];omega)⟩;have Ce:=Ko hx;rw[←NC] at hx;have JB:=hs.2.2 x (List.mem_of_getElem? hx);have c0:=hs.cell hx;have hlw:=World.block_lt_of_cell? wr _ c0;simp only at hlw;have kY:(k:Int)<4:=ω;have abd:((18446744073709551615-x:Nat):Int)=18446744073709551615-(x:Int):=ω;have KG:18446744073709551615-x < 18446744073709551616:=ω;replace Ce:=ζ Ce;replace hs:=ζ hs;replace hk:=ζ hk;replace abd:=ζ abd;have hX:bits BinOp.xor IntKind.u64 (if IntKind.u64.signed=true then -1 else IntKind.u64.max) (x:Int)=((18446744073709551615-x:Nat):Int):=by
    rw[←aci JB];exact u64_xor_nat 18446744073709551615 x δ JB
   replace hX:=ζ hX;go_wp2;refine aG κ ?_;refine rK (.range 10) 1 ?_;iterate 10 refine aC ?_
   refine aB ?_;refine d_ (i:=10) rfl κ κ (fun wN hN hS K' hK=> ?_);clear hS;have hsN:fB wN g _:=⟨(hN.below.block g hlw).trans hs.o.1,hs.o.2⟩;have c0N:=hsN.cell hx;have f0N:=hsN.1.frozen k;have rlN:=World.block_lt_of_cell? wN _ c0N;simp only at rlN;have hput:=hsN.put (i:=k) KG;rw[←Ce.o] at hput;replace hput:=ζ hput;have hgN:Hid (w.grownBy _ (some g)):=ζ ((hg.trans (hN.uw (some g))).trans (aj wN ⟨g,k,none⟩ (.int .u64 ((18446744073709551615-x:Nat):Int))));clear hsN;go_simp;refine hK.o _ _ ?_;clear hK;go_wp2;go_roundw
   case rel=>exact⟨k+1,ω,by simp,by rw[hX.o];exact hput.o,by rw[hX.o];exact hgN.o⟩
   case measure=>exact ψ
  ·have auA:¬(k:Int)<4:=ω;have rX:k=4:=ω;replace hk:=ζ hk;replace hlt:=ζ hlt;replace rX:=ζ rX;go_wp2;go_end0;refine⟨rfl,?_,hg⟩;have:qE k ws=n_ ws:=by
    rw[rX.o,qE,n_,List.take_of_length_le (by rw[hwl.o];omega),List.drop_of_length_le (by rw[hwl.o];omega),List.append_nil]
   rw[←this];exact hs
def TC:List TypeId:=[358,385]
theorem jP.uO {w w':World} {base gB gs:Nat} {s:List UInt8} {b:PB} {xs:List xH} {sv:Value} {ws:List Nat} (h:jP w base gB s b xs sv) (hS:fB w gs ws) (hf:∀x∈xs,x.pv≠.pointer (some ⟨gs,0,none⟩)) (hg:w.grownBy w' (some gs)):jP w' base gB s b xs sv:=by
 refine⟨(hg.block gB h.blk.lt (fun e=> ?_)).trans h.blk,h.le,rD h.own hS.1 δ hg,h.len,?_,h.apart⟩
 ·injection e with e
  subst e;have h1:=h.blk;have h2:=hS.1;unfold aF at h1 h2;rw[h2] at h1;simp only[Option.some.injEq,Obj.cells.injEq] at h1;exact absurd h1.2.1 δ
 ·intro i x y h1 h2;obtain⟨a1,a2,a3⟩:=h.st i x y h1 h2;refine⟨a1,?_,rD a3 hS.1 δ hg⟩;generalize ho:y.set=o at *
  cases o with
  | none=>exact a2
  | some us=>
   obtain⟨g,e1,e2,e3⟩:=a2;refine⟨g,e1,e2,(hg.block g e3.1.lt (fun e=> ?_)).trans e3.1,e3.2⟩;injection e with e
   subst e;exact hf x (List.mem_of_getElem? h1) e1
theorem fB.tk {T:List TypeId} {base:Nat} {w w':World} {g:Nat} {ws:List Nat} (h:fB w g ws) (hk:ay T base w w') (ht:385∉T):fB w' g ws:=⟨hk.blk h.1 ht,h.2⟩
theorem ay.set {w w':World} {base g:Nat} {ws:List Nat} (h:fB w g ws) (hb:base≤g) (hg:w.grownBy w' (some g)):ay TC base w w':=
 ay.row hg (by have:=h.1.lt;omega) (fun m hm=>by injection hm with hm;subst hm;exact⟨hb,_,_,by simp[TC],h.1⟩)
theorem adb {base gB gs f0:Nat} {s:List UInt8} {b:PB} {ws:List Nat} {xs:List xH} {sv:Value} {R:PB×List Nat} {ds:List Deferred} {w0 w:World} {Q0:Exit→Act→World→Prop} {x2 x3 x4 x5 x7 x8 x9 Fq ED Bd Hf EC IX Dj GU GR DV GN DT Ez Ey Ew Di Dh Df DR DN DL DK DJ DI DF DC Dz Dy Dx Dw GK Eu Et Es Ep Eo En Em Ej Ei Eh Ef Ee Ed He GI Fp Dv Ec Eb G_ G9 G8 GH Gz Gy Gx Fj Fh Fg Fe Gw Gv Gu Fb Fa E_ E8 E5 EZ EY EX EW IW IV IU Gt EU Ea D_ D9 D8 D7 Jd Jc G7 G6 Np KZ KY sV sU sS sQ sO sN sK sJ sH sG sF sD:Value}
 (h0:Hid (jP w base gB s b xs sv)) (aoa:Hid (fB w gs ws)) (ny:Hid (base≤gs)) (zY:Hid (∀x∈xs,x.pv≠.pointer (some ⟨gs,0,none⟩))) (hb0:Hid (base≤w0.heap.size)) (Vw:Hid (ay TC base w0 w)) (Tc:Hid (s.length≤f0+b.at_)) (hR:Hid (ou s f0 true b ws=R)) (hW0:Hid (WP s 2 b)) (uf:s.length≤100)
 (hQ0:∀c a d v w,Q0 (.panic c) (Act.put a d v) w→Q0 (.panic c) a w)
 (oK:∀(u6 u7 u8 u9 u10 u11 u12 u28 u29 u30 u31 u32 u33 u34 u35 u36 u37 u38 u39 u40 u41 u42 u43 u44 u45 u46 u47 u48 u49 u50 u51 u52 u53 u54 u55 u56 u57 u58 u59 u60 u61 u62 u63 u64 u65 u66 u67 u68 u69 u70 u71 u72 u73 u74 u75 u76 u77 u78 u79 u80 u81 u82 u83 u84 u85 u86 u87 u88 u89 u90 u91 u92 u93 u94 u95 u96 u97 u98 u99 UC UA Uz Uy Ux Uw Uu Ut Us Ur Uo Un:Value) (wr:World),Hid (jP wr base gB s R.1 xs sv)∧Hid (fB wr gs R.2)∧Hid (ay TC base w0 wr)→Q0 .ret ⟨((.pointer (some ⟨gB,0,none⟩))::(.pointer (some ⟨gs,0,none⟩))::x2::x3::x4::x5::u6::u7::u8::u9::u10::u11::u12::Hf::EC::IX::Dj::GU::GR::DV::GN::DT::Ez::Ey::Ew::Di::Dh::Df::u28::u29::u30::u31::u32::u33::u34::u35::u36::u37::u38::u39::u40::u41::u42::u43::u44::u45::u46::u47::u48::u49::u50::u51::u52::u53::u54::u55::u56::u57::u58::u59::u60::u61::u62::u63::u64::u65::u66::u67::u68::u69::u70::u71::u72::u73::u74::u75::u76::u77::u78::u79::u80::u81::u82::u83::u84::u85::u86::u87::u88::u89::u90::u91::u92::u93::u94::u95::u96::u97::u98::u99::UC::UA::Uz::Uy::Ux::Uw::Uu::Ut::Us::Ur::Uo::Un::[]).toArray,ds⟩ wr) :
 Code.wp Tryz.prog (zQ Tryz.f276 0) Q0 ⟨((.pointer (some ⟨gB,0,none⟩))::(.pointer (some ⟨gs,0,none⟩))::x2::x3::x4::x5::(.bool true)::x7::x8::x9::Fq::ED::Bd::Hf::EC::IX::Dj::GU::GR::DV::GN::DT::Ez::Ey::Ew::Di::Dh::Df::DR::DN::DL::DK::DJ::DI::DF::DC::Dz::Dy::Dx::Dw::GK::Eu::Et::Es::Ep::Eo::En::Em::Ej::Ei::Eh::Ef::Ee::Ed::He::GI::Fp::Dv::Ec::Eb::G_::G9::G8::GH::Gz::Gy::Gx::Fj::Fh::Fg::Fe::Gw::Gv::Gu::Fb::Fa::E_::E8::E5::EZ::EY::EX::EW::IW::IV::IU::Gt::EU::Ea::D_::D9::D8::D7::Jd::Jc::G7::G6::Np::KZ::KY::sV::sU::sS::sQ::sO::sN::sK::sJ::sH::sG::sF::sD::[]).toArray,ds⟩ w:=by
 conv=>arg 2;whnf
 have sZ:Hid (∀t∈[358],t∈TC):=ζ (by intro t ht;simp[TC] at *;exact .inl ht);go_loopw [6] (fun i wr=>∃(f:Nat) (first:Bool) (bq:PB) (wq:List Nat),i =.bool first∧Hid (s.length≤f + bq.at_)∧Hid (ou s f first bq wq=R)∧Hid (WP s 2 bq)∧Hid (jP wr base gB s bq xs sv)∧Hid (fB wr gs wq)∧Hid (ay TC base w0 wr)) (fun _ wr=>s.length+5-(match wr.cell? ⟨gB,1,none⟩ with | some v=>(intOf v).toNat | none=>0))
 case atStart=>exact⟨f0,true,b,ws,rfl,Tc,hR,hW0,h0,aoa,Vw⟩
 case round=>
  obtain⟨f,first,bq,wq,rfl,hf,jr,hW,h,aI,hG⟩:=hrel;clear hR h0 aoa Vw Tc hW0;have hb:=ζ (Nat.le_trans hb0.o hG.o.size);have hstep:=YB (first:=first) (ws:=wq) hf.o;rw[jr.o] at hstep;have Bg:Hid (∀(w':World) (b':PB),jP w' base gB s b' xs sv→(match w'.cell? ⟨gB,1,none⟩ with | some v=>(intOf v).toNat | none=>0)=b'.at_):=ζ (fun w' b' hh=>by
   have e:w'.cell? ⟨gB,1,none⟩=some (.int .i64 (b'.at_:Int)):=(hh.blk.cell 1).trans rfl;rw[e];simp[intOf])
  have Ib:=ζ (Bg.o _ _ h.o);go_wp2_with fail;refine (eH h.o).mono ?_;rintro e w1 ⟨rfl,dh⟩;replace h:=ζ (h.o.grows dh);replace hG:=ζ (hG.o.trans (ay.grows dh hb.o));replace hb:=ζ (Nat.le_trans hb.o dh.size);(try replace aI:=ζ (aI.o.grows dh))
  (try replace hX:=ζ (hX.o.grows dh))
  (try replace hP:=ζ (hP.o.grows dh))
  (try replace hR:=ζ (hR.o.grows dh))
  clear dh;cases hp:Bf s bq with
  | none=>
   simp only[wG,hp];rw[hp] at hstep;replace hstep:=ζ hstep;clear hp;go_wp2_with fail;refine (jX h.o).mono ?_;rintro e w2 ⟨rfl,ajQ,JJ⟩;(try replace aI:=ζ (aI.o.tk (ay.own h.o JJ) δ))
   (try replace hX:=ζ ((ay.own h.o JJ).blk hX.o δ))
   (try replace hP:=ζ ((ay.own h.o JJ).blk hP.o δ))
   (try replace hR:=ζ ((ay.own h.o JJ).blk hR.o δ))
   replace hG:=ζ (hG.o.trans ((ay.own h.o JJ).mono sZ.o));replace h:=ζ ajQ;replace hb:=ζ (Nat.le_trans hb0.o hG.o.size);clear ajQ JJ;go_wp2;rw[hstep.o];exact⟨h,aI,hG⟩
  | some d=>
   simp only[wG,hp];rw[hp] at hstep;have hlen:=ζ (iQ hp).2.1;clear hp;by_cases hd:d = 93
   ·subst hd;cases first with
    | true=>
     simp only[and_self,if_true] at hstep;replace hstep:=ζ hstep;go_wp2_with fail;refine (jX h.o).mono ?_;rintro e w2 ⟨rfl,ajQ,JJ⟩;(try replace aI:=ζ (aI.o.tk (ay.own h.o JJ) δ))
     (try replace hX:=ζ ((ay.own h.o JJ).blk hX.o δ))
     (try replace hP:=ζ ((ay.own h.o JJ).blk hP.o δ))
     (try replace hR:=ζ ((ay.own h.o JJ).blk hR.o δ))
     replace hG:=ζ (hG.o.trans ((ay.own h.o JJ).mono sZ.o));replace h:=ζ ajQ;replace hb:=ζ (Nat.le_trans hb0.o hG.o.size);clear ajQ JJ;go_wp2;rw[hstep.o];exact⟨h,aI,hG⟩
    | false=>
     simp only[Bool.false_eq_true,and_false,if_false,if_true] at hstep;replace hstep:=ζ hstep;have ha:bq.at_<100:=by have:=hlen.o;omega
     have c1:w1.cell? ⟨gB,1,none⟩=some (.int .i64 ((bq).at_:Int)):=(h.o.blk.cell 1).trans rfl;have f1:=h.o.blk.frozen 1;have l1:=h.o.blk.lt;have i1: -9223372036854775808≤((bq).at_:Int)+1∧((bq).at_:Int)+1≤9223372036854775807:=by first | omega | (simp only[aK];omega)
     have hA:=ζ h.o.Nh;have nC:=ζ (hG.o.trans ((ay.own h.o (aj w1 ⟨gB,1,none⟩ (.int .i64 (((bq).at_:Int)+1)))).mono sZ.o));have hsz:Hid ((w1.setCell ⟨gB,1,none⟩ (.int .i64 (((bq).at_:Int)+1))).heap.size=w1.heap.size):=ζ σ;go_wp2_with fail;(try replace aI:=ζ (aI.o.tk (ay.own h.o (aj w1 ⟨gB,1,none⟩ (.int .i64 (((bq).at_:Int)+1)))) δ))
     (try replace hX:=ζ ((ay.own h.o (aj w1 ⟨gB,1,none⟩ (.int .i64 (((bq).at_:Int)+1)))).blk hX.o δ))
     (try replace hP:=ζ ((ay.own h.o (aj w1 ⟨gB,1,none⟩ (.int .i64 (((bq).at_:Int)+1)))).blk hP.o δ))
     (try replace hR:=ζ ((ay.own h.o (aj w1 ⟨gB,1,none⟩ (.int .i64 (((bq).at_:Int)+1)))).blk hR.o δ))
     clear c1 f1 l1 i1 h hG;generalize w1.setCell ⟨gB,1,none⟩ (.int .i64 (((bq).at_:Int)+1))=w2 at *
     have h:=hA;have hG:=nC;clear hA nC;replace hb:=ζ (Nat.le_trans hb0.o hG.o.size);rw[hstep.o];exact⟨h,aI,hG⟩
   ·have hdi:¬(d.toNat:Int)=93:=fun e=>hd (UInt8.toNat_inj.1 (by show d.toNat=93;omega))
    simp only[hd,false_and,if_false] at hstep;clear hd;have auE:=hlen;have ayQ:=Hw hlen.o;go_wp2_with fail;refine (WZ h.o hb.o (by have:=hlen.o;omega)).mono ?_;rintro e w3 ⟨rfl,h3,hg3⟩;replace aI:=ζ (aI.o.tk hg3 δ);replace hG:=ζ (hG.o.trans (hg3.mono sZ.o));replace hb:=ζ (Nat.le_trans hb0.o hG.o.size);replace h:=ζ h3;clear h3 hg3;generalize kF s bq=r at *
    obtain⟨_,hWr,apT,abo⟩:=ayQ;replace hWr:=ζ hWr;replace abo:=ζ abo;clear apT hdi hlen;have hlen:Hid (bq.at_<s.length):=auE;have har:r.1.at_<1000:=by have:=hWr.o.1;omega
    cases hp:Bf s r.1 with
    | none=>
     have hrg:kV s r = r:=by unfold kV;rw[hp];simp
     have oQ:wG s r.1=.tuple #[.int .u8 0,.bool false]:=by simp only[wG,hp]
     rw[hrg] at hstep;clear hp hrg;go_wp2_with fail;refine (eH h.o).mono ?_;rintro e w4 ⟨rfl,dP⟩;replace h:=ζ (h.o.grows dP);replace hG:=ζ (hG.o.trans (ay.grows dP hb.o));replace hb:=ζ (Nat.le_trans hb.o dP.size);(try replace aI:=ζ (aI.o.grows dP))
     (try replace hX:=ζ (hX.o.grows dP))
     (try replace hP:=ζ (hP.o.grows dP))
     (try replace hR:=ζ (hR.o.grows dP))
     clear dP;rw[oQ];clear oQ;go_wp2_with fail;refine aG κ ?_;refine rK (.range 31) 0 ?_;iterate 31 refine aC ?_
     refine aB ?_;refine aJ κ (fun wN hN hS=> ?_);replace h:=ζ (h.o.grows hN);replace aI:=ζ (aI.o.grows hN);replace hG:=ζ (hG.o.trans (ay.grows hN hb.o));replace hb:=ζ (Nat.le_trans hb.o hN.size);clear hN hS;have V6:=hWr;have z_:=abo;rw[if_neg (Nat.lt_irrefl _)] at hstep;replace hstep:=ζ hstep;go_wp2_with fail;refine (kL (lo:=(r).2.toNat) (hi:=(r).2.toNat) aI.o (by have:=UInt8.toNat_lt (r).2;omega) (by have:=UInt8.toNat_lt (r).2;omega)).mono ?_;rintro e w9 ⟨rfl,B_,iG⟩;replace h:=ζ (h.o.uO aI.o zY.o iG);replace hG:=ζ (hG.o.trans (ay.set aI.o ny.o iG));replace aI:=ζ B_;clear B_ iG;go_wp2;go_roundw
     case rel=>exact⟨f - 1,false,(r).1,_,rfl,ζ (by have:=hf.o;have:=z_.o;(try rw[dS]);omega),ζ hstep.o.symm,V6,h,aI,hG⟩
     case measure=>rw[Bg.o _ _ h.o,Ib.o];have:=z_.o;have:=hlen.o;(try rw[dS]);omega
    | some c=>
     have oQ:wG s r.1=.tuple #[.int .u8 (c.toNat:Int),.bool true]:=by simp only[wG,hp]
     by_cases hc:c = 45
     ·subst hc;have oQ:wG s r.1=.tuple #[.int .u8 45,.bool true]:=oQ;have c0:∀w',jP w' base gB s r.1 xs sv→w'.cell? ⟨gB,0,none⟩=some (.string ⟨s.toArray⟩):=fun w' hh=>(hh.blk.cell 0).trans rfl
      have c1:∀w',jP w' base gB s r.1 xs sv→w'.cell? ⟨gB,1,none⟩=some (.int .i64 (r.1.at_:Int)):=fun w' hh=>(hh.blk.cell 1).trans rfl
      replace c0:=ζ c0;replace c1:=ζ c1;by_cases hl:r.1.at_+1<s.length
      ·obtain⟨e,he⟩:∃e,s[r.1.at_+1]? = some e:=⟨_,List.getElem?_eq_getElem hl⟩;have hli:(r.1.at_:Int)+1<(s.length:Int):=ω;have EL:∀h:r.1.at_+1<(⟨s.toArray⟩:ByteArray).size,(⟨s.toArray⟩:ByteArray)[r.1.at_+1]'h = e:=fun h=>by
        show s.toArray[r.1.at_+1]=e
        rw[List.getElem_toArray];exact (List.getElem?_eq_some_iff.1 he).2
       by_cases h93:e = 93
       ·have hrg:kV s r = r:=by unfold kV;rw[he];simp[h93]
        have aAF:(e.toNat:Int)=93:=by rw[h93];rfl
        clear h93;rw[hrg] at hstep;clear hp hrg hl;go_wp2_with fail;refine (eH h.o).mono ?_;rintro e w4 ⟨rfl,dP⟩;replace h:=ζ (h.o.grows dP);replace hG:=ζ (hG.o.trans (ay.grows dP hb.o));replace hb:=ζ (Nat.le_trans hb.o dP.size);(try replace aI:=ζ (aI.o.grows dP))
        (try replace hX:=ζ (hX.o.grows dP))
        (try replace hP:=ζ (hP.o.grows dP))
        (try replace hR:=ζ (hR.o.grows dP))
        clear dP;rw[oQ];clear oQ;replace c0:=c0.out _ h.o;replace c1:=c1.out _ h.o;have l1:=h.o.blk.lt;go_wp2_with fail;refine aG κ ?_;refine rK (.range 31) 0 ?_;iterate 31 refine aC ?_
        refine aB ?_;refine aJ κ (fun wN hN hS=> ?_);clear c0 c1 l1;replace h:=ζ (h.o.grows hN);replace aI:=ζ (aI.o.grows hN);replace hG:=ζ (hG.o.trans (ay.grows hN hb.o));replace hb:=ζ (Nat.le_trans hb.o hN.size);clear hN hS;have V6:=hWr;have z_:=abo;rw[if_neg (Nat.lt_irrefl _)] at hstep;replace hstep:=ζ hstep;go_wp2_with fail;refine (kL (lo:=(r).2.toNat) (hi:=(r).2.toNat) aI.o (by have:=UInt8.toNat_lt (r).2;omega) (by have:=UInt8.toNat_lt (r).2;omega)).mono ?_;rintro e w9 ⟨rfl,B_,iG⟩;replace h:=ζ (h.o.uO aI.o zY.o iG);replace hG:=ζ (hG.o.trans (ay.set aI.o ny.o iG));replace aI:=ζ B_;clear B_ iG;go_wp2;go_roundw
        case rel=>exact⟨f - 1,false,(r).1,_,rfl,ζ (by have:=hf.o;have:=z_.o;(try rw[dS]);omega),ζ hstep.o.symm,V6,h,aI,hG⟩
        case measure=>rw[Bg.o _ _ h.o,Ib.o];have:=z_.o;have:=hlen.o;(try rw[dS]);omega
       ·have hrg:kV s r = kF s (aK r.1):=by unfold kV;rw[if_pos ⟨hp,hl,by rw[he];simpa using h93⟩]
        have aAF:¬(e.toNat:Int)=93:=fun x=>h93 (UInt8.toNat_inj.1 (by show e.toNat=93;omega))
        have Bl:(aK r.1).at_<s.length:=hl;have hq:=Hw Bl;rw[hrg] at hstep;replace hstep:=ζ hstep;clear hp hrg hl h93;go_wp2_with fail;refine (eH h.o).mono ?_;rintro e w4 ⟨rfl,dP⟩;replace h:=ζ (h.o.grows dP);replace hG:=ζ (hG.o.trans (ay.grows dP hb.o));replace hb:=ζ (Nat.le_trans hb.o dP.size);(try replace aI:=ζ (aI.o.grows dP))
        (try replace hX:=ζ (hX.o.grows dP))
        (try replace hP:=ζ (hP.o.grows dP))
        (try replace hR:=ζ (hR.o.grows dP))
        clear dP;rw[oQ];clear oQ;replace c0:=c0.out _ h.o;replace c1:=c1.out _ h.o;have l1:=h.o.blk.lt;go_wp2_with fail;refine aG κ ?_;refine rK (.range 31) 0 ?_;iterate 31 refine aC ?_
        refine aB ?_;refine aJ κ (fun wN hN hS=> ?_);clear c0 c1 l1;replace h:=ζ (h.o.grows hN);replace aI:=ζ (aI.o.grows hN);replace hG:=ζ (hG.o.trans (ay.grows hN hb.o));replace hb:=ζ (Nat.le_trans hb.o hN.size);clear hN hS;have c1:wN.cell? ⟨gB,1,none⟩=some (.int .i64 ((r.1).at_:Int)):=(h.o.blk.cell 1).trans rfl;have f1:=h.o.blk.frozen 1;have l1:=h.o.blk.lt;have i1: -9223372036854775808≤((r.1).at_:Int)+1∧((r.1).at_:Int)+1≤9223372036854775807:=by first | omega | (simp only[aK];omega)
        have hA:=ζ h.o.Nh;have nC:=ζ (hG.o.trans ((ay.own h.o (aj wN ⟨gB,1,none⟩ (.int .i64 (((r.1).at_:Int)+1)))).mono sZ.o));have hsz:Hid ((wN.setCell ⟨gB,1,none⟩ (.int .i64 (((r.1).at_:Int)+1))).heap.size=wN.heap.size):=ζ σ;go_wp2_with fail;(try replace aI:=ζ (aI.o.tk (ay.own h.o (aj wN ⟨gB,1,none⟩ (.int .i64 (((r.1).at_:Int)+1)))) δ))
        (try replace hX:=ζ ((ay.own h.o (aj wN ⟨gB,1,none⟩ (.int .i64 (((r.1).at_:Int)+1)))).blk hX.o δ))
        (try replace hP:=ζ ((ay.own h.o (aj wN ⟨gB,1,none⟩ (.int .i64 (((r.1).at_:Int)+1)))).blk hP.o δ))
        (try replace hR:=ζ ((ay.own h.o (aj wN ⟨gB,1,none⟩ (.int .i64 (((r.1).at_:Int)+1)))).blk hR.o δ))
        clear c1 f1 l1 i1 h hG;generalize wN.setCell ⟨gB,1,none⟩ (.int .i64 (((r.1).at_:Int)+1))=w5 at *
        have h:=hA;have hG:=nC;clear hA nC;replace hb:=ζ (Nat.le_trans hb0.o hG.o.size);refine (WZ h.o hb.o (by simp only[aK];omega)).mono ?_;rintro e w6 ⟨rfl,h3,hg3⟩;replace aI:=ζ (aI.o.tk hg3 δ);replace hG:=ζ (hG.o.trans (hg3.mono sZ.o));replace hb:=ζ (Nat.le_trans hb0.o hG.o.size);replace h:=ζ h3;clear h3 hg3;replace hstep:=hstep.o;generalize kF s (aK r.1)=q at *
        obtain⟨_,V6,apT,z_⟩:=hq;replace V6:=ζ V6;have ava:Hid (bq.at_<q.1.at_):=ζ (by have:=abo.o;simp only[aK] at z_;omega);clear apT z_ Bl;have z_:=ava;by_cases hlt:(q).2.toNat<(r).2.toNat
        ·have amx:(((q).2.toNat:Nat):Int)<(((r).2.toNat:Nat):Int):=ω;rw[if_pos hlt] at hstep;replace hstep:=ζ hstep;clear hlt;go_wp2_with fail;refine (jX h.o).mono ?_;rintro e w8 ⟨rfl,avH,FX⟩;(try replace aI:=ζ (aI.o.tk (ay.own h.o FX) δ))
         (try replace hX:=ζ ((ay.own h.o FX).blk hX.o δ))
         (try replace hP:=ζ ((ay.own h.o FX).blk hP.o δ))
         (try replace hR:=ζ ((ay.own h.o FX).blk hR.o δ))
         replace hG:=ζ (hG.o.trans ((ay.own h.o FX).mono sZ.o));replace h:=ζ avH;replace hb:=ζ (Nat.le_trans hb0.o hG.o.size);clear avH FX;go_wp2_with fail;refine (kL (lo:=(r).2.toNat) (hi:=(q).2.toNat) aI.o (by have:=UInt8.toNat_lt (r).2;omega) (by have:=UInt8.toNat_lt (q).2;omega)).mono ?_;rintro e w9 ⟨rfl,B_,iG⟩;replace h:=ζ (h.o.uO aI.o zY.o iG);replace hG:=ζ (hG.o.trans (ay.set aI.o ny.o iG));replace aI:=ζ B_;clear B_ iG;go_wp2;go_roundw
         case rel=>exact⟨f - 1,false,(bM 2 (q).1),_,rfl,ζ (by have:=hf.o;have:=z_.o;(try rw[dS]);omega),ζ hstep.o.symm,(ζ (pU (e:=2) δ V6.o.1)),h,aI,hG⟩
         case measure=>rw[Bg.o _ _ h.o,Ib.o];have:=z_.o;have:=hlen.o;(try rw[dS]);omega
        ·have amx:¬(((q).2.toNat:Nat):Int)<(((r).2.toNat:Nat):Int):=ω;rw[if_neg hlt] at hstep;replace hstep:=ζ hstep;clear hlt;go_wp2_with fail;refine (kL (lo:=(r).2.toNat) (hi:=(q).2.toNat) aI.o (by have:=UInt8.toNat_lt (r).2;omega) (by have:=UInt8.toNat_lt (q).2;omega)).mono ?_;rintro e w9 ⟨rfl,B_,iG⟩;replace h:=ζ (h.o.uO aI.o zY.o iG);replace hG:=ζ (hG.o.trans (ay.set aI.o ny.o iG));replace aI:=ζ B_;clear B_ iG;go_wp2;go_roundw
         case rel=>exact⟨f - 1,false,(q).1,_,rfl,ζ (by have:=hf.o;have:=z_.o;(try rw[dS]);omega),ζ hstep.o.symm,V6,h,aI,hG⟩
         case measure=>rw[Bg.o _ _ h.o,Ib.o];have:=z_.o;have:=hlen.o;(try rw[dS]);omega
      ·have hrg:kV s r = r:=by unfold kV;rw[if_neg (fun x=>hl x.2.1)]
       have hli:((r.1.at_:Int)+1<(s.length:Int))=False:=by simp only[eq_iff_iff,iff_false];omega
       rw[hrg] at hstep;clear hp hrg hl;go_wp2_with fail;refine (eH h.o).mono ?_;rintro e w4 ⟨rfl,dP⟩;replace h:=ζ (h.o.grows dP);replace hG:=ζ (hG.o.trans (ay.grows dP hb.o));replace hb:=ζ (Nat.le_trans hb.o dP.size);(try replace aI:=ζ (aI.o.grows dP))
       (try replace hX:=ζ (hX.o.grows dP))
       (try replace hP:=ζ (hP.o.grows dP))
       (try replace hR:=ζ (hR.o.grows dP))
       clear dP;rw[oQ];clear oQ;replace c0:=c0.out _ h.o;replace c1:=c1.out _ h.o;have l1:=h.o.blk.lt;go_wp2_with fail;refine aG κ ?_;refine rK (.range 31) 0 ?_;iterate 31 refine aC ?_
       refine aB ?_;refine aJ κ (fun wN hN hS=> ?_);clear c0 c1 l1;replace h:=ζ (h.o.grows hN);replace aI:=ζ (aI.o.grows hN);replace hG:=ζ (hG.o.trans (ay.grows hN hb.o));replace hb:=ζ (Nat.le_trans hb.o hN.size);clear hN hS;have V6:=hWr;have z_:=abo;rw[if_neg (Nat.lt_irrefl _)] at hstep;replace hstep:=ζ hstep;go_wp2_with fail;refine (kL (lo:=(r).2.toNat) (hi:=(r).2.toNat) aI.o (by have:=UInt8.toNat_lt (r).2;omega) (by have:=UInt8.toNat_lt (r).2;omega)).mono ?_;rintro e w9 ⟨rfl,B_,iG⟩;replace h:=ζ (h.o.uO aI.o zY.o iG);replace hG:=ζ (hG.o.trans (ay.set aI.o ny.o iG));replace aI:=ζ B_;clear B_ iG;go_wp2;go_roundw
       case rel=>exact⟨f - 1,false,(r).1,_,rfl,ζ (by have:=hf.o;have:=z_.o;(try rw[dS]);omega),ζ hstep.o.symm,V6,h,aI,hG⟩
       case measure=>rw[Bg.o _ _ h.o,Ib.o];have:=z_.o;have:=hlen.o;(try rw[dS]);omega
     ·have hrg:kV s r = r:=by unfold kV;rw[hp];simp[hc]
      have hci:¬(c.toNat:Int)=45:=fun e=>hc (UInt8.toNat_inj.1 (by show c.toNat=45;omega))
      rw[hrg] at hstep;clear hp hrg hc;go_wp2_with fail;refine (eH h.o).mono ?_;rintro e w4 ⟨rfl,dP⟩;replace h:=ζ (h.o.grows dP);replace hG:=ζ (hG.o.trans (ay.grows dP hb.o));replace hb:=ζ (Nat.le_trans hb.o dP.size);(try replace aI:=ζ (aI.o.grows dP))
      (try replace hX:=ζ (hX.o.grows dP))
      (try replace hP:=ζ (hP.o.grows dP))
      (try replace hR:=ζ (hR.o.grows dP))
      clear dP;rw[oQ];clear oQ;go_wp2_with fail;refine aG κ ?_;refine rK (.range 31) 0 ?_;iterate 31 refine aC ?_
      refine aB ?_;refine aJ κ (fun wN hN hS=> ?_);replace h:=ζ (h.o.grows hN);replace aI:=ζ (aI.o.grows hN);replace hG:=ζ (hG.o.trans (ay.grows hN hb.o));replace hb:=ζ (Nat.le_trans hb.o hN.size);clear hN hS;have V6:=hWr;have z_:=abo;rw[if_neg (Nat.lt_irrefl _)] at hstep;replace hstep:=ζ hstep;go_wp2_with fail;refine (kL (lo:=(r).2.toNat) (hi:=(r).2.toNat) aI.o (by have:=UInt8.toNat_lt (r).2;omega) (by have:=UInt8.toNat_lt (r).2;omega)).mono ?_;rintro e w9 ⟨rfl,B_,iG⟩;replace h:=ζ (h.o.uO aI.o zY.o iG);replace hG:=ζ (hG.o.trans (ay.set aI.o ny.o iG));replace aI:=ζ B_;clear B_ iG;go_wp2;go_roundw
      case rel=>exact⟨f - 1,false,(r).1,_,rfl,ζ (by have:=hf.o;have:=z_.o;(try rw[dS]);omega),ζ hstep.o.symm,V6,h,aI,hG⟩
      case measure=>rw[Bg.o _ _ h.o,Ib.o];have:=z_.o;have:=hlen.o;(try rw[dS]);omega
theorem Xy {P:Program} {fn:Func} {t1 t2:Array Value} {R:Ending→World→Prop} (h:results fn t1=results fn t2):∀(ds:List Deferred) (u:FrameMode) (w:World),Leaves P fn t1 R ds u w→Leaves P fn t2 R ds u w:=by
 intro ds;induction ds with
 | nil=>
  intro u w hl;cases u with
  | run=>exact hl
  | returning=>obtain⟨v,h1,h2⟩:=hl;exact⟨v,h ▸ h1,h2⟩
  | panicking c=>exact hl
 | cons d ds ih=>
  intro u w hl;obtain⟨hu,fv,cap,f,args,h1,h2,h3⟩:=hl;refine⟨hu,fv,cap,f,args,h1,h2,h3.mono fun e u' w' h4=> ?_⟩;cases e with
  | returned v=>exact ih _ _ h4
  | panicked c=>exact ih _ _ h4
  | outgrown=>exact h4
def agz (base gB gs:Nat) (s:List UInt8) (xs:List xH) (sv:Value) (w:World) (r:PB×List Nat) (e:Ending) (w':World):Prop:=
 e =.returned (.tuple #[])∧jP w' base gB s r.1 xs sv∧fB w' gs r.2∧ay TC base w w'
theorem aaw (t1 t2:Array Value):results Tryz.f276 t1=results Tryz.f276 t2:=by
 simp[results]
theorem YA {R:Ending→World→Prop} (c:List PanicEntry) (a:Act) (d:Option Tmp) (v:Value) (w:World) (h:Exit.inBlock 0 (bodyPostD Tryz.prog Tryz.f276 R) (.panic c) (Act.put a d v) w):Exit.inBlock 0 (bodyPostD Tryz.prog Tryz.f276 R) (.panic c) a w:=by
 cases d with
 | none=>exact h
 | some d=>exact Xy (aaw _ _) _ _ _ h
theorem af9 {w:World} {base gB gs:Nat} {s:List UInt8} {b:PB} {xs:List xH} {sv:Value} (h:jP w base gB s b xs sv) (aI:fB w gs eY) (ny:base≤gs) (zY:∀x∈xs,x.pv≠.pointer (some ⟨gs,0,none⟩)) (hb:base≤w.heap.size) (uf:s.length≤100) (hW:b.at_≤s.length) :
 Calls Tryz.prog 276 #[.pointer (some ⟨gB,0,none⟩),.pointer (some ⟨gs,0,none⟩)] w (agz base gB gs s xs sv w (nG s b)):=by
 replace hb:=ζ hb;have hb0:=hb;have hG:=ζ (ay.refl TC base w);have sZ:Hid (∀t∈[358],t∈TC):=ζ (by intro t ht;simp[TC] at *;exact .inl ht);replace h:=ζ h;replace aI:=ζ aI;replace ny:=ζ ny;replace zY:=ζ zY;have hWH:=ζ hW;by_cases hp:Bf s b = some 94
 ·have hcp:nG s b = ((ou s (s.length+1) true (aK b) eY).1,n_ (ou s (s.length+1) true (aK b) eY).2):=by unfold nG;rw[if_pos hp]
  have oQ:wG s b =.tuple #[.int .u8 94,.bool true]:=by simp only[wG,hp];rfl
  have Bl:Hid ((aK b).at_≤s.length):=ζ (iQ hp).2.1;replace hcp:=ζ hcp;clear hp;go_enter_defers Tryz.func276,Tryz.ntmps276
  go_wp2_with fail;refine (eH h.o).mono ?_;rintro e w1 ⟨rfl,dh⟩;replace h:=ζ (h.o.grows dh);replace hG:=ζ (hG.o.trans (ay.grows dh hb.o));replace hb:=ζ (Nat.le_trans hb.o dh.size);(try replace aI:=ζ (aI.o.grows dh))
  (try replace hX:=ζ (hX.o.grows dh))
  (try replace hP:=ζ (hP.o.grows dh))
  (try replace hR:=ζ (hR.o.grows dh))
  clear dh;rw[oQ];clear oQ;have c1:w1.cell? ⟨gB,1,none⟩=some (.int .i64 ((b).at_:Int)):=(h.o.blk.cell 1).trans rfl;have f1:=h.o.blk.frozen 1;have l1:=h.o.blk.lt;have i1: -9223372036854775808≤((b).at_:Int)+1∧((b).at_:Int)+1≤9223372036854775807:=by first | omega | (simp only[aK];omega)
  have hA:=ζ h.o.Nh;have nC:=ζ (hG.o.trans ((ay.own h.o (aj w1 ⟨gB,1,none⟩ (.int .i64 (((b).at_:Int)+1)))).mono sZ.o));have hsz:Hid ((w1.setCell ⟨gB,1,none⟩ (.int .i64 (((b).at_:Int)+1))).heap.size=w1.heap.size):=ζ σ;go_wp2_with fail;(try replace aI:=ζ (aI.o.tk (ay.own h.o (aj w1 ⟨gB,1,none⟩ (.int .i64 (((b).at_:Int)+1)))) δ))
  (try replace hX:=ζ ((ay.own h.o (aj w1 ⟨gB,1,none⟩ (.int .i64 (((b).at_:Int)+1)))).blk hX.o δ))
  (try replace hP:=ζ ((ay.own h.o (aj w1 ⟨gB,1,none⟩ (.int .i64 (((b).at_:Int)+1)))).blk hP.o δ))
  (try replace hR:=ζ ((ay.own h.o (aj w1 ⟨gB,1,none⟩ (.int .i64 (((b).at_:Int)+1)))).blk hR.o δ))
  clear c1 f1 l1 i1 h hG;generalize w1.setCell ⟨gB,1,none⟩ (.int .i64 (((b).at_:Int)+1))=w2 at *
  have h:=hA;have hG:=nC;clear hA nC;replace hb:=ζ (Nat.le_trans hb0.o hG.o.size);refine adb (f0:=s.length+1) h aI ny zY hb0 hG (ζ ω) (ζ rfl) (ζ (WP.of_le Bl.o)) uf YA ?_;intros
  rename_i w9 hrel;obtain⟨h9,B_,LZ⟩:=hrel;refine leaves_cons (f:=277) (args:= #[.pointer (some ⟨gs,0,none⟩)]) σ (by simp[go_sem]) ?_;refine (WM (u:=.returning) B_.o).mono ?_;rintro e u' w'' ⟨rfl,rfl,ayO,AQ⟩;refine⟨_,results_none rfl _ _ _,rfl,?_⟩;rw[hcp.o];exact⟨h9.o.uO B_.o zY.o AQ,ayO,LZ.o.trans (ay.set B_.o ny.o AQ)⟩
 ·have hcp:nG s b = ou s (s.length+1) true b eY:=by unfold nG;rw[if_neg hp]
  obtain⟨c,ok,oQ,hc⟩:∃(c:Int) (ok:Bool),wG s b =.tuple #[.int .u8 c,.bool ok]∧¬c = 94:=by
   cases hq:Bf s b with
   | none=>exact⟨0,false,by simp only[wG,hq],δ⟩
   | some d=>exact⟨(d.toNat:Int),true,by simp only[wG,hq],fun e=>hp (by rw[hq];congr 1;exact UInt8.toNat_inj.1 (by show d.toNat=94;omega))⟩
  rw[hcp];clear hp hcp;go_enter_defers Tryz.func276,Tryz.ntmps276
  go_wp2_with fail;refine (eH h.o).mono ?_;rintro e w1 ⟨rfl,dh⟩;replace h:=ζ (h.o.grows dh);replace hG:=ζ (hG.o.trans (ay.grows dh hb.o));replace hb:=ζ (Nat.le_trans hb.o dh.size);(try replace aI:=ζ (aI.o.grows dh))
  (try replace hX:=ζ (hX.o.grows dh))
  (try replace hP:=ζ (hP.o.grows dh))
  (try replace hR:=ζ (hR.o.grows dh))
  clear dh;rw[oQ];clear oQ;go_wp2_with fail;refine adb (f0:=s.length+1) h aI ny zY hb0 hG (ζ ω) (ζ rfl) (ζ (WP.of_le hWH.o)) uf YA ?_;intros
  rename_i w9 hrel;obtain⟨h9,B_,LZ⟩:=hrel;exact⟨_,results_none rfl _ _ _,rfl,h9.o,B_.o,LZ.o⟩
end Go.Proofs.YtbhikkgpcmkonaaGreatDoor
