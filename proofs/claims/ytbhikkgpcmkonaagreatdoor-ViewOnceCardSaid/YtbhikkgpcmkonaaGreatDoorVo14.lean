/- Parts: PatG PatH PatI PatJ -/
import Derived.Test.YtbhikkgpcmkonaaGreatDoorVo0
import Derived.Test.YtbhikkgpcmkonaaGreatDoorVo13
import Derived.Defers
set_option maxRecDepth 100000
set_option maxHeartbeats 12800000
namespace Go.Proofs.YtbhikkgpcmkonaaGreatDoor
open Go.RowKit
def aoU (base gB:Nat) (s:List UInt8) (xs:List xX) (sv:Value) (w:World) (v:Value) (b:PB) (e:Ending) (w':World):Prop:=
 e =.returned v∧jU w' base gB s b xs sv∧aC [358] base w w'
theorem jU.N9 {w:World} {base gB:Nat} {s:List UInt8} {b:PB} {xs:List xX} {sv:Value} (h:jU w base gB s b xs sv):jU (w.setCell ⟨gB,1,none⟩ (.int .i64 ((b.at_:Int)+1))) base gB s (aO b) xs sv:=by
 refine h.turn (aj w _ _) rfl ?_;have:=h.blk.bH 1 (.int .i64 ((b.at_:Int)+1));simpa[aO] using this
theorem aC.own {w w':World} {base gB:Nat} {s:List UInt8} {b:PB} {xs:List xX} {sv:Value} (h:jU w base gB s b xs sv) (hg:w.grownBy w' (some gB)):aC [358] base w w':=
 aC.row hg (by have:=h.blk.lt;have:=h.le;omega) (fun m hm=>by injection hm with hm;subst hm;exact⟨h.le,_,_,by simp,h.blk⟩)
theorem XT {w:World} {base gB:Nat} {s:List UInt8} {b:PB} {xs:List xX} {sv:Value} (h:jU w base gB s b xs sv) (hb:base≤w.heap.size) (ha:b.at_<1000000) :
 Calls Tryz.prog 281 #[.pointer (some ⟨gB,0,none⟩)] w (aoU base gB s xs sv w (.int .u8 ((kL s b).2.toNat:Int)) (kL s b).1):=by
 replace hb:=ζ hb;have hb0:=hb;have tC:Hid (∀t∈[358],t∈[358]):=ζ (fun _ h=>h);have hG:=ζ (aC.refl [358] base w);replace h:=ζ h;cases hp:BK s b with
 | none=>
  have hsg:kL s b = (bU 2 (aO b),0):=by unfold kL;rw[hp];rfl
  have oW:wR s b =.tuple #[.int .u8 0,.bool false]:=by simp only[wR,hp]
  replace hsg:=ζ hsg;clear hp;go_enter Tryz.func281,Tryz.ntmps281
  go_wp2_with fail;refine (eP h.o).mono ?_;rintro e w1 ⟨rfl,dn⟩;replace h:=ζ (h.o.grows dn);replace hG:=ζ (hG.o.trans (aC.grows dn hb.o));replace hb:=ζ (Nat.le_trans hb.o dn.size);(try replace aK:=ζ (aK.o.grows dn))
  (try replace hX:=ζ (hX.o.grows dn))
  (try replace hP:=ζ (hP.o.grows dn))
  (try replace hR:=ζ (hR.o.grows dn))
  clear dn;rw[oW];clear oW;have c1:w1.cell? ⟨gB,1,none⟩=some (.int .i64 ((b).at_:Int)):=(h.o.blk.cell 1).trans rfl;have f1:=h.o.blk.frozen 1;have l1:=h.o.blk.lt;have i1: -9223372036854775808≤((b).at_:Int)+1∧((b).at_:Int)+1≤9223372036854775807:=by first | omega | (simp only[aO];omega)
  have hA:=ζ h.o.N9;have nH:=ζ (hG.o.trans ((aC.own h.o (aj w1 ⟨gB,1,none⟩ (.int .i64 (((b).at_:Int)+1)))).mono tC.o));have hsz:Hid ((w1.setCell ⟨gB,1,none⟩ (.int .i64 (((b).at_:Int)+1))).heap.size=w1.heap.size):=ζ σ;go_wp2_with fail;(try replace aK:=ζ (aK.o.tk (aC.own h.o (aj w1 ⟨gB,1,none⟩ (.int .i64 (((b).at_:Int)+1)))) δ))
  (try replace hX:=ζ ((aC.own h.o (aj w1 ⟨gB,1,none⟩ (.int .i64 (((b).at_:Int)+1)))).blk hX.o δ))
  (try replace hP:=ζ ((aC.own h.o (aj w1 ⟨gB,1,none⟩ (.int .i64 (((b).at_:Int)+1)))).blk hP.o δ))
  (try replace hR:=ζ ((aC.own h.o (aj w1 ⟨gB,1,none⟩ (.int .i64 (((b).at_:Int)+1)))).blk hR.o δ))
  clear c1 f1 l1 i1 h hG;generalize w1.setCell ⟨gB,1,none⟩ (.int .i64 (((b).at_:Int)+1))=w2 at *
  have h:=hA;have hG:=nH;clear hA nH;replace hb:=ζ (Nat.le_trans hb0.o hG.o.size);refine (kD h.o).mono ?_;rintro e w3 ⟨rfl,aw0,uw⟩;(try replace aK:=ζ (aK.o.tk (aC.own h.o uw) δ))
  (try replace hX:=ζ ((aC.own h.o uw).blk hX.o δ))
  (try replace hP:=ζ ((aC.own h.o uw).blk hP.o δ))
  (try replace hR:=ζ ((aC.own h.o uw).blk hR.o δ))
  replace hG:=ζ (hG.o.trans ((aC.own h.o uw).mono tC.o));replace h:=ζ aw0;replace hb:=ζ (Nat.le_trans hb0.o hG.o.size);clear aw0 uw;go_wp2_with fail;go_ret;rw[hsg.o];exact⟨rfl,h.o,hG.o⟩
 | some c=>
  have qF:=c.toNat_lt;by_cases hc:c = 92
  ·subst hc;have oW:wR s b =.tuple #[.int .u8 92,.bool true]:=by simp only[wR,hp];rfl
   cases hq:BK s (aO b) with
   | none=>
    have hsg:kL s b = (bU 2 (aO (aO b)),0):=by unfold kL;rw[hp,if_pos rfl,hq]
    have hqv:wR s (aO b)=.tuple #[.int .u8 0,.bool false]:=by simp only[wR,hq]
    replace hsg:=ζ hsg;clear hp hq qF;go_enter Tryz.func281,Tryz.ntmps281
    go_wp2_with fail;refine (eP h.o).mono ?_;rintro e w1 ⟨rfl,dn⟩;replace h:=ζ (h.o.grows dn);replace hG:=ζ (hG.o.trans (aC.grows dn hb.o));replace hb:=ζ (Nat.le_trans hb.o dn.size);(try replace aK:=ζ (aK.o.grows dn))
    (try replace hX:=ζ (hX.o.grows dn))
    (try replace hP:=ζ (hP.o.grows dn))
    (try replace hR:=ζ (hR.o.grows dn))
    clear dn;rw[oW];clear oW;have c1:w1.cell? ⟨gB,1,none⟩=some (.int .i64 ((b).at_:Int)):=(h.o.blk.cell 1).trans rfl;have f1:=h.o.blk.frozen 1;have l1:=h.o.blk.lt;have i1: -9223372036854775808≤((b).at_:Int)+1∧((b).at_:Int)+1≤9223372036854775807:=by first | omega | (simp only[aO];omega)
    have hA:=ζ h.o.N9;have nH:=ζ (hG.o.trans ((aC.own h.o (aj w1 ⟨gB,1,none⟩ (.int .i64 (((b).at_:Int)+1)))).mono tC.o));have hsz:Hid ((w1.setCell ⟨gB,1,none⟩ (.int .i64 (((b).at_:Int)+1))).heap.size=w1.heap.size):=ζ σ;go_wp2_with fail;(try replace aK:=ζ (aK.o.tk (aC.own h.o (aj w1 ⟨gB,1,none⟩ (.int .i64 (((b).at_:Int)+1)))) δ))
    (try replace hX:=ζ ((aC.own h.o (aj w1 ⟨gB,1,none⟩ (.int .i64 (((b).at_:Int)+1)))).blk hX.o δ))
    (try replace hP:=ζ ((aC.own h.o (aj w1 ⟨gB,1,none⟩ (.int .i64 (((b).at_:Int)+1)))).blk hP.o δ))
    (try replace hR:=ζ ((aC.own h.o (aj w1 ⟨gB,1,none⟩ (.int .i64 (((b).at_:Int)+1)))).blk hR.o δ))
    clear c1 f1 l1 i1 h hG;generalize w1.setCell ⟨gB,1,none⟩ (.int .i64 (((b).at_:Int)+1))=w2 at *
    have h:=hA;have hG:=nH;clear hA nH;replace hb:=ζ (Nat.le_trans hb0.o hG.o.size);go_wp2_with fail;refine (eP h.o).mono ?_;rintro e w3 ⟨rfl,uw⟩;replace h:=ζ (h.o.grows uw);replace hG:=ζ (hG.o.trans (aC.grows uw hb.o));replace hb:=ζ (Nat.le_trans hb.o uw.size);(try replace aK:=ζ (aK.o.grows uw))
    (try replace hX:=ζ (hX.o.grows uw))
    (try replace hP:=ζ (hP.o.grows uw))
    (try replace hR:=ζ (hR.o.grows uw))
    clear uw;rw[hqv];clear hqv;have c1:w3.cell? ⟨gB,1,none⟩=some (.int .i64 (((aO b)).at_:Int)):=(h.o.blk.cell 1).trans rfl;have f1:=h.o.blk.frozen 1;have l1:=h.o.blk.lt;have i1: -9223372036854775808≤(((aO b)).at_:Int)+1∧(((aO b)).at_:Int)+1≤9223372036854775807:=by first | omega | (simp only[aO];omega)
    have hA:=ζ h.o.N9;have nH:=ζ (hG.o.trans ((aC.own h.o (aj w3 ⟨gB,1,none⟩ (.int .i64 ((((aO b)).at_:Int)+1)))).mono tC.o));have hsz:Hid ((w3.setCell ⟨gB,1,none⟩ (.int .i64 ((((aO b)).at_:Int)+1))).heap.size=w3.heap.size):=ζ σ;go_wp2_with fail;(try replace aK:=ζ (aK.o.tk (aC.own h.o (aj w3 ⟨gB,1,none⟩ (.int .i64 ((((aO b)).at_:Int)+1)))) δ))
    (try replace hX:=ζ ((aC.own h.o (aj w3 ⟨gB,1,none⟩ (.int .i64 ((((aO b)).at_:Int)+1)))).blk hX.o δ))
    (try replace hP:=ζ ((aC.own h.o (aj w3 ⟨gB,1,none⟩ (.int .i64 ((((aO b)).at_:Int)+1)))).blk hP.o δ))
    (try replace hR:=ζ ((aC.own h.o (aj w3 ⟨gB,1,none⟩ (.int .i64 ((((aO b)).at_:Int)+1)))).blk hR.o δ))
    clear c1 f1 l1 i1 h hG;generalize w3.setCell ⟨gB,1,none⟩ (.int .i64 ((((aO b)).at_:Int)+1))=w4 at *
    have h:=hA;have hG:=nH;clear hA nH;replace hb:=ζ (Nat.le_trans hb0.o hG.o.size);refine (kD h.o).mono ?_;rintro e w5 ⟨rfl,akG,KC⟩;(try replace aK:=ζ (aK.o.tk (aC.own h.o KC) δ))
    (try replace hX:=ζ ((aC.own h.o KC).blk hX.o δ))
    (try replace hP:=ζ ((aC.own h.o KC).blk hP.o δ))
    (try replace hR:=ζ ((aC.own h.o KC).blk hR.o δ))
    replace hG:=ζ (hG.o.trans ((aC.own h.o KC).mono tC.o));replace h:=ζ akG;replace hb:=ζ (Nat.le_trans hb0.o hG.o.size);clear akG KC;go_wp2_with fail;go_ret;rw[hsg.o];exact⟨rfl,h.o,hG.o⟩
   | some d=>
    have hsg:kL s b = (aO (aO b),d):=by unfold kL;rw[hp,if_pos rfl,hq]
    have hqv:wR s (aO b)=.tuple #[.int .u8 (d.toNat:Int),.bool true]:=by simp only[wR,hq]
    replace hsg:=ζ hsg;clear hp hq qF;go_enter Tryz.func281,Tryz.ntmps281
    go_wp2_with fail;refine (eP h.o).mono ?_;rintro e w1 ⟨rfl,dn⟩;replace h:=ζ (h.o.grows dn);replace hG:=ζ (hG.o.trans (aC.grows dn hb.o));replace hb:=ζ (Nat.le_trans hb.o dn.size);(try replace aK:=ζ (aK.o.grows dn))
    (try replace hX:=ζ (hX.o.grows dn))
    (try replace hP:=ζ (hP.o.grows dn))
    (try replace hR:=ζ (hR.o.grows dn))
    clear dn;rw[oW];clear oW;have c1:w1.cell? ⟨gB,1,none⟩=some (.int .i64 ((b).at_:Int)):=(h.o.blk.cell 1).trans rfl;have f1:=h.o.blk.frozen 1;have l1:=h.o.blk.lt;have i1: -9223372036854775808≤((b).at_:Int)+1∧((b).at_:Int)+1≤9223372036854775807:=by first | omega | (simp only[aO];omega)
    have hA:=ζ h.o.N9;have nH:=ζ (hG.o.trans ((aC.own h.o (aj w1 ⟨gB,1,none⟩ (.int .i64 (((b).at_:Int)+1)))).mono tC.o));have hsz:Hid ((w1.setCell ⟨gB,1,none⟩ (.int .i64 (((b).at_:Int)+1))).heap.size=w1.heap.size):=ζ σ;go_wp2_with fail;(try replace aK:=ζ (aK.o.tk (aC.own h.o (aj w1 ⟨gB,1,none⟩ (.int .i64 (((b).at_:Int)+1)))) δ))
    (try replace hX:=ζ ((aC.own h.o (aj w1 ⟨gB,1,none⟩ (.int .i64 (((b).at_:Int)+1)))).blk hX.o δ))
    (try replace hP:=ζ ((aC.own h.o (aj w1 ⟨gB,1,none⟩ (.int .i64 (((b).at_:Int)+1)))).blk hP.o δ))
    (try replace hR:=ζ ((aC.own h.o (aj w1 ⟨gB,1,none⟩ (.int .i64 (((b).at_:Int)+1)))).blk hR.o δ))
    clear c1 f1 l1 i1 h hG;generalize w1.setCell ⟨gB,1,none⟩ (.int .i64 (((b).at_:Int)+1))=w2 at *
    have h:=hA;have hG:=nH;clear hA nH;replace hb:=ζ (Nat.le_trans hb0.o hG.o.size);go_wp2_with fail;refine (eP h.o).mono ?_;rintro e w3 ⟨rfl,uw⟩;replace h:=ζ (h.o.grows uw);replace hG:=ζ (hG.o.trans (aC.grows uw hb.o));replace hb:=ζ (Nat.le_trans hb.o uw.size);(try replace aK:=ζ (aK.o.grows uw))
    (try replace hX:=ζ (hX.o.grows uw))
    (try replace hP:=ζ (hP.o.grows uw))
    (try replace hR:=ζ (hR.o.grows uw))
    clear uw;rw[hqv];clear hqv;have c1:w3.cell? ⟨gB,1,none⟩=some (.int .i64 (((aO b)).at_:Int)):=(h.o.blk.cell 1).trans rfl;have f1:=h.o.blk.frozen 1;have l1:=h.o.blk.lt;have i1: -9223372036854775808≤(((aO b)).at_:Int)+1∧(((aO b)).at_:Int)+1≤9223372036854775807:=by first | omega | (simp only[aO];omega)
    have hA:=ζ h.o.N9;have nH:=ζ (hG.o.trans ((aC.own h.o (aj w3 ⟨gB,1,none⟩ (.int .i64 ((((aO b)).at_:Int)+1)))).mono tC.o));have hsz:Hid ((w3.setCell ⟨gB,1,none⟩ (.int .i64 ((((aO b)).at_:Int)+1))).heap.size=w3.heap.size):=ζ σ;go_wp2_with fail;(try replace aK:=ζ (aK.o.tk (aC.own h.o (aj w3 ⟨gB,1,none⟩ (.int .i64 ((((aO b)).at_:Int)+1)))) δ))
    (try replace hX:=ζ ((aC.own h.o (aj w3 ⟨gB,1,none⟩ (.int .i64 ((((aO b)).at_:Int)+1)))).blk hX.o δ))
    (try replace hP:=ζ ((aC.own h.o (aj w3 ⟨gB,1,none⟩ (.int .i64 ((((aO b)).at_:Int)+1)))).blk hP.o δ))
    (try replace hR:=ζ ((aC.own h.o (aj w3 ⟨gB,1,none⟩ (.int .i64 ((((aO b)).at_:Int)+1)))).blk hR.o δ))
    clear c1 f1 l1 i1 h hG;generalize w3.setCell ⟨gB,1,none⟩ (.int .i64 ((((aO b)).at_:Int)+1))=w4 at *
    have h:=hA;have hG:=nH;clear hA nH;replace hb:=ζ (Nat.le_trans hb0.o hG.o.size);go_ret;rw[hsg.o];exact⟨rfl,h.o,hG.o⟩
  ·have hci:¬(c.toNat:Int)=92:=fun e=>hc (UInt8.toNat_inj.1 (by show c.toNat=92;omega))
   have oW:wR s b =.tuple #[.int .u8 (c.toNat:Int),.bool true]:=by simp only[wR,hp]
   have hsg:kL s b = (aO b,c):=by unfold kL;rw[hp,if_neg (by simpa using hc)]
   replace hsg:=ζ hsg;clear hp hc qF;go_enter Tryz.func281,Tryz.ntmps281
   go_wp2_with fail;refine (eP h.o).mono ?_;rintro e w1 ⟨rfl,dn⟩;replace h:=ζ (h.o.grows dn);replace hG:=ζ (hG.o.trans (aC.grows dn hb.o));replace hb:=ζ (Nat.le_trans hb.o dn.size);(try replace aK:=ζ (aK.o.grows dn))
   (try replace hX:=ζ (hX.o.grows dn))
   (try replace hP:=ζ (hP.o.grows dn))
   (try replace hR:=ζ (hR.o.grows dn))
   clear dn;rw[oW];clear oW;have c1:w1.cell? ⟨gB,1,none⟩=some (.int .i64 ((b).at_:Int)):=(h.o.blk.cell 1).trans rfl;have f1:=h.o.blk.frozen 1;have l1:=h.o.blk.lt;have i1: -9223372036854775808≤((b).at_:Int)+1∧((b).at_:Int)+1≤9223372036854775807:=by first | omega | (simp only[aO];omega)
   have hA:=ζ h.o.N9;have nH:=ζ (hG.o.trans ((aC.own h.o (aj w1 ⟨gB,1,none⟩ (.int .i64 (((b).at_:Int)+1)))).mono tC.o));have hsz:Hid ((w1.setCell ⟨gB,1,none⟩ (.int .i64 (((b).at_:Int)+1))).heap.size=w1.heap.size):=ζ σ;go_wp2_with fail;(try replace aK:=ζ (aK.o.tk (aC.own h.o (aj w1 ⟨gB,1,none⟩ (.int .i64 (((b).at_:Int)+1)))) δ))
   (try replace hX:=ζ ((aC.own h.o (aj w1 ⟨gB,1,none⟩ (.int .i64 (((b).at_:Int)+1)))).blk hX.o δ))
   (try replace hP:=ζ ((aC.own h.o (aj w1 ⟨gB,1,none⟩ (.int .i64 (((b).at_:Int)+1)))).blk hP.o δ))
   (try replace hR:=ζ ((aC.own h.o (aj w1 ⟨gB,1,none⟩ (.int .i64 (((b).at_:Int)+1)))).blk hR.o δ))
   clear c1 f1 l1 i1 h hG;generalize w1.setCell ⟨gB,1,none⟩ (.int .i64 (((b).at_:Int)+1))=w2 at *
   have h:=hA;have hG:=nH;clear hA nH;replace hb:=ζ (Nat.le_trans hb0.o hG.o.size);go_ret;rw[hsg.o];exact⟨rfl,h.o,hG.o⟩
theorem XF {w:World} {g:Nat} {ws:List Nat} {u:FrameMode} (h:fD w g ws) :
 CallsD Tryz.prog 277 #[.pointer (some ⟨g,0,none⟩)] u w fun e u' w'=>u'=u∧(e =.returned (.tuple #[])∧fD w' g (ou ws)∧w.grownBy w' (some g)):=by
 have hl:g < w.heap.size:=World.block_lt_of_cell? w _ (h.cell (i:=0) (List.getElem?_eq_getElem (by rw[h.2.1];omega)));have hwl:=ζ h.2.1;replace h:=ζ h;go_enter_d Tryz.func277,Tryz.ntmps277
 go_wp2;go_loopw [3] (fun i wr=>∃k:Nat,k≤4∧i =.int .i64 (k:Int)∧fD wr g (qH k ws)∧w.grownBy wr (some g)) (fun i _=>4-(intOf i).toNat)
 case atStart=>exact⟨0,ω,rfl,by simpa[qH] using h.o,World.grownBy.refl _ _⟩
 case round=>
  obtain⟨k,hk,rfl,hs,hg⟩:=hrel;by_cases hlt:k<4
  ·obtain⟨x,hx⟩:∃x,ws[k]? = some x:=⟨_,List.getElem?_eq_getElem (by rw[hwl.o];omega)⟩;have Dc:=Ld hx;rw[←Oq] at hx;have H7:=hs.2.2 x (List.mem_of_getElem? hx);have c0:=hs.cell hx;have hlw:=World.block_lt_of_cell? wr _ c0;simp only at hlw;have kX:(k:Int)<4:=ω;have abW:((18446744073709551615-x:Nat):Int)=18446744073709551615-(x:Int):=ω;have DV:18446744073709551615-x < 18446744073709551616:=ω;replace Dc:=ζ Dc;replace hs:=ζ hs;replace hk:=ζ hk;replace abW:=ζ abW;have hX:bits BinOp.xor IntKind.u64 (if IntKind.u64.signed=true then -1 else IntKind.u64.max) (x:Int)=((18446744073709551615-x:Nat):Int):=by
    rw[←ac4 H7];exact u64_xor_nat 18446744073709551615 x δ H7
   replace hX:=ζ hX;go_wp2;refine aF κ ?_;refine rK (.range 10) 1 ?_;iterate 10 refine ay ?_
   refine aB ?_;refine eG (i:=10) rfl κ κ (fun wN hN hS K' hK=> ?_);clear hS;have hsN:fD wN g _:=⟨(hN.below.block g hlw).trans hs.o.1,hs.o.2⟩;have c0N:=hsN.cell hx;have f0N:=hsN.1.frozen k;have rlN:=World.block_lt_of_cell? wN _ c0N;simp only at rlN;have hput:=hsN.put (i:=k) DV;rw[←Dc.o] at hput;replace hput:=ζ hput;have hgN:Hid (w.grownBy _ (some g)):=ζ ((hg.trans (hN.uH (some g))).trans (aj wN ⟨g,k,none⟩ (.int .u64 ((18446744073709551615-x:Nat):Int))));clear hsN;go_simp;refine hK.o _ _ ?_;clear hK;go_wp2;go_roundw
   case rel=>exact⟨k+1,ω,by simp,by rw[hX.o];exact hput.o,by rw[hX.o];exact hgN.o⟩
   case measure=>exact ψ
  ·have avJ:¬(k:Int)<4:=ω;have rY:k=4:=ω;replace hk:=ζ hk;replace hlt:=ζ hlt;replace rY:=ζ rY;go_wp2;go_end0;refine⟨rfl,?_,hg⟩;have:qH k ws=ou ws:=by
    rw[rY.o,qH,ou,List.take_of_length_le (by rw[hwl.o];omega),List.drop_of_length_le (by rw[hwl.o];omega),List.append_nil]
   rw[←this];exact hs
def TC:List TypeId:=[358,385]
theorem jU.uV {w w':World} {base gB gs:Nat} {s:List UInt8} {b:PB} {xs:List xX} {sv:Value} {ws:List Nat} (h:jU w base gB s b xs sv) (hS:fD w gs ws) (hf:∀x∈xs,x.pv≠.pointer (some ⟨gs,0,none⟩)) (hg:w.grownBy w' (some gs)):jU w' base gB s b xs sv:=by
 refine⟨(hg.block gB h.blk.lt (fun e=> ?_)).trans h.blk,h.le,rE h.own hS.1 δ hg,h.len,?_,h.apart⟩
 ·injection e with e
  subst e;have h1:=h.blk;have h2:=hS.1;unfold aG at h1 h2;rw[h2] at h1;simp only[Option.some.injEq,Obj.cells.injEq] at h1;exact absurd h1.2.1 δ
 ·intro i x y h1 h2;obtain⟨a1,a2,a3⟩:=h.st i x y h1 h2;refine⟨a1,?_,rE a3 hS.1 δ hg⟩;generalize ho:y.set=o at *
  cases o with
  | none=>exact a2
  | some us=>
   obtain⟨g,e1,e2,e3⟩:=a2;refine⟨g,e1,e2,(hg.block g e3.1.lt (fun e=> ?_)).trans e3.1,e3.2⟩;injection e with e
   subst e;exact hf x (List.mem_of_getElem? h1) e1
theorem fD.tk {T:List TypeId} {base:Nat} {w w':World} {g:Nat} {ws:List Nat} (h:fD w g ws) (hk:aC T base w w') (ht:385∉T):fD w' g ws:=⟨hk.blk h.1 ht,h.2⟩
theorem aC.set {w w':World} {base g:Nat} {ws:List Nat} (h:fD w g ws) (hb:base≤g) (hg:w.grownBy w' (some g)):aC TC base w w':=
 aC.row hg (by have:=h.1.lt;omega) (fun m hm=>by injection hm with hm;subst hm;exact⟨hb,_,_,by simp[TC],h.1⟩)
theorem adX {base gB gs f0:Nat} {s:List UInt8} {b:PB} {ws:List Nat} {xs:List xX} {sv:Value} {R:PB×List Nat} {ds:List Deferred} {w0 w:World} {Q0:Exit→Act→World→Prop} {x2 x3 x4 x5 x7 x8 x9 Gf E8 BJ Ii E5 Jw DL H6 HY En Hz Em EZ EY EX DK DJ DI Ej Ei Eh Ef Ee Ed Ec Eb Ea D_ D9 D8 Hy EW EU ET ES ER EP EO EN EM EL EK EJ EI Ih Hw F9 D7 EH EG Ig Ie Ic Hu Ht Hr Hq F8 F7 F6 F5 Ho Hl Hg FZ FY FX FV FQ FP FN FM FK Jv Ju Jt Hf FH EF ED EC Ez Ey JM JL Ib Ia Oc L9 L8 tq sZ sW sV sU sS sQ sO sN sK sJ sH:Value}
 (h0:Hid (jU w base gB s b xs sv)) (ao8:Hid (fD w gs ws)) (nD:Hid (base≤gs)) (wO:Hid (∀x∈xs,x.pv≠.pointer (some ⟨gs,0,none⟩))) (hb0:Hid (base≤w0.heap.size)) (WE:Hid (aC TC base w0 w)) (Ur:Hid (s.length≤f0+b.at_)) (hR:Hid (oH s f0 true b ws=R)) (hW0:Hid (WP s 2 b)) (uq:s.length≤100)
 (hQ0:∀c a d v w,Q0 (.panic c) (Act.put a d v) w→Q0 (.panic c) a w)
 (oO:∀(u6 u7 u8 u9 u10 u11 u12 u28 u29 u30 u31 u32 u33 u34 u35 u36 u37 u38 u39 u40 u41 u42 u43 u44 u45 u46 u47 u48 u49 u50 u51 u52 u53 u54 u55 u56 u57 u58 u59 u60 u61 u62 u63 u64 u65 u66 u67 u68 u69 u70 u71 u72 u73 u74 u75 u76 u77 u78 u79 u80 u81 u82 u83 u84 u85 u86 u87 u88 u89 u90 u91 u92 u93 u94 u95 u96 u97 u98 u99 Vt Vs Vr Vq Vp Vo Vm Vl Vk Vj Vh Vg:Value) (wr:World),Hid (jU wr base gB s R.1 xs sv)∧Hid (fD wr gs R.2)∧Hid (aC TC base w0 wr)→Q0 .ret ⟨((.pointer (some ⟨gB,0,none⟩))::(.pointer (some ⟨gs,0,none⟩))::x2::x3::x4::x5::u6::u7::u8::u9::u10::u11::u12::Ii::E5::Jw::DL::H6::HY::En::Hz::Em::EZ::EY::EX::DK::DJ::DI::u28::u29::u30::u31::u32::u33::u34::u35::u36::u37::u38::u39::u40::u41::u42::u43::u44::u45::u46::u47::u48::u49::u50::u51::u52::u53::u54::u55::u56::u57::u58::u59::u60::u61::u62::u63::u64::u65::u66::u67::u68::u69::u70::u71::u72::u73::u74::u75::u76::u77::u78::u79::u80::u81::u82::u83::u84::u85::u86::u87::u88::u89::u90::u91::u92::u93::u94::u95::u96::u97::u98::u99::Vt::Vs::Vr::Vq::Vp::Vo::Vm::Vl::Vk::Vj::Vh::Vg::[]).toArray,ds⟩ wr) :
 Code.wp Tryz.prog (Ai Tryz.f276 0) Q0 ⟨((.pointer (some ⟨gB,0,none⟩))::(.pointer (some ⟨gs,0,none⟩))::x2::x3::x4::x5::(.bool true)::x7::x8::x9::Gf::E8::BJ::Ii::E5::Jw::DL::H6::HY::En::Hz::Em::EZ::EY::EX::DK::DJ::DI::Ej::Ei::Eh::Ef::Ee::Ed::Ec::Eb::Ea::D_::D9::D8::Hy::EW::EU::ET::ES::ER::EP::EO::EN::EM::EL::EK::EJ::EI::Ih::Hw::F9::D7::EH::EG::Ig::Ie::Ic::Hu::Ht::Hr::Hq::F8::F7::F6::F5::Ho::Hl::Hg::FZ::FY::FX::FV::FQ::FP::FN::FM::FK::Jv::Ju::Jt::Hf::FH::EF::ED::EC::Ez::Ey::JM::JL::Ib::Ia::Oc::L9::L8::tq::sZ::sW::sV::sU::sS::sQ::sO::sN::sK::sJ::sH::[]).toArray,ds⟩ w:=by
 conv=>arg 2;whnf
 have tC:Hid (∀t∈[358],t∈TC):=ζ (by intro t ht;simp[TC] at *;exact .inl ht);go_loopw [6] (fun i wr=>∃(f:Nat) (first:Bool) (bq:PB) (wq:List Nat),i =.bool first∧Hid (s.length≤f + bq.at_)∧Hid (oH s f first bq wq=R)∧Hid (WP s 2 bq)∧Hid (jU wr base gB s bq xs sv)∧Hid (fD wr gs wq)∧Hid (aC TC base w0 wr)) (fun _ wr=>s.length+5-(match wr.cell? ⟨gB,1,none⟩ with | some v=>(intOf v).toNat | none=>0))
 case atStart=>exact⟨f0,true,b,ws,rfl,Ur,hR,hW0,h0,ao8,WE⟩
 case round=>
  obtain⟨f,first,bq,wq,rfl,hf,iE,hW,h,aK,hG⟩:=hrel;clear hR h0 ao8 WE Ur hW0;have hb:=ζ (Nat.le_trans hb0.o hG.o.size);have hstep:=Zg (first:=first) (ws:=wq) hf.o;rw[iE.o] at hstep;have Bj:Hid (∀(w':World) (b':PB),jU w' base gB s b' xs sv→(match w'.cell? ⟨gB,1,none⟩ with | some v=>(intOf v).toNat | none=>0)=b'.at_):=ζ (fun w' b' hh=>by
   have e:w'.cell? ⟨gB,1,none⟩=some (.int .i64 (b'.at_:Int)):=(hh.blk.cell 1).trans rfl;rw[e];simp[intOf])
  have IL:=ζ (Bj.o _ _ h.o);go_wp2_with fail;refine (eP h.o).mono ?_;rintro e w1 ⟨rfl,dn⟩;replace h:=ζ (h.o.grows dn);replace hG:=ζ (hG.o.trans (aC.grows dn hb.o));replace hb:=ζ (Nat.le_trans hb.o dn.size);(try replace aK:=ζ (aK.o.grows dn))
  (try replace hX:=ζ (hX.o.grows dn))
  (try replace hP:=ζ (hP.o.grows dn))
  (try replace hR:=ζ (hR.o.grows dn))
  clear dn;cases hp:BK s bq with
  | none=>
   simp only[wR,hp];rw[hp] at hstep;replace hstep:=ζ hstep;clear hp;go_wp2_with fail;refine (kD h.o).mono ?_;rintro e w2 ⟨rfl,akH,KD⟩;(try replace aK:=ζ (aK.o.tk (aC.own h.o KD) δ))
   (try replace hX:=ζ ((aC.own h.o KD).blk hX.o δ))
   (try replace hP:=ζ ((aC.own h.o KD).blk hP.o δ))
   (try replace hR:=ζ ((aC.own h.o KD).blk hR.o δ))
   replace hG:=ζ (hG.o.trans ((aC.own h.o KD).mono tC.o));replace h:=ζ akH;replace hb:=ζ (Nat.le_trans hb0.o hG.o.size);clear akH KD;go_wp2;rw[hstep.o];exact⟨h,aK,hG⟩
  | some d=>
   simp only[wR,hp];rw[hp] at hstep;have hlen:=ζ (jc hp).2.1;clear hp;by_cases hd:d = 93
   ·subst hd;cases first with
    | true=>
     simp only[and_self,if_true] at hstep;replace hstep:=ζ hstep;go_wp2_with fail;refine (kD h.o).mono ?_;rintro e w2 ⟨rfl,akH,KD⟩;(try replace aK:=ζ (aK.o.tk (aC.own h.o KD) δ))
     (try replace hX:=ζ ((aC.own h.o KD).blk hX.o δ))
     (try replace hP:=ζ ((aC.own h.o KD).blk hP.o δ))
     (try replace hR:=ζ ((aC.own h.o KD).blk hR.o δ))
     replace hG:=ζ (hG.o.trans ((aC.own h.o KD).mono tC.o));replace h:=ζ akH;replace hb:=ζ (Nat.le_trans hb0.o hG.o.size);clear akH KD;go_wp2;rw[hstep.o];exact⟨h,aK,hG⟩
    | false=>
     simp only[Bool.false_eq_true,and_false,if_false,if_true] at hstep;replace hstep:=ζ hstep;have ha:bq.at_<100:=by have:=hlen.o;omega
     have c1:w1.cell? ⟨gB,1,none⟩=some (.int .i64 ((bq).at_:Int)):=(h.o.blk.cell 1).trans rfl;have f1:=h.o.blk.frozen 1;have l1:=h.o.blk.lt;have i1: -9223372036854775808≤((bq).at_:Int)+1∧((bq).at_:Int)+1≤9223372036854775807:=by first | omega | (simp only[aO];omega)
     have hA:=ζ h.o.N9;have nH:=ζ (hG.o.trans ((aC.own h.o (aj w1 ⟨gB,1,none⟩ (.int .i64 (((bq).at_:Int)+1)))).mono tC.o));have hsz:Hid ((w1.setCell ⟨gB,1,none⟩ (.int .i64 (((bq).at_:Int)+1))).heap.size=w1.heap.size):=ζ σ;go_wp2_with fail;(try replace aK:=ζ (aK.o.tk (aC.own h.o (aj w1 ⟨gB,1,none⟩ (.int .i64 (((bq).at_:Int)+1)))) δ))
     (try replace hX:=ζ ((aC.own h.o (aj w1 ⟨gB,1,none⟩ (.int .i64 (((bq).at_:Int)+1)))).blk hX.o δ))
     (try replace hP:=ζ ((aC.own h.o (aj w1 ⟨gB,1,none⟩ (.int .i64 (((bq).at_:Int)+1)))).blk hP.o δ))
     (try replace hR:=ζ ((aC.own h.o (aj w1 ⟨gB,1,none⟩ (.int .i64 (((bq).at_:Int)+1)))).blk hR.o δ))
     clear c1 f1 l1 i1 h hG;generalize w1.setCell ⟨gB,1,none⟩ (.int .i64 (((bq).at_:Int)+1))=w2 at *
     have h:=hA;have hG:=nH;clear hA nH;replace hb:=ζ (Nat.le_trans hb0.o hG.o.size);rw[hstep.o];exact⟨h,aK,hG⟩
   ·have hdi:¬(d.toNat:Int)=93:=fun e=>hd (UInt8.toNat_inj.1 (by show d.toNat=93;omega))
    simp only[hd,false_and,if_false] at hstep;clear hd;have avN:=hlen;have az5:=Iu hlen.o;go_wp2_with fail;refine (XT h.o hb.o (by have:=hlen.o;omega)).mono ?_;rintro e w3 ⟨rfl,h3,hg3⟩;replace aK:=ζ (aK.o.tk hg3 δ);replace hG:=ζ (hG.o.trans (hg3.mono tC.o));replace hb:=ζ (Nat.le_trans hb0.o hG.o.size);replace h:=ζ h3;clear h3 hg3;generalize kL s bq=r at *
    obtain⟨_,hWr,aqY,ab8⟩:=az5;replace hWr:=ζ hWr;replace ab8:=ζ ab8;clear aqY hdi hlen;have hlen:Hid (bq.at_<s.length):=avN;have har:r.1.at_<1000:=by have:=hWr.o.1;omega
    cases hp:BK s r.1 with
    | none=>
     have hrg:lF s r = r:=by unfold lF;rw[hp];simp
     have oW:wR s r.1=.tuple #[.int .u8 0,.bool false]:=by simp only[wR,hp]
     rw[hrg] at hstep;clear hp hrg;go_wp2_with fail;refine (eP h.o).mono ?_;rintro e w4 ⟨rfl,dR⟩;replace h:=ζ (h.o.grows dR);replace hG:=ζ (hG.o.trans (aC.grows dR hb.o));replace hb:=ζ (Nat.le_trans hb.o dR.size);(try replace aK:=ζ (aK.o.grows dR))
     (try replace hX:=ζ (hX.o.grows dR))
     (try replace hP:=ζ (hP.o.grows dR))
     (try replace hR:=ζ (hR.o.grows dR))
     clear dR;rw[oW];clear oW;go_wp2_with fail;refine aF κ ?_;refine rK (.range 31) 0 ?_;iterate 31 refine ay ?_
     refine aB ?_;refine aH κ (fun wN hN hS=> ?_);replace h:=ζ (h.o.grows hN);replace aK:=ζ (aK.o.grows hN);replace hG:=ζ (hG.o.trans (aC.grows hN hb.o));replace hb:=ζ (Nat.le_trans hb.o hN.size);clear hN hS;have Xm:=hWr;have Az:=ab8;rw[if_neg (Nat.lt_irrefl _)] at hstep;replace hstep:=ζ hstep;go_wp2_with fail;refine (kU (lo:=(r).2.toNat) (hi:=(r).2.toNat) aK.o (by have:=UInt8.toNat_lt (r).2;omega) (by have:=UInt8.toNat_lt (r).2;omega)).mono ?_;rintro e w9 ⟨rfl,CY,iP⟩;replace h:=ζ (h.o.uV aK.o wO.o iP);replace hG:=ζ (hG.o.trans (aC.set aK.o nD.o iP));replace aK:=ζ CY;clear CY iP;go_wp2;go_roundw
     case rel=>exact⟨f - 1,false,(r).1,_,rfl,ζ (by have:=hf.o;have:=Az.o;(try rw[dV]);omega),ζ hstep.o.symm,Xm,h,aK,hG⟩
     case measure=>rw[Bj.o _ _ h.o,IL.o];have:=Az.o;have:=hlen.o;(try rw[dV]);omega
    | some c=>
     have oW:wR s r.1=.tuple #[.int .u8 (c.toNat:Int),.bool true]:=by simp only[wR,hp]
     by_cases hc:c = 45
     ·subst hc;have oW:wR s r.1=.tuple #[.int .u8 45,.bool true]:=oW;have c0:∀w',jU w' base gB s r.1 xs sv→w'.cell? ⟨gB,0,none⟩=some (.string ⟨s.toArray⟩):=fun w' hh=>(hh.blk.cell 0).trans rfl
      have c1:∀w',jU w' base gB s r.1 xs sv→w'.cell? ⟨gB,1,none⟩=some (.int .i64 (r.1.at_:Int)):=fun w' hh=>(hh.blk.cell 1).trans rfl
      replace c0:=ζ c0;replace c1:=ζ c1;by_cases hl:r.1.at_+1<s.length
      ·obtain⟨e,he⟩:∃e,s[r.1.at_+1]? = some e:=⟨_,List.getElem?_eq_getElem hl⟩;have hli:(r.1.at_:Int)+1<(s.length:Int):=ω;have BN:∀h:r.1.at_+1<(⟨s.toArray⟩:ByteArray).size,(⟨s.toArray⟩:ByteArray)[r.1.at_+1]'h = e:=fun h=>by
        show s.toArray[r.1.at_+1]=e
        rw[List.getElem_toArray];exact (List.getElem?_eq_some_iff.1 he).2
       by_cases h93:e = 93
       ·have hrg:lF s r = r:=by unfold lF;rw[he];simp[h93]
        have aBV:(e.toNat:Int)=93:=by rw[h93];rfl
        clear h93;rw[hrg] at hstep;clear hp hrg hl;go_wp2_with fail;refine (eP h.o).mono ?_;rintro e w4 ⟨rfl,dR⟩;replace h:=ζ (h.o.grows dR);replace hG:=ζ (hG.o.trans (aC.grows dR hb.o));replace hb:=ζ (Nat.le_trans hb.o dR.size);(try replace aK:=ζ (aK.o.grows dR))
        (try replace hX:=ζ (hX.o.grows dR))
        (try replace hP:=ζ (hP.o.grows dR))
        (try replace hR:=ζ (hR.o.grows dR))
        clear dR;rw[oW];clear oW;replace c0:=c0.out _ h.o;replace c1:=c1.out _ h.o;have l1:=h.o.blk.lt;go_wp2_with fail;refine aF κ ?_;refine rK (.range 31) 0 ?_;iterate 31 refine ay ?_
        refine aB ?_;refine aH κ (fun wN hN hS=> ?_);clear c0 c1 l1;replace h:=ζ (h.o.grows hN);replace aK:=ζ (aK.o.grows hN);replace hG:=ζ (hG.o.trans (aC.grows hN hb.o));replace hb:=ζ (Nat.le_trans hb.o hN.size);clear hN hS;have Xm:=hWr;have Az:=ab8;rw[if_neg (Nat.lt_irrefl _)] at hstep;replace hstep:=ζ hstep;go_wp2_with fail;refine (kU (lo:=(r).2.toNat) (hi:=(r).2.toNat) aK.o (by have:=UInt8.toNat_lt (r).2;omega) (by have:=UInt8.toNat_lt (r).2;omega)).mono ?_;rintro e w9 ⟨rfl,CY,iP⟩;replace h:=ζ (h.o.uV aK.o wO.o iP);replace hG:=ζ (hG.o.trans (aC.set aK.o nD.o iP));replace aK:=ζ CY;clear CY iP;go_wp2;go_roundw
        case rel=>exact⟨f - 1,false,(r).1,_,rfl,ζ (by have:=hf.o;have:=Az.o;(try rw[dV]);omega),ζ hstep.o.symm,Xm,h,aK,hG⟩
        case measure=>rw[Bj.o _ _ h.o,IL.o];have:=Az.o;have:=hlen.o;(try rw[dV]);omega
       ·have hrg:lF s r = kL s (aO r.1):=by unfold lF;rw[if_pos ⟨hp,hl,by rw[he];simpa using h93⟩]
        have aBV:¬(e.toNat:Int)=93:=fun x=>h93 (UInt8.toNat_inj.1 (by show e.toNat=93;omega))
        have DW:(aO r.1).at_<s.length:=hl;have hq:=Iu DW;rw[hrg] at hstep;replace hstep:=ζ hstep;clear hp hrg hl h93;go_wp2_with fail;refine (eP h.o).mono ?_;rintro e w4 ⟨rfl,dR⟩;replace h:=ζ (h.o.grows dR);replace hG:=ζ (hG.o.trans (aC.grows dR hb.o));replace hb:=ζ (Nat.le_trans hb.o dR.size);(try replace aK:=ζ (aK.o.grows dR))
        (try replace hX:=ζ (hX.o.grows dR))
        (try replace hP:=ζ (hP.o.grows dR))
        (try replace hR:=ζ (hR.o.grows dR))
        clear dR;rw[oW];clear oW;replace c0:=c0.out _ h.o;replace c1:=c1.out _ h.o;have l1:=h.o.blk.lt;go_wp2_with fail;refine aF κ ?_;refine rK (.range 31) 0 ?_;iterate 31 refine ay ?_
        refine aB ?_;refine aH κ (fun wN hN hS=> ?_);clear c0 c1 l1;replace h:=ζ (h.o.grows hN);replace aK:=ζ (aK.o.grows hN);replace hG:=ζ (hG.o.trans (aC.grows hN hb.o));replace hb:=ζ (Nat.le_trans hb.o hN.size);clear hN hS;have c1:wN.cell? ⟨gB,1,none⟩=some (.int .i64 ((r.1).at_:Int)):=(h.o.blk.cell 1).trans rfl;have f1:=h.o.blk.frozen 1;have l1:=h.o.blk.lt;have i1: -9223372036854775808≤((r.1).at_:Int)+1∧((r.1).at_:Int)+1≤9223372036854775807:=by first | omega | (simp only[aO];omega)
        have hA:=ζ h.o.N9;have nH:=ζ (hG.o.trans ((aC.own h.o (aj wN ⟨gB,1,none⟩ (.int .i64 (((r.1).at_:Int)+1)))).mono tC.o));have hsz:Hid ((wN.setCell ⟨gB,1,none⟩ (.int .i64 (((r.1).at_:Int)+1))).heap.size=wN.heap.size):=ζ σ;go_wp2_with fail;(try replace aK:=ζ (aK.o.tk (aC.own h.o (aj wN ⟨gB,1,none⟩ (.int .i64 (((r.1).at_:Int)+1)))) δ))
        (try replace hX:=ζ ((aC.own h.o (aj wN ⟨gB,1,none⟩ (.int .i64 (((r.1).at_:Int)+1)))).blk hX.o δ))
        (try replace hP:=ζ ((aC.own h.o (aj wN ⟨gB,1,none⟩ (.int .i64 (((r.1).at_:Int)+1)))).blk hP.o δ))
        (try replace hR:=ζ ((aC.own h.o (aj wN ⟨gB,1,none⟩ (.int .i64 (((r.1).at_:Int)+1)))).blk hR.o δ))
        clear c1 f1 l1 i1 h hG;generalize wN.setCell ⟨gB,1,none⟩ (.int .i64 (((r.1).at_:Int)+1))=w5 at *
        have h:=hA;have hG:=nH;clear hA nH;replace hb:=ζ (Nat.le_trans hb0.o hG.o.size);refine (XT h.o hb.o (by simp only[aO];omega)).mono ?_;rintro e w6 ⟨rfl,h3,hg3⟩;replace aK:=ζ (aK.o.tk hg3 δ);replace hG:=ζ (hG.o.trans (hg3.mono tC.o));replace hb:=ζ (Nat.le_trans hb0.o hG.o.size);replace h:=ζ h3;clear h3 hg3;replace hstep:=hstep.o;generalize kL s (aO r.1)=q at *
        obtain⟨_,Xm,aqY,Az⟩:=hq;replace Xm:=ζ Xm;have awm:Hid (bq.at_<q.1.at_):=ζ (by have:=ab8.o;simp only[aO] at Az;omega);clear aqY Az DW;have Az:=awm;by_cases hlt:(q).2.toNat<(r).2.toNat
        ·have anw:(((q).2.toNat:Nat):Int)<(((r).2.toNat:Nat):Int):=ω;rw[if_pos hlt] at hstep;replace hstep:=ζ hstep;clear hlt;go_wp2_with fail;refine (kD h.o).mono ?_;rintro e w8 ⟨rfl,awZ,Gy⟩;(try replace aK:=ζ (aK.o.tk (aC.own h.o Gy) δ))
         (try replace hX:=ζ ((aC.own h.o Gy).blk hX.o δ))
         (try replace hP:=ζ ((aC.own h.o Gy).blk hP.o δ))
         (try replace hR:=ζ ((aC.own h.o Gy).blk hR.o δ))
         replace hG:=ζ (hG.o.trans ((aC.own h.o Gy).mono tC.o));replace h:=ζ awZ;replace hb:=ζ (Nat.le_trans hb0.o hG.o.size);clear awZ Gy;go_wp2_with fail;refine (kU (lo:=(r).2.toNat) (hi:=(q).2.toNat) aK.o (by have:=UInt8.toNat_lt (r).2;omega) (by have:=UInt8.toNat_lt (q).2;omega)).mono ?_;rintro e w9 ⟨rfl,CY,iP⟩;replace h:=ζ (h.o.uV aK.o wO.o iP);replace hG:=ζ (hG.o.trans (aC.set aK.o nD.o iP));replace aK:=ζ CY;clear CY iP;go_wp2;go_roundw
         case rel=>exact⟨f - 1,false,(bU 2 (q).1),_,rfl,ζ (by have:=hf.o;have:=Az.o;(try rw[dV]);omega),ζ hstep.o.symm,(ζ (pW (e:=2) δ Xm.o.1)),h,aK,hG⟩
         case measure=>rw[Bj.o _ _ h.o,IL.o];have:=Az.o;have:=hlen.o;(try rw[dV]);omega
        ·have anw:¬(((q).2.toNat:Nat):Int)<(((r).2.toNat:Nat):Int):=ω;rw[if_neg hlt] at hstep;replace hstep:=ζ hstep;clear hlt;go_wp2_with fail;refine (kU (lo:=(r).2.toNat) (hi:=(q).2.toNat) aK.o (by have:=UInt8.toNat_lt (r).2;omega) (by have:=UInt8.toNat_lt (q).2;omega)).mono ?_;rintro e w9 ⟨rfl,CY,iP⟩;replace h:=ζ (h.o.uV aK.o wO.o iP);replace hG:=ζ (hG.o.trans (aC.set aK.o nD.o iP));replace aK:=ζ CY;clear CY iP;go_wp2;go_roundw
         case rel=>exact⟨f - 1,false,(q).1,_,rfl,ζ (by have:=hf.o;have:=Az.o;(try rw[dV]);omega),ζ hstep.o.symm,Xm,h,aK,hG⟩
         case measure=>rw[Bj.o _ _ h.o,IL.o];have:=Az.o;have:=hlen.o;(try rw[dV]);omega
      ·have hrg:lF s r = r:=by unfold lF;rw[if_neg (fun x=>hl x.2.1)]
       have hli:((r.1.at_:Int)+1<(s.length:Int))=False:=by simp only[eq_iff_iff,iff_false];omega
       rw[hrg] at hstep;clear hp hrg hl;go_wp2_with fail;refine (eP h.o).mono ?_;rintro e w4 ⟨rfl,dR⟩;replace h:=ζ (h.o.grows dR);replace hG:=ζ (hG.o.trans (aC.grows dR hb.o));replace hb:=ζ (Nat.le_trans hb.o dR.size);(try replace aK:=ζ (aK.o.grows dR))
       (try replace hX:=ζ (hX.o.grows dR))
       (try replace hP:=ζ (hP.o.grows dR))
       (try replace hR:=ζ (hR.o.grows dR))
       clear dR;rw[oW];clear oW;replace c0:=c0.out _ h.o;replace c1:=c1.out _ h.o;have l1:=h.o.blk.lt;go_wp2_with fail;refine aF κ ?_;refine rK (.range 31) 0 ?_;iterate 31 refine ay ?_
       refine aB ?_;refine aH κ (fun wN hN hS=> ?_);clear c0 c1 l1;replace h:=ζ (h.o.grows hN);replace aK:=ζ (aK.o.grows hN);replace hG:=ζ (hG.o.trans (aC.grows hN hb.o));replace hb:=ζ (Nat.le_trans hb.o hN.size);clear hN hS;have Xm:=hWr;have Az:=ab8;rw[if_neg (Nat.lt_irrefl _)] at hstep;replace hstep:=ζ hstep;go_wp2_with fail;refine (kU (lo:=(r).2.toNat) (hi:=(r).2.toNat) aK.o (by have:=UInt8.toNat_lt (r).2;omega) (by have:=UInt8.toNat_lt (r).2;omega)).mono ?_;rintro e w9 ⟨rfl,CY,iP⟩;replace h:=ζ (h.o.uV aK.o wO.o iP);replace hG:=ζ (hG.o.trans (aC.set aK.o nD.o iP));replace aK:=ζ CY;clear CY iP;go_wp2;go_roundw
       case rel=>exact⟨f - 1,false,(r).1,_,rfl,ζ (by have:=hf.o;have:=Az.o;(try rw[dV]);omega),ζ hstep.o.symm,Xm,h,aK,hG⟩
       case measure=>rw[Bj.o _ _ h.o,IL.o];have:=Az.o;have:=hlen.o;(try rw[dV]);omega
     ·have hrg:lF s r = r:=by unfold lF;rw[hp];simp[hc]
      have hci:¬(c.toNat:Int)=45:=fun e=>hc (UInt8.toNat_inj.1 (by show c.toNat=45;omega))
      rw[hrg] at hstep;clear hp hrg hc;go_wp2_with fail;refine (eP h.o).mono ?_;rintro e w4 ⟨rfl,dR⟩;replace h:=ζ (h.o.grows dR);replace hG:=ζ (hG.o.trans (aC.grows dR hb.o));replace hb:=ζ (Nat.le_trans hb.o dR.size);(try replace aK:=ζ (aK.o.grows dR))
      (try replace hX:=ζ (hX.o.grows dR))
      (try replace hP:=ζ (hP.o.grows dR))
      (try replace hR:=ζ (hR.o.grows dR))
      clear dR;rw[oW];clear oW;go_wp2_with fail;refine aF κ ?_;refine rK (.range 31) 0 ?_;iterate 31 refine ay ?_
      refine aB ?_;refine aH κ (fun wN hN hS=> ?_);replace h:=ζ (h.o.grows hN);replace aK:=ζ (aK.o.grows hN);replace hG:=ζ (hG.o.trans (aC.grows hN hb.o));replace hb:=ζ (Nat.le_trans hb.o hN.size);clear hN hS;have Xm:=hWr;have Az:=ab8;rw[if_neg (Nat.lt_irrefl _)] at hstep;replace hstep:=ζ hstep;go_wp2_with fail;refine (kU (lo:=(r).2.toNat) (hi:=(r).2.toNat) aK.o (by have:=UInt8.toNat_lt (r).2;omega) (by have:=UInt8.toNat_lt (r).2;omega)).mono ?_;rintro e w9 ⟨rfl,CY,iP⟩;replace h:=ζ (h.o.uV aK.o wO.o iP);replace hG:=ζ (hG.o.trans (aC.set aK.o nD.o iP));replace aK:=ζ CY;clear CY iP;go_wp2;go_roundw
      case rel=>exact⟨f - 1,false,(r).1,_,rfl,ζ (by have:=hf.o;have:=Az.o;(try rw[dV]);omega),ζ hstep.o.symm,Xm,h,aK,hG⟩
      case measure=>rw[Bj.o _ _ h.o,IL.o];have:=Az.o;have:=hlen.o;(try rw[dV]);omega
theorem Yj {P:Program} {fn:Func} {t1 t2:Array Value} {R:Ending→World→Prop} (h:results fn t1=results fn t2):∀(ds:List Deferred) (u:FrameMode) (w:World),Leaves P fn t1 R ds u w→Leaves P fn t2 R ds u w:=by
 intro ds;induction ds with
 | nil=>
  intro u w hl;cases u with
  | run=>exact hl
  | returning=>obtain⟨v,h1,h2⟩:=hl;exact⟨v,h ▸ h1,h2⟩
  | panicking c=>exact hl
 | cons d ds ih=>
  intro u w hl;obtain⟨hu,fv,cap,f,args,h1,h2,h3⟩:=hl;refine⟨hu,fv,cap,f,args,h1,h2,h3.mono fun e u' w' h4=> ?_⟩;cases e with
  | returned v=>exact ih _ _ h4
  | panicked c=>exact ih _ _ h4
  | outgrown=>exact h4
def ahi (base gB gs:Nat) (s:List UInt8) (xs:List xX) (sv:Value) (w:World) (r:PB×List Nat) (e:Ending) (w':World):Prop:=
 e =.returned (.tuple #[])∧jU w' base gB s r.1 xs sv∧fD w' gs r.2∧aC TC base w w'
theorem abd (t1 t2:Array Value):results Tryz.f276 t1=results Tryz.f276 t2:=by
 simp[results]
theorem Zf {R:Ending→World→Prop} (c:List PanicEntry) (a:Act) (d:Option Tmp) (v:Value) (w:World) (h:Exit.inBlock 0 (bodyPostD Tryz.prog Tryz.f276 R) (.panic c) (Act.put a d v) w):Exit.inBlock 0 (bodyPostD Tryz.prog Tryz.f276 R) (.panic c) a w:=by
 cases d with
 | none=>exact h
 | some d=>exact Yj (abd _ _) _ _ _ h
theorem agV {w:World} {base gB gs:Nat} {s:List UInt8} {b:PB} {xs:List xX} {sv:Value} (h:jU w base gB s b xs sv) (aK:fD w gs fC) (nD:base≤gs) (wO:∀x∈xs,x.pv≠.pointer (some ⟨gs,0,none⟩)) (hb:base≤w.heap.size) (uq:s.length≤100) (hW:b.at_≤s.length) :
 Calls Tryz.prog 276 #[.pointer (some ⟨gB,0,none⟩),.pointer (some ⟨gs,0,none⟩)] w (ahi base gB gs s xs sv w (nJ s b)):=by
 replace hb:=ζ hb;have hb0:=hb;have hG:=ζ (aC.refl TC base w);have tC:Hid (∀t∈[358],t∈TC):=ζ (by intro t ht;simp[TC] at *;exact .inl ht);replace h:=ζ h;replace aK:=ζ aK;replace nD:=ζ nD;replace wO:=ζ wO;have hWH:=ζ hW;by_cases hp:BK s b = some 94
 ·have hcp:nJ s b = ((oH s (s.length+1) true (aO b) fC).1,ou (oH s (s.length+1) true (aO b) fC).2):=by unfold nJ;rw[if_pos hp]
  have oW:wR s b =.tuple #[.int .u8 94,.bool true]:=by simp only[wR,hp];rfl
  have DW:Hid ((aO b).at_≤s.length):=ζ (jc hp).2.1;replace hcp:=ζ hcp;clear hp;go_enter_defers Tryz.func276,Tryz.ntmps276
  go_wp2_with fail;refine (eP h.o).mono ?_;rintro e w1 ⟨rfl,dn⟩;replace h:=ζ (h.o.grows dn);replace hG:=ζ (hG.o.trans (aC.grows dn hb.o));replace hb:=ζ (Nat.le_trans hb.o dn.size);(try replace aK:=ζ (aK.o.grows dn))
  (try replace hX:=ζ (hX.o.grows dn))
  (try replace hP:=ζ (hP.o.grows dn))
  (try replace hR:=ζ (hR.o.grows dn))
  clear dn;rw[oW];clear oW;have c1:w1.cell? ⟨gB,1,none⟩=some (.int .i64 ((b).at_:Int)):=(h.o.blk.cell 1).trans rfl;have f1:=h.o.blk.frozen 1;have l1:=h.o.blk.lt;have i1: -9223372036854775808≤((b).at_:Int)+1∧((b).at_:Int)+1≤9223372036854775807:=by first | omega | (simp only[aO];omega)
  have hA:=ζ h.o.N9;have nH:=ζ (hG.o.trans ((aC.own h.o (aj w1 ⟨gB,1,none⟩ (.int .i64 (((b).at_:Int)+1)))).mono tC.o));have hsz:Hid ((w1.setCell ⟨gB,1,none⟩ (.int .i64 (((b).at_:Int)+1))).heap.size=w1.heap.size):=ζ σ;go_wp2_with fail;(try replace aK:=ζ (aK.o.tk (aC.own h.o (aj w1 ⟨gB,1,none⟩ (.int .i64 (((b).at_:Int)+1)))) δ))
  (try replace hX:=ζ ((aC.own h.o (aj w1 ⟨gB,1,none⟩ (.int .i64 (((b).at_:Int)+1)))).blk hX.o δ))
  (try replace hP:=ζ ((aC.own h.o (aj w1 ⟨gB,1,none⟩ (.int .i64 (((b).at_:Int)+1)))).blk hP.o δ))
  (try replace hR:=ζ ((aC.own h.o (aj w1 ⟨gB,1,none⟩ (.int .i64 (((b).at_:Int)+1)))).blk hR.o δ))
  clear c1 f1 l1 i1 h hG;generalize w1.setCell ⟨gB,1,none⟩ (.int .i64 (((b).at_:Int)+1))=w2 at *
  have h:=hA;have hG:=nH;clear hA nH;replace hb:=ζ (Nat.le_trans hb0.o hG.o.size);refine adX (f0:=s.length+1) h aK nD wO hb0 hG (ζ ω) (ζ rfl) (ζ (WP.of_le DW.o)) uq Zf ?_;intros
  rename_i w9 hrel;obtain⟨h9,CY,Nl⟩:=hrel;refine leaves_cons (f:=277) (args:= #[.pointer (some ⟨gs,0,none⟩)]) σ (by simp[go_sem]) ?_;refine (XF (u:=.returning) CY.o).mono ?_;rintro e u' w'' ⟨rfl,rfl,az3,Bl⟩;refine⟨_,results_none rfl _ _ _,rfl,?_⟩;rw[hcp.o];exact⟨h9.o.uV CY.o wO.o Bl,az3,Nl.o.trans (aC.set CY.o nD.o Bl)⟩
 ·have hcp:nJ s b = oH s (s.length+1) true b fC:=by unfold nJ;rw[if_neg hp]
  obtain⟨c,ok,oW,hc⟩:∃(c:Int) (ok:Bool),wR s b =.tuple #[.int .u8 c,.bool ok]∧¬c = 94:=by
   cases hq:BK s b with
   | none=>exact⟨0,false,by simp only[wR,hq],δ⟩
   | some d=>exact⟨(d.toNat:Int),true,by simp only[wR,hq],fun e=>hp (by rw[hq];congr 1;exact UInt8.toNat_inj.1 (by show d.toNat=94;omega))⟩
  rw[hcp];clear hp hcp;go_enter_defers Tryz.func276,Tryz.ntmps276
  go_wp2_with fail;refine (eP h.o).mono ?_;rintro e w1 ⟨rfl,dn⟩;replace h:=ζ (h.o.grows dn);replace hG:=ζ (hG.o.trans (aC.grows dn hb.o));replace hb:=ζ (Nat.le_trans hb.o dn.size);(try replace aK:=ζ (aK.o.grows dn))
  (try replace hX:=ζ (hX.o.grows dn))
  (try replace hP:=ζ (hP.o.grows dn))
  (try replace hR:=ζ (hR.o.grows dn))
  clear dn;rw[oW];clear oW;go_wp2_with fail;refine adX (f0:=s.length+1) h aK nD wO hb0 hG (ζ ω) (ζ rfl) (ζ (WP.of_le hWH.o)) uq Zf ?_;intros
  rename_i w9 hrel;obtain⟨h9,CY,Nl⟩:=hrel;exact⟨_,results_none rfl _ _ _,rfl,h9.o,CY.o,Nl.o⟩
end Go.Proofs.YtbhikkgpcmkonaaGreatDoor
