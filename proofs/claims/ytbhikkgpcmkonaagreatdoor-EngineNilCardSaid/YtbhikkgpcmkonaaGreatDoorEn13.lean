/- Parts: PatG PatH PatI PatJ -/
import Derived.Test.YtbhikkgpcmkonaaGreatDoorEn0
import Derived.Test.YtbhikkgpcmkonaaGreatDoorEn12
import Derived.Defers
set_option maxRecDepth 100000
set_option maxHeartbeats 12800000
namespace Go.Proofs.YtbhikkgpcmkonaaGreatDoor
open Go.RowKit
def aiU (base gB:Nat) (s:List UInt8) (xs:List vP) (sv:Value) (w:World) (v:Value) (b:PB) (e:Ending) (w':World):Prop:=
 e =.returned v∧jd w' base gB s b xs sv∧au [358] base w w'
theorem jd.Jf {w:World} {base gB:Nat} {s:List UInt8} {b:PB} {xs:List vP} {sv:Value} (h:jd w base gB s b xs sv):jd (w.setCell ⟨gB,1,none⟩ (.int .i64 ((b.at_:Int)+1))) base gB s (aI b) xs sv:=by
 refine h.turn (aj w _ _) rfl ?_;have:=h.blk.aW 1 (.int .i64 ((b.at_:Int)+1));simpa[aI] using this
theorem au.own {w w':World} {base gB:Nat} {s:List UInt8} {b:PB} {xs:List vP} {sv:Value} (h:jd w base gB s b xs sv) (hg:w.grownBy w' (some gB)):au [358] base w w':=
 au.row hg (by have:=h.blk.lt;have:=h.le;omega) (fun m hm=>by injection hm with hm;subst hm;exact⟨h.le,_,_,by simp,h.blk⟩)
theorem Si {w:World} {base gB:Nat} {s:List UInt8} {b:PB} {xs:List vP} {sv:Value} (h:jd w base gB s b xs sv) (hb:base≤w.heap.size) (ha:b.at_<1000000) :
 Calls Tryz.prog 281 #[.pointer (some ⟨gB,0,none⟩)] w (aiU base gB s xs sv w (.int .u8 ((jr s b).2.toNat:Int)) (jr s b).1):=by
 replace hb:=ζ hb;have hb0:=hb;have qF:Hid (∀t∈[358],t∈[358]):=ζ (fun _ h=>h);have hG:=ζ (au.refl [358] base w);replace h:=ζ h;cases hp:yc s b with
 | none=>
  have Xj:jr s b = (aZ 2 (aI b),0):=by unfold jr;rw[hp];rfl
  have nT:sW s b =.tuple #[.int .u8 0,.bool false]:=by simp only[sW,hp]
  replace Xj:=ζ Xj;clear hp;go_enter Tryz.func281,Tryz.ntmps281
  go_wp2_with fail;refine (dQ h.o).mono ?_;rintro e w1 ⟨rfl,bU⟩;replace h:=ζ (h.o.grows bU);replace hG:=ζ (hG.o.trans (au.grows bU hb.o));replace hb:=ζ (Nat.le_trans hb.o bU.size);(try replace aG:=ζ (aG.o.grows bU))
  (try replace hX:=ζ (hX.o.grows bU))
  (try replace hP:=ζ (hP.o.grows bU))
  (try replace hR:=ζ (hR.o.grows bU))
  clear bU;rw[nT];clear nT;have c1:w1.cell? ⟨gB,1,none⟩=some (.int .i64 ((b).at_:Int)):=(h.o.blk.cell 1).trans rfl;have f1:=h.o.blk.frozen 1;have l1:=h.o.blk.lt;have i1: -9223372036854775808≤((b).at_:Int)+1∧((b).at_:Int)+1≤9223372036854775807:=by first | omega | (simp only[aI];omega)
  have hA:=ζ h.o.Jf;have kN:=ζ (hG.o.trans ((au.own h.o (aj w1 ⟨gB,1,none⟩ (.int .i64 (((b).at_:Int)+1)))).mono qF.o));have hsz:Hid ((w1.setCell ⟨gB,1,none⟩ (.int .i64 (((b).at_:Int)+1))).heap.size=w1.heap.size):=ζ σ;go_wp2_with fail;(try replace aG:=ζ (aG.o.tk (au.own h.o (aj w1 ⟨gB,1,none⟩ (.int .i64 (((b).at_:Int)+1)))) δ))
  (try replace hX:=ζ ((au.own h.o (aj w1 ⟨gB,1,none⟩ (.int .i64 (((b).at_:Int)+1)))).blk hX.o δ))
  (try replace hP:=ζ ((au.own h.o (aj w1 ⟨gB,1,none⟩ (.int .i64 (((b).at_:Int)+1)))).blk hP.o δ))
  (try replace hR:=ζ ((au.own h.o (aj w1 ⟨gB,1,none⟩ (.int .i64 (((b).at_:Int)+1)))).blk hR.o δ))
  clear c1 f1 l1 i1 h hG;generalize w1.setCell ⟨gB,1,none⟩ (.int .i64 (((b).at_:Int)+1))=w2 at *
  have h:=hA;have hG:=kN;clear hA kN;replace hb:=ζ (Nat.le_trans hb0.o hG.o.size);refine (ji h.o).mono ?_;rintro e w3 ⟨rfl,ap8,qU⟩;(try replace aG:=ζ (aG.o.tk (au.own h.o qU) δ))
  (try replace hX:=ζ ((au.own h.o qU).blk hX.o δ))
  (try replace hP:=ζ ((au.own h.o qU).blk hP.o δ))
  (try replace hR:=ζ ((au.own h.o qU).blk hR.o δ))
  replace hG:=ζ (hG.o.trans ((au.own h.o qU).mono qF.o));replace h:=ζ ap8;replace hb:=ζ (Nat.le_trans hb0.o hG.o.size);clear ap8 qU;go_wp2_with fail;go_ret;rw[Xj.o];exact⟨rfl,h.o,hG.o⟩
 | some c=>
  have rZ:=c.toNat_lt;by_cases hc:c = 92
  ·subst hc;have nT:sW s b =.tuple #[.int .u8 92,.bool true]:=by simp only[sW,hp];rfl
   cases hq:yc s (aI b) with
   | none=>
    have Xj:jr s b = (aZ 2 (aI (aI b)),0):=by unfold jr;rw[hp,if_pos rfl,hq]
    have hqv:sW s (aI b)=.tuple #[.int .u8 0,.bool false]:=by simp only[sW,hq]
    replace Xj:=ζ Xj;clear hp hq rZ;go_enter Tryz.func281,Tryz.ntmps281
    go_wp2_with fail;refine (dQ h.o).mono ?_;rintro e w1 ⟨rfl,bU⟩;replace h:=ζ (h.o.grows bU);replace hG:=ζ (hG.o.trans (au.grows bU hb.o));replace hb:=ζ (Nat.le_trans hb.o bU.size);(try replace aG:=ζ (aG.o.grows bU))
    (try replace hX:=ζ (hX.o.grows bU))
    (try replace hP:=ζ (hP.o.grows bU))
    (try replace hR:=ζ (hR.o.grows bU))
    clear bU;rw[nT];clear nT;have c1:w1.cell? ⟨gB,1,none⟩=some (.int .i64 ((b).at_:Int)):=(h.o.blk.cell 1).trans rfl;have f1:=h.o.blk.frozen 1;have l1:=h.o.blk.lt;have i1: -9223372036854775808≤((b).at_:Int)+1∧((b).at_:Int)+1≤9223372036854775807:=by first | omega | (simp only[aI];omega)
    have hA:=ζ h.o.Jf;have kN:=ζ (hG.o.trans ((au.own h.o (aj w1 ⟨gB,1,none⟩ (.int .i64 (((b).at_:Int)+1)))).mono qF.o));have hsz:Hid ((w1.setCell ⟨gB,1,none⟩ (.int .i64 (((b).at_:Int)+1))).heap.size=w1.heap.size):=ζ σ;go_wp2_with fail;(try replace aG:=ζ (aG.o.tk (au.own h.o (aj w1 ⟨gB,1,none⟩ (.int .i64 (((b).at_:Int)+1)))) δ))
    (try replace hX:=ζ ((au.own h.o (aj w1 ⟨gB,1,none⟩ (.int .i64 (((b).at_:Int)+1)))).blk hX.o δ))
    (try replace hP:=ζ ((au.own h.o (aj w1 ⟨gB,1,none⟩ (.int .i64 (((b).at_:Int)+1)))).blk hP.o δ))
    (try replace hR:=ζ ((au.own h.o (aj w1 ⟨gB,1,none⟩ (.int .i64 (((b).at_:Int)+1)))).blk hR.o δ))
    clear c1 f1 l1 i1 h hG;generalize w1.setCell ⟨gB,1,none⟩ (.int .i64 (((b).at_:Int)+1))=w2 at *
    have h:=hA;have hG:=kN;clear hA kN;replace hb:=ζ (Nat.le_trans hb0.o hG.o.size);go_wp2_with fail;refine (dQ h.o).mono ?_;rintro e w3 ⟨rfl,qU⟩;replace h:=ζ (h.o.grows qU);replace hG:=ζ (hG.o.trans (au.grows qU hb.o));replace hb:=ζ (Nat.le_trans hb.o qU.size);(try replace aG:=ζ (aG.o.grows qU))
    (try replace hX:=ζ (hX.o.grows qU))
    (try replace hP:=ζ (hP.o.grows qU))
    (try replace hR:=ζ (hR.o.grows qU))
    clear qU;rw[hqv];clear hqv;have c1:w3.cell? ⟨gB,1,none⟩=some (.int .i64 (((aI b)).at_:Int)):=(h.o.blk.cell 1).trans rfl;have f1:=h.o.blk.frozen 1;have l1:=h.o.blk.lt;have i1: -9223372036854775808≤(((aI b)).at_:Int)+1∧(((aI b)).at_:Int)+1≤9223372036854775807:=by first | omega | (simp only[aI];omega)
    have hA:=ζ h.o.Jf;have kN:=ζ (hG.o.trans ((au.own h.o (aj w3 ⟨gB,1,none⟩ (.int .i64 ((((aI b)).at_:Int)+1)))).mono qF.o));have hsz:Hid ((w3.setCell ⟨gB,1,none⟩ (.int .i64 ((((aI b)).at_:Int)+1))).heap.size=w3.heap.size):=ζ σ;go_wp2_with fail;(try replace aG:=ζ (aG.o.tk (au.own h.o (aj w3 ⟨gB,1,none⟩ (.int .i64 ((((aI b)).at_:Int)+1)))) δ))
    (try replace hX:=ζ ((au.own h.o (aj w3 ⟨gB,1,none⟩ (.int .i64 ((((aI b)).at_:Int)+1)))).blk hX.o δ))
    (try replace hP:=ζ ((au.own h.o (aj w3 ⟨gB,1,none⟩ (.int .i64 ((((aI b)).at_:Int)+1)))).blk hP.o δ))
    (try replace hR:=ζ ((au.own h.o (aj w3 ⟨gB,1,none⟩ (.int .i64 ((((aI b)).at_:Int)+1)))).blk hR.o δ))
    clear c1 f1 l1 i1 h hG;generalize w3.setCell ⟨gB,1,none⟩ (.int .i64 ((((aI b)).at_:Int)+1))=w4 at *
    have h:=hA;have hG:=kN;clear hA kN;replace hb:=ζ (Nat.le_trans hb0.o hG.o.size);refine (ji h.o).mono ?_;rintro e w5 ⟨rfl,aeZ,FH⟩;(try replace aG:=ζ (aG.o.tk (au.own h.o FH) δ))
    (try replace hX:=ζ ((au.own h.o FH).blk hX.o δ))
    (try replace hP:=ζ ((au.own h.o FH).blk hP.o δ))
    (try replace hR:=ζ ((au.own h.o FH).blk hR.o δ))
    replace hG:=ζ (hG.o.trans ((au.own h.o FH).mono qF.o));replace h:=ζ aeZ;replace hb:=ζ (Nat.le_trans hb0.o hG.o.size);clear aeZ FH;go_wp2_with fail;go_ret;rw[Xj.o];exact⟨rfl,h.o,hG.o⟩
   | some d=>
    have Xj:jr s b = (aI (aI b),d):=by unfold jr;rw[hp,if_pos rfl,hq]
    have hqv:sW s (aI b)=.tuple #[.int .u8 (d.toNat:Int),.bool true]:=by simp only[sW,hq]
    replace Xj:=ζ Xj;clear hp hq rZ;go_enter Tryz.func281,Tryz.ntmps281
    go_wp2_with fail;refine (dQ h.o).mono ?_;rintro e w1 ⟨rfl,bU⟩;replace h:=ζ (h.o.grows bU);replace hG:=ζ (hG.o.trans (au.grows bU hb.o));replace hb:=ζ (Nat.le_trans hb.o bU.size);(try replace aG:=ζ (aG.o.grows bU))
    (try replace hX:=ζ (hX.o.grows bU))
    (try replace hP:=ζ (hP.o.grows bU))
    (try replace hR:=ζ (hR.o.grows bU))
    clear bU;rw[nT];clear nT;have c1:w1.cell? ⟨gB,1,none⟩=some (.int .i64 ((b).at_:Int)):=(h.o.blk.cell 1).trans rfl;have f1:=h.o.blk.frozen 1;have l1:=h.o.blk.lt;have i1: -9223372036854775808≤((b).at_:Int)+1∧((b).at_:Int)+1≤9223372036854775807:=by first | omega | (simp only[aI];omega)
    have hA:=ζ h.o.Jf;have kN:=ζ (hG.o.trans ((au.own h.o (aj w1 ⟨gB,1,none⟩ (.int .i64 (((b).at_:Int)+1)))).mono qF.o));have hsz:Hid ((w1.setCell ⟨gB,1,none⟩ (.int .i64 (((b).at_:Int)+1))).heap.size=w1.heap.size):=ζ σ;go_wp2_with fail;(try replace aG:=ζ (aG.o.tk (au.own h.o (aj w1 ⟨gB,1,none⟩ (.int .i64 (((b).at_:Int)+1)))) δ))
    (try replace hX:=ζ ((au.own h.o (aj w1 ⟨gB,1,none⟩ (.int .i64 (((b).at_:Int)+1)))).blk hX.o δ))
    (try replace hP:=ζ ((au.own h.o (aj w1 ⟨gB,1,none⟩ (.int .i64 (((b).at_:Int)+1)))).blk hP.o δ))
    (try replace hR:=ζ ((au.own h.o (aj w1 ⟨gB,1,none⟩ (.int .i64 (((b).at_:Int)+1)))).blk hR.o δ))
    clear c1 f1 l1 i1 h hG;generalize w1.setCell ⟨gB,1,none⟩ (.int .i64 (((b).at_:Int)+1))=w2 at *
    have h:=hA;have hG:=kN;clear hA kN;replace hb:=ζ (Nat.le_trans hb0.o hG.o.size);go_wp2_with fail;refine (dQ h.o).mono ?_;rintro e w3 ⟨rfl,qU⟩;replace h:=ζ (h.o.grows qU);replace hG:=ζ (hG.o.trans (au.grows qU hb.o));replace hb:=ζ (Nat.le_trans hb.o qU.size);(try replace aG:=ζ (aG.o.grows qU))
    (try replace hX:=ζ (hX.o.grows qU))
    (try replace hP:=ζ (hP.o.grows qU))
    (try replace hR:=ζ (hR.o.grows qU))
    clear qU;rw[hqv];clear hqv;have c1:w3.cell? ⟨gB,1,none⟩=some (.int .i64 (((aI b)).at_:Int)):=(h.o.blk.cell 1).trans rfl;have f1:=h.o.blk.frozen 1;have l1:=h.o.blk.lt;have i1: -9223372036854775808≤(((aI b)).at_:Int)+1∧(((aI b)).at_:Int)+1≤9223372036854775807:=by first | omega | (simp only[aI];omega)
    have hA:=ζ h.o.Jf;have kN:=ζ (hG.o.trans ((au.own h.o (aj w3 ⟨gB,1,none⟩ (.int .i64 ((((aI b)).at_:Int)+1)))).mono qF.o));have hsz:Hid ((w3.setCell ⟨gB,1,none⟩ (.int .i64 ((((aI b)).at_:Int)+1))).heap.size=w3.heap.size):=ζ σ;go_wp2_with fail;(try replace aG:=ζ (aG.o.tk (au.own h.o (aj w3 ⟨gB,1,none⟩ (.int .i64 ((((aI b)).at_:Int)+1)))) δ))
    (try replace hX:=ζ ((au.own h.o (aj w3 ⟨gB,1,none⟩ (.int .i64 ((((aI b)).at_:Int)+1)))).blk hX.o δ))
    (try replace hP:=ζ ((au.own h.o (aj w3 ⟨gB,1,none⟩ (.int .i64 ((((aI b)).at_:Int)+1)))).blk hP.o δ))
    (try replace hR:=ζ ((au.own h.o (aj w3 ⟨gB,1,none⟩ (.int .i64 ((((aI b)).at_:Int)+1)))).blk hR.o δ))
    clear c1 f1 l1 i1 h hG;generalize w3.setCell ⟨gB,1,none⟩ (.int .i64 ((((aI b)).at_:Int)+1))=w4 at *
    have h:=hA;have hG:=kN;clear hA kN;replace hb:=ζ (Nat.le_trans hb0.o hG.o.size);go_ret;rw[Xj.o];exact⟨rfl,h.o,hG.o⟩
  ·have hci:¬(c.toNat:Int)=92:=fun e=>hc (UInt8.toNat_inj.1 (by show c.toNat=92;omega))
   have nT:sW s b =.tuple #[.int .u8 (c.toNat:Int),.bool true]:=by simp only[sW,hp]
   have Xj:jr s b = (aI b,c):=by unfold jr;rw[hp,if_neg (by simpa using hc)]
   replace Xj:=ζ Xj;clear hp hc rZ;go_enter Tryz.func281,Tryz.ntmps281
   go_wp2_with fail;refine (dQ h.o).mono ?_;rintro e w1 ⟨rfl,bU⟩;replace h:=ζ (h.o.grows bU);replace hG:=ζ (hG.o.trans (au.grows bU hb.o));replace hb:=ζ (Nat.le_trans hb.o bU.size);(try replace aG:=ζ (aG.o.grows bU))
   (try replace hX:=ζ (hX.o.grows bU))
   (try replace hP:=ζ (hP.o.grows bU))
   (try replace hR:=ζ (hR.o.grows bU))
   clear bU;rw[nT];clear nT;have c1:w1.cell? ⟨gB,1,none⟩=some (.int .i64 ((b).at_:Int)):=(h.o.blk.cell 1).trans rfl;have f1:=h.o.blk.frozen 1;have l1:=h.o.blk.lt;have i1: -9223372036854775808≤((b).at_:Int)+1∧((b).at_:Int)+1≤9223372036854775807:=by first | omega | (simp only[aI];omega)
   have hA:=ζ h.o.Jf;have kN:=ζ (hG.o.trans ((au.own h.o (aj w1 ⟨gB,1,none⟩ (.int .i64 (((b).at_:Int)+1)))).mono qF.o));have hsz:Hid ((w1.setCell ⟨gB,1,none⟩ (.int .i64 (((b).at_:Int)+1))).heap.size=w1.heap.size):=ζ σ;go_wp2_with fail;(try replace aG:=ζ (aG.o.tk (au.own h.o (aj w1 ⟨gB,1,none⟩ (.int .i64 (((b).at_:Int)+1)))) δ))
   (try replace hX:=ζ ((au.own h.o (aj w1 ⟨gB,1,none⟩ (.int .i64 (((b).at_:Int)+1)))).blk hX.o δ))
   (try replace hP:=ζ ((au.own h.o (aj w1 ⟨gB,1,none⟩ (.int .i64 (((b).at_:Int)+1)))).blk hP.o δ))
   (try replace hR:=ζ ((au.own h.o (aj w1 ⟨gB,1,none⟩ (.int .i64 (((b).at_:Int)+1)))).blk hR.o δ))
   clear c1 f1 l1 i1 h hG;generalize w1.setCell ⟨gB,1,none⟩ (.int .i64 (((b).at_:Int)+1))=w2 at *
   have h:=hA;have hG:=kN;clear hA kN;replace hb:=ζ (Nat.le_trans hb0.o hG.o.size);go_ret;rw[Xj.o];exact⟨rfl,h.o,hG.o⟩
theorem RP {w:World} {g:Nat} {ws:List Nat} {u:FrameMode} (h:dZ w g ws) :
 CallsD Tryz.prog 277 #[.pointer (some ⟨g,0,none⟩)] u w fun e u' w'=>u'=u∧(e =.returned (.tuple #[])∧dZ w' g (lH ws)∧w.grownBy w' (some g)):=by
 have hl:g < w.heap.size:=World.block_lt_of_cell? w _ (h.cell (i:=0) (List.getElem?_eq_getElem (by rw[h.2.1];omega)));have hwl:=ζ h.2.1;replace h:=ζ h;go_enter_d Tryz.func277,Tryz.ntmps277
 go_wp2;go_loopw [3] (fun i wr=>∃k:Nat,k≤4∧i =.int .i64 (k:Int)∧dZ wr g (nV k ws)∧w.grownBy wr (some g)) (fun i _=>4-(intOf i).toNat)
 case atStart=>exact⟨0,ω,rfl,by simpa[nV] using h.o,World.grownBy.refl _ _⟩
 case round=>
  obtain⟨k,hk,rfl,hs,hg⟩:=hrel;by_cases hlt:k<4
  ·obtain⟨x,hx⟩:∃x,ws[k]? = some x:=⟨_,List.getElem?_eq_getElem (by rw[hwl.o];omega)⟩;have yS:=Gu hx;rw[←Jq] at hx;have Fv:=hs.2.2 x (List.mem_of_getElem? hx);have c0:=hs.cell hx;have hlw:=World.block_lt_of_cell? wr _ c0;simp only at hlw;have lK:(k:Int)<4:=ω;have Xp:((18446744073709551615-x:Nat):Int)=18446744073709551615-(x:Int):=ω;have Ox:18446744073709551615-x < 18446744073709551616:=ω;replace yS:=ζ yS;replace hs:=ζ hs;replace hk:=ζ hk;replace Xp:=ζ Xp;have hX:bits BinOp.xor IntKind.u64 (if IntKind.u64.signed=true then -1 else IntKind.u64.max) (x:Int)=((18446744073709551615-x:Nat):Int):=by
    rw[←Yj Fv];exact u64_xor_nat 18446744073709551615 x δ Fv
   replace hX:=ζ hX;go_wp2;refine aH κ ?_;refine rK (.range 10) 1 ?_;iterate 10 refine aC ?_
   refine aB ?_;refine eF (i:=10) rfl κ κ (fun wN hN hS K' hK=> ?_);clear hS;have YI:dZ wN g _:=⟨(hN.below.block g hlw).trans hs.o.1,hs.o.2⟩;have c0N:=YI.cell hx;have f0N:=YI.1.frozen k;have VZ:=World.block_lt_of_cell? wN _ c0N;simp only at VZ;have hput:=YI.put (i:=k) Ox;rw[←yS.o] at hput;replace hput:=ζ hput;have hgN:Hid (w.grownBy _ (some g)):=ζ ((hg.trans (hN.uj (some g))).trans (aj wN ⟨g,k,none⟩ (.int .u64 ((18446744073709551615-x:Nat):Int))));clear YI;go_simp;refine hK.o _ _ ?_;clear hK;go_wp2;go_roundw
   case rel=>exact⟨k+1,ω,by simp,by rw[hX.o];exact hput.o,by rw[hX.o];exact hgN.o⟩
   case measure=>exact ψ
  ·have ao1:¬(k:Int)<4:=ω;have pR:k=4:=ω;replace hk:=ζ hk;replace hlt:=ζ hlt;replace pR:=ζ pR;go_wp2;go_end0;refine⟨rfl,?_,hg⟩;have:nV k ws=lH ws:=by
    rw[pR.o,nV,lH,List.take_of_length_le (by rw[hwl.o];omega),List.drop_of_length_le (by rw[hwl.o];omega),List.append_nil]
   rw[←this];exact hs
def TC:List TypeId:=[358,385]
theorem jd.rM {w w':World} {base gB gs:Nat} {s:List UInt8} {b:PB} {xs:List vP} {sv:Value} {ws:List Nat} (h:jd w base gB s b xs sv) (hS:dZ w gs ws) (hf:∀x∈xs,x.pv≠.pointer (some ⟨gs,0,none⟩)) (hg:w.grownBy w' (some gs)):jd w' base gB s b xs sv:=by
 refine⟨(hg.block gB h.blk.lt (fun e=> ?_)).trans h.blk,h.le,oO h.own hS.1 δ hg,h.len,?_,h.apart⟩
 ·injection e with e
  subst e;have h1:=h.blk;have h2:=hS.1;unfold aF at h1 h2;rw[h2] at h1;simp only[Option.some.injEq,Obj.cells.injEq] at h1;exact absurd h1.2.1 δ
 ·intro i x y h1 h2;obtain⟨a1,a2,a3⟩:=h.st i x y h1 h2;refine⟨a1,?_,oO a3 hS.1 δ hg⟩;generalize ho:y.set=o at *
  cases o with
  | none=>exact a2
  | some us=>
   obtain⟨g,e1,e2,e3⟩:=a2;refine⟨g,e1,e2,(hg.block g e3.1.lt (fun e=> ?_)).trans e3.1,e3.2⟩;injection e with e
   subst e;exact hf x (List.mem_of_getElem? h1) e1
theorem dZ.tk {T:List TypeId} {base:Nat} {w w':World} {g:Nat} {ws:List Nat} (h:dZ w g ws) (hk:au T base w w') (ht:385∉T):dZ w' g ws:=⟨hk.blk h.1 ht,h.2⟩
theorem au.set {w w':World} {base g:Nat} {ws:List Nat} (h:dZ w g ws) (hb:base≤g) (hg:w.grownBy w' (some g)):au TC base w w':=
 au.row hg (by have:=h.1.lt;omega) (fun m hm=>by injection hm with hm;subst hm;exact⟨hb,_,_,by simp[TC],h.1⟩)
theorem Y2 {base gB gs f0:Nat} {s:List UInt8} {b:PB} {ws:List Nat} {xs:List vP} {sv:Value} {R:PB×List Nat} {ds:List Deferred} {w0 w:World} {Q0:Exit→Act→World→Prop} {x2 x3 x4 x5 x7 x8 x9 Iq Ip BJ Gp C9 Hw Ac ER EP BH EO BG CZ CY CX Aa z_ zZ BF BD BA Bz Bv Bq Bo Bl Bj Bh Bg Bf EN CW CV CS CQ CP CO CJ CG CB Cm Cj Ci Ce Gn EM Ew Bd Cc Cb Gm Gl Gj Eu Et Es Ep Eo En Em Ej EL EK EJ Ei Eh Ef Ee Ed Ec Eb Ea D_ Hu Ht Hr EI D9 B_ BX BU BR BP IU IQ Gi Gh Jh Hq Ho qC qB qA qy qx qw qp qo qm qj qh qg:Value}
 (h0:Hid (jd w base gB s b xs sv)) (ai_:Hid (dZ w gs ws)) (kU:Hid (base≤gs)) (xW:Hid (∀x∈xs,x.pv≠.pointer (some ⟨gs,0,none⟩))) (hb0:Hid (base≤w0.heap.size)) (NJ:Hid (au TC base w0 w)) (YN:Hid (s.length≤f0+b.at_)) (hR:Hid (lQ s f0 true b ws=R)) (hW0:Hid (WP s 2 b)) (xR:s.length≤100)
 (YR:∀c a d v w,Q0 (.panic c) (Act.put a d v) w→Q0 (.panic c) a w)
 (pV:∀(u6 u7 u8 u9 u10 u11 u12 u28 u29 u30 u31 u32 u33 u34 u35 u36 u37 u38 u39 u40 u41 u42 u43 u44 u45 u46 u47 u48 u49 u50 u51 u52 u53 u54 u55 u56 u57 u58 u59 u60 u61 u62 u63 u64 u65 u66 u67 u68 u69 u70 u71 u72 u73 u74 u75 u76 u77 u78 u79 u80 u81 u82 u83 u84 u85 u86 u87 u88 u89 u90 u91 u92 u93 u94 u95 u96 u97 u98 u99 PY PX PW PV PU PS PN PL PK PG PE PD:Value) (wr:World),Hid (jd wr base gB s R.1 xs sv)∧Hid (dZ wr gs R.2)∧Hid (au TC base w0 wr)→Q0 .ret ⟨((.pointer (some ⟨gB,0,none⟩))::(.pointer (some ⟨gs,0,none⟩))::x2::x3::x4::x5::u6::u7::u8::u9::u10::u11::u12::Gp::C9::Hw::Ac::ER::EP::BH::EO::BG::CZ::CY::CX::Aa::z_::zZ::u28::u29::u30::u31::u32::u33::u34::u35::u36::u37::u38::u39::u40::u41::u42::u43::u44::u45::u46::u47::u48::u49::u50::u51::u52::u53::u54::u55::u56::u57::u58::u59::u60::u61::u62::u63::u64::u65::u66::u67::u68::u69::u70::u71::u72::u73::u74::u75::u76::u77::u78::u79::u80::u81::u82::u83::u84::u85::u86::u87::u88::u89::u90::u91::u92::u93::u94::u95::u96::u97::u98::u99::PY::PX::PW::PV::PU::PS::PN::PL::PK::PG::PE::PD::[]).toArray,ds⟩ wr) :
 Code.wp Tryz.prog (wO Tryz.f276 0) Q0 ⟨((.pointer (some ⟨gB,0,none⟩))::(.pointer (some ⟨gs,0,none⟩))::x2::x3::x4::x5::(.bool true)::x7::x8::x9::Iq::Ip::BJ::Gp::C9::Hw::Ac::ER::EP::BH::EO::BG::CZ::CY::CX::Aa::z_::zZ::BF::BD::BA::Bz::Bv::Bq::Bo::Bl::Bj::Bh::Bg::Bf::EN::CW::CV::CS::CQ::CP::CO::CJ::CG::CB::Cm::Cj::Ci::Ce::Gn::EM::Ew::Bd::Cc::Cb::Gm::Gl::Gj::Eu::Et::Es::Ep::Eo::En::Em::Ej::EL::EK::EJ::Ei::Eh::Ef::Ee::Ed::Ec::Eb::Ea::D_::Hu::Ht::Hr::EI::D9::B_::BX::BU::BR::BP::IU::IQ::Gi::Gh::Jh::Hq::Ho::qC::qB::qA::qy::qx::qw::qp::qo::qm::qj::qh::qg::[]).toArray,ds⟩ w:=by
 conv=>arg 2;whnf
 have qF:Hid (∀t∈[358],t∈TC):=ζ (by intro t ht;simp[TC] at *;exact .inl ht);go_loopw [6] (fun i wr=>∃(f:Nat) (first:Bool) (bq:PB) (wq:List Nat),i =.bool first∧Hid (s.length≤f + bq.at_)∧Hid (lQ s f first bq wq=R)∧Hid (WP s 2 bq)∧Hid (jd wr base gB s bq xs sv)∧Hid (dZ wr gs wq)∧Hid (au TC base w0 wr)) (fun _ wr=>s.length+5-(match wr.cell? ⟨gB,1,none⟩ with | some v=>(intOf v).toNat | none=>0))
 case atStart=>exact⟨f0,true,b,ws,rfl,YN,hR,hW0,h0,ai_,NJ⟩
 case round=>
  obtain⟨f,first,bq,wq,rfl,hf,qV,hW,h,aG,hG⟩:=hrel;clear hR h0 ai_ NJ YN hW0;have hb:=ζ (Nat.le_trans hb0.o hG.o.size);have hstep:=UA (first:=first) (ws:=wq) hf.o;rw[qV.o] at hstep;have yh:Hid (∀(w':World) (b':PB),jd w' base gB s b' xs sv→(match w'.cell? ⟨gB,1,none⟩ with | some v=>(intOf v).toNat | none=>0)=b'.at_):=ζ (fun w' b' hh=>by
   have e:w'.cell? ⟨gB,1,none⟩=some (.int .i64 (b'.at_:Int)):=(hh.blk.cell 1).trans rfl;rw[e];simp[intOf])
  have Nq:=ζ (yh.o _ _ h.o);go_wp2_with fail;refine (dQ h.o).mono ?_;rintro e w1 ⟨rfl,bU⟩;replace h:=ζ (h.o.grows bU);replace hG:=ζ (hG.o.trans (au.grows bU hb.o));replace hb:=ζ (Nat.le_trans hb.o bU.size);(try replace aG:=ζ (aG.o.grows bU))
  (try replace hX:=ζ (hX.o.grows bU))
  (try replace hP:=ζ (hP.o.grows bU))
  (try replace hR:=ζ (hR.o.grows bU))
  clear bU;cases hp:yc s bq with
  | none=>
   simp only[sW,hp];rw[hp] at hstep;replace hstep:=ζ hstep;clear hp;go_wp2_with fail;refine (ji h.o).mono ?_;rintro e w2 ⟨rfl,ae0,FK⟩;(try replace aG:=ζ (aG.o.tk (au.own h.o FK) δ))
   (try replace hX:=ζ ((au.own h.o FK).blk hX.o δ))
   (try replace hP:=ζ ((au.own h.o FK).blk hP.o δ))
   (try replace hR:=ζ ((au.own h.o FK).blk hR.o δ))
   replace hG:=ζ (hG.o.trans ((au.own h.o FK).mono qF.o));replace h:=ζ ae0;replace hb:=ζ (Nat.le_trans hb0.o hG.o.size);clear ae0 FK;go_wp2;rw[hstep.o];exact⟨h,aG,hG⟩
  | some d=>
   simp only[sW,hp];rw[hp] at hstep;have hlen:=ζ (iY hp).2.1;clear hp;by_cases hd:d = 93
   ·subst hd;cases first with
    | true=>
     simp only[and_self,if_true] at hstep;replace hstep:=ζ hstep;go_wp2_with fail;refine (ji h.o).mono ?_;rintro e w2 ⟨rfl,ae0,FK⟩;(try replace aG:=ζ (aG.o.tk (au.own h.o FK) δ))
     (try replace hX:=ζ ((au.own h.o FK).blk hX.o δ))
     (try replace hP:=ζ ((au.own h.o FK).blk hP.o δ))
     (try replace hR:=ζ ((au.own h.o FK).blk hR.o δ))
     replace hG:=ζ (hG.o.trans ((au.own h.o FK).mono qF.o));replace h:=ζ ae0;replace hb:=ζ (Nat.le_trans hb0.o hG.o.size);clear ae0 FK;go_wp2;rw[hstep.o];exact⟨h,aG,hG⟩
    | false=>
     simp only[Bool.false_eq_true,and_false,if_false,if_true] at hstep;replace hstep:=ζ hstep;have ha:bq.at_<100:=by have:=hlen.o;omega
     have c1:w1.cell? ⟨gB,1,none⟩=some (.int .i64 ((bq).at_:Int)):=(h.o.blk.cell 1).trans rfl;have f1:=h.o.blk.frozen 1;have l1:=h.o.blk.lt;have i1: -9223372036854775808≤((bq).at_:Int)+1∧((bq).at_:Int)+1≤9223372036854775807:=by first | omega | (simp only[aI];omega)
     have hA:=ζ h.o.Jf;have kN:=ζ (hG.o.trans ((au.own h.o (aj w1 ⟨gB,1,none⟩ (.int .i64 (((bq).at_:Int)+1)))).mono qF.o));have hsz:Hid ((w1.setCell ⟨gB,1,none⟩ (.int .i64 (((bq).at_:Int)+1))).heap.size=w1.heap.size):=ζ σ;go_wp2_with fail;(try replace aG:=ζ (aG.o.tk (au.own h.o (aj w1 ⟨gB,1,none⟩ (.int .i64 (((bq).at_:Int)+1)))) δ))
     (try replace hX:=ζ ((au.own h.o (aj w1 ⟨gB,1,none⟩ (.int .i64 (((bq).at_:Int)+1)))).blk hX.o δ))
     (try replace hP:=ζ ((au.own h.o (aj w1 ⟨gB,1,none⟩ (.int .i64 (((bq).at_:Int)+1)))).blk hP.o δ))
     (try replace hR:=ζ ((au.own h.o (aj w1 ⟨gB,1,none⟩ (.int .i64 (((bq).at_:Int)+1)))).blk hR.o δ))
     clear c1 f1 l1 i1 h hG;generalize w1.setCell ⟨gB,1,none⟩ (.int .i64 (((bq).at_:Int)+1))=w2 at *
     have h:=hA;have hG:=kN;clear hA kN;replace hb:=ζ (Nat.le_trans hb0.o hG.o.size);rw[hstep.o];exact⟨h,aG,hG⟩
   ·have hdi:¬(d.toNat:Int)=93:=fun e=>hd (UInt8.toNat_inj.1 (by show d.toNat=93;omega))
    simp only[hd,false_and,if_false] at hstep;clear hd;have ao5:=hlen;have as3:=Dj hlen.o;go_wp2_with fail;refine (Si h.o hb.o (by have:=hlen.o;omega)).mono ?_;rintro e w3 ⟨rfl,h3,hg3⟩;replace aG:=ζ (aG.o.tk hg3 δ);replace hG:=ζ (hG.o.trans (hg3.mono qF.o));replace hb:=ζ (Nat.le_trans hb0.o hG.o.size);replace h:=ζ h3;clear h3 hg3;generalize jr s bq=r at *
    obtain⟨_,YQ,akR,Xx⟩:=as3;replace YQ:=ζ YQ;replace Xx:=ζ Xx;clear akR hdi hlen;have hlen:Hid (bq.at_<s.length):=ao5;have har:r.1.at_<1000:=by have:=YQ.o.1;omega
    cases hp:yc s r.1 with
    | none=>
     have hrg:jI s r = r:=by unfold jI;rw[hp];simp
     have nT:sW s r.1=.tuple #[.int .u8 0,.bool false]:=by simp only[sW,hp]
     rw[hrg] at hstep;clear hp hrg;go_wp2_with fail;refine (dQ h.o).mono ?_;rintro e w4 ⟨rfl,dB⟩;replace h:=ζ (h.o.grows dB);replace hG:=ζ (hG.o.trans (au.grows dB hb.o));replace hb:=ζ (Nat.le_trans hb.o dB.size);(try replace aG:=ζ (aG.o.grows dB))
     (try replace hX:=ζ (hX.o.grows dB))
     (try replace hP:=ζ (hP.o.grows dB))
     (try replace hR:=ζ (hR.o.grows dB))
     clear dB;rw[nT];clear nT;go_wp2_with fail;refine aH κ ?_;refine rK (.range 31) 0 ?_;iterate 31 refine aC ?_
     refine aB ?_;refine aJ κ (fun wN hN hS=> ?_);replace h:=ζ (h.o.grows hN);replace aG:=ζ (aG.o.grows hN);replace hG:=ζ (hG.o.trans (au.grows hN hb.o));replace hb:=ζ (Nat.le_trans hb.o hN.size);clear hN hS;have Rx:=YQ;have wY:=Xx;rw[if_neg (Nat.lt_irrefl _)] at hstep;replace hstep:=ζ hstep;go_wp2_with fail;refine (jD (lo:=(r).2.toNat) (hi:=(r).2.toNat) aG.o (by have:=UInt8.toNat_lt (r).2;omega) (by have:=UInt8.toNat_lt (r).2;omega)).mono ?_;rintro e w9 ⟨rfl,yP,iq⟩;replace h:=ζ (h.o.rM aG.o xW.o iq);replace hG:=ζ (hG.o.trans (au.set aG.o kU.o iq));replace aG:=ζ yP;clear yP iq;go_wp2;go_roundw
     case rel=>exact⟨f - 1,false,(r).1,_,rfl,ζ (by have:=hf.o;have:=wY.o;(try rw[dF]);omega),ζ hstep.o.symm,Rx,h,aG,hG⟩
     case measure=>rw[yh.o _ _ h.o,Nq.o];have:=wY.o;have:=hlen.o;(try rw[dF]);omega
    | some c=>
     have nT:sW s r.1=.tuple #[.int .u8 (c.toNat:Int),.bool true]:=by simp only[sW,hp]
     by_cases hc:c = 45
     ·subst hc;have nT:sW s r.1=.tuple #[.int .u8 45,.bool true]:=nT;have c0:∀w',jd w' base gB s r.1 xs sv→w'.cell? ⟨gB,0,none⟩=some (.string ⟨s.toArray⟩):=fun w' hh=>(hh.blk.cell 0).trans rfl
      have c1:∀w',jd w' base gB s r.1 xs sv→w'.cell? ⟨gB,1,none⟩=some (.int .i64 (r.1.at_:Int)):=fun w' hh=>(hh.blk.cell 1).trans rfl
      replace c0:=ζ c0;replace c1:=ζ c1;by_cases hl:r.1.at_+1<s.length
      ·obtain⟨e,he⟩:∃e,s[r.1.at_+1]? = some e:=⟨_,List.getElem?_eq_getElem hl⟩;have hli:(r.1.at_:Int)+1<(s.length:Int):=ω;have zU:∀h:r.1.at_+1<(⟨s.toArray⟩:ByteArray).size,(⟨s.toArray⟩:ByteArray)[r.1.at_+1]'h = e:=fun h=>by
        show s.toArray[r.1.at_+1]=e
        rw[List.getElem_toArray];exact (List.getElem?_eq_some_iff.1 he).2
       by_cases h93:e = 93
       ·have hrg:jI s r = r:=by unfold jI;rw[he];simp[h93]
        have auL:(e.toNat:Int)=93:=by rw[h93];rfl
        clear h93;rw[hrg] at hstep;clear hp hrg hl;go_wp2_with fail;refine (dQ h.o).mono ?_;rintro e w4 ⟨rfl,dB⟩;replace h:=ζ (h.o.grows dB);replace hG:=ζ (hG.o.trans (au.grows dB hb.o));replace hb:=ζ (Nat.le_trans hb.o dB.size);(try replace aG:=ζ (aG.o.grows dB))
        (try replace hX:=ζ (hX.o.grows dB))
        (try replace hP:=ζ (hP.o.grows dB))
        (try replace hR:=ζ (hR.o.grows dB))
        clear dB;rw[nT];clear nT;replace c0:=c0.out _ h.o;replace c1:=c1.out _ h.o;have l1:=h.o.blk.lt;go_wp2_with fail;refine aH κ ?_;refine rK (.range 31) 0 ?_;iterate 31 refine aC ?_
        refine aB ?_;refine aJ κ (fun wN hN hS=> ?_);clear c0 c1 l1;replace h:=ζ (h.o.grows hN);replace aG:=ζ (aG.o.grows hN);replace hG:=ζ (hG.o.trans (au.grows hN hb.o));replace hb:=ζ (Nat.le_trans hb.o hN.size);clear hN hS;have Rx:=YQ;have wY:=Xx;rw[if_neg (Nat.lt_irrefl _)] at hstep;replace hstep:=ζ hstep;go_wp2_with fail;refine (jD (lo:=(r).2.toNat) (hi:=(r).2.toNat) aG.o (by have:=UInt8.toNat_lt (r).2;omega) (by have:=UInt8.toNat_lt (r).2;omega)).mono ?_;rintro e w9 ⟨rfl,yP,iq⟩;replace h:=ζ (h.o.rM aG.o xW.o iq);replace hG:=ζ (hG.o.trans (au.set aG.o kU.o iq));replace aG:=ζ yP;clear yP iq;go_wp2;go_roundw
        case rel=>exact⟨f - 1,false,(r).1,_,rfl,ζ (by have:=hf.o;have:=wY.o;(try rw[dF]);omega),ζ hstep.o.symm,Rx,h,aG,hG⟩
        case measure=>rw[yh.o _ _ h.o,Nq.o];have:=wY.o;have:=hlen.o;(try rw[dF]);omega
       ·have hrg:jI s r = jr s (aI r.1):=by unfold jI;rw[if_pos ⟨hp,hl,by rw[he];simpa using h93⟩]
        have auL:¬(e.toNat:Int)=93:=fun x=>h93 (UInt8.toNat_inj.1 (by show e.toNat=93;omega))
        have AQ:(aI r.1).at_<s.length:=hl;have hq:=Dj AQ;rw[hrg] at hstep;replace hstep:=ζ hstep;clear hp hrg hl h93;go_wp2_with fail;refine (dQ h.o).mono ?_;rintro e w4 ⟨rfl,dB⟩;replace h:=ζ (h.o.grows dB);replace hG:=ζ (hG.o.trans (au.grows dB hb.o));replace hb:=ζ (Nat.le_trans hb.o dB.size);(try replace aG:=ζ (aG.o.grows dB))
        (try replace hX:=ζ (hX.o.grows dB))
        (try replace hP:=ζ (hP.o.grows dB))
        (try replace hR:=ζ (hR.o.grows dB))
        clear dB;rw[nT];clear nT;replace c0:=c0.out _ h.o;replace c1:=c1.out _ h.o;have l1:=h.o.blk.lt;go_wp2_with fail;refine aH κ ?_;refine rK (.range 31) 0 ?_;iterate 31 refine aC ?_
        refine aB ?_;refine aJ κ (fun wN hN hS=> ?_);clear c0 c1 l1;replace h:=ζ (h.o.grows hN);replace aG:=ζ (aG.o.grows hN);replace hG:=ζ (hG.o.trans (au.grows hN hb.o));replace hb:=ζ (Nat.le_trans hb.o hN.size);clear hN hS;have c1:wN.cell? ⟨gB,1,none⟩=some (.int .i64 ((r.1).at_:Int)):=(h.o.blk.cell 1).trans rfl;have f1:=h.o.blk.frozen 1;have l1:=h.o.blk.lt;have i1: -9223372036854775808≤((r.1).at_:Int)+1∧((r.1).at_:Int)+1≤9223372036854775807:=by first | omega | (simp only[aI];omega)
        have hA:=ζ h.o.Jf;have kN:=ζ (hG.o.trans ((au.own h.o (aj wN ⟨gB,1,none⟩ (.int .i64 (((r.1).at_:Int)+1)))).mono qF.o));have hsz:Hid ((wN.setCell ⟨gB,1,none⟩ (.int .i64 (((r.1).at_:Int)+1))).heap.size=wN.heap.size):=ζ σ;go_wp2_with fail;(try replace aG:=ζ (aG.o.tk (au.own h.o (aj wN ⟨gB,1,none⟩ (.int .i64 (((r.1).at_:Int)+1)))) δ))
        (try replace hX:=ζ ((au.own h.o (aj wN ⟨gB,1,none⟩ (.int .i64 (((r.1).at_:Int)+1)))).blk hX.o δ))
        (try replace hP:=ζ ((au.own h.o (aj wN ⟨gB,1,none⟩ (.int .i64 (((r.1).at_:Int)+1)))).blk hP.o δ))
        (try replace hR:=ζ ((au.own h.o (aj wN ⟨gB,1,none⟩ (.int .i64 (((r.1).at_:Int)+1)))).blk hR.o δ))
        clear c1 f1 l1 i1 h hG;generalize wN.setCell ⟨gB,1,none⟩ (.int .i64 (((r.1).at_:Int)+1))=w5 at *
        have h:=hA;have hG:=kN;clear hA kN;replace hb:=ζ (Nat.le_trans hb0.o hG.o.size);refine (Si h.o hb.o (by simp only[aI];omega)).mono ?_;rintro e w6 ⟨rfl,h3,hg3⟩;replace aG:=ζ (aG.o.tk hg3 δ);replace hG:=ζ (hG.o.trans (hg3.mono qF.o));replace hb:=ζ (Nat.le_trans hb0.o hG.o.size);replace h:=ζ h3;clear h3 hg3;replace hstep:=hstep.o;generalize jr s (aI r.1)=q at *
        obtain⟨_,Rx,akR,wY⟩:=hq;replace Rx:=ζ Rx;have apD:Hid (bq.at_<q.1.at_):=ζ (by have:=Xx.o;simp only[aI] at wY;omega);clear akR wY AQ;have wY:=apD;by_cases hlt:(q).2.toNat<(r).2.toNat
        ·have ahE:(((q).2.toNat:Nat):Int)<(((r).2.toNat:Nat):Int):=ω;rw[if_pos hlt] at hstep;replace hstep:=ζ hstep;clear hlt;go_wp2_with fail;refine (ji h.o).mono ?_;rintro e w8 ⟨rfl,ap7,Au⟩;(try replace aG:=ζ (aG.o.tk (au.own h.o Au) δ))
         (try replace hX:=ζ ((au.own h.o Au).blk hX.o δ))
         (try replace hP:=ζ ((au.own h.o Au).blk hP.o δ))
         (try replace hR:=ζ ((au.own h.o Au).blk hR.o δ))
         replace hG:=ζ (hG.o.trans ((au.own h.o Au).mono qF.o));replace h:=ζ ap7;replace hb:=ζ (Nat.le_trans hb0.o hG.o.size);clear ap7 Au;go_wp2_with fail;refine (jD (lo:=(r).2.toNat) (hi:=(q).2.toNat) aG.o (by have:=UInt8.toNat_lt (r).2;omega) (by have:=UInt8.toNat_lt (q).2;omega)).mono ?_;rintro e w9 ⟨rfl,yP,iq⟩;replace h:=ζ (h.o.rM aG.o xW.o iq);replace hG:=ζ (hG.o.trans (au.set aG.o kU.o iq));replace aG:=ζ yP;clear yP iq;go_wp2;go_roundw
         case rel=>exact⟨f - 1,false,(aZ 2 (q).1),_,rfl,ζ (by have:=hf.o;have:=wY.o;(try rw[dF]);omega),ζ hstep.o.symm,(ζ (ng (e:=2) δ Rx.o.1)),h,aG,hG⟩
         case measure=>rw[yh.o _ _ h.o,Nq.o];have:=wY.o;have:=hlen.o;(try rw[dF]);omega
        ·have ahE:¬(((q).2.toNat:Nat):Int)<(((r).2.toNat:Nat):Int):=ω;rw[if_neg hlt] at hstep;replace hstep:=ζ hstep;clear hlt;go_wp2_with fail;refine (jD (lo:=(r).2.toNat) (hi:=(q).2.toNat) aG.o (by have:=UInt8.toNat_lt (r).2;omega) (by have:=UInt8.toNat_lt (q).2;omega)).mono ?_;rintro e w9 ⟨rfl,yP,iq⟩;replace h:=ζ (h.o.rM aG.o xW.o iq);replace hG:=ζ (hG.o.trans (au.set aG.o kU.o iq));replace aG:=ζ yP;clear yP iq;go_wp2;go_roundw
         case rel=>exact⟨f - 1,false,(q).1,_,rfl,ζ (by have:=hf.o;have:=wY.o;(try rw[dF]);omega),ζ hstep.o.symm,Rx,h,aG,hG⟩
         case measure=>rw[yh.o _ _ h.o,Nq.o];have:=wY.o;have:=hlen.o;(try rw[dF]);omega
      ·have hrg:jI s r = r:=by unfold jI;rw[if_neg (fun x=>hl x.2.1)]
       have hli:((r.1.at_:Int)+1<(s.length:Int))=False:=by simp only[eq_iff_iff,iff_false];omega
       rw[hrg] at hstep;clear hp hrg hl;go_wp2_with fail;refine (dQ h.o).mono ?_;rintro e w4 ⟨rfl,dB⟩;replace h:=ζ (h.o.grows dB);replace hG:=ζ (hG.o.trans (au.grows dB hb.o));replace hb:=ζ (Nat.le_trans hb.o dB.size);(try replace aG:=ζ (aG.o.grows dB))
       (try replace hX:=ζ (hX.o.grows dB))
       (try replace hP:=ζ (hP.o.grows dB))
       (try replace hR:=ζ (hR.o.grows dB))
       clear dB;rw[nT];clear nT;replace c0:=c0.out _ h.o;replace c1:=c1.out _ h.o;have l1:=h.o.blk.lt;go_wp2_with fail;refine aH κ ?_;refine rK (.range 31) 0 ?_;iterate 31 refine aC ?_
       refine aB ?_;refine aJ κ (fun wN hN hS=> ?_);clear c0 c1 l1;replace h:=ζ (h.o.grows hN);replace aG:=ζ (aG.o.grows hN);replace hG:=ζ (hG.o.trans (au.grows hN hb.o));replace hb:=ζ (Nat.le_trans hb.o hN.size);clear hN hS;have Rx:=YQ;have wY:=Xx;rw[if_neg (Nat.lt_irrefl _)] at hstep;replace hstep:=ζ hstep;go_wp2_with fail;refine (jD (lo:=(r).2.toNat) (hi:=(r).2.toNat) aG.o (by have:=UInt8.toNat_lt (r).2;omega) (by have:=UInt8.toNat_lt (r).2;omega)).mono ?_;rintro e w9 ⟨rfl,yP,iq⟩;replace h:=ζ (h.o.rM aG.o xW.o iq);replace hG:=ζ (hG.o.trans (au.set aG.o kU.o iq));replace aG:=ζ yP;clear yP iq;go_wp2;go_roundw
       case rel=>exact⟨f - 1,false,(r).1,_,rfl,ζ (by have:=hf.o;have:=wY.o;(try rw[dF]);omega),ζ hstep.o.symm,Rx,h,aG,hG⟩
       case measure=>rw[yh.o _ _ h.o,Nq.o];have:=wY.o;have:=hlen.o;(try rw[dF]);omega
     ·have hrg:jI s r = r:=by unfold jI;rw[hp];simp[hc]
      have hci:¬(c.toNat:Int)=45:=fun e=>hc (UInt8.toNat_inj.1 (by show c.toNat=45;omega))
      rw[hrg] at hstep;clear hp hrg hc;go_wp2_with fail;refine (dQ h.o).mono ?_;rintro e w4 ⟨rfl,dB⟩;replace h:=ζ (h.o.grows dB);replace hG:=ζ (hG.o.trans (au.grows dB hb.o));replace hb:=ζ (Nat.le_trans hb.o dB.size);(try replace aG:=ζ (aG.o.grows dB))
      (try replace hX:=ζ (hX.o.grows dB))
      (try replace hP:=ζ (hP.o.grows dB))
      (try replace hR:=ζ (hR.o.grows dB))
      clear dB;rw[nT];clear nT;go_wp2_with fail;refine aH κ ?_;refine rK (.range 31) 0 ?_;iterate 31 refine aC ?_
      refine aB ?_;refine aJ κ (fun wN hN hS=> ?_);replace h:=ζ (h.o.grows hN);replace aG:=ζ (aG.o.grows hN);replace hG:=ζ (hG.o.trans (au.grows hN hb.o));replace hb:=ζ (Nat.le_trans hb.o hN.size);clear hN hS;have Rx:=YQ;have wY:=Xx;rw[if_neg (Nat.lt_irrefl _)] at hstep;replace hstep:=ζ hstep;go_wp2_with fail;refine (jD (lo:=(r).2.toNat) (hi:=(r).2.toNat) aG.o (by have:=UInt8.toNat_lt (r).2;omega) (by have:=UInt8.toNat_lt (r).2;omega)).mono ?_;rintro e w9 ⟨rfl,yP,iq⟩;replace h:=ζ (h.o.rM aG.o xW.o iq);replace hG:=ζ (hG.o.trans (au.set aG.o kU.o iq));replace aG:=ζ yP;clear yP iq;go_wp2;go_roundw
      case rel=>exact⟨f - 1,false,(r).1,_,rfl,ζ (by have:=hf.o;have:=wY.o;(try rw[dF]);omega),ζ hstep.o.symm,Rx,h,aG,hG⟩
      case measure=>rw[yh.o _ _ h.o,Nq.o];have:=wY.o;have:=hlen.o;(try rw[dF]);omega
theorem SX {P:Program} {fn:Func} {t1 t2:Array Value} {R:Ending→World→Prop} (h:results fn t1=results fn t2):∀(ds:List Deferred) (u:FrameMode) (w:World),Leaves P fn t1 R ds u w→Leaves P fn t2 R ds u w:=by
 intro ds;induction ds with
 | nil=>
  intro u w hl;cases u with
  | run=>exact hl
  | returning=>obtain⟨v,h1,h2⟩:=hl;exact⟨v,h ▸ h1,h2⟩
  | panicking c=>exact hl
 | cons d ds ih=>
  intro u w hl;obtain⟨hu,fv,cap,f,args,h1,h2,h3⟩:=hl;refine⟨hu,fv,cap,f,args,h1,h2,h3.mono fun e u' w' h4=> ?_⟩;cases e with
  | returned v=>exact ih _ _ h4
  | panicked c=>exact ih _ _ h4
  | outgrown=>exact h4
def abZ (base gB gs:Nat) (s:List UInt8) (xs:List vP) (sv:Value) (w:World) (r:PB×List Nat) (e:Ending) (w':World):Prop:=
 e =.returned (.tuple #[])∧jd w' base gB s r.1 xs sv∧dZ w' gs r.2∧au TC base w w'
theorem Wv (t1 t2:Array Value):results Tryz.f276 t1=results Tryz.f276 t2:=by
 simp[results]
theorem Uz {R:Ending→World→Prop} (c:List PanicEntry) (a:Act) (d:Option Tmp) (v:Value) (w:World) (h:Exit.inBlock 0 (bodyPostD Tryz.prog Tryz.f276 R) (.panic c) (Act.put a d v) w):Exit.inBlock 0 (bodyPostD Tryz.prog Tryz.f276 R) (.panic c) a w:=by
 cases d with
 | none=>exact h
 | some d=>exact SX (Wv _ _) _ _ _ h
theorem abE {w:World} {base gB gs:Nat} {s:List UInt8} {b:PB} {xs:List vP} {sv:Value} (h:jd w base gB s b xs sv) (aG:dZ w gs dU) (kU:base≤gs) (xW:∀x∈xs,x.pv≠.pointer (some ⟨gs,0,none⟩)) (hb:base≤w.heap.size) (xR:s.length≤100) (hW:b.at_≤s.length) :
 Calls Tryz.prog 276 #[.pointer (some ⟨gB,0,none⟩),.pointer (some ⟨gs,0,none⟩)] w (abZ base gB gs s xs sv w (kR s b)):=by
 replace hb:=ζ hb;have hb0:=hb;have hG:=ζ (au.refl TC base w);have qF:Hid (∀t∈[358],t∈TC):=ζ (by intro t ht;simp[TC] at *;exact .inl ht);replace h:=ζ h;replace aG:=ζ aG;replace kU:=ζ kU;replace xW:=ζ xW;have hWH:=ζ hW;by_cases hp:yc s b = some 94
 ·have hcp:kR s b = ((lQ s (s.length+1) true (aI b) dU).1,lH (lQ s (s.length+1) true (aI b) dU).2):=by unfold kR;rw[if_pos hp]
  have nT:sW s b =.tuple #[.int .u8 94,.bool true]:=by simp only[sW,hp];rfl
  have AQ:Hid ((aI b).at_≤s.length):=ζ (iY hp).2.1;replace hcp:=ζ hcp;clear hp;go_enter_defers Tryz.func276,Tryz.ntmps276
  go_wp2_with fail;refine (dQ h.o).mono ?_;rintro e w1 ⟨rfl,bU⟩;replace h:=ζ (h.o.grows bU);replace hG:=ζ (hG.o.trans (au.grows bU hb.o));replace hb:=ζ (Nat.le_trans hb.o bU.size);(try replace aG:=ζ (aG.o.grows bU))
  (try replace hX:=ζ (hX.o.grows bU))
  (try replace hP:=ζ (hP.o.grows bU))
  (try replace hR:=ζ (hR.o.grows bU))
  clear bU;rw[nT];clear nT;have c1:w1.cell? ⟨gB,1,none⟩=some (.int .i64 ((b).at_:Int)):=(h.o.blk.cell 1).trans rfl;have f1:=h.o.blk.frozen 1;have l1:=h.o.blk.lt;have i1: -9223372036854775808≤((b).at_:Int)+1∧((b).at_:Int)+1≤9223372036854775807:=by first | omega | (simp only[aI];omega)
  have hA:=ζ h.o.Jf;have kN:=ζ (hG.o.trans ((au.own h.o (aj w1 ⟨gB,1,none⟩ (.int .i64 (((b).at_:Int)+1)))).mono qF.o));have hsz:Hid ((w1.setCell ⟨gB,1,none⟩ (.int .i64 (((b).at_:Int)+1))).heap.size=w1.heap.size):=ζ σ;go_wp2_with fail;(try replace aG:=ζ (aG.o.tk (au.own h.o (aj w1 ⟨gB,1,none⟩ (.int .i64 (((b).at_:Int)+1)))) δ))
  (try replace hX:=ζ ((au.own h.o (aj w1 ⟨gB,1,none⟩ (.int .i64 (((b).at_:Int)+1)))).blk hX.o δ))
  (try replace hP:=ζ ((au.own h.o (aj w1 ⟨gB,1,none⟩ (.int .i64 (((b).at_:Int)+1)))).blk hP.o δ))
  (try replace hR:=ζ ((au.own h.o (aj w1 ⟨gB,1,none⟩ (.int .i64 (((b).at_:Int)+1)))).blk hR.o δ))
  clear c1 f1 l1 i1 h hG;generalize w1.setCell ⟨gB,1,none⟩ (.int .i64 (((b).at_:Int)+1))=w2 at *
  have h:=hA;have hG:=kN;clear hA kN;replace hb:=ζ (Nat.le_trans hb0.o hG.o.size);refine Y2 (f0:=s.length+1) h aG kU xW hb0 hG (ζ ω) (ζ rfl) (ζ (WP.of_le AQ.o)) xR Uz ?_;intros
  rename_i w9 hrel;obtain⟨h9,yP,Ua⟩:=hrel;refine leaves_cons (f:=277) (args:= #[.pointer (some ⟨gs,0,none⟩)]) σ (by simp[go_sem]) ?_;refine (RP (u:=.returning) yP.o).mono ?_;rintro e u' w'' ⟨rfl,rfl,as1,xU⟩;refine⟨_,results_none rfl _ _ _,rfl,?_⟩;rw[hcp.o];exact⟨h9.o.rM yP.o xW.o xU,as1,Ua.o.trans (au.set yP.o kU.o xU)⟩
 ·have hcp:kR s b = lQ s (s.length+1) true b dU:=by unfold kR;rw[if_neg hp]
  obtain⟨c,ok,nT,hc⟩:∃(c:Int) (ok:Bool),sW s b =.tuple #[.int .u8 c,.bool ok]∧¬c = 94:=by
   cases hq:yc s b with
   | none=>exact⟨0,false,by simp only[sW,hq],δ⟩
   | some d=>exact⟨(d.toNat:Int),true,by simp only[sW,hq],fun e=>hp (by rw[hq];congr 1;exact UInt8.toNat_inj.1 (by show d.toNat=94;omega))⟩
  rw[hcp];clear hp hcp;go_enter_defers Tryz.func276,Tryz.ntmps276
  go_wp2_with fail;refine (dQ h.o).mono ?_;rintro e w1 ⟨rfl,bU⟩;replace h:=ζ (h.o.grows bU);replace hG:=ζ (hG.o.trans (au.grows bU hb.o));replace hb:=ζ (Nat.le_trans hb.o bU.size);(try replace aG:=ζ (aG.o.grows bU))
  (try replace hX:=ζ (hX.o.grows bU))
  (try replace hP:=ζ (hP.o.grows bU))
  (try replace hR:=ζ (hR.o.grows bU))
  clear bU;rw[nT];clear nT;go_wp2_with fail;refine Y2 (f0:=s.length+1) h aG kU xW hb0 hG (ζ ω) (ζ rfl) (ζ (WP.of_le hWH.o)) xR Uz ?_;intros
  rename_i w9 hrel;obtain⟨h9,yP,Ua⟩:=hrel;exact⟨_,results_none rfl _ _ _,rfl,h9.o,yP.o,Ua.o⟩
end Go.Proofs.YtbhikkgpcmkonaaGreatDoor
