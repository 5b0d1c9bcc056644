/- Parts: PatF PatG PatH PatI PatJ -/
import Derived.Test.YteojanlajhebhaaGreatDoorGs0
import Derived.Test.YteojanlajhebhaaGreatDoorGs12
import Derived.Defers
set_option maxRecDepth 100000
set_option maxHeartbeats 12800000
namespace Go.Proofs.YteojanlajhebhaaGreatDoor
open Go.RowKit
def eG (p:qW):Value:=.agg #[.int .i64 (p.1:Int),.int .i64 (p.2:Int)]
def aaG (base gB:Nat) (s:List UInt8) (w:World) (r:PB×qW) (e:Ending) (w':World):Prop:=
 e =.returned (eG r.2)∧∃xs' sv',ni w' base gB s r.1 xs' sv'∧aC TB base w w'
theorem aC.eY {T:List TypeId} {base g i:Nat} {w w5:World} (h:aC T base w w5) (hg:w.heap.size≤g) (hb:base≤w.heap.size) (u:Value):aC T base w (w5.setCell ⟨g,i,none⟩ u):=
 ⟨h.below.setCell (by simp;omega) u,fun k cur te fz hk ht=>by
  have hlt:=jP hk;rw[Below.heap_setCell _ _ _ _ (by simp;omega)];exact h.kept k cur te fz hk ht⟩
theorem ni.far {w w':World} {base gB m:Nat} {s:List UInt8} {b:PB} {xs:List DI} {sv:Value} {te:TypeId} {cs:Array Value} (h:ni w base gB s b xs sv) (hm:aS w m te cs) (ht:te∉(237::TB)) (hg:w.grownBy w' (some m)):ni w' base gB s b xs sv:=by
 simp only[TB,List.mem_cons,List.not_mem_nil,or_false,not_or] at ht;obtain⟨t1,t2,t3,t4⟩:=ht;refine⟨(hg.block gB h.blk.lt (fun e=> ?_)).trans h.blk,h.le,wG h.own hm (Ne.symm t3) hg,h.len,?_,h.apart⟩
 ·injection e with e
  subst e;have h1:=h.blk;unfold aS at h1 hm;rw[hm] at h1;simp only[Option.some.injEq,Obj.cells.injEq] at h1;exact t2 h1.2.1
 ·intro i x y h1 h2;obtain⟨a1,a2,a3⟩:=h.st i x y h1 h2;exact⟨a1,a2.off hm (Ne.symm t1) hg,wG a3 hm (Ne.symm t4) hg⟩
theorem amm {ws:List Nat} {b:PB}:(nI ws b).1={(bg (bg b)) with aT:=((bg (bg b)).aT.set b.aT.length ⟨some ws,0,[]⟩).set b.aT.length ⟨some ws,b.aT.length+1,[]⟩}:=by
 unfold nI bg;simp only;congr 1
 apply List.ext_getElem?;intro k;rw[List.set_set,List.getElem?_modify,List.getElem?_set];by_cases hk:b.aT.length=k
 ·subst hk;simp[fD]
 ·simp[hk]
theorem Gq {w:World} {base gB gs:Nat} {s:List UInt8} {b:PB} {ws:List Nat} {xs:List DI} {sv:Value} (h:ni w base gB s b xs sv) (hS:iD w gs ws) (oQ:base≤gs) (hb:base≤w.heap.size) (hn:b.aT.length<100000000) :
 Calls Tryz.prog 184 #[.pointer (some ⟨gB,0,none⟩),.pointer (some ⟨gs,0,none⟩)] w (aaG base gB s w (nI ws b)):=by
 replace h:=ζ h;replace hS:=ζ hS;replace oQ:=ζ oQ;replace hb:=ζ hb;replace hn:=ζ hn;go_enter Tryz.func184,Tryz.ntmps184
 have Qh:=aS.new w 208 #[.int .i64 0,.int .i64 0];have Oe:=hS.o.grows ((ah.refl w).alloc (.cells #[.int .i64 0,.int .i64 0] 208));go_wp2_with fail;refine (Au (h.o.grows ((ah.refl w).alloc _)) (by have:=hb.o;simp;omega) (by have:=hn.o;omega)).mono ?_;rintro e w1 ⟨rfl,sv1,h1,hk1⟩;replace Qh:=hk1.blk Qh δ;replace Oe:iD w1 gs ws:=⟨hk1.blk Oe.1 δ,Oe.2⟩;replace hk1:=ζ ((aC.grows ((ah.refl w).alloc _) hb.o).trans hk1);replace h1:=ζ h1;replace Qh:=ζ Qh;replace Oe:=ζ Oe;go_wp2_with fail;refine (Au h1.o (Nat.le_trans hb.o hk1.o.size) (by have:=hn.o;simp[bg];omega)).mono ?_;rintro e w2 ⟨rfl,sv2,h2,hk2⟩;replace Qh:=hk2.blk Qh.o δ;replace Oe:iD w2 gs ws:=⟨hk2.blk Oe.o.1 δ,Oe.o.2⟩;replace hk2:=hk1.o.trans hk2;clear h1 hk1;rw[d_];have hP:=aS.new w2 208 #[.int .i64 (b.aT.length:Int),.int .i64 ((b.aT.length:Int)+1)];have dF:ah w2 (w2.alloc (.cells #[.int .i64 (b.aT.length:Int),.int .i64 ((b.aT.length:Int)+1)] 208)):=(ah.refl _).alloc _;replace Qh:=ζ (Qh.grows dF);replace Oe:=ζ (Oe.grows dF);replace h2:=h2.grows dF;have hb2:=Nat.le_trans hb.o hk2.size;replace hk2:=ζ (hk2.trans (aC.grows dF hb2));clear dF;replace hP:=ζ hP;replace h2:=ζ h2;replace hb2:=ζ hb2;go_wp2_with fail;generalize w2.alloc (.cells #[.int .i64 (b.aT.length:Int),.int .i64 ((b.aT.length:Int)+1)] 208)=w3 at *
 generalize w2.heap.size=gp at *
 replace hb2:Hid (base≤w3.heap.size):=ζ (Nat.le_trans hb.o hk2.o.size);generalize hgr:w.heap.size=gr at *
 have hlx:xs.length=b.aT.length:=h.o.len;obtain⟨g,cap,Yv⟩:=nH h2.o.own σ;obtain⟨n,hnl⟩:∃n,n = (xs++[yB]++[yB]).length:=⟨_,rfl⟩;rw[←hnl] at Yv;subst Yv;have MG:n = b.aT.length+2:=by simp at hnl;omega
 have hx:(xs++[yB]++[yB])[b.aT.length]? = some yB:=by rw[←hlx];simp
 have hy:(bg (bg b)).aT[b.aT.length]? = some fD:=by simp[bg]
 generalize hxx:xs++[yB]++[yB]=xx at *
 have hii:(b.aT.length:Int)<(n:Int):=ω;generalize hN:b.aT.length=N at *
 obtain⟨apY,N_⟩:=fP h2.o.own (g:=g) rfl;have c3:w3.cell? ⟨gB,3,none⟩=some (.slice (some ⟨g,0,none⟩) n cap):=(h2.o.blk.cell 3).trans rfl;have cp0:=hP.o.c0;have cp1:=hP.o.c1;have hl3:=h2.o.blk.lt;have hlp:=hP.o.lt;have hlg:=jP N_;have hr1:some gB≠some g:=fun e=>iZ h2.o.own h2.o.blk δ e.symm
 have hr2:some gp≠some g:=fun e=>iZ h2.o.own hP.o δ e.symm
 replace N_:=ζ N_;replace hx:=ζ hx;replace hy:=ζ hy;replace hxx:=ζ hxx;replace hN:=ζ hN;replace hnl:=ζ hnl;replace MG:=ζ MG;replace hlx:=ζ hlx;replace hgr:=ζ hgr;refine qK ((some g)) κ ?_;refine rK (up:=oK) (.range 17) 4 ?_;iterate 17 refine jX ?_
 refine ay ?_;refine aY [17] κ σ (fun wN hN hS=>(aK.cons rfl (fun K' hK=> ?_) aK.nil));try replace h2:=ζ (h2.o.grows hN)
 try replace hU:=ζ (hU.o.grows hN)
 replace Oe:=ζ (Oe.o.grows hN);replace hP:=ζ (hP.o.grows hN);replace Qh:=ζ (Qh.o.grows hN);replace hk2:=ζ (hk2.o.trans (aC.grows hN hb2.o));replace hb2:=ζ (Nat.le_trans hb2.o hN.size);clear hN;obtain⟨x1,hx1,hc1,hf1⟩:=h2.o.own.at_ Xv (i:=N) (by have:=MG.o;omega);rw[hx.o] at hx1;injection hx1 with hx1
 subst hx1;have rcN:wN.cell? ⟨g,N*3,none⟩=some (.pointer none):=hc1 0 _ rfl;have rfN:wN.frozen? ⟨g,N*3,none⟩=false:=hf1 _;have Rn:=World.block_lt_of_cell? wN _ rcN;simp only at Rn;have hU:=ζ (ni.upd (x':=⟨.pointer (some ⟨gs,0,none⟩),0,.slice none 0 0⟩) (y':=⟨some ws,0,[]⟩) (u:=.pointer (some ⟨gs,0,none⟩)) (j:=0) h2.o hx.o hy.o ω (World.grownBy.refl wN none) (.inl rfl) rfl ⟨gs,rfl,oQ.o,Oe.o⟩ (Own.iH _ _ _ _ _) (.inl rfl) rfl);obtain⟨akg,cg,hBg⟩:=h2.o.own.kY g rfl;have SS:aC TB base wN (wN.setCell ⟨g,N*3,none⟩ (.pointer (some ⟨gs,0,none⟩))):=aC.setCell hBg akg δ _;replace Oe:Hid (iD (wN.setCell ⟨g,N*3,none⟩ (.pointer (some ⟨gs,0,none⟩))) gs ws):=ζ ⟨SS.blk Oe.o.1 δ,Oe.o.2⟩;replace hP:=ζ (SS.blk hP.o δ);replace Qh:=ζ (SS.blk Qh.o δ);replace hb2:=ζ (Nat.le_trans hb2.o SS.size);replace hk2:=ζ (hk2.o.trans SS);clear h2 SS hc1 hf1 hBg;go_simp;refine hK.o _ _ ?_ (fun hS=> ?_)
 ·exact World.grownBy.trans (by assumption) (aj wN ⟨g,N*3,none⟩ _)
 clear rcN rfN Rn;clear hK hS;refine rK (up:=oK) [18,19] 1 ?_;iterate 2 refine jX ?_
 refine ay ?_;refine dI (i:=20) rfl κ κ (fun wN hN hS K' hK=> ?_);try replace h2:=ζ (h2.o.grows hN)
 try replace hU:=ζ (hU.o.grows hN)
 replace Oe:=ζ (Oe.o.grows hN);replace hP:=ζ (hP.o.grows hN);replace Qh:=ζ (Qh.o.grows hN);replace hk2:=ζ (hk2.o.trans (aC.grows hN hb2.o));replace hb2:=ζ (Nat.le_trans hb2.o hN.size);clear hS;have hx2:(xx.set N ⟨.pointer (some ⟨gs,0,none⟩),0,.slice none 0 0⟩)[N]? = some (⟨.pointer (some ⟨gs,0,none⟩),0,.slice none 0 0⟩:DI):=List.getElem?_set_self (List.getElem?_eq_some_iff.1 hx.o).1;have hy2:((bg (bg b)).aT.set N ⟨some ws,0,[]⟩)[N]? = some (⟨some ws,0,[]⟩:mW):=List.getElem?_set_self (List.getElem?_eq_some_iff.1 hy.o).1;obtain⟨x1,hx1,hc1,hf1⟩:=hU.o.own.at_ Xv (i:=N) (by have:=MG.o;omega);rw[hx2] at hx1;injection hx1 with hx1
 subst hx1;have rcN:wN.cell? ⟨g,N*3+1,none⟩=some (.int .i64 0):=hc1 1 _ rfl;have rfN:wN.frozen? ⟨g,N*3+1,none⟩=false:=hf1 _;have Rn:=World.block_lt_of_cell? wN _ rcN;simp only at Rn;have hV:=ζ (ni.upd (x':=⟨.pointer (some ⟨gs,0,none⟩),N+1,.slice none 0 0⟩) (y':=⟨some ws,N+1,[]⟩) (u:=.int .i64 ((N:Int)+1)) (j:=1) hU.o hx2 hy2 ω (World.grownBy.refl wN none) (.inl rfl) rfl ⟨gs,rfl,oQ.o,Oe.o⟩ (Own.iH _ _ _ _ _) (.inl rfl) (by simp[MX]));obtain⟨akg,cg,hBg⟩:=hU.o.own.kY g rfl;have SS:aC TB base wN (wN.setCell ⟨g,N*3+1,none⟩ (.int .i64 ((N:Int)+1))):=aC.setCell hBg akg δ _;replace hP:=ζ (SS.blk hP.o δ);replace Qh:=ζ (SS.blk Qh.o δ);replace hk2:=ζ (hk2.o.trans SS);clear hU Oe SS hc1 hf1 hBg hx2 hy2 hb2;go_simp;refine hK.o _ _ ?_;clear hK;clear rcN rfN Rn c3 cp0 cp1 hl3 hlp hlg hr1 hr2 hN;generalize wN.setCell ⟨g,N*3+1,none⟩ (.int .i64 ((N:Int)+1))=w5 at *
 have dp0:=hP.o.c0;have dp1:=hP.o.c1;have dr0:=Qh.o.c0;have dr1:=Qh.o.c1;have fr0:=Qh.o.frozen 0;have fr1:=Qh.o.frozen 1;have lp:=hP.o.lt;have lr:=Qh.o.lt;have axC:=ζ (hgr.o ▸ hb.o:base≤gr);go_wp2;have nN:=Qh.o.dO 0 (.int .i64 (N:Int));have t_:=nN.dO 1 (.int .i64 ((N:Int)+1));have vT:=(hk2.o.eY (g:=gr) (i:=0) (by rw[hgr.o];exact Nat.le_refl _) (by rw[hgr.o];exact hb.o) (.int .i64 (N:Int))).eY (g:=gr) (i:=1) (by rw[hgr.o];exact Nat.le_refl _) (by rw[hgr.o];exact hb.o) (.int .i64 ((N:Int)+1));have E5:=(hV.o.far Qh.o δ (aj w5 ⟨gr,0,none⟩ (.int .i64 (N:Int)))).far nN δ (aj _ ⟨gr,1,none⟩ (.int .i64 ((N:Int)+1)));clear dr0 dr1 fr0 fr1 dp0 dp1 lp lr Qh hP hV hk2 nN;generalize (w5.setCell ⟨gr,0,none⟩ (.int .i64 (N:Int))).setCell ⟨gr,1,none⟩ (.int .i64 ((N:Int)+1))=w7 at *
 have e0:=t_.c0;have e1:=t_.c1;refine bodyPost_ret (v:=eG (nI ws b).2) ?_ rfl ⟨rfl,?_⟩
 ·simp[eG,nI,hN.o,results,Tryz.results184,go_sem,e0,e1]
 ·have e2:=amm (ws:=ws) (b:=b);rw[hN.o] at e2;rw[←e2] at E5;exact⟨_,_,E5,vT⟩
def anB (base gB:Nat) (s:List UInt8) (xs:List DI) (sv:Value) (w:World) (v:Value) (b:PB) (e:Ending) (w':World):Prop:=
 e =.returned v∧ni w' base gB s b xs sv∧aC [206] base w w'
theorem ni.EW {w:World} {base gB:Nat} {s:List UInt8} {b:PB} {xs:List DI} {sv:Value} (h:ni w base gB s b xs sv):ni (w.setCell ⟨gB,1,none⟩ (.int .i64 ((b.at_:Int)+1))) base gB s (aH b) xs sv:=by
 refine h.turn (aj w _ _) rfl ?_;have:=h.blk.dO 1 (.int .i64 ((b.at_:Int)+1));simpa[aH] using this
theorem aC.own {w w':World} {base gB:Nat} {s:List UInt8} {b:PB} {xs:List DI} {sv:Value} (h:ni w base gB s b xs sv) (hg:w.grownBy w' (some gB)):aC [206] base w w':=
 aC.row hg (by have:=h.blk.lt;have:=h.le;omega) (fun m hm=>by injection hm with hm;subst hm;exact⟨h.le,_,_,by simp,h.blk⟩)
theorem Y0 {w:World} {base gB:Nat} {s:List UInt8} {b:PB} {xs:List DI} {sv:Value} (h:ni w base gB s b xs sv) (hb:base≤w.heap.size) (ha:b.at_<1000000) :
 Calls Tryz.prog 196 #[.pointer (some ⟨gB,0,none⟩)] w (anB base gB s xs sv w (.int .u8 ((cZ s b).2.toNat:Int)) (cZ s b).1):=by
 replace hb:=ζ hb;have hb0:=hb;have yg:Hid (∀t∈[206],t∈[206]):=ζ (fun _ h=>h);have hG:=ζ (aC.refl [206] base w);replace h:=ζ h;cases hp:kK s b with
 | none=>
  have KJ:cZ s b = (aW 2 (aH b),0):=by unfold cZ;rw[hp];rfl
  have jm:iV s b =.tuple #[.int .u8 0,.bool false]:=by simp only[iV,hp]
  replace KJ:=ζ KJ;clear hp;go_enter Tryz.func196,Tryz.ntmps196
  go_wp2_with fail;refine (g_ h.o).mono ?_;rintro e w1 ⟨rfl,bZ⟩;replace h:=ζ (h.o.grows bZ);replace hG:=ζ (hG.o.trans (aC.grows bZ hb.o));replace hb:=ζ (Nat.le_trans hb.o bZ.size);(try replace aO:=ζ (aO.o.grows bZ))
  (try replace hX:=ζ (hX.o.grows bZ))
  (try replace hP:=ζ (hP.o.grows bZ))
  (try replace hR:=ζ (hR.o.grows bZ))
  clear bZ;rw[jm];clear jm;have c1:w1.cell? ⟨gB,1,none⟩=some (.int .i64 ((b).at_:Int)):=(h.o.blk.cell 1).trans rfl;have f1:=h.o.blk.frozen 1;have l1:=h.o.blk.lt;have i1: -9223372036854775808≤((b).at_:Int)+1∧((b).at_:Int)+1≤9223372036854775807:=by first | omega | (simp only[aH];omega)
  have hA:=ζ h.o.EW;have gU:=ζ (hG.o.trans ((aC.own h.o (aj w1 ⟨gB,1,none⟩ (.int .i64 (((b).at_:Int)+1)))).mono yg.o));have hsz:Hid ((w1.setCell ⟨gB,1,none⟩ (.int .i64 (((b).at_:Int)+1))).heap.size=w1.heap.size):=ζ σ;go_wp2_with fail;(try replace aO:=ζ (aO.o.tk (aC.own h.o (aj w1 ⟨gB,1,none⟩ (.int .i64 (((b).at_:Int)+1)))) δ))
  (try replace hX:=ζ ((aC.own h.o (aj w1 ⟨gB,1,none⟩ (.int .i64 (((b).at_:Int)+1)))).blk hX.o δ))
  (try replace hP:=ζ ((aC.own h.o (aj w1 ⟨gB,1,none⟩ (.int .i64 (((b).at_:Int)+1)))).blk hP.o δ))
  (try replace hR:=ζ ((aC.own h.o (aj w1 ⟨gB,1,none⟩ (.int .i64 (((b).at_:Int)+1)))).blk hR.o δ))
  clear c1 f1 l1 i1 h hG;generalize w1.setCell ⟨gB,1,none⟩ (.int .i64 (((b).at_:Int)+1))=w2 at *
  have h:=hA;have hG:=gU;clear hA gU;replace hb:=ζ (Nat.le_trans hb0.o hG.o.size);refine (nS h.o).mono ?_;rintro e w3 ⟨rfl,Tf,iq⟩;(try replace aO:=ζ (aO.o.tk (aC.own h.o iq) δ))
  (try replace hX:=ζ ((aC.own h.o iq).blk hX.o δ))
  (try replace hP:=ζ ((aC.own h.o iq).blk hP.o δ))
  (try replace hR:=ζ ((aC.own h.o iq).blk hR.o δ))
  replace hG:=ζ (hG.o.trans ((aC.own h.o iq).mono yg.o));replace h:=ζ Tf;replace hb:=ζ (Nat.le_trans hb0.o hG.o.size);clear Tf iq;go_wp2_with fail;go_ret;rw[KJ.o];exact⟨rfl,h.o,hG.o⟩
 | some c=>
  have yO:=c.toNat_lt;by_cases hc:c = 92
  ·subst hc;have jm:iV s b =.tuple #[.int .u8 92,.bool true]:=by simp only[iV,hp];rfl
   cases hq:kK s (aH b) with
   | none=>
    have KJ:cZ s b = (aW 2 (aH (aH b)),0):=by unfold cZ;rw[hp,if_pos rfl,hq]
    have vP:iV s (aH b)=.tuple #[.int .u8 0,.bool false]:=by simp only[iV,hq]
    replace KJ:=ζ KJ;clear hp hq yO;go_enter Tryz.func196,Tryz.ntmps196
    go_wp2_with fail;refine (g_ h.o).mono ?_;rintro e w1 ⟨rfl,bZ⟩;replace h:=ζ (h.o.grows bZ);replace hG:=ζ (hG.o.trans (aC.grows bZ hb.o));replace hb:=ζ (Nat.le_trans hb.o bZ.size);(try replace aO:=ζ (aO.o.grows bZ))
    (try replace hX:=ζ (hX.o.grows bZ))
    (try replace hP:=ζ (hP.o.grows bZ))
    (try replace hR:=ζ (hR.o.grows bZ))
    clear bZ;rw[jm];clear jm;have c1:w1.cell? ⟨gB,1,none⟩=some (.int .i64 ((b).at_:Int)):=(h.o.blk.cell 1).trans rfl;have f1:=h.o.blk.frozen 1;have l1:=h.o.blk.lt;have i1: -9223372036854775808≤((b).at_:Int)+1∧((b).at_:Int)+1≤9223372036854775807:=by first | omega | (simp only[aH];omega)
    have hA:=ζ h.o.EW;have gU:=ζ (hG.o.trans ((aC.own h.o (aj w1 ⟨gB,1,none⟩ (.int .i64 (((b).at_:Int)+1)))).mono yg.o));have hsz:Hid ((w1.setCell ⟨gB,1,none⟩ (.int .i64 (((b).at_:Int)+1))).heap.size=w1.heap.size):=ζ σ;go_wp2_with fail;(try replace aO:=ζ (aO.o.tk (aC.own h.o (aj w1 ⟨gB,1,none⟩ (.int .i64 (((b).at_:Int)+1)))) δ))
    (try replace hX:=ζ ((aC.own h.o (aj w1 ⟨gB,1,none⟩ (.int .i64 (((b).at_:Int)+1)))).blk hX.o δ))
    (try replace hP:=ζ ((aC.own h.o (aj w1 ⟨gB,1,none⟩ (.int .i64 (((b).at_:Int)+1)))).blk hP.o δ))
    (try replace hR:=ζ ((aC.own h.o (aj w1 ⟨gB,1,none⟩ (.int .i64 (((b).at_:Int)+1)))).blk hR.o δ))
    clear c1 f1 l1 i1 h hG;generalize w1.setCell ⟨gB,1,none⟩ (.int .i64 (((b).at_:Int)+1))=w2 at *
    have h:=hA;have hG:=gU;clear hA gU;replace hb:=ζ (Nat.le_trans hb0.o hG.o.size);go_wp2_with fail;refine (g_ h.o).mono ?_;rintro e w3 ⟨rfl,iq⟩;replace h:=ζ (h.o.grows iq);replace hG:=ζ (hG.o.trans (aC.grows iq hb.o));replace hb:=ζ (Nat.le_trans hb.o iq.size);(try replace aO:=ζ (aO.o.grows iq))
    (try replace hX:=ζ (hX.o.grows iq))
    (try replace hP:=ζ (hP.o.grows iq))
    (try replace hR:=ζ (hR.o.grows iq))
    clear iq;rw[vP];clear vP;have c1:w3.cell? ⟨gB,1,none⟩=some (.int .i64 (((aH b)).at_:Int)):=(h.o.blk.cell 1).trans rfl;have f1:=h.o.blk.frozen 1;have l1:=h.o.blk.lt;have i1: -9223372036854775808≤(((aH b)).at_:Int)+1∧(((aH b)).at_:Int)+1≤9223372036854775807:=by first | omega | (simp only[aH];omega)
    have hA:=ζ h.o.EW;have gU:=ζ (hG.o.trans ((aC.own h.o (aj w3 ⟨gB,1,none⟩ (.int .i64 ((((aH b)).at_:Int)+1)))).mono yg.o));have hsz:Hid ((w3.setCell ⟨gB,1,none⟩ (.int .i64 ((((aH b)).at_:Int)+1))).heap.size=w3.heap.size):=ζ σ;go_wp2_with fail;(try replace aO:=ζ (aO.o.tk (aC.own h.o (aj w3 ⟨gB,1,none⟩ (.int .i64 ((((aH b)).at_:Int)+1)))) δ))
    (try replace hX:=ζ ((aC.own h.o (aj w3 ⟨gB,1,none⟩ (.int .i64 ((((aH b)).at_:Int)+1)))).blk hX.o δ))
    (try replace hP:=ζ ((aC.own h.o (aj w3 ⟨gB,1,none⟩ (.int .i64 ((((aH b)).at_:Int)+1)))).blk hP.o δ))
    (try replace hR:=ζ ((aC.own h.o (aj w3 ⟨gB,1,none⟩ (.int .i64 ((((aH b)).at_:Int)+1)))).blk hR.o δ))
    clear c1 f1 l1 i1 h hG;generalize w3.setCell ⟨gB,1,none⟩ (.int .i64 ((((aH b)).at_:Int)+1))=w4 at *
    have h:=hA;have hG:=gU;clear hA gU;replace hb:=ζ (Nat.le_trans hb0.o hG.o.size);refine (nS h.o).mono ?_;rintro e w5 ⟨rfl,AY,jo⟩;(try replace aO:=ζ (aO.o.tk (aC.own h.o jo) δ))
    (try replace hX:=ζ ((aC.own h.o jo).blk hX.o δ))
    (try replace hP:=ζ ((aC.own h.o jo).blk hP.o δ))
    (try replace hR:=ζ ((aC.own h.o jo).blk hR.o δ))
    replace hG:=ζ (hG.o.trans ((aC.own h.o jo).mono yg.o));replace h:=ζ AY;replace hb:=ζ (Nat.le_trans hb0.o hG.o.size);clear AY jo;go_wp2_with fail;go_ret;rw[KJ.o];exact⟨rfl,h.o,hG.o⟩
   | some d=>
    have KJ:cZ s b = (aH (aH b),d):=by unfold cZ;rw[hp,if_pos rfl,hq]
    have vP:iV s (aH b)=.tuple #[.int .u8 (d.toNat:Int),.bool true]:=by simp only[iV,hq]
    replace KJ:=ζ KJ;clear hp hq yO;go_enter Tryz.func196,Tryz.ntmps196
    go_wp2_with fail;refine (g_ h.o).mono ?_;rintro e w1 ⟨rfl,bZ⟩;replace h:=ζ (h.o.grows bZ);replace hG:=ζ (hG.o.trans (aC.grows bZ hb.o));replace hb:=ζ (Nat.le_trans hb.o bZ.size);(try replace aO:=ζ (aO.o.grows bZ))
    (try replace hX:=ζ (hX.o.grows bZ))
    (try replace hP:=ζ (hP.o.grows bZ))
    (try replace hR:=ζ (hR.o.grows bZ))
    clear bZ;rw[jm];clear jm;have c1:w1.cell? ⟨gB,1,none⟩=some (.int .i64 ((b).at_:Int)):=(h.o.blk.cell 1).trans rfl;have f1:=h.o.blk.frozen 1;have l1:=h.o.blk.lt;have i1: -9223372036854775808≤((b).at_:Int)+1∧((b).at_:Int)+1≤9223372036854775807:=by first | omega | (simp only[aH];omega)
    have hA:=ζ h.o.EW;have gU:=ζ (hG.o.trans ((aC.own h.o (aj w1 ⟨gB,1,none⟩ (.int .i64 (((b).at_:Int)+1)))).mono yg.o));have hsz:Hid ((w1.setCell ⟨gB,1,none⟩ (.int .i64 (((b).at_:Int)+1))).heap.size=w1.heap.size):=ζ σ;go_wp2_with fail;(try replace aO:=ζ (aO.o.tk (aC.own h.o (aj w1 ⟨gB,1,none⟩ (.int .i64 (((b).at_:Int)+1)))) δ))
    (try replace hX:=ζ ((aC.own h.o (aj w1 ⟨gB,1,none⟩ (.int .i64 (((b).at_:Int)+1)))).blk hX.o δ))
    (try replace hP:=ζ ((aC.own h.o (aj w1 ⟨gB,1,none⟩ (.int .i64 (((b).at_:Int)+1)))).blk hP.o δ))
    (try replace hR:=ζ ((aC.own h.o (aj w1 ⟨gB,1,none⟩ (.int .i64 (((b).at_:Int)+1)))).blk hR.o δ))
    clear c1 f1 l1 i1 h hG;generalize w1.setCell ⟨gB,1,none⟩ (.int .i64 (((b).at_:Int)+1))=w2 at *
    have h:=hA;have hG:=gU;clear hA gU;replace hb:=ζ (Nat.le_trans hb0.o hG.o.size);go_wp2_with fail;refine (g_ h.o).mono ?_;rintro e w3 ⟨rfl,iq⟩;replace h:=ζ (h.o.grows iq);replace hG:=ζ (hG.o.trans (aC.grows iq hb.o));replace hb:=ζ (Nat.le_trans hb.o iq.size);(try replace aO:=ζ (aO.o.grows iq))
    (try replace hX:=ζ (hX.o.grows iq))
    (try replace hP:=ζ (hP.o.grows iq))
    (try replace hR:=ζ (hR.o.grows iq))
    clear iq;rw[vP];clear vP;have c1:w3.cell? ⟨gB,1,none⟩=some (.int .i64 (((aH b)).at_:Int)):=(h.o.blk.cell 1).trans rfl;have f1:=h.o.blk.frozen 1;have l1:=h.o.blk.lt;have i1: -9223372036854775808≤(((aH b)).at_:Int)+1∧(((aH b)).at_:Int)+1≤9223372036854775807:=by first | omega | (simp only[aH];omega)
    have hA:=ζ h.o.EW;have gU:=ζ (hG.o.trans ((aC.own h.o (aj w3 ⟨gB,1,none⟩ (.int .i64 ((((aH b)).at_:Int)+1)))).mono yg.o));have hsz:Hid ((w3.setCell ⟨gB,1,none⟩ (.int .i64 ((((aH b)).at_:Int)+1))).heap.size=w3.heap.size):=ζ σ;go_wp2_with fail;(try replace aO:=ζ (aO.o.tk (aC.own h.o (aj w3 ⟨gB,1,none⟩ (.int .i64 ((((aH b)).at_:Int)+1)))) δ))
    (try replace hX:=ζ ((aC.own h.o (aj w3 ⟨gB,1,none⟩ (.int .i64 ((((aH b)).at_:Int)+1)))).blk hX.o δ))
    (try replace hP:=ζ ((aC.own h.o (aj w3 ⟨gB,1,none⟩ (.int .i64 ((((aH b)).at_:Int)+1)))).blk hP.o δ))
    (try replace hR:=ζ ((aC.own h.o (aj w3 ⟨gB,1,none⟩ (.int .i64 ((((aH b)).at_:Int)+1)))).blk hR.o δ))
    clear c1 f1 l1 i1 h hG;generalize w3.setCell ⟨gB,1,none⟩ (.int .i64 ((((aH b)).at_:Int)+1))=w4 at *
    have h:=hA;have hG:=gU;clear hA gU;replace hb:=ζ (Nat.le_trans hb0.o hG.o.size);go_ret;rw[KJ.o];exact⟨rfl,h.o,hG.o⟩
  ·have Yz:¬(c.toNat:Int)=92:=fun e=>hc (UInt8.toNat_inj.1 (by show c.toNat=92;omega))
   have jm:iV s b =.tuple #[.int .u8 (c.toNat:Int),.bool true]:=by simp only[iV,hp]
   have KJ:cZ s b = (aH b,c):=by unfold cZ;rw[hp,if_neg (by simpa using hc)]
   replace KJ:=ζ KJ;clear hp hc yO;go_enter Tryz.func196,Tryz.ntmps196
   go_wp2_with fail;refine (g_ h.o).mono ?_;rintro e w1 ⟨rfl,bZ⟩;replace h:=ζ (h.o.grows bZ);replace hG:=ζ (hG.o.trans (aC.grows bZ hb.o));replace hb:=ζ (Nat.le_trans hb.o bZ.size);(try replace aO:=ζ (aO.o.grows bZ))
   (try replace hX:=ζ (hX.o.grows bZ))
   (try replace hP:=ζ (hP.o.grows bZ))
   (try replace hR:=ζ (hR.o.grows bZ))
   clear bZ;rw[jm];clear jm;have c1:w1.cell? ⟨gB,1,none⟩=some (.int .i64 ((b).at_:Int)):=(h.o.blk.cell 1).trans rfl;have f1:=h.o.blk.frozen 1;have l1:=h.o.blk.lt;have i1: -9223372036854775808≤((b).at_:Int)+1∧((b).at_:Int)+1≤9223372036854775807:=by first | omega | (simp only[aH];omega)
   have hA:=ζ h.o.EW;have gU:=ζ (hG.o.trans ((aC.own h.o (aj w1 ⟨gB,1,none⟩ (.int .i64 (((b).at_:Int)+1)))).mono yg.o));have hsz:Hid ((w1.setCell ⟨gB,1,none⟩ (.int .i64 (((b).at_:Int)+1))).heap.size=w1.heap.size):=ζ σ;go_wp2_with fail;(try replace aO:=ζ (aO.o.tk (aC.own h.o (aj w1 ⟨gB,1,none⟩ (.int .i64 (((b).at_:Int)+1)))) δ))
   (try replace hX:=ζ ((aC.own h.o (aj w1 ⟨gB,1,none⟩ (.int .i64 (((b).at_:Int)+1)))).blk hX.o δ))
   (try replace hP:=ζ ((aC.own h.o (aj w1 ⟨gB,1,none⟩ (.int .i64 (((b).at_:Int)+1)))).blk hP.o δ))
   (try replace hR:=ζ ((aC.own h.o (aj w1 ⟨gB,1,none⟩ (.int .i64 (((b).at_:Int)+1)))).blk hR.o δ))
   clear c1 f1 l1 i1 h hG;generalize w1.setCell ⟨gB,1,none⟩ (.int .i64 (((b).at_:Int)+1))=w2 at *
   have h:=hA;have hG:=gU;clear hA gU;replace hb:=ζ (Nat.le_trans hb0.o hG.o.size);go_ret;rw[KJ.o];exact⟨rfl,h.o,hG.o⟩
theorem YQ {w:World} {g:Nat} {ws:List Nat} {u:FrameMode} (h:iD w g ws) :
 CallsD Tryz.prog 182 #[.pointer (some ⟨g,0,none⟩)] u w fun e u' w'=>u'=u∧(e =.returned (.tuple #[])∧iD w' g (lI ws)∧w.grownBy w' (some g)):=by
 have hl:g < w.heap.size:=World.block_lt_of_cell? w _ (h.cell (i:=0) (List.getElem?_eq_getElem (by rw[h.2.1];omega)));have O7:=ζ h.2.1;replace h:=ζ h;go_enter_d Tryz.func182,Tryz.ntmps182
 go_wp2;go_loopw [3] (fun i wr=>∃k:Nat,k≤4∧i =.int .i64 (k:Int)∧iD wr g (vH k ws)∧w.grownBy wr (some g)) (fun i _=>4-(intOf i).toNat)
 case atStart=>exact⟨0,ω,rfl,by simpa[vH] using h.o,World.grownBy.refl _ _⟩
 case round=>
  obtain⟨k,hk,rfl,hs,hg⟩:=hrel;by_cases hlt:k<4
  ·obtain⟨x,hx⟩:∃x,ws[k]? = some x:=⟨_,List.getElem?_eq_getElem (by rw[O7.o];omega)⟩;have I5:=OI hx;rw[←QY] at hx;have yL:=hs.2.2 x (List.mem_of_getElem? hx);have c0:=hs.cell hx;have hlw:=World.block_lt_of_cell? wr _ c0;simp only at hlw;have j_:(k:Int)<4:=ω;have ac_:((18446744073709551615-x:Nat):Int)=18446744073709551615-(x:Int):=ω;have VY:18446744073709551615-x < 18446744073709551616:=ω;replace I5:=ζ I5;replace hs:=ζ hs;replace hk:=ζ hk;replace ac_:=ζ ac_;have hX:bits BinOp.xor IntKind.u64 (if IntKind.u64.signed=true then -1 else IntKind.u64.max) (x:Int)=((18446744073709551615-x:Nat):Int):=by
    rw[←ad5 yL];exact u64_xor_nat 18446744073709551615 x δ yL
   replace hX:=ζ hX;go_wp2;refine aJ κ ?_;refine rK (.range 10) 1 ?_;iterate 10 refine aB ?_
   refine ay ?_;refine dI (i:=10) rfl κ κ (fun wN hN hS K' hK=> ?_);clear hS;have hsN:iD wN g _:=⟨(hN.below.block g hlw).trans hs.o.1,hs.o.2⟩;have c0N:=hsN.cell hx;have f0N:=hsN.1.frozen k;have Rn:=World.block_lt_of_cell? wN _ c0N;simp only at Rn;have hput:=hsN.put (i:=k) VY;rw[←I5.o] at hput;replace hput:=ζ hput;have hgN:Hid (w.grownBy _ (some g)):=ζ ((hg.trans (hN.yR (some g))).trans (aj wN ⟨g,k,none⟩ (.int .u64 ((18446744073709551615-x:Nat):Int))));clear hsN;go_simp;refine hK.o _ _ ?_;clear hK;go_wp2;go_roundw
   case rel=>exact⟨k+1,ω,by simp,by rw[hX.o];exact hput.o,by rw[hX.o];exact hgN.o⟩
   case measure=>exact ψ
  ·have asC:¬(k:Int)<4:=ω;have vT:k=4:=ω;replace hk:=ζ hk;replace hlt:=ζ hlt;replace vT:=ζ vT;go_wp2;go_end0;refine⟨rfl,?_,hg⟩;have:vH k ws=lI ws:=by
    rw[vT.o,vH,lI,List.take_of_length_le (by rw[O7.o];omega),List.drop_of_length_le (by rw[O7.o];omega),List.append_nil]
   rw[←this];exact hs
def TC:List TypeId:=[206,237]
theorem ni.Ag {w w':World} {base gB gs:Nat} {s:List UInt8} {b:PB} {xs:List DI} {sv:Value} {ws:List Nat} (h:ni w base gB s b xs sv) (hS:iD w gs ws) (hf:∀x∈xs,x.pv≠.pointer (some ⟨gs,0,none⟩)) (hg:w.grownBy w' (some gs)):ni w' base gB s b xs sv:=by
 refine⟨(hg.block gB h.blk.lt (fun e=> ?_)).trans h.blk,h.le,wG h.own hS.1 δ hg,h.len,?_,h.apart⟩
 ·injection e with e
  subst e;have h1:=h.blk;have h2:=hS.1;unfold aS at h1 h2;rw[h2] at h1;simp only[Option.some.injEq,Obj.cells.injEq] at h1;exact absurd h1.2.1 δ
 ·intro i x y h1 h2;obtain⟨a1,a2,a3⟩:=h.st i x y h1 h2;refine⟨a1,?_,wG a3 hS.1 δ hg⟩;generalize ho:y.set=o at *
  cases o with
  | none=>exact a2
  | some us=>
   obtain⟨g,e1,e2,e3⟩:=a2;refine⟨g,e1,e2,(hg.block g e3.1.lt (fun e=> ?_)).trans e3.1,e3.2⟩;injection e with e
   subst e;exact hf x (List.mem_of_getElem? h1) e1
theorem iD.tk {T:List TypeId} {base:Nat} {w w':World} {g:Nat} {ws:List Nat} (h:iD w g ws) (hk:aC T base w w') (ht:237∉T):iD w' g ws:=⟨hk.blk h.1 ht,h.2⟩
theorem aC.set {w w':World} {base g:Nat} {ws:List Nat} (h:iD w g ws) (hb:base≤g) (hg:w.grownBy w' (some g)):aC TC base w w':=
 aC.row hg (by have:=h.1.lt;omega) (fun m hm=>by injection hm with hm;subst hm;exact⟨hb,_,_,by simp[TC],h.1⟩)
theorem aeV {base gB gs f0:Nat} {s:List UInt8} {b:PB} {ws:List Nat} {xs:List DI} {sv:Value} {R:PB×List Nat} {ds:List Deferred} {w0 w:World} {Q0:Exit→Act→World→Prop} {x2 x3 x4 x5 x7 x8 x9 JA Hr F8 JQ Df yZ xX CJ Ad Ac yE xW xU xR xQ xI xH xG xP xO yD yY yX yV yU yT Aa z_ zZ zY zX zW zV zU zT zS zQ zO zN zM zL zK zJ zI Dc C_ CG zH Cb B_ BZ BX BU BR BP BN BM BK zG zF zD zC zB BJ BH BG BF BD BA Bz Bv Bq CB Cm Cj Ci Ce zA zy zx zu zq zo C9 CZ Bo Bl zn Bj Bh kS kR kQ kP kN kM mF mD mg lZ mV mQ:Value}
 (h0:Hid (ni w base gB s b xs sv)) (anP:Hid (iD w gs ws)) (oQ:Hid (base≤gs)) (GR:Hid (∀x∈xs,x.pv≠.pointer (some ⟨gs,0,none⟩))) (hb0:Hid (base≤w0.heap.size)) (hG0:Hid (aC TC base w0 w)) (hf0:Hid (s.length≤f0+b.at_)) (hR:Hid (mP s f0 true b ws=R)) (hW0:Hid (WP s 2 b)) (tX:s.length≤100)
 (U_:∀c a d v w,Q0 (.panic c) (Act.put a d v) w→Q0 (.panic c) a w)
 (tY:∀(u6 u7 u8 u9 u10 u11 u12 u28 u29 u30 u31 u32 u33 u34 u35 u36 u37 u38 u39 u40 u41 u42 u43 u44 u45 u46 u47 u48 u49 u50 u51 u52 u53 u54 u55 u56 u57 Yt Yr Yq Yp Yo Yn u64 Ym Yl Yk u68 u69 u70 u71 u72 Yj Yi Yh Yg Yf Ye Yd Yc Yb Vq Vp Vo Vm Vl u87 u88 u89 u90 u91 u92 u93 Ya X_ X9 u97 X8 X7 Ih Ig Ie Ic Ib Ia H_ H9 H8 H7 Fe Fb:Value) (wr:World),Hid (ni wr base gB s R.1 xs sv)∧Hid (iD wr gs R.2)∧Hid (aC TC base w0 wr)→Q0 .ret ⟨((.pointer (some ⟨gB,0,none⟩))::(.pointer (some ⟨gs,0,none⟩))::x2::x3::x4::x5::u6::u7::u8::u9::u10::u11::u12::JQ::Df::yZ::xX::CJ::Ad::Ac::yE::xW::xU::xR::xQ::xI::xH::xG::u28::u29::u30::u31::u32::u33::u34::u35::u36::u37::u38::u39::u40::u41::u42::u43::u44::u45::u46::u47::u48::u49::u50::u51::u52::u53::u54::u55::u56::u57::Yt::Yr::Yq::Yp::Yo::Yn::u64::Ym::Yl::Yk::u68::u69::u70::u71::u72::Yj::Yi::Yh::Yg::Yf::Ye::Yd::Yc::Yb::Vq::Vp::Vo::Vm::Vl::u87::u88::u89::u90::u91::u92::u93::Ya::X_::X9::u97::X8::X7::Ih::Ig::Ie::Ic::Ib::Ia::H_::H9::H8::H7::Fe::Fb::[]).toArray,ds⟩ wr) :
 Code.wp Tryz.prog (Gz Tryz.f181 0) Q0 ⟨((.pointer (some ⟨gB,0,none⟩))::(.pointer (some ⟨gs,0,none⟩))::x2::x3::x4::x5::(.bool true)::x7::x8::x9::JA::Hr::F8::JQ::Df::yZ::xX::CJ::Ad::Ac::yE::xW::xU::xR::xQ::xI::xH::xG::xP::xO::yD::yY::yX::yV::yU::yT::Aa::z_::zZ::zY::zX::zW::zV::zU::zT::zS::zQ::zO::zN::zM::zL::zK::zJ::zI::Dc::C_::CG::zH::Cb::B_::BZ::BX::BU::BR::BP::BN::BM::BK::zG::zF::zD::zC::zB::BJ::BH::BG::BF::BD::BA::Bz::Bv::Bq::CB::Cm::Cj::Ci::Ce::zA::zy::zx::zu::zq::zo::C9::CZ::Bo::Bl::zn::Bj::Bh::kS::kR::kQ::kP::kN::kM::mF::mD::mg::lZ::mV::mQ::[]).toArray,ds⟩ w:=by
 conv=>arg 2;whnf
 have yg:Hid (∀t∈[206],t∈TC):=ζ (by intro t ht;simp[TC] at *;exact .inl ht);go_loopw [6] (fun i wr=>∃(f:Nat) (first:Bool) (bq:PB) (wq:List Nat),i =.bool first∧Hid (s.length≤f + bq.at_)∧Hid (mP s f first bq wq=R)∧Hid (WP s 2 bq)∧Hid (ni wr base gB s bq xs sv)∧Hid (iD wr gs wq)∧Hid (aC TC base w0 wr)) (fun _ wr=>s.length+5-(match wr.cell? ⟨gB,1,none⟩ with | some v=>(intOf v).toNat | none=>0))
 case atStart=>exact⟨f0,true,b,ws,rfl,hf0,hR,hW0,h0,anP,hG0⟩
 case round=>
  obtain⟨f,first,bq,wq,rfl,hf,iW,hW,h,aO,hG⟩:=hrel;clear hR h0 anP hG0 hf0 hW0;have hb:=ζ (Nat.le_trans hb0.o hG.o.size);have hstep:=aao (first:=first) (ws:=wq) hf.o;rw[iW.o] at hstep;have FK:Hid (∀(w':World) (b':PB),ni w' base gB s b' xs sv→(match w'.cell? ⟨gB,1,none⟩ with | some v=>(intOf v).toNat | none=>0)=b'.at_):=ζ (fun w' b' hh=>by
   have e:w'.cell? ⟨gB,1,none⟩=some (.int .i64 (b'.at_:Int)):=(hh.blk.cell 1).trans rfl;rw[e];simp[intOf])
  have nY:=ζ (FK.o _ _ h.o);go_wp2_with fail;refine (g_ h.o).mono ?_;rintro e w1 ⟨rfl,bZ⟩;replace h:=ζ (h.o.grows bZ);replace hG:=ζ (hG.o.trans (aC.grows bZ hb.o));replace hb:=ζ (Nat.le_trans hb.o bZ.size);(try replace aO:=ζ (aO.o.grows bZ))
  (try replace hX:=ζ (hX.o.grows bZ))
  (try replace hP:=ζ (hP.o.grows bZ))
  (try replace hR:=ζ (hR.o.grows bZ))
  clear bZ;cases hp:kK s bq with
  | none=>
   simp only[iV,hp];rw[hp] at hstep;replace hstep:=ζ hstep;clear hp;go_wp2_with fail;refine (nS h.o).mono ?_;rintro e w2 ⟨rfl,Z_,fG⟩;(try replace aO:=ζ (aO.o.tk (aC.own h.o fG) δ))
   (try replace hX:=ζ ((aC.own h.o fG).blk hX.o δ))
   (try replace hP:=ζ ((aC.own h.o fG).blk hP.o δ))
   (try replace hR:=ζ ((aC.own h.o fG).blk hR.o δ))
   replace hG:=ζ (hG.o.trans ((aC.own h.o fG).mono yg.o));replace h:=ζ Z_;replace hb:=ζ (Nat.le_trans hb0.o hG.o.size);clear Z_ fG;go_wp2;rw[hstep.o];exact⟨h,aO,hG⟩
  | some d=>
   simp only[iV,hp];rw[hp] at hstep;have hlen:=ζ (dN hp).2.1;clear hp;by_cases hd:d = 93
   ·subst hd;cases first with
    | true=>
     simp only[and_self,if_true] at hstep;replace hstep:=ζ hstep;go_wp2_with fail;refine (nS h.o).mono ?_;rintro e w2 ⟨rfl,Z_,fG⟩;(try replace aO:=ζ (aO.o.tk (aC.own h.o fG) δ))
     (try replace hX:=ζ ((aC.own h.o fG).blk hX.o δ))
     (try replace hP:=ζ ((aC.own h.o fG).blk hP.o δ))
     (try replace hR:=ζ ((aC.own h.o fG).blk hR.o δ))
     replace hG:=ζ (hG.o.trans ((aC.own h.o fG).mono yg.o));replace h:=ζ Z_;replace hb:=ζ (Nat.le_trans hb0.o hG.o.size);clear Z_ fG;go_wp2;rw[hstep.o];exact⟨h,aO,hG⟩
    | false=>
     simp only[Bool.false_eq_true,and_false,if_false,if_true] at hstep;replace hstep:=ζ hstep;have ha:bq.at_<100:=by have:=hlen.o;omega
     have c1:w1.cell? ⟨gB,1,none⟩=some (.int .i64 ((bq).at_:Int)):=(h.o.blk.cell 1).trans rfl;have f1:=h.o.blk.frozen 1;have l1:=h.o.blk.lt;have i1: -9223372036854775808≤((bq).at_:Int)+1∧((bq).at_:Int)+1≤9223372036854775807:=by first | omega | (simp only[aH];omega)
     have hA:=ζ h.o.EW;have gU:=ζ (hG.o.trans ((aC.own h.o (aj w1 ⟨gB,1,none⟩ (.int .i64 (((bq).at_:Int)+1)))).mono yg.o));have hsz:Hid ((w1.setCell ⟨gB,1,none⟩ (.int .i64 (((bq).at_:Int)+1))).heap.size=w1.heap.size):=ζ σ;go_wp2_with fail;(try replace aO:=ζ (aO.o.tk (aC.own h.o (aj w1 ⟨gB,1,none⟩ (.int .i64 (((bq).at_:Int)+1)))) δ))
     (try replace hX:=ζ ((aC.own h.o (aj w1 ⟨gB,1,none⟩ (.int .i64 (((bq).at_:Int)+1)))).blk hX.o δ))
     (try replace hP:=ζ ((aC.own h.o (aj w1 ⟨gB,1,none⟩ (.int .i64 (((bq).at_:Int)+1)))).blk hP.o δ))
     (try replace hR:=ζ ((aC.own h.o (aj w1 ⟨gB,1,none⟩ (.int .i64 (((bq).at_:Int)+1)))).blk hR.o δ))
     clear c1 f1 l1 i1 h hG;generalize w1.setCell ⟨gB,1,none⟩ (.int .i64 (((bq).at_:Int)+1))=w2 at *
     have h:=hA;have hG:=gU;clear hA gU;replace hb:=ζ (Nat.le_trans hb0.o hG.o.size);rw[hstep.o];exact⟨h,aO,hG⟩
   ·have hdi:¬(d.toNat:Int)=93:=fun e=>hd (UInt8.toNat_inj.1 (by show d.toNat=93;omega))
    simp only[hd,false_and,if_false] at hstep;clear hd;have aj_:=hlen;have aoU:=wU hlen.o;go_wp2_with fail;refine (Y0 h.o hb.o (by have:=hlen.o;omega)).mono ?_;rintro e w3 ⟨rfl,h3,hg3⟩;replace aO:=ζ (aO.o.tk hg3 δ);replace hG:=ζ (hG.o.trans (hg3.mono yg.o));replace hb:=ζ (Nat.le_trans hb0.o hG.o.size);replace h:=ζ h3;clear h3 hg3;generalize cZ s bq=r at *
    obtain⟨_,Ub,SI,KU⟩:=aoU;replace Ub:=ζ Ub;replace KU:=ζ KU;clear SI hdi hlen;have hlen:Hid (bq.at_<s.length):=aj_;have har:r.1.at_<1000:=by have:=Ub.o.1;omega
    cases hp:kK s r.1 with
    | none=>
     have hrg:dP s r = r:=by unfold dP;rw[hp];simp
     have jm:iV s r.1=.tuple #[.int .u8 0,.bool false]:=by simp only[iV,hp]
     rw[hrg] at hstep;clear hp hrg;go_wp2_with fail;refine (g_ h.o).mono ?_;rintro e w4 ⟨rfl,dD⟩;replace h:=ζ (h.o.grows dD);replace hG:=ζ (hG.o.trans (aC.grows dD hb.o));replace hb:=ζ (Nat.le_trans hb.o dD.size);(try replace aO:=ζ (aO.o.grows dD))
     (try replace hX:=ζ (hX.o.grows dD))
     (try replace hP:=ζ (hP.o.grows dD))
     (try replace hR:=ζ (hR.o.grows dD))
     clear dD;rw[jm];clear jm;go_wp2_with fail;refine aJ κ ?_;refine rK (.range 31) 0 ?_;iterate 31 refine aB ?_
     refine ay ?_;refine aP κ (fun wN hN hS=> ?_);replace h:=ζ (h.o.grows hN);replace aO:=ζ (aO.o.grows hN);replace hG:=ζ (hG.o.trans (aC.grows hN hb.o));replace hb:=ζ (Nat.le_trans hb.o hN.size);clear hN hS;have EY:=Ub;have kX:=KU;rw[if_neg (Nat.lt_irrefl _)] at hstep;replace hstep:=ζ hstep;go_wp2_with fail;refine (oI (lo:=(r).2.toNat) (hi:=(r).2.toNat) aO.o (by have:=UInt8.toNat_lt (r).2;omega) (by have:=UInt8.toNat_lt (r).2;omega)).mono ?_;rintro e w9 ⟨rfl,wX,uZ⟩;replace h:=ζ (h.o.Ag aO.o GR.o uZ);replace hG:=ζ (hG.o.trans (aC.set aO.o oQ.o uZ));replace aO:=ζ wX;clear wX uZ;go_wp2;go_roundw
     case rel=>exact⟨f - 1,false,(r).1,_,rfl,ζ (by have:=hf.o;have:=kX.o;(try rw[bD]);omega),ζ hstep.o.symm,EY,h,aO,hG⟩
     case measure=>rw[FK.o _ _ h.o,nY.o];have:=kX.o;have:=hlen.o;(try rw[bD]);omega
    | some c=>
     have jm:iV s r.1=.tuple #[.int .u8 (c.toNat:Int),.bool true]:=by simp only[iV,hp]
     by_cases hc:c = 45
     ·subst hc;have jm:iV s r.1=.tuple #[.int .u8 45,.bool true]:=jm;have c0:∀w',ni w' base gB s r.1 xs sv→w'.cell? ⟨gB,0,none⟩=some (.string ⟨s.toArray⟩):=fun w' hh=>(hh.blk.cell 0).trans rfl
      have c1:∀w',ni w' base gB s r.1 xs sv→w'.cell? ⟨gB,1,none⟩=some (.int .i64 (r.1.at_:Int)):=fun w' hh=>(hh.blk.cell 1).trans rfl
      replace c0:=ζ c0;replace c1:=ζ c1;by_cases hl:r.1.at_+1<s.length
      ·obtain⟨e,he⟩:∃e,s[r.1.at_+1]? = some e:=⟨_,List.getElem?_eq_getElem hl⟩;have hli:(r.1.at_:Int)+1<(s.length:Int):=ω;have SY:∀h:r.1.at_+1<(⟨s.toArray⟩:ByteArray).size,(⟨s.toArray⟩:ByteArray)[r.1.at_+1]'h = e:=fun h=>by
        show s.toArray[r.1.at_+1]=e
        rw[List.getElem_toArray];exact (List.getElem?_eq_some_iff.1 he).2
       by_cases h93:e = 93
       ·have hrg:dP s r = r:=by unfold dP;rw[he];simp[h93]
        have apL:(e.toNat:Int)=93:=by rw[h93];rfl
        clear h93;rw[hrg] at hstep;clear hp hrg hl;go_wp2_with fail;refine (g_ h.o).mono ?_;rintro e w4 ⟨rfl,dD⟩;replace h:=ζ (h.o.grows dD);replace hG:=ζ (hG.o.trans (aC.grows dD hb.o));replace hb:=ζ (Nat.le_trans hb.o dD.size);(try replace aO:=ζ (aO.o.grows dD))
        (try replace hX:=ζ (hX.o.grows dD))
        (try replace hP:=ζ (hP.o.grows dD))
        (try replace hR:=ζ (hR.o.grows dD))
        clear dD;rw[jm];clear jm;replace c0:=c0.out _ h.o;replace c1:=c1.out _ h.o;have l1:=h.o.blk.lt;go_wp2_with fail;refine aJ κ ?_;refine rK (.range 31) 0 ?_;iterate 31 refine aB ?_
        refine ay ?_;refine aP κ (fun wN hN hS=> ?_);clear c0 c1 l1;replace h:=ζ (h.o.grows hN);replace aO:=ζ (aO.o.grows hN);replace hG:=ζ (hG.o.trans (aC.grows hN hb.o));replace hb:=ζ (Nat.le_trans hb.o hN.size);clear hN hS;have EY:=Ub;have kX:=KU;rw[if_neg (Nat.lt_irrefl _)] at hstep;replace hstep:=ζ hstep;go_wp2_with fail;refine (oI (lo:=(r).2.toNat) (hi:=(r).2.toNat) aO.o (by have:=UInt8.toNat_lt (r).2;omega) (by have:=UInt8.toNat_lt (r).2;omega)).mono ?_;rintro e w9 ⟨rfl,wX,uZ⟩;replace h:=ζ (h.o.Ag aO.o GR.o uZ);replace hG:=ζ (hG.o.trans (aC.set aO.o oQ.o uZ));replace aO:=ζ wX;clear wX uZ;go_wp2;go_roundw
        case rel=>exact⟨f - 1,false,(r).1,_,rfl,ζ (by have:=hf.o;have:=kX.o;(try rw[bD]);omega),ζ hstep.o.symm,EY,h,aO,hG⟩
        case measure=>rw[FK.o _ _ h.o,nY.o];have:=kX.o;have:=hlen.o;(try rw[bD]);omega
       ·have hrg:dP s r = cZ s (aH r.1):=by unfold dP;rw[if_pos ⟨hp,hl,by rw[he];simpa using h93⟩]
        have apL:¬(e.toNat:Int)=93:=fun x=>h93 (UInt8.toNat_inj.1 (by show e.toNat=93;omega))
        have wL:(aH r.1).at_<s.length:=hl;have hq:=wU wL;rw[hrg] at hstep;replace hstep:=ζ hstep;clear hp hrg hl h93;go_wp2_with fail;refine (g_ h.o).mono ?_;rintro e w4 ⟨rfl,dD⟩;replace h:=ζ (h.o.grows dD);replace hG:=ζ (hG.o.trans (aC.grows dD hb.o));replace hb:=ζ (Nat.le_trans hb.o dD.size);(try replace aO:=ζ (aO.o.grows dD))
        (try replace hX:=ζ (hX.o.grows dD))
        (try replace hP:=ζ (hP.o.grows dD))
        (try replace hR:=ζ (hR.o.grows dD))
        clear dD;rw[jm];clear jm;replace c0:=c0.out _ h.o;replace c1:=c1.out _ h.o;have l1:=h.o.blk.lt;go_wp2_with fail;refine aJ κ ?_;refine rK (.range 31) 0 ?_;iterate 31 refine aB ?_
        refine ay ?_;refine aP κ (fun wN hN hS=> ?_);clear c0 c1 l1;replace h:=ζ (h.o.grows hN);replace aO:=ζ (aO.o.grows hN);replace hG:=ζ (hG.o.trans (aC.grows hN hb.o));replace hb:=ζ (Nat.le_trans hb.o hN.size);clear hN hS;have c1:wN.cell? ⟨gB,1,none⟩=some (.int .i64 ((r.1).at_:Int)):=(h.o.blk.cell 1).trans rfl;have f1:=h.o.blk.frozen 1;have l1:=h.o.blk.lt;have i1: -9223372036854775808≤((r.1).at_:Int)+1∧((r.1).at_:Int)+1≤9223372036854775807:=by first | omega | (simp only[aH];omega)
        have hA:=ζ h.o.EW;have gU:=ζ (hG.o.trans ((aC.own h.o (aj wN ⟨gB,1,none⟩ (.int .i64 (((r.1).at_:Int)+1)))).mono yg.o));have hsz:Hid ((wN.setCell ⟨gB,1,none⟩ (.int .i64 (((r.1).at_:Int)+1))).heap.size=wN.heap.size):=ζ σ;go_wp2_with fail;(try replace aO:=ζ (aO.o.tk (aC.own h.o (aj wN ⟨gB,1,none⟩ (.int .i64 (((r.1).at_:Int)+1)))) δ))
        (try replace hX:=ζ ((aC.own h.o (aj wN ⟨gB,1,none⟩ (.int .i64 (((r.1).at_:Int)+1)))).blk hX.o δ))
        (try replace hP:=ζ ((aC.own h.o (aj wN ⟨gB,1,none⟩ (.int .i64 (((r.1).at_:Int)+1)))).blk hP.o δ))
        (try replace hR:=ζ ((aC.own h.o (aj wN ⟨gB,1,none⟩ (.int .i64 (((r.1).at_:Int)+1)))).blk hR.o δ))
        clear c1 f1 l1 i1 h hG;generalize wN.setCell ⟨gB,1,none⟩ (.int .i64 (((r.1).at_:Int)+1))=w5 at *
        have h:=hA;have hG:=gU;clear hA gU;replace hb:=ζ (Nat.le_trans hb0.o hG.o.size);refine (Y0 h.o hb.o (by simp only[aH];omega)).mono ?_;rintro e w6 ⟨rfl,h3,hg3⟩;replace aO:=ζ (aO.o.tk hg3 δ);replace hG:=ζ (hG.o.trans (hg3.mono yg.o));replace hb:=ζ (Nat.le_trans hb0.o hG.o.size);replace h:=ζ h3;clear h3 hg3;replace hstep:=hstep.o;generalize cZ s (aH r.1)=q at *
        obtain⟨_,EY,SI,kX⟩:=hq;replace EY:=ζ EY;have aks:Hid (bq.at_<q.1.at_):=ζ (by have:=KU.o;simp only[aH] at kX;omega);clear SI kX wL;have kX:=aks;by_cases hlt:(q).2.toNat<(r).2.toNat
        ·have ZV:(((q).2.toNat:Nat):Int)<(((r).2.toNat:Nat):Int):=ω;rw[if_pos hlt] at hstep;replace hstep:=ζ hstep;clear hlt;go_wp2_with fail;refine (nS h.o).mono ?_;rintro e w8 ⟨rfl,Td,su⟩;(try replace aO:=ζ (aO.o.tk (aC.own h.o su) δ))
         (try replace hX:=ζ ((aC.own h.o su).blk hX.o δ))
         (try replace hP:=ζ ((aC.own h.o su).blk hP.o δ))
         (try replace hR:=ζ ((aC.own h.o su).blk hR.o δ))
         replace hG:=ζ (hG.o.trans ((aC.own h.o su).mono yg.o));replace h:=ζ Td;replace hb:=ζ (Nat.le_trans hb0.o hG.o.size);clear Td su;go_wp2_with fail;refine (oI (lo:=(r).2.toNat) (hi:=(q).2.toNat) aO.o (by have:=UInt8.toNat_lt (r).2;omega) (by have:=UInt8.toNat_lt (q).2;omega)).mono ?_;rintro e w9 ⟨rfl,wX,uZ⟩;replace h:=ζ (h.o.Ag aO.o GR.o uZ);replace hG:=ζ (hG.o.trans (aC.set aO.o oQ.o uZ));replace aO:=ζ wX;clear wX uZ;go_wp2;go_roundw
         case rel=>exact⟨f - 1,false,(aW 2 (q).1),_,rfl,ζ (by have:=hf.o;have:=kX.o;(try rw[bD]);omega),ζ hstep.o.symm,(ζ (kD (e:=2) δ EY.o.1)),h,aO,hG⟩
         case measure=>rw[FK.o _ _ h.o,nY.o];have:=kX.o;have:=hlen.o;(try rw[bD]);omega
        ·have ZV:¬(((q).2.toNat:Nat):Int)<(((r).2.toNat:Nat):Int):=ω;rw[if_neg hlt] at hstep;replace hstep:=ζ hstep;clear hlt;go_wp2_with fail;refine (oI (lo:=(r).2.toNat) (hi:=(q).2.toNat) aO.o (by have:=UInt8.toNat_lt (r).2;omega) (by have:=UInt8.toNat_lt (q).2;omega)).mono ?_;rintro e w9 ⟨rfl,wX,uZ⟩;replace h:=ζ (h.o.Ag aO.o GR.o uZ);replace hG:=ζ (hG.o.trans (aC.set aO.o oQ.o uZ));replace aO:=ζ wX;clear wX uZ;go_wp2;go_roundw
         case rel=>exact⟨f - 1,false,(q).1,_,rfl,ζ (by have:=hf.o;have:=kX.o;(try rw[bD]);omega),ζ hstep.o.symm,EY,h,aO,hG⟩
         case measure=>rw[FK.o _ _ h.o,nY.o];have:=kX.o;have:=hlen.o;(try rw[bD]);omega
      ·have hrg:dP s r = r:=by unfold dP;rw[if_neg (fun x=>hl x.2.1)]
       have hli:((r.1.at_:Int)+1<(s.length:Int))=False:=by simp only[eq_iff_iff,iff_false];omega
       rw[hrg] at hstep;clear hp hrg hl;go_wp2_with fail;refine (g_ h.o).mono ?_;rintro e w4 ⟨rfl,dD⟩;replace h:=ζ (h.o.grows dD);replace hG:=ζ (hG.o.trans (aC.grows dD hb.o));replace hb:=ζ (Nat.le_trans hb.o dD.size);(try replace aO:=ζ (aO.o.grows dD))
       (try replace hX:=ζ (hX.o.grows dD))
       (try replace hP:=ζ (hP.o.grows dD))
       (try replace hR:=ζ (hR.o.grows dD))
       clear dD;rw[jm];clear jm;replace c0:=c0.out _ h.o;replace c1:=c1.out _ h.o;have l1:=h.o.blk.lt;go_wp2_with fail;refine aJ κ ?_;refine rK (.range 31) 0 ?_;iterate 31 refine aB ?_
       refine ay ?_;refine aP κ (fun wN hN hS=> ?_);clear c0 c1 l1;replace h:=ζ (h.o.grows hN);replace aO:=ζ (aO.o.grows hN);replace hG:=ζ (hG.o.trans (aC.grows hN hb.o));replace hb:=ζ (Nat.le_trans hb.o hN.size);clear hN hS;have EY:=Ub;have kX:=KU;rw[if_neg (Nat.lt_irrefl _)] at hstep;replace hstep:=ζ hstep;go_wp2_with fail;refine (oI (lo:=(r).2.toNat) (hi:=(r).2.toNat) aO.o (by have:=UInt8.toNat_lt (r).2;omega) (by have:=UInt8.toNat_lt (r).2;omega)).mono ?_;rintro e w9 ⟨rfl,wX,uZ⟩;replace h:=ζ (h.o.Ag aO.o GR.o uZ);replace hG:=ζ (hG.o.trans (aC.set aO.o oQ.o uZ));replace aO:=ζ wX;clear wX uZ;go_wp2;go_roundw
       case rel=>exact⟨f - 1,false,(r).1,_,rfl,ζ (by have:=hf.o;have:=kX.o;(try rw[bD]);omega),ζ hstep.o.symm,EY,h,aO,hG⟩
       case measure=>rw[FK.o _ _ h.o,nY.o];have:=kX.o;have:=hlen.o;(try rw[bD]);omega
     ·have hrg:dP s r = r:=by unfold dP;rw[hp];simp[hc]
      have Yz:¬(c.toNat:Int)=45:=fun e=>hc (UInt8.toNat_inj.1 (by show c.toNat=45;omega))
      rw[hrg] at hstep;clear hp hrg hc;go_wp2_with fail;refine (g_ h.o).mono ?_;rintro e w4 ⟨rfl,dD⟩;replace h:=ζ (h.o.grows dD);replace hG:=ζ (hG.o.trans (aC.grows dD hb.o));replace hb:=ζ (Nat.le_trans hb.o dD.size);(try replace aO:=ζ (aO.o.grows dD))
      (try replace hX:=ζ (hX.o.grows dD))
      (try replace hP:=ζ (hP.o.grows dD))
      (try replace hR:=ζ (hR.o.grows dD))
      clear dD;rw[jm];clear jm;go_wp2_with fail;refine aJ κ ?_;refine rK (.range 31) 0 ?_;iterate 31 refine aB ?_
      refine ay ?_;refine aP κ (fun wN hN hS=> ?_);replace h:=ζ (h.o.grows hN);replace aO:=ζ (aO.o.grows hN);replace hG:=ζ (hG.o.trans (aC.grows hN hb.o));replace hb:=ζ (Nat.le_trans hb.o hN.size);clear hN hS;have EY:=Ub;have kX:=KU;rw[if_neg (Nat.lt_irrefl _)] at hstep;replace hstep:=ζ hstep;go_wp2_with fail;refine (oI (lo:=(r).2.toNat) (hi:=(r).2.toNat) aO.o (by have:=UInt8.toNat_lt (r).2;omega) (by have:=UInt8.toNat_lt (r).2;omega)).mono ?_;rintro e w9 ⟨rfl,wX,uZ⟩;replace h:=ζ (h.o.Ag aO.o GR.o uZ);replace hG:=ζ (hG.o.trans (aC.set aO.o oQ.o uZ));replace aO:=ζ wX;clear wX uZ;go_wp2;go_roundw
      case rel=>exact⟨f - 1,false,(r).1,_,rfl,ζ (by have:=hf.o;have:=kX.o;(try rw[bD]);omega),ζ hstep.o.symm,EY,h,aO,hG⟩
      case measure=>rw[FK.o _ _ h.o,nY.o];have:=kX.o;have:=hlen.o;(try rw[bD]);omega
theorem ZE {P:Program} {fn:Func} {t1 t2:Array Value} {R:Ending→World→Prop} (h:results fn t1=results fn t2):∀(ds:List Deferred) (u:FrameMode) (w:World),Leaves P fn t1 R ds u w→Leaves P fn t2 R ds u w:=by
 intro ds;induction ds with
 | nil=>
  intro u w hl;cases u with
  | run=>exact hl
  | returning=>obtain⟨v,h1,h2⟩:=hl;exact⟨v,h ▸ h1,h2⟩
  | panicking c=>exact hl
 | cons d ds ih=>
  intro u w hl;obtain⟨hu,fv,cap,f,args,h1,h2,h3⟩:=hl;refine⟨hu,fv,cap,f,args,h1,h2,h3.mono fun e u' w' h4=> ?_⟩;cases e with
  | returned v=>exact ih _ _ h4
  | panicked c=>exact ih _ _ h4
  | outgrown=>exact h4
def ahA (base gB gs:Nat) (s:List UInt8) (xs:List DI) (sv:Value) (w:World) (r:PB×List Nat) (e:Ending) (w':World):Prop:=
 e =.returned (.tuple #[])∧ni w' base gB s r.1 xs sv∧iD w' gs r.2∧aC TC base w w'
theorem acK (t1 t2:Array Value):results Tryz.f181 t1=results Tryz.f181 t2:=by
 simp[results]
theorem aan {R:Ending→World→Prop} (c:List PanicEntry) (a:Act) (d:Option Tmp) (v:Value) (w:World) (h:Exit.inBlock 0 (bodyPostD Tryz.prog Tryz.f181 R) (.panic c) (Act.put a d v) w):Exit.inBlock 0 (bodyPostD Tryz.prog Tryz.f181 R) (.panic c) a w:=by
 cases d with
 | none=>exact h
 | some d=>exact ZE (acK _ _) _ _ _ h
theorem ahn {w:World} {base gB gs:Nat} {s:List UInt8} {b:PB} {xs:List DI} {sv:Value} (h:ni w base gB s b xs sv) (aO:iD w gs gV) (oQ:base≤gs) (GR:∀x∈xs,x.pv≠.pointer (some ⟨gs,0,none⟩)) (hb:base≤w.heap.size) (tX:s.length≤100) (hW:b.at_≤s.length) :
 Calls Tryz.prog 181 #[.pointer (some ⟨gB,0,none⟩),.pointer (some ⟨gs,0,none⟩)] w (ahA base gB gs s xs sv w (kG s b)):=by
 replace hb:=ζ hb;have hb0:=hb;have hG:=ζ (aC.refl TC base w);have yg:Hid (∀t∈[206],t∈TC):=ζ (by intro t ht;simp[TC] at *;exact .inl ht);replace h:=ζ h;replace aO:=ζ aO;replace oQ:=ζ oQ;replace GR:=ζ GR;have hWH:=ζ hW;by_cases hp:kK s b = some 94
 ·have hcp:kG s b = ((mP s (s.length+1) true (aH b) gV).1,lI (mP s (s.length+1) true (aH b) gV).2):=by unfold kG;rw[if_pos hp]
  have jm:iV s b =.tuple #[.int .u8 94,.bool true]:=by simp only[iV,hp];rfl
  have wL:Hid ((aH b).at_≤s.length):=ζ (dN hp).2.1;replace hcp:=ζ hcp;clear hp;go_enter_defers Tryz.func181,Tryz.ntmps181
  go_wp2_with fail;refine (g_ h.o).mono ?_;rintro e w1 ⟨rfl,bZ⟩;replace h:=ζ (h.o.grows bZ);replace hG:=ζ (hG.o.trans (aC.grows bZ hb.o));replace hb:=ζ (Nat.le_trans hb.o bZ.size);(try replace aO:=ζ (aO.o.grows bZ))
  (try replace hX:=ζ (hX.o.grows bZ))
  (try replace hP:=ζ (hP.o.grows bZ))
  (try replace hR:=ζ (hR.o.grows bZ))
  clear bZ;rw[jm];clear jm;have c1:w1.cell? ⟨gB,1,none⟩=some (.int .i64 ((b).at_:Int)):=(h.o.blk.cell 1).trans rfl;have f1:=h.o.blk.frozen 1;have l1:=h.o.blk.lt;have i1: -9223372036854775808≤((b).at_:Int)+1∧((b).at_:Int)+1≤9223372036854775807:=by first | omega | (simp only[aH];omega)
  have hA:=ζ h.o.EW;have gU:=ζ (hG.o.trans ((aC.own h.o (aj w1 ⟨gB,1,none⟩ (.int .i64 (((b).at_:Int)+1)))).mono yg.o));have hsz:Hid ((w1.setCell ⟨gB,1,none⟩ (.int .i64 (((b).at_:Int)+1))).heap.size=w1.heap.size):=ζ σ;go_wp2_with fail;(try replace aO:=ζ (aO.o.tk (aC.own h.o (aj w1 ⟨gB,1,none⟩ (.int .i64 (((b).at_:Int)+1)))) δ))
  (try replace hX:=ζ ((aC.own h.o (aj w1 ⟨gB,1,none⟩ (.int .i64 (((b).at_:Int)+1)))).blk hX.o δ))
  (try replace hP:=ζ ((aC.own h.o (aj w1 ⟨gB,1,none⟩ (.int .i64 (((b).at_:Int)+1)))).blk hP.o δ))
  (try replace hR:=ζ ((aC.own h.o (aj w1 ⟨gB,1,none⟩ (.int .i64 (((b).at_:Int)+1)))).blk hR.o δ))
  clear c1 f1 l1 i1 h hG;generalize w1.setCell ⟨gB,1,none⟩ (.int .i64 (((b).at_:Int)+1))=w2 at *
  have h:=hA;have hG:=gU;clear hA gU;replace hb:=ζ (Nat.le_trans hb0.o hG.o.size);refine aeV (f0:=s.length+1) h aO oQ GR hb0 hG (ζ ω) (ζ rfl) (ζ (WP.of_le wL.o)) tX aan ?_;intros
  rename_i w9 hrel;obtain⟨h9,wX,uX⟩:=hrel;refine leaves_cons (f:=182) (args:= #[.pointer (some ⟨gs,0,none⟩)]) σ (by simp[go_sem]) ?_;refine (YQ (u:=.returning) wX.o).mono ?_;rintro e u' w'' ⟨rfl,rfl,avb,asP⟩;refine⟨_,results_none rfl _ _ _,rfl,?_⟩;rw[hcp.o];exact⟨h9.o.Ag wX.o GR.o asP,avb,uX.o.trans (aC.set wX.o oQ.o asP)⟩
 ·have hcp:kG s b = mP s (s.length+1) true b gV:=by unfold kG;rw[if_neg hp]
  obtain⟨c,ok,jm,hc⟩:∃(c:Int) (ok:Bool),iV s b =.tuple #[.int .u8 c,.bool ok]∧¬c = 94:=by
   cases hq:kK s b with
   | none=>exact⟨0,false,by simp only[iV,hq],δ⟩
   | some d=>exact⟨(d.toNat:Int),true,by simp only[iV,hq],fun e=>hp (by rw[hq];congr 1;exact UInt8.toNat_inj.1 (by show d.toNat=94;omega))⟩
  rw[hcp];clear hp hcp;go_enter_defers Tryz.func181,Tryz.ntmps181
  go_wp2_with fail;refine (g_ h.o).mono ?_;rintro e w1 ⟨rfl,bZ⟩;replace h:=ζ (h.o.grows bZ);replace hG:=ζ (hG.o.trans (aC.grows bZ hb.o));replace hb:=ζ (Nat.le_trans hb.o bZ.size);(try replace aO:=ζ (aO.o.grows bZ))
  (try replace hX:=ζ (hX.o.grows bZ))
  (try replace hP:=ζ (hP.o.grows bZ))
  (try replace hR:=ζ (hR.o.grows bZ))
  clear bZ;rw[jm];clear jm;go_wp2_with fail;refine aeV (f0:=s.length+1) h aO oQ GR hb0 hG (ζ ω) (ζ rfl) (ζ (WP.of_le hWH.o)) tX aan ?_;intros
  rename_i w9 hrel;obtain⟨h9,wX,uX⟩:=hrel;exact⟨_,results_none rfl _ _ _,rfl,h9.o,wX.o,uX.o⟩
end Go.Proofs.YteojanlajhebhaaGreatDoor
