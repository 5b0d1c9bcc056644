/- Parts: GrpD FldE GrpE GrpF -/
import Derived.Test.YteojanlajhebhaaGreatDoorGs0
import Derived.Test.YteojanlajhebhaaGreatDoorGs13
import Derived.Test.YteojanlajhebhaaGreatDoorGs4
import Derived.Test.YteojanlajhebhaaGreatDoorGs3
import Derived.Test.YteojanlajhebhaaGreatDoorGs5
import Derived.Test.YteojanlajhebhaaGreatDoorGs7
set_option maxRecDepth 100000
set_option maxHeartbeats 12800000
namespace Go.Proofs.YteojanlajhebhaaGreatDoor
open Go.RowKit Go.Maps
def Dn:Code→List Code
 | .seq a b=>Dn a ++Dn b
 | .cond _ a b=>Dn a ++Dn b
 | .block _ c=>Dn c
 | .scope c=>Dn c
 | .loop c=> .loop c ::Dn c
 | _=>[]
def Gy (f:Func) (n:Nat):Code:=((f.body.map Dn).getD []).getD n .skip
def bU (p:HY) (r:Nat):List (List UInt8):=((p.routes[r]?).map (·.iM)).getD []
theorem KH {p:dU} {r:Nat} {x:F6} (h:p.o[r]? = some x):bU p.dQ r = x.r.iM:=by
 unfold bU;rw[show p.dQ.routes=p.o.map (·.r) from rfl,List.getElem?_map,h];rfl
theorem af5 {l:List eu} {n:List (List UInt8)}:(dV l n).length≤l.length∧∀x∈dV l n,x∈l:=⟨List.length_filter_le _ _,fun _ hx=>(List.mem_filter.1 hx).1⟩
theorem iE.cell {w:World} {b0 RB:Nat} {vs:List Value} {rs:List (List bM)} (h:iE w b0 RB vs rs) {r:Nat} {v:Value} (hv:vs[r]? = some v):w.cell? ⟨RB,r,none⟩=some v:=by
 simp only[World.cell?,h.row];simpa using hv
theorem Own.aoI {α:Type} {w w':World} {b0 k m:Nat} {e:TypeId} {enc:α→List Value} {v:Value} {xs:List α} (h:Own w b0 e k enc v xs) (hg:w.grownBy w' (some m)) (hm:∀cur e fz,w.heap[m]?≠some (.cells cur e fz)):Own w' b0 e k enc v xs:=
 h.kept' hg (fun g pU hv=>by injection pU with pU;subst pU;obtain⟨cur,hc⟩:=fP h hv;exact hm _ _ _ hc)
theorem Ap {α:Type} {w:World} {b0 k:Nat} {e:TypeId} {enc:α→List Value} {v:Value} {xs:List α} (h:Own w b0 e k enc v xs) (h0:0<xs.length):∃gb cap,v =.slice (some ⟨gb,0,none⟩) xs.length cap:=by
 rcases h.2 with⟨_,h6⟩ | ⟨g,cap,_,h5,_⟩
 ·omega
 ·exact⟨g,cap,h5⟩
theorem LW {α:Type} {l:List α} {i:Nat} {x:α} (h:l[i]? = some x):l.set i x = l:=by
 obtain⟨hi,rfl⟩:=List.getElem?_eq_some_iff.1 h;exact List.set_getElem_self hi
theorem Tq {α β:Type} {f:β→α→β} {l:List α} {k:Nat} {x:α} {b:β} (h:l[k]? = some x):(l.take (k+1)).foldl f b = f ((l.take k).foldl f b) x:=by
 rw[List.take_add_one,h,List.foldl_append];rfl
theorem ag3 {p:dU} {rec:List UInt8} {gc RB MB id j Fn fk cn ck:Nat} {fA cA:Option Addr} {cc:Array Value} {F:List Nat} {cf:List eu} {st:Qq} {vs:List Value} {rs:List (List bM)} {w0 wS:World} {Q0:Exit→Act→World→Prop} {x0 x2 x3 x5 x6 x7 x8 Hr F8 Df xX CJ Ad Ac yE xW xU xR xQ xI xH xG xP xO yD yY yX yV yU yT Aa z_ zZ zY zX zW zV zU zT zS zQ zO zN zM zL zK zJ zI zH Cb B_ BZ BX BU BR BP BN BM BK zG zF zD zC zB BJ BH BG BF BD BA Bz Bv Bq CB Cm Cj Ci Ce zA zy zx zu zq zo C9 CZ Bo Bl zn Bj Bh kS kR kQ kP kN kM mF mD mg lZ mV mQ nX ny ql qj qh qg qc pI pG pF pq o_ o9 oZ oW rP rO rM rJ rH rG qX qJ yF:Value}
 (he:Hid (EX w0)) (hp:Hid (p.At w0)) (hE:Hid (X6 w0 p.cells.toArray gc cc (.slice fA Fn fk) F (.slice cA cn ck) cf wS)) (hcc:Hid (cc[1]? = some (.slice cA cn ck))) (hR:Hid (iE wS w0.heap.size RB vs rs)) (hM:Hid (lW Tryz.prog 9 3 wS MB st.place.length (qZ st.place))) (hRB:Hid (w0.heap.size≤RB)) (hMB:Hid (w0.heap.size≤MB)) (hI:Hid (yw p.om j st)) (hj:Hid (j≤24000)) (pR:Hid (rs.map (·.map bM.g)=st.aX)) (hF:Hid ((∀r∈F,r < p.om)∧F.length≤12)) (Qa:Hid (rec.length≤1000)) (hcf:Hid (cf.length≤8∧∀f∈cf,f.n.length+f.v.length≤1000)) (QA:p.om≤12)
 (U_:∀c a d v w,Q0 (.panic c) (Act.put a d v) w→Q0 (.panic c) a w)
 (tY:∀(u17 u18 u19 u20 u21 u22 u23 u24 u56 u57 Yt Yr Yq Yp Yo Yn u64 Ym Yl Yk u68 u69 u70 u71 u72 Yj Yi Yh Yg Yf Ye Yd Yc Yb Vq Vp Vo Vm Vl u87 u88 u89 u90 u91 u92 u93 Ya X_ X9 u97 X8 X7 Ih Ig Ie Ic Ib Ia H_ H9 H8 H7 Fe Fb H6 JG JF JE JD JC JB PZ PY PX PW PV PU PS PN UW UU UR UQ UO UN:Value) (wr:World),(∃vs' rs',Hid (yw p.om (j + 2*F.length) (F.foldl (stepG rec id cf (bU p.dQ)) st))∧Hid (rs'.map (·.map bM.g)=(F.foldl (stepG rec id cf (bU p.dQ)) st).aX)∧Hid (iE wr w0.heap.size RB vs' rs')∧Hid (lW Tryz.prog 9 3 wr MB (F.foldl (stepG rec id cf (bU p.dQ)) st).place.length (qZ (F.foldl (stepG rec id cf (bU p.dQ)) st).place))∧Hid (aS wr w0.heap.size 26 p.cells.toArray)∧Hid (ah w0 wr))→Q0 (.exit 2) ⟨(x0::(.string ⟨rec.toArray⟩)::x2::x3::(.pointer (some ⟨w0.heap.size,0,none⟩))::x5::x6::x7::x8::(.slice (some ⟨RB,0,none⟩) p.om p.om)::(.map (some MB))::Hr::F8::(.pointer (some ⟨gc,0,none⟩))::Df::(.int .u64 (id:Int))::xX::u17::u18::u19::u20::u21::u22::u23::u24::xI::xH::xG::xP::xO::yD::yY::yX::yV::yU::yT::Aa::z_::zZ::zY::zX::zW::zV::zU::zT::zS::zQ::zO::zN::zM::zL::zK::zJ::zI::(.slice fA Fn fk)::(.int .i64 (Fn:Int))::u56::u57::Yt::Yr::Yq::Yp::Yo::Yn::u64::Ym::Yl::Yk::u68::u69::u70::u71::u72::Yj::Yi::Yh::Yg::Yf::Ye::Yd::Yc::Yb::Vq::Vp::Vo::Vm::Vl::u87::u88::u89::u90::u91::u92::u93::Ya::X_::X9::u97::X8::X7::Ih::Ig::Ie::Ic::Ib::Ia::H_::H9::H8::H7::Fe::Fb::H6::JG::JF::JE::JD::JC::JB::PZ::PY::PX::PW::PV::PU::PS::PN::UW::UU::UR::UQ::UO::UN::qX::qJ::yF::[]).toArray,[]⟩ wr) :
 Code.wp Tryz.prog (Gy Tryz.f10 1) Q0 ⟨(x0::(.string ⟨rec.toArray⟩)::x2::x3::(.pointer (some ⟨w0.heap.size,0,none⟩))::x5::x6::x7::x8::(.slice (some ⟨RB,0,none⟩) p.om p.om)::(.map (some MB))::Hr::F8::(.pointer (some ⟨gc,0,none⟩))::Df::(.int .u64 (id:Int))::xX::CJ::Ad::Ac::yE::xW::xU::xR::xQ::xI::xH::xG::xP::xO::yD::yY::yX::yV::yU::yT::Aa::z_::zZ::zY::zX::zW::zV::zU::zT::zS::zQ::zO::zN::zM::zL::zK::zJ::zI::(.slice fA Fn fk)::(.int .i64 (Fn:Int))::(.int .i64 0)::zH::Cb::B_::BZ::BX::BU::BR::BP::BN::BM::BK::zG::zF::zD::zC::zB::BJ::BH::BG::BF::BD::BA::Bz::Bv::Bq::CB::Cm::Cj::Ci::Ce::zA::zy::zx::zu::zq::zo::C9::CZ::Bo::Bl::zn::Bj::Bh::kS::kR::kQ::kP::kN::kM::mF::mD::mg::lZ::mV::mQ::nX::ny::ql::qj::qh::qg::qc::pI::pG::pF::pq::o_::o9::oZ::oW::rP::rO::rM::rJ::rH::rG::qX::qJ::yF::[]).toArray,[]⟩ wS:=by
 conv=>arg 2;whnf
 go_loopw [17,18,19,20,21,22,23,24,56] (fun _ _ _ _ _ _ _ _ i wr=>∃(q:Nat) (sq:Qq) (vs':List Value) (rs':List (List bM)),q≤Fn∧i =.int .i64 q∧Hid (sq=(F.take q).foldl (stepG rec id cf (bU p.dQ)) st)∧Hid (yw p.om (j + 2*q) sq)∧Hid (rs'.map (·.map bM.g)=sq.aX)∧Hid (iE wr w0.heap.size RB vs' rs')∧Hid (lW Tryz.prog 9 3 wr MB sq.place.length (qZ sq.place))∧Hid (X6 w0 p.cells.toArray gc cc (.slice fA Fn fk) F (.slice cA cn ck) cf wr)) (fun _ _ _ _ _ _ _ _ i _=>Fn-(intOf i).toNat)
 case atStart=>exact⟨0,st,vs,rs,ω,rfl,rfl,hI,pR,hR,hM,hE⟩
 case round=>
  have hFl:Hid (F.length=Fn):=ζ (by obtain⟨A,c,hv,_⟩:=hE.o.F.arr JV;injection hv with _ h _;exact h.symm);clear hE hR hM pR hI;obtain⟨q,sq,vs',rs',hq,rfl,gY,hI,pR,hR,hM,hE⟩:=hrel;by_cases hqF:q<Fn
  ·obtain⟨A0,c0,hv0,_,_,CS⟩:=hE.o.F.arr JV;simp only[Value.slice.injEq] at hv0;obtain⟨rfl,hl0,rfl⟩:=hv0;rw[←hl0] at CS;obtain⟨bb,off,r,rfl,JI,hx,hcell⟩:=CS.at_ hqF;have f0:wr.cell? ⟨bb,off+q,none⟩=some (.int .i64 (r:Int)):=by simpa using hcell 0 _ rfl
   have hqi:(q:Int)<(Fn:Int):=ω;have uH:=ζ hE.o.G.size;have ax7:Fn≤12:=by have:=hF.o.2;have:=hFl.o;omega
   have hrm:=hF.o.1 r (List.mem_of_getElem? hx);obtain⟨b2,o2,x,O8,hs2,hxo,nK⟩:=(hp.o.o.keep hE.o.G).at_ hrm;have r1:wr.cell? ⟨b2,o2+r * 6+1,none⟩=some (.slice x.bA x.bm x.bk):=nK 1 _ rfl;have p4:=hE.o.B.c4;have pz:=hE.o.B.lt;have k1:wr.cell? ⟨gc,1,none⟩=some (.slice cA cn ck):=(hE.o.C.cell 1).trans hcc.o;have kz:=hE.o.C.lt;rw[O8] at p4;have avd:(r:Int)<(p.om:Int):=ω;have yN:=Tq (f:=stepG rec id cf (bU p.dQ)) (b:=st) hx;rw[←gY.o] at yN;have Hw:=KH hxo;have hxb:=(hp.o.oAt x (List.mem_of_getElem? hxo));obtain⟨A3,c3,hv3,_,_,E8⟩:=hE.o.f.arr JW;simp only[Value.slice.injEq] at hv3;obtain⟨rfl,hl3,rfl⟩:=hv3;rw[←hl3] at E8;have cP:=fun (W:World) (hW:ah wr W)=>ajn (c:=ck) (c2:=x.bk) W (E8.keep hW) (by have:=hcf.o.1;omega) (hxb.iM.keep (hE.o.G.trans hW)) hxb.Ve
   rw[←Hw] at cP;replace cP:=ζ cP;replace yN:=ζ yN;clear hcell nK CS E8 hxb hxo Hw O8 hl3 hl0;go_wp2;refine bV (μ (.range 10) [8]) κ κ rfl κ π ?_;iterate 8 refine dX ?_
   refine iw rfl (fun K' hK=> ?_);go_simp;refine (cP.out _ ((ah.refl wr).drew)).mono ?_;rintro e w1 ⟨vb,rfl,hOb,hb1⟩;replace hb1:ah wr w1:=((ah.refl wr).drew).trans hb1;replace hOb:Own w1 wr.heap.size 63 2 fU vb (dV cf (bU p.dQ r)):=hOb;replace hOb:=ζ hOb;refine hK.o _ _ ?_ (fun hS=> ?_)
   ·exact hb1
   clear hK hS;iterate 1 refine dX ?_
   refine gK ?_;clear cP f0 r1 p4 pz k1 kz;have jc:=af5 (l:=cf) (n:=bU p.dQ r);generalize apr:dV cf (bU p.dQ r)=bf at *
   replace apr:=ζ apr;obtain⟨bA,bk,rfl,_,_,Oa⟩:=hOb.o.arr JW;have hbl:bf.length≤8:=by have:=hcf.o.1;omega
   have hbf:∀f∈bf,f.n.length+f.v.length≤1000:=fun f hf=>hcf.o.2 f (jc.2 f hf)
   replace hE:=ζ (hE.o.grows hb1);replace hR:=ζ (hR.o.grows hb1);replace hM:=ζ (hM.o.grows hb1);have cW:=afa (r:=r) (c:=bk) w1 (he.o.grows hE.o.G) ω Oa ω hbf;have cY:=fun (W:World) (hW:ah w1 W)=>Xk (R:=rec) (a:=(r:Int)) (c:=bk) W (Oa.keep hW) Qa.o ω hbf
   have O7:=QS (r:=r) ω bf hbf;generalize hws:eU r bf=ws at *
   generalize hky:iG (P6 (fE rec r bf)) 8=ky at *
   replace cW:=ζ cW;replace cY:=ζ cY;clear hb1 jc Oa;go_wp2_with fail;refine (cW.out).mono ?_;rintro e w2 ⟨rfl,hb2⟩;replace hOb:=ζ (hOb.o.grows hb2);replace hE:=ζ (hE.o.grows hb2);replace hR:=ζ (hR.o.grows hb2);replace hM:=ζ (hM.o.grows hb2);replace cY:=ζ (fun W (hW:ah w2 W)=>cY.out W (hb2.trans hW));clear cW hb2;have hlk:=fun y hy=>lW.ajy (t:=79) hM.o Tryz.underlying9 Tryz.underlying79 Tryz.underlying3 κ (s:=ws) (by unfold maxLen;omega) (x:=y) hy
   rw[OW] at hlk;have hstep:stepG rec id cf (bU p.dQ) sq r = match oO sq.place ws with
    | some k=>{sq with aX:=pX sq.aX r k id}
    | none=>match sq.aX[r]? with
     | some gs=>{aX:=pX (sq.aX.set r (gs++[⟨r,bf,ky,[]⟩])) r gs.length id,place:=sq.place++[(ws,gs.length)]}
     | none=>sq:=by
    unfold stepG yK;rw[apr.o,hws,hky];rfl
   have jU:r < rs'.length:=by have:=hI.o.len;rw[←pR.o,List.length_map] at this;omega
   obtain⟨gr,hgr⟩:∃gr,rs'[r]? = some gr:=⟨_,List.getElem?_eq_getElem jU⟩;obtain⟨v,hv⟩:∃v,vs'[r]? = some v:=⟨_,List.getElem?_eq_getElem (by rw[hR.o.len];exact jU)⟩;have ZX:sq.aX[r]? = some (gr.map bM.g):=by rw[←pR.o,List.getElem?_map,hgr];rfl
   have hIN:Hid (yw p.om (j + 2*(q+1)) (stepG rec id cf (bU p.dQ) sq r)):=ζ (hI.o.step rec id cf (bU p.dQ) r);cases hlp:oO sq.place ws with
   | some k=>
    rw[hlp] at hlk hstep;have ao6:=hlk (k:Int) rfl;simp only at hstep;have hkg:k<gr.length:=by have:=hI.o.pl _ _ (NR hlp) r bf _ hws ZX;simpa using this
    obtain⟨gb,cap,hvf⟩:=Ap (hR.o.own r v gr hv hgr) ω;generalize hnn:gr.length=n at *
    subst hvf;obtain⟨xg,Xn⟩:∃xg,gr[k]? = some xg:=⟨_,List.getElem?_eq_getElem ω⟩;have hNS:Hid (stepG rec id cf (bU p.dQ) sq r = ⟨pX sq.aX r k id,sq.place⟩):=ζ hstep;obtain⟨kT,hkT⟩:∃kT,kT=k:=⟨_,rfl⟩;obtain⟨wT,hwT⟩:∃wT,wT=w2:=⟨_,rfl⟩;obtain⟨vsT,au2⟩:∃vsT,vsT=vs':=⟨_,rfl⟩;obtain⟨rsT,ash⟩:∃rsT,rsT=rs':=⟨_,rfl⟩;obtain⟨gsT,avM⟩:∃gsT,gsT=gr:=⟨_,rfl⟩;obtain⟨Ai,amK⟩:∃Ai,Ai=sq.aX:=⟨_,rfl⟩;subst hkT hwT au2 ash avM;have hjT:Hid (j + 2*q≤30000):=ζ (by have:=hj.o;have:=hFl.o;have:=hF.o.2;omega);have hRT:=hR;have hvT:=hv;have hgT:=hgr;have hET:=hE;have hMT:=hM;have hIT:Hid (yw p.om (j + 2*q) ⟨Ai,sq.place⟩):=ζ (by rw[amK];exact hI.o);have SL:Hid (rsT.map (·.map bM.g)=Ai):=ζ (by rw[amK];exact pR.o);rw[←amK] at hNS;clear hlk hstep hkg hR hv hgr hE hM hI pR ZX amK hlp jU cY hbl hbf O7 hws hky hOb hnn;have Z7:=hRT.o.own r _ gsT hvT hgT;have hnl:=Z7.len N7;have Np:kT<n:=by have:=(List.getElem?_eq_some_iff.1 Xn).1;omega
    obtain⟨xq,hxq,hcx,hfx⟩:=Z7.at_ N7 Np;obtain rfl:xq=xg:=Option.some.inj (hxq.symm.trans Xn);have g3:wT.cell? ⟨gb,kT*4+3,none⟩=some (.slice xq.iA xq.im xq.ik):=hcx 3 _ rfl;have gl:=World.block_lt_of_cell? wT _ g3;simp only at gl;have rc:=hRT.o.cell hvT;have rl:=hRT.o.lt;have avA:(kT:Int)<((n:Nat):Int):=ω;have Va:=hRT.o.ids r gsT kT xq hgT Xn;have GN:Ai[r]? = some (gsT.map bM.g):=by rw[←SL.o,List.getElem?_map,hgT];rfl
    have KQ:(gsT.map bM.g)[kT]? = some xq.g:=by rw[List.getElem?_map,Xn];rfl
    have hSi:xC xq.ids:=hIT.o.srt r _ kT _ GN KQ;have ZW:xq.ids.length≤100000:=by have:=hIT.o.mi r _ kT _ GN KQ;have:=hjT.o;exact Nat.le_trans ‹_› ω
    obtain⟨_,_,hvi,_,_,hAi⟩:=Va.arr Qd;simp only[bM.iv,Value.slice.injEq] at hvi;obtain⟨e1,e2,e3⟩:=hvi;rw[←e2] at hAi;rw[←e1] at hAi;have Vd:=PD (c:=xq.ik) (t:=id) wT hAi (by rw[e2];omega) hSi;have Qb:=Jq xq.ids id;have uY:(id∈xq.ids)∨¬(id∈xq.ids):=Classical.em _;replace e2:=ζ e2;clear hcx hxq hAi e1 e3;rcases uY with uY | uY
    ·rw[decide_eq_true uY] at Vd;have Xr:(rsT.map (·.map bM.g))=(stepG rec id cf (bU p.dQ) sq r).aX:=by
      rw[hNS.o,SL.o];show _ = pX Ai r kT id
      rw[sJ GN KQ,show ({xq.g with ids:=iU xq.g.ids id}:oh)=xq.g by
       have:iU xq.g.ids id=xq.g.ids:=if_pos uY;rw[this],LW KQ,LW GN]
     have hmf:lW Tryz.prog 9 3 wT MB (stepG rec id cf (bU p.dQ) sq r).place.length (qZ (stepG rec id cf (bU p.dQ) sq r).place):=by rw[hNS.o];exact hMT.o
     replace Vd:=ζ Vd;replace Xr:=ζ Xr;replace hmf:=ζ hmf;generalize rX xq.ids id=PO at *
     clear Va Z7 hSi GN KQ uY hNS hMT SL hIT hgT Xn hvT hfx;go_wp2_with fail;refine (Vd.out).mono ?_;rintro e w5 ⟨rfl,hw5⟩;rw[hw5];clear hw5 w5 Vd;go_wp2;go_roundw
     case rel=>exact⟨q+1,_,vsT,rsT,ω,ν,ζ yN.o.symm,hIN,Xr,hRT,hmf,hET⟩
     case measure=>exact ψ
    ·rw[decide_eq_false uY] at Vd;have hsz:=hET.o.G.size;have hWI:ah wT (wT.alloc (.cells #[.int .u64 (id:Int)] 50)):=(ah.refl wT).alloc _;have cIn:=Sr (c:=1) (i:=rX xq.ids id) (h:=wT.heap.size) (t:=id) (wT.alloc (.cells #[.int .u64 (id:Int)] 50)) (Va.alloc _) (by simp;omega) Qb ω (heap_alloc_new wT _) (fun j hj=>by have:=RF Va hj;omega);have hpl:=vJ (t:=id) Qb;have sW:iU xq.ids id=putAt xq.ids (rX xq.ids id) id:=if_neg uY;replace Vd:=ζ Vd;replace cIn:=ζ cIn;replace sW:=ζ sW;replace hpl:=ζ hpl;replace Va:=ζ Va;replace Z7:=ζ Z7;replace hWI:=ζ hWI;generalize rX xq.ids id=PO at *
     generalize putAt xq.ids PO id=PI at *
     clear hSi uY hfx;go_wp2_with fail;refine (Vd.out).mono ?_;rintro e w5 ⟨rfl,hw5⟩;rw[hw5];clear hw5 w5 Vd;go_wp2_with fail;refine (cIn.out).mono ?_;rintro e w6 ⟨v6,rfl,Nq,vU,hv6⟩;obtain⟨A6,c6,rfl,_,_,_⟩:=Nq.arr Qd;have XC:=(Z7.o.alloc (.cells #[.int .u64 (id:Int)] 50)).kept' vU (fun g pU hv2=>by obtain⟨cur,hc⟩:=fP (Va.o.alloc (.cells #[.int .u64 (id:Int)] 50)) pU;exact iZ (Z7.o.alloc (.cells #[.int .u64 (id:Int)] 50)) hc δ hv2);obtain⟨xr,hxr,hcr,GR⟩:=XC.at_ N7 Np;obtain rfl:xr=xq:=Option.some.inj (hxr.symm.trans Xn);have g6:w6.cell? ⟨gb,kT*4+3,none⟩=some (.slice xr.iA xr.im xr.ik):=hcr 3 _ rfl;have gf6:=GR (kT*4+3);have gl6:=World.block_lt_of_cell? w6 _ g6;simp only at gl6;have hR7:=iE.upd (x':=⟨xr.r,xr.key,xr.iM,xr.bA,xr.bm,xr.bk,PI,A6,PI.length,c6⟩) (hRT.o.grows hWI.o) hvT hgT Xn Nq vU hv6 ⟨rfl,rfl⟩ rfl;have Xr:((rsT.set r (gsT.set kT ⟨xr.r,xr.key,xr.iM,xr.bA,xr.bm,xr.bk,PI,A6,PI.length,c6⟩)).map (·.map bM.g))=(stepG rec id cf (bU p.dQ) sq r).aX:=by
      rw[hNS.o];show _ = pX Ai r kT id
      rw[sJ GN KQ,show iU xr.g.ids id=PI from sW.o,List.map_set,SL.o,List.map_set];rfl
     have ZQ:∀j,Value.ownBlock xr.iv=some j→pW (wT.alloc (.cells #[.int .u64 (id:Int)] 50)) w0.heap.size j:=pW.sU (Va.o.alloc (.cells #[.int .u64 (id:Int)] 50)) (Nat.le_refl _) (.inr rfl);have aO:=aj w6 ⟨gb,kT*4+3,none⟩ (.slice A6 PI.length c6);obtain⟨apY,N_⟩:=fP XC (g:=gb) rfl;have hE7:=((hET.o.grows hWI.o).row vU ZQ).row aO (pW.sU XC (Nat.le_refl _) (.inl rfl));have hM7:=((hMT.o.grows hWI.o).ajE (Va.o.alloc (.cells #[.int .u64 (id:Int)] 50)) vU).IW aO N_;have hmf:lW Tryz.prog 9 3 (w6.setCell ⟨gb,kT*4+3,none⟩ (.slice A6 PI.length c6)) MB (stepG rec id cf (bU p.dQ) sq r).place.length (qZ (stepG rec id cf (bU p.dQ) sq r).place):=by rw[hNS.o];exact hM7
     replace hR7:=ζ hR7;replace hE7:=ζ hE7;replace hmf:=ζ hmf;replace Xr:=ζ Xr;clear hM7 aO N_ ZQ XC Nq vU hv6 hcr hxr GR Va Z7 GN KQ hNS hMT SL hIT hRT hET hWI cIn sW;generalize hPL:PI.length=PLn at *
     go_wp2;go_roundw
     case rel=>exact⟨q+1,_,vsT,_,ω,ν,ζ yN.o.symm,hIN,Xr,hR7,hmf,hE7⟩
     case measure=>exact ψ
   | none=>
    rw[hlp,ZX] at hstep;rw[hlp] at hlk;have ao6:=hlk 0 rfl;simp only[List.length_map] at hstep;have akF:=hR.o.own r v gr hv hgr;obtain⟨vA,vc,rfl,hvn,hvm,_⟩:=akF.arr N7;have hOr:=ζ akF;have atd:some RB≠(Value.slice vA gr.length vc).ownBlock:=fun e=>iZ akF hR.o.row δ e.symm
    have JU:Hid (∀j,(Value.slice vA gr.length vc).ownBlock=some j→w0.heap.size≤j):=ζ (fun j hj=>akF.eH j hj);have rc:=hR.o.cell hv;have rl:=hR.o.lt;have amL:(r:Int)<(p.om:Int):=avd;have hgl:gr.length≤30000:=by have:=hI.o.mr r _ ZX;rw[List.length_map] at this;have:=hj.o;omega
    have hpl:sq.place.length≤30000:=by have:=hI.o.mp;have:=hj.o;omega
    have hIP:=ζ (yw.push (aX:=sq.aX) (place:=sq.place) hI.o (fs:=bf) (key:=ky) ZX);rw[hws] at hIP;generalize hnn:gr.length=n at *
    replace hnn:=ζ hnn;replace hlp:=ζ hlp;replace hstep:=ζ hstep;replace ZX:=ζ ZX;replace hws:=ζ hws;replace hky:=ζ hky;replace hv:=ζ hv;replace hgr:=ζ hgr;replace O7:=ζ O7;replace hbf:=ζ hbf;clear hlk akF cY;have amG:ws.length≤maxLen:=by have:=O7.o;unfold maxLen;omega
    have hwf:(Lit.int .i64 (n:Int)).wf=true:=WalkArith.wf_i64 ω;go_wp2_with (at_mapUpdate;refine OE hM.o rfl _ _ _ rfl Tryz.underlying9 Tryz.underlying79 (by unfold maxLen;omega) ws amG (.int .i64 (n:Int)) (.int .i64 (n:Int)) rfl rfl rfl (plainElem_int Tryz.underlying3 hwf) ?_;intro w3 hM3 iT);have aoV:=pW.of_map hM.o hMB.o;have hRn:=ζ (hR.o.other iT hM.o.vN);have hEn:=ζ (hE.o.row iT aoV);have hOn:=ζ (hOb.o.IW iT aoV δ δ δ);have hMn:Hid (lW Tryz.prog 9 3 w3 MB (sq.place.length+1) (qZ (sq.place++[(ws,n)]))):=ζ (by rw[Zl];exact hM3);have Og:=ζ (hOr.o.aoI iT hM.o.vN);clear iT hM3 aoV hOr ao6 hR hE hM hOb rc rl;have rc:=hRn.o.cell hv.o;have rl:=hRn.o.lt;generalize hrow:(Value.slice vA n vc).ownBlock=row at *
    replace hrow:=ζ hrow;have cY3:=ζ (fun (W:World) (hW:w3.grownBy W row)=>by
     have Xq:∀j,row=some j→pW w3 w0.heap.size j:=fun j hj=>pW.sU Og.o (Nat.le_refl _) (.inl rfl) j (by rw[hrow.o,hj])
     have:=hOn.o.IW hW Xq δ δ δ;obtain⟨A9,c9,hv9,_,_,hA9⟩:=this.arr JW;simp only[Value.slice.injEq] at hv9;obtain⟨rfl,_,rfl⟩:=hv9;have:=Xk (R:=rec) (a:=(r:Int)) (c:=bk) W hA9 Qa.o ω hbf.o;rw[hky.o] at this;exact this)
    refine qK (row) κ ?_;refine rK (up:=oK) (.range 13) 4 ?_;iterate 11 refine jX ?_
    refine bJ (.int .u64 (ky:Int)) rfl χ (fun wq gY=> ?_) ?_
    ·obtain⟨qB,rE⟩:=XV gY;go_simp;exact Calls.mono (cY3.out wq gY) (fun e w'' h=>h)
    go_simp;iterate 1 refine jX ?_
    refine ay ?_;refine aY [13] κ σ (fun wN hN hS=>(aK.cons rfl (fun K' hK=> ?_) aK.nil));try replace hRn:=ζ (hRn.o.grows hN)
    try replace hEn:=ζ (hEn.o.grows hN)
    try replace hOn:=ζ (hOn.o.grows hN)
    try replace hMn:=ζ (hMn.o.grows hN)
    try replace Og:=ζ (Og.o.grows hN)
    try replace dR:=ζ (dR.o.grows hN)
    try replace gu:=ζ (gu.o.grows hN)
    try replace fV:=ζ (oD fV.o hN)
    clear hN;go_simp;refine hK.o _ _ ?_ (fun hS=> ?_)
    ·exact oD (by assumption) ((ah.refl _).alloc _)
    have dR:=ζ (aS.new wN 53 #[.int .i64 (r:Int),.slice bA bf.length bk,.int .u64 (ky:Int),.slice none 0 0]);have dF:ah wN (wN.alloc (.cells #[.int .i64 (r:Int),.slice bA bf.length bk,.int .u64 (ky:Int),.slice none 0 0] 53)):=(ah.refl _).alloc _;replace hRn:=ζ (hRn.o.grows dF);replace hEn:=ζ (hEn.o.grows dF);replace hOn:=ζ (hOn.o.grows dF);replace hMn:=ζ (hMn.o.grows dF);replace Og:=ζ (Og.o.grows dF);clear dF;clear hK hS;refine aY [14] κ σ (fun wN hN hS=>(aK.cons rfl (fun K' hK=> ?_) aK.nil));try replace hRn:=ζ (hRn.o.grows hN)
    try replace hEn:=ζ (hEn.o.grows hN)
    try replace hOn:=ζ (hOn.o.grows hN)
    try replace hMn:=ζ (hMn.o.grows hN)
    try replace Og:=ζ (Og.o.grows hN)
    try replace dR:=ζ (dR.o.grows hN)
    try replace gu:=ζ (gu.o.grows hN)
    try replace fV:=ζ (oD fV.o hN)
    clear hN;have jY:=hEn.o.G.size;refine Own.grown (x:=(⟨r,ky,bf,bA,bf.length,bk,[],none,0,0⟩:bM)) ap9 rfl (.tmp 93) (.tmp 101) rfl Og.o rfl ⟨_,0,none⟩ rfl (N7 _) (h_ dR.o) (amn _) jY (by unfold maxLen;rw[hnn.o];omega) (by rw[hnn.o];omega) (fun v4 w4 gu fV hv4=> ?_);rw[hrow.o] at fV;have Xq:=fun j hj=>pW.sU Og.o (Nat.le_refl _) (.inl rfl) j (by rw[hrow.o];exact hj)
    have hRA:=hRn;have atf:=hOn;replace hEn:=ζ (hEn.o.row fV Xq);replace hMn:=ζ (hMn.o.ajE Og.o (by rw[hrow.o];exact fV));obtain⟨gb,cap,agB⟩:=Ap gu σ;rw[List.length_append,hnn.o] at agB;simp only[List.length_cons,List.length_nil,Nat.zero_add] at agB;subst agB;replace gu:=ζ gu;replace hv4:=ζ hv4;clear Xq jY Og dR hRn hOn;go_simp;refine hK.o _ _ ?_ (fun hS=> ?_)
    ·exact World.grownBy.trans (by assumption) fV
    replace fV:=ζ fV;clear hK hS;refine rK (up:=oK) [15] 1 ?_;iterate 1 refine jX ?_
    refine ay ?_;refine dI (i:=16) rfl κ κ (fun wN hN hS K' hK=> ?_);try replace hRn:=ζ (hRn.o.grows hN)
    try replace hEn:=ζ (hEn.o.grows hN)
    try replace hOn:=ζ (hOn.o.grows hN)
    try replace hMn:=ζ (hMn.o.grows hN)
    try replace Og:=ζ (Og.o.grows hN)
    try replace dR:=ζ (dR.o.grows hN)
    try replace gu:=ζ (gu.o.grows hN)
    try replace fV:=ζ (oD fV.o hN)
    clear hS;have NG:=(fV.o.block RB hRA.o.lt atd).trans hRA.o.row;have rcN:wN.cell? ⟨RB,r,none⟩=some (.slice vA n vc):=by simp only[World.cell?,NG];simpa using hv.o
    have rfN:wN.frozen? ⟨RB,r,none⟩=false:=by simp[World.frozen?,NG]
    have Rn:=World.block_lt_of_cell? wN _ rcN;simp only at Rn;go_simp;refine hK.o _ _ ?_;clear hK;have ajU:=aj wN ⟨RB,r,none⟩ (.slice (some ⟨gb,0,none⟩) (n + 1) cap);have asj:∀j,some RB=some j→pW wN w0.heap.size j:=fun j hj=>by
     injection hj with hj;subst hj
     exact⟨hRB.o,fun cur e fz hc=>by rw[NG] at hc;simp only[Option.some.injEq,Obj.cells.injEq] at hc;exact .inr (.inr hc.2.1.symm)⟩
    have hRT:=ζ (iE.push hRA.o hv.o hgr.o (x:=(⟨r,ky,bf,bA,bf.length,bk,[],none,0,0⟩:bM)) gu.o (by rw[hrow.o];exact fV.o) (hv4.o.imp (fun h=>h) (fun h=>⟨_,h,Nat.le_refl _⟩)) ⟨rfl,rfl⟩ (atf.o.ig uH.o));have hET:=ζ (hEn.o.row ajU asj);have hMT:=ζ (hMn.o.IW ajU NG);have hNS:Hid (stepG rec id cf (bU p.dQ) sq r = ⟨pX (sq.aX.set r (gr.map bM.g ++[⟨r,bf,ky,[]⟩])) r n id,sq.place++[(ws,n)]⟩):=hstep;have hIT:=hIP;rw[List.length_map,hnn.o] at hIT;have asi:=jU;obtain⟨kT,hkT⟩:∃kT,kT=n:=⟨_,rfl⟩;subst hkT;have hlv:r < vs'.length:=by rw[←(show vs'.length=vs'.length from rfl)];exact (List.getElem?_eq_some_iff.1 hv.o).1
    have hvT:(vs'.set r (.slice (some ⟨gb,0,none⟩) (kT+1) cap))[r]? = some (.slice (some ⟨gb,0,none⟩) (kT+1) cap):=List.getElem?_set_self hlv;have hgT:(rs'.set r (gr++[(⟨r,ky,bf,bA,bf.length,bk,[],none,0,0⟩:bM)]))[r]? = some (gr++[(⟨r,ky,bf,bA,bf.length,bk,[],none,0,0⟩:bM)]):=List.getElem?_set_self jU;have Xn:(gr++[(⟨r,ky,bf,bA,bf.length,bk,[],none,0,0⟩:bM)])[kT]? = some ⟨r,ky,bf,bA,bf.length,bk,[],none,0,0⟩:=by rw[←hnn.o];simp
    have SL:Hid ((rs'.set r (gr++[(⟨r,ky,bf,bA,bf.length,bk,[],none,0,0⟩:bM)])).map (·.map bM.g)=sq.aX.set r (gr.map bM.g ++[⟨r,bf,ky,[]⟩])):=ζ (by rw[List.map_set,pR.o,List.map_append];rfl);have hjT:Hid (j + 2*q+1≤30000):=ζ (by have:=hj.o;omega);have ati:Hid (lW Tryz.prog 9 3 (wN.setCell ⟨RB,r,none⟩ (.slice (some ⟨gb,0,none⟩) (kT+1) cap)) MB (sq.place++[(ws,kT)]).length (qZ (sq.place++[(ws,kT)]))):=ζ (by rw[List.length_append];exact hMT.o);clear hMT;have hMT:=ati;have axw:kT≤30000:=hgl;clear ati ajU asj hRA gu fV hv4 atf hEn hMn NG rcN rfN Rn hstep hIP hI pR ZX hws hky hlp hv hgr hrow atd JU O7 hbf amG hwf hnn rc rl hlv hN cY3 hgl hpl hbl asi;generalize rs'.set r (gr++[(⟨r,ky,bf,bA,bf.length,bk,[],none,0,0⟩:bM)])=rsT at *
    generalize gr++[(⟨r,ky,bf,bA,bf.length,bk,[],none,0,0⟩:bM)]=gsT at *
    generalize vs'.set r (.slice (some ⟨gb,0,none⟩) (kT+1) cap)=vsT at *
    generalize sq.aX.set r (gr.map bM.g ++[⟨r,bf,ky,[]⟩])=Ai at *
    generalize wN.setCell ⟨RB,r,none⟩ (.slice (some ⟨gb,0,none⟩) (kT+1) cap)=wT at *
    generalize (⟨r,ky,bf,bA,bf.length,bk,[],none,0,0⟩:bM)=xg at *
    have Z7:=hRT.o.own r _ gsT hvT hgT;have hnl:=Z7.len N7;have Np:kT<(kT+1):=by have:=(List.getElem?_eq_some_iff.1 Xn).1;omega
    obtain⟨xq,hxq,hcx,hfx⟩:=Z7.at_ N7 Np;obtain rfl:xq=xg:=Option.some.inj (hxq.symm.trans Xn);have g3:wT.cell? ⟨gb,kT*4+3,none⟩=some (.slice xq.iA xq.im xq.ik):=hcx 3 _ rfl;have gl:=World.block_lt_of_cell? wT _ g3;simp only at gl;have rc:=hRT.o.cell hvT;have rl:=hRT.o.lt;have avA:(kT:Int)<(((kT+1):Nat):Int):=ω;have Va:=hRT.o.ids r gsT kT xq hgT Xn;have GN:Ai[r]? = some (gsT.map bM.g):=by rw[←SL.o,List.getElem?_map,hgT];rfl
    have KQ:(gsT.map bM.g)[kT]? = some xq.g:=by rw[List.getElem?_map,Xn];rfl
    have hSi:xC xq.ids:=hIT.o.srt r _ kT _ GN KQ;have ZW:xq.ids.length≤100000:=by have:=hIT.o.mi r _ kT _ GN KQ;have:=hjT.o;exact Nat.le_trans ‹_› ω
    obtain⟨_,_,hvi,_,_,hAi⟩:=Va.arr Qd;simp only[bM.iv,Value.slice.injEq] at hvi;obtain⟨e1,e2,e3⟩:=hvi;rw[←e2] at hAi;rw[←e1] at hAi;have Vd:=PD (c:=xq.ik) (t:=id) wT hAi (by rw[e2];omega) hSi;have Qb:=Jq xq.ids id;have uY:(id∈xq.ids)∨¬(id∈xq.ids):=Classical.em _;replace e2:=ζ e2;clear hcx hxq hAi e1 e3;rcases uY with uY | uY
    ·rw[decide_eq_true uY] at Vd;have Xr:(rsT.map (·.map bM.g))=(stepG rec id cf (bU p.dQ) sq r).aX:=by
      rw[hNS.o,SL.o];show _ = pX Ai r kT id
      rw[sJ GN KQ,show ({xq.g with ids:=iU xq.g.ids id}:oh)=xq.g by
       have:iU xq.g.ids id=xq.g.ids:=if_pos uY;rw[this],LW KQ,LW GN]
     have hmf:lW Tryz.prog 9 3 wT MB (stepG rec id cf (bU p.dQ) sq r).place.length (qZ (stepG rec id cf (bU p.dQ) sq r).place):=by rw[hNS.o];exact hMT.o
     replace Vd:=ζ Vd;replace Xr:=ζ Xr;replace hmf:=ζ hmf;generalize rX xq.ids id=PO at *
     clear Va Z7 hSi GN KQ uY hNS hMT SL hIT hgT Xn hvT hfx;go_wp2_with fail;refine (Vd.out).mono ?_;rintro e w5 ⟨rfl,hw5⟩;rw[hw5];clear hw5 w5 Vd;go_wp2;go_roundw
     case rel=>exact⟨q+1,_,vsT,rsT,ω,ν,ζ yN.o.symm,hIN,Xr,hRT,hmf,hET⟩
     case measure=>exact ψ
    ·rw[decide_eq_false uY] at Vd;have hsz:=hET.o.G.size;have hWI:ah wT (wT.alloc (.cells #[.int .u64 (id:Int)] 50)):=(ah.refl wT).alloc _;have cIn:=Sr (c:=1) (i:=rX xq.ids id) (h:=wT.heap.size) (t:=id) (wT.alloc (.cells #[.int .u64 (id:Int)] 50)) (Va.alloc _) (by simp;omega) Qb ω (heap_alloc_new wT _) (fun j hj=>by have:=RF Va hj;omega);have hpl:=vJ (t:=id) Qb;have sW:iU xq.ids id=putAt xq.ids (rX xq.ids id) id:=if_neg uY;replace Vd:=ζ Vd;replace cIn:=ζ cIn;replace sW:=ζ sW;replace hpl:=ζ hpl;replace Va:=ζ Va;replace Z7:=ζ Z7;replace hWI:=ζ hWI;generalize rX xq.ids id=PO at *
     generalize putAt xq.ids PO id=PI at *
     clear hSi uY hfx;go_wp2_with fail;refine (Vd.out).mono ?_;rintro e w5 ⟨rfl,hw5⟩;rw[hw5];clear hw5 w5 Vd;go_wp2_with fail;refine (cIn.out).mono ?_;rintro e w6 ⟨v6,rfl,Nq,vU,hv6⟩;obtain⟨A6,c6,rfl,_,_,_⟩:=Nq.arr Qd;have XC:=(Z7.o.alloc (.cells #[.int .u64 (id:Int)] 50)).kept' vU (fun g pU hv2=>by obtain⟨cur,hc⟩:=fP (Va.o.alloc (.cells #[.int .u64 (id:Int)] 50)) pU;exact iZ (Z7.o.alloc (.cells #[.int .u64 (id:Int)] 50)) hc δ hv2);obtain⟨xr,hxr,hcr,GR⟩:=XC.at_ N7 Np;obtain rfl:xr=xq:=Option.some.inj (hxr.symm.trans Xn);have g6:w6.cell? ⟨gb,kT*4+3,none⟩=some (.slice xr.iA xr.im xr.ik):=hcr 3 _ rfl;have gf6:=GR (kT*4+3);have gl6:=World.block_lt_of_cell? w6 _ g6;simp only at gl6;have hR7:=iE.upd (x':=⟨xr.r,xr.key,xr.iM,xr.bA,xr.bm,xr.bk,PI,A6,PI.length,c6⟩) (hRT.o.grows hWI.o) hvT hgT Xn Nq vU hv6 ⟨rfl,rfl⟩ rfl;have Xr:((rsT.set r (gsT.set kT ⟨xr.r,xr.key,xr.iM,xr.bA,xr.bm,xr.bk,PI,A6,PI.length,c6⟩)).map (·.map bM.g))=(stepG rec id cf (bU p.dQ) sq r).aX:=by
      rw[hNS.o];show _ = pX Ai r kT id
      rw[sJ GN KQ,show iU xr.g.ids id=PI from sW.o,List.map_set,SL.o,List.map_set];rfl
     have ZQ:∀j,Value.ownBlock xr.iv=some j→pW (wT.alloc (.cells #[.int .u64 (id:Int)] 50)) w0.heap.size j:=pW.sU (Va.o.alloc (.cells #[.int .u64 (id:Int)] 50)) (Nat.le_refl _) (.inr rfl);have aO:=aj w6 ⟨gb,kT*4+3,none⟩ (.slice A6 PI.length c6);obtain⟨apY,N_⟩:=fP XC (g:=gb) rfl;have hE7:=((hET.o.grows hWI.o).row vU ZQ).row aO (pW.sU XC (Nat.le_refl _) (.inl rfl));have hM7:=((hMT.o.grows hWI.o).ajE (Va.o.alloc (.cells #[.int .u64 (id:Int)] 50)) vU).IW aO N_;have hmf:lW Tryz.prog 9 3 (w6.setCell ⟨gb,kT*4+3,none⟩ (.slice A6 PI.length c6)) MB (stepG rec id cf (bU p.dQ) sq r).place.length (qZ (stepG rec id cf (bU p.dQ) sq r).place):=by rw[hNS.o];exact hM7
     replace hR7:=ζ hR7;replace hE7:=ζ hE7;replace hmf:=ζ hmf;replace Xr:=ζ Xr;clear hM7 aO N_ ZQ XC Nq vU hv6 hcr hxr GR Va Z7 GN KQ hNS hMT SL hIT hRT hET hWI cIn sW;generalize hPL:PI.length=PLn at *
     go_wp2;go_roundw
     case rel=>exact⟨q+1,_,vsT,_,ω,ν,ζ yN.o.symm,hIN,Xr,hR7,hmf,hE7⟩
     case measure=>exact ψ
  ·obtain rfl:q=Fn:=ω;have asc:=gY.o;rw[List.take_of_length_le (by rw[hFl.o];exact Nat.le_refl _)] at asc;subst asc;rw[←hFl.o] at hI;have hB:=ζ hE.o.B;have hG:=ζ hE.o.G;clear gY hE;go_wp2;first
    | exact⟨vs',rs',hI,pR,hR,hM,hB,hG⟩
    | exact tY _ _ _ _ _ _ _ _ _ _ _ _ _ _ _ _ _ _ _ _ _ _ _ _ _ _ _ _ _ _ _ _ _ _ _ _ _ _ _ _ _ _ _ _ _ _ _ _ _ _ _ _ _ _ _ _ _ _ _ _ _ _ _ _ _ _ _ _ _ _ _ _ _ _ _ _ _ _ _ _ _ _ _ _ _ _ ⟨vs',rs',hI,pR,hR,hM,hB,hG⟩
end Go.Proofs.YteojanlajhebhaaGreatDoor
namespace Go.Proofs.YteojanlajhebhaaGreatDoor
open Go.RowKit
theorem G8 {l:List eu} (h:mZ l = true):l.length≤8∧∀f∈l,f_ f.n = true∧f.v.length≤200:=by
 unfold mZ at h;simp only[Bool.and_eq_true,decide_eq_true_eq,List.all_eq_true] at h;exact⟨h.2,fun f hf=>h.1.1 f hf⟩
theorem NQ {n:List UInt8} (h:f_ n = true):1≤n.length∧n.length≤12:=by
 unfold f_ at h;simp only[Bool.and_eq_true,decide_eq_true_eq] at h;omega
end Go.Proofs.YteojanlajhebhaaGreatDoor
namespace Go.Proofs.YteojanlajhebhaaGreatDoor
open Go.RowKit Go.Maps
def oH (ft:List eu→jq→Bool) (p:HY) (rec:List UInt8) (now:Int) (st:Qq) (a:Jj):Qq:=match jH p rec a now with
 | none=>st
 | some c=>(qR ft p rec c.fs).foldl (stepG rec (FH c) c.fs (bU p)) st
def uI (ft:List eu→jq→Bool) (p:HY) (rec:List UInt8) (l:List Jj) (now:Int):Qq:=l.foldl (oH ft p rec now) ⟨List.replicate p.routes.length [],[]⟩
def Du (fb:jq→Bool) (ft:List eu→jq→Bool) (p:HY) (rec:List UInt8) (l:List Jj) (now:Int):List oh:=if jJ fb p = 0 then (uI ft p rec l now).aX.flatten else []
def alC (w:World) (b0:Nat) (gs:List bM):Prop:=∀x∈gs,Own w b0 50 1 lU x.iv x.ids∧Own w b0 63 2 fU x.bv x.iM
theorem M_ {fb:jq→Bool} {p:HY} (h:jJ fb p = 0):OX p = false∧ahq fb p = false:=by
 unfold jJ at h;split at h
 ·cases h
 ·split at h
  ·cases h
  ·rename_i h1 h2;exact⟨by simpa using h1,by simpa using h2⟩
theorem RY {p:HY} (h:OX p = false):p.routes.length≤12∧p.IX.length≤12:=by
 unfold OX at h;simp only[Bool.or_eq_false_iff,decide_eq_false_iff_not] at h;omega
theorem Ou {l:List Hl} {n:List UInt8} {y:Cc} (h:gG l n = some y):∃x∈l,x.n = n∧x.l = y:=by
 unfold gG at h;obtain⟨x,hx,rfl⟩:=Option.map_eq_some_iff.1 h;exact⟨x,List.mem_of_find?_eq_some hx,by simpa using List.find?_some hx,rfl⟩
theorem adT {fb:jq→Bool} {p:HY} (h:ahq fb p = false):ku p.receivers=true:=by
 unfold ahq Ju at h;simp only[List.any_cons,List.any_nil,Bool.or_eq_false_iff,Bool.not_eq_false'] at h;exact h.1.2.1
theorem Nz {fb:jq→Bool} {p:HY} {rec:List UInt8} {a c:Jj} {now:Int} (GU:jJ fb p = 0) (h:jH p rec a now=some c) :
 rec.length≤12∧c.src.length≤12∧c.fs.length≤8∧∀f∈c.fs,f.n.length+f.v.length≤1000:=by
 unfold jH at h;cases hf:gG p.receivers rec with
 | none=>rw[hf] at h;cases h
 | some to=>
  rw[hf] at h;simp only at h;obtain⟨x,hx,hxn,_⟩:=Ou hf;have hn:=adT (M_ GU).2;unfold ku at hn;simp only[Bool.and_eq_true] at hn;have hxo:=List.all_eq_true.1 hn.1 x hx;unfold uF at hxo;simp only[Bool.and_eq_true] at hxo;have jU:=NQ hxo.1;rw[hxn] at jU;split at h
  ·rename_i hb;simp only[Bool.and_eq_true] at hb;have hab:=hb.1;unfold rD at hab;simp only[Bool.and_eq_true] at hab;have tX:=NQ hab.1.1.1.1.1;have hfi:=G8 hab.1.1.1.2;unfold G9 at h;split at h
   ·cases h
   ·injection h with h
    subst h;refine⟨ω,tX.2,?_,fun f hf=> ?_⟩
    ·have:=uy p a.fs a.l to;have:=hfi.1;simp only;omega
    ·have hfm:=(List.mem_filter.1 hf).1;have:=hfi.2 f hfm;have:=NQ this.1;have:=(hfi.2 f hfm).2;omega
  ·cases h
theorem ag9 {ft:List eu→jq→Bool} {p:HY} {rec:List UInt8} {fs:List eu}:(∀r∈qR ft p rec fs,r < p.routes.length)∧(qR ft p rec fs).length≤p.routes.length:=
 ⟨fun r hr=>by
  unfold qR nR at hr;have:=(List.mem_filter.1 hr).1;simpa using this,KW _ _ _ _ _⟩
def V6 (v:Value) (gs:List bM):Gsl:=match v with
 | .slice A n c=>⟨A,n,c,gs⟩
 | _=>⟨none,0,0,gs⟩
theorem aap:∀(vs:List Value) (rs:List (List bM)),vs.length=rs.length→CX (List.zipWith V6 vs rs)=rs.flatten
 | [],[],_=>rfl
 | v ::vs,gs::rs,h=>by
  have ih:=aap vs rs (by simpa using h);have hx:(V6 v gs).xs=gs:=by unfold V6;split <;> rfl
  unfold CX at ih ⊢;rw[List.zipWith_cons_cons,List.flatMap_cons,ih,hx,List.flatten_cons]
 | [],_ ::_,h=>by simp at h
 | _ ::_,[],h=>by simp at h
theorem ajg {w:World} {b0 RB:Nat} {vs:List Value} {rs:List (List bM)} (h:iE w b0 RB vs rs):∃bs,dH w 1 aeT (some ⟨RB,0,none⟩) rs.length bs∧(∀b∈bs,dH w 4 KX b.A b.n b.xs)∧CX bs=rs.flatten:=by
 have hz:(List.zipWith V6 vs rs).length=rs.length:=by rw[List.length_zipWith,h.len,Nat.min_self]
 have key:∀(i:Nat) (b:Gsl),(List.zipWith V6 vs rs)[i]? = some b→∃A n c gs,vs[i]? = some (.slice A n c)∧b = ⟨A,n,c,gs⟩∧dH w 4 KX A n gs:=fun i b hb=>by
  have hi:i < rs.length:=by have:=(List.getElem?_eq_some_iff.1 hb).1;rw[hz] at this;exact this
  have h1:vs[i]? = some (vs[i]'(by rw[h.len];exact hi)):=List.getElem?_eq_getElem _;have h2:rs[i]? = some rs[i]:=List.getElem?_eq_getElem hi;obtain⟨A,c,hv,_,_,ha⟩:=(h.own i _ _ h1 h2).arr N7;rw[List.getElem?_zipWith,h1,h2] at hb;simp only[Option.some.injEq] at hb;rw[hv] at h1 hb;exact⟨A,_,c,rs[i],h1,hb.symm,ha⟩
 refine⟨List.zipWith V6 vs rs,⟨hz,fun _=>⟨RB,0,rfl,h.lt,fun i hi j u hu=> ?_⟩⟩,fun b hb=> ?_,aap vs rs h.len⟩
 ·obtain⟨A,n,c,gs,h1,h2,_⟩:=key i _ (List.getElem?_eq_getElem hi);rw[h2] at hu;have hj:j = 0:=by have:=(List.getElem?_eq_some_iff.1 hu).1;simp[aeT] at this;omega
  subst hj;simp only[aeT,List.getElem?_cons_zero,Option.some.injEq] at hu;subst hu;simpa using h.cell h1
 ·obtain⟨i,hi⟩:=List.getElem?_of_mem hb;obtain⟨A,n,c,gs,_,h2,h3⟩:=key i b hi;subst h2;exact h3
theorem Pn {α:Type} {B:Nat}:∀l:List (List α),(∀x∈l,x.length≤B)→l.flatten.length≤l.length*B
 | [],_=>by simp
 | x ::l,h=>by
  have:=Pn l (fun y hy=>h y (by simp[hy]));have:=h x σ;simp only[List.flatten_cons,List.length_append,List.length_cons,Nat.add_mul];omega
theorem Tm {fb:jq→Bool} {ft:List eu→jq→Bool} {p:dU} {rec:List UInt8} {lA:Option Addr} {lm lk:Nat} {xs:List iI} {now:Int} (w:World) (he:EX w) (hp:p.At w) (Dq:Hq fb p) (O_:Ho ft p)
 (hA:dH w 6 FV lA lm xs) (hat:∀a∈xs,a.At w) (hlm:lm≤1000) :
 Calls Tryz.prog 10 #[p.val,.string ⟨rec.toArray⟩,.slice lA lm lk,.int .i64 now] w fun e w'=>∃v gs,e =.returned v∧TU w' w.heap.size v gs∧alC w' w.heap.size gs∧gs.map bM.g = Du fb ft p.dQ rec (xs.map (·.a)) now∧ah w w':=by
 have cK:=fun W (hW:ah w W)=>Wq W (hp.keep hW) Dq
 have hGL:Du fb ft p.dQ rec (xs.map (·.a)) now=if jJ fb p.dQ=0 then (uI ft p.dQ rec (xs.map (·.a)) now).aX.flatten else []:=rfl
 generalize Du fb ft p.dQ rec (xs.map (·.a)) now=GL at *
 by_cases GU:jJ fb p.dQ=0
 ·rw[GU] at cK;rw[if_pos GU] at hGL;have QA:p.om≤12:=by have:=(RY (M_ GU).1).1;rw[show p.dQ.routes=p.o.map (·.r) from rfl,List.length_map,hp.o.1] at this;exact this
  have jU:p.dQ.routes.length=p.om:=by rw[show p.dQ.routes=p.o.map (·.r) from rfl,List.length_map,hp.o.1]
  have cS:=fun (a:iI) (ha:a∈xs) W (hW:ah w W)=>Y1 (rec:=rec) (now:=now) W (hp.keep hW) ((hat a ha).keep hW)
  have cF:=fun (c:iI) W (hW:ah w W) (hcA:dH W 2 fU c.A c.m c.a.fs) (hcm:c.m≤9223372036854775807) (hT:∀f∈c.a.fs,f.v.length≤1000000)=>aaf (rec:=rec) (a:=c) W (hp.keep hW) hcA hcm hT ω O_
  have qA:=hA.1;have ZU:=run_make_row' (P:=Tryz.prog) 78 45 (.slice none 0 0) 24 Tryz.underlying78 κ rfl .i64 .i64 p.om ω ω;have U6:= @run_makeMap Tryz.prog;have aoS:uI ft p.dQ rec (xs.map (·.a)) now=(xs.map (·.a)).foldl (oH ft p.dQ rec now) ⟨List.replicate p.om [],[]⟩:=by
   unfold uI;rw[jU]
  unfold dU.val at cK cS cF ⊢;replace cK:=ζ (fun W=>cK W);replace cS:=ζ cS;replace cF:=ζ cF;replace hA:=ζ hA;replace he:=ζ he;replace hp:=ζ hp;replace hGL:=ζ hGL;replace aoS:=ζ aoS;replace qA:=ζ qA;replace GU:=ζ GU;replace jU:=ζ jU;replace hat:=ζ hat;clear Dq;go_enter Tryz.func10,Tryz.ntmps10
  go_wp2_with fail;refine (cK.out _ γ).mono ?_;rintro e w1 ⟨rfl,hb1⟩;have ET:Hid (aS w1 w.heap.size 26 p.cells.toArray):=ζ ((aS.new w _ _).grows hb1);have mX:Hid (ah w w1):=ζ (((ah.refl w).alloc _).trans hb1);have q4:=ET.o.c4;have qz:=ET.o.lt;clear cK hb1;go_wp2;clear ZU U6;have hRB:(((w1.alloc (.cells (madeCells #[.slice none 0 0] p.om) 45)).alloc (.map #[] 0))).heap[w1.heap.size]? = some (.cells (madeCells #[.slice none 0 0] p.om) 45 (0,0)):=by
   rw[heap_alloc_old _ _ σ];exact heap_alloc_new w1 _
  have aoQ:=ζ mX.o.size;replace hRB:=ζ hRB;go_loopw [12,13,14,15,17,18,19,20,21,22,23,24,35,54,55,56] (fun _ _ _ _ _ _ _ _ _ _ _ _ i _ _ _ wr=>∃(k:Nat) (st:Qq) (vs:List Value) (rs:List (List bM)),k≤lm∧i =.int .i64 k∧Hid (st=((xs.map (·.a)).take k).foldl (oH ft p.dQ rec now) ⟨List.replicate p.om [],[]⟩)∧Hid (yw p.om (24*k) st)∧Hid (rs.map (·.map bM.g)=st.aX)∧
   Hid (iE wr w.heap.size w1.heap.size vs rs)∧Hid (lW Tryz.prog 9 3 wr (w1.heap.size+1) st.place.length (qZ st.place))∧Hid (aS wr w.heap.size 26 p.cells.toArray)∧Hid (ah w wr)) (fun _ _ _ _ _ _ _ _ _ _ _ _ i _ _ _ _=>lm-(intOf i).toNat)
  case atStart=>
   refine⟨0,_,_,_,ω,rfl,rfl,yw.start _,?_,iE.start hRB.o,?_,(ET.o.alloc _).alloc _,(mX.o.alloc _).alloc _⟩
   ·show _ = _;simp
   ·have:=lW.made (w1.alloc (.cells (madeCells #[.slice none 0 0] p.om) 45)) Tryz.prog 9 3;show lW _ _ _ _ _ _ _
    simpa[qZ] using this
  case round=>
   clear hRB ET mX q4 qz;obtain⟨k,st,vs,rs,hk,rfl,hst,hI,pR,hR,hM,hB,hG⟩:=hrel;by_cases nV:k<lm
   ·obtain⟨bb,off,x,rfl,JI,hx,hcell⟩:=(hA.o.keep hG.o).at_ nV;have c0:wr.cell? ⟨bb,off+k*6,none⟩=some (.string ⟨x.a.src.toArray⟩):=hcell 0 _ rfl;have c1:wr.cell? ⟨bb,off+k*6+1,none⟩=some (.slice x.A x.m x.k):=hcell 1 _ rfl;have c2:wr.cell? ⟨bb,off+k*6+2,none⟩=some (.int .i64 x.a.l.lv):=hcell 2 _ rfl;have c3:wr.cell? ⟨bb,off+k*6+3,none⟩=some (.int .u32 (x.a.l.c:Int)):=hcell 3 _ rfl;have c4:wr.cell? ⟨bb,off+k*6+4,none⟩=some (.int .i64 x.a.f):=hcell 4 _ rfl;have c5:wr.cell? ⟨bb,off+k*6+5,none⟩=some (.int .i64 x.a.t):=hcell 5 _ rfl;have j_:(k:Int)<(lm:Int):=ω;have NS:=List.mem_of_getElem? hx;have hxa:(xs.map (·.a))[k]? = some x.a:=by rw[List.getElem?_map,hx];rfl
    have yN:=Tq (f:=oH ft p.dQ rec now) (b:=(⟨List.replicate p.om [],[]⟩:Qq)) hxa;rw[←hst.o] at yN;have hag:oH ft p.dQ rec now st x.a = match jH p.dQ rec x.a now with
     | none=>st
     | some c=>(qR ft p.dQ rec c.fs).foldl (stepG rec (FH c) c.fs (bU p.dQ)) st:=rfl
    have r_:=fun c=>Nz (c:=c) (rec:=rec) (a:=x.a) (now:=now) GU.o
    have cX:=cS.out x NS;unfold jy at cX;generalize jH p.dQ rec x.a now=S at *
    replace cX:=ζ cX;replace yN:=ζ yN;replace r_:=ζ r_;replace hag:=ζ hag;clear hcell hx NS hxa hst;have p0:=hB.o.cell 0;have p1:=hB.o.cell 1;have p2:=hB.o.cell 2;have p3:=hB.o.cell 3;have p4:=hB.o.cell 4;have p5:=hB.o.cell 5;have pz:=hB.o.lt;unfold dU.cells at p0 p1 p2 p3 p4 p5;simp only[List.getElem?_toArray,List.getElem?_cons_zero,List.getElem?_cons_succ] at p0 p1 p2 p3 p4 p5;go_wp2_with fail;refine (cX.out _ (by
     have hG:=hG.o;exact γ
    )).mono ?_
    rintro e w2 ⟨v,rfl,hv,hb2⟩;have iC:=ζ ((hG.o.alloc (.cells #[.string ⟨x.a.src.toArray⟩,.slice x.A x.m x.k,.int .i64 x.a.l.lv,.int .u32 (x.a.l.c:Int),.int .i64 x.a.f,.int .i64 x.a.t] 42)).trans hb2);have hgr:=((ah.refl wr).alloc (.cells #[.string ⟨x.a.src.toArray⟩,.slice x.A x.m x.k,.int .i64 x.a.l.lv,.int .u32 (x.a.l.c:Int),.int .i64 x.a.f,.int .i64 x.a.t] 42)).trans hb2;replace hR:=ζ (hR.o.grows hgr);replace hM:=ζ (hM.o.grows hgr);replace hB:=ζ (hB.o.grows hgr);have au7:=hG.o.size;clear cX p0 p1 p2 p3 p4 p5 pz c0 c1 c2 c3 c4 c5 hG;cases S with
    | none=>
     have agP:=hag.o;simp only at agP;obtain rfl:v = jM:=hv;unfold jM;clear hag r_ hgr hb2;have aoR:Hid (st=((xs.map (·.a)).take (k+1)).foldl (oH ft p.dQ rec now) ⟨List.replicate p.om [],[]⟩):=ζ (by rw[yN.o,agP]);have hI2:=ζ (hI.o.mono (show 24*k≤24*(k+1) by omega));have hW:ah w2 (w2.alloc (.cells #[.string ⟨#[]⟩,.slice none 0 0,.int .i64 0,.int .u32 0,.int .i64 0,.int .i64 0] 42)):=(ah.refl w2).alloc _;go_wp2;go_roundw
     case rel=>exact⟨k+1,st,vs,rs,ω,ν,aoR,hI2,pR,hR.o.grows hW,hM.o.grows hW,hB.o.grows hW,iC.o.trans hW⟩
     case measure=>exact ψ
    | some c=>
     have agP:=ζ hag.o;have hi:=r_.o c rfl;obtain⟨A',c',rfl,hO⟩:=hv;have pY:=hO.ig (base':=w.heap.size) (by simp;omega);unfold jy;have yO:=hi.2.2.1;obtain⟨lV,qV,⟨Dx,Dy⟩,Dz,Dw⟩:=c;simp only at pY agP hi yO ⊢;obtain⟨_,_,hvv,_,_,GZ⟩:=pY.arr JW;simp only[Value.slice.injEq] at hvv;obtain⟨rfl,_,rfl⟩:=hvv;clear hag r_ hO hgr hb2;have hW:ah w2 (w2.alloc (.cells #[.string ⟨lV.toArray⟩,.slice A' qV.length c',.int .i64 Dx,.int .u32 (Dy:Int),.int .i64 Dz,.int .i64 Dw] 42)):=(ah.refl w2).alloc _;have hC:=ζ (aS.new w2 42 #[.string ⟨lV.toArray⟩,.slice A' qV.length c',.int .i64 Dx,.int .u32 (Dy:Int),.int .i64 Dz,.int .i64 Dw]);have cI:=aoL (a:=⟨⟨lV,qV,⟨Dx,Dy⟩,Dz,Dw⟩,A',qV.length,c'⟩) _ (GZ.keep hW) (by simp only;omega) (by simp only;omega) hi.2.2.2;have cG:=fun W (hX:ah w2 W)=>cF.out ⟨⟨lV,qV,⟨Dx,Dy⟩,Dz,Dw⟩,A',qV.length,c'⟩ W (iC.o.trans hX) (GZ.keep hX) (by simp only;omega) (fun f hf=>by have:=hi.2.2.2 f hf;omega)
     unfold jy at cI cG;simp only at cI cG;have hfm:=ag9 (ft:=ft) (p:=p.dQ) (rec:=rec) (fs:=qV);rw[jU.o] at hfm;generalize FH ⟨lV,qV,⟨Dx,Dy⟩,Dz,Dw⟩=id at *
     generalize qR ft p.dQ rec qV=F at *
     replace cI:=ζ cI;replace cG:=ζ cG;replace hfm:=ζ hfm;replace hR:=ζ (hR.o.grows hW);replace hM:=ζ (hM.o.grows hW);replace hB:=ζ (hB.o.grows hW);replace pY:=ζ (pY.grows hW);have uj:=ζ (iC.o.trans hW);replace hW:=ζ hW;have hcf:=ζ (show qV.length≤8∧∀f∈qV,f.n.length+f.v.length≤1000 from ⟨yO,hi.2.2.2⟩);have Qa:=ζ (show rec.length≤1000 by have:=hi.1;omega);clear GZ hi yO iC;go_wp2_with fail;refine (cI.out).mono ?_;rintro e w3 ⟨rfl,hb3⟩;replace hC:=ζ (hC.o.grows hb3);replace hB:=ζ (hB.o.grows hb3);have x0:_ = some (Value.string ⟨lV.toArray⟩):=hC.o.cell 0;have x1:_ = some (Value.slice A' qV.length c'):=hC.o.cell 1;have x2:_ = some (Value.int .i64 Dx):=hC.o.cell 2;have x3:_ = some (Value.int .u32 (Dy:Int)):=hC.o.cell 3;have x4:_ = some (Value.int .i64 Dz):=hC.o.cell 4;have x5:_ = some (Value.int .i64 Dw):=hC.o.cell 5;have xz:=hC.o.lt;have p0:=hB.o.cell 0;have p1:=hB.o.cell 1;have p2:=hB.o.cell 2;have p3:=hB.o.cell 3;have p4:=hB.o.cell 4;have p5:=hB.o.cell 5;have pz:=hB.o.lt;unfold dU.cells at p0 p1 p2 p3 p4 p5;simp only[List.getElem?_toArray,List.getElem?_cons_zero,List.getElem?_cons_succ] at p0 p1 p2 p3 p4 p5;clear cI;go_wp2_with fail;refine (cG.out _ (hW.o.trans hb3)).mono ?_;rintro e w4 ⟨fv,rfl,hOf,hb4⟩;obtain⟨fA,fk,rfl,_,_,hA4⟩:=hOf.arr JV;have hg4:=hb3.trans hb4;have xZ:=uj.o.size;have hE:Hid (X6 w p.cells.toArray w2.heap.size #[.string ⟨lV.toArray⟩,.slice A' qV.length c',.int .i64 Dx,.int .u32 (Dy:Int),.int .i64 Dz,.int .i64 Dw] (.slice fA F.length fk) F (.slice A' qV.length c') qV w4):=
      ζ ⟨uj.o.trans hg4,hB.o.grows hb4,hC.o.grows hb4,hOf.ig (by have:=uj.o.size;have:=hb3.size;omega),pY.o.grows hg4⟩
     have hR4:=ζ (hR.o.grows hg4);have hM4:=ζ (hM.o.grows hg4);clear cG hR hM hB hC pY hOf hb3 hb4 hg4 hA4 x0 x1 x2 x3 x4 x5 xz p0 p1 p2 p3 p4 p5 pz uj xZ hW;have hj:Hid (24*k≤24000):=ζ ω;have awi:Hid (w.heap.size≤w1.heap.size):=aoQ;have awn:Hid (w.heap.size≤w1.heap.size+1):=ζ (by have:=aoQ.o;omega);have hF:Hid ((∀r∈F,r < p.om)∧F.length≤12):=ζ ⟨hfm.o.1,by have:=hfm.o.2;omega⟩;have hcc:Hid ((#[.string ⟨lV.toArray⟩,.slice A' qV.length c',.int .i64 Dx,.int .u32 (Dy:Int),.int .i64 Dz,.int .i64 Dw]:Array Value)[1]? = some (.slice A' qV.length c')):=ζ rfl;generalize hFn:F.length=Fn at *
     replace hFn:=ζ hFn;go_wp2;refine ag3 he hp hE hcc hR4 hM4 awi awn hI hj pR (by rw[hFn.o];exact hF) Qa hcf QA π ?_;rintro u17 u18 u19 u20 u21 u22 u23 u24 u56 u57 Yt Yr Yq Yp Yo Yn u64 Ym Yl Yk u68 u69 u70 u71 u72 Yj Yi Yh Yg Yf Ye Yd Yc Yb Vq Vp Vo Vm Vl u87 u88 u89 u90 u91 u92 u93 Ya X_ X9 u97 X8 X7 Ih Ig Ie Ic Ib Ia H_ H9 H8 H7 Fe Fb H6 JG JF JE JD JC JB PZ PY PX PW PV PU PS PN UW UU UR UQ UO UN wz ⟨vs',rs',hI',avc,hR',hM',Iy,hG'⟩;have aoR:Hid (F.foldl (stepG rec id qV (bU p.dQ)) st=((xs.map (·.a)).take (k+1)).foldl (oH ft p.dQ rec now) ⟨List.replicate p.om [],[]⟩):=ζ (by rw[yN.o];exact agP.o.symm);have hI2:=ζ (hI'.o.mono (show 24*k+2*F.length≤24*(k+1) by have:=hF.o.2;have:=hFn.o;omega));clear hE hR4 hM4 hI pR hI' hF hcc hcf Qa agP yN hfm hj au7;go_wp2;go_roundw
     case rel=>exact⟨k+1,_,vs',rs',ω,ν,aoR,hI2,avc,hR',hM',Iy,hG'⟩
     case measure=>exact ψ
   ·obtain rfl:k=lm:=ω;obtain⟨bs,Oa,jY,apj⟩:=ajg hR.o;have amL:rs.length=p.om:=by have:=hI.o.len;rw[←pR.o,List.length_map] at this;exact this
    rw[amL] at Oa;have hlen:(CX bs).length≤1000000000:=by
     rw[apj];have:=Pn (B:=24000) rs (fun gs oQ=>by
      obtain⟨r,hr⟩:=List.getElem?_of_mem oQ;have h1:st.aX[r]? = some (gs.map bM.g):=by rw[←pR.o,List.getElem?_map,hr];rfl
      have:=hI.o.mr r _ h1;rw[List.length_map] at this;omega)
     rw[amL] at this;have h3:p.om*24000≤12*24000:=Nat.mul_le_mul_right _ QA;omega
    have cC:=aak (c:=p.om) wr Oa jY hlen ω;rw[apj] at cC;have aQ:(rs.flatten).map bM.g = GL:=by
     rw[hGL.o,aoS.o,List.map_flatten,pR.o,hst.o,List.take_of_length_le (by rw[List.length_map,qA.o];exact Nat.le_refl _)]
    replace cC:=ζ cC;replace aQ:=ζ aQ;clear Oa jY apj hlen hM hB hI pR hst amL;go_wp2_with fail;refine (cC.out).mono ?_;rintro e w6 ⟨v6,rfl,Nq,hb6⟩;go_wp2;go_ret;refine⟨v6,rs.flatten,rfl,Nq.ig hG.o.size,fun x hx=> ?_,aQ.o,hG.o.trans hb6⟩;obtain⟨gs,oQ,hxg⟩:=List.mem_flatten.1 hx;obtain⟨r,hr⟩:=List.getElem?_of_mem oQ;obtain⟨i,hi⟩:=List.getElem?_of_mem hxg;exact⟨(hR.o.ids r gs i x hr hi).grows hb6,(hR.o.Ql r gs i x hr hi).grows hb6⟩
 ·rw[if_neg GU] at hGL;subst hGL;have hne:(jJ fb p.dQ==0)=false:=by simpa using GU
  unfold dU.val at cK ⊢;generalize jJ fb p.dQ=CK at *
  replace cK:=ζ cK;clear GU hp Dq O_ hA hat he;go_enter Tryz.func10,Tryz.ntmps10
  go_wp2_with fail;refine (cK.out _ γ).mono ?_;rintro e w1 ⟨rfl,hb1⟩;have mX:ah w w1:=((ah.refl w).alloc _).trans hb1;go_wp2;go_ret;exact⟨_,[],rfl,Own.iH _ _ _ _ _,fun x hx=>absurd hx σ,rfl,mX⟩
def uJ (fb:jq→Bool) (ft:List eu→jq→Bool) (p:HY) (rec:List UInt8) (a:Jj) (now:Int):List Nat:=match jH p rec a now with
 | none=>[]
 | some c=>if jJ fb p = 0 then qR ft p rec c.fs else []
theorem aae {fb:jq→Bool} {ft:List eu→jq→Bool} {p:dU} {rec:List UInt8} {a:iI} {now:Int} (w:World) (hp:p.At w) (Dq:Hq fb p) (O_:Ho ft p) (ha:a.At w) :
 Calls Tryz.prog 8 #[p.val,.string ⟨rec.toArray⟩,jy a,.int .i64 now] w fun e w'=>∃v,e =.returned v∧Own w' w.heap.size 3 1 encI v (uJ fb ft p.dQ rec a.a now)∧ah w w':=by
 have cS:=fun W (hW:ah w W)=>Y1 (rec:=rec) (now:=now) W (hp.keep hW) (ha.keep hW)
 have cK:=fun W (hW:ah w W)=>Wq W (hp.keep hW) Dq
 have cF:=fun (QA:p.om≤1000) (c:iI) W (hW:ah w W) (hcA:dH W 2 fU c.A c.m c.a.fs) (hcm:c.m≤9223372036854775807) (hT:∀f∈c.a.fs,f.v.length≤1000000)=>aaf (rec:=rec) (a:=c) W (hp.keep hW) hcA hcm hT QA O_
 have hGo:uJ fb ft p.dQ rec a.a now=match jH p.dQ rec a.a now with
  | none=>[]
  | some c=>if jJ fb p.dQ=0 then qR ft p.dQ rec c.fs else []:=rfl
 have r_:=fun c (h:jJ fb p.dQ=0)=>Nz (c:=c) (rec:=rec) (a:=a.a) (now:=now) h
 have QA:jJ fb p.dQ=0→p.om≤1000:=fun GU=>by
  have:=(RY (M_ GU).1).1;rw[show p.dQ.routes=p.o.map (·.r) from rfl,List.length_map,hp.o.1] at this;omega
 generalize uJ fb ft p.dQ rec a.a now=GO at *
 generalize jH p.dQ rec a.a now=S at *
 generalize jJ fb p.dQ=CK at *
 have Xz:p.cells=[.slice p.s.A p.s.m p.s.k,.slice p.r.A p.r.m p.r.k,.slice p.e.A p.e.m p.e.k,.slice p.a.A p.a.m p.a.k,.slice p.oA p.om p.ok,.slice p.iA p.im p.ik]:=rfl;unfold dU.val at cS cK cF ⊢;unfold jy at cS ⊢;replace cS:=ζ cS;replace cK:=ζ cK;replace cF:=ζ cF;replace hGo:=ζ hGo;replace r_:=ζ r_;replace QA:=ζ QA;replace Xz:=ζ Xz;clear hp Dq O_ ha;go_enter Tryz.func8,Tryz.ntmps8
 go_wp2_with fail;refine (cS.out _ γ).mono ?_;rintro e w1 ⟨v,rfl,hv,hb1⟩;have hB:=ζ (((aS.new w 26 p.cells.toArray).alloc (.cells #[.string ⟨a.a.src.toArray⟩,.slice a.A a.m a.k,.int .i64 a.a.l.lv,.int .u32 (a.a.l.c:Int),.int .i64 a.a.f,.int .i64 a.a.t] 42)).grows hb1);have hG:Hid (ah w w1):=ζ ((((ah.refl w).alloc _).alloc _).trans hb1);have hsz:=ζ (show w.heap.size+1+1≤w1.heap.size by have:=hb1.size;simp at this;omega);cases S with
 | none=>
  have Tc:=hGo.o;simp only at Tc;subst Tc;obtain rfl:v = jM:=hv;unfold jM;clear cK cF r_ QA hb1 hGo;go_wp2;go_ret;exact⟨_,rfl,Own.iH _ _ _ _ _,hG.o.alloc _⟩
 | some c=>
  have Tc:=hGo.o;simp only at Tc;obtain⟨A',c',rfl,hO⟩:=hv;have pY:=hO.ig (base':=w.heap.size) (by simp;omega);have hi:=fun h=>r_.o c h rfl
  unfold jy;obtain⟨lV,qV,⟨Dx,Dy⟩,Dz,Dw⟩:=c;simp only at pY Tc hi ⊢;obtain⟨_,_,hvv,_,_,GZ⟩:=pY.arr JW;simp only[Value.slice.injEq] at hvv;obtain⟨rfl,_,rfl⟩:=hvv;have hW:ah w1 (w1.alloc (.cells #[.string ⟨lV.toArray⟩,.slice A' qV.length c',.int .i64 Dx,.int .u32 (Dy:Int),.int .i64 Dz,.int .i64 Dw] 42)):=(ah.refl w1).alloc _;have hC:=ζ (aS.new w1 42 #[.string ⟨lV.toArray⟩,.slice A' qV.length c',.int .i64 Dx,.int .u32 (Dy:Int),.int .i64 Dz,.int .i64 Dw]);have cG:=fun (h:p.om≤1000) (hlen:qV.length≤1000) (hT:∀f∈qV,f.v.length≤1000000) W (hX:ah w1 W)=>cF.out h ⟨⟨lV,qV,⟨Dx,Dy⟩,Dz,Dw⟩,A',qV.length,c'⟩ W (hG.o.trans hX) (GZ.keep hX) (by simp only;omega) hT
  unfold jy at cG;simp only at cG;generalize qR ft p.dQ rec qV=F at *
  replace hi:=ζ hi;replace cG:=ζ cG;replace hW:=ζ hW;replace Tc:=ζ Tc;replace hB:=ζ (hB.o.grows hW.o);have p0:=hB.o.cell 0;have p1:=hB.o.cell 1;have p2:=hB.o.cell 2;have p3:=hB.o.cell 3;have p4:=hB.o.cell 4;have p5:=hB.o.cell 5;have pz:=hB.o.lt;rw[Xz.o] at p0 p1 p2 p3 p4 p5;simp only[List.getElem?_toArray,List.getElem?_cons_zero,List.getElem?_cons_succ] at p0 p1 p2 p3 p4 p5;clear hO hb1 GZ pY r_ hGo cF;go_wp2_with fail;refine (cK.out _ (hG.o.trans hW.o)).mono ?_;rintro e w2 ⟨rfl,hb2⟩;by_cases GU:CK=0
  ·have akK:=Tc.o;rw[if_pos GU] at akK;subst akK;have cG2:=ζ (cG.out (QA.o GU) (by have:=(hi.o GU).2.2.1;omega) (fun f hf=>by have:=(hi.o GU).2.2.2 f hf;omega));subst GU;replace hB:=ζ (hB.o.grows hb2);replace hC:=ζ (hC.o.grows hb2);clear p0 p1 p2 p3 p4 p5 pz cG hi Tc QA;have p0:=hB.o.cell 0;have p1:=hB.o.cell 1;have p2:=hB.o.cell 2;have p3:=hB.o.cell 3;have p4:=hB.o.cell 4;have p5:=hB.o.cell 5;have pz:=hB.o.lt;rw[Xz.o] at p0 p1 p2 p3 p4 p5;simp only[List.getElem?_toArray,List.getElem?_cons_zero,List.getElem?_cons_succ] at p0 p1 p2 p3 p4 p5;have x0:_ = some (Value.string ⟨lV.toArray⟩):=hC.o.cell 0;have x1:_ = some (Value.slice A' qV.length c'):=hC.o.cell 1;have x2:_ = some (Value.int .i64 Dx):=hC.o.cell 2;have x3:_ = some (Value.int .u32 (Dy:Int)):=hC.o.cell 3;have x4:_ = some (Value.int .i64 Dz):=hC.o.cell 4;have x5:_ = some (Value.int .i64 Dw):=hC.o.cell 5;have xz:=hC.o.lt;have hX:Hid (ah w1 w2):=ζ (hW.o.trans hb2);clear hB hC;go_wp2_with fail;refine (cG2.out _ hX.o).mono ?_;rintro e w3 ⟨fv,rfl,hOf,hb3⟩;go_wp2;go_ret;exact⟨fv,rfl,hOf.ig (by have:=hX.o.size;have:=hsz.o;omega),hG.o.trans (hX.o.trans hb3)⟩
  ·have akK:=Tc.o;rw[if_neg GU] at akK;subst akK;have hne:(CK==0)=false:=by simpa using GU
   clear GU Tc hi QA cG;have hX:ah w w2:=hG.o.trans (hW.o.trans hb2);go_wp2;go_ret;exact⟨_,rfl,Own.iH _ _ _ _ _,hX⟩
end Go.Proofs.YteojanlajhebhaaGreatDoor
