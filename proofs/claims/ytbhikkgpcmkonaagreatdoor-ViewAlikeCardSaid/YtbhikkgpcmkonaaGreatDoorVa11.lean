/- Parts: GrpD FldE GrpE RliP ClkP EngP ViwP -/
import Derived.Test.YtbhikkgpcmkonaaGreatDoorVa0
import Derived.Test.YtbhikkgpcmkonaaGreatDoorVa10
import Derived.Test.YtbhikkgpcmkonaaGreatDoorVa4
import Derived.Test.YtbhikkgpcmkonaaGreatDoorVa3
import Derived.Test.YtbhikkgpcmkonaaGreatDoorVa5
import Derived.Test.YtbhikkgpcmkonaaGreatDoorVa6
import Derived.Lib.ValidU
import Derived.Test.YtbhikkgpcmkonaaGreatDoorVa9
set_option maxRecDepth 100000
set_option maxHeartbeats 12800000
namespace Go.Proofs.YtbhikkgpcmkonaaGreatDoor
open Go.RowKit Go.Maps
def w_:Code→List Code
 | .seq a b=>w_ a ++w_ b
 | .cond _ a b=>w_ a ++w_ b
 | .block _ c=>w_ c
 | .scope c=>w_ c
 | .loop c=> .loop c ::w_ c
 | _=>[]
def apD (f:Func) (n:Nat):Code:=((f.body.map w_).getD []).getD n .skip
def dB (p:fU) (r:Nat):List (List UInt8):=((p.routes[r]?).map (·.fH)).getD []
theorem aaB {p:bU} {r:Nat} {x:Bc} (h:p.o[r]? = some x):dB p.aU r = x.r.fH:=by
 unfold dB;rw[show p.aU.routes=p.o.map (·.r) from rfl,List.getElem?_map,h];rfl
theorem aek {l:List bK} {n:List (List UInt8)}:(jh l n).length≤l.length∧∀x∈jh l n,x∈l:=⟨List.length_filter_le _ _,fun _ hx=>(List.mem_filter.1 hx).1⟩
theorem fD.cell {w:World} {b0 RB:Nat} {vs:List Value} {rs:List (List dO)} (h:fD w b0 RB vs rs) {r:Nat} {v:Value} (hv:vs[r]? = some v):w.cell? ⟨RB,r,none⟩=some v:=by
 simp only[World.cell?,h.row];simpa using hv
theorem Own.apF {α:Type} {w w':World} {b0 k m:Nat} {e:TypeId} {enc:α→List Value} {v:Value} {xs:List α} (h:Own w b0 e k enc v xs) (hg:w.grownBy w' (some m)) (hm:∀cur e fz,w.heap[m]?≠some (.cells cur e fz)):Own w' b0 e k enc v xs:=
 h.kept' hg (fun g jw hv=>by injection jw with jw;subst jw;obtain⟨cur,hc⟩:=bV h hv;exact hm _ _ _ hc)
theorem lV {α:Type} {w:World} {b0 k:Nat} {e:TypeId} {enc:α→List Value} {v:Value} {xs:List α} (h:Own w b0 e k enc v xs) (h0:0<xs.length):∃gb cap,v =.slice (some ⟨gb,0,none⟩) xs.length cap:=by
 rcases h.2 with⟨_,h6⟩ | ⟨g,cap,_,h5,_⟩
 ·omega
 ·exact⟨g,cap,h5⟩
theorem Hz {α:Type} {l:List α} {i:Nat} {x:α} (h:l[i]? = some x):l.set i x = l:=by
 obtain⟨hi,rfl⟩:=List.getElem?_eq_some_iff.1 h;exact List.set_getElem_self hi
theorem OH {α β:Type} {f:β→α→β} {l:List α} {k:Nat} {x:α} {b:β} (h:l[k]? = some x):(l.take (k+1)).foldl f b = f ((l.take k).foldl f b) x:=by
 rw[List.take_add_one,h,List.foldl_append];rfl
theorem afx {p:bU} {rec:List UInt8} {gc RB MB id j Fn fk cn ck:Nat} {fA cA:Option Addr} {cc:Array Value} {F:List Nat} {cf:List bK} {st:Ja} {vs:List Value} {rs:List (List dO)} {w0 wS:World} {Q0:Exit→Act→World→Prop} {x0 x2 x3 x5 x6 x7 x8 ED Bd EC Dj GU GR DV GN DT Ez Ey Ew Di Dh Df DR DN DL DK DJ DI DF DC Dz Dy Dx Dw GK Eu Et Es Ep Eo En Em Ej Ei Eh Ef Ee Ed Dv Ec Eb G_ G9 G8 GH Gz Gy Gx Fj Fh Fg Fe Gw Gv Gu Fb Fa E_ E8 E5 EZ EY EX EW IW IV IU Gt EU Ea D_ D9 D8 D7 Jd Jc G7 G6 Np KZ KY sV sU sS sQ sO sN sK sJ sH sG sF sD uI tY LM LK LJ LH LG LD Lu Ls Lr Lp Lm Ll Lj Lh Le Ld Lc La K_ Jg Jf Je:Value}
 (he:Hid (oD w0)) (hp:Hid (p.At w0)) (hE:Hid (VU w0 p.cells.toArray gc cc (.slice fA Fn fk) F (.slice cA cn ck) cf wS)) (hcc:Hid (cc[1]? = some (.slice cA cn ck))) (hR:Hid (fD wS w0.heap.size RB vs rs)) (hM:Hid (iV Tryz.prog 9 3 wS MB st.place.length (ni st.place))) (hRB:Hid (w0.heap.size≤RB)) (hMB:Hid (w0.heap.size≤MB)) (hI:Hid (kQ p.om j st)) (hj:Hid (j≤24000)) (nN:Hid (rs.map (·.map dO.g)=st.aV)) (hF:Hid ((∀r∈F,r < p.om)∧F.length≤12)) (LU:Hid (rec.length≤1000)) (Ov:Hid (cf.length≤8∧∀f∈cf,f.n.length+f.v.length≤1000)) (hom:p.om≤12)
 (hQ0:∀c a d v w,Q0 (.panic c) (Act.put a d v) w→Q0 (.panic c) a w)
 (oK:∀(u17 u18 u19 u20 u21 u22 u23 u24 u56 u57 u58 u59 u60 u61 u62 u63 u64 u65 u66 u67 u68 u69 u70 u71 u72 u73 u74 u75 u76 u77 u78 u79 u80 u81 u82 u83 u84 u85 u86 u87 u88 u89 u90 u91 u92 u93 u94 u95 u96 u97 u98 u99 UC UA Uz Uy Ux Uw Uu Ut Us Ur Uo Un Zx ahK ahJ ahI ahH ahG ahF ahE ahD ahC ahB ahA ahz ahy ahx ahw ahv ahu aht ahs ahr:Value) (wr:World),(∃Zq rs',Hid (kQ p.om (j + 2*F.length) (F.foldl (stepG rec id cf (dB p.aU)) st))∧Hid (rs'.map (·.map dO.g)=(F.foldl (stepG rec id cf (dB p.aU)) st).aV)∧Hid (fD wr w0.heap.size RB Zq rs')∧Hid (iV Tryz.prog 9 3 wr MB (F.foldl (stepG rec id cf (dB p.aU)) st).place.length (ni (F.foldl (stepG rec id cf (dB p.aU)) st).place))∧Hid (aF wr w0.heap.size 50 p.cells.toArray)∧Hid (ah w0 wr))→Q0 (.exit 2) ⟨(x0::(.string ⟨rec.toArray⟩)::x2::x3::(.pointer (some ⟨w0.heap.size,0,none⟩))::x5::x6::x7::x8::(.slice (some ⟨RB,0,none⟩) p.om p.om)::(.map (some MB))::ED::Bd::(.pointer (some ⟨gc,0,none⟩))::EC::(.int .u64 (id:Int))::Dj::u17::u18::u19::u20::u21::u22::u23::u24::Di::Dh::Df::DR::DN::DL::DK::DJ::DI::DF::DC::Dz::Dy::Dx::Dw::GK::Eu::Et::Es::Ep::Eo::En::Em::Ej::Ei::Eh::Ef::Ee::Ed::(.slice fA Fn fk)::(.int .i64 (Fn:Int))::u56::u57::u58::u59::u60::u61::u62::u63::u64::u65::u66::u67::u68::u69::u70::u71::u72::u73::u74::u75::u76::u77::u78::u79::u80::u81::u82::u83::u84::u85::u86::u87::u88::u89::u90::u91::u92::u93::u94::u95::u96::u97::u98::u99::UC::UA::Uz::Uy::Ux::Uw::Uu::Ut::Us::Ur::Uo::Un::Zx::ahK::ahJ::ahI::ahH::ahG::ahF::ahE::ahD::ahC::ahB::ahA::ahz::ahy::ahx::ahw::ahv::ahu::aht::ahs::ahr::Jg::Jf::Je::[]).toArray,[]⟩ wr) :
 Code.wp Tryz.prog (apD Tryz.f48 1) Q0 ⟨(x0::(.string ⟨rec.toArray⟩)::x2::x3::(.pointer (some ⟨w0.heap.size,0,none⟩))::x5::x6::x7::x8::(.slice (some ⟨RB,0,none⟩) p.om p.om)::(.map (some MB))::ED::Bd::(.pointer (some ⟨gc,0,none⟩))::EC::(.int .u64 (id:Int))::Dj::GU::GR::DV::GN::DT::Ez::Ey::Ew::Di::Dh::Df::DR::DN::DL::DK::DJ::DI::DF::DC::Dz::Dy::Dx::Dw::GK::Eu::Et::Es::Ep::Eo::En::Em::Ej::Ei::Eh::Ef::Ee::Ed::(.slice fA Fn fk)::(.int .i64 (Fn:Int))::(.int .i64 0)::Dv::Ec::Eb::G_::G9::G8::GH::Gz::Gy::Gx::Fj::Fh::Fg::Fe::Gw::Gv::Gu::Fb::Fa::E_::E8::E5::EZ::EY::EX::EW::IW::IV::IU::Gt::EU::Ea::D_::D9::D8::D7::Jd::Jc::G7::G6::Np::KZ::KY::sV::sU::sS::sQ::sO::sN::sK::sJ::sH::sG::sF::sD::uI::tY::LM::LK::LJ::LH::LG::LD::Lu::Ls::Lr::Lp::Lm::Ll::Lj::Lh::Le::Ld::Lc::La::K_::Jg::Jf::Je::[]).toArray,[]⟩ wS:=by
 conv=>arg 2;whnf
 go_loopw [17,18,19,20,21,22,23,24,56] (fun _ _ _ _ _ _ _ _ i wr=>∃(q:Nat) (sq:Ja) (Zq:List Value) (rs':List (List dO)),q≤Fn∧i =.int .i64 q∧Hid (sq=(F.take q).foldl (stepG rec id cf (dB p.aU)) st)∧Hid (kQ p.om (j + 2*q) sq)∧Hid (rs'.map (·.map dO.g)=sq.aV)∧Hid (fD wr w0.heap.size RB Zq rs')∧Hid (iV Tryz.prog 9 3 wr MB sq.place.length (ni sq.place))∧Hid (VU w0 p.cells.toArray gc cc (.slice fA Fn fk) F (.slice cA cn ck) cf wr)) (fun _ _ _ _ _ _ _ _ i _=>Fn-(intOf i).toNat)
 case atStart=>exact⟨0,st,vs,rs,ω,rfl,rfl,hI,nN,hR,hM,hE⟩
 case round=>
  have hFl:Hid (F.length=Fn):=ζ (by obtain⟨A,c,hv,_⟩:=hE.o.F.arr Ig;injection hv with _ h _;exact h.symm);clear hE hR hM nN hI;obtain⟨q,sq,Zq,rs',hq,rfl,eG,hI,nN,hR,hM,hE⟩:=hrel;by_cases hqF:q<Fn
  ·obtain⟨A0,c0,hv0,_,_,PN⟩:=hE.o.F.arr Ig;simp only[Value.slice.injEq] at hv0;obtain⟨rfl,hl0,rfl⟩:=hv0;rw[←hl0] at PN;obtain⟨bb,off,r,rfl,GV,hx,hcell⟩:=PN.at_ hqF;have f0:wr.cell? ⟨bb,off+q,none⟩=some (.int .i64 (r:Int)):=by simpa using hcell 0 _ rfl
   have hqi:(q:Int)<(Fn:Int):=ω;have U7:=ζ hE.o.G.size;have aCN:Fn≤12:=by have:=hF.o.2;have:=hFl.o;omega
   have hrm:=hF.o.1 r (List.mem_of_getElem? hx);obtain⟨b2,o2,x,hoA,hs2,hxo,ajt⟩:=(hp.o.o.keep hE.o.G).at_ hrm;have r1:wr.cell? ⟨b2,o2+r * 6+1,none⟩=some (.slice x.bA x.bm x.bk):=ajt 1 _ rfl;have p4:=hE.o.B.c4;have pz:=hE.o.B.lt;have k1:wr.cell? ⟨gc,1,none⟩=some (.slice cA cn ck):=(hE.o.C.cell 1).trans hcc.o;have kz:=hE.o.C.lt;rw[hoA] at p4;have ayS:(r:Int)<(p.om:Int):=ω;have qp:=OH (f:=stepG rec id cf (dB p.aU)) (b:=st) hx;rw[←eG.o] at qp;have hnm:=aaB hxo;have hxb:=(hp.o.oAt x (List.mem_of_getElem? hxo));obtain⟨A3,c3,hv3,_,_,hA3⟩:=hE.o.f.arr IZ;simp only[Value.slice.injEq] at hv3;obtain⟨rfl,hl3,rfl⟩:=hv3;rw[←hl3] at hA3;have cP:=fun (W:World) (hW:ah wr W)=>aie (c:=ck) (c2:=x.bk) W (hA3.keep hW) (by have:=Ov.o.1;omega) (hxb.fH.keep (hE.o.G.trans hW)) hxb.agh
   rw[←hnm] at cP;replace cP:=ζ cP;replace qp:=ζ qp;clear hcell ajt PN hA3 hxb hxo hnm hoA hl3 hl0;go_wp2;refine dw (μ (.range 10) [8]) κ κ rfl κ π ?_;iterate 8 refine gK ?_
   refine jL rfl (fun K' hK=> ?_);go_simp;refine (cP.out _ ((ah.refl wr).drew)).mono ?_;rintro e w1 ⟨vb,rfl,PL,hb1⟩;replace hb1:ah wr w1:=((ah.refl wr).drew).trans hb1;replace PL:Own w1 wr.heap.size 88 2 dW vb (jh cf (dB p.aU r)):=PL;replace PL:=ζ PL;refine hK.o _ _ ?_ (fun hS=> ?_)
   ·exact hb1
   clear hK hS;iterate 1 refine gK ?_
   refine g_ ?_;clear cP f0 r1 p4 pz k1 kz;have zW:=aek (l:=cf) (n:=dB p.aU r);generalize aqv:jh cf (dB p.aU r)=bf at *
   replace aqv:=ζ aqv;obtain⟨bA,bk,rfl,_,_,PD⟩:=PL.o.arr IZ;have hbl:bf.length≤8:=by have:=Ov.o.1;omega
   have hbf:∀f∈bf,f.n.length+f.v.length≤1000:=fun f hf=>Ov.o.2 f (zW.2 f hf)
   replace hE:=ζ (hE.o.grows hb1);replace hR:=ζ (hR.o.grows hb1);replace hM:=ζ (hM.o.grows hb1);have cW:=adz (r:=r) (c:=bk) w1 (he.o.grows hE.o.G) ω PD ω hbf;have cY:=fun (W:World) (hW:ah w1 W)=>acK (R:=rec) (a:=(r:Int)) (c:=bk) W (PD.keep hW) LU.o ω hbf
   have hwl:=zh (r:=r) ω bf hbf;generalize hws:dn r bf=ws at *
   generalize hky:jM (sha (gQ rec r bf)) 8=ky at *
   replace cW:=ζ cW;replace cY:=ζ cY;clear hb1 zW PD;go_wp2_with fail;refine (cW.out).mono ?_;rintro e w2 ⟨rfl,hb2⟩;replace PL:=ζ (PL.o.grows hb2);replace hE:=ζ (hE.o.grows hb2);replace hR:=ζ (hR.o.grows hb2);replace hM:=ζ (hM.o.grows hb2);replace cY:=ζ (fun W (hW:ah w2 W)=>cY.out W (hb2.trans hW));clear cW hb2;have hlk:=fun y hy=>iV.aiA (t:=188) hM.o Tryz.underlying9 Tryz.underlying188 Tryz.underlying3 κ (s:=ws) (by unfold maxLen;omega) (x:=y) hy
   rw[Kv] at hlk;have hstep:stepG rec id cf (dB p.aU) sq r = match xu sq.place ws with
    | some k=>{sq with aV:=nU sq.aV r k id}
    | none=>match sq.aV[r]? with
     | some gs=>{aV:=nU (sq.aV.set r (gs++[⟨r,bf,ky,[]⟩])) r gs.length id,place:=sq.place++[(ws,gs.length)]}
     | none=>sq:=by
    unfold stepG Jy;rw[aqv.o,hws,hky];rfl
   have qM:r < rs'.length:=by have:=hI.o.len;rw[←nN.o,List.length_map] at this;omega
   obtain⟨gr,hgr⟩:∃gr,rs'[r]? = some gr:=⟨_,List.getElem?_eq_getElem qM⟩;obtain⟨v,hv⟩:∃v,Zq[r]? = some v:=⟨_,List.getElem?_eq_getElem (by rw[hR.o.len];exact qM)⟩;have XY:sq.aV[r]? = some (gr.map dO.g):=by rw[←nN.o,List.getElem?_map,hgr];rfl
   have hIN:Hid (kQ p.om (j + 2*(q+1)) (stepG rec id cf (dB p.aU) sq r)):=ζ (hI.o.step rec id cf (dB p.aU) r);cases hlp:xu sq.place ws with
   | some k=>
    rw[hlp] at hlk hstep;have ap7:=hlk (k:Int) rfl;simp only at hstep;have hkg:k<gr.length:=by have:=hI.o.pl _ _ (Jt hlp) r bf _ hws XY;simpa using this
    obtain⟨gb,cap,hvf⟩:=lV (hR.o.own r v gr hv hgr) ω;generalize hnn:gr.length=n at *
    subst hvf;obtain⟨xg,hxT⟩:∃xg,gr[k]? = some xg:=⟨_,List.getElem?_eq_getElem ω⟩;have LY:Hid (stepG rec id cf (dB p.aU) sq r = ⟨nU sq.aV r k id,sq.place⟩):=ζ hstep;obtain⟨kT,hkT⟩:∃kT,kT=k:=⟨_,rfl⟩;obtain⟨wT,hwT⟩:∃wT,wT=w2:=⟨_,rfl⟩;obtain⟨vsT,ayx⟩:∃vsT,vsT=Zq:=⟨_,rfl⟩;obtain⟨rsT,at6⟩:∃rsT,rsT=rs':=⟨_,rfl⟩;obtain⟨gsT,azw⟩:∃gsT,gsT=gr:=⟨_,rfl⟩;obtain⟨uS,aml⟩:∃uS,uS=sq.aV:=⟨_,rfl⟩;subst hkT hwT ayx at6 azw;have hjT:Hid (j + 2*q≤30000):=ζ (by have:=hj.o;have:=hFl.o;have:=hF.o.2;omega);have hRT:=hR;have hvT:=hv;have Ij:=hgr;have hET:=hE;have hMT:=hM;have hIT:Hid (kQ p.om (j + 2*q) ⟨uS,sq.place⟩):=ζ (by rw[aml];exact hI.o);have Oq:Hid (rsT.map (·.map dO.g)=uS):=ζ (by rw[aml];exact nN.o);rw[←aml] at LY;clear hlk hstep hkg hR hv hgr hE hM hI nN XY aml hlp qM cY hbl hbf hwl hws hky PL hnn;have X8:=hRT.o.own r _ gsT hvT Ij;have hnl:=X8.len hkG;have S9:kT<n:=by have:=(List.getElem?_eq_some_iff.1 hxT).1;omega
    obtain⟨xq,hxq,hcx,hfx⟩:=X8.at_ hkG S9;obtain rfl:xq=xg:=Option.some.inj (hxq.symm.trans hxT);have g3:wT.cell? ⟨gb,kT*4+3,none⟩=some (.slice xq.iA xq.im xq.ik):=hcx 3 _ rfl;have gl:=World.block_lt_of_cell? wT _ g3;simp only at gl;have rc:=hRT.o.cell hvT;have rl:=hRT.o.lt;have azl:(kT:Int)<((n:Nat):Int):=ω;have Rn:=hRT.o.ids r gsT kT xq Ij hxT;have FY:uS[r]? = some (gsT.map dO.g):=by rw[←Oq.o,List.getElem?_map,Ij];rfl
    have FV:(gsT.map dO.g)[kT]? = some xq.g:=by rw[List.getElem?_map,hxT];rfl
    have hSi:jq xq.ids:=hIT.o.VX r _ kT _ FY FV;have S_:xq.ids.length≤100000:=by have:=hIT.o.mi r _ kT _ FY FV;have:=hjT.o;exact Nat.le_trans ‹_› ω
    obtain⟨_,_,hvi,_,_,hAi⟩:=Rn.arr Pz;simp only[dO.iv,Value.slice.injEq] at hvi;obtain⟨e1,e2,e3⟩:=hvi;rw[←e2] at hAi;rw[←e1] at hAi;have Rz:=KT (c:=xq.ik) (t:=id) wT hAi (by rw[e2];omega) hSi;have LV:=H6 xq.ids id;have nP:(id∈xq.ids)∨¬(id∈xq.ids):=Classical.em _;replace e2:=ζ e2;clear hcx hxq hAi e1 e3;rcases nP with nP | nP
    ·rw[decide_eq_true nP] at Rz;have hrf:(rsT.map (·.map dO.g))=(stepG rec id cf (dB p.aU) sq r).aV:=by
      rw[LY.o,Oq.o];show _ = nU uS r kT id
      rw[vT FY FV,show ({xq.g with ids:=jZ xq.g.ids id}:m_)=xq.g by
       have:jZ xq.g.ids id=xq.g.ids:=if_pos nP;rw[this],Hz FV,Hz FY]
     have Y7:iV Tryz.prog 9 3 wT MB (stepG rec id cf (dB p.aU) sq r).place.length (ni (stepG rec id cf (dB p.aU) sq r).place):=by rw[LY.o];exact hMT.o
     replace Rz:=ζ Rz;replace hrf:=ζ hrf;replace Y7:=ζ Y7;generalize qI xq.ids id=PO at *
     clear Rn X8 hSi FY FV nP LY hMT Oq hIT Ij hxT hvT hfx;go_wp2_with fail;refine (Rz.out).mono ?_;rintro e w5 ⟨rfl,hw5⟩;rw[hw5];clear hw5 w5 Rz;go_wp2;go_roundw
     case rel=>exact⟨q+1,_,vsT,rsT,ω,ν,ζ qp.o.symm,hIN,hrf,hRT,Y7,hET⟩
     case measure=>exact ψ
    ·rw[decide_eq_false nP] at Rz;have hsz:=hET.o.G.size;have hWI:ah wT (wT.alloc (.cells #[.int .u64 (id:Int)] 33)):=(ah.refl wT).alloc _;have cIn:=Oi (c:=1) (i:=qI xq.ids id) (h:=wT.heap.size) (t:=id) (wT.alloc (.cells #[.int .u64 (id:Int)] 33)) (Rn.alloc _) (by simp;omega) LV ω (heap_alloc_new wT _) (fun j hj=>by have:=NU Rn hj;omega);have hpl:=uD (t:=id) LV;have Vl:jZ xq.ids id=putAt xq.ids (qI xq.ids id) id:=if_neg nP;replace Rz:=ζ Rz;replace cIn:=ζ cIn;replace Vl:=ζ Vl;replace hpl:=ζ hpl;replace Rn:=ζ Rn;replace X8:=ζ X8;replace hWI:=ζ hWI;generalize qI xq.ids id=PO at *
     generalize putAt xq.ids PO id=PI at *
     clear hSi nP hfx;go_wp2_with fail;refine (Rz.out).mono ?_;rintro e w5 ⟨rfl,hw5⟩;rw[hw5];clear hw5 w5 Rz;go_wp2_with fail;refine (cIn.out).mono ?_;rintro e w6 ⟨v6,rfl,uj,AU,U5⟩;obtain⟨A6,c6,rfl,_,_,_⟩:=uj.arr Pz;have Vq:=(X8.o.alloc (.cells #[.int .u64 (id:Int)] 33)).kept' AU (fun g jw hv2=>by obtain⟨cur,hc⟩:=bV (Rn.o.alloc (.cells #[.int .u64 (id:Int)] 33)) jw;exact aZ (X8.o.alloc (.cells #[.int .u64 (id:Int)] 33)) hc δ hv2);obtain⟨xr,hxr,hcr,zY⟩:=Vq.at_ hkG S9;obtain rfl:xr=xq:=Option.some.inj (hxr.symm.trans hxT);have g6:w6.cell? ⟨gb,kT*4+3,none⟩=some (.slice xr.iA xr.im xr.ik):=hcr 3 _ rfl;have gf6:=zY (kT*4+3);have gl6:=World.block_lt_of_cell? w6 _ g6;simp only at gl6;have PK:=fD.upd (x':=⟨xr.r,xr.key,xr.fH,xr.bA,xr.bm,xr.bk,PI,A6,PI.length,c6⟩) (hRT.o.grows hWI.o) hvT Ij hxT uj AU U5 ⟨rfl,rfl⟩ rfl;have hrf:((rsT.set r (gsT.set kT ⟨xr.r,xr.key,xr.fH,xr.bA,xr.bm,xr.bk,PI,A6,PI.length,c6⟩)).map (·.map dO.g))=(stepG rec id cf (dB p.aU) sq r).aV:=by
      rw[LY.o];show _ = nU uS r kT id
      rw[vT FY FV,show jZ xr.g.ids id=PI from Vl.o,List.map_set,Oq.o,List.map_set];rfl
     have XP:∀j,Value.ownBlock xr.iv=some j→lD (wT.alloc (.cells #[.int .u64 (id:Int)] 33)) w0.heap.size j:=lD.BH (Rn.o.alloc (.cells #[.int .u64 (id:Int)] 33)) (Nat.le_refl _) (.inr rfl);have aI:=aj w6 ⟨gb,kT*4+3,none⟩ (.slice A6 PI.length c6);obtain⟨aq0,JO⟩:=bV Vq (g:=gb) rfl;have Ti:=((hET.o.grows hWI.o).row AU XP).row aI (lD.BH Vq (Nat.le_refl _) (.inl rfl));have hM7:=((hMT.o.grows hWI.o).aiJ (Rn.o.alloc (.cells #[.int .u64 (id:Int)] 33)) AU).BR aI JO;have Y7:iV Tryz.prog 9 3 (w6.setCell ⟨gb,kT*4+3,none⟩ (.slice A6 PI.length c6)) MB (stepG rec id cf (dB p.aU) sq r).place.length (ni (stepG rec id cf (dB p.aU) sq r).place):=by rw[LY.o];exact hM7
     replace PK:=ζ PK;replace Ti:=ζ Ti;replace Y7:=ζ Y7;replace hrf:=ζ hrf;clear hM7 aI JO XP Vq uj AU U5 hcr hxr zY Rn X8 FY FV LY hMT Oq hIT hRT hET hWI cIn Vl;generalize hPL:PI.length=PLn at *
     go_wp2;go_roundw
     case rel=>exact⟨q+1,_,vsT,_,ω,ν,ζ qp.o.symm,hIN,hrf,PK,Y7,Ti⟩
     case measure=>exact ψ
   | none=>
    rw[hlp,XY] at hstep;rw[hlp] at hlk;have ap7:=hlk 0 rfl;simp only[List.length_map] at hstep;have ajF:=hR.o.own r v gr hv hgr;obtain⟨vA,vc,rfl,hvn,hvm,_⟩:=ajF.arr hkG;have hOr:=ζ ajF;have avl:some RB≠(Value.slice vA gr.length vc).ownBlock:=fun e=>aZ ajF hR.o.row δ e.symm
    have EH:Hid (∀j,(Value.slice vA gr.length vc).ownBlock=some j→w0.heap.size≤j):=ζ (fun j hj=>ajF.gY j hj);have rc:=hR.o.cell hv;have rl:=hR.o.lt;have amm:(r:Int)<(p.om:Int):=ayS;have EJ:gr.length≤30000:=by have:=hI.o.mr r _ XY;rw[List.length_map] at this;have:=hj.o;omega
    have hpl:sq.place.length≤30000:=by have:=hI.o.mp;have:=hj.o;omega
    have hIP:=ζ (kQ.push (aV:=sq.aV) (place:=sq.place) hI.o (fs:=bf) (key:=ky) XY);rw[hws] at hIP;generalize hnn:gr.length=n at *
    replace hnn:=ζ hnn;replace hlp:=ζ hlp;replace hstep:=ζ hstep;replace XY:=ζ XY;replace hws:=ζ hws;replace hky:=ζ hky;replace hv:=ζ hv;replace hgr:=ζ hgr;replace hwl:=ζ hwl;replace hbf:=ζ hbf;clear hlk ajF cY;have atS:ws.length≤maxLen:=by have:=hwl.o;unfold maxLen;omega
    have hwf:(Lit.int .i64 (n:Int)).wf=true:=WalkArith.wf_i64 ω;go_wp2_with (at_mapUpdate;refine wQ hM.o rfl _ _ _ rfl Tryz.underlying9 Tryz.underlying188 (by unfold maxLen;omega) ws atS (.int .i64 (n:Int)) (.int .i64 (n:Int)) rfl rfl rfl (plainElem_int Tryz.underlying3 hwf) ?_;intro w3 Zf kZ);have apV:=lD.of_map hM.o hMB.o;have hRn:=ζ (hR.o.other kZ hM.o.aX);have hEn:=ζ (hE.o.row kZ apV);have hOn:=ζ (PL.o.BR kZ apV δ δ δ);have hMn:Hid (iV Tryz.prog 9 3 w3 MB (sq.place.length+1) (ni (sq.place++[(ws,n)]))):=ζ (by rw[Xg];exact Zf);have JR:=ζ (hOr.o.apF kZ hM.o.aX);clear kZ Zf apV hOr ap7 hR hE hM PL rc rl;have rc:=hRn.o.cell hv.o;have rl:=hRn.o.lt;generalize hrow:(Value.slice vA n vc).ownBlock=row at *
    replace hrow:=ζ hrow;have cY3:=ζ (fun (W:World) (hW:w3.grownBy W row)=>by
     have hrr:∀j,row=some j→lD w3 w0.heap.size j:=fun j hj=>lD.BH JR.o (Nat.le_refl _) (.inl rfl) j (by rw[hrow.o,hj])
     have:=hOn.o.BR hW hrr δ δ δ;obtain⟨A9,c9,hv9,_,_,hA9⟩:=this.arr IZ;simp only[Value.slice.injEq] at hv9;obtain⟨rfl,_,rfl⟩:=hv9;have:=acK (R:=rec) (a:=(r:Int)) (c:=bk) W hA9 LU.o ω hbf.o;rw[hky.o] at this;exact this)
    refine jA (row) κ ?_;refine rK (up:=jB) (.range 13) 4 ?_;iterate 11 refine h_ ?_
    refine aY (.int .u64 (ky:Int)) rfl χ (fun wq eG=> ?_) ?_
    ·obtain⟨nR,mY⟩:=VH eG;go_simp;exact Calls.mono (cY3.out wq eG) (fun e w'' h=>h)
    go_simp;iterate 1 refine h_ ?_
    refine aB ?_;refine aH [13] κ σ (fun wN hN hS=>(au.cons rfl (fun K' hK=> ?_) au.nil));try replace hRn:=ζ (hRn.o.grows hN)
    try replace hEn:=ζ (hEn.o.grows hN)
    try replace hOn:=ζ (hOn.o.grows hN)
    try replace hMn:=ζ (hMn.o.grows hN)
    try replace JR:=ζ (JR.o.grows hN)
    try replace iZ:=ζ (iZ.o.grows hN)
    try replace lq:=ζ (lq.o.grows hN)
    try replace iR:=ζ (dQ iR.o hN)
    clear hN;go_simp;refine hK.o _ _ ?_ (fun hS=> ?_)
    ·exact dQ (by assumption) ((ah.refl _).alloc _)
    have iZ:=ζ (aF.new wN 125 #[.int .i64 (r:Int),.slice bA bf.length bk,.int .u64 (ky:Int),.slice none 0 0]);have dN:ah wN (wN.alloc (.cells #[.int .i64 (r:Int),.slice bA bf.length bk,.int .u64 (ky:Int),.slice none 0 0] 125)):=(ah.refl _).alloc _;replace hRn:=ζ (hRn.o.grows dN);replace hEn:=ζ (hEn.o.grows dN);replace hOn:=ζ (hOn.o.grows dN);replace hMn:=ζ (hMn.o.grows dN);replace JR:=ζ (JR.o.grows dN);clear dN;clear hK hS;refine aH [14] κ σ (fun wN hN hS=>(au.cons rfl (fun K' hK=> ?_) au.nil));try replace hRn:=ζ (hRn.o.grows hN)
    try replace hEn:=ζ (hEn.o.grows hN)
    try replace hOn:=ζ (hOn.o.grows hN)
    try replace hMn:=ζ (hMn.o.grows hN)
    try replace JR:=ζ (JR.o.grows hN)
    try replace iZ:=ζ (iZ.o.grows hN)
    try replace lq:=ζ (lq.o.grows hN)
    try replace iR:=ζ (dQ iR.o hN)
    clear hN;have DY:=hEn.o.G.size;refine Own.grown (x:=(⟨r,ky,bf,bA,bf.length,bk,[],none,0,0⟩:dO)) arj rfl (.tmp 93) (.tmp 101) rfl JR.o rfl ⟨_,0,none⟩ rfl (hkG _) (iK iZ.o) (atG _) DY (by unfold maxLen;rw[hnn.o];omega) (by rw[hnn.o];omega) (fun v4 w4 lq iR hv4=> ?_);rw[hrow.o] at iR;have hrr:=fun j hj=>lD.BH JR.o (Nat.le_refl _) (.inl rfl) j (by rw[hrow.o];exact hj)
    have hRA:=hRn;have avq:=hOn;replace hEn:=ζ (hEn.o.row iR hrr);replace hMn:=ζ (hMn.o.aiJ JR.o (by rw[hrow.o];exact iR));obtain⟨gb,cap,QY⟩:=lV lq σ;rw[List.length_append,hnn.o] at QY;simp only[List.length_cons,List.length_nil,Nat.zero_add] at QY;subst QY;replace lq:=ζ lq;replace hv4:=ζ hv4;clear hrr DY JR iZ hRn hOn;go_simp;refine hK.o _ _ ?_ (fun hS=> ?_)
    ·exact World.grownBy.trans (by assumption) iR
    replace iR:=ζ iR;clear hK hS;refine rK (up:=jB) [15] 1 ?_;iterate 1 refine h_ ?_
    refine aB ?_;refine d_ (i:=16) rfl κ κ (fun wN hN hS K' hK=> ?_);try replace hRn:=ζ (hRn.o.grows hN)
    try replace hEn:=ζ (hEn.o.grows hN)
    try replace hOn:=ζ (hOn.o.grows hN)
    try replace hMn:=ζ (hMn.o.grows hN)
    try replace JR:=ζ (JR.o.grows hN)
    try replace iZ:=ζ (iZ.o.grows hN)
    try replace lq:=ζ (lq.o.grows hN)
    try replace iR:=ζ (dQ iR.o hN)
    clear hS;have ZO:=(iR.o.block RB hRA.o.lt avl).trans hRA.o.row;have rcN:wN.cell? ⟨RB,r,none⟩=some (.slice vA n vc):=by simp only[World.cell?,ZO];simpa using hv.o
    have rfN:wN.frozen? ⟨RB,r,none⟩=false:=by simp[World.frozen?,ZO]
    have rlN:=World.block_lt_of_cell? wN _ rcN;simp only at rlN;go_simp;refine hK.o _ _ ?_;clear hK;have ai7:=aj wN ⟨RB,r,none⟩ (.slice (some ⟨gb,0,none⟩) (n + 1) cap);have aua:∀j,some RB=some j→lD wN w0.heap.size j:=fun j hj=>by
     injection hj with hj;subst hj
     exact⟨hRB.o,fun cur e fz hc=>by rw[ZO] at hc;simp only[Option.some.injEq,Obj.cells.injEq] at hc;exact .inr (.inr hc.2.1.symm)⟩
    have hRT:=ζ (fD.push hRA.o hv.o hgr.o (x:=(⟨r,ky,bf,bA,bf.length,bk,[],none,0,0⟩:dO)) lq.o (by rw[hrow.o];exact iR.o) (hv4.o.imp (fun h=>h) (fun h=>⟨_,h,Nat.le_refl _⟩)) ⟨rfl,rfl⟩ (avq.o.bJ U7.o));have hET:=ζ (hEn.o.row ai7 aua);have hMT:=ζ (hMn.o.BR ai7 ZO);have LY:Hid (stepG rec id cf (dB p.aU) sq r = ⟨nU (sq.aV.set r (gr.map dO.g ++[⟨r,bf,ky,[]⟩])) r n id,sq.place++[(ws,n)]⟩):=hstep;have hIT:=hIP;rw[List.length_map,hnn.o] at hIT;have at7:=qM;obtain⟨kT,hkT⟩:∃kT,kT=n:=⟨_,rfl⟩;subst hkT;have hlv:r < Zq.length:=by rw[←(show Zq.length=Zq.length from rfl)];exact (List.getElem?_eq_some_iff.1 hv.o).1
    have hvT:(Zq.set r (.slice (some ⟨gb,0,none⟩) (kT+1) cap))[r]? = some (.slice (some ⟨gb,0,none⟩) (kT+1) cap):=List.getElem?_set_self hlv;have Ij:(rs'.set r (gr++[(⟨r,ky,bf,bA,bf.length,bk,[],none,0,0⟩:dO)]))[r]? = some (gr++[(⟨r,ky,bf,bA,bf.length,bk,[],none,0,0⟩:dO)]):=List.getElem?_set_self qM;have hxT:(gr++[(⟨r,ky,bf,bA,bf.length,bk,[],none,0,0⟩:dO)])[kT]? = some ⟨r,ky,bf,bA,bf.length,bk,[],none,0,0⟩:=by rw[←hnn.o];simp
    have Oq:Hid ((rs'.set r (gr++[(⟨r,ky,bf,bA,bf.length,bk,[],none,0,0⟩:dO)])).map (·.map dO.g)=sq.aV.set r (gr.map dO.g ++[⟨r,bf,ky,[]⟩])):=ζ (by rw[List.map_set,nN.o,List.map_append];rfl);have hjT:Hid (j + 2*q+1≤30000):=ζ (by have:=hj.o;omega);have avu:Hid (iV Tryz.prog 9 3 (wN.setCell ⟨RB,r,none⟩ (.slice (some ⟨gb,0,none⟩) (kT+1) cap)) MB (sq.place++[(ws,kT)]).length (ni (sq.place++[(ws,kT)]))):=ζ (by rw[List.length_append];exact hMT.o);clear hMT;have hMT:=avu;have aB0:kT≤30000:=EJ;clear avu ai7 aua hRA lq iR hv4 avq hEn hMn ZO rcN rfN rlN hstep hIP hI nN XY hws hky hlp hv hgr hrow avl EH hwl hbf atS hwf hnn rc rl hlv hN cY3 EJ hpl hbl at7;generalize rs'.set r (gr++[(⟨r,ky,bf,bA,bf.length,bk,[],none,0,0⟩:dO)])=rsT at *
    generalize gr++[(⟨r,ky,bf,bA,bf.length,bk,[],none,0,0⟩:dO)]=gsT at *
    generalize Zq.set r (.slice (some ⟨gb,0,none⟩) (kT+1) cap)=vsT at *
    generalize sq.aV.set r (gr.map dO.g ++[⟨r,bf,ky,[]⟩])=uS at *
    generalize wN.setCell ⟨RB,r,none⟩ (.slice (some ⟨gb,0,none⟩) (kT+1) cap)=wT at *
    generalize (⟨r,ky,bf,bA,bf.length,bk,[],none,0,0⟩:dO)=xg at *
    have X8:=hRT.o.own r _ gsT hvT Ij;have hnl:=X8.len hkG;have S9:kT<(kT+1):=by have:=(List.getElem?_eq_some_iff.1 hxT).1;omega
    obtain⟨xq,hxq,hcx,hfx⟩:=X8.at_ hkG S9;obtain rfl:xq=xg:=Option.some.inj (hxq.symm.trans hxT);have g3:wT.cell? ⟨gb,kT*4+3,none⟩=some (.slice xq.iA xq.im xq.ik):=hcx 3 _ rfl;have gl:=World.block_lt_of_cell? wT _ g3;simp only at gl;have rc:=hRT.o.cell hvT;have rl:=hRT.o.lt;have azl:(kT:Int)<(((kT+1):Nat):Int):=ω;have Rn:=hRT.o.ids r gsT kT xq Ij hxT;have FY:uS[r]? = some (gsT.map dO.g):=by rw[←Oq.o,List.getElem?_map,Ij];rfl
    have FV:(gsT.map dO.g)[kT]? = some xq.g:=by rw[List.getElem?_map,hxT];rfl
    have hSi:jq xq.ids:=hIT.o.VX r _ kT _ FY FV;have S_:xq.ids.length≤100000:=by have:=hIT.o.mi r _ kT _ FY FV;have:=hjT.o;exact Nat.le_trans ‹_› ω
    obtain⟨_,_,hvi,_,_,hAi⟩:=Rn.arr Pz;simp only[dO.iv,Value.slice.injEq] at hvi;obtain⟨e1,e2,e3⟩:=hvi;rw[←e2] at hAi;rw[←e1] at hAi;have Rz:=KT (c:=xq.ik) (t:=id) wT hAi (by rw[e2];omega) hSi;have LV:=H6 xq.ids id;have nP:(id∈xq.ids)∨¬(id∈xq.ids):=Classical.em _;replace e2:=ζ e2;clear hcx hxq hAi e1 e3;rcases nP with nP | nP
    ·rw[decide_eq_true nP] at Rz;have hrf:(rsT.map (·.map dO.g))=(stepG rec id cf (dB p.aU) sq r).aV:=by
      rw[LY.o,Oq.o];show _ = nU uS r kT id
      rw[vT FY FV,show ({xq.g with ids:=jZ xq.g.ids id}:m_)=xq.g by
       have:jZ xq.g.ids id=xq.g.ids:=if_pos nP;rw[this],Hz FV,Hz FY]
     have Y7:iV Tryz.prog 9 3 wT MB (stepG rec id cf (dB p.aU) sq r).place.length (ni (stepG rec id cf (dB p.aU) sq r).place):=by rw[LY.o];exact hMT.o
     replace Rz:=ζ Rz;replace hrf:=ζ hrf;replace Y7:=ζ Y7;generalize qI xq.ids id=PO at *
     clear Rn X8 hSi FY FV nP LY hMT Oq hIT Ij hxT hvT hfx;go_wp2_with fail;refine (Rz.out).mono ?_;rintro e w5 ⟨rfl,hw5⟩;rw[hw5];clear hw5 w5 Rz;go_wp2;go_roundw
     case rel=>exact⟨q+1,_,vsT,rsT,ω,ν,ζ qp.o.symm,hIN,hrf,hRT,Y7,hET⟩
     case measure=>exact ψ
    ·rw[decide_eq_false nP] at Rz;have hsz:=hET.o.G.size;have hWI:ah wT (wT.alloc (.cells #[.int .u64 (id:Int)] 33)):=(ah.refl wT).alloc _;have cIn:=Oi (c:=1) (i:=qI xq.ids id) (h:=wT.heap.size) (t:=id) (wT.alloc (.cells #[.int .u64 (id:Int)] 33)) (Rn.alloc _) (by simp;omega) LV ω (heap_alloc_new wT _) (fun j hj=>by have:=NU Rn hj;omega);have hpl:=uD (t:=id) LV;have Vl:jZ xq.ids id=putAt xq.ids (qI xq.ids id) id:=if_neg nP;replace Rz:=ζ Rz;replace cIn:=ζ cIn;replace Vl:=ζ Vl;replace hpl:=ζ hpl;replace Rn:=ζ Rn;replace X8:=ζ X8;replace hWI:=ζ hWI;generalize qI xq.ids id=PO at *
     generalize putAt xq.ids PO id=PI at *
     clear hSi nP hfx;go_wp2_with fail;refine (Rz.out).mono ?_;rintro e w5 ⟨rfl,hw5⟩;rw[hw5];clear hw5 w5 Rz;go_wp2_with fail;refine (cIn.out).mono ?_;rintro e w6 ⟨v6,rfl,uj,AU,U5⟩;obtain⟨A6,c6,rfl,_,_,_⟩:=uj.arr Pz;have Vq:=(X8.o.alloc (.cells #[.int .u64 (id:Int)] 33)).kept' AU (fun g jw hv2=>by obtain⟨cur,hc⟩:=bV (Rn.o.alloc (.cells #[.int .u64 (id:Int)] 33)) jw;exact aZ (X8.o.alloc (.cells #[.int .u64 (id:Int)] 33)) hc δ hv2);obtain⟨xr,hxr,hcr,zY⟩:=Vq.at_ hkG S9;obtain rfl:xr=xq:=Option.some.inj (hxr.symm.trans hxT);have g6:w6.cell? ⟨gb,kT*4+3,none⟩=some (.slice xr.iA xr.im xr.ik):=hcr 3 _ rfl;have gf6:=zY (kT*4+3);have gl6:=World.block_lt_of_cell? w6 _ g6;simp only at gl6;have PK:=fD.upd (x':=⟨xr.r,xr.key,xr.fH,xr.bA,xr.bm,xr.bk,PI,A6,PI.length,c6⟩) (hRT.o.grows hWI.o) hvT Ij hxT uj AU U5 ⟨rfl,rfl⟩ rfl;have hrf:((rsT.set r (gsT.set kT ⟨xr.r,xr.key,xr.fH,xr.bA,xr.bm,xr.bk,PI,A6,PI.length,c6⟩)).map (·.map dO.g))=(stepG rec id cf (dB p.aU) sq r).aV:=by
      rw[LY.o];show _ = nU uS r kT id
      rw[vT FY FV,show jZ xr.g.ids id=PI from Vl.o,List.map_set,Oq.o,List.map_set];rfl
     have XP:∀j,Value.ownBlock xr.iv=some j→lD (wT.alloc (.cells #[.int .u64 (id:Int)] 33)) w0.heap.size j:=lD.BH (Rn.o.alloc (.cells #[.int .u64 (id:Int)] 33)) (Nat.le_refl _) (.inr rfl);have aI:=aj w6 ⟨gb,kT*4+3,none⟩ (.slice A6 PI.length c6);obtain⟨aq0,JO⟩:=bV Vq (g:=gb) rfl;have Ti:=((hET.o.grows hWI.o).row AU XP).row aI (lD.BH Vq (Nat.le_refl _) (.inl rfl));have hM7:=((hMT.o.grows hWI.o).aiJ (Rn.o.alloc (.cells #[.int .u64 (id:Int)] 33)) AU).BR aI JO;have Y7:iV Tryz.prog 9 3 (w6.setCell ⟨gb,kT*4+3,none⟩ (.slice A6 PI.length c6)) MB (stepG rec id cf (dB p.aU) sq r).place.length (ni (stepG rec id cf (dB p.aU) sq r).place):=by rw[LY.o];exact hM7
     replace PK:=ζ PK;replace Ti:=ζ Ti;replace Y7:=ζ Y7;replace hrf:=ζ hrf;clear hM7 aI JO XP Vq uj AU U5 hcr hxr zY Rn X8 FY FV LY hMT Oq hIT hRT hET hWI cIn Vl;generalize hPL:PI.length=PLn at *
     go_wp2;go_roundw
     case rel=>exact⟨q+1,_,vsT,_,ω,ν,ζ qp.o.symm,hIN,hrf,PK,Y7,Ti⟩
     case measure=>exact ψ
  ·obtain rfl:q=Fn:=ω;have atY:=eG.o;rw[List.take_of_length_le (by rw[hFl.o];exact Nat.le_refl _)] at atY;subst atY;rw[←hFl.o] at hI;have hB:=ζ hE.o.B;have hG:=ζ hE.o.G;clear eG hE;go_wp2;first
    | exact⟨Zq,rs',hI,nN,hR,hM,hB,hG⟩
    | exact oK _ _ _ _ _ _ _ _ _ _ _ _ _ _ _ _ _ _ _ _ _ _ _ _ _ _ _ _ _ _ _ _ _ _ _ _ _ _ _ _ _ _ _ _ _ _ _ _ _ _ _ _ _ _ _ _ _ _ _ _ _ _ _ _ _ _ _ _ _ _ _ _ _ _ _ _ _ _ _ _ _ _ _ _ _ _ ⟨Zq,rs',hI,nN,hR,hM,hB,hG⟩
end Go.Proofs.YtbhikkgpcmkonaaGreatDoor
namespace Go.Proofs.YtbhikkgpcmkonaaGreatDoor
open Go.RowKit
theorem IB {l:List bK} (h:jl l = true):l.length≤8∧∀f∈l,iF f.n = true∧f.v.length≤200:=by
 unfold jl at h;simp only[Bool.and_eq_true,decide_eq_true_eq,List.all_eq_true] at h;exact⟨h.2,fun f hf=>h.1.1 f hf⟩
theorem yJ {n:List UInt8} (h:iF n = true):1≤n.length∧n.length≤12:=by
 unfold iF at h;simp only[Bool.and_eq_true,decide_eq_true_eq] at h;omega
end Go.Proofs.YtbhikkgpcmkonaaGreatDoor
namespace Go.Proofs.YtbhikkgpcmkonaaGreatDoor
open Go.RowKit Go.Maps
def ig (ft:List bK→cZ→Bool) (p:fU) (rec:List UInt8) (now:Int) (st:Ja) (a:iD):Ja:=match kG p rec a now with
 | none=>st
 | some c=>(vO ft p rec c.fs).foldl (stepG rec (BU c) c.fs (dB p)) st
def mF (ft:List bK→cZ→Bool) (p:fU) (rec:List UInt8) (l:List iD) (now:Int):Ja:=l.foldl (ig ft p rec now) ⟨List.replicate p.routes.length [],[]⟩
def mV (fb:cZ→Bool) (ft:List bK→cZ→Bool) (p:fU) (rec:List UInt8) (l:List iD) (now:Int):List m_:=if fP fb p = 0 then (mF ft p rec l now).aV.flatten else []
def VT (w:World) (b0:Nat) (gs:List dO):Prop:=∀x∈gs,Own w b0 33 1 kK x.iv x.ids∧Own w b0 88 2 dW x.bv x.fH
theorem CS {fb:cZ→Bool} {p:fU} (h:fP fb p = 0):SH p = false∧ab2 fb p = false:=by
 unfold fP at h;split at h
 ·cases h
 ·split at h
  ·cases h
  ·rename_i h1 h2;exact⟨by simpa using h1,by simpa using h2⟩
theorem H8 {p:fU} (h:SH p = false):p.routes.length≤12∧p.jT.length≤12:=by
 unfold SH at h;simp only[Bool.or_eq_false_iff,decide_eq_false_iff_not] at h;omega
theorem afL {l:List Bo} {n:List UInt8} {y:fZ} (h:eu l n = some y):∃x∈l,x.n = n∧x.l = y:=by
 unfold eu at h;obtain⟨x,hx,rfl⟩:=Option.map_eq_some_iff.1 h;exact⟨x,List.mem_of_find?_eq_some hx,by simpa using List.find?_some hx,rfl⟩
theorem ab1 {fb:cZ→Bool} {p:fU} (h:ab2 fb p = false):pG p.receivers=true:=by
 unfold ab2 H9 at h;simp only[List.any_cons,List.any_nil,Bool.or_eq_false_iff,Bool.not_eq_false'] at h;exact h.1.2.1
theorem adW {fb:cZ→Bool} {p:fU} {rec:List UInt8} {a c:iD} {now:Int} (xE:fP fb p = 0) (h:kG p rec a now=some c) :
 rec.length≤12∧c.src.length≤12∧c.fs.length≤8∧∀f∈c.fs,f.n.length+f.v.length≤1000:=by
 unfold kG at h;cases hf:eu p.receivers rec with
 | none=>rw[hf] at h;cases h
 | some tO=>
  rw[hf] at h;simp only at h;obtain⟨x,hx,hxn,_⟩:=afL hf;have hn:=ab1 (CS xE).2;unfold pG at hn;simp only[Bool.and_eq_true] at hn;have hxo:=List.all_eq_true.1 hn.1 x hx;unfold FQ at hxo;simp only[Bool.and_eq_true] at hxo;have qM:=yJ hxo.1;rw[hxn] at qM;split at h
  ·rename_i hb;simp only[Bool.and_eq_true] at hb;have hab:=hb.1;unfold bH at hab;simp only[Bool.and_eq_true] at hab;have uf:=yJ hab.1.1.1.1.1;have I4:=IB hab.1.1.1.2;unfold iJ at h;split at h
   ·cases h
   ·injection h with h
    subst h;refine⟨ω,uf.2,?_,fun f hf=> ?_⟩
    ·have:=mQ p a.fs a.l tO;have:=I4.1;simp only;omega
    ·have hfm:=(List.mem_filter.1 hf).1;have:=I4.2 f hfm;have:=yJ this.1;have:=(I4.2 f hfm).2;omega
  ·cases h
theorem afF {ft:List bK→cZ→Bool} {p:fU} {rec:List UInt8} {fs:List bK}:(∀r∈vO ft p rec fs,r < p.routes.length)∧(vO ft p rec fs).length≤p.routes.length:=
 ⟨fun r hr=>by
  unfold vO nD at hr;have:=(List.mem_filter.1 hr).1;simpa using this,OJ _ _ _ _ _⟩
def Tq (v:Value) (gs:List dO):Gsl:=match v with
 | .slice A n c=>⟨A,n,c,gs⟩
 | _=>⟨none,0,0,gs⟩
theorem YC:∀(vs:List Value) (rs:List (List dO)),vs.length=rs.length→wK (List.zipWith Tq vs rs)=rs.flatten
 | [],[],_=>rfl
 | v ::vs,gs::rs,h=>by
  have ih:=YC vs rs (by simpa using h);have hx:(Tq v gs).xs=gs:=by unfold Tq;split <;> rfl
  unfold wK at ih ⊢;rw[List.zipWith_cons_cons,List.flatMap_cons,ih,hx,List.flatten_cons]
 | [],_ ::_,h=>by simp at h
 | _ ::_,[],h=>by simp at h
theorem ah8 {w:World} {b0 RB:Nat} {vs:List Value} {rs:List (List dO)} (h:fD w b0 RB vs rs):∃bs,bW w 1 ac9 (some ⟨RB,0,none⟩) rs.length bs∧(∀b∈bs,bW w 4 VE b.A b.n b.xs)∧wK bs=rs.flatten:=by
 have hz:(List.zipWith Tq vs rs).length=rs.length:=by rw[List.length_zipWith,h.len,Nat.min_self]
 have key:∀(i:Nat) (b:Gsl),(List.zipWith Tq vs rs)[i]? = some b→∃A n c gs,vs[i]? = some (.slice A n c)∧b = ⟨A,n,c,gs⟩∧bW w 4 VE A n gs:=fun i b hb=>by
  have hi:i < rs.length:=by have:=(List.getElem?_eq_some_iff.1 hb).1;rw[hz] at this;exact this
  have h1:vs[i]? = some (vs[i]'(by rw[h.len];exact hi)):=List.getElem?_eq_getElem _;have h2:rs[i]? = some rs[i]:=List.getElem?_eq_getElem hi;obtain⟨A,c,hv,_,_,ha⟩:=(h.own i _ _ h1 h2).arr hkG;rw[List.getElem?_zipWith,h1,h2] at hb;simp only[Option.some.injEq] at hb;rw[hv] at h1 hb;exact⟨A,_,c,rs[i],h1,hb.symm,ha⟩
 refine⟨List.zipWith Tq vs rs,⟨hz,fun _=>⟨RB,0,rfl,h.lt,fun i hi j u hu=> ?_⟩⟩,fun b hb=> ?_,YC vs rs h.len⟩
 ·obtain⟨A,n,c,gs,h1,h2,_⟩:=key i _ (List.getElem?_eq_getElem hi);rw[h2] at hu;have hj:j = 0:=by have:=(List.getElem?_eq_some_iff.1 hu).1;simp[ac9] at this;omega
  subst hj;simp only[ac9,List.getElem?_cons_zero,Option.some.injEq] at hu;subst hu;simpa using h.cell h1
 ·obtain⟨i,hi⟩:=List.getElem?_of_mem hb;obtain⟨A,n,c,gs,_,h2,h3⟩:=key i b hi;subst h2;exact h3
theorem KO {α:Type} {B:Nat}:∀l:List (List α),(∀x∈l,x.length≤B)→l.flatten.length≤l.length*B
 | [],_=>by simp
 | x ::l,h=>by
  have:=KO l (fun y hy=>h y (by simp[hy]));have:=h x σ;simp only[List.flatten_cons,List.length_append,List.length_cons,Nat.add_mul];omega
theorem abH {fb:cZ→Bool} {ft:List bK→cZ→Bool} {p:bU} {rec:List UInt8} {lA:Option Addr} {lm lk:Nat} {xs:List dA} {now:Int} (w:World) (he:oD w) (hp:p.At w) (oO:lQ fb p) (XZ:IQ ft p)
 (hA:bW w 6 tq lA lm xs) (hat:∀a∈xs,a.At w) (JG:lm≤1000) :
 Calls Tryz.prog 48 #[p.val,.string ⟨rec.toArray⟩,.slice lA lm lk,.int .i64 now] w fun e w'=>∃v gs,e =.returned v∧MC w' w.heap.size v gs∧VT w' w.heap.size gs∧gs.map dO.g = mV fb ft p.aU rec (xs.map (·.a)) now∧ah w w':=by
 have cK:=fun W (hW:ah w W)=>yV W (hp.keep hW) oO
 have hGL:mV fb ft p.aU rec (xs.map (·.a)) now=if fP fb p.aU=0 then (mF ft p.aU rec (xs.map (·.a)) now).aV.flatten else []:=rfl
 generalize mV fb ft p.aU rec (xs.map (·.a)) now=GL at *
 by_cases xE:fP fb p.aU=0
 ·rw[xE] at cK;rw[if_pos xE] at hGL;have hom:p.om≤12:=by have:=(H8 (CS xE).1).1;rw[show p.aU.routes=p.o.map (·.r) from rfl,List.length_map,hp.o.1] at this;exact this
  have qM:p.aU.routes.length=p.om:=by rw[show p.aU.routes=p.o.map (·.r) from rfl,List.length_map,hp.o.1]
  have cS:=fun (a:dA) (ha:a∈xs) W (hW:ah w W)=>ah1 (rec:=rec) (now:=now) W (hp.keep hW) ((hat a ha).keep hW)
  have cF:=fun (c:dA) W (hW:ah w W) (hcA:bW W 2 dW c.A c.m c.a.fs) (hcm:c.m≤9223372036854775807) (hT:∀f∈c.a.fs,f.v.length≤1000000)=>aj1 (rec:=rec) (a:=c) W (hp.keep hW) hcA hcm hT ω XZ
  have lJ:=hA.1;have hmk:=run_make_row' (P:=Tryz.prog) 187 137 (.slice none 0 0) 24 Tryz.underlying187 κ rfl .i64 .i64 p.om ω ω;have hmm:= @run_makeMap Tryz.prog;have ai6:mF ft p.aU rec (xs.map (·.a)) now=(xs.map (·.a)).foldl (ig ft p.aU rec now) ⟨List.replicate p.om [],[]⟩:=by
   unfold mF;rw[qM]
  unfold bU.val at cK cS cF ⊢;replace cK:=ζ (fun W=>cK W);replace cS:=ζ cS;replace cF:=ζ cF;replace hA:=ζ hA;replace he:=ζ he;replace hp:=ζ hp;replace hGL:=ζ hGL;replace ai6:=ζ ai6;replace lJ:=ζ lJ;replace xE:=ζ xE;replace qM:=ζ qM;replace hat:=ζ hat;clear oO;go_enter Tryz.func48,Tryz.ntmps48
  go_wp2_with fail;refine (cK.out _ γ).mono ?_;rintro e w1 ⟨rfl,hb1⟩;have xG:Hid (aF w1 w.heap.size 50 p.cells.toArray):=ζ ((aF.new w _ _).grows hb1);have fF:Hid (ah w w1):=ζ (((ah.refl w).alloc _).trans hb1);have q4:=xG.o.c4;have qz:=xG.o.lt;clear cK hb1;go_wp2;clear hmk hmm;have hRB:(((w1.alloc (.cells (madeCells #[.slice none 0 0] p.om) 137)).alloc (.map #[] 0))).heap[w1.heap.size]? = some (.cells (madeCells #[.slice none 0 0] p.om) 137 (0,0)):=by
   rw[heap_alloc_old _ _ σ];exact heap_alloc_new w1 _
  have U8:=ζ fF.o.size;replace hRB:=ζ hRB;go_loopw [12,13,14,15,17,18,19,20,21,22,23,24,35,54,55,56] (fun _ _ _ _ _ _ _ _ _ _ _ _ i _ _ _ wr=>∃(k:Nat) (st:Ja) (vs:List Value) (rs:List (List dO)),k≤lm∧i =.int .i64 k∧Hid (st=((xs.map (·.a)).take k).foldl (ig ft p.aU rec now) ⟨List.replicate p.om [],[]⟩)∧Hid (kQ p.om (24*k) st)∧Hid (rs.map (·.map dO.g)=st.aV)∧
   Hid (fD wr w.heap.size w1.heap.size vs rs)∧Hid (iV Tryz.prog 9 3 wr (w1.heap.size+1) st.place.length (ni st.place))∧Hid (aF wr w.heap.size 50 p.cells.toArray)∧Hid (ah w wr)) (fun _ _ _ _ _ _ _ _ _ _ _ _ i _ _ _ _=>lm-(intOf i).toNat)
  case atStart=>
   refine⟨0,_,_,_,ω,rfl,rfl,kQ.start _,?_,fD.start hRB.o,?_,(xG.o.alloc _).alloc _,(fF.o.alloc _).alloc _⟩
   ·show _ = _;simp
   ·have:=iV.made (w1.alloc (.cells (madeCells #[.slice none 0 0] p.om) 137)) Tryz.prog 9 3;show iV _ _ _ _ _ _ _
    simpa[ni] using this
  case round=>
   clear hRB xG fF q4 qz;obtain⟨k,st,vs,rs,hk,rfl,hst,hI,nN,hR,hM,hB,hG⟩:=hrel;by_cases wB:k<lm
   ·obtain⟨bb,off,x,rfl,GV,hx,hcell⟩:=(hA.o.keep hG.o).at_ wB;have c0:wr.cell? ⟨bb,off+k*6,none⟩=some (.string ⟨x.a.src.toArray⟩):=hcell 0 _ rfl;have c1:wr.cell? ⟨bb,off+k*6+1,none⟩=some (.slice x.A x.m x.k):=hcell 1 _ rfl;have c2:wr.cell? ⟨bb,off+k*6+2,none⟩=some (.int .i64 x.a.l.lv):=hcell 2 _ rfl;have c3:wr.cell? ⟨bb,off+k*6+3,none⟩=some (.int .u32 (x.a.l.c:Int)):=hcell 3 _ rfl;have c4:wr.cell? ⟨bb,off+k*6+4,none⟩=some (.int .i64 x.a.f):=hcell 4 _ rfl;have c5:wr.cell? ⟨bb,off+k*6+5,none⟩=some (.int .i64 x.a.t):=hcell 5 _ rfl;have kY:(k:Int)<(lm:Int):=ω;have wu:=List.mem_of_getElem? hx;have hxa:(xs.map (·.a))[k]? = some x.a:=by rw[List.getElem?_map,hx];rfl
    have qp:=OH (f:=ig ft p.aU rec now) (b:=(⟨List.replicate p.om [],[]⟩:Ja)) hxa;rw[←hst.o] at qp;have Ae:ig ft p.aU rec now st x.a = match kG p.aU rec x.a now with
     | none=>st
     | some c=>(vO ft p.aU rec c.fs).foldl (stepG rec (BU c) c.fs (dB p.aU)) st:=rfl
    have ajm:=fun c=>adW (c:=c) (rec:=rec) (a:=x.a) (now:=now) xE.o
    have cX:=cS.out x wu;unfold je at cX;generalize kG p.aU rec x.a now=S at *
    replace cX:=ζ cX;replace qp:=ζ qp;replace ajm:=ζ ajm;replace Ae:=ζ Ae;clear hcell hx wu hxa hst;have p0:=hB.o.cell 0;have p1:=hB.o.cell 1;have p2:=hB.o.cell 2;have p3:=hB.o.cell 3;have p4:=hB.o.cell 4;have p5:=hB.o.cell 5;have pz:=hB.o.lt;unfold bU.cells at p0 p1 p2 p3 p4 p5;simp only[List.getElem?_toArray,List.getElem?_cons_zero,List.getElem?_cons_succ] at p0 p1 p2 p3 p4 p5;go_wp2_with fail;refine (cX.out _ (by
     have hG:=hG.o;exact γ
    )).mono ?_
    rintro e w2 ⟨v,rfl,hv,hb2⟩;have fQ:=ζ ((hG.o.alloc (.cells #[.string ⟨x.a.src.toArray⟩,.slice x.A x.m x.k,.int .i64 x.a.l.lv,.int .u32 (x.a.l.c:Int),.int .i64 x.a.f,.int .i64 x.a.t] 57)).trans hb2);have hgr:=((ah.refl wr).alloc (.cells #[.string ⟨x.a.src.toArray⟩,.slice x.A x.m x.k,.int .i64 x.a.l.lv,.int .u32 (x.a.l.c:Int),.int .i64 x.a.f,.int .i64 x.a.t] 57)).trans hb2;replace hR:=ζ (hR.o.grows hgr);replace hM:=ζ (hM.o.grows hgr);replace hB:=ζ (hB.o.grows hgr);have apP:=hG.o.size;clear cX p0 p1 p2 p3 p4 p5 pz c0 c1 c2 c3 c4 c5 hG;cases S with
    | none=>
     have AV:=Ae.o;simp only at AV;obtain rfl:v = jI:=hv;unfold jI;clear Ae ajm hgr hb2;have JC:Hid (st=((xs.map (·.a)).take (k+1)).foldl (ig ft p.aU rec now) ⟨List.replicate p.om [],[]⟩):=ζ (by rw[qp.o,AV]);have hI2:=ζ (hI.o.mono (show 24*k≤24*(k+1) by omega));have hW:ah w2 (w2.alloc (.cells #[.string ⟨#[]⟩,.slice none 0 0,.int .i64 0,.int .u32 0,.int .i64 0,.int .i64 0] 57)):=(ah.refl w2).alloc _;go_wp2;go_roundw
     case rel=>exact⟨k+1,st,vs,rs,ω,ν,JC,hI2,nN,hR.o.grows hW,hM.o.grows hW,hB.o.grows hW,fQ.o.trans hW⟩
     case measure=>exact ψ
    | some c=>
     have AV:=ζ Ae.o;have hi:=ajm.o c rfl;obtain⟨A',c',rfl,hO⟩:=hv;have nI:=hO.bJ (base':=w.heap.size) (by simp;omega);unfold je;have qB:=hi.2.2.1;obtain⟨II,Na,⟨clv,clc⟩,cf0,ct0⟩:=c;simp only at nI AV hi qB ⊢;obtain⟨_,_,hvv,_,_,hA2⟩:=nI.arr IZ;simp only[Value.slice.injEq] at hvv;obtain⟨rfl,_,rfl⟩:=hvv;clear Ae ajm hO hgr hb2;have hW:ah w2 (w2.alloc (.cells #[.string ⟨II.toArray⟩,.slice A' Na.length c',.int .i64 clv,.int .u32 (clc:Int),.int .i64 cf0,.int .i64 ct0] 57)):=(ah.refl w2).alloc _;have hC:=ζ (aF.new w2 57 #[.string ⟨II.toArray⟩,.slice A' Na.length c',.int .i64 clv,.int .u32 (clc:Int),.int .i64 cf0,.int .i64 ct0]);have cI:=U2 (a:=⟨⟨II,Na,⟨clv,clc⟩,cf0,ct0⟩,A',Na.length,c'⟩) _ (hA2.keep hW) (by simp only;omega) (by simp only;omega) hi.2.2.2;have cG:=fun W (hX:ah w2 W)=>cF.out ⟨⟨II,Na,⟨clv,clc⟩,cf0,ct0⟩,A',Na.length,c'⟩ W (fQ.o.trans hX) (hA2.keep hX) (by simp only;omega) (fun f hf=>by have:=hi.2.2.2 f hf;omega)
     unfold je at cI cG;simp only at cI cG;have hfm:=afF (ft:=ft) (p:=p.aU) (rec:=rec) (fs:=Na);rw[qM.o] at hfm;generalize BU ⟨II,Na,⟨clv,clc⟩,cf0,ct0⟩=id at *
     generalize vO ft p.aU rec Na=F at *
     replace cI:=ζ cI;replace cG:=ζ cG;replace hfm:=ζ hfm;replace hR:=ζ (hR.o.grows hW);replace hM:=ζ (hM.o.grows hW);replace hB:=ζ (hB.o.grows hW);replace nI:=ζ (nI.grows hW);have qo:=ζ (fQ.o.trans hW);replace hW:=ζ hW;have Ov:=ζ (show Na.length≤8∧∀f∈Na,f.n.length+f.v.length≤1000 from ⟨qB,hi.2.2.2⟩);have LU:=ζ (show rec.length≤1000 by have:=hi.1;omega);clear hA2 hi qB fQ;go_wp2_with fail;refine (cI.out).mono ?_;rintro e w3 ⟨rfl,hb3⟩;replace hC:=ζ (hC.o.grows hb3);replace hB:=ζ (hB.o.grows hb3);have x0:_ = some (Value.string ⟨II.toArray⟩):=hC.o.cell 0;have x1:_ = some (Value.slice A' Na.length c'):=hC.o.cell 1;have x2:_ = some (Value.int .i64 clv):=hC.o.cell 2;have x3:_ = some (Value.int .u32 (clc:Int)):=hC.o.cell 3;have x4:_ = some (Value.int .i64 cf0):=hC.o.cell 4;have x5:_ = some (Value.int .i64 ct0):=hC.o.cell 5;have xz:=hC.o.lt;have p0:=hB.o.cell 0;have p1:=hB.o.cell 1;have p2:=hB.o.cell 2;have p3:=hB.o.cell 3;have p4:=hB.o.cell 4;have p5:=hB.o.cell 5;have pz:=hB.o.lt;unfold bU.cells at p0 p1 p2 p3 p4 p5;simp only[List.getElem?_toArray,List.getElem?_cons_zero,List.getElem?_cons_succ] at p0 p1 p2 p3 p4 p5;clear cI;go_wp2_with fail;refine (cG.out _ (hW.o.trans hb3)).mono ?_;rintro e w4 ⟨fv,rfl,Tf,hb4⟩;obtain⟨fA,fk,rfl,_,_,hA4⟩:=Tf.arr Ig;have hg4:=hb3.trans hb4;have ae6:=qo.o.size;have hE:Hid (VU w p.cells.toArray w2.heap.size #[.string ⟨II.toArray⟩,.slice A' Na.length c',.int .i64 clv,.int .u32 (clc:Int),.int .i64 cf0,.int .i64 ct0] (.slice fA F.length fk) F (.slice A' Na.length c') Na w4):=
      ζ ⟨qo.o.trans hg4,hB.o.grows hb4,hC.o.grows hb4,Tf.bJ (by have:=qo.o.size;have:=hb3.size;omega),nI.o.grows hg4⟩
     have hR4:=ζ (hR.o.grows hg4);have hM4:=ζ (hM.o.grows hg4);clear cG hR hM hB hC nI Tf hb3 hb4 hg4 hA4 x0 x1 x2 x3 x4 x5 xz p0 p1 p2 p3 p4 p5 pz qo ae6 hW;have hj:Hid (24*k≤24000):=ζ ω;have aAe:Hid (w.heap.size≤w1.heap.size):=U8;have aAm:Hid (w.heap.size≤w1.heap.size+1):=ζ (by have:=U8.o;omega);have hF:Hid ((∀r∈F,r < p.om)∧F.length≤12):=ζ ⟨hfm.o.1,by have:=hfm.o.2;omega⟩;have hcc:Hid ((#[.string ⟨II.toArray⟩,.slice A' Na.length c',.int .i64 clv,.int .u32 (clc:Int),.int .i64 cf0,.int .i64 ct0]:Array Value)[1]? = some (.slice A' Na.length c')):=ζ rfl;generalize hFn:F.length=Fn at *
     replace hFn:=ζ hFn;go_wp2;refine afx he hp hE hcc hR4 hM4 aAe aAm hI hj nN (by rw[hFn.o];exact hF) LU Ov hom π ?_;rintro u17 u18 u19 u20 u21 u22 u23 u24 u56 u57 u58 u59 u60 u61 u62 u63 u64 u65 u66 u67 u68 u69 u70 u71 u72 u73 u74 u75 u76 u77 u78 u79 u80 u81 u82 u83 u84 u85 u86 u87 u88 u89 u90 u91 u92 u93 u94 u95 u96 u97 u98 u99 UC UA Uz Uy Ux Uw Uu Ut Us Ur Uo Un Zx ahK ahJ ahI ahH ahG ahF ahE ahD ahC ahB ahA ahz ahy ahx ahw ahv ahu aht ahs ahr wz ⟨Zq,rs',hI',ayP,hR',hM',I9,hG'⟩;have JC:Hid (F.foldl (stepG rec id Na (dB p.aU)) st=((xs.map (·.a)).take (k+1)).foldl (ig ft p.aU rec now) ⟨List.replicate p.om [],[]⟩):=ζ (by rw[qp.o];exact AV.o.symm);have hI2:=ζ (hI'.o.mono (show 24*k+2*F.length≤24*(k+1) by have:=hF.o.2;have:=hFn.o;omega));clear hE hR4 hM4 hI nN hI' hF hcc Ov LU AV qp hfm hj apP;go_wp2;go_roundw
     case rel=>exact⟨k+1,_,Zq,rs',ω,ν,JC,hI2,ayP,hR',hM',I9,hG'⟩
     case measure=>exact ψ
   ·obtain rfl:k=lm:=ω;obtain⟨bs,PD,DY,aqp⟩:=ah8 hR.o;have amm:rs.length=p.om:=by have:=hI.o.len;rw[←nN.o,List.length_map] at this;exact this
    rw[amm] at PD;have hlen:(wK bs).length≤1000000000:=by
     rw[aqp];have:=KO (B:=24000) rs (fun gs ny=>by
      obtain⟨r,hr⟩:=List.getElem?_of_mem ny;have h1:st.aV[r]? = some (gs.map dO.g):=by rw[←nN.o,List.getElem?_map,hr];rfl
      have:=hI.o.mr r _ h1;rw[List.length_map] at this;omega)
     rw[amm] at this;have h3:p.om*24000≤12*24000:=Nat.mul_le_mul_right _ hom;omega
    have cC:=Yy (c:=p.om) wr PD DY hlen ω;rw[aqp] at cC;have aQ:(rs.flatten).map dO.g = GL:=by
     rw[hGL.o,ai6.o,List.map_flatten,nN.o,hst.o,List.take_of_length_le (by rw[List.length_map,lJ.o];exact Nat.le_refl _)]
    replace cC:=ζ cC;replace aQ:=ζ aQ;clear PD DY aqp hlen hM hB hI nN hst amm;go_wp2_with fail;refine (cC.out).mono ?_;rintro e w6 ⟨v6,rfl,uj,Bj⟩;go_wp2;go_ret;refine⟨v6,rs.flatten,rfl,uj.bJ hG.o.size,fun x hx=> ?_,aQ.o,hG.o.trans Bj⟩;obtain⟨gs,ny,hxg⟩:=List.mem_flatten.1 hx;obtain⟨r,hr⟩:=List.getElem?_of_mem ny;obtain⟨i,hi⟩:=List.getElem?_of_mem hxg;exact⟨(hR.o.ids r gs i x hr hi).grows Bj,(hR.o.L_ r gs i x hr hi).grows Bj⟩
 ·rw[if_neg xE] at hGL;subst hGL;have hne:(fP fb p.aU==0)=false:=by simpa using xE
  unfold bU.val at cK ⊢;generalize fP fb p.aU=CK at *
  replace cK:=ζ cK;clear xE hp oO XZ hA hat he;go_enter Tryz.func48,Tryz.ntmps48
  go_wp2_with fail;refine (cK.out _ γ).mono ?_;rintro e w1 ⟨rfl,hb1⟩;have fF:ah w w1:=((ah.refl w).alloc _).trans hb1;go_wp2;go_ret;exact⟨_,[],rfl,Own.iH _ _ _ _ _,fun x hx=>absurd hx σ,rfl,fF⟩
end Go.Proofs.YtbhikkgpcmkonaaGreatDoor
namespace Go.Proofs.YtbhikkgpcmkonaaGreatDoor
def dG:List UInt8:=[112,97,103,101,114]
def Nl:List UInt8:=[116,101,97,109]
def RG:List UInt8:=[112,114,111,109]
structure Uc where
 wait:Int
 every:Int
 again:Int
 first:Int
 last:Int
 now:Int
 told:List Nat
deriving DecidableEq
def FP (w e r:Int):Uc:=⟨min (max w 0) 1000,min (max e 1) 1000,min (max r (min (max e 1) 1000)) 100000,-1,-1,0,[]⟩
def avT (c:Uc) (ids:List Nat):Int:=if ids=c.told then c.again else c.every
def Tv (c:Uc) (now:Int) (ids:List Nat):Int:=
 max (if c.last=-1 then (if c.first=-1 then now+c.wait else c.first+c.wait) else max (if c.first=-1 then now+c.wait else c.first+c.wait) (c.last+avT c ids)) now
def CJ (c:Uc) (now:Int) (ids:List Nat):Bool:=decide (ids≠[])&&decide (Tv c now ids≤now)
def JV (c:Uc) (now:Int) (ids:List Nat):Int:=if ids=[] then -1 else if c.first=-1 then now else c.first
def D5 (c:Uc) (now:Int) (ids:List Nat):Uc:=
 if CJ c now ids then {c with now:=now,first:=JV c now ids,last:=now,told:=ids} else {c with now:=now,first:=JV c now ids}
structure Y3 (c:Uc):Prop where
 w0:0≤c.wait
 w1:c.wait≤1000
 e0:1≤c.every
 e1:c.every≤1000
 a0:0≤c.again
 a1:c.again≤100000
 f0: -1≤c.first
 f1:c.first≤fC
 l0: -1≤c.last
 l1:c.last≤fC
 n0:0≤c.now
 n1:c.now≤fC
theorem al4 (w e r:Int):Y3 (FP w e r):=by
 constructor <;> unfold FP <;> (try unfold fC) <;> simp only <;> omega
theorem anR {c:Uc} (h:Y3 c) {now:Int} (h0:0≤now) (h1:now≤fC) (ids:List Nat):Y3 (D5 c now ids):=by
 obtain⟨a1,a2,a3,a4,a5,a6,a7,a8,a9,a10,a11,a12⟩:=h;have hf: -1≤JV c now ids∧JV c now ids≤fC:=by
  unfold JV;split
  ·constructor
   ·omega
   ·unfold fC;omega
  ·split
   ·omega
   ·exact⟨a7,a8⟩
 unfold D5;split <;> exact⟨a1,a2,a3,a4,a5,a6,hf.1,hf.2,by simp only;omega,by simp only;omega,h0,h1⟩
theorem Pg (c:Uc) (now:Int) (ids:List Nat):(D5 c now ids).now=now:=by unfold D5;split <;> rfl
end Go.Proofs.YtbhikkgpcmkonaaGreatDoor
namespace Go.Proofs.YtbhikkgpcmkonaaGreatDoor
open Go.RowKit
structure Sil where
 wh:List cZ
 f:Int
 t:Int
 l:fZ
deriving DecidableEq
def adS (fb:cZ→Bool) (s:Sil):Bool:=(decide (0<s.wh.length)&&decide (s.wh.length≤12)&& !(s.wh.any fun m=> !fb m))&&decide (0≤s.f)&&decide (s.f < s.t)&&decide (s.t≤fC)&&dX s.l.lv
structure oC where
 l:List (Nat×Sil)
 last:Nat
def vS (q:oC) (l:fZ):Nat:=(q.l.filter fun x=>decide (x.2.l = l)).length
def Jv (fb:cZ→Bool) (q:oC) (s:Sil):oC:=if adS fb s then (if vS q s.l = 10 then q else ⟨q.l ++[(q.last+1,s)],q.last+1⟩) else q
def tJ (ft:List bK→cZ→Bool) (tO:fZ) (now:Int) (fs:List bK) (s:Sil):Bool:=gy s.l tO&&(decide (s.f≤now)&&(decide (now<s.t)&&s.wh.all (ft fs)))
def uV (ft:List bK→cZ→Bool) (p:fU) (q:oC) (a:iD) (tO:fZ) (now:Int):List Nat:=match iJ p a tO with
 | none=>[]
 | some c=>(q.l.filter fun x=>tJ ft tO now c.fs x.2).map (·.1)
def Gn (names:List (List UInt8)) (a b:List bK):Bool:=names.all fun n=>decide (xU a n = xU b n)
def byI (ft:List bK→cZ→Bool) (r:Inh) (l:List iD) (id:Nat) (c:iD) (now:Int):Bool:=
 r.wh.all (ft c.fs)&&l.any fun a=>(bH a &&eP a now)&&(r.from_.all (ft a.fs)&&(Gn r.fH a.fs c.fs&& !decide (BU a = id)))
def SL (ft:List bK→cZ→Bool) (p:fU) (l:List iD) (id:Nat) (c:iD) (tO:fZ) (now:Int) (i:Nat):Bool:=match p.jT[i]? with
 | none=>false
 | some r=>gy r.l tO&&byI ft r l id c now
def xX (fb:cZ→Bool) (ft:List bK→cZ→Bool) (p:fU) (l:List iD) (k:Nat) (tO:fZ) (now:Int):List Nat:=match l[k]? with
 | none=>[]
 | some a=>if bH a then (if fP fb p = 0 then (match iJ p a tO with
  | none=>[]
  | some c=>(List.range p.jT.length).filter (SL ft p l (BU a) c tO now)) else []) else []
def zo (p:fU) (tO:fZ) (now:Int) (a:iD):Bool:=(iJ p a tO).isSome&&(bH a &&eP a now)
def wU (p:fU) (l:List iD) (tO:fZ) (now:Int):List Nat:=(List.range l.length).filter fun k=>match l[k]? with | some a=>zo p tO now a | none=>false
def xB (fb:cZ→Bool) (ft:List bK→cZ→Bool) (p:fU) (l:List iD) (tO:fZ) (now:Int):List Nat:=if fP fb p = 0 then (wU p l tO now).filter fun k=>(xX fb ft p l k tO now).isEmpty else []
def FM (ft:List bK→cZ→Bool) (p:fU) (q:oC) (l:List iD) (tO:fZ) (now:Int) (k:Nat):Bool:=match l[k]? with
 | some a=>(uV ft p q a tO now).isEmpty
 | none=>true
def yD (fb:cZ→Bool) (ft:List bK→cZ→Bool) (p:fU) (rec:List UInt8) (l:List iD) (q:oC) (now:Int):List Nat:=match eu p.receivers rec with
 | none=>[]
 | some tO=>(xB fb ft p l tO now).filter (FM ft p q l tO now)
def H7 (fb:cZ→Bool) (ft:List bK→cZ→Bool) (p:fU) (rec:List UInt8) (l:List iD) (q:oC) (now:Int):List iD:=(yD fb ft p rec l q now).filterMap fun k=>l[k]?
structure Wj where
 id:Nat
 jH:Bool
 fs:List bK
deriving DecidableEq
structure Nj where
 rc:List UInt8
 group:List UInt8
 number:Int
 time:Int
 fH:List bK
 Pm:List Wj
deriving DecidableEq
def JM (n:Nat):UInt8:=if n < 10 then UInt8.ofNat (48+n) else UInt8.ofNat (87+n)
def F5 (l:List Nat):List UInt8:=l.flatMap fun b=>[JM (b / 16),JM (b % 16)]
def mJ (n:Nat):List Nat:=(List.range 8).map fun i=>n / 2 ^ (56-8*i) % 256
def qF (n:Nat):List UInt8:=F5 (mJ n)
def zZ (b:UInt8):Bool:=(decide (48≤b.toNat)&&decide (b.toNat≤57))||(decide (97≤b.toNat)&&decide (b.toNat≤102))
def Og (s:List UInt8):Bool:=decide (s.length=16)&&s.all zZ
def asK (l:List bK):Bool:=l.all fun f=>Lib.validD f.v
def fieldsU (l:List bK):Bool:=jl l &&asK l
def rQ (n:Int):Bool:=decide (0≤n)&&decide (n≤fC)
def VO:List Wj→Bool
 | []=>true
 | [_]=>true
 | a ::b ::l=>decide (a.id<b.id)&&VO (b ::l)
def t_ (x:Nj):Bool:=Og x.group&&iF x.rc&&rQ x.number&&rQ x.time&&fieldsU x.fH&&decide (x.Pm.length≤20)&&((x.Pm.all fun t=>fieldsU t.fs)&&VO x.Pm)
def pF (p:fU) (id:Nat) (tO:fZ) (now:Int) (a:iD):Option (Bool×List bK):=match iJ p a tO with
 | none=>none
 | some c=>if bH a &&decide (BU c = id) then some (eP a now,c.fs) else none
def DW (p:fU) (l:List iD) (id:Nat) (tO:fZ) (now:Int):Option Wj:=
 match (l.filterMap (pF p id tO now)).find? (·.1) with
 | some c=>some ⟨id,true,c.2⟩
 | none=>(l.filterMap (pF p id tO now)).head?.map fun c=>⟨id,false,c.2⟩
def jS (fb:cZ→Bool) (p:fU) (rec:List UInt8) (g:m_) (l:List iD) (number now:Int):Option Nj:=match eu p.receivers rec with
 | none=>none
 | some tO=>if fP fb p = 0 then
  (if t_ ⟨rec,qF g.key,number,now,g.fH,g.ids.filterMap fun id=>DW p l id tO now⟩ then some ⟨rec,qF g.key,number,now,g.fH,g.ids.filterMap fun id=>DW p l id tO now⟩ else none) else none
structure Ar where
 place:Nat
 rc:List UInt8
 wait:Int
 every:Int
 again:Int
 jC:Uc
 number:Nat
structure Eng where
 now:Int
 gs:List (List UInt8×Ar)
def uP (p:fU) (g:Ar):Bool:=match p.routes[g.place]? with
 | none=>false
 | some r=>decide (r.r = g.rc)&&(decide (r.wait=g.wait)&&(decide (r.every=g.every)&&decide (r.again=g.again)))
def um (gs:List (List UInt8×Ar)) (k:List UInt8):Option Ar:=(gs.find? fun x=>decide (x.1=k)).map (·.2)
def qG (gs:List (List UInt8×Ar)) (k:List UInt8) (g:Ar):List (List UInt8×Ar):=if (um gs k).isSome then gs.map (fun x=>if x.1=k then (k,g) else x) else gs++[(k,g)]
def QO (p:fU) (r:Nat):Ar:=match p.routes[r]? with
 | none=>⟨r,[],0,0,0,FP 0 0 0,0⟩
 | some x=>⟨r,x.r,x.wait,x.every,x.again,FP x.wait x.every x.again,0⟩
structure ak4 where
 gs:List (List UInt8×Ar)
 asked:List (List UInt8)
 out:List Nj
def WQ (g:Ar) (now:Int) (ids:List Nat):Ar:={g with jC:=D5 g.jC now ids,number:=if CJ g.jC now ids then g.number+1 else g.number}
def J5 (mk:m_→Int→Option Nj) (p:fU) (now:Int) (s:ak4) (x:m_):ak4:=
 ⟨qG s.gs (dn x.route x.fH) (WQ ((um s.gs (dn x.route x.fH)).getD (QO p x.route)) now x.ids),
  s.asked++[dn x.route x.fH],
  if CJ ((um s.gs (dn x.route x.fH)).getD (QO p x.route)).jC now x.ids then s.out++(mk x (((um s.gs (dn x.route x.fH)).getD (QO p x.route)).number+1)).toList else s.out⟩
def Gg (asked:List (List UInt8)) (now:Int) (x:List UInt8×Ar):List UInt8×Ar:=if x.1∈asked then x else (x.1,{x.2 with jC:=D5 x.2.jC now []})
def AP (fb:cZ→Bool) (p:fU) (rec:List UInt8) (st:Eng) (now:Int):Int:=
 if now≤st.now∨now<0∨fC<now then 9 else if (eu p.receivers rec).isSome∧fP fb p = 0 then 0 else 5
def CZ (fb:cZ→Bool) (ft:List bK→cZ→Bool) (p:fU) (rec:List UInt8) (st:Eng) (l:List iD) (q:oC) (now:Int):ak4:=
 (mV fb ft p rec (H7 fb ft p rec l q now) now).foldl (J5 (fun x n=>jS fb p rec x (H7 fb ft p rec l q now) n now) p now) ⟨st.gs.filter fun x=>uP p x.2,[],[]⟩
def kE (fb:cZ→Bool) (ft:List bK→cZ→Bool) (p:fU) (rec:List UInt8) (st:Eng) (l:List iD) (q:oC) (now:Int):Eng×List Nj:=
 if AP fb p rec st now=0 then (⟨now,(CZ fb ft p rec st l q now).gs.map (Gg (CZ fb ft p rec st l q now).asked now)⟩,(CZ fb ft p rec st l q now).out) else (st,[])
instance:DecidableEq iD:=fun a b=>by
 obtain⟨a1,a2,a3,a4,a5⟩:=a;obtain⟨b1,b2,b3,b4,b5⟩:=b;exact decidable_of_iff (a1=b1∧a2=b2∧a3=b3∧a4=b4∧a5=b5) σ
structure ES where
 k:Int
 a:iD
 s:Sil
 now:Int
deriving DecidableEq
def zI:iD:=⟨[],[],⟨0,0⟩,0,0⟩
def u_:Sil:=⟨[],0,0,⟨0,0⟩⟩
def DZ (p:fU) (tO:fZ) (e:ES):Option ES:=
 if e.k=0 then (iJ p e.a tO).map fun c=>⟨0,c,u_,0⟩
 else if e.k=1 then (if gy e.s.l tO then some ⟨1,zI,e.s,0⟩ else none)
 else if e.k=2 then some ⟨2,zI,u_,e.now⟩ else none
def kD (p:fU) (l:List ES) (tO:fZ):List ES:=l.filterMap (DZ p tO)
def lu (p:fU) (a b:List ES) (tO:fZ):Bool:=decide (kD p a tO=kD p b tO)
structure VSt where
 CG:Eng
 told:List iD
 q:oC
 out:List Nj
def eU (fb:cZ→Bool) (ft:List bK→cZ→Bool) (p:fU) (rec:List UInt8) (st:VSt) (e:ES):VSt:=
 if e.k=0 then {st with told:=st.told++[e.a]}
 else if e.k=1 then {st with q:=Jv fb st.q e.s}
 else if e.k=2 then {st with CG:=(kE fb ft p rec st.CG st.told st.q e.now).1,out:=st.out++(kE fb ft p rec st.CG st.told st.q e.now).2}
 else st
def adB:VSt:=⟨⟨-1,[]⟩,[],⟨[],0⟩,[]⟩
def kM (fb:cZ→Bool) (ft:List bK→cZ→Bool) (p:fU) (rec:List UInt8) (l:List ES):VSt:=l.foldl (eU fb ft p rec) adB
def lH (fb:cZ→Bool) (ft:List bK→cZ→Bool) (p:fU) (rec:List UInt8) (l:List ES):List Nj:=(kM fb ft p rec l).out
theorem QI (p:fU) (fs:List bK) (l tO:fZ):jR p (jR p fs l tO) l tO=jR p fs l tO:=by
 unfold jR;rw[List.filter_filter];simp
theorem yU {p:fU} {a c:iD} {tO:fZ} (h:iJ p a tO=some c):c = {a with fs:=jR p a.fs a.l tO}∧(jR p a.fs a.l tO).length≠0∧gy a.l tO=true:=by
 unfold iJ at h;split at h
 ·cases h
 ·rename_i hn;injection h with h
  exact⟨h.symm,fun e=>hn (.inl e),by cases hf:gy a.l tO with | true=>rfl | false=>exact absurd (.inr hf) hn⟩
theorem Ai {p:fU} {a c:iD} {tO:fZ} (h:iJ p a tO=some c):iJ p c tO=some c:=by
 obtain⟨rfl,h1,h2⟩:=yU h;unfold iJ;simp only[QI];rw[if_neg (by rw[h2];simpa using h1)]
theorem af2 (p:fU) (tO:fZ) (l:List ES) (e:ES):kD p (l ++[e]) tO=kD p l tO++(DZ p tO e).toList:=by
 unfold kD;rw[List.filterMap_append];congr 1
theorem KW:∀{a b c:List UInt8},lC a b = true→lC b c = true→lC a c = true
 | [],[],_,h,_=>by cases h
 | [],_ ::_,[],_,h=>by cases h
 | [],_ ::_,_ ::_,_,_=>rfl
 | _ ::_,[],_,h,_=>by cases h
 | _ ::_,_ ::_,[],_,h=>by cases h
 | a ::x,b ::y,c ::z,h1,h2=>by
  unfold lC at h1 h2 ⊢;by_cases hab:a = b
  ·subst hab;rw[if_pos rfl] at h1;by_cases hac:a = c
   ·subst hac;rw[if_pos rfl] at h2 ⊢;exact KW h1 h2
   ·rw[if_neg hac] at h2 ⊢;exact h2
  ·rw[if_neg hab] at h1;by_cases hbc:b = c
   ·subst hbc;rw[if_neg hab];exact h1
   ·rw[if_neg hbc] at h2;simp only[decide_eq_true_eq] at h1 h2;have hac:a≠c:=fun e=>by subst e;omega
    rw[if_neg hac];simp only[decide_eq_true_eq];omega
theorem akS {a:bK} {l:List bK} (h:Ak (a ::l)=true):∀x∈l,lC a.n x.n = true:=by
 induction l generalizing a with
 | nil=>intro x hx;cases hx
 | cons b r ih=>
  unfold Ak at h;simp only[Bool.and_eq_true] at h;intro x hx;rcases List.mem_cons.1 hx with rfl | hx
  ·exact h.1
  ·exact KW h.1 (ih h.2 x hx)
theorem akT {a:bK} {l:List bK} (h:Ak l = true) (ha:∀x∈l,lC a.n x.n = true):Ak (a ::l)=true:=by
 cases l with
 | nil=>rfl
 | cons b r=>unfold Ak;simp only[Bool.and_eq_true];exact⟨ha b σ,h⟩
theorem akR {a:bK} {l:List bK} (h:Ak (a ::l)=true):Ak l = true:=by
 cases l with
 | nil=>rfl
 | cons b r=>unfold Ak at h;simp only[Bool.and_eq_true] at h;exact h.2
theorem Ph (q:bK→Bool):∀l:List bK,Ak l = true→Ak (l.filter q)=true
 | [],_=>rfl
 | a ::l,h=>by
  have ih:=Ph q l (akR h);rw[List.filter_cons];split
  ·exact akT ih (fun x hx=>akS h x (List.mem_filter.1 hx).1)
  ·exact ih
theorem Rw (q:bK→Bool) {l:List bK} (h:jl l = true):jl (l.filter q)=true:=by
 unfold jl at *
 simp only[Bool.and_eq_true,decide_eq_true_eq,List.all_eq_true] at h ⊢;exact⟨⟨fun f hf=>h.1.1 f (List.mem_filter.1 hf).1,Ph q l h.1.2⟩,Nat.le_trans (List.length_filter_le _ _) h.2⟩
theorem Aj {p:fU} {a c:iD} {tO:fZ} (h:iJ p a tO=some c) (ha:bH a = true):bH c = true:=by
 obtain⟨rfl,h1,h2⟩:=yU h;unfold bH at *
 simp only[Bool.and_eq_true,decide_eq_true_eq] at ha ⊢;obtain⟨⟨⟨⟨⟨b1,b2⟩,b3⟩,b4⟩,b5⟩,b6⟩:=ha;exact⟨⟨⟨⟨⟨b1,ω⟩,Rw _ b3⟩,b4⟩,b5⟩,b6⟩
theorem Gj {p:fU} {a c:iD} {tO:fZ} (h:iJ p a tO=some c) (now:Int):eP c now=eP a now:=by
 obtain⟨rfl,_,_⟩:=yU h;rfl
def aeO (p:fU) (tO:fZ):Bool:=p.jT.all fun i=> !gy i.l tO
theorem aeZ {p:fU} {tO:fZ} (h:aeO p tO=true) (ft:List bK→cZ→Bool) (l:List iD) (id:Nat) (c:iD) (now:Int) (i:Nat):SL ft p l id c tO now i = false:=by
 unfold SL;cases hr:p.jT[i]? with
 | none=>rfl
 | some r=>
  have:=List.all_eq_true.1 h r (List.mem_of_getElem? hr);simp only[Bool.not_eq_true'] at this;simp[this]
theorem aai {fb:cZ→Bool} {ft:List bK→cZ→Bool} {p:fU} {tO:fZ} (h:aeO p tO=true) (l:List iD) (k:Nat) (now:Int):xX fb ft p l k tO now=[]:=by
 unfold xX;cases l[k]? with
 | none=>rfl
 | some a=>
  simp only;split
  ·split
   ·cases iJ p a tO with
    | none=>rfl
    | some c=>
     simp only[List.filter_eq_nil_iff];intro i _;rw[aeZ h];simp
   ·rfl
  ·rfl
theorem TG {α:Type} (P:α→Bool):∀(l:List α) (d:Nat→Bool),(∀k a,l[k]? = some a→d k=P a)→((List.range l.length).filter d).filterMap (fun k=>l[k]?)=l.filter P
 | [],_,_=>rfl
 | x ::l,d,hd=>by
  have ih:=TG P l (fun k=>d (k+1)) (fun k a h=>hd (k+1) a (by simpa using h));have h0:=hd 0 x rfl;have e:((List.map Nat.succ (List.range l.length)).filter d).filterMap (fun k=>(x ::l)[k]?)=l.filter P:=by
   rw[List.filter_map,List.filterMap_map];exact ih
  rw[List.length_cons,List.range_succ_eq_map,List.filter_cons,List.filter_cons,h0];cases hp:P x with
  | true=>simp only[if_true];rw[List.filterMap_cons,e];rfl
  | false=>simp only[Bool.false_eq_true,if_false];exact e
theorem OI {α β:Type} {f g:α→Option β}:∀{l:List α},(∀a∈l,f a = g a)→l.filterMap f = l.filterMap g
 | [],_=>rfl
 | a ::l,h=>by
  rw[List.filterMap_cons,List.filterMap_cons,h a List.mem_cons_self,OI (fun x hx=>h x (List.mem_cons_of_mem _ hx))]
def QL (ft:List bK→cZ→Bool) (p:fU) (q:oC) (tO:fZ) (now:Int) (a:iD):Bool:=zo p tO now a &&(uV ft p q a tO now).isEmpty
theorem NV {fb:cZ→Bool} {ft:List bK→cZ→Bool} {p:fU} {rec:List UInt8} {tO:fZ} (xE:fP fb p = 0) (mP:eu p.receivers rec=some tO) (h:aeO p tO=true) (l:List iD) (q:oC) (now:Int) :
 H7 fb ft p rec l q now=l.filter (QL ft p q tO now):=by
 unfold H7 yD xB wU;rw[mP];simp only[if_pos xE];rw[List.filter_filter,List.filter_filter];refine TG (QL ft p q tO now) l _ (fun k a hk=> ?_);simp only[hk,aai h,List.isEmpty_nil,FM,QL];simp[Bool.and_comm]
def RF (tO:fZ) (q q':oC):Prop:=q'.l.map (·.2)=(q.l.map (·.2)).filter fun s=>gy s.l tO
theorem XK (ft:List bK→cZ→Bool) (tO:fZ) (now:Int) (fs:List bK) (q:oC):(q.l.filter fun x=>tJ ft tO now fs x.2).isEmpty= !((q.l.map (·.2)).any fun s=>tJ ft tO now fs s):=by
 rw[List.any_map];induction q.l with
 | nil=>rfl
 | cons x r ih=>
  rw[List.filter_cons,List.any_cons];cases h:tJ ft tO now fs x.2 with
  | true=>simp[h]
  | false=>simp[h,ih]
theorem ai3 {ft:List bK→cZ→Bool} {tO:fZ} {q q':oC} (h:RF tO q q') (now:Int) (fs:List bK):(q'.l.map (·.2)).any (fun s=>tJ ft tO now fs s)=(q.l.map (·.2)).any fun s=>tJ ft tO now fs s:=by
 unfold RF at h;rw[h,List.any_filter];congr 1
 funext s
 unfold tJ;cases gy s.l tO <;> rfl
theorem map_empty {α β:Type} (f:α→β) (l:List α):(l.map f).isEmpty=l.isEmpty:=by cases l <;> rfl
theorem aah {ft:List bK→cZ→Bool} {p:fU} {tO:fZ} {q q':oC} (h:RF tO q q') {a c:iD} (hc:iJ p a tO=some c) (now:Int):(uV ft p q' c tO now).isEmpty=(uV ft p q a tO now).isEmpty:=by
 unfold uV;rw[hc,Ai hc];simp only[map_empty];rw[XK,XK,ai3 h]
theorem aik {ft:List bK→cZ→Bool} {p:fU} {tO:fZ} {q q':oC} (h:RF tO q q') {a c:iD} (ha:bH a = true) (hc:iJ p a tO=some c) (now:Int):QL ft p q' tO now c = QL ft p q tO now a:=by
 unfold QL zo;rw[aah h hc,hc,Ai hc,ha,Aj hc ha,Gj hc]
theorem aeo {ft:List bK→cZ→Bool} {p:fU} {tO:fZ} {q:oC} {a:iD} (hc:iJ p a tO=none) (now:Int):QL ft p q tO now a = false:=by
 unfold QL zo;rw[hc];rfl
def tV (p:fU) (tO:fZ) (l:List iD):List iD:=l.filterMap fun a=>iJ p a tO
theorem acA {ft:List bK→cZ→Bool} {p:fU} {tO:fZ} {q q':oC} (h:RF tO q q') (now:Int):∀(l:List iD),(∀a∈l,bH a = true)→(tV p tO l).filter (QL ft p q' tO now)=tV p tO (l.filter (QL ft p q tO now))
 | [],_=>rfl
 | a ::l,hl=>by
  have ih:=acA (ft:=ft) (p:=p) h now l (fun x hx=>hl x (List.mem_cons_of_mem _ hx));unfold tV at *
  rw[List.filterMap_cons];cases hc:iJ p a tO with
  | none=>rw[List.filter_cons,aeo hc];exact ih
  | some c=>
   rw[List.filter_cons,List.filter_cons,aik h (hl a List.mem_cons_self) hc];split
   ·rw[List.filterMap_cons,hc,ih]
   ·exact ih
theorem al8 {fb:cZ→Bool} {tO:fZ} {q q':oC} (h:RF tO q q') (s:Sil):RF tO (Jv fb q s) (if gy s.l tO then Jv fb q' s else q'):=by
 unfold RF at *
 have aqo:gy s.l tO=true→vS q' s.l = vS q s.l:=fun hf=>by
  have e:∀(z:oC),vS z s.l = ((z.l.map (·.2)).filter fun x=>decide (x.l = s.l)).length:=fun z=>by
   unfold vS;rw[List.filter_map,List.length_map];rfl
  rw[e,e,h,List.filter_filter];congr 1
  apply List.filter_congr;intro x _;by_cases hx:x.l = s.l
  ·simp[hx,hf]
  ·simp[hx]
 unfold Jv;cases hf:gy s.l tO with
 | false=>
  simp only[Bool.false_eq_true,if_false];split
  ·split
   ·exact h
   ·rw[h];simp[hf]
  ·exact h
 | true=>
  simp only[if_true];rw[aqo hf];split
  ·split
   ·exact h
   ·simp[h,hf]
  ·exact h
theorem abG {fb:cZ→Bool} {ft:List bK→cZ→Bool} {p:fU} {rec:List UInt8} {tO:fZ} (mP:eu p.receivers rec=some tO) {l:List iD} (hl:∀a∈l,bH a = true) (now:Int):mV fb ft p rec (tV p tO l) now=mV fb ft p rec l now:=by
 have hs:∀(l:List iD) (st:Ja),(∀a∈l,bH a = true)→(tV p tO l).foldl (ig ft p rec now) st=l.foldl (ig ft p rec now) st:=by
  intro l;induction l with
  | nil=>intro st _;rfl
  | cons a r ih=>
   intro st hl;have hr:=fun st=>ih st (fun x hx=>hl x (List.mem_cons_of_mem _ hx))
   unfold tV at *
   rw[List.filterMap_cons,List.foldl_cons];have ha:=hl a List.mem_cons_self;cases hc:iJ p a tO with
   | none=>
    have e:ig ft p rec now st a = st:=by
     unfold ig kG;rw[mP];simp only;rw[hc];split <;> (rename_i h;split at h <;> first | rfl | (split at h <;> cases h) | cases h)
    rw[e];exact hr st
   | some c=>
    have e:ig ft p rec now st c = ig ft p rec now st a:=by
     unfold ig kG;rw[mP];simp only;rw[Aj hc ha,ha,Gj hc,hc,Ai hc]
    simp only[List.foldl_cons,e];exact hr _
 unfold mV mF;rw[hs l _ hl]
theorem aio {p:fU} {tO:fZ} {l:List iD} (hl:∀a∈l,bH a = true) (id:Nat) (now:Int):DW p (tV p tO l) id tO now=DW p l id tO now:=by
 have e:(tV p tO l).filterMap (pF p id tO now)=l.filterMap (pF p id tO now):=by
  unfold tV;rw[List.filterMap_filterMap];apply OI;intro a ha;cases hc:iJ p a tO with
  | none=>unfold pF;rw[hc];rfl
  | some c=>
   show pF p id tO now c = _
   unfold pF;rw[hc,Ai hc,hl a ha,Aj hc (hl a ha),Gj hc]
 unfold DW;rw[e]
theorem aiy {fb:cZ→Bool} {p:fU} {rec:List UInt8} {tO:fZ} (mP:eu p.receivers rec=some tO) {l:List iD} (hl:∀a∈l,bH a = true) (g:m_) (n now:Int):jS fb p rec g (tV p tO l) n now=jS fb p rec g l n now:=by
 unfold jS;rw[mP];simp only[aio hl]
theorem ahR {fb:cZ→Bool} {ft:List bK→cZ→Bool} {p:fU} {rec:List UInt8} {tO:fZ} (xE:fP fb p = 0) (mP:eu p.receivers rec=some tO) (ajg:aeO p tO=true) {l:List iD} (hl:∀a∈l,bH a = true) {q q':oC} (hq:RF tO q q') (st:Eng) (now:Int) :
 kE fb ft p rec st (tV p tO l) q' now=kE fb ft p rec st l q now:=by
 have ho:H7 fb ft p rec (tV p tO l) q' now=tV p tO (H7 fb ft p rec l q now):=by
  rw[NV xE mP ajg,NV xE mP ajg,acA hq now l hl]
 have hr:∀a∈H7 fb ft p rec l q now,bH a = true:=fun a ha=>by
  rw[NV xE mP ajg] at ha;exact hl a (List.mem_filter.1 ha).1
 unfold kE CZ;rw[ho,abG mP hr];simp only[aiy mP hr]
theorem NK {fb:cZ→Bool} {ft:List bK→cZ→Bool} {p:fU} {rec:List UInt8} {tO:fZ} (mP:eu p.receivers rec=some tO) (ajg:aeO p tO=true) {l:List ES} (hl:∀e∈l,e.k=0→bH e.a = true):lH fb ft p rec (kD p l tO)=lH fb ft p rec l:=by
 by_cases xE:fP fb p = 0
 ·have key:∀(l:List ES) (st VW:VSt),(∀e∈l,e.k=0→bH e.a = true)→(∀a∈st.told,bH a = true)→VW.CG=st.CG→VW.out=st.out→VW.told=tV p tO st.told→RF tO st.q VW.q→
   ((kD p l tO).foldl (eU fb ft p rec) VW).out=(l.foldl (eU fb ft p rec) st).out:=by
   intro l;induction l with
   | nil=>intro st VW _ _ _ ho _ _;exact ho
   | cons e r ih=>
    intro st VW hl ht he ho htl hq;have hlr:=fun x hx=>hl x (List.mem_cons_of_mem _ hx)
    unfold kD at *
    rw[List.filterMap_cons,List.foldl_cons];by_cases h0:e.k=0
    ·have hea:=hl e List.mem_cons_self h0;have hst:eU fb ft p rec st e = {st with told:=st.told++[e.a]}:=by unfold eU;rw[if_pos h0]
     rw[hst];have hta:∀a∈st.told++[e.a],bH a = true:=fun a ha=>by
      rcases List.mem_append.1 ha with ha | ha
      ·exact ht a ha
      ·rw[List.mem_singleton.1 ha];exact hea
     cases hc:iJ p e.a tO with
     | none=>
      have hce:DZ p tO e = none:=by unfold DZ;rw[if_pos h0,hc];rfl
      rw[hce];exact ih _ VW hlr hta he ho (by rw[htl];unfold tV;simp[hc]) hq
     | some c=>
      have hce:DZ p tO e = some ⟨0,c,u_,0⟩:=by unfold DZ;rw[if_pos h0,hc];rfl
      rw[hce];simp only[List.foldl_cons];exact ih _ _ hlr hta he ho (by unfold eU;rw[if_pos rfl];show VW.told++[c]=_;rw[htl];unfold tV;simp[hc]) hq
    ·by_cases h1:e.k=1
     ·have hst:eU fb ft p rec st e = {st with q:=Jv fb st.q e.s}:=by unfold eU;rw[if_neg h0,if_pos h1]
      rw[hst];have Rf:=al8 (fb:=fb) hq e.s;cases hf:gy e.s.l tO with
      | false=>
       have hce:DZ p tO e = none:=by unfold DZ;rw[if_neg h0,if_pos h1,hf];rfl
       rw[hce];rw[hf] at Rf;exact ih _ VW hlr ht he ho htl Rf
      | true=>
       have hce:DZ p tO e = some ⟨1,zI,e.s,0⟩:=by unfold DZ;rw[if_neg h0,if_pos h1,hf];rfl
       rw[hce];rw[hf] at Rf;simp only[List.foldl_cons];exact ih _ _ hlr ht he ho htl Rf
     ·by_cases h2:e.k=2
      ·have hce:DZ p tO e = some ⟨2,zI,u_,e.now⟩:=by unfold DZ;rw[if_neg h0,if_neg h1,if_pos h2]
       rw[hce];simp only[List.foldl_cons];have hs:=ahR (ft:=ft) xE mP ajg ht hq st.CG e.now;refine ih _ _ hlr ?_ ?_ ?_ ?_ ?_
       ·unfold eU;rw[if_neg h0,if_neg h1,if_pos h2];exact ht
       ·unfold eU;rw[if_neg h0,if_neg h1,if_pos h2];show (kE fb ft p rec VW.CG VW.told VW.q e.now).1=_;rw[he,htl,hs]
       ·unfold eU;rw[if_neg h0,if_neg h1,if_pos h2];show VW.out++(kE fb ft p rec VW.CG VW.told VW.q e.now).2=_;rw[he,ho,htl,hs]
       ·unfold eU;rw[if_neg h0,if_neg h1,if_pos h2];exact htl
       ·unfold eU;rw[if_neg h0,if_neg h1,if_pos h2];exact hq
      ·have hce:DZ p tO e = none:=by unfold DZ;rw[if_neg h0,if_neg h1,if_neg h2]
       have hst:eU fb ft p rec st e = st:=by unfold eU;rw[if_neg h0,if_neg h1,if_neg h2]
       rw[hce,hst];exact ih _ VW hlr ht he ho htl hq
  exact key l adB adB hl (fun a ha=>by cases ha) rfl rfl rfl rfl
 ·have hno:∀(l:List ES) (st:VSt),(l.foldl (eU fb ft p rec) st).out=st.out:=by
   intro l;induction l with
   | nil=>intro st;rfl
   | cons e r ih=>
    intro st;rw[List.foldl_cons,ih];unfold eU;split
    ·rfl
    ·split
     ·rfl
     ·split
      ·have hm:AP fb p rec st.CG e.now≠0:=by
        unfold AP;split
        ·decide
        ·rw[if_neg (fun h=>xE h.2)];decide
       show st.out++(kE fb ft p rec st.CG st.told st.q e.now).2=st.out
       unfold kE;rw[if_neg hm];simp
      ·rfl
  unfold lH kM;rw[hno,hno]
end Go.Proofs.YtbhikkgpcmkonaaGreatDoor
