/- Parts: GrpD FldE GrpE RliP ClkP EngP ViwP -/
import Derived.Test.YtbhikkgpcmkonaaGreatDoorVo0
import Derived.Test.YtbhikkgpcmkonaaGreatDoorVo11
import Derived.Test.YtbhikkgpcmkonaaGreatDoorVo4
import Derived.Test.YtbhikkgpcmkonaaGreatDoorVo3
import Derived.Test.YtbhikkgpcmkonaaGreatDoorVo5
import Derived.Test.YtbhikkgpcmkonaaGreatDoorVo7
import Derived.Lib.ValidU
import Derived.Test.YtbhikkgpcmkonaaGreatDoorVo10
set_option maxRecDepth 100000
set_option maxHeartbeats 12800000
namespace Go.Proofs.YtbhikkgpcmkonaaGreatDoor
open Go.RowKit Go.Maps
def xO:Code→List Code
 | .seq a b=>xO a ++xO b
 | .cond _ a b=>xO a ++xO b
 | .block _ c=>xO c
 | .scope c=>xO c
 | .loop c=> .loop c ::xO c
 | _=>[]
def aqG (f:Func) (n:Nat):Code:=((f.body.map xO).getD []).getD n .skip
def dF (p:fQ) (r:Nat):List (List UInt8):=((p.routes[r]?).map (·.fP)).getD []
theorem abj {p:bQ} {r:Nat} {x:BH} (h:p.o[r]? = some x):dF p.aU r = x.r.fP:=by
 unfold dF;rw[show p.aU.routes=p.o.map (·.r) from rfl,List.getElem?_map,h];rfl
theorem ae7 {l:List bM} {n:List (List UInt8)}:(jq l n).length≤l.length∧∀x∈jq l n,x∈l:=⟨List.length_filter_le _ _,fun _ hx=>(List.mem_filter.1 hx).1⟩
theorem fF.cell {w:World} {b0 RB:Nat} {vs:List Value} {rs:List (List dQ)} (h:fF w b0 RB vs rs) {r:Nat} {v:Value} (hv:vs[r]? = some v):w.cell? ⟨RB,r,none⟩=some v:=by
 simp only[World.cell?,h.row];simpa using hv
theorem Own.aqI {α:Type} {w w':World} {b0 k m:Nat} {e:TypeId} {enc:α→List Value} {v:Value} {xs:List α} (h:Own w b0 e k enc v xs) (hg:w.grownBy w' (some m)) (hm:∀cur e fz,w.heap[m]?≠some (.cells cur e fz)):Own w' b0 e k enc v xs:=
 h.kept' hg (fun g jD hv=>by injection jD with jD;subst jD;obtain⟨cur,hc⟩:=bV h hv;exact hm _ _ _ hc)
theorem mg {α:Type} {w:World} {b0 k:Nat} {e:TypeId} {enc:α→List Value} {v:Value} {xs:List α} (h:Own w b0 e k enc v xs) (h0:0<xs.length):∃gb cap,v =.slice (some ⟨gb,0,none⟩) xs.length cap:=by
 rcases h.2 with⟨_,h6⟩ | ⟨g,cap,_,h5,_⟩
 ·omega
 ·exact⟨g,cap,h5⟩
theorem Iy {α:Type} {l:List α} {i:Nat} {x:α} (h:l[i]? = some x):l.set i x = l:=by
 obtain⟨hi,rfl⟩:=List.getElem?_eq_some_iff.1 h;exact List.set_getElem_self hi
theorem PG {α β:Type} {f:β→α→β} {l:List α} {k:Nat} {x:α} {b:β} (h:l[k]? = some x):(l.take (k+1)).foldl f b = f ((l.take k).foldl f b) x:=by
 rw[List.take_add_one,h,List.foldl_append];rfl
theorem agk {p:bQ} {rec:List UInt8} {gc RB MB id j Fn fk cn ck:Nat} {fA cA:Option Addr} {cc:Array Value} {F:List Nat} {cf:List bM} {st:JJ} {vs:List Value} {rs:List (List dQ)} {w0 wS:World} {Q0:Exit→Act→World→Prop} {x0 x2 x3 x5 x6 x7 x8 E8 BJ E5 DL H6 HY En Hz Em EZ EY EX DK DJ DI Ej Ei Eh Ef Ee Ed Ec Eb Ea D_ D9 D8 Hy EW EU ET ES ER EP EO EN EM EL EK EJ EI D7 EH EG Ig Ie Ic Hu Ht Hr Hq F8 F7 F6 F5 Ho Hl Hg FZ FY FX FV FQ FP FN FM FK Jv Ju Jt Hf FH EF ED EC Ez Ey JM JL Ib Ia Oc L9 L8 tq sZ sW sV sU sS sQ sO sN sK sJ sH uS uj MX MW MV MS MR MQ MP MO MN MK MI MH MG MF MC Me Md Mc L_ JR JQ JO:Value}
 (he:Hid (oJ w0)) (hp:Hid (p.At w0)) (hE:Hid (Xe w0 p.cells.toArray gc cc (.slice fA Fn fk) F (.slice cA cn ck) cf wS)) (hcc:Hid (cc[1]? = some (.slice cA cn ck))) (hR:Hid (fF wS w0.heap.size RB vs rs)) (hM:Hid (jg Tryz.prog 9 3 wS MB st.place.length (nC st.place))) (hRB:Hid (w0.heap.size≤RB)) (hMB:Hid (w0.heap.size≤MB)) (hI:Hid (kZ p.om j st)) (hj:Hid (j≤24000)) (nS:Hid (rs.map (·.map dQ.g)=st.aW)) (hF:Hid ((∀r∈F,r < p.om)∧F.length≤12)) (Nc:Hid (rec.length≤1000)) (Pn:Hid (cf.length≤8∧∀f∈cf,f.n.length+f.v.length≤1000)) (hom:p.om≤12)
 (hQ0:∀c a d v w,Q0 (.panic c) (Act.put a d v) w→Q0 (.panic c) a w)
 (oO:∀(u17 u18 u19 u20 u21 u22 u23 u24 u56 u57 u58 u59 u60 u61 u62 u63 u64 u65 u66 u67 u68 u69 u70 u71 u72 u73 u74 u75 u76 u77 u78 u79 u80 u81 u82 u83 u84 u85 u86 u87 u88 u89 u90 u91 u92 u93 u94 u95 u96 u97 u98 u99 Vt Vs Vr Vq Vp Vo Vm Vl Vk Vj Vh Vg aak aiz aiy aix aiw aiv aiu ait ais air aiq aip aio ain ail aik aij aii aif aie aic:Value) (wr:World),(∃vs' rs',Hid (kZ p.om (j + 2*F.length) (F.foldl (stepG rec id cf (dF p.aU)) st))∧Hid (rs'.map (·.map dQ.g)=(F.foldl (stepG rec id cf (dF p.aU)) st).aW)∧Hid (fF wr w0.heap.size RB vs' rs')∧Hid (jg Tryz.prog 9 3 wr MB (F.foldl (stepG rec id cf (dF p.aU)) st).place.length (nC (F.foldl (stepG rec id cf (dF p.aU)) st).place))∧Hid (aG wr w0.heap.size 50 p.cells.toArray)∧Hid (ah w0 wr))→Q0 (.exit 2) ⟨(x0::(.string ⟨rec.toArray⟩)::x2::x3::(.pointer (some ⟨w0.heap.size,0,none⟩))::x5::x6::x7::x8::(.slice (some ⟨RB,0,none⟩) p.om p.om)::(.map (some MB))::E8::BJ::(.pointer (some ⟨gc,0,none⟩))::E5::(.int .u64 (id:Int))::DL::u17::u18::u19::u20::u21::u22::u23::u24::DK::DJ::DI::Ej::Ei::Eh::Ef::Ee::Ed::Ec::Eb::Ea::D_::D9::D8::Hy::EW::EU::ET::ES::ER::EP::EO::EN::EM::EL::EK::EJ::EI::(.slice fA Fn fk)::(.int .i64 (Fn:Int))::u56::u57::u58::u59::u60::u61::u62::u63::u64::u65::u66::u67::u68::u69::u70::u71::u72::u73::u74::u75::u76::u77::u78::u79::u80::u81::u82::u83::u84::u85::u86::u87::u88::u89::u90::u91::u92::u93::u94::u95::u96::u97::u98::u99::Vt::Vs::Vr::Vq::Vp::Vo::Vm::Vl::Vk::Vj::Vh::Vg::aak::aiz::aiy::aix::aiw::aiv::aiu::ait::ais::air::aiq::aip::aio::ain::ail::aik::aij::aii::aif::aie::aic::JR::JQ::JO::[]).toArray,[]⟩ wr) :
 Code.wp Tryz.prog (aqG Tryz.f48 1) Q0 ⟨(x0::(.string ⟨rec.toArray⟩)::x2::x3::(.pointer (some ⟨w0.heap.size,0,none⟩))::x5::x6::x7::x8::(.slice (some ⟨RB,0,none⟩) p.om p.om)::(.map (some MB))::E8::BJ::(.pointer (some ⟨gc,0,none⟩))::E5::(.int .u64 (id:Int))::DL::H6::HY::En::Hz::Em::EZ::EY::EX::DK::DJ::DI::Ej::Ei::Eh::Ef::Ee::Ed::Ec::Eb::Ea::D_::D9::D8::Hy::EW::EU::ET::ES::ER::EP::EO::EN::EM::EL::EK::EJ::EI::(.slice fA Fn fk)::(.int .i64 (Fn:Int))::(.int .i64 0)::D7::EH::EG::Ig::Ie::Ic::Hu::Ht::Hr::Hq::F8::F7::F6::F5::Ho::Hl::Hg::FZ::FY::FX::FV::FQ::FP::FN::FM::FK::Jv::Ju::Jt::Hf::FH::EF::ED::EC::Ez::Ey::JM::JL::Ib::Ia::Oc::L9::L8::tq::sZ::sW::sV::sU::sS::sQ::sO::sN::sK::sJ::sH::uS::uj::MX::MW::MV::MS::MR::MQ::MP::MO::MN::MK::MI::MH::MG::MF::MC::Me::Md::Mc::L_::JR::JQ::JO::[]).toArray,[]⟩ wS:=by
 conv=>arg 2;whnf
 go_loopw [17,18,19,20,21,22,23,24,56] (fun _ _ _ _ _ _ _ _ i wr=>∃(q:Nat) (sq:JJ) (vs':List Value) (rs':List (List dQ)),q≤Fn∧i =.int .i64 q∧Hid (sq=(F.take q).foldl (stepG rec id cf (dF p.aU)) st)∧Hid (kZ p.om (j + 2*q) sq)∧Hid (rs'.map (·.map dQ.g)=sq.aW)∧Hid (fF wr w0.heap.size RB vs' rs')∧Hid (jg Tryz.prog 9 3 wr MB sq.place.length (nC sq.place))∧Hid (Xe w0 p.cells.toArray gc cc (.slice fA Fn fk) F (.slice cA cn ck) cf wr)) (fun _ _ _ _ _ _ _ _ i _=>Fn-(intOf i).toNat)
 case atStart=>exact⟨0,st,vs,rs,ω,rfl,rfl,hI,nS,hR,hM,hE⟩
 case round=>
  have hFl:Hid (F.length=Fn):=ζ (by obtain⟨A,c,hv,_⟩:=hE.o.F.arr Fe;injection hv with _ h _;exact h.symm);clear hE hR hM nS hI;obtain⟨q,sq,vs',rs',hq,rfl,dN,hI,nS,hR,hM,hE⟩:=hrel;by_cases hqF:q<Fn
  ·obtain⟨A0,c0,hv0,_,_,QA⟩:=hE.o.F.arr Fe;simp only[Value.slice.injEq] at hv0;obtain⟨rfl,hl0,rfl⟩:=hv0;rw[←hl0] at QA;obtain⟨bb,off,r,rfl,CW,hx,hcell⟩:=QA.at_ hqF;have f0:wr.cell? ⟨bb,off+q,none⟩=some (.int .i64 (r:Int)):=by simpa using hcell 0 _ rfl
   have hqi:(q:Int)<(Fn:Int):=ω;have VZ:=ζ hE.o.G.size;have aEe:Fn≤12:=by have:=hF.o.2;have:=hFl.o;omega
   have hrm:=hF.o.1 r (List.mem_of_getElem? hx);obtain⟨b2,o2,x,hoA,hs2,hxo,akj⟩:=(hp.o.o.keep hE.o.G).at_ hrm;have r1:wr.cell? ⟨b2,o2+r * 6+1,none⟩=some (.slice x.bA x.bm x.bk):=akj 1 _ rfl;have p4:=hE.o.B.c4;have pz:=hE.o.B.lt;have k1:wr.cell? ⟨gc,1,none⟩=some (.slice cA cn ck):=(hE.o.C.cell 1).trans hcc.o;have kz:=hE.o.C.lt;rw[hoA] at p4;have az7:(r:Int)<(p.om:Int):=ω;have qw:=PG (f:=stepG rec id cf (dF p.aU)) (b:=st) hx;rw[←dN.o] at qw;have NQ:=abj hxo;have hxb:=(hp.o.oAt x (List.mem_of_getElem? hxo));obtain⟨A3,c3,hv3,_,_,hA3⟩:=hE.o.f.arr JB;simp only[Value.slice.injEq] at hv3;obtain⟨rfl,hl3,rfl⟩:=hv3;rw[←hl3] at hA3;have cP:=fun (W:World) (hW:ah wr W)=>ai2 (c:=ck) (c2:=x.bk) W (hA3.keep hW) (by have:=Pn.o.1;omega) (hxb.fP.keep (hE.o.G.trans hW)) hxb.ag2
   rw[←NQ] at cP;replace cP:=ζ cP;replace qw:=ζ qw;clear hcell akj QA hA3 hxb hxo NQ hoA hl3 hl0;go_wp2;refine b_ (μ (.range 10) [8]) κ κ rfl κ π ?_;iterate 8 refine fJ ?_
   refine iT rfl (fun K' hK=> ?_);go_simp;refine (cP.out _ ((ah.refl wr).drew)).mono ?_;rintro e w1 ⟨vb,rfl,Qz,hb1⟩;replace hb1:ah wr w1:=((ah.refl wr).drew).trans hb1;replace Qz:Own w1 wr.heap.size 88 2 dZ vb (jq cf (dF p.aU r)):=Qz;replace Qz:=ζ Qz;refine hK.o _ _ ?_ (fun hS=> ?_)
   ·exact hb1
   clear hK hS;iterate 1 refine fJ ?_
   refine fV ?_;clear cP f0 r1 p4 pz k1 kz;have Ar:=ae7 (l:=cf) (n:=dF p.aU r);generalize arG:jq cf (dF p.aU r)=bf at *
   replace arG:=ζ arG;obtain⟨bA,bk,rfl,_,_,JE⟩:=Qz.o.arr JB;have hbl:bf.length≤8:=by have:=Pn.o.1;omega
   have hbf:∀f∈bf,f.n.length+f.v.length≤1000:=fun f hf=>Pn.o.2 f (Ar.2 f hf)
   replace hE:=ζ (hE.o.grows hb1);replace hR:=ζ (hR.o.grows hb1);replace hM:=ζ (hM.o.grows hb1);have cW:=aei (r:=r) (c:=bk) w1 (he.o.grows hE.o.G) ω JE ω hbf;have cY:=fun (W:World) (hW:ah w1 W)=>adt (R:=rec) (a:=(r:Int)) (c:=bk) W (JE.keep hW) Nc.o ω hbf
   have hwl:=zS (r:=r) ω bf hbf;generalize hws:dw r bf=ws at *
   generalize hky:jS (sha (ig rec r bf)) 8=ky at *
   replace cW:=ζ cW;replace cY:=ζ cY;clear hb1 Ar JE;go_wp2_with fail;refine (cW.out).mono ?_;rintro e w2 ⟨rfl,hb2⟩;replace Qz:=ζ (Qz.o.grows hb2);replace hE:=ζ (hE.o.grows hb2);replace hR:=ζ (hR.o.grows hb2);replace hM:=ζ (hM.o.grows hb2);replace cY:=ζ (fun W (hW:ah w2 W)=>cY.out W (hb2.trans hW));clear cW hb2;have hlk:=fun y hy=>jg.ajl (t:=188) hM.o Tryz.underlying9 Tryz.underlying188 Tryz.underlying3 κ (s:=ws) (by unfold maxLen;omega) (x:=y) hy
   rw[Lp] at hlk;have hstep:stepG rec id cf (dF p.aU) sq r = match xP sq.place ws with
    | some k=>{sq with aW:=nY sq.aW r k id}
    | none=>match sq.aW[r]? with
     | some gs=>{aW:=nY (sq.aW.set r (gs++[⟨r,bf,ky,[]⟩])) r gs.length id,place:=sq.place++[(ws,gs.length)]}
     | none=>sq:=by
    unfold stepG Kq;rw[arG.o,hws,hky];rfl
   have qB:r < rs'.length:=by have:=hI.o.len;rw[←nS.o,List.length_map] at this;omega
   obtain⟨gr,hgr⟩:∃gr,rs'[r]? = some gr:=⟨_,List.getElem?_eq_getElem qB⟩;obtain⟨v,hv⟩:∃v,vs'[r]? = some v:=⟨_,List.getElem?_eq_getElem (by rw[hR.o.len];exact qB)⟩;have YI:sq.aW[r]? = some (gr.map dQ.g):=by rw[←nS.o,List.getElem?_map,hgr];rfl
   have hIN:Hid (kZ p.om (j + 2*(q+1)) (stepG rec id cf (dF p.aU) sq r)):=ζ (hI.o.step rec id cf (dF p.aU) r);cases hlp:xP sq.place ws with
   | some k=>
    rw[hlp] at hlk hstep;have ard:=hlk (k:Int) rfl;simp only at hstep;have hkg:k<gr.length:=by have:=hI.o.pl _ _ (J8 hlp) r bf _ hws YI;simpa using this
    obtain⟨gb,cap,hvf⟩:=mg (hR.o.own r v gr hv hgr) ω;generalize hnn:gr.length=n at *
    subst hvf;obtain⟨xg,VW⟩:∃xg,gr[k]? = some xg:=⟨_,List.getElem?_eq_getElem ω⟩;have Nk:Hid (stepG rec id cf (dF p.aU) sq r = ⟨nY sq.aW r k id,sq.place⟩):=ζ hstep;obtain⟨kT,hkT⟩:∃kT,kT=k:=⟨_,rfl⟩;obtain⟨wT,hwT⟩:∃wT,wT=w2:=⟨_,rfl⟩;obtain⟨vsT,azM⟩:∃vsT,vsT=vs':=⟨_,rfl⟩;obtain⟨rsT,avf⟩:∃rsT,rsT=rs':=⟨_,rfl⟩;obtain⟨gsT,aAO⟩:∃gsT,gsT=gr:=⟨_,rfl⟩;obtain⟨uZ,anh⟩:∃uZ,uZ=sq.aW:=⟨_,rfl⟩;subst hkT hwT azM avf aAO;have hjT:Hid (j + 2*q≤30000):=ζ (by have:=hj.o;have:=hFl.o;have:=hF.o.2;omega);have hRT:=hR;have hvT:=hv;have IX:=hgr;have hET:=hE;have hMT:=hM;have hIT:Hid (kZ p.om (j + 2*q) ⟨uZ,sq.place⟩):=ζ (by rw[anh];exact hI.o);have Pg:Hid (rsT.map (·.map dQ.g)=uZ):=ζ (by rw[anh];exact nS.o);rw[←anh] at Nk;clear hlk hstep hkg hR hv hgr hE hM hI nS YI anh hlp qB cY hbl hbf hwl hws hky Qz hnn;have YP:=hRT.o.own r _ gsT hvT IX;have hnl:=YP.len hkG;have Un:kT<n:=by have:=(List.getElem?_eq_some_iff.1 VW).1;omega
    obtain⟨xq,hxq,hcx,hfx⟩:=YP.at_ hkG Un;obtain rfl:xq=xg:=Option.some.inj (hxq.symm.trans VW);have g3:wT.cell? ⟨gb,kT*4+3,none⟩=some (.slice xq.iA xq.im xq.ik):=hcx 3 _ rfl;have gl:=World.block_lt_of_cell? wT _ g3;simp only at gl;have rc:=hRT.o.cell hvT;have rl:=hRT.o.lt;have aAD:(kT:Int)<((n:Nat):Int):=ω;have SS:=hRT.o.ids r gsT kT xq IX VW;have Gz:uZ[r]? = some (gsT.map dQ.g):=by rw[←Pg.o,List.getElem?_map,IX];rfl
    have Gx:(gsT.map dQ.g)[kT]? = some xq.g:=by rw[List.getElem?_map,VW];rfl
    have hSi:jB xq.ids:=hIT.o.Xg r _ kT _ Gz Gx;have Uo:xq.ids.length≤100000:=by have:=hIT.o.mi r _ kT _ Gz Gx;have:=hjT.o;exact Nat.le_trans ‹_› ω
    obtain⟨_,_,hvi,_,_,hAi⟩:=SS.arr Qw;simp only[dQ.iv,Value.slice.injEq] at hvi;obtain⟨e1,e2,e3⟩:=hvi;rw[←e2] at hAi;rw[←e1] at hAi;have Tj:=LX (c:=xq.ik) (t:=id) wT hAi (by rw[e2];omega) hSi;have Nh:=IC xq.ids id;have nT:(id∈xq.ids)∨¬(id∈xq.ids):=Classical.em _;replace e2:=ζ e2;clear hcx hxq hAi e1 e3;rcases nT with nT | nT
    ·rw[decide_eq_true nT] at Tj;have hrf:(rsT.map (·.map dQ.g))=(stepG rec id cf (dF p.aU) sq r).aW:=by
      rw[Nk.o,Pg.o];show _ = nY uZ r kT id
      rw[wu Gz Gx,show ({xq.g with ids:=kF xq.g.ids id}:ni)=xq.g by
       have:kF xq.g.ids id=xq.g.ids:=if_pos nT;rw[this],Iy Gx,Iy Gz]
     have ZP:jg Tryz.prog 9 3 wT MB (stepG rec id cf (dF p.aU) sq r).place.length (nC (stepG rec id cf (dF p.aU) sq r).place):=by rw[Nk.o];exact hMT.o
     replace Tj:=ζ Tj;replace hrf:=ζ hrf;replace ZP:=ζ ZP;generalize qL xq.ids id=PO at *
     clear SS YP hSi Gz Gx nT Nk hMT Pg hIT IX VW hvT hfx;go_wp2_with fail;refine (Tj.out).mono ?_;rintro e w5 ⟨rfl,hw5⟩;rw[hw5];clear hw5 w5 Tj;go_wp2;go_roundw
     case rel=>exact⟨q+1,_,vsT,rsT,ω,ν,ζ qw.o.symm,hIN,hrf,hRT,ZP,hET⟩
     case measure=>exact ψ
    ·rw[decide_eq_false nT] at Tj;have hsz:=hET.o.G.size;have hWI:ah wT (wT.alloc (.cells #[.int .u64 (id:Int)] 33)):=(ah.refl wT).alloc _;have cIn:=O7 (c:=1) (i:=qL xq.ids id) (h:=wT.heap.size) (t:=id) (wT.alloc (.cells #[.int .u64 (id:Int)] 33)) (SS.alloc _) (by simp;omega) Nh ω (heap_alloc_new wT _) (fun j hj=>by have:=OJ SS hj;omega);have hpl:=uM (t:=id) Nh;have Wp:kF xq.ids id=putAt xq.ids (qL xq.ids id) id:=if_neg nT;replace Tj:=ζ Tj;replace cIn:=ζ cIn;replace Wp:=ζ Wp;replace hpl:=ζ hpl;replace SS:=ζ SS;replace YP:=ζ YP;replace hWI:=ζ hWI;generalize qL xq.ids id=PO at *
     generalize putAt xq.ids PO id=PI at *
     clear hSi nT hfx;go_wp2_with fail;refine (Tj.out).mono ?_;rintro e w5 ⟨rfl,hw5⟩;rw[hw5];clear hw5 w5 Tj;go_wp2_with fail;refine (cIn.out).mono ?_;rintro e w6 ⟨v6,rfl,uz,Bq,VX⟩;obtain⟨A6,c6,rfl,_,_,_⟩:=uz.arr Qw;have Wv:=(YP.o.alloc (.cells #[.int .u64 (id:Int)] 33)).kept' Bq (fun g jD hv2=>by obtain⟨cur,hc⟩:=bV (SS.o.alloc (.cells #[.int .u64 (id:Int)] 33)) jD;exact aZ (YP.o.alloc (.cells #[.int .u64 (id:Int)] 33)) hc δ hv2);obtain⟨xr,hxr,hcr,wO⟩:=Wv.at_ hkG Un;obtain rfl:xr=xq:=Option.some.inj (hxr.symm.trans VW);have g6:w6.cell? ⟨gb,kT*4+3,none⟩=some (.slice xr.iA xr.im xr.ik):=hcr 3 _ rfl;have gf6:=wO (kT*4+3);have gl6:=World.block_lt_of_cell? w6 _ g6;simp only at gl6;have Qy:=fF.upd (x':=⟨xr.r,xr.key,xr.fP,xr.bA,xr.bm,xr.bk,PI,A6,PI.length,c6⟩) (hRT.o.grows hWI.o) hvT IX VW uz Bq VX ⟨rfl,rfl⟩ rfl;have hrf:((rsT.set r (gsT.set kT ⟨xr.r,xr.key,xr.fP,xr.bA,xr.bm,xr.bk,PI,A6,PI.length,c6⟩)).map (·.map dQ.g))=(stepG rec id cf (dF p.aU) sq r).aW:=by
      rw[Nk.o];show _ = nY uZ r kT id
      rw[wu Gz Gx,show kF xr.g.ids id=PI from Wp.o,List.map_set,Pg.o,List.map_set];rfl
     have YA:∀j,Value.ownBlock xr.iv=some j→lK (wT.alloc (.cells #[.int .u64 (id:Int)] 33)) w0.heap.size j:=lK.Cm (SS.o.alloc (.cells #[.int .u64 (id:Int)] 33)) (Nat.le_refl _) (.inr rfl);have aK:=aj w6 ⟨gb,kT*4+3,none⟩ (.slice A6 PI.length c6);obtain⟨ase,KI⟩:=bV Wv (g:=gb) rfl;have Uu:=((hET.o.grows hWI.o).row Bq YA).row aK (lK.Cm Wv (Nat.le_refl _) (.inl rfl));have hM7:=((hMT.o.grows hWI.o).aju (SS.o.alloc (.cells #[.int .u64 (id:Int)] 33)) Bq).CS aK KI;have ZP:jg Tryz.prog 9 3 (w6.setCell ⟨gb,kT*4+3,none⟩ (.slice A6 PI.length c6)) MB (stepG rec id cf (dF p.aU) sq r).place.length (nC (stepG rec id cf (dF p.aU) sq r).place):=by rw[Nk.o];exact hM7
     replace Qy:=ζ Qy;replace Uu:=ζ Uu;replace ZP:=ζ ZP;replace hrf:=ζ hrf;clear hM7 aK KI YA Wv uz Bq VX hcr hxr wO SS YP Gz Gx Nk hMT Pg hIT hRT hET hWI cIn Wp;generalize hPL:PI.length=PLn at *
     go_wp2;go_roundw
     case rel=>exact⟨q+1,_,vsT,_,ω,ν,ζ qw.o.symm,hIN,hrf,Qy,ZP,Uu⟩
     case measure=>exact ψ
   | none=>
    rw[hlp,YI] at hstep;rw[hlp] at hlk;have ard:=hlk 0 rfl;simp only[List.length_map] at hstep;have akv:=hR.o.own r v gr hv hgr;obtain⟨vA,vc,rfl,hvn,hvm,_⟩:=akv.arr hkG;have hOr:=ζ akv;have awD:some RB≠(Value.slice vA gr.length vc).ownBlock:=fun e=>aZ akv hR.o.row δ e.symm
    have Fb:Hid (∀j,(Value.slice vA gr.length vc).ownBlock=some j→w0.heap.size≤j):=ζ (fun j hj=>akv.iC j hj);have rc:=hR.o.cell hv;have rl:=hR.o.lt;have ani:(r:Int)<(p.om:Int):=az7;have Fh:gr.length≤30000:=by have:=hI.o.mr r _ YI;rw[List.length_map] at this;have:=hj.o;omega
    have hpl:sq.place.length≤30000:=by have:=hI.o.mp;have:=hj.o;omega
    have hIP:=ζ (kZ.push (aW:=sq.aW) (place:=sq.place) hI.o (fs:=bf) (key:=ky) YI);rw[hws] at hIP;generalize hnn:gr.length=n at *
    replace hnn:=ζ hnn;replace hlp:=ζ hlp;replace hstep:=ζ hstep;replace YI:=ζ YI;replace hws:=ζ hws;replace hky:=ζ hky;replace hv:=ζ hv;replace hgr:=ζ hgr;replace hwl:=ζ hwl;replace hbf:=ζ hbf;clear hlk akv cY;have au7:ws.length≤maxLen:=by have:=hwl.o;unfold maxLen;omega
    have hwf:(Lit.int .i64 (n:Int)).wf=true:=WalkArith.wf_i64 ω;go_wp2_with (at_mapUpdate;refine xu hM.o rfl _ _ _ rfl Tryz.underlying9 Tryz.underlying188 (by unfold maxLen;omega) ws au7 (.int .i64 (n:Int)) (.int .i64 (n:Int)) rfl rfl rfl (plainElem_int Tryz.underlying3 hwf) ?_;intro w3 ZY lI);have aq0:=lK.of_map hM.o hMB.o;have hRn:=ζ (hR.o.other lI hM.o.aY);have hEn:=ζ (hE.o.row lI aq0);have hOn:=ζ (Qz.o.CS lI aq0 δ δ δ);have hMn:Hid (jg Tryz.prog 9 3 w3 MB (sq.place.length+1) (nC (sq.place++[(ws,n)]))):=ζ (by rw[X5];exact ZY);have KL:=ζ (hOr.o.aqI lI hM.o.aY);clear lI ZY aq0 hOr ard hR hE hM Qz rc rl;have rc:=hRn.o.cell hv.o;have rl:=hRn.o.lt;generalize hrow:(Value.slice vA n vc).ownBlock=row at *
    replace hrow:=ζ hrow;have cY3:=ζ (fun (W:World) (hW:w3.grownBy W row)=>by
     have hrr:∀j,row=some j→lK w3 w0.heap.size j:=fun j hj=>lK.Cm KL.o (Nat.le_refl _) (.inl rfl) j (by rw[hrow.o,hj])
     have:=hOn.o.CS hW hrr δ δ δ;obtain⟨A9,c9,hv9,_,_,hA9⟩:=this.arr JB;simp only[Value.slice.injEq] at hv9;obtain⟨rfl,_,rfl⟩:=hv9;have:=adt (R:=rec) (a:=(r:Int)) (c:=bk) W hA9 Nc.o ω hbf.o;rw[hky.o] at this;exact this)
    refine jF (row) κ ?_;refine rK (up:=jG) (.range 13) 4 ?_;iterate 11 refine iD ?_
    refine aT (.int .u64 (ky:Int)) rfl χ (fun wq dN=> ?_) ?_
    ·obtain⟨lu,kR⟩:=WV dN;go_simp;exact Calls.mono (cY3.out wq dN) (fun e w'' h=>h)
    go_simp;iterate 1 refine iD ?_
    refine aB ?_;refine aI [13] κ σ (fun wN hN hS=>(au.cons rfl (fun K' hK=> ?_) au.nil));try replace hRn:=ζ (hRn.o.grows hN)
    try replace hEn:=ζ (hEn.o.grows hN)
    try replace hOn:=ζ (hOn.o.grows hN)
    try replace hMn:=ζ (hMn.o.grows hN)
    try replace KL:=ζ (KL.o.grows hN)
    try replace ji:=ζ (ji.o.grows hN)
    try replace lJ:=ζ (lJ.o.grows hN)
    try replace jd:=ζ (dS jd.o hN)
    clear hN;go_simp;refine hK.o _ _ ?_ (fun hS=> ?_)
    ·exact dS (by assumption) ((ah.refl _).alloc _)
    have ji:=ζ (aG.new wN 125 #[.int .i64 (r:Int),.slice bA bf.length bk,.int .u64 (ky:Int),.slice none 0 0]);have dP:ah wN (wN.alloc (.cells #[.int .i64 (r:Int),.slice bA bf.length bk,.int .u64 (ky:Int),.slice none 0 0] 125)):=(ah.refl _).alloc _;replace hRn:=ζ (hRn.o.grows dP);replace hEn:=ζ (hEn.o.grows dP);replace hOn:=ζ (hOn.o.grows dP);replace hMn:=ζ (hMn.o.grows dP);replace KL:=ζ (KL.o.grows dP);clear dP;clear hK hS;refine aI [14] κ σ (fun wN hN hS=>(au.cons rfl (fun K' hK=> ?_) au.nil));try replace hRn:=ζ (hRn.o.grows hN)
    try replace hEn:=ζ (hEn.o.grows hN)
    try replace hOn:=ζ (hOn.o.grows hN)
    try replace hMn:=ζ (hMn.o.grows hN)
    try replace KL:=ζ (KL.o.grows hN)
    try replace ji:=ζ (ji.o.grows hN)
    try replace lJ:=ζ (lJ.o.grows hN)
    try replace jd:=ζ (dS jd.o hN)
    clear hN;have Es:=hEn.o.G.size;refine Own.grown (x:=(⟨r,ky,bf,bA,bf.length,bk,[],none,0,0⟩:dQ)) asz rfl (.tmp 93) (.tmp 101) rfl KL.o rfl ⟨_,0,none⟩ rfl (hkG _) (iK ji.o) (auV _) Es (by unfold maxLen;rw[hnn.o];omega) (by rw[hnn.o];omega) (fun v4 w4 lJ jd hv4=> ?_);rw[hrow.o] at jd;have hrr:=fun j hj=>lK.Cm KL.o (Nat.le_refl _) (.inl rfl) j (by rw[hrow.o];exact hj)
    have hRA:=hRn;have awJ:=hOn;replace hEn:=ζ (hEn.o.row jd hrr);replace hMn:=ζ (hMn.o.aju KL.o (by rw[hrow.o];exact jd));obtain⟨gb,cap,Si⟩:=mg lJ σ;rw[List.length_append,hnn.o] at Si;simp only[List.length_cons,List.length_nil,Nat.zero_add] at Si;subst Si;replace lJ:=ζ lJ;replace hv4:=ζ hv4;clear hrr Es KL ji hRn hOn;go_simp;refine hK.o _ _ ?_ (fun hS=> ?_)
    ·exact World.grownBy.trans (by assumption) jd
    replace jd:=ζ jd;clear hK hS;refine rK (up:=jG) [15] 1 ?_;iterate 1 refine iD ?_
    refine aB ?_;refine eG (i:=16) rfl κ κ (fun wN hN hS K' hK=> ?_);try replace hRn:=ζ (hRn.o.grows hN)
    try replace hEn:=ζ (hEn.o.grows hN)
    try replace hOn:=ζ (hOn.o.grows hN)
    try replace hMn:=ζ (hMn.o.grows hN)
    try replace KL:=ζ (KL.o.grows hN)
    try replace ji:=ζ (ji.o.grows hN)
    try replace lJ:=ζ (lJ.o.grows hN)
    try replace jd:=ζ (dS jd.o hN)
    clear hS;have aaA:=(jd.o.block RB hRA.o.lt awD).trans hRA.o.row;have rcN:wN.cell? ⟨RB,r,none⟩=some (.slice vA n vc):=by simp only[World.cell?,aaA];simpa using hv.o
    have rfN:wN.frozen? ⟨RB,r,none⟩=false:=by simp[World.frozen?,aaA]
    have rlN:=World.block_lt_of_cell? wN _ rcN;simp only at rlN;go_simp;refine hK.o _ _ ?_;clear hK;have ajS:=aj wN ⟨RB,r,none⟩ (.slice (some ⟨gb,0,none⟩) (n + 1) cap);have avh:∀j,some RB=some j→lK wN w0.heap.size j:=fun j hj=>by
     injection hj with hj;subst hj
     exact⟨hRB.o,fun cur e fz hc=>by rw[aaA] at hc;simp only[Option.some.injEq,Obj.cells.injEq] at hc;exact .inr (.inr hc.2.1.symm)⟩
    have hRT:=ζ (fF.push hRA.o hv.o hgr.o (x:=(⟨r,ky,bf,bA,bf.length,bk,[],none,0,0⟩:dQ)) lJ.o (by rw[hrow.o];exact jd.o) (hv4.o.imp (fun h=>h) (fun h=>⟨_,h,Nat.le_refl _⟩)) ⟨rfl,rfl⟩ (awJ.o.bK VZ.o));have hET:=ζ (hEn.o.row ajS avh);have hMT:=ζ (hMn.o.CS ajS aaA);have Nk:Hid (stepG rec id cf (dF p.aU) sq r = ⟨nY (sq.aW.set r (gr.map dQ.g ++[⟨r,bf,ky,[]⟩])) r n id,sq.place++[(ws,n)]⟩):=hstep;have hIT:=hIP;rw[List.length_map,hnn.o] at hIT;have avg:=qB;obtain⟨kT,hkT⟩:∃kT,kT=n:=⟨_,rfl⟩;subst hkT;have hlv:r < vs'.length:=by rw[←(show vs'.length=vs'.length from rfl)];exact (List.getElem?_eq_some_iff.1 hv.o).1
    have hvT:(vs'.set r (.slice (some ⟨gb,0,none⟩) (kT+1) cap))[r]? = some (.slice (some ⟨gb,0,none⟩) (kT+1) cap):=List.getElem?_set_self hlv;have IX:(rs'.set r (gr++[(⟨r,ky,bf,bA,bf.length,bk,[],none,0,0⟩:dQ)]))[r]? = some (gr++[(⟨r,ky,bf,bA,bf.length,bk,[],none,0,0⟩:dQ)]):=List.getElem?_set_self qB;have VW:(gr++[(⟨r,ky,bf,bA,bf.length,bk,[],none,0,0⟩:dQ)])[kT]? = some ⟨r,ky,bf,bA,bf.length,bk,[],none,0,0⟩:=by rw[←hnn.o];simp
    have Pg:Hid ((rs'.set r (gr++[(⟨r,ky,bf,bA,bf.length,bk,[],none,0,0⟩:dQ)])).map (·.map dQ.g)=sq.aW.set r (gr.map dQ.g ++[⟨r,bf,ky,[]⟩])):=ζ (by rw[List.map_set,nS.o,List.map_append];rfl);have hjT:Hid (j + 2*q+1≤30000):=ζ (by have:=hj.o;omega);have awN:Hid (jg Tryz.prog 9 3 (wN.setCell ⟨RB,r,none⟩ (.slice (some ⟨gb,0,none⟩) (kT+1) cap)) MB (sq.place++[(ws,kT)]).length (nC (sq.place++[(ws,kT)]))):=ζ (by rw[List.length_append];exact hMT.o);clear hMT;have hMT:=awN;have aDo:kT≤30000:=Fh;clear awN ajS avh hRA lJ jd hv4 awJ hEn hMn aaA rcN rfN rlN hstep hIP hI nS YI hws hky hlp hv hgr hrow awD Fb hwl hbf au7 hwf hnn rc rl hlv hN cY3 Fh hpl hbl avg;generalize rs'.set r (gr++[(⟨r,ky,bf,bA,bf.length,bk,[],none,0,0⟩:dQ)])=rsT at *
    generalize gr++[(⟨r,ky,bf,bA,bf.length,bk,[],none,0,0⟩:dQ)]=gsT at *
    generalize vs'.set r (.slice (some ⟨gb,0,none⟩) (kT+1) cap)=vsT at *
    generalize sq.aW.set r (gr.map dQ.g ++[⟨r,bf,ky,[]⟩])=uZ at *
    generalize wN.setCell ⟨RB,r,none⟩ (.slice (some ⟨gb,0,none⟩) (kT+1) cap)=wT at *
    generalize (⟨r,ky,bf,bA,bf.length,bk,[],none,0,0⟩:dQ)=xg at *
    have YP:=hRT.o.own r _ gsT hvT IX;have hnl:=YP.len hkG;have Un:kT<(kT+1):=by have:=(List.getElem?_eq_some_iff.1 VW).1;omega
    obtain⟨xq,hxq,hcx,hfx⟩:=YP.at_ hkG Un;obtain rfl:xq=xg:=Option.some.inj (hxq.symm.trans VW);have g3:wT.cell? ⟨gb,kT*4+3,none⟩=some (.slice xq.iA xq.im xq.ik):=hcx 3 _ rfl;have gl:=World.block_lt_of_cell? wT _ g3;simp only at gl;have rc:=hRT.o.cell hvT;have rl:=hRT.o.lt;have aAD:(kT:Int)<(((kT+1):Nat):Int):=ω;have SS:=hRT.o.ids r gsT kT xq IX VW;have Gz:uZ[r]? = some (gsT.map dQ.g):=by rw[←Pg.o,List.getElem?_map,IX];rfl
    have Gx:(gsT.map dQ.g)[kT]? = some xq.g:=by rw[List.getElem?_map,VW];rfl
    have hSi:jB xq.ids:=hIT.o.Xg r _ kT _ Gz Gx;have Uo:xq.ids.length≤100000:=by have:=hIT.o.mi r _ kT _ Gz Gx;have:=hjT.o;exact Nat.le_trans ‹_› ω
    obtain⟨_,_,hvi,_,_,hAi⟩:=SS.arr Qw;simp only[dQ.iv,Value.slice.injEq] at hvi;obtain⟨e1,e2,e3⟩:=hvi;rw[←e2] at hAi;rw[←e1] at hAi;have Tj:=LX (c:=xq.ik) (t:=id) wT hAi (by rw[e2];omega) hSi;have Nh:=IC xq.ids id;have nT:(id∈xq.ids)∨¬(id∈xq.ids):=Classical.em _;replace e2:=ζ e2;clear hcx hxq hAi e1 e3;rcases nT with nT | nT
    ·rw[decide_eq_true nT] at Tj;have hrf:(rsT.map (·.map dQ.g))=(stepG rec id cf (dF p.aU) sq r).aW:=by
      rw[Nk.o,Pg.o];show _ = nY uZ r kT id
      rw[wu Gz Gx,show ({xq.g with ids:=kF xq.g.ids id}:ni)=xq.g by
       have:kF xq.g.ids id=xq.g.ids:=if_pos nT;rw[this],Iy Gx,Iy Gz]
     have ZP:jg Tryz.prog 9 3 wT MB (stepG rec id cf (dF p.aU) sq r).place.length (nC (stepG rec id cf (dF p.aU) sq r).place):=by rw[Nk.o];exact hMT.o
     replace Tj:=ζ Tj;replace hrf:=ζ hrf;replace ZP:=ζ ZP;generalize qL xq.ids id=PO at *
     clear SS YP hSi Gz Gx nT Nk hMT Pg hIT IX VW hvT hfx;go_wp2_with fail;refine (Tj.out).mono ?_;rintro e w5 ⟨rfl,hw5⟩;rw[hw5];clear hw5 w5 Tj;go_wp2;go_roundw
     case rel=>exact⟨q+1,_,vsT,rsT,ω,ν,ζ qw.o.symm,hIN,hrf,hRT,ZP,hET⟩
     case measure=>exact ψ
    ·rw[decide_eq_false nT] at Tj;have hsz:=hET.o.G.size;have hWI:ah wT (wT.alloc (.cells #[.int .u64 (id:Int)] 33)):=(ah.refl wT).alloc _;have cIn:=O7 (c:=1) (i:=qL xq.ids id) (h:=wT.heap.size) (t:=id) (wT.alloc (.cells #[.int .u64 (id:Int)] 33)) (SS.alloc _) (by simp;omega) Nh ω (heap_alloc_new wT _) (fun j hj=>by have:=OJ SS hj;omega);have hpl:=uM (t:=id) Nh;have Wp:kF xq.ids id=putAt xq.ids (qL xq.ids id) id:=if_neg nT;replace Tj:=ζ Tj;replace cIn:=ζ cIn;replace Wp:=ζ Wp;replace hpl:=ζ hpl;replace SS:=ζ SS;replace YP:=ζ YP;replace hWI:=ζ hWI;generalize qL xq.ids id=PO at *
     generalize putAt xq.ids PO id=PI at *
     clear hSi nT hfx;go_wp2_with fail;refine (Tj.out).mono ?_;rintro e w5 ⟨rfl,hw5⟩;rw[hw5];clear hw5 w5 Tj;go_wp2_with fail;refine (cIn.out).mono ?_;rintro e w6 ⟨v6,rfl,uz,Bq,VX⟩;obtain⟨A6,c6,rfl,_,_,_⟩:=uz.arr Qw;have Wv:=(YP.o.alloc (.cells #[.int .u64 (id:Int)] 33)).kept' Bq (fun g jD hv2=>by obtain⟨cur,hc⟩:=bV (SS.o.alloc (.cells #[.int .u64 (id:Int)] 33)) jD;exact aZ (YP.o.alloc (.cells #[.int .u64 (id:Int)] 33)) hc δ hv2);obtain⟨xr,hxr,hcr,wO⟩:=Wv.at_ hkG Un;obtain rfl:xr=xq:=Option.some.inj (hxr.symm.trans VW);have g6:w6.cell? ⟨gb,kT*4+3,none⟩=some (.slice xr.iA xr.im xr.ik):=hcr 3 _ rfl;have gf6:=wO (kT*4+3);have gl6:=World.block_lt_of_cell? w6 _ g6;simp only at gl6;have Qy:=fF.upd (x':=⟨xr.r,xr.key,xr.fP,xr.bA,xr.bm,xr.bk,PI,A6,PI.length,c6⟩) (hRT.o.grows hWI.o) hvT IX VW uz Bq VX ⟨rfl,rfl⟩ rfl;have hrf:((rsT.set r (gsT.set kT ⟨xr.r,xr.key,xr.fP,xr.bA,xr.bm,xr.bk,PI,A6,PI.length,c6⟩)).map (·.map dQ.g))=(stepG rec id cf (dF p.aU) sq r).aW:=by
      rw[Nk.o];show _ = nY uZ r kT id
      rw[wu Gz Gx,show kF xr.g.ids id=PI from Wp.o,List.map_set,Pg.o,List.map_set];rfl
     have YA:∀j,Value.ownBlock xr.iv=some j→lK (wT.alloc (.cells #[.int .u64 (id:Int)] 33)) w0.heap.size j:=lK.Cm (SS.o.alloc (.cells #[.int .u64 (id:Int)] 33)) (Nat.le_refl _) (.inr rfl);have aK:=aj w6 ⟨gb,kT*4+3,none⟩ (.slice A6 PI.length c6);obtain⟨ase,KI⟩:=bV Wv (g:=gb) rfl;have Uu:=((hET.o.grows hWI.o).row Bq YA).row aK (lK.Cm Wv (Nat.le_refl _) (.inl rfl));have hM7:=((hMT.o.grows hWI.o).aju (SS.o.alloc (.cells #[.int .u64 (id:Int)] 33)) Bq).CS aK KI;have ZP:jg Tryz.prog 9 3 (w6.setCell ⟨gb,kT*4+3,none⟩ (.slice A6 PI.length c6)) MB (stepG rec id cf (dF p.aU) sq r).place.length (nC (stepG rec id cf (dF p.aU) sq r).place):=by rw[Nk.o];exact hM7
     replace Qy:=ζ Qy;replace Uu:=ζ Uu;replace ZP:=ζ ZP;replace hrf:=ζ hrf;clear hM7 aK KI YA Wv uz Bq VX hcr hxr wO SS YP Gz Gx Nk hMT Pg hIT hRT hET hWI cIn Wp;generalize hPL:PI.length=PLn at *
     go_wp2;go_roundw
     case rel=>exact⟨q+1,_,vsT,_,ω,ν,ζ qw.o.symm,hIN,hrf,Qy,ZP,Uu⟩
     case measure=>exact ψ
  ·obtain rfl:q=Fn:=ω;have avc:=dN.o;rw[List.take_of_length_le (by rw[hFl.o];exact Nat.le_refl _)] at avc;subst avc;rw[←hFl.o] at hI;have hB:=ζ hE.o.B;have hG:=ζ hE.o.G;clear dN hE;go_wp2;first
    | exact⟨vs',rs',hI,nS,hR,hM,hB,hG⟩
    | exact oO _ _ _ _ _ _ _ _ _ _ _ _ _ _ _ _ _ _ _ _ _ _ _ _ _ _ _ _ _ _ _ _ _ _ _ _ _ _ _ _ _ _ _ _ _ _ _ _ _ _ _ _ _ _ _ _ _ _ _ _ _ _ _ _ _ _ _ _ _ _ _ _ _ _ _ _ _ _ _ _ _ _ _ _ _ _ ⟨vs',rs',hI,nS,hR,hM,hB,hG⟩
end Go.Proofs.YtbhikkgpcmkonaaGreatDoor
namespace Go.Proofs.YtbhikkgpcmkonaaGreatDoor
open Go.RowKit
theorem Jh {l:List bM} (h:iL l = true):l.length≤8∧∀f∈l,fG f.n = true∧f.v.length≤200:=by
 unfold iL at h;simp only[Bool.and_eq_true,decide_eq_true_eq,List.all_eq_true] at h;exact⟨h.2,fun f hf=>h.1.1 f hf⟩
theorem yY {n:List UInt8} (h:fG n = true):1≤n.length∧n.length≤12:=by
 unfold fG at h;simp only[Bool.and_eq_true,decide_eq_true_eq] at h;omega
end Go.Proofs.YtbhikkgpcmkonaaGreatDoor
namespace Go.Proofs.YtbhikkgpcmkonaaGreatDoor
open Go.RowKit Go.Maps
def iF (ft:List bM→cu→Bool) (p:fQ) (rec:List UInt8) (now:Int) (st:JJ) (a:iH):JJ:=match kM p rec a now with
 | none=>st
 | some c=>(vX ft p rec c.fs).foldl (stepG rec (CV c) c.fs (dF p)) st
def mP (ft:List bM→cu→Bool) (p:fQ) (rec:List UInt8) (l:List iH) (now:Int):JJ:=l.foldl (iF ft p rec now) ⟨List.replicate p.routes.length [],[]⟩
def mZ (fb:cu→Bool) (ft:List bM→cu→Bool) (p:fQ) (rec:List UInt8) (l:List iH) (now:Int):List ni:=if fE fb p = 0 then (mP ft p rec l now).aW.flatten else []
def Xd (w:World) (b0:Nat) (gs:List dQ):Prop:=∀x∈gs,Own w b0 33 1 kS x.iv x.ids∧Own w b0 88 2 dZ x.bv x.fP
theorem zH {fb:cu→Bool} {p:fQ} (h:fE fb p = 0):Ud p = false∧Zr fb p = false:=by
 unfold fE at h;split at h
 ·cases h
 ·split at h
  ·cases h
  ·rename_i h1 h2;exact⟨by simpa using h1,by simpa using h2⟩
theorem IG {p:fQ} (h:Ud p = false):p.routes.length≤12∧p.jZ.length≤12:=by
 unfold Ud at h;simp only[Bool.or_eq_false_iff,decide_eq_false_iff_not] at h;omega
theorem agz {l:List zN} {n:List UInt8} {y:gy} (h:dY l n = some y):∃x∈l,x.n = n∧x.l = y:=by
 unfold dY at h;obtain⟨x,hx,rfl⟩:=Option.map_eq_some_iff.1 h;exact⟨x,List.mem_of_find?_eq_some hx,by simpa using List.find?_some hx,rfl⟩
theorem acR {fb:cu→Bool} {p:fQ} (h:Zr fb p = false):lG p.receivers=true:=by
 unfold Zr Am at h;simp only[List.any_cons,List.any_nil,Bool.or_eq_false_iff,Bool.not_eq_false'] at h;exact h.1.2.1
theorem aeI {fb:cu→Bool} {p:fQ} {rec:List UInt8} {a c:iH} {now:Int} (uO:fE fb p = 0) (h:kM p rec a now=some c) :
 rec.length≤12∧c.src.length≤12∧c.fs.length≤8∧∀f∈c.fs,f.n.length+f.v.length≤1000:=by
 unfold kM at h;cases hf:dY p.receivers rec with
 | none=>rw[hf] at h;cases h
 | some tO=>
  rw[hf] at h;simp only at h;obtain⟨x,hx,hxn,_⟩:=agz hf;have hn:=acR (zH uO).2;unfold lG at hn;simp only[Bool.and_eq_true] at hn;have hxo:=List.all_eq_true.1 hn.1 x hx;unfold Gv at hxo;simp only[Bool.and_eq_true] at hxo;have qB:=yY hxo.1;rw[hxn] at qB;split at h
  ·rename_i hb;simp only[Bool.and_eq_true] at hb;have hab:=hb.1;unfold bg at hab;simp only[Bool.and_eq_true] at hab;have uq:=yY hab.1.1.1.1.1;have JD:=Jh hab.1.1.1.2;unfold iR at h;split at h
   ·cases h
   ·injection h with h
    subst h;refine⟨ω,uq.2,?_,fun f hf=> ?_⟩
    ·have:=mY p a.fs a.l tO;have:=JD.1;simp only;omega
    ·have hfm:=(List.mem_filter.1 hf).1;have:=JD.2 f hfm;have:=yY this.1;have:=(JD.2 f hfm).2;omega
  ·cases h
theorem agt {ft:List bM→cu→Bool} {p:fQ} {rec:List UInt8} {fs:List bM}:(∀r∈vX ft p rec fs,r < p.routes.length)∧(vX ft p rec fs).length≤p.routes.length:=
 ⟨fun r hr=>by
  unfold vX nI at hr;have:=(List.mem_filter.1 hr).1;simpa using this,PN _ _ _ _ _⟩
def UA (v:Value) (gs:List dQ):Gsl:=match v with
 | .slice A n c=>⟨A,n,c,gs⟩
 | _=>⟨none,0,0,gs⟩
theorem Zh:∀(vs:List Value) (rs:List (List dQ)),vs.length=rs.length→wX (List.zipWith UA vs rs)=rs.flatten
 | [],[],_=>rfl
 | v ::vs,gs::rs,h=>by
  have ih:=Zh vs rs (by simpa using h);have hx:(UA v gs).xs=gs:=by unfold UA;split <;> rfl
  unfold wX at ih ⊢;rw[List.zipWith_cons_cons,List.flatMap_cons,ih,hx,List.flatten_cons]
 | [],_ ::_,h=>by simp at h
 | _ ::_,[],h=>by simp at h
theorem aiW {w:World} {b0 RB:Nat} {vs:List Value} {rs:List (List dQ)} (h:fF w b0 RB vs rs):∃bs,bW w 1 adT (some ⟨RB,0,none⟩) rs.length bs∧(∀b∈bs,bW w 4 WR b.A b.n b.xs)∧wX bs=rs.flatten:=by
 have hz:(List.zipWith UA vs rs).length=rs.length:=by rw[List.length_zipWith,h.len,Nat.min_self]
 have key:∀(i:Nat) (b:Gsl),(List.zipWith UA vs rs)[i]? = some b→∃A n c gs,vs[i]? = some (.slice A n c)∧b = ⟨A,n,c,gs⟩∧bW w 4 WR A n gs:=fun i b hb=>by
  have hi:i < rs.length:=by have:=(List.getElem?_eq_some_iff.1 hb).1;rw[hz] at this;exact this
  have h1:vs[i]? = some (vs[i]'(by rw[h.len];exact hi)):=List.getElem?_eq_getElem _;have h2:rs[i]? = some rs[i]:=List.getElem?_eq_getElem hi;obtain⟨A,c,hv,_,_,ha⟩:=(h.own i _ _ h1 h2).arr hkG;rw[List.getElem?_zipWith,h1,h2] at hb;simp only[Option.some.injEq] at hb;rw[hv] at h1 hb;exact⟨A,_,c,rs[i],h1,hb.symm,ha⟩
 refine⟨List.zipWith UA vs rs,⟨hz,fun _=>⟨RB,0,rfl,h.lt,fun i hi j u hu=> ?_⟩⟩,fun b hb=> ?_,Zh vs rs h.len⟩
 ·obtain⟨A,n,c,gs,h1,h2,_⟩:=key i _ (List.getElem?_eq_getElem hi);rw[h2] at hu;have hj:j = 0:=by have:=(List.getElem?_eq_some_iff.1 hu).1;simp[adT] at this;omega
  subst hj;simp only[adT,List.getElem?_cons_zero,Option.some.injEq] at hu;subst hu;simpa using h.cell h1
 ·obtain⟨i,hi⟩:=List.getElem?_of_mem hb;obtain⟨A,n,c,gs,_,h2,h3⟩:=key i b hi;subst h2;exact h3
theorem LP {α:Type} {B:Nat}:∀l:List (List α),(∀x∈l,x.length≤B)→l.flatten.length≤l.length*B
 | [],_=>by simp
 | x ::l,h=>by
  have:=LP l (fun y hy=>h y (by simp[hy]));have:=h x σ;simp only[List.flatten_cons,List.length_append,List.length_cons,Nat.add_mul];omega
theorem acw {fb:cu→Bool} {ft:List bM→cu→Bool} {p:bQ} {rec:List UInt8} {lA:Option Addr} {lm lk:Nat} {xs:List dD} {now:Int} (w:World) (he:oJ w) (hp:p.At w) (nG:lW fb p) (YJ:Js ft p)
 (hA:bW w 6 tH lA lm xs) (hat:∀a∈xs,a.At w) (Jz:lm≤1000) :
 Calls Tryz.prog 48 #[p.val,.string ⟨rec.toArray⟩,.slice lA lm lk,.int .i64 now] w fun e w'=>∃v gs,e =.returned v∧Nz w' w.heap.size v gs∧Xd w' w.heap.size gs∧gs.map dQ.g = mZ fb ft p.aU rec (xs.map (·.a)) now∧ah w w':=by
 have cK:=fun W (hW:ah w W)=>zI W (hp.keep hW) nG
 have hGL:mZ fb ft p.aU rec (xs.map (·.a)) now=if fE fb p.aU=0 then (mP ft p.aU rec (xs.map (·.a)) now).aW.flatten else []:=rfl
 generalize mZ fb ft p.aU rec (xs.map (·.a)) now=GL at *
 by_cases uO:fE fb p.aU=0
 ·rw[uO] at cK;rw[if_pos uO] at hGL;have hom:p.om≤12:=by have:=(IG (zH uO).1).1;rw[show p.aU.routes=p.o.map (·.r) from rfl,List.length_map,hp.o.1] at this;exact this
  have qB:p.aU.routes.length=p.om:=by rw[show p.aU.routes=p.o.map (·.r) from rfl,List.length_map,hp.o.1]
  have cS:=fun (a:dD) (ha:a∈xs) W (hW:ah w W)=>aiP (rec:=rec) (now:=now) W (hp.keep hW) ((hat a ha).keep hW)
  have cF:=fun (c:dD) W (hW:ah w W) (hcA:bW W 2 dZ c.A c.m c.a.fs) (hcm:c.m≤9223372036854775807) (hT:∀f∈c.a.fs,f.v.length≤1000000)=>akS (rec:=rec) (a:=c) W (hp.keep hW) hcA hcm hT ω YJ
  have kN:=hA.1;have hmk:=run_make_row' (P:=Tryz.prog) 187 137 (.slice none 0 0) 24 Tryz.underlying187 κ rfl .i64 .i64 p.om ω ω;have hmm:= @run_makeMap Tryz.prog;have ajR:mP ft p.aU rec (xs.map (·.a)) now=(xs.map (·.a)).foldl (iF ft p.aU rec now) ⟨List.replicate p.om [],[]⟩:=by
   unfold mP;rw[qB]
  unfold bQ.val at cK cS cF ⊢;replace cK:=ζ (fun W=>cK W);replace cS:=ζ cS;replace cF:=ζ cF;replace hA:=ζ hA;replace he:=ζ he;replace hp:=ζ hp;replace hGL:=ζ hGL;replace ajR:=ζ ajR;replace kN:=ζ kN;replace uO:=ζ uO;replace qB:=ζ qB;replace hat:=ζ hat;clear nG;go_enter Tryz.func48,Tryz.ntmps48
  go_wp2_with fail;refine (cK.out _ γ).mono ?_;rintro e w1 ⟨rfl,hb1⟩;have xU:Hid (aG w1 w.heap.size 50 p.cells.toArray):=ζ ((aG.new w _ _).grows hb1);have fM:Hid (ah w w1):=ζ (((ah.refl w).alloc _).trans hb1);have q4:=xU.o.c4;have qz:=xU.o.lt;clear cK hb1;go_wp2;clear hmk hmm;have hRB:(((w1.alloc (.cells (madeCells #[.slice none 0 0] p.om) 137)).alloc (.map #[] 0))).heap[w1.heap.size]? = some (.cells (madeCells #[.slice none 0 0] p.om) 137 (0,0)):=by
   rw[heap_alloc_old _ _ σ];exact heap_alloc_new w1 _
  have V3:=ζ fM.o.size;replace hRB:=ζ hRB;go_loopw [12,13,14,15,17,18,19,20,21,22,23,24,35,54,55,56] (fun _ _ _ _ _ _ _ _ _ _ _ _ i _ _ _ wr=>∃(k:Nat) (st:JJ) (vs:List Value) (rs:List (List dQ)),k≤lm∧i =.int .i64 k∧Hid (st=((xs.map (·.a)).take k).foldl (iF ft p.aU rec now) ⟨List.replicate p.om [],[]⟩)∧Hid (kZ p.om (24*k) st)∧Hid (rs.map (·.map dQ.g)=st.aW)∧
   Hid (fF wr w.heap.size w1.heap.size vs rs)∧Hid (jg Tryz.prog 9 3 wr (w1.heap.size+1) st.place.length (nC st.place))∧Hid (aG wr w.heap.size 50 p.cells.toArray)∧Hid (ah w wr)) (fun _ _ _ _ _ _ _ _ _ _ _ _ i _ _ _ _=>lm-(intOf i).toNat)
  case atStart=>
   refine⟨0,_,_,_,ω,rfl,rfl,kZ.start _,?_,fF.start hRB.o,?_,(xU.o.alloc _).alloc _,(fM.o.alloc _).alloc _⟩
   ·show _ = _;simp
   ·have:=jg.made (w1.alloc (.cells (madeCells #[.slice none 0 0] p.om) 137)) Tryz.prog 9 3;show jg _ _ _ _ _ _ _
    simpa[nC] using this
  case round=>
   clear hRB xU fM q4 qz;obtain⟨k,st,vs,rs,hk,rfl,hst,hI,nS,hR,hM,hB,hG⟩:=hrel;by_cases qC:k<lm
   ·obtain⟨bb,off,x,rfl,CW,hx,hcell⟩:=(hA.o.keep hG.o).at_ qC;have c0:wr.cell? ⟨bb,off+k*6,none⟩=some (.string ⟨x.a.src.toArray⟩):=hcell 0 _ rfl;have c1:wr.cell? ⟨bb,off+k*6+1,none⟩=some (.slice x.A x.m x.k):=hcell 1 _ rfl;have c2:wr.cell? ⟨bb,off+k*6+2,none⟩=some (.int .i64 x.a.l.lv):=hcell 2 _ rfl;have c3:wr.cell? ⟨bb,off+k*6+3,none⟩=some (.int .u32 (x.a.l.c:Int)):=hcell 3 _ rfl;have c4:wr.cell? ⟨bb,off+k*6+4,none⟩=some (.int .i64 x.a.f):=hcell 4 _ rfl;have c5:wr.cell? ⟨bb,off+k*6+5,none⟩=some (.int .i64 x.a.t):=hcell 5 _ rfl;have kX:(k:Int)<(lm:Int):=ω;have wL:=List.mem_of_getElem? hx;have hxa:(xs.map (·.a))[k]? = some x.a:=by rw[List.getElem?_map,hx];rfl
    have qw:=PG (f:=iF ft p.aU rec now) (b:=(⟨List.replicate p.om [],[]⟩:JJ)) hxa;rw[←hst.o] at qw;have AA:iF ft p.aU rec now st x.a = match kM p.aU rec x.a now with
     | none=>st
     | some c=>(vX ft p.aU rec c.fs).foldl (stepG rec (CV c) c.fs (dF p.aU)) st:=rfl
    have akc:=fun c=>aeI (c:=c) (rec:=rec) (a:=x.a) (now:=now) uO.o
    have cX:=cS.out x wL;unfold iV at cX;generalize kM p.aU rec x.a now=S at *
    replace cX:=ζ cX;replace qw:=ζ qw;replace akc:=ζ akc;replace AA:=ζ AA;clear hcell hx wL hxa hst;have p0:=hB.o.cell 0;have p1:=hB.o.cell 1;have p2:=hB.o.cell 2;have p3:=hB.o.cell 3;have p4:=hB.o.cell 4;have p5:=hB.o.cell 5;have pz:=hB.o.lt;unfold bQ.cells at p0 p1 p2 p3 p4 p5;simp only[List.getElem?_toArray,List.getElem?_cons_zero,List.getElem?_cons_succ] at p0 p1 p2 p3 p4 p5;go_wp2_with fail;refine (cX.out _ (by
     have hG:=hG.o;exact γ
    )).mono ?_
    rintro e w2 ⟨v,rfl,hv,hb2⟩;have gK:=ζ ((hG.o.alloc (.cells #[.string ⟨x.a.src.toArray⟩,.slice x.A x.m x.k,.int .i64 x.a.l.lv,.int .u32 (x.a.l.c:Int),.int .i64 x.a.f,.int .i64 x.a.t] 57)).trans hb2);have hgr:=((ah.refl wr).alloc (.cells #[.string ⟨x.a.src.toArray⟩,.slice x.A x.m x.k,.int .i64 x.a.l.lv,.int .u32 (x.a.l.c:Int),.int .i64 x.a.f,.int .i64 x.a.t] 57)).trans hb2;replace hR:=ζ (hR.o.grows hgr);replace hM:=ζ (hM.o.grows hgr);replace hB:=ζ (hB.o.grows hgr);have aqU:=hG.o.size;clear cX p0 p1 p2 p3 p4 p5 pz c0 c1 c2 c3 c4 c5 hG;cases S with
    | none=>
     have Bv:=AA.o;simp only at Bv;obtain rfl:v = jP:=hv;unfold jP;clear AA akc hgr hb2;have Ku:Hid (st=((xs.map (·.a)).take (k+1)).foldl (iF ft p.aU rec now) ⟨List.replicate p.om [],[]⟩):=ζ (by rw[qw.o,Bv]);have hI2:=ζ (hI.o.mono (show 24*k≤24*(k+1) by omega));have hW:ah w2 (w2.alloc (.cells #[.string ⟨#[]⟩,.slice none 0 0,.int .i64 0,.int .u32 0,.int .i64 0,.int .i64 0] 57)):=(ah.refl w2).alloc _;go_wp2;go_roundw
     case rel=>exact⟨k+1,st,vs,rs,ω,ν,Ku,hI2,nS,hR.o.grows hW,hM.o.grows hW,hB.o.grows hW,gK.o.trans hW⟩
     case measure=>exact ψ
    | some c=>
     have Bv:=ζ AA.o;have hi:=akc.o c rfl;obtain⟨A',c',rfl,hO⟩:=hv;have nM:=hO.bK (base':=w.heap.size) (by simp;omega);unfold iV;have qF:=hi.2.2.1;obtain⟨Jl,N7,⟨clv,clc⟩,cf0,ct0⟩:=c;simp only at nM Bv hi qF ⊢;obtain⟨_,_,hvv,_,_,hA2⟩:=nM.arr JB;simp only[Value.slice.injEq] at hvv;obtain⟨rfl,_,rfl⟩:=hvv;clear AA akc hO hgr hb2;have hW:ah w2 (w2.alloc (.cells #[.string ⟨Jl.toArray⟩,.slice A' N7.length c',.int .i64 clv,.int .u32 (clc:Int),.int .i64 cf0,.int .i64 ct0] 57)):=(ah.refl w2).alloc _;have hC:=ζ (aG.new w2 57 #[.string ⟨Jl.toArray⟩,.slice A' N7.length c',.int .i64 clv,.int .u32 (clc:Int),.int .i64 cf0,.int .i64 ct0]);have cI:=VT (a:=⟨⟨Jl,N7,⟨clv,clc⟩,cf0,ct0⟩,A',N7.length,c'⟩) _ (hA2.keep hW) (by simp only;omega) (by simp only;omega) hi.2.2.2;have cG:=fun W (hX:ah w2 W)=>cF.out ⟨⟨Jl,N7,⟨clv,clc⟩,cf0,ct0⟩,A',N7.length,c'⟩ W (gK.o.trans hX) (hA2.keep hX) (by simp only;omega) (fun f hf=>by have:=hi.2.2.2 f hf;omega)
     unfold iV at cI cG;simp only at cI cG;have hfm:=agt (ft:=ft) (p:=p.aU) (rec:=rec) (fs:=N7);rw[qB.o] at hfm;generalize CV ⟨Jl,N7,⟨clv,clc⟩,cf0,ct0⟩=id at *
     generalize vX ft p.aU rec N7=F at *
     replace cI:=ζ cI;replace cG:=ζ cG;replace hfm:=ζ hfm;replace hR:=ζ (hR.o.grows hW);replace hM:=ζ (hM.o.grows hW);replace hB:=ζ (hB.o.grows hW);replace nM:=ζ (nM.grows hW);have qp:=ζ (gK.o.trans hW);replace hW:=ζ hW;have Pn:=ζ (show N7.length≤8∧∀f∈N7,f.n.length+f.v.length≤1000 from ⟨qF,hi.2.2.2⟩);have Nc:=ζ (show rec.length≤1000 by have:=hi.1;omega);clear hA2 hi qF gK;go_wp2_with fail;refine (cI.out).mono ?_;rintro e w3 ⟨rfl,hb3⟩;replace hC:=ζ (hC.o.grows hb3);replace hB:=ζ (hB.o.grows hb3);have x0:_ = some (Value.string ⟨Jl.toArray⟩):=hC.o.cell 0;have x1:_ = some (Value.slice A' N7.length c'):=hC.o.cell 1;have x2:_ = some (Value.int .i64 clv):=hC.o.cell 2;have x3:_ = some (Value.int .u32 (clc:Int)):=hC.o.cell 3;have x4:_ = some (Value.int .i64 cf0):=hC.o.cell 4;have x5:_ = some (Value.int .i64 ct0):=hC.o.cell 5;have xz:=hC.o.lt;have p0:=hB.o.cell 0;have p1:=hB.o.cell 1;have p2:=hB.o.cell 2;have p3:=hB.o.cell 3;have p4:=hB.o.cell 4;have p5:=hB.o.cell 5;have pz:=hB.o.lt;unfold bQ.cells at p0 p1 p2 p3 p4 p5;simp only[List.getElem?_toArray,List.getElem?_cons_zero,List.getElem?_cons_succ] at p0 p1 p2 p3 p4 p5;clear cI;go_wp2_with fail;refine (cG.out _ (hW.o.trans hb3)).mono ?_;rintro e w4 ⟨fv,rfl,Ut,hb4⟩;obtain⟨fA,fk,rfl,_,_,hA4⟩:=Ut.arr Fe;have hg4:=hb3.trans hb4;have afP:=qp.o.size;have hE:Hid (Xe w p.cells.toArray w2.heap.size #[.string ⟨Jl.toArray⟩,.slice A' N7.length c',.int .i64 clv,.int .u32 (clc:Int),.int .i64 cf0,.int .i64 ct0] (.slice fA F.length fk) F (.slice A' N7.length c') N7 w4):=
      ζ ⟨qp.o.trans hg4,hB.o.grows hb4,hC.o.grows hb4,Ut.bK (by have:=qp.o.size;have:=hb3.size;omega),nM.o.grows hg4⟩
     have hR4:=ζ (hR.o.grows hg4);have hM4:=ζ (hM.o.grows hg4);clear cG hR hM hB hC nM Ut hb3 hb4 hg4 hA4 x0 x1 x2 x3 x4 x5 xz p0 p1 p2 p3 p4 p5 pz qp afP hW;have hj:Hid (24*k≤24000):=ζ ω;have aBv:Hid (w.heap.size≤w1.heap.size):=V3;have aBD:Hid (w.heap.size≤w1.heap.size+1):=ζ (by have:=V3.o;omega);have hF:Hid ((∀r∈F,r < p.om)∧F.length≤12):=ζ ⟨hfm.o.1,by have:=hfm.o.2;omega⟩;have hcc:Hid ((#[.string ⟨Jl.toArray⟩,.slice A' N7.length c',.int .i64 clv,.int .u32 (clc:Int),.int .i64 cf0,.int .i64 ct0]:Array Value)[1]? = some (.slice A' N7.length c')):=ζ rfl;generalize hFn:F.length=Fn at *
     replace hFn:=ζ hFn;go_wp2;refine agk he hp hE hcc hR4 hM4 aBv aBD hI hj nS (by rw[hFn.o];exact hF) Nc Pn hom π ?_;rintro u17 u18 u19 u20 u21 u22 u23 u24 u56 u57 u58 u59 u60 u61 u62 u63 u64 u65 u66 u67 u68 u69 u70 u71 u72 u73 u74 u75 u76 u77 u78 u79 u80 u81 u82 u83 u84 u85 u86 u87 u88 u89 u90 u91 u92 u93 u94 u95 u96 u97 u98 u99 Vt Vs Vr Vq Vp Vo Vm Vl Vk Vj Vh Vg aak aiz aiy aix aiw aiv aiu ait ais air aiq aip aio ain ail aik aij aii aif aie aic wz ⟨vs',rs',hI',az4,hR',hM',JH,hG'⟩;have Ku:Hid (F.foldl (stepG rec id N7 (dF p.aU)) st=((xs.map (·.a)).take (k+1)).foldl (iF ft p.aU rec now) ⟨List.replicate p.om [],[]⟩):=ζ (by rw[qw.o];exact Bv.o.symm);have hI2:=ζ (hI'.o.mono (show 24*k+2*F.length≤24*(k+1) by have:=hF.o.2;have:=hFn.o;omega));clear hE hR4 hM4 hI nS hI' hF hcc Pn Nc Bv qw hfm hj aqU;go_wp2;go_roundw
     case rel=>exact⟨k+1,_,vs',rs',ω,ν,Ku,hI2,az4,hR',hM',JH,hG'⟩
     case measure=>exact ψ
   ·obtain rfl:k=lm:=ω;obtain⟨bs,JE,Es,arB⟩:=aiW hR.o;have ani:rs.length=p.om:=by have:=hI.o.len;rw[←nS.o,List.length_map] at this;exact this
    rw[ani] at JE;have hlen:(wX bs).length≤1000000000:=by
     rw[arB];have:=LP (B:=24000) rs (fun gs nD=>by
      obtain⟨r,hr⟩:=List.getElem?_of_mem nD;have h1:st.aW[r]? = some (gs.map dQ.g):=by rw[←nS.o,List.getElem?_map,hr];rfl
      have:=hI.o.mr r _ h1;rw[List.length_map] at this;omega)
     rw[ani] at this;have h3:p.om*24000≤12*24000:=Nat.mul_le_mul_right _ hom;omega
    have cC:=Zd (c:=p.om) wr JE Es hlen ω;rw[arB] at cC;have aN:(rs.flatten).map dQ.g = GL:=by
     rw[hGL.o,ajR.o,List.map_flatten,nS.o,hst.o,List.take_of_length_le (by rw[List.length_map,kN.o];exact Nat.le_refl _)]
    replace cC:=ζ cC;replace aN:=ζ aN;clear JE Es arB hlen hM hB hI nS hst ani;go_wp2_with fail;refine (cC.out).mono ?_;rintro e w6 ⟨v6,rfl,uz,Et⟩;go_wp2;go_ret;refine⟨v6,rs.flatten,rfl,uz.bK hG.o.size,fun x hx=> ?_,aN.o,hG.o.trans Et⟩;obtain⟨gs,nD,hxg⟩:=List.mem_flatten.1 hx;obtain⟨r,hr⟩:=List.getElem?_of_mem nD;obtain⟨i,hi⟩:=List.getElem?_of_mem hxg;exact⟨(hR.o.ids r gs i x hr hi).grows Et,(hR.o.Ns r gs i x hr hi).grows Et⟩
 ·rw[if_neg uO] at hGL;subst hGL;have hne:(fE fb p.aU==0)=false:=by simpa using uO
  unfold bQ.val at cK ⊢;generalize fE fb p.aU=CK at *
  replace cK:=ζ cK;clear uO hp nG YJ hA hat he;go_enter Tryz.func48,Tryz.ntmps48
  go_wp2_with fail;refine (cK.out _ γ).mono ?_;rintro e w1 ⟨rfl,hb1⟩;have fM:ah w w1:=((ah.refl w).alloc _).trans hb1;go_wp2;go_ret;exact⟨_,[],rfl,Own.iO _ _ _ _ _,fun x hx=>absurd hx σ,rfl,fM⟩
end Go.Proofs.YtbhikkgpcmkonaaGreatDoor
namespace Go.Proofs.YtbhikkgpcmkonaaGreatDoor
def dI:List UInt8:=[112,97,103,101,114]
def Ob:List UInt8:=[116,101,97,109]
def Tq:List UInt8:=[112,114,111,109]
structure U5 where
 wait:Int
 every:Int
 again:Int
 first:Int
 last:Int
 now:Int
 told:List Nat
deriving DecidableEq
def Gu (w e r:Int):U5:=⟨min (max w 0) 1000,min (max e 1) 1000,min (max r (min (max e 1) 1000)) 100000,-1,-1,0,[]⟩
def aw_ (c:U5) (ids:List Nat):Int:=if ids=c.told then c.again else c.every
def UD (c:U5) (now:Int) (ids:List Nat):Int:=
 max (if c.last=-1 then (if c.first=-1 then now+c.wait else c.first+c.wait) else max (if c.first=-1 then now+c.wait else c.first+c.wait) (c.last+aw_ c ids)) now
def Dk (c:U5) (now:Int) (ids:List Nat):Bool:=decide (ids≠[])&&decide (UD c now ids≤now)
def KO (c:U5) (now:Int) (ids:List Nat):Int:=if ids=[] then -1 else if c.first=-1 then now else c.first
def Eu (c:U5) (now:Int) (ids:List Nat):U5:=
 if Dk c now ids then {c with now:=now,first:=KO c now ids,last:=now,told:=ids} else {c with now:=now,first:=KO c now ids}
structure ZL (c:U5):Prop where
 w0:0≤c.wait
 w1:c.wait≤1000
 e0:1≤c.every
 e1:c.every≤1000
 a0:0≤c.again
 a1:c.again≤100000
 f0: -1≤c.first
 f1:c.first≤eY
 l0: -1≤c.last
 l1:c.last≤eY
 n0:0≤c.now
 n1:c.now≤eY
theorem amZ (w e r:Int):ZL (Gu w e r):=by
 constructor <;> unfold Gu <;> (try unfold eY) <;> simp only <;> omega
theorem aoP {c:U5} (h:ZL c) {now:Int} (h0:0≤now) (h1:now≤eY) (ids:List Nat):ZL (Eu c now ids):=by
 obtain⟨a1,a2,a3,a4,a5,a6,a7,a8,a9,a10,a11,a12⟩:=h;have hf: -1≤KO c now ids∧KO c now ids≤eY:=by
  unfold KO;split
  ·constructor
   ·omega
   ·unfold eY;omega
  ·split
   ·omega
   ·exact⟨a7,a8⟩
 unfold Eu;split <;> exact⟨a1,a2,a3,a4,a5,a6,hf.1,hf.2,by simp only;omega,by simp only;omega,h0,h1⟩
theorem Qj (c:U5) (now:Int) (ids:List Nat):(Eu c now ids).now=now:=by unfold Eu;split <;> rfl
end Go.Proofs.YtbhikkgpcmkonaaGreatDoor
namespace Go.Proofs.YtbhikkgpcmkonaaGreatDoor
open Go.RowKit
structure Sil where
 wh:List cu
 f:Int
 t:Int
 l:gy
deriving DecidableEq
def aeE (fb:cu→Bool) (s:Sil):Bool:=(decide (0<s.wh.length)&&decide (s.wh.length≤12)&& !(s.wh.any fun m=> !fb m))&&decide (0≤s.f)&&decide (s.f < s.t)&&decide (s.t≤eY)&&dA s.l.lv
structure n_ where
 l:List (Nat×Sil)
 last:Nat
def wo (q:n_) (l:gy):Nat:=(q.l.filter fun x=>decide (x.2.l = l)).length
def J_ (fb:cu→Bool) (q:n_) (s:Sil):n_:=if aeE fb s then (if wo q s.l = 10 then q else ⟨q.l ++[(q.last+1,s)],q.last+1⟩) else q
def tX (ft:List bM→cu→Bool) (tO:gy) (now:Int) (fs:List bM) (s:Sil):Bool:=eU s.l tO&&(decide (s.f≤now)&&(decide (now<s.t)&&s.wh.all (ft fs)))
def vw (ft:List bM→cu→Bool) (p:fQ) (q:n_) (a:iH) (tO:gy) (now:Int):List Nat:=match iR p a tO with
 | none=>[]
 | some c=>(q.l.filter fun x=>tX ft tO now c.fs x.2).map (·.1)
def G8 (names:List (List UInt8)) (a b:List bM):Bool:=names.all fun n=>decide (yw a n = yw b n)
def byI (ft:List bM→cu→Bool) (r:Inh) (l:List iH) (id:Nat) (c:iH) (now:Int):Bool:=
 r.wh.all (ft c.fs)&&l.any fun a=>(bg a &&eX a now)&&(r.from_.all (ft a.fs)&&(G8 r.fP a.fs c.fs&& !decide (CV a = id)))
def Ug (ft:List bM→cu→Bool) (p:fQ) (l:List iH) (id:Nat) (c:iH) (tO:gy) (now:Int) (i:Nat):Bool:=match p.jZ[i]? with
 | none=>false
 | some r=>eU r.l tO&&byI ft r l id c now
def yC (fb:cu→Bool) (ft:List bM→cu→Bool) (p:fQ) (l:List iH) (k:Nat) (tO:gy) (now:Int):List Nat:=match l[k]? with
 | none=>[]
 | some a=>if bg a then (if fE fb p = 0 then (match iR p a tO with
  | none=>[]
  | some c=>(List.range p.jZ.length).filter (Ug ft p l (CV a) c tO now)) else []) else []
def zU (p:fQ) (tO:gy) (now:Int) (a:iH):Bool:=(iR p a tO).isSome&&(bg a &&eX a now)
def xE (p:fQ) (l:List iH) (tO:gy) (now:Int):List Nat:=(List.range l.length).filter fun k=>match l[k]? with | some a=>zU p tO now a | none=>false
def xQ (fb:cu→Bool) (ft:List bM→cu→Bool) (p:fQ) (l:List iH) (tO:gy) (now:Int):List Nat:=if fE fb p = 0 then (xE p l tO now).filter fun k=>(yC fb ft p l k tO now).isEmpty else []
def Gs (ft:List bM→cu→Bool) (p:fQ) (q:n_) (l:List iH) (tO:gy) (now:Int) (k:Nat):Bool:=match l[k]? with
 | some a=>(vw ft p q a tO now).isEmpty
 | none=>true
def yS (fb:cu→Bool) (ft:List bM→cu→Bool) (p:fQ) (rec:List UInt8) (l:List iH) (q:n_) (now:Int):List Nat:=match dY p.receivers rec with
 | none=>[]
 | some tO=>(xQ fb ft p l tO now).filter (Gs ft p q l tO now)
def IE (fb:cu→Bool) (ft:List bM→cu→Bool) (p:fQ) (rec:List UInt8) (l:List iH) (q:n_) (now:Int):List iH:=(yS fb ft p rec l q now).filterMap fun k=>l[k]?
structure Xq where
 id:Nat
 jM:Bool
 fs:List bM
deriving DecidableEq
structure N_ where
 rc:List UInt8
 group:List UInt8
 number:Int
 time:Int
 fP:List bM
 Qm:List Xq
deriving DecidableEq
def KH (n:Nat):UInt8:=if n < 10 then UInt8.ofNat (48+n) else UInt8.ofNat (87+n)
def GH (l:List Nat):List UInt8:=l.flatMap fun b=>[KH (b / 16),KH (b % 16)]
def mV (n:Nat):List Nat:=(List.range 8).map fun i=>n / 2 ^ (56-8*i) % 256
def qI (n:Nat):List UInt8:=GH (mV n)
def Aw (b:UInt8):Bool:=(decide (48≤b.toNat)&&decide (b.toNat≤57))||(decide (97≤b.toNat)&&decide (b.toNat≤102))
def O5 (s:List UInt8):Bool:=decide (s.length=16)&&s.all Aw
def atV (l:List bM):Bool:=l.all fun f=>Lib.validD f.v
def fieldsU (l:List bM):Bool:=iL l &&atV l
def rU (n:Int):Bool:=decide (0≤n)&&decide (n≤eY)
def W_:List Xq→Bool
 | []=>true
 | [_]=>true
 | a ::b ::l=>decide (a.id<b.id)&&W_ (b ::l)
def uo (x:N_):Bool:=O5 x.group&&fG x.rc&&rU x.number&&rU x.time&&fieldsU x.fP&&decide (x.Qm.length≤20)&&((x.Qm.all fun t=>fieldsU t.fs)&&W_ x.Qm)
def pJ (p:fQ) (id:Nat) (tO:gy) (now:Int) (a:iH):Option (Bool×List bM):=match iR p a tO with
 | none=>none
 | some c=>if bg a &&decide (CV c = id) then some (eX a now,c.fs) else none
def Eo (p:fQ) (l:List iH) (id:Nat) (tO:gy) (now:Int):Option Xq:=
 match (l.filterMap (pJ p id tO now)).find? (·.1) with
 | some c=>some ⟨id,true,c.2⟩
 | none=>(l.filterMap (pJ p id tO now)).head?.map fun c=>⟨id,false,c.2⟩
def jY (fb:cu→Bool) (p:fQ) (rec:List UInt8) (g:ni) (l:List iH) (number now:Int):Option N_:=match dY p.receivers rec with
 | none=>none
 | some tO=>if fE fb p = 0 then
  (if uo ⟨rec,qI g.key,number,now,g.fP,g.ids.filterMap fun id=>Eo p l id tO now⟩ then some ⟨rec,qI g.key,number,now,g.fP,g.ids.filterMap fun id=>Eo p l id tO now⟩ else none) else none
structure A_ where
 place:Nat
 rc:List UInt8
 wait:Int
 every:Int
 again:Int
 jH:U5
 number:Nat
structure Eng where
 now:Int
 gs:List (List UInt8×A_)
def uX (p:fQ) (g:A_):Bool:=match p.routes[g.place]? with
 | none=>false
 | some r=>decide (r.r = g.rc)&&(decide (r.wait=g.wait)&&(decide (r.every=g.every)&&decide (r.again=g.again)))
def uD (gs:List (List UInt8×A_)) (k:List UInt8):Option A_:=(gs.find? fun x=>decide (x.1=k)).map (·.2)
def qJ (gs:List (List UInt8×A_)) (k:List UInt8) (g:A_):List (List UInt8×A_):=if (uD gs k).isSome then gs.map (fun x=>if x.1=k then (k,g) else x) else gs++[(k,g)]
def RU (p:fQ) (r:Nat):A_:=match p.routes[r]? with
 | none=>⟨r,[],0,0,0,Gu 0 0 0,0⟩
 | some x=>⟨r,x.r,x.wait,x.every,x.again,Gu x.wait x.every x.again,0⟩
structure alZ where
 gs:List (List UInt8×A_)
 asked:List (List UInt8)
 out:List N_
def XH (g:A_) (now:Int) (ids:List Nat):A_:={g with jH:=Eu g.jH now ids,number:=if Dk g.jH now ids then g.number+1 else g.number}
def KX (mk:ni→Int→Option N_) (p:fQ) (now:Int) (s:alZ) (x:ni):alZ:=
 ⟨qJ s.gs (dw x.route x.fP) (XH ((uD s.gs (dw x.route x.fP)).getD (RU p x.route)) now x.ids),
  s.asked++[dw x.route x.fP],
  if Dk ((uD s.gs (dw x.route x.fP)).getD (RU p x.route)).jH now x.ids then s.out++(mk x (((uD s.gs (dw x.route x.fP)).getD (RU p x.route)).number+1)).toList else s.out⟩
def GU (asked:List (List UInt8)) (now:Int) (x:List UInt8×A_):List UInt8×A_:=if x.1∈asked then x else (x.1,{x.2 with jH:=Eu x.2.jH now []})
def yZ (fb:cu→Bool) (p:fQ) (rec:List UInt8) (st:Eng) (now:Int):Int:=
 if now≤st.now∨now<0∨eY<now then 9 else if (dY p.receivers rec).isSome∧fE fb p = 0 then 0 else 5
def Dx (fb:cu→Bool) (ft:List bM→cu→Bool) (p:fQ) (rec:List UInt8) (st:Eng) (l:List iH) (q:n_) (now:Int):alZ:=
 (mZ fb ft p rec (IE fb ft p rec l q now) now).foldl (KX (fun x n=>jY fb p rec x (IE fb ft p rec l q now) n now) p now) ⟨st.gs.filter fun x=>uX p x.2,[],[]⟩
def jO (fb:cu→Bool) (ft:List bM→cu→Bool) (p:fQ) (rec:List UInt8) (st:Eng) (l:List iH) (q:n_) (now:Int):Eng×List N_:=
 if yZ fb p rec st now=0 then (⟨now,(Dx fb ft p rec st l q now).gs.map (GU (Dx fb ft p rec st l q now).asked now)⟩,(Dx fb ft p rec st l q now).out) else (st,[])
instance:DecidableEq iH:=fun a b=>by
 obtain⟨a1,a2,a3,a4,a5⟩:=a;obtain⟨b1,b2,b3,b4,b5⟩:=b;exact decidable_of_iff (a1=b1∧a2=b2∧a3=b3∧a4=b4∧a5=b5) σ
structure zO where
 k:Int
 a:iH
 s:Sil
 now:Int
deriving DecidableEq
def Ae:iH:=⟨[],[],⟨0,0⟩,0,0⟩
def vI:Sil:=⟨[],0,0,⟨0,0⟩⟩
def sD (p:fQ) (tO:gy) (e:zO):Option zO:=
 if e.k=0 then (iR p e.a tO).map fun c=>⟨0,c,vI,0⟩
 else if e.k=1 then (if eU e.s.l tO then some ⟨1,Ae,e.s,0⟩ else none)
 else if e.k=2 then some ⟨2,Ae,vI,e.now⟩ else none
def jv (p:fQ) (l:List zO) (tO:gy):List zO:=l.filterMap (sD p tO)
def wC (p:fQ) (a b:List zO) (tO:gy):Bool:=decide (jv p a tO=jv p b tO)
structure VSt where
 Dj:Eng
 told:List iH
 q:n_
 out:List N_
def eH (fb:cu→Bool) (ft:List bM→cu→Bool) (p:fQ) (rec:List UInt8) (st:VSt) (e:zO):VSt:=
 if e.k=0 then {st with told:=st.told++[e.a]}
 else if e.k=1 then {st with q:=J_ fb st.q e.s}
 else if e.k=2 then {st with Dj:=(jO fb ft p rec st.Dj st.told st.q e.now).1,out:=st.out++(jO fb ft p rec st.Dj st.told st.q e.now).2}
 else st
def aek:VSt:=⟨⟨-1,[]⟩,[],⟨[],0⟩,[]⟩
def jX (fb:cu→Bool) (ft:List bM→cu→Bool) (p:fQ) (rec:List UInt8) (l:List zO):VSt:=l.foldl (eH fb ft p rec) aek
def h_ (fb:cu→Bool) (ft:List bM→cu→Bool) (p:fQ) (rec:List UInt8) (l:List zO):List N_:=(jX fb ft p rec l).out
theorem RJ (p:fQ) (fs:List bM) (l tO:gy):jW p (jW p fs l tO) l tO=jW p fs l tO:=by
 unfold jW;rw[List.filter_filter];simp
theorem zF {p:fQ} {a c:iH} {tO:gy} (h:iR p a tO=some c):c = {a with fs:=jW p a.fs a.l tO}∧(jW p a.fs a.l tO).length≠0∧eU a.l tO=true:=by
 unfold iR at h;split at h
 ·cases h
 ·rename_i hn;injection h with h
  exact⟨h.symm,fun e=>hn (.inl e),by cases hf:eU a.l tO with | true=>rfl | false=>exact absurd (.inr hf) hn⟩
theorem vZ {p:fQ} {a c:iH} {tO:gy} (h:iR p a tO=some c):iR p c tO=some c:=by
 obtain⟨rfl,h1,h2⟩:=zF h;unfold iR;simp only[RJ];rw[if_neg (by rw[h2];simpa using h1)]
theorem acL {p:fQ} {e c:zO} {tO:gy} (h:sD p tO e = some c):sD p tO c = some c:=by
 unfold sD at h;split at h
 ·obtain⟨c',hc,rfl⟩:=Option.map_eq_some_iff.1 h;unfold sD;simp[vZ hc]
 ·split at h
  ·split at h
   ·rename_i hf;injection h with h;subst h
    unfold sD;simp[hf]
   ·cases h
  ·split at h
   ·injection h with h;subst h;unfold sD;simp
   ·cases h
theorem GZ (p:fQ) (tO:gy):∀l:List zO,jv p (jv p l tO) tO=jv p l tO
 | []=>rfl
 | e ::l=>by
  have ih:=GZ p tO l;unfold jv at *
  rw[List.filterMap_cons];cases h:sD p tO e with
  | none=>exact ih
  | some c=>rw[List.filterMap_cons,acL h];simp only[ih]
theorem agP (p:fQ) (tO:gy) (l:List zO) (e:zO):jv p (l ++[e]) tO=jv p l tO++(sD p tO e).toList:=by
 unfold jv;rw[List.filterMap_append];congr 1
theorem LZ:∀{a b c:List UInt8},gY a b = true→gY b c = true→gY a c = true
 | [],[],_,h,_=>by cases h
 | [],_ ::_,[],_,h=>by cases h
 | [],_ ::_,_ ::_,_,_=>rfl
 | _ ::_,[],_,h,_=>by cases h
 | _ ::_,_ ::_,[],_,h=>by cases h
 | a ::x,b ::y,c ::z,h1,h2=>by
  unfold gY at h1 h2 ⊢;by_cases hab:a = b
  ·subst hab;rw[if_pos rfl] at h1;by_cases hac:a = c
   ·subst hac;rw[if_pos rfl] at h2 ⊢;exact LZ h1 h2
   ·rw[if_neg hac] at h2 ⊢;exact h2
  ·rw[if_neg hab] at h1;by_cases hbc:b = c
   ·subst hbc;rw[if_neg hab];exact h1
   ·rw[if_neg hbc] at h2;simp only[decide_eq_true_eq] at h1 h2;have hac:a≠c:=fun e=>by subst e;omega
    rw[if_neg hac];simp only[decide_eq_true_eq];omega
theorem alN {a:bM} {l:List bM} (h:AY (a ::l)=true):∀x∈l,gY a.n x.n = true:=by
 induction l generalizing a with
 | nil=>intro x hx;cases hx
 | cons b r ih=>
  unfold AY at h;simp only[Bool.and_eq_true] at h;intro x hx;rcases List.mem_cons.1 hx with rfl | hx
  ·exact h.1
  ·exact LZ h.1 (ih h.2 x hx)
theorem alO {a:bM} {l:List bM} (h:AY l = true) (ha:∀x∈l,gY a.n x.n = true):AY (a ::l)=true:=by
 cases l with
 | nil=>rfl
 | cons b r=>unfold AY;simp only[Bool.and_eq_true];exact⟨ha b σ,h⟩
theorem alM {a:bM} {l:List bM} (h:AY (a ::l)=true):AY l = true:=by
 cases l with
 | nil=>rfl
 | cons b r=>unfold AY at h;simp only[Bool.and_eq_true] at h;exact h.2
theorem Qk (q:bM→Bool):∀l:List bM,AY l = true→AY (l.filter q)=true
 | [],_=>rfl
 | a ::l,h=>by
  have ih:=Qk q l (alM h);rw[List.filter_cons];split
  ·exact alO ih (fun x hx=>alN h x (List.mem_filter.1 hx).1)
  ·exact ih
theorem Td (q:bM→Bool) {l:List bM} (h:iL l = true):iL (l.filter q)=true:=by
 unfold iL at *
 simp only[Bool.and_eq_true,decide_eq_true_eq,List.all_eq_true] at h ⊢;exact⟨⟨fun f hf=>h.1.1 f (List.mem_filter.1 hf).1,Qk q l h.1.2⟩,Nat.le_trans (List.length_filter_le _ _) h.2⟩
theorem AV {p:fQ} {a c:iH} {tO:gy} (h:iR p a tO=some c) (ha:bg a = true):bg c = true:=by
 obtain⟨rfl,h1,h2⟩:=zF h;unfold bg at *
 simp only[Bool.and_eq_true,decide_eq_true_eq] at ha ⊢;obtain⟨⟨⟨⟨⟨b1,b2⟩,b3⟩,b4⟩,b5⟩,b6⟩:=ha;exact⟨⟨⟨⟨⟨b1,ω⟩,Td _ b3⟩,b4⟩,b5⟩,b6⟩
theorem G5 {p:fQ} {a c:iH} {tO:gy} (h:iR p a tO=some c) (now:Int):eX c now=eX a now:=by
 obtain⟨rfl,_,_⟩:=zF h;rfl
def Nb (p:fQ) (tO:gy):Bool:=p.jZ.all fun i=> !eU i.l tO
theorem afJ {p:fQ} {tO:gy} (h:Nb p tO=true) (ft:List bM→cu→Bool) (l:List iH) (id:Nat) (c:iH) (now:Int) (i:Nat):Ug ft p l id c tO now i = false:=by
 unfold Ug;cases hr:p.jZ[i]? with
 | none=>rfl
 | some r=>
  have:=List.all_eq_true.1 h r (List.mem_of_getElem? hr);simp only[Bool.not_eq_true'] at this;simp[this]
theorem aaX {fb:cu→Bool} {ft:List bM→cu→Bool} {p:fQ} {tO:gy} (h:Nb p tO=true) (l:List iH) (k:Nat) (now:Int):yC fb ft p l k tO now=[]:=by
 unfold yC;cases l[k]? with
 | none=>rfl
 | some a=>
  simp only;split
  ·split
   ·cases iR p a tO with
    | none=>rfl
    | some c=>
     simp only[List.filter_eq_nil_iff];intro i _;rw[afJ h];simp
   ·rfl
  ·rfl
theorem UJ {α:Type} (P:α→Bool):∀(l:List α) (d:Nat→Bool),(∀k a,l[k]? = some a→d k=P a)→((List.range l.length).filter d).filterMap (fun k=>l[k]?)=l.filter P
 | [],_,_=>rfl
 | x ::l,d,hd=>by
  have ih:=UJ P l (fun k=>d (k+1)) (fun k a h=>hd (k+1) a (by simpa using h));have h0:=hd 0 x rfl;have e:((List.map Nat.succ (List.range l.length)).filter d).filterMap (fun k=>(x ::l)[k]?)=l.filter P:=by
   rw[List.filter_map,List.filterMap_map];exact ih
  rw[List.length_cons,List.range_succ_eq_map,List.filter_cons,List.filter_cons,h0];cases hp:P x with
  | true=>simp only[if_true];rw[List.filterMap_cons,e];rfl
  | false=>simp only[Bool.false_eq_true,if_false];exact e
theorem PK {α β:Type} {f g:α→Option β}:∀{l:List α},(∀a∈l,f a = g a)→l.filterMap f = l.filterMap g
 | [],_=>rfl
 | a ::l,h=>by
  rw[List.filterMap_cons,List.filterMap_cons,h a List.mem_cons_self,PK (fun x hx=>h x (List.mem_cons_of_mem _ hx))]
def RQ (ft:List bM→cu→Bool) (p:fQ) (q:n_) (tO:gy) (now:Int) (a:iH):Bool:=zU p tO now a &&(vw ft p q a tO now).isEmpty
theorem OL {fb:cu→Bool} {ft:List bM→cu→Bool} {p:fQ} {rec:List UInt8} {tO:gy} (uO:fE fb p = 0) (oC:dY p.receivers rec=some tO) (h:Nb p tO=true) (l:List iH) (q:n_) (now:Int) :
 IE fb ft p rec l q now=l.filter (RQ ft p q tO now):=by
 unfold IE yS xQ xE;rw[oC];simp only[if_pos uO];rw[List.filter_filter,List.filter_filter];refine UJ (RQ ft p q tO now) l _ (fun k a hk=> ?_);simp only[hk,aaX h,List.isEmpty_nil,Gs,RQ];simp[Bool.and_comm]
def Tn (tO:gy) (q q':n_):Prop:=q'.l.map (·.2)=(q.l.map (·.2)).filter fun s=>eU s.l tO
theorem Yw (ft:List bM→cu→Bool) (tO:gy) (now:Int) (fs:List bM) (q:n_):(q.l.filter fun x=>tX ft tO now fs x.2).isEmpty= !((q.l.map (·.2)).any fun s=>tX ft tO now fs s):=by
 rw[List.any_map];induction q.l with
 | nil=>rfl
 | cons x r ih=>
  rw[List.filter_cons,List.any_cons];cases h:tX ft tO now fs x.2 with
  | true=>simp[h]
  | false=>simp[h,ih]
theorem ajO {ft:List bM→cu→Bool} {tO:gy} {q q':n_} (h:Tn tO q q') (now:Int) (fs:List bM):(q'.l.map (·.2)).any (fun s=>tX ft tO now fs s)=(q.l.map (·.2)).any fun s=>tX ft tO now fs s:=by
 unfold Tn at h;rw[h,List.any_filter];congr 1
 funext s
 unfold tX;cases eU s.l tO <;> rfl
theorem map_empty {α β:Type} (f:α→β) (l:List α):(l.map f).isEmpty=l.isEmpty:=by cases l <;> rfl
theorem aaW {ft:List bM→cu→Bool} {p:fQ} {tO:gy} {q q':n_} (h:Tn tO q q') {a c:iH} (hc:iR p a tO=some c) (now:Int):(vw ft p q' c tO now).isEmpty=(vw ft p q a tO now).isEmpty:=by
 unfold vw;rw[hc,vZ hc];simp only[map_empty];rw[Yw,Yw,ajO h]
theorem ai6 {ft:List bM→cu→Bool} {p:fQ} {tO:gy} {q q':n_} (h:Tn tO q q') {a c:iH} (ha:bg a = true) (hc:iR p a tO=some c) (now:Int):RQ ft p q' tO now c = RQ ft p q tO now a:=by
 unfold RQ zU;rw[aaW h hc,hc,vZ hc,ha,AV hc ha,G5 hc]
theorem afa {ft:List bM→cu→Bool} {p:fQ} {tO:gy} {q:n_} {a:iH} (hc:iR p a tO=none) (now:Int):RQ ft p q tO now a = false:=by
 unfold RQ zU;rw[hc];rfl
def ug (p:fQ) (tO:gy) (l:List iH):List iH:=l.filterMap fun a=>iR p a tO
theorem adh {ft:List bM→cu→Bool} {p:fQ} {tO:gy} {q q':n_} (h:Tn tO q q') (now:Int):∀(l:List iH),(∀a∈l,bg a = true)→(ug p tO l).filter (RQ ft p q' tO now)=ug p tO (l.filter (RQ ft p q tO now))
 | [],_=>rfl
 | a ::l,hl=>by
  have ih:=adh (ft:=ft) (p:=p) h now l (fun x hx=>hl x (List.mem_cons_of_mem _ hx));unfold ug at *
  rw[List.filterMap_cons];cases hc:iR p a tO with
  | none=>rw[List.filter_cons,afa hc];exact ih
  | some c=>
   rw[List.filter_cons,List.filter_cons,ai6 h (hl a List.mem_cons_self) hc];split
   ·rw[List.filterMap_cons,hc,ih]
   ·exact ih
theorem am3 {fb:cu→Bool} {tO:gy} {q q':n_} (h:Tn tO q q') (s:Sil):Tn tO (J_ fb q s) (if eU s.l tO then J_ fb q' s else q'):=by
 unfold Tn at *
 have arA:eU s.l tO=true→wo q' s.l = wo q s.l:=fun hf=>by
  have e:∀(z:n_),wo z s.l = ((z.l.map (·.2)).filter fun x=>decide (x.l = s.l)).length:=fun z=>by
   unfold wo;rw[List.filter_map,List.length_map];rfl
  rw[e,e,h,List.filter_filter];congr 1
  apply List.filter_congr;intro x _;by_cases hx:x.l = s.l
  ·simp[hx,hf]
  ·simp[hx]
 unfold J_;cases hf:eU s.l tO with
 | false=>
  simp only[Bool.false_eq_true,if_false];split
  ·split
   ·exact h
   ·rw[h];simp[hf]
  ·exact h
 | true=>
  simp only[if_true];rw[arA hf];split
  ·split
   ·exact h
   ·simp[h,hf]
  ·exact h
theorem acv {fb:cu→Bool} {ft:List bM→cu→Bool} {p:fQ} {rec:List UInt8} {tO:gy} (oC:dY p.receivers rec=some tO) {l:List iH} (hl:∀a∈l,bg a = true) (now:Int):mZ fb ft p rec (ug p tO l) now=mZ fb ft p rec l now:=by
 have hs:∀(l:List iH) (st:JJ),(∀a∈l,bg a = true)→(ug p tO l).foldl (iF ft p rec now) st=l.foldl (iF ft p rec now) st:=by
  intro l;induction l with
  | nil=>intro st _;rfl
  | cons a r ih=>
   intro st hl;have hr:=fun st=>ih st (fun x hx=>hl x (List.mem_cons_of_mem _ hx))
   unfold ug at *
   rw[List.filterMap_cons,List.foldl_cons];have ha:=hl a List.mem_cons_self;cases hc:iR p a tO with
   | none=>
    have e:iF ft p rec now st a = st:=by
     unfold iF kM;rw[oC];simp only;rw[hc];split <;> (rename_i h;split at h <;> first | rfl | (split at h <;> cases h) | cases h)
    rw[e];exact hr st
   | some c=>
    have e:iF ft p rec now st c = iF ft p rec now st a:=by
     unfold iF kM;rw[oC];simp only;rw[AV hc ha,ha,G5 hc,hc,vZ hc]
    simp only[List.foldl_cons,e];exact hr _
 unfold mZ mP;rw[hs l _ hl]
theorem ai_ {p:fQ} {tO:gy} {l:List iH} (hl:∀a∈l,bg a = true) (id:Nat) (now:Int):Eo p (ug p tO l) id tO now=Eo p l id tO now:=by
 have e:(ug p tO l).filterMap (pJ p id tO now)=l.filterMap (pJ p id tO now):=by
  unfold ug;rw[List.filterMap_filterMap];apply PK;intro a ha;cases hc:iR p a tO with
  | none=>unfold pJ;rw[hc];rfl
  | some c=>
   show pJ p id tO now c = _
   unfold pJ;rw[hc,vZ hc,hl a ha,AV hc (hl a ha),G5 hc]
 unfold Eo;rw[e]
theorem ajj {fb:cu→Bool} {p:fQ} {rec:List UInt8} {tO:gy} (oC:dY p.receivers rec=some tO) {l:List iH} (hl:∀a∈l,bg a = true) (g:ni) (n now:Int):jY fb p rec g (ug p tO l) n now=jY fb p rec g l n now:=by
 unfold jY;rw[oC];simp only[ai_ hl]
theorem aiF {fb:cu→Bool} {ft:List bM→cu→Bool} {p:fQ} {rec:List UInt8} {tO:gy} (uO:fE fb p = 0) (oC:dY p.receivers rec=some tO) (abX:Nb p tO=true) {l:List iH} (hl:∀a∈l,bg a = true) {q q':n_} (hq:Tn tO q q') (st:Eng) (now:Int) :
 jO fb ft p rec st (ug p tO l) q' now=jO fb ft p rec st l q now:=by
 have ho:IE fb ft p rec (ug p tO l) q' now=ug p tO (IE fb ft p rec l q now):=by
  rw[OL uO oC abX,OL uO oC abX,adh hq now l hl]
 have hr:∀a∈IE fb ft p rec l q now,bg a = true:=fun a ha=>by
  rw[OL uO oC abX] at ha;exact hl a (List.mem_filter.1 ha).1
 unfold jO Dx;rw[ho,acv oC hr];simp only[ajj oC hr]
theorem Gn {fb:cu→Bool} {ft:List bM→cu→Bool} {p:fQ} {rec:List UInt8} {tO:gy} (oC:dY p.receivers rec=some tO) (abX:Nb p tO=true) {l:List zO} (hl:∀e∈l,e.k=0→bg e.a = true):h_ fb ft p rec (jv p l tO)=h_ fb ft p rec l:=by
 by_cases uO:fE fb p = 0
 ·have key:∀(l:List zO) (st Xf:VSt),(∀e∈l,e.k=0→bg e.a = true)→(∀a∈st.told,bg a = true)→Xf.Dj=st.Dj→Xf.out=st.out→Xf.told=ug p tO st.told→Tn tO st.q Xf.q→
   ((jv p l tO).foldl (eH fb ft p rec) Xf).out=(l.foldl (eH fb ft p rec) st).out:=by
   intro l;induction l with
   | nil=>intro st Xf _ _ _ ho _ _;exact ho
   | cons e r ih=>
    intro st Xf hl ht he ho htl hq;have hlr:=fun x hx=>hl x (List.mem_cons_of_mem _ hx)
    unfold jv at *
    rw[List.filterMap_cons,List.foldl_cons];by_cases h0:e.k=0
    ·have hea:=hl e List.mem_cons_self h0;have hst:eH fb ft p rec st e = {st with told:=st.told++[e.a]}:=by unfold eH;rw[if_pos h0]
     rw[hst];have Sj:∀a∈st.told++[e.a],bg a = true:=fun a ha=>by
      rcases List.mem_append.1 ha with ha | ha
      ·exact ht a ha
      ·rw[List.mem_singleton.1 ha];exact hea
     cases hc:iR p e.a tO with
     | none=>
      have hce:sD p tO e = none:=by unfold sD;rw[if_pos h0,hc];rfl
      rw[hce];exact ih _ Xf hlr Sj he ho (by rw[htl];unfold ug;simp[hc]) hq
     | some c=>
      have hce:sD p tO e = some ⟨0,c,vI,0⟩:=by unfold sD;rw[if_pos h0,hc];rfl
      rw[hce];simp only[List.foldl_cons];exact ih _ _ hlr Sj he ho (by unfold eH;rw[if_pos rfl];show Xf.told++[c]=_;rw[htl];unfold ug;simp[hc]) hq
    ·by_cases h1:e.k=1
     ·have hst:eH fb ft p rec st e = {st with q:=J_ fb st.q e.s}:=by unfold eH;rw[if_neg h0,if_pos h1]
      rw[hst];have SC:=am3 (fb:=fb) hq e.s;cases hf:eU e.s.l tO with
      | false=>
       have hce:sD p tO e = none:=by unfold sD;rw[if_neg h0,if_pos h1,hf];rfl
       rw[hce];rw[hf] at SC;exact ih _ Xf hlr ht he ho htl SC
      | true=>
       have hce:sD p tO e = some ⟨1,Ae,e.s,0⟩:=by unfold sD;rw[if_neg h0,if_pos h1,hf];rfl
       rw[hce];rw[hf] at SC;simp only[List.foldl_cons];exact ih _ _ hlr ht he ho htl SC
     ·by_cases h2:e.k=2
      ·have hce:sD p tO e = some ⟨2,Ae,vI,e.now⟩:=by unfold sD;rw[if_neg h0,if_neg h1,if_pos h2]
       rw[hce];simp only[List.foldl_cons];have hs:=aiF (ft:=ft) uO oC abX ht hq st.Dj e.now;refine ih _ _ hlr ?_ ?_ ?_ ?_ ?_
       ·unfold eH;rw[if_neg h0,if_neg h1,if_pos h2];exact ht
       ·unfold eH;rw[if_neg h0,if_neg h1,if_pos h2];show (jO fb ft p rec Xf.Dj Xf.told Xf.q e.now).1=_;rw[he,htl,hs]
       ·unfold eH;rw[if_neg h0,if_neg h1,if_pos h2];show Xf.out++(jO fb ft p rec Xf.Dj Xf.told Xf.q e.now).2=_;rw[he,ho,htl,hs]
       ·unfold eH;rw[if_neg h0,if_neg h1,if_pos h2];exact htl
       ·unfold eH;rw[if_neg h0,if_neg h1,if_pos h2];exact hq
      ·have hce:sD p tO e = none:=by unfold sD;rw[if_neg h0,if_neg h1,if_neg h2]
       have hst:eH fb ft p rec st e = st:=by unfold eH;rw[if_neg h0,if_neg h1,if_neg h2]
       rw[hce,hst];exact ih _ Xf hlr ht he ho htl hq
  exact key l aek aek hl (fun a ha=>by cases ha) rfl rfl rfl rfl
 ·have hno:∀(l:List zO) (st:VSt),(l.foldl (eH fb ft p rec) st).out=st.out:=by
   intro l;induction l with
   | nil=>intro st;rfl
   | cons e r ih=>
    intro st;rw[List.foldl_cons,ih];unfold eH;split
    ·rfl
    ·split
     ·rfl
     ·split
      ·have hm:yZ fb p rec st.Dj e.now≠0:=by
        unfold yZ;split
        ·decide
        ·rw[if_neg (fun h=>uO h.2)];decide
       show st.out++(jO fb ft p rec st.Dj st.told st.q e.now).2=st.out
       unfold jO;rw[if_neg hm];simp
      ·rfl
  unfold h_ jX;rw[hno,hno]
end Go.Proofs.YtbhikkgpcmkonaaGreatDoor
