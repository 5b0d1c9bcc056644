/- Parts: GrpD FldE GrpE RliP ClkP EngP ViwP ELiP RLiA ELiA SilA -/
import Derived.Test.YtbhikkgpcmkonaaGreatDoorEn0
import Derived.Test.YtbhikkgpcmkonaaGreatDoorEn10
import Derived.Test.YtbhikkgpcmkonaaGreatDoorEn4
import Derived.Test.YtbhikkgpcmkonaaGreatDoorEn3
import Derived.Test.YtbhikkgpcmkonaaGreatDoorEn5
import Derived.Test.YtbhikkgpcmkonaaGreatDoorEn6
import Derived.Lib.ValidU
import Derived.Test.YtbhikkgpcmkonaaGreatDoorEn9
set_option maxRecDepth 100000
set_option maxHeartbeats 12800000
namespace Go.Proofs.YtbhikkgpcmkonaaGreatDoor
open Go.RowKit Go.Maps
def tZ:Code→List Code
 | .seq a b=>tZ a ++tZ b
 | .cond _ a b=>tZ a ++tZ b
 | .block _ c=>tZ c
 | .scope c=>tZ c
 | .loop c=> .loop c ::tZ c
 | _=>[]
def akC (f:Func) (n:Nat):Code:=((f.body.map tZ).getD []).getD n .skip
def bY (p:jo) (r:Nat):List (List UInt8):=((p.routes[r]?).map (·.eY)).getD []
theorem WC {p:aY} {r:Nat} {x:xY} (h:p.o[r]? = some x):bY p.aU r = x.r.eY:=by
 unfold bY;rw[show p.aU.routes=p.o.map (·.r) from rfl,List.getElem?_map,h];rfl
theorem Z4 {l:List bK} {n:List (List UInt8)}:(g_ l n).length≤l.length∧∀x∈g_ l n,x∈l:=⟨List.length_filter_le _ _,fun _ hx=>(List.mem_filter.1 hx).1⟩
theorem dW.cell {w:World} {b0 RB:Nat} {vs:List Value} {rs:List (List dA)} (h:dW w b0 RB vs rs) {r:Nat} {v:Value} (hv:vs[r]? = some v):w.cell? ⟨RB,r,none⟩=some v:=by
 simp only[World.cell?,h.row];simpa using hv
theorem Own.akE {α:Type} {w w':World} {b0 k m:Nat} {e:TypeId} {enc:α→List Value} {v:Value} {xs:List α} (h:Own w b0 e k enc v xs) (hg:w.grownBy w' (some m)) (hm:∀cur e fz,w.heap[m]?≠some (.cells cur e fz)):Own w' b0 e k enc v xs:=
 h.kept' hg (fun g iE hv=>by injection iE with iE;subst iE;obtain⟨cur,hc⟩:=bD h hv;exact hm _ _ _ hc)
theorem uZ {α:Type} {w:World} {b0 k:Nat} {e:TypeId} {enc:α→List Value} {v:Value} {xs:List α} (h:Own w b0 e k enc v xs) (h0:0<xs.length):∃gb cap,v =.slice (some ⟨gb,0,none⟩) xs.length cap:=by
 rcases h.2 with⟨_,h6⟩ | ⟨g,cap,_,h5,_⟩
 ·omega
 ·exact⟨g,cap,h5⟩
theorem Dl {α:Type} {l:List α} {i:Nat} {x:α} (h:l[i]? = some x):l.set i x = l:=by
 obtain⟨hi,rfl⟩:=List.getElem?_eq_some_iff.1 h;exact List.set_getElem_self hi
theorem Ko {α β:Type} {f:β→α→β} {l:List α} {k:Nat} {x:α} {b:β} (h:l[k]? = some x):(l.take (k+1)).foldl f b = f ((l.take k).foldl f b) x:=by
 rw[List.take_add_one,h,List.foldl_append];rfl
theorem aa6 {p:aY} {rec:List UInt8} {gc RB MB id j Fn fk cn ck:Nat} {fA cA:Option Addr} {cc:Array Value} {F:List Nat} {cf:List bK} {st:Gg} {vs:List Value} {rs:List (List dA)} {w0 wS:World} {Q0:Exit→Act→World→Prop} {x0 x2 x3 x5 x6 x7 x8 Ip BJ C9 Ac ER EP BH EO BG CZ CY CX Aa z_ zZ BF BD BA Bz Bv Bq Bo Bl Bj Bh Bg Bf EN CW CV CS CQ CP CO CJ CG CB Cm Cj Ci Ce Bd Cc Cb Gm Gl Gj Eu Et Es Ep Eo En Em Ej EL EK EJ Ei Eh Ef Ee Ed Ec Eb Ea D_ Hu Ht Hr EI D9 B_ BX BU BR BP IU IQ Gi Gh Jh Hq Ho qC qB qA qy qx qw qp qo qm qj qh qg rG qO Io Il Ik Ij Ii Ih Ig Ie Ic Ib Ia H_ H9 H8 H7 H6 HY Hz Hy EU ET ES:Value}
 (he:Hid (lT w0)) (hp:Hid (p.At w0)) (hE:Hid (Ro w0 p.cells.toArray gc cc (.slice fA Fn fk) F (.slice cA cn ck) cf wS)) (hcc:Hid (cc[1]? = some (.slice cA cn ck))) (hR:Hid (dW wS w0.heap.size RB vs rs)) (hM:Hid (gK Tryz.prog 9 3 wS MB st.place.length (kM st.place))) (XB:Hid (w0.heap.size≤RB)) (hMB:Hid (w0.heap.size≤MB)) (hI:Hid (jF p.om j st)) (hj:Hid (j≤24000)) (kX:Hid (rs.map (·.map dA.g)=st.aQ)) (hF:Hid ((∀r∈F,r < p.om)∧F.length≤12)) (Iu:Hid (rec.length≤1000)) (OH:Hid (cf.length≤8∧∀f∈cf,f.n.length+f.v.length≤1000)) (hom:p.om≤12)
 (YR:∀c a d v w,Q0 (.panic c) (Act.put a d v) w→Q0 (.panic c) a w)
 (pV:∀(u17 u18 u19 u20 u21 u22 u23 u24 u56 u57 u58 u59 u60 u61 u62 u63 u64 u65 u66 u67 u68 u69 u70 u71 u72 u73 u74 u75 u76 u77 u78 u79 u80 u81 u82 u83 u84 u85 u86 u87 u88 u89 u90 u91 u92 u93 u94 u95 u96 u97 u98 u99 PY PX PW PV PU PS PN PL PK PG PE PD Vw ac1 ac0 acZ acY acX acW acV acU acT acS acR acQ acP acO acN acM acL acK acJ acI:Value) (wr:World),(∃Vs rs',Hid (jF p.om (j + 2*F.length) (F.foldl (stepG rec id cf (bY p.aU)) st))∧Hid (rs'.map (·.map dA.g)=(F.foldl (stepG rec id cf (bY p.aU)) st).aQ)∧Hid (dW wr w0.heap.size RB Vs rs')∧Hid (gK Tryz.prog 9 3 wr MB (F.foldl (stepG rec id cf (bY p.aU)) st).place.length (kM (F.foldl (stepG rec id cf (bY p.aU)) st).place))∧Hid (aF wr w0.heap.size 50 p.cells.toArray)∧Hid (ah w0 wr))→Q0 (.exit 2) ⟨(x0::(.string ⟨rec.toArray⟩)::x2::x3::(.pointer (some ⟨w0.heap.size,0,none⟩))::x5::x6::x7::x8::(.slice (some ⟨RB,0,none⟩) p.om p.om)::(.map (some MB))::Ip::BJ::(.pointer (some ⟨gc,0,none⟩))::C9::(.int .u64 (id:Int))::Ac::u17::u18::u19::u20::u21::u22::u23::u24::Aa::z_::zZ::BF::BD::BA::Bz::Bv::Bq::Bo::Bl::Bj::Bh::Bg::Bf::EN::CW::CV::CS::CQ::CP::CO::CJ::CG::CB::Cm::Cj::Ci::Ce::(.slice fA Fn fk)::(.int .i64 (Fn:Int))::u56::u57::u58::u59::u60::u61::u62::u63::u64::u65::u66::u67::u68::u69::u70::u71::u72::u73::u74::u75::u76::u77::u78::u79::u80::u81::u82::u83::u84::u85::u86::u87::u88::u89::u90::u91::u92::u93::u94::u95::u96::u97::u98::u99::PY::PX::PW::PV::PU::PS::PN::PL::PK::PG::PE::PD::Vw::ac1::ac0::acZ::acY::acX::acW::acV::acU::acT::acS::acR::acQ::acP::acO::acN::acM::acL::acK::acJ::acI::EU::ET::ES::[]).toArray,[]⟩ wr) :
 Code.wp Tryz.prog (akC Tryz.f48 1) Q0 ⟨(x0::(.string ⟨rec.toArray⟩)::x2::x3::(.pointer (some ⟨w0.heap.size,0,none⟩))::x5::x6::x7::x8::(.slice (some ⟨RB,0,none⟩) p.om p.om)::(.map (some MB))::Ip::BJ::(.pointer (some ⟨gc,0,none⟩))::C9::(.int .u64 (id:Int))::Ac::ER::EP::BH::EO::BG::CZ::CY::CX::Aa::z_::zZ::BF::BD::BA::Bz::Bv::Bq::Bo::Bl::Bj::Bh::Bg::Bf::EN::CW::CV::CS::CQ::CP::CO::CJ::CG::CB::Cm::Cj::Ci::Ce::(.slice fA Fn fk)::(.int .i64 (Fn:Int))::(.int .i64 0)::Bd::Cc::Cb::Gm::Gl::Gj::Eu::Et::Es::Ep::Eo::En::Em::Ej::EL::EK::EJ::Ei::Eh::Ef::Ee::Ed::Ec::Eb::Ea::D_::Hu::Ht::Hr::EI::D9::B_::BX::BU::BR::BP::IU::IQ::Gi::Gh::Jh::Hq::Ho::qC::qB::qA::qy::qx::qw::qp::qo::qm::qj::qh::qg::rG::qO::Io::Il::Ik::Ij::Ii::Ih::Ig::Ie::Ic::Ib::Ia::H_::H9::H8::H7::H6::HY::Hz::Hy::EU::ET::ES::[]).toArray,[]⟩ wS:=by
 conv=>arg 2;whnf
 go_loopw [17,18,19,20,21,22,23,24,56] (fun _ _ _ _ _ _ _ _ i wr=>∃(q:Nat) (sq:Gg) (Vs:List Value) (rs':List (List dA)),q≤Fn∧i =.int .i64 q∧Hid (sq=(F.take q).foldl (stepG rec id cf (bY p.aU)) st)∧Hid (jF p.om (j + 2*q) sq)∧Hid (rs'.map (·.map dA.g)=sq.aQ)∧Hid (dW wr w0.heap.size RB Vs rs')∧Hid (gK Tryz.prog 9 3 wr MB sq.place.length (kM sq.place))∧Hid (Ro w0 p.cells.toArray gc cc (.slice fA Fn fk) F (.slice cA cn ck) cf wr)) (fun _ _ _ _ _ _ _ _ i _=>Fn-(intOf i).toNat)
 case atStart=>exact⟨0,st,vs,rs,ω,rfl,rfl,hI,kX,hR,hM,hE⟩
 case round=>
  have hFl:Hid (F.length=Fn):=ζ (by obtain⟨A,c,hv,_⟩:=hE.o.F.arr Xt;injection hv with _ h _;exact h.symm);clear hE hR hM kX hI;obtain⟨q,sq,Vs,rs',hq,rfl,fU,hI,kX,hR,hM,hE⟩:=hrel;by_cases hqF:q<Fn
  ·obtain⟨A0,c0,hv0,_,_,QT⟩:=hE.o.F.arr Xt;simp only[Value.slice.injEq] at hv0;obtain⟨rfl,hl0,rfl⟩:=hv0;rw[←hl0] at QT;obtain⟨bb,off,r,rfl,GK,hx,hcell⟩:=QT.at_ hqF;have f0:wr.cell? ⟨bb,off+q,none⟩=some (.int .i64 (r:Int)):=by simpa using hcell 0 _ rfl
   have hqi:(q:Int)<(Fn:Int):=ω;have asQ:=ζ hE.o.G.size;have awL:Fn≤12:=by have:=hF.o.2;have:=hFl.o;omega
   have hrm:=hF.o.1 r (List.mem_of_getElem? hx);obtain⟨b2,o2,x,hoA,hs2,hxo,aeA⟩:=(hp.o.o.keep hE.o.G).at_ hrm;have r1:wr.cell? ⟨b2,o2+r * 6+1,none⟩=some (.slice x.bA x.bm x.bk):=aeA 1 _ rfl;have p4:=hE.o.B.c4;have pz:=hE.o.B.lt;have k1:wr.cell? ⟨gc,1,none⟩=some (.slice cA cn ck):=(hE.o.C.cell 1).trans hcc.o;have kz:=hE.o.C.lt;rw[hoA] at p4;have as5:(r:Int)<(p.om:Int):=ω;have nP:=Ko (f:=stepG rec id cf (bY p.aU)) (b:=st) hx;rw[←fU.o] at nP;have hnm:=WC hxo;have hxb:=(hp.o.oAt x (List.mem_of_getElem? hxo));obtain⟨A3,c3,hv3,_,_,hA3⟩:=hE.o.f.arr GN;simp only[Value.slice.injEq] at hv3;obtain⟨rfl,hl3,rfl⟩:=hv3;rw[←hl3] at hA3;have cP:=fun (W:World) (hW:ah wr W)=>adw (c:=ck) (c2:=x.bk) W (hA3.keep hW) (by have:=OH.o.1;omega) (hxb.eY.keep (hE.o.G.trans hW)) hxb.abL
   rw[←hnm] at cP;replace cP:=ζ cP;replace nP:=ζ nP;clear hcell aeA QT hA3 hxb hxo hnm hoA hl3 hl0;go_wp2;refine bV (μ (.range 10) [8]) κ κ rfl κ π ?_;iterate 8 refine fE ?_
   refine iV rfl (fun K' hK=> ?_);go_simp;refine (cP.out _ ((ah.refl wr).drew)).mono ?_;rintro e w1 ⟨vb,rfl,hOb,hb1⟩;replace hb1:ah wr w1:=((ah.refl wr).drew).trans hb1;replace hOb:Own w1 wr.heap.size 88 2 eu vb (g_ cf (bY p.aU r)):=hOb;replace hOb:=ζ hOb;refine hK.o _ _ ?_ (fun hS=> ?_)
   ·exact hb1
   clear hK hS;iterate 1 refine fE ?_
   refine fJ ?_;clear cP f0 r1 p4 pz k1 kz;have wV:=Z4 (l:=cf) (n:=bY p.aU r);generalize alv:g_ cf (bY p.aU r)=bf at *
   replace alv:=ζ alv;obtain⟨bA,bk,rfl,_,_,TQ⟩:=hOb.o.arr GN;have hbl:bf.length≤8:=by have:=OH.o.1;omega
   have hbf:∀f∈bf,f.n.length+f.v.length≤1000:=fun f hf=>OH.o.2 f (wV.2 f hf)
   replace hE:=ζ (hE.o.grows hb1);replace hR:=ζ (hR.o.grows hb1);replace hM:=ζ (hM.o.grows hb1);have cW:=Zl (r:=r) (c:=bk) w1 (he.o.grows hE.o.G) ω TQ ω hbf;have cY:=fun (W:World) (hW:ah w1 W)=>YC (R:=rec) (a:=(r:Int)) (c:=bk) W (TQ.keep hW) Iu.o ω hbf
   have hwl:=vX (r:=r) ω bf hbf;generalize hws:cZ r bf=ws at *
   generalize hky:iW (sha (fF rec r bf)) 8=ky at *
   replace cW:=ζ cW;replace cY:=ζ cY;clear hb1 wV TQ;go_wp2_with fail;refine (cW.out).mono ?_;rintro e w2 ⟨rfl,hb2⟩;replace hOb:=ζ (hOb.o.grows hb2);replace hE:=ζ (hE.o.grows hb2);replace hR:=ζ (hR.o.grows hb2);replace hM:=ζ (hM.o.grows hb2);replace cY:=ζ (fun W (hW:ah w2 W)=>cY.out W (hb2.trans hW));clear cW hb2;have hlk:=fun y hy=>gK.adK (t:=188) hM.o Tryz.underlying9 Tryz.underlying188 Tryz.underlying3 κ (s:=ws) (by unfold maxLen;omega) (x:=y) hy
   rw[Gx] at hlk;have hstep:stepG rec id cf (bY p.aU) sq r = match t_ sq.place ws with
    | some k=>{sq with aQ:=lF sq.aQ r k id}
    | none=>match sq.aQ[r]? with
     | some gs=>{aQ:=lF (sq.aQ.set r (gs++[⟨r,bf,ky,[]⟩])) r gs.length id,place:=sq.place++[(ws,gs.length)]}
     | none=>sq:=by
    unfold stepG Fq;rw[alv.o,hws,hky];rfl
   have oC:r < rs'.length:=by have:=hI.o.len;rw[←kX.o,List.length_map] at this;omega
   obtain⟨gr,hgr⟩:∃gr,rs'[r]? = some gr:=⟨_,List.getElem?_eq_getElem oC⟩;obtain⟨v,hv⟩:∃v,Vs[r]? = some v:=⟨_,List.getElem?_eq_getElem (by rw[hR.o.len];exact oC)⟩;have TI:sq.aQ[r]? = some (gr.map dA.g):=by rw[←kX.o,List.getElem?_map,hgr];rfl
   have hIN:Hid (jF p.om (j + 2*(q+1)) (stepG rec id cf (bY p.aU) sq r)):=ζ (hI.o.step rec id cf (bY p.aU) r);cases hlp:t_ sq.place ws with
   | some k=>
    rw[hlp] at hlk hstep;have ak5:=hlk (k:Int) rfl;simp only at hstep;have hkg:k<gr.length:=by have:=hI.o.pl _ _ (Fh hlp) r bf _ hws TI;simpa using this
    obtain⟨gb,cap,hvf⟩:=uZ (hR.o.own r v gr hv hgr) ω;generalize hnn:gr.length=n at *
    subst hvf;obtain⟨xg,Xf⟩:∃xg,gr[k]? = some xg:=⟨_,List.getElem?_eq_getElem ω⟩;have Iz:Hid (stepG rec id cf (bY p.aU) sq r = ⟨lF sq.aQ r k id,sq.place⟩):=ζ hstep;obtain⟨kT,hkT⟩:∃kT,kT=k:=⟨_,rfl⟩;obtain⟨wT,hwT⟩:∃wT,wT=w2:=⟨_,rfl⟩;obtain⟨vsT,asJ⟩:∃vsT,vsT=Vs:=⟨_,rfl⟩;obtain⟨rsT,aoD⟩:∃rsT,rsT=rs':=⟨_,rfl⟩;obtain⟨gsT,atD⟩:∃gsT,gsT=gr:=⟨_,rfl⟩;obtain⟨rP,ahy⟩:∃rP,rP=sq.aQ:=⟨_,rfl⟩;subst hkT hwT asJ aoD atD;have hjT:Hid (j + 2*q≤30000):=ζ (by have:=hj.o;have:=hFl.o;have:=hF.o.2;omega);have XA:=hR;have hvT:=hv;have Dw:=hgr;have hET:=hE;have hMT:=hM;have hIT:Hid (jF p.om (j + 2*q) ⟨rP,sq.place⟩):=ζ (by rw[ahy];exact hI.o);have JW:Hid (rsT.map (·.map dA.g)=rP):=ζ (by rw[ahy];exact kX.o);rw[←ahy] at Iz;clear hlk hstep hkg hR hv hgr hE hM hI kX TI ahy hlp oC cY hbl hbf hwl hws hky hOb hnn;have TW:=XA.o.own r _ gsT hvT Dw;have hnl:=TW.len YL;have hkn:kT<n:=by have:=(List.getElem?_eq_some_iff.1 Xf).1;omega
    obtain⟨xq,hxq,hcx,hfx⟩:=TW.at_ YL hkn;obtain rfl:xq=xg:=Option.some.inj (hxq.symm.trans Xf);have g3:wT.cell? ⟨gb,kT*4+3,none⟩=some (.slice xq.iA xq.im xq.ik):=hcx 3 _ rfl;have gl:=World.block_lt_of_cell? wT _ g3;simp only at gl;have rc:=XA.o.cell hvT;have rl:=XA.o.lt;have att:(kT:Int)<((n:Nat):Int):=ω;have NG:=XA.o.ids r gsT kT xq Dw Xf;have Aw:rP[r]? = some (gsT.map dA.g):=by rw[←JW.o,List.getElem?_map,Dw];rfl
    have Ar:(gsT.map dA.g)[kT]? = some xq.g:=by rw[List.getElem?_map,Xf];rfl
    have hSi:iL xq.ids:=hIT.o.RZ r _ kT _ Aw Ar;have OG:xq.ids.length≤100000:=by have:=hIT.o.mi r _ kT _ Aw Ar;have:=hjT.o;exact Nat.le_trans ‹_› ω
    obtain⟨_,_,hvi,_,_,hAi⟩:=NG.arr KZ;simp only[dA.iv,Value.slice.injEq] at hvi;obtain⟨e1,e2,e3⟩:=hvi;rw[←e2] at hAi;rw[←e1] at hAi;have NT:=G_ (c:=xq.ik) (t:=id) wT hAi (by rw[e2];omega) hSi;have Nh:=Dp xq.ids id;have kY:(id∈xq.ids)∨¬(id∈xq.ids):=Classical.em _;replace e2:=ζ e2;clear hcx hxq hAi e1 e3;rcases kY with kY | kY
    ·rw[decide_eq_true kY] at NT;have Xm:(rsT.map (·.map dA.g))=(stepG rec id cf (bY p.aU) sq r).aQ:=by
      rw[Iz.o,JW.o];show _ = lF rP r kT id
      rw[sJ Aw Ar,show ({xq.g with ids:=jl xq.g.ids id}:kS)=xq.g by
       have:jl xq.g.ids id=xq.g.ids:=if_pos kY;rw[this],Dl Ar,Dl Aw]
     have Xq:gK Tryz.prog 9 3 wT MB (stepG rec id cf (bY p.aU) sq r).place.length (kM (stepG rec id cf (bY p.aU) sq r).place):=by rw[Iz.o];exact hMT.o
     replace NT:=ζ NT;replace Xm:=ζ Xm;replace Xq:=ζ Xq;generalize og xq.ids id=PO at *
     clear NG TW hSi Aw Ar kY Iz hMT JW hIT Dw Xf hvT hfx;go_wp2_with fail;refine (NT.out).mono ?_;rintro e w5 ⟨rfl,hw5⟩;rw[hw5];clear hw5 w5 NT;go_wp2;go_roundw
     case rel=>exact⟨q+1,_,vsT,rsT,ω,ν,ζ nP.o.symm,hIN,Xm,XA,Xq,hET⟩
     case measure=>exact ψ
    ·rw[decide_eq_false kY] at NT;have hsz:=hET.o.G.size;have hWI:ah wT (wT.alloc (.cells #[.int .u64 (id:Int)] 33)):=(ah.refl wT).alloc _;have cIn:=JO (c:=1) (i:=og xq.ids id) (h:=wT.heap.size) (t:=id) (wT.alloc (.cells #[.int .u64 (id:Int)] 33)) (NG.alloc _) (by simp;omega) Nh ω (heap_alloc_new wT _) (fun j hj=>by have:=Jz NG hj;omega);have hpl:=qZ (t:=id) Nh;have QD:jl xq.ids id=putAt xq.ids (og xq.ids id) id:=if_neg kY;replace NT:=ζ NT;replace cIn:=ζ cIn;replace QD:=ζ QD;replace hpl:=ζ hpl;replace NG:=ζ NG;replace TW:=ζ TW;replace hWI:=ζ hWI;generalize og xq.ids id=PO at *
     generalize putAt xq.ids PO id=PI at *
     clear hSi kY hfx;go_wp2_with fail;refine (NT.out).mono ?_;rintro e w5 ⟨rfl,hw5⟩;rw[hw5];clear hw5 w5 NT;go_wp2_with fail;refine (cIn.out).mono ?_;rintro e w6 ⟨v6,rfl,uF,xX,hv6⟩;obtain⟨A6,c6,rfl,_,_,_⟩:=uF.arr KZ;have QG:=(TW.o.alloc (.cells #[.int .u64 (id:Int)] 33)).kept' xX (fun g iE hv2=>by obtain⟨cur,hc⟩:=bD (NG.o.alloc (.cells #[.int .u64 (id:Int)] 33)) iE;exact aV (TW.o.alloc (.cells #[.int .u64 (id:Int)] 33)) hc δ hv2);obtain⟨xr,hxr,hcr,xW⟩:=QG.at_ YL hkn;obtain rfl:xr=xq:=Option.some.inj (hxr.symm.trans Xf);have g6:w6.cell? ⟨gb,kT*4+3,none⟩=some (.slice xr.iA xr.im xr.ik):=hcr 3 _ rfl;have gf6:=xW (kT*4+3);have gl6:=World.block_lt_of_cell? w6 _ g6;simp only at gl6;have hR7:=dW.upd (x':=⟨xr.r,xr.key,xr.eY,xr.bA,xr.bm,xr.bk,PI,A6,PI.length,c6⟩) (XA.o.grows hWI.o) hvT Dw Xf uF xX hv6 ⟨rfl,rfl⟩ rfl;have Xm:((rsT.set r (gsT.set kT ⟨xr.r,xr.key,xr.eY,xr.bA,xr.bm,xr.bk,PI,A6,PI.length,c6⟩)).map (·.map dA.g))=(stepG rec id cf (bY p.aU) sq r).aQ:=by
      rw[Iz.o];show _ = lF rP r kT id
      rw[sJ Aw Ar,show jl xr.g.ids id=PI from QD.o,List.map_set,JW.o,List.map_set];rfl
     have Tt:∀j,Value.ownBlock xr.iv=some j→jM (wT.alloc (.cells #[.int .u64 (id:Int)] 33)) w0.heap.size j:=jM.yE (NG.o.alloc (.cells #[.int .u64 (id:Int)] 33)) (Nat.le_refl _) (.inr rfl);have aG:=aj w6 ⟨gb,kT*4+3,none⟩ (.slice A6 PI.length c6);obtain⟨alZ,FP⟩:=bD QG (g:=gb) rfl;have OJ:=((hET.o.grows hWI.o).row xX Tt).row aG (jM.yE QG (Nat.le_refl _) (.inl rfl));have hM7:=((hMT.o.grows hWI.o).adR (NG.o.alloc (.cells #[.int .u64 (id:Int)] 33)) xX).yM aG FP;have Xq:gK Tryz.prog 9 3 (w6.setCell ⟨gb,kT*4+3,none⟩ (.slice A6 PI.length c6)) MB (stepG rec id cf (bY p.aU) sq r).place.length (kM (stepG rec id cf (bY p.aU) sq r).place):=by rw[Iz.o];exact hM7
     replace hR7:=ζ hR7;replace OJ:=ζ OJ;replace Xq:=ζ Xq;replace Xm:=ζ Xm;clear hM7 aG FP Tt QG uF xX hv6 hcr hxr xW NG TW Aw Ar Iz hMT JW hIT XA hET hWI cIn QD;generalize hPL:PI.length=PLn at *
     go_wp2;go_roundw
     case rel=>exact⟨q+1,_,vsT,_,ω,ν,ζ nP.o.symm,hIN,Xm,hR7,Xq,OJ⟩
     case measure=>exact ψ
   | none=>
    rw[hlp,TI] at hstep;rw[hlp] at hlk;have ak5:=hlk 0 rfl;simp only[List.length_map] at hstep;have aeP:=hR.o.own r v gr hv hgr;obtain⟨vA,vc,rfl,hvn,hvm,_⟩:=aeP.arr YL;have hOr:=ζ aeP;have apP:some RB≠(Value.slice vA gr.length vc).ownBlock:=fun e=>aV aeP hR.o.row δ e.symm
    have zQ:Hid (∀j,(Value.slice vA gr.length vc).ownBlock=some j→w0.heap.size≤j):=ζ (fun j hj=>aeP.fH j hj);have rc:=hR.o.cell hv;have rl:=hR.o.lt;have ahz:(r:Int)<(p.om:Int):=as5;have Az:gr.length≤30000:=by have:=hI.o.mr r _ TI;rw[List.length_map] at this;have:=hj.o;omega
    have hpl:sq.place.length≤30000:=by have:=hI.o.mp;have:=hj.o;omega
    have hIP:=ζ (jF.push (aQ:=sq.aQ) (place:=sq.place) hI.o (fs:=bf) (key:=ky) TI);rw[hws] at hIP;generalize hnn:gr.length=n at *
    replace hnn:=ζ hnn;replace hlp:=ζ hlp;replace hstep:=ζ hstep;replace TI:=ζ TI;replace hws:=ζ hws;replace hky:=ζ hky;replace hv:=ζ hv;replace hgr:=ζ hgr;replace hwl:=ζ hwl;replace hbf:=ζ hbf;clear hlk aeP cY;have aov:ws.length≤maxLen:=by have:=hwl.o;unfold maxLen;omega
    have hwf:(Lit.int .i64 (n:Int)).wf=true:=WalkArith.wf_i64 ω;go_wp2_with (at_mapUpdate;refine tN hM.o rfl _ _ _ rfl Tryz.underlying9 Tryz.underlying188 (by unfold maxLen;omega) ws aov (.int .i64 (n:Int)) (.int .i64 (n:Int)) rfl rfl rfl (plainElem_int Tryz.underlying3 hwf) ?_;intro w3 hM3 kZ);have akT:=jM.of_map hM.o hMB.o;have hRn:=ζ (hR.o.other kZ hM.o.bg);have hEn:=ζ (hE.o.row kZ akT);have YT:=ζ (hOb.o.yM kZ akT δ δ δ);have hMn:Hid (gK Tryz.prog 9 3 w3 MB (sq.place.length+1) (kM (sq.place++[(ws,n)]))):=ζ (by rw[SB];exact hM3);have FT:=ζ (hOr.o.akE kZ hM.o.bg);clear kZ hM3 akT hOr ak5 hR hE hM hOb rc rl;have rc:=hRn.o.cell hv.o;have rl:=hRn.o.lt;generalize hrow:(Value.slice vA n vc).ownBlock=row at *
    replace hrow:=ζ hrow;have cY3:=ζ (fun (W:World) (hW:w3.grownBy W row)=>by
     have hrr:∀j,row=some j→jM w3 w0.heap.size j:=fun j hj=>jM.yE FT.o (Nat.le_refl _) (.inl rfl) j (by rw[hrow.o,hj])
     have:=YT.o.yM hW hrr δ δ δ;obtain⟨A9,c9,hv9,_,_,hA9⟩:=this.arr GN;simp only[Value.slice.injEq] at hv9;obtain⟨rfl,_,rfl⟩:=hv9;have:=YC (R:=rec) (a:=(r:Int)) (c:=bk) W hA9 Iu.o ω hbf.o;rw[hky.o] at this;exact this)
    refine iI (row) κ ?_;refine rK (up:=iJ) (.range 13) 4 ?_;iterate 11 refine fK ?_
    refine bQ (.int .u64 (ky:Int)) rfl χ (fun wq fU=> ?_) ?_
    ·obtain⟨rC,qE⟩:=Q8 fU;go_simp;exact Calls.mono (cY3.out wq fU) (fun e w'' h=>h)
    go_simp;iterate 1 refine fK ?_
    refine aB ?_;refine aK [13] κ σ (fun wN hN hS=>(ay.cons rfl (fun K' hK=> ?_) ay.nil));try replace hRn:=ζ (hRn.o.grows hN)
    try replace hEn:=ζ (hEn.o.grows hN)
    try replace YT:=ζ (YT.o.grows hN)
    try replace hMn:=ζ (hMn.o.grows hN)
    try replace FT:=ζ (FT.o.grows hN)
    try replace gQ:=ζ (gQ.o.grows hN)
    try replace kF:=ζ (kF.o.grows hN)
    try replace jf:=ζ (dD jf.o hN)
    clear hN;go_simp;refine hK.o _ _ ?_ (fun hS=> ?_)
    ·exact dD (by assumption) ((ah.refl _).alloc _)
    have gQ:=ζ (aF.new wN 125 #[.int .i64 (r:Int),.slice bA bf.length bk,.int .u64 (ky:Int),.slice none 0 0]);have dw:ah wN (wN.alloc (.cells #[.int .i64 (r:Int),.slice bA bf.length bk,.int .u64 (ky:Int),.slice none 0 0] 125)):=(ah.refl _).alloc _;replace hRn:=ζ (hRn.o.grows dw);replace hEn:=ζ (hEn.o.grows dw);replace YT:=ζ (YT.o.grows dw);replace hMn:=ζ (hMn.o.grows dw);replace FT:=ζ (FT.o.grows dw);clear dw;clear hK hS;refine aK [14] κ σ (fun wN hN hS=>(ay.cons rfl (fun K' hK=> ?_) ay.nil));try replace hRn:=ζ (hRn.o.grows hN)
    try replace hEn:=ζ (hEn.o.grows hN)
    try replace YT:=ζ (YT.o.grows hN)
    try replace hMn:=ζ (hMn.o.grows hN)
    try replace FT:=ζ (FT.o.grows hN)
    try replace gQ:=ζ (gQ.o.grows hN)
    try replace kF:=ζ (kF.o.grows hN)
    try replace jf:=ζ (dD jf.o hN)
    clear hN;have zI:=hEn.o.G.size;refine Own.grown (x:=(⟨r,ky,bf,bA,bf.length,bk,[],none,0,0⟩:dA)) amd rfl (.tmp 93) (.tmp 101) rfl FT.o rfl ⟨_,0,none⟩ rfl (YL _) (lJ gQ.o) (aoh _) zI (by unfold maxLen;rw[hnn.o];omega) (by rw[hnn.o];omega) (fun v4 w4 kF jf hv4=> ?_);rw[hrow.o] at jf;have hrr:=fun j hj=>jM.yE FT.o (Nat.le_refl _) (.inl rfl) j (by rw[hrow.o];exact hj)
    have hRA:=hRn;have apU:=YT;replace hEn:=ζ (hEn.o.row jf hrr);replace hMn:=ζ (hMn.o.adR FT.o (by rw[hrow.o];exact jf));obtain⟨gb,cap,Nc⟩:=uZ kF σ;rw[List.length_append,hnn.o] at Nc;simp only[List.length_cons,List.length_nil,Nat.zero_add] at Nc;subst Nc;replace kF:=ζ kF;replace hv4:=ζ hv4;clear hrr zI FT gQ hRn YT;go_simp;refine hK.o _ _ ?_ (fun hS=> ?_)
    ·exact World.grownBy.trans (by assumption) jf
    replace jf:=ζ jf;clear hK hS;refine rK (up:=iJ) [15] 1 ?_;iterate 1 refine fK ?_
    refine aB ?_;refine eF (i:=16) rfl κ κ (fun wN hN hS K' hK=> ?_);try replace hRn:=ζ (hRn.o.grows hN)
    try replace hEn:=ζ (hEn.o.grows hN)
    try replace YT:=ζ (YT.o.grows hN)
    try replace hMn:=ζ (hMn.o.grows hN)
    try replace FT:=ζ (FT.o.grows hN)
    try replace gQ:=ζ (gQ.o.grows hN)
    try replace kF:=ζ (kF.o.grows hN)
    try replace jf:=ζ (dD jf.o hN)
    clear hS;have VG:=(jf.o.block RB hRA.o.lt apP).trans hRA.o.row;have rcN:wN.cell? ⟨RB,r,none⟩=some (.slice vA n vc):=by simp only[World.cell?,VG];simpa using hv.o
    have rfN:wN.frozen? ⟨RB,r,none⟩=false:=by simp[World.frozen?,VG]
    have VZ:=World.block_lt_of_cell? wN _ rcN;simp only at VZ;go_simp;refine hK.o _ _ ?_;clear hK;have aed:=aj wN ⟨RB,r,none⟩ (.slice (some ⟨gb,0,none⟩) (n + 1) cap);have aoF:∀j,some RB=some j→jM wN w0.heap.size j:=fun j hj=>by
     injection hj with hj;subst hj
     exact⟨XB.o,fun cur e fz hc=>by rw[VG] at hc;simp only[Option.some.injEq,Obj.cells.injEq] at hc;exact .inr (.inr hc.2.1.symm)⟩
    have XA:=ζ (dW.push hRA.o hv.o hgr.o (x:=(⟨r,ky,bf,bA,bf.length,bk,[],none,0,0⟩:dA)) kF.o (by rw[hrow.o];exact jf.o) (hv4.o.imp (fun h=>h) (fun h=>⟨_,h,Nat.le_refl _⟩)) ⟨rfl,rfl⟩ (apU.o.bH asQ.o));have hET:=ζ (hEn.o.row aed aoF);have hMT:=ζ (hMn.o.yM aed VG);have Iz:Hid (stepG rec id cf (bY p.aU) sq r = ⟨lF (sq.aQ.set r (gr.map dA.g ++[⟨r,bf,ky,[]⟩])) r n id,sq.place++[(ws,n)]⟩):=hstep;have hIT:=hIP;rw[List.length_map,hnn.o] at hIT;have aoE:=oC;obtain⟨kT,hkT⟩:∃kT,kT=n:=⟨_,rfl⟩;subst hkT;have hlv:r < Vs.length:=by rw[←(show Vs.length=Vs.length from rfl)];exact (List.getElem?_eq_some_iff.1 hv.o).1
    have hvT:(Vs.set r (.slice (some ⟨gb,0,none⟩) (kT+1) cap))[r]? = some (.slice (some ⟨gb,0,none⟩) (kT+1) cap):=List.getElem?_set_self hlv;have Dw:(rs'.set r (gr++[(⟨r,ky,bf,bA,bf.length,bk,[],none,0,0⟩:dA)]))[r]? = some (gr++[(⟨r,ky,bf,bA,bf.length,bk,[],none,0,0⟩:dA)]):=List.getElem?_set_self oC;have Xf:(gr++[(⟨r,ky,bf,bA,bf.length,bk,[],none,0,0⟩:dA)])[kT]? = some ⟨r,ky,bf,bA,bf.length,bk,[],none,0,0⟩:=by rw[←hnn.o];simp
    have JW:Hid ((rs'.set r (gr++[(⟨r,ky,bf,bA,bf.length,bk,[],none,0,0⟩:dA)])).map (·.map dA.g)=sq.aQ.set r (gr.map dA.g ++[⟨r,bf,ky,[]⟩])):=ζ (by rw[List.map_set,kX.o,List.map_append];rfl);have hjT:Hid (j + 2*q+1≤30000):=ζ (by have:=hj.o;omega);have apY:Hid (gK Tryz.prog 9 3 (wN.setCell ⟨RB,r,none⟩ (.slice (some ⟨gb,0,none⟩) (kT+1) cap)) MB (sq.place++[(ws,kT)]).length (kM (sq.place++[(ws,kT)]))):=ζ (by rw[List.length_append];exact hMT.o);clear hMT;have hMT:=apY;have avW:kT≤30000:=Az;clear apY aed aoF hRA kF jf hv4 apU hEn hMn VG rcN rfN VZ hstep hIP hI kX TI hws hky hlp hv hgr hrow apP zQ hwl hbf aov hwf hnn rc rl hlv hN cY3 Az hpl hbl aoE;generalize rs'.set r (gr++[(⟨r,ky,bf,bA,bf.length,bk,[],none,0,0⟩:dA)])=rsT at *
    generalize gr++[(⟨r,ky,bf,bA,bf.length,bk,[],none,0,0⟩:dA)]=gsT at *
    generalize Vs.set r (.slice (some ⟨gb,0,none⟩) (kT+1) cap)=vsT at *
    generalize sq.aQ.set r (gr.map dA.g ++[⟨r,bf,ky,[]⟩])=rP at *
    generalize wN.setCell ⟨RB,r,none⟩ (.slice (some ⟨gb,0,none⟩) (kT+1) cap)=wT at *
    generalize (⟨r,ky,bf,bA,bf.length,bk,[],none,0,0⟩:dA)=xg at *
    have TW:=XA.o.own r _ gsT hvT Dw;have hnl:=TW.len YL;have hkn:kT<(kT+1):=by have:=(List.getElem?_eq_some_iff.1 Xf).1;omega
    obtain⟨xq,hxq,hcx,hfx⟩:=TW.at_ YL hkn;obtain rfl:xq=xg:=Option.some.inj (hxq.symm.trans Xf);have g3:wT.cell? ⟨gb,kT*4+3,none⟩=some (.slice xq.iA xq.im xq.ik):=hcx 3 _ rfl;have gl:=World.block_lt_of_cell? wT _ g3;simp only at gl;have rc:=XA.o.cell hvT;have rl:=XA.o.lt;have att:(kT:Int)<(((kT+1):Nat):Int):=ω;have NG:=XA.o.ids r gsT kT xq Dw Xf;have Aw:rP[r]? = some (gsT.map dA.g):=by rw[←JW.o,List.getElem?_map,Dw];rfl
    have Ar:(gsT.map dA.g)[kT]? = some xq.g:=by rw[List.getElem?_map,Xf];rfl
    have hSi:iL xq.ids:=hIT.o.RZ r _ kT _ Aw Ar;have OG:xq.ids.length≤100000:=by have:=hIT.o.mi r _ kT _ Aw Ar;have:=hjT.o;exact Nat.le_trans ‹_› ω
    obtain⟨_,_,hvi,_,_,hAi⟩:=NG.arr KZ;simp only[dA.iv,Value.slice.injEq] at hvi;obtain⟨e1,e2,e3⟩:=hvi;rw[←e2] at hAi;rw[←e1] at hAi;have NT:=G_ (c:=xq.ik) (t:=id) wT hAi (by rw[e2];omega) hSi;have Nh:=Dp xq.ids id;have kY:(id∈xq.ids)∨¬(id∈xq.ids):=Classical.em _;replace e2:=ζ e2;clear hcx hxq hAi e1 e3;rcases kY with kY | kY
    ·rw[decide_eq_true kY] at NT;have Xm:(rsT.map (·.map dA.g))=(stepG rec id cf (bY p.aU) sq r).aQ:=by
      rw[Iz.o,JW.o];show _ = lF rP r kT id
      rw[sJ Aw Ar,show ({xq.g with ids:=jl xq.g.ids id}:kS)=xq.g by
       have:jl xq.g.ids id=xq.g.ids:=if_pos kY;rw[this],Dl Ar,Dl Aw]
     have Xq:gK Tryz.prog 9 3 wT MB (stepG rec id cf (bY p.aU) sq r).place.length (kM (stepG rec id cf (bY p.aU) sq r).place):=by rw[Iz.o];exact hMT.o
     replace NT:=ζ NT;replace Xm:=ζ Xm;replace Xq:=ζ Xq;generalize og xq.ids id=PO at *
     clear NG TW hSi Aw Ar kY Iz hMT JW hIT Dw Xf hvT hfx;go_wp2_with fail;refine (NT.out).mono ?_;rintro e w5 ⟨rfl,hw5⟩;rw[hw5];clear hw5 w5 NT;go_wp2;go_roundw
     case rel=>exact⟨q+1,_,vsT,rsT,ω,ν,ζ nP.o.symm,hIN,Xm,XA,Xq,hET⟩
     case measure=>exact ψ
    ·rw[decide_eq_false kY] at NT;have hsz:=hET.o.G.size;have hWI:ah wT (wT.alloc (.cells #[.int .u64 (id:Int)] 33)):=(ah.refl wT).alloc _;have cIn:=JO (c:=1) (i:=og xq.ids id) (h:=wT.heap.size) (t:=id) (wT.alloc (.cells #[.int .u64 (id:Int)] 33)) (NG.alloc _) (by simp;omega) Nh ω (heap_alloc_new wT _) (fun j hj=>by have:=Jz NG hj;omega);have hpl:=qZ (t:=id) Nh;have QD:jl xq.ids id=putAt xq.ids (og xq.ids id) id:=if_neg kY;replace NT:=ζ NT;replace cIn:=ζ cIn;replace QD:=ζ QD;replace hpl:=ζ hpl;replace NG:=ζ NG;replace TW:=ζ TW;replace hWI:=ζ hWI;generalize og xq.ids id=PO at *
     generalize putAt xq.ids PO id=PI at *
     clear hSi kY hfx;go_wp2_with fail;refine (NT.out).mono ?_;rintro e w5 ⟨rfl,hw5⟩;rw[hw5];clear hw5 w5 NT;go_wp2_with fail;refine (cIn.out).mono ?_;rintro e w6 ⟨v6,rfl,uF,xX,hv6⟩;obtain⟨A6,c6,rfl,_,_,_⟩:=uF.arr KZ;have QG:=(TW.o.alloc (.cells #[.int .u64 (id:Int)] 33)).kept' xX (fun g iE hv2=>by obtain⟨cur,hc⟩:=bD (NG.o.alloc (.cells #[.int .u64 (id:Int)] 33)) iE;exact aV (TW.o.alloc (.cells #[.int .u64 (id:Int)] 33)) hc δ hv2);obtain⟨xr,hxr,hcr,xW⟩:=QG.at_ YL hkn;obtain rfl:xr=xq:=Option.some.inj (hxr.symm.trans Xf);have g6:w6.cell? ⟨gb,kT*4+3,none⟩=some (.slice xr.iA xr.im xr.ik):=hcr 3 _ rfl;have gf6:=xW (kT*4+3);have gl6:=World.block_lt_of_cell? w6 _ g6;simp only at gl6;have hR7:=dW.upd (x':=⟨xr.r,xr.key,xr.eY,xr.bA,xr.bm,xr.bk,PI,A6,PI.length,c6⟩) (XA.o.grows hWI.o) hvT Dw Xf uF xX hv6 ⟨rfl,rfl⟩ rfl;have Xm:((rsT.set r (gsT.set kT ⟨xr.r,xr.key,xr.eY,xr.bA,xr.bm,xr.bk,PI,A6,PI.length,c6⟩)).map (·.map dA.g))=(stepG rec id cf (bY p.aU) sq r).aQ:=by
      rw[Iz.o];show _ = lF rP r kT id
      rw[sJ Aw Ar,show jl xr.g.ids id=PI from QD.o,List.map_set,JW.o,List.map_set];rfl
     have Tt:∀j,Value.ownBlock xr.iv=some j→jM (wT.alloc (.cells #[.int .u64 (id:Int)] 33)) w0.heap.size j:=jM.yE (NG.o.alloc (.cells #[.int .u64 (id:Int)] 33)) (Nat.le_refl _) (.inr rfl);have aG:=aj w6 ⟨gb,kT*4+3,none⟩ (.slice A6 PI.length c6);obtain⟨alZ,FP⟩:=bD QG (g:=gb) rfl;have OJ:=((hET.o.grows hWI.o).row xX Tt).row aG (jM.yE QG (Nat.le_refl _) (.inl rfl));have hM7:=((hMT.o.grows hWI.o).adR (NG.o.alloc (.cells #[.int .u64 (id:Int)] 33)) xX).yM aG FP;have Xq:gK Tryz.prog 9 3 (w6.setCell ⟨gb,kT*4+3,none⟩ (.slice A6 PI.length c6)) MB (stepG rec id cf (bY p.aU) sq r).place.length (kM (stepG rec id cf (bY p.aU) sq r).place):=by rw[Iz.o];exact hM7
     replace hR7:=ζ hR7;replace OJ:=ζ OJ;replace Xq:=ζ Xq;replace Xm:=ζ Xm;clear hM7 aG FP Tt QG uF xX hv6 hcr hxr xW NG TW Aw Ar Iz hMT JW hIT XA hET hWI cIn QD;generalize hPL:PI.length=PLn at *
     go_wp2;go_roundw
     case rel=>exact⟨q+1,_,vsT,_,ω,ν,ζ nP.o.symm,hIN,Xm,hR7,Xq,OJ⟩
     case measure=>exact ψ
  ·obtain rfl:q=Fn:=ω;have aoz:=fU.o;rw[List.take_of_length_le (by rw[hFl.o];exact Nat.le_refl _)] at aoz;subst aoz;rw[←hFl.o] at hI;have hB:=ζ hE.o.B;have hG:=ζ hE.o.G;clear fU hE;go_wp2;first
    | exact⟨Vs,rs',hI,kX,hR,hM,hB,hG⟩
    | exact pV _ _ _ _ _ _ _ _ _ _ _ _ _ _ _ _ _ _ _ _ _ _ _ _ _ _ _ _ _ _ _ _ _ _ _ _ _ _ _ _ _ _ _ _ _ _ _ _ _ _ _ _ _ _ _ _ _ _ _ _ _ _ _ _ _ _ _ _ _ _ _ _ _ _ _ _ _ _ _ _ _ _ _ _ _ _ ⟨Vs,rs',hI,kX,hR,hM,hB,hG⟩
end Go.Proofs.YtbhikkgpcmkonaaGreatDoor
namespace Go.Proofs.YtbhikkgpcmkonaaGreatDoor
open Go.RowKit
theorem DT {l:List bK} (h:iw l = true):l.length≤8∧∀f∈l,fP f.n = true∧f.v.length≤200:=by
 unfold iw at h;simp only[Bool.and_eq_true,decide_eq_true_eq,List.all_eq_true] at h;exact⟨h.2,fun f hf=>h.1.1 f hf⟩
theorem vw {n:List UInt8} (h:fP n = true):1≤n.length∧n.length≤12:=by
 unfold fP at h;simp only[Bool.and_eq_true,decide_eq_true_eq] at h;omega
end Go.Proofs.YtbhikkgpcmkonaaGreatDoor
namespace Go.Proofs.YtbhikkgpcmkonaaGreatDoor
open Go.RowKit Go.Maps
def jk (ft:List bK→d_→Bool) (p:jo) (rec:List UInt8) (now:Int) (st:Gg) (a:jq):Gg:=match jP p rec a now with
 | none=>st
 | some c=>(sF ft p rec c.fs).foldl (stepG rec (yg c) c.fs (bY p)) st
def lu (ft:List bK→d_→Bool) (p:jo) (rec:List UInt8) (l:List jq) (now:Int):Gg:=l.foldl (jk ft p rec now) ⟨List.replicate p.routes.length [],[]⟩
def qX (fb:d_→Bool) (ft:List bK→d_→Bool) (p:jo) (rec:List UInt8) (l:List jq) (now:Int):List kS:=if fQ fb p = 0 then (lu ft p rec l now).aQ.flatten else []
def Rn (w:World) (b0:Nat) (gs:List dA):Prop:=∀x∈gs,Own w b0 33 1 jC x.iv x.ids∧Own w b0 88 2 eu x.bv x.eY
theorem D6 {fb:d_→Bool} {p:jo} (h:fQ fb p = 0):Oq p = false∧abM fb p = false:=by
 unfold fQ at h;split at h
 ·cases h
 ·split at h
  ·cases h
  ·rename_i h1 h2;exact⟨by simpa using h1,by simpa using h2⟩
theorem JG {p:jo} (h:Oq p = false):p.routes.length≤12∧p.pO.length≤12:=by
 unfold Oq at h;simp only[Bool.or_eq_false_iff,decide_eq_false_iff_not] at h;omega
theorem abm {l:List xZ} {n:List UInt8} {y:jU} (h:dY l n = some y):∃x∈l,x.n = n∧x.l = y:=by
 unfold dY at h;obtain⟨x,hx,rfl⟩:=Option.map_eq_some_iff.1 h;exact⟨x,List.mem_of_find?_eq_some hx,by simpa using List.find?_some hx,rfl⟩
theorem X_ {fb:d_→Bool} {p:jo} (h:abM fb p = false):mQ p.receivers=true:=by
 unfold abM Dq at h;simp only[List.any_cons,List.any_nil,Bool.or_eq_false_iff,Bool.not_eq_false'] at h;exact h.1.2.1
theorem ZB {fb:d_→Bool} {p:jo} {rec:List UInt8} {a c:jq} {now:Int} (zH:fQ fb p = 0) (h:jP p rec a now=some c) :
 rec.length≤12∧c.src.length≤12∧c.fs.length≤8∧∀f∈c.fs,f.n.length+f.v.length≤1000:=by
 unfold jP at h;cases hf:dY p.receivers rec with
 | none=>rw[hf] at h;cases h
 | some tO=>
  rw[hf] at h;simp only at h;obtain⟨x,hx,hxn,_⟩:=abm hf;have hn:=X_ (D6 zH).2;unfold mQ at hn;simp only[Bool.and_eq_true] at hn;have hxo:=List.all_eq_true.1 hn.1 x hx;unfold Ak at hxo;simp only[Bool.and_eq_true] at hxo;have oC:=vw hxo.1;rw[hxn] at oC;split at h
  ·rename_i hb;simp only[Bool.and_eq_true] at hb;have hab:=hb.1;unfold bJ at hab;simp only[Bool.and_eq_true] at hab;have xR:=vw hab.1.1.1.1.1;have Ez:=DT hab.1.1.1.2;unfold kC at h;split at h
   ·cases h
   ·injection h with h
    subst h;refine⟨ω,xR.2,?_,fun f hf=> ?_⟩
    ·have:=mG p a.fs a.l tO;have:=Ez.1;simp only;omega
    ·have hfm:=(List.mem_filter.1 hf).1;have:=Ez.2 f hfm;have:=vw this.1;have:=(Ez.2 f hfm).2;omega
  ·cases h
theorem abf {ft:List bK→d_→Bool} {p:jo} {rec:List UInt8} {fs:List bK}:(∀r∈sF ft p rec fs,r < p.routes.length)∧(sF ft p rec fs).length≤p.routes.length:=
 ⟨fun r hr=>by
  unfold sF kP at hr;have:=(List.mem_filter.1 hr).1;simpa using this,Kq _ _ _ _ _⟩
def OQ (v:Value) (gs:List dA):Gsl:=match v with
 | .slice A n c=>⟨A,n,c,gs⟩
 | _=>⟨none,0,0,gs⟩
theorem UC:∀(vs:List Value) (rs:List (List dA)),vs.length=rs.length→tH (List.zipWith OQ vs rs)=rs.flatten
 | [],[],_=>rfl
 | v ::vs,gs::rs,h=>by
  have ih:=UC vs rs (by simpa using h);have hx:(OQ v gs).xs=gs:=by unfold OQ;split <;> rfl
  unfold tH at ih ⊢;rw[List.zipWith_cons_cons,List.flatMap_cons,ih,hx,List.flatten_cons]
 | [],_ ::_,h=>by simp at h
 | _ ::_,[],h=>by simp at h
theorem adn {w:World} {b0 RB:Nat} {vs:List Value} {rs:List (List dA)} (h:dW w b0 RB vs rs):∃bs,cu w 1 YZ (some ⟨RB,0,none⟩) rs.length bs∧(∀b∈bs,cu w 4 QZ b.A b.n b.xs)∧tH bs=rs.flatten:=by
 have hz:(List.zipWith OQ vs rs).length=rs.length:=by rw[List.length_zipWith,h.len,Nat.min_self]
 have key:∀(i:Nat) (b:Gsl),(List.zipWith OQ vs rs)[i]? = some b→∃A n c gs,vs[i]? = some (.slice A n c)∧b = ⟨A,n,c,gs⟩∧cu w 4 QZ A n gs:=fun i b hb=>by
  have hi:i < rs.length:=by have:=(List.getElem?_eq_some_iff.1 hb).1;rw[hz] at this;exact this
  have h1:vs[i]? = some (vs[i]'(by rw[h.len];exact hi)):=List.getElem?_eq_getElem _;have h2:rs[i]? = some rs[i]:=List.getElem?_eq_getElem hi;obtain⟨A,c,hv,_,_,ha⟩:=(h.own i _ _ h1 h2).arr YL;rw[List.getElem?_zipWith,h1,h2] at hb;simp only[Option.some.injEq] at hb;rw[hv] at h1 hb;exact⟨A,_,c,rs[i],h1,hb.symm,ha⟩
 refine⟨List.zipWith OQ vs rs,⟨hz,fun _=>⟨RB,0,rfl,h.lt,fun i hi j u hu=> ?_⟩⟩,fun b hb=> ?_,UC vs rs h.len⟩
 ·obtain⟨A,n,c,gs,h1,h2,_⟩:=key i _ (List.getElem?_eq_getElem hi);rw[h2] at hu;have hj:j = 0:=by have:=(List.getElem?_eq_some_iff.1 hu).1;simp[YZ] at this;omega
  subst hj;simp only[YZ,List.getElem?_cons_zero,Option.some.injEq] at hu;subst hu;simpa using h.cell h1
 ·obtain⟨i,hi⟩:=List.getElem?_of_mem hb;obtain⟨A,n,c,gs,_,h2,h3⟩:=key i b hi;subst h2;exact h3
theorem G5 {α:Type} {B:Nat}:∀l:List (List α),(∀x∈l,x.length≤B)→l.flatten.length≤l.length*B
 | [],_=>by simp
 | x ::l,h=>by
  have:=G5 l (fun y hy=>h y (by simp[hy]));have:=h x σ;simp only[List.flatten_cons,List.length_append,List.length_cons,Nat.add_mul];omega
theorem XL {fb:d_→Bool} {ft:List bK→d_→Bool} {p:aY} {rec:List UInt8} {lA:Option Addr} {lm lk:Nat} {xs:List dH} {now:Int} (w:World) (he:lT w) (hp:p.At w) (nN:jc fb p) (TJ:D8 ft p)
 (hA:cu w 6 sG lA lm xs) (hat:∀a∈xs,a.At w) (Iw:lm≤1000) :
 Calls Tryz.prog 48 #[p.val,.string ⟨rec.toArray⟩,.slice lA lm lk,.int .i64 now] w fun e w'=>∃v gs,e =.returned v∧IJ w' w.heap.size v gs∧Rn w' w.heap.size gs∧gs.map dA.g = qX fb ft p.aU rec (xs.map (·.a)) now∧ah w w':=by
 have cK:=fun W (hW:ah w W)=>vN W (hp.keep hW) nN
 have hGL:qX fb ft p.aU rec (xs.map (·.a)) now=if fQ fb p.aU=0 then (lu ft p.aU rec (xs.map (·.a)) now).aQ.flatten else []:=rfl
 generalize qX fb ft p.aU rec (xs.map (·.a)) now=GL at *
 by_cases zH:fQ fb p.aU=0
 ·rw[zH] at cK;rw[if_pos zH] at hGL;have hom:p.om≤12:=by have:=(JG (D6 zH).1).1;rw[show p.aU.routes=p.o.map (·.r) from rfl,List.length_map,hp.o.1] at this;exact this
  have oC:p.aU.routes.length=p.om:=by rw[show p.aU.routes=p.o.map (·.r) from rfl,List.length_map,hp.o.1]
  have cS:=fun (a:dH) (ha:a∈xs) W (hW:ah w W)=>ade (rec:=rec) (now:=now) W (hp.keep hW) ((hat a ha).keep hW)
  have cF:=fun (c:dH) W (hW:ah w W) (hcA:cu W 2 eu c.A c.m c.a.fs) (hcm:c.m≤9223372036854775807) (hT:∀f∈c.a.fs,f.v.length≤1000000)=>afa (rec:=rec) (a:=c) W (hp.keep hW) hcA hcm hT ω TJ
  have nM:=hA.1;have hmk:=run_make_row' (P:=Tryz.prog) 187 137 (.slice none 0 0) 24 Tryz.underlying187 κ rfl .i64 .i64 p.om ω ω;have hmm:= @run_makeMap Tryz.prog;have aec:lu ft p.aU rec (xs.map (·.a)) now=(xs.map (·.a)).foldl (jk ft p.aU rec now) ⟨List.replicate p.om [],[]⟩:=by
   unfold lu;rw[oC]
  unfold aY.val at cK cS cF ⊢;replace cK:=ζ (fun W=>cK W);replace cS:=ζ cS;replace cF:=ζ cF;replace hA:=ζ hA;replace he:=ζ he;replace hp:=ζ hp;replace hGL:=ζ hGL;replace aec:=ζ aec;replace nM:=ζ nM;replace zH:=ζ zH;replace oC:=ζ oC;replace hat:=ζ hat;clear nN;go_enter Tryz.func48,Tryz.ntmps48
  go_wp2_with fail;refine (cK.out _ γ).mono ?_;rintro e w1 ⟨rfl,hb1⟩;have ug:Hid (aF w1 w.heap.size 50 p.cells.toArray):=ζ ((aF.new w _ _).grows hb1);have gu:Hid (ah w w1):=ζ (((ah.refl w).alloc _).trans hb1);have q4:=ug.o.c4;have qz:=ug.o.lt;clear cK hb1;go_wp2;clear hmk hmm;have XB:(((w1.alloc (.cells (madeCells #[.slice none 0 0] p.om) 137)).alloc (.map #[] 0))).heap[w1.heap.size]? = some (.cells (madeCells #[.slice none 0 0] p.om) 137 (0,0)):=by
   rw[heap_alloc_old _ _ σ];exact heap_alloc_new w1 _
  have Xi:=ζ gu.o.size;replace XB:=ζ XB;go_loopw [12,13,14,15,17,18,19,20,21,22,23,24,35,54,55,56] (fun _ _ _ _ _ _ _ _ _ _ _ _ i _ _ _ wr=>∃(k:Nat) (st:Gg) (vs:List Value) (rs:List (List dA)),k≤lm∧i =.int .i64 k∧Hid (st=((xs.map (·.a)).take k).foldl (jk ft p.aU rec now) ⟨List.replicate p.om [],[]⟩)∧Hid (jF p.om (24*k) st)∧Hid (rs.map (·.map dA.g)=st.aQ)∧
   Hid (dW wr w.heap.size w1.heap.size vs rs)∧Hid (gK Tryz.prog 9 3 wr (w1.heap.size+1) st.place.length (kM st.place))∧Hid (aF wr w.heap.size 50 p.cells.toArray)∧Hid (ah w wr)) (fun _ _ _ _ _ _ _ _ _ _ _ _ i _ _ _ _=>lm-(intOf i).toNat)
  case atStart=>
   refine⟨0,_,_,_,ω,rfl,rfl,jF.start _,?_,dW.start XB.o,?_,(ug.o.alloc _).alloc _,(gu.o.alloc _).alloc _⟩
   ·show _ = _;simp
   ·have:=gK.made (w1.alloc (.cells (madeCells #[.slice none 0 0] p.om) 137)) Tryz.prog 9 3;show gK _ _ _ _ _ _ _
    simpa[kM] using this
  case round=>
   clear XB ug gu q4 qz;obtain⟨k,st,vs,rs,hk,rfl,hst,hI,kX,hR,hM,hB,hG⟩:=hrel;by_cases yR:k<lm
   ·obtain⟨bb,off,x,rfl,GK,hx,hcell⟩:=(hA.o.keep hG.o).at_ yR;have c0:wr.cell? ⟨bb,off+k*6,none⟩=some (.string ⟨x.a.src.toArray⟩):=hcell 0 _ rfl;have c1:wr.cell? ⟨bb,off+k*6+1,none⟩=some (.slice x.A x.m x.k):=hcell 1 _ rfl;have c2:wr.cell? ⟨bb,off+k*6+2,none⟩=some (.int .i64 x.a.l.lv):=hcell 2 _ rfl;have c3:wr.cell? ⟨bb,off+k*6+3,none⟩=some (.int .u32 (x.a.l.c:Int)):=hcell 3 _ rfl;have c4:wr.cell? ⟨bb,off+k*6+4,none⟩=some (.int .i64 x.a.f):=hcell 4 _ rfl;have c5:wr.cell? ⟨bb,off+k*6+5,none⟩=some (.int .i64 x.a.t):=hcell 5 _ rfl;have lK:(k:Int)<(lm:Int):=ω;have yN:=List.mem_of_getElem? hx;have hxa:(xs.map (·.a))[k]? = some x.a:=by rw[List.getElem?_map,hx];rfl
    have nP:=Ko (f:=jk ft p.aU rec now) (b:=(⟨List.replicate p.om [],[]⟩:Gg)) hxa;rw[←hst.o] at nP;have hag:jk ft p.aU rec now st x.a = match jP p.aU rec x.a now with
     | none=>st
     | some c=>(sF ft p.aU rec c.fs).foldl (stepG rec (yg c) c.fs (bY p.aU)) st:=rfl
    have aes:=fun c=>ZB (c:=c) (rec:=rec) (a:=x.a) (now:=now) zH.o
    have cX:=cS.out x yN;unfold iT at cX;generalize jP p.aU rec x.a now=S at *
    replace cX:=ζ cX;replace nP:=ζ nP;replace aes:=ζ aes;replace hag:=ζ hag;clear hcell hx yN hxa hst;have p0:=hB.o.cell 0;have p1:=hB.o.cell 1;have p2:=hB.o.cell 2;have p3:=hB.o.cell 3;have p4:=hB.o.cell 4;have p5:=hB.o.cell 5;have pz:=hB.o.lt;unfold aY.cells at p0 p1 p2 p3 p4 p5;simp only[List.getElem?_toArray,List.getElem?_cons_zero,List.getElem?_cons_succ] at p0 p1 p2 p3 p4 p5;go_wp2_with fail;refine (cX.out _ (by
     have hG:=hG.o;exact γ
    )).mono ?_
    rintro e w2 ⟨v,rfl,hv,hb2⟩;have fG:=ζ ((hG.o.alloc (.cells #[.string ⟨x.a.src.toArray⟩,.slice x.A x.m x.k,.int .i64 x.a.l.lv,.int .u32 (x.a.l.c:Int),.int .i64 x.a.f,.int .i64 x.a.t] 57)).trans hb2);have hgr:=((ah.refl wr).alloc (.cells #[.string ⟨x.a.src.toArray⟩,.slice x.A x.m x.k,.int .i64 x.a.l.lv,.int .u32 (x.a.l.c:Int),.int .i64 x.a.f,.int .i64 x.a.t] 57)).trans hb2;replace hR:=ζ (hR.o.grows hgr);replace hM:=ζ (hM.o.grows hgr);replace hB:=ζ (hB.o.grows hgr);have akO:=hG.o.size;clear cX p0 p1 p2 p3 p4 p5 pz c0 c1 c2 c3 c4 c5 hG;cases S with
    | none=>
     have TV:=hag.o;simp only at TV;obtain rfl:v = jv:=hv;unfold jv;clear hag aes hgr hb2;have Fz:Hid (st=((xs.map (·.a)).take (k+1)).foldl (jk ft p.aU rec now) ⟨List.replicate p.om [],[]⟩):=ζ (by rw[nP.o,TV]);have hI2:=ζ (hI.o.mono (show 24*k≤24*(k+1) by omega));have hW:ah w2 (w2.alloc (.cells #[.string ⟨#[]⟩,.slice none 0 0,.int .i64 0,.int .u32 0,.int .i64 0,.int .i64 0] 57)):=(ah.refl w2).alloc _;go_wp2;go_roundw
     case rel=>exact⟨k+1,st,vs,rs,ω,ν,Fz,hI2,kX,hR.o.grows hW,hM.o.grows hW,hB.o.grows hW,fG.o.trans hW⟩
     case measure=>exact ψ
    | some c=>
     have TV:=ζ hag.o;have hi:=aes.o c rfl;obtain⟨A',c',rfl,hO⟩:=hv;have l9:=hO.bH (base':=w.heap.size) (by simp;omega);unfold iT;have rZ:=hi.2.2.1;obtain⟨DZ,Jc,⟨Y1,clc⟩,cf0,ct0⟩:=c;simp only at l9 TV hi rZ ⊢;obtain⟨_,_,hvv,_,_,hA2⟩:=l9.arr GN;simp only[Value.slice.injEq] at hvv;obtain⟨rfl,_,rfl⟩:=hvv;clear hag aes hO hgr hb2;have hW:ah w2 (w2.alloc (.cells #[.string ⟨DZ.toArray⟩,.slice A' Jc.length c',.int .i64 Y1,.int .u32 (clc:Int),.int .i64 cf0,.int .i64 ct0] 57)):=(ah.refl w2).alloc _;have hC:=ζ (aF.new w2 57 #[.string ⟨DZ.toArray⟩,.slice A' Jc.length c',.int .i64 Y1,.int .u32 (clc:Int),.int .i64 cf0,.int .i64 ct0]);have cI:=Qo (a:=⟨⟨DZ,Jc,⟨Y1,clc⟩,cf0,ct0⟩,A',Jc.length,c'⟩) _ (hA2.keep hW) (by simp only;omega) (by simp only;omega) hi.2.2.2;have cG:=fun W (hX:ah w2 W)=>cF.out ⟨⟨DZ,Jc,⟨Y1,clc⟩,cf0,ct0⟩,A',Jc.length,c'⟩ W (fG.o.trans hX) (hA2.keep hX) (by simp only;omega) (fun f hf=>by have:=hi.2.2.2 f hf;omega)
     unfold iT at cI cG;simp only at cI cG;have hfm:=abf (ft:=ft) (p:=p.aU) (rec:=rec) (fs:=Jc);rw[oC.o] at hfm;generalize yg ⟨DZ,Jc,⟨Y1,clc⟩,cf0,ct0⟩=id at *
     generalize sF ft p.aU rec Jc=F at *
     replace cI:=ζ cI;replace cG:=ζ cG;replace hfm:=ζ hfm;replace hR:=ζ (hR.o.grows hW);replace hM:=ζ (hM.o.grows hW);replace hB:=ζ (hB.o.grows hW);replace l9:=ζ (l9.grows hW);have qW:=ζ (fG.o.trans hW);replace hW:=ζ hW;have OH:=ζ (show Jc.length≤8∧∀f∈Jc,f.n.length+f.v.length≤1000 from ⟨rZ,hi.2.2.2⟩);have Iu:=ζ (show rec.length≤1000 by have:=hi.1;omega);clear hA2 hi rZ fG;go_wp2_with fail;refine (cI.out).mono ?_;rintro e w3 ⟨rfl,hb3⟩;replace hC:=ζ (hC.o.grows hb3);replace hB:=ζ (hB.o.grows hb3);have x0:_ = some (Value.string ⟨DZ.toArray⟩):=hC.o.cell 0;have x1:_ = some (Value.slice A' Jc.length c'):=hC.o.cell 1;have x2:_ = some (Value.int .i64 Y1):=hC.o.cell 2;have x3:_ = some (Value.int .u32 (clc:Int)):=hC.o.cell 3;have x4:_ = some (Value.int .i64 cf0):=hC.o.cell 4;have x5:_ = some (Value.int .i64 ct0):=hC.o.cell 5;have xz:=hC.o.lt;have p0:=hB.o.cell 0;have p1:=hB.o.cell 1;have p2:=hB.o.cell 2;have p3:=hB.o.cell 3;have p4:=hB.o.cell 4;have p5:=hB.o.cell 5;have pz:=hB.o.lt;unfold aY.cells at p0 p1 p2 p3 p4 p5;simp only[List.getElem?_toArray,List.getElem?_cons_zero,List.getElem?_cons_succ] at p0 p1 p2 p3 p4 p5;clear cI;go_wp2_with fail;refine (cG.out _ (hW.o.trans hb3)).mono ?_;rintro e w4 ⟨fv,rfl,OI,hb4⟩;obtain⟨fA,fk,rfl,_,_,hA4⟩:=OI.arr Xt;have hg4:=hb3.trans hb4;have aaF:=qW.o.size;have hE:Hid (Ro w p.cells.toArray w2.heap.size #[.string ⟨DZ.toArray⟩,.slice A' Jc.length c',.int .i64 Y1,.int .u32 (clc:Int),.int .i64 cf0,.int .i64 ct0] (.slice fA F.length fk) F (.slice A' Jc.length c') Jc w4):=
      ζ ⟨qW.o.trans hg4,hB.o.grows hb4,hC.o.grows hb4,OI.bH (by have:=qW.o.size;have:=hb3.size;omega),l9.o.grows hg4⟩
     have hR4:=ζ (hR.o.grows hg4);have hM4:=ζ (hM.o.grows hg4);clear cG hR hM hB hC l9 OI hb3 hb4 hg4 hA4 x0 x1 x2 x3 x4 x5 xz p0 p1 p2 p3 p4 p5 pz qW aaF hW;have hj:Hid (24*k≤24000):=ζ ω;have aup:Hid (w.heap.size≤w1.heap.size):=Xi;have auu:Hid (w.heap.size≤w1.heap.size+1):=ζ (by have:=Xi.o;omega);have hF:Hid ((∀r∈F,r < p.om)∧F.length≤12):=ζ ⟨hfm.o.1,by have:=hfm.o.2;omega⟩;have hcc:Hid ((#[.string ⟨DZ.toArray⟩,.slice A' Jc.length c',.int .i64 Y1,.int .u32 (clc:Int),.int .i64 cf0,.int .i64 ct0]:Array Value)[1]? = some (.slice A' Jc.length c')):=ζ rfl;generalize hFn:F.length=Fn at *
     replace hFn:=ζ hFn;go_wp2;refine aa6 he hp hE hcc hR4 hM4 aup auu hI hj kX (by rw[hFn.o];exact hF) Iu OH hom π ?_;rintro u17 u18 u19 u20 u21 u22 u23 u24 u56 u57 u58 u59 u60 u61 u62 u63 u64 u65 u66 u67 u68 u69 u70 u71 u72 u73 u74 u75 u76 u77 u78 u79 u80 u81 u82 u83 u84 u85 u86 u87 u88 u89 u90 u91 u92 u93 u94 u95 u96 u97 u98 u99 PY PX PW PV PU PS PN PL PK PG PE PD Vw ac1 ac0 acZ acY acX acW acV acU acT acS acR acQ acP acO acN acM acL acK acJ acI wz ⟨Vs,rs',hI',as2,hR',hM',ED,hG'⟩;have Fz:Hid (F.foldl (stepG rec id Jc (bY p.aU)) st=((xs.map (·.a)).take (k+1)).foldl (jk ft p.aU rec now) ⟨List.replicate p.om [],[]⟩):=ζ (by rw[nP.o];exact TV.o.symm);have hI2:=ζ (hI'.o.mono (show 24*k+2*F.length≤24*(k+1) by have:=hF.o.2;have:=hFn.o;omega));clear hE hR4 hM4 hI kX hI' hF hcc OH Iu TV nP hfm hj akO;go_wp2;go_roundw
     case rel=>exact⟨k+1,_,Vs,rs',ω,ν,Fz,hI2,as2,hR',hM',ED,hG'⟩
     case measure=>exact ψ
   ·obtain rfl:k=lm:=ω;obtain⟨bs,TQ,zI,alp⟩:=adn hR.o;have ahz:rs.length=p.om:=by have:=hI.o.len;rw[←kX.o,List.length_map] at this;exact this
    rw[ahz] at TQ;have hlen:(tH bs).length≤1000000000:=by
     rw[alp];have:=G5 (B:=24000) rs (fun gs kU=>by
      obtain⟨r,hr⟩:=List.getElem?_of_mem kU;have h1:st.aQ[r]? = some (gs.map dA.g):=by rw[←kX.o,List.getElem?_map,hr];rfl
      have:=hI.o.mr r _ h1;rw[List.length_map] at this;omega)
     rw[ahz] at this;have h3:p.om*24000≤12*24000:=Nat.mul_le_mul_right _ hom;omega
    have cC:=Ux (c:=p.om) wr TQ zI hlen ω;rw[alp] at cC;have aO:(rs.flatten).map dA.g = GL:=by
     rw[hGL.o,aec.o,List.map_flatten,kX.o,hst.o,List.take_of_length_le (by rw[List.length_map,nM.o];exact Nat.le_refl _)]
    replace cC:=ζ cC;replace aO:=ζ aO;clear TQ zI alp hlen hM hB hI kX hst ahz;go_wp2_with fail;refine (cC.out).mono ?_;rintro e w6 ⟨v6,rfl,uF,sZ⟩;go_wp2;go_ret;refine⟨v6,rs.flatten,rfl,uF.bH hG.o.size,fun x hx=> ?_,aO.o,hG.o.trans sZ⟩;obtain⟨gs,kU,hxg⟩:=List.mem_flatten.1 hx;obtain⟨r,hr⟩:=List.getElem?_of_mem kU;obtain⟨i,hi⟩:=List.getElem?_of_mem hxg;exact⟨(hR.o.ids r gs i x hr hi).grows sZ,(hR.o.IE r gs i x hr hi).grows sZ⟩
 ·rw[if_neg zH] at hGL;subst hGL;have hne:(fQ fb p.aU==0)=false:=by simpa using zH
  unfold aY.val at cK ⊢;generalize fQ fb p.aU=CK at *
  replace cK:=ζ cK;clear zH hp nN TJ hA hat he;go_enter Tryz.func48,Tryz.ntmps48
  go_wp2_with fail;refine (cK.out _ γ).mono ?_;rintro e w1 ⟨rfl,hb1⟩;have gu:ah w w1:=((ah.refl w).alloc _).trans hb1;go_wp2;go_ret;exact⟨_,[],rfl,Own.jA _ _ _ _ _,fun x hx=>absurd hx σ,rfl,gu⟩
end Go.Proofs.YtbhikkgpcmkonaaGreatDoor
namespace Go.Proofs.YtbhikkgpcmkonaaGreatDoor
def dN:List UInt8:=[112,97,103,101,114]
def uO:List UInt8:=[116,101,97,109]
def Yk:List UInt8:=[112,114,111,109]
def fT:d_→Bool:=fun _=>true
def fTT:List bK→d_→Bool:=fun _ _=>true
def Vm:List bK:=[⟨uO,[116]⟩]
structure Rq where
 wait:Int
 every:Int
 again:Int
 first:Int
 last:Int
 now:Int
 told:List Nat
deriving DecidableEq
def Aj (w e r:Int):Rq:=⟨min (max w 0) 1000,min (max e 1) 1000,min (max r (min (max e 1) 1000)) 100000,-1,-1,0,[]⟩
def aqh (c:Rq) (ids:List Nat):Int:=if ids=c.told then c.again else c.every
def OV (c:Rq) (now:Int) (ids:List Nat):Int:=
 max (if c.last=-1 then (if c.first=-1 then now+c.wait else c.first+c.wait) else max (if c.first=-1 then now+c.wait else c.first+c.wait) (c.last+aqh c ids)) now
def y9 (c:Rq) (now:Int) (ids:List Nat):Bool:=decide (ids≠[])&&decide (OV c now ids≤now)
def FX (c:Rq) (now:Int) (ids:List Nat):Int:=if ids=[] then -1 else if c.first=-1 then now else c.first
def zJ (c:Rq) (now:Int) (ids:List Nat):Rq:=
 if y9 c now ids then {c with now:=now,first:=FX c now ids,last:=now,told:=ids} else {c with now:=now,first:=FX c now ids}
structure U9 (c:Rq):Prop where
 w0:0≤c.wait
 w1:c.wait≤1000
 e0:1≤c.every
 e1:c.every≤1000
 a0:0≤c.again
 a1:c.again≤100000
 f0: -1≤c.first
 f1:c.first≤dP
 l0: -1≤c.last
 l1:c.last≤dP
 n0:0≤c.now
 n1:c.now≤dP
theorem ahh (w e r:Int):U9 (Aj w e r):=by
 constructor <;> unfold Aj <;> (try unfold dP) <;> simp only <;> omega
theorem aiQ {c:Rq} (h:U9 c) {now:Int} (h0:0≤now) (h1:now≤dP) (ids:List Nat):U9 (zJ c now ids):=by
 obtain⟨a1,a2,a3,a4,a5,a6,a7,a8,a9,a10,a11,a12⟩:=h;have hf: -1≤FX c now ids∧FX c now ids≤dP:=by
  unfold FX;split
  ·constructor
   ·omega
   ·unfold dP;omega
  ·split
   ·omega
   ·exact⟨a7,a8⟩
 unfold zJ;split <;> exact⟨a1,a2,a3,a4,a5,a6,hf.1,hf.2,by simp only;omega,by simp only;omega,h0,h1⟩
theorem KJ (c:Rq) (now:Int) (ids:List Nat):(zJ c now ids).now=now:=by unfold zJ;split <;> rfl
end Go.Proofs.YtbhikkgpcmkonaaGreatDoor
namespace Go.Proofs.YtbhikkgpcmkonaaGreatDoor
open Go.RowKit
structure Sil where
 wh:List d_
 f:Int
 t:Int
 l:jU
deriving DecidableEq
structure Gf where
 l:List (Nat×Sil)
 last:Nat
def zO (ft:List bK→d_→Bool) (tO:jU) (now:Int) (fs:List bK) (s:Sil):Bool:=jB s.l tO&&(decide (s.f≤now)&&(decide (now<s.t)&&s.wh.all (ft fs)))
def Af (ft:List bK→d_→Bool) (p:jo) (q:Gf) (a:jq) (tO:jU) (now:Int):List Nat:=match kC p a tO with
 | none=>[]
 | some c=>(q.l.filter fun x=>zO ft tO now c.fs x.2).map (·.1)
def Ba (names:List (List UInt8)) (a b:List bK):Bool:=names.all fun n=>decide (uy a n = uy b n)
def byI (ft:List bK→d_→Bool) (r:Inh) (l:List jq) (id:Nat) (c:jq) (now:Int):Bool:=
 r.wh.all (ft c.fs)&&l.any fun a=>(bJ a &&dV a now)&&(r.from_.all (ft a.fs)&&(Ba r.eY a.fs c.fs&& !decide (yg a = id)))
def YD (ft:List bK→d_→Bool) (p:jo) (l:List jq) (id:Nat) (c:jq) (tO:jU) (now:Int) (i:Nat):Bool:=match p.pO[i]? with
 | none=>false
 | some r=>jB r.l tO&&byI ft r l id c now
def yC (fb:d_→Bool) (ft:List bK→d_→Bool) (p:jo) (l:List jq) (k:Nat) (tO:jU) (now:Int):List Nat:=match l[k]? with
 | none=>[]
 | some a=>if bJ a then (if fQ fb p = 0 then (match kC p a tO with
  | none=>[]
  | some c=>(List.range p.pO.length).filter (YD ft p l (yg a) c tO now)) else []) else []
def EW (p:jo) (tO:jU) (now:Int) (a:jq):Bool:=(kC p a tO).isSome&&(bJ a &&dV a now)
def uU (p:jo) (l:List jq) (tO:jU) (now:Int):List Nat:=(List.range l.length).filter fun k=>match l[k]? with | some a=>EW p tO now a | none=>false
def vC (fb:d_→Bool) (ft:List bK→d_→Bool) (p:jo) (l:List jq) (tO:jU) (now:Int):List Nat:=if fQ fb p = 0 then (uU p l tO now).filter fun k=>(yC fb ft p l k tO now).isEmpty else []
def Fe (ft:List bK→d_→Bool) (p:jo) (q:Gf) (l:List jq) (tO:jU) (now:Int) (k:Nat):Bool:=match l[k]? with
 | some a=>(Af ft p q a tO now).isEmpty
 | none=>true
def xI (fb:d_→Bool) (ft:List bK→d_→Bool) (p:jo) (rec:List UInt8) (l:List jq) (q:Gf) (now:Int):List Nat:=match dY p.receivers rec with
 | none=>[]
 | some tO=>(vC fb ft p l tO now).filter (Fe ft p q l tO now)
def Wj (fb:d_→Bool) (ft:List bK→d_→Bool) (p:jo) (rec:List UInt8) (l:List jq) (q:Gf) (now:Int):List jq:=(xI fb ft p rec l q now).filterMap fun k=>l[k]?
structure U1 where
 id:Nat
 kQ:Bool
 fs:List bK
deriving DecidableEq
structure KT where
 rc:List UInt8
 group:List UInt8
 number:Int
 time:Int
 eY:List bK
 KO:List U1
deriving DecidableEq
def FN (n:Nat):UInt8:=if n < 10 then UInt8.ofNat (48+n) else UInt8.ofNat (87+n)
def AO (l:List Nat):List UInt8:=l.flatMap fun b=>[FN (b / 16),FN (b % 16)]
def kD (n:Nat):List Nat:=(List.range 8).map fun i=>n / 2 ^ (56-8*i) % 256
def nY (n:Nat):List UInt8:=AO (kD n)
def wX (b:UInt8):Bool:=(decide (48≤b.toNat)&&decide (b.toNat≤57))||(decide (97≤b.toNat)&&decide (b.toNat≤102))
def JL (s:List UInt8):Bool:=decide (s.length=16)&&s.all wX
def anm (l:List bK):Bool:=l.all fun f=>Lib.validD f.v
def fieldsU (l:List bK):Bool:=iw l &&anm l
def pG (n:Int):Bool:=decide (0≤n)&&decide (n≤dP)
def Rj:List U1→Bool
 | []=>true
 | [_]=>true
 | a ::b ::l=>decide (a.id<b.id)&&Rj (b ::l)
def qR (x:KT):Bool:=JL x.group&&fP x.rc&&pG x.number&&pG x.time&&fieldsU x.eY&&decide (x.KO.length≤20)&&((x.KO.all fun t=>fieldsU t.fs)&&Rj x.KO)
def qQ (p:jo) (id:Nat) (tO:jU) (now:Int) (a:jq):Option (Bool×List bK):=match kC p a tO with
 | none=>none
 | some c=>if bJ a &&decide (yg c = id) then some (dV a now,c.fs) else none
def Fg (p:jo) (l:List jq) (id:Nat) (tO:jU) (now:Int):Option U1:=
 match (l.filterMap (qQ p id tO now)).find? (·.1) with
 | some c=>some ⟨id,true,c.2⟩
 | none=>(l.filterMap (qQ p id tO now)).head?.map fun c=>⟨id,false,c.2⟩
def jW (fb:d_→Bool) (p:jo) (rec:List UInt8) (g:kS) (l:List jq) (number now:Int):Option KT:=match dY p.receivers rec with
 | none=>none
 | some tO=>if fQ fb p = 0 then
  (if qR ⟨rec,nY g.key,number,now,g.eY,g.ids.filterMap fun id=>Fg p l id tO now⟩ then some ⟨rec,nY g.key,number,now,g.eY,g.ids.filterMap fun id=>Fg p l id tO now⟩ else none) else none
structure vV where
 place:Nat
 rc:List UInt8
 wait:Int
 every:Int
 again:Int
 iR:Rq
 number:Nat
structure Eng where
 now:Int
 gs:List (List UInt8×vV)
def qK (p:jo) (g:vV):Bool:=match p.routes[g.place]? with
 | none=>false
 | some r=>decide (r.r = g.rc)&&(decide (r.wait=g.wait)&&(decide (r.every=g.every)&&decide (r.again=g.again)))
def sD (gs:List (List UInt8×vV)) (k:List UInt8):Option vV:=(gs.find? fun x=>decide (x.1=k)).map (·.2)
def nZ (gs:List (List UInt8×vV)) (k:List UInt8) (g:vV):List (List UInt8×vV):=if (sD gs k).isSome then gs.map (fun x=>if x.1=k then (k,g) else x) else gs++[(k,g)]
def Qb (p:jo) (r:Nat):vV:=match p.routes[r]? with
 | none=>⟨r,[],0,0,0,Aj 0 0 0,0⟩
 | some x=>⟨r,x.r,x.wait,x.every,x.again,Aj x.wait x.every x.again,0⟩
structure aiV where
 gs:List (List UInt8×vV)
 asked:List (List UInt8)
 out:List KT
def RS (g:vV) (now:Int) (ids:List Nat):vV:={g with iR:=zJ g.iR now ids,number:=if y9 g.iR now ids then g.number+1 else g.number}
def KI (mk:kS→Int→Option KT) (p:jo) (now:Int) (s:aiV) (x:kS):aiV:=
 ⟨nZ s.gs (cZ x.route x.eY) (RS ((sD s.gs (cZ x.route x.eY)).getD (Qb p x.route)) now x.ids),
  s.asked++[cZ x.route x.eY],
  if y9 ((sD s.gs (cZ x.route x.eY)).getD (Qb p x.route)).iR now x.ids then s.out++(mk x (((sD s.gs (cZ x.route x.eY)).getD (Qb p x.route)).number+1)).toList else s.out⟩
def yX (asked:List (List UInt8)) (now:Int) (x:List UInt8×vV):List UInt8×vV:=if x.1∈asked then x else (x.1,{x.2 with iR:=zJ x.2.iR now []})
def Am (fb:d_→Bool) (p:jo) (rec:List UInt8) (st:Eng) (now:Int):Int:=
 if now≤st.now∨now<0∨dP<now then 9 else if (dY p.receivers rec).isSome∧fQ fb p = 0 then 0 else 5
def zq (fb:d_→Bool) (ft:List bK→d_→Bool) (p:jo) (rec:List UInt8) (st:Eng) (l:List jq) (q:Gf) (now:Int):aiV:=
 (qX fb ft p rec (Wj fb ft p rec l q now) now).foldl (KI (fun x n=>jW fb p rec x (Wj fb ft p rec l q now) n now) p now) ⟨st.gs.filter fun x=>qK p x.2,[],[]⟩
def yw (fb:d_→Bool) (ft:List bK→d_→Bool) (p:jo) (rec:List UInt8) (st:Eng) (l:List jq) (q:Gf) (now:Int):Eng×List KT:=
 if Am fb p rec st now=0 then (⟨now,(zq fb ft p rec st l q now).gs.map (yX (zq fb ft p rec st l q now).asked now)⟩,(zq fb ft p rec st l q now).out) else (st,[])
instance:DecidableEq jq:=fun a b=>by
 obtain⟨a1,a2,a3,a4,a5⟩:=a;obtain⟨b1,b2,b3,b4,b5⟩:=b;exact decidable_of_iff (a1=b1∧a2=b2∧a3=b3∧a4=b4∧a5=b5) σ
structure Evt where
 k:Int
 a:jq
 s:Sil
 now:Int
deriving DecidableEq
theorem O6 {p:jo} {a c:jq} {tO:jU} (h:kC p a tO=some c):c = {a with fs:=mJ p a.fs a.l tO}∧(mJ p a.fs a.l tO).length≠0∧jB a.l tO=true:=by
 unfold kC at h;split at h
 ·cases h
 ·rename_i hn;injection h with h
  exact⟨h.symm,fun e=>hn (.inl e),by cases hf:jB a.l tO with | true=>rfl | false=>exact absurd (.inr hf) hn⟩
theorem Hg:∀{a b c:List UInt8},jK a b = true→jK b c = true→jK a c = true
 | [],[],_,h,_=>by cases h
 | [],_ ::_,[],_,h=>by cases h
 | [],_ ::_,_ ::_,_,_=>rfl
 | _ ::_,[],_,h,_=>by cases h
 | _ ::_,_ ::_,[],_,h=>by cases h
 | a ::x,b ::y,c ::z,h1,h2=>by
  unfold jK at h1 h2 ⊢;by_cases hab:a = b
  ·subst hab;rw[if_pos rfl] at h1;by_cases hac:a = c
   ·subst hac;rw[if_pos rfl] at h2 ⊢;exact Hg h1 h2
   ·rw[if_neg hac] at h2 ⊢;exact h2
  ·rw[if_neg hab] at h1;by_cases hbc:b = c
   ·subst hbc;rw[if_neg hab];exact h1
   ·rw[if_neg hbc] at h2;simp only[decide_eq_true_eq] at h1 h2;have hac:a≠c:=fun e=>by subst e;omega
    rw[if_neg hac];simp only[decide_eq_true_eq];omega
theorem afX {a:bK} {l:List bK} (h:xu (a ::l)=true):∀x∈l,jK a.n x.n = true:=by
 induction l generalizing a with
 | nil=>intro x hx;cases hx
 | cons b r ih=>
  unfold xu at h;simp only[Bool.and_eq_true] at h;intro x hx;rcases List.mem_cons.1 hx with rfl | hx
  ·exact h.1
  ·exact Hg h.1 (ih h.2 x hx)
theorem afY {a:bK} {l:List bK} (h:xu l = true) (ha:∀x∈l,jK a.n x.n = true):xu (a ::l)=true:=by
 cases l with
 | nil=>rfl
 | cons b r=>unfold xu;simp only[Bool.and_eq_true];exact⟨ha b σ,h⟩
theorem afW {a:bK} {l:List bK} (h:xu (a ::l)=true):xu l = true:=by
 cases l with
 | nil=>rfl
 | cons b r=>unfold xu at h;simp only[Bool.and_eq_true] at h;exact h.2
theorem KL (q:bK→Bool):∀l:List bK,xu l = true→xu (l.filter q)=true
 | [],_=>rfl
 | a ::l,h=>by
  have ih:=KL q l (afW h);rw[List.filter_cons];split
  ·exact afY ih (fun x hx=>afX h x (List.mem_filter.1 hx).1)
  ·exact ih
theorem NP (q:bK→Bool) {l:List bK} (h:iw l = true):iw (l.filter q)=true:=by
 unfold iw at *
 simp only[Bool.and_eq_true,decide_eq_true_eq,List.all_eq_true] at h ⊢;exact⟨⟨fun f hf=>h.1.1 f (List.mem_filter.1 hf).1,KL q l h.1.2⟩,Nat.le_trans (List.length_filter_le _ _) h.2⟩
theorem X5 {p:jo} {a c:jq} {tO:jU} (h:kC p a tO=some c) (ha:bJ a = true):bJ c = true:=by
 obtain⟨rfl,h1,h2⟩:=O6 h;unfold bJ at *
 simp only[Bool.and_eq_true,decide_eq_true_eq] at ha ⊢;obtain⟨⟨⟨⟨⟨b1,b2⟩,b3⟩,b4⟩,b5⟩,b6⟩:=ha;exact⟨⟨⟨⟨⟨b1,ω⟩,NP _ b3⟩,b4⟩,b5⟩,b6⟩
theorem TM {n:Nat} (h:n < 16):wX (FN n)=true:=by
 have:∀m:Fin 16,wX (FN m.1)=true:=δ;exact this ⟨n,h⟩
theorem WZ (n:Nat):JL (nY n)=true:=by
 have h:∀l:List Nat,(∀x∈l,x < 256)→(AO l).length=2*l.length∧(AO l).all wX=true:=by
  intro l;induction l with
  | nil=>intro _;exact⟨rfl,rfl⟩
  | cons a r ih=>
   intro hl;obtain⟨h1,h2⟩:=ih (fun x hx=>hl x (List.mem_cons_of_mem _ hx));have ha:=hl a List.mem_cons_self;unfold AO at *
   rw[List.flatMap_cons];constructor
   ·rw[List.length_append,h1];simp;omega
   ·rw[List.all_append,h2];simp only[List.all_cons,List.all_nil,Bool.and_true];rw[TM ω,TM ω];rfl
 have hb:(∀x∈kD n,x < 256)∧(kD n).length=8:=by
  unfold kD;refine⟨fun x hx=> ?_,by simp⟩;obtain⟨i,-,rfl⟩:=List.mem_map.1 hx;exact Nat.mod_lt _ ω
 obtain⟨h1,h2⟩:=h (kD n) hb.1;unfold JL nY;rw[h1,hb.2,h2];rfl
def sU:jo:=⟨[],[⟨dN,⟨3,0⟩⟩],[],[],[⟨dN,[uO],10,5,20,[]⟩],[]⟩
def rF:jq:=⟨Yk,[⟨uO,[116]⟩],⟨0,0⟩,0,0⟩
def noS:Gf:=⟨[],0⟩
theorem Ph (id:Nat):jl [] id=[id]:=by simp[jl,putAt,og]
theorem Pn:fQ fT sU=0:=δ
theorem ajR (id ky:Nat) (hk:Fq dN 0 Vm=ky):stepG dN id rF.fs (bY sU) ⟨[[]],[]⟩ 0=⟨[[⟨0,Vm,ky,jl [] id⟩]],[(cZ 0 Vm,0)]⟩:=by
 have hp:g_ rF.fs (bY sU 0)=Vm:=by kernel_rfl
 unfold stepG;rw[hp,hk];rfl
theorem Jg {now:Int} (hs:jP sU dN rF now=some rF):qX fT fTT sU dN [rF] now=[⟨0,Vm,Fq dN 0 Vm,[yg rF]⟩]:=by
 have s1:=ajR (yg rF) _ rfl;rw[Ph] at s1;unfold qX;rw[if_pos Pn];unfold lu;have a1:jk fTT sU dN now ⟨[[]],[]⟩ rF=stepG dN (yg rF) rF.fs (bY sU) ⟨[[]],[]⟩ 0:=by
  unfold jk;rw[hs];simp only;rw[show sF fTT sU dN rF.fs=[0] from rfl];rfl
 rw[List.foldl_cons,List.foldl_nil];rw[show (⟨List.replicate sU.routes.length [],[]⟩:Gg)=⟨[[]],[]⟩ from rfl,a1,s1];rfl
theorem akr {p:jo} {tO:jU} {now:Int} (hc:kC p rF tO=some rF) (hf:dV rF now=true):Fg p [rF] (yg rF) tO now=some ⟨yg rF,true,rF.fs⟩:=by
 have ha:bJ rF=true:=by kernel_rfl
 have h1:qQ p (yg rF) tO now rF=some (true,rF.fs):=by
  unfold qQ;rw[hc];simp only;rw[ha,hf,if_pos σ]
 unfold Fg;rw[List.filterMap_cons,h1,List.filterMap_nil];rfl
theorem abo:fieldsU rF.fs=true:=by kernel_rfl
theorem abp:fieldsU Vm=true:=by kernel_rfl
theorem aaq {key id:Nat} {n now:Int} {eY:List bK} (hb:fieldsU eY=true) (hn:pG n = true) (hw:pG now=true):qR ⟨dN,nY key,n,now,eY,[⟨id,true,rF.fs⟩]⟩=true:=by
 unfold qR;simp only;rw[WZ,show fP dN=true by kernel_rfl,hn,hw,hb];simp only[List.all_cons,List.all_nil,abo];rfl
theorem ahk {fb:d_→Bool} {p:jo} {tO:jU} {now:Int} {g:kS} {n:Int} (xQ:dY p.receivers dN=some tO) (zH:fQ fb p = 0) (hg:g.ids=[yg rF]) (hb:fieldsU g.eY=true) (hn:pG n = true) (hw:pG now=true) (hc:kC p rF tO=some rF) (hf:dV rF now=true) :
 jW fb p dN g [rF] n now=some ⟨dN,nY g.key,n,now,g.eY,[⟨yg rF,true,rF.fs⟩]⟩:=by
 unfold jW;rw[xQ];simp only;rw[if_pos zH,hg,List.filterMap_cons,akr hc hf,List.filterMap_nil];rw[if_pos (aaq hb hn hw)]
def yK:List UInt8:=cZ 0 Vm
def yG (f l now:Int) (n:Nat) (told:List Nat):vV:=⟨0,dN,10,5,20,⟨10,5,20,f,l,now,told⟩,n⟩
theorem ajX (mk:kS→Int→Option KT) (id ky:Nat):KI mk sU 0 ⟨[],[],[]⟩ ⟨0,Vm,ky,[id]⟩=⟨[(yK,yG 0 (-1) 0 0 [])],[yK],[]⟩:=by kernel_rfl
theorem ajW (mk:kS→Int→Option KT) (id ky:Nat):KI mk sU 9 ⟨[(yK,yG 0 (-1) 0 0 [])],[],[]⟩ ⟨0,Vm,ky,[id]⟩=⟨[(yK,yG 0 (-1) 9 0 [])],[yK],[]⟩:=by kernel_rfl
theorem agB (mk:kS→Int→Option KT) (id ky:Nat):KI mk sU 10 ⟨[(yK,yG 0 (-1) 9 0 [])],[],[]⟩ ⟨0,Vm,ky,[id]⟩=⟨[(yK,yG 0 10 10 1 [id])],[yK],(mk ⟨0,Vm,ky,[id]⟩ 1).toList⟩:=by kernel_rfl
theorem ajV:[(yK,yG 0 (-1) 0 0 [])].map (yX [yK] 0)=[(yK,yG 0 (-1) 0 0 [])]:=by kernel_rfl
theorem ajU:[(yK,yG 0 (-1) 9 0 [])].map (yX [yK] 9)=[(yK,yG 0 (-1) 9 0 [])]:=by kernel_rfl
theorem agA (id:Nat):[(yK,yG 0 10 10 1 [id])].map (yX [yK] 10)=[(yK,yG 0 10 10 1 [id])]:=by kernel_rfl
theorem ajT:Wj fT fTT sU dN [rF] noS 0=[rF]:=by kernel_rfl
theorem ajS:Wj fT fTT sU dN [rF] noS 9=[rF]:=by kernel_rfl
theorem agz:Wj fT fTT sU dN [rF] noS 10=[rF]:=by kernel_rfl
theorem asj:yw fT fTT sU dN ⟨-1,[]⟩ [rF] noS 0=(⟨0,[(yK,yG 0 (-1) 0 0 [])]⟩,[]):=by
 unfold yw;rw[if_pos κ];unfold zq;rw[ajT,Jg κ,List.foldl_cons,List.foldl_nil];simp only[List.filter_nil];rw[ajX];simp only;rw[ajV]
theorem asi:yw fT fTT sU dN ⟨0,[(yK,yG 0 (-1) 0 0 [])]⟩ [rF] noS 9=(⟨9,[(yK,yG 0 (-1) 9 0 [])]⟩,[]):=by
 unfold yw;rw[if_pos κ];unfold zq;rw[ajS,Jg κ,List.foldl_cons,List.foldl_nil];rw[show ([(yK,yG 0 (-1) 0 0 [])].filter fun x=>qK sU x.2)=[(yK,yG 0 (-1) 0 0 [])] from by kernel_rfl];rw[ajW];simp only;rw[ajU]
theorem ang:∃(st:Eng) (key:List UInt8),yw fT fTT sU dN ⟨9,[(yK,yG 0 (-1) 9 0 [])]⟩ [rF] noS 10=(st,[⟨dN,key,1,10,Vm,[⟨yg rF,true,rF.fs⟩]⟩])∧st.gs.length=1:=by
 refine⟨⟨10,[(yK,yG 0 10 10 1 [yg rF])]⟩,nY (Fq dN 0 Vm),?_,rfl⟩;unfold yw;rw[if_pos κ];unfold zq;rw[agz,Jg κ,List.foldl_cons,List.foldl_nil];rw[show ([(yK,yG 0 (-1) 9 0 [])].filter fun x=>qK sU x.2)=[(yK,yG 0 (-1) 9 0 [])] from by kernel_rfl];rw[agB];simp only;rw[agA];rw[ahk (tO:=⟨3,0⟩) κ Pn rfl abp κ κ κ κ];rfl
end Go.Proofs.YtbhikkgpcmkonaaGreatDoor
namespace Go.Proofs.YtbhikkgpcmkonaaGreatDoor
open Go.RowKit Go.Maps
theorem cu.JB {α:Type} {w:World} {g k:Nat} {t:TypeId} {enc:α→List Value} {l:List α} {cs:Array Value} (hk:∀x,(enc x).length=k) (h:aF w g t cs) (hc:cs=(bM enc l).toArray):cu w k enc (some ⟨g,0,none⟩) l.length l:=by
 subst hc;refine⟨rfl,fun _=>⟨g,0,rfl,h.lt,fun i hi j u hu=> ?_⟩⟩;have hj:j < k:=by rw[←hk l[i]];exact (List.getElem?_eq_some_iff.1 hu).1
 rw[h.cell,Nat.zero_add];have:=ku hk l i hi j hj;rw[←hu,←this];simp
theorem Qa (w:World):f_.At ⟨[],none,0,0⟩ w:=⟨cu.jA,by simp,by simp,by simp⟩
theorem hkR (x:xY):(encR x).length=6:=rfl
theorem hkA (x:dH):(sG x).length=6:=rfl
theorem atw (x:List UInt8):(encS x).length=1:=rfl
def el1 (w:World):World:=w.alloc (.cells #[.string ⟨dN.toArray⟩,.int .i64 3,.int .u32 0] 41)
def el2 (w:World):World:=(el1 w).alloc (.cells #[.string ⟨uO.toArray⟩] 9)
def el3 (w:World):World:=(el2 w).alloc (.cells #[.string ⟨dN.toArray⟩,.slice (some ⟨w.heap.size+1,0,none⟩) 1 1,.int .i64 10,.int .i64 5,.int .i64 20,.slice none 0 0] 46)
def el4 (w:World):World:=(el3 w).alloc (.cells #[.slice none 0 0,.slice (some ⟨w.heap.size,0,none⟩) 1 1,.slice none 0 0,.slice none 0 0,.slice (some ⟨w.heap.size+1+1,0,none⟩) 1 1,.slice none 0 0] 50)
def el5 (w:World):World:=(el4 w).alloc (.cells #[.string ⟨uO.toArray⟩,.string ⟨#[116]⟩] 88)
def yY (w:World):World:=(el5 w).alloc (.cells #[.string ⟨Yk.toArray⟩,.slice (some ⟨w.heap.size+1+1+1+1,0,none⟩) 1 1,.int .i64 0,.int .u32 0,.int .i64 0,.int .i64 0] 57)
theorem DX (w:World):(el1 w).heap.size=w.heap.size+1∧(el2 w).heap.size=w.heap.size+1+1∧(el3 w).heap.size=w.heap.size+1+1+1∧(el4 w).heap.size=w.heap.size+1+1+1+1∧(el5 w).heap.size=w.heap.size+1+1+1+1+1∧(yY w).heap.size=w.heap.size+1+1+1+1+1+1:=by
 simp[el1,el2,el3,el4,el5,yY]
theorem ajG (w:World):ah (el1 w) (yY w):=(((((ah.refl _).alloc _).alloc _).alloc _).alloc _).alloc _
theorem aqw (w:World):aF (yY w) (w.heap.size) 41 #[.string ⟨dN.toArray⟩,.int .i64 3,.int .u32 0]:=by
 exact (aF.new w _ _).grows (ajG w)
theorem aqp (w:World):ah (el2 w) (yY w):=((((ah.refl _).alloc _).alloc _).alloc _).alloc _
theorem aqv (w:World):aF (yY w) (w.heap.size+1) 9 #[.string ⟨uO.toArray⟩]:=by
 have h:=aF.new (el1 w) 9 #[.string ⟨uO.toArray⟩];rw[show (el1 w).heap.size=w.heap.size+1 by have:=DX w;exact this.1] at h;exact h.grows (aqp w)
theorem aqo (w:World):ah (el3 w) (yY w):=(((ah.refl _).alloc _).alloc _).alloc _
theorem aqu (w:World):aF (yY w) (w.heap.size+1+1) 46 #[.string ⟨dN.toArray⟩,.slice (some ⟨w.heap.size+1,0,none⟩) 1 1,.int .i64 10,.int .i64 5,.int .i64 20,.slice none 0 0]:=by
 have h:=aF.new (el2 w) 46 #[.string ⟨dN.toArray⟩,.slice (some ⟨w.heap.size+1,0,none⟩) 1 1,.int .i64 10,.int .i64 5,.int .i64 20,.slice none 0 0];rw[show (el2 w).heap.size=w.heap.size+1+1 by have:=DX w;exact this.2.1] at h;exact h.grows (aqo w)
theorem aqn (w:World):ah (el4 w) (yY w):=((ah.refl _).alloc _).alloc _
theorem aqt (w:World):aF (yY w) (w.heap.size+1+1+1) 50 #[.slice none 0 0,.slice (some ⟨w.heap.size,0,none⟩) 1 1,.slice none 0 0,.slice none 0 0,.slice (some ⟨w.heap.size+1+1,0,none⟩) 1 1,.slice none 0 0]:=by
 have h:=aF.new (el3 w) 50 #[.slice none 0 0,.slice (some ⟨w.heap.size,0,none⟩) 1 1,.slice none 0 0,.slice none 0 0,.slice (some ⟨w.heap.size+1+1,0,none⟩) 1 1,.slice none 0 0];rw[show (el3 w).heap.size=w.heap.size+1+1+1 by have:=DX w;exact this.2.2.1] at h;exact h.grows (aqn w)
theorem aqm (w:World):ah (el5 w) (yY w):=(ah.refl _).alloc _
theorem aqs (w:World):aF (yY w) (w.heap.size+1+1+1+1) 88 #[.string ⟨uO.toArray⟩,.string ⟨#[116]⟩]:=by
 have h:=aF.new (el4 w) 88 #[.string ⟨uO.toArray⟩,.string ⟨#[116]⟩];rw[show (el4 w).heap.size=w.heap.size+1+1+1+1 by have:=DX w;exact this.2.2.2.1] at h;exact h.grows (aqm w)
theorem aql (w:World):ah (yY w) (yY w):=ah.refl _
theorem aqr (w:World):aF (yY w) (w.heap.size+1+1+1+1+1) 57 #[.string ⟨Yk.toArray⟩,.slice (some ⟨w.heap.size+1+1+1+1,0,none⟩) 1 1,.int .i64 0,.int .u32 0,.int .i64 0,.int .i64 0]:=by
 have h:=aF.new (el5 w) 57 #[.string ⟨Yk.toArray⟩,.slice (some ⟨w.heap.size+1+1+1+1,0,none⟩) 1 1,.int .i64 0,.int .u32 0,.int .i64 0,.int .i64 0];rw[show (el5 w).heap.size=w.heap.size+1+1+1+1+1 by have:=DX w;exact this.2.2.2.2.1] at h;exact h.grows (aql w)
theorem alX (w:World):ah w (yY w):=((ah.refl w).alloc _).trans (ajG w)
def mD (w:World):aY where
 s:=⟨[],none,0,0⟩
 r:=⟨[⟨dN,⟨3,0⟩⟩],some ⟨w.heap.size,0,none⟩,1,1⟩
 e:=⟨[],none,0,0⟩
 a:=⟨[],none,0,0⟩
 o:=[⟨⟨dN,[uO],10,5,20,[]⟩,some ⟨w.heap.size+1,0,none⟩,1,1,none,0,0⟩]
 oA:=some ⟨w.heap.size+1+1,0,none⟩
 om:=1
 ok:=1
 i:=[]
 iA:=none
 im:=0
 ik:=0
def acn (w:World):dH:=⟨rF,some ⟨w.heap.size+1+1+1+1,0,none⟩,1,1⟩
theorem agC (w:World):(mD w).At (yY w) where
 s:=Qa _
 r:=⟨by have h:=cu.JB (enc:=Ur) (l:=[(⟨dN,⟨3,0⟩⟩:xZ)]) hkN (aqw w) rfl;exact h,by simp[mD],by intro y hy;simp only[mD,List.mem_singleton] at hy;subst hy;exact (by decide:(0:Nat)<4294967296),by intro y hy;simp only[mD,List.mem_singleton] at hy;subst hy;decide⟩
 e:=Qa _
 a:=Qa _
 o:=by have h:=cu.JB (enc:=encR) (l:=[(⟨⟨dN,[uO],10,5,20,[]⟩,some ⟨w.heap.size+1,0,none⟩,1,1,none,0,0⟩:xY)]) hkR (aqu w) rfl;exact h
 ole:=by simp[mD]
 oAt:=by
  intro y hy;simp only[mD,List.mem_singleton] at hy;subst hy;exact⟨cu.JB (l:=[uO]) atw (aqv w) rfl,by simp,by intro z hz;simp only[List.mem_singleton] at hz;subst hz;decide,cu.jA,by simp⟩
 i:=cu.jA
 ile:=by simp[mD]
 iAt:=by intro y hy;simp[mD] at hy
theorem anj (w:World):(acn w).At (yY w):=⟨by have h:=cu.JB (enc:=eu) (l:=[(⟨uO,[116]⟩:bK)]) GN (aqs w) rfl;exact h,by simp[acn],(by decide:(0:Nat)<4294967296)⟩
theorem anh (w:World):cu (yY w) 6 sG (some ⟨w.heap.size+1+1+1+1+1,0,none⟩) 1 [acn w]:=cu.JB (l:=[acn w]) hkA (aqr w) rfl
theorem ajZ (w:World):jc fT (mD w):=⟨fun r hr y hy=>by simp only[mD,List.mem_singleton] at hr;subst hr;simp at hy,fun i hi=>by simp[mD] at hi⟩
theorem ani (w:World):D8 fTT (mD w):=fun r hr y hy=>by simp only[mD,List.mem_singleton] at hr;subst hr;simp at hy
end Go.Proofs.YtbhikkgpcmkonaaGreatDoor
namespace Go.Proofs.YtbhikkgpcmkonaaGreatDoor
open Go.RowKit
structure U4 where
 s:Sil
 A:Option Addr
 m:Nat
 k:Nat
def acu (x:U4):Value:=.agg #[.slice x.A x.m x.k,.int .i64 x.s.f,.int .i64 x.s.t,.int .i64 x.s.l.lv,.int .u32 (x.s.l.c:Int)]
end Go.Proofs.YtbhikkgpcmkonaaGreatDoor
