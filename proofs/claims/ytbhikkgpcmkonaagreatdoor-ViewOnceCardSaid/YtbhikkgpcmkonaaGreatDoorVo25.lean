/- Parts: EngR EngG EngK EngL -/
import Derived.Test.YtbhikkgpcmkonaaGreatDoorVo0
import Derived.Test.YtbhikkgpcmkonaaGreatDoorVo24
import Derived.Test.YtbhikkgpcmkonaaGreatDoorVo12
set_option maxRecDepth 100000
set_option maxHeartbeats 12800000
namespace Go.Proofs.YtbhikkgpcmkonaaGreatDoor
open Go.RowKit Go.Maps Go.WideMaps
def rV (n:Nat):Code→Option Code
 | .region i ops d=>if i = n then some (.region i ops d) else none
 | .seq a b=>(rV n a).orElse fun _=>rV n b
 | .cond _ t e=>(rV n t).orElse fun _=>rV n e
 | .block _ b=>rV n b
 | .loop b=>rV n b
 | .rangeFunc _ _ _ b=>rV n b
 | _=>none
def XZ (f:Func) (n:Nat):Code:=((f.body.bind (rV n)).getD .skip)
theorem Jk {p:bQ} {w0 Ol:World} {ge g1 g2 g4 g5 gx gb om ok xr xk bm bk im ik:Nat} {rec:List UInt8} {num now:Int} {oA bA iA:Option Addr} {ML:Option N_} {Q0:Exit→Act→World→Prop} {x0 x3 x6 x8 Gf E8 BJ Ii E5 Jw DL H6 HY En Hz Em EZ EY EX DK DJ DI Ej Ei Eh Ef Ee Ed Ec Eb Ea D_ D9 D8 Hy EW EU ET ES ER EP EO EN EM EL EK EJ EI Ih Hw F9 D7 EH EG Ig Ie Ic Hu Ht Hr Hq F8 F7 F6 F5 Ho Hl Hg FZ FY FX FV FQ FP FN FM FK Jv Ju Jt Hf FH EF ED EC Ez Ey:Value}
 (cMk:Hid (∀W',ah Ol W'→Calls Tryz.prog 47 #[.agg #[.slice p.s.A p.s.m p.s.k,.slice p.r.A p.r.m p.r.k,.slice p.e.A p.e.m p.e.k,.slice p.a.A p.a.m p.a.k,.slice p.oA p.om p.ok,.slice p.iA p.im p.ik],.string ⟨rec.toArray⟩,.agg #[.int .i64 (xr:Int),.slice bA bm bk,.int .u64 (xk:Int),.slice iA im ik],.slice oA om ok,.agg #[.int .i64 num,.int .i64 now]] W' (ZI W' ML))) (afO:Hid (w0.heap.size≤Ol.heap.size)) (b1:Hid (aG Ol g1 51 #[.pointer (some ⟨ge,0,none⟩)])) (b2:Hid (aG Ol g2 50 p.cells.toArray)) (b4:Hid (aG Ol g4 3 #[.int .i64 now])) (b5:Hid (aG Ol g5 59 #[.slice oA om ok])) (bX:Hid (aG Ol gx 125 #[.int .i64 (xr:Int),.slice bA bm bk,.int .u64 (xk:Int),.slice iA im ik])) (e0:Ol.cell? ⟨ge,0,none⟩=some (.string ⟨rec.toArray⟩)) (el:ge<Ol.heap.size) (m8:Ol.cell? ⟨gb,8,none⟩=some (.int .i64 num)) (m8l:gb<Ol.heap.size)
 (hQ0:∀c a d v w,Q0 (.panic c) (Act.put a d v) w→Q0 (.panic c) a w)
 (oO:∀(u13 u14 u71 u72 u73 u74 u75 u76 u77 u78 u79 u80 u81 u82 u83 u84 u85 u86 u87:Value) (wr:World),(∃(gL:Nat) (o:Option fO),u13=.pointer (some ⟨gL,0,none⟩)∧u14=.bool o.isSome∧Hid (aG wr gL 64 (aqF o))∧Hid (o.map (·.xM)=ML)∧Hid (∀x,o = some x→dH wr w0.heap.size x)∧Hid (ah Ol wr))→Q0 .normal ⟨(x0::(.pointer (some ⟨g1,0,none⟩))::(.pointer (some ⟨g2,0,none⟩))::x3::(.pointer (some ⟨g4,0,none⟩))::(.pointer (some ⟨g5,0,none⟩))::x6::(.pointer (some ⟨gx,0,none⟩))::x8::(.pointer (some ⟨gb,0,none⟩))::Gf::E8::BJ::u13::u14::Jw::DL::H6::HY::En::Hz::Em::EZ::EY::EX::DK::DJ::DI::Ej::Ei::Eh::Ef::Ee::Ed::Ec::Eb::Ea::D_::D9::D8::Hy::EW::EU::ET::ES::ER::EP::EO::EN::EM::EL::EK::EJ::EI::Ih::Hw::F9::D7::EH::EG::Ig::Ie::Ic::Hu::Ht::Hr::Hq::F8::F7::F6::F5::u71::u72::u73::u74::u75::u76::u77::u78::u79::u80::u81::u82::u83::u84::u85::u86::u87::EF::ED::EC::Ez::Ey::[]).toArray,[]⟩ wr) :
 Code.wp Tryz.prog (XZ Tryz.f43 11) Q0 ⟨(x0::(.pointer (some ⟨g1,0,none⟩))::(.pointer (some ⟨g2,0,none⟩))::x3::(.pointer (some ⟨g4,0,none⟩))::(.pointer (some ⟨g5,0,none⟩))::x6::(.pointer (some ⟨gx,0,none⟩))::x8::(.pointer (some ⟨gb,0,none⟩))::Gf::E8::BJ::Ii::E5::Jw::DL::H6::HY::En::Hz::Em::EZ::EY::EX::DK::DJ::DI::Ej::Ei::Eh::Ef::Ee::Ed::Ec::Eb::Ea::D_::D9::D8::Hy::EW::EU::ET::ES::ER::EP::EO::EN::EM::EL::EK::EJ::EI::Ih::Hw::F9::D7::EH::EG::Ig::Ie::Ic::Hu::Ht::Hr::Hq::F8::F7::F6::F5::Ho::Hl::Hg::FZ::FY::FX::FV::FQ::FP::FN::FM::FK::Jv::Ju::Jt::Hf::FH::EF::ED::EC::Ez::Ey::[]).toArray,[]⟩ Ol:=by
 conv=>arg 2;whnf
 have p0:=b2.out.c0;have p1:=b2.out.c1;have p2:=b2.out.c2;have p3:=b2.out.c3;have p4:=b2.out.c4;have p5:=b2.out.c5;have pz:=b2.out.lt;have q1:=b1.out.c0;have q1l:=b1.out.lt;have q4:=b4.out.c0;have q4l:=b4.out.lt;have q5:=b5.out.c0;have q5l:=b5.out.lt;have y0:=bX.out.c0;have y1:=bX.out.c1;have y2:=bX.out.c2;have y3:=bX.out.c3;have yl:=bX.out.lt;have aP:=ζ (ah.refl Ol);clear b1 b2 b4 b5 bX;refine aF κ ?_;refine rK (.range 13) 7 ?_;iterate 13 refine ay ?_
 refine aB ?_;refine aI [13,17] κ σ (fun wN hN hS=>(au.cons rfl (fun K' hK=> ?_) (au.cons rfl (fun K' hK=> ?_) au.nil)))
 ·skip
  try replace aP:=ζ (aP.o.trans hN)
  try replace n0:=ζ (n0.out.grows hN)
  try replace n1:=ζ (n1.out.trans hN)
  try replace bL:=ζ (bL.out.grows hN)
  try replace zq:=ζ (fun z hz=>(zq.o z hz).grows hN)
  clear hN;go_simp;refine (cMk.out _ aP.o).mono ?_;rintro e w5 ⟨o,rfl,YD,zq,fK⟩;have aA4:=(aP.o).size;replace zq:=ζ (fun z hz=>(zq z hz).bK (show w0.heap.size≤wN.heap.size by have:=afO.o;omega));replace YD:=ζ YD;replace aP:=ζ (aP.o.trans fK);try replace bL:=ζ (bL.out.grows fK)
  obtain⟨s1,s2,nn,tt,A,m,kk,A',m',k',hlc⟩:=Ub o;rw[hlc];replace hlc:=ζ hlc;refine hK.o _ _ ?_ (fun hS=> ?_)
  ·exact aP.o
  clear fK;clear hK hS;refine rK [14,15,16] 3 ?_;iterate 3 refine ay ?_
  refine aB ?_;refine aI [17] κ σ (fun wN hN hS=>(au.cons rfl (fun K' hK=> ?_) au.nil));try replace aP:=ζ (aP.o.trans hN)
  try replace n0:=ζ (n0.out.grows hN)
  try replace n1:=ζ (n1.out.trans hN)
  try replace bL:=ζ (bL.out.grows hN)
  try replace zq:=ζ (fun z hz=>(zq.o z hz).grows hN)
  clear hN;go_simp;have hgA:=ζ aP.o.size;have bL:=ζ (aG.new wN 64 lM);replace aP:=ζ (aP.o.alloc (.cells lM 64));try replace zq:=ζ (fun z hz=>(zq.o z hz).grows ((ah.refl wN).alloc (.cells lM 64)))
  refine hK.o _ _ ?_ (fun hS=> ?_)
  ·exact aP.o
  generalize wN.heap.size=gL at *
  clear hK hS;refine aI [18] κ σ (fun wN hN hS=>(au.cons rfl (fun K' hK=> ?_) au.nil));try replace aP:=ζ (aP.o.trans hN)
  try replace n0:=ζ (n0.out.grows hN)
  try replace n1:=ζ (n1.out.trans hN)
  try replace bL:=ζ (bL.out.grows hN)
  try replace zq:=ζ (fun z hz=>(zq.o z hz).grows hN)
  clear hN;obtain⟨z0,z1,z2,z3,z4,z5,zf,zl⟩:=rP bL.out;obtain⟨n0,n1,n2⟩:=AQ bL.out aP.o hgA.o (.string s1) (.string s2) (.int .i64 nn) (.int .i64 tt) (.slice A m kk) (.slice A' m' k');replace zq:=ζ (fun z hz=>n2 _ _ (zq.o z hz));replace n0:=ζ n0;replace n1:=ζ n1;clear n2;go_simp;refine hK.o _ _ ?_ (fun hS=> ?_)
  ·exact n1.out
  clear z0 z1 z2 z3 z4 z5 zf zl bL aP;clear hK hS;refine rK [19] 0 ?_;iterate 1 refine ay ?_
  refine aB ?_;refine aH κ (fun wN hN hS=> ?_);try replace aP:=ζ (aP.o.trans hN)
  try replace n0:=ζ (n0.out.grows hN)
  try replace n1:=ζ (n1.out.trans hN)
  try replace bL:=ζ (bL.out.grows hN)
  try replace zq:=ζ (fun z hz=>(zq.o z hz).grows hN)
  apply oO;exact⟨_,o,rfl,rfl,ζ (by rw[hlc.o];exact n0.out),YD,zq,n1⟩
 ·skip
  try replace aP:=ζ (aP.o.trans hN)
  try replace n0:=ζ (n0.out.grows hN)
  try replace n1:=ζ (n1.out.trans hN)
  try replace bL:=ζ (bL.out.grows hN)
  try replace zq:=ζ (fun z hz=>(zq.o z hz).grows hN)
  clear hN;go_simp;have hgA:=ζ aP.o.size;have bL:=ζ (aG.new wN 64 lM);replace aP:=ζ (aP.o.alloc (.cells lM 64));try replace zq:=ζ (fun z hz=>(zq.o z hz).grows ((ah.refl wN).alloc (.cells lM 64)))
  refine hK.o _ _ ?_ (fun hS=> ?_)
  ·exact aP.o
  generalize wN.heap.size=gL at *
  clear hK hS;refine aI [13] κ σ (fun wN hN hS=>(au.cons rfl (fun K' hK=> ?_) au.nil));try replace aP:=ζ (aP.o.trans hN)
  try replace n0:=ζ (n0.out.grows hN)
  try replace n1:=ζ (n1.out.trans hN)
  try replace bL:=ζ (bL.out.grows hN)
  try replace zq:=ζ (fun z hz=>(zq.o z hz).grows hN)
  clear hN;go_simp;refine (cMk.out _ aP.o).mono ?_;rintro e w5 ⟨o,rfl,YD,zq,fK⟩;have aA4:=(aP.o).size;replace zq:=ζ (fun z hz=>(zq z hz).bK (show w0.heap.size≤wN.heap.size by have:=afO.o;omega));replace YD:=ζ YD;replace aP:=ζ (aP.o.trans fK);try replace bL:=ζ (bL.out.grows fK)
  obtain⟨s1,s2,nn,tt,A,m,kk,A',m',k',hlc⟩:=Ub o;rw[hlc];replace hlc:=ζ hlc;refine hK.o _ _ ?_ (fun hS=> ?_)
  ·exact aP.o
  clear fK;clear hK hS;refine rK [14,15,16] 2 ?_;iterate 3 refine ay ?_
  refine aB ?_;refine aI [18] κ σ (fun wN hN hS=>(au.cons rfl (fun K' hK=> ?_) au.nil));try replace aP:=ζ (aP.o.trans hN)
  try replace n0:=ζ (n0.out.grows hN)
  try replace n1:=ζ (n1.out.trans hN)
  try replace bL:=ζ (bL.out.grows hN)
  try replace zq:=ζ (fun z hz=>(zq.o z hz).grows hN)
  clear hN;obtain⟨z0,z1,z2,z3,z4,z5,zf,zl⟩:=rP bL.out;obtain⟨n0,n1,n2⟩:=AQ bL.out aP.o hgA.o (.string s1) (.string s2) (.int .i64 nn) (.int .i64 tt) (.slice A m kk) (.slice A' m' k');replace zq:=ζ (fun z hz=>n2 _ _ (zq.o z hz));replace n0:=ζ n0;replace n1:=ζ n1;clear n2;go_simp;refine hK.o _ _ ?_ (fun hS=> ?_)
  ·exact n1.out
  clear z0 z1 z2 z3 z4 z5 zf zl bL aP;clear hK hS;refine rK [19] 0 ?_;iterate 1 refine ay ?_
  refine aB ?_;refine aH κ (fun wN hN hS=> ?_);try replace aP:=ζ (aP.o.trans hN)
  try replace n0:=ζ (n0.out.grows hN)
  try replace n1:=ζ (n1.out.trans hN)
  try replace bL:=ζ (bL.out.grows hN)
  try replace zq:=ζ (fun z hz=>(zq.o z hz).grows hN)
  apply oO;exact⟨_,o,rfl,rfl,ζ (by rw[hlc.o];exact n0.out),YD,zq,n1⟩
theorem alc {fb:cu→Bool} {p:bQ} {S:Nat→Prop} {w0:World} {base ge b ab B:Nat} {rec:List UInt8} {now:Int} {oA:Option Addr} {om ok:Nat} {ys:List dD} {g1 g2 g3 g4 g5 g6:Nat} {gs:List GX} {asked:List (List UInt8)} {v:Value} {ls:List fO} {x:dQ} (W:World)
 (hSK:∀W',nN S w0 W'→alT p ys W') (nG:lW fb p) (BN:oh S w0 W p.cells.toArray ge ab now oA om ok ys g1 g2 g3 g4 g5 g6 v ls) (hE:dO W base ge b rec now B gs) (Nk:wF S w0 gs) (hM:oV W ab B asked) (hab:ab≠b) (anV:w0.heap.size≤ab) (hSb:S b) (hlb:base≤w0.heap.size) (hll:ls.length≤B) (hB:B+1≤1000000) (h0:0≤now) (h1:now≤eY) (hom:om≤12)
 (hxi:Own W w0.heap.size 33 1 kS x.iv x.ids) (hxf:Own W w0.heap.size 88 2 dZ x.bv x.fP) (Fg:Qr p.aU 12 x.g) :
 Calls Tryz.prog 43 #[Vd x,.pointer (some ⟨g1,0,none⟩),.pointer (some ⟨g2,0,none⟩),.pointer (some ⟨g3,0,none⟩),.pointer (some ⟨g4,0,none⟩),.pointer (some ⟨g5,0,none⟩),.pointer (some ⟨g6,0,none⟩)] W
  (aed (fun x n=>jY fb p.aU rec x (ys.map (·.a)) n now) p S w0 W base rec ge b ab B now oA om ok ys g1 g2 g3 g4 g5 g6 gs asked ls x.g):=by
 obtain⟨hr1,hr2,⟨hy1,hy2⟩,avb,avW⟩:=Fg;obtain⟨xr,xk,He,xbA,xbm,xbk,lC,xiA,xim,xik⟩:=x;unfold dQ.iv at hxi;unfold dQ.bv at hxf;unfold dQ.g at *
 simp only at *
 obtain⟨iA,ic,hie,-,-,hXi⟩:=hxi.arr Qw;simp only[Value.slice.injEq] at hie;obtain⟨rfl,rfl,rfl⟩:=hie;obtain⟨fA,fc,hfe,-,-,hXf⟩:=hxf.arr JB;simp only[Value.slice.injEq] at hfe;obtain⟨rfl,rfl,rfl⟩:=hfe;have cN:=ζ (fun W' (hW:ah W W')=>agK (g:=⟨xr,xk,He,xbA,He.length,xbk,lC,xiA,lC.length,xik⟩) W' (hSK W' (BN.off.iw hW)).lib (by simp only;omega) (hXf.keep hW) (by simp only;omega) (fun f hf=>(hy2 f hf).1));have avp:om≤1000:=ω;have awl:He.length≤1000:=ω;have avU:lC.length≤1000:=ω;have av4:∀f∈He,f.v.length≤1000000:=fun f hf=>by have:=(hy2 f hf).2;omega
 unfold Vd at *
 simp only at *
 have JA:(dw xr He).length≤20000:=by
  have:=zS (r:=xr) ω He (fun f hf=>(hy2 f hf).1);omega
 generalize IQ:dw xr He=k at *
 have bX:=aG.new W 125 #[.int .i64 (xr:Int),.slice xbA He.length xbk,.int .u64 (xk:Int),.slice xiA lC.length xik];have hg0:ah W (W.alloc (.cells #[.int .i64 (xr:Int),.slice xbA He.length xbk,.int .u64 (xk:Int),.slice xiA lC.length xik] 125)):=(ah.refl W).alloc _;go_enter Tryz.func43,Tryz.ntmps43
 go_wp2_with fail;refine (cN.out _ hg0).mono ?_;rintro e w1 ⟨rfl,hb1⟩;have hg1:=hg0.trans hb1;replace bX:=bX.grows hb1;have SN:=BN.grows hg1;have JG:=hE.grows hg1;have Xn:=hM.grows hg1;have awt:=hXi.keep hg1;have awu:=hXf.keep hg1;have hT1:uh ag_ W w1:=uh.grows hg1;have anZ:=hxi.grows hg1;have an0:=hxf.grows hg1;clear hb1 cN BN hE hM hXi hXf hxi hxf hg0 hg1;obtain⟨n,hnB,hM0⟩:=JG.map;have rX:=hM0.look (s:=k) ω;have e1:=JG.blk.cell 1;have el:=JG.blk.lt;have q1:=SN.b1.cell 0;have ql:=SN.b1.lt;simp only[List.getElem?_toArray,List.getElem?_cons_zero,List.getElem?_cons_succ] at e1 q1;cases hlk:fZ (pU gs) k with
 | some gb=>
  obtain⟨y,wU,Yu,hyg⟩:=OU hlk;rw[hlk] at rX;unfold VD at rX;simp only[Option.map_some] at rX;subst hyg;have hyn:=JG.num y wU;have abV:(uD (dK gs) k).getD (RU p.aU xr)=y.g:=by rw[←Yu,NT JG.nd wU];rfl
  obtain⟨NS,V_⟩:∃NS,NS=gs:=⟨_,rfl⟩;have Ph:∀g',qJ (dK NS) k g'=qJ (dK gs) k g':=fun g'=>by rw[V_]
  have Uu:dO w1 base ge b rec now (B+1) NS:=by rw[V_];exact JG.more ω
  have YQ:wF S w0 NS:=by rw[V_];exact Nk
  rw[←V_] at wU;have Wj:=SN;have hM7:=Xn;have akw:=anZ;have akx:=an0;have hT7:=hT1;have bX7:=bX;clear hlk V_ JG Nk SN Xn anZ an0 hT1 bX awt awu hM0;obtain⟨n7,hn7,hML⟩:=hM7;have q3:=Wj.b3.cell 0;have q3l:=Wj.b3.lt;simp only[List.getElem?_toArray,List.getElem?_cons_zero] at q3;have iU:oV _ ab B asked:=⟨n7,hn7,hML⟩;have nab:=iU.aY;go_wp2_with (at_mapUpdate;refine xu hML rfl _ _ _ rfl Tryz.underlying9 Tryz.underlying122 (by unfold maxLen;omega) k (by unfold maxLen;omega) (.bool true) (.bool true) rfl rfl rfl (plainElem_bool Tryz.underlying4 true) ?_;intro w8 hM8 BM);have Po:=Wj.turn BM (.inr anV) (fun cur te fz hc=>(nab _ _ _ hc).elim);have SX:=Uu.other BM (fun e=>by injection e with e;exact hab e.symm) (fun m hm cur te fz hc=>by injection hm with hm;subst hm;exact (nab _ _ _ hc).elim);have Px:=akw.Ua BM nab;have aci:=akx.Ua BM nab;have bX8:=bX7.aQ BM (fun e=>by injection e with e;subst e;exact nab _ _ _ bX7);have hT8:=hT7.trans (uh.row BM (fun m hm cur te fz hc=>by injection hm with hm;subst hm;exact (nab _ _ _ hc).elim));have hA8:oV w8 ab (B+1) (asked++[k]):=⟨n7+1,ω,by rw[List.map_append];exact hM8⟩;have Au:=SX.at_ y wU;have y7:=Au.blk.c7;have yl:=Au.blk.lt;have q4:=Po.b4.c0;have q4l:=Po.b4.lt;have x3:=bX8.c3;have x3l:=bX8.lt;have cA:=ζ (fun wq (hq:ah w8 wq)=>W9 (k:=xik) wq (Au.jH.grows hq) Au.cge (fun W' yI=>((Px.grows hq).kept' yI (fun j hj=>by injection hj with hj;subst hj;exact aZ (Px.grows hq) (Au.jH.blk.grows hq) δ)).uU Qw) avW avb h0 h1 (SX.jH y wU));have d1:y.gb≠y.cb:=Au.blk.NJ Au.jH.blk δ;have d2:g4≠y.cb:=Po.b4.NJ Au.jH.blk δ;have d3:W.heap.size≠y.cb:=bX8.NJ Au.jH.blk δ;have d1':some y.gb≠some y.cb:=fun e=>d1 (Option.some.inj e)
  have d2':some g4≠some y.cb:=fun e=>d2 (Option.some.inj e)
  have d3':some W.heap.size≠some y.cb:=fun e=>d3 (Option.some.inj e)
  have aP:=ζ (ah.refl w8);clear hn7 hML q3 q3l iU nab hM8 BM Wj Uu akw akx bX7 hT7;refine jF ((some y.cb)) κ ?_;refine rK (up:=jG) (.range 7) 6 ?_;iterate 7 refine iD ?_
  refine aB ?_;refine aI [7] κ σ (fun wN hN hS=>(au.cons rfl (fun K' hK=> ?_) au.nil));try replace aP:=ζ (aP.o.trans hN)
  try replace LJ:=ζ (LJ.o.grows hN)
  try replace iP:=ζ (dS iP.o hN)
  clear hN;go_simp;refine (cA.out _ aP.o).mono ?_;rintro e w9 ⟨v9,rfl,LJ,iP⟩;replace LJ:=ζ LJ;replace iP:=ζ ((aP.o.keeps (some y.cb)).trans iP);clear aP cA;refine hK.o _ _ ?_ (fun hS=> ?_)
  ·exact iP.o
  clear hK hS;refine rK (up:=jG) [8,9,10,11,12] 0 ?_;iterate 5 refine iD ?_
  refine aB ?_;refine aH κ (fun wN hN hS=> ?_);try replace aP:=ζ (aP.o.trans hN)
  try replace LJ:=ζ (LJ.o.grows hN)
  try replace iP:=ζ (dS iP.o hN)
  obtain⟨y1,j_⟩:∃y1:GX,y1={y with g:={y.g with jH:=Eu y.g.jH now lC},v:=v9}:=⟨_,rfl⟩;have ab6:=Po.turn iP.o (YQ y wU).2 (fun cur te fz hc=> .inr (Au.jH.blk.lN hc));have SI:wG wN base y1:=by
   rw[j_];exact⟨Au.blk.aQ iP.o d1',LJ.o,Au.Z9,Au.cge,Au.kl⟩
  have hE9:=SX.upd (y:=y1) wU iP.o (.inr rfl) SI (by rw[j_]) (by rw[j_]) (by rw[j_]) (show y1.g.number≤B+1 by rw[j_];simp only;omega) (show y1.g.jH.now≤now by rw[j_];simp only;rw[Qj];exact Int.le_refl _) (Nat.le_refl _);have Wx:=YQ.upd (k:=y.key) (y:=y1) wU (by rw[j_]) (by rw[j_]);have acg:=Px.kept' iP.o (fun j hj=>by injection hj with hj;subst hj;exact aZ Px Au.jH.blk δ);have ach:=aci.kept' iP.o (fun j hj=>by injection hj with hj;subst hj;exact aZ aci Au.jH.blk δ);have bX9:=bX8.aQ iP.o d3';have hA9:=hA8.kept iP.o (fun e=>by injection e with e;subst e;exact hA8.aY _ _ _ Au.jH.blk);have hT9:=hT8.trans (uh.row iP.o (fun m hm cur te fz hc=>by injection hm with hm;subst hm;rw[Au.jH.blk.lN hc];decide));have hu1:dK (yP NS y.key y1)=qJ (dK gs) k y1.g:=by rw[←Yu];rw[Ox SX.nd wU (by rw[j_]),Yu,Ph]
  have ZQ:y1∈yP NS y.key y1:=adp wU;have hsome:(uD (dK NS) k).isSome:=by rw[←Yu,NT SX.nd wU];rfl
  have ajJ:y1.key=k:=by rw[j_];exact Yu
  have VU:y1.gb=y.gb:=by rw[j_]
  have aqN:y1.cb=y.cb:=by rw[j_]
  have ht0:y1.g = {y.g with jH:=Eu y.g.jH now lC}:=by rw[j_]
  have hS1:=fun g'=>Ph g'
  generalize yP NS y.key y1=S_ at *
  have aj6:ls.length≤B+1:=ω;have htu:XH y.g now lC={y1.g with number:=if Dk y.g.jH now lC then y.g.number+1 else y.g.number}:=by rw[ht0];rfl
  have O_:y1.g.number=y.g.number:=by rw[ht0]
  have aK:∀g',qJ (dK S_) k g'=qJ (dK gs) k g':=fun g'=>by
   rw[hu1,←Ph,TP (by rw[←Ph] at hu1;exact hsome),Ph]
  generalize hDU:Dk y.g.jH now lC=DU at *
  have aco:=ζ hDU;clear hDU Po SX YQ Px aci bX8 hA8 hT8 Au LJ iP y7 yl q4 q4l x3 x3l d1 d2 d3 d1' d2' d3' hS hN hS1 hsome;cases DU with
  | false=>
   go_wp2;go_end0;exact qZ IQ abV ab6 hE9 Wx hA9 aj6 hT9 (by rw[hu1,htu,←O_];rfl) (by rw[aco.o];rfl)
  | true=>
   have vS:aG wN y.gb 130 (Nr y1.g y1.r y1.cb):=by rw[←VU];exact SI.blk
   have n8:wN.cell? ⟨y.gb,8,none⟩=some (.int .i64 (y.g.number:Int)):=by rw[←O_];exact vS.cell 8
   have n8l:=vS.lt;have n8f:=vS.frozen 8;have Bl:=aj wN ⟨y.gb,8,none⟩ (.int .i64 ((y.g.number:Int)+1));obtain⟨gs3,GN,Ja,IW⟩:=hE9.count Wx ZQ (alm O_ hyn);rw[VU,O_] at GN;rw[ajJ,aK,O_] at IW;have ku:=ab6.turn Bl (by have:=(Wx y1 ZQ).1;rw[VU] at this;exact this) (fun cur te fz hc=> .inl (vS.lN hc));have I7:=acg.kept' Bl (fun j hj=>by injection hj with hj;subst hj;exact aZ acg vS δ);have I8:=ach.kept' Bl (fun j hj=>by injection hj with hj;subst hj;exact aZ ach vS δ);have WW:=bX9.aQ Bl (fun e=>by injection e with e;exact bX9.NJ vS δ e);have WJ:=hA9.kept Bl (fun e=>by injection e with e;subst e;exact hA9.aY _ _ _ vS);have Ws:=hT9.trans (uh.row Bl (fun m hm cur te fz hc=>by injection hm with hm;subst hm;rw[vS.lN hc];decide));have Pj:=vS.bH 8 (.int .i64 ((y.g.number:Int)+1));have n8':(wN.setCell ⟨y.gb,8,none⟩ (.int .i64 ((y.g.number:Int)+1))).cell? ⟨y.gb,8,none⟩=some (.int .i64 ((y.g.number:Int)+1)):=by
    have:=Pj.cell 8;unfold Nr at this;simpa using this
   have abp:=Pj.lt;replace IW:=ζ IW;replace GN:=ζ GN;replace Ja:=ζ Ja;replace ku:=ζ ku;replace I7:=ζ I7;replace I8:=ζ I8;replace WW:=ζ WW;replace WJ:=ζ WJ;replace Ws:=ζ Ws;replace n8':=ζ n8';replace abp:=ζ abp;clear hE9 Wx ab6 acg ach bX9 hA9 hT9 vS Pj Bl SI hu1 aK ZQ ajJ VU aqN;have hwr:=Tt hyn hB;clear j_;go_wp2;generalize wN.setCell ⟨y.gb,8,none⟩ (.int .i64 ((y.g.number:Int)+1))=Ol at *
   have m8:=n8'.out;have m8l:=abp.out;have akr:=I7.o.uU Qw;have aks:=I8.o.uU JB;have akq:=ku.o.own.uU abZ;have hML:Hid (jY fb p.aU rec ⟨xr,He,xk,lC⟩ (ys.map (·.a)) ((y.g.number:Int)+1) now=jY fb p.aU rec ⟨xr,He,xk,lC⟩ (ys.map (·.a)) ((y.g.number:Int)+1) now):=ζ rfl;have cMk:=ζ (fun W' (hW:ah Ol W')=>Yd (fb:=fb) (g:=⟨xr,xk,He,xbA,He.length,xbk,lC,xiA,lC.length,xik⟩) (rec:=rec) (n:=(y.g.number:Int)+1) (now:=now) (lk:=ok) W' (hSK W' (ku.o.off.iw hW)).utf (hSK W' (ku.o.off.iw hW)).aU nG (akq.keep hW) (hSK W' (ku.o.off.iw hW)).at_ avp (aks.keep hW) awl av4 (akr.keep hW) avU);unfold Vd dQ.g bQ.val at cMk;simp only at cMk;generalize Wy:jY fb p.aU rec ⟨xr,He,xk,lC⟩ (ys.map (·.a)) ((y.g.number:Int)+1) now=ML at *
   replace Wy:=ζ Wy;have e0:=GN.o.blk.c0;have el:=GN.o.blk.lt;have afO:=ζ ku.o.off.size;refine Jk (p:=p) (w0:=w0) cMk afO (ζ ku.o.b1) (ζ ku.o.b2) (ζ ku.o.b4) (ζ ku.o.b5) WW e0 el m8 m8l π ?_;intros
   rename_i w12 arP;obtain⟨gL,o,rfl,rfl,bL,YD,zq,KG⟩:=arP;replace bL:=bL.out;replace YD:=YD.o;replace zq:=zq.o;replace KG:=KG.o;have vU:=ζ (ku.o.grows KG);have akD:=ζ (GN.o.grows KG);have akL:=ζ (WJ.o.grows KG);have akt:=ζ (Ws.o.trans (uh.grows KG));clear e0 el m8 m8l ku GN WJ Ws I7 I8 WW cMk;cases o with
   | none=>
    simp only[Option.isSome_none];go_wp2;go_end0;exact qZ IQ abV vU.o akD.o Ja.o akL.o aj6 akt.o (by rw[IW.o,htu,ht0];rfl) (by rw[aco.o,if_pos rfl,Wy.o,←YD];simp)
   | some z=>
    simp only[Option.isSome_some];have q6:=vU.o.b6.c0;have q6l:=vU.o.b6.lt;have l0:=bL.c0;have l1:=bL.c1;have l2:=bL.c2;have l3:=bL.c3;have l4:=bL.c4;have l5:=bL.c5;have ll:=bL.lt;have jL:=ζ ((ah.refl w12).alloc (.cells (kE z).toArray 64));have hz:=ζ (zq z rfl);have acn:=ζ (vU.o.out.alloc (.cells (kE z).toArray 64));have acS:=ζ (vU.o.b6.alloc (.cells (kE z).toArray 64));have aqW:=ζ (show w0.heap.size≤w12.heap.size from vU.o.off.size);unfold kE at jL acn acS;clear zq bL;go_wp2_with (at_builtin;go_loud (refine dB (x:=z) asy rfl (.tmp 89) (.tmp 91) rfl acn.o rfl ⟨w12.heap.size,0,none⟩ rfl rfl (iK (by exact heap_alloc_new w12 _)) (aja z) (by have:=aqW.o;simp;omega) (by unfold maxLen;omega) ω (fun v7 w7 rH hgr qU=> ?_);(obtain⟨g7,k7,hv7⟩:=mg rH σ);(rw[List.length_append] at hv7);(simp only[List.length_cons,List.length_nil,Nat.zero_add] at hv7);(subst hv7);(have t_:=acS.out.aQ hgr (fun e=>aZ acn.o acS.out δ e.symm));(replace rH:=ζ rH);(replace hgr:=ζ hgr);(have c7:w7.cell? ⟨g6,0,none⟩=some v:=t_.cell 0);have l7:=t_.lt;have f7:=t_.frozen 0;clear qU t_));go_end0;obtain⟨arD,hEF,hAF,hTF⟩:=Zz (vU.o.grows jL.o) (akD.o.grows jL.o) (akL.o.grows jL.o) (akt.o.trans (uh.grows jL.o)) rH.o hgr.o (hz.o.grows jL.o);exact qZ IQ abV arD hEF Ja.o hAF (by simp;omega) hTF (by rw[IW.o,htu,ht0];rfl) (by rw[aco.o,if_pos rfl,Wy.o,←YD];simp)
 | none=>
  rw[hlk] at rX;unfold VD at rX;simp only[Option.map_none] at rX;have Kw:=(hSK w1 SN.off).aU.o;have qB:p.aU.routes=p.o.map (·.r):=rfl;have hxo:xr<p.om:=by rw[qB,List.length_map,Kw.1] at hr1;exact hr1
  obtain⟨ob,oo,rt,hoA,hob,hrt,hcell⟩:=Kw.at_ hxo;have c0:w1.cell? ⟨ob,oo+xr*6,none⟩=some (.string ⟨rt.r.r.toArray⟩):=hcell 0 _ rfl;have c1:w1.cell? ⟨ob,oo+xr*6+1,none⟩=some (.slice rt.bA rt.bm rt.bk):=hcell 1 _ rfl;have c2:w1.cell? ⟨ob,oo+xr*6+2,none⟩=some (.int .i64 rt.r.wait):=hcell 2 _ rfl;have c3:w1.cell? ⟨ob,oo+xr*6+3,none⟩=some (.int .i64 rt.r.every):=hcell 3 _ rfl;have c4:w1.cell? ⟨ob,oo+xr*6+4,none⟩=some (.int .i64 rt.r.again):=hcell 4 _ rfl;have c5:w1.cell? ⟨ob,oo+xr*6+5,none⟩=some (.slice rt.wA rt.wm rt.wk):=hcell 5 _ rfl;have hng:RU p.aU xr=⟨xr,rt.r.r,rt.r.wait,rt.r.every,rt.r.again,Gu rt.r.wait rt.r.every rt.r.again,0⟩:=by
   unfold RU;rw[qB,List.getElem?_map,hrt];rfl
  have am8:(xr:Int)<(p.om:Int):=ω;have q2:=SN.b2.c4;have q2l:=SN.b2.lt;have x0:=bX.c0;have xl:=bX.lt;rw[hoA] at q2;have bR:=aG.new w1 46 #[.string ⟨rt.r.r.toArray⟩,.slice rt.bA rt.bm rt.bk,.int .i64 rt.r.wait,.int .i64 rt.r.every,.int .i64 rt.r.again,.slice rt.wA rt.wm rt.wk];have hg2:ah w1 (w1.alloc (.cells #[.string ⟨rt.r.r.toArray⟩,.slice rt.bA rt.bm rt.bk,.int .i64 rt.r.wait,.int .i64 rt.r.every,.int .i64 rt.r.again,.slice rt.wA rt.wm rt.wk] 46)):=(ah.refl w1).alloc _;clear hcell Kw;go_wp2_with fail;replace x0:=hg2.cell x0;replace xl:=Nat.lt_of_lt_of_le xl hg2.size;have r0:=bR.cell 0;have r1:=bR.cell 1;have r2:=bR.cell 2;have r3:=bR.cell 3;have r4:=bR.cell 4;have r5:=bR.cell 5;have rl:=bR.lt;simp only[List.getElem?_toArray,List.getElem?_cons_zero,List.getElem?_cons_succ] at r0 r1 r2 r3 r4 r5;clear c0 c1 c2 c3 c4 c5 q2 q2l bR;generalize w1.alloc (.cells #[.string ⟨rt.r.r.toArray⟩,.slice rt.bA rt.bm rt.bk,.int .i64 rt.r.wait,.int .i64 rt.r.every,.int .i64 rt.r.again,.slice rt.wA rt.wm rt.wk] 46)=w2 at *
  have aP:=ζ (ah.refl w2);refine aF κ ?_;refine rK (.range 9) 4 ?_;iterate 9 refine ay ?_
  refine aB ?_;refine aI [9] κ σ (fun wN hN hS=>(au.cons rfl (fun K' hK=> ?_) au.nil));replace aP:=ζ (aP.o.trans hN);try replace Di:=ζ (Di.o.grows hN)
  try replace bG:=ζ (bG.out.grows hN)
  clear hN;go_simp;refine (aln wN).mono ?_;rintro e w5 ⟨cb,rfl,awg,Di,fK⟩;have awf:w1.heap.size≤cb:=Nat.le_trans (hg2.trans aP.o).size awg;replace Di:=ζ Di;replace aP:=ζ (aP.o.trans fK);refine hK.o _ _ ?_ (fun hS=> ?_)
  ·exact aP.o
  clear fK;clear hK hS;refine rK [10] 2 ?_;iterate 1 refine ay ?_
  refine aB ?_;refine aI [11] κ σ (fun wN hN hS=>(au.cons rfl (fun K' hK=> ?_) au.nil));replace aP:=ζ (aP.o.trans hN);try replace Di:=ζ (Di.o.grows hN)
  try replace bG:=ζ (bG.out.grows hN)
  clear hN;go_simp;have aAS:w1.heap.size≤wN.heap.size:=(hg2.trans aP.o).size;have bG:=ζ (aG.new wN 130 (Nr ⟨xr,rt.r.r,rt.r.wait,rt.r.every,rt.r.again,Gu rt.r.wait rt.r.every rt.r.again,0⟩ ⟨rt.bA,rt.bm,rt.bk,rt.wA,rt.wm,rt.wk⟩ cb));replace Di:=ζ (Di.o.grows ((ah.refl wN).alloc (.cells (Nr ⟨xr,rt.r.r,rt.r.wait,rt.r.every,rt.r.again,Gu rt.r.wait rt.r.every rt.r.again,0⟩ ⟨rt.bA,rt.bm,rt.bk,rt.wA,rt.wm,rt.wk⟩ cb) 130)));replace aP:=ζ (aP.o.alloc (.cells (Nr ⟨xr,rt.r.r,rt.r.wait,rt.r.every,rt.r.again,Gu rt.r.wait rt.r.every rt.r.again,0⟩ ⟨rt.bA,rt.bm,rt.bk,rt.wA,rt.wm,rt.wk⟩ cb) 130));unfold Nr at bG Di aP;simp only at bG Di aP;refine hK.o _ _ ?_ (fun hS=> ?_)
  ·exact aP.o
  generalize wN.heap.size=gb at *
  clear hK hS;refine rK [12] 0 ?_;iterate 1 refine ay ?_
  refine aB ?_;refine aH κ (fun wN hN hS=> ?_);replace aP:=ζ (aP.o.trans hN);try replace Di:=ζ (Di.o.grows hN)
  try replace bG:=ζ (bG.out.grows hN)
  have IX:=hg2.trans aP.o;have anR:=SN.grows IX;have Uw:=JG.grows IX;have hM6:=Xn.grows IX;have awL:=anZ.grows IX;have awM:=an0.grows IX;have hT6:=hT1.trans (uh.grows IX);have bX6:=bX.grows IX;have Es:=SN.off.size;obtain⟨n6,hn6,awQ⟩:=Uw.map;have nb:∀cur te fz,wN.heap[b]?≠some (.cells cur te fz):=awQ.aY;obtain⟨w7,ave,Uu,hg7⟩:=Uw.put (y:=⟨k,⟨xr,rt.r.r,rt.r.wait,rt.r.every,rt.r.again,Gu rt.r.wait rt.r.every rt.r.again,0⟩,⟨rt.bA,rt.bm,rt.bk,rt.wA,rt.wm,rt.wk⟩,gb,cb,.slice none 0 0⟩) hB ⟨bG.out,⟨Di.o.blk,Own.iO _ _ _ _ _,Di.o.ok,Di.o.Xg,Di.o.len⟩,by simp only;omega,by simp only;omega,JA⟩ hlk (fun z hz=>by have:=(JG.at_ z hz).blk.lt;simp only;omega) (fun z hz=>by have:=(JG.at_ z hz).jH.blk.lt;simp only;omega) (by simp only;omega) (by simp only;unfold Gu;exact h0);simp only at ave;have q1':=anR.b1.c0;have q1l:=anR.b1.lt;have e1':=Uw.blk.c1;have e1l:=Uw.blk.lt;have akw:=awL.Ua hg7 nb;have akx:=awM.Ua hg7 nb;have bX7:=bX6.aQ hg7 (fun e=>by injection e with e;subst e;exact nb _ _ _ bX6);have hT7:=hT6.trans (uh.row hg7 (fun m hm cur te fz hc=>by injection hm with hm;subst hm;exact (nb _ _ _ hc).elim));have Wj:=anR.turn hg7 (.inl hSb) (fun cur te fz hc=>(nb _ _ _ hc).elim);have hM7:=hM6.kept hg7 (fun e=>by injection e with e;exact hab e);have YQ:=Nk.put (y:=⟨k,⟨xr,rt.r.r,rt.r.wait,rt.r.every,rt.r.again,Gu rt.r.wait rt.r.every rt.r.again,0⟩,⟨rt.bA,rt.bm,rt.bk,rt.wA,rt.wm,rt.wk⟩,gb,cb,.slice none 0 0⟩) (by simp only;omega) (by simp only;omega);obtain⟨y,hy⟩:∃y:GX,y = ⟨k,⟨xr,rt.r.r,rt.r.wait,rt.r.every,rt.r.again,Gu rt.r.wait rt.r.every rt.r.again,0⟩,⟨rt.bA,rt.bm,rt.bk,rt.wA,rt.wm,rt.wk⟩,gb,cb,.slice none 0 0⟩:=⟨_,rfl⟩;rw[←hy] at Uu YQ;have Yu:y.key=k:=by rw[hy]
  have hyg:y.gb=gb:=by rw[hy]
  have hyn:y.g.number≤B:=by rw[hy];exact Nat.zero_le _
  have hno:=agn hlk;have abV:(uD (dK gs) k).getD (RU p.aU xr)=y.g:=by rw[hno,hy];exact hng
  have Ph:∀g',qJ (dK (gs++[y])) k g'=qJ (dK gs) k g':=fun g'=>by
   have:dK (gs++[y])=dK gs++[(k,y.g)]:=by unfold dK;rw[List.map_append,←Yu];rfl
   rw[this];exact aeH hno
  have wU:y∈gs++[y]:=by simp
  generalize gs++[y]=NS at *
  subst hyg;clear hy hno hlk rX qB hxo hrt hoA hob hng am8 aAS awg awf bG Di aP hg2 IX anR Uw hM6 awL awM hT6 bX6 nb awQ hn6 hg7 SN JG Xn hT1 anZ an0 awt awu bX e1 q1 el ql x0 xl r0 r1 r2 r3 r4 r5 rl hM0 hnB hS;obtain⟨n7,hn7,hML⟩:=hM7;have q3:=Wj.b3.cell 0;have q3l:=Wj.b3.lt;simp only[List.getElem?_toArray,List.getElem?_cons_zero] at q3;have iU:oV _ ab B asked:=⟨n7,hn7,hML⟩;have nab:=iU.aY;go_wp2_with (at_mapUpdate;refine xu hML rfl _ _ _ rfl Tryz.underlying9 Tryz.underlying122 (by unfold maxLen;omega) k (by unfold maxLen;omega) (.bool true) (.bool true) rfl rfl rfl (plainElem_bool Tryz.underlying4 true) ?_;intro w8 hM8 BM);have Po:=Wj.turn BM (.inr anV) (fun cur te fz hc=>(nab _ _ _ hc).elim);have SX:=Uu.other BM (fun e=>by injection e with e;exact hab e.symm) (fun m hm cur te fz hc=>by injection hm with hm;subst hm;exact (nab _ _ _ hc).elim);have Px:=akw.Ua BM nab;have aci:=akx.Ua BM nab;have bX8:=bX7.aQ BM (fun e=>by injection e with e;subst e;exact nab _ _ _ bX7);have hT8:=hT7.trans (uh.row BM (fun m hm cur te fz hc=>by injection hm with hm;subst hm;exact (nab _ _ _ hc).elim));have hA8:oV w8 ab (B+1) (asked++[k]):=⟨n7+1,ω,by rw[List.map_append];exact hM8⟩;have Au:=SX.at_ y wU;have y7:=Au.blk.c7;have yl:=Au.blk.lt;have q4:=Po.b4.c0;have q4l:=Po.b4.lt;have x3:=bX8.c3;have x3l:=bX8.lt;have cA:=ζ (fun wq (hq:ah w8 wq)=>W9 (k:=xik) wq (Au.jH.grows hq) Au.cge (fun W' yI=>((Px.grows hq).kept' yI (fun j hj=>by injection hj with hj;subst hj;exact aZ (Px.grows hq) (Au.jH.blk.grows hq) δ)).uU Qw) avW avb h0 h1 (SX.jH y wU));have d1:y.gb≠y.cb:=Au.blk.NJ Au.jH.blk δ;have d2:g4≠y.cb:=Po.b4.NJ Au.jH.blk δ;have d3:W.heap.size≠y.cb:=bX8.NJ Au.jH.blk δ;have d1':some y.gb≠some y.cb:=fun e=>d1 (Option.some.inj e)
  have d2':some g4≠some y.cb:=fun e=>d2 (Option.some.inj e)
  have d3':some W.heap.size≠some y.cb:=fun e=>d3 (Option.some.inj e)
  have aP:=ζ (ah.refl w8);clear hn7 hML q3 q3l iU nab hM8 BM Wj Uu akw akx bX7 hT7;refine jF ((some y.cb)) κ ?_;refine rK (up:=jG) (.range 7) 6 ?_;iterate 7 refine iD ?_
  refine aB ?_;refine aI [7] κ σ (fun wN hN hS=>(au.cons rfl (fun K' hK=> ?_) au.nil));try replace aP:=ζ (aP.o.trans hN)
  try replace LJ:=ζ (LJ.o.grows hN)
  try replace iP:=ζ (dS iP.o hN)
  clear hN;go_simp;refine (cA.out _ aP.o).mono ?_;rintro e w9 ⟨v9,rfl,LJ,iP⟩;replace LJ:=ζ LJ;replace iP:=ζ ((aP.o.keeps (some y.cb)).trans iP);clear aP cA;refine hK.o _ _ ?_ (fun hS=> ?_)
  ·exact iP.o
  clear hK hS;refine rK (up:=jG) [8,9,10,11,12] 0 ?_;iterate 5 refine iD ?_
  refine aB ?_;refine aH κ (fun wN hN hS=> ?_);try replace aP:=ζ (aP.o.trans hN)
  try replace LJ:=ζ (LJ.o.grows hN)
  try replace iP:=ζ (dS iP.o hN)
  obtain⟨y1,j_⟩:∃y1:GX,y1={y with g:={y.g with jH:=Eu y.g.jH now lC},v:=v9}:=⟨_,rfl⟩;have ab6:=Po.turn iP.o (YQ y wU).2 (fun cur te fz hc=> .inr (Au.jH.blk.lN hc));have SI:wG wN base y1:=by
   rw[j_];exact⟨Au.blk.aQ iP.o d1',LJ.o,Au.Z9,Au.cge,Au.kl⟩
  have hE9:=SX.upd (y:=y1) wU iP.o (.inr rfl) SI (by rw[j_]) (by rw[j_]) (by rw[j_]) (show y1.g.number≤B+1 by rw[j_];simp only;omega) (show y1.g.jH.now≤now by rw[j_];simp only;rw[Qj];exact Int.le_refl _) (Nat.le_refl _);have Wx:=YQ.upd (k:=y.key) (y:=y1) wU (by rw[j_]) (by rw[j_]);have acg:=Px.kept' iP.o (fun j hj=>by injection hj with hj;subst hj;exact aZ Px Au.jH.blk δ);have ach:=aci.kept' iP.o (fun j hj=>by injection hj with hj;subst hj;exact aZ aci Au.jH.blk δ);have bX9:=bX8.aQ iP.o d3';have hA9:=hA8.kept iP.o (fun e=>by injection e with e;subst e;exact hA8.aY _ _ _ Au.jH.blk);have hT9:=hT8.trans (uh.row iP.o (fun m hm cur te fz hc=>by injection hm with hm;subst hm;rw[Au.jH.blk.lN hc];decide));have hu1:dK (yP NS y.key y1)=qJ (dK gs) k y1.g:=by rw[←Yu];rw[Ox SX.nd wU (by rw[j_]),Yu,Ph]
  have ZQ:y1∈yP NS y.key y1:=adp wU;have hsome:(uD (dK NS) k).isSome:=by rw[←Yu,NT SX.nd wU];rfl
  have ajJ:y1.key=k:=by rw[j_];exact Yu
  have VU:y1.gb=y.gb:=by rw[j_]
  have aqN:y1.cb=y.cb:=by rw[j_]
  have ht0:y1.g = {y.g with jH:=Eu y.g.jH now lC}:=by rw[j_]
  have hS1:=fun g'=>Ph g'
  generalize yP NS y.key y1=S_ at *
  have aj6:ls.length≤B+1:=ω;have htu:XH y.g now lC={y1.g with number:=if Dk y.g.jH now lC then y.g.number+1 else y.g.number}:=by rw[ht0];rfl
  have O_:y1.g.number=y.g.number:=by rw[ht0]
  have aK:∀g',qJ (dK S_) k g'=qJ (dK gs) k g':=fun g'=>by
   rw[hu1,←Ph,TP (by rw[←Ph] at hu1;exact hsome),Ph]
  generalize hDU:Dk y.g.jH now lC=DU at *
  have aco:=ζ hDU;clear hDU Po SX YQ Px aci bX8 hA8 hT8 Au LJ iP y7 yl q4 q4l x3 x3l d1 d2 d3 d1' d2' d3' hS hN hS1 hsome;cases DU with
  | false=>
   go_wp2;go_end0;exact qZ IQ abV ab6 hE9 Wx hA9 aj6 hT9 (by rw[hu1,htu,←O_];rfl) (by rw[aco.o];rfl)
  | true=>
   have vS:aG wN y.gb 130 (Nr y1.g y1.r y1.cb):=by rw[←VU];exact SI.blk
   have n8:wN.cell? ⟨y.gb,8,none⟩=some (.int .i64 (y.g.number:Int)):=by rw[←O_];exact vS.cell 8
   have n8l:=vS.lt;have n8f:=vS.frozen 8;have Bl:=aj wN ⟨y.gb,8,none⟩ (.int .i64 ((y.g.number:Int)+1));obtain⟨gs3,GN,Ja,IW⟩:=hE9.count Wx ZQ (alm O_ hyn);rw[VU,O_] at GN;rw[ajJ,aK,O_] at IW;have ku:=ab6.turn Bl (by have:=(Wx y1 ZQ).1;rw[VU] at this;exact this) (fun cur te fz hc=> .inl (vS.lN hc));have I7:=acg.kept' Bl (fun j hj=>by injection hj with hj;subst hj;exact aZ acg vS δ);have I8:=ach.kept' Bl (fun j hj=>by injection hj with hj;subst hj;exact aZ ach vS δ);have WW:=bX9.aQ Bl (fun e=>by injection e with e;exact bX9.NJ vS δ e);have WJ:=hA9.kept Bl (fun e=>by injection e with e;subst e;exact hA9.aY _ _ _ vS);have Ws:=hT9.trans (uh.row Bl (fun m hm cur te fz hc=>by injection hm with hm;subst hm;rw[vS.lN hc];decide));have Pj:=vS.bH 8 (.int .i64 ((y.g.number:Int)+1));have n8':(wN.setCell ⟨y.gb,8,none⟩ (.int .i64 ((y.g.number:Int)+1))).cell? ⟨y.gb,8,none⟩=some (.int .i64 ((y.g.number:Int)+1)):=by
    have:=Pj.cell 8;unfold Nr at this;simpa using this
   have abp:=Pj.lt;replace IW:=ζ IW;replace GN:=ζ GN;replace Ja:=ζ Ja;replace ku:=ζ ku;replace I7:=ζ I7;replace I8:=ζ I8;replace WW:=ζ WW;replace WJ:=ζ WJ;replace Ws:=ζ Ws;replace n8':=ζ n8';replace abp:=ζ abp;clear hE9 Wx ab6 acg ach bX9 hA9 hT9 vS Pj Bl SI hu1 aK ZQ ajJ VU aqN;have hwr:=Tt hyn hB;clear j_;go_wp2;generalize wN.setCell ⟨y.gb,8,none⟩ (.int .i64 ((y.g.number:Int)+1))=Ol at *
   have m8:=n8'.out;have m8l:=abp.out;have akr:=I7.o.uU Qw;have aks:=I8.o.uU JB;have akq:=ku.o.own.uU abZ;have hML:Hid (jY fb p.aU rec ⟨xr,He,xk,lC⟩ (ys.map (·.a)) ((y.g.number:Int)+1) now=jY fb p.aU rec ⟨xr,He,xk,lC⟩ (ys.map (·.a)) ((y.g.number:Int)+1) now):=ζ rfl;have cMk:=ζ (fun W' (hW:ah Ol W')=>Yd (fb:=fb) (g:=⟨xr,xk,He,xbA,He.length,xbk,lC,xiA,lC.length,xik⟩) (rec:=rec) (n:=(y.g.number:Int)+1) (now:=now) (lk:=ok) W' (hSK W' (ku.o.off.iw hW)).utf (hSK W' (ku.o.off.iw hW)).aU nG (akq.keep hW) (hSK W' (ku.o.off.iw hW)).at_ avp (aks.keep hW) awl av4 (akr.keep hW) avU);unfold Vd dQ.g bQ.val at cMk;simp only at cMk;generalize Wy:jY fb p.aU rec ⟨xr,He,xk,lC⟩ (ys.map (·.a)) ((y.g.number:Int)+1) now=ML at *
   replace Wy:=ζ Wy;have e0:=GN.o.blk.c0;have el:=GN.o.blk.lt;have afO:=ζ ku.o.off.size;refine Jk (p:=p) (w0:=w0) cMk afO (ζ ku.o.b1) (ζ ku.o.b2) (ζ ku.o.b4) (ζ ku.o.b5) WW e0 el m8 m8l π ?_;intros
   rename_i w12 arP;obtain⟨gL,o,rfl,rfl,bL,YD,zq,KG⟩:=arP;replace bL:=bL.out;replace YD:=YD.o;replace zq:=zq.o;replace KG:=KG.o;have vU:=ζ (ku.o.grows KG);have akD:=ζ (GN.o.grows KG);have akL:=ζ (WJ.o.grows KG);have akt:=ζ (Ws.o.trans (uh.grows KG));clear e0 el m8 m8l ku GN WJ Ws I7 I8 WW cMk;cases o with
   | none=>
    simp only[Option.isSome_none];go_wp2;go_end0;exact qZ IQ abV vU.o akD.o Ja.o akL.o aj6 akt.o (by rw[IW.o,htu,ht0];rfl) (by rw[aco.o,if_pos rfl,Wy.o,←YD];simp)
   | some z=>
    simp only[Option.isSome_some];have q6:=vU.o.b6.c0;have q6l:=vU.o.b6.lt;have l0:=bL.c0;have l1:=bL.c1;have l2:=bL.c2;have l3:=bL.c3;have l4:=bL.c4;have l5:=bL.c5;have ll:=bL.lt;have jL:=ζ ((ah.refl w12).alloc (.cells (kE z).toArray 64));have hz:=ζ (zq z rfl);have acn:=ζ (vU.o.out.alloc (.cells (kE z).toArray 64));have acS:=ζ (vU.o.b6.alloc (.cells (kE z).toArray 64));have aqW:=ζ (show w0.heap.size≤w12.heap.size from vU.o.off.size);unfold kE at jL acn acS;clear zq bL;go_wp2_with (at_builtin;go_loud (refine dB (x:=z) asy rfl (.tmp 89) (.tmp 91) rfl acn.o rfl ⟨w12.heap.size,0,none⟩ rfl rfl (iK (by exact heap_alloc_new w12 _)) (aja z) (by have:=aqW.o;simp;omega) (by unfold maxLen;omega) ω (fun v7 w7 rH hgr qU=> ?_);(obtain⟨g7,k7,hv7⟩:=mg rH σ);(rw[List.length_append] at hv7);(simp only[List.length_cons,List.length_nil,Nat.zero_add] at hv7);(subst hv7);(have t_:=acS.out.aQ hgr (fun e=>aZ acn.o acS.out δ e.symm));(replace rH:=ζ rH);(replace hgr:=ζ hgr);(have c7:w7.cell? ⟨g6,0,none⟩=some v:=t_.cell 0);have l7:=t_.lt;have f7:=t_.frozen 0;clear qU t_));go_end0;obtain⟨arD,hEF,hAF,hTF⟩:=Zz (vU.o.grows jL.o) (akD.o.grows jL.o) (akL.o.grows jL.o) (akt.o.trans (uh.grows jL.o)) rH.o hgr.o (hz.o.grows jL.o);exact qZ IQ abV arD hEF Ja.o hAF (by simp;omega) hTF (by rw[IW.o,htu,ht0];rfl) (by rw[aco.o,if_pos rfl,Wy.o,←YD];simp)
theorem Qr.more {p:fQ} {n m:Nat} {g:ni} (h:Qr p n g) (hn:n≤m):Qr p m g:=⟨h.r,h.r12,h.fP,h.Xg,Nat.le_trans h.ids hn⟩
def Dw (mk:ni→Int→Option N_) (p:fQ) (now:Int) (gs:List (List UInt8×A_)) (G:List dQ) (k:Nat):alZ:=((G.take k).map dQ.g).foldl (KX mk p now) ⟨gs,[],[]⟩
theorem acW {mk:ni→Int→Option N_} {p:fQ} {now:Int} {gs:List (List UInt8×A_)} {G:List dQ} {k:Nat} {x:dQ} (hx:G[k]? = some x):Dw mk p now gs G (k+1)=KX mk p now (Dw mk p now gs G k) x.g:=by
 unfold Dw;rw[List.take_add_one,hx,List.map_append,List.foldl_append];rfl
theorem ak1 {fb:cu→Bool} {p:bQ} {S:Nat→Prop} {w0:World} {base ge b ab B om ok g1 g2 g3 g4 g5 g6 c83 b1:Nat} {rec:List UInt8} {now:Int} {oA A83:Option Addr} {ys:List dD} {gs:List GX} {G:List dQ} {wS:World} {Q0:Exit→Act→World→Prop} {x0 x1 x2 x3 x4 x5 x6 x7 x8 x9 Gf E8 BJ Ii E5 Jw DL H6 HY En Em EZ EY EX DK DJ DI Ej Ei Eh Ef Ee Ed Ec Eb Ea D_ D9 D8 Hy EW EU ET ES ER EP EO EN EM EL EK EJ EI Ih Hw F9 D7 EH EG Ig Ie Ic Hu Ht Hr Hq F8 F7 F6 F5 Ho Hl Hg FZ FY FX FV FQ FP FN FM FK Hf FH EF ED EC Ez Ey JM JL Ib Ia Oc L9 L8 tq sZ sW sV sU sS sQ sO sN sK sJ sH uS uj:Value}
 (hSK:Hid (∀W,nN S w0 W→alT p ys W)) (nG:Hid (lW fb p)) (BN:Hid (oh S w0 wS p.cells.toArray ge ab now oA om ok ys g1 g2 g3 g4 g5 g6 (.slice none 0 0) [])) (hE:Hid (dO wS base ge b rec now B gs)) (Nk:Hid (wF S w0 gs)) (hM:Hid (oV wS ab B [])) (hab:ab≠b) (anV:w0.heap.size≤ab) (hSb:Hid (S b)) (hlb:base≤w0.heap.size) (hB:Hid (B+G.length≤1000000)) (h0:0≤now) (h1:Hid (now≤eY)) (hom:om≤12) (hG:Hid (Nz wS b1 (.slice A83 G.length c83) G)) (hGs:Hid (Xd wS b1 G)) (hb1:w0.heap.size≤b1) (Fg:Hid (∀x∈G,Qr p.aU 12 x.g))
 (hQ0:∀c a d v w,Q0 (.panic c) (Act.put a d v) w→Q0 (.panic c) a w)
 (oO:∀(u22 u85 u86 u87 u88 u89 u90 u91 u92:Value) (wr:World),(∃(gs':List GX) (v':Value) (RY:List fO),Hid (oh S w0 wr p.cells.toArray ge ab now oA om ok ys g1 g2 g3 g4 g5 g6 v' RY)∧Hid (dO wr base ge b rec now (B+G.length) gs')∧Hid (wF S w0 gs')∧Hid (oV wr ab (B+G.length) (Dw (fun x n=>jY fb p.aU rec x (ys.map (·.a)) n now) p.aU now (dK gs) G G.length).asked)∧Hid (RY.length≤B+G.length)∧Hid (dK gs'=(Dw (fun x n=>jY fb p.aU rec x (ys.map (·.a)) n now) p.aU now (dK gs) G G.length).gs)∧Hid (RY.map (·.xM)=(Dw (fun x n=>jY fb p.aU rec x (ys.map (·.a)) n now) p.aU now (dK gs) G G.length).out))→Q0 (.exit 4) ⟨(x0::x1::x2::x3::x4::x5::x6::x7::x8::x9::Gf::E8::BJ::Ii::E5::Jw::DL::H6::HY::En::(.func (.func 43) #[] #[.pointer (some ⟨g1,0,none⟩),.pointer (some ⟨g2,0,none⟩),.pointer (some ⟨g3,0,none⟩),.pointer (some ⟨g4,0,none⟩),.pointer (some ⟨g5,0,none⟩),.pointer (some ⟨g6,0,none⟩)])::Em::u22::EY::EX::DK::DJ::DI::Ej::Ei::Eh::Ef::Ee::Ed::Ec::Eb::Ea::D_::D9::D8::Hy::EW::EU::ET::ES::ER::EP::EO::EN::EM::EL::EK::EJ::EI::Ih::Hw::F9::D7::EH::EG::Ig::Ie::Ic::Hu::Ht::Hr::Hq::F8::F7::F6::F5::Ho::Hl::Hg::FZ::FY::FX::FV::FQ::FP::FN::FM::FK::(.slice A83 G.length c83)::(.int .i64 (G.length:Int))::u85::u86::u87::u88::u89::u90::u91::u92::JM::JL::Ib::Ia::Oc::L9::L8::tq::sZ::sW::sV::sU::sS::sQ::sO::sN::sK::sJ::sH::uS::uj::[]).toArray,[]⟩ wr) :
 Code.wp Tryz.prog (Ai Tryz.f13 2) Q0 ⟨(x0::x1::x2::x3::x4::x5::x6::x7::x8::x9::Gf::E8::BJ::Ii::E5::Jw::DL::H6::HY::En::(.func (.func 43) #[] #[.pointer (some ⟨g1,0,none⟩),.pointer (some ⟨g2,0,none⟩),.pointer (some ⟨g3,0,none⟩),.pointer (some ⟨g4,0,none⟩),.pointer (some ⟨g5,0,none⟩),.pointer (some ⟨g6,0,none⟩)])::Em::EZ::EY::EX::DK::DJ::DI::Ej::Ei::Eh::Ef::Ee::Ed::Ec::Eb::Ea::D_::D9::D8::Hy::EW::EU::ET::ES::ER::EP::EO::EN::EM::EL::EK::EJ::EI::Ih::Hw::F9::D7::EH::EG::Ig::Ie::Ic::Hu::Ht::Hr::Hq::F8::F7::F6::F5::Ho::Hl::Hg::FZ::FY::FX::FV::FQ::FP::FN::FM::FK::(.slice A83 G.length c83)::(.int .i64 (G.length:Int))::(.int .i64 0)::Hf::FH::EF::ED::EC::Ez::Ey::JM::JL::Ib::Ia::Oc::L9::L8::tq::sZ::sW::sV::sU::sS::sQ::sO::sN::sK::sJ::sH::uS::uj::[]).toArray,[]⟩ wS:=by
 conv=>arg 2;whnf
 have hqz:=hQ0;clear hqz;have hGb:G.length≤1000000:=by have:=hB.o;omega
 have f_:=ζ (fun k x (hx:G[k]? = some x)=>acW (mk:=fun x n=>jY fb p.aU rec x (ys.map (·.a)) n now) (p:=p.aU) (now:=now) (gs:=dK gs) hx);have Pe:Dw (fun x n=>jY fb p.aU rec x (ys.map (·.a)) n now) p.aU now (dK gs) G 0=⟨dK gs,[],[]⟩:=rfl;have cK:=ζ (fun W gs' asked v ls k x ZW hE' hN' hM' hll iQ hxi hxf hg=>alc (fb:=fb) (p:=p) (S:=S) (w0:=w0) (base:=base) (ge:=ge) (b:=b) (ab:=ab) (B:=B+k) (rec:=rec) (now:=now) (oA:=oA) (om:=om) (ok:=ok) (ys:=ys) (g1:=g1) (g2:=g2) (g3:=g3) (g4:=g4) (g5:=g5) (g6:=g6) (gs:=gs') (asked:=asked) (v:=v) (ls:=ls) (x:=x) W hSK.o nG.o ZW hE' hN' hM' hab anV hSb.o hlb hll iQ h0 h1.o hom hxi hxf hg);generalize hT:Dw (fun x n=>jY fb p.aU rec x (ys.map (·.a)) n now) p.aU now (dK gs) G=T at *
 replace Pe:=ζ Pe;clear hT;go_loopw [85] (fun i wr=>∃(k:Nat) (gs':List GX) (v':Value) (RY:List fO),k≤G.length∧i =.int .i64 (k:Int)∧Hid (oh S w0 wr p.cells.toArray ge ab now oA om ok ys g1 g2 g3 g4 g5 g6 v' RY)∧Hid (dO wr base ge b rec now (B+k) gs')∧Hid (wF S w0 gs')∧Hid (oV wr ab (B+k) (T k).asked)∧Hid (RY.length≤B+k)∧Hid (dK gs'=(T k).gs)∧Hid (RY.map (·.xM)=(T k).out)∧Hid (uh ag_ wS wr)) (fun i _=>G.length-(intOf i).toNat)
 case atStart=>exact⟨0,gs,_,[],ω,rfl,BN,hE,Nk,by rw[Pe.o];exact hM,ζ (Nat.zero_le _),ζ (by rw[Pe.o]),ζ (by rw[Pe.o];rfl),ζ (uh.refl _ _)⟩
 case round=>
  obtain⟨k,gs',v',RY,hk,rfl,anQ,hEr,hNr,hMr,hlr,hgr,hor,hTr⟩:=hrel;by_cases qC:k<G.length
  ·obtain⟨A9,c9,hv9,-,-,hX9⟩:=(uh.own hG.o hTr.o δ).arr hkG;simp only[Value.slice.injEq] at hv9;obtain⟨rfl,-,rfl⟩:=hv9;obtain⟨bb,off,x,rfl,CW,hx,hcell⟩:=hX9.at_ qC;have c0:wr.cell? ⟨bb,off+k*4,none⟩=some (.int .i64 (x.r:Int)):=by simpa using hcell 0 _ rfl
   have c1:wr.cell? ⟨bb,off+k*4+1,none⟩=some (.slice x.bA x.bm x.bk):=hcell 1 _ rfl;have c2:wr.cell? ⟨bb,off+k*4+2,none⟩=some (.int .u64 (x.key:Int)):=hcell 2 _ rfl;have c3:wr.cell? ⟨bb,off+k*4+3,none⟩=some (.slice x.iA x.im x.ik):=hcell 3 _ rfl;have wL:=List.mem_of_getElem? hx;obtain⟨hxi,hxf⟩:=hGs.o x wL;have jL:ah wr (wr.alloc (.cells #[.int .i64 (x.r:Int),.slice x.bA x.bm x.bk,.int .u64 (x.key:Int),.slice x.iA x.im x.ik] 125)):=(ah.refl wr).alloc _;have am8:=((uh.own hxi hTr.o δ).bK hb1).grows jL;have au6:=((uh.own hxf hTr.o δ).bK hb1).grows jL;have cX:=ζ (cK.out _ gs' (T k).asked v' RY k x (anQ.o.grows jL) (hEr.o.grows jL) hNr.o (hMr.o.grows jL) hlr.o (by have:=hB.o;omega) am8 au6 (Fg.o x wL));have hTa:=ζ (hTr.o.trans (uh.grows jL));have hTk:Hid (T (k+1)=KX (fun x n=>jY fb p.aU rec x (ys.map (·.a)) n now) p.aU now (T k) x.g):=ζ (f_.o k x hx);have kX:(k:Int)<(G.length:Int):=ω;unfold Vd at cX;clear hcell hx hxi hxf am8 au6 hX9 anQ hEr hNr hMr hlr hTr;go_wp2_with fail;refine cX.out.mono ?_;rintro e w5 ⟨rfl,gs5,v5,ls5,arE,YT,arR,hM5,arb,hT5,anJ,anx⟩;have arL:T (k+1)=KX (fun x n=>jY fb p.aU rec x (ys.map (·.a)) n now) p.aU now ⟨dK gs',(T k).asked,RY.map (·.xM)⟩ x.g:=by
    rw[hTk.o,hgr.o,hor.o]
   rw[←arL] at anJ anx;have Pq:(T k).asked++[dw x.g.route x.g.fP]=(T (k+1)).asked:=by rw[arL];rfl
   rw[Pq] at hM5;have hT6:=ζ (hTa.o.trans hT5);replace arE:=ζ arE;replace YT:=ζ YT;replace arR:=ζ arR;replace hM5:=ζ hM5;replace arb:=ζ arb;replace anJ:=ζ anJ;replace anx:=ζ anx;clear cX hTa hT5 hTk arL Pq c0 c1 c2 c3 jL;go_wp2;go_roundw
   case rel=>exact⟨k+1,gs5,v5,ls5,ω,ν,arE,YT,arR,hM5,arb,anJ,anx,hT6⟩
   case measure=>exact ψ
  ·obtain rfl:k=G.length:=ω;clear hTr cK f_;go_wp2;first
    | exact⟨gs',v',RY,anQ,hEr,hNr,hMr,hlr,hgr,hor⟩
    | exact oO _ _ _ _ _ _ _ _ _ _ _ _ _ _ _ _ _ _ ⟨gs',v',RY,anQ,hEr,hNr,hMr,hlr,hgr,hor⟩
theorem OV (s:List UInt8):∀l:List (List UInt8),nR (l.map fun k=>(k,Lit.bool true)) s = if s∈l then some (.bool true) else none
 | []=>rfl
 | a ::l=>by
  rw[List.map_cons,vM,OV s l];by_cases h:s∈l
  ·simp[h]
  ·by_cases e:a = s
   ·simp[h,e]
   ·simp[h,e,Ne.symm e]
theorem oV.look {W:World} {ab B:Nat} {asked:List (List UInt8)} (h:oV W ab B asked) {s:List UInt8} (hs:s.length≤1000000) :
 (Instr.lookup 122 (.map (some ab)) (.string ⟨s.toArray⟩) false).run Tryz.prog W=.ok (.bool (decide (s∈asked))) W:=by
 obtain⟨n,-,h⟩:=h;refine h.Uc Tryz.underlying9 Tryz.underlying122 Tryz.underlying4 κ (by unfold maxLen;omega) ?_;rw[OV];by_cases hm:s∈asked <;> simp[hm]
theorem oV.lt {W:World} {ab B:Nat} {asked:List (List UInt8)} (h:oV W ab B asked):ab<W.heap.size:=by
 obtain⟨n,-,h⟩:=h;exact jg.lt h
theorem oV.off {S:Nat→Prop} {W W':World} {ab B:Nat} {asked:List (List UInt8)} (h:oV W ab B asked) (hO:nN S W W') (hn:¬S ab):oV W' ab B asked:=by
 have hl:=h.lt;obtain⟨n,hb,es,clock,he,hr⟩:=h;exact⟨n,hb,es,clock,(hO.block ab hl hn).trans he,hr⟩
theorem ah2 {gs:List GX} (hn:(gs.map (·.key)).Nodup) {x y:GX} (hx:x∈gs) (hk:y.key=x.key) (hg:y.gb=x.gb) (hc:y.cb=x.cb):pU (yP gs x.key y)=pU gs∧(yP gs x.key y).map (·.gb)=gs.map (·.gb)∧(yP gs x.key y).map (·.cb)=gs.map (·.cb):=
 ⟨uT (f:=fun x=>(x.key,x.gb)) hx hn rfl (by rw[hk,hg]),uT hx hn rfl hg,uT hx hn rfl hc⟩
theorem ak0 {base ge b ab B r n g3 g4:Nat} {rec:List UInt8} {now:Int} {asked:List (List UInt8)} {gs:List GX} {D:DataW Unit} {wS:World} {Q0:Exit→Act→World→Prop} {x0 x1 x2 x3 x4 x5 x6 x7 x8 Gf E8 BJ Ii E5 Jw DL H6 En Hz Em EZ EY EX DK DJ DI Ej Ei Eh Ef Ee Ed Ec Eb Ea D_ D9 D8 Hy EW EU ET ES ER EP EO EN EM EL EK EJ EI Ih Hw F9 D7 EH EG Ig Ie Ic Hu Ht Hr Hq F8 F7 F6 F5 Ho Hl Hg FZ FY FX FV FQ FP FN FM FK Jv Ju Jt Hf FH EF ED EC Ez Ey JM JL Ib Ia L9 L8 tq sZ sW sV sU sS sQ sO sN sK sJ sH uS uj:Value}
 (hb3:Hid (aG wS g3 122 #[.map (some ab)])) (hb4:Hid (aG wS g4 3 #[.int .i64 now])) (hM:Hid (oV wS ab B asked)) (hE:Hid (dO wS base ge b rec now B gs)) (hrg0:wS.ranges Tryz.prog 9 yU b r n D (Maps.has D) (Maps.size D)) (hD:Hid (Bg D (pU gs))) (h0:0≤now) (h1:Hid (now≤eY))
 (hQ0:∀c a d v w,Q0 (.panic c) (Act.put a d v) w→Q0 (.panic c) a w)
 (oO:∀(u23 u24 u98 u99 Vt Vs Vr Vq Vp Vo Vm Vl Vk Vj Vh Vg aak:Value) (wr:World),(∃gs':List GX,Hid (dO wr base ge b rec now B gs')∧Hid (dK gs'=(dK gs).map (GU asked now))∧Hid (gs'.map (·.gb)=gs.map (·.gb))∧Hid (gs'.map (·.cb)=gs.map (·.cb))∧Hid (nN (fun j=>j = r∨∃x∈gs,j = x.cb) wS wr)∧Hid (uh [180] wS wr))→Q0 (.exit 6) ⟨(x0::x1::x2::x3::x4::x5::x6::x7::x8::(.pointer (some ⟨g4,0,none⟩))::Gf::E8::BJ::Ii::E5::Jw::DL::H6::(.pointer (some ⟨g3,0,none⟩))::En::Hz::Em::EZ::u23::u24::DK::DJ::DI::Ej::Ei::Eh::Ef::Ee::Ed::Ec::Eb::Ea::D_::D9::D8::Hy::EW::EU::ET::ES::ER::EP::EO::EN::EM::EL::EK::EJ::EI::Ih::Hw::F9::D7::EH::EG::Ig::Ie::Ic::Hu::Ht::Hr::Hq::F8::F7::F6::F5::Ho::Hl::Hg::FZ::FY::FX::FV::FQ::FP::FN::FM::FK::Jv::Ju::Jt::Hf::FH::EF::ED::EC::Ez::Ey::JM::JL::Ib::Ia::(.pointer (some ⟨r,0,none⟩))::u98::u99::Vt::Vs::Vr::Vq::Vp::Vo::Vm::Vl::Vk::Vj::Vh::Vg::aak::uj::[]).toArray,[]⟩ wr) :
 Code.wp Tryz.prog (Ai Tryz.f13 3) Q0 ⟨(x0::x1::x2::x3::x4::x5::x6::x7::x8::(.pointer (some ⟨g4,0,none⟩))::Gf::E8::BJ::Ii::E5::Jw::DL::H6::(.pointer (some ⟨g3,0,none⟩))::En::Hz::Em::EZ::EY::EX::DK::DJ::DI::Ej::Ei::Eh::Ef::Ee::Ed::Ec::Eb::Ea::D_::D9::D8::Hy::EW::EU::ET::ES::ER::EP::EO::EN::EM::EL::EK::EJ::EI::Ih::Hw::F9::D7::EH::EG::Ig::Ie::Ic::Hu::Ht::Hr::Hq::F8::F7::F6::F5::Ho::Hl::Hg::FZ::FY::FX::FV::FQ::FP::FN::FM::FK::Jv::Ju::Jt::Hf::FH::EF::ED::EC::Ez::Ey::JM::JL::Ib::Ia::(.pointer (some ⟨r,0,none⟩))::L9::L8::tq::sZ::sW::sV::sU::sS::sQ::sO::sN::sK::sJ::sH::uS::uj::[]).toArray,[]⟩ wS:=by
 conv=>arg 2;whnf
 have hri:=oM hrg0;have ab5:∀x∈gs,∃cs,aG wS x.cb 180 cs:=fun x hx=>⟨_,(hE.o.at_ x hx).jH.blk⟩
 have hnS:∀{g:Nat} {te:TypeId} {cs:Array Value},aG wS g te cs→te≠180→¬(g = r∨∃x∈gs,g = x.cb):=fun hB ht h=>by
  rcases h with rfl | ⟨x,hx,rfl⟩
  ·exact hri _ _ _ hB
  ·obtain⟨cs,h2⟩:=ab5 x hx;exact hB.NJ h2 ht rfl
 have hn3:=hnS hb3.o δ;have hn4:=hnS hb4.o δ;have hnM:¬(ab=r∨∃x∈gs,ab=x.cb):=fun h=>by
  rcases h with rfl | ⟨x,hx,rfl⟩
  ·obtain⟨n2,-,es,clock,he,-⟩:=hM.o;obtain⟨es2,aCd,since,seen,c0,_,_,_,_,hr,_⟩:=hrg0;rw[he] at hr;cases hr
  ·obtain⟨cs,h2⟩:=ab5 x hx;exact hM.o.aY _ _ _ h2
 have hst:=acF hD.o hE.o.nd asked now;clear hnS ab5;go_loopw [23,24] (fun _ _ wr=>∃(left:Lit→Bool) (cnt:Nat) (S_:List GX),wr.ranges Tryz.prog 9 yU b r n D left cnt∧Hid (dO wr base ge b rec now B S_)∧Hid (dK S_=(dK gs).map (P7 left asked now))∧Hid (pU S_=pU gs)∧Hid (S_.map (·.gb)=gs.map (·.gb))∧Hid (S_.map (·.cb)=gs.map (·.cb))∧Hid (nN (fun j=>j = r∨∃x∈gs,j = x.cb) wS wr)∧Hid (uh [180] wS wr)) (fun _ _ wr=>wr.rangeLeft b r)
 case atStart=>exact⟨_,_,gs,hrg0,hE,ζ hst,ζ rfl,ζ rfl,ζ rfl,ζ (nN.refl _ _),ζ (uh.refl _ _)⟩
 case round=>
  obtain⟨left,cnt,S_,hrg,hEr,hgr,hmr,hbr,hcr,Ut,hT⟩:=hrel;go_wp2_with (first
   | (at_next;refine wpList_next_ranges _ rfl _ rfl 9 Aq yU (fun s:List UInt8=>Value.string ⟨s.toArray⟩) VD (fun key kl hkey=>by obtain⟨s,rfl,_⟩:=keyOf_str hkey;exact⟨s,rfl⟩) (fun v y hv=>JZ hv) b r n _ _ _ rfl hrg ?_ ?_)
   | go_in)
  ·intro _ hl0;have aN:Hid (dK S_=(dK gs).map (GU asked now)):=ζ (by rw[hgr.o,ak_ hl0]);clear hrg hl0 hgr hmr;go_wp2;first
    | exact⟨S_,hEr,aN,hbr,hcr,Ut,hT⟩
    | exact oO _ _ _ _ _ _ _ _ _ _ _ _ _ _ _ _ _ ⟨S_,hEr,aN,hbr,hcr,Ut,hT⟩
  ·intro x c kl yd yp w3 Ze hkey hlk hv hat hrg3 hlt hg3 hs3 hen;obtain⟨s,e1,rfl⟩:=keyOf_str hkey;obtain rfl:x = s:=str_inj e1;rw[yT] at hv;simp only[Option.some.injEq,Prod.mk.injEq] at hv;obtain⟨gb,rfl,rX⟩:=hD.o.entry (s:=x) (o:=c) (fun zd=>by rw[hat zd,←hv.1]);rw[←hmr.o] at rX;obtain⟨y,wU,Yu,rfl⟩:=OU rX;have V4:∀cur te fz,wr.heap[r]?≠some (.cells cur te fz):=oM hrg;have JF:=hEr.o.other hg3 (fun e=>by injection e with e;exact hrg.ne e.symm) (fun m hm cur te fz hc=>by injection hm with hm;subst hm;exact (V4 _ _ _ hc).elim);have je:=Ut.o.next hg3 (fun k hk=>by injection hk with hk;subst hk;exact .inl (.inl rfl));have hT3:=hT.o.trans (uh.row hg3 (fun m hm cur te fz hc=>by injection hm with hm;subst hm;exact (V4 _ _ _ hc).elim));have Xi:=JF.at_ y wU;have DV:=Xi.kl;rw[Yu] at DV;have b3:=je.blk hb3.o hn3;have b4:=je.blk hb4.o hn4;have ZY:=hM.o.off je hnM;have aj3:=ZY.look (s:=x) ω;have q3:=b3.c0;have q3l:=b3.lt;have q4:=b4.c0;have q4l:=b4.lt;have y7:=Xi.blk.c7;have yl:=Xi.blk.lt;have hstep:=agI (L:=dK gs) (asked:=asked) (now:=now) hlk;rw[←hgr.o] at hstep;simp only[VD,Option.map_some] at hen ⊢;replace hstep:=ζ hstep;replace je:=ζ je;replace JF:=ζ JF;replace hT3:=ζ hT3;clear hat hv rX e1 hEr Ut hg3 hs3 V4 hT hst hlk hgr ZY;by_cases hxA:x∈asked
   ·rw[decide_eq_true hxA] at aj3;have hgF:Hid (dK S_=(dK gs).map (P7 (fun z=>left z && !z.sameKey (.string x)) asked now)):=ζ (by rw[hstep.o,acG hxA]);clear hxA;go_wp2;go_roundw
    case rel=>exact⟨_,Ze,S_,hrg3,JF,hgF,hmr,hbr,hcr,je,hT3⟩
    case measure=>
     rw[hrg3.left_eq,hrg.left_eq];exact hlt
   ·rw[decide_eq_false hxA] at aj3;have hcm:y.cb∈gs.map (·.cb):=by rw[←hcr.o];exact List.mem_map.2 ⟨y,wU,rfl⟩
    obtain⟨x0,hx0,azK⟩:=List.mem_map.1 hcm;have aA5:some b≠some y.cb:=fun e=>by
     injection e with e
     obtain⟨n2,-,Z4⟩:=JF.o.map;exact Z4.aY _ _ _ (by rw[e];exact Xi.jH.blk)
    have az6:some r≠some y.cb:=fun e=>by
     injection e with e
     exact oM hrg3 _ _ _ (by rw[e];exact Xi.jH.blk)
    have dg:y.gb≠y.cb:=Xi.blk.NJ Xi.jH.blk δ;have dg':some y.gb≠some y.cb:=fun e=>dg (Option.some.inj e)
    have d4:some g4≠some y.cb:=fun e=>b4.NJ Xi.jH.blk δ (Option.some.inj e)
    have cA:=ζ (fun wq (hq:ah w3 wq)=>W9 (A:=none) (m:=0) (k:=0) (ids:=[]) wq (Xi.jH.grows hq) Xi.cge (fun W _=>bW.iO) ω List.Pairwise.nil h0 h1.o (JF.o.jH y wU));have aP:=ζ (ah.refl w3);clear b3 b4;go_wp2_with fail;refine jF ((some y.cb)) κ ?_;refine rK (up:=jG) (.range 5) 1 ?_;iterate 5 refine iD ?_
    refine aB ?_;refine aI [5] κ σ (fun wN hN hS=>(au.cons rfl (fun K' hK=> ?_) au.nil));try replace aP:=ζ (aP.o.trans hN)
    try replace LJ:=ζ (LJ.o.grows hN)
    try replace iP:=ζ (dS iP.o hN)
    clear hN;go_simp;refine (cA.out _ aP.o).mono ?_;rintro e w9 ⟨v9,rfl,LJ,iP⟩;replace LJ:=ζ LJ;replace iP:=ζ ((aP.o.keeps (some y.cb)).trans iP);clear aP cA;refine hK.o _ _ ?_ (fun hS=> ?_)
    ·exact iP.o
    clear hK hS;refine aH κ (fun wN hN hS=> ?_);try replace aP:=ζ (aP.o.trans hN)
    try replace LJ:=ζ (LJ.o.grows hN)
    try replace iP:=ζ (dS iP.o hN)
    obtain⟨y1,j_⟩:∃y1:GX,y1={y with g:={y.g with jH:=Eu y.g.jH now []},v:=v9}:=⟨_,rfl⟩;have SI:wG wN base y1:=by
     rw[j_];exact⟨Xi.blk.aQ iP.o dg',LJ.o,Xi.Z9,Xi.cge,Xi.kl⟩
    have hE9:=JF.o.upd (y:=y1) wU iP.o (.inr rfl) SI (by rw[j_]) (by rw[j_]) (by rw[j_]) (show y1.g.number≤B by rw[j_];exact JF.o.num y wU) (show y1.g.jH.now≤now by rw[j_];simp only;rw[Qj];exact Int.le_refl _) (Nat.le_refl _);have hgF:=ak8 (asked:=asked) (now:=now) JF.o.nd wU (y:=y1) (by rw[j_]) (by rw[j_]) (by rw[Yu];exact hxA);obtain⟨ZQ,SB,hm3⟩:=ah2 JF.o.nd wU (y:=y1) (by rw[j_]) (by rw[j_]) (by rw[j_]);rw[Yu] at hgF hE9 ZQ SB hm3;rw[←hstep.o] at hgF;rw[hmr.o] at ZQ;rw[hbr.o] at SB;rw[hcr.o] at hm3;have avj:=hrg3.kept iP.o aA5 az6;have hO9:=je.o.next iP.o (fun m hm=>by injection hm with hm;subst hm;exact .inl (.inr ⟨x0,hx0,azK.symm⟩));have hT9:=hT3.o.trans (uh.row iP.o (fun m hm cur te fz hc=>by injection hm with hm;subst hm;rw[Xi.jH.blk.lN hc];exact List.mem_cons_self ..));clear JF je hT3 iP LJ SI;go_wp2;go_roundw
    case rel=>exact⟨_,Ze,_,avj,ζ hE9,ζ hgF,ζ ZQ,ζ SB,ζ hm3,ζ hO9,ζ hT9⟩
    case measure=>
     rw[avj.left_eq,hrg.left_eq];exact hlt
end Go.Proofs.YtbhikkgpcmkonaaGreatDoor
