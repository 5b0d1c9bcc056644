/- Parts: EngR EngG EngK EngL -/
import Derived.Test.YtbhikkgpcmkonaaGreatDoorVa0
import Derived.Test.YtbhikkgpcmkonaaGreatDoorVa23
import Derived.Test.YtbhikkgpcmkonaaGreatDoorVa11
set_option maxRecDepth 100000
set_option maxHeartbeats 12800000
namespace Go.Proofs.YtbhikkgpcmkonaaGreatDoor
open Go.RowKit Go.Maps Go.WideMaps
def rU (n:Nat):Code→Option Code
 | .region i ops d=>if i = n then some (.region i ops d) else none
 | .seq a b=>(rU n a).orElse fun _=>rU n b
 | .cond _ t e=>(rU n t).orElse fun _=>rU n e
 | .block _ b=>rU n b
 | .loop b=>rU n b
 | .rangeFunc _ _ _ b=>rU n b
 | _=>none
def Xc (f:Func) (n:Nat):Code:=((f.body.bind (rU n)).getD .skip)
theorem IG {p:bU} {w0 Nw:World} {ge g1 g2 g4 g5 gx gb om ok xr xk bm bk im ik:Nat} {rec:List UInt8} {num now:Int} {oA bA iA:Option Addr} {ML:Option Nj} {Q0:Exit→Act→World→Prop} {x0 x3 x6 x8 Fq ED Bd Hf EC IX Dj GU GR DV GN DT Ez Ey Ew Di Dh Df DR DN DL DK DJ DI DF DC Dz Dy Dx Dw GK Eu Et Es Ep Eo En Em Ej Ei Eh Ef Ee Ed He GI Fp Dv Ec Eb G_ G9 G8 GH Gz Gy Gx Fj Fh Fg Fe Gw Gv Gu Fb Fa E_ E8 E5 EZ EY EX EW IW IV IU Gt EU Ea D_ D9 D8 D7:Value}
 (cMk:Hid (∀W',ah Nw W'→Calls Tryz.prog 47 #[.agg #[.slice p.s.A p.s.m p.s.k,.slice p.r.A p.r.m p.r.k,.slice p.e.A p.e.m p.e.k,.slice p.a.A p.a.m p.a.k,.slice p.oA p.om p.ok,.slice p.iA p.im p.ik],.string ⟨rec.toArray⟩,.agg #[.int .i64 (xr:Int),.slice bA bm bk,.int .u64 (xk:Int),.slice iA im ik],.slice oA om ok,.agg #[.int .i64 num,.int .i64 now]] W' (Y0 W' ML))) (ae5:Hid (w0.heap.size≤Nw.heap.size)) (b1:Hid (aF Nw g1 51 #[.pointer (some ⟨ge,0,none⟩)])) (b2:Hid (aF Nw g2 50 p.cells.toArray)) (b4:Hid (aF Nw g4 3 #[.int .i64 now])) (b5:Hid (aF Nw g5 59 #[.slice oA om ok])) (bX:Hid (aF Nw gx 125 #[.int .i64 (xr:Int),.slice bA bm bk,.int .u64 (xk:Int),.slice iA im ik])) (e0:Nw.cell? ⟨ge,0,none⟩=some (.string ⟨rec.toArray⟩)) (el:ge<Nw.heap.size) (m8:Nw.cell? ⟨gb,8,none⟩=some (.int .i64 num)) (m8l:gb<Nw.heap.size)
 (hQ0:∀c a d v w,Q0 (.panic c) (Act.put a d v) w→Q0 (.panic c) a w)
 (oK:∀(u13 u14 u71 u72 u73 u74 u75 u76 u77 u78 u79 u80 u81 u82 u83 u84 u85 u86 u87:Value) (wr:World),(∃(gL:Nat) (o:Option fG),u13=.pointer (some ⟨gL,0,none⟩)∧u14=.bool o.isSome∧Hid (aF wr gL 64 (apB o))∧Hid (o.map (·.yc)=ML)∧Hid (∀x,o = some x→dF wr w0.heap.size x)∧Hid (ah Nw wr))→Q0 .normal ⟨(x0::(.pointer (some ⟨g1,0,none⟩))::(.pointer (some ⟨g2,0,none⟩))::x3::(.pointer (some ⟨g4,0,none⟩))::(.pointer (some ⟨g5,0,none⟩))::x6::(.pointer (some ⟨gx,0,none⟩))::x8::(.pointer (some ⟨gb,0,none⟩))::Fq::ED::Bd::u13::u14::IX::Dj::GU::GR::DV::GN::DT::Ez::Ey::Ew::Di::Dh::Df::DR::DN::DL::DK::DJ::DI::DF::DC::Dz::Dy::Dx::Dw::GK::Eu::Et::Es::Ep::Eo::En::Em::Ej::Ei::Eh::Ef::Ee::Ed::He::GI::Fp::Dv::Ec::Eb::G_::G9::G8::GH::Gz::Gy::Gx::Fj::Fh::Fg::Fe::u71::u72::u73::u74::u75::u76::u77::u78::u79::u80::u81::u82::u83::u84::u85::u86::u87::Ea::D_::D9::D8::D7::[]).toArray,[]⟩ wr) :
 Code.wp Tryz.prog (Xc Tryz.f43 11) Q0 ⟨(x0::(.pointer (some ⟨g1,0,none⟩))::(.pointer (some ⟨g2,0,none⟩))::x3::(.pointer (some ⟨g4,0,none⟩))::(.pointer (some ⟨g5,0,none⟩))::x6::(.pointer (some ⟨gx,0,none⟩))::x8::(.pointer (some ⟨gb,0,none⟩))::Fq::ED::Bd::Hf::EC::IX::Dj::GU::GR::DV::GN::DT::Ez::Ey::Ew::Di::Dh::Df::DR::DN::DL::DK::DJ::DI::DF::DC::Dz::Dy::Dx::Dw::GK::Eu::Et::Es::Ep::Eo::En::Em::Ej::Ei::Eh::Ef::Ee::Ed::He::GI::Fp::Dv::Ec::Eb::G_::G9::G8::GH::Gz::Gy::Gx::Fj::Fh::Fg::Fe::Gw::Gv::Gu::Fb::Fa::E_::E8::E5::EZ::EY::EX::EW::IW::IV::IU::Gt::EU::Ea::D_::D9::D8::D7::[]).toArray,[]⟩ Nw:=by
 conv=>arg 2;whnf
 have p0:=b2.out.c0;have p1:=b2.out.c1;have p2:=b2.out.c2;have p3:=b2.out.c3;have p4:=b2.out.c4;have p5:=b2.out.c5;have pz:=b2.out.lt;have q1:=b1.out.c0;have q1l:=b1.out.lt;have q4:=b4.out.c0;have q4l:=b4.out.lt;have q5:=b5.out.c0;have q5l:=b5.out.lt;have y0:=bX.out.c0;have y1:=bX.out.c1;have y2:=bX.out.c2;have y3:=bX.out.c3;have yl:=bX.out.lt;have aN:=ζ (ah.refl Nw);clear b1 b2 b4 b5 bX;refine aG κ ?_;refine rK (.range 13) 7 ?_;iterate 13 refine aC ?_
 refine aB ?_;refine aH [13,17] κ σ (fun wN hN hS=>(au.cons rfl (fun K' hK=> ?_) (au.cons rfl (fun K' hK=> ?_) au.nil)))
 ·skip
  try replace aN:=ζ (aN.o.trans hN)
  try replace n0:=ζ (n0.out.grows hN)
  try replace n1:=ζ (n1.out.trans hN)
  try replace bL:=ζ (bL.out.grows hN)
  try replace yO:=ζ (fun z hz=>(yO.o z hz).grows hN)
  clear hN;go_simp;refine (cMk.out _ aN.o).mono ?_;rintro e w5 ⟨o,rfl,XT,yO,fM⟩;have azN:=(aN.o).size;replace yO:=ζ (fun z hz=>(yO z hz).bJ (show w0.heap.size≤wN.heap.size by have:=ae5.o;omega));replace XT:=ζ XT;replace aN:=ζ (aN.o.trans fM);try replace bL:=ζ (bL.out.grows fM)
  obtain⟨s1,s2,nn,tt,A,m,kk,A',m',k',hlc⟩:=SB o;rw[hlc];replace hlc:=ζ hlc;refine hK.o _ _ ?_ (fun hS=> ?_)
  ·exact aN.o
  clear fM;clear hK hS;refine rK [14,15,16] 3 ?_;iterate 3 refine aC ?_
  refine aB ?_;refine aH [17] κ σ (fun wN hN hS=>(au.cons rfl (fun K' hK=> ?_) au.nil));try replace aN:=ζ (aN.o.trans hN)
  try replace n0:=ζ (n0.out.grows hN)
  try replace n1:=ζ (n1.out.trans hN)
  try replace bL:=ζ (bL.out.grows hN)
  try replace yO:=ζ (fun z hz=>(yO.o z hz).grows hN)
  clear hN;go_simp;have hgA:=ζ aN.o.size;have bL:=ζ (aF.new wN 64 lF);replace aN:=ζ (aN.o.alloc (.cells lF 64));try replace yO:=ζ (fun z hz=>(yO.o z hz).grows ((ah.refl wN).alloc (.cells lF 64)))
  refine hK.o _ _ ?_ (fun hS=> ?_)
  ·exact aN.o
  generalize wN.heap.size=gL at *
  clear hK hS;refine aH [18] κ σ (fun wN hN hS=>(au.cons rfl (fun K' hK=> ?_) au.nil));try replace aN:=ζ (aN.o.trans hN)
  try replace n0:=ζ (n0.out.grows hN)
  try replace n1:=ζ (n1.out.trans hN)
  try replace bL:=ζ (bL.out.grows hN)
  try replace yO:=ζ (fun z hz=>(yO.o z hz).grows hN)
  clear hN;obtain⟨z0,z1,z2,z3,z4,z5,zf,zl⟩:=rO bL.out;obtain⟨n0,n1,n2⟩:=Ag bL.out aN.o hgA.o (.string s1) (.string s2) (.int .i64 nn) (.int .i64 tt) (.slice A m kk) (.slice A' m' k');replace yO:=ζ (fun z hz=>n2 _ _ (yO.o z hz));replace n0:=ζ n0;replace n1:=ζ n1;clear n2;go_simp;refine hK.o _ _ ?_ (fun hS=> ?_)
  ·exact n1.out
  clear z0 z1 z2 z3 z4 z5 zf zl bL aN;clear hK hS;refine rK [19] 0 ?_;iterate 1 refine aC ?_
  refine aB ?_;refine aJ κ (fun wN hN hS=> ?_);try replace aN:=ζ (aN.o.trans hN)
  try replace n0:=ζ (n0.out.grows hN)
  try replace n1:=ζ (n1.out.trans hN)
  try replace bL:=ζ (bL.out.grows hN)
  try replace yO:=ζ (fun z hz=>(yO.o z hz).grows hN)
  apply oK;exact⟨_,o,rfl,rfl,ζ (by rw[hlc.o];exact n0.out),XT,yO,n1⟩
 ·skip
  try replace aN:=ζ (aN.o.trans hN)
  try replace n0:=ζ (n0.out.grows hN)
  try replace n1:=ζ (n1.out.trans hN)
  try replace bL:=ζ (bL.out.grows hN)
  try replace yO:=ζ (fun z hz=>(yO.o z hz).grows hN)
  clear hN;go_simp;have hgA:=ζ aN.o.size;have bL:=ζ (aF.new wN 64 lF);replace aN:=ζ (aN.o.alloc (.cells lF 64));try replace yO:=ζ (fun z hz=>(yO.o z hz).grows ((ah.refl wN).alloc (.cells lF 64)))
  refine hK.o _ _ ?_ (fun hS=> ?_)
  ·exact aN.o
  generalize wN.heap.size=gL at *
  clear hK hS;refine aH [13] κ σ (fun wN hN hS=>(au.cons rfl (fun K' hK=> ?_) au.nil));try replace aN:=ζ (aN.o.trans hN)
  try replace n0:=ζ (n0.out.grows hN)
  try replace n1:=ζ (n1.out.trans hN)
  try replace bL:=ζ (bL.out.grows hN)
  try replace yO:=ζ (fun z hz=>(yO.o z hz).grows hN)
  clear hN;go_simp;refine (cMk.out _ aN.o).mono ?_;rintro e w5 ⟨o,rfl,XT,yO,fM⟩;have azN:=(aN.o).size;replace yO:=ζ (fun z hz=>(yO z hz).bJ (show w0.heap.size≤wN.heap.size by have:=ae5.o;omega));replace XT:=ζ XT;replace aN:=ζ (aN.o.trans fM);try replace bL:=ζ (bL.out.grows fM)
  obtain⟨s1,s2,nn,tt,A,m,kk,A',m',k',hlc⟩:=SB o;rw[hlc];replace hlc:=ζ hlc;refine hK.o _ _ ?_ (fun hS=> ?_)
  ·exact aN.o
  clear fM;clear hK hS;refine rK [14,15,16] 2 ?_;iterate 3 refine aC ?_
  refine aB ?_;refine aH [18] κ σ (fun wN hN hS=>(au.cons rfl (fun K' hK=> ?_) au.nil));try replace aN:=ζ (aN.o.trans hN)
  try replace n0:=ζ (n0.out.grows hN)
  try replace n1:=ζ (n1.out.trans hN)
  try replace bL:=ζ (bL.out.grows hN)
  try replace yO:=ζ (fun z hz=>(yO.o z hz).grows hN)
  clear hN;obtain⟨z0,z1,z2,z3,z4,z5,zf,zl⟩:=rO bL.out;obtain⟨n0,n1,n2⟩:=Ag bL.out aN.o hgA.o (.string s1) (.string s2) (.int .i64 nn) (.int .i64 tt) (.slice A m kk) (.slice A' m' k');replace yO:=ζ (fun z hz=>n2 _ _ (yO.o z hz));replace n0:=ζ n0;replace n1:=ζ n1;clear n2;go_simp;refine hK.o _ _ ?_ (fun hS=> ?_)
  ·exact n1.out
  clear z0 z1 z2 z3 z4 z5 zf zl bL aN;clear hK hS;refine rK [19] 0 ?_;iterate 1 refine aC ?_
  refine aB ?_;refine aJ κ (fun wN hN hS=> ?_);try replace aN:=ζ (aN.o.trans hN)
  try replace n0:=ζ (n0.out.grows hN)
  try replace n1:=ζ (n1.out.trans hN)
  try replace bL:=ζ (bL.out.grows hN)
  try replace yO:=ζ (fun z hz=>(yO.o z hz).grows hN)
  apply oK;exact⟨_,o,rfl,rfl,ζ (by rw[hlc.o];exact n0.out),XT,yO,n1⟩
theorem akl {fb:cZ→Bool} {p:bU} {S:Nat→Prop} {w0:World} {base ge b ab B:Nat} {rec:List UInt8} {now:Int} {oA:Option Addr} {om ok:Nat} {ys:List dA} {g1 g2 g3 g4 g5 g6:Nat} {gs:List GX} {asked:List (List UInt8)} {v:Value} {ls:List fG} {x:dO} (W:World)
 (hSK:∀W',nJ S w0 W'→akY p ys W') (oO:lQ fb p) (EL:nY S w0 W p.cells.toArray ge ab now oA om ok ys g1 g2 g3 g4 g5 g6 v ls) (hE:dM W base ge b rec now B gs) (LY:vV S w0 gs) (hM:oP W ab B asked) (hab:ab≠b) (amT:w0.heap.size≤ab) (hSb:S b) (hlb:base≤w0.heap.size) (hll:ls.length≤B) (hB:B+1≤1000000) (h0:0≤now) (h1:now≤fC) (hom:om≤12)
 (hxi:Own W w0.heap.size 33 1 kK x.iv x.ids) (hxf:Own W w0.heap.size 88 2 dW x.bv x.fH) (EI:Pv p.aU 12 x.g) :
 Calls Tryz.prog 43 #[Uk x,.pointer (some ⟨g1,0,none⟩),.pointer (some ⟨g2,0,none⟩),.pointer (some ⟨g3,0,none⟩),.pointer (some ⟨g4,0,none⟩),.pointer (some ⟨g5,0,none⟩),.pointer (some ⟨g6,0,none⟩)] W
  (adt (fun x n=>jS fb p.aU rec x (ys.map (·.a)) n now) p S w0 W base rec ge b ab B now oA om ok ys g1 g2 g3 g4 g5 g6 gs asked ls x.g):=by
 obtain⟨hr1,hr2,⟨hy1,hy2⟩,atX,auN⟩:=EI;obtain⟨xr,xk,Gs,xbA,xbm,xbk,kS,xiA,xim,xik⟩:=x;unfold dO.iv at hxi;unfold dO.bv at hxf;unfold dO.g at *
 simp only at *
 obtain⟨iA,ic,hie,-,-,hXi⟩:=hxi.arr Pz;simp only[Value.slice.injEq] at hie;obtain⟨rfl,rfl,rfl⟩:=hie;obtain⟨fA,fc,hfe,-,-,hXf⟩:=hxf.arr IZ;simp only[Value.slice.injEq] at hfe;obtain⟨rfl,rfl,rfl⟩:=hfe;have cN:=ζ (fun W' (hW:ah W W')=>afW (g:=⟨xr,xk,Gs,xbA,Gs.length,xbk,kS,xiA,kS.length,xik⟩) W' (hSK W' (EL.off.iw hW)).lib (by simp only;omega) (hXf.keep hW) (by simp only;omega) (fun f hf=>(hy2 f hf).1));have auj:om≤1000:=ω;have au9:Gs.length≤1000:=ω;have auL:kS.length≤1000:=ω;have auU:∀f∈Gs,f.v.length≤1000000:=fun f hf=>by have:=(hy2 f hf).2;omega
 unfold Uk at *
 simp only at *
 have IY:(dn xr Gs).length≤20000:=by
  have:=zh (r:=xr) ω Gs (fun f hf=>(hy2 f hf).1);omega
 generalize Ic:dn xr Gs=k at *
 have bX:=aF.new W 125 #[.int .i64 (xr:Int),.slice xbA Gs.length xbk,.int .u64 (xk:Int),.slice xiA kS.length xik];have hg0:ah W (W.alloc (.cells #[.int .i64 (xr:Int),.slice xbA Gs.length xbk,.int .u64 (xk:Int),.slice xiA kS.length xik] 125)):=(ah.refl W).alloc _;go_enter Tryz.func43,Tryz.ntmps43
 go_wp2_with fail;refine (cN.out _ hg0).mono ?_;rintro e w1 ⟨rfl,hb1⟩;have hg1:=hg0.trans hb1;replace bX:=bX.grows hb1;have Rk:=EL.grows hg1;have I8:=hE.grows hg1;have V9:=hM.grows hg1;have avf:=hXi.keep hg1;have avg:=hXf.keep hg1;have V7:tX agp W w1:=tX.grows hg1;have amX:=hxi.grows hg1;have amY:=hxf.grows hg1;clear hb1 cN EL hE hM hXi hXf hxi hxf hg0 hg1;obtain⟨n,hnB,hM0⟩:=I8.map;have rW:=hM0.look (s:=k) ω;have e1:=I8.blk.cell 1;have el:=I8.blk.lt;have q1:=Rk.b1.cell 0;have ql:=Rk.b1.lt;simp only[List.getElem?_toArray,List.getElem?_cons_zero,List.getElem?_cons_succ] at e1 q1;cases hlk:fJ (pO gs) k with
 | some gb=>
  obtain⟨y,yM,XI,hyg⟩:=N7 hlk;rw[hlk] at rW;unfold UK at rW;simp only[Option.map_some] at rW;subst hyg;have hyn:=I8.num y yM;have abb:(um (dJ gs) k).getD (QO p.aU xr)=y.g:=by rw[←XI,MS I8.nd yM];rfl
  obtain⟨MR,Vf⟩:∃MR,MR=gs:=⟨_,rfl⟩;have Ot:∀g',qG (dJ MR) k g'=qG (dJ gs) k g':=fun g'=>by rw[Vf]
  have Ti:dM w1 base ge b rec now (B+1) MR:=by rw[Vf];exact I8.more ω
  have X9:vV S w0 MR:=by rw[Vf];exact LY
  rw[←Vf] at yM;have Vj:=Rk;have hM7:=V9;have ajG:=amX;have ajH:=amY;have hT7:=V7;have bX7:=bX;clear hlk Vf I8 LY Rk V9 amX amY V7 bX avf avg hM0;obtain⟨n7,hn7,hML⟩:=hM7;have q3:=Vj.b3.cell 0;have q3l:=Vj.b3.lt;simp only[List.getElem?_toArray,List.getElem?_cons_zero] at q3;have iL:oP _ ab B asked:=⟨n7,hn7,hML⟩;have nab:=iL.aX;go_wp2_with (at_mapUpdate;refine wQ hML rfl _ _ _ rfl Tryz.underlying9 Tryz.underlying122 (by unfold maxLen;omega) k (by unfold maxLen;omega) (.bool true) (.bool true) rfl rfl rfl (plainElem_bool Tryz.underlying4 true) ?_;intro w8 hM8 LW);have Ox:=Vj.turn LW (.inr amT) (fun cur te fz hc=>(nab _ _ _ hc).elim);have Wh:=Ti.other LW (fun e=>by injection e with e;exact hab e.symm) (fun m hm cur te fz hc=>by injection hm with hm;subst hm;exact (nab _ _ _ hc).elim);have OB:=ajG.Sz LW nab;have abx:=ajH.Sz LW nab;have bX8:=bX7.aO LW (fun e=>by injection e with e;subst e;exact nab _ _ _ bX7);have hT8:=hT7.trans (tX.row LW (fun m hm cur te fz hc=>by injection hm with hm;subst hm;exact (nab _ _ _ hc).elim));have hA8:oP w8 ab (B+1) (asked++[k]):=⟨n7+1,ω,by rw[List.map_append];exact hM8⟩;have zX:=Wh.at_ y yM;have y7:=zX.blk.c7;have yl:=zX.blk.lt;have q4:=Ox.b4.c0;have q4l:=Ox.b4.lt;have x3:=bX8.c3;have x3l:=bX8.lt;have cA:=ζ (fun wq (hq:ah w8 wq)=>VN (k:=xik) wq (zX.jC.grows hq) zX.cge (fun W' yg=>((OB.grows hq).kept' yg (fun j hj=>by injection hj with hj;subst hj;exact aZ (OB.grows hq) (zX.jC.blk.grows hq) δ)).uN Pz) auN atX h0 h1 (Wh.jC y yM));have d1:y.gb≠y.cb:=zX.blk.Ku zX.jC.blk δ;have d2:g4≠y.cb:=Ox.b4.Ku zX.jC.blk δ;have d3:W.heap.size≠y.cb:=bX8.Ku zX.jC.blk δ;have d1':some y.gb≠some y.cb:=fun e=>d1 (Option.some.inj e)
  have d2':some g4≠some y.cb:=fun e=>d2 (Option.some.inj e)
  have d3':some W.heap.size≠some y.cb:=fun e=>d3 (Option.some.inj e)
  have aN:=ζ (ah.refl w8);clear hn7 hML q3 q3l iL nab hM8 LW Vj Ti ajG ajH bX7 hT7;refine jA ((some y.cb)) κ ?_;refine rK (up:=jB) (.range 7) 6 ?_;iterate 7 refine h_ ?_
  refine aB ?_;refine aH [7] κ σ (fun wN hN hS=>(au.cons rfl (fun K' hK=> ?_) au.nil));try replace aN:=ζ (aN.o.trans hN)
  try replace KJ:=ζ (KJ.o.grows hN)
  try replace iG:=ζ (dQ iG.o hN)
  clear hN;go_simp;refine (cA.out _ aN.o).mono ?_;rintro e w9 ⟨v9,rfl,KJ,iG⟩;replace KJ:=ζ KJ;replace iG:=ζ ((aN.o.keeps (some y.cb)).trans iG);clear aN cA;refine hK.o _ _ ?_ (fun hS=> ?_)
  ·exact iG.o
  clear hK hS;refine rK (up:=jB) [8,9,10,11,12] 0 ?_;iterate 5 refine h_ ?_
  refine aB ?_;refine aJ κ (fun wN hN hS=> ?_);try replace aN:=ζ (aN.o.trans hN)
  try replace KJ:=ζ (KJ.o.grows hN)
  try replace iG:=ζ (dQ iG.o hN)
  obtain⟨y1,jU⟩:∃y1:GX,y1={y with g:={y.g with jC:=D5 y.g.jC now kS},v:=v9}:=⟨_,rfl⟩;have abn:=Ox.turn iG.o (X9 y yM).2 (fun cur te fz hc=> .inr (zX.jC.blk.lG hc));have Ri:vW wN base y1:=by
   rw[jU];exact⟨zX.blk.aO iG.o d1',KJ.o,zX.Zl,zX.cge,zX.kl⟩
  have hE9:=Wh.upd (y:=y1) yM iG.o (.inr rfl) Ri (by rw[jU]) (by rw[jU]) (by rw[jU]) (show y1.g.number≤B+1 by rw[jU];simp only;omega) (show y1.g.jC.now≤now by rw[jU];simp only;rw[Pg];exact Int.le_refl _) (Nat.le_refl _);have Vr:=X9.upd (k:=y.key) (y:=y1) yM (by rw[jU]) (by rw[jU]);have abv:=OB.kept' iG.o (fun j hj=>by injection hj with hj;subst hj;exact aZ OB zX.jC.blk δ);have abw:=abx.kept' iG.o (fun j hj=>by injection hj with hj;subst hj;exact aZ abx zX.jC.blk δ);have bX9:=bX8.aO iG.o d3';have hA9:=hA8.kept iG.o (fun e=>by injection e with e;subst e;exact hA8.aX _ _ _ zX.jC.blk);have hT9:=hT8.trans (tX.row iG.o (fun m hm cur te fz hc=>by injection hm with hm;subst hm;rw[zX.jC.blk.lG hc];decide));have hu1:dJ (yx MR y.key y1)=qG (dJ gs) k y1.g:=by rw[←XI];rw[NI Wh.nd yM (by rw[jU]),XI,Ot]
  have Y8:y1∈yx MR y.key y1:=acG yM;have hsome:(um (dJ MR) k).isSome:=by rw[←XI,MS Wh.nd yM];rfl
  have aiY:y1.key=k:=by rw[jU];exact XI
  have U4:y1.gb=y.gb:=by rw[jU]
  have apK:y1.cb=y.cb:=by rw[jU]
  have ht0:y1.g = {y.g with jC:=D5 y.g.jC now kS}:=by rw[jU]
  have hS1:=fun g'=>Ot g'
  generalize yx MR y.key y1=Ru at *
  have aji:ls.length≤B+1:=ω;have htu:WQ y.g now kS={y1.g with number:=if CJ y.g.jC now kS then y.g.number+1 else y.g.number}:=by rw[ht0];rfl
  have Om:y1.g.number=y.g.number:=by rw[ht0]
  have aI:∀g',qG (dJ Ru) k g'=qG (dJ gs) k g':=fun g'=>by
   rw[hu1,←Ot,RY (by rw[←Ot] at hu1;exact hsome),Ot]
  generalize hDU:CJ y.g.jC now kS=DU at *
  have abA:=ζ hDU;clear hDU Ox Wh X9 OB abx bX8 hA8 hT8 zX KJ iG y7 yl q4 q4l x3 x3l d1 d2 d3 d1' d2' d3' hS hN hS1 hsome;cases DU with
  | false=>
   go_wp2;go_end0;exact qY Ic abb abn hE9 Vr hA9 aji hT9 (by rw[hu1,htu,←Om];rfl) (by rw[abA.o];rfl)
  | true=>
   have vJ:aF wN y.gb 130 (L9 y1.g y1.r y1.cb):=by rw[←U4];exact Ri.blk
   have n8:wN.cell? ⟨y.gb,8,none⟩=some (.int .i64 (y.g.number:Int)):=by rw[←Om];exact vJ.cell 8
   have n8l:=vJ.lt;have n8f:=vJ.frozen 8;have AQ:=aj wN ⟨y.gb,8,none⟩ (.int .i64 ((y.g.number:Int)+1));obtain⟨gs3,F9,Ip,Ii⟩:=hE9.count Vr Y8 (akt Om hyn);rw[U4,Om] at F9;rw[aiY,aI,Om] at Ii;have jV:=abn.turn AQ (by have:=(Vr y1 Y8).1;rw[U4] at this;exact this) (fun cur te fz hc=> .inl (vJ.lG hc));have Il:=abv.kept' AQ (fun j hj=>by injection hj with hj;subst hj;exact aZ abv vJ δ);have Io:=abw.kept' AQ (fun j hj=>by injection hj with hj;subst hj;exact aZ abw vJ δ);have VI:=bX9.aO AQ (fun e=>by injection e with e;exact bX9.Ku vJ δ e);have Vz:=hA9.kept AQ (fun e=>by injection e with e;subst e;exact hA9.aX _ _ _ vJ);have Vo:=hT9.trans (tX.row AQ (fun m hm cur te fz hc=>by injection hm with hm;subst hm;rw[vJ.lG hc];decide));have Ou:=vJ.bD 8 (.int .i64 ((y.g.number:Int)+1));have n8':(wN.setCell ⟨y.gb,8,none⟩ (.int .i64 ((y.g.number:Int)+1))).cell? ⟨y.gb,8,none⟩=some (.int .i64 ((y.g.number:Int)+1)):=by
    have:=Ou.cell 8;unfold L9 at this;simpa using this
   have aaG:=Ou.lt;replace Ii:=ζ Ii;replace F9:=ζ F9;replace Ip:=ζ Ip;replace jV:=ζ jV;replace Il:=ζ Il;replace Io:=ζ Io;replace VI:=ζ VI;replace Vz:=ζ Vz;replace Vo:=ζ Vo;replace n8':=ζ n8';replace aaG:=ζ aaG;clear hE9 Vr abn abv abw bX9 hA9 hT9 vJ Ou AQ Ri hu1 aI Y8 aiY U4 apK;have hwr:=RH hyn hB;clear jU;go_wp2;generalize wN.setCell ⟨y.gb,8,none⟩ (.int .i64 ((y.g.number:Int)+1))=Nw at *
   have m8:=n8'.out;have m8l:=aaG.out;have ajB:=Il.o.uN Pz;have ajC:=Io.o.uN IZ;have ajA:=jV.o.own.uN abf;have hML:Hid (jS fb p.aU rec ⟨xr,Gs,xk,kS⟩ (ys.map (·.a)) ((y.g.number:Int)+1) now=jS fb p.aU rec ⟨xr,Gs,xk,kS⟩ (ys.map (·.a)) ((y.g.number:Int)+1) now):=ζ rfl;have cMk:=ζ (fun W' (hW:ah Nw W')=>Xr (fb:=fb) (g:=⟨xr,xk,Gs,xbA,Gs.length,xbk,kS,xiA,kS.length,xik⟩) (rec:=rec) (n:=(y.g.number:Int)+1) (now:=now) (lk:=ok) W' (hSK W' (jV.o.off.iw hW)).utf (hSK W' (jV.o.off.iw hW)).aU oO (ajA.keep hW) (hSK W' (jV.o.off.iw hW)).at_ auj (ajC.keep hW) au9 auU (ajB.keep hW) auL);unfold Uk dO.g bU.val at cMk;simp only at cMk;generalize Vs:jS fb p.aU rec ⟨xr,Gs,xk,kS⟩ (ys.map (·.a)) ((y.g.number:Int)+1) now=ML at *
   replace Vs:=ζ Vs;have e0:=F9.o.blk.c0;have el:=F9.o.blk.lt;have ae5:=ζ jV.o.off.size;refine IG (p:=p) (w0:=w0) cMk ae5 (ζ jV.o.b1) (ζ jV.o.b2) (ζ jV.o.b4) (ζ jV.o.b5) VI e0 el m8 m8l π ?_;intros
   rename_i w12 aqD;obtain⟨gL,o,rfl,rfl,bL,XT,yO,JL⟩:=aqD;replace bL:=bL.out;replace XT:=XT.o;replace yO:=yO.o;replace JL:=JL.o;have vK:=ζ (jV.o.grows JL);have ajM:=ζ (F9.o.grows JL);have ajU:=ζ (Vz.o.grows JL);have ajD:=ζ (Vo.o.trans (tX.grows JL));clear e0 el m8 m8l jV F9 Vz Vo Il Io VI cMk;cases o with
   | none=>
    simp only[Option.isSome_none];go_wp2;go_end0;exact qY Ic abb vK.o ajM.o Ip.o ajU.o aji ajD.o (by rw[Ii.o,htu,ht0];rfl) (by rw[abA.o,if_pos rfl,Vs.o,←XT];simp)
   | some z=>
    simp only[Option.isSome_some];have q6:=vK.o.b6.c0;have q6l:=vK.o.b6.lt;have l0:=bL.c0;have l1:=bL.c1;have l2:=bL.c2;have l3:=bL.c3;have l4:=bL.c4;have l5:=bL.c5;have ll:=bL.lt;have jG:=ζ ((ah.refl w12).alloc (.cells (jY z).toArray 64));have hz:=ζ (yO z rfl);have abz:=ζ (vK.o.out.alloc (.cells (jY z).toArray 64));have ab3:=ζ (vK.o.b6.alloc (.cells (jY z).toArray 64));have apR:=ζ (show w0.heap.size≤w12.heap.size from vK.o.off.size);unfold jY at jG abz ab3;clear yO bL;go_wp2_with (at_builtin;go_loud (refine dH (x:=z) arh rfl (.tmp 89) (.tmp 91) rfl abz.o rfl ⟨w12.heap.size,0,none⟩ rfl rfl (iK (by exact heap_alloc_new w12 _)) (aip z) (by have:=apR.o;simp;omega) (by unfold maxLen;omega) ω (fun v7 w7 rG hgr qQ=> ?_);(obtain⟨g7,k7,hv7⟩:=lV rG σ);(rw[List.length_append] at hv7);(simp only[List.length_cons,List.length_nil,Nat.zero_add] at hv7);(subst hv7);(have tN:=ab3.out.aO hgr (fun e=>aZ abz.o ab3.out δ e.symm));(replace rG:=ζ rG);(replace hgr:=ζ hgr);(have c7:w7.cell? ⟨g6,0,none⟩=some v:=tN.cell 0);have l7:=tN.lt;have f7:=tN.frozen 0;clear qQ tN));go_end0;obtain⟨aqs,hEF,hAF,hTF⟩:=YS (vK.o.grows jG.o) (ajM.o.grows jG.o) (ajU.o.grows jG.o) (ajD.o.trans (tX.grows jG.o)) rG.o hgr.o (hz.o.grows jG.o);exact qY Ic abb aqs hEF Ip.o hAF (by simp;omega) hTF (by rw[Ii.o,htu,ht0];rfl) (by rw[abA.o,if_pos rfl,Vs.o,←XT];simp)
 | none=>
  rw[hlk] at rW;unfold UK at rW;simp only[Option.map_none] at rW;have JE:=(hSK w1 Rk.off).aU.o;have qM:p.aU.routes=p.o.map (·.r):=rfl;have hxo:xr<p.om:=by rw[qM,List.length_map,JE.1] at hr1;exact hr1
  obtain⟨ob,oo,rt,hoA,hob,hrt,hcell⟩:=JE.at_ hxo;have c0:w1.cell? ⟨ob,oo+xr*6,none⟩=some (.string ⟨rt.r.r.toArray⟩):=hcell 0 _ rfl;have c1:w1.cell? ⟨ob,oo+xr*6+1,none⟩=some (.slice rt.bA rt.bm rt.bk):=hcell 1 _ rfl;have c2:w1.cell? ⟨ob,oo+xr*6+2,none⟩=some (.int .i64 rt.r.wait):=hcell 2 _ rfl;have c3:w1.cell? ⟨ob,oo+xr*6+3,none⟩=some (.int .i64 rt.r.every):=hcell 3 _ rfl;have c4:w1.cell? ⟨ob,oo+xr*6+4,none⟩=some (.int .i64 rt.r.again):=hcell 4 _ rfl;have c5:w1.cell? ⟨ob,oo+xr*6+5,none⟩=some (.slice rt.wA rt.wm rt.wk):=hcell 5 _ rfl;have hng:QO p.aU xr=⟨xr,rt.r.r,rt.r.wait,rt.r.every,rt.r.again,FP rt.r.wait rt.r.every rt.r.again,0⟩:=by
   unfold QO;rw[qM,List.getElem?_map,hrt];rfl
  have amc:(xr:Int)<(p.om:Int):=ω;have q2:=Rk.b2.c4;have q2l:=Rk.b2.lt;have x0:=bX.c0;have xl:=bX.lt;rw[hoA] at q2;have bR:=aF.new w1 46 #[.string ⟨rt.r.r.toArray⟩,.slice rt.bA rt.bm rt.bk,.int .i64 rt.r.wait,.int .i64 rt.r.every,.int .i64 rt.r.again,.slice rt.wA rt.wm rt.wk];have hg2:ah w1 (w1.alloc (.cells #[.string ⟨rt.r.r.toArray⟩,.slice rt.bA rt.bm rt.bk,.int .i64 rt.r.wait,.int .i64 rt.r.every,.int .i64 rt.r.again,.slice rt.wA rt.wm rt.wk] 46)):=(ah.refl w1).alloc _;clear hcell JE;go_wp2_with fail;replace x0:=hg2.cell x0;replace xl:=Nat.lt_of_lt_of_le xl hg2.size;have r0:=bR.cell 0;have r1:=bR.cell 1;have r2:=bR.cell 2;have r3:=bR.cell 3;have r4:=bR.cell 4;have r5:=bR.cell 5;have rl:=bR.lt;simp only[List.getElem?_toArray,List.getElem?_cons_zero,List.getElem?_cons_succ] at r0 r1 r2 r3 r4 r5;clear c0 c1 c2 c3 c4 c5 q2 q2l bR;generalize w1.alloc (.cells #[.string ⟨rt.r.r.toArray⟩,.slice rt.bA rt.bm rt.bk,.int .i64 rt.r.wait,.int .i64 rt.r.every,.int .i64 rt.r.again,.slice rt.wA rt.wm rt.wk] 46)=w2 at *
  have aN:=ζ (ah.refl w2);refine aG κ ?_;refine rK (.range 9) 4 ?_;iterate 9 refine aC ?_
  refine aB ?_;refine aH [9] κ σ (fun wN hN hS=>(au.cons rfl (fun K' hK=> ?_) au.nil));replace aN:=ζ (aN.o.trans hN);try replace Cm:=ζ (Cm.o.grows hN)
  try replace bG:=ζ (bG.out.grows hN)
  clear hN;go_simp;refine (aku wN).mono ?_;rintro e w5 ⟨cb,rfl,au4,Cm,fM⟩;have au3:w1.heap.size≤cb:=Nat.le_trans (hg2.trans aN.o).size au4;replace Cm:=ζ Cm;replace aN:=ζ (aN.o.trans fM);refine hK.o _ _ ?_ (fun hS=> ?_)
  ·exact aN.o
  clear fM;clear hK hS;refine rK [10] 2 ?_;iterate 1 refine aC ?_
  refine aB ?_;refine aH [11] κ σ (fun wN hN hS=>(au.cons rfl (fun K' hK=> ?_) au.nil));replace aN:=ζ (aN.o.trans hN);try replace Cm:=ζ (Cm.o.grows hN)
  try replace bG:=ζ (bG.out.grows hN)
  clear hN;go_simp;have azB:w1.heap.size≤wN.heap.size:=(hg2.trans aN.o).size;have bG:=ζ (aF.new wN 130 (L9 ⟨xr,rt.r.r,rt.r.wait,rt.r.every,rt.r.again,FP rt.r.wait rt.r.every rt.r.again,0⟩ ⟨rt.bA,rt.bm,rt.bk,rt.wA,rt.wm,rt.wk⟩ cb));replace Cm:=ζ (Cm.o.grows ((ah.refl wN).alloc (.cells (L9 ⟨xr,rt.r.r,rt.r.wait,rt.r.every,rt.r.again,FP rt.r.wait rt.r.every rt.r.again,0⟩ ⟨rt.bA,rt.bm,rt.bk,rt.wA,rt.wm,rt.wk⟩ cb) 130)));replace aN:=ζ (aN.o.alloc (.cells (L9 ⟨xr,rt.r.r,rt.r.wait,rt.r.every,rt.r.again,FP rt.r.wait rt.r.every rt.r.again,0⟩ ⟨rt.bA,rt.bm,rt.bk,rt.wA,rt.wm,rt.wk⟩ cb) 130));unfold L9 at bG Cm aN;simp only at bG Cm aN;refine hK.o _ _ ?_ (fun hS=> ?_)
  ·exact aN.o
  generalize wN.heap.size=gb at *
  clear hK hS;refine rK [12] 0 ?_;iterate 1 refine aC ?_
  refine aB ?_;refine aJ κ (fun wN hN hS=> ?_);replace aN:=ζ (aN.o.trans hN);try replace Cm:=ζ (Cm.o.grows hN)
  try replace bG:=ζ (bG.out.grows hN)
  have Ij:=hg2.trans aN.o;have amQ:=Rk.grows Ij;have hE6:=I8.grows Ij;have hM6:=V9.grows Ij;have avs:=amX.grows Ij;have avt:=amY.grows Ij;have hT6:=V7.trans (tX.grows Ij);have bX6:=bX.grows Ij;have DY:=Rk.off.size;obtain⟨n6,hn6,avx⟩:=hE6.map;have nb:∀cur te fz,wN.heap[b]?≠some (.cells cur te fz):=avx.aX;obtain⟨w7,at1,Ti,hg7⟩:=hE6.put (y:=⟨k,⟨xr,rt.r.r,rt.r.wait,rt.r.every,rt.r.again,FP rt.r.wait rt.r.every rt.r.again,0⟩,⟨rt.bA,rt.bm,rt.bk,rt.wA,rt.wm,rt.wk⟩,gb,cb,.slice none 0 0⟩) hB ⟨bG.out,⟨Cm.o.blk,Own.iH _ _ _ _ _,Cm.o.ok,Cm.o.VX,Cm.o.len⟩,by simp only;omega,by simp only;omega,IY⟩ hlk (fun z hz=>by have:=(I8.at_ z hz).blk.lt;simp only;omega) (fun z hz=>by have:=(I8.at_ z hz).jC.blk.lt;simp only;omega) (by simp only;omega) (by simp only;unfold FP;exact h0);simp only at at1;have q1':=amQ.b1.c0;have q1l:=amQ.b1.lt;have e1':=hE6.blk.c1;have e1l:=hE6.blk.lt;have ajG:=avs.Sz hg7 nb;have ajH:=avt.Sz hg7 nb;have bX7:=bX6.aO hg7 (fun e=>by injection e with e;subst e;exact nb _ _ _ bX6);have hT7:=hT6.trans (tX.row hg7 (fun m hm cur te fz hc=>by injection hm with hm;subst hm;exact (nb _ _ _ hc).elim));have Vj:=amQ.turn hg7 (.inl hSb) (fun cur te fz hc=>(nb _ _ _ hc).elim);have hM7:=hM6.kept hg7 (fun e=>by injection e with e;exact hab e);have X9:=LY.put (y:=⟨k,⟨xr,rt.r.r,rt.r.wait,rt.r.every,rt.r.again,FP rt.r.wait rt.r.every rt.r.again,0⟩,⟨rt.bA,rt.bm,rt.bk,rt.wA,rt.wm,rt.wk⟩,gb,cb,.slice none 0 0⟩) (by simp only;omega) (by simp only;omega);obtain⟨y,hy⟩:∃y:GX,y = ⟨k,⟨xr,rt.r.r,rt.r.wait,rt.r.every,rt.r.again,FP rt.r.wait rt.r.every rt.r.again,0⟩,⟨rt.bA,rt.bm,rt.bk,rt.wA,rt.wm,rt.wk⟩,gb,cb,.slice none 0 0⟩:=⟨_,rfl⟩;rw[←hy] at Ti X9;have XI:y.key=k:=by rw[hy]
  have hyg:y.gb=gb:=by rw[hy]
  have hyn:y.g.number≤B:=by rw[hy];exact Nat.zero_le _
  have hno:=afA hlk;have abb:(um (dJ gs) k).getD (QO p.aU xr)=y.g:=by rw[hno,hy];exact hng
  have Ot:∀g',qG (dJ (gs++[y])) k g'=qG (dJ gs) k g':=fun g'=>by
   have:dJ (gs++[y])=dJ gs++[(k,y.g)]:=by unfold dJ;rw[List.map_append,←XI];rfl
   rw[this];exact adV hno
  have yM:y∈gs++[y]:=by simp
  generalize gs++[y]=MR at *
  subst hyg;clear hy hno hlk rW qM hxo hrt hoA hob hng amc azB au4 au3 bG Cm aN hg2 Ij amQ hE6 hM6 avs avt hT6 bX6 nb avx hn6 hg7 Rk I8 V9 V7 amX amY avf avg bX e1 q1 el ql x0 xl r0 r1 r2 r3 r4 r5 rl hM0 hnB hS;obtain⟨n7,hn7,hML⟩:=hM7;have q3:=Vj.b3.cell 0;have q3l:=Vj.b3.lt;simp only[List.getElem?_toArray,List.getElem?_cons_zero] at q3;have iL:oP _ ab B asked:=⟨n7,hn7,hML⟩;have nab:=iL.aX;go_wp2_with (at_mapUpdate;refine wQ hML rfl _ _ _ rfl Tryz.underlying9 Tryz.underlying122 (by unfold maxLen;omega) k (by unfold maxLen;omega) (.bool true) (.bool true) rfl rfl rfl (plainElem_bool Tryz.underlying4 true) ?_;intro w8 hM8 LW);have Ox:=Vj.turn LW (.inr amT) (fun cur te fz hc=>(nab _ _ _ hc).elim);have Wh:=Ti.other LW (fun e=>by injection e with e;exact hab e.symm) (fun m hm cur te fz hc=>by injection hm with hm;subst hm;exact (nab _ _ _ hc).elim);have OB:=ajG.Sz LW nab;have abx:=ajH.Sz LW nab;have bX8:=bX7.aO LW (fun e=>by injection e with e;subst e;exact nab _ _ _ bX7);have hT8:=hT7.trans (tX.row LW (fun m hm cur te fz hc=>by injection hm with hm;subst hm;exact (nab _ _ _ hc).elim));have hA8:oP w8 ab (B+1) (asked++[k]):=⟨n7+1,ω,by rw[List.map_append];exact hM8⟩;have zX:=Wh.at_ y yM;have y7:=zX.blk.c7;have yl:=zX.blk.lt;have q4:=Ox.b4.c0;have q4l:=Ox.b4.lt;have x3:=bX8.c3;have x3l:=bX8.lt;have cA:=ζ (fun wq (hq:ah w8 wq)=>VN (k:=xik) wq (zX.jC.grows hq) zX.cge (fun W' yg=>((OB.grows hq).kept' yg (fun j hj=>by injection hj with hj;subst hj;exact aZ (OB.grows hq) (zX.jC.blk.grows hq) δ)).uN Pz) auN atX h0 h1 (Wh.jC y yM));have d1:y.gb≠y.cb:=zX.blk.Ku zX.jC.blk δ;have d2:g4≠y.cb:=Ox.b4.Ku zX.jC.blk δ;have d3:W.heap.size≠y.cb:=bX8.Ku zX.jC.blk δ;have d1':some y.gb≠some y.cb:=fun e=>d1 (Option.some.inj e)
  have d2':some g4≠some y.cb:=fun e=>d2 (Option.some.inj e)
  have d3':some W.heap.size≠some y.cb:=fun e=>d3 (Option.some.inj e)
  have aN:=ζ (ah.refl w8);clear hn7 hML q3 q3l iL nab hM8 LW Vj Ti ajG ajH bX7 hT7;refine jA ((some y.cb)) κ ?_;refine rK (up:=jB) (.range 7) 6 ?_;iterate 7 refine h_ ?_
  refine aB ?_;refine aH [7] κ σ (fun wN hN hS=>(au.cons rfl (fun K' hK=> ?_) au.nil));try replace aN:=ζ (aN.o.trans hN)
  try replace KJ:=ζ (KJ.o.grows hN)
  try replace iG:=ζ (dQ iG.o hN)
  clear hN;go_simp;refine (cA.out _ aN.o).mono ?_;rintro e w9 ⟨v9,rfl,KJ,iG⟩;replace KJ:=ζ KJ;replace iG:=ζ ((aN.o.keeps (some y.cb)).trans iG);clear aN cA;refine hK.o _ _ ?_ (fun hS=> ?_)
  ·exact iG.o
  clear hK hS;refine rK (up:=jB) [8,9,10,11,12] 0 ?_;iterate 5 refine h_ ?_
  refine aB ?_;refine aJ κ (fun wN hN hS=> ?_);try replace aN:=ζ (aN.o.trans hN)
  try replace KJ:=ζ (KJ.o.grows hN)
  try replace iG:=ζ (dQ iG.o hN)
  obtain⟨y1,jU⟩:∃y1:GX,y1={y with g:={y.g with jC:=D5 y.g.jC now kS},v:=v9}:=⟨_,rfl⟩;have abn:=Ox.turn iG.o (X9 y yM).2 (fun cur te fz hc=> .inr (zX.jC.blk.lG hc));have Ri:vW wN base y1:=by
   rw[jU];exact⟨zX.blk.aO iG.o d1',KJ.o,zX.Zl,zX.cge,zX.kl⟩
  have hE9:=Wh.upd (y:=y1) yM iG.o (.inr rfl) Ri (by rw[jU]) (by rw[jU]) (by rw[jU]) (show y1.g.number≤B+1 by rw[jU];simp only;omega) (show y1.g.jC.now≤now by rw[jU];simp only;rw[Pg];exact Int.le_refl _) (Nat.le_refl _);have Vr:=X9.upd (k:=y.key) (y:=y1) yM (by rw[jU]) (by rw[jU]);have abv:=OB.kept' iG.o (fun j hj=>by injection hj with hj;subst hj;exact aZ OB zX.jC.blk δ);have abw:=abx.kept' iG.o (fun j hj=>by injection hj with hj;subst hj;exact aZ abx zX.jC.blk δ);have bX9:=bX8.aO iG.o d3';have hA9:=hA8.kept iG.o (fun e=>by injection e with e;subst e;exact hA8.aX _ _ _ zX.jC.blk);have hT9:=hT8.trans (tX.row iG.o (fun m hm cur te fz hc=>by injection hm with hm;subst hm;rw[zX.jC.blk.lG hc];decide));have hu1:dJ (yx MR y.key y1)=qG (dJ gs) k y1.g:=by rw[←XI];rw[NI Wh.nd yM (by rw[jU]),XI,Ot]
  have Y8:y1∈yx MR y.key y1:=acG yM;have hsome:(um (dJ MR) k).isSome:=by rw[←XI,MS Wh.nd yM];rfl
  have aiY:y1.key=k:=by rw[jU];exact XI
  have U4:y1.gb=y.gb:=by rw[jU]
  have apK:y1.cb=y.cb:=by rw[jU]
  have ht0:y1.g = {y.g with jC:=D5 y.g.jC now kS}:=by rw[jU]
  have hS1:=fun g'=>Ot g'
  generalize yx MR y.key y1=Ru at *
  have aji:ls.length≤B+1:=ω;have htu:WQ y.g now kS={y1.g with number:=if CJ y.g.jC now kS then y.g.number+1 else y.g.number}:=by rw[ht0];rfl
  have Om:y1.g.number=y.g.number:=by rw[ht0]
  have aI:∀g',qG (dJ Ru) k g'=qG (dJ gs) k g':=fun g'=>by
   rw[hu1,←Ot,RY (by rw[←Ot] at hu1;exact hsome),Ot]
  generalize hDU:CJ y.g.jC now kS=DU at *
  have abA:=ζ hDU;clear hDU Ox Wh X9 OB abx bX8 hA8 hT8 zX KJ iG y7 yl q4 q4l x3 x3l d1 d2 d3 d1' d2' d3' hS hN hS1 hsome;cases DU with
  | false=>
   go_wp2;go_end0;exact qY Ic abb abn hE9 Vr hA9 aji hT9 (by rw[hu1,htu,←Om];rfl) (by rw[abA.o];rfl)
  | true=>
   have vJ:aF wN y.gb 130 (L9 y1.g y1.r y1.cb):=by rw[←U4];exact Ri.blk
   have n8:wN.cell? ⟨y.gb,8,none⟩=some (.int .i64 (y.g.number:Int)):=by rw[←Om];exact vJ.cell 8
   have n8l:=vJ.lt;have n8f:=vJ.frozen 8;have AQ:=aj wN ⟨y.gb,8,none⟩ (.int .i64 ((y.g.number:Int)+1));obtain⟨gs3,F9,Ip,Ii⟩:=hE9.count Vr Y8 (akt Om hyn);rw[U4,Om] at F9;rw[aiY,aI,Om] at Ii;have jV:=abn.turn AQ (by have:=(Vr y1 Y8).1;rw[U4] at this;exact this) (fun cur te fz hc=> .inl (vJ.lG hc));have Il:=abv.kept' AQ (fun j hj=>by injection hj with hj;subst hj;exact aZ abv vJ δ);have Io:=abw.kept' AQ (fun j hj=>by injection hj with hj;subst hj;exact aZ abw vJ δ);have VI:=bX9.aO AQ (fun e=>by injection e with e;exact bX9.Ku vJ δ e);have Vz:=hA9.kept AQ (fun e=>by injection e with e;subst e;exact hA9.aX _ _ _ vJ);have Vo:=hT9.trans (tX.row AQ (fun m hm cur te fz hc=>by injection hm with hm;subst hm;rw[vJ.lG hc];decide));have Ou:=vJ.bD 8 (.int .i64 ((y.g.number:Int)+1));have n8':(wN.setCell ⟨y.gb,8,none⟩ (.int .i64 ((y.g.number:Int)+1))).cell? ⟨y.gb,8,none⟩=some (.int .i64 ((y.g.number:Int)+1)):=by
    have:=Ou.cell 8;unfold L9 at this;simpa using this
   have aaG:=Ou.lt;replace Ii:=ζ Ii;replace F9:=ζ F9;replace Ip:=ζ Ip;replace jV:=ζ jV;replace Il:=ζ Il;replace Io:=ζ Io;replace VI:=ζ VI;replace Vz:=ζ Vz;replace Vo:=ζ Vo;replace n8':=ζ n8';replace aaG:=ζ aaG;clear hE9 Vr abn abv abw bX9 hA9 hT9 vJ Ou AQ Ri hu1 aI Y8 aiY U4 apK;have hwr:=RH hyn hB;clear jU;go_wp2;generalize wN.setCell ⟨y.gb,8,none⟩ (.int .i64 ((y.g.number:Int)+1))=Nw at *
   have m8:=n8'.out;have m8l:=aaG.out;have ajB:=Il.o.uN Pz;have ajC:=Io.o.uN IZ;have ajA:=jV.o.own.uN abf;have hML:Hid (jS fb p.aU rec ⟨xr,Gs,xk,kS⟩ (ys.map (·.a)) ((y.g.number:Int)+1) now=jS fb p.aU rec ⟨xr,Gs,xk,kS⟩ (ys.map (·.a)) ((y.g.number:Int)+1) now):=ζ rfl;have cMk:=ζ (fun W' (hW:ah Nw W')=>Xr (fb:=fb) (g:=⟨xr,xk,Gs,xbA,Gs.length,xbk,kS,xiA,kS.length,xik⟩) (rec:=rec) (n:=(y.g.number:Int)+1) (now:=now) (lk:=ok) W' (hSK W' (jV.o.off.iw hW)).utf (hSK W' (jV.o.off.iw hW)).aU oO (ajA.keep hW) (hSK W' (jV.o.off.iw hW)).at_ auj (ajC.keep hW) au9 auU (ajB.keep hW) auL);unfold Uk dO.g bU.val at cMk;simp only at cMk;generalize Vs:jS fb p.aU rec ⟨xr,Gs,xk,kS⟩ (ys.map (·.a)) ((y.g.number:Int)+1) now=ML at *
   replace Vs:=ζ Vs;have e0:=F9.o.blk.c0;have el:=F9.o.blk.lt;have ae5:=ζ jV.o.off.size;refine IG (p:=p) (w0:=w0) cMk ae5 (ζ jV.o.b1) (ζ jV.o.b2) (ζ jV.o.b4) (ζ jV.o.b5) VI e0 el m8 m8l π ?_;intros
   rename_i w12 aqD;obtain⟨gL,o,rfl,rfl,bL,XT,yO,JL⟩:=aqD;replace bL:=bL.out;replace XT:=XT.o;replace yO:=yO.o;replace JL:=JL.o;have vK:=ζ (jV.o.grows JL);have ajM:=ζ (F9.o.grows JL);have ajU:=ζ (Vz.o.grows JL);have ajD:=ζ (Vo.o.trans (tX.grows JL));clear e0 el m8 m8l jV F9 Vz Vo Il Io VI cMk;cases o with
   | none=>
    simp only[Option.isSome_none];go_wp2;go_end0;exact qY Ic abb vK.o ajM.o Ip.o ajU.o aji ajD.o (by rw[Ii.o,htu,ht0];rfl) (by rw[abA.o,if_pos rfl,Vs.o,←XT];simp)
   | some z=>
    simp only[Option.isSome_some];have q6:=vK.o.b6.c0;have q6l:=vK.o.b6.lt;have l0:=bL.c0;have l1:=bL.c1;have l2:=bL.c2;have l3:=bL.c3;have l4:=bL.c4;have l5:=bL.c5;have ll:=bL.lt;have jG:=ζ ((ah.refl w12).alloc (.cells (jY z).toArray 64));have hz:=ζ (yO z rfl);have abz:=ζ (vK.o.out.alloc (.cells (jY z).toArray 64));have ab3:=ζ (vK.o.b6.alloc (.cells (jY z).toArray 64));have apR:=ζ (show w0.heap.size≤w12.heap.size from vK.o.off.size);unfold jY at jG abz ab3;clear yO bL;go_wp2_with (at_builtin;go_loud (refine dH (x:=z) arh rfl (.tmp 89) (.tmp 91) rfl abz.o rfl ⟨w12.heap.size,0,none⟩ rfl rfl (iK (by exact heap_alloc_new w12 _)) (aip z) (by have:=apR.o;simp;omega) (by unfold maxLen;omega) ω (fun v7 w7 rG hgr qQ=> ?_);(obtain⟨g7,k7,hv7⟩:=lV rG σ);(rw[List.length_append] at hv7);(simp only[List.length_cons,List.length_nil,Nat.zero_add] at hv7);(subst hv7);(have tN:=ab3.out.aO hgr (fun e=>aZ abz.o ab3.out δ e.symm));(replace rG:=ζ rG);(replace hgr:=ζ hgr);(have c7:w7.cell? ⟨g6,0,none⟩=some v:=tN.cell 0);have l7:=tN.lt;have f7:=tN.frozen 0;clear qQ tN));go_end0;obtain⟨aqs,hEF,hAF,hTF⟩:=YS (vK.o.grows jG.o) (ajM.o.grows jG.o) (ajU.o.grows jG.o) (ajD.o.trans (tX.grows jG.o)) rG.o hgr.o (hz.o.grows jG.o);exact qY Ic abb aqs hEF Ip.o hAF (by simp;omega) hTF (by rw[Ii.o,htu,ht0];rfl) (by rw[abA.o,if_pos rfl,Vs.o,←XT];simp)
theorem Pv.more {p:fU} {n m:Nat} {g:m_} (h:Pv p n g) (hn:n≤m):Pv p m g:=⟨h.r,h.r12,h.fH,h.VX,Nat.le_trans h.ids hn⟩
def CY (mk:m_→Int→Option Nj) (p:fU) (now:Int) (gs:List (List UInt8×Ar)) (G:List dO) (k:Nat):ak4:=((G.take k).map dO.g).foldl (J5 mk p now) ⟨gs,[],[]⟩
theorem ab7 {mk:m_→Int→Option Nj} {p:fU} {now:Int} {gs:List (List UInt8×Ar)} {G:List dO} {k:Nat} {x:dO} (hx:G[k]? = some x):CY mk p now gs G (k+1)=J5 mk p now (CY mk p now gs G k) x.g:=by
 unfold CY;rw[List.take_add_one,hx,List.map_append,List.foldl_append];rfl
theorem aj9 {fb:cZ→Bool} {p:bU} {S:Nat→Prop} {w0:World} {base ge b ab B om ok g1 g2 g3 g4 g5 g6 c83 b1:Nat} {rec:List UInt8} {now:Int} {oA A83:Option Addr} {ys:List dA} {gs:List GX} {G:List dO} {wS:World} {Q0:Exit→Act→World→Prop} {x0 x1 x2 x3 x4 x5 x6 x7 x8 x9 Fq ED Bd Hf EC IX Dj GU GR DV DT Ez Ey Ew Di Dh Df DR DN DL DK DJ DI DF DC Dz Dy Dx Dw GK Eu Et Es Ep Eo En Em Ej Ei Eh Ef Ee Ed He GI Fp Dv Ec Eb G_ G9 G8 GH Gz Gy Gx Fj Fh Fg Fe Gw Gv Gu Fb Fa E_ E8 E5 EZ EY EX EW Gt EU Ea D_ D9 D8 D7 Jd Jc G7 G6 Np KZ KY sV sU sS sQ sO sN sK sJ sH sG sF sD uI tY:Value}
 (hSK:Hid (∀W,nJ S w0 W→akY p ys W)) (oO:Hid (lQ fb p)) (EL:Hid (nY S w0 wS p.cells.toArray ge ab now oA om ok ys g1 g2 g3 g4 g5 g6 (.slice none 0 0) [])) (hE:Hid (dM wS base ge b rec now B gs)) (LY:Hid (vV S w0 gs)) (hM:Hid (oP wS ab B [])) (hab:ab≠b) (amT:w0.heap.size≤ab) (hSb:Hid (S b)) (hlb:base≤w0.heap.size) (hB:Hid (B+G.length≤1000000)) (h0:0≤now) (h1:Hid (now≤fC)) (hom:om≤12) (hG:Hid (MC wS b1 (.slice A83 G.length c83) G)) (hGs:Hid (VT wS b1 G)) (hb1:w0.heap.size≤b1) (EI:Hid (∀x∈G,Pv p.aU 12 x.g))
 (hQ0:∀c a d v w,Q0 (.panic c) (Act.put a d v) w→Q0 (.panic c) a w)
 (oK:∀(u22 u85 u86 u87 u88 u89 u90 u91 u92:Value) (wr:World),(∃(gs':List GX) (v':Value) (QU:List fG),Hid (nY S w0 wr p.cells.toArray ge ab now oA om ok ys g1 g2 g3 g4 g5 g6 v' QU)∧Hid (dM wr base ge b rec now (B+G.length) gs')∧Hid (vV S w0 gs')∧Hid (oP wr ab (B+G.length) (CY (fun x n=>jS fb p.aU rec x (ys.map (·.a)) n now) p.aU now (dJ gs) G G.length).asked)∧Hid (QU.length≤B+G.length)∧Hid (dJ gs'=(CY (fun x n=>jS fb p.aU rec x (ys.map (·.a)) n now) p.aU now (dJ gs) G G.length).gs)∧Hid (QU.map (·.yc)=(CY (fun x n=>jS fb p.aU rec x (ys.map (·.a)) n now) p.aU now (dJ gs) G G.length).out))→Q0 (.exit 4) ⟨(x0::x1::x2::x3::x4::x5::x6::x7::x8::x9::Fq::ED::Bd::Hf::EC::IX::Dj::GU::GR::DV::(.func (.func 43) #[] #[.pointer (some ⟨g1,0,none⟩),.pointer (some ⟨g2,0,none⟩),.pointer (some ⟨g3,0,none⟩),.pointer (some ⟨g4,0,none⟩),.pointer (some ⟨g5,0,none⟩),.pointer (some ⟨g6,0,none⟩)])::DT::u22::Ey::Ew::Di::Dh::Df::DR::DN::DL::DK::DJ::DI::DF::DC::Dz::Dy::Dx::Dw::GK::Eu::Et::Es::Ep::Eo::En::Em::Ej::Ei::Eh::Ef::Ee::Ed::He::GI::Fp::Dv::Ec::Eb::G_::G9::G8::GH::Gz::Gy::Gx::Fj::Fh::Fg::Fe::Gw::Gv::Gu::Fb::Fa::E_::E8::E5::EZ::EY::EX::EW::(.slice A83 G.length c83)::(.int .i64 (G.length:Int))::u85::u86::u87::u88::u89::u90::u91::u92::Jd::Jc::G7::G6::Np::KZ::KY::sV::sU::sS::sQ::sO::sN::sK::sJ::sH::sG::sF::sD::uI::tY::[]).toArray,[]⟩ wr) :
 Code.wp Tryz.prog (zQ Tryz.f13 2) Q0 ⟨(x0::x1::x2::x3::x4::x5::x6::x7::x8::x9::Fq::ED::Bd::Hf::EC::IX::Dj::GU::GR::DV::(.func (.func 43) #[] #[.pointer (some ⟨g1,0,none⟩),.pointer (some ⟨g2,0,none⟩),.pointer (some ⟨g3,0,none⟩),.pointer (some ⟨g4,0,none⟩),.pointer (some ⟨g5,0,none⟩),.pointer (some ⟨g6,0,none⟩)])::DT::Ez::Ey::Ew::Di::Dh::Df::DR::DN::DL::DK::DJ::DI::DF::DC::Dz::Dy::Dx::Dw::GK::Eu::Et::Es::Ep::Eo::En::Em::Ej::Ei::Eh::Ef::Ee::Ed::He::GI::Fp::Dv::Ec::Eb::G_::G9::G8::GH::Gz::Gy::Gx::Fj::Fh::Fg::Fe::Gw::Gv::Gu::Fb::Fa::E_::E8::E5::EZ::EY::EX::EW::(.slice A83 G.length c83)::(.int .i64 (G.length:Int))::(.int .i64 0)::Gt::EU::Ea::D_::D9::D8::D7::Jd::Jc::G7::G6::Np::KZ::KY::sV::sU::sS::sQ::sO::sN::sK::sJ::sH::sG::sF::sD::uI::tY::[]).toArray,[]⟩ wS:=by
 conv=>arg 2;whnf
 have hqz:=hQ0;clear hqz;have hGb:G.length≤1000000:=by have:=hB.o;omega
 have iY:=ζ (fun k x (hx:G[k]? = some x)=>ab7 (mk:=fun x n=>jS fb p.aU rec x (ys.map (·.a)) n now) (p:=p.aU) (now:=now) (gs:=dJ gs) hx);have Oo:CY (fun x n=>jS fb p.aU rec x (ys.map (·.a)) n now) p.aU now (dJ gs) G 0=⟨dJ gs,[],[]⟩:=rfl;have cK:=ζ (fun W gs' asked v ls k x Zc hE' hN' hM' hll iI hxi hxf hg=>akl (fb:=fb) (p:=p) (S:=S) (w0:=w0) (base:=base) (ge:=ge) (b:=b) (ab:=ab) (B:=B+k) (rec:=rec) (now:=now) (oA:=oA) (om:=om) (ok:=ok) (ys:=ys) (g1:=g1) (g2:=g2) (g3:=g3) (g4:=g4) (g5:=g5) (g6:=g6) (gs:=gs') (asked:=asked) (v:=v) (ls:=ls) (x:=x) W hSK.o oO.o Zc hE' hN' hM' hab amT hSb.o hlb hll iI h0 h1.o hom hxi hxf hg);generalize hT:CY (fun x n=>jS fb p.aU rec x (ys.map (·.a)) n now) p.aU now (dJ gs) G=T at *
 replace Oo:=ζ Oo;clear hT;go_loopw [85] (fun i wr=>∃(k:Nat) (gs':List GX) (v':Value) (QU:List fG),k≤G.length∧i =.int .i64 (k:Int)∧Hid (nY S w0 wr p.cells.toArray ge ab now oA om ok ys g1 g2 g3 g4 g5 g6 v' QU)∧Hid (dM wr base ge b rec now (B+k) gs')∧Hid (vV S w0 gs')∧Hid (oP wr ab (B+k) (T k).asked)∧Hid (QU.length≤B+k)∧Hid (dJ gs'=(T k).gs)∧Hid (QU.map (·.yc)=(T k).out)∧Hid (tX agp wS wr)) (fun i _=>G.length-(intOf i).toNat)
 case atStart=>exact⟨0,gs,_,[],ω,rfl,EL,hE,LY,by rw[Oo.o];exact hM,ζ (Nat.zero_le _),ζ (by rw[Oo.o]),ζ (by rw[Oo.o];rfl),ζ (tX.refl _ _)⟩
 case round=>
  obtain⟨k,gs',v',QU,hk,rfl,amP,hEr,hNr,hMr,hlr,hgr,hor,hTr⟩:=hrel;by_cases wB:k<G.length
  ·obtain⟨A9,c9,hv9,-,-,hX9⟩:=(tX.own hG.o hTr.o δ).arr hkG;simp only[Value.slice.injEq] at hv9;obtain⟨rfl,-,rfl⟩:=hv9;obtain⟨bb,off,x,rfl,GV,hx,hcell⟩:=hX9.at_ wB;have c0:wr.cell? ⟨bb,off+k*4,none⟩=some (.int .i64 (x.r:Int)):=by simpa using hcell 0 _ rfl
   have c1:wr.cell? ⟨bb,off+k*4+1,none⟩=some (.slice x.bA x.bm x.bk):=hcell 1 _ rfl;have c2:wr.cell? ⟨bb,off+k*4+2,none⟩=some (.int .u64 (x.key:Int)):=hcell 2 _ rfl;have c3:wr.cell? ⟨bb,off+k*4+3,none⟩=some (.slice x.iA x.im x.ik):=hcell 3 _ rfl;have wu:=List.mem_of_getElem? hx;obtain⟨hxi,hxf⟩:=hGs.o x wu;have jG:ah wr (wr.alloc (.cells #[.int .i64 (x.r:Int),.slice x.bA x.bm x.bk,.int .u64 (x.key:Int),.slice x.iA x.im x.ik] 125)):=(ah.refl wr).alloc _;have amc:=((tX.own hxi hTr.o δ).bJ hb1).grows jG;have atQ:=((tX.own hxf hTr.o δ).bJ hb1).grows jG;have cX:=ζ (cK.out _ gs' (T k).asked v' QU k x (amP.o.grows jG) (hEr.o.grows jG) hNr.o (hMr.o.grows jG) hlr.o (by have:=hB.o;omega) amc atQ (EI.o x wu));have hTa:=ζ (hTr.o.trans (tX.grows jG));have hTk:Hid (T (k+1)=J5 (fun x n=>jS fb p.aU rec x (ys.map (·.a)) n now) p.aU now (T k) x.g):=ζ (iY.o k x hx);have kY:(k:Int)<(G.length:Int):=ω;unfold Uk at cX;clear hcell hx hxi hxf amc atQ hX9 amP hEr hNr hMr hlr hTr;go_wp2_with fail;refine cX.out.mono ?_;rintro e w5 ⟨rfl,gs5,v5,ls5,aqt,Yc,aqF,hM5,ap6,hT5,amJ,amy⟩;have aqz:T (k+1)=J5 (fun x n=>jS fb p.aU rec x (ys.map (·.a)) n now) p.aU now ⟨dJ gs',(T k).asked,QU.map (·.yc)⟩ x.g:=by
    rw[hTk.o,hgr.o,hor.o]
   rw[←aqz] at amJ amy;have Oy:(T k).asked++[dn x.g.route x.g.fH]=(T (k+1)).asked:=by rw[aqz];rfl
   rw[Oy] at hM5;have hT6:=ζ (hTa.o.trans hT5);replace aqt:=ζ aqt;replace Yc:=ζ Yc;replace aqF:=ζ aqF;replace hM5:=ζ hM5;replace ap6:=ζ ap6;replace amJ:=ζ amJ;replace amy:=ζ amy;clear cX hTa hT5 hTk aqz Oy c0 c1 c2 c3 jG;go_wp2;go_roundw
   case rel=>exact⟨k+1,gs5,v5,ls5,ω,ν,aqt,Yc,aqF,hM5,ap6,amJ,amy,hT6⟩
   case measure=>exact ψ
  ·obtain rfl:k=G.length:=ω;clear hTr cK iY;go_wp2;first
    | exact⟨gs',v',QU,amP,hEr,hNr,hMr,hlr,hgr,hor⟩
    | exact oK _ _ _ _ _ _ _ _ _ _ _ _ _ _ _ _ _ _ ⟨gs',v',QU,amP,hEr,hNr,hMr,hlr,hgr,hor⟩
theorem N8 (s:List UInt8):∀l:List (List UInt8),nM (l.map fun k=>(k,Lit.bool true)) s = if s∈l then some (.bool true) else none
 | []=>rfl
 | a ::l=>by
  rw[List.map_cons,vC,N8 s l];by_cases h:s∈l
  ·simp[h]
  ·by_cases e:a = s
   ·simp[h,e]
   ·simp[h,e,Ne.symm e]
theorem oP.look {W:World} {ab B:Nat} {asked:List (List UInt8)} (h:oP W ab B asked) {s:List UInt8} (hs:s.length≤1000000) :
 (Instr.lookup 122 (.map (some ab)) (.string ⟨s.toArray⟩) false).run Tryz.prog W=.ok (.bool (decide (s∈asked))) W:=by
 obtain⟨n,-,h⟩:=h;refine h.SC Tryz.underlying9 Tryz.underlying122 Tryz.underlying4 κ (by unfold maxLen;omega) ?_;rw[N8];by_cases hm:s∈asked <;> simp[hm]
theorem oP.lt {W:World} {ab B:Nat} {asked:List (List UInt8)} (h:oP W ab B asked):ab<W.heap.size:=by
 obtain⟨n,-,h⟩:=h;exact iV.lt h
theorem oP.off {S:Nat→Prop} {W W':World} {ab B:Nat} {asked:List (List UInt8)} (h:oP W ab B asked) (hO:nJ S W W') (hn:¬S ab):oP W' ab B asked:=by
 have hl:=h.lt;obtain⟨n,hb,es,clock,he,hr⟩:=h;exact⟨n,hb,es,clock,(hO.block ab hl hn).trans he,hr⟩
theorem ahg {gs:List GX} (hn:(gs.map (·.key)).Nodup) {x y:GX} (hx:x∈gs) (hk:y.key=x.key) (hg:y.gb=x.gb) (hc:y.cb=x.cb):pO (yx gs x.key y)=pO gs∧(yx gs x.key y).map (·.gb)=gs.map (·.gb)∧(yx gs x.key y).map (·.cb)=gs.map (·.cb):=
 ⟨uM (f:=fun x=>(x.key,x.gb)) hx hn rfl (by rw[hk,hg]),uM hx hn rfl hg,uM hx hn rfl hc⟩
theorem aj8 {base ge b ab B r n g3 g4:Nat} {rec:List UInt8} {now:Int} {asked:List (List UInt8)} {gs:List GX} {D:DataW Unit} {wS:World} {Q0:Exit→Act→World→Prop} {x0 x1 x2 x3 x4 x5 x6 x7 x8 Fq ED Bd Hf EC IX Dj GU DV GN DT Ez Ey Ew Di Dh Df DR DN DL DK DJ DI DF DC Dz Dy Dx Dw GK Eu Et Es Ep Eo En Em Ej Ei Eh Ef Ee Ed He GI Fp Dv Ec Eb G_ G9 G8 GH Gz Gy Gx Fj Fh Fg Fe Gw Gv Gu Fb Fa E_ E8 E5 EZ EY EX EW IW IV IU Gt EU Ea D_ D9 D8 D7 Jd Jc G7 G6 KZ KY sV sU sS sQ sO sN sK sJ sH sG sF sD uI tY:Value}
 (hb3:Hid (aF wS g3 122 #[.map (some ab)])) (hb4:Hid (aF wS g4 3 #[.int .i64 now])) (hM:Hid (oP wS ab B asked)) (hE:Hid (dM wS base ge b rec now B gs)) (hrg0:wS.ranges Tryz.prog 9 yF b r n D (Maps.has D) (Maps.size D)) (hD:Hid (AO D (pO gs))) (h0:0≤now) (h1:Hid (now≤fC))
 (hQ0:∀c a d v w,Q0 (.panic c) (Act.put a d v) w→Q0 (.panic c) a w)
 (oK:∀(u23 u24 u98 u99 UC UA Uz Uy Ux Uw Uu Ut Us Ur Uo Un Zx:Value) (wr:World),(∃gs':List GX,Hid (dM wr base ge b rec now B gs')∧Hid (dJ gs'=(dJ gs).map (Gg asked now))∧Hid (gs'.map (·.gb)=gs.map (·.gb))∧Hid (gs'.map (·.cb)=gs.map (·.cb))∧Hid (nJ (fun j=>j = r∨∃x∈gs,j = x.cb) wS wr)∧Hid (tX [180] wS wr))→Q0 (.exit 6) ⟨(x0::x1::x2::x3::x4::x5::x6::x7::x8::(.pointer (some ⟨g4,0,none⟩))::Fq::ED::Bd::Hf::EC::IX::Dj::GU::(.pointer (some ⟨g3,0,none⟩))::DV::GN::DT::Ez::u23::u24::Di::Dh::Df::DR::DN::DL::DK::DJ::DI::DF::DC::Dz::Dy::Dx::Dw::GK::Eu::Et::Es::Ep::Eo::En::Em::Ej::Ei::Eh::Ef::Ee::Ed::He::GI::Fp::Dv::Ec::Eb::G_::G9::G8::GH::Gz::Gy::Gx::Fj::Fh::Fg::Fe::Gw::Gv::Gu::Fb::Fa::E_::E8::E5::EZ::EY::EX::EW::IW::IV::IU::Gt::EU::Ea::D_::D9::D8::D7::Jd::Jc::G7::G6::(.pointer (some ⟨r,0,none⟩))::u98::u99::UC::UA::Uz::Uy::Ux::Uw::Uu::Ut::Us::Ur::Uo::Un::Zx::tY::[]).toArray,[]⟩ wr) :
 Code.wp Tryz.prog (zQ Tryz.f13 3) Q0 ⟨(x0::x1::x2::x3::x4::x5::x6::x7::x8::(.pointer (some ⟨g4,0,none⟩))::Fq::ED::Bd::Hf::EC::IX::Dj::GU::(.pointer (some ⟨g3,0,none⟩))::DV::GN::DT::Ez::Ey::Ew::Di::Dh::Df::DR::DN::DL::DK::DJ::DI::DF::DC::Dz::Dy::Dx::Dw::GK::Eu::Et::Es::Ep::Eo::En::Em::Ej::Ei::Eh::Ef::Ee::Ed::He::GI::Fp::Dv::Ec::Eb::G_::G9::G8::GH::Gz::Gy::Gx::Fj::Fh::Fg::Fe::Gw::Gv::Gu::Fb::Fa::E_::E8::E5::EZ::EY::EX::EW::IW::IV::IU::Gt::EU::Ea::D_::D9::D8::D7::Jd::Jc::G7::G6::(.pointer (some ⟨r,0,none⟩))::KZ::KY::sV::sU::sS::sQ::sO::sN::sK::sJ::sH::sG::sF::sD::uI::tY::[]).toArray,[]⟩ wS:=by
 conv=>arg 2;whnf
 have hri:=oI hrg0;have abm:∀x∈gs,∃cs,aF wS x.cb 180 cs:=fun x hx=>⟨_,(hE.o.at_ x hx).jC.blk⟩
 have hnS:∀{g:Nat} {te:TypeId} {cs:Array Value},aF wS g te cs→te≠180→¬(g = r∨∃x∈gs,g = x.cb):=fun hB ht h=>by
  rcases h with rfl | ⟨x,hx,rfl⟩
  ·exact hri _ _ _ hB
  ·obtain⟨cs,h2⟩:=abm x hx;exact hB.Ku h2 ht rfl
 have hn3:=hnS hb3.o δ;have hn4:=hnS hb4.o δ;have hnM:¬(ab=r∨∃x∈gs,ab=x.cb):=fun h=>by
  rcases h with rfl | ⟨x,hx,rfl⟩
  ·obtain⟨n2,-,es,clock,he,-⟩:=hM.o;obtain⟨es2,aAX,since,seen,c0,_,_,_,_,hr,_⟩:=hrg0;rw[he] at hr;cases hr
  ·obtain⟨cs,h2⟩:=abm x hx;exact hM.o.aX _ _ _ h2
 have hst:=abP hD.o hE.o.nd asked now;clear hnS abm;go_loopw [23,24] (fun _ _ wr=>∃(left:Lit→Bool) (cnt:Nat) (Ru:List GX),wr.ranges Tryz.prog 9 yF b r n D left cnt∧Hid (dM wr base ge b rec now B Ru)∧Hid (dJ Ru=(dJ gs).map (OY left asked now))∧Hid (pO Ru=pO gs)∧Hid (Ru.map (·.gb)=gs.map (·.gb))∧Hid (Ru.map (·.cb)=gs.map (·.cb))∧Hid (nJ (fun j=>j = r∨∃x∈gs,j = x.cb) wS wr)∧Hid (tX [180] wS wr)) (fun _ _ wr=>wr.rangeLeft b r)
 case atStart=>exact⟨_,_,gs,hrg0,hE,ζ hst,ζ rfl,ζ rfl,ζ rfl,ζ (nJ.refl _ _),ζ (tX.refl _ _)⟩
 case round=>
  obtain⟨left,cnt,Ru,hrg,hEr,hgr,hmr,hbr,hcr,Tf,hT⟩:=hrel;go_wp2_with (first
   | (at_next;refine wpList_next_ranges _ rfl _ rfl 9 zV yF (fun s:List UInt8=>Value.string ⟨s.toArray⟩) UK (fun key kl hkey=>by obtain⟨s,rfl,_⟩:=keyOf_str hkey;exact⟨s,rfl⟩) (fun v y hv=>Jm hv) b r n _ _ _ rfl hrg ?_ ?_)
   | go_in)
  ·intro _ hl0;have aQ:Hid (dJ Ru=(dJ gs).map (Gg asked now)):=ζ (by rw[hgr.o,aki hl0]);clear hrg hl0 hgr hmr;go_wp2;first
    | exact⟨Ru,hEr,aQ,hbr,hcr,Tf,hT⟩
    | exact oK _ _ _ _ _ _ _ _ _ _ _ _ _ _ _ _ _ ⟨Ru,hEr,aQ,hbr,hcr,Tf,hT⟩
  ·intro x c kl yd yp w3 Yz hkey hlk hv hat hrg3 hlt hg3 hs3 hen;obtain⟨s,e1,rfl⟩:=keyOf_str hkey;obtain rfl:x = s:=str_inj e1;rw[yE] at hv;simp only[Option.some.injEq,Prod.mk.injEq] at hv;obtain⟨gb,rfl,rW⟩:=hD.o.entry (s:=x) (o:=c) (fun zd=>by rw[hat zd,←hv.1]);rw[←hmr.o] at rW;obtain⟨y,yM,XI,rfl⟩:=N7 rW;have U9:∀cur te fz,wr.heap[r]?≠some (.cells cur te fz):=oI hrg;have I7:=hEr.o.other hg3 (fun e=>by injection e with e;exact hrg.ne e.symm) (fun m hm cur te fz hc=>by injection hm with hm;subst hm;exact (U9 _ _ _ hc).elim);have iT:=Tf.o.next hg3 (fun k hk=>by injection hk with hk;subst hk;exact .inl (.inl rfl));have hT3:=hT.o.trans (tX.row hg3 (fun m hm cur te fz hc=>by injection hm with hm;subst hm;exact (U9 _ _ _ hc).elim));have VZ:=I7.at_ y yM;have KG:=VZ.kl;rw[XI] at KG;have b3:=iT.blk hb3.o hn3;have b4:=iT.blk hb4.o hn4;have Zf:=hM.o.off iT hnM;have ajh:=Zf.look (s:=x) ω;have q3:=b3.c0;have q3l:=b3.lt;have q4:=b4.c0;have q4l:=b4.lt;have y7:=VZ.blk.c7;have yl:=VZ.blk.lt;have hstep:=afU (L:=dJ gs) (asked:=asked) (now:=now) hlk;rw[←hgr.o] at hstep;simp only[UK,Option.map_some] at hen ⊢;replace hstep:=ζ hstep;replace iT:=ζ iT;replace I7:=ζ I7;replace hT3:=ζ hT3;clear hat hv rW e1 hEr Tf hg3 hs3 U9 hT hst hlk hgr Zf;by_cases hxA:x∈asked
   ·rw[decide_eq_true hxA] at ajh;have hgF:Hid (dJ Ru=(dJ gs).map (OY (fun z=>left z && !z.sameKey (.string x)) asked now)):=ζ (by rw[hstep.o,abQ hxA]);clear hxA;go_wp2;go_roundw
    case rel=>exact⟨_,Yz,Ru,hrg3,I7,hgF,hmr,hbr,hcr,iT,hT3⟩
    case measure=>
     rw[hrg3.left_eq,hrg.left_eq];exact hlt
   ·rw[decide_eq_false hxA] at ajh;have hcm:y.cb∈gs.map (·.cb):=by rw[←hcr.o];exact List.mem_map.2 ⟨y,yM,rfl⟩
    obtain⟨x0,hx0,ayv⟩:=List.mem_map.1 hcm;have azO:some b≠some y.cb:=fun e=>by
     injection e with e
     obtain⟨n2,-,Zg⟩:=I7.o.map;exact Zg.aX _ _ _ (by rw[e];exact VZ.jC.blk)
    have ayR:some r≠some y.cb:=fun e=>by
     injection e with e
     exact oI hrg3 _ _ _ (by rw[e];exact VZ.jC.blk)
    have dg:y.gb≠y.cb:=VZ.blk.Ku VZ.jC.blk δ;have dg':some y.gb≠some y.cb:=fun e=>dg (Option.some.inj e)
    have d4:some g4≠some y.cb:=fun e=>b4.Ku VZ.jC.blk δ (Option.some.inj e)
    have cA:=ζ (fun wq (hq:ah w3 wq)=>VN (A:=none) (m:=0) (k:=0) (ids:=[]) wq (VZ.jC.grows hq) VZ.cge (fun W _=>bW.iH) ω List.Pairwise.nil h0 h1.o (I7.o.jC y yM));have aN:=ζ (ah.refl w3);clear b3 b4;go_wp2_with fail;refine jA ((some y.cb)) κ ?_;refine rK (up:=jB) (.range 5) 1 ?_;iterate 5 refine h_ ?_
    refine aB ?_;refine aH [5] κ σ (fun wN hN hS=>(au.cons rfl (fun K' hK=> ?_) au.nil));try replace aN:=ζ (aN.o.trans hN)
    try replace KJ:=ζ (KJ.o.grows hN)
    try replace iG:=ζ (dQ iG.o hN)
    clear hN;go_simp;refine (cA.out _ aN.o).mono ?_;rintro e w9 ⟨v9,rfl,KJ,iG⟩;replace KJ:=ζ KJ;replace iG:=ζ ((aN.o.keeps (some y.cb)).trans iG);clear aN cA;refine hK.o _ _ ?_ (fun hS=> ?_)
    ·exact iG.o
    clear hK hS;refine aJ κ (fun wN hN hS=> ?_);try replace aN:=ζ (aN.o.trans hN)
    try replace KJ:=ζ (KJ.o.grows hN)
    try replace iG:=ζ (dQ iG.o hN)
    obtain⟨y1,jU⟩:∃y1:GX,y1={y with g:={y.g with jC:=D5 y.g.jC now []},v:=v9}:=⟨_,rfl⟩;have Ri:vW wN base y1:=by
     rw[jU];exact⟨VZ.blk.aO iG.o dg',KJ.o,VZ.Zl,VZ.cge,VZ.kl⟩
    have hE9:=I7.o.upd (y:=y1) yM iG.o (.inr rfl) Ri (by rw[jU]) (by rw[jU]) (by rw[jU]) (show y1.g.number≤B by rw[jU];exact I7.o.num y yM) (show y1.g.jC.now≤now by rw[jU];simp only;rw[Pg];exact Int.le_refl _) (Nat.le_refl _);have hgF:=akg (asked:=asked) (now:=now) I7.o.nd yM (y:=y1) (by rw[jU]) (by rw[jU]) (by rw[XI];exact hxA);obtain⟨Y8,Q_,hm3⟩:=ahg I7.o.nd yM (y:=y1) (by rw[jU]) (by rw[jU]) (by rw[jU]);rw[XI] at hgF hE9 Y8 Q_ hm3;rw[←hstep.o] at hgF;rw[hmr.o] at Y8;rw[hbr.o] at Q_;rw[hcr.o] at hm3;have aud:=hrg3.kept iG.o azO ayR;have hO9:=iT.o.next iG.o (fun m hm=>by injection hm with hm;subst hm;exact .inl (.inr ⟨x0,hx0,ayv.symm⟩));have hT9:=hT3.o.trans (tX.row iG.o (fun m hm cur te fz hc=>by injection hm with hm;subst hm;rw[VZ.jC.blk.lG hc];exact List.mem_cons_self ..));clear I7 iT hT3 iG KJ Ri;go_wp2;go_roundw
    case rel=>exact⟨_,Yz,_,aud,ζ hE9,ζ hgF,ζ Y8,ζ Q_,ζ hm3,ζ hO9,ζ hT9⟩
    case measure=>
     rw[aud.left_eq,hrg.left_eq];exact hlt
end Go.Proofs.YtbhikkgpcmkonaaGreatDoor
