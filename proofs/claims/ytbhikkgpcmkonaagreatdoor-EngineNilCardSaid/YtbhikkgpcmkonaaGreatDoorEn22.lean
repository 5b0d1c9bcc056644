/- Parts: EngJ EngR EngG EngK EngL -/
import Derived.Test.YtbhikkgpcmkonaaGreatDoorEn0
import Derived.Test.YtbhikkgpcmkonaaGreatDoorEn21
import Derived.Test.YtbhikkgpcmkonaaGreatDoorEn11
set_option maxRecDepth 100000
set_option maxHeartbeats 12800000
namespace Go.Proofs.YtbhikkgpcmkonaaGreatDoor
open Go.RowKit Go.Maps Go.WideMaps
theorem aoj (x:dH):∀u∈sG x,u.oneCell'=true:=by
 intro u hu;simp only[sG,List.mem_cons,List.not_mem_nil,or_false] at hu;rcases hu with rfl | rfl | rfl | rfl | rfl | rfl <;> rfl
theorem aqT:eX Tryz.prog 59 57 6 72:=eX.mk' (z:=.agg #[.string ⟨#[]⟩,.slice none 0 0,.int .i64 0,.int .u32 0,.int .i64 0,.int .i64 0]) Tryz.underlying59 κ rfl ω
theorem ady {xs:List dH} {X:List Nat} {k j:Nat} {y:dH} (hx:X[k]? = some j) (hy:xs[j]? = some y):(X.take (k+1)).filterMap (fun k=>xs[k]?)=(X.take k).filterMap (fun k=>xs[k]?)++[y]:=by
 rw[List.take_add_one,hx,List.filterMap_append];simp[hy]
theorem aff {g5 lm lk c60:Nat} {lA A60:Option Addr} {xs:List dH} {X:List Nat} {wS:World} {Q0:Exit→Act→World→Prop} {x0 x1 x3 x4 x5 x6 x7 x8 x9 Iq Ip BJ Gp C9 Ac ER EP BH EO BG CZ CY CX Aa z_ zZ BF BD BA Bz Bv Bq Bo Bl Bj Bh Bg Bf EN CW CV CS CQ CP CO CJ CG CB Cm Cj Ci Ce Gn EM Ew Bd Cc Cb Eu Et Es Ep Eo En Em Ej EL EK EJ Ei Eh Ef Ee Ed Ec Eb Ea D_ Hu Ht Hr EI D9 B_ BX BU BR BP IU IQ Gi Gh Jh Hq Ho qC qB qA qy qx qw qp qo qm qj qh qg rG qO:Value}
 (hX:Hid (∀W,nR (fun j=>j = g5) wS W→cu W 1 encI A60 X.length X)) (hA:Hid (∀W,nR (fun j=>j = g5) wS W→cu W 6 sG lA lm xs)) (OE:Hid (∀k∈X,k<lm)) (J8:Hid (aF wS g5 59 #[.slice none 0 0])) (hXl:X.length≤1000000)
 (YR:∀c a d v w,Q0 (.panic c) (Act.put a d v) w→Q0 (.panic c) a w)
 (pV:∀(u17 u62 u63 u64 u65 u66 u67 u68 u69 u70 u71 u72 u73:Value) (wr:World),(∃(v:Value) (ys:List dH),Hid (aF wr g5 59 #[v])∧Hid (Own wr wS.heap.size 57 6 sG v ys)∧Hid (ys=X.filterMap fun k=>xs[k]?)∧Hid (nR (fun j=>j = g5) wS wr))→Q0 (.exit 2) ⟨(x0::x1::(.slice lA lm lk)::x3::x4::x5::x6::x7::x8::x9::Iq::Ip::BJ::Gp::C9::(.pointer (some ⟨g5,0,none⟩))::Ac::u17::EP::BH::EO::BG::CZ::CY::CX::Aa::z_::zZ::BF::BD::BA::Bz::Bv::Bq::Bo::Bl::Bj::Bh::Bg::Bf::EN::CW::CV::CS::CQ::CP::CO::CJ::CG::CB::Cm::Cj::Ci::Ce::Gn::EM::Ew::Bd::Cc::Cb::(.slice A60 X.length c60)::(.int .i64 (X.length:Int))::u62::u63::u64::u65::u66::u67::u68::u69::u70::u71::u72::u73::Ei::Eh::Ef::Ee::Ed::Ec::Eb::Ea::D_::Hu::Ht::Hr::EI::D9::B_::BX::BU::BR::BP::IU::IQ::Gi::Gh::Jh::Hq::Ho::qC::qB::qA::qy::qx::qw::qp::qo::qm::qj::qh::qg::rG::qO::[]).toArray,[]⟩ wr) :
 Code.wp Tryz.prog (wO Tryz.f13 1) Q0 ⟨(x0::x1::(.slice lA lm lk)::x3::x4::x5::x6::x7::x8::x9::Iq::Ip::BJ::Gp::C9::(.pointer (some ⟨g5,0,none⟩))::Ac::ER::EP::BH::EO::BG::CZ::CY::CX::Aa::z_::zZ::BF::BD::BA::Bz::Bv::Bq::Bo::Bl::Bj::Bh::Bg::Bf::EN::CW::CV::CS::CQ::CP::CO::CJ::CG::CB::Cm::Cj::Ci::Ce::Gn::EM::Ew::Bd::Cc::Cb::(.slice A60 X.length c60)::(.int .i64 (X.length:Int))::(.int .i64 0)::Eu::Et::Es::Ep::Eo::En::Em::Ej::EL::EK::EJ::Ei::Eh::Ef::Ee::Ed::Ec::Eb::Ea::D_::Hu::Ht::Hr::EI::D9::B_::BX::BU::BR::BP::IU::IQ::Gi::Gh::Jh::Hq::Ho::qC::qB::qA::qy::qx::qw::qp::qo::qm::qj::qh::qg::rG::qO::[]).toArray,[]⟩ wS:=by
 conv=>arg 2;whnf
 have hg5:=J8.o.lt;have QT:=ζ (hA.o wS (nR.refl _ _));go_loopw [62] (fun i wr=>∃(k:Nat) (v:Value) (ys:List dH),k≤X.length∧i =.int .i64 (k:Int)∧Hid (aF wr g5 59 #[v])∧Hid (Own wr wS.heap.size 57 6 sG v ys)∧Hid (ys=(X.take k).filterMap fun k=>xs[k]?)∧Hid (ys.length≤k)∧Hid (nR (fun j=>j = g5) wS wr)) (fun i _=>X.length-(intOf i).toNat)
 case atStart=>exact⟨0,_,[],ω,rfl,J8,Own.jA _ _ _ _ _,ζ rfl,ζ (Nat.le_refl _),ζ (nR.refl _ _)⟩
 case round=>
  obtain⟨k,v,ys,hk,rfl,hB,hO,hys,Ox,OI⟩:=hrel;by_cases yR:k<X.length
  ·obtain⟨b6,o6,j,rfl,sZ,hj,hc6⟩:=(hX.o wr OI.o).at_ yR;have hjm:=OE.o j (List.mem_of_getElem? hj);obtain⟨b2,o2,y0,rfl,ayM,hy0,-⟩:=QT.o.at_ hjm;obtain⟨b2',o2',y,e2,hb2,hy,hc2⟩:=(hA.o wr OI.o).at_ hjm;simp only[Option.some.injEq,Addr.mk.injEq,and_true] at e2;obtain⟨rfl,rfl⟩:=e2;have c6:wr.cell? ⟨b6,o6+k,none⟩=some (.int .i64 (j:Int)):=by simpa using hc6 0 _ rfl
   have c0:wr.cell? ⟨b2,o2+j * 6,none⟩=some (.string ⟨y.a.src.toArray⟩):=by simpa using hc2 0 _ rfl
   have c1:wr.cell? ⟨b2,o2+j * 6+1,none⟩=some (.slice y.A y.m y.k):=hc2 1 _ rfl;have c2:wr.cell? ⟨b2,o2+j * 6+2,none⟩=some (.int .i64 y.a.l.lv):=hc2 2 _ rfl;have c3:wr.cell? ⟨b2,o2+j * 6+3,none⟩=some (.int .u32 (y.a.l.c:Int)):=hc2 3 _ rfl;have c4:wr.cell? ⟨b2,o2+j * 6+4,none⟩=some (.int .i64 y.a.f):=hc2 4 _ rfl;have c5:wr.cell? ⟨b2,o2+j * 6+5,none⟩=some (.int .i64 y.a.t):=hc2 5 _ rfl;have q5:=hB.o.c0;have q5l:=hB.o.lt;have lK:(k:Int)<(X.length:Int):=ω;have Rw:(j:Int)<(lm:Int):=ω;have nP:=ζ (ady (xs:=xs) hj hy);have akO:=ζ OI.o.size;have Tv:∀m,v.ownBlock=some m→wS.heap.size≤m:=fun m hm=>(hO.o.afJ m hm).1
   have hr5:some g5≠v.ownBlock:=fun e=>by have:=Tv _ e.symm;omega
   have hr2:some b2≠v.ownBlock:=fun e=>by have:=Tv _ e.symm;omega
   obtain⟨sA,sm,sk,hvf⟩:∃sA sm sk,v =.slice sA sm sk:=by
    obtain⟨A',c',e,-⟩:=hO.o.arr aaL;exact⟨_,_,_,e⟩
   generalize hrow:v.ownBlock=row at *
   replace hrow:=ζ hrow;replace Tv:=ζ Tv;subst hvf;clear hc6 hc2 hy0 hj hy;go_wp2_with fail;have hOr:=hO;have Vk:=hB;have aS:=ζ (World.grownBy.refl wr row);refine iI (row) κ ?_;refine rK (up:=iJ) (.range 5) 3 ?_;iterate 5 refine fK ?_
   refine aB ?_;refine aK [5] κ σ (fun wN hN hS=>(ay.cons rfl (fun K' hK=> ?_) ay.nil));try replace hOr:=ζ (hOr.o.grows hN)
   try replace Vk:=ζ (Vk.o.grows hN)
   try replace kF:=ζ (kF.o.grows hN)
   try replace gQ:=ζ (gQ.o.grows hN)
   replace aS:=ζ (dD aS.o hN);clear hN;go_simp;refine hK.o _ _ ?_ (fun hS=> ?_)
   ·exact dD (by assumption) ((ah.refl _).alloc _)
   have gQ:=ζ (aF.new wN 57 #[.string ⟨y.a.src.toArray⟩,.slice y.A y.m y.k,.int .i64 y.a.l.lv,.int .u32 (y.a.l.c:Int),.int .i64 y.a.f,.int .i64 y.a.t]);have dw:ah wN (wN.alloc (.cells #[.string ⟨y.a.src.toArray⟩,.slice y.A y.m y.k,.int .i64 y.a.l.lv,.int .u32 (y.a.l.c:Int),.int .i64 y.a.f,.int .i64 y.a.t] 57)):=(ah.refl _).alloc _;replace hOr:=ζ (hOr.o.grows dw);replace Vk:=ζ (Vk.o.grows dw);replace aS:=ζ (dD aS.o dw);clear dw;clear hK hS;refine aK [6] κ σ (fun wN hN hS=>(ay.cons rfl (fun K' hK=> ?_) ay.nil));try replace hOr:=ζ (hOr.o.grows hN)
   try replace Vk:=ζ (Vk.o.grows hN)
   try replace kF:=ζ (kF.o.grows hN)
   try replace gQ:=ζ (gQ.o.grows hN)
   replace aS:=ζ (dD aS.o hN);clear hN;have zI:=aS.o.size;refine Own.grown (x:=y) aqT rfl (.tmp 66) (.tmp 71) rfl hOr.o rfl ⟨_,0,none⟩ rfl (aaL _) (lJ gQ.o) (aoj _) (by have:=akO.o;omega) (by unfold maxLen;have:=Ox.o;omega) (by have:=Ox.o;omega) (fun v4 w4 kF jf hv4=> ?_);rw[hrow.o] at jf;obtain⟨gb,cap,Nc⟩:=uZ kF σ;rw[List.length_append] at Nc;simp only[List.length_cons,List.length_nil,Nat.zero_add] at Nc;subst Nc;replace Vk:=ζ (Vk.o.aP jf hr5);replace aS:=ζ (aS.o.trans jf);replace kF:=ζ kF;clear zI hOr gQ;go_simp;refine hK.o _ _ ?_ (fun hS=> ?_)
   ·exact World.grownBy.trans (by assumption) jf
   clear jf hv4;clear hK hS;refine eF (i:=7) rfl κ κ (fun wN hN hS K' hK=> ?_);try replace hOr:=ζ (hOr.o.grows hN)
   try replace Vk:=ζ (Vk.o.grows hN)
   try replace kF:=ζ (kF.o.grows hN)
   try replace gQ:=ζ (gQ.o.grows hN)
   replace aS:=ζ (dD aS.o hN);clear hS;have qN:=Vk.o.c0;have qNl:=Vk.o.lt;have qNf:=Vk.o.frozen 0;go_simp;refine hK.o _ _ ?_;clear hK;have aG:=aj wN ⟨g5,0,none⟩ (.slice (some ⟨gb,0,none⟩) (ys.length+1) cap);have hBF:Hid (aF (wN.setCell ⟨g5,0,none⟩ (.slice (some ⟨gb,0,none⟩) (ys.length+1) cap)) g5 59 #[.slice (some ⟨gb,0,none⟩) (ys.length+1) cap]):=ζ ((Vk.o.aW 0 (.slice (some ⟨gb,0,none⟩) (ys.length+1) cap)).cast σ);have hOF:=ζ (kF.o.kept' aG (fun m hm=>by injection hm with hm;subst hm;exact aV kF.o Vk.o δ));have aus:=ζ ((OI.o.next aS.o (fun m hm=> .inr (Tv.o m hm))).next aG (fun m hm=>by injection hm with hm;subst hm;exact .inl rfl));have asE:Hid ((ys++[y]).length≤k+1):=ζ (by have:=Ox.o;simp;omega);clear aG Vk kF aS qN qNl qNf hN q5 q5l c0 c1 c2 c3 c4 c5 c6 hB hO;go_wp2;go_roundw
   case rel=>exact⟨k+1,_,ys++[y],ω,ν,hBF,hOF,ζ (by rw[nP.o,hys.o]),asE,aus⟩
   case measure=>exact ψ
  ·obtain rfl:k=X.length:=ω;have aO:Hid (ys=X.filterMap fun k=>xs[k]?):=ζ (by rw[hys.o,List.take_length]);clear hys Ox;go_wp2;first
    | exact⟨v,ys,hB,hO,aO,OI⟩
    | exact pV _ _ _ _ _ _ _ _ _ _ _ _ _ _ _ ⟨v,ys,hB,hO,aO,OI⟩
def pI (n:Nat):Code→Option Code
 | .region i ops d=>if i = n then some (.region i ops d) else none
 | .seq a b=>(pI n a).orElse fun _=>pI n b
 | .cond _ t e=>(pI n t).orElse fun _=>pI n e
 | .block _ b=>pI n b
 | .loop b=>pI n b
 | .rangeFunc _ _ _ b=>pI n b
 | _=>none
def ado (f:Func) (n:Nat):Code:=((f.body.bind (pI n)).getD .skip)
theorem DW {p:aY} {w0 MS:World} {ge g1 g2 g4 g5 gx gb om ok xr xk bm bk im ik:Nat} {rec:List UInt8} {num now:Int} {oA bA iA:Option Addr} {ML:Option KT} {Q0:Exit→Act→World→Prop} {x0 x3 x6 x8 Iq Ip BJ Gp C9 Hw Ac ER EP BH EO BG CZ CY CX Aa z_ zZ BF BD BA Bz Bv Bq Bo Bl Bj Bh Bg Bf EN CW CV CS CQ CP CO CJ CG CB Cm Cj Ci Ce Gn EM Ew Bd Cc Cb Gm Gl Gj Eu Et Es Ep Eo En Em Ej EL EK EJ Ei Eh Ef Ee Ed Ec Eb Ea D_ Hu Ht Hr EI D9 B_ BX BU BR BP:Value}
 (cMk:Hid (∀W',ah MS W'→Calls Tryz.prog 47 #[.agg #[.slice p.s.A p.s.m p.s.k,.slice p.r.A p.r.m p.r.k,.slice p.e.A p.e.m p.e.k,.slice p.a.A p.a.m p.a.k,.slice p.oA p.om p.ok,.slice p.iA p.im p.ik],.string ⟨rec.toArray⟩,.agg #[.int .i64 (xr:Int),.slice bA bm bk,.int .u64 (xk:Int),.slice iA im ik],.slice oA om ok,.agg #[.int .i64 num,.int .i64 now]] W' (U7 W' ML))) (Ir:Hid (w0.heap.size≤MS.heap.size)) (b1:Hid (aF MS g1 51 #[.pointer (some ⟨ge,0,none⟩)])) (b2:Hid (aF MS g2 50 p.cells.toArray)) (b4:Hid (aF MS g4 3 #[.int .i64 now])) (b5:Hid (aF MS g5 59 #[.slice oA om ok])) (bX:Hid (aF MS gx 125 #[.int .i64 (xr:Int),.slice bA bm bk,.int .u64 (xk:Int),.slice iA im ik])) (e0:MS.cell? ⟨ge,0,none⟩=some (.string ⟨rec.toArray⟩)) (el:ge<MS.heap.size) (m8:MS.cell? ⟨gb,8,none⟩=some (.int .i64 num)) (m8l:gb<MS.heap.size)
 (YR:∀c a d v w,Q0 (.panic c) (Act.put a d v) w→Q0 (.panic c) a w)
 (pV:∀(u13 u14 u71 u72 u73 u74 u75 u76 u77 u78 u79 u80 u81 u82 u83 u84 u85 u86 u87:Value) (wr:World),(∃(gL:Nat) (o:Option iC),u13=.pointer (some ⟨gL,0,none⟩)∧u14=.bool o.isSome∧Hid (aF wr gL 64 (akA o))∧Hid (o.map (·.I4)=ML)∧Hid (∀x,o = some x→dX wr w0.heap.size x)∧Hid (ah MS wr))→Q0 .normal ⟨(x0::(.pointer (some ⟨g1,0,none⟩))::(.pointer (some ⟨g2,0,none⟩))::x3::(.pointer (some ⟨g4,0,none⟩))::(.pointer (some ⟨g5,0,none⟩))::x6::(.pointer (some ⟨gx,0,none⟩))::x8::(.pointer (some ⟨gb,0,none⟩))::Iq::Ip::BJ::u13::u14::Hw::Ac::ER::EP::BH::EO::BG::CZ::CY::CX::Aa::z_::zZ::BF::BD::BA::Bz::Bv::Bq::Bo::Bl::Bj::Bh::Bg::Bf::EN::CW::CV::CS::CQ::CP::CO::CJ::CG::CB::Cm::Cj::Ci::Ce::Gn::EM::Ew::Bd::Cc::Cb::Gm::Gl::Gj::Eu::Et::Es::Ep::Eo::En::Em::Ej::u71::u72::u73::u74::u75::u76::u77::u78::u79::u80::u81::u82::u83::u84::u85::u86::u87::B_::BX::BU::BR::BP::[]).toArray,[]⟩ wr) :
 Code.wp Tryz.prog (ado Tryz.f43 11) Q0 ⟨(x0::(.pointer (some ⟨g1,0,none⟩))::(.pointer (some ⟨g2,0,none⟩))::x3::(.pointer (some ⟨g4,0,none⟩))::(.pointer (some ⟨g5,0,none⟩))::x6::(.pointer (some ⟨gx,0,none⟩))::x8::(.pointer (some ⟨gb,0,none⟩))::Iq::Ip::BJ::Gp::C9::Hw::Ac::ER::EP::BH::EO::BG::CZ::CY::CX::Aa::z_::zZ::BF::BD::BA::Bz::Bv::Bq::Bo::Bl::Bj::Bh::Bg::Bf::EN::CW::CV::CS::CQ::CP::CO::CJ::CG::CB::Cm::Cj::Ci::Ce::Gn::EM::Ew::Bd::Cc::Cb::Gm::Gl::Gj::Eu::Et::Es::Ep::Eo::En::Em::Ej::EL::EK::EJ::Ei::Eh::Ef::Ee::Ed::Ec::Eb::Ea::D_::Hu::Ht::Hr::EI::D9::B_::BX::BU::BR::BP::[]).toArray,[]⟩ MS:=by
 conv=>arg 2;whnf
 have p0:=b2.out.c0;have p1:=b2.out.c1;have p2:=b2.out.c2;have p3:=b2.out.c3;have p4:=b2.out.c4;have p5:=b2.out.c5;have pz:=b2.out.lt;have q1:=b1.out.c0;have Yt:=b1.out.lt;have q4:=b4.out.c0;have ZV:=b4.out.lt;have q5:=b5.out.c0;have q5l:=b5.out.lt;have y0:=bX.out.c0;have y1:=bX.out.c1;have y2:=bX.out.c2;have y3:=bX.out.c3;have yl:=bX.out.lt;have aS:=ζ (ah.refl MS);clear b1 b2 b4 b5 bX;refine aH κ ?_;refine rK (.range 13) 7 ?_;iterate 13 refine aC ?_
 refine aB ?_;refine aK [13,17] κ σ (fun wN hN hS=>(ay.cons rfl (fun K' hK=> ?_) (ay.cons rfl (fun K' hK=> ?_) ay.nil)))
 ·skip
  try replace aS:=ζ (aS.o.trans hN)
  try replace n0:=ζ (n0.out.grows hN)
  try replace n1:=ζ (n1.out.trans hN)
  try replace bL:=ζ (bL.out.grows hN)
  try replace vH:=ζ (fun z hz=>(vH.o z hz).grows hN)
  clear hN;go_simp;refine (cMk.out _ aS.o).mono ?_;rintro e w5 ⟨o,rfl,Tz,vH,iU⟩;have atT:=(aS.o).size;replace vH:=ζ (fun z hz=>(vH z hz).bH (show w0.heap.size≤wN.heap.size by have:=Ir.o;omega));replace Tz:=ζ Tz;replace aS:=ζ (aS.o.trans iU);try replace bL:=ζ (bL.out.grows iU)
  obtain⟨s1,s2,nn,tt,A,m,kk,A',m',k',hlc⟩:=Om o;rw[hlc];replace hlc:=ζ hlc;refine hK.o _ _ ?_ (fun hS=> ?_)
  ·exact aS.o
  clear iU;clear hK hS;refine rK [14,15,16] 3 ?_;iterate 3 refine aC ?_
  refine aB ?_;refine aK [17] κ σ (fun wN hN hS=>(ay.cons rfl (fun K' hK=> ?_) ay.nil));try replace aS:=ζ (aS.o.trans hN)
  try replace n0:=ζ (n0.out.grows hN)
  try replace n1:=ζ (n1.out.trans hN)
  try replace bL:=ζ (bL.out.grows hN)
  try replace vH:=ζ (fun z hz=>(vH.o z hz).grows hN)
  clear hN;go_simp;have hgA:=ζ aS.o.size;have bL:=ζ (aF.new wN 64 jO);replace aS:=ζ (aS.o.alloc (.cells jO 64));try replace vH:=ζ (fun z hz=>(vH.o z hz).grows ((ah.refl wN).alloc (.cells jO 64)))
  refine hK.o _ _ ?_ (fun hS=> ?_)
  ·exact aS.o
  generalize wN.heap.size=gL at *
  clear hK hS;refine aK [18] κ σ (fun wN hN hS=>(ay.cons rfl (fun K' hK=> ?_) ay.nil));try replace aS:=ζ (aS.o.trans hN)
  try replace n0:=ζ (n0.out.grows hN)
  try replace n1:=ζ (n1.out.trans hN)
  try replace bL:=ζ (bL.out.grows hN)
  try replace vH:=ζ (fun z hz=>(vH.o z hz).grows hN)
  clear hN;obtain⟨z0,z1,z2,z3,z4,z5,zf,zl⟩:=pF bL.out;obtain⟨n0,n1,n2⟩:=wZ bL.out aS.o hgA.o (.string s1) (.string s2) (.int .i64 nn) (.int .i64 tt) (.slice A m kk) (.slice A' m' k');replace vH:=ζ (fun z hz=>n2 _ _ (vH.o z hz));replace n0:=ζ n0;replace n1:=ζ n1;clear n2;go_simp;refine hK.o _ _ ?_ (fun hS=> ?_)
  ·exact n1.out
  clear z0 z1 z2 z3 z4 z5 zf zl bL aS;clear hK hS;refine rK [19] 0 ?_;iterate 1 refine aC ?_
  refine aB ?_;refine aJ κ (fun wN hN hS=> ?_);try replace aS:=ζ (aS.o.trans hN)
  try replace n0:=ζ (n0.out.grows hN)
  try replace n1:=ζ (n1.out.trans hN)
  try replace bL:=ζ (bL.out.grows hN)
  try replace vH:=ζ (fun z hz=>(vH.o z hz).grows hN)
  apply pV;exact⟨_,o,rfl,rfl,ζ (by rw[hlc.o];exact n0.out),Tz,vH,n1⟩
 ·skip
  try replace aS:=ζ (aS.o.trans hN)
  try replace n0:=ζ (n0.out.grows hN)
  try replace n1:=ζ (n1.out.trans hN)
  try replace bL:=ζ (bL.out.grows hN)
  try replace vH:=ζ (fun z hz=>(vH.o z hz).grows hN)
  clear hN;go_simp;have hgA:=ζ aS.o.size;have bL:=ζ (aF.new wN 64 jO);replace aS:=ζ (aS.o.alloc (.cells jO 64));try replace vH:=ζ (fun z hz=>(vH.o z hz).grows ((ah.refl wN).alloc (.cells jO 64)))
  refine hK.o _ _ ?_ (fun hS=> ?_)
  ·exact aS.o
  generalize wN.heap.size=gL at *
  clear hK hS;refine aK [13] κ σ (fun wN hN hS=>(ay.cons rfl (fun K' hK=> ?_) ay.nil));try replace aS:=ζ (aS.o.trans hN)
  try replace n0:=ζ (n0.out.grows hN)
  try replace n1:=ζ (n1.out.trans hN)
  try replace bL:=ζ (bL.out.grows hN)
  try replace vH:=ζ (fun z hz=>(vH.o z hz).grows hN)
  clear hN;go_simp;refine (cMk.out _ aS.o).mono ?_;rintro e w5 ⟨o,rfl,Tz,vH,iU⟩;have atT:=(aS.o).size;replace vH:=ζ (fun z hz=>(vH z hz).bH (show w0.heap.size≤wN.heap.size by have:=Ir.o;omega));replace Tz:=ζ Tz;replace aS:=ζ (aS.o.trans iU);try replace bL:=ζ (bL.out.grows iU)
  obtain⟨s1,s2,nn,tt,A,m,kk,A',m',k',hlc⟩:=Om o;rw[hlc];replace hlc:=ζ hlc;refine hK.o _ _ ?_ (fun hS=> ?_)
  ·exact aS.o
  clear iU;clear hK hS;refine rK [14,15,16] 2 ?_;iterate 3 refine aC ?_
  refine aB ?_;refine aK [18] κ σ (fun wN hN hS=>(ay.cons rfl (fun K' hK=> ?_) ay.nil));try replace aS:=ζ (aS.o.trans hN)
  try replace n0:=ζ (n0.out.grows hN)
  try replace n1:=ζ (n1.out.trans hN)
  try replace bL:=ζ (bL.out.grows hN)
  try replace vH:=ζ (fun z hz=>(vH.o z hz).grows hN)
  clear hN;obtain⟨z0,z1,z2,z3,z4,z5,zf,zl⟩:=pF bL.out;obtain⟨n0,n1,n2⟩:=wZ bL.out aS.o hgA.o (.string s1) (.string s2) (.int .i64 nn) (.int .i64 tt) (.slice A m kk) (.slice A' m' k');replace vH:=ζ (fun z hz=>n2 _ _ (vH.o z hz));replace n0:=ζ n0;replace n1:=ζ n1;clear n2;go_simp;refine hK.o _ _ ?_ (fun hS=> ?_)
  ·exact n1.out
  clear z0 z1 z2 z3 z4 z5 zf zl bL aS;clear hK hS;refine rK [19] 0 ?_;iterate 1 refine aC ?_
  refine aB ?_;refine aJ κ (fun wN hN hS=> ?_);try replace aS:=ζ (aS.o.trans hN)
  try replace n0:=ζ (n0.out.grows hN)
  try replace n1:=ζ (n1.out.trans hN)
  try replace bL:=ζ (bL.out.grows hN)
  try replace vH:=ζ (fun z hz=>(vH.o z hz).grows hN)
  apply pV;exact⟨_,o,rfl,rfl,ζ (by rw[hlc.o];exact n0.out),Tz,vH,n1⟩
theorem afs {fb:d_→Bool} {p:aY} {S:Nat→Prop} {w0:World} {base ge b ab B:Nat} {rec:List UInt8} {now:Int} {oA:Option Addr} {om ok:Nat} {ys:List dH} {g1 g2 g3 g4 g5 g6:Nat} {gs:List GX} {asked:List (List UInt8)} {v:Value} {ls:List iC} {x:dA} (W:World)
 (hSK:∀W',nR S w0 W'→af2 p ys W') (nN:jc fb p) (zU:lG S w0 W p.cells.toArray ge ab now oA om ok ys g1 g2 g3 g4 g5 g6 v ls) (hE:dG W base ge b rec now B gs) (Iz:sN S w0 gs) (hM:lZ W ab B asked) (hab:ab≠b) (ahX:w0.heap.size≤ab) (hSb:S b) (hlb:base≤w0.heap.size) (hll:ls.length≤B) (hB:B+1≤1000000) (h0:0≤now) (h1:now≤dP) (hom:om≤12)
 (hxi:Own W w0.heap.size 33 1 jC x.iv x.ids) (hxf:Own W w0.heap.size 88 2 eu x.bv x.eY) (zS:KU p.aU 12 x.g) :
 Calls Tryz.prog 43 #[Py x,.pointer (some ⟨g1,0,none⟩),.pointer (some ⟨g2,0,none⟩),.pointer (some ⟨g3,0,none⟩),.pointer (some ⟨g4,0,none⟩),.pointer (some ⟨g5,0,none⟩),.pointer (some ⟨g6,0,none⟩)] W
  (Zg (fun x n=>jW fb p.aU rec x (ys.map (·.a)) n now) p S w0 W base rec ge b ab B now oA om ok ys g1 g2 g3 g4 g5 g6 gs asked ls x.g):=by
 obtain⟨hr1,hr2,⟨hy1,hy2⟩,aoy,apd⟩:=zS;obtain⟨xr,xk,EH,xbA,xbm,xbk,jG,xiA,xim,xik⟩:=x;unfold dA.iv at hxi;unfold dA.bv at hxf;unfold dA.g at *
 simp only at *
 obtain⟨iA,ic,hie,-,-,hXi⟩:=hxi.arr KZ;simp only[Value.slice.injEq] at hie;obtain⟨rfl,rfl,rfl⟩:=hie;obtain⟨fA,fc,hfe,-,-,hXf⟩:=hxf.arr GN;simp only[Value.slice.injEq] at hfe;obtain⟨rfl,rfl,rfl⟩:=hfe;have cN:=ζ (fun W' (hW:ah W W')=>aby (g:=⟨xr,xk,EH,xbA,EH.length,xbk,jG,xiA,jG.length,xik⟩) W' (hSK W' (zU.off.eP hW)).lib (by simp only;omega) (hXf.keep hW) (by simp only;omega) (fun f hf=>(hy2 f hf).1));have aoN:om≤1000:=ω;have apC:EH.length≤1000:=ω;have apb:jG.length≤1000:=ω;have apn:∀f∈EH,f.v.length≤1000000:=fun f hf=>by have:=(hy2 f hf).2;omega
 unfold Py at *
 simp only at *
 have Ey:(cZ xr EH).length≤20000:=by
  have:=vX (r:=xr) ω EH (fun f hf=>(hy2 f hf).1);omega
 generalize Du:cZ xr EH=k at *
 have bX:=aF.new W 125 #[.int .i64 (xr:Int),.slice xbA EH.length xbk,.int .u64 (xk:Int),.slice xiA jG.length xik];have hg0:ah W (W.alloc (.cells #[.int .i64 (xr:Int),.slice xbA EH.length xbk,.int .u64 (xk:Int),.slice xiA jG.length xik] 125)):=(ah.refl W).alloc _;go_enter Tryz.func43,Tryz.ntmps43
 go_wp2_with fail;refine (cN.out _ hg0).mono ?_;rintro e w1 ⟨rfl,hb1⟩;have hg1:=hg0.trans hb1;replace bX:=bX.grows hb1;have Ny:=zU.grows hg1;have J6:=hE.grows hg1;have XG:=hM.grows hg1;have apG:=hXi.keep hg1;have apH:=hXf.keep hg1;have hT1:qM abT W w1:=qM.grows hg1;have ah2:=hxi.grows hg1;have ah3:=hxf.grows hg1;clear hb1 cN zU hE hM hXi hXf hxi hxf hg0 hg1;obtain⟨n,hnB,hM0⟩:=J6.map;have uf:=hM0.look (s:=k) ω;have e1:=J6.blk.cell 1;have el:=J6.blk.lt;have q1:=Ny.b1.cell 0;have ql:=Ny.b1.lt;simp only[List.getElem?_toArray,List.getElem?_cons_zero,List.getElem?_cons_succ] at e1 q1;cases hlk:eG (lY gs) k with
 | some gb=>
  obtain⟨y,xO,Tn,hyg⟩:=JD hlk;rw[hlk] at uf;unfold P9 at uf;simp only[Option.map_some] at uf;subst hyg;have hyn:=J6.num y xO;have Xo:(sD (dK gs) k).getD (Qb p.aU xr)=y.g:=by rw[←Tn,I_ J6.nd xO];rfl
  obtain⟨I9,Qz⟩:∃I9,I9=gs:=⟨_,rfl⟩;have JX:∀g',nZ (dK I9) k g'=nZ (dK gs) k g':=fun g'=>by rw[Qz]
  have OJ:dG w1 base ge b rec now (B+1) I9:=by rw[Qz];exact J6.more ω
  have TY:sN S w0 I9:=by rw[Qz];exact Iz
  rw[←Qz] at xO;have QC:=Ny;have hM7:=XG;have aeQ:=ah2;have aeR:=ah3;have hT7:=hT1;have bX7:=bX;clear hlk Qz J6 Iz Ny XG ah2 ah3 hT1 bX apG apH hM0;obtain⟨n7,hn7,hML⟩:=hM7;have q3:=QC.b3.cell 0;have q3l:=QC.b3.lt;simp only[List.getElem?_toArray,List.getElem?_cons_zero] at q3;have oW:lZ _ ab B asked:=⟨n7,hn7,hML⟩;have WJ:=oW.bg;go_wp2_with (at_mapUpdate;refine tN hML rfl _ _ _ rfl Tryz.underlying9 Tryz.underlying122 (by unfold maxLen;omega) k (by unfold maxLen;omega) (.bool true) (.bool true) rfl rfl rfl (plainElem_bool Tryz.underlying4 true) ?_;intro w8 hM8 Iy);have JZ:=QC.turn Iy (.inr ahX) (fun cur te fz hc=>(WJ _ _ _ hc).elim);have Ry:=OJ.other Iy (fun e=>by injection e with e;exact hab e.symm) (fun m hm cur te fz hc=>by injection hm with hm;subst hm;exact (WJ _ _ _ hc).elim);have J5:=aeQ.Ol Iy WJ;have XE:=aeR.Ol Iy WJ;have bX8:=bX7.aP Iy (fun e=>by injection e with e;subst e;exact WJ _ _ _ bX7);have hT8:=hT7.trans (qM.row Iy (fun m hm cur te fz hc=>by injection hm with hm;subst hm;exact (WJ _ _ _ hc).elim));have hA8:lZ w8 ab (B+1) (asked++[k]):=⟨n7+1,ω,by rw[List.map_append];exact hM8⟩;have wW:=Ry.at_ y xO;have y7:=wW.blk.c7;have yl:=wW.blk.lt;have q4:=JZ.b4.c0;have ZV:=JZ.b4.lt;have x3:=bX8.c3;have x3l:=bX8.lt;have cA:=ζ (fun wq (hq:ah w8 wq)=>Ri (k:=xik) wq (wW.iR.grows hq) wW.cge (fun W' uK=>((J5.grows hq).kept' uK (fun j hj=>by injection hj with hj;subst hj;exact aV (J5.grows hq) (wW.iR.blk.grows hq) δ)).zL KZ) apd aoy h0 h1 (Ry.iR y xO));have d1:y.gb≠y.cb:=wW.blk.KX wW.iR.blk δ;have d2:g4≠y.cb:=JZ.b4.KX wW.iR.blk δ;have d3:W.heap.size≠y.cb:=bX8.KX wW.iR.blk δ;have d1':some y.gb≠some y.cb:=fun e=>d1 (Option.some.inj e)
  have d2':some g4≠some y.cb:=fun e=>d2 (Option.some.inj e)
  have d3':some W.heap.size≠some y.cb:=fun e=>d3 (Option.some.inj e)
  have aS:=ζ (ah.refl w8);clear hn7 hML q3 q3l oW WJ hM8 Iy QC OJ aeQ aeR bX7 hT7;refine iI ((some y.cb)) κ ?_;refine rK (up:=iJ) (.range 7) 6 ?_;iterate 7 refine fK ?_
  refine aB ?_;refine aK [7] κ σ (fun wN hN hS=>(ay.cons rfl (fun K' hK=> ?_) ay.nil));try replace aS:=ζ (aS.o.trans hN)
  try replace GY:=ζ (GY.o.grows hN)
  try replace iq:=ζ (dD iq.o hN)
  clear hN;go_simp;refine (cA.out _ aS.o).mono ?_;rintro e w9 ⟨v9,rfl,GY,iq⟩;replace GY:=ζ GY;replace iq:=ζ ((aS.o.keeps (some y.cb)).trans iq);clear aS cA;refine hK.o _ _ ?_ (fun hS=> ?_)
  ·exact iq.o
  clear hK hS;refine rK (up:=iJ) [8,9,10,11,12] 0 ?_;iterate 5 refine fK ?_
  refine aB ?_;refine aJ κ (fun wN hN hS=> ?_);try replace aS:=ζ (aS.o.trans hN)
  try replace GY:=ζ (GY.o.grows hN)
  try replace iq:=ζ (dD iq.o hN)
  obtain⟨y1,je⟩:∃y1:GX,y1={y with g:={y.g with iR:=zJ y.g.iR now jG},v:=v9}:=⟨_,rfl⟩;have Xw:=JZ.turn iq.o (TY y xO).2 (fun cur te fz hc=> .inr (wW.iR.blk.qJ hc));have Nu:sO wN base y1:=by
   rw[je];exact⟨wW.blk.aP iq.o d1',GY.o,wW.gge,wW.cge,wW.kl⟩
  have hE9:=Ry.upd (y:=y1) xO iq.o (.inr rfl) Nu (by rw[je]) (by rw[je]) (by rw[je]) (show y1.g.number≤B+1 by rw[je];simp only;omega) (show y1.g.iR.now≤now by rw[je];simp only;rw[KJ];exact Int.le_refl _) (Nat.le_refl _);have QH:=TY.upd (k:=y.key) (y:=y1) xO (by rw[je]) (by rw[je]);have XC:=J5.kept' iq.o (fun j hj=>by injection hj with hj;subst hj;exact aV J5 wW.iR.blk δ);have XD:=XE.kept' iq.o (fun j hj=>by injection hj with hj;subst hj;exact aV XE wW.iR.blk δ);have bX9:=bX8.aP iq.o d3';have hA9:=hA8.kept iq.o (fun e=>by injection e with e;subst e;exact hA8.bg _ _ _ wW.iR.blk);have hT9:=hT8.trans (qM.row iq.o (fun m hm cur te fz hc=>by injection hm with hm;subst hm;rw[wW.iR.blk.qJ hc];decide));have hu1:dK (uQ I9 y.key y1)=nZ (dK gs) k y1.g:=by rw[←Tn];rw[Js Ry.nd xO (by rw[je]),Tn,JX]
  have Ve:y1∈uQ I9 y.key y1:=Yy xO;have hsome:(sD (dK I9) k).isSome:=by rw[←Tn,I_ Ry.nd xO];rfl
  have ad7:y1.key=k:=by rw[je];exact Tn
  have Qq:y1.gb=y.gb:=by rw[je]
  have akH:y1.cb=y.cb:=by rw[je]
  have ht0:y1.g = {y.g with iR:=zJ y.g.iR now jG}:=by rw[je]
  have hS1:=fun g'=>JX g'
  generalize uQ I9 y.key y1=XJ at *
  have aeo:ls.length≤B+1:=ω;have htu:RS y.g now jG={y1.g with number:=if y9 y.g.iR now jG then y.g.number+1 else y.g.number}:=by rw[ht0];rfl
  have JU:y1.g.number=y.g.number:=by rw[ht0]
  have aG:∀g',nZ (dK XJ) k g'=nZ (dK gs) k g':=fun g'=>by
   rw[hu1,←JX,Oc (by rw[←JX] at hu1;exact hsome),JX]
  generalize hDU:y9 y.g.iR now jG=DU at *
  have XH:=ζ hDU;clear hDU JZ Ry TY J5 XE bX8 hA8 hT8 wW GY iq y7 yl q4 ZV x3 x3l d1 d2 d3 d1' d2' d3' hS hN hS1 hsome;cases DU with
  | false=>
   go_wp2;go_end0;exact oK Du Xo Xw hE9 QH hA9 aeo hT9 (by rw[hu1,htu,←JU];rfl) (by rw[XH.o];rfl)
  | true=>
   have rY:aF wN y.gb 130 (IC y1.g y1.r y1.cb):=by rw[←Qq];exact Nu.blk
   have n8:wN.cell? ⟨y.gb,8,none⟩=some (.int .i64 (y.g.number:Int)):=by rw[←JU];exact rY.cell 8
   have n8l:=rY.lt;have n8f:=rY.frozen 8;have xU:=aj wN ⟨y.gb,8,none⟩ (.int .i64 ((y.g.number:Int)+1));obtain⟨gs3,AX,DF,Dv⟩:=hE9.count QH Ve (afA JU hyn);rw[Qq,JU] at AX;rw[ad7,aG,JU] at Dv;have jg:=Xw.turn xU (by have:=(QH y1 Ve).1;rw[Qq] at this;exact this) (fun cur te fz hc=> .inl (rY.qJ hc));have Dz:=XC.kept' xU (fun j hj=>by injection hj with hj;subst hj;exact aV XC rY δ);have DC:=XD.kept' xU (fun j hj=>by injection hj with hj;subst hj;exact aV XD rY δ);have Q9:=bX9.aP xU (fun e=>by injection e with e;exact bX9.KX rY δ e);have QO:=hA9.kept xU (fun e=>by injection e with e;subst e;exact hA9.bg _ _ _ rY);have QE:=hT9.trans (qM.row xU (fun m hm cur te fz hc=>by injection hm with hm;subst hm;rw[rY.qJ hc];decide));have JY:=rY.aW 8 (.int .i64 ((y.g.number:Int)+1));have n8':(wN.setCell ⟨y.gb,8,none⟩ (.int .i64 ((y.g.number:Int)+1))).cell? ⟨y.gb,8,none⟩=some (.int .i64 ((y.g.number:Int)+1)):=by
    have:=JY.cell 8;unfold IC at this;simpa using this
   have WM:=JY.lt;replace Dv:=ζ Dv;replace AX:=ζ AX;replace DF:=ζ DF;replace jg:=ζ jg;replace Dz:=ζ Dz;replace DC:=ζ DC;replace Q9:=ζ Q9;replace QO:=ζ QO;replace QE:=ζ QE;replace n8':=ζ n8';replace WM:=ζ WM;clear hE9 QH Xw XC XD bX9 hA9 hT9 rY JY xU Nu hu1 aG Ve ad7 Qq akH;have hwr:=NU hyn hB;clear je;go_wp2;generalize wN.setCell ⟨y.gb,8,none⟩ (.int .i64 ((y.g.number:Int)+1))=MS at *
   have m8:=n8'.out;have m8l:=WM.out;have aeI:=Dz.o.zL KZ;have aeJ:=DC.o.zL GN;have aeH:=jg.o.own.zL aaL;have hML:Hid (jW fb p.aU rec ⟨xr,EH,xk,jG⟩ (ys.map (·.a)) ((y.g.number:Int)+1) now=jW fb p.aU rec ⟨xr,EH,xk,jG⟩ (ys.map (·.a)) ((y.g.number:Int)+1) now):=ζ rfl;have cMk:=ζ (fun W' (hW:ah MS W')=>SQ (fb:=fb) (g:=⟨xr,xk,EH,xbA,EH.length,xbk,jG,xiA,jG.length,xik⟩) (rec:=rec) (n:=(y.g.number:Int)+1) (now:=now) (lk:=ok) W' (hSK W' (jg.o.off.eP hW)).utf (hSK W' (jg.o.off.eP hW)).aU nN (aeH.keep hW) (hSK W' (jg.o.off.eP hW)).at_ aoN (aeJ.keep hW) apC apn (aeI.keep hW) apb);unfold Py dA.g aY.val at cMk;simp only at cMk;generalize QI:jW fb p.aU rec ⟨xr,EH,xk,jG⟩ (ys.map (·.a)) ((y.g.number:Int)+1) now=ML at *
   replace QI:=ζ QI;have e0:=AX.o.blk.c0;have el:=AX.o.blk.lt;have Ir:=ζ jg.o.off.size;refine DW (p:=p) (w0:=w0) cMk Ir (ζ jg.o.b1) (ζ jg.o.b2) (ζ jg.o.b4) (ζ jg.o.b5) Q9 e0 el m8 m8l π ?_;intros
   rename_i w12 alE;obtain⟨gL,o,rfl,rfl,bL,Tz,vH,FM⟩:=alE;replace bL:=bL.out;replace Tz:=Tz.o;replace vH:=vH.o;replace FM:=FM.o;have r_:=ζ (jg.o.grows FM);have aeX:=ζ (AX.o.grows FM);have ae4:=ζ (QO.o.grows FM);have aeK:=ζ (QE.o.trans (qM.grows FM));clear e0 el m8 m8l jg AX QO QE Dz DC Q9 cMk;cases o with
   | none=>
    simp only[Option.isSome_none];go_wp2;go_end0;exact oK Du Xo r_.o aeX.o DF.o ae4.o aeo aeK.o (by rw[Dv.o,htu,ht0];rfl) (by rw[XH.o,if_pos rfl,QI.o,←Tz];simp)
   | some z=>
    simp only[Option.isSome_some];have q6:=r_.o.b6.c0;have q6l:=r_.o.b6.lt;have l0:=bL.c0;have l1:=bL.c1;have l2:=bL.c2;have l3:=bL.c3;have l4:=bL.c4;have l5:=bL.c5;have ll:=bL.lt;have mX:=ζ ((ah.refl w12).alloc (.cells (nC z).toArray 64));have hz:=ζ (vH z rfl);have XF:=ζ (r_.o.out.alloc (.cells (nC z).toArray 64));have Ya:=ζ (r_.o.b6.alloc (.cells (nC z).toArray 64));have Xh:=ζ (show w0.heap.size≤w12.heap.size from r_.o.off.size);unfold nC at mX XF Ya;clear vH bL;go_wp2_with (at_builtin;go_loud (refine gy (x:=z) aqR rfl (.tmp 89) (.tmp 91) rfl XF.o rfl ⟨w12.heap.size,0,none⟩ rfl rfl (lJ (by exact heap_alloc_new w12 _)) (ai2 z) (by have:=Xh.o;simp;omega) (by unfold maxLen;omega) ω (fun v7 w7 vT hgr FQ=> ?_);(obtain⟨g7,k7,hv7⟩:=uZ vT σ);(rw[List.length_append] at hv7);(simp only[List.length_cons,List.length_nil,Nat.zero_add] at hv7);(subst hv7);(have yV:=Ya.out.aP hgr (fun e=>aV XF.o Ya.out δ e.symm));(replace vT:=ζ vT);(replace hgr:=ζ hgr);(have c7:w7.cell? ⟨g6,0,none⟩=some v:=yV.cell 0);have l7:=yV.lt;have f7:=yV.frozen 0;clear FQ yV));go_end0;obtain⟨alr,hEF,hAF,hTF⟩:=UY (r_.o.grows mX.o) (aeX.o.grows mX.o) (ae4.o.grows mX.o) (aeK.o.trans (qM.grows mX.o)) vT.o hgr.o (hz.o.grows mX.o);exact oK Du Xo alr hEF DF.o hAF (by simp;omega) hTF (by rw[Dv.o,htu,ht0];rfl) (by rw[XH.o,if_pos rfl,QI.o,←Tz];simp)
 | none=>
  rw[hlk] at uf;unfold P9 at uf;simp only[Option.map_none] at uf;have Nj:=(hSK w1 Ny.off).aU.o;have oC:p.aU.routes=p.o.map (·.r):=rfl;have hxo:xr<p.om:=by rw[oC,List.length_map,Nj.1] at hr1;exact hr1
  obtain⟨ob,oo,rt,hoA,hob,hrt,hcell⟩:=Nj.at_ hxo;have c0:w1.cell? ⟨ob,oo+xr*6,none⟩=some (.string ⟨rt.r.r.toArray⟩):=hcell 0 _ rfl;have c1:w1.cell? ⟨ob,oo+xr*6+1,none⟩=some (.slice rt.bA rt.bm rt.bk):=hcell 1 _ rfl;have c2:w1.cell? ⟨ob,oo+xr*6+2,none⟩=some (.int .i64 rt.r.wait):=hcell 2 _ rfl;have c3:w1.cell? ⟨ob,oo+xr*6+3,none⟩=some (.int .i64 rt.r.every):=hcell 3 _ rfl;have c4:w1.cell? ⟨ob,oo+xr*6+4,none⟩=some (.int .i64 rt.r.again):=hcell 4 _ rfl;have c5:w1.cell? ⟨ob,oo+xr*6+5,none⟩=some (.slice rt.wA rt.wm rt.wk):=hcell 5 _ rfl;have hng:Qb p.aU xr=⟨xr,rt.r.r,rt.r.wait,rt.r.every,rt.r.again,Aj rt.r.wait rt.r.every rt.r.again,0⟩:=by
   unfold Qb;rw[oC,List.getElem?_map,hrt];rfl
  have ahp:(xr:Int)<(p.om:Int):=ω;have q2:=Ny.b2.c4;have q2l:=Ny.b2.lt;have x0:=bX.c0;have xl:=bX.lt;rw[hoA] at q2;have bR:=aF.new w1 46 #[.string ⟨rt.r.r.toArray⟩,.slice rt.bA rt.bm rt.bk,.int .i64 rt.r.wait,.int .i64 rt.r.every,.int .i64 rt.r.again,.slice rt.wA rt.wm rt.wk];have hg2:ah w1 (w1.alloc (.cells #[.string ⟨rt.r.r.toArray⟩,.slice rt.bA rt.bm rt.bk,.int .i64 rt.r.wait,.int .i64 rt.r.every,.int .i64 rt.r.again,.slice rt.wA rt.wm rt.wk] 46)):=(ah.refl w1).alloc _;clear hcell Nj;go_wp2_with fail;replace x0:=hg2.cell x0;replace xl:=Nat.lt_of_lt_of_le xl hg2.size;have r0:=bR.cell 0;have r1:=bR.cell 1;have r2:=bR.cell 2;have r3:=bR.cell 3;have r4:=bR.cell 4;have r5:=bR.cell 5;have rl:=bR.lt;simp only[List.getElem?_toArray,List.getElem?_cons_zero,List.getElem?_cons_succ] at r0 r1 r2 r3 r4 r5;clear c0 c1 c2 c3 c4 c5 q2 q2l bR;generalize w1.alloc (.cells #[.string ⟨rt.r.r.toArray⟩,.slice rt.bA rt.bm rt.bk,.int .i64 rt.r.wait,.int .i64 rt.r.every,.int .i64 rt.r.again,.slice rt.wA rt.wm rt.wk] 46)=w2 at *
  have aS:=ζ (ah.refl w2);refine aH κ ?_;refine rK (.range 9) 4 ?_;iterate 9 refine aC ?_
  refine aB ?_;refine aK [9] κ σ (fun wN hN hS=>(ay.cons rfl (fun K' hK=> ?_) ay.nil));replace aS:=ζ (aS.o.trans hN);try replace yU:=ζ (yU.o.grows hN)
  try replace bG:=ζ (bG.out.grows hN)
  clear hN;go_simp;refine (afB wN).mono ?_;rintro e w5 ⟨cb,rfl,apx,yU,iU⟩;have apw:w1.heap.size≤cb:=Nat.le_trans (hg2.trans aS.o).size apx;replace yU:=ζ yU;replace aS:=ζ (aS.o.trans iU);refine hK.o _ _ ?_ (fun hS=> ?_)
  ·exact aS.o
  clear iU;clear hK hS;refine rK [10] 2 ?_;iterate 1 refine aC ?_
  refine aB ?_;refine aK [11] κ σ (fun wN hN hS=>(ay.cons rfl (fun K' hK=> ?_) ay.nil));replace aS:=ζ (aS.o.trans hN);try replace yU:=ζ (yU.o.grows hN)
  try replace bG:=ζ (bG.out.grows hN)
  clear hN;go_simp;have atI:w1.heap.size≤wN.heap.size:=(hg2.trans aS.o).size;have bG:=ζ (aF.new wN 130 (IC ⟨xr,rt.r.r,rt.r.wait,rt.r.every,rt.r.again,Aj rt.r.wait rt.r.every rt.r.again,0⟩ ⟨rt.bA,rt.bm,rt.bk,rt.wA,rt.wm,rt.wk⟩ cb));replace yU:=ζ (yU.o.grows ((ah.refl wN).alloc (.cells (IC ⟨xr,rt.r.r,rt.r.wait,rt.r.every,rt.r.again,Aj rt.r.wait rt.r.every rt.r.again,0⟩ ⟨rt.bA,rt.bm,rt.bk,rt.wA,rt.wm,rt.wk⟩ cb) 130)));replace aS:=ζ (aS.o.alloc (.cells (IC ⟨xr,rt.r.r,rt.r.wait,rt.r.every,rt.r.again,Aj rt.r.wait rt.r.every rt.r.again,0⟩ ⟨rt.bA,rt.bm,rt.bk,rt.wA,rt.wm,rt.wk⟩ cb) 130));unfold IC at bG yU aS;simp only at bG yU aS;refine hK.o _ _ ?_ (fun hS=> ?_)
  ·exact aS.o
  generalize wN.heap.size=gb at *
  clear hK hS;refine rK [12] 0 ?_;iterate 1 refine aC ?_
  refine aB ?_;refine aJ κ (fun wN hN hS=> ?_);replace aS:=ζ (aS.o.trans hN);try replace yU:=ζ (yU.o.grows hN)
  try replace bG:=ζ (bG.out.grows hN)
  have Dw:=hg2.trans aS.o;have ahU:=Ny.grows Dw;have hE6:=J6.grows Dw;have hM6:=XG.grows Dw;have apW:=ah2.grows Dw;have apX:=ah3.grows Dw;have hT6:=hT1.trans (qM.grows Dw);have bX6:=bX.grows Dw;have zI:=Ny.off.size;obtain⟨n6,hn6,ap0⟩:=hE6.map;have nb:∀cur te fz,wN.heap[b]?≠some (.cells cur te fz):=ap0.bg;obtain⟨w7,aoC,OJ,hg7⟩:=hE6.put (y:=⟨k,⟨xr,rt.r.r,rt.r.wait,rt.r.every,rt.r.again,Aj rt.r.wait rt.r.every rt.r.again,0⟩,⟨rt.bA,rt.bm,rt.bk,rt.wA,rt.wm,rt.wk⟩,gb,cb,.slice none 0 0⟩) hB ⟨bG.out,⟨yU.o.blk,Own.jA _ _ _ _ _,yU.o.ok,yU.o.RZ,yU.o.len⟩,by simp only;omega,by simp only;omega,Ey⟩ hlk (fun z hz=>by have:=(J6.at_ z hz).blk.lt;simp only;omega) (fun z hz=>by have:=(J6.at_ z hz).iR.blk.lt;simp only;omega) (by simp only;omega) (by simp only;unfold Aj;exact h0);simp only at aoC;have q1':=ahU.b1.c0;have Yt:=ahU.b1.lt;have e1':=hE6.blk.c1;have e1l:=hE6.blk.lt;have aeQ:=apW.Ol hg7 nb;have aeR:=apX.Ol hg7 nb;have bX7:=bX6.aP hg7 (fun e=>by injection e with e;subst e;exact nb _ _ _ bX6);have hT7:=hT6.trans (qM.row hg7 (fun m hm cur te fz hc=>by injection hm with hm;subst hm;exact (nb _ _ _ hc).elim));have QC:=ahU.turn hg7 (.inl hSb) (fun cur te fz hc=>(nb _ _ _ hc).elim);have hM7:=hM6.kept hg7 (fun e=>by injection e with e;exact hab e);have TY:=Iz.put (y:=⟨k,⟨xr,rt.r.r,rt.r.wait,rt.r.every,rt.r.again,Aj rt.r.wait rt.r.every rt.r.again,0⟩,⟨rt.bA,rt.bm,rt.bk,rt.wA,rt.wm,rt.wk⟩,gb,cb,.slice none 0 0⟩) (by simp only;omega) (by simp only;omega);obtain⟨y,hy⟩:∃y:GX,y = ⟨k,⟨xr,rt.r.r,rt.r.wait,rt.r.every,rt.r.again,Aj rt.r.wait rt.r.every rt.r.again,0⟩,⟨rt.bA,rt.bm,rt.bk,rt.wA,rt.wm,rt.wk⟩,gb,cb,.slice none 0 0⟩:=⟨_,rfl⟩;rw[←hy] at OJ TY;have Tn:y.key=k:=by rw[hy]
  have hyg:y.gb=gb:=by rw[hy]
  have hyn:y.g.number≤B:=by rw[hy];exact Nat.zero_le _
  have hno:=aa9 hlk;have Xo:(sD (dK gs) k).getD (Qb p.aU xr)=y.g:=by rw[hno,hy];exact hng
  have JX:∀g',nZ (dK (gs++[y])) k g'=nZ (dK gs) k g':=fun g'=>by
   have:dK (gs++[y])=dK gs++[(k,y.g)]:=by unfold dK;rw[List.map_append,←Tn];rfl
   rw[this];exact ZA hno
  have xO:y∈gs++[y]:=by simp
  generalize gs++[y]=I9 at *
  subst hyg;clear hy hno hlk uf oC hxo hrt hoA hob hng ahp atI apx apw bG yU aS hg2 Dw ahU hE6 hM6 apW apX hT6 bX6 nb ap0 hn6 hg7 Ny J6 XG hT1 ah2 ah3 apG apH bX e1 q1 el ql x0 xl r0 r1 r2 r3 r4 r5 rl hM0 hnB hS;obtain⟨n7,hn7,hML⟩:=hM7;have q3:=QC.b3.cell 0;have q3l:=QC.b3.lt;simp only[List.getElem?_toArray,List.getElem?_cons_zero] at q3;have oW:lZ _ ab B asked:=⟨n7,hn7,hML⟩;have WJ:=oW.bg;go_wp2_with (at_mapUpdate;refine tN hML rfl _ _ _ rfl Tryz.underlying9 Tryz.underlying122 (by unfold maxLen;omega) k (by unfold maxLen;omega) (.bool true) (.bool true) rfl rfl rfl (plainElem_bool Tryz.underlying4 true) ?_;intro w8 hM8 Iy);have JZ:=QC.turn Iy (.inr ahX) (fun cur te fz hc=>(WJ _ _ _ hc).elim);have Ry:=OJ.other Iy (fun e=>by injection e with e;exact hab e.symm) (fun m hm cur te fz hc=>by injection hm with hm;subst hm;exact (WJ _ _ _ hc).elim);have J5:=aeQ.Ol Iy WJ;have XE:=aeR.Ol Iy WJ;have bX8:=bX7.aP Iy (fun e=>by injection e with e;subst e;exact WJ _ _ _ bX7);have hT8:=hT7.trans (qM.row Iy (fun m hm cur te fz hc=>by injection hm with hm;subst hm;exact (WJ _ _ _ hc).elim));have hA8:lZ w8 ab (B+1) (asked++[k]):=⟨n7+1,ω,by rw[List.map_append];exact hM8⟩;have wW:=Ry.at_ y xO;have y7:=wW.blk.c7;have yl:=wW.blk.lt;have q4:=JZ.b4.c0;have ZV:=JZ.b4.lt;have x3:=bX8.c3;have x3l:=bX8.lt;have cA:=ζ (fun wq (hq:ah w8 wq)=>Ri (k:=xik) wq (wW.iR.grows hq) wW.cge (fun W' uK=>((J5.grows hq).kept' uK (fun j hj=>by injection hj with hj;subst hj;exact aV (J5.grows hq) (wW.iR.blk.grows hq) δ)).zL KZ) apd aoy h0 h1 (Ry.iR y xO));have d1:y.gb≠y.cb:=wW.blk.KX wW.iR.blk δ;have d2:g4≠y.cb:=JZ.b4.KX wW.iR.blk δ;have d3:W.heap.size≠y.cb:=bX8.KX wW.iR.blk δ;have d1':some y.gb≠some y.cb:=fun e=>d1 (Option.some.inj e)
  have d2':some g4≠some y.cb:=fun e=>d2 (Option.some.inj e)
  have d3':some W.heap.size≠some y.cb:=fun e=>d3 (Option.some.inj e)
  have aS:=ζ (ah.refl w8);clear hn7 hML q3 q3l oW WJ hM8 Iy QC OJ aeQ aeR bX7 hT7;refine iI ((some y.cb)) κ ?_;refine rK (up:=iJ) (.range 7) 6 ?_;iterate 7 refine fK ?_
  refine aB ?_;refine aK [7] κ σ (fun wN hN hS=>(ay.cons rfl (fun K' hK=> ?_) ay.nil));try replace aS:=ζ (aS.o.trans hN)
  try replace GY:=ζ (GY.o.grows hN)
  try replace iq:=ζ (dD iq.o hN)
  clear hN;go_simp;refine (cA.out _ aS.o).mono ?_;rintro e w9 ⟨v9,rfl,GY,iq⟩;replace GY:=ζ GY;replace iq:=ζ ((aS.o.keeps (some y.cb)).trans iq);clear aS cA;refine hK.o _ _ ?_ (fun hS=> ?_)
  ·exact iq.o
  clear hK hS;refine rK (up:=iJ) [8,9,10,11,12] 0 ?_;iterate 5 refine fK ?_
  refine aB ?_;refine aJ κ (fun wN hN hS=> ?_);try replace aS:=ζ (aS.o.trans hN)
  try replace GY:=ζ (GY.o.grows hN)
  try replace iq:=ζ (dD iq.o hN)
  obtain⟨y1,je⟩:∃y1:GX,y1={y with g:={y.g with iR:=zJ y.g.iR now jG},v:=v9}:=⟨_,rfl⟩;have Xw:=JZ.turn iq.o (TY y xO).2 (fun cur te fz hc=> .inr (wW.iR.blk.qJ hc));have Nu:sO wN base y1:=by
   rw[je];exact⟨wW.blk.aP iq.o d1',GY.o,wW.gge,wW.cge,wW.kl⟩
  have hE9:=Ry.upd (y:=y1) xO iq.o (.inr rfl) Nu (by rw[je]) (by rw[je]) (by rw[je]) (show y1.g.number≤B+1 by rw[je];simp only;omega) (show y1.g.iR.now≤now by rw[je];simp only;rw[KJ];exact Int.le_refl _) (Nat.le_refl _);have QH:=TY.upd (k:=y.key) (y:=y1) xO (by rw[je]) (by rw[je]);have XC:=J5.kept' iq.o (fun j hj=>by injection hj with hj;subst hj;exact aV J5 wW.iR.blk δ);have XD:=XE.kept' iq.o (fun j hj=>by injection hj with hj;subst hj;exact aV XE wW.iR.blk δ);have bX9:=bX8.aP iq.o d3';have hA9:=hA8.kept iq.o (fun e=>by injection e with e;subst e;exact hA8.bg _ _ _ wW.iR.blk);have hT9:=hT8.trans (qM.row iq.o (fun m hm cur te fz hc=>by injection hm with hm;subst hm;rw[wW.iR.blk.qJ hc];decide));have hu1:dK (uQ I9 y.key y1)=nZ (dK gs) k y1.g:=by rw[←Tn];rw[Js Ry.nd xO (by rw[je]),Tn,JX]
  have Ve:y1∈uQ I9 y.key y1:=Yy xO;have hsome:(sD (dK I9) k).isSome:=by rw[←Tn,I_ Ry.nd xO];rfl
  have ad7:y1.key=k:=by rw[je];exact Tn
  have Qq:y1.gb=y.gb:=by rw[je]
  have akH:y1.cb=y.cb:=by rw[je]
  have ht0:y1.g = {y.g with iR:=zJ y.g.iR now jG}:=by rw[je]
  have hS1:=fun g'=>JX g'
  generalize uQ I9 y.key y1=XJ at *
  have aeo:ls.length≤B+1:=ω;have htu:RS y.g now jG={y1.g with number:=if y9 y.g.iR now jG then y.g.number+1 else y.g.number}:=by rw[ht0];rfl
  have JU:y1.g.number=y.g.number:=by rw[ht0]
  have aG:∀g',nZ (dK XJ) k g'=nZ (dK gs) k g':=fun g'=>by
   rw[hu1,←JX,Oc (by rw[←JX] at hu1;exact hsome),JX]
  generalize hDU:y9 y.g.iR now jG=DU at *
  have XH:=ζ hDU;clear hDU JZ Ry TY J5 XE bX8 hA8 hT8 wW GY iq y7 yl q4 ZV x3 x3l d1 d2 d3 d1' d2' d3' hS hN hS1 hsome;cases DU with
  | false=>
   go_wp2;go_end0;exact oK Du Xo Xw hE9 QH hA9 aeo hT9 (by rw[hu1,htu,←JU];rfl) (by rw[XH.o];rfl)
  | true=>
   have rY:aF wN y.gb 130 (IC y1.g y1.r y1.cb):=by rw[←Qq];exact Nu.blk
   have n8:wN.cell? ⟨y.gb,8,none⟩=some (.int .i64 (y.g.number:Int)):=by rw[←JU];exact rY.cell 8
   have n8l:=rY.lt;have n8f:=rY.frozen 8;have xU:=aj wN ⟨y.gb,8,none⟩ (.int .i64 ((y.g.number:Int)+1));obtain⟨gs3,AX,DF,Dv⟩:=hE9.count QH Ve (afA JU hyn);rw[Qq,JU] at AX;rw[ad7,aG,JU] at Dv;have jg:=Xw.turn xU (by have:=(QH y1 Ve).1;rw[Qq] at this;exact this) (fun cur te fz hc=> .inl (rY.qJ hc));have Dz:=XC.kept' xU (fun j hj=>by injection hj with hj;subst hj;exact aV XC rY δ);have DC:=XD.kept' xU (fun j hj=>by injection hj with hj;subst hj;exact aV XD rY δ);have Q9:=bX9.aP xU (fun e=>by injection e with e;exact bX9.KX rY δ e);have QO:=hA9.kept xU (fun e=>by injection e with e;subst e;exact hA9.bg _ _ _ rY);have QE:=hT9.trans (qM.row xU (fun m hm cur te fz hc=>by injection hm with hm;subst hm;rw[rY.qJ hc];decide));have JY:=rY.aW 8 (.int .i64 ((y.g.number:Int)+1));have n8':(wN.setCell ⟨y.gb,8,none⟩ (.int .i64 ((y.g.number:Int)+1))).cell? ⟨y.gb,8,none⟩=some (.int .i64 ((y.g.number:Int)+1)):=by
    have:=JY.cell 8;unfold IC at this;simpa using this
   have WM:=JY.lt;replace Dv:=ζ Dv;replace AX:=ζ AX;replace DF:=ζ DF;replace jg:=ζ jg;replace Dz:=ζ Dz;replace DC:=ζ DC;replace Q9:=ζ Q9;replace QO:=ζ QO;replace QE:=ζ QE;replace n8':=ζ n8';replace WM:=ζ WM;clear hE9 QH Xw XC XD bX9 hA9 hT9 rY JY xU Nu hu1 aG Ve ad7 Qq akH;have hwr:=NU hyn hB;clear je;go_wp2;generalize wN.setCell ⟨y.gb,8,none⟩ (.int .i64 ((y.g.number:Int)+1))=MS at *
   have m8:=n8'.out;have m8l:=WM.out;have aeI:=Dz.o.zL KZ;have aeJ:=DC.o.zL GN;have aeH:=jg.o.own.zL aaL;have hML:Hid (jW fb p.aU rec ⟨xr,EH,xk,jG⟩ (ys.map (·.a)) ((y.g.number:Int)+1) now=jW fb p.aU rec ⟨xr,EH,xk,jG⟩ (ys.map (·.a)) ((y.g.number:Int)+1) now):=ζ rfl;have cMk:=ζ (fun W' (hW:ah MS W')=>SQ (fb:=fb) (g:=⟨xr,xk,EH,xbA,EH.length,xbk,jG,xiA,jG.length,xik⟩) (rec:=rec) (n:=(y.g.number:Int)+1) (now:=now) (lk:=ok) W' (hSK W' (jg.o.off.eP hW)).utf (hSK W' (jg.o.off.eP hW)).aU nN (aeH.keep hW) (hSK W' (jg.o.off.eP hW)).at_ aoN (aeJ.keep hW) apC apn (aeI.keep hW) apb);unfold Py dA.g aY.val at cMk;simp only at cMk;generalize QI:jW fb p.aU rec ⟨xr,EH,xk,jG⟩ (ys.map (·.a)) ((y.g.number:Int)+1) now=ML at *
   replace QI:=ζ QI;have e0:=AX.o.blk.c0;have el:=AX.o.blk.lt;have Ir:=ζ jg.o.off.size;refine DW (p:=p) (w0:=w0) cMk Ir (ζ jg.o.b1) (ζ jg.o.b2) (ζ jg.o.b4) (ζ jg.o.b5) Q9 e0 el m8 m8l π ?_;intros
   rename_i w12 alE;obtain⟨gL,o,rfl,rfl,bL,Tz,vH,FM⟩:=alE;replace bL:=bL.out;replace Tz:=Tz.o;replace vH:=vH.o;replace FM:=FM.o;have r_:=ζ (jg.o.grows FM);have aeX:=ζ (AX.o.grows FM);have ae4:=ζ (QO.o.grows FM);have aeK:=ζ (QE.o.trans (qM.grows FM));clear e0 el m8 m8l jg AX QO QE Dz DC Q9 cMk;cases o with
   | none=>
    simp only[Option.isSome_none];go_wp2;go_end0;exact oK Du Xo r_.o aeX.o DF.o ae4.o aeo aeK.o (by rw[Dv.o,htu,ht0];rfl) (by rw[XH.o,if_pos rfl,QI.o,←Tz];simp)
   | some z=>
    simp only[Option.isSome_some];have q6:=r_.o.b6.c0;have q6l:=r_.o.b6.lt;have l0:=bL.c0;have l1:=bL.c1;have l2:=bL.c2;have l3:=bL.c3;have l4:=bL.c4;have l5:=bL.c5;have ll:=bL.lt;have mX:=ζ ((ah.refl w12).alloc (.cells (nC z).toArray 64));have hz:=ζ (vH z rfl);have XF:=ζ (r_.o.out.alloc (.cells (nC z).toArray 64));have Ya:=ζ (r_.o.b6.alloc (.cells (nC z).toArray 64));have Xh:=ζ (show w0.heap.size≤w12.heap.size from r_.o.off.size);unfold nC at mX XF Ya;clear vH bL;go_wp2_with (at_builtin;go_loud (refine gy (x:=z) aqR rfl (.tmp 89) (.tmp 91) rfl XF.o rfl ⟨w12.heap.size,0,none⟩ rfl rfl (lJ (by exact heap_alloc_new w12 _)) (ai2 z) (by have:=Xh.o;simp;omega) (by unfold maxLen;omega) ω (fun v7 w7 vT hgr FQ=> ?_);(obtain⟨g7,k7,hv7⟩:=uZ vT σ);(rw[List.length_append] at hv7);(simp only[List.length_cons,List.length_nil,Nat.zero_add] at hv7);(subst hv7);(have yV:=Ya.out.aP hgr (fun e=>aV XF.o Ya.out δ e.symm));(replace vT:=ζ vT);(replace hgr:=ζ hgr);(have c7:w7.cell? ⟨g6,0,none⟩=some v:=yV.cell 0);have l7:=yV.lt;have f7:=yV.frozen 0;clear FQ yV));go_end0;obtain⟨alr,hEF,hAF,hTF⟩:=UY (r_.o.grows mX.o) (aeX.o.grows mX.o) (ae4.o.grows mX.o) (aeK.o.trans (qM.grows mX.o)) vT.o hgr.o (hz.o.grows mX.o);exact oK Du Xo alr hEF DF.o hAF (by simp;omega) hTF (by rw[Dv.o,htu,ht0];rfl) (by rw[XH.o,if_pos rfl,QI.o,←Tz];simp)
theorem KU.more {p:jo} {n m:Nat} {g:kS} (h:KU p n g) (hn:n≤m):KU p m g:=⟨h.r,h.r12,h.eY,h.RZ,Nat.le_trans h.ids hn⟩
def zo (mk:kS→Int→Option KT) (p:jo) (now:Int) (gs:List (List UInt8×vV)) (G:List dA) (k:Nat):aiV:=((G.take k).map dA.g).foldl (KI mk p now) ⟨gs,[],[]⟩
theorem Ye {mk:kS→Int→Option KT} {p:jo} {now:Int} {gs:List (List UInt8×vV)} {G:List dA} {k:Nat} {x:dA} (hx:G[k]? = some x):zo mk p now gs G (k+1)=KI mk p now (zo mk p now gs G k) x.g:=by
 unfold zo;rw[List.take_add_one,hx,List.map_append,List.foldl_append];rfl
theorem afe {fb:d_→Bool} {p:aY} {S:Nat→Prop} {w0:World} {base ge b ab B om ok g1 g2 g3 g4 g5 g6 c83 b1:Nat} {rec:List UInt8} {now:Int} {oA A83:Option Addr} {ys:List dH} {gs:List GX} {G:List dA} {wS:World} {Q0:Exit→Act→World→Prop} {x0 x1 x2 x3 x4 x5 x6 x7 x8 x9 Iq Ip BJ Gp C9 Hw Ac ER EP BH BG CZ CY CX Aa z_ zZ BF BD BA Bz Bv Bq Bo Bl Bj Bh Bg Bf EN CW CV CS CQ CP CO CJ CG CB Cm Cj Ci Ce Gn EM Ew Bd Cc Cb Gm Gl Gj Eu Et Es Ep Eo En Em Ej EL EK EJ Ei Eh Ef Ee Ed Ec Eb Ea D_ EI D9 B_ BX BU BR BP IU IQ Gi Gh Jh Hq Ho qC qB qA qy qx qw qp qo qm qj qh qg rG qO:Value}
 (hSK:Hid (∀W,nR S w0 W→af2 p ys W)) (nN:Hid (jc fb p)) (zU:Hid (lG S w0 wS p.cells.toArray ge ab now oA om ok ys g1 g2 g3 g4 g5 g6 (.slice none 0 0) [])) (hE:Hid (dG wS base ge b rec now B gs)) (Iz:Hid (sN S w0 gs)) (hM:Hid (lZ wS ab B [])) (hab:ab≠b) (ahX:w0.heap.size≤ab) (hSb:Hid (S b)) (hlb:base≤w0.heap.size) (hB:Hid (B+G.length≤1000000)) (h0:0≤now) (h1:Hid (now≤dP)) (hom:om≤12) (hG:Hid (IJ wS b1 (.slice A83 G.length c83) G)) (hGs:Hid (Rn wS b1 G)) (hb1:w0.heap.size≤b1) (zS:Hid (∀x∈G,KU p.aU 12 x.g))
 (YR:∀c a d v w,Q0 (.panic c) (Act.put a d v) w→Q0 (.panic c) a w)
 (pV:∀(u22 u85 u86 u87 u88 u89 u90 u91 u92:Value) (wr:World),(∃(gs':List GX) (v':Value) (M_:List iC),Hid (lG S w0 wr p.cells.toArray ge ab now oA om ok ys g1 g2 g3 g4 g5 g6 v' M_)∧Hid (dG wr base ge b rec now (B+G.length) gs')∧Hid (sN S w0 gs')∧Hid (lZ wr ab (B+G.length) (zo (fun x n=>jW fb p.aU rec x (ys.map (·.a)) n now) p.aU now (dK gs) G G.length).asked)∧Hid (M_.length≤B+G.length)∧Hid (dK gs'=(zo (fun x n=>jW fb p.aU rec x (ys.map (·.a)) n now) p.aU now (dK gs) G G.length).gs)∧Hid (M_.map (·.I4)=(zo (fun x n=>jW fb p.aU rec x (ys.map (·.a)) n now) p.aU now (dK gs) G G.length).out))→Q0 (.exit 4) ⟨(x0::x1::x2::x3::x4::x5::x6::x7::x8::x9::Iq::Ip::BJ::Gp::C9::Hw::Ac::ER::EP::BH::(.func (.func 43) #[] #[.pointer (some ⟨g1,0,none⟩),.pointer (some ⟨g2,0,none⟩),.pointer (some ⟨g3,0,none⟩),.pointer (some ⟨g4,0,none⟩),.pointer (some ⟨g5,0,none⟩),.pointer (some ⟨g6,0,none⟩)])::BG::u22::CY::CX::Aa::z_::zZ::BF::BD::BA::Bz::Bv::Bq::Bo::Bl::Bj::Bh::Bg::Bf::EN::CW::CV::CS::CQ::CP::CO::CJ::CG::CB::Cm::Cj::Ci::Ce::Gn::EM::Ew::Bd::Cc::Cb::Gm::Gl::Gj::Eu::Et::Es::Ep::Eo::En::Em::Ej::EL::EK::EJ::Ei::Eh::Ef::Ee::Ed::Ec::Eb::Ea::D_::(.slice A83 G.length c83)::(.int .i64 (G.length:Int))::u85::u86::u87::u88::u89::u90::u91::u92::IU::IQ::Gi::Gh::Jh::Hq::Ho::qC::qB::qA::qy::qx::qw::qp::qo::qm::qj::qh::qg::rG::qO::[]).toArray,[]⟩ wr) :
 Code.wp Tryz.prog (wO Tryz.f13 2) Q0 ⟨(x0::x1::x2::x3::x4::x5::x6::x7::x8::x9::Iq::Ip::BJ::Gp::C9::Hw::Ac::ER::EP::BH::(.func (.func 43) #[] #[.pointer (some ⟨g1,0,none⟩),.pointer (some ⟨g2,0,none⟩),.pointer (some ⟨g3,0,none⟩),.pointer (some ⟨g4,0,none⟩),.pointer (some ⟨g5,0,none⟩),.pointer (some ⟨g6,0,none⟩)])::BG::CZ::CY::CX::Aa::z_::zZ::BF::BD::BA::Bz::Bv::Bq::Bo::Bl::Bj::Bh::Bg::Bf::EN::CW::CV::CS::CQ::CP::CO::CJ::CG::CB::Cm::Cj::Ci::Ce::Gn::EM::Ew::Bd::Cc::Cb::Gm::Gl::Gj::Eu::Et::Es::Ep::Eo::En::Em::Ej::EL::EK::EJ::Ei::Eh::Ef::Ee::Ed::Ec::Eb::Ea::D_::(.slice A83 G.length c83)::(.int .i64 (G.length:Int))::(.int .i64 0)::EI::D9::B_::BX::BU::BR::BP::IU::IQ::Gi::Gh::Jh::Hq::Ho::qC::qB::qA::qy::qx::qw::qp::qo::qm::qj::qh::qg::rG::qO::[]).toArray,[]⟩ wS:=by
 conv=>arg 2;whnf
 have hqz:=YR;clear hqz;have hGb:G.length≤1000000:=by have:=hB.o;omega
 have iQ:=ζ (fun k x (hx:G[k]? = some x)=>Ye (mk:=fun x n=>jW fb p.aU rec x (ys.map (·.a)) n now) (p:=p.aU) (now:=now) (gs:=dK gs) hx);have JV:zo (fun x n=>jW fb p.aU rec x (ys.map (·.a)) n now) p.aU now (dK gs) G 0=⟨dK gs,[],[]⟩:=rfl;have cK:=ζ (fun W gs' asked v ls k x Vf hE' hN' hM' hll fV hxi hxf hg=>afs (fb:=fb) (p:=p) (S:=S) (w0:=w0) (base:=base) (ge:=ge) (b:=b) (ab:=ab) (B:=B+k) (rec:=rec) (now:=now) (oA:=oA) (om:=om) (ok:=ok) (ys:=ys) (g1:=g1) (g2:=g2) (g3:=g3) (g4:=g4) (g5:=g5) (g6:=g6) (gs:=gs') (asked:=asked) (v:=v) (ls:=ls) (x:=x) W hSK.o nN.o Vf hE' hN' hM' hab ahX hSb.o hlb hll fV h0 h1.o hom hxi hxf hg);generalize hT:zo (fun x n=>jW fb p.aU rec x (ys.map (·.a)) n now) p.aU now (dK gs) G=T at *
 replace JV:=ζ JV;clear hT;go_loopw [85] (fun i wr=>∃(k:Nat) (gs':List GX) (v':Value) (M_:List iC),k≤G.length∧i =.int .i64 (k:Int)∧Hid (lG S w0 wr p.cells.toArray ge ab now oA om ok ys g1 g2 g3 g4 g5 g6 v' M_)∧Hid (dG wr base ge b rec now (B+k) gs')∧Hid (sN S w0 gs')∧Hid (lZ wr ab (B+k) (T k).asked)∧Hid (M_.length≤B+k)∧Hid (dK gs'=(T k).gs)∧Hid (M_.map (·.I4)=(T k).out)∧Hid (qM abT wS wr)) (fun i _=>G.length-(intOf i).toNat)
 case atStart=>exact⟨0,gs,_,[],ω,rfl,zU,hE,Iz,by rw[JV.o];exact hM,ζ (Nat.zero_le _),ζ (by rw[JV.o]),ζ (by rw[JV.o];rfl),ζ (qM.refl _ _)⟩
 case round=>
  obtain⟨k,gs',v',M_,hk,rfl,ahT,YU,hNr,hMr,hlr,hgr,hor,hTr⟩:=hrel;by_cases yR:k<G.length
  ·obtain⟨A9,c9,hv9,-,-,hX9⟩:=(qM.own hG.o hTr.o δ).arr YL;simp only[Value.slice.injEq] at hv9;obtain⟨rfl,-,rfl⟩:=hv9;obtain⟨bb,off,x,rfl,GK,hx,hcell⟩:=hX9.at_ yR;have c0:wr.cell? ⟨bb,off+k*4,none⟩=some (.int .i64 (x.r:Int)):=by simpa using hcell 0 _ rfl
   have c1:wr.cell? ⟨bb,off+k*4+1,none⟩=some (.slice x.bA x.bm x.bk):=hcell 1 _ rfl;have c2:wr.cell? ⟨bb,off+k*4+2,none⟩=some (.int .u64 (x.key:Int)):=hcell 2 _ rfl;have c3:wr.cell? ⟨bb,off+k*4+3,none⟩=some (.slice x.iA x.im x.ik):=hcell 3 _ rfl;have yN:=List.mem_of_getElem? hx;obtain⟨hxi,hxf⟩:=hGs.o x yN;have mX:ah wr (wr.alloc (.cells #[.int .i64 (x.r:Int),.slice x.bA x.bm x.bk,.int .u64 (x.key:Int),.slice x.iA x.im x.ik] 125)):=(ah.refl wr).alloc _;have ahp:=((qM.own hxi hTr.o δ).bH hb1).grows mX;have aou:=((qM.own hxf hTr.o δ).bH hb1).grows mX;have cX:=ζ (cK.out _ gs' (T k).asked v' M_ k x (ahT.o.grows mX) (YU.o.grows mX) hNr.o (hMr.o.grows mX) hlr.o (by have:=hB.o;omega) ahp aou (zS.o x yN));have hTa:=ζ (hTr.o.trans (qM.grows mX));have hTk:Hid (T (k+1)=KI (fun x n=>jW fb p.aU rec x (ys.map (·.a)) n now) p.aU now (T k) x.g):=ζ (iQ.o k x hx);have lK:(k:Int)<(G.length:Int):=ω;unfold Py at cX;clear hcell hx hxi hxf ahp aou hX9 ahT YU hNr hMr hlr hTr;go_wp2_with fail;refine cX.out.mono ?_;rintro e w5 ⟨rfl,gs5,v5,ls5,als,Ub,alG,hM5,ak4,hT5,Qy,Qv⟩;have alA:T (k+1)=KI (fun x n=>jW fb p.aU rec x (ys.map (·.a)) n now) p.aU now ⟨dK gs',(T k).asked,M_.map (·.I4)⟩ x.g:=by
    rw[hTk.o,hgr.o,hor.o]
   rw[←alA] at Qy Qv;have J4:(T k).asked++[cZ x.g.route x.g.eY]=(T (k+1)).asked:=by rw[alA];rfl
   rw[J4] at hM5;have hT6:=ζ (hTa.o.trans hT5);replace als:=ζ als;replace Ub:=ζ Ub;replace alG:=ζ alG;replace hM5:=ζ hM5;replace ak4:=ζ ak4;replace Qy:=ζ Qy;replace Qv:=ζ Qv;clear cX hTa hT5 hTk alA J4 c0 c1 c2 c3 mX;go_wp2;go_roundw
   case rel=>exact⟨k+1,gs5,v5,ls5,ω,ν,als,Ub,alG,hM5,ak4,Qy,Qv,hT6⟩
   case measure=>exact ψ
  ·obtain rfl:k=G.length:=ω;clear hTr cK iQ;go_wp2;first
    | exact⟨gs',v',M_,ahT,YU,hNr,hMr,hlr,hgr,hor⟩
    | exact pV _ _ _ _ _ _ _ _ _ _ _ _ _ _ _ _ _ _ ⟨gs',v',M_,ahT,YU,hNr,hMr,hlr,hgr,hor⟩
theorem JE (s:List UInt8):∀l:List (List UInt8),kW (l.map fun k=>(k,Lit.bool true)) s = if s∈l then some (.bool true) else none
 | []=>rfl
 | a ::l=>by
  rw[List.map_cons,rW,JE s l];by_cases h:s∈l
  ·simp[h]
  ·by_cases e:a = s
   ·simp[h,e]
   ·simp[h,e,Ne.symm e]
theorem lZ.look {W:World} {ab B:Nat} {asked:List (List UInt8)} (h:lZ W ab B asked) {s:List UInt8} (hs:s.length≤1000000) :
 (Instr.lookup 122 (.map (some ab)) (.string ⟨s.toArray⟩) false).run Tryz.prog W=.ok (.bool (decide (s∈asked))) W:=by
 obtain⟨n,-,h⟩:=h;refine h.Oo Tryz.underlying9 Tryz.underlying122 Tryz.underlying4 κ (by unfold maxLen;omega) ?_;rw[JE];by_cases hm:s∈asked <;> simp[hm]
theorem lZ.lt {W:World} {ab B:Nat} {asked:List (List UInt8)} (h:lZ W ab B asked):ab<W.heap.size:=by
 obtain⟨n,-,h⟩:=h;exact gK.lt h
theorem lZ.off {S:Nat→Prop} {W W':World} {ab B:Nat} {asked:List (List UInt8)} (h:lZ W ab B asked) (hO:nR S W W') (hn:¬S ab):lZ W' ab B asked:=by
 have hl:=h.lt;obtain⟨n,hb,es,clock,he,hr⟩:=h;exact⟨n,hb,es,clock,(hO.block ab hl hn).trans he,hr⟩
theorem acA {gs:List GX} (hn:(gs.map (·.key)).Nodup) {x y:GX} (hx:x∈gs) (hk:y.key=x.key) (hg:y.gb=x.gb) (hc:y.cb=x.cb):lY (uQ gs x.key y)=lY gs∧(uQ gs x.key y).map (·.gb)=gs.map (·.gb)∧(uQ gs x.key y).map (·.cb)=gs.map (·.cb):=
 ⟨rJ (f:=fun x=>(x.key,x.gb)) hx hn rfl (by rw[hk,hg]),rJ hx hn rfl hg,rJ hx hn rfl hc⟩
theorem afd {base ge b ab B r n g3 g4:Nat} {rec:List UInt8} {now:Int} {asked:List (List UInt8)} {gs:List GX} {D:DataW Unit} {wS:World} {Q0:Exit→Act→World→Prop} {x0 x1 x2 x3 x4 x5 x6 x7 x8 Iq Ip BJ Gp C9 Hw Ac ER BH EO BG CZ CY CX Aa z_ zZ BF BD BA Bz Bv Bq Bo Bl Bj Bh Bg Bf EN CW CV CS CQ CP CO CJ CG CB Cm Cj Ci Ce Gn EM Ew Bd Cc Cb Gm Gl Gj Eu Et Es Ep Eo En Em Ej EL EK EJ Ei Eh Ef Ee Ed Ec Eb Ea D_ Hu Ht Hr EI D9 B_ BX BU BR BP IU IQ Gi Gh Hq Ho qC qB qA qy qx qw qp qo qm qj qh qg rG qO:Value}
 (hb3:Hid (aF wS g3 122 #[.map (some ab)])) (hb4:Hid (aF wS g4 3 #[.int .i64 now])) (hM:Hid (lZ wS ab B asked)) (hE:Hid (dG wS base ge b rec now B gs)) (hrg0:wS.ranges Tryz.prog 9 uY b r n D (Maps.has D) (Maps.size D)) (hD:Hid (xP D (lY gs))) (h0:0≤now) (h1:Hid (now≤dP))
 (YR:∀c a d v w,Q0 (.panic c) (Act.put a d v) w→Q0 (.panic c) a w)
 (pV:∀(u23 u24 u98 u99 PY PX PW PV PU PS PN PL PK PG PE PD Vw:Value) (wr:World),(∃gs':List GX,Hid (dG wr base ge b rec now B gs')∧Hid (dK gs'=(dK gs).map (yX asked now))∧Hid (gs'.map (·.gb)=gs.map (·.gb))∧Hid (gs'.map (·.cb)=gs.map (·.cb))∧Hid (nR (fun j=>j = r∨∃x∈gs,j = x.cb) wS wr)∧Hid (qM [180] wS wr))→Q0 (.exit 6) ⟨(x0::x1::x2::x3::x4::x5::x6::x7::x8::(.pointer (some ⟨g4,0,none⟩))::Iq::Ip::BJ::Gp::C9::Hw::Ac::ER::(.pointer (some ⟨g3,0,none⟩))::BH::EO::BG::CZ::u23::u24::Aa::z_::zZ::BF::BD::BA::Bz::Bv::Bq::Bo::Bl::Bj::Bh::Bg::Bf::EN::CW::CV::CS::CQ::CP::CO::CJ::CG::CB::Cm::Cj::Ci::Ce::Gn::EM::Ew::Bd::Cc::Cb::Gm::Gl::Gj::Eu::Et::Es::Ep::Eo::En::Em::Ej::EL::EK::EJ::Ei::Eh::Ef::Ee::Ed::Ec::Eb::Ea::D_::Hu::Ht::Hr::EI::D9::B_::BX::BU::BR::BP::IU::IQ::Gi::Gh::(.pointer (some ⟨r,0,none⟩))::u98::u99::PY::PX::PW::PV::PU::PS::PN::PL::PK::PG::PE::PD::Vw::qO::[]).toArray,[]⟩ wr) :
 Code.wp Tryz.prog (wO Tryz.f13 3) Q0 ⟨(x0::x1::x2::x3::x4::x5::x6::x7::x8::(.pointer (some ⟨g4,0,none⟩))::Iq::Ip::BJ::Gp::C9::Hw::Ac::ER::(.pointer (some ⟨g3,0,none⟩))::BH::EO::BG::CZ::CY::CX::Aa::z_::zZ::BF::BD::BA::Bz::Bv::Bq::Bo::Bl::Bj::Bh::Bg::Bf::EN::CW::CV::CS::CQ::CP::CO::CJ::CG::CB::Cm::Cj::Ci::Ce::Gn::EM::Ew::Bd::Cc::Cb::Gm::Gl::Gj::Eu::Et::Es::Ep::Eo::En::Em::Ej::EL::EK::EJ::Ei::Eh::Ef::Ee::Ed::Ec::Eb::Ea::D_::Hu::Ht::Hr::EI::D9::B_::BX::BU::BR::BP::IU::IQ::Gi::Gh::(.pointer (some ⟨r,0,none⟩))::Hq::Ho::qC::qB::qA::qy::qx::qw::qp::qo::qm::qj::qh::qg::rG::qO::[]).toArray,[]⟩ wS:=by
 conv=>arg 2;whnf
 have hri:=lW hrg0;have Xv:∀x∈gs,∃cs,aF wS x.cb 180 cs:=fun x hx=>⟨_,(hE.o.at_ x hx).iR.blk⟩
 have hnS:∀{g:Nat} {te:TypeId} {cs:Array Value},aF wS g te cs→te≠180→¬(g = r∨∃x∈gs,g = x.cb):=fun hB ht h=>by
  rcases h with rfl | ⟨x,hx,rfl⟩
  ·exact hri _ _ _ hB
  ·obtain⟨cs,h2⟩:=Xv x hx;exact hB.KX h2 ht rfl
 have hn3:=hnS hb3.o δ;have hn4:=hnS hb4.o δ;have hnM:¬(ab=r∨∃x∈gs,ab=x.cb):=fun h=>by
  rcases h with rfl | ⟨x,hx,rfl⟩
  ·obtain⟨n2,-,es,clock,he,-⟩:=hM.o;obtain⟨es2,au0,since,seen,c0,_,_,_,_,hr,_⟩:=hrg0;rw[he] at hr;cases hr
  ·obtain⟨cs,h2⟩:=Xv x hx;exact hM.o.bg _ _ _ h2
 have hst:=XU hD.o hE.o.nd asked now;clear hnS Xv;go_loopw [23,24] (fun _ _ wr=>∃(left:Lit→Bool) (cnt:Nat) (XJ:List GX),wr.ranges Tryz.prog 9 uY b r n D left cnt∧Hid (dG wr base ge b rec now B XJ)∧Hid (dK XJ=(dK gs).map (Kv left asked now))∧Hid (lY XJ=lY gs)∧Hid (XJ.map (·.gb)=gs.map (·.gb))∧Hid (XJ.map (·.cb)=gs.map (·.cb))∧Hid (nR (fun j=>j = r∨∃x∈gs,j = x.cb) wS wr)∧Hid (qM [180] wS wr)) (fun _ _ wr=>wr.rangeLeft b r)
 case atStart=>exact⟨_,_,gs,hrg0,hE,ζ hst,ζ rfl,ζ rfl,ζ rfl,ζ (nR.refl _ _),ζ (qM.refl _ _)⟩
 case round=>
  obtain⟨left,cnt,XJ,hrg,YU,hgr,hmr,hbr,hcr,OI,hT⟩:=hrel;go_wp2_with (first
   | (at_next;refine wpList_next_ranges _ rfl _ rfl 9 wU uY (fun s:List UInt8=>Value.string ⟨s.toArray⟩) P9 (fun key kl hkey=>by obtain⟨s,rfl,_⟩:=keyOf_str hkey;exact⟨s,rfl⟩) (fun v y hv=>E5 hv) b r n _ _ _ rfl hrg ?_ ?_)
   | go_in)
  ·intro _ hl0;have aO:Hid (dK XJ=(dK gs).map (yX asked now)):=ζ (by rw[hgr.o,afp hl0]);clear hrg hl0 hgr hmr;go_wp2;first
    | exact⟨XJ,YU,aO,hbr,hcr,OI,hT⟩
    | exact pV _ _ _ _ _ _ _ _ _ _ _ _ _ _ _ _ _ ⟨XJ,YU,aO,hbr,hcr,OI,hT⟩
  ·intro x c kl yd yp w3 ais hkey hlk hv hat hrg3 hlt hg3 hs3 hen;obtain⟨s,e1,rfl⟩:=keyOf_str hkey;obtain rfl:x = s:=str_inj e1;rw[uX] at hv;simp only[Option.some.injEq,Prod.mk.injEq] at hv;obtain⟨gb,rfl,uf⟩:=hD.o.entry (s:=x) (o:=c) (fun zd=>by rw[hat zd,←hv.1]);rw[←hmr.o] at uf;obtain⟨y,xO,Tn,rfl⟩:=JD uf;have Qs:∀cur te fz,wr.heap[r]?≠some (.cells cur te fz):=lW hrg;have EC:=YU.o.other hg3 (fun e=>by injection e with e;exact hrg.ne e.symm) (fun m hm cur te fz hc=>by injection hm with hm;subst hm;exact (Qs _ _ _ hc).elim);have iM:=OI.o.next hg3 (fun k hk=>by injection hk with hk;subst hk;exact .inl (.inl rfl));have hT3:=hT.o.trans (qM.row hg3 (fun m hm cur te fz hc=>by injection hm with hm;subst hm;exact (Qs _ _ _ hc).elim));have Rt:=EC.at_ y xO;have Ox:=Rt.kl;rw[Tn] at Ox;have b3:=iM.blk hb3.o hn3;have b4:=iM.blk hb4.o hn4;have hM3:=hM.o.off iM hnM;have aen:=hM3.look (s:=x) ω;have q3:=b3.c0;have q3l:=b3.lt;have q4:=b4.c0;have ZV:=b4.lt;have y7:=Rt.blk.c7;have yl:=Rt.blk.lt;have hstep:=abv (L:=dK gs) (asked:=asked) (now:=now) hlk;rw[←hgr.o] at hstep;simp only[P9,Option.map_some] at hen ⊢;replace hstep:=ζ hstep;replace iM:=ζ iM;replace EC:=ζ EC;replace hT3:=ζ hT3;clear hat hv uf e1 YU OI hg3 hs3 Qs hT hst hlk hgr hM3;by_cases hxA:x∈asked
   ·rw[decide_eq_true hxA] at aen;have hgF:Hid (dK XJ=(dK gs).map (Kv (fun z=>left z && !z.sameKey (.string x)) asked now)):=ζ (by rw[hstep.o,XV hxA]);clear hxA;go_wp2;go_roundw
    case rel=>exact⟨_,ais,XJ,hrg3,EC,hgF,hmr,hbr,hcr,iM,hT3⟩
    case measure=>
     rw[hrg3.left_eq,hrg.left_eq];exact hlt
   ·rw[decide_eq_false hxA] at aen;have hcm:y.cb∈gs.map (·.cb):=by rw[←hcr.o];exact List.mem_map.2 ⟨y,xO,rfl⟩
    obtain⟨x0,hx0,asI⟩:=List.mem_map.1 hcm;have atU:some b≠some y.cb:=fun e=>by
     injection e with e
     obtain⟨n2,-,K_⟩:=EC.o.map;exact K_.bg _ _ _ (by rw[e];exact Rt.iR.blk)
    have as4:some r≠some y.cb:=fun e=>by
     injection e with e
     exact lW hrg3 _ _ _ (by rw[e];exact Rt.iR.blk)
    have dg:y.gb≠y.cb:=Rt.blk.KX Rt.iR.blk δ;have dg':some y.gb≠some y.cb:=fun e=>dg (Option.some.inj e)
    have d4:some g4≠some y.cb:=fun e=>b4.KX Rt.iR.blk δ (Option.some.inj e)
    have cA:=ζ (fun wq (hq:ah w3 wq)=>Ri (A:=none) (m:=0) (k:=0) (ids:=[]) wq (Rt.iR.grows hq) Rt.cge (fun W _=>cu.jA) ω List.Pairwise.nil h0 h1.o (EC.o.iR y xO));have aS:=ζ (ah.refl w3);clear b3 b4;go_wp2_with fail;refine iI ((some y.cb)) κ ?_;refine rK (up:=iJ) (.range 5) 1 ?_;iterate 5 refine fK ?_
    refine aB ?_;refine aK [5] κ σ (fun wN hN hS=>(ay.cons rfl (fun K' hK=> ?_) ay.nil));try replace aS:=ζ (aS.o.trans hN)
    try replace GY:=ζ (GY.o.grows hN)
    try replace iq:=ζ (dD iq.o hN)
    clear hN;go_simp;refine (cA.out _ aS.o).mono ?_;rintro e w9 ⟨v9,rfl,GY,iq⟩;replace GY:=ζ GY;replace iq:=ζ ((aS.o.keeps (some y.cb)).trans iq);clear aS cA;refine hK.o _ _ ?_ (fun hS=> ?_)
    ·exact iq.o
    clear hK hS;refine aJ κ (fun wN hN hS=> ?_);try replace aS:=ζ (aS.o.trans hN)
    try replace GY:=ζ (GY.o.grows hN)
    try replace iq:=ζ (dD iq.o hN)
    obtain⟨y1,je⟩:∃y1:GX,y1={y with g:={y.g with iR:=zJ y.g.iR now []},v:=v9}:=⟨_,rfl⟩;have Nu:sO wN base y1:=by
     rw[je];exact⟨Rt.blk.aP iq.o dg',GY.o,Rt.gge,Rt.cge,Rt.kl⟩
    have hE9:=EC.o.upd (y:=y1) xO iq.o (.inr rfl) Nu (by rw[je]) (by rw[je]) (by rw[je]) (show y1.g.number≤B by rw[je];exact EC.o.num y xO) (show y1.g.iR.now≤now by rw[je];simp only;rw[KJ];exact Int.le_refl _) (Nat.le_refl _);have hgF:=afn (asked:=asked) (now:=now) EC.o.nd xO (y:=y1) (by rw[je]) (by rw[je]) (by rw[Tn];exact hxA);obtain⟨Ve,Vd,hm3⟩:=acA EC.o.nd xO (y:=y1) (by rw[je]) (by rw[je]) (by rw[je]);rw[Tn] at hgF hE9 Ve Vd hm3;rw[←hstep.o] at hgF;rw[hmr.o] at Ve;rw[hbr.o] at Vd;rw[hcr.o] at hm3;have aoI:=hrg3.kept iq.o atU as4;have hO9:=iM.o.next iq.o (fun m hm=>by injection hm with hm;subst hm;exact .inl (.inr ⟨x0,hx0,asI.symm⟩));have hT9:=hT3.o.trans (qM.row iq.o (fun m hm cur te fz hc=>by injection hm with hm;subst hm;rw[Rt.iR.blk.qJ hc];exact List.mem_cons_self ..));clear EC iM hT3 iq GY Nu;go_wp2;go_roundw
    case rel=>exact⟨_,ais,_,aoI,ζ hE9,ζ hgF,ζ Ve,ζ Vd,ζ hm3,ζ hO9,ζ hT9⟩
    case measure=>
     rw[aoI.left_eq,hrg.left_eq];exact hlt
end Go.Proofs.YtbhikkgpcmkonaaGreatDoor
