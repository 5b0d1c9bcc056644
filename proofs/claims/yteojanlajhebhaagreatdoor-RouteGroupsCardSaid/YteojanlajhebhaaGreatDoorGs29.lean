/- Parts: RcM RcN RcO RliP -/
import Derived.Test.YteojanlajhebhaaGreatDoorGs0
import Derived.Test.YteojanlajhebhaaGreatDoorGs28
import Derived.Test.YteojanlajhebhaaGreatDoorGs14
set_option maxRecDepth 100000
set_option maxHeartbeats 12800000
namespace Go.Proofs.YteojanlajhebhaaGreatDoor
open Go.RowKit
theorem Ro {gs:List bM} {fs:List eu} {vA A8:Option Addr} {B n vc D m8 c8:Nat} {wS:World} {Q0:Exit→Act→World→Prop} {x0 x1 x2 x3 x4 x5 x6 x7 x8 JA Hr F8 Df yZ xX yE xW xU xR xQ xI xH xG xP xO yD yY yX yV yU yT Aa z_ zZ zY zX zW zV zU zT zS zQ zO zN zM zL zK zJ zI Dc C_ CG zH Cb B_ BZ BX BU BR BP BN BM BK zG zF zD zC zB BJ BH BG BF BD BA Bz Bv Bq CB Cm Cj Ci Ce zA zy zx zu zq zo C9 CZ Bo Bl zn Bj Bh kS kR kQ kP kN kM mF mD mg lZ mV mQ nX ny:Value}
 (hO:Hid (Nr wS B (.slice vA n vc) gs)) (hf:Hid (dH wS 2 fU A8 m8 fs)) (hm8:m8≤9223372036854775807) (hD:D≤n)
 (U_:∀c a d v w,Q0 (.panic c) (Act.put a d v) w→Q0 (.panic c) a w)
 (tY:∀(u18 u19 Yj Yi Yh Yg Yf Ye Yd Yc Yb Vq Vp Vo Vm Vl:Value) (wr:World),(u18=.int .i64 (atV D (rZ ((gs.map bM.g).drop D) fs (n - D)))∧Hid (ah wS wr))→Q0 (.exit 4) ⟨(x0::x1::x2::x3::x4::x5::x6::x7::x8::(.slice vA n vc)::JA::Hr::F8::(.int .i64 (D:Int))::Df::yZ::xX::(.slice A8 m8 c8)::u18::u19::yE::xW::xU::xR::xQ::xI::xH::xG::xP::xO::yD::yY::yX::yV::yU::yT::Aa::z_::zZ::zY::zX::zW::zV::zU::zT::zS::zQ::zO::zN::zM::zL::zK::zJ::zI::Dc::C_::CG::zH::Cb::B_::BZ::BX::BU::BR::BP::BN::BM::BK::zG::zF::zD::zC::zB::Yj::Yi::Yh::Yg::Yf::Ye::Yd::Yc::Yb::Vq::Vp::Vo::Vm::Vl::zA::zy::zx::zu::zq::zo::C9::CZ::Bo::Bl::zn::Bj::Bh::kS::kR::kQ::kP::kN::kM::mF::mD::mg::lZ::mV::mQ::nX::ny::[]).toArray,[]⟩ wr) :
 Code.wp Tryz.prog (Gy Tryz.f11 2) Q0 ⟨(x0::x1::x2::x3::x4::x5::x6::x7::x8::(.slice vA n vc)::JA::Hr::F8::(.int .i64 (D:Int))::Df::yZ::xX::(.slice A8 m8 c8)::(.int .i64 (-1))::(.int .i64 (D:Int))::yE::xW::xU::xR::xQ::xI::xH::xG::xP::xO::yD::yY::yX::yV::yU::yT::Aa::z_::zZ::zY::zX::zW::zV::zU::zT::zS::zQ::zO::zN::zM::zL::zK::zJ::zI::Dc::C_::CG::zH::Cb::B_::BZ::BX::BU::BR::BP::BN::BM::BK::zG::zF::zD::zC::zB::BJ::BH::BG::BF::BD::BA::Bz::Bv::Bq::CB::Cm::Cj::Ci::Ce::zA::zy::zx::zu::zq::zo::C9::CZ::Bo::Bl::zn::Bj::Bh::kS::kR::kQ::kP::kN::kM::mF::mD::mg::lZ::mV::mQ::nX::ny::[]).toArray,[]⟩ wS:=by
 conv=>arg 2;whnf
 have _hQ:=U_;obtain⟨A0,c0,hv0,hcx,hmx,CS⟩:=hO.o.own.arr N7;simp only[Value.slice.injEq] at hv0;obtain⟨rfl,hl0,rfl⟩:=hv0;rw[←hl0] at CS hcx;have hnb:n≤9223372036854775807:=by unfold maxLen at hmx;omega
 clear hcx hmx hl0;go_loopw [18,19] (fun av kv wr2=>∃j:Nat,D≤j∧j≤n∧kv=.int .i64 (j:Int)∧av=.int .i64 (atV D (rZ ((gs.map bM.g).drop D) fs (j - D)))∧Hid (ah wS wr2)) (fun _ kv _=>n - (intOf kv).toNat)
 case atStart=>exact⟨D,Nat.le_refl _,hD,rfl,by rw[Nat.sub_self];rfl,ζ (ah.refl _)⟩
 case round=>
  obtain⟨j,hj1,hj2,rfl,rfl,hg⟩:=hrel;by_cases Xw:j < n
  ·obtain⟨b,off,x,rfl,_,hx,hcell⟩:=(CS.keep hg.o).at_ Xw;have x1:wr.cell? ⟨b,off+j * 4+1,none⟩=some (.slice x.bA x.bm x.bk):=hcell 1 _ rfl;have KP:(j:Int)<(n:Int):=ω;have hxa:=hO.o.at_ x (List.mem_of_getElem? hx);have cS:=ζ (Vz x.bA A8 x.bm x.bk m8 c8 x.iM fs wr (hxa.fs.keep hg.o) (hf.o.keep hg.o) hxa.bl hm8);have hxr:((gs.map bM.g).drop D)[j - D]? = some x.g:=by
    rw[List.getElem?_drop,show D+(j - D)=j by omega,List.getElem?_map,hx];rfl
   have hj3:j + 1-D=(j - D)+1:=ω;by_cases he:x.iM=fs
   ·have Ik:=ζ (ags hxr he);rw[←hj3] at Ik;rw[decide_eq_true he] at cS;have hat:Hid ((j:Int)=atV D (some (j - D))):=ζ (by unfold atV;simp only;omega);clear hcell hx hxa hxr he hj3;go_wp2_with fail;refine cS.out.mono ?_;rintro e w2 ⟨rfl,hb⟩;replace hg:=ζ (hg.o.trans hb);clear hb cS;go_wp2;go_roundw
    case rel=>exact⟨j + 1,ω,ω,ν,by rw[Ik.o,←hat.o],hg⟩
    case measure=>exact ψ
   ·have Ik:=ζ (ajC (fs:=fs) hxr he);rw[←hj3] at Ik;rw[decide_eq_false he] at cS;clear hcell hx hxa hxr he hj3;go_wp2_with fail;refine cS.out.mono ?_;rintro e w2 ⟨rfl,hb⟩;replace hg:=ζ (hg.o.trans hb);clear hb cS;go_wp2;go_roundw
    case rel=>exact⟨j + 1,ω,ω,ν,by rw[Ik.o],hg⟩
    case measure=>exact ψ
  ·have KP:¬(j:Int)<(n:Int):=ω;obtain rfl:j = n:=ω;go_wp2
theorem Qr {α:Type} {A B:List α} {k D:Nat} (h:D=A.length) (x:α):(A++B).set (D+k) x = A++B.set k x:=by
 subst h;rw[List.set_append,if_neg ω,Nat.add_sub_cancel_left]
theorem Own.xY {α:Type} {w:World} {b0 k gc:Nat} {e t:TypeId} {enc:α→List Value} {v:Value} {xs:List α} {cs:Array Value} (h:Own w b0 e k enc v xs) (hB:aS w gc t cs) (hne:e≠t) (i:Nat) (u:Value):Own (w.setCell ⟨gc,i,none⟩ u) b0 e k enc v xs:=
 h.kept' (aj w ⟨gc,i,none⟩ u) (fun g hg hv=>by injection hg with hg;subst hg;exact iZ h hB hne hv)
theorem aco {fb:jq→Bool} {ft:List eu→jq→Bool} {q:dU} {rec:List UInt8} {now:Int} {to0:Cc} {xs:List iI} {gs0:List bM} {lA:Option Addr} {gp gl lm lk r D:Nat} {v0:Value} {w0 wS:World} {Q0:Exit→Act→World→Prop} {x0 x5 x6 x7 x8 Hr yZ xX CJ Ad Ac yE xW xU xR xQ xI xH xG xP xO yD yY yX yV yU yT Aa z_ zZ zY zX zW zV zU zT zS zQ zO zN zM zL zK zJ zI Dc C_ CG zH Cb B_ BZ BX BU BR BP BN BM BK zG zF zD zC zB BJ BH BG BF BD BA Bz Bv Bq CB Cm Cj Ci Ce zA zy zx zu zq zo C9 CZ Bo Bl zn Bj Bh kS kR kQ kP kN kM mF mD mg lZ mV mQ nX ny:Value}
 (hq:Hid (q.At w0)) (Dq:Hid (xE fb q)) (O_:Hid (Bd ft q)) (hA:Hid (dH w0 6 FV lA lm xs)) (hat:Hid (∀a∈xs,a.At w0)) (P_:Hid (∀a∈xs,OC a.a)) (hP:Hid (aS w0 gp 26 (EM q))) (hL:Hid (aS w0 gl 40 #[.int .i64 to0.lv,.int .u32 (to0.c:Int)])) (TW:Hid (∀to,gG q.dQ.receivers rec=some to→to=to0∧to.ok)) (hG0:Hid (ah w0 wS)) (Pg:Hid (Nr wS w0.heap.size v0 gs0)) (hD:Hid (D=gs0.length)) (hDl:D≤100000) (hlm:lm≤1000) (hr:r < q.om)
 (U_:∀c a d v w,Q0 (.panic c) (Act.put a d v) w→Q0 (.panic c) a w)
 (tY:∀(u9 u14 u15 u16 u17 u18 u19 u36 u37 u38 u39 u40 u41 u42 u43 u44 u45 u46 u47 u48 u49 u50 u51 u52 u53 u54 u55 u56 u57 Yt Yr Yq Yp Yo Yn u64 Ym Yl Yk u68 u69 u70 u71 u72 Yj Yi Yh Yg Yf Ye Yd Yc Yb Vq Vp Vo Vm Vl u87 u88 u89 u90 u91 u92 u93 Ya X_ X9 u97 X8 X7 Ih Ig Ie Ic Ib Ia H_ H9 H8 H7 Fe Fb H6:Value) (wr:World),(∃gs,Hid (Nr wr w0.heap.size u9 gs)∧Hid (gs.map bM.g = gs0.map bM.g ++iF fb ft q.dQ rec (xs.map (·.a)) now r)∧Hid (ah w0 wr))→Q0 (.exit 2) ⟨(x0::(.string ⟨rec.toArray⟩)::(.slice lA lm lk)::(.int .i64 now)::(.pointer (some ⟨gp,0,none⟩))::x5::x6::x7::x8::u9::(.pointer (some ⟨gl,0,none⟩))::Hr::(.int .i64 (r:Int))::(.int .i64 (D:Int))::u14::u15::u16::u17::u18::u19::yE::xW::xU::xR::xQ::xI::xH::xG::xP::xO::yD::yY::yX::yV::yU::yT::u36::u37::u38::u39::u40::u41::u42::u43::u44::u45::u46::u47::u48::u49::u50::u51::u52::u53::u54::u55::u56::u57::Yt::Yr::Yq::Yp::Yo::Yn::u64::Ym::Yl::Yk::u68::u69::u70::u71::u72::Yj::Yi::Yh::Yg::Yf::Ye::Yd::Yc::Yb::Vq::Vp::Vo::Vm::Vl::u87::u88::u89::u90::u91::u92::u93::Ya::X_::X9::u97::X8::X7::Ih::Ig::Ie::Ic::Ib::Ia::H_::H9::H8::H7::Fe::Fb::H6::ny::[]).toArray,[]⟩ wr) :
 Code.wp Tryz.prog (Gy Tryz.f11 1) Q0 ⟨(x0::(.string ⟨rec.toArray⟩)::(.slice lA lm lk)::(.int .i64 now)::(.pointer (some ⟨gp,0,none⟩))::x5::x6::x7::x8::v0::(.pointer (some ⟨gl,0,none⟩))::Hr::(.int .i64 (r:Int))::(.int .i64 (D:Int))::(.int .i64 0)::yZ::xX::CJ::Ad::Ac::yE::xW::xU::xR::xQ::xI::xH::xG::xP::xO::yD::yY::yX::yV::yU::yT::Aa::z_::zZ::zY::zX::zW::zV::zU::zT::zS::zQ::zO::zN::zM::zL::zK::zJ::zI::Dc::C_::CG::zH::Cb::B_::BZ::BX::BU::BR::BP::BN::BM::BK::zG::zF::zD::zC::zB::BJ::BH::BG::BF::BD::BA::Bz::Bv::Bq::CB::Cm::Cj::Ci::Ce::zA::zy::zx::zu::zq::zo::C9::CZ::Bo::Bl::zn::Bj::Bh::kS::kR::kQ::kP::kN::kM::mF::mD::mg::lZ::mV::mQ::nX::ny::[]).toArray,[]⟩ wS:=by
 conv=>arg 2;whnf
 unfold EM at hP;go_loopw [9,14,15,16,17,18,19] (fun ov iv _ _ _ _ _ wr2=>∃(i:Nat) (gs:List bM),i≤lm∧iv=.int .i64 (i:Int)∧Hid (Nr wr2 w0.heap.size ov gs)∧Hid (gs.map bM.g = gs0.map bM.g ++iF fb ft q.dQ rec ((xs.map (·.a)).take i) now r)∧Hid (ah w0 wr2)) (fun _ iv _ _ _ _ _ _=>lm-(intOf iv).toNat)
 case atStart=>exact⟨0,gs0,ω,rfl,Pg,ζ (by simp[iF]),hG0⟩
 case round=>
  clear hG0 Pg;obtain⟨i,gs,hi,rfl,hO,oQ,hG⟩:=hrel;by_cases him:i < lm
  ·have hii:(i:Int)<(lm:Int):=ω;obtain⟨b,off,a,rfl,hbb,hx,hcell⟩:=(hA.o.keep hG.o).at_ him;have ham:=List.mem_of_getElem? hx;have cG:=ζ (fun W (hW:ah wr W)=>VD (rec:=rec) (now:=now) W (hq.o.keep (hG.o.trans hW)) Dq.o O_.o ((hat.o a ham).keep (hG.o.trans hW)) (P_.o a ham));unfold dU.val jy at cG;have k0:wr.cell? ⟨b,off+i * 6,none⟩=some (.string ⟨a.a.src.toArray⟩):=by simpa using hcell 0 _ rfl
   have k1:wr.cell? ⟨b,off+i * 6+1,none⟩=some (.slice a.A a.m a.k):=hcell 1 _ rfl;have k2:wr.cell? ⟨b,off+i * 6+2,none⟩=some (.int .i64 a.a.l.lv):=hcell 2 _ rfl;have k3:wr.cell? ⟨b,off+i * 6+3,none⟩=some (.int .u32 (a.a.l.c:Int)):=hcell 3 _ rfl;have k4:wr.cell? ⟨b,off+i * 6+4,none⟩=some (.int .i64 a.a.f):=hcell 4 _ rfl;have k5:wr.cell? ⟨b,off+i * 6+5,none⟩=some (.int .i64 a.a.t):=hcell 5 _ rfl;have hPw:=hP.o.grows hG.o;have p0:=hPw.c0;have p1:=hPw.c1;have p2:=hPw.c2;have p3:=hPw.c3;have p4:=hPw.c4;have p5:=hPw.c5;have lP:=hPw.lt;clear hPw;have hax:(xs.map (·.a))[i]? = some a.a:=by rw[List.getElem?_map,hx];rfl
   have hrt:=Ph (fb:=fb) (ft:=ft) (p:=q.dQ) (rec:=rec) (now:=now) (r:=r) hax;replace hrt:=ζ hrt;by_cases hgo:r∈uJ fb ft q.dQ rec a.a now
   ·have hgb:=decide_eq_true hgo;obtain⟨GU,c,to,hse,hfi,hcu⟩:=Oj hgo;obtain⟨ht1,ht2⟩:=TW.o to hfi;subst ht1;have r_:=ζ (Nz GU hse);have pO:=ζ (Tn (gs:=iF fb ft q.dQ rec ((xs.map (·.a)).take i) now r) hgo hse);have cC:=fun W (hW:ah wr W)=>VL (p:=q) (a:=a) (to:=to) W (hq.o.keep (hG.o.trans hW)) ((hat.o a ham).keep (hG.o.trans hW)) ht2
    rw[hcu] at cC;unfold dU.val jy at cC;simp only[Option.isSome_some] at cC;replace cC:=ζ cC;have hLw:=hL.o.grows hG.o;have l0:=hLw.c0;have l1:=hLw.c1;have lL:=hLw.lt;clear hLw;generalize uJ fb ft q.dQ rec a.a now=GO at *
    clear hgo hcell hx hax hse hfi hcu ht2 GU;obtain⟨lV,qV,⟨Dx,Dy⟩,Dz,Dw⟩:=c;go_wp2_with fail;refine bV (μ [0,1,2,3,4,5,6,8,7,9,10] [7,9]) κ κ rfl κ π ?_;iterate 8 refine dX ?_
    refine iw rfl (fun K' hK=> ?_);go_simp;refine (cG.out _ (by
     have hG:=hG.o;exact γ
    )).mono ?_
    rintro e w7 ⟨v7,rfl,ML,hb7⟩;obtain⟨A8,c8,rfl,hl8,hc8,Qe⟩:=ML.arr JV;have hw7:ah wr w7:=by
     exact γ
    unfold maxLen at hc8;refine hK.o _ _ ?_ (fun hS=> ?_)
    ·exact γ
    clear hK hS;refine iw rfl (fun K' hK=> ?_);go_simp;refine (Y7 _ (Qe.keep γ) ω).mono ?_;rw[hgb];rintro e w8 ⟨rfl,Z5⟩;have Qz:ah wr w8:=hw7.trans Z5;refine hK.o _ _ ?_ (fun hS=> ?_)
    ·exact γ
    clear hK hS;iterate 1 refine dX ?_
    refine gK ?_;have V4:=ζ (hG.o.trans Qz);have MK:=ζ (hO.o.grows Qz);have cC8:=ζ (fun W (hW:ah w8 W)=>cC.out W (Qz.trans hW));have q0:=Qz.cell p0;have q1:=Qz.cell p1;have q2:=Qz.cell p2;have q3:=Qz.cell p3;have q4:=Qz.cell p4;have q5:=Qz.cell p5;have qP:=Nat.lt_of_lt_of_le lP Qz.size;have a0:=Qz.cell k0;have a1:=Qz.cell k1;have a2:=Qz.cell k2;have a3:=Qz.cell k3;have a4:=Qz.cell k4;have a5:=Qz.cell k5;have m0:=Qz.cell l0;have m1:=Qz.cell l1;have mL:=Nat.lt_of_lt_of_le lL Qz.size;have as3:=Nat.lt_of_lt_of_le hbb Qz.size;have kC:=ζ (ah.refl w8);clear hbb Qe hw7 ML hb7 Z5 hl8 hc8 p0 p1 p2 p3 p4 p5 lP k0 k1 k2 k3 k4 k5 l0 l1 lL hG hO cC cG Qz;go_wp2_with fail;refine aJ κ ?_;refine rK (.range 6) 7 ?_;iterate 6 refine aB ?_
    refine ay ?_;refine aY [6,10] κ σ (fun wN hN hS=>(aK.cons rfl (fun K' hK=> ?_) (aK.cons rfl (fun K' hK=> ?_) aK.nil)))
    ·skip
     try replace FQ:=ζ (FQ.o.grows hN)
     try replace jk:=ζ (jk.o.grows hN)
     try replace hE:=ζ (hE.o.grows hN)
     try replace AP:=ζ (AP.o.grows hN)
     try replace uX:=ζ (uX.o.trans hN)
     try replace kC:=ζ (kC.o.trans hN)
     clear hN;go_simp;refine (cC8.out _ kC.o).mono ?_;rintro e w5 ⟨v5,rfl,SG,GV⟩;obtain⟨A',k',rfl,jk⟩:=SG;replace jk:=ζ (jk.ig (Nat.zero_le _));unfold jy;simp only at jk ⊢;try replace FQ:=ζ (FQ.o.grows GV)
     replace kC:=ζ (kC.o.trans GV);refine hK.o _ _ ?_ (fun hS=> ?_)
     ·exact kC.o
     clear GV;clear hK hS;refine rK [7,8,9] 3 ?_;iterate 3 refine aB ?_
     refine ay ?_;refine aY [10] κ σ (fun wN hN hS=>(aK.cons rfl (fun K' hK=> ?_) aK.nil));try replace FQ:=ζ (FQ.o.grows hN)
     try replace jk:=ζ (jk.o.grows hN)
     try replace hE:=ζ (hE.o.grows hN)
     try replace AP:=ζ (AP.o.grows hN)
     try replace uX:=ζ (uX.o.trans hN)
     try replace kC:=ζ (kC.o.trans hN)
     clear hN;go_simp;have FQ:=ζ (aS.new wN 44 E_);have EO:Hid (w8.heap.size≤wN.heap.size):=ζ kC.o.size;replace kC:=ζ (kC.o.alloc (.cells E_ 44));try replace jk:=ζ (jk.o.alloc (.cells E_ 44))
     refine hK.o _ _ ?_ (fun hS=> ?_)
     ·exact kC.o
     generalize wN.heap.size=gc at *
     clear hK hS;refine aY [11] κ σ (fun wN hN hS=>(aK.cons rfl (fun K' hK=> ?_) aK.nil));try replace FQ:=ζ (FQ.o.grows hN)
     try replace jk:=ζ (jk.o.grows hN)
     try replace hE:=ζ (hE.o.grows hN)
     try replace AP:=ζ (AP.o.grows hN)
     try replace uX:=ζ (uX.o.trans hN)
     try replace kC:=ζ (kC.o.trans hN)
     clear hN;have b0:=FQ.o;have g0:=kC.o;have o0:=jk.o;have b1:=b0.dO 0 (.string ⟨lV.toArray⟩);have g1:=g0.setCell (p:=⟨gc,0,none⟩) EO.o (.string ⟨lV.toArray⟩);have o1:=o0.xY b0 δ 0 (.string ⟨lV.toArray⟩);have b2:=b1.dO 1 (.slice A' qV.length k');have g2:=g1.setCell (p:=⟨gc,1,none⟩) EO.o (.slice A' qV.length k');have o2:=o1.xY b1 δ 1 (.slice A' qV.length k');have b3:=b2.dO 2 (.int .i64 Dx);have g3:=g2.setCell (p:=⟨gc,2,none⟩) EO.o (.int .i64 Dx);have o3:=o2.xY b2 δ 2 (.int .i64 Dx);have b4:=b3.dO 3 (.int .u32 (Dy:Int));have g4:=g3.setCell (p:=⟨gc,3,none⟩) EO.o (.int .u32 (Dy:Int));have o4:=o3.xY b3 δ 3 (.int .u32 (Dy:Int));have b5:=b4.dO 4 (.int .i64 Dz);have g5:=g4.setCell (p:=⟨gc,4,none⟩) EO.o (.int .i64 Dz);have o5:=o4.xY b4 δ 4 (.int .i64 Dz);have b6:=b5.dO 5 (.int .i64 Dw);have g6:=g5.setCell (p:=⟨gc,5,none⟩) EO.o (.int .i64 Dw);have o6:=o5.xY b5 δ 5 (.int .i64 Dw);have z0:=FQ.o.cell 0;have z1:=FQ.o.cell 1;have z2:=FQ.o.cell 2;have z3:=FQ.o.cell 3;have z4:=FQ.o.cell 4;have z5:=FQ.o.cell 5;have zf:=fun i=>FQ.o.frozen i
     have zl:=FQ.o.lt;unfold E_ at z0 z1 z2 z3 z4 z5;have hE:=ζ b6;have uX:=ζ g6;have AP:=ζ o6;clear b0 g0 b1 g1 b2 g2 b3 g3 b4 g4 b5 g5 b6 g6 o0 o1 o2 o3 o4 o5 o6;go_simp;refine hK.o _ _ ?_ (fun hS=> ?_)
     ·exact uX.o
     clear z0 z1 z2 z3 z4 z5 zf zl FQ kC;generalize ((((((wN.setCell ⟨gc,0,none⟩ (.string ⟨lV.toArray⟩)).setCell ⟨gc,1,none⟩ (.slice A' qV.length k')).setCell ⟨gc,2,none⟩ (.int .i64 Dx)).setCell ⟨gc,3,none⟩ (.int .u32 (Dy:Int))).setCell ⟨gc,4,none⟩ (.int .i64 Dz)).setCell ⟨gc,5,none⟩ (.int .i64 Dw))=w9 at *
     clear hK hS;refine rK [12] 0 ?_;iterate 1 refine aB ?_
     refine ay ?_;refine aP κ (fun wN hN hS=> ?_);try replace FQ:=ζ (FQ.o.grows hN)
     try replace jk:=ζ (jk.o.grows hN)
     try replace hE:=ζ (hE.o.grows hN)
     try replace AP:=ζ (AP.o.grows hN)
     try replace uX:=ζ (uX.o.trans hN)
     try replace kC:=ζ (kC.o.trans hN)
     have hG:=ζ (V4.o.trans uX.o);have hO:=ζ (MK.o.grows uX.o);have hC:Hid (aS wN gc 44 #[.string ⟨lV.toArray⟩,.slice A' qV.length k',.int .i64 Dx,.int .u32 (Dy:Int),.int .i64 Dz,.int .i64 Dw]):=hE;clear hE V4 MK uX hN hS EO q0 q1 q2 q3 q4 q5 qP a0 a1 a2 a3 a4 a5 m0 m1 mL as3 cC8;obtain⟨vA,vc,hov,-,-,-⟩:=hO.o.own.arr N7;subst hov;obtain⟨n,hn⟩:∃n,n = gs.length:=⟨_,rfl⟩;rw[←hn] at hO ⊢;replace hn:=ζ hn;obtain⟨b2,o2,x,O8,hs2,hxo,nK⟩:=(hq.o.o.keep hG.o).at_ hr;have p4:=(hP.o.grows hG.o).c4;have lP:=(hP.o.grows hG.o).lt;rw[O8] at p4;have r1:wN.cell? ⟨b2,o2+r * 6+1,none⟩=some (.slice x.bA x.bm x.bk):=nK 1 _ rfl;have hri:(r:Int)<(q.om:Int):=ω;have Md:=hq.o.oAt x (List.mem_of_getElem? hxo);have Hw:=ζ (KH hxo);obtain⟨A2,c2,wX,-,-,Uc⟩:=AP.o.arr JW;simp only[Value.slice.injEq] at wX;obtain⟨rfl,_,rfl⟩:=wX;have cP:=ζ (fun W (hW:ah wN W)=>VB (c:=k') (c2:=x.bk) W (Uc.keep hW) (by have:=r_.o.2.2.1;omega) (Md.iM.keep (hG.o.trans hW)) Md.Ve);rw[←Hw.o] at cP;have adi:Hid (∀f∈dV qV (bU q.dQ r),f.n.length+f.v.length≤1000):=ζ (fun f hf=>r_.o.2.2.2 f (List.mem_filter.1 hf).1);have hpl:Hid ((dV qV (bU q.dQ r)).length≤8):=ζ (Nat.le_trans (List.length_filter_le _ _) r_.o.2.2.1);generalize dV qV (bU q.dQ r)=pk at *
     have c1:=hC.o.c1;have lC:=hC.o.lt;clear O8 nK Md hxo Hw;go_wp2_with fail;refine bV (μ (.range 10) [8]) κ κ rfl κ π ?_;iterate 8 refine dX ?_
     refine iw rfl (fun K' hK=> ?_);go_simp;refine (cP.out _ γ).mono ?_;rintro e w10 ⟨v10,rfl,AX,aps⟩;obtain⟨A8,c8,rfl,hl8,hc8,Qe⟩:=AX.arr JW;have SC:ah wN w10:=by
      exact γ
     refine hK.o _ _ ?_ (fun hS=> ?_)
     ·exact γ
     clear hK hS;iterate 1 refine dX ?_
     refine gK ?_;replace hG:=ζ (hG.o.trans SC);replace hO:=ζ (hO.o.grows SC);replace hC:=ζ (hC.o.grows SC);replace AP:=ζ (AP.o.grows SC);replace AX:=ζ (AX.ig (Nat.zero_le _));replace Qe:=ζ Qe;obtain⟨m8,hm8⟩:∃m8,m8=pk.length:=⟨_,rfl⟩;rw[←hm8] at AX Qe hl8 ⊢;have avu:m8≤8:=by have:=hpl.o;omega
     clear SC aps cP p4 r1 c1 lP lC Uc hs2;have jU:=G5 (fb:=fb) (ft:=ft) (p:=q.dQ) (rec:=rec) (l:=xs.map (·.a)) (now:=now) r i (by rw[List.length_map,hA.o.1];omega);have hnD:n = D+(iF fb ft q.dQ rec ((xs.map (·.a)).take i) now r).length:=by rw[hn.o,←List.length_map (f:=bM.g),oQ.o,List.length_append,List.length_map,hD.o]
     have hdr:(gs.map bM.g).drop D=iF fb ft q.dQ rec ((xs.map (·.a)).take i) now r:=by rw[oQ.o,hD.o,←List.length_map (f:=bM.g),List.drop_left]
     have jc:n - D=(iF fb ft q.dQ rec ((xs.map (·.a)).take i) now r).length:=ω;have hnb:D≤n∧n≤D+i:=ω;generalize iF fb ft q.dQ rec ((xs.map (·.a)).take i) now r = RM at *
     replace jU:=ζ jU;replace hdr:=ζ hdr;replace jc:=ζ jc;replace hm8:=ζ hm8;clear hnD;go_wp2_with fail;refine Ro hO Qe ω hnb.1 π ?_;intros
     rename_i wz hz;obtain⟨rfl,qI⟩:=hz;replace hG:=ζ (hG.o.trans qI.o);replace hO:=ζ (hO.o.grows qI.o);replace hC:=ζ (hC.o.grows qI.o);replace AP:=ζ (AP.o.grows qI.o);replace AX:=ζ (AX.o.grows qI.o);replace Qe:=ζ (Qe.o.keep qI.o);rw[hdr.o,jc.o];have sW:Nc rec r pk (FH ⟨lV,qV,⟨Dx,Dy⟩,Dz,Dw⟩) RM=match rZ RM pk RM.length with
      | some k=>(match RM[k]? with
       | some g=>RM.set k {g with ids:=wV g.ids (FH ⟨lV,qV,⟨Dx,Dy⟩,Dz,Dw⟩)}
       | none=>RM)
      | none=>RM++[⟨r,pk,yK rec r pk,wV [] (FH ⟨lV,qV,⟨Dx,Dy⟩,Dz,Dw⟩)⟩]:=rfl
     rw[←pO.o,←hrt.o] at sW;obtain⟨A2,c2,wX,-,-,Uc⟩:=AP.o.arr JW;simp only[Value.slice.injEq] at wX;obtain⟨rfl,_,rfl⟩:=wX;clear pO hrt qI jc;cases Ik:rZ RM pk RM.length with
     | some k=>
      rw[Ik] at sW;obtain⟨hk1,hk2⟩:=Az Ik;obtain⟨g,hg1,hg2⟩:=Option.map_eq_some_iff.1 hk2;simp only[hg1] at sW;have hgk:(gs.map bM.g)[D+k]? = some g:=by rw[←hg1,←hdr.o,List.getElem?_drop]
      rw[List.getElem?_map] at hgk;obtain⟨y,Ls,hy2⟩:=Option.map_eq_some_iff.1 hgk;obtain⟨j,hj⟩:∃j,j = D+k:=⟨_,rfl⟩;have hav:atV D (some k)=(j:Int):=by rw[hj];rfl
      rw[hav];rw[←hj] at Ls;have aQ:(gs.set j ⟨y.r,y.key,y.iM,y.bA,y.bm,y.bk,wV y.ids (FH ⟨lV,qV,⟨Dx,Dy⟩,Dz,Dw⟩),none,0,0⟩).map bM.g = gs0.map bM.g ++iF fb ft q.dQ rec ((xs.map (·.a)).take (i + 1)) now r:=by
       rw[sW,List.map_set,oQ.o,hj,Qr (by rw[List.length_map];exact hD.o),←hy2];rfl
      have VY:y.ids.length≤1000:=by
       have:=jU.o.2 g (List.mem_of_getElem? hg1);rw[←hy2] at this;have h2:y.g.ids=y.ids:=rfl;rw[h2] at this;omega
      have Xw:j < n:=by rw[hn.o];exact (List.getElem?_eq_some_iff.1 Ls).1
      have ao0:¬(j:Int)<0:=ω;replace aQ:=ζ aQ;clear sW Ik hk1 hk2 hg1 hg2 hgk hy2 hav hj oQ jU hdr AX adi hpl hn;go_wp2_with fail;obtain⟨gb,cap,hv4⟩:=Ap hO.o.own (by have:=(List.getElem?_eq_some_iff.1 Ls).1;omega);simp only[Value.slice.injEq] at hv4;obtain⟨rfl,hnl,rfl⟩:=hv4;clear hnl;obtain⟨y',hy',hyc,hyf⟩:=hO.o.own.at_ N7 Xw;rw[Ls] at hy';injection hy' with hy'
      subst hy';obtain⟨adg,gcs,KR⟩:=hO.o.own.kY gb rfl;have g3:wz.cell? ⟨gb,j * 4+3,none⟩=some (.slice y.iA y.im y.ik):=hyc 3 _ rfl;have gL:=KR.lt;have KP:(j:Int)<(n:Int):=ω;have e0:=hC.o.c0;have e1:=hC.o.c1;have e2:=hC.o.c2;have e3:=hC.o.c3;have e4:=hC.o.c4;have e5:=hC.o.c5;have eL:=hC.o.lt;have cI:=ζ (fun W (hW:ah wz W)=>Qs (a:=⟨⟨lV,qV,⟨Dx,Dy⟩,Dz,Dw⟩,A',qV.length,k'⟩) W (Uc.keep hW) (by have:=r_.o.2.1;simp only;omega) (by have:=r_.o.2.2.1;simp only;omega) r_.o.2.2.2);have Xm:=hO.o.ids y (List.mem_of_getElem? Ls);unfold bM.iv at Xm;unfold jy at cI;simp only at cI;generalize FH ⟨lV,qV,⟨Dx,Dy⟩,Dz,Dw⟩=ID at *
      have cU:=ζ (fun W (hW:ah wz W)=>LZ (id:=ID) W (Xm.grows hW) VY);have kC:=ζ (ah.refl wz);clear hyc Xm;refine aJ κ ?_;refine rK (.range 9) 4 ?_;iterate 8 refine aB ?_
      refine bJ (.int .u64 (ID:Int)) rfl χ (fun wq gY=> ?_) ?_
      ·obtain⟨qB,rE⟩:=bW gY;go_simp;exact Calls.mono (cI.out wq gY) (fun e w'' h=>h)
      go_simp;refine ay ?_;refine aY [9] κ σ (fun wN hN hS=>(aK.cons rfl (fun K' hK=> ?_) aK.nil));try replace kC:=ζ (kC.o.trans hN)
      try replace oC:=ζ (oC.o.grows hN)
      clear hN;go_simp;refine (cU.out _ kC.o).mono ?_;rintro e w13 ⟨v13,rfl,oC,S_⟩;replace oC:=ζ oC;obtain⟨A13,m13,c13,rfl⟩:∃A m c,v13=.slice A m c:=by
       rcases oC.o with⟨_,h⟩ | ⟨_,_,_,h,_⟩ <;> exact⟨_,_,_,h⟩
      replace kC:=ζ (kC.o.trans S_);refine hK.o _ _ ?_ (fun hS=> ?_)
      ·exact kC.o
      clear S_;clear hK hS;refine rK [10,11] 1 ?_;iterate 2 refine aB ?_
      refine ay ?_;refine dI (i:=12) rfl κ κ (fun wN hN hS K' hK=> ?_);try replace kC:=ζ (kC.o.trans hN)
      try replace oC:=ζ (oC.o.grows hN)
      clear hS;have hON:=ζ (hO.o.grows kC.o);have rcN:wN.cell? ⟨gb,j * 4+3,none⟩=some (.slice y.iA y.im y.ik):=kC.o.cell g3;have Z4:=KR.grows kC.o;have rfN:wN.frozen? ⟨gb,j * 4+3,none⟩=false:=Z4.frozen _;have Rn:=Z4.lt;go_simp;refine hK.o _ _ ?_;clear hK;have SH:=(Nr.upd (x':=⟨y.r,y.key,y.iM,y.bA,y.bm,y.bk,wV y.ids ID,A13,m13,c13⟩) hON.o Ls rfl ⟨rfl,rfl⟩ oC.o).1;have hGN:=ζ ((hG.o.trans kC.o).setCell (p:=⟨gb,j * 4+3,none⟩) adg (.slice A13 m13 c13));replace SH:=ζ SH;clear hON oC kC hC AP hO hG g3 gL e0 e1 e2 e3 e4 e5 eL cI cU Uc rcN rfN Rn Z4 KR Qe;go_wp2;go_roundw
      case rel=>exact⟨i + 1,_,ω,ν,SH,ζ (by rw[←aQ.o,List.map_set,List.map_set];rfl),hGN⟩
      case measure=>exact ψ
     | none=>
      rw[Ik] at sW;simp only at sW;have hav:atV D none=-1:=rfl;rw[hav];obtain⟨ky,hky⟩:∃ky,ky=yK rec r pk:=⟨_,rfl⟩;rw[←hky] at sW;have cY:=ζ (Zj (R:=rec) (c:=c8) (a:=(r:Int)) wz Qe.o (by have:=r_.o.1;omega) ω adi.o);rw[show iG (P6 (fE rec (r:Int) pk)) 8=ky from hky.symm] at cY;have yN:=gs.length;have hgn:(gs++[(⟨r,ky,pk,A8,m8,c8,[],none,0,0⟩:bM)])[n]? = some ⟨r,ky,pk,A8,m8,c8,[],none,0,0⟩:=by rw[hn.o];simp
      have aQ:Hid (((gs++[(⟨r,ky,pk,A8,m8,c8,[],none,0,0⟩:bM)]).set n ⟨r,ky,pk,A8,m8,c8,wV [] (FH ⟨lV,qV,⟨Dx,Dy⟩,Dz,Dw⟩),none,0,0⟩).map bM.g = gs0.map bM.g ++iF fb ft q.dQ rec ((xs.map (·.a)).take (i + 1)) now r):=ζ (by
       rw[sW,←List.append_assoc,←oQ.o,hn.o,show gs.length=gs.length+0 from rfl,Qr rfl];simp[bM.g])
      have MG:Hid (gs.length=n):=ζ hn.o.symm;clear sW Ik oQ jU hdr adi hpl hky hav yN;go_wp2_with fail;refine cY.out.mono ?_;rintro e Ir ⟨rfl,Ob⟩;replace hG:=ζ (hG.o.trans Ob);replace hO:=ζ (hO.o.grows Ob);replace hC:=ζ (hC.o.grows Ob);replace AP:=ζ (AP.o.grows Ob);replace AX:=ζ (AX.o.grows Ob);have hwb:=ζ hG.o.size;clear Ob cY Uc;go_wp2_with (at_builtin;go_loud ((refine dM (x:=(⟨r,ky,pk,A8,m8,c8,[],none,0,0⟩:bM)) atP rfl (.tmp 91) (.tmp 99) rfl (hO.o.own.alloc _) rfl ⟨Ir.heap.size,0,none⟩ rfl (N7 _) (h_ (by exact heap_alloc_new Ir _)) (amn _) (by have:=hwb.o;simp;omega) (by rw[MG.o];unfold maxLen;omega) (by rw[MG.o];omega) (fun v12 w12 akI hgr ES=> ?_));(have adw:=ζ (Nr.push (x:=(⟨r,ky,pk,A8,m8,c8,[],none,0,0⟩:bM)) (hO.o.grows ((ah.refl Ir).alloc (.cells #[.int .i64 (r:Int),.slice A8 m8 c8,.int .u64 (ky:Int),.slice none 0 0] 54))) (by have:=hwb.o;simp;omega) hgr akI (AX.o.alloc _) (Or.inl ⟨rfl,rfl⟩)));(have FP:=ζ ((hO.o.grows ((ah.refl Ir).alloc (.cells #[.int .i64 (r:Int),.slice A8 m8 c8,.int .u64 (ky:Int),.slice none 0 0] 54))).keep (by have:=hwb.o;simp;omega) hgr));(have Ip:=ζ ((hG.o.alloc (.cells #[.int .i64 (r:Int),.slice A8 m8 c8,.int .u64 (ky:Int),.slice none 0 0] 54)).bH hgr hO.o.own.eH));clear hgr ES akI));obtain⟨gb,cap,ac5⟩:=Ap adw.o.own (by rw[List.length_append,List.length_singleton];omega);rw[List.length_append,List.length_singleton,MG.o] at ac5;obtain⟨N,hN⟩:∃N,N=n + 1:=⟨_,rfl⟩;rw[←hN] at ac5;have Xw:n < N:=ω;subst ac5;have akH:=(AP.o.alloc (.cells #[.int .i64 (r:Int),.slice A8 m8 c8,.int .u64 (ky:Int),.slice none 0 0] 54)).tkq FP.o wH.1;obtain⟨A2,c2,wX,-,-,Uc⟩:=akH.arr JW;simp only[Value.slice.injEq] at wX;obtain⟨rfl,_,rfl⟩:=wX;have hC2:=ζ (FP.o.blk (hC.o.alloc (.cells #[.int .i64 (r:Int),.slice A8 m8 c8,.int .u64 (ky:Int),.slice none 0 0] 54)) δ);clear hO hC hG akH FP hN;have hO:=adw;have hC:=hC2;have hG:=Ip;clear adw hC2 Ip AX hwb;obtain⟨y,hy⟩:∃y,y = (⟨r,ky,pk,A8,m8,c8,[],none,0,0⟩:bM):=⟨_,rfl⟩;have ZY:Hid (((gs++[y]).set n ⟨y.r,y.key,y.iM,y.bA,y.bm,y.bk,wV y.ids (FH ⟨lV,qV,⟨Dx,Dy⟩,Dz,Dw⟩),none,0,0⟩).map bM.g = gs0.map bM.g ++iF fb ft q.dQ rec ((xs.map (·.a)).take (i + 1)) now r):=by rw[hy];exact aQ
      have VY:y.ids.length≤1000:=by rw[hy];exact Nat.zero_le _
      have hyv:(.slice y.iA y.im y.ik:Value)=.slice none 0 0:=by rw[hy]
      rw[←hy] at hgn hO;have Ls:=hgn;clear aQ hgn hy hyv MG hn;have aQ:=ZY;clear ZY;obtain⟨y',hy',hyc,hyf⟩:=hO.o.own.at_ N7 Xw;rw[Ls] at hy';injection hy' with hy'
      subst hy';obtain⟨adg,gcs,KR⟩:=hO.o.own.kY gb rfl;have g3:w12.cell? ⟨gb,n * 4+3,none⟩=some (.slice y.iA y.im y.ik):=hyc 3 _ rfl;have gL:=KR.lt;have KP:(n:Int)<(N:Int):=ω;have e0:=hC.o.c0;have e1:=hC.o.c1;have e2:=hC.o.c2;have e3:=hC.o.c3;have e4:=hC.o.c4;have e5:=hC.o.c5;have eL:=hC.o.lt;have cI:=ζ (fun W (hW:ah w12 W)=>Qs (a:=⟨⟨lV,qV,⟨Dx,Dy⟩,Dz,Dw⟩,A',qV.length,k'⟩) W (Uc.keep hW) (by have:=r_.o.2.1;simp only;omega) (by have:=r_.o.2.2.1;simp only;omega) r_.o.2.2.2);have Xm:=hO.o.ids y (List.mem_of_getElem? Ls);unfold bM.iv at Xm;unfold jy at cI;simp only at cI;generalize FH ⟨lV,qV,⟨Dx,Dy⟩,Dz,Dw⟩=ID at *
      have cU:=ζ (fun W (hW:ah w12 W)=>LZ (id:=ID) W (Xm.grows hW) VY);have kC:=ζ (ah.refl w12);clear hyc Xm;refine aJ κ ?_;refine rK (.range 9) 4 ?_;iterate 8 refine aB ?_
      refine bJ (.int .u64 (ID:Int)) rfl χ (fun wq gY=> ?_) ?_
      ·obtain⟨qB,rE⟩:=bW gY;go_simp;exact Calls.mono (cI.out wq gY) (fun e w'' h=>h)
      go_simp;refine ay ?_;refine aY [9] κ σ (fun wN hN hS=>(aK.cons rfl (fun K' hK=> ?_) aK.nil));try replace kC:=ζ (kC.o.trans hN)
      try replace oC:=ζ (oC.o.grows hN)
      clear hN;go_simp;refine (cU.out _ kC.o).mono ?_;rintro e w13 ⟨v13,rfl,oC,S_⟩;replace oC:=ζ oC;obtain⟨A13,m13,c13,rfl⟩:∃A m c,v13=.slice A m c:=by
       rcases oC.o with⟨_,h⟩ | ⟨_,_,_,h,_⟩ <;> exact⟨_,_,_,h⟩
      replace kC:=ζ (kC.o.trans S_);refine hK.o _ _ ?_ (fun hS=> ?_)
      ·exact kC.o
      clear S_;clear hK hS;refine rK [10,11] 1 ?_;iterate 2 refine aB ?_
      refine ay ?_;refine dI (i:=12) rfl κ κ (fun wN hN hS K' hK=> ?_);try replace kC:=ζ (kC.o.trans hN)
      try replace oC:=ζ (oC.o.grows hN)
      clear hS;have hON:=ζ (hO.o.grows kC.o);have rcN:wN.cell? ⟨gb,n * 4+3,none⟩=some (.slice y.iA y.im y.ik):=kC.o.cell g3;have Z4:=KR.grows kC.o;have rfN:wN.frozen? ⟨gb,n * 4+3,none⟩=false:=Z4.frozen _;have Rn:=Z4.lt;go_simp;refine hK.o _ _ ?_;clear hK;have SH:=(Nr.upd (x':=⟨y.r,y.key,y.iM,y.bA,y.bm,y.bk,wV y.ids ID,A13,m13,c13⟩) hON.o Ls rfl ⟨rfl,rfl⟩ oC.o).1;have hGN:=ζ ((hG.o.trans kC.o).setCell (p:=⟨gb,n * 4+3,none⟩) adg (.slice A13 m13 c13));replace SH:=ζ SH;clear hON oC kC hC AP hO hG g3 gL e0 e1 e2 e3 e4 e5 eL cI cU Uc rcN rfN Rn Z4 KR Qe;go_wp2;go_roundw
      case rel=>exact⟨i + 1,_,ω,ν,SH,ζ (by rw[←aQ.o,List.map_set,List.map_set];rfl),hGN⟩
      case measure=>exact ψ
    ·skip
     try replace FQ:=ζ (FQ.o.grows hN)
     try replace jk:=ζ (jk.o.grows hN)
     try replace hE:=ζ (hE.o.grows hN)
     try replace AP:=ζ (AP.o.grows hN)
     try replace uX:=ζ (uX.o.trans hN)
     try replace kC:=ζ (kC.o.trans hN)
     clear hN;go_simp;have FQ:=ζ (aS.new wN 44 E_);have EO:Hid (w8.heap.size≤wN.heap.size):=ζ kC.o.size;replace kC:=ζ (kC.o.alloc (.cells E_ 44));try replace jk:=ζ (jk.o.alloc (.cells E_ 44))
     refine hK.o _ _ ?_ (fun hS=> ?_)
     ·exact kC.o
     generalize wN.heap.size=gc at *
     clear hK hS;refine aY [6] κ σ (fun wN hN hS=>(aK.cons rfl (fun K' hK=> ?_) aK.nil));try replace FQ:=ζ (FQ.o.grows hN)
     try replace jk:=ζ (jk.o.grows hN)
     try replace hE:=ζ (hE.o.grows hN)
     try replace AP:=ζ (AP.o.grows hN)
     try replace uX:=ζ (uX.o.trans hN)
     try replace kC:=ζ (kC.o.trans hN)
     clear hN;go_simp;refine (cC8.out _ kC.o).mono ?_;rintro e w5 ⟨v5,rfl,SG,GV⟩;obtain⟨A',k',rfl,jk⟩:=SG;replace jk:=ζ (jk.ig (Nat.zero_le _));unfold jy;simp only at jk ⊢;try replace FQ:=ζ (FQ.o.grows GV)
     replace kC:=ζ (kC.o.trans GV);refine hK.o _ _ ?_ (fun hS=> ?_)
     ·exact kC.o
     clear GV;clear hK hS;refine rK [7,8,9] 2 ?_;iterate 3 refine aB ?_
     refine ay ?_;refine aY [11] κ σ (fun wN hN hS=>(aK.cons rfl (fun K' hK=> ?_) aK.nil));try replace FQ:=ζ (FQ.o.grows hN)
     try replace jk:=ζ (jk.o.grows hN)
     try replace hE:=ζ (hE.o.grows hN)
     try replace AP:=ζ (AP.o.grows hN)
     try replace uX:=ζ (uX.o.trans hN)
     try replace kC:=ζ (kC.o.trans hN)
     clear hN;have b0:=FQ.o;have g0:=kC.o;have o0:=jk.o;have b1:=b0.dO 0 (.string ⟨lV.toArray⟩);have g1:=g0.setCell (p:=⟨gc,0,none⟩) EO.o (.string ⟨lV.toArray⟩);have o1:=o0.xY b0 δ 0 (.string ⟨lV.toArray⟩);have b2:=b1.dO 1 (.slice A' qV.length k');have g2:=g1.setCell (p:=⟨gc,1,none⟩) EO.o (.slice A' qV.length k');have o2:=o1.xY b1 δ 1 (.slice A' qV.length k');have b3:=b2.dO 2 (.int .i64 Dx);have g3:=g2.setCell (p:=⟨gc,2,none⟩) EO.o (.int .i64 Dx);have o3:=o2.xY b2 δ 2 (.int .i64 Dx);have b4:=b3.dO 3 (.int .u32 (Dy:Int));have g4:=g3.setCell (p:=⟨gc,3,none⟩) EO.o (.int .u32 (Dy:Int));have o4:=o3.xY b3 δ 3 (.int .u32 (Dy:Int));have b5:=b4.dO 4 (.int .i64 Dz);have g5:=g4.setCell (p:=⟨gc,4,none⟩) EO.o (.int .i64 Dz);have o5:=o4.xY b4 δ 4 (.int .i64 Dz);have b6:=b5.dO 5 (.int .i64 Dw);have g6:=g5.setCell (p:=⟨gc,5,none⟩) EO.o (.int .i64 Dw);have o6:=o5.xY b5 δ 5 (.int .i64 Dw);have z0:=FQ.o.cell 0;have z1:=FQ.o.cell 1;have z2:=FQ.o.cell 2;have z3:=FQ.o.cell 3;have z4:=FQ.o.cell 4;have z5:=FQ.o.cell 5;have zf:=fun i=>FQ.o.frozen i
     have zl:=FQ.o.lt;unfold E_ at z0 z1 z2 z3 z4 z5;have hE:=ζ b6;have uX:=ζ g6;have AP:=ζ o6;clear b0 g0 b1 g1 b2 g2 b3 g3 b4 g4 b5 g5 b6 g6 o0 o1 o2 o3 o4 o5 o6;go_simp;refine hK.o _ _ ?_ (fun hS=> ?_)
     ·exact uX.o
     clear z0 z1 z2 z3 z4 z5 zf zl FQ kC;generalize ((((((wN.setCell ⟨gc,0,none⟩ (.string ⟨lV.toArray⟩)).setCell ⟨gc,1,none⟩ (.slice A' qV.length k')).setCell ⟨gc,2,none⟩ (.int .i64 Dx)).setCell ⟨gc,3,none⟩ (.int .u32 (Dy:Int))).setCell ⟨gc,4,none⟩ (.int .i64 Dz)).setCell ⟨gc,5,none⟩ (.int .i64 Dw))=w9 at *
     clear hK hS;refine rK [12] 0 ?_;iterate 1 refine aB ?_
     refine ay ?_;refine aP κ (fun wN hN hS=> ?_);try replace FQ:=ζ (FQ.o.grows hN)
     try replace jk:=ζ (jk.o.grows hN)
     try replace hE:=ζ (hE.o.grows hN)
     try replace AP:=ζ (AP.o.grows hN)
     try replace uX:=ζ (uX.o.trans hN)
     try replace kC:=ζ (kC.o.trans hN)
     have hG:=ζ (V4.o.trans uX.o);have hO:=ζ (MK.o.grows uX.o);have hC:Hid (aS wN gc 44 #[.string ⟨lV.toArray⟩,.slice A' qV.length k',.int .i64 Dx,.int .u32 (Dy:Int),.int .i64 Dz,.int .i64 Dw]):=hE;clear hE V4 MK uX hN hS EO q0 q1 q2 q3 q4 q5 qP a0 a1 a2 a3 a4 a5 m0 m1 mL as3 cC8;obtain⟨vA,vc,hov,-,-,-⟩:=hO.o.own.arr N7;subst hov;obtain⟨n,hn⟩:∃n,n = gs.length:=⟨_,rfl⟩;rw[←hn] at hO ⊢;replace hn:=ζ hn;obtain⟨b2,o2,x,O8,hs2,hxo,nK⟩:=(hq.o.o.keep hG.o).at_ hr;have p4:=(hP.o.grows hG.o).c4;have lP:=(hP.o.grows hG.o).lt;rw[O8] at p4;have r1:wN.cell? ⟨b2,o2+r * 6+1,none⟩=some (.slice x.bA x.bm x.bk):=nK 1 _ rfl;have hri:(r:Int)<(q.om:Int):=ω;have Md:=hq.o.oAt x (List.mem_of_getElem? hxo);have Hw:=ζ (KH hxo);obtain⟨A2,c2,wX,-,-,Uc⟩:=AP.o.arr JW;simp only[Value.slice.injEq] at wX;obtain⟨rfl,_,rfl⟩:=wX;have cP:=ζ (fun W (hW:ah wN W)=>VB (c:=k') (c2:=x.bk) W (Uc.keep hW) (by have:=r_.o.2.2.1;omega) (Md.iM.keep (hG.o.trans hW)) Md.Ve);rw[←Hw.o] at cP;have adi:Hid (∀f∈dV qV (bU q.dQ r),f.n.length+f.v.length≤1000):=ζ (fun f hf=>r_.o.2.2.2 f (List.mem_filter.1 hf).1);have hpl:Hid ((dV qV (bU q.dQ r)).length≤8):=ζ (Nat.le_trans (List.length_filter_le _ _) r_.o.2.2.1);generalize dV qV (bU q.dQ r)=pk at *
     have c1:=hC.o.c1;have lC:=hC.o.lt;clear O8 nK Md hxo Hw;go_wp2_with fail;refine bV (μ (.range 10) [8]) κ κ rfl κ π ?_;iterate 8 refine dX ?_
     refine iw rfl (fun K' hK=> ?_);go_simp;refine (cP.out _ γ).mono ?_;rintro e w10 ⟨v10,rfl,AX,aps⟩;obtain⟨A8,c8,rfl,hl8,hc8,Qe⟩:=AX.arr JW;have SC:ah wN w10:=by
      exact γ
     refine hK.o _ _ ?_ (fun hS=> ?_)
     ·exact γ
     clear hK hS;iterate 1 refine dX ?_
     refine gK ?_;replace hG:=ζ (hG.o.trans SC);replace hO:=ζ (hO.o.grows SC);replace hC:=ζ (hC.o.grows SC);replace AP:=ζ (AP.o.grows SC);replace AX:=ζ (AX.ig (Nat.zero_le _));replace Qe:=ζ Qe;obtain⟨m8,hm8⟩:∃m8,m8=pk.length:=⟨_,rfl⟩;rw[←hm8] at AX Qe hl8 ⊢;have avu:m8≤8:=by have:=hpl.o;omega
     clear SC aps cP p4 r1 c1 lP lC Uc hs2;have jU:=G5 (fb:=fb) (ft:=ft) (p:=q.dQ) (rec:=rec) (l:=xs.map (·.a)) (now:=now) r i (by rw[List.length_map,hA.o.1];omega);have hnD:n = D+(iF fb ft q.dQ rec ((xs.map (·.a)).take i) now r).length:=by rw[hn.o,←List.length_map (f:=bM.g),oQ.o,List.length_append,List.length_map,hD.o]
     have hdr:(gs.map bM.g).drop D=iF fb ft q.dQ rec ((xs.map (·.a)).take i) now r:=by rw[oQ.o,hD.o,←List.length_map (f:=bM.g),List.drop_left]
     have jc:n - D=(iF fb ft q.dQ rec ((xs.map (·.a)).take i) now r).length:=ω;have hnb:D≤n∧n≤D+i:=ω;generalize iF fb ft q.dQ rec ((xs.map (·.a)).take i) now r = RM at *
     replace jU:=ζ jU;replace hdr:=ζ hdr;replace jc:=ζ jc;replace hm8:=ζ hm8;clear hnD;go_wp2_with fail;refine Ro hO Qe ω hnb.1 π ?_;intros
     rename_i wz hz;obtain⟨rfl,qI⟩:=hz;replace hG:=ζ (hG.o.trans qI.o);replace hO:=ζ (hO.o.grows qI.o);replace hC:=ζ (hC.o.grows qI.o);replace AP:=ζ (AP.o.grows qI.o);replace AX:=ζ (AX.o.grows qI.o);replace Qe:=ζ (Qe.o.keep qI.o);rw[hdr.o,jc.o];have sW:Nc rec r pk (FH ⟨lV,qV,⟨Dx,Dy⟩,Dz,Dw⟩) RM=match rZ RM pk RM.length with
      | some k=>(match RM[k]? with
       | some g=>RM.set k {g with ids:=wV g.ids (FH ⟨lV,qV,⟨Dx,Dy⟩,Dz,Dw⟩)}
       | none=>RM)
      | none=>RM++[⟨r,pk,yK rec r pk,wV [] (FH ⟨lV,qV,⟨Dx,Dy⟩,Dz,Dw⟩)⟩]:=rfl
     rw[←pO.o,←hrt.o] at sW;obtain⟨A2,c2,wX,-,-,Uc⟩:=AP.o.arr JW;simp only[Value.slice.injEq] at wX;obtain⟨rfl,_,rfl⟩:=wX;clear pO hrt qI jc;cases Ik:rZ RM pk RM.length with
     | some k=>
      rw[Ik] at sW;obtain⟨hk1,hk2⟩:=Az Ik;obtain⟨g,hg1,hg2⟩:=Option.map_eq_some_iff.1 hk2;simp only[hg1] at sW;have hgk:(gs.map bM.g)[D+k]? = some g:=by rw[←hg1,←hdr.o,List.getElem?_drop]
      rw[List.getElem?_map] at hgk;obtain⟨y,Ls,hy2⟩:=Option.map_eq_some_iff.1 hgk;obtain⟨j,hj⟩:∃j,j = D+k:=⟨_,rfl⟩;have hav:atV D (some k)=(j:Int):=by rw[hj];rfl
      rw[hav];rw[←hj] at Ls;have aQ:(gs.set j ⟨y.r,y.key,y.iM,y.bA,y.bm,y.bk,wV y.ids (FH ⟨lV,qV,⟨Dx,Dy⟩,Dz,Dw⟩),none,0,0⟩).map bM.g = gs0.map bM.g ++iF fb ft q.dQ rec ((xs.map (·.a)).take (i + 1)) now r:=by
       rw[sW,List.map_set,oQ.o,hj,Qr (by rw[List.length_map];exact hD.o),←hy2];rfl
      have VY:y.ids.length≤1000:=by
       have:=jU.o.2 g (List.mem_of_getElem? hg1);rw[←hy2] at this;have h2:y.g.ids=y.ids:=rfl;rw[h2] at this;omega
      have Xw:j < n:=by rw[hn.o];exact (List.getElem?_eq_some_iff.1 Ls).1
      have ao0:¬(j:Int)<0:=ω;replace aQ:=ζ aQ;clear sW Ik hk1 hk2 hg1 hg2 hgk hy2 hav hj oQ jU hdr AX adi hpl hn;go_wp2_with fail;obtain⟨gb,cap,hv4⟩:=Ap hO.o.own (by have:=(List.getElem?_eq_some_iff.1 Ls).1;omega);simp only[Value.slice.injEq] at hv4;obtain⟨rfl,hnl,rfl⟩:=hv4;clear hnl;obtain⟨y',hy',hyc,hyf⟩:=hO.o.own.at_ N7 Xw;rw[Ls] at hy';injection hy' with hy'
      subst hy';obtain⟨adg,gcs,KR⟩:=hO.o.own.kY gb rfl;have g3:wz.cell? ⟨gb,j * 4+3,none⟩=some (.slice y.iA y.im y.ik):=hyc 3 _ rfl;have gL:=KR.lt;have KP:(j:Int)<(n:Int):=ω;have e0:=hC.o.c0;have e1:=hC.o.c1;have e2:=hC.o.c2;have e3:=hC.o.c3;have e4:=hC.o.c4;have e5:=hC.o.c5;have eL:=hC.o.lt;have cI:=ζ (fun W (hW:ah wz W)=>Qs (a:=⟨⟨lV,qV,⟨Dx,Dy⟩,Dz,Dw⟩,A',qV.length,k'⟩) W (Uc.keep hW) (by have:=r_.o.2.1;simp only;omega) (by have:=r_.o.2.2.1;simp only;omega) r_.o.2.2.2);have Xm:=hO.o.ids y (List.mem_of_getElem? Ls);unfold bM.iv at Xm;unfold jy at cI;simp only at cI;generalize FH ⟨lV,qV,⟨Dx,Dy⟩,Dz,Dw⟩=ID at *
      have cU:=ζ (fun W (hW:ah wz W)=>LZ (id:=ID) W (Xm.grows hW) VY);have kC:=ζ (ah.refl wz);clear hyc Xm;refine aJ κ ?_;refine rK (.range 9) 4 ?_;iterate 8 refine aB ?_
      refine bJ (.int .u64 (ID:Int)) rfl χ (fun wq gY=> ?_) ?_
      ·obtain⟨qB,rE⟩:=bW gY;go_simp;exact Calls.mono (cI.out wq gY) (fun e w'' h=>h)
      go_simp;refine ay ?_;refine aY [9] κ σ (fun wN hN hS=>(aK.cons rfl (fun K' hK=> ?_) aK.nil));try replace kC:=ζ (kC.o.trans hN)
      try replace oC:=ζ (oC.o.grows hN)
      clear hN;go_simp;refine (cU.out _ kC.o).mono ?_;rintro e w13 ⟨v13,rfl,oC,S_⟩;replace oC:=ζ oC;obtain⟨A13,m13,c13,rfl⟩:∃A m c,v13=.slice A m c:=by
       rcases oC.o with⟨_,h⟩ | ⟨_,_,_,h,_⟩ <;> exact⟨_,_,_,h⟩
      replace kC:=ζ (kC.o.trans S_);refine hK.o _ _ ?_ (fun hS=> ?_)
      ·exact kC.o
      clear S_;clear hK hS;refine rK [10,11] 1 ?_;iterate 2 refine aB ?_
      refine ay ?_;refine dI (i:=12) rfl κ κ (fun wN hN hS K' hK=> ?_);try replace kC:=ζ (kC.o.trans hN)
      try replace oC:=ζ (oC.o.grows hN)
      clear hS;have hON:=ζ (hO.o.grows kC.o);have rcN:wN.cell? ⟨gb,j * 4+3,none⟩=some (.slice y.iA y.im y.ik):=kC.o.cell g3;have Z4:=KR.grows kC.o;have rfN:wN.frozen? ⟨gb,j * 4+3,none⟩=false:=Z4.frozen _;have Rn:=Z4.lt;go_simp;refine hK.o _ _ ?_;clear hK;have SH:=(Nr.upd (x':=⟨y.r,y.key,y.iM,y.bA,y.bm,y.bk,wV y.ids ID,A13,m13,c13⟩) hON.o Ls rfl ⟨rfl,rfl⟩ oC.o).1;have hGN:=ζ ((hG.o.trans kC.o).setCell (p:=⟨gb,j * 4+3,none⟩) adg (.slice A13 m13 c13));replace SH:=ζ SH;clear hON oC kC hC AP hO hG g3 gL e0 e1 e2 e3 e4 e5 eL cI cU Uc rcN rfN Rn Z4 KR Qe;go_wp2;go_roundw
      case rel=>exact⟨i + 1,_,ω,ν,SH,ζ (by rw[←aQ.o,List.map_set,List.map_set];rfl),hGN⟩
      case measure=>exact ψ
     | none=>
      rw[Ik] at sW;simp only at sW;have hav:atV D none=-1:=rfl;rw[hav];obtain⟨ky,hky⟩:∃ky,ky=yK rec r pk:=⟨_,rfl⟩;rw[←hky] at sW;have cY:=ζ (Zj (R:=rec) (c:=c8) (a:=(r:Int)) wz Qe.o (by have:=r_.o.1;omega) ω adi.o);rw[show iG (P6 (fE rec (r:Int) pk)) 8=ky from hky.symm] at cY;have yN:=gs.length;have hgn:(gs++[(⟨r,ky,pk,A8,m8,c8,[],none,0,0⟩:bM)])[n]? = some ⟨r,ky,pk,A8,m8,c8,[],none,0,0⟩:=by rw[hn.o];simp
      have aQ:Hid (((gs++[(⟨r,ky,pk,A8,m8,c8,[],none,0,0⟩:bM)]).set n ⟨r,ky,pk,A8,m8,c8,wV [] (FH ⟨lV,qV,⟨Dx,Dy⟩,Dz,Dw⟩),none,0,0⟩).map bM.g = gs0.map bM.g ++iF fb ft q.dQ rec ((xs.map (·.a)).take (i + 1)) now r):=ζ (by
       rw[sW,←List.append_assoc,←oQ.o,hn.o,show gs.length=gs.length+0 from rfl,Qr rfl];simp[bM.g])
      have MG:Hid (gs.length=n):=ζ hn.o.symm;clear sW Ik oQ jU hdr adi hpl hky hav yN;go_wp2_with fail;refine cY.out.mono ?_;rintro e Ir ⟨rfl,Ob⟩;replace hG:=ζ (hG.o.trans Ob);replace hO:=ζ (hO.o.grows Ob);replace hC:=ζ (hC.o.grows Ob);replace AP:=ζ (AP.o.grows Ob);replace AX:=ζ (AX.o.grows Ob);have hwb:=ζ hG.o.size;clear Ob cY Uc;go_wp2_with (at_builtin;go_loud ((refine dM (x:=(⟨r,ky,pk,A8,m8,c8,[],none,0,0⟩:bM)) atP rfl (.tmp 91) (.tmp 99) rfl (hO.o.own.alloc _) rfl ⟨Ir.heap.size,0,none⟩ rfl (N7 _) (h_ (by exact heap_alloc_new Ir _)) (amn _) (by have:=hwb.o;simp;omega) (by rw[MG.o];unfold maxLen;omega) (by rw[MG.o];omega) (fun v12 w12 akI hgr ES=> ?_));(have adw:=ζ (Nr.push (x:=(⟨r,ky,pk,A8,m8,c8,[],none,0,0⟩:bM)) (hO.o.grows ((ah.refl Ir).alloc (.cells #[.int .i64 (r:Int),.slice A8 m8 c8,.int .u64 (ky:Int),.slice none 0 0] 54))) (by have:=hwb.o;simp;omega) hgr akI (AX.o.alloc _) (Or.inl ⟨rfl,rfl⟩)));(have FP:=ζ ((hO.o.grows ((ah.refl Ir).alloc (.cells #[.int .i64 (r:Int),.slice A8 m8 c8,.int .u64 (ky:Int),.slice none 0 0] 54))).keep (by have:=hwb.o;simp;omega) hgr));(have Ip:=ζ ((hG.o.alloc (.cells #[.int .i64 (r:Int),.slice A8 m8 c8,.int .u64 (ky:Int),.slice none 0 0] 54)).bH hgr hO.o.own.eH));clear hgr ES akI));obtain⟨gb,cap,ac5⟩:=Ap adw.o.own (by rw[List.length_append,List.length_singleton];omega);rw[List.length_append,List.length_singleton,MG.o] at ac5;obtain⟨N,hN⟩:∃N,N=n + 1:=⟨_,rfl⟩;rw[←hN] at ac5;have Xw:n < N:=ω;subst ac5;have akH:=(AP.o.alloc (.cells #[.int .i64 (r:Int),.slice A8 m8 c8,.int .u64 (ky:Int),.slice none 0 0] 54)).tkq FP.o wH.1;obtain⟨A2,c2,wX,-,-,Uc⟩:=akH.arr JW;simp only[Value.slice.injEq] at wX;obtain⟨rfl,_,rfl⟩:=wX;have hC2:=ζ (FP.o.blk (hC.o.alloc (.cells #[.int .i64 (r:Int),.slice A8 m8 c8,.int .u64 (ky:Int),.slice none 0 0] 54)) δ);clear hO hC hG akH FP hN;have hO:=adw;have hC:=hC2;have hG:=Ip;clear adw hC2 Ip AX hwb;obtain⟨y,hy⟩:∃y,y = (⟨r,ky,pk,A8,m8,c8,[],none,0,0⟩:bM):=⟨_,rfl⟩;have ZY:Hid (((gs++[y]).set n ⟨y.r,y.key,y.iM,y.bA,y.bm,y.bk,wV y.ids (FH ⟨lV,qV,⟨Dx,Dy⟩,Dz,Dw⟩),none,0,0⟩).map bM.g = gs0.map bM.g ++iF fb ft q.dQ rec ((xs.map (·.a)).take (i + 1)) now r):=by rw[hy];exact aQ
      have VY:y.ids.length≤1000:=by rw[hy];exact Nat.zero_le _
      have hyv:(.slice y.iA y.im y.ik:Value)=.slice none 0 0:=by rw[hy]
      rw[←hy] at hgn hO;have Ls:=hgn;clear aQ hgn hy hyv MG hn;have aQ:=ZY;clear ZY;obtain⟨y',hy',hyc,hyf⟩:=hO.o.own.at_ N7 Xw;rw[Ls] at hy';injection hy' with hy'
      subst hy';obtain⟨adg,gcs,KR⟩:=hO.o.own.kY gb rfl;have g3:w12.cell? ⟨gb,n * 4+3,none⟩=some (.slice y.iA y.im y.ik):=hyc 3 _ rfl;have gL:=KR.lt;have KP:(n:Int)<(N:Int):=ω;have e0:=hC.o.c0;have e1:=hC.o.c1;have e2:=hC.o.c2;have e3:=hC.o.c3;have e4:=hC.o.c4;have e5:=hC.o.c5;have eL:=hC.o.lt;have cI:=ζ (fun W (hW:ah w12 W)=>Qs (a:=⟨⟨lV,qV,⟨Dx,Dy⟩,Dz,Dw⟩,A',qV.length,k'⟩) W (Uc.keep hW) (by have:=r_.o.2.1;simp only;omega) (by have:=r_.o.2.2.1;simp only;omega) r_.o.2.2.2);have Xm:=hO.o.ids y (List.mem_of_getElem? Ls);unfold bM.iv at Xm;unfold jy at cI;simp only at cI;generalize FH ⟨lV,qV,⟨Dx,Dy⟩,Dz,Dw⟩=ID at *
      have cU:=ζ (fun W (hW:ah w12 W)=>LZ (id:=ID) W (Xm.grows hW) VY);have kC:=ζ (ah.refl w12);clear hyc Xm;refine aJ κ ?_;refine rK (.range 9) 4 ?_;iterate 8 refine aB ?_
      refine bJ (.int .u64 (ID:Int)) rfl χ (fun wq gY=> ?_) ?_
      ·obtain⟨qB,rE⟩:=bW gY;go_simp;exact Calls.mono (cI.out wq gY) (fun e w'' h=>h)
      go_simp;refine ay ?_;refine aY [9] κ σ (fun wN hN hS=>(aK.cons rfl (fun K' hK=> ?_) aK.nil));try replace kC:=ζ (kC.o.trans hN)
      try replace oC:=ζ (oC.o.grows hN)
      clear hN;go_simp;refine (cU.out _ kC.o).mono ?_;rintro e w13 ⟨v13,rfl,oC,S_⟩;replace oC:=ζ oC;obtain⟨A13,m13,c13,rfl⟩:∃A m c,v13=.slice A m c:=by
       rcases oC.o with⟨_,h⟩ | ⟨_,_,_,h,_⟩ <;> exact⟨_,_,_,h⟩
      replace kC:=ζ (kC.o.trans S_);refine hK.o _ _ ?_ (fun hS=> ?_)
      ·exact kC.o
      clear S_;clear hK hS;refine rK [10,11] 1 ?_;iterate 2 refine aB ?_
      refine ay ?_;refine dI (i:=12) rfl κ κ (fun wN hN hS K' hK=> ?_);try replace kC:=ζ (kC.o.trans hN)
      try replace oC:=ζ (oC.o.grows hN)
      clear hS;have hON:=ζ (hO.o.grows kC.o);have rcN:wN.cell? ⟨gb,n * 4+3,none⟩=some (.slice y.iA y.im y.ik):=kC.o.cell g3;have Z4:=KR.grows kC.o;have rfN:wN.frozen? ⟨gb,n * 4+3,none⟩=false:=Z4.frozen _;have Rn:=Z4.lt;go_simp;refine hK.o _ _ ?_;clear hK;have SH:=(Nr.upd (x':=⟨y.r,y.key,y.iM,y.bA,y.bm,y.bk,wV y.ids ID,A13,m13,c13⟩) hON.o Ls rfl ⟨rfl,rfl⟩ oC.o).1;have hGN:=ζ ((hG.o.trans kC.o).setCell (p:=⟨gb,n * 4+3,none⟩) adg (.slice A13 m13 c13));replace SH:=ζ SH;clear hON oC kC hC AP hO hG g3 gL e0 e1 e2 e3 e4 e5 eL cI cU Uc rcN rfN Rn Z4 KR Qe;go_wp2;go_roundw
      case rel=>exact⟨i + 1,_,ω,ν,SH,ζ (by rw[←aQ.o,List.map_set,List.map_set];rfl),hGN⟩
      case measure=>exact ψ
   ·have hgb:=decide_eq_false hgo;have hno:=ζ (Ol (gs:=iF fb ft q.dQ rec ((xs.map (·.a)).take i) now r) hgo);generalize uJ fb ft q.dQ rec a.a now=GO at *
    clear hgo hcell hx hax;go_wp2_with fail;refine bV (μ [0,1,2,3,4,5,6,8,7,9,10] [7,9]) κ κ rfl κ π ?_;iterate 8 refine dX ?_
    refine iw rfl (fun K' hK=> ?_);go_simp;refine (cG.out _ (by
     have hG:=hG.o;exact γ
    )).mono ?_
    rintro e w7 ⟨v7,rfl,ML,hb7⟩;obtain⟨A8,c8,rfl,hl8,hc8,Qe⟩:=ML.arr JV;have hw7:ah wr w7:=by
     exact γ
    unfold maxLen at hc8;refine hK.o _ _ ?_ (fun hS=> ?_)
    ·exact γ
    clear hK hS;refine iw rfl (fun K' hK=> ?_);go_simp;refine (Y7 _ (Qe.keep γ) ω).mono ?_;rw[hgb];rintro e w8 ⟨rfl,Z5⟩;have Qz:ah wr w8:=hw7.trans Z5;refine hK.o _ _ ?_ (fun hS=> ?_)
    ·exact γ
    clear hK hS;iterate 1 refine dX ?_
    refine gK ?_;have hg8:Hid (ah wr w8):=ζ Qz;clear Qe hw7 ML Qz;go_wp2;go_roundw
    case rel=>exact⟨i + 1,gs,ω,ν,ζ (hO.o.grows hg8.o),ζ (by rw[hrt.o,hno.o];exact oQ.o),ζ (hG.o.trans hg8.o)⟩
    case measure=>exact ψ
  ·have hii:¬(i:Int)<(lm:Int):=ω;obtain rfl:i = lm:=ω;have hte:(xs.map (·.a)).take i = xs.map (·.a):=List.take_of_length_le (by rw[List.length_map,hA.o.1];exact Nat.le_refl _);have agK:Hid (gs.map bM.g = gs0.map bM.g ++iF fb ft q.dQ rec (xs.map (·.a)) now r):=ζ (by rw[oQ.o,hte]);clear oQ hte;go_wp2;exact⟨gs,hO,agK⟩
theorem Y8 {fb:jq→Bool} {ft:List eu→jq→Bool} {q:dU} {rec:List UInt8} {lA:Option Addr} {lm lk:Nat} {xs:List iI} {now:Int} (w:World) (hq:q.At w) (Dq:xE fb q) (O_:Bd ft q)
 (hA:dH w 6 FV lA lm xs) (hat:∀a∈xs,a.At w) (P_:∀a∈xs,OC a.a) (hlm:lm≤1000) (QA:q.om≤100) :
 Calls Tryz.prog 11 #[q.val,.string ⟨rec.toArray⟩,.slice lA lm lk,.int .i64 now] w fun e w'=>∃v,e =.returned v∧∃gs,Nr w' w.heap.size v gs∧gs.map bM.g = Du fb ft q.dQ rec (xs.map (·.a)) now∧ah w w':=by
 rw[←aad,←adD];have jU:q.dQ.routes.length=q.om:=by rw[show q.dQ.routes=q.o.map (·.r) from rfl,List.length_map];exact hq.o.1
 rw[jU];have cN:=ζ (fun W (hW:ah w W)=>Jo (c:=q.r.k) (n:=rec) W (hq.r.arr.keep hW) hq.r.le);have NY:∀to,gG q.r.l rec=some to→to.ok:=fun to h=>by
  obtain⟨x,hx,_,e⟩:=Ou h;rw[←e];exact hq.r.Yu x hx
 have TW:∀to,gG q.dQ.receivers rec=some to→to=AA (gG q.r.l rec)∧to.ok:=fun to h=>⟨by rw[show gG q.r.l rec=some to from h];rfl,NY to h⟩
 generalize I4:AA (gG q.r.l rec)=to0 at TW;have hP:=ζ (aS.new w 26 (EM q));have hG:=ζ ((ah.refl w).alloc (.cells (EM q) 26));unfold EM at hP hG;replace TW:=ζ TW;replace jU:=ζ jU;clear NY;unfold dU.val;go_enter Tryz.func11,Tryz.ntmps11
 go_wp2_with fail;refine (cN.out _ hG.o).mono ?_;rw[I4];rintro e w2 ⟨rfl,hb⟩;replace hP:=ζ (hP.o.grows hb);replace hG:=ζ (hG.o.trans hb);generalize w.alloc (.cells #[.slice q.s.A q.s.m q.s.k,.slice q.r.A q.r.m q.r.k,.slice q.e.A q.e.m q.e.k,.slice q.a.A q.a.m q.a.k,.slice q.oA q.om q.ok,.slice q.iA q.im q.ik] 26)=w1 at *
 clear hb cN;go_wp2_with fail;have hL:=ζ (aS.new w2 40 #[.int .i64 to0.lv,.int .u32 (to0.c:Int)]);replace hP:=ζ (hP.o.alloc (.cells #[.int .i64 to0.lv,.int .u32 (to0.c:Int)] 40));replace hG:=ζ (hG.o.alloc (.cells #[.int .i64 to0.lv,.int .u32 (to0.c:Int)] 40));generalize w2.alloc (.cells #[.int .i64 to0.lv,.int .u32 (to0.c:Int)] 40)=w3 at *
 generalize w2.heap.size=gl at *
 have hq3:=ζ (hq.keep hG.o);have E8:=ζ (hA.keep hG.o);have av6:=ζ (fun a ha=>(hat a ha).keep hG.o);have hsz:=ζ hG.o.size;replace Dq:=ζ Dq;replace O_:=ζ O_;replace P_:=ζ P_;have yL:=ζ hA.1;clear hq hA hat I4;obtain⟨gp,hgp⟩:∃gp,gp=w.heap.size:=⟨_,rfl⟩;rw[←hgp] at hP ⊢;replace hgp:=ζ hgp;go_loopw [9,12,13,14,15,16,17,18,19] (fun ov rv _ _ _ _ _ _ _ wr=>∃(r:Nat) (gs:List bM),r≤q.om∧rv=.int .i64 (r:Int)∧Hid (Nr wr w3.heap.size ov gs)∧Hid (gs.map bM.g = I9 fb ft q.dQ rec (xs.map (·.a)) now r)∧Hid (ah w3 wr)) (fun _ rv _ _ _ _ _ _ _ _=>q.om-(intOf rv).toNat)
 case atStart=>exact⟨0,[],Nat.zero_le _,rfl,ζ (Nr.iH _ _),ζ rfl,ζ (ah.refl _)⟩
 case round=>
  obtain⟨r,gs,hr,rfl,hO,oQ,hg3⟩:=hrel;have p4:=(hP.o.grows hg3.o).cell 4;have lP:=(hP.o.grows hg3.o).lt;simp only[List.getElem?_toArray,List.getElem?_cons_zero,List.getElem?_cons_succ] at p4;obtain⟨vA,vc,hov,-,-,-⟩:=hO.o.own.arr N7;subst hov;by_cases hro:r < q.om
  ·have hri:(r:Int)<(q.om:Int):=ω;have hdl:gs.length≤100000:=by
    have h1:=adC (fb:=fb) (ft:=ft) (p:=q.dQ) (rec:=rec) (l:=xs.map (·.a)) (now:=now) r;rw[←oQ.o,List.length_map,List.length_map,yL.o] at h1;have h2:r * lm≤100*1000:=Nat.mul_le_mul ω hlm;omega
   have hsu:=Pj (fb:=fb) (ft:=ft) (p:=q.dQ) (rec:=rec) (l:=xs.map (·.a)) (now:=now) r;rw[←oQ.o] at hsu;replace hsu:=ζ hsu;go_wp2_with fail;refine aco hq3 Dq O_ E8 av6 P_ hP hL TW hg3 hO (ζ rfl) hdl hlm hro π ?_;intros
   rename_i wz hz;obtain⟨gs2,pY,agK,qI⟩:=hz;go_wp2;go_roundw
   case rel=>exact⟨r + 1,gs2,ω,ν,pY,ζ (by rw[agK.o,hsu.o]),qI⟩
   case measure=>exact ψ
  ·have hri:¬(r:Int)<(q.om:Int):=ω;obtain rfl:r = q.om:=ω;go_wp2;go_ret;exact⟨_,rfl,gs,⟨hO.o.own.ig hsz.o,hO.o.fs,hO.o.ids⟩,oQ.o,hG.o.trans hg3.o⟩
end Go.Proofs.YteojanlajhebhaaGreatDoor
namespace Go.Proofs.YteojanlajhebhaaGreatDoor
def fQ:List UInt8:=[112,97,103,101,114]
def wR:List UInt8:=[116,101,97,109]
def LC:List UInt8:=[104,111,115,116]
def Iz:List UInt8:=[112,114,111,109]
def Ns (b:UInt8):Jj:=⟨Iz,[⟨LC,[b]⟩,⟨wR,[116]⟩],⟨0,0⟩,0,0⟩
def Kr:HY:=⟨[],[⟨fQ,⟨3,0⟩⟩],[],[],[⟨fQ,[wR],0,1,1,[]⟩],[]⟩
def fT:jq→Bool:=fun _=>true
def fTT:List eu→jq→Bool:=fun _ _=>true
theorem ad7:jJ fT Kr=0:=δ
theorem ad6:jH Kr fQ (Ns 49) 0=some (Ns 49):=by kernel_rfl
theorem al9:jH Kr fQ (Ns 50) 0=some (Ns 50):=by kernel_rfl
theorem aa0 (b:UInt8):qR fTT Kr fQ (Ns b).fs=[0]:=rfl
theorem aqU:FH (Ns 49)≠FH (Ns 50):=by decide +kernel
def QJ:List eu:=[⟨wR,[116]⟩]
theorem ahw {a b:Nat} (h:a≠b):(iU (iU [] a) b).length=2:=by
 have h1:iU [] a = [a]:=by simp[iU,putAt,rX]
 rw[h1];unfold iU;rw[if_neg (by simpa using Ne.symm h),vJ (Jq _ _)];rfl
theorem al8 (id ky:Nat) (hk:yK fQ 0 QJ=ky):stepG fQ id (Ns 49).fs (bU Kr) ⟨[[]],[]⟩ 0=⟨[[⟨0,QJ,ky,iU [] id⟩]],[(eU 0 QJ,0)]⟩:=by
 have hp:dV (Ns 49).fs (bU Kr 0)=QJ:=by kernel_rfl
 unfold stepG;rw[hp,hk];rfl
theorem al7 (id ky:Nat) (l:List Nat):stepG fQ id (Ns 50).fs (bU Kr) ⟨[[⟨0,QJ,ky,l⟩]],[(eU 0 QJ,0)]⟩ 0=⟨[[⟨0,QJ,ky,iU l id⟩]],[(eU 0 QJ,0)]⟩:=by
 have hp:dV (Ns 50).fs (bU Kr 0)=QJ:=by kernel_rfl
 unfold stepG;rw[hp];have hl:oO [(eU 0 QJ,0)] (eU 0 QJ)=some 0:=by simp[oO]
 rw[hl];rfl
theorem ah5:∃ids,Du fT fTT Kr fQ [Ns 49,Ns 50] 0=[⟨0,QJ,yK fQ 0 QJ,ids⟩]∧ids.length=2:=by
 have h2:=ahw aqU;refine⟨iU (iU [] (FH (Ns 49))) (FH (Ns 50)),?_,h2⟩;have s1:=al8 (FH (Ns 49)) _ rfl;have s2:=al7 (FH (Ns 50)) (yK fQ 0 QJ) (iU [] (FH (Ns 49)));unfold Du;rw[if_pos ad7];unfold uI;have a1:oH fTT Kr fQ 0 ⟨[[]],[]⟩ (Ns 49)=stepG fQ (FH (Ns 49)) (Ns 49).fs (bU Kr) ⟨[[]],[]⟩ 0:=by
  unfold oH;rw[ad6];simp only;rw[aa0];rfl
 have a2:∀st,oH fTT Kr fQ 0 st (Ns 50)=stepG fQ (FH (Ns 50)) (Ns 50).fs (bU Kr) st 0:=by
  intro st;unfold oH;rw[al9];simp only;rw[aa0];rfl
 rw[List.foldl_cons,List.foldl_cons,List.foldl_nil];rw[show (⟨List.replicate Kr.routes.length [],[]⟩:Qq)=⟨[[]],[]⟩ from rfl,a1,s1,a2,s2];rfl
theorem aox:uJ fT fTT Kr fQ (Ns 49) 0=[0]:=by
 unfold uJ;rw[ad6];simp only;rw[if_pos ad7,aa0]
end Go.Proofs.YteojanlajhebhaaGreatDoor
