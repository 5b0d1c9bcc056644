/- Parts: RefB RefC RefD RefE RefF RefG RefH -/
import Derived.Test.YteojanlajhebhaaGreatDoorGs0
import Derived.Deep.WholeRow
import Derived.Test.YteojanlajhebhaaGreatDoorGs18
import Derived.Test.YteojanlajhebhaaGreatDoorGs14
set_option maxRecDepth 100000
set_option maxHeartbeats 12800000
namespace Go.Proofs.YteojanlajhebhaaGreatDoor
open Go.RowKit
def Wy (f:Nat→Bool):List Value:=(List.range 256).map fun i=> .bool (f i)
def au (k:Nat) (f:Nat→Bool) (kv:Value):Array Value:=(.int .i64 (k:Int)::(Wy f ++[kv])).toArray
theorem Jz (f:Nat→Bool):(Wy f).length=256:=by simp[Wy]
theorem aN (k:Nat) (f:Nat→Bool) (kv:Value):(au k f kv).size=258:=by simp[au,Jz]
theorem mJ (k:Nat) (f:Nat→Bool) (kv:Value):(au k f kv)[0]? = some (.int .i64 (k:Int)):=by simp[au]
theorem je {k:Nat} {f:Nat→Bool} {kv:Value} {i:Nat} (hi:i < 256):(au k f kv)[1+i]? = some (.bool (f i)):=by
 unfold au;rw[List.getElem?_toArray,Nat.add_comm,List.getElem?_cons_succ,List.getElem?_append_left (by rw[Jz];exact hi)];simp[Wy,hi]
theorem dW (k:Nat) (f:Nat→Bool) (kv:Value):(au k f kv)[257]? = some kv:=by
 unfold au;rw[List.getElem?_toArray,show (257:Nat)=256+1 from rfl,List.getElem?_cons_succ,List.getElem?_append_right (by rw[Jz];exact Nat.le_refl _),Jz];rfl
theorem iP {k:Nat} {f g:Nat→Bool} {kv:Value} (h:∀c,c < 256→f c = g c):au k f kv=au k g kv:=by
 unfold au Wy;congr 3
 exact List.map_congr_left fun i hi=>by rw[h i (List.mem_range.1 hi)]
theorem agf {k:Nat} {f:Nat→Bool} {kv:Value} {i:Nat} {b:Bool} (hi:i < 256):(au k f kv).setIfInBounds (1+i) (.bool b)=au k (fun c=>if c = i then b else f c) kv:=by
 apply Array.ext_getElem?;intro j;rw[Array.getElem?_setIfInBounds];by_cases hj:1+i = j
 ·subst hj;rw[if_pos rfl,if_pos (by rw[aN];omega),je hi,if_pos rfl]
 ·rw[if_neg hj];rcases Nat.lt_or_ge j 258 with h | h
  ·rcases Nat.eq_zero_or_pos j with rfl | h0
   ·rw[mJ,mJ]
   ·obtain⟨m,rfl⟩:∃m,j = 1+m:=⟨j - 1,ω⟩;rcases Nat.lt_or_ge m 256 with hm | hm
    ·rw[je hm,je hm,if_neg ω]
    ·obtain rfl:m = 256:=ω;rw[show 1+256=257 from rfl,dW,dW]
  ·rw[Array.getElem?_eq_none (by rw[aN];exact h),Array.getElem?_eq_none (by rw[aN];exact h)]
def aI:Value:=.slice none 0 0
theorem bT {k:Nat} {f:Nat→Bool} {kv:Value} (h:kv.oneCell'=true):(au k f kv).all (·.oneCell')=true:=by
 rw[Array.all_eq_true_iff_forall_mem];intro x hx;unfold au at hx;rw[List.mem_toArray] at hx;rcases List.mem_cons.1 hx with rfl | hx
 ·rfl
 ·rcases List.mem_append.1 hx with hx | hx
  ·unfold Wy at hx;obtain⟨i,_,rfl⟩:=List.mem_map.1 hx;rfl
  ·rw[List.mem_singleton.1 hx];exact h
abbrev dZ (w:World) (g k:Nat) (f:Nat→Bool) (kv:Value):Prop:=aS w g 149 (au k f kv)
theorem dZ.bit {w:World} {g k:Nat} {f:Nat→Bool} {kv:Value} (h:dZ w g k f kv) {i:Nat} (hi:i < 256) (b:Bool):dZ (w.setCell ⟨g,1+i,none⟩ (.bool b)) g k (fun c=>if c = i then b else f c) kv:=by
 have:=aS.dO h (1+i) (.bool b);rwa [agf hi] at this
def upTo (f:Nat→Bool) (lo j:Nat):Nat→Bool:=fun c=>f c ||(decide (lo≤c)&&decide (c < j))
theorem y9 {gn k lo hi:Nat} {f:Nat→Bool} {kv:Value} {wS:World} {Q0:Exit→Act→World→Prop} {x0 x1 x2 x4 x5 x6 x7 x8 x9 JA JQ Df yZ xX CJ Ad Ac yE xW xU xR xQ xI xH xG xP xO yD yY yX yV yU yT Aa z_ zZ zY zX zW zV zU zT zS zQ zO zN zM zL zK zJ zI Dc C_ CG zH Cb B_ BZ BX BU BR BP BN BM BK zG zF zD zC zB BJ BH BG BF BD BA Bz Bv Bq CB Cm Cj Ci Ce zA zy zx zu zq zo C9 CZ Bo Bl zn Bj Bh kS kR kQ kP kN kM mF mD mg lZ mV mQ nX ny ql qj qh qg qc pI pG pF pq o_ o9 oZ oW rP rO rM rJ rH rG qX qJ:Value}
 (hN:Hid (dZ wS gn k f kv)) (I4:lo<256) (Iu:hi<256)
 (U_:∀c a d v w,Q0 (.panic c) (Act.put a d v) w→Q0 (.panic c) a w)
 (tY:∀(u12 Fe Fb H6 JG JF JE JD JC JB:Value) (wr:World),(Hid (dZ wr gn k (Jg f lo hi) kv)∧Hid (wS.grownBy wr (some gn)))→Q0 (.exit 2) ⟨(x0::x1::x2::(.pointer (some ⟨gn,0,none⟩))::x4::x5::x6::x7::x8::x9::JA::(.int .u8 (hi:Int))::u12::JQ::Df::yZ::xX::CJ::Ad::Ac::yE::xW::xU::xR::xQ::xI::xH::xG::xP::xO::yD::yY::yX::yV::yU::yT::Aa::z_::zZ::zY::zX::zW::zV::zU::zT::zS::zQ::zO::zN::zM::zL::zK::zJ::zI::Dc::C_::CG::zH::Cb::B_::BZ::BX::BU::BR::BP::BN::BM::BK::zG::zF::zD::zC::zB::BJ::BH::BG::BF::BD::BA::Bz::Bv::Bq::CB::Cm::Cj::Ci::Ce::zA::zy::zx::zu::zq::zo::C9::CZ::Bo::Bl::zn::Bj::Bh::kS::kR::kQ::kP::kN::kM::mF::mD::mg::lZ::Fe::Fb::H6::JG::JF::JE::JD::JC::JB::pI::pG::pF::pq::o_::o9::oZ::oW::rP::rO::rM::rJ::rH::rG::qX::qJ::[]).toArray,[]⟩ wr) :
 Code.wp Tryz.prog (Gy Tryz.f172 1) Q0 ⟨(x0::x1::x2::(.pointer (some ⟨gn,0,none⟩))::x4::x5::x6::x7::x8::x9::JA::(.int .u8 (hi:Int))::(.int .i64 (lo:Int))::JQ::Df::yZ::xX::CJ::Ad::Ac::yE::xW::xU::xR::xQ::xI::xH::xG::xP::xO::yD::yY::yX::yV::yU::yT::Aa::z_::zZ::zY::zX::zW::zV::zU::zT::zS::zQ::zO::zN::zM::zL::zK::zJ::zI::Dc::C_::CG::zH::Cb::B_::BZ::BX::BU::BR::BP::BN::BM::BK::zG::zF::zD::zC::zB::BJ::BH::BG::BF::BD::BA::Bz::Bv::Bq::CB::Cm::Cj::Ci::Ce::zA::zy::zx::zu::zq::zo::C9::CZ::Bo::Bl::zn::Bj::Bh::kS::kR::kQ::kP::kN::kM::mF::mD::mg::lZ::mV::mQ::nX::ny::ql::qj::qh::qg::qc::pI::pG::pF::pq::o_::o9::oZ::oW::rP::rO::rM::rJ::rH::rG::qX::qJ::[]).toArray,[]⟩ wS:=by
 conv=>arg 2;whnf
 have _h0:=U_;clear _h0;go_loopw [12] (fun jv wr2=>∃j:Nat,lo≤j∧j≤256∧(lo≤hi→j≤hi+1)∧(hi<lo→j = lo)∧jv=.int .i64 (j:Int)∧Hid (dZ wr2 gn k (upTo f lo j) kv)∧Hid (wS.grownBy wr2 (some gn))) (fun jv _=>256-(intOf jv).toNat)
 case atStart=>exact⟨lo,Nat.le_refl _,ω,ω,fun _=>rfl,rfl,ζ (by
  have e:au k (upTo f lo lo) kv=au k f kv:=iP fun c _=>by
   unfold upTo;by_cases h:lo≤c
   ·rw[decide_eq_false (show ¬c < lo by omega)];simp
   ·rw[decide_eq_false h];simp
  rw[dZ,e];exact hN.o),ζ (World.grownBy.refl _ _)⟩
 case round=>
  clear hN;obtain⟨j,hj1,hj2,hj3,hj4,rfl,hN,hG⟩:=hrel;by_cases hjh:j≤hi
  ·have KP:(j:Int)≤(hi:Int):=ω;have anZ:(j:Int)<256:=ω;have c1:wr.cell? ⟨gn,1+j,none⟩=some (.bool (upTo f lo j j)):=(hN.o.cell (1+j)).trans (je ω);have f1:=hN.o.frozen (1+j);have hl:=hN.o.lt;have hN2:Hid (dZ (wr.setCell ⟨gn,1+j,none⟩ (.bool true)) gn k (upTo f lo (j + 1)) kv):=ζ (by
    have h:=hN.o.bit (show j < 256 by omega) true;have e:au k (fun c=>if c = j then true else upTo f lo j c) kv=au k (upTo f lo (j + 1)) kv:=iP fun c _=>by
     unfold upTo;by_cases h:c = j
     ·subst h;rw[if_pos rfl,decide_eq_true hj1,decide_eq_true ω];simp
     ·rw[if_neg h];congr 2
      by_cases h2:c < j
      ·rw[decide_eq_true h2,decide_eq_true ω]
      ·rw[decide_eq_false h2,decide_eq_false ω]
    rw[dZ,←e];exact h)
   have iC:=ζ (hG.o.trans (aj wr ⟨gn,1+j,none⟩ (.bool true)));clear hN hG;go_wp2;go_roundw
   case rel=>exact⟨j + 1,ω,ω,ω,ω,ν,hN2,iC⟩
   case measure=>exact ψ
  ·have KP:¬(j:Int)≤(hi:Int):=ω;have hN2:Hid (dZ wr gn k (Jg f lo hi) kv):=ζ (by
    have e:au k (upTo f lo j) kv=au k (Jg f lo hi) kv:=iP fun c _=>by
     unfold upTo Jg;congr 1
     by_cases h:lo≤c
     ·rw[decide_eq_true h,Bool.true_and,Bool.true_and];by_cases h2:c < j
      ·rw[decide_eq_true h2,decide_eq_true ω]
      ·rw[decide_eq_false h2,decide_eq_false ω]
     ·rw[decide_eq_false h,Bool.false_and,Bool.false_and]
    rw[dZ,←e];exact hN.o)
   clear hN;go_wp2
def vG (neg:Bool) (f:Nat→Bool) (j:Nat):Nat→Bool:=fun c=>if neg=true∧c < j then !f c else f c
def yG (neg:Bool) (f:Nat→Bool):Nat→Bool:=if neg=true then fun c=> !f c else f
theorem VI {gn k:Nat} {neg:Bool} {f:Nat→Bool} {kv:Value} {wS:World} {Q0:Exit→Act→World→Prop} {x0 x1 x2 x4 x5 x7 x8 x9 JA Hr F8 Df yZ xX CJ Ad Ac yE xW xU xR xQ xI xH xG xP xO yD yY yX yV yU yT Aa z_ zZ zY zX zW zV zU zT zS zQ zO zN zM zL zK zJ zI Dc C_ CG zH Cb B_ BZ BX BU BR BP BN BM BK zG zF zD zC zB BJ BH BG BF BD BA Bz Bv Bq CB Cm Cj Ci Ce zA zy zx zu zq zo C9 CZ Bo Bl zn Bj Bh kS kR kQ kP kN kM mF mD mg lZ mV mQ nX ny ql qj qh qg qc pI pG pF pq o_ o9 oZ oW rP rO rM rJ rH rG qX qJ:Value}
 (hN:Hid (dZ wS gn k f kv))
 (U_:∀c a d v w,Q0 (.panic c) (Act.put a d v) w→Q0 (.panic c) a w)
 (tY:∀(u13 PZ PY PX PW PV PU PS PN UW UU UR UQ UO UN abG:Value) (wr:World),(Hid (dZ wr gn k (yG neg f) kv)∧Hid (wS.grownBy wr (some gn)))→Q0 (.exit 4) ⟨(x0::x1::x2::(.pointer (some ⟨gn,0,none⟩))::x4::x5::(.bool neg)::x7::x8::x9::JA::Hr::F8::u13::Df::yZ::xX::CJ::Ad::Ac::yE::xW::xU::xR::xQ::xI::xH::xG::xP::xO::yD::yY::yX::yV::yU::yT::Aa::z_::zZ::zY::zX::zW::zV::zU::zT::zS::zQ::zO::zN::zM::zL::zK::zJ::zI::Dc::C_::CG::zH::Cb::B_::BZ::BX::BU::BR::BP::BN::BM::BK::zG::zF::zD::zC::zB::BJ::BH::BG::BF::BD::BA::Bz::Bv::Bq::CB::Cm::Cj::Ci::Ce::zA::zy::zx::zu::zq::zo::C9::CZ::Bo::Bl::zn::Bj::Bh::kS::kR::kQ::kP::kN::kM::mF::mD::mg::lZ::mV::mQ::nX::ny::ql::qj::qh::qg::qc::PZ::PY::PX::PW::PV::PU::PS::PN::UW::UU::UR::UQ::UO::UN::abG::qJ::[]).toArray,[]⟩ wr) :
 Code.wp Tryz.prog (Gy Tryz.f172 2) Q0 ⟨(x0::x1::x2::(.pointer (some ⟨gn,0,none⟩))::x4::x5::(.bool neg)::x7::x8::x9::JA::Hr::F8::(.int .i64 0)::Df::yZ::xX::CJ::Ad::Ac::yE::xW::xU::xR::xQ::xI::xH::xG::xP::xO::yD::yY::yX::yV::yU::yT::Aa::z_::zZ::zY::zX::zW::zV::zU::zT::zS::zQ::zO::zN::zM::zL::zK::zJ::zI::Dc::C_::CG::zH::Cb::B_::BZ::BX::BU::BR::BP::BN::BM::BK::zG::zF::zD::zC::zB::BJ::BH::BG::BF::BD::BA::Bz::Bv::Bq::CB::Cm::Cj::Ci::Ce::zA::zy::zx::zu::zq::zo::C9::CZ::Bo::Bl::zn::Bj::Bh::kS::kR::kQ::kP::kN::kM::mF::mD::mg::lZ::mV::mQ::nX::ny::ql::qj::qh::qg::qc::pI::pG::pF::pq::o_::o9::oZ::oW::rP::rO::rM::rJ::rH::rG::qX::qJ::[]).toArray,[]⟩ wS:=by
 conv=>arg 2;whnf
 have _h0:=U_;clear _h0;go_loopw [13] (fun jv wr2=>∃j:Nat,j≤256∧jv=.int .i64 (j:Int)∧Hid (dZ wr2 gn k (vG neg f j) kv)∧Hid (wS.grownBy wr2 (some gn))) (fun jv _=>256-(intOf jv).toNat)
 case atStart=>exact⟨0,ω,rfl,ζ (by
  have e:au k (vG neg f 0) kv=au k f kv:=iP fun c _=>by
   unfold vG;rw[if_neg (fun h=>absurd h.2 (Nat.not_lt_zero _))]
  rw[dZ,e];exact hN.o),ζ (World.grownBy.refl _ _)⟩
 case round=>
  clear hN;obtain⟨j,hj1,rfl,hN,hG⟩:=hrel;cases neg with
  | false=>
   have hN2:Hid (dZ wr gn k (yG false f) kv):=ζ (by
    have e:au k (vG false f j) kv=au k (yG false f) kv:=iP fun c _=>by simp[vG,yG]
    rw[dZ,←e];exact hN.o)
   clear hN;by_cases hj:(j:Int)<256
   ·go_wp2;exact⟨hN2,hG⟩
   ·go_wp2
  | true=>
   by_cases hjh:j < 256
   ·have anZ:(j:Int)<256:=ω;have c1:wr.cell? ⟨gn,1+j,none⟩=some (.bool (f j)):=by
     have e:vG true f j j = f j:=by simp[vG]
     rw[←e];exact (hN.o.cell (1+j)).trans (je hjh)
    have f1:=hN.o.frozen (1+j);have hl:=hN.o.lt;have hN2:Hid (dZ (wr.setCell ⟨gn,1+j,none⟩ (.bool (!f j))) gn k (vG true f (j + 1)) kv):=ζ (by
     have h:=hN.o.bit hjh (!f j);have e:au k (fun c=>if c = j then !f j else vG true f j c) kv=au k (vG true f (j + 1)) kv:=iP fun c _=>by
      unfold vG;by_cases h:c = j
      ·subst h;rw[if_pos rfl,if_pos ⟨rfl,ω⟩]
      ·rw[if_neg h];by_cases h2:c < j
       ·rw[if_pos ⟨rfl,h2⟩,if_pos ⟨rfl,ω⟩]
       ·rw[if_neg (fun x=>h2 x.2),if_neg (fun x=>ω)]
     rw[dZ,←e];exact h)
    have iC:=ζ (hG.o.trans (aj wr ⟨gn,1+j,none⟩ (.bool (!f j))));clear hN hG;go_wp2;go_roundw
    case rel=>exact⟨j + 1,ω,ν,hN2,iC⟩
    case measure=>exact ψ
   ·have KP:¬(j:Int)<256:=ω;have hN2:Hid (dZ wr gn k (yG true f) kv):=ζ (by
     have e:au k (vG true f j) kv=au k (yG true f) kv:=iP fun c hc=>by
      unfold vG yG;rw[if_pos ⟨rfl,ω⟩,if_pos rfl]
     rw[dZ,←e];exact hN.o)
    clear hN;go_wp2
theorem XQ {s:List UInt8} {n:Nat} {first:Bool} {b:PB} {f:Nat→Bool} (hf:s.length≤n + b.at_):jR s n first b f = match kK s b with
 | none=>(aW 2 b,f)
 | some d=>
  if d = 93 then (if first=true then aW 2 (aH b) else aH b,f)
  else
   let r:=cZ s b
   let q:=dP s r
   jR s (n - 1) false (if q.2.toNat<r.2.toNat then aW 2 q.1 else q.1) (Jg f r.2.toNat q.2.toNat):=by
 cases n with
 | zero=>
  have e:kK s b = none:=by
   unfold kK;split
   ·exact List.getElem?_eq_none ω
   ·rfl
  rw[e];rfl
 | succ n=>rfl
theorem aS.but {w w':World} {g m:Nat} {t:TypeId} {cs:Array Value} (h:aS w g t cs) (hg:w.grownBy w' (some m)) (hne:g≠m):aS w' g t cs:=(hg.block _ h.lt (by simpa using hne)).trans h
theorem aek {w:World} {g:Nat} {s:List UInt8} {b:PB} (h:oV w g s b):w.cell? ⟨g,1,none⟩=some (.int .i64 (b.at_:Int)):=(h.cell 1).trans rfl
theorem acv {w:World} {g:Nat} {s:List UInt8} {b:PB} (h:oV w g s b):w.cell? ⟨g,0,none⟩=some (.string ⟨s.toArray⟩):=(h.cell 0).trans rfl
theorem aoD {s:List UInt8} {k:Nat} {e:UInt8} (he:s[k]? = some e):∀h:k<(⟨s.toArray⟩:ByteArray).size,(⟨s.toArray⟩:ByteArray)[k]'h = e:=fun h=>by
 show s.toArray[k]=e
 rw[List.getElem_toArray];exact (List.getElem?_eq_some_iff.1 he).2
theorem VJ {g gn g2 f0:Nat} {s:List UInt8} {b:PB} {neg:Bool} {f:Nat→Bool} {R:PB×(Nat→Bool)} {w0 w:World} {Q0:Exit→Act→World→Prop} {x1 x4 x5 x8 x9 JA Hr F8 JQ Df yZ xX CJ Ad Ac yE xW xU xR xQ xI xH xG xP xO yD yY yX yV yU yT Aa z_ zZ zY zX zW zV zU zT zS zQ zO zN zM zL zK zJ zI Dc C_ CG zH Cb B_ BZ BX BU BR BP BN BM BK zG zF zD zC zB BJ BH BG BF BD BA Bz Bv Bq CB Cm Cj Ci Ce zA zy zx zu zq zo C9 CZ Bo Bl zn Bj Bh kS kR kQ kP kN kM mF mD mg lZ mV mQ nX ny ql qj qh qg qc pI pG pF pq o_ o9 oZ oW rP rO rM rJ rH rG qX qJ:Value}
 (h0:Hid (oV w g s b)) (hF0:Hid (dZ w gn 0 f aI)) (aog:Hid (dZ w g2 0 aV aI)) (hFg:Hid (gn≠g)) (jE:Hid (g2≠g)) (hne:Hid (gn≠g2)) (ER:Hid (w0.heap.size≤gn)) (hb2:Hid (w0.heap.size≤g2)) (hG0:Hid (w0.grownBy w (some g))) (hf0:Hid (s.length≤f0+b.at_)) (hR:Hid (jR s f0 true b f = R)) (hW0:Hid (WP s 2 b)) (tX:s.length≤100)
 (U_:∀c a d v w,Q0 (.panic c) (Act.put a d v) w→Q0 (.panic c) a w)
 (tY:∀(u7 u8 u9 u10 u11 u12 u30 u31 u32 u33 u34 u35 u36 u37 u38 u39 u40 u41 u42 u43 u44 u45 u46 u47 u48 u49 u50 u51 u52 u53 u54 u55 u56 u57 Yt Yr Yq Yp Yo Yn u64 Ym Yl Yk u68 u69 u70 u71 u72 Yj Yi Yh Yg Yf Ye Yd Yc Yb Vq Vp Vo Vm Vl u87 u88 u89 u90 u91 u92 u93 Ya X_ X9 u97 X8 X7 Ih Ig Ie Ic Ib Ia H_ H9 H8 H7 Fe Fb H6 JG JF JE JD JC JB:Value) (wr:World),(Hid (oV wr g s R.1)∧Hid (dZ wr gn 0 R.2 aI)∧Hid (dZ wr g2 0 aV aI)∧Hid (w0.grownBy wr (some g)))→Q0 (.exit 0) ⟨((.pointer (some ⟨g,0,none⟩))::x1::(.pointer (some ⟨g2,0,none⟩))::(.pointer (some ⟨gn,0,none⟩))::x4::x5::(.bool neg)::u7::u8::u9::u10::u11::u12::JQ::Df::yZ::xX::CJ::Ad::Ac::yE::xW::xU::xR::xQ::xI::xH::xG::xP::xO::u30::u31::u32::u33::u34::u35::u36::u37::u38::u39::u40::u41::u42::u43::u44::u45::u46::u47::u48::u49::u50::u51::u52::u53::u54::u55::u56::u57::Yt::Yr::Yq::Yp::Yo::Yn::u64::Ym::Yl::Yk::u68::u69::u70::u71::u72::Yj::Yi::Yh::Yg::Yf::Ye::Yd::Yc::Yb::Vq::Vp::Vo::Vm::Vl::u87::u88::u89::u90::u91::u92::u93::Ya::X_::X9::u97::X8::X7::Ih::Ig::Ie::Ic::Ib::Ia::H_::H9::H8::H7::Fe::Fb::H6::JG::JF::JE::JD::JC::JB::pI::pG::pF::pq::o_::o9::oZ::oW::rP::rO::rM::rJ::rH::rG::qX::qJ::[]).toArray,[]⟩ wr)
 (ayO:∀(u7 u8 u9 u10 u11 u12 u30 u31 u32 u33 u34 u35 u36 u37 u38 u39 u40 u41 u42 u43 u44 u45 u46 u47 u48 u49 u50 u51 u52 u53 u54 u55 u56 u57 Yt Yr Yq Yp Yo Yn u64 Ym Yl Yk u68 u69 u70 u71 u72 Yj Yi Yh Yg Yf Ye Yd Yc Yb Vq Vp Vo Vm Vl u87 u88 u89 u90 u91 u92 u93 Ya X_ X9 u97 X8 X7 Ih Ig Ie Ic Ib Ia H_ H9 H8 H7 Fe Fb H6 JG JF JE JD JC JB:Value) (wr:World),(Hid (oV wr g s R.1)∧Hid (R.1.err≠0)∧(∃fz,Hid (dZ wr g2 0 fz aI))∧Hid (w0.grownBy wr (some g)))→Q0 .ret ⟨((.pointer (some ⟨g,0,none⟩))::x1::(.pointer (some ⟨g2,0,none⟩))::(.pointer (some ⟨gn,0,none⟩))::x4::x5::(.bool neg)::u7::u8::u9::u10::u11::u12::JQ::Df::yZ::xX::CJ::Ad::Ac::yE::xW::xU::xR::xQ::xI::xH::xG::xP::xO::u30::u31::u32::u33::u34::u35::u36::u37::u38::u39::u40::u41::u42::u43::u44::u45::u46::u47::u48::u49::u50::u51::u52::u53::u54::u55::u56::u57::Yt::Yr::Yq::Yp::Yo::Yn::u64::Ym::Yl::Yk::u68::u69::u70::u71::u72::Yj::Yi::Yh::Yg::Yf::Ye::Yd::Yc::Yb::Vq::Vp::Vo::Vm::Vl::u87::u88::u89::u90::u91::u92::u93::Ya::X_::X9::u97::X8::X7::Ih::Ig::Ie::Ic::Ib::Ia::H_::H9::H8::H7::Fe::Fb::H6::JG::JF::JE::JD::JC::JB::pI::pG::pF::pq::o_::o9::oZ::oW::rP::rO::rM::rJ::rH::rG::qX::qJ::[]).toArray,[]⟩ wr) :
 Code.wp Tryz.prog (Gy Tryz.f172 0) Q0 ⟨((.pointer (some ⟨g,0,none⟩))::x1::(.pointer (some ⟨g2,0,none⟩))::(.pointer (some ⟨gn,0,none⟩))::x4::x5::(.bool neg)::(.int .i64 0)::x8::x9::JA::Hr::F8::JQ::Df::yZ::xX::CJ::Ad::Ac::yE::xW::xU::xR::xQ::xI::xH::xG::xP::xO::yD::yY::yX::yV::yU::yT::Aa::z_::zZ::zY::zX::zW::zV::zU::zT::zS::zQ::zO::zN::zM::zL::zK::zJ::zI::Dc::C_::CG::zH::Cb::B_::BZ::BX::BU::BR::BP::BN::BM::BK::zG::zF::zD::zC::zB::BJ::BH::BG::BF::BD::BA::Bz::Bv::Bq::CB::Cm::Cj::Ci::Ce::zA::zy::zx::zu::zq::zo::C9::CZ::Bo::Bl::zn::Bj::Bh::kS::kR::kQ::kP::kN::kM::mF::mD::mg::lZ::mV::mQ::nX::ny::ql::qj::qh::qg::qc::pI::pG::pF::pq::o_::o9::oZ::oW::rP::rO::rM::rJ::rH::rG::qX::qJ::[]).toArray,[]⟩ w:=by
 conv=>arg 2;whnf
 go_loopw [7] (fun iv wr=>∃(n i:Nat) (bq:PB) (fq:Nat→Bool),iv=.int .i64 (i:Int)∧Hid (s.length≤n + bq.at_)∧Hid (jR s n (i ==0) bq fq=R)∧Hid (i≤bq.at_)∧Hid (WP s 2 bq)∧Hid (oV wr g s bq)∧Hid (dZ wr gn 0 fq aI)∧Hid (dZ wr g2 0 aV aI)∧Hid (w0.grownBy wr (some g))) (fun _ wr=>s.length+5-(match wr.cell? ⟨g,1,none⟩ with | some v=>(intOf v).toNat | none=>0))
 case atStart=>exact⟨f0,0,b,f,rfl,hf0,hR,ζ (Nat.zero_le _),hW0,h0,hF0,aog,hG0⟩
 case round=>
  obtain⟨n,i,bq,fq,rfl,hfu,iW,hi,hW,h,hF,aG,hG⟩:=hrel;clear hR h0 hF0 aog hG0 hf0 hW0;have hstep:=XQ (first:=i ==0) (f:=fq) hfu.o;rw[iW.o] at hstep;have FK:Hid (∀(w':World) (b':PB),oV w' g s b'→(match w'.cell? ⟨g,1,none⟩ with | some v=>(intOf v).toNat | none=>0)=b'.at_):=ζ (fun w' b' hh=>by
   have e:=aek hh;rw[e];simp[intOf])
  have nY:=ζ (FK.o _ _ h.o);go_wp2_with fail;refine (bP h.o).mono ?_;rintro e w1 ⟨rfl,bZ⟩;replace h:=ζ (h.o.grows bZ);replace hG:=ζ (hG.o.trans (bZ.keeps (some g)));(try replace hF:=ζ (hF.o.grows bZ))
  (try replace aG:=ζ (aG.o.grows bZ))
  clear bZ;cases hp:kK s bq with
  | none=>
   simp only[iV,hp];rw[hp] at hstep;replace hstep:=ζ hstep;clear hp;go_wp2_with fail;refine (jI h.o).mono ?_;rintro e w2 ⟨rfl,Z_,fG⟩;replace hG:=ζ (hG.o.trans fG);(try replace hF:=ζ (hF.o.but fG hFg.o))
   (try replace aG:=ζ (aG.o.but fG jE.o))
   replace h:=ζ Z_;clear Z_ fG;have hsz:=ζ (show (Tryz.prog.info? 149).map (·.size)=some (au 0 fq aI).size by rw[aN];kernel_rfl);have eP:=ζ (show (au 0 aV aI).size=(au 0 fq aI).size by rw[aN,aN]);have h1:=ζ (bT (k:=0) (f:=fq) (kv:=aI) rfl);have yh:=h.o.but (aF w2 g2 (au 0 fq aI)) (fun e=>jE.o e.symm);have jr:dZ (w2.setRow g2 (au 0 fq aI)) g2 0 fq aI:=setRow_heap _ _ _ _ _ _ aG.o;have CP:=hG.o.andThen (aF w2 g2 (au 0 fq aI)) (fun j e=>by injection e with e;subst e;exact .inl hb2.o);replace yh:=ζ yh;replace jr:=ζ jr;replace CP:=ζ CP;go_wp2_with (first | (refine wpList_load_row rfl 149 (.tmp 3) rfl gn rfl 149 (au 0 fq aI) (0,0) _ hF.o Tryz.underlying149 rfl hsz.o ?_) | (refine wpList_store_row rfl 149 (.tmp 2) (.tmp 41) rfl g2 (au 0 fq aI) rfl rfl 149 _ aG.o hsz.o eP.o h1.o ?_));rw[hstep.o];exact⟨yh,ζ (iQ δ _),⟨_,jr⟩,CP⟩
  | some d=>
   simp only[iV,hp];rw[hp] at hstep;have hlen:=ζ (dN hp).2.1;clear hp;by_cases hd:d = 93
   ·subst hd;simp only[if_true] at hstep;have ha:bq.at_<100:=by have:=hlen.o;omega
    rcases Nat.eq_zero_or_pos i with rfl | hi0
    ·simp only[beq_self_eq_true,if_true] at hstep;replace hstep:=ζ hstep;have c1:w1.cell? ⟨g,1,none⟩=some (.int .i64 ((bq).at_:Int)):=(h.o.cell 1).trans rfl;have f1:=h.o.frozen 1;have l1:=h.o.lt;have i1: -9223372036854775808≤((bq).at_:Int)+1∧((bq).at_:Int)+1≤9223372036854775807:=by first | omega | (simp only[aH];omega)
     have hA:=ζ (iR h.o);have aO:=aj w1 ⟨g,1,none⟩ (.int .i64 (((bq).at_:Int)+1));have gU:=ζ (hG.o.trans aO);replace aO:=ζ aO;go_wp2_with fail;(try replace hF:=ζ (hF.o.far (p:=⟨g,1,none⟩) hFg.o (.int .i64 (((bq).at_:Int)+1))))
     (try replace aG:=ζ (aG.o.far (p:=⟨g,1,none⟩) jE.o (.int .i64 (((bq).at_:Int)+1))))
     clear c1 f1 l1 i1 h hG aO;generalize w1.setCell ⟨g,1,none⟩ (.int .i64 (((bq).at_:Int)+1))=w2 at *
     have h:=hA;have hG:=gU;clear hA gU;go_wp2_with fail;refine (jI h.o).mono ?_;rintro e w3 ⟨rfl,Tf,iq⟩;replace hG:=ζ (hG.o.trans iq);(try replace hF:=ζ (hF.o.but iq hFg.o))
     (try replace aG:=ζ (aG.o.but iq jE.o))
     replace h:=ζ Tf;clear Tf iq;go_wp2;apply tY;rw[hstep.o];exact⟨h,hF,aG,hG⟩
    ·have hi1:(i ==0)=false:=by simp;omega
     have hi2:¬(i:Int)=0:=ω;simp only[hi1,Bool.false_eq_true,if_false] at hstep;replace hstep:=ζ hstep;clear hi1;have c1:w1.cell? ⟨g,1,none⟩=some (.int .i64 ((bq).at_:Int)):=(h.o.cell 1).trans rfl;have f1:=h.o.frozen 1;have l1:=h.o.lt;have i1: -9223372036854775808≤((bq).at_:Int)+1∧((bq).at_:Int)+1≤9223372036854775807:=by first | omega | (simp only[aH];omega)
     have hA:=ζ (iR h.o);have aO:=aj w1 ⟨g,1,none⟩ (.int .i64 (((bq).at_:Int)+1));have gU:=ζ (hG.o.trans aO);replace aO:=ζ aO;go_wp2_with fail;(try replace hF:=ζ (hF.o.far (p:=⟨g,1,none⟩) hFg.o (.int .i64 (((bq).at_:Int)+1))))
     (try replace aG:=ζ (aG.o.far (p:=⟨g,1,none⟩) jE.o (.int .i64 (((bq).at_:Int)+1))))
     clear c1 f1 l1 i1 h hG aO;generalize w1.setCell ⟨g,1,none⟩ (.int .i64 (((bq).at_:Int)+1))=w2 at *
     have h:=hA;have hG:=gU;clear hA gU;apply tY;rw[hstep.o];exact⟨h,hF,aG,hG⟩
   ·have hdi:¬(d.toNat:Int)=93:=fun e=>hd (UInt8.toNat_inj.1 (by show d.toNat=93;omega))
    simp only[hd,if_false] at hstep;clear hd;have aj_:=hlen;have aoU:=wU hlen.o;go_wp2_with fail;refine (Vy h.o (by have:=(hlen).out;omega)).mono ?_;rintro e w3 ⟨rfl,Tf,iq⟩;replace hG:=ζ (hG.o.trans iq);(try replace hF:=ζ (hF.o.but iq hFg.o))
    (try replace aG:=ζ (aG.o.but iq jE.o))
    replace h:=ζ Tf;clear Tf iq;generalize cZ s bq=r at *
    obtain⟨_,Ub,SI,KU⟩:=aoU;replace Ub:=ζ Ub;replace KU:=ζ KU;clear SI hdi hlen;have hlen:Hid (bq.at_<s.length):=aj_;have har:r.1.at_<1000:=by have:=Ub.o.1;omega
    cases hp:kK s r.1 with
    | none=>
     have hrg:dP s r = r:=by unfold dP;rw[hp];simp
     have jm:iV s r.1=.tuple #[.int .u8 0,.bool false]:=by simp only[iV,hp]
     rw[hrg] at hstep;clear hp hrg;go_wp2_with fail;refine (bP h.o).mono ?_;rintro e w4 ⟨rfl,dD⟩;replace h:=ζ (h.o.grows dD);replace hG:=ζ (hG.o.trans (dD.keeps (some g)));(try replace hF:=ζ (hF.o.grows dD))
     (try replace aG:=ζ (aG.o.grows dD))
     clear dD;rw[jm];clear jm;go_wp2_with fail;refine aJ κ ?_;refine rK (.range 31) 0 ?_;iterate 31 refine aB ?_
     refine ay ?_;refine aP κ (fun wN hN hS=> ?_);replace h:=ζ (h.o.grows hN);replace hF:=ζ (hF.o.grows hN);replace aG:=ζ (aG.o.grows hN);replace hG:=ζ (hG.o.trans (hN.keeps (some g)));clear hN hS;have EY:=Ub;have kX:=KU;rw[if_neg (Nat.lt_irrefl _)] at hstep;replace hstep:=ζ hstep;have I4:=UInt8.toNat_lt (r).2;have Iu:=UInt8.toNat_lt (r).2;go_wp2_with fail;refine y9 (k:=0) (kv:=aI) hF I4 Iu π ?_;intros
     rename_i wz hz;obtain⟨YB,qI⟩:=hz;replace h:=ζ (h.o.but qI.o (fun e=>hFg.o e.symm));replace aG:=ζ (aG.o.but qI.o (fun e=>hne.o e.symm));replace hG:=ζ (hG.o.andThen qI.o (fun j e=>by injection e with e;subst e;exact .inl ER.o));clear hF qI I4 Iu;have hii:(-9223372036854775808:Int)≤(i:Int)+1∧(i:Int)+1≤9223372036854775807:=by have:=hi.o;have:=hlen.o;omega
     go_wp2_with fail;go_roundw
     case rel=>exact⟨n - 1,i + 1,(r).1,_,ν,ζ (by have h1:=kX.o;have h2:=hfu.o;have h3:=bD 2 (r).1;(try simp only[h3]);omega),ζ hstep.o.symm,ζ (by have h1:=kX.o;have h2:=hi.o;have h3:=bD 2 (r).1;(try simp only[h3]);omega),EY,h,YB,aG,hG⟩
     case measure=>
      have e:=FK.o _ _ h.o;have h1:=nY.o;have h2:=hlen.o;have h3:=kX.o;have h4:=bD 2 (r).1;rw[e,h1];(try simp only[h4])
      omega
    | some c=>
     have jm:iV s r.1=.tuple #[.int .u8 (c.toNat:Int),.bool true]:=by simp only[iV,hp]
     by_cases hc:c = 45
     ·subst hc;have jm:iV s r.1=.tuple #[.int .u8 45,.bool true]:=jm;by_cases hl:r.1.at_+1<s.length
      ·obtain⟨e,he⟩:∃e,s[r.1.at_+1]? = some e:=⟨_,List.getElem?_eq_getElem hl⟩;have hli:(r.1.at_:Int)+1<(s.length:Int):=ω;have SY:=aoD he;by_cases h93:e = 93
       ·have hrg:dP s r = r:=by unfold dP;rw[he];simp[h93]
        have apL:(e.toNat:Int)=93:=by rw[h93];rfl
        clear h93;rw[hrg] at hstep;clear hp hrg hl;go_wp2_with fail;refine (bP h.o).mono ?_;rintro e w4 ⟨rfl,dD⟩;replace h:=ζ (h.o.grows dD);replace hG:=ζ (hG.o.trans (dD.keeps (some g)));(try replace hF:=ζ (hF.o.grows dD))
        (try replace aG:=ζ (aG.o.grows dD))
        clear dD;rw[jm];clear jm;have c0:=acv h.o;have c1:=aek h.o;have l1:=h.o.lt;go_wp2_with fail;refine aJ κ ?_;refine rK (.range 31) 0 ?_;iterate 31 refine aB ?_
        refine ay ?_;refine aP κ (fun wN hN hS=> ?_);clear c0 c1 l1;replace h:=ζ (h.o.grows hN);replace hF:=ζ (hF.o.grows hN);replace aG:=ζ (aG.o.grows hN);replace hG:=ζ (hG.o.trans (hN.keeps (some g)));clear hN hS;have EY:=Ub;have kX:=KU;rw[if_neg (Nat.lt_irrefl _)] at hstep;replace hstep:=ζ hstep;have I4:=UInt8.toNat_lt (r).2;have Iu:=UInt8.toNat_lt (r).2;go_wp2_with fail;refine y9 (k:=0) (kv:=aI) hF I4 Iu π ?_;intros
        rename_i wz hz;obtain⟨YB,qI⟩:=hz;replace h:=ζ (h.o.but qI.o (fun e=>hFg.o e.symm));replace aG:=ζ (aG.o.but qI.o (fun e=>hne.o e.symm));replace hG:=ζ (hG.o.andThen qI.o (fun j e=>by injection e with e;subst e;exact .inl ER.o));clear hF qI I4 Iu;have hii:(-9223372036854775808:Int)≤(i:Int)+1∧(i:Int)+1≤9223372036854775807:=by have:=hi.o;have:=hlen.o;omega
        go_wp2_with fail;go_roundw
        case rel=>exact⟨n - 1,i + 1,(r).1,_,ν,ζ (by have h1:=kX.o;have h2:=hfu.o;have h3:=bD 2 (r).1;(try simp only[h3]);omega),ζ hstep.o.symm,ζ (by have h1:=kX.o;have h2:=hi.o;have h3:=bD 2 (r).1;(try simp only[h3]);omega),EY,h,YB,aG,hG⟩
        case measure=>
         have e:=FK.o _ _ h.o;have h1:=nY.o;have h2:=hlen.o;have h3:=kX.o;have h4:=bD 2 (r).1;rw[e,h1];(try simp only[h4])
         omega
       ·have hrg:dP s r = cZ s (aH r.1):=by unfold dP;rw[if_pos ⟨hp,hl,by rw[he];simpa using h93⟩]
        have apL:¬(e.toNat:Int)=93:=fun x=>h93 (UInt8.toNat_inj.1 (by show e.toNat=93;omega))
        have wL:Hid ((aH r.1).at_<s.length):=ζ hl;have hq:=wU wL.o;rw[hrg] at hstep;replace hstep:=ζ hstep;clear hp hrg hl h93;go_wp2_with fail;refine (bP h.o).mono ?_;rintro e w4 ⟨rfl,dD⟩;replace h:=ζ (h.o.grows dD);replace hG:=ζ (hG.o.trans (dD.keeps (some g)));(try replace hF:=ζ (hF.o.grows dD))
        (try replace aG:=ζ (aG.o.grows dD))
        clear dD;rw[jm];clear jm;have c0:=acv h.o;have c1:=aek h.o;have l1:=h.o.lt;go_wp2_with fail;refine aJ κ ?_;refine rK (.range 31) 0 ?_;iterate 31 refine aB ?_
        refine ay ?_;refine aP κ (fun wN hN hS=> ?_);clear c0 c1 l1;replace h:=ζ (h.o.grows hN);replace hF:=ζ (hF.o.grows hN);replace aG:=ζ (aG.o.grows hN);replace hG:=ζ (hG.o.trans (hN.keeps (some g)));clear hN hS;have c1:wN.cell? ⟨g,1,none⟩=some (.int .i64 ((r.1).at_:Int)):=(h.o.cell 1).trans rfl;have f1:=h.o.frozen 1;have l1:=h.o.lt;have i1: -9223372036854775808≤((r.1).at_:Int)+1∧((r.1).at_:Int)+1≤9223372036854775807:=by first | omega | (simp only[aH];omega)
        have hA:=ζ (iR h.o);have aO:=aj wN ⟨g,1,none⟩ (.int .i64 (((r.1).at_:Int)+1));have gU:=ζ (hG.o.trans aO);replace aO:=ζ aO;go_wp2_with fail;(try replace hF:=ζ (hF.o.far (p:=⟨g,1,none⟩) hFg.o (.int .i64 (((r.1).at_:Int)+1))))
        (try replace aG:=ζ (aG.o.far (p:=⟨g,1,none⟩) jE.o (.int .i64 (((r.1).at_:Int)+1))))
        clear c1 f1 l1 i1 h hG aO;generalize wN.setCell ⟨g,1,none⟩ (.int .i64 (((r.1).at_:Int)+1))=w5 at *
        have h:=hA;have hG:=gU;clear hA gU;go_wp2_with fail;refine (Vy h.o (by have:=(wL).out;omega)).mono ?_;rintro e w6 ⟨rfl,akO,fJ⟩;replace hG:=ζ (hG.o.trans fJ);(try replace hF:=ζ (hF.o.but fJ hFg.o))
        (try replace aG:=ζ (aG.o.but fJ jE.o))
        replace h:=ζ akO;clear akO fJ;replace hstep:=hstep.o;generalize cZ s (aH r.1)=q at *
        obtain⟨_,EY,SI,kX⟩:=hq;replace EY:=ζ EY;have aks:Hid (bq.at_<q.1.at_):=ζ (by have:=KU.o;simp only[aH] at kX;omega);clear SI kX wL;have kX:=aks;by_cases hlt:(q).2.toNat<(r).2.toNat
        ·have ZV:(((q).2.toNat:Nat):Int)<(((r).2.toNat:Nat):Int):=ω;rw[if_pos hlt] at hstep;replace hstep:=ζ hstep;clear hlt;go_wp2_with fail;refine (jI h.o).mono ?_;rintro e w8 ⟨rfl,Td,su⟩;replace hG:=ζ (hG.o.trans su);(try replace hF:=ζ (hF.o.but su hFg.o))
         (try replace aG:=ζ (aG.o.but su jE.o))
         replace h:=ζ Td;clear Td su;have I4:=UInt8.toNat_lt (r).2;have Iu:=UInt8.toNat_lt (q).2;go_wp2_with fail;refine y9 (k:=0) (kv:=aI) hF I4 Iu π ?_;intros
         rename_i wz hz;obtain⟨YB,qI⟩:=hz;replace h:=ζ (h.o.but qI.o (fun e=>hFg.o e.symm));replace aG:=ζ (aG.o.but qI.o (fun e=>hne.o e.symm));replace hG:=ζ (hG.o.andThen qI.o (fun j e=>by injection e with e;subst e;exact .inl ER.o));clear hF qI I4 Iu;have hii:(-9223372036854775808:Int)≤(i:Int)+1∧(i:Int)+1≤9223372036854775807:=by have:=hi.o;have:=hlen.o;omega
         go_wp2_with fail;go_roundw
         case rel=>exact⟨n - 1,i + 1,(aW 2 (q).1),_,ν,ζ (by have h1:=kX.o;have h2:=hfu.o;have h3:=bD 2 (q).1;(try simp only[h3]);omega),ζ hstep.o.symm,ζ (by have h1:=kX.o;have h2:=hi.o;have h3:=bD 2 (q).1;(try simp only[h3]);omega),(ζ (kD (e:=2) δ EY.o.1)),h,YB,aG,hG⟩
         case measure=>
          have e:=FK.o _ _ h.o;have h1:=nY.o;have h2:=hlen.o;have h3:=kX.o;have h4:=bD 2 (q).1;rw[e,h1];(try simp only[h4])
          omega
        ·have ZV:¬(((q).2.toNat:Nat):Int)<(((r).2.toNat:Nat):Int):=ω;rw[if_neg hlt] at hstep;replace hstep:=ζ hstep;clear hlt;have I4:=UInt8.toNat_lt (r).2;have Iu:=UInt8.toNat_lt (q).2;go_wp2_with fail;refine y9 (k:=0) (kv:=aI) hF I4 Iu π ?_;intros
         rename_i wz hz;obtain⟨YB,qI⟩:=hz;replace h:=ζ (h.o.but qI.o (fun e=>hFg.o e.symm));replace aG:=ζ (aG.o.but qI.o (fun e=>hne.o e.symm));replace hG:=ζ (hG.o.andThen qI.o (fun j e=>by injection e with e;subst e;exact .inl ER.o));clear hF qI I4 Iu;have hii:(-9223372036854775808:Int)≤(i:Int)+1∧(i:Int)+1≤9223372036854775807:=by have:=hi.o;have:=hlen.o;omega
         go_wp2_with fail;go_roundw
         case rel=>exact⟨n - 1,i + 1,(q).1,_,ν,ζ (by have h1:=kX.o;have h2:=hfu.o;have h3:=bD 2 (q).1;(try simp only[h3]);omega),ζ hstep.o.symm,ζ (by have h1:=kX.o;have h2:=hi.o;have h3:=bD 2 (q).1;(try simp only[h3]);omega),EY,h,YB,aG,hG⟩
         case measure=>
          have e:=FK.o _ _ h.o;have h1:=nY.o;have h2:=hlen.o;have h3:=kX.o;have h4:=bD 2 (q).1;rw[e,h1];(try simp only[h4])
          omega
      ·have hrg:dP s r = r:=by unfold dP;rw[if_neg (fun x=>hl x.2.1)]
       have hli:((r.1.at_:Int)+1<(s.length:Int))=False:=by simp only[eq_iff_iff,iff_false];omega
       rw[hrg] at hstep;clear hp hrg hl;go_wp2_with fail;refine (bP h.o).mono ?_;rintro e w4 ⟨rfl,dD⟩;replace h:=ζ (h.o.grows dD);replace hG:=ζ (hG.o.trans (dD.keeps (some g)));(try replace hF:=ζ (hF.o.grows dD))
       (try replace aG:=ζ (aG.o.grows dD))
       clear dD;rw[jm];clear jm;have c0:=acv h.o;have c1:=aek h.o;have l1:=h.o.lt;go_wp2_with fail;refine aJ κ ?_;refine rK (.range 31) 0 ?_;iterate 31 refine aB ?_
       refine ay ?_;refine aP κ (fun wN hN hS=> ?_);clear c0 c1 l1;replace h:=ζ (h.o.grows hN);replace hF:=ζ (hF.o.grows hN);replace aG:=ζ (aG.o.grows hN);replace hG:=ζ (hG.o.trans (hN.keeps (some g)));clear hN hS;have EY:=Ub;have kX:=KU;rw[if_neg (Nat.lt_irrefl _)] at hstep;replace hstep:=ζ hstep;have I4:=UInt8.toNat_lt (r).2;have Iu:=UInt8.toNat_lt (r).2;go_wp2_with fail;refine y9 (k:=0) (kv:=aI) hF I4 Iu π ?_;intros
       rename_i wz hz;obtain⟨YB,qI⟩:=hz;replace h:=ζ (h.o.but qI.o (fun e=>hFg.o e.symm));replace aG:=ζ (aG.o.but qI.o (fun e=>hne.o e.symm));replace hG:=ζ (hG.o.andThen qI.o (fun j e=>by injection e with e;subst e;exact .inl ER.o));clear hF qI I4 Iu;have hii:(-9223372036854775808:Int)≤(i:Int)+1∧(i:Int)+1≤9223372036854775807:=by have:=hi.o;have:=hlen.o;omega
       go_wp2_with fail;go_roundw
       case rel=>exact⟨n - 1,i + 1,(r).1,_,ν,ζ (by have h1:=kX.o;have h2:=hfu.o;have h3:=bD 2 (r).1;(try simp only[h3]);omega),ζ hstep.o.symm,ζ (by have h1:=kX.o;have h2:=hi.o;have h3:=bD 2 (r).1;(try simp only[h3]);omega),EY,h,YB,aG,hG⟩
       case measure=>
        have e:=FK.o _ _ h.o;have h1:=nY.o;have h2:=hlen.o;have h3:=kX.o;have h4:=bD 2 (r).1;rw[e,h1];(try simp only[h4])
        omega
     ·have hrg:dP s r = r:=by unfold dP;rw[hp];simp[hc]
      have Yz:¬(c.toNat:Int)=45:=fun e=>hc (UInt8.toNat_inj.1 (by show c.toNat=45;omega))
      rw[hrg] at hstep;clear hp hrg hc;go_wp2_with fail;refine (bP h.o).mono ?_;rintro e w4 ⟨rfl,dD⟩;replace h:=ζ (h.o.grows dD);replace hG:=ζ (hG.o.trans (dD.keeps (some g)));(try replace hF:=ζ (hF.o.grows dD))
      (try replace aG:=ζ (aG.o.grows dD))
      clear dD;rw[jm];clear jm;go_wp2_with fail;refine aJ κ ?_;refine rK (.range 31) 0 ?_;iterate 31 refine aB ?_
      refine ay ?_;refine aP κ (fun wN hN hS=> ?_);replace h:=ζ (h.o.grows hN);replace hF:=ζ (hF.o.grows hN);replace aG:=ζ (aG.o.grows hN);replace hG:=ζ (hG.o.trans (hN.keeps (some g)));clear hN hS;have EY:=Ub;have kX:=KU;rw[if_neg (Nat.lt_irrefl _)] at hstep;replace hstep:=ζ hstep;have I4:=UInt8.toNat_lt (r).2;have Iu:=UInt8.toNat_lt (r).2;go_wp2_with fail;refine y9 (k:=0) (kv:=aI) hF I4 Iu π ?_;intros
      rename_i wz hz;obtain⟨YB,qI⟩:=hz;replace h:=ζ (h.o.but qI.o (fun e=>hFg.o e.symm));replace aG:=ζ (aG.o.but qI.o (fun e=>hne.o e.symm));replace hG:=ζ (hG.o.andThen qI.o (fun j e=>by injection e with e;subst e;exact .inl ER.o));clear hF qI I4 Iu;have hii:(-9223372036854775808:Int)≤(i:Int)+1∧(i:Int)+1≤9223372036854775807:=by have:=hi.o;have:=hlen.o;omega
      go_wp2_with fail;go_roundw
      case rel=>exact⟨n - 1,i + 1,(r).1,_,ν,ζ (by have h1:=kX.o;have h2:=hfu.o;have h3:=bD 2 (r).1;(try simp only[h3]);omega),ζ hstep.o.symm,ζ (by have h1:=kX.o;have h2:=hi.o;have h3:=bD 2 (r).1;(try simp only[h3]);omega),EY,h,YB,aG,hG⟩
      case measure=>
       have e:=FK.o _ _ h.o;have h1:=nY.o;have h2:=hlen.o;have h3:=kX.o;have h4:=bD 2 (r).1;rw[e,h1];(try simp only[h4])
       omega
def aqd (g:Nat) (s:List UInt8) (w:World) (r:PB×(Nat→Bool)) (e:Ending) (w':World):Prop:=
 ∃fz,e =.returned (.agg (au 0 fz aI))∧oV w' g s r.1∧w.grownBy w' (some g)∧(r.1.err=0→fz=r.2)
theorem dn:Tryz.zeroCells149=au 0 aV aI:=by kernel_rfl
def afj (w:World):World:=(w.alloc (.cells (au 0 aV aI) 149)).alloc (.cells (au 0 aV aI) 149)
theorem afi (w:World):dZ (afj w) w.heap.size 0 aV aI∧dZ (afj w) (w.heap.size+1) 0 aV aI∧ah w (afj w):=by
 have h1:dZ (w.alloc (.cells (au 0 aV aI) 149)) w.heap.size 0 aV aI:=aS.new w _ _;have h2:dZ (afj w) (w.alloc (.cells (au 0 aV aI) 149)).heap.size 0 aV aI:=aS.new _ _ _;rw[World.size_alloc] at h2;exact⟨h1.grows ((ah.refl _).alloc _),h2,((ah.refl w).alloc _).alloc _⟩
theorem Xc (w:World) (o:Obj) (c:Array Value) (t:TypeId):((w.alloc o).alloc (.cells c t)).heap[w.heap.size+1]? = some (.cells c t):=by
 have h:aS ((w.alloc o).alloc (.cells c t)) (w.alloc o).heap.size t c:=aS.new _ _ _;rwa [World.size_alloc] at h
theorem Kz (w:World) (o:Obj) (c c':Array Value) (t:TypeId):((w.alloc o).alloc (.cells c t)).setRow (w.heap.size+1) c'=(w.alloc o).alloc (.cells c' t):=by
 have h:=World.setRow_alloc_new (w.alloc o) c c' t;rwa [World.size_alloc] at h
theorem aZ:(Tryz.prog.info? 149).map (·.size)=some 258:=by kernel_rfl
theorem acw {w:World} {g:Nat} {s:List UInt8} {b:PB} (h:oV w g s b) (tX:s.length≤100) (hW:b.at_≤s.length) :
 Calls Tryz.prog 172 #[.pointer (some ⟨g,0,none⟩)] w (aqd g s w (tq s b)):=by
 have hG:=ζ (World.grownBy.refl w (some g));replace h:=ζ h;have hsz:=ζ (show (Tryz.prog.info? 149).map (·.size)=some (au 0 aV aI).size by rw[aN];exact aZ);have eP:=ζ (show Tryz.zeroCells149.size=(au 0 aV aI).size by rw[dn]);have h1:=ζ (bT (k:=0) (f:=aV) (kv:=aI) rfl);go_enter Tryz.func172,Tryz.ntmps172
 iterate 10 go_step
 refine wpList_build rfl 149 _ rfl κ ?_;go_wp2_with (refine wpList_store_row rfl 149 (.tmp 3) (.tmp 14) rfl (w.heap.size+1) (au 0 aV aI) rfl κ 149 _ (Xc _ _ _ _) hsz.o eP.o h1.o ?_);rw[Kz,dn];change Calls _ _ _ (afj w) _
 obtain⟨aG,hF,hg2⟩:=afi w;have hl:=h.o.lt;have hFg:Hid (w.heap.size+1≠g):=ζ ω;have jE:Hid (w.heap.size≠g):=ζ ω;have hne:Hid (w.heap.size+1≠w.heap.size):=ζ ω;have ER:Hid (w.heap.size≤w.heap.size+1):=ζ ω;have hb2:Hid (w.heap.size≤w.heap.size):=ζ (Nat.le_refl _);replace h:=ζ (h.o.grows hg2);replace hG:=ζ (hG.o.trans (hg2.keeps (some g)));replace hF:=ζ hF;replace aG:=ζ aG;clear hg2 hl hsz eP h1;generalize (Program.built _ _ _).getD _ = built;generalize afj w = w2 at *
 clear ER hb2;generalize hgn:w.heap.size+1=gn at hFg hne hF ⊢;generalize hgr:w.heap.size=g2 at jE hne aG ⊢;have ER:Hid (w.heap.size≤gn):=ζ ω;have hb2:Hid (w.heap.size≤g2):=ζ ω;clear hgn hgr;by_cases hp:kK s b = some 94
 ·have hcr:Hid (tq s b = ((jR s (s.length+1) true (aH b) aV).1,fun c=> !(jR s (s.length+1) true (aH b) aV).2 c)):=ζ (by unfold tq;rw[if_pos hp]);have jm:iV s b =.tuple #[.int .u8 94,.bool true]:=by simp only[iV,hp];rfl
  have wL:Hid ((aH b).at_≤s.length):=ζ (dN hp).2.1;have hWl:=ζ (WP.of_le (s:=s) (k:=2) wL.o);clear hp;go_wp2_with fail;refine (bP h.o).mono ?_;rintro e w3 ⟨rfl,iq⟩;replace h:=ζ (h.o.grows iq);replace hG:=ζ (hG.o.trans (iq.keeps (some g)));(try replace hF:=ζ (hF.o.grows iq))
  (try replace aG:=ζ (aG.o.grows iq))
  clear iq;rw[jm];clear jm;have c1:w3.cell? ⟨g,1,none⟩=some (.int .i64 ((b).at_:Int)):=(h.o.cell 1).trans rfl;have f1:=h.o.frozen 1;have l1:=h.o.lt;have i1: -9223372036854775808≤((b).at_:Int)+1∧((b).at_:Int)+1≤9223372036854775807:=by first | omega | (simp only[aH];omega)
  have hA:=ζ (iR h.o);have aO:=aj w3 ⟨g,1,none⟩ (.int .i64 (((b).at_:Int)+1));have gU:=ζ (hG.o.trans aO);replace aO:=ζ aO;go_wp2_with fail;(try replace hF:=ζ (hF.o.far (p:=⟨g,1,none⟩) hFg.o (.int .i64 (((b).at_:Int)+1))))
  (try replace aG:=ζ (aG.o.far (p:=⟨g,1,none⟩) jE.o (.int .i64 (((b).at_:Int)+1))))
  clear c1 f1 l1 i1 h hG aO;generalize w3.setCell ⟨g,1,none⟩ (.int .i64 (((b).at_:Int)+1))=w4 at *
  have h:=hA;have hG:=gU;clear hA gU;refine VJ (f0:=s.length+1) h hF aG hFg jE hne ER hb2 hG (ζ (by first | omega | (simp only[aH];omega))) (ζ rfl) hWl tX π ?_ ?_
  ·intros
   rename_i w9 hrel;obtain⟨h9,hF9,Dt,uX⟩:=hrel;clear h hF aG hG;have h:=h9;have aG:=Dt;have hG:=uX;clear h9 Dt uX;generalize hRq:jR s (s.length+1) true _ aV=R at *
   go_wp2_with fail;refine VI (k:=0) (kv:=aI) (neg:=true) hF9 π ?_;intros
   rename_i w10 hrel;obtain⟨YB,qI⟩:=hrel;replace h:=ζ (h.o.but qI.o (fun e=>hFg.o e.symm));replace aG:=ζ (aG.o.but qI.o (fun e=>hne.o e.symm));replace hG:=ζ (hG.o.andThen qI.o (fun j e=>by injection e with e;subst e;exact .inl ER.o));clear qI hF9;generalize rE:yG true R.2=fq at *
   have hsz:=ζ (show (Tryz.prog.info? 149).map (·.size)=some (au 0 fq aI).size by rw[aN];exact aZ);have eP:=ζ (show (au 0 aV aI).size=(au 0 fq aI).size by rw[aN,aN]);have h1:=ζ (bT (k:=0) (f:=fq) (kv:=aI) rfl);have yh:=ζ (h.o.but (aF w10 g2 (au 0 fq aI)) (fun e=>jE.o e.symm));have jr:Hid (dZ (w10.setRow g2 (au 0 fq aI)) g2 0 fq aI):=ζ (setRow_heap _ _ _ _ _ _ aG.o);have CP:=ζ (hG.o.andThen (aF w10 g2 (au 0 fq aI)) (fun j e=>by injection e with e;subst e;exact .inl hb2.o));go_wp2_with (first | (refine wpList_load_row rfl 149 (.tmp 3) rfl gn rfl 149 (au 0 fq aI) (0,0) _ YB.o Tryz.underlying149 rfl hsz.o ?_) | (refine wpList_store_row rfl 149 (.tmp 2) (.tmp 134) rfl g2 (au 0 fq aI) rfl rfl 149 _ aG.o hsz.o eP.o h1.o ?_));refine bodyPost_ret (v:=.agg (au 0 fq aI)) (results_cell_row (p:=2) (ty:=149) κ _ _ g2 149 (au 0 fq aI) (0,0) _ rfl jr.o Tryz.underlying149 rfl hsz.o) rfl ?_;exact⟨fq,rfl,by rw[hcr.o];exact⟨yh.o,CP.o,fun _=>rE.symm⟩⟩
  ·intros
   rename_i w9 hrel;obtain⟨h9,he9,⟨fz,hN9⟩,uX⟩:=hrel;have hsz:=ζ (show (Tryz.prog.info? 149).map (·.size)=some (au 0 fz aI).size by rw[aN];exact aZ);refine bodyPost_ret (v:=.agg (au 0 fz aI)) (results_cell_row (p:=2) (ty:=149) κ _ _ g2 149 (au 0 fz aI) (0,0) _ rfl hN9.o Tryz.underlying149 rfl hsz.o) rfl ?_;rw[hcr.o];exact⟨fz,rfl,h9.o,uX.o,fun e=>absurd e he9.o⟩
 ·have hcr:Hid (tq s b = jR s (s.length+1) true b aV):=ζ (by unfold tq;rw[if_neg hp]);have hWl:=ζ (WP.of_le (s:=s) (k:=2) hW);obtain⟨c,ok,jm,hc⟩:∃(c:Int) (ok:Bool),iV s b =.tuple #[.int .u8 c,.bool ok]∧¬c = 94:=by
   cases hq:kK s b with
   | none=>exact⟨0,false,by simp only[iV,hq],δ⟩
   | some d=>exact⟨(d.toNat:Int),true,by simp only[iV,hq],fun e=>hp (by rw[hq];congr 1;exact UInt8.toNat_inj.1 (by show d.toNat=94;omega))⟩
  clear hp;go_wp2_with fail;refine (bP h.o).mono ?_;rintro e w3 ⟨rfl,iq⟩;replace h:=ζ (h.o.grows iq);replace hG:=ζ (hG.o.trans (iq.keeps (some g)));(try replace hF:=ζ (hF.o.grows iq))
  (try replace aG:=ζ (aG.o.grows iq))
  clear iq;rw[jm];clear jm;go_wp2_with fail;have avT:(c ==94)=false:=beq_eq_false_iff_ne.2 hc;simp only[avT];refine VJ (f0:=s.length+1) h hF aG hFg jE hne ER hb2 hG (ζ (by first | omega | (simp only[aH];omega))) (ζ rfl) hWl tX π ?_ ?_
  ·intros
   rename_i w9 hrel;obtain⟨h9,hF9,Dt,uX⟩:=hrel;clear h hF aG hG;have h:=h9;have aG:=Dt;have hG:=uX;clear h9 Dt uX;generalize hRq:jR s (s.length+1) true _ aV=R at *
   go_wp2_with fail;refine VI (k:=0) (kv:=aI) (neg:=false) hF9 π ?_;intros
   rename_i w10 hrel;obtain⟨YB,qI⟩:=hrel;replace h:=ζ (h.o.but qI.o (fun e=>hFg.o e.symm));replace aG:=ζ (aG.o.but qI.o (fun e=>hne.o e.symm));replace hG:=ζ (hG.o.andThen qI.o (fun j e=>by injection e with e;subst e;exact .inl ER.o));clear qI hF9;generalize rE:yG false R.2=fq at *
   have hsz:=ζ (show (Tryz.prog.info? 149).map (·.size)=some (au 0 fq aI).size by rw[aN];exact aZ);have eP:=ζ (show (au 0 aV aI).size=(au 0 fq aI).size by rw[aN,aN]);have h1:=ζ (bT (k:=0) (f:=fq) (kv:=aI) rfl);have yh:=ζ (h.o.but (aF w10 g2 (au 0 fq aI)) (fun e=>jE.o e.symm));have jr:Hid (dZ (w10.setRow g2 (au 0 fq aI)) g2 0 fq aI):=ζ (setRow_heap _ _ _ _ _ _ aG.o);have CP:=ζ (hG.o.andThen (aF w10 g2 (au 0 fq aI)) (fun j e=>by injection e with e;subst e;exact .inl hb2.o));go_wp2_with (first | (refine wpList_load_row rfl 149 (.tmp 3) rfl gn rfl 149 (au 0 fq aI) (0,0) _ YB.o Tryz.underlying149 rfl hsz.o ?_) | (refine wpList_store_row rfl 149 (.tmp 2) (.tmp 134) rfl g2 (au 0 fq aI) rfl rfl 149 _ aG.o hsz.o eP.o h1.o ?_));refine bodyPost_ret (v:=.agg (au 0 fq aI)) (results_cell_row (p:=2) (ty:=149) κ _ _ g2 149 (au 0 fq aI) (0,0) _ rfl jr.o Tryz.underlying149 rfl hsz.o) rfl ?_;exact⟨fq,rfl,by rw[hcr.o];exact⟨yh.o,CP.o,fun _=>rE.symm⟩⟩
  ·intros
   rename_i w9 hrel;obtain⟨h9,he9,⟨fz,hN9⟩,uX⟩:=hrel;have hsz:=ζ (show (Tryz.prog.info? 149).map (·.size)=some (au 0 fz aI).size by rw[aN];exact aZ);refine bodyPost_ret (v:=.agg (au 0 fz aI)) (results_cell_row (p:=2) (ty:=149) κ _ _ g2 149 (au 0 fz aI) (0,0) _ rfl hN9.o Tryz.underlying149 rfl hsz.o) rfl ?_;rw[hcr.o];exact⟨fz,rfl,h9.o,uX.o,fun e=>absurd e he9.o⟩
structure um where
 k:Nat
 f:Nat→Bool
 A:Option Addr
 m:Nat
 c:Nat
def um.kv (x:um):Value:=.slice x.A x.m x.c
def um.cells (x:um):Array Value:=au x.k x.f x.kv
def oU (x:um):List Value:=x.cells.toList
def vw (f:Nat→Bool):um:=⟨0,f,none,0,0⟩
theorem zi (x:um):(oU x).length=258:=by
 unfold oU um.cells;rw[Array.length_toList,aN]
theorem zh (x:um):∀u∈oU x,u.oneCell'=true:=fun u hu=>by
 have h:=bT (k:=x.k) (f:=x.f) (kv:=x.kv) rfl;rw[Array.all_eq_true_iff_forall_mem] at h;exact h u (Array.mem_toList_iff.1 hu)
theorem ZF (f:Nat→Bool):(vw f).cells=au 0 f aI:=rfl
def wC (w:World) (base:Nat) (S:Nat→Prop) (P:um→bF→Prop) (v:Value) (l:List bF):Prop:=
 ∃xs:List um,Own w base 149 258 oU v xs∧(∀g,v.ownBlock=some g→S g)∧xs.length=l.length∧∀(i:Nat) (x:um) (y:bF),xs[i]? = some x→l[i]? = some y→P x y
def bI (w:World) (base:Nat) (S:Nat→Prop):Nat→um→bF→Prop
 | 0,_,_=>False
 | _ + 1,x,.set f=>x = vw f
 | d + 1,x,.alt l=>x.k=1∧x.f = aV∧wC w base S (bI w base S d) x.kv l
 | d + 1,x,.row l=>x.k=2∧x.f = aV∧wC w base S (bI w base S d) x.kv l
 | d + 1,x,.rep k y=>(k=3∨k=4∨k=5)∧x.k=k∧x.f = aV∧wC w base S (bI w base S d) x.kv [y]
section
variable {w w':World} {base b2:Nat} {S S2:Nat→Prop} {v:Value} {l:List bF} {P P2:um→bF→Prop}
theorem wC.mono (h:wC w base S P v l) (hS:∀g,S g→S2 g) (hP:∀x y,P x y→P2 x y):wC w base S2 P2 v l:=by
 obtain⟨xs,h1,h2,h3,h4⟩:=h;exact⟨xs,h1,fun g hg=>hS g (h2 g hg),h3,fun i x y hx hy=>hP x y (h4 i x y hx hy)⟩
theorem wC.keep {row:Option Nat} (h:wC w base S P v l) (hg:w.grownBy w' row) (hr:∀g,row=some g→¬S g) (hP:∀x y,P x y→P2 x y):wC w' base S P2 v l:=by
 obtain⟨xs,h1,h2,h3,h4⟩:=h;exact⟨xs,h1.kept' hg (fun g hg' hv=>hr g hg' (h2 g hv)),h2,h3,fun i x y hx hy=>hP x y (h4 i x y hx hy)⟩
end
theorem bI.mono {w:World} {base:Nat} {S S2:Nat→Prop} (hS:∀g,S g→S2 g):∀(d d2:Nat) (x:um) (n:bF),d≤d2→bI w base S d x n→bI w base S2 d2 x n:=by
 intro d;induction d with
 | zero=>intro d2 x n _ h;exact h.elim
 | succ d ih=>
  intro d2 x n hd h;obtain⟨d2,rfl⟩:∃k,d2=k+1:=⟨d2-1,ω⟩;have hP:∀x y,bI w base S d x y→bI w base S2 d2 x y:=fun x y=>ih d2 x y ω
  cases n with
  | set f=>exact h
  | alt l=>exact⟨h.1,h.2.1,h.2.2.mono hS hP⟩
  | row l=>exact⟨h.1,h.2.1,h.2.2.mono hS hP⟩
  | rep k y=>exact⟨h.1,h.2.1,h.2.2.1,h.2.2.2.mono hS hP⟩
theorem bI.keep {w w':World} {base:Nat} {S:Nat→Prop} {row:Option Nat} (hg:w.grownBy w' row) (hr:∀g,row=some g→¬S g):∀(d:Nat) (x:um) (n:bF),bI w base S d x n→bI w' base S d x n:=by
 intro d;induction d with
 | zero=>intro x n h;exact h.elim
 | succ d ih=>
  intro x n h;cases n with
  | set f=>exact h
  | alt l=>exact⟨h.1,h.2.1,h.2.2.keep hg hr ih⟩
  | row l=>exact⟨h.1,h.2.1,h.2.2.keep hg hr ih⟩
  | rep k y=>exact⟨h.1,h.2.1,h.2.2.1,h.2.2.2.keep hg hr ih⟩
theorem bI.grows {w w':World} {base d:Nat} {S:Nat→Prop} {x:um} {n:bF} (h:bI w base S d x n) (hg:ah w w'):bI w' base S d x n:=
 bI.keep (hg.keeps none) (fun _ e=>by cases e) d x n h
theorem bI.leaf (w:World) (base d:Nat) (S:Nat→Prop) (f:Nat→Bool):bI w base S (d + 1) (vw f) (.set f):=rfl
theorem amj {gn:Nat} {wS:World} {Q0:Exit→Act→World→Prop} {x0 x1 x2 x3 x4 x5 x6 x8 x9 Hr F8 JQ Df yZ xX CJ Ad Ac yE xW xU xR xQ xI xH xG xP xO yD yY yX yV yU yT Aa z_ zZ zY zX zW zV zU zT zS zQ zO zN zM zL zK zJ zI Dc C_ CG zH Cb B_ BZ BX BU BR BP BN BM BK zG zF zD zC zB BJ BH BG BF BD BA Bz Bv Bq CB Cm Cj Ci Ce zA zy zx zu zq zo C9 CZ Bo Bl zn Bj Bh kS kR kQ kP kN kM:Value}
 (hN:Hid (dZ wS gn 0 aV aI))
 (U_:∀c a d v w,Q0 (.panic c) (Act.put a d v) w→Q0 (.panic c) a w)
 (tY:∀(u10 Yp Yo Yn u64 Ym Yl Yk:Value) (wr:World),(Hid (dZ wr gn 0 (fun _=>true) aI)∧Hid (wS.grownBy wr (some gn)))→Q0 (.exit 1) ⟨(x0::x1::x2::x3::x4::x5::x6::(.pointer (some ⟨gn,0,none⟩))::x8::x9::u10::Hr::F8::JQ::Df::yZ::xX::CJ::Ad::Ac::yE::xW::xU::xR::xQ::xI::xH::xG::xP::xO::yD::yY::yX::yV::yU::yT::Aa::z_::zZ::zY::zX::zW::zV::zU::zT::zS::zQ::zO::zN::zM::zL::zK::zJ::zI::Dc::C_::CG::zH::Cb::B_::BZ::Yp::Yo::Yn::u64::Ym::Yl::Yk::zG::zF::zD::zC::zB::BJ::BH::BG::BF::BD::BA::Bz::Bv::Bq::CB::Cm::Cj::Ci::Ce::zA::zy::zx::zu::zq::zo::C9::CZ::Bo::Bl::zn::Bj::Bh::kS::kR::kQ::kP::kN::kM::[]).toArray,[]⟩ wr) :
 Code.wp Tryz.prog (Gy Tryz.f157 0) Q0 ⟨(x0::x1::x2::x3::x4::x5::x6::(.pointer (some ⟨gn,0,none⟩))::x8::x9::(.int .i64 0)::Hr::F8::JQ::Df::yZ::xX::CJ::Ad::Ac::yE::xW::xU::xR::xQ::xI::xH::xG::xP::xO::yD::yY::yX::yV::yU::yT::Aa::z_::zZ::zY::zX::zW::zV::zU::zT::zS::zQ::zO::zN::zM::zL::zK::zJ::zI::Dc::C_::CG::zH::Cb::B_::BZ::BX::BU::BR::BP::BN::BM::BK::zG::zF::zD::zC::zB::BJ::BH::BG::BF::BD::BA::Bz::Bv::Bq::CB::Cm::Cj::Ci::Ce::zA::zy::zx::zu::zq::zo::C9::CZ::Bo::Bl::zn::Bj::Bh::kS::kR::kQ::kP::kN::kM::[]).toArray,[]⟩ wS:=by
 conv=>arg 2;whnf
 have _h0:=U_;clear _h0;go_loopw [10] (fun jv wr2=>∃j:Nat,j≤256∧jv=.int .i64 (j:Int)∧Hid (dZ wr2 gn 0 (fun c=>decide (c < j)) aI)∧Hid (wS.grownBy wr2 (some gn))) (fun jv _=>256-(intOf jv).toNat)
 case atStart=>exact⟨0,ω,rfl,ζ (by
  have e:au 0 (fun c=>decide (c < 0)) aI=au 0 aV aI:=iP fun c _=>by simp[aV]
  rw[dZ,e];exact hN.o),ζ (World.grownBy.refl _ _)⟩
 case round=>
  clear hN;obtain⟨j,hj1,rfl,hN,hG⟩:=hrel;by_cases hjh:j < 256
  ·have anZ:(j:Int)<256:=ω;have f1:=hN.o.frozen (1+j);have hl:=hN.o.lt;have c1:=(hN.o.cell (1+j)).trans (je hjh);have hN2:Hid (dZ (wr.setCell ⟨gn,1+j,none⟩ (.bool true)) gn 0 (fun c=>decide (c < j + 1)) aI):=ζ (by
    have h:=hN.o.bit hjh true;have e:au 0 (fun c=>if c = j then true else decide (c < j)) aI=au 0 (fun c=>decide (c < j + 1)) aI:=iP fun c _=>by
     by_cases h:c = j
     ·subst h;rw[if_pos rfl,decide_eq_true ω]
     ·rw[if_neg h];by_cases h2:c < j
      ·rw[decide_eq_true h2,decide_eq_true ω]
      ·rw[decide_eq_false h2,decide_eq_false ω]
    rw[dZ,←e];exact h)
   have iC:=ζ (hG.o.trans (aj wr ⟨gn,1+j,none⟩ (.bool true)));clear hN hG;go_wp2;go_roundw
   case rel=>exact⟨j + 1,ω,ν,hN2,iC⟩
   case measure=>exact ψ
  ·have KP:¬(j:Int)<256:=ω;have hN2:Hid (dZ wr gn 0 (fun _=>true) aI):=ζ (by
    have e:au 0 (fun c=>decide (c < j)) aI=au 0 (fun _=>true) aI:=iP fun c hc=>decide_eq_true ω
    rw[dZ,←e];exact hN.o)
   clear hN;go_wp2
def fresh (w:World):Nat→Prop:=fun j=>w.heap.size≤j
def uV (g:Nat) (s:List UInt8) (d:Nat) (w:World) (r:PB×bF) (e:Ending) (w':World):Prop:=
 ∃x n,e =.returned (.agg x.cells)∧oV w' g s r.1∧w.grownBy w' (some g)∧bI w' w.heap.size (fresh w) d x n∧(r.1.err=0→n = r.2)
theorem afV {w:World} {g d:Nat} {s:List UInt8} {b:PB} {c:UInt8} {dv:Value} {sub:Option (PB→PB×bF)} (h:oV w g s b) (hp:kK s b = some c) (ha:b.at_<1000) (A_:c≠40) (Iq:c≠91) (JZ:c≠46) (Oi:c≠92) (hsp:c∉([42,43,63,93]:List UInt8)) :
 Calls Tryz.prog 157 #[.pointer (some ⟨g,0,none⟩),dv] w (uV g s (d + 1) w (jw s sub c b)):=by
 have jm:iV s b =.tuple #[.int .u8 (c.toNat:Int),.bool true]:=by simp only[iV,hp]
 have hn:∀k:Nat,k<256→c≠UInt8.ofNat k→¬(c.toNat:Int)=(k:Int):=fun k hk hc e=>hc (UInt8.toNat_inj.1 (by rw[UInt8.toNat_ofNat'];omega))
 have i40:¬(c.toNat:Int)=40:=hn 40 δ A_;have i91:¬(c.toNat:Int)=91:=hn 91 δ Iq;have i46:¬(c.toNat:Int)=46:=hn 46 δ JZ;have i92:¬(c.toNat:Int)=92:=hn 92 δ Oi;have i42:¬(c.toNat:Int)=42:=hn 42 δ (fun e=>hsp (by rw[e];decide));have i43:¬(c.toNat:Int)=43:=hn 43 δ (fun e=>hsp (by rw[e];decide));have i63:¬(c.toNat:Int)=63:=hn 63 δ (fun e=>hsp (by rw[e];decide));have i93:¬(c.toNat:Int)=93:=hn 93 δ (fun e=>hsp (by rw[e];decide));clear hn;have hsz:=ζ (show (Tryz.prog.info? 149).map (·.size)=some (au 0 aV aI).size by rw[aN];exact aZ);have eP:=ζ (show Tryz.zeroCells149.size=(au 0 aV aI).size by rw[dn]);have h1:=ζ (bT (k:=0) (f:=aV) (kv:=aI) rfl);have hl:=h.lt;have jE:Hid (w.heap.size≠g):=ζ ω;have hb2:Hid (w.heap.size≤w.heap.size):=ζ (Nat.le_refl _);have aG:=ζ (aS.new w 149 (au 0 aV aI));have hG:=ζ (((ah.refl w).alloc (.cells (au 0 aV aI) 149)).keeps (some g));replace h:=ζ (h.grows ((ah.refl w).alloc (.cells (au 0 aV aI) 149)));go_enter Tryz.func157,Tryz.ntmps157
 go_wp2_with fail;rw[dn];clear hl;generalize hgr:w.heap.size=g2 at jE aG ⊢;generalize w.alloc (.cells (au 0 aV aI) 149)=w1 at *
 rw[hgr] at hb2;have hb2:Hid (w.heap.size≤g2):=ζ (Nat.le_of_eq hgr);clear hgr;go_wp2_with fail;refine (bP h.o).mono ?_;rintro e w2 ⟨rfl,fG⟩;replace h:=ζ (h.o.grows fG);replace hG:=ζ (hG.o.trans (fG.keeps (some g)));(try replace hF:=ζ (hF.o.grows fG))
 (try replace aG:=ζ (aG.o.grows fG))
 clear fG;rw[jm];have c1:w2.cell? ⟨g,1,none⟩=some (.int .i64 (b.at_:Int)):=(h.o.cell 1).trans rfl;have f1:=h.o.frozen 1;have l1:=h.o.lt;have i1: -9223372036854775808≤(b.at_:Int)+1∧(b.at_:Int)+1≤9223372036854775807:=ω;have hA:=ζ (iR h.o);have aO:=aj w2 ⟨g,1,none⟩ (.int .i64 ((b.at_:Int)+1));have gU:=ζ (hG.o.trans aO);replace aG:=ζ (aG.o.far (p:=⟨g,1,none⟩) jE.o (.int .i64 ((b.at_:Int)+1)));replace aO:=ζ aO;have hsw:=ζ hG.o.size;go_simp;iterate 44 go_step
 clear c1 f1 l1 i1 h hG aO;have jT:Hid ((w2.setCell ⟨g,1,none⟩ (.int .i64 ((b.at_:Int)+1))).heap.size=w2.heap.size):=ζ (World.size_setCell _ _ _);generalize w2.setCell ⟨g,1,none⟩ (.int .i64 ((b.at_:Int)+1))=w3 at *
 iterate 12 go_step
 refine wpList_store_row rfl 149 (.tmp 7) (.tmp 25) rfl w3.heap.size (au 0 aV aI) rfl κ 149 _ (heap_alloc_new w3 _) hsz.o eP.o h1.o ?_;rw[World.setRow_alloc_new];have uH:=hsw.o;have hF:=ζ (aS.new w3 149 (au 0 aV aI));have Iw:=aG.o.lt;have E8:=hA.o.lt;have xZ:w3.heap.size=w2.heap.size:=jT.o;have ER:Hid (w.heap.size≤w3.heap.size):=ζ ω;have hFg:Hid (w3.heap.size≠g):=ζ ω;have hne:Hid (w3.heap.size≠g2):=ζ ω;have h:=ζ (hA.o.grows ((ah.refl w3).alloc (.cells (au 0 aV aI) 149)));have hG:=ζ (gU.o.trans (((ah.refl w3).alloc (.cells (au 0 aV aI) 149)).keeps (some g)));replace aG:=ζ (aG.o.grows ((ah.refl w3).alloc (.cells (au 0 aV aI) 149)));clear hA gU hsw Iw E8 xZ uH jT;go_simp;generalize w3.alloc (.cells (au 0 aV aI) 149)=w4 at *
 generalize w3.heap.size=gn at *
 clear hsz eP h1;have hcb:=UInt8.toNat_lt c;have avW:(c.toNat:Int)<256:=ω;have e2:au 0 (fun j=>if j = c.toNat then true else aV j) aI=au 0 (bn c.toNat) aI:=iP fun j _=>by
  unfold bn Jg aV;by_cases e:j = c.toNat
  ·subst e;simp
  ·rw[if_neg e];by_cases h2:c.toNat≤j
   ·rw[decide_eq_true h2,decide_eq_false ω];rfl
   ·rw[decide_eq_false h2];rfl
 have hF2:Hid (dZ (w4.setCell ⟨gn,1+c.toNat,none⟩ (.bool true)) gn 0 (bn c.toNat) aI):=ζ (by
  rw[dZ,←e2];exact dZ.bit hF.o hcb true)
 have cF:=(hF.o.cell (1+c.toNat)).trans (je hcb);have fF:=hF.o.frozen (1+c.toNat);have lF:=hF.o.lt;have h2:=ζ (h.o.far (p:=⟨gn,1+c.toNat,none⟩) (fun e=>hFg.o e.symm) (.bool true));have tZ:=ζ (aG.o.far (p:=⟨gn,1+c.toNat,none⟩) (fun e=>hne.o e.symm) (.bool true));have iC:=ζ (hG.o.andThen (aj w4 ⟨gn,1+c.toNat,none⟩ (.bool true)) (fun j e=>by injection e with e;subst e;exact .inl ER.o));clear hF h aG hG e2;have hF:=hF2;have h:=h2;have aG:=tZ;have hG:=iC;clear hF2 h2 tZ iC;have hat:Hid (jw s sub c b = (aH b,.set (bn c.toNat))):=ζ (by unfold jw;rw[if_neg A_,if_neg Iq,if_neg JZ,if_neg Oi,if_neg hsp]);clear A_ Iq JZ Oi hsp;have hsz:=ζ (show (Tryz.prog.info? 149).map (·.size)=some (au 0 (bn c.toNat) aI).size by rw[aN];exact aZ);have eP:=ζ (show (au 0 aV aI).size=(au 0 (bn c.toNat) aI).size from (aN _ _ _).trans (aN _ _ _).symm);have h1:=ζ (bT (k:=0) (f:=(bn c.toNat)) (kv:=aI) rfl);have yh:=ζ (h.o.but (aF (w4.setCell ⟨gn,1+c.toNat,none⟩ (.bool true)) g2 (au 0 (bn c.toNat) aI)) (fun e=>jE.o e.symm));have jr:Hid (dZ ((w4.setCell ⟨gn,1+c.toNat,none⟩ (.bool true)).setRow g2 (au 0 (bn c.toNat) aI)) g2 0 (bn c.toNat) aI):=ζ (setRow_heap _ _ _ _ _ _ aG.o);have CP:=ζ (hG.o.andThen (aF (w4.setCell ⟨gn,1+c.toNat,none⟩ (.bool true)) g2 (au 0 (bn c.toNat) aI)) (fun j e=>by injection e with e;subst e;exact .inl hb2.o));go_wp2_with (first | (refine wpList_load_row rfl 149 (.tmp 7) rfl gn rfl 149 (au 0 (bn c.toNat) aI) (0,0) _ hF.o Tryz.underlying149 rfl hsz.o ?_) | (refine wpList_store_row rfl 149 (.tmp 4) (.tmp 105) rfl g2 (au 0 (bn c.toNat) aI) rfl rfl 149 _ aG.o hsz.o (by first | exact eP.o | rfl) h1.o ?_));refine bodyPost_ret (v:=.agg (au 0 (bn c.toNat) aI)) (results_cell_row (p:=4) (ty:=149) κ _ _ g2 149 (au 0 (bn c.toNat) aI) (0,0) _ rfl jr.o Tryz.underlying149 rfl hsz.o) rfl ?_;rw[hat.o];exact⟨vw (bn c.toNat),_,rfl,yh.o,CP.o,bI.leaf _ _ _ _ _,fun _=>rfl⟩
end Go.Proofs.YteojanlajhebhaaGreatDoor
