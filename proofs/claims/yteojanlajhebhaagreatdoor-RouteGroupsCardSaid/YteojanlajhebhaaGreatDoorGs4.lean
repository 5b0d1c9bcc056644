/- Parts: ShaI ShaH1 ShaH2 ShaH3 ShaH4 ShaH ShaK -/
import Derived.Test.YteojanlajhebhaaGreatDoorGs0
import Derived.Laws.CopyRow
import Derived.Test.YteojanlajhebhaaGreatDoorGs2
import Derived.Test.YteojanlajhebhaaGreatDoorGs3
set_option maxRecDepth 100000
set_option maxHeartbeats 12800000
namespace Go.Proofs.YteojanlajhebhaaGreatDoor
open Go.RowKit
def kE (x:Nat):List Value:=[.int .u8 (x:Int)]
theorem Yy (x:Nat):(kE x).length=1:=rfl
theorem U0 (x:Nat):∀u∈kE x,u.oneCell'=true:=by intro u hu;simp[kE] at hu;subst hu;rfl
def b_ (v:V8):List Nat:=[v.a,v.b,v.c,v.d,v.e,v.f,v.g,v.h]
def Gx:Code→List Code
 | .seq a b=>Gx a ++Gx b
 | .cond _ a b=>Gx a ++Gx b
 | .block _ c=>Gx c
 | .scope c=>Gx c
 | .loop c=>[.loop c]
 | _=>[]
def Gz (f:Func) (n:Nat):Code:=((f.body.map Gx).getD []).getD n .skip
theorem qy {Pr:World→Prop} {w:World} {t:TypeId} {cs:Array Value} (h:∀w1,aS w1 w.heap.size t cs→ah w w1→Pr w1):Pr (w.alloc (.cells cs t)):=h _ (aS.new w t cs) ((ah.refl w).alloc _)
theorem Lm {a b:Nat} (ha:Wd a):bits .and .u32 (a:Int) (b:Int)=((a &&&b:Nat):Int):=by
 have hx:=(EU (b:=b) ha).lt;show IntKind.u32.wrap ((BitVec.ofInt 32 (a:Int) &&&BitVec.ofInt 32 (b:Int)).toNat:Int)=_
 rw[BitVec.toNat_and,ofInt32 ha,BitVec.ofInt_natCast,BitVec.toNat_ofNat,wrap32];have e:a &&&b % 2 ^ 32=a &&&b:=by
  apply Nat.eq_of_testBit_eq;intro i;rw[Nat.testBit_and,Nat.testBit_mod_two_pow,Nat.testBit_and];by_cases hi:i < 32
  ·simp[hi]
  ·simp[LH ha (Nat.le_of_not_lt hi)]
 rw[e,Nat.mod_eq_of_lt hx]
theorem Y3 {KA:Array Value} {k:Nat} {x:Int} (hk:k<64) (h:KA[k]? = some (.int .u32 x)) (w:World):(Instr.index 159 (.agg KA) (.int .i64 (k:Int))).run Tryz.prog w =.ok (.int .u32 x) w:=by
 have h0:(0:Int)≤(k:Int)∧(k:Int)<64:=ω;unfold Instr.index part;go_simp
theorem arU {e:Nat} (he:Wd e):4294967295 ^^^ e = Fz e:=by
 have h:=he.lt;apply Nat.eq_of_testBit_eq;intro i;have e1:Fz e = 2 ^ 32-(e + 1):=by unfold Fz;omega
 rw[e1,Nat.testBit_two_pow_sub_succ h,Nat.testBit_xor,show (4294967295:Nat)=2 ^ 32-1 from rfl,Nat.testBit_two_pow_sub_one];by_cases hi:i < 32
 ·simp[hi]
 ·simp[hi,LH he (Nat.le_of_not_lt hi)]
theorem ant {e f g:Nat} (he:Wd e):bits .xor .u32 (bits .and .u32 (e:Int) (f:Int)) (bits .and .u32 (bits .xor .u32 IntKind.u32.max (e:Int)) (g:Int))=(((e &&&f) ^^^ (Fz e &&&g):Nat):Int):=by
 have hn:Wd (Fz e):=Wd.of (by unfold Fz;omega);rw[show IntKind.u32.max=((4294967295:Nat):Int) from by decide,rF (Wd.of δ) he,arU he,Lm he,Lm hn,rF (EU he) (EU hn)]
theorem ZA {a b c:Nat} (ha:Wd a) (hb:Wd b):bits .xor .u32 (bits .xor .u32 (bits .and .u32 (a:Int) (b:Int)) (bits .and .u32 (a:Int) (c:Int))) (bits .and .u32 (b:Int) (c:Int))=(((a &&&b) ^^^ (a &&&c) ^^^ (b &&&c):Nat):Int):=by
 rw[Lm ha,Lm ha,Lm hb,rF (EU ha) (EU ha),rF (DJ (EU ha) (EU ha)) (EU hb)]
theorem Xf {Pr:World→Prop} {w:World} {t t':TypeId} {cs cs':Array Value} (h:∀w1,aS w1 w.heap.size t cs→aS w1 (w.heap.size+1) t' cs'→ah w w1→Pr w1):Pr ((w.alloc (.cells cs t)).alloc (.cells cs' t')):=
 h _ ((aS.new w t cs).alloc _) (aS.vO w _ _ _) (((ah.refl w).alloc _).alloc _)
theorem OG (p L r H:Nat):((p:Int)+(L:Int)+(r:Int)+(H:Int)) % 4294967296=(((((p + L) % 4294967296+r) % 4294967296+H) % 4294967296:Nat):Int):=ω
theorem aS.cast {w:World} {g:Nat} {t:TypeId} {cs cs':Array Value} (h:aS w g t cs) (e:cs=cs'):aS w g t cs':=e ▸ h
theorem ah.iM {w w':World} (h:ah w w') (row:Option Nat):w.grownBy w' row:=⟨Below.os h,Below.tape h,Below.output h,Below.size h,fun i hi _=>Below.block h i hi⟩
theorem abO {a b n:Nat} (hb:b < 2 ^ n):a * 2 ^ n |||b = a * 2 ^ n + b:=by
 have:=Nat.shiftLeft_add_eq_or_of_lt (i:=n) (b:=b) hb a;rw[Nat.shiftLeft_eq] at this;exact this.symm
theorem alj {a b c d:Nat} (ha:a < 256) (hb:b < 256) (hc:c < 256) (hd:d < 256) :
 bits .or .u32 (bits .or .u32 (bits .or .u32 ((a:Int) % 4294967296*16777216 % 4294967296) ((b:Int) % 4294967296*65536 % 4294967296)) ((c:Int) % 4294967296*256 % 4294967296)) ((d:Int) % 4294967296)=((a * 16777216+b * 65536+c * 256+d:Nat):Int):=by
 have e1:(a:Int) % 4294967296*16777216 % 4294967296=((a * 16777216:Nat):Int):=ω;have e2:(b:Int) % 4294967296*65536 % 4294967296=((b * 65536:Nat):Int):=ω;have e3:(c:Int) % 4294967296*256 % 4294967296=((c * 256:Nat):Int):=ω;have e4:(d:Int) % 4294967296=((d:Nat):Int):=ω;have o1:a * 16777216 |||b * 65536=a * 16777216+b * 65536:=abO (n:=24) ω
 have o2:a * 16777216+b * 65536 |||c * 256=a * 16777216+b * 65536+c * 256:=by
  have:=abO (a:=a * 256+b) (b:=c * 256) (n:=16) ω;rw[show (2:Nat) ^ 16=65536 from rfl,Nat.add_mul,Nat.mul_assoc] at this;exact this
 have o3:a * 16777216+b * 65536+c * 256 |||d = a * 16777216+b * 65536+c * 256+d:=by
  have:=abO (a:=a * 65536+b * 256+c) (b:=d) (n:=8) ω;rw[show (2:Nat) ^ 8=256 from rfl,Nat.add_mul,Nat.add_mul,Nat.mul_assoc,Nat.mul_assoc] at this;exact this
 have w1:Wd (a * 16777216):=Wd.of ω;have w2:Wd (b * 65536):=Wd.of ω;have w3:Wd (c * 256):=Wd.of ω;have w4:Wd d:=Wd.of ω;have w5:Wd (a * 16777216+b * 65536):=Wd.of ω;have w6:Wd (a * 16777216+b * 65536+c * 256):=Wd.of ω;rw[e1,e2,e3,e4,aml w1 w2,o1,aml w5 w3,o2,aml w6 w4,o3]
theorem aF (w:World) (g:Nat) (cs:Array Value):w.grownBy (w.setRow g cs) (some g) where
 os:=rfl
 tape:=rfl
 output:=rfl
 size:=by unfold World.setRow;simp
 block:=fun k _ hne=>by
  unfold World.setRow;have:g≠k:=fun h=>hne (by rw[h])
  simp[Array.getElem?_modify,this]
theorem aS.iM {w w':World} {j g:Nat} {t:TypeId} {cs:Array Value} (h:aS w j t cs) (hg:w.grownBy w' (some g)) (hne:j≠g):aS w' j t cs:=
 (hg.block j h.lt (by simpa using hne)).trans h
theorem ah.kL {a w w':World} {g:Nat} (h:ah a w) (hg:w.grownBy w' (some g)) (hl:a.heap.size≤g):ah a w':=
 ah.of ⟨hg.os.trans (Below.os h),hg.tape.trans (Below.tape h),hg.output.trans (Below.output h),Nat.le_trans h.size hg.size,fun j hj=>(hg.block j (Nat.lt_of_lt_of_le hj h.size) (by simp;omega)).trans (Below.block h j hj)⟩
theorem aj (w:World) (p:Addr) (v:Value):w.grownBy (w.setCell p v) (some p.block) where
 os:=rfl
 tape:=rfl
 output:=rfl
 size:=by simp
 block:=fun k _ hne=>Below.heap_setCell w p v k (by intro h;exact hne (by rw[h]))
theorem atK {w:World} {g a b c d e f h i:Nat} (hB:aS w g 157 (dJ [a,b,c,d,e,f,h,i])) :
 ∃w',(Builtin.copy_ #[202,202] 3 #[.slice (some ⟨g,1,none⟩) 7 7,.slice (some ⟨g,0,none⟩) 7 8]).run Tryz.prog w =.ok (goInt 7) w'∧aS w' g 157 (dJ [a,a,b,c,d,e,f,h])∧w.grownBy w' (some g):=by
 have hc:=run_copy_row (P:=Tryz.prog) w 202 202 3 38 g 1 7 7 ⟨g,0,none⟩ 7 8 (dJ [a,b,c,d,e,f,h,i]) 157 (dJ [a,b,c,d,e,f,h]).toList Tryz.underlying202 κ hB rfl
  (fun j v hv=>by
   have hj:j < 7:=(List.getElem?_eq_some_iff.1 hv).1;have:(⟨g,0,none⟩:Addr).add j = ⟨g,j,none⟩:=by unfold Addr.add;by_cases hj:j = 0 <;> simp[hj]
   rw[this,hB.cell j,←hv];match j,hj with
   | 0,_ | 1,_ | 2,_ | 3,_ | 4,_ | 5,_ | 6,_=>rfl) (by simp[dJ]) (by intro v hv;simp[dJ] at hv;rcases hv with rfl | rfl | rfl | rfl | rfl | rfl | rfl <;> rfl)
 exact⟨_,hc,setRow_heap w g _ _ _ _ hB,aF w g _⟩
theorem ai8 {l:List Nat} (h:l.length<64):(kV l).set l.length 0=kV l:=by
 apply List.ext_getElem?;intro i;rw[List.getElem?_set];by_cases hi:l.length=i
 ·subst hi;have h2:=Gn h;rw[if_pos rfl,if_pos (by rw[qL ω];exact h)];rw[List.getD_eq_getElem?_getD,List.getElem?_eq_getElem (by rw[qL ω];exact h)] at h2;rw[List.getElem?_eq_getElem (by rw[qL ω];exact h)];rw[show (0:Nat)=_ from h2.symm];rfl
 ·rw[if_neg hi]
theorem kF (v:V8):(b_ v).length=8:=rfl
theorem aea {l:List Nat} {rest:Value} {count:Int} {k:Nat} (h:k<l.length):(yH l rest count)[k]? = some (.int .u32 ((l.getD k 0:Nat):Int)):=by
 unfold yH;rw[Array.getElem?_append_left (by rw[tC];exact h),oq h]
theorem ai0 {l:List Nat} {rest:Value} {count:Int} {k:Nat} (h:k<l.length) (x:Nat):(yH l rest count).setIfInBounds k (.int .u32 (x:Int))=yH (l.set k x) rest count:=by
 unfold yH;rw[←uz,Array.setIfInBounds_append_left (by rw[tC];exact h)]
theorem Vr {xs ys:List Nat} (hl:xs.length=ys.length) {k:Nat} (hk:k<xs.length):(xs.take k++ys.drop k).getD k 0=ys.getD k 0:=by
 simp only[List.getD_eq_getElem?_getD];rw[List.getElem?_append_right (by rw[List.length_take];omega),List.length_take,Nat.min_eq_left ω,Nat.sub_self,List.getElem?_drop,Nat.add_zero]
theorem Ae {xs ys:List Nat} (hl:xs.length=ys.length) {k:Nat} (hk:k≤xs.length):(xs.take k++ys.drop k).length=xs.length:=by
 rw[List.length_append,List.length_take,List.length_drop];omega
theorem Gh {xs ys:List Nat} (hl:xs.length=ys.length) {k:Nat} (hk:k<xs.length):(xs.take k++ys.drop k).set k (xs.getD k 0)=xs.take (k+1)++ys.drop (k+1):=by
 rw[List.set_append_right _ _ (by rw[List.length_take];omega),List.length_take,Nat.min_eq_left ω,Nat.sub_self];have hy:k<ys.length:=ω;rw[List.drop_eq_getElem_cons hy,List.set_cons_zero,List.take_add_one,List.append_assoc,List.getD_eq_getElem?_getD,List.getElem?_eq_getElem hk];rfl
theorem ae5 (v u:V8) {k:Nat} (hk:k<8):(b_ (alu v u)).getD k 0=((b_ v).getD k 0+(b_ u).getD k 0) % 4294967296:=by
 match k,hk with
 | 0,_ | 1,_ | 2,_ | 3,_ | 4,_ | 5,_ | 6,_ | 7,_=>rfl
theorem ajf {A:Option Addr} {c:Nat} {b:List Nat} {g gw:Nat} {w w1:World} {Q0:Exit→Act→World→Prop} {x2 x3 x5 x6 x7 x8 x9 JA Hr F8 JQ Df yZ xX Ad Ac yE xW xU xR xQ xI xH xG xP xO yD yY yX yV yU yT Aa z_ zZ zY zX zW zV zU zT zS zQ zO zN zM zL zK zJ zI Dc C_ CG zH Cb B_ BZ BX BU BR BP BN BM BK zG zF zD zC zB BJ BH BG BF BD BA Bz Bv Bq CB Cm Cj Ci Ce zA zy zx zu zq zo C9 CZ Bo Bl zn Bj Bh kS kR kQ kP kN kM mF mD mg lZ mV mQ nX ny ql qj qh qg qc pI pG pF pq o_ o9 oZ oW rP rO rM rJ rH rG qX qJ yF EF ED EC Ez Ey Ew Eu Et Es Ep Eo En Em Ej Ei Eh Ef Ee Ed Ec Eb Ea D_ Gf D9 D8 D7 D6 D5 DZ DY DX DW DV DU DT DR DN DL DK:Value}
 (hA:Hid (dH w 1 kE A 64 b)) (hb:Hid (∀x∈b,x < 256)) (dF:Hid (gw=w.heap.size)) (ET:Hid (aS w1 gw 159 (dJ (kV [])))) (mX:Hid (ah w w1))
 (U_:∀c a d v w,Q0 (.panic c) (Act.put a d v) w→Q0 (.panic c) a w)
 (tY:∀(u5 u17 u18 u19 u20 u21 u22 u23 u24 u25 u26 u27 u28 u29 u30 u31 u32 u33 u34 u35 u36 u37 u38 u39 u40 u41 u42 u43 u44 u45 u46 u47 u48 u49 u50 u51 u52 u53 u54 u55:Value) (wr:World),Hid (aS wr gw 159 (dJ (kV (words 0 (bK b)))))∧Hid (ah w wr)→Q0 (.exit 0) ⟨((.pointer (some ⟨g,0,none⟩))::(.slice A 64 c)::x2::x3::(.pointer (some ⟨gw,0,none⟩))::u5::x6::x7::x8::x9::JA::Hr::F8::JQ::Df::yZ::xX::u17::u18::u19::u20::u21::u22::u23::u24::u25::u26::u27::u28::u29::u30::u31::u32::u33::u34::u35::u36::u37::u38::u39::u40::u41::u42::u43::u44::u45::u46::u47::u48::u49::u50::u51::u52::u53::u54::u55::CG::zH::Cb::B_::BZ::BX::BU::BR::BP::BN::BM::BK::zG::zF::zD::zC::zB::BJ::BH::BG::BF::BD::BA::Bz::Bv::Bq::CB::Cm::Cj::Ci::Ce::zA::zy::zx::zu::zq::zo::C9::CZ::Bo::Bl::zn::Bj::Bh::kS::kR::kQ::kP::kN::kM::mF::mD::mg::lZ::mV::mQ::nX::ny::ql::qj::qh::qg::qc::pI::pG::pF::pq::o_::o9::oZ::oW::rP::rO::rM::rJ::rH::rG::qX::qJ::yF::EF::ED::EC::Ez::Ey::Ew::Eu::Et::Es::Ep::Eo::En::Em::Ej::Ei::Eh::Ef::Ee::Ed::Ec::Eb::Ea::D_::Gf::D9::D8::D7::D6::D5::DZ::DY::DX::DW::DV::DU::DT::DR::DN::DL::DK::[]).toArray,[]⟩ wr) :
 Code.wp Tryz.prog (Gz Tryz.f134 0) Q0 ⟨((.pointer (some ⟨g,0,none⟩))::(.slice A 64 c)::x2::x3::(.pointer (some ⟨gw,0,none⟩))::x5::x6::x7::x8::x9::JA::Hr::F8::JQ::Df::yZ::xX::(.int .i64 0)::Ad::Ac::yE::xW::xU::xR::xQ::xI::xH::xG::xP::xO::yD::yY::yX::yV::yU::yT::Aa::z_::zZ::zY::zX::zW::zV::zU::zT::zS::zQ::zO::zN::zM::zL::zK::zJ::zI::Dc::C_::CG::zH::Cb::B_::BZ::BX::BU::BR::BP::BN::BM::BK::zG::zF::zD::zC::zB::BJ::BH::BG::BF::BD::BA::Bz::Bv::Bq::CB::Cm::Cj::Ci::Ce::zA::zy::zx::zu::zq::zo::C9::CZ::Bo::Bl::zn::Bj::Bh::kS::kR::kQ::kP::kN::kM::mF::mD::mg::lZ::mV::mQ::nX::ny::ql::qj::qh::qg::qc::pI::pG::pF::pq::o_::o9::oZ::oW::rP::rO::rM::rJ::rH::rG::qX::qJ::yF::EF::ED::EC::Ez::Ey::Ew::Eu::Et::Es::Ep::Eo::En::Em::Ej::Ei::Eh::Ef::Ee::Ed::Ec::Eb::Ea::D_::Gf::D9::D8::D7::D6::D5::DZ::DY::DX::DW::DV::DU::DT::DR::DN::DL::DK::[]).toArray,[]⟩ w1:=by
 conv=>arg 2;whnf
 go_loopw [17] (fun i wr=>∃k:Nat,k≤16∧i =.int .i64 k∧Hid (aS wr gw 159 (dJ (kV ((bK b).take k))))∧Hid (ah w wr)) (fun i _=>16-(intOf i).toNat)
 case atStart=>exact⟨0,ω,rfl,ET,mX⟩
 case round=>
  obtain⟨k,hk,rfl,hB,hG⟩:=hrel;by_cases hlt:k<16
  ·obtain⟨bb,off,x0,rfl,hs0,hx0,hc0⟩:=((hA.o).keep hG.o).at_ (i:=4*k) ω;obtain⟨_,_,x1,e1,_,hx1,hc1⟩:=((hA.o).keep hG.o).at_ (i:=4*k+1) ω;obtain⟨_,_,x2,e2,_,hx2,hc2⟩:=((hA.o).keep hG.o).at_ (i:=4*k+2) ω;obtain⟨_,_,x3,e3,_,hx3,hc3⟩:=((hA.o).keep hG.o).at_ (i:=4*k+3) ω;cases e1;cases e2;cases e3
   have c0:wr.cell? ⟨bb,off+4*k,none⟩=some (.int .u8 x0):=by simpa using hc0 0 _ rfl
   have c1:wr.cell? ⟨bb,off+(4*k+1),none⟩=some (.int .u8 x1):=by simpa using hc1 0 _ rfl
   have c2:wr.cell? ⟨bb,off+(4*k+2),none⟩=some (.int .u8 x2):=by simpa using hc2 0 _ rfl
   have c3:wr.cell? ⟨bb,off+(4*k+3),none⟩=some (.int .u8 x3):=by simpa using hc3 0 _ rfl
   have hw:=alj (hb.o x0 (List.mem_of_getElem? hx0)) (hb.o x1 (List.mem_of_getElem? hx1)) (hb.o x2 (List.mem_of_getElem? hx2)) (hb.o x3 (List.mem_of_getElem? hx3));have V3:x0*16777216+x1*65536+x2*256+x3=be4 b k:=by
    unfold be4;simp only[List.getD_eq_getElem?_getD,hx0,hx1,hx2,hx3,Option.getD_some]
   have hb0:Hid (x0<256):=hb.o x0 (List.mem_of_getElem? hx0);have hb1:Hid (x1<256):=hb.o x1 (List.mem_of_getElem? hx1);have hb2:Hid (x2<256):=hb.o x2 (List.mem_of_getElem? hx2);have hb3:Hid (x3<256):=hb.o x3 (List.mem_of_getElem? hx3);rw[V3] at hw;have hl:((bK b).take k).length=k:=take_len ω;have s0:wr.cell? ⟨gw,k,none⟩=some (.int .u32 0):=by
    have h1:=Gn (l:=(bK b).take k) ω;have:=(hB.o.cell k).trans (oq (by rw[qL ω];omega));rw[hl] at h1;rw[h1] at this;exact this
   have f0:=hB.o.frozen k;have z0:=hB.o.lt;clear hx0 hx1 hx2 hx3 hc0 hc1 hc2 hc3 V3;generalize hX:be4 b k=X at *
   replace hX:=ζ hX;replace hl:=ζ hl;go_wp2_with fail;refine aJ κ ?_;refine rK (.range 35) 1 ?_;iterate 35 refine aB ?_
   refine ay ?_;refine dI (i:=35) rfl κ κ (fun wN hN hS K' hK=> ?_);clear hS;have s1:=hN.cell s0;have f1:wN.frozen? ⟨gw,k,none⟩=false:=((bW hN).2 _ _ z0).trans f0;have mY:=(hB.o.grows hN).dO k (.int .u32 (X:Int));have iC:=(hG.o.trans hN).setCell (p:=⟨gw,k,none⟩) (Nat.le_of_eq dF.o.symm) (.int .u32 (X:Int));replace mY:=ζ mY;replace iC:=ζ iC;go_simp;refine hK.o _ _ ?_;clear hK s1 f1 hN hB hG s0 f0 z0 c0 c1 c2 c3;generalize wN.setCell ⟨gw,k,none⟩ (.int .u32 (X:Int))=w2 at *
   go_wp2;go_roundw
   case rel=>exact⟨k+1,ω,ν,by
    have:=mY.o;rw[uz] at this;have h2:=Js (l:=(bK b).take k) X (by rw[hl.o];omega);rw[hl.o] at h2;rw[h2,←hX.o,←Po b hlt] at this;exact this,iC⟩
   case measure=>exact ψ
  ·obtain rfl:k=16:=ω;have Iy:Hid (aS wr gw 159 (dJ (kV (words 0 (bK b))))):=by
    have:=hB.o;rw[List.take_of_length_le (Nat.le_of_eq (mO b))] at this;exact this
   clear hB;go_wp2;exact⟨Iy,hG⟩
theorem aje {b:List Nat} {gw g6:Nat} {w w3:World} {Q0:Exit→Act→World→Prop} {x0 x1 x2 x3 x5 x9 JA Hr F8 JQ Df yZ xX CJ Ad Ac yE xW xU xR xQ xI xH xG xP xO yD yY yX yV yU yT Aa z_ zZ zY zX zW zV zU zT zS zQ zO zN zM zL zK zJ zI Dc C_ CG zH Cb B_ BZ BX BU BR BP BN BM BK zG zF zD zC zB BJ BH BG BF BD BA Bz Bv Bq CB Cm Cj Ci Ce zA zy zx zu zq zo C9 CZ Bo Bl zn Bj Bh kS kR kQ kP kN kM mF mD mg lZ mV mQ nX ny ql qj qh qg qc pI pG pF pq o_ o9 oZ oW rP rO rM rJ rH rG qX qJ yF EF ED EC Ez Ey Ew Eu Et Es Ep Eo En Em Ej Ei Eh Ef Ee Ed Ec Eb Ea D_ Gf D9 D8 D7 D6 D5 DZ DY DX DW DV DU DT DR DN DL DK:Value}
 (hb:Hid (∀x∈b,x < 256)) (dF:Hid (gw=w.heap.size)) (Xt:Hid (gw<g6)) (Iy:Hid (aS w3 gw 159 (dJ (kV (words 0 (bK b)))))) (yQ:Hid (aS w3 g6 200 #[.int .i64 7,.int .i64 18,.int .i64 0,.int .i64 3])) (Lu:Hid (aS w3 (g6+1) 200 #[.int .i64 17,.int .i64 19,.int .i64 0,.int .i64 10])) (CQ:Hid (ah w w3))
 (U_:∀c a d v w,Q0 (.panic c) (Act.put a d v) w→Q0 (.panic c) a w)
 (tY:∀(u8 Yt Yr Yq Yp Yo Yn u64 Ym Yl Yk u68 u69 u70 u71 u72 Yj Yi Yh Yg Yf Ye Yd Yc Yb Vq Vp Vo Vm Vl:Value) (wr:World),Hid (aS wr gw 159 (dJ (words 48 (bK b))))∧Hid (ah w wr)→Q0 (.exit 2) ⟨(x0::x1::x2::x3::(.pointer (some ⟨gw,0,none⟩))::x5::(.pointer (some ⟨g6,0,none⟩))::(.pointer (some ⟨g6+1,0,none⟩))::u8::x9::JA::Hr::F8::JQ::Df::yZ::xX::CJ::Ad::Ac::yE::xW::xU::xR::xQ::xI::xH::xG::xP::xO::yD::yY::yX::yV::yU::yT::Aa::z_::zZ::zY::zX::zW::zV::zU::zT::zS::zQ::zO::zN::zM::zL::zK::zJ::zI::Dc::C_::CG::zH::Yt::Yr::Yq::Yp::Yo::Yn::u64::Ym::Yl::Yk::u68::u69::u70::u71::u72::Yj::Yi::Yh::Yg::Yf::Ye::Yd::Yc::Yb::Vq::Vp::Vo::Vm::Vl::zA::zy::zx::zu::zq::zo::C9::CZ::Bo::Bl::zn::Bj::Bh::kS::kR::kQ::kP::kN::kM::mF::mD::mg::lZ::mV::mQ::nX::ny::ql::qj::qh::qg::qc::pI::pG::pF::pq::o_::o9::oZ::oW::rP::rO::rM::rJ::rH::rG::qX::qJ::yF::EF::ED::EC::Ez::Ey::Ew::Eu::Et::Es::Ep::Eo::En::Em::Ej::Ei::Eh::Ef::Ee::Ed::Ec::Eb::Ea::D_::Gf::D9::D8::D7::D6::D5::DZ::DY::DX::DW::DV::DU::DT::DR::DN::DL::DK::[]).toArray,[]⟩ wr) :
 Code.wp Tryz.prog (Gz Tryz.f134 1) Q0 ⟨(x0::x1::x2::x3::(.pointer (some ⟨gw,0,none⟩))::x5::(.pointer (some ⟨g6,0,none⟩))::(.pointer (some ⟨g6+1,0,none⟩))::(.int .i64 16)::x9::JA::Hr::F8::JQ::Df::yZ::xX::CJ::Ad::Ac::yE::xW::xU::xR::xQ::xI::xH::xG::xP::xO::yD::yY::yX::yV::yU::yT::Aa::z_::zZ::zY::zX::zW::zV::zU::zT::zS::zQ::zO::zN::zM::zL::zK::zJ::zI::Dc::C_::CG::zH::Cb::B_::BZ::BX::BU::BR::BP::BN::BM::BK::zG::zF::zD::zC::zB::BJ::BH::BG::BF::BD::BA::Bz::Bv::Bq::CB::Cm::Cj::Ci::Ce::zA::zy::zx::zu::zq::zo::C9::CZ::Bo::Bl::zn::Bj::Bh::kS::kR::kQ::kP::kN::kM::mF::mD::mg::lZ::mV::mQ::nX::ny::ql::qj::qh::qg::qc::pI::pG::pF::pq::o_::o9::oZ::oW::rP::rO::rM::rJ::rH::rG::qX::qJ::yF::EF::ED::EC::Ez::Ey::Ew::Eu::Et::Es::Ep::Eo::En::Em::Ej::Ei::Eh::Ef::Ee::Ed::Ec::Eb::Ea::D_::Gf::D9::D8::D7::D6::D5::DZ::DY::DX::DW::DV::DU::DT::DR::DN::DL::DK::[]).toArray,[]⟩ w3:=by
 conv=>arg 2;whnf
 go_loopw [8] (fun i wr=>∃m:Nat,16≤m∧m≤64∧i =.int .i64 m∧Hid (aS wr gw 159 (dJ (kV (words (m - 16) (bK b)))))∧Hid (aS wr g6 200 #[.int .i64 7,.int .i64 18,.int .i64 0,.int .i64 3])∧Hid (aS wr (g6+1) 200 #[.int .i64 17,.int .i64 19,.int .i64 0,.int .i64 10])∧Hid (ah w wr)) (fun i _=>64-(intOf i).toNat)
 case atStart=>exact⟨16,ω,ω,rfl,Iy,yQ,Lu,CQ⟩
 case round=>
  clear Iy yQ Lu CQ;obtain⟨m,hm1,hm2,rfl,hB,yQ,Lu,hG⟩:=hrel;by_cases hlt:m < 64
  ·have hlen:(words (m - 16) (bK b)).length=m:=by rw[tu,mO];omega
   have hWd:=YK hb.o (m - 16);have hat:∀j,j < m→wr.cell? ⟨gw,j,none⟩=some (.int .u32 (((words (m - 16) (bK b)).getD j 0:Nat):Int)):=fun j hj=>by
    have:=(hB.o.cell j).trans (oq (by rw[qL ω];omega));rw[Zo ω] at this;exact this
   have c0:=hat (m - 16) ω;have c1:=hat (m - 15) ω;have c2:=hat (m - 7) ω;have c3:=hat (m - 2) ω;have hq:=hWd (m - 15);have hs:=hWd (m - 2);have cL:=fun W=>acS hq W
   have cH:=fun W=>Zy hs W
   have hN1:=QN (n:=m - 16) (b:=b);rw[show m - 16+1=m - 15 by omega,show m - 16+9=m - 7 by omega,show m - 16+14=m - 2 by omega] at hN1;unfold QO at hN1;have s0:wr.cell? ⟨gw,m,none⟩=some (.int .u32 0):=by
    have h1:=Gn (l:=words (m - 16) (bK b)) ω;have:=(hB.o.cell m).trans (oq (by rw[qL ω];omega));rw[hlen] at h1;rw[h1] at this;exact this
   have f0:=hB.o.frozen m;have z0:=hB.o.lt;have d0:=yQ.o.cell 0;have d1:=yQ.o.cell 1;have d2:=yQ.o.cell 2;have d3:=yQ.o.cell 3;have z6:=yQ.o.lt;have e0:=Lu.o.cell 0;have e1:=Lu.o.cell 1;have e2:=Lu.o.cell 2;have e3:=Lu.o.cell 3;have z7:=Lu.o.lt;clear hWd hat hq hs;generalize (words (m - 16) (bK b)).getD (m - 16) 0=p at *
   generalize (words (m - 16) (bK b)).getD (m - 15) 0=q at *
   generalize (words (m - 16) (bK b)).getD (m - 7) 0=r at *
   generalize (words (m - 16) (bK b)).getD (m - 2) 0=s at *
   generalize LV 7 18 3 q=L at *
   generalize LV 17 19 10 s = H at *
   have hw:=OG p L r H;rw[←hN1] at hw;generalize hX:rQ (words (m - 16) (bK b))=X at *
   replace hX:=ζ hX;clear hN1;replace hlen:=ζ hlen;replace cL:=ζ cL;replace cH:=ζ cH;go_wp2_with fail;refine aJ κ ?_;refine rK (.range 25) 1 ?_;iterate 10 refine aB ?_
   refine bJ (.int .u32 (L:Int)) rfl χ (fun wq gY=> ?_) ?_
   ·obtain⟨qB,rE⟩:=bW gY;go_simp;exact Calls.mono (cL.out wq) (fun e w'' h=>h)
   go_simp;iterate 11 refine aB ?_
   refine bJ (.int .u32 (H:Int)) rfl χ (fun wq gY=> ?_) ?_
   ·obtain⟨qB,rE⟩:=bW gY;go_simp;exact Calls.mono (cH.out wq) (fun e w'' h=>h)
   go_simp;iterate 2 refine aB ?_
   refine ay ?_;refine dI (i:=25) rfl κ κ (fun wN hN hS K' hK=> ?_);clear hS;have s1:=hN.cell s0;have f1:wN.frozen? ⟨gw,m,none⟩=false:=((bW hN).2 _ _ z0).trans f0;have mY:=(hB.o.grows hN).dO m (.int .u32 (X:Int));have iC:=(hG.o.trans hN).setCell (p:=⟨gw,m,none⟩) (Nat.le_of_eq dF.o.symm) (.int .u32 (X:Int));have apI:=(yQ.o.grows hN).far (p:=⟨gw,m,none⟩) (Nat.ne_of_gt Xt.o) (.int .u32 (X:Int));have apH:=(Lu.o.grows hN).far (p:=⟨gw,m,none⟩) (Nat.ne_of_gt (Nat.lt_succ_of_lt Xt.o)) (.int .u32 (X:Int));replace mY:=ζ mY;replace iC:=ζ iC;replace apI:=ζ apI;replace apH:=ζ apH;go_simp;refine hK.o _ _ ?_;clear hK s1 f1 hN hB hG yQ Lu s0 f0 z0 z6 z7 c0 c1 c2 c3 d0 d1 d2 d3 e0 e1 e2 e3;generalize wN.setCell ⟨gw,m,none⟩ (.int .u32 (X:Int))=w2 at *
   go_wp2;go_roundw
   case rel=>exact⟨m + 1,ω,ω,ν,by
    have:=mY.o;rw[uz] at this;have h2:=Js (l:=words (m - 16) (bK b)) X (by rw[hlen.o];omega);rw[hlen.o,←hX.o,←Kv] at h2;rw[←hX.o,h2] at this;rw[show m + 1-16=m - 16+1 by omega];exact this,apI,apH,iC⟩
   case measure=>exact ψ
  ·obtain rfl:m = 64:=ω;have Iy:Hid (aS wr gw 159 (dJ (words 48 (bK b)))):=by
    have:=hB.o;rw[RD (by rw[tu,mO])] at this;exact this
   clear hB Xt yQ Lu;go_wp2;exact⟨Iy,hG⟩
theorem ajd {KA:Array Value} {WL:List Nat} {RV:Nat→V8} {KF:Nat→Nat} {gw g9:Nat} {w w5:World} {Q0:Exit→Act→World→Prop} {x0 x1 x2 x3 x5 x6 x7 x8 F8 JQ Df yZ xX CJ Ad Ac yE xW xU xR xQ xI xH xG xP xO yD yY yX yV yU yT Aa z_ zZ zY zX zW zV zU zT zS zQ zO zN zM zL zK zJ zI Dc C_ CG zH Cb B_ BZ BX BU BR BP BN BM BK zG zF zD zC zB BJ BH BG BF BD BA Bz Bv Bq CB Cm Cj Ci Ce zA zy zx zu zq zo Bo Bl zn Bj Bh kS kR kQ kP kN kM mF mD mg lZ mV mQ nX ny ql qj qh qg qc pI pG pF pq o_ o9 oZ oW rP rO rM rJ rH rG qX qJ yF EF ED EC Ez Ey Ew Eu Et Es Ep Eo En Em Ej Ei Eh Ef Ee Ed Ec Eb Ea D_ Gf D9 D8 D7 D6 D5 DZ DY DX DW DV DU DT DR DN DL DK:Value}
 (hKat:Hid (∀k,k<64→KA[k]? = some (.int .u32 ((KF k:Nat):Int)))) (Oc:Hid (∀k,k<64→(dJ WL)[k]? = some (.int .u32 ((WL.getD k 0:Nat):Int)))) (KN:Hid (∀k,RV (k+1)=OO (RV k) (KF k) (WL.getD k 0))) (oP:Hid (∀k,(RV k).ok))
 (dF:Hid (gw=w.heap.size)) (NV:Hid (gw<g9)) (Iy:Hid (aS w5 gw 159 (dJ WL))) (dR:Hid (aS w5 g9 200 #[.int .i64 6,.int .i64 11,.int .i64 25,.int .i64 0])) (qE:Hid (aS w5 (g9+1) 200 #[.int .i64 2,.int .i64 13,.int .i64 22,.int .i64 0])) (jQ:Hid (aS w5 (g9+1+1) 157 (dJ (b_ (RV 0))))) (vV:Hid (ah w w5))
 (U_:∀c a d v w,Q0 (.panic c) (Act.put a d v) w→Q0 (.panic c) a w)
 (tY:∀(u12 u13 u14 u15 Ya X_ X9 u97 X8 X7 Ih Ig Ie Ic Ib Ia H_ H9 H8 H7 Fe Fb H6 JG JF JE JD JC JB PZ PY PX PW PV PU PS PN UW UU UR UQ UO UN abG aiX aiW aiV aiU u138 aiT aiS aiR aiQ aiP aiO aiN aiM aiL aiK aiJ aiI aiH aiG aiF aiE aiD aiC aiB aiA:Value) (wr:World),Hid (aS wr (g9+1+1) 157 (dJ (b_ (RV 64))))∧Hid (ah w wr)→Q0 (.exit 4) ⟨(x0::x1::x2::x3::(.pointer (some ⟨gw,0,none⟩))::x5::x6::x7::x8::(.pointer (some ⟨g9,0,none⟩))::(.pointer (some ⟨g9+1,0,none⟩))::(.pointer (some ⟨g9+1+1,0,none⟩))::u12::u13::u14::u15::xX::CJ::Ad::Ac::yE::xW::xU::xR::xQ::xI::xH::xG::xP::xO::yD::yY::yX::yV::yU::yT::Aa::z_::zZ::zY::zX::zW::zV::zU::zT::zS::zQ::zO::zN::zM::zL::zK::zJ::zI::Dc::C_::CG::zH::Cb::B_::BZ::BX::BU::BR::BP::BN::BM::BK::zG::zF::zD::zC::zB::BJ::BH::BG::BF::BD::BA::Bz::Bv::Bq::CB::Cm::Cj::Ci::Ce::zA::zy::zx::zu::zq::zo::(.agg KA)::Ya::X_::X9::u97::X8::X7::Ih::Ig::Ie::Ic::Ib::Ia::H_::H9::H8::H7::Fe::Fb::H6::JG::JF::JE::JD::JC::JB::PZ::PY::PX::PW::PV::PU::PS::PN::UW::UU::UR::UQ::UO::UN::abG::aiX::aiW::aiV::aiU::u138::aiT::aiS::aiR::aiQ::aiP::aiO::aiN::aiM::aiL::aiK::aiJ::aiI::aiH::aiG::aiF::aiE::aiD::aiC::aiB::aiA::Gf::D9::D8::D7::D6::D5::DZ::DY::DX::DW::DV::DU::DT::DR::DN::DL::DK::[]).toArray,[]⟩ wr) :
 Code.wp Tryz.prog (Gz Tryz.f134 2) Q0 ⟨(x0::x1::x2::x3::(.pointer (some ⟨gw,0,none⟩))::x5::x6::x7::x8::(.pointer (some ⟨g9,0,none⟩))::(.pointer (some ⟨g9+1,0,none⟩))::(.pointer (some ⟨g9+1+1,0,none⟩))::F8::JQ::Df::yZ::xX::CJ::Ad::Ac::yE::xW::xU::xR::xQ::xI::xH::xG::xP::xO::yD::yY::yX::yV::yU::yT::Aa::z_::zZ::zY::zX::zW::zV::zU::zT::zS::zQ::zO::zN::zM::zL::zK::zJ::zI::Dc::C_::CG::zH::Cb::B_::BZ::BX::BU::BR::BP::BN::BM::BK::zG::zF::zD::zC::zB::BJ::BH::BG::BF::BD::BA::Bz::Bv::Bq::CB::Cm::Cj::Ci::Ce::zA::zy::zx::zu::zq::zo::(.agg KA)::(.int .i64 0)::Bo::Bl::zn::Bj::Bh::kS::kR::kQ::kP::kN::kM::mF::mD::mg::lZ::mV::mQ::nX::ny::ql::qj::qh::qg::qc::pI::pG::pF::pq::o_::o9::oZ::oW::rP::rO::rM::rJ::rH::rG::qX::qJ::yF::EF::ED::EC::Ez::Ey::Ew::Eu::Et::Es::Ep::Eo::En::Em::Ej::Ei::Eh::Ef::Ee::Ed::Ec::Eb::Ea::D_::Gf::D9::D8::D7::D6::D5::DZ::DY::DX::DW::DV::DU::DT::DR::DN::DL::DK::[]).toArray,[]⟩ w5:=by
 conv=>arg 2;whnf
 go_loopw [94] (fun i wr=>∃k:Nat,k≤64∧i =.int .i64 k∧Hid (aS wr gw 159 (dJ WL))∧Hid (aS wr g9 200 #[.int .i64 6,.int .i64 11,.int .i64 25,.int .i64 0])∧Hid (aS wr (g9+1) 200 #[.int .i64 2,.int .i64 13,.int .i64 22,.int .i64 0])∧Hid (aS wr (g9+1+1) 157 (dJ (b_ (RV k))))∧Hid (ah w wr)) (fun i _=>64-(intOf i).toNat)
 case atStart=>exact⟨0,ω,rfl,Iy,dR,qE,jQ,vV⟩
 case round=>
  clear Iy dR qE jQ vV;obtain⟨k,hk,rfl,hB,dR,qE,jQ,hG⟩:=hrel;by_cases hlt:k<64
  ·have hka:=hKat.o k hlt;have hka:=Y3 hlt hka;have hwa:=(hB.o.cell k).trans (Oc.o k hlt);have hst:=KN.o k;have hu:=oP.o k;generalize RV k=u at *
   obtain⟨a,b',c',d,e,f,g',z'⟩:=u;have q0:=jQ.o.c0;have q1:=jQ.o.c1;have q2:=jQ.o.c2;have q3:=jQ.o.c3;have q4:=jQ.o.c4;have q5:=jQ.o.c5;have q6:=jQ.o.c6;have q7:=jQ.o.c7;have qz:=jQ.o.lt;have d0:=qE.o.cell 0;have d1:=qE.o.cell 1;have d2:=qE.o.cell 2;have d3:=qE.o.cell 3;have dz:=qE.o.lt;clear d0 d1 d2 d3 dz;have d0:=dR.o.cell 0;have d1:=dR.o.cell 1;have d2:=dR.o.cell 2;have d3:=dR.o.cell 3;have dz:=dR.o.lt;have wz:=hB.o.lt;have cE:=fun W=>acU (x:=e) hu.2.2.2.2.1 W
   have cA:=fun W=>Xg (x:=a) hu.1 W
   generalize WL.getD k 0=Wk at *
   generalize KF k=Kk at *
   generalize hSE:sig 6 11 25 e = SE at *
   generalize hSA:sig 2 13 22 a = SA at *
   have hch:=ant (e:=e) (f:=f) (g:=g') hu.2.2.2.2.1;have hmj:=ZA (a:=a) (b:=b') (c:=c') hu.1 hu.2.1;have hT:((z':Int)+(SE:Int)+(((e &&&f) ^^^ (Fz e &&&g'):Nat):Int)+(Kk:Int)+(Wk:Int)) % 4294967296=((tOf ⟨a,b',c',d,e,f,g',z'⟩ Kk Wk:Nat):Int):=by
    unfold tOf t1;simp only[hSE];omega
   have hU:((SA:Int)+(((a &&&b') ^^^ (a &&&c') ^^^ (b' &&&c'):Nat):Int)) % 4294967296=((uOf ⟨a,b',c',d,e,f,g',z'⟩:Nat):Int):=by
    unfold uOf;simp only[hSA];omega
   unfold OO at hst;simp only at hst;generalize tOf ⟨a,b',c',d,e,f,g',z'⟩ Kk Wk=T at *
   generalize uOf ⟨a,b',c',d,e,f,g',z'⟩=U at *
   generalize (e &&&f) ^^^ (Fz e &&&g')=CH at *
   generalize (a &&&b') ^^^ (a &&&c') ^^^ (b' &&&c')=MJ at *
   replace cE:=ζ cE;replace cA:=ζ cA;replace hst:=ζ hst;replace hSE:=ζ hSE;replace hSA:=ζ hSA;replace hu:=ζ hu;go_wp2_with fail;refine aJ κ ?_;refine rK (.range 27) 0 ?_;iterate 5 refine aB ?_
   refine bJ (.int .u32 (SE:Int)) rfl χ (fun wq gY=> ?_) ?_
   ·obtain⟨qB,rE⟩:=bW gY;go_simp;exact Calls.mono (cE.out wq) (fun e w'' h=>h)
   go_simp;iterate 21 refine aB ?_
   refine ay ?_;refine aP κ (fun wN hN hS=> ?_);clear q0 q1 q2 q3 q4 q5 q6 q7 qz d0 d1 d2 d3 dz wz hwa hka;replace hB:=ζ (hB.o.grows hN);replace dR:=ζ (dR.o.grows hN);replace qE:=ζ (qE.o.grows hN);replace jQ:=ζ (jQ.o.grows hN);replace hG:=ζ (hG.o.trans hN);clear hN hS;have q0:=jQ.o.c0;have q1:=jQ.o.c1;have q2:=jQ.o.c2;have q3:=jQ.o.c3;have q4:=jQ.o.c4;have q5:=jQ.o.c5;have q6:=jQ.o.c6;have q7:=jQ.o.c7;have qz:=jQ.o.lt;have d0:=qE.o.cell 0;have d1:=qE.o.cell 1;have d2:=qE.o.cell 2;have d3:=qE.o.cell 3;have dz:=qE.o.lt;go_wp2_with fail;refine aJ κ ?_;refine rK (.range 23) 0 ?_;iterate 3 refine aB ?_
   refine bJ (.int .u32 (SA:Int)) rfl χ (fun wq gY=> ?_) ?_
   ·obtain⟨qB,rE⟩:=bW gY;go_simp;exact Calls.mono (cA.out wq) (fun e w'' h=>h)
   go_simp;iterate 19 refine aB ?_
   refine ay ?_;refine aP κ (fun wN hN hS=> ?_);rename_i aqY;clear q0 q1 q2 q3 q4 q5 q6 q7 qz d0 d1 d2 d3 dz;replace hB:=ζ (hB.o.grows hN);replace dR:=ζ (dR.o.grows hN);replace qE:=ζ (qE.o.grows hN);replace jQ:=ζ (jQ.o.grows hN);replace hG:=ζ (hG.o.trans hN);clear hN hS;have q0:=jQ.o.c0;have q1:=jQ.o.c1;have q2:=jQ.o.c2;have q3:=jQ.o.c3;have q4:=jQ.o.c4;have q5:=jQ.o.c5;have q6:=jQ.o.c6;have q7:=jQ.o.c7;have qz:=jQ.o.lt;have d0:=qE.o.cell 0;have d1:=qE.o.cell 1;have d2:=qE.o.cell 2;have d3:=qE.o.cell 3;have dz:=qE.o.lt;have f0:=jQ.o.frozen;go_wp2_with fail;refine aJ κ ?_;refine rK [0,1] 1 ?_;iterate 2 refine aB ?_
   refine ay ?_;refine dI (i:=2) rfl κ κ (fun wN hN hS K' hK=> ?_);clear hS;replace jQ:=ζ (jQ.o.grows hN);replace hB:=ζ (hB.o.grows hN);replace dR:=ζ (dR.o.grows hN);replace qE:=ζ (qE.o.grows hN);replace hG:=ζ (hG.o.trans hN);clear q0 q1 q2 q3 q4 q5 q6 q7 qz d0 d1 d2 d3 dz f0 hN;obtain⟨w8,hcp,MO,hby⟩:=atK jQ.o;replace MO:=ζ MO;replace hby:=ζ hby;go_simp;refine hK.o _ _ ?_;clear hK hcp jQ;replace hG:=ζ (hG.o.kL hby.o (by have:=NV.o;have:=dF.o;omega));replace hB:=ζ (hB.o.iM hby.o (by have:=NV.o;omega));replace dR:=ζ (dR.o.iM hby.o ω);replace qE:=ζ (qE.o.iM hby.o ω);clear hby;have q0:=MO.o.c0;have q4:=MO.o.c4;have f0:=MO.o.frozen 0;have f4:=MO.o.frozen 4;have qz:=MO.o.lt;have hD:((d:Int)+(T:Int)) % 4294967296=(((d + T) % 4294967296:Nat):Int):=ω;have hA':((T:Int)+(U:Int)) % 4294967296=(((T+U) % 4294967296:Nat):Int):=ω;have hBn:=(MO.o.dO 4 (.int .u32 (((d + T) % 4294967296:Nat):Int))).dO 0 (.int .u32 (((T+U) % 4294967296:Nat):Int));generalize (d + T) % 4294967296=D' at *
   generalize (T+U) % 4294967296=A' at *
   rw[uz,uz] at hBn;have Hy:=(hB.o.far (p:=⟨g9+1+1,4,none⟩) (by have:=NV.o;simp only;omega) (.int .u32 (D':Int))).far (p:=⟨g9+1+1,0,none⟩) (by have:=NV.o;simp only;omega) (.int .u32 (A':Int));have apG:=(dR.o.far (p:=⟨g9+1+1,4,none⟩) (by simp only;omega) (.int .u32 (D':Int))).far (p:=⟨g9+1+1,0,none⟩) (by simp only;omega) (.int .u32 (A':Int));have akP:=(qE.o.far (p:=⟨g9+1+1,4,none⟩) (by simp only;omega) (.int .u32 (D':Int))).far (p:=⟨g9+1+1,0,none⟩) (by simp only;omega) (.int .u32 (A':Int));have uj:=(hG.o.setCell (p:=⟨g9+1+1,4,none⟩) (by have:=NV.o;have:=dF.o;simp only;omega) (.int .u32 (D':Int))).setCell (p:=⟨g9+1+1,0,none⟩) (by have:=NV.o;have:=dF.o;simp only;omega) (.int .u32 (A':Int));clear hB dR qE hG MO;replace hBn:=ζ hBn;replace Hy:=ζ Hy;replace apG:=ζ apG;replace akP:=ζ akP;replace uj:=ζ uj;go_wp2;go_roundw
   case rel=>exact⟨k+1,ω,ν,Hy,apG,akP,by rw[hst.o];exact hBn,uj⟩
   case measure=>exact ψ
  ·obtain rfl:k=64:=ω;clear hB NV dR qE;go_wp2;exact⟨jQ,hG⟩
theorem ajc {xs ys zs:List Nat} {g gz:Nat} {rest:Value} {count:Int} {w w5:World} {Q0:Exit→Act→World→Prop} {x1 x2 x3 x4 x5 x6 x7 x8 x9 JA F8 JQ Df yZ xX CJ Ad Ac yE xW xU xR xQ xI xH xG xP xO yD yY yX yV yU yT Aa z_ zZ zY zX zW zV zU zT zS zQ zO zN zM zL zK zJ zI Dc C_ CG zH Cb B_ BZ BX BU BR BP BN BM BK zG zF zD zC zB BJ BH BG BF BD BA Bz Bv Bq CB Cm Cj Ci Ce zA zy zx zu zq zo C9 CZ Bo Bl zn Bj Bh kS kR kQ kP kN kM mF mD mg lZ mV mQ nX ny ql qj qh qg qc pI pG pF pq o_ o9 oZ oW rP rO rM rJ rH rG qX qJ yF EF ED EC Ez Ey Ew Eu Et Es Ep Eo En Em Ej Ei Eh Ef Ee Ed Ec Eb Ea D_ D9 D8 D7 D6 D5 DZ DY DX DW DV DU DT DR DN DL DK:Value}
 (JJ:Hid (∀j,j < 8→xs.getD j 0=(ys.getD j 0+zs.getD j 0) % 4294967296)) (Qc:xs.length=ys.length) (hl8:ys.length=8) (hlR:zs.length=8) (agR:Hid (aS w5 g 183 (yH ys rest count))) (jQ:Hid (aS w5 gz 157 (dJ zs))) (hby:Hid (w.grownBy w5 (some g))) (hgg:Hid (g≠gz))
 (U_:∀c a d v w,Q0 (.panic c) (Act.put a d v) w→Q0 (.panic c) a w)
 (tY:∀(u16 aiz aiy aix aiw aiv aiu ait ais air aiq aip aio ain ail aik aij aii:Value) (wr:World),Hid (aS wr g 183 (yH xs rest count))∧Hid (w.grownBy wr (some g))→Q0 (.exit 6) ⟨((.pointer (some ⟨g,0,none⟩))::x1::x2::x3::x4::x5::x6::x7::x8::x9::JA::(.pointer (some ⟨gz,0,none⟩))::F8::JQ::Df::yZ::u16::CJ::Ad::Ac::yE::xW::xU::xR::xQ::xI::xH::xG::xP::xO::yD::yY::yX::yV::yU::yT::Aa::z_::zZ::zY::zX::zW::zV::zU::zT::zS::zQ::zO::zN::zM::zL::zK::zJ::zI::Dc::C_::CG::zH::Cb::B_::BZ::BX::BU::BR::BP::BN::BM::BK::zG::zF::zD::zC::zB::BJ::BH::BG::BF::BD::BA::Bz::Bv::Bq::CB::Cm::Cj::Ci::Ce::zA::zy::zx::zu::zq::zo::C9::CZ::Bo::Bl::zn::Bj::Bh::kS::kR::kQ::kP::kN::kM::mF::mD::mg::lZ::mV::mQ::nX::ny::ql::qj::qh::qg::qc::pI::pG::pF::pq::o_::o9::oZ::oW::rP::rO::rM::rJ::rH::rG::qX::qJ::yF::EF::ED::EC::Ez::Ey::Ew::Eu::Et::Es::Ep::Eo::En::Em::Ej::Ei::Eh::Ef::Ee::Ed::Ec::Eb::Ea::D_::aiz::aiy::aix::aiw::aiv::aiu::ait::ais::air::aiq::aip::aio::ain::ail::aik::aij::aii::[]).toArray,[]⟩ wr) :
 Code.wp Tryz.prog (Gz Tryz.f134 3) Q0 ⟨((.pointer (some ⟨g,0,none⟩))::x1::x2::x3::x4::x5::x6::x7::x8::x9::JA::(.pointer (some ⟨gz,0,none⟩))::F8::JQ::Df::yZ::xX::CJ::Ad::Ac::yE::xW::xU::xR::xQ::xI::xH::xG::xP::xO::yD::yY::yX::yV::yU::yT::Aa::z_::zZ::zY::zX::zW::zV::zU::zT::zS::zQ::zO::zN::zM::zL::zK::zJ::zI::Dc::C_::CG::zH::Cb::B_::BZ::BX::BU::BR::BP::BN::BM::BK::zG::zF::zD::zC::zB::BJ::BH::BG::BF::BD::BA::Bz::Bv::Bq::CB::Cm::Cj::Ci::Ce::zA::zy::zx::zu::zq::zo::C9::CZ::Bo::Bl::zn::Bj::Bh::kS::kR::kQ::kP::kN::kM::mF::mD::mg::lZ::mV::mQ::nX::ny::ql::qj::qh::qg::qc::pI::pG::pF::pq::o_::o9::oZ::oW::rP::rO::rM::rJ::rH::rG::qX::qJ::yF::EF::ED::EC::Ez::Ey::Ew::Eu::Et::Es::Ep::Eo::En::Em::Ej::Ei::Eh::Ef::Ee::Ed::Ec::Eb::Ea::D_::(.int .i64 0)::D9::D8::D7::D6::D5::DZ::DY::DX::DW::DV::DU::DT::DR::DN::DL::DK::[]).toArray,[]⟩ w5:=by
 conv=>arg 2;whnf
 go_loopw [159] (fun i wx=>∃k:Nat,k≤8∧i =.int .i64 k∧Hid (aS wx g 183 (yH (xs.take k++ys.drop k) rest count))∧Hid (aS wx gz 157 (dJ zs))∧Hid (w.grownBy wx (some g))) (fun i _=>8-(intOf i).toNat)
 case atStart=>exact⟨0,ω,rfl,agR,jQ,hby⟩
 case round=>
  clear agR jQ hby;obtain⟨k,hk,rfl,hS,hZ,hby⟩:=hrel;by_cases hlt:k<8
  ·have e1:=(hS.o.cell k).trans (aea (by rw[Ae Qc ω];omega));rw[Vr Qc ω] at e1;have e2:=(hZ.o.cell k).trans (oq ω);have hne:=JJ.o k hlt;have aO:=Gh Qc (k:=k) ω;have hSn:=fun x=>ai0 (l:=xs.take k++ys.drop k) (rest:=rest) (count:=count) (k:=k) (by rw[Ae Qc ω];omega) x
   have f1:=hS.o.frozen k;have z1:=hS.o.lt;have z2:=hZ.o.lt;generalize ys.getD k 0=Y at *
   generalize zs.getD k 0=Z at *
   have KO:((Y:Int)+(Z:Int)) % 4294967296=((xs.getD k 0:Nat):Int):=by rw[hne];omega
   generalize xs.getD k 0=X at *
   clear hne;replace aO:=ζ aO;replace hSn:=ζ hSn;go_wp2_with fail;refine aJ κ ?_;refine rK (.range 13) 1 ?_;iterate 13 refine aB ?_
   refine ay ?_;refine dI (i:=13) rfl κ κ (fun wN hN hS K' hK=> ?_);clear hS;have e3:=hN.cell e1;have f3:wN.frozen? ⟨g,k,none⟩=false:=((bW hN).2 _ _ z1).trans f1;have jf:=(hS.o.grows hN).dO k (.int .u32 (X:Int));have hZ2:=(hZ.o.grows hN).far (p:=⟨g,k,none⟩) (by have:=hgg.o;simp only;omega) (.int .u32 (X:Int));have nM:w.grownBy (wN.setCell ⟨g,k,none⟩ (.int .u32 (X:Int))) (some g):=(hby.o.trans (hN.iM _)).trans (aj wN ⟨g,k,none⟩ _);rw[hSn.o,aO.o] at jf;replace jf:=ζ jf;replace hZ2:=ζ hZ2;replace nM:=ζ nM;clear hN hS hZ hby;go_simp;refine hK.o _ _ ?_;clear hK e3 f3 e1 e2 f1 z1 z2;generalize wN.setCell ⟨g,k,none⟩ (.int .u32 (X:Int))=w9 at *
   go_wp2;go_roundw
   case rel=>exact⟨k+1,ω,ν,jf,hZ2,nM⟩
   case measure=>exact ψ
  ·obtain rfl:k=8:=ω;have jf:=hS.o;rw[List.take_of_length_le ω,List.drop_of_length_le ω,List.append_nil] at jf;replace jf:=ζ jf;clear hS;go_wp2;exact⟨jf,hby⟩
theorem L_:jh.length=64:=δ
theorem afK {v:V8} (hv:v.ok) {A:Option Addr} {c:Nat} {b:List Nat} {g:Nat} {rest:Value} {count:Int} (w:World) (hA:dH w 1 kE A 64 b) (hb:∀x∈b,x < 256)
 (hg:aS w g 183 (yH (b_ v) rest count)) :
 Calls Tryz.prog 134 #[.pointer (some ⟨g,0,none⟩),.slice A 64 c] w fun e w'=>e =.returned (.tuple #[])∧aS w' g 183 (yH (b_ (FD v b)) rest count)∧w.grownBy w' (some g):=by
 replace hA:=ζ hA;replace hb:=ζ hb;replace hg:=ζ hg;replace hv:=ζ hv;go_enter Tryz.func134,Tryz.ntmps134
 go_wp2;refine qy (Pr:=fun W=>Code.wp _ _ _ _ W) (fun w1 ET mX=> ?_);replace ET:aS w1 w.heap.size 159 (dJ (kV [])):=ET.cast κ;obtain⟨gw,dF⟩:∃gw,gw=w.heap.size:=⟨_,rfl⟩;rw[←dF] at ET ⊢;replace dF:=ζ dF;replace ET:=ζ ET;replace mX:=ζ mX;refine ajf hA hb dF ET mX π ?_;rintro u5 u17 u18 u19 u20 u21 u22 u23 u24 u25 u26 u27 u28 u29 u30 u31 u32 u33 u34 u35 u36 u37 u38 u39 u40 u41 u42 u43 u44 u45 u46 u47 u48 u49 u50 u51 u52 u53 u54 u55 wr ⟨hB,hG⟩;clear ET mX w1 hA;go_wp2;refine Xf (Pr:=fun W=>Code.wp _ _ _ _ W) (fun w3 yQ Lu uj=> ?_);obtain⟨g6,Ua⟩:∃g6,g6=wr.heap.size:=⟨_,rfl⟩;have Xt:=hB.o.lt;rw[←Ua] at yQ Lu Xt ⊢;replace hB:=ζ (hB.o.grows uj);have CQ:=ζ (hG.o.trans uj);clear hG uj Ua;replace yQ:=ζ yQ;replace Lu:=ζ Lu;replace Xt:=ζ Xt;clear wr;refine aje hb dF Xt hB yQ Lu CQ π ?_;rintro u8 Yt Yr Yq Yp Yo Yn u64 Ym Yl Yk u68 u69 u70 u71 u72 Yj Yi Yh Yg Yf Ye Yd Yc Yb Vq Vp Vo Vm Vl wr ⟨Iy,hG⟩;clear hB yQ Lu CQ Xt w3;have c8:∀W,ah w W→aS W g 183 (yH (b_ v) rest count):=fun W h=>hg.o.grows h
 have EP:=c8 wr hG.o;have q0:=EP.c0;have q1:=EP.c1;have q2:=EP.c2;have q3:=EP.c3;have q4:=EP.c4;have q5:=EP.c5;have q6:=EP.c6;have q7:=EP.c7;have qz:=EP.lt;have cK:=fun W=>ajD W
 replace cK:=ζ cK;replace EP:=ζ EP;replace c8:=ζ c8;go_wp2_with fail;refine (cK.out _).mono ?_;rintro e w5 ⟨rfl,GV⟩;have dR:aS w5 wr.heap.size 200 #[.int .i64 6,.int .i64 11,.int .i64 25,.int .i64 0]:=(((aS.new wr _ _).alloc _).alloc _).grows GV;have qE:aS w5 (wr.heap.size+1) 200 #[.int .i64 2,.int .i64 13,.int .i64 22,.int .i64 0]:=((aS.vO wr _ _ _).alloc _).grows GV;have jQ:aS w5 (wr.heap.size+1+1) 157 (dJ (b_ v)):=(aS.IQ wr _ _ _ _).grows GV;have vV:ah wr w5:=((((ah.refl wr).alloc _).alloc _).alloc _).trans GV;obtain⟨g9,uZ⟩:∃g9,g9=wr.heap.size:=⟨_,rfl⟩;have NV:=Iy.o.lt;have aj7:=EP.o.lt;rw[←uZ] at dR qE jQ NV aj7 ⊢;replace Iy:=ζ (Iy.o.grows vV);replace vV:=ζ (hG.o.trans vV);replace dR:=ζ dR;replace qE:=ζ qE;replace NV:=ζ NV;replace aj7:=ζ aj7;clear hG uZ q0 q1 q2 q3 q4 q5 q6 q7 qz EP GV cK;clear wr;have hKat:∀k,k<64→(dJ jh)[k]? = some (.int .u32 ((jh.getD k 0:Nat):Int)):=fun k hk=>oq (by rw[L_];exact hk)
 have Oc:∀k,k<64→(dJ (words 48 (bK b)))[k]? = some (.int .u32 (((words 48 (bK b)).getD k 0:Nat):Int)):=fun k hk=>oq (by rw[tu,mO];exact hk)
 have KN:∀k,lK jh (words 48 (bK b)) (k+1) v = OO (lK jh (words 48 (bK b)) k v) (jh.getD k 0) ((words 48 (bK b)).getD k 0):=fun _=>rfl
 have aQ:FD v b = alu v (lK jh (words 48 (bK b)) 64 v):=rfl;have oP:∀k,(lK jh (words 48 (bK b)) k v).ok:=fun k=>Rj hv.o k
 have hr0:lK jh (words 48 (bK b)) 0 v = v:=rfl;generalize hvF:FD v b = aa8 at *
 replace hvF:=ζ hvF;generalize dJ jh=KA at *
 generalize words 48 (bK b)=WL at *
 generalize hRV:(fun k=>lK jh WL k v)=RV at *
 have akD:∀k,lK jh WL k v = RV k:=fun k=>congrFun hRV k
 simp only[akD] at KN aQ oP hr0;generalize hKf:(fun k=>jh.getD k 0)=KF at *
 have hKk:∀k,jh.getD k 0=KF k:=fun k=>congrFun hKf k
 simp only[hKk] at KN hKat;clear akD hRV hKf hKk hb;have jQ:Hid (aS w5 (g9+1+1) 157 (dJ (b_ (RV 0)))):=by rw[hr0];exact jQ
 replace hKat:=ζ hKat;replace Oc:=ζ Oc;replace KN:=ζ KN;replace aQ:=ζ aQ;replace oP:=ζ oP;clear hr0;go_wp2;refine ajd hKat Oc KN oP dF NV Iy dR qE jQ vV π ?_;intro u12 u13 u14 u15 Ya X_ X9 u97 X8 X7 Ih Ig Ie Ic Ib Ia H_ H9 H8 H7 Fe Fb H6 JG JF JE JD JC JB PZ PY PX PW PV PU PS PN UW UU UR UQ UO UN abG aiX aiW aiV aiU u138 aiT aiS aiR aiQ aiP aiO aiN aiM aiL aiK aiJ aiI aiH aiG aiF aiE aiD aiC aiB aiA wr h;obtain⟨hZ,hG⟩:=h;clear Iy dR qE jQ vV hKat Oc KN oP;have JJ:=fun j hj=>ae5 v (RV 64) (k:=j) hj
 rw[←aQ.o] at JJ;have Qc:=(kF aa8).trans (kF v).symm;have hl8:=kF v;have hlR:=kF (RV 64);have agR:=c8.out wr hG.o;have hby:=hG.o.iM (some g);have hgg:Hid (g≠g9+1+1):=by
  show g≠g9+1+1
  have:=aj7.o;omega
 generalize b_ (RV 64)=zs at *
 generalize hxs:b_ aa8=xs at *
 replace hxs:=ζ hxs;generalize b_ v = ys at *
 clear aQ hG aj7 NV;replace JJ:=ζ JJ;replace agR:=ζ agR;replace hby:=ζ hby;go_wp2;refine ajc JJ Qc hl8 hlR agR hZ hby hgg π ?_;rintro u16 aiz aiy aix aiw aiv aiu ait ais air aiq aip aio ain ail aik aij aii wz ⟨jf,nM⟩;go_wp2;exact bodyPost_end (results_none rfl _ _ _) rfl ⟨rfl,by rw[hvF.o,hxs.o];exact jf.o,nM.o⟩
theorem Vh:iK Tryz.prog 94 5 1 1:=iK.mk' (z:=.int .u8 0) Tryz.underlying94 κ rfl ω
theorem fZ {α:Type} {w:World} {base k:Nat} {e:TypeId} {enc:α→List Value} {v:Value} {xs:List α} {P:Program} {ops:Array Oper} {rest:List Oper} {o:Oper} {ac:Act} {Q:Exit→Act→World→Prop} {ys:List α} {m bytes c:Nat} {t:TypeId} (T:iK P t e k bytes) (hgd:Region.wanted o (yielded ops ac.tmps)=true) (s y:Operand)
 (ho:o.op=.call {callee:=.builtin .append,args:= #[s,y],argTypes:= #[t,t]}) (h:Own w base e k enc v xs) (hs:ac.eval s = v) {A:Option Addr} (hy:ac.eval y =.slice A m c) (sD:dH w k enc A m ys)
 (hk:∀x,(enc x).length=k) (h1:∀x,∀u∈enc x,u.oneCell'=true) (hbase:base≤w.heap.size) (h63:xs.length+m≤maxLen) (hbytes:(xs.length+m)*bytes≤140737488355328)
 (hK:∀v' w',Own w' base e k enc v' (xs++ys)→w.grownBy w' v.ownBlock→(v'.ownBlock=v.ownBlock∨v'.ownBlock=some w.heap.size)→wpList P ops Q rest (ac.put o.dst v') w'):wpList P ops Q (o ::rest) ac w:=
 wpList_step fun _ fH=>Own.jO (ops:=ops) T hgd s y ho h hs hy sD hk h1 hbase h63 hbytes fun v' w' a b c=>fH _ _ (hK v' w' a b c)
theorem aS.bH {w w':World} {j:Nat} {row:Option Nat} {t:TypeId} {cs:Array Value} (h:aS w j t cs) (hg:w.grownBy w' row) (hne:some j≠row):aS w' j t cs:=
 (hg.block j h.lt hne).trans h
theorem ah.bH {a w w':World} {row:Option Nat} (h:ah a w) (hg:w.grownBy w' row) (hl:∀g,row=some g→a.heap.size≤g):ah a w':=
 ah.of ⟨hg.os.trans (Below.os h),hg.tape.trans (Below.tape h),hg.output.trans (Below.output h),Nat.le_trans h.size hg.size,fun j hj=>(hg.block j (Nat.lt_of_lt_of_le hj h.size) (fun e=>by have:=hl j e.symm;omega)).trans (Below.block h j hj)⟩
def iL (w:World) (g:Nat) (A:Option Addr) (n:Nat) (xs:List Nat):Prop:=dH w 1 kE A n xs∧∀ad,A=some ad→0<n→ad.block≠g
theorem iL.iM {w w':World} {g n:Nat} {A:Option Addr} {xs:List Nat} (h:iL w g A n xs) (hg:w.grownBy w' (some g)):iL w' g A n xs:=
 ⟨⟨h.1.1,fun hn=>by
  obtain⟨b,off,e,hb,hc⟩:=h.1.2 hn;have hne:b≠g:=h.2 _ e hn;exact⟨b,off,e,Nat.lt_of_lt_of_le hb hg.size,fun i hi j u hu=>by
   rw[World.cell?_of_block (hg.block b hb (by simpa using hne))];exact hc i hi j u hu⟩⟩,h.2⟩
theorem iL.drop {w:World} {g n k b off:Nat} {xs:List Nat} (h:iL w g (some ⟨b,off,none⟩) n xs) (hk:k≤n):iL w g (some ⟨b,off+k,none⟩) (n - k) (xs.drop k):=by
 refine⟨⟨by rw[List.length_drop,h.1.1],fun hn=> ?_⟩,fun ad e hn=>by cases e;exact h.2 ⟨b,off,none⟩ rfl ω⟩;obtain⟨b',acJ,e,hb,hc⟩:=h.1.2 ω;cases e
 refine⟨b,off+k,rfl,hb,fun i hi j u hu=> ?_⟩;rw[List.length_drop] at hi;rw[List.getElem_drop] at hu;have:=hc (k+i) ω j u hu;rwa [show off+(k+i)*1+j = off+k+i * 1+j by omega] at this
theorem Own.apart {w:World} {base g:Nat} {v:Value} {xs:List Nat} {t:TypeId} {cs:Array Value} (h:Own w base 5 1 kE v xs) (hB:aS w g t cs) (ht:t≠5) :
 ∃A c,v =.slice A xs.length c∧xs.length≤c∧c≤maxLen∧iL w g A xs.length xs∧(∀j,v.ownBlock=some j→base≤j∧j≠g):=by
 have h2:=h;obtain⟨A,c,rfl,hc,hcm,hA⟩:=h.arr Yy;have hown:∀j,(Value.slice A xs.length c).ownBlock=some j→base≤j∧j≠g:=fun j hj=>by
  rcases h2.2 with⟨h0,_⟩ | ⟨g',cap,cur,hv,hb,hh,_⟩
  ·rw[h0] at hj;cases hj
  ·rw[hv] at hj;simp only[Value.ownBlock,Option.some.injEq] at hj;subst hj;refine⟨hb,fun e=> ?_⟩;subst e;unfold aS at hB;rw[hh] at hB;simp only[Option.some.injEq,Obj.cells.injEq] at hB;exact ht hB.2.1.symm
 refine⟨A,c,rfl,hc,hcm,⟨hA,fun ad e hn=> ?_⟩,hown⟩;subst e;obtain⟨b,off,e,_⟩:=hA.2 hn;cases e
 rcases h2.2 with⟨h0,_⟩ | ⟨g',cap,cur,hv,_⟩
 ·cases h0
 ·simp only[Value.slice.injEq,Option.some.injEq,Addr.mk.injEq] at hv;obtain⟨⟨hb,ho,_⟩,_⟩:=hv;subst hb;subst ho;exact (hown b (by simp[Value.ownBlock])).2
theorem Own.iM {α:Type} {w w':World} {base k g:Nat} {e:TypeId} {enc:α→List Value} {v:Value} {xs:List α} (h:Own w base e k enc v xs) (hg:w.grownBy w' (some g)) (hne:∀j,v.ownBlock=some j→j≠g):Own w' base e k enc v xs:=by
 refine⟨h.1,?_⟩;rcases h.2 with h2 | ⟨g',cap,cur,hv,hb,hh,r⟩
 ·exact .inl h2
 ·have hlt:g'<w.heap.size:=by
   rcases Nat.lt_or_ge g' w.heap.size with h | h
   ·exact h
   ·rw[Array.getElem?_eq_none h] at hh;cases hh
  have h3:g'≠g:=hne g' (by rw[hv];rfl);exact .inr ⟨g',cap,cur,hv,hb,(hg.block g' hlt (by simpa using h3)).trans hh,r⟩
theorem ai1 (v:V8) (rest:Value) (count x:Int):(yH (b_ v) rest count).setIfInBounds 9 (.int .i64 x)=yH (b_ v) rest x:=rfl
theorem Fg (v:V8) (rest r:Value) (count:Int):(yH (b_ v) rest count).setIfInBounds 8 r = yH (b_ v) r count:=rfl
theorem PE (n:Nat) (v:V8) (l:List Nat):blocks (n + 1) v l = FD (blocks n v l) ((l.drop (64*n)).take 64):=by
 rw[TK];rfl
def Qu (g:Nat) (w:World):Nat:=match w.cell? ⟨g,8,none⟩ with
 | some (.slice _ n _)=>n
 | _=>0
theorem Ak {g n c:Nat} {w:World} {A:Option Addr} (h:w.cell? ⟨g,8,none⟩=some (.slice A n c)):Qu g w = n:=by unfold Qu;rw[h]
theorem ae4 {W0:World} {g:Nat} {v:V8} (hv:v.ok) {rest:Value} {xs ys:List Nat} {count:Int} {A:Option Addr} {m c:Nat} (w:World) (h0:ah W0 w) (hg0:W0.heap.size≤g)
 (hS:aS w g 183 (yH (b_ v) rest count)) (hO:Own w W0.heap.size 5 1 kE rest xs) (hy:iL w g A m ys) (hb:∀x∈xs++ys,x < 256) (hlen:xs.length+m≤1099511627776) (hc1:0≤count) (hc2:count≤1099511627776) :
 Calls Tryz.prog 114 #[.pointer (some ⟨g,0,none⟩),.slice A m c] w fun e w'=>∃(n:Nat) (A':Option Addr) (c':Nat),e =.returned (.int .i64 (count+m))∧64*n≤(xs++ys).length∧(xs++ys).length<64*n + 64∧
  aS w' g 183 (yH (b_ (blocks n v (xs++ys))) (.slice A' ((xs++ys).length-64*n) c') (count+m))∧iL w' g A' ((xs++ys).length-64*n) ((xs++ys).drop (64*n))∧(xs++ys).length-64*n≤c'∧c'≤maxLen∧ah W0 w':=by
 have qA:=hy.1.1;have d8:w.cell? ⟨g,8,none⟩=some rest:=hS.cell 8;have d9:w.cell? ⟨g,9,none⟩=some (.int .i64 count):=hS.cell 9;have f9:=hS.frozen 9;have sz:=hS.lt;have hby:=aj w ⟨g,9,none⟩ (.int .i64 (count+(m:Int)));obtain⟨A0,c0,hr0,_,_,_,hown⟩:=hO.apart hS δ;have FN:=hO.iM hby (fun j hj=>(hown j hj).2);have Ls:=hy.iM hby;have hS1:=hS.dO 9 (.int .i64 (count+(m:Int)));rw[ai1] at hS1;have h01:=h0.kL hby hg0;have hbase:=h01.size;have h63:xs.length+m≤maxLen:=by unfold maxLen;omega
 have hbytes:(xs.length+m)*1≤140737488355328:=ω;replace FN:=ζ FN;replace Ls:=ζ Ls;replace hb:=ζ hb;replace h01:=ζ h01;replace hS1:=ζ hS1;replace hv:=ζ hv;replace hown:=ζ hown;have hcm: -9223372036854775808≤count+(m:Int)∧count+(m:Int)≤9223372036854775807:=ω;clear hO hy hS h0 hr0 hby;go_enter Tryz.func114,Tryz.ntmps114
 go_wp2_with (refine fZ Vh rfl (.tmp 20) (.tmp 21) rfl FN.o rfl rfl Ls.o.1 Yy U0 hbase h63 hbytes ?_;intro v2 w2 pY nM hv2;(have jf:=hS1.o.bH nM (fun e=>(hown.o g e.symm).2 rfl));(have h02:=h01.o.bH nM (fun j hj=>(hown.o j hj).1));(obtain⟨A2,c2,Xp,O9,MI,mY,hown2⟩:=pY.apart jf δ);subst Xp;(have e8:=jf.cell 8);(have f8:=jf.frozen 8);(have z8:=jf.lt);(have iT:=aj w2 ⟨g,8,none⟩ (.slice A2 (xs++ys).length c2));(have U9:=jf.dO 8 (.slice A2 (xs++ys).length c2));(rw[Fg] at U9);(have Hy:=mY.iM iT);(have h03:=h02.kL iT hg0);(replace U9:=ζ U9);(replace Hy:=ζ Hy);(replace h03:=ζ h03);(have hzl:(xs++ys).length≤1099511627776:=by rw[List.length_append];omega);(generalize hzs:xs++ys=zs at *);(replace hzs:=ζ hzs);(generalize hL:zs.length=L at *);(replace hL:=ζ hL);clear pY nM hv2 jf h02 hown2 iT mY FN hS1 Ls h01 hown d8 d9 f9 sz h63 hbytes hbase);generalize w2.setCell ⟨g,8,none⟩ (.slice A2 L c2)=w3 at *
 clear e8 f8 z8;go_loopw [] (fun wr=>∃(n:Nat) (A':Option Addr) (c':Nat),64*n≤L∧Hid (aS wr g 183 (yH (b_ (blocks n v zs)) (.slice A' (L-64*n) c') (count+m)))∧Hid (iL wr g A' (L-64*n) (zs.drop (64*n)))∧L-64*n≤c'∧c'≤maxLen∧Hid (ah W0 wr)) (fun wr=>Qu g wr)
 case atStart=>exact⟨0,A2,c2,ω,U9,Hy,ω,MI,h03⟩
 case round=>
  clear U9 Hy h03;obtain⟨n,A',c',hn,hS,hB,yc,as1,h0⟩:=hrel;have jU:=Ak (g:=g) (w:=wr) (A:=A') (n:=L-64*n) (c:=c') (hS.o.cell 8);have e8:wr.cell? ⟨g,8,none⟩=some (.slice A' (L-64*n) c'):=hS.o.cell 8;have z8:=hS.o.lt;by_cases hlt:64≤L-64*n
  ·obtain⟨b,off,rfl,hbl,_⟩:=hB.o.1.2 ω;have atz:=hB.o.1.take (m:=64) hlt;have jY:∀x∈(zs.drop (64*n)).take 64,x < 256:=fun x hx=>hb.o x (List.mem_of_mem_drop (List.mem_of_mem_take hx))
   have cR:=afK (Jy n zs hv.o) wr atz jY hS.o (c:=c');rw[←PE] at cR;replace cR:=ζ cR;clear atz jY;by_cases hc:c'=64
   ·subst hc;go_wp2_with fail;refine (cR.out).mono ?_;rintro e w5 ⟨rfl,hS5,jG⟩;have hB5:=hB.o.iM jG;have h05:=h0.o.kL jG hg0;have g8:w5.cell? ⟨g,8,none⟩=some (.slice (some ⟨b,off,none⟩) (L-64*n) 64):=hS5.cell 8;have f8:=hS5.frozen 8;have y8:=hS5.lt;have hz0:L-64*(n + 1)=0:=ω;have hS6:=hS5.dO 8 (.slice (some ⟨b,off,none⟩) 0 0);rw[Fg] at hS6;have vU:=aj w5 ⟨g,8,none⟩ (.slice (some ⟨b,off,none⟩) 0 0);have yQ:iL (w5.setCell ⟨g,8,none⟩ (.slice (some ⟨b,off,none⟩) 0 0)) g (some ⟨b,off,none⟩) 0 ((zs.drop (64*n)).drop 64):=by
     have h0:L-64*n - 64=0:=ω;have h1:(zs.drop (64*n)).drop 64=[]:=List.eq_nil_of_length_eq_zero (by rw[List.length_drop,List.length_drop,hL.o];exact h0);rw[h1];exact⟨dH.iH,fun _ _ h=>absurd h ω⟩
    have h06:=h05.kL vU hg0;have ac8:=Ak (A:=some ⟨b,off,none⟩) (n:=0) (c:=0) (hS6.cell 8);rw[List.drop_drop] at yQ;rw[show 64*n + 64=64*(n + 1) by omega] at yQ;replace hS6:=ζ hS6;replace yQ:=ζ yQ;replace h06:=ζ h06;replace ac8:=ζ ac8;replace jU:=ζ jU;clear hB5 h05 jG vU hS5 cR;go_wp2;go_roundw
    case rel=>exact⟨n + 1,some ⟨b,off,none⟩,0,ω,by rw[hz0];exact hS6,by rw[hz0];exact yQ,ω,by unfold maxLen;omega,h06⟩
    case measure=>rw[ac8.o,jU.o];omega
   ·skip
    go_wp2_with fail;refine (cR.out).mono ?_;rintro e w5 ⟨rfl,hS5,jG⟩;have hB5:=hB.o.iM jG;have h05:=h0.o.kL jG hg0;have g8:w5.cell? ⟨g,8,none⟩=some (.slice (some ⟨b,off,none⟩) (L-64*n) c'):=hS5.cell 8;have f8:=hS5.frozen 8;have y8:=hS5.lt;have hS6:=hS5.dO 8 (.slice (some ⟨b,off+64,none⟩) (L-64*n - 64) (c'-64));rw[Fg] at hS6;have vU:=aj w5 ⟨g,8,none⟩ (.slice (some ⟨b,off+64,none⟩) (L-64*n - 64) (c'-64));have yQ:iL (w5.setCell ⟨g,8,none⟩ (.slice (some ⟨b,off+64,none⟩) (L-64*n - 64) (c'-64))) g (some ⟨b,off+64,none⟩) (L-64*n - 64) ((zs.drop (64*n)).drop 64):=(hB5.drop hlt).iM vU;have h06:=h05.kL vU hg0;have ac8:=Ak (A:=some ⟨b,off+64,none⟩) (n:=L-64*n - 64) (c:=(c'-64)) (hS6.cell 8);rw[List.drop_drop] at yQ;rw[show L-64*n - 64=L-64*(n + 1) by omega,show 64*n + 64=64*(n + 1) by omega] at yQ;rw[show L-64*n - 64=L-64*(n + 1) by omega] at hS6;replace hS6:=ζ hS6;replace yQ:=ζ yQ;replace h06:=ζ h06;replace ac8:=ζ ac8;replace jU:=ζ jU;clear hB5 h05 jG vU hS5 cR;go_wp2;go_roundw
    case rel=>exact⟨n + 1,some ⟨b,off+64,none⟩,(c'-64),ω,hS6,yQ,ω,by unfold maxLen at as1 ⊢;omega,h06⟩
    case measure=>rw[ac8.o,jU.o];omega
  ·have e9:wr.cell? ⟨g,9,none⟩=some (.int .i64 (count+(m:Int))):=hS.o.cell 9;go_wp2;go_ret;rw[hzs.o,hL.o];exact⟨n,A',c',rfl,hn,ω,hS.o,hB.o,yc,as1,h0.o⟩
end Go.Proofs.YteojanlajhebhaaGreatDoor
