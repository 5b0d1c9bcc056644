/- Parts: ShaI ShaH1 ShaH2 ShaH3 ShaH4 ShaH ShaK -/
import Derived.Test.YtbhikkgpcmkonaaGreatDoorVa0
import Derived.Laws.CopyRow
import Derived.Test.YtbhikkgpcmkonaaGreatDoorVa2
import Derived.Test.YtbhikkgpcmkonaaGreatDoorVa3
set_option maxRecDepth 100000
set_option maxHeartbeats 12800000
namespace Go.Proofs.YtbhikkgpcmkonaaGreatDoor
open Go.RowKit
def ji (x:Nat):List Value:=[.int .u8 (x:Int)]
theorem hkB (x:Nat):(ji x).length=1:=rfl
theorem aau (x:Nat):∀u∈ji x,u.oneCell'=true:=by intro u hu;simp[ji] at hu;subst hu;rfl
def fO (v:V8):List Nat:=[v.a,v.b,v.c,v.d,v.e,v.f,v.g,v.h]
def zO:Code→List Code
 | .seq a b=>zO a ++zO b
 | .cond _ a b=>zO a ++zO b
 | .block _ c=>zO c
 | .scope c=>zO c
 | .loop c=>[.loop c]
 | _=>[]
def zQ (f:Func) (n:Nat):Code:=((f.body.map zO).getD []).getD n .skip
theorem wZ {Pr:World→Prop} {w:World} {t:TypeId} {cs:Array Value} (h:∀w1,aF w1 w.heap.size t cs→ah w w1→Pr w1):Pr (w.alloc (.cells cs t)):=h _ (aF.new w t cs) ((ah.refl w).alloc _)
theorem Pj {a b:Nat} (ha:Wd a):bits .and .u32 (a:Int) (b:Int)=((a &&&b:Nat):Int):=by
 have hx:=(C9 (b:=b) ha).lt;show IntKind.u32.wrap ((BitVec.ofInt 32 (a:Int) &&&BitVec.ofInt 32 (b:Int)).toNat:Int)=_
 rw[BitVec.toNat_and,ofInt32 ha,BitVec.ofInt_natCast,BitVec.toNat_ofNat,wrap32];have e:a &&&b % 2 ^ 32=a &&&b:=by
  apply Nat.eq_of_testBit_eq;intro i;rw[Nat.testBit_and,Nat.testBit_mod_two_pow,Nat.testBit_and];by_cases hi:i < 32
  ·simp[hi]
  ·simp[acn ha (Nat.le_of_not_lt hi)]
 rw[e,Nat.mod_eq_of_lt hx]
theorem W_ {KA:Array Value} {k:Nat} {x:Int} (hk:k<64) (h:KA[k]? = some (.int .u32 x)) (w:World):(Instr.index 317 (.agg KA) (.int .i64 (k:Int))).run Tryz.prog w =.ok (.int .u32 x) w:=by
 have h0:(0:Int)≤(k:Int)∧(k:Int)<64:=ω;unfold Instr.index part;go_simp
theorem atI {e:Nat} (he:Wd e):4294967295 ^^^ e = UL e:=by
 have h:=he.lt;apply Nat.eq_of_testBit_eq;intro i;have e1:UL e = 2 ^ 32-(e + 1):=by unfold UL;omega
 rw[e1,Nat.testBit_two_pow_sub_succ h,Nat.testBit_xor,show (4294967295:Nat)=2 ^ 32-1 from rfl,Nat.testBit_two_pow_sub_one];by_cases hi:i < 32
 ·simp[hi]
 ·simp[hi,acn he (Nat.le_of_not_lt hi)]
theorem anw {e f g:Nat} (he:Wd e):bits .xor .u32 (bits .and .u32 (e:Int) (f:Int)) (bits .and .u32 (bits .xor .u32 IntKind.u32.max (e:Int)) (g:Int))=(((e &&&f) ^^^ (UL e &&&g):Nat):Int):=by
 have hn:Wd (UL e):=Wd.of (by unfold UL;omega);rw[show IntKind.u32.max=((4294967295:Nat):Int) from by decide,Au (Wd.of δ) he,atI he,Pj he,Pj hn,Au (C9 he) (C9 hn)]
theorem aiz {a b c:Nat} (ha:Wd a) (hb:Wd b):bits .xor .u32 (bits .xor .u32 (bits .and .u32 (a:Int) (b:Int)) (bits .and .u32 (a:Int) (c:Int))) (bits .and .u32 (b:Int) (c:Int))=(((a &&&b) ^^^ (a &&&c) ^^^ (b &&&c):Nat):Int):=by
 rw[Pj ha,Pj ha,Pj hb,Au (C9 ha) (C9 ha),Au (Jb (C9 ha) (C9 ha)) (C9 hb)]
theorem UM {Pr:World→Prop} {w:World} {t t':TypeId} {cs cs':Array Value} (h:∀w1,aF w1 w.heap.size t cs→aF w1 (w.heap.size+1) t' cs'→ah w w1→Pr w1):Pr ((w.alloc (.cells cs t)).alloc (.cells cs' t')):=
 h _ ((aF.new w t cs).alloc _) (aF.kW w _ _ _) (((ah.refl w).alloc _).alloc _)
theorem Wx (p L r H:Nat):((p:Int)+(L:Int)+(r:Int)+(H:Int)) % 4294967296=(((((p + L) % 4294967296+r) % 4294967296+H) % 4294967296:Nat):Int):=ω
theorem aF.cast {w:World} {g:Nat} {t:TypeId} {cs cs':Array Value} (h:aF w g t cs) (e:cs=cs'):aF w g t cs':=e ▸ h
theorem ah.fH {w w':World} (h:ah w w') (row:Option Nat):w.grownBy w' row:=⟨Below.os h,Below.tape h,Below.output h,Below.size h,fun i hi _=>Below.block h i hi⟩
theorem ZJ {a b n:Nat} (hb:b < 2 ^ n):a * 2 ^ n |||b = a * 2 ^ n + b:=by
 have:=Nat.shiftLeft_add_eq_or_of_lt (i:=n) (b:=b) hb a;rw[Nat.shiftLeft_eq] at this;exact this.symm
theorem akH {a b c d:Nat} (ha:a < 256) (hb:b < 256) (hc:c < 256) (hd:d < 256) :
 bits .or .u32 (bits .or .u32 (bits .or .u32 ((a:Int) % 4294967296*16777216 % 4294967296) ((b:Int) % 4294967296*65536 % 4294967296)) ((c:Int) % 4294967296*256 % 4294967296)) ((d:Int) % 4294967296)=((a * 16777216+b * 65536+c * 256+d:Nat):Int):=by
 have e1:(a:Int) % 4294967296*16777216 % 4294967296=((a * 16777216:Nat):Int):=ω;have e2:(b:Int) % 4294967296*65536 % 4294967296=((b * 65536:Nat):Int):=ω;have e3:(c:Int) % 4294967296*256 % 4294967296=((c * 256:Nat):Int):=ω;have e4:(d:Int) % 4294967296=((d:Nat):Int):=ω;have o1:a * 16777216 |||b * 65536=a * 16777216+b * 65536:=ZJ (n:=24) ω
 have o2:a * 16777216+b * 65536 |||c * 256=a * 16777216+b * 65536+c * 256:=by
  have:=ZJ (a:=a * 256+b) (b:=c * 256) (n:=16) ω;rw[show (2:Nat) ^ 16=65536 from rfl,Nat.add_mul,Nat.mul_assoc] at this;exact this
 have o3:a * 16777216+b * 65536+c * 256 |||d = a * 16777216+b * 65536+c * 256+d:=by
  have:=ZJ (a:=a * 65536+b * 256+c) (b:=d) (n:=8) ω;rw[show (2:Nat) ^ 8=256 from rfl,Nat.add_mul,Nat.add_mul,Nat.mul_assoc,Nat.mul_assoc] at this;exact this
 have w1:Wd (a * 16777216):=Wd.of ω;have w2:Wd (b * 65536):=Wd.of ω;have w3:Wd (c * 256):=Wd.of ω;have w4:Wd d:=Wd.of ω;have w5:Wd (a * 16777216+b * 65536):=Wd.of ω;have w6:Wd (a * 16777216+b * 65536+c * 256):=Wd.of ω;rw[e1,e2,e3,e4,al0 w1 w2,o1,al0 w5 w3,o2,al0 w6 w4,o3]
theorem mD (w:World) (g:Nat) (cs:Array Value):w.grownBy (w.setRow g cs) (some g) where
 os:=rfl
 tape:=rfl
 output:=rfl
 size:=by unfold World.setRow;simp
 block:=fun k _ hne=>by
  unfold World.setRow;have:g≠k:=fun h=>hne (by rw[h])
  simp[Array.getElem?_modify,this]
theorem aF.fH {w w':World} {j g:Nat} {t:TypeId} {cs:Array Value} (h:aF w j t cs) (hg:w.grownBy w' (some g)) (hne:j≠g):aF w' j t cs:=
 (hg.block j h.lt (by simpa using hne)).trans h
theorem ah.qh {a w w':World} {g:Nat} (h:ah a w) (hg:w.grownBy w' (some g)) (hl:a.heap.size≤g):ah a w':=
 ah.of ⟨hg.os.trans (Below.os h),hg.tape.trans (Below.tape h),hg.output.trans (Below.output h),Nat.le_trans h.size hg.size,fun j hj=>(hg.block j (Nat.lt_of_lt_of_le hj h.size) (by simp;omega)).trans (Below.block h j hj)⟩
theorem aj (w:World) (p:Addr) (v:Value):w.grownBy (w.setCell p v) (some p.block) where
 os:=rfl
 tape:=rfl
 output:=rfl
 size:=by simp
 block:=fun k _ hne=>Below.heap_setCell w p v k (by intro h;exact hne (by rw[h]))
theorem av1 {w:World} {g a b c d e f h i:Nat} (hB:aF w g 279 (jD [a,b,c,d,e,f,h,i])) :
 ∃w',(Builtin.copy_ #[322,322] 3 #[.slice (some ⟨g,1,none⟩) 7 7,.slice (some ⟨g,0,none⟩) 7 8]).run Tryz.prog w =.ok (goInt 7) w'∧aF w' g 279 (jD [a,a,b,c,d,e,f,h])∧w.grownBy w' (some g):=by
 have hc:=run_copy_row (P:=Tryz.prog) w 322 322 3 23 g 1 7 7 ⟨g,0,none⟩ 7 8 (jD [a,b,c,d,e,f,h,i]) 279 (jD [a,b,c,d,e,f,h]).toList Tryz.underlying322 κ hB rfl
  (fun j v hv=>by
   have hj:j < 7:=(List.getElem?_eq_some_iff.1 hv).1;have:(⟨g,0,none⟩:Addr).add j = ⟨g,j,none⟩:=by unfold Addr.add;by_cases hj:j = 0 <;> simp[hj]
   rw[this,hB.cell j,←hv];match j,hj with
   | 0,_ | 1,_ | 2,_ | 3,_ | 4,_ | 5,_ | 6,_=>rfl) (by simp[jD]) (by intro v hv;simp[jD] at hv;rcases hv with rfl | rfl | rfl | rfl | rfl | rfl | rfl <;> rfl)
 exact⟨_,hc,setRow_heap w g _ _ _ _ hB,mD w g _⟩
theorem vP (v:V8):(fO v).length=8:=rfl
theorem acr {l:List Nat} {rest:Value} {count:Int} {k:Nat} (h:k<l.length):(tZ l rest count)[k]? = some (.int .u32 ((l.getD k 0:Nat):Int)):=by
 unfold tZ;rw[Array.getElem?_append_left (by rw[RJ];exact h),zi h]
theorem ahN {l:List Nat} {rest:Value} {count:Int} {k:Nat} (h:k<l.length) (x:Nat):(tZ l rest count).setIfInBounds k (.int .u32 (x:Int))=tZ (l.set k x) rest count:=by
 unfold tZ;rw[←Bz,Array.setIfInBounds_append_left (by rw[RJ];exact h)]
theorem adG {xs ys:List Nat} (hl:xs.length=ys.length) {k:Nat} (hk:k<xs.length):(xs.take k++ys.drop k).getD k 0=ys.getD k 0:=by
 simp only[List.getD_eq_getElem?_getD];rw[List.getElem?_append_right (by rw[List.length_take];omega),List.length_take,Nat.min_eq_left ω,Nat.sub_self,List.getElem?_drop,Nat.add_zero]
theorem Fz {xs ys:List Nat} (hl:xs.length=ys.length) {k:Nat} (hk:k≤xs.length):(xs.take k++ys.drop k).length=xs.length:=by
 rw[List.length_append,List.length_take,List.length_drop];omega
theorem Nz {xs ys:List Nat} (hl:xs.length=ys.length) {k:Nat} (hk:k<xs.length):(xs.take k++ys.drop k).set k (xs.getD k 0)=xs.take (k+1)++ys.drop (k+1):=by
 rw[List.set_append_right _ _ (by rw[List.length_take];omega),List.length_take,Nat.min_eq_left ω,Nat.sub_self];have hy:k<ys.length:=ω;rw[List.drop_eq_getElem_cons hy,List.set_cons_zero,List.take_add_one,List.append_assoc,List.getD_eq_getElem?_getD,List.getElem?_eq_getElem hk];rfl
theorem anT (v u:V8) {k:Nat} (hk:k<8):(fO (anU v u)).getD k 0=((fO v).getD k 0+(fO u).getD k 0) % 4294967296:=by
 match k,hk with
 | 0,_ | 1,_ | 2,_ | 3,_ | 4,_ | 5,_ | 6,_ | 7,_=>rfl
theorem ah7 {A:Option Addr} {c:Nat} {b:List Nat} {g gw:Nat} {w w1:World} {Q0:Exit→Act→World→Prop} {x2 x3 x5 x6 x7 x8 x9 Fq ED Bd Hf EC IX Dj GR DV GN DT Ez Ey Ew Di Dh Df DR DN DL DK DJ DI DF DC Dz Dy Dx Dw GK Eu Et Es Ep Eo En Em Ej Ei Eh Ef Ee Ed He GI Fp Dv Ec Eb G_ G9 G8 GH Gz Gy Gx Fj Fh Fg Fe Gw Gv Gu Fb Fa E_ E8 E5 EZ EY EX EW IW IV IU Gt EU Ea D_ D9 D8 D7 Jd Jc G7 G6 Np KZ KY sV sU sS sQ sO sN sK sJ sH sG sF sD uI tY LM LK LJ LH LG LD Lu Ls Lr Lp Lm Ll Lj Lh Le Ld Lc La K_ Jg Jf Je QG QF QE QD QC QB QA Qz Qy Qx Qw Qv Qu Qs Qr Qq Qp Qo Qn Qm Ql Qk Qj Wq Qi Qh Qg Qe Qd Qc Qb Qa P_ P9 P8 P7 P6 P5 PZ PY:Value}
 (hA:Hid (bW w 1 ji A 64 b)) (hb:Hid (∀x∈b,x < 256)) (dN:Hid (gw=w.heap.size)) (xG:Hid (aF w1 gw 317 (jD (qy [])))) (fF:Hid (ah w w1))
 (hQ0:∀c a d v w,Q0 (.panic c) (Act.put a d v) w→Q0 (.panic c) a w)
 (oK:∀(u5 u17 u18 u19 u20 u21 u22 u23 u24 u25 u26 u27 u28 u29 u30 u31 u32 u33 u34 u35 u36 u37 u38 u39 u40 u41 u42 u43 u44 u45 u46 u47 u48 u49 u50 u51 u52 u53 u54 u55:Value) (wr:World),Hid (aF wr gw 317 (jD (qy (words 0 (dD b)))))∧Hid (ah w wr)→Q0 (.exit 0) ⟨((.pointer (some ⟨g,0,none⟩))::(.slice A 64 c)::x2::x3::(.pointer (some ⟨gw,0,none⟩))::u5::x6::x7::x8::x9::Fq::ED::Bd::Hf::EC::IX::Dj::u17::u18::u19::u20::u21::u22::u23::u24::u25::u26::u27::u28::u29::u30::u31::u32::u33::u34::u35::u36::u37::u38::u39::u40::u41::u42::u43::u44::u45::u46::u47::u48::u49::u50::u51::u52::u53::u54::u55::Fp::Dv::Ec::Eb::G_::G9::G8::GH::Gz::Gy::Gx::Fj::Fh::Fg::Fe::Gw::Gv::Gu::Fb::Fa::E_::E8::E5::EZ::EY::EX::EW::IW::IV::IU::Gt::EU::Ea::D_::D9::D8::D7::Jd::Jc::G7::G6::Np::KZ::KY::sV::sU::sS::sQ::sO::sN::sK::sJ::sH::sG::sF::sD::uI::tY::LM::LK::LJ::LH::LG::LD::Lu::Ls::Lr::Lp::Lm::Ll::Lj::Lh::Le::Ld::Lc::La::K_::Jg::Jf::Je::QG::QF::QE::QD::QC::QB::QA::Qz::Qy::Qx::Qw::Qv::Qu::Qs::Qr::Qq::Qp::Qo::Qn::Qm::Ql::Qk::Qj::Wq::Qi::Qh::Qg::Qe::Qd::Qc::Qb::Qa::P_::P9::P8::P7::P6::P5::PZ::PY::[]).toArray,[]⟩ wr) :
 Code.wp Tryz.prog (zQ Tryz.f180 0) Q0 ⟨((.pointer (some ⟨g,0,none⟩))::(.slice A 64 c)::x2::x3::(.pointer (some ⟨gw,0,none⟩))::x5::x6::x7::x8::x9::Fq::ED::Bd::Hf::EC::IX::Dj::(.int .i64 0)::GR::DV::GN::DT::Ez::Ey::Ew::Di::Dh::Df::DR::DN::DL::DK::DJ::DI::DF::DC::Dz::Dy::Dx::Dw::GK::Eu::Et::Es::Ep::Eo::En::Em::Ej::Ei::Eh::Ef::Ee::Ed::He::GI::Fp::Dv::Ec::Eb::G_::G9::G8::GH::Gz::Gy::Gx::Fj::Fh::Fg::Fe::Gw::Gv::Gu::Fb::Fa::E_::E8::E5::EZ::EY::EX::EW::IW::IV::IU::Gt::EU::Ea::D_::D9::D8::D7::Jd::Jc::G7::G6::Np::KZ::KY::sV::sU::sS::sQ::sO::sN::sK::sJ::sH::sG::sF::sD::uI::tY::LM::LK::LJ::LH::LG::LD::Lu::Ls::Lr::Lp::Lm::Ll::Lj::Lh::Le::Ld::Lc::La::K_::Jg::Jf::Je::QG::QF::QE::QD::QC::QB::QA::Qz::Qy::Qx::Qw::Qv::Qu::Qs::Qr::Qq::Qp::Qo::Qn::Qm::Ql::Qk::Qj::Wq::Qi::Qh::Qg::Qe::Qd::Qc::Qb::Qa::P_::P9::P8::P7::P6::P5::PZ::PY::[]).toArray,[]⟩ w1:=by
 conv=>arg 2;whnf
 go_loopw [17] (fun i wr=>∃k:Nat,k≤16∧i =.int .i64 k∧Hid (aF wr gw 317 (jD (qy ((dD b).take k))))∧Hid (ah w wr)) (fun i _=>16-(intOf i).toNat)
 case atStart=>exact⟨0,ω,rfl,xG,fF⟩
 case round=>
  obtain⟨k,hk,rfl,hB,hG⟩:=hrel;by_cases hlt:k<16
  ·obtain⟨bb,off,x0,rfl,hs0,hx0,hc0⟩:=((hA.o).keep hG.o).at_ (i:=4*k) ω;obtain⟨_,_,x1,e1,_,hx1,hc1⟩:=((hA.o).keep hG.o).at_ (i:=4*k+1) ω;obtain⟨_,_,x2,e2,_,hx2,hc2⟩:=((hA.o).keep hG.o).at_ (i:=4*k+2) ω;obtain⟨_,_,x3,e3,_,hx3,hc3⟩:=((hA.o).keep hG.o).at_ (i:=4*k+3) ω;cases e1;cases e2;cases e3
   have c0:wr.cell? ⟨bb,off+4*k,none⟩=some (.int .u8 x0):=by simpa using hc0 0 _ rfl
   have c1:wr.cell? ⟨bb,off+(4*k+1),none⟩=some (.int .u8 x1):=by simpa using hc1 0 _ rfl
   have c2:wr.cell? ⟨bb,off+(4*k+2),none⟩=some (.int .u8 x2):=by simpa using hc2 0 _ rfl
   have c3:wr.cell? ⟨bb,off+(4*k+3),none⟩=some (.int .u8 x3):=by simpa using hc3 0 _ rfl
   have hw:=akH (hb.o x0 (List.mem_of_getElem? hx0)) (hb.o x1 (List.mem_of_getElem? hx1)) (hb.o x2 (List.mem_of_getElem? hx2)) (hb.o x3 (List.mem_of_getElem? hx3));have Za:x0*16777216+x1*65536+x2*256+x3=be4 b k:=by
    unfold be4;simp only[List.getD_eq_getElem?_getD,hx0,hx1,hx2,hx3,Option.getD_some]
   have hb0:Hid (x0<256):=hb.o x0 (List.mem_of_getElem? hx0);have hb1:Hid (x1<256):=hb.o x1 (List.mem_of_getElem? hx1);have hb2:Hid (x2<256):=hb.o x2 (List.mem_of_getElem? hx2);have hb3:Hid (x3<256):=hb.o x3 (List.mem_of_getElem? hx3);rw[Za] at hw;have hl:((dD b).take k).length=k:=take_len ω;have s0:wr.cell? ⟨gw,k,none⟩=some (.int .u32 0):=by
    have h1:=NT (l:=(dD b).take k) ω;have:=(hB.o.cell k).trans (zi (by rw[Jr ω];omega));rw[hl] at h1;rw[h1] at this;exact this
   have f0:=hB.o.frozen k;have z0:=hB.o.lt;clear hx0 hx1 hx2 hx3 hc0 hc1 hc2 hc3 Za;generalize hX:be4 b k=X at *
   replace hX:=ζ hX;replace hl:=ζ hl;go_wp2_with fail;refine aG κ ?_;refine rK (.range 35) 1 ?_;iterate 35 refine aC ?_
   refine aB ?_;refine d_ (i:=35) rfl κ κ (fun wN hN hS K' hK=> ?_);clear hS;have s1:=hN.cell s0;have f1:wN.frozen? ⟨gw,k,none⟩=false:=((bQ hN).2 _ _ z0).trans f0;have rZ:=(hB.o.grows hN).bD k (.int .u32 (X:Int));have fQ:=(hG.o.trans hN).setCell (p:=⟨gw,k,none⟩) (Nat.le_of_eq dN.o.symm) (.int .u32 (X:Int));replace rZ:=ζ rZ;replace fQ:=ζ fQ;go_simp;refine hK.o _ _ ?_;clear hK s1 f1 hN hB hG s0 f0 z0 c0 c1 c2 c3;generalize wN.setCell ⟨gw,k,none⟩ (.int .u32 (X:Int))=w2 at *
   go_wp2;go_roundw
   case rel=>exact⟨k+1,ω,ν,by
    have:=rZ.o;rw[Bz] at this;have h2:=Sm (l:=(dD b).take k) X (by rw[hl.o];omega);rw[hl.o] at h2;rw[h2,←hX.o,←Yj b hlt] at this;exact this,fQ⟩
   case measure=>exact ψ
  ·obtain rfl:k=16:=ω;have I9:Hid (aF wr gw 317 (jD (qy (words 0 (dD b))))):=by
    have:=hB.o;rw[List.take_of_length_le (Nat.le_of_eq (qR b))] at this;exact this
   clear hB;go_wp2;exact⟨I9,hG⟩
theorem ah6 {b:List Nat} {gw g6:Nat} {w w3:World} {Q0:Exit→Act→World→Prop} {x0 x1 x2 x3 x5 x9 Fq ED Bd Hf EC IX Dj GU GR DV GN DT Ez Ey Ew Di Dh Df DR DN DL DK DJ DI DF DC Dz Dy Dx Dw GK Eu Et Es Ep Eo En Em Ej Ei Eh Ef Ee Ed He GI Fp Dv Ec Eb G_ G9 G8 GH Gz Gy Gx Fj Fh Fg Fe Gw Gv Gu Fb Fa E_ E8 E5 EZ EY EX EW IW IV IU Gt EU Ea D_ D9 D8 D7 Jd Jc G7 G6 Np KZ KY sV sU sS sQ sO sN sK sJ sH sG sF sD uI tY LM LK LJ LH LG LD Lu Ls Lr Lp Lm Ll Lj Lh Le Ld Lc La K_ Jg Jf Je QG QF QE QD QC QB QA Qz Qy Qx Qw Qv Qu Qs Qr Qq Qp Qo Qn Qm Ql Qk Qj Wq Qi Qh Qg Qe Qd Qc Qb Qa P_ P9 P8 P7 P6 P5 PZ PY:Value}
 (hb:Hid (∀x∈b,x < 256)) (dN:Hid (gw=w.heap.size)) (U_:Hid (gw<g6)) (I9:Hid (aF w3 gw 317 (jD (qy (words 0 (dD b)))))) (yj:Hid (aF w3 g6 319 #[.int .i64 7,.int .i64 18,.int .i64 0,.int .i64 3])) (tN:Hid (aF w3 (g6+1) 319 #[.int .i64 17,.int .i64 19,.int .i64 0,.int .i64 10])) (rH:Hid (ah w w3))
 (hQ0:∀c a d v w,Q0 (.panic c) (Act.put a d v) w→Q0 (.panic c) a w)
 (oK:∀(u8 u58 u59 u60 u61 u62 u63 u64 u65 u66 u67 u68 u69 u70 u71 u72 u73 u74 u75 u76 u77 u78 u79 u80 u81 u82 u83 u84 u85 u86:Value) (wr:World),Hid (aF wr gw 317 (jD (words 48 (dD b))))∧Hid (ah w wr)→Q0 (.exit 2) ⟨(x0::x1::x2::x3::(.pointer (some ⟨gw,0,none⟩))::x5::(.pointer (some ⟨g6,0,none⟩))::(.pointer (some ⟨g6+1,0,none⟩))::u8::x9::Fq::ED::Bd::Hf::EC::IX::Dj::GU::GR::DV::GN::DT::Ez::Ey::Ew::Di::Dh::Df::DR::DN::DL::DK::DJ::DI::DF::DC::Dz::Dy::Dx::Dw::GK::Eu::Et::Es::Ep::Eo::En::Em::Ej::Ei::Eh::Ef::Ee::Ed::He::GI::Fp::Dv::u58::u59::u60::u61::u62::u63::u64::u65::u66::u67::u68::u69::u70::u71::u72::u73::u74::u75::u76::u77::u78::u79::u80::u81::u82::u83::u84::u85::u86::EU::Ea::D_::D9::D8::D7::Jd::Jc::G7::G6::Np::KZ::KY::sV::sU::sS::sQ::sO::sN::sK::sJ::sH::sG::sF::sD::uI::tY::LM::LK::LJ::LH::LG::LD::Lu::Ls::Lr::Lp::Lm::Ll::Lj::Lh::Le::Ld::Lc::La::K_::Jg::Jf::Je::QG::QF::QE::QD::QC::QB::QA::Qz::Qy::Qx::Qw::Qv::Qu::Qs::Qr::Qq::Qp::Qo::Qn::Qm::Ql::Qk::Qj::Wq::Qi::Qh::Qg::Qe::Qd::Qc::Qb::Qa::P_::P9::P8::P7::P6::P5::PZ::PY::[]).toArray,[]⟩ wr) :
 Code.wp Tryz.prog (zQ Tryz.f180 1) Q0 ⟨(x0::x1::x2::x3::(.pointer (some ⟨gw,0,none⟩))::x5::(.pointer (some ⟨g6,0,none⟩))::(.pointer (some ⟨g6+1,0,none⟩))::(.int .i64 16)::x9::Fq::ED::Bd::Hf::EC::IX::Dj::GU::GR::DV::GN::DT::Ez::Ey::Ew::Di::Dh::Df::DR::DN::DL::DK::DJ::DI::DF::DC::Dz::Dy::Dx::Dw::GK::Eu::Et::Es::Ep::Eo::En::Em::Ej::Ei::Eh::Ef::Ee::Ed::He::GI::Fp::Dv::Ec::Eb::G_::G9::G8::GH::Gz::Gy::Gx::Fj::Fh::Fg::Fe::Gw::Gv::Gu::Fb::Fa::E_::E8::E5::EZ::EY::EX::EW::IW::IV::IU::Gt::EU::Ea::D_::D9::D8::D7::Jd::Jc::G7::G6::Np::KZ::KY::sV::sU::sS::sQ::sO::sN::sK::sJ::sH::sG::sF::sD::uI::tY::LM::LK::LJ::LH::LG::LD::Lu::Ls::Lr::Lp::Lm::Ll::Lj::Lh::Le::Ld::Lc::La::K_::Jg::Jf::Je::QG::QF::QE::QD::QC::QB::QA::Qz::Qy::Qx::Qw::Qv::Qu::Qs::Qr::Qq::Qp::Qo::Qn::Qm::Ql::Qk::Qj::Wq::Qi::Qh::Qg::Qe::Qd::Qc::Qb::Qa::P_::P9::P8::P7::P6::P5::PZ::PY::[]).toArray,[]⟩ w3:=by
 conv=>arg 2;whnf
 go_loopw [8] (fun i wr=>∃m:Nat,16≤m∧m≤64∧i =.int .i64 m∧Hid (aF wr gw 317 (jD (qy (words (m - 16) (dD b)))))∧Hid (aF wr g6 319 #[.int .i64 7,.int .i64 18,.int .i64 0,.int .i64 3])∧Hid (aF wr (g6+1) 319 #[.int .i64 17,.int .i64 19,.int .i64 0,.int .i64 10])∧Hid (ah w wr)) (fun i _=>64-(intOf i).toNat)
 case atStart=>exact⟨16,ω,ω,rfl,I9,yj,tN,rH⟩
 case round=>
  clear I9 yj tN rH;obtain⟨m,Y8,Q_,rfl,hB,yj,tN,hG⟩:=hrel;by_cases hlt:m < 64
  ·have hlen:(words (m - 16) (dD b)).length=m:=by rw[yu,qR];omega
   have hWd:=ag9 hb.o (m - 16);have hat:∀j,j < m→wr.cell? ⟨gw,j,none⟩=some (.int .u32 (((words (m - 16) (dD b)).getD j 0:Nat):Int)):=fun j hj=>by
    have:=(hB.o.cell j).trans (zi (by rw[Jr ω];omega));rw[aii ω] at this;exact this
   have c0:=hat (m - 16) ω;have c1:=hat (m - 15) ω;have c2:=hat (m - 7) ω;have c3:=hat (m - 2) ω;have hq:=hWd (m - 15);have hs:=hWd (m - 2);have cL:=fun W=>aaH hq W
   have cH:=fun W=>Xp hs W
   have hN1:=Zn (n:=m - 16) (b:=b);rw[show m - 16+1=m - 15 by omega,show m - 16+9=m - 7 by omega,show m - 16+14=m - 2 by omega] at hN1;unfold Uf at hN1;have s0:wr.cell? ⟨gw,m,none⟩=some (.int .u32 0):=by
    have h1:=NT (l:=words (m - 16) (dD b)) ω;have:=(hB.o.cell m).trans (zi (by rw[Jr ω];omega));rw[hlen] at h1;rw[h1] at this;exact this
   have f0:=hB.o.frozen m;have z0:=hB.o.lt;have d0:=yj.o.cell 0;have d1:=yj.o.cell 1;have d2:=yj.o.cell 2;have d3:=yj.o.cell 3;have z6:=yj.o.lt;have e0:=tN.o.cell 0;have e1:=tN.o.cell 1;have e2:=tN.o.cell 2;have e3:=tN.o.cell 3;have z7:=tN.o.lt;clear hWd hat hq hs;generalize (words (m - 16) (dD b)).getD (m - 16) 0=p at *
   generalize (words (m - 16) (dD b)).getD (m - 15) 0=q at *
   generalize (words (m - 16) (dD b)).getD (m - 7) 0=r at *
   generalize (words (m - 16) (dD b)).getD (m - 2) 0=s at *
   generalize QK 7 18 3 q=L at *
   generalize QK 17 19 10 s = H at *
   have hw:=Wx p L r H;rw[←hN1] at hw;generalize hX:oW (words (m - 16) (dD b))=X at *
   replace hX:=ζ hX;clear hN1;replace hlen:=ζ hlen;replace cL:=ζ cL;replace cH:=ζ cH;go_wp2_with fail;refine aG κ ?_;refine rK (.range 25) 1 ?_;iterate 10 refine aC ?_
   refine aY (.int .u32 (L:Int)) rfl χ (fun wq eG=> ?_) ?_
   ·obtain⟨nR,mY⟩:=bQ eG;go_simp;exact Calls.mono (cL.out wq) (fun e w'' h=>h)
   go_simp;iterate 11 refine aC ?_
   refine aY (.int .u32 (H:Int)) rfl χ (fun wq eG=> ?_) ?_
   ·obtain⟨nR,mY⟩:=bQ eG;go_simp;exact Calls.mono (cH.out wq) (fun e w'' h=>h)
   go_simp;iterate 2 refine aC ?_
   refine aB ?_;refine d_ (i:=25) rfl κ κ (fun wN hN hS K' hK=> ?_);clear hS;have s1:=hN.cell s0;have f1:wN.frozen? ⟨gw,m,none⟩=false:=((bQ hN).2 _ _ z0).trans f0;have rZ:=(hB.o.grows hN).bD m (.int .u32 (X:Int));have fQ:=(hG.o.trans hN).setCell (p:=⟨gw,m,none⟩) (Nat.le_of_eq dN.o.symm) (.int .u32 (X:Int));have aqS:=(yj.o.grows hN).far (p:=⟨gw,m,none⟩) (Nat.ne_of_gt U_.o) (.int .u32 (X:Int));have aqR:=(tN.o.grows hN).far (p:=⟨gw,m,none⟩) (Nat.ne_of_gt (Nat.lt_succ_of_lt U_.o)) (.int .u32 (X:Int));replace rZ:=ζ rZ;replace fQ:=ζ fQ;replace aqS:=ζ aqS;replace aqR:=ζ aqR;go_simp;refine hK.o _ _ ?_;clear hK s1 f1 hN hB hG yj tN s0 f0 z0 z6 z7 c0 c1 c2 c3 d0 d1 d2 d3 e0 e1 e2 e3;generalize wN.setCell ⟨gw,m,none⟩ (.int .u32 (X:Int))=w2 at *
   go_wp2;go_roundw
   case rel=>exact⟨m + 1,ω,ω,ν,by
    have:=rZ.o;rw[Bz] at this;have h2:=Sm (l:=words (m - 16) (dD b)) X (by rw[hlen.o];omega);rw[hlen.o,←hX.o,←Ns] at h2;rw[←hX.o,h2] at this;rw[show m + 1-16=m - 16+1 by omega];exact this,aqS,aqR,fQ⟩
   case measure=>exact ψ
  ·obtain rfl:m = 64:=ω;have I9:Hid (aF wr gw 317 (jD (words 48 (dD b)))):=by
    have:=hB.o;rw[aao (by rw[yu,qR])] at this;exact this
   clear hB U_ yj tN;go_wp2;exact⟨I9,hG⟩
theorem ah5 {KA:Array Value} {WL:List Nat} {RV:Nat→V8} {KF:Nat→Nat} {gw g9:Nat} {w w5:World} {Q0:Exit→Act→World→Prop} {x0 x1 x2 x3 x5 x6 x7 x8 Bd Hf EC IX Dj GU GR DV GN DT Ez Ey Ew Di Dh Df DR DN DL DK DJ DI DF DC Dz Dy Dx Dw GK Eu Et Es Ep Eo En Em Ej Ei Eh Ef Ee Ed He GI Fp Dv Ec Eb G_ G9 G8 GH Gz Gy Gx Fj Fh Fg Fe Gw Gv Gu Fb Fa E_ E8 E5 EZ EY EX EW IW IV IU Gt EU Ea D_ D9 D8 D7 G7 G6 Np KZ KY sV sU sS sQ sO sN sK sJ sH sG sF sD uI tY LM LK LJ LH LG LD Lu Ls Lr Lp Lm Ll Lj Lh Le Ld Lc La K_ Jg Jf Je QG QF QE QD QC QB QA Qz Qy Qx Qw Qv Qu Qs Qr Qq Qp Qo Qn Qm Ql Qk Qj Wq Qi Qh Qg Qe Qd Qc Qb Qa P_ P9 P8 P7 P6 P5 PZ PY:Value}
 (hKat:Hid (∀k,k<64→KA[k]? = some (.int .u32 ((KF k:Nat):Int)))) (afi:Hid (∀k,k<64→(jD WL)[k]? = some (.int .u32 ((WL.getD k 0:Nat):Int)))) (SN:Hid (∀k,RV (k+1)=WV (RV k) (KF k) (WL.getD k 0))) (oh:Hid (∀k,(RV k).ok))
 (dN:Hid (gw=w.heap.size)) (JF:Hid (gw<g9)) (I9:Hid (aF w5 gw 317 (jD WL))) (iZ:Hid (aF w5 g9 319 #[.int .i64 6,.int .i64 11,.int .i64 25,.int .i64 0])) (mg:Hid (aF w5 (g9+1) 319 #[.int .i64 2,.int .i64 13,.int .i64 22,.int .i64 0])) (iU:Hid (aF w5 (g9+1+1) 279 (jD (fO (RV 0))))) (oL:Hid (ah w w5))
 (hQ0:∀c a d v w,Q0 (.panic c) (Act.put a d v) w→Q0 (.panic c) a w)
 (oK:∀(u12 u13 u14 u15 u94 u95 u96 u97 u98 u99 UC UA Uz Uy Ux Uw Uu Ut Us Ur Uo Un Zx ahK ahJ ahI ahH ahG ahF ahE ahD ahC ahB ahA ahz ahy ahx ahw ahv ahu aht ahs ahr aty atx atw atv atu u138 att atr atq atp ato atn atm atl atj ati ath atg atf ate atd atc atb ata as9 as8:Value) (wr:World),Hid (aF wr (g9+1+1) 279 (jD (fO (RV 64))))∧Hid (ah w wr)→Q0 (.exit 4) ⟨(x0::x1::x2::x3::(.pointer (some ⟨gw,0,none⟩))::x5::x6::x7::x8::(.pointer (some ⟨g9,0,none⟩))::(.pointer (some ⟨g9+1,0,none⟩))::(.pointer (some ⟨g9+1+1,0,none⟩))::u12::u13::u14::u15::Dj::GU::GR::DV::GN::DT::Ez::Ey::Ew::Di::Dh::Df::DR::DN::DL::DK::DJ::DI::DF::DC::Dz::Dy::Dx::Dw::GK::Eu::Et::Es::Ep::Eo::En::Em::Ej::Ei::Eh::Ef::Ee::Ed::He::GI::Fp::Dv::Ec::Eb::G_::G9::G8::GH::Gz::Gy::Gx::Fj::Fh::Fg::Fe::Gw::Gv::Gu::Fb::Fa::E_::E8::E5::EZ::EY::EX::EW::IW::IV::IU::Gt::EU::Ea::D_::D9::D8::D7::(.agg KA)::u94::u95::u96::u97::u98::u99::UC::UA::Uz::Uy::Ux::Uw::Uu::Ut::Us::Ur::Uo::Un::Zx::ahK::ahJ::ahI::ahH::ahG::ahF::ahE::ahD::ahC::ahB::ahA::ahz::ahy::ahx::ahw::ahv::ahu::aht::ahs::ahr::aty::atx::atw::atv::atu::u138::att::atr::atq::atp::ato::atn::atm::atl::atj::ati::ath::atg::atf::ate::atd::atc::atb::ata::as9::as8::Wq::Qi::Qh::Qg::Qe::Qd::Qc::Qb::Qa::P_::P9::P8::P7::P6::P5::PZ::PY::[]).toArray,[]⟩ wr) :
 Code.wp Tryz.prog (zQ Tryz.f180 2) Q0 ⟨(x0::x1::x2::x3::(.pointer (some ⟨gw,0,none⟩))::x5::x6::x7::x8::(.pointer (some ⟨g9,0,none⟩))::(.pointer (some ⟨g9+1,0,none⟩))::(.pointer (some ⟨g9+1+1,0,none⟩))::Bd::Hf::EC::IX::Dj::GU::GR::DV::GN::DT::Ez::Ey::Ew::Di::Dh::Df::DR::DN::DL::DK::DJ::DI::DF::DC::Dz::Dy::Dx::Dw::GK::Eu::Et::Es::Ep::Eo::En::Em::Ej::Ei::Eh::Ef::Ee::Ed::He::GI::Fp::Dv::Ec::Eb::G_::G9::G8::GH::Gz::Gy::Gx::Fj::Fh::Fg::Fe::Gw::Gv::Gu::Fb::Fa::E_::E8::E5::EZ::EY::EX::EW::IW::IV::IU::Gt::EU::Ea::D_::D9::D8::D7::(.agg KA)::(.int .i64 0)::G7::G6::Np::KZ::KY::sV::sU::sS::sQ::sO::sN::sK::sJ::sH::sG::sF::sD::uI::tY::LM::LK::LJ::LH::LG::LD::Lu::Ls::Lr::Lp::Lm::Ll::Lj::Lh::Le::Ld::Lc::La::K_::Jg::Jf::Je::QG::QF::QE::QD::QC::QB::QA::Qz::Qy::Qx::Qw::Qv::Qu::Qs::Qr::Qq::Qp::Qo::Qn::Qm::Ql::Qk::Qj::Wq::Qi::Qh::Qg::Qe::Qd::Qc::Qb::Qa::P_::P9::P8::P7::P6::P5::PZ::PY::[]).toArray,[]⟩ w5:=by
 conv=>arg 2;whnf
 go_loopw [94] (fun i wr=>∃k:Nat,k≤64∧i =.int .i64 k∧Hid (aF wr gw 317 (jD WL))∧Hid (aF wr g9 319 #[.int .i64 6,.int .i64 11,.int .i64 25,.int .i64 0])∧Hid (aF wr (g9+1) 319 #[.int .i64 2,.int .i64 13,.int .i64 22,.int .i64 0])∧Hid (aF wr (g9+1+1) 279 (jD (fO (RV k))))∧Hid (ah w wr)) (fun i _=>64-(intOf i).toNat)
 case atStart=>exact⟨0,ω,rfl,I9,iZ,mg,iU,oL⟩
 case round=>
  clear I9 iZ mg iU oL;obtain⟨k,hk,rfl,hB,iZ,mg,iU,hG⟩:=hrel;by_cases hlt:k<64
  ·have hka:=hKat.o k hlt;have hka:=W_ hlt hka;have hwa:=(hB.o.cell k).trans (afi.o k hlt);have hst:=SN.o k;have hu:=oh.o k;generalize RV k=u at *
   obtain⟨a,b',c',d,e,f,g',z'⟩:=u;have q0:=iU.o.c0;have q1:=iU.o.c1;have q2:=iU.o.c2;have q3:=iU.o.c3;have q4:=iU.o.c4;have q5:=iU.o.c5;have q6:=iU.o.c6;have q7:=iU.o.c7;have qz:=iU.o.lt;have d0:=mg.o.cell 0;have d1:=mg.o.cell 1;have d2:=mg.o.cell 2;have d3:=mg.o.cell 3;have dz:=mg.o.lt;clear d0 d1 d2 d3 dz;have d0:=iZ.o.cell 0;have d1:=iZ.o.cell 1;have d2:=iZ.o.cell 2;have d3:=iZ.o.cell 3;have dz:=iZ.o.lt;have wz:=hB.o.lt;have cE:=fun W=>aaJ (x:=e) hu.2.2.2.2.1 W
   have cA:=fun W=>UN (x:=a) hu.1 W
   generalize WL.getD k 0=Wk at *
   generalize KF k=Kk at *
   generalize Rl:sig 6 11 25 e = SE at *
   generalize hSA:sig 2 13 22 a = SA at *
   have hch:=anw (e:=e) (f:=f) (g:=g') hu.2.2.2.2.1;have hmj:=aiz (a:=a) (b:=b') (c:=c') hu.1 hu.2.1;have hT:((z':Int)+(SE:Int)+(((e &&&f) ^^^ (UL e &&&g'):Nat):Int)+(Kk:Int)+(Wk:Int)) % 4294967296=((tOf ⟨a,b',c',d,e,f,g',z'⟩ Kk Wk:Nat):Int):=by
    unfold tOf t1;simp only[Rl];omega
   have hU:((SA:Int)+(((a &&&b') ^^^ (a &&&c') ^^^ (b' &&&c'):Nat):Int)) % 4294967296=((uOf ⟨a,b',c',d,e,f,g',z'⟩:Nat):Int):=by
    unfold uOf;simp only[hSA];omega
   unfold WV at hst;simp only at hst;generalize tOf ⟨a,b',c',d,e,f,g',z'⟩ Kk Wk=T at *
   generalize uOf ⟨a,b',c',d,e,f,g',z'⟩=U at *
   generalize (e &&&f) ^^^ (UL e &&&g')=CH at *
   generalize (a &&&b') ^^^ (a &&&c') ^^^ (b' &&&c')=MJ at *
   replace cE:=ζ cE;replace cA:=ζ cA;replace hst:=ζ hst;replace Rl:=ζ Rl;replace hSA:=ζ hSA;replace hu:=ζ hu;go_wp2_with fail;refine aG κ ?_;refine rK (.range 27) 0 ?_;iterate 5 refine aC ?_
   refine aY (.int .u32 (SE:Int)) rfl χ (fun wq eG=> ?_) ?_
   ·obtain⟨nR,mY⟩:=bQ eG;go_simp;exact Calls.mono (cE.out wq) (fun e w'' h=>h)
   go_simp;iterate 21 refine aC ?_
   refine aB ?_;refine aJ κ (fun wN hN hS=> ?_);clear q0 q1 q2 q3 q4 q5 q6 q7 qz d0 d1 d2 d3 dz wz hwa hka;replace hB:=ζ (hB.o.grows hN);replace iZ:=ζ (iZ.o.grows hN);replace mg:=ζ (mg.o.grows hN);replace iU:=ζ (iU.o.grows hN);replace hG:=ζ (hG.o.trans hN);clear hN hS;have q0:=iU.o.c0;have q1:=iU.o.c1;have q2:=iU.o.c2;have q3:=iU.o.c3;have q4:=iU.o.c4;have q5:=iU.o.c5;have q6:=iU.o.c6;have q7:=iU.o.c7;have qz:=iU.o.lt;have d0:=mg.o.cell 0;have d1:=mg.o.cell 1;have d2:=mg.o.cell 2;have d3:=mg.o.cell 3;have dz:=mg.o.lt;go_wp2_with fail;refine aG κ ?_;refine rK (.range 23) 0 ?_;iterate 3 refine aC ?_
   refine aY (.int .u32 (SA:Int)) rfl χ (fun wq eG=> ?_) ?_
   ·obtain⟨nR,mY⟩:=bQ eG;go_simp;exact Calls.mono (cA.out wq) (fun e w'' h=>h)
   go_simp;iterate 19 refine aC ?_
   refine aB ?_;refine aJ κ (fun wN hN hS=> ?_);rename_i aDm;clear q0 q1 q2 q3 q4 q5 q6 q7 qz d0 d1 d2 d3 dz;replace hB:=ζ (hB.o.grows hN);replace iZ:=ζ (iZ.o.grows hN);replace mg:=ζ (mg.o.grows hN);replace iU:=ζ (iU.o.grows hN);replace hG:=ζ (hG.o.trans hN);clear hN hS;have q0:=iU.o.c0;have q1:=iU.o.c1;have q2:=iU.o.c2;have q3:=iU.o.c3;have q4:=iU.o.c4;have q5:=iU.o.c5;have q6:=iU.o.c6;have q7:=iU.o.c7;have qz:=iU.o.lt;have d0:=mg.o.cell 0;have d1:=mg.o.cell 1;have d2:=mg.o.cell 2;have d3:=mg.o.cell 3;have dz:=mg.o.lt;have f0:=iU.o.frozen;go_wp2_with fail;refine aG κ ?_;refine rK [0,1] 1 ?_;iterate 2 refine aC ?_
   refine aB ?_;refine d_ (i:=2) rfl κ κ (fun wN hN hS K' hK=> ?_);clear hS;replace iU:=ζ (iU.o.grows hN);replace hB:=ζ (hB.o.grows hN);replace iZ:=ζ (iZ.o.grows hN);replace mg:=ζ (mg.o.grows hN);replace hG:=ζ (hG.o.trans hN);clear q0 q1 q2 q3 q4 q5 q6 q7 qz d0 d1 d2 d3 dz f0 hN;obtain⟨w8,hcp,Iq,hby⟩:=av1 iU.o;replace Iq:=ζ Iq;replace hby:=ζ hby;go_simp;refine hK.o _ _ ?_;clear hK hcp iU;replace hG:=ζ (hG.o.qh hby.o (by have:=JF.o;have:=dN.o;omega));replace hB:=ζ (hB.o.fH hby.o (by have:=JF.o;omega));replace iZ:=ζ (iZ.o.fH hby.o ω);replace mg:=ζ (mg.o.fH hby.o ω);clear hby;have q0:=Iq.o.c0;have q4:=Iq.o.c4;have f0:=Iq.o.frozen 0;have f4:=Iq.o.frozen 4;have qz:=Iq.o.lt;have hD:((d:Int)+(T:Int)) % 4294967296=(((d + T) % 4294967296:Nat):Int):=ω;have hA':((T:Int)+(U:Int)) % 4294967296=(((T+U) % 4294967296:Nat):Int):=ω;have hBn:=(Iq.o.bD 4 (.int .u32 (((d + T) % 4294967296:Nat):Int))).bD 0 (.int .u32 (((T+U) % 4294967296:Nat):Int));generalize (d + T) % 4294967296=D' at *
   generalize (T+U) % 4294967296=A' at *
   rw[Bz,Bz] at hBn;have Wi:=(hB.o.far (p:=⟨g9+1+1,4,none⟩) (by have:=JF.o;simp only;omega) (.int .u32 (D':Int))).far (p:=⟨g9+1+1,0,none⟩) (by have:=JF.o;simp only;omega) (.int .u32 (A':Int));have aqQ:=(iZ.o.far (p:=⟨g9+1+1,4,none⟩) (by simp only;omega) (.int .u32 (D':Int))).far (p:=⟨g9+1+1,0,none⟩) (by simp only;omega) (.int .u32 (A':Int));have ajR:=(mg.o.far (p:=⟨g9+1+1,4,none⟩) (by simp only;omega) (.int .u32 (D':Int))).far (p:=⟨g9+1+1,0,none⟩) (by simp only;omega) (.int .u32 (A':Int));have qo:=(hG.o.setCell (p:=⟨g9+1+1,4,none⟩) (by have:=JF.o;have:=dN.o;simp only;omega) (.int .u32 (D':Int))).setCell (p:=⟨g9+1+1,0,none⟩) (by have:=JF.o;have:=dN.o;simp only;omega) (.int .u32 (A':Int));clear hB iZ mg hG Iq;replace hBn:=ζ hBn;replace Wi:=ζ Wi;replace aqQ:=ζ aqQ;replace ajR:=ζ ajR;replace qo:=ζ qo;go_wp2;go_roundw
   case rel=>exact⟨k+1,ω,ν,Wi,aqQ,ajR,by rw[hst.o];exact hBn,qo⟩
   case measure=>exact ψ
  ·obtain rfl:k=64:=ω;clear hB JF iZ mg;go_wp2;exact⟨iU,hG⟩
theorem ah4 {xs ys zs:List Nat} {g gz:Nat} {rest:Value} {count:Int} {w w5:World} {Q0:Exit→Act→World→Prop} {x1 x2 x3 x4 x5 x6 x7 x8 x9 Fq Bd Hf EC IX Dj GU GR DV GN DT Ez Ey Ew Di Dh Df DR DN DL DK DJ DI DF DC Dz Dy Dx Dw GK Eu Et Es Ep Eo En Em Ej Ei Eh Ef Ee Ed He GI Fp Dv Ec Eb G_ G9 G8 GH Gz Gy Gx Fj Fh Fg Fe Gw Gv Gu Fb Fa E_ E8 E5 EZ EY EX EW IW IV IU Gt EU Ea D_ D9 D8 D7 Jd Jc G7 G6 Np KZ KY sV sU sS sQ sO sN sK sJ sH sG sF sD uI tY LM LK LJ LH LG LD Lu Ls Lr Lp Lm Ll Lj Lh Le Ld Lc La K_ Jg Jf Je QG QF QE QD QC QB QA Qz Qy Qx Qw Qv Qu Qs Qr Qq Qp Qo Qn Qm Ql Qk Qj Qi Qh Qg Qe Qd Qc Qb Qa P_ P9 P8 P7 P6 P5 PZ PY:Value}
 (Q8:Hid (∀j,j < 8→xs.getD j 0=(ys.getD j 0+zs.getD j 0) % 4294967296)) (Va:xs.length=ys.length) (hl8:ys.length=8) (hlR:zs.length=8) (afk:Hid (aF w5 g 282 (tZ ys rest count))) (iU:Hid (aF w5 gz 279 (jD zs))) (hby:Hid (w.grownBy w5 (some g))) (hgg:Hid (g≠gz))
 (hQ0:∀c a d v w,Q0 (.panic c) (Act.put a d v) w→Q0 (.panic c) a w)
 (oK:∀(u16 as7 as6 as5 as4 as3 as2 as1 asZ asY asX asW asV asU asT asR asQ asP:Value) (wr:World),Hid (aF wr g 282 (tZ xs rest count))∧Hid (w.grownBy wr (some g))→Q0 (.exit 6) ⟨((.pointer (some ⟨g,0,none⟩))::x1::x2::x3::x4::x5::x6::x7::x8::x9::Fq::(.pointer (some ⟨gz,0,none⟩))::Bd::Hf::EC::IX::u16::GU::GR::DV::GN::DT::Ez::Ey::Ew::Di::Dh::Df::DR::DN::DL::DK::DJ::DI::DF::DC::Dz::Dy::Dx::Dw::GK::Eu::Et::Es::Ep::Eo::En::Em::Ej::Ei::Eh::Ef::Ee::Ed::He::GI::Fp::Dv::Ec::Eb::G_::G9::G8::GH::Gz::Gy::Gx::Fj::Fh::Fg::Fe::Gw::Gv::Gu::Fb::Fa::E_::E8::E5::EZ::EY::EX::EW::IW::IV::IU::Gt::EU::Ea::D_::D9::D8::D7::Jd::Jc::G7::G6::Np::KZ::KY::sV::sU::sS::sQ::sO::sN::sK::sJ::sH::sG::sF::sD::uI::tY::LM::LK::LJ::LH::LG::LD::Lu::Ls::Lr::Lp::Lm::Ll::Lj::Lh::Le::Ld::Lc::La::K_::Jg::Jf::Je::QG::QF::QE::QD::QC::QB::QA::Qz::Qy::Qx::Qw::Qv::Qu::Qs::Qr::Qq::Qp::Qo::Qn::Qm::Ql::Qk::Qj::as7::as6::as5::as4::as3::as2::as1::asZ::asY::asX::asW::asV::asU::asT::asR::asQ::asP::[]).toArray,[]⟩ wr) :
 Code.wp Tryz.prog (zQ Tryz.f180 3) Q0 ⟨((.pointer (some ⟨g,0,none⟩))::x1::x2::x3::x4::x5::x6::x7::x8::x9::Fq::(.pointer (some ⟨gz,0,none⟩))::Bd::Hf::EC::IX::Dj::GU::GR::DV::GN::DT::Ez::Ey::Ew::Di::Dh::Df::DR::DN::DL::DK::DJ::DI::DF::DC::Dz::Dy::Dx::Dw::GK::Eu::Et::Es::Ep::Eo::En::Em::Ej::Ei::Eh::Ef::Ee::Ed::He::GI::Fp::Dv::Ec::Eb::G_::G9::G8::GH::Gz::Gy::Gx::Fj::Fh::Fg::Fe::Gw::Gv::Gu::Fb::Fa::E_::E8::E5::EZ::EY::EX::EW::IW::IV::IU::Gt::EU::Ea::D_::D9::D8::D7::Jd::Jc::G7::G6::Np::KZ::KY::sV::sU::sS::sQ::sO::sN::sK::sJ::sH::sG::sF::sD::uI::tY::LM::LK::LJ::LH::LG::LD::Lu::Ls::Lr::Lp::Lm::Ll::Lj::Lh::Le::Ld::Lc::La::K_::Jg::Jf::Je::QG::QF::QE::QD::QC::QB::QA::Qz::Qy::Qx::Qw::Qv::Qu::Qs::Qr::Qq::Qp::Qo::Qn::Qm::Ql::Qk::Qj::(.int .i64 0)::Qi::Qh::Qg::Qe::Qd::Qc::Qb::Qa::P_::P9::P8::P7::P6::P5::PZ::PY::[]).toArray,[]⟩ w5:=by
 conv=>arg 2;whnf
 go_loopw [159] (fun i wx=>∃k:Nat,k≤8∧i =.int .i64 k∧Hid (aF wx g 282 (tZ (xs.take k++ys.drop k) rest count))∧Hid (aF wx gz 279 (jD zs))∧Hid (w.grownBy wx (some g))) (fun i _=>8-(intOf i).toNat)
 case atStart=>exact⟨0,ω,rfl,afk,iU,hby⟩
 case round=>
  clear afk iU hby;obtain⟨k,hk,rfl,hS,hZ,hby⟩:=hrel;by_cases hlt:k<8
  ·have e1:=(hS.o.cell k).trans (acr (by rw[Fz Va ω];omega));rw[adG Va ω] at e1;have e2:=(hZ.o.cell k).trans (zi ω);have hne:=Q8.o k hlt;have aI:=Nz Va (k:=k) ω;have hSn:=fun x=>ahN (l:=xs.take k++ys.drop k) (rest:=rest) (count:=count) (k:=k) (by rw[Fz Va ω];omega) x
   have f1:=hS.o.frozen k;have z1:=hS.o.lt;have z2:=hZ.o.lt;generalize ys.getD k 0=Y at *
   generalize zs.getD k 0=Z at *
   have Q9:((Y:Int)+(Z:Int)) % 4294967296=((xs.getD k 0:Nat):Int):=by rw[hne];omega
   generalize xs.getD k 0=X at *
   clear hne;replace aI:=ζ aI;replace hSn:=ζ hSn;go_wp2_with fail;refine aG κ ?_;refine rK (.range 13) 1 ?_;iterate 13 refine aC ?_
   refine aB ?_;refine d_ (i:=13) rfl κ κ (fun wN hN hS K' hK=> ?_);clear hS;have e3:=hN.cell e1;have f3:wN.frozen? ⟨g,k,none⟩=false:=((bQ hN).2 _ _ z1).trans f1;have EM:=(hS.o.grows hN).bD k (.int .u32 (X:Int));have hZ2:=(hZ.o.grows hN).far (p:=⟨g,k,none⟩) (by have:=hgg.o;simp only;omega) (.int .u32 (X:Int));have lY:w.grownBy (wN.setCell ⟨g,k,none⟩ (.int .u32 (X:Int))) (some g):=(hby.o.trans (hN.fH _)).trans (aj wN ⟨g,k,none⟩ _);rw[hSn.o,aI.o] at EM;replace EM:=ζ EM;replace hZ2:=ζ hZ2;replace lY:=ζ lY;clear hN hS hZ hby;go_simp;refine hK.o _ _ ?_;clear hK e3 f3 e1 e2 f1 z1 z2;generalize wN.setCell ⟨g,k,none⟩ (.int .u32 (X:Int))=w9 at *
   go_wp2;go_roundw
   case rel=>exact⟨k+1,ω,ν,EM,hZ2,lY⟩
   case measure=>exact ψ
  ·obtain rfl:k=8:=ω;have EM:=hS.o;rw[List.take_of_length_le ω,List.drop_of_length_le ω,List.append_nil] at EM;replace EM:=ζ EM;clear hS;go_wp2;exact⟨EM,hby⟩
theorem aiH:pJ.length=64:=δ
theorem ad5 {v:V8} (hv:v.ok) {A:Option Addr} {c:Nat} {b:List Nat} {g:Nat} {rest:Value} {count:Int} (w:World) (hA:bW w 1 ji A 64 b) (hb:∀x∈b,x < 256)
 (hg:aF w g 282 (tZ (fO v) rest count)) :
 Calls Tryz.prog 180 #[.pointer (some ⟨g,0,none⟩),.slice A 64 c] w fun e w'=>e =.returned (.tuple #[])∧aF w' g 282 (tZ (fO (EF v b)) rest count)∧w.grownBy w' (some g):=by
 replace hA:=ζ hA;replace hb:=ζ hb;replace hg:=ζ hg;replace hv:=ζ hv;go_enter Tryz.func180,Tryz.ntmps180
 go_wp2;refine wZ (Pr:=fun W=>Code.wp _ _ _ _ W) (fun w1 xG fF=> ?_);replace xG:aF w1 w.heap.size 317 (jD (qy [])):=xG.cast κ;obtain⟨gw,dN⟩:∃gw,gw=w.heap.size:=⟨_,rfl⟩;rw[←dN] at xG ⊢;replace dN:=ζ dN;replace xG:=ζ xG;replace fF:=ζ fF;refine ah7 hA hb dN xG fF π ?_;rintro u5 u17 u18 u19 u20 u21 u22 u23 u24 u25 u26 u27 u28 u29 u30 u31 u32 u33 u34 u35 u36 u37 u38 u39 u40 u41 u42 u43 u44 u45 u46 u47 u48 u49 u50 u51 u52 u53 u54 u55 wr ⟨hB,hG⟩;clear xG fF w1 hA;go_wp2;refine UM (Pr:=fun W=>Code.wp _ _ _ _ W) (fun w3 yj tN qo=> ?_);obtain⟨g6,FZ⟩:∃g6,g6=wr.heap.size:=⟨_,rfl⟩;have U_:=hB.o.lt;rw[←FZ] at yj tN U_ ⊢;replace hB:=ζ (hB.o.grows qo);have rH:=ζ (hG.o.trans qo);clear hG qo FZ;replace yj:=ζ yj;replace tN:=ζ tN;replace U_:=ζ U_;clear wr;refine ah6 hb dN U_ hB yj tN rH π ?_;rintro u8 u58 u59 u60 u61 u62 u63 u64 u65 u66 u67 u68 u69 u70 u71 u72 u73 u74 u75 u76 u77 u78 u79 u80 u81 u82 u83 u84 u85 u86 wr ⟨I9,hG⟩;clear hB yj tN rH U_ w3;have c8:∀W,ah w W→aF W g 282 (tZ (fO v) rest count):=fun W h=>hg.o.grows h
 have tK:=c8 wr hG.o;have q0:=tK.c0;have q1:=tK.c1;have q2:=tK.c2;have q3:=tK.c3;have q4:=tK.c4;have q5:=tK.c5;have q6:=tK.c6;have q7:=tK.c7;have qz:=tK.lt;have cK:=fun W=>aiI W
 replace cK:=ζ cK;replace tK:=ζ tK;replace c8:=ζ c8;go_wp2_with fail;refine (cK.out _).mono ?_;rintro e w5 ⟨rfl,fM⟩;have iZ:aF w5 wr.heap.size 319 #[.int .i64 6,.int .i64 11,.int .i64 25,.int .i64 0]:=(((aF.new wr _ _).alloc _).alloc _).grows fM;have mg:aF w5 (wr.heap.size+1) 319 #[.int .i64 2,.int .i64 13,.int .i64 22,.int .i64 0]:=((aF.kW wr _ _ _).alloc _).grows fM;have iU:aF w5 (wr.heap.size+1+1) 279 (jD (fO v)):=(aF.zK wr _ _ _ _).grows fM;have oL:ah wr w5:=((((ah.refl wr).alloc _).alloc _).alloc _).trans fM;obtain⟨g9,iG⟩:∃g9,g9=wr.heap.size:=⟨_,rfl⟩;have JF:=I9.o.lt;have aje:=tK.o.lt;rw[←iG] at iZ mg iU JF aje ⊢;replace I9:=ζ (I9.o.grows oL);replace oL:=ζ (hG.o.trans oL);replace iZ:=ζ iZ;replace mg:=ζ mg;replace JF:=ζ JF;replace aje:=ζ aje;clear hG iG q0 q1 q2 q3 q4 q5 q6 q7 qz tK fM cK;clear wr;have hKat:∀k,k<64→(jD pJ)[k]? = some (.int .u32 ((pJ.getD k 0:Nat):Int)):=fun k hk=>zi (by rw[aiH];exact hk)
 have afi:∀k,k<64→(jD (words 48 (dD b)))[k]? = some (.int .u32 (((words 48 (dD b)).getD k 0:Nat):Int)):=fun k hk=>zi (by rw[yu,qR];exact hk)
 have SN:∀k,rC pJ (words 48 (dD b)) (k+1) v = WV (rC pJ (words 48 (dD b)) k v) (pJ.getD k 0) ((words 48 (dD b)).getD k 0):=fun _=>rfl
 have aQ:EF v b = anU v (rC pJ (words 48 (dD b)) 64 v):=rfl;have oh:∀k,(rC pJ (words 48 (dD b)) k v).ok:=fun k=>ZP hv.o k
 have hr0:rC pJ (words 48 (dD b)) 0 v = v:=rfl;generalize hvF:EF v b = asJ at *
 replace hvF:=ζ hvF;generalize jD pJ=KA at *
 generalize words 48 (dD b)=WL at *
 generalize hRV:(fun k=>rC pJ WL k v)=RV at *
 have avk:∀k,rC pJ WL k v = RV k:=fun k=>congrFun hRV k
 simp only[avk] at SN aQ oh hr0;generalize hKf:(fun k=>pJ.getD k 0)=KF at *
 have hKk:∀k,pJ.getD k 0=KF k:=fun k=>congrFun hKf k
 simp only[hKk] at SN hKat;clear avk hRV hKf hKk hb;have iU:Hid (aF w5 (g9+1+1) 279 (jD (fO (RV 0)))):=by rw[hr0];exact iU
 replace hKat:=ζ hKat;replace afi:=ζ afi;replace SN:=ζ SN;replace aQ:=ζ aQ;replace oh:=ζ oh;clear hr0;go_wp2;refine ah5 hKat afi SN oh dN JF I9 iZ mg iU oL π ?_;intro u12 u13 u14 u15 u94 u95 u96 u97 u98 u99 UC UA Uz Uy Ux Uw Uu Ut Us Ur Uo Un Zx ahK ahJ ahI ahH ahG ahF ahE ahD ahC ahB ahA ahz ahy ahx ahw ahv ahu aht ahs ahr aty atx atw atv atu u138 att atr atq atp ato atn atm atl atj ati ath atg atf ate atd atc atb ata as9 as8 wr h;obtain⟨hZ,hG⟩:=h;clear I9 iZ mg iU oL hKat afi SN oh;have Q8:=fun j hj=>anT v (RV 64) (k:=j) hj
 rw[←aQ.o] at Q8;have Va:=(vP asJ).trans (vP v).symm;have hl8:=vP v;have hlR:=vP (RV 64);have afk:=c8.out wr hG.o;have hby:=hG.o.fH (some g);have hgg:Hid (g≠g9+1+1):=by
  show g≠g9+1+1
  have:=aje.o;omega
 generalize fO (RV 64)=zs at *
 generalize hxs:fO asJ=xs at *
 replace hxs:=ζ hxs;generalize fO v = ys at *
 clear aQ hG aje JF;replace Q8:=ζ Q8;replace afk:=ζ afk;replace hby:=ζ hby;go_wp2;refine ah4 Q8 Va hl8 hlR afk hZ hby hgg π ?_;rintro u16 as7 as6 as5 as4 as3 as2 as1 asZ asY asX asW asV asU asT asR asQ asP wz ⟨EM,lY⟩;go_wp2;exact bodyPost_end (results_none rfl _ _ _) rfl ⟨rfl,by rw[hvF.o,hxs.o];exact EM.o,lY.o⟩
theorem YV:eX Tryz.prog 112 5 1 1:=eX.mk' (z:=.int .u8 0) Tryz.underlying112 κ rfl ω
theorem f_ {α:Type} {w:World} {base k:Nat} {e:TypeId} {enc:α→List Value} {v:Value} {xs:List α} {P:Program} {ops:Array Oper} {rest:List Oper} {o:Oper} {ac:Act} {Q:Exit→Act→World→Prop} {ys:List α} {m bytes c:Nat} {t:TypeId} (T:eX P t e k bytes) (hgd:Region.wanted o (yielded ops ac.tmps)=true) (s y:Operand)
 (ho:o.op=.call {callee:=.builtin .append,args:= #[s,y],argTypes:= #[t,t]}) (h:Own w base e k enc v xs) (hs:ac.eval s = v) {A:Option Addr} (hy:ac.eval y =.slice A m c) (kC:bW w k enc A m ys)
 (hk:∀x,(enc x).length=k) (h1:∀x,∀u∈enc x,u.oneCell'=true) (hbase:base≤w.heap.size) (h63:xs.length+m≤maxLen) (hbytes:(xs.length+m)*bytes≤140737488355328)
 (hK:∀v' w',Own w' base e k enc v' (xs++ys)→w.grownBy w' v.ownBlock→(v'.ownBlock=v.ownBlock∨v'.ownBlock=some w.heap.size)→wpList P ops Q rest (ac.put o.dst v') w'):wpList P ops Q (o ::rest) ac w:=
 wpList_step fun _ dV=>Own.Iw (ops:=ops) T hgd s y ho h hs hy kC hk h1 hbase h63 hbytes fun v' w' a b c=>dV _ _ (hK v' w' a b c)
theorem aF.aO {w w':World} {j:Nat} {row:Option Nat} {t:TypeId} {cs:Array Value} (h:aF w j t cs) (hg:w.grownBy w' row) (hne:some j≠row):aF w' j t cs:=
 (hg.block j h.lt hne).trans h
theorem ah.aO {a w w':World} {row:Option Nat} (h:ah a w) (hg:w.grownBy w' row) (hl:∀g,row=some g→a.heap.size≤g):ah a w':=
 ah.of ⟨hg.os.trans (Below.os h),hg.tape.trans (Below.tape h),hg.output.trans (Below.output h),Nat.le_trans h.size hg.size,fun j hj=>(hg.block j (Nat.lt_of_lt_of_le hj h.size) (fun e=>by have:=hl j e.symm;omega)).trans (Below.block h j hj)⟩
def iq (w:World) (g:Nat) (A:Option Addr) (n:Nat) (xs:List Nat):Prop:=bW w 1 ji A n xs∧∀ad,A=some ad→0<n→ad.block≠g
theorem iq.fH {w w':World} {g n:Nat} {A:Option Addr} {xs:List Nat} (h:iq w g A n xs) (hg:w.grownBy w' (some g)):iq w' g A n xs:=
 ⟨⟨h.1.1,fun hn=>by
  obtain⟨b,off,e,hb,hc⟩:=h.1.2 hn;have hne:b≠g:=h.2 _ e hn;exact⟨b,off,e,Nat.lt_of_lt_of_le hb hg.size,fun i hi j u hu=>by
   rw[World.cell?_of_block (hg.block b hb (by simpa using hne))];exact hc i hi j u hu⟩⟩,h.2⟩
theorem iq.drop {w:World} {g n k b off:Nat} {xs:List Nat} (h:iq w g (some ⟨b,off,none⟩) n xs) (hk:k≤n):iq w g (some ⟨b,off+k,none⟩) (n - k) (xs.drop k):=by
 refine⟨⟨by rw[List.length_drop,h.1.1],fun hn=> ?_⟩,fun ad e hn=>by cases e;exact h.2 ⟨b,off,none⟩ rfl ω⟩;obtain⟨b',kJ,e,hb,hc⟩:=h.1.2 ω;cases e
 refine⟨b,off+k,rfl,hb,fun i hi j u hu=> ?_⟩;rw[List.length_drop] at hi;rw[List.getElem_drop] at hu;have:=hc (k+i) ω j u hu;rwa [show off+(k+i)*1+j = off+k+i * 1+j by omega] at this
theorem Own.apart {w:World} {base g:Nat} {v:Value} {xs:List Nat} {t:TypeId} {cs:Array Value} (h:Own w base 5 1 ji v xs) (hB:aF w g t cs) (ht:t≠5) :
 ∃A c,v =.slice A xs.length c∧xs.length≤c∧c≤maxLen∧iq w g A xs.length xs∧(∀j,v.ownBlock=some j→base≤j∧j≠g):=by
 have h2:=h;obtain⟨A,c,rfl,hc,hcm,hA⟩:=h.arr hkB;have hown:∀j,(Value.slice A xs.length c).ownBlock=some j→base≤j∧j≠g:=fun j hj=>by
  rcases h2.2 with⟨h0,_⟩ | ⟨g',cap,cur,hv,hb,hh,_⟩
  ·rw[h0] at hj;cases hj
  ·rw[hv] at hj;simp only[Value.ownBlock,Option.some.injEq] at hj;subst hj;refine⟨hb,fun e=> ?_⟩;subst e;unfold aF at hB;rw[hh] at hB;simp only[Option.some.injEq,Obj.cells.injEq] at hB;exact ht hB.2.1.symm
 refine⟨A,c,rfl,hc,hcm,⟨hA,fun ad e hn=> ?_⟩,hown⟩;subst e;obtain⟨b,off,e,_⟩:=hA.2 hn;cases e
 rcases h2.2 with⟨h0,_⟩ | ⟨g',cap,cur,hv,_⟩
 ·cases h0
 ·simp only[Value.slice.injEq,Option.some.injEq,Addr.mk.injEq] at hv;obtain⟨⟨hb,ho,_⟩,_⟩:=hv;subst hb;subst ho;exact (hown b (by simp[Value.ownBlock])).2
theorem Own.fH {α:Type} {w w':World} {base k g:Nat} {e:TypeId} {enc:α→List Value} {v:Value} {xs:List α} (h:Own w base e k enc v xs) (hg:w.grownBy w' (some g)) (hne:∀j,v.ownBlock=some j→j≠g):Own w' base e k enc v xs:=by
 refine⟨h.1,?_⟩;rcases h.2 with h2 | ⟨g',cap,cur,hv,hb,hh,r⟩
 ·exact .inl h2
 ·have hlt:g'<w.heap.size:=by
   rcases Nat.lt_or_ge g' w.heap.size with h | h
   ·exact h
   ·rw[Array.getElem?_eq_none h] at hh;cases hh
  have h3:g'≠g:=hne g' (by rw[hv];rfl);exact .inr ⟨g',cap,cur,hv,hb,(hg.block g' hlt (by simpa using h3)).trans hh,r⟩
theorem ahO (v:V8) (rest:Value) (count x:Int):(tZ (fO v) rest count).setIfInBounds 9 (.int .i64 x)=tZ (fO v) rest x:=rfl
theorem yC (v:V8) (rest r:Value) (count:Int):(tZ (fO v) rest count).setIfInBounds 8 r = tZ (fO v) r count:=rfl
theorem YI (n:Nat) (v:V8) (l:List Nat):blocks (n + 1) v l = EF (blocks n v l) ((l.drop (64*n)).take 64):=by
 rw[O_];rfl
def MG (g:Nat) (w:World):Nat:=match w.cell? ⟨g,8,none⟩ with
 | some (.slice _ n _)=>n
 | _=>0
theorem uT {g n c:Nat} {w:World} {A:Option Addr} (h:w.cell? ⟨g,8,none⟩=some (.slice A n c)):MG g w = n:=by unfold MG;rw[h]
theorem adq {W0:World} {g:Nat} {v:V8} (hv:v.ok) {rest:Value} {xs ys:List Nat} {count:Int} {A:Option Addr} {m c:Nat} (w:World) (h0:ah W0 w) (hg0:W0.heap.size≤g)
 (hS:aF w g 282 (tZ (fO v) rest count)) (hO:Own w W0.heap.size 5 1 ji rest xs) (hy:iq w g A m ys) (hb:∀x∈xs++ys,x < 256) (hlen:xs.length+m≤1099511627776) (hc1:0≤count) (hc2:count≤1099511627776) :
 Calls Tryz.prog 145 #[.pointer (some ⟨g,0,none⟩),.slice A m c] w fun e w'=>∃(n:Nat) (A':Option Addr) (c':Nat),e =.returned (.int .i64 (count+m))∧64*n≤(xs++ys).length∧(xs++ys).length<64*n + 64∧
  aF w' g 282 (tZ (fO (blocks n v (xs++ys))) (.slice A' ((xs++ys).length-64*n) c') (count+m))∧iq w' g A' ((xs++ys).length-64*n) ((xs++ys).drop (64*n))∧(xs++ys).length-64*n≤c'∧c'≤maxLen∧ah W0 w':=by
 have lJ:=hy.1.1;have d8:w.cell? ⟨g,8,none⟩=some rest:=hS.cell 8;have d9:w.cell? ⟨g,9,none⟩=some (.int .i64 count):=hS.cell 9;have f9:=hS.frozen 9;have sz:=hS.lt;have hby:=aj w ⟨g,9,none⟩ (.int .i64 (count+(m:Int)));obtain⟨A0,c0,hr0,_,_,_,hown⟩:=hO.apart hS δ;have wH:=hO.fH hby (fun j hj=>(hown j hj).2);have hy1:=hy.fH hby;have hS1:=hS.bD 9 (.int .i64 (count+(m:Int)));rw[ahO] at hS1;have h01:=h0.qh hby hg0;have hbase:=h01.size;have h63:xs.length+m≤maxLen:=by unfold maxLen;omega
 have hbytes:(xs.length+m)*1≤140737488355328:=ω;replace wH:=ζ wH;replace hy1:=ζ hy1;replace hb:=ζ hb;replace h01:=ζ h01;replace hS1:=ζ hS1;replace hv:=ζ hv;replace hown:=ζ hown;have hcm: -9223372036854775808≤count+(m:Int)∧count+(m:Int)≤9223372036854775807:=ω;clear hO hy hS h0 hr0 hby;go_enter Tryz.func145,Tryz.ntmps145
 go_wp2_with (refine f_ YV rfl (.tmp 20) (.tmp 21) rfl wH.o rfl rfl hy1.o.1 hkB aau hbase h63 hbytes ?_;intro v2 w2 nI lY hv2;(have EM:=hS1.o.aO lY (fun e=>(hown.o g e.symm).2 rfl));(have h02:=h01.o.aO lY (fun j hj=>(hown.o j hj).1));(obtain⟨A2,c2,ai2,Y6,X5,rZ,hown2⟩:=nI.apart EM δ);subst ai2;(have e8:=EM.cell 8);(have f8:=EM.frozen 8);(have z8:=EM.lt);(have kZ:=aj w2 ⟨g,8,none⟩ (.slice A2 (xs++ys).length c2));(have JQ:=EM.bD 8 (.slice A2 (xs++ys).length c2));(rw[yC] at JQ);(have Wi:=rZ.fH kZ);(have h03:=h02.qh kZ hg0);(replace JQ:=ζ JQ);(replace Wi:=ζ Wi);(replace h03:=ζ h03);(have hzl:(xs++ys).length≤1099511627776:=by rw[List.length_append];omega);(generalize hzs:xs++ys=zs at *);(replace hzs:=ζ hzs);(generalize hL:zs.length=L at *);(replace hL:=ζ hL);clear nI lY hv2 EM h02 hown2 kZ rZ wH hS1 hy1 h01 hown d8 d9 f9 sz h63 hbytes hbase);generalize w2.setCell ⟨g,8,none⟩ (.slice A2 L c2)=w3 at *
 clear e8 f8 z8;go_loopw [] (fun wr=>∃(n:Nat) (A':Option Addr) (c':Nat),64*n≤L∧Hid (aF wr g 282 (tZ (fO (blocks n v zs)) (.slice A' (L-64*n) c') (count+m)))∧Hid (iq wr g A' (L-64*n) (zs.drop (64*n)))∧L-64*n≤c'∧c'≤maxLen∧Hid (ah W0 wr)) (fun wr=>MG g wr)
 case atStart=>exact⟨0,A2,c2,ω,JQ,Wi,ω,X5,h03⟩
 case round=>
  clear JQ Wi h03;obtain⟨n,A',c',hn,hS,hB,Cb,au2,h0⟩:=hrel;have qM:=uT (g:=g) (w:=wr) (A:=A') (n:=L-64*n) (c:=c') (hS.o.cell 8);have e8:wr.cell? ⟨g,8,none⟩=some (.slice A' (L-64*n) c'):=hS.o.cell 8;have z8:=hS.o.lt;by_cases hlt:64≤L-64*n
  ·obtain⟨b,off,rfl,hbl,_⟩:=hB.o.1.2 ω;have avN:=hB.o.1.take (m:=64) hlt;have DY:∀x∈(zs.drop (64*n)).take 64,x < 256:=fun x hx=>hb.o x (List.mem_of_mem_drop (List.mem_of_mem_take hx))
   have cR:=ad5 (TW n zs hv.o) wr avN DY hS.o (c:=c');rw[←YI] at cR;replace cR:=ζ cR;clear avN DY;by_cases hc:c'=64
   ·subst hc;go_wp2_with fail;refine (cR.out).mono ?_;rintro e w5 ⟨rfl,hS5,F7⟩;have OD:=hB.o.fH F7;have h05:=h0.o.qh F7 hg0;have g8:w5.cell? ⟨g,8,none⟩=some (.slice (some ⟨b,off,none⟩) (L-64*n) 64):=hS5.cell 8;have f8:=hS5.frozen 8;have y8:=hS5.lt;have hz0:L-64*(n + 1)=0:=ω;have PE:=hS5.bD 8 (.slice (some ⟨b,off,none⟩) 0 0);rw[yC] at PE;have AU:=aj w5 ⟨g,8,none⟩ (.slice (some ⟨b,off,none⟩) 0 0);have yj:iq (w5.setCell ⟨g,8,none⟩ (.slice (some ⟨b,off,none⟩) 0 0)) g (some ⟨b,off,none⟩) 0 ((zs.drop (64*n)).drop 64):=by
     have h0:L-64*n - 64=0:=ω;have h1:(zs.drop (64*n)).drop 64=[]:=List.eq_nil_of_length_eq_zero (by rw[List.length_drop,List.length_drop,hL.o];exact h0);rw[h1];exact⟨bW.iH,fun _ _ h=>absurd h ω⟩
    have h06:=h05.qh AU hg0;have aa7:=uT (A:=some ⟨b,off,none⟩) (n:=0) (c:=0) (PE.cell 8);rw[List.drop_drop] at yj;rw[show 64*n + 64=64*(n + 1) by omega] at yj;replace PE:=ζ PE;replace yj:=ζ yj;replace h06:=ζ h06;replace aa7:=ζ aa7;replace qM:=ζ qM;clear OD h05 F7 AU hS5 cR;go_wp2;go_roundw
    case rel=>exact⟨n + 1,some ⟨b,off,none⟩,0,ω,by rw[hz0];exact PE,by rw[hz0];exact yj,ω,by unfold maxLen;omega,h06⟩
    case measure=>rw[aa7.o,qM.o];omega
   ·skip
    go_wp2_with fail;refine (cR.out).mono ?_;rintro e w5 ⟨rfl,hS5,F7⟩;have OD:=hB.o.fH F7;have h05:=h0.o.qh F7 hg0;have g8:w5.cell? ⟨g,8,none⟩=some (.slice (some ⟨b,off,none⟩) (L-64*n) c'):=hS5.cell 8;have f8:=hS5.frozen 8;have y8:=hS5.lt;have PE:=hS5.bD 8 (.slice (some ⟨b,off+64,none⟩) (L-64*n - 64) (c'-64));rw[yC] at PE;have AU:=aj w5 ⟨g,8,none⟩ (.slice (some ⟨b,off+64,none⟩) (L-64*n - 64) (c'-64));have yj:iq (w5.setCell ⟨g,8,none⟩ (.slice (some ⟨b,off+64,none⟩) (L-64*n - 64) (c'-64))) g (some ⟨b,off+64,none⟩) (L-64*n - 64) ((zs.drop (64*n)).drop 64):=(OD.drop hlt).fH AU;have h06:=h05.qh AU hg0;have aa7:=uT (A:=some ⟨b,off+64,none⟩) (n:=L-64*n - 64) (c:=(c'-64)) (PE.cell 8);rw[List.drop_drop] at yj;rw[show L-64*n - 64=L-64*(n + 1) by omega,show 64*n + 64=64*(n + 1) by omega] at yj;rw[show L-64*n - 64=L-64*(n + 1) by omega] at PE;replace PE:=ζ PE;replace yj:=ζ yj;replace h06:=ζ h06;replace aa7:=ζ aa7;replace qM:=ζ qM;clear OD h05 F7 AU hS5 cR;go_wp2;go_roundw
    case rel=>exact⟨n + 1,some ⟨b,off+64,none⟩,(c'-64),ω,PE,yj,ω,by unfold maxLen at au2 ⊢;omega,h06⟩
    case measure=>rw[aa7.o,qM.o];omega
  ·have e9:wr.cell? ⟨g,9,none⟩=some (.int .i64 (count+(m:Int))):=hS.o.cell 9;go_wp2;go_ret;rw[hzs.o,hL.o];exact⟨n,A',c',rfl,hn,ω,hS.o,hB.o,Cb,au2,h0.o⟩
end Go.Proofs.YtbhikkgpcmkonaaGreatDoor
