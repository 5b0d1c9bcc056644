/- Parts: ShaI ShaH1 ShaH2 ShaH3 ShaH4 ShaH ShaK -/
import Derived.Test.YtbhikkgpcmkonaaGreatDoorVo0
import Derived.Laws.CopyRow
import Derived.Test.YtbhikkgpcmkonaaGreatDoorVo2
import Derived.Test.YtbhikkgpcmkonaaGreatDoorVo3
set_option maxRecDepth 100000
set_option maxHeartbeats 12800000
namespace Go.Proofs.YtbhikkgpcmkonaaGreatDoor
open Go.RowKit
def jr (x:Nat):List Value:=[.int .u8 (x:Int)]
theorem hkB (x:Nat):(jr x).length=1:=rfl
theorem aa_ (x:Nat):∀u∈jr x,u.oneCell'=true:=by intro u hu;simp[jr] at hu;subst hu;rfl
def gJ (v:V8):List Nat:=[v.a,v.b,v.c,v.d,v.e,v.f,v.g,v.h]
def Ah:Code→List Code
 | .seq a b=>Ah a ++Ah b
 | .cond _ a b=>Ah a ++Ah b
 | .block _ c=>Ah c
 | .scope c=>Ah c
 | .loop c=>[.loop c]
 | _=>[]
def Ai (f:Func) (n:Nat):Code:=((f.body.map Ah).getD []).getD n .skip
theorem xK {Pr:World→Prop} {w:World} {t:TypeId} {cs:Array Value} (h:∀w1,aG w1 w.heap.size t cs→ah w w1→Pr w1):Pr (w.alloc (.cells cs t)):=h _ (aG.new w t cs) ((ah.refl w).alloc _)
theorem Ql {a b:Nat} (ha:Wd a):bits .and .u32 (a:Int) (b:Int)=((a &&&b:Nat):Int):=by
 have hx:=(Dy (b:=b) ha).lt;show IntKind.u32.wrap ((BitVec.ofInt 32 (a:Int) &&&BitVec.ofInt 32 (b:Int)).toNat:Int)=_
 rw[BitVec.toNat_and,ofInt32 ha,BitVec.ofInt_natCast,BitVec.toNat_ofNat,wrap32];have e:a &&&b % 2 ^ 32=a &&&b:=by
  apply Nat.eq_of_testBit_eq;intro i;rw[Nat.testBit_and,Nat.testBit_mod_two_pow,Nat.testBit_and];by_cases hi:i < 32
  ·simp[hi]
  ·simp[ac6 ha (Nat.le_of_not_lt hi)]
 rw[e,Nat.mod_eq_of_lt hx]
theorem XV {KA:Array Value} {k:Nat} {x:Int} (hk:k<64) (h:KA[k]? = some (.int .u32 x)) (w:World):(Instr.index 317 (.agg KA) (.int .i64 (k:Int))).run Tryz.prog w =.ok (.int .u32 x) w:=by
 have h0:(0:Int)≤(k:Int)∧(k:Int)<64:=ω;unfold Instr.index part;go_simp
theorem auX {e:Nat} (he:Wd e):4294967295 ^^^ e = VF e:=by
 have h:=he.lt;apply Nat.eq_of_testBit_eq;intro i;have e1:VF e = 2 ^ 32-(e + 1):=by unfold VF;omega
 rw[e1,Nat.testBit_two_pow_sub_succ h,Nat.testBit_xor,show (4294967295:Nat)=2 ^ 32-1 from rfl,Nat.testBit_two_pow_sub_one];by_cases hi:i < 32
 ·simp[hi]
 ·simp[hi,ac6 he (Nat.le_of_not_lt hi)]
theorem aow {e f g:Nat} (he:Wd e):bits .xor .u32 (bits .and .u32 (e:Int) (f:Int)) (bits .and .u32 (bits .xor .u32 IntKind.u32.max (e:Int)) (g:Int))=(((e &&&f) ^^^ (VF e &&&g):Nat):Int):=by
 have hn:Wd (VF e):=Wd.of (by unfold VF;omega);rw[show IntKind.u32.max=((4294967295:Nat):Int) from by decide,Ba (Wd.of δ) he,auX he,Ql he,Ql hn,Ba (Dy he) (Dy hn)]
theorem ajk {a b c:Nat} (ha:Wd a) (hb:Wd b):bits .xor .u32 (bits .xor .u32 (bits .and .u32 (a:Int) (b:Int)) (bits .and .u32 (a:Int) (c:Int))) (bits .and .u32 (b:Int) (c:Int))=(((a &&&b) ^^^ (a &&&c) ^^^ (b &&&c):Nat):Int):=by
 rw[Ql ha,Ql ha,Ql hb,Ba (Dy ha) (Dy ha),Ba (JK (Dy ha) (Dy ha)) (Dy hb)]
theorem VG {Pr:World→Prop} {w:World} {t t':TypeId} {cs cs':Array Value} (h:∀w1,aG w1 w.heap.size t cs→aG w1 (w.heap.size+1) t' cs'→ah w w1→Pr w1):Pr ((w.alloc (.cells cs t)).alloc (.cells cs' t')):=
 h _ ((aG.new w t cs).alloc _) (aG.kV w _ _ _) (((ah.refl w).alloc _).alloc _)
theorem Xy (p L r H:Nat):((p:Int)+(L:Int)+(r:Int)+(H:Int)) % 4294967296=(((((p + L) % 4294967296+r) % 4294967296+H) % 4294967296:Nat):Int):=ω
theorem aG.cast {w:World} {g:Nat} {t:TypeId} {cs cs':Array Value} (h:aG w g t cs) (e:cs=cs'):aG w g t cs':=e ▸ h
theorem ah.fP {w w':World} (h:ah w w') (row:Option Nat):w.grownBy w' row:=⟨Below.os h,Below.tape h,Below.output h,Below.size h,fun i hi _=>Below.block h i hi⟩
theorem aau {a b n:Nat} (hb:b < 2 ^ n):a * 2 ^ n |||b = a * 2 ^ n + b:=by
 have:=Nat.shiftLeft_add_eq_or_of_lt (i:=n) (b:=b) hb a;rw[Nat.shiftLeft_eq] at this;exact this.symm
theorem alC {a b c d:Nat} (ha:a < 256) (hb:b < 256) (hc:c < 256) (hd:d < 256) :
 bits .or .u32 (bits .or .u32 (bits .or .u32 ((a:Int) % 4294967296*16777216 % 4294967296) ((b:Int) % 4294967296*65536 % 4294967296)) ((c:Int) % 4294967296*256 % 4294967296)) ((d:Int) % 4294967296)=((a * 16777216+b * 65536+c * 256+d:Nat):Int):=by
 have e1:(a:Int) % 4294967296*16777216 % 4294967296=((a * 16777216:Nat):Int):=ω;have e2:(b:Int) % 4294967296*65536 % 4294967296=((b * 65536:Nat):Int):=ω;have e3:(c:Int) % 4294967296*256 % 4294967296=((c * 256:Nat):Int):=ω;have e4:(d:Int) % 4294967296=((d:Nat):Int):=ω;have o1:a * 16777216 |||b * 65536=a * 16777216+b * 65536:=aau (n:=24) ω
 have o2:a * 16777216+b * 65536 |||c * 256=a * 16777216+b * 65536+c * 256:=by
  have:=aau (a:=a * 256+b) (b:=c * 256) (n:=16) ω;rw[show (2:Nat) ^ 16=65536 from rfl,Nat.add_mul,Nat.mul_assoc] at this;exact this
 have o3:a * 16777216+b * 65536+c * 256 |||d = a * 16777216+b * 65536+c * 256+d:=by
  have:=aau (a:=a * 65536+b * 256+c) (b:=d) (n:=8) ω;rw[show (2:Nat) ^ 8=256 from rfl,Nat.add_mul,Nat.add_mul,Nat.mul_assoc,Nat.mul_assoc] at this;exact this
 have w1:Wd (a * 16777216):=Wd.of ω;have w2:Wd (b * 65536):=Wd.of ω;have w3:Wd (c * 256):=Wd.of ω;have w4:Wd d:=Wd.of ω;have w5:Wd (a * 16777216+b * 65536):=Wd.of ω;have w6:Wd (a * 16777216+b * 65536+c * 256):=Wd.of ω;rw[e1,e2,e3,e4,amV w1 w2,o1,amV w5 w3,o2,amV w6 w4,o3]
theorem mO (w:World) (g:Nat) (cs:Array Value):w.grownBy (w.setRow g cs) (some g) where
 os:=rfl
 tape:=rfl
 output:=rfl
 size:=by unfold World.setRow;simp
 block:=fun k _ hne=>by
  unfold World.setRow;have:g≠k:=fun h=>hne (by rw[h])
  simp[Array.getElem?_modify,this]
theorem aG.fP {w w':World} {j g:Nat} {t:TypeId} {cs:Array Value} (h:aG w j t cs) (hg:w.grownBy w' (some g)) (hne:j≠g):aG w' j t cs:=
 (hg.block j h.lt (by simpa using hne)).trans h
theorem ah.qj {a w w':World} {g:Nat} (h:ah a w) (hg:w.grownBy w' (some g)) (hl:a.heap.size≤g):ah a w':=
 ah.of ⟨hg.os.trans (Below.os h),hg.tape.trans (Below.tape h),hg.output.trans (Below.output h),Nat.le_trans h.size hg.size,fun j hj=>(hg.block j (Nat.lt_of_lt_of_le hj h.size) (by simp;omega)).trans (Below.block h j hj)⟩
theorem aj (w:World) (p:Addr) (v:Value):w.grownBy (w.setCell p v) (some p.block) where
 os:=rfl
 tape:=rfl
 output:=rfl
 size:=by simp
 block:=fun k _ hne=>Below.heap_setCell w p v k (by intro h;exact hne (by rw[h]))
theorem axg {w:World} {g a b c d e f h i:Nat} (hB:aG w g 279 (jI [a,b,c,d,e,f,h,i])) :
 ∃w',(Builtin.copy_ #[322,322] 3 #[.slice (some ⟨g,1,none⟩) 7 7,.slice (some ⟨g,0,none⟩) 7 8]).run Tryz.prog w =.ok (goInt 7) w'∧aG w' g 279 (jI [a,a,b,c,d,e,f,h])∧w.grownBy w' (some g):=by
 have hc:=run_copy_row (P:=Tryz.prog) w 322 322 3 23 g 1 7 7 ⟨g,0,none⟩ 7 8 (jI [a,b,c,d,e,f,h,i]) 279 (jI [a,b,c,d,e,f,h]).toList Tryz.underlying322 κ hB rfl
  (fun j v hv=>by
   have hj:j < 7:=(List.getElem?_eq_some_iff.1 hv).1;have:(⟨g,0,none⟩:Addr).add j = ⟨g,j,none⟩:=by unfold Addr.add;by_cases hj:j = 0 <;> simp[hj]
   rw[this,hB.cell j,←hv];match j,hj with
   | 0,_ | 1,_ | 2,_ | 3,_ | 4,_ | 5,_ | 6,_=>rfl) (by simp[jI]) (by intro v hv;simp[jI] at hv;rcases hv with rfl | rfl | rfl | rfl | rfl | rfl | rfl <;> rfl)
 exact⟨_,hc,setRow_heap w g _ _ _ _ hB,mO w g _⟩
theorem vY (v:V8):(gJ v).length=8:=rfl
theorem ac9 {l:List Nat} {rest:Value} {count:Int} {k:Nat} (h:k<l.length):(um l rest count)[k]? = some (.int .u32 ((l.getD k 0:Nat):Int)):=by
 unfold um;rw[Array.getElem?_append_left (by rw[TA];exact h),zT h]
theorem aiC {l:List Nat} {rest:Value} {count:Int} {k:Nat} (h:k<l.length) (x:Nat):(um l rest count).setIfInBounds k (.int .u32 (x:Int))=um (l.set k x) rest count:=by
 unfold um;rw[←BU,Array.setIfInBounds_append_left (by rw[TA];exact h)]
theorem aer {xs ys:List Nat} (hl:xs.length=ys.length) {k:Nat} (hk:k<xs.length):(xs.take k++ys.drop k).getD k 0=ys.getD k 0:=by
 simp only[List.getD_eq_getElem?_getD];rw[List.getElem?_append_right (by rw[List.length_take];omega),List.length_take,Nat.min_eq_left ω,Nat.sub_self,List.getElem?_drop,Nat.add_zero]
theorem Gi {xs ys:List Nat} (hl:xs.length=ys.length) {k:Nat} (hk:k≤xs.length):(xs.take k++ys.drop k).length=xs.length:=by
 rw[List.length_append,List.length_take,List.length_drop];omega
theorem Oo {xs ys:List Nat} (hl:xs.length=ys.length) {k:Nat} (hk:k<xs.length):(xs.take k++ys.drop k).set k (xs.getD k 0)=xs.take (k+1)++ys.drop (k+1):=by
 rw[List.set_append_right _ _ (by rw[List.length_take];omega),List.length_take,Nat.min_eq_left ω,Nat.sub_self];have hy:k<ys.length:=ω;rw[List.drop_eq_getElem_cons hy,List.set_cons_zero,List.take_add_one,List.append_assoc,List.getD_eq_getElem?_getD,List.getElem?_eq_getElem hk];rfl
theorem aoR (v u:V8) {k:Nat} (hk:k<8):(gJ (aoS v u)).getD k 0=((gJ v).getD k 0+(gJ u).getD k 0) % 4294967296:=by
 match k,hk with
 | 0,_ | 1,_ | 2,_ | 3,_ | 4,_ | 5,_ | 6,_ | 7,_=>rfl
theorem aiV {A:Option Addr} {c:Nat} {b:List Nat} {g gw:Nat} {w w1:World} {Q0:Exit→Act→World→Prop} {x2 x3 x5 x6 x7 x8 x9 Gf E8 BJ Ii E5 Jw DL HY En Hz Em EZ EY EX DK DJ DI Ej Ei Eh Ef Ee Ed Ec Eb Ea D_ D9 D8 Hy EW EU ET ES ER EP EO EN EM EL EK EJ EI Ih Hw F9 D7 EH EG Ig Ie Ic Hu Ht Hr Hq F8 F7 F6 F5 Ho Hl Hg FZ FY FX FV FQ FP FN FM FK Jv Ju Jt Hf FH EF ED EC Ez Ey JM JL Ib Ia Oc L9 L8 tq sZ sW sV sU sS sQ sO sN sK sJ sH uS uj MX MW MV MS MR MQ MP MO MN MK MI MH MG MF MC Me Md Mc L_ JR JQ JO RH RG RF RD Rz Ry Rx Rw Ru Rt Rq Ro Rn Rl Rk Rj Ri Rh Rf Q_ Q9 Q8 Q7 Xu Q5 QZ QY QW QV QU QT QO QN QM QL QK QJ QI QH QG:Value}
 (hA:Hid (bW w 1 jr A 64 b)) (hb:Hid (∀x∈b,x < 256)) (dP:Hid (gw=w.heap.size)) (xU:Hid (aG w1 gw 317 (jI (qA [])))) (fM:Hid (ah w w1))
 (hQ0:∀c a d v w,Q0 (.panic c) (Act.put a d v) w→Q0 (.panic c) a w)
 (oO:∀(u5 u17 u18 u19 u20 u21 u22 u23 u24 u25 u26 u27 u28 u29 u30 u31 u32 u33 u34 u35 u36 u37 u38 u39 u40 u41 u42 u43 u44 u45 u46 u47 u48 u49 u50 u51 u52 u53 u54 u55:Value) (wr:World),Hid (aG wr gw 317 (jI (qA (words 0 (dG b)))))∧Hid (ah w wr)→Q0 (.exit 0) ⟨((.pointer (some ⟨g,0,none⟩))::(.slice A 64 c)::x2::x3::(.pointer (some ⟨gw,0,none⟩))::u5::x6::x7::x8::x9::Gf::E8::BJ::Ii::E5::Jw::DL::u17::u18::u19::u20::u21::u22::u23::u24::u25::u26::u27::u28::u29::u30::u31::u32::u33::u34::u35::u36::u37::u38::u39::u40::u41::u42::u43::u44::u45::u46::u47::u48::u49::u50::u51::u52::u53::u54::u55::F9::D7::EH::EG::Ig::Ie::Ic::Hu::Ht::Hr::Hq::F8::F7::F6::F5::Ho::Hl::Hg::FZ::FY::FX::FV::FQ::FP::FN::FM::FK::Jv::Ju::Jt::Hf::FH::EF::ED::EC::Ez::Ey::JM::JL::Ib::Ia::Oc::L9::L8::tq::sZ::sW::sV::sU::sS::sQ::sO::sN::sK::sJ::sH::uS::uj::MX::MW::MV::MS::MR::MQ::MP::MO::MN::MK::MI::MH::MG::MF::MC::Me::Md::Mc::L_::JR::JQ::JO::RH::RG::RF::RD::Rz::Ry::Rx::Rw::Ru::Rt::Rq::Ro::Rn::Rl::Rk::Rj::Ri::Rh::Rf::Q_::Q9::Q8::Q7::Xu::Q5::QZ::QY::QW::QV::QU::QT::QO::QN::QM::QL::QK::QJ::QI::QH::QG::[]).toArray,[]⟩ wr) :
 Code.wp Tryz.prog (Ai Tryz.f180 0) Q0 ⟨((.pointer (some ⟨g,0,none⟩))::(.slice A 64 c)::x2::x3::(.pointer (some ⟨gw,0,none⟩))::x5::x6::x7::x8::x9::Gf::E8::BJ::Ii::E5::Jw::DL::(.int .i64 0)::HY::En::Hz::Em::EZ::EY::EX::DK::DJ::DI::Ej::Ei::Eh::Ef::Ee::Ed::Ec::Eb::Ea::D_::D9::D8::Hy::EW::EU::ET::ES::ER::EP::EO::EN::EM::EL::EK::EJ::EI::Ih::Hw::F9::D7::EH::EG::Ig::Ie::Ic::Hu::Ht::Hr::Hq::F8::F7::F6::F5::Ho::Hl::Hg::FZ::FY::FX::FV::FQ::FP::FN::FM::FK::Jv::Ju::Jt::Hf::FH::EF::ED::EC::Ez::Ey::JM::JL::Ib::Ia::Oc::L9::L8::tq::sZ::sW::sV::sU::sS::sQ::sO::sN::sK::sJ::sH::uS::uj::MX::MW::MV::MS::MR::MQ::MP::MO::MN::MK::MI::MH::MG::MF::MC::Me::Md::Mc::L_::JR::JQ::JO::RH::RG::RF::RD::Rz::Ry::Rx::Rw::Ru::Rt::Rq::Ro::Rn::Rl::Rk::Rj::Ri::Rh::Rf::Q_::Q9::Q8::Q7::Xu::Q5::QZ::QY::QW::QV::QU::QT::QO::QN::QM::QL::QK::QJ::QI::QH::QG::[]).toArray,[]⟩ w1:=by
 conv=>arg 2;whnf
 go_loopw [17] (fun i wr=>∃k:Nat,k≤16∧i =.int .i64 k∧Hid (aG wr gw 317 (jI (qA ((dG b).take k))))∧Hid (ah w wr)) (fun i _=>16-(intOf i).toNat)
 case atStart=>exact⟨0,ω,rfl,xU,fM⟩
 case round=>
  obtain⟨k,hk,rfl,hB,hG⟩:=hrel;by_cases hlt:k<16
  ·obtain⟨bb,off,x0,rfl,hs0,hx0,hc0⟩:=((hA.o).keep hG.o).at_ (i:=4*k) ω;obtain⟨_,_,x1,e1,_,hx1,hc1⟩:=((hA.o).keep hG.o).at_ (i:=4*k+1) ω;obtain⟨_,_,x2,e2,_,hx2,hc2⟩:=((hA.o).keep hG.o).at_ (i:=4*k+2) ω;obtain⟨_,_,x3,e3,_,hx3,hc3⟩:=((hA.o).keep hG.o).at_ (i:=4*k+3) ω;cases e1;cases e2;cases e3
   have c0:wr.cell? ⟨bb,off+4*k,none⟩=some (.int .u8 x0):=by simpa using hc0 0 _ rfl
   have c1:wr.cell? ⟨bb,off+(4*k+1),none⟩=some (.int .u8 x1):=by simpa using hc1 0 _ rfl
   have c2:wr.cell? ⟨bb,off+(4*k+2),none⟩=some (.int .u8 x2):=by simpa using hc2 0 _ rfl
   have c3:wr.cell? ⟨bb,off+(4*k+3),none⟩=some (.int .u8 x3):=by simpa using hc3 0 _ rfl
   have hw:=alC (hb.o x0 (List.mem_of_getElem? hx0)) (hb.o x1 (List.mem_of_getElem? hx1)) (hb.o x2 (List.mem_of_getElem? hx2)) (hb.o x3 (List.mem_of_getElem? hx3));have ZU:x0*16777216+x1*65536+x2*256+x3=be4 b k:=by
    unfold be4;simp only[List.getD_eq_getElem?_getD,hx0,hx1,hx2,hx3,Option.getD_some]
   have hb0:Hid (x0<256):=hb.o x0 (List.mem_of_getElem? hx0);have hb1:Hid (x1<256):=hb.o x1 (List.mem_of_getElem? hx1);have hb2:Hid (x2<256):=hb.o x2 (List.mem_of_getElem? hx2);have hb3:Hid (x3<256):=hb.o x3 (List.mem_of_getElem? hx3);rw[ZU] at hw;have hl:((dG b).take k).length=k:=take_len ω;have s0:wr.cell? ⟨gw,k,none⟩=some (.int .u32 0):=by
    have h1:=OI (l:=(dG b).take k) ω;have:=(hB.o.cell k).trans (zT (by rw[J6 ω];omega));rw[hl] at h1;rw[h1] at this;exact this
   have f0:=hB.o.frozen k;have z0:=hB.o.lt;clear hx0 hx1 hx2 hx3 hc0 hc1 hc2 hc3 ZU;generalize hX:be4 b k=X at *
   replace hX:=ζ hX;replace hl:=ζ hl;go_wp2_with fail;refine aF κ ?_;refine rK (.range 35) 1 ?_;iterate 35 refine ay ?_
   refine aB ?_;refine eG (i:=35) rfl κ κ (fun wN hN hS K' hK=> ?_);clear hS;have s1:=hN.cell s0;have f1:wN.frozen? ⟨gw,k,none⟩=false:=((bF hN).2 _ _ z0).trans f0;have r_:=(hB.o.grows hN).bH k (.int .u32 (X:Int));have gK:=(hG.o.trans hN).setCell (p:=⟨gw,k,none⟩) (Nat.le_of_eq dP.o.symm) (.int .u32 (X:Int));replace r_:=ζ r_;replace gK:=ζ gK;go_simp;refine hK.o _ _ ?_;clear hK s1 f1 hN hB hG s0 f0 z0 c0 c1 c2 c3;generalize wN.setCell ⟨gw,k,none⟩ (.int .u32 (X:Int))=w2 at *
   go_wp2;go_roundw
   case rel=>exact⟨k+1,ω,ν,by
    have:=r_.o;rw[BU] at this;have h2:=TY (l:=(dG b).take k) X (by rw[hl.o];omega);rw[hl.o] at h2;rw[h2,←hX.o,←Y1 b hlt] at this;exact this,gK⟩
   case measure=>exact ψ
  ·obtain rfl:k=16:=ω;have JH:Hid (aG wr gw 317 (jI (qA (words 0 (dG b))))):=by
    have:=hB.o;rw[List.take_of_length_le (Nat.le_of_eq (qV b))] at this;exact this
   clear hB;go_wp2;exact⟨JH,hG⟩
theorem aiU {b:List Nat} {gw g6:Nat} {w w3:World} {Q0:Exit→Act→World→Prop} {x0 x1 x2 x3 x5 x9 Gf E8 BJ Ii E5 Jw DL H6 HY En Hz Em EZ EY EX DK DJ DI Ej Ei Eh Ef Ee Ed Ec Eb Ea D_ D9 D8 Hy EW EU ET ES ER EP EO EN EM EL EK EJ EI Ih Hw F9 D7 EH EG Ig Ie Ic Hu Ht Hr Hq F8 F7 F6 F5 Ho Hl Hg FZ FY FX FV FQ FP FN FM FK Jv Ju Jt Hf FH EF ED EC Ez Ey JM JL Ib Ia Oc L9 L8 tq sZ sW sV sU sS sQ sO sN sK sJ sH uS uj MX MW MV MS MR MQ MP MO MN MK MI MH MG MF MC Me Md Mc L_ JR JQ JO RH RG RF RD Rz Ry Rx Rw Ru Rt Rq Ro Rn Rl Rk Rj Ri Rh Rf Q_ Q9 Q8 Q7 Xu Q5 QZ QY QW QV QU QT QO QN QM QL QK QJ QI QH QG:Value}
 (hb:Hid (∀x∈b,x < 256)) (dP:Hid (gw=w.heap.size)) (V5:Hid (gw<g6)) (JH:Hid (aG w3 gw 317 (jI (qA (words 0 (dG b)))))) (yM:Hid (aG w3 g6 319 #[.int .i64 7,.int .i64 18,.int .i64 0,.int .i64 3])) (t_:Hid (aG w3 (g6+1) 319 #[.int .i64 17,.int .i64 19,.int .i64 0,.int .i64 10])) (rJ:Hid (ah w w3))
 (hQ0:∀c a d v w,Q0 (.panic c) (Act.put a d v) w→Q0 (.panic c) a w)
 (oO:∀(u8 u58 u59 u60 u61 u62 u63 u64 u65 u66 u67 u68 u69 u70 u71 u72 u73 u74 u75 u76 u77 u78 u79 u80 u81 u82 u83 u84 u85 u86:Value) (wr:World),Hid (aG wr gw 317 (jI (words 48 (dG b))))∧Hid (ah w wr)→Q0 (.exit 2) ⟨(x0::x1::x2::x3::(.pointer (some ⟨gw,0,none⟩))::x5::(.pointer (some ⟨g6,0,none⟩))::(.pointer (some ⟨g6+1,0,none⟩))::u8::x9::Gf::E8::BJ::Ii::E5::Jw::DL::H6::HY::En::Hz::Em::EZ::EY::EX::DK::DJ::DI::Ej::Ei::Eh::Ef::Ee::Ed::Ec::Eb::Ea::D_::D9::D8::Hy::EW::EU::ET::ES::ER::EP::EO::EN::EM::EL::EK::EJ::EI::Ih::Hw::F9::D7::u58::u59::u60::u61::u62::u63::u64::u65::u66::u67::u68::u69::u70::u71::u72::u73::u74::u75::u76::u77::u78::u79::u80::u81::u82::u83::u84::u85::u86::FH::EF::ED::EC::Ez::Ey::JM::JL::Ib::Ia::Oc::L9::L8::tq::sZ::sW::sV::sU::sS::sQ::sO::sN::sK::sJ::sH::uS::uj::MX::MW::MV::MS::MR::MQ::MP::MO::MN::MK::MI::MH::MG::MF::MC::Me::Md::Mc::L_::JR::JQ::JO::RH::RG::RF::RD::Rz::Ry::Rx::Rw::Ru::Rt::Rq::Ro::Rn::Rl::Rk::Rj::Ri::Rh::Rf::Q_::Q9::Q8::Q7::Xu::Q5::QZ::QY::QW::QV::QU::QT::QO::QN::QM::QL::QK::QJ::QI::QH::QG::[]).toArray,[]⟩ wr) :
 Code.wp Tryz.prog (Ai Tryz.f180 1) Q0 ⟨(x0::x1::x2::x3::(.pointer (some ⟨gw,0,none⟩))::x5::(.pointer (some ⟨g6,0,none⟩))::(.pointer (some ⟨g6+1,0,none⟩))::(.int .i64 16)::x9::Gf::E8::BJ::Ii::E5::Jw::DL::H6::HY::En::Hz::Em::EZ::EY::EX::DK::DJ::DI::Ej::Ei::Eh::Ef::Ee::Ed::Ec::Eb::Ea::D_::D9::D8::Hy::EW::EU::ET::ES::ER::EP::EO::EN::EM::EL::EK::EJ::EI::Ih::Hw::F9::D7::EH::EG::Ig::Ie::Ic::Hu::Ht::Hr::Hq::F8::F7::F6::F5::Ho::Hl::Hg::FZ::FY::FX::FV::FQ::FP::FN::FM::FK::Jv::Ju::Jt::Hf::FH::EF::ED::EC::Ez::Ey::JM::JL::Ib::Ia::Oc::L9::L8::tq::sZ::sW::sV::sU::sS::sQ::sO::sN::sK::sJ::sH::uS::uj::MX::MW::MV::MS::MR::MQ::MP::MO::MN::MK::MI::MH::MG::MF::MC::Me::Md::Mc::L_::JR::JQ::JO::RH::RG::RF::RD::Rz::Ry::Rx::Rw::Ru::Rt::Rq::Ro::Rn::Rl::Rk::Rj::Ri::Rh::Rf::Q_::Q9::Q8::Q7::Xu::Q5::QZ::QY::QW::QV::QU::QT::QO::QN::QM::QL::QK::QJ::QI::QH::QG::[]).toArray,[]⟩ w3:=by
 conv=>arg 2;whnf
 go_loopw [8] (fun i wr=>∃m:Nat,16≤m∧m≤64∧i =.int .i64 m∧Hid (aG wr gw 317 (jI (qA (words (m - 16) (dG b)))))∧Hid (aG wr g6 319 #[.int .i64 7,.int .i64 18,.int .i64 0,.int .i64 3])∧Hid (aG wr (g6+1) 319 #[.int .i64 17,.int .i64 19,.int .i64 0,.int .i64 10])∧Hid (ah w wr)) (fun i _=>64-(intOf i).toNat)
 case atStart=>exact⟨16,ω,ω,rfl,JH,yM,t_,rJ⟩
 case round=>
  clear JH yM t_ rJ;obtain⟨m,ZQ,SB,rfl,hB,yM,t_,hG⟩:=hrel;by_cases hlt:m < 64
  ·have hlen:(words (m - 16) (dG b)).length=m:=by rw[yN,qV];omega
   have hWd:=ahT hb.o (m - 16);have hat:∀j,j < m→wr.cell? ⟨gw,j,none⟩=some (.int .u32 (((words (m - 16) (dG b)).getD j 0:Nat):Int)):=fun j hj=>by
    have:=(hB.o.cell j).trans (zT (by rw[J6 ω];omega));rw[ai4 ω] at this;exact this
   have c0:=hat (m - 16) ω;have c1:=hat (m - 15) ω;have c2:=hat (m - 7) ω;have c3:=hat (m - 2) ω;have hq:=hWd (m - 15);have hs:=hWd (m - 2);have cL:=fun W=>abq hq W
   have cH:=fun W=>Yb hs W
   have hN1:=aac (n:=m - 16) (b:=b);rw[show m - 16+1=m - 15 by omega,show m - 16+9=m - 7 by omega,show m - 16+14=m - 2 by omega] at hN1;unfold U8 at hN1;have s0:wr.cell? ⟨gw,m,none⟩=some (.int .u32 0):=by
    have h1:=OI (l:=words (m - 16) (dG b)) ω;have:=(hB.o.cell m).trans (zT (by rw[J6 ω];omega));rw[hlen] at h1;rw[h1] at this;exact this
   have f0:=hB.o.frozen m;have z0:=hB.o.lt;have d0:=yM.o.cell 0;have d1:=yM.o.cell 1;have d2:=yM.o.cell 2;have d3:=yM.o.cell 3;have z6:=yM.o.lt;have e0:=t_.o.cell 0;have e1:=t_.o.cell 1;have e2:=t_.o.cell 2;have e3:=t_.o.cell 3;have z7:=t_.o.lt;clear hWd hat hq hs;generalize (words (m - 16) (dG b)).getD (m - 16) 0=p at *
   generalize (words (m - 16) (dG b)).getD (m - 15) 0=q at *
   generalize (words (m - 16) (dG b)).getD (m - 7) 0=r at *
   generalize (words (m - 16) (dG b)).getD (m - 2) 0=s at *
   generalize RP 7 18 3 q=L at *
   generalize RP 17 19 10 s = H at *
   have hw:=Xy p L r H;rw[←hN1] at hw;generalize hX:pq (words (m - 16) (dG b))=X at *
   replace hX:=ζ hX;clear hN1;replace hlen:=ζ hlen;replace cL:=ζ cL;replace cH:=ζ cH;go_wp2_with fail;refine aF κ ?_;refine rK (.range 25) 1 ?_;iterate 10 refine ay ?_
   refine aT (.int .u32 (L:Int)) rfl χ (fun wq dN=> ?_) ?_
   ·obtain⟨lu,kR⟩:=bF dN;go_simp;exact Calls.mono (cL.out wq) (fun e w'' h=>h)
   go_simp;iterate 11 refine ay ?_
   refine aT (.int .u32 (H:Int)) rfl χ (fun wq dN=> ?_) ?_
   ·obtain⟨lu,kR⟩:=bF dN;go_simp;exact Calls.mono (cH.out wq) (fun e w'' h=>h)
   go_simp;iterate 2 refine ay ?_
   refine aB ?_;refine eG (i:=25) rfl κ κ (fun wN hN hS K' hK=> ?_);clear hS;have s1:=hN.cell s0;have f1:wN.frozen? ⟨gw,m,none⟩=false:=((bF hN).2 _ _ z0).trans f0;have r_:=(hB.o.grows hN).bH m (.int .u32 (X:Int));have gK:=(hG.o.trans hN).setCell (p:=⟨gw,m,none⟩) (Nat.le_of_eq dP.o.symm) (.int .u32 (X:Int));have ar5:=(yM.o.grows hN).far (p:=⟨gw,m,none⟩) (Nat.ne_of_gt V5.o) (.int .u32 (X:Int));have ar4:=(t_.o.grows hN).far (p:=⟨gw,m,none⟩) (Nat.ne_of_gt (Nat.lt_succ_of_lt V5.o)) (.int .u32 (X:Int));replace r_:=ζ r_;replace gK:=ζ gK;replace ar5:=ζ ar5;replace ar4:=ζ ar4;go_simp;refine hK.o _ _ ?_;clear hK s1 f1 hN hB hG yM t_ s0 f0 z0 z6 z7 c0 c1 c2 c3 d0 d1 d2 d3 e0 e1 e2 e3;generalize wN.setCell ⟨gw,m,none⟩ (.int .u32 (X:Int))=w2 at *
   go_wp2;go_roundw
   case rel=>exact⟨m + 1,ω,ω,ν,by
    have:=r_.o;rw[BU] at this;have h2:=TY (l:=words (m - 16) (dG b)) X (by rw[hlen.o];omega);rw[hlen.o,←hX.o,←Oh] at h2;rw[←hX.o,h2] at this;rw[show m + 1-16=m - 16+1 by omega];exact this,ar5,ar4,gK⟩
   case measure=>exact ψ
  ·obtain rfl:m = 64:=ω;have JH:Hid (aG wr gw 317 (jI (words 48 (dG b)))):=by
    have:=hB.o;rw[aa3 (by rw[yN,qV])] at this;exact this
   clear hB V5 yM t_;go_wp2;exact⟨JH,hG⟩
theorem aiT {KA:Array Value} {WL:List Nat} {RV:Nat→V8} {KF:Nat→Nat} {gw g9:Nat} {w w5:World} {Q0:Exit→Act→World→Prop} {x0 x1 x2 x3 x5 x6 x7 x8 BJ Ii E5 Jw DL H6 HY En Hz Em EZ EY EX DK DJ DI Ej Ei Eh Ef Ee Ed Ec Eb Ea D_ D9 D8 Hy EW EU ET ES ER EP EO EN EM EL EK EJ EI Ih Hw F9 D7 EH EG Ig Ie Ic Hu Ht Hr Hq F8 F7 F6 F5 Ho Hl Hg FZ FY FX FV FQ FP FN FM FK Jv Ju Jt Hf FH EF ED EC Ez Ey Ib Ia Oc L9 L8 tq sZ sW sV sU sS sQ sO sN sK sJ sH uS uj MX MW MV MS MR MQ MP MO MN MK MI MH MG MF MC Me Md Mc L_ JR JQ JO RH RG RF RD Rz Ry Rx Rw Ru Rt Rq Ro Rn Rl Rk Rj Ri Rh Rf Q_ Q9 Q8 Q7 Xu Q5 QZ QY QW QV QU QT QO QN QM QL QK QJ QI QH QG:Value}
 (hKat:Hid (∀k,k<64→KA[k]? = some (.int .u32 ((KF k:Nat):Int)))) (af4:Hid (∀k,k<64→(jI WL)[k]? = some (.int .u32 ((WL.getD k 0:Nat):Int)))) (Ui:Hid (∀k,RV (k+1)=XO (RV k) (KF k) (WL.getD k 0))) (oD:Hid (∀k,(RV k).ok))
 (dP:Hid (gw=w.heap.size)) (Ky:Hid (gw<g9)) (JH:Hid (aG w5 gw 317 (jI WL))) (ji:Hid (aG w5 g9 319 #[.int .i64 6,.int .i64 11,.int .i64 25,.int .i64 0])) (mM:Hid (aG w5 (g9+1) 319 #[.int .i64 2,.int .i64 13,.int .i64 22,.int .i64 0])) (jf:Hid (aG w5 (g9+1+1) 279 (jI (gJ (RV 0))))) (oP:Hid (ah w w5))
 (hQ0:∀c a d v w,Q0 (.panic c) (Act.put a d v) w→Q0 (.panic c) a w)
 (oO:∀(u12 u13 u14 u15 u94 u95 u96 u97 u98 u99 Vt Vs Vr Vq Vp Vo Vm Vl Vk Vj Vh Vg aak aiz aiy aix aiw aiv aiu ait ais air aiq aip aio ain ail aik aij aii aif aie aic auN auM auL auK auJ u138 auI auH auG auF auE auD auC auB auA auz auy auw auv auu aut aus aur auq aup auo:Value) (wr:World),Hid (aG wr (g9+1+1) 279 (jI (gJ (RV 64))))∧Hid (ah w wr)→Q0 (.exit 4) ⟨(x0::x1::x2::x3::(.pointer (some ⟨gw,0,none⟩))::x5::x6::x7::x8::(.pointer (some ⟨g9,0,none⟩))::(.pointer (some ⟨g9+1,0,none⟩))::(.pointer (some ⟨g9+1+1,0,none⟩))::u12::u13::u14::u15::DL::H6::HY::En::Hz::Em::EZ::EY::EX::DK::DJ::DI::Ej::Ei::Eh::Ef::Ee::Ed::Ec::Eb::Ea::D_::D9::D8::Hy::EW::EU::ET::ES::ER::EP::EO::EN::EM::EL::EK::EJ::EI::Ih::Hw::F9::D7::EH::EG::Ig::Ie::Ic::Hu::Ht::Hr::Hq::F8::F7::F6::F5::Ho::Hl::Hg::FZ::FY::FX::FV::FQ::FP::FN::FM::FK::Jv::Ju::Jt::Hf::FH::EF::ED::EC::Ez::Ey::(.agg KA)::u94::u95::u96::u97::u98::u99::Vt::Vs::Vr::Vq::Vp::Vo::Vm::Vl::Vk::Vj::Vh::Vg::aak::aiz::aiy::aix::aiw::aiv::aiu::ait::ais::air::aiq::aip::aio::ain::ail::aik::aij::aii::aif::aie::aic::auN::auM::auL::auK::auJ::u138::auI::auH::auG::auF::auE::auD::auC::auB::auA::auz::auy::auw::auv::auu::aut::aus::aur::auq::aup::auo::Xu::Q5::QZ::QY::QW::QV::QU::QT::QO::QN::QM::QL::QK::QJ::QI::QH::QG::[]).toArray,[]⟩ wr) :
 Code.wp Tryz.prog (Ai Tryz.f180 2) Q0 ⟨(x0::x1::x2::x3::(.pointer (some ⟨gw,0,none⟩))::x5::x6::x7::x8::(.pointer (some ⟨g9,0,none⟩))::(.pointer (some ⟨g9+1,0,none⟩))::(.pointer (some ⟨g9+1+1,0,none⟩))::BJ::Ii::E5::Jw::DL::H6::HY::En::Hz::Em::EZ::EY::EX::DK::DJ::DI::Ej::Ei::Eh::Ef::Ee::Ed::Ec::Eb::Ea::D_::D9::D8::Hy::EW::EU::ET::ES::ER::EP::EO::EN::EM::EL::EK::EJ::EI::Ih::Hw::F9::D7::EH::EG::Ig::Ie::Ic::Hu::Ht::Hr::Hq::F8::F7::F6::F5::Ho::Hl::Hg::FZ::FY::FX::FV::FQ::FP::FN::FM::FK::Jv::Ju::Jt::Hf::FH::EF::ED::EC::Ez::Ey::(.agg KA)::(.int .i64 0)::Ib::Ia::Oc::L9::L8::tq::sZ::sW::sV::sU::sS::sQ::sO::sN::sK::sJ::sH::uS::uj::MX::MW::MV::MS::MR::MQ::MP::MO::MN::MK::MI::MH::MG::MF::MC::Me::Md::Mc::L_::JR::JQ::JO::RH::RG::RF::RD::Rz::Ry::Rx::Rw::Ru::Rt::Rq::Ro::Rn::Rl::Rk::Rj::Ri::Rh::Rf::Q_::Q9::Q8::Q7::Xu::Q5::QZ::QY::QW::QV::QU::QT::QO::QN::QM::QL::QK::QJ::QI::QH::QG::[]).toArray,[]⟩ w5:=by
 conv=>arg 2;whnf
 go_loopw [94] (fun i wr=>∃k:Nat,k≤64∧i =.int .i64 k∧Hid (aG wr gw 317 (jI WL))∧Hid (aG wr g9 319 #[.int .i64 6,.int .i64 11,.int .i64 25,.int .i64 0])∧Hid (aG wr (g9+1) 319 #[.int .i64 2,.int .i64 13,.int .i64 22,.int .i64 0])∧Hid (aG wr (g9+1+1) 279 (jI (gJ (RV k))))∧Hid (ah w wr)) (fun i _=>64-(intOf i).toNat)
 case atStart=>exact⟨0,ω,rfl,JH,ji,mM,jf,oP⟩
 case round=>
  clear JH ji mM jf oP;obtain⟨k,hk,rfl,hB,ji,mM,jf,hG⟩:=hrel;by_cases hlt:k<64
  ·have hka:=hKat.o k hlt;have hka:=XV hlt hka;have hwa:=(hB.o.cell k).trans (af4.o k hlt);have hst:=Ui.o k;have hu:=oD.o k;generalize RV k=u at *
   obtain⟨a,b',c',d,e,f,g',z'⟩:=u;have q0:=jf.o.c0;have q1:=jf.o.c1;have q2:=jf.o.c2;have q3:=jf.o.c3;have q4:=jf.o.c4;have q5:=jf.o.c5;have q6:=jf.o.c6;have q7:=jf.o.c7;have qz:=jf.o.lt;have d0:=mM.o.cell 0;have d1:=mM.o.cell 1;have d2:=mM.o.cell 2;have d3:=mM.o.cell 3;have dz:=mM.o.lt;clear d0 d1 d2 d3 dz;have d0:=ji.o.cell 0;have d1:=ji.o.cell 1;have d2:=ji.o.cell 2;have d3:=ji.o.cell 3;have dz:=ji.o.lt;have wz:=hB.o.lt;have cE:=fun W=>abt (x:=e) hu.2.2.2.2.1 W
   have cA:=fun W=>VH (x:=a) hu.1 W
   generalize WL.getD k 0=Wk at *
   generalize KF k=Kk at *
   generalize SQ:sig 6 11 25 e = SE at *
   generalize hSA:sig 2 13 22 a = SA at *
   have hch:=aow (e:=e) (f:=f) (g:=g') hu.2.2.2.2.1;have hmj:=ajk (a:=a) (b:=b') (c:=c') hu.1 hu.2.1;have hT:((z':Int)+(SE:Int)+(((e &&&f) ^^^ (VF e &&&g'):Nat):Int)+(Kk:Int)+(Wk:Int)) % 4294967296=((tOf ⟨a,b',c',d,e,f,g',z'⟩ Kk Wk:Nat):Int):=by
    unfold tOf t1;simp only[SQ];omega
   have hU:((SA:Int)+(((a &&&b') ^^^ (a &&&c') ^^^ (b' &&&c'):Nat):Int)) % 4294967296=((uOf ⟨a,b',c',d,e,f,g',z'⟩:Nat):Int):=by
    unfold uOf;simp only[hSA];omega
   unfold XO at hst;simp only at hst;generalize tOf ⟨a,b',c',d,e,f,g',z'⟩ Kk Wk=T at *
   generalize uOf ⟨a,b',c',d,e,f,g',z'⟩=U at *
   generalize (e &&&f) ^^^ (VF e &&&g')=CH at *
   generalize (a &&&b') ^^^ (a &&&c') ^^^ (b' &&&c')=MJ at *
   replace cE:=ζ cE;replace cA:=ζ cA;replace hst:=ζ hst;replace SQ:=ζ SQ;replace hSA:=ζ hSA;replace hu:=ζ hu;go_wp2_with fail;refine aF κ ?_;refine rK (.range 27) 0 ?_;iterate 5 refine ay ?_
   refine aT (.int .u32 (SE:Int)) rfl χ (fun wq dN=> ?_) ?_
   ·obtain⟨lu,kR⟩:=bF dN;go_simp;exact Calls.mono (cE.out wq) (fun e w'' h=>h)
   go_simp;iterate 21 refine ay ?_
   refine aB ?_;refine aH κ (fun wN hN hS=> ?_);clear q0 q1 q2 q3 q4 q5 q6 q7 qz d0 d1 d2 d3 dz wz hwa hka;replace hB:=ζ (hB.o.grows hN);replace ji:=ζ (ji.o.grows hN);replace mM:=ζ (mM.o.grows hN);replace jf:=ζ (jf.o.grows hN);replace hG:=ζ (hG.o.trans hN);clear hN hS;have q0:=jf.o.c0;have q1:=jf.o.c1;have q2:=jf.o.c2;have q3:=jf.o.c3;have q4:=jf.o.c4;have q5:=jf.o.c5;have q6:=jf.o.c6;have q7:=jf.o.c7;have qz:=jf.o.lt;have d0:=mM.o.cell 0;have d1:=mM.o.cell 1;have d2:=mM.o.cell 2;have d3:=mM.o.cell 3;have dz:=mM.o.lt;go_wp2_with fail;refine aF κ ?_;refine rK (.range 23) 0 ?_;iterate 3 refine ay ?_
   refine aT (.int .u32 (SA:Int)) rfl χ (fun wq dN=> ?_) ?_
   ·obtain⟨lu,kR⟩:=bF dN;go_simp;exact Calls.mono (cA.out wq) (fun e w'' h=>h)
   go_simp;iterate 19 refine ay ?_
   refine aB ?_;refine aH κ (fun wN hN hS=> ?_);rename_i azr;clear q0 q1 q2 q3 q4 q5 q6 q7 qz d0 d1 d2 d3 dz;replace hB:=ζ (hB.o.grows hN);replace ji:=ζ (ji.o.grows hN);replace mM:=ζ (mM.o.grows hN);replace jf:=ζ (jf.o.grows hN);replace hG:=ζ (hG.o.trans hN);clear hN hS;have q0:=jf.o.c0;have q1:=jf.o.c1;have q2:=jf.o.c2;have q3:=jf.o.c3;have q4:=jf.o.c4;have q5:=jf.o.c5;have q6:=jf.o.c6;have q7:=jf.o.c7;have qz:=jf.o.lt;have d0:=mM.o.cell 0;have d1:=mM.o.cell 1;have d2:=mM.o.cell 2;have d3:=mM.o.cell 3;have dz:=mM.o.lt;have f0:=jf.o.frozen;go_wp2_with fail;refine aF κ ?_;refine rK [0,1] 1 ?_;iterate 2 refine ay ?_
   refine aB ?_;refine eG (i:=2) rfl κ κ (fun wN hN hS K' hK=> ?_);clear hS;replace jf:=ζ (jf.o.grows hN);replace hB:=ζ (hB.o.grows hN);replace ji:=ζ (ji.o.grows hN);replace mM:=ζ (mM.o.grows hN);replace hG:=ζ (hG.o.trans hN);clear q0 q1 q2 q3 q4 q5 q6 q7 qz d0 d1 d2 d3 dz f0 hN;obtain⟨w8,hcp,Jb,hby⟩:=axg jf.o;replace Jb:=ζ Jb;replace hby:=ζ hby;go_simp;refine hK.o _ _ ?_;clear hK hcp jf;replace hG:=ζ (hG.o.qj hby.o (by have:=Ky.o;have:=dP.o;omega));replace hB:=ζ (hB.o.fP hby.o (by have:=Ky.o;omega));replace ji:=ζ (ji.o.fP hby.o ω);replace mM:=ζ (mM.o.fP hby.o ω);clear hby;have q0:=Jb.o.c0;have q4:=Jb.o.c4;have f0:=Jb.o.frozen 0;have f4:=Jb.o.frozen 4;have qz:=Jb.o.lt;have hD:((d:Int)+(T:Int)) % 4294967296=(((d + T) % 4294967296:Nat):Int):=ω;have hA':((T:Int)+(U:Int)) % 4294967296=(((T+U) % 4294967296:Nat):Int):=ω;have hBn:=(Jb.o.bH 4 (.int .u32 (((d + T) % 4294967296:Nat):Int))).bH 0 (.int .u32 (((T+U) % 4294967296:Nat):Int));generalize (d + T) % 4294967296=D' at *
   generalize (T+U) % 4294967296=A' at *
   rw[BU,BU] at hBn;have Xp:=(hB.o.far (p:=⟨g9+1+1,4,none⟩) (by have:=Ky.o;simp only;omega) (.int .u32 (D':Int))).far (p:=⟨g9+1+1,0,none⟩) (by have:=Ky.o;simp only;omega) (.int .u32 (A':Int));have ar2:=(ji.o.far (p:=⟨g9+1+1,4,none⟩) (by simp only;omega) (.int .u32 (D':Int))).far (p:=⟨g9+1+1,0,none⟩) (by simp only;omega) (.int .u32 (A':Int));have akI:=(mM.o.far (p:=⟨g9+1+1,4,none⟩) (by simp only;omega) (.int .u32 (D':Int))).far (p:=⟨g9+1+1,0,none⟩) (by simp only;omega) (.int .u32 (A':Int));have qp:=(hG.o.setCell (p:=⟨g9+1+1,4,none⟩) (by have:=Ky.o;have:=dP.o;simp only;omega) (.int .u32 (D':Int))).setCell (p:=⟨g9+1+1,0,none⟩) (by have:=Ky.o;have:=dP.o;simp only;omega) (.int .u32 (A':Int));clear hB ji mM hG Jb;replace hBn:=ζ hBn;replace Xp:=ζ Xp;replace ar2:=ζ ar2;replace akI:=ζ akI;replace qp:=ζ qp;go_wp2;go_roundw
   case rel=>exact⟨k+1,ω,ν,Xp,ar2,akI,by rw[hst.o];exact hBn,qp⟩
   case measure=>exact ψ
  ·obtain rfl:k=64:=ω;clear hB Ky ji mM;go_wp2;exact⟨jf,hG⟩
theorem aiS {xs ys zs:List Nat} {g gz:Nat} {rest:Value} {count:Int} {w w5:World} {Q0:Exit→Act→World→Prop} {x1 x2 x3 x4 x5 x6 x7 x8 x9 Gf BJ Ii E5 Jw DL H6 HY En Hz Em EZ EY EX DK DJ DI Ej Ei Eh Ef Ee Ed Ec Eb Ea D_ D9 D8 Hy EW EU ET ES ER EP EO EN EM EL EK EJ EI Ih Hw F9 D7 EH EG Ig Ie Ic Hu Ht Hr Hq F8 F7 F6 F5 Ho Hl Hg FZ FY FX FV FQ FP FN FM FK Jv Ju Jt Hf FH EF ED EC Ez Ey JM JL Ib Ia Oc L9 L8 tq sZ sW sV sU sS sQ sO sN sK sJ sH uS uj MX MW MV MS MR MQ MP MO MN MK MI MH MG MF MC Me Md Mc L_ JR JQ JO RH RG RF RD Rz Ry Rx Rw Ru Rt Rq Ro Rn Rl Rk Rj Ri Rh Rf Q_ Q9 Q8 Q7 Q5 QZ QY QW QV QU QT QO QN QM QL QK QJ QI QH QG:Value}
 (Sv:Hid (∀j,j < 8→xs.getD j 0=(ys.getD j 0+zs.getD j 0) % 4294967296)) (Qv:xs.length=ys.length) (hl8:ys.length=8) (hlR:zs.length=8) (af6:Hid (aG w5 g 282 (um ys rest count))) (jf:Hid (aG w5 gz 279 (jI zs))) (hby:Hid (w.grownBy w5 (some g))) (hgg:Hid (g≠gz))
 (hQ0:∀c a d v w,Q0 (.panic c) (Act.put a d v) w→Q0 (.panic c) a w)
 (oO:∀(u16 aun aum aul auk auj aui auh aug auf aue aud auc aub aua at7 at6 at1:Value) (wr:World),Hid (aG wr g 282 (um xs rest count))∧Hid (w.grownBy wr (some g))→Q0 (.exit 6) ⟨((.pointer (some ⟨g,0,none⟩))::x1::x2::x3::x4::x5::x6::x7::x8::x9::Gf::(.pointer (some ⟨gz,0,none⟩))::BJ::Ii::E5::Jw::u16::H6::HY::En::Hz::Em::EZ::EY::EX::DK::DJ::DI::Ej::Ei::Eh::Ef::Ee::Ed::Ec::Eb::Ea::D_::D9::D8::Hy::EW::EU::ET::ES::ER::EP::EO::EN::EM::EL::EK::EJ::EI::Ih::Hw::F9::D7::EH::EG::Ig::Ie::Ic::Hu::Ht::Hr::Hq::F8::F7::F6::F5::Ho::Hl::Hg::FZ::FY::FX::FV::FQ::FP::FN::FM::FK::Jv::Ju::Jt::Hf::FH::EF::ED::EC::Ez::Ey::JM::JL::Ib::Ia::Oc::L9::L8::tq::sZ::sW::sV::sU::sS::sQ::sO::sN::sK::sJ::sH::uS::uj::MX::MW::MV::MS::MR::MQ::MP::MO::MN::MK::MI::MH::MG::MF::MC::Me::Md::Mc::L_::JR::JQ::JO::RH::RG::RF::RD::Rz::Ry::Rx::Rw::Ru::Rt::Rq::Ro::Rn::Rl::Rk::Rj::Ri::Rh::Rf::Q_::Q9::Q8::Q7::aun::aum::aul::auk::auj::aui::auh::aug::auf::aue::aud::auc::aub::aua::at7::at6::at1::[]).toArray,[]⟩ wr) :
 Code.wp Tryz.prog (Ai Tryz.f180 3) Q0 ⟨((.pointer (some ⟨g,0,none⟩))::x1::x2::x3::x4::x5::x6::x7::x8::x9::Gf::(.pointer (some ⟨gz,0,none⟩))::BJ::Ii::E5::Jw::DL::H6::HY::En::Hz::Em::EZ::EY::EX::DK::DJ::DI::Ej::Ei::Eh::Ef::Ee::Ed::Ec::Eb::Ea::D_::D9::D8::Hy::EW::EU::ET::ES::ER::EP::EO::EN::EM::EL::EK::EJ::EI::Ih::Hw::F9::D7::EH::EG::Ig::Ie::Ic::Hu::Ht::Hr::Hq::F8::F7::F6::F5::Ho::Hl::Hg::FZ::FY::FX::FV::FQ::FP::FN::FM::FK::Jv::Ju::Jt::Hf::FH::EF::ED::EC::Ez::Ey::JM::JL::Ib::Ia::Oc::L9::L8::tq::sZ::sW::sV::sU::sS::sQ::sO::sN::sK::sJ::sH::uS::uj::MX::MW::MV::MS::MR::MQ::MP::MO::MN::MK::MI::MH::MG::MF::MC::Me::Md::Mc::L_::JR::JQ::JO::RH::RG::RF::RD::Rz::Ry::Rx::Rw::Ru::Rt::Rq::Ro::Rn::Rl::Rk::Rj::Ri::Rh::Rf::Q_::Q9::Q8::Q7::(.int .i64 0)::Q5::QZ::QY::QW::QV::QU::QT::QO::QN::QM::QL::QK::QJ::QI::QH::QG::[]).toArray,[]⟩ w5:=by
 conv=>arg 2;whnf
 go_loopw [159] (fun i wx=>∃k:Nat,k≤8∧i =.int .i64 k∧Hid (aG wx g 282 (um (xs.take k++ys.drop k) rest count))∧Hid (aG wx gz 279 (jI zs))∧Hid (w.grownBy wx (some g))) (fun i _=>8-(intOf i).toNat)
 case atStart=>exact⟨0,ω,rfl,af6,jf,hby⟩
 case round=>
  clear af6 jf hby;obtain⟨k,hk,rfl,hS,hZ,hby⟩:=hrel;by_cases hlt:k<8
  ·have e1:=(hS.o.cell k).trans (ac9 (by rw[Gi Qv ω];omega));rw[aer Qv ω] at e1;have e2:=(hZ.o.cell k).trans (zT ω);have hne:=Sv.o k hlt;have aK:=Oo Qv (k:=k) ω;have hSn:=fun x=>aiC (l:=xs.take k++ys.drop k) (rest:=rest) (count:=count) (k:=k) (by rw[Gi Qv ω];omega) x
   have f1:=hS.o.frozen k;have z1:=hS.o.lt;have z2:=hZ.o.lt;generalize ys.getD k 0=Y at *
   generalize zs.getD k 0=Z at *
   have Sz:((Y:Int)+(Z:Int)) % 4294967296=((xs.getD k 0:Nat):Int):=by rw[hne];omega
   generalize xs.getD k 0=X at *
   clear hne;replace aK:=ζ aK;replace hSn:=ζ hSn;go_wp2_with fail;refine aF κ ?_;refine rK (.range 13) 1 ?_;iterate 13 refine ay ?_
   refine aB ?_;refine eG (i:=13) rfl κ κ (fun wN hN hS K' hK=> ?_);clear hS;have e3:=hN.cell e1;have f3:wN.frozen? ⟨g,k,none⟩=false:=((bF hN).2 _ _ z1).trans f1;have Fp:=(hS.o.grows hN).bH k (.int .u32 (X:Int));have hZ2:=(hZ.o.grows hN).far (p:=⟨g,k,none⟩) (by have:=hgg.o;simp only;omega) (.int .u32 (X:Int));have mG:w.grownBy (wN.setCell ⟨g,k,none⟩ (.int .u32 (X:Int))) (some g):=(hby.o.trans (hN.fP _)).trans (aj wN ⟨g,k,none⟩ _);rw[hSn.o,aK.o] at Fp;replace Fp:=ζ Fp;replace hZ2:=ζ hZ2;replace mG:=ζ mG;clear hN hS hZ hby;go_simp;refine hK.o _ _ ?_;clear hK e3 f3 e1 e2 f1 z1 z2;generalize wN.setCell ⟨g,k,none⟩ (.int .u32 (X:Int))=w9 at *
   go_wp2;go_roundw
   case rel=>exact⟨k+1,ω,ν,Fp,hZ2,mG⟩
   case measure=>exact ψ
  ·obtain rfl:k=8:=ω;have Fp:=hS.o;rw[List.take_of_length_le ω,List.drop_of_length_le ω,List.append_nil] at Fp;replace Fp:=ζ Fp;clear hS;go_wp2;exact⟨Fp,hby⟩
theorem ajs:pO.length=64:=δ
theorem aeQ {v:V8} (hv:v.ok) {A:Option Addr} {c:Nat} {b:List Nat} {g:Nat} {rest:Value} {count:Int} (w:World) (hA:bW w 1 jr A 64 b) (hb:∀x∈b,x < 256)
 (hg:aG w g 282 (um (gJ v) rest count)) :
 Calls Tryz.prog 180 #[.pointer (some ⟨g,0,none⟩),.slice A 64 c] w fun e w'=>e =.returned (.tuple #[])∧aG w' g 282 (um (gJ (E_ v b)) rest count)∧w.grownBy w' (some g):=by
 replace hA:=ζ hA;replace hb:=ζ hb;replace hg:=ζ hg;replace hv:=ζ hv;go_enter Tryz.func180,Tryz.ntmps180
 go_wp2;refine xK (Pr:=fun W=>Code.wp _ _ _ _ W) (fun w1 xU fM=> ?_);replace xU:aG w1 w.heap.size 317 (jI (qA [])):=xU.cast κ;obtain⟨gw,dP⟩:∃gw,gw=w.heap.size:=⟨_,rfl⟩;rw[←dP] at xU ⊢;replace dP:=ζ dP;replace xU:=ζ xU;replace fM:=ζ fM;refine aiV hA hb dP xU fM π ?_;rintro u5 u17 u18 u19 u20 u21 u22 u23 u24 u25 u26 u27 u28 u29 u30 u31 u32 u33 u34 u35 u36 u37 u38 u39 u40 u41 u42 u43 u44 u45 u46 u47 u48 u49 u50 u51 u52 u53 u54 u55 wr ⟨hB,hG⟩;clear xU fM w1 hA;go_wp2;refine VG (Pr:=fun W=>Code.wp _ _ _ _ W) (fun w3 yM t_ qp=> ?_);obtain⟨g6,C_⟩:∃g6,g6=wr.heap.size:=⟨_,rfl⟩;have V5:=hB.o.lt;rw[←C_] at yM t_ V5 ⊢;replace hB:=ζ (hB.o.grows qp);have rJ:=ζ (hG.o.trans qp);clear hG qp C_;replace yM:=ζ yM;replace t_:=ζ t_;replace V5:=ζ V5;clear wr;refine aiU hb dP V5 hB yM t_ rJ π ?_;rintro u8 u58 u59 u60 u61 u62 u63 u64 u65 u66 u67 u68 u69 u70 u71 u72 u73 u74 u75 u76 u77 u78 u79 u80 u81 u82 u83 u84 u85 u86 wr ⟨JH,hG⟩;clear hB yM t_ rJ V5 w3;have c8:∀W,ah w W→aG W g 282 (um (gJ v) rest count):=fun W h=>hg.o.grows h
 have tY:=c8 wr hG.o;have q0:=tY.c0;have q1:=tY.c1;have q2:=tY.c2;have q3:=tY.c3;have q4:=tY.c4;have q5:=tY.c5;have q6:=tY.c6;have q7:=tY.c7;have qz:=tY.lt;have cK:=fun W=>ajt W
 replace cK:=ζ cK;replace tY:=ζ tY;replace c8:=ζ c8;go_wp2_with fail;refine (cK.out _).mono ?_;rintro e w5 ⟨rfl,fK⟩;have ji:aG w5 wr.heap.size 319 #[.int .i64 6,.int .i64 11,.int .i64 25,.int .i64 0]:=(((aG.new wr _ _).alloc _).alloc _).grows fK;have mM:aG w5 (wr.heap.size+1) 319 #[.int .i64 2,.int .i64 13,.int .i64 22,.int .i64 0]:=((aG.kV wr _ _ _).alloc _).grows fK;have jf:aG w5 (wr.heap.size+1+1) 279 (jI (gJ v)):=(aG.Bh wr _ _ _ _).grows fK;have oP:ah wr w5:=((((ah.refl wr).alloc _).alloc _).alloc _).trans fK;obtain⟨g9,iP⟩:∃g9,g9=wr.heap.size:=⟨_,rfl⟩;have Ky:=JH.o.lt;have aj1:=tY.o.lt;rw[←iP] at ji mM jf Ky aj1 ⊢;replace JH:=ζ (JH.o.grows oP);replace oP:=ζ (hG.o.trans oP);replace ji:=ζ ji;replace mM:=ζ mM;replace Ky:=ζ Ky;replace aj1:=ζ aj1;clear hG iP q0 q1 q2 q3 q4 q5 q6 q7 qz tY fK cK;clear wr;have hKat:∀k,k<64→(jI pO)[k]? = some (.int .u32 ((pO.getD k 0:Nat):Int)):=fun k hk=>zT (by rw[ajs];exact hk)
 have af4:∀k,k<64→(jI (words 48 (dG b)))[k]? = some (.int .u32 (((words 48 (dG b)).getD k 0:Nat):Int)):=fun k hk=>zT (by rw[yN,qV];exact hk)
 have Ui:∀k,rD pO (words 48 (dG b)) (k+1) v = XO (rD pO (words 48 (dG b)) k v) (pO.getD k 0) ((words 48 (dG b)).getD k 0):=fun _=>rfl
 have aN:E_ v b = aoS v (rD pO (words 48 (dG b)) 64 v):=rfl;have oD:∀k,(rD pO (words 48 (dG b)) k v).ok:=fun k=>aaB hv.o k
 have hr0:rD pO (words 48 (dG b)) 0 v = v:=rfl;generalize hvF:E_ v b = atU at *
 replace hvF:=ζ hvF;generalize jI pO=KA at *
 generalize words 48 (dG b)=WL at *
 generalize hRV:(fun k=>rD pO WL k v)=RV at *
 have awC:∀k,rD pO WL k v = RV k:=fun k=>congrFun hRV k
 simp only[awC] at Ui aN oD hr0;generalize hKf:(fun k=>pO.getD k 0)=KF at *
 have hKk:∀k,pO.getD k 0=KF k:=fun k=>congrFun hKf k
 simp only[hKk] at Ui hKat;clear awC hRV hKf hKk hb;have jf:Hid (aG w5 (g9+1+1) 279 (jI (gJ (RV 0)))):=by rw[hr0];exact jf
 replace hKat:=ζ hKat;replace af4:=ζ af4;replace Ui:=ζ Ui;replace aN:=ζ aN;replace oD:=ζ oD;clear hr0;go_wp2;refine aiT hKat af4 Ui oD dP Ky JH ji mM jf oP π ?_;intro u12 u13 u14 u15 u94 u95 u96 u97 u98 u99 Vt Vs Vr Vq Vp Vo Vm Vl Vk Vj Vh Vg aak aiz aiy aix aiw aiv aiu ait ais air aiq aip aio ain ail aik aij aii aif aie aic auN auM auL auK auJ u138 auI auH auG auF auE auD auC auB auA auz auy auw auv auu aut aus aur auq aup auo wr h;obtain⟨hZ,hG⟩:=h;clear JH ji mM jf oP hKat af4 Ui oD;have Sv:=fun j hj=>aoR v (RV 64) (k:=j) hj
 rw[←aN.o] at Sv;have Qv:=(vY atU).trans (vY v).symm;have hl8:=vY v;have hlR:=vY (RV 64);have af6:=c8.out wr hG.o;have hby:=hG.o.fP (some g);have hgg:Hid (g≠g9+1+1):=by
  show g≠g9+1+1
  have:=aj1.o;omega
 generalize gJ (RV 64)=zs at *
 generalize hxs:gJ atU=xs at *
 replace hxs:=ζ hxs;generalize gJ v = ys at *
 clear aN hG aj1 Ky;replace Sv:=ζ Sv;replace af6:=ζ af6;replace hby:=ζ hby;go_wp2;refine aiS Sv Qv hl8 hlR af6 hZ hby hgg π ?_;rintro u16 aun aum aul auk auj aui auh aug auf aue aud auc aub aua at7 at6 at1 wz ⟨Fp,mG⟩;go_wp2;exact bodyPost_end (results_none rfl _ _ _) rfl ⟨rfl,by rw[hvF.o,hxs.o];exact Fp.o,mG.o⟩
theorem ZE:fB Tryz.prog 112 5 1 1:=fB.mk' (z:=.int .u8 0) Tryz.underlying112 κ rfl ω
theorem gU {α:Type} {w:World} {base k:Nat} {e:TypeId} {enc:α→List Value} {v:Value} {xs:List α} {P:Program} {ops:Array Oper} {rest:List Oper} {o:Oper} {ac:Act} {Q:Exit→Act→World→Prop} {ys:List α} {m bytes c:Nat} {t:TypeId} (T:fB P t e k bytes) (hgd:Region.wanted o (yielded ops ac.tmps)=true) (s y:Operand)
 (ho:o.op=.call {callee:=.builtin .append,args:= #[s,y],argTypes:= #[t,t]}) (h:Own w base e k enc v xs) (hs:ac.eval s = v) {A:Option Addr} (hy:ac.eval y =.slice A m c) (kK:bW w k enc A m ys)
 (hk:∀x,(enc x).length=k) (h1:∀x,∀u∈enc x,u.oneCell'=true) (hbase:base≤w.heap.size) (h63:xs.length+m≤maxLen) (hbytes:(xs.length+m)*bytes≤140737488355328)
 (hK:∀v' w',Own w' base e k enc v' (xs++ys)→w.grownBy w' v.ownBlock→(v'.ownBlock=v.ownBlock∨v'.ownBlock=some w.heap.size)→wpList P ops Q rest (ac.put o.dst v') w'):wpList P ops Q (o ::rest) ac w:=
 wpList_step fun _ dX=>Own.Je (ops:=ops) T hgd s y ho h hs hy kK hk h1 hbase h63 hbytes fun v' w' a b c=>dX _ _ (hK v' w' a b c)
theorem aG.aQ {w w':World} {j:Nat} {row:Option Nat} {t:TypeId} {cs:Array Value} (h:aG w j t cs) (hg:w.grownBy w' row) (hne:some j≠row):aG w' j t cs:=
 (hg.block j h.lt hne).trans h
theorem ah.aQ {a w w':World} {row:Option Nat} (h:ah a w) (hg:w.grownBy w' row) (hl:∀g,row=some g→a.heap.size≤g):ah a w':=
 ah.of ⟨hg.os.trans (Below.os h),hg.tape.trans (Below.tape h),hg.output.trans (Below.output h),Nat.le_trans h.size hg.size,fun j hj=>(hg.block j (Nat.lt_of_lt_of_le hj h.size) (fun e=>by have:=hl j e.symm;omega)).trans (Below.block h j hj)⟩
def iG (w:World) (g:Nat) (A:Option Addr) (n:Nat) (xs:List Nat):Prop:=bW w 1 jr A n xs∧∀ad,A=some ad→0<n→ad.block≠g
theorem iG.fP {w w':World} {g n:Nat} {A:Option Addr} {xs:List Nat} (h:iG w g A n xs) (hg:w.grownBy w' (some g)):iG w' g A n xs:=
 ⟨⟨h.1.1,fun hn=>by
  obtain⟨b,off,e,hb,hc⟩:=h.1.2 hn;have hne:b≠g:=h.2 _ e hn;exact⟨b,off,e,Nat.lt_of_lt_of_le hb hg.size,fun i hi j u hu=>by
   rw[World.cell?_of_block (hg.block b hb (by simpa using hne))];exact hc i hi j u hu⟩⟩,h.2⟩
theorem iG.drop {w:World} {g n k b off:Nat} {xs:List Nat} (h:iG w g (some ⟨b,off,none⟩) n xs) (hk:k≤n):iG w g (some ⟨b,off+k,none⟩) (n - k) (xs.drop k):=by
 refine⟨⟨by rw[List.length_drop,h.1.1],fun hn=> ?_⟩,fun ad e hn=>by cases e;exact h.2 ⟨b,off,none⟩ rfl ω⟩;obtain⟨b',kJ,e,hb,hc⟩:=h.1.2 ω;cases e
 refine⟨b,off+k,rfl,hb,fun i hi j u hu=> ?_⟩;rw[List.length_drop] at hi;rw[List.getElem_drop] at hu;have:=hc (k+i) ω j u hu;rwa [show off+(k+i)*1+j = off+k+i * 1+j by omega] at this
theorem Own.apart {w:World} {base g:Nat} {v:Value} {xs:List Nat} {t:TypeId} {cs:Array Value} (h:Own w base 5 1 jr v xs) (hB:aG w g t cs) (ht:t≠5) :
 ∃A c,v =.slice A xs.length c∧xs.length≤c∧c≤maxLen∧iG w g A xs.length xs∧(∀j,v.ownBlock=some j→base≤j∧j≠g):=by
 have h2:=h;obtain⟨A,c,rfl,hc,hcm,hA⟩:=h.arr hkB;have hown:∀j,(Value.slice A xs.length c).ownBlock=some j→base≤j∧j≠g:=fun j hj=>by
  rcases h2.2 with⟨h0,_⟩ | ⟨g',cap,cur,hv,hb,hh,_⟩
  ·rw[h0] at hj;cases hj
  ·rw[hv] at hj;simp only[Value.ownBlock,Option.some.injEq] at hj;subst hj;refine⟨hb,fun e=> ?_⟩;subst e;unfold aG at hB;rw[hh] at hB;simp only[Option.some.injEq,Obj.cells.injEq] at hB;exact ht hB.2.1.symm
 refine⟨A,c,rfl,hc,hcm,⟨hA,fun ad e hn=> ?_⟩,hown⟩;subst e;obtain⟨b,off,e,_⟩:=hA.2 hn;cases e
 rcases h2.2 with⟨h0,_⟩ | ⟨g',cap,cur,hv,_⟩
 ·cases h0
 ·simp only[Value.slice.injEq,Option.some.injEq,Addr.mk.injEq] at hv;obtain⟨⟨hb,ho,_⟩,_⟩:=hv;subst hb;subst ho;exact (hown b (by simp[Value.ownBlock])).2
theorem Own.fP {α:Type} {w w':World} {base k g:Nat} {e:TypeId} {enc:α→List Value} {v:Value} {xs:List α} (h:Own w base e k enc v xs) (hg:w.grownBy w' (some g)) (hne:∀j,v.ownBlock=some j→j≠g):Own w' base e k enc v xs:=by
 refine⟨h.1,?_⟩;rcases h.2 with h2 | ⟨g',cap,cur,hv,hb,hh,r⟩
 ·exact .inl h2
 ·have hlt:g'<w.heap.size:=by
   rcases Nat.lt_or_ge g' w.heap.size with h | h
   ·exact h
   ·rw[Array.getElem?_eq_none h] at hh;cases hh
  have h3:g'≠g:=hne g' (by rw[hv];rfl);exact .inr ⟨g',cap,cur,hv,hb,(hg.block g' hlt (by simpa using h3)).trans hh,r⟩
theorem aiD (v:V8) (rest:Value) (count x:Int):(um (gJ v) rest count).setIfInBounds 9 (.int .i64 x)=um (gJ v) rest x:=rfl
theorem yR (v:V8) (rest r:Value) (count:Int):(um (gJ v) rest count).setIfInBounds 8 r = um (gJ v) r count:=rfl
theorem Zn (n:Nat) (v:V8) (l:List Nat):blocks (n + 1) v l = E_ (blocks n v l) ((l.drop (64*n)).take 64):=by
 rw[Qg];rfl
def ND (g:Nat) (w:World):Nat:=match w.cell? ⟨g,8,none⟩ with
 | some (.slice _ n _)=>n
 | _=>0
theorem u_ {g n c:Nat} {w:World} {A:Option Addr} (h:w.cell? ⟨g,8,none⟩=some (.slice A n c)):ND g w = n:=by unfold ND;rw[h]
theorem ad_ {W0:World} {g:Nat} {v:V8} (hv:v.ok) {rest:Value} {xs ys:List Nat} {count:Int} {A:Option Addr} {m c:Nat} (w:World) (h0:ah W0 w) (hg0:W0.heap.size≤g)
 (hS:aG w g 282 (um (gJ v) rest count)) (hO:Own w W0.heap.size 5 1 jr rest xs) (hy:iG w g A m ys) (hb:∀x∈xs++ys,x < 256) (hlen:xs.length+m≤1099511627776) (hc1:0≤count) (hc2:count≤1099511627776) :
 Calls Tryz.prog 145 #[.pointer (some ⟨g,0,none⟩),.slice A m c] w fun e w'=>∃(n:Nat) (A':Option Addr) (c':Nat),e =.returned (.int .i64 (count+m))∧64*n≤(xs++ys).length∧(xs++ys).length<64*n + 64∧
  aG w' g 282 (um (gJ (blocks n v (xs++ys))) (.slice A' ((xs++ys).length-64*n) c') (count+m))∧iG w' g A' ((xs++ys).length-64*n) ((xs++ys).drop (64*n))∧(xs++ys).length-64*n≤c'∧c'≤maxLen∧ah W0 w':=by
 have kN:=hy.1.1;have d8:w.cell? ⟨g,8,none⟩=some rest:=hS.cell 8;have d9:w.cell? ⟨g,9,none⟩=some (.int .i64 count):=hS.cell 9;have f9:=hS.frozen 9;have sz:=hS.lt;have hby:=aj w ⟨g,9,none⟩ (.int .i64 (count+(m:Int)));obtain⟨A0,c0,hr0,_,_,_,hown⟩:=hO.apart hS δ;have wV:=hO.fP hby (fun j hj=>(hown j hj).2);have hy1:=hy.fP hby;have hS1:=hS.bH 9 (.int .i64 (count+(m:Int)));rw[aiD] at hS1;have h01:=h0.qj hby hg0;have hbase:=h01.size;have h63:xs.length+m≤maxLen:=by unfold maxLen;omega
 have hbytes:(xs.length+m)*1≤140737488355328:=ω;replace wV:=ζ wV;replace hy1:=ζ hy1;replace hb:=ζ hb;replace h01:=ζ h01;replace hS1:=ζ hS1;replace hv:=ζ hv;replace hown:=ζ hown;have hcm: -9223372036854775808≤count+(m:Int)∧count+(m:Int)≤9223372036854775807:=ω;clear hO hy hS h0 hr0 hby;go_enter Tryz.func145,Tryz.ntmps145
 go_wp2_with (refine gU ZE rfl (.tmp 20) (.tmp 21) rfl wV.o rfl rfl hy1.o.1 hkB aa_ hbase h63 hbytes ?_;intro v2 w2 nM mG hv2;(have Fp:=hS1.o.aQ mG (fun e=>(hown.o g e.symm).2 rfl));(have h02:=h01.o.aQ mG (fun j hj=>(hown.o j hj).1));(obtain⟨A2,c2,ajN,ZO,SK,r_,hown2⟩:=nM.apart Fp δ);subst ajN;(have e8:=Fp.cell 8);(have f8:=Fp.frozen 8);(have z8:=Fp.lt);(have lI:=aj w2 ⟨g,8,none⟩ (.slice A2 (xs++ys).length c2));(have KJ:=Fp.bH 8 (.slice A2 (xs++ys).length c2));(rw[yR] at KJ);(have Xp:=r_.fP lI);(have h03:=h02.qj lI hg0);(replace KJ:=ζ KJ);(replace Xp:=ζ Xp);(replace h03:=ζ h03);(have hzl:(xs++ys).length≤1099511627776:=by rw[List.length_append];omega);(generalize hzs:xs++ys=zs at *);(replace hzs:=ζ hzs);(generalize hL:zs.length=L at *);(replace hL:=ζ hL);clear nM mG hv2 Fp h02 hown2 lI r_ wV hS1 hy1 h01 hown d8 d9 f9 sz h63 hbytes hbase);generalize w2.setCell ⟨g,8,none⟩ (.slice A2 L c2)=w3 at *
 clear e8 f8 z8;go_loopw [] (fun wr=>∃(n:Nat) (A':Option Addr) (c':Nat),64*n≤L∧Hid (aG wr g 282 (um (gJ (blocks n v zs)) (.slice A' (L-64*n) c') (count+m)))∧Hid (iG wr g A' (L-64*n) (zs.drop (64*n)))∧L-64*n≤c'∧c'≤maxLen∧Hid (ah W0 wr)) (fun wr=>ND g wr)
 case atStart=>exact⟨0,A2,c2,ω,KJ,Xp,ω,SK,h03⟩
 case round=>
  clear KJ Xp h03;obtain⟨n,A',c',hn,hS,hB,CZ,awe,h0⟩:=hrel;have qB:=u_ (g:=g) (w:=wr) (A:=A') (n:=L-64*n) (c:=c') (hS.o.cell 8);have e8:wr.cell? ⟨g,8,none⟩=some (.slice A' (L-64*n) c'):=hS.o.cell 8;have z8:=hS.o.lt;by_cases hlt:64≤L-64*n
  ·obtain⟨b,off,rfl,hbl,_⟩:=hB.o.1.2 ω;have aw5:=hB.o.1.take (m:=64) hlt;have Es:∀x∈(zs.drop (64*n)).take 64,x < 256:=fun x hx=>hb.o x (List.mem_of_mem_drop (List.mem_of_mem_take hx))
   have cR:=aeQ (U0 n zs hv.o) wr aw5 Es hS.o (c:=c');rw[←Zn] at cR;replace cR:=ζ cR;clear aw5 Es;by_cases hc:c'=64
   ·subst hc;go_wp2_with fail;refine (cR.out).mono ?_;rintro e w5 ⟨rfl,hS5,GI⟩;have Py:=hB.o.fP GI;have h05:=h0.o.qj GI hg0;have g8:w5.cell? ⟨g,8,none⟩=some (.slice (some ⟨b,off,none⟩) (L-64*n) 64):=hS5.cell 8;have f8:=hS5.frozen 8;have y8:=hS5.lt;have hz0:L-64*(n + 1)=0:=ω;have Qx:=hS5.bH 8 (.slice (some ⟨b,off,none⟩) 0 0);rw[yR] at Qx;have Bq:=aj w5 ⟨g,8,none⟩ (.slice (some ⟨b,off,none⟩) 0 0);have yM:iG (w5.setCell ⟨g,8,none⟩ (.slice (some ⟨b,off,none⟩) 0 0)) g (some ⟨b,off,none⟩) 0 ((zs.drop (64*n)).drop 64):=by
     have h0:L-64*n - 64=0:=ω;have h1:(zs.drop (64*n)).drop 64=[]:=List.eq_nil_of_length_eq_zero (by rw[List.length_drop,List.length_drop,hL.o];exact h0);rw[h1];exact⟨bW.iO,fun _ _ h=>absurd h ω⟩
    have h06:=h05.qj Bq hg0;have abR:=u_ (A:=some ⟨b,off,none⟩) (n:=0) (c:=0) (Qx.cell 8);rw[List.drop_drop] at yM;rw[show 64*n + 64=64*(n + 1) by omega] at yM;replace Qx:=ζ Qx;replace yM:=ζ yM;replace h06:=ζ h06;replace abR:=ζ abR;replace qB:=ζ qB;clear Py h05 GI Bq hS5 cR;go_wp2;go_roundw
    case rel=>exact⟨n + 1,some ⟨b,off,none⟩,0,ω,by rw[hz0];exact Qx,by rw[hz0];exact yM,ω,by unfold maxLen;omega,h06⟩
    case measure=>rw[abR.o,qB.o];omega
   ·skip
    go_wp2_with fail;refine (cR.out).mono ?_;rintro e w5 ⟨rfl,hS5,GI⟩;have Py:=hB.o.fP GI;have h05:=h0.o.qj GI hg0;have g8:w5.cell? ⟨g,8,none⟩=some (.slice (some ⟨b,off,none⟩) (L-64*n) c'):=hS5.cell 8;have f8:=hS5.frozen 8;have y8:=hS5.lt;have Qx:=hS5.bH 8 (.slice (some ⟨b,off+64,none⟩) (L-64*n - 64) (c'-64));rw[yR] at Qx;have Bq:=aj w5 ⟨g,8,none⟩ (.slice (some ⟨b,off+64,none⟩) (L-64*n - 64) (c'-64));have yM:iG (w5.setCell ⟨g,8,none⟩ (.slice (some ⟨b,off+64,none⟩) (L-64*n - 64) (c'-64))) g (some ⟨b,off+64,none⟩) (L-64*n - 64) ((zs.drop (64*n)).drop 64):=(Py.drop hlt).fP Bq;have h06:=h05.qj Bq hg0;have abR:=u_ (A:=some ⟨b,off+64,none⟩) (n:=L-64*n - 64) (c:=(c'-64)) (Qx.cell 8);rw[List.drop_drop] at yM;rw[show L-64*n - 64=L-64*(n + 1) by omega,show 64*n + 64=64*(n + 1) by omega] at yM;rw[show L-64*n - 64=L-64*(n + 1) by omega] at Qx;replace Qx:=ζ Qx;replace yM:=ζ yM;replace h06:=ζ h06;replace abR:=ζ abR;replace qB:=ζ qB;clear Py h05 GI Bq hS5 cR;go_wp2;go_roundw
    case rel=>exact⟨n + 1,some ⟨b,off+64,none⟩,(c'-64),ω,Qx,yM,ω,by unfold maxLen at awe ⊢;omega,h06⟩
    case measure=>rw[abR.o,qB.o];omega
  ·have e9:wr.cell? ⟨g,9,none⟩=some (.int .i64 (count+(m:Int))):=hS.o.cell 9;go_wp2;go_ret;rw[hzs.o,hL.o];exact⟨n,A',c',rfl,hn,ω,hS.o,hB.o,CZ,awe,h0.o⟩
end Go.Proofs.YtbhikkgpcmkonaaGreatDoor
