/- Parts: ShaI ShaH1 ShaH2 ShaH3 ShaH4 ShaH ShaK -/
import Derived.Test.YtbhikkgpcmkonaaGreatDoorEn0
import Derived.Laws.CopyRow
import Derived.Test.YtbhikkgpcmkonaaGreatDoorEn2
import Derived.Test.YtbhikkgpcmkonaaGreatDoorEn3
set_option maxRecDepth 100000
set_option maxHeartbeats 12800000
namespace Go.Proofs.YtbhikkgpcmkonaaGreatDoor
open Go.RowKit
def h_ (x:Nat):List Value:=[.int .u8 (x:Int)]
theorem hkB (x:Nat):(h_ x).length=1:=rfl
theorem Ws (x:Nat):∀u∈h_ x,u.oneCell'=true:=by intro u hu;simp[h_] at hu;subst hu;rfl
def eH (v:V8):List Nat:=[v.a,v.b,v.c,v.d,v.e,v.f,v.g,v.h]
def wL:Code→List Code
 | .seq a b=>wL a ++wL b
 | .cond _ a b=>wL a ++wL b
 | .block _ c=>wL c
 | .scope c=>wL c
 | .loop c=>[.loop c]
 | _=>[]
def wO (f:Func) (n:Nat):Code:=((f.body.map wL).getD []).getD n .skip
theorem tY {Pr:World→Prop} {w:World} {t:TypeId} {cs:Array Value} (h:∀w1,aF w1 w.heap.size t cs→ah w w1→Pr w1):Pr (w.alloc (.cells cs t)):=h _ (aF.new w t cs) ((ah.refl w).alloc _)
theorem KN {a b:Nat} (ha:Wd a):bits .and .u32 (a:Int) (b:Int)=((a &&&b:Nat):Int):=by
 have hx:=(zu (b:=b) ha).lt;show IntKind.u32.wrap ((BitVec.ofInt 32 (a:Int) &&&BitVec.ofInt 32 (b:Int)).toNat:Int)=_
 rw[BitVec.toNat_and,ofInt32 ha,BitVec.ofInt_natCast,BitVec.toNat_ofNat,wrap32];have e:a &&&b % 2 ^ 32=a &&&b:=by
  apply Nat.eq_of_testBit_eq;intro i;rw[Nat.testBit_and,Nat.testBit_mod_two_pow,Nat.testBit_and];by_cases hi:i < 32
  ·simp[hi]
  ·simp[Ym ha (Nat.le_of_not_lt hi)]
 rw[e,Nat.mod_eq_of_lt hx]
theorem Sm {KA:Array Value} {k:Nat} {x:Int} (hk:k<64) (h:KA[k]? = some (.int .u32 x)) (w:World):(Instr.index 317 (.agg KA) (.int .i64 (k:Int))).run Tryz.prog w =.ok (.int .u32 x) w:=by
 have h0:(0:Int)≤(k:Int)∧(k:Int)<64:=ω;unfold Instr.index part;go_simp
theorem aok {e:Nat} (he:Wd e):4294967295 ^^^ e = P_ e:=by
 have h:=he.lt;apply Nat.eq_of_testBit_eq;intro i;have e1:P_ e = 2 ^ 32-(e + 1):=by unfold P_;omega
 rw[e1,Nat.testBit_two_pow_sub_succ h,Nat.testBit_xor,show (4294967295:Nat)=2 ^ 32-1 from rfl,Nat.testBit_two_pow_sub_one];by_cases hi:i < 32
 ·simp[hi]
 ·simp[hi,Ym he (Nat.le_of_not_lt hi)]
theorem aiw {e f g:Nat} (he:Wd e):bits .xor .u32 (bits .and .u32 (e:Int) (f:Int)) (bits .and .u32 (bits .xor .u32 IntKind.u32.max (e:Int)) (g:Int))=(((e &&&f) ^^^ (P_ e &&&g):Nat):Int):=by
 have hn:Wd (P_ e):=Wd.of (by unfold P_;omega);rw[show IntKind.u32.max=((4294967295:Nat):Int) from by decide,xE (Wd.of δ) he,aok he,KN he,KN hn,xE (zu he) (zu hn)]
theorem adJ {a b c:Nat} (ha:Wd a) (hb:Wd b):bits .xor .u32 (bits .xor .u32 (bits .and .u32 (a:Int) (b:Int)) (bits .and .u32 (a:Int) (c:Int))) (bits .and .u32 (b:Int) (c:Int))=(((a &&&b) ^^^ (a &&&c) ^^^ (b &&&c):Nat):Int):=by
 rw[KN ha,KN ha,KN hb,xE (zu ha) (zu ha),xE (EG (zu ha) (zu ha)) (zu hb)]
theorem Qc {Pr:World→Prop} {w:World} {t t':TypeId} {cs cs':Array Value} (h:∀w1,aF w1 w.heap.size t cs→aF w1 (w.heap.size+1) t' cs'→ah w w1→Pr w1):Pr ((w.alloc (.cells cs t)).alloc (.cells cs' t')):=
 h _ ((aF.new w t cs).alloc _) (aF.ou w _ _ _) (((ah.refl w).alloc _).alloc _)
theorem RG (p L r H:Nat):((p:Int)+(L:Int)+(r:Int)+(H:Int)) % 4294967296=(((((p + L) % 4294967296+r) % 4294967296+H) % 4294967296:Nat):Int):=ω
theorem aF.cast {w:World} {g:Nat} {t:TypeId} {cs cs':Array Value} (h:aF w g t cs) (e:cs=cs'):aF w g t cs':=e ▸ h
theorem ah.eY {w w':World} (h:ah w w') (row:Option Nat):w.grownBy w' row:=⟨Below.os h,Below.tape h,Below.output h,Below.size h,fun i hi _=>Below.block h i hi⟩
theorem VB {a b n:Nat} (hb:b < 2 ^ n):a * 2 ^ n |||b = a * 2 ^ n + b:=by
 have:=Nat.shiftLeft_add_eq_or_of_lt (i:=n) (b:=b) hb a;rw[Nat.shiftLeft_eq] at this;exact this.symm
theorem afN {a b c d:Nat} (ha:a < 256) (hb:b < 256) (hc:c < 256) (hd:d < 256) :
 bits .or .u32 (bits .or .u32 (bits .or .u32 ((a:Int) % 4294967296*16777216 % 4294967296) ((b:Int) % 4294967296*65536 % 4294967296)) ((c:Int) % 4294967296*256 % 4294967296)) ((d:Int) % 4294967296)=((a * 16777216+b * 65536+c * 256+d:Nat):Int):=by
 have e1:(a:Int) % 4294967296*16777216 % 4294967296=((a * 16777216:Nat):Int):=ω;have e2:(b:Int) % 4294967296*65536 % 4294967296=((b * 65536:Nat):Int):=ω;have e3:(c:Int) % 4294967296*256 % 4294967296=((c * 256:Nat):Int):=ω;have e4:(d:Int) % 4294967296=((d:Nat):Int):=ω;have o1:a * 16777216 |||b * 65536=a * 16777216+b * 65536:=VB (n:=24) ω
 have o2:a * 16777216+b * 65536 |||c * 256=a * 16777216+b * 65536+c * 256:=by
  have:=VB (a:=a * 256+b) (b:=c * 256) (n:=16) ω;rw[show (2:Nat) ^ 16=65536 from rfl,Nat.add_mul,Nat.mul_assoc] at this;exact this
 have o3:a * 16777216+b * 65536+c * 256 |||d = a * 16777216+b * 65536+c * 256+d:=by
  have:=VB (a:=a * 65536+b * 256+c) (b:=d) (n:=8) ω;rw[show (2:Nat) ^ 8=256 from rfl,Nat.add_mul,Nat.add_mul,Nat.mul_assoc,Nat.mul_assoc] at this;exact this
 have w1:Wd (a * 16777216):=Wd.of ω;have w2:Wd (b * 65536):=Wd.of ω;have w3:Wd (c * 256):=Wd.of ω;have w4:Wd d:=Wd.of ω;have w5:Wd (a * 16777216+b * 65536):=Wd.of ω;have w6:Wd (a * 16777216+b * 65536+c * 256):=Wd.of ω;rw[e1,e2,e3,e4,ahc w1 w2,o1,ahc w5 w3,o2,ahc w6 w4,o3]
theorem j_ (w:World) (g:Nat) (cs:Array Value):w.grownBy (w.setRow g cs) (some g) where
 os:=rfl
 tape:=rfl
 output:=rfl
 size:=by unfold World.setRow;simp
 block:=fun k _ hne=>by
  unfold World.setRow;have:g≠k:=fun h=>hne (by rw[h])
  simp[Array.getElem?_modify,this]
theorem aF.eY {w w':World} {j g:Nat} {t:TypeId} {cs:Array Value} (h:aF w j t cs) (hg:w.grownBy w' (some g)) (hne:j≠g):aF w' j t cs:=
 (hg.block j h.lt (by simpa using hne)).trans h
theorem ah.nI {a w w':World} {g:Nat} (h:ah a w) (hg:w.grownBy w' (some g)) (hl:a.heap.size≤g):ah a w':=
 ah.of ⟨hg.os.trans (Below.os h),hg.tape.trans (Below.tape h),hg.output.trans (Below.output h),Nat.le_trans h.size hg.size,fun j hj=>(hg.block j (Nat.lt_of_lt_of_le hj h.size) (by simp;omega)).trans (Below.block h j hj)⟩
theorem aj (w:World) (p:Addr) (v:Value):w.grownBy (w.setCell p v) (some p.block) where
 os:=rfl
 tape:=rfl
 output:=rfl
 size:=by simp
 block:=fun k _ hne=>Below.heap_setCell w p v k (by intro h;exact hne (by rw[h]))
theorem aqz {w:World} {g a b c d e f h i:Nat} (hB:aF w g 279 (iP [a,b,c,d,e,f,h,i])) :
 ∃w',(Builtin.copy_ #[322,322] 3 #[.slice (some ⟨g,1,none⟩) 7 7,.slice (some ⟨g,0,none⟩) 7 8]).run Tryz.prog w =.ok (goInt 7) w'∧aF w' g 279 (iP [a,a,b,c,d,e,f,h])∧w.grownBy w' (some g):=by
 have hc:=run_copy_row (P:=Tryz.prog) w 322 322 3 23 g 1 7 7 ⟨g,0,none⟩ 7 8 (iP [a,b,c,d,e,f,h,i]) 279 (iP [a,b,c,d,e,f,h]).toList Tryz.underlying322 κ hB rfl
  (fun j v hv=>by
   have hj:j < 7:=(List.getElem?_eq_some_iff.1 hv).1;have:(⟨g,0,none⟩:Addr).add j = ⟨g,j,none⟩:=by unfold Addr.add;by_cases hj:j = 0 <;> simp[hj]
   rw[this,hB.cell j,←hv];match j,hj with
   | 0,_ | 1,_ | 2,_ | 3,_ | 4,_ | 5,_ | 6,_=>rfl) (by simp[iP]) (by intro v hv;simp[iP] at hv;rcases hv with rfl | rfl | rfl | rfl | rfl | rfl | rfl <;> rfl)
 exact⟨_,hc,setRow_heap w g _ _ _ _ hB,j_ w g _⟩
theorem sH (v:V8):(eH v).length=8:=rfl
theorem Yo {l:List Nat} {rest:Value} {count:Int} {k:Nat} (h:k<l.length):(qP l rest count)[k]? = some (.int .u32 ((l.getD k 0:Nat):Int)):=by
 unfold qP;rw[Array.getElem?_append_left (by rw[NY];exact h),vZ h]
theorem ac4 {l:List Nat} {rest:Value} {count:Int} {k:Nat} (h:k<l.length) (x:Nat):(qP l rest count).setIfInBounds k (.int .u32 (x:Int))=qP (l.set k x) rest count:=by
 unfold qP;rw[←yt,Array.setIfInBounds_append_left (by rw[NY];exact h)]
theorem Zp {xs ys:List Nat} (hl:xs.length=ys.length) {k:Nat} (hk:k<xs.length):(xs.take k++ys.drop k).getD k 0=ys.getD k 0:=by
 simp only[List.getD_eq_getElem?_getD];rw[List.getElem?_append_right (by rw[List.length_take];omega),List.length_take,Nat.min_eq_left ω,Nat.sub_self,List.getElem?_drop,Nat.add_zero]
theorem Ae {xs ys:List Nat} (hl:xs.length=ys.length) {k:Nat} (hk:k≤xs.length):(xs.take k++ys.drop k).length=xs.length:=by
 rw[List.length_append,List.length_take,List.length_drop];omega
theorem Jp {xs ys:List Nat} (hl:xs.length=ys.length) {k:Nat} (hk:k<xs.length):(xs.take k++ys.drop k).set k (xs.getD k 0)=xs.take (k+1)++ys.drop (k+1):=by
 rw[List.set_append_right _ _ (by rw[List.length_take];omega),List.length_take,Nat.min_eq_left ω,Nat.sub_self];have hy:k<ys.length:=ω;rw[List.drop_eq_getElem_cons hy,List.set_cons_zero,List.take_add_one,List.append_assoc,List.getD_eq_getElem?_getD,List.getElem?_eq_getElem hk];rfl
theorem aiS (v u:V8) {k:Nat} (hk:k<8):(eH (aiT v u)).getD k 0=((eH v).getD k 0+(eH u).getD k 0) % 4294967296:=by
 match k,hk with
 | 0,_ | 1,_ | 2,_ | 3,_ | 4,_ | 5,_ | 6,_ | 7,_=>rfl
theorem adl {A:Option Addr} {c:Nat} {b:List Nat} {g gw:Nat} {w w1:World} {Q0:Exit→Act→World→Prop} {x2 x3 x5 x6 x7 x8 x9 Iq Ip BJ Gp C9 Hw Ac EP BH EO BG CZ CY CX Aa z_ zZ BF BD BA Bz Bv Bq Bo Bl Bj Bh Bg Bf EN CW CV CS CQ CP CO CJ CG CB Cm Cj Ci Ce Gn EM Ew Bd Cc Cb Gm Gl Gj Eu Et Es Ep Eo En Em Ej EL EK EJ Ei Eh Ef Ee Ed Ec Eb Ea D_ Hu Ht Hr EI D9 B_ BX BU BR BP IU IQ Gi Gh Jh Hq Ho qC qB qA qy qx qw qp qo qm qj qh qg rG qO Io Il Ik Ij Ii Ih Ig Ie Ic Ib Ia H_ H9 H8 H7 H6 HY Hz Hy EU ET ES MQ MP MO MN MK MI MH MG MF MC Me Md Mc L_ L9 L8 L6 LZ LY LX LW LV LU RD LQ LP LM LK LJ LH LG LD LC Lu Ls Lr Lp Lm Ll Lj:Value}
 (hA:Hid (cu w 1 h_ A 64 b)) (hb:Hid (∀x∈b,x < 256)) (dw:Hid (gw=w.heap.size)) (ug:Hid (aF w1 gw 317 (iP (nS [])))) (gu:Hid (ah w w1))
 (YR:∀c a d v w,Q0 (.panic c) (Act.put a d v) w→Q0 (.panic c) a w)
 (pV:∀(u5 u17 u18 u19 u20 u21 u22 u23 u24 u25 u26 u27 u28 u29 u30 u31 u32 u33 u34 u35 u36 u37 u38 u39 u40 u41 u42 u43 u44 u45 u46 u47 u48 u49 u50 u51 u52 u53 u54 u55:Value) (wr:World),Hid (aF wr gw 317 (iP (nS (words 0 (b_ b)))))∧Hid (ah w wr)→Q0 (.exit 0) ⟨((.pointer (some ⟨g,0,none⟩))::(.slice A 64 c)::x2::x3::(.pointer (some ⟨gw,0,none⟩))::u5::x6::x7::x8::x9::Iq::Ip::BJ::Gp::C9::Hw::Ac::u17::u18::u19::u20::u21::u22::u23::u24::u25::u26::u27::u28::u29::u30::u31::u32::u33::u34::u35::u36::u37::u38::u39::u40::u41::u42::u43::u44::u45::u46::u47::u48::u49::u50::u51::u52::u53::u54::u55::Ew::Bd::Cc::Cb::Gm::Gl::Gj::Eu::Et::Es::Ep::Eo::En::Em::Ej::EL::EK::EJ::Ei::Eh::Ef::Ee::Ed::Ec::Eb::Ea::D_::Hu::Ht::Hr::EI::D9::B_::BX::BU::BR::BP::IU::IQ::Gi::Gh::Jh::Hq::Ho::qC::qB::qA::qy::qx::qw::qp::qo::qm::qj::qh::qg::rG::qO::Io::Il::Ik::Ij::Ii::Ih::Ig::Ie::Ic::Ib::Ia::H_::H9::H8::H7::H6::HY::Hz::Hy::EU::ET::ES::MQ::MP::MO::MN::MK::MI::MH::MG::MF::MC::Me::Md::Mc::L_::L9::L8::L6::LZ::LY::LX::LW::LV::LU::RD::LQ::LP::LM::LK::LJ::LH::LG::LD::LC::Lu::Ls::Lr::Lp::Lm::Ll::Lj::[]).toArray,[]⟩ wr) :
 Code.wp Tryz.prog (wO Tryz.f180 0) Q0 ⟨((.pointer (some ⟨g,0,none⟩))::(.slice A 64 c)::x2::x3::(.pointer (some ⟨gw,0,none⟩))::x5::x6::x7::x8::x9::Iq::Ip::BJ::Gp::C9::Hw::Ac::(.int .i64 0)::EP::BH::EO::BG::CZ::CY::CX::Aa::z_::zZ::BF::BD::BA::Bz::Bv::Bq::Bo::Bl::Bj::Bh::Bg::Bf::EN::CW::CV::CS::CQ::CP::CO::CJ::CG::CB::Cm::Cj::Ci::Ce::Gn::EM::Ew::Bd::Cc::Cb::Gm::Gl::Gj::Eu::Et::Es::Ep::Eo::En::Em::Ej::EL::EK::EJ::Ei::Eh::Ef::Ee::Ed::Ec::Eb::Ea::D_::Hu::Ht::Hr::EI::D9::B_::BX::BU::BR::BP::IU::IQ::Gi::Gh::Jh::Hq::Ho::qC::qB::qA::qy::qx::qw::qp::qo::qm::qj::qh::qg::rG::qO::Io::Il::Ik::Ij::Ii::Ih::Ig::Ie::Ic::Ib::Ia::H_::H9::H8::H7::H6::HY::Hz::Hy::EU::ET::ES::MQ::MP::MO::MN::MK::MI::MH::MG::MF::MC::Me::Md::Mc::L_::L9::L8::L6::LZ::LY::LX::LW::LV::LU::RD::LQ::LP::LM::LK::LJ::LH::LG::LD::LC::Lu::Ls::Lr::Lp::Lm::Ll::Lj::[]).toArray,[]⟩ w1:=by
 conv=>arg 2;whnf
 go_loopw [17] (fun i wr=>∃k:Nat,k≤16∧i =.int .i64 k∧Hid (aF wr gw 317 (iP (nS ((b_ b).take k))))∧Hid (ah w wr)) (fun i _=>16-(intOf i).toNat)
 case atStart=>exact⟨0,ω,rfl,ug,gu⟩
 case round=>
  obtain⟨k,hk,rfl,hB,hG⟩:=hrel;by_cases hlt:k<16
  ·obtain⟨bb,off,x0,rfl,hs0,hx0,hc0⟩:=((hA.o).keep hG.o).at_ (i:=4*k) ω;obtain⟨_,_,x1,e1,_,hx1,hc1⟩:=((hA.o).keep hG.o).at_ (i:=4*k+1) ω;obtain⟨_,_,x2,e2,_,hx2,hc2⟩:=((hA.o).keep hG.o).at_ (i:=4*k+2) ω;obtain⟨_,_,x3,e3,_,hx3,hc3⟩:=((hA.o).keep hG.o).at_ (i:=4*k+3) ω;cases e1;cases e2;cases e3
   have c0:wr.cell? ⟨bb,off+4*k,none⟩=some (.int .u8 x0):=by simpa using hc0 0 _ rfl
   have c1:wr.cell? ⟨bb,off+(4*k+1),none⟩=some (.int .u8 x1):=by simpa using hc1 0 _ rfl
   have c2:wr.cell? ⟨bb,off+(4*k+2),none⟩=some (.int .u8 x2):=by simpa using hc2 0 _ rfl
   have c3:wr.cell? ⟨bb,off+(4*k+3),none⟩=some (.int .u8 x3):=by simpa using hc3 0 _ rfl
   have hw:=afN (hb.o x0 (List.mem_of_getElem? hx0)) (hb.o x1 (List.mem_of_getElem? hx1)) (hb.o x2 (List.mem_of_getElem? hx2)) (hb.o x3 (List.mem_of_getElem? hx3));have hbe:x0*16777216+x1*65536+x2*256+x3=be4 b k:=by
    unfold be4;simp only[List.getD_eq_getElem?_getD,hx0,hx1,hx2,hx3,Option.getD_some]
   have hb0:Hid (x0<256):=hb.o x0 (List.mem_of_getElem? hx0);have hb1:Hid (x1<256):=hb.o x1 (List.mem_of_getElem? hx1);have hb2:Hid (x2<256):=hb.o x2 (List.mem_of_getElem? hx2);have hb3:Hid (x3<256):=hb.o x3 (List.mem_of_getElem? hx3);rw[hbe] at hw;have hl:((b_ b).take k).length=k:=take_len ω;have s0:wr.cell? ⟨gw,k,none⟩=some (.int .u32 0):=by
    have h1:=Jy (l:=(b_ b).take k) ω;have:=(hB.o.cell k).trans (vZ (by rw[Fa ω];omega));rw[hl] at h1;rw[h1] at this;exact this
   have f0:=hB.o.frozen k;have z0:=hB.o.lt;clear hx0 hx1 hx2 hx3 hc0 hc1 hc2 hc3 hbe;generalize hX:be4 b k=X at *
   replace hX:=ζ hX;replace hl:=ζ hl;go_wp2_with fail;refine aH κ ?_;refine rK (.range 35) 1 ?_;iterate 35 refine aC ?_
   refine aB ?_;refine eF (i:=35) rfl κ κ (fun wN hN hS K' hK=> ?_);clear hS;have s1:=hN.cell s0;have f1:wN.frozen? ⟨gw,k,none⟩=false:=((dM hN).2 _ _ z0).trans f0;have pW:=(hB.o.grows hN).aW k (.int .u32 (X:Int));have fG:=(hG.o.trans hN).setCell (p:=⟨gw,k,none⟩) (Nat.le_of_eq dw.o.symm) (.int .u32 (X:Int));replace pW:=ζ pW;replace fG:=ζ fG;go_simp;refine hK.o _ _ ?_;clear hK s1 f1 hN hB hG s0 f0 z0 c0 c1 c2 c3;generalize wN.setCell ⟨gw,k,none⟩ (.int .u32 (X:Int))=w2 at *
   go_wp2;go_roundw
   case rel=>exact⟨k+1,ω,ν,by
    have:=pW.o;rw[yt] at this;have h2:=Oh (l:=(b_ b).take k) X (by rw[hl.o];omega);rw[hl.o] at h2;rw[h2,←hX.o,←Uj b hlt] at this;exact this,fG⟩
   case measure=>exact ψ
  ·obtain rfl:k=16:=ω;have ED:Hid (aF wr gw 317 (iP (nS (words 0 (b_ b))))):=by
    have:=hB.o;rw[List.take_of_length_le (Nat.le_of_eq (oH b))] at this;exact this
   clear hB;go_wp2;exact⟨ED,hG⟩
theorem adk {b:List Nat} {gw g6:Nat} {w w3:World} {Q0:Exit→Act→World→Prop} {x0 x1 x2 x3 x5 x9 Iq Ip BJ Gp C9 Hw Ac ER EP BH EO BG CZ CY CX Aa z_ zZ BF BD BA Bz Bv Bq Bo Bl Bj Bh Bg Bf EN CW CV CS CQ CP CO CJ CG CB Cm Cj Ci Ce Gn EM Ew Bd Cc Cb Gm Gl Gj Eu Et Es Ep Eo En Em Ej EL EK EJ Ei Eh Ef Ee Ed Ec Eb Ea D_ Hu Ht Hr EI D9 B_ BX BU BR BP IU IQ Gi Gh Jh Hq Ho qC qB qA qy qx qw qp qo qm qj qh qg rG qO Io Il Ik Ij Ii Ih Ig Ie Ic Ib Ia H_ H9 H8 H7 H6 HY Hz Hy EU ET ES MQ MP MO MN MK MI MH MG MF MC Me Md Mc L_ L9 L8 L6 LZ LY LX LW LV LU RD LQ LP LM LK LJ LH LG LD LC Lu Ls Lr Lp Lm Ll Lj:Value}
 (hb:Hid (∀x∈b,x < 256)) (dw:Hid (gw=w.heap.size)) (Qu:Hid (gw<g6)) (ED:Hid (aF w3 gw 317 (iP (nS (words 0 (b_ b)))))) (uN:Hid (aF w3 g6 319 #[.int .i64 7,.int .i64 18,.int .i64 0,.int .i64 3])) (yV:Hid (aF w3 (g6+1) 319 #[.int .i64 17,.int .i64 19,.int .i64 0,.int .i64 10])) (AV:Hid (ah w w3))
 (YR:∀c a d v w,Q0 (.panic c) (Act.put a d v) w→Q0 (.panic c) a w)
 (pV:∀(u8 u58 u59 u60 u61 u62 u63 u64 u65 u66 u67 u68 u69 u70 u71 u72 u73 u74 u75 u76 u77 u78 u79 u80 u81 u82 u83 u84 u85 u86:Value) (wr:World),Hid (aF wr gw 317 (iP (words 48 (b_ b))))∧Hid (ah w wr)→Q0 (.exit 2) ⟨(x0::x1::x2::x3::(.pointer (some ⟨gw,0,none⟩))::x5::(.pointer (some ⟨g6,0,none⟩))::(.pointer (some ⟨g6+1,0,none⟩))::u8::x9::Iq::Ip::BJ::Gp::C9::Hw::Ac::ER::EP::BH::EO::BG::CZ::CY::CX::Aa::z_::zZ::BF::BD::BA::Bz::Bv::Bq::Bo::Bl::Bj::Bh::Bg::Bf::EN::CW::CV::CS::CQ::CP::CO::CJ::CG::CB::Cm::Cj::Ci::Ce::Gn::EM::Ew::Bd::u58::u59::u60::u61::u62::u63::u64::u65::u66::u67::u68::u69::u70::u71::u72::u73::u74::u75::u76::u77::u78::u79::u80::u81::u82::u83::u84::u85::u86::D9::B_::BX::BU::BR::BP::IU::IQ::Gi::Gh::Jh::Hq::Ho::qC::qB::qA::qy::qx::qw::qp::qo::qm::qj::qh::qg::rG::qO::Io::Il::Ik::Ij::Ii::Ih::Ig::Ie::Ic::Ib::Ia::H_::H9::H8::H7::H6::HY::Hz::Hy::EU::ET::ES::MQ::MP::MO::MN::MK::MI::MH::MG::MF::MC::Me::Md::Mc::L_::L9::L8::L6::LZ::LY::LX::LW::LV::LU::RD::LQ::LP::LM::LK::LJ::LH::LG::LD::LC::Lu::Ls::Lr::Lp::Lm::Ll::Lj::[]).toArray,[]⟩ wr) :
 Code.wp Tryz.prog (wO Tryz.f180 1) Q0 ⟨(x0::x1::x2::x3::(.pointer (some ⟨gw,0,none⟩))::x5::(.pointer (some ⟨g6,0,none⟩))::(.pointer (some ⟨g6+1,0,none⟩))::(.int .i64 16)::x9::Iq::Ip::BJ::Gp::C9::Hw::Ac::ER::EP::BH::EO::BG::CZ::CY::CX::Aa::z_::zZ::BF::BD::BA::Bz::Bv::Bq::Bo::Bl::Bj::Bh::Bg::Bf::EN::CW::CV::CS::CQ::CP::CO::CJ::CG::CB::Cm::Cj::Ci::Ce::Gn::EM::Ew::Bd::Cc::Cb::Gm::Gl::Gj::Eu::Et::Es::Ep::Eo::En::Em::Ej::EL::EK::EJ::Ei::Eh::Ef::Ee::Ed::Ec::Eb::Ea::D_::Hu::Ht::Hr::EI::D9::B_::BX::BU::BR::BP::IU::IQ::Gi::Gh::Jh::Hq::Ho::qC::qB::qA::qy::qx::qw::qp::qo::qm::qj::qh::qg::rG::qO::Io::Il::Ik::Ij::Ii::Ih::Ig::Ie::Ic::Ib::Ia::H_::H9::H8::H7::H6::HY::Hz::Hy::EU::ET::ES::MQ::MP::MO::MN::MK::MI::MH::MG::MF::MC::Me::Md::Mc::L_::L9::L8::L6::LZ::LY::LX::LW::LV::LU::RD::LQ::LP::LM::LK::LJ::LH::LG::LD::LC::Lu::Ls::Lr::Lp::Lm::Ll::Lj::[]).toArray,[]⟩ w3:=by
 conv=>arg 2;whnf
 go_loopw [8] (fun i wr=>∃m:Nat,16≤m∧m≤64∧i =.int .i64 m∧Hid (aF wr gw 317 (iP (nS (words (m - 16) (b_ b)))))∧Hid (aF wr g6 319 #[.int .i64 7,.int .i64 18,.int .i64 0,.int .i64 3])∧Hid (aF wr (g6+1) 319 #[.int .i64 17,.int .i64 19,.int .i64 0,.int .i64 10])∧Hid (ah w wr)) (fun i _=>64-(intOf i).toNat)
 case atStart=>exact⟨16,ω,ω,rfl,ED,uN,yV,AV⟩
 case round=>
  clear ED uN yV AV;obtain⟨m,Ve,Vd,rfl,hB,uN,yV,hG⟩:=hrel;by_cases hlt:m < 64
  ·have hlen:(words (m - 16) (b_ b)).length=m:=by rw[uP,oH];omega
   have hWd:=acp hb.o (m - 16);have hat:∀j,j < m→wr.cell? ⟨gw,j,none⟩=some (.int .u32 (((words (m - 16) (b_ b)).getD j 0:Nat):Int)):=fun j hj=>by
    have:=(hB.o.cell j).trans (vZ (by rw[Fa ω];omega));rw[adx ω] at this;exact this
   have c0:=hat (m - 16) ω;have c1:=hat (m - 15) ω;have c2:=hat (m - 7) ω;have c3:=hat (m - 2) ω;have hq:=hWd (m - 15);have hs:=hWd (m - 2);have cL:=fun W=>WO hq W
   have cH:=fun W=>SK hs W
   have hN1:=Vp (n:=m - 16) (b:=b);rw[show m - 16+1=m - 15 by omega,show m - 16+9=m - 7 by omega,show m - 16+14=m - 2 by omega] at hN1;unfold Pq at hN1;have s0:wr.cell? ⟨gw,m,none⟩=some (.int .u32 0):=by
    have h1:=Jy (l:=words (m - 16) (b_ b)) ω;have:=(hB.o.cell m).trans (vZ (by rw[Fa ω];omega));rw[hlen] at h1;rw[h1] at this;exact this
   have f0:=hB.o.frozen m;have z0:=hB.o.lt;have d0:=uN.o.cell 0;have d1:=uN.o.cell 1;have d2:=uN.o.cell 2;have d3:=uN.o.cell 3;have z6:=uN.o.lt;have e0:=yV.o.cell 0;have e1:=yV.o.cell 1;have e2:=yV.o.cell 2;have e3:=yV.o.cell 3;have z7:=yV.o.lt;clear hWd hat hq hs;generalize (words (m - 16) (b_ b)).getD (m - 16) 0=p at *
   generalize (words (m - 16) (b_ b)).getD (m - 15) 0=q at *
   generalize (words (m - 16) (b_ b)).getD (m - 7) 0=r at *
   generalize (words (m - 16) (b_ b)).getD (m - 2) 0=s at *
   generalize MW 7 18 3 q=L at *
   generalize MW 17 19 10 s = H at *
   have hw:=RG p L r H;rw[←hN1] at hw;generalize hX:mF (words (m - 16) (b_ b))=X at *
   replace hX:=ζ hX;clear hN1;replace hlen:=ζ hlen;replace cL:=ζ cL;replace cH:=ζ cH;go_wp2_with fail;refine aH κ ?_;refine rK (.range 25) 1 ?_;iterate 10 refine aC ?_
   refine bQ (.int .u32 (L:Int)) rfl χ (fun wq fU=> ?_) ?_
   ·obtain⟨rC,qE⟩:=dM fU;go_simp;exact Calls.mono (cL.out wq) (fun e w'' h=>h)
   go_simp;iterate 11 refine aC ?_
   refine bQ (.int .u32 (H:Int)) rfl χ (fun wq fU=> ?_) ?_
   ·obtain⟨rC,qE⟩:=dM fU;go_simp;exact Calls.mono (cH.out wq) (fun e w'' h=>h)
   go_simp;iterate 2 refine aC ?_
   refine aB ?_;refine eF (i:=25) rfl κ κ (fun wN hN hS K' hK=> ?_);clear hS;have s1:=hN.cell s0;have f1:wN.frozen? ⟨gw,m,none⟩=false:=((dM hN).2 _ _ z0).trans f0;have pW:=(hB.o.grows hN).aW m (.int .u32 (X:Int));have fG:=(hG.o.trans hN).setCell (p:=⟨gw,m,none⟩) (Nat.le_of_eq dw.o.symm) (.int .u32 (X:Int));have alQ:=(uN.o.grows hN).far (p:=⟨gw,m,none⟩) (Nat.ne_of_gt Qu.o) (.int .u32 (X:Int));have alP:=(yV.o.grows hN).far (p:=⟨gw,m,none⟩) (Nat.ne_of_gt (Nat.lt_succ_of_lt Qu.o)) (.int .u32 (X:Int));replace pW:=ζ pW;replace fG:=ζ fG;replace alQ:=ζ alQ;replace alP:=ζ alP;go_simp;refine hK.o _ _ ?_;clear hK s1 f1 hN hB hG uN yV s0 f0 z0 z6 z7 c0 c1 c2 c3 d0 d1 d2 d3 e0 e1 e2 e3;generalize wN.setCell ⟨gw,m,none⟩ (.int .u32 (X:Int))=w2 at *
   go_wp2;go_roundw
   case rel=>exact⟨m + 1,ω,ω,ν,by
    have:=pW.o;rw[yt] at this;have h2:=Oh (l:=words (m - 16) (b_ b)) X (by rw[hlen.o];omega);rw[hlen.o,←hX.o,←Jk] at h2;rw[←hX.o,h2] at this;rw[show m + 1-16=m - 16+1 by omega];exact this,alQ,alP,fG⟩
   case measure=>exact ψ
  ·obtain rfl:m = 64:=ω;have ED:Hid (aF wr gw 317 (iP (words 48 (b_ b)))):=by
    have:=hB.o;rw[Wi (by rw[uP,oH])] at this;exact this
   clear hB Qu uN yV;go_wp2;exact⟨ED,hG⟩
theorem adi {KA:Array Value} {WL:List Nat} {RV:Nat→V8} {KF:Nat→Nat} {gw g9:Nat} {w w5:World} {Q0:Exit→Act→World→Prop} {x0 x1 x2 x3 x5 x6 x7 x8 BJ Gp C9 Hw Ac ER EP BH EO BG CZ CY CX Aa z_ zZ BF BD BA Bz Bv Bq Bo Bl Bj Bh Bg Bf EN CW CV CS CQ CP CO CJ CG CB Cm Cj Ci Ce Gn EM Ew Bd Cc Cb Gm Gl Gj Eu Et Es Ep Eo En Em Ej EL EK EJ Ei Eh Ef Ee Ed Ec Eb Ea D_ Hu Ht Hr EI D9 B_ BX BU BR BP Gi Gh Jh Hq Ho qC qB qA qy qx qw qp qo qm qj qh qg rG qO Io Il Ik Ij Ii Ih Ig Ie Ic Ib Ia H_ H9 H8 H7 H6 HY Hz Hy EU ET ES MQ MP MO MN MK MI MH MG MF MC Me Md Mc L_ L9 L8 L6 LZ LY LX LW LV LU RD LQ LP LM LK LJ LH LG LD LC Lu Ls Lr Lp Lm Ll Lj:Value}
 (hKat:Hid (∀k,k<64→KA[k]? = some (.int .u32 ((KF k:Nat):Int)))) (aaS:Hid (∀k,k<64→(iP WL)[k]? = some (.int .u32 ((WL.getD k 0:Nat):Int)))) (Oy:Hid (∀k,RV (k+1)=RY (RV k) (KF k) (WL.getD k 0))) (yQ:Hid (∀k,(RV k).ok))
 (dw:Hid (gw=w.heap.size)) (FC:Hid (gw<g9)) (ED:Hid (aF w5 gw 317 (iP WL))) (gQ:Hid (aF w5 g9 319 #[.int .i64 6,.int .i64 11,.int .i64 25,.int .i64 0])) (jZ:Hid (aF w5 (g9+1) 319 #[.int .i64 2,.int .i64 13,.int .i64 22,.int .i64 0])) (gI:Hid (aF w5 (g9+1+1) 279 (iP (eH (RV 0))))) (oV:Hid (ah w w5))
 (YR:∀c a d v w,Q0 (.panic c) (Act.put a d v) w→Q0 (.panic c) a w)
 (pV:∀(u12 u13 u14 u15 u94 u95 u96 u97 u98 u99 PY PX PW PV PU PS PN PL PK PG PE PD Vw ac1 ac0 acZ acY acX acW acV acU acT acS acR acQ acP acO acN acM acL acK acJ acI an9 an8 an7 an6 an5 u138 an4 an3 an2 an1 an0 anZ anY anX anW anV anU anT anS anR anQ anP anO anN anM anL:Value) (wr:World),Hid (aF wr (g9+1+1) 279 (iP (eH (RV 64))))∧Hid (ah w wr)→Q0 (.exit 4) ⟨(x0::x1::x2::x3::(.pointer (some ⟨gw,0,none⟩))::x5::x6::x7::x8::(.pointer (some ⟨g9,0,none⟩))::(.pointer (some ⟨g9+1,0,none⟩))::(.pointer (some ⟨g9+1+1,0,none⟩))::u12::u13::u14::u15::Ac::ER::EP::BH::EO::BG::CZ::CY::CX::Aa::z_::zZ::BF::BD::BA::Bz::Bv::Bq::Bo::Bl::Bj::Bh::Bg::Bf::EN::CW::CV::CS::CQ::CP::CO::CJ::CG::CB::Cm::Cj::Ci::Ce::Gn::EM::Ew::Bd::Cc::Cb::Gm::Gl::Gj::Eu::Et::Es::Ep::Eo::En::Em::Ej::EL::EK::EJ::Ei::Eh::Ef::Ee::Ed::Ec::Eb::Ea::D_::Hu::Ht::Hr::EI::D9::B_::BX::BU::BR::BP::(.agg KA)::u94::u95::u96::u97::u98::u99::PY::PX::PW::PV::PU::PS::PN::PL::PK::PG::PE::PD::Vw::ac1::ac0::acZ::acY::acX::acW::acV::acU::acT::acS::acR::acQ::acP::acO::acN::acM::acL::acK::acJ::acI::an9::an8::an7::an6::an5::u138::an4::an3::an2::an1::an0::anZ::anY::anX::anW::anV::anU::anT::anS::anR::anQ::anP::anO::anN::anM::anL::RD::LQ::LP::LM::LK::LJ::LH::LG::LD::LC::Lu::Ls::Lr::Lp::Lm::Ll::Lj::[]).toArray,[]⟩ wr) :
 Code.wp Tryz.prog (wO Tryz.f180 2) Q0 ⟨(x0::x1::x2::x3::(.pointer (some ⟨gw,0,none⟩))::x5::x6::x7::x8::(.pointer (some ⟨g9,0,none⟩))::(.pointer (some ⟨g9+1,0,none⟩))::(.pointer (some ⟨g9+1+1,0,none⟩))::BJ::Gp::C9::Hw::Ac::ER::EP::BH::EO::BG::CZ::CY::CX::Aa::z_::zZ::BF::BD::BA::Bz::Bv::Bq::Bo::Bl::Bj::Bh::Bg::Bf::EN::CW::CV::CS::CQ::CP::CO::CJ::CG::CB::Cm::Cj::Ci::Ce::Gn::EM::Ew::Bd::Cc::Cb::Gm::Gl::Gj::Eu::Et::Es::Ep::Eo::En::Em::Ej::EL::EK::EJ::Ei::Eh::Ef::Ee::Ed::Ec::Eb::Ea::D_::Hu::Ht::Hr::EI::D9::B_::BX::BU::BR::BP::(.agg KA)::(.int .i64 0)::Gi::Gh::Jh::Hq::Ho::qC::qB::qA::qy::qx::qw::qp::qo::qm::qj::qh::qg::rG::qO::Io::Il::Ik::Ij::Ii::Ih::Ig::Ie::Ic::Ib::Ia::H_::H9::H8::H7::H6::HY::Hz::Hy::EU::ET::ES::MQ::MP::MO::MN::MK::MI::MH::MG::MF::MC::Me::Md::Mc::L_::L9::L8::L6::LZ::LY::LX::LW::LV::LU::RD::LQ::LP::LM::LK::LJ::LH::LG::LD::LC::Lu::Ls::Lr::Lp::Lm::Ll::Lj::[]).toArray,[]⟩ w5:=by
 conv=>arg 2;whnf
 go_loopw [94] (fun i wr=>∃k:Nat,k≤64∧i =.int .i64 k∧Hid (aF wr gw 317 (iP WL))∧Hid (aF wr g9 319 #[.int .i64 6,.int .i64 11,.int .i64 25,.int .i64 0])∧Hid (aF wr (g9+1) 319 #[.int .i64 2,.int .i64 13,.int .i64 22,.int .i64 0])∧Hid (aF wr (g9+1+1) 279 (iP (eH (RV k))))∧Hid (ah w wr)) (fun i _=>64-(intOf i).toNat)
 case atStart=>exact⟨0,ω,rfl,ED,gQ,jZ,gI,oV⟩
 case round=>
  clear ED gQ jZ gI oV;obtain⟨k,hk,rfl,hB,gQ,jZ,gI,hG⟩:=hrel;by_cases hlt:k<64
  ·have hka:=hKat.o k hlt;have hka:=Sm hlt hka;have hwa:=(hB.o.cell k).trans (aaS.o k hlt);have hst:=Oy.o k;have hu:=yQ.o k;generalize RV k=u at *
   obtain⟨a,b',c',d,e,f,g',z'⟩:=u;have q0:=gI.o.c0;have q1:=gI.o.c1;have q2:=gI.o.c2;have q3:=gI.o.c3;have q4:=gI.o.c4;have q5:=gI.o.c5;have q6:=gI.o.c6;have q7:=gI.o.c7;have qz:=gI.o.lt;have d0:=jZ.o.cell 0;have d1:=jZ.o.cell 1;have d2:=jZ.o.cell 2;have d3:=jZ.o.cell 3;have dz:=jZ.o.lt;clear d0 d1 d2 d3 dz;have d0:=gQ.o.cell 0;have d1:=gQ.o.cell 1;have d2:=gQ.o.cell 2;have d3:=gQ.o.cell 3;have dz:=gQ.o.lt;have wz:=hB.o.lt;have cE:=fun W=>WR (x:=e) hu.2.2.2.2.1 W
   have cA:=fun W=>Qd (x:=a) hu.1 W
   generalize WL.getD k 0=Wk at *
   generalize KF k=Kk at *
   generalize NC:sig 6 11 25 e = SE at *
   generalize hSA:sig 2 13 22 a = SA at *
   have hch:=aiw (e:=e) (f:=f) (g:=g') hu.2.2.2.2.1;have hmj:=adJ (a:=a) (b:=b') (c:=c') hu.1 hu.2.1;have hT:((z':Int)+(SE:Int)+(((e &&&f) ^^^ (P_ e &&&g'):Nat):Int)+(Kk:Int)+(Wk:Int)) % 4294967296=((tOf ⟨a,b',c',d,e,f,g',z'⟩ Kk Wk:Nat):Int):=by
    unfold tOf t1;simp only[NC];omega
   have hU:((SA:Int)+(((a &&&b') ^^^ (a &&&c') ^^^ (b' &&&c'):Nat):Int)) % 4294967296=((uOf ⟨a,b',c',d,e,f,g',z'⟩:Nat):Int):=by
    unfold uOf;simp only[hSA];omega
   unfold RY at hst;simp only at hst;generalize tOf ⟨a,b',c',d,e,f,g',z'⟩ Kk Wk=T at *
   generalize uOf ⟨a,b',c',d,e,f,g',z'⟩=U at *
   generalize (e &&&f) ^^^ (P_ e &&&g')=CH at *
   generalize (a &&&b') ^^^ (a &&&c') ^^^ (b' &&&c')=MJ at *
   replace cE:=ζ cE;replace cA:=ζ cA;replace hst:=ζ hst;replace NC:=ζ NC;replace hSA:=ζ hSA;replace hu:=ζ hu;go_wp2_with fail;refine aH κ ?_;refine rK (.range 27) 0 ?_;iterate 5 refine aC ?_
   refine bQ (.int .u32 (SE:Int)) rfl χ (fun wq fU=> ?_) ?_
   ·obtain⟨rC,qE⟩:=dM fU;go_simp;exact Calls.mono (cE.out wq) (fun e w'' h=>h)
   go_simp;iterate 21 refine aC ?_
   refine aB ?_;refine aJ κ (fun wN hN hS=> ?_);clear q0 q1 q2 q3 q4 q5 q6 q7 qz d0 d1 d2 d3 dz wz hwa hka;replace hB:=ζ (hB.o.grows hN);replace gQ:=ζ (gQ.o.grows hN);replace jZ:=ζ (jZ.o.grows hN);replace gI:=ζ (gI.o.grows hN);replace hG:=ζ (hG.o.trans hN);clear hN hS;have q0:=gI.o.c0;have q1:=gI.o.c1;have q2:=gI.o.c2;have q3:=gI.o.c3;have q4:=gI.o.c4;have q5:=gI.o.c5;have q6:=gI.o.c6;have q7:=gI.o.c7;have qz:=gI.o.lt;have d0:=jZ.o.cell 0;have d1:=jZ.o.cell 1;have d2:=jZ.o.cell 2;have d3:=jZ.o.cell 3;have dz:=jZ.o.lt;go_wp2_with fail;refine aH κ ?_;refine rK (.range 23) 0 ?_;iterate 3 refine aC ?_
   refine bQ (.int .u32 (SA:Int)) rfl χ (fun wq fU=> ?_) ?_
   ·obtain⟨rC,qE⟩:=dM fU;go_simp;exact Calls.mono (cA.out wq) (fun e w'' h=>h)
   go_simp;iterate 19 refine aC ?_
   refine aB ?_;refine aJ κ (fun wN hN hS=> ?_);rename_i aw_;clear q0 q1 q2 q3 q4 q5 q6 q7 qz d0 d1 d2 d3 dz;replace hB:=ζ (hB.o.grows hN);replace gQ:=ζ (gQ.o.grows hN);replace jZ:=ζ (jZ.o.grows hN);replace gI:=ζ (gI.o.grows hN);replace hG:=ζ (hG.o.trans hN);clear hN hS;have q0:=gI.o.c0;have q1:=gI.o.c1;have q2:=gI.o.c2;have q3:=gI.o.c3;have q4:=gI.o.c4;have q5:=gI.o.c5;have q6:=gI.o.c6;have q7:=gI.o.c7;have qz:=gI.o.lt;have d0:=jZ.o.cell 0;have d1:=jZ.o.cell 1;have d2:=jZ.o.cell 2;have d3:=jZ.o.cell 3;have dz:=jZ.o.lt;have f0:=gI.o.frozen;go_wp2_with fail;refine aH κ ?_;refine rK [0,1] 1 ?_;iterate 2 refine aC ?_
   refine aB ?_;refine eF (i:=2) rfl κ κ (fun wN hN hS K' hK=> ?_);clear hS;replace gI:=ζ (gI.o.grows hN);replace hB:=ζ (hB.o.grows hN);replace gQ:=ζ (gQ.o.grows hN);replace jZ:=ζ (jZ.o.grows hN);replace hG:=ζ (hG.o.trans hN);clear q0 q1 q2 q3 q4 q5 q6 q7 qz d0 d1 d2 d3 dz f0 hN;obtain⟨w8,hcp,DI,hby⟩:=aqz gI.o;replace DI:=ζ DI;replace hby:=ζ hby;go_simp;refine hK.o _ _ ?_;clear hK hcp gI;replace hG:=ζ (hG.o.nI hby.o (by have:=FC.o;have:=dw.o;omega));replace hB:=ζ (hB.o.eY hby.o (by have:=FC.o;omega));replace gQ:=ζ (gQ.o.eY hby.o ω);replace jZ:=ζ (jZ.o.eY hby.o ω);clear hby;have q0:=DI.o.c0;have q4:=DI.o.c4;have f0:=DI.o.frozen 0;have f4:=DI.o.frozen 4;have qz:=DI.o.lt;have hD:((d:Int)+(T:Int)) % 4294967296=(((d + T) % 4294967296:Nat):Int):=ω;have hA':((T:Int)+(U:Int)) % 4294967296=(((T+U) % 4294967296:Nat):Int):=ω;have hBn:=(DI.o.aW 4 (.int .u32 (((d + T) % 4294967296:Nat):Int))).aW 0 (.int .u32 (((T+U) % 4294967296:Nat):Int));generalize (d + T) % 4294967296=D' at *
   generalize (T+U) % 4294967296=A' at *
   rw[yt,yt] at hBn;have Rz:=(hB.o.far (p:=⟨g9+1+1,4,none⟩) (by have:=FC.o;simp only;omega) (.int .u32 (D':Int))).far (p:=⟨g9+1+1,0,none⟩) (by have:=FC.o;simp only;omega) (.int .u32 (A':Int));have alO:=(gQ.o.far (p:=⟨g9+1+1,4,none⟩) (by simp only;omega) (.int .u32 (D':Int))).far (p:=⟨g9+1+1,0,none⟩) (by simp only;omega) (.int .u32 (A':Int));have ae1:=(jZ.o.far (p:=⟨g9+1+1,4,none⟩) (by simp only;omega) (.int .u32 (D':Int))).far (p:=⟨g9+1+1,0,none⟩) (by simp only;omega) (.int .u32 (A':Int));have qW:=(hG.o.setCell (p:=⟨g9+1+1,4,none⟩) (by have:=FC.o;have:=dw.o;simp only;omega) (.int .u32 (D':Int))).setCell (p:=⟨g9+1+1,0,none⟩) (by have:=FC.o;have:=dw.o;simp only;omega) (.int .u32 (A':Int));clear hB gQ jZ hG DI;replace hBn:=ζ hBn;replace Rz:=ζ Rz;replace alO:=ζ alO;replace ae1:=ζ ae1;replace qW:=ζ qW;go_wp2;go_roundw
   case rel=>exact⟨k+1,ω,ν,Rz,alO,ae1,by rw[hst.o];exact hBn,qW⟩
   case measure=>exact ψ
  ·obtain rfl:k=64:=ω;clear hB FC gQ jZ;go_wp2;exact⟨gI,hG⟩
theorem adh {xs ys zs:List Nat} {g gz:Nat} {rest:Value} {count:Int} {w w5:World} {Q0:Exit→Act→World→Prop} {x1 x2 x3 x4 x5 x6 x7 x8 x9 Iq BJ Gp C9 Hw Ac ER EP BH EO BG CZ CY CX Aa z_ zZ BF BD BA Bz Bv Bq Bo Bl Bj Bh Bg Bf EN CW CV CS CQ CP CO CJ CG CB Cm Cj Ci Ce Gn EM Ew Bd Cc Cb Gm Gl Gj Eu Et Es Ep Eo En Em Ej EL EK EJ Ei Eh Ef Ee Ed Ec Eb Ea D_ Hu Ht Hr EI D9 B_ BX BU BR BP IU IQ Gi Gh Jh Hq Ho qC qB qA qy qx qw qp qo qm qj qh qg rG qO Io Il Ik Ij Ii Ih Ig Ie Ic Ib Ia H_ H9 H8 H7 H6 HY Hz Hy EU ET ES MQ MP MO MN MK MI MH MG MF MC Me Md Mc L_ L9 L8 L6 LZ LY LX LW LV LU LQ LP LM LK LJ LH LG LD LC Lu Ls Lr Lp Lm Ll Lj:Value}
 (Nl:Hid (∀j,j < 8→xs.getD j 0=(ys.getD j 0+zs.getD j 0) % 4294967296)) (Ru:xs.length=ys.length) (hl8:ys.length=8) (hlR:zs.length=8) (aaU:Hid (aF w5 g 282 (qP ys rest count))) (gI:Hid (aF w5 gz 279 (iP zs))) (hby:Hid (w.grownBy w5 (some g))) (hgg:Hid (g≠gz))
 (YR:∀c a d v w,Q0 (.panic c) (Act.put a d v) w→Q0 (.panic c) a w)
 (pV:∀(u16 anK anJ anI anH anG anF anE anD anC anB anA anz anx anw anv anu ant:Value) (wr:World),Hid (aF wr g 282 (qP xs rest count))∧Hid (w.grownBy wr (some g))→Q0 (.exit 6) ⟨((.pointer (some ⟨g,0,none⟩))::x1::x2::x3::x4::x5::x6::x7::x8::x9::Iq::(.pointer (some ⟨gz,0,none⟩))::BJ::Gp::C9::Hw::u16::ER::EP::BH::EO::BG::CZ::CY::CX::Aa::z_::zZ::BF::BD::BA::Bz::Bv::Bq::Bo::Bl::Bj::Bh::Bg::Bf::EN::CW::CV::CS::CQ::CP::CO::CJ::CG::CB::Cm::Cj::Ci::Ce::Gn::EM::Ew::Bd::Cc::Cb::Gm::Gl::Gj::Eu::Et::Es::Ep::Eo::En::Em::Ej::EL::EK::EJ::Ei::Eh::Ef::Ee::Ed::Ec::Eb::Ea::D_::Hu::Ht::Hr::EI::D9::B_::BX::BU::BR::BP::IU::IQ::Gi::Gh::Jh::Hq::Ho::qC::qB::qA::qy::qx::qw::qp::qo::qm::qj::qh::qg::rG::qO::Io::Il::Ik::Ij::Ii::Ih::Ig::Ie::Ic::Ib::Ia::H_::H9::H8::H7::H6::HY::Hz::Hy::EU::ET::ES::MQ::MP::MO::MN::MK::MI::MH::MG::MF::MC::Me::Md::Mc::L_::L9::L8::L6::LZ::LY::LX::LW::LV::LU::anK::anJ::anI::anH::anG::anF::anE::anD::anC::anB::anA::anz::anx::anw::anv::anu::ant::[]).toArray,[]⟩ wr) :
 Code.wp Tryz.prog (wO Tryz.f180 3) Q0 ⟨((.pointer (some ⟨g,0,none⟩))::x1::x2::x3::x4::x5::x6::x7::x8::x9::Iq::(.pointer (some ⟨gz,0,none⟩))::BJ::Gp::C9::Hw::Ac::ER::EP::BH::EO::BG::CZ::CY::CX::Aa::z_::zZ::BF::BD::BA::Bz::Bv::Bq::Bo::Bl::Bj::Bh::Bg::Bf::EN::CW::CV::CS::CQ::CP::CO::CJ::CG::CB::Cm::Cj::Ci::Ce::Gn::EM::Ew::Bd::Cc::Cb::Gm::Gl::Gj::Eu::Et::Es::Ep::Eo::En::Em::Ej::EL::EK::EJ::Ei::Eh::Ef::Ee::Ed::Ec::Eb::Ea::D_::Hu::Ht::Hr::EI::D9::B_::BX::BU::BR::BP::IU::IQ::Gi::Gh::Jh::Hq::Ho::qC::qB::qA::qy::qx::qw::qp::qo::qm::qj::qh::qg::rG::qO::Io::Il::Ik::Ij::Ii::Ih::Ig::Ie::Ic::Ib::Ia::H_::H9::H8::H7::H6::HY::Hz::Hy::EU::ET::ES::MQ::MP::MO::MN::MK::MI::MH::MG::MF::MC::Me::Md::Mc::L_::L9::L8::L6::LZ::LY::LX::LW::LV::LU::(.int .i64 0)::LQ::LP::LM::LK::LJ::LH::LG::LD::LC::Lu::Ls::Lr::Lp::Lm::Ll::Lj::[]).toArray,[]⟩ w5:=by
 conv=>arg 2;whnf
 go_loopw [159] (fun i wx=>∃k:Nat,k≤8∧i =.int .i64 k∧Hid (aF wx g 282 (qP (xs.take k++ys.drop k) rest count))∧Hid (aF wx gz 279 (iP zs))∧Hid (w.grownBy wx (some g))) (fun i _=>8-(intOf i).toNat)
 case atStart=>exact⟨0,ω,rfl,aaU,gI,hby⟩
 case round=>
  clear aaU gI hby;obtain⟨k,hk,rfl,hS,hZ,hby⟩:=hrel;by_cases hlt:k<8
  ·have e1:=(hS.o.cell k).trans (Yo (by rw[Ae Ru ω];omega));rw[Zp Ru ω] at e1;have e2:=(hZ.o.cell k).trans (vZ ω);have hne:=Nl.o k hlt;have aG:=Jp Ru (k:=k) ω;have hSn:=fun x=>ac4 (l:=xs.take k++ys.drop k) (rest:=rest) (count:=count) (k:=k) (by rw[Ae Ru ω];omega) x
   have f1:=hS.o.frozen k;have z1:=hS.o.lt;have z2:=hZ.o.lt;generalize ys.getD k 0=Y at *
   generalize zs.getD k 0=Z at *
   have Np:((Y:Int)+(Z:Int)) % 4294967296=((xs.getD k 0:Nat):Int):=by rw[hne];omega
   generalize xs.getD k 0=X at *
   clear hne;replace aG:=ζ aG;replace hSn:=ζ hSn;go_wp2_with fail;refine aH κ ?_;refine rK (.range 13) 1 ?_;iterate 13 refine aC ?_
   refine aB ?_;refine eF (i:=13) rfl κ κ (fun wN hN hS K' hK=> ?_);clear hS;have e3:=hN.cell e1;have f3:wN.frozen? ⟨g,k,none⟩=false:=((dM hN).2 _ _ z1).trans f1;have BM:=(hS.o.grows hN).aW k (.int .u32 (X:Int));have hZ2:=(hZ.o.grows hN).far (p:=⟨g,k,none⟩) (by have:=hgg.o;simp only;omega) (.int .u32 (X:Int));have jX:w.grownBy (wN.setCell ⟨g,k,none⟩ (.int .u32 (X:Int))) (some g):=(hby.o.trans (hN.eY _)).trans (aj wN ⟨g,k,none⟩ _);rw[hSn.o,aG.o] at BM;replace BM:=ζ BM;replace hZ2:=ζ hZ2;replace jX:=ζ jX;clear hN hS hZ hby;go_simp;refine hK.o _ _ ?_;clear hK e3 f3 e1 e2 f1 z1 z2;generalize wN.setCell ⟨g,k,none⟩ (.int .u32 (X:Int))=w9 at *
   go_wp2;go_roundw
   case rel=>exact⟨k+1,ω,ν,BM,hZ2,jX⟩
   case measure=>exact ψ
  ·obtain rfl:k=8:=ω;have BM:=hS.o;rw[List.take_of_length_le ω,List.drop_of_length_le ω,List.append_nil] at BM;replace BM:=ζ BM;clear hS;go_wp2;exact⟨BM,hby⟩
theorem adP:mW.length=64:=δ
theorem ZJ {v:V8} (hv:v.ok) {A:Option Addr} {c:Nat} {b:List Nat} {g:Nat} {rest:Value} {count:Int} (w:World) (hA:cu w 1 h_ A 64 b) (hb:∀x∈b,x < 256)
 (hg:aF w g 282 (qP (eH v) rest count)) :
 Calls Tryz.prog 180 #[.pointer (some ⟨g,0,none⟩),.slice A 64 c] w fun e w'=>e =.returned (.tuple #[])∧aF w' g 282 (qP (eH (zM v b)) rest count)∧w.grownBy w' (some g):=by
 replace hA:=ζ hA;replace hb:=ζ hb;replace hg:=ζ hg;replace hv:=ζ hv;go_enter Tryz.func180,Tryz.ntmps180
 go_wp2;refine tY (Pr:=fun W=>Code.wp _ _ _ _ W) (fun w1 ug gu=> ?_);replace ug:aF w1 w.heap.size 317 (iP (nS [])):=ug.cast κ;obtain⟨gw,dw⟩:∃gw,gw=w.heap.size:=⟨_,rfl⟩;rw[←dw] at ug ⊢;replace dw:=ζ dw;replace ug:=ζ ug;replace gu:=ζ gu;refine adl hA hb dw ug gu π ?_;rintro u5 u17 u18 u19 u20 u21 u22 u23 u24 u25 u26 u27 u28 u29 u30 u31 u32 u33 u34 u35 u36 u37 u38 u39 u40 u41 u42 u43 u44 u45 u46 u47 u48 u49 u50 u51 u52 u53 u54 u55 wr ⟨hB,hG⟩;clear ug gu w1 hA;go_wp2;refine Qc (Pr:=fun W=>Code.wp _ _ _ _ W) (fun w3 uN yV qW=> ?_);obtain⟨g6,hg6⟩:∃g6,g6=wr.heap.size:=⟨_,rfl⟩;have Qu:=hB.o.lt;rw[←hg6] at uN yV Qu ⊢;replace hB:=ζ (hB.o.grows qW);have AV:=ζ (hG.o.trans qW);clear hG qW hg6;replace uN:=ζ uN;replace yV:=ζ yV;replace Qu:=ζ Qu;clear wr;refine adk hb dw Qu hB uN yV AV π ?_;rintro u8 u58 u59 u60 u61 u62 u63 u64 u65 u66 u67 u68 u69 u70 u71 u72 u73 u74 u75 u76 u77 u78 u79 u80 u81 u82 u83 u84 u85 u86 wr ⟨ED,hG⟩;clear hB uN yV AV Qu w3;have c8:∀W,ah w W→aF W g 282 (qP (eH v) rest count):=fun W h=>hg.o.grows h
 have uD:=c8 wr hG.o;have q0:=uD.c0;have q1:=uD.c1;have q2:=uD.c2;have q3:=uD.c3;have q4:=uD.c4;have q5:=uD.c5;have q6:=uD.c6;have q7:=uD.c7;have qz:=uD.lt;have cK:=fun W=>adQ W
 replace cK:=ζ cK;replace uD:=ζ uD;replace c8:=ζ c8;go_wp2_with fail;refine (cK.out _).mono ?_;rintro e w5 ⟨rfl,iU⟩;have gQ:aF w5 wr.heap.size 319 #[.int .i64 6,.int .i64 11,.int .i64 25,.int .i64 0]:=(((aF.new wr _ _).alloc _).alloc _).grows iU;have jZ:aF w5 (wr.heap.size+1) 319 #[.int .i64 2,.int .i64 13,.int .i64 22,.int .i64 0]:=((aF.ou wr _ _ _).alloc _).grows iU;have gI:aF w5 (wr.heap.size+1+1) 279 (iP (eH v)):=(aF.yH wr _ _ _ _).grows iU;have oV:ah wr w5:=((((ah.refl wr).alloc _).alloc _).alloc _).trans iU;obtain⟨g9,iq⟩:∃g9,g9=wr.heap.size:=⟨_,rfl⟩;have FC:=ED.o.lt;have aem:=uD.o.lt;rw[←iq] at gQ jZ gI FC aem ⊢;replace ED:=ζ (ED.o.grows oV);replace oV:=ζ (hG.o.trans oV);replace gQ:=ζ gQ;replace jZ:=ζ jZ;replace FC:=ζ FC;replace aem:=ζ aem;clear hG iq q0 q1 q2 q3 q4 q5 q6 q7 qz uD iU cK;clear wr;have hKat:∀k,k<64→(iP mW)[k]? = some (.int .u32 ((mW.getD k 0:Nat):Int)):=fun k hk=>vZ (by rw[adP];exact hk)
 have aaS:∀k,k<64→(iP (words 48 (b_ b)))[k]? = some (.int .u32 (((words 48 (b_ b)).getD k 0:Nat):Int)):=fun k hk=>vZ (by rw[uP,oH];exact hk)
 have Oy:∀k,oN mW (words 48 (b_ b)) (k+1) v = RY (oN mW (words 48 (b_ b)) k v) (mW.getD k 0) ((words 48 (b_ b)).getD k 0):=fun _=>rfl
 have aO:zM v b = aiT v (oN mW (words 48 (b_ b)) 64 v):=rfl;have yQ:∀k,(oN mW (words 48 (b_ b)) k v).ok:=fun k=>VH hv.o k
 have hr0:oN mW (words 48 (b_ b)) 0 v = v:=rfl;generalize hvF:zM v b = anl at *
 replace hvF:=ζ hvF;generalize iP mW=KA at *
 generalize words 48 (b_ b)=WL at *
 generalize hRV:(fun k=>oN mW WL k v)=RV at *
 have apO:∀k,oN mW WL k v = RV k:=fun k=>congrFun hRV k
 simp only[apO] at Oy aO yQ hr0;generalize hKf:(fun k=>mW.getD k 0)=KF at *
 have hKk:∀k,mW.getD k 0=KF k:=fun k=>congrFun hKf k
 simp only[hKk] at Oy hKat;clear apO hRV hKf hKk hb;have gI:Hid (aF w5 (g9+1+1) 279 (iP (eH (RV 0)))):=by rw[hr0];exact gI
 replace hKat:=ζ hKat;replace aaS:=ζ aaS;replace Oy:=ζ Oy;replace aO:=ζ aO;replace yQ:=ζ yQ;clear hr0;go_wp2;refine adi hKat aaS Oy yQ dw FC ED gQ jZ gI oV π ?_;intro u12 u13 u14 u15 u94 u95 u96 u97 u98 u99 PY PX PW PV PU PS PN PL PK PG PE PD Vw ac1 ac0 acZ acY acX acW acV acU acT acS acR acQ acP acO acN acM acL acK acJ acI an9 an8 an7 an6 an5 u138 an4 an3 an2 an1 an0 anZ anY anX anW anV anU anT anS anR anQ anP anO anN anM anL wr h;obtain⟨hZ,hG⟩:=h;clear ED gQ jZ gI oV hKat aaS Oy yQ;have Nl:=fun j hj=>aiS v (RV 64) (k:=j) hj
 rw[←aO.o] at Nl;have Ru:=(sH anl).trans (sH v).symm;have hl8:=sH v;have hlR:=sH (RV 64);have aaU:=c8.out wr hG.o;have hby:=hG.o.eY (some g);have hgg:Hid (g≠g9+1+1):=by
  show g≠g9+1+1
  have:=aem.o;omega
 generalize eH (RV 64)=zs at *
 generalize hxs:eH anl=xs at *
 replace hxs:=ζ hxs;generalize eH v = ys at *
 clear aO hG aem FC;replace Nl:=ζ Nl;replace aaU:=ζ aaU;replace hby:=ζ hby;go_wp2;refine adh Nl Ru hl8 hlR aaU hZ hby hgg π ?_;rintro u16 anK anJ anI anH anG anF anE anD anC anB anA anz anx anw anv anu ant wz ⟨BM,jX⟩;go_wp2;exact bodyPost_end (results_none rfl _ _ _) rfl ⟨rfl,by rw[hvF.o,hxs.o];exact BM.o,jX.o⟩
theorem U2:eX Tryz.prog 112 5 1 1:=eX.mk' (z:=.int .u8 0) Tryz.underlying112 κ rfl ω
theorem iD {α:Type} {w:World} {base k:Nat} {e:TypeId} {enc:α→List Value} {v:Value} {xs:List α} {P:Program} {ops:Array Oper} {rest:List Oper} {o:Oper} {ac:Act} {Q:Exit→Act→World→Prop} {ys:List α} {m bytes c:Nat} {t:TypeId} (T:eX P t e k bytes) (hgd:Region.wanted o (yielded ops ac.tmps)=true) (s y:Operand)
 (ho:o.op=.call {callee:=.builtin .append,args:= #[s,y],argTypes:= #[t,t]}) (h:Own w base e k enc v xs) (hs:ac.eval s = v) {A:Option Addr} (hy:ac.eval y =.slice A m c) (jT:cu w k enc A m ys)
 (hk:∀x,(enc x).length=k) (h1:∀x,∀u∈enc x,u.oneCell'=true) (hbase:base≤w.heap.size) (h63:xs.length+m≤maxLen) (hbytes:(xs.length+m)*bytes≤140737488355328)
 (hK:∀v' w',Own w' base e k enc v' (xs++ys)→w.grownBy w' v.ownBlock→(v'.ownBlock=v.ownBlock∨v'.ownBlock=some w.heap.size)→wpList P ops Q rest (ac.put o.dst v') w'):wpList P ops Q (o ::rest) ac w:=
 wpList_step fun _ dJ=>Own.DL (ops:=ops) T hgd s y ho h hs hy jT hk h1 hbase h63 hbytes fun v' w' a b c=>dJ _ _ (hK v' w' a b c)
theorem aF.aP {w w':World} {j:Nat} {row:Option Nat} {t:TypeId} {cs:Array Value} (h:aF w j t cs) (hg:w.grownBy w' row) (hne:some j≠row):aF w' j t cs:=
 (hg.block j h.lt hne).trans h
theorem ah.aP {a w w':World} {row:Option Nat} (h:ah a w) (hg:w.grownBy w' row) (hl:∀g,row=some g→a.heap.size≤g):ah a w':=
 ah.of ⟨hg.os.trans (Below.os h),hg.tape.trans (Below.tape h),hg.output.trans (Below.output h),Nat.le_trans h.size hg.size,fun j hj=>(hg.block j (Nat.lt_of_lt_of_le hj h.size) (fun e=>by have:=hl j e.symm;omega)).trans (Below.block h j hj)⟩
def fO (w:World) (g:Nat) (A:Option Addr) (n:Nat) (xs:List Nat):Prop:=cu w 1 h_ A n xs∧∀ad,A=some ad→0<n→ad.block≠g
theorem fO.eY {w w':World} {g n:Nat} {A:Option Addr} {xs:List Nat} (h:fO w g A n xs) (hg:w.grownBy w' (some g)):fO w' g A n xs:=
 ⟨⟨h.1.1,fun hn=>by
  obtain⟨b,off,e,hb,hc⟩:=h.1.2 hn;have hne:b≠g:=h.2 _ e hn;exact⟨b,off,e,Nat.lt_of_lt_of_le hb hg.size,fun i hi j u hu=>by
   rw[World.cell?_of_block (hg.block b hb (by simpa using hne))];exact hc i hi j u hu⟩⟩,h.2⟩
theorem fO.drop {w:World} {g n k b off:Nat} {xs:List Nat} (h:fO w g (some ⟨b,off,none⟩) n xs) (hk:k≤n):fO w g (some ⟨b,off+k,none⟩) (n - k) (xs.drop k):=by
 refine⟨⟨by rw[List.length_drop,h.1.1],fun hn=> ?_⟩,fun ad e hn=>by cases e;exact h.2 ⟨b,off,none⟩ rfl ω⟩;obtain⟨b',aah,e,hb,hc⟩:=h.1.2 ω;cases e
 refine⟨b,off+k,rfl,hb,fun i hi j u hu=> ?_⟩;rw[List.length_drop] at hi;rw[List.getElem_drop] at hu;have:=hc (k+i) ω j u hu;rwa [show off+(k+i)*1+j = off+k+i * 1+j by omega] at this
theorem Own.apart {w:World} {base g:Nat} {v:Value} {xs:List Nat} {t:TypeId} {cs:Array Value} (h:Own w base 5 1 h_ v xs) (hB:aF w g t cs) (ht:t≠5) :
 ∃A c,v =.slice A xs.length c∧xs.length≤c∧c≤maxLen∧fO w g A xs.length xs∧(∀j,v.ownBlock=some j→base≤j∧j≠g):=by
 have h2:=h;obtain⟨A,c,rfl,hc,hcm,hA⟩:=h.arr hkB;have hown:∀j,(Value.slice A xs.length c).ownBlock=some j→base≤j∧j≠g:=fun j hj=>by
  rcases h2.2 with⟨h0,_⟩ | ⟨g',cap,cur,hv,hb,hh,_⟩
  ·rw[h0] at hj;cases hj
  ·rw[hv] at hj;simp only[Value.ownBlock,Option.some.injEq] at hj;subst hj;refine⟨hb,fun e=> ?_⟩;subst e;unfold aF at hB;rw[hh] at hB;simp only[Option.some.injEq,Obj.cells.injEq] at hB;exact ht hB.2.1.symm
 refine⟨A,c,rfl,hc,hcm,⟨hA,fun ad e hn=> ?_⟩,hown⟩;subst e;obtain⟨b,off,e,_⟩:=hA.2 hn;cases e
 rcases h2.2 with⟨h0,_⟩ | ⟨g',cap,cur,hv,_⟩
 ·cases h0
 ·simp only[Value.slice.injEq,Option.some.injEq,Addr.mk.injEq] at hv;obtain⟨⟨hb,ho,_⟩,_⟩:=hv;subst hb;subst ho;exact (hown b (by simp[Value.ownBlock])).2
theorem Own.eY {α:Type} {w w':World} {base k g:Nat} {e:TypeId} {enc:α→List Value} {v:Value} {xs:List α} (h:Own w base e k enc v xs) (hg:w.grownBy w' (some g)) (hne:∀j,v.ownBlock=some j→j≠g):Own w' base e k enc v xs:=by
 refine⟨h.1,?_⟩;rcases h.2 with h2 | ⟨g',cap,cur,hv,hb,hh,r⟩
 ·exact .inl h2
 ·have hlt:g'<w.heap.size:=by
   rcases Nat.lt_or_ge g' w.heap.size with h | h
   ·exact h
   ·rw[Array.getElem?_eq_none h] at hh;cases hh
  have h3:g'≠g:=hne g' (by rw[hv];rfl);exact .inr ⟨g',cap,cur,hv,hb,(hg.block g' hlt (by simpa using h3)).trans hh,r⟩
theorem ac5 (v:V8) (rest:Value) (count x:Int):(qP (eH v) rest count).setIfInBounds 9 (.int .i64 x)=qP (eH v) rest x:=rfl
theorem uV (v:V8) (rest r:Value) (count:Int):(qP (eH v) rest count).setIfInBounds 8 r = qP (eH v) r count:=rfl
theorem UK (n:Nat) (v:V8) (l:List Nat):blocks (n + 1) v l = zM (blocks n v l) ((l.drop (64*n)).take 64):=by
 rw[KH];rfl
def IW (g:Nat) (w:World):Nat:=match w.cell? ⟨g,8,none⟩ with
 | some (.slice _ n _)=>n
 | _=>0
theorem rQ {g n c:Nat} {w:World} {A:Option Addr} (h:w.cell? ⟨g,8,none⟩=some (.slice A n c)):IW g w = n:=by unfold IW;rw[h]
theorem Ze {W0:World} {g:Nat} {v:V8} (hv:v.ok) {rest:Value} {xs ys:List Nat} {count:Int} {A:Option Addr} {m c:Nat} (w:World) (h0:ah W0 w) (hg0:W0.heap.size≤g)
 (hS:aF w g 282 (qP (eH v) rest count)) (hO:Own w W0.heap.size 5 1 h_ rest xs) (hy:fO w g A m ys) (hb:∀x∈xs++ys,x < 256) (hlen:xs.length+m≤1099511627776) (hc1:0≤count) (hc2:count≤1099511627776) :
 Calls Tryz.prog 145 #[.pointer (some ⟨g,0,none⟩),.slice A m c] w fun e w'=>∃(n:Nat) (A':Option Addr) (c':Nat),e =.returned (.int .i64 (count+m))∧64*n≤(xs++ys).length∧(xs++ys).length<64*n + 64∧
  aF w' g 282 (qP (eH (blocks n v (xs++ys))) (.slice A' ((xs++ys).length-64*n) c') (count+m))∧fO w' g A' ((xs++ys).length-64*n) ((xs++ys).drop (64*n))∧(xs++ys).length-64*n≤c'∧c'≤maxLen∧ah W0 w':=by
 have nM:=hy.1.1;have d8:w.cell? ⟨g,8,none⟩=some rest:=hS.cell 8;have d9:w.cell? ⟨g,9,none⟩=some (.int .i64 count):=hS.cell 9;have f9:=hS.frozen 9;have sz:=hS.lt;have hby:=aj w ⟨g,9,none⟩ (.int .i64 (count+(m:Int)));obtain⟨A0,c0,hr0,_,_,_,hown⟩:=hO.apart hS δ;have tq:=hO.eY hby (fun j hj=>(hown j hj).2);have hy1:=hy.eY hby;have hS1:=hS.aW 9 (.int .i64 (count+(m:Int)));rw[ac5] at hS1;have h01:=h0.nI hby hg0;have hbase:=h01.size;have h63:xs.length+m≤maxLen:=by unfold maxLen;omega
 have hbytes:(xs.length+m)*1≤140737488355328:=ω;replace tq:=ζ tq;replace hy1:=ζ hy1;replace hb:=ζ hb;replace h01:=ζ h01;replace hS1:=ζ hS1;replace hv:=ζ hv;replace hown:=ζ hown;have hcm: -9223372036854775808≤count+(m:Int)∧count+(m:Int)≤9223372036854775807:=ω;clear hO hy hS h0 hr0 hby;go_enter Tryz.func145,Tryz.ntmps145
 go_wp2_with (refine iD U2 rfl (.tmp 20) (.tmp 21) rfl tq.o rfl rfl hy1.o.1 hkB Ws hbase h63 hbytes ?_;intro v2 w2 l9 jX hv2;(have BM:=hS1.o.aP jX (fun e=>(hown.o g e.symm).2 rfl));(have h02:=h01.o.aP jX (fun j hj=>(hown.o j hj).1));(obtain⟨A2,c2,ad_,Vb,TN,pW,hown2⟩:=l9.apart BM δ);subst ad_;(have e8:=BM.cell 8);(have f8:=BM.frozen 8);(have z8:=BM.lt);(have kZ:=aj w2 ⟨g,8,none⟩ (.slice A2 (xs++ys).length c2));(have ND:=BM.aW 8 (.slice A2 (xs++ys).length c2));(rw[uV] at ND);(have Rz:=pW.eY kZ);(have h03:=h02.nI kZ hg0);(replace ND:=ζ ND);(replace Rz:=ζ Rz);(replace h03:=ζ h03);(have hzl:(xs++ys).length≤1099511627776:=by rw[List.length_append];omega);(generalize hzs:xs++ys=zs at *);(replace hzs:=ζ hzs);(generalize hL:zs.length=L at *);(replace hL:=ζ hL);clear l9 jX hv2 BM h02 hown2 kZ pW tq hS1 hy1 h01 hown d8 d9 f9 sz h63 hbytes hbase);generalize w2.setCell ⟨g,8,none⟩ (.slice A2 L c2)=w3 at *
 clear e8 f8 z8;go_loopw [] (fun wr=>∃(n:Nat) (A':Option Addr) (c':Nat),64*n≤L∧Hid (aF wr g 282 (qP (eH (blocks n v zs)) (.slice A' (L-64*n) c') (count+m)))∧Hid (fO wr g A' (L-64*n) (zs.drop (64*n)))∧L-64*n≤c'∧c'≤maxLen∧Hid (ah W0 wr)) (fun wr=>IW g wr)
 case atStart=>exact⟨0,A2,c2,ω,ND,Rz,ω,TN,h03⟩
 case round=>
  clear ND Rz h03;obtain⟨n,A',c',hn,hS,hB,zF,apv,h0⟩:=hrel;have oC:=rQ (g:=g) (w:=wr) (A:=A') (n:=L-64*n) (c:=c') (hS.o.cell 8);have e8:wr.cell? ⟨g,8,none⟩=some (.slice A' (L-64*n) c'):=hS.o.cell 8;have z8:=hS.o.lt;by_cases hlt:64≤L-64*n
  ·obtain⟨b,off,rfl,hbl,_⟩:=hB.o.1.2 ω;have aqc:=hB.o.1.take (m:=64) hlt;have zI:∀x∈(zs.drop (64*n)).take 64,x < 256:=fun x hx=>hb.o x (List.mem_of_mem_drop (List.mem_of_mem_take hx))
   have cR:=ZJ (Pg n zs hv.o) wr aqc zI hS.o (c:=c');rw[←UK] at cR;replace cR:=ζ cR;clear aqc zI;by_cases hc:c'=64
   ·subst hc;go_wp2_with fail;refine (cR.out).mono ?_;rintro e w5 ⟨rfl,hS5,Nv⟩;have J8:=hB.o.eY Nv;have h05:=h0.o.nI Nv hg0;have g8:w5.cell? ⟨g,8,none⟩=some (.slice (some ⟨b,off,none⟩) (L-64*n) 64):=hS5.cell 8;have f8:=hS5.frozen 8;have y8:=hS5.lt;have hz0:L-64*(n + 1)=0:=ω;have hS6:=hS5.aW 8 (.slice (some ⟨b,off,none⟩) 0 0);rw[uV] at hS6;have xX:=aj w5 ⟨g,8,none⟩ (.slice (some ⟨b,off,none⟩) 0 0);have uN:fO (w5.setCell ⟨g,8,none⟩ (.slice (some ⟨b,off,none⟩) 0 0)) g (some ⟨b,off,none⟩) 0 ((zs.drop (64*n)).drop 64):=by
     have h0:L-64*n - 64=0:=ω;have h1:(zs.drop (64*n)).drop 64=[]:=List.eq_nil_of_length_eq_zero (by rw[List.length_drop,List.length_drop,hL.o];exact h0);rw[h1];exact⟨cu.jA,fun _ _ h=>absurd h ω⟩
    have h06:=h05.nI xX hg0;have Xk:=rQ (A:=some ⟨b,off,none⟩) (n:=0) (c:=0) (hS6.cell 8);rw[List.drop_drop] at uN;rw[show 64*n + 64=64*(n + 1) by omega] at uN;replace hS6:=ζ hS6;replace uN:=ζ uN;replace h06:=ζ h06;replace Xk:=ζ Xk;replace oC:=ζ oC;clear J8 h05 Nv xX hS5 cR;go_wp2;go_roundw
    case rel=>exact⟨n + 1,some ⟨b,off,none⟩,0,ω,by rw[hz0];exact hS6,by rw[hz0];exact uN,ω,by unfold maxLen;omega,h06⟩
    case measure=>rw[Xk.o,oC.o];omega
   ·skip
    go_wp2_with fail;refine (cR.out).mono ?_;rintro e w5 ⟨rfl,hS5,Nv⟩;have J8:=hB.o.eY Nv;have h05:=h0.o.nI Nv hg0;have g8:w5.cell? ⟨g,8,none⟩=some (.slice (some ⟨b,off,none⟩) (L-64*n) c'):=hS5.cell 8;have f8:=hS5.frozen 8;have y8:=hS5.lt;have hS6:=hS5.aW 8 (.slice (some ⟨b,off+64,none⟩) (L-64*n - 64) (c'-64));rw[uV] at hS6;have xX:=aj w5 ⟨g,8,none⟩ (.slice (some ⟨b,off+64,none⟩) (L-64*n - 64) (c'-64));have uN:fO (w5.setCell ⟨g,8,none⟩ (.slice (some ⟨b,off+64,none⟩) (L-64*n - 64) (c'-64))) g (some ⟨b,off+64,none⟩) (L-64*n - 64) ((zs.drop (64*n)).drop 64):=(J8.drop hlt).eY xX;have h06:=h05.nI xX hg0;have Xk:=rQ (A:=some ⟨b,off+64,none⟩) (n:=L-64*n - 64) (c:=(c'-64)) (hS6.cell 8);rw[List.drop_drop] at uN;rw[show L-64*n - 64=L-64*(n + 1) by omega,show 64*n + 64=64*(n + 1) by omega] at uN;rw[show L-64*n - 64=L-64*(n + 1) by omega] at hS6;replace hS6:=ζ hS6;replace uN:=ζ uN;replace h06:=ζ h06;replace Xk:=ζ Xk;replace oC:=ζ oC;clear J8 h05 Nv xX hS5 cR;go_wp2;go_roundw
    case rel=>exact⟨n + 1,some ⟨b,off+64,none⟩,(c'-64),ω,hS6,uN,ω,by unfold maxLen at apv ⊢;omega,h06⟩
    case measure=>rw[Xk.o,oC.o];omega
  ·have e9:wr.cell? ⟨g,9,none⟩=some (.int .i64 (count+(m:Int))):=hS.o.cell 9;go_wp2;go_ret;rw[hzs.o,hL.o];exact⟨n,A',c',rfl,hn,ω,hS.o,hB.o,zF,apv,h0.o⟩
end Go.Proofs.YtbhikkgpcmkonaaGreatDoor
