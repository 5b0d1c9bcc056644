/- Parts: ShaO KeyA KeyB AlrF AlrG IdsA IdsB IdsC -/
import Derived.Test.YteojanlajhebhaaGreatDoorGs0
import Derived.Test.YteojanlajhebhaaGreatDoorGs10
import Derived.Test.YteojanlajhebhaaGreatDoorGs5
import Derived.Test.YteojanlajhebhaaGreatDoorGs9
import Derived.Test.YteojanlajhebhaaGreatDoorGs3
import Derived.Laws.CopyRow
import Derived.Laws.Externs
import Derived.Lib.AppendZeros
set_option maxRecDepth 100000
set_option maxHeartbeats 12800000
namespace Go.Proofs.YteojanlajhebhaaGreatDoor
open Go.RowKit
theorem Xd {Pr:World→Prop} {w:World} {t1 t2:TypeId} {z1 z2 c1 c2:Array Value} (h:∀w1,aS w1 w.heap.size t1 c1→aS w1 (w.heap.size+1) t2 c2→ah w w1→Pr w1):Pr ((((w.alloc (.cells z1 t1)).alloc (.cells z2 t2)).setRow w.heap.size c1).setRow (w.heap.size+1) c2):=by
 have h1:aS ((w.alloc (.cells z1 t1)).alloc (.cells z2 t2)) w.heap.size t1 z1:=(aS.new w t1 z1).alloc _;have h2:aS ((w.alloc (.cells z1 t1)).alloc (.cells z2 t2)) (w.heap.size+1) t2 z2:=aS.vO w _ _ _;have g1:=aF ((w.alloc (.cells z1 t1)).alloc (.cells z2 t2)) w.heap.size c1;have g2:=aF (((w.alloc (.cells z1 t1)).alloc (.cells z2 t2)).setRow w.heap.size c1) (w.heap.size+1) c2;have b1:aS (((w.alloc (.cells z1 t1)).alloc (.cells z2 t2)).setRow w.heap.size c1) w.heap.size t1 c1:=setRow_heap _ _ _ _ _ _ h1;refine h _ (b1.iM g2 ω) (setRow_heap _ _ _ _ _ _ (h2.iM g1 ω)) ?_;exact ((((ah.refl w).alloc _).alloc _).kL g1 (Nat.le_refl _)).kL g2 (Nat.le_succ _)
theorem J4 {P:Program} {o:Oper} {a:Act} {w:World} (ty:TypeId) (x:Operand) (ho:o.op=.load ty x)
 (g:Nat) (hx:a.eval x =.pointer (some ⟨g,0,none⟩)) (t:TypeId) (cs:Array Value) (d:TypeDesc) (hg:aS w g t cs)
 (hu:P.underlying ty=some d) (hd:(match d with | .struct _ | .array _ _=>true | _=>false)=true) (hi:(P.info? ty).map (·.size)=some cs.size) :
 (execOp a.eval o).run P w =.ok (.value (.agg cs)) w:=by
 unfold execOp;simp only[ho,hx,Instr.loadAt,Instr.sureAddr,Sem.run_bind,Sem.run_pure,Result.andThen_ok,run_loadVar_row w g t ty cs (0,0) d hg hu hd hi]
theorem ana {v:V8} (hv:v.ok) (i:Nat):Wd ((b_ v).getD i 0):=by
 have h:∀x∈b_ v,Wd x:=by
  intro x hx;simp only[b_,List.mem_cons,List.not_mem_nil,or_false] at hx;obtain⟨h1,h2,h3,h4,h5,h6,h7,h8⟩:=hv;rcases hx with rfl | rfl | rfl | rfl | rfl | rfl | rfl | rfl <;> assumption
 rw[List.getD_eq_getElem?_getD];cases hk:(b_ v)[i]? with
 | none=>exact Wd.of σ
 | some x=>exact h x (List.mem_of_getElem? hk)
theorem QX (xs:List Nat):(dJ xs).all (·.oneCell')=true:=by simp[dJ,Value.oneCell']
def lenOf:Value→Nat
 | .slice _ n _=>n
 | _=>0
theorem aei {A:Option Addr} {m c:Nat} {bs:List Nat} (w:World) (hA:dH w 1 kE A m bs) (hb:∀x∈bs,x < 256) (hm:m≤1099511627776) :
 Calls Tryz.prog 78 #[.slice A m c] w fun e w'=>e =.returned (.agg (qY (P6 bs)))∧ah w w':=by
 have qA:=hA.1;have cS:=fun W=>W9 W
 have cK:=fun W=>Y_ W
 have h64:(dJ jh).size=64:=by rw[tC,L_]
 have i64:(Tryz.prog.info? 159).map (·.size)=some (dJ jh).size:=by rw[h64];kernel_rfl
 have o64:=QX jh;rw[show Kw=b_ iJ from rfl] at cS;have i8:(Tryz.prog.info? 157).map (·.size)=some (dJ (b_ iJ)).size:=by rw[tC];kernel_rfl
 have o8:=QX (b_ iJ);have h8:(dJ (b_ iJ)).size=8:=rfl;generalize hKA:dJ jh=KA at *
 generalize hSA:dJ (b_ iJ)=SA at *
 replace hKA:=ζ hKA;replace hSA:=ζ hSA;replace i64:=ζ i64;replace o64:=ζ o64;replace h64:=ζ h64;replace i8:=ζ i8;replace o8:=ζ o8;replace h8:=ζ h8;replace cS:=ζ cS;replace cK:=ζ cK;replace hA:=ζ hA;replace hb:=ζ hb;go_enter Tryz.func78,Tryz.ntmps78
 go_wp2_with fail;refine qy (Pr:=fun W=>Calls _ _ _ W _) (fun w1 mY mX=> ?_);replace mY:aS w1 w.heap.size 130 (qY (List.replicate 32 0)):=mY.cast κ;obtain⟨g2,hg2⟩:∃g2,g2=w.heap.size:=⟨_,rfl⟩;rw[←hg2] at mY ⊢;replace hg2:=ζ hg2;refine (cS.out _).mono ?_;rintro e w2 ⟨rfl,iC⟩;go_wp2_with fail;refine (cK.out _).mono ?_;rintro e w3 ⟨rfl,uj⟩;have hG:=mX.trans (iC.trans uj);have E8:=hA.o.keep hG;have hR:=(mY.grows iC).grows uj;have anT:=ζ hR.lt;have asF:=ζ hG.size;clear hA mX iC uj mY cS cK;replace hG:=ζ hG;replace E8:=ζ E8;replace hR:=ζ hR;have hZ8:∀(o:Obj),aS ((w3.alloc (.cells #[.int .u32 0,.int .u32 0,.int .u32 0,.int .u32 0,.int .u32 0,.int .u32 0,.int .u32 0,.int .u32 0] 157)).alloc o) w3.heap.size 157 #[.int .u32 0,.int .u32 0,.int .u32 0,.int .u32 0,.int .u32 0,.int .u32 0,.int .u32 0,.int .u32 0]:=fun o=>(aS.new w3 _ _).alloc o
 replace hZ8:=ζ hZ8;have h63:([]:List Nat).length+m≤maxLen:=by unfold maxLen;simp;omega
 have hbytes:(([]:List Nat).length+m)*1≤140737488355328:=by simp;omega
 go_wp2_with (first | (refine wpList_store_row rfl 157 (.tmp 3) (.tmp 15) rfl w3.heap.size SA rfl rfl 157 _ (hZ8.o _) i8.out (by rw[h8.o];rfl) o8.out ?_) | (refine wpList_store_row rfl 159 (.tmp 4) (.tmp 16) rfl (w3.heap.size+1) KA rfl rfl 159 _ ((aS.vO w3 _ _ _).iM (aF _ _ _) ω) i64.out (by rw[h64.o];rfl) o64.out ?_;refine Xd (Pr:=fun W=>wpList _ _ _ _ _ W) (fun w4 Hy hB4 CQ=> ?_);(have hA4:=ζ (E8.o.keep CQ));(replace hR:=ζ (hR.o.grows CQ));(replace hG:=ζ (hG.o.trans CQ));(replace Hy:=ζ Hy);(replace hB4:=ζ hB4);(have avw:=ζ (Nat.lt_of_lt_of_le (Nat.lt_succ_self (w3.heap.size+1)) hB4.o.lt));clear CQ E8) | (at_builtin;first | (refine fZ Vh rfl (.const (.slice none 0 0)) (.tmp 17) rfl (Own.iH w4 w4.heap.size _ _ kE) rfl rfl hA4.o Yy U0 (Nat.le_refl _) h63 hbytes ?_;intro v5 w5 jk jG SG;(have vV:=ζ ((ah.refl w4).bH jG (fun j hj=>by cases hj)));(replace jk:=ζ jk);clear SG jG) | (refine fZ Vh rfl (.tmp 18) (.tmp 19) rfl (jk.o.alloc (.cells #[.int .u8 128] 5)) rfl rfl (dH.jC (x:=128) (aS.new w5 5 #[.int .u8 128])) Yy U0 (vV.o.alloc (.cells #[.int .u8 128] 5)).size (by unfold maxLen;simp;omega) (by simp;omega) ?_;intro v6 w6 Nq vU hv6;(have JY:=ζ ((vV.o.alloc (.cells #[.int .u8 128] 5)).bH vU jk.o.eH));(replace Nq:=ζ Nq);clear hv6 vU)));obtain⟨g3,hg3⟩:∃g3,g3=w3.heap.size:=⟨_,rfl⟩;rw[←hg3] at Hy hB4 avw anT asF ⊢;clear hg3 hZ8 jk vV hA4;replace h63:=ζ h63;replace hbytes:=ζ hbytes;have Pg:Hid (Own w6 w4.heap.size 5 1 kE v6 (bs++[128]++List.replicate 0 0)):=by simpa using Nq
 clear Nq;have hz:zeros m < 64:=by unfold zeros;omega
 go_loopw [5] (fun v wr=>∃j:Nat,j≤zeros m∧Hid (Own wr w4.heap.size 5 1 kE v (bs++[128]++List.replicate j 0))∧Hid (ah w4 wr)) (fun v _=>m + 200-lenOf v)
 case atStart=>exact⟨0,ω,Pg,JY⟩
 case round=>
  clear Pg JY;obtain⟨j,hj,hO,JY⟩:=hrel;obtain⟨A1,c1,pR,yc,hcm,Oh⟩:=hO.o.arr Yy;have Qi:(bs++[128]++List.replicate j 0).length=m + 1+j:=by simp;omega
  rw[Qi] at pR yc Oh;obtain⟨L,hL⟩:∃L,L=m + 1+j:=⟨_,rfl⟩;rw[←hL] at pR yc Oh Qi;subst pR;by_cases hlt:j < zeros m
  ·have amM:¬((L:Int) % 64=56):=by unfold zeros at hlt;omega
   have aeH:¬(L % 64=56):=by unfold zeros at hlt;omega
   have hLb:L≤1099511628000:=ω;have hLm:L<m + 200:=ω;replace hL:=ζ hL;clear yc hcm Oh;go_wp2_with (at_builtin;(refine fZ Vh rfl (.tmp 25) (.tmp 26) rfl (hO.o.alloc (.cells #[.int .u8 0] 5)) rfl rfl (dH.jC (x:=0) (aS.new _ 5 #[.int .u8 ((0:Nat):Int)])) Yy U0 (JY.o.alloc (.cells #[.int .u8 0] 5)).size (by unfold maxLen;simp only[Qi];omega) (by simp only[Qi];omega) ?_;intro v7 w7 ML akq hv7;(have Z8:=ζ ((JY.o.alloc (.cells #[.int .u8 0] 5)).bH akq hO.o.eH));(obtain⟨A2,c2,Xp,-,-,-⟩:=ML.arr Yy);(rw[List.length_append,Qi] at Xp);(simp only[List.length_cons,List.length_nil,Nat.zero_add] at Xp);subst Xp;(replace ML:=ζ ML);clear hv7 akq));go_roundw
   case rel=>exact⟨j + 1,ω,by
    rw[List.replicate_succ',←List.append_assoc];exact ML,Z8⟩
   case measure=>simp only[lenOf];omega
  ·have hjz:j = zeros m:=ω;have amM:(L:Int) % 64=56:=by unfold zeros at hjz;omega
   have aeH:L % 64=56:=by unfold zeros at hjz;omega
   subst hjz;generalize hP:bs++[128]++List.replicate (zeros m) 0=P0 at *
   replace hP:=ζ hP;have hLb:L≤1099511628000:=ω;replace hL:=ζ hL;have FK:0≤(m:Int)∧(m:Int)≤1099511627776:=ω;clear yc hcm Oh;have hOk:Hid (Own wr w4.heap.size 5 1 kE (.slice A1 L c1) (P0++(Vf (m * 8)).take 0)):=by simpa using hO
   clear hO;go_wp2;go_loopw [5,7] (fun v i wr=>∃k:Nat,k≤8∧i =.int .i64 (7-(k:Int))∧Hid (Own wr w4.heap.size 5 1 kE v (P0++(Vf (m * 8)).take k))∧Hid (ah w4 wr)) (fun _ i _=>(intOf i + 1).toNat)
   case atStart=>exact⟨0,ω,rfl,hOk,JY⟩
   case round=>
    clear hOk JY;obtain⟨k,hk,rfl,hO,JY⟩:=hrel;by_cases hlt:k<8
    ·have hk7:(0:Int)≤7-(k:Int):=ω;go_wp2;go_loopw [8,9] (fun n i wx=>∃t:Nat,t≤7-k∧i =.int .i64 t∧n =.int .u64 ((m * 8 / 256 ^ t:Nat):Int)∧wx=wr) (fun _ i _=>7-(intOf i).toNat)
     case atStart=>exact⟨0,ω,rfl,by simp,rfl⟩
     case round=>
      obtain⟨t,ht,rfl,rfl,rfl⟩:=hrel;by_cases xJ:t < 7-k
      ·have hdv:m * 8 / 256 ^ (t + 1)=m * 8 / 256 ^ t / 256:=by rw[Nat.pow_succ,Nat.div_div_eq_div_mul]
       have aoP:(t:Int)<7-(k:Int):=ω;have hYb:m * 8 / 256 ^ (t + 1)≤m * 8:=Nat.div_le_self _ _;generalize hY:m * 8 / 256 ^ (t + 1)=Y at *
       generalize m * 8 / 256 ^ t = X at *
       have hdi:(X:Int) / 256=((Y:Nat):Int):=by rw[hdv];omega
       have hwr:IntKind.u64.wrap (Y:Int)=(Y:Int):=by rw[IntKind.wrap_u64];omega
       replace hdv:=ζ hdv;replace hY:=ζ hY;clear hYb;go_wp2;go_roundw
       case rel=>exact⟨t + 1,ω,ν,by rw[hY.o],trivial⟩
       case measure=>exact ψ
      ·obtain rfl:t = 7-k:=ω;have aoP:¬((((7-k:Nat):Nat):Int)<7-(k:Int)):=ω;have hpw:256 ^ (7-k)=2 ^ (56-8*k):=by
        rw[show (256:Nat)=2 ^ 8 from rfl,←Nat.pow_mul,show 8*(7-k)=56-8*k by omega]
       have ajT:(Vf (m * 8)).take (k+1)=(Vf (m * 8)).take k++[m * 8 / 256 ^ (7-k) % 256]:=by
        rw[List.take_add_one,hpw];simp[Vf,hlt]
       have hval:((m * 8 / 256 ^ (7-k):Nat):Int) % 256=((m * 8 / 256 ^ (7-k) % 256:Nat):Int):=ω;generalize m * 8 / 256 ^ (7-k) % 256=Z at *
       generalize m * 8 / 256 ^ (7-k)=Y at *
       clear hpw;replace ajT:=ζ ajT;obtain⟨A1,c1,pR,-,-,-⟩:=hO.o.arr Yy;have hLk:(P0++(Vf (m * 8)).take k).length=L+k:=by rw[List.length_append,Qi,List.length_take];simp[Vf];omega
       rw[hLk] at pR;have awo:L+k≤1099511628010:=ω;generalize L+k=Lk at *
       subst pR;generalize hip:((7-k:Nat):Int)=ip at *
       replace hip:=ζ hip;go_wp2_with (at_builtin;(refine fZ Vh rfl (.tmp 44) (.tmp 48) rfl (hO.o.alloc (.cells #[.int .u8 (Z:Int)] 5)) rfl rfl (dH.jC (x:=Z) (aS.new _ 5 #[.int .u8 (Z:Int)])) Yy U0 (JY.o.alloc (.cells #[.int .u8 (Z:Int)] 5)).size (by unfold maxLen;simp only[hLk];omega) (by simp only[hLk];omega) ?_;intro v7 w7 ML akq hv7;(have Z8:=ζ ((JY.o.alloc (.cells #[.int .u8 (Z:Int)] 5)).bH akq hO.o.eH));(replace ML:=ζ ML);clear hv7 akq));refine⟨⟨k+1,ω,ω,?_⟩,?_⟩
       ·rw[ajT.o,←List.append_assoc];exact ML
       ·simp only[intOf];omega
    ·obtain rfl:k=8:=ω;obtain⟨e78,h78,az4⟩:∃e:Int,7-((8:Nat):Int)=e∧¬(0≤e):=⟨_,rfl,δ⟩;rw[h78];replace h78:=ζ h78;have apA:m * 8 % 18446744073709551616=m * 8:=ω;have aj0:P0++(Vf (m * 8)).take 8=bs++n_ m:=by
      rw[List.take_of_length_le (by simp[Vf]),←hP.o];unfold n_;rw[apA];simp
     obtain⟨A2,c2,pR,yc,hcm,Oh,-⟩:=hO.o.apart (Hy.o.grows JY.o) δ;rw[aj0] at hO pR yc Oh;have hlm:=aep m;have avv:(bs++n_ m).length % 64=0:=by rw[List.length_append];omega
     have hlb:(bs++n_ m).length≤1099511628010:=by rw[List.length_append];omega
     have SY:∀x∈bs++n_ m,x < 256:=by
      intro x hx;rcases List.mem_append.1 hx with h | h
      ·exact hb.o x h
      ·unfold n_ at h;rcases List.mem_cons.1 h with h | h
       ·omega
       ·rcases List.mem_append.1 h with h | h
        ·have:=List.eq_of_mem_replicate h;omega
        ·exact aav _ x h
     have aQ:P6 bs=uU (blocks ((bs++n_ m).length / 64) iJ (bs++n_ m)):=by
      rw[←qA];rfl
     generalize bs++n_ m = XS at *
     clear aj0 hlm hP Qi;generalize hLX:XS.length=LX at *
     subst pR;replace aQ:=ζ aQ;replace SY:=ζ SY;replace hcm:=ζ hcm;replace Oh:=ζ Oh;replace yc:=ζ yc;have hBq:Hid (aS wr g3 157 (dJ (b_ (blocks 0 iJ XS)))):=by
      have:=Hy.o.grows JY.o;rw[←hSA.o] at this;exact this
     have asA:Hid (g3<w4.heap.size):=Hy.o.lt;have hby:=ζ (JY.o.iM (some g3));clear JY;go_wp2;go_loopw [10] (fun i wx=>∃q:Nat,64*q≤LX∧i =.int .i64 ((64*q:Nat):Int)∧Hid (aS wx g3 157 (dJ (b_ (blocks q iJ XS))))∧Hid (iL wx g3 A2 LX XS)∧Hid (w4.grownBy wx (some g3))) (fun i _=>LX-(intOf i).toNat)
     case atStart=>exact⟨0,ω,rfl,hBq,Oh,hby⟩
     case round=>
      clear hBq Oh hby;obtain⟨q,hq,rfl,hBq,Oh,hby⟩:=hrel;by_cases hql:64*q<LX
      ·obtain⟨b,off,rfl,hbl,hat⟩:=Oh.o.1.2 ω;have akz:=Jy q XS Jm;have hAr:=((Oh.o.drop (k:=64*q) ω).1.take (m:=64) ω);have jY:∀x∈(XS.drop (64*q)).take 64,x < 256:=fun x hx=>SY.o x (List.mem_of_mem_drop (List.mem_of_mem_take hx))
       have hsu:=PE q iJ XS;have cR:∀W,ah wr W→Calls Tryz.prog 112 #[.agg (dJ (b_ (blocks q iJ XS))),.agg KA,.slice (some ⟨b,off+64*q,none⟩) 64 (c2-64*q)] W fun e w'=>e =.returned (.agg (dJ (b_ (blocks (q+1) iJ XS))))∧ah W w':=fun W hW=>by
        rw[hsu,←hKA.o];exact abX akz W (hAr.keep hW) jY
       clear hAr jY hsu akz hat;have hs8:(dJ (b_ (blocks q iJ XS))).size=8:=by rw[tC];rfl
       have ht8:(dJ (b_ (blocks (q+1) iJ XS))).size=8:=by rw[tC];rfl
       have hti:=QX (b_ (blocks (q+1) iJ XS));generalize hV1:dJ (b_ (blocks (q+1) iJ XS))=V1 at *
       generalize dJ (b_ (blocks q iJ XS))=V0 at *
       have hsi:(Tryz.prog.info? 157).map (·.size)=some V0.size:=by rw[hs8];kernel_rfl
       have hs1:(Tryz.prog.info? 157).map (·.size)=some V1.size:=by rw[ht8];kernel_rfl
       have hold:V0.size=V1.size:=by rw[hs8,ht8]
       have MN:=hB4.o.iM hby.o (by have:=asA.o;omega);have hc0:¬(c2=64*q):=by have:=yc.o;omega
       have Yz:(64*(q:Int))<(LX:Int):=ω;have MI:=hcm.o;have ay6:=yc.o;replace hV1:=ζ hV1;replace cR:=ζ cR;replace hs8:=ζ hs8;replace ht8:=ζ ht8;replace hsi:=ζ hsi;replace hs1:=ζ hs1;replace hold:=ζ hold;replace hti:=ζ hti;replace MN:=ζ MN;go_wp2_with fail;refine aJ κ ?_;refine rK (.range 8) 1 ?_;refine IB (.agg V0) rfl χ (fun wq gY=> ?_) ?_
       ·exact J4 157 (.tmp 3) rfl g3 rfl 157 V0 _ (hBq.o.grows gY) Tryz.underlying157 rfl hsi.o
       go_simp;refine IB (.agg KA) rfl χ (fun wq gY=> ?_) ?_
       ·exact J4 159 (.tmp 4) rfl (g3+1) rfl 159 KA _ (MN.o.grows gY) Tryz.underlying159 rfl i64.out
       go_simp;iterate 5 refine aB ?_
       refine bJ (.agg V1) rfl χ (fun wq gY=> ?_) ?_
       ·obtain⟨qB,rE⟩:=bW gY;go_simp;exact Calls.mono (cR.out wq gY) (fun e w'' h=>h)
       go_simp;refine ay ?_;refine dI (i:=8) rfl κ κ (fun wN hN hS K' hK=> ?_);clear hS;have QC:=hBq.o.grows hN;have apq:=aF wN g3 V1;have hBn:=ζ (setRow_heap wN g3 _ V1 _ _ QC:aS (wN.setRow g3 V1) g3 157 V1);have apK:iL wN g3 (some ⟨b,off,none⟩) LX XS:=⟨Oh.o.1.keep hN,Oh.o.2⟩;replace apK:=ζ (apK.iM apq);have avY:=ζ ((hby.o.trans (hN.iM _)).trans apq);refine (if_pos (show _ = true from rfl)).mpr ?_;refine wp_store_row 157 (.tmp 3) (.tmp 63) rfl g3 V1 rfl rfl 157 _ QC hs1.o hold.o hti.o ?_;clear hBq Oh hby apq QC hN cR MN;generalize wN.setRow g3 V1=w8 at *
       go_simp;refine hK.o _ _ ?_;clear hK;go_wp2;go_roundw
       case rel=>exact⟨q+1,ω,ν,by rw[hV1.o];exact hBn,apK,avY⟩
       case measure=>exact ψ
      ·obtain rfl:q=LX / 64:=ω;have hqe:((64*(LX / 64):Nat):Int)=(LX:Int):=ω;rw[hqe];replace hqe:=ζ hqe;have hGw:=ζ (hG.o.kL hby.o asF.o);have hRw:=ζ (hR.o.iM hby.o (by have:=anT.o;omega));clear hby Oh hG hR;have akz:=Jy (LX / 64) XS Jm;generalize hV:blocks (LX / 64) iJ XS=V at *
       replace hV:=ζ hV;go_wp2;refine qy (Pr:=fun W=>Code.wp _ _ _ _ W) (fun w8 yQ JY=> ?_);replace yQ:aS w8 wr.heap.size 130 (qY (List.replicate 32 0)):=yQ.cast κ;obtain⟨g6,Ua⟩:∃g6,g6=wr.heap.size:=⟨_,rfl⟩;have amP:=hBq.o.lt;have amO:=hRw.o.lt;rw[←Ua] at yQ amP amO ⊢;have adh:w.heap.size≤g6:=by rw[Ua];exact hGw.o.size
       have hE6:=ζ (hBq.o.grows JY);have hR6:=ζ (hRw.o.grows JY);have Z8:=ζ (hGw.o.trans JY);clear hBq hRw hGw JY Ua;replace adh:=ζ adh;replace amP:=ζ amP;replace amO:=ζ amO;have adA:=fun k hk=>Wv V (k:=k) hk
       have hWd:=fun k=>ana akz k
       have hDl:=wB V;have hel:=kF V;generalize hD:uU V=D at *
       generalize b_ V=EV at *
       have hZl:(List.replicate 32 0:List Nat).length=32:=List.length_replicate;generalize hZZ:(List.replicate 32 0:List Nat)=Z at *
       have Qc:D.length=Z.length:=ω;have ac0:∀k,k<32→(D.take k++Z.drop k).length=32:=fun k hk=>by rw[Ae Qc ω];exact hDl
       have YC:Hid (aS w8 g6 130 (qY (D.take 0++Z.drop 0))):=yQ;replace hD:=ζ hD;replace hZZ:=ζ hZZ;replace adA:=ζ adA;replace ac0:=ζ ac0;replace hWd:=ζ hWd;clear yQ akz;go_loopw [12] (fun i wx=>∃k:Nat,k≤32∧i =.int .i64 k∧Hid (aS wx g6 130 (qY (D.take k++Z.drop k)))∧Hid (aS wx g3 157 (dJ EV))∧Hid (aS wx g2 130 (qY Z))∧Hid (ah w wx)) (fun i _=>32-(intOf i).toNat)
       case atStart=>exact⟨0,ω,rfl,YC,hE6,hR6,Z8⟩
       case round=>
        clear YC hE6 hR6 Z8;obtain⟨k,hk,rfl,hB,hE,hR,hG⟩:=hrel;by_cases hlt:k<32
        ·have hx:=adA.o k hlt;have hWb:=hWd.o (k / 4);have e1:=(hE.o.cell (k / 4)).trans (oq (by rw[hel];omega));have z1:=hE.o.lt;have j_:(k:Int)<32:=ω;generalize EV.getD (k / 4) 0=W at *
         replace hx:=ζ hx;replace hWb:=ζ hWb;have hk4:k % 4<4:=Nat.mod_lt _ δ;go_wp2;go_loopw [13,14] (fun n i wx=>∃t:Nat,t≤3-k % 4∧i =.int .i64 (3-(t:Int))∧n =.int .u32 ((W / 256 ^ t:Nat):Int)∧wx=wr) (fun _ i _=>(intOf i).toNat)
         case atStart=>exact⟨0,ω,rfl,by simp,rfl⟩
         case round=>
          obtain⟨t,ht,rfl,rfl,rfl⟩:=hrel;by_cases xJ:t < 3-k % 4
          ·have hdv:W / 256 ^ (t + 1)=W / 256 ^ t / 256:=by rw[Nat.pow_succ,Nat.div_div_eq_div_mul]
           have aoP:(k:Int) % 4<3-(t:Int):=ω;have hYb:W / 256 ^ (t + 1)≤W:=Nat.div_le_self _ _;have hWl:=hWb.o.lt;generalize hY:W / 256 ^ (t + 1)=Y at *
           generalize W / 256 ^ t = X at *
           have hdi:(X:Int) / 256=((Y:Nat):Int):=by rw[hdv];omega
           have hwr:IntKind.u32.wrap (Y:Int)=(Y:Int):=by rw[IntKind.wrap_u32];omega
           replace hdv:=ζ hdv;replace hY:=ζ hY;clear hYb hWl;go_wp2;go_roundw
           case rel=>exact⟨t + 1,ω,ν,by rw[hY.o],trivial⟩
           case measure=>simp only[intOf];omega
          ·obtain rfl:t = 3-k % 4:=ω;have aoP:¬((k:Int) % 4<3-((3-k % 4:Nat):Int)):=ω;have hpw:256 ^ (3-k % 4)=2 ^ (24-8*(k % 4)):=by
            rw[show (256:Nat)=2 ^ 8 from rfl,←Nat.pow_mul,show 8*(3-k % 4)=24-8*(k % 4) by omega]
           have hval:((W / 256 ^ (3-k % 4):Nat):Int) % 256=((D.getD k 0:Nat):Int):=by
            rw[hx.o,hpw];omega
           have f6:=hB.o.frozen k;have z6:=hB.o.lt;have e6:=(hB.o.cell k).trans (QW (by rw[ac0.o k hlt];exact hlt));have aO:=Gh Qc (k:=k) ω;have hSn:=fun x=>ad_ (D.take k++Z.drop k) k x
           generalize W / 256 ^ (3-k % 4)=Y at *
           generalize D.getD k 0=X at *
           clear hpw;generalize hip:((3-k % 4:Nat):Int)=ip at *
           replace hip:=ζ hip;have XI:=hB.o.dO k (.int .u8 (X:Int));rw[hSn,aO] at XI;have adz:=hE.o.far (p:=⟨g6,k,none⟩) (by have:=amP.o;simp only;omega) (.int .u8 (X:Int));have apz:=hR.o.far (p:=⟨g6,k,none⟩) (by have:=amO.o;simp only;omega) (.int .u8 (X:Int));have ady:=hG.o.setCell (p:=⟨g6,k,none⟩) adh.o (.int .u8 (X:Int));replace XI:=ζ XI;replace adz:=ζ adz;replace apz:=ζ apz;replace ady:=ζ ady;clear aO hSn;go_wp2;go_roundw
           case rel=>exact⟨k+1,ω,ν,XI,adz,apz,ady⟩
           case measure=>exact ψ
        ·obtain rfl:k=32:=ω;have Lu:=hB.o;rw[List.take_of_length_le ω,List.drop_of_length_le ω,List.append_nil] at Lu;have akb:w.heap.size≤g2:=Nat.le_of_eq hg2.o.symm;have hGf:=hG.o.kL (aF wr g2 (qY D)) akb;have hRf:=setRow_heap wr g2 _ (qY D) _ _ hR.o;have hsz:(qY D).size=32:=by rw[oL];exact hDl
         have JL:(Tryz.prog.info? 130).map (·.size)=some (qY D).size:=by rw[hsz];kernel_rfl
         have hold:(qY Z).size=(qY D).size:=by rw[hsz,oL];omega
         have h1:=Jk D;replace Lu:=ζ Lu;replace hGf:=ζ hGf;replace hRf:=ζ hRf;replace JL:=ζ JL;replace hold:=ζ hold;replace h1:=ζ h1;replace hsz:=ζ hsz;go_wp2_with (first | (refine wpList_load_row rfl 130 (.tmp 11) rfl g6 rfl 130 (qY D) (0,0) _ Lu.o Tryz.underlying130 rfl JL.o ?_) | (refine wpList_store_row rfl 130 (.tmp 2) (.tmp 85) rfl g2 (qY D) rfl rfl 130 _ hR.o JL.o hold.o h1.o ?_));rw[aQ.o];exact bodyPost_ret (v:=.agg (qY D)) (results_cell_row (p:=2) (ty:=130) κ _ _ g2 130 (qY D) (0,0) _ rfl hRf.o Tryz.underlying130 rfl JL.o) rfl ⟨rfl,hGf.o⟩
def fE (R:List UInt8) (a:Int) (fs:List eu):List Nat:=Gv R++[0,(a % 256).toNat]++Gv (fs.flatMap vK)
theorem O1 (R:List UInt8) (a:Int):fE R a []=Gv R++[0,(a % 256).toNat]:=by simp[fE,Gv]
theorem Mc (R:List UInt8) (a:Int) (fs:List eu) (f:eu):fE R a (fs++[f])=(((fE R a fs++Gv f.n)++[61])++Gv f.v)++[0]:=by
 simp[fE,vK,Gv]
theorem Sl (R:List UInt8) (a:Int) (fs:List eu):∀x∈fE R a fs,x < 256:=by
 intro x hx;unfold fE at hx;simp only[List.mem_append,List.mem_cons,List.not_mem_nil,or_false] at hx;rcases hx with (h | rfl | rfl) | h
 ·exact Qv _ x h
 ·omega
 ·have:=Int.emod_lt_of_pos a (show (0:Int)<256 by decide);have:=Int.emod_nonneg a (show (256:Int)≠0 by decide);omega
 ·exact Qv _ x h
theorem Dp (R:List UInt8) (a:Int) (fs:List eu) (h:∀f∈fs,f.n.length+f.v.length≤1000):(fE R a fs).length≤R.length+2+1002*fs.length:=by
 have h2:(fs.flatMap vK).length≤1002*fs.length:=by
  induction fs with
  | nil=>simp
  | cons f fs ih=>
   have h1:=h f σ;have h3:=ih (fun g hg=>h g (by simp[hg]));simp only[List.flatMap_cons,List.length_append,List.length_cons];have:(vK f).length=f.n.length+f.v.length+2:=by simp[vK];omega
   omega
 simp only[fE,List.length_append,aju,List.length_cons,List.length_nil];omega
theorem Zj {R:List UInt8} {a:Int} {A:Option Addr} {m c:Nat} {fs:List eu} (w:World) (hA:dH w 2 fU A m fs) (hR:R.length≤1000) (hm:m≤100) (hf:∀f∈fs,f.n.length+f.v.length≤1000) :
 Calls Tryz.prog 34 #[.string ⟨R.toArray⟩,.int .i64 a,.slice A m c] w fun e w'=>e =.returned (.int .u64 ((iG (P6 (fE R a fs)) 8:Nat):Int))∧ah w w':=by
 have qA:=hA.1;have AO:=fun k=>Dp R a (fs.take k) (fun f h=>hf f (List.mem_of_mem_take h))
 have hkb:∀k,(fE R a (fs.take k)).length≤200000:=fun k=>by
  have h1:=AO k;have h2:(fs.take k).length≤100:=by rw[List.length_take];omega
  omega
 have hb0:=Int.emod_nonneg a (show (256:Int)≠0 by decide);have ha:a % 256=(((a % 256).toNat:Nat):Int):=ω;generalize hB:(a % 256).toNat=B at ha;replace hB:=ζ hB;replace hA:=ζ hA;replace hf:=ζ hf;replace hkb:=ζ hkb;clear AO hb0;go_enter Tryz.func34,Tryz.ntmps34
 go_wp2_with (first | (refine lG rfl (.tmp 12) rfl rfl (by rw[bsize];omega) ?_;intro v1 w1 FN mX;(replace FN:=ζ FN);(replace mX:=ζ mX)) | (at_builtin;(refine lH rfl (.tmp 13) (.tmp 16) rfl rfl rfl (FN.o.alloc (.cells #[.int .u8 ((0:Nat):Int),.int .u8 (B:Int)] 5)) (dH.alg (aS.new w1 5 _)) (mX.o.alloc (.cells #[.int .u8 ((0:Nat):Int),.int .u8 (B:Int)] 5)).size (by rw[gQ,bsize];omega) ?_;intro v2 w2 pY nM;(have iC:=ζ ((mX.o.alloc (.cells #[.int .u8 ((0:Nat):Int),.int .u8 (B:Int)] 5)).bH nM FN.o.eH));(replace pY:=ζ pY);clear nM)));have Pg:Hid (jg w2 w.heap.size v2 (fE R a (fs.take 0))):=by
  rw[List.take_zero,O1,hB.o];exact pY
 clear FN mX pY;go_loopw [7,8] (fun b i wr=>∃k:Nat,k≤m∧i =.int .i64 k∧Hid (jg wr w.heap.size b (fE R a (fs.take k)))∧Hid (ah w wr)) (fun _ i _=>m - (intOf i).toNat)
 case atStart=>exact⟨0,ω,rfl,Pg,iC⟩
 case round=>
  clear Pg iC;obtain⟨k,hk,rfl,hO,hG⟩:=hrel;by_cases nV:k<m
  ·obtain⟨bb,off,f,rfl,JI,hx,hcell⟩:=hA.o.at_ nV;have c0w:w.cell? ⟨bb,off+k*2,none⟩=some (.string ⟨f.n.toArray⟩):=by simpa using hcell 0 _ rfl
   have c1w:w.cell? ⟨bb,off+k*2+1,none⟩=some (.string ⟨f.v.toArray⟩):=by simpa using hcell 1 _ rfl
   have w_:=hf.o f (List.mem_of_getElem? hx);have SS:=hkb.o k;have xJ:fs.take (k+1)=fs.take k++[f]:=by rw[List.take_add_one,hx];rfl
   have yN:=Mc R a (fs.take k) f;rw[←xJ] at yN;have c0:=hG.o.cell c0w;have j_:(k:Int)<(m:Int):=ω;replace c0w:=ζ c0w;replace c1w:=ζ c1w;replace yN:=ζ yN;clear hcell hx xJ;go_wp2_with (at_builtin;first | (refine Di rfl (.tmp 24) (.tmp 29) rfl rfl rfl hO.o hG.o.size (by rw[bsize];omega) ?_;intro v3 w3 dS iT;(have uj:=ζ (hG.o.bH iT hO.o.eH));(replace dS:=ζ dS);clear iT) | (refine lH rfl (.tmp 30) (.tmp 31) rfl rfl rfl (dS.o.alloc (.cells #[.int .u8 ((61:Nat):Int)] 5)) (dH.jC (x:=61) (aS.new w3 5 _)) (uj.o.alloc (.cells #[.int .u8 ((61:Nat):Int)] 5)).size (by rw[List.length_append,gQ,bsize];omega) ?_;intro v4 w4 gu fV;(have CQ:=ζ ((uj.o.alloc (.cells #[.int .u8 ((61:Nat):Int)] 5)).bH fV dS.o.eH));(replace gu:=ζ gu);(have c1:=CQ.o.cell c1w.out);clear fV) | (refine Di rfl (.tmp 33) (.tmp 38) rfl rfl rfl gu.o CQ.o.size (by rw[List.length_append,List.length_append,gQ,bsize,bsize,List.length_singleton];omega) ?_;intro v5 w5 jk jG;(have vV:=ζ (CQ.o.bH jG gu.o.eH));(replace jk:=ζ jk);clear jG) | (refine lH rfl (.tmp 39) (.tmp 40) rfl rfl rfl (jk.o.alloc (.cells #[.int .u8 ((0:Nat):Int)] 5)) (dH.jC (x:=0) (aS.new w5 5 _)) (vV.o.alloc (.cells #[.int .u8 ((0:Nat):Int)] 5)).size (by rw[List.length_append,List.length_append,List.length_append,gQ,gQ,bsize,bsize,List.length_singleton];omega) ?_;intro v6 w6 Nq vU;(have JY:=ζ ((vV.o.alloc (.cells #[.int .u8 ((0:Nat):Int)] 5)).bH vU jk.o.eH));(replace Nq:=ζ Nq);clear vU));go_roundw
   case rel=>exact⟨k+1,ω,ν,by rw[yN.o];exact Nq,JY⟩
   case measure=>exact ψ
  ·obtain rfl:k=m:=ω;have ML:=hO.o;rw[List.take_of_length_le ω] at ML;obtain⟨A7,c7,rfl,yc,hcm,hAr⟩:=ML.arr;have SS:=hkb.o fs.length;rw[List.take_length] at SS;have XR:=aei (c:=c7) wr hAr (Sl R a fs) ω;have hDl:=wB (abP (fE R a fs));have hDb:∀x∈P6 (fE R a fs),x < 256:=fun x hx=>by
    unfold P6 uU at hx;simp only[List.mem_flatMap] at hx;obtain⟨y,_,hy⟩:=hx;simp only[List.mem_cons,List.not_mem_nil,or_false] at hy;rcases hy with rfl | rfl | rfl | rfl <;> exact Nat.mod_lt _ δ
   rw[show uU (abP (fE R a fs))=P6 (fE R a fs) from rfl] at hDl;generalize hDD:P6 (fE R a fs)=D at *
   replace hDD:=ζ hDD;replace XR:=ζ XR;replace hDb:=ζ hDb;clear hO ML SS yc hcm hAr hA hf hkb;go_wp2_with fail;refine (XR.out).mono ?_;rintro e w8 ⟨rfl,Z5⟩;have V4:=ζ (hG.o.trans Z5);clear XR Z5 hG;go_wp2_with (refine wpList_store_row rfl 130 (.tmp 9) (.tmp 43) rfl w8.heap.size (qY D) rfl rfl 130 _ (aS.new w8 _ _) (by rw[oL,hDl];kernel_rfl) (by rw[oL,hDl];rfl) (Jk D) ?_);rw[World.setRow_alloc_new];have hB:aS (w8.alloc (.cells (qY D) 130)) w8.heap.size 130 (qY D):=aS.new w8 _ _;have hgr:ah w (w8.alloc (.cells (qY D) 130)):=V4.o.alloc _;have hw1:=hB.lt;generalize w8.alloc (.cells (qY D) 130)=w9 at *
   generalize w8.heap.size=g at *
   clear V4;have hc:∀i,i < 8→w9.cell? ⟨g,i,none⟩=some (.int .u8 ((D.getD i 0:Nat):Int)):=fun i hi=>(hB.cell i).trans (QW ω)
   replace hc:=ζ hc;replace hB:=ζ hB;go_wp2;go_loopw [10,11] (fun n i wr=>∃k:Nat,k≤8∧i =.int .i64 k∧n =.int .u64 ((iG D k:Nat):Int)∧wr=w9) (fun _ i _=>8-(intOf i).toNat)
   case atStart=>exact⟨0,ω,rfl,rfl,rfl⟩
   case round=>
    obtain⟨k,hk,rfl,rfl,rfl⟩:=hrel;by_cases hlt:k<8
    ·have c0:=hc.o k hlt;have hx:=G6 hDb.o k;have hs:=yI D k;have hn:iG D k*256+D.getD k 0<18446744073709551616:=by
      have h1:=Ky hDb.o (k+1);rw[hs] at h1;exact Nat.lt_of_lt_of_le h1 (Nat.le_trans (Nat.pow_le_pow_right (n:=256) δ (by omega:k+1≤8)) δ)
     generalize D.getD k 0=x at *
     generalize iG D k=n at *
     have hv:((n:Int)*256+(x:Int)) % 18446744073709551616=((n * 256+x:Nat):Int):=ω;replace hs:=ζ hs;clear hn hx;go_wp2;go_roundw
     case rel=>exact⟨k+1,ω,ν,by rw[hs.o,Int.natCast_add,Int.natCast_mul];rfl,trivial⟩
     case measure=>exact ψ
    ·obtain rfl:k=8:=ω;go_wp2;go_ret;rw[hDD.o];exact⟨rfl,hgr⟩
theorem dH.ajr {α:Type} {w:World} {g:Nat} {t:TypeId} {enc:α→List Value} {e1:α→Value} (he:∀x,enc x = [e1 x]) {bs:List α} (h:aS w g t (bs.map e1).toArray):dH w 1 enc (some ⟨g,0,none⟩) bs.length bs:=by
 refine⟨rfl,fun _=>⟨g,0,rfl,h.lt,fun i hi j u hu=> ?_⟩⟩;rw[he] at hu;have hj:j = 0:=by have:=(List.getElem?_eq_some_iff.1 hu).1;simp at this;omega
 subst hj;rw[h.cell];simp only[List.getElem?_cons_zero,Option.some.injEq] at hu;simp[hi,←hu]
theorem aar {R:List UInt8} {a:Int} {A:Option Addr} {m c:Nat} {fs:List eu} (w:World) (hA:dH w 2 fU A m fs) (hR:R.length≤1000) (hm:m≤100) (hf:∀f∈fs,f.n.length+f.v.length≤1000) :
 Calls Tryz.prog 41 #[.string ⟨R.toArray⟩,.int .i64 a,.slice A m c] w fun e w'=>∃v,e =.returned v∧jg w' w.heap.size v (fE R a fs)∧ah w w':=by
 have qA:=hA.1;have AO:=fun k=>Dp R a (fs.take k) (fun f h=>hf f (List.mem_of_mem_take h))
 have hkb:∀k,(fE R a (fs.take k)).length≤200000:=fun k=>by
  have h1:=AO k;have h2:(fs.take k).length≤100:=by rw[List.length_take];omega
  omega
 have hb0:=Int.emod_nonneg a (show (256:Int)≠0 by decide);have ha:a % 256=(((a % 256).toNat:Nat):Int):=ω;generalize hB:(a % 256).toNat=B at ha;replace hB:=ζ hB;replace hA:=ζ hA;replace hf:=ζ hf;replace hkb:=ζ hkb;clear AO hb0;go_enter Tryz.func41,Tryz.ntmps41
 go_wp2_with (first | (refine lG rfl (.tmp 10) rfl rfl (by rw[bsize];omega) ?_;intro v1 w1 FN mX;(replace FN:=ζ FN);(replace mX:=ζ mX)) | (at_builtin;(refine lH rfl (.tmp 11) (.tmp 14) rfl rfl rfl (FN.o.alloc (.cells #[.int .u8 ((0:Nat):Int),.int .u8 (B:Int)] 5)) (dH.alg (aS.new w1 5 _)) (mX.o.alloc (.cells #[.int .u8 ((0:Nat):Int),.int .u8 (B:Int)] 5)).size (by rw[gQ,bsize];omega) ?_;intro v2 w2 pY nM;(have iC:=ζ ((mX.o.alloc (.cells #[.int .u8 ((0:Nat):Int),.int .u8 (B:Int)] 5)).bH nM FN.o.eH));(replace pY:=ζ pY);clear nM)));have Pg:Hid (jg w2 w.heap.size v2 (fE R a (fs.take 0))):=by
  rw[List.take_zero,O1,hB.o];exact pY
 clear FN mX pY;go_loopw [7,18] (fun b i wr=>∃k:Nat,k≤m∧i =.int .i64 k∧Hid (jg wr w.heap.size b (fE R a (fs.take k)))∧Hid (ah w wr)) (fun _ i _=>m - (intOf i).toNat)
 case atStart=>exact⟨0,ω,rfl,Pg,iC⟩
 case round=>
  clear Pg iC;obtain⟨k,hk,rfl,hO,hG⟩:=hrel;by_cases nV:k<m
  ·obtain⟨bb,off,f,rfl,JI,hx,hcell⟩:=(hA.o.keep hG.o).at_ nV;have c0:wr.cell? ⟨bb,off+k*2,none⟩=some (.string ⟨f.n.toArray⟩):=by simpa using hcell 0 _ rfl
   have c1:wr.cell? ⟨bb,off+k*2+1,none⟩=some (.string ⟨f.v.toArray⟩):=by simpa using hcell 1 _ rfl
   have w_:=hf.o f (List.mem_of_getElem? hx);have SS:=hkb.o k;have avC:=hkb.o (k+1);have xJ:fs.take (k+1)=fs.take k++[f]:=by rw[List.take_add_one,hx];rfl
   have yN:=Mc R a (fs.take k) f;rw[←xJ] at yN;have j_:(k:Int)<(m:Int):=ω;obtain⟨A0,c0',hv0,hn0,FK,CS⟩:=hO.o.arr;generalize hN0:(fE R a (fs.take k)).length=N0 at *
   subst hv0;replace yN:=ζ yN;replace CS:=ζ CS;clear hcell hx xJ;go_wp2_with (first | (refine lG rfl (.tmp 24) rfl rfl (by rw[bsize];omega) ?_;intro v3 w3 dS uj;(obtain⟨A3,c3,hv3,_,_,E8⟩:=dS.arr);(rw[gQ,bsize] at hv3 E8);subst hv3;(replace E8:=ζ E8);(have b9:=(aS.new wr 63 #[.string ⟨f.n.toArray⟩,.string ⟨f.v.toArray⟩]).grows uj);(have d1:w3.cell? ⟨wr.heap.size,1,none⟩=some (.string ⟨f.v.toArray⟩):=b9.cell 1);(have z1:=b9.lt);(replace uj:=ζ uj);clear dS b9) | (refine lG rfl (.tmp 28) rfl rfl (by rw[bsize];omega) ?_;intro v5 w5 jk vV;(obtain⟨A5,c5,SG,_,_,hA5⟩:=jk.arr);(rw[gQ,bsize] at SG hA5);subst SG;(replace hA5:=ζ hA5);(replace vV:=ζ vV);clear jk));have g3:ah wr w3:=((ah.refl wr).alloc _).trans uj.o;have g5:ah w3 w5:=((ah.refl w3).alloc _).trans vV.o;have gW:ah w5 ((w5.alloc (.cells #[.int .u8 0] 5)).alloc (.cells #[.slice A0 N0 c0',.slice A3 f.n.length c3,.slice (some ⟨w3.heap.size,0,none⟩) 1 1,.slice A5 f.v.length c5,.slice (some ⟨w5.heap.size,0,none⟩) 1 1] 94)):=((ah.refl w5).alloc _).alloc _;have hct:CW [⟨A0,N0,c0',fE R a (fs.take k)⟩,⟨A3,f.n.length,c3,rY ⟨f.n.toArray⟩⟩,⟨some ⟨w3.heap.size,0,none⟩,1,1,[61]⟩,⟨A5,f.v.length,c5,rY ⟨f.v.toArray⟩⟩,⟨some ⟨w5.heap.size,0,none⟩,1,1,[0]⟩]=fE R a (fs.take (k+1)):=by
    rw[yN.o,Ar,Ar];simp[CW]
   have h61:dH w5 1 kE (some ⟨w3.heap.size,0,none⟩) 1 [61]:=(dH.jC (x:=61) (aS.new w3 5 #[.int .u8 ((61:Nat):Int)])).keep vV.o;have h00:dH (w5.alloc (.cells #[.int .u8 0] 5)) 1 kE (some ⟨w5.heap.size,0,none⟩) 1 [0]:=dH.jC (x:=0) (aS.new w5 5 #[.int .u8 ((0:Nat):Int)]);refine (Pz (L:=5) (c:=5) (A:=some ⟨w5.heap.size+1,0,none⟩) (bs:=[⟨A0,N0,c0',fE R a (fs.take k)⟩,⟨A3,f.n.length,c3,rY ⟨f.n.toArray⟩⟩,⟨some ⟨w3.heap.size,0,none⟩,1,1,[61]⟩,⟨A5,f.v.length,c5,rY ⟨f.v.toArray⟩⟩,⟨some ⟨w5.heap.size,0,none⟩,1,1,[0]⟩]) _ (dH.ajr (e1:=fun (b:Bsl)=>Value.slice b.A b.n b.c) (fun _=>rfl) (aS.vO w5 _ _ _)) ?_ (by rw[hct];omega) ω).mono ?_
   ·intro b hb;simp only[List.mem_cons,List.not_mem_nil,or_false] at hb;rcases hb with rfl | rfl | rfl | rfl | rfl
    ·exact CS.o.keep (g3.trans (g5.trans gW))
    ·exact E8.o.keep (g5.trans gW)
    ·exact h61.keep gW
    ·exact hA5.o.keep gW
    ·exact h00.keep ((ah.refl _).alloc _)
   rintro e w8 ⟨v8,rfl,MK,V4⟩;rw[hct] at MK;have uX:=hG.o.trans (g3.trans (g5.trans (gW.trans V4)));have AP:=ζ (MK.ig (base':=w.heap.size) (hG.o.trans (g3.trans (g5.trans gW))).size);replace uX:=ζ uX;clear MK V4 h61 h00 gW g5 g3 hct;go_wp2;go_roundw
   case rel=>exact⟨k+1,ω,ν,AP,uX⟩
   case measure=>exact ψ
  ·obtain rfl:k=m:=ω;have ML:=hO.o;rw[List.take_of_length_le ω] at ML;go_wp2;go_ret;exact⟨_,rfl,ML,hG.o⟩
theorem Xk {R:List UInt8} {a:Int} {A:Option Addr} {m c:Nat} {fs:List eu} (w:World) (hA:dH w 2 fU A m fs) (hR:R.length≤1000) (hm:m≤100) (hf:∀f∈fs,f.n.length+f.v.length≤1000) :
 Calls Tryz.prog 14 #[.string ⟨R.toArray⟩,.int .i64 a,.slice A m c] w fun e w'=>e =.returned (.int .u64 ((iG (P6 (fE R a fs)) 8:Nat):Int))∧ah w w':=by
 have AO:=Dp R a fs hf;have qA:=hA.1;have cB:=aar (c:=c) (a:=a) w hA hR hm hf;replace cB:=ζ cB;replace hf:=ζ hf;replace AO:=ζ AO;go_enter Tryz.func14,Tryz.ntmps14
 go_wp2_with fail;refine (cB.out).mono ?_;rintro e w1 ⟨v,rfl,hO,hG⟩;obtain⟨A1,c1,rfl,_,_,YD⟩:=hO.arr;have cS:=Vu (c:=c1) w1 YD (Sl R a fs) (by have:=AO.o;omega);generalize hD:iG (P6 (fE R a fs)) 8=D at *
 replace hD:=ζ hD;replace cS:=ζ cS;replace hG:=ζ hG;clear hO YD;go_wp2_with fail;refine (cS.out).mono ?_;rintro e w2 ⟨rfl,iC⟩;go_wp2;go_ret;rw[hD.o];exact⟨rfl,hG.o.trans iC⟩
def jD (R:List UInt8) (fs:List eu):List Nat:=Gv R++[0]++Gv (fs.flatMap vK)
def FH (a:Jj):Nat:=iG (P6 (jD a.src a.fs)) 8
theorem Sz (R:List UInt8):jD R []=Gv R++[0]:=by simp[jD,Gv]
theorem O6 (R:List UInt8) (fs:List eu) (f:eu):jD R (fs++[f])=(((jD R fs++Gv f.n)++[61])++Gv f.v)++[0]:=by
 simp[jD,vK,Gv]
theorem VX (R:List UInt8) (fs:List eu):∀x∈jD R fs,x < 256:=by
 intro x hx;unfold jD at hx;simp only[List.mem_append,List.mem_cons,List.not_mem_nil,or_false] at hx;rcases hx with (h | rfl) | h
 ·exact Qv _ x h
 ·omega
 ·exact Qv _ x h
theorem SB (R:List UInt8) (fs:List eu) (h:∀f∈fs,f.n.length+f.v.length≤1000):(jD R fs).length≤R.length+2+1002*fs.length:=by
 have:=Dp R 0 fs h;simp only[fE,jD,List.length_append,List.length_cons,List.length_nil] at this ⊢;omega
theorem aoL {a:iI} (w:World) (hA:dH w 2 fU a.A a.m a.a.fs) (hR:a.a.src.length≤1000) (hm:a.m≤100) (hf:∀f∈a.a.fs,f.n.length+f.v.length≤1000) :
 Calls Tryz.prog 25 #[jy a] w fun e w'=>e =.returned (.int .u64 ((FH a.a:Nat):Int))∧ah w w':=by
 unfold jy FH;obtain⟨⟨R,fs,⟨lv,lc⟩,f0,t0⟩,A,m,c⟩:=a;simp only at hA hR hm hf ⊢;have qA:=hA.1;have AO:=fun k=>SB R (fs.take k) (fun f h=>hf f (List.mem_of_mem_take h))
 have hkb:∀k,(jD R (fs.take k)).length≤200000:=fun k=>by
  have h1:=AO k;have h2:(fs.take k).length≤100:=by rw[List.length_take];omega
  omega
 replace hA:=ζ hA;replace hf:=ζ hf;replace hkb:=ζ hkb;clear AO;generalize hD:iG (P6 (jD R fs)) 8=D;replace hD:=ζ hD;go_enter Tryz.func25,Tryz.ntmps25
 go_wp2_with (first | (refine lG rfl (.tmp 7) rfl rfl (by rw[bsize];omega) ?_;intro v1 w1 FN mX;(replace FN:=ζ FN);(replace mX:=ζ mX)) | (at_builtin;(refine lH rfl (.tmp 8) (.tmp 9) rfl rfl rfl (FN.o.alloc (.cells #[.int .u8 ((0:Nat):Int)] 5)) (dH.jC (x:=0) (aS.new w1 5 _)) (mX.o.alloc (.cells #[.int .u8 ((0:Nat):Int)] 5)).size (by rw[gQ,bsize];omega) ?_;intro v2 w2 pY nM;(have iC:=ζ ((mX.o.alloc (.cells #[.int .u8 ((0:Nat):Int)] 5)).bH nM FN.o.eH));(replace pY:=ζ pY);(have bx:=(aS.new w 42 #[.string ⟨R.toArray⟩,.slice A m c,.int .i64 lv,.int .u32 (lc:Int),.int .i64 f0,.int .i64 t0]).grows iC.o);(have x1:w2.cell? ⟨w.heap.size,1,none⟩=some (.slice A m c):=bx.cell 1);(have xl:=bx.lt);clear nM bx)));have Pg:Hid (jg w2 w.heap.size v2 (jD R (fs.take 0))):=by
  rw[List.take_zero,Sz];exact pY.o.ig σ
 replace iC:=ζ ((ah.refl w).alloc _ |>.trans iC.o);clear FN mX pY;go_loopw [3,5,14] (fun b _ i wr=>∃k:Nat,k≤m∧i =.int .i64 k∧Hid (jg wr w.heap.size b (jD R (fs.take k)))∧Hid (ah w wr)) (fun _ _ i _=>m - (intOf i).toNat)
 case atStart=>exact⟨0,ω,rfl,Pg,iC⟩
 case round=>
  clear Pg iC x1 xl;obtain⟨k,hk,rfl,hO,hG⟩:=hrel;by_cases nV:k<m
  ·obtain⟨bb,off,f,rfl,JI,hx,hcell⟩:=(hA.o.keep hG.o).at_ nV;have c0:wr.cell? ⟨bb,off+k*2,none⟩=some (.string ⟨f.n.toArray⟩):=by simpa using hcell 0 _ rfl
   have c1:wr.cell? ⟨bb,off+k*2+1,none⟩=some (.string ⟨f.v.toArray⟩):=by simpa using hcell 1 _ rfl
   have w_:=hf.o f (List.mem_of_getElem? hx);have SS:=hkb.o k;have avC:=hkb.o (k+1);have xJ:fs.take (k+1)=fs.take k++[f]:=by rw[List.take_add_one,hx];rfl
   have yN:=O6 R (fs.take k) f;rw[←xJ] at yN;have j_:(k:Int)<(m:Int):=ω;obtain⟨A0,c0',hv0,hn0,FK,CS⟩:=hO.o.arr;generalize hN0:(jD R (fs.take k)).length=N0 at *
   subst hv0;replace yN:=ζ yN;replace CS:=ζ CS;clear hcell hx xJ;go_wp2_with (first | (refine lG rfl (.tmp 20) rfl rfl (by rw[bsize];omega) ?_;intro v3 w3 dS uj;(obtain⟨A3,c3,hv3,_,_,E8⟩:=dS.arr);(rw[gQ,bsize] at hv3 E8);subst hv3;(replace E8:=ζ E8);(have b9:=(aS.new wr 63 #[.string ⟨f.n.toArray⟩,.string ⟨f.v.toArray⟩]).grows uj);(have d1:w3.cell? ⟨wr.heap.size,1,none⟩=some (.string ⟨f.v.toArray⟩):=b9.cell 1);(have z1:=b9.lt);(replace uj:=ζ uj);clear dS b9) | (refine lG rfl (.tmp 24) rfl rfl (by rw[bsize];omega) ?_;intro v5 w5 jk vV;(obtain⟨A5,c5,SG,_,_,hA5⟩:=jk.arr);(rw[gQ,bsize] at SG hA5);subst SG;(replace hA5:=ζ hA5);(replace vV:=ζ vV);clear jk));have g3:ah wr w3:=((ah.refl wr).alloc _).trans uj.o;have g5:ah w3 w5:=((ah.refl w3).alloc _).trans vV.o;have gW:ah w5 ((w5.alloc (.cells #[.int .u8 0] 5)).alloc (.cells #[.slice A0 N0 c0',.slice A3 f.n.length c3,.slice (some ⟨w3.heap.size,0,none⟩) 1 1,.slice A5 f.v.length c5,.slice (some ⟨w5.heap.size,0,none⟩) 1 1] 94)):=((ah.refl w5).alloc _).alloc _;have hct:CW [⟨A0,N0,c0',jD R (fs.take k)⟩,⟨A3,f.n.length,c3,rY ⟨f.n.toArray⟩⟩,⟨some ⟨w3.heap.size,0,none⟩,1,1,[61]⟩,⟨A5,f.v.length,c5,rY ⟨f.v.toArray⟩⟩,⟨some ⟨w5.heap.size,0,none⟩,1,1,[0]⟩]=jD R (fs.take (k+1)):=by
    rw[yN.o,Ar,Ar];simp[CW]
   have h61:dH w5 1 kE (some ⟨w3.heap.size,0,none⟩) 1 [61]:=(dH.jC (x:=61) (aS.new w3 5 #[.int .u8 ((61:Nat):Int)])).keep vV.o;have h00:dH (w5.alloc (.cells #[.int .u8 0] 5)) 1 kE (some ⟨w5.heap.size,0,none⟩) 1 [0]:=dH.jC (x:=0) (aS.new w5 5 #[.int .u8 ((0:Nat):Int)]);refine (Pz (L:=5) (c:=5) (A:=some ⟨w5.heap.size+1,0,none⟩) (bs:=[⟨A0,N0,c0',jD R (fs.take k)⟩,⟨A3,f.n.length,c3,rY ⟨f.n.toArray⟩⟩,⟨some ⟨w3.heap.size,0,none⟩,1,1,[61]⟩,⟨A5,f.v.length,c5,rY ⟨f.v.toArray⟩⟩,⟨some ⟨w5.heap.size,0,none⟩,1,1,[0]⟩]) _ (dH.ajr (e1:=fun (b:Bsl)=>Value.slice b.A b.n b.c) (fun _=>rfl) (aS.vO w5 _ _ _)) ?_ (by rw[hct];omega) ω).mono ?_
   ·intro b hb;simp only[List.mem_cons,List.not_mem_nil,or_false] at hb;rcases hb with rfl | rfl | rfl | rfl | rfl
    ·exact CS.o.keep (g3.trans (g5.trans gW))
    ·exact E8.o.keep (g5.trans gW)
    ·exact h61.keep gW
    ·exact hA5.o.keep gW
    ·exact h00.keep ((ah.refl _).alloc _)
   rintro e w8 ⟨v8,rfl,MK,V4⟩;rw[hct] at MK;have uX:=hG.o.trans (g3.trans (g5.trans (gW.trans V4)));have AP:=ζ (MK.ig (base':=w.heap.size) (hG.o.trans (g3.trans (g5.trans gW))).size);replace uX:=ζ uX;clear MK V4 h61 h00 gW g5 g3 hct;go_wp2;go_roundw
   case rel=>exact⟨k+1,ω,ν,AP,uX⟩
   case measure=>exact ψ
  ·obtain rfl:k=m:=ω;have ML:=hO.o;rw[List.take_of_length_le ω] at ML;obtain⟨A1,c1,hv1,_,_,YD⟩:=ML.arr;subst hv1;have cS:=Vu (c:=c1) wr YD (VX R fs) (by have:=hkb.o fs.length;rw[List.take_length] at this;omega);rw[hD.o] at cS;replace cS:=ζ cS;clear ML hO YD hkb;go_wp2_with fail;refine (cS.out).mono ?_;rintro e w2 ⟨rfl,iC⟩;go_wp2;go_ret;exact⟨rfl,hG.o.trans iC⟩
theorem aey (x:List UInt8):∀l:List (List UInt8),(l.any fun y=>x ==y)=decide (x∈l)
 | []=>by simp
 | y ::r=>by
  rw[List.any_cons,aey x r];by_cases h:x = y
  ·simp[h]
  ·simp[h]
theorem af6 {f:eu} {g:Nat} {A:Option Addr} {m c:Nat} {names:List (List UInt8)} (w:World) (hc:w.cell? ⟨g,0,none⟩=some (.slice A m c)) (hA:dH w 1 encS A m names) (hm:m≤9223372036854775807) :
 Calls Tryz.prog 70 #[QV f,.pointer (some ⟨g,0,none⟩)] w fun e w'=>e =.returned (.bool (!decide (f.n∈names)))∧ah w w':=by
 have cC:=fun W (hW:ah w W)=>aku (c:=c) (v:=f.n) W (hA.keep hW) hm
 rw[aey] at cC;have hg:=World.block_lt_of_cell? w _ hc;simp only at hg;generalize decide (f.n∈names)=B at *
 unfold QV;replace cC:=ζ cC;clear hA;go_enter Tryz.func70,Tryz.ntmps70
 go_wp2_with fail;refine (cC.out _ γ).mono ?_;rintro e w1 ⟨rfl,hb⟩;have hG:ah w w1:=((ah.refl w).alloc _).trans hb;go_wp2;go_ret;exact⟨aU rfl,hG⟩
theorem ajn {A:Option Addr} {m c:Nat} {fs:List eu} {A2:Option Addr} {m2 c2:Nat} {names:List (List UInt8)} (w:World) (hA:dH w 2 fU A m fs) (hm:m≤1000) (hN:dH w 1 encS A2 m2 names) (hm2:m2≤9223372036854775807) :
 Calls Tryz.prog 26 #[.slice A m c,.slice A2 m2 c2] w fun e w'=>∃v,e =.returned v∧Own w' w.heap.size 63 2 fU v (dV fs names)∧ah w w':=by
 have hlen:=hA.1;obtain⟨w3,hw3⟩:∃w3,w3=(w.alloc (.cells #[.slice A2 m2 c2] 33)):=⟨_,rfl⟩;have hg3:ah w w3:=by rw[hw3];exact (ah.refl w).alloc _
 have bp:aS w3 w.heap.size 33 #[.slice A2 m2 c2]:=by rw[hw3];exact aS.new w _ _
 have cC:=aam (c:=c) w3 (hA.keep hg3) ω;have cD:=fun v w4 (hg:ah w3 w4) (hO:Own w4 w3.heap.size 63 2 fU v fs)=>aai 70 #[.pointer (some ⟨w.heap.size,0,none⟩)] (enters_of Tryz.func70 κ rfl)
  (fun f=> !decide (f.n∈names)) w3.heap.size v fs w4 hO hg.size ω (fun f _ W hW=>af6 W ((bp.grows (hg.LP hW)).cell 0) (hN.keep (hg3.trans (hg.LP hW))) hm2)
 have akj:=Wh (fun f:eu=>decide (f.n∈names)) fs;rw[akj] at cD;change Calls _ _ _ _ fun e w'=>∃v,e =.returned v∧Own w' w.heap.size 63 2 fU v (fs.filter fun f=>decide (f.n∈names))∧ah w w'
 generalize (fs.filter fun f=>decide (f.n∈names))=R at *
 rw[hw3] at cC;have hb3:w.heap.size≤w3.heap.size:=hg3.size;replace cC:=ζ cC;replace cD:=ζ cD;replace hw3:=ζ hw3;replace hg3:=ζ hg3;clear bp hA akj hN;go_enter Tryz.func26,Tryz.ntmps26
 go_wp2_with fail;refine (cC.out).mono ?_;rintro e w4 ⟨v4,rfl,gu,hg4⟩;rw[←hw3.o] at gu hg4;have cD':=ζ (cD.out v4 w4 hg4 gu);clear cD cC;go_wp2_with fail;refine (cD'.out).mono ?_;rintro e w5 ⟨v5,rfl,jk,GV⟩;go_wp2;go_ret;exact⟨v5,rfl,jk.ig hb3,hg3.o.trans (hg4.LP GV)⟩
def vF (f:eu):List UInt8:=0::(f.n ++61::(Lib.decDigits f.v.length++58::f.v))
def eU (r:Nat) (fs:List eu):List UInt8:=Lib.decDigits r ++fs.flatMap vF
theorem aa1 (r:Nat):eU r []=Lib.decDigits r:=by simp[eU]
theorem YL (r:Nat) (fs:List eu) (f:eu):eU r (fs++[f])=eU r fs++vF f:=by simp[eU]
theorem Lc {n:Nat} (h:n < 10000):(Lib.decDigits n).length≤4:=J5 3 n ω
theorem aa3 {f:eu} (h:f.n.length+f.v.length≤1000):(vF f).length≤1007:=by
 have:=Lc (n:=f.v.length) ω;simp only[vF,List.length_cons,List.length_append];omega
theorem QS {r:Nat} (hr:r < 10000):∀(fs:List eu),(∀f∈fs,f.n.length+f.v.length≤1000)→(eU r fs).length≤4+1007*fs.length:=by
 intro fs h;have h1:=Lc hr;have h2:(fs.flatMap vF).length≤1007*fs.length:=by
  induction fs with
  | nil=>simp
  | cons f r ih=>
   have h3:=aa3 (h f σ);have h4:=ih (fun g hg=>h g (by simp[hg]));simp only[List.flatMap_cons,List.length_append,List.length_cons];omega
 simp only[eU,List.length_append];omega
theorem afa {r:Nat} {A:Option Addr} {m c:Nat} {fs:List eu} (w:World) (he:EX w) (hr:r < 10000) (hA:dH w 2 fU A m fs) (hm:m≤100) (hf:∀f∈fs,f.n.length+f.v.length≤1000) :
 Calls Tryz.prog 27 #[.int .i64 r,.slice A m c] w fun e w'=>e =.returned (.string ⟨(eU r fs).toArray⟩)∧ah w w':=by
 have qA:=hA.1;have cI:∀n:Nat,n≤100000→∀W,ah w W→Calls Tryz.prog 72 #[.int .i64 n] W fun e w'=>e =.returned (.string ⟨(Lib.decDigits n).toArray⟩)∧ah W w':=fun n h1 W hW=>by
  have:=ajI (n:Int) ω ω W (he.grows hW);rwa [ajH (n:Int) ω,Int.toNat_natCast] at this
 have cR:=cI r ω;have hkb:∀k,(eU r (fs.take k)).length≤200000:=fun k=>by
  have h1:=QS hr (fs.take k) (fun f h=>hf f (List.mem_of_mem_take h));have h2:(fs.take k).length≤100:=by rw[List.length_take];omega
  omega
 have h00:=aa1 r;generalize Lib.decDigits r = dr at *
 replace cI:=ζ cI;replace cR:=ζ cR;replace hA:=ζ hA;replace hf:=ζ hf;replace hkb:=ζ hkb;replace h00:=ζ h00;clear he;go_enter Tryz.func27,Tryz.ntmps27
 go_wp2_with fail;refine (cR.out _ (ah.refl _)).mono ?_;rintro e w1 ⟨rfl,hb1⟩;replace hb1:=ζ hb1;go_wp2;go_loopw [5,7,12] (fun s _ i wr=>∃(k:Nat) (S:List UInt8),k≤m∧i =.int .i64 k∧s =.string ⟨S.toArray⟩∧Hid (S=eU r (fs.take k))∧Hid (ah w wr)) (fun _ _ i _=>m - (intOf i).toNat)
 case atStart=>exact⟨0,dr,ω,rfl,rfl,(h00.o.symm:dr=eU r (fs.take 0)),hb1⟩
 case round=>
  obtain⟨k,S,hk,rfl,rfl,hS,hG⟩:=hrel;by_cases nV:k<m
  ·obtain⟨bb,off,f,rfl,JI,hx,hcell⟩:=(hA.o.keep hG.o).at_ nV;have c0:wr.cell? ⟨bb,off+k*2,none⟩=some (.string ⟨f.n.toArray⟩):=by simpa using hcell 0 _ rfl
   have c1:wr.cell? ⟨bb,off+k*2+1,none⟩=some (.string ⟨f.v.toArray⟩):=by simpa using hcell 1 _ rfl
   have w_:=hf.o f (List.mem_of_getElem? hx);have j_:(k:Int)<(m:Int):=ω;have SS:=hkb.o k;rw[←hS.o] at SS;have cL:=cI.out f.v.length ω;have xJ:fs.take (k+1)=fs.take k++[f]:=by rw[List.take_add_one,hx];rfl
   have yN:S++vF f = eU r (fs.take (k+1)):=by rw[xJ,YL,hS.o]
   have hdl:=Lc (n:=f.v.length) ω;unfold vF at yN;generalize Lib.decDigits f.v.length=dv at *
   replace cL:=ζ cL;replace yN:=ζ yN;have hGa:Hid (ah w (wr.alloc (.cells #[.string ⟨f.n.toArray⟩,.string ⟨f.v.toArray⟩] 63))):=ζ (hG.o.alloc _);clear hcell hx xJ hS;go_wp2_with fail;refine aJ κ ?_;refine rK (.range 16) 0 ?_;iterate 8 refine aB ?_
   refine bJ (.string ⟨dv.toArray⟩) rfl χ (fun wq gY=> ?_) ?_
   ·obtain⟨qB,rE⟩:=bW gY;go_simp;exact Calls.mono (cL.out wq (hGa.o.trans gY)) (fun e w'' h=>h)
   go_simp;iterate 7 refine aB ?_
   refine ay ?_;refine aP κ (fun wN hN hS=> ?_);go_wp2;go_roundw
   case rel=>exact⟨k+1,S++0::(f.n ++61::(dv++58::f.v)),ω,ν,congrArg Value.string (ByteArray.ext σ),yN,hGa.o.trans hN⟩
   case measure=>exact ψ
  ·obtain rfl:k=m:=ω;have aQ:S=eU r fs:=by rw[hS.o,List.take_of_length_le ω]
   replace aQ:=ζ aQ;clear hS;go_wp2;go_ret;exact⟨by rw[aQ.o];rfl,hG.o⟩
def lU (n:Nat):List Value:=[.int .u64 (n:Int)]
theorem Qd (n:Nat):(lU n).length=1:=rfl
theorem Fv (n:Nat):∀u∈lU n,u.oneCell'=true:=by intro u hu;simp[lU] at hu;subst hu;rfl
theorem CY:iK Tryz.prog 51 50 1 8:=iK.mk' (z:=.int .u64 0) Tryz.underlying51 κ rfl ω
def rX (l:List Nat) (t:Nat):Nat:=(l.takeWhile fun x=>decide (x < t)).length
def xC (l:List Nat):Prop:=l.Pairwise (· < ·)
theorem Jq (l:List Nat) (t:Nat):rX l t≤l.length:=by
 unfold rX;exact (List.takeWhile_sublist _).length_le
theorem aen {t:Nat}:∀{l:List Nat} {i:Nat},i≤l.length→(∀(k x:Nat),k<i→l[k]? = some x→x < t)→(∀x:Nat,l[i]? = some x→t≤x)→rX l t = i
 | [],i,h,_,_=>by simp at h;subst h;rfl
 | a ::r,0,_,_,h=>by
  have:=h a rfl;unfold rX;rw[List.takeWhile_cons_of_neg (by simp;omega)];rfl
 | a ::r,i + 1,hi,h1,h2=>by
  have ha:=h1 0 a ω rfl;have:=aen (l:=r) (i:=i) (t:=t) (by simpa using hi) (fun k x hk hx=>h1 (k+1) x ω (by simpa using hx)) (fun x hx=>h2 x (by simpa using hx));unfold rX at this ⊢;rw[List.takeWhile_cons_of_pos (by simpa using ha),List.length_cons,this]
theorem xC.lt {l:List Nat} (h:xC l) {i j x y:Nat} (Xx:i < j) (hx:l[i]? = some x) (hy:l[j]? = some y):x < y:=by
 obtain⟨h1,rfl⟩:=List.getElem?_eq_some_iff.1 hx;obtain⟨h2,rfl⟩:=List.getElem?_eq_some_iff.1 hy;exact List.pairwise_iff_getElem.1 h i j h1 h2 Xx
theorem acV {l:List Nat} {t i:Nat} (hs:xC l) (h1:∀(k x:Nat),k<i→l[k]? = some x→x < t) (h2:∀x:Nat,l[i]? = some x→t≤x):(t∈l)↔l[i]? = some t:=by
 constructor
 ·intro h;obtain⟨j,hj⟩:=List.getElem?_of_mem h;rcases Nat.lt_trichotomy j i with h3 | h3 | h3
  ·have:=h1 j t h3 hj;omega
  ·rw[←h3];exact hj
  ·have ZW:i < l.length:=by have:=(List.getElem?_eq_some_iff.1 hj).1;omega
   have h4:=h2 l[i] (List.getElem?_eq_getElem ZW);have h5:=hs.lt h3 (List.getElem?_eq_getElem ZW) hj;omega
 ·exact List.mem_of_getElem?
theorem amu (x:Nat) (w:World):Calls Tryz.prog 74 #[.int .u64 x] w fun e w'=>e =.returned (.bool false)∧w'=w:=by
 go_enter Tryz.func74,Tryz.ntmps74
 go_wp2;go_ret;exact⟨aU σ,rfl⟩
theorem ajv (x:Nat) (w:World):Calls Tryz.prog 108 #[.int .u64 x] w fun e w'=>e =.returned (.bool false)∧w'=w:=by
 go_enter Tryz.func108,Tryz.ntmps108
 go_wp2;go_ret;exact⟨aU σ,rfl⟩
theorem ajz (x y:Nat) (w:World):Calls Tryz.prog 73 #[.int .u64 x,.int .u64 y] w fun e w'=>e =.returned (.bool (decide (x < y)))∧w'=w:=by
 have cN:=fun W=>ajv x W
 replace cN:=ζ cN;go_enter Tryz.func73,Tryz.ntmps73
 go_wp2_with fail;refine (cN.out _).mono ?_;rintro e w1 ⟨rfl,rfl⟩;go_wp2;go_ret;exact⟨aU σ,rfl⟩
theorem PD {A:Option Addr} {m c:Nat} {l:List Nat} {t:Nat} (w:World) (hA:dH w 1 lU A m l) (hm:m≤1000000) (hs:xC l) :
 Calls Tryz.prog 28 #[.slice A m c,.int .u64 t] w fun e w'=>e =.returned (.tuple #[.int .i64 (rX l t),.bool (decide (t∈l))])∧w'=w:=by
 have qA:=hA.1;have cL:=fun x W=>ajz x t W
 have cN:=fun x W=>amu x W
 obtain⟨R,hR⟩:∃R,R=(Value.tuple #[.int .i64 (rX l t),.bool (decide (t∈l))]):=⟨_,rfl⟩;rw[←hR];replace hR:=ζ hR;replace cL:=ζ cL;replace cN:=ζ cN;replace hA:=ζ hA;replace hs:=ζ hs;go_enter Tryz.func28,Tryz.ntmps28
 go_wp2;go_loopw [7,8,9] (fun vi vj _ wr=>∃i j:Nat,i≤j∧j≤m∧vi=.int .i64 i∧vj=.int .i64 j∧Hid (∀(k x:Nat),k<i→l[k]? = some x→x < t)∧Hid (∀x:Nat,l[j]? = some x→t≤x)∧wr=w) (fun vi vj _ _=>(intOf vj-intOf vi).toNat)
 case atStart=>exact⟨0,m,ω,ω,rfl,rfl,fun _ _ h=>absurd h ω,(fun x hx=>by have:=(List.getElem?_eq_some_iff.1 hx).1;omega),rfl⟩
 case round=>
  obtain⟨i,j,Xx,hjm,rfl,rfl,I4,Iu,rfl⟩:=hrel;by_cases hlt:i < j
  ·have ZV:(i:Int)<(j:Int):=ω;obtain⟨h,hh⟩:∃h,h = (i + j) / 2:=⟨_,rfl⟩;have hhm:h < m:=ω;obtain⟨bb,off,x,rfl,JI,hx,hcell⟩:=hA.o.at_ hhm;have c0:wr.cell? ⟨bb,off+h,none⟩=some (.int .u64 (x:Int)):=by simpa using hcell 0 _ rfl
   have azr:((i:Int)+(j:Int)) / 2=(h:Int):=ω;have hhj:h < j:=ω;have hih:i≤h:=ω;clear hcell hh;have cX:=cL.out x;cases hxt:decide (x < t) with
   | true=>
    rw[hxt] at cX;replace cX:=ζ cX;have avx:=ζ (show ∀(k y:Nat),k<h + 1→l[k]? = some y→y < t from fun k y hk hy=>by
     have ac1:=of_decide_eq_true hxt;by_cases hkh:k=h
     ·subst hkh;rw[hx] at hy;rw[←Option.some.inj hy];exact ac1
     ·have:=hs.o.lt (show k<h by omega) hy hx;omega)
    clear hxt hx;go_wp2_with fail;refine (cX.out _).mono ?_;rintro e w1 ⟨rfl,rfl⟩;go_wp2;go_roundw
    case rel=>exact⟨h + 1,j,ω,ω,ν,rfl,avx,Iu,trivial⟩
    case measure=>exact ψ
   | false=>
    rw[hxt] at cX;replace cX:=ζ cX;have avL:=ζ (show ∀y:Nat,l[h]? = some y→t≤y from fun y hy=>by
     rw[hx] at hy;rw[←Option.some.inj hy];exact Nat.le_of_not_lt (of_decide_eq_false hxt))
    clear hxt hx;go_wp2_with fail;refine (cX.out _).mono ?_;rintro e w1 ⟨rfl,rfl⟩;go_wp2;go_roundw
    case rel=>exact⟨i,h,ω,ω,rfl,rfl,I4,avL,trivial⟩
    case measure=>exact ψ
  ·obtain rfl:i = j:=ω;have Qb:=aen (t:=t) ω I4.o Iu.o;have uY:=acV hs.o I4.o Iu.o;have iW:=hR.o;rw[Qb] at iW;clear hR Qb;by_cases him:i < m
   ·obtain⟨bb,off,x,rfl,JI,hx,hcell⟩:=hA.o.at_ him;have c0:wr.cell? ⟨bb,off+i,none⟩=some (.int .u64 (x:Int)):=by simpa using hcell 0 _ rfl
    have avJ:(i:Int)<(m:Int):=ω;rw[hx] at uY;clear hcell hx I4 Iu;have cX:=cN.out x;cases hxt:((x:Int)==(t:Int)) with
    | true=>
     have ac1:x = t:=by have:=of_decide_eq_true (show decide ((x:Int)=(t:Int))=true by simpa using hxt);omega
     rw[decide_eq_true (uY.2 (by rw[ac1]))] at iW;replace iW:=ζ iW;clear uY ac1;go_wp2;go_ret2;exact⟨by rw[iW.o];rfl,rfl⟩
    | false=>
     have ac1:¬x = t:=fun h=>by rw[h] at hxt;simp at hxt
     rw[decide_eq_false (fun h=>ac1 (Option.some.inj (uY.1 h)))] at iW;replace iW:=ζ iW;replace cX:=ζ cX;clear uY ac1;go_wp2_with fail;refine (cX.out _).mono ?_;rintro e w1 ⟨rfl,rfl⟩;go_wp2;go_ret2;exact⟨by rw[iW.o];rfl,rfl⟩
   ·have hx:l[i]? = none:=List.getElem?_eq_none ω;rw[hx] at uY;rw[decide_eq_false (fun h=>by have:=uY.1 h;cases this)] at iW;have avJ:¬(i:Int)<(m:Int):=ω;replace iW:=ζ iW;clear uY hx I4 Iu;go_wp2;go_ret2;exact⟨by rw[iW.o];rfl,rfl⟩
def qp (cur:Array Value) (o:Nat) (cs:List Value):Array Value:=(cur.toList.take o ++cs++cur.toList.drop (o + cs.length)).toArray
theorem tK {cur:Array Value} {o:Nat} {cs:List Value} (h:o + cs.length≤cur.size):(qp cur o cs).size=cur.size:=by
 simp only[qp,List.size_toArray,List.length_append,List.length_take,List.length_drop,Array.length_toList];omega
theorem vI {cur:Array Value} {o:Nat} {cs:List Value} (h:o + cs.length≤cur.size) (q:Nat):(qp cur o cs)[q]? = if o≤q∧q<o + cs.length then cs[q-o]? else cur[q]? :=by
 simp only[qp,List.getElem?_toArray,List.append_assoc];have TW:(cur.toList.take o).length=o:=by rw[List.length_take,Array.length_toList];omega
 by_cases h1:q<o
 ·rw[List.getElem?_append_left ω,List.getElem?_take_of_lt h1,if_neg ω];simp
 ·rw[List.getElem?_append_right ω,TW];by_cases h2:q<o + cs.length
  ·rw[List.getElem?_append_left ω,if_pos ω]
  ·rw[List.getElem?_append_right ω,if_neg ω,List.getElem?_drop,show o + cs.length+(q-o - cs.length)=q by omega];simp
theorem XP {w:World} {g o dL dC a b sL sC:Nat} {cur:Array Value} {t:TypeId} {cs:List Value} (hg:w.heap[g]? = some (.cells cur t (0,0))) (hn:cs.length=min sL dL)
 (au9:∀j v,cs[j]? = some v→w.cell? ⟨a,b + j,none⟩=some v) (akh:o + cs.length≤cur.size) (h1:∀v∈cs,v.oneCell'=true) :
 ∃w',(Builtin.copy_ #[51,51] 3 #[.slice (some ⟨g,o,none⟩) dL dC,.slice (some ⟨a,b,none⟩) sL sC]).run Tryz.prog w =.ok (goInt (min sL dL:Nat)) w'∧w'.heap[g]? = some (.cells (qp cur o cs) t (0,0))∧w.grownBy w' (some g):=by
 have hc:=run_copy_row (P:=Tryz.prog) w 51 51 3 50 g o dL dC ⟨a,b,none⟩ sL sC cur t cs Tryz.underlying51 κ hg hn (fun j v hv=>by
  have:=au9 j v hv;have he:(⟨a,b,none⟩:Addr).add j = ⟨a,b + j,none⟩:=by unfold Addr.add;by_cases hj:j = 0 <;> simp[hj]
  rw[he];exact this) akh h1
 refine⟨_,by rw[←hn];exact hc,?_,aF _ _ _⟩;exact setRow_heap w g cur _ t _ hg
theorem ajo {M:Array Value→Type} {a b:Option Addr} {la ca lb cb:Nat} (h1:(a:Option Addr)→(la ca:Nat)→(b:Option Addr)→(lb cb:Nat)→M #[.slice a la ca,.slice b lb cb]) (h2:(x:Array Value)→M x) :
 Extern.SlicesOverlaps.overlaps.match_4 M #[.slice a la ca,.slice b lb cb] h1 h2=h1 a la ca b lb cb:=rfl
theorem Zq {a b:Nat} {oa ob la lb ca cb:Nat} {w:World} {xs ys:Array Value} {t u:TypeId} (ha:w.heap[a]? = some (.cells xs t (0,0))) (hb:w.heap[b]? = some (.cells ys u (0,0))) (hne:a≠b) :
 (callFunc 75 #[.slice (some ⟨a,oa,none⟩) la ca,.slice (some ⟨b,ob,none⟩) lb cb]).run Tryz.prog w =.ok (.value (.bool false)) w:=by
 rw[run_callFunc_extern (e:=Extern.SlicesOverlaps.overlaps #[51,51] #[4]) Tryz.func75 κ κ κ (by rfl)];obtain⟨i,z,hi,hz,hsz,hby,hzs⟩:=CY.info;have hsa:w.shape? a = some (t,xs.size):=by simp[World.shape?,ha]
 have hsb:w.shape? b = some (u,ys.size):=by simp[World.shape?,hb]
 have hfa:∀j,w.frozen? ⟨a,j,none⟩=false:=fun j=>by simp[World.frozen?,ha]
 have Dq:∀j,w.frozen? ⟨b,j,none⟩=false:=fun j=>by simp[World.frozen?,hb]
 have avq:(a != b)=true:=by simpa using hne
 have KO:(a ==b)=false:=by simpa using hne
 unfold Extern.SlicesOverlaps.overlaps;rw[ajo];by_cases h0:la=0∨lb=0
 ·simp[run_underlying Tryz.underlying51,sizeOf,typeInfo,hi,hsz,h0,Result.andThen]
 ·simp[run_underlying Tryz.underlying51,sizeOf,typeInfo,hi,hsz,h0,avq,KO,noView,viewAt,mayBeOne,stringish,hsa,hsb,hfa,Dq,Result.andThen]
theorem ND {P:Program} (w:World) (t tn ty e:TypeId) (i:TypeInfo) (z:Value) (k kn:IntKind) (ht:P.underlying t = some (.slice e)) (htn:P.underlying tn=some (.int kn)) (hi:P.info? e = some i) (hz:i.zero=some z)
 (b:Addr) (LY Y2:Nat) (olds:List Value) (I4:olds.length=LY*i.size) (holds:∀j v,olds[j]? = some v→w.cell? (b.add j)=some v)
 (n:Nat) (h0:0<n) (hs:0<i.size) (hg:Y2<LY+n) (h63:((LY+n:Nat):Int)≤9223372036854775807) (akh:Builtin.nextslicecap (LY+n) Y2*i.bytes≤281474976710656) (h48:n * i.bytes≤281474976710656) :
 (Builtin.append_ #[t,tn] ty #[.slice (some b) LY Y2,.int k n]).run P w =
  .ok (.slice (some ⟨w.heap.size,0,none⟩) (LY+n) (grownCap w (LY+n) Y2 e)) (w.drew.alloc (.cells (olds.toArray++Builtin.zeroCells z.cells n ++Builtin.zeroCells z.cells (grownCap w (LY+n) Y2 e - (LY+n))) e)):=by
 have hn:n≠0:=ω;have hw:IntKind.i64.wrap (n:Int)=n:=by rw[IntKind.wrap_i64];omega
 have hne:¬(LY+n≤Y2):=ω;have awD:¬(9223372036854775807<((LY:Int)+(n:Int))):=ω;have awF:¬(281474976710656<Builtin.nextslicecap (LY+n) Y2*i.bytes):=ω;have awE:¬(281474976710656<(n:Int)*(i.bytes:Int)):=by
  rw[←Int.natCast_mul];omega
 have ao0:¬((n:Int)<0):=ω;have hns:¬(n * i.size=0):=Nat.mul_ne_zero hn ω;have hfo:=run_firstCells_some (P:=P) w.drew i.size LY b LY Y2 olds I4 (by simpa using holds);simp[Builtin.append_,run_underlying ht,run_underlying htn,sizeOf,typeInfo,zeroValue,hi,hz,asInt,asIntOf,hw,ao0,hns,awD,awF,awE,hne,Question.forced,hfo,newRow,grownCap]
def putAt (l:List Nat) (i t:Nat):List Nat:=l.take i ++t ::l.drop i
theorem af2 (l:List Nat) (t:Nat):putAt l l.length t = l ++[t]:=by simp[putAt]
theorem vJ {l:List Nat} {i t:Nat} (h:i≤l.length):(putAt l i t).length=l.length+1:=by
 simp only[putAt,List.length_append,List.length_take,List.length_cons,List.length_drop];omega
theorem aji {l:List Nat} {i t q:Nat} (hi:i≤l.length) (h:q<i):(putAt l i t)[q]? = l[q]? :=by
 unfold putAt;rw[List.getElem?_append_left (by rw[List.length_take];omega),List.getElem?_take_of_lt h]
theorem ajk {l:List Nat} {i t:Nat} (h:i≤l.length):(putAt l i t)[i]? = some t:=by
 unfold putAt;rw[List.getElem?_append_right (by rw[List.length_take];omega),List.length_take,show i - min i l.length=0 by omega];rfl
theorem ajj {l:List Nat} {i t q:Nat} (h:i≤l.length) (hq:i < q):(putAt l i t)[q]? = l[q-1]? :=by
 unfold putAt;rw[List.getElem?_append_right (by rw[List.length_take];omega),List.length_take,show q-min i l.length=(q-1-i)+1 by omega,List.getElem?_cons_succ,List.getElem?_drop,show i + (q-1-i)=q-1 by omega]
def Qp (w:World) (h:Nat) (t:Nat):Prop:=w.heap[h]? = some (.cells #[.int .u64 (t:Int)] 50 (0,0))
theorem Qp.arr {w:World} {h t:Nat} (ho:Qp w h t):dH w 1 lU (some ⟨h,0,none⟩) 1 [t]:=by
 refine⟨rfl,fun _=>⟨h,0,rfl,(Array.getElem?_eq_some_iff.1 ho).1,fun i hi j u hu=> ?_⟩⟩;have hi0:i = 0:=by simpa using hi
 subst hi0;have hj:j = 0:=by have:=(List.getElem?_eq_some_iff.1 hu).1;simp[lU] at this;omega
 subst hj;simp only[World.cell?,show w.heap[h]? = _ from ho];simpa[lU] using hu
def uv (x:Nat):Value:=.int .u64 (x:Int)
theorem aic:∀(l:List Nat),∀v∈l.map uv,v.oneCell'=true:=by intro l v hv;simp only[List.mem_map] at hv;obtain⟨x,_,rfl⟩:=hv;rfl
theorem Jp {l:List Nat} {i t q x:Nat} (hi:i≤l.length) (h:(putAt l i t)[q]? = some x):(q<i∧l[q]? = some x)∨(q=i∧x = t)∨(i < q∧l[q-1]? = some x):=by
 rcases Nat.lt_trichotomy q i with h1 | h1 | h1
 ·rw[aji hi h1] at h;exact .inl ⟨h1,h⟩
 ·subst h1;rw[ajk hi] at h;exact .inr (.inl ⟨rfl,(Option.some.inj h).symm⟩)
 ·rw[ajj hi h1] at h;exact .inr (.inr ⟨h1,h⟩)
theorem aeU {l:List Nat} {i q x:Nat} (h:l[i + q]? = some x):((l.drop i).map uv)[q]? = some (uv x):=by simp[h]
theorem ajK {cur:Array Value} {l:List Nat} {i t:Nat} (hc:∀(q x:Nat),l[q]? = some x→cur[q]? = some (uv x)) (hi:i < l.length) (hsz:l.length+1≤cur.size) :
 ∀(q x:Nat),(putAt l i t)[q]? = some x→(qp (qp cur (i + 1) ((l.drop i).map uv)) i [uv t])[q]? = some (uv x):=by
 intro q x hq;have hl:((l.drop i).map uv).length=l.length-i:=by simp
 have hs1:(qp cur (i + 1) ((l.drop i).map uv)).size=cur.size:=tK ω;rw[vI (by rw[hs1,List.length_singleton];omega)];rcases Jp ω hq with⟨h1,h2⟩ | ⟨rfl,rfl⟩ | ⟨h1,h2⟩
 ·rw[if_neg ω,vI ω,if_neg ω];exact hc q x h2
 ·rw[if_pos σ];simp
 ·have Yx:=(List.getElem?_eq_some_iff.1 h2).1;rw[if_neg (by simp;omega),vI ω,if_pos ω];exact aeU (by rw[show i + (q-(i + 1))=q-1 by omega];exact h2)
theorem amF {cur:Array Value} {l:List Nat} {i t:Nat} (hc:∀(q x:Nat),q<i→l[q]? = some x→cur[q]? = some (uv x)) (hi:i < l.length) (hsz:l.length+1≤cur.size) :
 ∀(q x:Nat),(putAt l i t)[q]? = some x→(qp (qp cur i [uv t]) (i + 1) ((l.drop i).map uv))[q]? = some (uv x):=by
 intro q x hq;have hl:((l.drop i).map uv).length=l.length-i:=by simp
 have hs1:(qp cur i [uv t]).size=cur.size:=tK (by simp;omega);rw[vI ω];rcases Jp ω hq with⟨h1,h2⟩ | ⟨rfl,rfl⟩ | ⟨h1,h2⟩
 ·rw[if_neg ω,vI (by simp;omega),if_neg ω];exact hc q x h1 h2
 ·rw[if_neg ω,vI (by simp;omega),if_pos σ];simp
 ·have Yx:=(List.getElem?_eq_some_iff.1 h2).1;rw[if_pos ω];exact aeU (by rw[show i + (q-(i + 1))=q-1 by omega];exact h2)
theorem Own.Gu {w:World} {base g cap n:Nat} {cur:Array Value} {xs:List Nat} (hb:base≤g) (hh:w.heap[g]? = some (.cells cur 50 (0,0))) (hn:xs.length=n) (yc:n≤cap) (hcm:cap≤maxLen) (hcs:cur.size=cap)
 (hc:∀(q x:Nat),xs[q]? = some x→cur[q]? = some (uv x)):Own w base 50 1 lU (.slice (some ⟨g,0,none⟩) n cap) xs:=by
 subst hn;refine Own.mk_ Qd ω hb hh yc hcm ω (fun q hq r hr=> ?_);have hr0:r = 0:=ω;subst hr0;have:=hc q xs[q] (List.getElem?_eq_getElem hq);simpa[lU,uv] using this
theorem Qp.cell {w:World} {h t:Nat} (ho:Qp w h t):∀(j:Nat) v,[uv t][j]? = some v→w.cell? ⟨h,0+j,none⟩=some v:=by
 intro j v hv;have hj:j = 0:=by have:=(List.getElem?_eq_some_iff.1 hv).1;simp at this;omega
 subst hj;simp only[World.cell?,show w.heap[h]? = _ from ho];simpa[uv] using hv
theorem Qp.iM {w w':World} {h t:Nat} {row:Option Nat} (ho:Qp w h t) (hg:w.grownBy w' row) (hne:some h≠row):Qp w' h t:=(hg.block h (Array.getElem?_eq_some_iff.1 ho).1 hne).trans ho
theorem aef {w:World} {g i:Nat} {cur:Array Value} {t:TypeId} {l:List Nat} (hh:w.heap[g]? = some (.cells cur t (0,0))) (hc:∀(q x:Nat),l[q]? = some x→cur[q]? = some (uv x)) :
 ∀(j:Nat) v,((l.drop i).map uv)[j]? = some v→w.cell? ⟨g,i + j,none⟩=some v:=by
 intro j v hv;simp only[List.getElem?_map,List.getElem?_drop,Option.map_eq_some_iff] at hv;obtain⟨x,hx,rfl⟩:=hv;have:=hc _ x hx;simp only[World.cell?,hh];simpa using this
theorem al6 {w:World} {g i n d cap:Nat} {cur:Array Value} {l:List Nat} (hh:w.heap[g]? = some (.cells cur 50 (0,0))) (hc:∀(q x:Nat),l[q]? = some x→cur[q]? = some (uv x)) (hl:l.length=n) (hi:i < n) (hd:n + 1-i = d) (hroom:cap<n + 1) (hn:n≤1000000) :
 ∃aaq w2 Qn,(Builtin.append_ #[51,3] 51 #[.slice (some ⟨g,0,none⟩) i cap,.int .i64 (d:Int)]).run Tryz.prog w =.ok (.slice (some ⟨w.heap.size,0,none⟩) (n + 1) aaq) w2∧n + 1≤aaq∧aaq≤maxLen∧
  w2.heap[w.heap.size]? = some (.cells Qn 50 (0,0))∧Qn.size=aaq∧(∀(q x:Nat),q<i→l[q]? = some x→Qn[q]? = some (uv x))∧ah w w2:=by
 obtain⟨ti,z,hti,hz,hsz,hby,hzs⟩:=CY.info;have QB:((l.take i).map uv).length=i:=by rw[List.length_map,List.length_take];omega
 have hr:=ND (P:=Tryz.prog) w 51 3 51 50 ti z .i64 .i64 Tryz.underlying51 Tryz.underlying3 hti hz ⟨g,0,none⟩ i cap ((l.take i).map uv) (by rw[QB,hsz,Nat.mul_one]) (fun j v hv=>by
  simp only[List.getElem?_map,Option.map_eq_some_iff] at hv;obtain⟨x,hx,rfl⟩:=hv;have KP:j < i:=by have:=(List.getElem?_eq_some_iff.1 hx).1;rw[List.length_take] at this;omega
  rw[List.getElem?_take_of_lt KP] at hx;have he:(⟨g,0,none⟩:Addr).add j = ⟨g,j,none⟩:=by unfold Addr.add;by_cases hj:j = 0 <;> simp[hj]
  rw[he];simp only[World.cell?,hh];simpa using hc j x hx) d ω ω ω ω (by rw[hby];exact growslice_fits ω ω) (by rw[hby];omega)
 rw[show i + d = n + 1 by omega] at hr;have N9:=grownCap_ge w (n + 1) cap 50;have hcm:=grownCap_le_maxLen w (n + 1) cap 50 (by unfold maxLen;omega);refine⟨_,_,_,hr,N9,hcm,heap_alloc_new w.drew _,?_,?_,(ah.refl w).drew.alloc _⟩
 ·simp only[Array.size_append,size_zeroCells,hzs,List.size_toArray,QB];omega
 ·intro q x hq hx;rw[Array.getElem?_append_left (by simp only[Array.size_append,List.size_toArray,QB];omega),Array.getElem?_append_left (by rw[List.size_toArray,QB];omega)];simp[hq,hx]
theorem Sr {base:Nat} {v:Value} {l:List Nat} {i t h c:Nat} (w:World) (hO:Own w base 50 1 lU v l) (hbase:base≤w.heap.size) (hi:i≤l.length) (hl:l.length≤1000000) (hT:Qp w h t) (hne:∀j,v.ownBlock=some j→j≠h) :
 Calls Tryz.prog 29 #[v,.int .i64 i,.slice (some ⟨h,0,none⟩) 1 c] w fun e w'=>∃v',e =.returned v'∧Own w' base 50 1 lU v' (putAt l i t)∧w.grownBy w' v.ownBlock∧(v'.ownBlock=v.ownBlock∨∃j,v'.ownBlock=some j∧w.heap.size≤j):=by
 obtain⟨A,cap,rfl,apk,hcm,hA⟩:=hO.arr Qd;by_cases Jv:i = l.length
 ·subst Jv;rw[af2];have hOn:=hO;rcases hO.2 with⟨h5,h6⟩ | ⟨g,awN,cur,h5,hb,hh,yc,_,hcs,xJ⟩
  ·injection h5 with h5 h7 h8
   subst h5 h8;have hn:=h6;obtain rfl:l = []:=List.eq_nil_of_length_eq_zero h6;replace hO:=ζ hO;replace hT:=ζ hT;clear hA hne hOn h7 apk hcm hi hl hn h6;go_enter Tryz.func29,Tryz.ntmps29
   go_wp2_with (at_builtin;refine fZ CY rfl (.tmp 23) (.tmp 24) rfl hO.o rfl rfl hT.o.arr Qd Fv hbase (by simp[maxLen]) σ ?_;intro v2 w2 pY nM hv2);go_ret;exact⟨v2,rfl,pY,nM,hv2.imp id (fun h=>⟨_,h,Nat.le_refl _⟩)⟩
  ·simp only[Value.slice.injEq] at h5;obtain⟨rfl,_,rfl⟩:=h5;clear hb hh yc hcs xJ;generalize hn:l.length=n at *
   replace hn:=ζ hn;replace hO:=ζ hO;replace hT:=ζ hT;clear hA hne hi hOn;unfold maxLen at hcm;go_enter Tryz.func29,Tryz.ntmps29
   go_wp2_with (at_builtin;refine fZ CY rfl (.tmp 23) (.tmp 24) rfl hO.o rfl rfl hT.o.arr Qd Fv hbase (by rw[hn.o];unfold maxLen;omega) (by rw[hn.o];omega) ?_;intro v2 w2 pY nM hv2);all_goals (go_ret;exact⟨v2,rfl,pY,nM,hv2.imp id (fun h=>⟨_,h,Nat.le_refl _⟩)⟩)
 ·have avI:i < l.length:=ω;clear Jv;obtain⟨g,awN,cur,h5,hb,hh,yc,_,hcs,xJ⟩:=hO.2.resolve_left (fun h=>by have:=h.2;omega);simp only[Value.slice.injEq] at h5;obtain⟨rfl,_,rfl⟩:=h5;obtain⟨Qn,_,_,hh2,_,_,amS,hcell⟩:=hO.Ba Qd;obtain rfl:Qn=cur:=by rw[hh] at hh2;injection hh2 with h;injection h with h;exact h.symm
  have hgh:g≠h:=hne g rfl;replace hcell:∀(q x:Nat),l[q]? = some x→Qn[q]? = some (uv x):=fun q x hx=>by
   obtain⟨h1,rfl⟩:=List.getElem?_eq_some_iff.1 hx;simpa[lU,uv] using hcell q h1 0 ω
  rw[Nat.mul_one] at hcs;clear hh2 amS xJ hA hne;generalize hn:l.length=n at *
  unfold maxLen at hcm;have azp:((i:Int)==(n:Int))=false:=by rw[beq_eq_false_iff_ne];omega
  by_cases hroom:n + 1≤cap
  ·have hri:¬(cap:Int)<(n:Int)+1:=ω;have hov:=fun (c1:Nat)=>Zq (oa:=0) (ob:=i + 1) (la:=1) (lb:=n - i) (ca:=c) (cb:=c1) hT hh (Ne.symm hgh)
   replace hn:=ζ hn;replace hO:=ζ hO;replace hT:=ζ hT;replace hh:=ζ hh;replace hcell:=ζ hcell;go_enter Tryz.func29,Tryz.ntmps29
   go_wp2;have hgl:g < w.heap.size:=(Array.getElem?_eq_some_iff.1 hh.o).1;refine aJ κ ?_;refine rK (.range 8) 1 ?_;iterate 8 refine aB ?_
   refine ay ?_;refine dI (i:=8) rfl κ κ (fun wN hN hS K' hK=> ?_);clear hS;have hhN:=(hN.below.block g hgl).trans hh.o;have hdl:((l.drop i).map uv).length=n - i:=by rw[List.length_map,List.length_drop,hn.o]
   obtain⟨w2,hcp,hh2,nM⟩:=XP (o:=i + 1) (dL:=n - i) (dC:=cap-(i + 1)) (sL:=n + 1-i) (sC:=cap-i) hhN (by rw[hdl];omega) (aef (i:=i) hhN hcell.o) (by rw[hdl,hcs];omega) (aic _);have hTN:=ζ (Qp.iM (Qp.iM hT.o (hN.yR none) σ) nM (by simpa using Ne.symm hgh));have apo:Hid (w.grownBy w2 (some g)):=ζ ((hN.yR _).trans nM);replace hh2:=ζ hh2;clear hhN hN hdl nM;go_simp;refine hK.o _ _ ?_;clear hK hcp;have Yw:(qp Qn (i + 1) ((l.drop i).map uv)).size=cap:=by rw[tK (cur:=Qn) (o:=i + 1) (cs:=(l.drop i).map uv) (by rw[List.length_map,List.length_drop,hn.o,hcs];omega),hcs]
   have hsB:(qp (qp Qn (i + 1) ((l.drop i).map uv)) i [uv t]).size=cap:=by rw[tK (cur:=qp Qn (i + 1) ((l.drop i).map uv)) (o:=i) (cs:=[uv t]) (by rw[Yw,List.length_singleton];omega),Yw]
   obtain⟨w3,avU,hh3,iT⟩:=XP (o:=i) (dL:=n + 1-i) (dC:=cap-i) (sL:=1) (sC:=c) hh2.o (by rw[List.length_singleton];omega) hTN.o.cell (by rw[Yw,List.length_singleton];omega) (by intro v hv;rw[List.mem_singleton] at hv;subst hv;rfl);have aQ:=Own.Gu (base:=base) hb hh3 (vJ (t:=t) (by have:=hn.o;omega)) (by have:=hn.o;omega) (by unfold maxLen;omega) hsB (ajK (t:=t) hcell.o (by have:=hn.o;omega) (by have:=hn.o;omega));clear Yw hsB;rw[hn.o] at aQ;replace aQ:=ζ aQ;replace apo:=ζ (apo.o.trans iT);clear hh2 hTN hh3 iT;go_wp2;go_ret;exact⟨_,rfl,aQ.o,apo.o,.inl rfl⟩
  ·have hri:(cap:Int)<(n:Int)+1:=ω;obtain⟨d,hd⟩:∃d,n + 1-i = d:=⟨_,rfl⟩;have hdi:(n:Int)+1-(i:Int)=(d:Int):=ω;obtain⟨aaq,w2,anl,hrun,O9,MI,hh2,asZ,hc3,iC⟩:=al6 (cap:=cap) hh hcell hn avI hd ω hl;have SX:=MI;unfold maxLen at SX;have hgl:g < w.heap.size:=(Array.getElem?_eq_some_iff.1 hh).1;have hhl:h < w.heap.size:=(Array.getElem?_eq_some_iff.1 hT).1;have hhh:Hid (w2.heap[g]? = some (.cells Qn 50 (0,0))):=ζ ((iC.below.block g hgl).trans hh);have hT2:Qp w2 h t:=Qp.iM hT (iC.yR none) σ;obtain⟨w3,avU,hh3,iT⟩:=XP (o:=i) (dL:=n + 1-i) (dC:=aaq-i) (sL:=1) (sC:=c) (cur:=anl) hh2 (by rw[List.length_singleton];omega) hT2.cell (by rw[List.length_singleton,asZ];omega) (by intro v hv;rw[List.mem_singleton] at hv;subst hv;rfl);have hh4:Hid (w3.heap[g]? = some (.cells Qn 50 (0,0))):=ζ ((iT.block g (Nat.lt_of_lt_of_le hgl iC.size) (by simp;omega)).trans hhh.o);have uj:Hid (ah w w3):=ζ (iC.bH iT (fun j hj=>by injection hj with hj;omega));have Yw:Hid ((qp anl i [uv t]).size=aaq):=ζ (by rw[tK (cur:=anl) (o:=i) (cs:=[uv t]) (by rw[List.length_singleton];omega),asZ]);generalize hG:w.heap.size=G at *
   replace hn:=ζ hn;replace hO:=ζ hO;replace hT:=ζ hT;replace hh:=ζ hh;replace hcell:=ζ hcell;replace hd:=ζ hd;replace hh3:=ζ hh3;replace hc3:=ζ hc3;clear hh2 hT2 hhh iT iC;go_enter Tryz.func29,Tryz.ntmps29
   go_wp2_with (at_builtin;refine Lib.wpList_append_run _ rfl (.tmp 34) (.tmp 39) _ _ rfl _ _ rfl rfl _ _ hrun ?_);clear hrun;have avO:g < w3.heap.size:=(Array.getElem?_eq_some_iff.1 hh4.o).1;refine aJ κ ?_;refine rK (.range 8) 1 ?_;iterate 8 refine aB ?_
   refine ay ?_;refine dI (i:=8) rfl κ κ (fun wN hN hS K' hK=> ?_);clear hS;have hhN:=(hN.below.block g avO).trans hh4.o;have hhM:=(hN.below.block G (Array.getElem?_eq_some_iff.1 hh3.o).1).trans hh3.o;have hdl:((l.drop i).map uv).length=n - i:=by rw[List.length_map,List.length_drop,hn.o]
   obtain⟨w5,hcp,hh5,jG⟩:=XP (o:=i + 1) (dL:=n - i) (dC:=aaq-(i + 1)) (sL:=n - i) (sC:=cap-i) hhM (by rw[hdl];omega) (aef (i:=i) hhN hcell.o) (by rw[hdl,Yw.o];omega) (aic _);have aQ:=Own.Gu (base:=base) ω hh5 (vJ (t:=t) (by have:=hn.o;omega)) (by have:=hn.o;omega) MI (by rw[tK (cur:=qp anl i [uv t]) (o:=i + 1) (cs:=(l.drop i).map uv) (by rw[hdl,Yw.o];omega),Yw.o]) (amF (t:=t) hc3.o (by have:=hn.o;omega) (by have:=hn.o;omega));rw[hn.o] at aQ;replace aQ:=ζ aQ;have vV:Hid (ah w w5):=ζ ((uj.o.trans hN).bH jG (fun j hj=>by injection hj with hj;omega));clear hhN hhM hN hdl jG hh5;go_simp;refine hK.o _ _ ?_;clear hK hcp;go_wp2;go_ret;exact⟨_,rfl,aQ.o,vV.o.yR _,.inr ⟨G,rfl,Nat.le_refl _⟩⟩
end Go.Proofs.YteojanlajhebhaaGreatDoor
