/- Parts: ClkE EngM Shelf6 HexA LetA LetB SilJ SlX -/
import Derived.Test.YtbhikkgpcmkonaaGreatDoorVa0
import Derived.Test.YtbhikkgpcmkonaaGreatDoorVa16
import Derived.Test.YtbhikkgpcmkonaaGreatDoorVa9
import Derived.Maps.RangeWalk
import Derived.Test.YtbhikkgpcmkonaaGreatDoorVa5
import Derived.Shelf.Strings.BuilderK
import Derived.Shelf.Unicode.ValidAny
import Derived.Test.YtbhikkgpcmkonaaGreatDoorProg
import Derived.Test.YtbhikkgpcmkonaaGreatDoorVa11
import Derived.Test.YtbhikkgpcmkonaaGreatDoorVa6
import Derived.Test.YtbhikkgpcmkonaaGreatDoorVa7
import Derived.Test.YtbhikkgpcmkonaaGreatDoorVa14
set_option maxRecDepth 100000
set_option maxHeartbeats 12800000
namespace Go.Proofs.YtbhikkgpcmkonaaGreatDoor
open Go.RowKit
theorem jf {w W:World} {g:Nat} (h:w.grownBy W (some g)) (i:Nat) (u:Value):w.grownBy (W.setCell ⟨g,i,none⟩ u) (some g):=h.trans (aj W ⟨g,i,none⟩ u)
theorem JZ {w1 W:World} {base g:Nat} {c:Uc} {v:Value} {cs:Array Value} (hg:w1.grownBy W (some g)) (hB:aF w1 g 180 cs) (I9:aF W g 180 (O8 c v)) (hT:Own w1 base 33 1 kK v c.told) (ok:Y3 c) (VX:jq c.told) (len:c.told.length≤12):wo W base g c v:=
 ⟨I9,hT.kept' hg (fun g' jw=>by injection jw with jw;subst jw;exact aZ hT hB δ),ok,VX,len⟩
theorem VN {base g:Nat} {c:Uc} {v:Value} {A:Option Addr} {m k:Nat} {ids:List Nat} {now:Int} (w:World) (hC:wo w base g c v) (hbg:base≤g) (hA:∀W,w.grownBy W (some g)→bW W 1 kK A m ids) (hm:m≤12) (hs:jq ids) (h0:0≤now) (h1:now≤fC) (hn:c.now≤now) :
 Calls Tryz.prog 46 #[.pointer (some ⟨g,0,none⟩),.int .i64 now,.slice A m k] w fun e w'=>∃v',e =.returned (.tuple #[.bool (CJ c now ids),.int .i64 0])∧wo w' base g (D5 c now ids) v'∧w.grownBy w' (some g):=by
 have PN:=hA w (World.grownBy.refl _ _);have cD:=ζ (ank (k:=k) w hC PN hm hs h0 h1 hn);have cS:=ζ (fun W (hW:w.grownBy W (some g))=>Yx (c:=k) W (hA W hW) hm hs);have lJ:=PN.1;have auM:Hid (ids.length≤12):=ζ ω;have oh:=ζ (anR hC.ok h0 h1 ids);have hB:=hC.blk;have hT:=hC.told;have hsr:=ζ hC.VX;have hle:=ζ hC.len;have EJ:=hB.lt;obtain⟨wt,ev,ag,fi,la,nw,tO⟩:=c;unfold O8 at hB;simp only at *
 have hne:ids=[]↔m = 0:=by
  constructor
  ·intro h;rw[←lJ,h];rfl
  ·intro h;exact List.eq_nil_of_length_eq_zero ω
 have hdz:m = 0→CJ ⟨wt,ev,ag,fi,la,nw,tO⟩ now ids=false:=fun h=>by unfold CJ;rw[hne.2 h];simp
 have Oy:D5 ⟨wt,ev,ag,fi,la,nw,tO⟩ now ids=if CJ ⟨wt,ev,ag,fi,la,nw,tO⟩ now ids=true then ⟨wt,ev,ag,if m = 0 then -1 else if fi=-1 then now else fi,now,now,ids⟩ else ⟨wt,ev,ag,if m = 0 then -1 else if fi=-1 then now else fi,la,now,tO⟩:=by
  unfold D5 JV;simp only[hne]
 generalize hAs:D5 ⟨wt,ev,ag,fi,la,nw,tO⟩ now ids=AS at *
 generalize CJ ⟨wt,ev,ag,fi,la,nw,tO⟩ now ids=D at *
 clear hAs hA PN hC lJ;have h1':¬1099511627776<now:=by unfold fC at h1;omega
 have hn':¬now<nw:=ω;have b3:=hB.c3;have b5:=hB.c5;obtain⟨Z,hZ⟩:∃Z,((m:Int)==0)=Z:=⟨_,rfl⟩;obtain⟨F,hF⟩:∃F,(fi==-1)=F:=⟨_,rfl⟩;replace hB:=ζ hB;replace hT:=ζ hT;replace Oy:=ζ Oy;replace hdz:=ζ hdz;replace hne:=ζ hne;have hZm:Hid (Z=decide (m = 0)):=ζ (by rw[←hZ];by_cases h:m = 0 <;> simp[h]);have hFm:Hid (F=decide (fi=-1)):=ζ (by rw[←hF];by_cases h:fi=-1 <;> simp[h]);go_enter Tryz.func46,Tryz.ntmps46
 go_wp2_with fail;refine cD.out.mono ?_;rintro e w1 ⟨rfl,hb1⟩;replace hB:=ζ (hB.o.grows hb1);replace hT:=ζ (hT.o.grows hb1);have hg1:Hid (w.grownBy w1 (some g)):=ζ (hb1.keeps _);have hz1:=hb1.size;replace b3:w1.cell? ⟨g,3,none⟩=some (.int .i64 fi):=hb1.cell b3;replace b5:w1.cell? ⟨g,5,none⟩=some (.int .i64 nw):=hb1.cell b5;have f5:=hB.o.frozen 5;have f3:=hB.o.frozen 3;have f4:=hB.o.frozen 4;have f6:=hB.o.frozen 6;have b4:=hB.o.c4;have aEX:=hB.o.lt;clear cD hb1;cases Z
 ·cases F
  ·cases D
   ·have Bg:¬m = 0:=by have:=hZm.o;simpa using this.symm
    have Tc:¬fi=-1:=by have:=hFm.o;simpa using this.symm
    have hAS:AS=⟨wt,ev,ag,fi,la,now,tO⟩:=by rw[Oy.o];simp[Bg,Tc]
    clear Bg Tc;subst hAS;go_wp2_with fail;go_ret2;exact⟨v,rfl,JZ (aj w1 ⟨g,5,none⟩ (.int .i64 now)) hB.o (by have h:=hB.o.bD 5 (.int .i64 now);simpa[O8] using h) hT.o oh.o hsr.o hle.o,hg1.o.trans (aj w1 ⟨g,5,none⟩ (.int .i64 now))⟩
   ·have Bg:¬m = 0:=by have:=hZm.o;simpa using this.symm
    have Tc:¬fi=-1:=by have:=hFm.o;simpa using this.symm
    have hAS:AS=⟨wt,ev,ag,fi,now,now,ids⟩:=by rw[Oy.o];simp[Bg,Tc]
    clear Bg Tc;subst hAS;have hgW:=ζ (aj w1 ⟨g,5,none⟩ (.int .i64 now));have Vx:=ζ (hB.o.bD 5 (.int .i64 now));go_wp2_with fail;refine (cS.out _ (hg1.o.trans hgW.o)).mono ?_;rintro e w2 ⟨v2,rfl,nI,hb2⟩;have hzW:=hgW.o.size;replace Vx:=ζ (Vx.o.grows hb2);have hg2:=ζ ((hg1.o.trans hgW.o).trans (hb2.keeps _));have e4:=Vx.o.frozen 4;have e6:=Vx.o.frozen 6;have l2:=Vx.o.lt;have c4:w2.cell? ⟨g,4,none⟩=some (.int .i64 la):=by have h:=Vx.o.cell 4;simpa using h
    have c6:w2.cell? ⟨g,6,none⟩=some v:=by have h:=Vx.o.cell 6;simpa using h
    have ajJ:=ζ (nI.bJ (show base≤_ by omega));clear b3 b4 b5 f3 f4 f5 f6 nI hb2 hgW;obtain⟨A2,k2,rfl,-,-,-⟩:=ajJ.o.arr Pz;go_wp2_with fail;go_ret2;exact⟨_,rfl,JZ (jf (aj w2 ⟨g,4,none⟩ (.int .i64 now)) 6 _) Vx.o (by have h:=(Vx.o.bD 4 (.int .i64 now)).bD 6 (.slice A2 ids.length k2);simpa[O8] using h) ajJ.o oh.o (by exact hs) auM.o,jf (jf hg2.o 4 _) 6 _⟩
  ·cases D
   ·have Bg:¬m = 0:=by have:=hZm.o;simpa using this.symm
    have Tc:fi=-1:=by have:=hFm.o;simpa using this.symm
    have hAS:AS=⟨wt,ev,ag,now,la,now,tO⟩:=by rw[Oy.o];simp[Bg,Tc]
    clear Bg Tc;subst hAS;go_wp2_with fail;go_ret2;exact⟨v,rfl,JZ (jf (aj w1 ⟨g,5,none⟩ (.int .i64 now)) 3 (.int .i64 now)) hB.o (by have h:=(hB.o.bD 5 (.int .i64 now)).bD 3 (.int .i64 now);simpa[O8] using h) hT.o oh.o hsr.o hle.o,hg1.o.trans (jf (aj w1 ⟨g,5,none⟩ (.int .i64 now)) 3 (.int .i64 now))⟩
   ·have Bg:¬m = 0:=by have:=hZm.o;simpa using this.symm
    have Tc:fi=-1:=by have:=hFm.o;simpa using this.symm
    have hAS:AS=⟨wt,ev,ag,now,now,now,ids⟩:=by rw[Oy.o];simp[Bg,Tc]
    clear Bg Tc;subst hAS;have hgW:=ζ (jf (aj w1 ⟨g,5,none⟩ (.int .i64 now)) 3 (.int .i64 now));have Vx:=ζ ((hB.o.bD 5 (.int .i64 now)).bD 3 (.int .i64 now));go_wp2_with fail;refine (cS.out _ (hg1.o.trans hgW.o)).mono ?_;rintro e w2 ⟨v2,rfl,nI,hb2⟩;have hzW:=hgW.o.size;replace Vx:=ζ (Vx.o.grows hb2);have hg2:=ζ ((hg1.o.trans hgW.o).trans (hb2.keeps _));have e4:=Vx.o.frozen 4;have e6:=Vx.o.frozen 6;have l2:=Vx.o.lt;have c4:w2.cell? ⟨g,4,none⟩=some (.int .i64 la):=by have h:=Vx.o.cell 4;simpa using h
    have c6:w2.cell? ⟨g,6,none⟩=some v:=by have h:=Vx.o.cell 6;simpa using h
    have ajJ:=ζ (nI.bJ (show base≤_ by omega));clear b3 b4 b5 f3 f4 f5 f6 nI hb2 hgW;obtain⟨A2,k2,rfl,-,-,-⟩:=ajJ.o.arr Pz;go_wp2_with fail;go_ret2;exact⟨_,rfl,JZ (jf (aj w2 ⟨g,4,none⟩ (.int .i64 now)) 6 _) Vx.o (by have h:=(Vx.o.bD 4 (.int .i64 now)).bD 6 (.slice A2 ids.length k2);simpa[O8] using h) ajJ.o oh.o (by exact hs) auM.o,jf (jf hg2.o 4 _) 6 _⟩
 ·cases F
  ·cases D
   ·have Bg:m = 0:=by have:=hZm.o;simpa using this.symm
    have hAS:AS=⟨wt,ev,ag,-1,la,now,tO⟩:=by rw[Oy.o];simp[Bg]
    clear Bg;subst hAS;go_wp2_with fail;go_ret2;exact⟨v,rfl,JZ (jf (aj w1 ⟨g,5,none⟩ (.int .i64 now)) 3 (.int .i64 (-1))) hB.o (by have h:=(hB.o.bD 5 (.int .i64 now)).bD 3 (.int .i64 (-1));simpa[O8] using h) hT.o oh.o hsr.o hle.o,hg1.o.trans (jf (aj w1 ⟨g,5,none⟩ (.int .i64 now)) 3 (.int .i64 (-1)))⟩
   ·exact absurd (hdz.o (by have:=hZm.o;simpa using this.symm)) σ
  ·cases D
   ·have Bg:m = 0:=by have:=hZm.o;simpa using this.symm
    have hAS:AS=⟨wt,ev,ag,-1,la,now,tO⟩:=by rw[Oy.o];simp[Bg]
    clear Bg;subst hAS;go_wp2_with fail;go_ret2;exact⟨v,rfl,JZ (jf (aj w1 ⟨g,5,none⟩ (.int .i64 now)) 3 (.int .i64 (-1))) hB.o (by have h:=(hB.o.bD 5 (.int .i64 now)).bD 3 (.int .i64 (-1));simpa[O8] using h) hT.o oh.o hsr.o hle.o,hg1.o.trans (jf (aj w1 ⟨g,5,none⟩ (.int .i64 now)) 3 (.int .i64 (-1)))⟩
   ·exact absurd (hdz.o (by have:=hZm.o;simpa using this.symm)) σ
theorem aku {a b r:Int} (w:World):Calls Tryz.prog 45 #[.int .i64 a,.int .i64 b,.int .i64 r] w fun e w'=>∃g,e =.returned (.pointer (some ⟨g,0,none⟩))∧w.heap.size≤g∧wo w' w.heap.size g (FP a b r) (.slice none 0 0)∧ah w w':=by
 have hv:FP a b r = ⟨min (max a 0) 1000,min (max b 1) 1000,min (max r (min (max b 1) 1000)) 100000,-1,-1,0,[]⟩:=rfl;have oh:=ζ (al4 a b r);generalize FP a b r = C at *
 go_enter Tryz.func45,Tryz.ntmps45
 go_wp2;go_ret;refine⟨_,rfl,Nat.le_refl _,⟨?_,?_,oh.o,?_,?_⟩,?_⟩
 ·subst hv;exact aF.new w _ _
 ·subst hv;exact Own.iH _ _ _ _ _
 ·subst hv;exact List.Pairwise.nil
 ·subst hv;exact Nat.zero_le _
 ·exact γ
end Go.Proofs.YtbhikkgpcmkonaaGreatDoor
namespace Go.Proofs.YtbhikkgpcmkonaaGreatDoor
open Go.RowKit Go.Maps Go.WideMaps
def UK (o:Option Nat):Value:=.pointer (o.map fun n=>⟨n,0,none⟩)
def yF (v:Value):Option (DataW Unit×List MemPlace):=match v with
 | .pointer none=>some (.nil,[])
 | .pointer (some ⟨b,0,none⟩)=>some (.lit (.int .i64 (b:Int)),[])
 | _=>none
def TN (o:Option Nat):DataW Unit:=match o with
 | none=> .nil
 | some b=> .lit (.int .i64 (b:Int))
theorem yE (o:Option Nat):yF (UK o)=some (TN o,[]):=by cases o <;> rfl
theorem Jm {v:Value} {y:DataW Unit×List MemPlace} (h:yF v = some y):∃o,v = UK o:=by
 unfold yF at h;split at h
 ·exact⟨none,rfl⟩
 ·exact⟨some _,rfl⟩
 ·cases h
theorem JY {o o':Option Nat} (h:TN o = TN o'):o = o':=by
 unfold TN at h;cases o <;> cases o' <;> simp at h ⊢
 omega
def fJ {α:Type} (l:List (List UInt8×α)) (s:List UInt8):Option α:=(l.find? fun x=>decide (x.1=s)).map (·.2)
theorem qL {α:Type} (x:List UInt8×α) (l:List (List UInt8×α)) (s:List UInt8):fJ (x ::l) s = if x.1=s then some x.2 else fJ l s:=by
 unfold fJ;rw[List.find?_cons];by_cases h:x.1=s <;> simp[h]
theorem zS {α:Type} {s:List UInt8} {v:α}:∀{l:List (List UInt8×α)},fJ l s = none→∀t,fJ (l ++[(s,v)]) t = if s = t then some v else fJ l t
 | [],_,t=>by rw[List.nil_append,qL]
 | x ::l,h,t=>by
  rw[qL] at h;split at h
  ·cases h
  ·rename_i hx;rw[List.cons_append,qL,qL,zS h t];by_cases h1:x.1=t
   ·have:s≠t:=fun e=>hx (h1.trans e.symm)
    simp[h1,this]
   ·simp[h1]
theorem Ju {α:Type} {l:List (List UInt8×α)} {s:List UInt8} {v:α} (h:fJ l s = some v):(s,v)∈l:=by
 unfold fJ at h;obtain⟨x,hx,rfl⟩:=Option.map_eq_some_iff.1 h;have h1:=List.find?_some hx;simp only[decide_eq_true_eq] at h1;have h2:=List.mem_of_find?_eq_some hx;rw[←h1];exact h2
theorem vF {α:Type}:∀{l:List (List UInt8×α)},(l.map (·.1)).Nodup→∀{s:List UInt8} {v:α},(s,v)∈l→fJ l s = some v
 | x ::l,hn,s,v,hm=>by
  rw[List.map_cons,List.nodup_cons] at hn;rw[qL];rcases List.mem_cons.1 hm with rfl | hm
  ·simp
  ·have:x.1≠s:=fun e=>hn.1 (List.mem_map.2 ⟨(s,v),hm,e.symm⟩)
   rw[if_neg this];exact vF hn.2 hm
theorem zT {α:Type} {l:List (List UInt8×α)} {s:List UInt8} (h:∀x∈l,x.1≠s):fJ l s = none:=by
 unfold fJ;rw[List.find?_eq_none.2 (fun x hx=>by simpa using h x hx)];rfl
structure AO (D:DataW Unit) (l:List (List UInt8×Nat)):Prop where
 at_:∀s z,D.atKey (.string s) z = match fJ l s with | some n=>TN (some n) | none=>z
 has:∀s,Maps.has D (.string s)=(fJ l s).isSome
 size:Maps.size D=l.length
def vX (w:World) (b n:Nat) (l:List (List UInt8×Nat)):Prop:=∃D,w.ownsMap (H:=Unit) Tryz.prog 9 yF b n D∧AO D l
theorem zV:Keyed Tryz.prog 9:=string_keyed Tryz.underlying9
theorem atK {s:List UInt8} (hs:s.length≤1000000):keyOf Tryz.prog 9 (.string ⟨s.toArray⟩)=some (.string s):=by
 simpa using keyOf_string_mk Tryz.underlying9 (s:=⟨s.toArray⟩) (by simp[ByteArray.size];unfold maxLen;omega)
theorem vX.made (w:World):vX (w.alloc (.map #[] 0)) w.heap.size 0 []:=⟨.map [],World.ownsMap_made w Tryz.prog 9 _,⟨fun _ _=>rfl,fun _=>rfl,rfl⟩⟩
theorem vX.lt {w:World} {b n:Nat} {l:List (List UInt8×Nat)} (h:vX w b n l):b < w.heap.size:=by obtain⟨D,h,_⟩:=h;exact World.ownsMap.lt h
theorem vX.kept {w w':World} {b n:Nat} {l:List (List UInt8×Nat)} {row:Option Nat} (h:vX w b n l) (hg:w.grownBy w' row) (hne:some b≠row):vX w' b n l:=by
 obtain⟨D,h,hs⟩:=h;exact⟨D,World.ownsMap.kept h hg hne,hs⟩
theorem vX.grows {w w':World} {b n:Nat} {l:List (List UInt8×Nat)} (h:vX w b n l) (hg:ah w w'):vX w' b n l:=h.kept (hg.keeps none) σ
theorem vX.aX {w:World} {b n:Nat} {l:List (List UInt8×Nat)} (h:vX w b n l):∀cur e fz,w.heap[b]?≠some (.cells cur e fz):=by
 obtain⟨D,⟨es,clock,hb,_⟩,_⟩:=h;intro cur e fz hc;rw[hb] at hc;cases hc
theorem vX.look {w:World} {b n:Nat} {l:List (List UInt8×Nat)} (h:vX w b n l) {s:List UInt8} (hs:s.length≤1000000) :
 (Instr.lookup 116 (.map (some b)) (.string ⟨s.toArray⟩) false).run Tryz.prog w =.ok (UK (fJ l s)) w:=by
 obtain⟨D,h,hD⟩:=h;obtain⟨v,ps,hrun,hv⟩:=World.ownsMap.lookup h zV Tryz.underlying116 (z:=.pointer none) κ (yE none) (atK hs);rw[hD.at_] at hv;obtain⟨o,rfl⟩:=Jm hv;rw[yE] at hv;simp only[Option.some.injEq,Prod.mk.injEq] at hv;have:o = fJ l s:=by
  have h1:=hv.1;cases hl:fJ l s with
  | none=>rw[hl] at h1;exact JY h1
  | some n=>rw[hl] at h1;exact JY h1
 rw[←this];exact hrun
theorem vX.put {w:World} {b n:Nat} {l:List (List UInt8×Nat)} (h:vX w b n l) (hn:n≤1000000) {s:List UInt8} (hs:s.length≤1000000) (hno:fJ l s = none) (g:Nat) :
 ∃w',(Instr.mapUpdate 116 (.map (some b)) (.string ⟨s.toArray⟩) (.pointer (some ⟨g,0,none⟩))).run Tryz.prog w =.ok () w'∧vX w' b (n + 1) (l ++[(s,g)])∧w.grownBy w' (some b):=by
 obtain⟨D,h,hD⟩:=h;obtain⟨w',h1,h2,h3⟩:=World.ownsMap.update h zV Tryz.underlying116 (by unfold maxLen;omega) (atK hs) (yE (some g));have hm:=World.ownsMap.isMap h;have ht:=World.ownsMap.tidy h zV;refine⟨w',h1,⟨_,h2,⟨fun t z=> ?_,fun t=> ?_,?_⟩⟩,h3⟩
 ·rw[zS hno];by_cases he:s = t
  ·subst he;rw[if_pos rfl,atKey_put_same hm (yL _)]
  ·have hne:(Lit.string t)≠.string s:=fun e=>he (Lit.string.inj e).symm
   rw[if_neg he,atKey_put_other hne];exact hD.at_ t z
 ·rw[zS hno];by_cases he:s = t
  ·subst he;rw[if_pos rfl,has_put_same hm (yL _)];rfl
  ·have hne:(Lit.string t)≠.string s:=fun e=>he (Lit.string.inj e).symm
   rw[if_neg he,has_put_other hne];exact hD.has t
 ·rw[size_put ht,hD.has,hno];simp[hD.size]
theorem UQ {α:Type} {l:List (List UInt8×α)} (hn:(l.map (·.1)).Nodup) (q:List UInt8×α→Bool) (s:List UInt8):fJ (l.filter q) s = (fJ l s).filter fun v=>q (s,v):=by
 cases h:fJ l s with
 | none=>
  refine zT fun x hx e=> ?_
  have:=vF hn (s:=s) (v:=x.2) (by rw[←e];exact (List.mem_filter.1 hx).1);rw[h] at this;cases this
 | some v=>
  have hm:=Ju h;cases hq:q (s,v) with
  | true=>
   have:fJ (l.filter q) s = some v:=vF (List.Nodup.sublist (List.filter_sublist.map _) hn) (List.mem_filter.2 ⟨hm,hq⟩);rw[this];simp[Option.filter,hq]
  | false=>
   have:fJ (l.filter q) s = none:=zT fun x hx e=>by
    obtain⟨h1,h2⟩:=List.mem_filter.1 hx;have h3:=vF hn (s:=s) (v:=x.2) (by rw[←e];exact h1);rw[h] at h3;injection h3 with h3
    have:x = (s,v):=Prod.ext e h3.symm;rw[this,hq] at h2;cases h2
   rw[this];simp[Option.filter,hq]
theorem AO.entry {D:DataW Unit} {l:List (List UInt8×Nat)} (h:AO D l) {s:List UInt8} {o:Option Nat} (hat:∀zd,D.atKey (.string s) zd=TN o):∃n,o = some n∧fJ l s = some n:=by
 have h1:=hat .nil;have h2:=hat (.lit (.bool true));rw[h.at_] at h1 h2;cases hl:fJ l s with
 | none=>
  rw[hl] at h1 h2;simp only at h1 h2;rw[←h1] at h2;cases h2
 | some n=>
  rw[hl] at h1;exact⟨n,(JY h1).symm,rfl⟩
theorem AO.del {D:DataW Unit} {l:List (List UInt8×Nat)} (h:AO D l) (ht:Tidy D) (hn:(l.map (·.1)).Nodup) (s:List UInt8):AO (D.del (.string s)) (l.filter fun x=>decide (x.1≠s)):=by
 have hl:∀t,fJ (l.filter fun x=>decide (x.1≠s)) t = if t = s then none else fJ l t:=fun t=>by
  rw[UQ hn];by_cases e:t = s
  ·simp only[e,if_true];cases fJ l s <;> simp[Option.filter]
  ·simp only[e,if_false];cases fJ l t <;> simp[Option.filter,e]
 refine⟨fun t z=> ?_,fun t=> ?_,?_⟩
 ·rw[hl];by_cases e:t = s
  ·subst e;rw[if_pos rfl,atKey_del_same]
  ·have hne:(Lit.string t)≠.string s:=fun x=>e (Lit.string.inj x)
   rw[if_neg e,atKey_del_other hne];exact h.at_ t z
 ·rw[hl];by_cases e:t = s
  ·subst e;rw[if_pos rfl,has_del_same];rfl
  ·have hne:(Lit.string t)≠.string s:=fun x=>e (Lit.string.inj x)
   rw[if_neg e,has_del_other hne];exact h.has t
 ·have hz:=size_del (k:=.string s) ht;rw[h.has,h.size] at hz;have hc:∀l:List (List UInt8×Nat),(l.map (·.1)).Nodup→(l.filter fun x=>decide (x.1≠s)).length+(if (fJ l s).isSome then 1 else 0)=l.length:=by
   intro l;induction l with
   | nil=>intro _;rfl
   | cons x r ih=>
    intro hn;rw[List.map_cons,List.nodup_cons] at hn;have:=ih hn.2;rw[List.filter_cons,qL];by_cases e:x.1=s
    ·have hno:fJ r s = none:=zT fun y hy e2=>hn.1 (List.mem_map.2 ⟨y,hy,e2.trans e.symm⟩)
     rw[hno] at this;simp[e] at this ⊢;omega
    ·simp[e] at this ⊢;omega
  have:=hc l hn;omega
end Go.Proofs.YtbhikkgpcmkonaaGreatDoor
namespace Go.Proofs
open Go.Shelf
def Tryz.Oc:Go.Shelf.Ren:=⟨fun | 169=>169 | n=>n,fun | 70=>270 | 9=>9 | 0=>0 | 72=>272 | 37=>112 | 127=>315 | 3=>3 | 5=>5 | n=>n,fun | n=>n⟩
theorem Tryz.apE:Go.Proofs.Lays.n169 Tryz.prog Tryz.Oc:={
 mixed:=by kernel_rfl
 f169:=Tryz.func169.trans (congrArg some κ)
 t0:=Tryz.underlying0
 a0:=Tryz.isAgg0
 z0:=Tryz.sizeOf0
 v0:=Tryz.zeroValue0
 t3:=Tryz.underlying3
 a3:=Tryz.isAgg3
 z3:=Tryz.sizeOf3
 v3:=Tryz.zeroValue3
 t9:=Tryz.underlying9
 a9:=Tryz.isAgg9
 z9:=Tryz.sizeOf9
 v9:=Tryz.zeroValue9
 t37:=Tryz.underlying112
 a37:=Tryz.isAgg112
 z37:=Tryz.sizeOf112
 v37:=Tryz.zeroValue112
 t70:=Tryz.underlying270
 a70:=Tryz.isAgg270
 z70:=Tryz.sizeOf270
 v70:=Tryz.zeroValue270
 t72:=Tryz.underlying272
 a72:=Tryz.isAgg272
 z72:=Tryz.sizeOf272
 v72:=Tryz.zeroValue272
 t127:=Tryz.underlying315
 a127:=Tryz.isAgg315
 z127:=Tryz.sizeOf315
 v127:=Tryz.zeroValue315}
def Tryz.FT:Go.Shelf.Ren:=⟨fun | 196=>75 | 259=>112 | n=>n,fun | 9=>9 | 4=>4 | 3=>3 | 5=>5 | 12=>12 | 119=>220 | 0=>0 | 46=>39 | 139=>223 | 138=>222 | 53=>33 | n=>n,fun | 3=>0 | 4=>1 | n=>n⟩
theorem Tryz.aiD:Go.Proofs.Lays.n196 Tryz.prog Tryz.FT:={
 mixed:=by kernel_rfl
 f196:=Tryz.func75.trans (congrArg some κ)
 f259:=Tryz.func112.trans (congrArg some κ)
 t0:=Tryz.underlying0
 a0:=Tryz.isAgg0
 z0:=Tryz.sizeOf0
 v0:=Tryz.zeroValue0
 t3:=Tryz.underlying3
 a3:=Tryz.isAgg3
 z3:=Tryz.sizeOf3
 v3:=Tryz.zeroValue3
 t4:=Tryz.underlying4
 a4:=Tryz.isAgg4
 z4:=Tryz.sizeOf4
 v4:=Tryz.zeroValue4
 t5:=Tryz.underlying5
 a5:=Tryz.isAgg5
 z5:=Tryz.sizeOf5
 v5:=Tryz.zeroValue5
 t9:=Tryz.underlying9
 a9:=Tryz.isAgg9
 z9:=Tryz.sizeOf9
 v9:=Tryz.zeroValue9
 t12:=Tryz.underlying12
 a12:=Tryz.isAgg12
 z12:=Tryz.sizeOf12
 v12:=Tryz.zeroValue12
 t46:=Tryz.underlying39
 a46:=Tryz.isAgg39
 z46:=Tryz.sizeOf39
 v46:=Tryz.zeroValue39
 t53:=Tryz.underlying33
 a53:=Tryz.isAgg33
 z53:=Tryz.sizeOf33
 v53:=Tryz.zeroValue33
 t119:=Tryz.underlying220
 a119:=Tryz.isAgg220
 z119:=Tryz.sizeOf220
 t138:=Tryz.underlying222
 a138:=Tryz.isAgg222
 z138:=Tryz.sizeOf222
 v138:=Tryz.zeroValue222
 t139:=Tryz.underlying223
 a139:=Tryz.isAgg223
 z139:=Tryz.sizeOf223
 v139:=Tryz.zeroValue223
 g3:=by kernel_rfl
 g4:=by kernel_rfl}
end Go.Proofs
namespace Go.Proofs.YtbhikkgpcmkonaaGreatDoor
open Go.RowKit
theorem akD:Builder.Extra Tryz.prog Tryz.Oc where
 sizeBuilder:=by kernel_rfl
 liesBuilder:=by kernel_rfl
 t5:=Tryz.underlying5
 a5:=Tryz.isAgg5
 z5:=Tryz.sizeOf5
 v5:=Tryz.zeroValue5
 infoByte:=by kernel_rfl
 cellsByte:=by kernel_rfl
 sizeByte:=by kernel_rfl
 neB5:=δ
def ET (b:Nat) (l:List UInt8) (w:World):Prop:=∃p v,(p =.pointer none∨p =.pointer (some ⟨b,0,none⟩))∧aF w b 272 #[p,v]∧Own w b 5 1 ji v (oN l)
theorem ET.new (w:World):ET w.heap.size [] (w.alloc (.cells #[.pointer none,.slice none 0 0] 272)):=⟨_,_,.inl rfl,aF.new w _ _,Own.iH _ _ _ _ _⟩
theorem abX {b:Nat} {p v:Value} (w:World) (hB:aF w b 272 #[p,v]) (hp:p =.pointer none∨p =.pointer (some ⟨b,0,none⟩)) :
 Calls Tryz.prog 210 #[.pointer (some ⟨b,0,none⟩)] w fun e w'=>e =.returned (.tuple #[])∧aF w' b 272 #[.pointer (some ⟨b,0,none⟩),v]∧w.grownBy w' (some b):=by
 obtain⟨j,hj,hjs⟩:=Option.map_eq_some_iff.1 (show (Tryz.prog.info? 272).map (·.size)=some 2 by kernel_rfl);have hsh:w.shape? b = some (272,2):=by unfold aF at hB;simp[World.shape?,hB]
 have hfz:=hB.frozen 0;have hlt:=hB.lt;have h0:=hB.c0;replace hB:=ζ hB;rcases hp with rfl | rfl
 ·go_enter Tryz.func210,Tryz.ntmps210
  go_wp2;rw[Lib.run_to_unsafe w ⟨b,0,none⟩ Tryz.underlying270 Tryz.underlying345 hj (by rw[hjs];decide) hsh (Nat.zero_lt_succ 1)];simp only[Result.andThen];rw[Oper.upon_value];go_wp2;rw[run_callFunc_extern Tryz.func236 κ κ κ (e:=Extern.AbiNoEscape.same) κ];rw[Lib.run_noEscape];simp only[Result.andThen];rw[Oper.upon_value];go_wp2;rw[Lib.run_from_unsafe w ⟨b,0,none⟩ Tryz.underlying345 Tryz.underlying270 hj hsh κ];simp only[Result.andThen];rw[Oper.upon_value];go_wp2;go_end0;exact⟨rfl,hB.o.bD 0 _,aj w ⟨b,0,none⟩ _⟩
 ·go_enter Tryz.func210,Tryz.ntmps210
  go_wp2;rw[Lib.run_neq_ptr_same w _ Tryz.underlying270 hj];go_wp2;go_end0;exact⟨rfl,hB.o,World.grownBy.refl _ _⟩
theorem adA {b:Nat} {l:List UInt8} (c:Nat) (hc:c < 256) (w:World) (h:ET b l w) (hl:l.length≤1000000) :
 Calls Tryz.prog 168 #[.pointer (some ⟨b,0,none⟩),.int .u8 (c:Int)] w fun e w'=>e =.returned .nilIface∧ET b (l ++[UInt8.ofNat c]) w'∧Below b w w':=by
 obtain⟨p,v,hp,hB,hO⟩:=h;have cC:=ζ (abX w hB hp);have hlt:=hB.lt;have Va:Hid ((oN l).length≤1000000):=ζ (by unfold oN;rw[List.length_map];exact hl);have hOh:=ζ (fun W (hW:w.grownBy W (some b))=>hO.kept' hW (fun j hj=>by injection hj with hj;subst hj;exact aZ hO hB δ));have aQ:Hid (oN (l ++[UInt8.ofNat c])=oN l ++[c]):=ζ (by
  unfold oN;rw[List.map_append];simp only[List.map_cons,List.map_nil];rw[UInt8.toNat_ofNat_of_lt' (by simpa using hc)])
 clear hB hO hp hl;unfold ET;rw[aQ.o];generalize oN l = L at *
 clear aQ;go_enter Tryz.func168,Tryz.ntmps168
 go_wp2_with fail;refine cC.out.mono ?_;rintro e w1 ⟨rfl,xG,hg1⟩;have wH:=ζ (hOh.o w1 hg1);have hb1:=ζ ((Below.refl b w).grown hg1 ω (fun g e=>by injection e with e;omega));have hz1:=hg1.size;have f1:=xG.frozen 1;have c1:=xG.c1;have lt1:=xG.lt;obtain⟨A,k,rfl,-,-,-⟩:=wH.o.arr hkB;replace xG:=ζ xG;clear cC hOh hg1;go_wp2_with (at_builtin;refine dH (x:=c) YV rfl (.tmp 11) (.tmp 13) rfl (wH.o.alloc _) rfl ⟨w1.heap.size,0,none⟩ rfl rfl (iK (by exact heap_alloc_new w1 _)) (aau c) (by simp;omega) (by have:=Va.o;unfold maxLen;omega) (by have:=Va.o;omega) (fun v5 w5 lZ hgr qQ=> ?_);(have OD:=(xG.o.alloc (.cells #[.int .u8 (c:Int)] 5)).aO hgr (fun e=>aZ wH.o xG.o δ e.symm));(have fM:=ζ ((hb1.o.alloc ω _).grown hgr (by simp;omega) (fun g e=>wH.o.gY g e)));(obtain⟨A5,k5,rfl,-,-,-⟩:=lZ.arr hkB);(rw[show (L++[c]).length=L.length+1 by simp] at lZ);(have f5:=OD.frozen 1);(have c5:w5.cell? ⟨b,1,none⟩=some (.slice A L.length k):=OD.cell 1);(have l5:=OD.lt);(replace OD:=ζ OD);(replace lZ:=ζ lZ);clear hgr qQ);go_ret;refine⟨rfl,⟨_,_,.inr rfl,OD.o.bD 1 _,lZ.o.kept' (aj w5 ⟨b,1,none⟩ _) (fun j hj=>by injection hj with hj;subst hj;exact aZ lZ.o OD.o δ)⟩,Below.setCell fM.o (Nat.le_refl _) _⟩
theorem YF (l:List UInt8):cu ji (oN l)=Lib.byteCells l:=by
 unfold cu oN Lib.byteCells ji;induction l with
 | nil=>rfl
 | cons a r ih=>simp only[List.map_cons,List.flatMap_cons];rw[ih];rfl
theorem YH {b:Nat} {l:List UInt8} (w:World) (h:ET b l w) :
 Calls Tryz.prog 169 #[.pointer (some ⟨b,0,none⟩)] w fun e w'=>e =.returned (.string ⟨l.toArray⟩)∧Below b w w':=by
 obtain⟨p,v,hp,hB,hO⟩:=h;have hlt:=hB.lt;have hne:=aZ hO hB δ;have hA:Lib.BuilderAt 272 5 b b p (Lib.byteCells l) w:=⟨Nat.le_refl _,v,hB,by
  unfold Own at hO;rw[YF] at hO;have e:(Lib.byteCells l).length=(oN l).length:=by unfold Lib.byteCells oN;rw[List.length_map,List.length_map]
  rw[e];exact hO,hne⟩
 refine (Any.Builder_String_any Tryz.apE akD b b l w (by rcases hp with rfl | rfl;exact .inl hA;exact .inr hA) ω).mono ?_;rintro e w' ⟨h1,h2⟩;exact⟨h1,h2⟩
theorem ajq {i:Nat} (h:i < (⟨#[48,49,50,51,52,53,54,55,56,57,97,98,99,100,101,102]⟩:ByteArray).size):(⟨#[48,49,50,51,52,53,54,55,56,57,97,98,99,100,101,102]⟩:ByteArray)[i]'h = JM i:=by
 have hi:i < 16:=h;match i,hi,h with
 | 0,_,_ | 1,_,_ | 2,_,_ | 3,_,_ | 4,_,_ | 5,_,_ | 6,_,_ | 7,_,_ | 8,_,_ | 9,_,_ | 10,_,_ | 11,_,_ | 12,_,_ | 13,_,_ | 14,_,_ | 15,_,_=>rfl
 | i + 16,hi,_=>exact absurd hi ω
theorem awi:∀X:Fin 256,bits .and .u8 ((X.val:Nat):Int) 15=((X.val % 16:Nat):Int):=δ
theorem zH (d:UInt8):UInt8.ofNat d.toNat=d:=by simp
theorem afe (l:List Nat) (x:Nat):F5 (l ++[x])=F5 l ++[JM (x / 16)]++[JM (x % 16)]:=by unfold F5;rw[List.flatMap_append];simp
theorem X3 (l:List Nat):(F5 l).length=2*l.length:=by
 unfold F5;induction l with
 | nil=>rfl
 | cons a r ih=>rw[List.flatMap_cons,List.length_append,ih];simp;omega
theorem amN {A:Option Addr} {m c:Nat} {l:List Nat} (w:World) (hA:bW w 1 ji A m l) (hb:∀x∈l,x < 256) (hm:m≤1000) :
 Calls Tryz.prog 128 #[.slice A m c] w fun e w'=>e =.returned (.string ⟨(F5 l).toArray⟩)∧ah w w':=by
 have lJ:=ζ hA.1;have cW:=ζ (fun (t:List UInt8) (d:Nat) (hd:d < 256) W (h:ET w.heap.size t W) hl=>adA (b:=w.heap.size) (l:=t) d hd W h hl);have cS:=ζ (fun (t:List UInt8) W (h:ET w.heap.size t W)=>YH (b:=w.heap.size) (l:=t) W h);replace hA:=ζ hA;replace hb:=ζ hb;go_enter Tryz.func128,Tryz.ntmps128
 go_wp2;go_loopw [5,8] (fun _ i wr=>∃k:Nat,k≤m∧i =.int .i64 (k:Int)∧Hid (ET w.heap.size (F5 (l.take k)) wr)∧Hid (ah w wr)) (fun _ i _=>m - (intOf i).toNat)
 case atStart=>exact⟨0,ω,rfl,ζ (ET.new w),ζ ((ah.refl w).alloc _)⟩
 case round=>
  obtain⟨k,hk,rfl,hB,hG⟩:=hrel;by_cases wB:k<m
  ·obtain⟨bb,off,x,rfl,GV,hx,hcell⟩:=(hA.o.keep hG.o).at_ wB;have c0:wr.cell? ⟨bb,off+k,none⟩=some (.int .u8 (x:Int)):=by simpa using hcell 0 _ rfl
   have kY:(k:Int)<(m:Int):=ω;have hx2:=hb.o x (List.mem_of_getElem? hx);have hand:=awi ⟨x,hx2⟩;simp only at hand;have hq1:x / 16<16:=ω;have Q5:x % 16<16:=Nat.mod_lt _ δ;have Y9:(F5 (l.take k)).length≤2000:=by rw[X3,List.length_take];omega
   have qp:Hid (F5 (l.take (k+1))=F5 (l.take k)++[JM (x / 16)]++[JM (x % 16)]):=ζ (by rw[List.take_add_one,hx];exact afe _ _);generalize F5 (l.take k)=t0 at *
   clear hx hcell;go_wp2_with fail;simp only[ajq];refine (cW.out _ (JM (x / 16)).toNat (JM (x / 16)).toNat_lt _ hB.o ω).mono ?_;rintro e w1 ⟨rfl,xG,hb1⟩;rw[zH] at xG;have fF:=ζ (hG.o.iw hb1);replace xG:=ζ xG;clear hb1 hB hG;go_wp2_with fail;simp only[ajq];refine (cW.out _ (JM (x % 16)).toNat (JM (x % 16)).toNat_lt _ xG.o (by rw[List.length_append];simp;omega)).mono ?_;rintro e w2 ⟨rfl,rZ,hb2⟩;rw[zH] at rZ;have fQ:=ζ (fF.o.iw hb2);replace rZ:=ζ rZ;go_wp2;go_roundw
   case rel=>exact⟨k+1,ω,ν,by rw[qp.o];exact rZ,fQ⟩
   case measure=>exact ψ
  ·obtain rfl:k=m:=ω;have hall:Hid (l.take k=l):=ζ (by rw[←lJ.o,List.take_length]);rw[hall.o] at hB;go_wp2_with fail;refine (cS.out _ _ hB.o).mono ?_;rintro e w1 ⟨rfl,hb1⟩;go_wp2;go_ret;exact⟨rfl,hG.o.iw hb1⟩
end Go.Proofs.YtbhikkgpcmkonaaGreatDoor
namespace Go.Proofs.YtbhikkgpcmkonaaGreatDoor
open Go.RowKit
def oz (w:World):Prop:=Lib.Utf8Tabs (Tryz.FT.g 3) (Tryz.FT.g 4) w
theorem oz.grows {w w':World} (h:oz w) (hg:ah w w'):oz w':=Utf8Tabs_below h hg
theorem adE (s:List UInt8) (hs:s.length≤1000000) (w:World) (hT:oz w) :
 Calls Tryz.prog 75 #[.string ⟨s.toArray⟩] w fun e w'=>e =.returned (.bool (Lib.validD s))∧ah w w':=
 (Any.utf8_ValidString Tryz.aiD ⟨s.toArray⟩ w (by simp only[ByteArray.size,List.size_toArray];omega) hT).mono fun e w' h=>h
theorem aks (g:FuncId) (lb:Array Value) (eg:Enters Tryz.prog g) (p:bK→Bool) (A:Option Addr) (m c:Nat) (l:List bK) (w:World) (h:bW w 2 dW A m l) (hm:m≤9223372036854775807) (hp:xK Tryz.prog g lb Hr p l w) :
 Calls Tryz.prog 174 #[.slice A m c,.func (.func g) #[] lb] w fun e w'=>e =.returned (.bool (l.any p))∧ah w w':=by
 have cI:=Ol (c:=c) g lb eg p A m l w h hm hp;replace cI:=ζ cI;have aQ:=ζ (iE p l);clear h hp;go_enter Tryz.func174,Tryz.ntmps174
 go_wp2_with fail;refine cI.out.mono ?_;rintro e w1 ⟨rfl,hb⟩;go_wp2;go_ret;exact⟨aP aQ.o,hb⟩
theorem Ym (x:bK) (hx:x.v.length≤1000000) (w:World) (hT:oz w):Calls Tryz.prog 173 #[Hr x] w fun e w'=>e =.returned (.bool (!Lib.validD x.v))∧ah w w':=by
 have cV:=ζ (fun W (hW:ah w W)=>adE x.v hx W (hT.grows hW));obtain⟨n,v⟩:=x;unfold Hr;simp only at *
 generalize Lib.validD v = B at *
 clear hT hx;go_enter Tryz.func173,Tryz.ntmps173
 go_wp2_with fail;refine (cV.out _ γ).mono ?_;rintro e w1 ⟨rfl,hb⟩;have hG:ah w w1:=((ah.refl w).alloc _).trans hb;go_wp2;go_ret;exact⟨rfl,hG⟩
theorem Kw {A:Option Addr} {m c:Nat} {fs:List bK} (w:World) (hT:oz w) (hA:bW w 2 dW A m fs) (hm:m≤1000) (hv:∀f∈fs,f.v.length≤1000000) :
 Calls Tryz.prog 134 #[.slice A m c] w fun e w'=>e =.returned (.bool (fieldsU fs))∧ah w w':=by
 have cR:=ζ (OG (c:=c) w hA ω);have cC:=ζ (fun W (hW:ah w W)=>aks (c:=c) 173 #[] (enters_of Tryz.func173 κ rfl) (fun f=> !Lib.validD f.v) A m fs W (hA.keep hW) ω (fun x hx W' yg=>by
  have h:=Ym x (hv x hx) W' (hT.grows (hW.trans yg));exact h))
 have hR:fieldsU fs=(jl fs&& !(fs.any fun f=> !Lib.validD f.v)):=by
  unfold fieldsU asK;rw[List.all_eq_not_any_not]
 rw[hR];generalize (fs.any fun f=> !Lib.validD f.v)=V at *
 generalize jl fs=B at *
 clear hR hT hA hv;go_enter Tryz.func134,Tryz.ntmps134
 go_wp2_with fail;refine cR.out.mono ?_;rintro e w1 ⟨rfl,hb⟩;cases B with
 | false=>
  go_wp2;go_ret;exact⟨rfl,hb⟩
 | true=>
  go_wp2_with fail;refine (cC.out _ hb).mono ?_;rintro e w2 ⟨rfl,hb2⟩;go_wp2;go_ret;exact⟨rfl,hb.trans hb2⟩
theorem agf (n k:Nat):(mJ n)[k]? = if k<8 then some (n / 2 ^ (56-8*k) % 256) else none:=by
 unfold mJ;rw[List.getElem?_map];by_cases h:k<8
 ·rw[List.getElem?_range h,if_pos h];rfl
 ·rw[if_neg h,List.getElem?_eq_none (by simpa using h)];rfl
theorem agd (n:Nat):∀x∈mJ n,x < 256:=by
 intro x hx;unfold mJ at hx;obtain⟨i,_,rfl⟩:=List.mem_map.1 hx;exact Nat.mod_lt _ δ
theorem take_set {l:List Nat} {m k x:Nat} (hk:k<m) (hl:l[k]? = some x):(l.take k++List.replicate (m - k) 0).set k x = l.take (k+1)++List.replicate (m - (k+1)) 0:=by
 have IY:=(List.getElem?_eq_some_iff.1 hl).1;rw[List.set_append,if_neg (by rw[List.length_take];omega),List.take_add_one,hl];have e1:k-(l.take k).length=0:=by rw[List.length_take];omega
 have e2:m - k=(m - (k+1))+1:=ω;rw[e1,e2,List.replicate_succ,List.set_cons_zero];simp
theorem aly {w:World} {g:Nat} {t:TypeId} {xs:List Nat} (h:aF w g t (wF xs)):bW w 1 ji (some ⟨g,0,none⟩) xs.length xs:=by
 refine⟨rfl,fun _=>⟨g,0,rfl,h.lt,fun i hi j u hu=> ?_⟩⟩;have hj:j = 0:=by have:=(List.getElem?_eq_some_iff.1 hu).1;simp[ji] at this;omega
 subst hj;have hc:=h.cell i;simp only[Nat.zero_add,Nat.mul_one,Nat.add_zero];rw[hc];unfold wF;simp[ji] at hu;simp[hi,←hu]
theorem adT {n:Nat} (w:World) :
 Calls Tryz.prog 80 #[.int .u64 (n:Int)] w fun e w'=>e =.returned (.string ⟨(qF n).toArray⟩)∧ah w w':=by
 have cH:=ζ (fun W (h:bW W 1 ji (some ⟨w.heap.size,0,none⟩) 8 (mJ n))=>amN (c:=8) W h (agd n) ω);go_enter Tryz.func80,Tryz.ntmps80
 go_wp2;go_loopw [4,5] (fun _ i wr=>∃k:Nat,k≤8∧i =.int .i64 (k:Int)∧Hid (aF wr w.heap.size 236 (wF ((mJ n).take k++List.replicate (8-k) 0)))∧Hid (ah w wr)) (fun _ i _=>8-(intOf i).toNat)
 case atStart=>exact⟨0,ω,rfl,ζ ((aF.new w _ _).cast κ),ζ ((ah.refl w).alloc _)⟩
 case round=>
  obtain⟨k,hk,rfl,hB,hG⟩:=hrel;by_cases hk8:k<8
  ·have kY:(k:Int)<8:=ω;have hval:(n:Int) / 2 ^ (56-8*k) % 256=((n / 2 ^ (56-8*k) % 256:Nat):Int):=by
    rw[Int.natCast_emod,Int.natCast_ediv,Int.natCast_pow];rfl
   have hat:(mJ n)[k]? = some (n / 2 ^ (56-8*k) % 256):=by rw[agf,if_pos hk8]
   have aI:=take_set (m:=8) hk8 hat;generalize n / 2 ^ (56-8*k) % 256=X at *
   have rZ:=hB.o.bD k (.int .u8 (X:Int));rw[acp,aI] at rZ;replace rZ:=ζ rZ;have hf:=hB.o.frozen k;have hc:∃u,wr.cell? ⟨w.heap.size,k,none⟩=some u:=⟨_,(hB.o.cell k).trans (Array.getElem?_eq_getElem (by unfold wF;simp[mJ];omega))⟩;obtain⟨u,hc⟩:=hc;have hlt:=hB.o.lt;have fQ:=ζ (hG.o.setCell (p:=⟨w.heap.size,k,none⟩) (Nat.le_refl _) (.int .u8 (X:Int)));clear aI hat hB hG;go_wp2;go_roundw
   case rel=>exact⟨k+1,ω,ν,rZ,fQ⟩
   case measure=>exact ψ
  ·obtain rfl:k=8:=ω;have hA:=aly hB.o;have e1:(mJ n).take 8++List.replicate (8-8) 0=mJ n:=by
    rw[List.take_of_length_le (by simp[mJ])];simp
   rw[e1] at hA;go_wp2_with fail;refine (cH.out _ hA).mono ?_;rintro e w2 ⟨rfl,hb⟩;go_wp2;go_ret;exact⟨rfl,hG.o.trans hb⟩
def afV (k:Int):List Value:=[.int .u8 k]
theorem hkK (k:Int):(afV k).length=1:=rfl
theorem ayi (k:Int):∀u∈afV k,u.oneCell'=true:=by intro u hu;simp[afV] at hu;subst hu;rfl
def Vh (c:UInt8):Int:=Lib.indexByte [48,49,50,51,52,53,54,55,56,57,97,98,99,100,101,102] c
theorem ajr:∀n:Fin 256,decide (Vh (UInt8.ofNat n.val)<0)= !zZ (UInt8.ofNat n.val)∧Vh (UInt8.ofNat n.val)<16∧-1≤Vh (UInt8.ofNat n.val):=δ
theorem acU (c:UInt8):decide (Vh c < 0)= !zZ c∧Vh c < 16∧-1≤Vh c:=by
 have h:=ajr ⟨c.toNat,c.toNat_lt⟩;simp only[zH] at h;exact h
theorem ajs (W:World) (c:UInt8):Calls Tryz.prog 211 #[.string {data:= #[48,49,50,51,52,53,54,55,56,57,97,98,99,100,101,102]},.int .u8 (c.toNat:Int)] W fun e w'=>e =.returned (.int .i64 (Vh c))∧ah W w':=by
 have:=Any.strings_IndexByte Tryz.UY {data:= #[48,49,50,51,52,53,54,55,56,57,97,98,99,100,101,102]} (c.toNat:Int) W;rw[show (c.toNat:Int).toNat.toUInt8=c by simp] at this;exact this.mono fun e w' ⟨h1,h2⟩=>⟨h1,by rw[h2];exact ah.refl _⟩
def EO (s:List UInt8):Bool:=decide (s.length % 2=0)&&s.all zZ
def Ud (s:List UInt8) (w:World) (e:Ending) (w':World):Prop:=
 ah w w'∧((EO s = true∧∃v bs,e =.returned (.tuple #[v,.int .i64 0])∧Own w' w.heap.size 5 1 afV v bs∧bs.length=s.length / 2)∨(EO s = false∧e =.returned (.tuple #[.slice none 0 0,.int .i64 2])))
theorem adp {s:List UInt8} {k:Nat} {c:UInt8} (h:s[k]? = some c) (hc:zZ c = false):s.all zZ=false:=by
 rw[List.all_eq_false];exact⟨c,List.mem_of_getElem? h,by rw[hc];simp⟩
theorem agb (s:List UInt8) (hs:s.length≤1000000) (w:World):Calls Tryz.prog 171 #[.string ⟨s.toArray⟩] w (Ud s w):=by
 have cI:=ζ ajs;by_cases Q7:s.length % 2=0
 ·have auk:(s.length:Int) % 2=0:=ω;have hgd:Hid (EO s = s.all zZ):=ζ (by unfold EO;simp[Q7]);go_enter Tryz.func171,Tryz.ntmps171
  go_wp2;go_loopw [4,5,6,7] (fun v i _ _ wr=>∃(p j:Nat) (bs:List Int),p≤s.length∧Hid (p = 2*j)∧i =.int .i64 (p:Int)∧Hid (Own wr w.heap.size 5 1 afV v bs)∧Hid (bs.length=j)∧Hid ((s.take p).all zZ=true)∧Hid (ah w wr)) (fun _ i _ _ _=>s.length-(intOf i).toNat)
  case atStart=>exact⟨0,0,[],ω,rfl,rfl,Own.iH _ _ _ _ _,rfl,rfl,ah.refl _⟩
  case round=>
   obtain⟨p,j,bs,hj,hpj,rfl,hO,hbl,hall,hG⟩:=hrel;obtain⟨A,cv,rfl,-,-,-⟩:=hO.o.arr hkK;generalize Vu:bs.length=Ln at *
   replace Vu:=ζ Vu;by_cases hjl:p < s.length
   ·have h1:p + 1<s.length:=by have:=hpj.o;omega
    obtain⟨a,ha⟩:∃a,s[p]? = some a:=⟨_,List.getElem?_eq_getElem hjl⟩;obtain⟨b,hb⟩:∃b,s[p + 1]? = some b:=⟨_,List.getElem?_eq_getElem h1⟩;have ea:(⟨s.toArray⟩:ByteArray)[p]'(by simpa[ByteArray.size] using hjl)=a:=by
     rw[List.getElem?_eq_getElem hjl] at ha;injection ha
    have eb:(⟨s.toArray⟩:ByteArray)[p + 1]'(by simpa[ByteArray.size] using h1)=b:=by
     rw[List.getElem?_eq_getElem h1] at hb;injection hb
    have hjz:(p:Int)<(s.length:Int):=ω;have h1z:(p:Int)+1<(s.length:Int):=ω;have eG:=ah.refl wr;obtain⟨ha1,ha2,ha3⟩:=acU a;obtain⟨hb1,hb2,hb3⟩:=acU b;have cA:=ζ (fun W (hW:ah wr W)=>(cI.out W a).mono fun e w' h=>h);have cB:=ζ (fun W (hW:ah wr W)=>cI.out W b);have qP:zZ a = false∨zZ b = false→EO s = false:=fun h=>by
     rw[hgd.o];rcases h with h | h
     ·exact adp ha h
     ·exact adp hb h
    have EI:zZ a = true→zZ b = true→(s.take (p + 2)).all zZ=true:=fun h2 h3=>by
     rw[show p + 2=p + 1+1 by omega,List.take_add_one,hb,List.take_add_one,ha];simp only[List.all_append,hall.o,Option.toList_some,List.all_cons,List.all_nil,h2,h3,Bool.and_self]
    generalize Vh a = H at *
    generalize Vh b = Lo at *
    generalize zZ a = HA at *
    generalize zZ b = HB at *
    replace qP:=ζ qP;replace EI:=ζ EI;clear ha hb;go_wp2_with fail;refine aG κ ?_;refine rK (.range 11) 0 ?_;iterate 3 refine aC ?_
    refine aY (.int .i64 H) rfl χ (fun wq eG=> ?_) ?_
    ·obtain⟨nR,mY⟩:=bQ eG;go_simp;exact Calls.mono (cA.out wq eG) (fun e w'' h=>h)
    go_simp;iterate 4 refine aC ?_
    refine aY (.int .i64 Lo) rfl χ (fun wq eG=> ?_) ?_
    ·obtain⟨nR,mY⟩:=bQ eG;go_simp;exact Calls.mono (cB.out wq eG) (fun e w'' h=>h)
    go_simp;iterate 2 refine aC ?_
    refine aB ?_;refine aJ κ (fun wN hN hS=> ?_);have nI:=ζ (hO.o.grows hN);have fQ:=ζ (hG.o.trans hN);have hz2:=fQ.o.size;cases HA with
    | false=>
     have hH:H<0:=by simpa using ha1
     have hgf:=qP.o (.inl rfl);clear ha1 hb1;go_wp2;go_ret2;exact⟨fQ.o,.inr ⟨hgf,rfl⟩⟩
    | true=>
     have hH:¬H<0:=by simpa using ha1
     cases HB with
     | false=>
      have hL:Lo<0:=by simpa using hb1
      have hgf:=qP.o (.inr rfl);clear ha1 hb1;go_wp2;go_ret2;exact⟨fQ.o,.inr ⟨hgf,rfl⟩⟩
     | true=>
      have hL:¬Lo<0:=by simpa using hb1
      have azY:=ζ (EI.o rfl rfl);clear ha1 hb1;have hLb:Ln≤1000000:=by have:=hpj.o;have:=hbl.o;omega
      go_wp2_with (at_builtin;refine dH (x:=bits BinOp.or IntKind.i64 (H*16) Lo % 256) YV rfl (.tmp 33) (.tmp 39) rfl (nI.o.alloc _) rfl ⟨wN.heap.size,0,none⟩ rfl rfl (iK (by exact heap_alloc_new wN _)) (ayi _) (by simp;omega) (by have:=Vu.o;unfold maxLen;omega) (by have:=Vu.o;omega) (fun v7 w7 rG hgr qQ=> ?_);(have V_:=ζ ((fQ.o.alloc _).aO hgr (fun g hg=>nI.o.gY g hg)));(replace rG:=ζ rG);clear hgr qQ);go_roundw
      case rel=>exact⟨_,_,_,_,⟨p + 2,ω,j + 1,ζ (by have:=hpj.o;omega),ν,_,rG,ζ (by have:=Vu.o;have:=hbl.o;rw[List.length_append];simp;omega),ζ (by have:=azY.o;simpa using this)⟩,rfl,rfl,rfl,rfl⟩
      case measure=>exact ψ
   ·obtain rfl:p = s.length:=ω;have hg2:EO s = true:=by rw[hgd.o];have:=hall.o;rwa [List.take_length] at this
    have hl2:bs.length=s.length / 2:=by have:=hpj.o;have:=hbl.o;have:=Vu.o;omega
    go_wp2;go_ret2;exact⟨hG.o,.inl ⟨hg2,_,_,rfl,hO.o,hl2⟩⟩
 ·have auk:¬(s.length:Int) % 2=0:=ω;have hgd:EO s = false:=by unfold EO;simp[Q7]
  go_enter Tryz.func171,Tryz.ntmps171
  go_wp2;go_ret2;exact⟨ah.refl _,.inr ⟨hgd,rfl⟩⟩
theorem aga {s:List UInt8} (hs:s.length≤1000000) {w w':World} {e:Ending} (h:Ud s w e w'):∃(A:Option Addr) (n c:Nat) (bs:List Int) (er:Int),e =.returned (.tuple #[.slice A n c,.int .i64 er])∧bW w' 1 afV A n bs∧n≤1000000∧Og s = (decide (er=0)&&decide (n = 8))∧ah w w':=by
 obtain⟨hG,⟨hg,v,bs,rfl,hO,hl⟩ | ⟨hg,rfl⟩⟩:=h
 ·obtain⟨A,c,rfl,-,-,hX⟩:=hO.arr hkK;refine⟨A,_,c,bs,0,rfl,hX,ω,?_,hG⟩;unfold EO at hg;simp only[Bool.and_eq_true,decide_eq_true_eq] at hg;unfold Og;rw[hg.2,Bool.and_true];have e2:decide (s.length=16)=decide (bs.length=8):=decide_eq_decide.2 ω;rw[e2];simp
 ·refine⟨none,0,0,[],2,rfl,⟨rfl,fun h=>ω⟩,ω,?_,hG⟩;unfold EO at hg;unfold Og;simp only[Bool.and_eq_false_iff,decide_eq_false_iff_not] at hg;have:(decide (s.length=16)&&s.all zZ)=false:=by
   simp only[Bool.and_eq_false_iff,decide_eq_false_iff_not];rcases hg with h | h
   ·exact .inl ω
   ·exact .inr h
  rw[this];rfl
theorem aav (s:List UInt8) (hs:s.length≤1000000) (w:World):Calls Tryz.prog 131 #[.string ⟨s.toArray⟩] w fun e w'=>∃N:Int,e =.returned (.tuple #[.int .u64 N,.bool (Og s)])∧ah w w':=by
 have cB:=ζ ((agb s hs w).mono fun e w' h=>aga hs h);generalize Og s = KB at *
 go_enter Tryz.func131,Tryz.ntmps131
 go_wp2_with fail;refine cB.out.mono ?_;rintro e w1 ⟨A,n,c,bs,er,rfl,hX,hn,hkb,hG⟩;replace hX:=ζ hX;replace hkb:=ζ hkb;clear cB;go_wp2;go_loopw [6,8,16] (fun nv _ i wr=>∃(k:Nat) (N:Int),k≤n∧nv=.int .u64 N∧i =.int .i64 (k:Int)∧Hid (ah w wr)∧Hid (ah w1 wr)) (fun _ _ i _=>n - (intOf i).toNat)
 case atStart=>exact⟨0,0,ω,rfl,rfl,hG,ah.refl _⟩
 case round=>
  obtain⟨k,N,hk,rfl,rfl,Zh,fF⟩:=hrel;by_cases S9:k<n
  ·obtain⟨bb,off,x,rfl,GV,hx,hcell⟩:=(hX.o.keep fF.o).at_ S9;have c0:wr.cell? ⟨bb,off+k,none⟩=some (.int .u8 x):=by simpa using hcell 0 _ rfl
   have kY:(k:Int)<(n:Int):=ω;clear hcell hx;go_wp2;go_roundw
   case rel=>exact⟨k+1,_,ω,rfl,ν,Zh,fF⟩
   case measure=>exact ψ
  ·obtain rfl:k=n:=ω;by_cases her:er=0
   ·have aqa:Hid (KB=((k:Int)==8)):=ζ (by
     have e8:((k:Int)==8)=decide (k=8):=by by_cases h:k=8 <;> simp[h] <;> omega
     rw[hkb.o,her,e8];simp)
    go_wp2;go_ret2;exact⟨N,by rw[aqa.o];rfl,Zh.o⟩
   ·have aqa:Hid (KB=false):=ζ (by rw[hkb.o];simp[her]);go_wp2;go_ret2;exact⟨N,by rw[aqa.o];rfl,Zh.o⟩
theorem WT (n:Int) (w:World):Calls Tryz.prog 133 #[.int .i64 n] w fun e w'=>e =.returned (.bool (rQ n))∧ah w w':=by
 by_cases h0:0≤n
 ·have e:Hid (rQ n = decide (n≤1099511627776)):=ζ (by unfold rQ fC;simp[h0]);go_enter Tryz.func133,Tryz.ntmps133
  go_wp2;go_ret;exact⟨by rw[e.out];rfl,ah.refl _⟩
 ·have e:Hid (rQ n = false):=ζ (by unfold rQ;simp[h0]);go_enter Tryz.func133,Tryz.ntmps133
  go_wp2;go_ret;exact⟨by rw[e.out];rfl,ah.refl _⟩
end Go.Proofs.YtbhikkgpcmkonaaGreatDoor
namespace Go.Proofs.YtbhikkgpcmkonaaGreatDoor
open Go.RowKit Go.Maps Go.WideMaps
theorem nX.aiu {w:World} {b base:Nat} {l:QS} (h:nX w b l) {v:Value} {ws:List cZ} (hO:Own w base 213 3 qU v ws):v.ownBlock≠some b:=fun hv=>by
 obtain⟨cur,hc⟩:=bV hO hv;exact h.aX _ _ _ hc
theorem jd.aiF {w:World} {base g b:Nat} {q:QX} {last:Nat} (h:jd w base g b q last) (hl:last+1≤1000000):jd (w.setCell ⟨g,1,none⟩ (.int .i64 ((last+1:Nat):Int))) base g b q (last+1):=by
 have hg:=aj w ⟨g,1,none⟩ (.int .i64 ((last+1:Nat):Int));refine⟨h.blk.bD 1 _,h.map.kept hg (fun e=> ?_),h.asc,fun x hx=>by have:=h.le x hx;omega,hl,fun x hx=>(h.DX x hx).kept' hg (fun j hj=>by injection hj with hj;subst hj;exact aZ (h.DX x hx) h.blk δ),h.ok⟩;injection e with e
 subst e;exact h.map.aX _ _ _ h.blk
theorem jd.laid {w w':World} {base g b:Nat} {q:QX} {last:Nat} (h:jd w base g b q (last+1)) (hq:∀x∈q,x.1≤last) {x:xZ} (hO:Own w base 213 3 qU (.slice x.A x.m x.k) x.s.wh) (oh:x.s.l.ok) (hm:x.m≤65536)
 (hg:w.grownBy w' (some b)) (hM:nX w' b (lU q++[(last+1,UG x)])):jd w' base g b (q++[(last+1,x)]) (last+1):=by
 have hgb:g≠b:=fun e=>by subst e;exact h.map.aX _ _ _ h.blk
 have Ie:∀y:xZ,Own w base 213 3 qU (.slice y.A y.m y.k) y.s.wh→Own w' base 213 3 qU (.slice y.A y.m y.k) y.s.wh:=fun y hy=>hy.kept' hg (fun j hj=>by injection hj with hj;subst hj;exact h.map.aiu hy)
 refine⟨h.blk.aO hg (fun e=>hgb (Option.some.inj e)),?_,?_,?_,h.top,?_,?_⟩
 ·unfold lU at *
  rw[List.map_append];exact hM
 ·rw[List.map_append,List.pairwise_append];refine⟨h.asc,by simp,fun a ha c hc=> ?_⟩;obtain⟨y,hy,rfl⟩:=List.mem_map.1 ha;simp only[List.map_cons,List.map_nil,List.mem_singleton] at hc;have:=hq y hy;omega
 ·intro y hy;rcases List.mem_append.1 hy with hy | hy
  ·have:=hq y hy;omega
  ·simp only[List.mem_singleton] at hy;subst hy;exact Nat.le_refl _
 ·intro y hy;rcases List.mem_append.1 hy with hy | hy
  ·exact Ie _ (h.DX y hy)
  ·simp only[List.mem_singleton] at hy;subst hy;exact Ie _ hO
 ·intro y hy;rcases List.mem_append.1 hy with hy | hy
  ·exact h.ok y hy
  ·simp only[List.mem_singleton] at hy;subst hy;exact⟨oh,hm⟩
theorem af5 (q:oC) (l:fZ):vS q l≤q.l.length:=List.length_filter_le _ _
def Nk (fb:cZ→Bool) (w:World) (base g b last:Nat) (q:QX) (s:Sil) (e:Ending) (w':World):Prop:=
 ∃(n er:Int) (q':QX) (Kz:Nat),e =.returned (.tuple #[.int .i64 n,.int .i64 er])∧jd w' base g b q' Kz∧bF q' Kz=Jv fb (bF q last) s∧q'.length≤q.length+1∧Kz≤last+1∧nJ (fun k=>k=g∨k=b) w w'
theorem Nk.same {fb:cZ→Bool} {w w':World} {base g b last:Nat} {q:QX} {s:Sil} {n er:Int} (hL:jd w base g b q last) (hG:ah w w') (h:Jv fb (bF q last) s = bF q last) :
 Nk fb w base g b last q s (.returned (.tuple #[.int .i64 n,.int .i64 er])) w':=
 ⟨n,er,q,last,rfl,hL.grows hG,h.symm,ω,ω,hG.off _⟩
theorem al_ {fb:cZ→Bool} {base g b last:Nat} {q:QX} {x:xZ} (w:World) (hL:jd w base g b q last) (hbase:base≤w.heap.size) (hx:x.At w) (oO:∀y∈x.s.wh,mO fb y) (SX:last+1≤1000000) (V4:q.length≤60000) :
 Calls Tryz.prog 60 #[.pointer (some ⟨g,0,none⟩),LP x] w (Nk fb w base g b last q x.s):=by
 have cR:=ζ (fun W (hW:ah w W)=>ZH W (hx.keep hW) oO);have cC:=ζ (fun W (hW:ah w W)=>akw (c:=x.k) W (hx.arr.keep hW) hx.le);have XO:=ζ (fun (W:World) (n er:Int) (hG:ah w W) (h:Jv fb (bF q last) x.s = bF q last)=>Nk.same (n:=n) (er:=er) hL hG h);have Rf:Jv fb (bF q last) x.s = if adS fb x.s then (if vS (bF q last) x.s.l = 10 then bF q last else ⟨(bF q last).l ++[((bF q last).last+1,x.s)],(bF q last).last+1⟩) else bF q last:=rfl
 have hLh:=ζ hL;have ayu:=ζ hx.KC;have wu:=ζ hx.le;have lJ:=ζ hx.arr.1;have EJ:=hL.blk.lt;have g0:=hL.blk.c0;clear hL hx oO;obtain⟨⟨wh,f,t,⟨lv,lc⟩⟩,A,m,k⟩:=x;unfold LP at *
 simp only at *
 generalize XM:adS fb ⟨wh,f,t,⟨lv,lc⟩⟩=B at *
 replace Rf:=ζ Rf;replace SX:=ζ SX;replace V4:=ζ V4;replace XM:=ζ XM;go_enter Tryz.func60,Tryz.ntmps60
 go_wp2_with fail;refine (cR.out _ ((ah.refl w).alloc _)).mono ?_;rintro e w1 ⟨rfl,hb⟩;have fF:ah w w1:=((ah.refl w).alloc _).trans hb;have hS:=(aF.new w 159 #[.slice A m k,.int .i64 f,.int .i64 t,.int .i64 lv,.int .u32 (lc:Int)]).grows hb;clear cR hb;cases B with
 | false=>
  have hly:Hid (Jv fb (bF q last) ⟨wh,f,t,⟨lv,lc⟩⟩=bF q last):=ζ (by rw[Rf.o];simp);go_wp2;go_ret2;exact XO.o _ 0 1 fF hly.o
 | true=>
  have Ya:=ζ (hLh.o.grows fF);have V9:nX w1 b (lU q):=Ya.o.map;have l0:w1.cell? ⟨g,0,none⟩=some (.map (some b)):=fF.cell g0;have lg:=Ya.o.blk.lt;have hw1:=fF.size;have uf:=hS.lt;have hbw:=V9.lt;replace hS:=ζ hS;replace fF:=ζ fF;clear g0;go_wp2_with (first
   | (at_range;refine wpList_range_own _ rfl _ 139 rfl 3 159 (int_keyed Tryz.underlying3) Tryz.underlying139 NP b (lU q).length (uX (lU q) (.map [])) rfl V9 ?_;intro w2 hrg0 hg0 hs0)
   | go_in)
  go_frame
  have fQ:=ζ (fF.o.aO hg0 (fun j hj=>by cases hj));have EM:=ζ (hS.o.aO hg0 σ);go_loopw [6,8] (fun n _ wr=>∃(left:Lit→Bool) (cnt c:Nat),n =.int .i64 (c:Int)∧Hid (c + H_ q left ⟨lv,lc⟩=vS (bF q last) ⟨lv,lc⟩)∧wr.ranges Tryz.prog 3 NP b w1.heap.size (lU q).length (uX (lU q) (.map [])) left cnt∧Hid (ah w wr)∧Hid (aF wr w.heap.size 159 #[.slice A m k,.int .i64 f,.int .i64 t,.int .i64 lv,.int .u32 (lc:Int)])) (fun _ _ wr=>wr.rangeLeft b w1.heap.size)
  case atStart=>exact⟨_,_,0,rfl,ζ (by rw[Nat.zero_add];exact Xx),hrg0,fQ,EM⟩
  case round=>
   obtain⟨left,cnt,c,rfl,qB,hrg,qo,JQ⟩:=hrel;go_wp2_with (first
    | (at_next;refine wpList_next_ranges _ rfl _ rfl 3 (int_keyed Tryz.underlying3) NP (Value.int .i64) Uj (fun key kl hkey=>by obtain⟨x,rfl,_⟩:=Maps.keyOf_int_inv Tryz.underlying3 hkey;exact⟨x,rfl⟩) (fun v y hv=>Sj hv) b w1.heap.size (lU q).length _ _ _ rfl hrg ?_ ?_)
    | go_in)
   ·intro _ hl0;have hcn:Hid (c = vS (bF q last) ⟨lv,lc⟩):=ζ (by have h:=qB.o;rw[aeR hl0,Nat.add_zero] at h;exact h);have hz3:=qo.o.size;have s0:=JQ.o.c0;have sl3:=JQ.o.lt;have fz0:=JQ.o.frozen 0;by_cases h10:c = 10
    ·subst h10;have hly:Hid (Jv fb (bF q last) ⟨wh,f,t,⟨lv,lc⟩⟩=bF q last):=ζ (by rw[Rf.o,if_pos trivial,if_pos hcn.o.symm]);go_wp2;go_ret2;exact XO.o _ 0 7 qo.o hly.o
    ·have aFR:¬(c:Int)=10:=ω;have hly:Hid (Jv fb (bF q last) ⟨wh,f,t,⟨lv,lc⟩⟩=⟨(bF q last).l ++[((bF q last).last+1,⟨wh,f,t,⟨lv,lc⟩⟩)],(bF q last).last+1⟩):=ζ (by rw[Rf.o,if_pos trivial,if_neg (by rw[←hcn.o];exact h10)]);clear qB hrg;go_wp2_with fail;refine (cC.out _ qo.o).mono ?_;rintro e w4 ⟨v,rfl,hO,hb4⟩;obtain⟨A',k',rfl,-,-,-⟩:=hO.arr hkM;have aut:=lJ.o;rw[aut] at hO;rw[aut];replace hO:=ζ hO;have rH:=ζ (qo.o.trans hb4);have hS4:=ζ (JQ.o.grows hb4);have sl4:=hS4.o.lt;have f4:=hS4.o.frozen 0;have c4:=hS4.o.c0;have hL4:=hLh.o.grows rH.o;have tK:g≠w.heap.size:=Nat.ne_of_lt EJ;have hrS:=aj w4 ⟨w.heap.size,0,none⟩ (.slice A' m k');have hL5:=hL4.row hrS (by intro e;injection e with e;exact tK e) (by intro e;injection e with e;exact Nat.ne_of_lt hLh.o.map.lt e) (fun j hj y hy=>by injection hj with hj;subst hj;exact aZ (hL4.DX y hy) hS4.o δ);have hS5:=hS4.o.bD 0 (.slice A' m k');have lZ:=hO.o.kept' hrS (fun j hj=>by injection hj with hj;subst hj;exact aZ hO.o hS4.o δ);have hF5:nJ (fun k=>k=g∨k=b) w (w4.setCell ⟨w.heap.size,0,none⟩ (.slice A' m k')):=(ah.setCell rH.o (p:=⟨w.heap.size,0,none⟩) (Nat.le_refl _) _).off _;have hL6:=hL5.aiF SX.o;have hrG:=aj (w4.setCell ⟨w.heap.size,0,none⟩ (.slice A' m k')) ⟨g,1,none⟩ (.int .i64 ((last+1:Nat):Int));have PE:=hS5.far (p:=⟨g,1,none⟩) (Ne.symm tK) (.int .i64 ((last+1:Nat):Int));have uj:=lZ.kept' hrG (fun j hj=>by injection hj with hj;subst hj;exact aZ lZ hL5.blk δ);have hF6:=hF5.trans (nJ.row (S:=fun k=>k=g∨k=b) hrG (fun j hj=>by injection hj with hj;subst hj;exact .inl (.inl rfl)));have c41:=hL4.blk.c1;have f41:=hL4.blk.frozen 1;have lg4:=hL4.blk.lt;have hlw:(last:Int)+1<9223372036854775808:=by have:=SX.o;omega
     have hwr:wrap64 ((last:Int)+1)=(last:Int)+1:=by
      have:=SX.o;exact Go.IntWalk.wrap64_in _ ⟨ω,ω⟩
     have ec:((last+1:Nat):Int)=(last:Int)+1:=ω;rw[ec] at hL6 PE uj hF6;clear ec;replace hL6:=ζ hL6;replace PE:=ζ PE;replace uj:=ζ uj;replace hF6:=ζ hF6;replace hlw:=ζ hlw;clear hL4 hrS hL5 hS5 lZ hF5 hrG cC XO hcn;go_wp2;generalize (w4.setCell ⟨w.heap.size,0,none⟩ (.slice A' m k')).setCell ⟨g,1,none⟩ (.int .i64 ((last:Int)+1))=w6 at *
     have hz4:=rH.o.size;have U5:=Ny (x:=⟨⟨wh,f,t,⟨lv,lc⟩⟩,A',m,k'⟩) uj.o;have PL:=ζ (uj.o.bJ (show base≤wr.heap.size by omega));unfold LP at U5;simp only at U5;have c60:=hL6.o.blk.c0;have c61:=hL6.o.blk.c1;have lg6:=hL6.o.blk.lt;have ls6:=PE.o.lt;have d0:=PE.o.c0;have d1:=PE.o.c1;have d2:=PE.o.c2;have d3:=PE.o.c3;have d4:=PE.o.c4;replace U5:=ζ U5;clear c41 f41 lg4 s0 sl3 fz0 f4 c4 sl4 hb4 hO;refine aG κ ?_;refine rK (.range 9) 1 ?_;iterate 9 refine aC ?_
     refine aB ?_;refine d_ (i:=9) rfl κ κ (fun wN hN hS K' hK=> ?_);clear hS;have hLN:=hL6.o.grows hN;obtain⟨w9,aoc,hM9,iG⟩:=hLN.map.put (k:=last+1) (by have:=V4.o;unfold lU;rw[List.length_map];omega) (by have:=SX.o;omega) (UG ⟨⟨wh,f,t,⟨lv,lc⟩⟩,A',m,k'⟩);rw[U5.o,show ((last+1:Nat):Int)=(last:Int)+1 by omega] at aoc;go_simp;refine hK.o _ _ ?_;clear hK;have hL9:=hLN.laid (x:=⟨⟨wh,f,t,⟨lv,lc⟩⟩,A',m,k'⟩) (fun y hy=>hLh.o.le y hy) (PL.o.grows hN) ayu.o wu.o iG hM9;have c91:=hL9.blk.c1;have hF9:=(hF6.o.trans (hN.off _)).trans (nJ.row (S:=fun k=>k=g∨k=b) iG (fun j hj=>by injection hj with hj;subst hj;exact .inl (.inr rfl)));have l9:=hL9.blk.lt;replace hL9:=ζ hL9;replace hF9:=ζ hF9;clear hLN aoc hM9 iG hN c60 c61 lg6 ls6 d0 d1 d2 d3 d4;go_wp2;go_ret2;refine⟨_,0,_,_,rfl,hL9.o,?_,by simp,Nat.le_refl _,hF9.o⟩;rw[hly.o];unfold bF;simp
   ·intro z cz kl yd yp w3 Yz hkey hlk hv hat hrg3 hlt hg3 hs3 hen;obtain⟨z',ez,rfl,-⟩:=Maps.keyOf_int_inv Tryz.underlying3 hkey;cases ez
    rw[MH] at hv;simp only[Option.some.injEq,Prod.mk.injEq] at hv;obtain⟨⟨zn,zx⟩,hzm,hzn,hzc⟩:=nX.entry Ya.o.asc (n:=z) (c:=cz) (fun zd=>by rw[hat zd,←hv.1]);obtain rfl:(zn:Int)=z:=hzn;have hvw:=Ny (Ya.o.DX _ hzm);rw[hzc] at hvw;rw[hvw] at hen ⊢;have hstep:=Oa Ya.o.asc (l:=⟨lv,lc⟩) hzm hlk;simp only at hstep;obtain⟨⟨zw,zf,zt,⟨zl,zc⟩⟩,zA,zm2,zk⟩:=zx;unfold LP at hen ⊢;simp only at hen hstep ⊢;have rH:=ζ (qo.o.aO hg3 (fun j hj=>by injection hj with hj;subst hj;exact hw1));have hS4:=ζ (JQ.o.aO hg3 (by intro e;injection e with e;omega));clear hat hkey hlk hvw hv hzc hs3 hg3;have s3:=hS4.o.c3;have s4:=hS4.o.c4;have sl3:=hS4.o.lt;replace hstep:=ζ hstep;have hcb:c + 1<1000000:=by
     have h1:=qB.o;have h2:=af5 (bF q last) ⟨lv,lc⟩;have h3:(bF q last).l.length=q.length:=by unfold bF;simp
     have h4:=V4.o;omega
    by_cases e1:lv=zl
    ·subst e1;by_cases e2:lc=zc
     ·subst e2;go_wp2;go_roundw
      case rel=>exact⟨_,Yz,c + 1,ν,ζ (by have h1:=qB.o;have h2:=hstep.o;rw[if_pos rfl] at h2;omega),hrg3.kept (World.grownBy_alloc w3 _ none) σ σ,ζ (rH.o.alloc _),ζ (hS4.o.alloc _)⟩
      case measure=>
       have JD:=hrg3.kept (World.grownBy_alloc w3 (.cells #[.slice zA zm2 zk,.int .i64 zf,.int .i64 zt,.int .i64 lv,.int .u32 (lc:Int)] 159) none) σ σ;rw[JD.left_eq,hrg.left_eq];exact hlt
     ·have e3:¬(zc:Int)=(lc:Int):=ω;go_wp2;go_roundw
      case rel=>exact⟨_,Yz,c,rfl,ζ (by have h1:=qB.o;have h2:=hstep.o;rw[if_neg (by intro e;injection e with _ e;exact e2 e.symm)] at h2;omega),hrg3.kept (World.grownBy_alloc w3 _ none) σ σ,ζ (rH.o.alloc _),ζ (hS4.o.alloc _)⟩
      case measure=>
       have JD:=hrg3.kept (World.grownBy_alloc w3 (.cells #[.slice zA zm2 zk,.int .i64 zf,.int .i64 zt,.int .i64 lv,.int .u32 (zc:Int)] 159) none) σ σ;rw[JD.left_eq,hrg.left_eq];exact hlt
    ·have e3:¬zl=lv:=fun e=>e1 e.symm
     go_wp2;go_roundw
     case rel=>exact⟨_,Yz,c,rfl,ζ (by have h1:=qB.o;have h2:=hstep.o;rw[if_neg (by intro e;injection e with e _;exact e3 e)] at h2;omega),hrg3.kept (World.grownBy_alloc w3 _ none) σ σ,ζ (rH.o.alloc _),ζ (hS4.o.alloc _)⟩
     case measure=>
      have JD:=hrg3.kept (World.grownBy_alloc w3 (.cells #[.slice zA zm2 zk,.int .i64 zf,.int .i64 zt,.int .i64 zl,.int .u32 (zc:Int)] 159) none) σ σ;rw[JD.left_eq,hrg.left_eq];exact hlt
end Go.Proofs.YtbhikkgpcmkonaaGreatDoor
namespace Go.Proofs.YtbhikkgpcmkonaaGreatDoor
open Go.RowKit
def ao5 (x:List UInt8):Value:=.string ⟨x.toArray⟩
theorem aiP (g:FuncId) (lb:Array Value) (eg:Enters Tryz.prog g) (p:List UInt8→Bool) (A:Option Addr) (m c:Nat) (l:List (List UInt8)) (w:World) (h:bW w 1 encS A m l) (hm:m≤9223372036854775807) (hp:xK Tryz.prog g lb ao5 p l w) :
 Calls Tryz.prog 239 #[.slice A m c,.func (.func g) #[] lb] w fun e w'=>e =.returned (.int .i64 (placeOf p l))∧ah w w':=by
 have hlen:=h.1;unfold Enters at eg;obtain⟨R,hR⟩:∃R,R=placeOf p l:=⟨_,rfl⟩;rw[←hR];replace hR:=ζ hR;replace hp:=ζ hp;replace h:=ζ h;go_enter Tryz.func239,Tryz.ntmps239
 go_wp2;go_loopw [5,8] (fun _ i wr=>∃k:Nat,k≤m∧i =.int .i64 k∧Hid (∀j y,j < k→l[j]? = some y→p y = false)∧Hid (ah w wr)) (fun _ i _=>m - (intOf i).toNat)
 case atStart=>exact⟨0,ω,rfl,fun _ _ h=>absurd h ω,ah.refl _⟩
 case round=>
  obtain⟨k,hk,rfl,hall,hg⟩:=hrel;by_cases hlt:k<m
  ·obtain⟨b,off,x,rfl,_,hx,hcell⟩:=(h.o.keep hg.o).at_ hlt;have c0:wr.cell? ⟨b,off+k,none⟩=some (.string ⟨x.toArray⟩):=by simpa using hcell 0 _ rfl
   have kY:(k:Int)<(m:Int):=ω;have cI:=hp.o x (List.mem_of_getElem? hx) wr hg.o;unfold ao5 at cI;cases hq:p x with
   | false=>
    rw[hq] at cI;replace cI:=ζ cI;have iY:=ζ (show ∀j y,j < k+1→l[j]? = some y→p y = false from fun j y hj hy=>by
     by_cases hjk:j = k
     ·subst hjk;rw[hx] at hy;rw[←Option.some.inj hy];exact hq
     ·exact hall.o j y ω hy)
    clear hcell hq hx hall hR;go_wp2_with fail;refine (cI.out).mono ?_;rintro e w1 ⟨rfl,hb⟩;have hg1:=ζ (hg.o.trans hb);go_wp2;go_roundw
    case rel=>exact⟨k+1,ω,ν,iY,hg1⟩
    case measure=>exact ψ
   | true=>
    rw[hq] at cI;have aQ:Hid (R=(k:Int)):=ζ (by rw[hR.o];exact iW hx hq hall.o);replace cI:=ζ cI;clear hcell hq hx hall hR;go_wp2_with fail;refine (cI.out).mono ?_;rintro e w1 ⟨rfl,hb⟩;have hg1:=ζ (hg.o.trans hb);go_wp2;go_ret;exact⟨by rw[aQ.o];rfl,hg1.o⟩
  ·obtain rfl:k=m:=ω;have aQ:Hid (R=-1):=ζ (by rw[hR.o];exact iC fun j y hy=>hall.o j y (by have:=(List.getElem?_eq_some_iff.1 hy).1;omega) hy);clear hall hR;go_wp2;go_ret;exact⟨by rw[aQ.o];rfl,hg.o⟩
theorem ako (g:FuncId) (lb:Array Value) (eg:Enters Tryz.prog g) (p:List UInt8→Bool) (A:Option Addr) (m c:Nat) (l:List (List UInt8)) (w:World) (h:bW w 1 encS A m l) (hm:m≤9223372036854775807) (hp:xK Tryz.prog g lb ao5 p l w) :
 Calls Tryz.prog 216 #[.slice A m c,.func (.func g) #[] lb] w fun e w'=>e =.returned (.bool (l.any p))∧ah w w':=by
 have cI:=aiP (c:=c) g lb eg p A m l w h hm hp;replace cI:=ζ cI;have aQ:=ζ (iE p l);clear h hp;go_enter Tryz.func216,Tryz.ntmps216
 go_wp2_with fail;refine cI.out.mono ?_;rintro e w1 ⟨rfl,hb⟩;go_wp2;go_ret;exact⟨aP aQ.o,hb⟩
end Go.Proofs.YtbhikkgpcmkonaaGreatDoor
