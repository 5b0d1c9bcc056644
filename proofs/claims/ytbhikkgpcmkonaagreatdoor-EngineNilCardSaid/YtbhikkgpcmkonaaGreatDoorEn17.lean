/- Parts: EngM Shelf6 HexA LetA LetB SlX -/
import Derived.Test.YtbhikkgpcmkonaaGreatDoorEn0
import Derived.Maps.RangeWalk
import Derived.Test.YtbhikkgpcmkonaaGreatDoorEn16
import Derived.Test.YtbhikkgpcmkonaaGreatDoorEn5
import Derived.Shelf.Strings.BuilderK
import Derived.Shelf.Unicode.ValidAny
import Derived.Test.YtbhikkgpcmkonaaGreatDoorProg
import Derived.Test.YtbhikkgpcmkonaaGreatDoorEn11
import Derived.Test.YtbhikkgpcmkonaaGreatDoorEn9
import Derived.Test.YtbhikkgpcmkonaaGreatDoorEn6
import Derived.Test.YtbhikkgpcmkonaaGreatDoorEn7
import Derived.Test.YtbhikkgpcmkonaaGreatDoorEn14
set_option maxRecDepth 100000
set_option maxHeartbeats 12800000
namespace Go.Proofs.YtbhikkgpcmkonaaGreatDoor
open Go.RowKit Go.Maps Go.WideMaps
def P9 (o:Option Nat):Value:=.pointer (o.map fun n=>⟨n,0,none⟩)
def uY (v:Value):Option (DataW Unit×List MemPlace):=match v with
 | .pointer none=>some (.nil,[])
 | .pointer (some ⟨b,0,none⟩)=>some (.lit (.int .i64 (b:Int)),[])
 | _=>none
def O7 (o:Option Nat):DataW Unit:=match o with
 | none=> .nil
 | some b=> .lit (.int .i64 (b:Int))
theorem uX (o:Option Nat):uY (P9 o)=some (O7 o,[]):=by cases o <;> rfl
theorem E5 {v:Value} {y:DataW Unit×List MemPlace} (h:uY v = some y):∃o,v = P9 o:=by
 unfold uY at h;split at h
 ·exact⟨none,rfl⟩
 ·exact⟨some _,rfl⟩
 ·cases h
theorem F5 {o o':Option Nat} (h:O7 o = O7 o'):o = o':=by
 unfold O7 at h;cases o <;> cases o' <;> simp at h ⊢
 omega
def eG {α:Type} (l:List (List UInt8×α)) (s:List UInt8):Option α:=(l.find? fun x=>decide (x.1=s)).map (·.2)
theorem oz {α:Type} (x:List UInt8×α) (l:List (List UInt8×α)) (s:List UInt8):eG (x ::l) s = if x.1=s then some x.2 else eG l s:=by
 unfold eG;rw[List.find?_cons];by_cases h:x.1=s <;> simp[h]
theorem wP {α:Type} {s:List UInt8} {v:α}:∀{l:List (List UInt8×α)},eG l s = none→∀t,eG (l ++[(s,v)]) t = if s = t then some v else eG l t
 | [],_,t=>by rw[List.nil_append,oz]
 | x ::l,h,t=>by
  rw[oz] at h;split at h
  ·cases h
  ·rename_i hx;rw[List.cons_append,oz,oz,wP h t];by_cases h1:x.1=t
   ·have:s≠t:=fun e=>hx (h1.trans e.symm)
    simp[h1,this]
   ·simp[h1]
theorem Fj {α:Type} {l:List (List UInt8×α)} {s:List UInt8} {v:α} (h:eG l s = some v):(s,v)∈l:=by
 unfold eG at h;obtain⟨x,hx,rfl⟩:=Option.map_eq_some_iff.1 h;have h1:=List.find?_some hx;simp only[decide_eq_true_eq] at h1;have h2:=List.mem_of_find?_eq_some hx;rw[←h1];exact h2
theorem rX {α:Type}:∀{l:List (List UInt8×α)},(l.map (·.1)).Nodup→∀{s:List UInt8} {v:α},(s,v)∈l→eG l s = some v
 | x ::l,hn,s,v,hm=>by
  rw[List.map_cons,List.nodup_cons] at hn;rw[oz];rcases List.mem_cons.1 hm with rfl | hm
  ·simp
  ·have:x.1≠s:=fun e=>hn.1 (List.mem_map.2 ⟨(s,v),hm,e.symm⟩)
   rw[if_neg this];exact rX hn.2 hm
theorem wQ {α:Type} {l:List (List UInt8×α)} {s:List UInt8} (h:∀x∈l,x.1≠s):eG l s = none:=by
 unfold eG;rw[List.find?_eq_none.2 (fun x hx=>by simpa using h x hx)];rfl
structure xP (D:DataW Unit) (l:List (List UInt8×Nat)):Prop where
 at_:∀s z,D.atKey (.string s) z = match eG l s with | some n=>O7 (some n) | none=>z
 has:∀s,Maps.has D (.string s)=(eG l s).isSome
 size:Maps.size D=l.length
def qI (w:World) (b n:Nat) (l:List (List UInt8×Nat)):Prop:=∃D,w.ownsMap (H:=Unit) Tryz.prog 9 uY b n D∧xP D l
theorem wU:Keyed Tryz.prog 9:=string_keyed Tryz.underlying9
theorem aol {s:List UInt8} (hs:s.length≤1000000):keyOf Tryz.prog 9 (.string ⟨s.toArray⟩)=some (.string s):=by
 simpa using keyOf_string_mk Tryz.underlying9 (s:=⟨s.toArray⟩) (by simp[ByteArray.size];unfold maxLen;omega)
theorem qI.made (w:World):qI (w.alloc (.map #[] 0)) w.heap.size 0 []:=⟨.map [],World.ownsMap_made w Tryz.prog 9 _,⟨fun _ _=>rfl,fun _=>rfl,rfl⟩⟩
theorem qI.lt {w:World} {b n:Nat} {l:List (List UInt8×Nat)} (h:qI w b n l):b < w.heap.size:=by obtain⟨D,h,_⟩:=h;exact World.ownsMap.lt h
theorem qI.kept {w w':World} {b n:Nat} {l:List (List UInt8×Nat)} {row:Option Nat} (h:qI w b n l) (hg:w.grownBy w' row) (hne:some b≠row):qI w' b n l:=by
 obtain⟨D,h,hs⟩:=h;exact⟨D,World.ownsMap.kept h hg hne,hs⟩
theorem qI.grows {w w':World} {b n:Nat} {l:List (List UInt8×Nat)} (h:qI w b n l) (hg:ah w w'):qI w' b n l:=h.kept (hg.keeps none) σ
theorem qI.bg {w:World} {b n:Nat} {l:List (List UInt8×Nat)} (h:qI w b n l):∀cur e fz,w.heap[b]?≠some (.cells cur e fz):=by
 obtain⟨D,⟨es,clock,hb,_⟩,_⟩:=h;intro cur e fz hc;rw[hb] at hc;cases hc
theorem qI.look {w:World} {b n:Nat} {l:List (List UInt8×Nat)} (h:qI w b n l) {s:List UInt8} (hs:s.length≤1000000) :
 (Instr.lookup 116 (.map (some b)) (.string ⟨s.toArray⟩) false).run Tryz.prog w =.ok (P9 (eG l s)) w:=by
 obtain⟨D,h,hD⟩:=h;obtain⟨v,ps,hrun,hv⟩:=World.ownsMap.lookup h wU Tryz.underlying116 (z:=.pointer none) κ (uX none) (aol hs);rw[hD.at_] at hv;obtain⟨o,rfl⟩:=E5 hv;rw[uX] at hv;simp only[Option.some.injEq,Prod.mk.injEq] at hv;have:o = eG l s:=by
  have h1:=hv.1;cases hl:eG l s with
  | none=>rw[hl] at h1;exact F5 h1
  | some n=>rw[hl] at h1;exact F5 h1
 rw[←this];exact hrun
theorem qI.put {w:World} {b n:Nat} {l:List (List UInt8×Nat)} (h:qI w b n l) (hn:n≤1000000) {s:List UInt8} (hs:s.length≤1000000) (hno:eG l s = none) (g:Nat) :
 ∃w',(Instr.mapUpdate 116 (.map (some b)) (.string ⟨s.toArray⟩) (.pointer (some ⟨g,0,none⟩))).run Tryz.prog w =.ok () w'∧qI w' b (n + 1) (l ++[(s,g)])∧w.grownBy w' (some b):=by
 obtain⟨D,h,hD⟩:=h;obtain⟨w',h1,h2,h3⟩:=World.ownsMap.update h wU Tryz.underlying116 (by unfold maxLen;omega) (aol hs) (uX (some g));have hm:=World.ownsMap.isMap h;have ht:=World.ownsMap.tidy h wU;refine⟨w',h1,⟨_,h2,⟨fun t z=> ?_,fun t=> ?_,?_⟩⟩,h3⟩
 ·rw[wP hno];by_cases he:s = t
  ·subst he;rw[if_pos rfl,atKey_put_same hm (vF _)]
  ·have hne:(Lit.string t)≠.string s:=fun e=>he (Lit.string.inj e).symm
   rw[if_neg he,atKey_put_other hne];exact hD.at_ t z
 ·rw[wP hno];by_cases he:s = t
  ·subst he;rw[if_pos rfl,has_put_same hm (vF _)];rfl
  ·have hne:(Lit.string t)≠.string s:=fun e=>he (Lit.string.inj e).symm
   rw[if_neg he,has_put_other hne];exact hD.has t
 ·rw[size_put ht,hD.has,hno];simp[hD.size]
theorem qI.len {w:World} {b n:Nat} {l:List (List UInt8×Nat)} (h:qI w b n l) (ty:TypeId):(Builtin.len_ #[116] ty #[.map (some b)]).run Tryz.prog w =.ok (.int .i64 (l.length:Int)) w:=by
 obtain⟨D,h,hD⟩:=h;have:=World.ownsMap.len h Tryz.underlying116 ty;rw[hD.size] at this;exact this
theorem Qg {α:Type} {l:List (List UInt8×α)} (hn:(l.map (·.1)).Nodup) (q:List UInt8×α→Bool) (s:List UInt8):eG (l.filter q) s = (eG l s).filter fun v=>q (s,v):=by
 cases h:eG l s with
 | none=>
  refine wQ fun x hx e=> ?_
  have:=rX hn (s:=s) (v:=x.2) (by rw[←e];exact (List.mem_filter.1 hx).1);rw[h] at this;cases this
 | some v=>
  have hm:=Fj h;cases hq:q (s,v) with
  | true=>
   have:eG (l.filter q) s = some v:=rX (List.Nodup.sublist (List.filter_sublist.map _) hn) (List.mem_filter.2 ⟨hm,hq⟩);rw[this];simp[Option.filter,hq]
  | false=>
   have:eG (l.filter q) s = none:=wQ fun x hx e=>by
    obtain⟨h1,h2⟩:=List.mem_filter.1 hx;have h3:=rX hn (s:=s) (v:=x.2) (by rw[←e];exact h1);rw[h] at h3;injection h3 with h3
    have:x = (s,v):=Prod.ext e h3.symm;rw[this,hq] at h2;cases h2
   rw[this];simp[Option.filter,hq]
theorem xP.entry {D:DataW Unit} {l:List (List UInt8×Nat)} (h:xP D l) {s:List UInt8} {o:Option Nat} (hat:∀zd,D.atKey (.string s) zd=O7 o):∃n,o = some n∧eG l s = some n:=by
 have h1:=hat .nil;have h2:=hat (.lit (.bool true));rw[h.at_] at h1 h2;cases hl:eG l s with
 | none=>
  rw[hl] at h1 h2;simp only at h1 h2;rw[←h1] at h2;cases h2
 | some n=>
  rw[hl] at h1;exact⟨n,(F5 h1).symm,rfl⟩
theorem xP.del {D:DataW Unit} {l:List (List UInt8×Nat)} (h:xP D l) (ht:Tidy D) (hn:(l.map (·.1)).Nodup) (s:List UInt8):xP (D.del (.string s)) (l.filter fun x=>decide (x.1≠s)):=by
 have hl:∀t,eG (l.filter fun x=>decide (x.1≠s)) t = if t = s then none else eG l t:=fun t=>by
  rw[Qg hn];by_cases e:t = s
  ·simp only[e,if_true];cases eG l s <;> simp[Option.filter]
  ·simp only[e,if_false];cases eG l t <;> simp[Option.filter,e]
 refine⟨fun t z=> ?_,fun t=> ?_,?_⟩
 ·rw[hl];by_cases e:t = s
  ·subst e;rw[if_pos rfl,atKey_del_same]
  ·have hne:(Lit.string t)≠.string s:=fun x=>e (Lit.string.inj x)
   rw[if_neg e,atKey_del_other hne];exact h.at_ t z
 ·rw[hl];by_cases e:t = s
  ·subst e;rw[if_pos rfl,has_del_same];rfl
  ·have hne:(Lit.string t)≠.string s:=fun x=>e (Lit.string.inj x)
   rw[if_neg e,has_del_other hne];exact h.has t
 ·have hz:=size_del (k:=.string s) ht;rw[h.has,h.size] at hz;have hc:∀l:List (List UInt8×Nat),(l.map (·.1)).Nodup→(l.filter fun x=>decide (x.1≠s)).length+(if (eG l s).isSome then 1 else 0)=l.length:=by
   intro l;induction l with
   | nil=>intro _;rfl
   | cons x r ih=>
    intro hn;rw[List.map_cons,List.nodup_cons] at hn;have:=ih hn.2;rw[List.filter_cons,oz];by_cases e:x.1=s
    ·have hno:eG r s = none:=wQ fun y hy e2=>hn.1 (List.mem_map.2 ⟨y,hy,e2.trans e.symm⟩)
     rw[hno] at this;simp[e] at this ⊢;omega
    ·simp[e] at this ⊢;omega
  have:=hc l hn;omega
end Go.Proofs.YtbhikkgpcmkonaaGreatDoor
namespace Go.Proofs
open Go.Shelf
def Tryz.JJ:Go.Shelf.Ren:=⟨fun | 169=>169 | n=>n,fun | 70=>270 | 9=>9 | 0=>0 | 72=>272 | 37=>112 | 127=>315 | 3=>3 | 5=>5 | n=>n,fun | n=>n⟩
theorem Tryz.akD:Go.Proofs.Lays.n169 Tryz.prog Tryz.JJ:={
 mixed:=by kernel_rfl
 f169:=Tryz.func169.trans (congrArg some κ)
 t0:=Tryz.underlying0
 a0:=Tryz.isAgg0
 z0:=Tryz.sizeOf0
 v0:=Tryz.zeroValue0
 t3:=Tryz.underlying3
 a3:=Tryz.isAgg3
 z3:=Tryz.sizeOf3
 v3:=Tryz.zeroValue3
 t9:=Tryz.underlying9
 a9:=Tryz.isAgg9
 z9:=Tryz.sizeOf9
 v9:=Tryz.zeroValue9
 t37:=Tryz.underlying112
 a37:=Tryz.isAgg112
 z37:=Tryz.sizeOf112
 v37:=Tryz.zeroValue112
 t70:=Tryz.underlying270
 a70:=Tryz.isAgg270
 z70:=Tryz.sizeOf270
 v70:=Tryz.zeroValue270
 t72:=Tryz.underlying272
 a72:=Tryz.isAgg272
 z72:=Tryz.sizeOf272
 v72:=Tryz.zeroValue272
 t127:=Tryz.underlying315
 a127:=Tryz.isAgg315
 z127:=Tryz.sizeOf315
 v127:=Tryz.zeroValue315}
def Tryz.Ap:Go.Shelf.Ren:=⟨fun | 196=>75 | 259=>112 | n=>n,fun | 9=>9 | 4=>4 | 3=>3 | 5=>5 | 12=>12 | 119=>220 | 0=>0 | 46=>39 | 139=>223 | 138=>222 | 53=>33 | n=>n,fun | 3=>0 | 4=>1 | n=>n⟩
theorem Tryz.adN:Go.Proofs.Lays.n196 Tryz.prog Tryz.Ap:={
 mixed:=by kernel_rfl
 f196:=Tryz.func75.trans (congrArg some κ)
 f259:=Tryz.func112.trans (congrArg some κ)
 t0:=Tryz.underlying0
 a0:=Tryz.isAgg0
 z0:=Tryz.sizeOf0
 v0:=Tryz.zeroValue0
 t3:=Tryz.underlying3
 a3:=Tryz.isAgg3
 z3:=Tryz.sizeOf3
 v3:=Tryz.zeroValue3
 t4:=Tryz.underlying4
 a4:=Tryz.isAgg4
 z4:=Tryz.sizeOf4
 v4:=Tryz.zeroValue4
 t5:=Tryz.underlying5
 a5:=Tryz.isAgg5
 z5:=Tryz.sizeOf5
 v5:=Tryz.zeroValue5
 t9:=Tryz.underlying9
 a9:=Tryz.isAgg9
 z9:=Tryz.sizeOf9
 v9:=Tryz.zeroValue9
 t12:=Tryz.underlying12
 a12:=Tryz.isAgg12
 z12:=Tryz.sizeOf12
 v12:=Tryz.zeroValue12
 t46:=Tryz.underlying39
 a46:=Tryz.isAgg39
 z46:=Tryz.sizeOf39
 v46:=Tryz.zeroValue39
 t53:=Tryz.underlying33
 a53:=Tryz.isAgg33
 z53:=Tryz.sizeOf33
 v53:=Tryz.zeroValue33
 t119:=Tryz.underlying220
 a119:=Tryz.isAgg220
 z119:=Tryz.sizeOf220
 t138:=Tryz.underlying222
 a138:=Tryz.isAgg222
 z138:=Tryz.sizeOf222
 v138:=Tryz.zeroValue222
 t139:=Tryz.underlying223
 a139:=Tryz.isAgg223
 z139:=Tryz.sizeOf223
 v139:=Tryz.zeroValue223
 g3:=by kernel_rfl
 g4:=by kernel_rfl}
end Go.Proofs
namespace Go.Proofs.YtbhikkgpcmkonaaGreatDoor
open Go.RowKit
theorem afI:Builder.Extra Tryz.prog Tryz.JJ where
 sizeBuilder:=by kernel_rfl
 liesBuilder:=by kernel_rfl
 t5:=Tryz.underlying5
 a5:=Tryz.isAgg5
 z5:=Tryz.sizeOf5
 v5:=Tryz.zeroValue5
 infoByte:=by kernel_rfl
 cellsByte:=by kernel_rfl
 sizeByte:=by kernel_rfl
 neB5:=δ
def zY (b:Nat) (l:List UInt8) (w:World):Prop:=∃p v,(p =.pointer none∨p =.pointer (some ⟨b,0,none⟩))∧aF w b 272 #[p,v]∧Own w b 5 1 h_ v (mP l)
theorem zY.new (w:World):zY w.heap.size [] (w.alloc (.cells #[.pointer none,.slice none 0 0] 272)):=⟨_,_,.inl rfl,aF.new w _ _,Own.jA _ _ _ _ _⟩
theorem X7 {b:Nat} {p v:Value} (w:World) (hB:aF w b 272 #[p,v]) (hp:p =.pointer none∨p =.pointer (some ⟨b,0,none⟩)) :
 Calls Tryz.prog 210 #[.pointer (some ⟨b,0,none⟩)] w fun e w'=>e =.returned (.tuple #[])∧aF w' b 272 #[.pointer (some ⟨b,0,none⟩),v]∧w.grownBy w' (some b):=by
 obtain⟨j,hj,hjs⟩:=Option.map_eq_some_iff.1 (show (Tryz.prog.info? 272).map (·.size)=some 2 by kernel_rfl);have hsh:w.shape? b = some (272,2):=by unfold aF at hB;simp[World.shape?,hB]
 have hfz:=hB.frozen 0;have hlt:=hB.lt;have h0:=hB.c0;replace hB:=ζ hB;rcases hp with rfl | rfl
 ·go_enter Tryz.func210,Tryz.ntmps210
  go_wp2;rw[Lib.run_to_unsafe w ⟨b,0,none⟩ Tryz.underlying270 Tryz.underlying345 hj (by rw[hjs];decide) hsh (Nat.zero_lt_succ 1)];simp only[Result.andThen];rw[Oper.upon_value];go_wp2;rw[run_callFunc_extern Tryz.func236 κ κ κ (e:=Extern.AbiNoEscape.same) κ];rw[Lib.run_noEscape];simp only[Result.andThen];rw[Oper.upon_value];go_wp2;rw[Lib.run_from_unsafe w ⟨b,0,none⟩ Tryz.underlying345 Tryz.underlying270 hj hsh κ];simp only[Result.andThen];rw[Oper.upon_value];go_wp2;go_end0;exact⟨rfl,hB.o.aW 0 _,aj w ⟨b,0,none⟩ _⟩
 ·go_enter Tryz.func210,Tryz.ntmps210
  go_wp2;rw[Lib.run_neq_ptr_same w _ Tryz.underlying270 hj];go_wp2;go_end0;exact⟨rfl,hB.o,World.grownBy.refl _ _⟩
theorem Zm {b:Nat} {l:List UInt8} (c:Nat) (hc:c < 256) (w:World) (h:zY b l w) (hl:l.length≤1000000) :
 Calls Tryz.prog 168 #[.pointer (some ⟨b,0,none⟩),.int .u8 (c:Int)] w fun e w'=>e =.returned .nilIface∧zY b (l ++[UInt8.ofNat c]) w'∧Below b w w':=by
 obtain⟨p,v,hp,hB,hO⟩:=h;have cC:=ζ (X7 w hB hp);have hlt:=hB.lt;have Ru:Hid ((mP l).length≤1000000):=ζ (by unfold mP;rw[List.length_map];exact hl);have hOh:=ζ (fun W (hW:w.grownBy W (some b))=>hO.kept' hW (fun j hj=>by injection hj with hj;subst hj;exact aV hO hB δ));have aO:Hid (mP (l ++[UInt8.ofNat c])=mP l ++[c]):=ζ (by
  unfold mP;rw[List.map_append];simp only[List.map_cons,List.map_nil];rw[UInt8.toNat_ofNat_of_lt' (by simpa using hc)])
 clear hB hO hp hl;unfold zY;rw[aO.o];generalize mP l = L at *
 clear aO;go_enter Tryz.func168,Tryz.ntmps168
 go_wp2_with fail;refine cC.out.mono ?_;rintro e w1 ⟨rfl,ug,hg1⟩;have tq:=ζ (hOh.o w1 hg1);have hb1:=ζ ((Below.refl b w).grown hg1 ω (fun g e=>by injection e with e;omega));have hz1:=hg1.size;have f1:=ug.frozen 1;have c1:=ug.c1;have lt1:=ug.lt;obtain⟨A,k,rfl,-,-,-⟩:=tq.o.arr hkB;replace ug:=ζ ug;clear cC hOh hg1;go_wp2_with (at_builtin;refine gy (x:=c) U2 rfl (.tmp 11) (.tmp 13) rfl (tq.o.alloc _) rfl ⟨w1.heap.size,0,none⟩ rfl rfl (lJ (by exact heap_alloc_new w1 _)) (Ws c) (by simp;omega) (by have:=Ru.o;unfold maxLen;omega) (by have:=Ru.o;omega) (fun v5 w5 mY hgr FQ=> ?_);(have J8:=(ug.o.alloc (.cells #[.int .u8 (c:Int)] 5)).aP hgr (fun e=>aV tq.o ug.o δ e.symm));(have iU:=ζ ((hb1.o.alloc ω _).grown hgr (by simp;omega) (fun g e=>tq.o.fH g e)));(obtain⟨A5,k5,rfl,-,-,-⟩:=mY.arr hkB);(rw[show (L++[c]).length=L.length+1 by simp] at mY);(have f5:=J8.frozen 1);(have c5:w5.cell? ⟨b,1,none⟩=some (.slice A L.length k):=J8.cell 1);(have l5:=J8.lt);(replace J8:=ζ J8);(replace mY:=ζ mY);clear hgr FQ);go_ret;refine⟨rfl,⟨_,_,.inr rfl,J8.o.aW 1 _,mY.o.kept' (aj w5 ⟨b,1,none⟩ _) (fun j hj=>by injection hj with hj;subst hj;exact aV mY.o J8.o δ)⟩,Below.setCell iU.o (Nat.le_refl _) _⟩
theorem UF (l:List UInt8):bM h_ (mP l)=Lib.byteCells l:=by
 unfold bM mP Lib.byteCells h_;induction l with
 | nil=>rfl
 | cons a r ih=>simp only[List.map_cons,List.flatMap_cons];rw[ih];rfl
theorem UJ {b:Nat} {l:List UInt8} (w:World) (h:zY b l w) :
 Calls Tryz.prog 169 #[.pointer (some ⟨b,0,none⟩)] w fun e w'=>e =.returned (.string ⟨l.toArray⟩)∧Below b w w':=by
 obtain⟨p,v,hp,hB,hO⟩:=h;have hlt:=hB.lt;have hne:=aV hO hB δ;have hA:Lib.BuilderAt 272 5 b b p (Lib.byteCells l) w:=⟨Nat.le_refl _,v,hB,by
  unfold Own at hO;rw[UF] at hO;have e:(Lib.byteCells l).length=(mP l).length:=by unfold Lib.byteCells mP;rw[List.length_map,List.length_map]
  rw[e];exact hO,hne⟩
 refine (Any.Builder_String_any Tryz.akD afI b b l w (by rcases hp with rfl | rfl;exact .inl hA;exact .inr hA) ω).mono ?_;rintro e w' ⟨h1,h2⟩;exact⟨h1,h2⟩
theorem aex {i:Nat} (h:i < (⟨#[48,49,50,51,52,53,54,55,56,57,97,98,99,100,101,102]⟩:ByteArray).size):(⟨#[48,49,50,51,52,53,54,55,56,57,97,98,99,100,101,102]⟩:ByteArray)[i]'h = FN i:=by
 have hi:i < 16:=h;match i,hi,h with
 | 0,_,_ | 1,_,_ | 2,_,_ | 3,_,_ | 4,_,_ | 5,_,_ | 6,_,_ | 7,_,_ | 8,_,_ | 9,_,_ | 10,_,_ | 11,_,_ | 12,_,_ | 13,_,_ | 14,_,_ | 15,_,_=>rfl
 | i + 16,hi,_=>exact absurd hi ω
theorem aqO:∀X:Fin 256,bits .and .u8 ((X.val:Nat):Int) 15=((X.val % 16:Nat):Int):=δ
theorem wH (d:UInt8):UInt8.ofNat d.toNat=d:=by simp
theorem aaP (l:List Nat) (x:Nat):AO (l ++[x])=AO l ++[FN (x / 16)]++[FN (x % 16)]:=by unfold AO;rw[List.flatMap_append];simp
theorem TK (l:List Nat):(AO l).length=2*l.length:=by
 unfold AO;induction l with
 | nil=>rfl
 | cons a r ih=>rw[List.flatMap_cons,List.length_append,ih];simp;omega
theorem ahR {A:Option Addr} {m c:Nat} {l:List Nat} (w:World) (hA:cu w 1 h_ A m l) (hb:∀x∈l,x < 256) (hm:m≤1000) :
 Calls Tryz.prog 128 #[.slice A m c] w fun e w'=>e =.returned (.string ⟨(AO l).toArray⟩)∧ah w w':=by
 have nM:=ζ hA.1;have cW:=ζ (fun (t:List UInt8) (d:Nat) (hd:d < 256) W (h:zY w.heap.size t W) hl=>Zm (b:=w.heap.size) (l:=t) d hd W h hl);have cS:=ζ (fun (t:List UInt8) W (h:zY w.heap.size t W)=>UJ (b:=w.heap.size) (l:=t) W h);replace hA:=ζ hA;replace hb:=ζ hb;go_enter Tryz.func128,Tryz.ntmps128
 go_wp2;go_loopw [5,8] (fun _ i wr=>∃k:Nat,k≤m∧i =.int .i64 (k:Int)∧Hid (zY w.heap.size (AO (l.take k)) wr)∧Hid (ah w wr)) (fun _ i _=>m - (intOf i).toNat)
 case atStart=>exact⟨0,ω,rfl,ζ (zY.new w),ζ ((ah.refl w).alloc _)⟩
 case round=>
  obtain⟨k,hk,rfl,hB,hG⟩:=hrel;by_cases yR:k<m
  ·obtain⟨bb,off,x,rfl,GK,hx,hcell⟩:=(hA.o.keep hG.o).at_ yR;have c0:wr.cell? ⟨bb,off+k,none⟩=some (.int .u8 (x:Int)):=by simpa using hcell 0 _ rfl
   have lK:(k:Int)<(m:Int):=ω;have hx2:=hb.o x (List.mem_of_getElem? hx);have hand:=aqO ⟨x,hx2⟩;simp only at hand;have hq1:x / 16<16:=ω;have Oz:x % 16<16:=Nat.mod_lt _ δ;have hl1:(AO (l.take k)).length≤2000:=by rw[TK,List.length_take];omega
   have nP:Hid (AO (l.take (k+1))=AO (l.take k)++[FN (x / 16)]++[FN (x % 16)]):=ζ (by rw[List.take_add_one,hx];exact aaP _ _);generalize AO (l.take k)=t0 at *
   clear hx hcell;go_wp2_with fail;simp only[aex];refine (cW.out _ (FN (x / 16)).toNat (FN (x / 16)).toNat_lt _ hB.o ω).mono ?_;rintro e w1 ⟨rfl,ug,hb1⟩;rw[wH] at ug;have gu:=ζ (hG.o.eP hb1);replace ug:=ζ ug;clear hb1 hB hG;go_wp2_with fail;simp only[aex];refine (cW.out _ (FN (x % 16)).toNat (FN (x % 16)).toNat_lt _ ug.o (by rw[List.length_append];simp;omega)).mono ?_;rintro e w2 ⟨rfl,pW,hb2⟩;rw[wH] at pW;have fG:=ζ (gu.o.eP hb2);replace pW:=ζ pW;go_wp2;go_roundw
   case rel=>exact⟨k+1,ω,ν,by rw[nP.o];exact pW,fG⟩
   case measure=>exact ψ
  ·obtain rfl:k=m:=ω;have hall:Hid (l.take k=l):=ζ (by rw[←nM.o,List.take_length]);rw[hall.o] at hB;go_wp2_with fail;refine (cS.out _ _ hB.o).mono ?_;rintro e w1 ⟨rfl,hb1⟩;go_wp2;go_ret;exact⟨rfl,hG.o.eP hb1⟩
end Go.Proofs.YtbhikkgpcmkonaaGreatDoor
namespace Go.Proofs.YtbhikkgpcmkonaaGreatDoor
open Go.RowKit
def lS (w:World):Prop:=Lib.Utf8Tabs (Tryz.Ap.g 3) (Tryz.Ap.g 4) w
theorem lS.grows {w w':World} (h:lS w) (hg:ah w w'):lS w':=Utf8Tabs_below h hg
theorem Zn (s:List UInt8) (hs:s.length≤1000000) (w:World) (hT:lS w) :
 Calls Tryz.prog 75 #[.string ⟨s.toArray⟩] w fun e w'=>e =.returned (.bool (Lib.validD s))∧ah w w':=
 (Any.utf8_ValidString Tryz.adN ⟨s.toArray⟩ w (by simp only[ByteArray.size,List.size_toArray];omega) hT).mono fun e w' h=>h
theorem afz (g:FuncId) (lb:Array Value) (eg:Enters Tryz.prog g) (p:bK→Bool) (A:Option Addr) (m c:Nat) (l:List bK) (w:World) (h:cu w 2 eu A m l) (hm:m≤9223372036854775807) (hp:uo Tryz.prog g lb Df p l w) :
 Calls Tryz.prog 174 #[.slice A m c,.func (.func g) #[] lb] w fun e w'=>e =.returned (.bool (l.any p))∧ah w w':=by
 have cI:=JR (c:=c) g lb eg p A m l w h hm hp;replace cI:=ζ cI;have aO:=ζ (gZ p l);clear h hp;go_enter Tryz.func174,Tryz.ntmps174
 go_wp2_with fail;refine cI.out.mono ?_;rintro e w1 ⟨rfl,hb⟩;go_wp2;go_ret;exact⟨aN aO.o,hb⟩
theorem Ul (x:bK) (hx:x.v.length≤1000000) (w:World) (hT:lS w):Calls Tryz.prog 173 #[Df x] w fun e w'=>e =.returned (.bool (!Lib.validD x.v))∧ah w w':=by
 have cV:=ζ (fun W (hW:ah w W)=>Zn x.v hx W (hT.grows hW));obtain⟨n,v⟩:=x;unfold Df;simp only at *
 generalize Lib.validD v = B at *
 clear hT hx;go_enter Tryz.func173,Tryz.ntmps173
 go_wp2_with fail;refine (cV.out _ γ).mono ?_;rintro e w1 ⟨rfl,hb⟩;have hG:ah w w1:=((ah.refl w).alloc _).trans hb;go_wp2;go_ret;exact⟨rfl,hG⟩
theorem Gy {A:Option Addr} {m c:Nat} {fs:List bK} (w:World) (hT:lS w) (hA:cu w 2 eu A m fs) (hm:m≤1000) (hv:∀f∈fs,f.v.length≤1000000) :
 Calls Tryz.prog 134 #[.slice A m c] w fun e w'=>e =.returned (.bool (fieldsU fs))∧ah w w':=by
 have cR:=ζ (J_ (c:=c) w hA ω);have cC:=ζ (fun W (hW:ah w W)=>afz (c:=c) 173 #[] (enters_of Tryz.func173 κ rfl) (fun f=> !Lib.validD f.v) A m fs W (hA.keep hW) ω (fun x hx W' uK=>by
  have h:=Ul x (hv x hx) W' (hT.grows (hW.trans uK));exact h))
 have hR:fieldsU fs=(iw fs&& !(fs.any fun f=> !Lib.validD f.v)):=by
  unfold fieldsU anm;rw[List.all_eq_not_any_not]
 rw[hR];generalize (fs.any fun f=> !Lib.validD f.v)=V at *
 generalize iw fs=B at *
 clear hR hT hA hv;go_enter Tryz.func134,Tryz.ntmps134
 go_wp2_with fail;refine cR.out.mono ?_;rintro e w1 ⟨rfl,hb⟩;cases B with
 | false=>
  go_wp2;go_ret;exact⟨rfl,hb⟩
 | true=>
  go_wp2_with fail;refine (cC.out _ hb).mono ?_;rintro e w2 ⟨rfl,hb2⟩;go_wp2;go_ret;exact⟨rfl,hb.trans hb2⟩
theorem abK (n k:Nat):(kD n)[k]? = if k<8 then some (n / 2 ^ (56-8*k) % 256) else none:=by
 unfold kD;rw[List.getElem?_map];by_cases h:k<8
 ·rw[List.getElem?_range h,if_pos h];rfl
 ·rw[if_neg h,List.getElem?_eq_none (by simpa using h)];rfl
theorem abJ (n:Nat):∀x∈kD n,x < 256:=by
 intro x hx;unfold kD at hx;obtain⟨i,_,rfl⟩:=List.mem_map.1 hx;exact Nat.mod_lt _ δ
theorem take_set {l:List Nat} {m k x:Nat} (hk:k<m) (hl:l[k]? = some x):(l.take k++List.replicate (m - k) 0).set k x = l.take (k+1)++List.replicate (m - (k+1)) 0:=by
 have Ey:=(List.getElem?_eq_some_iff.1 hl).1;rw[List.set_append,if_neg (by rw[List.length_take];omega),List.take_add_one,hl];have e1:k-(l.take k).length=0:=by rw[List.length_take];omega
 have e2:m - k=(m - (k+1))+1:=ω;rw[e1,e2,List.replicate_succ,List.set_cons_zero];simp
theorem agJ {w:World} {g:Nat} {t:TypeId} {xs:List Nat} (h:aF w g t (sV xs)):cu w 1 h_ (some ⟨g,0,none⟩) xs.length xs:=by
 refine⟨rfl,fun _=>⟨g,0,rfl,h.lt,fun i hi j u hu=> ?_⟩⟩;have hj:j = 0:=by have:=(List.getElem?_eq_some_iff.1 hu).1;simp[h_] at this;omega
 subst hj;have hc:=h.cell i;simp only[Nat.zero_add,Nat.mul_one,Nat.add_zero];rw[hc];unfold sV;simp[h_] at hu;simp[hi,←hu]
theorem Zy {n:Nat} (w:World) :
 Calls Tryz.prog 80 #[.int .u64 (n:Int)] w fun e w'=>e =.returned (.string ⟨(nY n).toArray⟩)∧ah w w':=by
 have cH:=ζ (fun W (h:cu W 1 h_ (some ⟨w.heap.size,0,none⟩) 8 (kD n))=>ahR (c:=8) W h (abJ n) ω);go_enter Tryz.func80,Tryz.ntmps80
 go_wp2;go_loopw [4,5] (fun _ i wr=>∃k:Nat,k≤8∧i =.int .i64 (k:Int)∧Hid (aF wr w.heap.size 236 (sV ((kD n).take k++List.replicate (8-k) 0)))∧Hid (ah w wr)) (fun _ i _=>8-(intOf i).toNat)
 case atStart=>exact⟨0,ω,rfl,ζ ((aF.new w _ _).cast κ),ζ ((ah.refl w).alloc _)⟩
 case round=>
  obtain⟨k,hk,rfl,hB,hG⟩:=hrel;by_cases hk8:k<8
  ·have lK:(k:Int)<8:=ω;have hval:(n:Int) / 2 ^ (56-8*k) % 256=((n / 2 ^ (56-8*k) % 256:Nat):Int):=by
    rw[Int.natCast_emod,Int.natCast_ediv,Int.natCast_pow];rfl
   have hat:(kD n)[k]? = some (n / 2 ^ (56-8*k) % 256):=by rw[abK,if_pos hk8]
   have aG:=take_set (m:=8) hk8 hat;generalize n / 2 ^ (56-8*k) % 256=X at *
   have pW:=hB.o.aW k (.int .u8 (X:Int));rw[Yn,aG] at pW;replace pW:=ζ pW;have hf:=hB.o.frozen k;have hc:∃u,wr.cell? ⟨w.heap.size,k,none⟩=some u:=⟨_,(hB.o.cell k).trans (Array.getElem?_eq_getElem (by unfold sV;simp[kD];omega))⟩;obtain⟨u,hc⟩:=hc;have hlt:=hB.o.lt;have fG:=ζ (hG.o.setCell (p:=⟨w.heap.size,k,none⟩) (Nat.le_refl _) (.int .u8 (X:Int)));clear aG hat hB hG;go_wp2;go_roundw
   case rel=>exact⟨k+1,ω,ν,pW,fG⟩
   case measure=>exact ψ
  ·obtain rfl:k=8:=ω;have hA:=agJ hB.o;have e1:(kD n).take 8++List.replicate (8-8) 0=kD n:=by
    rw[List.take_of_length_le (by simp[kD])];simp
   rw[e1] at hA;go_wp2_with fail;refine (cH.out _ hA).mono ?_;rintro e w2 ⟨rfl,hb⟩;go_wp2;go_ret;exact⟨rfl,hG.o.trans hb⟩
def abx (k:Int):List Value:=[.int .u8 k]
theorem hkK (k:Int):(abx k).length=1:=rfl
theorem asz (k:Int):∀u∈abx k,u.oneCell'=true:=by intro u hu;simp[abx] at hu;subst hu;rfl
def QB (c:UInt8):Int:=Lib.indexByte [48,49,50,51,52,53,54,55,56,57,97,98,99,100,101,102] c
theorem aey:∀n:Fin 256,decide (QB (UInt8.ofNat n.val)<0)= !wX (UInt8.ofNat n.val)∧QB (UInt8.ofNat n.val)<16∧-1≤QB (UInt8.ofNat n.val):=δ
theorem YO (c:UInt8):decide (QB c < 0)= !wX c∧QB c < 16∧-1≤QB c:=by
 have h:=aey ⟨c.toNat,c.toNat_lt⟩;simp only[wH] at h;exact h
theorem aez (W:World) (c:UInt8):Calls Tryz.prog 211 #[.string {data:= #[48,49,50,51,52,53,54,55,56,57,97,98,99,100,101,102]},.int .u8 (c.toNat:Int)] W fun e w'=>e =.returned (.int .i64 (QB c))∧ah W w':=by
 have:=Any.strings_IndexByte Tryz.Qk {data:= #[48,49,50,51,52,53,54,55,56,57,97,98,99,100,101,102]} (c.toNat:Int) W;rw[show (c.toNat:Int).toNat.toUInt8=c by simp] at this;exact this.mono fun e w' ⟨h1,h2⟩=>⟨h1,by rw[h2];exact ah.refl _⟩
def zV (s:List UInt8):Bool:=decide (s.length % 2=0)&&s.all wX
def Pm (s:List UInt8) (w:World) (e:Ending) (w':World):Prop:=
 ah w w'∧((zV s = true∧∃v bs,e =.returned (.tuple #[v,.int .i64 0])∧Own w' w.heap.size 5 1 abx v bs∧bs.length=s.length / 2)∨(zV s = false∧e =.returned (.tuple #[.slice none 0 0,.int .i64 2])))
theorem Zd {s:List UInt8} {k:Nat} {c:UInt8} (h:s[k]? = some c) (hc:wX c = false):s.all wX=false:=by
 rw[List.all_eq_false];exact⟨c,List.mem_of_getElem? h,by rw[hc];simp⟩
theorem abH (s:List UInt8) (hs:s.length≤1000000) (w:World):Calls Tryz.prog 171 #[.string ⟨s.toArray⟩] w (Pm s w):=by
 have cI:=ζ aez;by_cases Nk:s.length % 2=0
 ·have aoO:(s.length:Int) % 2=0:=ω;have hgd:Hid (zV s = s.all wX):=ζ (by unfold zV;simp[Nk]);go_enter Tryz.func171,Tryz.ntmps171
  go_wp2;go_loopw [4,5,6,7] (fun v i _ _ wr=>∃(p j:Nat) (bs:List Int),p≤s.length∧Hid (p = 2*j)∧i =.int .i64 (p:Int)∧Hid (Own wr w.heap.size 5 1 abx v bs)∧Hid (bs.length=j)∧Hid ((s.take p).all wX=true)∧Hid (ah w wr)) (fun _ i _ _ _=>s.length-(intOf i).toNat)
  case atStart=>exact⟨0,0,[],ω,rfl,rfl,Own.jA _ _ _ _ _,rfl,rfl,ah.refl _⟩
  case round=>
   obtain⟨p,j,bs,hj,hpj,rfl,hO,hbl,hall,hG⟩:=hrel;obtain⟨A,cv,rfl,-,-,-⟩:=hO.o.arr hkK;generalize QL:bs.length=Ln at *
   replace QL:=ζ QL;by_cases hjl:p < s.length
   ·have h1:p + 1<s.length:=by have:=hpj.o;omega
    obtain⟨a,ha⟩:∃a,s[p]? = some a:=⟨_,List.getElem?_eq_getElem hjl⟩;obtain⟨b,hb⟩:∃b,s[p + 1]? = some b:=⟨_,List.getElem?_eq_getElem h1⟩;have ea:(⟨s.toArray⟩:ByteArray)[p]'(by simpa[ByteArray.size] using hjl)=a:=by
     rw[List.getElem?_eq_getElem hjl] at ha;injection ha
    have eb:(⟨s.toArray⟩:ByteArray)[p + 1]'(by simpa[ByteArray.size] using h1)=b:=by
     rw[List.getElem?_eq_getElem h1] at hb;injection hb
    have hjz:(p:Int)<(s.length:Int):=ω;have h1z:(p:Int)+1<(s.length:Int):=ω;have fU:=ah.refl wr;obtain⟨ha1,ha2,ha3⟩:=YO a;obtain⟨hb1,hb2,hb3⟩:=YO b;have cA:=ζ (fun W (hW:ah wr W)=>(cI.out W a).mono fun e w' h=>h);have cB:=ζ (fun W (hW:ah wr W)=>cI.out W b);have oG:wX a = false∨wX b = false→zV s = false:=fun h=>by
     rw[hgd.o];rcases h with h | h
     ·exact Zd ha h
     ·exact Zd hb h
    have zS:wX a = true→wX b = true→(s.take (p + 2)).all wX=true:=fun h2 h3=>by
     rw[show p + 2=p + 1+1 by omega,List.take_add_one,hb,List.take_add_one,ha];simp only[List.all_append,hall.o,Option.toList_some,List.all_cons,List.all_nil,h2,h3,Bool.and_self]
    generalize QB a = H at *
    generalize QB b = Lo at *
    generalize wX a = HA at *
    generalize wX b = HB at *
    replace oG:=ζ oG;replace zS:=ζ zS;clear ha hb;go_wp2_with fail;refine aH κ ?_;refine rK (.range 11) 0 ?_;iterate 3 refine aC ?_
    refine bQ (.int .i64 H) rfl χ (fun wq fU=> ?_) ?_
    ·obtain⟨rC,qE⟩:=dM fU;go_simp;exact Calls.mono (cA.out wq fU) (fun e w'' h=>h)
    go_simp;iterate 4 refine aC ?_
    refine bQ (.int .i64 Lo) rfl χ (fun wq fU=> ?_) ?_
    ·obtain⟨rC,qE⟩:=dM fU;go_simp;exact Calls.mono (cB.out wq fU) (fun e w'' h=>h)
    go_simp;iterate 2 refine aC ?_
    refine aB ?_;refine aJ κ (fun wN hN hS=> ?_);have l9:=ζ (hO.o.grows hN);have fG:=ζ (hG.o.trans hN);have hz2:=fG.o.size;cases HA with
    | false=>
     have hH:H<0:=by simpa using ha1
     have hgf:=oG.o (.inl rfl);clear ha1 hb1;go_wp2;go_ret2;exact⟨fG.o,.inr ⟨hgf,rfl⟩⟩
    | true=>
     have hH:¬H<0:=by simpa using ha1
     cases HB with
     | false=>
      have hL:Lo<0:=by simpa using hb1
      have hgf:=oG.o (.inr rfl);clear ha1 hb1;go_wp2;go_ret2;exact⟨fG.o,.inr ⟨hgf,rfl⟩⟩
     | true=>
      have hL:¬Lo<0:=by simpa using hb1
      have aua:=ζ (zS.o rfl rfl);clear ha1 hb1;have hLb:Ln≤1000000:=by have:=hpj.o;have:=hbl.o;omega
      go_wp2_with (at_builtin;refine gy (x:=bits BinOp.or IntKind.i64 (H*16) Lo % 256) U2 rfl (.tmp 33) (.tmp 39) rfl (l9.o.alloc _) rfl ⟨wN.heap.size,0,none⟩ rfl rfl (lJ (by exact heap_alloc_new wN _)) (asz _) (by simp;omega) (by have:=QL.o;unfold maxLen;omega) (by have:=QL.o;omega) (fun v7 w7 vT hgr FQ=> ?_);(have hG7:=ζ ((fG.o.alloc _).aP hgr (fun g hg=>l9.o.fH g hg)));(replace vT:=ζ vT);clear hgr FQ);go_roundw
      case rel=>exact⟨_,_,_,_,⟨p + 2,ω,j + 1,ζ (by have:=hpj.o;omega),ν,_,vT,ζ (by have:=QL.o;have:=hbl.o;rw[List.length_append];simp;omega),ζ (by have:=aua.o;simpa using this)⟩,rfl,rfl,rfl,rfl⟩
      case measure=>exact ψ
   ·obtain rfl:p = s.length:=ω;have hg2:zV s = true:=by rw[hgd.o];have:=hall.o;rwa [List.take_length] at this
    have hl2:bs.length=s.length / 2:=by have:=hpj.o;have:=hbl.o;have:=QL.o;omega
    go_wp2;go_ret2;exact⟨hG.o,.inl ⟨hg2,_,_,rfl,hO.o,hl2⟩⟩
 ·have aoO:¬(s.length:Int) % 2=0:=ω;have hgd:zV s = false:=by unfold zV;simp[Nk]
  go_enter Tryz.func171,Tryz.ntmps171
  go_wp2;go_ret2;exact⟨ah.refl _,.inr ⟨hgd,rfl⟩⟩
theorem abG {s:List UInt8} (hs:s.length≤1000000) {w w':World} {e:Ending} (h:Pm s w e w'):∃(A:Option Addr) (n c:Nat) (bs:List Int) (er:Int),e =.returned (.tuple #[.slice A n c,.int .i64 er])∧cu w' 1 abx A n bs∧n≤1000000∧JL s = (decide (er=0)&&decide (n = 8))∧ah w w':=by
 obtain⟨hG,⟨hg,v,bs,rfl,hO,hl⟩ | ⟨hg,rfl⟩⟩:=h
 ·obtain⟨A,c,rfl,-,-,hX⟩:=hO.arr hkK;refine⟨A,_,c,bs,0,rfl,hX,ω,?_,hG⟩;unfold zV at hg;simp only[Bool.and_eq_true,decide_eq_true_eq] at hg;unfold JL;rw[hg.2,Bool.and_true];have e2:decide (s.length=16)=decide (bs.length=8):=decide_eq_decide.2 ω;rw[e2];simp
 ·refine⟨none,0,0,[],2,rfl,⟨rfl,fun h=>ω⟩,ω,?_,hG⟩;unfold zV at hg;unfold JL;simp only[Bool.and_eq_false_iff,decide_eq_false_iff_not] at hg;have:(decide (s.length=16)&&s.all wX)=false:=by
   simp only[Bool.and_eq_false_iff,decide_eq_false_iff_not];rcases hg with h | h
   ·exact .inl ω
   ·exact .inr h
  rw[this];rfl
theorem Wu (s:List UInt8) (hs:s.length≤1000000) (w:World):Calls Tryz.prog 131 #[.string ⟨s.toArray⟩] w fun e w'=>∃N:Int,e =.returned (.tuple #[.int .u64 N,.bool (JL s)])∧ah w w':=by
 have cB:=ζ ((abH s hs w).mono fun e w' h=>abG hs h);generalize JL s = KB at *
 go_enter Tryz.func131,Tryz.ntmps131
 go_wp2_with fail;refine cB.out.mono ?_;rintro e w1 ⟨A,n,c,bs,er,rfl,hX,hn,hkb,hG⟩;replace hX:=ζ hX;replace hkb:=ζ hkb;clear cB;go_wp2;go_loopw [6,8,16] (fun nv _ i wr=>∃(k:Nat) (N:Int),k≤n∧nv=.int .u64 N∧i =.int .i64 (k:Int)∧Hid (ah w wr)∧Hid (ah w1 wr)) (fun _ _ i _=>n - (intOf i).toNat)
 case atStart=>exact⟨0,0,ω,rfl,rfl,hG,ah.refl _⟩
 case round=>
  obtain⟨k,N,hk,rfl,rfl,Vh,gu⟩:=hrel;by_cases hkn:k<n
  ·obtain⟨bb,off,x,rfl,GK,hx,hcell⟩:=(hX.o.keep gu.o).at_ hkn;have c0:wr.cell? ⟨bb,off+k,none⟩=some (.int .u8 x):=by simpa using hcell 0 _ rfl
   have lK:(k:Int)<(n:Int):=ω;clear hcell hx;go_wp2;go_roundw
   case rel=>exact⟨k+1,_,ω,rfl,ν,Vh,gu⟩
   case measure=>exact ψ
  ·obtain rfl:k=n:=ω;by_cases her:er=0
   ·have ak_:Hid (KB=((k:Int)==8)):=ζ (by
     have e8:((k:Int)==8)=decide (k=8):=by by_cases h:k=8 <;> simp[h] <;> omega
     rw[hkb.o,her,e8];simp)
    go_wp2;go_ret2;exact⟨N,by rw[ak_.o];rfl,Vh.o⟩
   ·have ak_:Hid (KB=false):=ζ (by rw[hkb.o];simp[her]);go_wp2;go_ret2;exact⟨N,by rw[ak_.o];rfl,Vh.o⟩
theorem RX (n:Int) (w:World):Calls Tryz.prog 133 #[.int .i64 n] w fun e w'=>e =.returned (.bool (pG n))∧ah w w':=by
 by_cases h0:0≤n
 ·have e:Hid (pG n = decide (n≤1099511627776)):=ζ (by unfold pG dP;simp[h0]);go_enter Tryz.func133,Tryz.ntmps133
  go_wp2;go_ret;exact⟨by rw[e.out];rfl,ah.refl _⟩
 ·have e:Hid (pG n = false):=ζ (by unfold pG;simp[h0]);go_enter Tryz.func133,Tryz.ntmps133
  go_wp2;go_ret;exact⟨by rw[e.out];rfl,ah.refl _⟩
def aj2 (x:List UInt8):Value:=.string ⟨x.toArray⟩
theorem adX (g:FuncId) (lb:Array Value) (eg:Enters Tryz.prog g) (p:List UInt8→Bool) (A:Option Addr) (m c:Nat) (l:List (List UInt8)) (w:World) (h:cu w 1 encS A m l) (hm:m≤9223372036854775807) (hp:uo Tryz.prog g lb aj2 p l w) :
 Calls Tryz.prog 239 #[.slice A m c,.func (.func g) #[] lb] w fun e w'=>e =.returned (.int .i64 (placeOf p l))∧ah w w':=by
 have hlen:=h.1;unfold Enters at eg;obtain⟨R,hR⟩:∃R,R=placeOf p l:=⟨_,rfl⟩;rw[←hR];replace hR:=ζ hR;replace hp:=ζ hp;replace h:=ζ h;go_enter Tryz.func239,Tryz.ntmps239
 go_wp2;go_loopw [5,8] (fun _ i wr=>∃k:Nat,k≤m∧i =.int .i64 k∧Hid (∀j y,j < k→l[j]? = some y→p y = false)∧Hid (ah w wr)) (fun _ i _=>m - (intOf i).toNat)
 case atStart=>exact⟨0,ω,rfl,fun _ _ h=>absurd h ω,ah.refl _⟩
 case round=>
  obtain⟨k,hk,rfl,hall,hg⟩:=hrel;by_cases hlt:k<m
  ·obtain⟨b,off,x,rfl,_,hx,hcell⟩:=(h.o.keep hg.o).at_ hlt;have c0:wr.cell? ⟨b,off+k,none⟩=some (.string ⟨x.toArray⟩):=by simpa using hcell 0 _ rfl
   have lK:(k:Int)<(m:Int):=ω;have cI:=hp.o x (List.mem_of_getElem? hx) wr hg.o;unfold aj2 at cI;cases hq:p x with
   | false=>
    rw[hq] at cI;replace cI:=ζ cI;have iQ:=ζ (show ∀j y,j < k+1→l[j]? = some y→p y = false from fun j y hj hy=>by
     by_cases hjk:j = k
     ·subst hjk;rw[hx] at hy;rw[←Option.some.inj hy];exact hq
     ·exact hall.o j y ω hy)
    clear hcell hq hx hall hR;go_wp2_with fail;refine (cI.out).mono ?_;rintro e w1 ⟨rfl,hb⟩;have hg1:=ζ (hg.o.trans hb);go_wp2;go_roundw
    case rel=>exact⟨k+1,ω,ν,iQ,hg1⟩
    case measure=>exact ψ
   | true=>
    rw[hq] at cI;have aO:Hid (R=(k:Int)):=ζ (by rw[hR.o];exact iK hx hq hall.o);replace cI:=ζ cI;clear hcell hq hx hall hR;go_wp2_with fail;refine (cI.out).mono ?_;rintro e w1 ⟨rfl,hb⟩;have hg1:=ζ (hg.o.trans hb);go_wp2;go_ret;exact⟨by rw[aO.o];rfl,hg1.o⟩
  ·obtain rfl:k=m:=ω;have aO:Hid (R=-1):=ζ (by rw[hR.o];exact gG fun j y hy=>hall.o j y (by have:=(List.getElem?_eq_some_iff.1 hy).1;omega) hy);clear hall hR;go_wp2;go_ret;exact⟨by rw[aO.o];rfl,hg.o⟩
theorem afv (g:FuncId) (lb:Array Value) (eg:Enters Tryz.prog g) (p:List UInt8→Bool) (A:Option Addr) (m c:Nat) (l:List (List UInt8)) (w:World) (h:cu w 1 encS A m l) (hm:m≤9223372036854775807) (hp:uo Tryz.prog g lb aj2 p l w) :
 Calls Tryz.prog 216 #[.slice A m c,.func (.func g) #[] lb] w fun e w'=>e =.returned (.bool (l.any p))∧ah w w':=by
 have cI:=adX (c:=c) g lb eg p A m l w h hm hp;replace cI:=ζ cI;have aO:=ζ (gZ p l);clear h hp;go_enter Tryz.func216,Tryz.ntmps216
 go_wp2_with fail;refine cI.out.mono ?_;rintro e w1 ⟨rfl,hb⟩;go_wp2;go_ret;exact⟨aN aO.o,hb⟩
end Go.Proofs.YtbhikkgpcmkonaaGreatDoor
