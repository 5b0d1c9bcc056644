/- Parts: Shelf4 PatU PatW PatX PatY PatZ -/
import Derived.Test.YteojanlajhebhaaGreatDoorGs0
import Derived.Shelf.SortM.Plain
import Derived.Shelf.SortM.SortNone
import Derived.Test.YteojanlajhebhaaGreatDoorProg
import Derived.Test.YteojanlajhebhaaGreatDoorGs25
import Derived.Test.YteojanlajhebhaaGreatDoorGs5
import Derived.Test.YteojanlajhebhaaGreatDoorGs18
import Derived.Test.YteojanlajhebhaaGreatDoorGs6
set_option maxRecDepth 100000
set_option maxHeartbeats 12800000
namespace Go.Proofs
open Go.Shelf
def Tryz.afw:Go.Shelf.Ren:=⟨fun | 5=>169 | 8=>178 | 7=>177 | 19=>194 | 20=>159 | 10=>185 | 11=>186 | 12=>187 | 13=>188 | 14=>189 | 15=>190 | 16=>191 | 17=>192 | 18=>193 | 30=>197 | 31=>198 | 32=>199 | 33=>200 | 34=>201 | 35=>202 | 40=>204 | n=>n,fun | 23=>35 | 25=>3 | 3=>3 | 32=>125 | 22=>35 | 0=>0 | 44=>38 | 46=>50 | 4=>4 | 36=>243 | 35=>242 | 41=>83 | 5=>5 | 9=>9 | 53=>249 | 57=>253 | 63=>255 | 64=>256 | n=>n,fun | n=>n⟩
theorem Tryz.anI:Go.Proofs.SlLaysM.n5 Tryz.prog Tryz.afw:={
 mixed:=by kernel_rfl
 f5:=⟨Tryz.f169.name,δ,Tryz.func169.trans (congrArg some κ)⟩
 f7:=⟨Tryz.f177.name,δ,Tryz.func177.trans (congrArg some κ)⟩
 f8:=Tryz.func178.trans (congrArg some κ)
 f10:=⟨Tryz.f185.name,δ,Tryz.func185.trans (congrArg some κ)⟩
 f11:=⟨Tryz.f186.name,δ,Tryz.func186.trans (congrArg some κ)⟩
 f12:=⟨Tryz.f187.name,δ,Tryz.func187.trans (congrArg some κ)⟩
 f13:=⟨Tryz.f188.name,δ,Tryz.func188.trans (congrArg some κ)⟩
 f14:=⟨Tryz.f189.name,δ,Tryz.func189.trans (congrArg some κ)⟩
 f15:=⟨Tryz.f190.name,δ,Tryz.func190.trans (congrArg some κ)⟩
 f16:=⟨Tryz.f191.name,δ,Tryz.func191.trans (congrArg some κ)⟩
 f17:=⟨Tryz.f192.name,δ,Tryz.func192.trans (congrArg some κ)⟩
 f18:=⟨Tryz.f193.name,δ,Tryz.func193.trans (congrArg some κ)⟩
 f19:=Tryz.func194.trans (congrArg some κ)
 f20:=Tryz.func159.trans (congrArg some κ)
 f30:=⟨Tryz.f197.name,δ,Tryz.func197.trans (congrArg some κ)⟩
 f31:=Tryz.func198.trans (congrArg some κ)
 f32:=Tryz.func199.trans (congrArg some κ)
 f33:=⟨Tryz.f200.name,δ,Tryz.func200.trans (congrArg some κ)⟩
 f34:=⟨Tryz.f201.name,δ,Tryz.func201.trans (congrArg some κ)⟩
 f35:=⟨Tryz.f202.name,δ,Tryz.func202.trans (congrArg some κ)⟩
 f40:=⟨Tryz.f204.name,δ,Tryz.func204.trans (congrArg some κ)⟩
 t0:=Tryz.underlying0
 a0:=Tryz.isAgg0
 z0:=Tryz.sizeOf0
 v0:=Tryz.zeroValue0
 t3:=Tryz.underlying3
 a3:=Tryz.isAgg3
 z3:=Tryz.sizeOf3
 v3:=Tryz.zeroValue3
 t4:=Tryz.underlying4
 a4:=Tryz.isAgg4
 z4:=Tryz.sizeOf4
 v4:=Tryz.zeroValue4
 t5:=Tryz.underlying5
 a5:=Tryz.isAgg5
 z5:=Tryz.sizeOf5
 v5:=Tryz.zeroValue5
 t9:=Tryz.underlying9
 a9:=Tryz.isAgg9
 z9:=Tryz.sizeOf9
 v9:=Tryz.zeroValue9
 t22:=Tryz.underlying35
 a22:=Tryz.isAgg35
 z22:=Tryz.sizeOf35
 v22:=Tryz.zeroValue35
 t23:=Tryz.underlying35
 a23:=Tryz.isAgg35
 z23:=Tryz.sizeOf35
 v23:=Tryz.zeroValue35
 t25:=Tryz.underlying3
 a25:=Tryz.isAgg3
 z25:=Tryz.sizeOf3
 v25:=Tryz.zeroValue3
 t32:=Tryz.underlying125
 a32:=Tryz.isAgg125
 z32:=Tryz.sizeOf125
 v32:=Tryz.zeroValue125
 t35:=Tryz.underlying242
 a35:=Tryz.isAgg242
 z35:=Tryz.sizeOf242
 v35:=Tryz.zeroValue242
 t36:=Tryz.underlying243
 a36:=Tryz.isAgg243
 z36:=Tryz.sizeOf243
 v36:=Tryz.zeroValue243
 t41:=Tryz.underlying83
 a41:=Tryz.isAgg83
 z41:=Tryz.sizeOf83
 v41:=Tryz.zeroValue83
 t44:=Tryz.underlying38
 a44:=Tryz.isAgg38
 z44:=Tryz.sizeOf38
 v44:=Tryz.zeroValue38
 t46:=Tryz.underlying50
 a46:=Tryz.isAgg50
 z46:=Tryz.sizeOf50
 v46:=Tryz.zeroValue50
 t53:=Tryz.underlying249
 a53:=Tryz.isAgg249
 z53:=Tryz.sizeOf249
 v53:=Tryz.zeroValue249
 t57:=Tryz.underlying253
 a57:=Tryz.isAgg253
 z57:=Tryz.sizeOf253
 v57:=Tryz.zeroValue253
 t63:=Tryz.underlying255
 a63:=Tryz.isAgg255
 z63:=Tryz.sizeOf255
 v63:=Tryz.zeroValue255
 t64:=Tryz.underlying256
 a64:=Tryz.isAgg256
 z64:=Tryz.sizeOf256
 v64:=Tryz.zeroValue256}
end Go.Proofs
namespace Go.Proofs.YteojanlajhebhaaGreatDoor
open Go.RowKit Go.Maps Go.WideMaps
def rU (l:List Nat):List Nat:=l.mergeSort fun a b=>decide (a≤b)
theorem afv (l:List Nat):(l.map fun (x:Nat)=>(x:Int)).mergeSort (fun x y=>decide (x≤y))=(rU l).map fun (x:Nat)=>(x:Int):=by
 unfold rU;rw[List.map_mergeSort (s:=fun (x y:Int)=>decide (x≤y))];intro a _ b _;simp
theorem Gi (l:List Nat):(rU l).Perm l:=List.mergeSort_perm l _
theorem Nw (l:List Nat):(rU l).length=l.length:=(Gi l).length_eq
theorem grownBy_sorted {w:World} {g n:Nat} {d:Array Int} {os:Array Obj}:w.grownBy (Go.Sort.grow (Go.Sort.putRow (Value.int .i64) (Go.Sort.ahead w n) g 0 d) os) (some g):=by
 refine⟨rfl,rfl,rfl,?_,fun k hk hne=> ?_⟩
 ·simp[Go.Sort.grow,Go.Sort.putRow,Go.Sort.mapBlock,Go.Sort.ahead]
 ·have hkg:k≠g:=fun e=>hne (by rw[e])
  rw[Go.Sort.heap_grow_old _ _ (by simpa[Go.Sort.putRow,Go.Sort.mapBlock,Go.Sort.ahead] using hk)];simp[Go.Sort.putRow,Go.Sort.mapBlock,Go.Sort.ahead,Array.getElem?_modify,Ne.symm hkg]
theorem ai5 {w:World} {base:Nat} {v:Value} {l:List Nat} (h:Own w base 3 1 encI v l) (hl:l.length<4611686018427387904) :
 Calls Tryz.prog 169 #[v] w fun e w'=>e =.returned (.tuple #[])∧Own w' base 3 1 encI v (rU l)∧w.grownBy w' v.ownBlock:=by
 by_cases h0:l = []
 ·subst h0;obtain⟨A,c,hv,-⟩:=h.arr (fun _=>rfl);subst hv;have:=AnyM.slices_Sort_int_none Tryz.anI A c w;refine this.mono ?_;rintro e w' ⟨rfl,rfl⟩;exact⟨rfl,by simpa[rU] using h,World.grownBy.refl _ _⟩
 ·obtain⟨g,cap,hv⟩:=nH h (List.length_pos_iff.2 h0);subst hv;obtain⟨cur,Qc,hb,hh,yc,hcm,hcs,hc⟩:=h.Ba (fun _=>rfl);have hH:Go.Sort.Holds (Value.int .i64) w g 0 (l.map fun (x:Nat)=>(x:Int)).toArray:=by
   intro j hj;have hj':j < l.length:=by simpa using hj
   obtain⟨x,hx,hcell,GR⟩:=h.at_ (fun _=>rfl) hj';have h1:=hcell 0 _ rfl;refine⟨?_,?_⟩
   ·rw[getElem!_pos _ j hj,show 0+j = j * 1+0 by omega,h1];obtain⟨_,hx2⟩:=List.getElem?_eq_some_iff.1 hx;simp[hx2]
   ·exact GR _
  have:=AnyM.slices_Sort_int Tryz.anI g 0 cap (l.map fun (x:Nat)=>(x:Int)) w hH (jP hh) (by simpa using hl);rw[afv,List.length_map] at this;refine this.mono ?_;rintro e w' ⟨rfl,n,os,rfl⟩;refine⟨rfl,?_,grownBy_sorted⟩;have hh2:(Go.Sort.grow (Go.Sort.putRow (Value.int .i64) (Go.Sort.ahead w n) g 0 ((rU l).map fun (x:Nat)=>(x:Int)).toArray) os).heap[g]? = some (.cells (Go.Sort.putCells (Value.int .i64) 0 ((rU l).map fun (x:Nat)=>(x:Int)).toArray cur) 3 (0,0)):=by
   rw[Go.Sort.heap_grow_old _ _ (by simpa[Go.Sort.putRow,Go.Sort.mapBlock,Go.Sort.ahead] using jP hh)];simp[Go.Sort.putRow,Go.Sort.mapBlock,Go.Sort.ahead,Array.getElem?_modify,hh,Go.Sort.onCells]
  have hlen:=Nw l;have:=Own.mk_ (xs:=rU l) (cap:=cap) (enc:=encI) (k:=1) (fun _=>rfl) ω hb hh2 ω hcm (by simpa[Go.Sort.putCells] using hcs) (fun q hq r hr=>by
   have hr0:r = 0:=ω;subst hr0;have hqc:q<cur.size:=by rw[hcs];omega
   simp[Go.Sort.putCells,hqc,hq,encI])
  rwa [hlen] at this
def af0 (l:List Nat) (m:DataW Unit):DataW Unit:=l.foldl (fun m (x:Nat)=>m.put (.int .i64 (x:Int)) (.lit (.bool true))) m
theorem acB:∀(l:List Nat) (m:DataW Unit),IsMap m→IsMap (af0 l m)
 | [],_,h=>h
 | _ ::r,_,h=>acB r _ (h.put _ _)
theorem agy (s:Int):WideAt.IsKeyLit (.int .i64 s):=by first | trivial | simp[WideAt.IsKeyLit] | exact⟨⟩
theorem aem (z:DataW Unit) (s:Nat):∀(l:List Nat) (m:DataW Unit),IsMap m→(af0 l m).atKey (.int .i64 (s:Int)) z = if s∈l then .lit (.bool true) else m.atKey (.int .i64 (s:Int)) z
 | [],_,_=>by simp[af0]
 | x ::r,m,h=>by
  show (af0 r (m.put (.int .i64 (x:Int)) (.lit (.bool true)))).atKey (.int .i64 (s:Int)) z = _
  rw[aem z s r _ (h.put _ _)];by_cases hr:s∈r
  ·simp[hr]
  ·by_cases he:x = s
   ·subst he;simp only[hr,if_false,List.mem_cons,true_or,if_true];exact atKey_put_same h (agy _) _ _
   ·simp only[hr,if_false,List.mem_cons,or_false,Ne.symm he];exact atKey_put_other (fun e=>he (by injection e with _ e;omega)) _ _
def JM (w:World) (b:Nat) (l:List Nat):Prop:=w.ownsMap (H:=Unit) Tryz.prog 3 (plainElem Tryz.prog 4) b l.length (af0 l (.map []))
theorem JM.made (w:World):JM (w.alloc (.map #[] 0)) w.heap.size []:=World.ownsMap_made w Tryz.prog 3 _
theorem JM.kept {w w':World} {b:Nat} {l:List Nat} {row:Option Nat} (h:JM w b l) (hg:w.grownBy w' row) (hne:some b≠row):JM w' b l:=World.ownsMap.kept h hg hne
theorem JM.vN {w:World} {b:Nat} {l:List Nat} (h:JM w b l):∀cur e fz,w.heap[b]?≠some (.cells cur e fz):=by
 obtain⟨es,clock,hb,_⟩:=h;intro cur e fz hc;rw[hb] at hc;cases hc
theorem arW {s:Nat} (hs:s < 4611686018427387904):keyOf Tryz.prog 3 (.int .i64 (s:Int))=some (.int .i64 (s:Int)):=
 keyOf_int_mk Tryz.underlying3 (by simp[Lit.wf,IntKind.min,IntKind.max,IntKind.bits,IntKind.signed];omega)
theorem JM.look {w:World} {b:Nat} {l:List Nat} (h:JM w b l) {s:Nat} (hs:s < 4611686018427387904) :
 (Instr.lookup 222 (.map (some b)) (.int .i64 (s:Int)) false).run Tryz.prog w =.ok (.bool (decide (s∈l))) w:=by
 obtain⟨v,ps,hrun,hv⟩:=World.ownsMap.lookup h (int_keyed Tryz.underlying3) Tryz.underlying222 (z:=.bool false) κ (plainElem_bool Tryz.underlying4 false) (key:=.int .i64 (s:Int)) (kl:=.int .i64 (s:Int)) (arW hs);rw[aem _ _ _ _ isMap_empty] at hv;have e1:(if s∈l then (DataW.lit (.bool true):DataW Unit) else (DataW.map []:DataW Unit).atKey (.int .i64 (s:Int)) (.lit (.bool false)))=.lit (.bool (decide (s∈l))):=by
  by_cases hl:s∈l
  ·simp[hl]
  ·simp only[hl,if_false,decide_false];rfl
 rw[e1] at hv;have:v =.bool (decide (s∈l)):=by
  have hb:=Tryz.underlying4;unfold plainElem at hv;cases v <;> simp[hb] at hv
  simp[hv.1]
 rw[←this];exact hrun
theorem YI {ops:Array Oper} {rest:List Oper} {o:Oper} {a:Act} {Q:Exit→Act→World→Prop} {w:World} {b:Nat} {l:List Nat} (h:JM w b l)
 (hg:o.guard=none) (m x v:Operand) (hop:o.op=Op.mapUpdate 222 m x v) (hn:l.length<maxLen) (s:Nat) (hs:s < 4611686018427387904)
 (hm:a.eval m =.map (some b)) (hx:a.eval x =.int .i64 (s:Int)) (hv:a.eval v =.bool true)
 (hK:∀w',JM w' b (l ++[s])→w.grownBy w' (some b)→wpList Tryz.prog ops Q rest (a.put o.dst undef) w') :
 wpList Tryz.prog ops Q (o ::rest) a w:=by
 refine wpList_mapUpdate_own w hg m x v 222 hop 3 4 (int_keyed Tryz.underlying3) Tryz.underlying222 _ b l.length _ hm h hn _ _ (.int .i64 (s:Int)) hx hv (arW hs) (.lit (.bool true)) _ (plainElem_bool Tryz.underlying4 true) ?_;intro w' h1 h2;refine hK w' ?_ h2;unfold JM af0;rw[List.foldl_append,List.length_append];exact h1
theorem abV {w:World} {b:Nat} {l:List Nat} {ty:TypeId} (h:JM w b l):∃w',(Builtin.clear_ #[222] ty #[.map (some b)]).run Tryz.prog w =.ok (.tuple #[]) w'∧w.grownBy w' (some b):=by
 obtain⟨es,clock,hb,_⟩:=h;refine⟨{w with heap:=w.heap.setIfInBounds b (.map #[] clock)},?_,⟨rfl,rfl,rfl,by simp,fun i _ hi=> ?_⟩⟩
 ·simp[Builtin.clear_,run_underlying Tryz.underlying222,MapKept.run_getObj_map hb,MapKept.run_setObj_map _ hb,Result.andThen]
 ·show (w.heap.setIfInBounds b (.map #[] clock))[i]? = _
  rw[Array.getElem?_setIfInBounds_ne (fun e=>hi (by rw[e]))]
end Go.Proofs.YteojanlajhebhaaGreatDoor
namespace Go.Proofs.YteojanlajhebhaaGreatDoor
open Go.RowKit
theorem ale {A:Option Addr} {m c:Nat} {xs:List Nat} (w:World) (h:dH w 1 encI A m xs) (hm:m≤65536) :
 Calls Tryz.prog 168 #[.slice A m c] w fun e w'=>∃v,e =.returned v∧Own w' w.heap.size 3 1 encI v xs∧ah w w':=by
 have heq:=fun (w:World)=>Lib.run_eql_slice_nil (P:=Tryz.prog) w 35 3 A m c 0 0 Tryz.underlying35
 have hlen:=h.1;cases A with
 | none=>
  obtain⟨rfl,rfl⟩:=h.anK;clear hlen h;go_enter Tryz.func168,Tryz.ntmps168
  go_wp2;go_ret;exact⟨_,rfl,Own.iH _ _ _ _ _,ah.refl _⟩
 | some ad=>
  have hown:Own (w.alloc (.cells #[] 3)) w.heap.size 3 1 encI (.slice (some ⟨w.heap.size,0,none⟩) ([]:List Nat).length 0) []:=
   Own.mk_ (cur:= #[]) JV ω (Nat.le_refl _) (heap_alloc_new w _) σ (by simp[maxLen]) σ (fun q hq=>by simp at hq)
  have sD:=h.keep ((ah.refl w).alloc (.cells #[] 3));replace hlen:=ζ hlen;clear h;go_enter Tryz.func168,Tryz.ntmps168
  go_wp2_with (at_builtin;refine Ht WE rfl (.tmp 5) (.tmp 6) rfl hown rfl ad rfl sD JV UZ σ (by simp;unfold maxLen;omega) (by simp;omega) (fun v1 w1 hown1 hgr hat=> ?_));have hb1:Below w.heap.size w w1:=Own.below hown ((Below.refl _ _).alloc (Nat.le_refl _) _) (Nat.le_refl _) σ hgr;clear hgr hat;go_wp2;go_ret;exact⟨v1,rfl,by simpa using hown1,hb1⟩
theorem acZ {A:Option Addr} {m c:Nat} {l:List Nat} {v:Nat} (w:World) (hA:dH w 1 encI A m l) (hm:m≤9223372036854775807) :
 Calls Tryz.prog 171 #[.slice A m c,.int .i64 (v:Int)] w fun e w'=>e =.returned (.int .i64 (placeOf (fun x=>v ==x) l))∧ah w w':=by
 have qA:=hA.1;obtain⟨R,hR⟩:∃R,R=placeOf (fun x=>v ==x) l:=⟨_,rfl⟩;rw[←hR];replace hR:=ζ hR;replace hA:=ζ hA;go_enter Tryz.func171,Tryz.ntmps171
 go_wp2;go_loopw [4,5,8] (fun r _ i wr=>∃k:Nat,k≤m∧i =.int .i64 k∧r =.int .i64 0∧Hid (∀j y,j < k→l[j]? = some y→(v ==y)=false)∧wr=w) (fun _ _ i _=>m - (intOf i).toNat)
 case atStart=>exact⟨0,ω,rfl,rfl,fun _ _ h=>absurd h ω,rfl⟩
 case round=>
  obtain⟨k,hk,rfl,rfl,hall,rfl⟩:=hrel;by_cases nV:k<m
  ·obtain⟨bb,off,x,rfl,JI,hx,hcell⟩:=hA.o.at_ nV;have c0:wr.cell? ⟨bb,off+k,none⟩=some (.int .i64 (x:Int)):=by simpa using hcell 0 _ rfl
   have j_:(k:Int)<(m:Int):=ω;cases hvx:v ==x with
   | true=>
    have hvi:(v:Int)=(x:Int):=by have:=beq_iff_eq.1 hvx;omega
    have hvb:((v:Int)==(x:Int))=true:=by simpa using hvi
    replace hvx:=ζ hvx;clear hvi;have aQ:Hid (R=(k:Int)):=ζ (by rw[hR.o];exact nZ hx hvx.o hall.o);clear hR hall hcell hx;go_wp2;go_ret;exact⟨by rw[aQ.o];rfl,ah.refl _⟩
   | false=>
    have hvi:¬(v:Int)=(x:Int):=fun e=>by
     have h1:v = x:=ω;rw[h1] at hvx;simp at hvx
    have hvb:((v:Int)==(x:Int))=false:=by simpa using hvi
    clear hvi;replace hvx:=ζ hvx;have jV:=ζ (show ∀j y,j < k+1→l[j]? = some y→(v ==y)=false from fun j y hj hy=>by
     by_cases hjk:j = k
     ·subst hjk;rw[hx] at hy;rw[←Option.some.inj hy];exact hvx.o
     ·exact hall.o j y ω hy)
    clear hR hall hcell hx;go_wp2;go_roundw
    case rel=>exact⟨k+1,ω,ν,rfl,jV,trivial⟩
    case measure=>exact ψ
  ·obtain rfl:k=m:=ω;have aQ:Hid (R=-1):=ζ (by rw[hR.o];exact lM fun j y hy=>hall.o j y (by have:=(List.getElem?_eq_some_iff.1 hy).1;omega) hy);clear hR hall;go_wp2;go_ret;exact⟨by rw[aQ.o];rfl,ah.refl _⟩
theorem akv {A:Option Addr} {m c:Nat} {l:List Nat} {v:Nat} (w:World) (hA:dH w 1 encI A m l) (hm:m≤9223372036854775807) :
 Calls Tryz.prog 156 #[.slice A m c,.int .i64 (v:Int)] w fun e w'=>e =.returned (.bool (l.any fun x=>v ==x))∧ah w w':=by
 have cI:=acZ (c:=c) (v:=v) w hA hm;have hp:=nG (fun x=>v ==x) l;generalize (l.any fun x=>v ==x)=R at *
 generalize placeOf (fun x=>v ==x) l = P at *
 subst hp;replace cI:=ζ cI;clear hA;go_enter Tryz.func156,Tryz.ntmps156
 go_wp2_with fail;refine (cI.out).mono ?_;rintro e w1 ⟨rfl,hg⟩;go_wp2;go_ret;exact⟨rfl,hg⟩
end Go.Proofs.YteojanlajhebhaaGreatDoor
namespace Go.Proofs.YteojanlajhebhaaGreatDoor
open Go.RowKit
theorem Zp {w:World} {base:Nat} {v:Value} {xs ys:List Nat} (h:Own w base 3 1 encI v xs) (h':Own w base 3 1 encI v ys):xs=ys:=by
 obtain⟨A,c,e1,-,-,a1⟩:=h.arr JV;obtain⟨A',c',e2,-,-,a2⟩:=h'.arr JV;rw[e1] at e2;simp only[Value.slice.injEq] at e2;obtain⟨rfl,hl,rfl⟩:=e2;apply List.ext_getElem hl;intro i h1 h2;obtain⟨b,off,x,eA,_,hx,hc⟩:=a1.at_ h1;obtain⟨b',acJ,y,eA',_,hy,hc'⟩:=a2.at_ h2;rw[eA] at eA';injection eA' with eA'
 injection eA' with e3 e4 _
 subst e3 e4;have c1:=hc 0 _ rfl;have c2:=hc' 0 _ rfl;rw[c1] at c2;injection c2 with c2
 injection c2 with _ c2
 have NT:=(List.getElem?_eq_some_iff.1 hx).2;have hy':=(List.getElem?_eq_some_iff.1 hy).2;omega
theorem QM {w:World} {base:Nat} {vo vt:Value} {todo out:List Nat} {aT:List mW} (ho:Own w base 3 1 encI vo out) (ht:Own w base 3 1 encI vt todo) :
 (Classical.epsilon fun (n:Nat)=>∃todo out,Own w base 3 1 encI vo out∧Own w base 3 1 encI vt todo∧n = qm aT todo out)=qm aT todo out:=by
 have:=Classical.epsilon_spec (p:=fun (n:Nat)=>∃todo out,Own w base 3 1 encI vo out∧Own w base 3 1 encI vt todo∧n = qm aT todo out) ⟨_,todo,out,ho,ht,rfl⟩;obtain⟨t2,o2,h1,h2,h3⟩:=this;rw[h3,Zp h1 ho,Zp h2 ht]
theorem Own.RU {α:Type} {w:World} {b0 k MB:Nat} {e:TypeId} {enc:α→List Value} {v:Value} {xs:List α} {l:List Nat} (h:Own w b0 e k enc v xs) (hM:JM w MB l):v.ownBlock≠some MB:=fun hv=>by
 obtain⟨cur,hc⟩:=fP h hv;exact hM.vN _ _ _ hc
theorem VH {w:World} {bs gp:Nat} {s:List UInt8} {sv:Value} {xs:List DI} {p:TT} {A:Option Addr} {m c:Nat} {l:List Nat} (hP:aS w gp 211 #[.string ⟨s.toArray⟩,sv,.int .i64 (p.start:Int),.int .i64 (p.stop:Int)]) (hS:WG w bs xs sv p.aT) (oP:WI p) (hA:dH w 1 encI A m l) (hm:m≤60000) (hl:∀k∈l,k<p.aT.length) :
 Calls Tryz.prog 154 #[.pointer (some ⟨gp,0,none⟩),.slice A m c] w fun e w'=>∃v,e =.returned v∧Own w' w.heap.size 3 1 encI v (rU (sS p.aT l))∧ah w w':=by
 have qA:=hA.1;have tX:=hS.len;obtain⟨sA,sc,Yv,-,-,Yw⟩:=hS.own.arr Xv;obtain⟨R,EZ⟩:∃R,R=sS p.aT l:=⟨_,rfl⟩;have hRb:R.length≤p.aT.length:=by rw[EZ];exact (Fp oP.vp hl).2
 rw[←EZ];replace EZ:=ζ EZ;have awg:Hid (R.length<4611686018427387904):=ζ (by have:=oP.len;omega);have hM0:=JM.made w;have hg1:ah w (w.alloc (.map #[] 0)):=(ah.refl _).alloc _;replace hA:=ζ (hA.keep hg1);replace hP:=ζ hP;replace hS:=ζ hS;replace Yw:=ζ Yw;replace oP:=ζ oP;replace hl:=ζ hl;replace qA:=ζ qA;replace tX:=ζ tX;replace Yv:=ζ Yv;have U6:= @run_makeMap Tryz.prog;go_enter Tryz.func154,Tryz.ntmps154
 go_wp2_with fail;refine (ale (c:=c) _ hA.o ω).mono ?_;rintro e w2 ⟨vt,rfl,hT,hg2⟩;have hM:=ζ (hM0.kept (hg2.yR none) σ);have hG:=ζ (hg1.trans hg2);have hMB:Hid (w.heap.size≤w.heap.size):=ζ (Nat.le_refl _);replace hT:=ζ (hT.ig (show w.heap.size≤_ by simp));clear hM0 hg1 hg2;generalize XF:w.heap.size=MB at *
 replace XF:=ζ XF;clear U6 hA;have ar7:qm p.aT l []=l.length+lS p.aT:=by unfold qm;rw[IJ]
 have hf0:Hid (qm p.aT l []≤l.length+lS p.aT):=ζ ω;have hwb:Hid (qm p.aT l []≤70000):=ζ (by rw[ar7];have:=oP.o.fr;have:=qA.o;omega);have hon:Hid (([]:List Nat).length+vk (fun _=>1) [] 0 p.aT=p.aT.length):=ζ (by rw[NH];simp);have hRr:Hid (R=pK p.aT (l.length+lS p.aT) l []):=EZ;have hap:Hid (∀g,(Value.slice none 0 0).ownBlock=some g→vt.ownBlock≠some g):=ζ (fun g hg=>by cases hg);have QB:Hid (∀k∈([]:List Nat),k<p.aT.length):=ζ (fun k hk=>by simp at hk);have Pg:=ζ (Own.iH w2 MB 3 1 encI);clear ar7;go_wp2;go_loopw [6,7,8] (fun vo vt _ wr=>∃(f:Nat) (todo out:List Nat),Hid (qm p.aT todo out≤f)∧Hid (qm p.aT todo out≤70000)∧Hid (R=pK p.aT f todo out)∧Hid (∀k∈todo,k<p.aT.length)∧Hid (∀k∈out,k<p.aT.length)∧Hid (out.length+vk (fun _=>1) out 0 p.aT=p.aT.length)∧Hid (Own wr MB 3 1 encI vo out)∧Hid (Own wr MB 3 1 encI vt todo)∧Hid (∀g,vo.ownBlock=some g→vt.ownBlock≠some g)∧Hid (JM wr MB out)∧Hid (ah w wr)) (fun vo vt _ wr=>Classical.epsilon fun (n:Nat)=>∃todo out,Own wr MB 3 1 encI vo out∧Own wr MB 3 1 encI vt todo∧n = qm p.aT todo out)
 case atStart=>exact⟨_,l,[],hf0,hwb,hRr,hl,QB,hon,Pg,hT,hap,hM,hG⟩
 case round=>
  clear hf0 hwb hRr QB hon Pg hT hap hM hG hl;obtain⟨f,todo,out,hf,hwb,hR,hl,QB,hon,hO,hT,hap,hM,hG⟩:=hrel;have nY:=ζ (QM (aT:=p.aT) hO.o hT.o);have hstep:=Zc hf.o;rw[←hR.o] at hstep;by_cases h0:todo=[]
  ·subst h0;simp only[List.getLast?_nil] at hstep;replace hstep:=ζ hstep;obtain⟨tA,tc,htv,-⟩:=hT.o.arr JV;simp only[List.length_nil] at htv;subst htv;obtain⟨wc,azz,EO⟩:=abV (ty:=0) hM.o;have FM:=ζ (hO.o.kept' EO (fun g hg hv=>by injection hg with hg;subst hg;exact hO.o.RU hM.o hv));have hGc:=ζ (hG.o.bH EO (fun g hg=>by injection hg with hg;subst hg;exact Nat.le_of_eq XF.o));have I4:Hid (out.length<4611686018427387904):=ζ (by rw[←hstep.o];exact awg.o);clear hO hT hap hM hG EO nY;go_wp2_with fail;refine (ai5 FM.o I4.o).mono ?_;rintro e w9 ⟨rfl,AP,uZ⟩;go_wp2;go_ret;refine⟨_,rfl,?_,hGc.o.bH uZ (fun g hg=>Nat.le_trans (Nat.le_of_eq XF.o) (FM.o.kY g hg).1)⟩;rw[hstep.o,XF.o];exact AP
  ·have Qb:=List.length_pos_iff.2 h0;obtain⟨gT,apZ,htv⟩:=nH hT.o Qb;obtain⟨n,hn⟩:∃n,todo.length=n + 1:=⟨todo.length-1,ω⟩;rw[hn] at htv;subst htv;obtain⟨_,_,_,_,yc,hcm,_,_⟩:=hT.o.Ba JV;obtain⟨k,hk,hcell,-⟩:=hT.o.at_ JV (i:=n) ω;have c0:wr.cell? ⟨gT,n,none⟩=some (.int .i64 (k:Int)):=by simpa using hcell 0 _ rfl
   have hgl:todo.getLast? =some k:=by rw[List.getLast?_eq_getElem?,hn];exact hk
   have Np:=hl.o k (List.mem_of_getElem? hk);have hdl:todo.dropLast=todo.take n:=by rw[List.dropLast_eq_take,hn];rfl
   have hT1:=hT.o.cut JV ω (i:=n) ω;rw[←hdl] at hT1;replace hT1:=ζ hT1;rw[hgl] at hstep;have hkb:k<4611686018427387904:=by have:=oP.o.len;omega
   have anV:=hM.o.look (s:=k) hkb;have ay5:(n:Int)≤(apZ:Int):=ω;have hni:(n:Int)<(n:Int)+1:=ω;have azy:(apZ:Int)≤9223372036854775807:=by unfold maxLen at hcm;omega
   have hws:=ζ (Vk (aT:=p.aT) (out:=out) h0);have hdm:Hid (∀j∈todo.dropLast,j < p.aT.length):=ζ (fun j hj=>hl.o j ((List.dropLast_sublist todo).subset hj));replace Np:=ζ Np;by_cases Jv:k∈out
   ·simp only[Jv,if_true] at hstep;rw[decide_eq_true Jv] at anV;replace hstep:=ζ hstep;clear hcell hk hgl hdl hT Jv;go_wp2;go_roundw
    case rel=>exact⟨f - 1,todo.dropLast,out,ζ (by have:=hws.o;have:=hf.o;omega),ζ (by have:=hws.o;have:=hwb.o;omega),hstep,hdm,QB,hon,hO,hT1,hap,hM,hG⟩
    case measure=>rw[nY.o,QM (aT:=p.aT) hO.o hT1.o];have:=hws.o;omega
   ·simp only[Jv,if_false] at hstep;rw[decide_eq_false Jv] at anV;replace hstep:=ζ hstep;have hwn:=ζ (YJ (aT:=p.aT) h0 Jv Np.o);have asr:=ζ (aes Jv Np.o hon.o);obtain⟨y,hy⟩:∃y,p.aT[k]? = some y:=⟨_,List.getElem?_eq_getElem Np.o⟩;obtain⟨x,hx⟩:∃x,xs[k]? = some x:=⟨_,List.getElem?_eq_getElem (by rw[tX.o];exact Np.o)⟩;obtain⟨hs1,hs2,hs3⟩:=hS.o.st k x y hx hy;obtain⟨fA,fc,hfv,-,-,-⟩:=hs3.arr JV;have hfo:qF p.aT k=y.free:=by unfold qF;rw[hy]
    have w_:Hid (n + y.free.length≤70000):=ζ (by
     have h1:=hwn.o;have h2:=hwb.o;rw[hfo] at h1;unfold qm at h1 h2;rw[List.length_append,List.length_dropLast,hn] at h1;omega)
    have ade:k<xs.length:=by rw[tX.o];exact Np.o
    obtain⟨bb,off,x',ac7,hsz,NT,hcs⟩:=Yw.o.at_ ade;rw[hx] at NT;injection NT with NT
    subst NT;have cF:w.cell? ⟨bb,off+k*3+2,none⟩=some (.slice fA y.free.length fc):=by rw[←hfv];exact hcs 2 _ rfl
    rw[ac7] at Yv;have cP:w.cell? ⟨gp,1,none⟩=some (.slice (some ⟨bb,off,none⟩) xs.length sc):=by rw[←Yv.o];exact (hP.o.cell 1).trans rfl
    have j_:(k:Int)<(xs.length:Int):=ω;have avn:Hid (∀j∈out++[k],j < p.aT.length):=ζ (fun j hj=>by
     rcases List.mem_append.1 hj with hj | hj
     ·exact QB.o j hj
     ·rw[List.mem_singleton] at hj;subst hj;exact Np.o)
    have au5:Hid (∀j∈todo.dropLast++qF p.aT k,j < p.aT.length):=ζ (fun j hj=>by
     rcases List.mem_append.1 hj with hj | hj
     ·exact hdm.o j hj
     ·exact Om oP.o.vp j hj)
    have hob:Hid (out.length<10000):=ζ (by have:=oP.o.len;have h3:=asr.o;rw[List.length_append,List.length_singleton] at h3;omega);have an8:Hid (todo.dropLast.length=n):=ζ (by rw[List.length_dropLast,hn];rfl);replace cF:=ζ cF;replace cP:=ζ cP;replace hs3:=ζ hs3;rw[hfv] at hs3;replace hfo:=ζ hfo;have atj:=ζ (Nat.le_of_eq XF.o.symm:MB≤w.heap.size);clear hcell hk hgl hdl Jv hs1 hs2 hfv ac7 hsz hcs hx hy hT Yv hn ade;go_wp2_with (first
     | (at_mapUpdate;refine YI hM.o rfl _ _ _ rfl (by have:=hob.o;unfold maxLen;omega) k hkb rfl rfl rfl ?_;intro w3 hM3 iT;(have dS:=ζ (hO.o.kept' iT (fun g hg hv=>by injection hg with hg;subst hg;exact hO.o.RU hM.o hv)));(have hT3:=ζ (hT1.o.kept' iT (fun g hg hv=>by injection hg with hg;subst hg;exact hT1.o.RU hM.o hv)));(have uj:=ζ (hG.o.bH iT (fun g hg=>by injection hg with hg;subst hg;exact Nat.le_of_eq XF.o)));(replace hM3:=ζ hM3);clear iT)
     | (at_builtin;refine dM (x:=k) WE rfl (.tmp 32) (.tmp 34) rfl (dS.o.alloc _) rfl ⟨w3.heap.size,0,none⟩ rfl rfl (h_ (by exact heap_alloc_new w3 _)) (UZ k) (by have:=atj.o;have:=uj.o.size;simp;omega) (by have:=hob.o;unfold maxLen;omega) (by have:=hob.o;omega) (fun v4 w4 gu fV agM=> ?_);(have hT4:=ζ ((hT3.o.alloc _).kept' fV (fun g hg hv=>hap.o g hg hv)));(have hM4:=ζ ((hM3.o.kept (World.grownBy_alloc w3 _ none) σ).kept fV (fun e=>dS.o.RU hM3.o e.symm)));(have CQ:=ζ ((uj.o.alloc _).bH fV (fun g hg=>Nat.le_trans (Nat.le_of_eq XF.o) (dS.o.kY g hg).1)));(have as4:=ζ (fun g (hg:v4.ownBlock=some g) (hv:(Value.slice (some ⟨gT,0,none⟩) n apZ).ownBlock=some g)=>by
      rcases agM with e | e
      ·rw[e] at hg;exact hap.o g hg hv
      ·rw[e] at hg;injection hg with hg;have h5:=(World.ownsRow.lt hT3.o g hv).2;simp at hg;omega));(have hS4:=ζ (hS.o.grows CQ.o));(have cP4:=CQ.o.cell cP.out);(have cF4:=CQ.o.cell cF.out);(have hF4:=ζ (hs3.o.grows CQ.o));(replace gu:=ζ gu);clear fV agM)
     | (at_builtin;obtain⟨fA',fc',hfe,-,-,hFa⟩:=hF4.o.arr JV;simp only[Value.slice.injEq] at hfe;obtain⟨rfl,_,rfl⟩:=hfe;refine fZ WE rfl (.tmp 36) (.tmp 44) rfl hT4.o rfl rfl hFa JV UZ (by have:=atj.o;have:=CQ.o.size;omega) (by have:=w_.o;have:=an8.o;unfold maxLen;omega) (by have:=w_.o;have:=an8.o;omega) ?_;intro v5 w5 hT5 jG amV;(have jk:=ζ (gu.o.kept' jG (fun g hg hv=>as4.o g hv hg)));(have hM5:=ζ (hM4.o.kept jG (fun e=>hT4.o.RU hM4.o e.symm)));(have vV:=ζ (CQ.o.bH jG (fun g hg=>Nat.le_trans (Nat.le_of_eq XF.o) (hT4.o.kY g hg).1)));(have av7:=ζ (fun g (hg:v4.ownBlock=some g) (hv:v5.ownBlock=some g)=>by
      rcases amV with e | e
      ·rw[e] at hv;exact as4.o g hg hv
      ·rw[e] at hv;injection hv with hv;have h5:=(World.ownsRow.lt gu.o g hg).2;omega));(replace hT5:=ζ hT5);clear jG amV))
    go_roundw
    case rel=>exact⟨f - 1,todo.dropLast++qF p.aT k,out++[k],ζ (by have:=hwn.o;have:=hf.o;omega),ζ (by have:=hwn.o;have:=hwb.o;omega),hstep,au5,avn,asr,jk,ζ (by rw[hfo.o];exact hT5.o),av7,hM5,vV⟩
    case measure=>rw[nY.o,QM (aT:=p.aT) (todo:=todo.dropLast++qF p.aT k) jk.o (by rw[hfo.o];exact hT5.o)];have:=hwn.o;omega
end Go.Proofs.YteojanlajhebhaaGreatDoor
namespace Go.Proofs.YteojanlajhebhaaGreatDoor
open Go.RowKit
theorem afp {aT:List mW} {c:Nat} {l:List Nat} {i k:Nat} (h:l[i]? = some k):(l.take (i + 1)).foldl (ji aT c) []=ji aT c ((l.take i).foldl (ji aT c) []) k:=by
 rw[List.take_add_one,h];simp
theorem ai3 {w:World} {bs gp:Nat} {s:List UInt8} {sv:Value} {xs:List DI} {p:TT} {A:Option Addr} {m cp c:Nat} {l:List Nat} (hP:aS w gp 211 #[.string ⟨s.toArray⟩,sv,.int .i64 (p.start:Int),.int .i64 (p.stop:Int)]) (hS:WG w bs xs sv p.aT) (oP:WI p) (hA:dH w 1 encI A m l) (hm:m≤60000) (hl:∀k∈l,k<p.aT.length) (hc:c < 256) :
 Calls Tryz.prog 155 #[.pointer (some ⟨gp,0,none⟩),.slice A m cp,.int .u8 (c:Int)] w fun e w'=>∃v,e =.returned v∧Own w' w.heap.size 3 1 encI v (rU (sS p.aT (Dj p.aT c l)))∧ah w w':=by
 have qA:=ζ hA.1;have tX:=ζ hS.len;obtain⟨sA,sc,Yv,-,-,Yw⟩:=hS.own.arr Xv;obtain⟨R,EZ⟩:∃R,R=rU (sS p.aT (Dj p.aT c l)):=⟨_,rfl⟩;rw[←EZ];replace EZ:=ζ EZ;replace hA:=ζ hA;replace hP:=ζ hP;replace hS:=ζ hS;replace Yw:=ζ Yw;replace oP:=ζ oP;replace hl:=ζ hl;replace Yv:=ζ Yv;replace hc:=ζ hc;go_enter Tryz.func155,Tryz.ntmps155
 go_wp2;go_loopw [7,9,10,13] (fun vo _ _ i wr=>∃q:Nat,q≤m∧i =.int .i64 (q:Int)∧Hid (Own wr w.heap.size 3 1 encI vo ((l.take q).foldl (ji p.aT c) []))∧Hid (ah w wr)) (fun _ _ _ i _=>m - (intOf i).toNat)
 case atStart=>exact⟨0,ω,rfl,ζ (Own.iH _ _ _ _ _),ζ (ah.refl _)⟩
 case round=>
  obtain⟨q,hq,rfl,hO,hG⟩:=hrel;by_cases hqm:q<m
  ·obtain⟨b0,o0,k,rfl,hs0,hk,hcell⟩:=(hA.o.keep hG.o).at_ hqm;have c0:wr.cell? ⟨b0,o0+q,none⟩=some (.int .i64 (k:Int)):=by simpa using hcell 0 _ rfl
   have hqi:(q:Int)<(m:Int):=ω;have Np:=hl.o k (List.mem_of_getElem? hk);obtain⟨y,hy⟩:∃y,p.aT[k]? = some y:=⟨_,List.getElem?_eq_getElem Np⟩;obtain⟨x,hx⟩:∃x,xs[k]? = some x:=⟨_,List.getElem?_eq_getElem (by rw[tX.o];exact Np)⟩;have ade:k<xs.length:=by rw[tX.o];exact Np
   obtain⟨hs1,hs2,hs3⟩:=hS.o.st k x y hx hy;obtain⟨fA,fc,hfv,-,-,-⟩:=hs3.arr JV;obtain⟨bb,off,x',ac7,hsz,NT,hcs⟩:=(Yw.o.keep hG.o).at_ ade;rw[hx] at NT;injection NT with NT
   subst NT;have cF:wr.cell? ⟨bb,off+k*3+2,none⟩=some (.slice fA y.free.length fc):=by rw[←hfv];exact hcs 2 _ rfl
   have cN:wr.cell? ⟨bb,off+k*3+1,none⟩=some (.int .i64 (y.next:Int)):=by rw[←hs1];exact hcs 1 _ rfl
   have cV:wr.cell? ⟨bb,off+k*3,none⟩=some x.pv:=by simpa using hcs 0 _ rfl
   rw[ac7] at Yv;have cP:wr.cell? ⟨gp,1,none⟩=some (.slice (some ⟨bb,off,none⟩) xs.length sc):=by rw[←Yv.o];exact ((hP.o.grows hG.o).cell 1).trans rfl
   have j_:(k:Int)<(xs.length:Int):=ω;have htf:=afp (aT:=p.aT) (c:=c) hk;have hob:Hid (((l.take q).foldl (ji p.aT c) []).length<70000):=ζ (by have:=(LQ oP.o.vp (c:=c) (l.take q)).2;unfold Dj at this;rw[List.length_take] at this;omega);generalize hout:(l.take q).foldl (ji p.aT c) []=out at *
   have uH:=ζ hG.o.size;cases aO:y.set with
   | none=>
    rw[aO] at hs2;rw[hs2] at cV;have hst:Hid ((l.take (q+1)).foldl (ji p.aT c) []=out):=ζ (by rw[htf];unfold ji;rw[hy];simp only[aO]);clear hs1 hs2 hs3 hfv hcs hx hy ac7 htf hcell hk ade;go_wp2;go_roundw
    case rel=>exact⟨q+1,ω,ν,ζ (by rw[hst.o];exact hO.o.alloc _),ζ (hG.o.alloc _)⟩
    case measure=>exact ψ
   | some ws=>
    rw[aO] at hs2;obtain⟨gs,jm,oQ,awe⟩:=hs2;rw[jm] at cV;have cH:=fun (W:World) (hW:ah w W)=>akt (c:=c) (awe.grows hW) hc.o
    replace cH:=ζ cH;cases hhs:qC ws c with
    | false=>
     rw[hhs] at cH;have hst:Hid ((l.take (q+1)).foldl (ji p.aT c) []=out):=ζ (by rw[htf];unfold ji;rw[hy];simp only[aO,hhs];rfl);clear hs1 hs3 hfv hcs hx hy ac7 htf hcell hk ade aO hhs jm;go_wp2_with fail;refine (cH.out _ (hG.o.alloc _)).mono ?_;rintro e w2 ⟨rfl,hw2⟩;replace hw2:=hw2.symm;subst hw2;go_wp2;go_roundw
     case rel=>exact⟨q+1,ω,ν,ζ (by rw[hst.o];exact hO.o.alloc _),ζ (hG.o.alloc _)⟩
     case measure=>exact ψ
    | true=>
     rw[hhs] at cH;have hst:Hid ((l.take (q+1)).foldl (ji p.aT c) []=out++[y.next]):=ζ (by rw[htf];unfold ji;rw[hy];simp only[aO,hhs];rfl);clear hs1 hs3 hfv hcs hx hy ac7 htf hcell hk ade aO hhs jm;go_wp2_with fail;refine (cH.out _ (hG.o.alloc _)).mono ?_;rintro e w2 ⟨rfl,hw2⟩;replace hw2:=hw2.symm;subst hw2;have hZ:=aS.new wr 225 #[.pointer (some ⟨gs,0,none⟩),.int .i64 (y.next:Int),.slice fA y.free.length fc];have pY:=ζ (hO.o.alloc (.cells #[.pointer (some ⟨gs,0,none⟩),.int .i64 (y.next:Int),.slice fA y.free.length fc] 225));have iC:=ζ (hG.o.alloc (.cells #[.pointer (some ⟨gs,0,none⟩),.int .i64 (y.next:Int),.slice fA y.free.length fc] 225));clear hO hG cF cN cV cP c0 uH;generalize wr.alloc (.cells #[.pointer (some ⟨gs,0,none⟩),.int .i64 (y.next:Int),.slice fA y.free.length fc] 225)=w2 at *
     generalize wr.heap.size=gZ at *
     have z0:=hZ.c0;have z1:=hZ.c1;have zl:=hZ.lt;have eP:=ζ iC.o.size;clear hZ;go_wp2_with (at_builtin;refine dM (x:=y.next) WE rfl (.tmp 33) (.tmp 36) rfl (pY.o.alloc _) rfl ⟨w2.heap.size,0,none⟩ rfl rfl (h_ (by exact heap_alloc_new w2 _)) (UZ _) (by have:=eP.o;simp;omega) (by have:=hob.o;unfold maxLen;omega) (by have:=hob.o;omega) (fun v4 w4 gu fV agM=> ?_);(have CQ:=ζ ((iC.o.alloc _).bH fV (fun g hg=>(pY.o.kY g hg).1)));(replace gu:=ζ gu);clear fV agM);go_roundw
     case rel=>exact⟨q+1,ω,ν,ζ (by rw[hst.o];exact gu.o),CQ⟩
     case measure=>exact ψ
  ·obtain rfl:q=m:=ω;have aQ:Hid ((l.take q).foldl (ji p.aT c) []=Dj p.aT c l):=ζ (by rw[List.take_of_length_le (by rw[qA.o];exact Nat.le_refl _)];rfl);have hOs:=hO.o;rw[aQ.o] at hOs;have hso:=LQ oP.o.vp (c:=c) l;have asz:(Dj p.aT c l).length≤60000:=by have:=hso.2;have:=qA.o;omega
   obtain⟨oA,oc,hov,-,-,O8⟩:=hOs.arr JV;subst hov;have cR:=ζ (VH (c:=oc) (hP.o.grows hG.o) (hS.o.grows hG.o) oP.o O8 asz hso.1);have uH:=ζ hG.o.size;clear hO aQ hso asz O8 hOs;go_wp2_with fail;refine (cR.out).mono ?_;rintro e w9 ⟨v,rfl,AP,uZ⟩;go_wp2;go_ret;refine⟨_,rfl,?_,hG.o.trans uZ⟩;rw[EZ.o];exact AP.ig uH.o
end Go.Proofs.YteojanlajhebhaaGreatDoor
namespace Go.Proofs.YteojanlajhebhaaGreatDoor
open Go.RowKit
theorem afR (w:World) (s:List UInt8):Calls Tryz.prog 119 #[.string ⟨s.toArray⟩] w fun e w'=>e =.returned (.int .i64 (ou s:Int))∧ah w w':=by
 have cR:=ζ (Zb w s);go_enter Tryz.func119,Tryz.ntmps119
 go_wp2_with fail;refine (cR.out).mono ?_;rintro e w1 ⟨v,rfl,hv,hg⟩;clear cR;go_wp2;go_ret;exact⟨rfl,hg⟩
def Am (p:TT) (t:List UInt8):List Nat:=t.foldl (fun l c=>rU (sS p.aT (Dj p.aT c.toNat l))) (rU (sS p.aT [p.start]))
def oG (s t:List UInt8):Bool:=match wW s with
 | none=>false
 | some p=>(Am p t).any fun x=>p.stop==x
theorem LU {l:List Nat} {n:Nat} (h:∀k∈l,k<n):∀k∈rU l,k<n:=fun k hk=>h k ((Gi l).mem_iff.1 hk)
theorem af8 {p:TT} (oP:WI p) (t:List UInt8):(∀k∈Am p t,k<p.aT.length)∧(Am p t).length≤p.aT.length:=by
 have key:∀(t:List UInt8) (l:List Nat),(∀k∈l,k<p.aT.length)∧l.length≤p.aT.length→(∀k∈t.foldl (fun l c=>rU (sS p.aT (Dj p.aT c.toNat l))) l,k<p.aT.length)∧(t.foldl (fun l c=>rU (sS p.aT (Dj p.aT c.toNat l))) l).length≤p.aT.length:=by
  intro t;induction t with
  | nil=>intro l h;exact h
  | cons c t ih=>
   intro l h;refine ih _ ?_;have h1:=Fp oP.vp (LQ oP.vp (c:=c.toNat) l).1;exact⟨LU h1.1,by rw[Nw];exact h1.2⟩
 refine key t _ ?_;have h1:=Fp oP.vp (l:=[p.start]) (fun k hk=>by rw[List.mem_singleton] at hk;subst hk;exact oP.start);exact⟨LU h1.1,by rw[Nw];exact h1.2⟩
theorem Zm {p:TT} {t:List UInt8} {q:Nat} {c:UInt8} (h:t[q]? = some c):Am p (t.take (q+1))=rU (sS p.aT (Dj p.aT c.toNat (Am p (t.take q)))):=by
 unfold Am;rw[List.take_add_one,h];simp
theorem af7 {w:World} {bs:Nat} {s t:List UInt8} {v:Value} (hv:atT w bs s v (wW s)) (ht:t.length≤1000000) :
 Calls Tryz.prog 140 #[v,.string ⟨t.toArray⟩] w fun e w'=>e =.returned (.bool (oG s t))∧ah w w':=by
 obtain⟨R,hR⟩:∃R,R=oG s t:=⟨_,rfl⟩;rw[←hR];unfold oG at hR;cases SQ:wW s with
 | none=>
  rw[SQ] at hv hR;obtain rfl:v =.pointer none:=hv;simp only at hR;subst hR;clear SQ;go_enter Tryz.func140,Tryz.ntmps140
  go_wp2;go_ret;exact⟨rfl,ah.refl _⟩
 | some p=>
  have oP:=ζ (Zn SQ);rw[SQ] at hv hR;simp only at hR;replace hR:=ζ hR;obtain⟨gp,xs,sv,rfl,hP,hS⟩:=hv;clear SQ;have cS:w.cell? ⟨gp,2,none⟩=some (.int .i64 (p.start:Int)):=(hP.cell 2).trans rfl;have cE:=ζ ((hP.cell 3).trans rfl:w.cell? ⟨gp,3,none⟩=some (.int .i64 (p.stop:Int)));have lP:=hP.lt;have hN:=aS.new w 3 #[.int .i64 (p.start:Int)];have hg1:ah w (w.alloc (.cells #[.int .i64 (p.start:Int)] 3)):=(ah.refl _).alloc _;have CS:dH (w.alloc (.cells #[.int .i64 (p.start:Int)] 3)) 1 encI (some ⟨w.heap.size,0,none⟩) 1 [p.start]:=⟨rfl,fun _=>⟨w.heap.size,0,rfl,hN.lt,fun i hi j u hu=>by
   have hi0:i = 0:=by simp at hi;omega
   have hj:j = 0:=by have:=(List.getElem?_eq_some_iff.1 hu).1;simp[encI] at this;omega
   subst hi0 hj;rw[hN.cell];exact hu⟩⟩
  have cR:=ζ (VH (c:=1) (hP.grows hg1) (hS.grows hg1) oP.o CS ω (fun k hk=>by rw[List.mem_singleton] at hk;subst hk;exact oP.o.start));replace hP:=ζ hP;replace hS:=ζ hS;clear hN CS;go_enter Tryz.func140,Tryz.ntmps140
  go_wp2_with fail;refine (cR.out).mono ?_;rintro e w1 ⟨vl,rfl,hO,hg2⟩;replace hO:=ζ (hO.ig (show w.heap.size≤_ by simp));have hG:=ζ (hg1.trans hg2);clear hg1 hg2 cR cS lP;go_wp2_with (refine lG rfl (.tmp 17) rfl rfl (by rw[bsize];omega) ?_;intro v1 w2 hB hg3;(obtain⟨bA,bc,hbv,-,-,Oa⟩:=hB.arr);(rw[gQ,bsize] at hbv Oa);subst hbv;(replace Oa:=ζ Oa);(replace hO:=ζ (hO.o.grows hg3));(replace hG:=ζ (hG.o.trans hg3));clear hg3 hB);have hf0:Am p (t.take 0)=rU (sS p.aT [p.start]):=rfl;rw[←hf0] at hO;clear hf0;have atq:=ζ (ah.refl w2);go_loopw [5,7,20] (fun vl _ i wr=>∃q:Nat,q≤t.length∧i =.int .i64 (q:Int)∧Hid (Own wr w.heap.size 3 1 encI vl (Am p (t.take q)))∧Hid (ah w wr)∧Hid (ah w2 wr)) (fun _ _ i _=>t.length-(intOf i).toNat)
  case atStart=>exact⟨0,ω,rfl,hO,hG,atq⟩
  case round=>
   clear hO hG atq;obtain⟨q,hq,rfl,hO,hG,iC⟩:=hrel;have hlen:=af8 oP.o (t.take q);obtain⟨oA,oc,hov,-,-,O8⟩:=hO.o.arr JV;have uH:=ζ hG.o.size;by_cases hqm:q<t.length
   ·obtain⟨bb,off,x,rfl,hs0,hx,hcell⟩:=(Oa.o.keep iC.o).at_ hqm;have c0:wr.cell? ⟨bb,off+q,none⟩=some (.int .u8 (x:Int)):=by simpa using hcell 0 _ rfl
    have hqi:(q:Int)<(t.length:Int):=ω;obtain⟨ch,hch⟩:∃ch,t[q]? = some ch:=⟨_,List.getElem?_eq_getElem hqm⟩;have hxc:x = ch.toNat:=by
     rw[Ar,Gv,List.getElem?_map,hch] at hx;simpa using hx.symm
    subst hxc;have xJ:=ζ (Zm (p:=p) hch);have cS:=ζ (ai3 (cp:=oc) (hP.o.grows hG.o) (hS.o.grows hG.o) oP.o O8 (by have:=oP.o.len;omega) hlen.1 ch.toNat_lt);clear hlen O8 hcell hx hch;generalize (Am p (t.take q))=cur at *
    subst hov;go_wp2_with fail;refine (cS.out).mono ?_;rintro e w5 ⟨v5,rfl,jk,sQ⟩;replace jk:=ζ (jk.ig uH.o);go_wp2;go_roundw
    case rel=>exact⟨q+1,ω,ν,ζ (by rw[xJ.o];exact jk.o),ζ (hG.o.trans sQ),ζ (iC.o.trans sQ)⟩
    case measure=>exact ψ
   ·obtain rfl:q=t.length:=ω;rw[List.take_length] at hO hlen O8 hov;have cH:=ζ (akv (c:=oc) (v:=p.stop) wr O8 (by have:=oP.o.len;omega));have cE2:=hG.o.cell cE.out;rw[←hR.o] at cH;clear hlen O8;generalize (Am p t)=cur at *
    subst hov;go_wp2_with fail;refine (cH.out).mono ?_;rintro e w9 ⟨rfl,uZ⟩;go_wp2;go_ret;exact⟨rfl,hG.o.trans uZ⟩
theorem ag_ (w:World) (s t:List UInt8) (ht:t.length≤1000000):Calls Tryz.prog 124 #[.string ⟨s.toArray⟩,.string ⟨t.toArray⟩] w fun e w'=>e =.returned (.bool (oG s t))∧ah w w':=by
 have cR:=ζ (Zb w s);go_enter Tryz.func124,Tryz.ntmps124
 go_wp2_with fail;refine (cR.out).mono ?_;rintro e w1 ⟨v,rfl,hv,hg⟩;clear cR;have cF:=ζ (af7 hv ht);go_wp2_with fail;refine (cF.out).mono ?_;rintro e w2 ⟨rfl,hg2⟩;go_wp2;go_ret;exact⟨rfl,hg.trans hg2⟩
end Go.Proofs.YteojanlajhebhaaGreatDoor
