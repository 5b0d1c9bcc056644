/- Parts: Shelf4 PatU Shelf5 SilB SilC SilD SilE SilF SlZ0 SlZ SilG SilH SlW SilI ClkA ClkB ClkC ClkD -/
import Derived.Test.YtbhikkgpcmkonaaGreatDoorVa0
import Derived.Ground.SlgmProg
import Derived.Shelf.SortM.Plain
import Derived.Shelf.SortM.SortNone
import Derived.Test.YtbhikkgpcmkonaaGreatDoorProg
import Derived.Test.YtbhikkgpcmkonaaGreatDoorVa15
import Derived.Test.YtbhikkgpcmkonaaGreatDoorVa5
import Derived.Ground.GgzProg
import Derived.Shelf.SlIterI.Nil
import Derived.Lib.SlKeysI
import Derived.Maps.RangeWalk
import Derived.Test.YtbhikkgpcmkonaaGreatDoorVa12
import Derived.Shelf.RegionOpen
import Derived.Test.YtbhikkgpcmkonaaGreatDoorVa8
import Derived.Test.YtbhikkgpcmkonaaGreatDoorVa9
import Derived.Test.YtbhikkgpcmkonaaGreatDoorVa11
set_option maxRecDepth 100000
set_option maxHeartbeats 12800000
namespace Go.Proofs
open Go.Shelf
def Tryz.adQ:Go.Shelf.Ren:=⟨fun | 5=>185 | 8=>167 | 7=>219 | 19=>208 | 20=>209 | 10=>240 | 11=>241 | 12=>242 | 13=>243 | 14=>244 | 15=>245 | 16=>246 | 17=>247 | 18=>248 | 30=>260 | 31=>232 | 32=>233 | 33=>261 | 34=>262 | 35=>263 | 40=>272 | n=>n,fun | 23=>71 | 25=>3 | 3=>3 | 32=>39 | 22=>71 | 0=>0 | 44=>23 | 46=>33 | 4=>4 | 36=>309 | 35=>308 | 41=>193 | 5=>5 | 9=>9 | 53=>339 | 57=>343 | 63=>368 | 64=>369 | n=>n,fun | n=>n⟩
theorem Tryz.acs:Go.Proofs.SlLaysM.n5 Tryz.prog Tryz.adQ:={
 mixed:=by kernel_rfl
 f5:=⟨Tryz.f185.name,δ,Tryz.func185.trans (congrArg some κ)⟩
 f7:=⟨Tryz.f219.name,δ,Tryz.func219.trans (congrArg some κ)⟩
 f8:=Tryz.func167.trans (congrArg some κ)
 f10:=⟨Tryz.f240.name,δ,Tryz.func240.trans (congrArg some κ)⟩
 f11:=⟨Tryz.f241.name,δ,Tryz.func241.trans (congrArg some κ)⟩
 f12:=⟨Tryz.f242.name,δ,Tryz.func242.trans (congrArg some κ)⟩
 f13:=⟨Tryz.f243.name,δ,Tryz.func243.trans (congrArg some κ)⟩
 f14:=⟨Tryz.f244.name,δ,Tryz.func244.trans (congrArg some κ)⟩
 f15:=⟨Tryz.f245.name,δ,Tryz.func245.trans (congrArg some κ)⟩
 f16:=⟨Tryz.f246.name,δ,Tryz.func246.trans (congrArg some κ)⟩
 f17:=⟨Tryz.f247.name,δ,Tryz.func247.trans (congrArg some κ)⟩
 f18:=⟨Tryz.f248.name,δ,Tryz.func248.trans (congrArg some κ)⟩
 f19:=Tryz.func208.trans (congrArg some κ)
 f20:=Tryz.func209.trans (congrArg some κ)
 f30:=⟨Tryz.f260.name,δ,Tryz.func260.trans (congrArg some κ)⟩
 f31:=Tryz.func232.trans (congrArg some κ)
 f32:=Tryz.func233.trans (congrArg some κ)
 f33:=⟨Tryz.f261.name,δ,Tryz.func261.trans (congrArg some κ)⟩
 f34:=⟨Tryz.f262.name,δ,Tryz.func262.trans (congrArg some κ)⟩
 f35:=⟨Tryz.f263.name,δ,Tryz.func263.trans (congrArg some κ)⟩
 f40:=⟨Tryz.f272.name,δ,Tryz.func272.trans (congrArg some κ)⟩
 t0:=Tryz.underlying0
 a0:=Tryz.isAgg0
 z0:=Tryz.sizeOf0
 v0:=Tryz.zeroValue0
 t3:=Tryz.underlying3
 a3:=Tryz.isAgg3
 z3:=Tryz.sizeOf3
 v3:=Tryz.zeroValue3
 t4:=Tryz.underlying4
 a4:=Tryz.isAgg4
 z4:=Tryz.sizeOf4
 v4:=Tryz.zeroValue4
 t5:=Tryz.underlying5
 a5:=Tryz.isAgg5
 z5:=Tryz.sizeOf5
 v5:=Tryz.zeroValue5
 t9:=Tryz.underlying9
 a9:=Tryz.isAgg9
 z9:=Tryz.sizeOf9
 v9:=Tryz.zeroValue9
 t22:=Tryz.underlying71
 a22:=Tryz.isAgg71
 z22:=Tryz.sizeOf71
 v22:=Tryz.zeroValue71
 t23:=Tryz.underlying71
 a23:=Tryz.isAgg71
 z23:=Tryz.sizeOf71
 v23:=Tryz.zeroValue71
 t25:=Tryz.underlying3
 a25:=Tryz.isAgg3
 z25:=Tryz.sizeOf3
 v25:=Tryz.zeroValue3
 t32:=Tryz.underlying39
 a32:=Tryz.isAgg39
 z32:=Tryz.sizeOf39
 v32:=Tryz.zeroValue39
 t35:=Tryz.underlying308
 a35:=Tryz.isAgg308
 z35:=Tryz.sizeOf308
 v35:=Tryz.zeroValue308
 t36:=Tryz.underlying309
 a36:=Tryz.isAgg309
 z36:=Tryz.sizeOf309
 v36:=Tryz.zeroValue309
 t41:=Tryz.underlying193
 a41:=Tryz.isAgg193
 z41:=Tryz.sizeOf193
 v41:=Tryz.zeroValue193
 t44:=Tryz.underlying23
 a44:=Tryz.isAgg23
 z44:=Tryz.sizeOf23
 v44:=Tryz.zeroValue23
 t46:=Tryz.underlying33
 a46:=Tryz.isAgg33
 z46:=Tryz.sizeOf33
 v46:=Tryz.zeroValue33
 t53:=Tryz.underlying339
 a53:=Tryz.isAgg339
 z53:=Tryz.sizeOf339
 v53:=Tryz.zeroValue339
 t57:=Tryz.underlying343
 a57:=Tryz.isAgg343
 z57:=Tryz.sizeOf343
 v57:=Tryz.zeroValue343
 t63:=Tryz.underlying368
 a63:=Tryz.isAgg368
 z63:=Tryz.sizeOf368
 v63:=Tryz.zeroValue368
 t64:=Tryz.underlying369
 a64:=Tryz.isAgg369
 z64:=Tryz.sizeOf369
 v64:=Tryz.zeroValue369}
end Go.Proofs
namespace Go.Proofs.YtbhikkgpcmkonaaGreatDoor
open Go.RowKit Go.Maps Go.WideMaps
def o_ (l:List Nat):List Nat:=l.mergeSort fun a b=>decide (a≤b)
theorem adP (l:List Nat):(l.map fun (x:Nat)=>(x:Int)).mergeSort (fun x y=>decide (x≤y))=(o_ l).map fun (x:Nat)=>(x:Int):=by
 unfold o_;rw[List.map_mergeSort (s:=fun (x y:Int)=>decide (x≤y))];intro a _ b _;simp
theorem NG (l:List Nat):(o_ l).Perm l:=List.mergeSort_perm l _
theorem Jj (l:List Nat):(o_ l).length=l.length:=(NG l).length_eq
theorem grownBy_sorted {w:World} {g n:Nat} {d:Array Int} {os:Array Obj}:w.grownBy (Go.Sort.grow (Go.Sort.putRow (Value.int .i64) (Go.Sort.ahead w n) g 0 d) os) (some g):=by
 refine⟨rfl,rfl,rfl,?_,fun k hk hne=> ?_⟩
 ·simp[Go.Sort.grow,Go.Sort.putRow,Go.Sort.mapBlock,Go.Sort.ahead]
 ·have hkg:k≠g:=fun e=>hne (by rw[e])
  rw[Go.Sort.heap_grow_old _ _ (by simpa[Go.Sort.putRow,Go.Sort.mapBlock,Go.Sort.ahead] using hk)];simp[Go.Sort.putRow,Go.Sort.mapBlock,Go.Sort.ahead,Array.getElem?_modify,Ne.symm hkg]
theorem ahV {w:World} {base:Nat} {v:Value} {l:List Nat} (h:Own w base 3 1 encI v l) (hl:l.length<4611686018427387904) :
 Calls Tryz.prog 185 #[v] w fun e w'=>e =.returned (.tuple #[])∧Own w' base 3 1 encI v (o_ l)∧w.grownBy w' v.ownBlock:=by
 by_cases h0:l = []
 ·subst h0;obtain⟨A,c,hv,-⟩:=h.arr (fun _=>rfl);subst hv;have:=AnyM.slices_Sort_int_none Tryz.acs A c w;refine this.mono ?_;rintro e w' ⟨rfl,rfl⟩;exact⟨rfl,by simpa[o_] using h,World.grownBy.refl _ _⟩
 ·obtain⟨g,cap,hv⟩:=yH h (List.length_pos_iff.2 h0);subst hv;obtain⟨cur,Va,hb,hh,Cb,hcm,hcs,hc⟩:=h.tu (fun _=>rfl);have hH:Go.Sort.Holds (Value.int .i64) w g 0 (l.map fun (x:Nat)=>(x:Int)).toArray:=by
   intro j hj;have hj':j < l.length:=by simpa using hj
   obtain⟨x,hx,hcell,zY⟩:=h.at_ (fun _=>rfl) hj';have h1:=hcell 0 _ rfl;refine⟨?_,?_⟩
   ·rw[getElem!_pos _ j hj,show 0+j = j * 1+0 by omega,h1];obtain⟨_,hx2⟩:=List.getElem?_eq_some_iff.1 hx;simp[hx2]
   ·exact zY _
  have:=AnyM.slices_Sort_int Tryz.acs g 0 cap (l.map fun (x:Nat)=>(x:Int)) w hH (oq hh) (by simpa using hl);rw[adP,List.length_map] at this;refine this.mono ?_;rintro e w' ⟨rfl,n,os,rfl⟩;refine⟨rfl,?_,grownBy_sorted⟩;have hh2:(Go.Sort.grow (Go.Sort.putRow (Value.int .i64) (Go.Sort.ahead w n) g 0 ((o_ l).map fun (x:Nat)=>(x:Int)).toArray) os).heap[g]? = some (.cells (Go.Sort.putCells (Value.int .i64) 0 ((o_ l).map fun (x:Nat)=>(x:Int)).toArray cur) 3 (0,0)):=by
   rw[Go.Sort.heap_grow_old _ _ (by simpa[Go.Sort.putRow,Go.Sort.mapBlock,Go.Sort.ahead] using oq hh)];simp[Go.Sort.putRow,Go.Sort.mapBlock,Go.Sort.ahead,Array.getElem?_modify,hh,Go.Sort.onCells]
  have hlen:=Jj l;have:=Own.mk_ (xs:=o_ l) (cap:=cap) (enc:=encI) (k:=1) (fun _=>rfl) ω hb hh2 ω hcm (by simpa[Go.Sort.putCells] using hcs) (fun q hq r hr=>by
   have hr0:r = 0:=ω;subst hr0;have hqc:q<cur.size:=by rw[hcs];omega
   simp[Go.Sort.putCells,hqc,hq,encI])
  rwa [hlen] at this
def aeh (l:List Nat) (m:DataW Unit):DataW Unit:=l.foldl (fun m (x:Nat)=>m.put (.int .i64 (x:Int)) (.lit (.bool true))) m
theorem aam:∀(l:List Nat) (m:DataW Unit),IsMap m→IsMap (aeh l m)
 | [],_,h=>h
 | _ ::r,_,h=>aam r _ (h.put _ _)
theorem Jz (s:Int):WideAt.IsKeyLit (.int .i64 s):=by first | trivial | simp[WideAt.IsKeyLit] | exact⟨⟩
theorem acw (z:DataW Unit) (s:Nat):∀(l:List Nat) (m:DataW Unit),IsMap m→(aeh l m).atKey (.int .i64 (s:Int)) z = if s∈l then .lit (.bool true) else m.atKey (.int .i64 (s:Int)) z
 | [],_,_=>by simp[aeh]
 | x ::r,m,h=>by
  show (aeh r (m.put (.int .i64 (x:Int)) (.lit (.bool true)))).atKey (.int .i64 (s:Int)) z = _
  rw[acw z s r _ (h.put _ _)];by_cases hr:s∈r
  ·simp[hr]
  ·by_cases he:x = s
   ·subst he;simp only[hr,if_false,List.mem_cons,true_or,if_true];exact atKey_put_same h (Jz _) _ _
   ·simp only[hr,if_false,List.mem_cons,or_false,Ne.symm he];exact atKey_put_other (fun e=>he (by injection e with _ e;omega)) _ _
def D6 (w:World) (b:Nat) (l:List Nat):Prop:=w.ownsMap (H:=Unit) Tryz.prog 3 (plainElem Tryz.prog 4) b l.length (aeh l (.map []))
theorem D6.made (w:World):D6 (w.alloc (.map #[] 0)) w.heap.size []:=World.ownsMap_made w Tryz.prog 3 _
theorem D6.kept {w w':World} {b:Nat} {l:List Nat} {row:Option Nat} (h:D6 w b l) (hg:w.grownBy w' row) (hne:some b≠row):D6 w' b l:=World.ownsMap.kept h hg hne
theorem D6.aX {w:World} {b:Nat} {l:List Nat} (h:D6 w b l):∀cur e fz,w.heap[b]?≠some (.cells cur e fz):=by
 obtain⟨es,clock,hb,_⟩:=h;intro cur e fz hc;rw[hb] at hc;cases hc
theorem ama {s:Nat} (hs:s < 4611686018427387904):keyOf Tryz.prog 3 (.int .i64 (s:Int))=some (.int .i64 (s:Int)):=
 keyOf_int_mk Tryz.underlying3 (by simp[Lit.wf,IntKind.min,IntKind.max,IntKind.bits,IntKind.signed];omega)
theorem D6.look {w:World} {b:Nat} {l:List Nat} (h:D6 w b l) {s:Nat} (hs:s < 4611686018427387904) :
 (Instr.lookup 374 (.map (some b)) (.int .i64 (s:Int)) false).run Tryz.prog w =.ok (.bool (decide (s∈l))) w:=by
 obtain⟨v,ps,hrun,hv⟩:=World.ownsMap.lookup h (int_keyed Tryz.underlying3) Tryz.underlying374 (z:=.bool false) κ (plainElem_bool Tryz.underlying4 false) (key:=.int .i64 (s:Int)) (kl:=.int .i64 (s:Int)) (ama hs);rw[acw _ _ _ _ isMap_empty] at hv;have e1:(if s∈l then (DataW.lit (.bool true):DataW Unit) else (DataW.map []:DataW Unit).atKey (.int .i64 (s:Int)) (.lit (.bool false)))=.lit (.bool (decide (s∈l))):=by
  by_cases hl:s∈l
  ·simp[hl]
  ·simp only[hl,if_false,decide_false];rfl
 rw[e1] at hv;have:v =.bool (decide (s∈l)):=by
  have hb:=Tryz.underlying4;unfold plainElem at hv;cases v <;> simp[hb] at hv
  simp[hv.1]
 rw[←this];exact hrun
theorem Wu {ops:Array Oper} {rest:List Oper} {o:Oper} {a:Act} {Q:Exit→Act→World→Prop} {w:World} {b:Nat} {l:List Nat} (h:D6 w b l)
 (hg:o.guard=none) (m x v:Operand) (hop:o.op=Op.mapUpdate 374 m x v) (hn:l.length<maxLen) (s:Nat) (hs:s < 4611686018427387904)
 (hm:a.eval m =.map (some b)) (hx:a.eval x =.int .i64 (s:Int)) (hv:a.eval v =.bool true)
 (hK:∀w',D6 w' b (l ++[s])→w.grownBy w' (some b)→wpList Tryz.prog ops Q rest (a.put o.dst undef) w') :
 wpList Tryz.prog ops Q (o ::rest) a w:=by
 refine wpList_mapUpdate_own w hg m x v 374 hop 3 4 (int_keyed Tryz.underlying3) Tryz.underlying374 _ b l.length _ hm h hn _ _ (.int .i64 (s:Int)) hx hv (ama hs) (.lit (.bool true)) _ (plainElem_bool Tryz.underlying4 true) ?_;intro w' h1 h2;refine hK w' ?_ h2;unfold D6 aeh;rw[List.foldl_append,List.length_append];exact h1
theorem ZN {w:World} {b:Nat} {l:List Nat} {ty:TypeId} (h:D6 w b l):∃w',(Builtin.clear_ #[374] ty #[.map (some b)]).run Tryz.prog w =.ok (.tuple #[]) w'∧w.grownBy w' (some b):=by
 obtain⟨es,clock,hb,_⟩:=h;refine⟨{w with heap:=w.heap.setIfInBounds b (.map #[] clock)},?_,⟨rfl,rfl,rfl,by simp,fun i _ hi=> ?_⟩⟩
 ·simp[Builtin.clear_,run_underlying Tryz.underlying374,MapKept.run_getObj_map hb,MapKept.run_setObj_map _ hb,Result.andThen]
 ·show (w.heap.setIfInBounds b (.map #[] clock))[i]? = _
  rw[Array.getElem?_setIfInBounds_ne (fun e=>hi (by rw[e]))]
end Go.Proofs.YtbhikkgpcmkonaaGreatDoor
namespace Go.Proofs
open Go.Shelf
def Tryz.SK:Go.Shelf.Ren:=⟨fun | 7=>149 | 10=>186 | n=>n,fun | 23=>139 | 26=>3 | 3=>159 | 28=>257 | 0=>0 | 27=>256 | 33=>149 | 4=>4 | n=>n,fun | n=>n⟩
theorem Tryz.an4:Go.Proofs.SlLaysZI.n7 Tryz.prog Tryz.SK:={
 mixed:=by kernel_rfl
 f7:=⟨Tryz.f149.name,δ,Tryz.func149.trans (congrArg some κ)⟩
 f10:=⟨Tryz.f186.name,δ,Tryz.func186.trans (congrArg some κ)⟩
 t0:=Tryz.underlying0
 a0:=Tryz.isAgg0
 z0:=Tryz.sizeOf0
 v0:=Tryz.zeroValue0
 t4:=Tryz.underlying4
 a4:=Tryz.isAgg4
 z4:=Tryz.sizeOf4
 v4:=Tryz.zeroValue4
 t23:=Tryz.underlying139
 a23:=Tryz.isAgg139
 z23:=Tryz.sizeOf139
 v23:=Tryz.zeroValue139
 t26:=Tryz.underlying3
 a26:=Tryz.isAgg3
 z26:=Tryz.sizeOf3
 v26:=Tryz.zeroValue3
 t27:=Tryz.underlying256
 a27:=Tryz.isAgg256
 z27:=Tryz.sizeOf256
 v27:=Tryz.zeroValue256
 t28:=Tryz.underlying257
 a28:=Tryz.isAgg257
 z28:=Tryz.sizeOf257
 v28:=Tryz.zeroValue257
 t33:=Tryz.underlying149
 a33:=Tryz.isAgg149
 z33:=Tryz.sizeOf149
 v33:=Tryz.zeroValue149}
def Tryz.Kq:Go.Shelf.Ren:=⟨fun | 6=>148 | 8=>184 | 9=>185 | 11=>218 | 13=>167 | 12=>219 | 23=>208 | 24=>209 | 14=>240 | 15=>241 | 16=>242 | 17=>243 | 18=>244 | 19=>245 | 20=>246 | 21=>247 | 22=>248 | 25=>260 | 26=>232 | 27=>233 | 28=>261 | 29=>262 | 30=>263 | 31=>272 | n=>n,fun | 26=>3 | 28=>257 | 24=>71 | 0=>0 | 3=>3 | 37=>39 | 48=>23 | 50=>33 | 4=>4 | 40=>309 | 39=>308 | 45=>193 | 5=>5 | 9=>9 | 51=>339 | 55=>343 | 57=>368 | 58=>369 | 33=>149 | n=>n,fun | n=>n⟩
theorem Tryz.alP:Go.Proofs.SlLaysZI.n6 Tryz.prog Tryz.Kq:={
 mixed:=by kernel_rfl
 f6:=⟨Tryz.f148.name,δ,Tryz.func148.trans (congrArg some κ)⟩
 f8:=⟨Tryz.f184.name,δ,Tryz.func184.trans (congrArg some κ)⟩
 f11:=⟨Tryz.f218.name,δ,Tryz.func218.trans (congrArg some κ)⟩
 t0:=Tryz.underlying0
 a0:=Tryz.isAgg0
 z0:=Tryz.sizeOf0
 v0:=Tryz.zeroValue0
 t24:=Tryz.underlying71
 a24:=Tryz.isAgg71
 z24:=Tryz.sizeOf71
 v24:=Tryz.zeroValue71
 t26:=Tryz.underlying3
 a26:=Tryz.isAgg3
 z26:=Tryz.sizeOf3
 v26:=Tryz.zeroValue3
 t28:=Tryz.underlying257
 a28:=Tryz.isAgg257
 z28:=Tryz.sizeOf257
 v28:=Tryz.zeroValue257
 i26:=by kernel_rfl}
end Go.Proofs
namespace Go.Proofs.YtbhikkgpcmkonaaGreatDoor
open Go.RowKit Go.Maps Go.WideMaps Go.Sort Go.Shelf
structure Raw where
 A:Option (Nat×Nat)
 m:Nat
 k:Nat
 f:Int
 t:Int
 lv:Int
 c:Int
def Raw.ad (r:Raw):Option Addr:=r.A.map fun p=>⟨p.1,p.2,none⟩
def Uj (r:Raw):Value:=.agg #[.slice r.ad r.m r.k,.int .i64 r.f,.int .i64 r.t,.int .i64 r.lv,.int .u32 r.c]
def CP (r:Raw):DataW Unit:=.agg [(match r.A with | none=> .nil | some p=> .agg [.lit (.int .i64 p.1),.lit (.int .i64 p.2)]),.lit (.int .i64 r.m),.lit (.int .i64 r.k),.lit (.int .i64 r.f),.lit (.int .i64 r.t),.lit (.int .i64 r.lv),.lit (.int .u32 r.c)]
def NP (v:Value):Option (DataW Unit×List MemPlace):=match v with
 | .agg cs=>match cs.toList with
  | [a,f,t,l,c]=>match a,f,t,l,c with
   | .slice A m k,.int q1 f,.int q2 t,.int q3 lv,.int q4 c=>if q1=.i64∧q2=.i64∧q3=.i64∧q4=.u32 then (match A with
    | none=>some (CP ⟨none,m,k,f,t,lv,c⟩,[])
    | some ⟨b,o,none⟩=>some (CP ⟨some (b,o),m,k,f,t,lv,c⟩,[])
    | _=>none) else none
   | _,_,_,_,_=>none
  | _=>none
 | _=>none
theorem MH (r:Raw):NP (Uj r)=some (CP r,[]):=by
 obtain⟨A,m,k,f,t,lv,c⟩:=r;cases A <;> rfl
theorem Sj {v:Value} {y:DataW Unit×List MemPlace} (h:NP v = some y):∃r,v = Uj r:=by
 unfold NP at h;split at h
 ·rename_i cs;split at h
  ·rename_i a f t l c hcs;split at h
   ·rename_i A m k q1 f q2 t q3 lv q4 c;split at h
    ·rename_i hq;obtain⟨rfl,rfl,rfl,rfl⟩:=hq;have e:cs= #[.slice A m k,.int .i64 f,.int .i64 t,.int .i64 lv,.int .u32 c]:=by rw[←Array.toArray_toList (xs:=cs),hcs]
     split at h
     ·exact⟨⟨none,m,k,f,t,lv,c⟩,by rw[e];rfl⟩
     ·rename_i b o;exact⟨⟨some (b,o),m,k,f,t,lv,c⟩,by rw[e];rfl⟩
     ·cases h
    ·cases h
   ·cases h
  ·cases h
 ·cases h
theorem TM {r s:Raw} (h:CP r = CP s):r = s:=by
 obtain⟨A,m,k,f,t,lv,c⟩:=r;obtain⟨A',m',k',f',t',lv',c'⟩:=s;unfold CP at h;simp only[DataW.agg.injEq,List.cons.injEq,DataW.lit.injEq,Lit.int.injEq,true_and,and_true] at h;obtain⟨h1,h2,h3,h4,h5,h6,h7⟩:=h;have e1:A=A':=by
  cases A with
  | none=>cases A' with
   | none=>rfl
   | some p=>simp at h1
  | some p=>cases A' with
   | none=>simp at h1
   | some q=>
    simp at h1;obtain⟨h8,h9⟩:=h1;rw[show p = q from Prod.ext ω ω]
 have e2:m = m':=ω;have e3:k=k':=ω;subst e1 e2 e3 h4 h5 h6 h7;rfl
end Go.Proofs.YtbhikkgpcmkonaaGreatDoor
namespace Go.Proofs.YtbhikkgpcmkonaaGreatDoor
open Go.RowKit Go.Maps Go.WideMaps
abbrev QS:=List (Nat×Raw)
def uX (l:QS) (m:DataW Unit):DataW Unit:=l.foldl (fun m x=>m.put (.int .i64 (x.1:Int)) (CP x.2)) m
theorem aal:∀(l:QS) (m:DataW Unit),IsMap m→IsMap (uX l m)
 | [],_,h=>h
 | _ ::r,_,h=>aal r _ (h.put _ _)
theorem aeg (l:QS) (x:Nat×Raw) (m:DataW Unit):uX (l ++[x]) m = (uX l m).put (.int .i64 (x.1:Int)) (CP x.2):=by
 unfold uX;rw[List.foldl_append];rfl
theorem FH (z:DataW Unit) {s:Int}:∀(l:QS) (m:DataW Unit),IsMap m→(∀x∈l,(x.1:Int)≠s)→(uX l m).atKey (.int .i64 s) z = m.atKey (.int .i64 s) z
 | [],_,_,_=>rfl
 | x ::r,m,h,hn=>by
  show (uX r (m.put _ _)).atKey _ z = _
  rw[FH z r _ (h.put _ _) (fun y hy=>hn y (List.mem_cons_of_mem _ hy))];exact atKey_put_other (fun e=>hn x List.mem_cons_self (by injection e with _ e;exact e.symm)) _ _
theorem UH (z:DataW Unit) {k:Nat} {r:Raw}:∀(l:QS) (m:DataW Unit),IsMap m→(l.map (·.1)).Nodup→(k,r)∈l→(uX l m).atKey (.int .i64 (k:Int)) z = CP r
 | x ::l,m,h,hn,hm=>by
  rw[List.map_cons,List.nodup_cons] at hn;show (uX l (m.put _ _)).atKey _ z = _
  rcases List.mem_cons.1 hm with e | hm
  ·subst e;rw[FH z l _ (h.put _ _) (fun y hy e=>hn.1 (List.mem_map.2 ⟨y,hy,ω⟩))];exact atKey_put_same h (Jz _) _ _
  ·exact UH z l _ (h.put _ _) hn.2 hm
theorem NQ {s:Int}:∀(l:QS) (m:DataW Unit),IsMap m→Maps.has (uX l m) (.int .i64 s)=(l.any (fun x=>decide ((x.1:Int)=s))||Maps.has m (.int .i64 s))
 | [],_,_=>rfl
 | x ::r,m,h=>by
  show Maps.has (uX r (m.put _ _)) _ = _
  rw[NQ r _ (h.put _ _),List.any_cons];by_cases he:(x.1:Int)=s
  ·subst he;rw[has_put_same h (Jz _)];simp
  ·rw[has_put_other (fun e=>he (by injection e with _ e;exact e.symm))];simp[he]
def nX (w:World) (b:Nat) (l:QS):Prop:=w.ownsMap (H:=Unit) Tryz.prog 3 NP b l.length (uX l (.map []))
theorem nX.made (w:World):nX (w.alloc (.map #[] 0)) w.heap.size []:=World.ownsMap_made w Tryz.prog 3 _
theorem nX.lt {w:World} {b:Nat} {l:QS} (h:nX w b l):b < w.heap.size:=World.ownsMap.lt h
theorem nX.kept {w w':World} {b:Nat} {l:QS} {row:Option Nat} (h:nX w b l) (hg:w.grownBy w' row) (hne:some b≠row):nX w' b l:=World.ownsMap.kept h hg hne
theorem nX.grows {w w':World} {b:Nat} {l:QS} (h:nX w b l) (hg:ah w w'):nX w' b l:=h.kept (hg.keeps none) σ
theorem nX.aX {w:World} {b:Nat} {l:QS} (h:nX w b l):∀cur e fz,w.heap[b]?≠some (.cells cur e fz):=by
 obtain⟨es,clock,hb,_⟩:=h;intro cur e fz hc;rw[hb] at hc;cases hc
def atB:Raw:=⟨none,0,0,0,0,0,0⟩
theorem nX.look {w:World} {b:Nat} {l:QS} (h:nX w b l) (hn:(l.map (·.1)).Nodup) {k:Nat} {r:Raw} (hm:(k,r)∈l) (hk:k<4611686018427387904) :
 (Instr.lookup 139 (.map (some b)) (.int .i64 (k:Int)) false).run Tryz.prog w =.ok (Uj r) w:=by
 obtain⟨v,ps,hrun,hv⟩:=World.ownsMap.lookup h (int_keyed Tryz.underlying3) Tryz.underlying139 (z:=Uj atB) κ (MH atB) (key:=.int .i64 (k:Int)) (kl:=.int .i64 (k:Int)) (ama hk);rw[UH _ _ _ isMap_empty hn hm] at hv;obtain⟨s,rfl⟩:=Sj hv;rw[MH] at hv;simp only[Option.some.injEq,Prod.mk.injEq] at hv;rw[TM hv.1] at hrun;exact hrun
theorem nX.keys {w:World} {b:Nat} {l:QS} (h:nX w b l) (hn:(l.map (·.1)).Nodup):(l.map fun x=>((x.1:Nat):Int)).Perm (intKeys (uX l (.map []))):=by
 obtain⟨es,hD,hpw,_⟩:=World.ownsMap.entries h (int_keyed Tryz.underlying3);obtain⟨es',hD',hko⟩:=World.ownsMap.keysOf h;obtain rfl:es=es':=by rw[hD] at hD';simpa using hD'
 rw[hD];refine perm_intKeys hpw (fun p hp=>by obtain⟨v,hv⟩:=hko p hp;obtain⟨x,_,hx,_⟩:=Maps.keyOf_i64 Tryz.underlying3 hv;exact⟨x,hx⟩) ?_ ?_
 ·have:(l.map fun x=>((x.1:Nat):Int))=(l.map (·.1)).map (fun (n:Nat)=>(n:Int)):=by rw[List.map_map];rfl
  rw[this];exact List.Pairwise.map _ (fun a b (hab:a≠b) (e:(a:Int)=(b:Int))=>hab ω) hn
 ·intro x;rw[←hD,NQ _ _ isMap_empty];have:Maps.has (DataW.map []:DataW Unit) (.int .i64 x)=false:=rfl;rw[this,Bool.or_false,List.any_eq_true];simp only[List.mem_map,decide_eq_true_eq]
theorem nX.size {w:World} {b:Nat} {l:QS} (h:nX w b l) (hn:(l.map (·.1)).Nodup):Maps.size (uX l (.map []))=l.length:=by
 have hp:=(h.keys hn).length_eq;obtain⟨es,hD,_⟩:=World.ownsMap.entries h (int_keyed Tryz.underlying3);rw[hD] at hp ⊢;simp only[List.length_map,intKeys] at hp;exact hp.symm
end Go.Proofs.YtbhikkgpcmkonaaGreatDoor
namespace Go.Proofs.YtbhikkgpcmkonaaGreatDoor
open Go.RowKit Go.Maps Go.Sort Go.Shelf
theorem apl (m:Nat):AnyZI.SortsIn Tryz.prog Tryz.Kq Fence.wide m:=
 ⟨fun blk off cap ss W hH hblk hsz=>callsIn_wide.2 (AnyM.slices_Sort_int Tryz.acs blk off cap ss W hH hblk hsz),
  fun p cap W=>callsIn_wide.2 (AnyM.slices_Sort_int_none Tryz.acs p cap W)⟩
theorem aeG {g b:Nat} {l:QS} (w:World) (hQ:nX w b l) (hn:(l.map (·.1)).Nodup) (hl:l.length≤1000000) (hg:w.cell? ⟨g,0,none⟩=some (.map (some b))) :
 Calls Tryz.prog 100 #[.pointer (some ⟨g,0,none⟩)] w fun e w'=>∃(v:Value) (ss:List Int),e =.returned v∧ss.Perm (intKeys (uX l (.map [])))∧
  w'.ownsRow w.heap.size 3 1 v ss.length ((ss.mergeSort (fun x y=>decide (x≤y))).map encZ)∧(v =.slice none 0 0↔ss=[])∧Below w.heap.size w w':=by
 refine (callsIn_wide (n:=6)).1 ?_;have hbl:=hQ.lt;have azd:Maps.size (uX l (.map []))≤maxLen:=by rw[hQ.size hn];unfold maxLen;omega
 have hbytes:Maps.size (uX l (.map []))*8≤140737488355328:=by rw[hQ.size hn];omega
 have EJ:=World.block_lt_of_cell? w _ hg;simp only at EJ;have hseq:SeqGives Fence.wide 2 Tryz.prog 186 #[.pointer (some ⟨w.heap.size,0,none⟩)] encZ (fun ss=>ss.Perm (intKeys (uX l (.map [])))) (Maps.size (uX l (.map []))) (w.alloc (.cells #[.map (some b)] 139)):=
  AnyZI.keys_gives (ρ:=Tryz.SK) {Tryz.an4 with} Fence.wide _ trivial rfl ω w.heap.size b l.length (uX l (.map [])) _ σ σ (hQ.grows ((ah.refl w).alloc _))
 have cK:∀mb W,CallsIn Fence.wide 5 Tryz.prog 149 #[.map mb] W fun e w'=>e =.returned (.func (.func 186) #[] #[.pointer (some ⟨W.heap.size,0,none⟩)])∧w'=W.alloc (.cells #[.map mb] 139):=fun mb W=>AnyZI.keys_in Tryz.an4 Fence.wide 5 trivial rfl mb W
 have cS:=AnyZI.sorted_in Tryz.alP Fence.wide 5 trivial trivial trivial trivial rfl ω (apl _) (enters_of Tryz.func185 κ rfl) 186 #[.pointer (some ⟨w.heap.size,0,none⟩)] trivial (enters_of Tryz.func186 κ rfl) _ _ azd hbytes _ hseq;change CallsIn _ _ Tryz.prog 148 _ _ _ at cS
 have hfK:Fence.wide.fn 149:=trivial;have hfS:Fence.wide.fn 148:=trivial;refine callsIn_of_wp Tryz.func100 rfl trivial ?_ rfl;simp only[Tryz.ntmps100,List.size_toArray,List.length_cons,List.length_nil,Nat.reduceAdd,Nat.reduceSub,Array.replicate_succ,Array.replicate_zero,List.push_toArray,List.append_toArray,List.nil_append,List.cons_append];gi_wp2_with (first
  | (gi_at_call 149;refine (cK _ _).mono ?_;rintro e w' ⟨rfl,rfl⟩)
  | (gi_at_call 148;refine cS.mono ?_;rintro e w' ⟨v,ss,rfl,hS,hrow,hnil,hb⟩))
 go_ret;exact⟨v,ss,rfl,hS,ownsRow_base_a hrow σ,hnil,((Below.refl _ w).alloc (Nat.le_refl _) _).trans (hb.mono σ)⟩
end Go.Proofs.YtbhikkgpcmkonaaGreatDoor
namespace Go.Proofs.YtbhikkgpcmkonaaGreatDoor
open Go.RowKit Go.Maps Go.Sort Go.Shelf
theorem WX {ks:List Nat} (h:ks.Pairwise (· < ·)) {ss:List Int} (hp:ss.Perm (ks.map fun (n:Nat)=>(n:Int))):ss.mergeSort (fun x y=>decide (x≤y))=ks.map fun (n:Nat)=>(n:Int):=by
 have e:=mergeSort_of_perm_i hp;unfold leI at e;rw[e];refine List.mergeSort_of_pairwise ?_;refine List.Pairwise.map _ (fun a b (hab:a < b)=> ?_) h;simp only[decide_eq_true_eq];omega
theorem jq.nodup {l:List Nat} (h:l.Pairwise (· < ·)):l.Nodup:=h.imp fun hab e=>ω
theorem ait {g b:Nat} {l:QS} (w:World) (hQ:nX w b l) (hs:(l.map (·.1)).Pairwise (· < ·)) (hl:l.length≤1000000) (hg:w.cell? ⟨g,0,none⟩=some (.map (some b))) :
 Calls Tryz.prog 100 #[.pointer (some ⟨g,0,none⟩)] w fun e w'=>∃(v:Value),e =.returned v∧Own w' w.heap.size 3 1 encI v (l.map (·.1))∧ah w w':=by
 refine (aeG w hQ (jq.nodup hs) hl hg).mono ?_;rintro e w' ⟨v,ss,rfl,hS,hrow,-,hb⟩;have hp:ss.Perm ((l.map (·.1)).map fun (n:Nat)=>(n:Int)):=by
  rw[List.map_map];exact hS.trans (hQ.keys (jq.nodup hs)).symm
 have hlen:ss.length=(l.map (·.1)).length:=by rw[hp.length_eq,List.length_map]
 rw[WX hs hp,hlen] at hrow;refine⟨v,rfl,?_,hb⟩;have e:((l.map (·.1)).map fun (n:Nat)=>(n:Int)).map encZ=cu encI (l.map (·.1)):=by
  generalize l.map (·.1)=ks;induction ks with
  | nil=>rfl
  | cons a r ih=>
   simp only[List.map_cons,ih];rfl
 rw[e] at hrow;exact hrow
end Go.Proofs.YtbhikkgpcmkonaaGreatDoor
namespace Go.Proofs.YtbhikkgpcmkonaaGreatDoor
open Go.RowKit Go.Maps
abbrev QX:=List (Nat×xZ)
def UG (x:xZ):Raw:=⟨x.A.map fun a=>(a.block,a.off),x.m,x.k,x.s.f,x.s.t,x.s.l.lv,(x.s.l.c:Int)⟩
def lU (q:QX):QS:=q.map fun x=>(x.1,UG x.2)
def bF (q:QX) (last:Nat):oC:=⟨q.map fun x=>(x.1,x.2.s),last⟩
theorem wW (q:QX):(lU q).map (·.1)=q.map (·.1):=by unfold lU;rw[List.map_map];rfl
theorem Ny {w:World} {base:Nat} {x:xZ} (h:Own w base 213 3 qU (.slice x.A x.m x.k) x.s.wh):Uj (UG x)=LP x:=by
 rcases h.2 with⟨h1,_⟩ | ⟨g,cap,_,h1,_⟩
 ·simp only[Value.slice.injEq] at h1;unfold Uj UG LP Raw.ad;rw[h1.1];rfl
 ·simp only[Value.slice.injEq] at h1;unfold Uj UG LP Raw.ad;rw[h1.1];rfl
structure jd (w:World) (base g b:Nat) (q:QX) (last:Nat):Prop where
 blk:aF w g 141 #[.map (some b),.int .i64 (last:Int)]
 map:nX w b (lU q)
 asc:(q.map (·.1)).Pairwise (· < ·)
 le:∀x∈q,x.1≤last
 top:last≤1000000
 DX:∀x∈q,Own w base 213 3 qU (.slice x.2.A x.2.m x.2.k) x.2.s.wh
 ok:∀x∈q,x.2.s.l.ok∧x.2.m≤65536
theorem jd.grows {w w':World} {base g b:Nat} {q:QX} {last:Nat} (h:jd w base g b q last) (hg:ah w w'):jd w' base g b q last:=
 ⟨h.blk.grows hg,h.map.grows hg,h.asc,h.le,h.top,fun x hx=>(h.DX x hx).grows hg,h.ok⟩
theorem jd.look {w:World} {base g b:Nat} {q:QX} {last:Nat} (h:jd w base g b q last) {x:Nat×xZ} (hx:x∈q) :
 (Instr.lookup 139 (.map (some b)) (.int .i64 (x.1:Int)) false).run Tryz.prog w =.ok (LP x.2) w:=by
 rw[←Ny (h.DX x hx)];refine h.map.look (by rw[wW];exact jq.nodup h.asc) (List.mem_map.2 ⟨x,hx,rfl⟩) (by have:=h.le x hx;have:=h.top;omega)
structure Dc (w:World) (g b1 b2 b3 b4:Nat) (tO:fZ) (now:Int) (A:Option Addr) (m k:Nat):Prop where
 l:w.cell? ⟨b1,0,none⟩=some (.pointer (some ⟨g,0,none⟩))
 t0:w.cell? ⟨b2,0,none⟩=some (.int .i64 tO.lv)
 t1:w.cell? ⟨b2,1,none⟩=some (.int .u32 (tO.c:Int))
 n:w.cell? ⟨b3,0,none⟩=some (.int .i64 now)
 f:w.cell? ⟨b4,1,none⟩=some (.slice A m k)
theorem Dc.grows {w w':World} {g b1 b2 b3 b4:Nat} {tO:fZ} {now:Int} {A:Option Addr} {m k:Nat} (h:Dc w g b1 b2 b3 b4 tO now A m k) (hg:ah w w'):Dc w' g b1 b2 b3 b4 tO now A m k:=
 ⟨hg.cell h.l,hg.cell h.t0,hg.cell h.t1,hg.cell h.n,hg.cell h.f⟩
theorem aak {ft:List bK→cZ→Bool} {base g b last b1 b2 b3 b4:Nat} {q:QX} {tO:fZ} {now:Int} {A:Option Addr} {m k:Nat} {fs:List bK} {x:Nat×xZ} (w:World) (hL:jd w base g b q last) (hE:Dc w g b1 b2 b3 b4 tO now A m k) (mP:tO.ok)
 (hA:bW w 2 dW A m fs) (hm:m≤1000000) (hT:∀f∈fs,f.v.length≤1000000) (hx:x∈q) (XZ:∀y∈x.2.s.wh,lN ft y) :
 Calls Tryz.prog 101 #[.int .i64 (x.1:Int),.pointer (some ⟨b1,0,none⟩),.pointer (some ⟨b2,0,none⟩),.pointer (some ⟨b3,0,none⟩),.pointer (some ⟨b4,0,none⟩)] w fun e w'=>e =.returned (.bool (!tJ ft tO now fs x.2.s))∧ah w w':=by
 have hlk:=hL.look hx;have cF:=ζ (fun W=>vH x.2.s.l tO W (hL.ok x hx).1 mP);obtain⟨c',cap',hMe,-,-,hM⟩:=(hL.DX x hx).arr hkM;have cM:=ζ (fun W (hW:ah w W)=>Nc (c:=k) (c2:=x.2.k) W (hA.keep hW) ω (show bW W 3 qU x.2.A x.2.m x.2.s.wh by
  simp only[Value.slice.injEq] at hMe;rw[hMe.1,hMe.2.1];exact hM.keep hW) (by have:=(hL.ok x hx).2;omega) hT XZ)
 have g0:=hL.blk.cell 0;simp only[List.getElem?_toArray,List.getElem?_cons_zero] at g0;obtain⟨e1,e2,e3,e4,e5⟩:=hE;have l1:b1<w.heap.size:=World.block_lt_of_cell? w _ e1;have l2:b2<w.heap.size:=World.block_lt_of_cell? w _ e2;have l3:b3<w.heap.size:=World.block_lt_of_cell? w _ e4;have l4:b4<w.heap.size:=World.block_lt_of_cell? w _ e5;have lg:g < w.heap.size:=hL.blk.lt;obtain⟨R,hR⟩:∃R,R= !tJ ft tO now fs x.2.s:=⟨_,rfl⟩;rw[←hR];unfold tJ at hR;clear hL hMe hM hA hT hx XZ;obtain⟨n,⟨⟨wh,sf,st,⟨lv,lc⟩⟩,sA,sm,sk⟩⟩:=x;unfold LP at hlk;simp only at *
 generalize wh.all (ft fs)=AL at *
 generalize gy ⟨lv,lc⟩ tO=FL at *
 replace hR:=ζ hR;go_enter Tryz.func101,Tryz.ntmps101
 go_wp2_with fail;refine (cF.out _).mono ?_;rintro e w1 ⟨rfl,hb⟩;have hG:ah w w1:=((ah.refl w).alloc _).trans hb;have hS:=(aF.new w 159 #[.slice sA sm sk,.int .i64 sf,.int .i64 st,.int .i64 lv,.int .u32 (lc:Int)]).grows hb;have s0:=hS.c0;have s1:=hS.c1;have s2:=hS.c2;have sl:=hS.lt;replace e4:=hG.cell e4;replace e5:=hG.cell e5;replace l3:=Nat.lt_of_lt_of_le l3 hG.size;replace l4:=Nat.lt_of_lt_of_le l4 hG.size;clear hS hb cF hlk e1 e2 e3 g0 l1 l2 lg;cases FL with
 | false=>
  have Td:Hid (R=true):=ζ (by rw[hR.o];simp);go_wp2;go_ret;exact⟨by rw[Td.o];rfl,hG⟩
 | true=>
  by_cases h1:now<sf
  ·have Td:Hid (R=true):=ζ (by rw[hR.o];simp;omega);go_wp2;go_ret;exact⟨by rw[Td.o];rfl,hG⟩
  ·by_cases h2:st≤now
   ·have Td:Hid (R=true):=ζ (by rw[hR.o];simp;omega);go_wp2;go_ret;exact⟨by rw[Td.o];rfl,hG⟩
   ·have Td:Hid (R= !AL):=ζ (by rw[hR.o];simp[show sf≤now by omega,show now<st by omega]);go_wp2_with fail;refine (cM.out _ hG).mono ?_;rintro e w2 ⟨rfl,hb2⟩;cases AL
    ·go_wp2;go_ret;exact⟨by rw[Td.o];rfl,hG.trans hb2⟩
    ·go_wp2;go_ret;exact⟨aP (by rw[Td.o];simp[h1,h2]),hG.trans hb2⟩
end Go.Proofs.YtbhikkgpcmkonaaGreatDoor
namespace Go.Proofs.YtbhikkgpcmkonaaGreatDoor
open Go.RowKit
def ahd (n:Nat):Value:=.int .i64 (n:Int)
end Go.Proofs.YtbhikkgpcmkonaaGreatDoor
namespace Go.Proofs.YtbhikkgpcmkonaaGreatDoor
open Go.RowKit
theorem aiU (g:FuncId) (lb:Array Value) (eg:Enters Tryz.prog g) (p:Nat→Bool) (A:Option Addr) (m c:Nat) (l:List Nat) (w:World) (h:bW w 1 encI A m l) (hm:m≤9223372036854775807) (hp:xK Tryz.prog g lb ahd p l w) :
 Calls Tryz.prog 96 #[.slice A m c,.func (.func g) #[] lb] w fun e w'=>e =.returned (.int .i64 (placeOf p l))∧ah w w':=by
 have hlen:=h.1;unfold Enters at eg;obtain⟨R,hR⟩:∃R,R=placeOf p l:=⟨_,rfl⟩;rw[←hR];replace hR:=ζ hR;replace hp:=ζ hp;replace h:=ζ h;go_enter Tryz.func96,Tryz.ntmps96
 go_wp2;go_loopw [5,8] (fun _ i wr=>∃k:Nat,k≤m∧i =.int .i64 k∧Hid (∀j y,j < k→l[j]? = some y→p y = false)∧Hid (ah w wr)) (fun _ i _=>m - (intOf i).toNat)
 case atStart=>exact⟨0,ω,rfl,fun _ _ h=>absurd h ω,ah.refl _⟩
 case round=>
  obtain⟨k,hk,rfl,hall,hg⟩:=hrel;by_cases hlt:k<m
  ·obtain⟨b,off,x,rfl,_,hx,hcell⟩:=(h.o.keep hg.o).at_ hlt;have c0:wr.cell? ⟨b,off+k,none⟩=some (.int .i64 (x:Int)):=by simpa using hcell 0 _ rfl
   have kY:(k:Int)<(m:Int):=ω;have cI:=hp.o x (List.mem_of_getElem? hx) wr hg.o;unfold ahd at cI;cases hq:p x with
   | false=>
    rw[hq] at cI;replace cI:=ζ cI;have iY:=ζ (show ∀j y,j < k+1→l[j]? = some y→p y = false from fun j y hj hy=>by
     by_cases hjk:j = k
     ·subst hjk;rw[hx] at hy;rw[←Option.some.inj hy];exact hq
     ·exact hall.o j y ω hy)
    clear hcell hq hx hall hR;go_wp2_with fail;refine (cI.out).mono ?_;rintro e w1 ⟨rfl,hb⟩;have hg1:=ζ (hg.o.trans hb);go_wp2;go_roundw
    case rel=>exact⟨k+1,ω,ν,iY,hg1⟩
    case measure=>exact ψ
   | true=>
    rw[hq] at cI;have aQ:Hid (R=(k:Int)):=ζ (by rw[hR.o];exact iW hx hq hall.o);replace cI:=ζ cI;clear hcell hq hx hall hR;go_wp2_with fail;refine (cI.out).mono ?_;rintro e w1 ⟨rfl,hb⟩;have hg1:=ζ (hg.o.trans hb);go_wp2;go_ret;exact⟨by rw[aQ.o];rfl,hg1.o⟩
  ·obtain rfl:k=m:=ω;have aQ:Hid (R=-1):=ζ (by rw[hR.o];exact iC fun j y hy=>hall.o j y (by have:=(List.getElem?_eq_some_iff.1 hy).1;omega) hy);clear hall hR;go_wp2;go_ret;exact⟨by rw[aQ.o];rfl,hg.o⟩
theorem O1 (g:FuncId) (lb:Array Value) (eg:Enters Tryz.prog g) (p:Nat→Bool) (base:Nat) (v:Value) (ws:List Nat) (w:World) (h:Own w base 3 1 encI v ws) (hbase:base≤w.heap.size) (hm:ws.length≤65536) (hp:aoP Tryz.prog g lb ahd p base ws w) :
 Calls Tryz.prog 52 #[v,.func (.func g) #[] lb] w fun e w'=>∃v',e =.returned v'∧Own w' base 3 1 encI v' (ws.filter fun x=> !p x)∧Below base w w':=by
 obtain⟨A,c,rfl,aju,hcm,kC⟩:=h.arr Ig;have cI:=aiU (c:=c) g lb eg p A ws.length ws w kC ω (fun x hx W hW=>hp x hx W (hW.below.mono hbase));unfold Enters at eg;rcases zq p ws with⟨h1,h2⟩ | ⟨i0,x0,h1,h2,h3,h4⟩
 ·rw[h1] at cI;have hf:=lK h2;rw[hf];replace cI:=ζ cI;clear h1 h2 hf hp kC;go_enter Tryz.func52,Tryz.ntmps52
  go_wp2_with fail;refine cI.out.mono ?_;rintro e w1 ⟨rfl,hb⟩;go_wp2;go_ret;exact⟨_,rfl,h.grows hb,hb.below.mono hbase⟩
 ·rw[h1] at cI;have hS:=xI.start h2 h3 h4;have hi0:i0<ws.length:=(List.getElem?_eq_some_iff.1 h2).1;have ajo:∃gb,A=some ⟨gb,0,none⟩:=by
   rcases h.2 with⟨h5,h6⟩ | ⟨gb,_,_,h5,_⟩
   ·omega
   ·simp only[Value.slice.injEq] at h5;exact⟨gb,h5.1⟩
  obtain⟨gb,rfl⟩:=ajo;have hgb:base≤gb:=by obtain⟨_,_,hb,_⟩:=h.tu Ig;exact hb
  have hne:((i0:Int)==-1)=false:=by simp
  replace cI:=ζ cI;replace hp:=ζ hp;clear h1 h2 h3 h4 kC;go_enter Tryz.func52,Tryz.ntmps52
  go_wp2_with fail;refine cI.out.mono ?_;rintro e w1 ⟨rfl,hb⟩;obtain⟨n,hn⟩:∃n,n = ws.length:=⟨_,rfl⟩;rw[←hn] at h hm hi0 aju ⊢;replace hn:=ζ hn;unfold maxLen at hcm;go_wp2;go_loopw [5,6] (fun vi vj wr=>∃(i j:Nat) (ys:List Nat),vi=.int .i64 i∧vj=.int .i64 j∧i < j∧j≤n∧xI p ws ys i j∧Own wr base 3 1 encI (.slice (some ⟨gb,0,none⟩) n c) ys∧Below base w wr) (fun _ vj _=>n - (intOf vj).toNat)
  case atStart=>exact⟨i0,i0+1,ws,rfl,ν,ω,ω,hS,h.grows hb,hb.below.mono hbase⟩
  case round=>
   obtain⟨i,j,ys,rfl,rfl,hij,hjn,Zc,hown,hB⟩:=hrel;have hBs:=hB.size;by_cases hlt:j < n
   ·obtain⟨x,hx⟩:∃x,ws[j]? = some x:=⟨_,List.getElem?_eq_getElem (by rw[←hn.o];exact hlt)⟩;have wu:=List.mem_of_getElem? hx;have hy:=Zc.get hx;have hs1:=Zc.aoM hx;have hs2:=Zc.an6 hx;obtain⟨x',yN,hcell,_⟩:=hown.at_ Ig hlt;obtain rfl:x'=x:=Option.some.inj (yN.symm.trans hy);have c0:wr.cell? ⟨gb,j,none⟩=some (.int .i64 (x':Int)):=by simpa using hcell 0 _ rfl
    have EJ:gb<wr.heap.size:=World.block_lt_of_cell? wr ⟨gb,j,none⟩ c0;clear hcell yN hx hy;cases hq:p x'
    ·have hs:=hs2 hq;have cP:=fun W hW=>hp.o x' wu W hW
     unfold ahd at cP;rw[hq] at cP;replace cP:=ζ cP;clear hs1 hs2 hq;go_wp2_with fail;refine (cP.out _ (by
      repeat (first | assumption | exact Below.refl _ _ | apply Below.drew | apply below_drewN | (refine Below.Nb ?_ (by first | rfl | simp) (by first | omega | (simp;omega) | simp)) | (refine Below.alloc ?_ (by first | omega | (simp;omega) | simp) _) | (refine Below.setCell ?_ (by first | omega | (simp;omega) | simp) _))
     )).mono ?_
     rintro e w2 ⟨rfl,hb2⟩;have hown2:=hown.grows hb2;obtain⟨y,_,TK,aAV⟩:=hown2.at_ Ig (i:=i) ω;have d0:w2.cell? ⟨gb,i,none⟩=some (.int .i64 (y:Int)):=by simpa using TK 0 _ rfl
     obtain⟨hc2,hf2⟩:=bQ hb2;have aI:=hown2.bD Ig ω (i:=i) ω x';rw[Nat.mul_one] at aI;have Ih:i < n:=ω;have rZ:Below base w w2:=hB.trans (hb2.below.mono ω);replace aI:=ζ aI;clear TK hown2 hb2;go_wp2;go_roundw
     case rel=>exact⟨i + 1,j + 1,ys.set i x',ν,ν,ω,ω,hs,aI.o,Below.setCells hgb (encI x') i w2 rZ⟩
     case measure=>exact ψ
    ·have hs:=hs1 hq;have cP:=fun W hW=>hp.o x' wu W hW
     unfold ahd at cP;rw[hq] at cP;replace cP:=ζ cP;clear hs1 hs2 hq;go_wp2_with fail;refine (cP.out _ (by
      repeat (first | assumption | exact Below.refl _ _ | apply Below.drew | apply below_drewN | (refine Below.Nb ?_ (by first | rfl | simp) (by first | omega | (simp;omega) | simp)) | (refine Below.alloc ?_ (by first | omega | (simp;omega) | simp) _) | (refine Below.setCell ?_ (by first | omega | (simp;omega) | simp) _))
     )).mono ?_
     rintro e w2 ⟨rfl,hb2⟩;have hown2:=hown.grows hb2;have rZ:Below base w w2:=hB.trans (hb2.below.mono ω);go_wp2;go_roundw
     case rel=>exact⟨i,j + 1,ys,rfl,ν,ω,ω,hs,hown2,rZ⟩
     case measure=>exact ψ
   ·obtain rfl:j = n:=ω;have hf:ys.take i = ws.filter fun x=> !p x:=by
     have:=Zc.front;rwa [List.take_of_length_le (Nat.le_of_eq hn.o.symm)] at this
    have qB:=fun ty=>hown.R_ (P:=Tryz.prog) (t:=71) (ty:=ty) (c:=c - i) (z:=(0:Nat)) (zv:=.int .i64 0) Ig ω Xl Tryz.underlying71 (fun _=>by kernel_rfl) rfl hij
    obtain⟨zs,hz1,hz2⟩:=Own.clear_ Ig ω (0:Nat) (j - i) i _ _ hown ω;simp only[Nat.mul_one] at qB hz1;have aQ:Own (wr.setCells gb i (cu encI (List.replicate (j - i) (0:Nat)))) base 3 1 encI (.slice (some ⟨gb,0,none⟩) i c) (ws.filter fun x=> !p x):=by
     rw[←hf,←hz2];exact hz1.cut Ig ω ω
    have Wi:Below base w (wr.setCells gb i (cu encI (List.replicate (j - i) (0:Nat)))):=Below.setCells hgb _ _ _ hB;generalize wr.setCells gb i (cu encI (List.replicate (j - i) (0:Nat)))=w3 at qB aQ Wi;clear hz1 hz2 hf Zc hown hB h hp;go_wp2;go_ret;exact⟨_,rfl,aQ,Wi⟩
end Go.Proofs.YtbhikkgpcmkonaaGreatDoor
namespace Go.Proofs.YtbhikkgpcmkonaaGreatDoor
open Go.RowKit Go.Maps
def aap (ft:List bK→cZ→Bool) (tO:fZ) (now:Int) (fs:List bK) (q:QX) (n:Nat):Bool:=match q.find? fun x=>decide (x.1=n) with
 | some x=> !tJ ft tO now fs x.2.s
 | none=>true
theorem Yl {q:QX} (h:(q.map (·.1)).Pairwise (· < ·)) {x:Nat×xZ} (hx:x∈q):q.find? (fun y=>decide (y.1=x.1))=some x:=by
 induction q with
 | nil=>cases hx
 | cons a r ih=>
  rw[List.map_cons,List.pairwise_cons] at h;rcases List.mem_cons.1 hx with rfl | hx
  ·simp
  ·have hne:¬a.1=x.1:=by have:=h.1 x.1 (List.mem_map.2 ⟨x,hx,rfl⟩);omega
   rw[List.find?_cons_of_neg (by simpa using hne)];exact ih h.2 hx
theorem aep {ft:List bK→cZ→Bool} {tO:fZ} {now:Int} {fs:List bK} {q:QX} (h:(q.map (·.1)).Pairwise (· < ·)) {last:Nat} :
 (q.map (·.1)).filter (fun n=> !aap ft tO now fs q n)=((bF q last).l.filter fun x=>tJ ft tO now fs x.2).map (·.1):=by
 have h1:∀x∈q,(!aap ft tO now fs q x.1)=tJ ft tO now fs x.2.s:=fun x hx=>by unfold aap;rw[Yl h hx];simp
 unfold bF;simp only;rw[List.filter_map,List.filter_map,List.map_map];have:q.filter ((fun n=> !aap ft tO now fs q n)∘fun x=>x.1)=q.filter ((fun x=>tJ ft tO now fs x.2)∘fun x=>(x.1,x.2.s)):=List.filter_congr (fun x hx=>h1 x hx);rw[this];rfl
theorem aee {ft:List bK→cZ→Bool} {p:bU} {a:dA} {tO:fZ} {base g b last:Nat} {q:QX} {now:Int} (w:World) (hL:jd w base g b q last) (hp:p.At w) (ha:a.At w) (mP:tO.ok) (hT:∀f∈a.a.fs,f.v.length≤1000000) (V4:q.length≤60000)
 (XZ:∀x∈q,∀y∈x.2.s.wh,lN ft y) :
 Calls Tryz.prog 55 #[.pointer (some ⟨g,0,none⟩),p.val,je a,.agg #[.int .i64 tO.lv,.int .u32 (tO.c:Int)],.int .i64 now] w fun e w'=>∃v,e =.returned v∧Own w' w.heap.size 3 1 encI v (uV ft p.aU (bF q last) a.a tO now)∧ah w w':=by
 have cC:=ζ (fun W (hW:ah w W)=>Dq W (hp.keep hW) (ha.keep hW) mP);have hQS:uV ft p.aU (bF q last) a.a tO now=match iJ p.aU a.a tO with
  | none=>[]
  | some c=>((bF q last).l.filter fun x=>tJ ft tO now c.fs x.2).map (·.1):=rfl
 have Ov:∀c,iJ p.aU a.a tO=some c→(∀f∈c.fs,f.v.length≤1000000)∧c.fs.length≤1000:=fun c hc=>by
  have h1:=ha.arr.1;have h2:=ha.le;have h3:=mQ p.aU a.a.fs a.a.l tO;unfold iJ at hc;split at hc
  ·cases hc
  ·injection hc with hc
   subst hc;exact⟨fun f hf=>hT f (List.mem_filter.1 hf).1,by simp only;omega⟩
 generalize uV ft p.aU (bF q last) a.a tO now=QS at *
 generalize iJ p.aU a.a tO=CU at *
 clear hp ha hT;unfold je bU.val at *
 obtain⟨⟨sl,sA,sm,sk⟩,⟨rl,rA,rm,rk⟩,⟨el,eA,em,ek⟩,⟨al,aA,am,ak⟩,o,oA,om,ok,i,iA,im,ik⟩:=p;obtain⟨⟨src,fs,⟨lv,lc⟩,f,t⟩,A,m,k⟩:=a;simp only at cC ⊢;replace hL:=ζ hL;obtain⟨w0,hw0,xG,Vy,OD,Vw,hz0⟩:∃w0:World,w0=((((w.alloc (.cells #[.pointer (some ⟨g,0,none⟩)] 60)).alloc (.cells #[.slice sA sm sk,.slice rA rm rk,.slice eA em ek,.slice aA am ak,.slice oA om ok,.slice iA im ik] 50)).alloc (.cells #[.string ⟨src.toArray⟩,.slice A m k,.int .i64 lv,.int .u32 (lc:Int),.int .i64 f,.int .i64 t] 57)).alloc (.cells #[.int .i64 tO.lv,.int .u32 (tO.c:Int)] 25)).alloc (.cells #[.int .i64 now] 3)∧
  aF w0 w.heap.size 60 #[.pointer (some ⟨g,0,none⟩)]∧aF w0 (w.heap.size+1+1+1) 25 #[.int .i64 tO.lv,.int .u32 (tO.c:Int)]∧aF w0 (w.heap.size+1+1+1+1) 3 #[.int .i64 now]∧ah w w0∧w0.heap.size=w.heap.size+5:=by
  refine⟨_,rfl,((((aF.new w _ _).alloc _).alloc _).alloc _).alloc _,(aF.aaA w _ _ _ _ _).alloc _,?_,?_,by simp⟩
  ·have h:=aF.new ((((w.alloc (.cells #[.pointer (some ⟨g,0,none⟩)] 60)).alloc (.cells #[.slice sA sm sk,.slice rA rm rk,.slice eA em ek,.slice aA am ak,.slice oA om ok,.slice iA im ik] 50)).alloc (.cells #[.string ⟨src.toArray⟩,.slice A m k,.int .i64 lv,.int .u32 (lc:Int),.int .i64 f,.int .i64 t] 57)).alloc (.cells #[.int .i64 tO.lv,.int .u32 (tO.c:Int)] 25)) 3 #[.int .i64 now];rw[World.size_alloc,World.size_alloc,World.size_alloc,World.size_alloc] at h;exact h
  ·exact (((((ah.refl w).alloc _).alloc _).alloc _).alloc _).alloc _
 go_enter Tryz.func55,Tryz.ntmps55
 go_wp2_with fail;rw[←hw0];refine (cC.out _ Vw).mono ?_;rintro e w1 ⟨v,rfl,hcut,hb⟩;replace xG:=ζ (xG.grows hb);replace Vy:=ζ (Vy.grows hb);replace OD:=ζ (OD.grows hb);have fF:=ζ (Vw.trans hb);have hz1:=hb.size;have k1:=xG.o.c0;have kl:=xG.o.lt;replace hQS:=ζ hQS;clear hw0 hb Vw cC;cases CU with
 | none=>
  obtain rfl:v = jI:=hcut;unfold jI;simp only[Option.isSome_none];go_wp2;go_ret;refine⟨_,rfl,by rw[hQS.o];exact Own.iH _ _ _ _ _,?_⟩;have fF:=fF.o;exact Γ
 | some c=>
  obtain⟨cA,ck,rfl,hO⟩:=hcut;obtain⟨hcT,qB⟩:=Ov c rfl;unfold je;obtain⟨src',fs',⟨lv',lc'⟩,f',t'⟩:=c;have amW:=hQS.o;clear hQS;simp only[Option.isSome_some] at hO amW hcT qB ⊢;replace hcT:=ζ hcT;replace amW:=ζ amW;generalize Vu:fs'.length=L at *
  replace Vu:=ζ Vu;replace hO:=ζ hO;clear Ov;have yj:=ζ (aF.new w1 57 #[.string ⟨src'.toArray⟩,.slice cA L ck,.int .i64 lv',.int .u32 (lc':Int),.int .i64 f',.int .i64 t']);have hb2:=(ah.refl w1).alloc (.cells #[.string ⟨src'.toArray⟩,.slice cA L ck,.int .i64 lv',.int .u32 (lc':Int),.int .i64 f',.int .i64 t'] 57);go_wp2_with fail;generalize w1.alloc (.cells #[.string ⟨src'.toArray⟩,.slice cA L ck,.int .i64 lv',.int .u32 (lc':Int),.int .i64 f',.int .i64 t'] 57)=w2 at *
  generalize Bj:w1.heap.size=b6 at *
  replace xG:=ζ (xG.o.grows hb2);replace Vy:=ζ (Vy.o.grows hb2);replace OD:=ζ (OD.o.grows hb2);replace hO:=ζ (hO.o.grows hb2);have fQ:=ζ (fF.o.trans hb2);clear fF hb2 Bj k1 kl hz1;have hL2:=ζ (hL.o.grows fQ.o);have hg0:=hL2.o.blk.c0;have cN:=ζ (ait w2 hL2.o.map (by rw[wW];exact hL2.o.asc) (by unfold lU;rw[List.length_map];omega) hg0);rw[wW] at cN;refine cN.out.mono ?_;rintro e w3 ⟨vn,rfl,hN,hb3⟩;clear cN hg0;have aAw:Dc w2 g w.heap.size (w.heap.size+1+1+1) (w.heap.size+1+1+1+1) b6 tO now cA L ck:=⟨xG.o.cell 0,Vy.o.cell 0,Vy.o.cell 1,OD.o.cell 0,yj.o.cell 1⟩;obtain⟨A',c',hcv,-,-,hX⟩:=hO.o.arr IZ;rw[Vu.o] at hcv hX;simp only[Value.slice.injEq,true_and] at hcv;obtain⟨rfl,rfl⟩:=hcv;have cD:=ζ (O1 101 #[.pointer (some ⟨w.heap.size,0,none⟩),.pointer (some ⟨w.heap.size+1+1+1,0,none⟩),.pointer (some ⟨w.heap.size+1+1+1+1,0,none⟩),.pointer (some ⟨b6,0,none⟩)] (enters_of Tryz.func101 κ rfl) (aap ft tO now fs' q) w2.heap.size vn (q.map (·.1)) w3 hN hb3.size (by rw[List.length_map];omega) (fun n hn W hW=>by
   obtain⟨x,hx,rfl⟩:=List.mem_map.1 hn;have Zi:ah w2 W:=hb3.iw hW;have h:=aak (ft:=ft) W (hL2.o.grows Zi) (aAw.grows Zi) mP (hX.keep Zi) ω hcT.o hx (XZ x hx);have he:aap ft tO now fs' q x.1= !tJ ft tO now fs' x.2.s:=by unfold aap;rw[Yl hL2.o.asc hx]
   rw[he];exact h))
  rw[aep hL2.o.asc (last:=last)] at cD;have hz2:=fQ.o.size;go_wp2_with fail;refine cD.out.mono ?_;rintro e w4 ⟨v4,rfl,lq,hb4⟩;go_wp2;go_ret;exact⟨v4,rfl,by rw[amW.o];exact lq.bJ hz2,fQ.o.trans (hb3.iw hb4)⟩
end Go.Proofs.YtbhikkgpcmkonaaGreatDoor
namespace Go.Proofs.YtbhikkgpcmkonaaGreatDoor
open Go.RowKit Go.Maps Go.WideMaps
def H_ (q:QX) (left:Lit→Bool) (l:fZ):Nat:=(q.filter fun x=>left (.int .i64 (x.1:Int))&&decide (x.2.s.l = l)).length
theorem aeR {q:QX} {left:Lit→Bool} {l:fZ} (h:∀kl,left kl=false):H_ q left l = 0:=by
 unfold H_;rw[List.filter_eq_nil_iff.2 (fun x _=>by rw[h];simp)];rfl
theorem Xx {q:QX} {l:fZ} {last:Nat}:H_ q (Maps.has (uX (lU q) (.map []))) l = vS (bF q last) l:=by
 unfold H_ vS bF;simp only;rw[List.filter_map,List.length_map];congr 1
 refine List.filter_congr fun x hx=> ?_
 rw[NQ _ _ isMap_empty];have:(lU q).any (fun y=>decide ((y.1:Int)=(x.1:Int)))=true:=List.any_eq_true.2 ⟨(x.1,UG x.2),List.mem_map.2 ⟨x,hx,rfl⟩,by simp⟩;rw[this];rfl
theorem Kr (a b:Int):(Lit.int .i64 a).sameKey (.int .i64 b)=decide (a = b):=by simp[Lit.sameKey]
theorem Oa {l:fZ} {left:Lit→Bool}:∀{q:QX},(q.map (·.1)).Pairwise (· < ·)→∀{x:Nat×xZ},x∈q→left (.int .i64 (x.1:Int))=true→
 H_ q left l = H_ q (fun z=>left z && !z.sameKey (.int .i64 (x.1:Int))) l + (if x.2.s.l = l then 1 else 0)
 | a ::r,h,x,hx,hl=>by
  rw[List.map_cons,List.pairwise_cons] at h;unfold H_;rw[List.filter_cons,List.filter_cons];simp only[Kr];rcases List.mem_cons.1 hx with rfl | hx
  ·have hr:r.filter (fun y=>(left (.int .i64 (y.1:Int))&& !decide ((y.1:Int)=(x.1:Int)))&&decide (y.2.s.l = l))=r.filter (fun y=>left (.int .i64 (y.1:Int))&&decide (y.2.s.l = l)):=
    List.filter_congr fun y hy=>by
     have hne:¬(y.1:Int)=(x.1:Int):=by have:=h.1 y.1 (List.mem_map.2 ⟨y,hy,rfl⟩);omega
     simp[hne]
   rw[hr,hl];by_cases he:x.2.s.l = l <;> simp[he]
  ·have hne:¬(a.1:Int)=(x.1:Int):=by have:=h.1 x.1 (List.mem_map.2 ⟨x,hx,rfl⟩);omega
   have ih:=Oa (l:=l) (left:=left) h.2 hx hl;unfold H_ at ih;simp only[Kr] at ih;rw[decide_eq_false hne];simp only[Bool.not_false,Bool.and_true];split
   ·simp only[List.length_cons];omega
   ·exact ih
theorem nX.entry {q:QX} (hs:(q.map (·.1)).Pairwise (· < ·)) {n:Int} {c:Raw} (h:∀zd,(uX (lU q) (.map [])).atKey (.int .i64 n) zd=CP c):∃x∈q,(x.1:Int)=n∧UG x.2=c:=by
 by_cases he:∃x∈q,(x.1:Int)=n
 ·obtain⟨x,hx,rfl⟩:=he;refine⟨x,hx,rfl,?_⟩;have h1:=h .nil;have h2:(x.1,UG x.2)∈lU q:=List.mem_map.2 ⟨x,hx,rfl⟩;rw[UH _ _ _ isMap_empty (by rw[wW];exact jq.nodup hs) h2] at h1;exact TM h1
 ·have h1:=h .nil;rw[FH _ _ _ isMap_empty (fun y hy e=>he (by obtain⟨x,hx,rfl⟩:=List.mem_map.1 hy;exact⟨x,hx,e⟩))] at h1;exact absurd h1 (by unfold CP;intro e;cases e)
end Go.Proofs.YtbhikkgpcmkonaaGreatDoor
namespace Go.Proofs.YtbhikkgpcmkonaaGreatDoor
open Go.RowKit
theorem T_M:eX Tryz.prog 44 213 3 40:=eX.mk' (z:=.agg #[.string ⟨#[]⟩,.int .i64 0,.string ⟨#[]⟩]) Tryz.underlying44 κ rfl ω
theorem akw {A:Option Addr} {m c:Nat} {xs:List cZ} (w:World) (h:bW w 3 qU A m xs) (hm:m≤65536) :
 Calls Tryz.prog 105 #[.slice A m c] w fun e w'=>∃v,e =.returned v∧Own w' w.heap.size 213 3 qU v xs∧ah w w':=by
 have heq:=fun (w:World)=>Lib.run_eql_slice_nil (P:=Tryz.prog) w 44 213 A m c 0 0 Tryz.underlying44
 have hlen:=h.1;cases A with
 | none=>
  obtain⟨rfl,rfl⟩:=h.acF;clear hlen h;go_enter Tryz.func105,Tryz.ntmps105
  go_wp2;go_ret;exact⟨_,rfl,Own.iH _ _ _ _ _,ah.refl _⟩
 | some ad=>
  have hown:Own (w.alloc (.cells #[] 213)) w.heap.size 213 3 qU (.slice (some ⟨w.heap.size,0,none⟩) ([]:List cZ).length 0) []:=
   Own.mk_ (cur:= #[]) hkM ω (Nat.le_refl _) (heap_alloc_new w _) σ (by simp[maxLen]) σ (fun q hq=>by simp at hq)
  have kC:=h.keep ((ah.refl w).alloc (.cells #[] 213));replace hlen:=ζ hlen;clear h;go_enter Tryz.func105,Tryz.ntmps105
  go_wp2_with (at_builtin;refine nZ T_M rfl (.tmp 5) (.tmp 6) rfl hown rfl ad rfl kC hkM ayh σ (by simp;unfold maxLen;omega) (by simp;omega) (fun v1 w1 hown1 hgr hat=> ?_));have hb1:Below w.heap.size w w1:=Own.below hown ((Below.refl _ _).alloc (Nat.le_refl _) _) (Nat.le_refl _) σ hgr;clear hgr hat;go_wp2;go_ret;exact⟨v1,rfl,by simpa using hown1,hb1⟩
end Go.Proofs.YtbhikkgpcmkonaaGreatDoor
namespace Go.Proofs.YtbhikkgpcmkonaaGreatDoor
open Go.RowKit Go.Maps Go.WideMaps
structure nJ (S:Nat→Prop) (w w':World):Prop where
 os:w'.os=w.os
 tape:w'.tape=w.tape
 output:w'.output=w.output
 size:w.heap.size≤w'.heap.size
 block:∀k,k<w.heap.size→¬S k→w'.heap[k]? = w.heap[k]?
theorem nJ.refl (S:Nat→Prop) (w:World):nJ S w w:=⟨rfl,rfl,rfl,Nat.le_refl _,fun _ _ _=>rfl⟩
theorem nJ.trans {S:Nat→Prop} {a b c:World} (h:nJ S a b) (k:nJ S b c):nJ S a c:=
 ⟨k.os.trans h.os,k.tape.trans h.tape,k.output.trans h.output,Nat.le_trans h.size k.size,fun j hj hn=>(k.block j (Nat.lt_of_lt_of_le hj h.size) hn).trans (h.block j hj hn)⟩
theorem ah.off {a b:World} (h:ah a b) (S:Nat→Prop):nJ S a b:=⟨h.below.os,h.below.tape,h.below.output,h.size,fun k hk _=>h.below.block k hk⟩
theorem nJ.row {S:Nat→Prop} {a b:World} {row:Option Nat} (h:a.grownBy b row) (hr:∀k,row=some k→S k∨a.heap.size≤k):nJ S a b:=
 ⟨h.os,h.tape,h.output,h.size,fun k hk hn=>h.block k hk (fun e=>by rcases hr k e.symm with h1 | h1;exact hn h1;omega)⟩
theorem nJ.blk {S:Nat→Prop} {w w':World} {g:Nat} {t:TypeId} {cs:Array Value} (h:nJ S w w') (hb:aF w g t cs) (hn:¬S g):aF w' g t cs:=(h.block g hb.lt hn).trans hb
theorem nX.put {w:World} {b:Nat} {l:QS} (h:nX w b l) (hl:l.length<1000001) {k:Nat} (hk:k<4611686018427387904) (r:Raw) :
 ∃w',(Instr.mapUpdate 139 (.map (some b)) (.int .i64 (k:Int)) (Uj r)).run Tryz.prog w =.ok () w'∧nX w' b (l ++[(k,r)])∧w.grownBy w' (some b):=by
 obtain⟨w',h1,h2,h3⟩:=World.ownsMap.update h (int_keyed Tryz.underlying3) Tryz.underlying139 (by unfold maxLen;omega) (key:=.int .i64 (k:Int)) (kl:=.int .i64 (k:Int)) (ama hk) (MH r);refine⟨w',h1,?_,h3⟩;unfold nX;rw[aeg,List.length_append];exact h2
theorem jd.row {w w':World} {base g b:Nat} {q:QX} {last:Nat} {row:Option Nat} (h:jd w base g b q last) (hg:w.grownBy w' row) (h1:some g≠row) (h2:some b≠row) (h3:∀j,row=some j→∀x∈q,(Value.slice x.2.A x.2.m x.2.k).ownBlock≠some j):jd w' base g b q last:=
 ⟨h.blk.aO hg h1,h.map.kept hg h2,h.asc,h.le,h.top,fun x hx=>(h.DX x hx).kept' hg (fun j hj=>h3 j hj x hx),h.ok⟩
theorem adR (w:World) (base:Nat) :
 Calls Tryz.prog 15 #[] w fun e w'=>∃g b,e =.returned (.pointer (some ⟨g,0,none⟩))∧jd w' base g b [] 0∧w.heap.size≤g∧w.heap.size≤b∧g≠b∧ah w w':=by
 have hmm:= @run_makeMap Tryz.prog;go_enter Tryz.func15,Tryz.ntmps15
 go_wp2;go_ret;refine⟨w.heap.size+1,w.heap.size,rfl,⟨aF.kW w _ _ _,(nX.made w).grows ((ah.refl _).alloc _),List.Pairwise.nil,by simp,ω,by simp,by simp⟩,ω,ω,ω,?_⟩;exact Γ
end Go.Proofs.YtbhikkgpcmkonaaGreatDoor
namespace Go.Proofs.YtbhikkgpcmkonaaGreatDoor
open Go.RowKit
theorem akv {A:Option Addr} {m c:Nat} {xs:List Nat} (w:World) (h:bW w 1 kK A m xs) (hm:m≤65536) :
 Calls Tryz.prog 125 #[.slice A m c] w fun e w'=>∃v,e =.returned v∧Own w' w.heap.size 33 1 kK v xs∧ah w w':=by
 have heq:=fun (w:World)=>Lib.run_eql_slice_nil (P:=Tryz.prog) w 123 33 A m c 0 0 Tryz.underlying123
 have hlen:=h.1;cases A with
 | none=>
  obtain⟨rfl,rfl⟩:=h.acF;clear hlen h;go_enter Tryz.func125,Tryz.ntmps125
  go_wp2;go_ret;exact⟨_,rfl,Own.iH _ _ _ _ _,ah.refl _⟩
 | some ad=>
  have hown:Own (w.alloc (.cells #[] 33)) w.heap.size 33 1 kK (.slice (some ⟨w.heap.size,0,none⟩) ([]:List Nat).length 0) []:=
   Own.mk_ (cur:= #[]) Pz ω (Nat.le_refl _) (heap_alloc_new w _) σ (by simp[maxLen]) σ (fun q hq=>by simp at hq)
  have kC:=h.keep ((ah.refl w).alloc (.cells #[] 33));replace hlen:=ζ hlen;clear h;go_enter Tryz.func125,Tryz.ntmps125
  go_wp2_with (at_builtin;refine nZ akW rfl (.tmp 5) (.tmp 6) rfl hown rfl ad rfl kC Pz apu σ (by simp;unfold maxLen;omega) (by simp;omega) (fun v1 w1 hown1 hgr hat=> ?_));have hb1:Below w.heap.size w w1:=Own.below hown ((Below.refl _ _).alloc (Nat.le_refl _) _) (Nat.le_refl _) σ hgr;clear hgr hat;go_wp2;go_ret;exact⟨v1,rfl,by simpa using hown1,hb1⟩
theorem XF {A:Option Addr} {m c:Nat} {l:List Nat} (w:World) (hA:bW w 1 kK A m l) (hm:m≤1000000) (hs:jq l) :
 Calls Tryz.prog 200 #[.slice A m c,.int .i64 0,.int .i64 (m:Int)] w fun e w'=>e =.returned (.tuple #[])∧ah w w':=by
 have cL:=ζ (fun x y W=>Xw x y W);replace hA:=ζ hA;replace hs:=ζ hs;go_enter Tryz.func200,Tryz.ntmps200
 go_wp2;go_loopw [6,7] (fun i _ wr=>∃k:Nat,1≤k∧k≤m + 1∧i =.int .i64 (k:Int)∧Hid (ah w wr)) (fun i _ _=>m + 1-(intOf i).toNat)
 case atStart=>exact⟨1,ω,ω,rfl,ζ (ah.refl _)⟩
 case round=>
  obtain⟨k,hk1,hk,rfl,hG⟩:=hrel;by_cases hlt:k<m
  ·obtain⟨b,off,x,hAe,hb,hx,hc⟩:=(hA.o.keep hG.o).at_ hlt;obtain⟨b',kJ,y,abD,hb',hy,hc'⟩:=(hA.o.keep hG.o).at_ (i:=k-1) ω;rw[hAe] at abD;simp only[Option.some.injEq,Addr.mk.injEq,and_true] at abD;obtain⟨rfl,rfl⟩:=abD;have hyx:y < x:=hs.o.lt ω hy hx;have e0:wr.cell? ⟨b,off+k,none⟩=some (.int .u64 (x:Int)):=by simpa using hc 0 _ rfl
   have e1:wr.cell? ⟨b,off+(k-1),none⟩=some (.int .u64 (y:Int)):=by simpa using hc' 0 _ rfl
   have kY:(k:Int)<(m:Int):=ω;have h0k:(0:Int)<(k:Int):=ω;have h0n:0<k:=ω;have azq:((k:Int)-1).toNat=k-1:=ω;have azm:(k:Int)-1<(m:Int):=ω;have h1k:(1:Int)≤(k:Int):=ω;have hle:=decide_eq_false (show ¬x < y by omega);clear hc hc' hx hy;have hAz:=ζ hAe;go_wp2_with fail;go_loopw [7] (fun j wj=>j =.int .i64 (k:Int)∧Hid (ah w wj)∧wj.cell? ⟨b,off+k,none⟩=some (.int .u64 (x:Int))∧wj.cell? ⟨b,off+(k-1),none⟩=some (.int .u64 (y:Int))) (fun _ _=>0)
   case atStart=>exact⟨rfl,hG,e0,e1⟩
   case round=>
    clear e0 e1 hG;obtain⟨rfl,hG,e0,e1⟩:=hrel;have cX:=ζ (by have:=cL.out x y;rw[hle] at this;exact this);subst hAe;have hbl:b < wr.heap.size:=World.block_lt_of_cell? wr _ e0;go_wp2_with fail;refine dw (μ (.range 15) [13]) κ κ rfl κ π ?_;iterate 13 refine gK ?_
    refine jL rfl (fun K' hK=> ?_);go_simp;refine (cX.out _).mono ?_;rintro e w5 ⟨rfl,rfl⟩;refine hK.o _ _ ?_ (fun hS=> ?_)
    ·exact γ
    clear hK hS;iterate 1 refine gK ?_
    refine g_ ?_;go_wp2;go_roundw
    case rel=>exact⟨k+1,ω,ω,ν,ζ (by
     have:=hG.o;exact this.trans γ)⟩
    case measure=>exact ψ
  ·have kY:¬(k:Int)<(m:Int):=ω;go_wp2;go_end0;exact⟨rfl,hG.o⟩
end Go.Proofs.YtbhikkgpcmkonaaGreatDoor
namespace Go.Proofs.YtbhikkgpcmkonaaGreatDoor
open Go.RowKit
theorem alQ {n:Nat} (h:n≤12):n = 0∨n = 1∨n = 2∨n = 3∨n = 4∨n = 5∨n = 6∨n = 7∨n = 8∨n = 9∨n = 10∨n = 11∨n = 12:=ω
theorem aeQ {n:Nat} (hn:n≤12) (w:World):Calls Tryz.prog 209 #[.int .u64 (n:Int)] w fun e w'=>∃v,e =.returned (.int .i64 v)∧w'=w:=by
 rcases alQ hn with rfl | rfl | rfl | rfl | rfl | rfl | rfl | rfl | rfl | rfl | rfl | rfl | rfl
 all_goals
  go_enter Tryz.func209,Tryz.ntmps209
  go_wp2;go_ret;exact⟨_,rfl,rfl⟩
theorem al7 {n:Nat} (hn:n≤12) (w:World):Calls Tryz.prog 167 #[.int .u64 (n:Int)] w fun e w'=>∃v,e =.returned (.int .i64 v)∧w'=w:=by
 have cL:=ζ (fun W=>aeQ hn W);go_enter Tryz.func167,Tryz.ntmps167
 go_wp2_with fail;refine (cL.out _).mono ?_;rintro e w1 ⟨v,rfl,rfl⟩;go_wp2;go_ret;exact⟨_,rfl,rfl⟩
theorem alX {A:Option Addr} {m c:Nat} {l:List Nat} {d:Int} (w:World) (hA:bW w 1 kK A m l) (hm:m≤12) (hs:jq l) :
 Calls Tryz.prog 166 #[.slice A m c,.int .i64 0,.int .i64 (m:Int),.int .i64 d] w fun e w'=>e =.returned (.tuple #[])∧ah w w':=by
 have cI:=ζ (XF (c:=c) w hA ω hs);have hmi:(m:Int)≤12:=ω;clear hA hs hm;go_enter Tryz.func166,Tryz.ntmps166
 go_wp2;go_loopw [1,2] (fun a b wr=>a =.int .i64 0∧b =.int .i64 (m:Int)∧wr=w) (fun _ _ _=>0)
 case atStart=>exact⟨rfl,rfl,rfl⟩
 case round=>
  obtain⟨rfl,rfl,rfl⟩:=hrel;go_wp2_with fail;refine cI.out.mono ?_;rintro e w1 ⟨rfl,hb⟩;go_wp2;refine bodyPost_ret (results_none rfl _ _ _) rfl ?_;exact⟨rfl,hb⟩
theorem adO {A:Option Addr} {m c:Nat} {l:List Nat} (w:World) (hA:bW w 1 kK A m l) (hm:m≤12) (hs:jq l) :
 Calls Tryz.prog 126 #[.slice A m c] w fun e w'=>e =.returned (.tuple #[])∧ah w w':=by
 have cL:=ζ (fun W=>al7 hm W);have cP:=ζ (fun d W (hW:ah w W)=>alX (c:=c) (d:=d) W (hA.keep hW) hm hs);have hu:Hid (IntKind.u64.wrap (m:Int)=(m:Int)):=ζ (by simp[IntKind.wrap,IntKind.bits,IntKind.signed];omega);have hmi:(m:Int)≤12:=ω;clear hA hs hm;go_enter Tryz.func126,Tryz.ntmps126
 go_wp2_with fail;try rw[hu.o]
 refine (cL.out _).mono ?_;rintro e w1 ⟨v,rfl,rfl⟩;go_wp2_with fail;refine (cP.out _ _ (ah.refl _)).mono ?_;rintro e w2 ⟨rfl,hb⟩;go_wp2;go_end0;exact⟨rfl,hb⟩
theorem af6 {A:Option Addr} {m c:Nat} {l:List Nat} (w:World) (hA:bW w 1 kK A m l) (hm:m≤1000000) (hs:jq l) :
 Calls Tryz.prog 127 #[.slice A m c] w fun e w'=>e =.returned (.slice A m c)∧ah w w':=by
 replace hA:=ζ hA;replace hs:=ζ hs;by_cases h2:m < 2
 ·have h2i:(m:Int)<2:=ω;go_enter Tryz.func127,Tryz.ntmps127
  go_wp2;go_ret;exact⟨rfl,ah.refl _⟩
 ·have h2i:¬(m:Int)<2:=ω;go_enter Tryz.func127,Tryz.ntmps127
  go_wp2;go_loopw [3] (fun i wr=>∃k:Nat,1≤k∧k≤m∧i =.int .i64 (k:Int)∧Hid (ah w wr)) (fun i _=>m - (intOf i).toNat)
  case atStart=>exact⟨1,ω,ω,rfl,ζ (ah.refl _)⟩
  case round=>
   obtain⟨k,hk1,hk,rfl,hG⟩:=hrel;by_cases hlt:k<m
   ·obtain⟨b,off,x,hAe,hb,hx,hc⟩:=(hA.o.keep hG.o).at_ hlt;obtain⟨b',kJ,y,abD,hb',hy,hc'⟩:=(hA.o.keep hG.o).at_ (i:=k-1) ω;rw[hAe] at abD;simp only[Option.some.injEq,Addr.mk.injEq,and_true] at abD;obtain⟨rfl,rfl⟩:=abD;have hyx:y < x:=hs.o.lt ω hy hx;have e0:wr.cell? ⟨b,off+k,none⟩=some (.int .u64 (x:Int)):=by simpa using hc 0 _ rfl
    have e1:wr.cell? ⟨b,off+(k-1),none⟩=some (.int .u64 (y:Int)):=by simpa using hc' 0 _ rfl
    have kY:(k:Int)<(m:Int):=ω;have azq:((k:Int)-1).toNat=k-1:=ω;have azm:(k:Int)-1<(m:Int):=ω;have h1k:(1:Int)≤(k:Int):=ω;have hne:((x:Int)==(y:Int))=false:=by rw[beq_eq_false_iff_ne];omega
    subst hAe;clear hc hc' hx hy hyx;go_wp2_with fail;refine dw (μ (.range 10) []) κ κ rfl κ π ?_;iterate 10 refine gK ?_
    refine g_ ?_;go_wp2;go_roundw
    case rel=>exact⟨k+1,ω,ω,ν,ζ (hG.o.trans γ)⟩
    case measure=>exact ψ
   ·have kY:¬(k:Int)<(m:Int):=ω;go_wp2;go_ret;exact⟨rfl,hG.o⟩
theorem akc (A B:Option Addr) (m c m' c':Nat) (xs ys:List Nat) (w:World) (h:bW w 1 kK A m xs) (h':bW w 1 kK B m' ys) (hm:m≤maxLen) (hm':m'≤maxLen) :
 Calls Tryz.prog 165 #[.slice A m c,.slice B m' c'] w fun e w'=>e =.returned (.bool (decide (xs=ys)))∧ah w w':=by
 unfold maxLen at hm hm';obtain⟨R,hR⟩:∃R,R=decide (xs=ys):=⟨_,rfl⟩;rw[←hR];replace hR:=ζ hR;have hl:=h.1;have hl':=h'.1;by_cases hne:m = m'
 ·subst hne;have Za:((m:Int) != (m:Int))=false:=by simp
  replace h:=ζ h;replace h':=ζ h';have hall:(∀i x y,xs[i]? = some x→ys[i]? = some y→x = y)→decide (xs=ys)=true:=fun hh=>by
   rw[decide_eq_true_iff];apply List.ext_getElem?;intro i;rcases Nat.lt_or_ge i m with hi | hi
   ·rw[List.getElem?_eq_getElem ω,List.getElem?_eq_getElem ω];rw[hh i xs[i] ys[i] (List.getElem?_eq_getElem ω) (List.getElem?_eq_getElem ω)]
   ·rw[List.getElem?_eq_none ω,List.getElem?_eq_none ω]
  replace hall:=ζ hall;replace hl:=ζ hl;replace hl':=ζ hl';go_enter Tryz.func165,Tryz.ntmps165
  go_wp2;go_loopw [13] (fun i wr=>∃k:Nat,k≤m∧i =.int .i64 (k:Int)∧Hid (∀i x y,i < k→xs[i]? = some x→ys[i]? = some y→x = y)∧Hid (ah w wr)) (fun i _=>m - (intOf i).toNat)
  case atStart=>exact⟨0,ω,rfl,ζ (fun i x y hi=>absurd hi ω),ζ (ah.refl _)⟩
  case round=>
   obtain⟨k,hk,rfl,Ae,hG⟩:=hrel;by_cases hlt:k<m
   ·obtain⟨b,off,x,rfl,hb,hx,hc⟩:=(h.o.keep hG.o).at_ hlt;obtain⟨b',kJ,y,rfl,hb',hy,hc'⟩:=(h'.o.keep hG.o).at_ hlt;have e0:wr.cell? ⟨b,off+k,none⟩=some (.int .u64 (x:Int)):=by simpa using hc 0 _ rfl
    have e1:wr.cell? ⟨b',kJ+k,none⟩=some (.int .u64 (y:Int)):=by simpa using hc' 0 _ rfl
    have kY:(k:Int)<(m:Int):=ω;by_cases hxy:x = y
    ·have hne:((x:Int) != (y:Int))=false:=by rw[bne_eq_false_iff_eq,hxy]
     have AV:=ζ (show ∀i a b,i < k+1→xs[i]? = some a→ys[i]? = some b→a = b from fun i a b hi ha hb=>by
      rcases Nat.lt_or_ge i k with h3 | h3
      ·exact Ae.o i a b h3 ha hb
      ·have:i = k:=ω;subst this;rw[hx] at ha;rw[hy] at hb;injection ha with ha;injection hb with hb
       rw[←ha,←hb];exact hxy)
     clear hc hc' hx hy hxy Ae;go_wp2_with fail;refine dw (μ (.range 9) []) κ κ rfl κ π ?_;iterate 9 refine gK ?_
     refine g_ ?_;go_wp2;go_roundw
     case rel=>exact⟨k+1,ω,ν,AV,ζ (hG.o.trans γ)⟩
     case measure=>exact ψ
    ·have hne:((x:Int) != (y:Int))=true:=by rw[bne_iff_ne];omega
     have hf:decide (xs=ys)=false:=by
      rw[decide_eq_false_iff_not];intro he;rw[he,hy] at hx;injection hx with hx
      exact hxy hx.symm
     have uh:Hid (R=false):=ζ (hR.o.trans hf);clear hc hc' hx hy hxy Ae hf;go_wp2_with fail;refine dw (μ (.range 9) []) κ κ rfl κ π ?_;iterate 9 refine gK ?_
     refine g_ ?_;go_wp2;go_ret;exact⟨by rw[uh.o];rfl,hG.o.trans γ⟩
   ·have kY:¬(k:Int)<(m:Int):=ω;have Td:Hid (R=true):=ζ (hR.o.trans (hall.o (fun i x y hx hy=>Ae.o i x y (by have:=(List.getElem?_eq_some_iff.1 hx).1;have:=hl.o;omega) hx hy)));go_wp2;go_ret;exact⟨by rw[Td.o];rfl,hG.o⟩
 ·have Za:((m:Int) != (m':Int))=true:=by rw[bne_iff_ne];omega
  have hf:decide (xs=ys)=false:=by
   rw[decide_eq_false_iff_not];intro he;rw[he] at hl;omega
  have uh:Hid (R=false):=ζ (hR.o.trans hf);clear h h' hl hl' hf;go_enter Tryz.func165,Tryz.ntmps165
  go_wp2;go_ret;exact⟨by rw[uh.o];rfl,ah.refl _⟩
theorem Yx {A:Option Addr} {m c:Nat} {l:List Nat} (w:World) (hA:bW w 1 kK A m l) (hm:m≤12) (hs:jq l) :
 Calls Tryz.prog 79 #[.slice A m c] w fun e w'=>∃v,e =.returned v∧Own w' w.heap.size 33 1 kK v l∧ah w w':=by
 have cC:=ζ (akv (c:=c) w hA ω);have cS:=ζ (fun W (A:Option Addr) (m c:Nat) (h:bW W 1 kK A m l) (hm:m≤12)=>adO (c:=c) W h hm hs);have cK:=ζ (fun W (A:Option Addr) (m c:Nat) (h:bW W 1 kK A m l) (hm:m≤1000000)=>af6 (c:=c) W h hm hs);have lJ:=ζ hA.1;clear hA hs;go_enter Tryz.func79,Tryz.ntmps79
 go_wp2_with fail;refine cC.out.mono ?_;rintro e w1 ⟨v1,rfl,wH,hb1⟩;obtain⟨A1,c1,rfl,Y9,hc1,AZ⟩:=wH.arr Pz;replace wH:=ζ wH;replace AZ:=ζ AZ;go_wp2_with fail;refine (cS.out _ _ _ _ AZ.o (by have:=lJ.o;omega)).mono ?_;rintro e w2 ⟨rfl,hb2⟩;go_wp2_with fail;refine (cK.out _ _ _ _ (AZ.o.keep hb2) (by have:=lJ.o;omega)).mono ?_;rintro e w3 ⟨rfl,hb3⟩;go_wp2;go_ret;exact⟨_,rfl,(wH.o.grows (hb2.trans hb3)),hb1.trans (hb2.trans hb3)⟩
end Go.Proofs.YtbhikkgpcmkonaaGreatDoor
namespace Go.Proofs.YtbhikkgpcmkonaaGreatDoor
open Go.RowKit
def O8 (c:Uc) (v:Value):Array Value:= #[.int .i64 c.wait,.int .i64 c.every,.int .i64 c.again,.int .i64 c.first,.int .i64 c.last,.int .i64 c.now,v]
structure wo (w:World) (base g:Nat) (c:Uc) (v:Value):Prop where
 blk:aF w g 180 (O8 c v)
 told:Own w base 33 1 kK v c.told
 ok:Y3 c
 VX:jq c.told
 len:c.told.length≤12
theorem wo.grows {w w':World} {base g:Nat} {c:Uc} {v:Value} (h:wo w base g c v) (hg:ah w w'):wo w' base g c v:=⟨h.blk.grows hg,h.told.grows hg,h.ok,h.VX,h.len⟩
theorem ajY {base g:Nat} {c:Uc} {v:Value} {A:Option Addr} {m k:Nat} {ids:List Nat} {now:Int} (w:World) (hC:wo w base g c v) (hA:bW w 1 kK A m ids) (hm:m≤12) (hs:jq ids) (h0:0≤now) (h1:now≤fC) :
 Calls Tryz.prog 124 #[.pointer (some ⟨g,0,none⟩),.int .i64 now,.slice A m k] w fun e w'=>e =.returned (.int .i64 (Tv c now ids))∧ah w w':=by
 have cS:=ζ (fun W (hW:ah w W)=>Yx (c:=k) W (hA.keep hW) hm hs);obtain⟨vA,vc,rfl,hvl,hvc,hV⟩:=hC.told.arr Pz;have cE:=ζ (fun W (hW:ah w W) A1 c1 (h:bW W 1 kK A1 ids.length ids)=>akc A1 vA ids.length c1 c.told.length vc ids c.told W h (hV.keep hW) (by have:=hA.1;unfold maxLen;omega) (by have:=hC.len;unfold maxLen;omega));obtain⟨R,hR⟩:∃R,R=Tv c now ids:=⟨_,rfl⟩;rw[←hR];have hB:=hC.blk;obtain⟨o1,o2,o3,o4,o5,o6,o7,o8,o9,o10,o11,o12⟩:=hC.ok;have EJ:=hB.lt;unfold O8 at hB;have b0:=hB.c0;have b1:=hB.c1;have b2:=hB.c2;have b3:=hB.c3;have b4:=hB.c4;have b6:=hB.c6;clear hC hB hV hA hs hvl hvc hm;unfold Tv avT at hR;unfold fC at h1 o8 o10 o12;obtain⟨wt,ev,ag,fi,la,nw,tO⟩:=c;simp only at *
 generalize hD:decide (ids=tO)=D at *
 have jr:R=max (if la=-1 then (if fi=-1 then now+wt else fi+wt) else max (if fi=-1 then now+wt else fi+wt) (la+if D=true then ag else ev)) now:=by
  rw[hR];cases D with
  | true=>rw[decide_eq_true_iff] at hD;rw[if_pos hD];rfl
  | false=>rw[decide_eq_false_iff_not] at hD;rw[if_neg hD];rfl
 replace jr:=ζ jr;clear hR hD;obtain⟨F,hF⟩:∃F,(fi !=-1)=F:=⟨_,rfl⟩;obtain⟨E,hE⟩:∃E,(la !=-1)=E:=⟨_,rfl⟩;cases F
 ·cases E <;> cases D
  all_goals
   go_enter Tryz.func124,Tryz.ntmps124
   go_wp2_with fail;refine dw [(0,true),(2,true),(3,true),(4,true),(5,true),(1,false),(6,false)] κ κ rfl κ π ?_;iterate 5 refine gK ?_
   refine jL rfl (fun K' hK=> ?_);go_simp;refine (cS.out _ γ).mono ?_;rintro e w5 ⟨v5,rfl,lZ,fM⟩;obtain⟨A5,c5,rfl,hl5,hc5,hX5⟩:=lZ.arr Pz;clear lZ;refine hK.o _ _ ?_ (fun hS=> ?_)
   ·exact γ
   clear hK hS;refine jL rfl (fun K' hK=> ?_);go_simp;refine (cE.out _ γ _ _ hX5).mono ?_;rintro e w6 ⟨rfl,Bj⟩;refine hK.o _ _ ?_ (fun hS=> ?_)
   ·exact γ
   clear hK hS;refine g_ ?_;have EN:Hid (ah w w6):=ζ γ;replace b0:=EN.o.cell b0;replace b1:=EN.o.cell b1;replace b2:=EN.o.cell b2;replace b3:=EN.o.cell b3;replace b4:=EN.o.cell b4;have azx:=Nat.lt_of_lt_of_le EJ EN.o.size;clear fM Bj hX5 cS cE b6 EJ hl5 hc5;go_wp2;go_ret;refine⟨og ?_,EN.o⟩;rw[jr.o];simp only[bne_iff_ne,bne_eq_false_iff_eq,ne_eq] at hF hE;first | (simp[hF,hE];done) | (simp[hF,hE];omega)
 ·cases E <;> cases D
  all_goals
   go_enter Tryz.func124,Tryz.ntmps124
   go_wp2_with fail;refine dw (μ (.range 10) []) κ κ rfl κ π ?_;iterate 10 refine gK ?_
   refine g_ ?_;have h7:ah w w.drew:=(ah.refl w).drew;replace b0:=h7.cell b0;replace b1:=h7.cell b1;replace b2:=h7.cell b2;replace b3:=h7.cell b3;replace b4:=h7.cell b4;replace b6:=h7.cell b6;replace EJ:=Nat.lt_of_lt_of_le EJ h7.size;generalize w.drew=w7 at *
   replace h7:=ζ h7;go_wp2_with fail;refine dw [(0,true),(2,true),(3,true),(4,true),(5,true),(1,false),(6,false)] κ κ rfl κ π ?_;iterate 5 refine gK ?_
   refine jL rfl (fun K' hK=> ?_);go_simp;refine (cS.out _ (h7.o.trans γ)).mono ?_;rintro e w5 ⟨v5,rfl,lZ,fM⟩;obtain⟨A5,c5,rfl,hl5,hc5,hX5⟩:=lZ.arr Pz;clear lZ;refine hK.o _ _ ?_ (fun hS=> ?_)
   ·exact γ
   clear hK hS;refine jL rfl (fun K' hK=> ?_);go_simp;refine (cE.out _ (h7.o.trans γ) _ _ hX5).mono ?_;rintro e w6 ⟨rfl,Bj⟩;refine hK.o _ _ ?_ (fun hS=> ?_)
   ·exact γ
   clear hK hS;refine g_ ?_;have h76:ah w7 w6:=by
    exact γ
   have EN:Hid (ah w w6):=ζ (h7.o.trans h76);replace b0:=h76.cell b0;replace b1:=h76.cell b1;replace b2:=h76.cell b2;replace b3:=h76.cell b3;replace b4:=h76.cell b4;have azx:=Nat.lt_of_lt_of_le EJ h76.size;clear fM Bj hX5 cS cE b6 EJ hl5 hc5;go_wp2;go_ret;refine⟨og ?_,EN.o⟩;rw[jr.o];simp only[bne_iff_ne,bne_eq_false_iff_eq,ne_eq] at hF hE;first | (simp[hF,hE];done) | (simp[hF,hE];omega)
end Go.Proofs.YtbhikkgpcmkonaaGreatDoor
namespace Go.Proofs.YtbhikkgpcmkonaaGreatDoor
open Go.RowKit
theorem ank {base g:Nat} {c:Uc} {v:Value} {A:Option Addr} {m k:Nat} {ids:List Nat} {now:Int} (w:World) (hC:wo w base g c v) (hA:bW w 1 kK A m ids) (hm:m≤12) (hs:jq ids) (h0:0≤now) (h1:now≤fC) (hn:c.now≤now) :
 Calls Tryz.prog 78 #[.pointer (some ⟨g,0,none⟩),.int .i64 now,.slice A m k] w fun e w'=>e =.returned (.bool (CJ c now ids))∧ah w w':=by
 have cF:=ζ (ajY (k:=k) w hC hA hm hs h0 h1);have hB:=hC.blk;unfold O8 at hB;have b5:=hB.c5;have EJ:=hB.lt;have lJ:=hA.1;obtain⟨R,hR⟩:∃R,R=CJ c now ids:=⟨_,rfl⟩;rw[←hR];unfold CJ at hR;have hmn:min (max now c.now) 1099511627776=now:=by unfold fC at h1;omega
 have h1':now≤1099511627776:=h1;by_cases Bg:m = 0
 ·have jr:Hid (R=false):=ζ (by
   rw[hR];have:ids=[]:=List.eq_nil_of_length_eq_zero ω;simp[this])
  have hz:((m:Int)==0)=true:=by rw[beq_iff_eq];omega
  clear hC hA hB hR lJ hs cF;go_enter Tryz.func78,Tryz.ntmps78
  go_wp2;go_ret;exact⟨by rw[jr.o];rfl,ah.refl _⟩
 ·have jr:Hid (R=decide (Tv c now ids≤now)):=ζ (by
   rw[hR];have:ids≠[]:=fun h=>Bg (by rw[←lJ,h];rfl)
   simp[this])
  have hz:((m:Int)==0)=false:=by rw[beq_eq_false_iff_ne];omega
  clear hC hA hB hR lJ hs;generalize Tv c now ids=X at *
  generalize c.now=cn at *
  go_enter Tryz.func78,Tryz.ntmps78
  go_wp2_with fail;try rw[hmn]
  refine cF.out.mono ?_;rintro e w1 ⟨rfl,hb⟩;go_wp2;go_ret;exact⟨by rw[jr.o];rfl,hb⟩
end Go.Proofs.YtbhikkgpcmkonaaGreatDoor
