/- Parts: Shelf4 PatU PatW PatX PatY PatZ -/
import Derived.Shelf.SortM.Plain
import Derived.Shelf.SortM.SortNone
import Derived.Test.YtfoffneipdkdjaaGreatDoorProg
import Derived.Test.YtfoffneipdkdjaaGreatDoorBs18
import Derived.Test.YtfoffneipdkdjaaGreatDoorBs5
import Derived.Test.YtfoffneipdkdjaaGreatDoorBs15
import Derived.Test.YtfoffneipdkdjaaGreatDoorBs6
namespace Go.Proofs
open Go.Shelf
def Tryz.sortI_ren : Go.Shelf.Ren := ⟨fun | 5 => 176 | 8 => 185 | 7 => 184 | 19 => 201 | 20 => 166 | 10 => 192 | 11 => 193 | 12 => 194 | 13 => 195 | 14 => 196 | 15 => 197 | 16 => 198 | 17 => 199 | 18 => 200 | 30 => 204 | 31 => 205 | 32 => 206 | 33 => 207 | 34 => 208 | 35 => 209 | 40 => 211 | n => n, fun | 23 => 53 | 25 => 3 | 3 => 3 | 32 => 116 | 22 => 53 | 0 => 0 | 44 => 38 | 46 => 25 | 4 => 4 | 36 => 248 | 35 => 247 | 41 => 93 | 5 => 5 | 9 => 9 | 53 => 254 | 57 => 258 | 63 => 260 | 64 => 261 | n => n, fun | n => n⟩
theorem Tryz.sortI : Go.Proofs.SlLaysM.n5 Tryz.prog Tryz.sortI_ren := {
  mixed := by kernel_rfl
  f5 := ⟨Tryz.f176.name, by decide, Tryz.func176.trans (congrArg some (by kernel_rfl))⟩
  f7 := ⟨Tryz.f184.name, by decide, Tryz.func184.trans (congrArg some (by kernel_rfl))⟩
  f8 := Tryz.func185.trans (congrArg some (by kernel_rfl))
  f10 := ⟨Tryz.f192.name, by decide, Tryz.func192.trans (congrArg some (by kernel_rfl))⟩
  f11 := ⟨Tryz.f193.name, by decide, Tryz.func193.trans (congrArg some (by kernel_rfl))⟩
  f12 := ⟨Tryz.f194.name, by decide, Tryz.func194.trans (congrArg some (by kernel_rfl))⟩
  f13 := ⟨Tryz.f195.name, by decide, Tryz.func195.trans (congrArg some (by kernel_rfl))⟩
  f14 := ⟨Tryz.f196.name, by decide, Tryz.func196.trans (congrArg some (by kernel_rfl))⟩
  f15 := ⟨Tryz.f197.name, by decide, Tryz.func197.trans (congrArg some (by kernel_rfl))⟩
  f16 := ⟨Tryz.f198.name, by decide, Tryz.func198.trans (congrArg some (by kernel_rfl))⟩
  f17 := ⟨Tryz.f199.name, by decide, Tryz.func199.trans (congrArg some (by kernel_rfl))⟩
  f18 := ⟨Tryz.f200.name, by decide, Tryz.func200.trans (congrArg some (by kernel_rfl))⟩
  f19 := Tryz.func201.trans (congrArg some (by kernel_rfl))
  f20 := Tryz.func166.trans (congrArg some (by kernel_rfl))
  f30 := ⟨Tryz.f204.name, by decide, Tryz.func204.trans (congrArg some (by kernel_rfl))⟩
  f31 := Tryz.func205.trans (congrArg some (by kernel_rfl))
  f32 := Tryz.func206.trans (congrArg some (by kernel_rfl))
  f33 := ⟨Tryz.f207.name, by decide, Tryz.func207.trans (congrArg some (by kernel_rfl))⟩
  f34 := ⟨Tryz.f208.name, by decide, Tryz.func208.trans (congrArg some (by kernel_rfl))⟩
  f35 := ⟨Tryz.f209.name, by decide, Tryz.func209.trans (congrArg some (by kernel_rfl))⟩
  f40 := ⟨Tryz.f211.name, by decide, Tryz.func211.trans (congrArg some (by kernel_rfl))⟩
  t0 := Tryz.underlying0
  a0 := Tryz.isAgg0
  z0 := Tryz.sizeOf0
  v0 := Tryz.zeroValue0
  t3 := Tryz.underlying3
  a3 := Tryz.isAgg3
  z3 := Tryz.sizeOf3
  v3 := Tryz.zeroValue3
  t4 := Tryz.underlying4
  a4 := Tryz.isAgg4
  z4 := Tryz.sizeOf4
  v4 := Tryz.zeroValue4
  t5 := Tryz.underlying5
  a5 := Tryz.isAgg5
  z5 := Tryz.sizeOf5
  v5 := Tryz.zeroValue5
  t9 := Tryz.underlying9
  a9 := Tryz.isAgg9
  z9 := Tryz.sizeOf9
  v9 := Tryz.zeroValue9
  t22 := Tryz.underlying53
  a22 := Tryz.isAgg53
  z22 := Tryz.sizeOf53
  v22 := Tryz.zeroValue53
  t23 := Tryz.underlying53
  a23 := Tryz.isAgg53
  z23 := Tryz.sizeOf53
  v23 := Tryz.zeroValue53
  t25 := Tryz.underlying3
  a25 := Tryz.isAgg3
  z25 := Tryz.sizeOf3
  v25 := Tryz.zeroValue3
  t32 := Tryz.underlying116
  a32 := Tryz.isAgg116
  z32 := Tryz.sizeOf116
  v32 := Tryz.zeroValue116
  t35 := Tryz.underlying247
  a35 := Tryz.isAgg247
  z35 := Tryz.sizeOf247
  v35 := Tryz.zeroValue247
  t36 := Tryz.underlying248
  a36 := Tryz.isAgg248
  z36 := Tryz.sizeOf248
  v36 := Tryz.zeroValue248
  t41 := Tryz.underlying93
  a41 := Tryz.isAgg93
  z41 := Tryz.sizeOf93
  v41 := Tryz.zeroValue93
  t44 := Tryz.underlying38
  a44 := Tryz.isAgg38
  z44 := Tryz.sizeOf38
  v44 := Tryz.zeroValue38
  t46 := Tryz.underlying25
  a46 := Tryz.isAgg25
  z46 := Tryz.sizeOf25
  v46 := Tryz.zeroValue25
  t53 := Tryz.underlying254
  a53 := Tryz.isAgg254
  z53 := Tryz.sizeOf254
  v53 := Tryz.zeroValue254
  t57 := Tryz.underlying258
  a57 := Tryz.isAgg258
  z57 := Tryz.sizeOf258
  v57 := Tryz.zeroValue258
  t63 := Tryz.underlying260
  a63 := Tryz.isAgg260
  z63 := Tryz.sizeOf260
  v63 := Tryz.zeroValue260
  t64 := Tryz.underlying261
  a64 := Tryz.isAgg261
  z64 := Tryz.sizeOf261
  v64 := Tryz.zeroValue261 }
end Go.Proofs
namespace Go.Proofs.YtfoffneipdkdjaaGreatDoor
open Go.RowKit Go.Maps Go.WideMaps

def sortN (l : List Nat) : List Nat := l.mergeSort fun a b => decide (a ≤ b)
theorem sortN_int (l : List Nat) : (l.map fun (x : Nat) => (x : Int)).mergeSort (fun x y => decide (x ≤ y)) = (sortN l).map fun (x : Nat) => (x : Int) := by
  unfold sortN
  rw [List.map_mergeSort (s := fun (x y : Int) => decide (x ≤ y))]
  intro a _ b _
  simp
theorem sortN_perm (l : List Nat) : (sortN l).Perm l := List.mergeSort_perm l _
theorem sortN_len (l : List Nat) : (sortN l).length = l.length := (sortN_perm l).length_eq
theorem grownBy_sorted {w : World} {g n : Nat} {d : Array Int} {os : Array Obj} : w.grownBy (Go.Sort.grow (Go.Sort.putRow (Value.int .i64) (Go.Sort.ahead w n) g 0 d) os) (some g) := by
  refine ⟨rfl, rfl, rfl, ?_, fun k hk hne => ?_⟩
  · simp [Go.Sort.grow, Go.Sort.putRow, Go.Sort.mapBlock, Go.Sort.ahead]
  · have hkg : k ≠ g := fun e => hne (by rw [e])
    rw [Go.Sort.heap_grow_old _ _ (by simpa [Go.Sort.putRow, Go.Sort.mapBlock, Go.Sort.ahead] using hk)]
    simp [Go.Sort.putRow, Go.Sort.mapBlock, Go.Sort.ahead, Array.getElem?_modify, Ne.symm hkg]
theorem sort_any {w : World} {base : Nat} {v : Value} {l : List Nat} (h : Own w base 3 1 encI v l) (hl : l.length < 4611686018427387904) :
    Calls Tryz.prog 176 #[v] w fun e w' => e = .returned (.tuple #[]) ∧ Own w' base 3 1 encI v (sortN l) ∧ w.grownBy w' v.ownBlock := by
  by_cases h0 : l = []
  · subst h0
    obtain ⟨A, c, hv, -⟩ := h.arr (fun _ => rfl)
    subst hv
    have := AnyM.slices_Sort_int_none Tryz.sortI A c w
    refine this.mono ?_
    rintro e w' ⟨rfl, rfl⟩
    exact ⟨rfl, by simpa [sortN] using h, World.grownBy.refl _ _⟩
  · obtain ⟨g, cap, hv⟩ := own_form2 h (List.length_pos_iff.2 h0)
    subst hv
    obtain ⟨cur, hln, hb, hh, hnc, hcm, hcs, hc⟩ := h.cells_ (fun _ => rfl)
    have hH : Go.Sort.Holds (Value.int .i64) w g 0 (l.map fun (x : Nat) => (x : Int)).toArray := by
      intro j hj
      have hj' : j < l.length := by simpa using hj
      obtain ⟨x, hx, hcell, hfr⟩ := h.at_ (fun _ => rfl) hj'
      have h1 := hcell 0 _ rfl
      refine ⟨?_, ?_⟩
      · rw [getElem!_pos _ j hj, show 0 + j = j * 1 + 0 by omega, h1]
        obtain ⟨_, hx2⟩ := List.getElem?_eq_some_iff.1 hx
        simp [hx2]
      · exact hfr _
    have := AnyM.slices_Sort_int Tryz.sortI g 0 cap (l.map fun (x : Nat) => (x : Int)) w hH (heap_lt hh) (by simpa using hl)
    rw [sortN_int, List.length_map] at this
    refine this.mono ?_
    rintro e w' ⟨rfl, n, os, rfl⟩
    refine ⟨rfl, ?_, grownBy_sorted⟩
    have hh2 : (Go.Sort.grow (Go.Sort.putRow (Value.int .i64) (Go.Sort.ahead w n) g 0 ((sortN l).map fun (x : Nat) => (x : Int)).toArray) os).heap[g]? = some (.cells (Go.Sort.putCells (Value.int .i64) 0 ((sortN l).map fun (x : Nat) => (x : Int)).toArray cur) 3 (0, 0)) := by
      rw [Go.Sort.heap_grow_old _ _ (by simpa [Go.Sort.putRow, Go.Sort.mapBlock, Go.Sort.ahead] using heap_lt hh)]
      simp [Go.Sort.putRow, Go.Sort.mapBlock, Go.Sort.ahead, Array.getElem?_modify, hh, Go.Sort.onCells]
    have hlen := sortN_len l
    have := Own.mk_ (xs := sortN l) (cap := cap) (enc := encI) (k := 1) (fun _ => rfl) (by omega) hb hh2 (by omega) hcm (by simpa [Go.Sort.putCells] using hcs) (fun q hq r hr => by
      have hr0 : r = 0 := by omega
      subst hr0
      have hqc : q < cur.size := by rw [hcs]; omega
      simp [Go.Sort.putCells, hqc, hq, encI])
    rwa [hlen] at this
/-- What a map of numbers holds in which l was written, each with true. -/
def putN (l : List Nat) (m : DataW Unit) : DataW Unit := l.foldl (fun m (x : Nat) => m.put (.int .i64 (x : Int)) (.lit (.bool true))) m
theorem isKey_int (s : Int) : WideAt.IsKeyLit (.int .i64 s) := by first | trivial | simp [WideAt.IsKeyLit] | exact ⟨⟩
theorem putN_at (z : DataW Unit) (s : Nat) : ∀ (l : List Nat) (m : DataW Unit), IsMap m → (putN l m).atKey (.int .i64 (s : Int)) z = if s ∈ l then .lit (.bool true) else m.atKey (.int .i64 (s : Int)) z
  | [], _, _ => by simp [putN]
  | x :: r, m, h => by
    show (putN r (m.put (.int .i64 (x : Int)) (.lit (.bool true)))).atKey (.int .i64 (s : Int)) z = _
    rw [putN_at z s r _ (h.put _ _)]
    by_cases hr : s ∈ r
    · simp [hr]
    · by_cases he : x = s
      · subst he
        simp only [hr, if_false, List.mem_cons, true_or, if_true]
        exact atKey_put_same h (isKey_int _) _ _
      · simp only [hr, if_false, List.mem_cons, or_false, Ne.symm he]
        exact atKey_put_other (fun e => he (by injection e with _ e; omega)) _ _
def SetN (w : World) (b : Nat) (l : List Nat) : Prop := w.ownsMap (H := Unit) Tryz.prog 3 (plainElem Tryz.prog 4) b l.length (putN l (.map []))
theorem SetN.made (w : World) : SetN (w.alloc (.map #[] 0)) w.heap.size [] := World.ownsMap_made w Tryz.prog 3 _
theorem SetN.lt {w : World} {b : Nat} {l : List Nat} (h : SetN w b l) : b < w.heap.size := World.ownsMap.lt h
theorem SetN.kept {w w' : World} {b : Nat} {l : List Nat} {row : Option Nat} (h : SetN w b l) (hg : w.grownBy w' row) (hne : some b ≠ row) : SetN w' b l := World.ownsMap.kept h hg hne
theorem SetN.not_cells {w : World} {b : Nat} {l : List Nat} (h : SetN w b l) : ∀ cur e fz, w.heap[b]? ≠ some (.cells cur e fz) := by
  obtain ⟨es, clock, hb, _⟩ := h
  intro cur e fz hc
  rw [hb] at hc
  cases hc
theorem keyN {s : Nat} (hs : s < 4611686018427387904) : keyOf Tryz.prog 3 (.int .i64 (s : Int)) = some (.int .i64 (s : Int)) :=
  keyOf_int_mk Tryz.underlying3 (by simp [Lit.wf, IntKind.min, IntKind.max, IntKind.bits, IntKind.signed]; omega)
theorem SetN.look {w : World} {b : Nat} {l : List Nat} (h : SetN w b l) {s : Nat} (hs : s < 4611686018427387904) :
    (Instr.lookup 227 (.map (some b)) (.int .i64 (s : Int)) false).run Tryz.prog w = .ok (.bool (decide (s ∈ l))) w := by
  obtain ⟨v, ps, hrun, hv⟩ := World.ownsMap.lookup h (int_keyed Tryz.underlying3) Tryz.underlying227 (z := .bool false) (by kernel_rfl) (plainElem_bool Tryz.underlying4 false) (key := .int .i64 (s : Int)) (kl := .int .i64 (s : Int)) (keyN hs)
  rw [putN_at _ _ _ _ isMap_empty] at hv
  have e1 : (if s ∈ l then (DataW.lit (.bool true) : DataW Unit) else (DataW.map [] : DataW Unit).atKey (.int .i64 (s : Int)) (.lit (.bool false))) = .lit (.bool (decide (s ∈ l))) := by
    by_cases hl : s ∈ l
    · simp [hl]
    · simp only [hl, if_false, decide_false]; rfl
  rw [e1] at hv
  have : v = .bool (decide (s ∈ l)) := by
    have hb := Tryz.underlying4
    unfold plainElem at hv
    cases v <;> simp [hb] at hv
    simp [hv.1]
  rw [← this]
  exact hrun
theorem wpList_putN {ops : Array Oper} {rest : List Oper} {o : Oper} {a : Act} {Q : Exit → Act → World → Prop} {w : World} {b : Nat} {l : List Nat} (h : SetN w b l)
    (hg : o.guard = none) (m x v : Operand) (hop : o.op = Op.mapUpdate 227 m x v) (hn : l.length < maxLen) (s : Nat) (hs : s < 4611686018427387904)
    (hm : a.eval m = .map (some b)) (hx : a.eval x = .int .i64 (s : Int)) (hv : a.eval v = .bool true)
    (hK : ∀ w', SetN w' b (l ++ [s]) → w.grownBy w' (some b) → wpList Tryz.prog ops Q rest (a.put o.dst undef) w') :
    wpList Tryz.prog ops Q (o :: rest) a w := by
  refine wpList_mapUpdate_own w hg m x v 227 hop 3 4 (int_keyed Tryz.underlying3) Tryz.underlying227 _ b l.length _ hm h hn _ _ (.int .i64 (s : Int)) hx hv (keyN hs) (.lit (.bool true)) _ (plainElem_bool Tryz.underlying4 true) ?_
  intro w' h1 h2
  refine hK w' ?_ h2
  unfold SetN putN
  rw [List.foldl_append, List.length_append]
  exact h1
theorem run_clearN {w : World} {b : Nat} {l : List Nat} {ty : TypeId} (h : SetN w b l) : ∃ w', (Builtin.clear_ #[227] ty #[.map (some b)]).run Tryz.prog w = .ok (.tuple #[]) w' ∧ w.grownBy w' (some b) := by
  obtain ⟨es, clock, hb, _⟩ := h
  refine ⟨{ w with heap := w.heap.setIfInBounds b (.map #[] clock) }, ?_, ⟨rfl, rfl, rfl, by simp, fun i _ hi => ?_⟩⟩
  · simp [Builtin.clear_, run_underlying Tryz.underlying227, MapKept.run_getObj_map hb, MapKept.run_setObj_map _ hb, Result.andThen]
  · show (w.heap.setIfInBounds b (.map #[] clock))[i]? = _
    rw [Array.getElem?_setIfInBounds_ne (fun e => hi (by rw [e]))]
end Go.Proofs.YtfoffneipdkdjaaGreatDoor
namespace Go.Proofs.YtfoffneipdkdjaaGreatDoor
open Go.RowKit

set_option maxHeartbeats 1600000 in
theorem cloI_any {A : Option Addr} {m c : Nat} {xs : List Nat} (w : World) (h : Arr w 1 encI A m xs) (hm : m ≤ 65536) :
    Calls Tryz.prog 175 #[.slice A m c] w fun e w' => ∃ v, e = .returned v ∧ Own w' w.heap.size 3 1 encI v xs ∧ Grows w w' := by
  have heq := fun (w : World) => Lib.run_eql_slice_nil (P := Tryz.prog) w 53 3 A m c 0 0 Tryz.underlying53
  have hlen := h.1
  cases A with
  | none =>
    obtain ⟨rfl, rfl⟩ := h.nilOf
    clear hlen h
    go_enter Tryz.func175, Tryz.ntmps175
    go_wp2
    go_ret
    exact ⟨_, rfl, Own.nil_ _ _ _ _ _, Grows.refl _⟩
  | some ad =>
    have hown : Own (w.alloc (.cells #[] 3)) w.heap.size 3 1 encI (.slice (some ⟨w.heap.size, 0, none⟩) ([] : List Nat).length 0) [] :=
      Own.mk_ (cur := #[]) hkI (by omega) (Nat.le_refl _) (heap_alloc_new w _) (by simp) (by simp [maxLen]) (by simp) (fun q hq => by simp at hq)
    have harr := h.keep ((Grows.refl w).alloc (.cells #[] 3))
    replace hlen := Lib.hid hlen
    clear h
    go_enter Tryz.func175, Tryz.ntmps175
    go_wp2_with (at_builtin; refine wpList_grownAll T_int rfl (.tmp 5) (.tmp 6) rfl hown rfl ad rfl harr hkI oneI (by simp) (by simp; unfold maxLen; omega) (by simp; omega) (fun v1 w1 hown1 hgr hat => ?_))
    have hb1 : Below w.heap.size w w1 := Own.below hown ((Below.refl _ _).alloc (Nat.le_refl _) _) (Nat.le_refl _) (by simp) hgr
    clear hgr hat
    go_wp2
    go_ret
    exact ⟨v1, rfl, by simpa using hown1, hb1⟩
set_option maxRecDepth 100000 in
set_option maxHeartbeats 1600000 in
theorem indexI_any {A : Option Addr} {m c : Nat} {l : List Nat} {v : Nat} (w : World) (hA : Arr w 1 encI A m l) (hm : m ≤ 9223372036854775807) :
    Calls Tryz.prog 178 #[.slice A m c, .int .i64 (v : Int)] w fun e w' => e = .returned (.int .i64 (placeOf (fun x => v == x) l)) ∧ Grows w w' := by
  have hml := hA.1
  obtain ⟨R, hR⟩ : ∃ R, R = placeOf (fun x => v == x) l := ⟨_, rfl⟩
  rw [← hR]
  replace hR := Lib.hid hR
  replace hA := Lib.hid hA
  go_enter Tryz.func178, Tryz.ntmps178
  go_wp2
  go_loopw [4, 5, 8] (fun r _ i wr => ∃ k : Nat, k ≤ m ∧ i = .int .i64 k ∧ r = .int .i64 0 ∧ Hid (∀ j y, j < k → l[j]? = some y → (v == y) = false) ∧ wr = w) (fun _ _ i _ => m - (intOf i).toNat)
  case atStart => exact ⟨0, by omega, rfl, rfl, fun _ _ h => absurd h (by omega), rfl⟩
  case round =>
    obtain ⟨k, hk, rfl, rfl, hall, rfl⟩ := hrel
    by_cases hkm : k < m
    · obtain ⟨bb, off, x, rfl, hsx, hx, hcell⟩ := hA.out.at_ hkm
      have c0 : wr.cell? ⟨bb, off + k, none⟩ = some (.int .i64 (x : Int)) := by simpa using hcell 0 _ rfl
      have hki : (k : Int) < (m : Int) := by omega
      cases hvx : v == x with
      | true =>
        have hvi : (v : Int) = (x : Int) := by have := beq_iff_eq.1 hvx; omega
        have hvb : ((v : Int) == (x : Int)) = true := by simpa using hvi
        replace hvx := Lib.hid hvx
        clear hvi
        have hfin : Hid (R = (k : Int)) := Lib.hid (by rw [hR.out]; exact placeOf_hit hx hvx.out hall.out)
        clear hR hall hcell hx
        go_wp2
        go_ret
        exact ⟨by rw [hfin.out]; rfl, Grows.refl _⟩
      | false =>
        have hvi : ¬ (v : Int) = (x : Int) := fun e => by have h1 : v = x := by omega
                                                          rw [h1] at hvx; simp at hvx
        have hvb : ((v : Int) == (x : Int)) = false := by simpa using hvi
        clear hvi
        replace hvx := Lib.hid hvx
        have hnext := Lib.hid (show ∀ j y, j < k + 1 → l[j]? = some y → (v == y) = false from fun j y hj hy => by
          by_cases hjk : j = k
          · subst hjk; rw [hx] at hy; rw [← Option.some.inj hy]; exact hvx.out
          · exact hall.out j y (by omega) hy)
        clear hR hall hcell hx
        go_wp2
        go_roundw
        case rel => exact ⟨k + 1, by omega, by go_num, rfl, hnext, trivial⟩
        case measure => simp [intOf]; omega
    · obtain rfl : k = m := by omega
      have hfin : Hid (R = -1) := Lib.hid (by rw [hR.out]; exact placeOf_miss fun j y hy => hall.out j y (by have := (List.getElem?_eq_some_iff.1 hy).1; omega) hy)
      clear hR hall
      go_wp2
      go_ret
      exact ⟨by rw [hfin.out]; rfl, Grows.refl _⟩
set_option maxRecDepth 100000 in
theorem hasI_any {A : Option Addr} {m c : Nat} {l : List Nat} {v : Nat} (w : World) (hA : Arr w 1 encI A m l) (hm : m ≤ 9223372036854775807) :
    Calls Tryz.prog 164 #[.slice A m c, .int .i64 (v : Int)] w fun e w' => e = .returned (.bool (l.any fun x => v == x)) ∧ Grows w w' := by
  have cI := indexI_any (c := c) (v := v) w hA hm
  have hp := placeOf_nonneg (fun x => v == x) l
  generalize (l.any fun x => v == x) = R at *
  generalize placeOf (fun x => v == x) l = P at *
  subst hp
  replace cI := Lib.hid cI
  clear hA
  go_enter Tryz.func164, Tryz.ntmps164
  go_wp2_with fail
  refine (cI.out).mono ?_
  rintro e w1 ⟨rfl, hg⟩
  go_wp2
  go_ret
  exact ⟨rfl, hg⟩
end Go.Proofs.YtfoffneipdkdjaaGreatDoor
namespace Go.Proofs.YtfoffneipdkdjaaGreatDoor
open Go.RowKit

theorem ownI_inj {w : World} {base : Nat} {v : Value} {xs ys : List Nat} (h : Own w base 3 1 encI v xs) (h' : Own w base 3 1 encI v ys) : xs = ys := by
  obtain ⟨A, c, e1, -, -, a1⟩ := h.arr hkI
  obtain ⟨A', c', e2, -, -, a2⟩ := h'.arr hkI
  rw [e1] at e2
  simp only [Value.slice.injEq] at e2
  obtain ⟨rfl, hl, rfl⟩ := e2
  apply List.ext_getElem hl
  intro i h1 h2
  obtain ⟨b, off, x, eA, _, hx, hc⟩ := a1.at_ h1
  obtain ⟨b', off', y, eA', _, hy, hc'⟩ := a2.at_ h2
  rw [eA] at eA'
  injection eA' with eA'
  injection eA' with e3 e4 _
  subst e3 e4
  have c1 := hc 0 _ rfl
  have c2 := hc' 0 _ rfl
  rw [c1] at c2
  injection c2 with c2
  injection c2 with _ c2
  have hx' := (List.getElem?_eq_some_iff.1 hx).2
  have hy' := (List.getElem?_eq_some_iff.1 hy).2
  omega
theorem work_eps {w : World} {base : Nat} {vo vt : Value} {todo out : List Nat} {sts : List PSt} (ho : Own w base 3 1 encI vo out) (ht : Own w base 3 1 encI vt todo) :
    (Classical.epsilon fun (n : Nat) => ∃ todo out, Own w base 3 1 encI vo out ∧ Own w base 3 1 encI vt todo ∧ n = workN sts todo out) = workN sts todo out := by
  have := Classical.epsilon_spec (p := fun (n : Nat) => ∃ todo out, Own w base 3 1 encI vo out ∧ Own w base 3 1 encI vt todo ∧ n = workN sts todo out) ⟨_, todo, out, ho, ht, rfl⟩
  obtain ⟨t2, o2, h1, h2, h3⟩ := this
  rw [h3, ownI_inj h1 ho, ownI_inj h2 ht]
theorem Own.map_ne {α : Type} {w : World} {b0 k MB : Nat} {e : TypeId} {enc : α → List Value} {v : Value} {xs : List α} {l : List Nat} (h : Own w b0 e k enc v xs) (hM : SetN w MB l) : v.ownBlock ≠ some MB := fun hv => by
  obtain ⟨cur, hc⟩ := own_block h hv
  exact hM.not_cells _ _ _ hc
set_option maxRecDepth 100000 in
set_option maxHeartbeats 3200000 in
theorem reach_any {w : World} {bs gp : Nat} {s : List UInt8} {sv : Value} {xs : List StX} {p : PPat} {A : Option Addr} {m c : Nat} {l : List Nat} (hP : Blk w gp 216 #[.string ⟨s.toArray⟩, sv, .int .i64 (p.start : Int), .int .i64 (p.stop : Int)]) (hS : StsAt w bs xs sv p.sts) (hok : PatOK p) (hA : Arr w 1 encI A m l) (hm : m ≤ 60000) (hl : ∀ k ∈ l, k < p.sts.length) :
    Calls Tryz.prog 162 #[.pointer (some ⟨gp, 0, none⟩), .slice A m c] w fun e w' => ∃ v, e = .returned v ∧ Own w' w.heap.size 3 1 encI v (sortN (reachR p.sts l)) ∧ Grows w w' := by
  have hml := hA.1
  have hsl := hS.len
  obtain ⟨sA, sc, hsv, -, -, hsA⟩ := hS.own.arr hkSt
  obtain ⟨R, hRR⟩ : ∃ R, R = reachR p.sts l := ⟨_, rfl⟩
  have hRb : R.length ≤ p.sts.length := by rw [hRR]; exact (reachR_ok hok.vp hl).2
  rw [← hRR]
  replace hRR := Lib.hid hRR
  have hRb2 : Hid (R.length < 4611686018427387904) := Lib.hid (by have := hok.len; omega)
  have hM0 := SetN.made w
  have hg1 : Grows w (w.alloc (.map #[] 0)) := (Grows.refl _).alloc _
  replace hA := Lib.hid (hA.keep hg1)
  replace hP := Lib.hid hP
  replace hS := Lib.hid hS
  replace hsA := Lib.hid hsA
  replace hok := Lib.hid hok
  replace hl := Lib.hid hl
  replace hml := Lib.hid hml
  replace hsl := Lib.hid hsl
  replace hsv := Lib.hid hsv
  have hmm := @run_makeMap Tryz.prog
  go_enter Tryz.func162, Tryz.ntmps162
  go_wp2_with fail
  refine (cloI_any (c := c) _ hA.out (by omega)).mono ?_
  rintro e w2 ⟨vt, rfl, hT, hg2⟩
  have hM := Lib.hid (hM0.kept (hg2.by_none none) (by simp))
  have hG := Lib.hid (hg1.trans hg2)
  have hMB : Hid (w.heap.size ≤ w.heap.size) := Lib.hid (Nat.le_refl _)
  replace hT := Lib.hid (hT.base_le (show w.heap.size ≤ _ by simp))
  clear hM0 hg1 hg2
  generalize hMBe : w.heap.size = MB at *
  replace hMBe := Lib.hid hMBe
  clear hmm hA
  have hwk0 : workN p.sts l [] = l.length + frees p.sts := by unfold workN; rw [restG_frees]
  have hf0 : Hid (workN p.sts l [] ≤ l.length + frees p.sts) := Lib.hid (by omega)
  have hwb : Hid (workN p.sts l [] ≤ 70000) := Lib.hid (by rw [hwk0]; have := hok.out.fr; have := hml.out; omega)
  have hon : Hid (([] : List Nat).length + restG (fun _ => 1) [] 0 p.sts = p.sts.length) := Lib.hid (by rw [restG_one]; simp)
  have hRr : Hid (R = reachL p.sts (l.length + frees p.sts) l []) := hRR
  have hap : Hid (∀ g, (Value.slice none 0 0).ownBlock = some g → vt.ownBlock ≠ some g) := Lib.hid (fun g hg => by cases hg)
  have hol : Hid (∀ k ∈ ([] : List Nat), k < p.sts.length) := Lib.hid (fun k hk => by simp at hk)
  have hO0 := Lib.hid (Own.nil_ w2 MB 3 1 encI)
  clear hwk0
  go_wp2
  go_loopw [6, 7, 8] (fun vo vt _ wr => ∃ (f : Nat) (todo out : List Nat), Hid (workN p.sts todo out ≤ f) ∧ Hid (workN p.sts todo out ≤ 70000) ∧ Hid (R = reachL p.sts f todo out) ∧ Hid (∀ k ∈ todo, k < p.sts.length) ∧ Hid (∀ k ∈ out, k < p.sts.length) ∧ Hid (out.length + restG (fun _ => 1) out 0 p.sts = p.sts.length) ∧ Hid (Own wr MB 3 1 encI vo out) ∧ Hid (Own wr MB 3 1 encI vt todo) ∧ Hid (∀ g, vo.ownBlock = some g → vt.ownBlock ≠ some g) ∧ Hid (SetN wr MB out) ∧ Hid (Grows w wr)) (fun vo vt _ wr => Classical.epsilon fun (n : Nat) => ∃ todo out, Own wr MB 3 1 encI vo out ∧ Own wr MB 3 1 encI vt todo ∧ n = workN p.sts todo out)
  case atStart => exact ⟨_, l, [], hf0, hwb, hRr, hl, hol, hon, hO0, hT, hap, hM, hG⟩
  case round =>
    clear hf0 hwb hRr hol hon hO0 hT hap hM hG hl
    obtain ⟨f, todo, out, hf, hwb, hR, hl, hol, hon, hO, hT, hap, hM, hG⟩ := hrel
    have hmes := Lib.hid (work_eps (sts := p.sts) hO.out hT.out)
    have hstep := reachL_step hf.out
    rw [← hR.out] at hstep
    by_cases h0 : todo = []
    · subst h0
      simp only [List.getLast?_nil] at hstep
      replace hstep := Lib.hid hstep
      obtain ⟨tA, tc, htv, -⟩ := hT.out.arr hkI
      simp only [List.length_nil] at htv
      subst htv
      obtain ⟨wc, hclr, hgc⟩ := run_clearN (ty := 0) hM.out
      have hOc := Lib.hid (hO.out.kept' hgc (fun g hg hv => by injection hg with hg; subst hg; exact hO.out.map_ne hM.out hv))
      have hGc := Lib.hid (hG.out.by_row hgc (fun g hg => by injection hg with hg; subst hg; exact Nat.le_of_eq hMBe.out))
      have hlo : Hid (out.length < 4611686018427387904) := Lib.hid (by rw [← hstep.out]; exact hRb2.out)
      clear hO hT hap hM hG hgc hmes
      go_wp2_with fail
      refine (sort_any hOc.out hlo.out).mono ?_
      rintro e w9 ⟨rfl, hO9, hg9⟩
      go_wp2
      go_ret
      refine ⟨_, rfl, ?_, hGc.out.by_row hg9 (fun g hg => Nat.le_trans (Nat.le_of_eq hMBe.out) (hOc.out.blk_ g hg).1)⟩
      rw [hstep.out, hMBe.out]
      exact hO9
    · have hpos := List.length_pos_iff.2 h0
      obtain ⟨gT, capT, htv⟩ := own_form2 hT.out hpos
      obtain ⟨n, hn⟩ : ∃ n, todo.length = n + 1 := ⟨todo.length - 1, by omega⟩
      rw [hn] at htv
      subst htv
      obtain ⟨_, _, _, _, hnc, hcm, _, _⟩ := hT.out.cells_ hkI
      obtain ⟨k, hk, hcell, -⟩ := hT.out.at_ hkI (i := n) (by omega)
      have c0 : wr.cell? ⟨gT, n, none⟩ = some (.int .i64 (k : Int)) := by simpa using hcell 0 _ rfl
      have hgl : todo.getLast? = some k := by rw [List.getLast?_eq_getElem?, hn]; exact hk
      have hkn := hl.out k (List.mem_of_getElem? hk)
      have hdl : todo.dropLast = todo.take n := by rw [List.dropLast_eq_take, hn]; rfl
      have hT1 := hT.out.cut hkI (by omega) (i := n) (by omega)
      rw [← hdl] at hT1
      replace hT1 := Lib.hid hT1
      rw [hgl] at hstep
      have hkb : k < 4611686018427387904 := by have := hok.out.len; omega
      have hlook := hM.out.look (s := k) hkb
      have hnci : (n : Int) ≤ (capT : Int) := by omega
      have hni : (n : Int) < (n : Int) + 1 := by omega
      have hcmi : (capT : Int) ≤ 9223372036854775807 := by unfold maxLen at hcm; omega
      have hws := Lib.hid (work_seen (sts := p.sts) (out := out) h0)
      have hdm : Hid (∀ j ∈ todo.dropLast, j < p.sts.length) := Lib.hid (fun j hj => hl.out j ((List.dropLast_sublist todo).subset hj))
      replace hkn := Lib.hid hkn
      by_cases hin : k ∈ out
      · simp only [hin, if_true] at hstep
        rw [decide_eq_true hin] at hlook
        replace hstep := Lib.hid hstep
        clear hcell hk hgl hdl hT hin
        go_wp2
        go_roundw
        case rel => exact ⟨f - 1, todo.dropLast, out, Lib.hid (by have := hws.out; have := hf.out; omega), Lib.hid (by have := hws.out; have := hwb.out; omega), hstep, hdm, hol, hon, hO, hT1, hap, hM, hG⟩
        case measure => rw [hmes.out, work_eps (sts := p.sts) hO.out hT1.out]; have := hws.out; omega
      · simp only [hin, if_false] at hstep
        rw [decide_eq_false hin] at hlook
        replace hstep := Lib.hid hstep
        have hwn := Lib.hid (work_new (sts := p.sts) h0 hin hkn.out)
        have hon2 := Lib.hid (one_new hin hkn.out hon.out)
        obtain ⟨y, hy⟩ : ∃ y, p.sts[k]? = some y := ⟨_, List.getElem?_eq_getElem hkn.out⟩
        obtain ⟨x, hx⟩ : ∃ x, xs[k]? = some x := ⟨_, List.getElem?_eq_getElem (by rw [hsl.out]; exact hkn.out)⟩
        obtain ⟨hs1, hs2, hs3⟩ := hS.out.st k x y hx hy
        obtain ⟨fA, fc, hfv, -, -, -⟩ := hs3.arr hkI
        have hfo : freeOf p.sts k = y.free := by unfold freeOf; rw [hy]
        have hfl : Hid (n + y.free.length ≤ 70000) := Lib.hid (by
          have h1 := hwn.out
          have h2 := hwb.out
          rw [hfo] at h1
          unfold workN at h1 h2
          rw [List.length_append, List.length_dropLast, hn] at h1
          omega)
        have hkn2 : k < xs.length := by rw [hsl.out]; exact hkn.out
        obtain ⟨bb, off, x', hsAe, hsz, hx', hcs⟩ := hsA.out.at_ hkn2
        rw [hx] at hx'
        injection hx' with hx'
        subst hx'
        have cF : w.cell? ⟨bb, off + k * 3 + 2, none⟩ = some (.slice fA y.free.length fc) := by rw [← hfv]; exact hcs 2 _ rfl
        rw [hsAe] at hsv
        have cP : w.cell? ⟨gp, 1, none⟩ = some (.slice (some ⟨bb, off, none⟩) xs.length sc) := by rw [← hsv.out]; exact (hP.out.cell 1).trans rfl
        have hki : (k : Int) < (xs.length : Int) := by omega
        have hol2 : Hid (∀ j ∈ out ++ [k], j < p.sts.length) := Lib.hid (fun j hj => by
          rcases List.mem_append.1 hj with hj | hj
          · exact hol.out j hj
          · rw [List.mem_singleton] at hj; subst hj; exact hkn.out)
        have htd2 : Hid (∀ j ∈ todo.dropLast ++ freeOf p.sts k, j < p.sts.length) := Lib.hid (fun j hj => by
          rcases List.mem_append.1 hj with hj | hj
          · exact hdm.out j hj
          · exact freeOf_lt hok.out.vp j hj)
        have hob : Hid (out.length < 10000) := Lib.hid (by have := hok.out.len; have h3 := hon2.out; rw [List.length_append, List.length_singleton] at h3; omega)
        have hdlen : Hid (todo.dropLast.length = n) := Lib.hid (by rw [List.length_dropLast, hn]; rfl)
        replace cF := Lib.hid cF
        replace cP := Lib.hid cP
        replace hs3 := Lib.hid hs3
        rw [hfv] at hs3
        replace hfo := Lib.hid hfo
        have hMBw := Lib.hid (Nat.le_of_eq hMBe.out.symm : MB ≤ w.heap.size)
        clear hcell hk hgl hdl hin hs1 hs2 hfv hsAe hsz hcs hx hy hT hsv hn hkn2
        go_wp2_with (first
          | (at_mapUpdate; refine wpList_putN hM.out rfl _ _ _ rfl (by have := hob.out; unfold maxLen; omega) k hkb rfl rfl rfl ?_; intro w3 hM3 hby3; (have hO3 := Lib.hid (hO.out.kept' hby3 (fun g hg hv => by injection hg with hg; subst hg; exact hO.out.map_ne hM.out hv))); (have hT3 := Lib.hid (hT1.out.kept' hby3 (fun g hg hv => by injection hg with hg; subst hg; exact hT1.out.map_ne hM.out hv))); (have hG3 := Lib.hid (hG.out.by_row hby3 (fun g hg => by injection hg with hg; subst hg; exact Nat.le_of_eq hMBe.out))); (replace hM3 := Lib.hid hM3); clear hby3)
          | (at_builtin; refine wpList_grown (x := k) T_int rfl (.tmp 32) (.tmp 34) rfl (hO3.out.alloc _) rfl ⟨w3.heap.size, 0, none⟩ rfl rfl (news_of (by exact heap_alloc_new w3 _)) (oneI k) (by have := hMBw.out; have := hG3.out.size; simp; omega) (by have := hob.out; unfold maxLen; omega) (by have := hob.out; omega) (fun v4 w4 hO4 hby4 hat4 => ?_); (have hT4 := Lib.hid ((hT3.out.alloc _).kept' hby4 (fun g hg hv => hap.out g hg hv))); (have hM4 := Lib.hid ((hM3.out.kept (World.grownBy_alloc w3 _ none) (by simp)).kept hby4 (fun e => hO3.out.map_ne hM3.out e.symm))); (have hG4 := Lib.hid ((hG3.out.alloc _).by_row hby4 (fun g hg => Nat.le_trans (Nat.le_of_eq hMBe.out) (hO3.out.blk_ g hg).1))); (have hap4 := Lib.hid (fun g (hg : v4.ownBlock = some g) (hv : (Value.slice (some ⟨gT, 0, none⟩) n capT).ownBlock = some g) => by
              rcases hat4 with e | e
              · rw [e] at hg; exact hap.out g hg hv
              · rw [e] at hg; injection hg with hg; have h5 := (World.ownsRow.lt hT3.out g hv).2; simp at hg; omega)); (have hS4 := Lib.hid (hS.out.grows hG4.out)); (have cP4 := hG4.out.cell cP.out); (have cF4 := hG4.out.cell cF.out); (have hF4 := Lib.hid (hs3.out.grows hG4.out)); (replace hO4 := Lib.hid hO4); clear hby4 hat4)
          | (at_builtin; obtain ⟨fA', fc', hfe, -, -, hFa⟩ := hF4.out.arr hkI; simp only [Value.slice.injEq] at hfe; obtain ⟨rfl, _, rfl⟩ := hfe; refine wpList_grownOpt T_int rfl (.tmp 36) (.tmp 44) rfl hT4.out rfl rfl hFa hkI oneI (by have := hMBw.out; have := hG4.out.size; omega) (by have := hfl.out; have := hdlen.out; unfold maxLen; omega) (by have := hfl.out; have := hdlen.out; omega) ?_; intro v5 w5 hT5 hby5 hat5; (have hO5 := Lib.hid (hO4.out.kept' hby5 (fun g hg hv => hap4.out g hv hg))); (have hM5 := Lib.hid (hM4.out.kept hby5 (fun e => hT4.out.map_ne hM4.out e.symm))); (have hG5 := Lib.hid (hG4.out.by_row hby5 (fun g hg => Nat.le_trans (Nat.le_of_eq hMBe.out) (hT4.out.blk_ g hg).1))); (have hap5 := Lib.hid (fun g (hg : v4.ownBlock = some g) (hv : v5.ownBlock = some g) => by
              rcases hat5 with e | e
              · rw [e] at hv; exact hap4.out g hg hv
              · rw [e] at hv; injection hv with hv; have h5 := (World.ownsRow.lt hO4.out g hg).2; omega)); (replace hT5 := Lib.hid hT5); clear hby5 hat5))
        go_roundw
        case rel => exact ⟨f - 1, todo.dropLast ++ freeOf p.sts k, out ++ [k], Lib.hid (by have := hwn.out; have := hf.out; omega), Lib.hid (by have := hwn.out; have := hwb.out; omega), hstep, htd2, hol2, hon2, hO5, Lib.hid (by rw [hfo.out]; exact hT5.out), hap5, hM5, hG5⟩
        case measure => rw [hmes.out, work_eps (sts := p.sts) (todo := todo.dropLast ++ freeOf p.sts k) hO5.out (by rw [hfo.out]; exact hT5.out)]; have := hwn.out; omega
end Go.Proofs.YtfoffneipdkdjaaGreatDoor
namespace Go.Proofs.YtfoffneipdkdjaaGreatDoor
open Go.RowKit

theorem take_fold {sts : List PSt} {c : Nat} {l : List Nat} {i k : Nat} (h : l[i]? = some k) : (l.take (i + 1)).foldl (stepOne sts c) [] = stepOne sts c ((l.take i).foldl (stepOne sts c) []) k := by
  rw [List.take_add_one, h]
  simp
set_option maxRecDepth 100000 in
set_option maxHeartbeats 3200000 in
theorem step_any {w : World} {bs gp : Nat} {s : List UInt8} {sv : Value} {xs : List StX} {p : PPat} {A : Option Addr} {m cp c : Nat} {l : List Nat} (hP : Blk w gp 216 #[.string ⟨s.toArray⟩, sv, .int .i64 (p.start : Int), .int .i64 (p.stop : Int)]) (hS : StsAt w bs xs sv p.sts) (hok : PatOK p) (hA : Arr w 1 encI A m l) (hm : m ≤ 60000) (hl : ∀ k ∈ l, k < p.sts.length) (hc : c < 256) :
    Calls Tryz.prog 163 #[.pointer (some ⟨gp, 0, none⟩), .slice A m cp, .int .u8 (c : Int)] w fun e w' => ∃ v, e = .returned v ∧ Own w' w.heap.size 3 1 encI v (sortN (reachR p.sts (stepS p.sts c l))) ∧ Grows w w' := by
  have hml := Lib.hid hA.1
  have hsl := Lib.hid hS.len
  obtain ⟨sA, sc, hsv, -, -, hsA⟩ := hS.own.arr hkSt
  obtain ⟨R, hRR⟩ : ∃ R, R = sortN (reachR p.sts (stepS p.sts c l)) := ⟨_, rfl⟩
  rw [← hRR]
  replace hRR := Lib.hid hRR
  replace hA := Lib.hid hA
  replace hP := Lib.hid hP
  replace hS := Lib.hid hS
  replace hsA := Lib.hid hsA
  replace hok := Lib.hid hok
  replace hl := Lib.hid hl
  replace hsv := Lib.hid hsv
  replace hc := Lib.hid hc
  go_enter Tryz.func163, Tryz.ntmps163
  go_wp2
  go_loopw [7, 9, 10, 13] (fun vo _ _ i wr => ∃ q : Nat, q ≤ m ∧ i = .int .i64 (q : Int) ∧ Hid (Own wr w.heap.size 3 1 encI vo ((l.take q).foldl (stepOne p.sts c) [])) ∧ Hid (Grows w wr)) (fun _ _ _ i _ => m - (intOf i).toNat)
  case atStart => exact ⟨0, by omega, rfl, Lib.hid (Own.nil_ _ _ _ _ _), Lib.hid (Grows.refl _)⟩
  case round =>
    obtain ⟨q, hq, rfl, hO, hG⟩ := hrel
    by_cases hqm : q < m
    · obtain ⟨b0, o0, k, rfl, hs0, hk, hcell⟩ := (hA.out.keep hG.out).at_ hqm
      have c0 : wr.cell? ⟨b0, o0 + q, none⟩ = some (.int .i64 (k : Int)) := by simpa using hcell 0 _ rfl
      have hqi : (q : Int) < (m : Int) := by omega
      have hkn := hl.out k (List.mem_of_getElem? hk)
      obtain ⟨y, hy⟩ : ∃ y, p.sts[k]? = some y := ⟨_, List.getElem?_eq_getElem hkn⟩
      obtain ⟨x, hx⟩ : ∃ x, xs[k]? = some x := ⟨_, List.getElem?_eq_getElem (by rw [hsl.out]; exact hkn)⟩
      have hkn2 : k < xs.length := by rw [hsl.out]; exact hkn
      obtain ⟨hs1, hs2, hs3⟩ := hS.out.st k x y hx hy
      obtain ⟨fA, fc, hfv, -, -, -⟩ := hs3.arr hkI
      obtain ⟨bb, off, x', hsAe, hsz, hx', hcs⟩ := (hsA.out.keep hG.out).at_ hkn2
      rw [hx] at hx'
      injection hx' with hx'
      subst hx'
      have cF : wr.cell? ⟨bb, off + k * 3 + 2, none⟩ = some (.slice fA y.free.length fc) := by rw [← hfv]; exact hcs 2 _ rfl
      have cN : wr.cell? ⟨bb, off + k * 3 + 1, none⟩ = some (.int .i64 (y.next : Int)) := by rw [← hs1]; exact hcs 1 _ rfl
      have cV : wr.cell? ⟨bb, off + k * 3, none⟩ = some x.pv := by simpa using hcs 0 _ rfl
      rw [hsAe] at hsv
      have cP : wr.cell? ⟨gp, 1, none⟩ = some (.slice (some ⟨bb, off, none⟩) xs.length sc) := by rw [← hsv.out]; exact ((hP.out.grows hG.out).cell 1).trans rfl
      have hki : (k : Int) < (xs.length : Int) := by omega
      have htf := take_fold (sts := p.sts) (c := c) hk
      have hob : Hid (((l.take q).foldl (stepOne p.sts c) []).length < 70000) := Lib.hid (by have := (stepS_ok hok.out.vp (c := c) (l.take q)).2; unfold stepS at this; rw [List.length_take] at this; omega)
      generalize hout : (l.take q).foldl (stepOne p.sts c) [] = out at *
      have hszw := Lib.hid hG.out.size
      cases hset : y.set with
      | none =>
        rw [hset] at hs2
        rw [hs2] at cV
        have hst : Hid ((l.take (q + 1)).foldl (stepOne p.sts c) [] = out) := Lib.hid (by rw [htf]; unfold stepOne; rw [hy]; simp only [hset])
        clear hs1 hs2 hs3 hfv hcs hx hy hsAe htf hcell hk hkn2
        go_wp2
        go_roundw
        case rel => exact ⟨q + 1, by omega, by go_num, Lib.hid (by rw [hst.out]; exact hO.out.alloc _), Lib.hid (hG.out.alloc _)⟩
        case measure => simp [intOf]; omega
      | some ws =>
        rw [hset] at hs2
        obtain ⟨gs, hpv, hgs, hSet⟩ := hs2
        rw [hpv] at cV
        have cH := fun (W : World) (hW : Grows w W) => has_any2 (c := c) (hSet.grows hW) hc.out
        replace cH := Lib.hid cH
        cases hhs : hasSet ws c with
        | false =>
          rw [hhs] at cH
          have hst : Hid ((l.take (q + 1)).foldl (stepOne p.sts c) [] = out) := Lib.hid (by rw [htf]; unfold stepOne; rw [hy]; simp only [hset, hhs]; rfl)
          clear hs1 hs3 hfv hcs hx hy hsAe htf hcell hk hkn2 hset hhs hpv
          go_wp2_with fail
          refine (cH.out _ (hG.out.alloc _)).mono ?_
          rintro e w2 ⟨rfl, hw2⟩
          replace hw2 := hw2.symm
          subst hw2
          go_wp2
          go_roundw
          case rel => exact ⟨q + 1, by omega, by go_num, Lib.hid (by rw [hst.out]; exact hO.out.alloc _), Lib.hid (hG.out.alloc _)⟩
          case measure => simp [intOf]; omega
        | true =>
          rw [hhs] at cH
          have hst : Hid ((l.take (q + 1)).foldl (stepOne p.sts c) [] = out ++ [y.next]) := Lib.hid (by rw [htf]; unfold stepOne; rw [hy]; simp only [hset, hhs]; rfl)
          clear hs1 hs3 hfv hcs hx hy hsAe htf hcell hk hkn2 hset hhs hpv
          go_wp2_with fail
          refine (cH.out _ (hG.out.alloc _)).mono ?_
          rintro e w2 ⟨rfl, hw2⟩
          replace hw2 := hw2.symm
          subst hw2
          have hZ := Blk.new wr 230 #[.pointer (some ⟨gs, 0, none⟩), .int .i64 (y.next : Int), .slice fA y.free.length fc]
          have hO2 := Lib.hid (hO.out.alloc (.cells #[.pointer (some ⟨gs, 0, none⟩), .int .i64 (y.next : Int), .slice fA y.free.length fc] 230))
          have hG2 := Lib.hid (hG.out.alloc (.cells #[.pointer (some ⟨gs, 0, none⟩), .int .i64 (y.next : Int), .slice fA y.free.length fc] 230))
          clear hO hG cF cN cV cP c0 hszw
          generalize wr.alloc (.cells #[.pointer (some ⟨gs, 0, none⟩), .int .i64 (y.next : Int), .slice fA y.free.length fc] 230) = w2 at *
          generalize wr.heap.size = gZ at *
          have z0 : w2.cell? ⟨gZ, 0, none⟩ = some (.pointer (some ⟨gs, 0, none⟩)) := hZ.cell 0
          have z1 : w2.cell? ⟨gZ, 1, none⟩ = some (.int .i64 (y.next : Int)) := hZ.cell 1
          have zl := hZ.lt
          have hsz2 := Lib.hid hG2.out.size
          clear hZ
          go_wp2_with (at_builtin; refine wpList_grown (x := y.next) T_int rfl (.tmp 33) (.tmp 36) rfl (hO2.out.alloc _) rfl ⟨w2.heap.size, 0, none⟩ rfl rfl (news_of (by exact heap_alloc_new w2 _)) (oneI _) (by have := hsz2.out; simp; omega) (by have := hob.out; unfold maxLen; omega) (by have := hob.out; omega) (fun v4 w4 hO4 hby4 hat4 => ?_); (have hG4 := Lib.hid ((hG2.out.alloc _).by_row hby4 (fun g hg => (hO2.out.blk_ g hg).1))); (replace hO4 := Lib.hid hO4); clear hby4 hat4)
          go_roundw
          case rel => exact ⟨q + 1, by omega, by go_num, Lib.hid (by rw [hst.out]; exact hO4.out), hG4⟩
          case measure => simp [intOf]; omega
    · obtain rfl : q = m := by omega
      have hfin : Hid ((l.take q).foldl (stepOne p.sts c) [] = stepS p.sts c l) := Lib.hid (by rw [List.take_of_length_le (by rw [hml.out]; exact Nat.le_refl _)]; rfl)
      have hOs := hO.out
      rw [hfin.out] at hOs
      have hso := stepS_ok hok.out.vp (c := c) l
      have hmm2 : (stepS p.sts c l).length ≤ 60000 := by have := hso.2; have := hml.out; omega
      obtain ⟨oA, oc, hov, -, -, hoA⟩ := hOs.arr hkI
      subst hov
      have cR := Lib.hid (reach_any (c := oc) (hP.out.grows hG.out) (hS.out.grows hG.out) hok.out hoA hmm2 hso.1)
      have hszw := Lib.hid hG.out.size
      clear hO hfin hso hmm2 hoA hOs
      go_wp2_with fail
      refine (cR.out).mono ?_
      rintro e w9 ⟨v, rfl, hO9, hg9⟩
      go_wp2
      go_ret
      refine ⟨_, rfl, ?_, hG.out.trans hg9⟩
      rw [hRR.out]
      exact hO9.base_le hszw.out
end Go.Proofs.YtfoffneipdkdjaaGreatDoor
namespace Go.Proofs.YtfoffneipdkdjaaGreatDoor
open Go.RowKit

theorem right_any (w : World) (s : List UInt8) : Calls Tryz.prog 133 #[.string ⟨s.toArray⟩] w fun e w' => e = .returned (.int .i64 (patErr s : Int)) ∧ Grows w w' := by
  have cR := Lib.hid (read_any w s)
  go_enter Tryz.func133, Tryz.ntmps133
  go_wp2_with fail
  refine (cR.out).mono ?_
  rintro e w1 ⟨v, rfl, hv, hg⟩
  clear cR
  go_wp2
  go_ret
  exact ⟨rfl, hg⟩
/-- The states that one stands in behind a text. -/
def pfitsL (p : PPat) (t : List UInt8) : List Nat := t.foldl (fun l c => sortN (reachR p.sts (stepS p.sts c.toNat l))) (sortN (reachR p.sts [p.start]))
def fitsPat (s t : List UInt8) : Bool := match patOf s with
  | none => false
  | some p => (pfitsL p t).any fun x => p.stop == x
theorem sortN_lt {l : List Nat} {n : Nat} (h : ∀ k ∈ l, k < n) : ∀ k ∈ sortN l, k < n := fun k hk => h k ((sortN_perm l).mem_iff.1 hk)
theorem pfitsL_ok {p : PPat} (hok : PatOK p) (t : List UInt8) : (∀ k ∈ pfitsL p t, k < p.sts.length) ∧ (pfitsL p t).length ≤ p.sts.length := by
  have key : ∀ (t : List UInt8) (l : List Nat), (∀ k ∈ l, k < p.sts.length) ∧ l.length ≤ p.sts.length → (∀ k ∈ t.foldl (fun l c => sortN (reachR p.sts (stepS p.sts c.toNat l))) l, k < p.sts.length) ∧ (t.foldl (fun l c => sortN (reachR p.sts (stepS p.sts c.toNat l))) l).length ≤ p.sts.length := by
    intro t
    induction t with
    | nil => intro l h; exact h
    | cons c t ih =>
      intro l h
      refine ih _ ?_
      have h1 := reachR_ok hok.vp (stepS_ok hok.vp (c := c.toNat) l).1
      exact ⟨sortN_lt h1.1, by rw [sortN_len]; exact h1.2⟩
  refine key t _ ?_
  have h1 := reachR_ok hok.vp (l := [p.start]) (fun k hk => by rw [List.mem_singleton] at hk; subst hk; exact hok.start)
  exact ⟨sortN_lt h1.1, by rw [sortN_len]; exact h1.2⟩
theorem pfitsL_take {p : PPat} {t : List UInt8} {q : Nat} {c : UInt8} (h : t[q]? = some c) : pfitsL p (t.take (q + 1)) = sortN (reachR p.sts (stepS p.sts c.toNat (pfitsL p (t.take q)))) := by
  unfold pfitsL
  rw [List.take_add_one, h]
  simp
set_option maxRecDepth 100000 in
set_option maxHeartbeats 3200000 in
theorem pfits_any {w : World} {bs : Nat} {s t : List UInt8} {v : Value} (hv : PatV w bs s v (patOf s)) (ht : t.length ≤ 1000000) :
    Calls Tryz.prog 150 #[v, .string ⟨t.toArray⟩] w fun e w' => e = .returned (.bool (fitsPat s t)) ∧ Grows w w' := by
  obtain ⟨R, hR⟩ : ∃ R, R = fitsPat s t := ⟨_, rfl⟩
  rw [← hR]
  unfold fitsPat at hR
  cases hpo : patOf s with
  | none =>
    rw [hpo] at hv hR
    obtain rfl : v = .pointer none := hv
    simp only at hR
    subst hR
    clear hpo
    go_enter Tryz.func150, Tryz.ntmps150
    go_wp2
    go_ret
    exact ⟨rfl, Grows.refl _⟩
  | some p =>
    have hok := Lib.hid (patOf_ok hpo)
    rw [hpo] at hv hR
    simp only at hR
    replace hR := Lib.hid hR
    obtain ⟨gp, xs, sv, rfl, hP, hS⟩ := hv
    clear hpo
    have cS : w.cell? ⟨gp, 2, none⟩ = some (.int .i64 (p.start : Int)) := (hP.cell 2).trans rfl
    have cE := Lib.hid ((hP.cell 3).trans rfl : w.cell? ⟨gp, 3, none⟩ = some (.int .i64 (p.stop : Int)))
    have lP := hP.lt
    have hN := Blk.new w 3 #[.int .i64 (p.start : Int)]
    have hg1 : Grows w (w.alloc (.cells #[.int .i64 (p.start : Int)] 3)) := (Grows.refl _).alloc _
    have hA0 : Arr (w.alloc (.cells #[.int .i64 (p.start : Int)] 3)) 1 encI (some ⟨w.heap.size, 0, none⟩) 1 [p.start] := ⟨rfl, fun _ => ⟨w.heap.size, 0, rfl, hN.lt, fun i hi j u hu => by
      have hi0 : i = 0 := by simp at hi; omega
      have hj : j = 0 := by have := (List.getElem?_eq_some_iff.1 hu).1; simp [encI] at this; omega
      subst hi0 hj
      rw [hN.cell]
      exact hu⟩⟩
    have cR := Lib.hid (reach_any (c := 1) (hP.grows hg1) (hS.grows hg1) hok.out hA0 (by omega) (fun k hk => by rw [List.mem_singleton] at hk; subst hk; exact hok.out.start))
    replace hP := Lib.hid hP
    replace hS := Lib.hid hS
    clear hN hA0
    go_enter Tryz.func150, Tryz.ntmps150
    go_wp2_with fail
    refine (cR.out).mono ?_
    rintro e w1 ⟨vl, rfl, hO, hg2⟩
    replace hO := Lib.hid (hO.base_le (show w.heap.size ≤ _ by simp))
    have hG := Lib.hid (hg1.trans hg2)
    clear hg1 hg2 cR cS lP
    go_wp2_with (refine wpList_conv rfl (.tmp 17) rfl rfl (by rw [bsize]; omega) ?_; intro v1 w2 hB hg3; (obtain ⟨bA, bc, hbv, -, -, hbA⟩ := hB.arr); (rw [numsB_len, bsize] at hbv hbA); subst hbv; (replace hbA := Lib.hid hbA); (replace hO := Lib.hid (hO.out.grows hg3)); (replace hG := Lib.hid (hG.out.trans hg3)); clear hg3 hB)
    have hf0 : pfitsL p (t.take 0) = sortN (reachR p.sts [p.start]) := rfl
    rw [← hf0] at hO
    clear hf0
    have hGr2 := Lib.hid (Grows.refl w2)
    go_loopw [5, 7, 20] (fun vl _ i wr => ∃ q : Nat, q ≤ t.length ∧ i = .int .i64 (q : Int) ∧ Hid (Own wr w.heap.size 3 1 encI vl (pfitsL p (t.take q))) ∧ Hid (Grows w wr) ∧ Hid (Grows w2 wr)) (fun _ _ i _ => t.length - (intOf i).toNat)
    case atStart => exact ⟨0, by omega, rfl, hO, hG, hGr2⟩
    case round =>
      clear hO hG hGr2
      obtain ⟨q, hq, rfl, hO, hG, hG2⟩ := hrel
      have hlen := pfitsL_ok hok.out (t.take q)
      obtain ⟨oA, oc, hov, -, -, hoA⟩ := hO.out.arr hkI
      have hszw := Lib.hid hG.out.size
      by_cases hqm : q < t.length
      · obtain ⟨bb, off, x, rfl, hs0, hx, hcell⟩ := (hbA.out.keep hG2.out).at_ hqm
        have c0 : wr.cell? ⟨bb, off + q, none⟩ = some (.int .u8 (x : Int)) := by simpa using hcell 0 _ rfl
        have hqi : (q : Int) < (t.length : Int) := by omega
        obtain ⟨ch, hch⟩ : ∃ ch, t[q]? = some ch := ⟨_, List.getElem?_eq_getElem hqm⟩
        have hxc : x = ch.toNat := by
          rw [numsB_nums, nums, List.getElem?_map, hch] at hx
          simpa using hx.symm
        subst hxc
        have htk := Lib.hid (pfitsL_take (p := p) hch)
        have cS := Lib.hid (step_any (cp := oc) (hP.out.grows hG.out) (hS.out.grows hG.out) hok.out hoA (by have := hok.out.len; omega) hlen.1 ch.toNat_lt)
        clear hlen hoA hcell hx hch
        generalize (pfitsL p (t.take q)) = cur at *
        subst hov
        go_wp2_with fail
        refine (cS.out).mono ?_
        rintro e w5 ⟨v5, rfl, hO5, hg5⟩
        replace hO5 := Lib.hid (hO5.base_le hszw.out)
        go_wp2
        go_roundw
        case rel => exact ⟨q + 1, by omega, by go_num, Lib.hid (by rw [htk.out]; exact hO5.out), Lib.hid (hG.out.trans hg5), Lib.hid (hG2.out.trans hg5)⟩
        case measure => simp [intOf]; omega
      · obtain rfl : q = t.length := by omega
        rw [List.take_length] at hO hlen hoA hov
        have cH := Lib.hid (hasI_any (c := oc) (v := p.stop) wr hoA (by have := hok.out.len; omega))
        have cE2 := hG.out.cell cE.out
        rw [← hR.out] at cH
        clear hlen hoA
        generalize (pfitsL p t) = cur at *
        subst hov
        go_wp2_with fail
        refine (cH.out).mono ?_
        rintro e w9 ⟨rfl, hg9⟩
        go_wp2
        go_ret
        exact ⟨rfl, hG.out.trans hg9⟩
theorem fits2_any (w : World) (s t : List UInt8) (ht : t.length ≤ 1000000) : Calls Tryz.prog 138 #[.string ⟨s.toArray⟩, .string ⟨t.toArray⟩] w fun e w' => e = .returned (.bool (fitsPat s t)) ∧ Grows w w' := by
  have cR := Lib.hid (read_any w s)
  go_enter Tryz.func138, Tryz.ntmps138
  go_wp2_with fail
  refine (cR.out).mono ?_
  rintro e w1 ⟨v, rfl, hv, hg⟩
  clear cR
  have cF := Lib.hid (pfits_any hv ht)
  go_wp2_with fail
  refine (cF.out).mono ?_
  rintro e w2 ⟨rfl, hg2⟩
  go_wp2
  go_ret
  exact ⟨rfl, hg.trans hg2⟩
end Go.Proofs.YtfoffneipdkdjaaGreatDoor
