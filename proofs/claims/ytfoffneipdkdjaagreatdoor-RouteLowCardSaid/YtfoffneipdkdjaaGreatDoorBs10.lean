/- Parts: PatP CatB ShaN ShaO KeyA KeyB AlrF AlrG IdsA IdsB IdsC CatG -/
import Derived.Test.YtfoffneipdkdjaaGreatDoorBs5
import Derived.Lib.AppendZeros
import Derived.Test.YtfoffneipdkdjaaGreatDoorBs7
import Derived.Test.YtfoffneipdkdjaaGreatDoorBs4
import Derived.Test.YtfoffneipdkdjaaGreatDoorBs9
import Derived.Test.YtfoffneipdkdjaaGreatDoorBs3
import Derived.Laws.CopyRow
import Derived.Laws.Externs
namespace Go.Proofs.YtfoffneipdkdjaaGreatDoor

/-- A state: the bytes by which one goes on (four words), or none; where to; where to without a byte. -/
structure PSt where
  set : Option (List Nat)
  next : Nat
  free : List Nat
structure PB where
  at_ : Nat
  err : Nat
  sts : List PSt
/-- A part: from, to. -/
abbrev PPt := Nat × Nat
def pkP (s : List UInt8) (b : PB) : Option UInt8 := if b.err = 0 then s[b.at_]? else none
def failP (e : Nat) (b : PB) : PB := if b.err = 0 then { b with err := e } else b
def advP (b : PB) : PB := { b with at_ := b.at_ + 1 }
def emptySt : PSt := ⟨none, 0, []⟩
def nodeP (b : PB) : PB := { b with sts := b.sts ++ [emptySt] }
def freeP (i j : Nat) (b : PB) : PB := { b with sts := b.sts.modify i fun x => { x with free := x.free ++ [j] } }
def zeroW : List Nat := [0, 0, 0, 0]
def addBit (ws : List Nat) (c : Nat) : List Nat := ws.modify (c / 64) fun x => x ||| 2 ^ (c % 64)
def addSet (ws : List Nat) (lo hi : Nat) : List Nat := (List.range' lo (hi + 1 - lo)).foldl addBit ws
def turnSet (ws : List Nat) : List Nat := ws.map fun x => 18446744073709551615 - x
def hasSet (ws : List Nat) (c : Nat) : Bool := (ws.getD (c / 64) 0).testBit (c % 64)
def oneP (ws : List Nat) (b : PB) : PB × PPt := ({ b with sts := (nodeP (nodeP b)).sts.modify b.sts.length fun x => { x with set := some ws, next := b.sts.length + 1 } }, (b.sts.length, b.sts.length + 1))
def signP (s : List UInt8) (b : PB) : PB × UInt8 :=
  if pkP s b = some 92 then (match pkP s (advP b) with
    | none => (failP 2 (advP (advP b)), 0)
    | some c => (advP (advP b), c))
  else (match pkP s b with
    | none => (failP 2 (advP b), 0)
    | some c => (advP b, c))
/-- A class: its bytes, behind its [ and ^. -/
def classL (s : List UInt8) : Nat → Bool → PB → List Nat → PB × List Nat
  | 0, _, b, ws => (failP 2 b, ws)
  | f + 1, first, b, ws => match pkP s b with
    | none => (failP 2 b, ws)
    | some d =>
      if d = 93 ∧ first = true then (failP 2 b, ws)
      else if d = 93 then (advP b, ws)
      else
        let r := signP s b
        let q := if pkP s r.1 = some 45 ∧ r.1.at_ + 1 < s.length ∧ s[r.1.at_ + 1]? ≠ some 93 then signP s (advP r.1) else r
        classL s f false (if q.2.toNat < r.2.toNat then failP 2 q.1 else q.1) (addSet ws r.2.toNat q.2.toNat)
def classP (s : List UInt8) (b : PB) : PB × List Nat :=
  if pkP s b = some 94 then let r := classL s (s.length + 1) true (advP b) zeroW; (r.1, turnSet r.2)
  else classL s (s.length + 1) true b zeroW
def oddB (c : UInt8) : Bool := c ∈ ([42, 43, 63, 124, 40, 41, 91, 93, 92, 46] : List UInt8)
/-- An atom, c its first byte (which stands at b.at); 'sub': what reads alternatives within, none where it is too deep. -/
def atomP (s : List UInt8) (sub : Option (PB → PB × PPt)) (c : UInt8) (b : PB) : PB × PPt :=
  if c = 40 then (match sub with
    | none => oneP zeroW (failP 3 (advP b))
    | some f => let r := f (advP b); (advP (if pkP s r.1 = some 41 then r.1 else failP 2 r.1), r.2))
  else if c = 91 then let r := classP s (advP b); oneP r.2 r.1
  else if c = 46 then oneP (turnSet zeroW) (advP b)
  else if c = 92 then (match pkP s (advP b) with
    | none => oneP (addSet zeroW 0 0) (advP (failP 2 (advP b)))
    | some d => oneP (addSet zeroW d.toNat d.toNat) (advP (advP b)))
  else if oddB c then oneP zeroW (failP 2 (advP b))
  else oneP (addSet zeroW c.toNat c.toNat) (advP b)
def postB (c : UInt8) : Bool := c ∈ ([42, 43, 63] : List UInt8)
def timesP (s : List UInt8) (b : PB) (x : PPt) : PB × PPt := match pkP s b with
  | none => (b, x)
  | some c => if postB c then
      let n := b.sts.length
      let b1 := freeP x.2 (n + 1) (freeP n x.1 (nodeP (nodeP (advP b))))
      let b2 := if c = 43 then b1 else freeP n (n + 1) b1
      let b3 := if c = 63 then b2 else freeP x.2 x.1 b2
      (b3, (n, n + 1))
    else (b, x)
def rowL (s : List UInt8) (sub : Option (PB → PB × PPt)) : Nat → PPt → PB → PB × PPt
  | 0, p, b => (b, p)
  | f + 1, p, b => match pkP s b with
    | none => (b, p)
    | some c => if c = 124 ∨ c = 41 then (b, p) else
        let r := atomP s sub c b
        let q := timesP s r.1 r.2
        rowL s sub f (p.1, q.2.2) (freeP p.2 q.2.1 q.1)
def rowP (s : List UInt8) (sub : Option (PB → PB × PPt)) (b : PB) : PB × PPt := rowL s sub (s.length + 1) (b.sts.length, b.sts.length) (nodeP b)
def eitherL (s : List UInt8) (sub : Option (PB → PB × PPt)) : Nat → PPt → PB → PB × PPt
  | 0, p, b => (b, p)
  | f + 1, p, b =>
    let r := rowP s sub b
    let b1 := freeP r.2.2 p.2 (freeP p.1 r.2.1 r.1)
    if pkP s b1 = some 124 then eitherL s sub f p (advP b1) else (b1, p)
/-- Alternatives; d: how much deeper one may go. -/
def eitherP (s : List UInt8) : Nat → PB → PB × PPt
  | 0, b => eitherL s none (s.length + 1) (b.sts.length, b.sts.length + 1) (nodeP (nodeP b))
  | d + 1, b => eitherL s (some (eitherP s d)) (s.length + 1) (b.sts.length, b.sts.length + 1) (nodeP (nodeP b))
structure PPat where
  sts : List PSt
  start : Nat
  stop : Nat
def readB (s : List UInt8) : PB × PPt := let r := eitherP s 8 ⟨0, 0, []⟩; (if r.1.at_ < s.length then failP 2 r.1 else r.1, r.2)
/-- Why a text is no pattern; 0: it is one. -/
def patErr (s : List UInt8) : Nat := if 100 < s.length then 4 else (readB s).1.err
def patOf (s : List UInt8) : Option PPat := if 100 < s.length ∨ (readB s).1.err ≠ 0 then none else some ⟨(readB s).1.sts, (readB s).2.1, (readB s).2.2⟩
end Go.Proofs.YtfoffneipdkdjaaGreatDoor
namespace Go.Proofs.YtfoffneipdkdjaaGreatDoor
open Go.RowKit

theorem run_grow0 {n : Nat} (w : World) (h0 : 0 < n) (hn : n ≤ 1099511700000) (ty : TypeId) :
    ∃ g cap w', (Builtin.append_ #[81, 3] ty #[.slice none 0 0, .int .i64 n]).run Tryz.prog w = .ok (.slice (some ⟨g, 0, none⟩) n cap) w' ∧ n ≤ cap ∧ cap ≤ maxLen ∧ OwnB w' w.heap.size (.slice (some ⟨g, 0, none⟩) 0 cap) [] ∧ Grows w w' := by
  obtain ⟨i, hi, hz, hsz, hby⟩ := bb_info
  have hr := Lib.run_append_nil_zeros (P := Tryz.prog) w 81 3 ty 5 i (.int .u8 0) .i64 .i64 Tryz.underlying81 Tryz.underlying3 hi hz n h0 (by omega) (by omega) (by rw [hby]; omega)
  have hge := grownCap_ge w n 0 5
  have hcm := grownCap_le_maxLen w n 0 5 (by unfold maxLen; omega)
  refine ⟨_, _, _, hr, hge, hcm, .inr ⟨w.heap.size, _, _, (0, 0), rfl, Nat.le_refl _, heap_alloc_new w.drew _, fun j _ => by simp, by simp, hcm, ?_, fun i hi => absurd hi (by simp)⟩, (Grows.refl w).drew.alloc _⟩
  simp only [Array.size_append, size_zeroCells, Value.cells]
  simp
  omega
set_option maxRecDepth 100000 in
theorem grow0_any {n : Nat} (w : World) (hn : n ≤ 1099511700000) :
    Calls Tryz.prog 94 #[.slice none 0 0, .int .i64 n] w fun e w' => ∃ v, e = .returned v ∧ OwnB w' w.heap.size v [] ∧ Grows w w' := by
  by_cases h0 : n = 0
  · subst h0
    go_enter Tryz.func94, Tryz.ntmps94
    go_wp2
    go_ret
    exact ⟨_, rfl, OwnB.nil_ _ _, Grows.refl _⟩
  · have hi : (0 : Int) < (n : Int) := by omega
    have hi2 : ¬ ((n : Int) < 0) := by omega
    have hb : 0 ≤ (n : Int) ∧ (n : Int) ≤ 1099511700000 := by omega
    have h1 : 0 < n := by omega
    replace h1 := Lib.hid h1
    go_enter Tryz.func94, Tryz.ntmps94
    obtain ⟨g, cap, w1, hr, hge, hcm, hO, hG⟩ := run_grow0 w h1.out hn 81
    have hcm2 := hcm
    replace hO := Lib.hid hO
    replace hG := Lib.hid hG
    go_wp2_with (at_builtin; (refine Lib.wpList_append_run _ rfl (.tmp 20) (.tmp 21) _ _ rfl _ _ rfl rfl _ _ hr ?_))
    go_ret
    exact ⟨_, rfl, hO.out, hG.out⟩
/-- A slice of bytes as an element of a slice. -/
structure Bsl where
  A : Option Addr
  n : Nat
  c : Nat
  xs : List Nat
def encBs (b : Bsl) : List Value := [.slice b.A b.n b.c]
def catL (bs : List Bsl) : List Nat := bs.flatMap (·.xs)
theorem catL_take {bs : List Bsl} {k : Nat} {b : Bsl} (h : bs[k]? = some b) : catL (bs.take (k + 1)) = catL (bs.take k) ++ b.xs := by
  rw [List.take_add_one, h]; simp [catL]
theorem catL_le (bs : List Bsl) (k : Nat) : (catL (bs.take k)).length ≤ (catL bs).length := by
  have : catL bs = catL (bs.take k) ++ catL (bs.drop k) := by
    unfold catL
    rw [← List.flatMap_append, List.take_append_drop]
  rw [this, List.length_append]
  omega
set_option maxRecDepth 100000 in
set_option maxHeartbeats 800000 in
theorem concatB_any {A : Option Addr} {L c : Nat} {bs : List Bsl} (w : World) (hA : Arr w 1 encBs A L bs) (hb : ∀ b ∈ bs, Arr w 1 encB b.A b.n b.xs) (ht : (catL bs).length ≤ 1099511627776) (hL2 : L ≤ 1000) :
    Calls Tryz.prog 45 #[.slice A L c] w fun e w' => ∃ v, e = .returned v ∧ OwnB w' w.heap.size v (catL bs) ∧ Grows w w' := by
  have hL := hA.1
  have cG := fun n W h => grow0_any (n := n) W h
  replace cG := Lib.hid cG
  replace hA := Lib.hid hA
  replace hb := Lib.hid hb
  go_enter Tryz.func45, Tryz.ntmps45
  go_wp2
  go_loopw [3, 11] (fun n i wr => ∃ k : Nat, k ≤ L ∧ i = .int .i64 k ∧ n = .int .i64 ((catL (bs.take k)).length : Nat) ∧ w = wr) (fun _ i _ => L - (intOf i).toNat)
  case atStart => exact ⟨0, by omega, rfl, rfl, rfl⟩
  case round =>
    obtain ⟨k, hk, rfl, rfl, rfl⟩ := hrel
    by_cases hlt : k < L
    · obtain ⟨bb, off, b, rfl, hs0, hx, hcell⟩ := hA.out.at_ hlt
      have c0 : w.cell? ⟨bb, off + k, none⟩ = some (.slice b.A b.n b.c) := by simpa using hcell 0 _ rfl
      have h1 := catL_take hx
      have h2 := catL_le bs (k + 1)
      have h3 := (hb.out b (List.mem_of_getElem? hx)).1
      rw [h1, List.length_append, h3] at h2
      have h4 : (catL (bs.take (k + 1))).length = (catL (bs.take k)).length + b.n := by rw [h1, List.length_append, h3]
      generalize hY : (catL (bs.take (k + 1))).length = Y at *
      replace hY := Lib.hid hY
      generalize (catL (bs.take k)).length = X at *
      have hki : (k : Int) < (L : Int) := by omega
      have h5 : ¬ ((X : Int) + (b.n : Int) < 0) := by omega
      have h6 : 0 ≤ (X : Int) ∧ (X : Int) ≤ 1099511627776 ∧ (b.n : Int) ≤ 1099511627776 := by omega
      replace h4 := Lib.hid h4
      clear h1 hx hcell h3
      go_wp2
      go_roundw
      case rel => exact ⟨k + 1, by omega, by go_num, by rw [hY.out, h4.out, Int.natCast_add], trivial⟩
      case measure => simp [intOf]; omega
    · obtain rfl : k = L := by omega
      rw [List.take_of_length_le (by omega)]
      go_wp2_with fail
      refine (cG.out _ _ (by omega)).mono ?_
      rintro e w1 ⟨v1, rfl, hO, hG⟩
      have hO0 : Hid (OwnB w1 w.heap.size v1 (catL (bs.take 0))) := hO
      replace hG := Lib.hid hG
      clear hO cG
      go_wp2
      go_loopw [6, 27] (fun v i wx => ∃ j : Nat, j ≤ k ∧ i = .int .i64 j ∧ Hid (OwnB wx w.heap.size v (catL (bs.take j))) ∧ Hid (Grows w wx)) (fun _ i _ => k - (intOf i).toNat)
      case atStart => exact ⟨0, by omega, rfl, hO0, hG⟩
      case round =>
        clear hO0 hG
        obtain ⟨j, hj, rfl, hO, hG⟩ := hrel
        by_cases hjl : j < k
        · obtain ⟨bb, off, b, rfl, hs0, hx, hcell⟩ := (hA.out.keep hG.out).at_ hjl
          have c0 : wr.cell? ⟨bb, off + j, none⟩ = some (.slice b.A b.n b.c) := by simpa using hcell 0 _ rfl
          have h1 := catL_take hx
          have h2 := catL_le bs (j + 1)
          have hbA := (hb.out b (List.mem_of_getElem? hx)).keep hG.out
          have h3 := hbA.1
          rw [h1, List.length_append, h3] at h2
          have hki : (j : Int) < (k : Int) := by omega
          replace h1 := Lib.hid h1
          replace hbA := Lib.hid hbA
          clear hx hcell h3
          go_wp2_with (at_builtin; (refine wpList_appB rfl (.tmp 31) (.tmp 32) rfl rfl rfl hO.out hbA.out hG.out.size (by omega) ?_; intro v2 w2 hO2 hby2; (have hG2 := Lib.hid (hG.out.by_row hby2 hO.out.block_ge)); (replace hO2 := Lib.hid hO2); clear hby2))
          go_roundw
          case rel => exact ⟨j + 1, by omega, by go_num, by rw [h1.out]; exact hO2, hG2⟩
          case measure => simp [intOf]; omega
        · obtain rfl : j = k := by omega
          have hO3 := hO.out
          rw [List.take_of_length_le (by omega)] at hO3
          go_wp2
          go_ret
          exact ⟨_, rfl, hO3, hG.out⟩
end Go.Proofs.YtfoffneipdkdjaaGreatDoor
namespace Go.Proofs.YtfoffneipdkdjaaGreatDoor
open Go.RowKit

set_option maxRecDepth 100000 in
set_option maxHeartbeats 1600000 in
theorem of_any {A : Option Addr} {m c : Nat} {bs : List Nat} (w : World) (hA : Arr w 1 encB A m bs) (hb : ∀ x ∈ bs, x < 256) (hm : m ≤ 1099511627776) :
    Calls Tryz.prog 64 #[.slice A m c] w fun e w' => e = .returned (.agg (u8s (sha bs))) ∧ Grows w w' := by
  have hml := hA.1
  have cN := fun W => newSum_any W
  replace cN := Lib.hid cN
  replace hA := Lib.hid hA
  replace hb := Lib.hid hb
  go_enter Tryz.func64, Tryz.ntmps64
  go_wp2_with fail
  refine named_alloc (Pr := fun W => Calls _ _ _ W _) (fun w1 hB2 hG1 => ?_)
  replace hB2 : Blk w1 w.heap.size 83 (u8s (List.replicate 32 0)) := hB2.cast (by kernel_rfl)
  obtain ⟨g2, hg2⟩ : ∃ g2, g2 = w.heap.size := ⟨_, rfl⟩
  rw [← hg2] at hB2 ⊢
  replace hg2 := Lib.hid hg2
  refine (cN.out _).mono ?_
  rintro e w2 ⟨g, rfl, hgs, hS, hG2⟩
  have hG := hG1.trans hG2
  have hlt2 := hB2.lt
  have hwg : w.heap.size ≤ g := Nat.le_trans hG1.size hgs
  have hAp : BytesApart w2 g A m bs := by
    refine ⟨hA.out.keep hG, fun ad e hn => ?_⟩
    obtain ⟨b, off, e2, hlt, _⟩ := hA.out.2 hn
    rw [e] at e2
    cases e2
    simp only
    omega
  have cAdd := add_any (W0 := w1) (v := startV) (xs := []) (ys := bs) (c := c) startV_ok w2 hG2 hgs hS (Own.nil_ _ _ _ _ _) hAp hb.out (by simpa using hm) (by omega) (by omega)
  simp only [List.nil_append] at cAdd
  replace cAdd := Lib.hid cAdd
  replace hB2 := Lib.hid hB2
  replace hG1 := Lib.hid hG1
  clear hS hG2 hG hAp hgs hA
  go_wp2_with fail
  refine (cAdd.out).mono ?_
  rintro e w3 ⟨n, A3, c3, rfl, hn1, hn2, hS3, hB3, -, -, hG3⟩
  clear cAdd
  have hfin := shaV_rest (l := bs) (r := bs.drop (64 * n)) (m := n) (by rw [List.length_drop]; omega) rfl
  have hrl : (bs.drop (64 * n)).length = bs.length - 64 * n := List.length_drop
  rw [← hrl] at hS3 hB3
  rw [show (0 : Int) + (m : Int) = ((m : Nat) : Int) by omega] at hS3
  have cNow := now_any (N := m) (blocks_ok n bs startV_ok) w3 hS3 hB3.1 (fun x hx => hb.out x (List.mem_of_mem_drop hx)) (by rw [hrl]; omega) hm
  rw [← hml, ← hfin] at cNow
  have hD : bytesV (shaV bs) = sha bs := rfl
  rw [hD] at cNow
  have hDl : (sha bs).length = 32 := bytesV_len _
  generalize hDD : sha bs = D at *
  replace hDD := Lib.hid hDD
  have hB4 := hB2.out.grows hG3
  have hG4 := hG1.out.trans hG3
  have hle2 : w.heap.size ≤ g2 := Nat.le_of_eq hg2.out.symm
  have hsz : (u8s D).size = 32 := by rw [u8s_size]; exact hDl
  have hDsz : (Tryz.prog.info? 83).map (·.size) = some (u8s D).size := by rw [hsz]; kernel_rfl
  have hold : (u8s (List.replicate 32 0)).size = (u8s D).size := by rw [hsz, u8s_size]; rfl
  have h1 := u8s_one D
  replace cNow := Lib.hid cNow
  replace hDsz := Lib.hid hDsz
  replace hold := Lib.hid hold
  replace h1 := Lib.hid h1
  replace hB4 := Lib.hid hB4
  replace hG4 := Lib.hid hG4
  clear hS3 hB3 hfin hrl hD hDl hsz hB2 hG1 hn1 hn2 hG3
  go_wp2_with fail
  refine (cNow.out).mono ?_
  rintro e w4 ⟨rfl, hG5⟩
  replace hB4 := Lib.hid (hB4.out.grows hG5)
  have hGf := (hG4.out.trans hG5).by_then (grownBy_setRow w4 g2 (u8s D)) hle2
  have hRf := setRow_heap w4 g2 _ (u8s D) _ _ hB4.out
  replace hGf := Lib.hid hGf
  replace hRf := Lib.hid hRf
  clear hG5 hG4 cNow
  go_wp2_with (refine wpList_store_row rfl 83 (.tmp 2) (.tmp 9) rfl g2 (u8s D) rfl rfl 83 _ hB4.out hDsz.out hold.out h1.out ?_)
  rw [hDD.out]
  exact bodyPost_ret (v := .agg (u8s D)) (results_cell_row (p := 2) (ty := 83) (by kernel_rfl) _ _ g2 83 (u8s D) (0, 0) _ rfl hRf.out Tryz.underlying83 rfl hDsz.out) rfl ⟨rfl, hGf.out⟩
theorem short_any {A : Option Addr} {m c : Nat} {bs : List Nat} (w : World) (hA : Arr w 1 encB A m bs) (hb : ∀ x ∈ bs, x < 256) (hm : m ≤ 1099511627776) :
    Calls Tryz.prog 31 #[.slice A m c] w fun e w' => e = .returned (.int .u64 ((shortTo (sha bs) 8 : Nat) : Int)) ∧ Grows w w' := by
  refine short_of w (of_any w hA hb hm) (bytesV_len _) (fun x hx => ?_)
  unfold sha bytesV at hx
  simp only [List.mem_flatMap] at hx
  obtain ⟨y, _, hy⟩ := hx
  simp only [List.mem_cons, List.not_mem_nil, or_false] at hy
  rcases hy with rfl | rfl | rfl | rfl <;> exact Nat.mod_lt _ (by decide)
end Go.Proofs.YtfoffneipdkdjaaGreatDoor
namespace Go.Proofs.YtfoffneipdkdjaaGreatDoor
open Go.RowKit

def lenOf : Value → Nat
  | .slice _ n _ => n
  | _ => 0
end Go.Proofs.YtfoffneipdkdjaaGreatDoor
namespace Go.Proofs.YtfoffneipdkdjaaGreatDoor
open Go.RowKit

/-- What a key's bytes are, with so many fields. -/
def keyNums (R : List UInt8) (a : Int) (fs : List Fld) : List Nat := nums R ++ [0, (a % 256).toNat] ++ nums (fs.flatMap partBytes)
theorem keyNums_nil (R : List UInt8) (a : Int) : keyNums R a [] = nums R ++ [0, (a % 256).toNat] := by simp [keyNums, nums]
theorem keyNums_snoc (R : List UInt8) (a : Int) (fs : List Fld) (f : Fld) : keyNums R a (fs ++ [f]) = (((keyNums R a fs ++ nums f.n) ++ [61]) ++ nums f.v) ++ [0] := by
  simp [keyNums, partBytes, nums]
theorem keyNums_lt (R : List UInt8) (a : Int) (fs : List Fld) : ∀ x ∈ keyNums R a fs, x < 256 := by
  intro x hx
  unfold keyNums at hx
  simp only [List.mem_append, List.mem_cons, List.not_mem_nil, or_false] at hx
  rcases hx with (h | rfl | rfl) | h
  · exact nums_lt _ x h
  · omega
  · have := Int.emod_lt_of_pos a (show (0 : Int) < 256 by decide)
    have := Int.emod_nonneg a (show (256 : Int) ≠ 0 by decide)
    omega
  · exact nums_lt _ x h
theorem keyNums_len (R : List UInt8) (a : Int) (fs : List Fld) (h : ∀ f ∈ fs, f.n.length + f.v.length ≤ 1000) : (keyNums R a fs).length ≤ R.length + 2 + 1002 * fs.length := by
  have h2 : (fs.flatMap partBytes).length ≤ 1002 * fs.length := by
    induction fs with
    | nil => simp
    | cons f fs ih =>
      have h1 := h f (by simp)
      have h3 := ih (fun g hg => h g (by simp [hg]))
      simp only [List.flatMap_cons, List.length_append, List.length_cons]
      have : (partBytes f).length = f.n.length + f.v.length + 2 := by simp [partBytes]; omega
      omega
  simp only [keyNums, List.length_append, nums_len, List.length_cons, List.length_nil]
  omega
end Go.Proofs.YtfoffneipdkdjaaGreatDoor
namespace Go.Proofs.YtfoffneipdkdjaaGreatDoor
open Go.RowKit

theorem Arr.of_blk {α : Type} {w : World} {g : Nat} {t : TypeId} {enc : α → List Value} {e1 : α → Value} (he : ∀ x, enc x = [e1 x]) {bs : List α} (h : Blk w g t (bs.map e1).toArray) : Arr w 1 enc (some ⟨g, 0, none⟩) bs.length bs := by
  refine ⟨rfl, fun _ => ⟨g, 0, rfl, h.lt, fun i hi j u hu => ?_⟩⟩
  rw [he] at hu
  have hj : j = 0 := by have := (List.getElem?_eq_some_iff.1 hu).1; simp at this; omega
  subst hj
  rw [h.cell]
  simp only [List.getElem?_cons_zero, Option.some.injEq] at hu
  simp [hi, ← hu]
set_option maxRecDepth 100000 in
set_option maxHeartbeats 1600000 in
theorem bytesOf_any {R : List UInt8} {a : Int} {A : Option Addr} {m c : Nat} {fs : List Fld} (w : World) (hA : Arr w 2 encF A m fs) (hR : R.length ≤ 1000) (hm : m ≤ 100) (hf : ∀ f ∈ fs, f.n.length + f.v.length ≤ 1000) :
    Calls Tryz.prog 32 #[.string ⟨R.toArray⟩, .int .i64 a, .slice A m c] w fun e w' => ∃ v, e = .returned v ∧ OwnB w' w.heap.size v (keyNums R a fs) ∧ Grows w w' := by
  have hml := hA.1
  have hkl := fun k => keyNums_len R a (fs.take k) (fun f h => hf f (List.mem_of_mem_take h))
  have hkb : ∀ k, (keyNums R a (fs.take k)).length ≤ 200000 := fun k => by
    have h1 := hkl k
    have h2 : (fs.take k).length ≤ 100 := by rw [List.length_take]; omega
    omega
  have hb0 := Int.emod_nonneg a (show (256 : Int) ≠ 0 by decide)
  have ha : a % 256 = (((a % 256).toNat : Nat) : Int) := by omega
  generalize hB : (a % 256).toNat = B at ha
  replace hB := Lib.hid hB
  replace hA := Lib.hid hA
  replace hf := Lib.hid hf
  replace hkb := Lib.hid hkb
  clear hkl hb0
  go_enter Tryz.func32, Tryz.ntmps32
  go_wp2_with (first | (refine wpList_conv rfl (.tmp 10) rfl rfl (by rw [bsize]; omega) ?_; intro v1 w1 hO1 hG1; (replace hO1 := Lib.hid hO1); (replace hG1 := Lib.hid hG1)) | (at_builtin; (refine wpList_appB rfl (.tmp 11) (.tmp 14) rfl rfl rfl (hO1.out.alloc (.cells #[.int .u8 ((0 : Nat) : Int), .int .u8 (B : Int)] 5)) (Arr.bytes2 (Blk.new w1 5 _)) (hG1.out.alloc (.cells #[.int .u8 ((0 : Nat) : Int), .int .u8 (B : Int)] 5)).size (by rw [numsB_len, bsize]; omega) ?_; intro v2 w2 hO2 hby2; (have hG2 := Lib.hid ((hG1.out.alloc (.cells #[.int .u8 ((0 : Nat) : Int), .int .u8 (B : Int)] 5)).by_row hby2 hO1.out.block_ge)); (replace hO2 := Lib.hid hO2); clear hby2)))
  have hO0 : Hid (OwnB w2 w.heap.size v2 (keyNums R a (fs.take 0))) := by
    rw [List.take_zero, keyNums_nil, hB.out]
    exact hO2
  clear hO1 hG1 hO2
  go_loopw [7, 18] (fun b i wr => ∃ k : Nat, k ≤ m ∧ i = .int .i64 k ∧ Hid (OwnB wr w.heap.size b (keyNums R a (fs.take k))) ∧ Hid (Grows w wr)) (fun _ i _ => m - (intOf i).toNat)
  case atStart => exact ⟨0, by omega, rfl, hO0, hG2⟩
  case round =>
    clear hO0 hG2
    obtain ⟨k, hk, rfl, hO, hG⟩ := hrel
    by_cases hkm : k < m
    · obtain ⟨bb, off, f, rfl, hsx, hx, hcell⟩ := (hA.out.keep hG.out).at_ hkm
      have c0 : wr.cell? ⟨bb, off + k * 2, none⟩ = some (.string ⟨f.n.toArray⟩) := by simpa using hcell 0 _ rfl
      have c1 : wr.cell? ⟨bb, off + k * 2 + 1, none⟩ = some (.string ⟨f.v.toArray⟩) := by simpa using hcell 1 _ rfl
      have hfl := hf.out f (List.mem_of_getElem? hx)
      have hkk := hkb.out k
      have hkk2 := hkb.out (k + 1)
      have htk : fs.take (k + 1) = fs.take k ++ [f] := by rw [List.take_add_one, hx]; rfl
      have hsn := keyNums_snoc R a (fs.take k) f
      rw [← htk] at hsn
      have hki : (k : Int) < (m : Int) := by omega
      obtain ⟨A0, c0', hv0, hn0, hm0, hA0⟩ := hO.out.arr
      generalize hN0 : (keyNums R a (fs.take k)).length = N0 at *
      subst hv0
      replace hsn := Lib.hid hsn
      replace hA0 := Lib.hid hA0
      clear hcell hx htk
      go_wp2_with (first | (refine wpList_conv rfl (.tmp 24) rfl rfl (by rw [bsize]; omega) ?_; intro v3 w3 hO3 hG3; (obtain ⟨A3, c3, hv3, _, _, hA3⟩ := hO3.arr); (rw [numsB_len, bsize] at hv3 hA3); subst hv3; (replace hA3 := Lib.hid hA3); (have b9 := (Blk.new wr 76 #[.string ⟨f.n.toArray⟩, .string ⟨f.v.toArray⟩]).grows hG3); (have d1 : w3.cell? ⟨wr.heap.size, 1, none⟩ = some (.string ⟨f.v.toArray⟩) := b9.cell 1); (have z1 := b9.lt); (replace hG3 := Lib.hid hG3); clear hO3 b9) | (refine wpList_conv rfl (.tmp 28) rfl rfl (by rw [bsize]; omega) ?_; intro v5 w5 hO5 hG5; (obtain ⟨A5, c5, hv5, _, _, hA5⟩ := hO5.arr); (rw [numsB_len, bsize] at hv5 hA5); subst hv5; (replace hA5 := Lib.hid hA5); (replace hG5 := Lib.hid hG5); clear hO5))
      have g3 : Grows wr w3 := ((Grows.refl wr).alloc _).trans hG3.out
      have g5 : Grows w3 w5 := ((Grows.refl w3).alloc _).trans hG5.out
      have gW : Grows w5 ((w5.alloc (.cells #[.int .u8 0] 5)).alloc (.cells #[.slice A0 N0 c0', .slice A3 f.n.length c3, .slice (some ⟨w3.heap.size, 0, none⟩) 1 1, .slice A5 f.v.length c5, .slice (some ⟨w5.heap.size, 0, none⟩) 1 1] 81)) := ((Grows.refl w5).alloc _).alloc _
      have hct : catL [⟨A0, N0, c0', keyNums R a (fs.take k)⟩, ⟨A3, f.n.length, c3, numsB ⟨f.n.toArray⟩⟩, ⟨some ⟨w3.heap.size, 0, none⟩, 1, 1, [61]⟩, ⟨A5, f.v.length, c5, numsB ⟨f.v.toArray⟩⟩, ⟨some ⟨w5.heap.size, 0, none⟩, 1, 1, [0]⟩] = keyNums R a (fs.take (k + 1)) := by
        rw [hsn.out, numsB_nums, numsB_nums]
        simp [catL]
      have h61 : Arr w5 1 encB (some ⟨w3.heap.size, 0, none⟩) 1 [61] := (Arr.one_byte (x := 61) (Blk.new w3 5 #[.int .u8 ((61 : Nat) : Int)])).keep hG5.out
      have h00 : Arr (w5.alloc (.cells #[.int .u8 0] 5)) 1 encB (some ⟨w5.heap.size, 0, none⟩) 1 [0] := Arr.one_byte (x := 0) (Blk.new w5 5 #[.int .u8 ((0 : Nat) : Int)])
      refine (concatB_any (L := 5) (c := 5) (A := some ⟨w5.heap.size + 1, 0, none⟩) (bs := [⟨A0, N0, c0', keyNums R a (fs.take k)⟩, ⟨A3, f.n.length, c3, numsB ⟨f.n.toArray⟩⟩, ⟨some ⟨w3.heap.size, 0, none⟩, 1, 1, [61]⟩, ⟨A5, f.v.length, c5, numsB ⟨f.v.toArray⟩⟩, ⟨some ⟨w5.heap.size, 0, none⟩, 1, 1, [0]⟩]) _ (Arr.of_blk (e1 := fun (b : Bsl) => Value.slice b.A b.n b.c) (fun _ => rfl) (Blk.new1 w5 _ _ _)) ?_ (by rw [hct]; omega) (by omega)).mono ?_
      · intro b hb
        simp only [List.mem_cons, List.not_mem_nil, or_false] at hb
        rcases hb with rfl | rfl | rfl | rfl | rfl
        · exact hA0.out.keep (g3.trans (g5.trans gW))
        · exact hA3.out.keep (g5.trans gW)
        · exact h61.keep gW
        · exact hA5.out.keep gW
        · exact h00.keep ((Grows.refl _).alloc _)
      rintro e w8 ⟨v8, rfl, hO8, hG8⟩
      rw [hct] at hO8
      have hG9 := hG.out.trans (g3.trans (g5.trans (gW.trans hG8)))
      have hO9 := Lib.hid (hO8.base_le (base' := w.heap.size) (hG.out.trans (g3.trans (g5.trans gW))).size)
      replace hG9 := Lib.hid hG9
      clear hO8 hG8 h61 h00 gW g5 g3 hct
      go_wp2
      go_roundw
      case rel => exact ⟨k + 1, by omega, by go_num, hO9, hG9⟩
      case measure => simp [intOf]; omega
    · obtain rfl : k = m := by omega
      have hO7 := hO.out
      rw [List.take_of_length_le (by omega)] at hO7
      go_wp2
      go_ret
      exact ⟨_, rfl, hO7, hG.out⟩
set_option maxRecDepth 100000 in
theorem key_any {R : List UInt8} {a : Int} {A : Option Addr} {m c : Nat} {fs : List Fld} (w : World) (hA : Arr w 2 encF A m fs) (hR : R.length ≤ 1000) (hm : m ≤ 100) (hf : ∀ f ∈ fs, f.n.length + f.v.length ≤ 1000) :
    Calls Tryz.prog 11 #[.string ⟨R.toArray⟩, .int .i64 a, .slice A m c] w fun e w' => e = .returned (.int .u64 ((shortTo (sha (keyNums R a fs)) 8 : Nat) : Int)) ∧ Grows w w' := by
  have hkl := keyNums_len R a fs hf
  have hml := hA.1
  have cB := bytesOf_any (c := c) (a := a) w hA hR hm hf
  replace cB := Lib.hid cB
  replace hf := Lib.hid hf
  replace hkl := Lib.hid hkl
  go_enter Tryz.func11, Tryz.ntmps11
  go_wp2_with fail
  refine (cB.out).mono ?_
  rintro e w1 ⟨v, rfl, hO, hG⟩
  obtain ⟨A1, c1, rfl, _, _, hA1⟩ := hO.arr
  have cS := short_any (c := c1) w1 hA1 (keyNums_lt R a fs) (by have := hkl.out; omega)
  generalize hD : shortTo (sha (keyNums R a fs)) 8 = D at *
  replace hD := Lib.hid hD
  replace cS := Lib.hid cS
  replace hG := Lib.hid hG
  clear hO hA1
  go_wp2_with fail
  refine (cS.out).mono ?_
  rintro e w2 ⟨rfl, hG2⟩
  go_wp2
  go_ret
  rw [hD.out]
  exact ⟨rfl, hG.out.trans hG2⟩
end Go.Proofs.YtfoffneipdkdjaaGreatDoor
namespace Go.Proofs.YtfoffneipdkdjaaGreatDoor
open Go.RowKit

def idNums (R : List UInt8) (fs : List Fld) : List Nat := nums R ++ [0] ++ nums (fs.flatMap partBytes)
def idA (a : Alr) : Nat := shortTo (sha (idNums a.src a.fs)) 8
theorem idNums_nil (R : List UInt8) : idNums R [] = nums R ++ [0] := by simp [idNums, nums]
theorem idNums_snoc (R : List UInt8) (fs : List Fld) (f : Fld) : idNums R (fs ++ [f]) = (((idNums R fs ++ nums f.n) ++ [61]) ++ nums f.v) ++ [0] := by
  simp [idNums, partBytes, nums]
theorem idNums_lt (R : List UInt8) (fs : List Fld) : ∀ x ∈ idNums R fs, x < 256 := by
  intro x hx
  unfold idNums at hx
  simp only [List.mem_append, List.mem_cons, List.not_mem_nil, or_false] at hx
  rcases hx with (h | rfl) | h
  · exact nums_lt _ x h
  · omega
  · exact nums_lt _ x h
theorem idNums_len (R : List UInt8) (fs : List Fld) (h : ∀ f ∈ fs, f.n.length + f.v.length ≤ 1000) : (idNums R fs).length ≤ R.length + 2 + 1002 * fs.length := by
  have := keyNums_len R 0 fs h
  simp only [keyNums, idNums, List.length_append, List.length_cons, List.length_nil] at this ⊢
  omega
set_option maxRecDepth 100000 in
set_option maxHeartbeats 1600000 in
theorem id_any {a : AlrX} (w : World) (hA : Arr w 2 encF a.A a.m a.a.fs) (hR : a.a.src.length ≤ 1000) (hm : a.m ≤ 100) (hf : ∀ f ∈ a.a.fs, f.n.length + f.v.length ≤ 1000) :
    Calls Tryz.prog 20 #[valA a] w fun e w' => e = .returned (.int .u64 ((idA a.a : Nat) : Int)) ∧ Grows w w' := by
  unfold valA idA
  obtain ⟨⟨R, fs, ⟨lv, lc⟩, f0, t0⟩, A, m, c⟩ := a
  simp only at hA hR hm hf ⊢
  have hml := hA.1
  have hkl := fun k => idNums_len R (fs.take k) (fun f h => hf f (List.mem_of_mem_take h))
  have hkb : ∀ k, (idNums R (fs.take k)).length ≤ 200000 := fun k => by
    have h1 := hkl k
    have h2 : (fs.take k).length ≤ 100 := by rw [List.length_take]; omega
    omega
  replace hA := Lib.hid hA
  replace hf := Lib.hid hf
  replace hkb := Lib.hid hkb
  clear hkl
  generalize hD : shortTo (sha (idNums R fs)) 8 = D
  replace hD := Lib.hid hD
  go_enter Tryz.func20, Tryz.ntmps20
  go_wp2_with (first | (refine wpList_conv rfl (.tmp 7) rfl rfl (by rw [bsize]; omega) ?_; intro v1 w1 hO1 hG1; (replace hO1 := Lib.hid hO1); (replace hG1 := Lib.hid hG1)) | (at_builtin; (refine wpList_appB rfl (.tmp 8) (.tmp 9) rfl rfl rfl (hO1.out.alloc (.cells #[.int .u8 ((0 : Nat) : Int)] 5)) (Arr.one_byte (x := 0) (Blk.new w1 5 _)) (hG1.out.alloc (.cells #[.int .u8 ((0 : Nat) : Int)] 5)).size (by rw [numsB_len, bsize]; omega) ?_; intro v2 w2 hO2 hby2; (have hG2 := Lib.hid ((hG1.out.alloc (.cells #[.int .u8 ((0 : Nat) : Int)] 5)).by_row hby2 hO1.out.block_ge)); (replace hO2 := Lib.hid hO2); (have bx := (Blk.new w 50 #[.string ⟨R.toArray⟩, .slice A m c, .int .i64 lv, .int .u32 (lc : Int), .int .i64 f0, .int .i64 t0]).grows hG2.out); (have x1 : w2.cell? ⟨w.heap.size, 1, none⟩ = some (.slice A m c) := bx.cell 1); (have xl := bx.lt); clear hby2 bx)))
  have hO0 : Hid (OwnB w2 w.heap.size v2 (idNums R (fs.take 0))) := by
    rw [List.take_zero, idNums_nil]
    exact hO2.out.base_le (by simp)
  replace hG2 := Lib.hid ((Grows.refl w).alloc _ |>.trans hG2.out)
  clear hO1 hG1 hO2
  go_loopw [3, 5, 14] (fun b _ i wr => ∃ k : Nat, k ≤ m ∧ i = .int .i64 k ∧ Hid (OwnB wr w.heap.size b (idNums R (fs.take k))) ∧ Hid (Grows w wr)) (fun _ _ i _ => m - (intOf i).toNat)
  case atStart => exact ⟨0, by omega, rfl, hO0, hG2⟩
  case round =>
    clear hO0 hG2 x1 xl
    obtain ⟨k, hk, rfl, hO, hG⟩ := hrel
    by_cases hkm : k < m
    · obtain ⟨bb, off, f, rfl, hsx, hx, hcell⟩ := (hA.out.keep hG.out).at_ hkm
      have c0 : wr.cell? ⟨bb, off + k * 2, none⟩ = some (.string ⟨f.n.toArray⟩) := by simpa using hcell 0 _ rfl
      have c1 : wr.cell? ⟨bb, off + k * 2 + 1, none⟩ = some (.string ⟨f.v.toArray⟩) := by simpa using hcell 1 _ rfl
      have hfl := hf.out f (List.mem_of_getElem? hx)
      have hkk := hkb.out k
      have hkk2 := hkb.out (k + 1)
      have htk : fs.take (k + 1) = fs.take k ++ [f] := by rw [List.take_add_one, hx]; rfl
      have hsn := idNums_snoc R (fs.take k) f
      rw [← htk] at hsn
      have hki : (k : Int) < (m : Int) := by omega
      obtain ⟨A0, c0', hv0, hn0, hm0, hA0⟩ := hO.out.arr
      generalize hN0 : (idNums R (fs.take k)).length = N0 at *
      subst hv0
      replace hsn := Lib.hid hsn
      replace hA0 := Lib.hid hA0
      clear hcell hx htk
      go_wp2_with (first | (refine wpList_conv rfl (.tmp 20) rfl rfl (by rw [bsize]; omega) ?_; intro v3 w3 hO3 hG3; (obtain ⟨A3, c3, hv3, _, _, hA3⟩ := hO3.arr); (rw [numsB_len, bsize] at hv3 hA3); subst hv3; (replace hA3 := Lib.hid hA3); (have b9 := (Blk.new wr 76 #[.string ⟨f.n.toArray⟩, .string ⟨f.v.toArray⟩]).grows hG3); (have d1 : w3.cell? ⟨wr.heap.size, 1, none⟩ = some (.string ⟨f.v.toArray⟩) := b9.cell 1); (have z1 := b9.lt); (replace hG3 := Lib.hid hG3); clear hO3 b9) | (refine wpList_conv rfl (.tmp 24) rfl rfl (by rw [bsize]; omega) ?_; intro v5 w5 hO5 hG5; (obtain ⟨A5, c5, hv5, _, _, hA5⟩ := hO5.arr); (rw [numsB_len, bsize] at hv5 hA5); subst hv5; (replace hA5 := Lib.hid hA5); (replace hG5 := Lib.hid hG5); clear hO5))
      have g3 : Grows wr w3 := ((Grows.refl wr).alloc _).trans hG3.out
      have g5 : Grows w3 w5 := ((Grows.refl w3).alloc _).trans hG5.out
      have gW : Grows w5 ((w5.alloc (.cells #[.int .u8 0] 5)).alloc (.cells #[.slice A0 N0 c0', .slice A3 f.n.length c3, .slice (some ⟨w3.heap.size, 0, none⟩) 1 1, .slice A5 f.v.length c5, .slice (some ⟨w5.heap.size, 0, none⟩) 1 1] 81)) := ((Grows.refl w5).alloc _).alloc _
      have hct : catL [⟨A0, N0, c0', idNums R (fs.take k)⟩, ⟨A3, f.n.length, c3, numsB ⟨f.n.toArray⟩⟩, ⟨some ⟨w3.heap.size, 0, none⟩, 1, 1, [61]⟩, ⟨A5, f.v.length, c5, numsB ⟨f.v.toArray⟩⟩, ⟨some ⟨w5.heap.size, 0, none⟩, 1, 1, [0]⟩] = idNums R (fs.take (k + 1)) := by
        rw [hsn.out, numsB_nums, numsB_nums]
        simp [catL]
      have h61 : Arr w5 1 encB (some ⟨w3.heap.size, 0, none⟩) 1 [61] := (Arr.one_byte (x := 61) (Blk.new w3 5 #[.int .u8 ((61 : Nat) : Int)])).keep hG5.out
      have h00 : Arr (w5.alloc (.cells #[.int .u8 0] 5)) 1 encB (some ⟨w5.heap.size, 0, none⟩) 1 [0] := Arr.one_byte (x := 0) (Blk.new w5 5 #[.int .u8 ((0 : Nat) : Int)])
      refine (concatB_any (L := 5) (c := 5) (A := some ⟨w5.heap.size + 1, 0, none⟩) (bs := [⟨A0, N0, c0', idNums R (fs.take k)⟩, ⟨A3, f.n.length, c3, numsB ⟨f.n.toArray⟩⟩, ⟨some ⟨w3.heap.size, 0, none⟩, 1, 1, [61]⟩, ⟨A5, f.v.length, c5, numsB ⟨f.v.toArray⟩⟩, ⟨some ⟨w5.heap.size, 0, none⟩, 1, 1, [0]⟩]) _ (Arr.of_blk (e1 := fun (b : Bsl) => Value.slice b.A b.n b.c) (fun _ => rfl) (Blk.new1 w5 _ _ _)) ?_ (by rw [hct]; omega) (by omega)).mono ?_
      · intro b hb
        simp only [List.mem_cons, List.not_mem_nil, or_false] at hb
        rcases hb with rfl | rfl | rfl | rfl | rfl
        · exact hA0.out.keep (g3.trans (g5.trans gW))
        · exact hA3.out.keep (g5.trans gW)
        · exact h61.keep gW
        · exact hA5.out.keep gW
        · exact h00.keep ((Grows.refl _).alloc _)
      rintro e w8 ⟨v8, rfl, hO8, hG8⟩
      rw [hct] at hO8
      have hG9 := hG.out.trans (g3.trans (g5.trans (gW.trans hG8)))
      have hO9 := Lib.hid (hO8.base_le (base' := w.heap.size) (hG.out.trans (g3.trans (g5.trans gW))).size)
      replace hG9 := Lib.hid hG9
      clear hO8 hG8 h61 h00 gW g5 g3 hct
      go_wp2
      go_roundw
      case rel => exact ⟨k + 1, by omega, by go_num, hO9, hG9⟩
      case measure => simp [intOf]; omega
    · obtain rfl : k = m := by omega
      have hO7 := hO.out
      rw [List.take_of_length_le (by omega)] at hO7
      obtain ⟨A1, c1, hv1, _, _, hA1⟩ := hO7.arr
      subst hv1
      have cS := short_any (c := c1) wr hA1 (idNums_lt R fs) (by have := hkb.out fs.length; rw [List.take_length] at this; omega)
      rw [hD.out] at cS
      replace cS := Lib.hid cS
      clear hO7 hO hA1 hkb
      go_wp2_with fail
      refine (cS.out).mono ?_
      rintro e w2 ⟨rfl, hG2⟩
      go_wp2
      go_ret
      exact ⟨rfl, hG.out.trans hG2⟩
end Go.Proofs.YtfoffneipdkdjaaGreatDoor
namespace Go.Proofs.YtfoffneipdkdjaaGreatDoor
open Go.RowKit

theorem mem_any (x : List UInt8) : ∀ l : List (List UInt8), (l.any fun y => x == y) = decide (x ∈ l)
  | [] => by simp
  | y :: r => by
    rw [List.any_cons, mem_any x r]
    by_cases h : x = y
    · simp [h]
    · simp [h]
set_option maxRecDepth 100000 in
set_option maxHeartbeats 800000 in
theorem pickC_any {f : Fld} {g : Nat} {A : Option Addr} {m c : Nat} {names : List (List UInt8)} (w : World) (hc : w.cell? ⟨g, 0, none⟩ = some (.slice A m c)) (hA : Arr w 1 encS A m names) (hm : m ≤ 9223372036854775807) :
    Calls Tryz.prog 84 #[valF f, .pointer (some ⟨g, 0, none⟩)] w fun e w' => e = .returned (.bool (!decide (f.n ∈ names))) ∧ Grows w w' := by
  have cC := fun W (hW : Grows w W) => hasT_any (c := c) (v := f.n) W (hA.keep hW) hm
  rw [mem_any] at cC
  have hg := World.block_lt_of_cell? w _ hc
  simp only at hg
  generalize decide (f.n ∈ names) = B at *
  unfold valF
  replace cC := Lib.hid cC
  clear hA
  go_enter Tryz.func84, Tryz.ntmps84
  go_wp2_with fail
  refine (cC.out _ (by
    repeat (first | assumption | exact Grows.refl _ | apply Grows.drew | apply Grows.drewN | refine Grows.alloc ?_ _ | (refine Grows.setCell ?_ (by first | (simp; done) | (simp; omega) | omega) _) | (refine Grows.trans ?_ (by assumption)))
  )).mono ?_
  rintro e w1 ⟨rfl, hb⟩
  have hG : Grows w w1 := ((Grows.refl w).alloc _).trans hb
  go_wp2
  go_ret
  exact ⟨ret_bool rfl, hG⟩
set_option maxRecDepth 100000 in
set_option maxHeartbeats 1600000 in
theorem pick_any {A : Option Addr} {m c : Nat} {fs : List Fld} {A2 : Option Addr} {m2 c2 : Nat} {names : List (List UInt8)} (w : World) (hA : Arr w 2 encF A m fs) (hm : m ≤ 1000) (hN : Arr w 1 encS A2 m2 names) (hm2 : m2 ≤ 9223372036854775807) :
    Calls Tryz.prog 38 #[.slice A m c, .slice A2 m2 c2] w fun e w' => ∃ v, e = .returned v ∧ Own w' w.heap.size 76 2 encF v (pickF fs names) ∧ Grows w w' := by
  have hlen := hA.1
  obtain ⟨w3, hw3⟩ : ∃ w3, w3 = (w.alloc (.cells #[.slice A2 m2 c2] 56)) := ⟨_, rfl⟩
  have hg3 : Grows w w3 := by rw [hw3]; exact (Grows.refl w).alloc _
  have bp : Blk w3 w.heap.size 56 #[.slice A2 m2 c2] := by rw [hw3]; exact Blk.new w _ _
  have cC := cloF_any (c := c) w3 (hA.keep hg3) (by omega)
  have cD := fun v w4 (hg : Grows w3 w4) (hO : Own w4 w3.heap.size 76 2 encF v fs) => delF_any 84 #[.pointer (some ⟨w.heap.size, 0, none⟩)] (enters_of Tryz.func84 (by kernel_rfl) rfl)
    (fun f => !decide (f.n ∈ names)) w3.heap.size v fs w4 hO hg.size (by omega) (fun f _ W hW => pickC_any W ((bp.grows (hg.then_ hW)).cell 0) (hN.keep (hg3.trans (hg.then_ hW))) hm2)
  have hfil := filter_nn (fun f : Fld => decide (f.n ∈ names)) fs
  rw [hfil] at cD
  change Calls _ _ _ _ fun e w' => ∃ v, e = .returned v ∧ Own w' w.heap.size 76 2 encF v (fs.filter fun f => decide (f.n ∈ names)) ∧ Grows w w'
  generalize (fs.filter fun f => decide (f.n ∈ names)) = R at *
  rw [hw3] at cC
  have hb3 : w.heap.size ≤ w3.heap.size := hg3.size
  replace cC := Lib.hid cC
  replace cD := Lib.hid cD
  replace hw3 := Lib.hid hw3
  replace hg3 := Lib.hid hg3
  clear bp hA hfil hN
  go_enter Tryz.func38, Tryz.ntmps38
  go_wp2_with fail
  refine (cC.out).mono ?_
  rintro e w4 ⟨v4, rfl, hO4, hg4⟩
  rw [← hw3.out] at hO4 hg4
  have cD' := Lib.hid (cD.out v4 w4 hg4 hO4)
  clear cD cC
  go_wp2_with fail
  refine (cD'.out).mono ?_
  rintro e w5 ⟨v5, rfl, hO5, hb5⟩
  go_wp2
  go_ret
  exact ⟨v5, rfl, hO5.base_le hb3, hg3.out.trans (hg4.then_ hb5)⟩

/-! ### where -/
def whereF (f : Fld) : List UInt8 := 0 :: (f.n ++ 61 :: (Lib.decDigits f.v.length ++ 58 :: f.v))
def whereL (r : Nat) (fs : List Fld) : List UInt8 := Lib.decDigits r ++ fs.flatMap whereF
theorem whereL_nil (r : Nat) : whereL r [] = Lib.decDigits r := by simp [whereL]
theorem whereL_snoc (r : Nat) (fs : List Fld) (f : Fld) : whereL r (fs ++ [f]) = whereL r fs ++ whereF f := by simp [whereL]
theorem dec_len_lt {n : Nat} (h : n < 10000) : (Lib.decDigits n).length ≤ 4 := decDigits_len 3 n (by omega)
theorem whereF_len {f : Fld} (h : f.n.length + f.v.length ≤ 1000) : (whereF f).length ≤ 1007 := by
  have := dec_len_lt (n := f.v.length) (by omega)
  simp only [whereF, List.length_cons, List.length_append]
  omega
theorem whereL_len {r : Nat} (hr : r < 10000) : ∀ (fs : List Fld), (∀ f ∈ fs, f.n.length + f.v.length ≤ 1000) → (whereL r fs).length ≤ 4 + 1007 * fs.length := by
  intro fs h
  have h1 := dec_len_lt hr
  have h2 : (fs.flatMap whereF).length ≤ 1007 * fs.length := by
    induction fs with
    | nil => simp
    | cons f r ih =>
      have h3 := whereF_len (h f (by simp))
      have h4 := ih (fun g hg => h g (by simp [hg]))
      simp only [List.flatMap_cons, List.length_append, List.length_cons]
      omega
  simp only [whereL, List.length_append]
  omega
set_option maxRecDepth 100000 in
set_option maxHeartbeats 3200000 in
theorem where_any {r : Nat} {A : Option Addr} {m c : Nat} {fs : List Fld} (w : World) (he : LibEnv w) (hr : r < 10000) (hA : Arr w 2 encF A m fs) (hm : m ≤ 100) (hf : ∀ f ∈ fs, f.n.length + f.v.length ≤ 1000) :
    Calls Tryz.prog 39 #[.int .i64 r, .slice A m c] w fun e w' => e = .returned (.string ⟨(whereL r fs).toArray⟩) ∧ Grows w w' := by
  have hml := hA.1
  have cI : ∀ n : Nat, n ≤ 100000 → ∀ W, Grows w W → Calls Tryz.prog 86 #[.int .i64 n] W fun e w' => e = .returned (.string ⟨(Lib.decDigits n).toArray⟩) ∧ Grows W w' := fun n h1 W hW => by
    have := itoa_any (n : Int) (by omega) (by omega) W (he.grows hW)
    rwa [itoa_nat (n : Int) (by omega), Int.toNat_natCast] at this
  have cR := cI r (by omega)
  have hkb : ∀ k, (whereL r (fs.take k)).length ≤ 200000 := fun k => by
    have h1 := whereL_len hr (fs.take k) (fun f h => hf f (List.mem_of_mem_take h))
    have h2 : (fs.take k).length ≤ 100 := by rw [List.length_take]; omega
    omega
  have h00 := whereL_nil r
  generalize Lib.decDigits r = dr at *
  replace cI := Lib.hid cI
  replace cR := Lib.hid cR
  replace hA := Lib.hid hA
  replace hf := Lib.hid hf
  replace hkb := Lib.hid hkb
  replace h00 := Lib.hid h00
  clear he
  go_enter Tryz.func39, Tryz.ntmps39
  go_wp2_with fail
  refine (cR.out _ (Grows.refl _)).mono ?_
  rintro e w1 ⟨rfl, hb1⟩
  replace hb1 := Lib.hid hb1
  go_wp2
  go_loopw [5, 7, 12] (fun s _ i wr => ∃ (k : Nat) (S : List UInt8), k ≤ m ∧ i = .int .i64 k ∧ s = .string ⟨S.toArray⟩ ∧ Hid (S = whereL r (fs.take k)) ∧ Hid (Grows w wr)) (fun _ _ i _ => m - (intOf i).toNat)
  case atStart => exact ⟨0, dr, by omega, rfl, rfl, (h00.out.symm : dr = whereL r (fs.take 0)), hb1⟩
  case round =>
    obtain ⟨k, S, hk, rfl, rfl, hS, hG⟩ := hrel
    by_cases hkm : k < m
    · obtain ⟨bb, off, f, rfl, hsx, hx, hcell⟩ := (hA.out.keep hG.out).at_ hkm
      have c0 : wr.cell? ⟨bb, off + k * 2, none⟩ = some (.string ⟨f.n.toArray⟩) := by simpa using hcell 0 _ rfl
      have c1 : wr.cell? ⟨bb, off + k * 2 + 1, none⟩ = some (.string ⟨f.v.toArray⟩) := by simpa using hcell 1 _ rfl
      have hfl := hf.out f (List.mem_of_getElem? hx)
      have hki : (k : Int) < (m : Int) := by omega
      have hkk := hkb.out k
      rw [← hS.out] at hkk
      have cL := cI.out f.v.length (by omega)
      have htk : fs.take (k + 1) = fs.take k ++ [f] := by rw [List.take_add_one, hx]; rfl
      have hsn : S ++ whereF f = whereL r (fs.take (k + 1)) := by rw [htk, whereL_snoc, hS.out]
      have hdl := dec_len_lt (n := f.v.length) (by omega)
      unfold whereF at hsn
      generalize Lib.decDigits f.v.length = dv at *
      replace cL := Lib.hid cL
      replace hsn := Lib.hid hsn
      have hGa : Hid (Grows w (wr.alloc (.cells #[.string ⟨f.n.toArray⟩, .string ⟨f.v.toArray⟩] 76))) := Lib.hid (hG.out.alloc _)
      clear hcell hx htk hS
      go_wp2_with fail
      refine wp_region_k (by kernel_rfl) ?_
      refine wpAnyK_run (l' := #[true, true, true, true, true, true, true, true, true, true, true, true, true, true, true, true]) [0, 1, 2, 3, 4, 5, 6, 7, 8, 9, 10, 11, 12, 13, 14, 15] 0 up_grows (by kernel_rfl) (by intro c a d v w h; first | (cases d <;> exact h) | exact hQ0 _ _ _ _ _ h) rfl (by kernel_rfl) (by kernel_rfl) ?_
      iterate 8 (refine wpMixC_q rfl (fun K hK => ?_); go_simp; (try go_bits); first | (refine hK.out _ ?_; clear hK K) | (apply Exists.intro; refine ⟨fun wq hsq => ?_, hK.out _ ?_⟩; (first | (go_simp; done) | ((try go_simp); (try simp only [↓IntWalk.iteOmega]); (try go_bits); rfl) | (obtain ⟨hcq, hfq⟩ := bcells hsq; go_simp; done) | (obtain ⟨hcq, hfq⟩ := bcells hsq; (try go_simp); (try simp only [↓IntWalk.iteOmega]); (try go_bits); rfl)); clear hK K))
      refine wpMixC_c (.string ⟨dv.toArray⟩) rfl (by first | rfl | (go_simp; done)) (fun wq hsq => ?_) ?_
      · obtain ⟨hcq, hfq⟩ := bcells hsq
        go_simp
        exact Calls.mono (cL.out wq (hGa.out.trans hsq)) (fun e w'' h => h)
      go_simp
      iterate 7 (refine wpMixC_q rfl (fun K hK => ?_); go_simp; (try go_bits); first | (refine hK.out _ ?_; clear hK K) | (apply Exists.intro; refine ⟨fun wq hsq => ?_, hK.out _ ?_⟩; (first | (go_simp; done) | ((try go_simp); (try simp only [↓IntWalk.iteOmega]); (try go_bits); rfl) | (obtain ⟨hcq, hfq⟩ := bcells hsq; go_simp; done) | (obtain ⟨hcq, hfq⟩ := bcells hsq; (try go_simp); (try simp only [↓IntWalk.iteOmega]); (try go_bits); rfl)); clear hK K))
      refine wpMixC_nil ?_
      refine wpAnyK_end (by kernel_rfl) (fun wN hN hS => ?_)
      go_wp2
      go_roundw
      case rel => exact ⟨k + 1, S ++ 0 :: (f.n ++ 61 :: (dv ++ 58 :: f.v)), by omega, by go_num, congrArg Value.string (ByteArray.ext (by simp)), hsn, hGa.out.trans hN⟩
      case measure => simp [intOf]; omega
    · obtain rfl : k = m := by omega
      have hfin : S = whereL r fs := by rw [hS.out, List.take_of_length_le (by omega)]
      replace hfin := Lib.hid hfin
      clear hS
      go_wp2
      go_ret
      exact ⟨by rw [hfin.out]; rfl, hG.out⟩
end Go.Proofs.YtfoffneipdkdjaaGreatDoor
namespace Go.Proofs.YtfoffneipdkdjaaGreatDoor
open Go.RowKit

def encU (n : Nat) : List Value := [.int .u64 (n : Int)]
theorem hkU (n : Nat) : (encU n).length = 1 := rfl
theorem oneU (n : Nat) : ∀ u ∈ encU n, u.oneCell' = true := by intro u hu; simp [encU] at hu; subst hu; rfl
theorem T_uu : SliceT Tryz.prog 45 25 1 8 := SliceT.mk' (z := .int .u64 0) Tryz.underlying45 (by kernel_rfl) rfl (by omega)
def posU (l : List Nat) (t : Nat) : Nat := (l.takeWhile fun x => decide (x < t)).length
def SortU (l : List Nat) : Prop := l.Pairwise (· < ·)
theorem posU_le (l : List Nat) (t : Nat) : posU l t ≤ l.length := by
  unfold posU; exact (List.takeWhile_sublist _).length_le
theorem posU_of {t : Nat} : ∀ {l : List Nat} {i : Nat}, i ≤ l.length → (∀ (k x : Nat), k < i → l[k]? = some x → x < t) → (∀ x : Nat, l[i]? = some x → t ≤ x) → posU l t = i
  | [], i, h, _, _ => by simp at h; subst h; rfl
  | a :: r, 0, _, _, h => by
    have := h a rfl
    unfold posU
    rw [List.takeWhile_cons_of_neg (by simp; omega)]
    rfl
  | a :: r, i + 1, hi, h1, h2 => by
    have ha := h1 0 a (by omega) rfl
    have := posU_of (l := r) (i := i) (t := t) (by simpa using hi) (fun k x hk hx => h1 (k + 1) x (by omega) (by simpa using hx)) (fun x hx => h2 x (by simpa using hx))
    unfold posU at this ⊢
    rw [List.takeWhile_cons_of_pos (by simpa using ha), List.length_cons, this]
theorem SortU.lt {l : List Nat} (h : SortU l) {i j x y : Nat} (hij : i < j) (hx : l[i]? = some x) (hy : l[j]? = some y) : x < y := by
  obtain ⟨h1, rfl⟩ := List.getElem?_eq_some_iff.1 hx
  obtain ⟨h2, rfl⟩ := List.getElem?_eq_some_iff.1 hy
  exact List.pairwise_iff_getElem.1 h i j h1 h2 hij
theorem mem_of_pos {l : List Nat} {t i : Nat} (hs : SortU l) (h1 : ∀ (k x : Nat), k < i → l[k]? = some x → x < t) (h2 : ∀ x : Nat, l[i]? = some x → t ≤ x) : (t ∈ l) ↔ l[i]? = some t := by
  constructor
  · intro h
    obtain ⟨j, hj⟩ := List.getElem?_of_mem h
    rcases Nat.lt_trichotomy j i with h3 | h3 | h3
    · have := h1 j t h3 hj; omega
    · rw [← h3]; exact hj
    · have hil : i < l.length := by have := (List.getElem?_eq_some_iff.1 hj).1; omega
      have h4 := h2 l[i] (List.getElem?_eq_getElem hil)
      have h5 := hs.lt h3 (List.getElem?_eq_getElem hil) hj
      omega
  · exact List.mem_of_getElem?
set_option maxRecDepth 100000 in
theorem nan_any (x : Nat) (w : World) : Calls Tryz.prog 88 #[.int .u64 x] w fun e w' => e = .returned (.bool false) ∧ w' = w := by
  go_enter Tryz.func88, Tryz.ntmps88
  go_wp2
  go_ret
  exact ⟨ret_bool (by simp), rfl⟩
set_option maxRecDepth 100000 in
theorem nanC_any (x : Nat) (w : World) : Calls Tryz.prog 122 #[.int .u64 x] w fun e w' => e = .returned (.bool false) ∧ w' = w := by
  go_enter Tryz.func122, Tryz.ntmps122
  go_wp2
  go_ret
  exact ⟨ret_bool (by simp), rfl⟩
set_option maxRecDepth 100000 in
theorem less_any (x y : Nat) (w : World) : Calls Tryz.prog 87 #[.int .u64 x, .int .u64 y] w fun e w' => e = .returned (.bool (decide (x < y))) ∧ w' = w := by
  have cN := fun W => nanC_any x W
  replace cN := Lib.hid cN
  go_enter Tryz.func87, Tryz.ntmps87
  go_wp2_with fail
  refine (cN.out _).mono ?_
  rintro e w1 ⟨rfl, rfl⟩
  go_wp2
  go_ret
  exact ⟨ret_bool (by simp), rfl⟩
set_option maxRecDepth 100000 in
set_option maxHeartbeats 3200000 in
theorem bsearch_any {A : Option Addr} {m c : Nat} {l : List Nat} {t : Nat} (w : World) (hA : Arr w 1 encU A m l) (hm : m ≤ 1000000) (hs : SortU l) :
    Calls Tryz.prog 40 #[.slice A m c, .int .u64 t] w fun e w' => e = .returned (.tuple #[.int .i64 (posU l t), .bool (decide (t ∈ l))]) ∧ w' = w := by
  have hml := hA.1
  have cL := fun x W => less_any x t W
  have cN := fun x W => nan_any x W
  obtain ⟨R, hR⟩ : ∃ R, R = (Value.tuple #[.int .i64 (posU l t), .bool (decide (t ∈ l))]) := ⟨_, rfl⟩
  rw [← hR]
  replace hR := Lib.hid hR
  replace cL := Lib.hid cL
  replace cN := Lib.hid cN
  replace hA := Lib.hid hA
  replace hs := Lib.hid hs
  go_enter Tryz.func40, Tryz.ntmps40
  go_wp2
  go_loopw [7, 8, 9] (fun vi vj _ wr => ∃ i j : Nat, i ≤ j ∧ j ≤ m ∧ vi = .int .i64 i ∧ vj = .int .i64 j ∧ Hid (∀ (k x : Nat), k < i → l[k]? = some x → x < t) ∧ Hid (∀ x : Nat, l[j]? = some x → t ≤ x) ∧ wr = w) (fun vi vj _ _ => (intOf vj - intOf vi).toNat)
  case atStart => exact ⟨0, m, by omega, by omega, rfl, rfl, fun _ _ h => absurd h (by omega), (fun x hx => by have := (List.getElem?_eq_some_iff.1 hx).1; omega), rfl⟩
  case round =>
    obtain ⟨i, j, hij, hjm, rfl, rfl, hlo, hhi, rfl⟩ := hrel
    by_cases hlt : i < j
    · have hlti : (i : Int) < (j : Int) := by omega
      obtain ⟨h, hh⟩ : ∃ h, h = (i + j) / 2 := ⟨_, rfl⟩
      have hhm : h < m := by omega
      obtain ⟨bb, off, x, rfl, hsx, hx, hcell⟩ := hA.out.at_ hhm
      have c0 : wr.cell? ⟨bb, off + h, none⟩ = some (.int .u64 (x : Int)) := by simpa using hcell 0 _ rfl
      have hhi2 : ((i : Int) + (j : Int)) / 2 = (h : Int) := by omega
      have hhj : h < j := by omega
      have hih : i ≤ h := by omega
      clear hcell hh
      have cX := cL.out x
      cases hxt : decide (x < t) with
      | true =>
        rw [hxt] at cX
        replace cX := Lib.hid cX
        have hlo2 := Lib.hid (show ∀ (k y : Nat), k < h + 1 → l[k]? = some y → y < t from fun k y hk hy => by
          have hxt' := of_decide_eq_true hxt
          by_cases hkh : k = h
          · subst hkh; rw [hx] at hy; rw [← Option.some.inj hy]; exact hxt'
          · have := hs.out.lt (show k < h by omega) hy hx; omega)
        clear hxt hx
        go_wp2_with fail
        refine (cX.out _).mono ?_
        rintro e w1 ⟨rfl, rfl⟩
        go_wp2
        go_roundw
        case rel => exact ⟨h + 1, j, by omega, by omega, by go_num, rfl, hlo2, hhi, trivial⟩
        case measure => simp [intOf]; omega
      | false =>
        rw [hxt] at cX
        replace cX := Lib.hid cX
        have hhi3 := Lib.hid (show ∀ y : Nat, l[h]? = some y → t ≤ y from fun y hy => by
          rw [hx] at hy; rw [← Option.some.inj hy]; exact Nat.le_of_not_lt (of_decide_eq_false hxt))
        clear hxt hx
        go_wp2_with fail
        refine (cX.out _).mono ?_
        rintro e w1 ⟨rfl, rfl⟩
        go_wp2
        go_roundw
        case rel => exact ⟨i, h, by omega, by omega, rfl, rfl, hlo, hhi3, trivial⟩
        case measure => simp [intOf]; omega
    · obtain rfl : i = j := by omega
      have hpos := posU_of (t := t) (by omega) hlo.out hhi.out
      have hmem := mem_of_pos hs.out hlo.out hhi.out
      have hR2 := hR.out
      rw [hpos] at hR2
      clear hR hpos
      by_cases him : i < m
      · obtain ⟨bb, off, x, rfl, hsx, hx, hcell⟩ := hA.out.at_ him
        have c0 : wr.cell? ⟨bb, off + i, none⟩ = some (.int .u64 (x : Int)) := by simpa using hcell 0 _ rfl
        have himi : (i : Int) < (m : Int) := by omega
        rw [hx] at hmem
        clear hcell hx hlo hhi
        have cX := cN.out x
        cases hxt : ((x : Int) == (t : Int)) with
        | true =>
          have hxt' : x = t := by have := of_decide_eq_true (show decide ((x : Int) = (t : Int)) = true by simpa using hxt); omega
          rw [decide_eq_true (hmem.2 (by rw [hxt']))] at hR2
          replace hR2 := Lib.hid hR2
          clear hmem hxt'
          go_wp2
          go_ret2
          exact ⟨by rw [hR2.out]; rfl, rfl⟩
        | false =>
          have hxt' : ¬ x = t := fun h => by rw [h] at hxt; simp at hxt
          rw [decide_eq_false (fun h => hxt' (Option.some.inj (hmem.1 h)))] at hR2
          replace hR2 := Lib.hid hR2
          replace cX := Lib.hid cX
          clear hmem hxt'
          go_wp2_with fail
          refine (cX.out _).mono ?_
          rintro e w1 ⟨rfl, rfl⟩
          go_wp2
          go_ret2
          exact ⟨by rw [hR2.out]; rfl, rfl⟩
      · have hx : l[i]? = none := List.getElem?_eq_none (by omega)
        rw [hx] at hmem
        rw [decide_eq_false (fun h => by have := hmem.1 h; cases this)] at hR2
        have himi : ¬ (i : Int) < (m : Int) := by omega
        replace hR2 := Lib.hid hR2
        clear hmem hx hlo hhi
        go_wp2
        go_ret2
        exact ⟨by rw [hR2.out]; rfl, rfl⟩
end Go.Proofs.YtfoffneipdkdjaaGreatDoor
namespace Go.Proofs.YtfoffneipdkdjaaGreatDoor
open Go.RowKit

def rowPut (cur : Array Value) (o : Nat) (cs : List Value) : Array Value := (cur.toList.take o ++ cs ++ cur.toList.drop (o + cs.length)).toArray
theorem rowPut_size {cur : Array Value} {o : Nat} {cs : List Value} (h : o + cs.length ≤ cur.size) : (rowPut cur o cs).size = cur.size := by
  simp only [rowPut, List.size_toArray, List.length_append, List.length_take, List.length_drop, Array.length_toList]
  omega
theorem rowPut_get {cur : Array Value} {o : Nat} {cs : List Value} (h : o + cs.length ≤ cur.size) (q : Nat) : (rowPut cur o cs)[q]? = if o ≤ q ∧ q < o + cs.length then cs[q - o]? else cur[q]? := by
  simp only [rowPut, List.getElem?_toArray, List.append_assoc]
  have hto : (cur.toList.take o).length = o := by rw [List.length_take, Array.length_toList]; omega
  by_cases h1 : q < o
  · rw [List.getElem?_append_left (by omega), List.getElem?_take_of_lt h1, if_neg (by omega)]
    simp
  · rw [List.getElem?_append_right (by omega), hto]
    by_cases h2 : q < o + cs.length
    · rw [List.getElem?_append_left (by omega), if_pos (by omega)]
    · rw [List.getElem?_append_right (by omega), if_neg (by omega), List.getElem?_drop, show o + cs.length + (q - o - cs.length) = q by omega]
      simp
theorem copy_u {w : World} {g o dL dC a b sL sC : Nat} {cur : Array Value} {t : TypeId} {cs : List Value} (hg : w.heap[g]? = some (.cells cur t (0, 0))) (hn : cs.length = min sL dL)
    (hsrc : ∀ j v, cs[j]? = some v → w.cell? ⟨a, b + j, none⟩ = some v) (hfit : o + cs.length ≤ cur.size) (h1 : ∀ v ∈ cs, v.oneCell' = true) :
    ∃ w', (Builtin.copy_ #[45, 45] 3 #[.slice (some ⟨g, o, none⟩) dL dC, .slice (some ⟨a, b, none⟩) sL sC]).run Tryz.prog w = .ok (goInt (min sL dL : Nat)) w' ∧ w'.heap[g]? = some (.cells (rowPut cur o cs) t (0, 0)) ∧ w.grownBy w' (some g) := by
  have hc := run_copy_row (P := Tryz.prog) w 45 45 3 25 g o dL dC ⟨a, b, none⟩ sL sC cur t cs Tryz.underlying45 (by kernel_rfl) hg hn (fun j v hv => by
    have := hsrc j v hv
    have he : (⟨a, b, none⟩ : Addr).add j = ⟨a, b + j, none⟩ := by unfold Addr.add; by_cases hj : j = 0 <;> simp [hj]
    rw [he]; exact this) hfit h1
  refine ⟨_, by rw [← hn]; exact hc, ?_, grownBy_setRow _ _ _⟩
  exact setRow_heap w g cur _ t _ hg
theorem ov_match {M : Array Value → Type} {a b : Option Addr} {la ca lb cb : Nat} (h1 : (a : Option Addr) → (la ca : Nat) → (b : Option Addr) → (lb cb : Nat) → M #[.slice a la ca, .slice b lb cb]) (h2 : (x : Array Value) → M x) :
    Extern.SlicesOverlaps.overlaps.match_4 M #[.slice a la ca, .slice b lb cb] h1 h2 = h1 a la ca b lb cb := rfl
set_option maxRecDepth 100000 in
theorem overlaps_no {a b : Nat} {oa ob la lb ca cb : Nat} {w : World} {xs ys : Array Value} {t u : TypeId} (ha : w.heap[a]? = some (.cells xs t (0, 0))) (hb : w.heap[b]? = some (.cells ys u (0, 0))) (hne : a ≠ b) :
    (callFunc 89 #[.slice (some ⟨a, oa, none⟩) la ca, .slice (some ⟨b, ob, none⟩) lb cb]).run Tryz.prog w = .ok (.value (.bool false)) w := by
  rw [run_callFunc_extern (e := Extern.SlicesOverlaps.overlaps #[45, 45] #[4]) Tryz.func89 (by kernel_rfl) (by kernel_rfl) (by kernel_rfl) (by rfl)]
  obtain ⟨i, z, hi, hz, hsz, hby, hzs⟩ := T_uu.info
  have hsa : w.shape? a = some (t, xs.size) := by simp [World.shape?, ha]
  have hsb : w.shape? b = some (u, ys.size) := by simp [World.shape?, hb]
  have hfa : ∀ j, w.frozen? ⟨a, j, none⟩ = false := fun j => by simp [World.frozen?, ha]
  have hfb : ∀ j, w.frozen? ⟨b, j, none⟩ = false := fun j => by simp [World.frozen?, hb]
  have hne' : (a != b) = true := by simpa using hne
  have hne2 : (a == b) = false := by simpa using hne
  unfold Extern.SlicesOverlaps.overlaps
  rw [ov_match]
  by_cases h0 : la = 0 ∨ lb = 0
  · simp [run_underlying Tryz.underlying45, sizeOf, typeInfo, hi, hsz, h0, Result.andThen]
  · simp [run_underlying Tryz.underlying45, sizeOf, typeInfo, hi, hsz, h0, hne', hne2, noView, viewAt, mayBeOne, stringish, hsa, hsb, hfa, hfb, Result.andThen]
/-- append(s[:i], make(n)...), where there is no room: a new row. -/
theorem run_append_zeros {P : Program} (w : World) (t tn ty e : TypeId) (i : TypeInfo) (z : Value) (k kn : IntKind) (ht : P.underlying t = some (.slice e)) (htn : P.underlying tn = some (.int kn)) (hi : P.info? e = some i) (hz : i.zero = some z)
    (b : Addr) (sLen sCap : Nat) (olds : List Value) (hlo : olds.length = sLen * i.size) (holds : ∀ j v, olds[j]? = some v → w.cell? (b.add j) = some v)
    (n : Nat) (h0 : 0 < n) (hs : 0 < i.size) (hg : sCap < sLen + n) (h63 : ((sLen + n : Nat) : Int) ≤ 9223372036854775807) (hfit : Builtin.nextslicecap (sLen + n) sCap * i.bytes ≤ 281474976710656) (h48 : n * i.bytes ≤ 281474976710656) :
    (Builtin.append_ #[t, tn] ty #[.slice (some b) sLen sCap, .int k n]).run P w =
      .ok (.slice (some ⟨w.heap.size, 0, none⟩) (sLen + n) (grownCap w (sLen + n) sCap e)) (w.drew.alloc (.cells (olds.toArray ++ Builtin.zeroCells z.cells n ++ Builtin.zeroCells z.cells (grownCap w (sLen + n) sCap e - (sLen + n))) e)) := by
  have hn : n ≠ 0 := by omega
  have hw : IntKind.i64.wrap (n : Int) = n := by rw [IntKind.wrap_i64]; omega
  have hne : ¬ (sLen + n ≤ sCap) := by omega
  have h63' : ¬ (9223372036854775807 < ((sLen : Int) + (n : Int))) := by omega
  have h48' : ¬ (281474976710656 < Builtin.nextslicecap (sLen + n) sCap * i.bytes) := by omega
  have h48i : ¬ (281474976710656 < (n : Int) * (i.bytes : Int)) := by
    rw [← Int.natCast_mul]
    omega
  have hneg : ¬ ((n : Int) < 0) := by omega
  have hns : ¬ (n * i.size = 0) := Nat.mul_ne_zero hn (by omega)
  have hfo := run_firstCells_some (P := P) w.drew i.size sLen b sLen sCap olds hlo (by simpa using holds)
  simp [Builtin.append_, run_underlying ht, run_underlying htn, sizeOf, typeInfo, zeroValue, hi, hz, asInt, asIntOf, hw, hneg, hns, h63', h48', h48i, hne, Question.forced, hfo, newRow, grownCap]
end Go.Proofs.YtfoffneipdkdjaaGreatDoor
namespace Go.Proofs.YtfoffneipdkdjaaGreatDoor
open Go.RowKit

def putAt (l : List Nat) (i t : Nat) : List Nat := l.take i ++ t :: l.drop i
theorem putAt_end (l : List Nat) (t : Nat) : putAt l l.length t = l ++ [t] := by simp [putAt]
theorem putAt_len {l : List Nat} {i t : Nat} (h : i ≤ l.length) : (putAt l i t).length = l.length + 1 := by
  simp only [putAt, List.length_append, List.length_take, List.length_cons, List.length_drop]; omega
theorem putAt_lo {l : List Nat} {i t q : Nat} (hi : i ≤ l.length) (h : q < i) : (putAt l i t)[q]? = l[q]? := by
  unfold putAt
  rw [List.getElem?_append_left (by rw [List.length_take]; omega), List.getElem?_take_of_lt h]
theorem putAt_at {l : List Nat} {i t : Nat} (h : i ≤ l.length) : (putAt l i t)[i]? = some t := by
  unfold putAt
  rw [List.getElem?_append_right (by rw [List.length_take]; omega), List.length_take, show i - min i l.length = 0 by omega]
  rfl
theorem putAt_hi {l : List Nat} {i t q : Nat} (h : i ≤ l.length) (hq : i < q) : (putAt l i t)[q]? = l[q - 1]? := by
  unfold putAt
  rw [List.getElem?_append_right (by rw [List.length_take]; omega), List.length_take, show q - min i l.length = (q - 1 - i) + 1 by omega, List.getElem?_cons_succ, List.getElem?_drop, show i + (q - 1 - i) = q - 1 by omega]
/-- An id, in a block of its own. -/
def OneU (w : World) (h : Nat) (t : Nat) : Prop := w.heap[h]? = some (.cells #[.int .u64 (t : Int)] 25 (0, 0))
theorem OneU.arr {w : World} {h t : Nat} (ho : OneU w h t) : Arr w 1 encU (some ⟨h, 0, none⟩) 1 [t] := by
  refine ⟨rfl, fun _ => ⟨h, 0, rfl, (Array.getElem?_eq_some_iff.1 ho).1, fun i hi j u hu => ?_⟩⟩
  have hi0 : i = 0 := by simpa using hi
  subst hi0
  have hj : j = 0 := by have := (List.getElem?_eq_some_iff.1 hu).1; simp [encU] at this; omega
  subst hj
  simp only [World.cell?, show w.heap[h]? = _ from ho]
  simpa [encU] using hu
def uv (x : Nat) : Value := .int .u64 (x : Int)
theorem uv_one : ∀ (l : List Nat), ∀ v ∈ l.map uv, v.oneCell' = true := by intro l v hv; simp only [List.mem_map] at hv; obtain ⟨x, _, rfl⟩ := hv; rfl
theorem putAt_get {l : List Nat} {i t q x : Nat} (hi : i ≤ l.length) (h : (putAt l i t)[q]? = some x) : (q < i ∧ l[q]? = some x) ∨ (q = i ∧ x = t) ∨ (i < q ∧ l[q - 1]? = some x) := by
  rcases Nat.lt_trichotomy q i with h1 | h1 | h1
  · rw [putAt_lo hi h1] at h; exact .inl ⟨h1, h⟩
  · subst h1; rw [putAt_at hi] at h; exact .inr (.inl ⟨rfl, (Option.some.inj h).symm⟩)
  · rw [putAt_hi hi h1] at h; exact .inr (.inr ⟨h1, h⟩)
theorem drop_uv {l : List Nat} {i q x : Nat} (h : l[i + q]? = some x) : ((l.drop i).map uv)[q]? = some (uv x) := by simp [h]
/-- In place: what stands from i on is moved by one, then the id is put. -/
theorem ins_room {cur : Array Value} {l : List Nat} {i t : Nat} (hc : ∀ (q x : Nat), l[q]? = some x → cur[q]? = some (uv x)) (hi : i < l.length) (hsz : l.length + 1 ≤ cur.size) :
    ∀ (q x : Nat), (putAt l i t)[q]? = some x → (rowPut (rowPut cur (i + 1) ((l.drop i).map uv)) i [uv t])[q]? = some (uv x) := by
  intro q x hq
  have hl : ((l.drop i).map uv).length = l.length - i := by simp
  have hs1 : (rowPut cur (i + 1) ((l.drop i).map uv)).size = cur.size := rowPut_size (by omega)
  rw [rowPut_get (by rw [hs1, List.length_singleton]; omega)]
  rcases putAt_get (by omega) hq with ⟨h1, h2⟩ | ⟨rfl, rfl⟩ | ⟨h1, h2⟩
  · rw [if_neg (by omega), rowPut_get (by omega), if_neg (by omega)]
    exact hc q x h2
  · rw [if_pos (by simp)]; simp
  · have hq2 := (List.getElem?_eq_some_iff.1 h2).1
    rw [if_neg (by simp; omega), rowPut_get (by omega), if_pos (by omega)]
    exact drop_uv (by rw [show i + (q - (i + 1)) = q - 1 by omega]; exact h2)
/-- In a new row, that holds the first i. -/
theorem ins_new {cur : Array Value} {l : List Nat} {i t : Nat} (hc : ∀ (q x : Nat), q < i → l[q]? = some x → cur[q]? = some (uv x)) (hi : i < l.length) (hsz : l.length + 1 ≤ cur.size) :
    ∀ (q x : Nat), (putAt l i t)[q]? = some x → (rowPut (rowPut cur i [uv t]) (i + 1) ((l.drop i).map uv))[q]? = some (uv x) := by
  intro q x hq
  have hl : ((l.drop i).map uv).length = l.length - i := by simp
  have hs1 : (rowPut cur i [uv t]).size = cur.size := rowPut_size (by simp; omega)
  rw [rowPut_get (by omega)]
  rcases putAt_get (by omega) hq with ⟨h1, h2⟩ | ⟨rfl, rfl⟩ | ⟨h1, h2⟩
  · rw [if_neg (by omega), rowPut_get (by simp; omega), if_neg (by omega)]
    exact hc q x h1 h2
  · rw [if_neg (by omega), rowPut_get (by simp; omega), if_pos (by simp)]; simp
  · have hq2 := (List.getElem?_eq_some_iff.1 h2).1
    rw [if_pos (by omega)]
    exact drop_uv (by rw [show i + (q - (i + 1)) = q - 1 by omega]; exact h2)
theorem Own.of_row {w : World} {base g cap n : Nat} {cur : Array Value} {xs : List Nat} (hb : base ≤ g) (hh : w.heap[g]? = some (.cells cur 25 (0, 0))) (hn : xs.length = n) (hnc : n ≤ cap) (hcm : cap ≤ maxLen) (hcs : cur.size = cap)
    (hc : ∀ (q x : Nat), xs[q]? = some x → cur[q]? = some (uv x)) : Own w base 25 1 encU (.slice (some ⟨g, 0, none⟩) n cap) xs := by
  subst hn
  refine Own.mk_ hkU (by omega) hb hh hnc hcm (by omega) (fun q hq r hr => ?_)
  have hr0 : r = 0 := by omega
  subst hr0
  have := hc q xs[q] (List.getElem?_eq_getElem hq)
  simpa [encU, uv] using this
theorem OneU.cell {w : World} {h t : Nat} (ho : OneU w h t) : ∀ (j : Nat) v, [uv t][j]? = some v → w.cell? ⟨h, 0 + j, none⟩ = some v := by
  intro j v hv
  have hj : j = 0 := by have := (List.getElem?_eq_some_iff.1 hv).1; simp at this; omega
  subst hj
  simp only [World.cell?, show w.heap[h]? = _ from ho]
  simpa [uv] using hv
theorem OneU.by_ {w w' : World} {h t : Nat} {row : Option Nat} (ho : OneU w h t) (hg : w.grownBy w' row) (hne : some h ≠ row) : OneU w' h t := (hg.block h (Array.getElem?_eq_some_iff.1 ho).1 hne).trans ho
theorem row_src {w : World} {g i : Nat} {cur : Array Value} {t : TypeId} {l : List Nat} (hh : w.heap[g]? = some (.cells cur t (0, 0))) (hc : ∀ (q x : Nat), l[q]? = some x → cur[q]? = some (uv x)) :
    ∀ (j : Nat) v, ((l.drop i).map uv)[j]? = some v → w.cell? ⟨g, i + j, none⟩ = some v := by
  intro j v hv
  simp only [List.getElem?_map, List.getElem?_drop, Option.map_eq_some_iff] at hv
  obtain ⟨x, hx, rfl⟩ := hv
  have := hc _ x hx
  simp only [World.cell?, hh]
  simpa using this
theorem zeros_u {w : World} {g i n d cap : Nat} {cur : Array Value} {l : List Nat} (hh : w.heap[g]? = some (.cells cur 25 (0, 0))) (hc : ∀ (q x : Nat), l[q]? = some x → cur[q]? = some (uv x)) (hl : l.length = n) (hi : i < n) (hd : n + 1 - i = d) (hroom : cap < n + 1) (hn : n ≤ 1000000) :
    ∃ cap2 w2 cur2, (Builtin.append_ #[45, 3] 45 #[.slice (some ⟨g, 0, none⟩) i cap, .int .i64 (d : Int)]).run Tryz.prog w = .ok (.slice (some ⟨w.heap.size, 0, none⟩) (n + 1) cap2) w2 ∧ n + 1 ≤ cap2 ∧ cap2 ≤ maxLen ∧
      w2.heap[w.heap.size]? = some (.cells cur2 25 (0, 0)) ∧ cur2.size = cap2 ∧ (∀ (q x : Nat), q < i → l[q]? = some x → cur2[q]? = some (uv x)) ∧ Grows w w2 := by
  obtain ⟨ti, z, hti, hz, hsz, hby, hzs⟩ := T_uu.info
  have hol : ((l.take i).map uv).length = i := by rw [List.length_map, List.length_take]; omega
  have hr := run_append_zeros (P := Tryz.prog) w 45 3 45 25 ti z .i64 .i64 Tryz.underlying45 Tryz.underlying3 hti hz ⟨g, 0, none⟩ i cap ((l.take i).map uv) (by rw [hol, hsz, Nat.mul_one]) (fun j v hv => by
    simp only [List.getElem?_map, Option.map_eq_some_iff] at hv
    obtain ⟨x, hx, rfl⟩ := hv
    have hji : j < i := by have := (List.getElem?_eq_some_iff.1 hx).1; rw [List.length_take] at this; omega
    rw [List.getElem?_take_of_lt hji] at hx
    have he : (⟨g, 0, none⟩ : Addr).add j = ⟨g, j, none⟩ := by unfold Addr.add; by_cases hj : j = 0 <;> simp [hj]
    rw [he]
    simp only [World.cell?, hh]
    simpa using hc j x hx) d (by omega) (by omega) (by omega) (by omega) (by rw [hby]; exact growslice_fits (by omega) (by omega)) (by rw [hby]; omega)
  rw [show i + d = n + 1 by omega] at hr
  have hge := grownCap_ge w (n + 1) cap 25
  have hcm := grownCap_le_maxLen w (n + 1) cap 25 (by unfold maxLen; omega)
  refine ⟨_, _, _, hr, hge, hcm, heap_alloc_new w.drew _, ?_, ?_, (Grows.refl w).drew.alloc _⟩
  · simp only [Array.size_append, size_zeroCells, hzs, List.size_toArray, hol]
    omega
  · intro q x hq hx
    rw [Array.getElem?_append_left (by simp only [Array.size_append, List.size_toArray, hol]; omega), Array.getElem?_append_left (by rw [List.size_toArray, hol]; omega)]
    simp [hq, hx]
set_option maxRecDepth 100000 in
set_option maxHeartbeats 3200000 in
theorem insert_any {base : Nat} {v : Value} {l : List Nat} {i t h c : Nat} (w : World) (hO : Own w base 25 1 encU v l) (hbase : base ≤ w.heap.size) (hi : i ≤ l.length) (hl : l.length ≤ 1000000) (hT : OneU w h t) (hne : ∀ j, v.ownBlock = some j → j ≠ h) :
    Calls Tryz.prog 41 #[v, .int .i64 i, .slice (some ⟨h, 0, none⟩) 1 c] w fun e w' => ∃ v', e = .returned v' ∧ Own w' base 25 1 encU v' (putAt l i t) ∧ w.grownBy w' v.ownBlock ∧ (v'.ownBlock = v.ownBlock ∨ ∃ j, v'.ownBlock = some j ∧ w.heap.size ≤ j) := by
  obtain ⟨A, cap, rfl, hcap, hcm, hA⟩ := hO.arr hkU
  by_cases hin : i = l.length
  · subst hin
    rw [putAt_end]
    have hOn := hO
    rcases hO.2 with ⟨h5, h6⟩ | ⟨g, cap0, cur, h5, hb, hh, hnc, _, hcs, htk⟩
    · injection h5 with h5 h7 h8
      subst h5 h8
      have hn := h6
      obtain rfl : l = [] := List.eq_nil_of_length_eq_zero h6
      replace hO := Lib.hid hO
      replace hT := Lib.hid hT
      clear hA hne hOn h7 hcap hcm hi hl hn h6
      go_enter Tryz.func41, Tryz.ntmps41
      go_wp2_with (at_builtin; refine wpList_grownOpt T_uu rfl (.tmp 23) (.tmp 24) rfl hO.out rfl rfl hT.out.arr hkU oneU hbase (by simp [maxLen]) (by simp) ?_; intro v2 w2 hO2 hby2 hv2)
      go_ret
      exact ⟨v2, rfl, hO2, hby2, hv2.imp id (fun h => ⟨_, h, Nat.le_refl _⟩)⟩
    · simp only [Value.slice.injEq] at h5
      obtain ⟨rfl, _, rfl⟩ := h5
      clear hb hh hnc hcs htk
      generalize hn : l.length = n at *
      replace hn := Lib.hid hn
      replace hO := Lib.hid hO
      replace hT := Lib.hid hT
      clear hA hne hi hOn
      unfold maxLen at hcm
      go_enter Tryz.func41, Tryz.ntmps41
      go_wp2_with (at_builtin; refine wpList_grownOpt T_uu rfl (.tmp 23) (.tmp 24) rfl hO.out rfl rfl hT.out.arr hkU oneU hbase (by rw [hn.out]; unfold maxLen; omega) (by rw [hn.out]; omega) ?_; intro v2 w2 hO2 hby2 hv2)
      all_goals (go_ret; exact ⟨v2, rfl, hO2, hby2, hv2.imp id (fun h => ⟨_, h, Nat.le_refl _⟩)⟩)
  · have hin2 : i < l.length := by omega
    clear hin
    obtain ⟨g, cap0, cur, h5, hb, hh, hnc, _, hcs, htk⟩ := hO.2.resolve_left (fun h => by have := h.2; omega)
    simp only [Value.slice.injEq] at h5
    obtain ⟨rfl, _, rfl⟩ := h5
    obtain ⟨cur2, _, _, hh2, _, _, hcs2, hcell⟩ := hO.cells_ hkU
    obtain rfl : cur2 = cur := by rw [hh] at hh2; injection hh2 with h; injection h with h; exact h.symm
    have hgh : g ≠ h := hne g rfl
    replace hcell : ∀ (q x : Nat), l[q]? = some x → cur2[q]? = some (uv x) := fun q x hx => by
      obtain ⟨h1, rfl⟩ := List.getElem?_eq_some_iff.1 hx
      simpa [encU, uv] using hcell q h1 0 (by omega)
    rw [Nat.mul_one] at hcs
    clear hh2 hcs2 htk hA hne
    generalize hn : l.length = n at *
    unfold maxLen at hcm
    have hini : ((i : Int) == (n : Int)) = false := by rw [beq_eq_false_iff_ne]; omega
    by_cases hroom : n + 1 ≤ cap
    · have hri : ¬ (cap : Int) < (n : Int) + 1 := by omega
      have hov := fun (c1 : Nat) => overlaps_no (oa := 0) (ob := i + 1) (la := 1) (lb := n - i) (ca := c) (cb := c1) hT hh (Ne.symm hgh)
      replace hn := Lib.hid hn
      replace hO := Lib.hid hO
      replace hT := Lib.hid hT
      replace hh := Lib.hid hh
      replace hcell := Lib.hid hcell
      go_enter Tryz.func41, Tryz.ntmps41
      go_wp2
      have hgl : g < w.heap.size := (Array.getElem?_eq_some_iff.1 hh.out).1
      refine wp_region_k (by kernel_rfl) ?_
      refine wpAnyK_run (l' := #[true, true, true, true, true, true, true, true, false]) [0, 1, 2, 3, 4, 5, 6, 7] 1 up_grows (by kernel_rfl) (by intro c a d v w h; first | (cases d <;> exact h) | exact hQ0 _ _ _ _ _ h) rfl (by kernel_rfl) (by kernel_rfl) ?_
      iterate 8 (refine wpMixC_q rfl (fun K hK => ?_); go_simp; (try go_bits); first | (refine hK.out _ ?_; clear hK K) | (apply Exists.intro; refine ⟨fun wq hsq => ?_, hK.out _ ?_⟩; (first | (go_simp; done) | ((try go_simp); (try simp only [↓IntWalk.iteOmega]); (try go_bits); rfl) | (obtain ⟨hcq, hfq⟩ := bcells hsq; go_simp; done) | (obtain ⟨hcq, hfq⟩ := bcells hsq; (try go_simp); (try simp only [↓IntWalk.iteOmega]); (try go_bits); rfl)); clear hK K))
      refine wpMixC_nil ?_
      refine wpAnyK_last (i := 8) rfl (by kernel_rfl) (by kernel_rfl) (fun wN hN hS K' hK => ?_)
      clear hS
      have hhN := (hN.below.block g hgl).trans hh.out
      have hdl : ((l.drop i).map uv).length = n - i := by rw [List.length_map, List.length_drop, hn.out]
      obtain ⟨w2, hcp, hh2, hby2⟩ := copy_u (o := i + 1) (dL := n - i) (dC := cap - (i + 1)) (sL := n + 1 - i) (sC := cap - i) hhN (by rw [hdl]; omega) (row_src (i := i) hhN hcell.out) (by rw [hdl, hcs]; omega) (uv_one _)
      have hTN := Lib.hid (OneU.by_ (OneU.by_ hT.out (hN.by_none none) (by simp)) hby2 (by simpa using Ne.symm hgh))
      have hbyT : Hid (w.grownBy w2 (some g)) := Lib.hid ((hN.by_none _).trans hby2)
      replace hh2 := Lib.hid hh2
      clear hhN hN hdl hby2
      go_simp
      refine hK.out _ _ ?_
      clear hK hcp
      have hsA : (rowPut cur2 (i + 1) ((l.drop i).map uv)).size = cap := by rw [rowPut_size (cur := cur2) (o := i + 1) (cs := (l.drop i).map uv) (by rw [List.length_map, List.length_drop, hn.out, hcs]; omega), hcs]
      have hsB : (rowPut (rowPut cur2 (i + 1) ((l.drop i).map uv)) i [uv t]).size = cap := by rw [rowPut_size (cur := rowPut cur2 (i + 1) ((l.drop i).map uv)) (o := i) (cs := [uv t]) (by rw [hsA, List.length_singleton]; omega), hsA]
      obtain ⟨w3, hcp3, hh3, hby3⟩ := copy_u (o := i) (dL := n + 1 - i) (dC := cap - i) (sL := 1) (sC := c) hh2.out (by rw [List.length_singleton]; omega) hTN.out.cell (by rw [hsA, List.length_singleton]; omega) (by intro v hv; rw [List.mem_singleton] at hv; subst hv; rfl)
      have hfin := Own.of_row (base := base) hb hh3 (putAt_len (t := t) (by have := hn.out; omega)) (by have := hn.out; omega) (by unfold maxLen; omega) hsB (ins_room (t := t) hcell.out (by have := hn.out; omega) (by have := hn.out; omega))
      clear hsA hsB
      rw [hn.out] at hfin
      replace hfin := Lib.hid hfin
      replace hbyT := Lib.hid (hbyT.out.trans hby3)
      clear hh2 hTN hh3 hby3
      go_wp2
      go_ret
      exact ⟨_, rfl, hfin.out, hbyT.out, .inl rfl⟩
    · have hri : (cap : Int) < (n : Int) + 1 := by omega
      obtain ⟨d, hd⟩ : ∃ d, n + 1 - i = d := ⟨_, rfl⟩
      have hdi : (n : Int) + 1 - (i : Int) = (d : Int) := by omega
      obtain ⟨cap2, w2, cur3, hrun, hn2, hcm2, hh2, hcs3, hc3, hG2⟩ := zeros_u (cap := cap) hh hcell hn hin2 hd (by omega) hl
      have hcm3 := hcm2
      unfold maxLen at hcm3
      have hgl : g < w.heap.size := (Array.getElem?_eq_some_iff.1 hh).1
      have hhl : h < w.heap.size := (Array.getElem?_eq_some_iff.1 hT).1
      have hhh : Hid (w2.heap[g]? = some (.cells cur2 25 (0, 0))) := Lib.hid ((hG2.below.block g hgl).trans hh)
      have hT2 : OneU w2 h t := OneU.by_ hT (hG2.by_none none) (by simp)
      obtain ⟨w3, hcp3, hh3, hby3⟩ := copy_u (o := i) (dL := n + 1 - i) (dC := cap2 - i) (sL := 1) (sC := c) (cur := cur3) hh2 (by rw [List.length_singleton]; omega) hT2.cell (by rw [List.length_singleton, hcs3]; omega) (by intro v hv; rw [List.mem_singleton] at hv; subst hv; rfl)
      have hh4 : Hid (w3.heap[g]? = some (.cells cur2 25 (0, 0))) := Lib.hid ((hby3.block g (Nat.lt_of_lt_of_le hgl hG2.size) (by simp; omega)).trans hhh.out)
      have hG3 : Hid (Grows w w3) := Lib.hid (hG2.by_row hby3 (fun j hj => by injection hj with hj; omega))
      have hsA : Hid ((rowPut cur3 i [uv t]).size = cap2) := Lib.hid (by rw [rowPut_size (cur := cur3) (o := i) (cs := [uv t]) (by rw [List.length_singleton]; omega), hcs3])
      generalize hG : w.heap.size = G at *
      replace hn := Lib.hid hn
      replace hO := Lib.hid hO
      replace hT := Lib.hid hT
      replace hh := Lib.hid hh
      replace hcell := Lib.hid hcell
      replace hd := Lib.hid hd
      replace hh3 := Lib.hid hh3
      replace hc3 := Lib.hid hc3
      clear hh2 hT2 hhh hby3 hG2
      go_enter Tryz.func41, Tryz.ntmps41
      go_wp2_with (at_builtin; refine Lib.wpList_append_run _ rfl (.tmp 34) (.tmp 39) _ _ rfl _ _ rfl rfl _ _ hrun ?_)
      clear hrun
      have hgl3 : g < w3.heap.size := (Array.getElem?_eq_some_iff.1 hh4.out).1
      refine wp_region_k (by kernel_rfl) ?_
      refine wpAnyK_run (l' := #[true, true, true, true, true, true, true, true, false]) [0, 1, 2, 3, 4, 5, 6, 7] 1 up_grows (by kernel_rfl) (by intro c a d v w h; first | (cases d <;> exact h) | exact hQ0 _ _ _ _ _ h) rfl (by kernel_rfl) (by kernel_rfl) ?_
      iterate 8 (refine wpMixC_q rfl (fun K hK => ?_); go_simp; (try go_bits); first | (refine hK.out _ ?_; clear hK K) | (apply Exists.intro; refine ⟨fun wq hsq => ?_, hK.out _ ?_⟩; (first | (go_simp; done) | ((try go_simp); (try simp only [↓IntWalk.iteOmega]); (try go_bits); rfl) | (obtain ⟨hcq, hfq⟩ := bcells hsq; go_simp; done) | (obtain ⟨hcq, hfq⟩ := bcells hsq; (try go_simp); (try simp only [↓IntWalk.iteOmega]); (try go_bits); rfl)); clear hK K))
      refine wpMixC_nil ?_
      refine wpAnyK_last (i := 8) rfl (by kernel_rfl) (by kernel_rfl) (fun wN hN hS K' hK => ?_)
      clear hS
      have hhN := (hN.below.block g hgl3).trans hh4.out
      have hhM := (hN.below.block G (Array.getElem?_eq_some_iff.1 hh3.out).1).trans hh3.out
      have hdl : ((l.drop i).map uv).length = n - i := by rw [List.length_map, List.length_drop, hn.out]
      obtain ⟨w5, hcp, hh5, hby5⟩ := copy_u (o := i + 1) (dL := n - i) (dC := cap2 - (i + 1)) (sL := n - i) (sC := cap - i) hhM (by rw [hdl]; omega) (row_src (i := i) hhN hcell.out) (by rw [hdl, hsA.out]; omega) (uv_one _)
      have hfin := Own.of_row (base := base) (by omega) hh5 (putAt_len (t := t) (by have := hn.out; omega)) (by have := hn.out; omega) hcm2 (by rw [rowPut_size (cur := rowPut cur3 i [uv t]) (o := i + 1) (cs := (l.drop i).map uv) (by rw [hdl, hsA.out]; omega), hsA.out]) (ins_new (t := t) hc3.out (by have := hn.out; omega) (by have := hn.out; omega))
      rw [hn.out] at hfin
      replace hfin := Lib.hid hfin
      have hG5 : Hid (Grows w w5) := Lib.hid ((hG3.out.trans hN).by_row hby5 (fun j hj => by injection hj with hj; omega))
      clear hhN hhM hN hdl hby5 hh5
      go_simp
      refine hK.out _ _ ?_
      clear hK hcp
      go_wp2
      go_ret
      exact ⟨_, rfl, hfin.out, hG5.out.by_none _, .inr ⟨G, rfl, Nat.le_refl _⟩⟩
end Go.Proofs.YtfoffneipdkdjaaGreatDoor
namespace Go.Proofs.YtfoffneipdkdjaaGreatDoor
open Go.RowKit

/-- A group, where it lies. -/
structure GrpX where
  r : Nat
  key : Nat
  by_ : List Fld
  bA : Option Addr
  bm : Nat
  bk : Nat
  ids : List Nat
  iA : Option Addr
  im : Nat
  ik : Nat
def GrpX.bv (x : GrpX) : Value := .slice x.bA x.bm x.bk
def GrpX.iv (x : GrpX) : Value := .slice x.iA x.im x.ik
def GrpX.g (x : GrpX) : Grp := ⟨x.r, x.by_, x.key, x.ids⟩
def encG (x : GrpX) : List Value := [.int .i64 (x.r : Int), .slice x.bA x.bm x.bk, .int .u64 (x.key : Int), .slice x.iA x.im x.ik]
theorem hkG (x : GrpX) : (encG x).length = 4 := rfl
theorem oneG (x : GrpX) : ∀ u ∈ encG x, u.oneCell' = true := by intro u hu; simp [encG] at hu; rcases hu with rfl | rfl | rfl | rfl <;> rfl
theorem T_gg : SliceT Tryz.prog 43 47 4 64 := SliceT.mk' (z := .agg #[.int .i64 0, .slice none 0 0, .int .u64 0, .slice none 0 0]) Tryz.underlying43 (by kernel_rfl) rfl (by omega)
abbrev OwnG (w : World) (base : Nat) (v : Value) (gs : List GrpX) : Prop := Own w base 47 4 encG v gs
theorem run_growG {n : Nat} (w : World) (h0 : 0 < n) (hn : n ≤ 1000000000) (ty : TypeId) :
    ∃ g cap w', (Builtin.append_ #[43, 3] ty #[.slice none 0 0, .int .i64 n]).run Tryz.prog w = .ok (.slice (some ⟨g, 0, none⟩) n cap) w' ∧ n ≤ cap ∧ cap ≤ maxLen ∧ OwnG w' w.heap.size (.slice (some ⟨g, 0, none⟩) 0 cap) [] ∧ Grows w w' := by
  obtain ⟨i, z, hi, hz, hsz, hby, hzs⟩ := T_gg.info
  have hr := Lib.run_append_nil_zeros (P := Tryz.prog) w 43 3 ty 47 i z .i64 .i64 Tryz.underlying43 Tryz.underlying3 hi hz n h0 (by omega) (by omega) (by rw [hby]; omega)
  have hge := grownCap_ge w n 0 47
  have hcm := grownCap_le_maxLen w n 0 47 (by unfold maxLen; omega)
  refine ⟨_, _, _, hr, hge, hcm, ⟨rfl, .inr ⟨w.heap.size, _, _, rfl, Nat.le_refl _, heap_alloc_new w.drew _, Nat.zero_le _, hcm, ?_, by simp [encAll]⟩⟩, (Grows.refl w).drew.alloc _⟩
  simp only [Array.size_append, size_zeroCells, hzs]
  rw [← Nat.add_mul, Nat.add_sub_cancel' hge]
set_option maxRecDepth 100000 in
theorem growG_any {n : Nat} (w : World) (hn : n ≤ 1000000000) :
    Calls Tryz.prog 91 #[.slice none 0 0, .int .i64 n] w fun e w' => ∃ v, e = .returned v ∧ OwnG w' w.heap.size v [] ∧ Grows w w' := by
  by_cases h0 : n = 0
  · subst h0
    go_enter Tryz.func91, Tryz.ntmps91
    go_wp2
    go_ret
    exact ⟨_, rfl, Own.nil_ _ _ _ _ _, Grows.refl _⟩
  · have hi : (0 : Int) < (n : Int) := by omega
    have hi2 : ¬ ((n : Int) < 0) := by omega
    have hb : 0 ≤ (n : Int) ∧ (n : Int) ≤ 1000000000 := by omega
    have h1 : 0 < n := by omega
    replace h1 := Lib.hid h1
    go_enter Tryz.func91, Tryz.ntmps91
    obtain ⟨g, cap, w1, hr, hge, hcm, hO, hG⟩ := run_growG w h1.out hn 43
    have hcm2 := hcm
    replace hO := Lib.hid hO
    replace hG := Lib.hid hG
    go_wp2_with (at_builtin; (refine Lib.wpList_append_run _ rfl (.tmp 20) (.tmp 21) _ _ rfl _ _ rfl rfl _ _ hr ?_))
    go_ret
    exact ⟨_, rfl, hO.out, hG.out⟩
/-- Groups as an element of a slice. -/
structure Gsl where
  A : Option Addr
  n : Nat
  c : Nat
  xs : List GrpX
def encGs (b : Gsl) : List Value := [.slice b.A b.n b.c]
def catG (bs : List Gsl) : List GrpX := bs.flatMap (·.xs)
theorem catG_take {bs : List Gsl} {k : Nat} {b : Gsl} (h : bs[k]? = some b) : catG (bs.take (k + 1)) = catG (bs.take k) ++ b.xs := by
  rw [List.take_add_one, h]; simp [catG]
theorem catG_le (bs : List Gsl) (k : Nat) : (catG (bs.take k)).length ≤ (catG bs).length := by
  have : catG bs = catG (bs.take k) ++ catG (bs.drop k) := by
    unfold catG
    rw [← List.flatMap_append, List.take_append_drop]
  rw [this, List.length_append]
  omega
set_option maxRecDepth 100000 in
set_option maxHeartbeats 800000 in
theorem concatG_any {A : Option Addr} {L c : Nat} {bs : List Gsl} (w : World) (hA : Arr w 1 encGs A L bs) (hb : ∀ b ∈ bs, Arr w 4 encG b.A b.n b.xs) (ht : (catG bs).length ≤ 1000000000) (hL2 : L ≤ 1000) :
    Calls Tryz.prog 42 #[.slice A L c] w fun e w' => ∃ v, e = .returned v ∧ OwnG w' w.heap.size v (catG bs) ∧ Grows w w' := by
  have hL := hA.1
  have cG := fun n W h => growG_any (n := n) W h
  replace cG := Lib.hid cG
  replace hA := Lib.hid hA
  replace hb := Lib.hid hb
  go_enter Tryz.func42, Tryz.ntmps42
  go_wp2
  go_loopw [3, 11] (fun n i wr => ∃ k : Nat, k ≤ L ∧ i = .int .i64 k ∧ n = .int .i64 ((catG (bs.take k)).length : Nat) ∧ w = wr) (fun _ i _ => L - (intOf i).toNat)
  case atStart => exact ⟨0, by omega, rfl, rfl, rfl⟩
  case round =>
    obtain ⟨k, hk, rfl, rfl, rfl⟩ := hrel
    by_cases hlt : k < L
    · obtain ⟨bb, off, b, rfl, hs0, hx, hcell⟩ := hA.out.at_ hlt
      have c0 : w.cell? ⟨bb, off + k, none⟩ = some (.slice b.A b.n b.c) := by simpa using hcell 0 _ rfl
      have h1 := catG_take hx
      have h2 := catG_le bs (k + 1)
      have h3 := (hb.out b (List.mem_of_getElem? hx)).1
      rw [h1, List.length_append, h3] at h2
      have h4 : (catG (bs.take (k + 1))).length = (catG (bs.take k)).length + b.n := by rw [h1, List.length_append, h3]
      generalize hY : (catG (bs.take (k + 1))).length = Y at *
      replace hY := Lib.hid hY
      generalize (catG (bs.take k)).length = X at *
      have hki : (k : Int) < (L : Int) := by omega
      have h5 : ¬ ((X : Int) + (b.n : Int) < 0) := by omega
      have h6 : 0 ≤ (X : Int) ∧ (X : Int) ≤ 1000000000 ∧ (b.n : Int) ≤ 1000000000 := by omega
      replace h4 := Lib.hid h4
      clear h1 hx hcell h3
      go_wp2
      go_roundw
      case rel => exact ⟨k + 1, by omega, by go_num, by rw [hY.out, h4.out, Int.natCast_add], trivial⟩
      case measure => simp [intOf]; omega
    · obtain rfl : k = L := by omega
      rw [List.take_of_length_le (by omega)]
      go_wp2_with fail
      refine (cG.out _ _ (by omega)).mono ?_
      rintro e w1 ⟨v1, rfl, hO, hG⟩
      have hO0 : Hid (OwnG w1 w.heap.size v1 (catG (bs.take 0))) := hO
      replace hG := Lib.hid hG
      clear hO cG
      go_wp2
      go_loopw [6, 27] (fun v i wx => ∃ j : Nat, j ≤ k ∧ i = .int .i64 j ∧ Hid (OwnG wx w.heap.size v (catG (bs.take j))) ∧ Hid (Grows w wx)) (fun _ i _ => k - (intOf i).toNat)
      case atStart => exact ⟨0, by omega, rfl, hO0, hG⟩
      case round =>
        clear hO0 hG
        obtain ⟨j, hj, rfl, hO, hG⟩ := hrel
        by_cases hjl : j < k
        · obtain ⟨bb, off, b, rfl, hs0, hx, hcell⟩ := (hA.out.keep hG.out).at_ hjl
          have c0 : wr.cell? ⟨bb, off + j, none⟩ = some (.slice b.A b.n b.c) := by simpa using hcell 0 _ rfl
          have h1 := catG_take hx
          have h2 := catG_le bs (j + 1)
          have hbA := (hb.out b (List.mem_of_getElem? hx)).keep hG.out
          have h3 := hbA.1
          rw [h1, List.length_append, h3] at h2
          have hki : (j : Int) < (k : Int) := by omega
          replace h1 := Lib.hid h1
          replace hbA := Lib.hid hbA
          clear hx hcell h3
          go_wp2_with (at_builtin; (refine wpList_grownOpt T_gg rfl (.tmp 31) (.tmp 32) rfl hO.out rfl rfl hbA.out hkG oneG hG.out.size (by unfold maxLen; omega) (by omega) ?_; intro v2 w2 hO2 hby2 hv2; clear hv2; (have hG2 := Lib.hid (hG.out.by_row hby2 hO.out.block_ge)); (replace hO2 := Lib.hid hO2); clear hby2))
          go_roundw
          case rel => exact ⟨j + 1, by omega, by go_num, by rw [h1.out]; exact hO2, hG2⟩
          case measure => simp [intOf]; omega
        · obtain rfl : j = k := by omega
          have hO3 := hO.out
          rw [List.take_of_length_le (by omega)] at hO3
          go_wp2
          go_ret
          exact ⟨_, rfl, hO3, hG.out⟩
end Go.Proofs.YtfoffneipdkdjaaGreatDoor
