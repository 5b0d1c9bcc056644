/- Labels: Text, the reference's. -/
import Derived.Test.YtfppagcifcppaaaDoorLabT
namespace Go.Proofs.YtfppagcifcppaaaDoor
open Go.RowKit

theorem join_snoc (c : UInt8) (xs : List (List UInt8)) (y : List UInt8) (h : xs ≠ []) : Lib.join (xs ++ [y]) [c] = Lib.join xs [c] ++ c :: y := by
  cases xs with
  | nil => exact absurd rfl h
  | cons x r => rw [List.cons_append, Lib.join_cons, Lib.join_cons]; simp [Lib.joinTail]
/-- What stands behind the level when k teams are written. -/
def pref (ts : List Nat) (k : Nat) : List UInt8 := if k = 0 then [] else 43 :: Lib.join ((ts.take k).map Lib.decDigits) [44]
theorem pref_succ {ts : List Nat} {k t : Nat} (h : ts[k]? = some t) : pref ts (k + 1) = pref ts k ++ (if k = 0 then 43 else 44) :: Lib.decDigits t := by
  unfold pref
  rw [if_neg (by omega), map_take_succ _ _ _ _ h]
  have hk := (List.getElem?_eq_some_iff.1 h).1
  by_cases h0 : k = 0
  · subst h0; simp [Lib.join_one]
  · rw [if_neg h0, if_neg h0, join_snoc _ _ _ (by
      intro he
      have h3 : ((ts.take k).map Lib.decDigits).length = 0 := by rw [he]; rfl
      rw [List.length_map, List.length_take] at h3
      omega)]
    rfl
theorem pref_all {c : Nat} (hc : c < 4294967296) : pref (teams c) (teams c).length = if c = 0 then [] else 43 :: Lib.join ((teams c).map Lib.decDigits) [44] := by
  unfold pref
  by_cases h : c = 0
  · rw [if_pos h, if_pos (by rw [teams_some h]; rfl)]
  · rw [if_neg h, if_neg (fun h2 => h (teams_none hc (List.eq_nil_of_length_eq_zero h2))), List.take_length]
set_option maxRecDepth 100000 in
set_option maxHeartbeats 3200000 in
theorem lRefText_any (x : Lab) (w : World) (hx : x.ok) :
    Calls Tryd.prog 39 #[.agg #[.int .i64 x.lv, .int .u32 (x.c : Int)]] w (LTextPost x w) := by
  have cR := fun W => lRefRight_any x W
  cases hr : labRight x.lv
  · have hfin : labTextV x = [] ∧ labErr x = 1 := by unfold labTextV labErr; rw [hr]; simp
    rw [hr] at cR
    replace hfin := Lib.hid hfin
    replace cR := Lib.hid cR
    clear hr hx
    go_enter Tryd.func39, Tryd.ntmps39
    go_wp2_with fail
    refine (cR.out _).mono ?_
    rintro e w1 ⟨rfl, hb⟩
    go_wp2_with fail
    go_ret2
    exact ⟨by rw [hfin.out.1, hfin.out.2]; rfl, ((Grows.refl _).alloc _).trans hb⟩
  · have hlv := labRight_iff.1 hr
    have cL : ∀ W, Calls Tryd.prog 65 #[.int .i64 x.lv] W fun e w' => e = .returned (.string ⟨(Lib.decDigits x.lv.toNat).toArray⟩) ∧ w' = W := fun W => by
      have := digits_any x.lv.toNat (by omega) W
      rwa [show ((x.lv.toNat : Nat) : Int) = x.lv by omega] at this
    have cK : ∀ k : Nat, k < 32 → ∀ W, Calls Tryd.prog 65 #[.int .i64 k] W fun e w' => e = .returned (.string ⟨(Lib.decDigits k).toArray⟩) ∧ w' = W := fun k hk W => digits_any k (by omega) W
    have hfin : labTextV x = labText x ∧ labErr x = 0 := by unfold labTextV labErr; rw [hr]; simp
    have cT := fun W => refTeams_any x W hx
    have htl := fun k (h : k ∈ teams x.c) => teams_lt h
    have hlen := teams_len x.c
    have htext : labText x = Lib.decDigits x.lv.toNat ++ pref (teams x.c) (teams x.c).length := by rw [pref_all hx]; rfl
    rw [hr] at cR
    have hld := decDigits_len 0 x.lv.toNat (by omega)
    rw [htext] at hfin
    generalize Lib.decDigits x.lv.toNat = ld at *
    generalize teams x.c = ts at *
    obtain ⟨m, hm⟩ : ∃ m, m = ts.length := ⟨_, rfl⟩
    rw [← hm] at hlen hfin
    replace hm := Lib.hid hm
    replace hfin := Lib.hid hfin
    replace cR := Lib.hid cR
    replace cL := Lib.hid cL
    replace cK := Lib.hid cK
    replace cT := Lib.hid cT
    replace htl := Lib.hid htl
    clear hr hx htext
    go_enter Tryd.func39, Tryd.ntmps39
    go_wp2_with fail
    refine (cR.out _).mono ?_
    rintro e w1 ⟨rfl, hb⟩
    have bA : Blk w1 w.heap.size 62 #[.int .i64 x.lv, .int .u32 (x.c : Int)] := (Blk.new w _ _).grows hb
    have hg1 : Grows w w1 := ((Grows.refl _).alloc _).trans hb
    have a0 : w1.cell? ⟨w.heap.size, 0, none⟩ = some (.int .i64 x.lv) := bA.cell 0
    have a1 : w1.cell? ⟨w.heap.size, 1, none⟩ = some (.int .u32 (x.c : Int)) := bA.cell 1
    go_wp2_with fail
    refine (cL.out _).mono ?_
    rintro e w2 ⟨rfl, rfl⟩
    go_wp2_with fail
    refine (cT.out _).mono ?_
    rintro e w4 ⟨v4, rfl, ho4, hb4⟩
    obtain ⟨A4, c4, rfl, hc4, hcm4, hArr4⟩ := ho4.arr hkI
    rw [← hm.out] at hArr4 hc4 ⊢
    replace hg1 := hg1.trans hb4
    clear ho4 hb4 a0 a1 bA hb
    replace hArr4 := Lib.hid hArr4
    go_wp2_with fail
    go_loopw [4, 6] (fun vs i wr => ∃ (k : Nat) (S : List UInt8), k ≤ m ∧ i = .int .i64 k ∧ vs = .string ⟨S.toArray⟩ ∧ Hid (S = ld ++ pref ts k) ∧ S.length ≤ 1 + 3 * k ∧ Grows w4 wr) (fun _ i _ => m - (intOf i).toNat)
    case atStart => exact ⟨0, ld, by omega, rfl, rfl, by simp [Hid, pref], by omega, Grows.refl _⟩
    case round =>
      obtain ⟨k, S, hk, rfl, rfl, hS, hSl, hg⟩ := hrel
      by_cases hkm : k < m
      · obtain ⟨bb, off, t, rfl, hbb, hx, hcell⟩ := ((hArr4.out).keep hg).at_ hkm
        have ht := htl.out t (List.mem_of_getElem? hx)
        have c0 : wr.cell? ⟨bb, off + k, none⟩ = some (.int .i64 t) := by simpa using hcell 0 _ rfl
        have hs := pref_succ hx
        have hl2 := dec_len2 ht
        have cKt := cK.out t ht
        generalize Lib.decDigits t = dt at *
        replace cKt := Lib.hid cKt
        by_cases h0 : k = 0
        · have hS2 : S ++ 43 :: dt = ld ++ pref ts (k + 1) := by rw [hs, hS.out, if_pos h0, List.append_assoc]
          have hb0 : ((k : Int) == 0) = true := by simp [h0]
          replace hS2 := Lib.hid hS2
          clear hx hcell hs hS h0
          go_wp2_with fail
          refine (cKt.out _).mono ?_
          rintro e w5 ⟨rfl, rfl⟩
          go_wp2_with fail
          go_roundw
          case rel => exact ⟨k + 1, S ++ 43 :: dt, by omega, by go_num, congrArg Value.string (ByteArray.ext (by simp)), hS2.out, by simp; omega, hg⟩
          case measure => simp [intOf]; omega
        · have hS2 : S ++ 44 :: dt = ld ++ pref ts (k + 1) := by rw [hs, hS.out, if_neg h0, List.append_assoc]
          have hb0 : ((k : Int) == 0) = false := by rw [beq_eq_false_iff_ne]; omega
          replace hS2 := Lib.hid hS2
          clear hx hcell hs hS h0
          go_wp2_with fail
          refine (cKt.out _).mono ?_
          rintro e w5 ⟨rfl, rfl⟩
          go_wp2_with fail
          go_roundw
          case rel => exact ⟨k + 1, S ++ 44 :: dt, by omega, by go_num, congrArg Value.string (ByteArray.ext (by simp)), hS2.out, by simp; omega, hg⟩
          case measure => simp [intOf]; omega
      · obtain rfl : k = m := by omega
        have hfS : labTextV x = S := by rw [hfin.out.1, hS.out]
        replace hfS := Lib.hid hfS
        clear hS
        go_wp2_with fail
        go_ret2
        exact ⟨by rw [hfS.out, hfin.out.2]; rfl, hg1.trans hg⟩
end Go.Proofs.YtfppagcifcppaaaDoor
