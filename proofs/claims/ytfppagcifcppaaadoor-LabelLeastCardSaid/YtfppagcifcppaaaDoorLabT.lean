/- Labels: Text, the program's. -/
import Derived.Test.YtfppagcifcppaaaDoorLabH
namespace Go.Proofs.YtfppagcifcppaaaDoor
open Go.RowKit

def LTextPost (x : Lab) (w : World) (e : Ending) (w' : World) : Prop := e = .returned (.tuple #[.string ⟨(labTextV x).toArray⟩, .int .i64 (labErr x)]) ∧ Grows w w'
theorem map_take_succ {α β : Type} (f : α → β) (xs : List α) (k : Nat) (x : α) (h : xs[k]? = some x) : (xs.take (k + 1)).map f = (xs.take k).map f ++ [f x] := by
  rw [List.take_add_one, h]; simp
set_option maxRecDepth 100000 in
set_option maxHeartbeats 3200000 in
theorem lText_any (x : Lab) (w : World) (hx : x.ok) (he : LibEnv w) :
    Calls Tryd.prog 38 #[.agg #[.int .i64 x.lv, .int .u32 (x.c : Int)]] w (LTextPost x w) := by
  have cR := fun W => lRight_any x W
  cases hr : labRight x.lv
  · have hfin : labTextV x = [] ∧ labErr x = 1 := by unfold labTextV labErr; rw [hr]; simp
    rw [hr] at cR
    replace hfin := Lib.hid hfin
    replace cR := Lib.hid cR
    clear hr he hx
    go_enter Tryd.func38, Tryd.ntmps38
    go_wp2_with fail
    refine (cR.out _).mono ?_
    rintro e w1 ⟨rfl, hb⟩
    go_wp2_with fail
    go_ret2
    exact ⟨by rw [hfin.out.1, hfin.out.2]; rfl, ((Grows.refl _).alloc _).trans hb⟩
  · have hlv := labRight_iff.1 hr
    have cI : ∀ n : Int, 0 ≤ n → n ≤ 100000 → ∀ W, Grows w W → Calls Tryd.prog 62 #[.int .i64 n] W fun e w' => e = .returned (.string ⟨(Lib.decDigits n.toNat).toArray⟩) ∧ Grows W w' := fun n h0 h1 W hW => by
      rw [← itoa_nat n h0]; exact itoa_any n (by omega) (by omega) W (he.grows hW)
    have cL := cI x.lv (by omega) (by omega)
    have cK : ∀ k : Nat, k < 32 → ∀ W, Grows w W → Calls Tryd.prog 62 #[.int .i64 k] W fun e w' => e = .returned (.string ⟨(Lib.decDigits k).toArray⟩) ∧ Grows W w' := fun k hk W hW => cI k (by omega) (by omega) W hW
    have hfin : labTextV x = labText x ∧ labErr x = 0 := by unfold labTextV labErr; rw [hr]; simp
    have cO := fun W => ones_any (x.c : Int) W (by omega) (by unfold Lab.ok at hx; omega)
    have cT := fun W => lTeams_any x W hx
    have htl := fun k (h : k ∈ teams x.c) => teams_lt h
    have hlen := teams_len x.c
    have htext : labText x = Lib.decDigits x.lv.toNat ++ (if x.c = 0 then [] else 43 :: Lib.join ((teams x.c).map Lib.decDigits) [44]) := rfl
    have hw2 : ∀ y ∈ (teams x.c).map Lib.decDigits, y.length ≤ 2 := fun y hy => by
      obtain ⟨k, hk, rfl⟩ := List.mem_map.1 hy
      exact dec_len2 (teams_lt hk)
    rw [hr] at cR
    by_cases h0 : x.c = 0
    · have hb0 : ((x.c : Int) == 0) = true := by simp [h0]
      rw [if_pos h0, List.append_nil] at htext
      rw [htext] at hfin
      generalize Lib.decDigits x.lv.toNat = ld at *
      replace hfin := Lib.hid hfin
      replace cR := Lib.hid cR
      replace cL := Lib.hid cL
      clear hr he hx cI cK cO cT htl hlen htext hw2 h0
      go_enter Tryd.func38, Tryd.ntmps38
      go_wp2_with fail
      refine (cR.out _).mono ?_
      rintro e w1 ⟨rfl, hb⟩
      have bA : Blk w1 w.heap.size 62 #[.int .i64 x.lv, .int .u32 (x.c : Int)] := (Blk.new w _ _).grows hb
      have hg1 : Grows w w1 := ((Grows.refl _).alloc _).trans hb
      have a0 : w1.cell? ⟨w.heap.size, 0, none⟩ = some (.int .i64 x.lv) := bA.cell 0
      go_wp2_with fail
      refine (cL.out _ hg1).mono ?_
      rintro e w2 ⟨rfl, hb2⟩
      have bA2 := bA.grows hb2
      have a1 : w2.cell? ⟨w.heap.size, 1, none⟩ = some (.int .u32 (x.c : Int)) := bA2.cell 1
      go_wp2_with fail
      go_ret2
      exact ⟨by rw [hfin.out.1, hfin.out.2]; rfl, hg1.trans hb2⟩
    · have hb0 : ((x.c : Int) == 0) = false := by rw [beq_eq_false_iff_ne]; omega
      have hld := decDigits_len 0 x.lv.toNat (by omega)
      rw [if_neg h0] at htext
      rw [htext] at hfin
      generalize Lib.decDigits x.lv.toNat = ld at *
      generalize teams x.c = ts at *
      obtain ⟨m, hm⟩ : ∃ m, m = ts.length := ⟨_, rfl⟩
      rw [← hm] at hlen
      replace hm := Lib.hid hm
      replace hfin := Lib.hid hfin
      replace cR := Lib.hid cR
      replace cL := Lib.hid cL
      replace cK := Lib.hid cK
      replace cO := Lib.hid cO
      replace cT := Lib.hid cT
      replace htl := Lib.hid htl
      replace hw2 := Lib.hid hw2
      clear hr he hx cI htext h0
      go_enter Tryd.func38, Tryd.ntmps38
      go_wp2_with fail
      refine (cR.out _).mono ?_
      rintro e w1 ⟨rfl, hb⟩
      have bA : Blk w1 w.heap.size 62 #[.int .i64 x.lv, .int .u32 (x.c : Int)] := (Blk.new w _ _).grows hb
      have hg1 : Grows w w1 := ((Grows.refl _).alloc _).trans hb
      have a0 : w1.cell? ⟨w.heap.size, 0, none⟩ = some (.int .i64 x.lv) := bA.cell 0
      go_wp2_with fail
      refine (cL.out _ hg1).mono ?_
      rintro e w2 ⟨rfl, hb2⟩
      replace bA := bA.grows hb2
      replace hg1 := hg1.trans hb2
      clear a0 hb hb2
      have a1 : w2.cell? ⟨w.heap.size, 1, none⟩ = some (.int .u32 (x.c : Int)) := bA.cell 1
      go_wp2_with fail
      refine (cO.out _).mono ?_
      rintro e w3 ⟨n, rfl, hn0, hn1, hb3⟩
      obtain ⟨n, rfl⟩ := Int.eq_ofNat_of_zero_le hn0
      replace bA := bA.grows hb3
      replace hg1 := hg1.trans hb3
      clear a1 hb3 hn0
      have hmk := fun W => run_madeS W n (by omega)
      have hown := own_madeS w3 n w3.heap.size (by omega) (Nat.le_refl _)
      have a0 : w3.cell? ⟨w.heap.size, 0, none⟩ = some (.int .i64 x.lv) := bA.cell 0
      have a1 : w3.cell? ⟨w.heap.size, 1, none⟩ = some (.int .u32 (x.c : Int)) := bA.cell 1
      have sA := bA.lt
      replace hown := Lib.hid hown
      go_wp2_with fail
      refine (cT.out _).mono ?_
      rintro e w4 ⟨v4, rfl, ho4, hb4⟩
      obtain ⟨A4, c4, rfl, hc4, hcm4, hlo4, hArr4⟩ := ho4.arrAt hkI
      rw [← hm.out] at hArr4 hc4 ⊢
      replace hown := Lib.hid (hown.out.grows hb4)
      have hz4 := hb4.size
      simp only [World.size_alloc] at hlo4 hz4
      have hg4 : Grows w3 w4 := ((Grows.refl w3).alloc _).trans hb4
      clear ho4 hb4 hmk a0 a1
      have hlt4 : ∀ ad, A4 = some ad → 0 < m → ad.block < w4.heap.size := fun ad ha h0 => by
        obtain ⟨b, off, e, hb, _⟩ := hArr4.2 h0
        rw [ha] at e; injection e with e; subst e; exact hb
      replace hlt4 := Lib.hid hlt4
      replace hArr4 := Lib.hid hArr4
      replace hlo4 := Lib.hid hlo4
      go_wp2_with fail
      go_loopw [5, 25] (fun v i wr => ∃ (k : Nat), k ≤ m ∧ i = .int .i64 k ∧ Own wr w3.heap.size 9 1 encS v ((ts.take k).map Lib.decDigits) ∧ Hid (∀ g, v.ownBlock = some g → g = w3.heap.size ∨ w4.heap.size ≤ g) ∧ Hid (Arr wr 1 encI A4 m ts) ∧ Grows w3 wr ∧ w4.heap.size ≤ wr.heap.size) (fun _ i _ => m - (intOf i).toNat)
      case atStart => exact ⟨0, by omega, rfl, by simpa using hown.out, (fun g hg => by simp [Value.ownBlock] at hg; exact .inl hg.symm), hArr4.out, hg4, Nat.le_refl _⟩
      case round =>
        obtain ⟨k, hk, rfl, howr, hblk, harr, hg, hsz⟩ := hrel
        by_cases hkm : k < m
        · obtain ⟨bb, off, t, rfl, hbb, hx, hcell⟩ := (harr.out).at_ hkm
          have ht := htl.out t (List.mem_of_getElem? hx)
          have c0 : wr.cell? ⟨bb, off + k, none⟩ = some (.int .i64 t) := by simpa using hcell 0 _ rfl
          have hs := map_take_succ Lib.decDigits ts k t hx
          have hll : ((ts.take k).map Lib.decDigits).length = k := by
            have := (harr.out).1
            rw [List.length_map, List.length_take]; omega
          replace hs := Lib.hid hs
          replace hll := Lib.hid hll
          have cKt := Lib.hid (cK.out t ht)
          clear hx hcell
          go_wp2_with fail
          refine (cKt.out _ (hg1.trans hg)).mono ?_
          rintro e w5 ⟨rfl, hb5⟩
          replace howr := howr.grows hb5
          replace harr := Lib.hid ((harr.out).keep hb5)
          replace hg := hg.trans hb5
          replace hsz : w4.heap.size ≤ w5.heap.size := Nat.le_trans hsz hb5.size
          clear hb5 c0
          have hz3 := hg.size
          go_wp2_with (at_builtin; refine wpList_grown (x := Lib.decDigits t) T_ss rfl (.tmp 29) (.tmp 32) rfl (howr.alloc _) rfl ⟨w5.heap.size, 0, none⟩ rfl rfl (news_of (by exact heap_alloc_new w5 _)) (oneS _) (by simp; omega) (by rw [hll.out]; unfold maxLen; omega) (by rw [hll.out]; omega) (fun v8 w8 hown8 hgr hat => ?_))
          have hb8 : Grows w3 w8 := Own.below (howr.alloc _) (Below.alloc hg.below (by omega) _) (Nat.le_refl _) (by simp; omega) hgr
          have hsz8 : w4.heap.size ≤ w8.heap.size := by have := hgr.size; simp at this; omega
          have harr8 := Lib.hid (((harr.out).keep ((Grows.refl w5).alloc (.cells #[.string ⟨(Lib.decDigits t).toArray⟩] 9))).grown hgr (fun ad ha e => by
            injection ha with ha
            subst ha
            have h1 : w3.heap.size + 1 ≤ bb := hlo4.out _ rfl
            have h3 : bb < w4.heap.size := hlt4.out _ rfl (by omega)
            have h4 : (bb = w3.heap.size ∨ w4.heap.size ≤ bb) := hblk.out _ e.symm
            omega))
          have hblk8 : ∀ g, v8.ownBlock = some g → g = w3.heap.size ∨ w4.heap.size ≤ g := fun g hg8 => by
            rcases hat with h | h
            · exact hblk.out g (h.symm.trans hg8)
            · rw [h] at hg8; injection hg8 with hg8; simp at hg8; omega
          clear hgr hat
          go_wp2_with fail
          go_roundw
          case rel => exact ⟨k + 1, by omega, by go_num, by rw [hs.out]; exact hown8, hblk8, harr8, hb8, hsz8⟩
          case measure => simp [intOf]; omega
        · obtain rfl : k = m := by omega
          have hme := hm.out
          rw [List.take_of_length_le (by rw [hme]; exact Nat.le_refl _)] at howr
          obtain ⟨A5, c5, rfl, hc5, hcm5, hArr5⟩ := howr.arr hkS
          have hl5 : (ts.map Lib.decDigits).length ≤ 32 := by rw [List.length_map]; omega
          have cJ := join_any A5 _ c5 _ wr hArr5 hc5 hl5 hw2.out
          have hJl := join_bd _ hw2.out
          generalize (ts.map Lib.decDigits).length = m5 at *
          generalize Lib.join (ts.map Lib.decDigits) [44] = J at *
          replace cJ := Lib.hid cJ
          clear hArr5 howr hblk harr hme
          go_wp2_with fail
          refine cJ.out.mono ?_
          rintro e w6 ⟨rfl, hb6⟩
          go_wp2_with fail
          go_ret2
          refine ⟨?_, (hg1.trans hg).trans hb6⟩
          rw [hfin.out.1, hfin.out.2]
          exact ret_tup (congrArg Value.string (ByteArray.ext (by simp))) rfl
end Go.Proofs.YtfppagcifcppaaaDoor
