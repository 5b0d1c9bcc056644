/- Labels: the reference's Join and Meet. -/
import Derived.Test.YtfoffneipdkdjaaGreatDoorBs14
namespace Go.Proofs.YtfoffneipdkdjaaGreatDoor
open Go.RowKit

theorem joinL_bit (x y k : Nat) : (x ||| y).testBit k = (x.testBit k || y.testBit k) := by
  rw [Nat.testBit_or]
set_option maxRecDepth 100000 in
set_option maxHeartbeats 3200000 in
theorem refJoin_any (a b : Lab) (w : World) (ha : a.ok) (hb : b.ok) :
    Calls Tryz.prog 63 #[.agg #[.int .i64 a.lv, .int .u32 (a.c : Int)], .agg #[.int .i64 b.lv, .int .u32 (b.c : Int)]] w fun e w' => e = .returned (.agg #[.int .i64 (joinL a b).lv, .int .u32 ((joinL a b).c : Int)]) ∧ Grows w w' := by
  have cA := fun W => lRefRight_any a W
  have cB := fun W => lRefRight_any b W
  have hno := joinL_no (a := a) (b := b)
  have hyes := joinL_yes (a := a) (b := b)
  have hmx : (if a.lv < b.lv then b.lv else a.lv) = max a.lv b.lv := by split <;> omega
  have cTA := fun W => refTeams_any a W ha
  have cTB := fun W => refTeams_any b W hb
  have hDlt : a.c ||| b.c < 4294967296 := Nat.or_lt_two_pow (n := 32) ha hb
  have cOf := fun M A m c W h hm => lof_any M A m c (teams (a.c ||| b.c)) W h hm (teams_nodup _) (fun k hk => teams_lt hk)
  rw [sumT_teams hDlt] at cOf
  have cHa : ∀ (k : Nat) A m c W, Arr W 1 encI A m (teams a.c) → m ≤ maxLen → Calls Tryz.prog 59 #[.slice A m c, .int .i64 k] W fun e w' => e = .returned (.bool (a.c.testBit k)) ∧ w' = W := fun k A m c W h h' => by
    have := has_any A m c (teams a.c) k W h h' 59 rfl
    rw [show decide (k ∈ teams a.c) = a.c.testBit k by rw [Bool.eq_iff_iff, decide_eq_true_eq, teams_in ha]] at this
    exact this
  have cHb : ∀ (k : Nat) A m c W, Arr W 1 encI A m (teams b.c) → m ≤ maxLen → Calls Tryz.prog 59 #[.slice A m c, .int .i64 k] W fun e w' => e = .returned (.bool (b.c.testBit k)) ∧ w' = W := fun k A m c W h h' => by
    have := has_any A m c (teams b.c) k W h h' 59 rfl
    rw [show decide (k ∈ teams b.c) = b.c.testBit k by rw [Bool.eq_iff_iff, decide_eq_true_eq, teams_in hb]] at this
    exact this
  generalize hM : max a.lv b.lv = M at *
  replace hM := Lib.hid hM
  generalize labRight a.lv = p at *
  generalize labRight b.lv = q at *
  replace cA := Lib.hid cA
  replace cB := Lib.hid cB
  replace cTA := Lib.hid cTA
  replace cTB := Lib.hid cTB
  replace cHa := Lib.hid cHa
  replace cHb := Lib.hid cHb
  replace cOf := Lib.hid cOf
  replace hno := Lib.hid hno
  replace hyes := Lib.hid hyes
  clear ha hb hDlt
  have hpq : p = false ∨ (p = true ∧ q = false) ∨ (p = true ∧ q = true) := by cases p <;> cases q <;> simp
  rcases hpq with rfl | ⟨rfl, rfl⟩ | ⟨rfl, rfl⟩
  · have hfin := Lib.hid (hno.out (.inl rfl))
    go_enter Tryz.func63, Tryz.ntmps63
    go_wp2_with fail
    refine (cA.out _).mono ?_
    rintro e w1 ⟨rfl, hb1⟩
    have bC : Blk w1 (w.heap.size + 1 + 1) 40 #[.int .i64 0, .int .u32 0] := (Blk.new2 w _ _ _ _).grows hb1
    have bB : Blk w1 (w.heap.size + 1) 40 #[.int .i64 b.lv, .int .u32 (b.c : Int)] := ((Blk.new1 w _ _ _).alloc _).grows hb1
    have bA : Blk w1 w.heap.size 40 #[.int .i64 a.lv, .int .u32 (a.c : Int)] := (((Blk.new w _ _).alloc _).alloc _).grows hb1
    have hg1 : Grows w w1 := ((((Grows.refl w).alloc _).alloc _).alloc _).trans hb1
    have e0 : w1.cell? ⟨w.heap.size + 1 + 1, 0, none⟩ = some (.int .i64 0) := bC.cell 0
    have e1 : w1.cell? ⟨w.heap.size + 1 + 1, 1, none⟩ = some (.int .u32 0) := bC.cell 1
    have f0 := bC.frozen 0
    have f1 := bC.frozen 1
    have s2 := bC.lt
    have g0 : w1.cell? ⟨w.heap.size + 1, 0, none⟩ = some (.int .i64 b.lv) := bB.cell 0
    have g1 : w1.cell? ⟨w.heap.size + 1, 1, none⟩ = some (.int .u32 (b.c : Int)) := bB.cell 1
    have h0 : w1.cell? ⟨w.heap.size, 0, none⟩ = some (.int .i64 a.lv) := bA.cell 0
    have h1 : w1.cell? ⟨w.heap.size, 1, none⟩ = some (.int .u32 (a.c : Int)) := bA.cell 1
    go_wp2_with fail
    refine bodyPost_ret (v := .agg #[.int .i64 7, .int .u32 4294967295]) ?_ rfl ⟨by rw [hfin.out]; rfl, ?_⟩
    · simp [results, Tryz.results63, go_sem, e0, e1]
    · exact Grows.setCell (Grows.setCell hg1 (by simp; omega) _) (by simp; omega) _
  · have hfin := Lib.hid (hno.out (.inr rfl))
    go_enter Tryz.func63, Tryz.ntmps63
    go_wp2_with fail
    refine (cA.out _).mono ?_
    rintro e w1 ⟨rfl, hb1⟩
    have bC : Blk w1 (w.heap.size + 1 + 1) 40 #[.int .i64 0, .int .u32 0] := (Blk.new2 w _ _ _ _).grows hb1
    have bB : Blk w1 (w.heap.size + 1) 40 #[.int .i64 b.lv, .int .u32 (b.c : Int)] := ((Blk.new1 w _ _ _).alloc _).grows hb1
    have bA : Blk w1 w.heap.size 40 #[.int .i64 a.lv, .int .u32 (a.c : Int)] := (((Blk.new w _ _).alloc _).alloc _).grows hb1
    have hg1 : Grows w w1 := ((((Grows.refl w).alloc _).alloc _).alloc _).trans hb1
    have e0 : w1.cell? ⟨w.heap.size + 1 + 1, 0, none⟩ = some (.int .i64 0) := bC.cell 0
    have e1 : w1.cell? ⟨w.heap.size + 1 + 1, 1, none⟩ = some (.int .u32 0) := bC.cell 1
    have f0 := bC.frozen 0
    have f1 := bC.frozen 1
    have s2 := bC.lt
    have g0 : w1.cell? ⟨w.heap.size + 1, 0, none⟩ = some (.int .i64 b.lv) := bB.cell 0
    have g1 : w1.cell? ⟨w.heap.size + 1, 1, none⟩ = some (.int .u32 (b.c : Int)) := bB.cell 1
    have h0 : w1.cell? ⟨w.heap.size, 0, none⟩ = some (.int .i64 a.lv) := bA.cell 0
    have h1 : w1.cell? ⟨w.heap.size, 1, none⟩ = some (.int .u32 (a.c : Int)) := bA.cell 1
    go_wp2_with fail
    refine (cB.out _).mono ?_
    rintro e w2 ⟨rfl, hb2⟩
    replace bA := bA.grows hb2
    replace bB := bB.grows hb2
    replace bC := bC.grows hb2
    replace hg1 : Grows w w2 := hg1.trans hb2
    clear e0 e1 f0 f1 s2 g0 g1 h0 h1 hb2 hb1
    have e0 : w2.cell? ⟨w.heap.size + 1 + 1, 0, none⟩ = some (.int .i64 0) := bC.cell 0
    have e1 : w2.cell? ⟨w.heap.size + 1 + 1, 1, none⟩ = some (.int .u32 0) := bC.cell 1
    have f0 := bC.frozen 0
    have f1 := bC.frozen 1
    have s2 := bC.lt
    have g0 : w2.cell? ⟨w.heap.size + 1, 0, none⟩ = some (.int .i64 b.lv) := bB.cell 0
    have g1 : w2.cell? ⟨w.heap.size + 1, 1, none⟩ = some (.int .u32 (b.c : Int)) := bB.cell 1
    have h0 : w2.cell? ⟨w.heap.size, 0, none⟩ = some (.int .i64 a.lv) := bA.cell 0
    have h1 : w2.cell? ⟨w.heap.size, 1, none⟩ = some (.int .u32 (a.c : Int)) := bA.cell 1
    go_wp2_with fail
    refine bodyPost_ret (v := .agg #[.int .i64 7, .int .u32 4294967295]) ?_ rfl ⟨by rw [hfin.out]; rfl, ?_⟩
    · simp [results, Tryz.results63, go_sem, e0, e1]
    · exact Grows.setCell (Grows.setCell hg1 (by simp; omega) _) (by simp; omega) _
  · have hfin := Lib.hid (hyes.out rfl rfl)
    go_enter Tryz.func63, Tryz.ntmps63
    go_wp2_with fail
    refine (cA.out _).mono ?_
    rintro e w1 ⟨rfl, hb1⟩
    have bC : Blk w1 (w.heap.size + 1 + 1) 40 #[.int .i64 0, .int .u32 0] := (Blk.new2 w _ _ _ _).grows hb1
    have bB : Blk w1 (w.heap.size + 1) 40 #[.int .i64 b.lv, .int .u32 (b.c : Int)] := ((Blk.new1 w _ _ _).alloc _).grows hb1
    have bA : Blk w1 w.heap.size 40 #[.int .i64 a.lv, .int .u32 (a.c : Int)] := (((Blk.new w _ _).alloc _).alloc _).grows hb1
    have hg1 : Grows w w1 := ((((Grows.refl w).alloc _).alloc _).alloc _).trans hb1
    have e0 : w1.cell? ⟨w.heap.size + 1 + 1, 0, none⟩ = some (.int .i64 0) := bC.cell 0
    have e1 : w1.cell? ⟨w.heap.size + 1 + 1, 1, none⟩ = some (.int .u32 0) := bC.cell 1
    have f0 := bC.frozen 0
    have f1 := bC.frozen 1
    have s2 := bC.lt
    have g0 : w1.cell? ⟨w.heap.size + 1, 0, none⟩ = some (.int .i64 b.lv) := bB.cell 0
    have g1 : w1.cell? ⟨w.heap.size + 1, 1, none⟩ = some (.int .u32 (b.c : Int)) := bB.cell 1
    have h0 : w1.cell? ⟨w.heap.size, 0, none⟩ = some (.int .i64 a.lv) := bA.cell 0
    have h1 : w1.cell? ⟨w.heap.size, 1, none⟩ = some (.int .u32 (a.c : Int)) := bA.cell 1
    go_wp2_with fail
    refine (cB.out _).mono ?_
    rintro e w2 ⟨rfl, hb2⟩
    replace bA := bA.grows hb2
    replace bB := bB.grows hb2
    replace bC := bC.grows hb2
    replace hg1 : Grows w w2 := hg1.trans hb2
    clear e0 e1 f0 f1 s2 g0 g1 h0 h1 hb2 hb1
    have e0 : w2.cell? ⟨w.heap.size + 1 + 1, 0, none⟩ = some (.int .i64 0) := bC.cell 0
    have e1 : w2.cell? ⟨w.heap.size + 1 + 1, 1, none⟩ = some (.int .u32 0) := bC.cell 1
    have f0 := bC.frozen 0
    have f1 := bC.frozen 1
    have s2 := bC.lt
    have g0 : w2.cell? ⟨w.heap.size + 1, 0, none⟩ = some (.int .i64 b.lv) := bB.cell 0
    have g1 : w2.cell? ⟨w.heap.size + 1, 1, none⟩ = some (.int .u32 (b.c : Int)) := bB.cell 1
    have h0 : w2.cell? ⟨w.heap.size, 0, none⟩ = some (.int .i64 a.lv) := bA.cell 0
    have h1 : w2.cell? ⟨w.heap.size, 1, none⟩ = some (.int .u32 (a.c : Int)) := bA.cell 1
    clear e0 e1 f0 f1 g0 g1 h0 h1
    go_wp2_with fail
    go_loopw [5, 6] (fun v i wr => ∃ k : Nat, k ≤ 32 ∧ i = .int .i64 k ∧ Own wr (w.heap.size + 1 + 1 + 1) 3 1 encI v (bitsTo (a.c ||| b.c) k) ∧ Below (w.heap.size + 1 + 1 + 1) w2 wr) (fun _ i _ => 32 - (intOf i).toNat)
    case atStart => exact ⟨0, by omega, rfl, Own.nil_ _ _ _ _ _, Below.refl _ _⟩
    case round =>
      obtain ⟨k, hk, rfl, hown, hg⟩ := hrel
      have sz := hg.size
      have bA2 := bA.below hg (by omega)
      have bB2 := bB.below hg (by omega)
      have bC2 := bC.below hg (by omega)
      have g0 : wr.cell? ⟨w.heap.size + 1, 0, none⟩ = some (.int .i64 b.lv) := bB2.cell 0
      have g1 : wr.cell? ⟨w.heap.size + 1, 1, none⟩ = some (.int .u32 (b.c : Int)) := bB2.cell 1
      have h0 : wr.cell? ⟨w.heap.size, 0, none⟩ = some (.int .i64 a.lv) := bA2.cell 0
      have h1 : wr.cell? ⟨w.heap.size, 1, none⟩ = some (.int .u32 (a.c : Int)) := bA2.cell 1
      have hl := Lib.hid (bitsTo_len (a.c ||| b.c) k)
      by_cases hlt : k < 32
      · have cHA := cHa.out k
        have cHB := cHb.out k
        have hDk := joinL_bit a.c b.c k
        clear bA2 bB2 bC2
        cases hpa : a.c.testBit k <;> cases hpb : b.c.testBit k
        · skip
          have hstep := Lib.hid (bitsTo_no (c := a.c ||| b.c) (k := k) (by rw [hDk, hpa, hpb]; rfl))
          rw [hpa] at cHA
          replace cHA := Lib.hid cHA
          rw [hpb] at cHB
          replace cHB := Lib.hid cHB
          clear hpa hpb hDk
          go_wp2_with fail
          refine (cTA.out _).mono ?_
          rintro e w3 ⟨v3, rfl, ho3, hb3⟩
          obtain ⟨A3, c3, rfl, hc3, hcm3, hArr3⟩ := ho3.arr hkI
          generalize (teams a.c).length = m3 at *
          clear ho3
          replace hArr3 := Lib.hid hArr3
          go_wp2_with fail
          refine (cHA.out _ _ _ _ hArr3.out (by unfold maxLen at hcm3 ⊢; omega)).mono ?_
          rintro e w4 ⟨rfl, rfl⟩
          replace g0 := hb3.cell g0
          replace g1 := hb3.cell g1
          replace hown := hown.grows hb3
          replace hg : Below (w.heap.size + 1 + 1 + 1) w2 w4 := hg.trans (hb3.below.mono (by omega))
          clear hArr3
          go_wp2_with fail
          refine (cTB.out _).mono ?_
          rintro e w5 ⟨v5, rfl, ho5, hb5⟩
          obtain ⟨A5, c5, rfl, hc5, hcm5, hArr5⟩ := ho5.arr hkI
          generalize (teams b.c).length = m5 at *
          clear ho5
          replace hArr5 := Lib.hid hArr5
          replace hown := hown.grows hb5
          have hg' : Below (w.heap.size + 1 + 1 + 1) w2 w5 := hg.trans (hb5.below.mono (by have := hb3.size; omega))
          go_wp2_with fail
          refine (cHB.out _ _ _ _ hArr5.out (by unfold maxLen at hcm5 ⊢; omega)).mono ?_
          rintro e w6 ⟨rfl, rfl⟩
          go_wp2
          go_roundw
          case rel => exact ⟨k + 1, by omega, by go_num, by rw [hstep.out]; exact hown, hg'⟩
          case measure => simp [intOf]; omega
        · skip
          have hstep := Lib.hid (bitsTo_yes (c := a.c ||| b.c) (k := k) (by rw [hDk, hpa, hpb]; rfl))
          rw [hpa] at cHA
          replace cHA := Lib.hid cHA
          rw [hpb] at cHB
          replace cHB := Lib.hid cHB
          clear hpa hpb hDk
          go_wp2_with fail
          refine (cTA.out _).mono ?_
          rintro e w3 ⟨v3, rfl, ho3, hb3⟩
          obtain ⟨A3, c3, rfl, hc3, hcm3, hArr3⟩ := ho3.arr hkI
          generalize (teams a.c).length = m3 at *
          clear ho3
          replace hArr3 := Lib.hid hArr3
          go_wp2_with fail
          refine (cHA.out _ _ _ _ hArr3.out (by unfold maxLen at hcm3 ⊢; omega)).mono ?_
          rintro e w4 ⟨rfl, rfl⟩
          replace g0 := hb3.cell g0
          replace g1 := hb3.cell g1
          replace hown := hown.grows hb3
          replace hg : Below (w.heap.size + 1 + 1 + 1) w2 w4 := hg.trans (hb3.below.mono (by omega))
          clear hArr3
          go_wp2_with fail
          refine (cTB.out _).mono ?_
          rintro e w5 ⟨v5, rfl, ho5, hb5⟩
          obtain ⟨A5, c5, rfl, hc5, hcm5, hArr5⟩ := ho5.arr hkI
          generalize (teams b.c).length = m5 at *
          clear ho5
          replace hArr5 := Lib.hid hArr5
          replace hown := hown.grows hb5
          have hg' : Below (w.heap.size + 1 + 1 + 1) w2 w5 := hg.trans (hb5.below.mono (by have := hb3.size; omega))
          go_wp2_with fail
          refine (cHB.out _ _ _ _ hArr5.out (by unfold maxLen at hcm5 ⊢; omega)).mono ?_
          rintro e w6 ⟨rfl, rfl⟩
          go_wp2_with (at_builtin; refine wpList_grown (x := k) T_ii rfl (.tmp 30) (.tmp 32) rfl (hown.alloc _) rfl ⟨w6.heap.size, 0, none⟩ rfl rfl (news_of (by exact heap_alloc_new w6 _)) (oneI k) (by have := hg'.size; simp; omega) (by have := hl.out; unfold maxLen; omega) (by have := hl.out; omega) (fun v8 w8 hown8 hgr hat => ?_))
          have hb8 : Below (w.heap.size + 1 + 1 + 1) w2 w8 := Own.below (hown.alloc _) (Below.alloc hg' (by have := hg'.size; omega) _) (Nat.le_refl _) (by have := hg'.size; simp; omega) hgr
          clear hgr hat
          go_wp2
          go_roundw
          case rel => exact ⟨k + 1, by omega, by go_num, by rw [hstep.out]; exact hown8, hb8⟩
          case measure => simp [intOf]; omega
        · skip
          have hstep := Lib.hid (bitsTo_yes (c := a.c ||| b.c) (k := k) (by rw [hDk, hpa, hpb]; rfl))
          rw [hpa] at cHA
          replace cHA := Lib.hid cHA
          clear hpa hpb hDk
          go_wp2_with fail
          refine (cTA.out _).mono ?_
          rintro e w3 ⟨v3, rfl, ho3, hb3⟩
          obtain ⟨A3, c3, rfl, hc3, hcm3, hArr3⟩ := ho3.arr hkI
          generalize (teams a.c).length = m3 at *
          clear ho3
          replace hArr3 := Lib.hid hArr3
          go_wp2_with fail
          refine (cHA.out _ _ _ _ hArr3.out (by unfold maxLen at hcm3 ⊢; omega)).mono ?_
          rintro e w4 ⟨rfl, rfl⟩
          replace g0 := hb3.cell g0
          replace g1 := hb3.cell g1
          replace hown := hown.grows hb3
          replace hg : Below (w.heap.size + 1 + 1 + 1) w2 w4 := hg.trans (hb3.below.mono (by omega))
          go_wp2_with (at_builtin; refine wpList_grown (x := k) T_ii rfl (.tmp 30) (.tmp 32) rfl (hown.alloc _) rfl ⟨w4.heap.size, 0, none⟩ rfl rfl (news_of (by exact heap_alloc_new w4 _)) (oneI k) (by have := hg.size; simp; omega) (by have := hl.out; unfold maxLen; omega) (by have := hl.out; omega) (fun v8 w8 hown8 hgr hat => ?_))
          have hb8 : Below (w.heap.size + 1 + 1 + 1) w2 w8 := Own.below (hown.alloc _) (Below.alloc hg (by have := hg.size; omega) _) (Nat.le_refl _) (by have := hg.size; simp; omega) hgr
          clear hgr hat
          go_wp2
          go_roundw
          case rel => exact ⟨k + 1, by omega, by go_num, by rw [hstep.out]; exact hown8, hb8⟩
          case measure => simp [intOf]; omega
        · skip
          have hstep := Lib.hid (bitsTo_yes (c := a.c ||| b.c) (k := k) (by rw [hDk, hpa, hpb]; rfl))
          rw [hpa] at cHA
          replace cHA := Lib.hid cHA
          clear hpa hpb hDk
          go_wp2_with fail
          refine (cTA.out _).mono ?_
          rintro e w3 ⟨v3, rfl, ho3, hb3⟩
          obtain ⟨A3, c3, rfl, hc3, hcm3, hArr3⟩ := ho3.arr hkI
          generalize (teams a.c).length = m3 at *
          clear ho3
          replace hArr3 := Lib.hid hArr3
          go_wp2_with fail
          refine (cHA.out _ _ _ _ hArr3.out (by unfold maxLen at hcm3 ⊢; omega)).mono ?_
          rintro e w4 ⟨rfl, rfl⟩
          replace g0 := hb3.cell g0
          replace g1 := hb3.cell g1
          replace hown := hown.grows hb3
          replace hg : Below (w.heap.size + 1 + 1 + 1) w2 w4 := hg.trans (hb3.below.mono (by omega))
          go_wp2_with (at_builtin; refine wpList_grown (x := k) T_ii rfl (.tmp 30) (.tmp 32) rfl (hown.alloc _) rfl ⟨w4.heap.size, 0, none⟩ rfl rfl (news_of (by exact heap_alloc_new w4 _)) (oneI k) (by have := hg.size; simp; omega) (by have := hl.out; unfold maxLen; omega) (by have := hl.out; omega) (fun v8 w8 hown8 hgr hat => ?_))
          have hb8 : Below (w.heap.size + 1 + 1 + 1) w2 w8 := Own.below (hown.alloc _) (Below.alloc hg (by have := hg.size; omega) _) (Nat.le_refl _) (by have := hg.size; simp; omega) hgr
          clear hgr hat
          go_wp2
          go_roundw
          case rel => exact ⟨k + 1, by omega, by go_num, by rw [hstep.out]; exact hown8, hb8⟩
          case measure => simp [intOf]; omega
      · obtain rfl : k = 32 := by omega
        rw [bitsTo_all] at hown
        obtain ⟨A3, c3, rfl, hc3, hcm3, hArr3⟩ := hown.arr hkI
        generalize (teams (a.c ||| b.c)).length = m3 at *
        clear hown hl
        replace hArr3 := Lib.hid hArr3
        go_wp2_with fail
        refine (cOf.out _ _ _ _ _ hArr3.out (by unfold maxLen at hcm3 ⊢; omega)).mono ?_
        rintro e w9 ⟨rfl, hb9⟩
        have bC9 := bC2.grows hb9
        have e0 : w9.cell? ⟨w.heap.size + 1 + 1, 0, none⟩ = some (.int .i64 0) := bC9.cell 0
        have e1 : w9.cell? ⟨w.heap.size + 1 + 1, 1, none⟩ = some (.int .u32 0) := bC9.cell 1
        have f0 := bC9.frozen 0
        have f1 := bC9.frozen 1
        go_wp2_with fail
        refine bodyPost_ret (v := .agg #[.int .i64 M, .int .u32 ((a.c ||| b.c : Nat) : Int)]) ?_ rfl ⟨by rw [hfin.out], ?_⟩
        · first | (simp [results, Tryz.results63, go_sem, e0, e1]; done) | (simp [results, Tryz.results63, go_sem, e0, e1]; exact hM.out)
        · exact Grows.setCell (Grows.setCell ((hg1.below.trans (hg.mono (by omega))).trans (hb9.below.mono (by omega))) (by simp; omega) _) (by simp; omega) _

theorem meetL_bit (x y k : Nat) : (x &&& y).testBit k = (x.testBit k && y.testBit k) := by
  rw [Nat.testBit_and]
end Go.Proofs.YtfoffneipdkdjaaGreatDoor
