/- The walk of the law WindowCounts. -/
import Derived.Test.YtfppagcifcppaaaDoorWOneP
namespace Go.Proofs.YtfppagcifcppaaaDoor
open Go.RowKit

def sumC (gs : List Win) (a c : Int) : Int := (gs.map fun g => countW [g] a c).sum
theorem sumC_snoc {gs : List Win} {k : Nat} {g : Win} (h : gs[k]? = some g) (a c : Int) : sumC (gs.take (k + 1)) a c = sumC (gs.take k) a c + countW [g] a c := by
  unfold sumC
  rw [List.take_add_one, h]
  simp [List.sum_append]
theorem countW_bd (gs : List Win) {a c : Int} (h0 : 0 ≤ a) (h1 : a ≤ c) (h2 : c ≤ 2000) : 0 ≤ countW gs a c ∧ countW gs a c ≤ c - a + 1 := by
  rw [countW_eq gs (k := (c - a + 1).toNat) h0 (by omega) (by omega) (by omega)]
  have := cnt_bd (mutedAt gs) a (c - a + 1).toNat
  omega
theorem cnt_le_all (a : Int) (k : Nat) : ∀ gs : List Win, gs.length ≤ 20 → cnt (mutedAt gs) a k ≤ (gs.map fun g => cnt (mutedAt [g]) a k).sum
  | [], _ => by
    rw [cnt_none (fun i _ => by simp [mutedAt])]; simp
  | g :: gs, h => by
    have ih := cnt_le_all a k gs (by simp at h; omega)
    have h1 := cnt_le_sum (q := mutedAt (g :: gs)) (r := mutedAt [g]) (s := mutedAt gs) (fun t ht => by
      unfold mutedAt at ht ⊢
      rw [List.take_of_length_le h] at ht
      rw [List.take_of_length_le (by simp), List.take_of_length_le (by simp at h; omega)]
      simpa using ht) a k
    simp only [List.map_cons, List.sum_cons]
    omega
theorem counts_plain {gs : List Win} {a b c : Int} (hl : gs.length ≤ 4) (h0 : 0 ≤ a) (h1 : a ≤ b) (h2 : b + 1 ≤ c) (h3 : c ≤ 2000) :
    countW gs a c = countW gs a b + countW gs (b + 1) c ∧ countW gs a c ≤ sumC gs a c ∧ countW gs c a = 0 := by
  refine ⟨?_, ?_, countW_none gs (by omega) (by omega) (by omega)⟩
  · rw [countW_eq gs (k := (b - a + 1).toNat + (c - b).toNat) h0 (by omega) (by omega) (by omega), countW_eq gs (k := (b - a + 1).toNat) h0 (by omega) (by omega) (by omega), countW_eq gs (k := (c - b).toNat) (by omega) (by omega) (by omega) (by omega), cnt_add]
    congr 2
    omega
  · have := cnt_le_all a (c - a + 1).toNat gs (by omega)
    rw [countW_eq gs (k := (c - a + 1).toNat) h0 (by omega) (by omega) (by omega)]
    unfold sumC
    rw [show (fun g => countW [g] a c) = (fun g => cnt (mutedAt [g]) a (c - a + 1).toNat) from funext fun g => countW_eq [g] (k := (c - a + 1).toNat) h0 (by omega) (by omega) (by omega)]
    exact this

set_option maxRecDepth 100000 in
set_option maxHeartbeats 6400000 in
theorem counts_law (A : Option Addr) (m c : Nat) (ws : List Win) (x y z : Int) (w : World) (he : LibEnv w) (h : Arr w 3 encW A m ws) (hcap : m ≤ c) (hcm : c ≤ maxLen) :
    Calls Tryd.prog 7 #[.slice A m c, .agg #[.int .i64 x, .int .i64 y, .int .i64 z]] w fun e w' => e = .returned (.bool true) ∧ Grows w w' := by
  have cL := fun o => lives_any (w.alloc o) (he.grows ((Grows.refl w).alloc o))
  have hm : m ≤ maxLen := by omega
  have hA := Lib.hid h
  replace cL := Lib.hid cL
  have hX0 := u64w x
  have hY0 := u64w y
  have hZ0 := u64w z
  obtain ⟨a, ha0, ha1, hax⟩ : ∃ R : Int, 0 ≤ R ∧ R < 1000 ∧ IntKind.u64.wrap x % 1000 = R := ⟨_, by omega, by omega, rfl⟩
  obtain ⟨b', hb0, hb1, hbx⟩ : ∃ R : Int, 0 ≤ R ∧ R < 300 ∧ IntKind.u64.wrap y % 300 = R := ⟨_, by omega, by omega, rfl⟩
  obtain ⟨c', hc0, hc1, hcx⟩ : ∃ R : Int, 0 ≤ R ∧ R < 300 ∧ IntKind.u64.wrap z % 300 = R := ⟨_, by omega, by omega, rfl⟩
  generalize hX : IntKind.u64.wrap x = X at *
  generalize hY : IntKind.u64.wrap y = Y at *
  generalize hZ : IntKind.u64.wrap z = Z at *
  clear h he hcap hcm
  go_enter Tryd.func7, Tryd.ntmps7
  go_wp2_with fail
  refine (cL.out _).mono ?_
  rintro e w1 ⟨rfl, hb1⟩
  have blW : Blk w1 w.heap.size 49 #[.int .i64 x, .int .i64 y, .int .i64 z] := (Blk.new w _ _).grows hb1
  have hg1 : Grows w w1 := ((Grows.refl _).alloc _).trans hb1
  clear cL hb1
  go_wp2_with fail
  refine (good_any A m c ws w1 (hA.out.keep hg1) hm).mono ?_
  rintro e w2 ⟨v2, rfl, ho2, hb2⟩
  have hgl : ((ws.take 4).map goodW).length ≤ 4 := by simp; omega
  generalize (ws.take 4).map goodW = gs at ho2 hgl
  obtain ⟨A2, c2, rfl, hc2, hcm2, hA2⟩ := ho2.arr hkW
  generalize hL : gs.length = L at *
  clear ho2 hA hm
  replace hA2 := Lib.hid hA2
  replace blW := blW.grows hb2
  replace hg1 := hg1.trans hb2
  clear hb2
  go_wp2_with fail
  refine (back_any A2 L c2 gs w2 hA2.out (by omega)).mono ?_
  rintro e w3 ⟨v3, rfl, ho3, hb3⟩
  rw [List.take_of_length_le (by omega)] at ho3
  obtain ⟨A3, c3, rfl, hc3, hcm3, hA3⟩ := ho3.arr hkW
  rw [hL] at hc3 hA3
  simp only [hL]
  clear ho3 hA2 hc2 hcm2
  replace blW := blW.grows hb3
  replace hg1 := hg1.trans hb3
  clear hb3
  replace hA3 := Lib.hid hA3
  replace hL := Lib.hid hL
  have d0 : w3.cell? ⟨w.heap.size, 0, none⟩ = some (.int .i64 x) := blW.cell 0
  have d1 : w3.cell? ⟨w.heap.size, 1, none⟩ = some (.int .i64 y) := blW.cell 1
  have d2 : w3.cell? ⟨w.heap.size, 2, none⟩ = some (.int .i64 z) := blW.cell 2
  have cB := fun (p q : Int) W hW => count_any A3 L c3 gs p q W ((hA3.out).keep (w' := W) hW) hc3 hcm3
  obtain ⟨b, hb⟩ : ∃ b : Int, a + b' = b := ⟨_, rfl⟩
  obtain ⟨d, hd⟩ : ∃ d : Int, b + 1 + c' = d := ⟨_, rfl⟩
  have e1 : a ≤ b := by omega
  have e2 : b + 1 ≤ d := by omega
  have e3 : d ≤ 2000 := by omega
  obtain ⟨p1, p2, p3⟩ := counts_plain (by rw [hL.out]; exact hgl) ha0 e1 e2 e3
  have c1 := cB a d
  have c21 := cB a b
  have c22 := cB (b + 1) d
  have c3' := cB d a
  rw [p3] at c3'
  have q1 := countW_bd gs ha0 (by omega) e3
  have q2 := countW_bd gs ha0 e1 (by omega)
  have q3 := countW_bd gs (by omega) e2 e3
  have hone := fun g => countW_bd [g] ha0 (show a ≤ d by omega) e3
  have cO := fun A' c' (g : Win) W h1 h2 h3 => count_any A' 1 c' [g] a d W h1 h2 h3
  clear cB p3
  generalize countW gs a d = n at *
  generalize countW gs a b = n1 at *
  generalize countW gs (b + 1) d = n2 at *
  replace c1 := Lib.hid c1
  replace c21 := Lib.hid c21
  replace c22 := Lib.hid c22
  replace c3' := Lib.hid c3'
  replace cO := Lib.hid cO
  replace p1 := Lib.hid p1
  replace p2 := Lib.hid p2
  replace hone := Lib.hid hone
  replace hA3 := Lib.hid (hA3.out)
  go_wp2_with fail
  refine (c1.out _ (Grows.refl _)).mono ?_
  rintro e w4 ⟨rfl, hb4⟩
  clear hX hY hZ hax hbx hcx hb hd c1 d0 d1 d2
  replace hg1 := hg1.trans hb4
  go_wp2_with fail
  go_loopw [10, 11] (fun vs vi wr => ∃ (k : Nat) (t : Int), vi = .int .i64 k ∧ k ≤ L ∧ vs = .int .i64 t ∧ 0 ≤ t ∧ t ≤ 2001 * k ∧ Hid (t = sumC (gs.take k) a d) ∧ Grows w4 wr) (fun _ vi _ => L - (intOf vi).toNat)
  case atStart => exact ⟨0, 0, rfl, by omega, rfl, by omega, by omega, rfl, Grows.refl _⟩
  case round =>
    obtain ⟨k, t, rfl, hk, rfl, ht0, ht1, hts, hg⟩ := hrel
    by_cases hkL : k < L
    · obtain ⟨bb, off, g, rfl, _, hx, _⟩ := (hA3.out).at_ hkL
      have hsub := Lib.hid (Arr.one_of ((hA3.out).keep (hb4.trans hg)) hx)
      have hsn := sumC_snoc hx a d
      rw [← hts.out] at hsn
      have hog := hone.out g
      have cOg := cO.out (some ⟨bb, off + k * 3, none⟩) (c3 - k) g
      generalize countW [g] a d = o at *
      replace hsn := Lib.hid hsn
      replace cOg := Lib.hid cOg
      clear hx hts
      go_wp2_with fail
      refine (cOg.out _ hsub.out (by omega) (by omega)).mono ?_
      rintro e w9 ⟨rfl, hb9⟩
      go_wp2_with fail
      go_roundw
      case rel => exact ⟨k + 1, t + o, by go_num, by omega, by go_num, by omega, by omega, hsn.out.symm, hg.trans hb9⟩
      case measure => simp [intOf]; omega
    · obtain rfl : k = L := by omega
      have hsum : n ≤ t := by
        have h1 := hts.out
        rw [List.take_of_length_le (by rw [hL.out]; exact Nat.le_refl _)] at h1
        rw [h1]; exact p2.out
      clear hts hone
      obtain rfl := p1.out
      clear p1 p2 cO
      go_wp2_with fail
      refine (c21.out _ (hb4.trans hg)).mono ?_
      rintro e w5 ⟨rfl, hb5⟩
      go_wp2_with fail
      refine (c22.out _ ((hb4.trans hg).trans hb5)).mono ?_
      rintro e w6 ⟨rfl, hb6⟩
      go_wp2_with fail
      refine (c3'.out _ (((hb4.trans hg).trans hb5).trans hb6)).mono ?_
      rintro e w7 ⟨rfl, hb7⟩
      go_wp2_with fail
      go_ret
      exact ⟨rfl, (((hg1.trans hg).trans hb5).trans hb6).trans hb7⟩
end Go.Proofs.YtfppagcifcppaaaDoor
