/- Windows: Read, the reference's. -/
import Derived.Test.YtfppagcifcppaaaDoorWinJ
import Derived.PlainAid
namespace Go.Proofs.YtfppagcifcppaaaDoor
open Go.RowKit Go.PlainAid

def Sc.cells (s : Sc) : Array Value := #[.int .i64 s.a, .int .i64 s.b, .int .i64 s.c]
theorem Sc.cells_get (s : Sc) (h : s.k ≤ 2) : s.cells[s.k]? = some (.int .i64 s.get) := by
  obtain ⟨k, a, b, c⟩ := s
  have : k = 0 ∨ k = 1 ∨ k = 2 := by simp only at h; omega
  rcases this with rfl | rfl | rfl <;> rfl
theorem Sc.cells_set (s : Sc) (h : s.k ≤ 2) (v : Nat) : s.cells.setIfInBounds s.k (.int .i64 v) = (s.set v).cells := by
  obtain ⟨k, a, b, c⟩ := s
  have : k = 0 ∨ k = 1 ∨ k = 2 := by simp only at h; omega
  rcases this with rfl | rfl | rfl <;> rfl
theorem Sc.set_k (s : Sc) (v : Nat) : (s.set v).k = s.k := by unfold Sc.set; split <;> (try split) <;> rfl
theorem Sc.set_le (s : Sc) (v : Nat) (hv : v ≤ 10000020) (ha : s.a ≤ 10000020) (hb : s.b ≤ 10000020) (hc : s.c ≤ 10000020) : (s.set v).a ≤ 10000020 ∧ (s.set v).b ≤ 10000020 ∧ (s.set v).c ≤ 10000020 := by
  unfold Sc.set; split <;> (try split) <;> simp only <;> omega
theorem Sc.get_le (s : Sc) (ha : s.a ≤ 10000020) (hb : s.b ≤ 10000020) (hc : s.c ≤ 10000020) : s.get ≤ 10000020 := by
  unfold Sc.get; split <;> (try split) <;> omega
theorem Sc.step_on (s : Sc) {c : UInt8} {x : Int} (hx : x = c.toNat) (h : (x = 58 ∧ s.k = 0) ∨ (x = 43 ∧ s.k = 1)) : s.step c = some ⟨s.k + 1, s.a, s.b, s.c⟩ := by
  unfold Sc.step
  rw [if_pos]
  rcases h with ⟨h1, h2⟩ | ⟨h1, h2⟩
  · exact .inl ⟨UInt8.toNat_inj.1 (by rw [show (58 : UInt8).toNat = 58 from rfl]; omega), h2⟩
  · exact .inr ⟨UInt8.toNat_inj.1 (by rw [show (43 : UInt8).toNat = 43 from rfl]; omega), h2⟩
theorem Sc.step_no (s : Sc) {c : UInt8} {x : Int} (hx : x = c.toNat) (h : ¬ ((x = 58 ∧ s.k = 0) ∨ (x = 43 ∧ s.k = 1))) (h2 : x < 48 ∨ 57 < x ∨ 1000000 < s.get) : s.step c = none := by
  unfold Sc.step
  rw [if_neg, if_pos (by omega)]
  intro h3
  apply h
  rcases h3 with ⟨rfl, h3⟩ | ⟨rfl, h3⟩
  · exact .inl ⟨by rw [hx]; rfl, h3⟩
  · exact .inr ⟨by rw [hx]; rfl, h3⟩
theorem Sc.step_dg (s : Sc) {c : UInt8} {x : Int} (hx : x = c.toNat) (h2 : 48 ≤ x ∧ x ≤ 57 ∧ s.get ≤ 1000000) : s.step c = some (s.set (10 * s.get + (x - 48).toNat)) := by
  unfold Sc.step
  rw [if_neg, if_neg (by omega)]
  · congr 2; omega
  · intro h3
    rcases h3 with ⟨rfl, h3⟩ | ⟨rfl, h3⟩
    · simp at hx; omega
    · simp at hx; omega
theorem scan_snoc {l : List UInt8} {k : Nat} {c : UInt8} (h : l[k]? = some c) : scan (l.take (k + 1)) = (scan (l.take k)).bind (fun s => s.step c) := by
  have : l.take (k + 1) = l.take k ++ [c] := by
    obtain ⟨h1, h2⟩ := List.getElem?_eq_some_iff.1 h
    rw [List.take_succ_eq_append_getElem h1, h2]
  unfold scan
  rw [this, List.foldlM_append]
  cases List.foldlM Sc.step ⟨0, 0, 0, 0⟩ (l.take k) <;> simp
theorem scan_cut {l : List UInt8} {k : Nat} (h : scan (l.take k) = none) : scan l = none := by
  have : l = l.take k ++ l.drop k := (List.take_append_drop k l).symm
  unfold scan at *
  rw [this, List.foldlM_append, h]; rfl

set_option maxRecDepth 100000 in
set_option maxHeartbeats 3200000 in
theorem refRead_any (S : ByteArray) (hs : S.size ≤ 1000) (w : World) :
    Calls Tryd.prog 32 #[.string S] w (ReadPost S.data.toList w) := by
  have hsz : S.data.toList.length = S.size := Array.length_toList
  have hb := get_bt S
  have hx : ∀ k, k < S.size → ∃ c : UInt8, S.data.toList[k]? = some c ∧ bt S k = c.toNat := fun k hk => ⟨S[k], by rw [List.getElem?_eq_getElem (by omega)]; rfl, (hb k hk).symm⟩
  replace hx := Lib.hid hx
  go_enter Tryd.func32, Tryd.ntmps32
  go_wp2_with fail
  go_loopw [5, 6] (fun va vi wr => ∃ (k : Nat) (sc : Sc), va = .int .i64 sc.k ∧ vi = .int .i64 k ∧ k ≤ S.size ∧ sc.k ≤ 2 ∧ sc.a ≤ 10000020 ∧ sc.b ≤ 10000020 ∧ sc.c ≤ 10000020 ∧ Hid (scan (S.data.toList.take k) = some sc) ∧ Blk wr w.heap.size 37 #[.int .i64 0, .int .i64 0, .int .i64 0] ∧
    Blk wr (w.heap.size + 1) 49 sc.cells ∧ Grows w wr) (fun _ vi _ => S.size - (intOf vi).toNat)
  case atStart => exact ⟨0, ⟨0, 0, 0, 0⟩, rfl, rfl, by omega, by simp, by simp, by simp, by simp, rfl, (Blk.new _ _ _).alloc _, by simpa [Sc.cells] using Blk.new (w.alloc _) _ _, by
    repeat (first | assumption | exact Grows.refl _ | apply Grows.drew | apply Grows.drewN | refine Grows.alloc ?_ _ | (refine Grows.setCell ?_ (by first | (simp; done) | (simp; omega) | omega) _) | (refine Grows.trans ?_ (by assumption)))
  ⟩
  case round =>
    obtain ⟨k, sc, rfl, rfl, hk, hsk, ha, hb', hc, hsc, bl0, bl1, hg⟩ := hrel
    have szB := bl1.lt
    have cv : wr.cell? ⟨w.heap.size + 1, sc.k, none⟩ = some (.int .i64 sc.get) := (bl1.cell _).trans (sc.cells_get hsk)
    have fv : wr.frozen? ⟨w.heap.size + 1, sc.k, none⟩ = false := bl1.frozen _
    have hgl := sc.get_le ha hb' hc
    have fB : ∀ {W}, Grows wr W → W.cell? ⟨w.heap.size, 0, none⟩ = some (.int .i64 0) ∧ W.cell? ⟨w.heap.size, 1, none⟩ = some (.int .i64 0) ∧ W.cell? ⟨w.heap.size, 2, none⟩ = some (.int .i64 0) ∧ W.frozen? ⟨w.heap.size, 0, none⟩ = false ∧ W.frozen? ⟨w.heap.size, 1, none⟩ = false ∧ W.frozen? ⟨w.heap.size, 2, none⟩ = false := fun h => ⟨(bl0.grows h).cell 0, (bl0.grows h).cell 1, (bl0.grows h).cell 2, (bl0.grows h).frozen 0, (bl0.grows h).frozen 1, (bl0.grows h).frozen 2⟩
    have fin0 : Grows w (((wr.setCell ⟨w.heap.size, 0, none⟩ (.int .i64 0)).setCell ⟨w.heap.size, 1, none⟩ (.int .i64 0)).setCell ⟨w.heap.size, 2, none⟩ (.int .i64 0)) ∧ Blk (((wr.setCell ⟨w.heap.size, 0, none⟩ (.int .i64 0)).setCell ⟨w.heap.size, 1, none⟩ (.int .i64 0)).setCell ⟨w.heap.size, 2, none⟩ (.int .i64 0)) w.heap.size 37 #[.int .i64 0, .int .i64 0, .int .i64 0] :=
      ⟨((hg.setCell (by simp) _).setCell (by simp) _).setCell (by simp) _, ((bl0.set_ 0 _).set_ 1 _).set_ 2 _⟩
    by_cases hlt : k < S.size
    · obtain ⟨c, hc1, hc2⟩ := hx.out k hlt
      have hsn := scan_snoc hc1
      have hbk := hb k hlt
      rw [hsc.out, Option.bind_some] at hsn
      have hbn := bt_nonneg S k
      have hbl := bt_le S k
      have hon := fun h => hsn.trans (sc.step_on hc2 h)
      have hno := fun h h' => scan_none (scan_cut (hsn.trans (sc.step_no hc2 h h')))
      have hdg := fun h => hsn.trans (sc.step_dg hc2 h)
      clear hb
      generalize bt S k = x at *
      generalize hkk : sc.k = kk at *
      generalize hvv : sc.get = v at *
      by_cases h58 : x = 58
      · by_cases hk0 : kk = 0
        · have hfin := hon (by omega)
          replace hfin := Lib.hid hfin
          clear hon hno hdg hsn hc1 hc2 fin0 fB
          subst h58
          subst hk0
          go_wp2_with fail
          go_roundw
          case rel => exact ⟨k + 1, ⟨1, sc.a, sc.b, sc.c⟩, by go_num, by go_num, by omega, by simp, ha, hb', hc, hfin.out, bl0, bl1, hg⟩
          case measure => simp [intOf]; omega
        · have hfin := hno (by omega) (by omega)
          replace hfin := Lib.hid hfin
          obtain ⟨e0, e1, e2, f0, f1, f2⟩ := fB (Grows.refl _)
          clear hon hno hdg hsn hc1 hc2
          subst h58
          have hk0' : ¬ ((kk : Int) = 0) := by omega
          go_wp2_with fail
          have z0 : _ = some (Value.int .i64 0) := fin0.2.cell 0
          have z1 : _ = some (Value.int .i64 0) := fin0.2.cell 1
          have z2 : _ = some (Value.int .i64 0) := fin0.2.cell 2
          refine bodyPost_ret (v := .tuple #[.agg #[.int .i64 0, .int .i64 0, .int .i64 0], .int .i64 2]) ?_ rfl ⟨⟨0, 0, 0⟩, 2, rfl, hfin.out, fin0.1⟩
          simp [results, Tryd.results32, go_sem, z0, z1, z2]
      · by_cases h43 : x = 43
        · by_cases hk0 : kk = 1
          · have hfin := hon (by omega)
            replace hfin := Lib.hid hfin
            clear hon hno hdg hsn hc1 hc2 fin0 fB
            subst h43
            subst hk0
            go_wp2_with fail
            go_roundw
            case rel => exact ⟨k + 1, ⟨2, sc.a, sc.b, sc.c⟩, by go_num, by go_num, by omega, by simp, ha, hb', hc, hfin.out, bl0, bl1, hg⟩
            case measure => simp [intOf]; omega
          · have hfin := hno (by omega) (by omega)
            replace hfin := Lib.hid hfin
            obtain ⟨e0, e1, e2, f0, f1, f2⟩ := fB (Grows.refl _)
            clear hon hno hdg hsn hc1 hc2
            subst h43
            have hk0' : ¬ ((kk : Int) = 1) := by omega
            go_wp2_with fail
            have z0 : _ = some (Value.int .i64 0) := fin0.2.cell 0
            have z1 : _ = some (Value.int .i64 0) := fin0.2.cell 1
            have z2 : _ = some (Value.int .i64 0) := fin0.2.cell 2
            refine bodyPost_ret (v := .tuple #[.agg #[.int .i64 0, .int .i64 0, .int .i64 0], .int .i64 2]) ?_ rfl ⟨⟨0, 0, 0⟩, 2, rfl, hfin.out, fin0.1⟩
            simp [results, Tryd.results32, go_sem, z0, z1, z2]
        · by_cases hlo : x < 48
          · have hfin := hno (by omega) (by omega)
            replace hfin := Lib.hid hfin
            obtain ⟨e0, e1, e2, f0, f1, f2⟩ := fB (Grows.refl _)
            clear hon hno hdg hsn hc1 hc2
            go_wp2_with fail
            have z0 : _ = some (Value.int .i64 0) := fin0.2.cell 0
            have z1 : _ = some (Value.int .i64 0) := fin0.2.cell 1
            have z2 : _ = some (Value.int .i64 0) := fin0.2.cell 2
            refine bodyPost_ret (v := .tuple #[.agg #[.int .i64 0, .int .i64 0, .int .i64 0], .int .i64 2]) ?_ rfl ⟨⟨0, 0, 0⟩, 2, rfl, hfin.out, fin0.1⟩
            simp [results, Tryd.results32, go_sem, z0, z1, z2]
          · by_cases hhi : 57 < x
            · have hfin := hno (by omega) (by omega)
              replace hfin := Lib.hid hfin
              obtain ⟨e0, e1, e2, f0, f1, f2⟩ := fB (Grows.refl _)
              clear hon hno hdg hsn hc1 hc2
              go_wp2_with fail
              have z0 : _ = some (Value.int .i64 0) := fin0.2.cell 0
              have z1 : _ = some (Value.int .i64 0) := fin0.2.cell 1
              have z2 : _ = some (Value.int .i64 0) := fin0.2.cell 2
              refine bodyPost_ret (v := .tuple #[.agg #[.int .i64 0, .int .i64 0, .int .i64 0], .int .i64 2]) ?_ rfl ⟨⟨0, 0, 0⟩, 2, rfl, hfin.out, fin0.1⟩
              simp [results, Tryd.results32, go_sem, z0, z1, z2]
            · by_cases hbig : 1000000 < v
              · have hfin := hno (by omega) (by omega)
                replace hfin := Lib.hid hfin
                obtain ⟨e0, e1, e2, f0, f1, f2⟩ := fB (Grows.refl _)
                clear hon hno hdg hsn hc1 hc2
                go_wp2_with fail
                have z0 : _ = some (Value.int .i64 0) := fin0.2.cell 0
                have z1 : _ = some (Value.int .i64 0) := fin0.2.cell 1
                have z2 : _ = some (Value.int .i64 0) := fin0.2.cell 2
                refine bodyPost_ret (v := .tuple #[.agg #[.int .i64 0, .int .i64 0, .int .i64 0], .int .i64 2]) ?_ rfl ⟨⟨0, 0, 0⟩, 2, rfl, hfin.out, fin0.1⟩
                simp [results, Tryd.results32, go_sem, z0, z1, z2]
              · have hfin := hdg (by omega)
                replace hfin := Lib.hid hfin
                have hsl := sc.set_le (10 * v + (x - 48).toNat) (by omega) ha hb' hc
                have hbs : Blk (wr.setCell ⟨w.heap.size + 1, kk, none⟩ (.int .i64 ((10 * v + (x - 48).toNat : Nat) : Int))) (w.heap.size + 1) 49 (sc.set (10 * v + (x - 48).toNat)).cells := by
                  have := bl1.set_ kk (.int .i64 ((10 * v + (x - 48).toNat : Nat) : Int))
                  rw [← hkk, Sc.cells_set sc (by omega)] at this
                  rw [← hkk]; exact this
                have hval : (((10 * v + (x - 48).toNat : Nat) : Int)) = 10 * (v : Int) + (x - 48) := by omega
                rw [hval] at hbs
                clear hon hno hdg hsn hc1 hc2 fin0 fB hval
                go_wp2_with fail
                go_roundw
                case rel => exact ⟨k + 1, sc.set (10 * v + (x - 48).toNat), by rw [Sc.set_k, hkk], by go_num, by omega, by rw [Sc.set_k]; omega, hsl.1, hsl.2.1, hsl.2.2, hfin.out, bl0.far (by simp) _, hbs, hg.setCell (by simp) _⟩
                case measure => simp [intOf]; omega
    · have hke : k = S.size := by omega
      have hall : scan S.data.toList = some sc := by rw [← List.take_of_length_le (Nat.le_of_eq (hsz.trans hke.symm))]; exact hsc.out
      have hG' := scan_is hall
      have cT' := fun W => refText_any ⟨sc.a, sc.b, sc.c⟩ W
      have y0 : wr.cell? ⟨w.heap.size + 1, 0, none⟩ = some (.int .i64 sc.a) := bl1.cell 0
      have y1 : wr.cell? ⟨w.heap.size + 1, 1, none⟩ = some (.int .i64 sc.b) := bl1.cell 1
      have y2 : wr.cell? ⟨w.heap.size + 1, 2, none⟩ = some (.int .i64 sc.c) := bl1.cell 2
      simp only at cT'
      clear hsc hb hx hall cv fv hgl hsk fin0
      obtain ⟨l, rfl⟩ : ∃ l : List UInt8, S = ⟨l.toArray⟩ := ⟨S.data.toList, by simp⟩
      simp only [ByteArray.size, List.size_toArray] at hG' hlt hs hk hke
      clear hsz
      have fin0 : ∀ {W : World} {cs t u0 u1 u2}, Grows (wr.alloc (.cells cs t)) W → Grows w (((W.setCell ⟨w.heap.size, 0, none⟩ u0).setCell ⟨w.heap.size, 1, none⟩ u1).setCell ⟨w.heap.size, 2, none⟩ u2) ∧ Blk (((W.setCell ⟨w.heap.size, 0, none⟩ u0).setCell ⟨w.heap.size, 1, none⟩ u1).setCell ⟨w.heap.size, 2, none⟩ u2) w.heap.size 37 #[u0, u1, u2] :=
        fun h => ⟨((((hg.alloc _).trans h).setCell (by simp) _).setCell (by simp) _).setCell (by simp) _, ((((bl0.alloc _).grows h).set_ 0 _).set_ 1 _).set_ 2 _⟩
      have fB2 : ∀ {W cs t}, Grows (wr.alloc (.cells cs t)) W → W.cell? ⟨w.heap.size, 0, none⟩ = some (.int .i64 0) ∧ W.cell? ⟨w.heap.size, 1, none⟩ = some (.int .i64 0) ∧ W.cell? ⟨w.heap.size, 2, none⟩ = some (.int .i64 0) ∧ W.frozen? ⟨w.heap.size, 0, none⟩ = false ∧ W.frozen? ⟨w.heap.size, 1, none⟩ = false ∧ W.frozen? ⟨w.heap.size, 2, none⟩ = false := fun h => fB (((Grows.refl wr).alloc _).trans h)
      generalize ((sc.a : Nat) : Int) = v0 at *
      generalize ((sc.b : Nat) : Int) = v1 at *
      generalize ((sc.c : Nat) : Int) = v2 at *
      have cl : ∀ {W}, Grows (wr.alloc (.cells #[.int .i64 v0, .int .i64 v1, .int .i64 v2] 37)) W → W.cell? ⟨wr.heap.size, 0, none⟩ = some (.int .i64 v0) ∧ W.cell? ⟨wr.heap.size, 1, none⟩ = some (.int .i64 v1) ∧ W.cell? ⟨wr.heap.size, 2, none⟩ = some (.int .i64 v2) := fun h => ⟨((Blk.new wr _ _).grows h).cell 0, ((Blk.new wr _ _).grows h).cell 1, ((Blk.new wr _ _).grows h).cell 2⟩
      by_cases hr : rightW ⟨v0, v1, v2⟩ = true
      · have h0 : errW ⟨v0, v1, v2⟩ = 0 := by unfold errW; rw [if_pos hr]
        by_cases ht : textW ⟨v0, v1, v2⟩ = l
        · have hfin := hG'.1 ⟨hr, ht⟩
          unfold TextPost at cT'
          rw [h0, ht] at cT'
          replace hfin := Lib.hid hfin
          replace cT' := Lib.hid cT'
          clear hG' h0 ht hr
          go_wp2_with (go_at_call 31; refine (cT'.out _).mono ?_; rintro e w5 ⟨rfl, hb5⟩; obtain ⟨d0, d1, d2⟩ := cl hb5; obtain ⟨e0, e1, e2, f0, f1, f2⟩ := fB2 hb5)
          have fin := @fin0 w5 _ _ (.int .i64 v0) (.int .i64 v1) (.int .i64 v2) hb5
          have z0 : _ = some (Value.int .i64 v0) := fin.2.cell 0
          have z1 : _ = some (Value.int .i64 v1) := fin.2.cell 1
          have z2 : _ = some (Value.int .i64 v2) := fin.2.cell 2
          refine bodyPost_ret (v := .tuple #[.agg #[.int .i64 v0, .int .i64 v1, .int .i64 v2], .int .i64 0]) ?_ rfl ⟨⟨v0, v1, v2⟩, 0, rfl, hfin.out, fin.1⟩
          simp [results, Tryd.results32, go_sem, z0, z1, z2]
        · have hfin := hG'.2 (fun h => ht h.2)
          unfold TextPost at cT'
          rw [h0] at cT'
          have hne : (!textW ⟨v0, v1, v2⟩ == l) = true := by simpa using ht
          generalize textW ⟨v0, v1, v2⟩ = tl at *
          replace hfin := Lib.hid hfin
          replace cT' := Lib.hid cT'
          clear hG' h0 ht hr
          go_wp2_with (go_at_call 31; refine (cT'.out _).mono ?_; rintro e w5 ⟨rfl, hb5⟩; obtain ⟨d0, d1, d2⟩ := cl hb5; obtain ⟨e0, e1, e2, f0, f1, f2⟩ := fB2 hb5)
          have fin := @fin0 w5 _ _ (.int .i64 0) (.int .i64 0) (.int .i64 0) hb5
          have z0 : _ = some (Value.int .i64 0) := fin.2.cell 0
          have z1 : _ = some (Value.int .i64 0) := fin.2.cell 1
          have z2 : _ = some (Value.int .i64 0) := fin.2.cell 2
          refine bodyPost_ret (v := .tuple #[.agg #[.int .i64 0, .int .i64 0, .int .i64 0], .int .i64 2]) ?_ rfl ⟨⟨0, 0, 0⟩, 2, rfl, hfin.out, fin.1⟩
          simp [results, Tryd.results32, go_sem, z0, z1, z2]
      · have h0 : errW ⟨v0, v1, v2⟩ = 1 := by unfold errW; rw [if_neg hr]
        have hfin := hG'.2 (fun h => hr h.1)
        unfold TextPost at cT'
        rw [h0] at cT'
        generalize textW ⟨v0, v1, v2⟩ = tl at *
        replace hfin := Lib.hid hfin
        replace cT' := Lib.hid cT'
        clear hG' h0 hr
        go_wp2_with (go_at_call 31; refine (cT'.out _).mono ?_; rintro e w5 ⟨rfl, hb5⟩; obtain ⟨d0, d1, d2⟩ := cl hb5; obtain ⟨e0, e1, e2, f0, f1, f2⟩ := fB2 hb5)
        have fin := @fin0 w5 _ _ (.int .i64 0) (.int .i64 0) (.int .i64 0) hb5
        have z0 : _ = some (Value.int .i64 0) := fin.2.cell 0
        have z1 : _ = some (Value.int .i64 0) := fin.2.cell 1
        have z2 : _ = some (Value.int .i64 0) := fin.2.cell 2
        refine bodyPost_ret (v := .tuple #[.agg #[.int .i64 0, .int .i64 0, .int .i64 0], .int .i64 2]) ?_ rfl ⟨⟨0, 0, 0⟩, 2, rfl, hfin.out, fin.1⟩
        simp [results, Tryd.results32, go_sem, z0, z1, z2]
end Go.Proofs.YtfppagcifcppaaaDoor
