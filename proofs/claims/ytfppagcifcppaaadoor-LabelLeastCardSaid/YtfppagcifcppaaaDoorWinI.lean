/- Windows: Text, the program's and the reference's. -/
import Derived.Test.YtfppagcifcppaaaDoorWinP
import Derived.Test.YtfppagcifcppaaaDoorLib
import Derived.Test.YtfppagcifcppaaaDoorDig
namespace Go.Proofs.YtfppagcifcppaaaDoor
open Go.RowKit

def TextPost (x : Win) (w : World) (e : Ending) (w' : World) : Prop := e = .returned (.tuple #[.string ⟨(textW x).toArray⟩, .int .i64 (errW x)]) ∧ Grows w w'
theorem ret_tup {a b : Value} {c d : Value} (h : a = c) (h' : b = d) : Ending.returned (.tuple #[a, b]) = .returned (.tuple #[c, d]) := by rw [h, h']

set_option maxRecDepth 100000 in
set_option maxHeartbeats 1600000 in
theorem text_any (x : Win) (w : World) (he : LibEnv w) :
    Calls Tryd.prog 27 #[.agg #[.int .i64 x.p, .int .i64 x.f, .int .i64 x.l]] w (TextPost x w) := by
  have cR := fun w => right_any x.p x.f x.l w
  cases hr : wRight x.p x.f x.l
  · have hfin : textW x = [] ∧ errW x = 1 := by unfold textW errW rightW; rw [hr]; simp
    rw [hr] at cR
    replace hfin := Lib.hid hfin
    replace cR := Lib.hid cR
    clear hr
    go_enter Tryd.func27, Tryd.ntmps27
    go_wp2_with (go_at_call 29; refine (cR.out _).mono ?_; rintro e w1 ⟨rfl, hb⟩)
    go_ret2
    exact ⟨by rw [hfin.out.1, hfin.out.2]; rfl, ((Grows.refl _).alloc _).trans hb⟩
  · obtain ⟨r1, r2, r3, r4, r5, r6⟩ := wRight_iff.1 hr
    have hfin : textW x = textL x.p.toNat x.f.toNat x.l.toNat ∧ errW x = 0 := by unfold textW errW rightW; rw [hr]; simp
    have e1 := decDigits_len 5 x.p.toNat (by omega)
    have e2 := decDigits_len 5 x.f.toNat (by omega)
    have e3 := decDigits_len 5 x.l.toNat (by omega)
    have cI : ∀ n : Int, 0 ≤ n → n ≤ 100000 → ∀ W, Grows w W → Calls Tryd.prog 62 #[.int .i64 n] W fun e w' => e = .returned (.string ⟨(Lib.decDigits n.toNat).toArray⟩) ∧ Grows W w' := fun n h0 h1 W hW => by
      rw [← itoa_nat n h0]; exact itoa_any n (by omega) (by omega) W (he.grows hW)
    have cA := cI x.p (by omega) (by omega)
    have cB := cI x.f (by omega) (by omega)
    have cC := cI x.l (by omega) (by omega)
    clear cI
    unfold textL at hfin
    generalize Lib.decDigits x.p.toNat = lp at *
    generalize Lib.decDigits x.f.toNat = lf at *
    generalize Lib.decDigits x.l.toNat = ll at *
    rw [hr] at cR
    replace hfin := Lib.hid hfin
    replace cR := Lib.hid cR
    replace cA := Lib.hid cA
    replace cB := Lib.hid cB
    replace cC := Lib.hid cC
    clear hr
    go_enter Tryd.func27, Tryd.ntmps27
    go_wp2_with (go_at_call 29; refine (cR.out _).mono ?_; rintro e w1 ⟨rfl, hb⟩; obtain ⟨hc1, hf1⟩ := bcells hb; have hl1 := hb.lt)
    have hg1 : Grows w w1 := ((Grows.refl _).alloc _).trans hb
    refine wp_region_mixg [(0, true), (1, true), (4, true), (5, true), (9, true), (10, true), (2, false), (3, true), (6, false), (7, true), (8, true), (11, false), (12, true), (13, true), (14, true)] (by kernel_rfl) (by kernel_rfl) rfl (by kernel_rfl) (by intro c a d v w h; cases d <;> exact h) ?_
    iterate 6 (refine wpMix_q rfl (fun K hK => ?_); go_simp; (try go_bits); first | (refine hK _ ?_; clear hK K) | (apply Exists.intro; refine ⟨fun wq hsq => ?_, hK _ ?_⟩; (first | (go_simp; done) | ((try go_simp); (try simp only [↓IntWalk.iteOmega]); (try go_bits); rfl) | (obtain ⟨hcq, hfq⟩ := bcells hsq; go_simp; done) | (obtain ⟨hcq, hfq⟩ := bcells hsq; (try go_simp); (try simp only [↓IntWalk.iteOmega]); (try go_bits); rfl)); clear hK K))
    refine wpMix_m rfl (fun K' hK => ?_)
    go_simp
    refine (cA.out _ hg1.drew).mono ?_
    rintro e w2 ⟨rfl, hb2⟩
    refine hK.out _ _ ?_ (fun hS => ?_)
    · repeat (first | assumption | exact Grows.refl _ | apply Grows.drew | apply Grows.drewN | refine Grows.alloc ?_ _ | (refine Grows.setCell ?_ (by first | (simp; done) | (simp; omega) | omega) _) | (refine Grows.trans ?_ (by assumption)))
    clear hK hS
    iterate 1 (refine wpMix_q rfl (fun K hK => ?_); go_simp; (try go_bits); first | (refine hK _ ?_; clear hK K) | (apply Exists.intro; refine ⟨fun wq hsq => ?_, hK _ ?_⟩; (first | (go_simp; done) | ((try go_simp); (try simp only [↓IntWalk.iteOmega]); (try go_bits); rfl) | (obtain ⟨hcq, hfq⟩ := bcells hsq; go_simp; done) | (obtain ⟨hcq, hfq⟩ := bcells hsq; (try go_simp); (try simp only [↓IntWalk.iteOmega]); (try go_bits); rfl)); clear hK K))
    refine wpMix_m rfl (fun K' hK => ?_)
    go_simp
    refine (cB.out _ (hg1.drew.trans hb2)).mono ?_
    rintro e w3 ⟨rfl, hb3⟩
    refine hK.out _ _ ?_ (fun hS => ?_)
    · repeat (first | assumption | exact Grows.refl _ | apply Grows.drew | apply Grows.drewN | refine Grows.alloc ?_ _ | (refine Grows.setCell ?_ (by first | (simp; done) | (simp; omega) | omega) _) | (refine Grows.trans ?_ (by assumption)))
    clear hK hS
    iterate 2 (refine wpMix_q rfl (fun K hK => ?_); go_simp; (try go_bits); first | (refine hK _ ?_; clear hK K) | (apply Exists.intro; refine ⟨fun wq hsq => ?_, hK _ ?_⟩; (first | (go_simp; done) | ((try go_simp); (try simp only [↓IntWalk.iteOmega]); (try go_bits); rfl) | (obtain ⟨hcq, hfq⟩ := bcells hsq; go_simp; done) | (obtain ⟨hcq, hfq⟩ := bcells hsq; (try go_simp); (try simp only [↓IntWalk.iteOmega]); (try go_bits); rfl)); clear hK K))
    refine wpMix_m rfl (fun K' hK => ?_)
    go_simp
    refine (cC.out _ ((hg1.drew.trans hb2).trans hb3)).mono ?_
    rintro e w4 ⟨rfl, hb4⟩
    refine hK.out _ _ ?_ (fun hS => ?_)
    · repeat (first | assumption | exact Grows.refl _ | apply Grows.drew | apply Grows.drewN | refine Grows.alloc ?_ _ | (refine Grows.setCell ?_ (by first | (simp; done) | (simp; omega) | omega) _) | (refine Grows.trans ?_ (by assumption)))
    clear hK hS
    iterate 3 (refine wpMix_q rfl (fun K hK => ?_); go_simp; (try go_bits); first | (refine hK _ ?_; clear hK K) | (apply Exists.intro; refine ⟨fun wq hsq => ?_, hK _ ?_⟩; (first | (go_simp; done) | ((try go_simp); (try simp only [↓IntWalk.iteOmega]); (try go_bits); rfl) | (obtain ⟨hcq, hfq⟩ := bcells hsq; go_simp; done) | (obtain ⟨hcq, hfq⟩ := bcells hsq; (try go_simp); (try simp only [↓IntWalk.iteOmega]); (try go_bits); rfl)); clear hK K))
    refine wpMix_nil ?_
    go_wp2
    go_ret2
    refine ⟨?_, ((hg1.drew.trans hb2).trans hb3).trans hb4⟩
    rw [hfin.out.1, hfin.out.2]
    exact ret_tup (congrArg Value.string (ByteArray.ext (by simp))) rfl

set_option maxRecDepth 100000 in
set_option maxHeartbeats 1600000 in
theorem refText_any (x : Win) (w : World)  :
    Calls Tryd.prog 31 #[.agg #[.int .i64 x.p, .int .i64 x.f, .int .i64 x.l]] w (TextPost x w) := by
  have cR := fun w => refRight_any x.p x.f x.l w
  cases hr : wRight x.p x.f x.l
  · have hfin : textW x = [] ∧ errW x = 1 := by unfold textW errW rightW; rw [hr]; simp
    rw [hr] at cR
    replace hfin := Lib.hid hfin
    replace cR := Lib.hid cR
    clear hr
    go_enter Tryd.func31, Tryd.ntmps31
    go_wp2_with (go_at_call 35; refine (cR.out _).mono ?_; rintro e w1 ⟨rfl, hb⟩)
    go_ret2
    exact ⟨by rw [hfin.out.1, hfin.out.2]; rfl, ((Grows.refl _).alloc _).trans hb⟩
  · obtain ⟨r1, r2, r3, r4, r5, r6⟩ := wRight_iff.1 hr
    have hfin : textW x = textL x.p.toNat x.f.toNat x.l.toNat ∧ errW x = 0 := by unfold textW errW rightW; rw [hr]; simp
    have e1 := decDigits_len 5 x.p.toNat (by omega)
    have e2 := decDigits_len 5 x.f.toNat (by omega)
    have e3 := decDigits_len 5 x.l.toNat (by omega)
    have cI : ∀ n : Int, 0 ≤ n → n ≤ 100000 → ∀ W, Grows w W → Calls Tryd.prog 65 #[.int .i64 n] W fun e w' => e = .returned (.string ⟨(Lib.decDigits n.toNat).toArray⟩) ∧ Grows W w' := fun n h0 h1 W hW => by
      have := digits_any n.toNat (by omega) W
      rw [show ((n.toNat : Nat) : Int) = n by omega] at this
      exact this.mono fun _ _ ⟨e, h⟩ => ⟨e, by rw [h]; exact Grows.refl _⟩
    have cA := cI x.p (by omega) (by omega)
    have cB := cI x.f (by omega) (by omega)
    have cC := cI x.l (by omega) (by omega)
    clear cI
    unfold textL at hfin
    generalize Lib.decDigits x.p.toNat = lp at *
    generalize Lib.decDigits x.f.toNat = lf at *
    generalize Lib.decDigits x.l.toNat = ll at *
    rw [hr] at cR
    replace hfin := Lib.hid hfin
    replace cR := Lib.hid cR
    replace cA := Lib.hid cA
    replace cB := Lib.hid cB
    replace cC := Lib.hid cC
    clear hr
    go_enter Tryd.func31, Tryd.ntmps31
    go_wp2_with (go_at_call 35; refine (cR.out _).mono ?_; rintro e w1 ⟨rfl, hb⟩; obtain ⟨hc1, hf1⟩ := bcells hb; have hl1 := hb.lt)
    have hg1 : Grows w w1 := ((Grows.refl _).alloc _).trans hb
    refine wp_region_mixg [(0, true), (1, true), (4, true), (5, true), (9, true), (10, true), (2, false), (3, true), (6, false), (7, true), (8, true), (11, false), (12, true), (13, true), (14, true)] (by kernel_rfl) (by kernel_rfl) rfl (by kernel_rfl) (by intro c a d v w h; cases d <;> exact h) ?_
    iterate 6 (refine wpMix_q rfl (fun K hK => ?_); go_simp; (try go_bits); first | (refine hK _ ?_; clear hK K) | (apply Exists.intro; refine ⟨fun wq hsq => ?_, hK _ ?_⟩; (first | (go_simp; done) | ((try go_simp); (try simp only [↓IntWalk.iteOmega]); (try go_bits); rfl) | (obtain ⟨hcq, hfq⟩ := bcells hsq; go_simp; done) | (obtain ⟨hcq, hfq⟩ := bcells hsq; (try go_simp); (try simp only [↓IntWalk.iteOmega]); (try go_bits); rfl)); clear hK K))
    refine wpMix_m rfl (fun K' hK => ?_)
    go_simp
    refine (cA.out _ hg1.drew).mono ?_
    rintro e w2 ⟨rfl, hb2⟩
    refine hK.out _ _ ?_ (fun hS => ?_)
    · repeat (first | assumption | exact Grows.refl _ | apply Grows.drew | apply Grows.drewN | refine Grows.alloc ?_ _ | (refine Grows.setCell ?_ (by first | (simp; done) | (simp; omega) | omega) _) | (refine Grows.trans ?_ (by assumption)))
    clear hK hS
    iterate 1 (refine wpMix_q rfl (fun K hK => ?_); go_simp; (try go_bits); first | (refine hK _ ?_; clear hK K) | (apply Exists.intro; refine ⟨fun wq hsq => ?_, hK _ ?_⟩; (first | (go_simp; done) | ((try go_simp); (try simp only [↓IntWalk.iteOmega]); (try go_bits); rfl) | (obtain ⟨hcq, hfq⟩ := bcells hsq; go_simp; done) | (obtain ⟨hcq, hfq⟩ := bcells hsq; (try go_simp); (try simp only [↓IntWalk.iteOmega]); (try go_bits); rfl)); clear hK K))
    refine wpMix_m rfl (fun K' hK => ?_)
    go_simp
    refine (cB.out _ (hg1.drew.trans hb2)).mono ?_
    rintro e w3 ⟨rfl, hb3⟩
    refine hK.out _ _ ?_ (fun hS => ?_)
    · repeat (first | assumption | exact Grows.refl _ | apply Grows.drew | apply Grows.drewN | refine Grows.alloc ?_ _ | (refine Grows.setCell ?_ (by first | (simp; done) | (simp; omega) | omega) _) | (refine Grows.trans ?_ (by assumption)))
    clear hK hS
    iterate 2 (refine wpMix_q rfl (fun K hK => ?_); go_simp; (try go_bits); first | (refine hK _ ?_; clear hK K) | (apply Exists.intro; refine ⟨fun wq hsq => ?_, hK _ ?_⟩; (first | (go_simp; done) | ((try go_simp); (try simp only [↓IntWalk.iteOmega]); (try go_bits); rfl) | (obtain ⟨hcq, hfq⟩ := bcells hsq; go_simp; done) | (obtain ⟨hcq, hfq⟩ := bcells hsq; (try go_simp); (try simp only [↓IntWalk.iteOmega]); (try go_bits); rfl)); clear hK K))
    refine wpMix_m rfl (fun K' hK => ?_)
    go_simp
    refine (cC.out _ ((hg1.drew.trans hb2).trans hb3)).mono ?_
    rintro e w4 ⟨rfl, hb4⟩
    refine hK.out _ _ ?_ (fun hS => ?_)
    · repeat (first | assumption | exact Grows.refl _ | apply Grows.drew | apply Grows.drewN | refine Grows.alloc ?_ _ | (refine Grows.setCell ?_ (by first | (simp; done) | (simp; omega) | omega) _) | (refine Grows.trans ?_ (by assumption)))
    clear hK hS
    iterate 3 (refine wpMix_q rfl (fun K hK => ?_); go_simp; (try go_bits); first | (refine hK _ ?_; clear hK K) | (apply Exists.intro; refine ⟨fun wq hsq => ?_, hK _ ?_⟩; (first | (go_simp; done) | ((try go_simp); (try simp only [↓IntWalk.iteOmega]); (try go_bits); rfl) | (obtain ⟨hcq, hfq⟩ := bcells hsq; go_simp; done) | (obtain ⟨hcq, hfq⟩ := bcells hsq; (try go_simp); (try simp only [↓IntWalk.iteOmega]); (try go_bits); rfl)); clear hK K))
    refine wpMix_nil ?_
    go_wp2
    go_ret2
    refine ⟨?_, ((hg1.drew.trans hb2).trans hb3).trans hb4⟩
    rw [hfin.out.1, hfin.out.2]
    exact ret_tup (congrArg Value.string (ByteArray.ext (by simp))) rfl

end Go.Proofs.YtfppagcifcppaaaDoor
