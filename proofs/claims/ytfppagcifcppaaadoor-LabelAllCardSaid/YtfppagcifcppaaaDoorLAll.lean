/- The walk of the law LabelAll. -/
import Derived.Test.YtfppagcifcppaaaDoorLAllP
namespace Go.Proofs.YtfppagcifcppaaaDoor
open Go.RowKit

set_option maxRecDepth 100000 in
set_option maxHeartbeats 6400000 in
theorem all_law (A : Option Addr) (m c : Nat) (ws : List Lab) (a : Lab) (w : World) (he : LibEnv w) (h : Arr w 2 encL A m ws) (hcap : m ≤ c) (_hcm : c ≤ maxLen) (hok : ∀ x ∈ ws, x.ok) (ha : a.ok) :
    Calls Tryd.prog 17 #[.slice A m c, .agg #[.int .i64 a.lv, .int .u32 (a.c : Int)]] w fun e w' => e = .returned (.bool true) ∧ Grows w w' := by
  have cL := fun o => llives_any (w.alloc o) (he.grows ((Grows.refl w).alloc o))
  obtain ⟨M, hM, hMm, hM50⟩ : ∃ M : Nat, min (m : Int) 50 = M ∧ M ≤ m ∧ M ≤ 50 := by
    by_cases h22 : 50 < m
    · exact ⟨50, by omega, by omega, by omega⟩
    · exact ⟨m, by omega, by omega, by omega⟩
  have hA := h.take hMm
  have hok2 : ∀ x ∈ ws.take M, x.ok := fun x hx => hok x (List.mem_of_mem_take hx)
  clear h hok he
  have hl := hA.1
  generalize ws.take M = ys at *
  have hyM : ys.take M = ys := List.take_of_length_le (by omega)
  have hmm : ((maxLen : Nat) : Int) = 9223372036854775807 := by simp [maxLen]
  have hJok := accL_ok hok2 M
  have cF : ∀ x ∈ ys, ∀ W, Calls Tryd.prog 42 #[.agg #[.int .i64 x.lv, .int .u32 (x.c : Int)], .agg #[.int .i64 a.lv, .int .u32 (a.c : Int)]] W fun e w' => e = .returned (.bool (flowsL x a)) ∧ Grows W w' := fun x hx W => lFlows_any x a W (hok2 x hx) ha
  have cFa : ∀ x ∈ ys, ∀ W, Calls Tryd.prog 42 #[.agg #[.int .i64 a.lv, .int .u32 (a.c : Int)], .agg #[.int .i64 x.lv, .int .u32 (x.c : Int)]] W fun e w' => e = .returned (.bool (flowsL a x)) ∧ Grows W w' := fun x hx W => lFlows_any a x W ha (hok2 x hx)
  have cFj : ∀ x ∈ ys, ∀ W, Calls Tryd.prog 42 #[.agg #[.int .i64 x.lv, .int .u32 (x.c : Int)], .agg #[.int .i64 (accL ys M).lv, .int .u32 ((accL ys M).c : Int)]] W fun e w' => e = .returned (.bool (flowsL x (accL ys M))) ∧ Grows W w' := fun x hx W => lFlows_any x (accL ys M) W (hok2 x hx) hJok
  have cR := fun (x : Lab) W => lRight_any x W
  have cJa := fun W => lFlows_any (accL ys M) a W hJok ha
  have cAll := fun W hW => lAll_any A M c ys W hW (by unfold maxLen; omega) hok2
  have cAb := fun W hW => lAbove_any a ha A M c ys W hW (by omega) hok2
  have hRJ : ys.all (fun x => labRight x.lv) = true → (∀ x ∈ ys, flowsL x (accL ys M) = true) ∧ flowsL (accL ys M) a = (labRight a.lv && ys.all (fun x => flowsL x a)) := fun hr => by
    rw [List.all_eq_true] at hr
    have h1 := acc_right (xs := ys) M (by rw [hyM]; exact hr)
    rw [hyM] at h1
    refine ⟨h1.2, ?_⟩
    rw [Bool.eq_iff_iff, Bool.and_eq_true, List.all_eq_true]
    constructor
    · exact fun h => ⟨(flows_right h).2, fun x hx => flows_trans (h1.2 x hx) h⟩
    · exact fun h => acc_least h.1 M (by rw [hyM]; exact h.2)
  have hRT : ys.all (fun x => labRight x.lv) = false → accL ys M = ⟨7, 4294967295⟩ := fun hr => by
    rw [List.all_eq_false] at hr
    obtain ⟨x, hx, hxr⟩ := hr
    exact acc_top hok2 M ⟨x, by rw [hyM]; exact hx, by simpa using hxr⟩
  have hget := fun (k : Nat) (x : Lab) (hk : k < M) (hx : ys[k]? = some x) (hf : flowsL a x = true) => aboveTo_get (a := a) (xs := ys) hk hx hf
  have hlen2 := aboveTo_len a ys M
  generalize accL ys M = J at *
  replace cL := Lib.hid cL
  replace hA := Lib.hid hA
  replace cF := Lib.hid cF
  replace cFa := Lib.hid cFa
  replace cFj := Lib.hid cFj
  replace cR := Lib.hid cR
  replace cJa := Lib.hid cJa
  replace cAll := Lib.hid cAll
  replace cAb := Lib.hid cAb
  replace hRJ := Lib.hid hRJ
  replace hRT := Lib.hid hRT
  replace hget := Lib.hid hget
  replace hyM := Lib.hid hyM
  clear hok2 hJok ha
  go_enter Tryd.func17, Tryd.ntmps17
  go_wp2_with fail
  refine (cL.out _).mono ?_
  rintro e w1 ⟨rfl, hb1⟩
  have blA : Blk w1 w.heap.size 62 #[.int .i64 a.lv, .int .u32 (a.c : Int)] := (Blk.new w _ _).grows hb1
  have hg : Grows w w1 := ((Grows.refl _).alloc _).trans hb1
  clear cL hb1
  go_wp2_with fail
  refine (cAll.out _ (hA.out.keep hg)).mono ?_
  rintro e w2 ⟨rfl, hb2⟩
  have blJ := Blk.new w2 62 #[.int .i64 J.lv, .int .u32 (J.c : Int)]
  replace blA := (blA.grows hb2).alloc (.cells #[.int .i64 J.lv, .int .u32 (J.c : Int)] 62)
  replace hg := (hg.trans hb2).alloc (.cells #[.int .i64 J.lv, .int .u32 (J.c : Int)] 62)
  clear hb2
  have d0A := blA.cell 0
  have d1A := blA.cell 1
  have sA := blA.lt
  go_wp2_with fail
  refine (cR.out a _).mono ?_
  rintro e w3 ⟨rfl, hb3⟩
  replace hg := hg.trans hb3
  replace blA := blA.grows hb3
  (try clear d0A); (try clear d1A); (try clear sA)
  have d0A := blA.cell 0
  have d1A := blA.cell 1
  have sA := blA.lt
  replace blJ := blJ.grows hb3
  clear hb3
  generalize w2.heap.size = gJ at *
  clear d0A d1A sA
  go_wp2_with fail
  go_loopw [6, 7, 8] (fun r u i wr => ∃ k : Nat, k ≤ M ∧ i = .int .i64 k ∧ r = .bool ((ys.take k).all fun x => labRight x.lv) ∧ u = .bool (labRight a.lv && (ys.take k).all fun x => flowsL x a) ∧ Grows w3 wr) (fun _ _ i _ => M - (intOf i).toNat)
  case atStart => exact ⟨0, by omega, rfl, by simp, by simp, Grows.refl _⟩
  case round =>
    obtain ⟨k, hk, rfl, rfl, rfl, hgr⟩ := hrel
    by_cases hkM : k < M
    · have bA := blA.grows hgr
      have bJ := blJ.grows hgr
      have d0A := bA.cell 0
      have d1A := bA.cell 1
      have sA := bA.lt
      have d0J := bJ.cell 0
      have d1J := bJ.cell 1
      have sJ := bJ.lt
      obtain ⟨b, off, x, rfl, hsx, hx, hcell⟩ := (hA.out.keep (hg.trans hgr)).at_ hkM
      have c0 : wr.cell? ⟨b, off + k * 2, none⟩ = some (.int .i64 x.lv) := by simpa using hcell 0 _ rfl
      have c1 : wr.cell? ⟨b, off + k * 2 + 1, none⟩ = some (.int .u32 (x.c : Int)) := by simpa using hcell 1 _ rfl
      have cFx := cF.out x (List.mem_of_getElem? hx)
      have cRx := cR.out x
      have hr' := all_take_succ (fun x : Lab => labRight x.lv) ys k x hx
      have hu' : (labRight a.lv && (ys.take (k + 1)).all fun x => flowsL x a) = ((labRight a.lv && (ys.take k).all fun x => flowsL x a) && flowsL x a) := by
        rw [all_take_succ (fun x : Lab => flowsL x a) ys k x hx, Bool.and_assoc]
      clear hcell hx
      generalize (ys.take k).all (fun x => labRight x.lv) = rk at *
      generalize (labRight a.lv && (ys.take k).all fun x => flowsL x a) = uk at *
      generalize labRight x.lv = p at *
      generalize flowsL x a = f at *
      replace hr' := Lib.hid hr'
      replace hu' := Lib.hid hu'
      replace cFx := Lib.hid cFx
      replace cRx := Lib.hid cRx
      cases rk <;> cases uk
      · go_wp2_with fail
        refine wp_region_mixg [(0, true), (1, true), (2, true), (3, true), (4, true), (5, true), (6, true), (7, false), (8, true), (9, true)] (by kernel_rfl) (by kernel_rfl) rfl (by kernel_rfl) (by intro c a d v w h; cases d <;> exact h) ?_
        iterate 7 (refine wpMix_q rfl (fun K hK => ?_); go_simp; (try go_bits); first | (refine hK _ ?_; clear hK K) | (apply Exists.intro; refine ⟨fun wq hsq => ?_, hK _ ?_⟩; (first | (go_simp; done) | ((try go_simp); (try simp only [↓IntWalk.iteOmega]); (try go_bits); rfl) | (obtain ⟨hcq, hfq⟩ := bcells hsq; go_simp; done) | (obtain ⟨hcq, hfq⟩ := bcells hsq; (try go_simp); (try simp only [↓IntWalk.iteOmega]); (try go_bits); rfl)); clear hK K))
        refine wpMix_m rfl (fun K' hK => ?_)
        go_simp
        refine hK.out _ _ ?_ (fun hS => ?_)
        · repeat (first | assumption | exact Grows.refl _ | apply Grows.drew | apply Grows.drewN | refine Grows.alloc ?_ _ | (refine Grows.setCell ?_ (by first | (simp; done) | (simp; omega) | omega) _) | (refine Grows.trans ?_ (by assumption)))
        clear hK hS
        iterate 2 (refine wpMix_q rfl (fun K hK => ?_); go_simp; (try go_bits); first | (refine hK _ ?_; clear hK K) | (apply Exists.intro; refine ⟨fun wq hsq => ?_, hK _ ?_⟩; (first | (go_simp; done) | ((try go_simp); (try simp only [↓IntWalk.iteOmega]); (try go_bits); rfl) | (obtain ⟨hcq, hfq⟩ := bcells hsq; go_simp; done) | (obtain ⟨hcq, hfq⟩ := bcells hsq; (try go_simp); (try simp only [↓IntWalk.iteOmega]); (try go_bits); rfl)); clear hK K))
        refine wpMix_nil ?_
        go_wp2
        go_roundw
        case rel => exact ⟨k + 1, by omega, by go_num, by rw [hr'.out]; rfl, by rw [hu'.out]; rfl, by
          repeat (first | assumption | exact Grows.refl _ | apply Grows.drew | apply Grows.drewN | refine Grows.alloc ?_ _ | (refine Grows.setCell ?_ (by first | (simp; done) | (simp; omega) | omega) _) | (refine Grows.trans ?_ (by assumption)))
        ⟩
        case measure => simp [intOf]; omega
      · go_wp2_with fail
        refine wp_region_mixg [(0, true), (1, true), (2, true), (3, true), (4, true), (5, true), (6, true), (7, false), (8, true), (9, true)] (by kernel_rfl) (by kernel_rfl) rfl (by kernel_rfl) (by intro c a d v w h; cases d <;> exact h) ?_
        iterate 7 (refine wpMix_q rfl (fun K hK => ?_); go_simp; (try go_bits); first | (refine hK _ ?_; clear hK K) | (apply Exists.intro; refine ⟨fun wq hsq => ?_, hK _ ?_⟩; (first | (go_simp; done) | ((try go_simp); (try simp only [↓IntWalk.iteOmega]); (try go_bits); rfl) | (obtain ⟨hcq, hfq⟩ := bcells hsq; go_simp; done) | (obtain ⟨hcq, hfq⟩ := bcells hsq; (try go_simp); (try simp only [↓IntWalk.iteOmega]); (try go_bits); rfl)); clear hK K))
        refine wpMix_m rfl (fun K' hK => ?_)
        go_simp
        refine (cFx.out _).mono ?_
        rintro e w5 ⟨rfl, hbw5⟩
        refine hK.out _ _ ?_ (fun hS => ?_)
        · repeat (first | assumption | exact Grows.refl _ | apply Grows.drew | apply Grows.drewN | refine Grows.alloc ?_ _ | (refine Grows.setCell ?_ (by first | (simp; done) | (simp; omega) | omega) _) | (refine Grows.trans ?_ (by assumption)))
        clear hK hS
        iterate 2 (refine wpMix_q rfl (fun K hK => ?_); go_simp; (try go_bits); first | (refine hK _ ?_; clear hK K) | (apply Exists.intro; refine ⟨fun wq hsq => ?_, hK _ ?_⟩; (first | (go_simp; done) | ((try go_simp); (try simp only [↓IntWalk.iteOmega]); (try go_bits); rfl) | (obtain ⟨hcq, hfq⟩ := bcells hsq; go_simp; done) | (obtain ⟨hcq, hfq⟩ := bcells hsq; (try go_simp); (try simp only [↓IntWalk.iteOmega]); (try go_bits); rfl)); clear hK K))
        refine wpMix_nil ?_
        go_wp2
        go_roundw
        case rel => exact ⟨k + 1, by omega, by go_num, by rw [hr'.out]; rfl, by rw [hu'.out]; rfl, by
          repeat (first | assumption | exact Grows.refl _ | apply Grows.drew | apply Grows.drewN | refine Grows.alloc ?_ _ | (refine Grows.setCell ?_ (by first | (simp; done) | (simp; omega) | omega) _) | (refine Grows.trans ?_ (by assumption)))
        ⟩
        case measure => simp [intOf]; omega
      · go_wp2_with fail
        refine (cRx.out _).mono ?_
        rintro e w4 ⟨rfl, hb4⟩
        go_wp2_with fail
        refine wp_region_mixg [(0, true), (1, true), (2, true), (3, true), (4, true), (5, true), (6, true), (7, false), (8, true), (9, true)] (by kernel_rfl) (by kernel_rfl) rfl (by kernel_rfl) (by intro c a d v w h; cases d <;> exact h) ?_
        iterate 7 (refine wpMix_q rfl (fun K hK => ?_); go_simp; (try go_bits); first | (refine hK _ ?_; clear hK K) | (apply Exists.intro; refine ⟨fun wq hsq => ?_, hK _ ?_⟩; (first | (go_simp; done) | ((try go_simp); (try simp only [↓IntWalk.iteOmega]); (try go_bits); rfl) | (obtain ⟨hcq, hfq⟩ := bcells hsq; go_simp; done) | (obtain ⟨hcq, hfq⟩ := bcells hsq; (try go_simp); (try simp only [↓IntWalk.iteOmega]); (try go_bits); rfl)); clear hK K))
        refine wpMix_m rfl (fun K' hK => ?_)
        go_simp
        refine hK.out _ _ ?_ (fun hS => ?_)
        · repeat (first | assumption | exact Grows.refl _ | apply Grows.drew | apply Grows.drewN | refine Grows.alloc ?_ _ | (refine Grows.setCell ?_ (by first | (simp; done) | (simp; omega) | omega) _) | (refine Grows.trans ?_ (by assumption)))
        clear hK hS
        iterate 2 (refine wpMix_q rfl (fun K hK => ?_); go_simp; (try go_bits); first | (refine hK _ ?_; clear hK K) | (apply Exists.intro; refine ⟨fun wq hsq => ?_, hK _ ?_⟩; (first | (go_simp; done) | ((try go_simp); (try simp only [↓IntWalk.iteOmega]); (try go_bits); rfl) | (obtain ⟨hcq, hfq⟩ := bcells hsq; go_simp; done) | (obtain ⟨hcq, hfq⟩ := bcells hsq; (try go_simp); (try simp only [↓IntWalk.iteOmega]); (try go_bits); rfl)); clear hK K))
        refine wpMix_nil ?_
        go_wp2
        go_roundw
        case rel => exact ⟨k + 1, by omega, by go_num, by rw [hr'.out]; rfl, by rw [hu'.out]; rfl, by
          repeat (first | assumption | exact Grows.refl _ | apply Grows.drew | apply Grows.drewN | refine Grows.alloc ?_ _ | (refine Grows.setCell ?_ (by first | (simp; done) | (simp; omega) | omega) _) | (refine Grows.trans ?_ (by assumption)))
        ⟩
        case measure => simp [intOf]; omega
      · go_wp2_with fail
        refine (cRx.out _).mono ?_
        rintro e w4 ⟨rfl, hb4⟩
        have e0 : w4.cell? ⟨b, off + k * 2, none⟩ = some (.int .i64 x.lv) := ((bcells hb4).1 _ _ hsx).trans c0
        have e1 : w4.cell? ⟨b, off + k * 2 + 1, none⟩ = some (.int .u32 (x.c : Int)) := ((bcells hb4).1 _ _ hsx).trans c1
        have hsx4 := Nat.lt_of_lt_of_le hsx hb4.size
        clear d0A d1A sA d0J d1J sJ c0 c1 hsx
        have hgr4 := hgr.trans hb4
        clear bA bJ
        have bA := blA.grows hgr4
        have bJ := blJ.grows hgr4
        have d0A := bA.cell 0
        have d1A := bA.cell 1
        have sA := bA.lt
        have d0J := bJ.cell 0
        have d1J := bJ.cell 1
        have sJ := bJ.lt
        go_wp2_with fail
        refine wp_region_mixg [(0, true), (1, true), (2, true), (3, true), (4, true), (5, true), (6, true), (7, false), (8, true), (9, true)] (by kernel_rfl) (by kernel_rfl) rfl (by kernel_rfl) (by intro c a d v w h; cases d <;> exact h) ?_
        iterate 7 (refine wpMix_q rfl (fun K hK => ?_); go_simp; (try go_bits); first | (refine hK _ ?_; clear hK K) | (apply Exists.intro; refine ⟨fun wq hsq => ?_, hK _ ?_⟩; (first | (go_simp; done) | ((try go_simp); (try simp only [↓IntWalk.iteOmega]); (try go_bits); rfl) | (obtain ⟨hcq, hfq⟩ := bcells hsq; go_simp; done) | (obtain ⟨hcq, hfq⟩ := bcells hsq; (try go_simp); (try simp only [↓IntWalk.iteOmega]); (try go_bits); rfl)); clear hK K))
        refine wpMix_m rfl (fun K' hK => ?_)
        go_simp
        refine (cFx.out _).mono ?_
        rintro e w5 ⟨rfl, hbw5⟩
        refine hK.out _ _ ?_ (fun hS => ?_)
        · repeat (first | assumption | exact Grows.refl _ | apply Grows.drew | apply Grows.drewN | refine Grows.alloc ?_ _ | (refine Grows.setCell ?_ (by first | (simp; done) | (simp; omega) | omega) _) | (refine Grows.trans ?_ (by assumption)))
        clear hK hS
        iterate 2 (refine wpMix_q rfl (fun K hK => ?_); go_simp; (try go_bits); first | (refine hK _ ?_; clear hK K) | (apply Exists.intro; refine ⟨fun wq hsq => ?_, hK _ ?_⟩; (first | (go_simp; done) | ((try go_simp); (try simp only [↓IntWalk.iteOmega]); (try go_bits); rfl) | (obtain ⟨hcq, hfq⟩ := bcells hsq; go_simp; done) | (obtain ⟨hcq, hfq⟩ := bcells hsq; (try go_simp); (try simp only [↓IntWalk.iteOmega]); (try go_bits); rfl)); clear hK K))
        refine wpMix_nil ?_
        go_wp2
        go_roundw
        case rel => exact ⟨k + 1, by omega, by go_num, by rw [hr'.out]; rfl, by rw [hu'.out]; rfl, by
          repeat (first | assumption | exact Grows.refl _ | apply Grows.drew | apply Grows.drewN | refine Grows.alloc ?_ _ | (refine Grows.setCell ?_ (by first | (simp; done) | (simp; omega) | omega) _) | (refine Grows.trans ?_ (by assumption)))
        ⟩
        case measure => simp [intOf]; omega
    · have hkM2 : k = M := by omega
      rw [hkM2, hyM.out]
      clear hkM hk hkM2 cF
      generalize ys.all (fun x => labRight x.lv) = R at *
      generalize (labRight a.lv && ys.all fun x => flowsL x a) = U at *
      have hg3 := hgr
      clear hgr
      generalize wr = w4 at *
      go_wp2_with fail
      go_loopw [9] (fun i wr => ∃ k : Nat, k ≤ M ∧ i = .int .i64 k ∧ Grows w4 wr) (fun i _ => M - (intOf i).toNat)
      case atStart => exact ⟨0, by omega, rfl, Grows.refl _⟩
      case round =>
        obtain ⟨k, hk, rfl, hgr⟩ := hrel
        have hg4 := hg3.trans hgr
        by_cases hkr : k < M ∧ R = true
        · obtain ⟨hkM, rfl⟩ := hkr
          have bA := blA.grows hg4
          have bJ := blJ.grows hg4
          have d0A := bA.cell 0
          have d1A := bA.cell 1
          have sA := bA.lt
          have d0J := bJ.cell 0
          have d1J := bJ.cell 1
          have sJ := bJ.lt
          obtain ⟨b, off, x, rfl, hsx, hx, hcell⟩ := (hA.out.keep (hg.trans hg4)).at_ hkM
          have c0 : wr.cell? ⟨b, off + k * 2, none⟩ = some (.int .i64 x.lv) := by simpa using hcell 0 _ rfl
          have c1 : wr.cell? ⟨b, off + k * 2 + 1, none⟩ = some (.int .u32 (x.c : Int)) := by simpa using hcell 1 _ rfl
          have cFx := cFj.out x (List.mem_of_getElem? hx)
          rw [(hRJ.out rfl).1 x (List.mem_of_getElem? hx)] at cFx
          replace cFx := Lib.hid cFx
          clear hcell hx
          go_wp2_with fail
          refine wp_region_mixg [(0, true), (1, true), (2, true), (3, true), (4, true), (5, false), (6, true)] (by kernel_rfl) (by kernel_rfl) rfl (by kernel_rfl) (by intro c a d v w h; cases d <;> exact h) ?_
          iterate 5 (refine wpMix_q rfl (fun K hK => ?_); go_simp; (try go_bits); first | (refine hK _ ?_; clear hK K) | (apply Exists.intro; refine ⟨fun wq hsq => ?_, hK _ ?_⟩; (first | (go_simp; done) | ((try go_simp); (try simp only [↓IntWalk.iteOmega]); (try go_bits); rfl) | (obtain ⟨hcq, hfq⟩ := bcells hsq; go_simp; done) | (obtain ⟨hcq, hfq⟩ := bcells hsq; (try go_simp); (try simp only [↓IntWalk.iteOmega]); (try go_bits); rfl)); clear hK K))
          refine wpMix_m rfl (fun K' hK => ?_)
          go_simp
          refine (cFx.out _).mono ?_
          rintro e w5 ⟨rfl, hbw5⟩
          refine hK.out _ _ ?_ (fun hS => ?_)
          · repeat (first | assumption | exact Grows.refl _ | apply Grows.drew | apply Grows.drewN | refine Grows.alloc ?_ _ | (refine Grows.setCell ?_ (by first | (simp; done) | (simp; omega) | omega) _) | (refine Grows.trans ?_ (by assumption)))
          clear hK hS
          iterate 1 (refine wpMix_q rfl (fun K hK => ?_); go_simp; (try go_bits); first | (refine hK _ ?_; clear hK K) | (apply Exists.intro; refine ⟨fun wq hsq => ?_, hK _ ?_⟩; (first | (go_simp; done) | ((try go_simp); (try simp only [↓IntWalk.iteOmega]); (try go_bits); rfl) | (obtain ⟨hcq, hfq⟩ := bcells hsq; go_simp; done) | (obtain ⟨hcq, hfq⟩ := bcells hsq; (try go_simp); (try simp only [↓IntWalk.iteOmega]); (try go_bits); rfl)); clear hK K))
          refine wpMix_nil ?_
          go_wp2
          go_roundw
          case rel => exact ⟨k + 1, by omega, by go_num, by
            repeat (first | assumption | exact Grows.refl _ | apply Grows.drew | apply Grows.drewN | refine Grows.alloc ?_ _ | (refine Grows.setCell ?_ (by first | (simp; done) | (simp; omega) | omega) _) | (refine Grows.trans ?_ (by assumption)))
          ⟩
          case measure => simp [intOf]; omega
        · have hex : (k < M ∧ R = false) ∨ (k = M ∧ R = false) ∨ (k = M ∧ R = true) := by
            cases R
            · by_cases h : k < M
              · exact .inl ⟨h, rfl⟩
              · exact .inr (.inl ⟨by omega, rfl⟩)
            · exact .inr (.inr ⟨by simp at hkr; omega, rfl⟩)
          clear hkr hgr hg3 cFj
          rcases hex with ⟨hkM, rfl⟩ | ⟨hkM, rfl⟩ | ⟨hkM, rfl⟩
          · have bA := blA.grows hg4
            have bJ := blJ.grows hg4
            have d0A := bA.cell 0
            have d1A := bA.cell 1
            have sA := bA.lt
            have d0J := bJ.cell 0
            have d1J := bJ.cell 1
            have sJ := bJ.lt
            go_wp2_with fail
            refine (cAb.out _ (hA.out.keep (hg.trans hg4))).mono ?_
            rintro e w5 ⟨vv, rfl, ho, hb5⟩
            obtain ⟨V, cV, rfl, _, _, hV⟩ := ho.arr hkI
            clear ho bA bJ d0A d1A sA d0J d1J sJ
            have hg5 := hg4.trans hb5
            clear hg4 hb5
            replace hV := Lib.hid hV
            generalize hat : aboveTo a ys M = at1 at *
            replace hat := Lib.hid hat
            go_wp2_with fail
            go_loopw [11, 12] (fun n i wr => ∃ k : Nat, k ≤ M ∧ i = .int .i64 k ∧ n = .int .i64 ((aboveTo a ys k).length : Nat) ∧ Grows w5 wr) (fun _ i _ => M - (intOf i).toNat)
            case atStart => exact ⟨0, by omega, rfl, rfl, Grows.refl _⟩
            case round =>
              obtain ⟨k, hk, rfl, rfl, hgr⟩ := hrel
              have bA := blA.grows (hg5.trans hgr)
              have bJ := blJ.grows (hg5.trans hgr)
              have d0A := bA.cell 0
              have d1A := bA.cell 1
              have sA := bA.lt
              have d0J := bJ.cell 0
              have d1J := bJ.cell 1
              have sJ := bJ.lt
              by_cases hkM : k < M
              · obtain ⟨b, off, x, rfl, hsx, hx, hcell⟩ := (hA.out.keep (hg.trans (hg5.trans hgr))).at_ hkM
                have c0 : wr.cell? ⟨b, off + k * 2, none⟩ = some (.int .i64 x.lv) := by simpa using hcell 0 _ rfl
                have c1 : wr.cell? ⟨b, off + k * 2 + 1, none⟩ = some (.int .u32 (x.c : Int)) := by simpa using hcell 1 _ rfl
                have cFx := cFa.out x (List.mem_of_getElem? hx)
                have hyes := aboveTo_yes (a := a) hx
                have hno := aboveTo_no (a := a) hx
                have hgt := hget.out k x hkM hx
                generalize flowsL a x = f at *
                replace cFx := Lib.hid cFx
                clear hcell hx
                generalize hN : (aboveTo a ys k).length = N at *
                cases f
                · have hn2 : (aboveTo a ys (k + 1)).length = N := by rw [hno rfl, hN]
                  replace hn2 := Lib.hid hn2
                  clear hyes hno hgt hN
                  go_wp2_with fail
                  refine wp_region_mixg [(0, true), (1, true), (2, true), (3, true), (4, true), (5, false)] (by kernel_rfl) (by kernel_rfl) rfl (by kernel_rfl) (by intro c a d v w h; cases d <;> exact h) ?_
                  iterate 5 (refine wpMix_q rfl (fun K hK => ?_); go_simp; (try go_bits); first | (refine hK _ ?_; clear hK K) | (apply Exists.intro; refine ⟨fun wq hsq => ?_, hK _ ?_⟩; (first | (go_simp; done) | ((try go_simp); (try simp only [↓IntWalk.iteOmega]); (try go_bits); rfl) | (obtain ⟨hcq, hfq⟩ := bcells hsq; go_simp; done) | (obtain ⟨hcq, hfq⟩ := bcells hsq; (try go_simp); (try simp only [↓IntWalk.iteOmega]); (try go_bits); rfl)); clear hK K))
                  refine wpMix_m rfl (fun K' hK => ?_)
                  go_simp
                  refine (cFx.out _).mono ?_
                  rintro e w6 ⟨rfl, hb6⟩
                  refine hK.out _ _ ?_ (fun hS => ?_)
                  · repeat (first | assumption | exact Grows.refl _ | apply Grows.drew | apply Grows.drewN | refine Grows.alloc ?_ _ | (refine Grows.setCell ?_ (by first | (simp; done) | (simp; omega) | omega) _) | (refine Grows.trans ?_ (by assumption)))
                  clear hK hS
                  refine wpMix_nil ?_
                  go_wp2
                  go_roundw
                  case rel => exact ⟨k + 1, by omega, by go_num, by rw [hn2.out], by
                    repeat (first | assumption | exact Grows.refl _ | apply Grows.drew | apply Grows.drewN | refine Grows.alloc ?_ _ | (refine Grows.setCell ?_ (by first | (simp; done) | (simp; omega) | omega) _) | (refine Grows.trans ?_ (by assumption)))
                  ⟩
                  case measure => simp [intOf]; omega
                · have hn2 : (aboveTo a ys (k + 1)).length = N + 1 := by rw [hyes rfl, List.length_append, hN]; rfl
                  have hgt2 := hgt rfl
                  have hNl : N < at1.length := (List.getElem?_eq_some_iff.1 hgt2).1
                  replace hn2 := Lib.hid hn2
                  replace hgt2 := Lib.hid hgt2
                  clear hyes hno hN hgt
                  go_wp2_with fail
                  refine wp_region_mixg [(0, true), (1, true), (2, true), (3, true), (4, true), (5, false)] (by kernel_rfl) (by kernel_rfl) rfl (by kernel_rfl) (by intro c a d v w h; cases d <;> exact h) ?_
                  iterate 5 (refine wpMix_q rfl (fun K hK => ?_); go_simp; (try go_bits); first | (refine hK _ ?_; clear hK K) | (apply Exists.intro; refine ⟨fun wq hsq => ?_, hK _ ?_⟩; (first | (go_simp; done) | ((try go_simp); (try simp only [↓IntWalk.iteOmega]); (try go_bits); rfl) | (obtain ⟨hcq, hfq⟩ := bcells hsq; go_simp; done) | (obtain ⟨hcq, hfq⟩ := bcells hsq; (try go_simp); (try simp only [↓IntWalk.iteOmega]); (try go_bits); rfl)); clear hK K))
                  refine wpMix_m rfl (fun K' hK => ?_)
                  go_simp
                  refine (cFx.out _).mono ?_
                  rintro e w6 ⟨rfl, hb6⟩
                  refine hK.out _ _ ?_ (fun hS => ?_)
                  · repeat (first | assumption | exact Grows.refl _ | apply Grows.drew | apply Grows.drewN | refine Grows.alloc ?_ _ | (refine Grows.setCell ?_ (by first | (simp; done) | (simp; omega) | omega) _) | (refine Grows.trans ?_ (by assumption)))
                  clear hK hS
                  refine wpMix_nil ?_
                  have hg6 : Grows w5 w6 := by
                    repeat (first | assumption | exact Grows.refl _ | apply Grows.drew | apply Grows.drewN | refine Grows.alloc ?_ _ | (refine Grows.setCell ?_ (by first | (simp; done) | (simp; omega) | omega) _) | (refine Grows.trans ?_ (by assumption)))
                  obtain ⟨bV, oV, y, rfl, hsV, hy, hcell⟩ := (hV.out.keep hg6).at_ hNl
                  obtain rfl : y = k := by
                    have := hgt2.out
                    rw [hy] at this
                    exact Option.some.inj this
                  have cV0 : w6.cell? ⟨bV, oV + N, none⟩ = some (.int .i64 y) := by simpa using hcell 0 _ rfl
                  clear hy hcell hgt2
                  go_wp2
                  go_roundw
                  case rel => exact ⟨y + 1, by omega, by go_num, by rw [hn2.out]; go_num, by
                    repeat (first | assumption | exact Grows.refl _ | apply Grows.drew | apply Grows.drewN | refine Grows.alloc ?_ _ | (refine Grows.setCell ?_ (by first | (simp; done) | (simp; omega) | omega) _) | (refine Grows.trans ?_ (by assumption)))
                  ⟩
                  case measure => simp [intOf]; omega
              · obtain rfl : k = M := by omega
                rw [hat.out]
                obtain rfl := hRT.out (by simp)
                go_wp2
                go_ret
                exact ⟨rfl, (hg.trans (hg5.trans hgr))⟩
          · have hkM3 : ¬ k < M := by omega
            have bA := blA.grows hg4
            have bJ := blJ.grows hg4
            have d0A := bA.cell 0
            have d1A := bA.cell 1
            have sA := bA.lt
            have d0J := bJ.cell 0
            have d1J := bJ.cell 1
            have sJ := bJ.lt
            go_wp2_with fail
            refine (cAb.out _ (hA.out.keep (hg.trans hg4))).mono ?_
            rintro e w5 ⟨vv, rfl, ho, hb5⟩
            obtain ⟨V, cV, rfl, _, _, hV⟩ := ho.arr hkI
            clear ho bA bJ d0A d1A sA d0J d1J sJ
            have hg5 := hg4.trans hb5
            clear hg4 hb5
            replace hV := Lib.hid hV
            generalize hat : aboveTo a ys M = at1 at *
            replace hat := Lib.hid hat
            go_wp2_with fail
            go_loopw [11, 12] (fun n i wr => ∃ k : Nat, k ≤ M ∧ i = .int .i64 k ∧ n = .int .i64 ((aboveTo a ys k).length : Nat) ∧ Grows w5 wr) (fun _ i _ => M - (intOf i).toNat)
            case atStart => exact ⟨0, by omega, rfl, rfl, Grows.refl _⟩
            case round =>
              obtain ⟨k, hk, rfl, rfl, hgr⟩ := hrel
              have bA := blA.grows (hg5.trans hgr)
              have bJ := blJ.grows (hg5.trans hgr)
              have d0A := bA.cell 0
              have d1A := bA.cell 1
              have sA := bA.lt
              have d0J := bJ.cell 0
              have d1J := bJ.cell 1
              have sJ := bJ.lt
              by_cases hkM : k < M
              · obtain ⟨b, off, x, rfl, hsx, hx, hcell⟩ := (hA.out.keep (hg.trans (hg5.trans hgr))).at_ hkM
                have c0 : wr.cell? ⟨b, off + k * 2, none⟩ = some (.int .i64 x.lv) := by simpa using hcell 0 _ rfl
                have c1 : wr.cell? ⟨b, off + k * 2 + 1, none⟩ = some (.int .u32 (x.c : Int)) := by simpa using hcell 1 _ rfl
                have cFx := cFa.out x (List.mem_of_getElem? hx)
                have hyes := aboveTo_yes (a := a) hx
                have hno := aboveTo_no (a := a) hx
                have hgt := hget.out k x hkM hx
                generalize flowsL a x = f at *
                replace cFx := Lib.hid cFx
                clear hcell hx
                generalize hN : (aboveTo a ys k).length = N at *
                cases f
                · have hn2 : (aboveTo a ys (k + 1)).length = N := by rw [hno rfl, hN]
                  replace hn2 := Lib.hid hn2
                  clear hyes hno hgt hN
                  go_wp2_with fail
                  refine wp_region_mixg [(0, true), (1, true), (2, true), (3, true), (4, true), (5, false)] (by kernel_rfl) (by kernel_rfl) rfl (by kernel_rfl) (by intro c a d v w h; cases d <;> exact h) ?_
                  iterate 5 (refine wpMix_q rfl (fun K hK => ?_); go_simp; (try go_bits); first | (refine hK _ ?_; clear hK K) | (apply Exists.intro; refine ⟨fun wq hsq => ?_, hK _ ?_⟩; (first | (go_simp; done) | ((try go_simp); (try simp only [↓IntWalk.iteOmega]); (try go_bits); rfl) | (obtain ⟨hcq, hfq⟩ := bcells hsq; go_simp; done) | (obtain ⟨hcq, hfq⟩ := bcells hsq; (try go_simp); (try simp only [↓IntWalk.iteOmega]); (try go_bits); rfl)); clear hK K))
                  refine wpMix_m rfl (fun K' hK => ?_)
                  go_simp
                  refine (cFx.out _).mono ?_
                  rintro e w6 ⟨rfl, hb6⟩
                  refine hK.out _ _ ?_ (fun hS => ?_)
                  · repeat (first | assumption | exact Grows.refl _ | apply Grows.drew | apply Grows.drewN | refine Grows.alloc ?_ _ | (refine Grows.setCell ?_ (by first | (simp; done) | (simp; omega) | omega) _) | (refine Grows.trans ?_ (by assumption)))
                  clear hK hS
                  refine wpMix_nil ?_
                  go_wp2
                  go_roundw
                  case rel => exact ⟨k + 1, by omega, by go_num, by rw [hn2.out], by
                    repeat (first | assumption | exact Grows.refl _ | apply Grows.drew | apply Grows.drewN | refine Grows.alloc ?_ _ | (refine Grows.setCell ?_ (by first | (simp; done) | (simp; omega) | omega) _) | (refine Grows.trans ?_ (by assumption)))
                  ⟩
                  case measure => simp [intOf]; omega
                · have hn2 : (aboveTo a ys (k + 1)).length = N + 1 := by rw [hyes rfl, List.length_append, hN]; rfl
                  have hgt2 := hgt rfl
                  have hNl : N < at1.length := (List.getElem?_eq_some_iff.1 hgt2).1
                  replace hn2 := Lib.hid hn2
                  replace hgt2 := Lib.hid hgt2
                  clear hyes hno hN hgt
                  go_wp2_with fail
                  refine wp_region_mixg [(0, true), (1, true), (2, true), (3, true), (4, true), (5, false)] (by kernel_rfl) (by kernel_rfl) rfl (by kernel_rfl) (by intro c a d v w h; cases d <;> exact h) ?_
                  iterate 5 (refine wpMix_q rfl (fun K hK => ?_); go_simp; (try go_bits); first | (refine hK _ ?_; clear hK K) | (apply Exists.intro; refine ⟨fun wq hsq => ?_, hK _ ?_⟩; (first | (go_simp; done) | ((try go_simp); (try simp only [↓IntWalk.iteOmega]); (try go_bits); rfl) | (obtain ⟨hcq, hfq⟩ := bcells hsq; go_simp; done) | (obtain ⟨hcq, hfq⟩ := bcells hsq; (try go_simp); (try simp only [↓IntWalk.iteOmega]); (try go_bits); rfl)); clear hK K))
                  refine wpMix_m rfl (fun K' hK => ?_)
                  go_simp
                  refine (cFx.out _).mono ?_
                  rintro e w6 ⟨rfl, hb6⟩
                  refine hK.out _ _ ?_ (fun hS => ?_)
                  · repeat (first | assumption | exact Grows.refl _ | apply Grows.drew | apply Grows.drewN | refine Grows.alloc ?_ _ | (refine Grows.setCell ?_ (by first | (simp; done) | (simp; omega) | omega) _) | (refine Grows.trans ?_ (by assumption)))
                  clear hK hS
                  refine wpMix_nil ?_
                  have hg6 : Grows w5 w6 := by
                    repeat (first | assumption | exact Grows.refl _ | apply Grows.drew | apply Grows.drewN | refine Grows.alloc ?_ _ | (refine Grows.setCell ?_ (by first | (simp; done) | (simp; omega) | omega) _) | (refine Grows.trans ?_ (by assumption)))
                  obtain ⟨bV, oV, y, rfl, hsV, hy, hcell⟩ := (hV.out.keep hg6).at_ hNl
                  obtain rfl : y = k := by
                    have := hgt2.out
                    rw [hy] at this
                    exact Option.some.inj this
                  have cV0 : w6.cell? ⟨bV, oV + N, none⟩ = some (.int .i64 y) := by simpa using hcell 0 _ rfl
                  clear hy hcell hgt2
                  go_wp2
                  go_roundw
                  case rel => exact ⟨y + 1, by omega, by go_num, by rw [hn2.out]; go_num, by
                    repeat (first | assumption | exact Grows.refl _ | apply Grows.drew | apply Grows.drewN | refine Grows.alloc ?_ _ | (refine Grows.setCell ?_ (by first | (simp; done) | (simp; omega) | omega) _) | (refine Grows.trans ?_ (by assumption)))
                  ⟩
                  case measure => simp [intOf]; omega
              · obtain rfl : k = M := by omega
                rw [hat.out]
                obtain rfl := hRT.out (by simp)
                go_wp2
                go_ret
                exact ⟨rfl, (hg.trans (hg5.trans hgr))⟩
          · have hkM3 : ¬ k < M := by omega
            have bA := blA.grows hg4
            have bJ := blJ.grows hg4
            have d0A := bA.cell 0
            have d1A := bA.cell 1
            have sA := bA.lt
            have d0J := bJ.cell 0
            have d1J := bJ.cell 1
            have sJ := bJ.lt
            go_wp2_with fail
            refine (cAb.out _ (hA.out.keep (hg.trans hg4))).mono ?_
            rintro e w5 ⟨vv, rfl, ho, hb5⟩
            obtain ⟨V, cV, rfl, _, _, hV⟩ := ho.arr hkI
            clear ho bA bJ d0A d1A sA d0J d1J sJ
            have hg5 := hg4.trans hb5
            clear hg4 hb5
            replace hV := Lib.hid hV
            generalize hat : aboveTo a ys M = at1 at *
            replace hat := Lib.hid hat
            go_wp2_with fail
            go_loopw [11, 12] (fun n i wr => ∃ k : Nat, k ≤ M ∧ i = .int .i64 k ∧ n = .int .i64 ((aboveTo a ys k).length : Nat) ∧ Grows w5 wr) (fun _ i _ => M - (intOf i).toNat)
            case atStart => exact ⟨0, by omega, rfl, rfl, Grows.refl _⟩
            case round =>
              obtain ⟨k, hk, rfl, rfl, hgr⟩ := hrel
              have bA := blA.grows (hg5.trans hgr)
              have bJ := blJ.grows (hg5.trans hgr)
              have d0A := bA.cell 0
              have d1A := bA.cell 1
              have sA := bA.lt
              have d0J := bJ.cell 0
              have d1J := bJ.cell 1
              have sJ := bJ.lt
              by_cases hkM : k < M
              · obtain ⟨b, off, x, rfl, hsx, hx, hcell⟩ := (hA.out.keep (hg.trans (hg5.trans hgr))).at_ hkM
                have c0 : wr.cell? ⟨b, off + k * 2, none⟩ = some (.int .i64 x.lv) := by simpa using hcell 0 _ rfl
                have c1 : wr.cell? ⟨b, off + k * 2 + 1, none⟩ = some (.int .u32 (x.c : Int)) := by simpa using hcell 1 _ rfl
                have cFx := cFa.out x (List.mem_of_getElem? hx)
                have hyes := aboveTo_yes (a := a) hx
                have hno := aboveTo_no (a := a) hx
                have hgt := hget.out k x hkM hx
                generalize flowsL a x = f at *
                replace cFx := Lib.hid cFx
                clear hcell hx
                generalize hN : (aboveTo a ys k).length = N at *
                cases f
                · have hn2 : (aboveTo a ys (k + 1)).length = N := by rw [hno rfl, hN]
                  replace hn2 := Lib.hid hn2
                  clear hyes hno hgt hN
                  go_wp2_with fail
                  refine wp_region_mixg [(0, true), (1, true), (2, true), (3, true), (4, true), (5, false)] (by kernel_rfl) (by kernel_rfl) rfl (by kernel_rfl) (by intro c a d v w h; cases d <;> exact h) ?_
                  iterate 5 (refine wpMix_q rfl (fun K hK => ?_); go_simp; (try go_bits); first | (refine hK _ ?_; clear hK K) | (apply Exists.intro; refine ⟨fun wq hsq => ?_, hK _ ?_⟩; (first | (go_simp; done) | ((try go_simp); (try simp only [↓IntWalk.iteOmega]); (try go_bits); rfl) | (obtain ⟨hcq, hfq⟩ := bcells hsq; go_simp; done) | (obtain ⟨hcq, hfq⟩ := bcells hsq; (try go_simp); (try simp only [↓IntWalk.iteOmega]); (try go_bits); rfl)); clear hK K))
                  refine wpMix_m rfl (fun K' hK => ?_)
                  go_simp
                  refine (cFx.out _).mono ?_
                  rintro e w6 ⟨rfl, hb6⟩
                  refine hK.out _ _ ?_ (fun hS => ?_)
                  · repeat (first | assumption | exact Grows.refl _ | apply Grows.drew | apply Grows.drewN | refine Grows.alloc ?_ _ | (refine Grows.setCell ?_ (by first | (simp; done) | (simp; omega) | omega) _) | (refine Grows.trans ?_ (by assumption)))
                  clear hK hS
                  refine wpMix_nil ?_
                  go_wp2
                  go_roundw
                  case rel => exact ⟨k + 1, by omega, by go_num, by rw [hn2.out], by
                    repeat (first | assumption | exact Grows.refl _ | apply Grows.drew | apply Grows.drewN | refine Grows.alloc ?_ _ | (refine Grows.setCell ?_ (by first | (simp; done) | (simp; omega) | omega) _) | (refine Grows.trans ?_ (by assumption)))
                  ⟩
                  case measure => simp [intOf]; omega
                · have hn2 : (aboveTo a ys (k + 1)).length = N + 1 := by rw [hyes rfl, List.length_append, hN]; rfl
                  have hgt2 := hgt rfl
                  have hNl : N < at1.length := (List.getElem?_eq_some_iff.1 hgt2).1
                  replace hn2 := Lib.hid hn2
                  replace hgt2 := Lib.hid hgt2
                  clear hyes hno hN hgt
                  go_wp2_with fail
                  refine wp_region_mixg [(0, true), (1, true), (2, true), (3, true), (4, true), (5, false)] (by kernel_rfl) (by kernel_rfl) rfl (by kernel_rfl) (by intro c a d v w h; cases d <;> exact h) ?_
                  iterate 5 (refine wpMix_q rfl (fun K hK => ?_); go_simp; (try go_bits); first | (refine hK _ ?_; clear hK K) | (apply Exists.intro; refine ⟨fun wq hsq => ?_, hK _ ?_⟩; (first | (go_simp; done) | ((try go_simp); (try simp only [↓IntWalk.iteOmega]); (try go_bits); rfl) | (obtain ⟨hcq, hfq⟩ := bcells hsq; go_simp; done) | (obtain ⟨hcq, hfq⟩ := bcells hsq; (try go_simp); (try simp only [↓IntWalk.iteOmega]); (try go_bits); rfl)); clear hK K))
                  refine wpMix_m rfl (fun K' hK => ?_)
                  go_simp
                  refine (cFx.out _).mono ?_
                  rintro e w6 ⟨rfl, hb6⟩
                  refine hK.out _ _ ?_ (fun hS => ?_)
                  · repeat (first | assumption | exact Grows.refl _ | apply Grows.drew | apply Grows.drewN | refine Grows.alloc ?_ _ | (refine Grows.setCell ?_ (by first | (simp; done) | (simp; omega) | omega) _) | (refine Grows.trans ?_ (by assumption)))
                  clear hK hS
                  refine wpMix_nil ?_
                  have hg6 : Grows w5 w6 := by
                    repeat (first | assumption | exact Grows.refl _ | apply Grows.drew | apply Grows.drewN | refine Grows.alloc ?_ _ | (refine Grows.setCell ?_ (by first | (simp; done) | (simp; omega) | omega) _) | (refine Grows.trans ?_ (by assumption)))
                  obtain ⟨bV, oV, y, rfl, hsV, hy, hcell⟩ := (hV.out.keep hg6).at_ hNl
                  obtain rfl : y = k := by
                    have := hgt2.out
                    rw [hy] at this
                    exact Option.some.inj this
                  have cV0 : w6.cell? ⟨bV, oV + N, none⟩ = some (.int .i64 y) := by simpa using hcell 0 _ rfl
                  clear hy hcell hgt2
                  go_wp2
                  go_roundw
                  case rel => exact ⟨y + 1, by omega, by go_num, by rw [hn2.out]; go_num, by
                    repeat (first | assumption | exact Grows.refl _ | apply Grows.drew | apply Grows.drewN | refine Grows.alloc ?_ _ | (refine Grows.setCell ?_ (by first | (simp; done) | (simp; omega) | omega) _) | (refine Grows.trans ?_ (by assumption)))
                  ⟩
                  case measure => simp [intOf]; omega
              · obtain rfl : k = M := by omega
                rw [hat.out]
                have cJa2 := cJa.out
                rw [(hRJ.out (by simp)).2] at cJa2
                replace cJa2 := Lib.hid cJa2
                go_wp2_with fail
                refine (cJa2.out _).mono ?_
                rintro e w7 ⟨rfl, hb7⟩
                go_wp2
                go_ret
                exact ⟨rfl, (hg.trans (hg5.trans hgr)).trans hb7⟩
end Go.Proofs.YtfppagcifcppaaaDoor
