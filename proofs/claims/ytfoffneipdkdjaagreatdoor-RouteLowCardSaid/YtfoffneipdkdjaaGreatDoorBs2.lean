/- Parts: ShaB ShaA ShaC ShaD ShaE ShaF ShaG -/
import Derived.Test.YtfoffneipdkdjaaGreatDoorBs1
import Derived.Deep.WholeRow
import Derived.Laws.Bits64b
namespace Go.Proofs.YtfoffneipdkdjaaGreatDoor
open Go.RowKit

theorem wrap32 (n : Nat) : IntKind.u32.wrap (n : Int) = ((n % 4294967296 : Nat) : Int) := by
  rw [IntKind.wrap_u32, Int.natCast_emod]; rfl
theorem ofInt32 {a : Nat} (ha : Wd a) : (BitVec.ofInt 32 (a : Int)).toNat = a := by
  rw [BitVec.ofInt_natCast, BitVec.toNat_ofNat]
  exact Nat.mod_eq_of_lt ha.lt
theorem xor32 {a b : Nat} (ha : Wd a) (hb : Wd b) : bits .xor .u32 (a : Int) (b : Int) = ((a ^^^ b : Nat) : Int) := by
  have hx := (xor_lt ha hb).lt
  show IntKind.u32.wrap ((BitVec.ofInt 32 (a : Int) ^^^ BitVec.ofInt 32 (b : Int)).toNat : Int) = _
  rw [BitVec.toNat_xor, ofInt32 ha, ofInt32 hb, wrap32, Nat.mod_eq_of_lt hx]
theorem or32 {a b : Nat} (ha : Wd a) (hb : Wd b) : bits .or .u32 (a : Int) (b : Int) = ((a ||| b : Nat) : Int) := by
  have hx : a ||| b < 4294967296 := Nat.or_lt_two_pow (n := 32) ha.lt hb.lt
  show IntKind.u32.wrap ((BitVec.ofInt 32 (a : Int) ||| BitVec.ofInt 32 (b : Int)).toNat : Int) = _
  rw [BitVec.toNat_or, ofInt32 ha, ofInt32 hb, wrap32, Nat.mod_eq_of_lt hx]
/-- A word, turned, as math/bits does it. -/
theorem rot_walk {x : Nat} (hx : Wd x) {n : Nat} : bits .or .u32 (IntKind.u32.wrap ((x : Int) * ((2 ^ (32 - n) : Nat) : Int))) ((x : Int) / ((2 ^ n : Nat) : Int)) = ((rotr x n : Nat) : Int) := by
  have e1 : IntKind.u32.wrap ((x : Int) * ((2 ^ (32 - n) : Nat) : Int)) = (((x <<< (32 - n)) % 4294967296 : Nat) : Int) := by
    rw [← Int.natCast_mul, wrap32, Nat.shiftLeft_eq]
  have e2 : (x : Int) / ((2 ^ n : Nat) : Int) = ((x >>> n : Nat) : Int) := by
    rw [← Int.natCast_ediv, Nat.shiftRight_eq_div_pow]
  rw [e1, e2, or32 (Wd.mod _) (Wd.of (Nat.lt_of_le_of_lt (Nat.shiftRight_le _ _) hx.lt))]
  rfl
def u32s (xs : List Nat) : Array Value := (xs.map fun (x : Nat) => Value.int .u32 (x : Int)).toArray
theorem u32s_size (xs : List Nat) : (u32s xs).size = xs.length := by simp [u32s]
theorem u32s_at {xs : List Nat} {i : Nat} (h : i < xs.length) : (u32s xs)[i]? = some (.int .u32 ((xs.getD i 0 : Nat) : Int)) := by
  simp [u32s, h]
theorem u32s_set (xs : List Nat) (i x : Nat) : (u32s xs).setIfInBounds i (.int .u32 (x : Int)) = u32s (xs.set i x) := by
  simp [u32s, List.map_set]
end Go.Proofs.YtfoffneipdkdjaaGreatDoor
namespace Go.Proofs.YtfoffneipdkdjaaGreatDoor
open Go.RowKit

theorem rot_walk2 {x : Nat} (hx : Wd x) : bits .or .u32 (IntKind.u32.wrap ((x : Int) * 1073741824)) ((x : Int) / 4) = ((rotr x 2 : Nat) : Int) := rot_walk hx (n := 2)
set_option maxRecDepth 100000 in
theorem rotL2_any {x : Nat} (hx : Wd x) (w : World) :
    Calls Tryz.prog 159 #[.int .u32 (x : Int), .int .i64 (-2)] w fun e w' => e = .returned (.int .u32 ((rotr x 2 : Nat) : Int)) ∧ w' = w := by
  have h := rot_walk2 hx
  have hs : bits .and .u64 (IntKind.u64.wrap (-2)) 31 = 30 := by decide
  clear hx
  generalize rotr x 2 = R at *
  go_enter Tryz.func159, Tryz.ntmps159
  go_wp2
  go_ret
  exact ⟨ret_int h, rfl⟩
theorem rot_walk6 {x : Nat} (hx : Wd x) : bits .or .u32 (IntKind.u32.wrap ((x : Int) * 67108864)) ((x : Int) / 64) = ((rotr x 6 : Nat) : Int) := rot_walk hx (n := 6)
set_option maxRecDepth 100000 in
theorem rotL6_any {x : Nat} (hx : Wd x) (w : World) :
    Calls Tryz.prog 159 #[.int .u32 (x : Int), .int .i64 (-6)] w fun e w' => e = .returned (.int .u32 ((rotr x 6 : Nat) : Int)) ∧ w' = w := by
  have h := rot_walk6 hx
  have hs : bits .and .u64 (IntKind.u64.wrap (-6)) 31 = 26 := by decide
  clear hx
  generalize rotr x 6 = R at *
  go_enter Tryz.func159, Tryz.ntmps159
  go_wp2
  go_ret
  exact ⟨ret_int h, rfl⟩
theorem rot_walk7 {x : Nat} (hx : Wd x) : bits .or .u32 (IntKind.u32.wrap ((x : Int) * 33554432)) ((x : Int) / 128) = ((rotr x 7 : Nat) : Int) := rot_walk hx (n := 7)
set_option maxRecDepth 100000 in
theorem rotL7_any {x : Nat} (hx : Wd x) (w : World) :
    Calls Tryz.prog 159 #[.int .u32 (x : Int), .int .i64 (-7)] w fun e w' => e = .returned (.int .u32 ((rotr x 7 : Nat) : Int)) ∧ w' = w := by
  have h := rot_walk7 hx
  have hs : bits .and .u64 (IntKind.u64.wrap (-7)) 31 = 25 := by decide
  clear hx
  generalize rotr x 7 = R at *
  go_enter Tryz.func159, Tryz.ntmps159
  go_wp2
  go_ret
  exact ⟨ret_int h, rfl⟩
theorem rot_walk11 {x : Nat} (hx : Wd x) : bits .or .u32 (IntKind.u32.wrap ((x : Int) * 2097152)) ((x : Int) / 2048) = ((rotr x 11 : Nat) : Int) := rot_walk hx (n := 11)
set_option maxRecDepth 100000 in
theorem rotL11_any {x : Nat} (hx : Wd x) (w : World) :
    Calls Tryz.prog 159 #[.int .u32 (x : Int), .int .i64 (-11)] w fun e w' => e = .returned (.int .u32 ((rotr x 11 : Nat) : Int)) ∧ w' = w := by
  have h := rot_walk11 hx
  have hs : bits .and .u64 (IntKind.u64.wrap (-11)) 31 = 21 := by decide
  clear hx
  generalize rotr x 11 = R at *
  go_enter Tryz.func159, Tryz.ntmps159
  go_wp2
  go_ret
  exact ⟨ret_int h, rfl⟩
theorem rot_walk13 {x : Nat} (hx : Wd x) : bits .or .u32 (IntKind.u32.wrap ((x : Int) * 524288)) ((x : Int) / 8192) = ((rotr x 13 : Nat) : Int) := rot_walk hx (n := 13)
set_option maxRecDepth 100000 in
theorem rotL13_any {x : Nat} (hx : Wd x) (w : World) :
    Calls Tryz.prog 159 #[.int .u32 (x : Int), .int .i64 (-13)] w fun e w' => e = .returned (.int .u32 ((rotr x 13 : Nat) : Int)) ∧ w' = w := by
  have h := rot_walk13 hx
  have hs : bits .and .u64 (IntKind.u64.wrap (-13)) 31 = 19 := by decide
  clear hx
  generalize rotr x 13 = R at *
  go_enter Tryz.func159, Tryz.ntmps159
  go_wp2
  go_ret
  exact ⟨ret_int h, rfl⟩
theorem rot_walk17 {x : Nat} (hx : Wd x) : bits .or .u32 (IntKind.u32.wrap ((x : Int) * 32768)) ((x : Int) / 131072) = ((rotr x 17 : Nat) : Int) := rot_walk hx (n := 17)
set_option maxRecDepth 100000 in
theorem rotL17_any {x : Nat} (hx : Wd x) (w : World) :
    Calls Tryz.prog 159 #[.int .u32 (x : Int), .int .i64 (-17)] w fun e w' => e = .returned (.int .u32 ((rotr x 17 : Nat) : Int)) ∧ w' = w := by
  have h := rot_walk17 hx
  have hs : bits .and .u64 (IntKind.u64.wrap (-17)) 31 = 15 := by decide
  clear hx
  generalize rotr x 17 = R at *
  go_enter Tryz.func159, Tryz.ntmps159
  go_wp2
  go_ret
  exact ⟨ret_int h, rfl⟩
theorem rot_walk18 {x : Nat} (hx : Wd x) : bits .or .u32 (IntKind.u32.wrap ((x : Int) * 16384)) ((x : Int) / 262144) = ((rotr x 18 : Nat) : Int) := rot_walk hx (n := 18)
set_option maxRecDepth 100000 in
theorem rotL18_any {x : Nat} (hx : Wd x) (w : World) :
    Calls Tryz.prog 159 #[.int .u32 (x : Int), .int .i64 (-18)] w fun e w' => e = .returned (.int .u32 ((rotr x 18 : Nat) : Int)) ∧ w' = w := by
  have h := rot_walk18 hx
  have hs : bits .and .u64 (IntKind.u64.wrap (-18)) 31 = 14 := by decide
  clear hx
  generalize rotr x 18 = R at *
  go_enter Tryz.func159, Tryz.ntmps159
  go_wp2
  go_ret
  exact ⟨ret_int h, rfl⟩
theorem rot_walk19 {x : Nat} (hx : Wd x) : bits .or .u32 (IntKind.u32.wrap ((x : Int) * 8192)) ((x : Int) / 524288) = ((rotr x 19 : Nat) : Int) := rot_walk hx (n := 19)
set_option maxRecDepth 100000 in
theorem rotL19_any {x : Nat} (hx : Wd x) (w : World) :
    Calls Tryz.prog 159 #[.int .u32 (x : Int), .int .i64 (-19)] w fun e w' => e = .returned (.int .u32 ((rotr x 19 : Nat) : Int)) ∧ w' = w := by
  have h := rot_walk19 hx
  have hs : bits .and .u64 (IntKind.u64.wrap (-19)) 31 = 13 := by decide
  clear hx
  generalize rotr x 19 = R at *
  go_enter Tryz.func159, Tryz.ntmps159
  go_wp2
  go_ret
  exact ⟨ret_int h, rfl⟩
theorem rot_walk22 {x : Nat} (hx : Wd x) : bits .or .u32 (IntKind.u32.wrap ((x : Int) * 1024)) ((x : Int) / 4194304) = ((rotr x 22 : Nat) : Int) := rot_walk hx (n := 22)
set_option maxRecDepth 100000 in
theorem rotL22_any {x : Nat} (hx : Wd x) (w : World) :
    Calls Tryz.prog 159 #[.int .u32 (x : Int), .int .i64 (-22)] w fun e w' => e = .returned (.int .u32 ((rotr x 22 : Nat) : Int)) ∧ w' = w := by
  have h := rot_walk22 hx
  have hs : bits .and .u64 (IntKind.u64.wrap (-22)) 31 = 10 := by decide
  clear hx
  generalize rotr x 22 = R at *
  go_enter Tryz.func159, Tryz.ntmps159
  go_wp2
  go_ret
  exact ⟨ret_int h, rfl⟩
theorem rot_walk25 {x : Nat} (hx : Wd x) : bits .or .u32 (IntKind.u32.wrap ((x : Int) * 128)) ((x : Int) / 33554432) = ((rotr x 25 : Nat) : Int) := rot_walk hx (n := 25)
set_option maxRecDepth 100000 in
theorem rotL25_any {x : Nat} (hx : Wd x) (w : World) :
    Calls Tryz.prog 159 #[.int .u32 (x : Int), .int .i64 (-25)] w fun e w' => e = .returned (.int .u32 ((rotr x 25 : Nat) : Int)) ∧ w' = w := by
  have h := rot_walk25 hx
  have hs : bits .and .u64 (IntKind.u64.wrap (-25)) 31 = 7 := by decide
  clear hx
  generalize rotr x 25 = R at *
  go_enter Tryz.func159, Tryz.ntmps159
  go_wp2
  go_ret
  exact ⟨ret_int h, rfl⟩
set_option maxRecDepth 100000 in
theorem mixLow_any {x : Nat} (hx : Wd x) (w : World) :
    Calls Tryz.prog 145 #[.agg #[.int .i64 7, .int .i64 18, .int .i64 0, .int .i64 3], .int .u32 (x : Int)] w fun e w' => e = .returned (.int .u32 ((sigS 7 18 3 x : Nat) : Int)) ∧ Grows w w' := by
  have h1 : bits .xor .u32 ((rotr x 7 : Nat) : Int) ((rotr x 18 : Nat) : Int) = ((rotr x 7 ^^^ rotr x 18 : Nat) : Int) := xor32 (rotr_lt hx) (rotr_lt hx)
  have h2 : bits .xor .u32 ((rotr x 7 ^^^ rotr x 18 : Nat) : Int) ((x : Int) / 8) = ((sigS 7 18 3 x : Nat) : Int) := by
    have e : (x : Int) / (8 : Int) = ((x >>> 3 : Nat) : Int) := by
      rw [Nat.shiftRight_eq_div_pow]
      exact (Int.natCast_ediv x (2 ^ 3)).symm
    rw [e]
    exact xor32 (xor_lt (rotr_lt hx) (rotr_lt hx)) (Wd.of (Nat.lt_of_le_of_lt (Nat.shiftRight_le _ _) hx.lt))
  have cA := fun W => rotL7_any hx W
  have cB := fun W => rotL18_any hx W
  clear hx
  generalize sigS 7 18 3 x = V at *
  generalize rotr x 7 ^^^ rotr x 18 = U at *
  generalize rotr x 7 = R1 at *
  generalize rotr x 18 = R2 at *
  replace cA := Lib.hid cA
  replace cB := Lib.hid cB
  go_enter Tryz.func145, Tryz.ntmps145
  go_wp2_with fail
  refine wp_region_mixg [(0, true), (1, true), (2, true), (3, true), (5, true), (6, true), (7, true), (8, true), (4, false), (9, false), (10, true), (11, true)] (by kernel_rfl) (by kernel_rfl) rfl (by kernel_rfl) (by intro c a d v w h; first | (cases d <;> exact h) | exact hQ0 _ _ _ _ _ h) ?_
  iterate 8 (refine wpMix_q rfl (fun K hK => ?_); go_simp; (try go_bits); first | (refine hK _ ?_; clear hK K) | (apply Exists.intro; refine ⟨fun wq hsq => ?_, hK _ ?_⟩; (first | (go_simp; done) | ((try go_simp); (try simp only [↓IntWalk.iteOmega]); (try go_bits); rfl) | (obtain ⟨hcq, hfq⟩ := bcells hsq; go_simp; done) | (obtain ⟨hcq, hfq⟩ := bcells hsq; (try go_simp); (try simp only [↓IntWalk.iteOmega]); (try go_bits); rfl)); clear hK K))
  refine wpMix_m rfl (fun K' hK => ?_)
  go_simp
  refine (cA.out _).mono ?_
  rintro e w1 ⟨rfl, rfl⟩
  refine hK.out _ _ ?_ (fun hS => ?_)
  · repeat (first | assumption | exact Grows.refl _ | apply Grows.drew | apply Grows.drewN | refine Grows.alloc ?_ _ | (refine Grows.setCell ?_ (by first | (simp; done) | (simp; omega) | omega) _) | (refine Grows.trans ?_ (by assumption)))
  clear hK hS
  refine wpMix_m rfl (fun K' hK => ?_)
  go_simp
  refine (cB.out _).mono ?_
  rintro e w2 ⟨rfl, rfl⟩
  refine hK.out _ _ ?_ (fun hS => ?_)
  · repeat (first | assumption | exact Grows.refl _ | apply Grows.drew | apply Grows.drewN | refine Grows.alloc ?_ _ | (refine Grows.setCell ?_ (by first | (simp; done) | (simp; omega) | omega) _) | (refine Grows.trans ?_ (by assumption)))
  clear hK hS
  iterate 2 (refine wpMix_q rfl (fun K hK => ?_); go_simp; (try go_bits); first | (refine hK _ ?_; clear hK K) | (apply Exists.intro; refine ⟨fun wq hsq => ?_, hK _ ?_⟩; (first | (go_simp; done) | ((try go_simp); (try simp only [↓IntWalk.iteOmega]); (try go_bits); rfl) | (obtain ⟨hcq, hfq⟩ := bcells hsq; go_simp; done) | (obtain ⟨hcq, hfq⟩ := bcells hsq; (try go_simp); (try simp only [↓IntWalk.iteOmega]); (try go_bits); rfl)); clear hK K))
  refine wpMix_nil ?_
  go_wp2
  go_ret
  exact ⟨rfl, by
    repeat (first | assumption | exact Grows.refl _ | apply Grows.drew | apply Grows.drewN | refine Grows.alloc ?_ _ | (refine Grows.setCell ?_ (by first | (simp; done) | (simp; omega) | omega) _) | (refine Grows.trans ?_ (by assumption)))
  ⟩
set_option maxRecDepth 100000 in
theorem mixHigh_any {x : Nat} (hx : Wd x) (w : World) :
    Calls Tryz.prog 145 #[.agg #[.int .i64 17, .int .i64 19, .int .i64 0, .int .i64 10], .int .u32 (x : Int)] w fun e w' => e = .returned (.int .u32 ((sigS 17 19 10 x : Nat) : Int)) ∧ Grows w w' := by
  have h1 : bits .xor .u32 ((rotr x 17 : Nat) : Int) ((rotr x 19 : Nat) : Int) = ((rotr x 17 ^^^ rotr x 19 : Nat) : Int) := xor32 (rotr_lt hx) (rotr_lt hx)
  have h2 : bits .xor .u32 ((rotr x 17 ^^^ rotr x 19 : Nat) : Int) ((x : Int) / 1024) = ((sigS 17 19 10 x : Nat) : Int) := by
    have e : (x : Int) / (1024 : Int) = ((x >>> 10 : Nat) : Int) := by
      rw [Nat.shiftRight_eq_div_pow]
      exact (Int.natCast_ediv x (2 ^ 10)).symm
    rw [e]
    exact xor32 (xor_lt (rotr_lt hx) (rotr_lt hx)) (Wd.of (Nat.lt_of_le_of_lt (Nat.shiftRight_le _ _) hx.lt))
  have cA := fun W => rotL17_any hx W
  have cB := fun W => rotL19_any hx W
  clear hx
  generalize sigS 17 19 10 x = V at *
  generalize rotr x 17 ^^^ rotr x 19 = U at *
  generalize rotr x 17 = R1 at *
  generalize rotr x 19 = R2 at *
  replace cA := Lib.hid cA
  replace cB := Lib.hid cB
  go_enter Tryz.func145, Tryz.ntmps145
  go_wp2_with fail
  refine wp_region_mixg [(0, true), (1, true), (2, true), (3, true), (5, true), (6, true), (7, true), (8, true), (4, false), (9, false), (10, true), (11, true)] (by kernel_rfl) (by kernel_rfl) rfl (by kernel_rfl) (by intro c a d v w h; first | (cases d <;> exact h) | exact hQ0 _ _ _ _ _ h) ?_
  iterate 8 (refine wpMix_q rfl (fun K hK => ?_); go_simp; (try go_bits); first | (refine hK _ ?_; clear hK K) | (apply Exists.intro; refine ⟨fun wq hsq => ?_, hK _ ?_⟩; (first | (go_simp; done) | ((try go_simp); (try simp only [↓IntWalk.iteOmega]); (try go_bits); rfl) | (obtain ⟨hcq, hfq⟩ := bcells hsq; go_simp; done) | (obtain ⟨hcq, hfq⟩ := bcells hsq; (try go_simp); (try simp only [↓IntWalk.iteOmega]); (try go_bits); rfl)); clear hK K))
  refine wpMix_m rfl (fun K' hK => ?_)
  go_simp
  refine (cA.out _).mono ?_
  rintro e w1 ⟨rfl, rfl⟩
  refine hK.out _ _ ?_ (fun hS => ?_)
  · repeat (first | assumption | exact Grows.refl _ | apply Grows.drew | apply Grows.drewN | refine Grows.alloc ?_ _ | (refine Grows.setCell ?_ (by first | (simp; done) | (simp; omega) | omega) _) | (refine Grows.trans ?_ (by assumption)))
  clear hK hS
  refine wpMix_m rfl (fun K' hK => ?_)
  go_simp
  refine (cB.out _).mono ?_
  rintro e w2 ⟨rfl, rfl⟩
  refine hK.out _ _ ?_ (fun hS => ?_)
  · repeat (first | assumption | exact Grows.refl _ | apply Grows.drew | apply Grows.drewN | refine Grows.alloc ?_ _ | (refine Grows.setCell ?_ (by first | (simp; done) | (simp; omega) | omega) _) | (refine Grows.trans ?_ (by assumption)))
  clear hK hS
  iterate 2 (refine wpMix_q rfl (fun K hK => ?_); go_simp; (try go_bits); first | (refine hK _ ?_; clear hK K) | (apply Exists.intro; refine ⟨fun wq hsq => ?_, hK _ ?_⟩; (first | (go_simp; done) | ((try go_simp); (try simp only [↓IntWalk.iteOmega]); (try go_bits); rfl) | (obtain ⟨hcq, hfq⟩ := bcells hsq; go_simp; done) | (obtain ⟨hcq, hfq⟩ := bcells hsq; (try go_simp); (try simp only [↓IntWalk.iteOmega]); (try go_bits); rfl)); clear hK K))
  refine wpMix_nil ?_
  go_wp2
  go_ret
  exact ⟨rfl, by
    repeat (first | assumption | exact Grows.refl _ | apply Grows.drew | apply Grows.drewN | refine Grows.alloc ?_ _ | (refine Grows.setCell ?_ (by first | (simp; done) | (simp; omega) | omega) _) | (refine Grows.trans ?_ (by assumption)))
  ⟩
set_option maxRecDepth 100000 in
theorem mixBig_any {x : Nat} (hx : Wd x) (w : World) :
    Calls Tryz.prog 145 #[.agg #[.int .i64 6, .int .i64 11, .int .i64 25, .int .i64 0], .int .u32 (x : Int)] w fun e w' => e = .returned (.int .u32 ((sig 6 11 25 x : Nat) : Int)) ∧ Grows w w' := by
  have h1 : bits .xor .u32 ((rotr x 6 : Nat) : Int) ((rotr x 11 : Nat) : Int) = ((rotr x 6 ^^^ rotr x 11 : Nat) : Int) := xor32 (rotr_lt hx) (rotr_lt hx)
  have h2 : bits .xor .u32 ((rotr x 6 ^^^ rotr x 11 : Nat) : Int) ((rotr x 25 : Nat) : Int) = ((sig 6 11 25 x : Nat) : Int) := xor32 (xor_lt (rotr_lt hx) (rotr_lt hx)) (rotr_lt hx)
  have cA := fun W => rotL6_any hx W
  have cB := fun W => rotL11_any hx W
  have cC := fun W => rotL25_any hx W
  clear hx
  generalize sig 6 11 25 x = V at *
  generalize rotr x 6 ^^^ rotr x 11 = U at *
  generalize rotr x 6 = R1 at *
  generalize rotr x 11 = R2 at *
  generalize rotr x 25 = R3 at *
  replace cA := Lib.hid cA
  replace cB := Lib.hid cB
  replace cC := Lib.hid cC
  go_enter Tryz.func145, Tryz.ntmps145
  go_wp2_with fail
  refine wp_region_mixg [(0, true), (1, true), (2, true), (3, true), (5, true), (6, true), (7, true), (8, true), (4, false), (9, false), (10, true), (11, true)] (by kernel_rfl) (by kernel_rfl) rfl (by kernel_rfl) (by intro c a d v w h; first | (cases d <;> exact h) | exact hQ0 _ _ _ _ _ h) ?_
  iterate 8 (refine wpMix_q rfl (fun K hK => ?_); go_simp; (try go_bits); first | (refine hK _ ?_; clear hK K) | (apply Exists.intro; refine ⟨fun wq hsq => ?_, hK _ ?_⟩; (first | (go_simp; done) | ((try go_simp); (try simp only [↓IntWalk.iteOmega]); (try go_bits); rfl) | (obtain ⟨hcq, hfq⟩ := bcells hsq; go_simp; done) | (obtain ⟨hcq, hfq⟩ := bcells hsq; (try go_simp); (try simp only [↓IntWalk.iteOmega]); (try go_bits); rfl)); clear hK K))
  refine wpMix_m rfl (fun K' hK => ?_)
  go_simp
  refine (cA.out _).mono ?_
  rintro e w1 ⟨rfl, rfl⟩
  refine hK.out _ _ ?_ (fun hS => ?_)
  · repeat (first | assumption | exact Grows.refl _ | apply Grows.drew | apply Grows.drewN | refine Grows.alloc ?_ _ | (refine Grows.setCell ?_ (by first | (simp; done) | (simp; omega) | omega) _) | (refine Grows.trans ?_ (by assumption)))
  clear hK hS
  refine wpMix_m rfl (fun K' hK => ?_)
  go_simp
  refine (cB.out _).mono ?_
  rintro e w2 ⟨rfl, rfl⟩
  refine hK.out _ _ ?_ (fun hS => ?_)
  · repeat (first | assumption | exact Grows.refl _ | apply Grows.drew | apply Grows.drewN | refine Grows.alloc ?_ _ | (refine Grows.setCell ?_ (by first | (simp; done) | (simp; omega) | omega) _) | (refine Grows.trans ?_ (by assumption)))
  clear hK hS
  iterate 2 (refine wpMix_q rfl (fun K hK => ?_); go_simp; (try go_bits); first | (refine hK _ ?_; clear hK K) | (apply Exists.intro; refine ⟨fun wq hsq => ?_, hK _ ?_⟩; (first | (go_simp; done) | ((try go_simp); (try simp only [↓IntWalk.iteOmega]); (try go_bits); rfl) | (obtain ⟨hcq, hfq⟩ := bcells hsq; go_simp; done) | (obtain ⟨hcq, hfq⟩ := bcells hsq; (try go_simp); (try simp only [↓IntWalk.iteOmega]); (try go_bits); rfl)); clear hK K))
  refine wpMix_nil ?_
  go_wp2_with fail
  refine (cC.out _).mono ?_
  rintro e w3 ⟨rfl, rfl⟩
  go_wp2
  go_ret
  exact ⟨rfl, by
    repeat (first | assumption | exact Grows.refl _ | apply Grows.drew | apply Grows.drewN | refine Grows.alloc ?_ _ | (refine Grows.setCell ?_ (by first | (simp; done) | (simp; omega) | omega) _) | (refine Grows.trans ?_ (by assumption)))
  ⟩
set_option maxRecDepth 100000 in
theorem mixSmall_any {x : Nat} (hx : Wd x) (w : World) :
    Calls Tryz.prog 145 #[.agg #[.int .i64 2, .int .i64 13, .int .i64 22, .int .i64 0], .int .u32 (x : Int)] w fun e w' => e = .returned (.int .u32 ((sig 2 13 22 x : Nat) : Int)) ∧ Grows w w' := by
  have h1 : bits .xor .u32 ((rotr x 2 : Nat) : Int) ((rotr x 13 : Nat) : Int) = ((rotr x 2 ^^^ rotr x 13 : Nat) : Int) := xor32 (rotr_lt hx) (rotr_lt hx)
  have h2 : bits .xor .u32 ((rotr x 2 ^^^ rotr x 13 : Nat) : Int) ((rotr x 22 : Nat) : Int) = ((sig 2 13 22 x : Nat) : Int) := xor32 (xor_lt (rotr_lt hx) (rotr_lt hx)) (rotr_lt hx)
  have cA := fun W => rotL2_any hx W
  have cB := fun W => rotL13_any hx W
  have cC := fun W => rotL22_any hx W
  clear hx
  generalize sig 2 13 22 x = V at *
  generalize rotr x 2 ^^^ rotr x 13 = U at *
  generalize rotr x 2 = R1 at *
  generalize rotr x 13 = R2 at *
  generalize rotr x 22 = R3 at *
  replace cA := Lib.hid cA
  replace cB := Lib.hid cB
  replace cC := Lib.hid cC
  go_enter Tryz.func145, Tryz.ntmps145
  go_wp2_with fail
  refine wp_region_mixg [(0, true), (1, true), (2, true), (3, true), (5, true), (6, true), (7, true), (8, true), (4, false), (9, false), (10, true), (11, true)] (by kernel_rfl) (by kernel_rfl) rfl (by kernel_rfl) (by intro c a d v w h; first | (cases d <;> exact h) | exact hQ0 _ _ _ _ _ h) ?_
  iterate 8 (refine wpMix_q rfl (fun K hK => ?_); go_simp; (try go_bits); first | (refine hK _ ?_; clear hK K) | (apply Exists.intro; refine ⟨fun wq hsq => ?_, hK _ ?_⟩; (first | (go_simp; done) | ((try go_simp); (try simp only [↓IntWalk.iteOmega]); (try go_bits); rfl) | (obtain ⟨hcq, hfq⟩ := bcells hsq; go_simp; done) | (obtain ⟨hcq, hfq⟩ := bcells hsq; (try go_simp); (try simp only [↓IntWalk.iteOmega]); (try go_bits); rfl)); clear hK K))
  refine wpMix_m rfl (fun K' hK => ?_)
  go_simp
  refine (cA.out _).mono ?_
  rintro e w1 ⟨rfl, rfl⟩
  refine hK.out _ _ ?_ (fun hS => ?_)
  · repeat (first | assumption | exact Grows.refl _ | apply Grows.drew | apply Grows.drewN | refine Grows.alloc ?_ _ | (refine Grows.setCell ?_ (by first | (simp; done) | (simp; omega) | omega) _) | (refine Grows.trans ?_ (by assumption)))
  clear hK hS
  refine wpMix_m rfl (fun K' hK => ?_)
  go_simp
  refine (cB.out _).mono ?_
  rintro e w2 ⟨rfl, rfl⟩
  refine hK.out _ _ ?_ (fun hS => ?_)
  · repeat (first | assumption | exact Grows.refl _ | apply Grows.drew | apply Grows.drewN | refine Grows.alloc ?_ _ | (refine Grows.setCell ?_ (by first | (simp; done) | (simp; omega) | omega) _) | (refine Grows.trans ?_ (by assumption)))
  clear hK hS
  iterate 2 (refine wpMix_q rfl (fun K hK => ?_); go_simp; (try go_bits); first | (refine hK _ ?_; clear hK K) | (apply Exists.intro; refine ⟨fun wq hsq => ?_, hK _ ?_⟩; (first | (go_simp; done) | ((try go_simp); (try simp only [↓IntWalk.iteOmega]); (try go_bits); rfl) | (obtain ⟨hcq, hfq⟩ := bcells hsq; go_simp; done) | (obtain ⟨hcq, hfq⟩ := bcells hsq; (try go_simp); (try simp only [↓IntWalk.iteOmega]); (try go_bits); rfl)); clear hK K))
  refine wpMix_nil ?_
  go_wp2_with fail
  refine (cC.out _).mono ?_
  rintro e w3 ⟨rfl, rfl⟩
  go_wp2
  go_ret
  exact ⟨rfl, by
    repeat (first | assumption | exact Grows.refl _ | apply Grows.drew | apply Grows.drewN | refine Grows.alloc ?_ _ | (refine Grows.setCell ?_ (by first | (simp; done) | (simp; omega) | omega) _) | (refine Grows.trans ?_ (by assumption)))
  ⟩
end Go.Proofs.YtfoffneipdkdjaaGreatDoor
namespace Go.Proofs.YtfoffneipdkdjaaGreatDoor
open Go.RowKit

def startL : List Nat := [startV.a, startV.b, startV.c, startV.d, startV.e, startV.f, startV.g, startV.h]
set_option maxRecDepth 100000 in
set_option maxHeartbeats 1600000 in
theorem start_any (w : World) : Calls Tryz.prog 129 #[] w fun e w' => e = .returned (.agg (u32s startL)) ∧ Grows w w' := by
  go_enter Tryz.func129, Tryz.ntmps129
  go_wp2
  refine bodyPost_ret (v := .agg (u32s startL)) ?_ rfl ⟨rfl, ?_⟩
  · simp [results, Tryz.results129, go_sem]
    rfl
  · repeat (first | assumption | exact Grows.refl _ | apply Grows.drew | apply Grows.drewN | refine Grows.alloc ?_ _ | (refine Grows.setCell ?_ (by first | (simp; done) | (simp; omega) | omega) _) | (refine Grows.trans ?_ (by assumption)))
set_option maxRecDepth 100000 in
set_option maxHeartbeats 800000 in
theorem keys_any (w : World) : Calls Tryz.prog 146 #[] w fun e w' => e = .returned (.agg (u32s keysL)) ∧ Grows w w' := by
  go_enter Tryz.func146, Tryz.ntmps146
  iterate 9 go_step
  go_step
  go_step
  refine wpList_build rfl 119 _ rfl (by kernel_rfl) ?_
  refine wpList_store_row rfl 119 (.tmp 0) (.tmp 1) rfl w.heap.size (u32s keysL) rfl (by kernel_rfl) 119 _ (Blk.new w _ _) (by kernel_rfl) rfl (by kernel_rfl) ?_
  rw [World.setRow_alloc_new]
  generalize Program.built _ _ _ = built
  go_wp2
  refine bodyPost_ret (v := .agg (u32s keysL)) (results_cell_row (p := 0) (ty := 119) (by kernel_rfl) _ _ w.heap.size _ (u32s keysL) (0, 0) _ rfl (heap_alloc_new w _) Tryz.underlying119 rfl (by kernel_rfl)) rfl ⟨rfl, ?_⟩
  repeat (first | assumption | exact Grows.refl _ | apply Grows.drew | apply Grows.drewN | refine Grows.alloc ?_ _ | (refine Grows.setCell ?_ (by first | (simp; done) | (simp; omega) | omega) _) | (refine Grows.trans ?_ (by assumption)))
end Go.Proofs.YtfoffneipdkdjaaGreatDoor
namespace Go.Proofs.YtfoffneipdkdjaaGreatDoor

/-- What has been reckoned, and zeros behind it. -/
def pad64 (l : List Nat) : List Nat := l ++ List.replicate (64 - l.length) 0
theorem pad64_len {l : List Nat} (h : l.length ≤ 64) : (pad64 l).length = 64 := by
  unfold pad64; rw [List.length_append, List.length_replicate]; omega
theorem pad64_full {l : List Nat} (h : l.length = 64) : pad64 l = l := by unfold pad64; rw [h]; simp
theorem pad64_at {l : List Nat} {i : Nat} (h : i < l.length) : (pad64 l).getD i 0 = l.getD i 0 := by
  unfold pad64
  simp only [List.getD_eq_getElem?_getD, List.getElem?_append_left h]
theorem pad64_next {l : List Nat} (h : l.length < 64) : (pad64 l).getD l.length 0 = 0 := by
  unfold pad64
  rw [List.getD_eq_getElem?_getD, List.getElem?_append_right (Nat.le_refl _), Nat.sub_self, List.getElem?_replicate_of_lt (by omega)]
  rfl
theorem pad64_set {l : List Nat} (x : Nat) (h : l.length < 64) : (pad64 l).set l.length x = pad64 (l ++ [x]) := by
  unfold pad64
  rw [List.set_append_right _ _ (Nat.le_refl _), Nat.sub_self, List.append_assoc]
  congr 1
  rw [show 64 - l.length = (64 - (l ++ [x]).length) + 1 by rw [List.length_append]; simp; omega, List.replicate_succ]
  rfl
/-- Of four bytes the first j. -/
def beN (b : List Nat) (i : Nat) : Nat → Nat
  | 0 => 0
  | j + 1 => beN b i j * 256 + b.getD (4 * i + j) 0
theorem beN_zero (b : List Nat) (i : Nat) : beN b i 0 = 0 := rfl
theorem beN_succ (b : List Nat) (i j : Nat) : beN b i (j + 1) = beN b i j * 256 + b.getD (4 * i + j) 0 := rfl
theorem beN_four (b : List Nat) (i : Nat) : beN b i 4 = be4 b i := by
  rw [beN_succ, beN_succ, beN_succ, beN_succ, beN_zero, Nat.add_zero]
  unfold be4
  omega
theorem getD_byte {b : List Nat} (hb : ∀ x ∈ b, x < 256) (i : Nat) : b.getD i 0 < 256 := by
  rw [List.getD_eq_getElem?_getD]
  cases h : b[i]? with
  | none => simp
  | some x => exact hb x (List.mem_of_getElem? h)
theorem beN_lt {b : List Nat} (hb : ∀ x ∈ b, x < 256) (i j : Nat) : beN b i j < 256 ^ j := by
  induction j with
  | zero => simp [beN_zero]
  | succ j ih =>
    have := getD_byte hb (4 * i + j)
    rw [beN_succ, Nat.pow_succ]
    omega
theorem be4_lt {b : List Nat} (hb : ∀ x ∈ b, x < 256) (i : Nat) : Wd (be4 b i) := by
  have := beN_lt hb i 4
  rw [beN_four] at this
  exact this
theorem firsts_len (b : List Nat) : (firsts b).length = 16 := by simp [firsts]
theorem firsts_at (b : List Nat) {i : Nat} (h : i < 16) : (firsts b)[i]? = some (be4 b i) := by
  simp [firsts, h]
theorem firsts_lt {b : List Nat} (hb : ∀ x ∈ b, x < 256) : ∀ x ∈ firsts b, Wd x := by
  intro x hx
  simp only [firsts, List.mem_map] at hx
  obtain ⟨i, _, rfl⟩ := hx
  exact be4_lt hb i
theorem firsts_take (b : List Nat) {i : Nat} (h : i < 16) : (firsts b).take (i + 1) = (firsts b).take i ++ [be4 b i] := by
  rw [List.take_add_one, firsts_at b h]; rfl
theorem take_len {b : List Nat} {i : Nat} (h : i ≤ 16) : ((firsts b).take i).length = i := by
  rw [List.length_take, firsts_len]; omega
theorem words_next {n : Nat} {b : List Nat} : wordNext (words n (firsts b)) =
    wordOf ((words n (firsts b)).getD n 0) ((words n (firsts b)).getD (n + 1) 0) ((words n (firsts b)).getD (n + 9) 0) ((words n (firsts b)).getD (n + 14) 0) := by
  unfold wordNext
  rw [words_len, firsts_len, show 16 + n - 16 = n by omega, show 16 + n - 15 = n + 1 by omega, show 16 + n - 7 = n + 9 by omega, show 16 + n - 2 = n + 14 by omega]
theorem words_Wd {b : List Nat} (hb : ∀ x ∈ b, x < 256) (n i : Nat) : Wd ((words n (firsts b)).getD i 0) := by
  rw [List.getD_eq_getElem?_getD]
  cases h : (words n (firsts b))[i]? with
  | none => exact Wd.of (by simp)
  | some x => exact words_lt n (firsts_lt hb) x (List.mem_of_getElem? h)
end Go.Proofs.YtfoffneipdkdjaaGreatDoor
namespace Go.Proofs.YtfoffneipdkdjaaGreatDoor
open Go.RowKit

/-- What a digest's ten cells hold: its eight words, the bytes that are no whole block, how many have come. -/
def sumC (v : List Nat) (rest : Value) (count : Int) : Array Value := u32s v ++ #[rest, .int .i64 count]
set_option maxRecDepth 100000 in
theorem newSum_any (w : World) : Calls Tryz.prog 101 #[] w fun e w' => ∃ g, e = .returned (.pointer (some ⟨g, 0, none⟩)) ∧ w.heap.size ≤ g ∧ Blk w' g 175 (sumC startL (.slice none 0 0) 0) ∧ Grows w w' := by
  have cS := fun W => start_any W
  replace cS := Lib.hid cS
  go_enter Tryz.func101, Tryz.ntmps101
  go_wp2_with fail
  refine (cS.out _).mono ?_
  rintro e w1 ⟨rfl, hb1⟩
  rw [show u32s startL = #[.int .u32 1779033703, .int .u32 3144134277, .int .u32 1013904242, .int .u32 2773480762, .int .u32 1359893119, .int .u32 2600822924, .int .u32 528734635, .int .u32 1541459225] from rfl]
  go_wp2
  go_ret
  exact ⟨_, rfl, hb1.size, Blk.new w1 _ _, hb1.alloc _⟩
end Go.Proofs.YtfoffneipdkdjaaGreatDoor
namespace Go.Proofs.YtfoffneipdkdjaaGreatDoor

def shortTo (bs : List Nat) : Nat → Nat
  | 0 => 0
  | n + 1 => shortTo bs n * 256 + bs.getD n 0
theorem shortTo_zero (bs : List Nat) : shortTo bs 0 = 0 := rfl
theorem shortTo_succ (bs : List Nat) (n : Nat) : shortTo bs (n + 1) = shortTo bs n * 256 + bs.getD n 0 := rfl
theorem getD_small {b : List Nat} (hb : ∀ x ∈ b, x < 256) (i : Nat) : b.getD i 0 < 256 := by
  rw [List.getD_eq_getElem?_getD]
  cases h : b[i]? with
  | none => simp
  | some x => exact hb x (List.mem_of_getElem? h)
theorem shortTo_lt {bs : List Nat} (hb : ∀ x ∈ bs, x < 256) (n : Nat) : shortTo bs n < 256 ^ n := by
  induction n with
  | zero => simp [shortTo_zero]
  | succ n ih =>
    have := getD_small hb n
    rw [shortTo_succ, Nat.pow_succ]
    omega
theorem or_byte {n c : Nat} (hc : c < 256) : n * 256 ||| c = n * 256 + c := by
  have := Nat.shiftLeft_add_eq_or_of_lt (i := 8) (b := c) hc n
  rw [Nat.shiftLeft_eq] at this
  exact this.symm
set_option maxRecDepth 100000 in
theorem or64_byte {n c : Nat} (hn : n * 256 + c < 18446744073709551616) (hc : c < 256) : bits .or .u64 (IntKind.u64.wrap ((n : Int) * 256)) (c : Int) = ((n * 256 + c : Nat) : Int) := by
  have e : IntKind.u64.wrap ((n : Int) * 256) = ((n * 256 : Nat) : Int) := by
    rw [IntKind.wrap_u64]; omega
  have ha := Nat.lt_of_le_of_lt (Nat.le_add_right (n * 256) c) hn
  have hb := Nat.lt_of_le_of_lt (Nat.le_add_left c (n * 256)) hn
  rw [e]
  exact (bits_or_u64_nat (n * 256) c ha hb).trans (by rw [or_byte hc])
end Go.Proofs.YtfoffneipdkdjaaGreatDoor
namespace Go.Proofs.YtfoffneipdkdjaaGreatDoor
open Go.RowKit

def u8s (xs : List Nat) : Array Value := (xs.map fun (x : Nat) => Value.int .u8 (x : Int)).toArray
theorem u8s_size (xs : List Nat) : (u8s xs).size = xs.length := by simp [u8s]
theorem u8s_at {xs : List Nat} {i : Nat} (h : i < xs.length) : (u8s xs)[i]? = some (.int .u8 ((xs.getD i 0 : Nat) : Int)) := by simp [u8s, h]
theorem u8s_one (xs : List Nat) : (u8s xs).all (·.oneCell') = true := by simp [u8s, Value.oneCell']
set_option maxRecDepth 100000 in
set_option maxHeartbeats 1600000 in
theorem short_of {A : Option Addr} {m c : Nat} {bs : List Nat} (w : World) (cOf : Calls Tryz.prog 64 #[.slice A m c] w fun e w' => e = .returned (.agg (u8s bs)) ∧ Grows w w') (hl : bs.length = 32) (hb : ∀ x ∈ bs, x < 256) :
    Calls Tryz.prog 31 #[.slice A m c] w fun e w' => e = .returned (.int .u64 ((shortTo bs 8 : Nat) : Int)) ∧ Grows w w' := by
  replace cOf := Lib.hid cOf
  go_enter Tryz.func31, Tryz.ntmps31
  go_wp2_with fail
  refine cOf.out.mono ?_
  rintro e w1 ⟨rfl, hb1⟩
  go_wp2_with (refine wpList_store_row rfl 83 (.tmp 4) (.tmp 8) rfl w1.heap.size (u8s bs) rfl rfl 83 _ (Blk.new w1 _ _) (by rw [u8s_size, hl]; kernel_rfl) (by rw [u8s_size, hl]; rfl) (u8s_one bs) ?_)
  rw [World.setRow_alloc_new]
  have hB : Blk (w1.alloc (.cells (u8s bs) 83)) w1.heap.size 83 (u8s bs) := Blk.new w1 _ _
  have hgr : Grows w (w1.alloc (.cells (u8s bs) 83)) := hb1.alloc _
  have hw1 := hB.lt
  generalize w1.alloc (.cells (u8s bs) 83) = w2 at *
  generalize w1.heap.size = g at *
  clear hb1 cOf
  have hc : ∀ i, i < 8 → w2.cell? ⟨g, i, none⟩ = some (.int .u8 ((bs.getD i 0 : Nat) : Int)) := fun i hi => (hB.cell i).trans (u8s_at (by omega))
  replace hc := Lib.hid hc
  replace hB := Lib.hid hB
  go_loopw [3, 11] (fun n i wr => ∃ k : Nat, k ≤ 8 ∧ i = .int .i64 k ∧ n = .int .u64 ((shortTo bs k : Nat) : Int) ∧ wr = w2) (fun _ i _ => 8 - (intOf i).toNat)
  case atStart => exact ⟨0, by omega, rfl, rfl, rfl⟩
  case round =>
    obtain ⟨k, hk, rfl, rfl, rfl⟩ := hrel
    by_cases hlt : k < 8
    · have c0 := hc.out k hlt
      have hx := getD_small hb k
      have hs := shortTo_succ bs k
      have hn : shortTo bs k * 256 + bs.getD k 0 < 18446744073709551616 := by
        have h1 := shortTo_lt hb (k + 1)
        rw [hs] at h1
        exact Nat.lt_of_lt_of_le h1 (Nat.le_trans (Nat.pow_le_pow_right (n := 256) (by decide) (by omega : k + 1 ≤ 8)) (by decide))
      have ho := or64_byte hn hx
      replace hs := Lib.hid hs
      generalize bs.getD k 0 = x at *
      generalize shortTo bs k = n at *
      clear hn
      go_wp2
      go_roundw
      case rel => exact ⟨k + 1, by omega, by go_num, by rw [hs.out, Int.natCast_add, Int.natCast_mul]; rfl, trivial⟩
      case measure => simp [intOf]; omega
    · obtain rfl : k = 8 := by omega
      go_wp2
      go_ret
      exact ⟨rfl, hgr⟩
end Go.Proofs.YtfoffneipdkdjaaGreatDoor
