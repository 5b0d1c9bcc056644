/- Parts: slices.Grow of nothing, slices.Concat, at bytes. The digest of bytes: Of. The reference's round: the first of its four loops. The reference's round: the second of its four loops. The reference's round: the third of its four loops. The reference's round: the fourth of its four loops. The reference's round, joined. -/
import Derived.Test.YtfoffneipdkdjaaGreatDoorMk4
import Derived.Lib.AppendZeros
import Derived.Test.YtfoffneipdkdjaaGreatDoorMk5
import Derived.Test.YtfoffneipdkdjaaGreatDoorMk3
namespace Go.Proofs.YtfoffneipdkdjaaGreatDoor
open Go.RowKit

theorem run_grow0 {n : Nat} (w : World) (h0 : 0 < n) (hn : n ≤ 1099511700000) (ty : TypeId) :
    ∃ g cap w', (Builtin.append_ #[81, 3] ty #[.slice none 0 0, .int .i64 n]).run Tryz.prog w = .ok (.slice (some ⟨g, 0, none⟩) n cap) w' ∧ n ≤ cap ∧ cap ≤ maxLen ∧ OwnB w' w.heap.size (.slice (some ⟨g, 0, none⟩) 0 cap) [] ∧ Grows w w' := by
  obtain ⟨i, hi, hz, hsz, hby⟩ := bb_info
  have hr := Lib.run_append_nil_zeros (P := Tryz.prog) w 81 3 ty 5 i (.int .u8 0) .i64 .i64 Tryz.underlying81 Tryz.underlying3 hi hz n h0 (by omega) (by omega) (by rw [hby]; omega)
  have hge := grownCap_ge w n 0 5
  have hcm := grownCap_le_maxLen w n 0 5 (by unfold maxLen; omega)
  refine ⟨_, _, _, hr, hge, hcm, .inr ⟨w.heap.size, _, _, (0, 0), rfl, Nat.le_refl _, heap_alloc_new w.drew _, fun j _ => by simp, by simp, hcm, ?_, fun i hi => absurd hi (by simp)⟩, (Grows.refl w).drew.alloc _⟩
  simp only [Array.size_append, size_zeroCells, Value.cells]
  simp
  omega
set_option maxRecDepth 100000 in
theorem grow0_any {n : Nat} (w : World) (hn : n ≤ 1099511700000) :
    Calls Tryz.prog 94 #[.slice none 0 0, .int .i64 n] w fun e w' => ∃ v, e = .returned v ∧ OwnB w' w.heap.size v [] ∧ Grows w w' := by
  by_cases h0 : n = 0
  · subst h0
    go_enter Tryz.func94, Tryz.ntmps94
    go_wp2
    go_ret
    exact ⟨_, rfl, OwnB.nil_ _ _, Grows.refl _⟩
  · have hi : (0 : Int) < (n : Int) := by omega
    have hi2 : ¬ ((n : Int) < 0) := by omega
    have hb : 0 ≤ (n : Int) ∧ (n : Int) ≤ 1099511700000 := by omega
    have h1 : 0 < n := by omega
    replace h1 := Lib.hid h1
    go_enter Tryz.func94, Tryz.ntmps94
    obtain ⟨g, cap, w1, hr, hge, hcm, hO, hG⟩ := run_grow0 w h1.out hn 81
    have hcm2 := hcm
    replace hO := Lib.hid hO
    replace hG := Lib.hid hG
    go_wp2_with (at_builtin; (refine Lib.wpList_append_run _ rfl (.tmp 20) (.tmp 21) _ _ rfl _ _ rfl rfl _ _ hr ?_))
    go_ret
    exact ⟨_, rfl, hO.out, hG.out⟩
/-- A slice of bytes as an element of a slice. -/
structure Bsl where
  A : Option Addr
  n : Nat
  c : Nat
  xs : List Nat
def encBs (b : Bsl) : List Value := [.slice b.A b.n b.c]
def catL (bs : List Bsl) : List Nat := bs.flatMap (·.xs)
theorem catL_take {bs : List Bsl} {k : Nat} {b : Bsl} (h : bs[k]? = some b) : catL (bs.take (k + 1)) = catL (bs.take k) ++ b.xs := by
  rw [List.take_add_one, h]; simp [catL]
theorem catL_le (bs : List Bsl) (k : Nat) : (catL (bs.take k)).length ≤ (catL bs).length := by
  have : catL bs = catL (bs.take k) ++ catL (bs.drop k) := by
    unfold catL
    rw [← List.flatMap_append, List.take_append_drop]
  rw [this, List.length_append]
  omega
set_option maxRecDepth 100000 in
set_option maxHeartbeats 800000 in
theorem concatB_any {A : Option Addr} {L c : Nat} {bs : List Bsl} (w : World) (hA : Arr w 1 encBs A L bs) (hb : ∀ b ∈ bs, Arr w 1 encB b.A b.n b.xs) (ht : (catL bs).length ≤ 1099511627776) (hL2 : L ≤ 1000) :
    Calls Tryz.prog 45 #[.slice A L c] w fun e w' => ∃ v, e = .returned v ∧ OwnB w' w.heap.size v (catL bs) ∧ Grows w w' := by
  have hL := hA.1
  have cG := fun n W h => grow0_any (n := n) W h
  replace cG := Lib.hid cG
  replace hA := Lib.hid hA
  replace hb := Lib.hid hb
  go_enter Tryz.func45, Tryz.ntmps45
  go_wp2
  go_loopw [3, 11] (fun n i wr => ∃ k : Nat, k ≤ L ∧ i = .int .i64 k ∧ n = .int .i64 ((catL (bs.take k)).length : Nat) ∧ w = wr) (fun _ i _ => L - (intOf i).toNat)
  case atStart => exact ⟨0, by omega, rfl, rfl, rfl⟩
  case round =>
    obtain ⟨k, hk, rfl, rfl, rfl⟩ := hrel
    by_cases hlt : k < L
    · obtain ⟨bb, off, b, rfl, hs0, hx, hcell⟩ := hA.out.at_ hlt
      have c0 : w.cell? ⟨bb, off + k, none⟩ = some (.slice b.A b.n b.c) := by simpa using hcell 0 _ rfl
      have h1 := catL_take hx
      have h2 := catL_le bs (k + 1)
      have h3 := (hb.out b (List.mem_of_getElem? hx)).1
      rw [h1, List.length_append, h3] at h2
      have h4 : (catL (bs.take (k + 1))).length = (catL (bs.take k)).length + b.n := by rw [h1, List.length_append, h3]
      generalize hY : (catL (bs.take (k + 1))).length = Y at *
      replace hY := Lib.hid hY
      generalize (catL (bs.take k)).length = X at *
      have hki : (k : Int) < (L : Int) := by omega
      have h5 : ¬ ((X : Int) + (b.n : Int) < 0) := by omega
      have h6 : 0 ≤ (X : Int) ∧ (X : Int) ≤ 1099511627776 ∧ (b.n : Int) ≤ 1099511627776 := by omega
      replace h4 := Lib.hid h4
      clear h1 hx hcell h3
      go_wp2
      go_roundw
      case rel => exact ⟨k + 1, by omega, by go_num, by rw [hY.out, h4.out, Int.natCast_add], trivial⟩
      case measure => simp [intOf]; omega
    · obtain rfl : k = L := by omega
      rw [List.take_of_length_le (by omega)]
      go_wp2_with fail
      refine (cG.out _ _ (by omega)).mono ?_
      rintro e w1 ⟨v1, rfl, hO, hG⟩
      have hO0 : Hid (OwnB w1 w.heap.size v1 (catL (bs.take 0))) := hO
      replace hG := Lib.hid hG
      clear hO cG
      go_wp2
      go_loopw [6, 27] (fun v i wx => ∃ j : Nat, j ≤ k ∧ i = .int .i64 j ∧ Hid (OwnB wx w.heap.size v (catL (bs.take j))) ∧ Hid (Grows w wx)) (fun _ i _ => k - (intOf i).toNat)
      case atStart => exact ⟨0, by omega, rfl, hO0, hG⟩
      case round =>
        clear hO0 hG
        obtain ⟨j, hj, rfl, hO, hG⟩ := hrel
        by_cases hjl : j < k
        · obtain ⟨bb, off, b, rfl, hs0, hx, hcell⟩ := (hA.out.keep hG.out).at_ hjl
          have c0 : wr.cell? ⟨bb, off + j, none⟩ = some (.slice b.A b.n b.c) := by simpa using hcell 0 _ rfl
          have h1 := catL_take hx
          have h2 := catL_le bs (j + 1)
          have hbA := (hb.out b (List.mem_of_getElem? hx)).keep hG.out
          have h3 := hbA.1
          rw [h1, List.length_append, h3] at h2
          have hki : (j : Int) < (k : Int) := by omega
          replace h1 := Lib.hid h1
          replace hbA := Lib.hid hbA
          clear hx hcell h3
          go_wp2_with (at_builtin; (refine wpList_appB rfl (.tmp 31) (.tmp 32) rfl rfl rfl hO.out hbA.out hG.out.size (by omega) ?_; intro v2 w2 hO2 hby2; (have hG2 := Lib.hid (hG.out.by_row hby2 hO.out.block_ge)); (replace hO2 := Lib.hid hO2); clear hby2))
          go_roundw
          case rel => exact ⟨j + 1, by omega, by go_num, by rw [h1.out]; exact hO2, hG2⟩
          case measure => simp [intOf]; omega
        · obtain rfl : j = k := by omega
          have hO3 := hO.out
          rw [List.take_of_length_le (by omega)] at hO3
          go_wp2
          go_ret
          exact ⟨_, rfl, hO3, hG.out⟩
end Go.Proofs.YtfoffneipdkdjaaGreatDoor
namespace Go.Proofs.YtfoffneipdkdjaaGreatDoor
open Go.RowKit

set_option maxRecDepth 100000 in
set_option maxHeartbeats 1600000 in
theorem of_any {A : Option Addr} {m c : Nat} {bs : List Nat} (w : World) (hA : Arr w 1 encB A m bs) (hb : ∀ x ∈ bs, x < 256) (hm : m ≤ 1099511627776) :
    Calls Tryz.prog 64 #[.slice A m c] w fun e w' => e = .returned (.agg (u8s (sha bs))) ∧ Grows w w' := by
  have hml := hA.1
  have cN := fun W => newSum_any W
  replace cN := Lib.hid cN
  replace hA := Lib.hid hA
  replace hb := Lib.hid hb
  go_enter Tryz.func64, Tryz.ntmps64
  go_wp2_with fail
  refine named_alloc (Pr := fun W => Calls _ _ _ W _) (fun w1 hB2 hG1 => ?_)
  replace hB2 : Blk w1 w.heap.size 83 (u8s (List.replicate 32 0)) := hB2.cast (by kernel_rfl)
  obtain ⟨g2, hg2⟩ : ∃ g2, g2 = w.heap.size := ⟨_, rfl⟩
  rw [← hg2] at hB2 ⊢
  replace hg2 := Lib.hid hg2
  refine (cN.out _).mono ?_
  rintro e w2 ⟨g, rfl, hgs, hS, hG2⟩
  have hG := hG1.trans hG2
  have hlt2 := hB2.lt
  have hwg : w.heap.size ≤ g := Nat.le_trans hG1.size hgs
  have hAp : BytesApart w2 g A m bs := by
    refine ⟨hA.out.keep hG, fun ad e hn => ?_⟩
    obtain ⟨b, off, e2, hlt, _⟩ := hA.out.2 hn
    rw [e] at e2
    cases e2
    simp only
    omega
  have cAdd := add_any (W0 := w1) (v := startV) (xs := []) (ys := bs) (c := c) startV_ok w2 hG2 hgs hS (Own.nil_ _ _ _ _ _) hAp hb.out (by simpa using hm) (by omega) (by omega)
  simp only [List.nil_append] at cAdd
  replace cAdd := Lib.hid cAdd
  replace hB2 := Lib.hid hB2
  replace hG1 := Lib.hid hG1
  clear hS hG2 hG hAp hgs hA
  go_wp2_with fail
  refine (cAdd.out).mono ?_
  rintro e w3 ⟨n, A3, c3, rfl, hn1, hn2, hS3, hB3, -, -, hG3⟩
  clear cAdd
  have hfin := shaV_rest (l := bs) (r := bs.drop (64 * n)) (m := n) (by rw [List.length_drop]; omega) rfl
  have hrl : (bs.drop (64 * n)).length = bs.length - 64 * n := List.length_drop
  rw [← hrl] at hS3 hB3
  rw [show (0 : Int) + (m : Int) = ((m : Nat) : Int) by omega] at hS3
  have cNow := now_any (N := m) (blocks_ok n bs startV_ok) w3 hS3 hB3.1 (fun x hx => hb.out x (List.mem_of_mem_drop hx)) (by rw [hrl]; omega) hm
  rw [← hml, ← hfin] at cNow
  have hD : bytesV (shaV bs) = sha bs := rfl
  rw [hD] at cNow
  have hDl : (sha bs).length = 32 := bytesV_len _
  generalize hDD : sha bs = D at *
  replace hDD := Lib.hid hDD
  have hB4 := hB2.out.grows hG3
  have hG4 := hG1.out.trans hG3
  have hle2 : w.heap.size ≤ g2 := Nat.le_of_eq hg2.out.symm
  have hsz : (u8s D).size = 32 := by rw [u8s_size]; exact hDl
  have hDsz : (Tryz.prog.info? 83).map (·.size) = some (u8s D).size := by rw [hsz]; kernel_rfl
  have hold : (u8s (List.replicate 32 0)).size = (u8s D).size := by rw [hsz, u8s_size]; rfl
  have h1 := u8s_one D
  replace cNow := Lib.hid cNow
  replace hDsz := Lib.hid hDsz
  replace hold := Lib.hid hold
  replace h1 := Lib.hid h1
  replace hB4 := Lib.hid hB4
  replace hG4 := Lib.hid hG4
  clear hS3 hB3 hfin hrl hD hDl hsz hB2 hG1 hn1 hn2 hG3
  go_wp2_with fail
  refine (cNow.out).mono ?_
  rintro e w4 ⟨rfl, hG5⟩
  replace hB4 := Lib.hid (hB4.out.grows hG5)
  have hGf := (hG4.out.trans hG5).by_then (grownBy_setRow w4 g2 (u8s D)) hle2
  have hRf := setRow_heap w4 g2 _ (u8s D) _ _ hB4.out
  replace hGf := Lib.hid hGf
  replace hRf := Lib.hid hRf
  clear hG5 hG4 cNow
  go_wp2_with (refine wpList_store_row rfl 83 (.tmp 2) (.tmp 9) rfl g2 (u8s D) rfl rfl 83 _ hB4.out hDsz.out hold.out h1.out ?_)
  rw [hDD.out]
  exact bodyPost_ret (v := .agg (u8s D)) (results_cell_row (p := 2) (ty := 83) (by kernel_rfl) _ _ g2 83 (u8s D) (0, 0) _ rfl hRf.out Tryz.underlying83 rfl hDsz.out) rfl ⟨rfl, hGf.out⟩
theorem short_any {A : Option Addr} {m c : Nat} {bs : List Nat} (w : World) (hA : Arr w 1 encB A m bs) (hb : ∀ x ∈ bs, x < 256) (hm : m ≤ 1099511627776) :
    Calls Tryz.prog 31 #[.slice A m c] w fun e w' => e = .returned (.int .u64 ((shortTo (sha bs) 8 : Nat) : Int)) ∧ Grows w w' := by
  refine short_of w (of_any w hA hb hm) (bytesV_len _) (fun x hx => ?_)
  unfold sha bytesV at hx
  simp only [List.mem_flatMap] at hx
  obtain ⟨y, _, hy⟩ := hx
  simp only [List.mem_cons, List.not_mem_nil, or_false] at hy
  rcases hy with rfl | rfl | rfl | rfl <;> exact Nat.mod_lt _ (by decide)
end Go.Proofs.YtfoffneipdkdjaaGreatDoor
namespace Go.Proofs.YtfoffneipdkdjaaGreatDoor
open Go.RowKit

set_option maxRecDepth 100000 in
set_option maxHeartbeats 1600000 in
theorem rround_l1 {A : Option Addr} {c : Nat} {b : List Nat} {gw : Nat} {w w1 : World} {Q0 : Exit → Act → World → Prop} {x0 x1 x3 x4 x5 x6 x9 x10 x11 x12 x13 x14 x15 x16 x17 x18 x19 x20 x21 x22 x23 x24 x25 x26 x27 x28 x29 x30 x31 x32 x33 x34 x35 x36 x37 x38 x39 x40 x41 x42 x43 x44 x45 x46 x47 x48 x49 x50 x51 x52 x53 x54 x55 x56 x57 x58 x59 x60 x61 x62 x63 x64 x65 x66 x67 x68 x69 x70 x71 x72 x73 x74 x75 x76 x77 x78 x79 x80 x81 x82 x83 x84 x85 x86 x87 x88 x89 x90 x91 x92 x93 x94 x95 x96 x97 x98 x99 x100 x101 x102 x103 x104 x105 x106 x107 x108 x109 x110 x111 x112 x113 x114 x115 x116 x117 x118 x119 x120 x121 x122 x123 x124 x125 x126 x127 x128 x129 x130 x131 x132 x133 x134 x135 x136 x137 x138 x139 x140 x141 x142 x143 x144 x145 x146 x147 x148 x149 x150 x151 x152 x153 x154 x155 x156 x157 x158 x159 x160 x161 x162 x163 x164 x165 x166 x167 x168 x169 x170 x171 x172 x173 x174 x175 x176 x177 x178 x179 x180 x181 x182 x183 x184 x185 x186 x187 x188 x189 x190 x191 x192 x193 x194 x195 x196 x197 x198 x199 x200 x201 : Value}
    (hA : Hid (Arr w 1 encB A 64 b)) (hb : Hid (∀ x ∈ b, x < 256)) (hgw : Hid (w.heap.size ≤ gw)) (hB1 : Hid (Blk w1 gw 119 (u32s (pad64 [])))) (hG1 : Hid (Grows w w1))
    (hQ0 : ∀ c a d v w, Q0 (.panic c) (Act.put a d v) w → Q0 (.panic c) a w)
    (hexit : ∀ (u8 u9 u21 u22 u23 u24 u25 u26 u27 u28 u29 u30 u31 u32 u33 u34 u35 u36 u37 u38 u39 u40 u41 u42 u43 : Value) (wr : World), Hid (Blk wr gw 119 (u32s (pad64 (words 0 (firsts b))))) ∧ Hid (Grows w wr) → Q0 (.exit 0) ⟨(x0 :: x1 :: (.slice A 64 c) :: x3 :: x4 :: x5 :: x6 :: (.pointer (some ⟨gw, 0, none⟩)) :: u8 :: u9 :: x10 :: x11 :: x12 :: x13 :: x14 :: x15 :: x16 :: x17 :: x18 :: x19 :: x20 :: u21 :: u22 :: u23 :: u24 :: u25 :: u26 :: u27 :: u28 :: u29 :: u30 :: u31 :: u32 :: u33 :: u34 :: u35 :: u36 :: u37 :: u38 :: u39 :: u40 :: u41 :: u42 :: u43 :: x44 :: x45 :: x46 :: x47 :: x48 :: x49 :: x50 :: x51 :: x52 :: x53 :: x54 :: x55 :: x56 :: x57 :: x58 :: x59 :: x60 :: x61 :: x62 :: x63 :: x64 :: x65 :: x66 :: x67 :: x68 :: x69 :: x70 :: x71 :: x72 :: x73 :: x74 :: x75 :: x76 :: x77 :: x78 :: x79 :: x80 :: x81 :: x82 :: x83 :: x84 :: x85 :: x86 :: x87 :: x88 :: x89 :: x90 :: x91 :: x92 :: x93 :: x94 :: x95 :: x96 :: x97 :: x98 :: x99 :: x100 :: x101 :: x102 :: x103 :: x104 :: x105 :: x106 :: x107 :: x108 :: x109 :: x110 :: x111 :: x112 :: x113 :: x114 :: x115 :: x116 :: x117 :: x118 :: x119 :: x120 :: x121 :: x122 :: x123 :: x124 :: x125 :: x126 :: x127 :: x128 :: x129 :: x130 :: x131 :: x132 :: x133 :: x134 :: x135 :: x136 :: x137 :: x138 :: x139 :: x140 :: x141 :: x142 :: x143 :: x144 :: x145 :: x146 :: x147 :: x148 :: x149 :: x150 :: x151 :: x152 :: x153 :: x154 :: x155 :: x156 :: x157 :: x158 :: x159 :: x160 :: x161 :: x162 :: x163 :: x164 :: x165 :: x166 :: x167 :: x168 :: x169 :: x170 :: x171 :: x172 :: x173 :: x174 :: x175 :: x176 :: x177 :: x178 :: x179 :: x180 :: x181 :: x182 :: x183 :: x184 :: x185 :: x186 :: x187 :: x188 :: x189 :: x190 :: x191 :: x192 :: x193 :: x194 :: x195 :: x196 :: x197 :: x198 :: x199 :: x200 :: x201 :: []).toArray, []⟩ wr) :
    Code.wp Tryz.prog (loopAt Tryz.f67 0) Q0 ⟨(x0 :: x1 :: (.slice A 64 c) :: x3 :: x4 :: x5 :: x6 :: (.pointer (some ⟨gw, 0, none⟩)) :: (.int .i64 0) :: x9 :: x10 :: x11 :: x12 :: x13 :: x14 :: x15 :: x16 :: x17 :: x18 :: x19 :: x20 :: x21 :: x22 :: x23 :: x24 :: x25 :: x26 :: x27 :: x28 :: x29 :: x30 :: x31 :: x32 :: x33 :: x34 :: x35 :: x36 :: x37 :: x38 :: x39 :: x40 :: x41 :: x42 :: x43 :: x44 :: x45 :: x46 :: x47 :: x48 :: x49 :: x50 :: x51 :: x52 :: x53 :: x54 :: x55 :: x56 :: x57 :: x58 :: x59 :: x60 :: x61 :: x62 :: x63 :: x64 :: x65 :: x66 :: x67 :: x68 :: x69 :: x70 :: x71 :: x72 :: x73 :: x74 :: x75 :: x76 :: x77 :: x78 :: x79 :: x80 :: x81 :: x82 :: x83 :: x84 :: x85 :: x86 :: x87 :: x88 :: x89 :: x90 :: x91 :: x92 :: x93 :: x94 :: x95 :: x96 :: x97 :: x98 :: x99 :: x100 :: x101 :: x102 :: x103 :: x104 :: x105 :: x106 :: x107 :: x108 :: x109 :: x110 :: x111 :: x112 :: x113 :: x114 :: x115 :: x116 :: x117 :: x118 :: x119 :: x120 :: x121 :: x122 :: x123 :: x124 :: x125 :: x126 :: x127 :: x128 :: x129 :: x130 :: x131 :: x132 :: x133 :: x134 :: x135 :: x136 :: x137 :: x138 :: x139 :: x140 :: x141 :: x142 :: x143 :: x144 :: x145 :: x146 :: x147 :: x148 :: x149 :: x150 :: x151 :: x152 :: x153 :: x154 :: x155 :: x156 :: x157 :: x158 :: x159 :: x160 :: x161 :: x162 :: x163 :: x164 :: x165 :: x166 :: x167 :: x168 :: x169 :: x170 :: x171 :: x172 :: x173 :: x174 :: x175 :: x176 :: x177 :: x178 :: x179 :: x180 :: x181 :: x182 :: x183 :: x184 :: x185 :: x186 :: x187 :: x188 :: x189 :: x190 :: x191 :: x192 :: x193 :: x194 :: x195 :: x196 :: x197 :: x198 :: x199 :: x200 :: x201 :: []).toArray, []⟩ w1 := by
  conv => arg 2; whnf
  go_loopw [8] (fun i wr => ∃ k : Nat, k ≤ 16 ∧ i = .int .i64 k ∧ Hid (Blk wr gw 119 (u32s (pad64 ((firsts b).take k)))) ∧ Hid (Grows w wr)) (fun i _ => 16 - (intOf i).toNat)
  case atStart => exact ⟨0, by omega, rfl, hB1, hG1⟩
  case round =>
    obtain ⟨k, hk, rfl, hB, hG⟩ := hrel
    by_cases hlt : k < 16
    · have hl : ((firsts b).take k).length = k := take_len (by omega)
      have hset := pad64_set (l := (firsts b).take k) (be4 b k) (by omega)
      rw [hl, ← firsts_take b hlt] at hset
      have hB0 : Hid (Blk wr gw 119 (u32s ((pad64 ((firsts b).take k)).set k (beN b k 0)))) := by
        have := set_back (l := (firsts b).take k) (by omega)
        rw [hl] at this
        rw [beN_zero, this]
        exact hB
      have hpl : (pad64 ((firsts b).take k)).length = 64 := pad64_len (by omega)
      clear hB hl
      generalize pad64 ((firsts b).take k) = PL at *
      replace hset := Lib.hid hset
      have hk16 : (k : Int) < 16 := by omega
      go_wp2
      go_loopw [9] (fun i wx => ∃ j : Nat, j ≤ 4 ∧ i = .int .i64 j ∧ Hid (Blk wx gw 119 (u32s (PL.set k (beN b k j)))) ∧ Hid (Grows w wx)) (fun i _ => 4 - (intOf i).toNat)
      case atStart => exact ⟨0, by omega, rfl, hB0, hG⟩
      case round =>
        clear hB0 hG
        obtain ⟨j, hj, rfl, hB, hG⟩ := hrel
        by_cases hjt : j < 4
        · obtain ⟨bb, off, x0, rfl, hs0, hx0, hc0⟩ := ((hA.out).keep hG.out).at_ (i := 4 * k + j) (by omega)
          have c0 : wr.cell? ⟨bb, off + (4 * k + j), none⟩ = some (.int .u8 x0) := by simpa using hc0 0 _ rfl
          have hxl := hb.out x0 (List.mem_of_getElem? hx0)
          have hbs := beN_succ b k j
          have hbl := beN_lt hb.out k (j + 1)
          have hx1 : b.getD (4 * k + j) 0 = x0 := by rw [List.getD_eq_getElem?_getD, hx0]; rfl
          rw [hx1] at hbs
          have h256 : 256 ^ (j + 1) ≤ 256 ^ 4 := Nat.pow_le_pow_right (by decide) (by omega)
          rw [show (256 : Nat) ^ 4 = 4294967296 from by decide] at h256
          have s0 : wr.cell? ⟨gw, k, none⟩ = some (.int .u32 ((beN b k j : Nat) : Int)) := by
            have := (hB.out.cell k).trans (u32s_at (by rw [List.length_set]; omega))
            rw [List.getD_eq_getElem?_getD, List.getElem?_set_self (by omega)] at this
            exact this
          have f0 := hB.out.frozen k
          have z0 := hB.out.lt
          have hset2 : ∀ y : Nat, (u32s (PL.set k (beN b k j))).setIfInBounds k (.int .u32 (y : Int)) = u32s (PL.set k y) := fun y => by
            rw [u32s_set, List.set_set]
          have hval : (((beN b k j : Nat) : Int) * 256 + ((x0 : Nat) : Int) % 4294967296) % 4294967296 = ((beN b k (j + 1) : Nat) : Int) := by
            rw [hbs] at hbl ⊢
            omega
          have hval2 : (((beN b k j : Nat) : Int) * 256 + ((x0 : Nat) : Int)) % 4294967296 = ((beN b k (j + 1) : Nat) : Int) := by
            rw [hbs] at hbl ⊢
            omega
          have hval3 : ((beN b k j : Nat) : Int) * 256 % 4294967296 + ((x0 : Nat) : Int) = ((beN b k (j + 1) : Nat) : Int) := by
            rw [hbs] at hbl ⊢
            omega
          clear hbs hbl h256 hx1 hx0 hc0
          generalize hY : beN b k (j + 1) = Y at *
          replace hY := Lib.hid hY
          generalize beN b k j = X at *
          have hx5 : 0 ≤ (x0 : Int) ∧ (x0 : Int) ≤ 255 := by omega
          clear hxl
          replace hset2 := Lib.hid hset2
          go_wp2_with fail
          refine wp_region_k (by kernel_rfl) ?_
          refine wpAnyK_run (l' := #[true, true, true, true, true, true, true, true, true, true, true, true, true, true, true, false]) [0, 1, 2, 3, 4, 5, 6, 7, 8, 9, 10, 11, 12, 13, 14] 1 up_grows (by kernel_rfl) (by intro c a d v w h; first | (cases d <;> exact h) | exact hQ0 _ _ _ _ _ h) rfl (by kernel_rfl) (by kernel_rfl) ?_
          iterate 15 (refine wpMixC_q rfl (fun K hK => ?_); go_simp; (try go_bits); first | (refine hK.out _ ?_; clear hK K) | (apply Exists.intro; refine ⟨fun wq hsq => ?_, hK.out _ ?_⟩; (first | (go_simp; done) | ((try go_simp); (try simp only [↓IntWalk.iteOmega]); (try go_bits); rfl) | (obtain ⟨hcq, hfq⟩ := bcells hsq; go_simp; done) | (obtain ⟨hcq, hfq⟩ := bcells hsq; (try go_simp); (try simp only [↓IntWalk.iteOmega]); (try go_bits); rfl)); clear hK K))
          refine wpMixC_nil ?_
          refine wpAnyK_last (i := 15) rfl (by kernel_rfl) (by kernel_rfl) (fun wN hN hS K' hK => ?_)
          clear hS
          have s1 := hN.cell s0
          have f1 : wN.frozen? ⟨gw, k, none⟩ = false := ((bcells hN).2 _ _ z0).trans f0
          have hB2 := (hB.out.grows hN).set_ k (.int .u32 (Y : Int))
          have hG2 := (hG.out.trans hN).setCell (p := ⟨gw, k, none⟩) hgw.out (.int .u32 (Y : Int))
          rw [hset2.out] at hB2
          replace hB2 := Lib.hid hB2
          replace hG2 := Lib.hid hG2
          go_simp
          refine hK.out _ _ ?_
          clear hK s1 f1 hN hB hG s0 f0 z0 c0
          generalize wN.setCell ⟨gw, k, none⟩ (.int .u32 (Y : Int)) = w2 at *
          go_wp2
          go_roundw
          case rel => exact ⟨j + 1, by omega, by go_num, by rw [hY.out]; exact hB2, hG2⟩
          case measure => simp [intOf]; omega
        · obtain rfl : j = 4 := by omega
          have hB4 := hB.out
          rw [beN_four, hset.out] at hB4
          replace hB4 := Lib.hid hB4
          go_wp2
          go_roundw
          case rel => exact ⟨k + 1, by omega, by go_num, hB4, hG⟩
          case measure => simp [intOf]; omega
    · obtain rfl : k = 16 := by omega
      have hB' : Hid (Blk wr gw 119 (u32s (pad64 (words 0 (firsts b))))) := by
        have := hB.out
        rw [List.take_of_length_le (Nat.le_of_eq (firsts_len b))] at this
        exact this
      clear hB
      go_wp2
      exact ⟨hB', hG⟩
end Go.Proofs.YtfoffneipdkdjaaGreatDoor
namespace Go.Proofs.YtfoffneipdkdjaaGreatDoor
open Go.RowKit

set_option maxRecDepth 100000 in
set_option maxHeartbeats 1600000 in
theorem rround_l2 {b : List Nat} {gw : Nat} {w w3 : World} {Q0 : Exit → Act → World → Prop} {x0 x1 x2 x3 x4 x5 x6 x8 x9 x11 x12 x13 x14 x15 x16 x17 x18 x19 x20 x21 x22 x23 x24 x25 x26 x27 x28 x29 x30 x31 x32 x33 x34 x35 x36 x37 x38 x39 x40 x41 x42 x43 x44 x45 x46 x47 x48 x49 x50 x51 x52 x53 x54 x55 x56 x57 x58 x59 x60 x61 x62 x63 x64 x65 x66 x67 x68 x69 x70 x71 x72 x73 x74 x75 x76 x77 x78 x79 x80 x81 x82 x83 x84 x85 x86 x87 x88 x89 x90 x91 x92 x93 x94 x95 x96 x97 x98 x99 x100 x101 x102 x103 x104 x105 x106 x107 x108 x109 x110 x111 x112 x113 x114 x115 x116 x117 x118 x119 x120 x121 x122 x123 x124 x125 x126 x127 x128 x129 x130 x131 x132 x133 x134 x135 x136 x137 x138 x139 x140 x141 x142 x143 x144 x145 x146 x147 x148 x149 x150 x151 x152 x153 x154 x155 x156 x157 x158 x159 x160 x161 x162 x163 x164 x165 x166 x167 x168 x169 x170 x171 x172 x173 x174 x175 x176 x177 x178 x179 x180 x181 x182 x183 x184 x185 x186 x187 x188 x189 x190 x191 x192 x193 x194 x195 x196 x197 x198 x199 x200 x201 : Value}
    (hb : Hid (∀ x ∈ b, x < 256)) (hgw : Hid (w.heap.size ≤ gw)) (hB' : Hid (Blk w3 gw 119 (u32s (pad64 (words 0 (firsts b)))))) (hG4 : Hid (Grows w w3))
    (hQ0 : ∀ c a d v w, Q0 (.panic c) (Act.put a d v) w → Q0 (.panic c) a w)
    (hexit : ∀ (u10 u11 u12 u44 u45 u46 u47 u48 u49 u50 u51 u52 u53 u54 u55 u56 u57 u58 u59 u60 u61 u62 u63 u64 u65 u66 u67 u68 u69 u70 u71 u72 u73 u74 u75 u76 u77 u78 u79 u80 u81 u82 u83 u84 u85 u86 u87 u88 u89 u90 u91 u92 u93 u94 u95 u96 : Value) (wr : World), Hid (Blk wr gw 119 (u32s (words 48 (firsts b)))) ∧ Hid (Grows w wr) → Q0 (.exit 4) ⟨(x0 :: x1 :: x2 :: x3 :: x4 :: x5 :: x6 :: (.pointer (some ⟨gw, 0, none⟩)) :: x8 :: x9 :: u10 :: u11 :: u12 :: x13 :: x14 :: x15 :: x16 :: x17 :: x18 :: x19 :: x20 :: x21 :: x22 :: x23 :: x24 :: x25 :: x26 :: x27 :: x28 :: x29 :: x30 :: x31 :: x32 :: x33 :: x34 :: x35 :: x36 :: x37 :: x38 :: x39 :: x40 :: x41 :: x42 :: x43 :: u44 :: u45 :: u46 :: u47 :: u48 :: u49 :: u50 :: u51 :: u52 :: u53 :: u54 :: u55 :: u56 :: u57 :: u58 :: u59 :: u60 :: u61 :: u62 :: u63 :: u64 :: u65 :: u66 :: u67 :: u68 :: u69 :: u70 :: u71 :: u72 :: u73 :: u74 :: u75 :: u76 :: u77 :: u78 :: u79 :: u80 :: u81 :: u82 :: u83 :: u84 :: u85 :: u86 :: u87 :: u88 :: u89 :: u90 :: u91 :: u92 :: u93 :: u94 :: u95 :: u96 :: x97 :: x98 :: x99 :: x100 :: x101 :: x102 :: x103 :: x104 :: x105 :: x106 :: x107 :: x108 :: x109 :: x110 :: x111 :: x112 :: x113 :: x114 :: x115 :: x116 :: x117 :: x118 :: x119 :: x120 :: x121 :: x122 :: x123 :: x124 :: x125 :: x126 :: x127 :: x128 :: x129 :: x130 :: x131 :: x132 :: x133 :: x134 :: x135 :: x136 :: x137 :: x138 :: x139 :: x140 :: x141 :: x142 :: x143 :: x144 :: x145 :: x146 :: x147 :: x148 :: x149 :: x150 :: x151 :: x152 :: x153 :: x154 :: x155 :: x156 :: x157 :: x158 :: x159 :: x160 :: x161 :: x162 :: x163 :: x164 :: x165 :: x166 :: x167 :: x168 :: x169 :: x170 :: x171 :: x172 :: x173 :: x174 :: x175 :: x176 :: x177 :: x178 :: x179 :: x180 :: x181 :: x182 :: x183 :: x184 :: x185 :: x186 :: x187 :: x188 :: x189 :: x190 :: x191 :: x192 :: x193 :: x194 :: x195 :: x196 :: x197 :: x198 :: x199 :: x200 :: x201 :: []).toArray, []⟩ wr) :
    Code.wp Tryz.prog (loopAt Tryz.f67 1) Q0 ⟨(x0 :: x1 :: x2 :: x3 :: x4 :: x5 :: x6 :: (.pointer (some ⟨gw, 0, none⟩)) :: x8 :: x9 :: (.int .i64 16) :: x11 :: x12 :: x13 :: x14 :: x15 :: x16 :: x17 :: x18 :: x19 :: x20 :: x21 :: x22 :: x23 :: x24 :: x25 :: x26 :: x27 :: x28 :: x29 :: x30 :: x31 :: x32 :: x33 :: x34 :: x35 :: x36 :: x37 :: x38 :: x39 :: x40 :: x41 :: x42 :: x43 :: x44 :: x45 :: x46 :: x47 :: x48 :: x49 :: x50 :: x51 :: x52 :: x53 :: x54 :: x55 :: x56 :: x57 :: x58 :: x59 :: x60 :: x61 :: x62 :: x63 :: x64 :: x65 :: x66 :: x67 :: x68 :: x69 :: x70 :: x71 :: x72 :: x73 :: x74 :: x75 :: x76 :: x77 :: x78 :: x79 :: x80 :: x81 :: x82 :: x83 :: x84 :: x85 :: x86 :: x87 :: x88 :: x89 :: x90 :: x91 :: x92 :: x93 :: x94 :: x95 :: x96 :: x97 :: x98 :: x99 :: x100 :: x101 :: x102 :: x103 :: x104 :: x105 :: x106 :: x107 :: x108 :: x109 :: x110 :: x111 :: x112 :: x113 :: x114 :: x115 :: x116 :: x117 :: x118 :: x119 :: x120 :: x121 :: x122 :: x123 :: x124 :: x125 :: x126 :: x127 :: x128 :: x129 :: x130 :: x131 :: x132 :: x133 :: x134 :: x135 :: x136 :: x137 :: x138 :: x139 :: x140 :: x141 :: x142 :: x143 :: x144 :: x145 :: x146 :: x147 :: x148 :: x149 :: x150 :: x151 :: x152 :: x153 :: x154 :: x155 :: x156 :: x157 :: x158 :: x159 :: x160 :: x161 :: x162 :: x163 :: x164 :: x165 :: x166 :: x167 :: x168 :: x169 :: x170 :: x171 :: x172 :: x173 :: x174 :: x175 :: x176 :: x177 :: x178 :: x179 :: x180 :: x181 :: x182 :: x183 :: x184 :: x185 :: x186 :: x187 :: x188 :: x189 :: x190 :: x191 :: x192 :: x193 :: x194 :: x195 :: x196 :: x197 :: x198 :: x199 :: x200 :: x201 :: []).toArray, []⟩ w3 := by
  conv => arg 2; whnf
  go_loopw [10] (fun i wr => ∃ m : Nat, 16 ≤ m ∧ m ≤ 64 ∧ i = .int .i64 m ∧ Hid (Blk wr gw 119 (u32s (pad64 (words (m - 16) (firsts b))))) ∧ Hid (Grows w wr)) (fun i _ => 64 - (intOf i).toNat)
  case atStart => exact ⟨16, by omega, by omega, rfl, hB', hG4⟩
  case round =>
    clear hB' hG4
    obtain ⟨m, hm1, hm2, rfl, hB, hG⟩ := hrel
    by_cases hlt : m < 64
    · have hlen : (words (m - 16) (firsts b)).length = m := by rw [words_len, firsts_len]; omega
      have hWd := words_Wd hb.out (m - 16)
      have hat : ∀ j, j < m → wr.cell? ⟨gw, j, none⟩ = some (.int .u32 (((words (m - 16) (firsts b)).getD j 0 : Nat) : Int)) := fun j hj => by
        have := (hB.out.cell j).trans (u32s_at (by rw [pad64_len (by omega)]; omega))
        rw [pad64_at (by omega)] at this
        exact this
      have c0 := hat (m - 16) (by omega)
      have c1 := hat (m - 15) (by omega)
      have c2 := hat (m - 7) (by omega)
      have c3 := hat (m - 2) (by omega)
      have hq := hWd (m - 15)
      have hs := hWd (m - 2)
      have hN1 := words_next (n := m - 16) (b := b)
      rw [show m - 16 + 1 = m - 15 by omega, show m - 16 + 9 = m - 7 by omega, show m - 16 + 14 = m - 2 by omega] at hN1
      unfold wordOf at hN1
      have s0 : wr.cell? ⟨gw, m, none⟩ = some (.int .u32 0) := by
        have h1 := pad64_next (l := words (m - 16) (firsts b)) (by omega)
        have := (hB.out.cell m).trans (u32s_at (by rw [pad64_len (by omega)]; omega))
        rw [hlen] at h1
        rw [h1] at this
        exact this
      have f0 := hB.out.frozen m
      have z0 := hB.out.lt
      clear hWd hat
      generalize (words (m - 16) (firsts b)).getD (m - 16) 0 = p at *
      generalize (words (m - 16) (firsts b)).getD (m - 15) 0 = q at *
      generalize (words (m - 16) (firsts b)).getD (m - 7) 0 = r at *
      generalize (words (m - 16) (firsts b)).getD (m - 2) 0 = s at *
      have hx1 : bits .xor .u32 ((rotr q 7 : Nat) : Int) ((rotr q 18 : Nat) : Int) = ((rotr q 7 ^^^ rotr q 18 : Nat) : Int) := xor32 (rotr_lt hq) (rotr_lt hq)
      have hx2 : bits .xor .u32 ((rotr q 7 ^^^ rotr q 18 : Nat) : Int) ((q : Int) / 8) = ((sigS 7 18 3 q : Nat) : Int) := by
        have e : (q : Int) / (8 : Int) = ((q >>> 3 : Nat) : Int) := by
          rw [Nat.shiftRight_eq_div_pow]
          exact (Int.natCast_ediv q (2 ^ 3)).symm
        rw [e]
        exact xor32 (xor_lt (rotr_lt hq) (rotr_lt hq)) (Wd.of (Nat.lt_of_le_of_lt (Nat.shiftRight_le _ _) hq.lt))
      have hy1 : bits .xor .u32 ((rotr s 17 : Nat) : Int) ((rotr s 19 : Nat) : Int) = ((rotr s 17 ^^^ rotr s 19 : Nat) : Int) := xor32 (rotr_lt hs) (rotr_lt hs)
      have hy2 : bits .xor .u32 ((rotr s 17 ^^^ rotr s 19 : Nat) : Int) ((s : Int) / 1024) = ((sigS 17 19 10 s : Nat) : Int) := by
        have e : (s : Int) / (1024 : Int) = ((s >>> 10 : Nat) : Int) := by
          rw [Nat.shiftRight_eq_div_pow]
          exact (Int.natCast_ediv s (2 ^ 10)).symm
        rw [e]
        exact xor32 (xor_lt (rotr_lt hs) (rotr_lt hs)) (Wd.of (Nat.lt_of_le_of_lt (Nat.shiftRight_le _ _) hs.lt))
      have cA := fun W => refTurn_any 7 hq (by decide) W
      have cB := fun W => refTurn_any 18 hq (by decide) W
      have cC := fun W => refTurn_any 17 hs (by decide) W
      have cD := fun W => refTurn_any 19 hs (by decide) W
      have hqi : 0 ≤ (q : Int) ∧ (q : Int) ≤ 4294967295 := by have := hq.lt; omega
      have hsi : 0 ≤ (s : Int) ∧ (s : Int) ≤ 4294967295 := by have := hs.lt; omega
      clear hq hs
      generalize sigS 7 18 3 q = L at *
      generalize sigS 17 19 10 s = H at *
      generalize rotr q 7 ^^^ rotr q 18 = R78 at *
      generalize rotr s 17 ^^^ rotr s 19 = R79 at *
      generalize rotr q 7 = R7 at *
      generalize rotr q 18 = R18 at *
      generalize rotr s 17 = R17 at *
      generalize rotr s 19 = R19 at *
      have hw := wordOf_walk p L r H
      rw [← hN1] at hw
      generalize hX : wordNext (words (m - 16) (firsts b)) = X at *
      replace hX := Lib.hid hX
      clear hN1
      replace hlen := Lib.hid hlen
      replace cA := Lib.hid cA
      replace cB := Lib.hid cB
      replace cC := Lib.hid cC
      replace cD := Lib.hid cD
      go_wp2_with fail
      refine wp_region_k (by kernel_rfl) ?_
      refine wpAnyK_run (l' := #[true, true, true, true, true, true, true, true, true, true, true, true, true, true, true, true, true, true]) [0, 1, 2, 3, 4, 5, 6, 7, 8, 9, 10, 11, 12, 13, 14, 15, 16, 17] 0 up_grows (by kernel_rfl) (by intro c a d v w h; first | (cases d <;> exact h) | exact hQ0 _ _ _ _ _ h) rfl (by kernel_rfl) (by kernel_rfl) ?_
      iterate 4 (refine wpMixC_q rfl (fun K hK => ?_); go_simp; (try go_bits); first | (refine hK.out _ ?_; clear hK K) | (apply Exists.intro; refine ⟨fun wq hsq => ?_, hK.out _ ?_⟩; (first | (go_simp; done) | ((try go_simp); (try simp only [↓IntWalk.iteOmega]); (try go_bits); rfl) | (obtain ⟨hcq, hfq⟩ := bcells hsq; go_simp; done) | (obtain ⟨hcq, hfq⟩ := bcells hsq; (try go_simp); (try simp only [↓IntWalk.iteOmega]); (try go_bits); rfl)); clear hK K))
      refine wpMixC_c (.int .u32 (R7 : Int)) rfl (by first | rfl | (go_simp; done)) (fun wq hsq => ?_) ?_
      · obtain ⟨hcq, hfq⟩ := bcells hsq
        go_simp
        exact Calls.mono (cA.out wq) (fun e w'' h => h)
      go_simp
      iterate 4 (refine wpMixC_q rfl (fun K hK => ?_); go_simp; (try go_bits); first | (refine hK.out _ ?_; clear hK K) | (apply Exists.intro; refine ⟨fun wq hsq => ?_, hK.out _ ?_⟩; (first | (go_simp; done) | ((try go_simp); (try simp only [↓IntWalk.iteOmega]); (try go_bits); rfl) | (obtain ⟨hcq, hfq⟩ := bcells hsq; go_simp; done) | (obtain ⟨hcq, hfq⟩ := bcells hsq; (try go_simp); (try simp only [↓IntWalk.iteOmega]); (try go_bits); rfl)); clear hK K))
      refine wpMixC_c (.int .u32 (R18 : Int)) rfl (by first | rfl | (go_simp; done)) (fun wq hsq => ?_) ?_
      · obtain ⟨hcq, hfq⟩ := bcells hsq
        go_simp
        exact Calls.mono (cB.out wq) (fun e w'' h => h)
      go_simp
      iterate 8 (refine wpMixC_q rfl (fun K hK => ?_); go_simp; (try go_bits); first | (refine hK.out _ ?_; clear hK K) | (apply Exists.intro; refine ⟨fun wq hsq => ?_, hK.out _ ?_⟩; (first | (go_simp; done) | ((try go_simp); (try simp only [↓IntWalk.iteOmega]); (try go_bits); rfl) | (obtain ⟨hcq, hfq⟩ := bcells hsq; go_simp; done) | (obtain ⟨hcq, hfq⟩ := bcells hsq; (try go_simp); (try simp only [↓IntWalk.iteOmega]); (try go_bits); rfl)); clear hK K))
      refine wpMixC_nil ?_
      refine wpAnyK_end (by kernel_rfl) (fun wN hN hS => ?_)
      have d0 := hN.cell c0
      have d1 := hN.cell c1
      have d2 := hN.cell c2
      have d3 := hN.cell c3
      replace s0 := hN.cell s0
      replace f0 := ((bcells hN).2 _ _ z0).trans f0
      replace z0 := Nat.lt_of_lt_of_le z0 hN.size
      replace hB := Lib.hid (hB.out.grows hN)
      replace hG := Lib.hid (hG.out.trans hN)
      clear hN hS c0 c1 c2 c3
      clear wr
      go_wp2_with fail
      refine wp_region_k (by kernel_rfl) ?_
      refine wpAnyK_run (l' := #[true, true, true, true, true, true, true, true, true, true, true, true, true, true, true, true, true, true]) [0, 1, 2, 3, 4, 5, 6, 7, 8, 9, 10, 11, 12, 13, 14, 15, 16, 17] 0 up_grows (by kernel_rfl) (by intro c a d v w h; first | (cases d <;> exact h) | exact hQ0 _ _ _ _ _ h) rfl (by kernel_rfl) (by kernel_rfl) ?_
      iterate 4 (refine wpMixC_q rfl (fun K hK => ?_); go_simp; (try go_bits); first | (refine hK.out _ ?_; clear hK K) | (apply Exists.intro; refine ⟨fun wq hsq => ?_, hK.out _ ?_⟩; (first | (go_simp; done) | ((try go_simp); (try simp only [↓IntWalk.iteOmega]); (try go_bits); rfl) | (obtain ⟨hcq, hfq⟩ := bcells hsq; go_simp; done) | (obtain ⟨hcq, hfq⟩ := bcells hsq; (try go_simp); (try simp only [↓IntWalk.iteOmega]); (try go_bits); rfl)); clear hK K))
      refine wpMixC_c (.int .u32 (R17 : Int)) rfl (by first | rfl | (go_simp; done)) (fun wq hsq => ?_) ?_
      · obtain ⟨hcq, hfq⟩ := bcells hsq
        go_simp
        exact Calls.mono (cC.out wq) (fun e w'' h => h)
      go_simp
      iterate 4 (refine wpMixC_q rfl (fun K hK => ?_); go_simp; (try go_bits); first | (refine hK.out _ ?_; clear hK K) | (apply Exists.intro; refine ⟨fun wq hsq => ?_, hK.out _ ?_⟩; (first | (go_simp; done) | ((try go_simp); (try simp only [↓IntWalk.iteOmega]); (try go_bits); rfl) | (obtain ⟨hcq, hfq⟩ := bcells hsq; go_simp; done) | (obtain ⟨hcq, hfq⟩ := bcells hsq; (try go_simp); (try simp only [↓IntWalk.iteOmega]); (try go_bits); rfl)); clear hK K))
      refine wpMixC_c (.int .u32 (R19 : Int)) rfl (by first | rfl | (go_simp; done)) (fun wq hsq => ?_) ?_
      · obtain ⟨hcq, hfq⟩ := bcells hsq
        go_simp
        exact Calls.mono (cD.out wq) (fun e w'' h => h)
      go_simp
      iterate 8 (refine wpMixC_q rfl (fun K hK => ?_); go_simp; (try go_bits); first | (refine hK.out _ ?_; clear hK K) | (apply Exists.intro; refine ⟨fun wq hsq => ?_, hK.out _ ?_⟩; (first | (go_simp; done) | ((try go_simp); (try simp only [↓IntWalk.iteOmega]); (try go_bits); rfl) | (obtain ⟨hcq, hfq⟩ := bcells hsq; go_simp; done) | (obtain ⟨hcq, hfq⟩ := bcells hsq; (try go_simp); (try simp only [↓IntWalk.iteOmega]); (try go_bits); rfl)); clear hK K))
      refine wpMixC_nil ?_
      refine wpAnyK_end (by kernel_rfl) (fun wN hN hS => ?_)
      replace d0 := hN.cell d0
      replace d1 := hN.cell d1
      replace d2 := hN.cell d2
      replace d3 := hN.cell d3
      replace s0 := hN.cell s0
      replace f0 := ((bcells hN).2 _ _ z0).trans f0
      replace z0 := Nat.lt_of_lt_of_le z0 hN.size
      replace hB := Lib.hid (hB.out.grows hN)
      replace hG := Lib.hid (hG.out.trans hN)
      clear hN hS
      go_wp2_with fail
      refine wp_region_k (by kernel_rfl) ?_
      refine wpAnyK_run (l' := #[true, true, true, true, true, true, true, true, true, true, true, true, true, true, true, false]) [0, 1, 2, 3, 4, 5, 6, 7, 8, 9, 10, 11, 12, 13, 14] 1 up_grows (by kernel_rfl) (by intro c a d v w h; first | (cases d <;> exact h) | exact hQ0 _ _ _ _ _ h) rfl (by kernel_rfl) (by kernel_rfl) ?_
      iterate 15 (refine wpMixC_q rfl (fun K hK => ?_); go_simp; (try go_bits); first | (refine hK.out _ ?_; clear hK K) | (apply Exists.intro; refine ⟨fun wq hsq => ?_, hK.out _ ?_⟩; (first | (go_simp; done) | ((try go_simp); (try simp only [↓IntWalk.iteOmega]); (try go_bits); rfl) | (obtain ⟨hcq, hfq⟩ := bcells hsq; go_simp; done) | (obtain ⟨hcq, hfq⟩ := bcells hsq; (try go_simp); (try simp only [↓IntWalk.iteOmega]); (try go_bits); rfl)); clear hK K))
      refine wpMixC_nil ?_
      refine wpAnyK_last (i := 15) rfl (by kernel_rfl) (by kernel_rfl) (fun wN hN hS K' hK => ?_)
      clear hS
      have s1 := hN.cell s0
      have f1 : wN.frozen? ⟨gw, m, none⟩ = false := ((bcells hN).2 _ _ z0).trans f0
      have hB2 := (hB.out.grows hN).set_ m (.int .u32 (X : Int))
      have hG2 := (hG.out.trans hN).setCell (p := ⟨gw, m, none⟩) hgw.out (.int .u32 (X : Int))
      replace hB2 := Lib.hid hB2
      replace hG2 := Lib.hid hG2
      go_simp
      refine hK.out _ _ ?_
      clear hK s1 f1 hN hB hG s0 f0 z0 d0 d1 d2 d3
      generalize wN.setCell ⟨gw, m, none⟩ (.int .u32 (X : Int)) = w2 at *
      go_wp2
      go_roundw
      case rel => exact ⟨m + 1, by omega, by omega, by go_num, by
        have := hB2.out
        rw [u32s_set] at this
        have h2 := pad64_set (l := words (m - 16) (firsts b)) X (by rw [hlen.out]; omega)
        rw [hlen.out, ← hX.out, ← words_succ] at h2
        rw [← hX.out, h2] at this
        rw [show m + 1 - 16 = m - 16 + 1 by omega]
        exact this, hG2⟩
      case measure => simp [intOf]; omega
    · obtain rfl : m = 64 := by omega
      have hB' : Hid (Blk wr gw 119 (u32s (words 48 (firsts b)))) := by
        have := hB.out
        rw [pad64_full (by rw [words_len, firsts_len])] at this
        exact this
      clear hB
      go_wp2
      exact ⟨hB', hG⟩
end Go.Proofs.YtfoffneipdkdjaaGreatDoor
namespace Go.Proofs.YtfoffneipdkdjaaGreatDoor
open Go.RowKit

theorem ch_walk2 {e f g : Nat} (he : Wd e) : bits .xor .u32 (bits .and .u32 (e : Int) (f : Int)) (bits .and .u32 ((notW e : Nat) : Int) (g : Int)) = (((e &&& f) ^^^ (notW e &&& g) : Nat) : Int) := by
  have hn : Wd (notW e) := Wd.of (by unfold notW; omega)
  rw [and32a he, and32a hn, xor32 (and_lt he) (and_lt hn)]
theorem grownBy_step {w w' : World} {g o : Nat} (h : w.grownBy w' (some g)) (v : Value) : w.grownBy (w'.setCell ⟨g, o, none⟩ v) (some g) := h.trans (grownBy_cell w' ⟨g, o, none⟩ v)
theorem set8 {w : World} {g : Nat} {t : TypeId} {xs : List Nat} (h : Blk w g t (u32s xs)) (hl : xs.length = 8) (a b c d e f i j : Nat) :
    Blk ((((((((w.setCell ⟨g, 0, none⟩ (.int .u32 (a : Int))).setCell ⟨g, 1, none⟩ (.int .u32 (b : Int))).setCell ⟨g, 2, none⟩ (.int .u32 (c : Int))).setCell ⟨g, 3, none⟩ (.int .u32 (d : Int))).setCell ⟨g, 4, none⟩ (.int .u32 (e : Int))).setCell ⟨g, 5, none⟩ (.int .u32 (f : Int))).setCell ⟨g, 6, none⟩ (.int .u32 (i : Int))).setCell ⟨g, 7, none⟩ (.int .u32 (j : Int))) g t (u32s [a, b, c, d, e, f, i, j]) ∧
    w.grownBy ((((((((w.setCell ⟨g, 0, none⟩ (.int .u32 (a : Int))).setCell ⟨g, 1, none⟩ (.int .u32 (b : Int))).setCell ⟨g, 2, none⟩ (.int .u32 (c : Int))).setCell ⟨g, 3, none⟩ (.int .u32 (d : Int))).setCell ⟨g, 4, none⟩ (.int .u32 (e : Int))).setCell ⟨g, 5, none⟩ (.int .u32 (f : Int))).setCell ⟨g, 6, none⟩ (.int .u32 (i : Int))).setCell ⟨g, 7, none⟩ (.int .u32 (j : Int))) (some g) := by
  refine ⟨?_, grownBy_step (grownBy_step (grownBy_step (grownBy_step (grownBy_step (grownBy_step (grownBy_step (grownBy_step ((Grows.refl w).by_ _) _) _) _) _) _) _) _) _⟩
  have h8 := (((((((h.set_ 0 (.int .u32 (a : Int))).set_ 1 (.int .u32 (b : Int))).set_ 2 (.int .u32 (c : Int))).set_ 3 (.int .u32 (d : Int))).set_ 4 (.int .u32 (e : Int))).set_ 5 (.int .u32 (f : Int))).set_ 6 (.int .u32 (i : Int))).set_ 7 (.int .u32 (j : Int))
  simp only [u32s_set] at h8
  match xs, hl with
  | [_, _, _, _, _, _, _, _], _ => exact h8
set_option maxRecDepth 100000 in
set_option maxHeartbeats 1600000 in
theorem rround_l3 {KL WL : List Nat} {RV : Nat → V8} {gk gw gv : Nat} {w w5 : World} {Q0 : Exit → Act → World → Prop} {x0 x1 x2 x3 x5 x6 x8 x9 x10 x11 x12 x15 x16 x17 x18 x19 x20 x21 x22 x23 x24 x25 x26 x27 x28 x29 x30 x31 x32 x33 x34 x35 x36 x37 x38 x39 x40 x41 x42 x43 x44 x45 x46 x47 x48 x49 x50 x51 x52 x53 x54 x55 x56 x57 x58 x59 x60 x61 x62 x63 x64 x65 x66 x67 x68 x69 x70 x71 x72 x73 x74 x75 x76 x77 x78 x79 x80 x81 x82 x83 x84 x85 x86 x87 x88 x89 x90 x91 x92 x93 x94 x95 x96 x97 x98 x99 x100 x101 x102 x103 x104 x105 x106 x107 x108 x109 x110 x111 x112 x113 x114 x115 x116 x117 x118 x119 x120 x121 x122 x123 x124 x125 x126 x127 x128 x129 x130 x131 x132 x133 x134 x135 x136 x137 x138 x139 x140 x141 x142 x143 x144 x145 x146 x147 x148 x149 x150 x151 x152 x153 x154 x155 x156 x157 x158 x159 x160 x161 x162 x163 x164 x165 x166 x167 x168 x169 x170 x171 x172 x173 x174 x175 x176 x177 x178 x179 x180 x181 x182 x183 x184 x185 x186 x187 x188 x189 x190 x191 x192 x193 x194 x195 x196 x197 x198 x199 x200 x201 : Value}
    (hKat : Hid (∀ k, k < 64 → (u32s KL)[k]? = some (.int .u32 ((KL.getD k 0 : Nat) : Int)))) (hWat : Hid (∀ k, k < 64 → (u32s WL)[k]? = some (.int .u32 ((WL.getD k 0 : Nat) : Int)))) (hrd : Hid (∀ k, RV (k + 1) = stepV (RV k) (KL.getD k 0) (WL.getD k 0))) (hok : Hid (∀ k, (RV k).ok))
    (hgv : Hid (w.heap.size ≤ gv)) (hne1 : gw ≠ gv) (hne2 : gk ≠ gv) (hB' : Hid (Blk w5 gw 119 (u32s WL))) (hKB' : Hid (Blk w5 gk 119 (u32s KL))) (hV' : Hid (Blk w5 gv 117 (u32s (eightL (RV 0))))) (hG5 : Hid (Grows w w5))
    (hQ0 : ∀ c a d v w, Q0 (.panic c) (Act.put a d v) w → Q0 (.panic c) a w)
    (hexit : ∀ (u14 u15 u16 u17 u18 u19 u98 u99 u100 u101 u102 u103 u104 u105 u106 u107 u108 u109 u110 u111 u112 u113 u114 u115 u116 u117 u118 u119 u120 u121 u122 u123 u124 u125 u126 u127 u128 u129 u130 u131 u132 u133 u134 u135 u136 u137 u138 u139 u140 u141 u142 u143 u144 u145 u146 u147 u148 u149 u150 u151 u152 u153 u154 u155 u156 u157 u158 u159 u160 u161 u162 u163 u164 u165 u166 u167 u168 u169 u170 u171 u172 u173 u174 u175 u176 u177 u178 u179 u180 u181 u182 u183 u184 u185 u186 u187 u188 : Value) (wr : World), Hid (Blk wr gv 117 (u32s (eightL (RV 64)))) ∧ Hid (Grows w wr) → Q0 (.exit 6) ⟨(x0 :: x1 :: x2 :: x3 :: (.pointer (some ⟨gk, 0, none⟩)) :: x5 :: x6 :: (.pointer (some ⟨gw, 0, none⟩)) :: x8 :: x9 :: x10 :: x11 :: x12 :: (.pointer (some ⟨gv, 0, none⟩)) :: u14 :: u15 :: u16 :: u17 :: u18 :: u19 :: x20 :: x21 :: x22 :: x23 :: x24 :: x25 :: x26 :: x27 :: x28 :: x29 :: x30 :: x31 :: x32 :: x33 :: x34 :: x35 :: x36 :: x37 :: x38 :: x39 :: x40 :: x41 :: x42 :: x43 :: x44 :: x45 :: x46 :: x47 :: x48 :: x49 :: x50 :: x51 :: x52 :: x53 :: x54 :: x55 :: x56 :: x57 :: x58 :: x59 :: x60 :: x61 :: x62 :: x63 :: x64 :: x65 :: x66 :: x67 :: x68 :: x69 :: x70 :: x71 :: x72 :: x73 :: x74 :: x75 :: x76 :: x77 :: x78 :: x79 :: x80 :: x81 :: x82 :: x83 :: x84 :: x85 :: x86 :: x87 :: x88 :: x89 :: x90 :: x91 :: x92 :: x93 :: x94 :: x95 :: x96 :: x97 :: u98 :: u99 :: u100 :: u101 :: u102 :: u103 :: u104 :: u105 :: u106 :: u107 :: u108 :: u109 :: u110 :: u111 :: u112 :: u113 :: u114 :: u115 :: u116 :: u117 :: u118 :: u119 :: u120 :: u121 :: u122 :: u123 :: u124 :: u125 :: u126 :: u127 :: u128 :: u129 :: u130 :: u131 :: u132 :: u133 :: u134 :: u135 :: u136 :: u137 :: u138 :: u139 :: u140 :: u141 :: u142 :: u143 :: u144 :: u145 :: u146 :: u147 :: u148 :: u149 :: u150 :: u151 :: u152 :: u153 :: u154 :: u155 :: u156 :: u157 :: u158 :: u159 :: u160 :: u161 :: u162 :: u163 :: u164 :: u165 :: u166 :: u167 :: u168 :: u169 :: u170 :: u171 :: u172 :: u173 :: u174 :: u175 :: u176 :: u177 :: u178 :: u179 :: u180 :: u181 :: u182 :: u183 :: u184 :: u185 :: u186 :: u187 :: u188 :: x189 :: x190 :: x191 :: x192 :: x193 :: x194 :: x195 :: x196 :: x197 :: x198 :: x199 :: x200 :: x201 :: []).toArray, []⟩ wr) :
    Code.wp Tryz.prog (loopAt Tryz.f67 2) Q0 ⟨(x0 :: x1 :: x2 :: x3 :: (.pointer (some ⟨gk, 0, none⟩)) :: x5 :: x6 :: (.pointer (some ⟨gw, 0, none⟩)) :: x8 :: x9 :: x10 :: x11 :: x12 :: (.pointer (some ⟨gv, 0, none⟩)) :: (.int .i64 0) :: x15 :: x16 :: x17 :: x18 :: x19 :: x20 :: x21 :: x22 :: x23 :: x24 :: x25 :: x26 :: x27 :: x28 :: x29 :: x30 :: x31 :: x32 :: x33 :: x34 :: x35 :: x36 :: x37 :: x38 :: x39 :: x40 :: x41 :: x42 :: x43 :: x44 :: x45 :: x46 :: x47 :: x48 :: x49 :: x50 :: x51 :: x52 :: x53 :: x54 :: x55 :: x56 :: x57 :: x58 :: x59 :: x60 :: x61 :: x62 :: x63 :: x64 :: x65 :: x66 :: x67 :: x68 :: x69 :: x70 :: x71 :: x72 :: x73 :: x74 :: x75 :: x76 :: x77 :: x78 :: x79 :: x80 :: x81 :: x82 :: x83 :: x84 :: x85 :: x86 :: x87 :: x88 :: x89 :: x90 :: x91 :: x92 :: x93 :: x94 :: x95 :: x96 :: x97 :: x98 :: x99 :: x100 :: x101 :: x102 :: x103 :: x104 :: x105 :: x106 :: x107 :: x108 :: x109 :: x110 :: x111 :: x112 :: x113 :: x114 :: x115 :: x116 :: x117 :: x118 :: x119 :: x120 :: x121 :: x122 :: x123 :: x124 :: x125 :: x126 :: x127 :: x128 :: x129 :: x130 :: x131 :: x132 :: x133 :: x134 :: x135 :: x136 :: x137 :: x138 :: x139 :: x140 :: x141 :: x142 :: x143 :: x144 :: x145 :: x146 :: x147 :: x148 :: x149 :: x150 :: x151 :: x152 :: x153 :: x154 :: x155 :: x156 :: x157 :: x158 :: x159 :: x160 :: x161 :: x162 :: x163 :: x164 :: x165 :: x166 :: x167 :: x168 :: x169 :: x170 :: x171 :: x172 :: x173 :: x174 :: x175 :: x176 :: x177 :: x178 :: x179 :: x180 :: x181 :: x182 :: x183 :: x184 :: x185 :: x186 :: x187 :: x188 :: x189 :: x190 :: x191 :: x192 :: x193 :: x194 :: x195 :: x196 :: x197 :: x198 :: x199 :: x200 :: x201 :: []).toArray, []⟩ w5 := by
  conv => arg 2; whnf
  replace hne1 := Lib.hid hne1
  replace hne2 := Lib.hid hne2
  go_loopw [14] (fun i wr => ∃ k : Nat, k ≤ 64 ∧ i = .int .i64 k ∧ Hid (Blk wr gw 119 (u32s WL)) ∧ Hid (Blk wr gk 119 (u32s KL)) ∧ Hid (Blk wr gv 117 (u32s (eightL (RV k)))) ∧ Hid (Grows w wr)) (fun i _ => 64 - (intOf i).toNat)
  case atStart => exact ⟨0, by omega, rfl, hB', hKB', hV', hG5⟩
  case round =>
    clear hB' hKB' hV' hG5
    obtain ⟨k, hk, rfl, hB, hKB, hV, hG⟩ := hrel
    by_cases hlt : k < 64
    · have hka := (hKB.out.cell k).trans (hKat.out k hlt)
      have hwa := (hB.out.cell k).trans (hWat.out k hlt)
      have hst := hrd.out k
      have hu := hok.out k
      generalize hRk : RV k = u at *
      replace hRk := Lib.hid hRk
      obtain ⟨a, b', c', d, e, f, g', z'⟩ := u
      have q0 : wr.cell? ⟨gv, 0, none⟩ = some (.int .u32 (a : Int)) := hV.out.cell 0
      have q1 : wr.cell? ⟨gv, 1, none⟩ = some (.int .u32 (b' : Int)) := hV.out.cell 1
      have q2 : wr.cell? ⟨gv, 2, none⟩ = some (.int .u32 (c' : Int)) := hV.out.cell 2
      have q3 : wr.cell? ⟨gv, 3, none⟩ = some (.int .u32 (d : Int)) := hV.out.cell 3
      have q4 : wr.cell? ⟨gv, 4, none⟩ = some (.int .u32 (e : Int)) := hV.out.cell 4
      have q5 : wr.cell? ⟨gv, 5, none⟩ = some (.int .u32 (f : Int)) := hV.out.cell 5
      have q6 : wr.cell? ⟨gv, 6, none⟩ = some (.int .u32 (g' : Int)) := hV.out.cell 6
      have q7 : wr.cell? ⟨gv, 7, none⟩ = some (.int .u32 (z' : Int)) := hV.out.cell 7
      have qz := hV.out.lt
      have kz := hKB.out.lt
      have wz := hB.out.lt
      have hE : Wd e := hu.2.2.2.2.1
      have hAd : Wd a := hu.1
      have cE1 := fun W => refTurn_any 6 hE (by decide) W
      have cE2 := fun W => refTurn_any 11 hE (by decide) W
      have cE3 := fun W => refTurn_any 25 hE (by decide) W
      have cA1 := fun W => refTurn_any 2 hAd (by decide) W
      have cA2 := fun W => refTurn_any 13 hAd (by decide) W
      have cA3 := fun W => refTurn_any 22 hAd (by decide) W
      have hx1 : bits .xor .u32 ((rotr e 6 : Nat) : Int) ((rotr e 11 : Nat) : Int) = ((rotr e 6 ^^^ rotr e 11 : Nat) : Int) := xor32 (rotr_lt hE) (rotr_lt hE)
      have hx2 : bits .xor .u32 ((rotr e 6 ^^^ rotr e 11 : Nat) : Int) ((rotr e 25 : Nat) : Int) = ((sig 6 11 25 e : Nat) : Int) := xor32 (xor_lt (rotr_lt hE) (rotr_lt hE)) (rotr_lt hE)
      have hy1 : bits .xor .u32 ((rotr a 2 : Nat) : Int) ((rotr a 13 : Nat) : Int) = ((rotr a 2 ^^^ rotr a 13 : Nat) : Int) := xor32 (rotr_lt hAd) (rotr_lt hAd)
      have hy2 : bits .xor .u32 ((rotr a 2 ^^^ rotr a 13 : Nat) : Int) ((rotr a 22 : Nat) : Int) = ((sig 2 13 22 a : Nat) : Int) := xor32 (xor_lt (rotr_lt hAd) (rotr_lt hAd)) (rotr_lt hAd)
      have hch := ch_walk2 (e := e) (f := f) (g := g') hE
      have hmj := maj_walk (a := a) (b := b') (c := c') hAd hu.2.1
      have hnt : (4294967295 - (e : Int)) % 4294967296 = ((notW e : Nat) : Int) := by have := hE.lt; unfold notW; omega
      have hnt2 : 4294967295 - (e : Int) = ((notW e : Nat) : Int) := by have := hE.lt; unfold notW; omega
      generalize WL.getD k 0 = Wk at *
      generalize KL.getD k 0 = Kk at *
      generalize hSE : sig 6 11 25 e = SE at *
      generalize hSA : sig 2 13 22 a = SA at *
      generalize rotr e 6 ^^^ rotr e 11 = E12 at *
      generalize rotr a 2 ^^^ rotr a 13 = A12 at *
      generalize rotr e 6 = E1 at *
      generalize rotr e 11 = E2 at *
      generalize rotr e 25 = E3 at *
      generalize rotr a 2 = A1 at *
      generalize rotr a 13 = A2 at *
      generalize rotr a 22 = A3 at *
      have hT : ((z' : Int) + (SE : Int) + (((e &&& f) ^^^ (notW e &&& g') : Nat) : Int) + (Kk : Int) + (Wk : Int)) % 4294967296 = ((tOf ⟨a, b', c', d, e, f, g', z'⟩ Kk Wk : Nat) : Int) := by
        unfold tOf t1
        simp only [hSE]
        omega
      have hU : uOf ⟨a, b', c', d, e, f, g', z'⟩ = (SA + ((a &&& b') ^^^ (a &&& c') ^^^ (b' &&& c'))) % 4294967296 := by
        unfold uOf
        simp only [hSA]
      unfold stepV at hst
      simp only [hU] at hst
      clear hU
      generalize tOf ⟨a, b', c', d, e, f, g', z'⟩ Kk Wk = T at *
      generalize (e &&& f) ^^^ (notW e &&& g') = CH at *
      generalize (a &&& b') ^^^ (a &&& c') ^^^ (b' &&& c') = MJ at *
      generalize notW e = NE at *
      have hA' : ((T : Int) + (SA : Int) + (MJ : Int)) % 4294967296 = (((T + (SA + MJ) % 4294967296) % 4294967296 : Nat) : Int) := by omega
      have hD : ((d : Int) + (T : Int)) % 4294967296 = (((d + T) % 4294967296 : Nat) : Int) := by omega
      generalize (T + (SA + MJ) % 4294967296) % 4294967296 = A' at *
      generalize (d + T) % 4294967296 = D' at *
      have hei : 0 ≤ (e : Int) ∧ (e : Int) ≤ 4294967295 := by have := hE.lt; omega
      clear hE hAd hu
      replace cE1 := Lib.hid cE1
      replace cE2 := Lib.hid cE2
      replace cE3 := Lib.hid cE3
      replace cA1 := Lib.hid cA1
      replace cA2 := Lib.hid cA2
      replace cA3 := Lib.hid cA3
      replace hst := Lib.hid hst
      replace hSE := Lib.hid hSE
      replace hSA := Lib.hid hSA
      go_wp2_with fail
      refine wp_region_k (by kernel_rfl) ?_
      refine wpAnyK_run (l' := #[true, true, true, true, true, true, true, true, true, true, true, true]) [0, 1, 2, 3, 4, 5, 6, 7, 8, 9, 10, 11] 0 up_grows (by kernel_rfl) (by intro c a d v w h; first | (cases d <;> exact h) | exact hQ0 _ _ _ _ _ h) rfl (by kernel_rfl) (by kernel_rfl) ?_
      iterate 2 (refine wpMixC_q rfl (fun K hK => ?_); go_simp; (try go_bits); first | (refine hK.out _ ?_; clear hK K) | (apply Exists.intro; refine ⟨fun wq hsq => ?_, hK.out _ ?_⟩; (first | (go_simp; done) | ((try go_simp); (try simp only [↓IntWalk.iteOmega]); (try go_bits); rfl) | (obtain ⟨hcq, hfq⟩ := bcells hsq; go_simp; done) | (obtain ⟨hcq, hfq⟩ := bcells hsq; (try go_simp); (try simp only [↓IntWalk.iteOmega]); (try go_bits); rfl)); clear hK K))
      refine wpMixC_c (.int .u32 (E1 : Int)) rfl (by first | rfl | (go_simp; done)) (fun wq hsq => ?_) ?_
      · obtain ⟨hcq, hfq⟩ := bcells hsq
        go_simp
        exact Calls.mono (cE1.out wq) (fun e w'' h => h)
      go_simp
      iterate 2 (refine wpMixC_q rfl (fun K hK => ?_); go_simp; (try go_bits); first | (refine hK.out _ ?_; clear hK K) | (apply Exists.intro; refine ⟨fun wq hsq => ?_, hK.out _ ?_⟩; (first | (go_simp; done) | ((try go_simp); (try simp only [↓IntWalk.iteOmega]); (try go_bits); rfl) | (obtain ⟨hcq, hfq⟩ := bcells hsq; go_simp; done) | (obtain ⟨hcq, hfq⟩ := bcells hsq; (try go_simp); (try simp only [↓IntWalk.iteOmega]); (try go_bits); rfl)); clear hK K))
      refine wpMixC_c (.int .u32 (E2 : Int)) rfl (by first | rfl | (go_simp; done)) (fun wq hsq => ?_) ?_
      · obtain ⟨hcq, hfq⟩ := bcells hsq
        go_simp
        exact Calls.mono (cE2.out wq) (fun e w'' h => h)
      go_simp
      iterate 3 (refine wpMixC_q rfl (fun K hK => ?_); go_simp; (try go_bits); first | (refine hK.out _ ?_; clear hK K) | (apply Exists.intro; refine ⟨fun wq hsq => ?_, hK.out _ ?_⟩; (first | (go_simp; done) | ((try go_simp); (try simp only [↓IntWalk.iteOmega]); (try go_bits); rfl) | (obtain ⟨hcq, hfq⟩ := bcells hsq; go_simp; done) | (obtain ⟨hcq, hfq⟩ := bcells hsq; (try go_simp); (try simp only [↓IntWalk.iteOmega]); (try go_bits); rfl)); clear hK K))
      refine wpMixC_c (.int .u32 (E3 : Int)) rfl (by first | rfl | (go_simp; done)) (fun wq hsq => ?_) ?_
      · obtain ⟨hcq, hfq⟩ := bcells hsq
        go_simp
        exact Calls.mono (cE3.out wq) (fun e w'' h => h)
      go_simp
      iterate 2 (refine wpMixC_q rfl (fun K hK => ?_); go_simp; (try go_bits); first | (refine hK.out _ ?_; clear hK K) | (apply Exists.intro; refine ⟨fun wq hsq => ?_, hK.out _ ?_⟩; (first | (go_simp; done) | ((try go_simp); (try simp only [↓IntWalk.iteOmega]); (try go_bits); rfl) | (obtain ⟨hcq, hfq⟩ := bcells hsq; go_simp; done) | (obtain ⟨hcq, hfq⟩ := bcells hsq; (try go_simp); (try simp only [↓IntWalk.iteOmega]); (try go_bits); rfl)); clear hK K))
      refine wpMixC_nil ?_
      refine wpAnyK_end (by kernel_rfl) (fun wN hN hS => ?_)
      replace hB := Lib.hid (hB.out.grows hN)
      replace hKB := Lib.hid (hKB.out.grows hN)
      replace hV := Lib.hid (hV.out.grows hN)
      replace hG := Lib.hid (hG.out.trans hN)
      replace hwa := hN.cell hwa
      replace hka := hN.cell hka
      clear hN hS q0 q1 q2 q3 q4 q5 q6 q7 qz kz wz
      have q0 : wN.cell? ⟨gv, 0, none⟩ = some (.int .u32 (a : Int)) := hV.out.cell 0
      have q1 : wN.cell? ⟨gv, 1, none⟩ = some (.int .u32 (b' : Int)) := hV.out.cell 1
      have q2 : wN.cell? ⟨gv, 2, none⟩ = some (.int .u32 (c' : Int)) := hV.out.cell 2
      have q3 : wN.cell? ⟨gv, 3, none⟩ = some (.int .u32 (d : Int)) := hV.out.cell 3
      have q4 : wN.cell? ⟨gv, 4, none⟩ = some (.int .u32 (e : Int)) := hV.out.cell 4
      have q5 : wN.cell? ⟨gv, 5, none⟩ = some (.int .u32 (f : Int)) := hV.out.cell 5
      have q6 : wN.cell? ⟨gv, 6, none⟩ = some (.int .u32 (g' : Int)) := hV.out.cell 6
      have q7 : wN.cell? ⟨gv, 7, none⟩ = some (.int .u32 (z' : Int)) := hV.out.cell 7
      have qz := hV.out.lt
      have kz := hKB.out.lt
      have wz := hB.out.lt
      clear wr
      go_wp2_with fail
      refine wp_region_k (by kernel_rfl) ?_
      refine wpAnyK_run (l' := #[true, true, true, true, true, true, true, true, true, true, true, true, true, true, true]) [0, 1, 2, 3, 4, 5, 6, 7, 8, 9, 10, 11, 12, 13, 14] 0 up_grows (by kernel_rfl) (by intro c a d v w h; first | (cases d <;> exact h) | exact hQ0 _ _ _ _ _ h) rfl (by kernel_rfl) (by kernel_rfl) ?_
      iterate 15 (refine wpMixC_q rfl (fun K hK => ?_); go_simp; (try go_bits); first | (refine hK.out _ ?_; clear hK K) | (apply Exists.intro; refine ⟨fun wq hsq => ?_, hK.out _ ?_⟩; (first | (go_simp; done) | ((try go_simp); (try simp only [↓IntWalk.iteOmega]); (try go_bits); rfl) | (obtain ⟨hcq, hfq⟩ := bcells hsq; go_simp; done) | (obtain ⟨hcq, hfq⟩ := bcells hsq; (try go_simp); (try simp only [↓IntWalk.iteOmega]); (try go_bits); rfl)); clear hK K))
      refine wpMixC_nil ?_
      refine wpAnyK_end (by kernel_rfl) (fun wN hN hS => ?_)
      rename_i wOld
      replace hB := Lib.hid (hB.out.grows hN)
      replace hKB := Lib.hid (hKB.out.grows hN)
      replace hV := Lib.hid (hV.out.grows hN)
      replace hG := Lib.hid (hG.out.trans hN)
      replace hwa := hN.cell hwa
      replace hka := hN.cell hka
      clear hN hS q0 q1 q2 q3 q4 q5 q6 q7 qz kz wz
      have q0 : wN.cell? ⟨gv, 0, none⟩ = some (.int .u32 (a : Int)) := hV.out.cell 0
      have q1 : wN.cell? ⟨gv, 1, none⟩ = some (.int .u32 (b' : Int)) := hV.out.cell 1
      have q2 : wN.cell? ⟨gv, 2, none⟩ = some (.int .u32 (c' : Int)) := hV.out.cell 2
      have q3 : wN.cell? ⟨gv, 3, none⟩ = some (.int .u32 (d : Int)) := hV.out.cell 3
      have q4 : wN.cell? ⟨gv, 4, none⟩ = some (.int .u32 (e : Int)) := hV.out.cell 4
      have q5 : wN.cell? ⟨gv, 5, none⟩ = some (.int .u32 (f : Int)) := hV.out.cell 5
      have q6 : wN.cell? ⟨gv, 6, none⟩ = some (.int .u32 (g' : Int)) := hV.out.cell 6
      have q7 : wN.cell? ⟨gv, 7, none⟩ = some (.int .u32 (z' : Int)) := hV.out.cell 7
      have qz := hV.out.lt
      have kz := hKB.out.lt
      have wz := hB.out.lt
      go_wp2_with fail
      refine wp_region_k (by kernel_rfl) ?_
      refine wpAnyK_run (l' := #[true, true, true, true, true, true, true, true, true, true, true, true]) [0, 1, 2, 3, 4, 5, 6, 7, 8, 9, 10, 11] 0 up_grows (by kernel_rfl) (by intro c a d v w h; first | (cases d <;> exact h) | exact hQ0 _ _ _ _ _ h) rfl (by kernel_rfl) (by kernel_rfl) ?_
      iterate 2 (refine wpMixC_q rfl (fun K hK => ?_); go_simp; (try go_bits); first | (refine hK.out _ ?_; clear hK K) | (apply Exists.intro; refine ⟨fun wq hsq => ?_, hK.out _ ?_⟩; (first | (go_simp; done) | ((try go_simp); (try simp only [↓IntWalk.iteOmega]); (try go_bits); rfl) | (obtain ⟨hcq, hfq⟩ := bcells hsq; go_simp; done) | (obtain ⟨hcq, hfq⟩ := bcells hsq; (try go_simp); (try simp only [↓IntWalk.iteOmega]); (try go_bits); rfl)); clear hK K))
      refine wpMixC_c (.int .u32 (A1 : Int)) rfl (by first | rfl | (go_simp; done)) (fun wq hsq => ?_) ?_
      · obtain ⟨hcq, hfq⟩ := bcells hsq
        go_simp
        exact Calls.mono (cA1.out wq) (fun e w'' h => h)
      go_simp
      iterate 2 (refine wpMixC_q rfl (fun K hK => ?_); go_simp; (try go_bits); first | (refine hK.out _ ?_; clear hK K) | (apply Exists.intro; refine ⟨fun wq hsq => ?_, hK.out _ ?_⟩; (first | (go_simp; done) | ((try go_simp); (try simp only [↓IntWalk.iteOmega]); (try go_bits); rfl) | (obtain ⟨hcq, hfq⟩ := bcells hsq; go_simp; done) | (obtain ⟨hcq, hfq⟩ := bcells hsq; (try go_simp); (try simp only [↓IntWalk.iteOmega]); (try go_bits); rfl)); clear hK K))
      refine wpMixC_c (.int .u32 (A2 : Int)) rfl (by first | rfl | (go_simp; done)) (fun wq hsq => ?_) ?_
      · obtain ⟨hcq, hfq⟩ := bcells hsq
        go_simp
        exact Calls.mono (cA2.out wq) (fun e w'' h => h)
      go_simp
      iterate 3 (refine wpMixC_q rfl (fun K hK => ?_); go_simp; (try go_bits); first | (refine hK.out _ ?_; clear hK K) | (apply Exists.intro; refine ⟨fun wq hsq => ?_, hK.out _ ?_⟩; (first | (go_simp; done) | ((try go_simp); (try simp only [↓IntWalk.iteOmega]); (try go_bits); rfl) | (obtain ⟨hcq, hfq⟩ := bcells hsq; go_simp; done) | (obtain ⟨hcq, hfq⟩ := bcells hsq; (try go_simp); (try simp only [↓IntWalk.iteOmega]); (try go_bits); rfl)); clear hK K))
      refine wpMixC_c (.int .u32 (A3 : Int)) rfl (by first | rfl | (go_simp; done)) (fun wq hsq => ?_) ?_
      · obtain ⟨hcq, hfq⟩ := bcells hsq
        go_simp
        exact Calls.mono (cA3.out wq) (fun e w'' h => h)
      go_simp
      iterate 2 (refine wpMixC_q rfl (fun K hK => ?_); go_simp; (try go_bits); first | (refine hK.out _ ?_; clear hK K) | (apply Exists.intro; refine ⟨fun wq hsq => ?_, hK.out _ ?_⟩; (first | (go_simp; done) | ((try go_simp); (try simp only [↓IntWalk.iteOmega]); (try go_bits); rfl) | (obtain ⟨hcq, hfq⟩ := bcells hsq; go_simp; done) | (obtain ⟨hcq, hfq⟩ := bcells hsq; (try go_simp); (try simp only [↓IntWalk.iteOmega]); (try go_bits); rfl)); clear hK K))
      refine wpMixC_nil ?_
      refine wpAnyK_end (by kernel_rfl) (fun wN hN hS => ?_)
      replace hB := Lib.hid (hB.out.grows hN)
      replace hKB := Lib.hid (hKB.out.grows hN)
      replace hV := Lib.hid (hV.out.grows hN)
      replace hG := Lib.hid (hG.out.trans hN)
      replace hwa := hN.cell hwa
      replace hka := hN.cell hka
      clear hN hS q0 q1 q2 q3 q4 q5 q6 q7 qz kz wz
      have q0 : wN.cell? ⟨gv, 0, none⟩ = some (.int .u32 (a : Int)) := hV.out.cell 0
      have q1 : wN.cell? ⟨gv, 1, none⟩ = some (.int .u32 (b' : Int)) := hV.out.cell 1
      have q2 : wN.cell? ⟨gv, 2, none⟩ = some (.int .u32 (c' : Int)) := hV.out.cell 2
      have q3 : wN.cell? ⟨gv, 3, none⟩ = some (.int .u32 (d : Int)) := hV.out.cell 3
      have q4 : wN.cell? ⟨gv, 4, none⟩ = some (.int .u32 (e : Int)) := hV.out.cell 4
      have q5 : wN.cell? ⟨gv, 5, none⟩ = some (.int .u32 (f : Int)) := hV.out.cell 5
      have q6 : wN.cell? ⟨gv, 6, none⟩ = some (.int .u32 (g' : Int)) := hV.out.cell 6
      have q7 : wN.cell? ⟨gv, 7, none⟩ = some (.int .u32 (z' : Int)) := hV.out.cell 7
      have qz := hV.out.lt
      have kz := hKB.out.lt
      have wz := hB.out.lt
      have f0 := hV.out.frozen 0
      have f1 := hV.out.frozen 1
      have f2 := hV.out.frozen 2
      have f3 := hV.out.frozen 3
      have f4 := hV.out.frozen 4
      have f5 := hV.out.frozen 5
      have f6 := hV.out.frozen 6
      have f7 := hV.out.frozen 7
      go_wp2
      obtain ⟨h8, hby⟩ := set8 hV.out rfl A' a b' c' D' e f g'
      replace hB := Lib.hid (hB.out.by_ hby hne1.out)
      replace hKB := Lib.hid (hKB.out.by_ hby hne2.out)
      replace hG := Lib.hid (hG.out.by_then hby hgv.out)
      go_roundw
      case rel => exact ⟨k + 1, by omega, by go_num, hB, hKB, by rw [hst.out]; exact h8, hG⟩
      case measure => simp [intOf]; omega
    · obtain rfl : k = 64 := by omega
      clear hB hKB
      go_wp2
      exact ⟨hV, hG⟩
end Go.Proofs.YtfoffneipdkdjaaGreatDoor
namespace Go.Proofs.YtfoffneipdkdjaaGreatDoor
open Go.RowKit

set_option maxRecDepth 100000 in
set_option maxHeartbeats 1600000 in
theorem rround_l4 {xs ys zs : List Nat} {gh gv : Nat} {w w5 : World} {Q0 : Exit → Act → World → Prop} {x0 x1 x2 x4 x5 x6 x7 x8 x9 x10 x11 x12 x14 x15 x16 x17 x18 x19 x21 x22 x23 x24 x25 x26 x27 x28 x29 x30 x31 x32 x33 x34 x35 x36 x37 x38 x39 x40 x41 x42 x43 x44 x45 x46 x47 x48 x49 x50 x51 x52 x53 x54 x55 x56 x57 x58 x59 x60 x61 x62 x63 x64 x65 x66 x67 x68 x69 x70 x71 x72 x73 x74 x75 x76 x77 x78 x79 x80 x81 x82 x83 x84 x85 x86 x87 x88 x89 x90 x91 x92 x93 x94 x95 x96 x97 x98 x99 x100 x101 x102 x103 x104 x105 x106 x107 x108 x109 x110 x111 x112 x113 x114 x115 x116 x117 x118 x119 x120 x121 x122 x123 x124 x125 x126 x127 x128 x129 x130 x131 x132 x133 x134 x135 x136 x137 x138 x139 x140 x141 x142 x143 x144 x145 x146 x147 x148 x149 x150 x151 x152 x153 x154 x155 x156 x157 x158 x159 x160 x161 x162 x163 x164 x165 x166 x167 x168 x169 x170 x171 x172 x173 x174 x175 x176 x177 x178 x179 x180 x181 x182 x183 x184 x185 x186 x187 x188 x189 x190 x191 x192 x193 x194 x195 x196 x197 x198 x199 x200 x201 : Value}
    (hnew : Hid (∀ j, j < 8 → xs.getD j 0 = (ys.getD j 0 + zs.getD j 0) % 4294967296)) (hln : xs.length = ys.length) (hl8 : ys.length = 8) (hlR : zs.length = 8) (hgv : Hid (w.heap.size ≤ gv)) (hH' : Hid (Blk w5 gh 117 (u32s zs))) (hV' : Hid (Blk w5 gv 117 (u32s ys))) (hG5 : Hid (Grows w w5)) (hgg : Hid (gh ≠ gv))
    (hQ0 : ∀ c a d v w, Q0 (.panic c) (Act.put a d v) w → Q0 (.panic c) a w)
    (hexit : ∀ (u20 u189 u190 u191 u192 u193 u194 u195 u196 u197 u198 u199 u200 : Value) (wr : World), Hid (Blk wr gv 117 (u32s xs)) ∧ Hid (Grows w wr) → Q0 (.exit 8) ⟨(x0 :: x1 :: x2 :: (.pointer (some ⟨gh, 0, none⟩)) :: x4 :: x5 :: x6 :: x7 :: x8 :: x9 :: x10 :: x11 :: x12 :: (.pointer (some ⟨gv, 0, none⟩)) :: x14 :: x15 :: x16 :: x17 :: x18 :: x19 :: u20 :: x21 :: x22 :: x23 :: x24 :: x25 :: x26 :: x27 :: x28 :: x29 :: x30 :: x31 :: x32 :: x33 :: x34 :: x35 :: x36 :: x37 :: x38 :: x39 :: x40 :: x41 :: x42 :: x43 :: x44 :: x45 :: x46 :: x47 :: x48 :: x49 :: x50 :: x51 :: x52 :: x53 :: x54 :: x55 :: x56 :: x57 :: x58 :: x59 :: x60 :: x61 :: x62 :: x63 :: x64 :: x65 :: x66 :: x67 :: x68 :: x69 :: x70 :: x71 :: x72 :: x73 :: x74 :: x75 :: x76 :: x77 :: x78 :: x79 :: x80 :: x81 :: x82 :: x83 :: x84 :: x85 :: x86 :: x87 :: x88 :: x89 :: x90 :: x91 :: x92 :: x93 :: x94 :: x95 :: x96 :: x97 :: x98 :: x99 :: x100 :: x101 :: x102 :: x103 :: x104 :: x105 :: x106 :: x107 :: x108 :: x109 :: x110 :: x111 :: x112 :: x113 :: x114 :: x115 :: x116 :: x117 :: x118 :: x119 :: x120 :: x121 :: x122 :: x123 :: x124 :: x125 :: x126 :: x127 :: x128 :: x129 :: x130 :: x131 :: x132 :: x133 :: x134 :: x135 :: x136 :: x137 :: x138 :: x139 :: x140 :: x141 :: x142 :: x143 :: x144 :: x145 :: x146 :: x147 :: x148 :: x149 :: x150 :: x151 :: x152 :: x153 :: x154 :: x155 :: x156 :: x157 :: x158 :: x159 :: x160 :: x161 :: x162 :: x163 :: x164 :: x165 :: x166 :: x167 :: x168 :: x169 :: x170 :: x171 :: x172 :: x173 :: x174 :: x175 :: x176 :: x177 :: x178 :: x179 :: x180 :: x181 :: x182 :: x183 :: x184 :: x185 :: x186 :: x187 :: x188 :: u189 :: u190 :: u191 :: u192 :: u193 :: u194 :: u195 :: u196 :: u197 :: u198 :: u199 :: u200 :: x201 :: []).toArray, []⟩ wr) :
    Code.wp Tryz.prog (loopAt Tryz.f67 3) Q0 ⟨(x0 :: x1 :: x2 :: (.pointer (some ⟨gh, 0, none⟩)) :: x4 :: x5 :: x6 :: x7 :: x8 :: x9 :: x10 :: x11 :: x12 :: (.pointer (some ⟨gv, 0, none⟩)) :: x14 :: x15 :: x16 :: x17 :: x18 :: x19 :: (.int .i64 0) :: x21 :: x22 :: x23 :: x24 :: x25 :: x26 :: x27 :: x28 :: x29 :: x30 :: x31 :: x32 :: x33 :: x34 :: x35 :: x36 :: x37 :: x38 :: x39 :: x40 :: x41 :: x42 :: x43 :: x44 :: x45 :: x46 :: x47 :: x48 :: x49 :: x50 :: x51 :: x52 :: x53 :: x54 :: x55 :: x56 :: x57 :: x58 :: x59 :: x60 :: x61 :: x62 :: x63 :: x64 :: x65 :: x66 :: x67 :: x68 :: x69 :: x70 :: x71 :: x72 :: x73 :: x74 :: x75 :: x76 :: x77 :: x78 :: x79 :: x80 :: x81 :: x82 :: x83 :: x84 :: x85 :: x86 :: x87 :: x88 :: x89 :: x90 :: x91 :: x92 :: x93 :: x94 :: x95 :: x96 :: x97 :: x98 :: x99 :: x100 :: x101 :: x102 :: x103 :: x104 :: x105 :: x106 :: x107 :: x108 :: x109 :: x110 :: x111 :: x112 :: x113 :: x114 :: x115 :: x116 :: x117 :: x118 :: x119 :: x120 :: x121 :: x122 :: x123 :: x124 :: x125 :: x126 :: x127 :: x128 :: x129 :: x130 :: x131 :: x132 :: x133 :: x134 :: x135 :: x136 :: x137 :: x138 :: x139 :: x140 :: x141 :: x142 :: x143 :: x144 :: x145 :: x146 :: x147 :: x148 :: x149 :: x150 :: x151 :: x152 :: x153 :: x154 :: x155 :: x156 :: x157 :: x158 :: x159 :: x160 :: x161 :: x162 :: x163 :: x164 :: x165 :: x166 :: x167 :: x168 :: x169 :: x170 :: x171 :: x172 :: x173 :: x174 :: x175 :: x176 :: x177 :: x178 :: x179 :: x180 :: x181 :: x182 :: x183 :: x184 :: x185 :: x186 :: x187 :: x188 :: x189 :: x190 :: x191 :: x192 :: x193 :: x194 :: x195 :: x196 :: x197 :: x198 :: x199 :: x200 :: x201 :: []).toArray, []⟩ w5 := by
  conv => arg 2; whnf
  go_loopw [20] (fun i wx => ∃ k : Nat, k ≤ 8 ∧ i = .int .i64 k ∧ Hid (Blk wx gv 117 (u32s (xs.take k ++ ys.drop k))) ∧ Hid (Blk wx gh 117 (u32s zs)) ∧ Hid (Grows w wx)) (fun i _ => 8 - (intOf i).toNat)
  case atStart => exact ⟨0, by omega, rfl, hV', hH', hG5⟩
  case round =>
    clear hV' hH' hG5
    obtain ⟨k, hk, rfl, hS, hZ, hG⟩ := hrel
    by_cases hlt : k < 8
    · have e1 := (hS.out.cell k).trans (u32s_at (by rw [turned_len hln (by omega)]; omega))
      rw [turned_at hln (by omega)] at e1
      have e2 := (hZ.out.cell k).trans (u32s_at (by omega))
      have hne := hnew.out k hlt
      have hset := turned_set hln (k := k) (by omega)
      have hSn := fun x => u32s_set (xs.take k ++ ys.drop k) k x
      have f1 := hS.out.frozen k
      have z1 := hS.out.lt
      have z2 := hZ.out.lt
      generalize ys.getD k 0 = Y at *
      generalize zs.getD k 0 = Z at *
      have hne2 : ((Y : Int) + (Z : Int)) % 4294967296 = ((xs.getD k 0 : Nat) : Int) := by rw [hne]; omega
      generalize xs.getD k 0 = X at *
      clear hne
      replace hset := Lib.hid hset
      replace hSn := Lib.hid hSn
      go_wp2_with fail
      refine wp_region_k (by kernel_rfl) ?_
      refine wpAnyK_run (l' := #[true, true, true, true, true, true, true, true, false]) [0, 1, 2, 3, 4, 5, 6, 7] 1 up_grows (by kernel_rfl) (by intro c a d v w h; first | (cases d <;> exact h) | exact hQ0 _ _ _ _ _ h) rfl (by kernel_rfl) (by kernel_rfl) ?_
      iterate 8 (refine wpMixC_q rfl (fun K hK => ?_); go_simp; (try go_bits); first | (refine hK.out _ ?_; clear hK K) | (apply Exists.intro; refine ⟨fun wq hsq => ?_, hK.out _ ?_⟩; (first | (go_simp; done) | ((try go_simp); (try simp only [↓IntWalk.iteOmega]); (try go_bits); rfl) | (obtain ⟨hcq, hfq⟩ := bcells hsq; go_simp; done) | (obtain ⟨hcq, hfq⟩ := bcells hsq; (try go_simp); (try simp only [↓IntWalk.iteOmega]); (try go_bits); rfl)); clear hK K))
      refine wpMixC_nil ?_
      refine wpAnyK_last (i := 8) rfl (by kernel_rfl) (by kernel_rfl) (fun wN hN hS K' hK => ?_)
      clear hS
      have e3 := hN.cell e1
      have f3 : wN.frozen? ⟨gv, k, none⟩ = false := ((bcells hN).2 _ _ z1).trans f1
      have hS2 := (hS.out.grows hN).set_ k (.int .u32 (X : Int))
      have hZ2 := (hZ.out.grows hN).far (p := ⟨gv, k, none⟩) (by have := hgg.out; simp only; omega) (.int .u32 (X : Int))
      have hG2 := (hG.out.trans hN).setCell (p := ⟨gv, k, none⟩) hgv.out (.int .u32 (X : Int))
      rw [hSn.out, hset.out] at hS2
      replace hS2 := Lib.hid hS2
      replace hZ2 := Lib.hid hZ2
      replace hG2 := Lib.hid hG2
      clear hN hS hZ hG
      go_simp
      refine hK.out _ _ ?_
      clear hK e3 f3 e1 e2 f1 z1 z2
      generalize wN.setCell ⟨gv, k, none⟩ (.int .u32 (X : Int)) = w9 at *
      go_wp2
      go_roundw
      case rel => exact ⟨k + 1, by omega, by go_num, hS2, hZ2, hG2⟩
      case measure => simp [intOf]; omega
    · obtain rfl : k = 8 := by omega
      have hS2 := hS.out
      rw [List.take_of_length_le (by omega), List.drop_of_length_le (by omega), List.append_nil] at hS2
      replace hS2 := Lib.hid hS2
      clear hS
      go_wp2
      exact ⟨hS2, hG⟩
end Go.Proofs.YtfoffneipdkdjaaGreatDoor
namespace Go.Proofs.YtfoffneipdkdjaaGreatDoor
open Go.RowKit

theorem named_alloc4 {Pr : World → Prop} {w : World} {t1 t2 t3 t4 : TypeId} {c1 c2 c3 c4 : Array Value} (h : ∀ w3 w1, Blk w3 w.heap.size t1 c1 → Blk w3 (w.heap.size + 1) t2 c2 → Blk w3 (w.heap.size + 1 + 1) t3 c3 → Grows w w3 → w3.heap.size = w.heap.size + 1 + 1 + 1 → Blk w1 (w.heap.size + 1 + 1 + 1) t4 c4 → Grows w3 w1 → Pr w1) :
    Pr ((((w.alloc (.cells c1 t1)).alloc (.cells c2 t2)).alloc (.cells c3 t3)).alloc (.cells c4 t4)) := by
  refine h _ _ (((Blk.new w t1 c1).alloc _).alloc _) ((Blk.new1 w _ t2 c2).alloc _) (Blk.new2 w _ _ t3 c3) ((((Grows.refl w).alloc _).alloc _).alloc _) (by rw [World.size_alloc, World.size_alloc, World.size_alloc]) ?_ ((Grows.refl _).alloc _)
  have := Blk.new (((w.alloc (.cells c1 t1)).alloc (.cells c2 t2)).alloc (.cells c3 t3)) t4 c4
  rwa [World.size_alloc, World.size_alloc, World.size_alloc] at this
set_option maxRecDepth 100000 in
set_option maxHeartbeats 1600000 in
theorem rround_any {v : V8} (hv : v.ok) {A : Option Addr} {c : Nat} {b : List Nat} (w : World) (hA : Arr w 1 encB A 64 b) (hb : ∀ x ∈ b, x < 256) :
    Calls Tryz.prog 67 #[.agg (u32s (eightL v)), .agg (u32s keysL), .slice A 64 c] w fun e w' => e = .returned (.agg (u32s (eightL (mixIn v b)))) ∧ Grows w w' := by
  replace hA := Lib.hid hA
  replace hb := Lib.hid hb
  replace hv := Lib.hid hv
  have hs8 : (u32s (eightL v)).size = 8 := by rw [u32s_size]; rfl
  have hs64 : (u32s keysL).size = 64 := by rw [u32s_size, keys_len]
  replace hs8 := Lib.hid hs8
  replace hs64 := Lib.hid hs64
  go_enter Tryz.func67, Tryz.ntmps67
  go_wp2
  refine named_alloc4 (Pr := fun W => Code.wp _ _ _ _ W) (fun w3 w1 hH hKB hR hG3 hsz hB1 hG1 => ?_)
  replace hB1 : Blk w1 (w.heap.size + 1 + 1 + 1) 119 (u32s (pad64 [])) := hB1.cast (by kernel_rfl)
  replace hR : Blk w3 (w.heap.size + 1 + 1) 117 (u32s [0, 0, 0, 0, 0, 0, 0, 0]) := hR
  replace hA := Lib.hid (hA.out.keep hG3)
  obtain ⟨gh, hgh⟩ : ∃ gh, gh = w.heap.size := ⟨_, rfl⟩
  rw [← hgh] at hB1 hH hKB hR hsz ⊢
  have hgw : Hid (w3.heap.size ≤ gh + 1 + 1 + 1) := Nat.le_of_eq hsz
  have hgr : w.heap.size ≤ gh + 1 + 1 := by omega
  replace hgh := Lib.hid hgh
  replace hgr := Lib.hid hgr
  replace hsz := Lib.hid hsz
  replace hB1 := Lib.hid hB1
  replace hG1 := Lib.hid hG1
  replace hH := Lib.hid hH
  replace hKB := Lib.hid hKB
  replace hR := Lib.hid hR
  replace hG3 := Lib.hid hG3
  refine rround_l1 hA hb hgw hB1 hG1 (by intro c a d v w h; cases d <;> exact h) ?_
  intro u8 u9 u21 u22 u23 u24 u25 u26 u27 u28 u29 u30 u31 u32 u33 u34 u35 u36 u37 u38 u39 u40 u41 u42 u43 wr h
  obtain ⟨hB, hG⟩ := h
  clear hB1 hG1 hA w1
  go_wp2
  refine rround_l2 hb hgw hB hG (by intro c a d v w h; cases d <;> exact h) ?_
  clear hB hG wr
  intro u10 u11 u12 u44 u45 u46 u47 u48 u49 u50 u51 u52 u53 u54 u55 u56 u57 u58 u59 u60 u61 u62 u63 u64 u65 u66 u67 u68 u69 u70 u71 u72 u73 u74 u75 u76 u77 u78 u79 u80 u81 u82 u83 u84 u85 u86 u87 u88 u89 u90 u91 u92 u93 u94 u95 u96 wr h
  obtain ⟨hB, hG⟩ := h
  replace hH := Lib.hid (hH.out.grows hG.out)
  replace hKB := Lib.hid (hKB.out.grows hG.out)
  replace hR := Lib.hid (hR.out.grows hG.out)
  replace hG3 := Lib.hid (hG3.out.trans hG.out)
  clear hG
  have q0 : wr.cell? ⟨gh, 0, none⟩ = some (.int .u32 (v.a : Int)) := hH.out.cell 0
  have q1 : wr.cell? ⟨gh, 1, none⟩ = some (.int .u32 (v.b : Int)) := hH.out.cell 1
  have q2 : wr.cell? ⟨gh, 2, none⟩ = some (.int .u32 (v.c : Int)) := hH.out.cell 2
  have q3 : wr.cell? ⟨gh, 3, none⟩ = some (.int .u32 (v.d : Int)) := hH.out.cell 3
  have q4 : wr.cell? ⟨gh, 4, none⟩ = some (.int .u32 (v.e : Int)) := hH.out.cell 4
  have q5 : wr.cell? ⟨gh, 5, none⟩ = some (.int .u32 (v.f : Int)) := hH.out.cell 5
  have q6 : wr.cell? ⟨gh, 6, none⟩ = some (.int .u32 (v.g : Int)) := hH.out.cell 6
  have q7 : wr.cell? ⟨gh, 7, none⟩ = some (.int .u32 (v.h : Int)) := hH.out.cell 7
  have qz := hH.out.lt
  go_wp2
  refine named_alloc (Pr := fun W => Code.wp _ _ _ _ W) (fun w5 hV hG5 => ?_)
  replace hV : Blk w5 wr.heap.size 117 (u32s (eightL v)) := hV
  have hle := Nat.le_refl wr.heap.size
  have hne1 := Nat.ne_of_lt hB.out.lt
  have hne2 := Nat.ne_of_lt hKB.out.lt
  have hne3 := Nat.ne_of_lt hH.out.lt
  have hne4 := Nat.ne_of_lt hR.out.lt
  have hltR := hR.out.lt
  have hB5 := Lib.hid (hB.out.grows hG5)
  have hKB5 := Lib.hid (hKB.out.grows hG5)
  replace hV := Lib.hid hV
  replace hG5 := Lib.hid hG5
  clear q0 q1 q2 q3 q4 q5 q6 q7 qz
  have hKat : ∀ k, k < 64 → (u32s keysL)[k]? = some (.int .u32 ((keysL.getD k 0 : Nat) : Int)) := fun k hk => u32s_at (by rw [keys_len]; exact hk)
  have hWat : ∀ k, k < 64 → (u32s (words 48 (firsts b)))[k]? = some (.int .u32 (((words 48 (firsts b)).getD k 0 : Nat) : Int)) := fun k hk => u32s_at (by rw [words_len, firsts_len]; exact hk)
  have hrd : ∀ k, roundsV keysL (words 48 (firsts b)) (k + 1) v = stepV (roundsV keysL (words 48 (firsts b)) k v) (keysL.getD k 0) ((words 48 (firsts b)).getD k 0) := fun _ => rfl
  have hfin : mixIn v b = addV v (roundsV keysL (words 48 (firsts b)) 64 v) := rfl
  have hok : ∀ k, (roundsV keysL (words 48 (firsts b)) k v).ok := fun k => roundsV_ok hv.out k
  have hr0 : roundsV keysL (words 48 (firsts b)) 0 v = v := rfl
  generalize hvF : mixIn v b = vFin at *
  replace hvF := Lib.hid hvF
  generalize words 48 (firsts b) = WL at *
  generalize keysL = KL at *
  generalize hRV : (fun k => roundsV KL WL k v) = RV at *
  have hRVk : ∀ k, roundsV KL WL k v = RV k := fun k => congrFun hRV k
  simp only [hRVk] at hrd hfin hok hr0
  clear hRVk hRV hb
  have hV0 : Hid (Blk w5 wr.heap.size 117 (u32s (eightL (RV 0)))) := by rw [hr0]; exact hV
  replace hKat := Lib.hid hKat
  replace hWat := Lib.hid hWat
  replace hrd := Lib.hid hrd
  replace hfin := Lib.hid hfin
  replace hok := Lib.hid hok
  clear hr0 hV
  generalize hgv : wr.heap.size = gv at *
  refine rround_l3 (w := wr) hKat hWat hrd hok (by rw [hgv]; exact hle) hne1 hne2 hB5 hKB5 hV0 hG5 (by intro c a d v w h; cases d <;> exact h) ?_
  clear hB5 hKB5 hV0 hG5 w5
  intro u14 u15 u16 u17 u18 u19 u98 u99 u100 u101 u102 u103 u104 u105 u106 u107 u108 u109 u110 u111 u112 u113 u114 u115 u116 u117 u118 u119 u120 u121 u122 u123 u124 u125 u126 u127 u128 u129 u130 u131 u132 u133 u134 u135 u136 u137 u138 u139 u140 u141 u142 u143 u144 u145 u146 u147 u148 u149 u150 u151 u152 u153 u154 u155 u156 u157 u158 u159 u160 u161 u162 u163 u164 u165 u166 u167 u168 u169 u170 u171 u172 u173 u174 u175 u176 u177 u178 u179 u180 u181 u182 u183 u184 u185 u186 u187 u188 w5 h
  obtain ⟨hV, hG⟩ := h
  have hnew : ∀ j, j < 8 → (eightL vFin).getD j 0 = ((eightL (RV 64)).getD j 0 + (eightL v).getD j 0) % 4294967296 := fun j hj => by
    rw [hfin.out, addV_at v (RV 64) (k := j) hj, Nat.add_comm]
  have hln := (eightL_len vFin).trans (eightL_len (RV 64)).symm
  have hl8 := eightL_len (RV 64)
  have hlR := eightL_len v
  have hl9 := eightL_len vFin
  replace hH := Lib.hid (hH.out.grows hG.out)
  generalize eightL (RV 64) = ys at *
  generalize hxs : eightL vFin = xs at *
  replace hxs := Lib.hid hxs
  generalize eightL v = zs at *
  clear hfin hKat hWat hrd hok hKB hB
  replace hnew := Lib.hid hnew
  go_wp2
  refine rround_l4 (w := wr) hnew hln hl8 hlR (by rw [hgv]; exact hle) hH hV hG hne3 (by intro c a d v w h; cases d <;> exact h) ?_
  clear hH hV hG hnew hl8 hlR w5
  intro u20 u189 u190 u191 u192 u193 u194 u195 u196 u197 u198 u199 u200 w5 h
  obtain ⟨hV, hG⟩ := h
  match xs, hl9 with
  | [x0, x1, x2, x3, x4, x5, x6, x7], _ =>
    have q0 : w5.cell? ⟨gv, 0, none⟩ = some (.int .u32 (x0 : Int)) := hV.out.cell 0
    have q1 : w5.cell? ⟨gv, 1, none⟩ = some (.int .u32 (x1 : Int)) := hV.out.cell 1
    have q2 : w5.cell? ⟨gv, 2, none⟩ = some (.int .u32 (x2 : Int)) := hV.out.cell 2
    have q3 : w5.cell? ⟨gv, 3, none⟩ = some (.int .u32 (x3 : Int)) := hV.out.cell 3
    have q4 : w5.cell? ⟨gv, 4, none⟩ = some (.int .u32 (x4 : Int)) := hV.out.cell 4
    have q5 : w5.cell? ⟨gv, 5, none⟩ = some (.int .u32 (x5 : Int)) := hV.out.cell 5
    have q6 : w5.cell? ⟨gv, 6, none⟩ = some (.int .u32 (x6 : Int)) := hV.out.cell 6
    have q7 : w5.cell? ⟨gv, 7, none⟩ = some (.int .u32 (x7 : Int)) := hV.out.cell 7
    have hR5 := hR.out.grows hG.out
    have r0 : w5.cell? ⟨gh + 1 + 1, 0, none⟩ = some (.int .u32 0) := hR5.cell 0
    have r1 : w5.cell? ⟨gh + 1 + 1, 1, none⟩ = some (.int .u32 0) := hR5.cell 1
    have r2 : w5.cell? ⟨gh + 1 + 1, 2, none⟩ = some (.int .u32 0) := hR5.cell 2
    have r3 : w5.cell? ⟨gh + 1 + 1, 3, none⟩ = some (.int .u32 0) := hR5.cell 3
    have r4 : w5.cell? ⟨gh + 1 + 1, 4, none⟩ = some (.int .u32 0) := hR5.cell 4
    have r5 : w5.cell? ⟨gh + 1 + 1, 5, none⟩ = some (.int .u32 0) := hR5.cell 5
    have r6 : w5.cell? ⟨gh + 1 + 1, 6, none⟩ = some (.int .u32 0) := hR5.cell 6
    have r7 : w5.cell? ⟨gh + 1 + 1, 7, none⟩ = some (.int .u32 0) := hR5.cell 7
    have f0 := hR5.frozen 0
    have f1 := hR5.frozen 1
    have f2 := hR5.frozen 2
    have f3 := hR5.frozen 3
    have f4 := hR5.frozen 4
    have f5 := hR5.frozen 5
    have f6 := hR5.frozen 6
    have f7 := hR5.frozen 7
    obtain ⟨h8, hby⟩ := set8 hR5 rfl x0 x1 x2 x3 x4 x5 x6 x7
    have hGf := (hG3.out.trans hG.out).by_then hby hgr.out
    replace h8 := Lib.hid h8
    replace hGf := Lib.hid hGf
    clear hby
    replace hR5 := Lib.hid hR5
    go_wp2
    rw [hvF.out, hxs.out]
    refine bodyPost_ret (v := .agg (u32s [x0, x1, x2, x3, x4, x5, x6, x7])) ?_ (by with_reducible rfl) ⟨by with_reducible rfl, hGf.out⟩
    exact results_cell_row (p := 6) (ty := 117) (by kernel_rfl) _ _ (gh + 1 + 1) 117 (u32s [x0, x1, x2, x3, x4, x5, x6, x7]) (0, 0) _ (by kernel_rfl) h8.out Tryz.underlying117 rfl (by kernel_rfl)
end Go.Proofs.YtfoffneipdkdjaaGreatDoor
