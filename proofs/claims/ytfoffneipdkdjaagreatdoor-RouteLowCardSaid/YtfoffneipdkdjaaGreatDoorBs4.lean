/- Parts: ShaI ShaH1 ShaH2 ShaH3 ShaH4 ShaH ShaK -/
import Derived.Laws.CopyRow
import Derived.Test.YtfoffneipdkdjaaGreatDoorBs2
import Derived.Test.YtfoffneipdkdjaaGreatDoorBs3
namespace Go.Proofs.YtfoffneipdkdjaaGreatDoor
open Go.RowKit

def encB (x : Nat) : List Value := [.int .u8 (x : Int)]
theorem hkB (x : Nat) : (encB x).length = 1 := rfl
theorem oneB (x : Nat) : ∀ u ∈ encB x, u.oneCell' = true := by intro u hu; simp [encB] at hu; subst hu; rfl
def eightL (v : V8) : List Nat := [v.a, v.b, v.c, v.d, v.e, v.f, v.g, v.h]
/-- The loops of a function's body, outermost ones, in the order in which they stand. -/
def loopsOf : Code → List Code
  | .seq a b => loopsOf a ++ loopsOf b
  | .cond _ a b => loopsOf a ++ loopsOf b
  | .block _ c => loopsOf c
  | .scope c => loopsOf c
  | .loop c => [.loop c]
  | _ => []
def loopAt (f : Func) (n : Nat) : Code := ((f.body.map loopsOf).getD []).getD n .skip
theorem named_alloc {Pr : World → Prop} {w : World} {t : TypeId} {cs : Array Value} (h : ∀ w1, Blk w1 w.heap.size t cs → Grows w w1 → Pr w1) : Pr (w.alloc (.cells cs t)) := h _ (Blk.new w t cs) ((Grows.refl w).alloc _)
theorem and32a {a b : Nat} (ha : Wd a) : bits .and .u32 (a : Int) (b : Int) = ((a &&& b : Nat) : Int) := by
  have hx := (and_lt (b := b) ha).lt
  show IntKind.u32.wrap ((BitVec.ofInt 32 (a : Int) &&& BitVec.ofInt 32 (b : Int)).toNat : Int) = _
  rw [BitVec.toNat_and, ofInt32 ha, BitVec.ofInt_natCast, BitVec.toNat_ofNat, wrap32]
  have e : a &&& b % 2 ^ 32 = a &&& b := by
    apply Nat.eq_of_testBit_eq
    intro i
    rw [Nat.testBit_and, Nat.testBit_mod_two_pow, Nat.testBit_and]
    by_cases hi : i < 32
    · simp [hi]
    · simp [wd_high ha (Nat.le_of_not_lt hi)]
  rw [e, Nat.mod_eq_of_lt hx]
theorem run_index64 {KA : Array Value} {k : Nat} {x : Int} (hk : k < 64) (h : KA[k]? = some (.int .u32 x)) (w : World) : (Instr.index 119 (.agg KA) (.int .i64 (k : Int))).run Tryz.prog w = .ok (.int .u32 x) w := by
  have h0 : (0 : Int) ≤ (k : Int) ∧ (k : Int) < 64 := by omega
  unfold Instr.index part
  go_simp
theorem not32 {e : Nat} (he : Wd e) : 4294967295 ^^^ e = notW e := by
  have h := he.lt
  apply Nat.eq_of_testBit_eq
  intro i
  have e1 : notW e = 2 ^ 32 - (e + 1) := by unfold notW; omega
  rw [e1, Nat.testBit_two_pow_sub_succ h, Nat.testBit_xor, show (4294967295 : Nat) = 2 ^ 32 - 1 from rfl, Nat.testBit_two_pow_sub_one]
  by_cases hi : i < 32
  · simp [hi]
  · simp [hi, wd_high he (Nat.le_of_not_lt hi)]
theorem ch_walk {e f g : Nat} (he : Wd e) : bits .xor .u32 (bits .and .u32 (e : Int) (f : Int)) (bits .and .u32 (bits .xor .u32 IntKind.u32.max (e : Int)) (g : Int)) = (((e &&& f) ^^^ (notW e &&& g) : Nat) : Int) := by
  have hn : Wd (notW e) := Wd.of (by unfold notW; omega)
  rw [show IntKind.u32.max = ((4294967295 : Nat) : Int) from by decide, xor32 (Wd.of (by decide)) he, not32 he, and32a he, and32a hn, xor32 (and_lt he) (and_lt hn)]
theorem maj_walk {a b c : Nat} (ha : Wd a) (hb : Wd b) : bits .xor .u32 (bits .xor .u32 (bits .and .u32 (a : Int) (b : Int)) (bits .and .u32 (a : Int) (c : Int))) (bits .and .u32 (b : Int) (c : Int)) = (((a &&& b) ^^^ (a &&& c) ^^^ (b &&& c) : Nat) : Int) := by
  rw [and32a ha, and32a ha, and32a hb, xor32 (and_lt ha) (and_lt ha), xor32 (xor_lt (and_lt ha) (and_lt ha)) (and_lt hb)]
theorem named_alloc2 {Pr : World → Prop} {w : World} {t t' : TypeId} {cs cs' : Array Value} (h : ∀ w1, Blk w1 w.heap.size t cs → Blk w1 (w.heap.size + 1) t' cs' → Grows w w1 → Pr w1) : Pr ((w.alloc (.cells cs t)).alloc (.cells cs' t')) :=
  h _ ((Blk.new w t cs).alloc _) (Blk.new1 w _ _ _) (((Grows.refl w).alloc _).alloc _)
theorem wordOf_walk (p L r H : Nat) : ((p : Int) + (L : Int) + (r : Int) + (H : Int)) % 4294967296 = (((((p + L) % 4294967296 + r) % 4294967296 + H) % 4294967296 : Nat) : Int) := by omega
theorem Blk.cast {w : World} {g : Nat} {t : TypeId} {cs cs' : Array Value} (h : Blk w g t cs) (e : cs = cs') : Blk w g t cs' := e ▸ h
theorem Grows.by_ {w w' : World} (h : Grows w w') (row : Option Nat) : w.grownBy w' row := ⟨Below.os h, Below.tape h, Below.output h, Below.size h, fun i hi _ => Below.block h i hi⟩
theorem shl_or {a b n : Nat} (hb : b < 2 ^ n) : a * 2 ^ n ||| b = a * 2 ^ n + b := by
  have := Nat.shiftLeft_add_eq_or_of_lt (i := n) (b := b) hb a
  rw [Nat.shiftLeft_eq] at this
  exact this.symm
set_option maxRecDepth 100000 in
theorem be4_walk {a b c d : Nat} (ha : a < 256) (hb : b < 256) (hc : c < 256) (hd : d < 256) :
    bits .or .u32 (bits .or .u32 (bits .or .u32 ((a : Int) % 4294967296 * 16777216 % 4294967296) ((b : Int) % 4294967296 * 65536 % 4294967296)) ((c : Int) % 4294967296 * 256 % 4294967296)) ((d : Int) % 4294967296) = ((a * 16777216 + b * 65536 + c * 256 + d : Nat) : Int) := by
  have e1 : (a : Int) % 4294967296 * 16777216 % 4294967296 = ((a * 16777216 : Nat) : Int) := by omega
  have e2 : (b : Int) % 4294967296 * 65536 % 4294967296 = ((b * 65536 : Nat) : Int) := by omega
  have e3 : (c : Int) % 4294967296 * 256 % 4294967296 = ((c * 256 : Nat) : Int) := by omega
  have e4 : (d : Int) % 4294967296 = ((d : Nat) : Int) := by omega
  have o1 : a * 16777216 ||| b * 65536 = a * 16777216 + b * 65536 := shl_or (n := 24) (by omega)
  have o2 : a * 16777216 + b * 65536 ||| c * 256 = a * 16777216 + b * 65536 + c * 256 := by
    have := shl_or (a := a * 256 + b) (b := c * 256) (n := 16) (by omega)
    rw [show (2 : Nat) ^ 16 = 65536 from rfl, Nat.add_mul, Nat.mul_assoc] at this
    exact this
  have o3 : a * 16777216 + b * 65536 + c * 256 ||| d = a * 16777216 + b * 65536 + c * 256 + d := by
    have := shl_or (a := a * 65536 + b * 256 + c) (b := d) (n := 8) (by omega)
    rw [show (2 : Nat) ^ 8 = 256 from rfl, Nat.add_mul, Nat.add_mul, Nat.mul_assoc, Nat.mul_assoc] at this
    exact this
  have w1 : Wd (a * 16777216) := Wd.of (by omega)
  have w2 : Wd (b * 65536) := Wd.of (by omega)
  have w3 : Wd (c * 256) := Wd.of (by omega)
  have w4 : Wd d := Wd.of (by omega)
  have w5 : Wd (a * 16777216 + b * 65536) := Wd.of (by omega)
  have w6 : Wd (a * 16777216 + b * 65536 + c * 256) := Wd.of (by omega)
  rw [e1, e2, e3, e4, or32 w1 w2, o1, or32 w5 w3, o2, or32 w6 w4, o3]
theorem grownBy_setRow (w : World) (g : Nat) (cs : Array Value) : w.grownBy (w.setRow g cs) (some g) where
  os := rfl
  tape := rfl
  output := rfl
  size := by unfold World.setRow; simp
  block := fun k _ hne => by
    unfold World.setRow
    have : g ≠ k := fun h => hne (by rw [h])
    simp [Array.getElem?_modify, this]
theorem Blk.by_ {w w' : World} {j g : Nat} {t : TypeId} {cs : Array Value} (h : Blk w j t cs) (hg : w.grownBy w' (some g)) (hne : j ≠ g) : Blk w' j t cs :=
  (hg.block j h.lt (by simpa using hne)).trans h
theorem Grows.by_then {a w w' : World} {g : Nat} (h : Grows a w) (hg : w.grownBy w' (some g)) (hl : a.heap.size ≤ g) : Grows a w' :=
  Grows.of ⟨hg.os.trans (Below.os h), hg.tape.trans (Below.tape h), hg.output.trans (Below.output h), Nat.le_trans h.size hg.size, fun j hj => (hg.block j (Nat.lt_of_lt_of_le hj h.size) (by simp; omega)).trans (Below.block h j hj)⟩
theorem grownBy_cell (w : World) (p : Addr) (v : Value) : w.grownBy (w.setCell p v) (some p.block) where
  os := rfl
  tape := rfl
  output := rfl
  size := by simp
  block := fun k _ hne => Below.heap_setCell w p v k (by intro h; exact hne (by rw [h]))
set_option maxRecDepth 100000 in
theorem copy8 {w : World} {g a b c d e f h i : Nat} (hB : Blk w g 117 (u32s [a, b, c, d, e, f, h, i])) :
    ∃ w', (Builtin.copy_ #[195, 195] 3 #[.slice (some ⟨g, 1, none⟩) 7 7, .slice (some ⟨g, 0, none⟩) 7 8]).run Tryz.prog w = .ok (goInt 7) w' ∧ Blk w' g 117 (u32s [a, a, b, c, d, e, f, h]) ∧ w.grownBy w' (some g) := by
  have hc := run_copy_row (P := Tryz.prog) w 195 195 3 38 g 1 7 7 ⟨g, 0, none⟩ 7 8 (u32s [a, b, c, d, e, f, h, i]) 117 (u32s [a, b, c, d, e, f, h]).toList Tryz.underlying195 (by kernel_rfl) hB rfl
    (fun j v hv => by
      have hj : j < 7 := (List.getElem?_eq_some_iff.1 hv).1
      have : (⟨g, 0, none⟩ : Addr).add j = ⟨g, j, none⟩ := by unfold Addr.add; by_cases hj : j = 0 <;> simp [hj]
      rw [this, hB.cell j, ← hv]
      match j, hj with
      | 0, _ | 1, _ | 2, _ | 3, _ | 4, _ | 5, _ | 6, _ => rfl) (by simp [u32s]) (by intro v hv; simp [u32s] at hv; rcases hv with rfl | rfl | rfl | rfl | rfl | rfl | rfl <;> rfl)
  exact ⟨_, hc, setRow_heap w g _ _ _ _ hB, grownBy_setRow w g _⟩
theorem eightL_len (v : V8) : (eightL v).length = 8 := rfl
theorem sumC_at {l : List Nat} {rest : Value} {count : Int} {k : Nat} (h : k < l.length) : (sumC l rest count)[k]? = some (.int .u32 ((l.getD k 0 : Nat) : Int)) := by
  unfold sumC
  rw [Array.getElem?_append_left (by rw [u32s_size]; exact h), u32s_at h]
theorem sumC_set {l : List Nat} {rest : Value} {count : Int} {k : Nat} (h : k < l.length) (x : Nat) : (sumC l rest count).setIfInBounds k (.int .u32 (x : Int)) = sumC (l.set k x) rest count := by
  unfold sumC
  rw [← u32s_set, Array.setIfInBounds_append_left (by rw [u32s_size]; exact h)]
theorem turned_at {xs ys : List Nat} (hl : xs.length = ys.length) {k : Nat} (hk : k < xs.length) : (xs.take k ++ ys.drop k).getD k 0 = ys.getD k 0 := by
  simp only [List.getD_eq_getElem?_getD]
  rw [List.getElem?_append_right (by rw [List.length_take]; omega), List.length_take, Nat.min_eq_left (by omega), Nat.sub_self, List.getElem?_drop, Nat.add_zero]
theorem turned_len {xs ys : List Nat} (hl : xs.length = ys.length) {k : Nat} (hk : k ≤ xs.length) : (xs.take k ++ ys.drop k).length = xs.length := by
  rw [List.length_append, List.length_take, List.length_drop]; omega
theorem turned_set {xs ys : List Nat} (hl : xs.length = ys.length) {k : Nat} (hk : k < xs.length) : (xs.take k ++ ys.drop k).set k (xs.getD k 0) = xs.take (k + 1) ++ ys.drop (k + 1) := by
  rw [List.set_append_right _ _ (by rw [List.length_take]; omega), List.length_take, Nat.min_eq_left (by omega), Nat.sub_self]
  have hy : k < ys.length := by omega
  rw [List.drop_eq_getElem_cons hy, List.set_cons_zero, List.take_add_one, List.append_assoc, List.getD_eq_getElem?_getD, List.getElem?_eq_getElem hk]
  rfl
theorem addV_at (v u : V8) {k : Nat} (hk : k < 8) : (eightL (addV v u)).getD k 0 = ((eightL v).getD k 0 + (eightL u).getD k 0) % 4294967296 := by
  match k, hk with
  | 0, _ | 1, _ | 2, _ | 3, _ | 4, _ | 5, _ | 6, _ | 7, _ => rfl
end Go.Proofs.YtfoffneipdkdjaaGreatDoor
namespace Go.Proofs.YtfoffneipdkdjaaGreatDoor
open Go.RowKit

set_option maxRecDepth 100000 in
set_option maxHeartbeats 1600000 in
theorem round_l1 {A : Option Addr} {c : Nat} {b : List Nat} {g gw : Nat} {w w1 : World} {Q0 : Exit → Act → World → Prop} {x2 x3 x5 x6 x7 x8 x9 x10 x11 x12 x13 x14 x15 x16 x18 x19 x20 x21 x22 x23 x24 x25 x26 x27 x28 x29 x30 x31 x32 x33 x34 x35 x36 x37 x38 x39 x40 x41 x42 x43 x44 x45 x46 x47 x48 x49 x50 x51 x52 x53 x54 x55 x56 x57 x58 x59 x60 x61 x62 x63 x64 x65 x66 x67 x68 x69 x70 x71 x72 x73 x74 x75 x76 x77 x78 x79 x80 x81 x82 x83 x84 x85 x86 x87 x88 x89 x90 x91 x92 x93 x94 x95 x96 x97 x98 x99 x100 x101 x102 x103 x104 x105 x106 x107 x108 x109 x110 x111 x112 x113 x114 x115 x116 x117 x118 x119 x120 x121 x122 x123 x124 x125 x126 x127 x128 x129 x130 x131 x132 x133 x134 x135 x136 x137 x138 x139 x140 x141 x142 x143 x144 x145 x146 x147 x148 x149 x150 x151 x152 x153 x154 x155 x156 x157 x158 x159 x160 x161 x162 x163 x164 x165 x166 x167 x168 x169 x170 x171 x172 x173 x174 x175 : Value}
    (hA : Hid (Arr w 1 encB A 64 b)) (hb : Hid (∀ x ∈ b, x < 256)) (hgw : Hid (gw = w.heap.size)) (hB1 : Hid (Blk w1 gw 119 (u32s (pad64 [])))) (hG1 : Hid (Grows w w1))
    (hQ0 : ∀ c a d v w, Q0 (.panic c) (Act.put a d v) w → Q0 (.panic c) a w)
    (hexit : ∀ (u5 u17 u18 u19 u20 u21 u22 u23 u24 u25 u26 u27 u28 u29 u30 u31 u32 u33 u34 u35 u36 u37 u38 u39 u40 u41 u42 u43 u44 u45 u46 u47 u48 u49 u50 u51 u52 u53 u54 u55 : Value) (wr : World), Hid (Blk wr gw 119 (u32s (pad64 (words 0 (firsts b))))) ∧ Hid (Grows w wr) → Q0 (.exit 0) ⟨((.pointer (some ⟨g, 0, none⟩)) :: (.slice A 64 c) :: x2 :: x3 :: (.pointer (some ⟨gw, 0, none⟩)) :: u5 :: x6 :: x7 :: x8 :: x9 :: x10 :: x11 :: x12 :: x13 :: x14 :: x15 :: x16 :: u17 :: u18 :: u19 :: u20 :: u21 :: u22 :: u23 :: u24 :: u25 :: u26 :: u27 :: u28 :: u29 :: u30 :: u31 :: u32 :: u33 :: u34 :: u35 :: u36 :: u37 :: u38 :: u39 :: u40 :: u41 :: u42 :: u43 :: u44 :: u45 :: u46 :: u47 :: u48 :: u49 :: u50 :: u51 :: u52 :: u53 :: u54 :: u55 :: x56 :: x57 :: x58 :: x59 :: x60 :: x61 :: x62 :: x63 :: x64 :: x65 :: x66 :: x67 :: x68 :: x69 :: x70 :: x71 :: x72 :: x73 :: x74 :: x75 :: x76 :: x77 :: x78 :: x79 :: x80 :: x81 :: x82 :: x83 :: x84 :: x85 :: x86 :: x87 :: x88 :: x89 :: x90 :: x91 :: x92 :: x93 :: x94 :: x95 :: x96 :: x97 :: x98 :: x99 :: x100 :: x101 :: x102 :: x103 :: x104 :: x105 :: x106 :: x107 :: x108 :: x109 :: x110 :: x111 :: x112 :: x113 :: x114 :: x115 :: x116 :: x117 :: x118 :: x119 :: x120 :: x121 :: x122 :: x123 :: x124 :: x125 :: x126 :: x127 :: x128 :: x129 :: x130 :: x131 :: x132 :: x133 :: x134 :: x135 :: x136 :: x137 :: x138 :: x139 :: x140 :: x141 :: x142 :: x143 :: x144 :: x145 :: x146 :: x147 :: x148 :: x149 :: x150 :: x151 :: x152 :: x153 :: x154 :: x155 :: x156 :: x157 :: x158 :: x159 :: x160 :: x161 :: x162 :: x163 :: x164 :: x165 :: x166 :: x167 :: x168 :: x169 :: x170 :: x171 :: x172 :: x173 :: x174 :: x175 :: []).toArray, []⟩ wr) :
    Code.wp Tryz.prog (loopAt Tryz.f130 0) Q0 ⟨((.pointer (some ⟨g, 0, none⟩)) :: (.slice A 64 c) :: x2 :: x3 :: (.pointer (some ⟨gw, 0, none⟩)) :: x5 :: x6 :: x7 :: x8 :: x9 :: x10 :: x11 :: x12 :: x13 :: x14 :: x15 :: x16 :: (.int .i64 0) :: x18 :: x19 :: x20 :: x21 :: x22 :: x23 :: x24 :: x25 :: x26 :: x27 :: x28 :: x29 :: x30 :: x31 :: x32 :: x33 :: x34 :: x35 :: x36 :: x37 :: x38 :: x39 :: x40 :: x41 :: x42 :: x43 :: x44 :: x45 :: x46 :: x47 :: x48 :: x49 :: x50 :: x51 :: x52 :: x53 :: x54 :: x55 :: x56 :: x57 :: x58 :: x59 :: x60 :: x61 :: x62 :: x63 :: x64 :: x65 :: x66 :: x67 :: x68 :: x69 :: x70 :: x71 :: x72 :: x73 :: x74 :: x75 :: x76 :: x77 :: x78 :: x79 :: x80 :: x81 :: x82 :: x83 :: x84 :: x85 :: x86 :: x87 :: x88 :: x89 :: x90 :: x91 :: x92 :: x93 :: x94 :: x95 :: x96 :: x97 :: x98 :: x99 :: x100 :: x101 :: x102 :: x103 :: x104 :: x105 :: x106 :: x107 :: x108 :: x109 :: x110 :: x111 :: x112 :: x113 :: x114 :: x115 :: x116 :: x117 :: x118 :: x119 :: x120 :: x121 :: x122 :: x123 :: x124 :: x125 :: x126 :: x127 :: x128 :: x129 :: x130 :: x131 :: x132 :: x133 :: x134 :: x135 :: x136 :: x137 :: x138 :: x139 :: x140 :: x141 :: x142 :: x143 :: x144 :: x145 :: x146 :: x147 :: x148 :: x149 :: x150 :: x151 :: x152 :: x153 :: x154 :: x155 :: x156 :: x157 :: x158 :: x159 :: x160 :: x161 :: x162 :: x163 :: x164 :: x165 :: x166 :: x167 :: x168 :: x169 :: x170 :: x171 :: x172 :: x173 :: x174 :: x175 :: []).toArray, []⟩ w1 := by
  conv => arg 2; whnf
  go_loopw [17] (fun i wr => ∃ k : Nat, k ≤ 16 ∧ i = .int .i64 k ∧ Hid (Blk wr gw 119 (u32s (pad64 ((firsts b).take k)))) ∧ Hid (Grows w wr)) (fun i _ => 16 - (intOf i).toNat)
  case atStart => exact ⟨0, by omega, rfl, hB1, hG1⟩
  case round =>
    obtain ⟨k, hk, rfl, hB, hG⟩ := hrel
    by_cases hlt : k < 16
    · obtain ⟨bb, off, x0, rfl, hs0, hx0, hc0⟩ := ((hA.out).keep hG.out).at_ (i := 4 * k) (by omega)
      obtain ⟨_, _, x1, e1, _, hx1, hc1⟩ := ((hA.out).keep hG.out).at_ (i := 4 * k + 1) (by omega)
      obtain ⟨_, _, x2, e2, _, hx2, hc2⟩ := ((hA.out).keep hG.out).at_ (i := 4 * k + 2) (by omega)
      obtain ⟨_, _, x3, e3, _, hx3, hc3⟩ := ((hA.out).keep hG.out).at_ (i := 4 * k + 3) (by omega)
      cases e1; cases e2; cases e3
      have c0 : wr.cell? ⟨bb, off + 4 * k, none⟩ = some (.int .u8 x0) := by simpa using hc0 0 _ rfl
      have c1 : wr.cell? ⟨bb, off + (4 * k + 1), none⟩ = some (.int .u8 x1) := by simpa using hc1 0 _ rfl
      have c2 : wr.cell? ⟨bb, off + (4 * k + 2), none⟩ = some (.int .u8 x2) := by simpa using hc2 0 _ rfl
      have c3 : wr.cell? ⟨bb, off + (4 * k + 3), none⟩ = some (.int .u8 x3) := by simpa using hc3 0 _ rfl
      have hw := be4_walk (hb.out x0 (List.mem_of_getElem? hx0)) (hb.out x1 (List.mem_of_getElem? hx1)) (hb.out x2 (List.mem_of_getElem? hx2)) (hb.out x3 (List.mem_of_getElem? hx3))
      have hbe : x0 * 16777216 + x1 * 65536 + x2 * 256 + x3 = be4 b k := by
        unfold be4
        simp only [List.getD_eq_getElem?_getD, hx0, hx1, hx2, hx3, Option.getD_some]
      have hb0 : Hid (x0 < 256) := hb.out x0 (List.mem_of_getElem? hx0)
      have hb1 : Hid (x1 < 256) := hb.out x1 (List.mem_of_getElem? hx1)
      have hb2 : Hid (x2 < 256) := hb.out x2 (List.mem_of_getElem? hx2)
      have hb3 : Hid (x3 < 256) := hb.out x3 (List.mem_of_getElem? hx3)
      rw [hbe] at hw
      have hl : ((firsts b).take k).length = k := take_len (by omega)
      have s0 : wr.cell? ⟨gw, k, none⟩ = some (.int .u32 0) := by
        have h1 := pad64_next (l := (firsts b).take k) (by omega)
        have := (hB.out.cell k).trans (u32s_at (by rw [pad64_len (by omega)]; omega))
        rw [hl] at h1
        rw [h1] at this
        exact this
      have f0 := hB.out.frozen k
      have z0 := hB.out.lt
      clear hx0 hx1 hx2 hx3 hc0 hc1 hc2 hc3 hbe
      generalize hX : be4 b k = X at *
      replace hX := Lib.hid hX
      replace hl := Lib.hid hl
      go_wp2_with fail
      refine wp_region_k (by kernel_rfl) ?_
      refine wpAnyK_run (l' := #[true, true, true, true, true, true, true, true, true, true, true, true, true, true, true, true, true, true, true, true, true, true, true, true, true, true, true, true, true, true, true, true, true, true, true, false]) [0, 1, 2, 3, 4, 5, 6, 7, 8, 9, 10, 11, 12, 13, 14, 15, 16, 17, 18, 19, 20, 21, 22, 23, 24, 25, 26, 27, 28, 29, 30, 31, 32, 33, 34] 1 up_grows (by kernel_rfl) (by intro c a d v w h; first | (cases d <;> exact h) | exact hQ0 _ _ _ _ _ h) rfl (by kernel_rfl) (by kernel_rfl) ?_
      iterate 35 (refine wpMixC_q rfl (fun K hK => ?_); go_simp; (try go_bits); first | (refine hK.out _ ?_; clear hK K) | (apply Exists.intro; refine ⟨fun wq hsq => ?_, hK.out _ ?_⟩; (first | (go_simp; done) | ((try go_simp); (try simp only [↓IntWalk.iteOmega]); (try go_bits); rfl) | (obtain ⟨hcq, hfq⟩ := bcells hsq; go_simp; done) | (obtain ⟨hcq, hfq⟩ := bcells hsq; (try go_simp); (try simp only [↓IntWalk.iteOmega]); (try go_bits); rfl)); clear hK K))
      refine wpMixC_nil ?_
      refine wpAnyK_last (i := 35) rfl (by kernel_rfl) (by kernel_rfl) (fun wN hN hS K' hK => ?_)
      clear hS
      have s1 := hN.cell s0
      have f1 : wN.frozen? ⟨gw, k, none⟩ = false := ((bcells hN).2 _ _ z0).trans f0
      have hB2 := (hB.out.grows hN).set_ k (.int .u32 (X : Int))
      have hG2 := (hG.out.trans hN).setCell (p := ⟨gw, k, none⟩) (Nat.le_of_eq hgw.out.symm) (.int .u32 (X : Int))
      replace hB2 := Lib.hid hB2
      replace hG2 := Lib.hid hG2
      go_simp
      refine hK.out _ _ ?_
      clear hK s1 f1 hN hB hG s0 f0 z0 c0 c1 c2 c3
      generalize wN.setCell ⟨gw, k, none⟩ (.int .u32 (X : Int)) = w2 at *
      go_wp2
      go_roundw
      case rel => exact ⟨k + 1, by omega, by go_num, by
        have := hB2.out
        rw [u32s_set] at this
        have h2 := pad64_set (l := (firsts b).take k) X (by rw [hl.out]; omega)
        rw [hl.out] at h2
        rw [h2, ← hX.out, ← firsts_take b hlt] at this
        exact this, hG2⟩
      case measure => simp [intOf]; omega
    · obtain rfl : k = 16 := by omega
      have hB' : Hid (Blk wr gw 119 (u32s (pad64 (words 0 (firsts b))))) := by
        have := hB.out
        rw [List.take_of_length_le (Nat.le_of_eq (firsts_len b))] at this
        exact this
      clear hB
      go_wp2
      exact ⟨hB', hG⟩
end Go.Proofs.YtfoffneipdkdjaaGreatDoor
namespace Go.Proofs.YtfoffneipdkdjaaGreatDoor
open Go.RowKit

set_option maxRecDepth 100000 in
set_option maxHeartbeats 1600000 in
theorem round_l2 {b : List Nat} {gw g6 : Nat} {w w3 : World} {Q0 : Exit → Act → World → Prop} {x0 x1 x2 x3 x5 x9 x10 x11 x12 x13 x14 x15 x16 x17 x18 x19 x20 x21 x22 x23 x24 x25 x26 x27 x28 x29 x30 x31 x32 x33 x34 x35 x36 x37 x38 x39 x40 x41 x42 x43 x44 x45 x46 x47 x48 x49 x50 x51 x52 x53 x54 x55 x56 x57 x58 x59 x60 x61 x62 x63 x64 x65 x66 x67 x68 x69 x70 x71 x72 x73 x74 x75 x76 x77 x78 x79 x80 x81 x82 x83 x84 x85 x86 x87 x88 x89 x90 x91 x92 x93 x94 x95 x96 x97 x98 x99 x100 x101 x102 x103 x104 x105 x106 x107 x108 x109 x110 x111 x112 x113 x114 x115 x116 x117 x118 x119 x120 x121 x122 x123 x124 x125 x126 x127 x128 x129 x130 x131 x132 x133 x134 x135 x136 x137 x138 x139 x140 x141 x142 x143 x144 x145 x146 x147 x148 x149 x150 x151 x152 x153 x154 x155 x156 x157 x158 x159 x160 x161 x162 x163 x164 x165 x166 x167 x168 x169 x170 x171 x172 x173 x174 x175 : Value}
    (hb : Hid (∀ x ∈ b, x < 256)) (hgw : Hid (gw = w.heap.size)) (hlt6 : Hid (gw < g6)) (hB' : Hid (Blk w3 gw 119 (u32s (pad64 (words 0 (firsts b)))))) (hB6 : Hid (Blk w3 g6 193 #[.int .i64 7, .int .i64 18, .int .i64 0, .int .i64 3])) (hB7 : Hid (Blk w3 (g6 + 1) 193 #[.int .i64 17, .int .i64 19, .int .i64 0, .int .i64 10])) (hG4 : Hid (Grows w w3))
    (hQ0 : ∀ c a d v w, Q0 (.panic c) (Act.put a d v) w → Q0 (.panic c) a w)
    (hexit : ∀ (u8 u58 u59 u60 u61 u62 u63 u64 u65 u66 u67 u68 u69 u70 u71 u72 u73 u74 u75 u76 u77 u78 u79 u80 u81 u82 u83 u84 u85 u86 : Value) (wr : World), Hid (Blk wr gw 119 (u32s (words 48 (firsts b)))) ∧ Hid (Grows w wr) → Q0 (.exit 2) ⟨(x0 :: x1 :: x2 :: x3 :: (.pointer (some ⟨gw, 0, none⟩)) :: x5 :: (.pointer (some ⟨g6, 0, none⟩)) :: (.pointer (some ⟨g6 + 1, 0, none⟩)) :: u8 :: x9 :: x10 :: x11 :: x12 :: x13 :: x14 :: x15 :: x16 :: x17 :: x18 :: x19 :: x20 :: x21 :: x22 :: x23 :: x24 :: x25 :: x26 :: x27 :: x28 :: x29 :: x30 :: x31 :: x32 :: x33 :: x34 :: x35 :: x36 :: x37 :: x38 :: x39 :: x40 :: x41 :: x42 :: x43 :: x44 :: x45 :: x46 :: x47 :: x48 :: x49 :: x50 :: x51 :: x52 :: x53 :: x54 :: x55 :: x56 :: x57 :: u58 :: u59 :: u60 :: u61 :: u62 :: u63 :: u64 :: u65 :: u66 :: u67 :: u68 :: u69 :: u70 :: u71 :: u72 :: u73 :: u74 :: u75 :: u76 :: u77 :: u78 :: u79 :: u80 :: u81 :: u82 :: u83 :: u84 :: u85 :: u86 :: x87 :: x88 :: x89 :: x90 :: x91 :: x92 :: x93 :: x94 :: x95 :: x96 :: x97 :: x98 :: x99 :: x100 :: x101 :: x102 :: x103 :: x104 :: x105 :: x106 :: x107 :: x108 :: x109 :: x110 :: x111 :: x112 :: x113 :: x114 :: x115 :: x116 :: x117 :: x118 :: x119 :: x120 :: x121 :: x122 :: x123 :: x124 :: x125 :: x126 :: x127 :: x128 :: x129 :: x130 :: x131 :: x132 :: x133 :: x134 :: x135 :: x136 :: x137 :: x138 :: x139 :: x140 :: x141 :: x142 :: x143 :: x144 :: x145 :: x146 :: x147 :: x148 :: x149 :: x150 :: x151 :: x152 :: x153 :: x154 :: x155 :: x156 :: x157 :: x158 :: x159 :: x160 :: x161 :: x162 :: x163 :: x164 :: x165 :: x166 :: x167 :: x168 :: x169 :: x170 :: x171 :: x172 :: x173 :: x174 :: x175 :: []).toArray, []⟩ wr) :
    Code.wp Tryz.prog (loopAt Tryz.f130 1) Q0 ⟨(x0 :: x1 :: x2 :: x3 :: (.pointer (some ⟨gw, 0, none⟩)) :: x5 :: (.pointer (some ⟨g6, 0, none⟩)) :: (.pointer (some ⟨g6 + 1, 0, none⟩)) :: (.int .i64 16) :: x9 :: x10 :: x11 :: x12 :: x13 :: x14 :: x15 :: x16 :: x17 :: x18 :: x19 :: x20 :: x21 :: x22 :: x23 :: x24 :: x25 :: x26 :: x27 :: x28 :: x29 :: x30 :: x31 :: x32 :: x33 :: x34 :: x35 :: x36 :: x37 :: x38 :: x39 :: x40 :: x41 :: x42 :: x43 :: x44 :: x45 :: x46 :: x47 :: x48 :: x49 :: x50 :: x51 :: x52 :: x53 :: x54 :: x55 :: x56 :: x57 :: x58 :: x59 :: x60 :: x61 :: x62 :: x63 :: x64 :: x65 :: x66 :: x67 :: x68 :: x69 :: x70 :: x71 :: x72 :: x73 :: x74 :: x75 :: x76 :: x77 :: x78 :: x79 :: x80 :: x81 :: x82 :: x83 :: x84 :: x85 :: x86 :: x87 :: x88 :: x89 :: x90 :: x91 :: x92 :: x93 :: x94 :: x95 :: x96 :: x97 :: x98 :: x99 :: x100 :: x101 :: x102 :: x103 :: x104 :: x105 :: x106 :: x107 :: x108 :: x109 :: x110 :: x111 :: x112 :: x113 :: x114 :: x115 :: x116 :: x117 :: x118 :: x119 :: x120 :: x121 :: x122 :: x123 :: x124 :: x125 :: x126 :: x127 :: x128 :: x129 :: x130 :: x131 :: x132 :: x133 :: x134 :: x135 :: x136 :: x137 :: x138 :: x139 :: x140 :: x141 :: x142 :: x143 :: x144 :: x145 :: x146 :: x147 :: x148 :: x149 :: x150 :: x151 :: x152 :: x153 :: x154 :: x155 :: x156 :: x157 :: x158 :: x159 :: x160 :: x161 :: x162 :: x163 :: x164 :: x165 :: x166 :: x167 :: x168 :: x169 :: x170 :: x171 :: x172 :: x173 :: x174 :: x175 :: []).toArray, []⟩ w3 := by
  conv => arg 2; whnf
  go_loopw [8] (fun i wr => ∃ m : Nat, 16 ≤ m ∧ m ≤ 64 ∧ i = .int .i64 m ∧ Hid (Blk wr gw 119 (u32s (pad64 (words (m - 16) (firsts b))))) ∧ Hid (Blk wr g6 193 #[.int .i64 7, .int .i64 18, .int .i64 0, .int .i64 3]) ∧ Hid (Blk wr (g6 + 1) 193 #[.int .i64 17, .int .i64 19, .int .i64 0, .int .i64 10]) ∧ Hid (Grows w wr)) (fun i _ => 64 - (intOf i).toNat)
  case atStart => exact ⟨16, by omega, by omega, rfl, hB', hB6, hB7, hG4⟩
  case round =>
    clear hB' hB6 hB7 hG4
    obtain ⟨m, hm1, hm2, rfl, hB, hB6, hB7, hG⟩ := hrel
    by_cases hlt : m < 64
    · have hlen : (words (m - 16) (firsts b)).length = m := by rw [words_len, firsts_len]; omega
      have hWd := words_Wd hb.out (m - 16)
      have hat : ∀ j, j < m → wr.cell? ⟨gw, j, none⟩ = some (.int .u32 (((words (m - 16) (firsts b)).getD j 0 : Nat) : Int)) := fun j hj => by
        have := (hB.out.cell j).trans (u32s_at (by rw [pad64_len (by omega)]; omega))
        rw [pad64_at (by omega)] at this
        exact this
      have c0 := hat (m - 16) (by omega)
      have c1 := hat (m - 15) (by omega)
      have c2 := hat (m - 7) (by omega)
      have c3 := hat (m - 2) (by omega)
      have hq := hWd (m - 15)
      have hs := hWd (m - 2)
      have cL := fun W => mixLow_any hq W
      have cH := fun W => mixHigh_any hs W
      have hN1 := words_next (n := m - 16) (b := b)
      rw [show m - 16 + 1 = m - 15 by omega, show m - 16 + 9 = m - 7 by omega, show m - 16 + 14 = m - 2 by omega] at hN1
      unfold wordOf at hN1
      have s0 : wr.cell? ⟨gw, m, none⟩ = some (.int .u32 0) := by
        have h1 := pad64_next (l := words (m - 16) (firsts b)) (by omega)
        have := (hB.out.cell m).trans (u32s_at (by rw [pad64_len (by omega)]; omega))
        rw [hlen] at h1
        rw [h1] at this
        exact this
      have f0 := hB.out.frozen m
      have z0 := hB.out.lt
      have d0 := hB6.out.cell 0
      have d1 := hB6.out.cell 1
      have d2 := hB6.out.cell 2
      have d3 := hB6.out.cell 3
      have z6 := hB6.out.lt
      have e0 := hB7.out.cell 0
      have e1 := hB7.out.cell 1
      have e2 := hB7.out.cell 2
      have e3 := hB7.out.cell 3
      have z7 := hB7.out.lt
      clear hWd hat hq hs
      generalize (words (m - 16) (firsts b)).getD (m - 16) 0 = p at *
      generalize (words (m - 16) (firsts b)).getD (m - 15) 0 = q at *
      generalize (words (m - 16) (firsts b)).getD (m - 7) 0 = r at *
      generalize (words (m - 16) (firsts b)).getD (m - 2) 0 = s at *
      generalize sigS 7 18 3 q = L at *
      generalize sigS 17 19 10 s = H at *
      have hw := wordOf_walk p L r H
      rw [← hN1] at hw
      generalize hX : wordNext (words (m - 16) (firsts b)) = X at *
      replace hX := Lib.hid hX
      clear hN1
      replace hlen := Lib.hid hlen
      replace cL := Lib.hid cL
      replace cH := Lib.hid cH
      go_wp2_with fail
      refine wp_region_k (by kernel_rfl) ?_
      refine wpAnyK_run (l' := #[true, true, true, true, true, true, true, true, true, true, true, true, true, true, true, true, true, true, true, true, true, true, true, true, true, false]) [0, 1, 2, 3, 4, 5, 6, 7, 8, 9, 10, 11, 12, 13, 14, 15, 16, 17, 18, 19, 20, 21, 22, 23, 24] 1 up_grows (by kernel_rfl) (by intro c a d v w h; first | (cases d <;> exact h) | exact hQ0 _ _ _ _ _ h) rfl (by kernel_rfl) (by kernel_rfl) ?_
      iterate 10 (refine wpMixC_q rfl (fun K hK => ?_); go_simp; (try go_bits); first | (refine hK.out _ ?_; clear hK K) | (apply Exists.intro; refine ⟨fun wq hsq => ?_, hK.out _ ?_⟩; (first | (go_simp; done) | ((try go_simp); (try simp only [↓IntWalk.iteOmega]); (try go_bits); rfl) | (obtain ⟨hcq, hfq⟩ := bcells hsq; go_simp; done) | (obtain ⟨hcq, hfq⟩ := bcells hsq; (try go_simp); (try simp only [↓IntWalk.iteOmega]); (try go_bits); rfl)); clear hK K))
      refine wpMixC_c (.int .u32 (L : Int)) rfl (by first | rfl | (go_simp; done)) (fun wq hsq => ?_) ?_
      · obtain ⟨hcq, hfq⟩ := bcells hsq
        go_simp
        exact Calls.mono (cL.out wq) (fun e w'' h => h)
      go_simp
      iterate 11 (refine wpMixC_q rfl (fun K hK => ?_); go_simp; (try go_bits); first | (refine hK.out _ ?_; clear hK K) | (apply Exists.intro; refine ⟨fun wq hsq => ?_, hK.out _ ?_⟩; (first | (go_simp; done) | ((try go_simp); (try simp only [↓IntWalk.iteOmega]); (try go_bits); rfl) | (obtain ⟨hcq, hfq⟩ := bcells hsq; go_simp; done) | (obtain ⟨hcq, hfq⟩ := bcells hsq; (try go_simp); (try simp only [↓IntWalk.iteOmega]); (try go_bits); rfl)); clear hK K))
      refine wpMixC_c (.int .u32 (H : Int)) rfl (by first | rfl | (go_simp; done)) (fun wq hsq => ?_) ?_
      · obtain ⟨hcq, hfq⟩ := bcells hsq
        go_simp
        exact Calls.mono (cH.out wq) (fun e w'' h => h)
      go_simp
      iterate 2 (refine wpMixC_q rfl (fun K hK => ?_); go_simp; (try go_bits); first | (refine hK.out _ ?_; clear hK K) | (apply Exists.intro; refine ⟨fun wq hsq => ?_, hK.out _ ?_⟩; (first | (go_simp; done) | ((try go_simp); (try simp only [↓IntWalk.iteOmega]); (try go_bits); rfl) | (obtain ⟨hcq, hfq⟩ := bcells hsq; go_simp; done) | (obtain ⟨hcq, hfq⟩ := bcells hsq; (try go_simp); (try simp only [↓IntWalk.iteOmega]); (try go_bits); rfl)); clear hK K))
      refine wpMixC_nil ?_
      refine wpAnyK_last (i := 25) rfl (by kernel_rfl) (by kernel_rfl) (fun wN hN hS K' hK => ?_)
      clear hS
      have s1 := hN.cell s0
      have f1 : wN.frozen? ⟨gw, m, none⟩ = false := ((bcells hN).2 _ _ z0).trans f0
      have hB2 := (hB.out.grows hN).set_ m (.int .u32 (X : Int))
      have hG2 := (hG.out.trans hN).setCell (p := ⟨gw, m, none⟩) (Nat.le_of_eq hgw.out.symm) (.int .u32 (X : Int))
      have hB62 := (hB6.out.grows hN).far (p := ⟨gw, m, none⟩) (Nat.ne_of_gt hlt6.out) (.int .u32 (X : Int))
      have hB72 := (hB7.out.grows hN).far (p := ⟨gw, m, none⟩) (Nat.ne_of_gt (Nat.lt_succ_of_lt hlt6.out)) (.int .u32 (X : Int))
      replace hB2 := Lib.hid hB2
      replace hG2 := Lib.hid hG2
      replace hB62 := Lib.hid hB62
      replace hB72 := Lib.hid hB72
      go_simp
      refine hK.out _ _ ?_
      clear hK s1 f1 hN hB hG hB6 hB7 s0 f0 z0 z6 z7 c0 c1 c2 c3 d0 d1 d2 d3 e0 e1 e2 e3
      generalize wN.setCell ⟨gw, m, none⟩ (.int .u32 (X : Int)) = w2 at *
      go_wp2
      go_roundw
      case rel => exact ⟨m + 1, by omega, by omega, by go_num, by
        have := hB2.out
        rw [u32s_set] at this
        have h2 := pad64_set (l := words (m - 16) (firsts b)) X (by rw [hlen.out]; omega)
        rw [hlen.out, ← hX.out, ← words_succ] at h2
        rw [← hX.out, h2] at this
        rw [show m + 1 - 16 = m - 16 + 1 by omega]
        exact this, hB62, hB72, hG2⟩
      case measure => simp [intOf]; omega
    · obtain rfl : m = 64 := by omega
      have hB' : Hid (Blk wr gw 119 (u32s (words 48 (firsts b)))) := by
        have := hB.out
        rw [pad64_full (by rw [words_len, firsts_len])] at this
        exact this
      clear hB hlt6 hB6 hB7
      go_wp2
      exact ⟨hB', hG⟩
end Go.Proofs.YtfoffneipdkdjaaGreatDoor
namespace Go.Proofs.YtfoffneipdkdjaaGreatDoor
open Go.RowKit

set_option maxRecDepth 100000 in
set_option maxHeartbeats 1600000 in
theorem round_l3 {KA : Array Value} {WL : List Nat} {RV : Nat → V8} {KF : Nat → Nat} {gw g9 : Nat} {w w5 : World} {Q0 : Exit → Act → World → Prop} {x0 x1 x2 x3 x5 x6 x7 x8 x12 x13 x14 x15 x16 x17 x18 x19 x20 x21 x22 x23 x24 x25 x26 x27 x28 x29 x30 x31 x32 x33 x34 x35 x36 x37 x38 x39 x40 x41 x42 x43 x44 x45 x46 x47 x48 x49 x50 x51 x52 x53 x54 x55 x56 x57 x58 x59 x60 x61 x62 x63 x64 x65 x66 x67 x68 x69 x70 x71 x72 x73 x74 x75 x76 x77 x78 x79 x80 x81 x82 x83 x84 x85 x86 x87 x88 x89 x90 x91 x92 x95 x96 x97 x98 x99 x100 x101 x102 x103 x104 x105 x106 x107 x108 x109 x110 x111 x112 x113 x114 x115 x116 x117 x118 x119 x120 x121 x122 x123 x124 x125 x126 x127 x128 x129 x130 x131 x132 x133 x134 x135 x136 x137 x138 x139 x140 x141 x142 x143 x144 x145 x146 x147 x148 x149 x150 x151 x152 x153 x154 x155 x156 x157 x158 x159 x160 x161 x162 x163 x164 x165 x166 x167 x168 x169 x170 x171 x172 x173 x174 x175 : Value}
    (hKat : Hid (∀ k, k < 64 → KA[k]? = some (.int .u32 ((KF k : Nat) : Int)))) (hWat : Hid (∀ k, k < 64 → (u32s WL)[k]? = some (.int .u32 ((WL.getD k 0 : Nat) : Int)))) (hrd : Hid (∀ k, RV (k + 1) = stepV (RV k) (KF k) (WL.getD k 0))) (hok : Hid (∀ k, (RV k).ok))
    (hgw : Hid (gw = w.heap.size)) (hlt9 : Hid (gw < g9)) (hB' : Hid (Blk w5 gw 119 (u32s WL))) (hB9 : Hid (Blk w5 g9 193 #[.int .i64 6, .int .i64 11, .int .i64 25, .int .i64 0])) (hB10 : Hid (Blk w5 (g9 + 1) 193 #[.int .i64 2, .int .i64 13, .int .i64 22, .int .i64 0])) (hB11 : Hid (Blk w5 (g9 + 1 + 1) 117 (u32s (eightL (RV 0))))) (hG5 : Hid (Grows w w5))
    (hQ0 : ∀ c a d v w, Q0 (.panic c) (Act.put a d v) w → Q0 (.panic c) a w)
    (hexit : ∀ (u12 u13 u14 u15 u94 u95 u96 u97 u98 u99 u100 u101 u102 u103 u104 u105 u106 u107 u108 u109 u110 u111 u112 u113 u114 u115 u116 u117 u118 u119 u120 u121 u122 u123 u124 u125 u126 u127 u128 u129 u130 u131 u132 u133 u134 u135 u136 u137 u138 u139 u140 u141 u142 u143 u144 u145 u146 u147 u148 u149 u150 u151 u152 u153 u154 u155 u156 u157 u158 : Value) (wr : World), Hid (Blk wr (g9 + 1 + 1) 117 (u32s (eightL (RV 64)))) ∧ Hid (Grows w wr) → Q0 (.exit 4) ⟨(x0 :: x1 :: x2 :: x3 :: (.pointer (some ⟨gw, 0, none⟩)) :: x5 :: x6 :: x7 :: x8 :: (.pointer (some ⟨g9, 0, none⟩)) :: (.pointer (some ⟨g9 + 1, 0, none⟩)) :: (.pointer (some ⟨g9 + 1 + 1, 0, none⟩)) :: u12 :: u13 :: u14 :: u15 :: x16 :: x17 :: x18 :: x19 :: x20 :: x21 :: x22 :: x23 :: x24 :: x25 :: x26 :: x27 :: x28 :: x29 :: x30 :: x31 :: x32 :: x33 :: x34 :: x35 :: x36 :: x37 :: x38 :: x39 :: x40 :: x41 :: x42 :: x43 :: x44 :: x45 :: x46 :: x47 :: x48 :: x49 :: x50 :: x51 :: x52 :: x53 :: x54 :: x55 :: x56 :: x57 :: x58 :: x59 :: x60 :: x61 :: x62 :: x63 :: x64 :: x65 :: x66 :: x67 :: x68 :: x69 :: x70 :: x71 :: x72 :: x73 :: x74 :: x75 :: x76 :: x77 :: x78 :: x79 :: x80 :: x81 :: x82 :: x83 :: x84 :: x85 :: x86 :: x87 :: x88 :: x89 :: x90 :: x91 :: x92 :: (.agg KA) :: u94 :: u95 :: u96 :: u97 :: u98 :: u99 :: u100 :: u101 :: u102 :: u103 :: u104 :: u105 :: u106 :: u107 :: u108 :: u109 :: u110 :: u111 :: u112 :: u113 :: u114 :: u115 :: u116 :: u117 :: u118 :: u119 :: u120 :: u121 :: u122 :: u123 :: u124 :: u125 :: u126 :: u127 :: u128 :: u129 :: u130 :: u131 :: u132 :: u133 :: u134 :: u135 :: u136 :: u137 :: u138 :: u139 :: u140 :: u141 :: u142 :: u143 :: u144 :: u145 :: u146 :: u147 :: u148 :: u149 :: u150 :: u151 :: u152 :: u153 :: u154 :: u155 :: u156 :: u157 :: u158 :: x159 :: x160 :: x161 :: x162 :: x163 :: x164 :: x165 :: x166 :: x167 :: x168 :: x169 :: x170 :: x171 :: x172 :: x173 :: x174 :: x175 :: []).toArray, []⟩ wr) :
    Code.wp Tryz.prog (loopAt Tryz.f130 2) Q0 ⟨(x0 :: x1 :: x2 :: x3 :: (.pointer (some ⟨gw, 0, none⟩)) :: x5 :: x6 :: x7 :: x8 :: (.pointer (some ⟨g9, 0, none⟩)) :: (.pointer (some ⟨g9 + 1, 0, none⟩)) :: (.pointer (some ⟨g9 + 1 + 1, 0, none⟩)) :: x12 :: x13 :: x14 :: x15 :: x16 :: x17 :: x18 :: x19 :: x20 :: x21 :: x22 :: x23 :: x24 :: x25 :: x26 :: x27 :: x28 :: x29 :: x30 :: x31 :: x32 :: x33 :: x34 :: x35 :: x36 :: x37 :: x38 :: x39 :: x40 :: x41 :: x42 :: x43 :: x44 :: x45 :: x46 :: x47 :: x48 :: x49 :: x50 :: x51 :: x52 :: x53 :: x54 :: x55 :: x56 :: x57 :: x58 :: x59 :: x60 :: x61 :: x62 :: x63 :: x64 :: x65 :: x66 :: x67 :: x68 :: x69 :: x70 :: x71 :: x72 :: x73 :: x74 :: x75 :: x76 :: x77 :: x78 :: x79 :: x80 :: x81 :: x82 :: x83 :: x84 :: x85 :: x86 :: x87 :: x88 :: x89 :: x90 :: x91 :: x92 :: (.agg KA) :: (.int .i64 0) :: x95 :: x96 :: x97 :: x98 :: x99 :: x100 :: x101 :: x102 :: x103 :: x104 :: x105 :: x106 :: x107 :: x108 :: x109 :: x110 :: x111 :: x112 :: x113 :: x114 :: x115 :: x116 :: x117 :: x118 :: x119 :: x120 :: x121 :: x122 :: x123 :: x124 :: x125 :: x126 :: x127 :: x128 :: x129 :: x130 :: x131 :: x132 :: x133 :: x134 :: x135 :: x136 :: x137 :: x138 :: x139 :: x140 :: x141 :: x142 :: x143 :: x144 :: x145 :: x146 :: x147 :: x148 :: x149 :: x150 :: x151 :: x152 :: x153 :: x154 :: x155 :: x156 :: x157 :: x158 :: x159 :: x160 :: x161 :: x162 :: x163 :: x164 :: x165 :: x166 :: x167 :: x168 :: x169 :: x170 :: x171 :: x172 :: x173 :: x174 :: x175 :: []).toArray, []⟩ w5 := by
  conv => arg 2; whnf
  go_loopw [94] (fun i wr => ∃ k : Nat, k ≤ 64 ∧ i = .int .i64 k ∧ Hid (Blk wr gw 119 (u32s WL)) ∧ Hid (Blk wr g9 193 #[.int .i64 6, .int .i64 11, .int .i64 25, .int .i64 0]) ∧ Hid (Blk wr (g9 + 1) 193 #[.int .i64 2, .int .i64 13, .int .i64 22, .int .i64 0]) ∧ Hid (Blk wr (g9 + 1 + 1) 117 (u32s (eightL (RV k)))) ∧ Hid (Grows w wr)) (fun i _ => 64 - (intOf i).toNat)
  case atStart => exact ⟨0, by omega, rfl, hB', hB9, hB10, hB11, hG5⟩
  case round =>
    clear hB' hB9 hB10 hB11 hG5
    obtain ⟨k, hk, rfl, hB, hB9, hB10, hB11, hG⟩ := hrel
    by_cases hlt : k < 64
    · have hka := hKat.out k hlt
      have hka := run_index64 hlt hka
      have hwa := (hB.out.cell k).trans (hWat.out k hlt)
      have hst := hrd.out k
      have hu := hok.out k
      generalize RV k = u at *
      obtain ⟨a, b', c', d, e, f, g', z'⟩ := u
      have q0 : wr.cell? ⟨g9 + 1 + 1, 0, none⟩ = some (.int .u32 (a : Int)) := hB11.out.cell 0
      have q1 : wr.cell? ⟨g9 + 1 + 1, 1, none⟩ = some (.int .u32 (b' : Int)) := hB11.out.cell 1
      have q2 : wr.cell? ⟨g9 + 1 + 1, 2, none⟩ = some (.int .u32 (c' : Int)) := hB11.out.cell 2
      have q3 : wr.cell? ⟨g9 + 1 + 1, 3, none⟩ = some (.int .u32 (d : Int)) := hB11.out.cell 3
      have q4 : wr.cell? ⟨g9 + 1 + 1, 4, none⟩ = some (.int .u32 (e : Int)) := hB11.out.cell 4
      have q5 : wr.cell? ⟨g9 + 1 + 1, 5, none⟩ = some (.int .u32 (f : Int)) := hB11.out.cell 5
      have q6 : wr.cell? ⟨g9 + 1 + 1, 6, none⟩ = some (.int .u32 (g' : Int)) := hB11.out.cell 6
      have q7 : wr.cell? ⟨g9 + 1 + 1, 7, none⟩ = some (.int .u32 (z' : Int)) := hB11.out.cell 7
      have qz := hB11.out.lt
      have d0 := hB10.out.cell 0
      have d1 := hB10.out.cell 1
      have d2 := hB10.out.cell 2
      have d3 := hB10.out.cell 3
      have dz := hB10.out.lt
      clear d0 d1 d2 d3 dz
      have d0 := hB9.out.cell 0
      have d1 := hB9.out.cell 1
      have d2 := hB9.out.cell 2
      have d3 := hB9.out.cell 3
      have dz := hB9.out.lt
      have wz := hB.out.lt
      have cE := fun W => mixBig_any (x := e) hu.2.2.2.2.1 W
      have cA := fun W => mixSmall_any (x := a) hu.1 W
      generalize WL.getD k 0 = Wk at *
      generalize KF k = Kk at *
      generalize hSE : sig 6 11 25 e = SE at *
      generalize hSA : sig 2 13 22 a = SA at *
      have hch := ch_walk (e := e) (f := f) (g := g') hu.2.2.2.2.1
      have hmj := maj_walk (a := a) (b := b') (c := c') hu.1 hu.2.1
      have hT : ((z' : Int) + (SE : Int) + (((e &&& f) ^^^ (notW e &&& g') : Nat) : Int) + (Kk : Int) + (Wk : Int)) % 4294967296 = ((tOf ⟨a, b', c', d, e, f, g', z'⟩ Kk Wk : Nat) : Int) := by
        unfold tOf t1
        simp only [hSE]
        omega
      have hU : ((SA : Int) + (((a &&& b') ^^^ (a &&& c') ^^^ (b' &&& c') : Nat) : Int)) % 4294967296 = ((uOf ⟨a, b', c', d, e, f, g', z'⟩ : Nat) : Int) := by
        unfold uOf
        simp only [hSA]
        omega
      unfold stepV at hst
      simp only at hst
      generalize tOf ⟨a, b', c', d, e, f, g', z'⟩ Kk Wk = T at *
      generalize uOf ⟨a, b', c', d, e, f, g', z'⟩ = U at *
      generalize (e &&& f) ^^^ (notW e &&& g') = CH at *
      generalize (a &&& b') ^^^ (a &&& c') ^^^ (b' &&& c') = MJ at *
      replace cE := Lib.hid cE
      replace cA := Lib.hid cA
      replace hst := Lib.hid hst
      replace hSE := Lib.hid hSE
      replace hSA := Lib.hid hSA
      replace hu := Lib.hid hu
      go_wp2_with fail
      refine wp_region_k (by kernel_rfl) ?_
      refine wpAnyK_run (l' := #[true, true, true, true, true, true, true, true, true, true, true, true, true, true, true, true, true, true, true, true, true, true, true, true, true, true, true]) [0, 1, 2, 3, 4, 5, 6, 7, 8, 9, 10, 11, 12, 13, 14, 15, 16, 17, 18, 19, 20, 21, 22, 23, 24, 25, 26] 0 up_grows (by kernel_rfl) (by intro c a d v w h; first | (cases d <;> exact h) | exact hQ0 _ _ _ _ _ h) rfl (by kernel_rfl) (by kernel_rfl) ?_
      iterate 5 (refine wpMixC_q rfl (fun K hK => ?_); go_simp; (try go_bits); first | (refine hK.out _ ?_; clear hK K) | (apply Exists.intro; refine ⟨fun wq hsq => ?_, hK.out _ ?_⟩; (first | (go_simp; done) | ((try go_simp); (try simp only [↓IntWalk.iteOmega]); (try go_bits); rfl) | (obtain ⟨hcq, hfq⟩ := bcells hsq; go_simp; done) | (obtain ⟨hcq, hfq⟩ := bcells hsq; (try go_simp); (try simp only [↓IntWalk.iteOmega]); (try go_bits); rfl)); clear hK K))
      refine wpMixC_c (.int .u32 (SE : Int)) rfl (by first | rfl | (go_simp; done)) (fun wq hsq => ?_) ?_
      · obtain ⟨hcq, hfq⟩ := bcells hsq
        go_simp
        exact Calls.mono (cE.out wq) (fun e w'' h => h)
      go_simp
      iterate 21 (refine wpMixC_q rfl (fun K hK => ?_); go_simp; (try go_bits); first | (refine hK.out _ ?_; clear hK K) | (apply Exists.intro; refine ⟨fun wq hsq => ?_, hK.out _ ?_⟩; (first | (go_simp; done) | ((try go_simp); (try simp only [↓IntWalk.iteOmega]); (try go_bits); rfl) | (obtain ⟨hcq, hfq⟩ := bcells hsq; go_simp; done) | (obtain ⟨hcq, hfq⟩ := bcells hsq; (try go_simp); (try simp only [↓IntWalk.iteOmega]); (try go_bits); rfl)); clear hK K))
      refine wpMixC_nil ?_
      refine wpAnyK_end (by kernel_rfl) (fun wN hN hS => ?_)
      clear q0 q1 q2 q3 q4 q5 q6 q7 qz d0 d1 d2 d3 dz wz hwa hka
      replace hB := Lib.hid (hB.out.grows hN)
      replace hB9 := Lib.hid (hB9.out.grows hN)
      replace hB10 := Lib.hid (hB10.out.grows hN)
      replace hB11 := Lib.hid (hB11.out.grows hN)
      replace hG := Lib.hid (hG.out.trans hN)
      clear hN hS
      have q0 : wN.cell? ⟨g9 + 1 + 1, 0, none⟩ = some (.int .u32 (a : Int)) := hB11.out.cell 0
      have q1 : wN.cell? ⟨g9 + 1 + 1, 1, none⟩ = some (.int .u32 (b' : Int)) := hB11.out.cell 1
      have q2 : wN.cell? ⟨g9 + 1 + 1, 2, none⟩ = some (.int .u32 (c' : Int)) := hB11.out.cell 2
      have q3 : wN.cell? ⟨g9 + 1 + 1, 3, none⟩ = some (.int .u32 (d : Int)) := hB11.out.cell 3
      have q4 : wN.cell? ⟨g9 + 1 + 1, 4, none⟩ = some (.int .u32 (e : Int)) := hB11.out.cell 4
      have q5 : wN.cell? ⟨g9 + 1 + 1, 5, none⟩ = some (.int .u32 (f : Int)) := hB11.out.cell 5
      have q6 : wN.cell? ⟨g9 + 1 + 1, 6, none⟩ = some (.int .u32 (g' : Int)) := hB11.out.cell 6
      have q7 : wN.cell? ⟨g9 + 1 + 1, 7, none⟩ = some (.int .u32 (z' : Int)) := hB11.out.cell 7
      have qz := hB11.out.lt
      have d0 := hB10.out.cell 0
      have d1 := hB10.out.cell 1
      have d2 := hB10.out.cell 2
      have d3 := hB10.out.cell 3
      have dz := hB10.out.lt
      go_wp2_with fail
      refine wp_region_k (by kernel_rfl) ?_
      refine wpAnyK_run (l' := #[true, true, true, true, true, true, true, true, true, true, true, true, true, true, true, true, true, true, true, true, true, true, true]) [0, 1, 2, 3, 4, 5, 6, 7, 8, 9, 10, 11, 12, 13, 14, 15, 16, 17, 18, 19, 20, 21, 22] 0 up_grows (by kernel_rfl) (by intro c a d v w h; first | (cases d <;> exact h) | exact hQ0 _ _ _ _ _ h) rfl (by kernel_rfl) (by kernel_rfl) ?_
      iterate 3 (refine wpMixC_q rfl (fun K hK => ?_); go_simp; (try go_bits); first | (refine hK.out _ ?_; clear hK K) | (apply Exists.intro; refine ⟨fun wq hsq => ?_, hK.out _ ?_⟩; (first | (go_simp; done) | ((try go_simp); (try simp only [↓IntWalk.iteOmega]); (try go_bits); rfl) | (obtain ⟨hcq, hfq⟩ := bcells hsq; go_simp; done) | (obtain ⟨hcq, hfq⟩ := bcells hsq; (try go_simp); (try simp only [↓IntWalk.iteOmega]); (try go_bits); rfl)); clear hK K))
      refine wpMixC_c (.int .u32 (SA : Int)) rfl (by first | rfl | (go_simp; done)) (fun wq hsq => ?_) ?_
      · obtain ⟨hcq, hfq⟩ := bcells hsq
        go_simp
        exact Calls.mono (cA.out wq) (fun e w'' h => h)
      go_simp
      iterate 19 (refine wpMixC_q rfl (fun K hK => ?_); go_simp; (try go_bits); first | (refine hK.out _ ?_; clear hK K) | (apply Exists.intro; refine ⟨fun wq hsq => ?_, hK.out _ ?_⟩; (first | (go_simp; done) | ((try go_simp); (try simp only [↓IntWalk.iteOmega]); (try go_bits); rfl) | (obtain ⟨hcq, hfq⟩ := bcells hsq; go_simp; done) | (obtain ⟨hcq, hfq⟩ := bcells hsq; (try go_simp); (try simp only [↓IntWalk.iteOmega]); (try go_bits); rfl)); clear hK K))
      refine wpMixC_nil ?_
      refine wpAnyK_end (by kernel_rfl) (fun wN hN hS => ?_)
      rename_i wOld
      clear q0 q1 q2 q3 q4 q5 q6 q7 qz d0 d1 d2 d3 dz
      replace hB := Lib.hid (hB.out.grows hN)
      replace hB9 := Lib.hid (hB9.out.grows hN)
      replace hB10 := Lib.hid (hB10.out.grows hN)
      replace hB11 := Lib.hid (hB11.out.grows hN)
      replace hG := Lib.hid (hG.out.trans hN)
      clear hN hS
      have q0 : wN.cell? ⟨g9 + 1 + 1, 0, none⟩ = some (.int .u32 (a : Int)) := hB11.out.cell 0
      have q1 : wN.cell? ⟨g9 + 1 + 1, 1, none⟩ = some (.int .u32 (b' : Int)) := hB11.out.cell 1
      have q2 : wN.cell? ⟨g9 + 1 + 1, 2, none⟩ = some (.int .u32 (c' : Int)) := hB11.out.cell 2
      have q3 : wN.cell? ⟨g9 + 1 + 1, 3, none⟩ = some (.int .u32 (d : Int)) := hB11.out.cell 3
      have q4 : wN.cell? ⟨g9 + 1 + 1, 4, none⟩ = some (.int .u32 (e : Int)) := hB11.out.cell 4
      have q5 : wN.cell? ⟨g9 + 1 + 1, 5, none⟩ = some (.int .u32 (f : Int)) := hB11.out.cell 5
      have q6 : wN.cell? ⟨g9 + 1 + 1, 6, none⟩ = some (.int .u32 (g' : Int)) := hB11.out.cell 6
      have q7 : wN.cell? ⟨g9 + 1 + 1, 7, none⟩ = some (.int .u32 (z' : Int)) := hB11.out.cell 7
      have qz := hB11.out.lt
      have d0 := hB10.out.cell 0
      have d1 := hB10.out.cell 1
      have d2 := hB10.out.cell 2
      have d3 := hB10.out.cell 3
      have dz := hB10.out.lt
      have f0 := hB11.out.frozen
      go_wp2_with fail
      refine wp_region_k (by kernel_rfl) ?_
      refine wpAnyK_run (l' := #[true, true, false]) [0, 1] 1 up_grows (by kernel_rfl) (by intro c a d v w h; first | (cases d <;> exact h) | exact hQ0 _ _ _ _ _ h) rfl (by kernel_rfl) (by kernel_rfl) ?_
      iterate 2 (refine wpMixC_q rfl (fun K hK => ?_); go_simp; (try go_bits); first | (refine hK.out _ ?_; clear hK K) | (apply Exists.intro; refine ⟨fun wq hsq => ?_, hK.out _ ?_⟩; (first | (go_simp; done) | ((try go_simp); (try simp only [↓IntWalk.iteOmega]); (try go_bits); rfl) | (obtain ⟨hcq, hfq⟩ := bcells hsq; go_simp; done) | (obtain ⟨hcq, hfq⟩ := bcells hsq; (try go_simp); (try simp only [↓IntWalk.iteOmega]); (try go_bits); rfl)); clear hK K))
      refine wpMixC_nil ?_
      refine wpAnyK_last (i := 2) rfl (by kernel_rfl) (by kernel_rfl) (fun wN hN hS K' hK => ?_)
      clear hS
      replace hB11 := Lib.hid (hB11.out.grows hN)
      replace hB := Lib.hid (hB.out.grows hN)
      replace hB9 := Lib.hid (hB9.out.grows hN)
      replace hB10 := Lib.hid (hB10.out.grows hN)
      replace hG := Lib.hid (hG.out.trans hN)
      clear q0 q1 q2 q3 q4 q5 q6 q7 qz d0 d1 d2 d3 dz f0 hN
      obtain ⟨w8, hcp, hB11n, hby⟩ := copy8 hB11.out
      replace hB11n := Lib.hid hB11n
      replace hby := Lib.hid hby
      go_simp
      refine hK.out _ _ ?_
      clear hK hcp hB11
      replace hG := Lib.hid (hG.out.by_then hby.out (by have := hlt9.out; have := hgw.out; omega))
      replace hB := Lib.hid (hB.out.by_ hby.out (by have := hlt9.out; omega))
      replace hB9 := Lib.hid (hB9.out.by_ hby.out (by omega))
      replace hB10 := Lib.hid (hB10.out.by_ hby.out (by omega))
      clear hby
      have q0 : w8.cell? ⟨g9 + 1 + 1, 0, none⟩ = some (.int .u32 (a : Int)) := hB11n.out.cell 0
      have q4 : w8.cell? ⟨g9 + 1 + 1, 4, none⟩ = some (.int .u32 (d : Int)) := hB11n.out.cell 4
      have f0 := hB11n.out.frozen 0
      have f4 := hB11n.out.frozen 4
      have qz := hB11n.out.lt
      have hD : ((d : Int) + (T : Int)) % 4294967296 = (((d + T) % 4294967296 : Nat) : Int) := by omega
      have hA' : ((T : Int) + (U : Int)) % 4294967296 = (((T + U) % 4294967296 : Nat) : Int) := by omega
      have hBn := (hB11n.out.set_ 4 (.int .u32 (((d + T) % 4294967296 : Nat) : Int))).set_ 0 (.int .u32 (((T + U) % 4294967296 : Nat) : Int))
      generalize (d + T) % 4294967296 = D' at *
      generalize (T + U) % 4294967296 = A' at *
      rw [u32s_set, u32s_set] at hBn
      have hB3 := (hB.out.far (p := ⟨g9 + 1 + 1, 4, none⟩) (by have := hlt9.out; simp only; omega) (.int .u32 (D' : Int))).far (p := ⟨g9 + 1 + 1, 0, none⟩) (by have := hlt9.out; simp only; omega) (.int .u32 (A' : Int))
      have hB93 := (hB9.out.far (p := ⟨g9 + 1 + 1, 4, none⟩) (by simp only; omega) (.int .u32 (D' : Int))).far (p := ⟨g9 + 1 + 1, 0, none⟩) (by simp only; omega) (.int .u32 (A' : Int))
      have hB103 := (hB10.out.far (p := ⟨g9 + 1 + 1, 4, none⟩) (by simp only; omega) (.int .u32 (D' : Int))).far (p := ⟨g9 + 1 + 1, 0, none⟩) (by simp only; omega) (.int .u32 (A' : Int))
      have hG3 := (hG.out.setCell (p := ⟨g9 + 1 + 1, 4, none⟩) (by have := hlt9.out; have := hgw.out; simp only; omega) (.int .u32 (D' : Int))).setCell (p := ⟨g9 + 1 + 1, 0, none⟩) (by have := hlt9.out; have := hgw.out; simp only; omega) (.int .u32 (A' : Int))
      clear hB hB9 hB10 hG hB11n
      replace hBn := Lib.hid hBn
      replace hB3 := Lib.hid hB3
      replace hB93 := Lib.hid hB93
      replace hB103 := Lib.hid hB103
      replace hG3 := Lib.hid hG3
      go_wp2
      go_roundw
      case rel => exact ⟨k + 1, by omega, by go_num, hB3, hB93, hB103, by rw [hst.out]; exact hBn, hG3⟩
      case measure => simp [intOf]; omega
    · obtain rfl : k = 64 := by omega
      clear hB hlt9 hB9 hB10
      go_wp2
      exact ⟨hB11, hG⟩
end Go.Proofs.YtfoffneipdkdjaaGreatDoor
namespace Go.Proofs.YtfoffneipdkdjaaGreatDoor
open Go.RowKit

set_option maxRecDepth 100000 in
set_option maxHeartbeats 1600000 in
theorem round_l4 {xs ys zs : List Nat} {g gz : Nat} {rest : Value} {count : Int} {w w5 : World} {Q0 : Exit → Act → World → Prop} {x1 x2 x3 x4 x5 x6 x7 x8 x9 x10 x12 x13 x14 x15 x16 x17 x18 x19 x20 x21 x22 x23 x24 x25 x26 x27 x28 x29 x30 x31 x32 x33 x34 x35 x36 x37 x38 x39 x40 x41 x42 x43 x44 x45 x46 x47 x48 x49 x50 x51 x52 x53 x54 x55 x56 x57 x58 x59 x60 x61 x62 x63 x64 x65 x66 x67 x68 x69 x70 x71 x72 x73 x74 x75 x76 x77 x78 x79 x80 x81 x82 x83 x84 x85 x86 x87 x88 x89 x90 x91 x92 x93 x94 x95 x96 x97 x98 x99 x100 x101 x102 x103 x104 x105 x106 x107 x108 x109 x110 x111 x112 x113 x114 x115 x116 x117 x118 x119 x120 x121 x122 x123 x124 x125 x126 x127 x128 x129 x130 x131 x132 x133 x134 x135 x136 x137 x138 x139 x140 x141 x142 x143 x144 x145 x146 x147 x148 x149 x150 x151 x152 x153 x154 x155 x156 x157 x158 x160 x161 x162 x163 x164 x165 x166 x167 x168 x169 x170 x171 x172 x173 x174 x175 : Value}
    (hnew : Hid (∀ j, j < 8 → xs.getD j 0 = (ys.getD j 0 + zs.getD j 0) % 4294967296)) (hln : xs.length = ys.length) (hl8 : ys.length = 8) (hlR : zs.length = 8) (hSum : Hid (Blk w5 g 175 (sumC ys rest count))) (hB11 : Hid (Blk w5 gz 117 (u32s zs))) (hby : Hid (w.grownBy w5 (some g))) (hgg : Hid (g ≠ gz))
    (hQ0 : ∀ c a d v w, Q0 (.panic c) (Act.put a d v) w → Q0 (.panic c) a w)
    (hexit : ∀ (u16 u159 u160 u161 u162 u163 u164 u165 u166 u167 u168 u169 u170 u171 u172 u173 u174 u175 : Value) (wr : World), Hid (Blk wr g 175 (sumC xs rest count)) ∧ Hid (w.grownBy wr (some g)) → Q0 (.exit 6) ⟨((.pointer (some ⟨g, 0, none⟩)) :: x1 :: x2 :: x3 :: x4 :: x5 :: x6 :: x7 :: x8 :: x9 :: x10 :: (.pointer (some ⟨gz, 0, none⟩)) :: x12 :: x13 :: x14 :: x15 :: u16 :: x17 :: x18 :: x19 :: x20 :: x21 :: x22 :: x23 :: x24 :: x25 :: x26 :: x27 :: x28 :: x29 :: x30 :: x31 :: x32 :: x33 :: x34 :: x35 :: x36 :: x37 :: x38 :: x39 :: x40 :: x41 :: x42 :: x43 :: x44 :: x45 :: x46 :: x47 :: x48 :: x49 :: x50 :: x51 :: x52 :: x53 :: x54 :: x55 :: x56 :: x57 :: x58 :: x59 :: x60 :: x61 :: x62 :: x63 :: x64 :: x65 :: x66 :: x67 :: x68 :: x69 :: x70 :: x71 :: x72 :: x73 :: x74 :: x75 :: x76 :: x77 :: x78 :: x79 :: x80 :: x81 :: x82 :: x83 :: x84 :: x85 :: x86 :: x87 :: x88 :: x89 :: x90 :: x91 :: x92 :: x93 :: x94 :: x95 :: x96 :: x97 :: x98 :: x99 :: x100 :: x101 :: x102 :: x103 :: x104 :: x105 :: x106 :: x107 :: x108 :: x109 :: x110 :: x111 :: x112 :: x113 :: x114 :: x115 :: x116 :: x117 :: x118 :: x119 :: x120 :: x121 :: x122 :: x123 :: x124 :: x125 :: x126 :: x127 :: x128 :: x129 :: x130 :: x131 :: x132 :: x133 :: x134 :: x135 :: x136 :: x137 :: x138 :: x139 :: x140 :: x141 :: x142 :: x143 :: x144 :: x145 :: x146 :: x147 :: x148 :: x149 :: x150 :: x151 :: x152 :: x153 :: x154 :: x155 :: x156 :: x157 :: x158 :: u159 :: u160 :: u161 :: u162 :: u163 :: u164 :: u165 :: u166 :: u167 :: u168 :: u169 :: u170 :: u171 :: u172 :: u173 :: u174 :: u175 :: []).toArray, []⟩ wr) :
    Code.wp Tryz.prog (loopAt Tryz.f130 3) Q0 ⟨((.pointer (some ⟨g, 0, none⟩)) :: x1 :: x2 :: x3 :: x4 :: x5 :: x6 :: x7 :: x8 :: x9 :: x10 :: (.pointer (some ⟨gz, 0, none⟩)) :: x12 :: x13 :: x14 :: x15 :: x16 :: x17 :: x18 :: x19 :: x20 :: x21 :: x22 :: x23 :: x24 :: x25 :: x26 :: x27 :: x28 :: x29 :: x30 :: x31 :: x32 :: x33 :: x34 :: x35 :: x36 :: x37 :: x38 :: x39 :: x40 :: x41 :: x42 :: x43 :: x44 :: x45 :: x46 :: x47 :: x48 :: x49 :: x50 :: x51 :: x52 :: x53 :: x54 :: x55 :: x56 :: x57 :: x58 :: x59 :: x60 :: x61 :: x62 :: x63 :: x64 :: x65 :: x66 :: x67 :: x68 :: x69 :: x70 :: x71 :: x72 :: x73 :: x74 :: x75 :: x76 :: x77 :: x78 :: x79 :: x80 :: x81 :: x82 :: x83 :: x84 :: x85 :: x86 :: x87 :: x88 :: x89 :: x90 :: x91 :: x92 :: x93 :: x94 :: x95 :: x96 :: x97 :: x98 :: x99 :: x100 :: x101 :: x102 :: x103 :: x104 :: x105 :: x106 :: x107 :: x108 :: x109 :: x110 :: x111 :: x112 :: x113 :: x114 :: x115 :: x116 :: x117 :: x118 :: x119 :: x120 :: x121 :: x122 :: x123 :: x124 :: x125 :: x126 :: x127 :: x128 :: x129 :: x130 :: x131 :: x132 :: x133 :: x134 :: x135 :: x136 :: x137 :: x138 :: x139 :: x140 :: x141 :: x142 :: x143 :: x144 :: x145 :: x146 :: x147 :: x148 :: x149 :: x150 :: x151 :: x152 :: x153 :: x154 :: x155 :: x156 :: x157 :: x158 :: (.int .i64 0) :: x160 :: x161 :: x162 :: x163 :: x164 :: x165 :: x166 :: x167 :: x168 :: x169 :: x170 :: x171 :: x172 :: x173 :: x174 :: x175 :: []).toArray, []⟩ w5 := by
  conv => arg 2; whnf
  go_loopw [159] (fun i wx => ∃ k : Nat, k ≤ 8 ∧ i = .int .i64 k ∧ Hid (Blk wx g 175 (sumC (xs.take k ++ ys.drop k) rest count)) ∧ Hid (Blk wx gz 117 (u32s zs)) ∧ Hid (w.grownBy wx (some g))) (fun i _ => 8 - (intOf i).toNat)
  case atStart => exact ⟨0, by omega, rfl, hSum, hB11, hby⟩
  case round =>
    clear hSum hB11 hby
    obtain ⟨k, hk, rfl, hS, hZ, hby⟩ := hrel
    by_cases hlt : k < 8
    · have e1 := (hS.out.cell k).trans (sumC_at (by rw [turned_len hln (by omega)]; omega))
      rw [turned_at hln (by omega)] at e1
      have e2 := (hZ.out.cell k).trans (u32s_at (by omega))
      have hne := hnew.out k hlt
      have hset := turned_set hln (k := k) (by omega)
      have hSn := fun x => sumC_set (l := xs.take k ++ ys.drop k) (rest := rest) (count := count) (k := k) (by rw [turned_len hln (by omega)]; omega) x
      have f1 := hS.out.frozen k
      have z1 := hS.out.lt
      have z2 := hZ.out.lt
      generalize ys.getD k 0 = Y at *
      generalize zs.getD k 0 = Z at *
      have hne2 : ((Y : Int) + (Z : Int)) % 4294967296 = ((xs.getD k 0 : Nat) : Int) := by rw [hne]; omega
      generalize xs.getD k 0 = X at *
      clear hne
      replace hset := Lib.hid hset
      replace hSn := Lib.hid hSn
      go_wp2_with fail
      refine wp_region_k (by kernel_rfl) ?_
      refine wpAnyK_run (l' := #[true, true, true, true, true, true, true, true, true, true, true, true, true, false]) [0, 1, 2, 3, 4, 5, 6, 7, 8, 9, 10, 11, 12] 1 up_grows (by kernel_rfl) (by intro c a d v w h; first | (cases d <;> exact h) | exact hQ0 _ _ _ _ _ h) rfl (by kernel_rfl) (by kernel_rfl) ?_
      iterate 13 (refine wpMixC_q rfl (fun K hK => ?_); go_simp; (try go_bits); first | (refine hK.out _ ?_; clear hK K) | (apply Exists.intro; refine ⟨fun wq hsq => ?_, hK.out _ ?_⟩; (first | (go_simp; done) | ((try go_simp); (try simp only [↓IntWalk.iteOmega]); (try go_bits); rfl) | (obtain ⟨hcq, hfq⟩ := bcells hsq; go_simp; done) | (obtain ⟨hcq, hfq⟩ := bcells hsq; (try go_simp); (try simp only [↓IntWalk.iteOmega]); (try go_bits); rfl)); clear hK K))
      refine wpMixC_nil ?_
      refine wpAnyK_last (i := 13) rfl (by kernel_rfl) (by kernel_rfl) (fun wN hN hS K' hK => ?_)
      clear hS
      have e3 := hN.cell e1
      have f3 : wN.frozen? ⟨g, k, none⟩ = false := ((bcells hN).2 _ _ z1).trans f1
      have hS2 := (hS.out.grows hN).set_ k (.int .u32 (X : Int))
      have hZ2 := (hZ.out.grows hN).far (p := ⟨g, k, none⟩) (by have := hgg.out; simp only; omega) (.int .u32 (X : Int))
      have hby2 : w.grownBy (wN.setCell ⟨g, k, none⟩ (.int .u32 (X : Int))) (some g) := (hby.out.trans (hN.by_ _)).trans (grownBy_cell wN ⟨g, k, none⟩ _)
      rw [hSn.out, hset.out] at hS2
      replace hS2 := Lib.hid hS2
      replace hZ2 := Lib.hid hZ2
      replace hby2 := Lib.hid hby2
      clear hN hS hZ hby
      go_simp
      refine hK.out _ _ ?_
      clear hK e3 f3 e1 e2 f1 z1 z2
      generalize wN.setCell ⟨g, k, none⟩ (.int .u32 (X : Int)) = w9 at *
      go_wp2
      go_roundw
      case rel => exact ⟨k + 1, by omega, by go_num, hS2, hZ2, hby2⟩
      case measure => simp [intOf]; omega
    · obtain rfl : k = 8 := by omega
      have hS2 := hS.out
      rw [List.take_of_length_le (by omega), List.drop_of_length_le (by omega), List.append_nil] at hS2
      replace hS2 := Lib.hid hS2
      clear hS
      go_wp2
      exact ⟨hS2, hby⟩
end Go.Proofs.YtfoffneipdkdjaaGreatDoor
namespace Go.Proofs.YtfoffneipdkdjaaGreatDoor
open Go.RowKit

theorem keys_len : keysL.length = 64 := by decide
set_option maxRecDepth 100000 in
set_option maxHeartbeats 1600000 in
theorem round_any {v : V8} (hv : v.ok) {A : Option Addr} {c : Nat} {b : List Nat} {g : Nat} {rest : Value} {count : Int} (w : World) (hA : Arr w 1 encB A 64 b) (hb : ∀ x ∈ b, x < 256)
    (hg : Blk w g 175 (sumC (eightL v) rest count)) :
    Calls Tryz.prog 130 #[.pointer (some ⟨g, 0, none⟩), .slice A 64 c] w fun e w' => e = .returned (.tuple #[]) ∧ Blk w' g 175 (sumC (eightL (mixIn v b)) rest count) ∧ w.grownBy w' (some g) := by
  replace hA := Lib.hid hA
  replace hb := Lib.hid hb
  replace hg := Lib.hid hg
  replace hv := Lib.hid hv
  go_enter Tryz.func130, Tryz.ntmps130
  go_wp2
  refine named_alloc (Pr := fun W => Code.wp _ _ _ _ W) (fun w1 hB1 hG1 => ?_)
  replace hB1 : Blk w1 w.heap.size 119 (u32s (pad64 [])) := hB1.cast (by kernel_rfl)
  obtain ⟨gw, hgw⟩ : ∃ gw, gw = w.heap.size := ⟨_, rfl⟩
  rw [← hgw] at hB1 ⊢
  replace hgw := Lib.hid hgw
  replace hB1 := Lib.hid hB1
  replace hG1 := Lib.hid hG1
  refine round_l1 hA hb hgw hB1 hG1 (by intro c a d v w h; cases d <;> exact h) ?_
  rintro u5 u17 u18 u19 u20 u21 u22 u23 u24 u25 u26 u27 u28 u29 u30 u31 u32 u33 u34 u35 u36 u37 u38 u39 u40 u41 u42 u43 u44 u45 u46 u47 u48 u49 u50 u51 u52 u53 u54 u55 wr ⟨hB, hG⟩
  clear hB1 hG1 w1 hA
  go_wp2
  refine named_alloc2 (Pr := fun W => Code.wp _ _ _ _ W) (fun w3 hB6 hB7 hG3 => ?_)
  obtain ⟨g6, hg6⟩ : ∃ g6, g6 = wr.heap.size := ⟨_, rfl⟩
  have hlt6 := hB.out.lt
  rw [← hg6] at hB6 hB7 hlt6 ⊢
  replace hB := Lib.hid (hB.out.grows hG3)
  have hG4 := Lib.hid (hG.out.trans hG3)
  clear hG hG3 hg6
  replace hB6 := Lib.hid hB6
  replace hB7 := Lib.hid hB7
  replace hlt6 := Lib.hid hlt6
  clear wr
  refine round_l2 hb hgw hlt6 hB hB6 hB7 hG4 (by intro c a d v w h; cases d <;> exact h) ?_
  rintro u8 u58 u59 u60 u61 u62 u63 u64 u65 u66 u67 u68 u69 u70 u71 u72 u73 u74 u75 u76 u77 u78 u79 u80 u81 u82 u83 u84 u85 u86 wr ⟨hB', hG⟩
  clear hB hB6 hB7 hG4 hlt6 w3
  have c8 : ∀ W, Grows w W → Blk W g 175 (sumC (eightL v) rest count) := fun W h => hg.out.grows h
  have hgS := c8 wr hG.out
  have q0 : wr.cell? ⟨g, 0, none⟩ = some (.int .u32 (v.a : Int)) := hgS.cell 0
  have q1 : wr.cell? ⟨g, 1, none⟩ = some (.int .u32 (v.b : Int)) := hgS.cell 1
  have q2 : wr.cell? ⟨g, 2, none⟩ = some (.int .u32 (v.c : Int)) := hgS.cell 2
  have q3 : wr.cell? ⟨g, 3, none⟩ = some (.int .u32 (v.d : Int)) := hgS.cell 3
  have q4 : wr.cell? ⟨g, 4, none⟩ = some (.int .u32 (v.e : Int)) := hgS.cell 4
  have q5 : wr.cell? ⟨g, 5, none⟩ = some (.int .u32 (v.f : Int)) := hgS.cell 5
  have q6 : wr.cell? ⟨g, 6, none⟩ = some (.int .u32 (v.g : Int)) := hgS.cell 6
  have q7 : wr.cell? ⟨g, 7, none⟩ = some (.int .u32 (v.h : Int)) := hgS.cell 7
  have qz := hgS.lt
  have cK := fun W => keys_any W
  replace cK := Lib.hid cK
  replace hgS := Lib.hid hgS
  replace c8 := Lib.hid c8
  go_wp2_with fail
  refine (cK.out _).mono ?_
  rintro e w5 ⟨rfl, hb5⟩
  have hB9 : Blk w5 wr.heap.size 193 #[.int .i64 6, .int .i64 11, .int .i64 25, .int .i64 0] := (((Blk.new wr _ _).alloc _).alloc _).grows hb5
  have hB10 : Blk w5 (wr.heap.size + 1) 193 #[.int .i64 2, .int .i64 13, .int .i64 22, .int .i64 0] := ((Blk.new1 wr _ _ _).alloc _).grows hb5
  have hB11 : Blk w5 (wr.heap.size + 1 + 1) 117 (u32s (eightL v)) := (Blk.new2 wr _ _ _ _).grows hb5
  have hG5 : Grows wr w5 := ((((Grows.refl wr).alloc _).alloc _).alloc _).trans hb5
  obtain ⟨g9, hg9⟩ : ∃ g9, g9 = wr.heap.size := ⟨_, rfl⟩
  have hlt9 := hB'.out.lt
  have hltg := hgS.out.lt
  rw [← hg9] at hB9 hB10 hB11 hlt9 hltg ⊢
  replace hB' := Lib.hid (hB'.out.grows hG5)
  replace hG5 := Lib.hid (hG.out.trans hG5)
  replace hB9 := Lib.hid hB9
  replace hB10 := Lib.hid hB10
  replace hlt9 := Lib.hid hlt9
  replace hltg := Lib.hid hltg
  clear hG hg9 q0 q1 q2 q3 q4 q5 q6 q7 qz hgS hb5 cK
  clear wr
  have hKat : ∀ k, k < 64 → (u32s keysL)[k]? = some (.int .u32 ((keysL.getD k 0 : Nat) : Int)) := fun k hk => u32s_at (by rw [keys_len]; exact hk)
  have hWat : ∀ k, k < 64 → (u32s (words 48 (firsts b)))[k]? = some (.int .u32 (((words 48 (firsts b)).getD k 0 : Nat) : Int)) := fun k hk => u32s_at (by rw [words_len, firsts_len]; exact hk)
  have hrd : ∀ k, roundsV keysL (words 48 (firsts b)) (k + 1) v = stepV (roundsV keysL (words 48 (firsts b)) k v) (keysL.getD k 0) ((words 48 (firsts b)).getD k 0) := fun _ => rfl
  have hfin : mixIn v b = addV v (roundsV keysL (words 48 (firsts b)) 64 v) := rfl
  have hok : ∀ k, (roundsV keysL (words 48 (firsts b)) k v).ok := fun k => roundsV_ok hv.out k
  have hr0 : roundsV keysL (words 48 (firsts b)) 0 v = v := rfl
  generalize hvF : mixIn v b = vFin at *
  replace hvF := Lib.hid hvF
  generalize u32s keysL = KA at *
  generalize words 48 (firsts b) = WL at *
  generalize hRV : (fun k => roundsV keysL WL k v) = RV at *
  have hRVk : ∀ k, roundsV keysL WL k v = RV k := fun k => congrFun hRV k
  simp only [hRVk] at hrd hfin hok hr0
  generalize hKf : (fun k => keysL.getD k 0) = KF at *
  have hKk : ∀ k, keysL.getD k 0 = KF k := fun k => congrFun hKf k
  simp only [hKk] at hrd hKat
  clear hRVk hRV hKf hKk hb
  have hB11 : Hid (Blk w5 (g9 + 1 + 1) 117 (u32s (eightL (RV 0)))) := by rw [hr0]; exact hB11
  replace hKat := Lib.hid hKat
  replace hWat := Lib.hid hWat
  replace hrd := Lib.hid hrd
  replace hfin := Lib.hid hfin
  replace hok := Lib.hid hok
  clear hr0
  go_wp2
  refine round_l3 hKat hWat hrd hok hgw hlt9 hB' hB9 hB10 hB11 hG5 (by intro c a d v w h; cases d <;> exact h) ?_
  intro u12 u13 u14 u15 u94 u95 u96 u97 u98 u99 u100 u101 u102 u103 u104 u105 u106 u107 u108 u109 u110 u111 u112 u113 u114 u115 u116 u117 u118 u119 u120 u121 u122 u123 u124 u125 u126 u127 u128 u129 u130 u131 u132 u133 u134 u135 u136 u137 u138 u139 u140 u141 u142 u143 u144 u145 u146 u147 u148 u149 u150 u151 u152 u153 u154 u155 u156 u157 u158 wr h
  obtain ⟨hZ, hG⟩ := h
  clear hB' hB9 hB10 hB11 hG5 hKat hWat hrd hok
  have hnew := fun j hj => addV_at v (RV 64) (k := j) hj
  rw [← hfin.out] at hnew
  have hln := (eightL_len vFin).trans (eightL_len v).symm
  have hl8 := eightL_len v
  have hlR := eightL_len (RV 64)
  have hSum := c8.out wr hG.out
  have hby := hG.out.by_ (some g)
  have hgg : Hid (g ≠ g9 + 1 + 1) := by
    show g ≠ g9 + 1 + 1
    have := hltg.out; omega
  generalize eightL (RV 64) = zs at *
  generalize hxs : eightL vFin = xs at *
  replace hxs := Lib.hid hxs
  generalize eightL v = ys at *
  clear hfin hG hltg hlt9
  replace hnew := Lib.hid hnew
  replace hSum := Lib.hid hSum
  replace hby := Lib.hid hby
  go_wp2
  refine round_l4 hnew hln hl8 hlR hSum hZ hby hgg (by intro c a d v w h; cases d <;> exact h) ?_
  rintro u16 u159 u160 u161 u162 u163 u164 u165 u166 u167 u168 u169 u170 u171 u172 u173 u174 u175 wz ⟨hS2, hby2⟩
  go_wp2
  exact bodyPost_end (results_none rfl _ _ _) rfl ⟨rfl, by rw [hvF.out, hxs.out]; exact hS2.out, hby2.out⟩
end Go.Proofs.YtfoffneipdkdjaaGreatDoor
namespace Go.Proofs.YtfoffneipdkdjaaGreatDoor
open Go.RowKit

theorem T_bb : SliceT Tryz.prog 81 5 1 1 := SliceT.mk' (z := .int .u8 0) Tryz.underlying81 (by kernel_rfl) rfl (by omega)
theorem wpList_grownOpt {α : Type} {w : World} {base k : Nat} {e : TypeId} {enc : α → List Value} {v : Value} {xs : List α} {P : Program} {ops : Array Oper} {rest : List Oper} {o : Oper} {ac : Act} {Q : Exit → Act → World → Prop} {ys : List α} {m bytes c : Nat} {t : TypeId} (T : SliceT P t e k bytes) (hgd : Region.wanted o (yielded ops ac.tmps) = true) (s y : Operand)
    (ho : o.op = .call { callee := .builtin .append, args := #[s, y], argTypes := #[t, t] }) (h : Own w base e k enc v xs) (hs : ac.eval s = v) {A : Option Addr} (hy : ac.eval y = .slice A m c) (harr : Arr w k enc A m ys)
    (hk : ∀ x, (enc x).length = k) (h1 : ∀ x, ∀ u ∈ enc x, u.oneCell' = true) (hbase : base ≤ w.heap.size) (h63 : xs.length + m ≤ maxLen) (hbytes : (xs.length + m) * bytes ≤ 140737488355328)
    (hK : ∀ v' w', Own w' base e k enc v' (xs ++ ys) → w.grownBy w' v.ownBlock → (v'.ownBlock = v.ownBlock ∨ v'.ownBlock = some w.heap.size) → wpList P ops Q rest (ac.put o.dst v') w') : wpList P ops Q (o :: rest) ac w :=
  wpList_step fun _ hk' => Own.grownOpt (ops := ops) T hgd s y ho h hs hy harr hk h1 hbase h63 hbytes fun v' w' a b c => hk' _ _ (hK v' w' a b c)
theorem Blk.by_row {w w' : World} {j : Nat} {row : Option Nat} {t : TypeId} {cs : Array Value} (h : Blk w j t cs) (hg : w.grownBy w' row) (hne : some j ≠ row) : Blk w' j t cs :=
  (hg.block j h.lt hne).trans h
theorem Grows.by_row {a w w' : World} {row : Option Nat} (h : Grows a w) (hg : w.grownBy w' row) (hl : ∀ g, row = some g → a.heap.size ≤ g) : Grows a w' :=
  Grows.of ⟨hg.os.trans (Below.os h), hg.tape.trans (Below.tape h), hg.output.trans (Below.output h), Nat.le_trans h.size hg.size, fun j hj => (hg.block j (Nat.lt_of_lt_of_le hj h.size) (fun e => by have := hl j e.symm; omega)).trans (Below.block h j hj)⟩
/-- A slice of bytes that lies apart from block g. -/
def BytesApart (w : World) (g : Nat) (A : Option Addr) (n : Nat) (xs : List Nat) : Prop := Arr w 1 encB A n xs ∧ ∀ ad, A = some ad → 0 < n → ad.block ≠ g
theorem BytesApart.by_ {w w' : World} {g n : Nat} {A : Option Addr} {xs : List Nat} (h : BytesApart w g A n xs) (hg : w.grownBy w' (some g)) : BytesApart w' g A n xs :=
  ⟨⟨h.1.1, fun hn => by
    obtain ⟨b, off, e, hb, hc⟩ := h.1.2 hn
    have hne : b ≠ g := h.2 _ e hn
    exact ⟨b, off, e, Nat.lt_of_lt_of_le hb hg.size, fun i hi j u hu => by
      rw [World.cell?_of_block (hg.block b hb (by simpa using hne))]
      exact hc i hi j u hu⟩⟩, h.2⟩
theorem BytesApart.drop {w : World} {g n k b off : Nat} {xs : List Nat} (h : BytesApart w g (some ⟨b, off, none⟩) n xs) (hk : k ≤ n) : BytesApart w g (some ⟨b, off + k, none⟩) (n - k) (xs.drop k) := by
  refine ⟨⟨by rw [List.length_drop, h.1.1], fun hn => ?_⟩, fun ad e hn => by cases e; exact h.2 ⟨b, off, none⟩ rfl (by omega)⟩
  obtain ⟨b', off', e, hb, hc⟩ := h.1.2 (by omega)
  cases e
  refine ⟨b, off + k, rfl, hb, fun i hi j u hu => ?_⟩
  rw [List.length_drop] at hi
  rw [List.getElem_drop] at hu
  have := hc (k + i) (by omega) j u hu
  rwa [show off + (k + i) * 1 + j = off + k + i * 1 + j by omega] at this
theorem Own.apart {w : World} {base g : Nat} {v : Value} {xs : List Nat} {t : TypeId} {cs : Array Value} (h : Own w base 5 1 encB v xs) (hB : Blk w g t cs) (ht : t ≠ 5) :
    ∃ A c, v = .slice A xs.length c ∧ xs.length ≤ c ∧ c ≤ maxLen ∧ BytesApart w g A xs.length xs ∧ (∀ j, v.ownBlock = some j → base ≤ j ∧ j ≠ g) := by
  have h2 := h
  obtain ⟨A, c, rfl, hc, hcm, hA⟩ := h.arr hkB
  have hown : ∀ j, (Value.slice A xs.length c).ownBlock = some j → base ≤ j ∧ j ≠ g := fun j hj => by
    rcases h2.2 with ⟨h0, _⟩ | ⟨g', cap, cur, hv, hb, hh, _⟩
    · rw [h0] at hj; cases hj
    · rw [hv] at hj
      simp only [Value.ownBlock, Option.some.injEq] at hj
      subst hj
      refine ⟨hb, fun e => ?_⟩
      subst e
      unfold Blk at hB
      rw [hh] at hB
      simp only [Option.some.injEq, Obj.cells.injEq] at hB
      exact ht hB.2.1.symm
  refine ⟨A, c, rfl, hc, hcm, ⟨hA, fun ad e hn => ?_⟩, hown⟩
  subst e
  obtain ⟨b, off, e, _⟩ := hA.2 hn
  cases e
  rcases h2.2 with ⟨h0, _⟩ | ⟨g', cap, cur, hv, _⟩
  · cases h0
  · simp only [Value.slice.injEq, Option.some.injEq, Addr.mk.injEq] at hv
    obtain ⟨⟨hb, ho, _⟩, _⟩ := hv
    subst hb; subst ho
    exact (hown b (by simp [Value.ownBlock])).2
theorem Own.by_ {α : Type} {w w' : World} {base k g : Nat} {e : TypeId} {enc : α → List Value} {v : Value} {xs : List α} (h : Own w base e k enc v xs) (hg : w.grownBy w' (some g)) (hne : ∀ j, v.ownBlock = some j → j ≠ g) : Own w' base e k enc v xs := by
  refine ⟨h.1, ?_⟩
  rcases h.2 with h2 | ⟨g', cap, cur, hv, hb, hh, r⟩
  · exact .inl h2
  · have hlt : g' < w.heap.size := by
      rcases Nat.lt_or_ge g' w.heap.size with h | h
      · exact h
      · rw [Array.getElem?_eq_none h] at hh; cases hh
    have h3 : g' ≠ g := hne g' (by rw [hv]; rfl)
    exact .inr ⟨g', cap, cur, hv, hb, (hg.block g' hlt (by simpa using h3)).trans hh, r⟩
theorem sumC_cnt (v : V8) (rest : Value) (count x : Int) : (sumC (eightL v) rest count).setIfInBounds 9 (.int .i64 x) = sumC (eightL v) rest x := rfl
theorem sumC_rest (v : V8) (rest r : Value) (count : Int) : (sumC (eightL v) rest count).setIfInBounds 8 r = sumC (eightL v) r count := rfl
theorem blocks_succ (n : Nat) (v : V8) (l : List Nat) : blocks (n + 1) v l = mixIn (blocks n v l) ((l.drop (64 * n)).take 64) := by
  rw [blocks_add]; rfl
def restLen (g : Nat) (w : World) : Nat := match w.cell? ⟨g, 8, none⟩ with
  | some (.slice _ n _) => n
  | _ => 0
theorem restLen_of {g n c : Nat} {w : World} {A : Option Addr} (h : w.cell? ⟨g, 8, none⟩ = some (.slice A n c)) : restLen g w = n := by unfold restLen; rw [h]
set_option maxRecDepth 100000 in
set_option maxHeartbeats 1600000 in
theorem add_any {W0 : World} {g : Nat} {v : V8} (hv : v.ok) {rest : Value} {xs ys : List Nat} {count : Int} {A : Option Addr} {m c : Nat} (w : World) (h0 : Grows W0 w) (hg0 : W0.heap.size ≤ g)
    (hS : Blk w g 175 (sumC (eightL v) rest count)) (hO : Own w W0.heap.size 5 1 encB rest xs) (hy : BytesApart w g A m ys) (hb : ∀ x ∈ xs ++ ys, x < 256) (hlen : xs.length + m ≤ 1099511627776) (hc1 : 0 ≤ count) (hc2 : count ≤ 1099511627776) :
    Calls Tryz.prog 102 #[.pointer (some ⟨g, 0, none⟩), .slice A m c] w fun e w' => ∃ (n : Nat) (A' : Option Addr) (c' : Nat), e = .returned (.int .i64 (count + m)) ∧ 64 * n ≤ (xs ++ ys).length ∧ (xs ++ ys).length < 64 * n + 64 ∧
      Blk w' g 175 (sumC (eightL (blocks n v (xs ++ ys))) (.slice A' ((xs ++ ys).length - 64 * n) c') (count + m)) ∧ BytesApart w' g A' ((xs ++ ys).length - 64 * n) ((xs ++ ys).drop (64 * n)) ∧ (xs ++ ys).length - 64 * n ≤ c' ∧ c' ≤ maxLen ∧ Grows W0 w' := by
  have hml := hy.1.1
  have d8 : w.cell? ⟨g, 8, none⟩ = some rest := hS.cell 8
  have d9 : w.cell? ⟨g, 9, none⟩ = some (.int .i64 count) := hS.cell 9
  have f9 := hS.frozen 9
  have sz := hS.lt
  have hby := grownBy_cell w ⟨g, 9, none⟩ (.int .i64 (count + (m : Int)))
  obtain ⟨A0, c0, hr0, _, _, _, hown⟩ := hO.apart hS (by decide)
  have hO1 := hO.by_ hby (fun j hj => (hown j hj).2)
  have hy1 := hy.by_ hby
  have hS1 := hS.set_ 9 (.int .i64 (count + (m : Int)))
  rw [sumC_cnt] at hS1
  have h01 := h0.by_then hby hg0
  have hbase := h01.size
  have h63 : xs.length + m ≤ maxLen := by unfold maxLen; omega
  have hbytes : (xs.length + m) * 1 ≤ 140737488355328 := by omega
  replace hO1 := Lib.hid hO1
  replace hy1 := Lib.hid hy1
  replace hb := Lib.hid hb
  replace h01 := Lib.hid h01
  replace hS1 := Lib.hid hS1
  replace hv := Lib.hid hv
  replace hown := Lib.hid hown
  have hcm : -9223372036854775808 ≤ count + (m : Int) ∧ count + (m : Int) ≤ 9223372036854775807 := by omega
  clear hO hy hS h0 hr0 hby
  go_enter Tryz.func102, Tryz.ntmps102
  go_wp2_with (refine wpList_grownOpt T_bb rfl (.tmp 20) (.tmp 21) rfl hO1.out rfl rfl hy1.out.1 hkB oneB hbase h63 hbytes ?_; intro v2 w2 hO2 hby2 hv2; (have hS2 := hS1.out.by_row hby2 (fun e => (hown.out g e.symm).2 rfl)); (have h02 := h01.out.by_row hby2 (fun j hj => (hown.out j hj).1)); (obtain ⟨A2, c2, hv2e, hn2, hcm2, hB2, hown2⟩ := hO2.apart hS2 (by decide)); subst hv2e; (have e8 := hS2.cell 8); (have f8 := hS2.frozen 8); (have z8 := hS2.lt); (have hby3 := grownBy_cell w2 ⟨g, 8, none⟩ (.slice A2 (xs ++ ys).length c2)); (have hS3 := hS2.set_ 8 (.slice A2 (xs ++ ys).length c2)); (rw [sumC_rest] at hS3); (have hB3 := hB2.by_ hby3); (have h03 := h02.by_then hby3 hg0); (replace hS3 := Lib.hid hS3); (replace hB3 := Lib.hid hB3); (replace h03 := Lib.hid h03); (have hzl : (xs ++ ys).length ≤ 1099511627776 := by rw [List.length_append]; omega); (generalize hzs : xs ++ ys = zs at *); (replace hzs := Lib.hid hzs); (generalize hL : zs.length = L at *); (replace hL := Lib.hid hL); clear hO2 hby2 hv2 hS2 h02 hown2 hby3 hB2 hO1 hS1 hy1 h01 hown d8 d9 f9 sz h63 hbytes hbase)
  generalize w2.setCell ⟨g, 8, none⟩ (.slice A2 L c2) = w3 at *
  clear e8 f8 z8
  go_loopw [] (fun wr => ∃ (n : Nat) (A' : Option Addr) (c' : Nat), 64 * n ≤ L ∧ Hid (Blk wr g 175 (sumC (eightL (blocks n v zs)) (.slice A' (L - 64 * n) c') (count + m))) ∧ Hid (BytesApart wr g A' (L - 64 * n) (zs.drop (64 * n))) ∧ L - 64 * n ≤ c' ∧ c' ≤ maxLen ∧ Hid (Grows W0 wr)) (fun wr => restLen g wr)
  case atStart => exact ⟨0, A2, c2, by omega, hS3, hB3, by omega, hcm2, h03⟩
  case round =>
    clear hS3 hB3 h03
    obtain ⟨n, A', c', hn, hS, hB, hnc, hcm', h0⟩ := hrel
    have hrl := restLen_of (g := g) (w := wr) (A := A') (n := L - 64 * n) (c := c') (hS.out.cell 8)
    have e8 : wr.cell? ⟨g, 8, none⟩ = some (.slice A' (L - 64 * n) c') := hS.out.cell 8
    have z8 := hS.out.lt
    by_cases hlt : 64 ≤ L - 64 * n
    · obtain ⟨b, off, rfl, hbl, _⟩ := hB.out.1.2 (by omega)
      have hA64 := hB.out.1.take (m := 64) hlt
      have hbs : ∀ x ∈ (zs.drop (64 * n)).take 64, x < 256 := fun x hx => hb.out x (List.mem_of_mem_drop (List.mem_of_mem_take hx))
      have cR := round_any (blocks_ok n zs hv.out) wr hA64 hbs hS.out (c := c')
      rw [← blocks_succ] at cR
      replace cR := Lib.hid cR
      clear hA64 hbs
      by_cases hc : c' = 64
      · subst hc
        go_wp2_with fail
        refine (cR.out).mono ?_
        rintro e w5 ⟨rfl, hS5, hby5⟩
        have hB5 := hB.out.by_ hby5
        have h05 := h0.out.by_then hby5 hg0
        have g8 : w5.cell? ⟨g, 8, none⟩ = some (.slice (some ⟨b, off, none⟩) (L - 64 * n) 64) := hS5.cell 8
        have f8 := hS5.frozen 8
        have y8 := hS5.lt
        have hz0 : L - 64 * (n + 1) = 0 := by omega
        have hS6 := hS5.set_ 8 (.slice (some ⟨b, off, none⟩) 0 0)
        rw [sumC_rest] at hS6
        have hby6 := grownBy_cell w5 ⟨g, 8, none⟩ (.slice (some ⟨b, off, none⟩) 0 0)
        have hB6 : BytesApart (w5.setCell ⟨g, 8, none⟩ (.slice (some ⟨b, off, none⟩) 0 0)) g (some ⟨b, off, none⟩) 0 ((zs.drop (64 * n)).drop 64) := by
          have h0 : L - 64 * n - 64 = 0 := by omega
          have h1 : (zs.drop (64 * n)).drop 64 = [] := List.eq_nil_of_length_eq_zero (by rw [List.length_drop, List.length_drop, hL.out]; exact h0)
          rw [h1]
          exact ⟨Arr.nil_, fun _ _ h => absurd h (by omega)⟩
        have h06 := h05.by_then hby6 hg0
        have hrl6 := restLen_of (A := some ⟨b, off, none⟩) (n := 0) (c := 0) (hS6.cell 8)
        rw [List.drop_drop] at hB6
        rw [show 64 * n + 64 = 64 * (n + 1) by omega] at hB6
        replace hS6 := Lib.hid hS6
        replace hB6 := Lib.hid hB6
        replace h06 := Lib.hid h06
        replace hrl6 := Lib.hid hrl6
        replace hrl := Lib.hid hrl
        clear hB5 h05 hby5 hby6 hS5 cR
        go_wp2
        go_roundw
        case rel => exact ⟨n + 1, some ⟨b, off, none⟩, 0, by omega, by rw [hz0]; exact hS6, by rw [hz0]; exact hB6, by omega, by unfold maxLen; omega, h06⟩
        case measure => rw [hrl6.out, hrl.out]; omega
      · skip
        go_wp2_with fail
        refine (cR.out).mono ?_
        rintro e w5 ⟨rfl, hS5, hby5⟩
        have hB5 := hB.out.by_ hby5
        have h05 := h0.out.by_then hby5 hg0
        have g8 : w5.cell? ⟨g, 8, none⟩ = some (.slice (some ⟨b, off, none⟩) (L - 64 * n) c') := hS5.cell 8
        have f8 := hS5.frozen 8
        have y8 := hS5.lt
        have hS6 := hS5.set_ 8 (.slice (some ⟨b, off + 64, none⟩) (L - 64 * n - 64) (c' - 64))
        rw [sumC_rest] at hS6
        have hby6 := grownBy_cell w5 ⟨g, 8, none⟩ (.slice (some ⟨b, off + 64, none⟩) (L - 64 * n - 64) (c' - 64))
        have hB6 : BytesApart (w5.setCell ⟨g, 8, none⟩ (.slice (some ⟨b, off + 64, none⟩) (L - 64 * n - 64) (c' - 64))) g (some ⟨b, off + 64, none⟩) (L - 64 * n - 64) ((zs.drop (64 * n)).drop 64) := (hB5.drop hlt).by_ hby6
        have h06 := h05.by_then hby6 hg0
        have hrl6 := restLen_of (A := some ⟨b, off + 64, none⟩) (n := L - 64 * n - 64) (c := (c' - 64)) (hS6.cell 8)
        rw [List.drop_drop] at hB6
        rw [show L - 64 * n - 64 = L - 64 * (n + 1) by omega, show 64 * n + 64 = 64 * (n + 1) by omega] at hB6
        rw [show L - 64 * n - 64 = L - 64 * (n + 1) by omega] at hS6
        replace hS6 := Lib.hid hS6
        replace hB6 := Lib.hid hB6
        replace h06 := Lib.hid h06
        replace hrl6 := Lib.hid hrl6
        replace hrl := Lib.hid hrl
        clear hB5 h05 hby5 hby6 hS5 cR
        go_wp2
        go_roundw
        case rel => exact ⟨n + 1, some ⟨b, off + 64, none⟩, (c' - 64), by omega, hS6, hB6, by omega, by unfold maxLen at hcm' ⊢; omega, h06⟩
        case measure => rw [hrl6.out, hrl.out]; omega
    · have e9 : wr.cell? ⟨g, 9, none⟩ = some (.int .i64 (count + (m : Int))) := hS.out.cell 9
      go_wp2
      go_ret
      rw [hzs.out, hL.out]
      exact ⟨n, A', c', rfl, hn, by omega, hS.out, hB.out, hnc, hcm', h0.out⟩
end Go.Proofs.YtfoffneipdkdjaaGreatDoor
