/- Labels: Read, the program's. -/
import Derived.Test.YtfppagcifcppaaaDoorSplit
import Derived.Test.YtfppagcifcppaaaDoorLabT
import Derived.Test.YtfppagcifcppaaaDoorLabR
import Derived.Test.YtfppagcifcppaaaDoorWinJ
import Derived.Shelf.RegionOpen
namespace Go.Proofs.YtfppagcifcppaaaDoor
open Go.RowKit Go.Shelf Go.PlainAid

attribute [local go_sem] Oper.semAt_some

theorem splitF_len (c : UInt8) : ∀ (n : Nat) (s : List UInt8) (x : List UInt8), x ∈ splitF c n s → x.length ≤ s.length
  | 0, s, x, h => by simp [splitF] at h; subst h; exact Nat.le_refl _
  | n + 1, s, x, h => by
    unfold splitF at h
    split at h
    · rcases List.mem_cons.1 h with h | h
      · subst h; rw [List.length_take]; omega
      · have := splitF_len c n _ x h; rw [List.length_drop] at this; omega
    · simp at h; subst h; exact Nat.le_refl _
theorem Grows.keeps {W W' : World} (h : Grows W W') (B : Nat) : KeepsFrom B W W' := ⟨h.size, fun k _ _ hk _ => (h.below.block k (Array.getElem?_eq_some_iff.1 hk).1).trans hk⟩
theorem Grows.same {W W' : World} (h : Grows W W') {bs : List Nat} (hb : ∀ b ∈ bs, b < W.heap.size) : Same bs W W' := fun b hb' => h.below.block b (hb b hb')
theorem Same.setCell {bs : List Nat} (W : World) (p : Addr) (v : Value) (h : p.block ∉ bs) : Same bs W (W.setCell p v) := fun b hb => Below.heap_setCell W p v b (fun e => h (by rw [← e]; exact hb))
theorem Blk.turn {keep : Nat → Prop} {A B : World} {g : Nat} {t : TypeId} {cs : Array Value} (h : Blk A g t cs) (hk : keep g) (ht : Turn keep A B) : Blk B g t cs := by
  obtain ⟨row, hg, hr⟩ := ht
  exact (hg.block g h.lt (fun e => hr g e.symm hk)).trans h
theorem Below.turn {keep : Nat → Prop} {n : Nat} {w A B : World} (h : Below n w A) (hn : n ≤ A.heap.size) (hk : ∀ r, r < n → keep r) (ht : Turn keep A B) : Below n w B := by
  obtain ⟨row, hg, hr⟩ := ht
  exact h.grown hg hn (fun g e => Nat.le_of_not_lt (fun hl => hr g e (hk g hl)))
theorem stepT_bad {c : Nat} {x : List UInt8} (h : ¬ (atoiOk x = true ∧ 0 ≤ atoiV x ∧ atoiV x < 32)) : stepT c x = none := by unfold stepT; rw [if_neg h]
theorem fold_snoc {α β : Type} (f : α → β → Option α) (a : α) (l : List β) (x : β) : (l ++ [x]).foldlM f a = (l.foldlM f a).bind (fun c => f c x) := by
  rw [List.foldlM_append]
  cases h : l.foldlM f a <;> simp
theorem fold_cut {α β : Type} {f : α → β → Option α} {a : α} {l xs : List β} (h : l.foldlM f a = none) (hp : l <+: xs) : xs.foldlM f a = none := by
  obtain ⟨r, rfl⟩ := hp
  rw [List.foldlM_append, h]; rfl
def TupLab (x : Lab) (err : Int) (w : World) (e : Ending) (w' : World) : Prop := e = .returned (.tuple #[.agg #[.int .i64 x.lv, .int .u32 (x.c : Int)], .int .i64 err]) ∧ Grows w w'

theorem post_nomark {F : Fence} {n : Nat} {P : Program} {fn : Func} {R : Ending → World → Prop} {a : Act} {w : World} {v : Value} (hr : (results fn a.tmps).run P w = .ok v w) (hd : a.defers = []) (hR : R (.returned v) w) : bodyPostM F n P fn R .ret a w := by
  show LeavesInM F n P fn a.tmps R a.defers .returning w
  rw [hd]
  exact ⟨v, hr, hR⟩
theorem post_mark {F : Fence} {n D : Nat} {P : Program} {fn : Func} {R : Ending → World → Prop} {a : Act} {w : World} {v : Value} (hd : a.defers = [{ target := .collected D, args := #[] }]) (hK : w.heap[D]? = some (.deferred (some [])))
    (hr : (results fn a.tmps).run P (w.putObj D (.deferred none)) = .ok v (w.putObj D (.deferred none))) (hR : R (.returned v) (w.putObj D (.deferred none))) : bodyPostM F n P fn R .ret a w := by
  show LeavesInM F n P fn a.tmps R a.defers .returning w
  rw [hd]
  exact ⟨by simp, .inl ⟨_, _, rfl, run_takeDeferred hK, v, hr, hR⟩⟩
theorem splitSeq_any (s sep : ByteArray) (w : World) : Calls Tryd.prog 68 #[.string s, .string sep] w fun e w' =>
    e = .returned (.func (.func 92) #[] #[.pointer (some ⟨w.heap.size + 1, 0, none⟩), .pointer (some ⟨w.heap.size, 0, none⟩), .pointer (some ⟨w.heap.size + 1 + 1, 0, none⟩)]) ∧
    w' = ((w.alloc (.cells #[.string s] 9)).alloc (.cells #[.string sep] 9)).alloc (.cells #[.int .i64 0] 3) := by
  have cI : ∀ W, Calls Tryd.prog 82 #[.string s, .string sep, .int .i64 0] W fun e w' =>
      e = .returned (.func (.func 92) #[] #[.pointer (some ⟨W.heap.size + 1, 0, none⟩), .pointer (some ⟨W.heap.size, 0, none⟩), .pointer (some ⟨W.heap.size + 1 + 1, 0, none⟩)]) ∧
      w' = ((W.alloc (.cells #[.string s] 9)).alloc (.cells #[.string sep] 9)).alloc (.cells #[.int .i64 0] 3) := fun W => by
    go_enter Tryd.func82, Tryd.ntmps82
    go_wp2_with fail
    go_ret
    exact ⟨rfl, rfl⟩
  replace cI := Lib.hid cI
  go_enter Tryd.func68, Tryd.ntmps68
  go_wp2_with fail
  refine (cI.out _).mono ?_
  rintro e w1 ⟨rfl, rfl⟩
  go_wp2_with fail
  go_ret
  exact ⟨rfl, rfl⟩
/-- The caller's law, the frame behind the assignment named by what it does to the slots. -/
theorem range_box_f {P : Program} {α : Type} {n : Nat} {g : Operand} {ps : Array Tmp} {assign body : Code} {Q : Exit → Act → World → Prop} {a : Act} {w : World} (f : Array Value → α → Array Value)
    {gf : Nat} {lb : Array Value} (hg : a.eval g = .func (.func gf) #[] lb) (eg : ∀ args w, (callFunc gf args).run P w = .ok (.enter gf args) w)
    {encs : α → Array Value} (hps : ∀ x, (encs x).size = ps.size) {xs : List α} {bs : List Nat} (hbs : ∀ b ∈ bs, b < w.heap.size) (hseq : SeqBox P n gf lb encs xs bs w)
    (keep : Nat → Prop) (hk1 : ∀ b ∈ bs, ¬ keep b) (hk2 : ∀ r, w.heap.size ≤ r → ¬ keep r)
    (I Ix : List α → World → Prop) (hI : ∀ s A B, I s A → Turn keep A B → I s B) (hIx : ∀ s A B, Ix s A → Turn keep A B → Ix s B) (h0 : I [] w)
    (hassign : ∀ (l : Nat) (x : α) (W : World) (K : Act → World → Prop), K { tmps := f a.tmps x, defers := [] } W →
      assign.wpIn (Fence.wide.inRound l) n P (Exit.then K (fun _ _ _ => False)) { tmps := (ps.zip (encs x)).foldl (fun t (p, v) => t.setIfInBounds p v) a.tmps, defers := [] } W)
    (hbody : ∀ (l : Nat) (pre : List α) (x : α) (W : World), I pre W → (pre ++ [x]) <+: xs → body.wpIn (Fence.wide.inRound l) n P (RoundEnd w.heap.size bs I Ix (pre ++ [x]) W) { tmps := f a.tmps x, defers := [] } W)
    (hdone : ∀ (D : Nat) (W : World), w.heap.size ≤ D → I xs W → W.heap[D]? = some (.deferred (some [])) → Q .normal { a with defers := { target := .collected D, args := #[] } :: a.defers } W)
    (hstop : ∀ (D : Nat) (pre : List α) (W : World), w.heap.size ≤ D → pre <+: xs → Ix pre W → W.heap[D]? = some (.deferred (some [])) → Code.ret.wpIn Fence.wide (n + 2) P Q { a with defers := { target := .collected D, args := #[] } :: a.defers } W) :
    (Code.rangeFunc g ps assign body).wpIn Fence.wide (n + 2) P Q a w :=
  range_box hg eg hps hbs hseq keep hk1 hk2 I Ix hI hIx h0 (fun x => { tmps := f a.tmps x, defers := [] }) hassign hbody hdone hstop
theorem Blk.put {A : World} {g : Nat} {t : TypeId} {cs : Array Value} {l : Nat} (h : Blk A g t cs) (o : Obj) (hne : g ≠ l) : Blk (A.putObj l o) g t cs := (World.putObj_heap_other hne).trans h

theorem end_mark {w w5 : World} {D : Nat} {u0 u1 u2 : Value} {tL tE : TypeId} {r0 r1 r2 : Value} (bR : Blk w5 w.heap.size tL #[r0, r1]) (bE : Blk w5 (w.heap.size + 1) tE #[r2]) (hg : Grows w w5) (hK : w5.heap[D]? = some (.deferred (some []))) (hD : w.heap.size + 1 < D) :
    (((w5.setCell ⟨w.heap.size, 0, none⟩ u0).setCell ⟨w.heap.size, 1, none⟩ u1).setCell ⟨w.heap.size + 1, 0, none⟩ u2).heap[D]? = some (.deferred (some [])) ∧
    Blk ((((w5.setCell ⟨w.heap.size, 0, none⟩ u0).setCell ⟨w.heap.size, 1, none⟩ u1).setCell ⟨w.heap.size + 1, 0, none⟩ u2).putObj D (.deferred none)) w.heap.size tL #[u0, u1] ∧
    Blk ((((w5.setCell ⟨w.heap.size, 0, none⟩ u0).setCell ⟨w.heap.size, 1, none⟩ u1).setCell ⟨w.heap.size + 1, 0, none⟩ u2).putObj D (.deferred none)) (w.heap.size + 1) tE #[u2] ∧
    Grows w ((((w5.setCell ⟨w.heap.size, 0, none⟩ u0).setCell ⟨w.heap.size, 1, none⟩ u1).setCell ⟨w.heap.size + 1, 0, none⟩ u2).putObj D (.deferred none)) := by
  have h1 : Blk (((w5.setCell ⟨w.heap.size, 0, none⟩ u0).setCell ⟨w.heap.size, 1, none⟩ u1).setCell ⟨w.heap.size + 1, 0, none⟩ u2) w.heap.size tL #[u0, u1] := ((bR.set_ 0 u0).set_ 1 u1).far (by simp) _
  have h2 : Blk (((w5.setCell ⟨w.heap.size, 0, none⟩ u0).setCell ⟨w.heap.size, 1, none⟩ u1).setCell ⟨w.heap.size + 1, 0, none⟩ u2) (w.heap.size + 1) tE #[u2] := ((bE.far (by simp) _).far (by simp) _).set_ 0 u2
  have h3 : (((w5.setCell ⟨w.heap.size, 0, none⟩ u0).setCell ⟨w.heap.size, 1, none⟩ u1).setCell ⟨w.heap.size + 1, 0, none⟩ u2).heap[D]? = some (.deferred (some [])) :=
    (Below.heap_setCell _ _ _ _ (by simp; omega)).trans ((Below.heap_setCell _ _ _ _ (by simp; omega)).trans ((Below.heap_setCell _ _ _ _ (by simp; omega)).trans hK))
  have h4 : Grows w (((w5.setCell ⟨w.heap.size, 0, none⟩ u0).setCell ⟨w.heap.size, 1, none⟩ u1).setCell ⟨w.heap.size + 1, 0, none⟩ u2) := Grows.setCell (Grows.setCell (Grows.setCell hg (by simp) _) (by simp) _) (by simp) _
  exact ⟨h3, h1.put _ (by omega), h2.put _ (by omega), Below.turn (keep := fun r => r < w.heap.size) h4.below h4.size (fun _ h => h) (Turn.put _ _ (by omega))⟩

set_option maxRecDepth 100000 in
set_option maxHeartbeats 6400000 in
theorem lRead_any (s : List UInt8) (hs : s.length ≤ 1000) (w : World) (he : LibEnv w) :
    Calls Tryd.prog 40 #[.string ⟨s.toArray⟩] w (LReadPost s w) := by
  have cC := fun W hW => cut_any ⟨s.toArray⟩ ⟨#[43]⟩ (by simp only [ByteArray.size, List.size_toArray]; omega) W (he.grows (w' := W) hW)
  have hcl := cut_len s [43]
  have hrd : readL s = if (Lib.cut s [43]).2.2 = true then ((splitF 44 (Lib.cut s [43]).2.1.length (Lib.cut s [43]).2.1).foldlM stepT 0).map fun c => ⟨lvOf (Lib.cut s [43]).1, c⟩ else some ⟨lvOf (Lib.cut s [43]).1, 0⟩ := rfl
  simp only at cC
  generalize (Lib.cut s [43]).1 = la at *
  generalize (Lib.cut s [43]).2.1 = lt at *
  generalize (Lib.cut s [43]).2.2 = some' at *
  obtain ⟨hcl1, hcl2⟩ := hcl
  have hla : (((la.length : Int) == 1) = true ∧ ∃ b, la = [b]) ∨ (((la.length : Int) == 1) = false ∧ lvOf la = 0) := by
    match la with
    | [] => exact .inr ⟨by simp, rfl⟩
    | [b] => exact .inl ⟨by simp, b, rfl⟩
    | b :: c :: r => exact .inr ⟨by rw [beq_eq_false_iff_ne]; simp; omega, rfl⟩
  have cT := fun (x : Lab) W (hx : x.ok) hW => lText_any x W hx (he.grows (w' := W) hW)
  have hcase : ∀ x : Lab, readL s = some x → x.ok → (Hid (labErr x = 0) ∧ Hid (labTextV x = s) ∧ Hid (LabIs s x 0)) ∨ (Hid (labErr x = 0) ∧ Hid ((!labTextV x == s) = true) ∧ Hid (LabIs s ⟨0, 0⟩ 2)) ∨ (Hid (labErr x = 1) ∧ Hid (LabIs s ⟨0, 0⟩ 2)) := fun x h hx => by
    obtain ⟨h1, h2⟩ := readL_is h hx
    unfold labErr labTextV
    by_cases hr : labRight x.lv = true
    · rw [if_pos hr, if_pos hr]
      by_cases ht : labText x = s
      · exact .inl ⟨rfl, ht, h1 ⟨hr, ht⟩⟩
      · exact .inr (.inl ⟨rfl, by show (!labText x == s) = true; simpa using ht, h2 fun h => ht h.2⟩)
    · rw [if_neg hr]
      exact .inr (.inr ⟨rfl, h2 fun h => hr h.1⟩)
  have hheh := Lib.hid he
  replace cC := Lib.hid cC
  replace cT := Lib.hid cT
  replace hcase := Lib.hid hcase
  clear he
  refine (callsIn_wide (n := 3)).1 ?_
  refine callsIn_of_wp_marks Tryd.func40 rfl trivial ?_ rfl
  simp only [Tryd.ntmps40, List.size_toArray, List.length_cons, List.length_nil, Nat.reduceAdd, Nat.reduceSub, Array.replicate_succ, Array.replicate_zero, List.push_toArray, List.append_toArray, List.nil_append, List.cons_append]
  gi_wp2_with fail
  refine ⟨trivial, (callsIn_wide.2 (cC.out _ (by
    repeat (first | assumption | exact Grows.refl _ | apply Grows.drew | apply Grows.drewN | refine Grows.alloc ?_ _ | (refine Grows.setCell ?_ (by first | (simp; done) | (simp; omega) | omega) _) | (refine Grows.trans ?_ (by assumption)))
  ))).mono ?_⟩
  rintro e w1 ⟨rfl, hb1⟩
  have bR : Blk w1 w.heap.size 62 #[.int .i64 0, .int .u32 0] := ((Blk.new w _ _).alloc _).grows hb1
  have bE : Blk w1 (w.heap.size + 1) 40 #[.int .i64 0] := (Blk.new1 w _ _ _).grows hb1
  have hg1 : Grows w w1 := (((Grows.refl w).alloc _).alloc _).trans hb1
  have hz1 := hb1.size
  simp only [World.size_alloc] at hz1
  clear hb1 cC
  cases some'
  · simp only [if_false, Bool.false_eq_true] at hrd
    have hc2 := hcase.out _ hrd (by show (0 : Nat) < _; decide)
    have cTx := fun W hW => cT.out ⟨lvOf la, 0⟩ W (by show (0 : Nat) < _; decide) hW
    unfold LTextPost at cTx
    simp only [Int.natCast_zero] at cTx
    clear hcase hrd
    rcases hla with ⟨hla1, b, rfl⟩ | ⟨hla1, hla2⟩
    · skip
      have hbt := get_bt ⟨#[b]⟩
      have hb1 := bt_nonneg ⟨#[b]⟩ 0
      have hb2 := bt_le ⟨#[b]⟩ 0
      have hlv : lvOf [b] = bt ⟨#[b]⟩ 0 - 48 := by rw [← hbt 0 (by simp [ByteArray.size])]; rfl
      rw [hlv] at cTx hc2
      clear hlv
      generalize labTextV ⟨(bt ⟨#[b]⟩ 0 - 48), 0⟩ = T at *
      generalize labErr ⟨(bt ⟨#[b]⟩ 0 - 48), 0⟩ = E at *
      replace cTx := Lib.hid cTx
      have hcase := hc2
      clear hc2
      gi_wp2_with fail
      have bA : Blk (w1.alloc (.cells #[.int .i64 (bt ⟨#[b]⟩ 0 - 48), .int .u32 0] 62)) w1.heap.size 62 #[.int .i64 (bt ⟨#[b]⟩ 0 - 48), .int .u32 0] := Blk.new _ _ _
      replace bR := bR.alloc (.cells #[.int .i64 (bt ⟨#[b]⟩ 0 - 48), .int .u32 0] 62)
      replace bE := bE.alloc (.cells #[.int .i64 (bt ⟨#[b]⟩ 0 - 48), .int .u32 0] 62)
      have hg := hg1.alloc (.cells #[.int .i64 (bt ⟨#[b]⟩ 0 - 48), .int .u32 0] 62)
      refine ⟨trivial, (callsIn_wide.2 (cTx.out _ hg)).mono ?_⟩
      rintro e w5 ⟨rfl, hb5⟩
      replace bA := bA.grows hb5
      replace bR := bR.grows hb5
      replace bE := bE.grows hb5
      have hg5 : Grows w w5 := hg.trans hb5
      have a0 : w5.cell? ⟨w1.heap.size, 0, none⟩ = some (.int .i64 (bt ⟨#[b]⟩ 0 - 48)) := bA.cell 0
      have a1 : w5.cell? ⟨w1.heap.size, 1, none⟩ = some (.int .u32 0) := bA.cell 1
      have r0 : w5.cell? ⟨w.heap.size, 0, none⟩ = some (.int .i64 0) := bR.cell 0
      have r1 : w5.cell? ⟨w.heap.size, 1, none⟩ = some (.int .u32 0) := bR.cell 1
      have e0 : w5.cell? ⟨w.heap.size + 1, 0, none⟩ = some (.int .i64 0) := bE.cell 0
      have fr0 := bR.frozen 0
      have fr1 := bR.frozen 1
      have fe0 := bE.frozen 0
      rcases hcase with ⟨hE, hT, hfin⟩ | ⟨hE, hT, hfin⟩ | ⟨hE, hfin⟩
      · obtain rfl := hE.out
        obtain rfl := hT.out
        gi_wp2_with fail
        refine post_nomark (v := .tuple #[.agg #[.int .i64 (bt ⟨#[b]⟩ 0 - 48), .int .u32 0], .int .i64 0]) ?_ rfl ⟨⟨(bt ⟨#[b]⟩ 0 - 48), 0⟩, 0, rfl, hfin.out, ?_⟩
        · simp [results, Tryd.results40, go_sem, r0, r1, e0]
        · exact Grows.setCell (Grows.setCell (Grows.setCell hg5 (by simp) _) (by simp) _) (by simp) _
      · obtain rfl := hE.out
        have hne := hT.out
        gi_wp2_with fail
        refine post_nomark (v := .tuple #[.agg #[.int .i64 0, .int .u32 0], .int .i64 2]) ?_ rfl ⟨⟨0, 0⟩, 2, rfl, hfin.out, ?_⟩
        · simp [results, Tryd.results40, go_sem, r0, r1, e0]
        · exact Grows.setCell (Grows.setCell (Grows.setCell hg5 (by simp) _) (by simp) _) (by simp) _
      · obtain rfl := hE.out
        gi_wp2_with fail
        refine post_nomark (v := .tuple #[.agg #[.int .i64 0, .int .u32 0], .int .i64 2]) ?_ rfl ⟨⟨0, 0⟩, 2, rfl, hfin.out, ?_⟩
        · simp [results, Tryd.results40, go_sem, r0, r1, e0]
        · exact Grows.setCell (Grows.setCell (Grows.setCell hg5 (by simp) _) (by simp) _) (by simp) _
    · skip
      rw [hla2] at cTx hc2
      clear hla2
      generalize labTextV ⟨0, 0⟩ = T at *
      generalize labErr ⟨0, 0⟩ = E at *
      replace cTx := Lib.hid cTx
      have hcase := hc2
      clear hc2
      gi_wp2_with fail
      have bA : Blk (w1.alloc (.cells #[.int .i64 0, .int .u32 0] 62)) w1.heap.size 62 #[.int .i64 0, .int .u32 0] := Blk.new _ _ _
      replace bR := bR.alloc (.cells #[.int .i64 0, .int .u32 0] 62)
      replace bE := bE.alloc (.cells #[.int .i64 0, .int .u32 0] 62)
      have hg := hg1.alloc (.cells #[.int .i64 0, .int .u32 0] 62)
      refine ⟨trivial, (callsIn_wide.2 (cTx.out _ hg)).mono ?_⟩
      rintro e w5 ⟨rfl, hb5⟩
      replace bA := bA.grows hb5
      replace bR := bR.grows hb5
      replace bE := bE.grows hb5
      have hg5 : Grows w w5 := hg.trans hb5
      have a0 : w5.cell? ⟨w1.heap.size, 0, none⟩ = some (.int .i64 0) := bA.cell 0
      have a1 : w5.cell? ⟨w1.heap.size, 1, none⟩ = some (.int .u32 0) := bA.cell 1
      have r0 : w5.cell? ⟨w.heap.size, 0, none⟩ = some (.int .i64 0) := bR.cell 0
      have r1 : w5.cell? ⟨w.heap.size, 1, none⟩ = some (.int .u32 0) := bR.cell 1
      have e0 : w5.cell? ⟨w.heap.size + 1, 0, none⟩ = some (.int .i64 0) := bE.cell 0
      have fr0 := bR.frozen 0
      have fr1 := bR.frozen 1
      have fe0 := bE.frozen 0
      rcases hcase with ⟨hE, hT, hfin⟩ | ⟨hE, hT, hfin⟩ | ⟨hE, hfin⟩
      · obtain rfl := hE.out
        obtain rfl := hT.out
        gi_wp2_with fail
        refine post_nomark (v := .tuple #[.agg #[.int .i64 0, .int .u32 0], .int .i64 0]) ?_ rfl ⟨⟨0, 0⟩, 0, rfl, hfin.out, ?_⟩
        · simp [results, Tryd.results40, go_sem, r0, r1, e0]
        · exact Grows.setCell (Grows.setCell (Grows.setCell hg5 (by simp) _) (by simp) _) (by simp) _
      · obtain rfl := hE.out
        have hne := hT.out
        gi_wp2_with fail
        refine post_nomark (v := .tuple #[.agg #[.int .i64 0, .int .u32 0], .int .i64 2]) ?_ rfl ⟨⟨0, 0⟩, 2, rfl, hfin.out, ?_⟩
        · simp [results, Tryd.results40, go_sem, r0, r1, e0]
        · exact Grows.setCell (Grows.setCell (Grows.setCell hg5 (by simp) _) (by simp) _) (by simp) _
      · obtain rfl := hE.out
        gi_wp2_with fail
        refine post_nomark (v := .tuple #[.agg #[.int .i64 0, .int .u32 0], .int .i64 2]) ?_ rfl ⟨⟨0, 0⟩, 2, rfl, hfin.out, ?_⟩
        · simp [results, Tryd.results40, go_sem, r0, r1, e0]
        · exact Grows.setCell (Grows.setCell (Grows.setCell hg5 (by simp) _) (by simp) _) (by simp) _
  · simp only [if_true] at hrd
    rcases hla with ⟨hla1, b, rfl⟩ | ⟨hla1, hla2⟩
    · skip
      have hbt := get_bt ⟨#[b]⟩
      have hb1 := bt_nonneg ⟨#[b]⟩ 0
      have hb2 := bt_le ⟨#[b]⟩ 0
      have hlv : lvOf [b] = bt ⟨#[b]⟩ 0 - 48 := by rw [← hbt 0 (by simp [ByteArray.size])]; rfl
      rw [hlv] at hrd
      clear hlv
      have hxl := splitF_len 44 lt.length lt
      have hbad : (splitF 44 lt.length lt).foldlM stepT 0 = none → LabIs s ⟨0, 0⟩ 2 := fun h => readL_none (by rw [hrd, h]; rfl)
      have hgood : ∀ c, (splitF 44 lt.length lt).foldlM stepT 0 = some c → readL s = some ⟨(bt ⟨#[b]⟩ 0 - 48), c⟩ := fun c h => by rw [hrd, h]; rfl
      have hbox := fun B W h1 h2 h3 => splitSeq_box 1 B lt (by omega) W h1 h2 h3
      generalize splitF 44 lt.length lt = xs at *
      have cQ := fun W => splitSeq_any ⟨lt.toArray⟩ ⟨#[44]⟩ W
      replace hbad := Lib.hid hbad
      replace hgood := Lib.hid hgood
      replace hbox := Lib.hid hbox
      replace cQ := Lib.hid cQ
      replace hxl := Lib.hid hxl
      clear hrd
      gi_wp2_with fail
      refine ⟨trivial, (callsIn_wide.2 (cQ.out _)).mono ?_⟩
      rintro e w2 ⟨rfl, rfl⟩
      gi_wp2_with fail
      obtain ⟨WA, hWA⟩ : ∃ WA, w1.alloc (.cells #[.int .i64 (bt ⟨#[b]⟩ 0 - 48), .int .u32 0] 62) = WA := ⟨_, rfl⟩
      have zA : WA.heap.size = w1.heap.size + 1 := by rw [← hWA]; simp
      have bA0 : Blk WA w1.heap.size 62 #[.int .i64 (bt ⟨#[b]⟩ 0 - 48), .int .u32 0] := by rw [← hWA]; exact Blk.new _ _ _
      have bR0 : Blk WA w.heap.size 62 #[.int .i64 0, .int .u32 0] := by rw [← hWA]; exact bR.alloc _
      have bE0 : Blk WA (w.heap.size + 1) 40 #[.int .i64 0] := by rw [← hWA]; exact bE.alloc _
      have hgA : Grows w WA := by rw [← hWA]; exact hg1.alloc _
      rw [hWA]
      clear hWA bR bE hg1
      have bS := ((Blk.new WA 9 #[.string ⟨lt.toArray⟩]).alloc (.cells #[.string ⟨#[44]⟩] 9)).alloc (.cells #[.int .i64 0] 3)
      have bP := (Blk.new1 WA (.cells #[.string ⟨lt.toArray⟩] 9) 9 #[.string ⟨#[44]⟩]).alloc (.cells #[.int .i64 0] 3)
      have bV := Blk.new2 WA (.cells #[.string ⟨lt.toArray⟩] 9) (.cells #[.string ⟨#[44]⟩] 9) 3 #[.int .i64 0]
      replace bA0 := ((bA0.alloc (.cells #[.string ⟨lt.toArray⟩] 9)).alloc (.cells #[.string ⟨#[44]⟩] 9)).alloc (.cells #[.int .i64 0] 3)
      replace bR0 := ((bR0.alloc (.cells #[.string ⟨lt.toArray⟩] 9)).alloc (.cells #[.string ⟨#[44]⟩] 9)).alloc (.cells #[.int .i64 0] 3)
      replace bE0 := ((bE0.alloc (.cells #[.string ⟨lt.toArray⟩] 9)).alloc (.cells #[.string ⟨#[44]⟩] 9)).alloc (.cells #[.int .i64 0] 3)
      replace hgA := ((hgA.alloc (.cells #[.string ⟨lt.toArray⟩] 9)).alloc (.cells #[.string ⟨#[44]⟩] 9)).alloc (.cells #[.int .i64 0] 3)
      rw [zA] at bS bP bV
      obtain ⟨W2, hW2⟩ : ∃ W2, ((WA.alloc (.cells #[.string ⟨lt.toArray⟩] 9)).alloc (.cells #[.string ⟨#[44]⟩] 9)).alloc (.cells #[.int .i64 0] 3) = W2 := ⟨_, rfl⟩
      have z2 : W2.heap.size = w1.heap.size + 4 := by rw [← hW2]; simp [zA]
      rw [hW2] at bS bP bV bA0 bR0 bE0 hgA ⊢
      clear hW2 zA
      refine range_box_f (n := 1) (fun t x => (t.setIfInBounds 30 (.string ⟨x.toArray⟩)).setIfInBounds 8 (.string ⟨x.toArray⟩)) (gf := 92) (lb := #[.pointer (some ⟨w1.heap.size + 1 + 1, 0, none⟩), .pointer (some ⟨w1.heap.size + 1, 0, none⟩), .pointer (some ⟨w1.heap.size + 1 + 2, 0, none⟩)]) rfl (enters_of Tryd.func92 (by kernel_rfl) rfl)
        (encs := fun x : List UInt8 => #[.string ⟨x.toArray⟩]) (fun _ => rfl) (xs := xs) (bs := [w1.heap.size + 1, w1.heap.size + 1 + 1, w1.heap.size + 1 + 2]) (by simp; omega) (hbox.out (w1.heap.size + 1) W2 bS bP bV)
        (fun r => r < w.heap.size + 2 ∨ r = w1.heap.size) (by simp; omega) (by intro r hr; omega)
        (fun pre W => ∃ c : Nat, Hid (pre.foldlM stepT 0 = some c) ∧ c < 4294967296 ∧ Blk W w1.heap.size 62 #[.int .i64 (bt ⟨#[b]⟩ 0 - 48), .int .u32 (c : Int)] ∧ Blk W w.heap.size 62 #[.int .i64 0, .int .u32 0] ∧ Blk W (w.heap.size + 1) 40 #[.int .i64 0] ∧ Grows w W ∧ W2.heap.size ≤ W.heap.size)
        (fun pre W => Hid (pre.foldlM stepT 0 = none) ∧ Blk W w.heap.size 62 #[.int .i64 0, .int .u32 0] ∧ Blk W (w.heap.size + 1) 40 #[.int .i64 2] ∧ Grows w W)
        ?hI ?hIx ?h0 ?assign ?body ?done ?stop
      case hI =>
        rintro pre A C ⟨c, h1, h2, h3, h4, h5, h6, h7⟩ ht
        exact ⟨c, h1, h2, h3.turn (.inr rfl) ht, h4.turn (.inl (by omega)) ht, h5.turn (.inl (by omega)) ht, Below.turn h6.below h6.size (fun r hr => .inl (by omega)) ht, Nat.le_trans h7 (by obtain ⟨row, hg, _⟩ := ht; exact hg.size)⟩
      case hIx =>
        rintro pre A C ⟨h1, h4, h5, h6⟩ ht
        exact ⟨h1, h4.turn (.inl (by omega)) ht, h5.turn (.inl (by omega)) ht, Below.turn h6.below h6.size (fun r hr => .inl (by omega)) ht⟩
      case h0 => exact ⟨0, rfl, by decide, bA0, bR0, bE0, hgA, Nat.le_refl _⟩
      case assign =>
        intro l x W K hK
        gi_wp2
        exact hK
      case body =>
        rintro l pre x W ⟨c, hc, hlt, bA, bR, bE, hB, hsz⟩ hpx
        have hx : x ∈ xs := hpx.subset (by simp)
        have hxle := hxl.out x hx
        have cA := atoi_any ⟨x.toArray⟩ (by simp only [ByteArray.size, List.size_toArray]; omega) W (hheh.out.grows hB)
        simp only at cA
        have hsn : (pre ++ [x]).foldlM stepT 0 = stepT c x := by rw [fold_snoc, hc.out]; rfl
        have sA := bA.lt
        replace cA := Lib.hid cA
        replace hsn := Lib.hid hsn
        clear hbox hgood hbad cQ bS bP bV bA0 bR0 bE0 hgA hx
        gi_wp2_with fail
        refine ⟨trivial, (CallsIn.inRound l (callsIn_wide.2 cA.out)).mono ?_⟩
        rintro e w5 ⟨ev, rfl, herr, hb5⟩
        replace bA := bA.grows hb5
        replace bR := bR.grows hb5
        replace bE := bE.grows hb5
        have hB5 : Grows w w5 := hB.trans hb5
        have a0 : w5.cell? ⟨w1.heap.size, 0, none⟩ = some (.int .i64 (bt ⟨#[b]⟩ 0 - 48)) := bA.cell 0
        have a1 : w5.cell? ⟨w1.heap.size, 1, none⟩ = some (.int .u32 (c : Int)) := bA.cell 1
        have fa1 := bA.frozen 1
        have r0 : w5.cell? ⟨w.heap.size, 0, none⟩ = some (.int .i64 0) := bR.cell 0
        have r1 : w5.cell? ⟨w.heap.size, 1, none⟩ = some (.int .u32 0) := bR.cell 1
        have e0 : w5.cell? ⟨w.heap.size + 1, 0, none⟩ = some (.int .i64 0) := bE.cell 0
        have fr0 := bR.frozen 0
        have fr1 := bR.frozen 1
        have fe0 := bE.frozen 0
        have hsame : Same [w1.heap.size + 1, w1.heap.size + 1 + 1, w1.heap.size + 1 + 2] W w5 := hb5.same (by simp; omega)
        have hkeep := hb5.keeps W2.heap.size
        rcases herr with ⟨ho, rfl⟩ | ⟨ho, N, rfl⟩
        · have hb0 := atoiV_bounds x
          generalize hv : atoiV x = v at *
          by_cases hv0 : 0 ≤ v ∧ v < 32
          · obtain ⟨hv1, hv2⟩ := hv0
            have hst : stepT c x = some (c ||| 2 ^ v.toNat) := by unfold stepT; rw [hv, if_pos ⟨ho, hv1, hv2⟩]
            have hpw := pow_lt (t := v.toNat) (by omega)
            have hor : bits BinOp.or IntKind.u32 (c : Int) (IntKind.u32.wrap (2 ^ v.toNat)) = ((c ||| 2 ^ v.toNat : Nat) : Int) := by
              have h1 := u32_or_nat c (2 ^ v.toNat) hlt (by omega)
              rw [w32 (x := (2 : Int) ^ v.toNat) (Int.pow_nonneg (by decide)) (by
                have : ((2 ^ v.toNat : Nat) : Int) ≤ 2147483648 := by omega
                simp at this; omega)]
              rw [← h1]; simp
            have hclt : c ||| 2 ^ v.toNat < 4294967296 := Nat.or_lt_two_pow (n := 32) hlt (by omega)
            rw [hst] at hsn
            have hmx : Tryd.prog.follows .mixedOrders = true := by kernel_rfl
            generalize c ||| 2 ^ v.toNat = C at *
            replace hsn := Lib.hid hsn
            clear hv hst hpw
            gi_wp2_with fail
            gi_region_o
            all_goals gi_wp2
            all_goals exact ⟨hkeep.trans (((KeepsOthers.setCell _ _ _).trans (KeepsOthers.drew _)).from _), hsame.trans (Same.setCell _ _ _ (by simp; omega)), C, hsn.out, hclt, bA.set_ 1 _, bR.far (by simp; omega) _, bE.far (by simp; omega) _, (hB5.setCell (by simp; omega) _).drew, by have := hb5.size; simp; omega⟩
          · have hst : stepT c x = none := stepT_bad (by rw [hv]; exact fun h => hv0 h.2)
            rw [hst] at hsn
            replace hsn := Lib.hid hsn
            have hor : v < 0 ∨ 32 ≤ v := by omega
            clear hv hst hv0
            rcases hor with hv1 | hv1
            all_goals
              gi_wp2_with fail
              exact ⟨hkeep.trans ((((KeepsOthers.setCell _ _ _).trans (KeepsOthers.setCell _ _ _)).trans (KeepsOthers.setCell _ _ _)).from _), hsn.out, ((bR.set_ 0 _).set_ 1 _).far (by simp) _, ((bE.far (by simp) _).far (by simp) _).set_ 0 _, ((hB5.setCell (by simp) _).setCell (by simp) _).setCell (by simp) _⟩
        · have hst : stepT c x = none := stepT_bad (by rw [ho]; simp)
          rw [hst] at hsn
          replace hsn := Lib.hid hsn
          clear hst
          gi_wp2_with fail
          exact ⟨hkeep.trans ((((KeepsOthers.setCell _ _ _).trans (KeepsOthers.setCell _ _ _)).trans (KeepsOthers.setCell _ _ _)).from _), hsn.out, ((bR.set_ 0 _).set_ 1 _).far (by simp) _, ((bE.far (by simp) _).far (by simp) _).set_ 0 _, ((hB5.setCell (by simp) _).setCell (by simp) _).setCell (by simp) _⟩
      case done =>
        rintro D W hD ⟨C, hc, hlt, bA, bR, bE, hg, hsz⟩ hK
        have hcase := hcase.out _ (hgood.out C hc.out) hlt
        have cTx := fun W hW => cT.out ⟨(bt ⟨#[b]⟩ 0 - 48), C⟩ W hlt hW
        unfold LTextPost at cTx
        simp only at cTx
        generalize labTextV ⟨(bt ⟨#[b]⟩ 0 - 48), C⟩ = T at *
        generalize labErr ⟨(bt ⟨#[b]⟩ 0 - 48), C⟩ = E at *
        replace cTx := Lib.hid cTx
        have a0 : W.cell? ⟨w1.heap.size, 0, none⟩ = some (.int .i64 (bt ⟨#[b]⟩ 0 - 48)) := bA.cell 0
        have a1 : W.cell? ⟨w1.heap.size, 1, none⟩ = some (.int .u32 (C : Int)) := bA.cell 1
        have sA := bA.lt
        clear hbox hgood hbad cQ bS bP bV bA0 bR0 bE0 hgA hxl
        gi_wp2_with fail
        refine ⟨trivial, (callsIn_wide.2 (cTx.out _ hg)).mono ?_⟩
        rintro e w5 ⟨rfl, hb5⟩
        replace bA := bA.grows hb5
        replace bR := bR.grows hb5
        replace bE := bE.grows hb5
        have hg5 : Grows w w5 := hg.trans hb5
        have a0 : w5.cell? ⟨w1.heap.size, 0, none⟩ = some (.int .i64 (bt ⟨#[b]⟩ 0 - 48)) := bA.cell 0
        have a1 : w5.cell? ⟨w1.heap.size, 1, none⟩ = some (.int .u32 (C : Int)) := bA.cell 1
        have r0 : w5.cell? ⟨w.heap.size, 0, none⟩ = some (.int .i64 0) := bR.cell 0
        have r1 : w5.cell? ⟨w.heap.size, 1, none⟩ = some (.int .u32 0) := bR.cell 1
        have e0 : w5.cell? ⟨w.heap.size + 1, 0, none⟩ = some (.int .i64 0) := bE.cell 0
        have fr0 := bR.frozen 0
        have fr1 := bR.frozen 1
        have fe0 := bE.frozen 0
        have hK5 : w5.heap[D]? = some (.deferred (some [])) := (hb5.below.block D (Array.getElem?_eq_some_iff.1 hK).1).trans hK
        have endM := fun u0 u1 u2 => end_mark (u0 := u0) (u1 := u1) (u2 := u2) bR bE hg5 hK5 (by omega)
        rcases hcase with ⟨hE, hT, hfin⟩ | ⟨hE, hT, hfin⟩ | ⟨hE, hfin⟩
        · obtain rfl := hE.out
          obtain rfl := hT.out
          gi_wp2_with fail
          obtain ⟨m1, m2, m3, m4⟩ := endM (.int .i64 (bt ⟨#[b]⟩ 0 - 48)) (.int .u32 (C : Int)) (.int .i64 0)
          have q0 := m2.cell 0
          have q1 := m2.cell 1
          have q2 := m3.cell 0
          simp only [List.getElem?_toArray, List.getElem?_cons_zero, List.getElem?_cons_succ] at q0 q1 q2
          refine post_mark (v := .tuple #[.agg #[.int .i64 (bt ⟨#[b]⟩ 0 - 48), .int .u32 (C : Int)], .int .i64 0]) rfl m1 ?_ ⟨⟨(bt ⟨#[b]⟩ 0 - 48), C⟩, 0, rfl, hfin.out, m4⟩
          simp [results, Tryd.results40, go_sem, q0, q1, q2]
        · obtain rfl := hE.out
          have hne := hT.out
          gi_wp2_with fail
          obtain ⟨m1, m2, m3, m4⟩ := endM (.int .i64 0) (.int .u32 0) (.int .i64 2)
          have q0 := m2.cell 0
          have q1 := m2.cell 1
          have q2 := m3.cell 0
          simp only [List.getElem?_toArray, List.getElem?_cons_zero, List.getElem?_cons_succ] at q0 q1 q2
          refine post_mark (v := .tuple #[.agg #[.int .i64 0, .int .u32 0], .int .i64 2]) rfl m1 ?_ ⟨⟨0, 0⟩, 2, rfl, hfin.out, m4⟩
          simp [results, Tryd.results40, go_sem, q0, q1, q2]
        · obtain rfl := hE.out
          gi_wp2_with fail
          obtain ⟨m1, m2, m3, m4⟩ := endM (.int .i64 0) (.int .u32 0) (.int .i64 2)
          have q0 := m2.cell 0
          have q1 := m2.cell 1
          have q2 := m3.cell 0
          simp only [List.getElem?_toArray, List.getElem?_cons_zero, List.getElem?_cons_succ] at q0 q1 q2
          refine post_mark (v := .tuple #[.agg #[.int .i64 0, .int .u32 0], .int .i64 2]) rfl m1 ?_ ⟨⟨0, 0⟩, 2, rfl, hfin.out, m4⟩
          simp [results, Tryd.results40, go_sem, q0, q1, q2]
      case stop =>
        rintro D pre W hD hp ⟨hn, bR, bE, hg⟩ hK
        have hfin := hbad.out (fold_cut hn.out hp)
        have r0 : W.cell? ⟨w.heap.size, 0, none⟩ = some (.int .i64 0) := bR.cell 0
        have r1 : W.cell? ⟨w.heap.size, 1, none⟩ = some (.int .u32 0) := bR.cell 1
        have e0 : W.cell? ⟨w.heap.size + 1, 0, none⟩ = some (.int .i64 2) := bE.cell 0
        have q0 : (W.putObj D (.deferred none)).cell? ⟨w.heap.size, 0, none⟩ = some (.int .i64 0) := (bR.put _ (by omega)).cell 0
        have q1 : (W.putObj D (.deferred none)).cell? ⟨w.heap.size, 1, none⟩ = some (.int .u32 0) := (bR.put _ (by omega)).cell 1
        have q2 : (W.putObj D (.deferred none)).cell? ⟨w.heap.size + 1, 0, none⟩ = some (.int .i64 2) := (bE.put _ (by omega)).cell 0
        replace hfin := Lib.hid hfin
        clear hbox hgood hbad cQ bS bP bV bA0 bR0 bE0 hgA hxl
        gi_wp2_with fail
        refine post_mark (v := .tuple #[.agg #[.int .i64 0, .int .u32 0], .int .i64 2]) rfl hK ?_ ⟨⟨0, 0⟩, 2, rfl, hfin.out, Below.turn (keep := fun r => r < w.heap.size) hg.below hg.size (fun _ h => h) (Turn.put _ _ (by omega))⟩
        simp [results, Tryd.results40, go_sem, q0, q1, q2]

    · skip
      rw [hla2] at hrd
      clear hla2
      have hxl := splitF_len 44 lt.length lt
      have hbad : (splitF 44 lt.length lt).foldlM stepT 0 = none → LabIs s ⟨0, 0⟩ 2 := fun h => readL_none (by rw [hrd, h]; rfl)
      have hgood : ∀ c, (splitF 44 lt.length lt).foldlM stepT 0 = some c → readL s = some ⟨0, c⟩ := fun c h => by rw [hrd, h]; rfl
      have hbox := fun B W h1 h2 h3 => splitSeq_box 1 B lt (by omega) W h1 h2 h3
      generalize splitF 44 lt.length lt = xs at *
      have cQ := fun W => splitSeq_any ⟨lt.toArray⟩ ⟨#[44]⟩ W
      replace hbad := Lib.hid hbad
      replace hgood := Lib.hid hgood
      replace hbox := Lib.hid hbox
      replace cQ := Lib.hid cQ
      replace hxl := Lib.hid hxl
      clear hrd
      gi_wp2_with fail
      refine ⟨trivial, (callsIn_wide.2 (cQ.out _)).mono ?_⟩
      rintro e w2 ⟨rfl, rfl⟩
      gi_wp2_with fail
      obtain ⟨WA, hWA⟩ : ∃ WA, w1.alloc (.cells #[.int .i64 0, .int .u32 0] 62) = WA := ⟨_, rfl⟩
      have zA : WA.heap.size = w1.heap.size + 1 := by rw [← hWA]; simp
      have bA0 : Blk WA w1.heap.size 62 #[.int .i64 0, .int .u32 0] := by rw [← hWA]; exact Blk.new _ _ _
      have bR0 : Blk WA w.heap.size 62 #[.int .i64 0, .int .u32 0] := by rw [← hWA]; exact bR.alloc _
      have bE0 : Blk WA (w.heap.size + 1) 40 #[.int .i64 0] := by rw [← hWA]; exact bE.alloc _
      have hgA : Grows w WA := by rw [← hWA]; exact hg1.alloc _
      rw [hWA]
      clear hWA bR bE hg1
      have bS := ((Blk.new WA 9 #[.string ⟨lt.toArray⟩]).alloc (.cells #[.string ⟨#[44]⟩] 9)).alloc (.cells #[.int .i64 0] 3)
      have bP := (Blk.new1 WA (.cells #[.string ⟨lt.toArray⟩] 9) 9 #[.string ⟨#[44]⟩]).alloc (.cells #[.int .i64 0] 3)
      have bV := Blk.new2 WA (.cells #[.string ⟨lt.toArray⟩] 9) (.cells #[.string ⟨#[44]⟩] 9) 3 #[.int .i64 0]
      replace bA0 := ((bA0.alloc (.cells #[.string ⟨lt.toArray⟩] 9)).alloc (.cells #[.string ⟨#[44]⟩] 9)).alloc (.cells #[.int .i64 0] 3)
      replace bR0 := ((bR0.alloc (.cells #[.string ⟨lt.toArray⟩] 9)).alloc (.cells #[.string ⟨#[44]⟩] 9)).alloc (.cells #[.int .i64 0] 3)
      replace bE0 := ((bE0.alloc (.cells #[.string ⟨lt.toArray⟩] 9)).alloc (.cells #[.string ⟨#[44]⟩] 9)).alloc (.cells #[.int .i64 0] 3)
      replace hgA := ((hgA.alloc (.cells #[.string ⟨lt.toArray⟩] 9)).alloc (.cells #[.string ⟨#[44]⟩] 9)).alloc (.cells #[.int .i64 0] 3)
      rw [zA] at bS bP bV
      obtain ⟨W2, hW2⟩ : ∃ W2, ((WA.alloc (.cells #[.string ⟨lt.toArray⟩] 9)).alloc (.cells #[.string ⟨#[44]⟩] 9)).alloc (.cells #[.int .i64 0] 3) = W2 := ⟨_, rfl⟩
      have z2 : W2.heap.size = w1.heap.size + 4 := by rw [← hW2]; simp [zA]
      rw [hW2] at bS bP bV bA0 bR0 bE0 hgA ⊢
      clear hW2 zA
      refine range_box_f (n := 1) (fun t x => (t.setIfInBounds 30 (.string ⟨x.toArray⟩)).setIfInBounds 8 (.string ⟨x.toArray⟩)) (gf := 92) (lb := #[.pointer (some ⟨w1.heap.size + 1 + 1, 0, none⟩), .pointer (some ⟨w1.heap.size + 1, 0, none⟩), .pointer (some ⟨w1.heap.size + 1 + 2, 0, none⟩)]) rfl (enters_of Tryd.func92 (by kernel_rfl) rfl)
        (encs := fun x : List UInt8 => #[.string ⟨x.toArray⟩]) (fun _ => rfl) (xs := xs) (bs := [w1.heap.size + 1, w1.heap.size + 1 + 1, w1.heap.size + 1 + 2]) (by simp; omega) (hbox.out (w1.heap.size + 1) W2 bS bP bV)
        (fun r => r < w.heap.size + 2 ∨ r = w1.heap.size) (by simp; omega) (by intro r hr; omega)
        (fun pre W => ∃ c : Nat, Hid (pre.foldlM stepT 0 = some c) ∧ c < 4294967296 ∧ Blk W w1.heap.size 62 #[.int .i64 0, .int .u32 (c : Int)] ∧ Blk W w.heap.size 62 #[.int .i64 0, .int .u32 0] ∧ Blk W (w.heap.size + 1) 40 #[.int .i64 0] ∧ Grows w W ∧ W2.heap.size ≤ W.heap.size)
        (fun pre W => Hid (pre.foldlM stepT 0 = none) ∧ Blk W w.heap.size 62 #[.int .i64 0, .int .u32 0] ∧ Blk W (w.heap.size + 1) 40 #[.int .i64 2] ∧ Grows w W)
        ?hI ?hIx ?h0 ?assign ?body ?done ?stop
      case hI =>
        rintro pre A C ⟨c, h1, h2, h3, h4, h5, h6, h7⟩ ht
        exact ⟨c, h1, h2, h3.turn (.inr rfl) ht, h4.turn (.inl (by omega)) ht, h5.turn (.inl (by omega)) ht, Below.turn h6.below h6.size (fun r hr => .inl (by omega)) ht, Nat.le_trans h7 (by obtain ⟨row, hg, _⟩ := ht; exact hg.size)⟩
      case hIx =>
        rintro pre A C ⟨h1, h4, h5, h6⟩ ht
        exact ⟨h1, h4.turn (.inl (by omega)) ht, h5.turn (.inl (by omega)) ht, Below.turn h6.below h6.size (fun r hr => .inl (by omega)) ht⟩
      case h0 => exact ⟨0, rfl, by decide, bA0, bR0, bE0, hgA, Nat.le_refl _⟩
      case assign =>
        intro l x W K hK
        gi_wp2
        exact hK
      case body =>
        rintro l pre x W ⟨c, hc, hlt, bA, bR, bE, hB, hsz⟩ hpx
        have hx : x ∈ xs := hpx.subset (by simp)
        have hxle := hxl.out x hx
        have cA := atoi_any ⟨x.toArray⟩ (by simp only [ByteArray.size, List.size_toArray]; omega) W (hheh.out.grows hB)
        simp only at cA
        have hsn : (pre ++ [x]).foldlM stepT 0 = stepT c x := by rw [fold_snoc, hc.out]; rfl
        have sA := bA.lt
        replace cA := Lib.hid cA
        replace hsn := Lib.hid hsn
        clear hbox hgood hbad cQ bS bP bV bA0 bR0 bE0 hgA hx
        gi_wp2_with fail
        refine ⟨trivial, (CallsIn.inRound l (callsIn_wide.2 cA.out)).mono ?_⟩
        rintro e w5 ⟨ev, rfl, herr, hb5⟩
        replace bA := bA.grows hb5
        replace bR := bR.grows hb5
        replace bE := bE.grows hb5
        have hB5 : Grows w w5 := hB.trans hb5
        have a0 : w5.cell? ⟨w1.heap.size, 0, none⟩ = some (.int .i64 0) := bA.cell 0
        have a1 : w5.cell? ⟨w1.heap.size, 1, none⟩ = some (.int .u32 (c : Int)) := bA.cell 1
        have fa1 := bA.frozen 1
        have r0 : w5.cell? ⟨w.heap.size, 0, none⟩ = some (.int .i64 0) := bR.cell 0
        have r1 : w5.cell? ⟨w.heap.size, 1, none⟩ = some (.int .u32 0) := bR.cell 1
        have e0 : w5.cell? ⟨w.heap.size + 1, 0, none⟩ = some (.int .i64 0) := bE.cell 0
        have fr0 := bR.frozen 0
        have fr1 := bR.frozen 1
        have fe0 := bE.frozen 0
        have hsame : Same [w1.heap.size + 1, w1.heap.size + 1 + 1, w1.heap.size + 1 + 2] W w5 := hb5.same (by simp; omega)
        have hkeep := hb5.keeps W2.heap.size
        rcases herr with ⟨ho, rfl⟩ | ⟨ho, N, rfl⟩
        · have hb0 := atoiV_bounds x
          generalize hv : atoiV x = v at *
          by_cases hv0 : 0 ≤ v ∧ v < 32
          · obtain ⟨hv1, hv2⟩ := hv0
            have hst : stepT c x = some (c ||| 2 ^ v.toNat) := by unfold stepT; rw [hv, if_pos ⟨ho, hv1, hv2⟩]
            have hpw := pow_lt (t := v.toNat) (by omega)
            have hor : bits BinOp.or IntKind.u32 (c : Int) (IntKind.u32.wrap (2 ^ v.toNat)) = ((c ||| 2 ^ v.toNat : Nat) : Int) := by
              have h1 := u32_or_nat c (2 ^ v.toNat) hlt (by omega)
              rw [w32 (x := (2 : Int) ^ v.toNat) (Int.pow_nonneg (by decide)) (by
                have : ((2 ^ v.toNat : Nat) : Int) ≤ 2147483648 := by omega
                simp at this; omega)]
              rw [← h1]; simp
            have hclt : c ||| 2 ^ v.toNat < 4294967296 := Nat.or_lt_two_pow (n := 32) hlt (by omega)
            rw [hst] at hsn
            have hmx : Tryd.prog.follows .mixedOrders = true := by kernel_rfl
            generalize c ||| 2 ^ v.toNat = C at *
            replace hsn := Lib.hid hsn
            clear hv hst hpw
            gi_wp2_with fail
            gi_region_o
            all_goals gi_wp2
            all_goals exact ⟨hkeep.trans (((KeepsOthers.setCell _ _ _).trans (KeepsOthers.drew _)).from _), hsame.trans (Same.setCell _ _ _ (by simp; omega)), C, hsn.out, hclt, bA.set_ 1 _, bR.far (by simp; omega) _, bE.far (by simp; omega) _, (hB5.setCell (by simp; omega) _).drew, by have := hb5.size; simp; omega⟩
          · have hst : stepT c x = none := stepT_bad (by rw [hv]; exact fun h => hv0 h.2)
            rw [hst] at hsn
            replace hsn := Lib.hid hsn
            have hor : v < 0 ∨ 32 ≤ v := by omega
            clear hv hst hv0
            rcases hor with hv1 | hv1
            all_goals
              gi_wp2_with fail
              exact ⟨hkeep.trans ((((KeepsOthers.setCell _ _ _).trans (KeepsOthers.setCell _ _ _)).trans (KeepsOthers.setCell _ _ _)).from _), hsn.out, ((bR.set_ 0 _).set_ 1 _).far (by simp) _, ((bE.far (by simp) _).far (by simp) _).set_ 0 _, ((hB5.setCell (by simp) _).setCell (by simp) _).setCell (by simp) _⟩
        · have hst : stepT c x = none := stepT_bad (by rw [ho]; simp)
          rw [hst] at hsn
          replace hsn := Lib.hid hsn
          clear hst
          gi_wp2_with fail
          exact ⟨hkeep.trans ((((KeepsOthers.setCell _ _ _).trans (KeepsOthers.setCell _ _ _)).trans (KeepsOthers.setCell _ _ _)).from _), hsn.out, ((bR.set_ 0 _).set_ 1 _).far (by simp) _, ((bE.far (by simp) _).far (by simp) _).set_ 0 _, ((hB5.setCell (by simp) _).setCell (by simp) _).setCell (by simp) _⟩
      case done =>
        rintro D W hD ⟨C, hc, hlt, bA, bR, bE, hg, hsz⟩ hK
        have hcase := hcase.out _ (hgood.out C hc.out) hlt
        have cTx := fun W hW => cT.out ⟨0, C⟩ W hlt hW
        unfold LTextPost at cTx
        simp only at cTx
        generalize labTextV ⟨0, C⟩ = T at *
        generalize labErr ⟨0, C⟩ = E at *
        replace cTx := Lib.hid cTx
        have a0 : W.cell? ⟨w1.heap.size, 0, none⟩ = some (.int .i64 0) := bA.cell 0
        have a1 : W.cell? ⟨w1.heap.size, 1, none⟩ = some (.int .u32 (C : Int)) := bA.cell 1
        have sA := bA.lt
        clear hbox hgood hbad cQ bS bP bV bA0 bR0 bE0 hgA hxl
        gi_wp2_with fail
        refine ⟨trivial, (callsIn_wide.2 (cTx.out _ hg)).mono ?_⟩
        rintro e w5 ⟨rfl, hb5⟩
        replace bA := bA.grows hb5
        replace bR := bR.grows hb5
        replace bE := bE.grows hb5
        have hg5 : Grows w w5 := hg.trans hb5
        have a0 : w5.cell? ⟨w1.heap.size, 0, none⟩ = some (.int .i64 0) := bA.cell 0
        have a1 : w5.cell? ⟨w1.heap.size, 1, none⟩ = some (.int .u32 (C : Int)) := bA.cell 1
        have r0 : w5.cell? ⟨w.heap.size, 0, none⟩ = some (.int .i64 0) := bR.cell 0
        have r1 : w5.cell? ⟨w.heap.size, 1, none⟩ = some (.int .u32 0) := bR.cell 1
        have e0 : w5.cell? ⟨w.heap.size + 1, 0, none⟩ = some (.int .i64 0) := bE.cell 0
        have fr0 := bR.frozen 0
        have fr1 := bR.frozen 1
        have fe0 := bE.frozen 0
        have hK5 : w5.heap[D]? = some (.deferred (some [])) := (hb5.below.block D (Array.getElem?_eq_some_iff.1 hK).1).trans hK
        have endM := fun u0 u1 u2 => end_mark (u0 := u0) (u1 := u1) (u2 := u2) bR bE hg5 hK5 (by omega)
        rcases hcase with ⟨hE, hT, hfin⟩ | ⟨hE, hT, hfin⟩ | ⟨hE, hfin⟩
        · obtain rfl := hE.out
          obtain rfl := hT.out
          gi_wp2_with fail
          obtain ⟨m1, m2, m3, m4⟩ := endM (.int .i64 0) (.int .u32 (C : Int)) (.int .i64 0)
          have q0 := m2.cell 0
          have q1 := m2.cell 1
          have q2 := m3.cell 0
          simp only [List.getElem?_toArray, List.getElem?_cons_zero, List.getElem?_cons_succ] at q0 q1 q2
          refine post_mark (v := .tuple #[.agg #[.int .i64 0, .int .u32 (C : Int)], .int .i64 0]) rfl m1 ?_ ⟨⟨0, C⟩, 0, rfl, hfin.out, m4⟩
          simp [results, Tryd.results40, go_sem, q0, q1, q2]
        · obtain rfl := hE.out
          have hne := hT.out
          gi_wp2_with fail
          obtain ⟨m1, m2, m3, m4⟩ := endM (.int .i64 0) (.int .u32 0) (.int .i64 2)
          have q0 := m2.cell 0
          have q1 := m2.cell 1
          have q2 := m3.cell 0
          simp only [List.getElem?_toArray, List.getElem?_cons_zero, List.getElem?_cons_succ] at q0 q1 q2
          refine post_mark (v := .tuple #[.agg #[.int .i64 0, .int .u32 0], .int .i64 2]) rfl m1 ?_ ⟨⟨0, 0⟩, 2, rfl, hfin.out, m4⟩
          simp [results, Tryd.results40, go_sem, q0, q1, q2]
        · obtain rfl := hE.out
          gi_wp2_with fail
          obtain ⟨m1, m2, m3, m4⟩ := endM (.int .i64 0) (.int .u32 0) (.int .i64 2)
          have q0 := m2.cell 0
          have q1 := m2.cell 1
          have q2 := m3.cell 0
          simp only [List.getElem?_toArray, List.getElem?_cons_zero, List.getElem?_cons_succ] at q0 q1 q2
          refine post_mark (v := .tuple #[.agg #[.int .i64 0, .int .u32 0], .int .i64 2]) rfl m1 ?_ ⟨⟨0, 0⟩, 2, rfl, hfin.out, m4⟩
          simp [results, Tryd.results40, go_sem, q0, q1, q2]
      case stop =>
        rintro D pre W hD hp ⟨hn, bR, bE, hg⟩ hK
        have hfin := hbad.out (fold_cut hn.out hp)
        have r0 : W.cell? ⟨w.heap.size, 0, none⟩ = some (.int .i64 0) := bR.cell 0
        have r1 : W.cell? ⟨w.heap.size, 1, none⟩ = some (.int .u32 0) := bR.cell 1
        have e0 : W.cell? ⟨w.heap.size + 1, 0, none⟩ = some (.int .i64 2) := bE.cell 0
        have q0 : (W.putObj D (.deferred none)).cell? ⟨w.heap.size, 0, none⟩ = some (.int .i64 0) := (bR.put _ (by omega)).cell 0
        have q1 : (W.putObj D (.deferred none)).cell? ⟨w.heap.size, 1, none⟩ = some (.int .u32 0) := (bR.put _ (by omega)).cell 1
        have q2 : (W.putObj D (.deferred none)).cell? ⟨w.heap.size + 1, 0, none⟩ = some (.int .i64 2) := (bE.put _ (by omega)).cell 0
        replace hfin := Lib.hid hfin
        clear hbox hgood hbad cQ bS bP bV bA0 bR0 bE0 hgA hxl
        gi_wp2_with fail
        refine post_mark (v := .tuple #[.agg #[.int .i64 0, .int .u32 0], .int .i64 2]) rfl hK ?_ ⟨⟨0, 0⟩, 2, rfl, hfin.out, Below.turn (keep := fun r => r < w.heap.size) hg.below hg.size (fun _ h => h) (Turn.put _ _ (by omega))⟩
        simp [results, Tryd.results40, go_sem, q0, q1, q2]

end Go.Proofs.YtfppagcifcppaaaDoor
