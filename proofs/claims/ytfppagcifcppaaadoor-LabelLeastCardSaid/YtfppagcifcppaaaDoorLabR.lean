/- Labels: Read, the reference's. -/
import Derived.Test.YtfppagcifcppaaaDoorLabU
import Derived.Test.YtfppagcifcppaaaDoorLabD
import Derived.PlainAid
import Derived.Laws.Closers25b
namespace Go.Proofs.YtfppagcifcppaaaDoor
open Go.RowKit Go.PlainAid

def LReadPost (s : List UInt8) (w : World) (e : Ending) (w' : World) : Prop := ∃ (x : Lab) (err : Int), e = .returned (.tuple #[.agg #[.int .i64 x.lv, .int .u32 (x.c : Int)], .int .i64 err]) ∧ LabIs s x err ∧ Grows w w'
/-- The state when the signs up to place k (the first one left out) are read. -/
def foldR (s : List UInt8) (k : Nat) : Option (List Nat × Option Nat) := (s.tail.take k).foldlM stepR ([], none)
theorem foldR_snoc {s : List UInt8} {k : Nat} {c : UInt8} (h : s.tail[k]? = some c) : foldR s (k + 1) = (foldR s k).bind (fun st => stepR st c) := by
  unfold foldR
  rw [List.take_add_one, h, List.foldlM_append]
  cases hx : (s.tail.take k).foldlM stepR ([], none) <;> simp
theorem foldR_none {s : List UInt8} {k : Nat} (h : foldR s k = none) : scanR s = none := by
  have : s.tail = s.tail.take k ++ s.tail.drop k := (List.take_append_drop k s.tail).symm
  unfold scanR foldR at *
  rw [this, List.foldlM_append, h]; rfl
theorem foldR_all {s : List UInt8} {k : Nat} (hk : s.tail.length ≤ k) : scanR s = (foldR s k).bind flushR := by
  unfold scanR foldR
  rw [List.take_of_length_le hk]
def NIs (o : Option Nat) (N : Int) : Prop := (o = none ∧ N = -1) ∨ ∃ m : Nat, o = some m ∧ N = m ∧ m ≤ 31
theorem stepR_digit {l : List Nat} {o : Option Nat} {c : UInt8} {x : Int} (hx : x = c.toNat) (h : 48 ≤ x ∧ x ≤ 57) (hs : 10 * (o.getD 0 : Int) + (x - 48) ≤ 31) : stepR (l, o) c = some (l, some (10 * o.getD 0 + (x - 48).toNat)) := by
  unfold stepR
  rw [if_pos (by omega), if_neg (by simp only; omega)]
  simp only [Option.some.injEq, Prod.mk.injEq, true_and]
  omega
theorem stepR_big {l : List Nat} {o : Option Nat} {c : UInt8} {x : Int} (hx : x = c.toNat) (h : 48 ≤ x ∧ x ≤ 57) (hs : 31 < 10 * (o.getD 0 : Int) + (x - 48)) : stepR (l, o) c = none := by
  unfold stepR
  rw [if_pos (by omega), if_pos (by simp only; omega)]
theorem stepR_else {st : List Nat × Option Nat} {c : UInt8} {x : Int} (hx : x = c.toNat) (h : x < 48 ∨ 57 < x) : stepR st c = (flushR st).map fun l => (l, none) := by
  unfold stepR
  rw [if_neg (by omega)]
set_option maxRecDepth 100000 in
set_option maxHeartbeats 6400000 in
theorem lRefRead_any (S : ByteArray) (hs : S.size ≤ 1000) (w : World) :
    Calls Tryd.prog 41 #[.string S] w (LReadPost S.data.toList w) := by
  have hsz : S.data.toList.length = S.size := Array.length_toList
  have hb := get_bt S
  by_cases h0 : S.size = 0
  · have hS : S = ⟨#[]⟩ := by
      apply ByteArray.ext
      exact Array.eq_empty_of_size_eq_zero h0
    have hfin : LabIs S.data.toList ⟨0, 0⟩ 2 := scanR_bad (.inr (.inl (by rw [hS])))
    subst hS
    replace hfin := Lib.hid hfin
    clear hb hsz h0 hs
    go_enter Tryd.func41, Tryd.ntmps41
    go_wp2_with fail
    refine bodyPost_ret (v := .tuple #[.agg #[.int .i64 0, .int .u32 0], .int .i64 2]) ?_ rfl ⟨⟨0, 0⟩, 2, rfl, hfin.out, ?_⟩
    · simp [results, Tryd.results41, go_sem]
    · repeat (first | assumption | exact Grows.refl _ | apply Grows.drew | apply Grows.drewN | refine Grows.alloc ?_ _ | (refine Grows.setCell ?_ (by first | (simp; done) | (simp; omega) | omega) _) | (refine Grows.trans ?_ (by assumption)))
  · have hne1 : ¬ S.toList = [] := fun h => h0 (by rw [(toList_nil_iff_emptyBytes S).1 h]; rfl)
    have hne2 : S.toList.isEmpty = false := by rw [← Bool.not_eq_true, List.isEmpty_iff]; exact hne1
    have hbn := bt_nonneg S 0
    have hbl := bt_le S 0
    obtain ⟨b, r, hsl⟩ : ∃ b r, S.data.toList = b :: r := List.exists_cons_of_length_pos (by omega)
    have hb0 : bt S 0 = b.toNat := by
      rw [← hb 0 (by omega)]
      have : S[0]'(by omega) = b := by
        have h1 : S.data.toList[0]? = some b := by rw [hsl]; rfl
        have h2 := (List.getElem?_eq_some_iff.1 h1).2
        exact h2
      rw [this]
    have hx : ∀ k, 1 ≤ k → k < S.size → ∃ c : UInt8, S.data.toList.tail[k - 1]? = some c ∧ bt S k = c.toNat := fun k hk1 hk => ⟨S[k], by
      have h1 : S.data.toList[k]? = some S[k] := by rw [List.getElem?_eq_getElem (by omega)]; rfl
      rw [List.getElem?_tail, show k - 1 + 1 = k by omega]; exact h1, (hb k hk).symm⟩
    have htl : S.data.toList.tail.length = S.size - 1 := by rw [List.length_tail, hsz]
    by_cases hlv : 48 ≤ bt S 0 ∧ bt S 0 ≤ 55
    · obtain ⟨hlv1, hlv2⟩ := hlv
      replace hx := Lib.hid hx
      replace htl := Lib.hid htl
      replace hsl := Lib.hid hsl
      replace hb0 := Lib.hid hb0
      replace hsz := Lib.hid hsz
      go_enter Tryd.func41, Tryd.ntmps41
      go_wp2_with fail
      go_loopw [4, 5, 6] (fun vl vn vi wr => ∃ (k : Nat) (l : List Nat) (N : Int), vi = .int .i64 k ∧ 1 ≤ k ∧ k ≤ S.size + 1 ∧ vn = .int .i64 N ∧ Own wr (w.heap.size + 1) 3 1 encI vl l ∧ l.Nodup ∧ (∀ x ∈ l, x < 32) ∧ l.length ≤ k ∧
        ((k ≤ S.size → ∃ o, foldR S.data.toList (k - 1) = some (l, o) ∧ NIs o N) ∧ (k = S.size + 1 → scanR S.data.toList = some l)) ∧ Below (w.heap.size + 1) (w.alloc (.cells #[.int .i64 0, .int .u32 0] 62)) wr) (fun _ _ vi _ => S.size + 1 - (intOf vi).toNat)
      case atStart => exact ⟨1, [], -1, rfl, by omega, by omega, rfl, Own.nil_ _ _ _ _ _, by simp, by simp, by simp, ⟨fun _ => ⟨none, rfl, .inl ⟨rfl, rfl⟩⟩, fun h => by omega⟩, Below.refl _ _⟩
      case round =>
        obtain ⟨k, l, N, rfl, hk1, hk2, rfl, hown, hl1, hl2, hl3, ⟨hst, hend⟩, hg⟩ := hrel
        have hl : l.Nodup ∧ (∀ x ∈ l, x < 32) ∧ l.length ≤ k := ⟨hl1, hl2, hl3⟩
        clear hl1 hl2 hl3
        have bR : Blk wr w.heap.size 62 #[.int .i64 0, .int .u32 0] := (Blk.new w _ _).below hg (by omega)
        have e0 : wr.cell? ⟨w.heap.size, 0, none⟩ = some (.int .i64 0) := bR.cell 0
        have e1' : wr.cell? ⟨w.heap.size, 1, none⟩ = some (.int .u32 0) := bR.cell 1
        have f0 := bR.frozen 0
        have f1 := bR.frozen 1
        have hg0 : Grows w wr := ((Grows.refl w).alloc _).below.trans (hg.mono (by omega))
        by_cases hk : k ≤ S.size
        · obtain ⟨o, hF, hN⟩ := hst hk
          clear hst hend
          have hbk := hb k
          by_cases hdig : k < S.size ∧ 48 ≤ bt S k ∧ bt S k ≤ 57
          · obtain ⟨hkS, hd1, hd2⟩ := hdig
            obtain ⟨c, hc1, hc2⟩ := hx.out k hk1 hkS
            have hsn := foldR_snoc hc1
            rw [hF, Option.bind_some, show k - 1 + 1 = k by omega] at hsn
            replace hbk := hbk hkS
            have hbl' := bt_le S k
            cases o with
            | none =>
              obtain rfl : N = -1 := by rcases hN with ⟨_, h⟩ | ⟨m, h, _⟩ <;> simp_all
              have hst2 := stepR_digit (l := l) (o := none) hc2 ⟨hd1, hd2⟩ (by simp; omega)
              rw [hst2] at hsn
              have hstep : (k + 1 ≤ S.size → ∃ o, foldR S.data.toList k = some (l, o) ∧ NIs o (bt S k - 48)) ∧ (k + 1 = S.size + 1 → scanR S.data.toList = some l) :=
                ⟨fun _ => ⟨_, hsn, .inr ⟨_, rfl, by simp; omega, by simp; omega⟩⟩, fun h => by omega⟩
              generalize bt S k = x at *
              replace hstep := Lib.hid hstep
              replace hl := Lib.hid hl
              clear hN hF hsn hst2 hc1 hc2 hb
              go_wp2_with fail
              go_roundw
              case rel => exact ⟨k + 1, l, x - 48, by go_num, by omega, by omega, congrArg (Value.int .i64) (by omega), hown, hl.out.1, hl.out.2.1, by have := hl.out.2.2; omega, hstep.out, hg⟩
              case measure => simp [intOf]; omega
            | some m =>
              obtain ⟨rfl, hm31⟩ : N = (m : Int) ∧ m ≤ 31 := by
                rcases hN with ⟨h, _⟩ | ⟨m', h, h2, h3⟩
                · cases h
                · injection h with h; subst h; exact ⟨h2, h3⟩
              by_cases hbig : 31 < 10 * (m : Int) + (bt S k - 48)
              · have hst2 := stepR_big (l := l) (o := some m) hc2 ⟨hd1, hd2⟩ (by simpa using hbig)
                rw [hst2] at hsn
                have hfin : LabIs S.data.toList ⟨0, 0⟩ 2 := scanR_bad (.inl (foldR_none hsn))
                have hmx : max (m : Int) 0 = m := by omega
                generalize bt S k = x at *
                replace hfin := Lib.hid hfin
                clear hN hF hsn hst2 hc1 hc2 hb hl
                go_wp2_with fail
                refine bodyPost_ret (v := .tuple #[.agg #[.int .i64 0, .int .u32 0], .int .i64 2]) ?_ rfl ⟨⟨0, 0⟩, 2, rfl, hfin.out, ?_⟩
                · simp [results, Tryd.results41, go_sem, e0, e1']
                · exact Grows.setCell (Grows.setCell hg0 (by first | (simp; done) | (simp; omega) | omega) _) (by first | (simp; done) | (simp; omega) | omega) _
              · have hst2 := stepR_digit (l := l) (o := some m) hc2 ⟨hd1, hd2⟩ (by simp; omega)
                rw [hst2] at hsn
                have hstep : (k + 1 ≤ S.size → ∃ o, foldR S.data.toList k = some (l, o) ∧ NIs o (10 * (m : Int) + (bt S k - 48))) ∧ (k + 1 = S.size + 1 → scanR S.data.toList = some l) :=
                  ⟨fun _ => ⟨_, hsn, .inr ⟨_, rfl, by simp; omega, by simp; omega⟩⟩, fun h => by omega⟩
                have hmx : max (m : Int) 0 = m := by omega
                generalize bt S k = x at *
                replace hstep := Lib.hid hstep
                replace hl := Lib.hid hl
                clear hN hF hsn hst2 hc1 hc2 hb
                go_wp2_with fail
                go_roundw
                case rel => exact ⟨k + 1, l, 10 * (m : Int) + (x - 48), by go_num, by omega, by omega, congrArg (Value.int .i64) (by omega), hown, hl.out.1, hl.out.2.1, by have := hl.out.2.2; omega, hstep.out, hg⟩
                case measure => simp [intOf]; omega
          · have hfl : (k < S.size ∧ bt S k < 48) ∨ (k < S.size ∧ 57 < bt S k) ∨ S.size ≤ k := by omega
            have hNext : ∀ l', flushR (l, o) = some l' → (k + 1 ≤ S.size → foldR S.data.toList k = some (l', none)) ∧ (k + 1 = S.size + 1 → scanR S.data.toList = some l') := fun l' hl' => ⟨fun h => by
              obtain ⟨c, hc1, hc2⟩ := hx.out k hk1 (by omega)
              have hsn := foldR_snoc hc1
              rw [hF, Option.bind_some, show k - 1 + 1 = k by omega, stepR_else hc2 (by omega), hl'] at hsn
              exact hsn, fun h => by
              rw [foldR_all (k := k - 1) (by rw [htl.out]; omega), hF, Option.bind_some, hl']⟩
            have hBad : flushR (l, o) = none → LabIs S.data.toList ⟨0, 0⟩ 2 := fun hl' => by
              refine scanR_bad (.inl ?_)
              rcases Nat.lt_or_ge k S.size with h | h
              · obtain ⟨c, hc1, hc2⟩ := hx.out k hk1 h
                have hsn := foldR_snoc hc1
                rw [hF, Option.bind_some, show k - 1 + 1 = k by omega, stepR_else hc2 (by omega), hl'] at hsn
                exact foldR_none hsn
              · rw [foldR_all (k := k - 1) (by rw [htl.out]; omega), hF, Option.bind_some, hl']
            clear hdig hbk
            rcases hfl with ⟨h1, h2⟩ | ⟨h1, h2⟩ | h1
            all_goals
                cases o with
                | none =>
                  obtain rfl : N = -1 := by rcases hN with ⟨_, h⟩ | ⟨m, h, _⟩ <;> simp_all
                  obtain ⟨n1, n2⟩ := hNext l rfl
                  have hstep : (k + 1 ≤ S.size → ∃ o, foldR S.data.toList k = some (l, o) ∧ NIs o (-1)) ∧ (k + 1 = S.size + 1 → scanR S.data.toList = some l) := ⟨fun h => ⟨none, n1 h, .inl ⟨rfl, rfl⟩⟩, n2⟩
                  replace hstep := Lib.hid hstep
                  replace hl := Lib.hid hl
                  clear hNext hBad hN n1 n2 hF
                  go_wp2_with fail
                  go_roundw
                  case rel => exact ⟨k + 1, l, -1, by go_num, by omega, by omega, rfl, hown, hl.out.1, hl.out.2.1, by have := hl.out.2.2; omega, hstep.out, hg⟩
                  case measure => simp [intOf]; omega
                | some m =>
                  obtain ⟨rfl, hm31⟩ : N = (m : Int) ∧ m ≤ 31 := by
                    rcases hN with ⟨h, _⟩ | ⟨m', h, h2, h3⟩
                    · cases h
                    · injection h with h; subst h; exact ⟨h2, h3⟩
                  have hz := hg.size
                  simp only [World.size_alloc] at hz
                  obtain ⟨A, c, e1, hc, hcm, hArr⟩ := hown.arr hkI
                  have hlm : l.length ≤ 1001 := by have := hl.2.2; omega
                  have cH := has_any A l.length c l m wr hArr (by unfold maxLen; omega) 69 rfl
                  by_cases hml : m ∈ l
                  · have hfin := hBad (by simp [flushR, hml])
                    rw [decide_eq_true hml] at cH
                    subst e1
                    generalize l.length = L at *
                    replace hfin := Lib.hid hfin
                    replace cH := Lib.hid cH
                    clear hNext hBad hN hF hArr hown hl hml hm31
                    go_wp2_with fail
                    refine cH.out.mono ?_
                    rintro e w2 ⟨rfl, rfl⟩
                    go_wp2_with fail
                    refine bodyPost_ret (v := .tuple #[.agg #[.int .i64 0, .int .u32 0], .int .i64 2]) ?_ rfl ⟨⟨0, 0⟩, 2, rfl, hfin.out, ?_⟩
                    · simp [results, Tryd.results41, go_sem, e0, e1']
                    · exact Grows.setCell (Grows.setCell hg0 (by first | (simp; done) | (simp; omega) | omega) _) (by first | (simp; done) | (simp; omega) | omega) _
                  · have hlt : m < 32 := by omega
                    obtain ⟨n1, n2⟩ := hNext (l ++ [m]) (by simp [flushR, hml])
                    have hstep : (k + 1 ≤ S.size → ∃ o, foldR S.data.toList k = some (l ++ [m], o) ∧ NIs o (-1)) ∧ (k + 1 = S.size + 1 → scanR S.data.toList = some (l ++ [m])) := ⟨fun h => ⟨none, n1 h, .inl ⟨rfl, rfl⟩⟩, n2⟩
                    have hl2 : (l ++ [m]).Nodup ∧ (∀ x ∈ l ++ [m], x < 32) ∧ (l ++ [m]).length ≤ k + 1 := by
                      refine ⟨?_, ?_, by simp; have := hl.2.2; omega⟩
                      · rw [List.nodup_append]
                        exact ⟨hl.1, by simp, fun a ha b hb => by rintro rfl; simp at hb; subst hb; exact hml ha⟩
                      · intro x hx
                        rcases List.mem_append.1 hx with h | h
                        · exact hl.2.1 x h
                        · simp at h; omega
                    rw [decide_eq_false hml] at cH
                    subst e1
                    generalize hLL : l.length = L at *
                    replace hLL := Lib.hid hLL
                    replace hstep := Lib.hid hstep
                    replace hl2 := Lib.hid hl2
                    replace cH := Lib.hid cH
                    clear hNext hBad hN hF hArr hl hml n1 n2
                    go_wp2_with fail
                    refine cH.out.mono ?_
                    rintro e w2 ⟨rfl, rfl⟩
                    go_wp2_with (at_builtin; refine wpList_grown (x := m) T_ii rfl (.tmp 63) (.tmp 65) rfl (hown.alloc _) rfl ⟨w2.heap.size, 0, none⟩ rfl rfl (news_of (by exact heap_alloc_new w2 _)) (oneI m) (by simp; omega) (by rw [hLL.out]; unfold maxLen; omega) (by rw [hLL.out]; omega) (fun v8 w8 hown8 hgr hat => ?_))
                    have hb8 : Below (w.heap.size + 1) w2 w8 := Own.below (hown.alloc _) (Below.alloc (Below.refl _ _) (by omega) _) (Nat.le_refl _) (by simp; omega) hgr
                    clear hgr hat
                    go_wp2_with fail
                    go_roundw
                    case rel => exact ⟨k + 1, l ++ [m], -1, by go_num, by omega, by omega, rfl, hown8, hl2.out.1, hl2.out.2.1, hl2.out.2.2, hstep.out, hg.trans hb8⟩
                    case measure => simp [intOf]; omega
        · have hke : k = S.size + 1 := by omega
          have hscan := hend hke
          obtain ⟨hs1, hs2⟩ := sumT_bits hl.1 hl.2.1
          have hG := scanR_is hsl.out (by have := hb0.out; omega) hscan hs1
          rw [show ((b.toNat : Int) - 48) = bt S 0 - 48 by rw [hb0.out]] at hG
          obtain ⟨A, c, e1, hc, hcm, hArr⟩ := hown.arr hkI
          have hlm : l.length ≤ 1001 := by have := hl.2.2; omega
          have cOf := of_any (bt S 0 - 48) A l.length c l wr hArr (by unfold maxLen; omega) hl.1 hl.2.1
          have cT := fun W => lRefText_any ⟨bt S 0 - 48, sumT l⟩ W hs1
          have hr : labRight (bt S 0 - 48) = true := labRight_iff.2 (by omega)
          have hTV : labTextV ⟨bt S 0 - 48, sumT l⟩ = labText ⟨bt S 0 - 48, sumT l⟩ := by unfold labTextV; rw [if_pos hr]
          have hEr : labErr ⟨bt S 0 - 48, sumT l⟩ = 0 := by unfold labErr; rw [if_pos hr]
          unfold LTextPost at cT
          rw [hTV, hEr] at cT
          simp only at cT
          subst e1
          have hz := hg.size
          simp only [World.size_alloc] at hz
          generalize l.length = L at *
          generalize (sumT l) = C at *
          have hBb := hb 0
          generalize bt S 0 = B at *
          clear hend hscan hown hArr hl hr hTV hEr hx htl hsl hb0 hsz hs1 hs2 hb
          replace hG := Lib.hid hG
          replace cOf := Lib.hid cOf
          replace cT := Lib.hid cT
          go_wp2_with fail
          refine cOf.out.mono ?_
          rintro e w2 ⟨rfl, hb2⟩
          have bR2 := bR.grows hb2
          replace hg0 := hg0.trans hb2
          clear bR f0 f1 e0 e1' cOf hb2
          go_wp2_with fail
          refine (cT.out _).mono ?_
          rintro e w3 ⟨rfl, hb3⟩
          have bR3 := (bR2.alloc (.cells #[.int .i64 (B - 48), .int .u32 (C : Int)] 62)).grows hb3
          have bX : Blk w3 w2.heap.size 62 #[.int .i64 (B - 48), .int .u32 (C : Int)] := (Blk.new w2 _ _).grows hb3
          have hg3 : Grows w w3 := (hg0.alloc _).trans hb3
          have e0 : w3.cell? ⟨w.heap.size, 0, none⟩ = some (.int .i64 0) := bR3.cell 0
          have e1' : w3.cell? ⟨w.heap.size, 1, none⟩ = some (.int .u32 0) := bR3.cell 1
          have f0 := bR3.frozen 0
          have f1 := bR3.frozen 1
          have x0 : w3.cell? ⟨w2.heap.size, 0, none⟩ = some (.int .i64 (B - 48)) := bX.cell 0
          have x1 : w3.cell? ⟨w2.heap.size, 1, none⟩ = some (.int .u32 (C : Int)) := bX.cell 1
          clear cT bR2 hb3 hg0
          obtain ⟨s, rfl⟩ : ∃ s : List UInt8, S = ⟨s.toArray⟩ := ⟨S.data.toList, by simp⟩
          replace hG := hG.out
          simp only at hG
          by_cases ht : labText ⟨B - 48, C⟩ = s
          · have hfin := hG.1 ht
            rw [ht]
            replace hfin := Lib.hid hfin
            clear hG ht hBb
            go_wp2_with fail
            refine bodyPost_ret (v := .tuple #[.agg #[.int .i64 (B - 48), .int .u32 (C : Int)], .int .i64 0]) ?_ rfl ⟨⟨B - 48, C⟩, 0, rfl, hfin.out, ?_⟩
            · simp [results, Tryd.results41, go_sem, e0, e1']
            · exact Grows.setCell (Grows.setCell hg3 (by simp) _) (by simp) _
          · have hfin := hG.2 ht
            have hne : (!labText ⟨B - 48, C⟩ == s) = true := by simpa using ht
            generalize labText ⟨B - 48, C⟩ = T at *
            replace hfin := Lib.hid hfin
            clear hG ht hBb
            go_wp2_with fail
            refine bodyPost_ret (v := .tuple #[.agg #[.int .i64 0, .int .u32 0], .int .i64 2]) ?_ rfl ⟨⟨0, 0⟩, 2, rfl, hfin.out, ?_⟩
            · simp [results, Tryd.results41, go_sem, e0, e1']
            · exact Grows.setCell (Grows.setCell hg3 (by first | (simp; done) | (simp; omega) | omega) _) (by first | (simp; done) | (simp; omega) | omega) _
    · have hfin : LabIs S.data.toList ⟨0, 0⟩ 2 := scanR_bad (.inr (.inr ⟨b, r, hsl, by omega⟩))
      have hor : bt S 0 < 48 ∨ 55 < bt S 0 := by omega
      replace hfin := Lib.hid hfin
      clear hx htl hsl hb0 hsz hlv
      rcases hor with h1 | h1
      all_goals
        go_enter Tryd.func41, Tryd.ntmps41
        go_wp2_with fail
        refine bodyPost_ret (v := .tuple #[.agg #[.int .i64 0, .int .u32 0], .int .i64 2]) ?_ rfl ⟨⟨0, 0⟩, 2, rfl, hfin.out, ?_⟩
        · simp [results, Tryd.results41, go_sem]
        · repeat (first | assumption | exact Grows.refl _ | apply Grows.drew | apply Grows.drewN | refine Grows.alloc ?_ _ | (refine Grows.setCell ?_ (by first | (simp; done) | (simp; omega) | omega) _) | (refine Grows.trans ?_ (by assumption)))
end Go.Proofs.YtfppagcifcppaaaDoor
