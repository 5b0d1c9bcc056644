/- Parts: PatI PatJ -/
import Derived.Test.YtfoffneipdkdjaaGreatDoorBs15
namespace Go.Proofs.YtfoffneipdkdjaaGreatDoor
open Go.RowKit

def TC : List TypeId := [211, 242]
theorem BAt.setOff {w w' : World} {base gB gs : Nat} {s : List UInt8} {b : PB} {xs : List StX} {sv : Value} {ws : List Nat} (h : BAt w base gB s b xs sv) (hS : SetAt w gs ws) (hf : ∀ x ∈ xs, x.pv ≠ .pointer (some ⟨gs, 0, none⟩)) (hg : w.grownBy w' (some gs)) : BAt w' base gB s b xs sv := by
  refine ⟨(hg.block gB h.blk.lt (fun e => ?_)).trans h.blk, h.le, own_off h.own hS.1 (by decide) hg, h.len, ?_, h.apart⟩
  · injection e with e
    subst e
    have h1 := h.blk
    have h2 := hS.1
    unfold Blk at h1 h2
    rw [h2] at h1
    simp only [Option.some.injEq, Obj.cells.injEq] at h1
    exact absurd h1.2.1 (by decide)
  · intro i x y h1 h2
    obtain ⟨a1, a2, a3⟩ := h.st i x y h1 h2
    refine ⟨a1, ?_, own_off a3 hS.1 (by decide) hg⟩
    generalize ho : y.set = o at *
    cases o with
    | none => exact a2
    | some us =>
      obtain ⟨g, e1, e2, e3⟩ := a2
      refine ⟨g, e1, e2, (hg.block g e3.1.lt (fun e => ?_)).trans e3.1, e3.2⟩
      injection e with e
      subst e
      exact hf x (List.mem_of_getElem? h1) e1
theorem SetAt.tk {T : List TypeId} {base : Nat} {w w' : World} {g : Nat} {ws : List Nat} (h : SetAt w g ws) (hk : TKeep T base w w') (ht : 242 ∉ T) : SetAt w' g ws := ⟨hk.blk h.1 ht, h.2⟩
theorem TKeep.set {w w' : World} {base g : Nat} {ws : List Nat} (h : SetAt w g ws) (hb : base ≤ g) (hg : w.grownBy w' (some g)) : TKeep TC base w w' :=
  TKeep.row hg (by have := h.1.lt; omega) (fun m hm => by injection hm with hm; subst hm; exact ⟨hb, _, _, by simp [TC], h.1⟩)
set_option maxRecDepth 100000 in
set_option maxHeartbeats 1600000 in
theorem class_l {base gB gs f0 : Nat} {s : List UInt8} {b : PB} {ws : List Nat} {xs : List StX} {sv : Value} {R : PB × List Nat} {ds : List Deferred} {w0 w : World} {Q0 : Exit → Act → World → Prop} {x2 x3 x4 x5 x7 x8 x9 x10 x11 x12 x13 x14 x15 x16 x17 x18 x19 x20 x21 x22 x23 x24 x25 x26 x27 x28 x29 x30 x31 x32 x33 x34 x35 x36 x37 x38 x39 x40 x41 x42 x43 x44 x45 x46 x47 x48 x49 x50 x51 x52 x53 x54 x55 x56 x57 x58 x59 x60 x61 x62 x63 x64 x65 x66 x67 x68 x69 x70 x71 x72 x73 x74 x75 x76 x77 x78 x79 x80 x81 x82 x83 x84 x85 x86 x87 x88 x89 x90 x91 x92 x93 x94 x95 x96 x97 x98 x99 x100 x101 x102 x103 x104 x105 x106 x107 x108 x109 x110 x111 : Value}
    (h0 : Hid (BAt w base gB s b xs sv)) (hset0 : Hid (SetAt w gs ws)) (hgs : Hid (base ≤ gs)) (hfr : Hid (∀ x ∈ xs, x.pv ≠ .pointer (some ⟨gs, 0, none⟩))) (hb0 : Hid (base ≤ w0.heap.size)) (hG0 : Hid (TKeep TC base w0 w)) (hf0 : Hid (s.length ≤ f0 + b.at_)) (hR : Hid (classL s f0 true b ws = R)) (hW0 : Hid (WP s 2 b)) (hsl : s.length ≤ 100)
    (hQ0 : ∀ c a d v w, Q0 (.panic c) (Act.put a d v) w → Q0 (.panic c) a w)
    (hexit : ∀ (u6 u7 u8 u9 u10 u11 u12 u28 u29 u30 u31 u32 u33 u34 u35 u36 u37 u38 u39 u40 u41 u42 u43 u44 u45 u46 u47 u48 u49 u50 u51 u52 u53 u54 u55 u56 u57 u58 u59 u60 u61 u62 u63 u64 u65 u66 u67 u68 u69 u70 u71 u72 u73 u74 u75 u76 u77 u78 u79 u80 u81 u82 u83 u84 u85 u86 u87 u88 u89 u90 u91 u92 u93 u94 u95 u96 u97 u98 u99 u100 u101 u102 u103 u104 u105 u106 u107 u108 u109 u110 u111 : Value) (wr : World), Hid (BAt wr base gB s R.1 xs sv) ∧ Hid (SetAt wr gs R.2) ∧ Hid (TKeep TC base w0 wr) → Q0 .ret ⟨((.pointer (some ⟨gB, 0, none⟩)) :: (.pointer (some ⟨gs, 0, none⟩)) :: x2 :: x3 :: x4 :: x5 :: u6 :: u7 :: u8 :: u9 :: u10 :: u11 :: u12 :: x13 :: x14 :: x15 :: x16 :: x17 :: x18 :: x19 :: x20 :: x21 :: x22 :: x23 :: x24 :: x25 :: x26 :: x27 :: u28 :: u29 :: u30 :: u31 :: u32 :: u33 :: u34 :: u35 :: u36 :: u37 :: u38 :: u39 :: u40 :: u41 :: u42 :: u43 :: u44 :: u45 :: u46 :: u47 :: u48 :: u49 :: u50 :: u51 :: u52 :: u53 :: u54 :: u55 :: u56 :: u57 :: u58 :: u59 :: u60 :: u61 :: u62 :: u63 :: u64 :: u65 :: u66 :: u67 :: u68 :: u69 :: u70 :: u71 :: u72 :: u73 :: u74 :: u75 :: u76 :: u77 :: u78 :: u79 :: u80 :: u81 :: u82 :: u83 :: u84 :: u85 :: u86 :: u87 :: u88 :: u89 :: u90 :: u91 :: u92 :: u93 :: u94 :: u95 :: u96 :: u97 :: u98 :: u99 :: u100 :: u101 :: u102 :: u103 :: u104 :: u105 :: u106 :: u107 :: u108 :: u109 :: u110 :: u111 :: []).toArray, ds⟩ wr) :
    Code.wp Tryz.prog (loopAt Tryz.f188 0) Q0 ⟨((.pointer (some ⟨gB, 0, none⟩)) :: (.pointer (some ⟨gs, 0, none⟩)) :: x2 :: x3 :: x4 :: x5 :: (.bool true) :: x7 :: x8 :: x9 :: x10 :: x11 :: x12 :: x13 :: x14 :: x15 :: x16 :: x17 :: x18 :: x19 :: x20 :: x21 :: x22 :: x23 :: x24 :: x25 :: x26 :: x27 :: x28 :: x29 :: x30 :: x31 :: x32 :: x33 :: x34 :: x35 :: x36 :: x37 :: x38 :: x39 :: x40 :: x41 :: x42 :: x43 :: x44 :: x45 :: x46 :: x47 :: x48 :: x49 :: x50 :: x51 :: x52 :: x53 :: x54 :: x55 :: x56 :: x57 :: x58 :: x59 :: x60 :: x61 :: x62 :: x63 :: x64 :: x65 :: x66 :: x67 :: x68 :: x69 :: x70 :: x71 :: x72 :: x73 :: x74 :: x75 :: x76 :: x77 :: x78 :: x79 :: x80 :: x81 :: x82 :: x83 :: x84 :: x85 :: x86 :: x87 :: x88 :: x89 :: x90 :: x91 :: x92 :: x93 :: x94 :: x95 :: x96 :: x97 :: x98 :: x99 :: x100 :: x101 :: x102 :: x103 :: x104 :: x105 :: x106 :: x107 :: x108 :: x109 :: x110 :: x111 :: []).toArray, ds⟩ w := by
  conv => arg 2; whnf
  have hTC : Hid (∀ t ∈ [211], t ∈ TC) := Lib.hid (by intro t ht; simp [TC] at *; exact .inl ht)
  go_loopw [6] (fun i wr => ∃ (f : Nat) (first : Bool) (bq : PB) (wq : List Nat), i = .bool first ∧ Hid (s.length ≤ f + bq.at_) ∧ Hid (classL s f first bq wq = R) ∧ Hid (WP s 2 bq) ∧ Hid (BAt wr base gB s bq xs sv) ∧ Hid (SetAt wr gs wq) ∧ Hid (TKeep TC base w0 wr)) (fun _ wr => s.length + 5 - (match wr.cell? ⟨gB, 1, none⟩ with | some v => (intOf v).toNat | none => 0))
  case atStart => exact ⟨f0, true, b, ws, rfl, hf0, hR, hW0, h0, hset0, hG0⟩
  case round =>
    obtain ⟨f, first, bq, wq, rfl, hf, hR2, hW, h, hset, hG⟩ := hrel
    clear hR h0 hset0 hG0 hf0 hW0
    have hb := Lib.hid (Nat.le_trans hb0.out hG.out.size)
    have hstep := classL_step (first := first) (ws := wq) hf.out
    rw [hR2.out] at hstep
    have hm0 : Hid (∀ (w' : World) (b' : PB), BAt w' base gB s b' xs sv → (match w'.cell? ⟨gB, 1, none⟩ with | some v => (intOf v).toNat | none => 0) = b'.at_) := Lib.hid (fun w' b' hh => by
      have e : w'.cell? ⟨gB, 1, none⟩ = some (.int .i64 (b'.at_ : Int)) := (hh.blk.cell 1).trans rfl
      rw [e]; simp [intOf])
    have hmes := Lib.hid (hm0.out _ _ h.out)
    go_wp2_with fail
    refine (peek_any h.out).mono ?_
    rintro e w1 ⟨rfl, hgw1⟩
    replace h := Lib.hid (h.out.grows hgw1)
    replace hG := Lib.hid (hG.out.trans (TKeep.grows hgw1 hb.out))
    replace hb := Lib.hid (Nat.le_trans hb.out hgw1.size)
    (try replace hset := Lib.hid (hset.out.grows hgw1))
    (try replace hX := Lib.hid (hX.out.grows hgw1))
    (try replace hP := Lib.hid (hP.out.grows hgw1))
    (try replace hR := Lib.hid (hR.out.grows hgw1))
    clear hgw1
    cases hp : pkP s bq with
    | none =>
      simp only [pkV, hp]
      rw [hp] at hstep
      replace hstep := Lib.hid hstep
      clear hp
      go_wp2_with fail
      refine (fail_any2 h.out).mono ?_
      rintro e w2 ⟨rfl, hBw2, hgw2⟩
      (try replace hset := Lib.hid (hset.out.tk (TKeep.own h.out hgw2) (by decide)))
      (try replace hX := Lib.hid ((TKeep.own h.out hgw2).blk hX.out (by decide)))
      (try replace hP := Lib.hid ((TKeep.own h.out hgw2).blk hP.out (by decide)))
      (try replace hR := Lib.hid ((TKeep.own h.out hgw2).blk hR.out (by decide)))
      replace hG := Lib.hid (hG.out.trans ((TKeep.own h.out hgw2).mono hTC.out))
      replace h := Lib.hid hBw2
      replace hb := Lib.hid (Nat.le_trans hb0.out hG.out.size)
      clear hBw2 hgw2
      go_wp2
      rw [hstep.out]
      exact ⟨h, hset, hG⟩
    | some d =>
      simp only [pkV, hp]
      rw [hp] at hstep
      have hlen := Lib.hid (pk_some hp).2.1
      clear hp
      by_cases hd : d = 93
      · subst hd
        cases first with
        | true =>
          simp only [and_self, if_true] at hstep
          replace hstep := Lib.hid hstep
          go_wp2_with fail
          refine (fail_any2 h.out).mono ?_
          rintro e w2 ⟨rfl, hBw2, hgw2⟩
          (try replace hset := Lib.hid (hset.out.tk (TKeep.own h.out hgw2) (by decide)))
          (try replace hX := Lib.hid ((TKeep.own h.out hgw2).blk hX.out (by decide)))
          (try replace hP := Lib.hid ((TKeep.own h.out hgw2).blk hP.out (by decide)))
          (try replace hR := Lib.hid ((TKeep.own h.out hgw2).blk hR.out (by decide)))
          replace hG := Lib.hid (hG.out.trans ((TKeep.own h.out hgw2).mono hTC.out))
          replace h := Lib.hid hBw2
          replace hb := Lib.hid (Nat.le_trans hb0.out hG.out.size)
          clear hBw2 hgw2
          go_wp2
          rw [hstep.out]
          exact ⟨h, hset, hG⟩
        | false =>
          simp only [Bool.false_eq_true, and_false, if_false, if_true] at hstep
          replace hstep := Lib.hid hstep
          have ha : bq.at_ < 100 := by have := hlen.out; omega
          have c1 : w1.cell? ⟨gB, 1, none⟩ = some (.int .i64 ((bq).at_ : Int)) := (h.out.blk.cell 1).trans rfl
          have f1 := h.out.blk.frozen 1
          have l1 := h.out.blk.lt
          have i1 : -9223372036854775808 ≤ ((bq).at_ : Int) + 1 ∧ ((bq).at_ : Int) + 1 ≤ 9223372036854775807 := by first | omega | (simp only [advP]; omega)
          have hA := Lib.hid h.out.adv
          have hGA := Lib.hid (hG.out.trans ((TKeep.own h.out (grownBy_cell w1 ⟨gB, 1, none⟩ (.int .i64 (((bq).at_ : Int) + 1)))).mono hTC.out))
          have hsz : Hid ((w1.setCell ⟨gB, 1, none⟩ (.int .i64 (((bq).at_ : Int) + 1))).heap.size = w1.heap.size) := Lib.hid (by simp)
          go_wp2_with fail
          (try replace hset := Lib.hid (hset.out.tk (TKeep.own h.out (grownBy_cell w1 ⟨gB, 1, none⟩ (.int .i64 (((bq).at_ : Int) + 1)))) (by decide)))
          (try replace hX := Lib.hid ((TKeep.own h.out (grownBy_cell w1 ⟨gB, 1, none⟩ (.int .i64 (((bq).at_ : Int) + 1)))).blk hX.out (by decide)))
          (try replace hP := Lib.hid ((TKeep.own h.out (grownBy_cell w1 ⟨gB, 1, none⟩ (.int .i64 (((bq).at_ : Int) + 1)))).blk hP.out (by decide)))
          (try replace hR := Lib.hid ((TKeep.own h.out (grownBy_cell w1 ⟨gB, 1, none⟩ (.int .i64 (((bq).at_ : Int) + 1)))).blk hR.out (by decide)))
          clear c1 f1 l1 i1 h hG
          generalize w1.setCell ⟨gB, 1, none⟩ (.int .i64 (((bq).at_ : Int) + 1)) = w2 at *
          have h := hA
          have hG := hGA
          clear hA hGA
          replace hb := Lib.hid (Nat.le_trans hb0.out hG.out.size)
          rw [hstep.out]
          exact ⟨h, hset, hG⟩
      · have hdi : ¬ (d.toNat : Int) = 93 := fun e => hd (UInt8.toNat_inj.1 (by show d.toNat = 93; omega))
        simp only [hd, false_and, if_false] at hstep
        clear hd
        have hlen2 := hlen
        have hrok := signP_ok hlen.out
        go_wp2_with fail
        refine (sign_any h.out hb.out (by have := hlen.out; omega)).mono ?_
        rintro e w3 ⟨rfl, h3, hg3⟩
        replace hset := Lib.hid (hset.out.tk hg3 (by decide))
        replace hG := Lib.hid (hG.out.trans (hg3.mono hTC.out))
        replace hb := Lib.hid (Nat.le_trans hb0.out hG.out.size)
        replace h := Lib.hid h3
        clear h3 hg3
        generalize signP s bq = r at *
        obtain ⟨_, hWr, hsts, hatr⟩ := hrok
        replace hWr := Lib.hid hWr
        replace hatr := Lib.hid hatr
        clear hsts hdi hlen
        have hlen : Hid (bq.at_ < s.length) := hlen2
        have har : r.1.at_ < 1000 := by have := hWr.out.1; omega
        cases hp : pkP s r.1 with
        | none =>
          have hrg : rangeP s r = r := by unfold rangeP; rw [hp]; simp
          have hpv : pkV s r.1 = .tuple #[.int .u8 0, .bool false] := by simp only [pkV, hp]
          rw [hrg] at hstep
          clear hp hrg
          go_wp2_with fail
          refine (peek_any h.out).mono ?_
          rintro e w4 ⟨rfl, hgw4⟩
          replace h := Lib.hid (h.out.grows hgw4)
          replace hG := Lib.hid (hG.out.trans (TKeep.grows hgw4 hb.out))
          replace hb := Lib.hid (Nat.le_trans hb.out hgw4.size)
          (try replace hset := Lib.hid (hset.out.grows hgw4))
          (try replace hX := Lib.hid (hX.out.grows hgw4))
          (try replace hP := Lib.hid (hP.out.grows hgw4))
          (try replace hR := Lib.hid (hR.out.grows hgw4))
          clear hgw4
          rw [hpv]
          clear hpv
          go_wp2_with fail
          refine wp_region_k (by kernel_rfl) ?_
          refine wpAnyK_run (l' := #[true, true, true, true, true, true, true, true, true, true, true, true, true, true, true, true, true, true, true, true, true, true, true, true, true, true, true, true, true, true, true]) [0, 1, 2, 3, 4, 5, 6, 7, 8, 9, 10, 11, 12, 13, 14, 15, 16, 17, 18, 19, 20, 21, 22, 23, 24, 25, 26, 27, 28, 29, 30] 0 up_grows (by kernel_rfl) (by intro c a d v w h; first | (cases d <;> exact h) | exact hQ0 _ _ _ _ _ h) rfl (by kernel_rfl) (by kernel_rfl) ?_
          iterate 31 (refine wpMixC_q rfl (fun K hK => ?_); go_simp; (try go_bits); first | (refine hK.out _ ?_; clear hK K) | (apply Exists.intro; refine ⟨fun wq hsq => ?_, hK.out _ ?_⟩; (first | (go_simp; done) | ((try go_simp); (try simp only [↓IntWalk.iteOmega]); (try go_bits); rfl) | (obtain ⟨hcq, hfq⟩ := bcells hsq; go_simp; done) | (obtain ⟨hcq, hfq⟩ := bcells hsq; (try go_simp); (try simp only [↓IntWalk.iteOmega]); (try go_bits); rfl)); clear hK K))
          refine wpMixC_nil ?_
          refine wpAnyK_end (by kernel_rfl) (fun wN hN hS => ?_)
          replace h := Lib.hid (h.out.grows hN)
          replace hset := Lib.hid (hset.out.grows hN)
          replace hG := Lib.hid (hG.out.trans (TKeep.grows hN hb.out))
          replace hb := Lib.hid (Nat.le_trans hb.out hN.size)
          clear hN hS
          have hWq := hWr
          have hatq := hatr
          rw [if_neg (Nat.lt_irrefl _)] at hstep
          replace hstep := Lib.hid hstep
          go_wp2_with fail
          refine (addSet_any (lo := (r).2.toNat) (hi := (r).2.toNat) hset.out (by have := UInt8.toNat_lt (r).2; omega) (by have := UInt8.toNat_lt (r).2; omega)).mono ?_
          rintro e w9 ⟨rfl, hs9, hg9⟩
          replace h := Lib.hid (h.out.setOff hset.out hfr.out hg9)
          replace hG := Lib.hid (hG.out.trans (TKeep.set hset.out hgs.out hg9))
          replace hset := Lib.hid hs9
          clear hs9 hg9
          go_wp2
          go_roundw
          case rel => exact ⟨f - 1, false, (r).1, _, rfl, Lib.hid (by have := hf.out; have := hatq.out; (try rw [failP_at]); omega), Lib.hid hstep.out.symm, hWq, h, hset, hG⟩
          case measure => rw [hm0.out _ _ h.out, hmes.out]; have := hatq.out; have := hlen.out; (try rw [failP_at]); omega
        | some c =>
          have hpv : pkV s r.1 = .tuple #[.int .u8 (c.toNat : Int), .bool true] := by simp only [pkV, hp]
          by_cases hc : c = 45
          · subst hc
            have hpv : pkV s r.1 = .tuple #[.int .u8 45, .bool true] := hpv
            have c0 : ∀ w', BAt w' base gB s r.1 xs sv → w'.cell? ⟨gB, 0, none⟩ = some (.string ⟨s.toArray⟩) := fun w' hh => (hh.blk.cell 0).trans rfl
            have c1 : ∀ w', BAt w' base gB s r.1 xs sv → w'.cell? ⟨gB, 1, none⟩ = some (.int .i64 (r.1.at_ : Int)) := fun w' hh => (hh.blk.cell 1).trans rfl
            replace c0 := Lib.hid c0
            replace c1 := Lib.hid c1
            by_cases hl : r.1.at_ + 1 < s.length
            · obtain ⟨e, he⟩ : ∃ e, s[r.1.at_ + 1]? = some e := ⟨_, List.getElem?_eq_getElem hl⟩
              have hli : (r.1.at_ : Int) + 1 < (s.length : Int) := by omega
              have hbx : ∀ h : r.1.at_ + 1 < (⟨s.toArray⟩ : ByteArray).size, (⟨s.toArray⟩ : ByteArray)[r.1.at_ + 1]'h = e := fun h => by
                show s.toArray[r.1.at_ + 1] = e
                rw [List.getElem_toArray]
                exact (List.getElem?_eq_some_iff.1 he).2
              by_cases h93 : e = 93
              · have hrg : rangeP s r = r := by unfold rangeP; rw [he]; simp [h93]
                have h93i : (e.toNat : Int) = 93 := by rw [h93]; rfl
                clear h93
                rw [hrg] at hstep
                clear hp hrg hl
                go_wp2_with fail
                refine (peek_any h.out).mono ?_
                rintro e w4 ⟨rfl, hgw4⟩
                replace h := Lib.hid (h.out.grows hgw4)
                replace hG := Lib.hid (hG.out.trans (TKeep.grows hgw4 hb.out))
                replace hb := Lib.hid (Nat.le_trans hb.out hgw4.size)
                (try replace hset := Lib.hid (hset.out.grows hgw4))
                (try replace hX := Lib.hid (hX.out.grows hgw4))
                (try replace hP := Lib.hid (hP.out.grows hgw4))
                (try replace hR := Lib.hid (hR.out.grows hgw4))
                clear hgw4
                rw [hpv]
                clear hpv
                replace c0 := c0.out _ h.out
                replace c1 := c1.out _ h.out
                have l1 := h.out.blk.lt
                go_wp2_with fail
                refine wp_region_k (by kernel_rfl) ?_
                refine wpAnyK_run (l' := #[true, true, true, true, true, true, true, true, true, true, true, true, true, true, true, true, true, true, true, true, true, true, true, true, true, true, true, true, true, true, true]) [0, 1, 2, 3, 4, 5, 6, 7, 8, 9, 10, 11, 12, 13, 14, 15, 16, 17, 18, 19, 20, 21, 22, 23, 24, 25, 26, 27, 28, 29, 30] 0 up_grows (by kernel_rfl) (by intro c a d v w h; first | (cases d <;> exact h) | exact hQ0 _ _ _ _ _ h) rfl (by kernel_rfl) (by kernel_rfl) ?_
                iterate 31 (refine wpMixC_q rfl (fun K hK => ?_); go_simp; (try go_bits); first | (refine hK.out _ ?_; clear hK K) | (apply Exists.intro; refine ⟨fun wq hsq => ?_, hK.out _ ?_⟩; (first | (go_simp; done) | ((try go_simp); (try simp only [↓IntWalk.iteOmega]); (try go_bits); rfl) | (obtain ⟨hcq, hfq⟩ := bcells hsq; go_simp; done) | (obtain ⟨hcq, hfq⟩ := bcells hsq; (try go_simp); (try simp only [↓IntWalk.iteOmega]); (try go_bits); rfl)); clear hK K))
                refine wpMixC_nil ?_
                refine wpAnyK_end (by kernel_rfl) (fun wN hN hS => ?_)
                clear c0 c1 l1
                replace h := Lib.hid (h.out.grows hN)
                replace hset := Lib.hid (hset.out.grows hN)
                replace hG := Lib.hid (hG.out.trans (TKeep.grows hN hb.out))
                replace hb := Lib.hid (Nat.le_trans hb.out hN.size)
                clear hN hS
                have hWq := hWr
                have hatq := hatr
                rw [if_neg (Nat.lt_irrefl _)] at hstep
                replace hstep := Lib.hid hstep
                go_wp2_with fail
                refine (addSet_any (lo := (r).2.toNat) (hi := (r).2.toNat) hset.out (by have := UInt8.toNat_lt (r).2; omega) (by have := UInt8.toNat_lt (r).2; omega)).mono ?_
                rintro e w9 ⟨rfl, hs9, hg9⟩
                replace h := Lib.hid (h.out.setOff hset.out hfr.out hg9)
                replace hG := Lib.hid (hG.out.trans (TKeep.set hset.out hgs.out hg9))
                replace hset := Lib.hid hs9
                clear hs9 hg9
                go_wp2
                go_roundw
                case rel => exact ⟨f - 1, false, (r).1, _, rfl, Lib.hid (by have := hf.out; have := hatq.out; (try rw [failP_at]); omega), Lib.hid hstep.out.symm, hWq, h, hset, hG⟩
                case measure => rw [hm0.out _ _ h.out, hmes.out]; have := hatq.out; have := hlen.out; (try rw [failP_at]); omega
              · have hrg : rangeP s r = signP s (advP r.1) := by unfold rangeP; rw [if_pos ⟨hp, hl, by rw [he]; simpa using h93⟩]
                have h93i : ¬ (e.toNat : Int) = 93 := fun x => h93 (UInt8.toNat_inj.1 (by show e.toNat = 93; omega))
                have hal : (advP r.1).at_ < s.length := hl
                have hq := signP_ok hal
                rw [hrg] at hstep
                replace hstep := Lib.hid hstep
                clear hp hrg hl h93
                go_wp2_with fail
                refine (peek_any h.out).mono ?_
                rintro e w4 ⟨rfl, hgw4⟩
                replace h := Lib.hid (h.out.grows hgw4)
                replace hG := Lib.hid (hG.out.trans (TKeep.grows hgw4 hb.out))
                replace hb := Lib.hid (Nat.le_trans hb.out hgw4.size)
                (try replace hset := Lib.hid (hset.out.grows hgw4))
                (try replace hX := Lib.hid (hX.out.grows hgw4))
                (try replace hP := Lib.hid (hP.out.grows hgw4))
                (try replace hR := Lib.hid (hR.out.grows hgw4))
                clear hgw4
                rw [hpv]
                clear hpv
                replace c0 := c0.out _ h.out
                replace c1 := c1.out _ h.out
                have l1 := h.out.blk.lt
                go_wp2_with fail
                refine wp_region_k (by kernel_rfl) ?_
                refine wpAnyK_run (l' := #[true, true, true, true, true, true, true, true, true, true, true, true, true, true, true, true, true, true, true, true, true, true, true, true, true, true, true, true, true, true, true]) [0, 1, 2, 3, 4, 5, 6, 7, 8, 9, 10, 11, 12, 13, 14, 15, 16, 17, 18, 19, 20, 21, 22, 23, 24, 25, 26, 27, 28, 29, 30] 0 up_grows (by kernel_rfl) (by intro c a d v w h; first | (cases d <;> exact h) | exact hQ0 _ _ _ _ _ h) rfl (by kernel_rfl) (by kernel_rfl) ?_
                iterate 31 (refine wpMixC_q rfl (fun K hK => ?_); go_simp; (try go_bits); first | (refine hK.out _ ?_; clear hK K) | (apply Exists.intro; refine ⟨fun wq hsq => ?_, hK.out _ ?_⟩; (first | (go_simp; done) | ((try go_simp); (try simp only [↓IntWalk.iteOmega]); (try go_bits); rfl) | (obtain ⟨hcq, hfq⟩ := bcells hsq; go_simp; done) | (obtain ⟨hcq, hfq⟩ := bcells hsq; (try go_simp); (try simp only [↓IntWalk.iteOmega]); (try go_bits); rfl)); clear hK K))
                refine wpMixC_nil ?_
                refine wpAnyK_end (by kernel_rfl) (fun wN hN hS => ?_)
                clear c0 c1 l1
                replace h := Lib.hid (h.out.grows hN)
                replace hset := Lib.hid (hset.out.grows hN)
                replace hG := Lib.hid (hG.out.trans (TKeep.grows hN hb.out))
                replace hb := Lib.hid (Nat.le_trans hb.out hN.size)
                clear hN hS
                have c1 : wN.cell? ⟨gB, 1, none⟩ = some (.int .i64 ((r.1).at_ : Int)) := (h.out.blk.cell 1).trans rfl
                have f1 := h.out.blk.frozen 1
                have l1 := h.out.blk.lt
                have i1 : -9223372036854775808 ≤ ((r.1).at_ : Int) + 1 ∧ ((r.1).at_ : Int) + 1 ≤ 9223372036854775807 := by first | omega | (simp only [advP]; omega)
                have hA := Lib.hid h.out.adv
                have hGA := Lib.hid (hG.out.trans ((TKeep.own h.out (grownBy_cell wN ⟨gB, 1, none⟩ (.int .i64 (((r.1).at_ : Int) + 1)))).mono hTC.out))
                have hsz : Hid ((wN.setCell ⟨gB, 1, none⟩ (.int .i64 (((r.1).at_ : Int) + 1))).heap.size = wN.heap.size) := Lib.hid (by simp)
                go_wp2_with fail
                (try replace hset := Lib.hid (hset.out.tk (TKeep.own h.out (grownBy_cell wN ⟨gB, 1, none⟩ (.int .i64 (((r.1).at_ : Int) + 1)))) (by decide)))
                (try replace hX := Lib.hid ((TKeep.own h.out (grownBy_cell wN ⟨gB, 1, none⟩ (.int .i64 (((r.1).at_ : Int) + 1)))).blk hX.out (by decide)))
                (try replace hP := Lib.hid ((TKeep.own h.out (grownBy_cell wN ⟨gB, 1, none⟩ (.int .i64 (((r.1).at_ : Int) + 1)))).blk hP.out (by decide)))
                (try replace hR := Lib.hid ((TKeep.own h.out (grownBy_cell wN ⟨gB, 1, none⟩ (.int .i64 (((r.1).at_ : Int) + 1)))).blk hR.out (by decide)))
                clear c1 f1 l1 i1 h hG
                generalize wN.setCell ⟨gB, 1, none⟩ (.int .i64 (((r.1).at_ : Int) + 1)) = w5 at *
                have h := hA
                have hG := hGA
                clear hA hGA
                replace hb := Lib.hid (Nat.le_trans hb0.out hG.out.size)
                refine (sign_any h.out hb.out (by simp only [advP]; omega)).mono ?_
                rintro e w6 ⟨rfl, h3, hg3⟩
                replace hset := Lib.hid (hset.out.tk hg3 (by decide))
                replace hG := Lib.hid (hG.out.trans (hg3.mono hTC.out))
                replace hb := Lib.hid (Nat.le_trans hb0.out hG.out.size)
                replace h := Lib.hid h3
                clear h3 hg3
                replace hstep := hstep.out
                generalize signP s (advP r.1) = q at *
                obtain ⟨_, hWq, hsts, hatq⟩ := hq
                replace hWq := Lib.hid hWq
                have hatq2 : Hid (bq.at_ < q.1.at_) := Lib.hid (by have := hatr.out; simp only [advP] at hatq; omega)
                clear hsts hatq hal
                have hatq := hatq2
                -- behind region 14..16: the class's range is known
                by_cases hlt : (q).2.toNat < (r).2.toNat
                · have hlti : (((q).2.toNat : Nat) : Int) < (((r).2.toNat : Nat) : Int) := by omega
                  rw [if_pos hlt] at hstep
                  replace hstep := Lib.hid hstep
                  clear hlt
                  go_wp2_with fail
                  refine (fail_any2 h.out).mono ?_
                  rintro e w8 ⟨rfl, hBw8, hgw8⟩
                  (try replace hset := Lib.hid (hset.out.tk (TKeep.own h.out hgw8) (by decide)))
                  (try replace hX := Lib.hid ((TKeep.own h.out hgw8).blk hX.out (by decide)))
                  (try replace hP := Lib.hid ((TKeep.own h.out hgw8).blk hP.out (by decide)))
                  (try replace hR := Lib.hid ((TKeep.own h.out hgw8).blk hR.out (by decide)))
                  replace hG := Lib.hid (hG.out.trans ((TKeep.own h.out hgw8).mono hTC.out))
                  replace h := Lib.hid hBw8
                  replace hb := Lib.hid (Nat.le_trans hb0.out hG.out.size)
                  clear hBw8 hgw8
                  go_wp2_with fail
                  refine (addSet_any (lo := (r).2.toNat) (hi := (q).2.toNat) hset.out (by have := UInt8.toNat_lt (r).2; omega) (by have := UInt8.toNat_lt (q).2; omega)).mono ?_
                  rintro e w9 ⟨rfl, hs9, hg9⟩
                  replace h := Lib.hid (h.out.setOff hset.out hfr.out hg9)
                  replace hG := Lib.hid (hG.out.trans (TKeep.set hset.out hgs.out hg9))
                  replace hset := Lib.hid hs9
                  clear hs9 hg9
                  go_wp2
                  go_roundw
                  case rel => exact ⟨f - 1, false, (failP 2 (q).1), _, rfl, Lib.hid (by have := hf.out; have := hatq.out; (try rw [failP_at]); omega), Lib.hid hstep.out.symm, (Lib.hid (failP_WP (e := 2) (by decide) hWq.out.1)), h, hset, hG⟩
                  case measure => rw [hm0.out _ _ h.out, hmes.out]; have := hatq.out; have := hlen.out; (try rw [failP_at]); omega
                · have hlti : ¬ (((q).2.toNat : Nat) : Int) < (((r).2.toNat : Nat) : Int) := by omega
                  rw [if_neg hlt] at hstep
                  replace hstep := Lib.hid hstep
                  clear hlt
                  go_wp2_with fail
                  refine (addSet_any (lo := (r).2.toNat) (hi := (q).2.toNat) hset.out (by have := UInt8.toNat_lt (r).2; omega) (by have := UInt8.toNat_lt (q).2; omega)).mono ?_
                  rintro e w9 ⟨rfl, hs9, hg9⟩
                  replace h := Lib.hid (h.out.setOff hset.out hfr.out hg9)
                  replace hG := Lib.hid (hG.out.trans (TKeep.set hset.out hgs.out hg9))
                  replace hset := Lib.hid hs9
                  clear hs9 hg9
                  go_wp2
                  go_roundw
                  case rel => exact ⟨f - 1, false, (q).1, _, rfl, Lib.hid (by have := hf.out; have := hatq.out; (try rw [failP_at]); omega), Lib.hid hstep.out.symm, hWq, h, hset, hG⟩
                  case measure => rw [hm0.out _ _ h.out, hmes.out]; have := hatq.out; have := hlen.out; (try rw [failP_at]); omega
            · have hrg : rangeP s r = r := by unfold rangeP; rw [if_neg (fun x => hl x.2.1)]
              have hli : ((r.1.at_ : Int) + 1 < (s.length : Int)) = False := by simp only [eq_iff_iff, iff_false]; omega
              rw [hrg] at hstep
              clear hp hrg hl
              go_wp2_with fail
              refine (peek_any h.out).mono ?_
              rintro e w4 ⟨rfl, hgw4⟩
              replace h := Lib.hid (h.out.grows hgw4)
              replace hG := Lib.hid (hG.out.trans (TKeep.grows hgw4 hb.out))
              replace hb := Lib.hid (Nat.le_trans hb.out hgw4.size)
              (try replace hset := Lib.hid (hset.out.grows hgw4))
              (try replace hX := Lib.hid (hX.out.grows hgw4))
              (try replace hP := Lib.hid (hP.out.grows hgw4))
              (try replace hR := Lib.hid (hR.out.grows hgw4))
              clear hgw4
              rw [hpv]
              clear hpv
              replace c0 := c0.out _ h.out
              replace c1 := c1.out _ h.out
              have l1 := h.out.blk.lt
              go_wp2_with fail
              refine wp_region_k (by kernel_rfl) ?_
              refine wpAnyK_run (l' := #[true, true, true, true, true, true, true, true, true, true, true, true, true, true, true, true, true, true, true, true, true, true, true, true, true, true, true, true, true, true, true]) [0, 1, 2, 3, 4, 5, 6, 7, 8, 9, 10, 11, 12, 13, 14, 15, 16, 17, 18, 19, 20, 21, 22, 23, 24, 25, 26, 27, 28, 29, 30] 0 up_grows (by kernel_rfl) (by intro c a d v w h; first | (cases d <;> exact h) | exact hQ0 _ _ _ _ _ h) rfl (by kernel_rfl) (by kernel_rfl) ?_
              iterate 31 (refine wpMixC_q rfl (fun K hK => ?_); go_simp; (try go_bits); first | (refine hK.out _ ?_; clear hK K) | (apply Exists.intro; refine ⟨fun wq hsq => ?_, hK.out _ ?_⟩; (first | (go_simp; done) | ((try go_simp); (try simp only [↓IntWalk.iteOmega]); (try go_bits); rfl) | (obtain ⟨hcq, hfq⟩ := bcells hsq; go_simp; done) | (obtain ⟨hcq, hfq⟩ := bcells hsq; (try go_simp); (try simp only [↓IntWalk.iteOmega]); (try go_bits); rfl)); clear hK K))
              refine wpMixC_nil ?_
              refine wpAnyK_end (by kernel_rfl) (fun wN hN hS => ?_)
              clear c0 c1 l1
              replace h := Lib.hid (h.out.grows hN)
              replace hset := Lib.hid (hset.out.grows hN)
              replace hG := Lib.hid (hG.out.trans (TKeep.grows hN hb.out))
              replace hb := Lib.hid (Nat.le_trans hb.out hN.size)
              clear hN hS
              have hWq := hWr
              have hatq := hatr
              rw [if_neg (Nat.lt_irrefl _)] at hstep
              replace hstep := Lib.hid hstep
              go_wp2_with fail
              refine (addSet_any (lo := (r).2.toNat) (hi := (r).2.toNat) hset.out (by have := UInt8.toNat_lt (r).2; omega) (by have := UInt8.toNat_lt (r).2; omega)).mono ?_
              rintro e w9 ⟨rfl, hs9, hg9⟩
              replace h := Lib.hid (h.out.setOff hset.out hfr.out hg9)
              replace hG := Lib.hid (hG.out.trans (TKeep.set hset.out hgs.out hg9))
              replace hset := Lib.hid hs9
              clear hs9 hg9
              go_wp2
              go_roundw
              case rel => exact ⟨f - 1, false, (r).1, _, rfl, Lib.hid (by have := hf.out; have := hatq.out; (try rw [failP_at]); omega), Lib.hid hstep.out.symm, hWq, h, hset, hG⟩
              case measure => rw [hm0.out _ _ h.out, hmes.out]; have := hatq.out; have := hlen.out; (try rw [failP_at]); omega
          · have hrg : rangeP s r = r := by unfold rangeP; rw [hp]; simp [hc]
            have hci : ¬ (c.toNat : Int) = 45 := fun e => hc (UInt8.toNat_inj.1 (by show c.toNat = 45; omega))
            rw [hrg] at hstep
            clear hp hrg hc
            go_wp2_with fail
            refine (peek_any h.out).mono ?_
            rintro e w4 ⟨rfl, hgw4⟩
            replace h := Lib.hid (h.out.grows hgw4)
            replace hG := Lib.hid (hG.out.trans (TKeep.grows hgw4 hb.out))
            replace hb := Lib.hid (Nat.le_trans hb.out hgw4.size)
            (try replace hset := Lib.hid (hset.out.grows hgw4))
            (try replace hX := Lib.hid (hX.out.grows hgw4))
            (try replace hP := Lib.hid (hP.out.grows hgw4))
            (try replace hR := Lib.hid (hR.out.grows hgw4))
            clear hgw4
            rw [hpv]
            clear hpv
            go_wp2_with fail
            refine wp_region_k (by kernel_rfl) ?_
            refine wpAnyK_run (l' := #[true, true, true, true, true, true, true, true, true, true, true, true, true, true, true, true, true, true, true, true, true, true, true, true, true, true, true, true, true, true, true]) [0, 1, 2, 3, 4, 5, 6, 7, 8, 9, 10, 11, 12, 13, 14, 15, 16, 17, 18, 19, 20, 21, 22, 23, 24, 25, 26, 27, 28, 29, 30] 0 up_grows (by kernel_rfl) (by intro c a d v w h; first | (cases d <;> exact h) | exact hQ0 _ _ _ _ _ h) rfl (by kernel_rfl) (by kernel_rfl) ?_
            iterate 31 (refine wpMixC_q rfl (fun K hK => ?_); go_simp; (try go_bits); first | (refine hK.out _ ?_; clear hK K) | (apply Exists.intro; refine ⟨fun wq hsq => ?_, hK.out _ ?_⟩; (first | (go_simp; done) | ((try go_simp); (try simp only [↓IntWalk.iteOmega]); (try go_bits); rfl) | (obtain ⟨hcq, hfq⟩ := bcells hsq; go_simp; done) | (obtain ⟨hcq, hfq⟩ := bcells hsq; (try go_simp); (try simp only [↓IntWalk.iteOmega]); (try go_bits); rfl)); clear hK K))
            refine wpMixC_nil ?_
            refine wpAnyK_end (by kernel_rfl) (fun wN hN hS => ?_)
            replace h := Lib.hid (h.out.grows hN)
            replace hset := Lib.hid (hset.out.grows hN)
            replace hG := Lib.hid (hG.out.trans (TKeep.grows hN hb.out))
            replace hb := Lib.hid (Nat.le_trans hb.out hN.size)
            clear hN hS
            have hWq := hWr
            have hatq := hatr
            rw [if_neg (Nat.lt_irrefl _)] at hstep
            replace hstep := Lib.hid hstep
            go_wp2_with fail
            refine (addSet_any (lo := (r).2.toNat) (hi := (r).2.toNat) hset.out (by have := UInt8.toNat_lt (r).2; omega) (by have := UInt8.toNat_lt (r).2; omega)).mono ?_
            rintro e w9 ⟨rfl, hs9, hg9⟩
            replace h := Lib.hid (h.out.setOff hset.out hfr.out hg9)
            replace hG := Lib.hid (hG.out.trans (TKeep.set hset.out hgs.out hg9))
            replace hset := Lib.hid hs9
            clear hs9 hg9
            go_wp2
            go_roundw
            case rel => exact ⟨f - 1, false, (r).1, _, rfl, Lib.hid (by have := hf.out; have := hatq.out; (try rw [failP_at]); omega), Lib.hid hstep.out.symm, hWq, h, hset, hG⟩
            case measure => rw [hm0.out _ _ h.out, hmes.out]; have := hatq.out; have := hlen.out; (try rw [failP_at]); omega
end Go.Proofs.YtfoffneipdkdjaaGreatDoor
namespace Go.Proofs.YtfoffneipdkdjaaGreatDoor
open Go.RowKit

theorem leaves_same {P : Program} {fn : Func} {t1 t2 : Array Value} {R : Ending → World → Prop} (h : results fn t1 = results fn t2) : ∀ (ds : List Deferred) (u : FrameMode) (w : World), Leaves P fn t1 R ds u w → Leaves P fn t2 R ds u w := by
  intro ds
  induction ds with
  | nil =>
    intro u w hl
    cases u with
    | run => exact hl
    | returning => obtain ⟨v, h1, h2⟩ := hl; exact ⟨v, h ▸ h1, h2⟩
    | panicking c => exact hl
  | cons d ds ih =>
    intro u w hl
    obtain ⟨hu, fv, cap, f, args, h1, h2, h3⟩ := hl
    refine ⟨hu, fv, cap, f, args, h1, h2, h3.mono fun e u' w' h4 => ?_⟩
    cases e with
    | returned v => exact ih _ _ h4
    | panicked c => exact ih _ _ h4
    | outgrown => exact h4
def ClassPost (base gB gs : Nat) (s : List UInt8) (xs : List StX) (sv : Value) (w : World) (r : PB × List Nat) (e : Ending) (w' : World) : Prop :=
  e = .returned (.tuple #[]) ∧ BAt w' base gB s r.1 xs sv ∧ SetAt w' gs r.2 ∧ TKeep TC base w w'
theorem no_results (t1 t2 : Array Value) : results Tryz.f188 t1 = results Tryz.f188 t2 := by
  simp [results]
theorem class_hQ {R : Ending → World → Prop} (c : List PanicEntry) (a : Act) (d : Option Tmp) (v : Value) (w : World) (h : Exit.inBlock 0 (bodyPostD Tryz.prog Tryz.f188 R) (.panic c) (Act.put a d v) w) : Exit.inBlock 0 (bodyPostD Tryz.prog Tryz.f188 R) (.panic c) a w := by
  cases d with
  | none => exact h
  | some d => exact leaves_same (no_results _ _) _ _ _ h
set_option maxRecDepth 100000 in
set_option maxHeartbeats 1600000 in
theorem class_any {w : World} {base gB gs : Nat} {s : List UInt8} {b : PB} {xs : List StX} {sv : Value} (h : BAt w base gB s b xs sv) (hset : SetAt w gs zeroW) (hgs : base ≤ gs) (hfr : ∀ x ∈ xs, x.pv ≠ .pointer (some ⟨gs, 0, none⟩)) (hb : base ≤ w.heap.size) (hsl : s.length ≤ 100) (hW : b.at_ ≤ s.length) :
    Calls Tryz.prog 188 #[.pointer (some ⟨gB, 0, none⟩), .pointer (some ⟨gs, 0, none⟩)] w (ClassPost base gB gs s xs sv w (classP s b)) := by
  replace hb := Lib.hid hb
  have hb0 := hb
  have hG := Lib.hid (TKeep.refl TC base w)
  have hTC : Hid (∀ t ∈ [211], t ∈ TC) := Lib.hid (by intro t ht; simp [TC] at *; exact .inl ht)
  replace h := Lib.hid h
  replace hset := Lib.hid hset
  replace hgs := Lib.hid hgs
  replace hfr := Lib.hid hfr
  have hWH := Lib.hid hW
  by_cases hp : pkP s b = some 94
  · have hcp : classP s b = ((classL s (s.length + 1) true (advP b) zeroW).1, turnSet (classL s (s.length + 1) true (advP b) zeroW).2) := by unfold classP; rw [if_pos hp]
    have hpv : pkV s b = .tuple #[.int .u8 94, .bool true] := by simp only [pkV, hp]; rfl
    have hal : Hid ((advP b).at_ ≤ s.length) := Lib.hid (pk_some hp).2.1
    replace hcp := Lib.hid hcp
    clear hp
    go_enter_defers Tryz.func188, Tryz.ntmps188
    go_wp2_with fail
    refine (peek_any h.out).mono ?_
    rintro e w1 ⟨rfl, hgw1⟩
    replace h := Lib.hid (h.out.grows hgw1)
    replace hG := Lib.hid (hG.out.trans (TKeep.grows hgw1 hb.out))
    replace hb := Lib.hid (Nat.le_trans hb.out hgw1.size)
    (try replace hset := Lib.hid (hset.out.grows hgw1))
    (try replace hX := Lib.hid (hX.out.grows hgw1))
    (try replace hP := Lib.hid (hP.out.grows hgw1))
    (try replace hR := Lib.hid (hR.out.grows hgw1))
    clear hgw1
    rw [hpv]
    clear hpv
    have c1 : w1.cell? ⟨gB, 1, none⟩ = some (.int .i64 ((b).at_ : Int)) := (h.out.blk.cell 1).trans rfl
    have f1 := h.out.blk.frozen 1
    have l1 := h.out.blk.lt
    have i1 : -9223372036854775808 ≤ ((b).at_ : Int) + 1 ∧ ((b).at_ : Int) + 1 ≤ 9223372036854775807 := by first | omega | (simp only [advP]; omega)
    have hA := Lib.hid h.out.adv
    have hGA := Lib.hid (hG.out.trans ((TKeep.own h.out (grownBy_cell w1 ⟨gB, 1, none⟩ (.int .i64 (((b).at_ : Int) + 1)))).mono hTC.out))
    have hsz : Hid ((w1.setCell ⟨gB, 1, none⟩ (.int .i64 (((b).at_ : Int) + 1))).heap.size = w1.heap.size) := Lib.hid (by simp)
    go_wp2_with fail
    (try replace hset := Lib.hid (hset.out.tk (TKeep.own h.out (grownBy_cell w1 ⟨gB, 1, none⟩ (.int .i64 (((b).at_ : Int) + 1)))) (by decide)))
    (try replace hX := Lib.hid ((TKeep.own h.out (grownBy_cell w1 ⟨gB, 1, none⟩ (.int .i64 (((b).at_ : Int) + 1)))).blk hX.out (by decide)))
    (try replace hP := Lib.hid ((TKeep.own h.out (grownBy_cell w1 ⟨gB, 1, none⟩ (.int .i64 (((b).at_ : Int) + 1)))).blk hP.out (by decide)))
    (try replace hR := Lib.hid ((TKeep.own h.out (grownBy_cell w1 ⟨gB, 1, none⟩ (.int .i64 (((b).at_ : Int) + 1)))).blk hR.out (by decide)))
    clear c1 f1 l1 i1 h hG
    generalize w1.setCell ⟨gB, 1, none⟩ (.int .i64 (((b).at_ : Int) + 1)) = w2 at *
    have h := hA
    have hG := hGA
    clear hA hGA
    replace hb := Lib.hid (Nat.le_trans hb0.out hG.out.size)
    refine class_l (f0 := s.length + 1) h hset hgs hfr hb0 hG (Lib.hid (by omega)) (Lib.hid rfl) (Lib.hid (WP.of_le hal.out)) hsl class_hQ ?_
    intros
    rename_i w9 hrel
    obtain ⟨h9, hs9, hG9⟩ := hrel
    refine leaves_cons (f := 189) (args := #[.pointer (some ⟨gs, 0, none⟩)]) (by simp) (by simp [go_sem]) ?_
    refine (turnSet_def (u := .returning) hs9.out).mono ?_
    rintro e u' w'' ⟨rfl, rfl, hs10, hg10⟩
    refine ⟨_, results_none rfl _ _ _, rfl, ?_⟩
    rw [hcp.out]
    exact ⟨h9.out.setOff hs9.out hfr.out hg10, hs10, hG9.out.trans (TKeep.set hs9.out hgs.out hg10)⟩
  · have hcp : classP s b = classL s (s.length + 1) true b zeroW := by unfold classP; rw [if_neg hp]
    obtain ⟨c, ok, hpv, hc⟩ : ∃ (c : Int) (ok : Bool), pkV s b = .tuple #[.int .u8 c, .bool ok] ∧ ¬ c = 94 := by
      cases hq : pkP s b with
      | none => exact ⟨0, false, by simp only [pkV, hq], by decide⟩
      | some d => exact ⟨(d.toNat : Int), true, by simp only [pkV, hq], fun e => hp (by rw [hq]; congr 1; exact UInt8.toNat_inj.1 (by show d.toNat = 94; omega))⟩
    rw [hcp]
    clear hp hcp
    go_enter_defers Tryz.func188, Tryz.ntmps188
    go_wp2_with fail
    refine (peek_any h.out).mono ?_
    rintro e w1 ⟨rfl, hgw1⟩
    replace h := Lib.hid (h.out.grows hgw1)
    replace hG := Lib.hid (hG.out.trans (TKeep.grows hgw1 hb.out))
    replace hb := Lib.hid (Nat.le_trans hb.out hgw1.size)
    (try replace hset := Lib.hid (hset.out.grows hgw1))
    (try replace hX := Lib.hid (hX.out.grows hgw1))
    (try replace hP := Lib.hid (hP.out.grows hgw1))
    (try replace hR := Lib.hid (hR.out.grows hgw1))
    clear hgw1
    rw [hpv]
    clear hpv
    go_wp2_with fail
    refine class_l (f0 := s.length + 1) h hset hgs hfr hb0 hG (Lib.hid (by omega)) (Lib.hid rfl) (Lib.hid (WP.of_le hWH.out)) hsl class_hQ ?_
    intros
    rename_i w9 hrel
    obtain ⟨h9, hs9, hG9⟩ := hrel
    exact ⟨_, results_none rfl _ _ _, rfl, h9.out, hs9.out, hG9.out⟩
end Go.Proofs.YtfoffneipdkdjaaGreatDoor
