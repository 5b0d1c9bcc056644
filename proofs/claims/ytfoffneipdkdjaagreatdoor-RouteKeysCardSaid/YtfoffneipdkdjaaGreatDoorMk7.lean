/- Parts: The reference's digest of bytes: Of. The reference's key of a group. The program's key of a group. The walk of the law RouteKeys, but for its document's example (lives). Maps keyed by texts that the call makes: what they hold, as a list of what was written. Predicates as closures; the sieve of DeleteFunc. Plain laws. Policies and alerts as a walk meets them. slices.IndexFunc, ContainsFunc, Clone, DeleteFunc at []lychgate/api.Named. slices.IndexFunc, ContainsFunc, Clone, DeleteFunc at lychgate/api.Matcher. -/
import Derived.Test.YtfoffneipdkdjaaGreatDoorMk6
import Derived.Test.YtfoffneipdkdjaaGreatDoorMk4
import Derived.Test.YtfoffneipdkdjaaGreatDoorMk5
import Derived.Maps.OwnSet
import Derived.Maps.OwnOps
import Derived.Shelf.Abstract
import Derived.Lib.SliceRun
namespace Go.Proofs.YtfoffneipdkdjaaGreatDoor
open Go.RowKit

theorem named_stores {Pr : World → Prop} {w : World} {t1 t2 : TypeId} {z1 z2 c1 c2 : Array Value} (h : ∀ w1, Blk w1 w.heap.size t1 c1 → Blk w1 (w.heap.size + 1) t2 c2 → Grows w w1 → Pr w1) : Pr ((((w.alloc (.cells z1 t1)).alloc (.cells z2 t2)).setRow w.heap.size c1).setRow (w.heap.size + 1) c2) := by
  have h1 : Blk ((w.alloc (.cells z1 t1)).alloc (.cells z2 t2)) w.heap.size t1 z1 := (Blk.new w t1 z1).alloc _
  have h2 : Blk ((w.alloc (.cells z1 t1)).alloc (.cells z2 t2)) (w.heap.size + 1) t2 z2 := Blk.new1 w _ _ _
  have g1 := grownBy_setRow ((w.alloc (.cells z1 t1)).alloc (.cells z2 t2)) w.heap.size c1
  have g2 := grownBy_setRow (((w.alloc (.cells z1 t1)).alloc (.cells z2 t2)).setRow w.heap.size c1) (w.heap.size + 1) c2
  have b1 : Blk (((w.alloc (.cells z1 t1)).alloc (.cells z2 t2)).setRow w.heap.size c1) w.heap.size t1 c1 := setRow_heap _ _ _ _ _ _ h1
  refine h _ (b1.by_ g2 (by omega)) (setRow_heap _ _ _ _ _ _ (h2.by_ g1 (by omega))) ?_
  exact ((((Grows.refl w).alloc _).alloc _).by_then g1 (Nat.le_refl _)).by_then g2 (Nat.le_succ _)
theorem exec_load_row {P : Program} {o : Oper} {a : Act} {w : World} (ty : TypeId) (x : Operand) (ho : o.op = .load ty x)
    (g : Nat) (hx : a.eval x = .pointer (some ⟨g, 0, none⟩)) (t : TypeId) (cs : Array Value) (d : TypeDesc) (hg : Blk w g t cs)
    (hu : P.underlying ty = some d) (hd : (match d with | .struct _ | .array _ _ => true | _ => false) = true) (hi : (P.info? ty).map (·.size) = some cs.size) :
    (execOp a.eval o).run P w = .ok (.value (.agg cs)) w := by
  unfold execOp
  simp only [ho, hx, Instr.loadAt, Instr.sureAddr, Sem.run_bind, Sem.run_pure, Result.andThen_ok, run_loadVar_row w g t ty cs (0, 0) d hg hu hd hi]
theorem getD_Wd {v : V8} (hv : v.ok) (i : Nat) : Wd ((eightL v).getD i 0) := by
  have h : ∀ x ∈ eightL v, Wd x := by
    intro x hx
    simp only [eightL, List.mem_cons, List.not_mem_nil, or_false] at hx
    obtain ⟨h1, h2, h3, h4, h5, h6, h7, h8⟩ := hv
    rcases hx with rfl | rfl | rfl | rfl | rfl | rfl | rfl | rfl <;> assumption
  rw [List.getD_eq_getElem?_getD]
  cases hk : (eightL v)[i]? with
  | none => exact Wd.of (by simp)
  | some x => exact h x (List.mem_of_getElem? hk)
theorem u32s_one (xs : List Nat) : (u32s xs).all (·.oneCell') = true := by simp [u32s, Value.oneCell']
def lenOf : Value → Nat
  | .slice _ n _ => n
  | _ => 0
set_option maxRecDepth 100000 in
set_option maxHeartbeats 1600000 in
theorem rof_any {A : Option Addr} {m c : Nat} {bs : List Nat} (w : World) (hA : Arr w 1 encB A m bs) (hb : ∀ x ∈ bs, x < 256) (hm : m ≤ 1099511627776) :
    Calls Tryz.prog 33 #[.slice A m c] w fun e w' => e = .returned (.agg (u8s (sha bs))) ∧ Grows w w' := by
  have hml := hA.1
  have cS := fun W => refStart_any W
  have cK := fun W => refKeys_any W
  have h64 : (u32s keysL).size = 64 := by rw [u32s_size, keys_len]
  have i64 : (Tryz.prog.info? 119).map (·.size) = some (u32s keysL).size := by rw [h64]; kernel_rfl
  have o64 := u32s_one keysL
  rw [show startL = eightL startV from rfl] at cS
  have i8 : (Tryz.prog.info? 117).map (·.size) = some (u32s (eightL startV)).size := by rw [u32s_size]; kernel_rfl
  have o8 := u32s_one (eightL startV)
  have h8 : (u32s (eightL startV)).size = 8 := rfl
  generalize hKA : u32s keysL = KA at *
  generalize hSA : u32s (eightL startV) = SA at *
  replace hKA := Lib.hid hKA
  replace hSA := Lib.hid hSA
  replace i64 := Lib.hid i64
  replace o64 := Lib.hid o64
  replace h64 := Lib.hid h64
  replace i8 := Lib.hid i8
  replace o8 := Lib.hid o8
  replace h8 := Lib.hid h8
  replace cS := Lib.hid cS
  replace cK := Lib.hid cK
  replace hA := Lib.hid hA
  replace hb := Lib.hid hb
  go_enter Tryz.func33, Tryz.ntmps33
  go_wp2_with fail
  refine named_alloc (Pr := fun W => Calls _ _ _ W _) (fun w1 hB2 hG1 => ?_)
  replace hB2 : Blk w1 w.heap.size 83 (u8s (List.replicate 32 0)) := hB2.cast (by kernel_rfl)
  obtain ⟨g2, hg2⟩ : ∃ g2, g2 = w.heap.size := ⟨_, rfl⟩
  rw [← hg2] at hB2 ⊢
  replace hg2 := Lib.hid hg2
  refine (cS.out _).mono ?_
  rintro e w2 ⟨rfl, hG2⟩
  go_wp2_with fail
  refine (cK.out _).mono ?_
  rintro e w3 ⟨rfl, hG3⟩
  have hG := hG1.trans (hG2.trans hG3)
  have hA3 := hA.out.keep hG
  have hR := (hB2.grows hG2).grows hG3
  have hlt23 := Lib.hid hR.lt
  have hle3 := Lib.hid hG.size
  clear hA hG1 hG2 hG3 hB2 cS cK
  replace hG := Lib.hid hG
  replace hA3 := Lib.hid hA3
  replace hR := Lib.hid hR
  have hZ8 : ∀ (o : Obj), Blk ((w3.alloc (.cells #[.int .u32 0, .int .u32 0, .int .u32 0, .int .u32 0, .int .u32 0, .int .u32 0, .int .u32 0, .int .u32 0] 117)).alloc o) w3.heap.size 117 #[.int .u32 0, .int .u32 0, .int .u32 0, .int .u32 0, .int .u32 0, .int .u32 0, .int .u32 0, .int .u32 0] := fun o => (Blk.new w3 _ _).alloc o
  replace hZ8 := Lib.hid hZ8
  have h63 : ([] : List Nat).length + m ≤ maxLen := by unfold maxLen; simp; omega
  have hbytes : (([] : List Nat).length + m) * 1 ≤ 140737488355328 := by simp; omega
  go_wp2_with (first | (refine wpList_store_row rfl 117 (.tmp 3) (.tmp 15) rfl w3.heap.size SA rfl rfl 117 _ (hZ8.out _) i8.out (by rw [h8.out]; rfl) o8.out ?_) | (refine wpList_store_row rfl 119 (.tmp 4) (.tmp 16) rfl (w3.heap.size + 1) KA rfl rfl 119 _ ((Blk.new1 w3 _ _ _).by_ (grownBy_setRow _ _ _) (by omega)) i64.out (by rw [h64.out]; rfl) o64.out ?_; refine named_stores (Pr := fun W => wpList _ _ _ _ _ W) (fun w4 hB3 hB4 hG4 => ?_); (have hA4 := Lib.hid (hA3.out.keep hG4)); (replace hR := Lib.hid (hR.out.grows hG4)); (replace hG := Lib.hid (hG.out.trans hG4)); (replace hB3 := Lib.hid hB3); (replace hB4 := Lib.hid hB4); (have hlt3 := Lib.hid (Nat.lt_of_lt_of_le (Nat.lt_succ_self (w3.heap.size + 1)) hB4.out.lt)); clear hG4 hA3) | (at_builtin; first | (refine wpList_grownOpt T_bb rfl (.const (.slice none 0 0)) (.tmp 17) rfl (Own.nil_ w4 w4.heap.size _ _ encB) rfl rfl hA4.out hkB oneB (Nat.le_refl _) h63 hbytes ?_; intro v5 w5 hO5 hby5 hv5; (have hG5 := Lib.hid ((Grows.refl w4).by_row hby5 (fun j hj => by cases hj))); (replace hO5 := Lib.hid hO5); clear hv5 hby5) | (refine wpList_grownOpt T_bb rfl (.tmp 18) (.tmp 19) rfl (hO5.out.alloc (.cells #[.int .u8 128] 5)) rfl rfl (Arr.one_byte (x := 128) (Blk.new w5 5 #[.int .u8 128])) hkB oneB (hG5.out.alloc (.cells #[.int .u8 128] 5)).size (by unfold maxLen; simp; omega) (by simp; omega) ?_; intro v6 w6 hO6 hby6 hv6; (have hG6 := Lib.hid ((hG5.out.alloc (.cells #[.int .u8 128] 5)).by_row hby6 hO5.out.block_ge)); (replace hO6 := Lib.hid hO6); clear hv6 hby6)))
  obtain ⟨g3, hg3⟩ : ∃ g3, g3 = w3.heap.size := ⟨_, rfl⟩
  rw [← hg3] at hB3 hB4 hlt3 hlt23 hle3 ⊢
  clear hg3 hZ8 hO5 hG5 hA4
  replace h63 := Lib.hid h63
  replace hbytes := Lib.hid hbytes
  have hO0 : Hid (Own w6 w4.heap.size 5 1 encB v6 (bs ++ [128] ++ List.replicate 0 0)) := by simpa using hO6
  clear hO6
  have hz : zeros m < 64 := by unfold zeros; omega
  go_loopw [5] (fun v wr => ∃ j : Nat, j ≤ zeros m ∧ Hid (Own wr w4.heap.size 5 1 encB v (bs ++ [128] ++ List.replicate j 0)) ∧ Hid (Grows w4 wr)) (fun v _ => m + 200 - lenOf v)
  case atStart => exact ⟨0, by omega, hO0, hG6⟩
  case round =>
    clear hO0 hG6
    obtain ⟨j, hj, hO, hG6⟩ := hrel
    obtain ⟨A1, c1, hrs, hnc, hcm, hAp⟩ := hO.out.arr hkB
    have hLx : (bs ++ [128] ++ List.replicate j 0).length = m + 1 + j := by simp; omega
    rw [hLx] at hrs hnc hAp
    obtain ⟨L, hL⟩ : ∃ L, L = m + 1 + j := ⟨_, rfl⟩
    rw [← hL] at hrs hnc hAp hLx
    subst hrs
    by_cases hlt : j < zeros m
    · have hmod : ¬ ((L : Int) % 64 = 56) := by unfold zeros at hlt; omega
      have hmod2 : ¬ (L % 64 = 56) := by unfold zeros at hlt; omega
      have hLb : L ≤ 1099511628000 := by omega
      have hLm : L < m + 200 := by omega
      replace hL := Lib.hid hL
      clear hnc hcm hAp
      go_wp2_with (at_builtin; (refine wpList_grownOpt T_bb rfl (.tmp 25) (.tmp 26) rfl (hO.out.alloc (.cells #[.int .u8 0] 5)) rfl rfl (Arr.one_byte (x := 0) (Blk.new _ 5 #[.int .u8 ((0 : Nat) : Int)])) hkB oneB (hG6.out.alloc (.cells #[.int .u8 0] 5)).size (by unfold maxLen; simp only [hLx]; omega) (by simp only [hLx]; omega) ?_; intro v7 w7 hO7 hby7 hv7; (have hG7 := Lib.hid ((hG6.out.alloc (.cells #[.int .u8 0] 5)).by_row hby7 hO.out.block_ge)); (obtain ⟨A2, c2, hv2e, -, -, -⟩ := hO7.arr hkB); (rw [List.length_append, hLx] at hv2e); (simp only [List.length_cons, List.length_nil, Nat.zero_add] at hv2e); subst hv2e; (replace hO7 := Lib.hid hO7); clear hv7 hby7))
      go_roundw
      case rel => exact ⟨j + 1, by omega, by
        rw [List.replicate_succ', ← List.append_assoc]
        exact hO7, hG7⟩
      case measure => simp only [lenOf]; omega
    · have hjz : j = zeros m := by omega
      have hmod : (L : Int) % 64 = 56 := by unfold zeros at hjz; omega
      have hmod2 : L % 64 = 56 := by unfold zeros at hjz; omega
      subst hjz
      generalize hP : bs ++ [128] ++ List.replicate (zeros m) 0 = P0 at *
      replace hP := Lib.hid hP
      have hLb : L ≤ 1099511628000 := by omega
      replace hL := Lib.hid hL
      have hm0 : 0 ≤ (m : Int) ∧ (m : Int) ≤ 1099511627776 := by omega
      clear hnc hcm hAp
      have hOk : Hid (Own wr w4.heap.size 5 1 encB (.slice A1 L c1) (P0 ++ (be8 (m * 8)).take 0)) := by simpa using hO
      clear hO
      go_wp2
      go_loopw [5, 7] (fun v i wr => ∃ k : Nat, k ≤ 8 ∧ i = .int .i64 (7 - (k : Int)) ∧ Hid (Own wr w4.heap.size 5 1 encB v (P0 ++ (be8 (m * 8)).take k)) ∧ Hid (Grows w4 wr)) (fun _ i _ => (intOf i + 1).toNat)
      case atStart => exact ⟨0, by omega, rfl, hOk, hG6⟩
      case round =>
        clear hOk hG6
        obtain ⟨k, hk, rfl, hO, hG6⟩ := hrel
        by_cases hlt : k < 8
        · have hk7 : (0 : Int) ≤ 7 - (k : Int) := by omega
          go_wp2
          go_loopw [8, 9] (fun n i wx => ∃ t : Nat, t ≤ 7 - k ∧ i = .int .i64 t ∧ n = .int .u64 ((m * 8 / 256 ^ t : Nat) : Int) ∧ wx = wr) (fun _ i _ => 7 - (intOf i).toNat)
          case atStart => exact ⟨0, by omega, rfl, by simp, rfl⟩
          case round =>
            obtain ⟨t, ht, rfl, rfl, rfl⟩ := hrel
            by_cases htk : t < 7 - k
            · have hdv : m * 8 / 256 ^ (t + 1) = m * 8 / 256 ^ t / 256 := by rw [Nat.pow_succ, Nat.div_div_eq_div_mul]
              have htk2 : (t : Int) < 7 - (k : Int) := by omega
              have hYb : m * 8 / 256 ^ (t + 1) ≤ m * 8 := Nat.div_le_self _ _
              generalize hY : m * 8 / 256 ^ (t + 1) = Y at *
              generalize m * 8 / 256 ^ t = X at *
              have hdi : (X : Int) / 256 = ((Y : Nat) : Int) := by rw [hdv]; omega
              have hwr : IntKind.u64.wrap (Y : Int) = (Y : Int) := by rw [IntKind.wrap_u64]; omega
              replace hdv := Lib.hid hdv
              replace hY := Lib.hid hY
              clear hYb
              go_wp2
              go_roundw
              case rel => exact ⟨t + 1, by omega, by go_num, by rw [hY.out], trivial⟩
              case measure => simp [intOf]; omega
            · obtain rfl : t = 7 - k := by omega
              have htk2 : ¬ ((((7 - k : Nat) : Nat) : Int) < 7 - (k : Int)) := by omega
              have hpw : 256 ^ (7 - k) = 2 ^ (56 - 8 * k) := by
                rw [show (256 : Nat) = 2 ^ 8 from rfl, ← Nat.pow_mul, show 8 * (7 - k) = 56 - 8 * k by omega]
              have htake : (be8 (m * 8)).take (k + 1) = (be8 (m * 8)).take k ++ [m * 8 / 256 ^ (7 - k) % 256] := by
                rw [List.take_add_one, hpw]
                simp [be8, hlt]
              have hval : ((m * 8 / 256 ^ (7 - k) : Nat) : Int) % 256 = ((m * 8 / 256 ^ (7 - k) % 256 : Nat) : Int) := by omega
              generalize m * 8 / 256 ^ (7 - k) % 256 = Z at *
              generalize m * 8 / 256 ^ (7 - k) = Y at *
              clear hpw
              replace htake := Lib.hid htake
              obtain ⟨A1, c1, hrs, -, -, -⟩ := hO.out.arr hkB
              have hLk : (P0 ++ (be8 (m * 8)).take k).length = L + k := by rw [List.length_append, hLx, List.length_take]; simp [be8]; omega
              rw [hLk] at hrs
              have hLkb : L + k ≤ 1099511628010 := by omega
              generalize L + k = Lk at *
              subst hrs
              generalize hip : ((7 - k : Nat) : Int) = ip at *
              replace hip := Lib.hid hip
              go_wp2_with (at_builtin; (refine wpList_grownOpt T_bb rfl (.tmp 44) (.tmp 48) rfl (hO.out.alloc (.cells #[.int .u8 (Z : Int)] 5)) rfl rfl (Arr.one_byte (x := Z) (Blk.new _ 5 #[.int .u8 (Z : Int)])) hkB oneB (hG6.out.alloc (.cells #[.int .u8 (Z : Int)] 5)).size (by unfold maxLen; simp only [hLk]; omega) (by simp only [hLk]; omega) ?_; intro v7 w7 hO7 hby7 hv7; (have hG7 := Lib.hid ((hG6.out.alloc (.cells #[.int .u8 (Z : Int)] 5)).by_row hby7 hO.out.block_ge)); (replace hO7 := Lib.hid hO7); clear hv7 hby7))
              refine ⟨⟨k + 1, by omega, by omega, ?_⟩, ?_⟩
              · rw [htake.out, ← List.append_assoc]
                exact hO7
              · simp only [intOf]; omega
        · obtain rfl : k = 8 := by omega
          obtain ⟨e78, h78, h78'⟩ : ∃ e : Int, 7 - ((8 : Nat) : Int) = e ∧ ¬ (0 ≤ e) := ⟨_, rfl, by decide⟩
          rw [h78]
          replace h78 := Lib.hid h78
          have hN64 : m * 8 % 18446744073709551616 = m * 8 := by omega
          have hpad : P0 ++ (be8 (m * 8)).take 8 = bs ++ padOf m := by
            rw [List.take_of_length_le (by simp [be8]), ← hP.out]
            unfold padOf
            rw [hN64]
            simp
          obtain ⟨A2, c2, hrs, hnc, hcm, hAp, -⟩ := hO.out.apart (hB3.out.grows hG6.out) (by decide)
          rw [hpad] at hO hrs hnc hAp
          have hlm := pad_len m
          have hlx2 : (bs ++ padOf m).length % 64 = 0 := by rw [List.length_append]; omega
          have hlb : (bs ++ padOf m).length ≤ 1099511628010 := by rw [List.length_append]; omega
          have hbx : ∀ x ∈ bs ++ padOf m, x < 256 := by
            intro x hx
            rcases List.mem_append.1 hx with h | h
            · exact hb.out x h
            · unfold padOf at h
              rcases List.mem_cons.1 h with h | h
              · omega
              · rcases List.mem_append.1 h with h | h
                · have := List.eq_of_mem_replicate h; omega
                · exact be8_byte _ x h
          have hfin : sha bs = bytesV (blocks ((bs ++ padOf m).length / 64) startV (bs ++ padOf m)) := by
            rw [← hml]; rfl
          generalize bs ++ padOf m = XS at *
          clear hpad hlm hP hLx
          generalize hLX : XS.length = LX at *
          subst hrs
          replace hfin := Lib.hid hfin
          replace hbx := Lib.hid hbx
          replace hcm := Lib.hid hcm
          replace hAp := Lib.hid hAp
          replace hnc := Lib.hid hnc
          have hBq : Hid (Blk wr g3 117 (u32s (eightL (blocks 0 startV XS)))) := by
            have := hB3.out.grows hG6.out
            rw [← hSA.out] at this
            exact this
          have hlt43 : Hid (g3 < w4.heap.size) := hB3.out.lt
          have hby := Lib.hid (hG6.out.by_ (some g3))
          clear hG6
          go_wp2
          go_loopw [10] (fun i wx => ∃ q : Nat, 64 * q ≤ LX ∧ i = .int .i64 ((64 * q : Nat) : Int) ∧ Hid (Blk wx g3 117 (u32s (eightL (blocks q startV XS)))) ∧ Hid (BytesApart wx g3 A2 LX XS) ∧ Hid (w4.grownBy wx (some g3))) (fun i _ => LX - (intOf i).toNat)
          case atStart => exact ⟨0, by omega, rfl, hBq, hAp, hby⟩
          case round =>
            clear hBq hAp hby
            obtain ⟨q, hq, rfl, hBq, hAp, hby⟩ := hrel
            by_cases hql : 64 * q < LX
            · obtain ⟨b, off, rfl, hbl, hat⟩ := hAp.out.1.2 (by omega)
              have hVok := blocks_ok q XS startV_ok
              have hAr := ((hAp.out.drop (k := 64 * q) (by omega)).1.take (m := 64) (by omega))
              have hbs : ∀ x ∈ (XS.drop (64 * q)).take 64, x < 256 := fun x hx => hbx.out x (List.mem_of_mem_drop (List.mem_of_mem_take hx))
              have hsu := blocks_succ q startV XS
              have cR : ∀ W, Grows wr W → Calls Tryz.prog 67 #[.agg (u32s (eightL (blocks q startV XS))), .agg KA, .slice (some ⟨b, off + 64 * q, none⟩) 64 (c2 - 64 * q)] W fun e w' => e = .returned (.agg (u32s (eightL (blocks (q + 1) startV XS)))) ∧ Grows W w' := fun W hW => by
                rw [hsu, ← hKA.out]
                exact rround_any hVok W (hAr.keep hW) hbs
              clear hAr hbs hsu hVok hat
              have hs8 : (u32s (eightL (blocks q startV XS))).size = 8 := by rw [u32s_size]; rfl
              have ht8 : (u32s (eightL (blocks (q + 1) startV XS))).size = 8 := by rw [u32s_size]; rfl
              have hti := u32s_one (eightL (blocks (q + 1) startV XS))
              generalize hV1 : u32s (eightL (blocks (q + 1) startV XS)) = V1 at *
              generalize u32s (eightL (blocks q startV XS)) = V0 at *
              have hsi : (Tryz.prog.info? 117).map (·.size) = some V0.size := by rw [hs8]; kernel_rfl
              have hs1 : (Tryz.prog.info? 117).map (·.size) = some V1.size := by rw [ht8]; kernel_rfl
              have hold : V0.size = V1.size := by rw [hs8, ht8]
              have hKB := hB4.out.by_ hby.out (by have := hlt43.out; omega)
              have hc0 : ¬ (c2 = 64 * q) := by have := hnc.out; omega
              have hci : (64 * (q : Int)) < (LX : Int) := by omega
              have hcm2 := hcm.out
              have hnc2 := hnc.out
              replace hV1 := Lib.hid hV1
              replace cR := Lib.hid cR
              replace hs8 := Lib.hid hs8
              replace ht8 := Lib.hid ht8
              replace hsi := Lib.hid hsi
              replace hs1 := Lib.hid hs1
              replace hold := Lib.hid hold
              replace hti := Lib.hid hti
              replace hKB := Lib.hid hKB
              go_wp2_with fail
              refine wp_region_k (by kernel_rfl) ?_
              refine wpAnyK_run (l' := #[true, true, true, true, true, true, true, true, false]) [0, 1, 2, 3, 4, 5, 6, 7] 1 up_grows (by kernel_rfl) (by intro c a d v w h; first | (cases d <;> exact h) | exact hQ0 _ _ _ _ _ h) rfl (by kernel_rfl) (by kernel_rfl) ?_
              refine wpMixC_v (.agg V0) rfl (by first | rfl | (go_simp; done)) (fun wq hsq => ?_) ?_
              · exact exec_load_row 117 (.tmp 3) rfl g3 rfl 117 V0 _ (hBq.out.grows hsq) Tryz.underlying117 rfl hsi.out
              go_simp
              refine wpMixC_v (.agg KA) rfl (by first | rfl | (go_simp; done)) (fun wq hsq => ?_) ?_
              · exact exec_load_row 119 (.tmp 4) rfl (g3 + 1) rfl 119 KA _ (hKB.out.grows hsq) Tryz.underlying119 rfl i64.out
              go_simp
              iterate 5 (refine wpMixC_q rfl (fun K hK => ?_); go_simp; (try go_bits); first | (refine hK.out _ ?_; clear hK K) | (apply Exists.intro; refine ⟨fun wq hsq => ?_, hK.out _ ?_⟩; (first | (go_simp; done) | ((try go_simp); (try simp only [↓IntWalk.iteOmega]); (try go_bits); rfl) | (obtain ⟨hcq, hfq⟩ := bcells hsq; go_simp; done) | (obtain ⟨hcq, hfq⟩ := bcells hsq; (try go_simp); (try simp only [↓IntWalk.iteOmega]); (try go_bits); rfl)); clear hK K))
              refine wpMixC_c (.agg V1) rfl (by first | rfl | (go_simp; done)) (fun wq hsq => ?_) ?_
              · obtain ⟨hcq, hfq⟩ := bcells hsq
                go_simp
                exact Calls.mono (cR.out wq hsq) (fun e w'' h => h)
              go_simp
              refine wpMixC_nil ?_
              refine wpAnyK_last (i := 8) rfl (by kernel_rfl) (by kernel_rfl) (fun wN hN hS K' hK => ?_)
              clear hS
              have hB8 := hBq.out.grows hN
              have hby8 := grownBy_setRow wN g3 V1
              have hBn := Lib.hid (setRow_heap wN g3 _ V1 _ _ hB8 : Blk (wN.setRow g3 V1) g3 117 V1)
              have hApn : BytesApart wN g3 (some ⟨b, off, none⟩) LX XS := ⟨hAp.out.1.keep hN, hAp.out.2⟩
              replace hApn := Lib.hid (hApn.by_ hby8)
              have hbyn := Lib.hid ((hby.out.trans (hN.by_ _)).trans hby8)
              refine (if_pos (show _ = true from rfl)).mpr ?_
              refine wp_store_row 117 (.tmp 3) (.tmp 63) rfl g3 V1 rfl rfl 117 _ hB8 hs1.out hold.out hti.out ?_
              clear hBq hAp hby hby8 hB8 hN cR hKB
              generalize wN.setRow g3 V1 = w8 at *
              go_simp
              refine hK.out _ _ ?_
              clear hK
              go_wp2
              go_roundw
              case rel => exact ⟨q + 1, by omega, by go_num, by rw [hV1.out]; exact hBn, hApn, hbyn⟩
              case measure => simp [intOf]; omega
            · obtain rfl : q = LX / 64 := by omega
              have hqe : ((64 * (LX / 64) : Nat) : Int) = (LX : Int) := by omega
              rw [hqe]
              replace hqe := Lib.hid hqe
              have hGw := Lib.hid (hG.out.by_then hby.out hle3.out)
              have hRw := Lib.hid (hR.out.by_ hby.out (by have := hlt23.out; omega))
              clear hby hAp hG hR
              have hVok := blocks_ok (LX / 64) XS startV_ok
              generalize hV : blocks (LX / 64) startV XS = V at *
              replace hV := Lib.hid hV
              go_wp2
              refine named_alloc (Pr := fun W => Code.wp _ _ _ _ W) (fun w8 hB6 hG6 => ?_)
              replace hB6 : Blk w8 wr.heap.size 83 (u8s (List.replicate 32 0)) := hB6.cast (by kernel_rfl)
              obtain ⟨g6, hg6⟩ : ∃ g6, g6 = wr.heap.size := ⟨_, rfl⟩
              have hltq := hBq.out.lt
              have hltr := hRw.out.lt
              rw [← hg6] at hB6 hltq hltr ⊢
              have hg61 : w.heap.size ≤ g6 := by rw [hg6]; exact hGw.out.size
              have hE6 := Lib.hid (hBq.out.grows hG6)
              have hR6 := Lib.hid (hRw.out.grows hG6)
              have hG7 := Lib.hid (hGw.out.trans hG6)
              clear hBq hRw hGw hG6 hg6
              replace hg61 := Lib.hid hg61
              replace hltq := Lib.hid hltq
              replace hltr := Lib.hid hltr
              have hDat := fun k hk => bytesV_at V (k := k) hk
              have hWd := fun k => getD_Wd hVok k
              have hDl := bytesV_len V
              have hel := eightL_len V
              generalize hD : bytesV V = D at *
              generalize eightL V = EV at *
              have hZl : (List.replicate 32 0 : List Nat).length = 32 := List.length_replicate
              generalize hZZ : (List.replicate 32 0 : List Nat) = Z at *
              have hln : D.length = Z.length := by omega
              have hzat : ∀ k, k < 32 → (D.take k ++ Z.drop k).length = 32 := fun k hk => by rw [turned_len hln (by omega)]; exact hDl
              have hB0 : Hid (Blk w8 g6 83 (u8s (D.take 0 ++ Z.drop 0))) := hB6
              replace hD := Lib.hid hD
              replace hZZ := Lib.hid hZZ
              replace hDat := Lib.hid hDat
              replace hzat := Lib.hid hzat
              replace hWd := Lib.hid hWd
              clear hB6 hVok
              go_loopw [12] (fun i wx => ∃ k : Nat, k ≤ 32 ∧ i = .int .i64 k ∧ Hid (Blk wx g6 83 (u8s (D.take k ++ Z.drop k))) ∧ Hid (Blk wx g3 117 (u32s EV)) ∧ Hid (Blk wx g2 83 (u8s Z)) ∧ Hid (Grows w wx)) (fun i _ => 32 - (intOf i).toNat)
              case atStart => exact ⟨0, by omega, rfl, hB0, hE6, hR6, hG7⟩
              case round =>
                clear hB0 hE6 hR6 hG7
                obtain ⟨k, hk, rfl, hB, hE, hR, hG⟩ := hrel
                by_cases hlt : k < 32
                · have hx := hDat.out k hlt
                  have hWb := hWd.out (k / 4)
                  have e1 := (hE.out.cell (k / 4)).trans (u32s_at (by rw [hel]; omega))
                  have z1 := hE.out.lt
                  have hki : (k : Int) < 32 := by omega
                  generalize EV.getD (k / 4) 0 = W at *
                  replace hx := Lib.hid hx
                  replace hWb := Lib.hid hWb
                  have hk4 : k % 4 < 4 := Nat.mod_lt _ (by decide)
                  go_wp2
                  go_loopw [13, 14] (fun n i wx => ∃ t : Nat, t ≤ 3 - k % 4 ∧ i = .int .i64 (3 - (t : Int)) ∧ n = .int .u32 ((W / 256 ^ t : Nat) : Int) ∧ wx = wr) (fun _ i _ => (intOf i).toNat)
                  case atStart => exact ⟨0, by omega, rfl, by simp, rfl⟩
                  case round =>
                    obtain ⟨t, ht, rfl, rfl, rfl⟩ := hrel
                    by_cases htk : t < 3 - k % 4
                    · have hdv : W / 256 ^ (t + 1) = W / 256 ^ t / 256 := by rw [Nat.pow_succ, Nat.div_div_eq_div_mul]
                      have htk2 : (k : Int) % 4 < 3 - (t : Int) := by omega
                      have hYb : W / 256 ^ (t + 1) ≤ W := Nat.div_le_self _ _
                      have hWl := hWb.out.lt
                      generalize hY : W / 256 ^ (t + 1) = Y at *
                      generalize W / 256 ^ t = X at *
                      have hdi : (X : Int) / 256 = ((Y : Nat) : Int) := by rw [hdv]; omega
                      have hwr : IntKind.u32.wrap (Y : Int) = (Y : Int) := by rw [IntKind.wrap_u32]; omega
                      replace hdv := Lib.hid hdv
                      replace hY := Lib.hid hY
                      clear hYb hWl
                      go_wp2
                      go_roundw
                      case rel => exact ⟨t + 1, by omega, by go_num, by rw [hY.out], trivial⟩
                      case measure => simp only [intOf]; omega
                    · obtain rfl : t = 3 - k % 4 := by omega
                      have htk2 : ¬ ((k : Int) % 4 < 3 - ((3 - k % 4 : Nat) : Int)) := by omega
                      have hpw : 256 ^ (3 - k % 4) = 2 ^ (24 - 8 * (k % 4)) := by
                        rw [show (256 : Nat) = 2 ^ 8 from rfl, ← Nat.pow_mul, show 8 * (3 - k % 4) = 24 - 8 * (k % 4) by omega]
                      have hval : ((W / 256 ^ (3 - k % 4) : Nat) : Int) % 256 = ((D.getD k 0 : Nat) : Int) := by
                        rw [hx.out, hpw]; omega
                      have f6 := hB.out.frozen k
                      have z6 := hB.out.lt
                      have e6 := (hB.out.cell k).trans (u8s_at (by rw [hzat.out k hlt]; exact hlt))
                      have hset := turned_set hln (k := k) (by omega)
                      have hSn := fun x => u8s_set (D.take k ++ Z.drop k) k x
                      generalize W / 256 ^ (3 - k % 4) = Y at *
                      generalize D.getD k 0 = X at *
                      clear hpw
                      generalize hip : ((3 - k % 4 : Nat) : Int) = ip at *
                      replace hip := Lib.hid hip
                      have hB2' := hB.out.set_ k (.int .u8 (X : Int))
                      rw [hSn, hset] at hB2'
                      have hE2' := hE.out.far (p := ⟨g6, k, none⟩) (by have := hltq.out; simp only; omega) (.int .u8 (X : Int))
                      have hR2' := hR.out.far (p := ⟨g6, k, none⟩) (by have := hltr.out; simp only; omega) (.int .u8 (X : Int))
                      have hG2' := hG.out.setCell (p := ⟨g6, k, none⟩) hg61.out (.int .u8 (X : Int))
                      replace hB2' := Lib.hid hB2'
                      replace hE2' := Lib.hid hE2'
                      replace hR2' := Lib.hid hR2'
                      replace hG2' := Lib.hid hG2'
                      clear hset hSn
                      go_wp2
                      go_roundw
                      case rel => exact ⟨k + 1, by omega, by go_num, hB2', hE2', hR2', hG2'⟩
                      case measure => simp [intOf]; omega
                · obtain rfl : k = 32 := by omega
                  have hB7 := hB.out
                  rw [List.take_of_length_le (by omega), List.drop_of_length_le (by omega), List.append_nil] at hB7
                  have hle2 : w.heap.size ≤ g2 := Nat.le_of_eq hg2.out.symm
                  have hGf := hG.out.by_then (grownBy_setRow wr g2 (u8s D)) hle2
                  have hRf := setRow_heap wr g2 _ (u8s D) _ _ hR.out
                  have hsz : (u8s D).size = 32 := by rw [u8s_size]; exact hDl
                  have hDsz : (Tryz.prog.info? 83).map (·.size) = some (u8s D).size := by rw [hsz]; kernel_rfl
                  have hold : (u8s Z).size = (u8s D).size := by rw [hsz, u8s_size]; omega
                  have h1 := u8s_one D
                  replace hB7 := Lib.hid hB7
                  replace hGf := Lib.hid hGf
                  replace hRf := Lib.hid hRf
                  replace hDsz := Lib.hid hDsz
                  replace hold := Lib.hid hold
                  replace h1 := Lib.hid h1
                  replace hsz := Lib.hid hsz
                  go_wp2_with (first | (refine wpList_load_row rfl 83 (.tmp 11) rfl g6 rfl 83 (u8s D) (0, 0) _ hB7.out Tryz.underlying83 rfl hDsz.out ?_) | (refine wpList_store_row rfl 83 (.tmp 2) (.tmp 85) rfl g2 (u8s D) rfl rfl 83 _ hR.out hDsz.out hold.out h1.out ?_))
                  rw [hfin.out]
                  exact bodyPost_ret (v := .agg (u8s D)) (results_cell_row (p := 2) (ty := 83) (by kernel_rfl) _ _ g2 83 (u8s D) (0, 0) _ rfl hRf.out Tryz.underlying83 rfl hDsz.out) rfl ⟨rfl, hGf.out⟩
end Go.Proofs.YtfoffneipdkdjaaGreatDoor
namespace Go.Proofs.YtfoffneipdkdjaaGreatDoor
open Go.RowKit

/-- What a key's bytes are, with so many fields. -/
def keyNums (R : List UInt8) (a : Int) (fs : List Fld) : List Nat := nums R ++ [0, (a % 256).toNat] ++ nums (fs.flatMap partBytes)
theorem keyNums_nil (R : List UInt8) (a : Int) : keyNums R a [] = nums R ++ [0, (a % 256).toNat] := by simp [keyNums, nums]
theorem keyNums_snoc (R : List UInt8) (a : Int) (fs : List Fld) (f : Fld) : keyNums R a (fs ++ [f]) = (((keyNums R a fs ++ nums f.n) ++ [61]) ++ nums f.v) ++ [0] := by
  simp [keyNums, partBytes, nums]
theorem keyNums_lt (R : List UInt8) (a : Int) (fs : List Fld) : ∀ x ∈ keyNums R a fs, x < 256 := by
  intro x hx
  unfold keyNums at hx
  simp only [List.mem_append, List.mem_cons, List.not_mem_nil, or_false] at hx
  rcases hx with (h | rfl | rfl) | h
  · exact nums_lt _ x h
  · omega
  · have := Int.emod_lt_of_pos a (show (0 : Int) < 256 by decide)
    have := Int.emod_nonneg a (show (256 : Int) ≠ 0 by decide)
    omega
  · exact nums_lt _ x h
theorem keyNums_len (R : List UInt8) (a : Int) (fs : List Fld) (h : ∀ f ∈ fs, f.n.length + f.v.length ≤ 1000) : (keyNums R a fs).length ≤ R.length + 2 + 1002 * fs.length := by
  have h2 : (fs.flatMap partBytes).length ≤ 1002 * fs.length := by
    induction fs with
    | nil => simp
    | cons f fs ih =>
      have h1 := h f (by simp)
      have h3 := ih (fun g hg => h g (by simp [hg]))
      simp only [List.flatMap_cons, List.length_append, List.length_cons]
      have : (partBytes f).length = f.n.length + f.v.length + 2 := by simp [partBytes]; omega
      omega
  simp only [keyNums, List.length_append, nums_len, List.length_cons, List.length_nil]
  omega
set_option maxRecDepth 100000 in
set_option maxHeartbeats 1600000 in
theorem rKey_any {R : List UInt8} {a : Int} {A : Option Addr} {m c : Nat} {fs : List Fld} (w : World) (hA : Arr w 2 encF A m fs) (hR : R.length ≤ 1000) (hm : m ≤ 100) (hf : ∀ f ∈ fs, f.n.length + f.v.length ≤ 1000) :
    Calls Tryz.prog 12 #[.string ⟨R.toArray⟩, .int .i64 a, .slice A m c] w fun e w' => e = .returned (.int .u64 ((shortTo (sha (keyNums R a fs)) 8 : Nat) : Int)) ∧ Grows w w' := by
  have hml := hA.1
  have hkl := fun k => keyNums_len R a (fs.take k) (fun f h => hf f (List.mem_of_mem_take h))
  have hkb : ∀ k, (keyNums R a (fs.take k)).length ≤ 200000 := fun k => by
    have h1 := hkl k
    have h2 : (fs.take k).length ≤ 100 := by rw [List.length_take]; omega
    omega
  have hb0 := Int.emod_nonneg a (show (256 : Int) ≠ 0 by decide)
  have ha : a % 256 = (((a % 256).toNat : Nat) : Int) := by omega
  generalize hB : (a % 256).toNat = B at ha
  replace hB := Lib.hid hB
  replace hA := Lib.hid hA
  replace hf := Lib.hid hf
  replace hkb := Lib.hid hkb
  clear hkl hb0
  go_enter Tryz.func12, Tryz.ntmps12
  go_wp2_with (first | (refine wpList_conv rfl (.tmp 12) rfl rfl (by rw [bsize]; omega) ?_; intro v1 w1 hO1 hG1; (replace hO1 := Lib.hid hO1); (replace hG1 := Lib.hid hG1)) | (at_builtin; (refine wpList_appB rfl (.tmp 13) (.tmp 16) rfl rfl rfl (hO1.out.alloc (.cells #[.int .u8 ((0 : Nat) : Int), .int .u8 (B : Int)] 5)) (Arr.bytes2 (Blk.new w1 5 _)) (hG1.out.alloc (.cells #[.int .u8 ((0 : Nat) : Int), .int .u8 (B : Int)] 5)).size (by rw [numsB_len, bsize]; omega) ?_; intro v2 w2 hO2 hby2; (have hG2 := Lib.hid ((hG1.out.alloc (.cells #[.int .u8 ((0 : Nat) : Int), .int .u8 (B : Int)] 5)).by_row hby2 hO1.out.block_ge)); (replace hO2 := Lib.hid hO2); clear hby2)))
  have hO0 : Hid (OwnB w2 w.heap.size v2 (keyNums R a (fs.take 0))) := by
    rw [List.take_zero, keyNums_nil, hB.out]
    exact hO2
  clear hO1 hG1 hO2
  go_loopw [7, 8] (fun b i wr => ∃ k : Nat, k ≤ m ∧ i = .int .i64 k ∧ Hid (OwnB wr w.heap.size b (keyNums R a (fs.take k))) ∧ Hid (Grows w wr)) (fun _ i _ => m - (intOf i).toNat)
  case atStart => exact ⟨0, by omega, rfl, hO0, hG2⟩
  case round =>
    clear hO0 hG2
    obtain ⟨k, hk, rfl, hO, hG⟩ := hrel
    by_cases hkm : k < m
    · obtain ⟨bb, off, f, rfl, hsx, hx, hcell⟩ := hA.out.at_ hkm
      have c0w : w.cell? ⟨bb, off + k * 2, none⟩ = some (.string ⟨f.n.toArray⟩) := by simpa using hcell 0 _ rfl
      have c1w : w.cell? ⟨bb, off + k * 2 + 1, none⟩ = some (.string ⟨f.v.toArray⟩) := by simpa using hcell 1 _ rfl
      have hfl := hf.out f (List.mem_of_getElem? hx)
      have hkk := hkb.out k
      have htk : fs.take (k + 1) = fs.take k ++ [f] := by rw [List.take_add_one, hx]; rfl
      have hsn := keyNums_snoc R a (fs.take k) f
      rw [← htk] at hsn
      have c0 := hG.out.cell c0w
      have hki : (k : Int) < (m : Int) := by omega
      replace c0w := Lib.hid c0w
      replace c1w := Lib.hid c1w
      replace hsn := Lib.hid hsn
      clear hcell hx htk
      go_wp2_with (at_builtin; first | (refine wpList_appS rfl (.tmp 24) (.tmp 29) rfl rfl rfl hO.out hG.out.size (by rw [bsize]; omega) ?_; intro v3 w3 hO3 hby3; (have hG3 := Lib.hid (hG.out.by_row hby3 hO.out.block_ge)); (replace hO3 := Lib.hid hO3); clear hby3) | (refine wpList_appB rfl (.tmp 30) (.tmp 31) rfl rfl rfl (hO3.out.alloc (.cells #[.int .u8 ((61 : Nat) : Int)] 5)) (Arr.one_byte (x := 61) (Blk.new w3 5 _)) (hG3.out.alloc (.cells #[.int .u8 ((61 : Nat) : Int)] 5)).size (by rw [List.length_append, numsB_len, bsize]; omega) ?_; intro v4 w4 hO4 hby4; (have hG4 := Lib.hid ((hG3.out.alloc (.cells #[.int .u8 ((61 : Nat) : Int)] 5)).by_row hby4 hO3.out.block_ge)); (replace hO4 := Lib.hid hO4); (have c1 := hG4.out.cell c1w.out); clear hby4) | (refine wpList_appS rfl (.tmp 33) (.tmp 38) rfl rfl rfl hO4.out hG4.out.size (by rw [List.length_append, List.length_append, numsB_len, bsize, bsize, List.length_singleton]; omega) ?_; intro v5 w5 hO5 hby5; (have hG5 := Lib.hid (hG4.out.by_row hby5 hO4.out.block_ge)); (replace hO5 := Lib.hid hO5); clear hby5) | (refine wpList_appB rfl (.tmp 39) (.tmp 40) rfl rfl rfl (hO5.out.alloc (.cells #[.int .u8 ((0 : Nat) : Int)] 5)) (Arr.one_byte (x := 0) (Blk.new w5 5 _)) (hG5.out.alloc (.cells #[.int .u8 ((0 : Nat) : Int)] 5)).size (by rw [List.length_append, List.length_append, List.length_append, numsB_len, numsB_len, bsize, bsize, List.length_singleton]; omega) ?_; intro v6 w6 hO6 hby6; (have hG6 := Lib.hid ((hG5.out.alloc (.cells #[.int .u8 ((0 : Nat) : Int)] 5)).by_row hby6 hO5.out.block_ge)); (replace hO6 := Lib.hid hO6); clear hby6))
      go_roundw
      case rel => exact ⟨k + 1, by omega, by go_num, by rw [hsn.out]; exact hO6, hG6⟩
      case measure => simp [intOf]; omega
    · obtain rfl : k = m := by omega
      have hO7 := hO.out
      rw [List.take_of_length_le (by omega)] at hO7
      obtain ⟨A7, c7, rfl, hnc, hcm, hAr⟩ := hO7.arr
      have hkk := hkb.out fs.length
      rw [List.take_length] at hkk
      have cOf := rof_any (c := c7) wr hAr (keyNums_lt R a fs) (by omega)
      have hDl := bytesV_len (shaV (keyNums R a fs))
      have hDb : ∀ x ∈ sha (keyNums R a fs), x < 256 := fun x hx => by
        unfold sha bytesV at hx
        simp only [List.mem_flatMap] at hx
        obtain ⟨y, _, hy⟩ := hx
        simp only [List.mem_cons, List.not_mem_nil, or_false] at hy
        rcases hy with rfl | rfl | rfl | rfl <;> exact Nat.mod_lt _ (by decide)
      rw [show bytesV (shaV (keyNums R a fs)) = sha (keyNums R a fs) from rfl] at hDl
      generalize hDD : sha (keyNums R a fs) = D at *
      replace hDD := Lib.hid hDD
      replace cOf := Lib.hid cOf
      replace hDb := Lib.hid hDb
      clear hO hO7 hkk hnc hcm hAr hA hf hkb
      go_wp2_with fail
      refine (cOf.out).mono ?_
      rintro e w8 ⟨rfl, hb8⟩
      have hG8 := Lib.hid (hG.out.trans hb8)
      clear cOf hb8 hG
      go_wp2_with (refine wpList_store_row rfl 83 (.tmp 9) (.tmp 43) rfl w8.heap.size (u8s D) rfl rfl 83 _ (Blk.new w8 _ _) (by rw [u8s_size, hDl]; kernel_rfl) (by rw [u8s_size, hDl]; rfl) (u8s_one D) ?_)
      rw [World.setRow_alloc_new]
      have hB : Blk (w8.alloc (.cells (u8s D) 83)) w8.heap.size 83 (u8s D) := Blk.new w8 _ _
      have hgr : Grows w (w8.alloc (.cells (u8s D) 83)) := hG8.out.alloc _
      have hw1 := hB.lt
      generalize w8.alloc (.cells (u8s D) 83) = w9 at *
      generalize w8.heap.size = g at *
      clear hG8
      have hc : ∀ i, i < 8 → w9.cell? ⟨g, i, none⟩ = some (.int .u8 ((D.getD i 0 : Nat) : Int)) := fun i hi => (hB.cell i).trans (u8s_at (by omega))
      replace hc := Lib.hid hc
      replace hB := Lib.hid hB
      go_wp2
      go_loopw [10, 11] (fun n i wr => ∃ k : Nat, k ≤ 8 ∧ i = .int .i64 k ∧ n = .int .u64 ((shortTo D k : Nat) : Int) ∧ wr = w9) (fun _ i _ => 8 - (intOf i).toNat)
      case atStart => exact ⟨0, by omega, rfl, rfl, rfl⟩
      case round =>
        obtain ⟨k, hk, rfl, rfl, rfl⟩ := hrel
        by_cases hlt : k < 8
        · have c0 := hc.out k hlt
          have hx := getD_small hDb.out k
          have hs := shortTo_succ D k
          have hn : shortTo D k * 256 + D.getD k 0 < 18446744073709551616 := by
            have h1 := shortTo_lt hDb.out (k + 1)
            rw [hs] at h1
            exact Nat.lt_of_lt_of_le h1 (Nat.le_trans (Nat.pow_le_pow_right (n := 256) (by decide) (by omega : k + 1 ≤ 8)) (by decide))
          generalize D.getD k 0 = x at *
          generalize shortTo D k = n at *
          have hv : ((n : Int) * 256 + (x : Int)) % 18446744073709551616 = ((n * 256 + x : Nat) : Int) := by omega
          replace hs := Lib.hid hs
          clear hn hx
          go_wp2
          go_roundw
          case rel => exact ⟨k + 1, by omega, by go_num, by rw [hs.out, Int.natCast_add, Int.natCast_mul]; rfl, trivial⟩
          case measure => simp [intOf]; omega
        · obtain rfl : k = 8 := by omega
          go_wp2
          go_ret
          rw [hDD.out]
          exact ⟨rfl, hgr⟩
end Go.Proofs.YtfoffneipdkdjaaGreatDoor
namespace Go.Proofs.YtfoffneipdkdjaaGreatDoor
open Go.RowKit

theorem Arr.of_blk {α : Type} {w : World} {g : Nat} {t : TypeId} {enc : α → List Value} {e1 : α → Value} (he : ∀ x, enc x = [e1 x]) {bs : List α} (h : Blk w g t (bs.map e1).toArray) : Arr w 1 enc (some ⟨g, 0, none⟩) bs.length bs := by
  refine ⟨rfl, fun _ => ⟨g, 0, rfl, h.lt, fun i hi j u hu => ?_⟩⟩
  rw [he] at hu
  have hj : j = 0 := by have := (List.getElem?_eq_some_iff.1 hu).1; simp at this; omega
  subst hj
  rw [h.cell]
  simp only [List.getElem?_cons_zero, Option.some.injEq] at hu
  simp [hi, ← hu]
set_option maxRecDepth 100000 in
set_option maxHeartbeats 1600000 in
theorem bytesOf_any {R : List UInt8} {a : Int} {A : Option Addr} {m c : Nat} {fs : List Fld} (w : World) (hA : Arr w 2 encF A m fs) (hR : R.length ≤ 1000) (hm : m ≤ 100) (hf : ∀ f ∈ fs, f.n.length + f.v.length ≤ 1000) :
    Calls Tryz.prog 32 #[.string ⟨R.toArray⟩, .int .i64 a, .slice A m c] w fun e w' => ∃ v, e = .returned v ∧ OwnB w' w.heap.size v (keyNums R a fs) ∧ Grows w w' := by
  have hml := hA.1
  have hkl := fun k => keyNums_len R a (fs.take k) (fun f h => hf f (List.mem_of_mem_take h))
  have hkb : ∀ k, (keyNums R a (fs.take k)).length ≤ 200000 := fun k => by
    have h1 := hkl k
    have h2 : (fs.take k).length ≤ 100 := by rw [List.length_take]; omega
    omega
  have hb0 := Int.emod_nonneg a (show (256 : Int) ≠ 0 by decide)
  have ha : a % 256 = (((a % 256).toNat : Nat) : Int) := by omega
  generalize hB : (a % 256).toNat = B at ha
  replace hB := Lib.hid hB
  replace hA := Lib.hid hA
  replace hf := Lib.hid hf
  replace hkb := Lib.hid hkb
  clear hkl hb0
  go_enter Tryz.func32, Tryz.ntmps32
  go_wp2_with (first | (refine wpList_conv rfl (.tmp 10) rfl rfl (by rw [bsize]; omega) ?_; intro v1 w1 hO1 hG1; (replace hO1 := Lib.hid hO1); (replace hG1 := Lib.hid hG1)) | (at_builtin; (refine wpList_appB rfl (.tmp 11) (.tmp 14) rfl rfl rfl (hO1.out.alloc (.cells #[.int .u8 ((0 : Nat) : Int), .int .u8 (B : Int)] 5)) (Arr.bytes2 (Blk.new w1 5 _)) (hG1.out.alloc (.cells #[.int .u8 ((0 : Nat) : Int), .int .u8 (B : Int)] 5)).size (by rw [numsB_len, bsize]; omega) ?_; intro v2 w2 hO2 hby2; (have hG2 := Lib.hid ((hG1.out.alloc (.cells #[.int .u8 ((0 : Nat) : Int), .int .u8 (B : Int)] 5)).by_row hby2 hO1.out.block_ge)); (replace hO2 := Lib.hid hO2); clear hby2)))
  have hO0 : Hid (OwnB w2 w.heap.size v2 (keyNums R a (fs.take 0))) := by
    rw [List.take_zero, keyNums_nil, hB.out]
    exact hO2
  clear hO1 hG1 hO2
  go_loopw [7, 18] (fun b i wr => ∃ k : Nat, k ≤ m ∧ i = .int .i64 k ∧ Hid (OwnB wr w.heap.size b (keyNums R a (fs.take k))) ∧ Hid (Grows w wr)) (fun _ i _ => m - (intOf i).toNat)
  case atStart => exact ⟨0, by omega, rfl, hO0, hG2⟩
  case round =>
    clear hO0 hG2
    obtain ⟨k, hk, rfl, hO, hG⟩ := hrel
    by_cases hkm : k < m
    · obtain ⟨bb, off, f, rfl, hsx, hx, hcell⟩ := (hA.out.keep hG.out).at_ hkm
      have c0 : wr.cell? ⟨bb, off + k * 2, none⟩ = some (.string ⟨f.n.toArray⟩) := by simpa using hcell 0 _ rfl
      have c1 : wr.cell? ⟨bb, off + k * 2 + 1, none⟩ = some (.string ⟨f.v.toArray⟩) := by simpa using hcell 1 _ rfl
      have hfl := hf.out f (List.mem_of_getElem? hx)
      have hkk := hkb.out k
      have hkk2 := hkb.out (k + 1)
      have htk : fs.take (k + 1) = fs.take k ++ [f] := by rw [List.take_add_one, hx]; rfl
      have hsn := keyNums_snoc R a (fs.take k) f
      rw [← htk] at hsn
      have hki : (k : Int) < (m : Int) := by omega
      obtain ⟨A0, c0', hv0, hn0, hm0, hA0⟩ := hO.out.arr
      generalize hN0 : (keyNums R a (fs.take k)).length = N0 at *
      subst hv0
      replace hsn := Lib.hid hsn
      replace hA0 := Lib.hid hA0
      clear hcell hx htk
      go_wp2_with (first | (refine wpList_conv rfl (.tmp 24) rfl rfl (by rw [bsize]; omega) ?_; intro v3 w3 hO3 hG3; (obtain ⟨A3, c3, hv3, _, _, hA3⟩ := hO3.arr); (rw [numsB_len, bsize] at hv3 hA3); subst hv3; (replace hA3 := Lib.hid hA3); (have b9 := (Blk.new wr 76 #[.string ⟨f.n.toArray⟩, .string ⟨f.v.toArray⟩]).grows hG3); (have d1 : w3.cell? ⟨wr.heap.size, 1, none⟩ = some (.string ⟨f.v.toArray⟩) := b9.cell 1); (have z1 := b9.lt); (replace hG3 := Lib.hid hG3); clear hO3 b9) | (refine wpList_conv rfl (.tmp 28) rfl rfl (by rw [bsize]; omega) ?_; intro v5 w5 hO5 hG5; (obtain ⟨A5, c5, hv5, _, _, hA5⟩ := hO5.arr); (rw [numsB_len, bsize] at hv5 hA5); subst hv5; (replace hA5 := Lib.hid hA5); (replace hG5 := Lib.hid hG5); clear hO5))
      have g3 : Grows wr w3 := ((Grows.refl wr).alloc _).trans hG3.out
      have g5 : Grows w3 w5 := ((Grows.refl w3).alloc _).trans hG5.out
      have gW : Grows w5 ((w5.alloc (.cells #[.int .u8 0] 5)).alloc (.cells #[.slice A0 N0 c0', .slice A3 f.n.length c3, .slice (some ⟨w3.heap.size, 0, none⟩) 1 1, .slice A5 f.v.length c5, .slice (some ⟨w5.heap.size, 0, none⟩) 1 1] 81)) := ((Grows.refl w5).alloc _).alloc _
      have hct : catL [⟨A0, N0, c0', keyNums R a (fs.take k)⟩, ⟨A3, f.n.length, c3, numsB ⟨f.n.toArray⟩⟩, ⟨some ⟨w3.heap.size, 0, none⟩, 1, 1, [61]⟩, ⟨A5, f.v.length, c5, numsB ⟨f.v.toArray⟩⟩, ⟨some ⟨w5.heap.size, 0, none⟩, 1, 1, [0]⟩] = keyNums R a (fs.take (k + 1)) := by
        rw [hsn.out, numsB_nums, numsB_nums]
        simp [catL]
      have h61 : Arr w5 1 encB (some ⟨w3.heap.size, 0, none⟩) 1 [61] := (Arr.one_byte (x := 61) (Blk.new w3 5 #[.int .u8 ((61 : Nat) : Int)])).keep hG5.out
      have h00 : Arr (w5.alloc (.cells #[.int .u8 0] 5)) 1 encB (some ⟨w5.heap.size, 0, none⟩) 1 [0] := Arr.one_byte (x := 0) (Blk.new w5 5 #[.int .u8 ((0 : Nat) : Int)])
      refine (concatB_any (L := 5) (c := 5) (A := some ⟨w5.heap.size + 1, 0, none⟩) (bs := [⟨A0, N0, c0', keyNums R a (fs.take k)⟩, ⟨A3, f.n.length, c3, numsB ⟨f.n.toArray⟩⟩, ⟨some ⟨w3.heap.size, 0, none⟩, 1, 1, [61]⟩, ⟨A5, f.v.length, c5, numsB ⟨f.v.toArray⟩⟩, ⟨some ⟨w5.heap.size, 0, none⟩, 1, 1, [0]⟩]) _ (Arr.of_blk (e1 := fun (b : Bsl) => Value.slice b.A b.n b.c) (fun _ => rfl) (Blk.new1 w5 _ _ _)) ?_ (by rw [hct]; omega) (by omega)).mono ?_
      · intro b hb
        simp only [List.mem_cons, List.not_mem_nil, or_false] at hb
        rcases hb with rfl | rfl | rfl | rfl | rfl
        · exact hA0.out.keep (g3.trans (g5.trans gW))
        · exact hA3.out.keep (g5.trans gW)
        · exact h61.keep gW
        · exact hA5.out.keep gW
        · exact h00.keep ((Grows.refl _).alloc _)
      rintro e w8 ⟨v8, rfl, hO8, hG8⟩
      rw [hct] at hO8
      have hG9 := hG.out.trans (g3.trans (g5.trans (gW.trans hG8)))
      have hO9 := Lib.hid (hO8.base_le (base' := w.heap.size) (hG.out.trans (g3.trans (g5.trans gW))).size)
      replace hG9 := Lib.hid hG9
      clear hO8 hG8 h61 h00 gW g5 g3 hct
      go_wp2
      go_roundw
      case rel => exact ⟨k + 1, by omega, by go_num, hO9, hG9⟩
      case measure => simp [intOf]; omega
    · obtain rfl : k = m := by omega
      have hO7 := hO.out
      rw [List.take_of_length_le (by omega)] at hO7
      go_wp2
      go_ret
      exact ⟨_, rfl, hO7, hG.out⟩
set_option maxRecDepth 100000 in
theorem key_any {R : List UInt8} {a : Int} {A : Option Addr} {m c : Nat} {fs : List Fld} (w : World) (hA : Arr w 2 encF A m fs) (hR : R.length ≤ 1000) (hm : m ≤ 100) (hf : ∀ f ∈ fs, f.n.length + f.v.length ≤ 1000) :
    Calls Tryz.prog 11 #[.string ⟨R.toArray⟩, .int .i64 a, .slice A m c] w fun e w' => e = .returned (.int .u64 ((shortTo (sha (keyNums R a fs)) 8 : Nat) : Int)) ∧ Grows w w' := by
  have hkl := keyNums_len R a fs hf
  have hml := hA.1
  have cB := bytesOf_any (c := c) (a := a) w hA hR hm hf
  replace cB := Lib.hid cB
  replace hf := Lib.hid hf
  replace hkl := Lib.hid hkl
  go_enter Tryz.func11, Tryz.ntmps11
  go_wp2_with fail
  refine (cB.out).mono ?_
  rintro e w1 ⟨v, rfl, hO, hG⟩
  obtain ⟨A1, c1, rfl, _, _, hA1⟩ := hO.arr
  have cS := short_any (c := c1) w1 hA1 (keyNums_lt R a fs) (by have := hkl.out; omega)
  generalize hD : shortTo (sha (keyNums R a fs)) 8 = D at *
  replace hD := Lib.hid hD
  replace cS := Lib.hid cS
  replace hG := Lib.hid hG
  clear hO hA1
  go_wp2_with fail
  refine (cS.out).mono ?_
  rintro e w2 ⟨rfl, hG2⟩
  go_wp2
  go_ret
  rw [hD.out]
  exact ⟨rfl, hG.out.trans hG2⟩
end Go.Proofs.YtfoffneipdkdjaaGreatDoor
namespace Go.Proofs.YtfoffneipdkdjaaGreatDoor
open Go.RowKit

set_option maxRecDepth 100000 in
set_option maxHeartbeats 3200000 in
theorem rkeys_of {R : List UInt8} {a : Int} {A : Option Addr} {m c : Nat} {fs : List Fld} (w : World) (cL : Calls Tryz.prog 9 #[] w fun e w' => e = .returned (.bool true) ∧ Grows w w')
    (hR : R.length ≤ 9223372036854775807) (hA : Arr w 2 encF A m fs) (hm : m ≤ 9223372036854775807) (hf : ∀ f ∈ fs, f.n.length ≤ 9223372036854775807 ∧ f.v.length ≤ 9223372036854775807) :
    Calls Tryz.prog 3 #[.string ⟨R.toArray⟩, .int .i64 a, .slice A m c] w fun e w' => e = .returned (.bool true) ∧ Grows w w' := by
  have hcut : (⟨R.toArray⟩ : ByteArray).extract 0 (min (R.length : Int) 50).toNat = ⟨(R.take 50).toArray⟩ := by
    rw [show (min (R.length : Int) 50).toNat = min R.length 50 by omega]
    apply ByteArray.ext
    simp [List.take_eq_take_min, Nat.min_comm]
  replace hcut := Lib.hid hcut
  replace cL := Lib.hid cL
  replace hA := Lib.hid hA
  replace hf := Lib.hid hf
  go_enter Tryz.func3, Tryz.ntmps3
  go_wp2_with fail
  refine (cL.out).mono ?_
  rintro e w1 ⟨rfl, hg1⟩
  have cG := rgood_any (c := c) w1 (hA.out.keep hg1) hm hf.out
  replace cG := Lib.hid cG
  replace hg1 := Lib.hid hg1
  clear cL hA hf
  go_wp2_with fail
  refine (cG.out).mono ?_
  rintro e w2 ⟨o, rfl, hO2, hg2⟩
  have hg := Lib.hid (hg1.out.trans hg2)
  obtain ⟨A2, c2, rfl, hc2, hcm2, hA2⟩ := hO2.arr hkF
  have hgi := fieldsB_info (goodL_right fs)
  have hR50 : (R.take 50).length ≤ 1000 := by rw [List.length_take]; omega
  have hfb : ∀ f ∈ goodL fs, f.n.length + f.v.length ≤ 1000 := fun f hf => by
    have h1 := (hgi.2 f hf)
    have h2 := nameB_len h1.1
    omega
  have cK := key_any (c := c2) (a := a) w2 hA2 hR50 (by have := hgi.1; omega) hfb
  have cR := fun W (hW : Grows w2 W) => rKey_any (c := c2) (a := a) W (hA2.keep hW) hR50 (by have := hgi.1; omega) hfb
  generalize shortTo (sha (keyNums (R.take 50) a (goodL fs))) 8 = D at *
  generalize (goodL fs).length = L at *
  replace cK := Lib.hid cK
  replace cR := Lib.hid cR
  clear hg1 cG hg2 hO2 hA2 hgi hfb hR50
  go_wp2_with fail
  rw [hcut.out]
  refine (cK.out).mono ?_
  rintro e w3 ⟨rfl, hg3⟩
  replace cR := Lib.hid (cR.out w3 hg3)
  have hg4 := Lib.hid (hg.out.trans hg3)
  clear hg cK hg3
  go_wp2_with fail
  refine (cR.out).mono ?_
  rintro e w5 ⟨rfl, hg5⟩
  have hg6 := Lib.hid (hg4.out.trans hg5)
  clear hg4 cR hg5
  go_wp2
  go_ret
  exact ⟨ret_bool (by simp), hg6.out⟩
end Go.Proofs.YtfoffneipdkdjaaGreatDoor
namespace Go.Proofs.YtfoffneipdkdjaaGreatDoor
open Go.RowKit Go.Maps Go.WideMaps

/-- What was written last at a key. -/
def lookL : List (List UInt8 × Lit) → List UInt8 → Option Lit
  | [], _ => none
  | x :: r, s => match lookL r s with
    | some d => some d
    | none => if x.1 = s then some x.2 else none
theorem lookL_cons (x : List UInt8 × Lit) (r : List (List UInt8 × Lit)) (s : List UInt8) : lookL (x :: r) s = match lookL r s with
    | some d => some d
    | none => if x.1 = s then some x.2 else none := rfl
def putAll (l : List (List UInt8 × Lit)) (m : DataW Unit) : DataW Unit := l.foldl (fun m x => m.put (.string x.1) (.lit x.2)) m
theorem putAll_isMap : ∀ (l : List (List UInt8 × Lit)) (m : DataW Unit), IsMap m → IsMap (putAll l m)
  | [], _, h => h
  | _ :: r, _, h => putAll_isMap r _ (h.put _ _)
theorem isKey_str (s : List UInt8) : WideAt.IsKeyLit (.string s) := by first | trivial | simp [WideAt.IsKeyLit] | exact ⟨⟩
theorem putAll_at (z : DataW Unit) (s : List UInt8) : ∀ (l : List (List UInt8 × Lit)) (m : DataW Unit), IsMap m → (putAll l m).atKey (.string s) z = (match lookL l s with | some d => .lit d | none => m.atKey (.string s) z)
  | [], _, _ => rfl
  | x :: r, m, h => by
    show (putAll r (m.put (.string x.1) (.lit x.2))).atKey (.string s) z = _
    rw [putAll_at z s r _ (h.put _ _)]
    rw [lookL_cons]
    cases lookL r s with
    | some d => rfl
    | none =>
      by_cases he : x.1 = s
      · subst he
        simp only [if_true]
        exact atKey_put_same h (isKey_str _) _ _
      · simp only [he, if_false]
        exact atKey_put_other (fun e => he (by injection e with e; exact e.symm)) _ _
theorem putAll_has (s : List UInt8) : ∀ (l : List (List UInt8 × Lit)) (m : DataW Unit), IsMap m → Maps.has (putAll l m) (.string s) = ((lookL l s).isSome || Maps.has m (.string s))
  | [], _, _ => rfl
  | x :: r, m, h => by
    show Maps.has (putAll r (m.put (.string x.1) (.lit x.2))) (.string s) = _
    rw [putAll_has s r _ (h.put _ _)]
    rw [lookL_cons]
    cases lookL r s with
    | some d => rfl
    | none =>
      by_cases he : x.1 = s
      · subst he
        simp only [if_true]
        rw [has_put_same h (isKey_str _)]
        rfl
      · simp only [he, if_false]
        rw [has_put_other (fun e => he (by injection e with e; exact e.symm))]
theorem lookL_snoc (s : List UInt8) (y : List UInt8 × Lit) : ∀ l : List (List UInt8 × Lit), lookL (l ++ [y]) s = if y.1 = s then some y.2 else lookL l s
  | [] => rfl
  | x :: r => by
    rw [List.cons_append, lookL_cons, lookL_cons, lookL_snoc s y r]
    by_cases he : y.1 = s
    · simp [he]
    · simp [he]
/-- Block b is a map, keyed by texts, in which l was written, in that row. -/
def MapL (P : Program) (k e : TypeId) (w : World) (b n : Nat) (l : List (List UInt8 × Lit)) : Prop := w.ownsMap (H := Unit) P k (plainElem P e) b n (putAll l (.map []))
section
variable {P : Program} {k e t : TypeId} {w : World} {b n : Nat} {l : List (List UInt8 × Lit)}
theorem MapL.made (w : World) (P : Program) (k e : TypeId) : MapL P k e (w.alloc (.map #[] 0)) w.heap.size 0 [] := World.ownsMap_made w P k _
theorem MapL.alloc (h : MapL P k e w b n l) (o : Obj) : MapL P k e (w.alloc o) b n l := World.ownsMap.alloc h o
theorem MapL.lt (h : MapL P k e w b n l) : b < w.heap.size := World.ownsMap.lt h
theorem MapL.kept {w' : World} {row : Option Nat} (h : MapL P k e w b n l) (hg : w.grownBy w' row) (hne : some b ≠ row) : MapL P k e w' b n l := World.ownsMap.kept h hg hne
theorem MapL.look_bool (h : MapL P k e w b n l) (hk : P.underlying k = some .string) (ht : P.underlying t = some (.map k e)) (he : P.underlying e = some .bool) (hz : (zeroValue e).run P w = .ok (.bool false) w) {s : List UInt8} (hs : s.length ≤ maxLen) {x : Bool} (hx : (lookL l s).getD (.bool false) = .bool x) :
    (Instr.lookup t (.map (some b)) (.string ⟨s.toArray⟩) false).run P w = .ok (.bool x) w := by
  obtain ⟨v, ps, hrun, hv⟩ := World.ownsMap.lookup h (string_keyed hk) ht hz (plainElem_bool he false) (key := .string ⟨s.toArray⟩) (kl := .string s) (by simpa using keyOf_string_mk hk (s := ⟨s.toArray⟩) (by simpa [ByteArray.size] using hs))
  rw [putAll_at _ _ _ _ isMap_empty] at hv
  have e1 : (match lookL l s with | some d => (DataW.lit d : DataW Unit) | none => (DataW.map [] : DataW Unit).atKey (.string s) (.lit (.bool false))) = .lit (.bool x) := by
    cases hl : lookL l s with
    | some d => rw [hl] at hx; simp only [Option.getD_some] at hx; rw [hx]
    | none => rw [hl] at hx; simp only [Option.getD_none] at hx; rw [← hx]; rfl
  rw [e1] at hv
  have : v = .bool x := by
    unfold plainElem at hv
    rw [he] at hv
    cases v <;> simp at hv
    rw [hv.1]
  rw [← this]
  exact hrun
theorem MapL.look_int (h : MapL P k e w b n l) (hk : P.underlying k = some .string) (ht : P.underlying t = some (.map k e)) (he : P.underlying e = some (.int .i64)) (hz : (zeroValue e).run P w = .ok (.int .i64 0) w) {s : List UInt8} (hs : s.length ≤ maxLen) {x : Int} (hx : (lookL l s).getD (.int .i64 0) = .int .i64 x) :
    (Instr.lookup t (.map (some b)) (.string ⟨s.toArray⟩) true).run P w = .ok (.tuple #[.int .i64 x, .bool (lookL l s).isSome]) w := by
  obtain ⟨v, ps, hrun, hv⟩ := World.ownsMap.look_ok h (string_keyed hk) ht hz (plainElem_int he (by decide)) (key := .string ⟨s.toArray⟩) (kl := .string s) (by simpa using keyOf_string_mk hk (s := ⟨s.toArray⟩) (by simpa [ByteArray.size] using hs))
  rw [putAll_at _ _ _ _ isMap_empty] at hv
  have e1 : (match lookL l s with | some d => (DataW.lit d : DataW Unit) | none => (DataW.map [] : DataW Unit).atKey (.string s) (.lit (.int .i64 0))) = .lit (.int .i64 x) := by
    cases hl : lookL l s with
    | some d => rw [hl] at hx; simp only [Option.getD_some] at hx; rw [hx]
    | none => rw [hl] at hx; simp only [Option.getD_none] at hx; rw [← hx]; rfl
  rw [e1] at hv
  obtain ⟨a, rfl, ha, _⟩ := plainElem_int_inv he hv
  have : x = a := by have := congrArg Prod.fst ha; simpa using this
  subst this
  rw [putAll_has _ _ _ isMap_empty] at hrun
  have e2 : ((lookL l s).isSome || Maps.has (DataW.map [] : DataW Unit) (.string s)) = (lookL l s).isSome := by
    have : Maps.has (DataW.map [] : DataW Unit) (.string s) = false := rfl
    rw [this, Bool.or_false]
  rw [e2] at hrun
  exact hrun
/-- A store, at the operation. -/
theorem wpList_putL {ops : Array Oper} {rest : List Oper} {o : Oper} {a : Act} {Q : Exit → Act → World → Prop} (h : MapL P k e w b n l)
    (hg : o.guard = none) (m x v : Operand) (hop : o.op = Op.mapUpdate t m x v) (hk : P.underlying k = some .string) (ht : P.underlying t = some (.map k e)) (hn : n < maxLen) (s : List UInt8) (hs : s.length ≤ maxLen) (val : Value) (d : Lit)
    (hm : a.eval m = .map (some b)) (hx : a.eval x = .string ⟨s.toArray⟩) (hv : a.eval v = val) (hd : plainElem (H := Unit) P e val = some (.lit d, []))
    (hK : ∀ w', MapL P k e w' b (n + 1) (l ++ [(s, d)]) → w.grownBy w' (some b) → wpList P ops Q rest (a.put o.dst undef) w') :
    wpList P ops Q (o :: rest) a w := by
  refine wpList_mapUpdate_own w hg m x v t hop k e (string_keyed hk) ht _ b n _ hm h hn _ _ (.string s) hx hv (by simpa using keyOf_string_mk hk (s := ⟨s.toArray⟩) (by simpa [ByteArray.size] using hs)) _ _ hd ?_
  intro w' h1 h2
  refine hK w' ?_ h2
  unfold MapL
  unfold putAll
  rw [List.foldl_append]
  exact h1
end
end Go.Proofs.YtfoffneipdkdjaaGreatDoor
namespace Go.Proofs.YtfoffneipdkdjaaGreatDoor
open Go.RowKit

/-- A closure that answers p of each element of l, in every later world. -/
def PredM {α : Type} (P : Program) (g : FuncId) (lb : Array Value) (val : α → Value) (p : α → Bool) (l : List α) (w : World) : Prop :=
  ∀ x ∈ l, ∀ (W : World), Grows w W → Calls P g (#[val x] ++ lb) W fun e w' => e = .returned (.bool (p x)) ∧ Grows W w'
/-- .. while blocks from B on are written. -/
def PredB {α : Type} (P : Program) (g : FuncId) (lb : Array Value) (val : α → Value) (p : α → Bool) (B : Nat) (l : List α) (w : World) : Prop :=
  ∀ x ∈ l, ∀ (W : World), Below B w W → Calls P g (#[val x] ++ lb) W fun e w' => e = .returned (.bool (p x)) ∧ Grows W w'
theorem Arr.nilOf {α : Type} {w : World} {k : Nat} {enc : α → List Value} {m : Nat} {l : List α} (h : Arr w k enc none m l) : l = [] ∧ m = 0 := by
  rcases Nat.eq_zero_or_pos m with h0 | h0
  · exact ⟨List.eq_nil_of_length_eq_zero (by rw [h.1, h0]), h0⟩
  · obtain ⟨b, off, e, _⟩ := h.2 h0; cases e
theorem filter_not_of_any {α : Type} {p : α → Bool} : ∀ {xs : List α}, xs.any p = false → (xs.filter fun x => !p x) = xs
  | [], _ => rfl
  | x :: r, h => by
    simp only [List.any_cons, Bool.or_eq_false_iff] at h
    simp [h.1, filter_not_of_any h.2]
theorem placeOf_spec {α : Type} (p : α → Bool) (xs : List α) : (placeOf p xs = -1 ∧ xs.any p = false) ∨ ∃ (i : Nat) (x : α), placeOf p xs = i ∧ xs[i]? = some x ∧ p x = true ∧ (xs.take i).any p = false := by
  unfold placeOf
  cases h : xs.findIdx? p with
  | none =>
    refine .inl ⟨rfl, ?_⟩
    rw [← Bool.not_eq_true, List.any_eq_true]
    rintro ⟨x, hx, hp⟩
    rw [List.findIdx?_eq_none_iff.1 h x hx] at hp; cases hp
  | some i =>
    obtain ⟨h1, h2, h3⟩ := List.findIdx?_eq_some_iff_getElem.1 h
    refine .inr ⟨i, xs[i], rfl, List.getElem?_eq_getElem h1, h2, ?_⟩
    rw [← Bool.not_eq_true, List.any_eq_true]
    rintro ⟨x, hx, hp⟩
    obtain ⟨j, hj, rfl⟩ := List.getElem_of_mem hx
    rw [List.getElem_take] at hp
    exact h3 j (by simp at hj; omega) hp

/-- The state of the sieve: of the first j elements those that stay stand in front. -/
structure Sieve {α : Type} (p : α → Bool) (xs ys : List α) (i j : Nat) : Prop where
  len : ys.length = xs.length
  lt : i < j
  le : j ≤ xs.length
  front : ys.take i = (xs.take j).filter fun x => !p x
  back : ys.drop j = xs.drop j
theorem Sieve.start {α : Type} {p : α → Bool} {xs : List α} {i : Nat} {x : α} (h1 : xs[i]? = some x) (h2 : p x = true) (h3 : (xs.take i).any p = false) : Sieve p xs xs i (i + 1) := by
  have hi : i < xs.length := (List.getElem?_eq_some_iff.1 h1).1
  refine ⟨rfl, by omega, by omega, ?_, rfl⟩
  rw [List.take_add_one, List.filter_append, filter_not_of_any h3, h1]
  simp [h2]
theorem Sieve.get {α : Type} {p : α → Bool} {xs ys : List α} {i j : Nat} (h : Sieve p xs ys i j) {x : α} (hx : xs[j]? = some x) : ys[j]? = some x := by
  have := congrArg (fun l => l[0]?) h.back
  simp only [List.getElem?_drop, Nat.add_zero] at this
  rw [this, hx]
theorem Sieve.drop_ {α : Type} {p : α → Bool} {xs ys : List α} {i j : Nat} (h : Sieve p xs ys i j) {x : α} (hx : xs[j]? = some x) (hp : p x = true) : Sieve p xs ys i (j + 1) := by
  have hj : j < xs.length := (List.getElem?_eq_some_iff.1 hx).1
  refine ⟨h.len, by have := h.lt; omega, by omega, ?_, ?_⟩
  · rw [List.take_add_one, List.filter_append, ← h.front, hx]; simp [hp]
  · have := congrArg (List.drop 1) h.back
    simpa [List.drop_drop] using this
theorem Sieve.keep_ {α : Type} {p : α → Bool} {xs ys : List α} {i j : Nat} (h : Sieve p xs ys i j) {x : α} (hx : xs[j]? = some x) (hp : p x = false) : Sieve p xs (ys.set i x) (i + 1) (j + 1) := by
  have hj : j < xs.length := (List.getElem?_eq_some_iff.1 hx).1
  have hlt := h.lt
  have hl := h.len
  refine ⟨by simp [hl], by omega, by omega, ?_, ?_⟩
  · rw [List.take_add_one, List.take_add_one, List.filter_append, ← h.front, hx, List.take_set_of_le (by omega), List.getElem?_set_self (by omega)]
    simp [hp]
  · rw [List.drop_set_of_lt (by omega)]
    have := congrArg (List.drop 1) h.back
    simpa [List.drop_drop] using this
end Go.Proofs.YtfoffneipdkdjaaGreatDoor
namespace Go.Proofs.YtfoffneipdkdjaaGreatDoor
open Go.RowKit

def encN (x : Nam) : List Value := [.string ⟨x.n.toArray⟩, .int .i64 x.l.lv, .int .u32 (x.l.c : Int)]
def valN (x : Nam) : Value := .agg #[.string ⟨x.n.toArray⟩, .int .i64 x.l.lv, .int .u32 (x.l.c : Int)]
theorem hkN (x : Nam) : (encN x).length = 3 := rfl
theorem oneN (x : Nam) : ∀ u ∈ encN x, u.oneCell' = true := by intro u hu; simp [encN] at hu; rcases hu with rfl | rfl | rfl <;> rfl
def encM (x : Mat) : List Value := [.string ⟨x.n.toArray⟩, .int .i64 x.op, .string ⟨x.v.toArray⟩]
def valM (x : Mat) : Value := .agg #[.string ⟨x.n.toArray⟩, .int .i64 x.op, .string ⟨x.v.toArray⟩]
theorem hkM (x : Mat) : (encM x).length = 3 := rfl
theorem oneM (x : Mat) : ∀ u ∈ encM x, u.oneCell' = true := by intro u hu; simp [encM] at hu; rcases hu with rfl | rfl | rfl <;> rfl
def valF (x : Fld) : Value := .agg #[.string ⟨x.n.toArray⟩, .string ⟨x.v.toArray⟩]
theorem T_F : SliceT Tryz.prog 22 76 2 32 := T_ff

/-- A list of named labels, where it lies. -/
structure NamsX where
  l : List Nam
  A : Option Addr
  m : Nat
  k : Nat
def NamsX.val (x : NamsX) : Value := .slice x.A x.m x.k
structure NamsX.At (x : NamsX) (w : World) : Prop where
  arr : Arr w 3 encN x.A x.m x.l
  le : x.m ≤ 9223372036854775807
  lab : ∀ y ∈ x.l, y.l.ok
  txt : ∀ y ∈ x.l, y.n.length ≤ 9223372036854775807
def encQ (x : NamsX) : List Value := [.slice x.A x.m x.k]
def valQ (x : NamsX) : Value := .slice x.A x.m x.k
/-- Matchers, where they lie. -/
structure RteX where
  r : Rte
  bA : Option Addr
  bm : Nat
  bk : Nat
  wA : Option Addr
  wm : Nat
  wk : Nat
structure RteX.At (x : RteX) (w : World) : Prop where
  by_ : Arr w 1 encS x.bA x.bm x.r.by_
  byle : x.bm ≤ 9223372036854775807
  bytxt : ∀ y ∈ x.r.by_, y.length ≤ 9223372036854775807
  wh : Arr w 3 encM x.wA x.wm x.r.wh
  whle : x.wm ≤ 9223372036854775807
def encR (x : RteX) : List Value := [.string ⟨x.r.r.toArray⟩, .slice x.bA x.bm x.bk, .int .i64 x.r.wait, .int .i64 x.r.every, .int .i64 x.r.again, .slice x.wA x.wm x.wk]
def valR (x : RteX) : Value := .agg #[.string ⟨x.r.r.toArray⟩, .slice x.bA x.bm x.bk, .int .i64 x.r.wait, .int .i64 x.r.every, .int .i64 x.r.again, .slice x.wA x.wm x.wk]
structure InhX where
  i : Inh
  bA : Option Addr
  bm : Nat
  bk : Nat
  fA : Option Addr
  fm : Nat
  fk : Nat
  wA : Option Addr
  wm : Nat
  wk : Nat
structure InhX.At (x : InhX) (w : World) : Prop where
  by_ : Arr w 1 encS x.bA x.bm x.i.by_
  byle : x.bm ≤ 9223372036854775807
  bytxt : ∀ y ∈ x.i.by_, y.length ≤ 9223372036854775807
  fr : Arr w 3 encM x.fA x.fm x.i.from_
  frle : x.fm ≤ 9223372036854775807
  wh : Arr w 3 encM x.wA x.wm x.i.wh
  whle : x.wm ≤ 9223372036854775807
  lab : x.i.l.ok
def encH (x : InhX) : List Value := [.slice x.bA x.bm x.bk, .int .i64 x.i.l.lv, .int .u32 (x.i.l.c : Int), .slice x.fA x.fm x.fk, .slice x.wA x.wm x.wk]
def valH (x : InhX) : Value := .agg #[.slice x.bA x.bm x.bk, .int .i64 x.i.l.lv, .int .u32 (x.i.l.c : Int), .slice x.fA x.fm x.fk, .slice x.wA x.wm x.wk]
/-- A policy, where it lies. -/
structure PolX where
  s : NamsX
  r : NamsX
  e : NamsX
  a : NamsX
  o : List RteX
  oA : Option Addr
  om : Nat
  ok : Nat
  i : List InhX
  iA : Option Addr
  im : Nat
  ik : Nat
def PolX.pol (x : PolX) : Pol := ⟨x.s.l, x.r.l, x.e.l, x.a.l, x.o.map (·.r), x.i.map (·.i)⟩
def PolX.cells (x : PolX) : List Value := [.slice x.s.A x.s.m x.s.k, .slice x.r.A x.r.m x.r.k, .slice x.e.A x.e.m x.e.k, .slice x.a.A x.a.m x.a.k, .slice x.oA x.om x.ok, .slice x.iA x.im x.ik]
def PolX.val (x : PolX) : Value := .agg #[.slice x.s.A x.s.m x.s.k, .slice x.r.A x.r.m x.r.k, .slice x.e.A x.e.m x.e.k, .slice x.a.A x.a.m x.a.k, .slice x.oA x.om x.ok, .slice x.iA x.im x.ik]
structure PolX.At (x : PolX) (w : World) : Prop where
  s : x.s.At w
  r : x.r.At w
  e : x.e.At w
  a : x.a.At w
  o : Arr w 6 encR x.oA x.om x.o
  ole : x.om ≤ 9223372036854775807
  oAt : ∀ y ∈ x.o, y.At w
  i : Arr w 5 encH x.iA x.im x.i
  ile : x.im ≤ 9223372036854775807
  iAt : ∀ y ∈ x.i, y.At w
theorem NamsX.At.keep {x : NamsX} {w w' : World} (h : x.At w) (hg : Grows w w') : x.At w' := ⟨h.arr.keep hg, h.le, h.lab, h.txt⟩
theorem RteX.At.keep {x : RteX} {w w' : World} (h : x.At w) (hg : Grows w w') : x.At w' := ⟨h.by_.keep hg, h.byle, h.bytxt, h.wh.keep hg, h.whle⟩
theorem InhX.At.keep {x : InhX} {w w' : World} (h : x.At w) (hg : Grows w w') : x.At w' := ⟨h.by_.keep hg, h.byle, h.bytxt, h.fr.keep hg, h.frle, h.wh.keep hg, h.whle, h.lab⟩
theorem PolX.At.keep {x : PolX} {w w' : World} (h : x.At w) (hg : Grows w w') : x.At w' := ⟨h.s.keep hg, h.r.keep hg, h.e.keep hg, h.a.keep hg, h.o.keep hg, h.ole, fun y hy => (h.oAt y hy).keep hg, h.i.keep hg, h.ile, fun y hy => (h.iAt y hy).keep hg⟩
/-- An alert, where it lies. -/
structure AlrX where
  a : Alr
  A : Option Addr
  m : Nat
  k : Nat
def encA (x : AlrX) : List Value := [.string ⟨x.a.src.toArray⟩, .slice x.A x.m x.k, .int .i64 x.a.l.lv, .int .u32 (x.a.l.c : Int), .int .i64 x.a.f, .int .i64 x.a.t]
def valA (x : AlrX) : Value := .agg #[.string ⟨x.a.src.toArray⟩, .slice x.A x.m x.k, .int .i64 x.a.l.lv, .int .u32 (x.a.l.c : Int), .int .i64 x.a.f, .int .i64 x.a.t]
structure AlrX.At (x : AlrX) (w : World) : Prop where
  arr : Arr w 2 encF x.A x.m x.a.fs
  le : x.m ≤ 1000
  lab : x.a.l.ok
theorem AlrX.At.keep {x : AlrX} {w w' : World} (h : x.At w) (hg : Grows w w') : x.At w' := ⟨h.arr.keep hg, h.le, h.lab⟩
/-- What the program answers for a matcher, alone: is it fine; does it fit fields. -/
def FineOK (fb : Mat → Bool) (x : Mat) : Prop := ∀ W : World, Calls Tryz.prog 109 #[valM x] W fun e w' => e = .returned (.bool (fb x)) ∧ Grows W w'
def FitsOK (ft : List Fld → Mat → Bool) (x : Mat) : Prop := ∀ (A : Option Addr) (m c : Nat) (l : List Fld) (W : World), Arr W 2 encF A m l → m ≤ 9223372036854775807 → Calls Tryz.prog 118 #[.slice A m c, valM x] W fun e w' => e = .returned (.bool (ft l x)) ∧ Grows W w'
end Go.Proofs.YtfoffneipdkdjaaGreatDoor
namespace Go.Proofs.YtfoffneipdkdjaaGreatDoor
open Go.RowKit

set_option maxRecDepth 100000 in
set_option maxHeartbeats 1600000 in
theorem idxQ_any (g : FuncId) (lb : Array Value) (eg : Enters Tryz.prog g) (p : NamsX → Bool) (A : Option Addr) (m c : Nat) (l : List NamsX) (w : World) (h : Arr w 1 encQ A m l) (hm : m ≤ 9223372036854775807) (hp : PredM Tryz.prog g lb valQ p l w) :
    Calls Tryz.prog 113 #[.slice A m c, .func (.func g) #[] lb] w fun e w' => e = .returned (.int .i64 (placeOf p l)) ∧ Grows w w' := by
  have hlen := h.1
  unfold Enters at eg
  obtain ⟨R, hR⟩ : ∃ R, R = placeOf p l := ⟨_, rfl⟩
  rw [← hR]
  replace hR := Lib.hid hR
  replace hp := Lib.hid hp
  replace h := Lib.hid h
  go_enter Tryz.func113, Tryz.ntmps113
  go_wp2
  go_loopw [5, 8] (fun _ i wr => ∃ k : Nat, k ≤ m ∧ i = .int .i64 k ∧ Hid (∀ j y, j < k → l[j]? = some y → p y = false) ∧ Hid (Grows w wr)) (fun _ i _ => m - (intOf i).toNat)
  case atStart => exact ⟨0, by omega, rfl, fun _ _ h => absurd h (by omega), Grows.refl _⟩
  case round =>
    obtain ⟨k, hk, rfl, hall, hg⟩ := hrel
    by_cases hlt : k < m
    · obtain ⟨b, off, x, rfl, _, hx, hcell⟩ := (h.out.keep hg.out).at_ hlt
      have c0 : wr.cell? ⟨b, off + k, none⟩ = some (.slice x.A x.m x.k) := by simpa using hcell 0 _ rfl
      have hki : (k : Int) < (m : Int) := by omega
      have cI := hp.out x (List.mem_of_getElem? hx) wr hg.out
      unfold valQ at cI
      cases hq : p x with
      | false =>
        rw [hq] at cI
        replace cI := Lib.hid cI
        have hnext := Lib.hid (show ∀ j y, j < k + 1 → l[j]? = some y → p y = false from fun j y hj hy => by
          by_cases hjk : j = k
          · subst hjk; rw [hx] at hy; rw [← Option.some.inj hy]; exact hq
          · exact hall.out j y (by omega) hy)
        clear hcell hq hx hall hR
        go_wp2_with fail
        refine (cI.out).mono ?_
        rintro e w1 ⟨rfl, hb⟩
        have hg1 := Lib.hid (hg.out.trans hb)
        go_wp2
        go_roundw
        case rel => exact ⟨k + 1, by omega, by go_num, hnext, hg1⟩
        case measure => simp [intOf]; omega
      | true =>
        rw [hq] at cI
        have hfin : Hid (R = (k : Int)) := Lib.hid (by rw [hR.out]; exact placeOf_hit hx hq hall.out)
        replace cI := Lib.hid cI
        clear hcell hq hx hall hR
        go_wp2_with fail
        refine (cI.out).mono ?_
        rintro e w1 ⟨rfl, hb⟩
        have hg1 := Lib.hid (hg.out.trans hb)
        go_wp2
        go_ret
        exact ⟨by rw [hfin.out]; rfl, hg1.out⟩
    · obtain rfl : k = m := by omega
      have hfin : Hid (R = -1) := Lib.hid (by rw [hR.out]; exact placeOf_miss fun j y hy => hall.out j y (by have := (List.getElem?_eq_some_iff.1 hy).1; omega) hy)
      clear hall hR
      go_wp2
      go_ret
      exact ⟨by rw [hfin.out]; rfl, hg.out⟩
set_option maxHeartbeats 400000 in
theorem conQ_any (g : FuncId) (lb : Array Value) (eg : Enters Tryz.prog g) (p : NamsX → Bool) (A : Option Addr) (m c : Nat) (l : List NamsX) (w : World) (h : Arr w 1 encQ A m l) (hm : m ≤ 9223372036854775807) (hp : PredM Tryz.prog g lb valQ p l w) :
    Calls Tryz.prog 77 #[.slice A m c, .func (.func g) #[] lb] w fun e w' => e = .returned (.bool (l.any p)) ∧ Grows w w' := by
  have cI := idxQ_any (c := c) g lb eg p A m l w h hm hp
  replace cI := Lib.hid cI
  have hfin := Lib.hid (placeOf_nonneg p l)
  clear h hp
  go_enter Tryz.func77, Tryz.ntmps77
  go_wp2_with fail
  refine cI.out.mono ?_
  rintro e w1 ⟨rfl, hb⟩
  go_wp2
  go_ret
  exact ⟨ret_bool hfin.out, hb⟩
end Go.Proofs.YtfoffneipdkdjaaGreatDoor
namespace Go.Proofs.YtfoffneipdkdjaaGreatDoor
open Go.RowKit

set_option maxRecDepth 100000 in
set_option maxHeartbeats 1600000 in
theorem idxM_any (g : FuncId) (lb : Array Value) (eg : Enters Tryz.prog g) (p : Mat → Bool) (A : Option Addr) (m c : Nat) (l : List Mat) (w : World) (h : Arr w 3 encM A m l) (hm : m ≤ 9223372036854775807) (hp : PredM Tryz.prog g lb valM p l w) :
    Calls Tryz.prog 135 #[.slice A m c, .func (.func g) #[] lb] w fun e w' => e = .returned (.int .i64 (placeOf p l)) ∧ Grows w w' := by
  have hlen := h.1
  unfold Enters at eg
  obtain ⟨R, hR⟩ : ∃ R, R = placeOf p l := ⟨_, rfl⟩
  rw [← hR]
  replace hR := Lib.hid hR
  replace hp := Lib.hid hp
  replace h := Lib.hid h
  go_enter Tryz.func135, Tryz.ntmps135
  go_wp2
  go_loopw [5, 8] (fun _ i wr => ∃ k : Nat, k ≤ m ∧ i = .int .i64 k ∧ Hid (∀ j y, j < k → l[j]? = some y → p y = false) ∧ Hid (Grows w wr)) (fun _ i _ => m - (intOf i).toNat)
  case atStart => exact ⟨0, by omega, rfl, fun _ _ h => absurd h (by omega), Grows.refl _⟩
  case round =>
    obtain ⟨k, hk, rfl, hall, hg⟩ := hrel
    by_cases hlt : k < m
    · obtain ⟨b, off, x, rfl, _, hx, hcell⟩ := (h.out.keep hg.out).at_ hlt
      have c0 : wr.cell? ⟨b, off + k * 3, none⟩ = some (.string ⟨x.n.toArray⟩) := hcell 0 _ rfl
      have c1 : wr.cell? ⟨b, off + k * 3 + 1, none⟩ = some (.int .i64 x.op) := hcell 1 _ rfl
      have c2 : wr.cell? ⟨b, off + k * 3 + 2, none⟩ = some (.string ⟨x.v.toArray⟩) := hcell 2 _ rfl
      have hki : (k : Int) < (m : Int) := by omega
      have cI := hp.out x (List.mem_of_getElem? hx) wr hg.out
      unfold valM at cI
      cases hq : p x with
      | false =>
        rw [hq] at cI
        replace cI := Lib.hid cI
        have hnext := Lib.hid (show ∀ j y, j < k + 1 → l[j]? = some y → p y = false from fun j y hj hy => by
          by_cases hjk : j = k
          · subst hjk; rw [hx] at hy; rw [← Option.some.inj hy]; exact hq
          · exact hall.out j y (by omega) hy)
        clear hcell hq hx hall hR
        go_wp2_with fail
        refine (cI.out).mono ?_
        rintro e w1 ⟨rfl, hb⟩
        have hg1 := Lib.hid (hg.out.trans hb)
        go_wp2
        go_roundw
        case rel => exact ⟨k + 1, by omega, by go_num, hnext, hg1⟩
        case measure => simp [intOf]; omega
      | true =>
        rw [hq] at cI
        have hfin : Hid (R = (k : Int)) := Lib.hid (by rw [hR.out]; exact placeOf_hit hx hq hall.out)
        replace cI := Lib.hid cI
        clear hcell hq hx hall hR
        go_wp2_with fail
        refine (cI.out).mono ?_
        rintro e w1 ⟨rfl, hb⟩
        have hg1 := Lib.hid (hg.out.trans hb)
        go_wp2
        go_ret
        exact ⟨by rw [hfin.out]; rfl, hg1.out⟩
    · obtain rfl : k = m := by omega
      have hfin : Hid (R = -1) := Lib.hid (by rw [hR.out]; exact placeOf_miss fun j y hy => hall.out j y (by have := (List.getElem?_eq_some_iff.1 hy).1; omega) hy)
      clear hall hR
      go_wp2
      go_ret
      exact ⟨by rw [hfin.out]; rfl, hg.out⟩
set_option maxHeartbeats 400000 in
theorem conM_any (g : FuncId) (lb : Array Value) (eg : Enters Tryz.prog g) (p : Mat → Bool) (A : Option Addr) (m c : Nat) (l : List Mat) (w : World) (h : Arr w 3 encM A m l) (hm : m ≤ 9223372036854775807) (hp : PredM Tryz.prog g lb valM p l w) :
    Calls Tryz.prog 112 #[.slice A m c, .func (.func g) #[] lb] w fun e w' => e = .returned (.bool (l.any p)) ∧ Grows w w' := by
  have cI := idxM_any (c := c) g lb eg p A m l w h hm hp
  replace cI := Lib.hid cI
  have hfin := Lib.hid (placeOf_nonneg p l)
  clear h hp
  go_enter Tryz.func112, Tryz.ntmps112
  go_wp2_with fail
  refine cI.out.mono ?_
  rintro e w1 ⟨rfl, hb⟩
  go_wp2
  go_ret
  exact ⟨ret_bool hfin.out, hb⟩
end Go.Proofs.YtfoffneipdkdjaaGreatDoor
