/- Parts: GrpD FldE GrpE GrpF LwC -/
import Derived.Test.YtfoffneipdkdjaaGreatDoorBs12
import Derived.Test.YtfoffneipdkdjaaGreatDoorBs4
import Derived.Test.YtfoffneipdkdjaaGreatDoorBs3
import Derived.Test.YtfoffneipdkdjaaGreatDoorBs5
import Derived.Test.YtfoffneipdkdjaaGreatDoorBs7
namespace Go.Proofs.YtfoffneipdkdjaaGreatDoor
open Go.RowKit Go.Maps

/-- The loops of a function's body, inner ones behind the outer one that they stand in. -/
def loopsIn : Code → List Code
  | .seq a b => loopsIn a ++ loopsIn b
  | .cond _ a b => loopsIn a ++ loopsIn b
  | .block _ c => loopsIn c
  | .scope c => loopsIn c
  | .loop c => .loop c :: loopsIn c
  | _ => []
def loopIn (f : Func) (n : Nat) : Code := ((f.body.map loopsIn).getD []).getD n .skip
def namesAt (p : Pol) (r : Nat) : List (List UInt8) := ((p.routes[r]?).map (·.by_)).getD []
theorem namesAt_of {p : PolX} {r : Nat} {x : RteX} (h : p.o[r]? = some x) : namesAt p.pol r = x.r.by_ := by
  unfold namesAt
  rw [show p.pol.routes = p.o.map (·.r) from rfl, List.getElem?_map, h]
  rfl
theorem pickF_sub {l : List Fld} {n : List (List UInt8)} : (pickF l n).length ≤ l.length ∧ ∀ x ∈ pickF l n, x ∈ l := ⟨List.length_filter_le _ _, fun _ hx => (List.mem_filter.1 hx).1⟩
theorem RoomsAt.cell {w : World} {b0 RB : Nat} {vs : List Value} {rs : List (List GrpX)} (h : RoomsAt w b0 RB vs rs) {r : Nat} {v : Value} (hv : vs[r]? = some v) : w.cell? ⟨RB, r, none⟩ = some v := by
  simp only [World.cell?, h.row]
  simpa using hv
theorem Own.keptG' {α : Type} {w w' : World} {b0 k m : Nat} {e : TypeId} {enc : α → List Value} {v : Value} {xs : List α} (h : Own w b0 e k enc v xs) (hg : w.grownBy w' (some m)) (hm : ∀ cur e fz, w.heap[m]? ≠ some (.cells cur e fz)) : Own w' b0 e k enc v xs :=
  h.kept' hg (fun g hgm hv => by injection hgm with hgm; subst hgm; obtain ⟨cur, hc⟩ := own_block h hv; exact hm _ _ _ hc)
theorem own_form {α : Type} {w : World} {b0 k : Nat} {e : TypeId} {enc : α → List Value} {v : Value} {xs : List α} (h : Own w b0 e k enc v xs) (h0 : 0 < xs.length) : ∃ gb cap, v = .slice (some ⟨gb, 0, none⟩) xs.length cap := by
  rcases h.2 with ⟨_, h6⟩ | ⟨g, cap, _, h5, _⟩
  · omega
  · exact ⟨g, cap, h5⟩
theorem set_same {α : Type} {l : List α} {i : Nat} {x : α} (h : l[i]? = some x) : l.set i x = l := by
  obtain ⟨hi, rfl⟩ := List.getElem?_eq_some_iff.1 h
  exact List.set_getElem_self hi
theorem foldl_take {α β : Type} {f : β → α → β} {l : List α} {k : Nat} {x : α} {b : β} (h : l[k]? = some x) : (l.take (k + 1)).foldl f b = f ((l.take k).foldl f b) x := by
  rw [List.take_add_one, h, List.foldl_append]; rfl
set_option maxRecDepth 100000 in
set_option maxHeartbeats 12800000 in
theorem groups_l1 {p : PolX} {rec : List UInt8} {gc RB MB id j Fn fk cn ck : Nat} {fA cA : Option Addr} {cc : Array Value} {F : List Nat} {cf : List Fld} {st : GSt} {vs : List Value} {rs : List (List GrpX)} {w0 wS : World} {Q0 : Exit → Act → World → Prop} {x0 x2 x3 x5 x6 x7 x8 x11 x12 x14 x16 x17 x18 x19 x20 x21 x22 x23 x24 x25 x26 x27 x28 x29 x30 x31 x32 x33 x34 x35 x36 x37 x38 x39 x40 x41 x42 x43 x44 x45 x46 x47 x48 x49 x50 x51 x52 x53 x57 x58 x59 x60 x61 x62 x63 x64 x65 x66 x67 x68 x69 x70 x71 x72 x73 x74 x75 x76 x77 x78 x79 x80 x81 x82 x83 x84 x85 x86 x87 x88 x89 x90 x91 x92 x93 x94 x95 x96 x97 x98 x99 x100 x101 x102 x103 x104 x105 x106 x107 x108 x109 x110 x111 x112 x113 x114 x115 x116 x117 x118 x119 x120 x121 x122 x123 x124 x125 x126 x127 x128 x129 x130 x131 x132 x133 x134 x135 : Value}
    (he : Hid (LibEnv w0)) (hp : Hid (p.At w0)) (hE : Hid (GEnv w0 p.cells.toArray gc cc (.slice fA Fn fk) F (.slice cA cn ck) cf wS)) (hcc : Hid (cc[1]? = some (.slice cA cn ck))) (hR : Hid (RoomsAt wS w0.heap.size RB vs rs)) (hM : Hid (MapL Tryz.prog 9 3 wS MB st.place.length (placeL st.place))) (hRB : Hid (w0.heap.size ≤ RB)) (hMB : Hid (w0.heap.size ≤ MB)) (hI : Hid (GInv p.om j st)) (hj : Hid (j ≤ 24000)) (hrs : Hid (rs.map (·.map GrpX.g) = st.rooms)) (hF : Hid ((∀ r ∈ F, r < p.om) ∧ F.length ≤ 12)) (hrec : Hid (rec.length ≤ 1000)) (hcf : Hid (cf.length ≤ 8 ∧ ∀ f ∈ cf, f.n.length + f.v.length ≤ 1000)) (hom : p.om ≤ 12)
    (hQ0 : ∀ c a d v w, Q0 (.panic c) (Act.put a d v) w → Q0 (.panic c) a w)
    (hexit : ∀ (u17 u18 u19 u20 u21 u22 u23 u24 u56 u57 u58 u59 u60 u61 u62 u63 u64 u65 u66 u67 u68 u69 u70 u71 u72 u73 u74 u75 u76 u77 u78 u79 u80 u81 u82 u83 u84 u85 u86 u87 u88 u89 u90 u91 u92 u93 u94 u95 u96 u97 u98 u99 u100 u101 u102 u103 u104 u105 u106 u107 u108 u109 u110 u111 u112 u113 u114 u115 u116 u117 u118 u119 u120 u121 u122 u123 u124 u125 u126 u127 u128 u129 u130 u131 u132 : Value) (wr : World), (∃ vs' rs', Hid (GInv p.om (j + 2 * F.length) (F.foldl (stepG rec id cf (namesAt p.pol)) st)) ∧ Hid (rs'.map (·.map GrpX.g) = (F.foldl (stepG rec id cf (namesAt p.pol)) st).rooms) ∧ Hid (RoomsAt wr w0.heap.size RB vs' rs') ∧ Hid (MapL Tryz.prog 9 3 wr MB (F.foldl (stepG rec id cf (namesAt p.pol)) st).place.length (placeL (F.foldl (stepG rec id cf (namesAt p.pol)) st).place)) ∧ Hid (Blk wr w0.heap.size 32 p.cells.toArray) ∧ Hid (Grows w0 wr)) → Q0 (.exit 2) ⟨(x0 :: (.string ⟨rec.toArray⟩) :: x2 :: x3 :: (.pointer (some ⟨w0.heap.size, 0, none⟩)) :: x5 :: x6 :: x7 :: x8 :: (.slice (some ⟨RB, 0, none⟩) p.om p.om) :: (.map (some MB)) :: x11 :: x12 :: (.pointer (some ⟨gc, 0, none⟩)) :: x14 :: (.int .u64 (id : Int)) :: x16 :: u17 :: u18 :: u19 :: u20 :: u21 :: u22 :: u23 :: u24 :: x25 :: x26 :: x27 :: x28 :: x29 :: x30 :: x31 :: x32 :: x33 :: x34 :: x35 :: x36 :: x37 :: x38 :: x39 :: x40 :: x41 :: x42 :: x43 :: x44 :: x45 :: x46 :: x47 :: x48 :: x49 :: x50 :: x51 :: x52 :: x53 :: (.slice fA Fn fk) :: (.int .i64 (Fn : Int)) :: u56 :: u57 :: u58 :: u59 :: u60 :: u61 :: u62 :: u63 :: u64 :: u65 :: u66 :: u67 :: u68 :: u69 :: u70 :: u71 :: u72 :: u73 :: u74 :: u75 :: u76 :: u77 :: u78 :: u79 :: u80 :: u81 :: u82 :: u83 :: u84 :: u85 :: u86 :: u87 :: u88 :: u89 :: u90 :: u91 :: u92 :: u93 :: u94 :: u95 :: u96 :: u97 :: u98 :: u99 :: u100 :: u101 :: u102 :: u103 :: u104 :: u105 :: u106 :: u107 :: u108 :: u109 :: u110 :: u111 :: u112 :: u113 :: u114 :: u115 :: u116 :: u117 :: u118 :: u119 :: u120 :: u121 :: u122 :: u123 :: u124 :: u125 :: u126 :: u127 :: u128 :: u129 :: u130 :: u131 :: u132 :: x133 :: x134 :: x135 :: []).toArray, []⟩ wr) :
    Code.wp Tryz.prog (loopIn Tryz.f15 1) Q0 ⟨(x0 :: (.string ⟨rec.toArray⟩) :: x2 :: x3 :: (.pointer (some ⟨w0.heap.size, 0, none⟩)) :: x5 :: x6 :: x7 :: x8 :: (.slice (some ⟨RB, 0, none⟩) p.om p.om) :: (.map (some MB)) :: x11 :: x12 :: (.pointer (some ⟨gc, 0, none⟩)) :: x14 :: (.int .u64 (id : Int)) :: x16 :: x17 :: x18 :: x19 :: x20 :: x21 :: x22 :: x23 :: x24 :: x25 :: x26 :: x27 :: x28 :: x29 :: x30 :: x31 :: x32 :: x33 :: x34 :: x35 :: x36 :: x37 :: x38 :: x39 :: x40 :: x41 :: x42 :: x43 :: x44 :: x45 :: x46 :: x47 :: x48 :: x49 :: x50 :: x51 :: x52 :: x53 :: (.slice fA Fn fk) :: (.int .i64 (Fn : Int)) :: (.int .i64 0) :: x57 :: x58 :: x59 :: x60 :: x61 :: x62 :: x63 :: x64 :: x65 :: x66 :: x67 :: x68 :: x69 :: x70 :: x71 :: x72 :: x73 :: x74 :: x75 :: x76 :: x77 :: x78 :: x79 :: x80 :: x81 :: x82 :: x83 :: x84 :: x85 :: x86 :: x87 :: x88 :: x89 :: x90 :: x91 :: x92 :: x93 :: x94 :: x95 :: x96 :: x97 :: x98 :: x99 :: x100 :: x101 :: x102 :: x103 :: x104 :: x105 :: x106 :: x107 :: x108 :: x109 :: x110 :: x111 :: x112 :: x113 :: x114 :: x115 :: x116 :: x117 :: x118 :: x119 :: x120 :: x121 :: x122 :: x123 :: x124 :: x125 :: x126 :: x127 :: x128 :: x129 :: x130 :: x131 :: x132 :: x133 :: x134 :: x135 :: []).toArray, []⟩ wS := by
  conv => arg 2; whnf
  go_loopw [17, 18, 19, 20, 21, 22, 23, 24, 56] (fun _ _ _ _ _ _ _ _ i wr => ∃ (q : Nat) (sq : GSt) (vs' : List Value) (rs' : List (List GrpX)), q ≤ Fn ∧ i = .int .i64 q ∧ Hid (sq = (F.take q).foldl (stepG rec id cf (namesAt p.pol)) st) ∧ Hid (GInv p.om (j + 2 * q) sq) ∧ Hid (rs'.map (·.map GrpX.g) = sq.rooms) ∧ Hid (RoomsAt wr w0.heap.size RB vs' rs') ∧ Hid (MapL Tryz.prog 9 3 wr MB sq.place.length (placeL sq.place)) ∧ Hid (GEnv w0 p.cells.toArray gc cc (.slice fA Fn fk) F (.slice cA cn ck) cf wr)) (fun _ _ _ _ _ _ _ _ i _ => Fn - (intOf i).toNat)
  case atStart => exact ⟨0, st, vs, rs, by omega, rfl, rfl, hI, hrs, hR, hM, hE⟩
  case round =>
    have hFl : Hid (F.length = Fn) := Lib.hid (by obtain ⟨A, c, hv, _⟩ := hE.out.F.arr hkI; injection hv with _ h _; exact h.symm)
    clear hE hR hM hrs hI
    obtain ⟨q, sq, vs', rs', hq, rfl, hsq, hI, hrs, hR, hM, hE⟩ := hrel
    by_cases hqF : q < Fn
    · obtain ⟨A0, c0, hv0, _, _, hA0⟩ := hE.out.F.arr hkI
      simp only [Value.slice.injEq] at hv0
      obtain ⟨rfl, hl0, rfl⟩ := hv0
      rw [← hl0] at hA0
      obtain ⟨bb, off, r, rfl, hsx, hx, hcell⟩ := hA0.at_ hqF
      have f0 : wr.cell? ⟨bb, off + q, none⟩ = some (.int .i64 (r : Int)) := by simpa using hcell 0 _ rfl
      have hqi : (q : Int) < (Fn : Int) := by omega
      have hszw := Lib.hid hE.out.G.size
      have hFn12 : Fn ≤ 12 := by have := hF.out.2; have := hFl.out; omega
      have hrm := hF.out.1 r (List.mem_of_getElem? hx)
      obtain ⟨b2, o2, x, hoA, hs2, hxo, hcell2⟩ := (hp.out.o.keep hE.out.G).at_ hrm
      have r1 : wr.cell? ⟨b2, o2 + r * 6 + 1, none⟩ = some (.slice x.bA x.bm x.bk) := hcell2 1 _ rfl
      have p4 : wr.cell? ⟨w0.heap.size, 4, none⟩ = some (.slice p.oA p.om p.ok) := hE.out.B.cell 4
      have pz := hE.out.B.lt
      have k1 : wr.cell? ⟨gc, 1, none⟩ = some (.slice cA cn ck) := (hE.out.C.cell 1).trans hcc.out
      have kz := hE.out.C.lt
      rw [hoA] at p4
      have hrmi : (r : Int) < (p.om : Int) := by omega
      have hsn := foldl_take (f := stepG rec id cf (namesAt p.pol)) (b := st) hx
      rw [← hsq.out] at hsn
      have hnm := namesAt_of hxo
      have hxb := (hp.out.oAt x (List.mem_of_getElem? hxo))
      obtain ⟨A3, c3, hv3, _, _, hA3⟩ := hE.out.f.arr hkF
      simp only [Value.slice.injEq] at hv3
      obtain ⟨rfl, hl3, rfl⟩ := hv3
      rw [← hl3] at hA3
      have cP := fun (W : World) (hW : Grows wr W) => pick_any (c := ck) (c2 := x.bk) W (hA3.keep hW) (by have := hcf.out.1; omega) (hxb.by_.keep (hE.out.G.trans hW)) hxb.byle
      rw [← hnm] at cP
      replace cP := Lib.hid cP
      replace hsn := Lib.hid hsn
      clear hcell hcell2 hA0 hA3 hxb hxo hnm hoA hl3 hl0
      go_wp2
      refine wp_region_mixg [(0, true), (1, true), (2, true), (3, true), (4, true), (5, true), (6, true), (7, true), (8, false), (9, true)] (by kernel_rfl) (by kernel_rfl) rfl (by kernel_rfl) (by intro c a d v w h; first | (cases d <;> exact h) | exact hQ0 _ _ _ _ _ h) ?_
      iterate 8 (refine wpMix_q rfl (fun K hK => ?_); go_simp; (try go_bits); first | (refine hK _ ?_; clear hK K) | (apply Exists.intro; refine ⟨fun wq hsq => ?_, hK _ ?_⟩; (first | (go_simp; done) | ((try go_simp); (try simp only [↓IntWalk.iteOmega]); (try go_bits); rfl) | (obtain ⟨hcq, hfq⟩ := bcells hsq; go_simp; done) | (obtain ⟨hcq, hfq⟩ := bcells hsq; (try go_simp); (try simp only [↓IntWalk.iteOmega]); (try go_bits); rfl)); clear hK K))
      refine wpMix_m rfl (fun K' hK => ?_)
      go_simp
      refine (cP.out _ ((Grows.refl wr).drew)).mono ?_
      rintro e w1 ⟨vb, rfl, hOb, hb1⟩
      replace hb1 : Grows wr w1 := ((Grows.refl wr).drew).trans hb1
      replace hOb : Own w1 wr.heap.size 76 2 encF vb (pickF cf (namesAt p.pol r)) := hOb
      replace hOb := Lib.hid hOb
      refine hK.out _ _ ?_ (fun hS => ?_)
      · exact hb1
      clear hK hS
      iterate 1 (refine wpMix_q rfl (fun K hK => ?_); go_simp; (try go_bits); first | (refine hK _ ?_; clear hK K) | (apply Exists.intro; refine ⟨fun wq hsq => ?_, hK _ ?_⟩; (first | (go_simp; done) | ((try go_simp); (try simp only [↓IntWalk.iteOmega]); (try go_bits); rfl) | (obtain ⟨hcq, hfq⟩ := bcells hsq; go_simp; done) | (obtain ⟨hcq, hfq⟩ := bcells hsq; (try go_simp); (try simp only [↓IntWalk.iteOmega]); (try go_bits); rfl)); clear hK K))
      refine wpMix_nil ?_
      clear cP f0 r1 p4 pz k1 kz
      have hsub := pickF_sub (l := cf) (n := namesAt p.pol r)
      generalize hbfd : pickF cf (namesAt p.pol r) = bf at *
      replace hbfd := Lib.hid hbfd
      obtain ⟨bA, bk, rfl, _, _, hbA⟩ := hOb.out.arr hkF
      have hbl : bf.length ≤ 8 := by have := hcf.out.1; omega
      have hbf : ∀ f ∈ bf, f.n.length + f.v.length ≤ 1000 := fun f hf => hcf.out.2 f (hsub.2 f hf)
      replace hE := Lib.hid (hE.out.grows hb1)
      replace hR := Lib.hid (hR.out.grows hb1)
      replace hM := Lib.hid (hM.out.grows hb1)
      have cW := where_any (r := r) (c := bk) w1 (he.out.grows hE.out.G) (by omega) hbA (by omega) hbf
      have cY := fun (W : World) (hW : Grows w1 W) => key_any (R := rec) (a := (r : Int)) (c := bk) W (hbA.keep hW) hrec.out (by omega) hbf
      have hwl := whereL_len (r := r) (by omega) bf hbf
      generalize hws : whereL r bf = ws at *
      generalize hky : shortTo (sha (keyNums rec r bf)) 8 = ky at *
      replace cW := Lib.hid cW
      replace cY := Lib.hid cY
      clear hb1 hsub hbA
      go_wp2_with fail
      refine (cW.out).mono ?_
      rintro e w2 ⟨rfl, hb2⟩
      replace hOb := Lib.hid (hOb.out.grows hb2)
      replace hE := Lib.hid (hE.out.grows hb2)
      replace hR := Lib.hid (hR.out.grows hb2)
      replace hM := Lib.hid (hM.out.grows hb2)
      replace cY := Lib.hid (fun W (hW : Grows w2 W) => cY.out W (hb2.trans hW))
      clear cW hb2
      have hlk := fun y hy => MapL.look_int (t := 89) hM.out Tryz.underlying9 Tryz.underlying89 Tryz.underlying3 (by kernel_rfl) (s := ws) (by unfold maxLen; omega) (x := y) hy
      rw [lookL_place] at hlk
      have hstep : stepG rec id cf (namesAt p.pol) sq r = match lookP sq.place ws with
          | some k => { sq with rooms := bumpG sq.rooms r k id }
          | none => match sq.rooms[r]? with
            | some gs => { rooms := bumpG (sq.rooms.set r (gs ++ [⟨r, bf, ky, []⟩])) r gs.length id, place := sq.place ++ [(ws, gs.length)] }
            | none => sq := by
        unfold stepG keyA
        rw [hbfd.out, hws, hky]
        rfl
      have hrl : r < rs'.length := by have := hI.out.len; rw [← hrs.out, List.length_map] at this; omega
      obtain ⟨gr, hgr⟩ : ∃ gr, rs'[r]? = some gr := ⟨_, List.getElem?_eq_getElem hrl⟩
      obtain ⟨v, hv⟩ : ∃ v, vs'[r]? = some v := ⟨_, List.getElem?_eq_getElem (by rw [hR.out.len]; exact hrl)⟩
      have hgr1 : sq.rooms[r]? = some (gr.map GrpX.g) := by rw [← hrs.out, List.getElem?_map, hgr]; rfl
      have hIN : Hid (GInv p.om (j + 2 * (q + 1)) (stepG rec id cf (namesAt p.pol) sq r)) := Lib.hid (hI.out.step rec id cf (namesAt p.pol) r)
      cases hlp : lookP sq.place ws with
      | some k =>
        rw [hlp] at hlk hstep
        have hlk2 := hlk (k : Int) rfl
        simp only at hstep
        have hkg : k < gr.length := by have := hI.out.pl _ _ (lookP_mem hlp) r bf _ hws hgr1; simpa using this
        obtain ⟨gb, cap, hvf⟩ := own_form (hR.out.own r v gr hv hgr) (by omega)
        generalize hnn : gr.length = n at *
        subst hvf
        obtain ⟨xg, hxT⟩ : ∃ xg, gr[k]? = some xg := ⟨_, List.getElem?_eq_getElem (by omega)⟩
        have hNS : Hid (stepG rec id cf (namesAt p.pol) sq r = ⟨bumpG sq.rooms r k id, sq.place⟩) := Lib.hid hstep
        obtain ⟨kT, hkT⟩ : ∃ kT, kT = k := ⟨_, rfl⟩
        obtain ⟨wT, hwT⟩ : ∃ wT, wT = w2 := ⟨_, rfl⟩
        obtain ⟨vsT, hvsT⟩ : ∃ vsT, vsT = vs' := ⟨_, rfl⟩
        obtain ⟨rsT, hrsT'⟩ : ∃ rsT, rsT = rs' := ⟨_, rfl⟩
        obtain ⟨gsT, hgsT⟩ : ∃ gsT, gsT = gr := ⟨_, rfl⟩
        obtain ⟨roomsT, hroT⟩ : ∃ roomsT, roomsT = sq.rooms := ⟨_, rfl⟩
        subst hkT hwT hvsT hrsT' hgsT
        have hjT : Hid (j + 2 * q ≤ 30000) := Lib.hid (by have := hj.out; have := hFl.out; have := hF.out.2; omega)
        have hRT := hR
        have hvT := hv
        have hgT := hgr
        have hET := hE
        have hMT := hM
        have hIT : Hid (GInv p.om (j + 2 * q) ⟨roomsT, sq.place⟩) := Lib.hid (by rw [hroT]; exact hI.out)
        have hrsT : Hid (rsT.map (·.map GrpX.g) = roomsT) := Lib.hid (by rw [hroT]; exact hrs.out)
        rw [← hroT] at hNS
        clear hlk hstep hkg hR hv hgr hE hM hI hrs hgr1 hroT hlp hrl cY hbl hbf hwl hws hky hOb hnn
        have hOg := hRT.out.own r _ gsT hvT hgT
        have hnl := hOg.len hkG
        have hkn : kT < n := by have := (List.getElem?_eq_some_iff.1 hxT).1; omega
        obtain ⟨xq, hxq, hcx, hfx⟩ := hOg.at_ hkG hkn
        obtain rfl : xq = xg := Option.some.inj (hxq.symm.trans hxT)
        have g3 : wT.cell? ⟨gb, kT * 4 + 3, none⟩ = some (.slice xq.iA xq.im xq.ik) := hcx 3 _ rfl
        have gl := World.block_lt_of_cell? wT _ g3
        simp only at gl
        have rc := hRT.out.cell hvT
        have rl := hRT.out.lt
        have hkni : (kT : Int) < ((n : Nat) : Int) := by omega
        have hOi := hRT.out.ids r gsT kT xq hgT hxT
        have hgr2 : roomsT[r]? = some (gsT.map GrpX.g) := by rw [← hrsT.out, List.getElem?_map, hgT]; rfl
        have hgx2 : (gsT.map GrpX.g)[kT]? = some xq.g := by rw [List.getElem?_map, hxT]; rfl
        have hSi : SortU xq.ids := hIT.out.srt r _ kT _ hgr2 hgx2
        have hil : xq.ids.length ≤ 100000 := by have := hIT.out.mi r _ kT _ hgr2 hgx2; have := hjT.out; exact Nat.le_trans ‹_› (by omega)
        obtain ⟨_, _, hvi, _, _, hAi⟩ := hOi.arr hkU
        simp only [GrpX.iv, Value.slice.injEq] at hvi
        obtain ⟨e1, e2, e3⟩ := hvi
        rw [← e2] at hAi
        rw [← e1] at hAi
        have cBS := bsearch_any (c := xq.ik) (t := id) wT hAi (by rw [e2]; omega) hSi
        have hpos := posU_le xq.ids id
        have hmem : (id ∈ xq.ids) ∨ ¬ (id ∈ xq.ids) := Classical.em _
        replace e2 := Lib.hid e2
        clear hcx hxq hAi e1 e3
        rcases hmem with hmem | hmem
        · rw [decide_eq_true hmem] at cBS
          have hrf : (rsT.map (·.map GrpX.g)) = (stepG rec id cf (namesAt p.pol) sq r).rooms := by
            rw [hNS.out, hrsT.out]
            show _ = bumpG roomsT r kT id
            rw [bumpG_eq hgr2 hgx2, show ({ xq.g with ids := addId xq.g.ids id } : Grp) = xq.g by
              have : addId xq.g.ids id = xq.g.ids := if_pos hmem
              rw [this], set_same hgx2, set_same hgr2]
          have hmf : MapL Tryz.prog 9 3 wT MB (stepG rec id cf (namesAt p.pol) sq r).place.length (placeL (stepG rec id cf (namesAt p.pol) sq r).place) := by rw [hNS.out]; exact hMT.out
          replace cBS := Lib.hid cBS
          replace hrf := Lib.hid hrf
          replace hmf := Lib.hid hmf
          generalize posU xq.ids id = PO at *
          clear hOi hOg hSi hgr2 hgx2 hmem hNS hMT hrsT hIT hgT hxT hvT hfx
          go_wp2_with fail
          refine (cBS.out).mono ?_
          rintro e w5 ⟨rfl, hw5⟩
          rw [hw5]
          clear hw5 w5 cBS
          go_wp2
          go_roundw
          case rel => exact ⟨q + 1, _, vsT, rsT, by omega, by go_num, Lib.hid hsn.out.symm, hIN, hrf, hRT, hmf, hET⟩
          case measure => simp [intOf]; omega
        · rw [decide_eq_false hmem] at cBS
          have hsz := hET.out.G.size
          have hWI : Grows wT (wT.alloc (.cells #[.int .u64 (id : Int)] 25)) := (Grows.refl wT).alloc _
          have cIn := insert_any (c := 1) (i := posU xq.ids id) (h := wT.heap.size) (t := id) (wT.alloc (.cells #[.int .u64 (id : Int)] 25)) (hOi.alloc _) (by simp; omega) hpos (by omega) (heap_alloc_new wT _) (fun j hj => by have := own_lt hOi hj; omega)
          have hpl := putAt_len (t := id) hpos
          have hadd : addId xq.ids id = putAt xq.ids (posU xq.ids id) id := if_neg hmem
          replace cBS := Lib.hid cBS
          replace cIn := Lib.hid cIn
          replace hadd := Lib.hid hadd
          replace hpl := Lib.hid hpl
          replace hOi := Lib.hid hOi
          replace hOg := Lib.hid hOg
          replace hWI := Lib.hid hWI
          generalize posU xq.ids id = PO at *
          generalize putAt xq.ids PO id = PI at *
          clear hSi hmem hfx
          go_wp2_with fail
          refine (cBS.out).mono ?_
          rintro e w5 ⟨rfl, hw5⟩
          rw [hw5]
          clear hw5 w5 cBS
          go_wp2_with fail
          refine (cIn.out).mono ?_
          rintro e w6 ⟨v6, rfl, hO6, hby6, hv6⟩
          obtain ⟨A6, c6, rfl, _, _, _⟩ := hO6.arr hkU
          have hOg6 := (hOg.out.alloc (.cells #[.int .u64 (id : Int)] 25)).kept' hby6 (fun g hgm hv2 => by obtain ⟨cur, hc⟩ := own_block (hOi.out.alloc (.cells #[.int .u64 (id : Int)] 25)) hgm; exact own_ne (hOg.out.alloc (.cells #[.int .u64 (id : Int)] 25)) hc (by decide) hv2)
          obtain ⟨xr, hxr, hcr, hfr⟩ := hOg6.at_ hkG hkn
          obtain rfl : xr = xq := Option.some.inj (hxr.symm.trans hxT)
          have g6 : w6.cell? ⟨gb, kT * 4 + 3, none⟩ = some (.slice xr.iA xr.im xr.ik) := hcr 3 _ rfl
          have gf6 := hfr (kT * 4 + 3)
          have gl6 := World.block_lt_of_cell? w6 _ g6
          simp only at gl6
          have hR7 := RoomsAt.upd (x' := ⟨xr.r, xr.key, xr.by_, xr.bA, xr.bm, xr.bk, PI, A6, PI.length, c6⟩) (hRT.out.grows hWI.out) hvT hgT hxT hO6 hby6 hv6 ⟨rfl, rfl⟩ rfl
          have hrf : ((rsT.set r (gsT.set kT ⟨xr.r, xr.key, xr.by_, xr.bA, xr.bm, xr.bk, PI, A6, PI.length, c6⟩)).map (·.map GrpX.g)) = (stepG rec id cf (namesAt p.pol) sq r).rooms := by
            rw [hNS.out]
            show _ = bumpG roomsT r kT id
            rw [bumpG_eq hgr2 hgx2, show addId xr.g.ids id = PI from hadd.out, List.map_set, hrsT.out, List.map_set]
            rfl
          have hrow6 : ∀ j, Value.ownBlock xr.iv = some j → GrpRow (wT.alloc (.cells #[.int .u64 (id : Int)] 25)) w0.heap.size j := GrpRow.of_own (hOi.out.alloc (.cells #[.int .u64 (id : Int)] 25)) (Nat.le_refl _) (.inr rfl)
          have hset := grownBy_cell w6 ⟨gb, kT * 4 + 3, none⟩ (.slice A6 PI.length c6)
          obtain ⟨curg, hcg⟩ := own_block hOg6 (g := gb) rfl
          have hE7 := ((hET.out.grows hWI.out).row hby6 hrow6).row hset (GrpRow.of_own hOg6 (Nat.le_refl _) (.inl rfl))
          have hM7 := ((hMT.out.grows hWI.out).keptO (hOi.out.alloc (.cells #[.int .u64 (id : Int)] 25)) hby6).keptG hset hcg
          have hmf : MapL Tryz.prog 9 3 (w6.setCell ⟨gb, kT * 4 + 3, none⟩ (.slice A6 PI.length c6)) MB (stepG rec id cf (namesAt p.pol) sq r).place.length (placeL (stepG rec id cf (namesAt p.pol) sq r).place) := by rw [hNS.out]; exact hM7
          replace hR7 := Lib.hid hR7
          replace hE7 := Lib.hid hE7
          replace hmf := Lib.hid hmf
          replace hrf := Lib.hid hrf
          clear hM7 hset hcg hrow6 hOg6 hO6 hby6 hv6 hcr hxr hfr hOi hOg hgr2 hgx2 hNS hMT hrsT hIT hRT hET hWI cIn hadd
          generalize hPL : PI.length = PLn at *
          go_wp2
          go_roundw
          case rel => exact ⟨q + 1, _, vsT, _, by omega, by go_num, Lib.hid hsn.out.symm, hIN, hrf, hR7, hmf, hE7⟩
          case measure => simp [intOf]; omega
      | none =>
        rw [hlp, hgr1] at hstep
        rw [hlp] at hlk
        have hlk2 := hlk 0 rfl
        simp only [List.length_map] at hstep
        have hOr0 := hR.out.own r v gr hv hgr
        obtain ⟨vA, vc, rfl, hvn, hvm, _⟩ := hOr0.arr hkG
        have hOr := Lib.hid hOr0
        have hRBr : some RB ≠ (Value.slice vA gr.length vc).ownBlock := fun e => own_ne hOr0 hR.out.row (by decide) e.symm
        have hrow1 : Hid (∀ j, (Value.slice vA gr.length vc).ownBlock = some j → w0.heap.size ≤ j) := Lib.hid (fun j hj => hOr0.block_ge j hj)
        have rc := hR.out.cell hv
        have rl := hR.out.lt
        have hrl2 : (r : Int) < (p.om : Int) := hrmi
        have hgl : gr.length ≤ 30000 := by have := hI.out.mr r _ hgr1; rw [List.length_map] at this; have := hj.out; omega
        have hpl : sq.place.length ≤ 30000 := by have := hI.out.mp; have := hj.out; omega
        have hIP := Lib.hid (GInv.push (rooms := sq.rooms) (place := sq.place) hI.out (fs := bf) (key := ky) hgr1)
        rw [hws] at hIP
        generalize hnn : gr.length = n at *
        replace hnn := Lib.hid hnn
        replace hlp := Lib.hid hlp
        replace hstep := Lib.hid hstep
        replace hgr1 := Lib.hid hgr1
        replace hws := Lib.hid hws
        replace hky := Lib.hid hky
        replace hv := Lib.hid hv
        replace hgr := Lib.hid hgr
        replace hwl := Lib.hid hwl
        replace hbf := Lib.hid hbf
        clear hlk hOr0 cY
        have hwl2 : ws.length ≤ maxLen := by have := hwl.out; unfold maxLen; omega
        have hwf : (Lit.int .i64 (n : Int)).wf = true := WalkArith.wf_i64 (by omega)
        go_wp2_with (at_mapUpdate; refine wpList_putL hM.out rfl _ _ _ rfl Tryz.underlying9 Tryz.underlying89 (by unfold maxLen; omega) ws hwl2 (.int .i64 (n : Int)) (.int .i64 (n : Int)) rfl rfl rfl (plainElem_int Tryz.underlying3 hwf) ?_; intro w3 hM3 hby3)
        have hrm3 := GrpRow.of_map hM.out hMB.out
        have hRn := Lib.hid (hR.out.other hby3 hM.out.not_cells)
        have hEn := Lib.hid (hE.out.row hby3 hrm3)
        have hOn := Lib.hid (hOb.out.keptG hby3 hrm3 (by decide) (by decide) (by decide))
        have hMn : Hid (MapL Tryz.prog 9 3 w3 MB (sq.place.length + 1) (placeL (sq.place ++ [(ws, n)]))) := Lib.hid (by rw [placeL_snoc]; exact hM3)
        have hOr3 := Lib.hid (hOr.out.keptG' hby3 hM.out.not_cells)
        clear hby3 hM3 hrm3 hOr hlk2 hR hE hM hOb rc rl
        have rc := hRn.out.cell hv.out
        have rl := hRn.out.lt
        generalize hrow : (Value.slice vA n vc).ownBlock = row at *
        replace hrow := Lib.hid hrow
        have cY3 := Lib.hid (fun (W : World) (hW : w3.grownBy W row) => by
          have hrr : ∀ j, row = some j → GrpRow w3 w0.heap.size j := fun j hj => GrpRow.of_own hOr3.out (Nat.le_refl _) (.inl rfl) j (by rw [hrow.out, hj])
          have := hOn.out.keptG hW hrr (by decide) (by decide) (by decide)
          obtain ⟨A9, c9, hv9, _, _, hA9⟩ := this.arr hkF
          simp only [Value.slice.injEq] at hv9
          obtain ⟨rfl, _, rfl⟩ := hv9
          have := key_any (R := rec) (a := (r : Int)) (c := bk) W hA9 hrec.out (by omega) hbf.out
          rw [hky.out] at this
          exact this)
        refine wp_region_kg (row) (by kernel_rfl) ?_
        refine wpAnyK_run (l' := #[true, true, true, true, true, true, true, true, true, true, true, true, true, false, false, false, false]) [0, 1, 2, 3, 4, 5, 6, 7, 8, 9, 10, 11, 12] 4 up_grown (by kernel_rfl) (by intro c a d v w h; first | (cases d <;> exact h) | exact hQ0 _ _ _ _ _ h) rfl (by kernel_rfl) (by kernel_rfl) ?_
        iterate 11 (refine wpMixC_q rfl (fun K hK => ?_); go_simp; (try go_bits); first | (refine hK.out _ ?_; clear hK K) | (apply Exists.intro; refine ⟨fun wq hsq => ?_, hK.out _ ?_⟩; (first | (go_simp; done) | ((try go_simp); (try simp only [↓IntWalk.iteOmega]); (try go_bits); rfl) | (obtain ⟨hcq, hfq⟩ := bcellsG hsq; go_simp; done) | (obtain ⟨hcq, hfq⟩ := bcellsG hsq; (try go_simp); (try simp only [↓IntWalk.iteOmega]); (try go_bits); rfl)); clear hK K))
        refine wpMixC_c (.int .u64 (ky : Int)) rfl (by first | rfl | (go_simp; done)) (fun wq hsq => ?_) ?_
        · obtain ⟨hcq, hfq⟩ := bcellsG hsq
          go_simp
          exact Calls.mono (cY3.out wq hsq) (fun e w'' h => h)
        go_simp
        iterate 1 (refine wpMixC_q rfl (fun K hK => ?_); go_simp; (try go_bits); first | (refine hK.out _ ?_; clear hK K) | (apply Exists.intro; refine ⟨fun wq hsq => ?_, hK.out _ ?_⟩; (first | (go_simp; done) | ((try go_simp); (try simp only [↓IntWalk.iteOmega]); (try go_bits); rfl) | (obtain ⟨hcq, hfq⟩ := bcellsG hsq; go_simp; done) | (obtain ⟨hcq, hfq⟩ := bcellsG hsq; (try go_simp); (try simp only [↓IntWalk.iteOmega]); (try go_bits); rfl)); clear hK K))
        refine wpMixC_nil ?_
        refine wpAnyK_alt [13] (by kernel_rfl) (by simp) (fun wN hN hS => (AllReadyK.cons rfl (fun K' hK => ?_) AllReadyK.nil))
        try replace hRn := Lib.hid (hRn.out.grows hN)
        try replace hEn := Lib.hid (hEn.out.grows hN)
        try replace hOn := Lib.hid (hOn.out.grows hN)
        try replace hMn := Lib.hid (hMn.out.grows hN)
        try replace hOr3 := Lib.hid (hOr3.out.grows hN)
        try replace hB9 := Lib.hid (hB9.out.grows hN)
        try replace hO4 := Lib.hid (hO4.out.grows hN)
        try replace hby4 := Lib.hid (grownBy_up hby4.out hN)
        clear hN
        go_simp
        refine hK.out _ _ ?_ (fun hS => ?_)
        · exact grownBy_up (by assumption) ((Grows.refl _).alloc _)
        have hB9 := Lib.hid (Blk.new wN 47 #[.int .i64 (r : Int), .slice bA bf.length bk, .int .u64 (ky : Int), .slice none 0 0])
        have hgw : Grows wN (wN.alloc (.cells #[.int .i64 (r : Int), .slice bA bf.length bk, .int .u64 (ky : Int), .slice none 0 0] 47)) := (Grows.refl _).alloc _
        replace hRn := Lib.hid (hRn.out.grows hgw)
        replace hEn := Lib.hid (hEn.out.grows hgw)
        replace hOn := Lib.hid (hOn.out.grows hgw)
        replace hMn := Lib.hid (hMn.out.grows hgw)
        replace hOr3 := Lib.hid (hOr3.out.grows hgw)
        clear hgw
        clear hK hS
        refine wpAnyK_alt [14] (by kernel_rfl) (by simp) (fun wN hN hS => (AllReadyK.cons rfl (fun K' hK => ?_) AllReadyK.nil))
        try replace hRn := Lib.hid (hRn.out.grows hN)
        try replace hEn := Lib.hid (hEn.out.grows hN)
        try replace hOn := Lib.hid (hOn.out.grows hN)
        try replace hMn := Lib.hid (hMn.out.grows hN)
        try replace hOr3 := Lib.hid (hOr3.out.grows hN)
        try replace hB9 := Lib.hid (hB9.out.grows hN)
        try replace hO4 := Lib.hid (hO4.out.grows hN)
        try replace hby4 := Lib.hid (grownBy_up hby4.out hN)
        clear hN
        have hbs := hEn.out.G.size
        refine Own.grown (x := (⟨r, ky, bf, bA, bf.length, bk, [], none, 0, 0⟩ : GrpX)) T_gg rfl (.tmp 93) (.tmp 101) rfl hOr3.out rfl ⟨_, 0, none⟩ rfl (hkG _) (news_of hB9.out) (oneG _) hbs (by unfold maxLen; rw [hnn.out]; omega) (by rw [hnn.out]; omega) (fun v4 w4 hO4 hby4 hv4 => ?_)
        rw [hrow.out] at hby4
        have hrr := fun j hj => GrpRow.of_own hOr3.out (Nat.le_refl _) (.inl rfl) j (by rw [hrow.out]; exact hj)
        have hRA := hRn
        have hOnA := hOn
        replace hEn := Lib.hid (hEn.out.row hby4 hrr)
        replace hMn := Lib.hid (hMn.out.keptO hOr3.out (by rw [hrow.out]; exact hby4))
        obtain ⟨gb, cap, hv4e⟩ := own_form hO4 (by simp)
        rw [List.length_append, hnn.out] at hv4e
        simp only [List.length_cons, List.length_nil, Nat.zero_add] at hv4e
        subst hv4e
        replace hO4 := Lib.hid hO4
        replace hv4 := Lib.hid hv4
        clear hrr hbs hOr3 hB9 hRn hOn
        go_simp
        refine hK.out _ _ ?_ (fun hS => ?_)
        · exact World.grownBy.trans (by assumption) hby4
        replace hby4 := Lib.hid hby4
        clear hK hS
        refine wpAnyK_run (l' := #[true, true, true, true, true, true, true, true, true, true, true, true, true, true, true, true, false]) [15] 1 up_grown (by kernel_rfl) (by intro c a d v w h; first | (cases d <;> exact h) | exact hQ0 _ _ _ _ _ h) rfl (by kernel_rfl) (by kernel_rfl) ?_
        iterate 1 (refine wpMixC_q rfl (fun K hK => ?_); go_simp; (try go_bits); first | (refine hK.out _ ?_; clear hK K) | (apply Exists.intro; refine ⟨fun wq hsq => ?_, hK.out _ ?_⟩; (first | (go_simp; done) | ((try go_simp); (try simp only [↓IntWalk.iteOmega]); (try go_bits); rfl) | (obtain ⟨hcq, hfq⟩ := bcellsG hsq; go_simp; done) | (obtain ⟨hcq, hfq⟩ := bcellsG hsq; (try go_simp); (try simp only [↓IntWalk.iteOmega]); (try go_bits); rfl)); clear hK K))
        refine wpMixC_nil ?_
        refine wpAnyK_last (i := 16) rfl (by kernel_rfl) (by kernel_rfl) (fun wN hN hS K' hK => ?_)
        try replace hRn := Lib.hid (hRn.out.grows hN)
        try replace hEn := Lib.hid (hEn.out.grows hN)
        try replace hOn := Lib.hid (hOn.out.grows hN)
        try replace hMn := Lib.hid (hMn.out.grows hN)
        try replace hOr3 := Lib.hid (hOr3.out.grows hN)
        try replace hB9 := Lib.hid (hB9.out.grows hN)
        try replace hO4 := Lib.hid (hO4.out.grows hN)
        try replace hby4 := Lib.hid (grownBy_up hby4.out hN)
        clear hS
        have rowN := (hby4.out.block RB hRA.out.lt hRBr).trans hRA.out.row
        have rcN : wN.cell? ⟨RB, r, none⟩ = some (.slice vA n vc) := by simp only [World.cell?, rowN]; simpa using hv.out
        have rfN : wN.frozen? ⟨RB, r, none⟩ = false := by simp [World.frozen?, rowN]
        have rlN := World.block_lt_of_cell? wN _ rcN
        simp only at rlN
        go_simp
        refine hK.out _ _ ?_
        clear hK
        have hsetR := grownBy_cell wN ⟨RB, r, none⟩ (.slice (some ⟨gb, 0, none⟩) (n + 1) cap)
        have hrrR : ∀ j, some RB = some j → GrpRow wN w0.heap.size j := fun j hj => by
          injection hj with hj; subst hj
          exact ⟨hRB.out, fun cur e fz hc => by rw [rowN] at hc; simp only [Option.some.injEq, Obj.cells.injEq] at hc; exact .inr (.inr hc.2.1.symm)⟩
        have hRT := Lib.hid (RoomsAt.push hRA.out hv.out hgr.out (x := (⟨r, ky, bf, bA, bf.length, bk, [], none, 0, 0⟩ : GrpX)) hO4.out (by rw [hrow.out]; exact hby4.out) (hv4.out.imp (fun h => h) (fun h => ⟨_, h, Nat.le_refl _⟩)) ⟨rfl, rfl⟩ (hOnA.out.base_le hszw.out))
        have hET := Lib.hid (hEn.out.row hsetR hrrR)
        have hMT := Lib.hid (hMn.out.keptG hsetR rowN)
        have hNS : Hid (stepG rec id cf (namesAt p.pol) sq r = ⟨bumpG (sq.rooms.set r (gr.map GrpX.g ++ [⟨r, bf, ky, []⟩])) r n id, sq.place ++ [(ws, n)]⟩) := hstep
        have hIT := hIP
        rw [List.length_map, hnn.out] at hIT
        have hrs'l := hrl
        obtain ⟨kT, hkT⟩ : ∃ kT, kT = n := ⟨_, rfl⟩
        subst hkT
        have hlv : r < vs'.length := by rw [← (show vs'.length = vs'.length from rfl)]; exact (List.getElem?_eq_some_iff.1 hv.out).1
        have hvT : (vs'.set r (.slice (some ⟨gb, 0, none⟩) (kT + 1) cap))[r]? = some (.slice (some ⟨gb, 0, none⟩) (kT + 1) cap) := List.getElem?_set_self hlv
        have hgT : (rs'.set r (gr ++ [(⟨r, ky, bf, bA, bf.length, bk, [], none, 0, 0⟩ : GrpX)]))[r]? = some (gr ++ [(⟨r, ky, bf, bA, bf.length, bk, [], none, 0, 0⟩ : GrpX)]) := List.getElem?_set_self hrl
        have hxT : (gr ++ [(⟨r, ky, bf, bA, bf.length, bk, [], none, 0, 0⟩ : GrpX)])[kT]? = some ⟨r, ky, bf, bA, bf.length, bk, [], none, 0, 0⟩ := by rw [← hnn.out]; simp
        have hrsT : Hid ((rs'.set r (gr ++ [(⟨r, ky, bf, bA, bf.length, bk, [], none, 0, 0⟩ : GrpX)])).map (·.map GrpX.g) = sq.rooms.set r (gr.map GrpX.g ++ [⟨r, bf, ky, []⟩])) := Lib.hid (by rw [List.map_set, hrs.out, List.map_append]; rfl)
        have hjT : Hid (j + 2 * q + 1 ≤ 30000) := Lib.hid (by have := hj.out; omega)
        have hMT2 : Hid (MapL Tryz.prog 9 3 (wN.setCell ⟨RB, r, none⟩ (.slice (some ⟨gb, 0, none⟩) (kT + 1) cap)) MB (sq.place ++ [(ws, kT)]).length (placeL (sq.place ++ [(ws, kT)]))) := Lib.hid (by rw [List.length_append]; exact hMT.out)
        clear hMT
        have hMT := hMT2
        have hkT30 : kT ≤ 30000 := hgl
        clear hMT2 hsetR hrrR hRA hO4 hby4 hv4 hOnA hEn hMn rowN rcN rfN rlN hstep hIP hI hrs hgr1 hws hky hlp hv hgr hrow hRBr hrow1 hwl hbf hwl2 hwf hnn rc rl hlv hN cY3 hgl hpl hbl hrs'l
        generalize rs'.set r (gr ++ [(⟨r, ky, bf, bA, bf.length, bk, [], none, 0, 0⟩ : GrpX)]) = rsT at *
        generalize gr ++ [(⟨r, ky, bf, bA, bf.length, bk, [], none, 0, 0⟩ : GrpX)] = gsT at *
        generalize vs'.set r (.slice (some ⟨gb, 0, none⟩) (kT + 1) cap) = vsT at *
        generalize sq.rooms.set r (gr.map GrpX.g ++ [⟨r, bf, ky, []⟩]) = roomsT at *
        generalize wN.setCell ⟨RB, r, none⟩ (.slice (some ⟨gb, 0, none⟩) (kT + 1) cap) = wT at *
        generalize (⟨r, ky, bf, bA, bf.length, bk, [], none, 0, 0⟩ : GrpX) = xg at *
        have hOg := hRT.out.own r _ gsT hvT hgT
        have hnl := hOg.len hkG
        have hkn : kT < (kT + 1) := by have := (List.getElem?_eq_some_iff.1 hxT).1; omega
        obtain ⟨xq, hxq, hcx, hfx⟩ := hOg.at_ hkG hkn
        obtain rfl : xq = xg := Option.some.inj (hxq.symm.trans hxT)
        have g3 : wT.cell? ⟨gb, kT * 4 + 3, none⟩ = some (.slice xq.iA xq.im xq.ik) := hcx 3 _ rfl
        have gl := World.block_lt_of_cell? wT _ g3
        simp only at gl
        have rc := hRT.out.cell hvT
        have rl := hRT.out.lt
        have hkni : (kT : Int) < (((kT + 1) : Nat) : Int) := by omega
        have hOi := hRT.out.ids r gsT kT xq hgT hxT
        have hgr2 : roomsT[r]? = some (gsT.map GrpX.g) := by rw [← hrsT.out, List.getElem?_map, hgT]; rfl
        have hgx2 : (gsT.map GrpX.g)[kT]? = some xq.g := by rw [List.getElem?_map, hxT]; rfl
        have hSi : SortU xq.ids := hIT.out.srt r _ kT _ hgr2 hgx2
        have hil : xq.ids.length ≤ 100000 := by have := hIT.out.mi r _ kT _ hgr2 hgx2; have := hjT.out; exact Nat.le_trans ‹_› (by omega)
        obtain ⟨_, _, hvi, _, _, hAi⟩ := hOi.arr hkU
        simp only [GrpX.iv, Value.slice.injEq] at hvi
        obtain ⟨e1, e2, e3⟩ := hvi
        rw [← e2] at hAi
        rw [← e1] at hAi
        have cBS := bsearch_any (c := xq.ik) (t := id) wT hAi (by rw [e2]; omega) hSi
        have hpos := posU_le xq.ids id
        have hmem : (id ∈ xq.ids) ∨ ¬ (id ∈ xq.ids) := Classical.em _
        replace e2 := Lib.hid e2
        clear hcx hxq hAi e1 e3
        rcases hmem with hmem | hmem
        · rw [decide_eq_true hmem] at cBS
          have hrf : (rsT.map (·.map GrpX.g)) = (stepG rec id cf (namesAt p.pol) sq r).rooms := by
            rw [hNS.out, hrsT.out]
            show _ = bumpG roomsT r kT id
            rw [bumpG_eq hgr2 hgx2, show ({ xq.g with ids := addId xq.g.ids id } : Grp) = xq.g by
              have : addId xq.g.ids id = xq.g.ids := if_pos hmem
              rw [this], set_same hgx2, set_same hgr2]
          have hmf : MapL Tryz.prog 9 3 wT MB (stepG rec id cf (namesAt p.pol) sq r).place.length (placeL (stepG rec id cf (namesAt p.pol) sq r).place) := by rw [hNS.out]; exact hMT.out
          replace cBS := Lib.hid cBS
          replace hrf := Lib.hid hrf
          replace hmf := Lib.hid hmf
          generalize posU xq.ids id = PO at *
          clear hOi hOg hSi hgr2 hgx2 hmem hNS hMT hrsT hIT hgT hxT hvT hfx
          go_wp2_with fail
          refine (cBS.out).mono ?_
          rintro e w5 ⟨rfl, hw5⟩
          rw [hw5]
          clear hw5 w5 cBS
          go_wp2
          go_roundw
          case rel => exact ⟨q + 1, _, vsT, rsT, by omega, by go_num, Lib.hid hsn.out.symm, hIN, hrf, hRT, hmf, hET⟩
          case measure => simp [intOf]; omega
        · rw [decide_eq_false hmem] at cBS
          have hsz := hET.out.G.size
          have hWI : Grows wT (wT.alloc (.cells #[.int .u64 (id : Int)] 25)) := (Grows.refl wT).alloc _
          have cIn := insert_any (c := 1) (i := posU xq.ids id) (h := wT.heap.size) (t := id) (wT.alloc (.cells #[.int .u64 (id : Int)] 25)) (hOi.alloc _) (by simp; omega) hpos (by omega) (heap_alloc_new wT _) (fun j hj => by have := own_lt hOi hj; omega)
          have hpl := putAt_len (t := id) hpos
          have hadd : addId xq.ids id = putAt xq.ids (posU xq.ids id) id := if_neg hmem
          replace cBS := Lib.hid cBS
          replace cIn := Lib.hid cIn
          replace hadd := Lib.hid hadd
          replace hpl := Lib.hid hpl
          replace hOi := Lib.hid hOi
          replace hOg := Lib.hid hOg
          replace hWI := Lib.hid hWI
          generalize posU xq.ids id = PO at *
          generalize putAt xq.ids PO id = PI at *
          clear hSi hmem hfx
          go_wp2_with fail
          refine (cBS.out).mono ?_
          rintro e w5 ⟨rfl, hw5⟩
          rw [hw5]
          clear hw5 w5 cBS
          go_wp2_with fail
          refine (cIn.out).mono ?_
          rintro e w6 ⟨v6, rfl, hO6, hby6, hv6⟩
          obtain ⟨A6, c6, rfl, _, _, _⟩ := hO6.arr hkU
          have hOg6 := (hOg.out.alloc (.cells #[.int .u64 (id : Int)] 25)).kept' hby6 (fun g hgm hv2 => by obtain ⟨cur, hc⟩ := own_block (hOi.out.alloc (.cells #[.int .u64 (id : Int)] 25)) hgm; exact own_ne (hOg.out.alloc (.cells #[.int .u64 (id : Int)] 25)) hc (by decide) hv2)
          obtain ⟨xr, hxr, hcr, hfr⟩ := hOg6.at_ hkG hkn
          obtain rfl : xr = xq := Option.some.inj (hxr.symm.trans hxT)
          have g6 : w6.cell? ⟨gb, kT * 4 + 3, none⟩ = some (.slice xr.iA xr.im xr.ik) := hcr 3 _ rfl
          have gf6 := hfr (kT * 4 + 3)
          have gl6 := World.block_lt_of_cell? w6 _ g6
          simp only at gl6
          have hR7 := RoomsAt.upd (x' := ⟨xr.r, xr.key, xr.by_, xr.bA, xr.bm, xr.bk, PI, A6, PI.length, c6⟩) (hRT.out.grows hWI.out) hvT hgT hxT hO6 hby6 hv6 ⟨rfl, rfl⟩ rfl
          have hrf : ((rsT.set r (gsT.set kT ⟨xr.r, xr.key, xr.by_, xr.bA, xr.bm, xr.bk, PI, A6, PI.length, c6⟩)).map (·.map GrpX.g)) = (stepG rec id cf (namesAt p.pol) sq r).rooms := by
            rw [hNS.out]
            show _ = bumpG roomsT r kT id
            rw [bumpG_eq hgr2 hgx2, show addId xr.g.ids id = PI from hadd.out, List.map_set, hrsT.out, List.map_set]
            rfl
          have hrow6 : ∀ j, Value.ownBlock xr.iv = some j → GrpRow (wT.alloc (.cells #[.int .u64 (id : Int)] 25)) w0.heap.size j := GrpRow.of_own (hOi.out.alloc (.cells #[.int .u64 (id : Int)] 25)) (Nat.le_refl _) (.inr rfl)
          have hset := grownBy_cell w6 ⟨gb, kT * 4 + 3, none⟩ (.slice A6 PI.length c6)
          obtain ⟨curg, hcg⟩ := own_block hOg6 (g := gb) rfl
          have hE7 := ((hET.out.grows hWI.out).row hby6 hrow6).row hset (GrpRow.of_own hOg6 (Nat.le_refl _) (.inl rfl))
          have hM7 := ((hMT.out.grows hWI.out).keptO (hOi.out.alloc (.cells #[.int .u64 (id : Int)] 25)) hby6).keptG hset hcg
          have hmf : MapL Tryz.prog 9 3 (w6.setCell ⟨gb, kT * 4 + 3, none⟩ (.slice A6 PI.length c6)) MB (stepG rec id cf (namesAt p.pol) sq r).place.length (placeL (stepG rec id cf (namesAt p.pol) sq r).place) := by rw [hNS.out]; exact hM7
          replace hR7 := Lib.hid hR7
          replace hE7 := Lib.hid hE7
          replace hmf := Lib.hid hmf
          replace hrf := Lib.hid hrf
          clear hM7 hset hcg hrow6 hOg6 hO6 hby6 hv6 hcr hxr hfr hOi hOg hgr2 hgx2 hNS hMT hrsT hIT hRT hET hWI cIn hadd
          generalize hPL : PI.length = PLn at *
          go_wp2
          go_roundw
          case rel => exact ⟨q + 1, _, vsT, _, by omega, by go_num, Lib.hid hsn.out.symm, hIN, hrf, hR7, hmf, hE7⟩
          case measure => simp [intOf]; omega
    · obtain rfl : q = Fn := by omega
      have hsq2 := hsq.out
      rw [List.take_of_length_le (by rw [hFl.out]; exact Nat.le_refl _)] at hsq2
      subst hsq2
      rw [← hFl.out] at hI
      have hB := Lib.hid hE.out.B
      have hG := Lib.hid hE.out.G
      clear hsq hE
      go_wp2
      first
        | exact ⟨vs', rs', hI, hrs, hR, hM, hB, hG⟩
        | exact hexit _ _ _ _ _ _ _ _ _ _ _ _ _ _ _ _ _ _ _ _ _ _ _ _ _ _ _ _ _ _ _ _ _ _ _ _ _ _ _ _ _ _ _ _ _ _ _ _ _ _ _ _ _ _ _ _ _ _ _ _ _ _ _ _ _ _ _ _ _ _ _ _ _ _ _ _ _ _ _ _ _ _ _ _ _ _ ⟨vs', rs', hI, hrs, hR, hM, hB, hG⟩
end Go.Proofs.YtfoffneipdkdjaaGreatDoor
namespace Go.Proofs.YtfoffneipdkdjaaGreatDoor
open Go.RowKit

theorem fieldsB_info {l : List Fld} (h : fieldsB l = true) : l.length ≤ 8 ∧ ∀ f ∈ l, nameB f.n = true ∧ f.v.length ≤ 200 := by
  unfold fieldsB at h
  simp only [Bool.and_eq_true, decide_eq_true_eq, List.all_eq_true] at h
  exact ⟨h.2, fun f hf => h.1.1 f hf⟩
theorem nameB_len {n : List UInt8} (h : nameB n = true) : 1 ≤ n.length ∧ n.length ≤ 12 := by
  unfold nameB at h
  simp only [Bool.and_eq_true, decide_eq_true_eq] at h
  omega
end Go.Proofs.YtfoffneipdkdjaaGreatDoor
namespace Go.Proofs.YtfoffneipdkdjaaGreatDoor
open Go.RowKit Go.Maps

def alertG (ft : List Fld → Mat → Bool) (p : Pol) (rec : List UInt8) (now : Int) (st : GSt) (a : Alr) : GSt := match seesA p rec a now with
  | none => st
  | some c => (fitsL ft p rec c.fs).foldl (stepG rec (idA c) c.fs (namesAt p)) st
def groupsSt (ft : List Fld → Mat → Bool) (p : Pol) (rec : List UInt8) (l : List Alr) (now : Int) : GSt := l.foldl (alertG ft p rec now) ⟨List.replicate p.routes.length [], []⟩
def groupsL (fb : Mat → Bool) (ft : List Fld → Mat → Bool) (p : Pol) (rec : List UInt8) (l : List Alr) (now : Int) : List Grp := if checkL fb p = 0 then (groupsSt ft p rec l now).rooms.flatten else []
/-- Groups, where they lie. -/
def GrpsAt (w : World) (b0 : Nat) (gs : List GrpX) : Prop := ∀ x ∈ gs, Own w b0 25 1 encU x.iv x.ids ∧ Own w b0 76 2 encF x.bv x.by_
theorem check_ok {fb : Mat → Bool} {p : Pol} (h : checkL fb p = 0) : longB p = false ∧ badB fb p = false := by
  unfold checkL at h
  split at h
  · cases h
  · split at h
    · cases h
    · rename_i h1 h2; exact ⟨by simpa using h1, by simpa using h2⟩
theorem longB_ok {p : Pol} (h : longB p = false) : p.routes.length ≤ 12 ∧ p.inhibits.length ≤ 12 := by
  unfold longB at h
  simp only [Bool.or_eq_false_iff, decide_eq_false_iff_not] at h
  omega
theorem find_mem2 {l : List Nam} {n : List UInt8} {y : Lab} (h : findL l n = some y) : ∃ x ∈ l, x.n = n ∧ x.l = y := by
  unfold findL at h
  obtain ⟨x, hx, rfl⟩ := Option.map_eq_some_iff.1 h
  exact ⟨x, List.mem_of_find?_eq_some hx, by simpa using List.find?_some hx, rfl⟩
theorem badB_names {fb : Mat → Bool} {p : Pol} (h : badB fb p = false) : namedB p.receivers = true := by
  unfold badB listsOf at h
  simp only [List.any_cons, List.any_nil, Bool.or_eq_false_iff, Bool.not_eq_false'] at h
  exact h.1.2.1
theorem sees_info {fb : Mat → Bool} {p : Pol} {rec : List UInt8} {a c : Alr} {now : Int} (hck : checkL fb p = 0) (h : seesA p rec a now = some c) :
    rec.length ≤ 12 ∧ c.src.length ≤ 12 ∧ c.fs.length ≤ 8 ∧ ∀ f ∈ c.fs, f.n.length + f.v.length ≤ 1000 := by
  unfold seesA at h
  cases hf : findL p.receivers rec with
  | none => rw [hf] at h; cases h
  | some to =>
    rw [hf] at h
    simp only at h
    obtain ⟨x, hx, hxn, _⟩ := find_mem2 hf
    have hn := badB_names (check_ok hck).2
    unfold namedB at hn
    simp only [Bool.and_eq_true] at hn
    have hxo := List.all_eq_true.1 hn.1 x hx
    unfold nameOk at hxo
    simp only [Bool.and_eq_true] at hxo
    have hrl := nameB_len hxo.1
    rw [hxn] at hrl
    split at h
    · rename_i hb
      simp only [Bool.and_eq_true] at hb
      have hab := hb.1
      unfold alertB at hab
      simp only [Bool.and_eq_true] at hab
      have hsl := nameB_len hab.1.1.1.1.1
      have hfi := fieldsB_info hab.1.1.1.2
      unfold cutA at h
      split at h
      · cases h
      · injection h with h
        subst h
        refine ⟨by omega, hsl.2, ?_, fun f hf => ?_⟩
        · have := visibleL_len p a.fs a.l to; have := hfi.1; simp only; omega
        · have hfm := (List.mem_filter.1 hf).1
          have := hfi.2 f hfm
          have := nameB_len this.1
          have := (hfi.2 f hfm).2
          omega
    · cases h
theorem fitsL_mem {ft : List Fld → Mat → Bool} {p : Pol} {rec : List UInt8} {fs : List Fld} : (∀ r ∈ fitsL ft p rec fs, r < p.routes.length) ∧ (fitsL ft p rec fs).length ≤ p.routes.length :=
  ⟨fun r hr => by
    unfold fitsL fitsTo at hr
    have := (List.mem_filter.1 hr).1
    simpa using this, fitsTo_len _ _ _ _ _⟩
def gslOf (v : Value) (gs : List GrpX) : Gsl := match v with
  | .slice A n c => ⟨A, n, c, gs⟩
  | _ => ⟨none, 0, 0, gs⟩
theorem catG_zip : ∀ (vs : List Value) (rs : List (List GrpX)), vs.length = rs.length → catG (List.zipWith gslOf vs rs) = rs.flatten
  | [], [], _ => rfl
  | v :: vs, gs :: rs, h => by
    have ih := catG_zip vs rs (by simpa using h)
    have hx : (gslOf v gs).xs = gs := by unfold gslOf; split <;> rfl
    unfold catG at ih ⊢
    rw [List.zipWith_cons_cons, List.flatMap_cons, ih, hx, List.flatten_cons]
  | [], _ :: _, h => by simp at h
  | _ :: _, [], h => by simp at h
theorem rooms_bs {w : World} {b0 RB : Nat} {vs : List Value} {rs : List (List GrpX)} (h : RoomsAt w b0 RB vs rs) : ∃ bs, Arr w 1 encGs (some ⟨RB, 0, none⟩) rs.length bs ∧ (∀ b ∈ bs, Arr w 4 encG b.A b.n b.xs) ∧ catG bs = rs.flatten := by
  have hz : (List.zipWith gslOf vs rs).length = rs.length := by rw [List.length_zipWith, h.len, Nat.min_self]
  have key : ∀ (i : Nat) (b : Gsl), (List.zipWith gslOf vs rs)[i]? = some b → ∃ A n c gs, vs[i]? = some (.slice A n c) ∧ b = ⟨A, n, c, gs⟩ ∧ Arr w 4 encG A n gs := fun i b hb => by
    have hi : i < rs.length := by have := (List.getElem?_eq_some_iff.1 hb).1; rw [hz] at this; exact this
    have h1 : vs[i]? = some (vs[i]'(by rw [h.len]; exact hi)) := List.getElem?_eq_getElem _
    have h2 : rs[i]? = some rs[i] := List.getElem?_eq_getElem hi
    obtain ⟨A, c, hv, _, _, ha⟩ := (h.own i _ _ h1 h2).arr hkG
    rw [List.getElem?_zipWith, h1, h2] at hb
    simp only [Option.some.injEq] at hb
    rw [hv] at h1 hb
    exact ⟨A, _, c, rs[i], h1, hb.symm, ha⟩
  refine ⟨List.zipWith gslOf vs rs, ⟨hz, fun _ => ⟨RB, 0, rfl, h.lt, fun i hi j u hu => ?_⟩⟩, fun b hb => ?_, catG_zip vs rs h.len⟩
  · obtain ⟨A, n, c, gs, h1, h2, _⟩ := key i _ (List.getElem?_eq_getElem hi)
    rw [h2] at hu
    have hj : j = 0 := by have := (List.getElem?_eq_some_iff.1 hu).1; simp [encGs] at this; omega
    subst hj
    simp only [encGs, List.getElem?_cons_zero, Option.some.injEq] at hu
    subst hu
    simpa using h.cell h1
  · obtain ⟨i, hi⟩ := List.getElem?_of_mem hb
    obtain ⟨A, n, c, gs, _, h2, h3⟩ := key i b hi
    subst h2; exact h3
theorem flatten_len {α : Type} {B : Nat} : ∀ l : List (List α), (∀ x ∈ l, x.length ≤ B) → l.flatten.length ≤ l.length * B
  | [], _ => by simp
  | x :: l, h => by
    have := flatten_len l (fun y hy => h y (by simp [hy]))
    have := h x (by simp)
    simp only [List.flatten_cons, List.length_append, List.length_cons, Nat.add_mul]
    omega
set_option maxRecDepth 100000 in
set_option maxHeartbeats 12800000 in
theorem groups_any {fb : Mat → Bool} {ft : List Fld → Mat → Bool} {p : PolX} {rec : List UInt8} {lA : Option Addr} {lm lk : Nat} {xs : List AlrX} {now : Int} (w : World) (he : LibEnv w) (hp : p.At w) (hfb : FinesOK fb p) (hft : FitssOK ft p)
    (hA : Arr w 6 encA lA lm xs) (hat : ∀ a ∈ xs, a.At w) (hlm : lm ≤ 1000) :
    Calls Tryz.prog 15 #[p.val, .string ⟨rec.toArray⟩, .slice lA lm lk, .int .i64 now] w fun e w' => ∃ v gs, e = .returned v ∧ OwnG w' w.heap.size v gs ∧ GrpsAt w' w.heap.size gs ∧ gs.map GrpX.g = groupsL fb ft p.pol rec (xs.map (·.a)) now ∧ Grows w w' := by
  have cK := fun W (hW : Grows w W) => check_any W (hp.keep hW) hfb
  have hGL : groupsL fb ft p.pol rec (xs.map (·.a)) now = if checkL fb p.pol = 0 then (groupsSt ft p.pol rec (xs.map (·.a)) now).rooms.flatten else [] := rfl
  generalize groupsL fb ft p.pol rec (xs.map (·.a)) now = GL at *
  by_cases hck : checkL fb p.pol = 0
  · rw [hck] at cK
    rw [if_pos hck] at hGL
    have hom : p.om ≤ 12 := by have := (longB_ok (check_ok hck).1).1; rw [show p.pol.routes = p.o.map (·.r) from rfl, List.length_map, hp.o.1] at this; exact this
    have hrl : p.pol.routes.length = p.om := by rw [show p.pol.routes = p.o.map (·.r) from rfl, List.length_map, hp.o.1]
    have cS := fun (a : AlrX) (ha : a ∈ xs) W (hW : Grows w W) => sees_any (rec := rec) (now := now) W (hp.keep hW) ((hat a ha).keep hW)
    have cF := fun (c : AlrX) W (hW : Grows w W) (hcA : Arr W 2 encF c.A c.m c.a.fs) (hcm : c.m ≤ 9223372036854775807) (hT : ∀ f ∈ c.a.fs, f.v.length ≤ 1000000) => fits_any (rec := rec) (a := c) W (hp.keep hW) hcA hcm hT (by omega) hft
    have hml := hA.1
    have hmk := run_make_row' (P := Tryz.prog) 88 43 (.slice none 0 0) 24 Tryz.underlying88 (by kernel_rfl) rfl .i64 .i64 p.om (by omega) (by omega)
    have hmm := @run_makeMap Tryz.prog
    have hst0 : groupsSt ft p.pol rec (xs.map (·.a)) now = (xs.map (·.a)).foldl (alertG ft p.pol rec now) ⟨List.replicate p.om [], []⟩ := by
      unfold groupsSt; rw [hrl]
    unfold PolX.val at cK cS cF ⊢
    replace cK := Lib.hid (fun W => cK W)
    replace cS := Lib.hid cS
    replace cF := Lib.hid cF
    replace hA := Lib.hid hA
    replace he := Lib.hid he
    replace hp := Lib.hid hp
    replace hGL := Lib.hid hGL
    replace hst0 := Lib.hid hst0
    replace hml := Lib.hid hml
    replace hck := Lib.hid hck
    replace hrl := Lib.hid hrl
    replace hat := Lib.hid hat
    clear hfb
    go_enter Tryz.func15, Tryz.ntmps15
    go_wp2_with fail
    refine (cK.out _ (by
      repeat (first | assumption | exact Grows.refl _ | apply Grows.drew | apply Grows.drewN | refine Grows.alloc ?_ _ | (refine Grows.setCell ?_ (by first | (simp; done) | (simp; omega) | omega) _) | (refine Grows.trans ?_ (by assumption)))
    )).mono ?_
    rintro e w1 ⟨rfl, hb1⟩
    have hB1 : Hid (Blk w1 w.heap.size 32 p.cells.toArray) := Lib.hid ((Blk.new w _ _).grows hb1)
    have hG1 : Hid (Grows w w1) := Lib.hid (((Grows.refl w).alloc _).trans hb1)
    have q4 : w1.cell? ⟨w.heap.size, 4, none⟩ = some (.slice p.oA p.om p.ok) := hB1.out.cell 4
    have qz := hB1.out.lt
    clear cK hb1
    go_wp2
    clear hmk hmm
    have hRB : (((w1.alloc (.cells (madeCells #[.slice none 0 0] p.om) 43)).alloc (.map #[] 0))).heap[w1.heap.size]? = some (.cells (madeCells #[.slice none 0 0] p.om) 43 (0, 0)) := by
      rw [heap_alloc_old _ _ (by simp)]; exact heap_alloc_new w1 _
    have hsz1 := Lib.hid hG1.out.size
    replace hRB := Lib.hid hRB
    go_loopw [12, 13, 14, 15, 17, 18, 19, 20, 21, 22, 23, 24, 35, 54, 55, 56] (fun _ _ _ _ _ _ _ _ _ _ _ _ i _ _ _ wr => ∃ (k : Nat) (st : GSt) (vs : List Value) (rs : List (List GrpX)), k ≤ lm ∧ i = .int .i64 k ∧ Hid (st = ((xs.map (·.a)).take k).foldl (alertG ft p.pol rec now) ⟨List.replicate p.om [], []⟩) ∧ Hid (GInv p.om (24 * k) st) ∧ Hid (rs.map (·.map GrpX.g) = st.rooms) ∧
      Hid (RoomsAt wr w.heap.size w1.heap.size vs rs) ∧ Hid (MapL Tryz.prog 9 3 wr (w1.heap.size + 1) st.place.length (placeL st.place)) ∧ Hid (Blk wr w.heap.size 32 p.cells.toArray) ∧ Hid (Grows w wr)) (fun _ _ _ _ _ _ _ _ _ _ _ _ i _ _ _ _ => lm - (intOf i).toNat)
    case atStart =>
      refine ⟨0, _, _, _, by omega, rfl, rfl, GInv.start _, ?_, RoomsAt.start hRB.out, ?_, (hB1.out.alloc _).alloc _, (hG1.out.alloc _).alloc _⟩
      · show _ = _; simp
      · have := MapL.made (w1.alloc (.cells (madeCells #[.slice none 0 0] p.om) 43)) Tryz.prog 9 3
        show MapL _ _ _ _ _ _ _
        simpa [placeL] using this
    case round =>
      clear hRB hB1 hG1 q4 qz
      obtain ⟨k, st, vs, rs, hk, rfl, hst, hI, hrs, hR, hM, hB, hG⟩ := hrel
      by_cases hkm : k < lm
      · obtain ⟨bb, off, x, rfl, hsx, hx, hcell⟩ := (hA.out.keep hG.out).at_ hkm
        have c0 : wr.cell? ⟨bb, off + k * 6, none⟩ = some (.string ⟨x.a.src.toArray⟩) := hcell 0 _ rfl
        have c1 : wr.cell? ⟨bb, off + k * 6 + 1, none⟩ = some (.slice x.A x.m x.k) := hcell 1 _ rfl
        have c2 : wr.cell? ⟨bb, off + k * 6 + 2, none⟩ = some (.int .i64 x.a.l.lv) := hcell 2 _ rfl
        have c3 : wr.cell? ⟨bb, off + k * 6 + 3, none⟩ = some (.int .u32 (x.a.l.c : Int)) := hcell 3 _ rfl
        have c4 : wr.cell? ⟨bb, off + k * 6 + 4, none⟩ = some (.int .i64 x.a.f) := hcell 4 _ rfl
        have c5 : wr.cell? ⟨bb, off + k * 6 + 5, none⟩ = some (.int .i64 x.a.t) := hcell 5 _ rfl
        have hki : (k : Int) < (lm : Int) := by omega
        have hxm := List.mem_of_getElem? hx
        have hxa : (xs.map (·.a))[k]? = some x.a := by rw [List.getElem?_map, hx]; rfl
        have hsn := foldl_take (f := alertG ft p.pol rec now) (b := (⟨List.replicate p.om [], []⟩ : GSt)) hxa
        rw [← hst.out] at hsn
        have hag : alertG ft p.pol rec now st x.a = match seesA p.pol rec x.a now with
            | none => st
            | some c => (fitsL ft p.pol rec c.fs).foldl (stepG rec (idA c) c.fs (namesAt p.pol)) st := rfl
        have hinf := fun c => sees_info (c := c) (rec := rec) (a := x.a) (now := now) hck.out
        have cX := cS.out x hxm
        unfold valA at cX
        generalize seesA p.pol rec x.a now = S at *
        replace cX := Lib.hid cX
        replace hsn := Lib.hid hsn
        replace hinf := Lib.hid hinf
        replace hag := Lib.hid hag
        clear hcell hx hxm hxa hst
        have p0 := hB.out.cell 0
        have p1 := hB.out.cell 1
        have p2 := hB.out.cell 2
        have p3 := hB.out.cell 3
        have p4 := hB.out.cell 4
        have p5 := hB.out.cell 5
        have pz := hB.out.lt
        unfold PolX.cells at p0 p1 p2 p3 p4 p5
        simp only [List.getElem?_toArray, List.getElem?_cons_zero, List.getElem?_cons_succ] at p0 p1 p2 p3 p4 p5
        go_wp2_with fail
        refine (cX.out _ (by
          have hG := hG.out
          repeat (first | assumption | exact Grows.refl _ | apply Grows.drew | apply Grows.drewN | refine Grows.alloc ?_ _ | (refine Grows.setCell ?_ (by first | (simp; done) | (simp; omega) | omega) _) | (refine Grows.trans ?_ (by assumption)))
        )).mono ?_
        rintro e w2 ⟨v, rfl, hv, hb2⟩
        have hG2 := Lib.hid ((hG.out.alloc (.cells #[.string ⟨x.a.src.toArray⟩, .slice x.A x.m x.k, .int .i64 x.a.l.lv, .int .u32 (x.a.l.c : Int), .int .i64 x.a.f, .int .i64 x.a.t] 50)).trans hb2)
        have hgr := ((Grows.refl wr).alloc (.cells #[.string ⟨x.a.src.toArray⟩, .slice x.A x.m x.k, .int .i64 x.a.l.lv, .int .u32 (x.a.l.c : Int), .int .i64 x.a.f, .int .i64 x.a.t] 50)).trans hb2
        replace hR := Lib.hid (hR.out.grows hgr)
        replace hM := Lib.hid (hM.out.grows hgr)
        replace hB := Lib.hid (hB.out.grows hgr)
        have hszr := hG.out.size
        clear cX p0 p1 p2 p3 p4 p5 pz c0 c1 c2 c3 c4 c5 hG
        cases S with
        | none =>
          have hag2 := hag.out
          simp only at hag2
          obtain rfl : v = noneA := hv
          unfold noneA
          clear hag hinf hgr hb2
          have hst2 : Hid (st = ((xs.map (·.a)).take (k + 1)).foldl (alertG ft p.pol rec now) ⟨List.replicate p.om [], []⟩) := Lib.hid (by rw [hsn.out, hag2])
          have hI2 := Lib.hid (hI.out.mono (show 24 * k ≤ 24 * (k + 1) by omega))
          have hW : Grows w2 (w2.alloc (.cells #[.string ⟨#[]⟩, .slice none 0 0, .int .i64 0, .int .u32 0, .int .i64 0, .int .i64 0] 50)) := (Grows.refl w2).alloc _
          go_wp2
          go_roundw
          case rel => exact ⟨k + 1, st, vs, rs, by omega, by go_num, hst2, hI2, hrs, hR.out.grows hW, hM.out.grows hW, hB.out.grows hW, hG2.out.trans hW⟩
          case measure => simp [intOf]; omega
        | some c =>
          have hag2 := Lib.hid hag.out
          have hi := hinf.out c rfl
          obtain ⟨A', c', rfl, hO⟩ := hv
          have hO2 := hO.base_le (base' := w.heap.size) (by simp; omega)
          unfold valA
          have hcl := hi.2.2.1
          obtain ⟨csrc, cfs, ⟨clv, clc⟩, cf0, ct0⟩ := c
          simp only at hO2 hag2 hi hcl ⊢
          obtain ⟨_, _, hvv, _, _, hA2⟩ := hO2.arr hkF
          simp only [Value.slice.injEq] at hvv
          obtain ⟨rfl, _, rfl⟩ := hvv
          clear hag hinf hO hgr hb2
          have hW : Grows w2 (w2.alloc (.cells #[.string ⟨csrc.toArray⟩, .slice A' cfs.length c', .int .i64 clv, .int .u32 (clc : Int), .int .i64 cf0, .int .i64 ct0] 50)) := (Grows.refl w2).alloc _
          have hC := Lib.hid (Blk.new w2 50 #[.string ⟨csrc.toArray⟩, .slice A' cfs.length c', .int .i64 clv, .int .u32 (clc : Int), .int .i64 cf0, .int .i64 ct0])
          have cI := id_any (a := ⟨⟨csrc, cfs, ⟨clv, clc⟩, cf0, ct0⟩, A', cfs.length, c'⟩) _ (hA2.keep hW) (by simp only; omega) (by simp only; omega) hi.2.2.2
          have cG := fun W (hX : Grows w2 W) => cF.out ⟨⟨csrc, cfs, ⟨clv, clc⟩, cf0, ct0⟩, A', cfs.length, c'⟩ W (hG2.out.trans hX) (hA2.keep hX) (by simp only; omega) (fun f hf => by have := hi.2.2.2 f hf; omega)
          unfold valA at cI cG
          simp only at cI cG
          have hfm := fitsL_mem (ft := ft) (p := p.pol) (rec := rec) (fs := cfs)
          rw [hrl.out] at hfm
          generalize idA ⟨csrc, cfs, ⟨clv, clc⟩, cf0, ct0⟩ = id at *
          generalize fitsL ft p.pol rec cfs = F at *
          replace cI := Lib.hid cI
          replace cG := Lib.hid cG
          replace hfm := Lib.hid hfm
          replace hR := Lib.hid (hR.out.grows hW)
          replace hM := Lib.hid (hM.out.grows hW)
          replace hB := Lib.hid (hB.out.grows hW)
          replace hO2 := Lib.hid (hO2.grows hW)
          have hG3 := Lib.hid (hG2.out.trans hW)
          replace hW := Lib.hid hW
          have hcf := Lib.hid (show cfs.length ≤ 8 ∧ ∀ f ∈ cfs, f.n.length + f.v.length ≤ 1000 from ⟨hcl, hi.2.2.2⟩)
          have hrec := Lib.hid (show rec.length ≤ 1000 by have := hi.1; omega)
          clear hA2 hi hcl hG2
          go_wp2_with fail
          refine (cI.out).mono ?_
          rintro e w3 ⟨rfl, hb3⟩
          replace hC := Lib.hid (hC.out.grows hb3)
          replace hB := Lib.hid (hB.out.grows hb3)
          have x0 : _ = some (Value.string ⟨csrc.toArray⟩) := hC.out.cell 0
          have x1 : _ = some (Value.slice A' cfs.length c') := hC.out.cell 1
          have x2 : _ = some (Value.int .i64 clv) := hC.out.cell 2
          have x3 : _ = some (Value.int .u32 (clc : Int)) := hC.out.cell 3
          have x4 : _ = some (Value.int .i64 cf0) := hC.out.cell 4
          have x5 : _ = some (Value.int .i64 ct0) := hC.out.cell 5
          have xz := hC.out.lt
          have p0 := hB.out.cell 0
          have p1 := hB.out.cell 1
          have p2 := hB.out.cell 2
          have p3 := hB.out.cell 3
          have p4 := hB.out.cell 4
          have p5 := hB.out.cell 5
          have pz := hB.out.lt
          unfold PolX.cells at p0 p1 p2 p3 p4 p5
          simp only [List.getElem?_toArray, List.getElem?_cons_zero, List.getElem?_cons_succ] at p0 p1 p2 p3 p4 p5
          clear cI
          go_wp2_with fail
          refine (cG.out _ (hW.out.trans hb3)).mono ?_
          rintro e w4 ⟨fv, rfl, hOf, hb4⟩
          obtain ⟨fA, fk, rfl, _, _, hA4⟩ := hOf.arr hkI
          have hg4 := hb3.trans hb4
          have hsz3 := hG3.out.size
          have hE : Hid (GEnv w p.cells.toArray w2.heap.size #[.string ⟨csrc.toArray⟩, .slice A' cfs.length c', .int .i64 clv, .int .u32 (clc : Int), .int .i64 cf0, .int .i64 ct0] (.slice fA F.length fk) F (.slice A' cfs.length c') cfs w4) :=
            Lib.hid ⟨hG3.out.trans hg4, hB.out.grows hb4, hC.out.grows hb4, hOf.base_le (by have := hG3.out.size; have := hb3.size; omega), hO2.out.grows hg4⟩
          have hR4 := Lib.hid (hR.out.grows hg4)
          have hM4 := Lib.hid (hM.out.grows hg4)
          clear cG hR hM hB hC hO2 hOf hb3 hb4 hg4 hA4 x0 x1 x2 x3 x4 x5 xz p0 p1 p2 p3 p4 p5 pz hG3 hsz3 hW
          have hj : Hid (24 * k ≤ 24000) := Lib.hid (by omega)
          have hRBs : Hid (w.heap.size ≤ w1.heap.size) := hsz1
          have hMBs : Hid (w.heap.size ≤ w1.heap.size + 1) := Lib.hid (by have := hsz1.out; omega)
          have hF : Hid ((∀ r ∈ F, r < p.om) ∧ F.length ≤ 12) := Lib.hid ⟨hfm.out.1, by have := hfm.out.2; omega⟩
          have hcc : Hid ((#[.string ⟨csrc.toArray⟩, .slice A' cfs.length c', .int .i64 clv, .int .u32 (clc : Int), .int .i64 cf0, .int .i64 ct0] : Array Value)[1]? = some (.slice A' cfs.length c')) := Lib.hid rfl
          generalize hFn : F.length = Fn at *
          replace hFn := Lib.hid hFn
          go_wp2
          refine groups_l1 he hp hE hcc hR4 hM4 hRBs hMBs hI hj hrs (by rw [hFn.out]; exact hF) hrec hcf hom (by intro c a d v w h; cases d <;> exact h) ?_
          rintro u17 u18 u19 u20 u21 u22 u23 u24 u56 u57 u58 u59 u60 u61 u62 u63 u64 u65 u66 u67 u68 u69 u70 u71 u72 u73 u74 u75 u76 u77 u78 u79 u80 u81 u82 u83 u84 u85 u86 u87 u88 u89 u90 u91 u92 u93 u94 u95 u96 u97 u98 u99 u100 u101 u102 u103 u104 u105 u106 u107 u108 u109 u110 u111 u112 u113 u114 u115 u116 u117 u118 u119 u120 u121 u122 u123 u124 u125 u126 u127 u128 u129 u130 u131 u132 wz ⟨vs', rs', hI', hrs', hR', hM', hB', hG'⟩
          have hst2 : Hid (F.foldl (stepG rec id cfs (namesAt p.pol)) st = ((xs.map (·.a)).take (k + 1)).foldl (alertG ft p.pol rec now) ⟨List.replicate p.om [], []⟩) := Lib.hid (by rw [hsn.out]; exact hag2.out.symm)
          have hI2 := Lib.hid (hI'.out.mono (show 24 * k + 2 * F.length ≤ 24 * (k + 1) by have := hF.out.2; have := hFn.out; omega))
          clear hE hR4 hM4 hI hrs hI' hF hcc hcf hrec hag2 hsn hfm hj hszr
          go_wp2
          go_roundw
          case rel => exact ⟨k + 1, _, vs', rs', by omega, by go_num, hst2, hI2, hrs', hR', hM', hB', hG'⟩
          case measure => simp [intOf]; omega
      · obtain rfl : k = lm := by omega
        obtain ⟨bs, hbA, hbs, hcat⟩ := rooms_bs hR.out
        have hrl2 : rs.length = p.om := by have := hI.out.len; rw [← hrs.out, List.length_map] at this; exact this
        rw [hrl2] at hbA
        have hlen : (catG bs).length ≤ 1000000000 := by
          rw [hcat]
          have := flatten_len (B := 24000) rs (fun gs hgs => by
            obtain ⟨r, hr⟩ := List.getElem?_of_mem hgs
            have h1 : st.rooms[r]? = some (gs.map GrpX.g) := by rw [← hrs.out, List.getElem?_map, hr]; rfl
            have := hI.out.mr r _ h1
            rw [List.length_map] at this
            omega)
          rw [hrl2] at this
          have h3 : p.om * 24000 ≤ 12 * 24000 := Nat.mul_le_mul_right _ hom
          omega
        have cC := concatG_any (c := p.om) wr hbA hbs hlen (by omega)
        rw [hcat] at cC
        have hfin : (rs.flatten).map GrpX.g = GL := by
          rw [hGL.out, hst0.out, List.map_flatten, hrs.out, hst.out, List.take_of_length_le (by rw [List.length_map, hml.out]; exact Nat.le_refl _)]
        replace cC := Lib.hid cC
        replace hfin := Lib.hid hfin
        clear hbA hbs hcat hlen hM hB hI hrs hst hrl2
        go_wp2_with fail
        refine (cC.out).mono ?_
        rintro e w6 ⟨v6, rfl, hO6, hb6⟩
        go_wp2
        go_ret
        refine ⟨v6, rs.flatten, rfl, hO6.base_le hG.out.size, fun x hx => ?_, hfin.out, hG.out.trans hb6⟩
        obtain ⟨gs, hgs, hxg⟩ := List.mem_flatten.1 hx
        obtain ⟨r, hr⟩ := List.getElem?_of_mem hgs
        obtain ⟨i, hi⟩ := List.getElem?_of_mem hxg
        exact ⟨(hR.out.ids r gs i x hr hi).grows hb6, (hR.out.flds r gs i x hr hi).grows hb6⟩
  · rw [if_neg hck] at hGL
    subst hGL
    have hne : (checkL fb p.pol == 0) = false := by simpa using hck
    unfold PolX.val at cK ⊢
    generalize checkL fb p.pol = CK at *
    replace cK := Lib.hid cK
    clear hck hp hfb hft hA hat he
    go_enter Tryz.func15, Tryz.ntmps15
    go_wp2_with fail
    refine (cK.out _ (by
      repeat (first | assumption | exact Grows.refl _ | apply Grows.drew | apply Grows.drewN | refine Grows.alloc ?_ _ | (refine Grows.setCell ?_ (by first | (simp; done) | (simp; omega) | omega) _) | (refine Grows.trans ?_ (by assumption)))
    )).mono ?_
    rintro e w1 ⟨rfl, hb1⟩
    have hG1 : Grows w w1 := ((Grows.refl w).alloc _).trans hb1
    go_wp2
    go_ret
    exact ⟨_, [], rfl, Own.nil_ _ _ _ _ _, fun x hx => absurd hx (by simp), rfl, hG1⟩
end Go.Proofs.YtfoffneipdkdjaaGreatDoor
namespace Go.Proofs.YtfoffneipdkdjaaGreatDoor
open Go.RowKit Go.Maps

def goesL (fb : Mat → Bool) (ft : List Fld → Mat → Bool) (p : Pol) (rec : List UInt8) (a : Alr) (now : Int) : List Nat := match seesA p rec a now with
  | none => []
  | some c => if checkL fb p = 0 then fitsL ft p rec c.fs else []
set_option maxRecDepth 100000 in
set_option maxHeartbeats 6400000 in
theorem goes_any {fb : Mat → Bool} {ft : List Fld → Mat → Bool} {p : PolX} {rec : List UInt8} {a : AlrX} {now : Int} (w : World) (hp : p.At w) (hfb : FinesOK fb p) (hft : FitssOK ft p) (ha : a.At w) :
    Calls Tryz.prog 18 #[p.val, .string ⟨rec.toArray⟩, valA a, .int .i64 now] w fun e w' => ∃ v, e = .returned v ∧ Own w' w.heap.size 3 1 encI v (goesL fb ft p.pol rec a.a now) ∧ Grows w w' := by
  have cS := fun W (hW : Grows w W) => sees_any (rec := rec) (now := now) W (hp.keep hW) (ha.keep hW)
  have cK := fun W (hW : Grows w W) => check_any W (hp.keep hW) hfb
  have cF := fun (hom : p.om ≤ 1000) (c : AlrX) W (hW : Grows w W) (hcA : Arr W 2 encF c.A c.m c.a.fs) (hcm : c.m ≤ 9223372036854775807) (hT : ∀ f ∈ c.a.fs, f.v.length ≤ 1000000) => fits_any (rec := rec) (a := c) W (hp.keep hW) hcA hcm hT hom hft
  have hGo : goesL fb ft p.pol rec a.a now = match seesA p.pol rec a.a now with
      | none => []
      | some c => if checkL fb p.pol = 0 then fitsL ft p.pol rec c.fs else [] := rfl
  have hinf := fun c (h : checkL fb p.pol = 0) => sees_info (c := c) (rec := rec) (a := a.a) (now := now) h
  have hom : checkL fb p.pol = 0 → p.om ≤ 1000 := fun hck => by
    have := (longB_ok (check_ok hck).1).1; rw [show p.pol.routes = p.o.map (·.r) from rfl, List.length_map, hp.o.1] at this; omega
  generalize goesL fb ft p.pol rec a.a now = GO at *
  generalize seesA p.pol rec a.a now = S at *
  generalize checkL fb p.pol = CK at *
  have hcells : p.cells = [.slice p.s.A p.s.m p.s.k, .slice p.r.A p.r.m p.r.k, .slice p.e.A p.e.m p.e.k, .slice p.a.A p.a.m p.a.k, .slice p.oA p.om p.ok, .slice p.iA p.im p.ik] := rfl
  unfold PolX.val at cS cK cF ⊢
  unfold valA at cS ⊢
  replace cS := Lib.hid cS
  replace cK := Lib.hid cK
  replace cF := Lib.hid cF
  replace hGo := Lib.hid hGo
  replace hinf := Lib.hid hinf
  replace hom := Lib.hid hom
  replace hcells := Lib.hid hcells
  clear hp hfb hft ha
  go_enter Tryz.func18, Tryz.ntmps18
  go_wp2_with fail
  refine (cS.out _ (by
    repeat (first | assumption | exact Grows.refl _ | apply Grows.drew | apply Grows.drewN | refine Grows.alloc ?_ _ | (refine Grows.setCell ?_ (by first | (simp; done) | (simp; omega) | omega) _) | (refine Grows.trans ?_ (by assumption)))
  )).mono ?_
  rintro e w1 ⟨v, rfl, hv, hb1⟩
  have hB := Lib.hid (((Blk.new w 32 p.cells.toArray).alloc (.cells #[.string ⟨a.a.src.toArray⟩, .slice a.A a.m a.k, .int .i64 a.a.l.lv, .int .u32 (a.a.l.c : Int), .int .i64 a.a.f, .int .i64 a.a.t] 50)).grows hb1)
  have hG : Hid (Grows w w1) := Lib.hid ((((Grows.refl w).alloc _).alloc _).trans hb1)
  have hsz := Lib.hid (show w.heap.size + 1 + 1 ≤ w1.heap.size by have := hb1.size; simp at this; omega)
  cases S with
  | none =>
    have hGo2 := hGo.out
    simp only at hGo2
    subst hGo2
    obtain rfl : v = noneA := hv
    unfold noneA
    clear cK cF hinf hom hb1 hGo
    go_wp2
    go_ret
    exact ⟨_, rfl, Own.nil_ _ _ _ _ _, hG.out.alloc _⟩
  | some c =>
    have hGo2 := hGo.out
    simp only at hGo2
    obtain ⟨A', c', rfl, hO⟩ := hv
    have hO2 := hO.base_le (base' := w.heap.size) (by simp; omega)
    have hi := fun h => hinf.out c h rfl
    unfold valA
    obtain ⟨csrc, cfs, ⟨clv, clc⟩, cf0, ct0⟩ := c
    simp only at hO2 hGo2 hi ⊢
    obtain ⟨_, _, hvv, _, _, hA2⟩ := hO2.arr hkF
    simp only [Value.slice.injEq] at hvv
    obtain ⟨rfl, _, rfl⟩ := hvv
    have hW : Grows w1 (w1.alloc (.cells #[.string ⟨csrc.toArray⟩, .slice A' cfs.length c', .int .i64 clv, .int .u32 (clc : Int), .int .i64 cf0, .int .i64 ct0] 50)) := (Grows.refl w1).alloc _
    have hC := Lib.hid (Blk.new w1 50 #[.string ⟨csrc.toArray⟩, .slice A' cfs.length c', .int .i64 clv, .int .u32 (clc : Int), .int .i64 cf0, .int .i64 ct0])
    have cG := fun (h : p.om ≤ 1000) (hlen : cfs.length ≤ 1000) (hT : ∀ f ∈ cfs, f.v.length ≤ 1000000) W (hX : Grows w1 W) => cF.out h ⟨⟨csrc, cfs, ⟨clv, clc⟩, cf0, ct0⟩, A', cfs.length, c'⟩ W (hG.out.trans hX) (hA2.keep hX) (by simp only; omega) hT
    unfold valA at cG
    simp only at cG
    generalize fitsL ft p.pol rec cfs = F at *
    replace hi := Lib.hid hi
    replace cG := Lib.hid cG
    replace hW := Lib.hid hW
    replace hGo2 := Lib.hid hGo2
    replace hB := Lib.hid (hB.out.grows hW.out)
    have p0 := hB.out.cell 0
    have p1 := hB.out.cell 1
    have p2 := hB.out.cell 2
    have p3 := hB.out.cell 3
    have p4 := hB.out.cell 4
    have p5 := hB.out.cell 5
    have pz := hB.out.lt
    rw [hcells.out] at p0 p1 p2 p3 p4 p5
    simp only [List.getElem?_toArray, List.getElem?_cons_zero, List.getElem?_cons_succ] at p0 p1 p2 p3 p4 p5
    clear hO hb1 hA2 hO2 hinf hGo cF
    go_wp2_with fail
    refine (cK.out _ (hG.out.trans hW.out)).mono ?_
    rintro e w2 ⟨rfl, hb2⟩
    by_cases hck : CK = 0
    · have hGo3 := hGo2.out
      rw [if_pos hck] at hGo3
      subst hGo3
      have cG2 := Lib.hid (cG.out (hom.out hck) (by have := (hi.out hck).2.2.1; omega) (fun f hf => by have := (hi.out hck).2.2.2 f hf; omega))
      subst hck
      replace hB := Lib.hid (hB.out.grows hb2)
      replace hC := Lib.hid (hC.out.grows hb2)
      clear p0 p1 p2 p3 p4 p5 pz cG hi hGo2 hom
      have p0 := hB.out.cell 0
      have p1 := hB.out.cell 1
      have p2 := hB.out.cell 2
      have p3 := hB.out.cell 3
      have p4 := hB.out.cell 4
      have p5 := hB.out.cell 5
      have pz := hB.out.lt
      rw [hcells.out] at p0 p1 p2 p3 p4 p5
      simp only [List.getElem?_toArray, List.getElem?_cons_zero, List.getElem?_cons_succ] at p0 p1 p2 p3 p4 p5
      have x0 : _ = some (Value.string ⟨csrc.toArray⟩) := hC.out.cell 0
      have x1 : _ = some (Value.slice A' cfs.length c') := hC.out.cell 1
      have x2 : _ = some (Value.int .i64 clv) := hC.out.cell 2
      have x3 : _ = some (Value.int .u32 (clc : Int)) := hC.out.cell 3
      have x4 : _ = some (Value.int .i64 cf0) := hC.out.cell 4
      have x5 : _ = some (Value.int .i64 ct0) := hC.out.cell 5
      have xz := hC.out.lt
      have hX : Hid (Grows w1 w2) := Lib.hid (hW.out.trans hb2)
      clear hB hC
      go_wp2_with fail
      refine (cG2.out _ hX.out).mono ?_
      rintro e w3 ⟨fv, rfl, hOf, hb3⟩
      go_wp2
      go_ret
      exact ⟨fv, rfl, hOf.base_le (by have := hX.out.size; have := hsz.out; omega), hG.out.trans (hX.out.trans hb3)⟩
    · have hGo3 := hGo2.out
      rw [if_neg hck] at hGo3
      subst hGo3
      have hne : (CK == 0) = false := by simpa using hck
      clear hck hGo2 hi hom cG
      have hX : Grows w w2 := hG.out.trans (hW.out.trans hb2)
      go_wp2
      go_ret
      exact ⟨_, rfl, Own.nil_ _ _ _ _ _, hX⟩
end Go.Proofs.YtfoffneipdkdjaaGreatDoor
namespace Go.Proofs.YtfoffneipdkdjaaGreatDoor
open Go.RowKit

theorem goesL_quiet {fb : Mat → Bool} {ft : List Fld → Mat → Bool} {p : Pol} {rec : List UInt8} {a : Alr} {now : Int} (h : firesB a now = false) : goesL fb ft p rec a now = [] := by
  unfold goesL; rw [seesA_not (.inr h)]
theorem goesL_same {fb : Mat → Bool} {ft : List Fld → Mat → Bool} {p : Pol} {rec : List UInt8} {a : Alr} {n m : Int} (h : firesB a n = true) (h' : firesB a m = true) : goesL fb ft p rec a n = goesL fb ft p rec a m := by
  unfold goesL seesA; rw [h, h']
theorem goesL_at {fb : Mat → Bool} {ft : List Fld → Mat → Bool} {p : Pol} {rec : List UInt8} {a : Alr} {now : Int} {r : Nat} (h : r ∈ goesL fb ft p rec a now) : ∃ t, p.routes[r]? = some t ∧ t.r = rec := by
  unfold goesL at h
  split at h
  · cases h
  · split at h
    · unfold fitsL fitsTo at h
      obtain ⟨_, h2⟩ := List.mem_filter.1 h
      cases hr : p.routes[r]? with
      | none => rw [hr] at h2; simp at h2
      | some t =>
        rw [hr] at h2
        simp [fitsAt] at h2
        exact ⟨t, rfl, h2.1⟩
    · cases h
theorem goesL_len {fb : Mat → Bool} {ft : List Fld → Mat → Bool} {p : Pol} {rec : List UInt8} {a : Alr} {now : Int} : (goesL fb ft p rec a now).length ≤ p.routes.length := by
  unfold goesL
  split
  · exact Nat.zero_le _
  · split
    · exact fitsTo_len _ _ _ _ _
    · exact Nat.zero_le _
end Go.Proofs.YtfoffneipdkdjaaGreatDoor
