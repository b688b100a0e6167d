/-
  Contracts and laws, merged: CrossedM CrossedW.
  Conditions: none.
-/
import Derived.Test.YtmdledlbkdcmnaaM28
import Derived.Test.YtmdledlbkdcmnaaM23
import Derived.Test.YtmdledlbkdcmnaaM9
import Derived.Test.YtmdledlbkdcmnaaM26
set_option linter.unusedSimpArgs false
set_option linter.unusedVariables false
/-
  The walk of the statement on the crossing: the case of a crossing.
  Conditions: none.
-/
namespace Go.Proofs.Ytmdledlbkdcmnaa
open Go.RowKit
set_option linter.unusedSimpArgs false
set_option maxRecDepth 100000 in
set_option maxHeartbeats 4000000 in
theorem pathCrossed_main (v : Value) (l : List SN) (p : TR) (w : World) (h : Seens w v l) (hc : fewB l = true) (hf : fitT l p = true) (x0 x1 x2 x3 x4 x5 : Int) (hcr0 : ∀ w', Seens w' v l → Calls Try.prog 38 #[v] w' fun e w'' => e = .returned (.tuple #[.agg #[.int .i64 x0, .int .i64 x1, .int .i64 x2, .int .i64 x3, .int .i64 x4, .int .i64 x5], .int .i64 0]) ∧ Below w'.heap.size w' w'') (XA XB YA YB ZA ZB : Int × Int) (exa : ordA p.1 p.2.1 = XA) (exb : ordB p.1 p.2.1 = XB) (eya : ordA p.2.2.1 p.2.2.2.1 = YA) (eyb : ordB p.2.2.1 p.2.2.2.1 = YB) (eza : ordA p.2.2.2.2.1 p.2.2.2.2.2 = ZA) (ezb : ordB p.2.2.2.2.1 p.2.2.2.2.2 = ZB) (hL0 : CrsV XA XB) (V0 V1 DX : Int) (hV0 : 0 < V0) (hV1 : V1 < 0) (hc0 : ∀ w, Calls Try.prog 35 #[.agg #[.int .i64 XA.1, .int .i64 XA.2, .int .i64 XB.1, .int .i64 XB.2], .int .i64 x0] w fun e w' => e = .returned (.tuple #[.int .i64 V0, .int .i64 DX]) ∧ Below w.heap.size w w') (hc1 : ∀ w, Calls Try.prog 35 #[.agg #[.int .i64 XA.1, .int .i64 XA.2, .int .i64 XB.1, .int .i64 XB.2], .int .i64 x1] w fun e w' => e = .returned (.tuple #[.int .i64 V1, .int .i64 DX]) ∧ Below w.heap.size w w') (hCT : (0 ≤ XA.2 * XB.1 - XB.2 * XA.1 ∧ XA.2 - XB.2 ≤ 1048576 ∧ XA.2 * XB.1 - XB.2 * XA.1 ≤ 2147483648) → CrsT x0 x1 x2 x3 x4 x5 YA YB ZA ZB (XA.2 * XB.1 - XB.2 * XA.1) (XA.2 - XB.2)) : Calls Try.prog 12 #[v, (.agg #[.int .i64 p.1.1, .int .i64 p.1.2, .int .i64 p.2.1.1, .int .i64 p.2.1.2, .int .i64 p.2.2.1.1, .int .i64 p.2.2.1.2, .int .i64 p.2.2.2.1.1, .int .i64 p.2.2.2.1.2, .int .i64 p.2.2.2.2.1.1, .int .i64 p.2.2.2.2.1.2, .int .i64 p.2.2.2.2.2.1, .int .i64 p.2.2.2.2.2.2])] w fun e w' => e = .returned (.bool true) ∧ Below w.heap.size w w' := by
  have hfew := Lib.hid (fun w' (h : Seens w' v l) => by have := few_any v l w' h; rwa [hc] at this)
  have hfit := Lib.hid (fun w' (h : Seens w' v l) => by have := lfits_any v l p w' h; rwa [hf] at this)
  have hcr := Lib.hid hcr0
  have hfewA := hfew
  have eqXA := Lib.hid exa
  have eqXB := Lib.hid exb
  have eqYA := Lib.hid eya
  have eqYB := Lib.hid eyb
  have eqZA := Lib.hid eza
  have eqZB := Lib.hid ezb
  have hL := Lib.hid hL0
  have hv0 := Lib.hid hc0
  have hv1 := Lib.hid hc1
  have hct := Lib.hid hCT
  have hbig : (XA.2 * XB.1 - XB.2 * XA.1 < 0 ∨ 1048576 < XA.2 - XB.2 ∨ 2147483648 < XA.2 * XB.1 - XB.2 * XA.1) ∨ (0 ≤ XA.2 * XB.1 - XB.2 * XA.1 ∧ XA.2 - XB.2 ≤ 1048576 ∧ XA.2 * XB.1 - XB.2 * XA.1 ≤ 2147483648) := by omega
  clear exa exb eya eyb eza ezb hL0 hc0 hc1 hCT
  have hS := Lib.hid h
  clear hc h hcr0 hf
  go_enter Try.func12, Try.ntmps12
  go_wp2_with (first
    | (go_at_call 28; refine (awake33_any _).mono ?_; rintro e w1 ⟨rfl, hb1⟩; have hT := heap_alloc (X := (.cells #[.int .i64 0, .int .i64 0, .int .i64 0, .int .i64 0, .int .i64 0, .int .i64 0] 70)) (heap_old hb1 (heap_new w (.cells #[.int .i64 p.1.1, .int .i64 p.1.2, .int .i64 p.2.1.1, .int .i64 p.2.1.2, .int .i64 p.2.2.1.1, .int .i64 p.2.2.1.2, .int .i64 p.2.2.2.1.1, .int .i64 p.2.2.2.1.2, .int .i64 p.2.2.2.2.1.1, .int .i64 p.2.2.2.2.1.2, .int .i64 p.2.2.2.2.2.1, .int .i64 p.2.2.2.2.2.2] 26) rfl)); have hC := heap_new w1 (.cells #[.int .i64 0, .int .i64 0, .int .i64 0, .int .i64 0, .int .i64 0, .int .i64 0] 70) rfl; have hK1 := Below.next1 (Below.refl w.heap.size w) (Nat.le_refl _) hb1; have hK := hK1.alloc hK1.size (.cells #[.int .i64 0, .int .i64 0, .int .i64 0, .int .i64 0, .int .i64 0, .int .i64 0] 70); have hg : w.heap.size < w1.heap.size := (by have := hb1.size; simp at this; omega); clear hb1)
    | (go_at_call 29; have hx := hfewA.out _ (hS.out.below hK); clear hfewA; refine hx.mono ?_; clear hx; rintro e w2 ⟨rfl, hb2⟩; replace hT := heap_old hb2 hT; replace hC := heap_old hb2 hC; replace hK := Below.next hK (Nat.le_refl _) hb2; clear hb2; (have s0 := cell_heap (o := 0) hT rfl; have s1 := cell_heap (o := 1) hT rfl; have s2 := cell_heap (o := 2) hT rfl; have s3 := cell_heap (o := 3) hT rfl; have s4 := cell_heap (o := 4) hT rfl; have s5 := cell_heap (o := 5) hT rfl; have s6 := cell_heap (o := 6) hT rfl; have s7 := cell_heap (o := 7) hT rfl; have s8 := cell_heap (o := 8) hT rfl; have s9 := cell_heap (o := 9) hT rfl; have s10 := cell_heap (o := 10) hT rfl; have s11 := cell_heap (o := 11) hT rfl))
    | (go_at_call 38; refine (hcr.out _ (hS.out.below hK)).mono ?_; rintro e w3 ⟨rfl, hb3⟩; replace hT := heap_old hb3 hT; replace hC := heap_old hb3 hC; replace hK := Below.next hK (Nat.le_refl _) hb3; clear hb3; (clear s0 s1 s2 s3 s4 s5 s6 s7 s8 s9 s10 s11); have c0 := cell_heap (o := 0) hC rfl; have c1 := cell_heap (o := 1) hC rfl; have c2 := cell_heap (o := 2) hC rfl; have c3 := cell_heap (o := 3) hC rfl; have c4 := cell_heap (o := 4) hC rfl; have c5 := cell_heap (o := 5) hC rfl; have f0 := frozen_heap (o := 0) hC; have f1 := frozen_heap (o := 1) hC; have f2 := frozen_heap (o := 2) hC; have f3 := frozen_heap (o := 3) hC; have f4 := frozen_heap (o := 4) hC; have f5 := frozen_heap (o := 5) hC))
  (replace hC := heap_set (o := 5) (v := .int .i64 x5) (heap_set (o := 4) (v := .int .i64 x4) (heap_set (o := 3) (v := .int .i64 x3) (heap_set (o := 2) (v := .int .i64 x2) (heap_set (o := 1) (v := .int .i64 x1) (heap_set (o := 0) (v := .int .i64 x0) hC))))); simp only [List.setIfInBounds_toArray, List.set_cons_succ, List.set_cons_zero] at hC; replace hT := heap_set_other (g := w1.heap.size) (o := 5) (v := .int .i64 x5) (heap_set_other (g := w1.heap.size) (o := 4) (v := .int .i64 x4) (heap_set_other (g := w1.heap.size) (o := 3) (v := .int .i64 x3) (heap_set_other (g := w1.heap.size) (o := 2) (v := .int .i64 x2) (heap_set_other (g := w1.heap.size) (o := 1) (v := .int .i64 x1) (heap_set_other (g := w1.heap.size) (o := 0) (v := .int .i64 x0) hT (by omega)) (by omega)) (by omega)) (by omega)) (by omega)) (by omega); replace hK : Below w.heap.size w ((((((w3.setCell ⟨w1.heap.size, 0, none⟩ (.int .i64 x0)).setCell ⟨w1.heap.size, 1, none⟩ (.int .i64 x1)).setCell ⟨w1.heap.size, 2, none⟩ (.int .i64 x2)).setCell ⟨w1.heap.size, 3, none⟩ (.int .i64 x3)).setCell ⟨w1.heap.size, 4, none⟩ (.int .i64 x4)).setCell ⟨w1.heap.size, 5, none⟩ (.int .i64 x5)) := (by repeat (first | with_reducible exact Below.refl _ _ | with_reducible assumption | with_reducible refine Below.drew ?_ | with_reducible refine Below.setCell ?_ (by first | omega | (simp; omega) | simp) _ | with_reducible refine Below.alloc ?_ (by first | omega | (simp; omega) | simp) _ | with_reducible refine Below.trans ?_ (Below.mono (by with_reducible assumption) (by first | omega | (simp; omega) | simp)))); clear c0 c1 c2 c3 c4 c5 f0 f1 f2 f3 f4 f5; generalize ((((((w3.setCell ⟨w1.heap.size, 0, none⟩ (.int .i64 x0)).setCell ⟨w1.heap.size, 1, none⟩ (.int .i64 x1)).setCell ⟨w1.heap.size, 2, none⟩ (.int .i64 x2)).setCell ⟨w1.heap.size, 3, none⟩ (.int .i64 x3)).setCell ⟨w1.heap.size, 4, none⟩ (.int .i64 x4)).setCell ⟨w1.heap.size, 5, none⟩ (.int .i64 x5)) = W6 at hC hT hK ⊢; (have s0 := cell_heap (o := 0) hT rfl; have s1 := cell_heap (o := 1) hT rfl; have s2 := cell_heap (o := 2) hT rfl; have s3 := cell_heap (o := 3) hT rfl; have s4 := cell_heap (o := 4) hT rfl; have s5 := cell_heap (o := 5) hT rfl; have s6 := cell_heap (o := 6) hT rfl; have s7 := cell_heap (o := 7) hT rfl; have s8 := cell_heap (o := 8) hT rfl; have s9 := cell_heap (o := 9) hT rfl; have s10 := cell_heap (o := 10) hT rfl; have s11 := cell_heap (o := 11) hT rfl))
  go_wp2_with (first
    | (go_at_call 29; refine (hfew.out _ (hS.out.below hK)).mono ?_; rintro e w2 ⟨rfl, hb2⟩; replace hT := heap_old hb2 hT; replace hC := heap_old hb2 hC; replace hK := Below.next hK (Nat.le_refl _) hb2; clear hb2; (try (clear s0 s1 s2 s3 s4 s5 s6 s7 s8 s9 s10 s11)); (have s0 := cell_heap (o := 0) hT rfl; have s1 := cell_heap (o := 1) hT rfl; have s2 := cell_heap (o := 2) hT rfl; have s3 := cell_heap (o := 3) hT rfl; have s4 := cell_heap (o := 4) hT rfl; have s5 := cell_heap (o := 5) hT rfl; have s6 := cell_heap (o := 6) hT rfl; have s7 := cell_heap (o := 7) hT rfl; have s8 := cell_heap (o := 8) hT rfl; have s9 := cell_heap (o := 9) hT rfl; have s10 := cell_heap (o := 10) hT rfl; have s11 := cell_heap (o := 11) hT rfl))
    | (go_at_call 40; refine (hfit.out _ (hS.out.below hK)).mono ?_; rintro e w4 ⟨rfl, hb4⟩; replace hT := heap_old hb4 hT; replace hC := heap_old hb4 hC; replace hK := Below.next hK (Nat.le_refl _) hb4; clear hb4; (clear s0 s1 s2 s3 s4 s5 s6 s7 s8 s9 s10 s11); (have s0 := cell_heap (o := 0) hT rfl; have s1 := cell_heap (o := 1) hT rfl; have s2 := cell_heap (o := 2) hT rfl; have s3 := cell_heap (o := 3) hT rfl; have s4 := cell_heap (o := 4) hT rfl; have s5 := cell_heap (o := 5) hT rfl; have s6 := cell_heap (o := 6) hT rfl; have s7 := cell_heap (o := 7) hT rfl; have s8 := cell_heap (o := 8) hT rfl; have s9 := cell_heap (o := 9) hT rfl; have s10 := cell_heap (o := 10) hT rfl; have s11 := cell_heap (o := 11) hT rfl)))
  have hlt := (Array.getElem?_eq_some_iff.1 hT).1
  have hT3 := heap_alloc (X := (.cells #[.int .i64 0, .int .i64 0, .int .i64 0, .int .i64 0] 24)) (heap_alloc (X := (.cells #[.int .i64 0, .int .i64 0, .int .i64 0, .int .i64 0] 24)) (heap_alloc (X := (.cells #[.int .i64 0, .int .i64 0, .int .i64 0, .int .i64 0] 24)) hT))
  have u0 := cell_heap (o := 0) hT3 rfl
  have u1 := cell_heap (o := 1) hT3 rfl
  have u2 := cell_heap (o := 2) hT3 rfl
  have u3 := cell_heap (o := 3) hT3 rfl
  have u4 := cell_heap (o := 4) hT3 rfl
  have u5 := cell_heap (o := 5) hT3 rfl
  have u6 := cell_heap (o := 6) hT3 rfl
  have u7 := cell_heap (o := 7) hT3 rfl
  have u8 := cell_heap (o := 8) hT3 rfl
  have u9 := cell_heap (o := 9) hT3 rfl
  have u10 := cell_heap (o := 10) hT3 rfl
  have u11 := cell_heap (o := 11) hT3 rfl
  have g1 : w.heap.size < w4.heap.size + 1 := by omega
  have g2 : w.heap.size < w4.heap.size + 1 + 1 := by omega
  have g3 : w.heap.size < w4.heap.size + 1 + 1 + 1 := by omega
  have g4 : ¬ w.heap.size = w4.heap.size := by omega
  have g5 : ¬ w.heap.size = w4.heap.size + 1 := by omega
  have g6 : ¬ w.heap.size = w4.heap.size + 1 + 1 := by omega
  have g7 : w.heap.size < w4.heap.size + 2 := by omega
  have g8 : ¬ w.heap.size = w4.heap.size + 2 := by omega
  have hlc := (Array.getElem?_eq_some_iff.1 hC).1
  refine wp_abs (fun a0 a' W => ∃ x y z, a' = (((((((((a0).put (some 57) (.pointer (some ⟨w.heap.size, 0, none⟩))).put (some 58) (.agg #[.int .i64 p.1.1, .int .i64 p.1.2, .int .i64 p.2.1.1, .int .i64 p.2.1.2])).put (some 59) (.pointer (some ⟨w.heap.size, 4, none⟩))).put (some 60) (.agg #[.int .i64 p.2.2.1.1, .int .i64 p.2.2.1.2, .int .i64 p.2.2.2.1.1, .int .i64 p.2.2.2.1.2])).put (some 61) (.pointer (some ⟨w.heap.size, 8, none⟩))).put (some 62) (.agg #[.int .i64 p.2.2.2.2.1.1, .int .i64 p.2.2.2.2.1.2, .int .i64 p.2.2.2.2.2.1, .int .i64 p.2.2.2.2.2.2])).put (some 7) (.pointer (some ⟨x, 0, none⟩))).put (some 8) (.pointer (some ⟨y, 0, none⟩))).put (some 9) (.pointer (some ⟨z, 0, none⟩)) ∧ Below w.heap.size w W ∧ W.heap[x]? = some (.cells #[.int .i64 p.1.1, .int .i64 p.1.2, .int .i64 p.2.1.1, .int .i64 p.2.1.2] 24) ∧ W.heap[y]? = some (.cells #[.int .i64 p.2.2.1.1, .int .i64 p.2.2.1.2, .int .i64 p.2.2.2.1.1, .int .i64 p.2.2.2.1.2] 24) ∧ W.heap[z]? = some (.cells #[.int .i64 p.2.2.2.2.1.1, .int .i64 p.2.2.2.2.1.2, .int .i64 p.2.2.2.2.2.1, .int .i64 p.2.2.2.2.2.2] 24) ∧ W.heap[w1.heap.size]? = some (.cells #[.int .i64 x0, .int .i64 x1, .int .i64 x2, .int .i64 x3, .int .i64 x4, .int .i64 x5] 70) ∧ (w.heap.size ≤ x ∧ w.heap.size ≤ y ∧ w.heap.size ≤ z) ∧ (x ≠ y ∧ x ≠ z ∧ y ≠ z) ∧ (x ≠ w1.heap.size ∧ y ≠ w1.heap.size ∧ z ≠ w1.heap.size)) ?_ ?_
  · go_region
    all_goals
      refine ⟨?_, ?_, ?_, ?_, ?_⟩
      rotate_left 3
      · simp only [Act.put, List.setIfInBounds_toArray, List.set_cons_succ, List.set_cons_zero]
        rfl
      · exact ⟨(by repeat (first | with_reducible exact Below.refl _ _ | with_reducible assumption | with_reducible refine Below.drew ?_ | with_reducible refine Below.setCell ?_ (by first | omega | (simp; omega) | simp) _ | with_reducible refine Below.alloc ?_ (by first | omega | (simp; omega) | simp) _ | with_reducible refine Below.trans ?_ (Below.mono (by with_reducible assumption) (by first | omega | (simp; omega) | simp)))), (by first | ((repeat (first | with_reducible assumption | with_reducible refine heap_drew ?_ | with_reducible refine heap_new _ _ (by first | rfl | (simp; done) | fail "no") | with_reducible apply heap_alloc)); done) | fail "no"), (by first | ((repeat (first | with_reducible assumption | with_reducible refine heap_drew ?_ | with_reducible refine heap_new _ _ (by first | rfl | (simp; done) | fail "no") | with_reducible apply heap_alloc)); done) | fail "no"), (by first | ((repeat (first | with_reducible assumption | with_reducible refine heap_drew ?_ | with_reducible refine heap_new _ _ (by first | rfl | (simp; done) | fail "no") | with_reducible apply heap_alloc)); done) | fail "no"), (by first | ((repeat (first | with_reducible assumption | with_reducible refine heap_drew ?_ | with_reducible refine heap_new _ _ (by first | rfl | (simp; done) | fail "no") | with_reducible apply heap_alloc)); done) | fail "no"), by omega, by omega, by omega⟩
  · rintro a' W0 ⟨bx, ky, kz, rfl, hKW, hX, hY, hZ, hCW, ⟨lx, ly, lz⟩, ⟨nxy, nxz, nyz⟩, nxc, nyc, nzc⟩
    simp only [Act.put, List.setIfInBounds_toArray, List.set_cons_succ, List.set_cons_zero]
    clear u0 u1 u2 u3 u4 u5 u6 u7 u8 u9 u10 u11 g1 g2 g3 g4 g5 g6 g7 g8 hlc hT3 hT hC hK hlt hfew hfit hcr hS
    rename_i hk
    refine hk _ _ ?_
    clear hk
    refine wp_cut1 (fun a0 a' W2 => ∃ t63 t64 t65 t66 t67 t68 t69 t70 t71 t72 t73 t74 t75, a' = (((((((((((((a0).put (some 63) t63).put (some 64) t64).put (some 65) t65).put (some 66) t66).put (some 67) t67).put (some 68) t68).put (some 69) t69).put (some 70) t70).put (some 71) t71).put (some 72) t72).put (some 73) t73).put (some 74) t74).put (some 75) t75 ∧ Below w.heap.size w W2 ∧ W2.heap[bx]? = some (.cells #[.int .i64 XA.1, .int .i64 XA.2, .int .i64 XB.1, .int .i64 XB.2] 24) ∧ W2.heap[ky]? = some (.cells #[.int .i64 p.2.2.1.1, .int .i64 p.2.2.1.2, .int .i64 p.2.2.2.1.1, .int .i64 p.2.2.2.1.2] 24) ∧ W2.heap[kz]? = some (.cells #[.int .i64 p.2.2.2.2.1.1, .int .i64 p.2.2.2.2.1.2, .int .i64 p.2.2.2.2.2.1, .int .i64 p.2.2.2.2.2.2] 24) ∧ W2.heap[w1.heap.size]? = some (.cells #[.int .i64 x0, .int .i64 x1, .int .i64 x2, .int .i64 x3, .int .i64 x4, .int .i64 x5] 70)) ?_ ?_
    · intro yy hyy0
      have hyy := Lib.hid hyy0
      clear hyy0
      rcases ord_split p.1 p.2.1 with ⟨hs, e1, e2⟩ | ⟨hs, e1, e2⟩
      · rw [eqXA.out] at e1
        rw [eqXB.out] at e2
        subst e1
        subst e2
        have q0 := cell_heap (o := 0) hX rfl
        have z0 := frozen_heap (o := 0) hX
        have q1 := cell_heap (o := 1) hX rfl
        have z1 := frozen_heap (o := 1) hX
        have q2 := cell_heap (o := 2) hX rfl
        have z2 := frozen_heap (o := 2) hX
        have q3 := cell_heap (o := 3) hX rfl
        have z3 := frozen_heap (o := 3) hX
        go_wp2_with fail
        refine hyy.out _ _ ⟨?_, ?_, ?_, ?_, ?_, ?_, ?_, ?_, ?_, ?_, ?_, ?_, ?_, ?eqq, ?rst⟩
        case eqq => (simp only [Act.put, List.setIfInBounds_toArray, List.set_cons_succ, List.set_cons_zero]; try rfl)
        case rst =>
          have hn := heap_set (o := 3) (v := (.int .i64 p.1.2)) (heap_set (o := 2) (v := (.int .i64 p.1.1)) (heap_set (o := 1) (v := (.int .i64 p.2.1.2)) (heap_set (o := 0) (v := (.int .i64 p.2.1.1)) (hX))))
          simp only [List.setIfInBounds_toArray, List.set_cons_succ, List.set_cons_zero] at hn
          exact ⟨(by repeat (first | with_reducible exact Below.refl _ _ | with_reducible assumption | with_reducible refine Below.drew ?_ | with_reducible refine Below.setCell ?_ (by first | omega | (simp; omega) | simp) _ | with_reducible refine Below.alloc ?_ (by first | omega | (simp; omega) | simp) _ | with_reducible refine Below.trans ?_ (Below.mono (by with_reducible assumption) (by first | omega | (simp; omega) | simp)))), hn, heap_set_other (g := bx) (o := 3) (v := (.int .i64 p.1.2)) (heap_set_other (g := bx) (o := 2) (v := (.int .i64 p.1.1)) (heap_set_other (g := bx) (o := 1) (v := (.int .i64 p.2.1.2)) (heap_set_other (g := bx) (o := 0) (v := (.int .i64 p.2.1.1)) (hY) (by omega)) (by omega)) (by omega)) (by omega), heap_set_other (g := bx) (o := 3) (v := (.int .i64 p.1.2)) (heap_set_other (g := bx) (o := 2) (v := (.int .i64 p.1.1)) (heap_set_other (g := bx) (o := 1) (v := (.int .i64 p.2.1.2)) (heap_set_other (g := bx) (o := 0) (v := (.int .i64 p.2.1.1)) (hZ) (by omega)) (by omega)) (by omega)) (by omega), heap_set_other (g := bx) (o := 3) (v := (.int .i64 p.1.2)) (heap_set_other (g := bx) (o := 2) (v := (.int .i64 p.1.1)) (heap_set_other (g := bx) (o := 1) (v := (.int .i64 p.2.1.2)) (heap_set_other (g := bx) (o := 0) (v := (.int .i64 p.2.1.1)) (hCW) (by omega)) (by omega)) (by omega)) (by omega)⟩
      · rw [eqXA.out] at e1
        rw [eqXB.out] at e2
        subst e1
        subst e2
        have q0 := cell_heap (o := 0) hX rfl
        have z0 := frozen_heap (o := 0) hX
        have q1 := cell_heap (o := 1) hX rfl
        have z1 := frozen_heap (o := 1) hX
        have q2 := cell_heap (o := 2) hX rfl
        have z2 := frozen_heap (o := 2) hX
        have q3 := cell_heap (o := 3) hX rfl
        have z3 := frozen_heap (o := 3) hX
        go_wp2_with fail
        refine hyy.out _ _ ⟨?_, ?_, ?_, ?_, ?_, ?_, ?_, ?_, ?_, ?_, ?_, ?_, ?_, ?eqq, ?rst⟩
        case eqq => (simp only [Act.put, List.setIfInBounds_toArray, List.set_cons_succ, List.set_cons_zero]; try rfl)
        case rst => exact ⟨(by repeat (first | with_reducible exact Below.refl _ _ | with_reducible assumption | with_reducible refine Below.drew ?_ | with_reducible refine Below.setCell ?_ (by first | omega | (simp; omega) | simp) _ | with_reducible refine Below.alloc ?_ (by first | omega | (simp; omega) | simp) _ | with_reducible refine Below.trans ?_ (Below.mono (by with_reducible assumption) (by first | omega | (simp; omega) | simp)))), hX, hY, hZ, hCW⟩
    · rintro a' W2 ⟨t63, t64, t65, t66, t67, t68, t69, t70, t71, t72, t73, t74, t75, rfl, hKW2, hX2, hY2, hZ2, hCW2⟩
      simp only [Act.put, List.setIfInBounds_toArray, List.set_cons_succ, List.set_cons_zero]
      clear hKW hX hY hZ hCW
      have hKW := hKW2
      have hX := hX2
      have hY := hY2
      have hZ := hZ2
      have hCW := hCW2
      clear hKW2 hX2 hY2 hZ2 hCW2
      rcases hbig with hbig | hbig
      · obtain ⟨r1, r2, r3, r4, r5, r6, r7, r8, r9, r10⟩ := hL.out
        have q0 := cell_heap (o := 0) hX rfl
        have q1 := cell_heap (o := 1) hX rfl
        have q2 := cell_heap (o := 2) hX rfl
        have q3 := cell_heap (o := 3) hX rfl
        have c0 := cell_heap (o := 0) hCW rfl
        have c1 := cell_heap (o := 1) hCW rfl
        have c2 := cell_heap (o := 2) hCW rfl
        have c3 := cell_heap (o := 3) hCW rfl
        have c4 := cell_heap (o := 4) hCW rfl
        have c5 := cell_heap (o := 5) hCW rfl
        rcases hbig with hbig | hbig | hbig
        all_goals
          go_wp2_with (first | (go_at_call 35; have qq := mk0; clear qq; refine (hv1.out _).mono ?_; rintro e w6 ⟨rfl, hb5⟩; clear mk0; replace hX := heap_old hb5 hX; replace hY := heap_old hb5 hY; replace hZ := heap_old hb5 hZ; replace hCW := heap_old hb5 hCW; replace hKW := Below.next hKW (Nat.le_refl _) hb5; clear hb5; clear q0 q1 q2 q3 c0 c1 c2 c3 c4 c5; have q0 := cell_heap (o := 0) hX rfl; have q1 := cell_heap (o := 1) hX rfl; have q2 := cell_heap (o := 2) hX rfl; have q3 := cell_heap (o := 3) hX rfl; have c0 := cell_heap (o := 0) hCW rfl; have c1 := cell_heap (o := 1) hCW rfl; have c2 := cell_heap (o := 2) hCW rfl; have c3 := cell_heap (o := 3) hCW rfl; have c4 := cell_heap (o := 4) hCW rfl; have c5 := cell_heap (o := 5) hCW rfl) | (go_at_call 35; refine (hv0.out _).mono ?_; rintro e w5 ⟨rfl, hb5⟩; have mk0 := True.intro; replace hX := heap_old hb5 hX; replace hY := heap_old hb5 hY; replace hZ := heap_old hb5 hZ; replace hCW := heap_old hb5 hCW; replace hKW := Below.next hKW (Nat.le_refl _) hb5; clear hb5; clear q0 q1 q2 q3 c0 c1 c2 c3 c4 c5; have q0 := cell_heap (o := 0) hX rfl; have q1 := cell_heap (o := 1) hX rfl; have q2 := cell_heap (o := 2) hX rfl; have q3 := cell_heap (o := 3) hX rfl; have c0 := cell_heap (o := 0) hCW rfl; have c1 := cell_heap (o := 1) hCW rfl; have c2 := cell_heap (o := 2) hCW rfl; have c3 := cell_heap (o := 3) hCW rfl; have c4 := cell_heap (o := 4) hCW rfl; have c5 := cell_heap (o := 5) hCW rfl))
          all_goals
            go_ret
            exact ⟨rfl, hKW⟩
      · obtain ⟨r1, r2, r3, r4, r5, r6, r7, r8, r9, r10⟩ := hL.out
        obtain ⟨b1, b2, b3⟩ := hbig
        refine wp_cut6 (fun a0 a' W2 => ∃ t10 t11 t12 t13 t76 t77 t78 t79 t80 t81 t82 t83 t84 t85 t86 t87 t88 t89 t90 t91 t92 t93 t94 t95 t96 t97 t98 t99 t100 t101 t102 t103 t104 t105 t106 t107 t108 t109 t110 t111 t112 t113 t114 t115 t116 t117 t118 t119 t120 t121 t122 t123 t124 t125 t126 t127 t128 t129 t130 t131 t132 t133, a' = ((((((((((((((((((((((((((((((((((((((((((((((((((((((((((((((((a0).put (some 10) t10).put (some 11) t11).put (some 12) t12).put (some 13) t13).put (some 14) (.int .i64 (XA.2 - XB.2))).put (some 15) (.int .i64 (XA.2 * XB.1 - XB.2 * XA.1))).put (some 76) t76).put (some 77) t77).put (some 78) t78).put (some 79) t79).put (some 80) t80).put (some 81) t81).put (some 82) t82).put (some 83) t83).put (some 84) t84).put (some 85) t85).put (some 86) t86).put (some 87) t87).put (some 88) t88).put (some 89) t89).put (some 90) t90).put (some 91) t91).put (some 92) t92).put (some 93) t93).put (some 94) t94).put (some 95) t95).put (some 96) t96).put (some 97) t97).put (some 98) t98).put (some 99) t99).put (some 100) t100).put (some 101) t101).put (some 102) t102).put (some 103) t103).put (some 104) t104).put (some 105) t105).put (some 106) t106).put (some 107) t107).put (some 108) t108).put (some 109) t109).put (some 110) t110).put (some 111) t111).put (some 112) t112).put (some 113) t113).put (some 114) t114).put (some 115) t115).put (some 116) t116).put (some 117) t117).put (some 118) t118).put (some 119) t119).put (some 120) t120).put (some 121) t121).put (some 122) t122).put (some 123) t123).put (some 124) t124).put (some 125) t125).put (some 126) t126).put (some 127) t127).put (some 128) t128).put (some 129) t129).put (some 130) t130).put (some 131) t131).put (some 132) t132).put (some 133) t133 ∧ Below w.heap.size w W2 ∧ W2.heap[ky]? = some (.cells #[.int .i64 p.2.2.1.1, .int .i64 p.2.2.1.2, .int .i64 p.2.2.2.1.1, .int .i64 p.2.2.2.1.2] 24) ∧ W2.heap[kz]? = some (.cells #[.int .i64 p.2.2.2.2.1.1, .int .i64 p.2.2.2.2.1.2, .int .i64 p.2.2.2.2.2.1, .int .i64 p.2.2.2.2.2.2] 24) ∧ W2.heap[w1.heap.size]? = some (.cells #[.int .i64 x0, .int .i64 x1, .int .i64 x2, .int .i64 x3, .int .i64 x4, .int .i64 x5] 70)) ?_ ?_
        · intro yy hyy0
          have hyy := Lib.hid hyy0
          clear hyy0
          have q0 := cell_heap (o := 0) hX rfl
          have q1 := cell_heap (o := 1) hX rfl
          have q2 := cell_heap (o := 2) hX rfl
          have q3 := cell_heap (o := 3) hX rfl
          have c0 := cell_heap (o := 0) hCW rfl
          have c1 := cell_heap (o := 1) hCW rfl
          have c2 := cell_heap (o := 2) hCW rfl
          have c3 := cell_heap (o := 3) hCW rfl
          have c4 := cell_heap (o := 4) hCW rfl
          have c5 := cell_heap (o := 5) hCW rfl
          go_wp2_with (first | (go_at_call 35; have qq := mk0; clear qq; refine (hv1.out _).mono ?_; rintro e w6 ⟨rfl, hb5⟩; clear mk0; replace hX := heap_old hb5 hX; replace hY := heap_old hb5 hY; replace hZ := heap_old hb5 hZ; replace hCW := heap_old hb5 hCW; replace hKW := Below.next hKW (Nat.le_refl _) hb5; clear hb5; clear q0 q1 q2 q3 c0 c1 c2 c3 c4 c5; have q0 := cell_heap (o := 0) hX rfl; have q1 := cell_heap (o := 1) hX rfl; have q2 := cell_heap (o := 2) hX rfl; have q3 := cell_heap (o := 3) hX rfl; have c0 := cell_heap (o := 0) hCW rfl; have c1 := cell_heap (o := 1) hCW rfl; have c2 := cell_heap (o := 2) hCW rfl; have c3 := cell_heap (o := 3) hCW rfl; have c4 := cell_heap (o := 4) hCW rfl; have c5 := cell_heap (o := 5) hCW rfl) | (go_at_call 35; refine (hv0.out _).mono ?_; rintro e w5 ⟨rfl, hb5⟩; have mk0 := True.intro; replace hX := heap_old hb5 hX; replace hY := heap_old hb5 hY; replace hZ := heap_old hb5 hZ; replace hCW := heap_old hb5 hCW; replace hKW := Below.next hKW (Nat.le_refl _) hb5; clear hb5; clear q0 q1 q2 q3 c0 c1 c2 c3 c4 c5; have q0 := cell_heap (o := 0) hX rfl; have q1 := cell_heap (o := 1) hX rfl; have q2 := cell_heap (o := 2) hX rfl; have q3 := cell_heap (o := 3) hX rfl; have c0 := cell_heap (o := 0) hCW rfl; have c1 := cell_heap (o := 1) hCW rfl; have c2 := cell_heap (o := 2) hCW rfl; have c3 := cell_heap (o := 3) hCW rfl; have c4 := cell_heap (o := 4) hCW rfl; have c5 := cell_heap (o := 5) hCW rfl))
          refine hyy.out _ _ ⟨?_, ?_, ?_, ?_, ?_, ?_, ?_, ?_, ?_, ?_, ?_, ?_, ?_, ?_, ?_, ?_, ?_, ?_, ?_, ?_, ?_, ?_, ?_, ?_, ?_, ?_, ?_, ?_, ?_, ?_, ?_, ?_, ?_, ?_, ?_, ?_, ?_, ?_, ?_, ?_, ?_, ?_, ?_, ?_, ?_, ?_, ?_, ?_, ?_, ?_, ?_, ?_, ?_, ?_, ?_, ?_, ?_, ?_, ?_, ?_, ?_, ?_, ?eqq, hKW, hY, hZ, hCW⟩
          case eqq => (simp only [Act.put, List.setIfInBounds_toArray, List.set_cons_succ, List.set_cons_zero]; try rfl)
        · rintro a' W2 ⟨t10, t11, t12, t13, t76, t77, t78, t79, t80, t81, t82, t83, t84, t85, t86, t87, t88, t89, t90, t91, t92, t93, t94, t95, t96, t97, t98, t99, t100, t101, t102, t103, t104, t105, t106, t107, t108, t109, t110, t111, t112, t113, t114, t115, t116, t117, t118, t119, t120, t121, t122, t123, t124, t125, t126, t127, t128, t129, t130, t131, t132, t133, rfl, hKW2, hY2, hZ2, hCW2⟩
          simp only [Act.put, List.setIfInBounds_toArray, List.set_cons_succ, List.set_cons_zero]
          clear hKW hX hY hZ hCW
          have hKW := hKW2
          have hY := hY2
          have hZ := hZ2
          have hCW := hCW2
          clear hKW2 hY2 hZ2 hCW2
          refine wp_cut1 (fun a0 a' W2 => ∃ t134 t135 t136 t137 t138 t139 t140 t141 t142 t143 t144 t145 t146, a' = (((((((((((((a0).put (some 134) t134).put (some 135) t135).put (some 136) t136).put (some 137) t137).put (some 138) t138).put (some 139) t139).put (some 140) t140).put (some 141) t141).put (some 142) t142).put (some 143) t143).put (some 144) t144).put (some 145) t145).put (some 146) t146 ∧ Below w.heap.size w W2 ∧ W2.heap[ky]? = some (.cells #[.int .i64 YA.1, .int .i64 YA.2, .int .i64 YB.1, .int .i64 YB.2] 24) ∧ W2.heap[kz]? = some (.cells #[.int .i64 p.2.2.2.2.1.1, .int .i64 p.2.2.2.2.1.2, .int .i64 p.2.2.2.2.2.1, .int .i64 p.2.2.2.2.2.2] 24) ∧ W2.heap[w1.heap.size]? = some (.cells #[.int .i64 x0, .int .i64 x1, .int .i64 x2, .int .i64 x3, .int .i64 x4, .int .i64 x5] 70)) ?_ ?_
          · intro yy hyy0
            have hyy := Lib.hid hyy0
            clear hyy0
            rcases ord_split p.2.2.1 p.2.2.2.1 with ⟨hs, e1, e2⟩ | ⟨hs, e1, e2⟩
            · rw [eqYA.out] at e1
              rw [eqYB.out] at e2
              subst e1
              subst e2
              have q0 := cell_heap (o := 0) hY rfl
              have z0 := frozen_heap (o := 0) hY
              have q1 := cell_heap (o := 1) hY rfl
              have z1 := frozen_heap (o := 1) hY
              have q2 := cell_heap (o := 2) hY rfl
              have z2 := frozen_heap (o := 2) hY
              have q3 := cell_heap (o := 3) hY rfl
              have z3 := frozen_heap (o := 3) hY
              go_wp2_with fail
              refine hyy.out _ _ ⟨?_, ?_, ?_, ?_, ?_, ?_, ?_, ?_, ?_, ?_, ?_, ?_, ?_, ?eqq, ?rst⟩
              case eqq => (simp only [Act.put, List.setIfInBounds_toArray, List.set_cons_succ, List.set_cons_zero]; try rfl)
              case rst =>
                have hn := heap_set (o := 3) (v := (.int .i64 p.2.2.1.2)) (heap_set (o := 2) (v := (.int .i64 p.2.2.1.1)) (heap_set (o := 1) (v := (.int .i64 p.2.2.2.1.2)) (heap_set (o := 0) (v := (.int .i64 p.2.2.2.1.1)) (hY))))
                simp only [List.setIfInBounds_toArray, List.set_cons_succ, List.set_cons_zero] at hn
                exact ⟨(by repeat (first | with_reducible exact Below.refl _ _ | with_reducible assumption | with_reducible refine Below.drew ?_ | with_reducible refine Below.setCell ?_ (by first | omega | (simp; omega) | simp) _ | with_reducible refine Below.alloc ?_ (by first | omega | (simp; omega) | simp) _ | with_reducible refine Below.trans ?_ (Below.mono (by with_reducible assumption) (by first | omega | (simp; omega) | simp)))), hn, heap_set_other (g := ky) (o := 3) (v := (.int .i64 p.2.2.1.2)) (heap_set_other (g := ky) (o := 2) (v := (.int .i64 p.2.2.1.1)) (heap_set_other (g := ky) (o := 1) (v := (.int .i64 p.2.2.2.1.2)) (heap_set_other (g := ky) (o := 0) (v := (.int .i64 p.2.2.2.1.1)) (hZ) (by omega)) (by omega)) (by omega)) (by omega), heap_set_other (g := ky) (o := 3) (v := (.int .i64 p.2.2.1.2)) (heap_set_other (g := ky) (o := 2) (v := (.int .i64 p.2.2.1.1)) (heap_set_other (g := ky) (o := 1) (v := (.int .i64 p.2.2.2.1.2)) (heap_set_other (g := ky) (o := 0) (v := (.int .i64 p.2.2.2.1.1)) (hCW) (by omega)) (by omega)) (by omega)) (by omega)⟩
            · rw [eqYA.out] at e1
              rw [eqYB.out] at e2
              subst e1
              subst e2
              have q0 := cell_heap (o := 0) hY rfl
              have z0 := frozen_heap (o := 0) hY
              have q1 := cell_heap (o := 1) hY rfl
              have z1 := frozen_heap (o := 1) hY
              have q2 := cell_heap (o := 2) hY rfl
              have z2 := frozen_heap (o := 2) hY
              have q3 := cell_heap (o := 3) hY rfl
              have z3 := frozen_heap (o := 3) hY
              go_wp2_with fail
              refine hyy.out _ _ ⟨?_, ?_, ?_, ?_, ?_, ?_, ?_, ?_, ?_, ?_, ?_, ?_, ?_, ?eqq, ?rst⟩
              case eqq => (simp only [Act.put, List.setIfInBounds_toArray, List.set_cons_succ, List.set_cons_zero]; try rfl)
              case rst => exact ⟨(by repeat (first | with_reducible exact Below.refl _ _ | with_reducible assumption | with_reducible refine Below.drew ?_ | with_reducible refine Below.setCell ?_ (by first | omega | (simp; omega) | simp) _ | with_reducible refine Below.alloc ?_ (by first | omega | (simp; omega) | simp) _ | with_reducible refine Below.trans ?_ (Below.mono (by with_reducible assumption) (by first | omega | (simp; omega) | simp)))), hY, hZ, hCW⟩
          · rintro a' W2 ⟨t134, t135, t136, t137, t138, t139, t140, t141, t142, t143, t144, t145, t146, rfl, hKW2, hY2, hZ2, hCW2⟩
            simp only [Act.put, List.setIfInBounds_toArray, List.set_cons_succ, List.set_cons_zero]
            clear hKW hY hZ hCW
            have hKW := hKW2
            have hY := hY2
            have hZ := hZ2
            have hCW := hCW2
            clear hKW2 hY2 hZ2 hCW2
            refine wp_cut1 (fun a0 a' W2 => ∃ t147 t148 t149 t150 t151 t152 t153 t154 t155 t156 t157 t158 t159, a' = (((((((((((((a0).put (some 147) t147).put (some 148) t148).put (some 149) t149).put (some 150) t150).put (some 151) t151).put (some 152) t152).put (some 153) t153).put (some 154) t154).put (some 155) t155).put (some 156) t156).put (some 157) t157).put (some 158) t158).put (some 159) t159 ∧ Below w.heap.size w W2 ∧ W2.heap[ky]? = some (.cells #[.int .i64 YA.1, .int .i64 YA.2, .int .i64 YB.1, .int .i64 YB.2] 24) ∧ W2.heap[kz]? = some (.cells #[.int .i64 ZA.1, .int .i64 ZA.2, .int .i64 ZB.1, .int .i64 ZB.2] 24) ∧ W2.heap[w1.heap.size]? = some (.cells #[.int .i64 x0, .int .i64 x1, .int .i64 x2, .int .i64 x3, .int .i64 x4, .int .i64 x5] 70)) ?_ ?_
            · intro yy hyy0
              have hyy := Lib.hid hyy0
              clear hyy0
              rcases ord_split p.2.2.2.2.1 p.2.2.2.2.2 with ⟨hs, e1, e2⟩ | ⟨hs, e1, e2⟩
              · rw [eqZA.out] at e1
                rw [eqZB.out] at e2
                subst e1
                subst e2
                have q0 := cell_heap (o := 0) hZ rfl
                have z0 := frozen_heap (o := 0) hZ
                have q1 := cell_heap (o := 1) hZ rfl
                have z1 := frozen_heap (o := 1) hZ
                have q2 := cell_heap (o := 2) hZ rfl
                have z2 := frozen_heap (o := 2) hZ
                have q3 := cell_heap (o := 3) hZ rfl
                have z3 := frozen_heap (o := 3) hZ
                go_wp2_with fail
                refine hyy.out _ _ ⟨?_, ?_, ?_, ?_, ?_, ?_, ?_, ?_, ?_, ?_, ?_, ?_, ?_, ?eqq, ?rst⟩
                case eqq => (simp only [Act.put, List.setIfInBounds_toArray, List.set_cons_succ, List.set_cons_zero]; try rfl)
                case rst =>
                  have hn := heap_set (o := 3) (v := (.int .i64 p.2.2.2.2.1.2)) (heap_set (o := 2) (v := (.int .i64 p.2.2.2.2.1.1)) (heap_set (o := 1) (v := (.int .i64 p.2.2.2.2.2.2)) (heap_set (o := 0) (v := (.int .i64 p.2.2.2.2.2.1)) (hZ))))
                  simp only [List.setIfInBounds_toArray, List.set_cons_succ, List.set_cons_zero] at hn
                  exact ⟨(by repeat (first | with_reducible exact Below.refl _ _ | with_reducible assumption | with_reducible refine Below.drew ?_ | with_reducible refine Below.setCell ?_ (by first | omega | (simp; omega) | simp) _ | with_reducible refine Below.alloc ?_ (by first | omega | (simp; omega) | simp) _ | with_reducible refine Below.trans ?_ (Below.mono (by with_reducible assumption) (by first | omega | (simp; omega) | simp)))), heap_set_other (g := kz) (o := 3) (v := (.int .i64 p.2.2.2.2.1.2)) (heap_set_other (g := kz) (o := 2) (v := (.int .i64 p.2.2.2.2.1.1)) (heap_set_other (g := kz) (o := 1) (v := (.int .i64 p.2.2.2.2.2.2)) (heap_set_other (g := kz) (o := 0) (v := (.int .i64 p.2.2.2.2.2.1)) (hY) (by omega)) (by omega)) (by omega)) (by omega), hn, heap_set_other (g := kz) (o := 3) (v := (.int .i64 p.2.2.2.2.1.2)) (heap_set_other (g := kz) (o := 2) (v := (.int .i64 p.2.2.2.2.1.1)) (heap_set_other (g := kz) (o := 1) (v := (.int .i64 p.2.2.2.2.2.2)) (heap_set_other (g := kz) (o := 0) (v := (.int .i64 p.2.2.2.2.2.1)) (hCW) (by omega)) (by omega)) (by omega)) (by omega)⟩
              · rw [eqZA.out] at e1
                rw [eqZB.out] at e2
                subst e1
                subst e2
                have q0 := cell_heap (o := 0) hZ rfl
                have z0 := frozen_heap (o := 0) hZ
                have q1 := cell_heap (o := 1) hZ rfl
                have z1 := frozen_heap (o := 1) hZ
                have q2 := cell_heap (o := 2) hZ rfl
                have z2 := frozen_heap (o := 2) hZ
                have q3 := cell_heap (o := 3) hZ rfl
                have z3 := frozen_heap (o := 3) hZ
                go_wp2_with fail
                refine hyy.out _ _ ⟨?_, ?_, ?_, ?_, ?_, ?_, ?_, ?_, ?_, ?_, ?_, ?_, ?_, ?eqq, ?rst⟩
                case eqq => (simp only [Act.put, List.setIfInBounds_toArray, List.set_cons_succ, List.set_cons_zero]; try rfl)
                case rst => exact ⟨(by repeat (first | with_reducible exact Below.refl _ _ | with_reducible assumption | with_reducible refine Below.drew ?_ | with_reducible refine Below.setCell ?_ (by first | omega | (simp; omega) | simp) _ | with_reducible refine Below.alloc ?_ (by first | omega | (simp; omega) | simp) _ | with_reducible refine Below.trans ?_ (Below.mono (by with_reducible assumption) (by first | omega | (simp; omega) | simp)))), hY, hZ, hCW⟩
            · rintro a' W2 ⟨t147, t148, t149, t150, t151, t152, t153, t154, t155, t156, t157, t158, t159, rfl, hKW2, hY2, hZ2, hCW2⟩
              simp only [Act.put, List.setIfInBounds_toArray, List.set_cons_succ, List.set_cons_zero]
              clear hKW hY hZ hCW
              have hKW := hKW2
              have hY := hY2
              have hZ := hZ2
              have hCW := hCW2
              clear hKW2 hY2 hZ2 hCW2
              obtain ⟨Q0, Q1, S0, S1, U0, U1, M0, M1, ⟨e1, e2⟩, ⟨e3, e4⟩, ⟨e5, e6⟩, ⟨y1, y2, y3, y4⟩, ⟨e7, e8⟩, p1, p2, p3, p4, p5, p6, p7⟩ := hct.out ⟨b1, b2, b3⟩
              have m1 := Lib.hid p1
              have m2 := Lib.hid p2
              have ad := Lib.hid p3
              have ng := Lib.hid p4
              have le1 := Lib.hid p5
              have le2 := Lib.hid p6
              have ra := Lib.hid p7
              clear p1 p2 p3 p4 p5 p6 p7 hct hL hv0 hv1 r2 r3 r4 r5 r6 r7 r8 r9 r10 eqXA eqXB eqYA eqYB eqZA eqZB hV0 hV1 nxy nxz nxc lx
              generalize XA.2 * XB.1 - XB.2 * XA.1 = n at *
              generalize XA.2 - XB.2 = d at *
              have v0 := cell_heap (o := 0) hY rfl
              have v1 := cell_heap (o := 1) hY rfl
              have v2 := cell_heap (o := 2) hY rfl
              have v3 := cell_heap (o := 3) hY rfl
              go_wp2_with (go_at_call 41; refine (m1.out _).mono ?_; rintro e w7 ⟨rfl, hb7⟩; replace hY := heap_old hb7 hY; replace hZ := heap_old hb7 hZ; replace hCW := heap_old hb7 hCW; replace hKW := Below.next hKW (Nat.le_refl _) hb7; clear hb7)
              clear v0 v1 v2 v3
              have hU := heap_new w7 (.cells #[.int .i64 Q0, .int .u64 Q1] 75) rfl
              have oY := (Array.getElem?_eq_some_iff.1 hY).1
              have oZ := (Array.getElem?_eq_some_iff.1 hZ).1
              have oC := (Array.getElem?_eq_some_iff.1 hCW).1
              have hY7 := heap_alloc (X := (.cells #[.int .i64 Q0, .int .u64 Q1] 75)) hY
              have hZ7 := heap_alloc (X := (.cells #[.int .i64 Q0, .int .u64 Q1] 75)) hZ
              have hC7 := heap_alloc (X := (.cells #[.int .i64 Q0, .int .u64 Q1] 75)) hCW
              have hK7 := hKW.alloc hKW.size (.cells #[.int .i64 Q0, .int .u64 Q1] 75)
              have hk7 : w.heap.size ≤ w7.heap.size := hKW.size
              clear hY hZ hCW hKW
              generalize hW7 : w7.alloc (.cells #[.int .i64 Q0, .int .u64 Q1] 75) = W7 at hU hY7 hZ7 hC7 hK7 ⊢
              generalize w7.heap.size = ku at *
              clear hW7
              have ny : ky ≠ ku := by omega
              have nz : kz ≠ ku := by omega
              have nc : w1.heap.size ≠ ku := by omega
              clear oY oZ oC
              refine wp_absK (fun a0 a' W2 => ∃ t172 t173 t174 t175 t176 t177 t178 t179 t180 t181 t182 t183 t184 t171 t185 t186, a' = (((((((((((((((((a0).put (some 172) t172).put (some 173) t173).put (some 174) t174).put (some 175) t175).put (some 176) t176).put (some 177) t177).put (some 178) t178).put (some 179) t179).put (some 180) t180).put (some 181) t181).put (some 182) t182).put (some 183) t183).put (some 184) t184).put (some 171) t171).put (some 185) t185).put (some 186) t186).put (some 17) (.bool true) ∧ Below w.heap.size w W2 ∧ W2.heap[ky]? = some (.cells #[.int .i64 YA.1, .int .i64 YA.2, .int .i64 YB.1, .int .i64 YB.2] 24) ∧ W2.heap[kz]? = some (.cells #[.int .i64 ZA.1, .int .i64 ZA.2, .int .i64 ZB.1, .int .i64 ZB.2] 24) ∧ W2.heap[w1.heap.size]? = some (.cells #[.int .i64 x0, .int .i64 x1, .int .i64 x2, .int .i64 x3, .int .i64 x4, .int .i64 x5] 70) ∧ W2.heap[ku]? = some (.cells #[.int .i64 U0, .int .u64 U1] 75)) ?_ ?_
              · intro K hK0
                have hKh := Lib.hid hK0
                clear hK0
                apply region_genH 16 [15] [0, 1, 2, 3, 4, 5, 6, 7, 8, 9, 10, 11, 12, 13, 14] [17]; (case hm => kernel_rfl); (case hS => rfl); (case hB => kernel_rfl); (case hQ => exact fun _ _ _ _ _ h => h); (case h => (intro LQ hLQ W1 hW1; have gY := heap_old hW1 hY7; have gU := heap_old hW1 hU; have v0 := cell_heap (o := 0) gY rfl; have v1 := cell_heap (o := 1) gY rfl; have v2 := cell_heap (o := 2) gY rfl; have v3 := cell_heap (o := 3) gY rfl; have k0 := cell_heap (o := 0) gU rfl; have k1 := cell_heap (o := 1) gU rfl; simp only [pickO, List.drop_succ_cons, List.drop_zero, List.take_succ_cons, List.take_zero, List.cons_append, List.nil_append, List.append_nil, Act.put, List.setIfInBounds_toArray, List.set_cons_succ, List.set_cons_zero]; have hl := @Later.cell; (repeat (go_big_quiet_step (first | (go_at_call 41; exact Calls.later (m2.out _)) | (go_at_call 42; exact Calls.later (ad.out _))))); exact wpQuiet_nil hLQ)); intro W2 hW2
                refine ⟨fun W3 hW3 => ?_, _, .bool true, rfl, rfl, fun W3 hW3 => ?_, fun W3 hW3 => ?_⟩
                · have hY := heap_old hW3 (heap_old hW2 hY7)
                  have hZ := heap_old hW3 (heap_old hW2 hZ7)
                  have hCW := heap_old hW3 (heap_old hW2 hC7)
                  replace hU := heap_old hW3 (heap_old hW2 hU)
                  have hKW := Below.next (Below.next hK7 (Nat.le_refl _) hW2) (Nat.le_refl _) hW3
                  simp only [pickO, List.drop_succ_cons, List.drop_zero, List.take_succ_cons, List.take_zero, List.cons_append, List.nil_append, List.append_nil, Act.put, List.setIfInBounds_toArray, List.set_cons_succ, List.set_cons_zero]
                  clear hY7 hZ7 hC7 hK7 hW2 hW3
                  have k0 := True.intro
                  have k1 := True.intro
                  have f0 := True.intro
                  have f1 := True.intro
                  have hU3 := heap_set (o := 1) (v := .int .u64 U1) (heap_set (o := 0) (v := .int .i64 U0) hU)
                  simp only [List.setIfInBounds_toArray, List.set_cons_succ, List.set_cons_zero] at hU3
                  have hY3 := heap_set_other (g := ku) (o := 1) (v := .int .u64 U1) (heap_set_other (g := ku) (o := 0) (v := .int .i64 U0) hY (by omega)) (by omega)
                  have hZ3 := heap_set_other (g := ku) (o := 1) (v := .int .u64 U1) (heap_set_other (g := ku) (o := 0) (v := .int .i64 U0) hZ (by omega)) (by omega)
                  have hC3 := heap_set_other (g := ku) (o := 1) (v := .int .u64 U1) (heap_set_other (g := ku) (o := 0) (v := .int .i64 U0) hCW (by omega)) (by omega)
                  have hK3 := Below.setCell (Below.setCell hKW (by omega) (.int .i64 U0) (p := ⟨ku, 0, none⟩)) (by omega) (.int .u64 U1) (p := ⟨ku, 1, none⟩)
                  clear k0 k1 f0 f1
                  have k0 := cell_heap (o := 0) hU rfl
                  have k1 := cell_heap (o := 1) hU rfl
                  have f0 := frozen_heap (o := 0) hU
                  have f1 := frozen_heap (o := 1) hU
                  go_wp2_with fail
                  refine hKh.out _ _ ⟨?_, ?_, ?_, ?_, ?_, ?_, ?_, ?_, ?_, ?_, ?_, ?_, ?_, ?_, ?_, ?_, ?eqq, hK3, hY3, hZ3, hC3, hU3⟩
                  case eqq => (simp only [Act.put, List.setIfInBounds_toArray, List.set_cons_succ, List.set_cons_zero]; try rfl)
                · go_simp <;> with_reducible rfl
                · have hY := heap_old hW3 (heap_old hW2 hY7)
                  have hZ := heap_old hW3 (heap_old hW2 hZ7)
                  have hCW := heap_old hW3 (heap_old hW2 hC7)
                  replace hU := heap_old hW3 (heap_old hW2 hU)
                  have hKW := Below.next (Below.next hK7 (Nat.le_refl _) hW2) (Nat.le_refl _) hW3
                  simp only [pickO, List.drop_succ_cons, List.drop_zero, List.take_succ_cons, List.take_zero, List.cons_append, List.nil_append, List.append_nil, Act.put, List.setIfInBounds_toArray, List.set_cons_succ, List.set_cons_zero]
                  clear hY7 hZ7 hC7 hK7 hW2 hW3
                  have k0 := True.intro
                  have k1 := True.intro
                  have f0 := True.intro
                  have f1 := True.intro
                  have hU3 := heap_set (o := 1) (v := .int .u64 U1) (heap_set (o := 0) (v := .int .i64 U0) hU)
                  simp only [List.setIfInBounds_toArray, List.set_cons_succ, List.set_cons_zero] at hU3
                  have hY3 := heap_set_other (g := ku) (o := 1) (v := .int .u64 U1) (heap_set_other (g := ku) (o := 0) (v := .int .i64 U0) hY (by omega)) (by omega)
                  have hZ3 := heap_set_other (g := ku) (o := 1) (v := .int .u64 U1) (heap_set_other (g := ku) (o := 0) (v := .int .i64 U0) hZ (by omega)) (by omega)
                  have hC3 := heap_set_other (g := ku) (o := 1) (v := .int .u64 U1) (heap_set_other (g := ku) (o := 0) (v := .int .i64 U0) hCW (by omega)) (by omega)
                  have hK3 := Below.setCell (Below.setCell hKW (by omega) (.int .i64 U0) (p := ⟨ku, 0, none⟩)) (by omega) (.int .u64 U1) (p := ⟨ku, 1, none⟩)
                  clear k0 k1 f0 f1
                  have k0 := cell_heap (o := 0) hU rfl
                  have k1 := cell_heap (o := 1) hU rfl
                  have f0 := frozen_heap (o := 0) hU
                  have f1 := frozen_heap (o := 1) hU
                  go_wp2_with fail
                  refine hKh.out _ _ ⟨?_, ?_, ?_, ?_, ?_, ?_, ?_, ?_, ?_, ?_, ?_, ?_, ?_, ?_, ?_, ?_, ?eqq, hK3, hY3, hZ3, hC3, hU3⟩
                  case eqq => (simp only [Act.put, List.setIfInBounds_toArray, List.set_cons_succ, List.set_cons_zero]; try rfl)
              · rintro a' W8 ⟨t172, t173, t174, t175, t176, t177, t178, t179, t180, t181, t182, t183, t184, t171, t185, t186, rfl, hKW, hY, hZ, hCW, hU2⟩
                simp only [Act.put, List.setIfInBounds_toArray, List.set_cons_succ, List.set_cons_zero]
                clear hY7 hZ7 hC7 hK7 hU m1 m2 ad
                have v0 := cell_heap (o := 0) hY rfl
                have v2 := cell_heap (o := 2) hY rfl
                have u0 := cell_heap (o := 0) hU2 rfl
                have u1 := cell_heap (o := 1) hU2 rfl
                go_wp2_with (first
                  | (go_at_call 43; refine (ng.out _).mono ?_; rintro e w9 ⟨rfl, hb9⟩; clear v0 v2 u0 u1 hY; replace hZ := heap_old hb9 hZ; replace hCW := heap_old hb9 hCW; replace hU2 := heap_old hb9 hU2; replace hKW := Below.next hKW (Nat.le_refl _) hb9; clear hb9; have oZ := (Array.getElem?_eq_some_iff.1 hZ).1; have oC := (Array.getElem?_eq_some_iff.1 hCW).1; have oU := (Array.getElem?_eq_some_iff.1 hU2).1; have c2 := cell_heap (o := 2) hCW rfl; have c3 := cell_heap (o := 3) hCW rfl; have u0 := cell_heap (o := 0) hU2 rfl; have u1 := cell_heap (o := 1) hU2 rfl)
                  | (go_at_call_of 44 (U0); refine (le1.out _).mono ?_; rintro e w10 ⟨rfl, hb10⟩; clear c2 c3 u0 u1; have hM := heap_old hb10 (heap_new w9 (.cells #[.int .i64 M0, .int .u64 M1] 75) rfl); replace hZ := heap_old hb10 (heap_alloc (X := (.cells #[.int .i64 M0, .int .u64 M1] 75)) hZ); replace hCW := heap_old hb10 (heap_alloc (X := (.cells #[.int .i64 M0, .int .u64 M1] 75)) hCW); have hKM := Below.next (hKW.alloc hKW.size (.cells #[.int .i64 M0, .int .u64 M1] 75)) (Nat.le_refl _) hb10; clear hb10; have c2 := cell_heap (o := 2) hCW rfl; have c3 := cell_heap (o := 3) hCW rfl; have q0 := cell_heap (o := 0) hM rfl; have q1 := cell_heap (o := 1) hM rfl)
                  | (go_at_call_of 44 (M0); refine (le2.out _).mono ?_; rintro e w11 ⟨rfl, hb11⟩; clear c2 c3 q0 q1; replace hZ := heap_old hb11 hZ; replace hCW := heap_old hb11 hCW; replace hKM := Below.next hKM (Nat.le_refl _) hb11; clear hb11; have c0 := cell_heap (o := 0) hCW rfl; have c1 := cell_heap (o := 1) hCW rfl; have c2 := cell_heap (o := 2) hCW rfl; have c3 := cell_heap (o := 3) hCW rfl; have c4 := cell_heap (o := 4) hCW rfl; have c5 := cell_heap (o := 5) hCW rfl; have v0 := cell_heap (o := 0) hZ rfl; have v1 := cell_heap (o := 1) hZ rfl; have v2 := cell_heap (o := 2) hZ rfl; have v3 := cell_heap (o := 3) hZ rfl)
                  | (go_at_call 45; refine (ra.out _).mono ?_; rintro e w12 ⟨rfl, hb12⟩; replace hKM := Below.next hKM (Nat.le_refl _) hb12; clear hb12))
                go_ret
                exact ⟨rfl, hKM⟩
end Go.Proofs.Ytmdledlbkdcmnaa

/-
  The walk of the statement on the crossing, whole.
  Conditions: none.
-/
namespace Go.Proofs.Ytmdledlbkdcmnaa
open Go.RowKit
theorem pathCrossed_walk (v : Value) (l : List SN) (p : TR) (w : World) (h : Seens w v l) : Calls Try.prog 12 #[v, (.agg #[.int .i64 p.1.1, .int .i64 p.1.2, .int .i64 p.2.1.1, .int .i64 p.2.1.2, .int .i64 p.2.2.1.1, .int .i64 p.2.2.1.2, .int .i64 p.2.2.2.1.1, .int .i64 p.2.2.2.1.2, .int .i64 p.2.2.2.2.1.1, .int .i64 p.2.2.2.2.1.2, .int .i64 p.2.2.2.2.2.1, .int .i64 p.2.2.2.2.2.2])] w fun e w' => e = .returned (.bool true) ∧ Below w.heap.size w w' := by
  by_cases hg : fewB l = true ∧ crsE l = 0 ∧ fitT l p = true
  · obtain ⟨hc, h0, hf⟩ := hg
    obtain ⟨b1, b2, b3, b4, b5, b6, b7⟩ := crs_bounds h0 hf
    obtain ⟨g1, g2, g3⟩ := crs_calls h0 hf
    have hcr : ∀ w', Seens w' v l → Calls Try.prog 38 #[v] w' fun e w'' => e = .returned (.tuple #[.agg #[.int .i64 (cT1 l), .int .i64 (cT2 l), .int .i64 (cYlo l), .int .i64 (cYhi l), .int .i64 (cZlo l), .int .i64 (cZhi l)], .int .i64 0]) ∧ Below w'.heap.size w' w'' := fun w' h => by
      have := cross_any v l w' h
      unfold crsV at this
      rwa [if_pos h0] at this
    exact pathCrossed_main v l p w h hc hf _ _ _ _ _ _ hcr _ _ _ _ _ _ rfl rfl rfl rfl rfl rfl b1 _ _ _ b2 b3 g1 g2 g3
  · exact pathCrossed_easy v l p w h hg
end Go.Proofs.Ytmdledlbkdcmnaa
