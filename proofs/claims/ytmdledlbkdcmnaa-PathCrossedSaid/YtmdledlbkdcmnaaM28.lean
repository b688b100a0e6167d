/-
  Contracts and laws, merged: Crossed CrossedP CrossedC.
  Conditions: none.
-/
import Derived.Test.YtmdledlbkdcmnaaM20
import Derived.Test.YtmdledlbkdcmnaaM10
import Derived.Test.YtmdledlbkdcmnaaM7
import Derived.Test.YtmdledlbkdcmnaaM13
import Derived.Test.YtmdledlbkdcmnaaM23
import Derived.Test.YtmdledlbkdcmnaaM9
set_option linter.unusedSimpArgs false
set_option linter.unusedVariables false
/-
  The walk of the statement on the crossing: the cases without a crossing.
  Conditions: none.
-/
namespace Go.Proofs.Ytmdledlbkdcmnaa
open Go.RowKit
set_option maxRecDepth 100000 in
set_option maxHeartbeats 4000000 in
theorem pathCrossed_many (v : Value) (l : List SN) (p : TR) (w : World) (h : Seens w v l) (hc : fewB l = false) : Calls Try.prog 12 #[v, (.agg #[.int .i64 p.1.1, .int .i64 p.1.2, .int .i64 p.2.1.1, .int .i64 p.2.1.2, .int .i64 p.2.2.1.1, .int .i64 p.2.2.1.2, .int .i64 p.2.2.2.1.1, .int .i64 p.2.2.2.1.2, .int .i64 p.2.2.2.2.1.1, .int .i64 p.2.2.2.2.1.2, .int .i64 p.2.2.2.2.2.1, .int .i64 p.2.2.2.2.2.2])] w fun e w' => e = .returned (.bool true) ∧ Below w.heap.size w w' := by
  have hfew := Lib.hid (fun w' (h : Seens w' v l) => by have := few_any v l w' h; rwa [hc] at this)
  have hS := Lib.hid h
  clear hc h
  go_enter Try.func12, Try.ntmps12
  go_wp2_with (first
    | (go_at_call 28; refine (awake33_any _).mono ?_; rintro e w1 ⟨rfl, hb1⟩; have hT := heap_alloc (X := (.cells #[.int .i64 0, .int .i64 0, .int .i64 0, .int .i64 0, .int .i64 0, .int .i64 0] 70)) (heap_old hb1 (heap_new w (.cells #[.int .i64 p.1.1, .int .i64 p.1.2, .int .i64 p.2.1.1, .int .i64 p.2.1.2, .int .i64 p.2.2.1.1, .int .i64 p.2.2.1.2, .int .i64 p.2.2.2.1.1, .int .i64 p.2.2.2.1.2, .int .i64 p.2.2.2.2.1.1, .int .i64 p.2.2.2.2.1.2, .int .i64 p.2.2.2.2.2.1, .int .i64 p.2.2.2.2.2.2] 26) rfl)); have hC := heap_new w1 (.cells #[.int .i64 0, .int .i64 0, .int .i64 0, .int .i64 0, .int .i64 0, .int .i64 0] 70) rfl; have hK1 := Below.next1 (Below.refl w.heap.size w) (Nat.le_refl _) hb1; have hK := hK1.alloc hK1.size (.cells #[.int .i64 0, .int .i64 0, .int .i64 0, .int .i64 0, .int .i64 0, .int .i64 0] 70); have hg : w.heap.size < w1.heap.size := (by have := hb1.size; simp at this; omega); clear hb1)
    | (go_at_call 29; refine (hfew.out _ (hS.out.below hK)).mono ?_; rintro e w2 ⟨rfl, hb2⟩; replace hT := heap_old hb2 hT; replace hC := heap_old hb2 hC; replace hK := Below.next hK (Nat.le_refl _) hb2; clear hb2; (try (clear s0 s1 s2 s3 s4 s5 s6 s7 s8 s9 s10 s11)); (have s0 := cell_heap (o := 0) hT rfl; have s1 := cell_heap (o := 1) hT rfl; have s2 := cell_heap (o := 2) hT rfl; have s3 := cell_heap (o := 3) hT rfl; have s4 := cell_heap (o := 4) hT rfl; have s5 := cell_heap (o := 5) hT rfl; have s6 := cell_heap (o := 6) hT rfl; have s7 := cell_heap (o := 7) hT rfl; have s8 := cell_heap (o := 8) hT rfl; have s9 := cell_heap (o := 9) hT rfl; have s10 := cell_heap (o := 10) hT rfl; have s11 := cell_heap (o := 11) hT rfl)))
  go_ret
  exact ⟨rfl, hK⟩
set_option maxRecDepth 100000 in
set_option maxHeartbeats 4000000 in
theorem pathCrossed_not (v : Value) (l : List SN) (p : TR) (w : World) (h : Seens w v l) (hc : fewB l = true) (h0 : crsE l = 0) (hf : fitT l p = false) : Calls Try.prog 12 #[v, (.agg #[.int .i64 p.1.1, .int .i64 p.1.2, .int .i64 p.2.1.1, .int .i64 p.2.1.2, .int .i64 p.2.2.1.1, .int .i64 p.2.2.1.2, .int .i64 p.2.2.2.1.1, .int .i64 p.2.2.2.1.2, .int .i64 p.2.2.2.2.1.1, .int .i64 p.2.2.2.2.1.2, .int .i64 p.2.2.2.2.2.1, .int .i64 p.2.2.2.2.2.2])] w fun e w' => e = .returned (.bool true) ∧ Below w.heap.size w w' := by
  have hfew := Lib.hid (fun w' (h : Seens w' v l) => by have := few_any v l w' h; rwa [hc] at this)
  have hfit := Lib.hid (fun w' (h : Seens w' v l) => by have := lfits_any v l p w' h; rwa [hf] at this)
  have hcr := Lib.hid (fun w' (h : Seens w' v l) => by have := cross_any v l w' h; unfold crsV at this; rwa [if_pos h0] at this)
  have hfewA := hfew
  have hS := Lib.hid h
  clear hc h hf h0
  generalize cT1 l = x0 at *
  generalize cT2 l = x1 at *
  generalize loR (bnds 1 (bhdL l)) x0 x1 = x2 at *
  generalize hiR (bnds 1 (bhdL l)) x0 x1 = x3 at *
  generalize fallLo (loR (bnds 2 (bhdL l)) x0 x1) (hiR (bnds 2 (bhdL l)) x0 x1) x0 x1 = x4 at *
  generalize fallHi (loR (bnds 2 (bhdL l)) x0 x1) (hiR (bnds 2 (bhdL l)) x0 x1) x0 x1 = x5 at *
  go_enter Try.func12, Try.ntmps12
  go_wp2_with (first
    | (go_at_call 28; refine (awake33_any _).mono ?_; rintro e w1 ⟨rfl, hb1⟩; have hT := heap_alloc (X := (.cells #[.int .i64 0, .int .i64 0, .int .i64 0, .int .i64 0, .int .i64 0, .int .i64 0] 70)) (heap_old hb1 (heap_new w (.cells #[.int .i64 p.1.1, .int .i64 p.1.2, .int .i64 p.2.1.1, .int .i64 p.2.1.2, .int .i64 p.2.2.1.1, .int .i64 p.2.2.1.2, .int .i64 p.2.2.2.1.1, .int .i64 p.2.2.2.1.2, .int .i64 p.2.2.2.2.1.1, .int .i64 p.2.2.2.2.1.2, .int .i64 p.2.2.2.2.2.1, .int .i64 p.2.2.2.2.2.2] 26) rfl)); have hC := heap_new w1 (.cells #[.int .i64 0, .int .i64 0, .int .i64 0, .int .i64 0, .int .i64 0, .int .i64 0] 70) rfl; have hK1 := Below.next1 (Below.refl w.heap.size w) (Nat.le_refl _) hb1; have hK := hK1.alloc hK1.size (.cells #[.int .i64 0, .int .i64 0, .int .i64 0, .int .i64 0, .int .i64 0, .int .i64 0] 70); have hg : w.heap.size < w1.heap.size := (by have := hb1.size; simp at this; omega); clear hb1)
    | (go_at_call 29; have hx := hfewA.out _ (hS.out.below hK); clear hfewA; refine hx.mono ?_; clear hx; rintro e w2 ⟨rfl, hb2⟩; replace hT := heap_old hb2 hT; replace hC := heap_old hb2 hC; replace hK := Below.next hK (Nat.le_refl _) hb2; clear hb2; (have s0 := cell_heap (o := 0) hT rfl; have s1 := cell_heap (o := 1) hT rfl; have s2 := cell_heap (o := 2) hT rfl; have s3 := cell_heap (o := 3) hT rfl; have s4 := cell_heap (o := 4) hT rfl; have s5 := cell_heap (o := 5) hT rfl; have s6 := cell_heap (o := 6) hT rfl; have s7 := cell_heap (o := 7) hT rfl; have s8 := cell_heap (o := 8) hT rfl; have s9 := cell_heap (o := 9) hT rfl; have s10 := cell_heap (o := 10) hT rfl; have s11 := cell_heap (o := 11) hT rfl))
    | (go_at_call 38; refine (hcr.out _ (hS.out.below hK)).mono ?_; rintro e w3 ⟨rfl, hb3⟩; replace hT := heap_old hb3 hT; replace hC := heap_old hb3 hC; replace hK := Below.next hK (Nat.le_refl _) hb3; clear hb3; (clear s0 s1 s2 s3 s4 s5 s6 s7 s8 s9 s10 s11); have c0 := cell_heap (o := 0) hC rfl; have c1 := cell_heap (o := 1) hC rfl; have c2 := cell_heap (o := 2) hC rfl; have c3 := cell_heap (o := 3) hC rfl; have c4 := cell_heap (o := 4) hC rfl; have c5 := cell_heap (o := 5) hC rfl; have f0 := frozen_heap (o := 0) hC; have f1 := frozen_heap (o := 1) hC; have f2 := frozen_heap (o := 2) hC; have f3 := frozen_heap (o := 3) hC; have f4 := frozen_heap (o := 4) hC; have f5 := frozen_heap (o := 5) hC))
  (replace hC := heap_set (o := 5) (v := .int .i64 x5) (heap_set (o := 4) (v := .int .i64 x4) (heap_set (o := 3) (v := .int .i64 x3) (heap_set (o := 2) (v := .int .i64 x2) (heap_set (o := 1) (v := .int .i64 x1) (heap_set (o := 0) (v := .int .i64 x0) hC))))); simp only [List.setIfInBounds_toArray, List.set_cons_succ, List.set_cons_zero] at hC; replace hT := heap_set_other (g := w1.heap.size) (o := 5) (v := .int .i64 x5) (heap_set_other (g := w1.heap.size) (o := 4) (v := .int .i64 x4) (heap_set_other (g := w1.heap.size) (o := 3) (v := .int .i64 x3) (heap_set_other (g := w1.heap.size) (o := 2) (v := .int .i64 x2) (heap_set_other (g := w1.heap.size) (o := 1) (v := .int .i64 x1) (heap_set_other (g := w1.heap.size) (o := 0) (v := .int .i64 x0) hT (by omega)) (by omega)) (by omega)) (by omega)) (by omega)) (by omega); replace hK : Below w.heap.size w ((((((w3.setCell ⟨w1.heap.size, 0, none⟩ (.int .i64 x0)).setCell ⟨w1.heap.size, 1, none⟩ (.int .i64 x1)).setCell ⟨w1.heap.size, 2, none⟩ (.int .i64 x2)).setCell ⟨w1.heap.size, 3, none⟩ (.int .i64 x3)).setCell ⟨w1.heap.size, 4, none⟩ (.int .i64 x4)).setCell ⟨w1.heap.size, 5, none⟩ (.int .i64 x5)) := (by repeat (first | with_reducible exact Below.refl _ _ | with_reducible assumption | with_reducible refine Below.drew ?_ | with_reducible refine Below.setCell ?_ (by first | omega | (simp; omega) | simp) _ | with_reducible refine Below.alloc ?_ (by first | omega | (simp; omega) | simp) _ | with_reducible refine Below.trans ?_ (Below.mono (by with_reducible assumption) (by first | omega | (simp; omega) | simp)))); clear c0 c1 c2 c3 c4 c5 f0 f1 f2 f3 f4 f5; generalize ((((((w3.setCell ⟨w1.heap.size, 0, none⟩ (.int .i64 x0)).setCell ⟨w1.heap.size, 1, none⟩ (.int .i64 x1)).setCell ⟨w1.heap.size, 2, none⟩ (.int .i64 x2)).setCell ⟨w1.heap.size, 3, none⟩ (.int .i64 x3)).setCell ⟨w1.heap.size, 4, none⟩ (.int .i64 x4)).setCell ⟨w1.heap.size, 5, none⟩ (.int .i64 x5)) = W6 at hC hT hK ⊢; (have s0 := cell_heap (o := 0) hT rfl; have s1 := cell_heap (o := 1) hT rfl; have s2 := cell_heap (o := 2) hT rfl; have s3 := cell_heap (o := 3) hT rfl; have s4 := cell_heap (o := 4) hT rfl; have s5 := cell_heap (o := 5) hT rfl; have s6 := cell_heap (o := 6) hT rfl; have s7 := cell_heap (o := 7) hT rfl; have s8 := cell_heap (o := 8) hT rfl; have s9 := cell_heap (o := 9) hT rfl; have s10 := cell_heap (o := 10) hT rfl; have s11 := cell_heap (o := 11) hT rfl))
  go_wp2_with (first
    | (go_at_call 29; refine (hfew.out _ (hS.out.below hK)).mono ?_; rintro e w2 ⟨rfl, hb2⟩; replace hT := heap_old hb2 hT; replace hC := heap_old hb2 hC; replace hK := Below.next hK (Nat.le_refl _) hb2; clear hb2; (try (clear s0 s1 s2 s3 s4 s5 s6 s7 s8 s9 s10 s11)); (have s0 := cell_heap (o := 0) hT rfl; have s1 := cell_heap (o := 1) hT rfl; have s2 := cell_heap (o := 2) hT rfl; have s3 := cell_heap (o := 3) hT rfl; have s4 := cell_heap (o := 4) hT rfl; have s5 := cell_heap (o := 5) hT rfl; have s6 := cell_heap (o := 6) hT rfl; have s7 := cell_heap (o := 7) hT rfl; have s8 := cell_heap (o := 8) hT rfl; have s9 := cell_heap (o := 9) hT rfl; have s10 := cell_heap (o := 10) hT rfl; have s11 := cell_heap (o := 11) hT rfl))
    | (go_at_call 40; refine (hfit.out _ (hS.out.below hK)).mono ?_; rintro e w4 ⟨rfl, hb4⟩; replace hT := heap_old hb4 hT; replace hC := heap_old hb4 hC; replace hK := Below.next hK (Nat.le_refl _) hb4; clear hb4; (clear s0 s1 s2 s3 s4 s5 s6 s7 s8 s9 s10 s11); (have s0 := cell_heap (o := 0) hT rfl; have s1 := cell_heap (o := 1) hT rfl; have s2 := cell_heap (o := 2) hT rfl; have s3 := cell_heap (o := 3) hT rfl; have s4 := cell_heap (o := 4) hT rfl; have s5 := cell_heap (o := 5) hT rfl; have s6 := cell_heap (o := 6) hT rfl; have s7 := cell_heap (o := 7) hT rfl; have s8 := cell_heap (o := 8) hT rfl; have s9 := cell_heap (o := 9) hT rfl; have s10 := cell_heap (o := 10) hT rfl; have s11 := cell_heap (o := 11) hT rfl)))
  go_ret
  exact ⟨rfl, hK⟩
set_option maxRecDepth 100000 in
set_option maxHeartbeats 4000000 in
theorem pathCrossed_errX (v : Value) (l : List SN) (p : TR) (w : World) (h : Seens w v l) (hc : fewB l = true) (x0 x1 x2 x3 x4 x5 E : Int) (hE0 : E ≠ 0) (h13 : E ≠ 13) (hcr0 : ∀ w', Seens w' v l → Calls Try.prog 38 #[v] w' fun e w'' => e = .returned (.tuple #[.agg #[.int .i64 x0, .int .i64 x1, .int .i64 x2, .int .i64 x3, .int .i64 x4, .int .i64 x5], .int .i64 E]) ∧ Below w'.heap.size w' w'') : Calls Try.prog 12 #[v, (.agg #[.int .i64 p.1.1, .int .i64 p.1.2, .int .i64 p.2.1.1, .int .i64 p.2.1.2, .int .i64 p.2.2.1.1, .int .i64 p.2.2.1.2, .int .i64 p.2.2.2.1.1, .int .i64 p.2.2.2.1.2, .int .i64 p.2.2.2.2.1.1, .int .i64 p.2.2.2.2.1.2, .int .i64 p.2.2.2.2.2.1, .int .i64 p.2.2.2.2.2.2])] w fun e w' => e = .returned (.bool true) ∧ Below w.heap.size w w' := by
  have hfew := Lib.hid (fun w' (h : Seens w' v l) => by have := few_any v l w' h; rwa [hc] at this)
  have hcr := Lib.hid hcr0
  have hfewA := hfew
  have hS := Lib.hid h
  clear hc h hcr0
  go_enter Try.func12, Try.ntmps12
  go_wp2_with (first
    | (go_at_call 28; refine (awake33_any _).mono ?_; rintro e w1 ⟨rfl, hb1⟩; have hT := heap_alloc (X := (.cells #[.int .i64 0, .int .i64 0, .int .i64 0, .int .i64 0, .int .i64 0, .int .i64 0] 70)) (heap_old hb1 (heap_new w (.cells #[.int .i64 p.1.1, .int .i64 p.1.2, .int .i64 p.2.1.1, .int .i64 p.2.1.2, .int .i64 p.2.2.1.1, .int .i64 p.2.2.1.2, .int .i64 p.2.2.2.1.1, .int .i64 p.2.2.2.1.2, .int .i64 p.2.2.2.2.1.1, .int .i64 p.2.2.2.2.1.2, .int .i64 p.2.2.2.2.2.1, .int .i64 p.2.2.2.2.2.2] 26) rfl)); have hC := heap_new w1 (.cells #[.int .i64 0, .int .i64 0, .int .i64 0, .int .i64 0, .int .i64 0, .int .i64 0] 70) rfl; have hK1 := Below.next1 (Below.refl w.heap.size w) (Nat.le_refl _) hb1; have hK := hK1.alloc hK1.size (.cells #[.int .i64 0, .int .i64 0, .int .i64 0, .int .i64 0, .int .i64 0, .int .i64 0] 70); have hg : w.heap.size < w1.heap.size := (by have := hb1.size; simp at this; omega); clear hb1)
    | (go_at_call 29; have hx := hfewA.out _ (hS.out.below hK); clear hfewA; refine hx.mono ?_; clear hx; rintro e w2 ⟨rfl, hb2⟩; replace hT := heap_old hb2 hT; replace hC := heap_old hb2 hC; replace hK := Below.next hK (Nat.le_refl _) hb2; clear hb2; (have s0 := cell_heap (o := 0) hT rfl; have s1 := cell_heap (o := 1) hT rfl; have s2 := cell_heap (o := 2) hT rfl; have s3 := cell_heap (o := 3) hT rfl; have s4 := cell_heap (o := 4) hT rfl; have s5 := cell_heap (o := 5) hT rfl; have s6 := cell_heap (o := 6) hT rfl; have s7 := cell_heap (o := 7) hT rfl; have s8 := cell_heap (o := 8) hT rfl; have s9 := cell_heap (o := 9) hT rfl; have s10 := cell_heap (o := 10) hT rfl; have s11 := cell_heap (o := 11) hT rfl))
    | (go_at_call 38; refine (hcr.out _ (hS.out.below hK)).mono ?_; rintro e w3 ⟨rfl, hb3⟩; replace hT := heap_old hb3 hT; replace hC := heap_old hb3 hC; replace hK := Below.next hK (Nat.le_refl _) hb3; clear hb3; (clear s0 s1 s2 s3 s4 s5 s6 s7 s8 s9 s10 s11); have c0 := cell_heap (o := 0) hC rfl; have c1 := cell_heap (o := 1) hC rfl; have c2 := cell_heap (o := 2) hC rfl; have c3 := cell_heap (o := 3) hC rfl; have c4 := cell_heap (o := 4) hC rfl; have c5 := cell_heap (o := 5) hC rfl; have f0 := frozen_heap (o := 0) hC; have f1 := frozen_heap (o := 1) hC; have f2 := frozen_heap (o := 2) hC; have f3 := frozen_heap (o := 3) hC; have f4 := frozen_heap (o := 4) hC; have f5 := frozen_heap (o := 5) hC))
  (replace hC := heap_set (o := 5) (v := .int .i64 x5) (heap_set (o := 4) (v := .int .i64 x4) (heap_set (o := 3) (v := .int .i64 x3) (heap_set (o := 2) (v := .int .i64 x2) (heap_set (o := 1) (v := .int .i64 x1) (heap_set (o := 0) (v := .int .i64 x0) hC))))); simp only [List.setIfInBounds_toArray, List.set_cons_succ, List.set_cons_zero] at hC; replace hT := heap_set_other (g := w1.heap.size) (o := 5) (v := .int .i64 x5) (heap_set_other (g := w1.heap.size) (o := 4) (v := .int .i64 x4) (heap_set_other (g := w1.heap.size) (o := 3) (v := .int .i64 x3) (heap_set_other (g := w1.heap.size) (o := 2) (v := .int .i64 x2) (heap_set_other (g := w1.heap.size) (o := 1) (v := .int .i64 x1) (heap_set_other (g := w1.heap.size) (o := 0) (v := .int .i64 x0) hT (by omega)) (by omega)) (by omega)) (by omega)) (by omega)) (by omega); replace hK : Below w.heap.size w ((((((w3.setCell ⟨w1.heap.size, 0, none⟩ (.int .i64 x0)).setCell ⟨w1.heap.size, 1, none⟩ (.int .i64 x1)).setCell ⟨w1.heap.size, 2, none⟩ (.int .i64 x2)).setCell ⟨w1.heap.size, 3, none⟩ (.int .i64 x3)).setCell ⟨w1.heap.size, 4, none⟩ (.int .i64 x4)).setCell ⟨w1.heap.size, 5, none⟩ (.int .i64 x5)) := (by repeat (first | with_reducible exact Below.refl _ _ | with_reducible assumption | with_reducible refine Below.drew ?_ | with_reducible refine Below.setCell ?_ (by first | omega | (simp; omega) | simp) _ | with_reducible refine Below.alloc ?_ (by first | omega | (simp; omega) | simp) _ | with_reducible refine Below.trans ?_ (Below.mono (by with_reducible assumption) (by first | omega | (simp; omega) | simp)))); clear c0 c1 c2 c3 c4 c5 f0 f1 f2 f3 f4 f5; generalize ((((((w3.setCell ⟨w1.heap.size, 0, none⟩ (.int .i64 x0)).setCell ⟨w1.heap.size, 1, none⟩ (.int .i64 x1)).setCell ⟨w1.heap.size, 2, none⟩ (.int .i64 x2)).setCell ⟨w1.heap.size, 3, none⟩ (.int .i64 x3)).setCell ⟨w1.heap.size, 4, none⟩ (.int .i64 x4)).setCell ⟨w1.heap.size, 5, none⟩ (.int .i64 x5)) = W6 at hC hT hK ⊢; (have s0 := cell_heap (o := 0) hT rfl; have s1 := cell_heap (o := 1) hT rfl; have s2 := cell_heap (o := 2) hT rfl; have s3 := cell_heap (o := 3) hT rfl; have s4 := cell_heap (o := 4) hT rfl; have s5 := cell_heap (o := 5) hT rfl; have s6 := cell_heap (o := 6) hT rfl; have s7 := cell_heap (o := 7) hT rfl; have s8 := cell_heap (o := 8) hT rfl; have s9 := cell_heap (o := 9) hT rfl; have s10 := cell_heap (o := 10) hT rfl; have s11 := cell_heap (o := 11) hT rfl))
  go_wp2_with (first
    | (go_at_call 29; refine (hfew.out _ (hS.out.below hK)).mono ?_; rintro e w2 ⟨rfl, hb2⟩; replace hT := heap_old hb2 hT; replace hC := heap_old hb2 hC; replace hK := Below.next hK (Nat.le_refl _) hb2; clear hb2; (try (clear s0 s1 s2 s3 s4 s5 s6 s7 s8 s9 s10 s11)); (have s0 := cell_heap (o := 0) hT rfl; have s1 := cell_heap (o := 1) hT rfl; have s2 := cell_heap (o := 2) hT rfl; have s3 := cell_heap (o := 3) hT rfl; have s4 := cell_heap (o := 4) hT rfl; have s5 := cell_heap (o := 5) hT rfl; have s6 := cell_heap (o := 6) hT rfl; have s7 := cell_heap (o := 7) hT rfl; have s8 := cell_heap (o := 8) hT rfl; have s9 := cell_heap (o := 9) hT rfl; have s10 := cell_heap (o := 10) hT rfl; have s11 := cell_heap (o := 11) hT rfl))
    | (go_at_call 40; refine (hfit.out _ (hS.out.below hK)).mono ?_; rintro e w4 ⟨rfl, hb4⟩; replace hT := heap_old hb4 hT; replace hC := heap_old hb4 hC; replace hK := Below.next hK (Nat.le_refl _) hb4; clear hb4; (clear s0 s1 s2 s3 s4 s5 s6 s7 s8 s9 s10 s11); (have s0 := cell_heap (o := 0) hT rfl; have s1 := cell_heap (o := 1) hT rfl; have s2 := cell_heap (o := 2) hT rfl; have s3 := cell_heap (o := 3) hT rfl; have s4 := cell_heap (o := 4) hT rfl; have s5 := cell_heap (o := 5) hT rfl; have s6 := cell_heap (o := 6) hT rfl; have s7 := cell_heap (o := 7) hT rfl; have s8 := cell_heap (o := 8) hT rfl; have s9 := cell_heap (o := 9) hT rfl; have s10 := cell_heap (o := 10) hT rfl; have s11 := cell_heap (o := 11) hT rfl)))
  go_ret
  exact ⟨rfl, hK⟩
set_option maxRecDepth 100000 in
set_option maxHeartbeats 4000000 in
theorem pathCrossed_13 (v : Value) (l : List SN) (p : TR) (w : World) (h : Seens w v l) (hc : fewB l = true) (x0 x1 x2 x3 x4 x5 : Int) (hf : fitT l p = false) (hcr0 : ∀ w', Seens w' v l → Calls Try.prog 38 #[v] w' fun e w'' => e = .returned (.tuple #[.agg #[.int .i64 x0, .int .i64 x1, .int .i64 x2, .int .i64 x3, .int .i64 x4, .int .i64 x5], .int .i64 13]) ∧ Below w'.heap.size w' w'') : Calls Try.prog 12 #[v, (.agg #[.int .i64 p.1.1, .int .i64 p.1.2, .int .i64 p.2.1.1, .int .i64 p.2.1.2, .int .i64 p.2.2.1.1, .int .i64 p.2.2.1.2, .int .i64 p.2.2.2.1.1, .int .i64 p.2.2.2.1.2, .int .i64 p.2.2.2.2.1.1, .int .i64 p.2.2.2.2.1.2, .int .i64 p.2.2.2.2.2.1, .int .i64 p.2.2.2.2.2.2])] w fun e w' => e = .returned (.bool true) ∧ Below w.heap.size w w' := by
  have hfew := Lib.hid (fun w' (h : Seens w' v l) => by have := few_any v l w' h; rwa [hc] at this)
  have hcr := Lib.hid hcr0
  have hfewA := hfew
  have hS := Lib.hid h
  have hfit := Lib.hid (fun w' (h : Seens w' v l) => by have := lfits_any v l p w' h; rwa [hf] at this)
  clear hf
  clear hc h hcr0
  go_enter Try.func12, Try.ntmps12
  go_wp2_with (first
    | (go_at_call 28; refine (awake33_any _).mono ?_; rintro e w1 ⟨rfl, hb1⟩; have hT := heap_alloc (X := (.cells #[.int .i64 0, .int .i64 0, .int .i64 0, .int .i64 0, .int .i64 0, .int .i64 0] 70)) (heap_old hb1 (heap_new w (.cells #[.int .i64 p.1.1, .int .i64 p.1.2, .int .i64 p.2.1.1, .int .i64 p.2.1.2, .int .i64 p.2.2.1.1, .int .i64 p.2.2.1.2, .int .i64 p.2.2.2.1.1, .int .i64 p.2.2.2.1.2, .int .i64 p.2.2.2.2.1.1, .int .i64 p.2.2.2.2.1.2, .int .i64 p.2.2.2.2.2.1, .int .i64 p.2.2.2.2.2.2] 26) rfl)); have hC := heap_new w1 (.cells #[.int .i64 0, .int .i64 0, .int .i64 0, .int .i64 0, .int .i64 0, .int .i64 0] 70) rfl; have hK1 := Below.next1 (Below.refl w.heap.size w) (Nat.le_refl _) hb1; have hK := hK1.alloc hK1.size (.cells #[.int .i64 0, .int .i64 0, .int .i64 0, .int .i64 0, .int .i64 0, .int .i64 0] 70); have hg : w.heap.size < w1.heap.size := (by have := hb1.size; simp at this; omega); clear hb1)
    | (go_at_call 29; have hx := hfewA.out _ (hS.out.below hK); clear hfewA; refine hx.mono ?_; clear hx; rintro e w2 ⟨rfl, hb2⟩; replace hT := heap_old hb2 hT; replace hC := heap_old hb2 hC; replace hK := Below.next hK (Nat.le_refl _) hb2; clear hb2; (have s0 := cell_heap (o := 0) hT rfl; have s1 := cell_heap (o := 1) hT rfl; have s2 := cell_heap (o := 2) hT rfl; have s3 := cell_heap (o := 3) hT rfl; have s4 := cell_heap (o := 4) hT rfl; have s5 := cell_heap (o := 5) hT rfl; have s6 := cell_heap (o := 6) hT rfl; have s7 := cell_heap (o := 7) hT rfl; have s8 := cell_heap (o := 8) hT rfl; have s9 := cell_heap (o := 9) hT rfl; have s10 := cell_heap (o := 10) hT rfl; have s11 := cell_heap (o := 11) hT rfl))
    | (go_at_call 38; refine (hcr.out _ (hS.out.below hK)).mono ?_; rintro e w3 ⟨rfl, hb3⟩; replace hT := heap_old hb3 hT; replace hC := heap_old hb3 hC; replace hK := Below.next hK (Nat.le_refl _) hb3; clear hb3; (clear s0 s1 s2 s3 s4 s5 s6 s7 s8 s9 s10 s11); have c0 := cell_heap (o := 0) hC rfl; have c1 := cell_heap (o := 1) hC rfl; have c2 := cell_heap (o := 2) hC rfl; have c3 := cell_heap (o := 3) hC rfl; have c4 := cell_heap (o := 4) hC rfl; have c5 := cell_heap (o := 5) hC rfl; have f0 := frozen_heap (o := 0) hC; have f1 := frozen_heap (o := 1) hC; have f2 := frozen_heap (o := 2) hC; have f3 := frozen_heap (o := 3) hC; have f4 := frozen_heap (o := 4) hC; have f5 := frozen_heap (o := 5) hC))
  (replace hC := heap_set (o := 5) (v := .int .i64 x5) (heap_set (o := 4) (v := .int .i64 x4) (heap_set (o := 3) (v := .int .i64 x3) (heap_set (o := 2) (v := .int .i64 x2) (heap_set (o := 1) (v := .int .i64 x1) (heap_set (o := 0) (v := .int .i64 x0) hC))))); simp only [List.setIfInBounds_toArray, List.set_cons_succ, List.set_cons_zero] at hC; replace hT := heap_set_other (g := w1.heap.size) (o := 5) (v := .int .i64 x5) (heap_set_other (g := w1.heap.size) (o := 4) (v := .int .i64 x4) (heap_set_other (g := w1.heap.size) (o := 3) (v := .int .i64 x3) (heap_set_other (g := w1.heap.size) (o := 2) (v := .int .i64 x2) (heap_set_other (g := w1.heap.size) (o := 1) (v := .int .i64 x1) (heap_set_other (g := w1.heap.size) (o := 0) (v := .int .i64 x0) hT (by omega)) (by omega)) (by omega)) (by omega)) (by omega)) (by omega); replace hK : Below w.heap.size w ((((((w3.setCell ⟨w1.heap.size, 0, none⟩ (.int .i64 x0)).setCell ⟨w1.heap.size, 1, none⟩ (.int .i64 x1)).setCell ⟨w1.heap.size, 2, none⟩ (.int .i64 x2)).setCell ⟨w1.heap.size, 3, none⟩ (.int .i64 x3)).setCell ⟨w1.heap.size, 4, none⟩ (.int .i64 x4)).setCell ⟨w1.heap.size, 5, none⟩ (.int .i64 x5)) := (by repeat (first | with_reducible exact Below.refl _ _ | with_reducible assumption | with_reducible refine Below.drew ?_ | with_reducible refine Below.setCell ?_ (by first | omega | (simp; omega) | simp) _ | with_reducible refine Below.alloc ?_ (by first | omega | (simp; omega) | simp) _ | with_reducible refine Below.trans ?_ (Below.mono (by with_reducible assumption) (by first | omega | (simp; omega) | simp)))); clear c0 c1 c2 c3 c4 c5 f0 f1 f2 f3 f4 f5; generalize ((((((w3.setCell ⟨w1.heap.size, 0, none⟩ (.int .i64 x0)).setCell ⟨w1.heap.size, 1, none⟩ (.int .i64 x1)).setCell ⟨w1.heap.size, 2, none⟩ (.int .i64 x2)).setCell ⟨w1.heap.size, 3, none⟩ (.int .i64 x3)).setCell ⟨w1.heap.size, 4, none⟩ (.int .i64 x4)).setCell ⟨w1.heap.size, 5, none⟩ (.int .i64 x5)) = W6 at hC hT hK ⊢; (have s0 := cell_heap (o := 0) hT rfl; have s1 := cell_heap (o := 1) hT rfl; have s2 := cell_heap (o := 2) hT rfl; have s3 := cell_heap (o := 3) hT rfl; have s4 := cell_heap (o := 4) hT rfl; have s5 := cell_heap (o := 5) hT rfl; have s6 := cell_heap (o := 6) hT rfl; have s7 := cell_heap (o := 7) hT rfl; have s8 := cell_heap (o := 8) hT rfl; have s9 := cell_heap (o := 9) hT rfl; have s10 := cell_heap (o := 10) hT rfl; have s11 := cell_heap (o := 11) hT rfl))
  go_wp2_with (first
    | (go_at_call 29; refine (hfew.out _ (hS.out.below hK)).mono ?_; rintro e w2 ⟨rfl, hb2⟩; replace hT := heap_old hb2 hT; replace hC := heap_old hb2 hC; replace hK := Below.next hK (Nat.le_refl _) hb2; clear hb2; (try (clear s0 s1 s2 s3 s4 s5 s6 s7 s8 s9 s10 s11)); (have s0 := cell_heap (o := 0) hT rfl; have s1 := cell_heap (o := 1) hT rfl; have s2 := cell_heap (o := 2) hT rfl; have s3 := cell_heap (o := 3) hT rfl; have s4 := cell_heap (o := 4) hT rfl; have s5 := cell_heap (o := 5) hT rfl; have s6 := cell_heap (o := 6) hT rfl; have s7 := cell_heap (o := 7) hT rfl; have s8 := cell_heap (o := 8) hT rfl; have s9 := cell_heap (o := 9) hT rfl; have s10 := cell_heap (o := 10) hT rfl; have s11 := cell_heap (o := 11) hT rfl))
    | (go_at_call 40; refine (hfit.out _ (hS.out.below hK)).mono ?_; rintro e w4 ⟨rfl, hb4⟩; replace hT := heap_old hb4 hT; replace hC := heap_old hb4 hC; replace hK := Below.next hK (Nat.le_refl _) hb4; clear hb4; (clear s0 s1 s2 s3 s4 s5 s6 s7 s8 s9 s10 s11); (have s0 := cell_heap (o := 0) hT rfl; have s1 := cell_heap (o := 1) hT rfl; have s2 := cell_heap (o := 2) hT rfl; have s3 := cell_heap (o := 3) hT rfl; have s4 := cell_heap (o := 4) hT rfl; have s5 := cell_heap (o := 5) hT rfl; have s6 := cell_heap (o := 6) hT rfl; have s7 := cell_heap (o := 7) hT rfl; have s8 := cell_heap (o := 8) hT rfl; have s9 := cell_heap (o := 9) hT rfl; have s10 := cell_heap (o := 10) hT rfl; have s11 := cell_heap (o := 11) hT rfl)))
  go_ret
  exact ⟨rfl, hK⟩
/-- Where there is no crossing, or the path does not fit. -/
theorem pathCrossed_easy (v : Value) (l : List SN) (p : TR) (w : World) (h : Seens w v l) (hg : ¬(fewB l = true ∧ crsE l = 0 ∧ fitT l p = true)) : Calls Try.prog 12 #[v, (.agg #[.int .i64 p.1.1, .int .i64 p.1.2, .int .i64 p.2.1.1, .int .i64 p.2.1.2, .int .i64 p.2.2.1.1, .int .i64 p.2.2.1.2, .int .i64 p.2.2.2.1.1, .int .i64 p.2.2.2.1.2, .int .i64 p.2.2.2.2.1.1, .int .i64 p.2.2.2.2.1.2, .int .i64 p.2.2.2.2.2.1, .int .i64 p.2.2.2.2.2.2])] w fun e w' => e = .returned (.bool true) ∧ Below w.heap.size w w' := by
  cases hc : fewB l with
  | false => exact pathCrossed_many v l p w h hc
  | true =>
    by_cases h0 : crsE l = 0
    · cases hf : fitT l p with
      | false => exact pathCrossed_not v l p w h hc h0 hf
      | true => exact absurd ⟨hc, h0, hf⟩ hg
    · have hcr : ∀ w', Seens w' v l → Calls Try.prog 38 #[v] w' fun e w'' => e = .returned (.tuple #[.agg #[.int .i64 0, .int .i64 0, .int .i64 0, .int .i64 0, .int .i64 0, .int .i64 0], .int .i64 (crsE l)]) ∧ Below w'.heap.size w' w'' := fun w' h => by
        have := cross_any v l w' h
        unfold crsV at this
        rwa [if_neg h0] at this
      by_cases h13 : crsE l = 13
      · cases hf : fitT l p with
        | false => rw [h13] at hcr; exact pathCrossed_13 v l p w h hc 0 0 0 0 0 0 hf hcr
        | true => exact absurd h13 (fitT_crs hf)
      · exact pathCrossed_errX v l p w h hc 0 0 0 0 0 0 _ h0 h13 hcr
end Go.Proofs.Ytmdledlbkdcmnaa

/-
  What the statement on the crossing asks, in plain numbers.
  Conditions: none.
-/
namespace Go.Proofs.Ytmdledlbkdcmnaa
open Go.RowKit
theorem val_time (A B : Int × Int) (t : Int) : valN A B t = A.2 * B.1 - B.2 * A.1 - t * (A.2 - B.2) := by unfold valN; grind
/-- The ends of the crossing's time lie on either side of the line. -/
theorem val_sides {A B : Int × Int} {s t : Int} (h1 : s * (A.2 - B.2) < A.2 * B.1 - B.2 * A.1) (h2 : A.2 * B.1 - B.2 * A.1 < t * (A.2 - B.2)) : 0 < valN A B s ∧ valN A B t < 0 := by
  rw [val_time, val_time]; omega
theorem ord_bd {a b : Int × Int} (h : ¬(outP a ∨ outP b)) : ((0 ≤ (ordA a b).1 ∧ (ordA a b).1 ≤ 8000) ∧ (-1099511627776 ≤ (ordA a b).2 ∧ (ordA a b).2 ≤ 1099511627776)) ∧ (0 ≤ (ordB a b).1 ∧ (ordB a b).1 ≤ 8000) ∧ (-1099511627776 ≤ (ordB a b).2 ∧ (ordB a b).2 ≤ 1099511627776) := by
  unfold outP at h
  unfold ordA ordB
  split <;> omega
end Go.Proofs.Ytmdledlbkdcmnaa

/-
  The calls of the statement on the crossing, for a path that fits.
  Conditions: none.
-/
namespace Go.Proofs.Ytmdledlbkdcmnaa
open Go.RowKit
/-- What is laid down of a path that fits and a crossing, before the walk. -/
def CrsV (XA XB : Int × Int) : Prop := 0 < XA.2 - XB.2 ∧ -1099511627776 ≤ XA.2 ∧ XA.2 ≤ 1099511627776 ∧ -1099511627776 ≤ XB.2 ∧ XB.2 ≤ 1099511627776 ∧ -8796093022208000 ≤ XA.2 * XB.1 ∧ XA.2 * XB.1 ≤ 8796093022208000 ∧ -8796093022208000 ≤ XB.2 * XA.1 ∧ XB.2 * XA.1 ≤ 8796093022208000 ∧ True
/-- The calls behind the swaps, for a path that fits. -/
def CrsT (x0 x1 x2 x3 x4 x5 : Int) (YA YB ZA ZB : Int × Int) (n d : Int) : Prop := ∃ Q0 Q1 S0 S1 U0 U1 M0 M1 : Int,
  (-8800000000000000 ≤ YB.1 * d ∧ YB.1 * d ≤ 8800000000000000) ∧ (-8800000000000000 ≤ YA.1 * d ∧ YA.1 * d ≤ 8800000000000000) ∧ (-8800000000000000 ≤ (YB.1 - YA.1) * d ∧ (YB.1 - YA.1) * d ≤ 8800000000000000) ∧ (0 ≤ YA.1 ∧ YA.1 ≤ 8000 ∧ 0 ≤ YB.1 ∧ YB.1 ≤ 8000) ∧ (-400000000000000 ≤ x3 ∧ x3 ≤ 400000000000000)
  ∧ (∀ w, Calls Try.prog 41 #[.int .i64 YA.2, .int .i64 (YB.1 * d - n)] w fun e w' => e = .returned (.agg #[.int .i64 Q0, .int .u64 Q1]) ∧ Below w.heap.size w w')
  ∧ (∀ w, Calls Try.prog 41 #[.int .i64 YB.2, .int .i64 (n - YA.1 * d)] w fun e w' => e = .returned (.agg #[.int .i64 S0, .int .u64 S1]) ∧ Below w.heap.size w w')
  ∧ (∀ w, Calls Try.prog 42 #[.agg #[.int .i64 Q0, .int .u64 Q1], .agg #[.int .i64 S0, .int .u64 S1]] w fun e w' => e = .returned (.tuple #[.agg #[.int .i64 U0, .int .u64 U1], .bool true]) ∧ Below w.heap.size w w')
  ∧ (∀ w, Calls Try.prog 43 #[.agg #[.int .i64 U0, .int .u64 U1]] w fun e w' => e = .returned (.tuple #[.agg #[.int .i64 M0, .int .u64 M1], .bool true]) ∧ Below w.heap.size w w')
  ∧ (∀ w, Calls Try.prog 44 #[.int .i64 x2, .int .i64 ((YB.1 - YA.1) * d), .int .i64 1, .agg #[.int .i64 U0, .int .u64 U1]] w fun e w' => e = .returned (.bool true) ∧ Below w.heap.size w w')
  ∧ (∀ w, Calls Try.prog 44 #[.int .i64 (-x3), .int .i64 ((YB.1 - YA.1) * d), .int .i64 1, .agg #[.int .i64 M0, .int .u64 M1]] w fun e w' => e = .returned (.bool true) ∧ Below w.heap.size w w')
  ∧ (∀ w, Calls Try.prog 45 #[.agg #[.int .i64 x0, .int .i64 x1, .int .i64 x2, .int .i64 x3, .int .i64 x4, .int .i64 x5], .agg #[.int .i64 ZA.1, .int .i64 ZA.2, .int .i64 ZB.1, .int .i64 ZB.2], .int .i64 n, .int .i64 d] w fun e w' => e = .returned (.bool true) ∧ Below w.heap.size w w')
theorem crs_bounds {l : List SN} {p : TR} (h0 : crsE l = 0) (hf : fitT l p = true) : CrsV (ordA p.1 p.2.1) (ordB p.1 p.2.1) ∧ 0 < valN (ordA p.1 p.2.1) (ordB p.1 p.2.1) (cT1 l) ∧ valN (ordA p.1 p.2.1) (ordB p.1 p.2.1) (cT2 l) < 0 ∧ True ∧ True ∧ True ∧ True := by
  have C := crossedT h0 hf
  obtain ⟨f0, _, _⟩ := fitT_parts hf
  obtain ⟨_, _, _, ox, _⟩ := pfB_all f0
  obtain ⟨⟨⟨a1, a2⟩, a3, a4⟩, ⟨c1, c2⟩, c3, c4⟩ := ord_bd ox
  obtain ⟨v0, v1⟩ := val_sides C.lo C.hi
  have q1 := mul_bd (A := 1099511627776) (B := 8000) (a := (ordA p.1 p.2.1).2) (b := (ordB p.1 p.2.1).1) (by omega) (by omega) (by omega) (by omega)
  have q2 := mul_bd (A := 1099511627776) (B := 8000) (a := (ordB p.1 p.2.1).2) (b := (ordA p.1 p.2.1).1) (by omega) (by omega) (by omega) (by omega)
  have d := C.dpos
  refine ⟨?_, v0, v1, trivial, trivial, trivial, trivial⟩
  exact ⟨d, a3, a4, c3, c4, q1.1, q1.2, q2.1, q2.2, trivial⟩
theorem least_yes {a n b : Int} (h : a * n ≤ b) : decide (a * n * 1 ≤ b) = true := by rw [Int.mul_one]; exact decide_eq_true h
set_option maxHeartbeats 1000000 in
theorem crs_calls {l : List SN} {p : TR} (h0 : crsE l = 0) (hf : fitT l p = true) :
    (∀ w, Calls Try.prog 35 #[.agg #[.int .i64 (ordA p.1 p.2.1).1, .int .i64 (ordA p.1 p.2.1).2, .int .i64 (ordB p.1 p.2.1).1, .int .i64 (ordB p.1 p.2.1).2], .int .i64 (cT1 l)] w fun e w' => e = .returned (.tuple #[.int .i64 (valN (ordA p.1 p.2.1) (ordB p.1 p.2.1) (cT1 l)), .int .i64 ((ordB p.1 p.2.1).1 - (ordA p.1 p.2.1).1)]) ∧ Below w.heap.size w w')
    ∧ (∀ w, Calls Try.prog 35 #[.agg #[.int .i64 (ordA p.1 p.2.1).1, .int .i64 (ordA p.1 p.2.1).2, .int .i64 (ordB p.1 p.2.1).1, .int .i64 (ordB p.1 p.2.1).2], .int .i64 (cT2 l)] w fun e w' => e = .returned (.tuple #[.int .i64 (valN (ordA p.1 p.2.1) (ordB p.1 p.2.1) (cT2 l)), .int .i64 ((ordB p.1 p.2.1).1 - (ordA p.1 p.2.1).1)]) ∧ Below w.heap.size w w')
    ∧ ((0 ≤ (ordA p.1 p.2.1).2 * (ordB p.1 p.2.1).1 - (ordB p.1 p.2.1).2 * (ordA p.1 p.2.1).1 ∧ (ordA p.1 p.2.1).2 - (ordB p.1 p.2.1).2 ≤ 1048576 ∧ (ordA p.1 p.2.1).2 * (ordB p.1 p.2.1).1 - (ordB p.1 p.2.1).2 * (ordA p.1 p.2.1).1 ≤ 2147483648) → CrsT (cT1 l) (cT2 l) (cYlo l) (cYhi l) (cZlo l) (cZhi l) (ordA p.2.2.1 p.2.2.2.1) (ordB p.2.2.1 p.2.2.2.1) (ordA p.2.2.2.2.1 p.2.2.2.2.2) (ordB p.2.2.2.2.1 p.2.2.2.2.2) ((ordA p.1 p.2.1).2 * (ordB p.1 p.2.1).1 - (ordB p.1 p.2.1).2 * (ordA p.1 p.2.1).1) ((ordA p.1 p.2.1).2 - (ordB p.1 p.2.1).2)) := by
  have C := crossedT h0 hf
  obtain ⟨f0, f1, f2⟩ := fitT_parts hf
  obtain ⟨_, _, dx, ox, _⟩ := pfB_all f0
  obtain ⟨_, _, dy, oy, _⟩ := pfB_all f1
  obtain ⟨_, _, dz, oz, _⟩ := pfB_all f2
  obtain ⟨⟨⟨a1, a2⟩, a3, a4⟩, ⟨c1, c2⟩, c3, c4⟩ := ord_bd ox
  obtain ⟨⟨⟨i1, i2⟩, i3, i4⟩, ⟨j1, j2⟩, j3, j4⟩ := ord_bd oy
  obtain ⟨⟨⟨m1, m2⟩, m3, m4⟩, ⟨n1, n2⟩, n3, n4⟩ := ord_bd oz
  obtain ⟨d, tl, tt, th, _, _, ylo, yhi, zlo, zhi⟩ := C
  have l2 : ∀ ax, 2 ≤ (bnds ax (bhdL l)).length := fun ax => by rw [bnds_len]; exact (behE_len (crsE_parts h0).1).2
  have hY : (-300000000000000 ≤ cYlo l ∧ cYlo l ≤ 300000000000000) ∧ -300000000000000 ≤ cYhi l ∧ cYhi l ≤ 300000000000000 := ⟨loR_bd (bnds_ok (ax := 1) (l := l)) (bnds_rise 1 l) (show -10 ≤ cT1 l by omega) (show cT1 l ≤ 5000 by omega) (show -10 ≤ cT2 l by omega) (show cT2 l ≤ 5000 by omega), hiR_bd (bnds_ok (ax := 1) (l := l)) (bnds_rise 1 l) (show -10 ≤ cT1 l by omega) (show cT1 l ≤ 5000 by omega) (show -10 ≤ cT2 l by omega) (show cT2 l ≤ 5000 by omega)⟩
  have hZ : (-400000000000000 ≤ cZlo l ∧ cZlo l ≤ 400000000000000) ∧ -400000000000000 ≤ cZhi l ∧ cZhi l ≤ 400000000000000 := by
    obtain ⟨z1, z2⟩ := loR_bd (bnds_ok (ax := 2) (l := l)) (bnds_rise 2 l) (show -10 ≤ cT1 l by omega) (show cT1 l ≤ 5000 by omega) (show -10 ≤ cT2 l by omega) (show cT2 l ≤ 5000 by omega)
    obtain ⟨z3, z4⟩ := hiR_bd (bnds_ok (ax := 2) (l := l)) (bnds_rise 2 l) (show -10 ≤ cT1 l by omega) (show cT1 l ≤ 5000 by omega) (show -10 ≤ cT2 l by omega) (show cT2 l ≤ 5000 by omega)
    exact fall_bd z1 z2 z3 z4 (by omega) (by omega) (by omega) (by omega)
  change cYlo l * _ ≤ _ at ylo
  change _ ≤ cYhi l * _ at yhi
  change cZlo l * _ * _ ≤ _ at zlo
  change _ ≤ cZhi l * _ * _ at zhi
  generalize cYlo l = Y0 at *
  generalize cYhi l = Y1 at *
  generalize cZlo l = Z0 at *
  generalize cZhi l = Z1 at *
  generalize ordA p.1 p.2.1 = XA at *
  generalize ordB p.1 p.2.1 = XB at *
  generalize ordA p.2.2.1 p.2.2.2.1 = YA at *
  generalize ordB p.2.2.1 p.2.2.2.1 = YB at *
  generalize ordA p.2.2.2.2.1 p.2.2.2.2.2 = ZA at *
  generalize ordB p.2.2.2.2.1 p.2.2.2.2.2 = ZB at *
  refine ⟨fun w => value_lt XA XB (cT1 l) w ⟨⟨a1, a2⟩, ⟨a3, a4⟩, ⟨c1, c2⟩, c3, c4⟩ (by omega) (by omega) (by omega), fun w => value_lt XA XB (cT2 l) w ⟨⟨a1, a2⟩, ⟨a3, a4⟩, ⟨c1, c2⟩, c3, c4⟩ (by omega) (by omega) (by omega), ?_⟩
  rintro ⟨r1, r2, r3⟩
  generalize XA.2 * XB.1 - XB.2 * XA.1 = n at *
  generalize XA.2 - XB.2 = D at *
  obtain ⟨p1, p2⟩ := mul_bd (A := 8000) (B := 1048576) (a := YB.1) (b := D) (by omega) (by omega) (by omega) (by omega)
  obtain ⟨p3, p4⟩ := mul_bd (A := 8000) (B := 1048576) (a := YA.1) (b := D) (by omega) (by omega) (by omega) (by omega)
  obtain ⟨p5, p6⟩ := mul_bd (A := 8000) (B := 1048576) (a := YB.1 - YA.1) (b := D) (by omega) (by omega) (by omega) (by omega)
  have bu := mul_bd (A := 1099511627776) (B := 10536091648) (a := YA.2) (b := YB.1 * D - n) (by omega) (by omega) (by omega) (by omega)
  have bv := mul_bd (A := 1099511627776) (B := 10536091648) (a := YB.2) (b := n - YA.1 * D) (by omega) (by omega) (by omega) (by omega)
  have bl := mul_bd (A := 300000000000000) (B := 8388608000) (a := Y0) (b := (YB.1 - YA.1) * D) (by omega) (by omega) (by omega) (by omega)
  have bh := mul_bd (A := 300000000000000) (B := 8388608000) (a := -Y1) (b := (YB.1 - YA.1) * D) (by omega) (by omega) (by omega) (by omega)
  have hq : valQ YA YB n D = YA.2 * (YB.1 * D - n) + YB.2 * (n - YA.1 * D) := rfl
  have e1 : -Y1 * ((YB.1 - YA.1) * D) ≤ -(valQ YA YB n D) := by rw [Int.neg_mul]; omega
  have g1 : -23169117000000000000000 ≤ valQ YA YB n D ∧ valQ YA YB n D ≤ 23169117000000000000000 := by rw [hq]; omega
  refine ⟨YA.2 * (YB.1 * D - n) / 18446744073709551616, YA.2 * (YB.1 * D - n) % 18446744073709551616, YB.2 * (n - YA.1 * D) / 18446744073709551616, YB.2 * (n - YA.1 * D) % 18446744073709551616, valQ YA YB n D / 18446744073709551616, valQ YA YB n D % 18446744073709551616, -(valQ YA YB n D) / 18446744073709551616, -(valQ YA YB n D) % 18446744073709551616, by omega, by omega, by omega, by omega, by omega, fun w => mul_any _ _ (by omega) (by omega) (by omega) (by omega) w, fun w => mul_any _ _ (by omega) (by omega) (by omega) (by omega) w, fun w => ?_, fun w => wneg_ok _ (by omega) (by omega) w, fun w => ?_, fun w => ?_, fun w => ?_⟩
  · rw [hq]
    exact wadd_ok _ _ (by omega) (by omega) (by omega) (by omega) (by omega) (by omega) w
  · have := least_any Y0 ((YB.1 - YA.1) * D) 1 (valQ YA YB n D) (by omega) (by omega) (by omega) (by omega) (by omega) (by omega) (by omega) (by omega) (by omega) (by omega) w
    rwa [least_yes ylo] at this
  · have := least_any (-Y1) ((YB.1 - YA.1) * D) 1 (-(valQ YA YB n D)) (by omega) (by omega) (by omega) (by omega) (by omega) (by omega) (by omega) (by omega) (by omega) (by omega) w
    rwa [least_yes e1] at this
  · have := raised_any (cT1 l) (cT2 l) Y0 Y1 Z0 Z1 ZA.1 ZA.2 ZB.1 ZB.2 n D ⟨m1, m2⟩ ⟨m3, m4⟩ ⟨n1, n2⟩ ⟨n3, n4⟩ ⟨r1, by omega⟩ ⟨d, by omega⟩ hZ.1 hZ.2 w
    have ez : valQ ZA ZB n D * D - 981 * (ZB.1 - ZA.1) * (n * n) = (ZA.2 * (ZB.1 * D - n) + ZB.2 * (n - ZA.1 * D)) * D - n * n * (981 * (ZB.1 - ZA.1)) := by unfold valQ; grind
    rw [ez] at zlo zhi
    have e2 : -Z1 * (80000 * (ZB.1 - ZA.1)) * (D * D) ≤ -((ZA.2 * (ZB.1 * D - n) + ZB.2 * (n - ZA.1 * D)) * D - n * n * (981 * (ZB.1 - ZA.1))) := by
      rw [Int.neg_mul, Int.neg_mul]; omega
    rwa [decide_eq_true zlo, decide_eq_true e2] at this
end Go.Proofs.Ytmdledlbkdcmnaa
