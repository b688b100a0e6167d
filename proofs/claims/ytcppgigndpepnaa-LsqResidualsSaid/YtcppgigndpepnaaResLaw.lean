/-
  The walk of the statement on residuals.
  Conditions: none.
-/
import Derived.Test.YtcppgigndpepnaaRAcc
import Derived.Test.YtcppgigndpepnaaRRes
import Derived.Test.YtcppgigndpepnaaAccLaws
import Derived.Deep.RegionHeld3
namespace Go.Proofs.Ytcppgigndpepnaa
open Go.RowKit
/-- What a region may leave: told on its own, and at the normal exit alone. -/
def AbsQ (R : Act → World → Prop) : Exit → Act → World → Prop
  | .normal, a, W => R a W
  | _, _, _ => False
theorem wp_abs {P : Program} {c : Code} {Q : Exit → Act → World → Prop} {a : Act} {w : World} (R : Act → Act → World → Prop) (h : c.wp P (AbsQ (R a)) a w) (k : ∀ a' W, R a a' W → Q .normal a' W) : c.wp P Q a w :=
  Code.wp_mono (fun e a' W hr => by cases e <;> first | exact k a' W hr | exact hr.elim) h
theorem wp_absK {P : Program} {c : Code} {Q : Exit → Act → World → Prop} {a : Act} {w : World} (R : Act → Act → World → Prop) (h : ∀ K : Act → World → Prop, (∀ a' W, R a a' W → K a' W) → c.wp P (AbsQ K) a w) (k : ∀ a' W, R a a' W → Q .normal a' W) : c.wp P Q a w := wp_abs R (h (R a) fun _ _ h => h) k
set_option maxRecDepth 100000 in
set_option maxHeartbeats 4000000 in
theorem residual_any (A B D : Int) (v : Value) (ps : List PT) (w : World) (h : Pts w v ps) : Calls Try.prog 45 #[v, .agg #[.int .i64 A, .int .i64 B, .int .i64 D]] w fun e w' => e = .returned (.tuple #[.agg #[.int .i64 (resX A B D ps / 18446744073709551616), .int .u64 (resX A B D ps % 18446744073709551616)], .int .i64 (resE A B D ps)]) ∧ Below w.heap.size w w' := by
  by_cases he : ptsE ps = 0
  · by_cases hk : okL A B D = true
    · exact residual_good A B D v ps w h he hk
    · have hk' : okL A B D = false := by simpa using hk
      have e1 : resE A B D ps = 1 := by unfold resE; rw [if_neg (fun g => g he), if_pos hk']
      have e2 : resX A B D ps = 0 := by unfold resX; rw [e1]; rfl
      rw [e1, e2, show (0 : Int) / 18446744073709551616 = 0 by decide, show (0 : Int) % 18446744073709551616 = 0 by decide]
      have he' : (ptsE ps != 0) = false := by simp [he]
      clear he hk e1 e2
      go_enter Try.func45, Try.ntmps45
      go_wp2_with (first | (go_at_call 58; refine (points_any _ _ _ (h.below (by repeat (first | with_reducible exact Below.refl _ _ | with_reducible assumption | with_reducible refine Below.drew ?_ | with_reducible refine Below.setCell ?_ (by first | omega | (simp; omega) | simp) _ | with_reducible refine Below.alloc ?_ (by first | omega | (simp; omega) | simp) _ | with_reducible refine Below.trans ?_ (Below.mono (by with_reducible assumption) (by first | omega | (simp; omega) | simp)))))).mono ?_; rintro e wA ⟨rfl, hbA⟩; have hK := Below.next2 (Below.refl w.heap.size w) (Nat.le_refl _) hbA; have hF := heap_old hbA (heap_alloc (X := (.cells #[.int .i64 0, .int .u64 0] 65)) (heap_new w (.cells #[.int .i64 A, .int .i64 B, .int .i64 D] 35) rfl)); have hR := heap_old hbA (heap_new (w.alloc (.cells #[.int .i64 A, .int .i64 B, .int .i64 D] 35)) (.cells #[.int .i64 0, .int .u64 0] 65) (b := w.heap.size + 1) (by simp)); have q0 := cell_heap (o := 0) hF rfl; have q1 := cell_heap (o := 1) hF rfl; have q2 := cell_heap (o := 2) hF rfl; have r0 := cell_heap (o := 0) hR rfl; have r1 := cell_heap (o := 1) hR rfl; have f0 := frozen_heap (o := 0) hR; have f1 := frozen_heap (o := 1) hR) | (go_at_call 60; refine (line_any' _ _ _ _).mono ?_; rintro e wB ⟨rfl, hbB⟩; replace hK := Below.next hK (Nat.le_refl _) hbB; replace hR := heap_old hbB hR; clear r0 r1 f0 f1 hbB; have r0 := cell_heap (o := 0) hR rfl; have r1 := cell_heap (o := 1) hR rfl; have f0 := frozen_heap (o := 0) hR; have f1 := frozen_heap (o := 1) hR))
      refine bodyPost_ret (v := .tuple #[.agg #[.int .i64 0, .int .u64 0], .int .i64 1]) (by simp only [results, Try.results45]; go_simp) rfl ⟨rfl, (by repeat (first | with_reducible exact Below.refl _ _ | with_reducible assumption | with_reducible refine Below.drew ?_ | with_reducible refine Below.setCell ?_ (by first | omega | (simp; omega) | simp) _ | with_reducible refine Below.alloc ?_ (by first | omega | (simp; omega) | simp) _ | with_reducible refine Below.trans ?_ (Below.mono (by with_reducible assumption) (by first | omega | (simp; omega) | simp))))⟩
  · have e1 : resE A B D ps = ptsE ps := by unfold resE; rw [if_pos he]
    have e2 : resX A B D ps = 0 := by unfold resX; rw [e1, if_neg he]
    rw [e1, e2, show (0 : Int) / 18446744073709551616 = 0 by decide, show (0 : Int) % 18446744073709551616 = 0 by decide]
    have he' : (ptsE ps != 0) = true := by simpa using he
    clear he e1 e2
    go_enter Try.func45, Try.ntmps45
    go_wp2_with (go_at_call 58; refine (points_any _ _ _ (h.below (by repeat (first | with_reducible exact Below.refl _ _ | with_reducible assumption | with_reducible refine Below.drew ?_ | with_reducible refine Below.setCell ?_ (by first | omega | (simp; omega) | simp) _ | with_reducible refine Below.alloc ?_ (by first | omega | (simp; omega) | simp) _ | with_reducible refine Below.trans ?_ (Below.mono (by with_reducible assumption) (by first | omega | (simp; omega) | simp)))))).mono ?_; rintro e wA ⟨rfl, hbA⟩; have hK := Below.next2 (Below.refl w.heap.size w) (Nat.le_refl _) hbA; have hF := heap_old hbA (heap_alloc (X := (.cells #[.int .i64 0, .int .u64 0] 65)) (heap_new w (.cells #[.int .i64 A, .int .i64 B, .int .i64 D] 35) rfl)); have hR := heap_old hbA (heap_new (w.alloc (.cells #[.int .i64 A, .int .i64 B, .int .i64 D] 35)) (.cells #[.int .i64 0, .int .u64 0] 65) (b := w.heap.size + 1) (by simp)); have q0 := cell_heap (o := 0) hF rfl; have q1 := cell_heap (o := 1) hF rfl; have q2 := cell_heap (o := 2) hF rfl; have r0 := cell_heap (o := 0) hR rfl; have r1 := cell_heap (o := 1) hR rfl; have f0 := frozen_heap (o := 0) hR; have f1 := frozen_heap (o := 1) hR)
    refine bodyPost_ret (v := .tuple #[.agg #[.int .i64 0, .int .u64 0], .int .i64 (ptsE ps)]) (by simp only [results, Try.results45]; go_simp) rfl ⟨rfl, (by repeat (first | with_reducible exact Below.refl _ _ | with_reducible assumption | with_reducible refine Below.drew ?_ | with_reducible refine Below.setCell ?_ (by first | omega | (simp; omega) | simp) _ | with_reducible refine Below.alloc ?_ (by first | omega | (simp; omega) | simp) _ | with_reducible refine Below.trans ?_ (Below.mono (by with_reducible assumption) (by first | omega | (simp; omega) | simp))))⟩
set_option maxRecDepth 100000 in
set_option maxHeartbeats 4000000 in
theorem rresidual_any (A B D : Int) (v : Value) (ps : List PT) (w : World) (h : Pts w v ps) : Calls Try.prog 46 #[v, .agg #[.int .i64 A, .int .i64 B, .int .i64 D]] w fun e w' => e = .returned (.tuple #[.agg #[.int .i64 (resX A B D ps / 18446744073709551616), .int .u64 (resX A B D ps % 18446744073709551616)], .int .i64 (resE A B D ps)]) ∧ Below w.heap.size w w' := by
  by_cases he : ptsE ps = 0
  · by_cases hk : okL A B D = true
    · exact rresidual_good A B D v ps w h he hk
    · have hk' : okL A B D = false := by simpa using hk
      have e1 : resE A B D ps = 1 := by unfold resE; rw [if_neg (fun g => g he), if_pos hk']
      have e2 : resX A B D ps = 0 := by unfold resX; rw [e1]; rfl
      rw [e1, e2, show (0 : Int) / 18446744073709551616 = 0 by decide, show (0 : Int) % 18446744073709551616 = 0 by decide]
      have he' : (ptsE ps != 0) = false := by simp [he]
      clear he hk e1 e2
      go_enter Try.func46, Try.ntmps46
      go_wp2_with (first | (go_at_call 59; refine (rpoints_any _ _ _ (h.below (by repeat (first | with_reducible exact Below.refl _ _ | with_reducible assumption | with_reducible refine Below.drew ?_ | with_reducible refine Below.setCell ?_ (by first | omega | (simp; omega) | simp) _ | with_reducible refine Below.alloc ?_ (by first | omega | (simp; omega) | simp) _ | with_reducible refine Below.trans ?_ (Below.mono (by with_reducible assumption) (by first | omega | (simp; omega) | simp)))))).mono ?_; rintro e wA ⟨rfl, hbA⟩; have hK := Below.next2 (Below.refl w.heap.size w) (Nat.le_refl _) hbA; have hF := heap_old hbA (heap_alloc (X := (.cells #[.int .i64 0, .int .u64 0] 65)) (heap_new w (.cells #[.int .i64 A, .int .i64 B, .int .i64 D] 35) rfl)); have hR := heap_old hbA (heap_new (w.alloc (.cells #[.int .i64 A, .int .i64 B, .int .i64 D] 35)) (.cells #[.int .i64 0, .int .u64 0] 65) (b := w.heap.size + 1) (by simp)); have q0 := cell_heap (o := 0) hF rfl; have q1 := cell_heap (o := 1) hF rfl; have q2 := cell_heap (o := 2) hF rfl; have r0 := cell_heap (o := 0) hR rfl; have r1 := cell_heap (o := 1) hR rfl; have f0 := frozen_heap (o := 0) hR; have f1 := frozen_heap (o := 1) hR) | (go_at_call 62; refine (raccepted_any _ _ _ _).mono ?_; rintro e wB ⟨rfl, hbB⟩; replace hK := Below.next hK (Nat.le_refl _) hbB; replace hR := heap_old hbB hR; clear r0 r1 f0 f1 hbB; have r0 := cell_heap (o := 0) hR rfl; have r1 := cell_heap (o := 1) hR rfl; have f0 := frozen_heap (o := 0) hR; have f1 := frozen_heap (o := 1) hR))
      refine bodyPost_ret (v := .tuple #[.agg #[.int .i64 0, .int .u64 0], .int .i64 1]) (by simp only [results, Try.results46]; go_simp) rfl ⟨rfl, (by repeat (first | with_reducible exact Below.refl _ _ | with_reducible assumption | with_reducible refine Below.drew ?_ | with_reducible refine Below.setCell ?_ (by first | omega | (simp; omega) | simp) _ | with_reducible refine Below.alloc ?_ (by first | omega | (simp; omega) | simp) _ | with_reducible refine Below.trans ?_ (Below.mono (by with_reducible assumption) (by first | omega | (simp; omega) | simp))))⟩
  · have e1 : resE A B D ps = ptsE ps := by unfold resE; rw [if_pos he]
    have e2 : resX A B D ps = 0 := by unfold resX; rw [e1, if_neg he]
    rw [e1, e2, show (0 : Int) / 18446744073709551616 = 0 by decide, show (0 : Int) % 18446744073709551616 = 0 by decide]
    have he' : (ptsE ps != 0) = true := by simpa using he
    clear he e1 e2
    go_enter Try.func46, Try.ntmps46
    go_wp2_with (go_at_call 59; refine (rpoints_any _ _ _ (h.below (by repeat (first | with_reducible exact Below.refl _ _ | with_reducible assumption | with_reducible refine Below.drew ?_ | with_reducible refine Below.setCell ?_ (by first | omega | (simp; omega) | simp) _ | with_reducible refine Below.alloc ?_ (by first | omega | (simp; omega) | simp) _ | with_reducible refine Below.trans ?_ (Below.mono (by with_reducible assumption) (by first | omega | (simp; omega) | simp)))))).mono ?_; rintro e wA ⟨rfl, hbA⟩; have hK := Below.next2 (Below.refl w.heap.size w) (Nat.le_refl _) hbA; have hF := heap_old hbA (heap_alloc (X := (.cells #[.int .i64 0, .int .u64 0] 65)) (heap_new w (.cells #[.int .i64 A, .int .i64 B, .int .i64 D] 35) rfl)); have hR := heap_old hbA (heap_new (w.alloc (.cells #[.int .i64 A, .int .i64 B, .int .i64 D] 35)) (.cells #[.int .i64 0, .int .u64 0] 65) (b := w.heap.size + 1) (by simp)); have q0 := cell_heap (o := 0) hF rfl; have q1 := cell_heap (o := 1) hF rfl; have q2 := cell_heap (o := 2) hF rfl; have r0 := cell_heap (o := 0) hR rfl; have r1 := cell_heap (o := 1) hR rfl; have f0 := frozen_heap (o := 0) hR; have f1 := frozen_heap (o := 1) hR)
    refine bodyPost_ret (v := .tuple #[.agg #[.int .i64 0, .int .u64 0], .int .i64 (ptsE ps)]) (by simp only [results, Try.results46]; go_simp) rfl ⟨rfl, (by repeat (first | with_reducible exact Below.refl _ _ | with_reducible assumption | with_reducible refine Below.drew ?_ | with_reducible refine Below.setCell ?_ (by first | omega | (simp; omega) | simp) _ | with_reducible refine Below.alloc ?_ (by first | omega | (simp; omega) | simp) _ | with_reducible refine Below.trans ?_ (Below.mono (by with_reducible assumption) (by first | omega | (simp; omega) | simp))))⟩
set_option maxRecDepth 100000 in
set_option maxHeartbeats 8000000 in
theorem lsqResiduals_walk (v : Value) (ps : List PT) (A B D : Int) (w : World) (h : Pts w v ps) : Calls Try.prog 15 #[v, .agg #[.int .i64 A, .int .i64 B, .int .i64 D]] w fun e w' => e = .returned (.bool true) ∧ Below w.heap.size w w' := by
  rcases Nat.lt_or_ge 200 ps.length with hlt | hge
  · obtain ⟨pa, b, o, cap, rfl, g1, g2, g3, g4⟩ := h
    have hcap : cap ≤ 9223372036854775807 := by unfold maxLen at g3; omega
    clear g1 g4
    go_enter Try.func15, Try.ntmps15
    go_wp2_with (go_at_call 17; refine (awake30_any _).mono ?_; rintro e w' ⟨rfl, hb⟩; (try clear hc hf); (try clear hcM hfM); (try clear hcN hfN); (first | ((first | replace hB := Below.next hB (Nat.le_refl _) hb | replace hB := Below.next1 hB (Nat.le_refl _) hb | replace hB := Below.next2 hB (Nat.le_refl _) hb); (first | replace hM := Below.next hM (Nat.le_refl _) hb | replace hM := Below.next1 hM (Nat.le_refl _) hb | replace hM := Below.next2 hM (Nat.le_refl _) hb); (first | replace hN := Below.next hN (Nat.le_refl _) hb | replace hN := Below.next1 hN (Nat.le_refl _) hb | replace hN := Below.next2 hN (Nat.le_refl _) hb)) | ((first | replace hB := Below.next hB (Nat.le_refl _) hb | replace hB := Below.next1 hB (Nat.le_refl _) hb | replace hB := Below.next2 hB (Nat.le_refl _) hb); (first | replace hM := Below.next hM (Nat.le_refl _) hb | replace hM := Below.next1 hM (Nat.le_refl _) hb | replace hM := Below.next2 hM (Nat.le_refl _) hb); have hN := Below.mid hb) | ((first | replace hB := Below.next hB (Nat.le_refl _) hb | replace hB := Below.next1 hB (Nat.le_refl _) hb | replace hB := Below.next2 hB (Nat.le_refl _) hb); (first | replace hM := Below.next hM (Nat.le_refl _) hb | replace hM := Below.next1 hM (Nat.le_refl _) hb | replace hM := Below.next2 hM (Nat.le_refl _) hb)) | ((first | replace hB := Below.next hB (Nat.le_refl _) hb | replace hB := Below.next1 hB (Nat.le_refl _) hb | replace hB := Below.next2 hB (Nat.le_refl _) hb); have hM := Below.mid hb) | (first | replace hB := Below.next hB (Nat.le_refl _) hb | replace hB := Below.next1 hB (Nat.le_refl _) hb | replace hB := Below.next2 hB (Nat.le_refl _) hb) | have hB := hb); obtain ⟨hc, hf, hz⟩ := after hB; (try (have hq := after hM; obtain ⟨hcM, hfM, hzM⟩ := hq)); (try (have hq := after hN; obtain ⟨hcN, hfN, hzN⟩ := hq)); have hs := hb.size; (try simp at hz); (try simp at hs))
    go_ret
    exact ⟨rfl, (by repeat (first | with_reducible exact Below.refl _ _ | with_reducible assumption | with_reducible refine Below.drew ?_ | with_reducible refine Below.setCell ?_ (by first | omega | (simp; omega) | simp) _ | with_reducible refine Below.alloc ?_ (by first | omega | (simp; omega) | simp) _ | with_reducible refine Below.trans ?_ (Below.mono (by with_reducible assumption) (by first | omega | (simp; omega) | simp))))⟩
  · have hof := Lib.hid (fun w' (h : Pts w' v ps) => of_any v ps w' h hge)
    have HR := Lib.hid (fun v' w' (h : Pts w' v' ps) => residual_any A B D v' ps w' h)
    have HS := Lib.hid (fun w' (h : Pts w' v ps) => rresidual_any A B D v ps w' h)
    have HA := Lib.hid (fun v' w' (h : Pts w' v' ps) => accept_any A B D v' ps w' h)
    have HB := Lib.hid (fun w' (h : Pts w' v ps) => raccept_any A B D v ps w' h)
    generalize resX A B D ps / 18446744073709551616 = X0 at *
    generalize resX A B D ps % 18446744073709551616 = X1 at *
    generalize resE A B D ps = E at *
    generalize accB A B D ps = acc at *
    have hP := Lib.hid h
    obtain ⟨pa, b, o, cap, hv, g1, g2, g3, g4⟩ := h
    have hcap : cap ≤ 9223372036854775807 := by unfold maxLen at g3; omega
    subst hv
    clear g1 g4 g3
    go_enter Try.func15, Try.ntmps15
    go_wp2_with (go_at_call 17; refine (awake30_any _).mono ?_; rintro e w1 ⟨rfl, hb1⟩; have hK := Below.next1 (Below.refl w.heap.size w) (Nat.le_refl _) hb1; have hG := heap_old hb1 (heap_new w (.cells #[.int .i64 A, .int .i64 B, .int .i64 D] 35) rfl); have hltG := (Array.getElem?_eq_some_iff.1 hG).1; have g0 := cell_heap (o := 0) hG rfl; have g1 := cell_heap (o := 1) hG rfl; have g2' := cell_heap (o := 2) hG rfl; clear hb1)
    have hsz := hK.size
    refine wp_abs (fun a0 a' W => ∃ u n, a' = (((((((((a0).put (some 15) (.slice pa ps.length cap)).put (some 16) u).put (some 17) (.agg #[.int .i64 A, .int .i64 B, .int .i64 D])).put (some 18) (.tuple #[.agg #[.int .i64 X0, .int .u64 X1], .int .i64 E])).put (some 14) (.tuple #[.agg #[.int .i64 X0, .int .u64 X1], .int .i64 E])).put (some 19) (.agg #[.int .i64 X0, .int .u64 X1])).put (some 20) (.int .i64 E)).put (some 5) (.pointer (some ⟨n, 0, none⟩))).put (some 6) (.int .i64 E) ∧ Below w.heap.size w W ∧ W.heap[w.heap.size]? = some (.cells #[.int .i64 A, .int .i64 B, .int .i64 D] 35) ∧ W.heap[n]? = some (.cells #[.int .i64 X0, .int .u64 X1] 65)) ?_ ?_
    · first
      | go_region_with (first
          | (go_at_call 25; refine (hof.out _ (hP.out.below (by repeat (first | with_reducible exact Below.refl _ _ | with_reducible assumption | with_reducible refine Below.drew ?_ | refine Below.setCell ?_ (by first | omega | (simp; done) | (simp; omega)) _ | refine Below.alloc ?_ (by first | omega | (simp; done) | (simp; omega)) _)))).mono ?_; rintro e wx ⟨ux, rfl, hp, hbx⟩; have hK : Below w.heap.size w wx := Below.trans (by repeat (first | with_reducible exact Below.refl _ _ | with_reducible assumption | with_reducible refine Below.drew ?_ | refine Below.setCell ?_ (by first | omega | (simp; done) | (simp; omega)) _ | refine Below.alloc ?_ (by first | omega | (simp; done) | (simp; omega)) _)) (hbx.mono (by first | (simp; done) | (simp; omega) | omega)); have hsz := hK.size; have hG := heap_old hbx (b := w.heap.size) (o := (.cells #[.int .i64 A, .int .i64 B, .int .i64 D] 35)) (by first | ((repeat (first | with_reducible assumption | with_reducible refine heap_drew ?_ | with_reducible refine heap_new _ _ (by first | rfl | (simp; done) | fail "no") | with_reducible apply heap_alloc | with_reducible refine heap_set_other ?_ (by omega))); done) | fail "no"); have hltG := (Array.getElem?_eq_some_iff.1 hG).1; have g0 := cell_heap (o := 0) hG rfl; have g1 := cell_heap (o := 1) hG rfl; have g2 := cell_heap (o := 2) hG rfl; (first | (have hN := heap_old hbx (b := w1.heap.size) (o := (.cells #[.int .i64 0, .int .u64 0] 65)) (by first | ((repeat (first | with_reducible assumption | with_reducible refine heap_drew ?_ | with_reducible refine heap_new _ _ (by first | rfl | (simp; done) | fail "no") | with_reducible apply heap_alloc | with_reducible refine heap_set_other ?_ (by omega))); done) | fail "no"); have n0 := cell_heap (o := 0) hN rfl; have n1 := cell_heap (o := 1) hN rfl; have nf := frozen_heap (o := 0) hN; have ng := frozen_heap (o := 1) hN) | skip))
          | (go_at_call 45; refine (HR.out _ _ (hp.below (by repeat (first | with_reducible exact Below.refl _ _ | with_reducible assumption | with_reducible refine Below.drew ?_ | refine Below.setCell ?_ (by first | omega | (simp; done) | (simp; omega)) _ | refine Below.alloc ?_ (by first | omega | (simp; done) | (simp; omega)) _)))).mono ?_; rintro e wy ⟨rfl, hby⟩; have hK : Below w.heap.size w wy := Below.trans (by repeat (first | with_reducible exact Below.refl _ _ | with_reducible assumption | with_reducible refine Below.drew ?_ | refine Below.setCell ?_ (by first | omega | (simp; done) | (simp; omega)) _ | refine Below.alloc ?_ (by first | omega | (simp; done) | (simp; omega)) _)) (hby.mono (by first | (simp; done) | (simp; omega) | omega)); have hsz := hK.size; have hG := heap_old hby (b := w.heap.size) (o := (.cells #[.int .i64 A, .int .i64 B, .int .i64 D] 35)) (by first | ((repeat (first | with_reducible assumption | with_reducible refine heap_drew ?_ | with_reducible refine heap_new _ _ (by first | rfl | (simp; done) | fail "no") | with_reducible apply heap_alloc | with_reducible refine heap_set_other ?_ (by omega))); done) | fail "no"); have hltG := (Array.getElem?_eq_some_iff.1 hG).1; have g0 := cell_heap (o := 0) hG rfl; have g1 := cell_heap (o := 1) hG rfl; have g2 := cell_heap (o := 2) hG rfl; (first | (have hN := heap_old hby (b := w1.heap.size) (o := (.cells #[.int .i64 0, .int .u64 0] 65)) (by first | ((repeat (first | with_reducible assumption | with_reducible refine heap_drew ?_ | with_reducible refine heap_new _ _ (by first | rfl | (simp; done) | fail "no") | with_reducible apply heap_alloc | with_reducible refine heap_set_other ?_ (by omega))); done) | fail "no"); have n0 := cell_heap (o := 0) hN rfl; have n1 := cell_heap (o := 1) hN rfl; have nf := frozen_heap (o := 0) hN; have ng := frozen_heap (o := 1) hN) | skip); (first | (have hN := heap_old hby (b := wx.heap.size) (o := (.cells #[.int .i64 0, .int .u64 0] 65)) (by first | ((repeat (first | with_reducible assumption | with_reducible refine heap_drew ?_ | with_reducible refine heap_new _ _ (by first | rfl | (simp; done) | fail "no") | with_reducible apply heap_alloc | with_reducible refine heap_set_other ?_ (by omega))); done) | fail "no"); have n0 := cell_heap (o := 0) hN rfl; have n1 := cell_heap (o := 1) hN rfl; have nf := frozen_heap (o := 0) hN; have ng := frozen_heap (o := 1) hN) | skip)))
      | fail
      all_goals
        refine ⟨?_, ?_, ?eqq, ?rst⟩
        case eqq => (simp only [Act.put, List.setIfInBounds_toArray, List.set_cons_succ, List.set_cons_zero]; try rfl)
        case rst => exact ⟨(by repeat (first | with_reducible exact Below.refl _ _ | with_reducible assumption | with_reducible refine Below.drew ?_ | refine Below.setCell ?_ (by first | omega | (simp; done) | (simp; omega)) _ | refine Below.alloc ?_ (by first | omega | (simp; done) | (simp; omega)) _)), (by first | ((repeat (first | with_reducible assumption | with_reducible refine heap_drew ?_ | with_reducible refine heap_new _ _ (by first | rfl | (simp; done) | fail "no") | with_reducible apply heap_alloc | with_reducible refine heap_set_other ?_ (by omega))); done) | fail "no"), (by first | exact (by first | ((repeat (first | with_reducible assumption | with_reducible refine heap_drew ?_ | with_reducible refine heap_new _ _ (by first | rfl | (simp; done) | fail "no") | with_reducible apply heap_alloc | with_reducible refine heap_set_other ?_ (by omega))); done) | fail "no") | (have h9 := heap_set (o := 1) (v := .int .u64 X1) (heap_set (o := 0) (v := .int .i64 X0) hN); simp only [List.setIfInBounds_toArray, List.set_cons_succ, List.set_cons_zero] at h9; exact h9))⟩
    · rintro a' W8 ⟨u8, n8, rfl, hK8, hG8, hX8⟩
      simp only [Act.put, List.setIfInBounds_toArray, List.set_cons_succ, List.set_cons_zero]
      clear hK hG hltG g0 g1 g2' hsz
      have g0 := cell_heap (o := 0) hG8 rfl
      have g1 := cell_heap (o := 1) hG8 rfl
      have g2' := cell_heap (o := 2) hG8 rfl
      go_wp2_with (go_at_call 46; refine (HS.out _ (hP.out.below hK8)).mono ?_; rintro e w9 ⟨rfl, hb9⟩; have hK9 := Below.next hK8 (Nat.le_refl _) hb9; have hG9 := heap_old hb9 hG8; have hX9 := heap_old hb9 hX8)
      have hKA := hK9.alloc hK9.size (.cells #[.int .i64 X0, .int .u64 X1] 65)
      have hGA := heap_alloc (X := (.cells #[.int .i64 X0, .int .u64 X1] 65)) hG9
      have hXA := heap_alloc (X := (.cells #[.int .i64 X0, .int .u64 X1] 65)) hX9
      have hYA := heap_new w9 (.cells #[.int .i64 X0, .int .u64 X1] 65) rfl
      clear g0 g1 g2' hb9 hG8 hX8 hK8 hG9 hX9
      generalize hWA : w9.alloc (.cells #[.int .i64 X0, .int .u64 X1] 65) = WA at hKA hGA hXA hYA ⊢
      generalize w9.heap.size = n9 at *
      clear hWA
      have hltG := (Array.getElem?_eq_some_iff.1 hGA).1
      have hltX := (Array.getElem?_eq_some_iff.1 hXA).1
      have hltY := (Array.getElem?_eq_some_iff.1 hYA).1
      have g0 := cell_heap (o := 0) hGA rfl
      have g1 := cell_heap (o := 1) hGA rfl
      have g2' := cell_heap (o := 2) hGA rfl
      have x0 := cell_heap (o := 0) hXA rfl
      have x1 := cell_heap (o := 1) hXA rfl
      have y0 := cell_heap (o := 0) hYA rfl
      have y1 := cell_heap (o := 1) hYA rfl
      have hsz := hKA.size
      clear hltX hltY hcap g2
      refine wp_absK (fun a0 a' W => ∃ t27 t28 t29 t30 t31 t32 t33 t34 t35 t36 t37 t38 t39 t40 t41 t42 t43 t44, a' = (((((((((((((((((((a0).put (some 27) t27).put (some 28) t28).put (some 29) t29).put (some 30) t30).put (some 31) t31).put (some 32) t32).put (some 33) t33).put (some 34) t34).put (some 35) t35).put (some 36) t36).put (some 37) t37).put (some 38) t38).put (some 39) t39).put (some 40) t40).put (some 41) t41).put (some 42) t42).put (some 43) t43).put (some 44) t44).put (some 4) (.bool true) ∧ Below w.heap.size w W) ?_ ?_
      · intro K hK0
        have hKh := Lib.hid hK0
        clear hK0 HR HS g0 g1 g2' x0 x1 y0 y1 hltG
        have hS0 : (WA.cell? ⟨w.heap.size, 0, none⟩ = some (.int .i64 A) ∧ WA.cell? ⟨w.heap.size, 1, none⟩ = some (.int .i64 B) ∧ WA.cell? ⟨w.heap.size, 2, none⟩ = some (.int .i64 D) ∧ WA.cell? ⟨n8, 0, none⟩ = some (.int .i64 X0) ∧ WA.cell? ⟨n8, 1, none⟩ = some (.int .u64 X1) ∧ WA.cell? ⟨n9, 0, none⟩ = some (.int .i64 X0) ∧ WA.cell? ⟨n9, 1, none⟩ = some (.int .u64 X1)) := ⟨cell_heap (o := 0) hGA rfl, cell_heap (o := 1) hGA rfl, cell_heap (o := 2) hGA rfl, cell_heap (o := 0) hXA rfl, cell_heap (o := 1) hXA rfl, cell_heap (o := 0) hYA rfl, cell_heap (o := 1) hYA rfl⟩
        go_region_held3 (fun w' => w'.cell? ⟨w.heap.size, 0, none⟩ = some (.int .i64 A) ∧ w'.cell? ⟨w.heap.size, 1, none⟩ = some (.int .i64 B) ∧ w'.cell? ⟨w.heap.size, 2, none⟩ = some (.int .i64 D) ∧ w'.cell? ⟨n8, 0, none⟩ = some (.int .i64 X0) ∧ w'.cell? ⟨n8, 1, none⟩ = some (.int .u64 X1) ∧ w'.cell? ⟨n9, 0, none⟩ = some (.int .i64 X0) ∧ w'.cell? ⟨n9, 1, none⟩ = some (.int .u64 X1)) (first | exact hS3 | exact hS2 | exact hS1 | exact hS0) (first
          | (go_at_call 25; have hKd := hKA.drew; refine (hof.out _ (hP.out.below hKd)).mono ?_; rintro e wx ⟨ux, rfl, hp, hbx⟩; have hKX := Below.next hKd (Nat.le_refl _) hbx; have hGX := heap_old hbx (heap_drew hGA); have hXX := heap_old hbx (heap_drew hXA); have hYX := heap_old hbx (heap_drew hYA); clear hbx; have hS1 : (wx.cell? ⟨w.heap.size, 0, none⟩ = some (.int .i64 A) ∧ wx.cell? ⟨w.heap.size, 1, none⟩ = some (.int .i64 B) ∧ wx.cell? ⟨w.heap.size, 2, none⟩ = some (.int .i64 D) ∧ wx.cell? ⟨n8, 0, none⟩ = some (.int .i64 X0) ∧ wx.cell? ⟨n8, 1, none⟩ = some (.int .u64 X1) ∧ wx.cell? ⟨n9, 0, none⟩ = some (.int .i64 X0) ∧ wx.cell? ⟨n9, 1, none⟩ = some (.int .u64 X1)) := ⟨cell_heap (o := 0) hGX rfl, cell_heap (o := 1) hGX rfl, cell_heap (o := 2) hGX rfl, cell_heap (o := 0) hXX rfl, cell_heap (o := 1) hXX rfl, cell_heap (o := 0) hYX rfl, cell_heap (o := 1) hYX rfl⟩)
          | (go_at_call 43; refine (HA.out _ _ hp).mono ?_; rintro e wy ⟨rfl, hby⟩; have hKY := Below.next hKX (Nat.le_refl _) hby; have hGY := heap_old hby hGX; have hXY := heap_old hby hXX; have hYY := heap_old hby hYX; clear hby; have hS2 : (wy.cell? ⟨w.heap.size, 0, none⟩ = some (.int .i64 A) ∧ wy.cell? ⟨w.heap.size, 1, none⟩ = some (.int .i64 B) ∧ wy.cell? ⟨w.heap.size, 2, none⟩ = some (.int .i64 D) ∧ wy.cell? ⟨n8, 0, none⟩ = some (.int .i64 X0) ∧ wy.cell? ⟨n8, 1, none⟩ = some (.int .u64 X1) ∧ wy.cell? ⟨n9, 0, none⟩ = some (.int .i64 X0) ∧ wy.cell? ⟨n9, 1, none⟩ = some (.int .u64 X1)) := ⟨cell_heap (o := 0) hGY rfl, cell_heap (o := 1) hGY rfl, cell_heap (o := 2) hGY rfl, cell_heap (o := 0) hXY rfl, cell_heap (o := 1) hXY rfl, cell_heap (o := 0) hYY rfl, cell_heap (o := 1) hYY rfl⟩)
          | (go_at_call 47; refine (HB.out _ (hP.out.below hKY)).mono ?_; rintro e wz ⟨rfl, hbz⟩; have hKZ := Below.next hKY (Nat.le_refl _) hbz; have hGZ := heap_old hbz hGY; have hXZ := heap_old hbz hXY; have hYZ := heap_old hbz hYY; clear hbz; have hS3 : (wz.cell? ⟨w.heap.size, 0, none⟩ = some (.int .i64 A) ∧ wz.cell? ⟨w.heap.size, 1, none⟩ = some (.int .i64 B) ∧ wz.cell? ⟨w.heap.size, 2, none⟩ = some (.int .i64 D) ∧ wz.cell? ⟨n8, 0, none⟩ = some (.int .i64 X0) ∧ wz.cell? ⟨n8, 1, none⟩ = some (.int .u64 X1) ∧ wz.cell? ⟨n9, 0, none⟩ = some (.int .i64 X0) ∧ wz.cell? ⟨n9, 1, none⟩ = some (.int .u64 X1)) := ⟨cell_heap (o := 0) hGZ rfl, cell_heap (o := 1) hGZ rfl, cell_heap (o := 2) hGZ rfl, cell_heap (o := 0) hXZ rfl, cell_heap (o := 1) hXZ rfl, cell_heap (o := 0) hYZ rfl, cell_heap (o := 1) hYZ rfl⟩))
        all_goals
          refine hKh.out _ _ ⟨?_, ?_, ?_, ?_, ?_, ?_, ?_, ?_, ?_, ?_, ?_, ?_, ?_, ?_, ?_, ?_, ?_, ?_, ?eqq, hKZ⟩
          case eqq => (simp only [Act.put, List.setIfInBounds_toArray, List.set_cons_succ, List.set_cons_zero]; try rfl)
      · rintro a' W ⟨t27, t28, t29, t30, t31, t32, t33, t34, t35, t36, t37, t38, t39, t40, t41, t42, t43, t44, rfl, hKZ⟩
        simp only [Act.put, List.setIfInBounds_toArray, List.set_cons_succ, List.set_cons_zero]
        go_wp2_with fail
        go_ret
        exact ⟨rfl, hKZ⟩
end Go.Proofs.Ytcppgigndpepnaa
