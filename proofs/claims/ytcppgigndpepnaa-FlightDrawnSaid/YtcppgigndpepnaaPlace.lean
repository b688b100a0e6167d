/-
  Contracts of At for paths, ours and the reference's.
  Conditions: none.
-/
import Derived.Test.YtcppgigndpepnaaRaise
import Derived.LoopN
import Derived.Deep.RegionWith
namespace Go.Proofs.Ytcppgigndpepnaa
open Go.RowKit
/-- What a call of At gives. -/
def AtGives (f : Nat) (A B D t v e : Int) : Prop := ∀ w, Calls Try.prog f #[.agg #[.int .i64 A, .int .i64 B, .int .i64 D], .int .i64 t] w fun x w' => x = .returned (.tuple #[.int .i64 v, .int .i64 e]) ∧ Below w.heap.size w w'
theorem at_ok {A B D t : Int} (h : atE A B D t = 0) : AtGives 27 A B D t (vAt A B D t) 0 := fun w => by rw [← atV_ok h]; exact at_any A B D t w
theorem at_bad {A B D t : Int} (h : atE A B D t ≠ 0) : AtGives 27 A B D t 0 (atE A B D t) := fun w => by rw [← atV_bad h]; exact at_any A B D t w
theorem rat_ok {A B D t : Int} (h : atE A B D t = 0) : AtGives 28 A B D t (vAt A B D t) 0 := fun w => by rw [← atV_ok h]; exact rat_any A B D t w
theorem rat_bad {A B D t : Int} (h : atE A B D t ≠ 0) : AtGives 28 A B D t 0 (atE A B D t) := fun w => by rw [← atV_bad h]; exact rat_any A B D t w
set_option maxRecDepth 100000 in
set_option maxHeartbeats 2000000 in
theorem rplace_any (a1 b1 d1 a2 b2 d2 a3 b3 d3 : Int) (t : Int) (w : World) : Calls Try.prog 35 #[.agg #[.int .i64 a1, .int .i64 b1, .int .i64 d1, .int .i64 a2, .int .i64 b2, .int .i64 d2, .int .i64 a3, .int .i64 b3, .int .i64 d3], .int .i64 t] w fun e w' => e = .returned (plV a1 b1 d1 a2 b2 d2 a3 b3 d3 t) ∧ Below w.heap.size w w' := by
  by_cases h1 : atE a1 b1 d1 t = 0
  · have A1 := Lib.hid (rat_ok h1)
    by_cases h2 : atE a2 b2 d2 t = 0
    · have A2 := Lib.hid (rat_ok h2)
      by_cases h3 : atE a3 b3 d3 t = 0
      · have A3 := Lib.hid (rat_ok h3)
        rw [plV_ok h1 h2 h3]
        obtain ⟨k3, t1, t2⟩ := atE_zero h3
        obtain ⟨v3, v4⟩ := vAt_bd k3 t1 t2
        obtain ⟨g1, g2⟩ := grav_bd t1 t2
        obtain ⟨n1, n2⟩ := nrst_bd (n := 981 * t * t) (by omega) (by omega)
        have g3 : 0 ≤ 981 * t ∧ 981 * t ≤ 7848000 := by omega
        obtain ⟨g3, g4⟩ := g3
        clear h1 h2 h3 k3
        generalize vAt a1 b1 d1 t = x1 at *
        generalize vAt a2 b2 d2 t = x2 at *
        generalize vAt a3 b3 d3 t = x3 at *
        go_enter Try.func35, Try.ntmps35
        go_wp2_with (first
          | (go_at_call_of 28 (a1); refine (A1.out _).mono ?_; rintro e w1 ⟨rfl, hb1⟩; have hK : Below w.heap.size w w1 := Below.trans (by repeat (first | with_reducible exact Below.refl _ _ | with_reducible assumption | refine Below.setCell ?_ (by first | omega | (simp; omega) | simp) _ | refine Below.alloc ?_ (by first | omega | (simp; omega) | simp) _)) (hb1.mono (by first | (simp; done) | (simp; omega))); have hO := heap_old hb1 (b := w.heap.size) (o := .cells #[.int .i64 a1, .int .i64 b1, .int .i64 d1, .int .i64 a2, .int .i64 b2, .int .i64 d2, .int .i64 a3, .int .i64 b3, .int .i64 d3] 48) (by repeat (first | with_reducible refine heap_new _ _ (by first | omega | (simp; done) | (simp; omega)) | with_reducible apply heap_alloc)); have l3 := cell_heap (o := 3) hO rfl; have l4 := cell_heap (o := 4) hO rfl; have l5 := cell_heap (o := 5) hO rfl)
          | (go_at_call_of 28 (a2); refine (A2.out _).mono ?_; rintro e w2 ⟨rfl, hb2⟩; replace hK := Below.next hK (Nat.le_refl _) hb2; replace hO := heap_old hb2 hO; have l6 := cell_heap (o := 6) hO rfl; have l7 := cell_heap (o := 7) hO rfl; have l8 := cell_heap (o := 8) hO rfl)
          | (go_at_call_of 28 (a3); refine (A3.out _).mono ?_; rintro e w3 ⟨rfl, hb3⟩; replace hK := Below.next hK (Nat.le_refl _) hb3)
          | (go_at_call 68; refine (nearest_any _ (by omega) (by omega) _).mono ?_; rintro e w4 ⟨rfl, hb4⟩; replace hK := Below.next hK (Nat.le_refl _) hb4))
        refine bodyPost_ret (v := .tuple #[.int .i64 x1, .int .i64 x2, .int .i64 (x3 - nrst (981 * t * t)), .int .i64 0]) (by simp only [results, Try.results35]; go_simp) rfl ⟨rfl, (by repeat (first | with_reducible exact Below.refl _ _ | with_reducible assumption | with_reducible refine Below.drew ?_ | with_reducible refine Below.setCell ?_ (by first | omega | (simp; omega) | simp) _ | with_reducible refine Below.alloc ?_ (by first | omega | (simp; omega) | simp) _ | with_reducible refine Below.trans ?_ (Below.mono (by with_reducible assumption) (by first | omega | (simp; omega) | simp))))⟩
      · have A3 := Lib.hid (rat_bad h3)
        rw [plV_3 h1 h2 h3]
        have hE : (atE a3 b3 d3 t != 0) = true := by simpa using h3
        clear h1 h2 h3
        generalize vAt a1 b1 d1 t = x1 at *
        generalize vAt a2 b2 d2 t = x2 at *
        generalize atE a3 b3 d3 t = E at *
        go_enter Try.func35, Try.ntmps35
        go_wp2_with (first
          | (go_at_call_of 28 (a1); refine (A1.out _).mono ?_; rintro e w1 ⟨rfl, hb1⟩; have hK : Below w.heap.size w w1 := Below.trans (by repeat (first | with_reducible exact Below.refl _ _ | with_reducible assumption | refine Below.setCell ?_ (by first | omega | (simp; omega) | simp) _ | refine Below.alloc ?_ (by first | omega | (simp; omega) | simp) _)) (hb1.mono (by first | (simp; done) | (simp; omega))); have hO := heap_old hb1 (b := w.heap.size) (o := .cells #[.int .i64 a1, .int .i64 b1, .int .i64 d1, .int .i64 a2, .int .i64 b2, .int .i64 d2, .int .i64 a3, .int .i64 b3, .int .i64 d3] 48) (by repeat (first | with_reducible refine heap_new _ _ (by first | omega | (simp; done) | (simp; omega)) | with_reducible apply heap_alloc)); have l3 := cell_heap (o := 3) hO rfl; have l4 := cell_heap (o := 4) hO rfl; have l5 := cell_heap (o := 5) hO rfl)
          | (go_at_call_of 28 (a2); refine (A2.out _).mono ?_; rintro e w2 ⟨rfl, hb2⟩; replace hK := Below.next hK (Nat.le_refl _) hb2; replace hO := heap_old hb2 hO; have l6 := cell_heap (o := 6) hO rfl; have l7 := cell_heap (o := 7) hO rfl; have l8 := cell_heap (o := 8) hO rfl)
          | (go_at_call_of 28 (a3); refine (A3.out _).mono ?_; rintro e w3 ⟨rfl, hb3⟩; replace hK := Below.next hK (Nat.le_refl _) hb3))
        refine bodyPost_ret (v := .tuple #[.int .i64 0, .int .i64 0, .int .i64 0, .int .i64 E]) (by simp only [results, Try.results35]; go_simp) rfl ⟨rfl, (by repeat (first | with_reducible exact Below.refl _ _ | with_reducible assumption | with_reducible refine Below.drew ?_ | with_reducible refine Below.setCell ?_ (by first | omega | (simp; omega) | simp) _ | with_reducible refine Below.alloc ?_ (by first | omega | (simp; omega) | simp) _ | with_reducible refine Below.trans ?_ (Below.mono (by with_reducible assumption) (by first | omega | (simp; omega) | simp))))⟩
    · have A2 := Lib.hid (rat_bad h2)
      rw [plV_2 _ _ _ h1 h2]
      have hE : (atE a2 b2 d2 t != 0) = true := by simpa using h2
      clear h1 h2
      generalize vAt a1 b1 d1 t = x1 at *
      generalize atE a2 b2 d2 t = E at *
      go_enter Try.func35, Try.ntmps35
      go_wp2_with (first
        | (go_at_call_of 28 (a1); refine (A1.out _).mono ?_; rintro e w1 ⟨rfl, hb1⟩; have hK : Below w.heap.size w w1 := Below.trans (by repeat (first | with_reducible exact Below.refl _ _ | with_reducible assumption | refine Below.setCell ?_ (by first | omega | (simp; omega) | simp) _ | refine Below.alloc ?_ (by first | omega | (simp; omega) | simp) _)) (hb1.mono (by first | (simp; done) | (simp; omega))); have hO := heap_old hb1 (b := w.heap.size) (o := .cells #[.int .i64 a1, .int .i64 b1, .int .i64 d1, .int .i64 a2, .int .i64 b2, .int .i64 d2, .int .i64 a3, .int .i64 b3, .int .i64 d3] 48) (by repeat (first | with_reducible refine heap_new _ _ (by first | omega | (simp; done) | (simp; omega)) | with_reducible apply heap_alloc)); have l3 := cell_heap (o := 3) hO rfl; have l4 := cell_heap (o := 4) hO rfl; have l5 := cell_heap (o := 5) hO rfl)
        | (go_at_call_of 28 (a2); refine (A2.out _).mono ?_; rintro e w2 ⟨rfl, hb2⟩; replace hK := Below.next hK (Nat.le_refl _) hb2; replace hO := heap_old hb2 hO; have l6 := cell_heap (o := 6) hO rfl; have l7 := cell_heap (o := 7) hO rfl; have l8 := cell_heap (o := 8) hO rfl))
      refine bodyPost_ret (v := .tuple #[.int .i64 0, .int .i64 0, .int .i64 0, .int .i64 E]) (by simp only [results, Try.results35]; go_simp) rfl ⟨rfl, (by repeat (first | with_reducible exact Below.refl _ _ | with_reducible assumption | with_reducible refine Below.drew ?_ | with_reducible refine Below.setCell ?_ (by first | omega | (simp; omega) | simp) _ | with_reducible refine Below.alloc ?_ (by first | omega | (simp; omega) | simp) _ | with_reducible refine Below.trans ?_ (Below.mono (by with_reducible assumption) (by first | omega | (simp; omega) | simp))))⟩
  · have A1 := Lib.hid (rat_bad h1)
    rw [plV_1 _ _ _ _ _ _ h1]
    have hE : (atE a1 b1 d1 t != 0) = true := by simpa using h1
    clear h1
    generalize atE a1 b1 d1 t = E at *
    go_enter Try.func35, Try.ntmps35
    go_wp2_with (first
      | (go_at_call_of 28 (a1); refine (A1.out _).mono ?_; rintro e w1 ⟨rfl, hb1⟩; have hK : Below w.heap.size w w1 := Below.trans (by repeat (first | with_reducible exact Below.refl _ _ | with_reducible assumption | refine Below.setCell ?_ (by first | omega | (simp; omega) | simp) _ | refine Below.alloc ?_ (by first | omega | (simp; omega) | simp) _)) (hb1.mono (by first | (simp; done) | (simp; omega))); have hO := heap_old hb1 (b := w.heap.size) (o := .cells #[.int .i64 a1, .int .i64 b1, .int .i64 d1, .int .i64 a2, .int .i64 b2, .int .i64 d2, .int .i64 a3, .int .i64 b3, .int .i64 d3] 48) (by repeat (first | with_reducible refine heap_new _ _ (by first | omega | (simp; done) | (simp; omega)) | with_reducible apply heap_alloc)); have l3 := cell_heap (o := 3) hO rfl; have l4 := cell_heap (o := 4) hO rfl; have l5 := cell_heap (o := 5) hO rfl))
    refine bodyPost_ret (v := .tuple #[.int .i64 0, .int .i64 0, .int .i64 0, .int .i64 E]) (by simp only [results, Try.results35]; go_simp) rfl ⟨rfl, (by repeat (first | with_reducible exact Below.refl _ _ | with_reducible assumption | with_reducible refine Below.drew ?_ | with_reducible refine Below.setCell ?_ (by first | omega | (simp; omega) | simp) _ | with_reducible refine Below.alloc ?_ (by first | omega | (simp; omega) | simp) _ | with_reducible refine Below.trans ?_ (Below.mono (by with_reducible assumption) (by first | omega | (simp; omega) | simp))))⟩
set_option maxRecDepth 100000 in
set_option maxHeartbeats 2000000 in
theorem place_any (a1 b1 d1 a2 b2 d2 a3 b3 d3 : Int) (t : Int) (w : World) : Calls Try.prog 34 #[.agg #[.int .i64 a1, .int .i64 b1, .int .i64 d1, .int .i64 a2, .int .i64 b2, .int .i64 d2, .int .i64 a3, .int .i64 b3, .int .i64 d3], .int .i64 t] w fun e w' => e = .returned (plV a1 b1 d1 a2 b2 d2 a3 b3 d3 t) ∧ Below w.heap.size w w' := by
  by_cases h1 : atE a1 b1 d1 t = 0
  · have A1 := Lib.hid (at_ok h1)
    by_cases h2 : atE a2 b2 d2 t = 0
    · have A2 := Lib.hid (at_ok h2)
      by_cases h3 : atE a3 b3 d3 t = 0
      · have A3 := Lib.hid (at_ok h3)
        rw [plV_ok h1 h2 h3]
        obtain ⟨k3, t1, t2⟩ := atE_zero h3
        obtain ⟨v3, v4⟩ := vAt_bd k3 t1 t2
        obtain ⟨g1, g2⟩ := grav_bd t1 t2
        obtain ⟨n1, n2⟩ := nrst_bd (n := 981 * t * t) (by omega) (by omega)
        have g3 : 0 ≤ 981 * t ∧ 981 * t ≤ 7848000 := by omega
        obtain ⟨g3, g4⟩ := g3
        clear h1 h2 h3 k3
        generalize vAt a1 b1 d1 t = x1 at *
        generalize vAt a2 b2 d2 t = x2 at *
        generalize vAt a3 b3 d3 t = x3 at *
        go_enter Try.func34, Try.ntmps34
        go_wp2_with fail
        refine wp_loop_rounds 4 ?_
        rw [rounds_succ]
        go_wp2_with (go_at_call_of 27 (a1); refine (A1.out _).mono ?_; rintro e w1 ⟨rfl, hb1⟩; have hs1 := hb1.size; simp at hs1; have hK : Below w.heap.size w w1 := Below.trans (by repeat (first | with_reducible exact Below.refl _ _ | with_reducible assumption | refine Below.setCell ?_ (by first | omega | (simp; omega) | simp) _ | refine Below.alloc ?_ (by first | omega | (simp; omega) | simp) _)) (hb1.mono (by first | (simp; done) | (simp; omega))); have hO := heap_old hb1 (b := w.heap.size + 1) (o := .cells #[.int .i64 0, .int .i64 0, .int .i64 0] 56) (by repeat (first | with_reducible refine heap_new _ _ (by first | omega | (simp; done) | (simp; omega)) | with_reducible apply heap_alloc)); have hL := heap_old hb1 (b := w.heap.size + 1 + 1) (o := .cells #[.int .i64 a1, .int .i64 b1, .int .i64 d1, .int .i64 a2, .int .i64 b2, .int .i64 d2, .int .i64 a3, .int .i64 b3, .int .i64 d3] 35) (by repeat (first | with_reducible refine heap_new _ _ (by first | omega | (simp; done) | (simp; omega)) | with_reducible apply heap_alloc)); have o0 := cell_heap (o := 0) hO rfl; have o1 := cell_heap (o := 1) hO rfl; have o2 := cell_heap (o := 2) hO rfl; have l3 := cell_heap (o := 3) hL rfl; have l4 := cell_heap (o := 4) hL rfl; have l5 := cell_heap (o := 5) hL rfl; have z0 := frozen_heap (o := 0) hO; have z1 := frozen_heap (o := 1) hO; have z2 := frozen_heap (o := 2) hO)
        rw [rounds_succ]
        go_wp2_with (go_at_call_of 27 (a2); refine (A2.out _).mono ?_; rintro e w2 ⟨rfl, hb2⟩; have hs2 := hb2.size; simp at hs2; replace hK : Below w.heap.size w w2 := Below.trans (by repeat (first | with_reducible exact Below.refl _ _ | with_reducible assumption | refine Below.setCell ?_ (by first | omega | (simp; omega) | simp) _ | refine Below.alloc ?_ (by first | omega | (simp; omega) | simp) _)) (hb2.mono (by first | (simp; done) | (simp; omega))); replace hO := heap_old hb2 (heap_alloc (heap_set hO)); replace hL := heap_old hb2 (heap_alloc (heap_set_other hL (by omega))); clear o0 o1 o2 z0 z1 z2; have o0 := cell_heap (o := 0) hO rfl; have o1 := cell_heap (o := 1) hO rfl; have o2 := cell_heap (o := 2) hO rfl; have l6 := cell_heap (o := 6) hL rfl; have l7 := cell_heap (o := 7) hL rfl; have l8 := cell_heap (o := 8) hL rfl; have z0 := frozen_heap (o := 0) hO; have z1 := frozen_heap (o := 1) hO; have z2 := frozen_heap (o := 2) hO)
        rw [rounds_succ]
        go_wp2_with (go_at_call_of 27 (a3); refine (A3.out _).mono ?_; rintro e w3 ⟨rfl, hb3⟩; have hs3 := hb3.size; simp at hs3; replace hK : Below w.heap.size w w3 := Below.trans (by repeat (first | with_reducible exact Below.refl _ _ | with_reducible assumption | refine Below.setCell ?_ (by first | omega | (simp; omega) | simp) _ | refine Below.alloc ?_ (by first | omega | (simp; omega) | simp) _)) (hb3.mono (by first | (simp; done) | (simp; omega))); replace hO := heap_old hb3 (heap_alloc (heap_set hO)); replace hL := heap_old hb3 (heap_alloc (heap_set_other hL (by omega))); clear o0 o1 o2 z0 z1 z2; have o0 := cell_heap (o := 0) hO rfl; have o1 := cell_heap (o := 1) hO rfl; have o2 := cell_heap (o := 2) hO rfl; have l0 := cell_heap (o := 0) hL rfl; have l1 := cell_heap (o := 1) hL rfl; have l2 := cell_heap (o := 2) hL rfl; have z0 := frozen_heap (o := 0) hO; have z1 := frozen_heap (o := 1) hO; have z2 := frozen_heap (o := 2) hO)
        rw [rounds_succ]
        go_wp2_with fail
        have hW := heap_set (o := 2) (v := .int .i64 x3) hO
        have q0 := cell_heap (o := 0) hW rfl
        have q1 := cell_heap (o := 1) hW rfl
        have q2 := cell_heap (o := 2) hW rfl
        have hl := @Later.cell
        have hK3 := hK.setCell (p := ⟨w.heap.size + 1, 2, none⟩) (by simp) (.int .i64 x3)
        refine region_later (by kernel_rfl) (by kernel_rfl) ?_; (repeat (go_big_quiet_step ((go_at_call 65; exact Calls.later (scaled_any _ (by omega) (by omega) _))))); refine wpQuiet_nil ?_; rintro _ ⟨x, rfl⟩; obtain ⟨w', hb⟩ := x; (try clear hc hf); (try clear hcM hfM); (try clear hcN hfN); (first | ((first | replace hB := Below.next hB (Nat.le_refl _) hb | replace hB := Below.next1 hB (Nat.le_refl _) hb | replace hB := Below.next2 hB (Nat.le_refl _) hb); (first | replace hM := Below.next hM (Nat.le_refl _) hb | replace hM := Below.next1 hM (Nat.le_refl _) hb | replace hM := Below.next2 hM (Nat.le_refl _) hb); (first | replace hN := Below.next hN (Nat.le_refl _) hb | replace hN := Below.next1 hN (Nat.le_refl _) hb | replace hN := Below.next2 hN (Nat.le_refl _) hb)) | ((first | replace hB := Below.next hB (Nat.le_refl _) hb | replace hB := Below.next1 hB (Nat.le_refl _) hb | replace hB := Below.next2 hB (Nat.le_refl _) hb); (first | replace hM := Below.next hM (Nat.le_refl _) hb | replace hM := Below.next1 hM (Nat.le_refl _) hb | replace hM := Below.next2 hM (Nat.le_refl _) hb); have hN := Below.mid hb) | ((first | replace hB := Below.next hB (Nat.le_refl _) hb | replace hB := Below.next1 hB (Nat.le_refl _) hb | replace hB := Below.next2 hB (Nat.le_refl _) hb); (first | replace hM := Below.next hM (Nat.le_refl _) hb | replace hM := Below.next1 hM (Nat.le_refl _) hb | replace hM := Below.next2 hM (Nat.le_refl _) hb)) | ((first | replace hB := Below.next hB (Nat.le_refl _) hb | replace hB := Below.next1 hB (Nat.le_refl _) hb | replace hB := Below.next2 hB (Nat.le_refl _) hb); have hM := Below.mid hb) | (first | replace hB := Below.next hB (Nat.le_refl _) hb | replace hB := Below.next1 hB (Nat.le_refl _) hb | replace hB := Below.next2 hB (Nat.le_refl _) hb) | have hB := hb); obtain ⟨hc, hf, hz⟩ := after hB; (try (have hq := after hM; obtain ⟨hcM, hfM, hzM⟩ := hq)); (try (have hq := after hN; obtain ⟨hcN, hfN, hzN⟩ := hq)); have hs := hb.size; (try simp at hz); (try simp at hs)
        have hK4 := Below.next hK3 (Nat.le_refl _) hb
        go_wp2_with fail
        refine bodyPost_ret (v := .tuple #[.int .i64 x1, .int .i64 x2, .int .i64 (x3 - nrst (981 * t * t)), .int .i64 0]) (by simp only [results, Try.results34]; go_simp) rfl ⟨rfl, (by repeat (first | with_reducible exact Below.refl _ _ | with_reducible assumption | with_reducible refine Below.drew ?_ | with_reducible refine Below.setCell ?_ (by first | omega | (simp; omega) | simp) _ | with_reducible refine Below.alloc ?_ (by first | omega | (simp; omega) | simp) _ | with_reducible refine Below.trans ?_ (Below.mono (by with_reducible assumption) (by first | omega | (simp; omega) | simp))))⟩
      · have A3 := Lib.hid (at_bad h3)
        rw [plV_3 h1 h2 h3]
        have hE : (atE a3 b3 d3 t != 0) = true := by simpa using h3
        clear h1 h2 h3
        generalize vAt a1 b1 d1 t = x1 at *
        generalize vAt a2 b2 d2 t = x2 at *
        generalize atE a3 b3 d3 t = E at *
        go_enter Try.func34, Try.ntmps34
        go_wp2_with fail
        refine wp_loop_rounds 4 ?_
        rw [rounds_succ]
        go_wp2_with (go_at_call_of 27 (a1); refine (A1.out _).mono ?_; rintro e w1 ⟨rfl, hb1⟩; have hs1 := hb1.size; simp at hs1; have hK : Below w.heap.size w w1 := Below.trans (by repeat (first | with_reducible exact Below.refl _ _ | with_reducible assumption | refine Below.setCell ?_ (by first | omega | (simp; omega) | simp) _ | refine Below.alloc ?_ (by first | omega | (simp; omega) | simp) _)) (hb1.mono (by first | (simp; done) | (simp; omega))); have hO := heap_old hb1 (b := w.heap.size + 1) (o := .cells #[.int .i64 0, .int .i64 0, .int .i64 0] 56) (by repeat (first | with_reducible refine heap_new _ _ (by first | omega | (simp; done) | (simp; omega)) | with_reducible apply heap_alloc)); have hL := heap_old hb1 (b := w.heap.size + 1 + 1) (o := .cells #[.int .i64 a1, .int .i64 b1, .int .i64 d1, .int .i64 a2, .int .i64 b2, .int .i64 d2, .int .i64 a3, .int .i64 b3, .int .i64 d3] 35) (by repeat (first | with_reducible refine heap_new _ _ (by first | omega | (simp; done) | (simp; omega)) | with_reducible apply heap_alloc)); have o0 := cell_heap (o := 0) hO rfl; have o1 := cell_heap (o := 1) hO rfl; have o2 := cell_heap (o := 2) hO rfl; have l3 := cell_heap (o := 3) hL rfl; have l4 := cell_heap (o := 4) hL rfl; have l5 := cell_heap (o := 5) hL rfl; have z0 := frozen_heap (o := 0) hO; have z1 := frozen_heap (o := 1) hO; have z2 := frozen_heap (o := 2) hO)
        rw [rounds_succ]
        go_wp2_with (go_at_call_of 27 (a2); refine (A2.out _).mono ?_; rintro e w2 ⟨rfl, hb2⟩; have hs2 := hb2.size; simp at hs2; replace hK : Below w.heap.size w w2 := Below.trans (by repeat (first | with_reducible exact Below.refl _ _ | with_reducible assumption | refine Below.setCell ?_ (by first | omega | (simp; omega) | simp) _ | refine Below.alloc ?_ (by first | omega | (simp; omega) | simp) _)) (hb2.mono (by first | (simp; done) | (simp; omega))); replace hO := heap_old hb2 (heap_alloc (heap_set hO)); replace hL := heap_old hb2 (heap_alloc (heap_set_other hL (by omega))); clear o0 o1 o2 z0 z1 z2; have o0 := cell_heap (o := 0) hO rfl; have o1 := cell_heap (o := 1) hO rfl; have o2 := cell_heap (o := 2) hO rfl; have l6 := cell_heap (o := 6) hL rfl; have l7 := cell_heap (o := 7) hL rfl; have l8 := cell_heap (o := 8) hL rfl; have z0 := frozen_heap (o := 0) hO; have z1 := frozen_heap (o := 1) hO; have z2 := frozen_heap (o := 2) hO)
        rw [rounds_succ]
        go_wp2_with (go_at_call_of 27 (a3); refine (A3.out _).mono ?_; rintro e w3 ⟨rfl, hb3⟩; have hs3 := hb3.size; simp at hs3; replace hK : Below w.heap.size w w3 := Below.trans (by repeat (first | with_reducible exact Below.refl _ _ | with_reducible assumption | refine Below.setCell ?_ (by first | omega | (simp; omega) | simp) _ | refine Below.alloc ?_ (by first | omega | (simp; omega) | simp) _)) (hb3.mono (by first | (simp; done) | (simp; omega))); replace hO := heap_old hb3 (heap_alloc (heap_set hO)); replace hL := heap_old hb3 (heap_alloc (heap_set_other hL (by omega))); clear o0 o1 o2 z0 z1 z2; have o0 := cell_heap (o := 0) hO rfl; have o1 := cell_heap (o := 1) hO rfl; have o2 := cell_heap (o := 2) hO rfl; have l0 := cell_heap (o := 0) hL rfl; have l1 := cell_heap (o := 1) hL rfl; have l2 := cell_heap (o := 2) hL rfl; have z0 := frozen_heap (o := 0) hO; have z1 := frozen_heap (o := 1) hO; have z2 := frozen_heap (o := 2) hO)
        refine bodyPost_ret (v := .tuple #[.int .i64 0, .int .i64 0, .int .i64 0, .int .i64 E]) (by simp only [results, Try.results34]; go_simp) rfl ⟨rfl, (by repeat (first | with_reducible exact Below.refl _ _ | with_reducible assumption | with_reducible refine Below.drew ?_ | with_reducible refine Below.setCell ?_ (by first | omega | (simp; omega) | simp) _ | with_reducible refine Below.alloc ?_ (by first | omega | (simp; omega) | simp) _ | with_reducible refine Below.trans ?_ (Below.mono (by with_reducible assumption) (by first | omega | (simp; omega) | simp))))⟩
    · have A2 := Lib.hid (at_bad h2)
      rw [plV_2 _ _ _ h1 h2]
      have hE : (atE a2 b2 d2 t != 0) = true := by simpa using h2
      clear h1 h2
      generalize vAt a1 b1 d1 t = x1 at *
      generalize atE a2 b2 d2 t = E at *
      go_enter Try.func34, Try.ntmps34
      go_wp2_with fail
      refine wp_loop_rounds 4 ?_
      rw [rounds_succ]
      go_wp2_with (go_at_call_of 27 (a1); refine (A1.out _).mono ?_; rintro e w1 ⟨rfl, hb1⟩; have hs1 := hb1.size; simp at hs1; have hK : Below w.heap.size w w1 := Below.trans (by repeat (first | with_reducible exact Below.refl _ _ | with_reducible assumption | refine Below.setCell ?_ (by first | omega | (simp; omega) | simp) _ | refine Below.alloc ?_ (by first | omega | (simp; omega) | simp) _)) (hb1.mono (by first | (simp; done) | (simp; omega))); have hO := heap_old hb1 (b := w.heap.size + 1) (o := .cells #[.int .i64 0, .int .i64 0, .int .i64 0] 56) (by repeat (first | with_reducible refine heap_new _ _ (by first | omega | (simp; done) | (simp; omega)) | with_reducible apply heap_alloc)); have hL := heap_old hb1 (b := w.heap.size + 1 + 1) (o := .cells #[.int .i64 a1, .int .i64 b1, .int .i64 d1, .int .i64 a2, .int .i64 b2, .int .i64 d2, .int .i64 a3, .int .i64 b3, .int .i64 d3] 35) (by repeat (first | with_reducible refine heap_new _ _ (by first | omega | (simp; done) | (simp; omega)) | with_reducible apply heap_alloc)); have o0 := cell_heap (o := 0) hO rfl; have o1 := cell_heap (o := 1) hO rfl; have o2 := cell_heap (o := 2) hO rfl; have l3 := cell_heap (o := 3) hL rfl; have l4 := cell_heap (o := 4) hL rfl; have l5 := cell_heap (o := 5) hL rfl; have z0 := frozen_heap (o := 0) hO; have z1 := frozen_heap (o := 1) hO; have z2 := frozen_heap (o := 2) hO)
      rw [rounds_succ]
      go_wp2_with (go_at_call_of 27 (a2); refine (A2.out _).mono ?_; rintro e w2 ⟨rfl, hb2⟩; have hs2 := hb2.size; simp at hs2; replace hK : Below w.heap.size w w2 := Below.trans (by repeat (first | with_reducible exact Below.refl _ _ | with_reducible assumption | refine Below.setCell ?_ (by first | omega | (simp; omega) | simp) _ | refine Below.alloc ?_ (by first | omega | (simp; omega) | simp) _)) (hb2.mono (by first | (simp; done) | (simp; omega))); replace hO := heap_old hb2 (heap_alloc (heap_set hO)); replace hL := heap_old hb2 (heap_alloc (heap_set_other hL (by omega))); clear o0 o1 o2 z0 z1 z2; have o0 := cell_heap (o := 0) hO rfl; have o1 := cell_heap (o := 1) hO rfl; have o2 := cell_heap (o := 2) hO rfl; have l6 := cell_heap (o := 6) hL rfl; have l7 := cell_heap (o := 7) hL rfl; have l8 := cell_heap (o := 8) hL rfl; have z0 := frozen_heap (o := 0) hO; have z1 := frozen_heap (o := 1) hO; have z2 := frozen_heap (o := 2) hO)
      refine bodyPost_ret (v := .tuple #[.int .i64 0, .int .i64 0, .int .i64 0, .int .i64 E]) (by simp only [results, Try.results34]; go_simp) rfl ⟨rfl, (by repeat (first | with_reducible exact Below.refl _ _ | with_reducible assumption | with_reducible refine Below.drew ?_ | with_reducible refine Below.setCell ?_ (by first | omega | (simp; omega) | simp) _ | with_reducible refine Below.alloc ?_ (by first | omega | (simp; omega) | simp) _ | with_reducible refine Below.trans ?_ (Below.mono (by with_reducible assumption) (by first | omega | (simp; omega) | simp))))⟩
  · have A1 := Lib.hid (at_bad h1)
    rw [plV_1 _ _ _ _ _ _ h1]
    have hE : (atE a1 b1 d1 t != 0) = true := by simpa using h1
    clear h1
    generalize atE a1 b1 d1 t = E at *
    go_enter Try.func34, Try.ntmps34
    go_wp2_with fail
    refine wp_loop_rounds 4 ?_
    rw [rounds_succ]
    go_wp2_with (go_at_call_of 27 (a1); refine (A1.out _).mono ?_; rintro e w1 ⟨rfl, hb1⟩; have hs1 := hb1.size; simp at hs1; have hK : Below w.heap.size w w1 := Below.trans (by repeat (first | with_reducible exact Below.refl _ _ | with_reducible assumption | refine Below.setCell ?_ (by first | omega | (simp; omega) | simp) _ | refine Below.alloc ?_ (by first | omega | (simp; omega) | simp) _)) (hb1.mono (by first | (simp; done) | (simp; omega))); have hO := heap_old hb1 (b := w.heap.size + 1) (o := .cells #[.int .i64 0, .int .i64 0, .int .i64 0] 56) (by repeat (first | with_reducible refine heap_new _ _ (by first | omega | (simp; done) | (simp; omega)) | with_reducible apply heap_alloc)); have hL := heap_old hb1 (b := w.heap.size + 1 + 1) (o := .cells #[.int .i64 a1, .int .i64 b1, .int .i64 d1, .int .i64 a2, .int .i64 b2, .int .i64 d2, .int .i64 a3, .int .i64 b3, .int .i64 d3] 35) (by repeat (first | with_reducible refine heap_new _ _ (by first | omega | (simp; done) | (simp; omega)) | with_reducible apply heap_alloc)); have o0 := cell_heap (o := 0) hO rfl; have o1 := cell_heap (o := 1) hO rfl; have o2 := cell_heap (o := 2) hO rfl; have l3 := cell_heap (o := 3) hL rfl; have l4 := cell_heap (o := 4) hL rfl; have l5 := cell_heap (o := 5) hL rfl; have z0 := frozen_heap (o := 0) hO; have z1 := frozen_heap (o := 1) hO; have z2 := frozen_heap (o := 2) hO)
    refine bodyPost_ret (v := .tuple #[.int .i64 0, .int .i64 0, .int .i64 0, .int .i64 E]) (by simp only [results, Try.results34]; go_simp) rfl ⟨rfl, (by repeat (first | with_reducible exact Below.refl _ _ | with_reducible assumption | with_reducible refine Below.drew ?_ | with_reducible refine Below.setCell ?_ (by first | omega | (simp; omega) | simp) _ | with_reducible refine Below.alloc ?_ (by first | omega | (simp; omega) | simp) _ | with_reducible refine Below.trans ?_ (Below.mono (by with_reducible assumption) (by first | omega | (simp; omega) | simp))))⟩
end Go.Proofs.Ytcppgigndpepnaa
