/-
  The walk of the statement on each place that is drawn.
  Conditions: none.
-/
import Derived.Test.YtcppgigndpepnaaDrawLaws
namespace Go.Proofs.Ytcppgigndpepnaa
open Go.RowKit
theorem draw_facts {a1 b1 d1 a2 b2 d2 a3 b3 d3 a b s : Int} (h : drawE a1 b1 d1 a2 b2 d2 a3 b3 d3 a b s = 0) : (0 ≤ a ∧ b ≤ 8000 ∧ 1 ≤ s ∧ a ≤ b ∧ (b - a) / s + 1 ≤ 64) ∧ allOk a1 b1 d1 a2 b2 d2 a3 b3 d3 = true := by
  unfold drawE at h
  split at h
  · omega
  · split at h
    · omega
    · split at h
      · omega
      · split at h
        · rename_i g1 g2 g3 g4; exact ⟨by omega, g4⟩
        · omega
theorem last_near {a b s : Int} (hs : 1 ≤ s) (hab : a ≤ b) : b - (a + (gapsN a b s : Nat) * s) < s := by
  have h0 : 0 ≤ (b - a) / s := Int.ediv_nonneg (by omega) (by omega)
  have h1 : ((gapsN a b s : Nat) : Int) = (b - a) / s := by unfold gapsN; omega
  rw [h1]
  have h2 := Int.mul_ediv_add_emod (b - a) s
  have h3 := Int.emod_lt_of_pos (b - a) (show 0 < s by omega)
  have h4 : (b - a) / s * s = s * ((b - a) / s) := Int.mul_comm _ _
  omega
set_option maxRecDepth 100000 in
set_option maxHeartbeats 4000000 in
theorem flightDrawn_walk (a1 b1 d1 a2 b2 d2 a3 b3 d3 : Int) (n0 n1 n2 : Int) (w : World) : Calls Try.prog 11 #[.agg #[.int .i64 a1, .int .i64 b1, .int .i64 d1, .int .i64 a2, .int .i64 b2, .int .i64 d2, .int .i64 a3, .int .i64 b3, .int .i64 d3], .agg #[.int .i64 n0, .int .i64 n1, .int .i64 n2]] w fun e w' => e = .returned (.bool true) ∧ Below w.heap.size w w' := by
  have hd := draw_any a1 b1 d1 a2 b2 d2 a3 b3 d3 n0 n1 n2
  by_cases he : drawE a1 b1 d1 a2 b2 d2 a3 b3 d3 n0 n1 n2 = 0
  · obtain ⟨⟨g1, g2, g3, g4, g5⟩, hok⟩ := draw_facts he
    have e2 : drawL a1 b1 d1 a2 b2 d2 a3 b3 d3 n0 n1 n2 = (List.range (gapsN n0 n1 n2 + 1)).map fun (k : Nat) => seenV a1 b1 d1 a2 b2 d2 a3 b3 d3 (n0 + k * n2) := by unfold drawL; rw [if_pos he]
    have hP : ∀ t, 0 ≤ t → t ≤ 8000 → ∀ w, Calls Try.prog 34 #[.agg #[.int .i64 a1, .int .i64 b1, .int .i64 d1, .int .i64 a2, .int .i64 b2, .int .i64 d2, .int .i64 a3, .int .i64 b3, .int .i64 d3], .int .i64 t] w fun e w' => e = .returned (.tuple #[.int .i64 (seenV a1 b1 d1 a2 b2 d2 a3 b3 d3 t).2.1, .int .i64 (seenV a1 b1 d1 a2 b2 d2 a3 b3 d3 t).2.2.1, .int .i64 (seenV a1 b1 d1 a2 b2 d2 a3 b3 d3 t).2.2.2.1, .int .i64 0]) ∧ Below w.heap.size w w' := by
      intro t h1 h2 w
      have h := place_any a1 b1 d1 a2 b2 d2 a3 b3 d3 t w
      have he : plE a1 b1 d1 a2 b2 d2 a3 b3 d3 t = 0 := by rw [plE_in h1 h2, if_pos hok]
      unfold plV at h
      rw [if_pos he] at h
      exact h
    have hV1 : ∀ t, (seenV a1 b1 d1 a2 b2 d2 a3 b3 d3 t).1 = t := fun t => rfl
    have hV5 : ∀ t, (seenV a1 b1 d1 a2 b2 d2 a3 b3 d3 t).2.2.2.2 = 0 := fun t => rfl
    rw [he, e2] at hd
    have hlast := last_near (a := n0) (b := n1) (s := n2) g3 g4
    obtain ⟨q, hqq⟩ : ∃ q : Nat, gapsN n0 n1 n2 = q := ⟨_, rfl⟩
    have hq64 : q ≤ 63 := by rw [← hqq]; unfold gapsN; omega
    have hst : ∀ k : Nat, k ≤ q → 0 ≤ (k : Int) * n2 ∧ n0 + k * n2 ≤ n1 := fun k hk => step_bd g3 g4 (by rw [hqq]; exact hk)
    rw [hqq] at hd hlast
    have hLat : ∀ k, k < q + 1 → ((List.range (q + 1)).map fun (k : Nat) => seenV a1 b1 d1 a2 b2 d2 a3 b3 d3 (n0 + k * n2))[k]? = some (seenV a1 b1 d1 a2 b2 d2 a3 b3 d3 (n0 + k * n2)) := fun k hk => by simp [hk]
    have hLl : ((List.range (q + 1)).map fun (k : Nat) => seenV a1 b1 d1 a2 b2 d2 a3 b3 d3 (n0 + k * n2)).length = q + 1 := by simp
    clear he e2 hqq hok
    generalize ((List.range (q + 1)).map fun (k : Nat) => seenV a1 b1 d1 a2 b2 d2 a3 b3 d3 (n0 + k * n2)) = L at *
    generalize seenV a1 b1 d1 a2 b2 d2 a3 b3 d3 = sv at *
    have hL0 : L[0]? = some (sv n0) := by have := hLat 0 (by omega); simpa using this
    have hLq := hLat q (by omega)
    obtain ⟨hq1, hq2⟩ := hst q (Nat.le_refl _)
    have hD := Lib.hid hd
    have hPP := Lib.hid hP
    have hLH := Lib.hid hLat
    have hST := Lib.hid hst
    have h0H := Lib.hid hL0
    have hqH := Lib.hid hLq
    clear hd hP hLat hst hL0 hLq
    obtain ⟨tq, htq⟩ : ∃ tq, n0 + (q : Int) * n2 = tq := ⟨_, rfl⟩
    rw [htq] at hlast hq2
    have htq0 : 0 ≤ tq := by omega
    have hz1 : ((q : Int) + 1 == 0) = false := by rw [beq_eq_false_iff_ne]; omega
    have hz2 : decide (n1 < tq) = false := decide_eq_false (by omega)
    have hz3 : decide (n2 ≤ n1 - tq) = false := decide_eq_false (by omega)
    have hTQ := Lib.hid htq
    clear htq
    go_enter Try.func11, Try.ntmps11
    go_wp2_with (first
      | (go_at_call 29; refine (awake32_any _).mono ?_; rintro e w1 ⟨rfl, hb1⟩; have hs1 := hb1.size; simp at hs1; have hK : Below w.heap.size w w1 := Below.trans (by repeat (first | with_reducible exact Below.refl _ _ | with_reducible assumption | refine Below.setCell ?_ (by first | omega | (simp; omega) | simp) _ | refine Below.alloc ?_ (by first | omega | (simp; omega) | simp) _)) (hb1.mono (by first | (simp; done) | (simp; omega))); have hF := heap_old hb1 (b := w.heap.size) (o := .cells #[.int .i64 a1, .int .i64 b1, .int .i64 d1, .int .i64 a2, .int .i64 b2, .int .i64 d2, .int .i64 a3, .int .i64 b3, .int .i64 d3] 48) (by repeat (first | with_reducible refine heap_new _ _ (by first | omega | (simp; done) | (simp; omega)) | with_reducible apply heap_alloc)); have hN := heap_old hb1 (b := w.heap.size + 1) (o := .cells #[.int .i64 n0, .int .i64 n1, .int .i64 n2] 56) (by repeat (first | with_reducible refine heap_new _ _ (by first | omega | (simp; done) | (simp; omega)) | with_reducible apply heap_alloc)); have f0 := cell_heap (o := 0) hF rfl; have f1 := cell_heap (o := 1) hF rfl; have f2 := cell_heap (o := 2) hF rfl; have f3 := cell_heap (o := 3) hF rfl; have f4 := cell_heap (o := 4) hF rfl; have f5 := cell_heap (o := 5) hF rfl; have f6 := cell_heap (o := 6) hF rfl; have f7 := cell_heap (o := 7) hF rfl; have f8 := cell_heap (o := 8) hF rfl; have m0 := cell_heap (o := 0) hN rfl; have m1 := cell_heap (o := 1) hN rfl; have m2 := cell_heap (o := 2) hN rfl)
      | (go_at_call 37; refine (hD.out _).mono ?_; rintro e w3 ⟨⟨u1, rfl, hu1⟩, hb3⟩; replace hK := Below.next hK (Nat.le_refl _) hb3; replace hF := heap_old hb3 hF; replace hN := heap_old hb3 hN; clear f0 f1 f2 f3 f4 f5 f6 f7 f8 m0 m1 m2; have f0 := cell_heap (o := 0) hF rfl; have f1 := cell_heap (o := 1) hF rfl; have f2 := cell_heap (o := 2) hF rfl; have f3 := cell_heap (o := 3) hF rfl; have f4 := cell_heap (o := 4) hF rfl; have f5 := cell_heap (o := 5) hF rfl; have f6 := cell_heap (o := 6) hF rfl; have f7 := cell_heap (o := 7) hF rfl; have f8 := cell_heap (o := 8) hF rfl; have m0 := cell_heap (o := 0) hN rfl; have m1 := cell_heap (o := 1) hN rfl; have m2 := cell_heap (o := 2) hN rfl; obtain ⟨pa, b, o, cap, rfl, k1, k2, k3, k4⟩ := hu1; rw [hLl] at k1 k2 ⊢; obtain rfl := k1 (by omega); have hcap : cap ≤ 9223372036854775807 := (by unfold maxLen at k3; omega); obtain ⟨c0, c1, c2, c3, c4⟩ := k4 0 _ h0H.out; obtain ⟨x0, _, _, _, _⟩ := k4 q _ hqH.out; rw [hV1] at c0 x0; rw [hTQ.out] at x0; simp only [Nat.zero_mul, Nat.add_zero] at c0))
    have hl := @Later.cell
    refine region_later (by kernel_rfl) (by kernel_rfl) ?_; (repeat (go_big_quiet_step (fail))); refine wpQuiet_nil ?_; rintro _ ⟨x, rfl⟩; obtain ⟨w', hb⟩ := x; (try clear hc hf); (try clear hcM hfM); (try clear hcN hfN); (first | ((first | replace hB := Below.next hB (Nat.le_refl _) hb | replace hB := Below.next1 hB (Nat.le_refl _) hb | replace hB := Below.next2 hB (Nat.le_refl _) hb); (first | replace hM := Below.next hM (Nat.le_refl _) hb | replace hM := Below.next1 hM (Nat.le_refl _) hb | replace hM := Below.next2 hM (Nat.le_refl _) hb); (first | replace hN := Below.next hN (Nat.le_refl _) hb | replace hN := Below.next1 hN (Nat.le_refl _) hb | replace hN := Below.next2 hN (Nat.le_refl _) hb)) | ((first | replace hB := Below.next hB (Nat.le_refl _) hb | replace hB := Below.next1 hB (Nat.le_refl _) hb | replace hB := Below.next2 hB (Nat.le_refl _) hb); (first | replace hM := Below.next hM (Nat.le_refl _) hb | replace hM := Below.next1 hM (Nat.le_refl _) hb | replace hM := Below.next2 hM (Nat.le_refl _) hb); have hN := Below.mid hb) | ((first | replace hB := Below.next hB (Nat.le_refl _) hb | replace hB := Below.next1 hB (Nat.le_refl _) hb | replace hB := Below.next2 hB (Nat.le_refl _) hb); (first | replace hM := Below.next hM (Nat.le_refl _) hb | replace hM := Below.next1 hM (Nat.le_refl _) hb | replace hM := Below.next2 hM (Nat.le_refl _) hb)) | ((first | replace hB := Below.next hB (Nat.le_refl _) hb | replace hB := Below.next1 hB (Nat.le_refl _) hb | replace hB := Below.next2 hB (Nat.le_refl _) hb); have hM := Below.mid hb) | (first | replace hB := Below.next hB (Nat.le_refl _) hb | replace hB := Below.next1 hB (Nat.le_refl _) hb | replace hB := Below.next2 hB (Nat.le_refl _) hb) | have hB := hb); obtain ⟨hc, hf, hz⟩ := after hB; (try (have hq := after hM; obtain ⟨hcM, hfM, hzM⟩ := hq)); (try (have hq := after hN; obtain ⟨hcN, hfN, hzN⟩ := hq)); have hs := hb.size; (try simp at hz); (try simp at hs)
    have hK4 := Below.next hK (Nat.le_refl _) hb
    clear hl
    go_wp2_with fail
    have hb0' := Lib.hid hb
    clear f0 f1 f2 f3 f4 f5 f6 f7 f8 m0 m1 m2 c0 c1 c2 c3 c4 x0 hz1 hz2 hz3 hlast hq2 hTQ
    go_loopw [72] (fun x wr => ∃ i : Nat, i ≤ q + 1 ∧ x = .int .i64 i ∧ Below w3.heap.size w3 wr) (fun x _ => q + 1 - (intOf x).toNat)
    case atStart => exact ⟨0, by omega, rfl, hb0'.out⟩
    case round =>
      obtain ⟨i, hi, rfl, hb0⟩ := hrel
      have hF4 := heap_old hb0 hF
      have hN4 := heap_old hb0 hN
      have hsz := hb0.size
      have f0 := cell_heap (o := 0) hF4 rfl
      have f1 := cell_heap (o := 1) hF4 rfl
      have f2 := cell_heap (o := 2) hF4 rfl
      have f3 := cell_heap (o := 3) hF4 rfl
      have f4 := cell_heap (o := 4) hF4 rfl
      have f5 := cell_heap (o := 5) hF4 rfl
      have f6 := cell_heap (o := 6) hF4 rfl
      have f7 := cell_heap (o := 7) hF4 rfl
      have f8 := cell_heap (o := 8) hF4 rfl
      have m0 := cell_heap (o := 0) hN4 rfl
      have m1 := cell_heap (o := 1) hN4 rfl
      have m2 := cell_heap (o := 2) hN4 rfl
      rcases Nat.lt_or_ge i (q + 1) with hlt | hge
      · rcases Nat.eq_zero_or_pos i with rfl | hpos
        · obtain ⟨c0, c1, c2, c3, c4⟩ := (k4 0 _ h0H.out).below hb0
          rw [hV1] at c0
          rw [hV5] at c4
          simp only [Nat.zero_mul, Nat.add_zero] at c0 c1 c2 c3 c4
          have t3 := g1
          have t4 : n0 ≤ 8000 := by omega
          go_wp2_with (go_at_call 34; refine (hPP.out _ t3 t4 _).mono ?_; rintro e w5 ⟨rfl, hb5⟩; have hB5 := Below.next1 hb0 (Nat.le_refl _) hb5; have hS5 := heap_old hb5 (heap_new wr (.cells #[.int .i64 n0, .int .i64 (sv n0).2.1, .int .i64 (sv n0).2.2.1, .int .i64 (sv n0).2.2.2.1, .int .i64 0] 62) rfl); have hN5 := heap_old hb5 (heap_alloc hN4); have s0 := cell_heap (o := 0) hS5 rfl; have s1 := cell_heap (o := 1) hS5 rfl; have s2 := cell_heap (o := 2) hS5 rfl; have s3 := cell_heap (o := 3) hS5 rfl; have s4 := cell_heap (o := 4) hS5 rfl; have p2 := cell_heap (o := 2) hN5 rfl)
          have hl := @Later.cell
          refine region_later (by kernel_rfl) (by kernel_rfl) ?_; (repeat (go_big_quiet_step (fail))); refine wpQuiet_nil ?_; rintro _ ⟨x, rfl⟩; obtain ⟨w', hb⟩ := x; (try clear hc hf); (try clear hcM hfM); (try clear hcN hfN); (first | ((first | replace hB := Below.next hB (Nat.le_refl _) hb | replace hB := Below.next1 hB (Nat.le_refl _) hb | replace hB := Below.next2 hB (Nat.le_refl _) hb); (first | replace hM := Below.next hM (Nat.le_refl _) hb | replace hM := Below.next1 hM (Nat.le_refl _) hb | replace hM := Below.next2 hM (Nat.le_refl _) hb); (first | replace hN := Below.next hN (Nat.le_refl _) hb | replace hN := Below.next1 hN (Nat.le_refl _) hb | replace hN := Below.next2 hN (Nat.le_refl _) hb)) | ((first | replace hB := Below.next hB (Nat.le_refl _) hb | replace hB := Below.next1 hB (Nat.le_refl _) hb | replace hB := Below.next2 hB (Nat.le_refl _) hb); (first | replace hM := Below.next hM (Nat.le_refl _) hb | replace hM := Below.next1 hM (Nat.le_refl _) hb | replace hM := Below.next2 hM (Nat.le_refl _) hb); have hN := Below.mid hb) | ((first | replace hB := Below.next hB (Nat.le_refl _) hb | replace hB := Below.next1 hB (Nat.le_refl _) hb | replace hB := Below.next2 hB (Nat.le_refl _) hb); (first | replace hM := Below.next hM (Nat.le_refl _) hb | replace hM := Below.next1 hM (Nat.le_refl _) hb | replace hM := Below.next2 hM (Nat.le_refl _) hb)) | ((first | replace hB := Below.next hB (Nat.le_refl _) hb | replace hB := Below.next1 hB (Nat.le_refl _) hb | replace hB := Below.next2 hB (Nat.le_refl _) hb); have hM := Below.mid hb) | (first | replace hB := Below.next hB (Nat.le_refl _) hb | replace hB := Below.next1 hB (Nat.le_refl _) hb | replace hB := Below.next2 hB (Nat.le_refl _) hb) | have hB := hb); obtain ⟨hc, hf, hz⟩ := after hB; (try (have hq := after hM; obtain ⟨hcM, hfM, hzM⟩ := hq)); (try (have hq := after hN; obtain ⟨hcN, hfN, hzN⟩ := hq)); have hs := hb.size; (try simp at hz); (try simp at hs)
          have hB6 := Below.next hB5 (Nat.le_refl _) hb
          clear hl
          go_wp2_with fail
          exact ⟨⟨1, by omega, by simp, hB6⟩, by simp [intOf]⟩
        · obtain ⟨j, rfl⟩ : ∃ j, i = j + 1 := ⟨i - 1, by omega⟩
          obtain ⟨z1, z2⟩ := hST.out (j + 1) (by omega)
          obtain ⟨z3, z4⟩ := hST.out j (by omega)
          obtain ⟨tj, htj⟩ : ∃ tj, n0 + (j : Int) * n2 = tj := ⟨_, rfl⟩
          have htj2 : n0 + ((j + 1 : Nat) : Int) * n2 = tj + n2 := by rw [← htj]; simp only [Int.natCast_add, Int.natCast_one, Int.add_mul, Int.one_mul]; omega
          have hA := hLH.out (j + 1) (by omega)
          have hBq := hLH.out j (by omega)
          rw [htj2] at hA z2
          rw [htj] at hBq z4
          obtain ⟨c0, c1, c2, c3, c4⟩ := (k4 _ _ hA).below hb0
          obtain ⟨x0, _, _, _, _⟩ := (k4 _ _ hBq).below hb0
          rw [hV1] at c0 x0
          rw [hV5] at c4
          have tj0 : 0 ≤ tj := by omega
          have t3 : 0 ≤ tj + n2 := by omega
          have t4 : tj + n2 ≤ 8000 := by omega
          have hn' : q + 1 - ((j : Int) + 1 + 1).toNat < q + 1 - (j + 1) := by omega
          clear z1 z2 z3 z4 htj htj2 hA hBq
          go_wp2_with (go_at_call 34; refine (hPP.out _ t3 t4 _).mono ?_; rintro e w5 ⟨rfl, hb5⟩; have hB5 := Below.next1 hb0 (Nat.le_refl _) hb5; have hS5 := heap_old hb5 (heap_new wr (.cells #[.int .i64 (tj + n2), .int .i64 (sv (tj + n2)).2.1, .int .i64 (sv (tj + n2)).2.2.1, .int .i64 (sv (tj + n2)).2.2.2.1, .int .i64 0] 62) rfl); have hN5 := heap_old hb5 (heap_alloc hN4); have s0 := cell_heap (o := 0) hS5 rfl; have s1 := cell_heap (o := 1) hS5 rfl; have s2 := cell_heap (o := 2) hS5 rfl; have s3 := cell_heap (o := 3) hS5 rfl; have s4 := cell_heap (o := 4) hS5 rfl; have p2 := cell_heap (o := 2) hN5 rfl; have x5 := ((after (Below.next1 (Below.refl _ _) (Nat.le_refl _) hb5)).1 _ _ (by simp [x0])).trans x0)
          have hl := @Later.cell
          refine region_later (by kernel_rfl) (by kernel_rfl) ?_; (repeat (go_big_quiet_step (fail))); refine wpQuiet_nil ?_; rintro _ ⟨x, rfl⟩; obtain ⟨w', hb⟩ := x; (try clear hc hf); (try clear hcM hfM); (try clear hcN hfN); (first | ((first | replace hB := Below.next hB (Nat.le_refl _) hb | replace hB := Below.next1 hB (Nat.le_refl _) hb | replace hB := Below.next2 hB (Nat.le_refl _) hb); (first | replace hM := Below.next hM (Nat.le_refl _) hb | replace hM := Below.next1 hM (Nat.le_refl _) hb | replace hM := Below.next2 hM (Nat.le_refl _) hb); (first | replace hN := Below.next hN (Nat.le_refl _) hb | replace hN := Below.next1 hN (Nat.le_refl _) hb | replace hN := Below.next2 hN (Nat.le_refl _) hb)) | ((first | replace hB := Below.next hB (Nat.le_refl _) hb | replace hB := Below.next1 hB (Nat.le_refl _) hb | replace hB := Below.next2 hB (Nat.le_refl _) hb); (first | replace hM := Below.next hM (Nat.le_refl _) hb | replace hM := Below.next1 hM (Nat.le_refl _) hb | replace hM := Below.next2 hM (Nat.le_refl _) hb); have hN := Below.mid hb) | ((first | replace hB := Below.next hB (Nat.le_refl _) hb | replace hB := Below.next1 hB (Nat.le_refl _) hb | replace hB := Below.next2 hB (Nat.le_refl _) hb); (first | replace hM := Below.next hM (Nat.le_refl _) hb | replace hM := Below.next1 hM (Nat.le_refl _) hb | replace hM := Below.next2 hM (Nat.le_refl _) hb)) | ((first | replace hB := Below.next hB (Nat.le_refl _) hb | replace hB := Below.next1 hB (Nat.le_refl _) hb | replace hB := Below.next2 hB (Nat.le_refl _) hb); have hM := Below.mid hb) | (first | replace hB := Below.next hB (Nat.le_refl _) hb | replace hB := Below.next1 hB (Nat.le_refl _) hb | replace hB := Below.next2 hB (Nat.le_refl _) hb) | have hB := hb); obtain ⟨hc, hf, hz⟩ := after hB; (try (have hq := after hM; obtain ⟨hcM, hfM, hzM⟩ := hq)); (try (have hq := after hN; obtain ⟨hcN, hfN, hzN⟩ := hq)); have hs := hb.size; (try simp at hz); (try simp at hs)
          have hB6 := Below.next hB5 (Nat.le_refl _) hb
          clear hl
          go_wp2_with fail
          exact ⟨⟨j + 1 + 1, by omega, by simp, hB6⟩, by simpa [intOf] using hn'⟩
      · have hdi : ¬i < q + 1 := by omega
        have hK9 := Below.next hK (Nat.le_refl _) hb0
        go_wp2_with fail
        go_ret
        exact ⟨rfl, hK9⟩
  · have e2 : drawL a1 b1 d1 a2 b2 d2 a3 b3 d3 n0 n1 n2 = [] := by unfold drawL; rw [if_neg he]
    rw [e2] at hd
    have hE1 : (drawE a1 b1 d1 a2 b2 d2 a3 b3 d3 n0 n1 n2 != 0) = true := by simpa using he
    generalize drawE a1 b1 d1 a2 b2 d2 a3 b3 d3 n0 n1 n2 = E at hd hE1
    have hD := Lib.hid hd
    clear hd e2 he
    go_enter Try.func11, Try.ntmps11
    go_wp2_with (first
      | (go_at_call 29; refine (awake32_any _).mono ?_; rintro e w1 ⟨rfl, hb1⟩; have hs1 := hb1.size; simp at hs1; have hK : Below w.heap.size w w1 := Below.trans (by repeat (first | with_reducible exact Below.refl _ _ | with_reducible assumption | refine Below.setCell ?_ (by first | omega | (simp; omega) | simp) _ | refine Below.alloc ?_ (by first | omega | (simp; omega) | simp) _)) (hb1.mono (by first | (simp; done) | (simp; omega))); have hF := heap_old hb1 (b := w.heap.size) (o := .cells #[.int .i64 a1, .int .i64 b1, .int .i64 d1, .int .i64 a2, .int .i64 b2, .int .i64 d2, .int .i64 a3, .int .i64 b3, .int .i64 d3] 48) (by repeat (first | with_reducible refine heap_new _ _ (by first | omega | (simp; done) | (simp; omega)) | with_reducible apply heap_alloc)); have hN := heap_old hb1 (b := w.heap.size + 1) (o := .cells #[.int .i64 n0, .int .i64 n1, .int .i64 n2] 56) (by repeat (first | with_reducible refine heap_new _ _ (by first | omega | (simp; done) | (simp; omega)) | with_reducible apply heap_alloc)); have f0 := cell_heap (o := 0) hF rfl; have f1 := cell_heap (o := 1) hF rfl; have f2 := cell_heap (o := 2) hF rfl; have f3 := cell_heap (o := 3) hF rfl; have f4 := cell_heap (o := 4) hF rfl; have f5 := cell_heap (o := 5) hF rfl; have f6 := cell_heap (o := 6) hF rfl; have f7 := cell_heap (o := 7) hF rfl; have f8 := cell_heap (o := 8) hF rfl; have m0 := cell_heap (o := 0) hN rfl; have m1 := cell_heap (o := 1) hN rfl; have m2 := cell_heap (o := 2) hN rfl)
      | (go_at_call 37; refine (hD.out _).mono ?_; rintro e w3 ⟨⟨u1, rfl, hu1⟩, hb3⟩; replace hK := Below.next hK (Nat.le_refl _) hb3; replace hF := heap_old hb3 hF; replace hN := heap_old hb3 hN; clear f0 f1 f2 f3 f4 f5 f6 f7 f8 m0 m1 m2; have f0 := cell_heap (o := 0) hF rfl; have f1 := cell_heap (o := 1) hF rfl; have f2 := cell_heap (o := 2) hF rfl; have f3 := cell_heap (o := 3) hF rfl; have f4 := cell_heap (o := 4) hF rfl; have f5 := cell_heap (o := 5) hF rfl; have f6 := cell_heap (o := 6) hF rfl; have f7 := cell_heap (o := 7) hF rfl; have f8 := cell_heap (o := 8) hF rfl; have m0 := cell_heap (o := 0) hN rfl; have m1 := cell_heap (o := 1) hN rfl; have m2 := cell_heap (o := 2) hN rfl; obtain ⟨pa, b, o, cap, rfl, k1, k2, k3, k4⟩ := hu1))
    go_ret
    exact ⟨rfl, hK⟩
end Go.Proofs.Ytcppgigndpepnaa
