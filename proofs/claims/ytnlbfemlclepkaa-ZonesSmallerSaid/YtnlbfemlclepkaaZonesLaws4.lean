/-
  The walk of ZonesSmaller.
  Conditions: none.
-/
import Derived.Test.YtnlbfemlclepkaaZonesLaws3
import Derived.Test.YtnlbfemlclepkaaMake
namespace Go.Proofs.Ytnlbfemlclepkaa
open Go.RowKit

theorem insideB_iff {a b c d : Int} : insideB a b c d = true ↔ validB a b = true ∧ validB c d = true ∧ c ≤ a ∧ b ≤ d := by
  simp only [insideB, Bool.and_eq_true, decide_eq_true_eq]
  constructor
  · rintro ⟨⟨h1, h2⟩, h3, h4⟩; exact ⟨h1, h2, h3, h4⟩
  · rintro ⟨h1, h2, h3, h4⟩; exact ⟨⟨h1, h2⟩, h3, h4⟩

theorem ans_smaller {a b p q l h : Int} (hi : insideB p q a b = true) (h1 : l ≤ h) (h2 : -4611686018427387904 ≤ l) (h3 : h ≤ 4611686018427387904) : ans a b l h = 3 ∨ ans a b l h = ans p q l h := by
  obtain ⟨hv, hw, h4, h5⟩ := insideB_iff.1 hi
  have b1 := validB_bd hv
  rw [ans_good hw h1 h2 h3, ans_good hv h1 h2 h3]
  grind
theorem wicket_smaller {a b c d p q r s m : Int} (hi : insideB p q a b = true) (hj : insideB r s c d = true) : wicketV a b c d m = 3 ∨ wicketV a b c d m = wicketV p q r s m := by
  obtain ⟨hv, hw, h4, h5⟩ := insideB_iff.1 hi
  obtain ⟨hv', hw', h4', h5'⟩ := insideB_iff.1 hj
  have b1 := validB_bd hv
  have b2 := validB_bd hv'
  have k := clampM_bd m
  rw [wicketV_good hw hw', wicketV_good hv hv']
  grind


set_option maxHeartbeats 8000000 in
theorem smaller_in (a b c d n0 n1 n2 n3 a2 b2 c2 d2 : Int) (ea : min n0 n1 = a2) (eb : max n0 n1 = b2) (ec : min n2 n3 = c2) (ed : max n2 n3 = d2) (hi : insideB a2 b2 a b = true) (hj : insideB c2 d2 c d = true)
    (hn0 : -9223372036854775808 ≤ n0 ∧ n0 ≤ 9223372036854775807) (hn1 : -9223372036854775808 ≤ n1 ∧ n1 ≤ 9223372036854775807) (hn2 : -9223372036854775808 ≤ n2 ∧ n2 ≤ 9223372036854775807) (hn3 : -9223372036854775808 ≤ n3 ∧ n3 ≤ 9223372036854775807) (w : World) :
    Calls Try.prog 12 #[.agg #[.int .i64 a, .int .i64 b], .agg #[.int .i64 c, .int .i64 d], .agg #[.int .i64 n0, .int .i64 n1, .int .i64 n2, .int .i64 n3]] w fun e w' => e = .returned (.bool true) ∧ Below w.heap.size w w' := by
  have hl := @Later.cell
  have va := (insideB_iff.1 hi).1
  have vc := (insideB_iff.1 hj).1
  have ba := validB_bd va
  have bc := validB_bd vc
  have m1 : makeV a2 b2 = .tuple #[.agg #[.int .i64 a2, .int .i64 b2], .int .i64 0] := by
    simp only [validB, Bool.and_eq_true, decide_eq_true_eq] at va
    unfold makeV madeV; rw [if_neg (by omega), if_pos va.2]
  have m2 : makeV c2 d2 = .tuple #[.agg #[.int .i64 c2, .int .i64 d2], .int .i64 0] := by
    simp only [validB, Bool.and_eq_true, decide_eq_true_eq] at vc
    unfold makeV madeV; rw [if_neg (by omega), if_pos vc.2]
  have H0 := Lib.hid (ans_smaller hi (l := -4611686018427387904) (h := -1144) (by omega) (by omega) (by omega))
  have H1 := Lib.hid (ans_smaller hi (l := -1143) (h := 1143) (by omega) (by omega) (by omega))
  have H2 := Lib.hid (ans_smaller hi (l := 1144) (h := 4611686018427387904) (by omega) (by omega) (by omega))
  have H3 : Hid (impactV a b false = 3 ∨ impactV a b false = impactV a2 b2 false) := ans_smaller hi (l := -1143) (h := 4611686018427387904) (by omega) (by omega) (by omega)
  have H4 := Lib.hid (wicket_smaller (m := 180) hi hj)
  obtain ⟨x0, hx0⟩ : ∃ x, ans a b (-4611686018427387904) (-1144) = x := ⟨_, rfl⟩
  obtain ⟨y0, hy0⟩ : ∃ x, ans a2 b2 (-4611686018427387904) (-1144) = x := ⟨_, rfl⟩
  have G0 : Hid (x0 = 3 ∨ x0 = y0) := by have := H0.out; rw [hx0, hy0] at this; exact this
  clear H0
  obtain ⟨x1, hx1⟩ : ∃ x, ans a b (-1143) 1143 = x := ⟨_, rfl⟩
  obtain ⟨y1, hy1⟩ : ∃ x, ans a2 b2 (-1143) 1143 = x := ⟨_, rfl⟩
  have G1 : Hid (x1 = 3 ∨ x1 = y1) := by have := H1.out; rw [hx1, hy1] at this; exact this
  clear H1
  obtain ⟨x2, hx2⟩ : ∃ x, ans a b 1144 4611686018427387904 = x := ⟨_, rfl⟩
  obtain ⟨y2, hy2⟩ : ∃ x, ans a2 b2 1144 4611686018427387904 = x := ⟨_, rfl⟩
  have G2 : Hid (x2 = 3 ∨ x2 = y2) := by have := H2.out; rw [hx2, hy2] at this; exact this
  clear H2
  obtain ⟨x3, hx3⟩ : ∃ x, impactV a b false = x := ⟨_, rfl⟩
  obtain ⟨y3, hy3⟩ : ∃ x, impactV a2 b2 false = x := ⟨_, rfl⟩
  have G3 : Hid (x3 = 3 ∨ x3 = y3) := by have := H3.out; rw [hx3, hy3] at this; exact this
  clear H3
  obtain ⟨x4, hx4⟩ : ∃ x, wicketV a b c d 180 = x := ⟨_, rfl⟩
  obtain ⟨y4, hy4⟩ : ∃ x, wicketV a2 b2 c2 d2 180 = x := ⟨_, rfl⟩
  have G4 : Hid (x4 = 3 ∨ x4 = y4) := by have := H4.out; rw [hx4, hy4] at this; exact this
  clear H4
  clear va vc
  have f1 : (if n1 < n0 then n1 else n0) = a2 := by rw [← ea]; omega
  have f2 : (if n0 < n1 then n1 else n0) = b2 := by rw [← eb]; omega
  have f3 : (if n3 < n2 then n3 else n2) = c2 := by rw [← ec]; omega
  have f4 : (if n2 < n3 then n3 else n2) = d2 := by rw [← ed]; omega
  clear ea eb ec ed
  obtain ⟨ha1, ha2⟩ := hn0; obtain ⟨hb1, hb2⟩ := hn1; obtain ⟨hc1, hc2⟩ := hn2; obtain ⟨hd1, hd2⟩ := hn3
  obtain ⟨ba1, ba2, ba3⟩ := ba; obtain ⟨bc1, bc2, bc3⟩ := bc
  go_enter Try.func12, Try.ntmps12
  go_wp2_with (first | (go_at_call 18; refine (awake34_any _).mono ?_; rintro e w' ⟨rfl, hb⟩; (try clear hc hf); (try clear hcM hfM); (try clear hcN hfN); (first | ((first | replace hB := Below.next hB (Nat.le_refl _) hb | replace hB := Below.next1 hB (Nat.le_refl _) hb | replace hB := Below.next2 hB (Nat.le_refl _) hb); (first | replace hM := Below.next hM (Nat.le_refl _) hb | replace hM := Below.next1 hM (Nat.le_refl _) hb | replace hM := Below.next2 hM (Nat.le_refl _) hb); (first | replace hN := Below.next hN (Nat.le_refl _) hb | replace hN := Below.next1 hN (Nat.le_refl _) hb | replace hN := Below.next2 hN (Nat.le_refl _) hb)) | ((first | replace hB := Below.next hB (Nat.le_refl _) hb | replace hB := Below.next1 hB (Nat.le_refl _) hb | replace hB := Below.next2 hB (Nat.le_refl _) hb); (first | replace hM := Below.next hM (Nat.le_refl _) hb | replace hM := Below.next1 hM (Nat.le_refl _) hb | replace hM := Below.next2 hM (Nat.le_refl _) hb); have hN := Below.mid hb) | ((first | replace hB := Below.next hB (Nat.le_refl _) hb | replace hB := Below.next1 hB (Nat.le_refl _) hb | replace hB := Below.next2 hB (Nat.le_refl _) hb); (first | replace hM := Below.next hM (Nat.le_refl _) hb | replace hM := Below.next1 hM (Nat.le_refl _) hb | replace hM := Below.next2 hM (Nat.le_refl _) hb)) | ((first | replace hB := Below.next hB (Nat.le_refl _) hb | replace hB := Below.next1 hB (Nat.le_refl _) hb | replace hB := Below.next2 hB (Nat.le_refl _) hb); have hM := Below.mid hb) | (first | replace hB := Below.next hB (Nat.le_refl _) hb | replace hB := Below.next1 hB (Nat.le_refl _) hb | replace hB := Below.next2 hB (Nat.le_refl _) hb) | have hB := hb); obtain ⟨hc, hf, hz⟩ := after hB; (try (have hq := after hM; obtain ⟨hcM, hfM, hzM⟩ := hq)); (try (have hq := after hN; obtain ⟨hcN, hfN, hzN⟩ := hq)); have hs := hb.size; (try simp at hz); (try simp at hs); (try clear q0_0); have q0_0 := hc (w.heap.size) 0 (by simp [go_sem]); simp [go_sem] at q0_0; (try clear q0_1); have q0_1 := hc (w.heap.size) 1 (by simp [go_sem]); simp [go_sem] at q0_1; (try clear q1_0); have q1_0 := hc (w.heap.size + 1) 0 (by simp [go_sem]); simp [go_sem] at q1_0; (try clear q1_1); have q1_1 := hc (w.heap.size + 1) 1 (by simp [go_sem]); simp [go_sem] at q1_1; (try clear q2_0); have q2_0 := hc (w.heap.size + 1 + 1) 0 (by simp [go_sem]); simp [go_sem] at q2_0; (try clear q2_1); have q2_1 := hc (w.heap.size + 1 + 1) 1 (by simp [go_sem]); simp [go_sem] at q2_1; (try clear q2_2); have q2_2 := hc (w.heap.size + 1 + 1) 2 (by simp [go_sem]); simp [go_sem] at q2_2; (try clear q2_3); have q2_3 := hc (w.heap.size + 1 + 1) 3 (by simp [go_sem]); simp [go_sem] at q2_3) | (go_at_call 34; refine (make_any _ _ (by omega) (by omega) (by omega) (by omega) _).mono ?_; rintro e w' ⟨rfl, hb⟩; (try clear hc hf); (try clear hcM hfM); (try clear hcN hfN); (first | ((first | replace hB := Below.next hB (Nat.le_refl _) hb | replace hB := Below.next1 hB (Nat.le_refl _) hb | replace hB := Below.next2 hB (Nat.le_refl _) hb); (first | replace hM := Below.next hM (Nat.le_refl _) hb | replace hM := Below.next1 hM (Nat.le_refl _) hb | replace hM := Below.next2 hM (Nat.le_refl _) hb); (first | replace hN := Below.next hN (Nat.le_refl _) hb | replace hN := Below.next1 hN (Nat.le_refl _) hb | replace hN := Below.next2 hN (Nat.le_refl _) hb)) | ((first | replace hB := Below.next hB (Nat.le_refl _) hb | replace hB := Below.next1 hB (Nat.le_refl _) hb | replace hB := Below.next2 hB (Nat.le_refl _) hb); (first | replace hM := Below.next hM (Nat.le_refl _) hb | replace hM := Below.next1 hM (Nat.le_refl _) hb | replace hM := Below.next2 hM (Nat.le_refl _) hb); have hN := Below.mid hb) | ((first | replace hB := Below.next hB (Nat.le_refl _) hb | replace hB := Below.next1 hB (Nat.le_refl _) hb | replace hB := Below.next2 hB (Nat.le_refl _) hb); (first | replace hM := Below.next hM (Nat.le_refl _) hb | replace hM := Below.next1 hM (Nat.le_refl _) hb | replace hM := Below.next2 hM (Nat.le_refl _) hb)) | ((first | replace hB := Below.next hB (Nat.le_refl _) hb | replace hB := Below.next1 hB (Nat.le_refl _) hb | replace hB := Below.next2 hB (Nat.le_refl _) hb); have hM := Below.mid hb) | (first | replace hB := Below.next hB (Nat.le_refl _) hb | replace hB := Below.next1 hB (Nat.le_refl _) hb | replace hB := Below.next2 hB (Nat.le_refl _) hb) | have hB := hb); obtain ⟨hc, hf, hz⟩ := after hB; (try (have hq := after hM; obtain ⟨hcM, hfM, hzM⟩ := hq)); (try (have hq := after hN; obtain ⟨hcN, hfN, hzN⟩ := hq)); have hs := hb.size; (try simp at hz); (try simp at hs); (try clear q0_0); have q0_0 := hc (w.heap.size) 0 (by simp [go_sem]); simp [go_sem] at q0_0; (try clear q0_1); have q0_1 := hc (w.heap.size) 1 (by simp [go_sem]); simp [go_sem] at q0_1; (try clear q1_0); have q1_0 := hc (w.heap.size + 1) 0 (by simp [go_sem]); simp [go_sem] at q1_0; (try clear q1_1); have q1_1 := hc (w.heap.size + 1) 1 (by simp [go_sem]); simp [go_sem] at q1_1; (try clear q2_0); have q2_0 := hc (w.heap.size + 1 + 1) 0 (by simp [go_sem]); simp [go_sem] at q2_0; (try clear q2_1); have q2_1 := hc (w.heap.size + 1 + 1) 1 (by simp [go_sem]); simp [go_sem] at q2_1; (try clear q2_2); have q2_2 := hc (w.heap.size + 1 + 1) 2 (by simp [go_sem]); simp [go_sem] at q2_2; (try clear q2_3); have q2_3 := hc (w.heap.size + 1 + 1) 3 (by simp [go_sem]); simp [go_sem] at q2_3) | (go_at_call 35; refine (inside_any _ _ _ _ _).mono ?_; rintro e w' ⟨rfl, hb⟩; (try clear hc hf); (try clear hcM hfM); (try clear hcN hfN); (first | ((first | replace hB := Below.next hB (Nat.le_refl _) hb | replace hB := Below.next1 hB (Nat.le_refl _) hb | replace hB := Below.next2 hB (Nat.le_refl _) hb); (first | replace hM := Below.next hM (Nat.le_refl _) hb | replace hM := Below.next1 hM (Nat.le_refl _) hb | replace hM := Below.next2 hM (Nat.le_refl _) hb); (first | replace hN := Below.next hN (Nat.le_refl _) hb | replace hN := Below.next1 hN (Nat.le_refl _) hb | replace hN := Below.next2 hN (Nat.le_refl _) hb)) | ((first | replace hB := Below.next hB (Nat.le_refl _) hb | replace hB := Below.next1 hB (Nat.le_refl _) hb | replace hB := Below.next2 hB (Nat.le_refl _) hb); (first | replace hM := Below.next hM (Nat.le_refl _) hb | replace hM := Below.next1 hM (Nat.le_refl _) hb | replace hM := Below.next2 hM (Nat.le_refl _) hb); have hN := Below.mid hb) | ((first | replace hB := Below.next hB (Nat.le_refl _) hb | replace hB := Below.next1 hB (Nat.le_refl _) hb | replace hB := Below.next2 hB (Nat.le_refl _) hb); (first | replace hM := Below.next hM (Nat.le_refl _) hb | replace hM := Below.next1 hM (Nat.le_refl _) hb | replace hM := Below.next2 hM (Nat.le_refl _) hb)) | ((first | replace hB := Below.next hB (Nat.le_refl _) hb | replace hB := Below.next1 hB (Nat.le_refl _) hb | replace hB := Below.next2 hB (Nat.le_refl _) hb); have hM := Below.mid hb) | (first | replace hB := Below.next hB (Nat.le_refl _) hb | replace hB := Below.next1 hB (Nat.le_refl _) hb | replace hB := Below.next2 hB (Nat.le_refl _) hb) | have hB := hb); obtain ⟨hc, hf, hz⟩ := after hB; (try (have hq := after hM; obtain ⟨hcM, hfM, hzM⟩ := hq)); (try (have hq := after hN; obtain ⟨hcN, hfN, hzN⟩ := hq)); have hs := hb.size; (try simp at hz); (try simp at hs); (try clear q0_0); have q0_0 := hc (w.heap.size) 0 (by simp [go_sem]); simp [go_sem] at q0_0; (try clear q0_1); have q0_1 := hc (w.heap.size) 1 (by simp [go_sem]); simp [go_sem] at q0_1; (try clear q1_0); have q1_0 := hc (w.heap.size + 1) 0 (by simp [go_sem]); simp [go_sem] at q1_0; (try clear q1_1); have q1_1 := hc (w.heap.size + 1) 1 (by simp [go_sem]); simp [go_sem] at q1_1; (try clear q2_0); have q2_0 := hc (w.heap.size + 1 + 1) 0 (by simp [go_sem]); simp [go_sem] at q2_0; (try clear q2_1); have q2_1 := hc (w.heap.size + 1 + 1) 1 (by simp [go_sem]); simp [go_sem] at q2_1; (try clear q2_2); have q2_2 := hc (w.heap.size + 1 + 1) 2 (by simp [go_sem]); simp [go_sem] at q2_2; (try clear q2_3); have q2_3 := hc (w.heap.size + 1 + 1) 3 (by simp [go_sem]); simp [go_sem] at q2_3))
  refine region_later_move 27 29 _ (.int .i64 0) (by kernel_rfl) (by kernel_rfl) rfl rfl rfl (fun _ _ _ h => h) ?_; simp only [List.take_succ_cons, List.take_zero, List.drop_succ_cons, List.drop_zero, Nat.reduceSub, Act.put, List.setIfInBounds_toArray, List.set_cons_succ, List.set_cons_zero]; (repeat (go_big_quiet_step ((first | (go_at_call 23; exact Calls.later (leg_any _ _ _)) | (go_at_call 25; exact Calls.later (line_any _ _ _)) | (go_at_call 27; exact Calls.later (off_any _ _ _)) | (go_at_call 29; exact Calls.later (impact_any _ _ _ _)) | (go_at_call 19; exact Calls.later (wicket_any _ _ _ _ _ _)))))); refine wpQuiet_nil ?_; rintro _ ⟨x, rfl⟩; obtain ⟨w', hb⟩ := x; (try clear hc hf); (try clear hcM hfM); (try clear hcN hfN); (first | ((first | replace hB := Below.next hB (Nat.le_refl _) hb | replace hB := Below.next1 hB (Nat.le_refl _) hb | replace hB := Below.next2 hB (Nat.le_refl _) hb); (first | replace hM := Below.next hM (Nat.le_refl _) hb | replace hM := Below.next1 hM (Nat.le_refl _) hb | replace hM := Below.next2 hM (Nat.le_refl _) hb); (first | replace hN := Below.next hN (Nat.le_refl _) hb | replace hN := Below.next1 hN (Nat.le_refl _) hb | replace hN := Below.next2 hN (Nat.le_refl _) hb)) | ((first | replace hB := Below.next hB (Nat.le_refl _) hb | replace hB := Below.next1 hB (Nat.le_refl _) hb | replace hB := Below.next2 hB (Nat.le_refl _) hb); (first | replace hM := Below.next hM (Nat.le_refl _) hb | replace hM := Below.next1 hM (Nat.le_refl _) hb | replace hM := Below.next2 hM (Nat.le_refl _) hb); have hN := Below.mid hb) | ((first | replace hB := Below.next hB (Nat.le_refl _) hb | replace hB := Below.next1 hB (Nat.le_refl _) hb | replace hB := Below.next2 hB (Nat.le_refl _) hb); (first | replace hM := Below.next hM (Nat.le_refl _) hb | replace hM := Below.next1 hM (Nat.le_refl _) hb | replace hM := Below.next2 hM (Nat.le_refl _) hb)) | ((first | replace hB := Below.next hB (Nat.le_refl _) hb | replace hB := Below.next1 hB (Nat.le_refl _) hb | replace hB := Below.next2 hB (Nat.le_refl _) hb); have hM := Below.mid hb) | (first | replace hB := Below.next hB (Nat.le_refl _) hb | replace hB := Below.next1 hB (Nat.le_refl _) hb | replace hB := Below.next2 hB (Nat.le_refl _) hb) | have hB := hb); obtain ⟨hc, hf, hz⟩ := after hB; (try (have hq := after hM; obtain ⟨hcM, hfM, hzM⟩ := hq)); (try (have hq := after hN; obtain ⟨hcN, hfN, hzN⟩ := hq)); have hs := hb.size; (try simp at hz); (try simp at hs); (try clear q0_0); have q0_0 := hc (w.heap.size) 0 (by simp [go_sem]); simp [go_sem] at q0_0; (try clear q0_1); have q0_1 := hc (w.heap.size) 1 (by simp [go_sem]); simp [go_sem] at q0_1; (try clear q1_0); have q1_0 := hc (w.heap.size + 1) 0 (by simp [go_sem]); simp [go_sem] at q1_0; (try clear q1_1); have q1_1 := hc (w.heap.size + 1) 1 (by simp [go_sem]); simp [go_sem] at q1_1; (try clear q2_0); have q2_0 := hc (w.heap.size + 1 + 1) 0 (by simp [go_sem]); simp [go_sem] at q2_0; (try clear q2_1); have q2_1 := hc (w.heap.size + 1 + 1) 1 (by simp [go_sem]); simp [go_sem] at q2_1; (try clear q2_2); have q2_2 := hc (w.heap.size + 1 + 1) 2 (by simp [go_sem]); simp [go_sem] at q2_2; (try clear q2_3); have q2_3 := hc (w.heap.size + 1 + 1) 3 (by simp [go_sem]); simp [go_sem] at q2_3
  go_wp2_with fail
  simp only [hx0, hy0, hx1, hy1, hx2, hy2, hx3, hy3, hx4, hy4]
  clear hx0 hy0 hx1 hy1 hx2 hy2 hx3 hy3 hx4 hy4 f1 f2 f3 f4 m1 m2
  (try clear hc hf); (try clear hcM hfM); (try clear hcN hfN)
  go_loopw [90] (fun i wr => ∃ k : Nat, k ≤ 5 ∧ i = .int .i64 k ∧ wr.cell? ⟨w'.heap.size, 0, none⟩ = some (.int .u8 x0) ∧ wr.cell? ⟨w'.heap.size, 1, none⟩ = some (.int .u8 y0) ∧ wr.cell? ⟨w'.heap.size, 2, none⟩ = some (.int .u8 x1) ∧ wr.cell? ⟨w'.heap.size, 3, none⟩ = some (.int .u8 y1) ∧ wr.cell? ⟨w'.heap.size, 4, none⟩ = some (.int .u8 x2) ∧ wr.cell? ⟨w'.heap.size, 5, none⟩ = some (.int .u8 y2) ∧ wr.cell? ⟨w'.heap.size, 6, none⟩ = some (.int .u8 x3) ∧ wr.cell? ⟨w'.heap.size, 7, none⟩ = some (.int .u8 y3) ∧ wr.cell? ⟨w'.heap.size, 8, none⟩ = some (.int .u8 x4) ∧ wr.cell? ⟨w'.heap.size, 9, none⟩ = some (.int .u8 y4) ∧ w'.heap.size < wr.heap.size ∧ Below w.heap.size w wr) (fun i _ => 5 - (intOf i).toNat)
  case atStart => exact ⟨0, by omega, rfl, by simp [go_sem], by simp [go_sem], by simp [go_sem], by simp [go_sem], by simp [go_sem], by simp [go_sem], by simp [go_sem], by simp [go_sem], by simp [go_sem], by simp [go_sem], by simp, (by repeat (first | exact Below.refl _ _ | assumption | refine Below.drew ?_ | refine Below.alloc ?_ (by first | omega | (simp; omega) | simp) _ | refine Below.setCell ?_ (by first | omega | (simp; omega) | simp) _ | refine Below.trans ?_ (Below.mono (by assumption) (by first | omega | (simp; omega) | simp))))⟩
  case round =>
    obtain ⟨k, hk, rfl, r0, r1, r2, r3, r4, r5, r6, r7, r8, r9, hsz, hbel⟩ := hrel
    obtain rfl | rfl | rfl | rfl | rfl | rfl : k = 0 ∨ k = 1 ∨ k = 2 ∨ k = 3 ∨ k = 4 ∨ k = 5 := by omega
    · rcases G0.out with h3 | h3
      all_goals
        subst h3
        go_wp2_with fail
        all_goals
          go_roundw
          case rel => first | exact ⟨1, by omega, rfl, by simp [go_sem, r0], by simp [go_sem, r1], by simp [go_sem, r2], by simp [go_sem, r3], by simp [go_sem, r4], by simp [go_sem, r5], by simp [go_sem, r6], by simp [go_sem, r7], by simp [go_sem, r8], by simp [go_sem, r9], by simp; omega, (by repeat (first | exact Below.refl _ _ | assumption | refine Below.drew ?_ | refine Below.alloc ?_ (by first | omega | (simp; omega) | simp) _ | refine Below.setCell ?_ (by first | omega | (simp; omega) | simp) _ | refine Below.trans ?_ (Below.mono (by assumption) (by first | omega | (simp; omega) | simp))))⟩ | exact ⟨_, _, _, ⟨1, by omega, rfl, (by repeat (first | exact Below.refl _ _ | assumption | refine Below.drew ?_ | refine Below.alloc ?_ (by first | omega | (simp; omega) | simp) _ | refine Below.setCell ?_ (by first | omega | (simp; omega) | simp) _ | refine Below.trans ?_ (Below.mono (by assumption) (by first | omega | (simp; omega) | simp))))⟩, rfl, rfl, rfl⟩
          case measure => simp [intOf]
    · rcases G1.out with h3 | h3
      all_goals
        subst h3
        go_wp2_with fail
        all_goals
          go_roundw
          case rel => first | exact ⟨2, by omega, rfl, by simp [go_sem, r0], by simp [go_sem, r1], by simp [go_sem, r2], by simp [go_sem, r3], by simp [go_sem, r4], by simp [go_sem, r5], by simp [go_sem, r6], by simp [go_sem, r7], by simp [go_sem, r8], by simp [go_sem, r9], by simp; omega, (by repeat (first | exact Below.refl _ _ | assumption | refine Below.drew ?_ | refine Below.alloc ?_ (by first | omega | (simp; omega) | simp) _ | refine Below.setCell ?_ (by first | omega | (simp; omega) | simp) _ | refine Below.trans ?_ (Below.mono (by assumption) (by first | omega | (simp; omega) | simp))))⟩ | exact ⟨_, _, _, ⟨2, by omega, rfl, (by repeat (first | exact Below.refl _ _ | assumption | refine Below.drew ?_ | refine Below.alloc ?_ (by first | omega | (simp; omega) | simp) _ | refine Below.setCell ?_ (by first | omega | (simp; omega) | simp) _ | refine Below.trans ?_ (Below.mono (by assumption) (by first | omega | (simp; omega) | simp))))⟩, rfl, rfl, rfl⟩
          case measure => simp [intOf]
    · rcases G2.out with h3 | h3
      all_goals
        subst h3
        go_wp2_with fail
        all_goals
          go_roundw
          case rel => first | exact ⟨3, by omega, rfl, by simp [go_sem, r0], by simp [go_sem, r1], by simp [go_sem, r2], by simp [go_sem, r3], by simp [go_sem, r4], by simp [go_sem, r5], by simp [go_sem, r6], by simp [go_sem, r7], by simp [go_sem, r8], by simp [go_sem, r9], by simp; omega, (by repeat (first | exact Below.refl _ _ | assumption | refine Below.drew ?_ | refine Below.alloc ?_ (by first | omega | (simp; omega) | simp) _ | refine Below.setCell ?_ (by first | omega | (simp; omega) | simp) _ | refine Below.trans ?_ (Below.mono (by assumption) (by first | omega | (simp; omega) | simp))))⟩ | exact ⟨_, _, _, ⟨3, by omega, rfl, (by repeat (first | exact Below.refl _ _ | assumption | refine Below.drew ?_ | refine Below.alloc ?_ (by first | omega | (simp; omega) | simp) _ | refine Below.setCell ?_ (by first | omega | (simp; omega) | simp) _ | refine Below.trans ?_ (Below.mono (by assumption) (by first | omega | (simp; omega) | simp))))⟩, rfl, rfl, rfl⟩
          case measure => simp [intOf]
    · rcases G3.out with h3 | h3
      all_goals
        subst h3
        go_wp2_with fail
        all_goals
          go_roundw
          case rel => first | exact ⟨4, by omega, rfl, by simp [go_sem, r0], by simp [go_sem, r1], by simp [go_sem, r2], by simp [go_sem, r3], by simp [go_sem, r4], by simp [go_sem, r5], by simp [go_sem, r6], by simp [go_sem, r7], by simp [go_sem, r8], by simp [go_sem, r9], by simp; omega, (by repeat (first | exact Below.refl _ _ | assumption | refine Below.drew ?_ | refine Below.alloc ?_ (by first | omega | (simp; omega) | simp) _ | refine Below.setCell ?_ (by first | omega | (simp; omega) | simp) _ | refine Below.trans ?_ (Below.mono (by assumption) (by first | omega | (simp; omega) | simp))))⟩ | exact ⟨_, _, _, ⟨4, by omega, rfl, (by repeat (first | exact Below.refl _ _ | assumption | refine Below.drew ?_ | refine Below.alloc ?_ (by first | omega | (simp; omega) | simp) _ | refine Below.setCell ?_ (by first | omega | (simp; omega) | simp) _ | refine Below.trans ?_ (Below.mono (by assumption) (by first | omega | (simp; omega) | simp))))⟩, rfl, rfl, rfl⟩
          case measure => simp [intOf]
    · rcases G4.out with h3 | h3
      all_goals
        subst h3
        go_wp2_with fail
        all_goals
          go_roundw
          case rel => first | exact ⟨5, by omega, rfl, by simp [go_sem, r0], by simp [go_sem, r1], by simp [go_sem, r2], by simp [go_sem, r3], by simp [go_sem, r4], by simp [go_sem, r5], by simp [go_sem, r6], by simp [go_sem, r7], by simp [go_sem, r8], by simp [go_sem, r9], by simp; omega, (by repeat (first | exact Below.refl _ _ | assumption | refine Below.drew ?_ | refine Below.alloc ?_ (by first | omega | (simp; omega) | simp) _ | refine Below.setCell ?_ (by first | omega | (simp; omega) | simp) _ | refine Below.trans ?_ (Below.mono (by assumption) (by first | omega | (simp; omega) | simp))))⟩ | exact ⟨_, _, _, ⟨5, by omega, rfl, (by repeat (first | exact Below.refl _ _ | assumption | refine Below.drew ?_ | refine Below.alloc ?_ (by first | omega | (simp; omega) | simp) _ | refine Below.setCell ?_ (by first | omega | (simp; omega) | simp) _ | refine Below.trans ?_ (Below.mono (by assumption) (by first | omega | (simp; omega) | simp))))⟩, rfl, rfl, rfl⟩
          case measure => simp [intOf]
    · go_wp2_with fail
      go_ret
      exact ⟨rfl, hbel⟩
end Go.Proofs.Ytnlbfemlclepkaa
