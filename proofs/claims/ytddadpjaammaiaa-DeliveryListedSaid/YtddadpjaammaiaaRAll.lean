/-
  Contract of the reference's All: the slice holds the list of all plain deliveries.
  Conditions: none.
-/
import Derived.Test.YtddadpjaammaiaaAll
import Derived.Test.YtddadpjaammaiaaDelivRef
namespace Go.Proofs.Ytddadpjaammaiaa
open Go.RowKit
def ballR (t s n : Int) : Nat → List PD
  | 0 => []
  | b + 1 => ballR t s n b ++ pick t s n b
theorem ballR_full (t s n : Int) : ballR t s n 7 = ballL t s n := by rw [← ballL_ref]; simp [ballR]
theorem ballR_bd (t s n : Int) (j : Nat) : (ballR t s n j).length ≤ j := by
  induction j with
  | zero => simp [ballR]
  | succ j ih => have := pick_bd t s n j; simp only [ballR, List.length_append]; omega

set_option maxHeartbeats 8000000 in
theorem rall_any (r : Int) (hr1 : -9223372036854775808 ≤ r) (hr2 : r ≤ 9223372036854775807) (w : World) : Calls Try.prog 15 #[.int .i64 r] w fun e w' => ∃ v, e = .returned v ∧ Held w w' v (allL (most r)) := by
  obtain ⟨i0, hi, hz0, hz1, hz2⟩ := info_parts (P := Try.prog) (e := 26) (z := zeroD) (size := 12) (bytes := 80) (by kernel_rfl)
  have hm := most_bd r
  have hq1 : ∀ q : Nat, ((q : Int) ≤ r ∧ (q : Int) ≤ 7 ↔ q < most r) := fun q => by unfold most; split <;> omega
  generalize most r = m at *
  go_enter Try.func15, Try.ntmps15
  go_wp2_with fail
  go_loopw [3, 4] (fun v t wr => ∃ k : Nat, k ≤ 3 ∧ t = .int .u8 ((k : Int) + 1) ∧ Held w wr v (tyL m k)) (fun _ t _ => 4 - (intOf t).toNat)
  case atStart => exact ⟨0, by omega, rfl, Held.nil _⟩
  case round =>
    obtain ⟨k, hk, rfl, hH⟩ := hrel
    go_wp2_with fail
    · have g1 : (k : Int) + 1 ≤ 3 := by omega
      simp only [g1, decide_true]
      go_loopw [3, 5] (fun v s wr => ∃ l : Nat, l ≤ 4 ∧ s = .int .u8 l ∧ Held w wr v (tyL m k ++ srcL ((k : Int) + 1) m l)) (fun _ s _ => 5 - (intOf s).toNat)
      case atStart => exact ⟨0, by omega, rfl, by simpa [srcL] using hH⟩
      case round =>
        obtain ⟨l, hl, rfl, hH2⟩ := hrel
        go_wp2_with fail
        · have g2 : (l : Int) ≤ 3 := by omega
          simp only [g2, decide_true]
          go_loopw [3, 6] (fun v n wr => ∃ q : Nat, q ≤ m ∧ n = .int .i64 q ∧ Held w wr v (tyL m k ++ srcL ((k : Int) + 1) m l ++ runsL ((k : Int) + 1) l q)) (fun _ n _ => 9 - (intOf n).toNat)
          case atStart => exact ⟨0, by omega, rfl, by simpa [runsL] using hH2⟩
          case round =>
            obtain ⟨q, hq, rfl, hH3⟩ := hrel
            go_wp2_with fail
            · have hPl : (tyL m k ++ srcL ((k : Int) + 1) m l ++ runsL ((k : Int) + 1) l q).length ≤ 500 := by
                have h1 := tyL_bd m k
                have h2 := srcL_bd ((k : Int) + 1) m l
                have h3 := runsL_bd ((k : Int) + 1) l q
                have h4 : 12 * m * k ≤ 12 * 8 * 3 := Nat.mul_le_mul (by omega) hk
                have h5 : 3 * m * l ≤ 3 * 8 * 4 := Nat.mul_le_mul (by omega) hl
                simp only [List.length_append]
                omega
              generalize hP : tyL m k ++ srcL ((k : Int) + 1) m l ++ runsL ((k : Int) + 1) l q = P at hH3 hPl
              have g3 : (q : Int) ≤ r := by omega
              have g4 : (q : Int) ≤ 7 := by omega
              have g5 : q < m := by have := hq1 q; omega
              simp only [g4, decide_true]
              go_loopw [3, 7] (fun v x wx => ∃ j : Nat, j ≤ 7 ∧ x = .int .i64 j ∧ Held w wx v (P ++ ballR ((k : Int) + 1) l q j)) (fun _ x _ => 8 - (intOf x).toNat)
              case atStart => exact ⟨0, by omega, rfl, by simpa [ballR] using hH3⟩
              case round =>
                obtain ⟨j, hj, rfl, hH4⟩ := hrel
                rcases Nat.lt_or_ge j 7 with hj7 | hj7
                · have hlen : (P ++ ballR ((k : Int) + 1) l q j).length ≤ 507 := by have := ballR_bd ((k : Int) + 1) l q j; rw [List.length_append]; omega
                  go_wp2_with (first
                    | (at_builtin; refine wpList_append_own _ rfl _ _ 32 rfl w.heap.size 26 i0 zeroD 12 80 Try.underlying32 hi hz0 hz1 hz2 rfl (by decide) _ _ _ rfl (hH5.1.alloc _) ⟨w2.heap.size, 0, none⟩ 1 1 (cellsD (((k : Int) + 1), (l : Int), (q : Int), (j : Int))) rfl rfl (cells_new _ _ _) (fun x hx => by simp [cellsD] at hx; rcases hx with rfl | rfl | rfl | rfl | rfl | rfl | rfl | rfl | rfl | rfl | rfl | rfl <;> rfl) (by unfold maxLen; omega) (by omega) (by have := hH5.2.size; simp; omega) ?_; intro v' w3 hown' hgrow3 hnil3)
                    | (go_at_call 11; refine (rlegal_any _ _ _ _ _ _ _ _ _ _ _ _ _ (by omega)).mono ?_; rintro e w2 ⟨rfl, hbL⟩; have hd := heap_old hbL (heap_new _ _ rfl); have hH5 := (hH4.below (Below.alloc (Below.refl _ _) (by omega) _)).below hbL;
                       have d0 := cell_heap (o := 0) hd rfl; have d1 := cell_heap (o := 1) hd rfl; have d2 := cell_heap (o := 2) hd rfl; have d3 := cell_heap (o := 3) hd rfl; have d4 := cell_heap (o := 4) hd rfl; have d5 := cell_heap (o := 5) hd rfl; have d6 := cell_heap (o := 6) hd rfl; have d7 := cell_heap (o := 7) hd rfl; have d8 := cell_heap (o := 8) hd rfl; have d9 := cell_heap (o := 9) hd rfl; have d10 := cell_heap (o := 10) hd rfl; have d11 := cell_heap (o := 11) hd rfl))
                  · have hk1 := pick_yes (t := (k : Int) + 1) (s := l) (n := q) (b := j) (by assumption)
                    refine ⟨⟨j + 1, by omega, ?_, ?_⟩, by simp [intOf]; omega⟩
                    · first | rfl | simp
                    · have e : P ++ ballR ((k : Int) + 1) l q (j + 1) = (P ++ ballR ((k : Int) + 1) l q j) ++ [((k : Int) + 1, (l : Int), (q : Int), (j : Int))] := by simp [ballR, hk1]
                      rw [e]
                      exact Held.push hown' ((hH5.2.alloc hH5.2.size _).grown hgrow3 (by have := hH5.2.size; simp; omega) (fun q hq => (hH5.1.lt q hq).1))
                  · have hk1 := pick_none (t := (k : Int) + 1) (s := l) (n := q) (b := j) (by assumption)
                    refine ⟨⟨j + 1, by omega, ?_, ?_⟩, by simp [intOf]; omega⟩
                    · first | rfl | simp
                    · have e : P ++ ballR ((k : Int) + 1) l q (j + 1) = P ++ ballR ((k : Int) + 1) l q j := by simp [ballR, hk1]
                      rw [e]
                      exact hH5
                · have : j = 7 := by omega
                  subst this
                  go_wp2_with fail
                  refine ⟨⟨q + 1, by omega, by simp, ?_⟩, by simp [intOf]; omega⟩
                  simpa [runsL, ballR_full, ← hP, List.append_assoc] using hH4
            · have : q = m := by have := hq1 q; omega
              subst this
              exact ⟨⟨l + 1, by omega, by simp, by simpa [srcL, List.append_assoc] using hH3⟩, by simp [intOf]; omega⟩
            · have : q = m := by have := hq1 q; omega
              subst this
              exact ⟨⟨l + 1, by omega, by simp, by simpa [srcL, List.append_assoc] using hH3⟩, by simp [intOf]; omega⟩
        · have : l = 4 := by omega
          subst this
          exact ⟨⟨k + 1, by omega, by simp, by simpa [tyL] using hH2⟩, by simp [intOf]; omega⟩
    · have : k = 3 := by omega
      subst this
      go_ret
      exact ⟨_, rfl, hH⟩
end Go.Proofs.Ytddadpjaammaiaa
