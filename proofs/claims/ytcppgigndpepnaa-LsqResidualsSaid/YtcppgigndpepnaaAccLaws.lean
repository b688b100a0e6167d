/-
  The walks of the statements on lines that are accepted.
  Conditions: none.
-/
import Derived.Test.YtcppgigndpepnaaAcc2
import Derived.Test.YtcppgigndpepnaaLsqLaws
import Derived.Deep.RegionWith
namespace Go.Proofs.Ytcppgigndpepnaa
open Go.RowKit
theorem accB_best {ps : List PT} (h : ptsE ps = 0) (hd : fD ps ≠ 0) : accB (fA ps) (fB ps) (fD ps) ps = true := by
  unfold accB
  rw [h, line_ok h hd, best_dev, best_mom]
  rfl
/-- A positive number, of which the walk's own rules know that it is positive. -/
def posI (n : Nat) : Int := (n : Int) + 1
theorem posI_pos (n : Nat) : (0 < posI n) = True := eq_true (by unfold posI; omega)
theorem posI_gt (n : Nat) : (posI n > 0) = True := posI_pos n
attribute [go_sem] posI_pos posI_gt
theorem posI_of {x : Int} (h : 0 < x) : ∃ n, x = posI n := ⟨(x - 1).toNat, by unfold posI; omega⟩
set_option maxRecDepth 100000 in
set_option maxHeartbeats 2000000 in
theorem lsqAccepts_walk (v : Value) (ps : List PT) (w : World) (h : Pts w v ps) : Calls Try.prog 13 #[v] w fun e w' => e = .returned (.bool true) ∧ Below w.heap.size w w' := by
  have h0 := h
  obtain ⟨pa, b, o, cap, rfl, g1, g2, g3, g4⟩ := h
  have hcap : cap ≤ 9223372036854775807 := by unfold maxLen at g3; omega
  clear g1 g4
  rcases Nat.lt_or_ge 200 ps.length with hlt | hge
  · go_enter Try.func13, Try.ntmps13
    go_wp2_with (go_at_call 17; refine (awake30_any _).mono ?_; rintro e w' ⟨rfl, hb⟩; (try clear hc hf); (try clear hcM hfM); (try clear hcN hfN); (first | ((first | replace hB := Below.next hB (Nat.le_refl _) hb | replace hB := Below.next1 hB (Nat.le_refl _) hb | replace hB := Below.next2 hB (Nat.le_refl _) hb); (first | replace hM := Below.next hM (Nat.le_refl _) hb | replace hM := Below.next1 hM (Nat.le_refl _) hb | replace hM := Below.next2 hM (Nat.le_refl _) hb); (first | replace hN := Below.next hN (Nat.le_refl _) hb | replace hN := Below.next1 hN (Nat.le_refl _) hb | replace hN := Below.next2 hN (Nat.le_refl _) hb)) | ((first | replace hB := Below.next hB (Nat.le_refl _) hb | replace hB := Below.next1 hB (Nat.le_refl _) hb | replace hB := Below.next2 hB (Nat.le_refl _) hb); (first | replace hM := Below.next hM (Nat.le_refl _) hb | replace hM := Below.next1 hM (Nat.le_refl _) hb | replace hM := Below.next2 hM (Nat.le_refl _) hb); have hN := Below.mid hb) | ((first | replace hB := Below.next hB (Nat.le_refl _) hb | replace hB := Below.next1 hB (Nat.le_refl _) hb | replace hB := Below.next2 hB (Nat.le_refl _) hb); (first | replace hM := Below.next hM (Nat.le_refl _) hb | replace hM := Below.next1 hM (Nat.le_refl _) hb | replace hM := Below.next2 hM (Nat.le_refl _) hb)) | ((first | replace hB := Below.next hB (Nat.le_refl _) hb | replace hB := Below.next1 hB (Nat.le_refl _) hb | replace hB := Below.next2 hB (Nat.le_refl _) hb); have hM := Below.mid hb) | (first | replace hB := Below.next hB (Nat.le_refl _) hb | replace hB := Below.next1 hB (Nat.le_refl _) hb | replace hB := Below.next2 hB (Nat.le_refl _) hb) | have hB := hb); obtain ⟨hc, hf, hz⟩ := after hB; (try (have hq := after hM; obtain ⟨hcM, hfM, hzM⟩ := hq)); (try (have hq := after hN; obtain ⟨hcN, hfN, hzN⟩ := hq)); have hs := hb.size; (try simp at hz); (try simp at hs))
    go_ret
    exact ⟨rfl, (by repeat (first | with_reducible exact Below.refl _ _ | with_reducible assumption | with_reducible refine Below.drew ?_ | with_reducible refine Below.setCell ?_ (by first | omega | (simp; omega) | simp) _ | with_reducible refine Below.alloc ?_ (by first | omega | (simp; omega) | simp) _ | with_reducible refine Below.trans ?_ (Below.mono (by with_reducible assumption) (by first | omega | (simp; omega) | simp))))⟩
  · by_cases hq : ptsE ps = 0 ∧ fD ps ≠ 0
    · obtain ⟨he, hd⟩ := hq
      have hl := fun v' w' (h : Pts w' v' ps) => line_any v' ps w' h
      simp only [lineV_ok he hd] at hl
      have ha := fun v' w' (h : Pts w' v' ps) => accept_any (fA ps) (fB ps) (fD ps) v' ps w' h
      simp only [accB_best he hd] at ha
      have hpos : 0 < fD ps := by have := fD_nonneg ps; omega
      have HL := Lib.hid hl
      have HA := Lib.hid ha
      clear hl ha he hd
      generalize fA ps = xa at *
      generalize fB ps = xb at *
      obtain ⟨n, hn⟩ := posI_of hpos
      rw [hn] at HL HA
      clear hpos hn
      go_enter Try.func13, Try.ntmps13
      go_wp2_with (first
        | (go_at_call 17; refine (awake30_any _).mono ?_; rintro e w' ⟨rfl, hb⟩; (try clear hc hf); (try clear hcM hfM); (try clear hcN hfN); (first | ((first | replace hB := Below.next hB (Nat.le_refl _) hb | replace hB := Below.next1 hB (Nat.le_refl _) hb | replace hB := Below.next2 hB (Nat.le_refl _) hb); (first | replace hM := Below.next hM (Nat.le_refl _) hb | replace hM := Below.next1 hM (Nat.le_refl _) hb | replace hM := Below.next2 hM (Nat.le_refl _) hb); (first | replace hN := Below.next hN (Nat.le_refl _) hb | replace hN := Below.next1 hN (Nat.le_refl _) hb | replace hN := Below.next2 hN (Nat.le_refl _) hb)) | ((first | replace hB := Below.next hB (Nat.le_refl _) hb | replace hB := Below.next1 hB (Nat.le_refl _) hb | replace hB := Below.next2 hB (Nat.le_refl _) hb); (first | replace hM := Below.next hM (Nat.le_refl _) hb | replace hM := Below.next1 hM (Nat.le_refl _) hb | replace hM := Below.next2 hM (Nat.le_refl _) hb); have hN := Below.mid hb) | ((first | replace hB := Below.next hB (Nat.le_refl _) hb | replace hB := Below.next1 hB (Nat.le_refl _) hb | replace hB := Below.next2 hB (Nat.le_refl _) hb); (first | replace hM := Below.next hM (Nat.le_refl _) hb | replace hM := Below.next1 hM (Nat.le_refl _) hb | replace hM := Below.next2 hM (Nat.le_refl _) hb)) | ((first | replace hB := Below.next hB (Nat.le_refl _) hb | replace hB := Below.next1 hB (Nat.le_refl _) hb | replace hB := Below.next2 hB (Nat.le_refl _) hb); have hM := Below.mid hb) | (first | replace hB := Below.next hB (Nat.le_refl _) hb | replace hB := Below.next1 hB (Nat.le_refl _) hb | replace hB := Below.next2 hB (Nat.le_refl _) hb) | have hB := hb); obtain ⟨hc, hf, hz⟩ := after hB; (try (have hq := after hM; obtain ⟨hcM, hfM, hzM⟩ := hq)); (try (have hq := after hN; obtain ⟨hcN, hfN, hzN⟩ := hq)); have hs := hb.size; (try simp at hz); (try simp at hs))
        | (go_at_call_of 25 (pa); refine (of_any _ ps _ (h0.below hB) hge).mono ?_; rintro e w2 ⟨u, rfl, hp2, hb2⟩; have hK := Below.next hB (Nat.le_refl _) hb2)
        | (go_at_call 24; refine (HL.out _ _ hp2).mono ?_; rintro e w3 ⟨rfl, hb3⟩; replace hK := Below.next hK (Nat.le_refl _) hb3; have hs3 := hK.size))
      have hF := heap_new w3 (.cells #[.int .i64 xa, .int .i64 xb, .int .i64 (posI n)] 35) rfl
      have hK4 := hK.alloc hs3 (.cells #[.int .i64 xa, .int .i64 xb, .int .i64 (posI n)] 35)
      first
      | go_region_with (first
          | (go_at_call 25; refine (of_any _ ps _ (h0.below hK4.drew) hge).mono ?_; rintro e w5 ⟨u5, rfl, hp5, hb5⟩; have hK5 := Below.next hK4.drew (Nat.le_refl _) hb5; have hF5 := heap_old hb5 (heap_drew hF); have f0 := cell_heap (o := 0) hF5 rfl; have f1 := cell_heap (o := 1) hF5 rfl; have f2 := cell_heap (o := 2) hF5 rfl)
          | (go_at_call 43; refine (HA.out _ _ hp5).mono ?_; rintro e w6 ⟨rfl, hb6⟩; have hK6 := Below.next hK5 (Nat.le_refl _) hb6))
      | fail
      all_goals
        go_wp2_with fail
        go_ret
        exact ⟨rfl, hK6⟩
    · have hz : ∃ E, E ≠ 0 ∧ lineV ps = .tuple #[.agg #[.int .i64 0, .int .i64 0, .int .i64 0], .int .i64 E] := by
        by_cases he : ptsE ps = 0
        · have hd : fD ps = 0 := by
            rcases Classical.em (fD ps = 0) with h | h
            · exact h
            · exact absurd ⟨he, h⟩ hq
          exact ⟨14, by omega, lineV_s he hd⟩
        · exact ⟨_, he, lineV_e he⟩
      obtain ⟨E, hE0, hE⟩ := hz
      have hl := fun v' w' (h : Pts w' v' ps) => line_any v' ps w' h
      simp only [hE] at hl
      have HL := Lib.hid hl
      have hE1 : (E != 0) = true := by simpa using hE0
      clear hl hE hE0 hq
      go_enter Try.func13, Try.ntmps13
      go_wp2_with (first
        | (go_at_call 17; refine (awake30_any _).mono ?_; rintro e w' ⟨rfl, hb⟩; (try clear hc hf); (try clear hcM hfM); (try clear hcN hfN); (first | ((first | replace hB := Below.next hB (Nat.le_refl _) hb | replace hB := Below.next1 hB (Nat.le_refl _) hb | replace hB := Below.next2 hB (Nat.le_refl _) hb); (first | replace hM := Below.next hM (Nat.le_refl _) hb | replace hM := Below.next1 hM (Nat.le_refl _) hb | replace hM := Below.next2 hM (Nat.le_refl _) hb); (first | replace hN := Below.next hN (Nat.le_refl _) hb | replace hN := Below.next1 hN (Nat.le_refl _) hb | replace hN := Below.next2 hN (Nat.le_refl _) hb)) | ((first | replace hB := Below.next hB (Nat.le_refl _) hb | replace hB := Below.next1 hB (Nat.le_refl _) hb | replace hB := Below.next2 hB (Nat.le_refl _) hb); (first | replace hM := Below.next hM (Nat.le_refl _) hb | replace hM := Below.next1 hM (Nat.le_refl _) hb | replace hM := Below.next2 hM (Nat.le_refl _) hb); have hN := Below.mid hb) | ((first | replace hB := Below.next hB (Nat.le_refl _) hb | replace hB := Below.next1 hB (Nat.le_refl _) hb | replace hB := Below.next2 hB (Nat.le_refl _) hb); (first | replace hM := Below.next hM (Nat.le_refl _) hb | replace hM := Below.next1 hM (Nat.le_refl _) hb | replace hM := Below.next2 hM (Nat.le_refl _) hb)) | ((first | replace hB := Below.next hB (Nat.le_refl _) hb | replace hB := Below.next1 hB (Nat.le_refl _) hb | replace hB := Below.next2 hB (Nat.le_refl _) hb); have hM := Below.mid hb) | (first | replace hB := Below.next hB (Nat.le_refl _) hb | replace hB := Below.next1 hB (Nat.le_refl _) hb | replace hB := Below.next2 hB (Nat.le_refl _) hb) | have hB := hb); obtain ⟨hc, hf, hz⟩ := after hB; (try (have hq := after hM; obtain ⟨hcM, hfM, hzM⟩ := hq)); (try (have hq := after hN; obtain ⟨hcN, hfN, hzN⟩ := hq)); have hs := hb.size; (try simp at hz); (try simp at hs))
        | (go_at_call_of 25 (pa); refine (of_any _ ps _ (h0.below hB) hge).mono ?_; rintro e w2 ⟨u, rfl, hp2, hb2⟩; have hK := Below.next hB (Nat.le_refl _) hb2)
        | (go_at_call 24; refine (HL.out _ _ hp2).mono ?_; rintro e w3 ⟨rfl, hb3⟩; replace hK := Below.next hK (Nat.le_refl _) hb3; have hs3 := hK.size))
      have hl := @Later.cell
      refine region_later (by kernel_rfl) (by kernel_rfl) ?_; (repeat (go_big_quiet_step (fail))); refine wpQuiet_nil ?_; rintro _ ⟨x, rfl⟩; obtain ⟨w', hb⟩ := x; (try clear hc hf); (try clear hcM hfM); (try clear hcN hfN); (first | ((first | replace hB := Below.next hB (Nat.le_refl _) hb | replace hB := Below.next1 hB (Nat.le_refl _) hb | replace hB := Below.next2 hB (Nat.le_refl _) hb); (first | replace hM := Below.next hM (Nat.le_refl _) hb | replace hM := Below.next1 hM (Nat.le_refl _) hb | replace hM := Below.next2 hM (Nat.le_refl _) hb); (first | replace hN := Below.next hN (Nat.le_refl _) hb | replace hN := Below.next1 hN (Nat.le_refl _) hb | replace hN := Below.next2 hN (Nat.le_refl _) hb)) | ((first | replace hB := Below.next hB (Nat.le_refl _) hb | replace hB := Below.next1 hB (Nat.le_refl _) hb | replace hB := Below.next2 hB (Nat.le_refl _) hb); (first | replace hM := Below.next hM (Nat.le_refl _) hb | replace hM := Below.next1 hM (Nat.le_refl _) hb | replace hM := Below.next2 hM (Nat.le_refl _) hb); have hN := Below.mid hb) | ((first | replace hB := Below.next hB (Nat.le_refl _) hb | replace hB := Below.next1 hB (Nat.le_refl _) hb | replace hB := Below.next2 hB (Nat.le_refl _) hb); (first | replace hM := Below.next hM (Nat.le_refl _) hb | replace hM := Below.next1 hM (Nat.le_refl _) hb | replace hM := Below.next2 hM (Nat.le_refl _) hb)) | ((first | replace hB := Below.next hB (Nat.le_refl _) hb | replace hB := Below.next1 hB (Nat.le_refl _) hb | replace hB := Below.next2 hB (Nat.le_refl _) hb); have hM := Below.mid hb) | (first | replace hB := Below.next hB (Nat.le_refl _) hb | replace hB := Below.next1 hB (Nat.le_refl _) hb | replace hB := Below.next2 hB (Nat.le_refl _) hb) | have hB := hb); obtain ⟨hc, hf, hz⟩ := after hB; (try (have hq := after hM; obtain ⟨hcM, hfM, hzM⟩ := hq)); (try (have hq := after hN; obtain ⟨hcN, hfN, hzN⟩ := hq)); have hs := hb.size; (try simp at hz); (try simp at hs)
      have hK5 := Below.next (hK.alloc hs3 _) (Nat.le_refl _) hb
      go_wp2_with fail
      go_ret
      exact ⟨rfl, hK5⟩
end Go.Proofs.Ytcppgigndpepnaa
