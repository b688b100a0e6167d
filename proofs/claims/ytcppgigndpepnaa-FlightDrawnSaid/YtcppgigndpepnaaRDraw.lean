/-
  Contract of the reference's Draw.
  Conditions: none.
-/
import Derived.Test.YtcppgigndpepnaaDraw
namespace Go.Proofs.Ytcppgigndpepnaa
open Go.RowKit
set_option maxRecDepth 100000 in
set_option maxHeartbeats 4000000 in
theorem rdraw_any (a1 b1 d1 a2 b2 d2 a3 b3 d3 : Int) (a b s : Int) (w : World) : Calls Try.prog 38 #[.agg #[.int .i64 a1, .int .i64 b1, .int .i64 d1, .int .i64 a2, .int .i64 b2, .int .i64 d2, .int .i64 a3, .int .i64 b3, .int .i64 d3], .int .i64 a, .int .i64 b, .int .i64 s] w fun e w' => (∃ u, e = .returned (.tuple #[u, .int .i64 (drawE a1 b1 d1 a2 b2 d2 a3 b3 d3 a b s)]) ∧ Seens w' u (drawL a1 b1 d1 a2 b2 d2 a3 b3 d3 a b s)) ∧ Below w.heap.size w w' := by
  obtain ⟨i0, hi0, hz0, hz1, hz2⟩ := info_parts (P := Try.prog) (e := 62) (z := zeroS) (size := 5) (bytes := 40) (by kernel_rfl)
  by_cases g1 : a < 0 ∨ 8000 < b
  · have e1 : drawE a1 b1 d1 a2 b2 d2 a3 b3 d3 a b s = 2 := by unfold drawE; rw [if_pos g1]
    have e2 : drawL a1 b1 d1 a2 b2 d2 a3 b3 d3 a b s = [] := by unfold drawL; rw [e1]; rfl
    rw [e1, e2]
    clear e1 e2
    go_enter Try.func38, Try.ntmps38
    go_wp2_with fail
    all_goals first
      | (go_ret2; exact ⟨⟨_, rfl, seens_nil _⟩, (by repeat (first | with_reducible exact Below.refl _ _ | with_reducible assumption | with_reducible refine Below.drew ?_ | with_reducible refine Below.setCell ?_ (by first | omega | (simp; omega) | simp) _ | with_reducible refine Below.alloc ?_ (by first | omega | (simp; omega) | simp) _ | with_reducible refine Below.trans ?_ (Below.mono (by with_reducible assumption) (by first | omega | (simp; omega) | simp))))⟩)
      | (exfalso; omega)
  obtain ⟨g2, g3⟩ : 0 ≤ a ∧ b ≤ 8000 := by omega
  by_cases g4 : s < 1 ∨ b < a
  · have e1 : drawE a1 b1 d1 a2 b2 d2 a3 b3 d3 a b s = 1 := by unfold drawE; rw [if_neg g1, if_pos g4]
    have e2 : drawL a1 b1 d1 a2 b2 d2 a3 b3 d3 a b s = [] := by unfold drawL; rw [e1]; rfl
    rw [e1, e2]
    clear e1 e2
    go_enter Try.func38, Try.ntmps38
    go_wp2_with fail
    all_goals first
      | (go_ret2; exact ⟨⟨_, rfl, seens_nil _⟩, (by repeat (first | with_reducible exact Below.refl _ _ | with_reducible assumption | with_reducible refine Below.drew ?_ | with_reducible refine Below.setCell ?_ (by first | omega | (simp; omega) | simp) _ | with_reducible refine Below.alloc ?_ (by first | omega | (simp; omega) | simp) _ | with_reducible refine Below.trans ?_ (Below.mono (by with_reducible assumption) (by first | omega | (simp; omega) | simp))))⟩)
      | (exfalso; omega)
  obtain ⟨g5, g6⟩ : 1 ≤ s ∧ a ≤ b := by omega
  have hq : (b - a).tdiv s = (b - a) / s := Int.tdiv_eq_ediv_of_nonneg (by omega)
  have hq1 : 0 ≤ (b - a) / s := Int.ediv_nonneg (by omega) (by omega)
  have hq2 : (b - a) / s ≤ b - a := Int.ediv_le_self _ (by omega)
  by_cases g7 : 64 < (b - a) / s + 1
  · have e1 : drawE a1 b1 d1 a2 b2 d2 a3 b3 d3 a b s = 9 := by unfold drawE; rw [if_neg g1, if_neg g4, if_pos g7]
    have e2 : drawL a1 b1 d1 a2 b2 d2 a3 b3 d3 a b s = [] := by unfold drawL; rw [e1]; rfl
    rw [e1, e2]
    clear e1 e2
    go_enter Try.func38, Try.ntmps38
    go_wp2_with fail
    go_ret2
    exact ⟨⟨_, rfl, seens_nil _⟩, (by repeat (first | with_reducible exact Below.refl _ _ | with_reducible assumption | with_reducible refine Below.drew ?_ | with_reducible refine Below.setCell ?_ (by first | omega | (simp; omega) | simp) _ | with_reducible refine Below.alloc ?_ (by first | omega | (simp; omega) | simp) _ | with_reducible refine Below.trans ?_ (Below.mono (by with_reducible assumption) (by first | omega | (simp; omega) | simp))))⟩
  · have g8 : (b - a) / s ≤ 63 := by omega
    by_cases hok : allOk a1 b1 d1 a2 b2 d2 a3 b3 d3 = true
    · have e1 : drawE a1 b1 d1 a2 b2 d2 a3 b3 d3 a b s = 0 := by unfold drawE; rw [if_neg g1, if_neg g4, if_neg g7, if_pos hok]
      have e2 : drawL a1 b1 d1 a2 b2 d2 a3 b3 d3 a b s = (List.range (gapsN a b s + 1)).map fun (k : Nat) => seenV a1 b1 d1 a2 b2 d2 a3 b3 d3 (a + k * s) := by unfold drawL; rw [e1]; rfl
      have hP : ∀ t, 0 ≤ t → t ≤ 8000 → ∀ w, Calls Try.prog 35 #[.agg #[.int .i64 a1, .int .i64 b1, .int .i64 d1, .int .i64 a2, .int .i64 b2, .int .i64 d2, .int .i64 a3, .int .i64 b3, .int .i64 d3], .int .i64 t] w fun e w' => e = .returned (.tuple #[.int .i64 (seenV a1 b1 d1 a2 b2 d2 a3 b3 d3 t).2.1, .int .i64 (seenV a1 b1 d1 a2 b2 d2 a3 b3 d3 t).2.2.1, .int .i64 (seenV a1 b1 d1 a2 b2 d2 a3 b3 d3 t).2.2.2.1, .int .i64 0]) ∧ Below w.heap.size w w' := by
        intro t h1 h2 w
        have h := rplace_any a1 b1 d1 a2 b2 d2 a3 b3 d3 t w
        have he : plE a1 b1 d1 a2 b2 d2 a3 b3 d3 t = 0 := by rw [plE_in h1 h2, if_pos hok]
        unfold plV at h
        rw [if_pos he] at h
        exact h
      rw [e1, e2]
      have hsv : ∀ t, seenV a1 b1 d1 a2 b2 d2 a3 b3 d3 t = (t, (seenV a1 b1 d1 a2 b2 d2 a3 b3 d3 t).2.1, (seenV a1 b1 d1 a2 b2 d2 a3 b3 d3 t).2.2.1, (seenV a1 b1 d1 a2 b2 d2 a3 b3 d3 t).2.2.2.1, 0) := fun t => rfl
      obtain ⟨q, hqq⟩ : ∃ q : Nat, gapsN a b s = q := ⟨_, rfl⟩
      have hqI : (b - a) / s = q := by rw [← hqq]; unfold gapsN; omega
      have hst : ∀ k : Nat, k ≤ q → 0 ≤ (k : Int) * s ∧ a + k * s ≤ b := fun k hk => step_bd g5 g6 (by rw [hqq]; exact hk)
      have hPP := Lib.hid hP
      have hSV := Lib.hid hsv
      have hST := Lib.hid hst
      rw [hqq]
      rw [hqI] at hq g8
      clear hP hsv hst e1 e2 hok hqq g1 g4 g7 hq1 hq2 hqI
      have hLat : ∀ k, k < q + 1 → ((List.range (q + 1)).map fun (k : Nat) => seenV a1 b1 d1 a2 b2 d2 a3 b3 d3 (a + k * s))[k]? = some (seenV a1 b1 d1 a2 b2 d2 a3 b3 d3 (a + k * s)) := fun k hk => by simp [hk]
      have hLl : ((List.range (q + 1)).map fun (k : Nat) => seenV a1 b1 d1 a2 b2 d2 a3 b3 d3 (a + k * s)).length = q + 1 := by simp
      have hLH := Lib.hid hLat
      clear hLat
      generalize ((List.range (q + 1)).map fun (k : Nat) => seenV a1 b1 d1 a2 b2 d2 a3 b3 d3 (a + k * s)) = L at *
      generalize seenV a1 b1 d1 a2 b2 d2 a3 b3 d3 = sv at *
      go_enter Try.func38, Try.ntmps38
      go_wp2_with fail
      trace_state
      go_loopw [10, 11] (fun u x wr => ∃ k : Nat, k ≤ q + 1 ∧ x = .int .i64 k ∧ Below w.heap.size w wr ∧ wr.heap[w.heap.size]? = some (.cells #[.int .i64 a1, .int .i64 b1, .int .i64 d1, .int .i64 a2, .int .i64 b2, .int .i64 d2, .int .i64 a3, .int .i64 b3, .int .i64 d3] 48 (0, 0)) ∧ wr.ownsRow (w.heap.size + 1) 62 5 u (L.take k).length ((L.take k).flatMap cells5)) (fun _ x _ => q + 1 - (intOf x).toNat)
      case atStart => exact ⟨0, by omega, rfl, (by repeat (first | with_reducible exact Below.refl _ _ | with_reducible assumption | with_reducible refine Below.drew ?_ | with_reducible refine Below.setCell ?_ (by first | omega | (simp; omega) | simp) _ | with_reducible refine Below.alloc ?_ (by first | omega | (simp; omega) | simp) _ | with_reducible refine Below.trans ?_ (Below.mono (by with_reducible assumption) (by first | omega | (simp; omega) | simp)))), heap_new _ _ rfl, by simpa using World.ownsRow_nil _ _ _ _⟩
      case round =>
        obtain ⟨k, hk, rfl, hb0, hF, hO⟩ := hrel
        have hlenk : (L.take k).length = k := by rw [List.length_take]; omega
        have hsz := hb0.size
        have hltF : w.heap.size < wr.heap.size := (Array.getElem?_eq_some_iff.1 hF).1
        rcases Nat.lt_or_ge k (q + 1) with hlt | hge
        · have hkq : (k : Int) ≤ q := by omega
          obtain ⟨t1, t2⟩ := hST.out k (by omega)
          have t3 : 0 ≤ a + k * s := by omega
          have t4 : a + k * s ≤ 8000 := by omega
          have hT : L.take (k + 1) = L.take k ++ [sv (a + k * s)] := by rw [List.take_add_one, hLH.out k hlt]; rfl
          have hTT := Lib.hid hT
          have hn : q + 1 - (k + 1) < q + 1 - k := by omega
          clear hT
          have f0 := cell_heap (o := 0) hF rfl
          have f1 := cell_heap (o := 1) hF rfl
          have f2 := cell_heap (o := 2) hF rfl
          have f3 := cell_heap (o := 3) hF rfl
          have f4 := cell_heap (o := 4) hF rfl
          have f5 := cell_heap (o := 5) hF rfl
          have f6 := cell_heap (o := 6) hF rfl
          have f7 := cell_heap (o := 7) hF rfl
          have f8 := cell_heap (o := 8) hF rfl
          generalize L.take k = P at *
          go_wp2_with (first
            | (go_at_call 35; refine (hPP.out _ t3 t4 _).mono ?_; rintro e w3 ⟨rfl, hb3⟩; have hO3 := own_below hO hb3; have hF3 := heap_old hb3 hF; have hB3 := Below.next hb0 (Nat.le_refl _) hb3; have hs3 := hb3.size)
            | (at_builtin; refine wpList_append_own _ rfl _ _ 46 rfl (w.heap.size + 1) 62 i0 zeroS 5 40 Try.underlying46 hi0 hz0 hz1 hz2 rfl (by decide) _ _ _ rfl (hO3.alloc _) ⟨w3.heap.size, 0, none⟩ 1 1 (cells5 (a + k * s, (sv (a + k * s)).2.1, (sv (a + k * s)).2.2.1, (sv (a + k * s)).2.2.2.1, 0)) rfl rfl ?_ (fun x hx => by simp [cells5] at hx; rcases hx with rfl | rfl | rfl | rfl | rfl <;> rfl) (by unfold maxLen; omega) (by omega) (by simp; omega) ?_; rotate_left; intro v' w5 ho5 hg5 hnil5))
          · have hc : cells5 (sv (a + k * s)) = cells5 (a + k * s, (sv (a + k * s)).2.1, (sv (a + k * s)).2.2.1, (sv (a + k * s)).2.2.2.1, 0) := by conv => lhs; rw [hSV.out]
            refine ⟨⟨k + 1, hlt, by simp, ?_, ?_, ?_⟩, by simpa [intOf] using hn⟩
            · exact (hB3.alloc (by omega) _).grown hg5 (by simp; omega) (fun q hq => by have := (hO3.lt q hq).1; omega)
            · exact grown_heap hg5 (heap_alloc hF3) (fun e => by have := (hO3.lt _ e.symm).1; omega)
            · rw [hTT.out, List.length_append, List.flatMap_append, List.flatMap_cons, List.flatMap_nil, List.append_nil, hc]
              exact ho5
          · exact cells_new _ _ _
        · obtain rfl : k = q + 1 := by omega
          have hdq : ¬((q : Int) + 1 ≤ q) := by omega
          rw [List.take_of_length_le (by omega)] at hO
          clear hlenk
          go_wp2_with fail
          go_ret2
          exact ⟨⟨_, rfl, seens_own hO⟩, hb0⟩
    · have e1 : drawE a1 b1 d1 a2 b2 d2 a3 b3 d3 a b s = 1 := by unfold drawE; rw [if_neg g1, if_neg g4, if_neg g7, if_neg hok]
      have e2 : drawL a1 b1 d1 a2 b2 d2 a3 b3 d3 a b s = [] := by unfold drawL; rw [e1]; rfl
      have hP : ∀ w, Calls Try.prog 35 #[.agg #[.int .i64 a1, .int .i64 b1, .int .i64 d1, .int .i64 a2, .int .i64 b2, .int .i64 d2, .int .i64 a3, .int .i64 b3, .int .i64 d3], .int .i64 a] w fun e w' => e = .returned (.tuple #[.int .i64 0, .int .i64 0, .int .i64 0, .int .i64 1]) ∧ Below w.heap.size w w' := by
        intro w
        have h := rplace_any a1 b1 d1 a2 b2 d2 a3 b3 d3 a w
        have he : plE a1 b1 d1 a2 b2 d2 a3 b3 d3 a = 1 := by rw [plE_in g2 (by omega), if_neg hok]
        unfold plV at h
        rw [he] at h
        exact h
      rw [e1, e2]
      have hPP := Lib.hid hP
      clear hP e1 e2 hok
      go_enter Try.func38, Try.ntmps38
      go_wp2_with fail
      refine wp_loop_rounds 1 ?_
      rw [rounds_succ]
      go_wp2_with (go_at_call 35; refine (hPP.out _).mono ?_; rintro e w3 ⟨rfl, hb3⟩; have hB3 := Below.next1 (Below.refl _ _) (Nat.le_refl _) hb3)
      go_ret2
      exact ⟨⟨_, rfl, seens_nil _⟩, hB3⟩
end Go.Proofs.Ytcppgigndpepnaa
