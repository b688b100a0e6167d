/-
  Contract of flow.Check.
  Conditions: none.
-/
import Derived.Test.YtajdfcliiefjgaaFlowMem
namespace Go.Proofs.Ytajdfcliiefjgaa
open Go.RowKit
set_option maxRecDepth 100000 in
set_option maxHeartbeats 4000000 in
theorem gcheck_size (n s t : Int) (v : Value) (es : List ED) (w : World) (h : Eds w v es) (c : n < 2 ∨ 64 < n) : Calls Try.prog 5 #[.agg #[.int .i64 n, .int .i64 s, .int .i64 t, v]] w fun e w' => e = .returned (.int .i64 2) ∧ Below w.heap.size w w' := by
  obtain ⟨pa, b, o, cap, rfl, h1, h2, h3, h4⟩ := h
  go_enter Try.func5, Try.ntmps5
  go_wp2_with fail
  all_goals (go_ret; exact ⟨rfl, (by repeat (first | with_reducible exact Below.refl _ _ | with_reducible assumption | with_reducible refine Below.drew ?_ | with_reducible refine Below.setCell ?_ (by first | omega | (simp; omega) | simp) _ | with_reducible refine Below.alloc ?_ (by first | omega | (simp; omega) | simp) _ | with_reducible refine Below.trans ?_ (Below.mono (by with_reducible assumption) (by first | omega | (simp; omega) | simp))))⟩)
set_option maxRecDepth 100000 in
set_option maxHeartbeats 4000000 in
theorem gcheck_node (n s t : Int) (v : Value) (es : List ED) (w : World) (h : Eds w v es) (c : ¬(n < 2 ∨ 64 < n)) (c2 : (nodeB n s && (nodeB n t && decide (s ≠ t))) = false) : Calls Try.prog 5 #[.agg #[.int .i64 n, .int .i64 s, .int .i64 t, v]] w fun e w' => e = .returned (.int .i64 1) ∧ Below w.heap.size w w' := by
  have hn1 := Lib.hid (fun v w => node_any n s t v s w)
  have hn2 := Lib.hid (fun v w => node_any n s t v t w)
  obtain ⟨pa, b, o, cap, rfl, h1, h2, h3, h4⟩ := h
  have a1 : 2 ≤ n := by omega
  have a2 : n ≤ 64 := by omega
  clear c
  have c3 : nodeB n s = true → nodeB n t = true → s = t := by
    intro q1 q2
    rw [q1, q2] at c2
    simpa using c2
  clear c2
  generalize nodeB n s = P at *
  generalize nodeB n t = Q at *
  cases P
  · clear c3
    go_enter Try.func5, Try.ntmps5
    go_wp2_with (first
      | (go_at_call 11; refine (hn1.out _ _).mono ?_; rintro e w1 ⟨rfl, hb1⟩; have hK := Below.next1 (Below.refl w.heap.size w) (Nat.le_refl _) hb1))
    go_ret
    exact ⟨rfl, hK⟩
  · cases Q
    · clear c3
      go_enter Try.func5, Try.ntmps5
      go_wp2_with (first
        | (go_at_call 11; have q := hK; clear q; refine (hn2.out _ _).mono ?_; rintro e w2 ⟨rfl, hb2⟩; replace hK := Below.next hK (Nat.le_refl _) hb2)
        | (go_at_call 11; refine (hn1.out _ _).mono ?_; rintro e w1 ⟨rfl, hb1⟩; have hG := heap_old hb1 (heap_new w (.cells #[.int .i64 n, .int .i64 s, .int .i64 t, .slice pa es.length cap] 24) rfl); have hK := Below.next1 (Below.refl w.heap.size w) (Nat.le_refl _) hb1; (have g0 := cell_heap (o := 0) hG rfl; have g1 := cell_heap (o := 1) hG rfl; have g2 := cell_heap (o := 2) hG rfl; have g3 := cell_heap (o := 3) hG rfl)))
      go_ret
      exact ⟨rfl, hK⟩
    · obtain rfl := c3 rfl rfl
      go_enter Try.func5, Try.ntmps5
      go_wp2_with (first
        | (go_at_call 11; have q := hK; clear q; refine (hn2.out _ _).mono ?_; rintro e w2 ⟨rfl, hb2⟩; replace hK := Below.next hK (Nat.le_refl _) hb2; replace hG := heap_old hb2 hG; (clear g0 g1 g2 g3); (have g0 := cell_heap (o := 0) hG rfl; have g1 := cell_heap (o := 1) hG rfl; have g2 := cell_heap (o := 2) hG rfl; have g3 := cell_heap (o := 3) hG rfl))
        | (go_at_call 11; refine (hn1.out _ _).mono ?_; rintro e w1 ⟨rfl, hb1⟩; have hG := heap_old hb1 (heap_new w (.cells #[.int .i64 n, .int .i64 s, .int .i64 s, .slice pa es.length cap] 24) rfl); have hK := Below.next1 (Below.refl w.heap.size w) (Nat.le_refl _) hb1; (have g0 := cell_heap (o := 0) hG rfl; have g1 := cell_heap (o := 1) hG rfl; have g2 := cell_heap (o := 2) hG rfl; have g3 := cell_heap (o := 3) hG rfl)))
      go_ret
      exact ⟨rfl, hK⟩
theorem chk_next {n : Int} {es : List ED} {i : Nat} {e : ED} {c : Int} (h : chkEs n (es.drop i) = c) (he : es[i]? = some e) : (if (nodeB n e.1 && (nodeB n e.2.1 && decide (e.1 ≠ e.2.1))) = false then 1 else if e.2.2 < 0 ∨ 1073741824 < e.2.2 then 2 else chkEs n (es.drop (i + 1))) = c := by
  have hi := (List.getElem?_eq_some_iff.1 he)
  obtain ⟨hi, e1⟩ := hi
  rw [List.drop_eq_getElem_cons hi, e1] at h
  exact h
set_option maxRecDepth 100000 in
set_option maxHeartbeats 8000000 in
theorem gcheck_edges (n s t : Int) (v : Value) (es : List ED) (w : World) (h : Eds w v es) (c : ¬(n < 2 ∨ 64 < n)) (c2 : ¬(nodeB n s && (nodeB n t && decide (s ≠ t))) = false) : Calls Try.prog 5 #[.agg #[.int .i64 n, .int .i64 s, .int .i64 t, v]] w fun e w' => e = .returned (.int .i64 (if 600 < es.length then 9 else chkEs n es)) ∧ Below w.heap.size w w' := by
  have hnn := Lib.hid (fun v x w => node_any n s t v x w)
  have hn1 := Lib.hid (fun v w => node_any n s t v s w)
  have hn2 := Lib.hid (fun v w => node_any n s t v t w)
  obtain ⟨pa, b, o, cap, rfl, h1, h2, h3, h4⟩ := h
  have a1 : 2 ≤ n := by omega
  have a2 : n ≤ 64 := by omega
  clear c
  obtain ⟨q1, q2, q3⟩ : nodeB n s = true ∧ nodeB n t = true ∧ s ≠ t := by simpa [and_assoc] using c2
  rw [q1] at hn1
  rw [q2] at hn2
  clear c2 q1 q2
  have hcap : cap ≤ 9223372036854775807 := by unfold maxLen at h3; omega
  rcases Nat.lt_or_ge 600 es.length with hl | hl
  · rw [if_pos hl]
    go_enter Try.func5, Try.ntmps5
    go_wp2_with (first
      | (go_at_call 11; have q := hK; clear q; refine (hn2.out _ _).mono ?_; rintro e w2 ⟨rfl, hb2⟩; replace hK := Below.next hK (Nat.le_refl _) hb2; replace hG := heap_old hb2 hG; (clear g0 g1 g2 g3); (have g0 := cell_heap (o := 0) hG rfl; have g1 := cell_heap (o := 1) hG rfl; have g2 := cell_heap (o := 2) hG rfl; have g3 := cell_heap (o := 3) hG rfl))
      | (go_at_call 11; refine (hn1.out _ _).mono ?_; rintro e w1 ⟨rfl, hb1⟩; have hG := heap_old hb1 (heap_new w (.cells #[.int .i64 n, .int .i64 s, .int .i64 t, .slice pa es.length cap] 24) rfl); have hK := Below.next1 (Below.refl w.heap.size w) (Nat.le_refl _) hb1; (have g0 := cell_heap (o := 0) hG rfl; have g1 := cell_heap (o := 1) hG rfl; have g2 := cell_heap (o := 2) hG rfl; have g3 := cell_heap (o := 3) hG rfl)))
    go_ret
    exact ⟨rfl, hK⟩
  · rw [if_neg (by omega)]
    generalize hC : chkEs n es = C
    have d1 : decide (n < 2) = false := decide_eq_false (by omega)
    have d2 : decide (64 < n) = false := decide_eq_false (by omega)
    have d3 : decide (600 < (es.length : Int)) = false := decide_eq_false (by omega)
    have d4 : (s == t) = false := by simpa using q3
    go_enter Try.func5, Try.ntmps5
    go_wp2_with (first
      | (go_at_call 11; have q := hK; clear q; refine (hn2.out _ _).mono ?_; rintro e w2 ⟨rfl, hb2⟩; replace hK := Below.next hK (Nat.le_refl _) hb2; replace hG := heap_old hb2 hG; (clear g0 g1 g2 g3); (have g0 := cell_heap (o := 0) hG rfl; have g1 := cell_heap (o := 1) hG rfl; have g2 := cell_heap (o := 2) hG rfl; have g3 := cell_heap (o := 3) hG rfl))
      | (go_at_call 11; refine (hn1.out _ _).mono ?_; rintro e w1 ⟨rfl, hb1⟩; have hG := heap_old hb1 (heap_new w (.cells #[.int .i64 n, .int .i64 s, .int .i64 t, .slice pa es.length cap] 24) rfl); have hK := Below.next1 (Below.refl w.heap.size w) (Nat.le_refl _) hb1; (have g0 := cell_heap (o := 0) hG rfl; have g1 := cell_heap (o := 1) hG rfl; have g2 := cell_heap (o := 2) hG rfl; have g3 := cell_heap (o := 3) hG rfl)))
    (clear g0 g1 g2 g3)
    go_loopw [42] (fun x wr => ∃ i : Nat, i ≤ es.length ∧ x = .int .i64 i ∧ Below w.heap.size w wr ∧ wr.heap[w.heap.size]? = some (.cells #[.int .i64 n, .int .i64 s, .int .i64 t, .slice pa es.length cap] 24) ∧ chkEs n (es.drop i) = C) (fun x _ => es.length - (intOf x).toNat)
    case atStart => exact ⟨0, by omega, rfl, hK, hG, hC⟩
    case round =>
      obtain ⟨i, hi, rfl, hb0, hG, hc⟩ := hrel
      have hsz := hb0.size
      rcases Nat.lt_or_ge i es.length with hlt | hge
      · obtain rfl := h1 (by omega)
        obtain ⟨e, he⟩ : ∃ e, es[i]? = some e := ⟨_, List.getElem?_eq_getElem hlt⟩
        obtain ⟨c0, c1, c2⟩ := cB_at (cells_below (h4 i e he) hb0)
        have hcc := chk_next hc he
        have hm1 := Lib.hid (fun v w => hnn.out v e.1 w)
        have hm2 := Lib.hid (fun v w => hnn.out v e.2.1 w)
        have hnx : es.length - (i + 1) < es.length - i := by omega
        clear he hc h4
        (have g0 := cell_heap (o := 0) hG rfl; have g1 := cell_heap (o := 1) hG rfl; have g2 := cell_heap (o := 2) hG rfl; have g3 := cell_heap (o := 3) hG rfl)
        obtain ⟨e1, e2, e3⟩ := e
        dsimp only at *
        generalize hD : chkEs n (es.drop (i + 1)) = D at *
        have hDD := Lib.hid hD
        have hCC := Lib.hid hcc
        clear hD hcc
        generalize nodeB n e1 = P at *
        generalize nodeB n e2 = Q at *
        cases P
        · go_wp2_with (first | (go_at_call 11; have q := hX; clear q; refine (hm2.out _ _).mono ?_; rintro e w4 ⟨rfl, hb4⟩; replace hX := heap_old hb4 hX; replace hG := heap_old hb4 hG; replace hb0 := Below.next hb0 (Nat.le_refl _) hb4; clear hb4; (clear g0 g1 g2 g3); (have g0 := cell_heap (o := 0) hG rfl; have g1 := cell_heap (o := 1) hG rfl; have g2 := cell_heap (o := 2) hG rfl; have g3 := cell_heap (o := 3) hG rfl); clear x0 x1 x2; (have x0 := cell_heap (o := 0) hX rfl; have x1 := cell_heap (o := 1) hX rfl; have x2 := cell_heap (o := 2) hX rfl)) | (go_at_call 11; have hX := heap_new wr (.cells #[.int .i64 e1, .int .i64 e2, .int .i64 e3] 37) rfl; replace hG := heap_alloc (X := (.cells #[.int .i64 e1, .int .i64 e2, .int .i64 e3] 37)) hG; replace hb0 := hb0.alloc hb0.size (.cells #[.int .i64 e1, .int .i64 e2, .int .i64 e3] 37); refine (hm1.out _ _).mono ?_; rintro e w3 ⟨rfl, hb3⟩; replace hX := heap_old hb3 hX; replace hG := heap_old hb3 hG; replace hb0 := Below.next hb0 (Nat.le_refl _) hb3; clear hb3; (clear g0 g1 g2 g3); (have g0 := cell_heap (o := 0) hG rfl; have g1 := cell_heap (o := 1) hG rfl; have g2 := cell_heap (o := 2) hG rfl; have g3 := cell_heap (o := 3) hG rfl); (have x0 := cell_heap (o := 0) hX rfl; have x1 := cell_heap (o := 1) hX rfl; have x2 := cell_heap (o := 2) hX rfl)))
          go_ret
          exact ⟨ret_int (by have := hCC.out; simpa using this), hb0⟩
        · cases Q
          · go_wp2_with (first | (go_at_call 11; have q := hX; clear q; refine (hm2.out _ _).mono ?_; rintro e w4 ⟨rfl, hb4⟩; replace hX := heap_old hb4 hX; replace hG := heap_old hb4 hG; replace hb0 := Below.next hb0 (Nat.le_refl _) hb4; clear hb4; (clear g0 g1 g2 g3); (have g0 := cell_heap (o := 0) hG rfl; have g1 := cell_heap (o := 1) hG rfl; have g2 := cell_heap (o := 2) hG rfl; have g3 := cell_heap (o := 3) hG rfl); clear x0 x1 x2; (have x0 := cell_heap (o := 0) hX rfl; have x1 := cell_heap (o := 1) hX rfl; have x2 := cell_heap (o := 2) hX rfl)) | (go_at_call 11; have hX := heap_new wr (.cells #[.int .i64 e1, .int .i64 e2, .int .i64 e3] 37) rfl; replace hG := heap_alloc (X := (.cells #[.int .i64 e1, .int .i64 e2, .int .i64 e3] 37)) hG; replace hb0 := hb0.alloc hb0.size (.cells #[.int .i64 e1, .int .i64 e2, .int .i64 e3] 37); refine (hm1.out _ _).mono ?_; rintro e w3 ⟨rfl, hb3⟩; replace hX := heap_old hb3 hX; replace hG := heap_old hb3 hG; replace hb0 := Below.next hb0 (Nat.le_refl _) hb3; clear hb3; (clear g0 g1 g2 g3); (have g0 := cell_heap (o := 0) hG rfl; have g1 := cell_heap (o := 1) hG rfl; have g2 := cell_heap (o := 2) hG rfl; have g3 := cell_heap (o := 3) hG rfl); (have x0 := cell_heap (o := 0) hX rfl; have x1 := cell_heap (o := 1) hX rfl; have x2 := cell_heap (o := 2) hX rfl)))
            go_ret
            exact ⟨ret_int (by have := hCC.out; simpa using this), hb0⟩
          · by_cases heq : e1 = e2
            · subst heq
              go_wp2_with (first | (go_at_call 11; have q := hX; clear q; refine (hm2.out _ _).mono ?_; rintro e w4 ⟨rfl, hb4⟩; replace hX := heap_old hb4 hX; replace hG := heap_old hb4 hG; replace hb0 := Below.next hb0 (Nat.le_refl _) hb4; clear hb4; (clear g0 g1 g2 g3); (have g0 := cell_heap (o := 0) hG rfl; have g1 := cell_heap (o := 1) hG rfl; have g2 := cell_heap (o := 2) hG rfl; have g3 := cell_heap (o := 3) hG rfl); clear x0 x1 x2; (have x0 := cell_heap (o := 0) hX rfl; have x1 := cell_heap (o := 1) hX rfl; have x2 := cell_heap (o := 2) hX rfl)) | (go_at_call 11; have hX := heap_new wr (.cells #[.int .i64 e1, .int .i64 e1, .int .i64 e3] 37) rfl; replace hG := heap_alloc (X := (.cells #[.int .i64 e1, .int .i64 e1, .int .i64 e3] 37)) hG; replace hb0 := hb0.alloc hb0.size (.cells #[.int .i64 e1, .int .i64 e1, .int .i64 e3] 37); refine (hm1.out _ _).mono ?_; rintro e w3 ⟨rfl, hb3⟩; replace hX := heap_old hb3 hX; replace hG := heap_old hb3 hG; replace hb0 := Below.next hb0 (Nat.le_refl _) hb3; clear hb3; (clear g0 g1 g2 g3); (have g0 := cell_heap (o := 0) hG rfl; have g1 := cell_heap (o := 1) hG rfl; have g2 := cell_heap (o := 2) hG rfl; have g3 := cell_heap (o := 3) hG rfl); (have x0 := cell_heap (o := 0) hX rfl; have x1 := cell_heap (o := 1) hX rfl; have x2 := cell_heap (o := 2) hX rfl)))
              go_ret
              exact ⟨ret_int (by have := hCC.out; simpa using this), hb0⟩
            · go_wp2_with (first | (go_at_call 11; have q := hX; clear q; refine (hm2.out _ _).mono ?_; rintro e w4 ⟨rfl, hb4⟩; replace hX := heap_old hb4 hX; replace hG := heap_old hb4 hG; replace hb0 := Below.next hb0 (Nat.le_refl _) hb4; clear hb4; (clear g0 g1 g2 g3); (have g0 := cell_heap (o := 0) hG rfl; have g1 := cell_heap (o := 1) hG rfl; have g2 := cell_heap (o := 2) hG rfl; have g3 := cell_heap (o := 3) hG rfl); clear x0 x1 x2; (have x0 := cell_heap (o := 0) hX rfl; have x1 := cell_heap (o := 1) hX rfl; have x2 := cell_heap (o := 2) hX rfl)) | (go_at_call 11; have hX := heap_new wr (.cells #[.int .i64 e1, .int .i64 e2, .int .i64 e3] 37) rfl; replace hG := heap_alloc (X := (.cells #[.int .i64 e1, .int .i64 e2, .int .i64 e3] 37)) hG; replace hb0 := hb0.alloc hb0.size (.cells #[.int .i64 e1, .int .i64 e2, .int .i64 e3] 37); refine (hm1.out _ _).mono ?_; rintro e w3 ⟨rfl, hb3⟩; replace hX := heap_old hb3 hX; replace hG := heap_old hb3 hG; replace hb0 := Below.next hb0 (Nat.le_refl _) hb3; clear hb3; (clear g0 g1 g2 g3); (have g0 := cell_heap (o := 0) hG rfl; have g1 := cell_heap (o := 1) hG rfl; have g2 := cell_heap (o := 2) hG rfl; have g3 := cell_heap (o := 3) hG rfl); (have x0 := cell_heap (o := 0) hX rfl; have x1 := cell_heap (o := 1) hX rfl; have x2 := cell_heap (o := 2) hX rfl)))
              all_goals first
                | (refine ⟨⟨i + 1, hlt, by simp, hb0, hG, ?_⟩, by simpa [intOf] using hnx⟩
                   have := hCC.out
                   rw [if_neg (by simp; omega), if_neg (by omega)] at this
                   rw [hDD.out, this])
                | (go_ret
                   exact ⟨ret_int (by have := hCC.out; rw [if_neg (by simp; omega), if_pos (by omega)] at this; exact this), hb0⟩)
      · obtain rfl : i = es.length := by omega
        rw [List.drop_length] at hc
        (have g0 := cell_heap (o := 0) hG rfl; have g1 := cell_heap (o := 1) hG rfl; have g2 := cell_heap (o := 2) hG rfl; have g3 := cell_heap (o := 3) hG rfl)
        go_wp2_with fail
        go_ret
        exact ⟨ret_int (by rw [← hc]; rfl), hb0⟩
theorem gcheck_any (n s t : Int) (v : Value) (es : List ED) (w : World) (h : Eds w v es) : Calls Try.prog 5 #[.agg #[.int .i64 n, .int .i64 s, .int .i64 t, v]] w fun e w' => e = .returned (.int .i64 (chkG n s t es)) ∧ Below w.heap.size w w' := by
  unfold chkG
  by_cases c : n < 2 ∨ 64 < n
  · rw [if_pos c]; exact gcheck_size n s t v es w h c
  · rw [if_neg c]
    by_cases c2 : (nodeB n s && (nodeB n t && decide (s ≠ t))) = false
    · rw [if_pos c2]; exact gcheck_node n s t v es w h c c2
    · rw [if_neg c2]; exact gcheck_edges n s t v es w h c c2
end Go.Proofs.Ytajdfcliiefjgaa
