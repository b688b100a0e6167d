/-
  Contracts and laws, merged: LBounds Attained Attained2.
  Conditions: none.
-/
import Derived.Test.YtmdledlbkdcmnaaM20
import Derived.Test.YtmdledlbkdcmnaaM4
import Derived.Test.YtmdledlbkdcmnaaM9
import Derived.Test.YtmdledlbkdcmnaaFlat
set_option linter.unusedSimpArgs false
set_option linter.unusedVariables false
/-
  Contract of the statement's own bounds.
  Conditions: none.
-/
namespace Go.Proofs.Ytmdledlbkdcmnaa
open Go.RowKit
set_option linter.unusedSimpArgs false
set_option maxRecDepth 100000 in
set_option maxHeartbeats 4000000 in
theorem lbounds0 (v : Value) (l : List SN) (w : World) (h : Seens w v l) : Calls Try.prog 36 #[v, .int .i64 0] w fun e w' => ∃ u, e = .returned u ∧ Bnds w' u (bnds 0 (bhdL l)) ∧ Below w.heap.size w w' := by
  obtain ⟨i0, hi0, hz0, hz1, hz2⟩ := info_parts (P := Try.prog) (e := 66) (z := zeroB) (size := 3) (bytes := 24) (by kernel_rfl)
  have hok := bhd_ok (l := l)
  have hl := bhd_len l
  have hbe := Lib.hid (fun w' (h : Seens w' v l) => behind_any v l w' h)
  generalize bhdL l = S at *
  go_enter Try.func36, Try.ntmps36
  go_wp2_with (go_at_call 76; refine (hbe.out _ (h.below (by repeat (first | with_reducible exact Below.refl _ _ | with_reducible assumption | with_reducible refine Below.drew ?_ | with_reducible refine Below.setCell ?_ (by first | omega | (simp; omega) | simp) _ | with_reducible refine Below.alloc ?_ (by first | omega | (simp; omega) | simp) _ | with_reducible refine Below.trans ?_ (Below.mono (by with_reducible assumption) (by first | omega | (simp; omega) | simp)))))).mono ?_; rintro e w1 ⟨u0, rfl, hS, hb1⟩; obtain ⟨pa, b, o, cap, rfl, h1, h2, h3, h4⟩ := hS; have hcap : cap ≤ 9223372036854775807 := by (unfold maxLen at h3; omega))
  go_loopw [5, 11] (fun u x wr => ∃ k : Nat, k ≤ S.length ∧ x = .int .i64 k ∧ Below w1.heap.size w1 wr ∧ wr.ownsRow w1.heap.size 66 3 u ((bnds 0 S).take k).length (((bnds 0 S).take k).flatMap cB)) (fun _ x _ => S.length - (intOf x).toNat)
  case atStart => exact ⟨0, by omega, rfl, Below.refl _ _, by simpa using World.ownsRow_nil _ _ _ _⟩
  case round =>
    obtain ⟨k, hk, rfl, hb0, hO⟩ := hrel
    have hlenk : ((bnds 0 S).take k).length = k := by rw [List.length_take, bnds_len]; omega
    have hsz := hb0.size
    rcases Nat.lt_or_ge k S.length with hlt | hge
    · obtain rfl := h1 (by omega)
      obtain ⟨s, hs⟩ : ∃ s, S[k]? = some s := ⟨_, List.getElem?_eq_getElem hlt⟩
      obtain ⟨c0, c1, c2, c3, c4⟩ := (h4 k s hs).below hb0
      obtain ⟨⟨a1, a2⟩, ⟨a3, a4⟩, ⟨a5, a6⟩, ⟨a7, a8⟩, a9, a10⟩ := okS_iff.1 (hok s (List.mem_of_getElem? hs))
      have hTT := Lib.hid (take_map_next (bndS 0) hs)
      have hn : S.length - (k + 1) < S.length - k := by omega
      clear hs h4 hok
      unfold bnds at *
      generalize (S.map (bndS 0)).take k = P at *
      go_wp2_with (at_builtin; refine wpList_append_own _ rfl _ _ 64 rfl w1.heap.size 66 i0 zeroB 3 24 Try.underlying64 hi0 hz0 hz1 hz2 rfl (by decide) _ _ _ rfl (own_below hO (by repeat (first | with_reducible exact Below.refl _ _ | with_reducible assumption | with_reducible refine Below.drew ?_ | with_reducible refine Below.setCell ?_ (by first | omega | (simp; omega) | simp) _ | with_reducible refine Below.alloc ?_ (by first | omega | (simp; omega) | simp) _ | with_reducible refine Below.trans ?_ (Below.mono (by with_reducible assumption) (by first | omega | (simp; omega) | simp))))) ⟨_, 0, none⟩ 1 1 (cB (bX s)) rfl rfl ?_ (cB_one _) (by unfold maxLen; omega) (by omega) (by simp; omega) ?_; rotate_left; intro u' w5 ho5 hg5 hnil5)
      · refine ⟨⟨k + 1, hlt, by simp, ?_, ?_⟩, by simpa [intOf] using hn⟩
        · exact Below.grown (by repeat (first | with_reducible exact Below.refl _ _ | with_reducible assumption | with_reducible refine Below.drew ?_ | with_reducible refine Below.setCell ?_ (by first | omega | (simp; omega) | simp) _ | with_reducible refine Below.alloc ?_ (by first | omega | (simp; omega) | simp) _ | with_reducible refine Below.trans ?_ (Below.mono (by with_reducible assumption) (by first | omega | (simp; omega) | simp)))) hg5 (by simp; omega) (fun q hq => by have := (hO.lt q hq).1; omega)
        · rw [hTT.out]; exact own_push ho5
      · first | exact fun _ _ h => h | exact cells_here (heap_new _ _ (by simp))
    · obtain rfl : k = S.length := by omega
      rw [List.take_of_length_le (by rw [bnds_len]; omega)] at hO
      clear hlenk
      go_wp2_with fail
      go_ret
      exact ⟨_, rfl, held_own cB_len hO, Below.next hb1 (Nat.le_refl _) hb0⟩
set_option maxRecDepth 100000 in
set_option maxHeartbeats 4000000 in
theorem lbounds1 (v : Value) (l : List SN) (w : World) (h : Seens w v l) : Calls Try.prog 36 #[v, .int .i64 1] w fun e w' => ∃ u, e = .returned u ∧ Bnds w' u (bnds 1 (bhdL l)) ∧ Below w.heap.size w w' := by
  obtain ⟨i0, hi0, hz0, hz1, hz2⟩ := info_parts (P := Try.prog) (e := 66) (z := zeroB) (size := 3) (bytes := 24) (by kernel_rfl)
  have hok := bhd_ok (l := l)
  have hl := bhd_len l
  have hbe := Lib.hid (fun w' (h : Seens w' v l) => behind_any v l w' h)
  generalize bhdL l = S at *
  go_enter Try.func36, Try.ntmps36
  go_wp2_with (go_at_call 76; refine (hbe.out _ (h.below (by repeat (first | with_reducible exact Below.refl _ _ | with_reducible assumption | with_reducible refine Below.drew ?_ | with_reducible refine Below.setCell ?_ (by first | omega | (simp; omega) | simp) _ | with_reducible refine Below.alloc ?_ (by first | omega | (simp; omega) | simp) _ | with_reducible refine Below.trans ?_ (Below.mono (by with_reducible assumption) (by first | omega | (simp; omega) | simp)))))).mono ?_; rintro e w1 ⟨u0, rfl, hS, hb1⟩; obtain ⟨pa, b, o, cap, rfl, h1, h2, h3, h4⟩ := hS; have hcap : cap ≤ 9223372036854775807 := by (unfold maxLen at h3; omega))
  go_loopw [5, 11] (fun u x wr => ∃ k : Nat, k ≤ S.length ∧ x = .int .i64 k ∧ Below w1.heap.size w1 wr ∧ wr.ownsRow w1.heap.size 66 3 u ((bnds 1 S).take k).length (((bnds 1 S).take k).flatMap cB)) (fun _ x _ => S.length - (intOf x).toNat)
  case atStart => exact ⟨0, by omega, rfl, Below.refl _ _, by simpa using World.ownsRow_nil _ _ _ _⟩
  case round =>
    obtain ⟨k, hk, rfl, hb0, hO⟩ := hrel
    have hlenk : ((bnds 1 S).take k).length = k := by rw [List.length_take, bnds_len]; omega
    have hsz := hb0.size
    rcases Nat.lt_or_ge k S.length with hlt | hge
    · obtain rfl := h1 (by omega)
      obtain ⟨s, hs⟩ : ∃ s, S[k]? = some s := ⟨_, List.getElem?_eq_getElem hlt⟩
      obtain ⟨c0, c1, c2, c3, c4⟩ := (h4 k s hs).below hb0
      obtain ⟨⟨a1, a2⟩, ⟨a3, a4⟩, ⟨a5, a6⟩, ⟨a7, a8⟩, a9, a10⟩ := okS_iff.1 (hok s (List.mem_of_getElem? hs))
      have hTT := Lib.hid (take_map_next (bndS 1) hs)
      have hn : S.length - (k + 1) < S.length - k := by omega
      clear hs h4 hok
      unfold bnds at *
      generalize (S.map (bndS 1)).take k = P at *
      go_wp2_with (at_builtin; refine wpList_append_own _ rfl _ _ 64 rfl w1.heap.size 66 i0 zeroB 3 24 Try.underlying64 hi0 hz0 hz1 hz2 rfl (by decide) _ _ _ rfl (own_below hO (by repeat (first | with_reducible exact Below.refl _ _ | with_reducible assumption | with_reducible refine Below.drew ?_ | with_reducible refine Below.setCell ?_ (by first | omega | (simp; omega) | simp) _ | with_reducible refine Below.alloc ?_ (by first | omega | (simp; omega) | simp) _ | with_reducible refine Below.trans ?_ (Below.mono (by with_reducible assumption) (by first | omega | (simp; omega) | simp))))) ⟨_, 0, none⟩ 1 1 (cB (bY s)) rfl rfl ?_ (cB_one _) (by unfold maxLen; omega) (by omega) (by simp; omega) ?_; rotate_left; intro u' w5 ho5 hg5 hnil5)
      · refine ⟨⟨k + 1, hlt, by simp, ?_, ?_⟩, by simpa [intOf] using hn⟩
        · exact Below.grown (by repeat (first | with_reducible exact Below.refl _ _ | with_reducible assumption | with_reducible refine Below.drew ?_ | with_reducible refine Below.setCell ?_ (by first | omega | (simp; omega) | simp) _ | with_reducible refine Below.alloc ?_ (by first | omega | (simp; omega) | simp) _ | with_reducible refine Below.trans ?_ (Below.mono (by with_reducible assumption) (by first | omega | (simp; omega) | simp)))) hg5 (by simp; omega) (fun q hq => by have := (hO.lt q hq).1; omega)
        · rw [hTT.out]; exact own_push ho5
      · first | exact fun _ _ h => h | exact cells_here (heap_new _ _ (by simp))
    · obtain rfl : k = S.length := by omega
      rw [List.take_of_length_le (by rw [bnds_len]; omega)] at hO
      clear hlenk
      go_wp2_with fail
      go_ret
      exact ⟨_, rfl, held_own cB_len hO, Below.next hb1 (Nat.le_refl _) hb0⟩
set_option maxRecDepth 100000 in
set_option maxHeartbeats 4000000 in
theorem lbounds2 (v : Value) (l : List SN) (w : World) (h : Seens w v l) : Calls Try.prog 36 #[v, .int .i64 2] w fun e w' => ∃ u, e = .returned u ∧ Bnds w' u (bnds 2 (bhdL l)) ∧ Below w.heap.size w w' := by
  obtain ⟨i0, hi0, hz0, hz1, hz2⟩ := info_parts (P := Try.prog) (e := 66) (z := zeroB) (size := 3) (bytes := 24) (by kernel_rfl)
  have hok := bhd_ok (l := l)
  have hl := bhd_len l
  have hbe := Lib.hid (fun w' (h : Seens w' v l) => behind_any v l w' h)
  generalize bhdL l = S at *
  go_enter Try.func36, Try.ntmps36
  go_wp2_with (go_at_call 76; refine (hbe.out _ (h.below (by repeat (first | with_reducible exact Below.refl _ _ | with_reducible assumption | with_reducible refine Below.drew ?_ | with_reducible refine Below.setCell ?_ (by first | omega | (simp; omega) | simp) _ | with_reducible refine Below.alloc ?_ (by first | omega | (simp; omega) | simp) _ | with_reducible refine Below.trans ?_ (Below.mono (by with_reducible assumption) (by first | omega | (simp; omega) | simp)))))).mono ?_; rintro e w1 ⟨u0, rfl, hS, hb1⟩; obtain ⟨pa, b, o, cap, rfl, h1, h2, h3, h4⟩ := hS; have hcap : cap ≤ 9223372036854775807 := by (unfold maxLen at h3; omega))
  go_loopw [5, 11] (fun u x wr => ∃ k : Nat, k ≤ S.length ∧ x = .int .i64 k ∧ Below w1.heap.size w1 wr ∧ wr.ownsRow w1.heap.size 66 3 u ((bnds 2 S).take k).length (((bnds 2 S).take k).flatMap cB)) (fun _ x _ => S.length - (intOf x).toNat)
  case atStart => exact ⟨0, by omega, rfl, Below.refl _ _, by simpa using World.ownsRow_nil _ _ _ _⟩
  case round =>
    obtain ⟨k, hk, rfl, hb0, hO⟩ := hrel
    have hlenk : ((bnds 2 S).take k).length = k := by rw [List.length_take, bnds_len]; omega
    have hsz := hb0.size
    rcases Nat.lt_or_ge k S.length with hlt | hge
    · obtain rfl := h1 (by omega)
      obtain ⟨s, hs⟩ : ∃ s, S[k]? = some s := ⟨_, List.getElem?_eq_getElem hlt⟩
      obtain ⟨c0, c1, c2, c3, c4⟩ := (h4 k s hs).below hb0
      obtain ⟨⟨a1, a2⟩, ⟨a3, a4⟩, ⟨a5, a6⟩, ⟨a7, a8⟩, a9, a10⟩ := okS_iff.1 (hok s (List.mem_of_getElem? hs))
      have hTT := Lib.hid (take_map_next (bndS 2) hs)
      have hn : S.length - (k + 1) < S.length - k := by omega
      clear hs h4 hok
      unfold bnds at *
      generalize (S.map (bndS 2)).take k = P at *
      go_wp2_with fail
      have hS : (wr.alloc (.cells #[.int .i64 s.1, .int .i64 s.2.1, .int .i64 s.2.2.1, .int .i64 s.2.2.2.1, .int .i64 s.2.2.2.2] 38)).heap[wr.heap.size]? = some (.cells #[.int .i64 s.1, .int .i64 s.2.1, .int .i64 s.2.2.1, .int .i64 s.2.2.2.1, .int .i64 s.2.2.2.2] 38) := heap_new wr _ rfl
      have hO2 := hO.alloc (.cells #[.int .i64 s.1, .int .i64 s.2.1, .int .i64 s.2.2.1, .int .i64 s.2.2.2.1, .int .i64 s.2.2.2.2] 38)
      apply region_gen 20 [0] [1, 2, 3, 4, 5, 6, 7, 8, 9, 10, 11, 12, 13, 14, 15, 16, 17, 18, 19] [20, 21, 22]; (case hm => kernel_rfl); (case hS => rfl); (case hF => kernel_rfl); (case hB => kernel_rfl); (case hQ => exact fun _ _ _ _ _ h => h); (case f => (refine ⟨_, _, _, rfl, rfl, rfl, fun W => (by go_simp; with_reducible rfl), ?_⟩; simp only [Act.put, List.setIfInBounds_toArray, List.set_cons_succ, List.set_cons_zero]; exact rfl)); (case hz => exact rfl); (case h => (intro LQ hLQ W1 hW1; have hS1 := heap_old hW1 hS; have d0 := cell_heap (o := 0) hS1 rfl; have d3 := cell_heap (o := 3) hS1 rfl; have d4 := cell_heap (o := 4) hS1 rfl; simp only [pickO, List.drop_succ_cons, List.drop_zero, List.take_succ_cons, List.take_zero, List.cons_append, List.nil_append, List.append_nil, Act.put, List.setIfInBounds_toArray, List.set_cons_succ, List.set_cons_zero]; have hl := @Later.cell; (repeat (go_big_quiet_step ((go_at_call 53; exact Calls.later_same (raise_any _ _ _))))); exact wpQuiet_nil hLQ)); (intro W2 hW2; simp only [pickO, List.drop_succ_cons, List.drop_zero, List.take_succ_cons, List.take_zero, List.cons_append, List.nil_append, List.append_nil, Act.put, List.setIfInBounds_toArray, List.set_cons_succ, List.set_cons_zero])
      have hO3 := own_below hO2 hW2
      have hK2 : Below w1.heap.size w1 W2 := Below.next1 hb0 (Nat.le_refl _) hW2
      have hsz2 := hK2.size
      go_wp2_with (at_builtin; refine wpList_append_own _ rfl _ _ 64 rfl w1.heap.size 66 i0 zeroB 3 24 Try.underlying64 hi0 hz0 hz1 hz2 rfl (by decide) _ _ _ rfl (hO3.alloc _) ⟨W2.heap.size, 0, none⟩ 1 1 (cB (bZ s)) rfl rfl ?_ (cB_one _) (by unfold maxLen; omega) (by omega) (by simp; omega) ?_; rotate_left; intro u' w5 ho5 hg5 hnil5)
      · refine ⟨⟨k + 1, hlt, by simp, ?_, ?_⟩, by simpa [intOf] using hn⟩
        · exact Below.grown (hK2.alloc hsz2 _) hg5 (by simp; omega) (fun q hq => by have := (hO3.lt q hq).1; omega)
        · rw [hTT.out]; exact own_push ho5
      · exact cells_here (heap_new _ _ rfl)
    · obtain rfl : k = S.length := by omega
      rw [List.take_of_length_le (by rw [bnds_len]; omega)] at hO
      clear hlenk
      go_wp2_with fail
      go_ret
      exact ⟨_, rfl, held_own cB_len hO, Below.next hb1 (Nat.le_refl _) hb0⟩
theorem lbounds_any (v : Value) (l : List SN) (ax : Int) (w : World) (h : Seens w v l) (h1 : 0 ≤ ax) (h2 : ax ≤ 2) : Calls Try.prog 36 #[v, .int .i64 ax] w fun e w' => ∃ u, e = .returned u ∧ Bnds w' u (bnds ax (bhdL l)) ∧ Below w.heap.size w w' := by
  rcases (show ax = 0 ∨ ax = 1 ∨ ax = 2 by omega) with rfl | rfl | rfl
  · exact lbounds0 v l w h
  · exact lbounds1 v l w h
  · exact lbounds2 v l w h
end Go.Proofs.Ytmdledlbkdcmnaa

/-
  The walk of the statement on attained ends.
  Conditions: none.
-/
namespace Go.Proofs.Ytmdledlbkdcmnaa
open Go.RowKit
/-- Whatever pair has been met and has the property, the flag is set. -/
def seenP (X : List BD) (C : BD → BD → Bool) (i j : Nat) (b : Bool) : Prop := ∀ i' j' u v, X[i']? = some u → X[j']? = some v → i' < j' → (i' < i ∨ (i' = i ∧ j' < j)) → C u v = true → b = true
theorem seenP_zero (X : List BD) (C : BD → BD → Bool) (b : Bool) : seenP X C 0 0 b := fun i' j' u v _ _ _ h _ => by omega
theorem seenP_in {X : List BD} {C : BD → BD → Bool} {i : Nat} {b : Bool} (h : seenP X C i 0 b) : seenP X C i (i + 1) b := fun i' j' u v hu hv hlt h1 hc => h i' j' u v hu hv hlt (by omega) hc
theorem seenP_out {X : List BD} {C : BD → BD → Bool} {i j : Nat} {b : Bool} (h : seenP X C i j b) (hj : X.length ≤ j) : seenP X C (i + 1) 0 b := fun i' j' u v hu hv hlt h1 hc => h i' j' u v hu hv hlt (by have := (List.getElem?_eq_some_iff.1 hv).1; omega) hc
theorem seenP_next {X : List BD} {C : BD → BD → Bool} {i j : Nat} {b b' : Bool} {u v : BD} (h : seenP X C i j b) (hu : X[i]? = some u) (hv : X[j]? = some v) (h1 : C u v = true → b' = true) (h2 : b = true → b' = true) : seenP X C i (j + 1) b' := by
  intro i' j' u' v' hu' hv' hlt hi hc
  by_cases e : i' = i ∧ j' = j
  · obtain ⟨rfl, rfl⟩ := e
    rw [hu] at hu'
    rw [hv] at hv'
    obtain rfl := Option.some.inj hu'
    obtain rfl := Option.some.inj hv'
    exact h1 hc
  · exact h2 (h i' j' u' v' hu' hv' hlt (by omega) hc)
theorem seenP_end {X : List BD} {C : BD → BD → Bool} {b : Bool} (h : seenP X C X.length 0 b) (hx : ∃ (i j : Nat) (u v : BD), i < j ∧ X[i]? = some u ∧ X[j]? = some v ∧ C u v = true) : b = true := by
  obtain ⟨i, j, u, v, hij, hu, hv, hc⟩ := hx
  exact h i j u v hu hv hij (.inl (List.getElem?_eq_some_iff.1 hu).1) hc
theorem value_lt2 (a b : Int × Int) (t : Int) (w : World) (h : (0 ≤ a.1 ∧ a.1 ≤ 4000) ∧ (-20000000000 ≤ a.2 ∧ a.2 ≤ 20000000000) ∧ (0 ≤ b.1 ∧ b.1 ≤ 4000) ∧ (-20000000000 ≤ b.2 ∧ b.2 ≤ 20000000000)) (h1 : -10 ≤ t) (h2 : t ≤ 5000) (hlt : a.1 < b.1) :
    Calls Try.prog 35 #[.agg #[.int .i64 a.1, .int .i64 a.2, .int .i64 b.1, .int .i64 b.2], .int .i64 t] w fun e w' => e = .returned (.tuple #[.int .i64 (valN a b t), .int .i64 (b.1 - a.1)]) ∧ Below w.heap.size w w' :=
  value_lt a b t w (by omega) h1 h2 (by omega)
theorem conH_iff {l : List SN} {ax t HI V D : Int} {f : Bool} {u v : BD} (h1 : pfB l ax (u.1, u.2.1) (v.1, v.2.2) = f) (h2 : linHi l ax t = HI) (h3 : valN (u.1, u.2.1) (v.1, v.2.2) t = V) (h4 : v.1 - u.1 = D) : conH l ax t u v = (f && (decide ((HI - 1) * D < V) && decide (V ≤ HI * D))) := by
  unfold conH; rw [h1, h2, h3, h4]
theorem conL_iff {l : List SN} {ax t LO V D : Int} {f : Bool} {u v : BD} (h1 : pfB l ax (u.1, u.2.2) (v.1, v.2.1) = f) (h2 : linLo l ax t = LO) (h3 : valN (u.1, u.2.2) (v.1, v.2.1) t = V) (h4 : v.1 - u.1 = D) : conL l ax t u v = (f && (decide (V < (LO + 1) * D) && decide (LO * D ≤ V))) := by
  unfold conL; rw [h1, h2, h3, h4]
set_option maxRecDepth 100000 in
set_option maxHeartbeats 4000000 in
theorem attained_few (v : Value) (l : List SN) (a c : Int) (w : World) (h : Seens w v l) (hc : fewB l = false ∨ l.length = 0) : Calls Try.prog 9 #[v, .int .u8 a, .int .u16 c] w fun e w' => e = .returned (.bool true) ∧ Below w.heap.size w w' := by
  have hf := Lib.hid (fun w' (h : Seens w' v l) => few_any v l w' h)
  have hS := Lib.hid h
  obtain ⟨pa, b, o, cap, rfl, h1, h2, h3, h4⟩ := h
  clear h1 h4
  generalize fewB l = f at *
  cases f
  · clear hc
    go_enter Try.func9, Try.ntmps9
    go_wp2_with (first
      | (go_at_call 28; refine (awake33_any _).mono ?_; rintro e w1 ⟨rfl, hb1⟩; have hK := hb1)
      | (go_at_call 29; refine (hf.out _ (hS.out.below hK)).mono ?_; rintro e w2 ⟨rfl, hb2⟩; replace hK := Below.next hK (Nat.le_refl _) hb2; clear hb2))
    go_ret
    exact ⟨rfl, hK⟩
  · have hl0 : ((l.length : Int) == 0) = true := by
      rcases hc with q | q
      · cases q
      · rw [q]; rfl
    clear hc
    go_enter Try.func9, Try.ntmps9
    go_wp2_with (first
      | (go_at_call 28; refine (awake33_any _).mono ?_; rintro e w1 ⟨rfl, hb1⟩; have hK := hb1)
      | (go_at_call 29; refine (hf.out _ (hS.out.below hK)).mono ?_; rintro e w2 ⟨rfl, hb2⟩; replace hK := Below.next hK (Nat.le_refl _) hb2; clear hb2))
    go_ret
    exact ⟨rfl, hK⟩
set_option maxRecDepth 100000 in
set_option maxHeartbeats 8000000 in
theorem attained_some (v : Value) (l : List SN) (a c : Int) (w : World) (h : Seens w v l) (hc : fewB l = true) (hpos : 0 < l.length) (ax : Nat) (ah : Nat) (hax : a.tmod 3 = (ax : Int)) (hah : c.tmod 400 = (ah : Int)) (hx2 : ax ≤ 2) (ha4 : ah ≤ 399) : Calls Try.prog 9 #[v, .int .u8 a, .int .u16 c] w fun e w' => e = .returned (.bool true) ∧ Below w.heap.size w w' := by
  have hf := Lib.hid (fun w' (h : Seens w' v l) => by have := few_any v l w' h; rwa [hc] at this)
  have hl200 : l.length ≤ 200 := by unfold fewB at hc; simp at hc; omega
  have hS := Lib.hid h
  obtain ⟨n, hnl⟩ : ∃ n, l.length = n + 1 := ⟨l.length - 1, by omega⟩
  have hls : l[n]? = some (atS l n) := by
    unfold atS
    rw [List.getElem?_eq_getElem (show n < l.length by omega)]
  have hlast : behE l = 0 → (lastB (bnds (ax : Int) (bhdL l))).1 = (atS l n).1 := fun hb => by have := last_mem hb (ax : Int); rwa [show l.length - 1 = n by omega] at this
  obtain ⟨pa, b, o, cap, rfl, h1, h2, h3, h4⟩ := h
  obtain rfl := h1 (by omega)
  have k0' := (h4 n _ hls).1
  have hidx : ((l.length : Int) - 1) = (n : Int) := by omega
  have hl0 : ((l.length : Int) == 0) = false := by rw [beq_eq_false_iff_ne]; omega
  have hnlt : n < l.length := by omega
  have hn200 : n ≤ 200 := by omega
  have hLA := Lib.hid hlast
  have hK0 := Lib.hid k0'
  generalize (atS l n).1 = T at *
  clear h1 h4 hls hlast hnl k0' hc
  by_cases hT : T < 0 ∨ 4000 < T
  · have hd : (decide (T < 0) || decide (4000 < T)) = true := by simpa using hT
    rcases hT with hT | hT
    all_goals
      go_enter Try.func9, Try.ntmps9
      go_wp2_with (first
        | (go_at_call 28; refine (awake33_any _).mono ?_; rintro e w1 ⟨rfl, hb1⟩; have hK := hb1)
        | (go_at_call 29; refine (hf.out _ (hS.out.below hK)).mono ?_; rintro e w2 ⟨rfl, hb2⟩; replace hK := Below.next hK (Nat.le_refl _) hb2; clear hb2; have k0 := ((after hK).1 _ _ (by rw [hK0.out]; rfl)).trans hK0.out))
      go_ret
      exact ⟨rfl, hK⟩
  · have hT0 : 0 ≤ T := by omega
    have hT4 : T ≤ 4000 := by omega
    have hd1 : decide (T < 0) = false := decide_eq_false (by omega)
    have hd2 : decide (4000 < T) = false := decide_eq_false (by omega)
    have hln := Lib.hid (fun w' (h : Seens w' _ l) => lines_any (.slice (some ⟨b, o, none⟩) l.length cap) l (ax : Int) (T + (1 + (ah : Int))) w' h)
    clear hT
    by_cases hL : linE l (ax : Int) (T + (1 + (ah : Int))) = 0
    · obtain ⟨⟨t1, t2⟩, ⟨y1, y2⟩, ⟨y3, y4⟩⟩ := lin_bd hL
      have hbe := (linE_ok hL).2.1
      have hbE := bndE_of hL
      obtain ⟨exH, exL⟩ := attained_ex hL (by rw [hLA.out hbe]; omega)
      have hEH := Lib.hid exH
      have hEL := Lib.hid exL
      have hXo := bnds_ok (ax := (ax : Int)) (l := l)
      have hXr := bnds_rise (ax : Int) l
      have hX64 : (bnds (ax : Int) (bhdL l)).length ≤ 64 := by rw [bnds_len]; exact bhd_len l
      have hbd := Lib.hid (fun w' (h : Seens w' _ l) => lbounds_any (.slice (some ⟨b, o, none⟩) l.length cap) l (ax : Int) w' h (by omega) (by omega))
      have hft := Lib.hid (fun (p q : Int × Int) w' (h : Seens w' _ l) => ptfits_any (.slice (some ⟨b, o, none⟩) l.length cap) l (ax : Int) p q w' h)
      have hpl := Lib.hid (fun (p q : Int × Int) => pfB_lt (l := l) (ax := (ax : Int)) (a := p) (b := q) hbE)
      unfold linV at hln
      rw [hL] at hln
      clear exH exL hbe hbE
      generalize hXX : bnds (ax : Int) (bhdL l) = X at *
      generalize hTT : T + (1 + (ah : Int)) = t at *
      have hLO := Lib.hid (rfl : linLo l (ax : Int) t = linLo l (ax : Int) t)
      generalize hlo : linLo l (ax : Int) t = LO at *
      generalize hhi : linHi l (ax : Int) t = HI at *
      have hLOH := Lib.hid hlo
      have hHIH := Lib.hid hhi
      have hOK := Lib.hid hXo
      have hRI := Lib.hid hXr
      clear hlo hhi hLO hXo hXr hXX hL
      go_enter Try.func9, Try.ntmps9
      go_wp2_with (first
        | (go_at_call 28; refine (awake33_any _).mono ?_; rintro e w1 ⟨rfl, hb1⟩; have hK := hb1)
        | (go_at_call 29; refine (hf.out _ (hS.out.below hK)).mono ?_; rintro e w2 ⟨rfl, hb2⟩; replace hK := Below.next hK (Nat.le_refl _) hb2; clear hb2; have k0 := ((after hK).1 _ _ (by rw [hK0.out]; rfl)).trans hK0.out)
        | (go_at_call 30; refine (hln.out _ (hS.out.below hK)).mono ?_; rintro e w3 ⟨rfl, hb3⟩; have hR := heap_new w3 (.cells #[.int .i64 LO, .int .i64 HI] 34) rfl; have hK3 := (Below.next hK (Nat.le_refl _) hb3); replace hK3 := hK3.alloc hK3.size (.cells #[.int .i64 LO, .int .i64 HI] 34); clear hb3 k0)
        | (go_at_call 36; refine (hbd.out _ (hS.out.below hK3)).mono ?_; rintro e w4 ⟨u0, rfl, hX, hb4⟩; obtain ⟨xa, xb, xo, xc, rfl, x1, x2, x3, x4⟩ := hX; replace hR := heap_old hb4 hR; have hK4 := Below.next hK3 (Nat.le_refl _) hb4; have hX4 := Lib.hid x4; clear x4 hb4))
      generalize w3.heap.size = rb at *
      clear hK hK3
      have hxc : xc ≤ 9223372036854775807 := by unfold maxLen at x3; omega
      go_loopw [12, 13, 77] (fun x y z wr => ∃ (k : Nat) (bl bh : Bool), k ≤ X.length ∧ z = .int .i64 k ∧ x = .bool bl ∧ y = .bool bh ∧ seenP X (conL l (ax : Int) t) k 0 bl ∧ seenP X (conH l (ax : Int) t) k 0 bh ∧ Below w4.heap.size w4 wr) (fun _ _ z _ => X.length - (intOf z).toNat)
      case atStart => exact ⟨0, false, false, by omega, rfl, rfl, rfl, seenP_zero _ _ _, seenP_zero _ _ _, Below.refl _ _⟩
      case round =>
        obtain ⟨k, bl, bh, hk, rfl, rfl, rfl, hsl, hsh, hb0⟩ := hrel
        rcases Nat.lt_or_ge k X.length with hlt | hge
        · obtain rfl := x1 (by omega)
          obtain ⟨u, hu⟩ : ∃ u, X[k]? = some u := ⟨_, List.getElem?_eq_getElem hlt⟩
          obtain ⟨c0, c1, c2⟩ := cB_at (cells_below (hX4.out k u hu) hb0)
          have hSL := Lib.hid (seenP_in hsl)
          have hSH := Lib.hid (seenP_in hsh)
          have hUU := Lib.hid hu
          have hnx : X.length - (k + 1) < X.length - k := by omega
          clear hsl hsh hu
          by_cases hend : X.length = k + 1
          · have h0 : X.length - (k + 1) = 0 := by omega
            have E1 := Lib.hid (seenP_out hSL.out (by omega))
            have E2 := Lib.hid (seenP_out hSH.out (by omega))
            clear hend
            by_cases hc1 : xc = k + 1
            · subst hc1
              go_wp2_with fail
              go_loopw [12, 13, 87] (fun x y z wr => z = .int .i64 0 ∧ x = .bool bl ∧ y = .bool bh ∧ Below w4.heap.size w4 wr) (fun _ _ _ _ => 0)
              case atStart => exact ⟨rfl, rfl, rfl, hb0.alloc hb0.size _⟩
              case round =>
                obtain ⟨rfl, rfl, rfl, hb1⟩ := hrel
                go_wp2_with fail
                exact ⟨⟨k + 1, bl, bh, hlt, by simp, rfl, rfl, E1.out, E2.out, hb1⟩, by simpa [intOf] using hnx⟩
            · go_wp2_with fail
              go_loopw [12, 13, 87] (fun x y z wr => z = .int .i64 0 ∧ x = .bool bl ∧ y = .bool bh ∧ Below w4.heap.size w4 wr) (fun _ _ _ _ => 0)
              case atStart => exact ⟨rfl, rfl, rfl, hb0.alloc hb0.size _⟩
              case round =>
                obtain ⟨rfl, rfl, rfl, hb1⟩ := hrel
                go_wp2_with fail
                exact ⟨⟨k + 1, bl, bh, hlt, by simp, rfl, rfl, E1.out, E2.out, hb1⟩, by simpa [intOf] using hnx⟩
          have hcne : ¬xc = k + 1 := by omega
          clear hend
          go_wp2_with fail
          have hXB : (wr.alloc ((.cells #[.int .i64 u.1, .int .i64 u.2.1, .int .i64 u.2.2] 66))).heap[wr.heap.size]? = some ((.cells #[.int .i64 u.1, .int .i64 u.2.1, .int .i64 u.2.2] 66)) := heap_new wr _ rfl
          have hb1 : Below w4.heap.size w4 (wr.alloc ((.cells #[.int .i64 u.1, .int .i64 u.2.1, .int .i64 u.2.2] 66))) := hb0.alloc hb0.size _
          generalize hwz : wr.heap.size = bx at *
          have hwz1 : (wr.alloc ((.cells #[.int .i64 u.1, .int .i64 u.2.1, .int .i64 u.2.2] 66))).heap.size = bx + 1 := by simp [hwz]
          clear hwz c0 c1 c2
          generalize World.alloc wr ((.cells #[.int .i64 u.1, .int .i64 u.2.1, .int .i64 u.2.2] 66)) = w5 at *
          go_loopw [12, 13, 87] (fun x y z wr => ∃ (j : Nat) (bl bh : Bool), k + 1 + j ≤ X.length ∧ z = .int .i64 j ∧ x = .bool bl ∧ y = .bool bh ∧ seenP X (conL l (ax : Int) t) k (k + 1 + j) bl ∧ seenP X (conH l (ax : Int) t) k (k + 1 + j) bh ∧ Below w4.heap.size w4 wr ∧ wr.heap[bx]? = some ((.cells #[.int .i64 u.1, .int .i64 u.2.1, .int .i64 u.2.2] 66))) (fun _ _ z _ => X.length - (k + 1) - (intOf z).toNat)
          case atStart => exact ⟨0, bl, bh, by omega, rfl, rfl, rfl, hSL.out, hSH.out, hb1, hXB⟩
          case round =>
            obtain ⟨j, bl2, bh2, hj, rfl, rfl, rfl, hsl, hsh, hb0, hXB⟩ := hrel
            rcases Nat.lt_or_ge (k + 1 + j) X.length with hlt2 | hge2
            · skip
              obtain ⟨y, hy⟩ : ∃ y, X[k + 1 + j]? = some y := ⟨_, List.getElem?_eq_getElem hlt2⟩
              obtain ⟨c0, c1, c2⟩ := cB_at (cells_below (hX4.out (k + 1 + j) y hy) hb0)
              rw [show xo + (k + 1 + j) * 3 = xo + (k + 1) * 3 + j * 3 by omega] at c0 c1 c2
              have du := hOK.out u (List.mem_of_getElem? hUU.out)
              have dy := hOK.out y (List.mem_of_getElem? hy)
              have hlt3 := hRI.out k (k + 1 + j) u y (by omega) hUU.out hy
              unfold okB at du dy
              have hvU' := fun w => value_lt2 (u.1, u.2.1) (y.1, y.2.2) t w (by dsimp only; omega) (by omega) (by omega) hlt3
              have hvD' := fun w => value_lt2 (u.1, u.2.2) (y.1, y.2.1) t w (by dsimp only; omega) (by omega) (by omega) hlt3
              dsimp only at hvU' hvD'
              have hpU := (hpl.out (u.1, u.2.1) (y.1, y.2.2) (by dsimp only; omega) hlt3).1
              have hpD := (hpl.out (u.1, u.2.2) (y.1, y.2.1) (by dsimp only; omega) hlt3).1
              have hfU' := fun w' h => hft.out (u.1, u.2.1) (y.1, y.2.2) w' h
              have hfD' := fun w' h => hft.out (u.1, u.2.2) (y.1, y.2.1) w' h
              unfold pfV at hfU' hfD'
              rw [hpU] at hfU'
              rw [hpD] at hfD'
              dsimp only at hfU' hfD'
              generalize hFU : pfB l (ax : Int) (u.1, u.2.1) (y.1, y.2.2) = FU at *
              generalize hFD : pfB l (ax : Int) (u.1, u.2.2) (y.1, y.2.1) = FD at *
              generalize hVU : valN (u.1, u.2.1) (y.1, y.2.2) t = VU at *
              generalize hVD : valN (u.1, u.2.2) (y.1, y.2.1) t = VD at *
              have hd1' : 1 ≤ y.1 - u.1 := by omega
              have hd2' : y.1 - u.1 ≤ 4000 := by omega
              generalize hDD : y.1 - u.1 = DD at *
              have CU := Lib.hid (conH_iff hFU hHIH.out hVU hDD)
              have CD := Lib.hid (conL_iff hFD hLOH.out hVD hDD)
              have hvU := Lib.hid hvU'
              have hvD := Lib.hid hvD'
              have hfU := Lib.hid hfU'
              have hfD := Lib.hid hfD'
              have hYY := Lib.hid hy
              have hSL2 := Lib.hid hsl
              have hSH2 := Lib.hid hsh
              obtain ⟨m1, m2⟩ := mul_bd (A := 300000000000001) (B := 4000) (a := HI - 1) (b := DD) (by omega) (by omega) (by omega) (by omega)
              obtain ⟨m3, m4⟩ := mul_bd (A := 300000000000001) (B := 4000) (a := HI) (b := DD) (by omega) (by omega) (by omega) (by omega)
              obtain ⟨m5, m6⟩ := mul_bd (A := 300000000000001) (B := 4000) (a := LO + 1) (b := DD) (by omega) (by omega) (by omega) (by omega)
              obtain ⟨m7, m8⟩ := mul_bd (A := 300000000000001) (B := 4000) (a := LO) (b := DD) (by omega) (by omega) (by omega) (by omega)
              have hn2 : X.length - (k + 1) - (j + 1) < X.length - (k + 1) - j := by omega
              have hbs : bx < wr.heap.size := (Array.getElem?_eq_some_iff.1 hXB).1
              have x0' := cell_heap (o := 0) hXB rfl
              have x1' := cell_heap (o := 1) hXB rfl
              have x2' := cell_heap (o := 2) hXB rfl
              clear hvU' hvD' hfU' hfD' hFU hFD hVU hVD hDD hpU hpD hy hsl hsh du dy hlt3
              cases FU <;> cases FD
              all_goals
                go_wp2_with (first
                  | (go_at_call 35; have q := hM; clear q; refine (hvD.out _).mono ?_; rintro e w7 ⟨rfl, hb7⟩; replace hU := heap_old hb7 hU; replace hD := heap_old hb7 hD; replace hXB := heap_old hb7 hXB; replace hKK := Below.next hKK (Nat.le_refl _) hb7; clear hb7 d0 d1 d2 d3; (have p0 := cell_heap (o := 0) hU rfl; have p1 := cell_heap (o := 1) hU rfl; have p2 := cell_heap (o := 2) hU rfl; have p3 := cell_heap (o := 3) hU rfl))
                  | (go_at_call 35; refine (hvU.out _).mono ?_; rintro e w6 ⟨rfl, hb6⟩; have hM := True.intro; have hU := heap_old hb6 (heap_alloc (X := (.cells #[.int .i64 u.1, .int .i64 u.2.2, .int .i64 y.1, .int .i64 y.2.1] 24)) (heap_new (wr.alloc (.cells #[.int .i64 y.1, .int .i64 y.2.1, .int .i64 y.2.2] 66)) (.cells #[.int .i64 u.1, .int .i64 u.2.1, .int .i64 y.1, .int .i64 y.2.2] 24) (b := wr.heap.size + 1) (by simp))); have hD := heap_old hb6 (heap_new ((wr.alloc (.cells #[.int .i64 y.1, .int .i64 y.2.1, .int .i64 y.2.2] 66)).alloc (.cells #[.int .i64 u.1, .int .i64 u.2.1, .int .i64 y.1, .int .i64 y.2.2] 24)) (.cells #[.int .i64 u.1, .int .i64 u.2.2, .int .i64 y.1, .int .i64 y.2.1] 24) (b := wr.heap.size + 1 + 1) (by simp)); have hKK : Below w4.heap.size w4 w6 := Below.trans (((hb0.alloc hb0.size (.cells #[.int .i64 y.1, .int .i64 y.2.1, .int .i64 y.2.2] 66)).alloc (by have := hb0.size; simp; omega) (.cells #[.int .i64 u.1, .int .i64 u.2.1, .int .i64 y.1, .int .i64 y.2.2] 24)).alloc (by have := hb0.size; simp; omega) (.cells #[.int .i64 u.1, .int .i64 u.2.2, .int .i64 y.1, .int .i64 y.2.1] 24)) (hb6.mono (by have := hb0.size; simp; omega)); replace hXB := heap_old hb6 (heap_alloc (X := (.cells #[.int .i64 u.1, .int .i64 u.2.2, .int .i64 y.1, .int .i64 y.2.1] 24)) (heap_alloc (X := (.cells #[.int .i64 u.1, .int .i64 u.2.1, .int .i64 y.1, .int .i64 y.2.2] 24)) (heap_alloc (X := (.cells #[.int .i64 y.1, .int .i64 y.2.1, .int .i64 y.2.2] 66)) hXB))); clear hb6 x0' x1' x2' c0 c1 c2; (have d0 := cell_heap (o := 0) hD rfl; have d1 := cell_heap (o := 1) hD rfl; have d2 := cell_heap (o := 2) hD rfl; have d3 := cell_heap (o := 3) hD rfl))
                  | (go_at_call 33; have q := hM2; clear q; refine (hfD.out _ (hS.out.below (Below.next hK4 (Nat.le_refl _) hKK))).mono ?_; rintro e w9 ⟨rfl, hb9⟩; replace hXB := heap_old hb9 hXB; replace hKK := Below.next hKK (Nat.le_refl _) hb9; clear hb9 d0 d1 d2 d3 r0 r1; have hR9 := heap_old hKK hR; have r0 := cell_heap (o := 0) hR9 rfl; have r1 := cell_heap (o := 1) hR9 rfl)
                  | (go_at_call 33; refine (hfU.out _ (hS.out.below (Below.next hK4 (Nat.le_refl _) hKK))).mono ?_; rintro e w8 ⟨rfl, hb8⟩; have hM2 := True.intro; replace hD := heap_old hb8 hD; replace hXB := heap_old hb8 hXB; replace hKK := Below.next hKK (Nat.le_refl _) hb8; clear hb8 p0 p1 p2 p3; (have d0 := cell_heap (o := 0) hD rfl; have d1 := cell_heap (o := 1) hD rfl; have d2 := cell_heap (o := 2) hD rfl; have d3 := cell_heap (o := 3) hD rfl); have hR8 := heap_old hKK hR; have r0 := cell_heap (o := 0) hR8 rfl; have r1 := cell_heap (o := 1) hR8 rfl))
                all_goals
                  refine ⟨⟨j + 1, _, _, by omega, by simp, rfl, rfl, seenP_next hSL2.out hUU.out hYY.out ?_ ?_, seenP_next hSH2.out hUU.out hYY.out ?_ ?_, hKK, hXB⟩, by simpa [intOf] using hn2⟩
                  all_goals first
                    | exact fun _ => rfl
                    | exact fun q => q
                    | (intro q; rw [CU.out] at q; first | (simp at q; done) | (simp at q; omega))
                    | (intro q; rw [CD.out] at q; first | (simp at q; done) | (simp at q; omega))
            · have hjj : j = X.length - (k + 1) := by omega
              have e1 := seenP_out hsl hge2
              have e2 := seenP_out hsh hge2
              clear hsl hsh
              have E1 := Lib.hid e1
              have E2 := Lib.hid e2
              clear e1 e2 hjj
              go_wp2_with fail
              exact ⟨⟨k + 1, bl2, bh2, hlt, by simp, rfl, rfl, E1.out, E2.out, hb0⟩, by simpa [intOf] using hnx⟩
        · obtain rfl : k = X.length := by omega
          have e1 := seenP_end hsl hEL.out
          have e2 := seenP_end hsh hEH.out
          subst e1 e2
          go_wp2_with fail
          go_ret
          exact ⟨rfl, Below.next hK4 (Nat.le_refl _) hb0⟩
    · have hE' : (linE l (ax : Int) (T + (1 + (ah : Int))) != 0) = true := by simpa using hL
      rw [linV_bad rfl hL] at hln
      clear hL
      generalize linE l (ax : Int) (T + (1 + (ah : Int))) = E at *
      go_enter Try.func9, Try.ntmps9
      go_wp2_with (first
        | (go_at_call 28; refine (awake33_any _).mono ?_; rintro e w1 ⟨rfl, hb1⟩; have hK := hb1)
        | (go_at_call 29; refine (hf.out _ (hS.out.below hK)).mono ?_; rintro e w2 ⟨rfl, hb2⟩; replace hK := Below.next hK (Nat.le_refl _) hb2; clear hb2; have k0 := ((after hK).1 _ _ (by rw [hK0.out]; rfl)).trans hK0.out)
        | (go_at_call 30; refine (hln.out _ (hS.out.below hK)).mono ?_; rintro e w3 ⟨rfl, hb3⟩; have hK3 := (Below.next hK (Nat.le_refl _) hb3); replace hK3 := hK3.alloc hK3.size (.cells #[.int .i64 0, .int .i64 0] 34); clear hb3 k0))
      go_ret
      exact ⟨rfl, hK3⟩
end Go.Proofs.Ytmdledlbkdcmnaa

/-
  The walk of the statement on attained ends, for every argument.
  Conditions: none.
-/
namespace Go.Proofs.Ytmdledlbkdcmnaa
open Go.RowKit
theorem pathAttained_walk (v : Value) (l : List SN) (a c : Int) (w : World) (h : Seens w v l) (a0 : 0 ≤ a) (c0 : 0 ≤ c) : Calls Try.prog 9 #[v, .int .u8 a, .int .u16 c] w fun e w' => e = .returned (.bool true) ∧ Below w.heap.size w w' := by
  cases hf : fewB l with
  | false => exact attained_few v l a c w h (.inl hf)
  | true =>
    rcases Nat.eq_zero_or_pos l.length with h0 | hpos
    · exact attained_few v l a c w h (.inr h0)
    · have e1 := Int.tmod_eq_emod_of_nonneg (a := a) (b := 3) a0
      have e2 := Int.tmod_eq_emod_of_nonneg (a := c) (b := 400) c0
      exact attained_some v l a c w h hf hpos (a % 3).toNat (c % 400).toNat (by rw [e1]; omega) (by rw [e2]; omega) (by omega) (by omega)
end Go.Proofs.Ytmdledlbkdcmnaa
