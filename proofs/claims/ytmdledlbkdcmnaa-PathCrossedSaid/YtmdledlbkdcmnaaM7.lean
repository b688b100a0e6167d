/-
  Contracts and laws, merged: ExList SeenOpen SeenOpen64 PathLaws Comes FallR FitPts CrossE.
  Conditions: none.
-/
import Derived.Test.YtmdledlbkdcmnaaM1
import Derived.Test.YtmdledlbkdcmnaaFlat
import Derived.Test.YtmdledlbkdcmnaaM2
import Derived.Test.YtmdledlbkdcmnaaM6
import Derived.Test.YtmdledlbkdcmnaaM5
set_option linter.unusedSimpArgs false
set_option linter.unusedVariables false
/-
  A list out of its parts.
  Conditions: none.
-/
namespace Go.Proofs.Ytmdledlbkdcmnaa
theorem exists_list {α : Type} (Q : Nat → α → Prop) : ∀ l : Nat, (∀ i, i < l → ∃ x, Q i x) → ∃ xs : List α, xs.length = l ∧ ∀ i x, xs[i]? = some x → Q i x
  | 0, _ => ⟨[], rfl, fun i x h => by simp at h⟩
  | l + 1, h => by
    obtain ⟨xs, h1, h2⟩ := exists_list Q l (fun i hi => h i (by omega))
    obtain ⟨x, hx⟩ := h l (by omega)
    refine ⟨xs ++ [x], by simp [h1], fun i y hy => ?_⟩
    rcases Nat.lt_or_ge i xs.length with hi | hi
    · rw [List.getElem?_append_left hi] at hy; exact h2 i y hy
    · rw [List.getElem?_append_right hi] at hy
      have hj : i - xs.length = 0 := by
        have := (List.getElem?_eq_some_iff.1 hy).1
        simp at this; omega
      rw [hj] at hy
      obtain rfl : x = y := by simpa using hy
      rw [show i = l by omega]; exact hx
end Go.Proofs.Ytmdledlbkdcmnaa

/-
  An argument that is a slice of observations.
  Conditions: none.
-/
namespace Go.Proofs.Ytmdledlbkdcmnaa
open Go.RowKit Go.Deep
section
variable {H : Type} {enc : TypeId × Value → H} {w : World} {base : Nat} {held : Bool}
set_option maxRecDepth 100000 in
theorem seens_open {r : Reach} {b0 : Nat} {v : Value} {d : DataW H} {p : List MemPlace} (hv : Value.okWide Try.prog w r b0 22 v) (h : DataW.Trod enc Try.prog w base (fun _ => true) held 22 v d p) : ∃ l, Seens w v l := by
  obtain ⟨pa, len, cap, rfl⟩ := Go.WideShapes.okWide_slice Try.underlying22 hv
  obtain ⟨fuel, hf⟩ := h
  rcases Go.Deep.open_slice Try.underlying22 hf with ⟨h1, _⟩ | ⟨a, l, c, m, n, D, Pl, h1, h2, h3, h4, h5, h6, h7⟩
  · simp only [Value.cells, List.cons.injEq, and_true, Value.slice.injEq] at h1
    obtain ⟨rfl, rfl, rfl⟩ := h1
    exact ⟨[], none, 0, 0, 0, rfl, fun h => by simp at h, by simp, by omega, fun i p h => by simp at h⟩
  · simp only [Value.cells, List.cons.injEq, and_true, Value.slice.injEq] at h1
    obtain ⟨rfl, rfl, rfl⟩ := h1
    have hm : len ≤ m := by rw [h5]; simpa using h3
    have hC : Try.prog.cellsOf 38 = 5 := by kernel_rfl
    obtain ⟨ps, e1, e2⟩ := exists_list (fun i (s : SN) => w.cell? (a.add (i * 5)) = some (.int .i64 s.1) ∧ w.cell? (a.add (i * 5 + 1)) = some (.int .i64 s.2.1) ∧ w.cell? (a.add (i * 5 + 2)) = some (.int .i64 s.2.2.1) ∧ w.cell? (a.add (i * 5 + 3)) = some (.int .i64 s.2.2.2.1) ∧ w.cell? (a.add (i * 5 + 4)) = some (.int .i64 s.2.2.2.2)) len (fun i hi => by
      obtain ⟨cs, k1, k2⟩ := h7 i (by omega)
      rw [hC] at k1
      obtain ⟨_, hlen, hcell⟩ := World.cells?_some k1
      obtain ⟨xs, hx, hc, _⟩ := leaf_ints (n := 8) (k := .i64) (N := 5) (by kernel_rfl) hlen k2
      obtain ⟨x0, x1, x2, x3, x4, rfl⟩ := len5 hx
      have g0 := hcell 0 (by omega)
      have g1 := hcell 1 (by omega)
      have g2 := hcell 2 (by omega)
      have g3 := hcell 3 (by omega)
      have g4 := hcell 4 (by omega)
      rw [Go.Deep.add_add, hc] at g0 g1 g2 g3 g4
      exact ⟨(x0, x1, x2, x3, x4), by simpa using g0, by simpa using g1, by simpa using g2, by simpa using g3, by simpa using g4⟩)
    rcases Nat.eq_zero_or_pos len with h0 | h0
    · exact ⟨ps, some a, 0, 0, cap, by rw [e1], fun h => by omega, by omega, h4, fun i q hq => by have := (List.getElem?_eq_some_iff.1 hq).1; omega⟩
    · obtain ⟨b, off, spot⟩ := a
      obtain ⟨q0, hq0⟩ : ∃ q, ps[0]? = some q := ⟨_, List.getElem?_eq_getElem (by omega)⟩
      have hspot : spot = none := by simpa [Addr.add] using World.cell?_spot (e2 0 q0 hq0).1
      subst hspot
      refine ⟨ps, _, b, off, cap, by rw [e1], fun _ => rfl, by omega, h4, fun i q hq => ?_⟩
      obtain ⟨c0, c1, c2, c3, c4⟩ := e2 i q hq
      rw [Addr.add_lit] at c0 c1 c2 c3 c4
      exact ⟨c0, by rw [Nat.add_assoc]; exact c1, by rw [Nat.add_assoc]; exact c2, by rw [Nat.add_assoc]; exact c3, by rw [Nat.add_assoc]; exact c4⟩
end
end Go.Proofs.Ytmdledlbkdcmnaa

/-
  An argument that is a slice of observations; its numbers have 64 bits.
  Conditions: none.
-/
namespace Go.Proofs.Ytmdledlbkdcmnaa
open Go.RowKit Go.Deep
section
variable {H : Type} {enc : TypeId × Value → H} {w : World} {base : Nat} {held : Bool}
set_option maxRecDepth 100000 in
theorem seens_open64 {r : Reach} {b0 : Nat} {v : Value} {d : DataW H} {p : List MemPlace} (hv : Value.okWide Try.prog w r b0 22 v) (h : DataW.Trod enc Try.prog w base (fun _ => true) held 22 v d p) : ∃ l, Seens w v l ∧ ∀ s ∈ l, y64 s := by
  obtain ⟨pa, len, cap, rfl⟩ := Go.WideShapes.okWide_slice Try.underlying22 hv
  obtain ⟨fuel, hf⟩ := h
  rcases Go.Deep.open_slice Try.underlying22 hf with ⟨h1, _⟩ | ⟨a, l, c, m, n, D, Pl, h1, h2, h3, h4, h5, h6, h7⟩
  · simp only [Value.cells, List.cons.injEq, and_true, Value.slice.injEq] at h1
    obtain ⟨rfl, rfl, rfl⟩ := h1
    exact ⟨[], ⟨none, 0, 0, 0, rfl, fun h => by simp at h, by simp, by omega, fun i p h => by simp at h⟩, fun s hs => by simp at hs⟩
  · simp only [Value.cells, List.cons.injEq, and_true, Value.slice.injEq] at h1
    obtain ⟨rfl, rfl, rfl⟩ := h1
    have hm : len ≤ m := by rw [h5]; simpa using h3
    have hC : Try.prog.cellsOf 38 = 5 := by kernel_rfl
    obtain ⟨ps, e1, e2⟩ := exists_list (fun i (s : SN) => w.cell? (a.add (i * 5)) = some (.int .i64 s.1) ∧ w.cell? (a.add (i * 5 + 1)) = some (.int .i64 s.2.1) ∧ w.cell? (a.add (i * 5 + 2)) = some (.int .i64 s.2.2.1) ∧ w.cell? (a.add (i * 5 + 3)) = some (.int .i64 s.2.2.2.1) ∧ w.cell? (a.add (i * 5 + 4)) = some (.int .i64 s.2.2.2.2) ∧ y64 s) len (fun i hi => by
      obtain ⟨cs, k1, k2⟩ := h7 i (by omega)
      rw [hC] at k1
      obtain ⟨_, hlen, hcell⟩ := World.cells?_some k1
      obtain ⟨xs, hx, hc, hw⟩ := leaf_ints (n := 8) (k := .i64) (N := 5) (by kernel_rfl) hlen k2
      obtain ⟨x0, x1, x2, x3, x4, rfl⟩ := len5 hx
      have g0 := hcell 0 (by omega)
      have g1 := hcell 1 (by omega)
      have g2 := hcell 2 (by omega)
      have g3 := hcell 3 (by omega)
      have g4 := hcell 4 (by omega)
      rw [Go.Deep.add_add, hc] at g0 g1 g2 g3 g4
      exact ⟨(x0, x1, x2, x3, x4), by simpa using g0, by simpa using g1, by simpa using g2, by simpa using g3, by simpa using g4, bounds_i64 (hw x2 (by simp))⟩)
    have hyy : ∀ s ∈ ps, y64 s := by
      intro s hs
      obtain ⟨i, hi, rfl⟩ := List.getElem_of_mem hs
      exact (e2 i _ (List.getElem?_eq_getElem hi)).2.2.2.2.2
    rcases Nat.eq_zero_or_pos len with h0 | h0
    · exact ⟨ps, ⟨some a, 0, 0, cap, by rw [e1], fun h => by omega, by omega, h4, fun i q hq => by have := (List.getElem?_eq_some_iff.1 hq).1; omega⟩, hyy⟩
    · obtain ⟨b, off, spot⟩ := a
      obtain ⟨q0, hq0⟩ : ∃ q, ps[0]? = some q := ⟨_, List.getElem?_eq_getElem (by omega)⟩
      have hspot : spot = none := by simpa [Addr.add] using World.cell?_spot (e2 0 q0 hq0).1
      subst hspot
      refine ⟨ps, ⟨_, b, off, cap, by rw [e1], fun _ => rfl, by omega, h4, fun i q hq => ?_⟩, hyy⟩
      obtain ⟨c0, c1, c2, c3, c4, _⟩ := e2 i q hq
      rw [Addr.add_lit] at c0 c1 c2 c3 c4
      exact ⟨c0, by rw [Nat.add_assoc]; exact c1, by rw [Nat.add_assoc]; exact c2, by rw [Nat.add_assoc]; exact c3, by rw [Nat.add_assoc]; exact c4⟩
end
end Go.Proofs.Ytmdledlbkdcmnaa

/-
  The walks of the statements on enclosures: the example, the limit, Lines, Possible.
  Conditions: none.
-/
namespace Go.Proofs.Ytmdledlbkdcmnaa
open Go.RowKit
theorem cell_add' {W : World} {b o j : Nat} {c : Array Value} {t : TypeId} {fr : Nat × Nat} {v : Value} (h : W.heap[b]? = some (.cells c t fr)) (e : o = j) (hv : c[j]? = some v) : W.cell? ⟨b, o, none⟩ = some v := by
  subst e; exact cell_heap h hv
theorem seens_lit {W : World} {b : Nat} {t : TypeId} {fr : Nat × Nat} (h : W.heap[b]? = some (.cells #[.int .i64 0, .int .i64 1000, .int .i64 0, .int .i64 5000, .int .i64 10, .int .i64 10, .int .i64 0, .int .i64 0, .int .i64 4000, .int .i64 10] t fr)) : Seens W (.slice (some ⟨b, 0, none⟩) 2 2) [(0, 1000, 0, 5000, 10), (10, 0, 0, 4000, 10)] := by
  refine ⟨_, b, 0, 2, rfl, fun _ => rfl, Nat.le_refl _, by unfold maxLen; omega, fun i p hp => ?_⟩
  match i, hp with
  | 0, hp => obtain rfl : ((0 : Int), (1000 : Int), (0 : Int), (5000 : Int), (10 : Int)) = p := by simpa using hp
             exact ⟨cell_add' h rfl rfl, cell_add' h rfl rfl, cell_add' h rfl rfl, cell_add' h rfl rfl, cell_add' h rfl rfl⟩
  | 1, hp => obtain rfl : ((10 : Int), (0 : Int), (0 : Int), (4000 : Int), (10 : Int)) = p := by simpa using hp
             exact ⟨cell_add' h rfl rfl, cell_add' h rfl rfl, cell_add' h rfl rfl, cell_add' h rfl rfl, cell_add' h rfl rfl⟩
  | i + 2, hp => simp at hp
theorem lines_ex1 : linV [(0, 1000, 0, 5000, 10), (10, 0, 0, 4000, 10)] 0 10 = .tuple #[.agg #[.int .i64 (-10), .int .i64 10], .int .i64 0] := by kernel_rfl
theorem lines_ex2 : linV [(0, 1000, 0, 5000, 10), (10, 0, 0, 4000, 10)] 0 20 = .tuple #[.agg #[.int .i64 (-1030), .int .i64 (-970)], .int .i64 0] := by kernel_rfl
theorem lines_at1 (W : World) (b : Nat) (t : TypeId) (fr : Nat × Nat) (h : W.heap[b]? = some (.cells #[.int .i64 0, .int .i64 1000, .int .i64 0, .int .i64 5000, .int .i64 10, .int .i64 10, .int .i64 0, .int .i64 0, .int .i64 4000, .int .i64 10] t fr)) :
    Calls Try.prog 30 #[.slice (some ⟨b, 0, none⟩) 2 2, .int .i64 0, .int .i64 10] W fun e w' => e = .returned (.tuple #[.agg #[.int .i64 (-10), .int .i64 10], .int .i64 0]) ∧ Below W.heap.size W w' := by
  rw [← lines_ex1]; exact lines_any _ _ _ _ _ (seens_lit h)
theorem lines_at2 (W : World) (b : Nat) (t : TypeId) (fr : Nat × Nat) (h : W.heap[b]? = some (.cells #[.int .i64 0, .int .i64 1000, .int .i64 0, .int .i64 5000, .int .i64 10, .int .i64 10, .int .i64 0, .int .i64 0, .int .i64 4000, .int .i64 10] t fr)) :
    Calls Try.prog 30 #[.slice (some ⟨b, 0, none⟩) 2 2, .int .i64 0, .int .i64 20] W fun e w' => e = .returned (.tuple #[.agg #[.int .i64 (-1030), .int .i64 (-970)], .int .i64 0]) ∧ Below W.heap.size W w' := by
  rw [← lines_ex2]; exact lines_any _ _ _ _ _ (seens_lit h)
set_option maxRecDepth 100000 in
set_option maxHeartbeats 4000000 in
theorem awake33_any (w : World) : Calls Try.prog 28 #[] w fun e w' => e = .returned (.bool true) ∧ Below w.heap.size w w' := by
  go_enter Try.func28, Try.ntmps28
  go_wp2_with (first
    | (go_at_call_of 30 (Value.int IntKind.i64 10); refine (lines_at1 _ _ _ _ (heap_new _ _ rfl)).mono ?_; rintro e w1 ⟨rfl, hb1⟩; have hL := heap_alloc (X := .cells #[.int .i64 (-10), .int .i64 10] 34) (heap_old hb1 (heap_new w _ rfl)); have hK := Below.next1 (Below.refl _ _) (Nat.le_refl _) hb1; have hA := heap_new w1 (.cells #[.int .i64 (-10), .int .i64 10] 34) rfl)
    | (go_at_call_of 30 (Value.int IntKind.i64 20); refine (lines_at2 _ _ _ _ hL).mono ?_; rintro e w2 ⟨rfl, hb2⟩; replace hK := Below.next1 hK (Nat.le_refl _) hb2; replace hA := heap_old hb2 hA; have a0 := cell_heap (o := 0) hA rfl; have a1 := cell_heap (o := 1) hA rfl))
  go_ret
  exact ⟨rfl, hK.alloc hK.size _⟩
def fewB (l : List SN) : Bool := decide (l.length ≤ 12) || (decide (64 < l.length) && decide (l.length ≤ 200))
theorem few_any (v : Value) (l : List SN) (w : World) (h : Seens w v l) : Calls Try.prog 29 #[v] w fun e w' => e = .returned (.bool (fewB l)) ∧ Below w.heap.size w w' := by
  obtain ⟨pa, b, o, cap, rfl, h1, h2, h3, h4⟩ := h
  go_enter Try.func29, Try.ntmps29
  go_wp2_with fail
  all_goals (go_ret; refine ⟨ret_bool ?_, (by repeat (first | with_reducible exact Below.refl _ _ | with_reducible assumption | with_reducible refine Below.drew ?_ | with_reducible refine Below.setCell ?_ (by first | omega | (simp; omega) | simp) _ | with_reducible refine Below.alloc ?_ (by first | omega | (simp; omega) | simp) _ | with_reducible refine Below.trans ?_ (Below.mono (by with_reducible assumption) (by first | omega | (simp; omega) | simp))))⟩; unfold fewB; grind)
set_option maxRecDepth 100000 in
set_option maxHeartbeats 4000000 in
theorem pathLines_walk (v : Value) (l : List SN) (ax t : Int) (w : World) (h : Seens w v l) : Calls Try.prog 5 #[v, .int .i64 ax, .int .i64 t] w fun e w' => e = .returned (.bool true) ∧ Below w.heap.size w w' := by
  have hf := Lib.hid (fun w' (h : Seens w' v l) => few_any v l w' h)
  have h1 := Lib.hid (fun w' (h : Seens w' v l) => lines_any v l ax t w' h)
  have h2 := Lib.hid (fun w' (h : Seens w' v l) => rlines_any v l ax t w' h)
  unfold linV at h1 h2
  generalize linLo l ax t = A at *
  generalize linHi l ax t = B at *
  generalize linE l ax t = E at *
  generalize fewB l = fb at *
  cases fb
  all_goals
    go_enter Try.func5, Try.ntmps5
    go_wp2_with (first
      | (go_at_call 28; refine (awake33_any _).mono ?_; rintro e w1 ⟨rfl, hK⟩)
      | (go_at_call 29; refine (hf.out _ (h.below hK)).mono ?_; rintro e w2 ⟨rfl, hb2⟩; replace hK := Below.next hK (Nat.le_refl _) hb2; clear hb2)
      | (go_at_call 30; refine (h1.out _ (h.below hK)).mono ?_; rintro e w3 ⟨rfl, hb3⟩; replace hK := Below.next hK (Nat.le_refl _) hb3; have hA := heap_new w3 (.cells #[.int .i64 A, .int .i64 B] 34) rfl)
      | (go_at_call 31; refine (h2.out _ (h.below (hK.alloc hK.size _))).mono ?_; rintro e w4 ⟨rfl, hb4⟩; replace hK := Below.next1 hK (Nat.le_refl _) hb4; replace hA := heap_old hb4 hA; have a0 := cell_heap (o := 0) hA rfl; have a1 := cell_heap (o := 1) hA rfl))
    go_ret
    first | exact ⟨rfl, hK⟩ | exact ⟨rfl, hK.alloc hK.size _⟩
set_option maxRecDepth 100000 in
set_option maxHeartbeats 4000000 in
theorem pathPossible_walk (v : Value) (l : List SN) (w : World) (h : Seens w v l) : Calls Try.prog 6 #[v] w fun e w' => e = .returned (.bool true) ∧ Below w.heap.size w w' := by
  have hf := Lib.hid (fun w' (h : Seens w' v l) => few_any v l w' h)
  have h1 := Lib.hid (fun w' (h : Seens w' v l) => possible_any v l w' h)
  have h2 := Lib.hid (fun w' (h : Seens w' v l) => rpos_any v l w' h)
  unfold posV at h1 h2
  generalize posOk l = A at *
  generalize behE l = E at *
  generalize fewB l = fb at *
  cases fb
  all_goals
    go_enter Try.func6, Try.ntmps6
    go_wp2_with (first
      | (go_at_call 28; refine (awake33_any _).mono ?_; rintro e w1 ⟨rfl, hK⟩)
      | (go_at_call 29; refine (hf.out _ (h.below hK)).mono ?_; rintro e w2 ⟨rfl, hb2⟩; replace hK := Below.next hK (Nat.le_refl _) hb2; clear hb2)
      | (go_at_call 20; refine (h1.out _ (h.below hK)).mono ?_; rintro e w3 ⟨rfl, hb3⟩; replace hK := Below.next hK (Nat.le_refl _) hb3)
      | (go_at_call 32; refine (h2.out _ (h.below hK)).mono ?_; rintro e w4 ⟨rfl, hb4⟩; replace hK := Below.next hK (Nat.le_refl _) hb4))
    go_ret
    exact ⟨rfl, hK⟩
end Go.Proofs.Ytmdledlbkdcmnaa

/-
  Contracts of path.crossing and of the reference's coming.
  Conditions: none.
-/
namespace Go.Proofs.Ytmdledlbkdcmnaa
open Go.RowKit
theorem come_bX {S : List SN} {i j : Nat} {a b : SN} (ha : S[i]? = some a) (hb : S[j]? = some b) : comeAt (bnds 0 S) i j = decide (b.2.1 + b.2.2.2.2 < a.2.1 - a.2.2.2.2) := by
  have e1 : (bnds 0 S)[i]? = some (bX a) := by unfold bnds; rw [List.getElem?_map, ha]; rfl
  have e2 : (bnds 0 S)[j]? = some (bX b) := by unfold bnds; rw [List.getElem?_map, hb]; rfl
  rw [comeAt_some e1 e2]; rfl
def comE (X : List BD) : Int := if comes X = true then 0 else 8
theorem comE_yes {X : List BD} (h : ∀ i j, i < j → j < X.length → comeAt X i j = true) : 0 = comE X := by unfold comE; rw [if_pos (comes_iff.2 h)]
theorem comE_no {X : List BD} {i j : Nat} (hi : i < j) (hj : j < X.length) (h : comeAt X i j = false) : 8 = comE X := by unfold comE; rw [if_neg (by rw [comes_no hi hj h]; simp)]
set_option maxRecDepth 100000 in
set_option maxHeartbeats 4000000 in
theorem crossing_any (v : Value) (S : List SN) (w : World) (h : Seens w v S) (hok : ∀ s ∈ S, okS s = true) (hl : S.length ≤ 64) : Calls Try.prog 78 #[v] w fun e w' => e = .returned (.int .i64 (comE (bnds 0 S))) ∧ Below w.heap.size w w' := by
  obtain ⟨pa, b, o, cap, rfl, h1, h2, h3, h4⟩ := h
  have hcap : cap ≤ 9223372036854775807 := by unfold maxLen at h3; omega
  have hK := Lib.hid hok
  have hlen := bnds_len 0 S
  have hY := Lib.hid (comE_yes (X := bnds 0 S))
  have hNo := Lib.hid (fun i j => comE_no (X := bnds 0 S) (i := i) (j := j))
  clear hok
  go_enter Try.func78, Try.ntmps78
  go_wp2_with fail
  go_loopw [9] (fun x wr => ∃ j : Nat, j ≤ S.length ∧ x = .int .i64 j ∧ Below w.heap.size w wr ∧ ∀ i j', j' < j → i < j' → comeAt (bnds 0 S) i j' = true) (fun x _ => S.length - (intOf x).toNat)
  case atStart => exact ⟨0, by omega, rfl, (by repeat (first | with_reducible exact Below.refl _ _ | with_reducible assumption | with_reducible refine Below.drew ?_ | with_reducible refine Below.setCell ?_ (by first | omega | (simp; omega) | simp) _ | with_reducible refine Below.alloc ?_ (by first | omega | (simp; omega) | simp) _ | with_reducible refine Below.trans ?_ (Below.mono (by with_reducible assumption) (by first | omega | (simp; omega) | simp)))), fun _ _ h => by omega⟩
  case round =>
    obtain ⟨j, hj, rfl, hb0, hP⟩ := hrel
    rcases Nat.lt_or_ge j S.length with hlt | hge
    · obtain rfl := h1 (by omega)
      obtain ⟨c, hc⟩ := some_of' (l := S) hlt
      obtain ⟨c0, c1, c2, c3, c4⟩ := (h4 j c hc).below hb0
      obtain ⟨_, ⟨cx1, cx2⟩, _, _, ce1, ce2⟩ := okS_iff.1 (hK.out c (List.mem_of_getElem? hc))
      have hC := Lib.hid hc
      have hPP := Lib.hid hP
      have hn : S.length - (j + 1) < S.length - j := by omega
      have hjc : j ≤ cap := by omega
      have hsz := hb0.size
      clear hc hP
      go_wp2_with fail
      have hX := heap_new wr (.cells #[.int .i64 c.1, .int .i64 c.2.1, .int .i64 c.2.2.1, .int .i64 c.2.2.2.1, .int .i64 c.2.2.2.2] 38) rfl
      have hBX : Below w.heap.size w (wr.alloc (.cells #[.int .i64 c.1, .int .i64 c.2.1, .int .i64 c.2.2.1, .int .i64 c.2.2.2.1, .int .i64 c.2.2.2.2] 38)) := (by repeat (first | with_reducible exact Below.refl _ _ | with_reducible assumption | with_reducible refine Below.drew ?_ | with_reducible refine Below.setCell ?_ (by first | omega | (simp; omega) | simp) _ | with_reducible refine Below.alloc ?_ (by first | omega | (simp; omega) | simp) _ | with_reducible refine Below.trans ?_ (Below.mono (by with_reducible assumption) (by first | omega | (simp; omega) | simp))))
      generalize wr.alloc (.cells #[.int .i64 c.1, .int .i64 c.2.1, .int .i64 c.2.2.1, .int .i64 c.2.2.2.1, .int .i64 c.2.2.2.2] 38) = wx at hX hBX ⊢
      clear c0 c1 c2 c3 c4
      generalize wr.heap.size = bx at hX hsz ⊢
      go_loopw [18] (fun x w2 => ∃ i : Nat, i ≤ j ∧ x = .int .i64 i ∧ Below w.heap.size w w2 ∧ w2.heap[bx]? = some (.cells #[.int .i64 c.1, .int .i64 c.2.1, .int .i64 c.2.2.1, .int .i64 c.2.2.2.1, .int .i64 c.2.2.2.2] 38 (0, 0)) ∧ ∀ i', i' < i → comeAt (bnds 0 S) i' j = true) (fun x _ => j - (intOf x).toNat)
      case atStart => exact ⟨0, by omega, rfl, hBX, hX, fun _ h => by omega⟩
      case round =>
        obtain ⟨i, hi, rfl, hb1, hX1, hP2⟩ := hrel
        rcases Nat.lt_or_ge i j with hij | hij
        · obtain ⟨a, ha⟩ := some_of' (l := S) (show i < S.length by omega)
          obtain ⟨a0, a1, a2, a3, a4⟩ := (h4 i a ha).below hb1
          obtain ⟨_, ⟨ax1, ax2⟩, _, _, ae1, ae2⟩ := okS_iff.1 (hK.out a (List.mem_of_getElem? ha))
          have hT := Lib.hid (come_bX ha hC.out)
          have hPP2 := Lib.hid hP2
          have hn2 : j - (i + 1) < j - i := by omega
          have hltX := (Array.getElem?_eq_some_iff.1 hX1).1
          have hsz1 := hb1.size
          have x1 := cell_heap (o := 1) hX1 rfl
          have x4 := cell_heap (o := 4) hX1 rfl
          clear ha hP2
          go_wp2_with fail
          all_goals first
            | (go_ret; exact ⟨ret_int (hNo.out i j hij (by rw [hlen]; exact hlt) (by rw [hT.out]; simp; omega)), (by repeat (first | with_reducible exact Below.refl _ _ | with_reducible assumption | with_reducible refine Below.drew ?_ | with_reducible refine Below.setCell ?_ (by first | omega | (simp; omega) | simp) _ | with_reducible refine Below.alloc ?_ (by first | omega | (simp; omega) | simp) _ | with_reducible refine Below.trans ?_ (Below.mono (by with_reducible assumption) (by first | omega | (simp; omega) | simp))))⟩)
            | (refine ⟨⟨i + 1, hij, by simp, (by repeat (first | with_reducible exact Below.refl _ _ | with_reducible assumption | with_reducible refine Below.drew ?_ | with_reducible refine Below.setCell ?_ (by first | omega | (simp; omega) | simp) _ | with_reducible refine Below.alloc ?_ (by first | omega | (simp; omega) | simp) _ | with_reducible refine Below.trans ?_ (Below.mono (by with_reducible assumption) (by first | omega | (simp; omega) | simp)))), heap_alloc hX1, fun i' hi' => ?_⟩, by simpa [intOf] using hn2⟩
               rcases Nat.lt_or_eq_of_le (Nat.le_of_lt_succ hi') with h | rfl
               · exact hPP2.out i' h
               · rw [hT.out]; simp; omega)
        · obtain rfl : i = j := by omega
          have hPP2 := Lib.hid hP2
          clear hP2
          go_wp2_with fail
          refine ⟨⟨i + 1, hlt, by simp, hb1, fun i' j' hj' hi' => ?_⟩, by simpa [intOf] using hn⟩
          rcases Nat.lt_or_eq_of_le (Nat.le_of_lt_succ hj') with h | rfl
          · exact hPP.out i' j' h hi'
          · exact hPP2.out i' hi'
    · have hall := Lib.hid (hY.out fun i j' hi hj' => hP i j' (by omega) hi)
      clear hP
      obtain rfl : j = S.length := by omega
      go_wp2_with fail
      go_ret
      exact ⟨ret_int hall.out, hb0⟩
set_option maxRecDepth 100000 in
set_option maxHeartbeats 4000000 in
theorem coming_any (v : Value) (X : List BD) (w : World) (h : Bnds w v X) (hl : X.length ≤ 64) : Calls Try.prog 80 #[v] w fun e w' => e = .returned (.bool (comes X)) ∧ Below w.heap.size w w' := by
  obtain ⟨pa, b, o, cap, rfl, h1, h2, h3, h4⟩ := h
  have hcap : cap ≤ 9223372036854775807 := by unfold maxLen at h3; omega
  go_enter Try.func80, Try.ntmps80
  go_wp2_with fail
  go_loopw [9] (fun x wr => ∃ i : Nat, i ≤ X.length ∧ x = .int .i64 i ∧ Below w.heap.size w wr ∧ ∀ i' j, i' < i → i' < j → j < X.length → comeAt X i' j = true) (fun x _ => X.length - (intOf x).toNat)
  case atStart => exact ⟨0, by omega, rfl, (by repeat (first | with_reducible exact Below.refl _ _ | with_reducible assumption | with_reducible refine Below.drew ?_ | with_reducible refine Below.setCell ?_ (by first | omega | (simp; omega) | simp) _ | with_reducible refine Below.alloc ?_ (by first | omega | (simp; omega) | simp) _ | with_reducible refine Below.trans ?_ (Below.mono (by with_reducible assumption) (by first | omega | (simp; omega) | simp)))), fun _ _ h => by omega⟩
  case round =>
    obtain ⟨i, hi, rfl, hb0, hP⟩ := hrel
    rcases Nat.lt_or_ge i X.length with hlt | hge
    · obtain rfl := h1 (by omega)
      obtain ⟨c, hc⟩ := some_of' (l := X) hlt
      obtain ⟨c0, c1, c2⟩ := cB_at (cells_below (h4 i c hc) hb0)
      have hC := Lib.hid hc
      have hPP := Lib.hid hP
      have hn : X.length - (i + 1) < X.length - i := by omega
      have hsz := hb0.size
      clear hc hP
      by_cases hend : X.length = i + 1
      · have h0 : X.length - (i + 1) = 0 := by omega
        have hPn : ∀ i' j, i' < i + 1 → i' < j → j < X.length → comeAt X i' j = true := fun i' j h1 h2 h3 => by
          rcases Nat.lt_or_eq_of_le (Nat.le_of_lt_succ h1) with h | rfl
          · exact hPP.out i' j h h2 h3
          · omega
        have hPN := Lib.hid hPn
        clear hPn hend
        by_cases hc1 : cap = i + 1
        · subst hc1
          go_wp2_with fail
          go_loopw [19] (fun x w2 => x = .int .i64 0 ∧ Below w.heap.size w w2) (fun _ _ => 0)
          case atStart => exact ⟨rfl, (by repeat (first | with_reducible exact Below.refl _ _ | with_reducible assumption | with_reducible refine Below.drew ?_ | with_reducible refine Below.setCell ?_ (by first | omega | (simp; omega) | simp) _ | with_reducible refine Below.alloc ?_ (by first | omega | (simp; omega) | simp) _ | with_reducible refine Below.trans ?_ (Below.mono (by with_reducible assumption) (by first | omega | (simp; omega) | simp))))⟩
          case round =>
            obtain ⟨rfl, hb1⟩ := hrel
            go_wp2_with fail
            exact ⟨⟨i + 1, hlt, by simp, hb1, hPN.out⟩, by simpa [intOf] using hn⟩
        · go_wp2_with fail
          go_loopw [19] (fun x w2 => x = .int .i64 0 ∧ Below w.heap.size w w2) (fun _ _ => 0)
          case atStart => exact ⟨rfl, (by repeat (first | with_reducible exact Below.refl _ _ | with_reducible assumption | with_reducible refine Below.drew ?_ | with_reducible refine Below.setCell ?_ (by first | omega | (simp; omega) | simp) _ | with_reducible refine Below.alloc ?_ (by first | omega | (simp; omega) | simp) _ | with_reducible refine Below.trans ?_ (Below.mono (by with_reducible assumption) (by first | omega | (simp; omega) | simp))))⟩
          case round =>
            obtain ⟨rfl, hb1⟩ := hrel
            go_wp2_with fail
            exact ⟨⟨i + 1, hlt, by simp, hb1, hPN.out⟩, by simpa [intOf] using hn⟩
      have hcne : ¬cap = i + 1 := by omega
      go_wp2_with fail
      have hX0 := heap_new wr (.cells #[.int .i64 c.1, .int .i64 c.2.1, .int .i64 c.2.2] 116) rfl
      have hBX : Below w.heap.size w (wr.alloc (.cells #[.int .i64 c.1, .int .i64 c.2.1, .int .i64 c.2.2] 116)) := (by repeat (first | with_reducible exact Below.refl _ _ | with_reducible assumption | with_reducible refine Below.drew ?_ | with_reducible refine Below.setCell ?_ (by first | omega | (simp; omega) | simp) _ | with_reducible refine Below.alloc ?_ (by first | omega | (simp; omega) | simp) _ | with_reducible refine Below.trans ?_ (Below.mono (by with_reducible assumption) (by first | omega | (simp; omega) | simp))))
      generalize wr.alloc (.cells #[.int .i64 c.1, .int .i64 c.2.1, .int .i64 c.2.2] 116) = wx at hX0 hBX ⊢
      clear c0 c1 c2
      generalize wr.heap.size = bx at hX0 hsz ⊢
      go_loopw [19] (fun x w2 => ∃ m : Nat, m ≤ X.length - (i + 1) ∧ x = .int .i64 m ∧ Below w.heap.size w w2 ∧ w2.heap[bx]? = some (.cells #[.int .i64 c.1, .int .i64 c.2.1, .int .i64 c.2.2] 116 (0, 0)) ∧ ∀ j, i < j → j < i + 1 + m → comeAt X i j = true) (fun x _ => X.length - (i + 1) - (intOf x).toNat)
      case atStart => exact ⟨0, by omega, rfl, hBX, hX0, fun _ h h2 => by omega⟩
      case round =>
        obtain ⟨m, hm, rfl, hb1, hX1, hP2⟩ := hrel
        rcases Nat.lt_or_ge m (X.length - (i + 1)) with hml | hml
        · obtain ⟨d, hd⟩ := some_of' (l := X) (show i + 1 + m < X.length by omega)
          obtain ⟨d0, d1, d2⟩ := cB_at (cells_below (h4 (i + 1 + m) d hd) hb1)
          have he : o + (i + 1 + m) * 3 = o + (i + 1) * 3 + m * 3 := by omega
          rw [he] at d0 d1 d2
          have hT := Lib.hid (comeAt_some hC.out hd)
          have hPP2 := Lib.hid hP2
          have hn2 : X.length - (i + 1) - (m + 1) < X.length - (i + 1) - m := by omega
          have hltX := (Array.getElem?_eq_some_iff.1 hX1).1
          have hsz1 := hb1.size
          have x1 := cell_heap (o := 1) hX1 rfl
          clear hd hP2 he
          go_wp2_with fail
          all_goals first
            | (go_ret; exact ⟨ret_bool (comes_no (i := i) (j := i + 1 + m) (by omega) (by omega) (by rw [hT.out]; simp; omega)).symm, (by repeat (first | with_reducible exact Below.refl _ _ | with_reducible assumption | with_reducible refine Below.drew ?_ | with_reducible refine Below.setCell ?_ (by first | omega | (simp; omega) | simp) _ | with_reducible refine Below.alloc ?_ (by first | omega | (simp; omega) | simp) _ | with_reducible refine Below.trans ?_ (Below.mono (by with_reducible assumption) (by first | omega | (simp; omega) | simp))))⟩)
            | (refine ⟨⟨m + 1, hml, by simp, (by repeat (first | with_reducible exact Below.refl _ _ | with_reducible assumption | with_reducible refine Below.drew ?_ | with_reducible refine Below.setCell ?_ (by first | omega | (simp; omega) | simp) _ | with_reducible refine Below.alloc ?_ (by first | omega | (simp; omega) | simp) _ | with_reducible refine Below.trans ?_ (Below.mono (by with_reducible assumption) (by first | omega | (simp; omega) | simp)))), heap_alloc hX1, fun j h1 h2 => ?_⟩, by simpa [intOf] using hn2⟩
               by_cases hj : j = i + 1 + m
               · subst hj; rw [hT.out]; simp; omega
               · exact hPP2.out j h1 (by omega))
        · obtain rfl : m = X.length - (i + 1) := by omega
          have hPn : ∀ i' j, i' < i + 1 → i' < j → j < X.length → comeAt X i' j = true := fun i' j h1 h2 h3 => by
            rcases Nat.lt_or_eq_of_le (Nat.le_of_lt_succ h1) with h | rfl
            · exact hPP.out i' j h h2 h3
            · exact hP2 j h2 (by omega)
          have hPN := Lib.hid hPn
          clear hPn hP2
          go_wp2_with fail
          exact ⟨⟨i + 1, hlt, by simp, hb1, hPN.out⟩, by simpa [intOf] using hn⟩
    · have hall := Lib.hid (comes_iff.2 fun i' j h1 h2 => hP i' j (by omega) h1 h2)
      clear hP
      obtain rfl : i = X.length := by omega
      go_wp2_with fail
      go_ret
      exact ⟨ret_bool hall.out.symm, hb0⟩
end Go.Proofs.Ytmdledlbkdcmnaa

/-
  Contracts of the reference's Over for the scale of heights, and of lowered.
  Conditions: none.
-/
namespace Go.Proofs.Ytmdledlbkdcmnaa
open Go.RowKit
set_option maxRecDepth 100000 in
set_option maxHeartbeats 4000000 in
theorem rover_any (lo hi : Int) (w : World) (h1 : -400000000000000 ≤ lo) (h2 : lo ≤ 400000000000000) (h3 : -400000000000000 ≤ hi) (h4 : hi ≤ 400000000000000) :
    Calls Try.prog 111 #[.agg #[.int .i64 lo, .int .i64 hi], .int .i64 80000] w fun e w' => e = .returned (ovV lo hi) ∧ Below w.heap.size w w' := by
  have hv := fun w => rvalid_any lo hi w
  rw [valid_small h1 h2 h3 h4] at hv
  by_cases h : lo ≤ hi
  · have e1 : ovV lo hi = .tuple #[.agg #[.int .i64 (lo / 80000), .int .i64 (-(-hi / 80000))], .int .i64 0] := by unfold ovV; rw [if_pos h]
    rw [e1]
    rw [decide_eq_true h] at hv
    have hV := Lib.hid hv
    have hFl := Lib.hid (fun w => rfloordiv_any lo 80000 (by omega) (by omega) (by omega) (by omega) w)
    have hCe := Lib.hid (fun w => rceildiv_any hi 80000 (by omega) (by omega) (by omega) (by omega) w)
    clear hv e1
    generalize lo / 80000 = A at *
    generalize -(-hi / 80000) = B at *
    go_enter Try.func111, Try.ntmps111
    have hP := heap_alloc (X := .cells #[.int .i64 0, .int .i64 0] 34) (heap_new w (.cells #[.int .i64 lo, .int .i64 hi] 34) rfl)
    have hR := heap_new (w.alloc (.cells #[.int .i64 lo, .int .i64 hi] 34)) (.cells #[.int .i64 0, .int .i64 0] 34) (b := w.heap.size + 1) (by simp)
    go_wp2_with (go_at_call 127; refine (hV.out _).mono ?_; rintro e w1 ⟨rfl, hb1⟩; have hB : Below w.heap.size w w1 := Below.trans (by repeat (first | with_reducible exact Below.refl _ _ | with_reducible assumption | with_reducible refine Below.drew ?_ | with_reducible refine Below.setCell ?_ (by first | omega | (simp; omega) | simp) _ | with_reducible refine Below.alloc ?_ (by first | omega | (simp; omega) | simp) _ | with_reducible refine Below.trans ?_ (Below.mono (by with_reducible assumption) (by first | omega | (simp; omega) | simp)))) (hb1.mono (by simp; omega)); replace hP := heap_old hb1 hP; replace hR := heap_old hb1 hR; have p0 := cell_heap (o := 0) hP rfl; have p1 := cell_heap (o := 1) hP rfl)
    have hl := @Later.cell
    refine region_later (by kernel_rfl) (by kernel_rfl) ?_; (repeat (go_big_quiet_step (fail))); refine wpQuiet_nil ?_; rintro _ ⟨x, rfl⟩; obtain ⟨w', hb⟩ := x; (try clear hc hf); (try clear hcM hfM); (try clear hcN hfN); (first | ((first | replace hB := Below.next hB (Nat.le_refl _) hb | replace hB := Below.next1 hB (Nat.le_refl _) hb | replace hB := Below.next2 hB (Nat.le_refl _) hb); (first | replace hM := Below.next hM (Nat.le_refl _) hb | replace hM := Below.next1 hM (Nat.le_refl _) hb | replace hM := Below.next2 hM (Nat.le_refl _) hb); (first | replace hN := Below.next hN (Nat.le_refl _) hb | replace hN := Below.next1 hN (Nat.le_refl _) hb | replace hN := Below.next2 hN (Nat.le_refl _) hb)) | ((first | replace hB := Below.next hB (Nat.le_refl _) hb | replace hB := Below.next1 hB (Nat.le_refl _) hb | replace hB := Below.next2 hB (Nat.le_refl _) hb); (first | replace hM := Below.next hM (Nat.le_refl _) hb | replace hM := Below.next1 hM (Nat.le_refl _) hb | replace hM := Below.next2 hM (Nat.le_refl _) hb); have hN := Below.mid hb) | ((first | replace hB := Below.next hB (Nat.le_refl _) hb | replace hB := Below.next1 hB (Nat.le_refl _) hb | replace hB := Below.next2 hB (Nat.le_refl _) hb); (first | replace hM := Below.next hM (Nat.le_refl _) hb | replace hM := Below.next1 hM (Nat.le_refl _) hb | replace hM := Below.next2 hM (Nat.le_refl _) hb)) | ((first | replace hB := Below.next hB (Nat.le_refl _) hb | replace hB := Below.next1 hB (Nat.le_refl _) hb | replace hB := Below.next2 hB (Nat.le_refl _) hb); have hM := Below.mid hb) | (first | replace hB := Below.next hB (Nat.le_refl _) hb | replace hB := Below.next1 hB (Nat.le_refl _) hb | replace hB := Below.next2 hB (Nat.le_refl _) hb) | have hB := hb); obtain ⟨hc, hf, hz⟩ := after hB; (try (have hq := after hM; obtain ⟨hcM, hfM, hzM⟩ := hq)); (try (have hq := after hN; obtain ⟨hcN, hfN, hzN⟩ := hq)); have hs := hb.size; (try simp at hz); (try simp at hs)
    dsimp only
    have hB2 := hB
    replace hR := heap_old hb hR
    go_wp2_with (first
      | (go_at_call 126; refine (hFl.out _).mono ?_; rintro e w2 ⟨rfl, hb2⟩; replace hB2 := Below.next hB2 (Nat.le_refl _) hb2; replace hR := heap_old hb2 hR)
      | (go_at_call 125; refine (hCe.out _).mono ?_; rintro e w3 ⟨rfl, hb3⟩; replace hB2 := Below.next hB2 (Nat.le_refl _) hb3; replace hR := heap_old hb3 hR; have r0 := cell_heap (o := 0) hR rfl; have r1 := cell_heap (o := 1) hR rfl; have z0 := frozen_heap (o := 0) hR; have z1 := frozen_heap (o := 1) hR))
    have hE := heap_set (o := 1) (v := .int .i64 B) (heap_set (o := 0) (v := .int .i64 A) hR)
    simp only [List.setIfInBounds_toArray, List.set_cons_succ, List.set_cons_zero] at hE
    have k0 := cell_heap (o := 0) hE rfl
    have k1 := cell_heap (o := 1) hE rfl
    refine bodyPost_ret (v := .tuple #[.agg #[.int .i64 A, .int .i64 B], .int .i64 0]) (by simp only [results, Try.results111]; go_simp) rfl ⟨rfl, (by repeat (first | with_reducible exact Below.refl _ _ | with_reducible assumption | with_reducible refine Below.drew ?_ | with_reducible refine Below.setCell ?_ (by first | omega | (simp; omega) | simp) _ | with_reducible refine Below.alloc ?_ (by first | omega | (simp; omega) | simp) _ | with_reducible refine Below.trans ?_ (Below.mono (by with_reducible assumption) (by first | omega | (simp; omega) | simp))))⟩
  · have e1 : ovV lo hi = .tuple #[.agg #[.int .i64 0, .int .i64 0], .int .i64 1] := by unfold ovV; rw [if_neg h]
    rw [e1]
    rw [decide_eq_false h] at hv
    have hV := Lib.hid hv
    clear hv e1
    go_enter Try.func111, Try.ntmps111
    have hR := heap_new (w.alloc (.cells #[.int .i64 lo, .int .i64 hi] 34)) (.cells #[.int .i64 0, .int .i64 0] 34) (b := w.heap.size + 1) (by simp)
    go_wp2_with (go_at_call 127; refine (hV.out _).mono ?_; rintro e w1 ⟨rfl, hb1⟩; have hB : Below w.heap.size w w1 := Below.trans (by repeat (first | with_reducible exact Below.refl _ _ | with_reducible assumption | with_reducible refine Below.drew ?_ | with_reducible refine Below.setCell ?_ (by first | omega | (simp; omega) | simp) _ | with_reducible refine Below.alloc ?_ (by first | omega | (simp; omega) | simp) _ | with_reducible refine Below.trans ?_ (Below.mono (by with_reducible assumption) (by first | omega | (simp; omega) | simp)))) (hb1.mono (by simp; omega)); replace hR := heap_old hb1 hR; have r0 := cell_heap (o := 0) hR rfl; have r1 := cell_heap (o := 1) hR rfl; have z0 := frozen_heap (o := 0) hR; have z1 := frozen_heap (o := 1) hR)
    have hE := heap_set (o := 1) (v := .int .i64 0) (heap_set (o := 0) (v := .int .i64 0) hR)
    simp only [List.setIfInBounds_toArray, List.set_cons_succ, List.set_cons_zero] at hE
    have k0 := cell_heap (o := 0) hE rfl
    have k1 := cell_heap (o := 1) hE rfl
    refine bodyPost_ret (v := .tuple #[.agg #[.int .i64 0, .int .i64 0], .int .i64 1]) (by simp only [results, Try.results111]; go_simp) rfl ⟨rfl, (by repeat (first | with_reducible exact Below.refl _ _ | with_reducible assumption | with_reducible refine Below.drew ?_ | with_reducible refine Below.setCell ?_ (by first | omega | (simp; omega) | simp) _ | with_reducible refine Below.alloc ?_ (by first | omega | (simp; omega) | simp) _ | with_reducible refine Below.trans ?_ (Below.mono (by with_reducible assumption) (by first | omega | (simp; omega) | simp))))⟩
set_option maxRecDepth 100000 in
set_option maxHeartbeats 4000000 in
theorem rlowered_any (lo hi e l : Int) (w : World) (h1 : -300000000000000 ≤ lo) (h2 : lo ≤ 300000000000000) (h3 : -300000000000000 ≤ hi) (h4 : hi ≤ 300000000000000) (e1 : -10 ≤ e) (e2 : e ≤ 5000) (l1 : -10 ≤ l) (l2 : l ≤ 5000) :
    Calls Try.prog 77 #[.agg #[.int .i64 lo, .int .i64 hi], .int .i64 e, .int .i64 l] w fun x w' => x = .returned (falV lo hi e l) ∧ Below w.heap.size w w' := by
  obtain ⟨a1, a2⟩ := grav5 e1 e2
  obtain ⟨b1, b2⟩ := grav5 l1 l2
  have ho := fun w => rover_any (lo - 981 * l * l) (hi - 981 * e * e) w (by omega) (by omega) (by omega) (by omega)
  obtain ⟨k, hk⟩ := ovV_fal lo hi e l
  rw [hk] at ho
  have hO := Lib.hid ho
  clear ho hk
  unfold falV at *
  generalize fallLo lo hi e l = A at *
  generalize fallHi lo hi e l = B at *
  go_enter Try.func77, Try.ntmps77
  go_wp2_with (go_at_call 111; refine (hO.out _).mono ?_; rintro x w1 ⟨rfl, hb1⟩; have hB : Below w.heap.size w w1 := Below.trans (by repeat (first | with_reducible exact Below.refl _ _ | with_reducible assumption | with_reducible refine Below.drew ?_ | with_reducible refine Below.setCell ?_ (by first | omega | (simp; omega) | simp) _ | with_reducible refine Below.alloc ?_ (by first | omega | (simp; omega) | simp) _ | with_reducible refine Below.trans ?_ (Below.mono (by with_reducible assumption) (by first | omega | (simp; omega) | simp)))) (hb1.mono (by simp; omega)); have hR := heap_alloc (X := .cells #[.int .i64 A, .int .i64 B] 34) (heap_old hb1 (heap_new (w.alloc (.cells #[.int .i64 (lo - 981 * l * l), .int .i64 (hi - 981 * e * e)] 34)) (.cells #[.int .i64 0, .int .i64 0] 34) (b := w.heap.size + 1) (by simp))); have hsz := hb1.size; simp at hsz; have r0 := cell_heap (o := 0) hR rfl; have r1 := cell_heap (o := 1) hR rfl; have z0 := frozen_heap (o := 0) hR; have z1 := frozen_heap (o := 1) hR)
  have hE := heap_set (o := 1) (v := .int .i64 B) (heap_set (o := 0) (v := .int .i64 A) hR)
  simp only [List.setIfInBounds_toArray, List.set_cons_succ, List.set_cons_zero] at hE
  have k0 := cell_heap (o := 0) hE rfl
  have k1 := cell_heap (o := 1) hE rfl
  refine bodyPost_ret (v := .agg #[.int .i64 A, .int .i64 B]) (by simp only [results, Try.results77]; go_simp) rfl ⟨rfl, (by repeat (first | with_reducible exact Below.refl _ _ | with_reducible assumption | with_reducible refine Below.drew ?_ | with_reducible refine Below.setCell ?_ (by first | omega | (simp; omega) | simp) _ | with_reducible refine Below.alloc ?_ (by first | omega | (simp; omega) | simp) _ | with_reducible refine Below.trans ?_ (Below.mono (by with_reducible assumption) (by first | omega | (simp; omega) | simp))))⟩
end Go.Proofs.Ytmdledlbkdcmnaa

/-
  Contracts of path.Fits and of the reference's Fits.
  Conditions: none.
-/
namespace Go.Proofs.Ytmdledlbkdcmnaa
open Go.RowKit
def outP (p : Int × Int) : Prop := p.1 < 0 ∨ 8000 < p.1 ∨ p.2 < -1099511627776 ∨ 1099511627776 < p.2
instance (p : Int × Int) : Decidable (outP p) := by unfold outP; infer_instance
def ordA (a b : Int × Int) : Int × Int := if b.1 < a.1 then b else a
def ordB (a b : Int × Int) : Int × Int := if b.1 < a.1 then a else b
def pfE (l : List SN) (ax : Int) (a b : Int × Int) : Int := if bndE l ax ≠ 0 then bndE l ax else if outP a ∨ outP b then 2 else if a.1 = b.1 then 1 else 0
def pfB (l : List SN) (ax : Int) (a b : Int × Int) : Bool := decide (pfE l ax a b = 0) && fitL (bnds ax (bhdL l)) (ordA a b) (ordB a b)
def pfV (l : List SN) (ax : Int) (a b : Int × Int) : Value := .tuple #[.bool (pfB l ax a b), .int .i64 (pfE l ax a b)]
theorem pfV_bad {l : List SN} {ax : Int} {a b : Int × Int} {e : Int} (h : pfE l ax a b = e) (hne : e ≠ 0) : pfV l ax a b = .tuple #[.bool false, .int .i64 e] := by
  unfold pfV pfB; rw [h, decide_eq_false hne, Bool.false_and]
theorem in_of {a b : Int × Int} (h : ¬(outP a ∨ outP b)) : (0 ≤ a.1 ∧ a.1 ≤ 8000) ∧ (-1099511627776 ≤ a.2 ∧ a.2 ≤ 1099511627776) ∧ (0 ≤ b.1 ∧ b.1 ≤ 8000) ∧ (-1099511627776 ≤ b.2 ∧ b.2 ≤ 1099511627776) := by
  unfold outP at h; omega
theorem valN_eq (a b : Int × Int) (t : Int) : a.2 * (b.1 - a.1) + (b.2 - a.2) * (t - a.1) = valN a b t := by unfold valN; grind
theorem fitO_no {a b : Int × Int} {o : BD} (h : valN a b o.1 < o.2.1 * (b.1 - a.1) ∨ o.2.2 * (b.1 - a.1) < valN a b o.1) : fitO a b o = false := by
  unfold fitO; rw [Bool.and_eq_false_iff, decide_eq_false_iff_not, decide_eq_false_iff_not]; omega
theorem fitL_no {l : List BD} {a b : Int × Int} {o : BD} {i : Nat} (hi : l[i]? = some o) (h : fitO a b o = false) : false = fitL l a b := by
  unfold fitL; exact (List.all_eq_false.2 ⟨o, List.mem_of_getElem? hi, by simp [h]⟩).symm
theorem fitL_all {l : List BD} {a b : Int × Int} (h : ∀ (i : Nat) (o : BD), l[i]? = some o → fitO a b o = true) : true = fitL l a b := by
  unfold fitL; exact (List.all_eq_true.2 fun o ho => by
    obtain ⟨i, hi, e⟩ := List.getElem_of_mem ho
    exact h i o (by rw [← e]; exact List.getElem?_eq_getElem hi)).symm
theorem val_bd {a b : Int × Int} {t : Int} (h : (0 ≤ a.1 ∧ a.1 ≤ 8000) ∧ (-1099511627776 ≤ a.2 ∧ a.2 ≤ 1099511627776) ∧ (0 ≤ b.1 ∧ b.1 ≤ 8000) ∧ (-1099511627776 ≤ b.2 ∧ b.2 ≤ 1099511627776)) (h1 : 0 ≤ t) (h2 : t ≤ 4000) :
    (-8796093022208000 ≤ a.2 * (b.1 - a.1) ∧ a.2 * (b.1 - a.1) ≤ 8796093022208000) ∧ (-17592186044416000 ≤ (b.2 - a.2) * (t - a.1) ∧ (b.2 - a.2) * (t - a.1) ≤ 17592186044416000) ∧ (-8796093022208000 ≤ a.2 * (b.1 - t) ∧ a.2 * (b.1 - t) ≤ 8796093022208000) ∧ (-8796093022208000 ≤ b.2 * (t - a.1) ∧ b.2 * (t - a.1) ≤ 8796093022208000) := by
  have p1 := mul_bd (A := 1099511627776) (B := 8000) (a := a.2) (b := b.1 - a.1) (by omega) (by omega) (by omega) (by omega)
  have p2 := mul_bd (A := 2199023255552) (B := 8000) (a := b.2 - a.2) (b := t - a.1) (by omega) (by omega) (by omega) (by omega)
  have p3 := mul_bd (A := 1099511627776) (B := 8000) (a := a.2) (b := b.1 - t) (by omega) (by omega) (by omega) (by omega)
  have p4 := mul_bd (A := 1099511627776) (B := 8000) (a := b.2) (b := t - a.1) (by omega) (by omega) (by omega) (by omega)
  omega
theorem bnd_bd {v d : Int} (h1 : -20000000000 ≤ v) (h2 : v ≤ 20000000000) (h3 : 0 ≤ d) (h4 : d ≤ 8000) : -160000000000000 ≤ v * d ∧ v * d ≤ 160000000000000 :=
  mul_bd (A := 20000000000) (B := 8000) h1 h2 (by omega) h4
theorem pfE_bnd {l : List SN} {ax : Int} {a b : Int × Int} (h : bndE l ax ≠ 0) : pfE l ax a b = bndE l ax := by unfold pfE; rw [if_pos h]
theorem pfE_out {l : List SN} {ax : Int} {a b : Int × Int} (h : bndE l ax = 0) (h2 : outP a ∨ outP b) : pfE l ax a b = 2 := by unfold pfE; rw [if_neg (fun e => e h), if_pos h2]
theorem pfE_eq {l : List SN} {ax : Int} {a b : Int × Int} (h : bndE l ax = 0) (h2 : ¬(outP a ∨ outP b)) (h3 : a.1 = b.1) : pfE l ax a b = 1 := by unfold pfE; rw [if_neg (fun e => e h), if_neg h2, if_pos h3]
theorem pfE_ok {l : List SN} {ax : Int} {a b : Int × Int} (h : bndE l ax = 0) (h2 : ¬(outP a ∨ outP b)) (h3 : ¬a.1 = b.1) : pfE l ax a b = 0 := by unfold pfE; rw [if_neg (fun e => e h), if_neg h2, if_neg h3]
theorem pfV_ok {l : List SN} {ax : Int} {a b : Int × Int} (h : pfE l ax a b = 0) : pfV l ax a b = .tuple #[.bool (fitL (bnds ax (bhdL l)) (ordA a b) (ordB a b)), .int .i64 0] := by
  unfold pfV pfB; rw [h, decide_eq_true rfl, Bool.true_and]
end Go.Proofs.Ytmdledlbkdcmnaa

/-
  Contract of path.Cross where there is no crossing.
  Conditions: none.
-/
namespace Go.Proofs.Ytmdledlbkdcmnaa
open Go.RowKit
@[go_sem] theorem run_field0 (a b : Value) (w : World) : (Instr.field 34 (.agg #[a, b]) 0).run Try.prog w = .ok a w := by
  simp [Instr.field, asAgg, go_sem]
@[go_sem] theorem run_field1 (a b : Value) (w : World) : (Instr.field 34 (.agg #[a, b]) 1).run Try.prog w = .ok b w := by
  simp [Instr.field, asAgg, go_sem]
def crsV (l : List SN) : Value := if crsE l = 0 then .tuple #[.agg #[.int .i64 (cT1 l), .int .i64 (cT2 l), .int .i64 (loR (bnds 1 (bhdL l)) (cT1 l) (cT2 l)), .int .i64 (hiR (bnds 1 (bhdL l)) (cT1 l) (cT2 l)), .int .i64 (fallLo (loR (bnds 2 (bhdL l)) (cT1 l) (cT2 l)) (hiR (bnds 2 (bhdL l)) (cT1 l) (cT2 l)) (cT1 l) (cT2 l)), .int .i64 (fallHi (loR (bnds 2 (bhdL l)) (cT1 l) (cT2 l)) (hiR (bnds 2 (bhdL l)) (cT1 l) (cT2 l)) (cT1 l) (cT2 l))], .int .i64 0] else .tuple #[.agg #[.int .i64 0, .int .i64 0, .int .i64 0, .int .i64 0, .int .i64 0, .int .i64 0], .int .i64 (crsE l)]
theorem crsV_bad {l : List SN} {e : Int} (h : crsE l = e) (hne : e ≠ 0) : crsV l = .tuple #[.agg #[.int .i64 0, .int .i64 0, .int .i64 0, .int .i64 0, .int .i64 0, .int .i64 0], .int .i64 e] := by unfold crsV; rw [h, if_neg hne]
theorem posOk_bad {l : List SN} (h : behE l = 0) (h2 : posB l = false) : posOk l = false := by unfold posOk; rw [h2, Bool.and_false]
theorem posOk_yes {l : List SN} (h : behE l = 0) (h2 : posB l = true) : posOk l = true := by unfold posOk; rw [h2, h]; rfl
theorem posOk_beh {l : List SN} (h : behE l ≠ 0) : posOk l = false := by unfold posOk; rw [decide_eq_false h, Bool.false_and]
theorem crsE_beh {l : List SN} (h : behE l ≠ 0) : crsE l = behE l := by unfold crsE; rw [if_pos h]
theorem crsE_pos {l : List SN} (h : behE l = 0) (h2 : posB l = false) : crsE l = 13 := by unfold crsE; rw [if_neg (fun e => e h), if_pos h2]
theorem crsE_com {l : List SN} (h : behE l = 0) (h2 : posB l = true) (h3 : comes (bnds 0 (bhdL l)) = false) : crsE l = 8 := by unfold crsE; rw [if_neg (fun e => e h), if_neg (by simp [h2]), if_pos h3]
theorem crsE_non {l : List SN} (h : behE l = 0) (h2 : posB l = true) (h3 : comes (bnds 0 (bhdL l)) = true) (h4 : (lastB (bnds 0 (bhdL l))).2.1 ≤ 0 ∨ 0 ≤ hiR (bnds 0 (bhdL l)) ((lastB (bnds 0 (bhdL l))).1 + 400) ((lastB (bnds 0 (bhdL l))).1 + 400)) : crsE l = 6 := by
  unfold crsE; rw [if_neg (fun e => e h), if_neg (by simp [h2]), if_neg (by simp [h3]), if_pos h4]
theorem crsE_ok {l : List SN} (h : behE l = 0) (h2 : posB l = true) (h3 : comes (bnds 0 (bhdL l)) = true) (h4 : ¬((lastB (bnds 0 (bhdL l))).2.1 ≤ 0 ∨ 0 ≤ hiR (bnds 0 (bhdL l)) ((lastB (bnds 0 (bhdL l))).1 + 400) ((lastB (bnds 0 (bhdL l))).1 + 400))) : crsE l = 0 := by
  unfold crsE; rw [if_neg (fun e => e h), if_neg (by simp [h2]), if_neg (by simp [h3]), if_neg h4]
set_option maxRecDepth 100000 in
set_option maxHeartbeats 4000000 in
theorem cross_bad (v : Value) (l : List SN) (w : World) (h : Seens w v l) (hp : posOk l = false) : Calls Try.prog 38 #[v] w fun e w' => e = .returned (crsV l) ∧ Below w.heap.size w w' := by
  have hpos := Lib.hid (fun w' (h : Seens w' v l) => by have := possible_any v l w' h; unfold posV at this; rwa [hp] at this)
  by_cases hb : behE l = 0
  · have hpb : posB l = false := by
      unfold posOk at hp; rw [hb] at hp; simpa using hp
    rw [crsV_bad (crsE_pos hb hpb) (by omega)]
    rw [hb] at hpos
    clear hp hpb hb
    go_enter Try.func38, Try.ntmps38
    go_wp2_with ((go_at_call 20; refine (hpos.out _ (h.below (by repeat (first | with_reducible exact Below.refl _ _ | with_reducible assumption | with_reducible refine Below.drew ?_ | with_reducible refine Below.setCell ?_ (by first | omega | (simp; omega) | simp) _ | with_reducible refine Below.alloc ?_ (by first | omega | (simp; omega) | simp) _ | with_reducible refine Below.trans ?_ (Below.mono (by with_reducible assumption) (by first | omega | (simp; omega) | simp)))))).mono ?_; rintro e w1 ⟨rfl, hb1⟩; have hK : Below w.heap.size w w1 := Below.next1 (Below.refl _ _) (Nat.le_refl _) hb1; have hR := heap_old hb1 (heap_new w (.cells #[.int .i64 0, .int .i64 0, .int .i64 0, .int .i64 0, .int .i64 0, .int .i64 0] 70) rfl); clear hb1; (have r0 := cell_heap (o := 0) hR rfl; have r1 := cell_heap (o := 1) hR rfl; have r2 := cell_heap (o := 2) hR rfl; have r3 := cell_heap (o := 3) hR rfl; have r4 := cell_heap (o := 4) hR rfl; have r5 := cell_heap (o := 5) hR rfl; have z0 := frozen_heap (o := 0) hR; have z1 := frozen_heap (o := 1) hR; have z2 := frozen_heap (o := 2) hR; have z3 := frozen_heap (o := 3) hR; have z4 := frozen_heap (o := 4) hR; have z5 := frozen_heap (o := 5) hR)))
    have hE := heap_set (o := 5) (v := .int .i64 0) (heap_set (o := 4) (v := .int .i64 0) (heap_set (o := 3) (v := .int .i64 0) (heap_set (o := 2) (v := .int .i64 0) (heap_set (o := 1) (v := .int .i64 0) (heap_set (o := 0) (v := .int .i64 0) hR))))); simp only [List.setIfInBounds_toArray, List.set_cons_succ, List.set_cons_zero] at hE; have k0 := cell_heap (o := 0) hE rfl; have k1 := cell_heap (o := 1) hE rfl; have k2 := cell_heap (o := 2) hE rfl; have k3 := cell_heap (o := 3) hE rfl; have k4 := cell_heap (o := 4) hE rfl; have k5 := cell_heap (o := 5) hE rfl
    refine bodyPost_ret (v := .tuple #[.agg #[.int .i64 0, .int .i64 0, .int .i64 0, .int .i64 0, .int .i64 0, .int .i64 0], .int .i64 13]) (by simp only [results, Try.results38]; go_simp) rfl ⟨rfl, (by repeat (first | with_reducible exact Below.refl _ _ | with_reducible assumption | with_reducible refine Below.drew ?_ | with_reducible refine Below.setCell ?_ (by first | omega | (simp; omega) | simp) _ | with_reducible refine Below.alloc ?_ (by first | omega | (simp; omega) | simp) _ | with_reducible refine Below.trans ?_ (Below.mono (by with_reducible assumption) (by first | omega | (simp; omega) | simp))))⟩
  · rw [crsV_bad (crsE_beh hb) hb]
    have hb' : (behE l != 0) = true := by simpa using hb
    clear hp hb
    generalize behE l = E at *
    go_enter Try.func38, Try.ntmps38
    go_wp2_with ((go_at_call 20; refine (hpos.out _ (h.below (by repeat (first | with_reducible exact Below.refl _ _ | with_reducible assumption | with_reducible refine Below.drew ?_ | with_reducible refine Below.setCell ?_ (by first | omega | (simp; omega) | simp) _ | with_reducible refine Below.alloc ?_ (by first | omega | (simp; omega) | simp) _ | with_reducible refine Below.trans ?_ (Below.mono (by with_reducible assumption) (by first | omega | (simp; omega) | simp)))))).mono ?_; rintro e w1 ⟨rfl, hb1⟩; have hK : Below w.heap.size w w1 := Below.next1 (Below.refl _ _) (Nat.le_refl _) hb1; have hR := heap_old hb1 (heap_new w (.cells #[.int .i64 0, .int .i64 0, .int .i64 0, .int .i64 0, .int .i64 0, .int .i64 0] 70) rfl); clear hb1; (have r0 := cell_heap (o := 0) hR rfl; have r1 := cell_heap (o := 1) hR rfl; have r2 := cell_heap (o := 2) hR rfl; have r3 := cell_heap (o := 3) hR rfl; have r4 := cell_heap (o := 4) hR rfl; have r5 := cell_heap (o := 5) hR rfl; have z0 := frozen_heap (o := 0) hR; have z1 := frozen_heap (o := 1) hR; have z2 := frozen_heap (o := 2) hR; have z3 := frozen_heap (o := 3) hR; have z4 := frozen_heap (o := 4) hR; have z5 := frozen_heap (o := 5) hR)))
    have hE := heap_set (o := 5) (v := .int .i64 0) (heap_set (o := 4) (v := .int .i64 0) (heap_set (o := 3) (v := .int .i64 0) (heap_set (o := 2) (v := .int .i64 0) (heap_set (o := 1) (v := .int .i64 0) (heap_set (o := 0) (v := .int .i64 0) hR))))); simp only [List.setIfInBounds_toArray, List.set_cons_succ, List.set_cons_zero] at hE; have k0 := cell_heap (o := 0) hE rfl; have k1 := cell_heap (o := 1) hE rfl; have k2 := cell_heap (o := 2) hE rfl; have k3 := cell_heap (o := 3) hE rfl; have k4 := cell_heap (o := 4) hE rfl; have k5 := cell_heap (o := 5) hE rfl
    refine bodyPost_ret (v := .tuple #[.agg #[.int .i64 0, .int .i64 0, .int .i64 0, .int .i64 0, .int .i64 0, .int .i64 0], .int .i64 E]) (by simp only [results, Try.results38]; go_simp) rfl ⟨rfl, (by repeat (first | with_reducible exact Below.refl _ _ | with_reducible assumption | with_reducible refine Below.drew ?_ | with_reducible refine Below.setCell ?_ (by first | omega | (simp; omega) | simp) _ | with_reducible refine Below.alloc ?_ (by first | omega | (simp; omega) | simp) _ | with_reducible refine Below.trans ?_ (Below.mono (by with_reducible assumption) (by first | omega | (simp; omega) | simp))))⟩
set_option maxRecDepth 100000 in
set_option maxHeartbeats 4000000 in
theorem cross_order (v : Value) (l : List SN) (w : World) (h : Seens w v l) (hb : behE l = 0) (hp : posB l = true) (hc : comes (bnds 0 (bhdL l)) = false) : Calls Try.prog 38 #[v] w fun e w' => e = .returned (crsV l) ∧ Below w.heap.size w w' := by
  rw [crsV_bad (crsE_com hb hp hc) (by omega)]
  have hpos := Lib.hid (fun w' (h : Seens w' v l) => by have := possible_any v l w' h; unfold posV at this; rwa [posOk_yes hb hp, hb] at this)
  have hbeh := Lib.hid (fun w' (h : Seens w' v l) => by have := pbehind_any v l w' h; rwa [hb] at this)
  have e8 : comE (bnds 0 (bhdL l)) = 8 := by unfold comE; rw [if_neg (by simp [hc])]
  have hcr := Lib.hid (fun w' u (h : Seens w' u (bhdL l)) => by have := crossing_any u (bhdL l) w' h bhd_ok (bhd_len l); rwa [e8] at this)
  clear hb hp hc e8
  generalize bhdL l = S at *
  go_enter Try.func38, Try.ntmps38
  go_wp2_with (first
    | ((go_at_call 20; refine (hpos.out _ (h.below (by repeat (first | with_reducible exact Below.refl _ _ | with_reducible assumption | with_reducible refine Below.drew ?_ | with_reducible refine Below.setCell ?_ (by first | omega | (simp; omega) | simp) _ | with_reducible refine Below.alloc ?_ (by first | omega | (simp; omega) | simp) _ | with_reducible refine Below.trans ?_ (Below.mono (by with_reducible assumption) (by first | omega | (simp; omega) | simp)))))).mono ?_; rintro e w1 ⟨rfl, hb1⟩; have hK : Below w.heap.size w w1 := Below.next1 (Below.refl _ _) (Nat.le_refl _) hb1; have hR := heap_old hb1 (heap_new w (.cells #[.int .i64 0, .int .i64 0, .int .i64 0, .int .i64 0, .int .i64 0, .int .i64 0] 70) rfl); clear hb1; (have r0 := cell_heap (o := 0) hR rfl; have r1 := cell_heap (o := 1) hR rfl; have r2 := cell_heap (o := 2) hR rfl; have r3 := cell_heap (o := 3) hR rfl; have r4 := cell_heap (o := 4) hR rfl; have r5 := cell_heap (o := 5) hR rfl; have z0 := frozen_heap (o := 0) hR; have z1 := frozen_heap (o := 1) hR; have z2 := frozen_heap (o := 2) hR; have z3 := frozen_heap (o := 3) hR; have z4 := frozen_heap (o := 4) hR; have z5 := frozen_heap (o := 5) hR)))
    | ((go_at_call 55; refine (hbeh.out _ (h.below hK)).mono ?_; rintro e w2 ⟨⟨u, rfl, hu⟩, hb2⟩; have hu2 := hu (by first | rfl | trivial); clear hu; replace hK := Below.next hK (Nat.le_refl _) hb2; replace hR := heap_old hb2 hR; clear hb2; (clear r0 r1 r2 r3 r4 r5 z0 z1 z2 z3 z4 z5); (have r0 := cell_heap (o := 0) hR rfl; have r1 := cell_heap (o := 1) hR rfl; have r2 := cell_heap (o := 2) hR rfl; have r3 := cell_heap (o := 3) hR rfl; have r4 := cell_heap (o := 4) hR rfl; have r5 := cell_heap (o := 5) hR rfl; have z0 := frozen_heap (o := 0) hR; have z1 := frozen_heap (o := 1) hR; have z2 := frozen_heap (o := 2) hR; have z3 := frozen_heap (o := 3) hR; have z4 := frozen_heap (o := 4) hR; have z5 := frozen_heap (o := 5) hR)))
    | (go_at_call 78; refine (hcr.out _ _ hu2).mono ?_; rintro e w3 ⟨rfl, hb3⟩; replace hK := Below.next hK (Nat.le_refl _) hb3; replace hR := heap_old hb3 hR; clear hb3; (clear r0 r1 r2 r3 r4 r5 z0 z1 z2 z3 z4 z5); (have r0 := cell_heap (o := 0) hR rfl; have r1 := cell_heap (o := 1) hR rfl; have r2 := cell_heap (o := 2) hR rfl; have r3 := cell_heap (o := 3) hR rfl; have r4 := cell_heap (o := 4) hR rfl; have r5 := cell_heap (o := 5) hR rfl; have z0 := frozen_heap (o := 0) hR; have z1 := frozen_heap (o := 1) hR; have z2 := frozen_heap (o := 2) hR; have z3 := frozen_heap (o := 3) hR; have z4 := frozen_heap (o := 4) hR; have z5 := frozen_heap (o := 5) hR)))
  have hE := heap_set (o := 5) (v := .int .i64 0) (heap_set (o := 4) (v := .int .i64 0) (heap_set (o := 3) (v := .int .i64 0) (heap_set (o := 2) (v := .int .i64 0) (heap_set (o := 1) (v := .int .i64 0) (heap_set (o := 0) (v := .int .i64 0) hR))))); simp only [List.setIfInBounds_toArray, List.set_cons_succ, List.set_cons_zero] at hE; have k0 := cell_heap (o := 0) hE rfl; have k1 := cell_heap (o := 1) hE rfl; have k2 := cell_heap (o := 2) hE rfl; have k3 := cell_heap (o := 3) hE rfl; have k4 := cell_heap (o := 4) hE rfl; have k5 := cell_heap (o := 5) hE rfl
  refine bodyPost_ret (v := .tuple #[.agg #[.int .i64 0, .int .i64 0, .int .i64 0, .int .i64 0, .int .i64 0, .int .i64 0], .int .i64 8]) (by simp only [results, Try.results38]; go_simp) rfl ⟨rfl, (by repeat (first | with_reducible exact Below.refl _ _ | with_reducible assumption | with_reducible refine Below.drew ?_ | with_reducible refine Below.setCell ?_ (by first | omega | (simp; omega) | simp) _ | with_reducible refine Below.alloc ?_ (by first | omega | (simp; omega) | simp) _ | with_reducible refine Below.trans ?_ (Below.mono (by with_reducible assumption) (by first | omega | (simp; omega) | simp))))⟩
set_option maxRecDepth 100000 in
set_option maxHeartbeats 4000000 in
theorem cross_none (v : Value) (l : List SN) (w : World) (h : Seens w v l) (hb : behE l = 0) (hp : posB l = true) (hc : comes (bnds 0 (bhdL l)) = true) (h4 : (lastB (bnds 0 (bhdL l))).2.1 ≤ 0 ∨ 0 ≤ hiR (bnds 0 (bhdL l)) ((lastB (bnds 0 (bhdL l))).1 + 400) ((lastB (bnds 0 (bhdL l))).1 + 400)) : Calls Try.prog 38 #[v] w fun e w' => e = .returned (crsV l) ∧ Below w.heap.size w w' := by
  rw [crsV_bad (crsE_non hb hp hc h4) (by omega)]
  have hpos := Lib.hid (fun w' (h : Seens w' v l) => by have := possible_any v l w' h; unfold posV at this; rwa [posOk_yes hb hp, hb] at this)
  have hbeh := Lib.hid (fun w' (h : Seens w' v l) => by have := pbehind_any v l w' h; rwa [hb] at this)
  have e0 : comE (bnds 0 (bhdL l)) = 0 := by unfold comE; rw [if_pos hc]
  have hcr := Lib.hid (fun w' u (h : Seens w' u (bhdL l)) => by have := crossing_any u (bhdL l) w' h bhd_ok (bhd_len l); rwa [e0] at this)
  have hbd := Lib.hid (fun w' u (h : Seens w' u (bhdL l)) => bounds0 u (bhdL l) w' h bhd_ok (bhd_len l))
  have hbl := (behE_len hb).2
  have hX2 : 2 ≤ (bnds 0 (bhdL l)).length := by rw [bnds_len]; exact hbl
  have hrm := Lib.hid (fun w' u (h : Bnds w' u (bnds 0 (bhdL l))) => rims_any u _ w' h (bnds_ok (ax := 0)) (bnds_small 0 l))
  have hen := Lib.hid (fun v1 v2 t w' (h1 : Lns w' v1 (lows (bnds 0 (bhdL l)))) (h2 : Lns w' v2 (upps (bnds 0 (bhdL l)))) (t1 : -10 ≤ t) (t2 : t ≤ 5000) => enclose_rims (bnds_ok (ax := 0)) (bnds_rise 0 l) hX2 v1 v2 t w' h1 h2 t1 t2)
  obtain ⟨n, hn⟩ : ∃ n, (bhdL l).length = n + 1 := ⟨(bhdL l).length - 1, by omega⟩
  have hn64 : n ≤ 63 := by have := bhd_len l; omega
  obtain ⟨s, hs⟩ := some_of' (l := bhdL l) (i := n) (by omega)
  have hlast : lastB (bnds 0 (bhdL l)) = bX s := lastB_bnds (by rw [hn]; simpa using hs)
  obtain ⟨⟨s1, s2⟩, ⟨s3, s4⟩, _, _, s5, s6⟩ := okS_iff.1 (bhd_ok s (List.mem_of_getElem? hs))
  rw [hlast] at h4
  have hS := Lib.hid hs
  clear hb hp hc e0 hs hlast hX2
  unfold bX at h4
  dsimp only at h4
  generalize bnds 0 (bhdL l) = X at *
  generalize hq : bhdL l = S at *
  clear hq
  by_cases h5 : s.2.1 - s.2.2.2.2 ≤ 0
  · clear h4
    go_enter Try.func38, Try.ntmps38
    go_wp2_with (first
      | ((go_at_call 20; refine (hpos.out _ (h.below (by repeat (first | with_reducible exact Below.refl _ _ | with_reducible assumption | with_reducible refine Below.drew ?_ | with_reducible refine Below.setCell ?_ (by first | omega | (simp; omega) | simp) _ | with_reducible refine Below.alloc ?_ (by first | omega | (simp; omega) | simp) _ | with_reducible refine Below.trans ?_ (Below.mono (by with_reducible assumption) (by first | omega | (simp; omega) | simp)))))).mono ?_; rintro e w1 ⟨rfl, hb1⟩; have hK : Below w.heap.size w w1 := Below.next1 (Below.refl _ _) (Nat.le_refl _) hb1; have hR := heap_old hb1 (heap_new w (.cells #[.int .i64 0, .int .i64 0, .int .i64 0, .int .i64 0, .int .i64 0, .int .i64 0] 70) rfl); clear hb1; (have r0 := cell_heap (o := 0) hR rfl; have r1 := cell_heap (o := 1) hR rfl; have r2 := cell_heap (o := 2) hR rfl; have r3 := cell_heap (o := 3) hR rfl; have r4 := cell_heap (o := 4) hR rfl; have r5 := cell_heap (o := 5) hR rfl; have z0 := frozen_heap (o := 0) hR; have z1 := frozen_heap (o := 1) hR; have z2 := frozen_heap (o := 2) hR; have z3 := frozen_heap (o := 3) hR; have z4 := frozen_heap (o := 4) hR; have z5 := frozen_heap (o := 5) hR)))
      | ((go_at_call 55; refine (hbeh.out _ (h.below hK)).mono ?_; rintro e w2 ⟨⟨u, rfl, hu⟩, hb2⟩; have hu2 := hu (by first | rfl | trivial); clear hu; replace hK := Below.next hK (Nat.le_refl _) hb2; replace hR := heap_old hb2 hR; clear hb2; (clear r0 r1 r2 r3 r4 r5 z0 z1 z2 z3 z4 z5); (have r0 := cell_heap (o := 0) hR rfl; have r1 := cell_heap (o := 1) hR rfl; have r2 := cell_heap (o := 2) hR rfl; have r3 := cell_heap (o := 3) hR rfl; have r4 := cell_heap (o := 4) hR rfl; have r5 := cell_heap (o := 5) hR rfl; have z0 := frozen_heap (o := 0) hR; have z1 := frozen_heap (o := 1) hR; have z2 := frozen_heap (o := 2) hR; have z3 := frozen_heap (o := 3) hR; have z4 := frozen_heap (o := 4) hR; have z5 := frozen_heap (o := 5) hR)))
      | ((go_at_call 78; refine (hcr.out _ _ hu2).mono ?_; rintro e w3 ⟨rfl, hb3⟩; have hu3 := hu2.below hb3; replace hK := Below.next hK (Nat.le_refl _) hb3; replace hR := heap_old hb3 hR; clear hb3 hu2; (clear r0 r1 r2 r3 r4 r5 z0 z1 z2 z3 z4 z5); (have r0 := cell_heap (o := 0) hR rfl; have r1 := cell_heap (o := 1) hR rfl; have r2 := cell_heap (o := 2) hR rfl; have r3 := cell_heap (o := 3) hR rfl; have r4 := cell_heap (o := 4) hR rfl; have r5 := cell_heap (o := 5) hR rfl; have z0 := frozen_heap (o := 0) hR; have z1 := frozen_heap (o := 1) hR; have z2 := frozen_heap (o := 2) hR; have z3 := frozen_heap (o := 3) hR; have z4 := frozen_heap (o := 4) hR; have z5 := frozen_heap (o := 5) hR); have hu4 := hu3; obtain ⟨pa, b, o, cap, rfl, g1, g2, g3, g4⟩ := hu4; obtain rfl := g1 (by omega); obtain ⟨c0, c1, c2, c3, c4⟩ := g4 n s hS.out; clear g4; rw [hn] at g2 hu3 ⊢))
      | (go_at_call 57; refine (hbd.out _ _ (hu3.below (by repeat (first | with_reducible exact Below.refl _ _ | with_reducible assumption | with_reducible refine Below.drew ?_ | with_reducible refine Below.setCell ?_ (by first | omega | (simp; omega) | simp) _ | with_reducible refine Below.alloc ?_ (by first | omega | (simp; omega) | simp) _ | with_reducible refine Below.trans ?_ (Below.mono (by with_reducible assumption) (by first | omega | (simp; omega) | simp)))))).mono ?_; rintro e w4 ⟨x, rfl, hx, hb4⟩; replace hR := heap_old hb4 (heap_alloc hR); have hT := heap_old hb4 (heap_new w3 (.cells #[.int .i64 s.1, .int .i64 s.2.1, .int .i64 s.2.2.1, .int .i64 s.2.2.2.1, .int .i64 s.2.2.2.2] 38) rfl); replace hK := Below.next1 hK (Nat.le_refl _) hb4; clear hb4)
      | (go_at_call 69; refine (hrm.out _ _ hx).mono ?_; rintro e w5 ⟨y1, y2, rfl, hy1, hy2, hb5⟩; replace hR := heap_old hb5 hR; replace hT := heap_old hb5 hT; replace hK := Below.next hK (Nat.le_refl _) hb5; clear hb5; (clear r0 r1 r2 r3 r4 r5 z0 z1 z2 z3 z4 z5); (have r0 := cell_heap (o := 0) hR rfl; have r1 := cell_heap (o := 1) hR rfl; have r2 := cell_heap (o := 2) hR rfl; have r3 := cell_heap (o := 3) hR rfl; have r4 := cell_heap (o := 4) hR rfl; have r5 := cell_heap (o := 5) hR rfl; have z0 := frozen_heap (o := 0) hR; have z1 := frozen_heap (o := 1) hR; have z2 := frozen_heap (o := 2) hR; have z3 := frozen_heap (o := 3) hR; have z4 := frozen_heap (o := 4) hR; have z5 := frozen_heap (o := 5) hR); have t0 := cell_heap (o := 0) hT rfl; have t1 := cell_heap (o := 1) hT rfl; have t4 := cell_heap (o := 4) hT rfl))
    have hE := heap_set (o := 5) (v := .int .i64 0) (heap_set (o := 4) (v := .int .i64 0) (heap_set (o := 3) (v := .int .i64 0) (heap_set (o := 2) (v := .int .i64 0) (heap_set (o := 1) (v := .int .i64 0) (heap_set (o := 0) (v := .int .i64 0) hR))))); simp only [List.setIfInBounds_toArray, List.set_cons_succ, List.set_cons_zero] at hE; have k0 := cell_heap (o := 0) hE rfl; have k1 := cell_heap (o := 1) hE rfl; have k2 := cell_heap (o := 2) hE rfl; have k3 := cell_heap (o := 3) hE rfl; have k4 := cell_heap (o := 4) hE rfl; have k5 := cell_heap (o := 5) hE rfl
    refine bodyPost_ret (v := .tuple #[.agg #[.int .i64 0, .int .i64 0, .int .i64 0, .int .i64 0, .int .i64 0, .int .i64 0], .int .i64 6]) (by simp only [results, Try.results38]; go_simp) rfl ⟨rfl, (by repeat (first | with_reducible exact Below.refl _ _ | with_reducible assumption | with_reducible refine Below.drew ?_ | with_reducible refine Below.setCell ?_ (by first | omega | (simp; omega) | simp) _ | with_reducible refine Below.alloc ?_ (by first | omega | (simp; omega) | simp) _ | with_reducible refine Below.trans ?_ (Below.mono (by with_reducible assumption) (by first | omega | (simp; omega) | simp))))⟩
  · have h6 := h4.resolve_left h5
    clear h4
    have hEn := Lib.hid (fun v1 v2 w' (h1 : Lns w' v1 (lows X)) (h2 : Lns w' v2 (upps X)) => hen.out v1 v2 (s.1 + 400) w' h1 h2 (by omega) (by omega))
    generalize loR X (s.1 + 400) (s.1 + 400) = A at *
    generalize hiR X (s.1 + 400) (s.1 + 400) = B at *
    go_enter Try.func38, Try.ntmps38
    go_wp2_with (first
      | ((go_at_call 20; refine (hpos.out _ (h.below (by repeat (first | with_reducible exact Below.refl _ _ | with_reducible assumption | with_reducible refine Below.drew ?_ | with_reducible refine Below.setCell ?_ (by first | omega | (simp; omega) | simp) _ | with_reducible refine Below.alloc ?_ (by first | omega | (simp; omega) | simp) _ | with_reducible refine Below.trans ?_ (Below.mono (by with_reducible assumption) (by first | omega | (simp; omega) | simp)))))).mono ?_; rintro e w1 ⟨rfl, hb1⟩; have hK : Below w.heap.size w w1 := Below.next1 (Below.refl _ _) (Nat.le_refl _) hb1; have hR := heap_old hb1 (heap_new w (.cells #[.int .i64 0, .int .i64 0, .int .i64 0, .int .i64 0, .int .i64 0, .int .i64 0] 70) rfl); clear hb1; (have r0 := cell_heap (o := 0) hR rfl; have r1 := cell_heap (o := 1) hR rfl; have r2 := cell_heap (o := 2) hR rfl; have r3 := cell_heap (o := 3) hR rfl; have r4 := cell_heap (o := 4) hR rfl; have r5 := cell_heap (o := 5) hR rfl; have z0 := frozen_heap (o := 0) hR; have z1 := frozen_heap (o := 1) hR; have z2 := frozen_heap (o := 2) hR; have z3 := frozen_heap (o := 3) hR; have z4 := frozen_heap (o := 4) hR; have z5 := frozen_heap (o := 5) hR)))
      | ((go_at_call 55; refine (hbeh.out _ (h.below hK)).mono ?_; rintro e w2 ⟨⟨u, rfl, hu⟩, hb2⟩; have hu2 := hu (by first | rfl | trivial); clear hu; replace hK := Below.next hK (Nat.le_refl _) hb2; replace hR := heap_old hb2 hR; clear hb2; (clear r0 r1 r2 r3 r4 r5 z0 z1 z2 z3 z4 z5); (have r0 := cell_heap (o := 0) hR rfl; have r1 := cell_heap (o := 1) hR rfl; have r2 := cell_heap (o := 2) hR rfl; have r3 := cell_heap (o := 3) hR rfl; have r4 := cell_heap (o := 4) hR rfl; have r5 := cell_heap (o := 5) hR rfl; have z0 := frozen_heap (o := 0) hR; have z1 := frozen_heap (o := 1) hR; have z2 := frozen_heap (o := 2) hR; have z3 := frozen_heap (o := 3) hR; have z4 := frozen_heap (o := 4) hR; have z5 := frozen_heap (o := 5) hR)))
      | ((go_at_call 78; refine (hcr.out _ _ hu2).mono ?_; rintro e w3 ⟨rfl, hb3⟩; have hu3 := hu2.below hb3; replace hK := Below.next hK (Nat.le_refl _) hb3; replace hR := heap_old hb3 hR; clear hb3 hu2; (clear r0 r1 r2 r3 r4 r5 z0 z1 z2 z3 z4 z5); (have r0 := cell_heap (o := 0) hR rfl; have r1 := cell_heap (o := 1) hR rfl; have r2 := cell_heap (o := 2) hR rfl; have r3 := cell_heap (o := 3) hR rfl; have r4 := cell_heap (o := 4) hR rfl; have r5 := cell_heap (o := 5) hR rfl; have z0 := frozen_heap (o := 0) hR; have z1 := frozen_heap (o := 1) hR; have z2 := frozen_heap (o := 2) hR; have z3 := frozen_heap (o := 3) hR; have z4 := frozen_heap (o := 4) hR; have z5 := frozen_heap (o := 5) hR); have hu4 := hu3; obtain ⟨pa, b, o, cap, rfl, g1, g2, g3, g4⟩ := hu4; obtain rfl := g1 (by omega); obtain ⟨c0, c1, c2, c3, c4⟩ := g4 n s hS.out; clear g4; rw [hn] at g2 hu3 ⊢))
      | (go_at_call 57; refine (hbd.out _ _ (hu3.below (by repeat (first | with_reducible exact Below.refl _ _ | with_reducible assumption | with_reducible refine Below.drew ?_ | with_reducible refine Below.setCell ?_ (by first | omega | (simp; omega) | simp) _ | with_reducible refine Below.alloc ?_ (by first | omega | (simp; omega) | simp) _ | with_reducible refine Below.trans ?_ (Below.mono (by with_reducible assumption) (by first | omega | (simp; omega) | simp)))))).mono ?_; rintro e w4 ⟨x, rfl, hx, hb4⟩; replace hR := heap_old hb4 (heap_alloc hR); have hT := heap_old hb4 (heap_new w3 (.cells #[.int .i64 s.1, .int .i64 s.2.1, .int .i64 s.2.2.1, .int .i64 s.2.2.2.1, .int .i64 s.2.2.2.2] 38) rfl); replace hK := Below.next1 hK (Nat.le_refl _) hb4; clear hb4)
      | (go_at_call 69; refine (hrm.out _ _ hx).mono ?_; rintro e w5 ⟨y1, y2, rfl, hy1, hy2, hb5⟩; replace hR := heap_old hb5 hR; replace hT := heap_old hb5 hT; replace hK := Below.next hK (Nat.le_refl _) hb5; clear hb5; (clear r0 r1 r2 r3 r4 r5 z0 z1 z2 z3 z4 z5); (have r0 := cell_heap (o := 0) hR rfl; have r1 := cell_heap (o := 1) hR rfl; have r2 := cell_heap (o := 2) hR rfl; have r3 := cell_heap (o := 3) hR rfl; have r4 := cell_heap (o := 4) hR rfl; have r5 := cell_heap (o := 5) hR rfl; have z0 := frozen_heap (o := 0) hR; have z1 := frozen_heap (o := 1) hR; have z2 := frozen_heap (o := 2) hR; have z3 := frozen_heap (o := 3) hR; have z4 := frozen_heap (o := 4) hR; have z5 := frozen_heap (o := 5) hR); have t0 := cell_heap (o := 0) hT rfl; have t1 := cell_heap (o := 1) hT rfl; have t4 := cell_heap (o := 4) hT rfl)
      | (go_at_call 70; refine (hEn.out _ _ _ hy1 hy2).mono ?_; rintro e w6 ⟨rfl, hb6⟩; replace hR := heap_old hb6 hR; replace hK := Below.next hK (Nat.le_refl _) hb6; clear hb6; (clear r0 r1 r2 r3 r4 r5 z0 z1 z2 z3 z4 z5); (have r0 := cell_heap (o := 0) hR rfl; have r1 := cell_heap (o := 1) hR rfl; have r2 := cell_heap (o := 2) hR rfl; have r3 := cell_heap (o := 3) hR rfl; have r4 := cell_heap (o := 4) hR rfl; have r5 := cell_heap (o := 5) hR rfl; have z0 := frozen_heap (o := 0) hR; have z1 := frozen_heap (o := 1) hR; have z2 := frozen_heap (o := 2) hR; have z3 := frozen_heap (o := 3) hR; have z4 := frozen_heap (o := 4) hR; have z5 := frozen_heap (o := 5) hR)))
    have hE := heap_set (o := 5) (v := .int .i64 0) (heap_set (o := 4) (v := .int .i64 0) (heap_set (o := 3) (v := .int .i64 0) (heap_set (o := 2) (v := .int .i64 0) (heap_set (o := 1) (v := .int .i64 0) (heap_set (o := 0) (v := .int .i64 0) hR))))); simp only [List.setIfInBounds_toArray, List.set_cons_succ, List.set_cons_zero] at hE; have k0 := cell_heap (o := 0) hE rfl; have k1 := cell_heap (o := 1) hE rfl; have k2 := cell_heap (o := 2) hE rfl; have k3 := cell_heap (o := 3) hE rfl; have k4 := cell_heap (o := 4) hE rfl; have k5 := cell_heap (o := 5) hE rfl
    refine bodyPost_ret (v := .tuple #[.agg #[.int .i64 0, .int .i64 0, .int .i64 0, .int .i64 0, .int .i64 0, .int .i64 0], .int .i64 6]) (by simp only [results, Try.results38]; go_simp) rfl ⟨rfl, (by repeat (first | with_reducible exact Below.refl _ _ | with_reducible assumption | with_reducible refine Below.drew ?_ | with_reducible refine Below.setCell ?_ (by first | omega | (simp; omega) | simp) _ | with_reducible refine Below.alloc ?_ (by first | omega | (simp; omega) | simp) _ | with_reducible refine Below.trans ?_ (Below.mono (by with_reducible assumption) (by first | omega | (simp; omega) | simp))))⟩
end Go.Proofs.Ytmdledlbkdcmnaa
