/-
  Contracts and laws, merged: BallOpen.
  Conditions: none.
-/
import Derived.Test.YtmdledlbkdcmnaaM7
import Derived.WalkKit
import Derived.ProofKit
import Derived.OpenShut
set_option linter.unusedSimpArgs false
set_option linter.unusedVariables false
/-
  An argument that is a ball: observations and four flags.
  Conditions: none.
-/
namespace Go.Proofs.Ytmdledlbkdcmnaa
open Go.ChangeShapes Go.WideShapes Go.RowKit Go.Deep
section
variable {H : Type} {enc : TypeId × Value → H} {w : World} {base : Nat} {held : Bool}
set_option maxRecDepth 100000 in
theorem seens_trod {v : Value} {fuel : Nat} {x : DataW H × List MemPlace} (hf : DataW.trod enc Try.prog w base (fun _ => true) held fuel 22 [v] = some x) : ∃ l, Seens w v l ∧ ∀ s ∈ l, y64 s := by
  rcases Go.Deep.open_slice Try.underlying22 hf with ⟨h1, _⟩ | ⟨a, len, cap, m, n, D, Pl, h1, h2, h3, h4, h5, h6, h7⟩
  · simp only [List.cons.injEq, and_true] at h1
    subst h1
    exact ⟨[], ⟨none, 0, 0, 0, rfl, fun h => by simp at h, by simp, by omega, fun i p h => by simp at h⟩, fun s hs => by simp at hs⟩
  · simp only [List.cons.injEq, and_true] at h1
    subst h1
    have hm : len ≤ m := by rw [h5]; simpa using h3
    have hC : Try.prog.cellsOf 38 = 5 := by kernel_rfl
    obtain ⟨ps, e1, e2⟩ := exists_list (fun i (s : SN) => w.cell? (a.add (i * 5)) = some (.int .i64 s.1) ∧ w.cell? (a.add (i * 5 + 1)) = some (.int .i64 s.2.1) ∧ w.cell? (a.add (i * 5 + 2)) = some (.int .i64 s.2.2.1) ∧ w.cell? (a.add (i * 5 + 3)) = some (.int .i64 s.2.2.2.1) ∧ w.cell? (a.add (i * 5 + 4)) = some (.int .i64 s.2.2.2.2) ∧ y64 s) len (fun i hi => by
      obtain ⟨cs, k1, k2⟩ := h7 i (by omega)
      rw [hC] at k1
      obtain ⟨_, hlen, hcell⟩ := World.cells?_some k1
      obtain ⟨xs, hx, hc, hw⟩ := leaf_ints (n := 8) (k := .i64) (N := 5) (by kernel_rfl) hlen k2
      obtain ⟨x0, x1, x2, x3, x4, rfl⟩ := len5 hx
      have g0 := hcell 0 (by omega)
      have g1 := hcell 1 (by omega)
      have g2 := hcell 2 (by omega)
      have g3 := hcell 3 (by omega)
      have g4 := hcell 4 (by omega)
      rw [Go.Deep.add_add, hc] at g0 g1 g2 g3 g4
      exact ⟨(x0, x1, x2, x3, x4), by simpa using g0, by simpa using g1, by simpa using g2, by simpa using g3, by simpa using g4, bounds_i64 (hw x2 (by simp))⟩)
    have hyy : ∀ s ∈ ps, y64 s := by
      intro s hs
      obtain ⟨i, hi, rfl⟩ := List.getElem_of_mem hs
      exact (e2 i _ (List.getElem?_eq_getElem hi)).2.2.2.2.2
    rcases Nat.eq_zero_or_pos len with h0 | h0
    · exact ⟨ps, ⟨some a, 0, 0, cap, by rw [e1], fun h => by omega, by omega, h4, fun i q hq => by have := (List.getElem?_eq_some_iff.1 hq).1; omega⟩, hyy⟩
    · obtain ⟨b, off, spot⟩ := a
      obtain ⟨q0, hq0⟩ : ∃ q, ps[0]? = some q := ⟨_, List.getElem?_eq_getElem (by omega)⟩
      have hspot : spot = none := by simpa [Addr.add] using World.cell?_spot (e2 0 q0 hq0).1
      subst hspot
      refine ⟨ps, ⟨_, b, off, cap, by rw [e1], fun _ => rfl, by omega, h4, fun i q hq => ?_⟩, hyy⟩
      obtain ⟨c0, c1, c2, c3, c4, _⟩ := e2 i q hq
      rw [Addr.add_lit] at c0 c1 c2 c3 c4
      exact ⟨c0, by rw [Nat.add_assoc]; exact c1, by rw [Nat.add_assoc]; exact c2, by rw [Nat.add_assoc]; exact c3, by rw [Nat.add_assoc]; exact c4⟩
set_option maxRecDepth 100000 in
theorem ball_open64 {r : Reach} {b0 : Nat} {v : Value} {d : DataW H} {p : List MemPlace} (hv : Value.okWide Try.prog w r b0 43 v) (h : DataW.Trod enc Try.prog w base (fun _ => true) held 43 v d p) : ∃ (u : Value) (left shot bat void : Bool) (l : List SN), v = .agg #[u, .bool left, .bool shot, .bool bat, .bool void] ∧ Seens w u l ∧ ∀ s ∈ l, y64 s := by
  obtain ⟨cs, rfl, hs⟩ := okWide_struct Try.underlying43 hv
  have hn : cs.toList.length = 5 := by rw [Array.length_toList, hs]; kernel_rfl
  obtain ⟨fuel, hf⟩ := h
  simp only [Value.cells] at hf
  obtain ⟨u, y, f', e0, ht⟩ := leaf_trod (i := 0) (u := 22) 8 (by kernel_rfl) hf
  obtain ⟨left, e1⟩ := leaf_bool (n := 8) (i := 1) (u := 4) (by kernel_rfl) Try.underlying4 hf
  obtain ⟨shot, e2⟩ := leaf_bool (n := 8) (i := 2) (u := 4) (by kernel_rfl) Try.underlying4 hf
  obtain ⟨bat, e3⟩ := leaf_bool (n := 8) (i := 3) (u := 4) (by kernel_rfl) Try.underlying4 hf
  obtain ⟨void, e4⟩ := leaf_bool (n := 8) (i := 4) (u := 4) (by kernel_rfl) Try.underlying4 hf
  obtain ⟨l, hl, hy⟩ := seens_trod ht
  obtain ⟨L⟩ := cs
  simp only at hn hf e0 e1 e2 e3 e4
  obtain ⟨c0, c1, c2, c3, c4, rfl⟩ := len5 hn
  simp only [List.getElem?_cons_zero, List.getElem?_cons_succ, Option.some.injEq] at e0 e1 e2 e3 e4
  subst e0 e1 e2 e3 e4
  exact ⟨c0, left, shot, bat, void, l, rfl, hl, hy⟩
end
end Go.Proofs.Ytmdledlbkdcmnaa
