/-
  An argument that is a slice of observations.
  Conditions: none.
-/
import Derived.Test.YtmdledlbkdcmnaaFlat
import Derived.Test.YtmdledlbkdcmnaaSeen
import Derived.Test.YtmdledlbkdcmnaaExList
namespace Go.Proofs.Ytmdledlbkdcmnaa
open Go.RowKit Go.Deep
section
variable {H : Type} {enc : TypeId × Value → H} {w : World} {base : Nat} {held : Bool}
set_option maxRecDepth 100000 in
theorem seens_open {r : Reach} {b0 : Nat} {v : Value} {d : DataW H} {p : List MemPlace} (hv : Value.okWide Try.prog w r b0 22 v) (h : DataW.Trod enc Try.prog w base (fun _ => true) held 22 v d p) : ∃ l, Seens w v l := by
  obtain ⟨pa, len, cap, rfl⟩ := Go.WideShapes.okWide_slice Try.underlying22 hv
  obtain ⟨fuel, hf⟩ := h
  rcases Go.Deep.open_slice Try.underlying22 hf with ⟨h1, _⟩ | ⟨a, l, c, m, n, D, Pl, h1, h2, h3, h4, h5, h6, h7⟩
  · simp only [Value.cells, List.cons.injEq, and_true, Value.slice.injEq] at h1
    obtain ⟨rfl, rfl, rfl⟩ := h1
    exact ⟨[], none, 0, 0, 0, rfl, fun h => by simp at h, by simp, by omega, fun i p h => by simp at h⟩
  · simp only [Value.cells, List.cons.injEq, and_true, Value.slice.injEq] at h1
    obtain ⟨rfl, rfl, rfl⟩ := h1
    have hm : len ≤ m := by rw [h5]; simpa using h3
    have hC : Try.prog.cellsOf 38 = 5 := by kernel_rfl
    obtain ⟨ps, e1, e2⟩ := exists_list (fun i (s : SN) => w.cell? (a.add (i * 5)) = some (.int .i64 s.1) ∧ w.cell? (a.add (i * 5 + 1)) = some (.int .i64 s.2.1) ∧ w.cell? (a.add (i * 5 + 2)) = some (.int .i64 s.2.2.1) ∧ w.cell? (a.add (i * 5 + 3)) = some (.int .i64 s.2.2.2.1) ∧ w.cell? (a.add (i * 5 + 4)) = some (.int .i64 s.2.2.2.2)) len (fun i hi => by
      obtain ⟨cs, k1, k2⟩ := h7 i (by omega)
      rw [hC] at k1
      obtain ⟨_, hlen, hcell⟩ := World.cells?_some k1
      obtain ⟨xs, hx, hc, _⟩ := leaf_ints (n := 8) (k := .i64) (N := 5) (by kernel_rfl) hlen k2
      obtain ⟨x0, x1, x2, x3, x4, rfl⟩ := len5 hx
      have g0 := hcell 0 (by omega)
      have g1 := hcell 1 (by omega)
      have g2 := hcell 2 (by omega)
      have g3 := hcell 3 (by omega)
      have g4 := hcell 4 (by omega)
      rw [Go.Deep.add_add, hc] at g0 g1 g2 g3 g4
      exact ⟨(x0, x1, x2, x3, x4), by simpa using g0, by simpa using g1, by simpa using g2, by simpa using g3, by simpa using g4⟩)
    rcases Nat.eq_zero_or_pos len with h0 | h0
    · exact ⟨ps, some a, 0, 0, cap, by rw [e1], fun h => by omega, by omega, h4, fun i q hq => by have := (List.getElem?_eq_some_iff.1 hq).1; omega⟩
    · obtain ⟨b, off, spot⟩ := a
      obtain ⟨q0, hq0⟩ : ∃ q, ps[0]? = some q := ⟨_, List.getElem?_eq_getElem (by omega)⟩
      have hspot : spot = none := by simpa [Addr.add] using World.cell?_spot (e2 0 q0 hq0).1
      subst hspot
      refine ⟨ps, _, b, off, cap, by rw [e1], fun _ => rfl, by omega, h4, fun i q hq => ?_⟩
      obtain ⟨c0, c1, c2, c3, c4⟩ := e2 i q hq
      rw [Addr.add_lit] at c0 c1 c2 c3 c4
      exact ⟨c0, by rw [Nat.add_assoc]; exact c1, by rw [Nat.add_assoc]; exact c2, by rw [Nat.add_assoc]; exact c3, by rw [Nat.add_assoc]; exact c4⟩
end
end Go.Proofs.Ytmdledlbkdcmnaa
