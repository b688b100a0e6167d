/-
  An argument that is a graph: three numbers and edges.
  Conditions: none.
-/
import Derived.Test.YtajdfcliiefjgaaFlowMem
import Derived.Test.YtajdfcliiefjgaaExList
import Derived.Test.YtajdfcliiefjgaaFlat
import Derived.WalkKit
import Derived.ProofKit
import Derived.OpenShut
namespace Go.Proofs.Ytajdfcliiefjgaa
open Go.ChangeShapes Go.WideShapes Go.RowKit Go.Deep
section
variable {H : Type} {enc : TypeId × Value → H} {w : World} {base : Nat} {held : Bool}
set_option maxRecDepth 100000 in
theorem edges_trod {v : Value} {fuel : Nat} {x : DataW H × List MemPlace} (hf : DataW.trod enc Try.prog w base (fun _ => true) held fuel 22 [v] = some x) : ∃ l, Eds w v l := by
  rcases Go.Deep.open_slice Try.underlying22 hf with ⟨h1, _⟩ | ⟨a, len, cap, m, n, D, Pl, h1, h2, h3, h4, h5, h6, h7⟩
  · simp only [List.cons.injEq, and_true] at h1
    subst h1
    exact ⟨[], held_nil w none 0 (by omega)⟩
  · simp only [List.cons.injEq, and_true] at h1
    subst h1
    have hm : len ≤ m := by rw [h5]; simpa using h3
    have hC : Try.prog.cellsOf 37 = 3 := by kernel_rfl
    obtain ⟨ps, e1, e2⟩ := exists_list (fun i (s : ED) => w.cell? (a.add (i * 3)) = some (.int .i64 s.1) ∧ w.cell? (a.add (i * 3 + 1)) = some (.int .i64 s.2.1) ∧ w.cell? (a.add (i * 3 + 2)) = some (.int .i64 s.2.2)) len (fun i hi => by
      obtain ⟨cs, k1, k2⟩ := h7 i (by omega)
      rw [hC] at k1
      obtain ⟨_, hlen, hcell⟩ := World.cells?_some k1
      obtain ⟨xs, hx, hc, hw⟩ := leaf_ints (n := 8) (k := .i64) (N := 3) (by kernel_rfl) hlen k2
      obtain ⟨x0, x1, x2, rfl⟩ := len3 hx
      have g0 := hcell 0 (by omega)
      have g1 := hcell 1 (by omega)
      have g2 := hcell 2 (by omega)
      rw [Go.Deep.add_add, hc] at g0 g1 g2
      exact ⟨(x0, x1, x2), by simpa using g0, by simpa using g1, by simpa using g2⟩)
    rcases Nat.eq_zero_or_pos len with h0 | h0
    · have hp : ps = [] := List.length_eq_zero_iff.1 (by omega)
      subst hp
      subst h0
      exact ⟨[], held_nil w (some a) cap h4⟩
    · obtain ⟨b, off, spot⟩ := a
      obtain ⟨q0, hq0⟩ : ∃ q, ps[0]? = some q := ⟨_, List.getElem?_eq_getElem (by omega)⟩
      have hspot : spot = none := by simpa [Addr.add] using World.cell?_spot (e2 0 q0 hq0).1
      subst hspot
      refine ⟨ps, ⟨_, b, off, cap, by rw [e1], fun _ => rfl, by omega, h4, fun i q hq j u hu => ?_⟩⟩
      obtain ⟨c0, c1, c2⟩ := e2 i q hq
      rw [Addr.add_lit] at c0 c1 c2
      match j, hu with
      | 0, hu => simp [cB] at hu; subst hu; exact c0
      | 1, hu => simp [cB] at hu; subst hu; rw [Nat.add_assoc]; exact c1
      | 2, hu => simp [cB] at hu; subst hu; rw [Nat.add_assoc]; exact c2
set_option maxRecDepth 100000 in
theorem graph_open {r : Reach} {b0 : Nat} {v : Value} {d : DataW H} {p : List MemPlace} (hv : Value.okWide Try.prog w r b0 24 v) (h : DataW.Trod enc Try.prog w base (fun _ => true) held 24 v d p) : ∃ (n s t : Int) (u : Value) (l : List ED), v = .agg #[.int .i64 n, .int .i64 s, .int .i64 t, u] ∧ Eds w u l := by
  obtain ⟨cs, rfl, hs⟩ := okWide_struct Try.underlying24 hv
  have hn : cs.toList.length = 4 := by rw [Array.length_toList, hs]; kernel_rfl
  obtain ⟨fuel, hf⟩ := h
  simp only [Value.cells] at hf
  obtain ⟨n, e0, _⟩ := leaf_int (n := 8) (i := 0) (u := 3) (by kernel_rfl) Try.underlying3 hf
  obtain ⟨s, e1, _⟩ := leaf_int (n := 8) (i := 1) (u := 3) (by kernel_rfl) Try.underlying3 hf
  obtain ⟨t, e2, _⟩ := leaf_int (n := 8) (i := 2) (u := 3) (by kernel_rfl) Try.underlying3 hf
  obtain ⟨u, y, f', e3, ht⟩ := leaf_trod (i := 3) (u := 22) 8 (by kernel_rfl) hf
  obtain ⟨l, hl⟩ := edges_trod ht
  obtain ⟨L⟩ := cs
  simp only at hn hf e0 e1 e2 e3
  obtain ⟨c0, c1, c2, c3, rfl⟩ := len4 hn
  simp only [List.getElem?_cons_zero, List.getElem?_cons_succ, Option.some.injEq] at e0 e1 e2 e3
  subst e0 e1 e2 e3
  exact ⟨n, s, t, c3, l, rfl, hl⟩
end
end Go.Proofs.Ytajdfcliiefjgaa
