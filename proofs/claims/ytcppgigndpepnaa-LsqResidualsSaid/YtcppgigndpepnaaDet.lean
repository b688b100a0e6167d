/-
  Contracts of det, ours and the reference's.
  Conditions: none; the numbers as they come round in 64 bits.
-/
import Derived.Test.YtcppgigndpepnaaRMat
namespace Go.Proofs.Ytcppgigndpepnaa
open Go.RowKit
theorem kwrap_eq (x : Int) : IntKind.i64.wrap x = wrap64 x := by rw [IntKind.wrap_i64]; unfold wrap64; omega
set_option maxRecDepth 100000 in
set_option maxHeartbeats 8000000 in
theorem det1_any (v0 : Value) (x : Int) (hx1 : -9223372036854775808 ≤ x) (hx2 : x ≤ 9223372036854775807) (w : World) (h : MatV w v0 [[x]]) : Calls Try.prog 52 #[v0] w fun e w' => e = .returned (.int .i64 (wrap64 (detL [[x]]))) ∧ Below w.heap.size w w' := by
  obtain ⟨pa, b, o, cap, rfl, h1, h2, h3, h4⟩ := h
  obtain rfl := h1 (by simp)
  obtain ⟨u0, c0, qa0, qb0, qo0, qc0, rfl, g0, k0, l0, m0⟩ := h4 0 _ rfl
  obtain rfl := g0 (by simp)
  have d00 : w.cell? ⟨qb0, qo0, none⟩ = some (.int .i64 x) := m0 0 _ rfl
  replace c0 : w.cell? ⟨b, o, none⟩ = _ := c0
  clear h1 h4 m0 g0
  simp only [List.length_cons, List.length_nil, Nat.zero_add] at *
  go_enter Try.func52, Try.ntmps52
  go_wp2_with fail
  go_ret
  exact ⟨ret_int (by simp only [detL]; exact (wrap_id hx1 hx2).symm), (by repeat (first | with_reducible exact Below.refl _ _ | with_reducible assumption | with_reducible refine Below.drew ?_ | with_reducible refine Below.setCell ?_ (by first | omega | (simp; omega) | simp) _ | with_reducible refine Below.alloc ?_ (by first | omega | (simp; omega) | simp) _ | with_reducible refine Below.trans ?_ (Below.mono (by with_reducible assumption) (by first | omega | (simp; omega) | simp))))⟩
set_option maxRecDepth 100000 in
set_option maxHeartbeats 8000000 in
theorem det2_any (v0 : Value) (x y z u : Int) (w : World) (h : MatV w v0 [[x, y], [z, u]]) : Calls Try.prog 52 #[v0] w fun e w' => e = .returned (.int .i64 (wrap64 (detL [[x, y], [z, u]]))) ∧ Below w.heap.size w w' := by
  obtain ⟨pa, b, o, cap, rfl, h1, h2, h3, h4⟩ := h
  obtain rfl := h1 (by simp)
  obtain ⟨u0, c0, qa0, qb0, qo0, qc0, rfl, g0, k0, l0, m0⟩ := h4 0 _ rfl
  obtain rfl := g0 (by simp)
  have d00 : w.cell? ⟨qb0, qo0, none⟩ = some (.int .i64 x) := m0 0 _ rfl
  have d01 : w.cell? ⟨qb0, qo0 + 1, none⟩ = some (.int .i64 y) := m0 1 _ rfl
  replace c0 : w.cell? ⟨b, o, none⟩ = _ := c0
  obtain ⟨u1, c1, qa1, qb1, qo1, qc1, rfl, g1, k1, l1, m1⟩ := h4 1 _ rfl
  obtain rfl := g1 (by simp)
  have d10 : w.cell? ⟨qb1, qo1, none⟩ = some (.int .i64 z) := m1 0 _ rfl
  have d11 : w.cell? ⟨qb1, qo1 + 1, none⟩ = some (.int .i64 u) := m1 1 _ rfl
  clear h1 h4 m0 m1 g0 g1
  simp only [List.length_cons, List.length_nil, Nat.zero_add, Nat.reduceAdd] at *
  go_enter Try.func52, Try.ntmps52
  go_wp2_with fail
  refine region_still (by kernel_rfl) (by kernel_rfl) ?_; intro W' hW hC; have z0 := (hC ⟨b, o, none⟩).trans (c0); have z1 := (hC ⟨qb0, qo0, none⟩).trans (d00); have z2 := (hC ⟨qb0, qo0 + 1, none⟩).trans (d01); have z3 := (hC ⟨b, o + 1, none⟩).trans (c1); have z4 := (hC ⟨qb1, qo1, none⟩).trans (d10); have z5 := (hC ⟨qb1, qo1 + 1, none⟩).trans (d11); replace hW := Lib.hid hW; clear hC; (repeat still_step); refine wpStill_nil ?_; obtain rfl := hW.out; clear hW
  go_wp2_with fail
  go_ret
  exact ⟨ret_int (by simp only [detL, kwrap_eq, wrap_subl, wrap_subr]), (by repeat (first | with_reducible exact Below.refl _ _ | with_reducible assumption | with_reducible refine Below.drew ?_ | with_reducible refine Below.setCell ?_ (by first | omega | (simp; omega) | simp) _ | with_reducible refine Below.alloc ?_ (by first | omega | (simp; omega) | simp) _ | with_reducible refine Below.trans ?_ (Below.mono (by with_reducible assumption) (by first | omega | (simp; omega) | simp))))⟩
set_option maxRecDepth 100000 in
set_option maxHeartbeats 8000000 in
theorem det3_any (v0 : Value) (x y z u v t p q r : Int) (w : World) (h : MatV w v0 [[x, y, z], [u, v, t], [p, q, r]]) : Calls Try.prog 52 #[v0] w fun e w' => e = .returned (.int .i64 (wrap64 (detL [[x, y, z], [u, v, t], [p, q, r]]))) ∧ Below w.heap.size w w' := by
  obtain ⟨pa, b, o, cap, rfl, h1, h2, h3, h4⟩ := h
  obtain rfl := h1 (by simp)
  obtain ⟨u0, c0, qa0, qb0, qo0, qc0, rfl, g0, k0, l0, m0⟩ := h4 0 _ rfl
  obtain rfl := g0 (by simp)
  have d00 : w.cell? ⟨qb0, qo0, none⟩ = some (.int .i64 x) := m0 0 _ rfl
  have d01 : w.cell? ⟨qb0, qo0 + 1, none⟩ = some (.int .i64 y) := m0 1 _ rfl
  have d02 : w.cell? ⟨qb0, qo0 + 2, none⟩ = some (.int .i64 z) := m0 2 _ rfl
  replace c0 : w.cell? ⟨b, o, none⟩ = _ := c0
  obtain ⟨u1, c1, qa1, qb1, qo1, qc1, rfl, g1, k1, l1, m1⟩ := h4 1 _ rfl
  obtain rfl := g1 (by simp)
  have d10 : w.cell? ⟨qb1, qo1, none⟩ = some (.int .i64 u) := m1 0 _ rfl
  have d11 : w.cell? ⟨qb1, qo1 + 1, none⟩ = some (.int .i64 v) := m1 1 _ rfl
  have d12 : w.cell? ⟨qb1, qo1 + 2, none⟩ = some (.int .i64 t) := m1 2 _ rfl
  obtain ⟨u2, c2, qa2, qb2, qo2, qc2, rfl, g2, k2, l2, m2⟩ := h4 2 _ rfl
  obtain rfl := g2 (by simp)
  have d20 : w.cell? ⟨qb2, qo2, none⟩ = some (.int .i64 p) := m2 0 _ rfl
  have d21 : w.cell? ⟨qb2, qo2 + 1, none⟩ = some (.int .i64 q) := m2 1 _ rfl
  have d22 : w.cell? ⟨qb2, qo2 + 2, none⟩ = some (.int .i64 r) := m2 2 _ rfl
  clear h1 h4 m0 m1 m2 g0 g1 g2
  simp only [List.length_cons, List.length_nil, Nat.zero_add, Nat.reduceAdd] at *
  go_enter Try.func52, Try.ntmps52
  go_wp2_with fail
  refine wp_loop_rounds 4 ?_
  rw [rounds_succ]
  go_wp2_with fail
  refine region_still (by kernel_rfl) (by kernel_rfl) ?_; intro W' hW hC; have z0 := (hC ⟨b, o, none⟩).trans (c0); have z1 := (hC ⟨qb0, qo0, none⟩).trans (d00); have z2 := (hC ⟨qb0, qo0 + 1, none⟩).trans (d01); have z3 := (hC ⟨qb0, qo0 + 2, none⟩).trans (d02); have z4 := (hC ⟨b, o + 1, none⟩).trans (c1); have z5 := (hC ⟨qb1, qo1, none⟩).trans (d10); have z6 := (hC ⟨qb1, qo1 + 1, none⟩).trans (d11); have z7 := (hC ⟨qb1, qo1 + 2, none⟩).trans (d12); have z8 := (hC ⟨b, o + 2, none⟩).trans (c2); have z9 := (hC ⟨qb2, qo2, none⟩).trans (d20); have z10 := (hC ⟨qb2, qo2 + 1, none⟩).trans (d21); have z11 := (hC ⟨qb2, qo2 + 2, none⟩).trans (d22); replace hW := Lib.hid hW; clear hC; (repeat still_step); refine wpStill_nil ?_; obtain rfl := hW.out; clear hW
  go_wp2_with fail
  rw [rounds_succ]
  go_wp2_with fail
  refine region_still (by kernel_rfl) (by kernel_rfl) ?_; intro W' hW hC; have z0 := (hC ⟨b, o, none⟩).trans (c0); have z1 := (hC ⟨qb0, qo0, none⟩).trans (d00); have z2 := (hC ⟨qb0, qo0 + 1, none⟩).trans (d01); have z3 := (hC ⟨qb0, qo0 + 2, none⟩).trans (d02); have z4 := (hC ⟨b, o + 1, none⟩).trans (c1); have z5 := (hC ⟨qb1, qo1, none⟩).trans (d10); have z6 := (hC ⟨qb1, qo1 + 1, none⟩).trans (d11); have z7 := (hC ⟨qb1, qo1 + 2, none⟩).trans (d12); have z8 := (hC ⟨b, o + 2, none⟩).trans (c2); have z9 := (hC ⟨qb2, qo2, none⟩).trans (d20); have z10 := (hC ⟨qb2, qo2 + 1, none⟩).trans (d21); have z11 := (hC ⟨qb2, qo2 + 2, none⟩).trans (d22); replace hW := Lib.hid hW; clear hC; (repeat still_step); refine wpStill_nil ?_; obtain rfl := hW.out; clear hW
  go_wp2_with fail
  rw [rounds_succ]
  go_wp2_with fail
  refine region_still (by kernel_rfl) (by kernel_rfl) ?_; intro W' hW hC; have z0 := (hC ⟨b, o, none⟩).trans (c0); have z1 := (hC ⟨qb0, qo0, none⟩).trans (d00); have z2 := (hC ⟨qb0, qo0 + 1, none⟩).trans (d01); have z3 := (hC ⟨qb0, qo0 + 2, none⟩).trans (d02); have z4 := (hC ⟨b, o + 1, none⟩).trans (c1); have z5 := (hC ⟨qb1, qo1, none⟩).trans (d10); have z6 := (hC ⟨qb1, qo1 + 1, none⟩).trans (d11); have z7 := (hC ⟨qb1, qo1 + 2, none⟩).trans (d12); have z8 := (hC ⟨b, o + 2, none⟩).trans (c2); have z9 := (hC ⟨qb2, qo2, none⟩).trans (d20); have z10 := (hC ⟨qb2, qo2 + 1, none⟩).trans (d21); have z11 := (hC ⟨qb2, qo2 + 2, none⟩).trans (d22); replace hW := Lib.hid hW; clear hC; (repeat still_step); refine wpStill_nil ?_; obtain rfl := hW.out; clear hW
  go_wp2_with fail
  rw [rounds_succ]
  go_wp2_with fail
  go_ret
  exact ⟨ret_int (by simp only [detL, kwrap_eq, wrap_addl, wrap_addr, wrap_mulr, wrap_subl, wrap_subr]), (by repeat (first | with_reducible exact Below.refl _ _ | with_reducible assumption | with_reducible refine Below.drew ?_ | with_reducible refine Below.setCell ?_ (by first | omega | (simp; omega) | simp) _ | with_reducible refine Below.alloc ?_ (by first | omega | (simp; omega) | simp) _ | with_reducible refine Below.trans ?_ (Below.mono (by with_reducible assumption) (by first | omega | (simp; omega) | simp))))⟩
end Go.Proofs.Ytcppgigndpepnaa
