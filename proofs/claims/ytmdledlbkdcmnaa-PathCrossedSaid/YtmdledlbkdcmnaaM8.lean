/-
  Contracts and laws, merged: PtFits RPtFits.
  Conditions: none.
-/
import Derived.Test.YtmdledlbkdcmnaaM7
import Derived.LoopN
set_option linter.unusedSimpArgs false
set_option linter.unusedVariables false
/-
  Contract of path.Fits.
  Conditions: none.
-/
namespace Go.Proofs.Ytmdledlbkdcmnaa
open Go.RowKit
theorem Seens.other {w : World} {u : Value} {S : List SN} {k o : Nat} {x y v : Value} {t : TypeId} {fr : Nat × Nat} (h : Seens w u S) (hk : w.heap[k]? = some (.cells #[x, y] t fr)) : Seens (w.setCell ⟨k, o, none⟩ v) u S := by
  obtain ⟨pa, b, q, cap, rfl, h1, h2, h3, h4⟩ := h
  refine ⟨pa, b, q, cap, rfl, h1, h2, h3, fun i s hs => ?_⟩
  obtain ⟨c0, c1, c2, c3, c4⟩ := h4 i s hs
  have hb : b ≠ k := by
    rintro rfl
    simp [World.cell?, hk] at c4
  have e : ∀ j, (w.setCell ⟨k, o, none⟩ v).cell? ⟨b, j, none⟩ = w.cell? ⟨b, j, none⟩ := fun j => by
    unfold World.cell?
    rw [Below.heap_setCell w _ v b hb]
  exact ⟨(e _).trans c0, (e _).trans c1, (e _).trans c2, (e _).trans c3, (e _).trans c4⟩
set_option maxRecDepth 100000 in
set_option maxHeartbeats 4000000 in
theorem ptfits_out (v : Value) (l : List SN) (ax : Int) (a b : Int × Int) (w : World) (h : Seens w v l) (x1 : 0 ≤ ax) (x2 : ax ≤ 2) (hb : behE l = 0) (ho : outP a ∨ outP b) : Calls Try.prog 33 #[v, .int .i64 ax, .agg #[.int .i64 a.1, .int .i64 a.2], .agg #[.int .i64 b.1, .int .i64 b.2]] w fun e w' => e = .returned (.tuple #[.bool false, .int .i64 2]) ∧ Below w.heap.size w w' := by
  have hbeh := Lib.hid (fun w' (h : Seens w' v l) => by have := pbehind_any v l w' h; rwa [hb] at this)
  clear hb
  by_cases ha : outP a
  · clear ho
    go_enter Try.func33, Try.ntmps33
    go_wp2_with ((go_at_call 55; refine (hbeh.out _ (h.below (by repeat (first | with_reducible exact Below.refl _ _ | with_reducible assumption | with_reducible refine Below.drew ?_ | with_reducible refine Below.setCell ?_ (by first | omega | (simp; omega) | simp) _ | with_reducible refine Below.alloc ?_ (by first | omega | (simp; omega) | simp) _ | with_reducible refine Below.trans ?_ (Below.mono (by with_reducible assumption) (by first | omega | (simp; omega) | simp)))))).mono ?_; rintro e w1 ⟨⟨u, rfl, hu⟩, hb1⟩; have hu0 := hu (by first | rfl | trivial); clear hu; have hA := heap_old hb1 (heap_alloc (X := .cells #[.int .i64 b.1, .int .i64 b.2] 23) (heap_new w (.cells #[.int .i64 a.1, .int .i64 a.2] 23) rfl)); have hB := heap_old hb1 (heap_new (w.alloc (.cells #[.int .i64 a.1, .int .i64 a.2] 23)) (.cells #[.int .i64 b.1, .int .i64 b.2] 23) (b := w.heap.size + 1) (by simp)); have hK : Below w.heap.size w w1 := Below.trans (by repeat (first | with_reducible exact Below.refl _ _ | with_reducible assumption | with_reducible refine Below.drew ?_ | with_reducible refine Below.setCell ?_ (by first | omega | (simp; omega) | simp) _ | with_reducible refine Below.alloc ?_ (by first | omega | (simp; omega) | simp) _ | with_reducible refine Below.trans ?_ (Below.mono (by with_reducible assumption) (by first | omega | (simp; omega) | simp)))) (hb1.mono (by simp; omega)); clear hb1; have hltB := (Array.getElem?_eq_some_iff.1 hB).1; have hltA : w.heap.size < w1.heap.size := Nat.lt_of_succ_lt hltB; have a0 := cell_heap (o := 0) hA rfl; have a1 := cell_heap (o := 1) hA rfl; have b0 := cell_heap (o := 0) hB rfl; have b1 := cell_heap (o := 1) hB rfl; have fa0 := frozen_heap (o := 0) hA; have fa1 := frozen_heap (o := 1) hA; have fb0 := frozen_heap (o := 0) hB; have fb1 := frozen_heap (o := 1) hB))
    refine wp_loop_rounds 3 ?_
    rw [rounds_succ]
    go_wp2_with fail
    all_goals first
      | (go_ret2; exact ⟨rfl, (by repeat (first | with_reducible exact Below.refl _ _ | with_reducible assumption | with_reducible refine Below.drew ?_ | with_reducible refine Below.setCell ?_ (by first | omega | (simp; omega) | simp) _ | with_reducible refine Below.alloc ?_ (by first | omega | (simp; omega) | simp) _ | with_reducible refine Below.trans ?_ (Below.mono (by with_reducible assumption) (by first | omega | (simp; omega) | simp))))⟩)
      | (exfalso; unfold outP at ha; omega)
  · have hob : outP b := ho.resolve_left ha
    clear ho
    obtain ⟨n1, n2, n3, n4⟩ : 0 ≤ a.1 ∧ a.1 ≤ 8000 ∧ -1099511627776 ≤ a.2 ∧ a.2 ≤ 1099511627776 := by unfold outP at ha; omega
    clear ha
    go_enter Try.func33, Try.ntmps33
    go_wp2_with ((go_at_call 55; refine (hbeh.out _ (h.below (by repeat (first | with_reducible exact Below.refl _ _ | with_reducible assumption | with_reducible refine Below.drew ?_ | with_reducible refine Below.setCell ?_ (by first | omega | (simp; omega) | simp) _ | with_reducible refine Below.alloc ?_ (by first | omega | (simp; omega) | simp) _ | with_reducible refine Below.trans ?_ (Below.mono (by with_reducible assumption) (by first | omega | (simp; omega) | simp)))))).mono ?_; rintro e w1 ⟨⟨u, rfl, hu⟩, hb1⟩; have hu0 := hu (by first | rfl | trivial); clear hu; have hA := heap_old hb1 (heap_alloc (X := .cells #[.int .i64 b.1, .int .i64 b.2] 23) (heap_new w (.cells #[.int .i64 a.1, .int .i64 a.2] 23) rfl)); have hB := heap_old hb1 (heap_new (w.alloc (.cells #[.int .i64 a.1, .int .i64 a.2] 23)) (.cells #[.int .i64 b.1, .int .i64 b.2] 23) (b := w.heap.size + 1) (by simp)); have hK : Below w.heap.size w w1 := Below.trans (by repeat (first | with_reducible exact Below.refl _ _ | with_reducible assumption | with_reducible refine Below.drew ?_ | with_reducible refine Below.setCell ?_ (by first | omega | (simp; omega) | simp) _ | with_reducible refine Below.alloc ?_ (by first | omega | (simp; omega) | simp) _ | with_reducible refine Below.trans ?_ (Below.mono (by with_reducible assumption) (by first | omega | (simp; omega) | simp)))) (hb1.mono (by simp; omega)); clear hb1; have hltB := (Array.getElem?_eq_some_iff.1 hB).1; have hltA : w.heap.size < w1.heap.size := Nat.lt_of_succ_lt hltB; have a0 := cell_heap (o := 0) hA rfl; have a1 := cell_heap (o := 1) hA rfl; have b0 := cell_heap (o := 0) hB rfl; have b1 := cell_heap (o := 1) hB rfl; have fa0 := frozen_heap (o := 0) hA; have fa1 := frozen_heap (o := 1) hA; have fb0 := frozen_heap (o := 0) hB; have fb1 := frozen_heap (o := 1) hB))
    refine wp_loop_rounds 3 ?_
    rw [rounds_succ]
    go_wp2_with fail
    rw [rounds_succ]
    go_wp2_with fail
    all_goals first
      | (go_ret2; exact ⟨rfl, (by repeat (first | with_reducible exact Below.refl _ _ | with_reducible assumption | with_reducible refine Below.drew ?_ | with_reducible refine Below.setCell ?_ (by first | omega | (simp; omega) | simp) _ | with_reducible refine Below.alloc ?_ (by first | omega | (simp; omega) | simp) _ | with_reducible refine Below.trans ?_ (Below.mono (by with_reducible assumption) (by first | omega | (simp; omega) | simp))))⟩)
      | (exfalso; unfold outP at hob; omega)
set_option maxRecDepth 100000 in
set_option maxHeartbeats 4000000 in
theorem ptfits_eq (v : Value) (l : List SN) (ax : Int) (a b : Int × Int) (w : World) (h : Seens w v l) (x1 : 0 ≤ ax) (x2 : ax ≤ 2) (hb : behE l = 0) (ho : ¬(outP a ∨ outP b)) (hq : a.1 = b.1) : Calls Try.prog 33 #[v, .int .i64 ax, .agg #[.int .i64 a.1, .int .i64 a.2], .agg #[.int .i64 b.1, .int .i64 b.2]] w fun e w' => e = .returned (.tuple #[.bool false, .int .i64 1]) ∧ Below w.heap.size w w' := by
  have hbeh := Lib.hid (fun w' (h : Seens w' v l) => by have := pbehind_any v l w' h; rwa [hb] at this)
  obtain ⟨⟨n1, n2⟩, ⟨n3, n4⟩, ⟨n5, n6⟩, n7, n8⟩ := in_of ho
  clear hb ho
  obtain ⟨t, c⟩ := a
  obtain ⟨t', d⟩ := b
  obtain rfl : t = t' := hq
  dsimp only at *
  go_enter Try.func33, Try.ntmps33
  go_wp2_with ((go_at_call 55; refine (hbeh.out _ (h.below (by repeat (first | with_reducible exact Below.refl _ _ | with_reducible assumption | with_reducible refine Below.drew ?_ | with_reducible refine Below.setCell ?_ (by first | omega | (simp; omega) | simp) _ | with_reducible refine Below.alloc ?_ (by first | omega | (simp; omega) | simp) _ | with_reducible refine Below.trans ?_ (Below.mono (by with_reducible assumption) (by first | omega | (simp; omega) | simp)))))).mono ?_; rintro e w1 ⟨⟨u, rfl, hu⟩, hb1⟩; have hu0 := hu (by first | rfl | trivial); clear hu; have hA := heap_old hb1 (heap_alloc (X := .cells #[.int .i64 t, .int .i64 d] 23) (heap_new w (.cells #[.int .i64 t, .int .i64 c] 23) rfl)); have hB := heap_old hb1 (heap_new (w.alloc (.cells #[.int .i64 t, .int .i64 c] 23)) (.cells #[.int .i64 t, .int .i64 d] 23) (b := w.heap.size + 1) (by simp)); have hK : Below w.heap.size w w1 := Below.trans (by repeat (first | with_reducible exact Below.refl _ _ | with_reducible assumption | with_reducible refine Below.drew ?_ | with_reducible refine Below.setCell ?_ (by first | omega | (simp; omega) | simp) _ | with_reducible refine Below.alloc ?_ (by first | omega | (simp; omega) | simp) _ | with_reducible refine Below.trans ?_ (Below.mono (by with_reducible assumption) (by first | omega | (simp; omega) | simp)))) (hb1.mono (by simp; omega)); clear hb1; have hltB := (Array.getElem?_eq_some_iff.1 hB).1; have hltA : w.heap.size < w1.heap.size := Nat.lt_of_succ_lt hltB; have a0 := cell_heap (o := 0) hA rfl; have a1 := cell_heap (o := 1) hA rfl; have b0 := cell_heap (o := 0) hB rfl; have b1 := cell_heap (o := 1) hB rfl; have fa0 := frozen_heap (o := 0) hA; have fa1 := frozen_heap (o := 1) hA; have fb0 := frozen_heap (o := 0) hB; have fb1 := frozen_heap (o := 1) hB))
  refine wp_loop_rounds 3 ?_
  rw [rounds_succ]
  go_wp2_with fail
  rw [rounds_succ]
  go_wp2_with fail
  have hA3 := heap_alloc (X := .cells #[.int .i64 t, .int .i64 d] 23) (heap_alloc (X := .cells #[.int .i64 t, .int .i64 c] 23) (heap_alloc (X := .cells #[.int .i64 t, .int .i64 c, .int .i64 t, .int .i64 d] 23) hA))
  have hB3 := heap_alloc (X := .cells #[.int .i64 t, .int .i64 d] 23) (heap_alloc (X := .cells #[.int .i64 t, .int .i64 c] 23) (heap_alloc (X := .cells #[.int .i64 t, .int .i64 c, .int .i64 t, .int .i64 d] 23) hB))
  have hu3 := hu0.below (Below.alloc (Below.alloc (Below.alloc (Below.refl _ _) (Nat.le_refl _) (.cells #[.int .i64 t, .int .i64 c, .int .i64 t, .int .i64 d] 23)) (by simp) (.cells #[.int .i64 t, .int .i64 c] 23)) (by simp; omega) (.cells #[.int .i64 t, .int .i64 d] 23))
  have hK3 : Below w.heap.size w (((w1.alloc (.cells #[.int .i64 t, .int .i64 c, .int .i64 t, .int .i64 d] 23)).alloc (.cells #[.int .i64 t, .int .i64 c] 23)).alloc (.cells #[.int .i64 t, .int .i64 d] 23)) := (by repeat (first | with_reducible exact Below.refl _ _ | with_reducible assumption | with_reducible refine Below.drew ?_ | with_reducible refine Below.setCell ?_ (by first | omega | (simp; omega) | simp) _ | with_reducible refine Below.alloc ?_ (by first | omega | (simp; omega) | simp) _ | with_reducible refine Below.trans ?_ (Below.mono (by with_reducible assumption) (by first | omega | (simp; omega) | simp))))
  generalize (((w1.alloc (.cells #[.int .i64 t, .int .i64 c, .int .i64 t, .int .i64 d] 23)).alloc (.cells #[.int .i64 t, .int .i64 c] 23)).alloc (.cells #[.int .i64 t, .int .i64 d] 23)) = w3 at hA3 hB3 hu3 hK3 ⊢
  clear a0 a1 b0 b1 fa0 fa1 fb0 fb1 hltB hltA
  have a0 := cell_heap (o := 0) hA3 rfl
  have a1 := cell_heap (o := 1) hA3 rfl
  have b0 := cell_heap (o := 0) hB3 rfl
  have b1 := cell_heap (o := 1) hB3 rfl
  have fa0 := frozen_heap (o := 0) hA3
  have fa1 := frozen_heap (o := 1) hA3
  have fb0 := frozen_heap (o := 0) hB3
  have fb1 := frozen_heap (o := 1) hB3
  rw [rounds_succ]
  go_wp2_with fail
  go_ret2
  exact ⟨rfl, (by repeat (first | with_reducible exact Below.refl _ _ | with_reducible assumption | with_reducible refine Below.drew ?_ | with_reducible refine Below.setCell ?_ (by first | omega | (simp; omega) | simp) _ | with_reducible refine Below.alloc ?_ (by first | omega | (simp; omega) | simp) _ | with_reducible refine Below.trans ?_ (Below.mono (by with_reducible assumption) (by first | omega | (simp; omega) | simp))))⟩
set_option maxRecDepth 100000 in
set_option maxHeartbeats 4000000 in
theorem ptfits_lt (v : Value) (l : List SN) (ax : Int) (a b : Int × Int) (w : World) (h : Seens w v l) (x1 : 0 ≤ ax) (x2 : ax ≤ 2) (hb : behE l = 0) (ho : ¬(outP a ∨ outP b)) (hq : a.1 < b.1) : Calls Try.prog 33 #[v, .int .i64 ax, .agg #[.int .i64 a.1, .int .i64 a.2], .agg #[.int .i64 b.1, .int .i64 b.2]] w fun e w' => e = .returned (.tuple #[.bool (fitL (bnds ax (bhdL l)) a b), .int .i64 0]) ∧ Below w.heap.size w w' := by
  have hbeh := Lib.hid (fun w' (h : Seens w' v l) => by have := pbehind_any v l w' h; rwa [hb] at this)
  have hIn := Lib.hid (in_of ho)
  obtain ⟨⟨n1, n2⟩, ⟨n3, n4⟩, ⟨n5, n6⟩, n7, n8⟩ := in_of ho
  have hbd := Lib.hid (fun w' u (h : Seens w' u (bhdL l)) => bounds_any u (bhdL l) ax w' h bhd_ok (bhd_len l) x1 x2)
  have hok := Lib.hid (bnds_ok (ax := ax) (l := l))
  have hX64 := bnds_small ax l
  have hth := Lib.hid (fun w => through_any a.1 a.2 b.1 b.2 (by omega) (by omega) (by omega) (by omega) w)
  have hne : ¬a.1 = b.1 := by omega
  generalize bnds ax (bhdL l) = X at *
  clear hb ho
  go_enter Try.func33, Try.ntmps33
  go_wp2_with ((go_at_call 55; refine (hbeh.out _ (h.below (by repeat (first | with_reducible exact Below.refl _ _ | with_reducible assumption | with_reducible refine Below.drew ?_ | with_reducible refine Below.setCell ?_ (by first | omega | (simp; omega) | simp) _ | with_reducible refine Below.alloc ?_ (by first | omega | (simp; omega) | simp) _ | with_reducible refine Below.trans ?_ (Below.mono (by with_reducible assumption) (by first | omega | (simp; omega) | simp)))))).mono ?_; rintro e w1 ⟨⟨u, rfl, hu⟩, hb1⟩; have hu0 := hu (by first | rfl | trivial); clear hu; have hA := heap_old hb1 (heap_alloc (X := .cells #[.int .i64 b.1, .int .i64 b.2] 23) (heap_new w (.cells #[.int .i64 a.1, .int .i64 a.2] 23) rfl)); have hB := heap_old hb1 (heap_new (w.alloc (.cells #[.int .i64 a.1, .int .i64 a.2] 23)) (.cells #[.int .i64 b.1, .int .i64 b.2] 23) (b := w.heap.size + 1) (by simp)); have hK : Below w.heap.size w w1 := Below.trans (by repeat (first | with_reducible exact Below.refl _ _ | with_reducible assumption | with_reducible refine Below.drew ?_ | with_reducible refine Below.setCell ?_ (by first | omega | (simp; omega) | simp) _ | with_reducible refine Below.alloc ?_ (by first | omega | (simp; omega) | simp) _ | with_reducible refine Below.trans ?_ (Below.mono (by with_reducible assumption) (by first | omega | (simp; omega) | simp)))) (hb1.mono (by simp; omega)); clear hb1; have hltB := (Array.getElem?_eq_some_iff.1 hB).1; have hltA : w.heap.size < w1.heap.size := Nat.lt_of_succ_lt hltB; have a0 := cell_heap (o := 0) hA rfl; have a1 := cell_heap (o := 1) hA rfl; have b0 := cell_heap (o := 0) hB rfl; have b1 := cell_heap (o := 1) hB rfl; have fa0 := frozen_heap (o := 0) hA; have fa1 := frozen_heap (o := 1) hA; have fb0 := frozen_heap (o := 0) hB; have fb1 := frozen_heap (o := 1) hB))
  refine wp_loop_rounds 3 ?_
  rw [rounds_succ]
  go_wp2_with fail
  rw [rounds_succ]
  go_wp2_with fail
  have hA3 := heap_alloc (X := .cells #[.int .i64 b.1, .int .i64 b.2] 23) (heap_alloc (X := .cells #[.int .i64 a.1, .int .i64 a.2] 23) (heap_alloc (X := .cells #[.int .i64 a.1, .int .i64 a.2, .int .i64 b.1, .int .i64 b.2] 23) hA))
  have hB3 := heap_alloc (X := .cells #[.int .i64 b.1, .int .i64 b.2] 23) (heap_alloc (X := .cells #[.int .i64 a.1, .int .i64 a.2] 23) (heap_alloc (X := .cells #[.int .i64 a.1, .int .i64 a.2, .int .i64 b.1, .int .i64 b.2] 23) hB))
  have hu3 := hu0.below (Below.alloc (Below.alloc (Below.alloc (Below.refl _ _) (Nat.le_refl _) (.cells #[.int .i64 a.1, .int .i64 a.2, .int .i64 b.1, .int .i64 b.2] 23)) (by simp) (.cells #[.int .i64 a.1, .int .i64 a.2] 23)) (by simp; omega) (.cells #[.int .i64 b.1, .int .i64 b.2] 23))
  have hK3 : Below w.heap.size w (((w1.alloc (.cells #[.int .i64 a.1, .int .i64 a.2, .int .i64 b.1, .int .i64 b.2] 23)).alloc (.cells #[.int .i64 a.1, .int .i64 a.2] 23)).alloc (.cells #[.int .i64 b.1, .int .i64 b.2] 23)) := (by repeat (first | with_reducible exact Below.refl _ _ | with_reducible assumption | with_reducible refine Below.drew ?_ | with_reducible refine Below.setCell ?_ (by first | omega | (simp; omega) | simp) _ | with_reducible refine Below.alloc ?_ (by first | omega | (simp; omega) | simp) _ | with_reducible refine Below.trans ?_ (Below.mono (by with_reducible assumption) (by first | omega | (simp; omega) | simp))))
  generalize (((w1.alloc (.cells #[.int .i64 a.1, .int .i64 a.2, .int .i64 b.1, .int .i64 b.2] 23)).alloc (.cells #[.int .i64 a.1, .int .i64 a.2] 23)).alloc (.cells #[.int .i64 b.1, .int .i64 b.2] 23)) = w3 at hA3 hB3 hu3 hK3 ⊢
  clear a0 a1 b0 b1 fa0 fa1 fb0 fb1 hltB hltA
  have a0 := cell_heap (o := 0) hA3 rfl
  have a1 := cell_heap (o := 1) hA3 rfl
  have b0 := cell_heap (o := 0) hB3 rfl
  have b1 := cell_heap (o := 1) hB3 rfl
  have fa0 := frozen_heap (o := 0) hA3
  have fa1 := frozen_heap (o := 1) hA3
  have fb0 := frozen_heap (o := 0) hB3
  have fb1 := frozen_heap (o := 1) hB3
  rw [rounds_succ]
  go_wp2_with (first
    | (go_at_call 74; refine (hth.out _).mono ?_; rintro e w4 ⟨rfl, hb4⟩; have hK4 := Below.next hK3 (Nat.le_refl _) hb4; have hu4 := hu3.below hb4)
    | (go_at_call 57; refine (hbd.out _ _ (hu4.below (by repeat (first | with_reducible exact Below.refl _ _ | with_reducible assumption | with_reducible refine Below.drew ?_ | with_reducible refine Below.setCell ?_ (by first | omega | (simp; omega) | simp) _ | with_reducible refine Below.alloc ?_ (by first | omega | (simp; omega) | simp) _ | with_reducible refine Below.trans ?_ (Below.mono (by with_reducible assumption) (by first | omega | (simp; omega) | simp)))))).mono ?_; rintro e w5 ⟨y, rfl, hy, hb5⟩; have hT := heap_old hb5 (heap_new w4 (.cells #[.int .i64 a.1, .int .i64 a.2, .int .i64 (b.1 - a.1), .int .i64 (b.2 - a.2)] 121) rfl); have hK5 := Below.next1 hK4 (Nat.le_refl _) hb5; obtain ⟨pa, bb, o, cap, rfl, g1, g2, g3, g4⟩ := hy))
  have hcap : cap ≤ 9223372036854775807 := by unfold maxLen at g3; omega
  have hsz5 := hK5.size
  clear hu0 hu3 hu4 hb4 hb5 hK hA hB hA3 hB3 hK3 a0 a1 b0 b1 fa0 fa1 fb0 fb1 hK4
  generalize w4.heap.size = bt at *
  go_loopw [84] (fun x wr => ∃ k : Nat, k ≤ X.length ∧ x = .int .i64 k ∧ Below w5.heap.size w5 wr ∧ (∀ i o, i < k → X[i]? = some o → fitO a b o = true)) (fun x _ => X.length - (intOf x).toNat)
  case atStart => exact ⟨0, by omega, rfl, Below.refl _ _, fun _ _ h => by omega⟩
  case round =>
    obtain ⟨k, hk, rfl, hb0, hP⟩ := hrel
    rcases Nat.lt_or_ge k X.length with hlt | hge
    · obtain rfl := g1 (by omega)
      obtain ⟨c, hc⟩ := some_of' (l := X) hlt
      obtain ⟨c0, c1, c2⟩ := cB_at (cells_below (g4 k c hc) hb0)
      obtain ⟨⟨ct1, ct2⟩, cl1, cl2, cl3⟩ := hok.out c (List.mem_of_getElem? hc)
      obtain ⟨⟨v1, v2⟩, ⟨v3, v4⟩, _, _⟩ := val_bd (a := a) (b := b) (t := c.1) ⟨by omega, by omega, by omega, by omega⟩ ct1 ct2
      obtain ⟨l1, l2⟩ := bnd_bd (v := c.2.1) (d := b.1 - a.1) cl1 (by omega) (by omega) (by omega)
      obtain ⟨l3, l4⟩ := bnd_bd (v := c.2.2) (d := b.1 - a.1) (by omega) cl3 (by omega) (by omega)
      have hve := Lib.hid (valN_eq a b c.1)
      have hC := Lib.hid hc
      have hPP := Lib.hid hP
      have hn : X.length - (k + 1) < X.length - k := by omega
      have hT0 := heap_old hb0 hT
      have hltT := (Array.getElem?_eq_some_iff.1 hT0).1
      have t0 := cell_heap (o := 0) hT0 rfl
      have t1 := cell_heap (o := 1) hT0 rfl
      have t2 := cell_heap (o := 2) hT0 rfl
      have t3 := cell_heap (o := 3) hT0 rfl
      have hsz := hb0.size
      have hKr := Below.next hK5 (Nat.le_refl _) hb0
      have hKs := hKr.size
      clear hc hP
      go_wp2_with fail
      all_goals first
        | (go_ret2; exact ⟨ret_p (fitL_no hC.out (fitO_no (by rw [← hve.out]; first | assumption | (left; assumption) | (right; assumption) | omega))) rfl, (by repeat (first | with_reducible exact Below.refl _ _ | with_reducible assumption | with_reducible refine Below.drew ?_ | with_reducible refine Below.setCell ?_ (by first | omega | (simp; omega) | simp) _ | with_reducible refine Below.alloc ?_ (by first | omega | (simp; omega) | simp) _ | with_reducible refine Below.trans ?_ (Below.mono (by with_reducible assumption) (by first | omega | (simp; omega) | simp))))⟩)
        | (refine ⟨⟨k + 1, hlt, by simp, (by repeat (first | with_reducible exact Below.refl _ _ | with_reducible assumption | with_reducible refine Below.drew ?_ | with_reducible refine Below.setCell ?_ (by first | omega | (simp; omega) | simp) _ | with_reducible refine Below.alloc ?_ (by first | omega | (simp; omega) | simp) _ | with_reducible refine Below.trans ?_ (Below.mono (by with_reducible assumption) (by first | omega | (simp; omega) | simp)))), fun i o h1 h2 => ?_⟩, by simpa [intOf] using hn⟩
           rcases Nat.lt_or_eq_of_le (Nat.le_of_lt_succ h1) with h | rfl
           · exact hPP.out i o h h2
           · obtain rfl := Option.some.inj (hC.out.symm.trans h2)
             rw [fitO_iff, ← hve.out]; omega)
    · have hall := Lib.hid (fitL_all (l := X) (a := a) (b := b) fun i o ho => hP i o (by have := (List.getElem?_eq_some_iff.1 ho).1; omega) ho)
      clear hP
      obtain rfl : k = X.length := by omega
      go_wp2_with fail
      go_ret2
      exact ⟨ret_p hall.out rfl, Below.next hK5 (Nat.le_refl _) hb0⟩
set_option maxRecDepth 100000 in
set_option maxHeartbeats 4000000 in
theorem ptfits_sw (v : Value) (l : List SN) (ax : Int) (a b : Int × Int) (w : World) (h : Seens w v l) (x1 : 0 ≤ ax) (x2 : ax ≤ 2) (hb : behE l = 0) (ho : ¬(outP a ∨ outP b)) (hq : b.1 < a.1) : Calls Try.prog 33 #[v, .int .i64 ax, .agg #[.int .i64 a.1, .int .i64 a.2], .agg #[.int .i64 b.1, .int .i64 b.2]] w fun e w' => e = .returned (.tuple #[.bool (fitL (bnds ax (bhdL l)) b a), .int .i64 0]) ∧ Below w.heap.size w w' := by
  have hbeh := Lib.hid (fun w' (h : Seens w' v l) => by have := pbehind_any v l w' h; rwa [hb] at this)
  have hIn := Lib.hid (in_of ho)
  obtain ⟨⟨n1, n2⟩, ⟨n3, n4⟩, ⟨n5, n6⟩, n7, n8⟩ := in_of ho
  have hbd := Lib.hid (fun w' u (h : Seens w' u (bhdL l)) => bounds_any u (bhdL l) ax w' h bhd_ok (bhd_len l) x1 x2)
  have hok := Lib.hid (bnds_ok (ax := ax) (l := l))
  have hX64 := bnds_small ax l
  have hth := Lib.hid (fun w => through_any b.1 b.2 a.1 a.2 (by omega) (by omega) (by omega) (by omega) w)
  have hne : ¬a.1 = b.1 := by omega
  generalize bnds ax (bhdL l) = X at *
  clear hb ho
  go_enter Try.func33, Try.ntmps33
  go_wp2_with ((go_at_call 55; refine (hbeh.out _ (h.below (by repeat (first | with_reducible exact Below.refl _ _ | with_reducible assumption | with_reducible refine Below.drew ?_ | with_reducible refine Below.setCell ?_ (by first | omega | (simp; omega) | simp) _ | with_reducible refine Below.alloc ?_ (by first | omega | (simp; omega) | simp) _ | with_reducible refine Below.trans ?_ (Below.mono (by with_reducible assumption) (by first | omega | (simp; omega) | simp)))))).mono ?_; rintro e w1 ⟨⟨u, rfl, hu⟩, hb1⟩; have hu0 := hu (by first | rfl | trivial); clear hu; have hA := heap_old hb1 (heap_alloc (X := .cells #[.int .i64 b.1, .int .i64 b.2] 23) (heap_new w (.cells #[.int .i64 a.1, .int .i64 a.2] 23) rfl)); have hB := heap_old hb1 (heap_new (w.alloc (.cells #[.int .i64 a.1, .int .i64 a.2] 23)) (.cells #[.int .i64 b.1, .int .i64 b.2] 23) (b := w.heap.size + 1) (by simp)); have hK : Below w.heap.size w w1 := Below.trans (by repeat (first | with_reducible exact Below.refl _ _ | with_reducible assumption | with_reducible refine Below.drew ?_ | with_reducible refine Below.setCell ?_ (by first | omega | (simp; omega) | simp) _ | with_reducible refine Below.alloc ?_ (by first | omega | (simp; omega) | simp) _ | with_reducible refine Below.trans ?_ (Below.mono (by with_reducible assumption) (by first | omega | (simp; omega) | simp)))) (hb1.mono (by simp; omega)); clear hb1; have hltB := (Array.getElem?_eq_some_iff.1 hB).1; have hltA : w.heap.size < w1.heap.size := Nat.lt_of_succ_lt hltB; have a0 := cell_heap (o := 0) hA rfl; have a1 := cell_heap (o := 1) hA rfl; have b0 := cell_heap (o := 0) hB rfl; have b1 := cell_heap (o := 1) hB rfl; have fa0 := frozen_heap (o := 0) hA; have fa1 := frozen_heap (o := 1) hA; have fb0 := frozen_heap (o := 0) hB; have fb1 := frozen_heap (o := 1) hB))
  refine wp_loop_rounds 3 ?_
  rw [rounds_succ]
  go_wp2_with fail
  rw [rounds_succ]
  go_wp2_with fail
  have hA3 := heap_alloc (X := .cells #[.int .i64 b.1, .int .i64 b.2] 23) (heap_alloc (X := .cells #[.int .i64 a.1, .int .i64 a.2] 23) (heap_alloc (X := .cells #[.int .i64 a.1, .int .i64 a.2, .int .i64 b.1, .int .i64 b.2] 23) hA))
  have hB3 := heap_alloc (X := .cells #[.int .i64 b.1, .int .i64 b.2] 23) (heap_alloc (X := .cells #[.int .i64 a.1, .int .i64 a.2] 23) (heap_alloc (X := .cells #[.int .i64 a.1, .int .i64 a.2, .int .i64 b.1, .int .i64 b.2] 23) hB))
  have hu3 := hu0.below (Below.alloc (Below.alloc (Below.alloc (Below.refl _ _) (Nat.le_refl _) (.cells #[.int .i64 a.1, .int .i64 a.2, .int .i64 b.1, .int .i64 b.2] 23)) (by simp) (.cells #[.int .i64 a.1, .int .i64 a.2] 23)) (by simp; omega) (.cells #[.int .i64 b.1, .int .i64 b.2] 23))
  have hK3 : Below w.heap.size w (((w1.alloc (.cells #[.int .i64 a.1, .int .i64 a.2, .int .i64 b.1, .int .i64 b.2] 23)).alloc (.cells #[.int .i64 a.1, .int .i64 a.2] 23)).alloc (.cells #[.int .i64 b.1, .int .i64 b.2] 23)) := (by repeat (first | with_reducible exact Below.refl _ _ | with_reducible assumption | with_reducible refine Below.drew ?_ | with_reducible refine Below.setCell ?_ (by first | omega | (simp; omega) | simp) _ | with_reducible refine Below.alloc ?_ (by first | omega | (simp; omega) | simp) _ | with_reducible refine Below.trans ?_ (Below.mono (by with_reducible assumption) (by first | omega | (simp; omega) | simp))))
  generalize (((w1.alloc (.cells #[.int .i64 a.1, .int .i64 a.2, .int .i64 b.1, .int .i64 b.2] 23)).alloc (.cells #[.int .i64 a.1, .int .i64 a.2] 23)).alloc (.cells #[.int .i64 b.1, .int .i64 b.2] 23)) = w3 at hA3 hB3 hu3 hK3 ⊢
  clear a0 a1 b0 b1 fa0 fa1 fb0 fb1 hltB hltA
  have a0 := cell_heap (o := 0) hA3 rfl
  have a1 := cell_heap (o := 1) hA3 rfl
  have b0 := cell_heap (o := 0) hB3 rfl
  have b1 := cell_heap (o := 1) hB3 rfl
  have fa0 := frozen_heap (o := 0) hA3
  have fa1 := frozen_heap (o := 1) hA3
  have fb0 := frozen_heap (o := 0) hB3
  have fb1 := frozen_heap (o := 1) hB3
  have hAB : w.heap.size ≠ w.heap.size + 1 := by omega
  have u0 := hu3.other (o := 0) (v := .int .i64 b.1) hA3
  have A1 := heap_set (o := 0) (v := .int .i64 b.1) hA3
  simp only [List.setIfInBounds_toArray, List.set_cons_succ, List.set_cons_zero] at A1
  have u1 := u0.other (o := 1) (v := .int .i64 b.2) A1
  have B1 := heap_set_other (g := w.heap.size) (o := 1) (v := .int .i64 b.2) (heap_set_other (g := w.heap.size) (o := 0) (v := .int .i64 b.1) hB3 (Ne.symm hAB)) (Ne.symm hAB)
  have u2 := u1.other (o := 0) (v := .int .i64 a.1) B1
  have B2 := heap_set (o := 0) (v := .int .i64 a.1) B1
  simp only [List.setIfInBounds_toArray, List.set_cons_succ, List.set_cons_zero] at B2
  have u3 := u2.other (o := 1) (v := .int .i64 a.2) B2
  have hKs := Below.setCell (Below.setCell (Below.setCell (Below.setCell hK3 (Nat.le_refl _) (.int .i64 b.1) (p := ⟨w.heap.size, 0, none⟩)) (Nat.le_refl _) (.int .i64 b.2) (p := ⟨w.heap.size, 1, none⟩)) (Nat.le_succ _) (.int .i64 a.1) (p := ⟨w.heap.size + 1, 0, none⟩)) (Nat.le_succ _) (.int .i64 a.2) (p := ⟨w.heap.size + 1, 1, none⟩)
  rw [rounds_succ]
  go_wp2_with (first
    | (go_at_call 74; refine (hth.out _).mono ?_; rintro e w4 ⟨rfl, hb4⟩; have hK4 := Below.trans hKs (hb4.mono (by simp; exact hK3.size)); have hu4 := u3.below hb4)
    | (go_at_call 57; refine (hbd.out _ _ (hu4.below (by repeat (first | with_reducible exact Below.refl _ _ | with_reducible assumption | with_reducible refine Below.drew ?_ | with_reducible refine Below.setCell ?_ (by first | omega | (simp; omega) | simp) _ | with_reducible refine Below.alloc ?_ (by first | omega | (simp; omega) | simp) _ | with_reducible refine Below.trans ?_ (Below.mono (by with_reducible assumption) (by first | omega | (simp; omega) | simp)))))).mono ?_; rintro e w5 ⟨y, rfl, hy, hb5⟩; have hT := heap_old hb5 (heap_new w4 (.cells #[.int .i64 b.1, .int .i64 b.2, .int .i64 (a.1 - b.1), .int .i64 (a.2 - b.2)] 121) rfl); have hK5 := Below.next1 hK4 (Nat.le_refl _) hb5; obtain ⟨pa, bb, o, cap, rfl, g1, g2, g3, g4⟩ := hy))
  have hcap : cap ≤ 9223372036854775807 := by unfold maxLen at g3; omega
  have hsz5 := hK5.size
  clear hu0 hu3 hu4 hb4 hb5 hK hA hB hA3 hB3 hK3 a0 a1 b0 b1 fa0 fa1 fb0 fb1 hK4
  generalize w4.heap.size = bt at *
  go_loopw [84] (fun x wr => ∃ k : Nat, k ≤ X.length ∧ x = .int .i64 k ∧ Below w5.heap.size w5 wr ∧ (∀ i o, i < k → X[i]? = some o → fitO b a o = true)) (fun x _ => X.length - (intOf x).toNat)
  case atStart => exact ⟨0, by omega, rfl, Below.refl _ _, fun _ _ h => by omega⟩
  case round =>
    obtain ⟨k, hk, rfl, hb0, hP⟩ := hrel
    rcases Nat.lt_or_ge k X.length with hlt | hge
    · obtain rfl := g1 (by omega)
      obtain ⟨c, hc⟩ := some_of' (l := X) hlt
      obtain ⟨c0, c1, c2⟩ := cB_at (cells_below (g4 k c hc) hb0)
      obtain ⟨⟨ct1, ct2⟩, cl1, cl2, cl3⟩ := hok.out c (List.mem_of_getElem? hc)
      obtain ⟨⟨v1, v2⟩, ⟨v3, v4⟩, _, _⟩ := val_bd (a := b) (b := a) (t := c.1) ⟨by omega, by omega, by omega, by omega⟩ ct1 ct2
      obtain ⟨l1, l2⟩ := bnd_bd (v := c.2.1) (d := a.1 - b.1) cl1 (by omega) (by omega) (by omega)
      obtain ⟨l3, l4⟩ := bnd_bd (v := c.2.2) (d := a.1 - b.1) (by omega) cl3 (by omega) (by omega)
      have hve := Lib.hid (valN_eq b a c.1)
      have hC := Lib.hid hc
      have hPP := Lib.hid hP
      have hn : X.length - (k + 1) < X.length - k := by omega
      have hT0 := heap_old hb0 hT
      have hltT := (Array.getElem?_eq_some_iff.1 hT0).1
      have t0 := cell_heap (o := 0) hT0 rfl
      have t1 := cell_heap (o := 1) hT0 rfl
      have t2 := cell_heap (o := 2) hT0 rfl
      have t3 := cell_heap (o := 3) hT0 rfl
      have hsz := hb0.size
      have hKr := Below.next hK5 (Nat.le_refl _) hb0
      have hKs := hKr.size
      clear hc hP
      go_wp2_with fail
      all_goals first
        | (go_ret2; exact ⟨ret_p (fitL_no hC.out (fitO_no (by rw [← hve.out]; first | assumption | (left; assumption) | (right; assumption) | omega))) rfl, (by repeat (first | with_reducible exact Below.refl _ _ | with_reducible assumption | with_reducible refine Below.drew ?_ | with_reducible refine Below.setCell ?_ (by first | omega | (simp; omega) | simp) _ | with_reducible refine Below.alloc ?_ (by first | omega | (simp; omega) | simp) _ | with_reducible refine Below.trans ?_ (Below.mono (by with_reducible assumption) (by first | omega | (simp; omega) | simp))))⟩)
        | (refine ⟨⟨k + 1, hlt, by simp, (by repeat (first | with_reducible exact Below.refl _ _ | with_reducible assumption | with_reducible refine Below.drew ?_ | with_reducible refine Below.setCell ?_ (by first | omega | (simp; omega) | simp) _ | with_reducible refine Below.alloc ?_ (by first | omega | (simp; omega) | simp) _ | with_reducible refine Below.trans ?_ (Below.mono (by with_reducible assumption) (by first | omega | (simp; omega) | simp)))), fun i o h1 h2 => ?_⟩, by simpa [intOf] using hn⟩
           rcases Nat.lt_or_eq_of_le (Nat.le_of_lt_succ h1) with h | rfl
           · exact hPP.out i o h h2
           · obtain rfl := Option.some.inj (hC.out.symm.trans h2)
             rw [fitO_iff, ← hve.out]; omega)
    · have hall := Lib.hid (fitL_all (l := X) (a := b) (b := a) fun i o ho => hP i o (by have := (List.getElem?_eq_some_iff.1 ho).1; omega) ho)
      clear hP
      obtain rfl : k = X.length := by omega
      go_wp2_with fail
      go_ret2
      exact ⟨ret_p hall.out rfl, Below.next hK5 (Nat.le_refl _) hb0⟩
set_option maxRecDepth 100000 in
set_option maxHeartbeats 4000000 in
theorem ptfits_any (v : Value) (l : List SN) (ax : Int) (a b : Int × Int) (w : World) (h : Seens w v l) : Calls Try.prog 33 #[v, .int .i64 ax, .agg #[.int .i64 a.1, .int .i64 a.2], .agg #[.int .i64 b.1, .int .i64 b.2]] w fun e w' => e = .returned (pfV l ax a b) ∧ Below w.heap.size w w' := by
  by_cases hb : bndE l ax = 0
  · obtain ⟨⟨x1, x2⟩, hbe⟩ := bndE_ok hb
    by_cases ho : outP a ∨ outP b
    · rw [pfV_bad (pfE_out hb ho) (by omega)]
      exact ptfits_out v l ax a b w h x1 x2 hbe ho
    · by_cases hq : a.1 = b.1
      · rw [pfV_bad (pfE_eq hb ho hq) (by omega)]
        exact ptfits_eq v l ax a b w h x1 x2 hbe ho hq
      · rw [pfV_ok (pfE_ok hb ho hq)]
        unfold ordA ordB
        by_cases hs : b.1 < a.1
        · rw [if_pos hs, if_pos hs]
          exact ptfits_sw v l ax a b w h x1 x2 hbe ho hs
        · rw [if_neg hs, if_neg hs]
          exact ptfits_lt v l ax a b w h x1 x2 hbe ho (by omega)
  · rw [pfV_bad (pfE_bnd hb) hb]
    by_cases hax : ax < 0 ∨ 2 < ax
    · have e1 : bndE l ax = 1 := by unfold bndE; rw [if_pos hax]
      rw [e1]
      clear hb e1
      go_enter Try.func33, Try.ntmps33
      go_wp2_with fail
      all_goals first
        | (go_ret2; exact ⟨rfl, (by repeat (first | with_reducible exact Below.refl _ _ | with_reducible assumption | with_reducible refine Below.drew ?_ | with_reducible refine Below.setCell ?_ (by first | omega | (simp; omega) | simp) _ | with_reducible refine Below.alloc ?_ (by first | omega | (simp; omega) | simp) _ | with_reducible refine Below.trans ?_ (Below.mono (by with_reducible assumption) (by first | omega | (simp; omega) | simp))))⟩)
        | (exfalso; omega)
    · obtain ⟨x1, x2⟩ : 0 ≤ ax ∧ ax ≤ 2 := by omega
      rw [bndE_in x1 x2] at hb ⊢
      have hbeh := Lib.hid (fun w' (h : Seens w' v l) => pbehind_any v l w' h)
      have hb' : (behE l != 0) = true := by simpa using hb
      clear hax hb
      generalize behE l = E at *
      go_enter Try.func33, Try.ntmps33
      go_wp2_with (go_at_call 55; refine (hbeh.out _ (h.below (by repeat (first | with_reducible exact Below.refl _ _ | with_reducible assumption | with_reducible refine Below.drew ?_ | with_reducible refine Below.setCell ?_ (by first | omega | (simp; omega) | simp) _ | with_reducible refine Below.alloc ?_ (by first | omega | (simp; omega) | simp) _ | with_reducible refine Below.trans ?_ (Below.mono (by with_reducible assumption) (by first | omega | (simp; omega) | simp)))))).mono ?_; rintro e w1 ⟨⟨u, rfl, hu⟩, hb1⟩; clear hu; have hK : Below w.heap.size w w1 := Below.trans (by repeat (first | with_reducible exact Below.refl _ _ | with_reducible assumption | with_reducible refine Below.drew ?_ | with_reducible refine Below.setCell ?_ (by first | omega | (simp; omega) | simp) _ | with_reducible refine Below.alloc ?_ (by first | omega | (simp; omega) | simp) _ | with_reducible refine Below.trans ?_ (Below.mono (by with_reducible assumption) (by first | omega | (simp; omega) | simp)))) (hb1.mono (by simp; omega)))
      go_ret2
      exact ⟨rfl, hK⟩
end Go.Proofs.Ytmdledlbkdcmnaa

/-
  Contract of the reference's Fits (chapter 33).
  Conditions: none.
-/
namespace Go.Proofs.Ytmdledlbkdcmnaa
open Go.RowKit
theorem outP_iff (p q : Int) : decide (outP (p, q)) = (((decide (p < 0) || decide (8000 < p)) || decide (1099511627776 < q)) || decide (q < -1099511627776)) := by
  rw [Bool.eq_iff_iff, decide_eq_true_iff]
  unfold outP
  simp only [decide_eq_true_eq, Bool.or_eq_true]
  omega
theorem rout_any (p q : Int) (w : World) : Calls Try.prog 75 #[.agg #[.int .i64 p, .int .i64 q]] w fun e w' => e = .returned (.bool (decide (outP (p, q)))) ∧ Below w.heap.size w w' := by
  rw [outP_iff]
  go_enter Try.func75, Try.ntmps75
  go_wp2_with fail
  all_goals (go_ret; refine ⟨ret_bool ?_, (by repeat (first | with_reducible exact Below.refl _ _ | with_reducible assumption | with_reducible refine Below.drew ?_ | with_reducible refine Below.setCell ?_ (by first | omega | (simp; omega) | simp) _ | with_reducible refine Below.alloc ?_ (by first | omega | (simp; omega) | simp) _ | with_reducible refine Below.trans ?_ (Below.mono (by with_reducible assumption) (by first | omega | (simp; omega) | simp))))⟩; grind)
theorem Held.other {α : Type} {n : Nat} {f : α → List Value} (hf : ∀ x, 3 ≤ (f x).length) {w : World} {u : Value} {S : List α} {k o : Nat} {x y v : Value} {t : TypeId} {fr : Nat × Nat} (h : Held n f w u S) (hk : w.heap[k]? = some (.cells #[x, y] t fr)) : Held n f (w.setCell ⟨k, o, none⟩ v) u S := by
  obtain ⟨pa, b, q, cap, rfl, h1, h2, h3, h4⟩ := h
  refine ⟨pa, b, q, cap, rfl, h1, h2, h3, fun i s hs j z hz => ?_⟩
  have hb : b ≠ k := by
    rintro rfl
    have := h4 i s hs 2 _ (List.getElem?_eq_getElem (show 2 < (f s).length by have := hf s; omega))
    have e : q + i * n + 2 = (q + i * n) + 2 := rfl
    simp [World.cell?, hk] at this
  have e : (w.setCell ⟨k, o, none⟩ v).cell? ⟨b, q + i * n + j, none⟩ = w.cell? ⟨b, q + i * n + j, none⟩ := by
    unfold World.cell?
    rw [Below.heap_setCell w _ v b hb]
  exact e.trans (h4 i s hs j z hz)
set_option maxRecDepth 100000 in
set_option maxHeartbeats 4000000 in
theorem rptfits_out (v : Value) (l : List SN) (ax : Int) (a b : Int × Int) (w : World) (h : Seens w v l) (hb : bndE l ax = 0) (ho : outP a ∨ outP b) : Calls Try.prog 34 #[v, .int .i64 ax, .agg #[.int .i64 a.1, .int .i64 a.2], .agg #[.int .i64 b.1, .int .i64 b.2]] w fun e w' => e = .returned (.tuple #[.bool false, .int .i64 2]) ∧ Below w.heap.size w w' := by
  have hbd := Lib.hid (fun w' (h : Seens w' v l) => by have := rbounds_any v l ax w' h; rwa [hb] at this)
  by_cases ha : outP a
  · skip
    have hra := Lib.hid (fun w' => by have := rout_any a.1 a.2 w'; rwa [show decide (outP (a.1, a.2)) = true from decide_eq_true ha] at this)
    clear ho ha hb
    go_enter Try.func34, Try.ntmps34
    go_wp2_with (first | ((go_at_call 71; refine (hbd.out _ (h.below (by repeat (first | with_reducible exact Below.refl _ _ | with_reducible assumption | with_reducible refine Below.drew ?_ | with_reducible refine Below.setCell ?_ (by first | omega | (simp; omega) | simp) _ | with_reducible refine Below.alloc ?_ (by first | omega | (simp; omega) | simp) _ | with_reducible refine Below.trans ?_ (Below.mono (by with_reducible assumption) (by first | omega | (simp; omega) | simp)))))).mono ?_; rintro e w1 ⟨u, rfl, hu, hb1⟩; have hu0 := hu (by first | rfl | trivial); clear hu; have hA := heap_old hb1 (heap_alloc (X := .cells #[.int .i64 b.1, .int .i64 b.2] 23) (heap_new w (.cells #[.int .i64 a.1, .int .i64 a.2] 23) rfl)); have hB := heap_old hb1 (heap_new (w.alloc (.cells #[.int .i64 a.1, .int .i64 a.2] 23)) (.cells #[.int .i64 b.1, .int .i64 b.2] 23) (b := w.heap.size + 1) (by simp)); have hK : Below w.heap.size w w1 := Below.trans (by repeat (first | with_reducible exact Below.refl _ _ | with_reducible assumption | with_reducible refine Below.drew ?_ | with_reducible refine Below.setCell ?_ (by first | omega | (simp; omega) | simp) _ | with_reducible refine Below.alloc ?_ (by first | omega | (simp; omega) | simp) _ | with_reducible refine Below.trans ?_ (Below.mono (by with_reducible assumption) (by first | omega | (simp; omega) | simp)))) (hb1.mono (by simp; omega)); clear hb1; (have a0 := cell_heap (o := 0) hA rfl; have a1 := cell_heap (o := 1) hA rfl; have b0 := cell_heap (o := 0) hB rfl; have b1 := cell_heap (o := 1) hB rfl; have fa0 := frozen_heap (o := 0) hA; have fa1 := frozen_heap (o := 1) hA; have fb0 := frozen_heap (o := 0) hB; have fb1 := frozen_heap (o := 1) hB))) | ((go_at_call_of 75 (Value.agg #[Value.int IntKind.i64 a.1, Value.int IntKind.i64 a.2]); refine (hra.out _).mono ?_; rintro e w2 ⟨rfl, hb2⟩; replace hu0 := hu0.below hb2; replace hA := heap_old hb2 hA; replace hB := heap_old hb2 hB; replace hK := Below.next hK (Nat.le_refl _) hb2; (clear a0 a1 b0 b1 fa0 fa1 fb0 fb1); clear hb2; (have a0 := cell_heap (o := 0) hA rfl; have a1 := cell_heap (o := 1) hA rfl; have b0 := cell_heap (o := 0) hB rfl; have b1 := cell_heap (o := 1) hB rfl; have fa0 := frozen_heap (o := 0) hA; have fa1 := frozen_heap (o := 1) hA; have fb0 := frozen_heap (o := 0) hB; have fb1 := frozen_heap (o := 1) hB))))
    go_ret2
    exact ⟨rfl, (by repeat (first | with_reducible exact Below.refl _ _ | with_reducible assumption | with_reducible refine Below.drew ?_ | with_reducible refine Below.setCell ?_ (by first | omega | (simp; omega) | simp) _ | with_reducible refine Below.alloc ?_ (by first | omega | (simp; omega) | simp) _ | with_reducible refine Below.trans ?_ (Below.mono (by with_reducible assumption) (by first | omega | (simp; omega) | simp))))⟩
  · have h2b : outP b := ho.resolve_left ha
    have hra := Lib.hid (fun w' => by have := rout_any a.1 a.2 w'; rwa [show decide (outP (a.1, a.2)) = false from decide_eq_false ha] at this)
    have hrb := Lib.hid (fun w' => by have := rout_any b.1 b.2 w'; rwa [show decide (outP (b.1, b.2)) = true from decide_eq_true h2b] at this)
    clear ho ha hb h2b
    go_enter Try.func34, Try.ntmps34
    go_wp2_with (first | ((go_at_call 71; refine (hbd.out _ (h.below (by repeat (first | with_reducible exact Below.refl _ _ | with_reducible assumption | with_reducible refine Below.drew ?_ | with_reducible refine Below.setCell ?_ (by first | omega | (simp; omega) | simp) _ | with_reducible refine Below.alloc ?_ (by first | omega | (simp; omega) | simp) _ | with_reducible refine Below.trans ?_ (Below.mono (by with_reducible assumption) (by first | omega | (simp; omega) | simp)))))).mono ?_; rintro e w1 ⟨u, rfl, hu, hb1⟩; have hu0 := hu (by first | rfl | trivial); clear hu; have hA := heap_old hb1 (heap_alloc (X := .cells #[.int .i64 b.1, .int .i64 b.2] 23) (heap_new w (.cells #[.int .i64 a.1, .int .i64 a.2] 23) rfl)); have hB := heap_old hb1 (heap_new (w.alloc (.cells #[.int .i64 a.1, .int .i64 a.2] 23)) (.cells #[.int .i64 b.1, .int .i64 b.2] 23) (b := w.heap.size + 1) (by simp)); have hK : Below w.heap.size w w1 := Below.trans (by repeat (first | with_reducible exact Below.refl _ _ | with_reducible assumption | with_reducible refine Below.drew ?_ | with_reducible refine Below.setCell ?_ (by first | omega | (simp; omega) | simp) _ | with_reducible refine Below.alloc ?_ (by first | omega | (simp; omega) | simp) _ | with_reducible refine Below.trans ?_ (Below.mono (by with_reducible assumption) (by first | omega | (simp; omega) | simp)))) (hb1.mono (by simp; omega)); clear hb1; (have a0 := cell_heap (o := 0) hA rfl; have a1 := cell_heap (o := 1) hA rfl; have b0 := cell_heap (o := 0) hB rfl; have b1 := cell_heap (o := 1) hB rfl; have fa0 := frozen_heap (o := 0) hA; have fa1 := frozen_heap (o := 1) hA; have fb0 := frozen_heap (o := 0) hB; have fb1 := frozen_heap (o := 1) hB))) | ((go_at_call_of 75 (Value.agg #[Value.int IntKind.i64 a.1, Value.int IntKind.i64 a.2]); refine (hra.out _).mono ?_; rintro e w2 ⟨rfl, hb2⟩; replace hu0 := hu0.below hb2; replace hA := heap_old hb2 hA; replace hB := heap_old hb2 hB; replace hK := Below.next hK (Nat.le_refl _) hb2; (clear a0 a1 b0 b1 fa0 fa1 fb0 fb1); clear hb2; (have a0 := cell_heap (o := 0) hA rfl; have a1 := cell_heap (o := 1) hA rfl; have b0 := cell_heap (o := 0) hB rfl; have b1 := cell_heap (o := 1) hB rfl; have fa0 := frozen_heap (o := 0) hA; have fa1 := frozen_heap (o := 1) hA; have fb0 := frozen_heap (o := 0) hB; have fb1 := frozen_heap (o := 1) hB))) | ((go_at_call_of 75 (Value.agg #[Value.int IntKind.i64 b.1, Value.int IntKind.i64 b.2]); refine (hrb.out _).mono ?_; rintro e w3 ⟨rfl, hb3⟩; replace hu0 := hu0.below hb3; replace hA := heap_old hb3 hA; replace hB := heap_old hb3 hB; replace hK := Below.next hK (Nat.le_refl _) hb3; (clear a0 a1 b0 b1 fa0 fa1 fb0 fb1); clear hb3; (have a0 := cell_heap (o := 0) hA rfl; have a1 := cell_heap (o := 1) hA rfl; have b0 := cell_heap (o := 0) hB rfl; have b1 := cell_heap (o := 1) hB rfl; have fa0 := frozen_heap (o := 0) hA; have fa1 := frozen_heap (o := 1) hA; have fb0 := frozen_heap (o := 0) hB; have fb1 := frozen_heap (o := 1) hB))))
    go_ret2
    exact ⟨rfl, (by repeat (first | with_reducible exact Below.refl _ _ | with_reducible assumption | with_reducible refine Below.drew ?_ | with_reducible refine Below.setCell ?_ (by first | omega | (simp; omega) | simp) _ | with_reducible refine Below.alloc ?_ (by first | omega | (simp; omega) | simp) _ | with_reducible refine Below.trans ?_ (Below.mono (by with_reducible assumption) (by first | omega | (simp; omega) | simp))))⟩
set_option maxRecDepth 100000 in
set_option maxHeartbeats 4000000 in
theorem rptfits_eq (v : Value) (l : List SN) (ax : Int) (a b : Int × Int) (w : World) (h : Seens w v l) (hb : bndE l ax = 0) (ho : ¬(outP a ∨ outP b)) (hq : a.1 = b.1) : Calls Try.prog 34 #[v, .int .i64 ax, .agg #[.int .i64 a.1, .int .i64 a.2], .agg #[.int .i64 b.1, .int .i64 b.2]] w fun e w' => e = .returned (.tuple #[.bool false, .int .i64 1]) ∧ Below w.heap.size w w' := by
  have hbd := Lib.hid (fun w' (h : Seens w' v l) => by have := rbounds_any v l ax w' h; rwa [hb] at this)
  have hra := Lib.hid (fun w' => by have := rout_any a.1 a.2 w'; rwa [show decide (outP (a.1, a.2)) = false from decide_eq_false fun e => ho (.inl e)] at this)
  have hrb := Lib.hid (fun w' => by have := rout_any b.1 b.2 w'; rwa [show decide (outP (b.1, b.2)) = false from decide_eq_false fun e => ho (.inr e)] at this)
  clear hb ho
  have hq' : (a.1 == b.1) = true := by simp [hq]
  have hq2 := Lib.hid hq
  clear hq
  go_enter Try.func34, Try.ntmps34
  go_wp2_with (first | ((go_at_call 71; refine (hbd.out _ (h.below (by repeat (first | with_reducible exact Below.refl _ _ | with_reducible assumption | with_reducible refine Below.drew ?_ | with_reducible refine Below.setCell ?_ (by first | omega | (simp; omega) | simp) _ | with_reducible refine Below.alloc ?_ (by first | omega | (simp; omega) | simp) _ | with_reducible refine Below.trans ?_ (Below.mono (by with_reducible assumption) (by first | omega | (simp; omega) | simp)))))).mono ?_; rintro e w1 ⟨u, rfl, hu, hb1⟩; have hu0 := hu (by first | rfl | trivial); clear hu; have hA := heap_old hb1 (heap_alloc (X := .cells #[.int .i64 b.1, .int .i64 b.2] 23) (heap_new w (.cells #[.int .i64 a.1, .int .i64 a.2] 23) rfl)); have hB := heap_old hb1 (heap_new (w.alloc (.cells #[.int .i64 a.1, .int .i64 a.2] 23)) (.cells #[.int .i64 b.1, .int .i64 b.2] 23) (b := w.heap.size + 1) (by simp)); have hK : Below w.heap.size w w1 := Below.trans (by repeat (first | with_reducible exact Below.refl _ _ | with_reducible assumption | with_reducible refine Below.drew ?_ | with_reducible refine Below.setCell ?_ (by first | omega | (simp; omega) | simp) _ | with_reducible refine Below.alloc ?_ (by first | omega | (simp; omega) | simp) _ | with_reducible refine Below.trans ?_ (Below.mono (by with_reducible assumption) (by first | omega | (simp; omega) | simp)))) (hb1.mono (by simp; omega)); clear hb1; (have a0 := cell_heap (o := 0) hA rfl; have a1 := cell_heap (o := 1) hA rfl; have b0 := cell_heap (o := 0) hB rfl; have b1 := cell_heap (o := 1) hB rfl; have fa0 := frozen_heap (o := 0) hA; have fa1 := frozen_heap (o := 1) hA; have fb0 := frozen_heap (o := 0) hB; have fb1 := frozen_heap (o := 1) hB))) | ((go_at_call_of 75 (Value.agg #[Value.int IntKind.i64 a.1, Value.int IntKind.i64 a.2]); refine (hra.out _).mono ?_; rintro e w2 ⟨rfl, hb2⟩; replace hu0 := hu0.below hb2; replace hA := heap_old hb2 hA; replace hB := heap_old hb2 hB; replace hK := Below.next hK (Nat.le_refl _) hb2; (clear a0 a1 b0 b1 fa0 fa1 fb0 fb1); clear hb2; (have a0 := cell_heap (o := 0) hA rfl; have a1 := cell_heap (o := 1) hA rfl; have b0 := cell_heap (o := 0) hB rfl; have b1 := cell_heap (o := 1) hB rfl; have fa0 := frozen_heap (o := 0) hA; have fa1 := frozen_heap (o := 1) hA; have fb0 := frozen_heap (o := 0) hB; have fb1 := frozen_heap (o := 1) hB))) | ((go_at_call_of 75 (Value.agg #[Value.int IntKind.i64 b.1, Value.int IntKind.i64 b.2]); refine (hrb.out _).mono ?_; rintro e w3 ⟨rfl, hb3⟩; replace hu0 := hu0.below hb3; replace hA := heap_old hb3 hA; replace hB := heap_old hb3 hB; replace hK := Below.next hK (Nat.le_refl _) hb3; (clear a0 a1 b0 b1 fa0 fa1 fb0 fb1); clear hb3; (have a0 := cell_heap (o := 0) hA rfl; have a1 := cell_heap (o := 1) hA rfl; have b0 := cell_heap (o := 0) hB rfl; have b1 := cell_heap (o := 1) hB rfl; have fa0 := frozen_heap (o := 0) hA; have fa1 := frozen_heap (o := 1) hA; have fb0 := frozen_heap (o := 0) hB; have fb1 := frozen_heap (o := 1) hB))))
  go_ret2
  exact ⟨rfl, (by repeat (first | with_reducible exact Below.refl _ _ | with_reducible assumption | with_reducible refine Below.drew ?_ | with_reducible refine Below.setCell ?_ (by first | omega | (simp; omega) | simp) _ | with_reducible refine Below.alloc ?_ (by first | omega | (simp; omega) | simp) _ | with_reducible refine Below.trans ?_ (Below.mono (by with_reducible assumption) (by first | omega | (simp; omega) | simp))))⟩
set_option maxRecDepth 100000 in
set_option maxHeartbeats 4000000 in
theorem rptfits_lt (v : Value) (l : List SN) (ax : Int) (a b : Int × Int) (w : World) (h : Seens w v l) (hb : bndE l ax = 0) (ho : ¬(outP a ∨ outP b)) (hq : a.1 < b.1) : Calls Try.prog 34 #[v, .int .i64 ax, .agg #[.int .i64 a.1, .int .i64 a.2], .agg #[.int .i64 b.1, .int .i64 b.2]] w fun e w' => e = .returned (.tuple #[.bool (fitL (bnds ax (bhdL l)) a b), .int .i64 0]) ∧ Below w.heap.size w w' := by
  have hbd := Lib.hid (fun w' (h : Seens w' v l) => by have := rbounds_any v l ax w' h; rwa [hb] at this)
  have hra := Lib.hid (fun w' => by have := rout_any a.1 a.2 w'; rwa [show decide (outP (a.1, a.2)) = false from decide_eq_false fun e => ho (.inl e)] at this)
  have hrb := Lib.hid (fun w' => by have := rout_any b.1 b.2 w'; rwa [show decide (outP (b.1, b.2)) = false from decide_eq_false fun e => ho (.inr e)] at this)
  obtain ⟨⟨n1, n2⟩, ⟨n3, n4⟩, ⟨n5, n6⟩, n7, n8⟩ := in_of ho
  have hok := Lib.hid (bnds_ok (ax := ax) (l := l))
  have hX64 := bnds_small ax l
  have hne : ¬a.1 = b.1 := by omega
  generalize bnds ax (bhdL l) = X at *
  clear hb ho
  go_enter Try.func34, Try.ntmps34
  go_wp2_with (first | (((go_at_call 71; refine (hbd.out _ (h.below (by repeat (first | with_reducible exact Below.refl _ _ | with_reducible assumption | with_reducible refine Below.drew ?_ | with_reducible refine Below.setCell ?_ (by first | omega | (simp; omega) | simp) _ | with_reducible refine Below.alloc ?_ (by first | omega | (simp; omega) | simp) _ | with_reducible refine Below.trans ?_ (Below.mono (by with_reducible assumption) (by first | omega | (simp; omega) | simp)))))).mono ?_; rintro e w1 ⟨u, rfl, hu, hb1⟩; have hu0 := hu (by first | rfl | trivial); clear hu; have hA := heap_old hb1 (heap_alloc (X := .cells #[.int .i64 b.1, .int .i64 b.2] 23) (heap_new w (.cells #[.int .i64 a.1, .int .i64 a.2] 23) rfl)); have hB := heap_old hb1 (heap_new (w.alloc (.cells #[.int .i64 a.1, .int .i64 a.2] 23)) (.cells #[.int .i64 b.1, .int .i64 b.2] 23) (b := w.heap.size + 1) (by simp)); have hK : Below w.heap.size w w1 := Below.trans (by repeat (first | with_reducible exact Below.refl _ _ | with_reducible assumption | with_reducible refine Below.drew ?_ | with_reducible refine Below.setCell ?_ (by first | omega | (simp; omega) | simp) _ | with_reducible refine Below.alloc ?_ (by first | omega | (simp; omega) | simp) _ | with_reducible refine Below.trans ?_ (Below.mono (by with_reducible assumption) (by first | omega | (simp; omega) | simp)))) (hb1.mono (by simp; omega)); clear hb1; (have a0 := cell_heap (o := 0) hA rfl; have a1 := cell_heap (o := 1) hA rfl; have b0 := cell_heap (o := 0) hB rfl; have b1 := cell_heap (o := 1) hB rfl; have fa0 := frozen_heap (o := 0) hA; have fa1 := frozen_heap (o := 1) hA; have fb0 := frozen_heap (o := 0) hB; have fb1 := frozen_heap (o := 1) hB)); have hu4 := hu0; obtain ⟨pa, bb, o, cap, rfl, g1, g2, g3, g4⟩ := hu4; clear g4)) | ((go_at_call_of 75 (Value.agg #[Value.int IntKind.i64 a.1, Value.int IntKind.i64 a.2]); refine (hra.out _).mono ?_; rintro e w2 ⟨rfl, hb2⟩; replace hu0 := hu0.below hb2; replace hA := heap_old hb2 hA; replace hB := heap_old hb2 hB; replace hK := Below.next hK (Nat.le_refl _) hb2; (clear a0 a1 b0 b1 fa0 fa1 fb0 fb1); clear hb2; (have a0 := cell_heap (o := 0) hA rfl; have a1 := cell_heap (o := 1) hA rfl; have b0 := cell_heap (o := 0) hB rfl; have b1 := cell_heap (o := 1) hB rfl; have fa0 := frozen_heap (o := 0) hA; have fa1 := frozen_heap (o := 1) hA; have fb0 := frozen_heap (o := 0) hB; have fb1 := frozen_heap (o := 1) hB))) | ((go_at_call_of 75 (Value.agg #[Value.int IntKind.i64 b.1, Value.int IntKind.i64 b.2]); refine (hrb.out _).mono ?_; rintro e w3 ⟨rfl, hb3⟩; replace hu0 := hu0.below hb3; replace hA := heap_old hb3 hA; replace hB := heap_old hb3 hB; replace hK := Below.next hK (Nat.le_refl _) hb3; (clear a0 a1 b0 b1 fa0 fa1 fb0 fb1); clear hb3; (have a0 := cell_heap (o := 0) hA rfl; have a1 := cell_heap (o := 1) hA rfl; have b0 := cell_heap (o := 0) hB rfl; have b1 := cell_heap (o := 1) hB rfl; have fa0 := frozen_heap (o := 0) hA; have fa1 := frozen_heap (o := 1) hA; have fb0 := frozen_heap (o := 0) hB; have fb1 := frozen_heap (o := 1) hB))))
  clear g1 g2 g3
  obtain ⟨pa2, bb2, o2, cap2, he2, g1, g2, g3, g4⟩ := hu0
  cases he2
  have hcap : cap ≤ 9223372036854775807 := by unfold maxLen at g3; omega
  generalize hw5 : w3 = w5 at *
  clear hw5
  have hsz5 := hK.size
  (clear a0 a1 b0 b1 fa0 fa1 fb0 fb1)
  go_loopw [50] (fun x wr => ∃ k : Nat, k ≤ X.length ∧ x = .int .i64 k ∧ Below w5.heap.size w5 wr ∧ (∀ i o, i < k → X[i]? = some o → fitO a b o = true)) (fun x _ => X.length - (intOf x).toNat)
  case atStart => exact ⟨0, by omega, rfl, Below.refl _ _, fun _ _ h => by omega⟩
  case round =>
    obtain ⟨k, hk, rfl, hb0, hP⟩ := hrel
    rcases Nat.lt_or_ge k X.length with hlt | hge
    · obtain rfl := g1 (by omega)
      obtain ⟨c, hc⟩ := some_of' (l := X) hlt
      obtain ⟨c0, c1, c2⟩ := cB_at (cells_below (g4 k c hc) hb0)
      obtain ⟨⟨ct1, ct2⟩, cl1, cl2, cl3⟩ := hok.out c (List.mem_of_getElem? hc)
      obtain ⟨_, _, ⟨v1, v2⟩, v3, v4⟩ := val_bd (a := a) (b := b) (t := c.1) ⟨by omega, by omega, by omega, by omega⟩ ct1 ct2
      obtain ⟨l1, l2⟩ := bnd_bd (v := c.2.1) (d := b.1 - a.1) cl1 (by omega) (by omega) (by omega)
      obtain ⟨l3, l4⟩ := bnd_bd (v := c.2.2) (d := b.1 - a.1) (by omega) cl3 (by omega) (by omega)
      have hve : Hid (a.2 * (b.1 - c.1) + b.2 * (c.1 - a.1) = valN a b c.1) := Lib.hid rfl
      have hC := Lib.hid hc
      have hPP := Lib.hid hP
      have hn : X.length - (k + 1) < X.length - k := by omega
      replace hA := heap_old hb0 hA
      replace hB := heap_old hb0 hB
      have hltB := (Array.getElem?_eq_some_iff.1 hB).1
      have hltA := (Array.getElem?_eq_some_iff.1 hA).1
      (have a0 := cell_heap (o := 0) hA rfl; have a1 := cell_heap (o := 1) hA rfl; have b0 := cell_heap (o := 0) hB rfl; have b1 := cell_heap (o := 1) hB rfl; have fa0 := frozen_heap (o := 0) hA; have fa1 := frozen_heap (o := 1) hA; have fb0 := frozen_heap (o := 0) hB; have fb1 := frozen_heap (o := 1) hB)
      have hsz := hb0.size
      have hKr := Below.next hK (Nat.le_refl _) hb0
      have hKs := hKr.size
      clear hc hP
      go_wp2_with fail
      all_goals first
        | (go_ret2; exact ⟨ret_p (fitL_no hC.out (fitO_no (by rw [← hve.out]; first | assumption | (left; assumption) | (right; assumption) | omega))) rfl, (by repeat (first | with_reducible exact Below.refl _ _ | with_reducible assumption | with_reducible refine Below.drew ?_ | with_reducible refine Below.setCell ?_ (by first | omega | (simp; omega) | simp) _ | with_reducible refine Below.alloc ?_ (by first | omega | (simp; omega) | simp) _ | with_reducible refine Below.trans ?_ (Below.mono (by with_reducible assumption) (by first | omega | (simp; omega) | simp))))⟩)
        | (refine ⟨⟨_, _, _, _, _, ⟨k + 1, hlt, by simp, (by repeat (first | with_reducible exact Below.refl _ _ | with_reducible assumption | with_reducible refine Below.drew ?_ | with_reducible refine Below.setCell ?_ (by first | omega | (simp; omega) | simp) _ | with_reducible refine Below.alloc ?_ (by first | omega | (simp; omega) | simp) _ | with_reducible refine Below.trans ?_ (Below.mono (by with_reducible assumption) (by first | omega | (simp; omega) | simp)))), fun i o1 o2 o3 h1 h2 => ?_⟩, rfl, rfl, rfl, rfl, rfl⟩, by simpa [intOf] using hn⟩
           rcases Nat.lt_or_eq_of_le (Nat.le_of_lt_succ h1) with h | rfl
           · exact hPP.out i (o1, o2, o3) h h2
           · obtain rfl := Option.some.inj (hC.out.symm.trans h2)
             rw [fitO_iff, ← hve.out]; omega)
    · have hall := Lib.hid (fitL_all (l := X) (a := a) (b := b) fun i o ho => hP i o (by have := (List.getElem?_eq_some_iff.1 ho).1; omega) ho)
      clear hP
      obtain rfl : k = X.length := by omega
      go_wp2_with fail
      go_ret2
      exact ⟨ret_p hall.out rfl, Below.next hK (Nat.le_refl _) hb0⟩
set_option maxRecDepth 100000 in
set_option maxHeartbeats 4000000 in
theorem rptfits_sw (v : Value) (l : List SN) (ax : Int) (a b : Int × Int) (w : World) (h : Seens w v l) (hb : bndE l ax = 0) (ho : ¬(outP a ∨ outP b)) (hq : b.1 < a.1) : Calls Try.prog 34 #[v, .int .i64 ax, .agg #[.int .i64 a.1, .int .i64 a.2], .agg #[.int .i64 b.1, .int .i64 b.2]] w fun e w' => e = .returned (.tuple #[.bool (fitL (bnds ax (bhdL l)) b a), .int .i64 0]) ∧ Below w.heap.size w w' := by
  have hbd := Lib.hid (fun w' (h : Seens w' v l) => by have := rbounds_any v l ax w' h; rwa [hb] at this)
  have hra := Lib.hid (fun w' => by have := rout_any a.1 a.2 w'; rwa [show decide (outP (a.1, a.2)) = false from decide_eq_false fun e => ho (.inl e)] at this)
  have hrb := Lib.hid (fun w' => by have := rout_any b.1 b.2 w'; rwa [show decide (outP (b.1, b.2)) = false from decide_eq_false fun e => ho (.inr e)] at this)
  obtain ⟨⟨n1, n2⟩, ⟨n3, n4⟩, ⟨n5, n6⟩, n7, n8⟩ := in_of ho
  have hok := Lib.hid (bnds_ok (ax := ax) (l := l))
  have hX64 := bnds_small ax l
  have hne : ¬a.1 = b.1 := by omega
  generalize bnds ax (bhdL l) = X at *
  clear hb ho
  go_enter Try.func34, Try.ntmps34
  go_wp2_with (first | (((go_at_call 71; refine (hbd.out _ (h.below (by repeat (first | with_reducible exact Below.refl _ _ | with_reducible assumption | with_reducible refine Below.drew ?_ | with_reducible refine Below.setCell ?_ (by first | omega | (simp; omega) | simp) _ | with_reducible refine Below.alloc ?_ (by first | omega | (simp; omega) | simp) _ | with_reducible refine Below.trans ?_ (Below.mono (by with_reducible assumption) (by first | omega | (simp; omega) | simp)))))).mono ?_; rintro e w1 ⟨u, rfl, hu, hb1⟩; have hu0 := hu (by first | rfl | trivial); clear hu; have hA := heap_old hb1 (heap_alloc (X := .cells #[.int .i64 b.1, .int .i64 b.2] 23) (heap_new w (.cells #[.int .i64 a.1, .int .i64 a.2] 23) rfl)); have hB := heap_old hb1 (heap_new (w.alloc (.cells #[.int .i64 a.1, .int .i64 a.2] 23)) (.cells #[.int .i64 b.1, .int .i64 b.2] 23) (b := w.heap.size + 1) (by simp)); have hK : Below w.heap.size w w1 := Below.trans (by repeat (first | with_reducible exact Below.refl _ _ | with_reducible assumption | with_reducible refine Below.drew ?_ | with_reducible refine Below.setCell ?_ (by first | omega | (simp; omega) | simp) _ | with_reducible refine Below.alloc ?_ (by first | omega | (simp; omega) | simp) _ | with_reducible refine Below.trans ?_ (Below.mono (by with_reducible assumption) (by first | omega | (simp; omega) | simp)))) (hb1.mono (by simp; omega)); clear hb1; (have a0 := cell_heap (o := 0) hA rfl; have a1 := cell_heap (o := 1) hA rfl; have b0 := cell_heap (o := 0) hB rfl; have b1 := cell_heap (o := 1) hB rfl; have fa0 := frozen_heap (o := 0) hA; have fa1 := frozen_heap (o := 1) hA; have fb0 := frozen_heap (o := 0) hB; have fb1 := frozen_heap (o := 1) hB)); have hu4 := hu0; obtain ⟨pa, bb, o, cap, rfl, g1, g2, g3, g4⟩ := hu4; clear g4)) | ((go_at_call_of 75 (Value.agg #[Value.int IntKind.i64 a.1, Value.int IntKind.i64 a.2]); refine (hra.out _).mono ?_; rintro e w2 ⟨rfl, hb2⟩; replace hu0 := hu0.below hb2; replace hA := heap_old hb2 hA; replace hB := heap_old hb2 hB; replace hK := Below.next hK (Nat.le_refl _) hb2; (clear a0 a1 b0 b1 fa0 fa1 fb0 fb1); clear hb2; (have a0 := cell_heap (o := 0) hA rfl; have a1 := cell_heap (o := 1) hA rfl; have b0 := cell_heap (o := 0) hB rfl; have b1 := cell_heap (o := 1) hB rfl; have fa0 := frozen_heap (o := 0) hA; have fa1 := frozen_heap (o := 1) hA; have fb0 := frozen_heap (o := 0) hB; have fb1 := frozen_heap (o := 1) hB))) | ((go_at_call_of 75 (Value.agg #[Value.int IntKind.i64 b.1, Value.int IntKind.i64 b.2]); refine (hrb.out _).mono ?_; rintro e w3 ⟨rfl, hb3⟩; replace hu0 := hu0.below hb3; replace hA := heap_old hb3 hA; replace hB := heap_old hb3 hB; replace hK := Below.next hK (Nat.le_refl _) hb3; (clear a0 a1 b0 b1 fa0 fa1 fb0 fb1); clear hb3; (have a0 := cell_heap (o := 0) hA rfl; have a1 := cell_heap (o := 1) hA rfl; have b0 := cell_heap (o := 0) hB rfl; have b1 := cell_heap (o := 1) hB rfl; have fa0 := frozen_heap (o := 0) hA; have fa1 := frozen_heap (o := 1) hA; have fb0 := frozen_heap (o := 0) hB; have fb1 := frozen_heap (o := 1) hB))))
  have hAB : w.heap.size ≠ w.heap.size + 1 := by omega
  have u0 := hu0.other (o := 0) (v := .int .i64 b.1) (fun _ => Nat.le_refl _) hA
  have A1 := heap_set (o := 0) (v := .int .i64 b.1) hA
  simp only [List.setIfInBounds_toArray, List.set_cons_succ, List.set_cons_zero] at A1
  have u1 := u0.other (o := 1) (v := .int .i64 b.2) (fun _ => Nat.le_refl _) A1
  have A2 := heap_set (o := 1) (v := .int .i64 b.2) A1
  simp only [List.setIfInBounds_toArray, List.set_cons_succ, List.set_cons_zero] at A2
  have B1 := heap_set_other (g := w.heap.size) (o := 1) (v := .int .i64 b.2) (heap_set_other (g := w.heap.size) (o := 0) (v := .int .i64 b.1) hB (Ne.symm hAB)) (Ne.symm hAB)
  have u2 := u1.other (o := 0) (v := .int .i64 a.1) (fun _ => Nat.le_refl _) B1
  have B2 := heap_set (o := 0) (v := .int .i64 a.1) B1
  simp only [List.setIfInBounds_toArray, List.set_cons_succ, List.set_cons_zero] at B2
  have u3 := u2.other (o := 1) (v := .int .i64 a.2) (fun _ => Nat.le_refl _) B2
  have B3 := heap_set (o := 1) (v := .int .i64 a.2) B2
  simp only [List.setIfInBounds_toArray, List.set_cons_succ, List.set_cons_zero] at B3
  have A3 := heap_set_other (g := w.heap.size + 1) (o := 1) (v := .int .i64 a.2) (heap_set_other (g := w.heap.size + 1) (o := 0) (v := .int .i64 a.1) A2 hAB) hAB
  have hKs := Below.setCell (Below.setCell (Below.setCell (Below.setCell hK (Nat.le_refl _) (.int .i64 b.1) (p := ⟨w.heap.size, 0, none⟩)) (Nat.le_refl _) (.int .i64 b.2) (p := ⟨w.heap.size, 1, none⟩)) (Nat.le_succ _) (.int .i64 a.1) (p := ⟨w.heap.size + 1, 0, none⟩)) (Nat.le_succ _) (.int .i64 a.2) (p := ⟨w.heap.size + 1, 1, none⟩)
  (clear a0 a1 b0 b1 fa0 fa1 fb0 fb1)
  clear hA hB u0 u1 u2 A1 A2 B1 B2 hK hu0
  have hA := A3
  have hB := B3
  have hK := hKs
  have hu0 := u3
  clear A3 B3 hKs u3
  clear g1 g2 g3
  obtain ⟨pa2, bb2, o2, cap2, he2, g1, g2, g3, g4⟩ := hu0
  cases he2
  have hcap : cap ≤ 9223372036854775807 := by unfold maxLen at g3; omega
  generalize hw5 : World.setCell (World.setCell (World.setCell (World.setCell _ _ _) _ _) _ _) _ _ = w5 at *
  clear hw5
  have hsz5 := hK.size
  go_loopw [50] (fun x wr => ∃ k : Nat, k ≤ X.length ∧ x = .int .i64 k ∧ Below w5.heap.size w5 wr ∧ (∀ i o, i < k → X[i]? = some o → fitO b a o = true)) (fun x _ => X.length - (intOf x).toNat)
  case atStart => exact ⟨0, by omega, rfl, Below.refl _ _, fun _ _ h => by omega⟩
  case round =>
    obtain ⟨k, hk, rfl, hb0, hP⟩ := hrel
    rcases Nat.lt_or_ge k X.length with hlt | hge
    · obtain rfl := g1 (by omega)
      obtain ⟨c, hc⟩ := some_of' (l := X) hlt
      obtain ⟨c0, c1, c2⟩ := cB_at (cells_below (g4 k c hc) hb0)
      obtain ⟨⟨ct1, ct2⟩, cl1, cl2, cl3⟩ := hok.out c (List.mem_of_getElem? hc)
      obtain ⟨_, _, ⟨v1, v2⟩, v3, v4⟩ := val_bd (a := b) (b := a) (t := c.1) ⟨by omega, by omega, by omega, by omega⟩ ct1 ct2
      obtain ⟨l1, l2⟩ := bnd_bd (v := c.2.1) (d := a.1 - b.1) cl1 (by omega) (by omega) (by omega)
      obtain ⟨l3, l4⟩ := bnd_bd (v := c.2.2) (d := a.1 - b.1) (by omega) cl3 (by omega) (by omega)
      have hve : Hid (b.2 * (a.1 - c.1) + a.2 * (c.1 - b.1) = valN b a c.1) := Lib.hid rfl
      have hC := Lib.hid hc
      have hPP := Lib.hid hP
      have hn : X.length - (k + 1) < X.length - k := by omega
      replace hA := heap_old hb0 hA
      replace hB := heap_old hb0 hB
      have hltB := (Array.getElem?_eq_some_iff.1 hB).1
      have hltA := (Array.getElem?_eq_some_iff.1 hA).1
      (have a0 := cell_heap (o := 0) hA rfl; have a1 := cell_heap (o := 1) hA rfl; have b0 := cell_heap (o := 0) hB rfl; have b1 := cell_heap (o := 1) hB rfl; have fa0 := frozen_heap (o := 0) hA; have fa1 := frozen_heap (o := 1) hA; have fb0 := frozen_heap (o := 0) hB; have fb1 := frozen_heap (o := 1) hB)
      have hsz := hb0.size
      have hKr := Below.next hK (Nat.le_refl _) hb0
      have hKs := hKr.size
      clear hc hP
      go_wp2_with fail
      all_goals first
        | (go_ret2; exact ⟨ret_p (fitL_no hC.out (fitO_no (by rw [← hve.out]; first | assumption | (left; assumption) | (right; assumption) | omega))) rfl, (by repeat (first | with_reducible exact Below.refl _ _ | with_reducible assumption | with_reducible refine Below.drew ?_ | with_reducible refine Below.setCell ?_ (by first | omega | (simp; omega) | simp) _ | with_reducible refine Below.alloc ?_ (by first | omega | (simp; omega) | simp) _ | with_reducible refine Below.trans ?_ (Below.mono (by with_reducible assumption) (by first | omega | (simp; omega) | simp))))⟩)
        | (refine ⟨⟨_, _, _, _, _, ⟨k + 1, hlt, by simp, (by repeat (first | with_reducible exact Below.refl _ _ | with_reducible assumption | with_reducible refine Below.drew ?_ | with_reducible refine Below.setCell ?_ (by first | omega | (simp; omega) | simp) _ | with_reducible refine Below.alloc ?_ (by first | omega | (simp; omega) | simp) _ | with_reducible refine Below.trans ?_ (Below.mono (by with_reducible assumption) (by first | omega | (simp; omega) | simp)))), fun i o1 o2 o3 h1 h2 => ?_⟩, rfl, rfl, rfl, rfl, rfl⟩, by simpa [intOf] using hn⟩
           rcases Nat.lt_or_eq_of_le (Nat.le_of_lt_succ h1) with h | rfl
           · exact hPP.out i (o1, o2, o3) h h2
           · obtain rfl := Option.some.inj (hC.out.symm.trans h2)
             rw [fitO_iff, ← hve.out]; omega)
    · have hall := Lib.hid (fitL_all (l := X) (a := b) (b := a) fun i o ho => hP i o (by have := (List.getElem?_eq_some_iff.1 ho).1; omega) ho)
      clear hP
      obtain rfl : k = X.length := by omega
      go_wp2_with fail
      go_ret2
      exact ⟨ret_p hall.out rfl, Below.next hK (Nat.le_refl _) hb0⟩
set_option maxRecDepth 100000 in
set_option maxHeartbeats 4000000 in
theorem rptfits_any (v : Value) (l : List SN) (ax : Int) (a b : Int × Int) (w : World) (h : Seens w v l) : Calls Try.prog 34 #[v, .int .i64 ax, .agg #[.int .i64 a.1, .int .i64 a.2], .agg #[.int .i64 b.1, .int .i64 b.2]] w fun e w' => e = .returned (pfV l ax a b) ∧ Below w.heap.size w w' := by
  by_cases hb : bndE l ax = 0
  · by_cases ho : outP a ∨ outP b
    · rw [pfV_bad (pfE_out hb ho) (by omega)]
      exact rptfits_out v l ax a b w h hb ho
    · by_cases hq : a.1 = b.1
      · rw [pfV_bad (pfE_eq hb ho hq) (by omega)]
        exact rptfits_eq v l ax a b w h hb ho hq
      · rw [pfV_ok (pfE_ok hb ho hq)]
        unfold ordA ordB
        by_cases hs : b.1 < a.1
        · rw [if_pos hs, if_pos hs]
          exact rptfits_sw v l ax a b w h hb ho hs
        · rw [if_neg hs, if_neg hs]
          exact rptfits_lt v l ax a b w h hb ho (by omega)
  · rw [pfV_bad (pfE_bnd hb) hb]
    have hbd := Lib.hid (fun w' (h : Seens w' v l) => rbounds_any v l ax w' h)
    have hb' : (bndE l ax != 0) = true := by simpa using hb
    clear hb
    generalize bndE l ax = E at *
    go_enter Try.func34, Try.ntmps34
    go_wp2_with (go_at_call 71; refine (hbd.out _ (h.below (by repeat (first | with_reducible exact Below.refl _ _ | with_reducible assumption | with_reducible refine Below.drew ?_ | with_reducible refine Below.setCell ?_ (by first | omega | (simp; omega) | simp) _ | with_reducible refine Below.alloc ?_ (by first | omega | (simp; omega) | simp) _ | with_reducible refine Below.trans ?_ (Below.mono (by with_reducible assumption) (by first | omega | (simp; omega) | simp)))))).mono ?_; rintro e w1 ⟨u, rfl, hu, hb1⟩; clear hu; have hK : Below w.heap.size w w1 := Below.trans (by repeat (first | with_reducible exact Below.refl _ _ | with_reducible assumption | with_reducible refine Below.drew ?_ | with_reducible refine Below.setCell ?_ (by first | omega | (simp; omega) | simp) _ | with_reducible refine Below.alloc ?_ (by first | omega | (simp; omega) | simp) _ | with_reducible refine Below.trans ?_ (Below.mono (by with_reducible assumption) (by first | omega | (simp; omega) | simp)))) (hb1.mono (by simp; omega)))
    go_ret2
    exact ⟨rfl, hK⟩
end Go.Proofs.Ytmdledlbkdcmnaa
