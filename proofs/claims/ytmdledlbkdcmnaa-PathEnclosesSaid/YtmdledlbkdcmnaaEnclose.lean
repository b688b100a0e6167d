/-
  Contract of path.enclose.
  Conditions: none.
-/
import Derived.Test.YtmdledlbkdcmnaaRims
import Derived.Test.YtmdledlbkdcmnaaRegionF
import Derived.Test.YtmdledlbkdcmnaaFold
namespace Go.Proofs.Ytmdledlbkdcmnaa
open Go.RowKit
set_option linter.unusedSimpArgs false
theorem ret_rng {a b c d : Int} {w w' : World} {n : Nat} (h1 : a = c) (h2 : b = d) (h : Below n w w') : Ending.returned (.agg #[.int .i64 a, .int .i64 b]) = .returned (.agg #[.int .i64 c, .int .i64 d]) ∧ Below n w w' := ⟨by rw [h1, h2], h⟩
theorem ite_max (a b : Int) : (if a < b then b else a) = max a b := by omega
theorem ite_min (a b : Int) : (if b < a then b else a) = min a b := by omega
set_option maxRecDepth 100000 in
set_option maxHeartbeats 4000000 in
theorem enclose_any (v1 v2 : Value) (L U : List LN) (t : Int) (w : World) (h1 : Lns w v1 L) (h2 : Lns w v2 U) (hlen : U.length = L.length) (hpos : 0 < L.length) (hL : ∀ x ∈ L, okN x) (hU : ∀ x ∈ U, okN x) (t1 : -10 ≤ t) (t2 : t ≤ 5000) :
    Calls Try.prog 70 #[v1, v2, .int .i64 t] w fun e w' => e = .returned (.agg #[.int .i64 (mxl (L.map fun x => flL x t)), .int .i64 (mnl (U.map fun x => ceL x t))]) ∧ Below w.heap.size w w' := by
  obtain ⟨pa, b, o, cap, rfl, a1, a2, a3, a4⟩ := h1
  obtain ⟨pb, d, q, cup, rfl, c1, c2, c3, c4⟩ := h2
  obtain rfl := a1 hpos
  obtain rfl := c1 (by omega)
  rw [hlen] at c2 ⊢
  have hcap : cap ≤ 9223372036854775807 := by unfold maxLen at a3; omega
  have hcup : cup ≤ 9223372036854775807 := by unfold maxLen at c3; omega
  obtain ⟨x, hx⟩ := some_of' (l := L) hpos
  obtain ⟨y, hy⟩ := some_of' (l := U) (show 0 < U.length by omega)
  have hfx : (L.map fun x => flL x t)[0]? = some (flL x t) := by rw [List.getElem?_map, hx]; rfl
  have hfy : (U.map fun x => ceL x t)[0]? = some (ceL y t) := by rw [List.getElem?_map, hy]; rfl
  have hMX := Lib.hid (fold_max hfx)
  have hMN := Lib.hid (fold_min hfy)
  have hx4 := Lib.hid (a4 0 x hx)
  have hy4 := Lib.hid (c4 0 y hy)
  have f0 := Lib.hid (fun w => floor_any x t (hL x (List.mem_of_getElem? hx)) t1 t2 w)
  have g0 := Lib.hid (fun w => ceil_any y t (hU y (List.mem_of_getElem? hy)) t1 t2 w)
  have hOL := Lib.hid hL
  have hOU := Lib.hid hU
  clear hx hy hfx hfy a1 c1 hL hU
  go_enter Try.func70, Try.ntmps70
  go_wp2_with fail
  have hR := heap_new w (.cells #[.int .i64 0, .int .i64 0] 34) rfl
  have hBR : Below w.heap.size w (w.alloc (.cells #[.int .i64 0, .int .i64 0] 34)) := (by repeat (first | with_reducible exact Below.refl _ _ | with_reducible assumption | with_reducible refine Below.drew ?_ | with_reducible refine Below.setCell ?_ (by first | omega | (simp; omega) | simp) _ | with_reducible refine Below.alloc ?_ (by first | omega | (simp; omega) | simp) _ | with_reducible refine Below.trans ?_ (Below.mono (by with_reducible assumption) (by first | omega | (simp; omega) | simp))))
  have hsR : w.heap.size + 1 ≤ (w.alloc (.cells #[.int .i64 0, .int .i64 0] 34)).heap.size := by simp
  generalize w.alloc (.cells #[.int .i64 0, .int .i64 0] 34) = w0 at hR hBR hsR ⊢
  apply region_genA 12 11 [] [0, 1, 2, 3, 4, 5, 6, 7, 8, 9, 10] [12]; (case hm => kernel_rfl); (case hS => rfl); (case hF => kernel_rfl); (case hB => kernel_rfl); (case hQ => exact fun _ _ _ _ _ h => h); (case ho => rfl); (case hg => rfl); (case hal => (intro a W; go_simp; with_reducible rfl)); (case f => (exact rfl)); (case hz => exact rfl); (case h => (intro LQ hLQ W1 hW1; have hK1 := Below.next hBR (Nat.le_refl _) hW1; obtain ⟨e0, e1, e2, e3⟩ := cL_at (cells_below hx4.out hK1); obtain ⟨i0, i1, i2, i3⟩ := cL_at (cells_below hy4.out hK1); simp only [Nat.zero_mul, Nat.add_zero] at e0 e1 e2 e3 i0 i1 i2 i3; simp only [pickO, List.drop_succ_cons, List.drop_zero, List.take_succ_cons, List.take_zero, List.cons_append, List.nil_append, List.append_nil, Act.put, List.setIfInBounds_toArray, List.set_cons_succ, List.set_cons_zero]; have hl := @Later.cell; (repeat (go_big_quiet_step (first | (go_at_call 106; exact Calls.later (f0.out _)) | (go_at_call 107; exact Calls.later (g0.out _))))); exact wpQuiet_nil hLQ)); (intro k W2 hk hW2 hkk; simp only [pickO, List.drop_succ_cons, List.drop_zero, List.take_succ_cons, List.take_zero, List.cons_append, List.nil_append, List.append_nil, Act.put, List.setIfInBounds_toArray, List.set_cons_succ, List.set_cons_zero])
  have hK2 := Below.next hBR (Nat.le_refl _) hW2
  have hR2 := heap_old hW2 hR
  have k0 := cell_heap (o := 0) hkk rfl
  have k1 := cell_heap (o := 1) hkk rfl
  have z0 := frozen_heap (o := 0) hkk
  have z1 := frozen_heap (o := 1) hkk
  go_wp2_with fail
  have hS3 := heap_set (o := 1) (v := .int .i64 (ceL y t)) (heap_set (o := 0) (v := .int .i64 (flL x t)) hkk)
  simp only [List.setIfInBounds_toArray, List.set_cons_succ, List.set_cons_zero] at hS3
  have hR3 := heap_set_other (g := k) (o := 1) (v := .int .i64 (ceL y t)) (heap_set_other (g := k) (o := 0) (v := .int .i64 (flL x t)) hR2 (by omega)) (by omega)
  have hB3 : Below w.heap.size w ((W2.setCell ⟨k, 0, none⟩ (.int .i64 (flL x t))).setCell ⟨k, 1, none⟩ (.int .i64 (ceL y t))) := (by repeat (first | with_reducible exact Below.refl _ _ | with_reducible assumption | with_reducible refine Below.drew ?_ | with_reducible refine Below.setCell ?_ (by first | omega | (simp; omega) | simp) _ | with_reducible refine Below.alloc ?_ (by first | omega | (simp; omega) | simp) _ | with_reducible refine Below.trans ?_ (Below.mono (by with_reducible assumption) (by first | omega | (simp; omega) | simp))))
  generalize (W2.setCell ⟨k, 0, none⟩ (.int .i64 (flL x t))).setCell ⟨k, 1, none⟩ (.int .i64 (ceL y t)) = W3 at hS3 hR3 hB3 ⊢
  clear k0 k1 z0 z1 hkk hR2 hR hW2 hK2
  have hkw : w.heap.size < k := by omega
  clear hk hsR hBR
  generalize hFL : (L.map fun x => flL x t) = FL at *
  generalize hFU : (U.map fun x => ceL x t) = FU at *
  have hFLH := Lib.hid hFL
  have hFUH := Lib.hid hFU
  clear hFL hFU
  go_loopw [22] (fun i wr => ∃ m : Nat, m ≤ L.length ∧ i = .int .i64 m ∧ Below w.heap.size w wr ∧ wr.heap[w.heap.size]? = some (.cells #[.int .i64 0, .int .i64 0] 34 (0, 0)) ∧ wr.heap[k]? = some (.cells #[.int .i64 ((FL.take m).foldl max (flL x t)), .int .i64 ((FU.take m).foldl min (ceL y t))] 34 (0, 0))) (fun i _ => L.length - (intOf i).toNat)
  case atStart => exact ⟨0, by omega, rfl, hB3, hR3, by simpa using hS3⟩
  case round =>
    obtain ⟨m, hm, rfl, hb0, hR0, hS0⟩ := hrel
    rcases Nat.lt_or_ge m L.length with hlt | hge
    · obtain ⟨p, hp⟩ := some_of' (l := L) hlt
      obtain ⟨r, hr⟩ := some_of' (l := U) (show m < U.length by omega)
      have hp4 := a4 m p hp
      have hr4 := c4 m r hr
      have f1 := Lib.hid (fun w => floor_any p t (hOL.out p (List.mem_of_getElem? hp)) t1 t2 w)
      have g1 := Lib.hid (fun w => ceil_any r t (hOU.out r (List.mem_of_getElem? hr)) t1 t2 w)
      have hfp : FL[m]? = some (flL p t) := by rw [← hFLH.out, List.getElem?_map, hp]; rfl
      have hfr : FU[m]? = some (ceL r t) := by rw [← hFUH.out, List.getElem?_map, hr]; rfl
      have hNX := Lib.hid (fold_next (f := max) (x := flL x t) hfp)
      have hNN := Lib.hid (fold_next (f := min) (x := ceL y t) hfr)
      have hn : L.length - (m + 1) < L.length - m := by omega
      have hlk := (Array.getElem?_eq_some_iff.1 hS0).1
      clear hp hr hfp hfr
      generalize (FL.take m).foldl max (flL x t) = A at *
      generalize (FU.take m).foldl min (ceL y t) = B at *
      go_wp2_with fail
      apply region_genF 19 17 [0, 1, 2, 3, 4, 5, 6, 7, 8, 9, 10, 11, 12, 13, 14, 15, 16, 18] [20, 21]; (case hm => kernel_rfl); (case hS => rfl); (case hB => kernel_rfl); (case hQ => exact fun _ _ _ _ _ h => h); (case ho => rfl); (case hg => rfl); (case h => (intro LQ hLQ W1 hW1; have hK1 := Below.next hb0 (Nat.le_refl _) hW1; obtain ⟨e0, e1, e2, e3⟩ := cL_at (cells_below hp4 hK1); obtain ⟨i0, i1, i2, i3⟩ := cL_at (cells_below hr4 hK1); have hS1 := heap_old hW1 hS0; have s0 := cell_heap (o := 0) hS1 rfl; have s1 := cell_heap (o := 1) hS1 rfl; simp only [pickO, List.drop_succ_cons, List.drop_zero, List.take_succ_cons, List.take_zero, List.cons_append, List.nil_append, List.append_nil, Act.put, List.setIfInBounds_toArray, List.set_cons_succ, List.set_cons_zero]; have hl := @Later.cell; (repeat (go_big_quiet_step (first | (go_at_call 106; exact Calls.later (f1.out _)) | (go_at_call 107; exact Calls.later (g1.out _))))); exact wpQuiet_nil hLQ)); (case hv => (intro W; go_simp; with_reducible rfl)); (case hF => (simp only [Act.put, List.setIfInBounds_toArray, List.set_cons_succ, List.set_cons_zero]; exact rfl)); (all_goals (intro W2 hW2; simp only [pickO, List.drop_succ_cons, List.drop_zero, List.take_succ_cons, List.take_zero, List.cons_append, List.nil_append, List.append_nil, Act.put, List.setIfInBounds_toArray, List.set_cons_succ, List.set_cons_zero]))
      all_goals
        have hK2 := Below.next hb0 (Nat.le_refl _) hW2
        have hR2 := heap_old hW2 hR0
        have hS2 := heap_old hW2 hS0
        have k0 := cell_heap (o := 0) hS2 rfl
        have k1 := cell_heap (o := 1) hS2 rfl
        have z0 := frozen_heap (o := 0) hS2
        have z1 := frozen_heap (o := 1) hS2
        go_wp2_with fail
        refine ⟨⟨m + 1, hlt, by simp, (by repeat (first | with_reducible exact Below.refl _ _ | with_reducible assumption | with_reducible refine Below.drew ?_ | with_reducible refine Below.setCell ?_ (by first | omega | (simp; omega) | simp) _ | with_reducible refine Below.alloc ?_ (by first | omega | (simp; omega) | simp) _ | with_reducible refine Below.trans ?_ (Below.mono (by with_reducible assumption) (by first | omega | (simp; omega) | simp)))), heap_set_other (heap_set_other hR2 (by omega)) (by omega), ?_⟩, by simpa [intOf] using hn⟩
        rw [hNX.out, hNN.out, ← ite_max, ← ite_min]
        have hS4 := heap_set (o := 1) (v := .int .i64 (if ceL r t < B then ceL r t else B)) (heap_set (o := 0) (v := .int .i64 (if A < flL p t then flL p t else A)) hS2)
        simpa only [List.setIfInBounds_toArray, List.set_cons_succ, List.set_cons_zero] using hS4
    · obtain rfl : m = L.length := by omega
      have e1 : FL.take L.length = FL := List.take_of_length_le (by rw [← hFLH.out, List.length_map]; omega)
      have e2 : FU.take L.length = FU := List.take_of_length_le (by rw [← hFUH.out, List.length_map]; omega)
      rw [e1, e2, hMX.out, hMN.out] at hS0
      clear e1 e2
      have r0 := cell_heap (o := 0) hR0 rfl
      have r1 := cell_heap (o := 1) hR0 rfl
      have s0 := cell_heap (o := 0) hS0 rfl
      have s1 := cell_heap (o := 1) hS0 rfl
      have z0 := frozen_heap (o := 0) hR0
      have z1 := frozen_heap (o := 1) hR0
      go_wp2_with fail
      have hE := heap_set (o := 1) (v := .int .i64 (mnl FU)) (heap_set (o := 0) (v := .int .i64 (mxl FL)) hR0)
      simp only [List.setIfInBounds_toArray, List.set_cons_succ, List.set_cons_zero] at hE
      have c0 := cell_heap (o := 0) hE rfl
      have c1 := cell_heap (o := 1) hE rfl
      refine bodyPost_ret (v := .agg #[.int .i64 (mxl FL), .int .i64 (mnl FU)]) (by simp only [results, Try.results70]; go_simp) rfl (ret_rng (congrArg mxl hFLH.out.symm) (congrArg mnl hFUH.out.symm) (by repeat (first | with_reducible exact Below.refl _ _ | with_reducible assumption | with_reducible refine Below.drew ?_ | with_reducible refine Below.setCell ?_ (by first | omega | (simp; omega) | simp) _ | with_reducible refine Below.alloc ?_ (by first | omega | (simp; omega) | simp) _ | with_reducible refine Below.trans ?_ (Below.mono (by with_reducible assumption) (by first | omega | (simp; omega) | simp)))))
end Go.Proofs.Ytmdledlbkdcmnaa
