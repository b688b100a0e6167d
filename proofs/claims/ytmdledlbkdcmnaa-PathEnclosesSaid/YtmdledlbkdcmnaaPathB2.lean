/-
  Contract of path.bounds for Z.
  Conditions: none.
-/
import Derived.Test.YtmdledlbkdcmnaaPathA
import Derived.Test.YtmdledlbkdcmnaaRegion
namespace Go.Proofs.Ytmdledlbkdcmnaa
open Go.RowKit
set_option linter.unusedSimpArgs false
set_option maxRecDepth 100000 in
set_option maxHeartbeats 4000000 in
theorem bounds2 (v : Value) (l : List SN) (w : World) (h : Seens w v l) (hok : ∀ s ∈ l, okS s = true) (hl : l.length ≤ 64) : Calls Try.prog 57 #[v, .int .i64 2] w fun e w' => ∃ u, e = .returned u ∧ Bnds w' u (bnds 2 l) ∧ Below w.heap.size w w' := by
  obtain ⟨i0, hi0, hz0, hz1, hz2⟩ := info_parts (P := Try.prog) (e := 124) (z := zeroB) (size := 3) (bytes := 24) (by kernel_rfl)
  obtain ⟨pa, b, o, cap, rfl, h1, h2, h3, h4⟩ := h
  have hcap : cap ≤ 9223372036854775807 := by unfold maxLen at h3; omega
  go_enter Try.func57, Try.ntmps57
  go_wp2_with fail
  go_loopw [5, 11] (fun u x wr => ∃ k : Nat, k ≤ l.length ∧ x = .int .i64 k ∧ Below w.heap.size w wr ∧ wr.ownsRow w.heap.size 124 3 u ((bnds 2 l).take k).length (((bnds 2 l).take k).flatMap cB)) (fun _ x _ => l.length - (intOf x).toNat)
  case atStart => exact ⟨0, by omega, rfl, (by repeat (first | with_reducible exact Below.refl _ _ | with_reducible assumption | with_reducible refine Below.drew ?_ | with_reducible refine Below.setCell ?_ (by first | omega | (simp; omega) | simp) _ | with_reducible refine Below.alloc ?_ (by first | omega | (simp; omega) | simp) _ | with_reducible refine Below.trans ?_ (Below.mono (by with_reducible assumption) (by first | omega | (simp; omega) | simp)))), by simpa using World.ownsRow_nil _ _ _ _⟩
  case round =>
    obtain ⟨k, hk, rfl, hb0, hO⟩ := hrel
    have hlenk : ((bnds 2 l).take k).length = k := by rw [List.length_take, bnds_len]; omega
    have hsz := hb0.size
    rcases Nat.lt_or_ge k l.length with hlt | hge
    · obtain rfl := h1 (by omega)
      obtain ⟨s, hs⟩ : ∃ s, l[k]? = some s := ⟨_, List.getElem?_eq_getElem hlt⟩
      obtain ⟨c0, c1, c2, c3, c4⟩ := (h4 k s hs).below hb0
      obtain ⟨⟨a1, a2⟩, ⟨a3, a4⟩, ⟨a5, a6⟩, ⟨a7, a8⟩, a9, a10⟩ := okS_iff.1 (hok s (List.mem_of_getElem? hs))
      have hTT := Lib.hid (take_map_next (bndS 2) hs)
      have hn : l.length - (k + 1) < l.length - k := by omega
      clear hs h4 hok
      unfold bnds at *
      generalize (l.map (bndS 2)).take k = P at *
      go_wp2_with fail
      have hS : ((wr.alloc (.cells #[.int .i64 s.1, .int .i64 s.2.1, .int .i64 s.2.2.1, .int .i64 s.2.2.2.1, .int .i64 s.2.2.2.2] 38)).alloc (.cells #[.int .i64 s.1, .int .i64 (s.2.1 - s.2.2.2.2), .int .i64 (s.2.1 + s.2.2.2.2)] 124)).heap[wr.heap.size]? = some (.cells #[.int .i64 s.1, .int .i64 s.2.1, .int .i64 s.2.2.1, .int .i64 s.2.2.2.1, .int .i64 s.2.2.2.2] 38) := heap_alloc (heap_new wr _ rfl)
      have hBn := heap_new (wr.alloc (.cells #[.int .i64 s.1, .int .i64 s.2.1, .int .i64 s.2.2.1, .int .i64 s.2.2.2.1, .int .i64 s.2.2.2.2] 38)) (.cells #[.int .i64 s.1, .int .i64 (s.2.1 - s.2.2.2.2), .int .i64 (s.2.1 + s.2.2.2.2)] 124) (b := wr.heap.size + 1) (by simp)
      apply region_gen 17 [] [0, 1, 2, 3, 4, 5, 6, 7, 8, 9, 10, 11, 12, 13, 14, 15, 16] [17, 18, 19]; (case hm => kernel_rfl); (case hS => rfl); (case hF => kernel_rfl); (case hB => kernel_rfl); (case hQ => exact fun _ _ _ _ _ h => h); (case f => (exact rfl)); (case hz => exact rfl); (case h => (intro LQ hLQ W1 hW1; have hS1 := heap_old hW1 hS; have d0 := cell_heap (o := 0) hS1 rfl; have d3 := cell_heap (o := 3) hS1 rfl; have d4 := cell_heap (o := 4) hS1 rfl; simp only [pickO, List.drop_succ_cons, List.drop_zero, List.take_succ_cons, List.take_zero, List.cons_append, List.nil_append, List.append_nil, Act.put, List.setIfInBounds_toArray, List.set_cons_succ, List.set_cons_zero]; have hl := @Later.cell; (repeat (go_big_quiet_step ((go_at_call 53; exact Calls.later_same (raise_any _ _ _))))); exact wpQuiet_nil hLQ)); (intro W2 hW2; simp only [pickO, List.drop_succ_cons, List.drop_zero, List.take_succ_cons, List.take_zero, List.cons_append, List.nil_append, List.append_nil, Act.put, List.setIfInBounds_toArray, List.set_cons_succ, List.set_cons_zero])
      have hB2 := heap_old hW2 hBn
      have e0 := cell_heap (o := 0) hB2 rfl
      have e1 := cell_heap (o := 1) hB2 rfl
      have e2 := cell_heap (o := 2) hB2 rfl
      have f1 := frozen_heap (o := 1) hB2
      have f2 := frozen_heap (o := 2) hB2
      have hK2 : Below wr.heap.size wr W2 := Below.trans (by repeat (first | with_reducible exact Below.refl _ _ | with_reducible assumption | with_reducible refine Below.drew ?_ | with_reducible refine Below.setCell ?_ (by first | omega | (simp; omega) | simp) _ | with_reducible refine Below.alloc ?_ (by first | omega | (simp; omega) | simp) _ | with_reducible refine Below.trans ?_ (Below.mono (by with_reducible assumption) (by first | omega | (simp; omega) | simp)))) (hW2.mono (by simp; omega))
      have hsz2 := hK2.size
      have hlt2 := (Array.getElem?_eq_some_iff.1 hB2).1
      go_wp2_with (at_builtin; refine wpList_append_own _ rfl _ _ 93 rfl w.heap.size 124 i0 zeroB 3 24 Try.underlying93 hi0 hz0 hz1 hz2 rfl (by decide) _ _ _ rfl (own_below hO (by repeat (first | with_reducible exact Below.refl _ _ | with_reducible assumption | with_reducible refine Below.drew ?_ | with_reducible refine Below.setCell ?_ (by first | omega | (simp; omega) | simp) _ | with_reducible refine Below.alloc ?_ (by first | omega | (simp; omega) | simp) _ | with_reducible refine Below.trans ?_ (Below.mono (by with_reducible assumption) (by first | omega | (simp; omega) | simp))))) ⟨_, 0, none⟩ 1 1 (cB (bZ s)) rfl rfl ?_ (cB_one _) (by unfold maxLen; omega) (by omega) (by simp; omega) ?_; rotate_left; intro u' w5 ho5 hg5 hnil5)
      · refine ⟨⟨k + 1, hlt, by simp, ?_, ?_⟩, by simpa [intOf] using hn⟩
        · exact Below.grown (by repeat (first | with_reducible exact Below.refl _ _ | with_reducible assumption | with_reducible refine Below.drew ?_ | with_reducible refine Below.setCell ?_ (by first | omega | (simp; omega) | simp) _ | with_reducible refine Below.alloc ?_ (by first | omega | (simp; omega) | simp) _ | with_reducible refine Below.trans ?_ (Below.mono (by with_reducible assumption) (by first | omega | (simp; omega) | simp)))) hg5 (by simp; omega) (fun q hq => by have := (hO.lt q hq).1; omega)
        · rw [hTT.out]; exact own_push ho5
      · exact cells_here (heap_drew (heap_new _ _ (by simp)))
    · obtain rfl : k = l.length := by omega
      rw [List.take_of_length_le (by rw [bnds_len]; omega)] at hO
      clear hlenk
      go_wp2_with fail
      go_ret
      exact ⟨_, rfl, held_own cB_len hO, hb0⟩
end Go.Proofs.Ytmdledlbkdcmnaa
