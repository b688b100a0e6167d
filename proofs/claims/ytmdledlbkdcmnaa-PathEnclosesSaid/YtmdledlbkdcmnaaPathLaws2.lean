/-
  The walks of the statements on enclosures: Fits and what it encloses.
  Conditions: none.
-/
import Derived.Test.YtmdledlbkdcmnaaPathLaws
import Derived.Test.YtmdledlbkdcmnaaPtFits
import Derived.Test.YtmdledlbkdcmnaaValue
import Derived.Test.YtmdledlbkdcmnaaCrossLaw
import Derived.Test.YtmdledlbkdcmnaaFold
namespace Go.Proofs.Ytmdledlbkdcmnaa
open Go.RowKit
set_option maxRecDepth 100000 in
set_option maxHeartbeats 4000000 in
theorem pathFits_walk (v : Value) (l : List SN) (ax : Int) (a b : Int × Int) (w : World) (h : Seens w v l) : Calls Try.prog 7 #[v, .int .i64 ax, .agg #[.int .i64 a.1, .int .i64 a.2, .int .i64 b.1, .int .i64 b.2]] w fun e w' => e = .returned (.bool true) ∧ Below w.heap.size w w' := by
  have hf := Lib.hid (fun w' (h : Seens w' v l) => few_any v l w' h)
  have h1 := Lib.hid (fun w' (h : Seens w' v l) => ptfits_any v l ax a b w' h)
  have h2 := Lib.hid (fun w' (h : Seens w' v l) => rptfits_any v l ax a b w' h)
  unfold pfV at h1 h2
  generalize pfB l ax a b = A at *
  generalize pfE l ax a b = E at *
  generalize fewB l = fb at *
  cases fb
  all_goals
    go_enter Try.func7, Try.ntmps7
    go_wp2_with (first
      | (go_at_call 28; refine (awake33_any _).mono ?_; rintro e w1 ⟨rfl, hb1⟩; have hP := heap_old hb1 (heap_new w (.cells #[.int .i64 a.1, .int .i64 a.2, .int .i64 b.1, .int .i64 b.2] 24) rfl); have hK := Below.next1 (Below.refl w.heap.size w) (Nat.le_refl _) hb1; clear hb1; (have p0 := cell_heap (o := 0) hP rfl; have p1 := cell_heap (o := 1) hP rfl; have p2 := cell_heap (o := 2) hP rfl; have p3 := cell_heap (o := 3) hP rfl))
      | (go_at_call 29; refine (hf.out _ (h.below hK)).mono ?_; rintro e w2 ⟨rfl, hb2⟩; replace hK := Below.next hK (Nat.le_refl _) hb2; replace hP := heap_old hb2 hP; clear hb2; clear p0 p1 p2 p3; (have p0 := cell_heap (o := 0) hP rfl; have p1 := cell_heap (o := 1) hP rfl; have p2 := cell_heap (o := 2) hP rfl; have p3 := cell_heap (o := 3) hP rfl))
      | (go_at_call 33; refine (h1.out _ (h.below hK)).mono ?_; rintro e w3 ⟨rfl, hb3⟩; replace hK := Below.next hK (Nat.le_refl _) hb3; replace hP := heap_old hb3 hP; clear hb3; clear p0 p1 p2 p3; (have p0 := cell_heap (o := 0) hP rfl; have p1 := cell_heap (o := 1) hP rfl; have p2 := cell_heap (o := 2) hP rfl; have p3 := cell_heap (o := 3) hP rfl))
      | (go_at_call 34; refine (h2.out _ (h.below hK)).mono ?_; rintro e w4 ⟨rfl, hb4⟩; replace hK := Below.next hK (Nat.le_refl _) hb4; clear hb4))
    go_ret
    exact ⟨rfl, hK⟩
theorem bndE_range {l : List SN} {ax : Int} (h : bndE l ax = 0) : 0 ≤ ax ∧ ax ≤ 2 := (bndE_ok h).1
theorem pfE_parts {l : List SN} {ax : Int} {a b : Int × Int} (h1 : pfE l ax a b = 0) : bndE l ax = 0 ∧ ¬(outP a ∨ outP b) ∧ (ordA a b).1 < (ordB a b).1 := by
  unfold pfE at h1
  split at h1
  · omega
  · rename_i hb
    split at h1
    · omega
    · rename_i ho
      split at h1
      · omega
      · refine ⟨by simpa using hb, ho, ?_⟩
        unfold ordA ordB
        by_cases hs : b.1 < a.1
        · rw [if_pos hs, if_pos hs]; exact hs
        · rw [if_neg hs, if_neg hs]; omega
theorem pfB_fit {l : List SN} {ax : Int} {a b : Int × Int} (h2 : pfB l ax a b = true) : pfE l ax a b = 0 ∧ fitL (bnds ax (bhdL l)) (ordA a b) (ordB a b) = true := by
  unfold pfB at h2; simp only [Bool.and_eq_true, decide_eq_true_eq] at h2; exact h2
theorem linE_parts {l : List SN} {ax t : Int} (h3 : linE l ax t = 0) : (lastB (bnds ax (bhdL l))).1 ≤ t ∧ t ≤ (lastB (bnds ax (bhdL l))).1 + 400 := by
  unfold linE at h3
  split at h3
  · omega
  · split at h3
    · omega
    · split at h3
      · omega
      · omega
/-- ENCLOSES, as the program's results tell it. -/
theorem encloses {l : List SN} {ax t : Int} {a b : Int × Int} (h2 : pfB l ax a b = true) (h3 : linE l ax t = 0) :
    (0 ≤ t ∧ t ≤ 4400) ∧ (-300000000000000 ≤ linLo l ax t ∧ linLo l ax t ≤ 300000000000000) ∧ (-300000000000000 ≤ linHi l ax t ∧ linHi l ax t ≤ 300000000000000) ∧ linLo l ax t * ((ordB a b).1 - (ordA a b).1) ≤ valN (ordA a b) (ordB a b) t ∧ valN (ordA a b) (ordB a b) t ≤ linHi l ax t * ((ordB a b).1 - (ordA a b).1) := by
  obtain ⟨h1, hf⟩ := pfB_fit h2
  obtain ⟨hb, ho, hlt⟩ := pfE_parts h1
  obtain ⟨⟨x1, x2⟩, hbe⟩ := bndE_ok hb
  have l2 : 2 ≤ (bnds ax (bhdL l)).length := by rw [bnds_len]; exact (behE_len hbe).2
  obtain ⟨t1, t2⟩ := linE_parts h3
  have T := lastB_t (bnds_ok (ax := ax) (l := l)) l2
  have := enclosed (bnds_rise ax l) l2 (past_last (bnds_rise ax l) l2 t1) hlt hf
  have y1 := loR_bd (bnds_ok (ax := ax) (l := l)) (bnds_rise ax l) (show -10 ≤ t by omega) (show t ≤ 5000 by omega) (show -10 ≤ t by omega) (show t ≤ 5000 by omega)
  have y2 := hiR_bd (bnds_ok (ax := ax) (l := l)) (bnds_rise ax l) (show -10 ≤ t by omega) (show t ≤ 5000 by omega) (show -10 ≤ t by omega) (show t ≤ 5000 by omega)
  unfold linLo linHi
  rw [if_pos h3, if_pos h3]
  exact ⟨⟨by omega, by omega⟩, y1, y2, this⟩
theorem conflict_no {l : List SN} {ax t : Int} {a b : Int × Int} (h2 : pfB l ax a b = true) (h3 : linE l ax t = 13) : False := by
  obtain ⟨h1, hf⟩ := pfB_fit h2
  obtain ⟨hb, ho, hlt⟩ := pfE_parts h1
  have := fitsB_of_line (bnds_rise ax l) hlt hf
  obtain ⟨⟨x1, x2⟩, hbe⟩ := bndE_ok hb
  unfold linE at h3
  rw [if_neg (by omega), if_neg (by omega), if_pos this] at h3
  split at h3 <;> omega
theorem ord_in {a b : Int × Int} (ho : ¬(outP a ∨ outP b)) : (0 ≤ (ordA a b).1 ∧ (ordA a b).1 ≤ 8000) ∧ (-1099511627776 ≤ (ordA a b).2 ∧ (ordA a b).2 ≤ 1099511627776) ∧ (0 ≤ (ordB a b).1 ∧ (ordB a b).1 ≤ 8000) ∧ (-1099511627776 ≤ (ordB a b).2 ∧ (ordB a b).2 ≤ 1099511627776) := by
  have := in_of ho
  unfold ordA ordB
  by_cases hs : b.1 < a.1
  · rw [if_pos hs, if_pos hs]; omega
  · rw [if_neg hs, if_neg hs]; omega
set_option maxRecDepth 100000 in
set_option maxHeartbeats 4000000 in
theorem pathEncloses_few (v : Value) (l : List SN) (a b : Int × Int) (n t : Int) (w : World) (h : Seens w v l) (hn1 : -9223372036854775808 ≤ n) (hn2 : n ≤ 9223372036854775807) (hfb : fewB l = false) : Calls Try.prog 8 #[v, .agg #[.int .i64 a.1, .int .i64 a.2, .int .i64 b.1, .int .i64 b.2], .agg #[.int .i64 n, .int .i64 t]] w fun e w' => e = .returned (.bool true) ∧ Below w.heap.size w w' := by
  have hf := Lib.hid (fun w' (h : Seens w' v l) => few_any v l w' h)
  have hax : IntKind.i64.wrap (n.tmod 3) = n.tmod 3 := kwrap_id (by have := Int.tmod_lt_of_pos n (show (0:Int) < 3 by omega); have := Int.lt_tmod_of_pos n (show (0:Int) < 3 by omega); omega) (by have := Int.tmod_lt_of_pos n (show (0:Int) < 3 by omega); omega)
  generalize hA : n.tmod 3 = ax at *
  have h1 := Lib.hid (fun w' (h : Seens w' v l) => ptfits_any v l ax a b w' h)
  have h2 := Lib.hid (fun w' (h : Seens w' v l) => lines_any v l ax t w' h)
  unfold pfV at h1
  unfold linV at h2
  rw [hfb] at hf
  clear hA
  go_enter Try.func8, Try.ntmps8
  go_wp2_with (first
    | ((go_at_call 28; refine (awake33_any _).mono ?_; rintro e w1 ⟨rfl, hb1⟩; have hP := heap_old hb1 (heap_alloc (X := .cells #[.int .i64 n, .int .i64 t] 23) (heap_new w (.cells #[.int .i64 a.1, .int .i64 a.2, .int .i64 b.1, .int .i64 b.2] 24) rfl)); have hN := heap_old hb1 (heap_new (w.alloc (.cells #[.int .i64 a.1, .int .i64 a.2, .int .i64 b.1, .int .i64 b.2] 24)) (.cells #[.int .i64 n, .int .i64 t] 23) (b := w.heap.size + 1) (by simp)); have hK := Below.next2 (Below.refl w.heap.size w) (Nat.le_refl _) hb1; clear hb1; (have p0 := cell_heap (o := 0) hP rfl; have p1 := cell_heap (o := 1) hP rfl; have p2 := cell_heap (o := 2) hP rfl; have p3 := cell_heap (o := 3) hP rfl); (have n0 := cell_heap (o := 0) hN rfl; have n1 := cell_heap (o := 1) hN rfl)))
    | ((go_at_call 29; refine (hf.out _ (h.below hK)).mono ?_; rintro e w2 ⟨rfl, hb2⟩; replace hK := Below.next hK (Nat.le_refl _) hb2; replace hP := heap_old hb2 hP; replace hN := heap_old hb2 hN; clear hb2; clear p0 p1 p2 p3 n0 n1; (have p0 := cell_heap (o := 0) hP rfl; have p1 := cell_heap (o := 1) hP rfl; have p2 := cell_heap (o := 2) hP rfl; have p3 := cell_heap (o := 3) hP rfl); (have n0 := cell_heap (o := 0) hN rfl; have n1 := cell_heap (o := 1) hN rfl))))
  go_ret
  exact ⟨rfl, hK⟩
set_option maxRecDepth 100000 in
set_option maxHeartbeats 4000000 in
theorem pathEncloses_bad (v : Value) (l : List SN) (a b : Int × Int) (n t : Int) (w : World) (h : Seens w v l) (hn1 : -9223372036854775808 ≤ n) (hn2 : n ≤ 9223372036854775807) (hfb : fewB l = true) (hB : pfB l (n.tmod 3) a b = false) : Calls Try.prog 8 #[v, .agg #[.int .i64 a.1, .int .i64 a.2, .int .i64 b.1, .int .i64 b.2], .agg #[.int .i64 n, .int .i64 t]] w fun e w' => e = .returned (.bool true) ∧ Below w.heap.size w w' := by
  have hf := Lib.hid (fun w' (h : Seens w' v l) => few_any v l w' h)
  have hax : IntKind.i64.wrap (n.tmod 3) = n.tmod 3 := kwrap_id (by have := Int.tmod_lt_of_pos n (show (0:Int) < 3 by omega); have := Int.lt_tmod_of_pos n (show (0:Int) < 3 by omega); omega) (by have := Int.tmod_lt_of_pos n (show (0:Int) < 3 by omega); omega)
  generalize hA : n.tmod 3 = ax at *
  have h1 := Lib.hid (fun w' (h : Seens w' v l) => ptfits_any v l ax a b w' h)
  have h2 := Lib.hid (fun w' (h : Seens w' v l) => lines_any v l ax t w' h)
  unfold pfV at h1
  unfold linV at h2
  rw [hfb] at hf
  rw [hB] at h1
  generalize pfE l ax a b = E at *
  generalize linE l ax t = K at *
  generalize linLo l ax t = lo at *
  generalize linHi l ax t = hi at *
  go_enter Try.func8, Try.ntmps8
  go_wp2_with (first
    | ((go_at_call 28; refine (awake33_any _).mono ?_; rintro e w1 ⟨rfl, hb1⟩; have hP := heap_old hb1 (heap_alloc (X := .cells #[.int .i64 n, .int .i64 t] 23) (heap_new w (.cells #[.int .i64 a.1, .int .i64 a.2, .int .i64 b.1, .int .i64 b.2] 24) rfl)); have hN := heap_old hb1 (heap_new (w.alloc (.cells #[.int .i64 a.1, .int .i64 a.2, .int .i64 b.1, .int .i64 b.2] 24)) (.cells #[.int .i64 n, .int .i64 t] 23) (b := w.heap.size + 1) (by simp)); have hK := Below.next2 (Below.refl w.heap.size w) (Nat.le_refl _) hb1; clear hb1; (have p0 := cell_heap (o := 0) hP rfl; have p1 := cell_heap (o := 1) hP rfl; have p2 := cell_heap (o := 2) hP rfl; have p3 := cell_heap (o := 3) hP rfl); (have n0 := cell_heap (o := 0) hN rfl; have n1 := cell_heap (o := 1) hN rfl)))
    | ((go_at_call 29; refine (hf.out _ (h.below hK)).mono ?_; rintro e w2 ⟨rfl, hb2⟩; replace hK := Below.next hK (Nat.le_refl _) hb2; replace hP := heap_old hb2 hP; replace hN := heap_old hb2 hN; clear hb2; clear p0 p1 p2 p3 n0 n1; (have p0 := cell_heap (o := 0) hP rfl; have p1 := cell_heap (o := 1) hP rfl; have p2 := cell_heap (o := 2) hP rfl; have p3 := cell_heap (o := 3) hP rfl); (have n0 := cell_heap (o := 0) hN rfl; have n1 := cell_heap (o := 1) hN rfl))))
  refine region_still (by kernel_rfl) (by kernel_rfl) ?_; intro W' hW hC; have z0 := (hC ⟨w.heap.size + 1, 0, none⟩).trans (n0); have z1 := (hC ⟨w.heap.size + 1, 1, none⟩).trans (n1); replace hW := Lib.hid hW; clear hC; (repeat still_step); refine wpStill_nil ?_; obtain rfl := hW.out; clear hW
  replace hP := heap_drew hP
  replace hK := Below.drew hK
  generalize w2.drew = wD at *
  clear p0 p1 p2 p3 n0 n1 hN
  (have p0 := cell_heap (o := 0) hP rfl; have p1 := cell_heap (o := 1) hP rfl; have p2 := cell_heap (o := 2) hP rfl; have p3 := cell_heap (o := 3) hP rfl)
  go_wp2_with (first
    | ((go_at_call 33; refine (h1.out _ (h.below hK)).mono ?_; rintro e w3 ⟨rfl, hb3⟩; replace hK := Below.next hK (Nat.le_refl _) hb3; replace hP := heap_old hb3 hP; clear hb3; clear p0 p1 p2 p3; (have p0 := cell_heap (o := 0) hP rfl; have p1 := cell_heap (o := 1) hP rfl; have p2 := cell_heap (o := 2) hP rfl; have p3 := cell_heap (o := 3) hP rfl)))
    | ((go_at_call 30; refine (h2.out _ (h.below hK)).mono ?_; rintro e w4 ⟨rfl, hb4⟩; replace hK := Below.next hK (Nat.le_refl _) hb4; have hK4 := hK.alloc hK.size (.cells #[.int .i64 lo, .int .i64 hi] 34); have hR := heap_new w4 (.cells #[.int .i64 lo, .int .i64 hi] 34) rfl; replace hP := heap_alloc (X := .cells #[.int .i64 lo, .int .i64 hi] 34) (heap_old hb4 hP); clear hb4; clear p0 p1 p2 p3; (have p0 := cell_heap (o := 0) hP rfl; have p1 := cell_heap (o := 1) hP rfl; have p2 := cell_heap (o := 2) hP rfl; have p3 := cell_heap (o := 3) hP rfl)))
    | ((go_at_call 35; refine (hv.out _).mono ?_; rintro e w5 ⟨rfl, hb5⟩; have hK5 := Below.next hK4 (Nat.le_refl _) hb5; replace hR := heap_old hb5 hR; have r0 := cell_heap (o := 0) hR rfl; have r1 := cell_heap (o := 1) hR rfl)))
  all_goals
    go_ret
    first | exact ⟨rfl, hK4⟩ | exact ⟨rfl, hK5⟩
set_option maxRecDepth 100000 in
set_option maxHeartbeats 4000000 in
theorem pathEncloses_err (v : Value) (l : List SN) (a b : Int × Int) (n t : Int) (w : World) (h : Seens w v l) (hn1 : -9223372036854775808 ≤ n) (hn2 : n ≤ 9223372036854775807) (hfb : fewB l = true) (hB : pfB l (n.tmod 3) a b = true) (hL : linE l (n.tmod 3) t ≠ 0) : Calls Try.prog 8 #[v, .agg #[.int .i64 a.1, .int .i64 a.2, .int .i64 b.1, .int .i64 b.2], .agg #[.int .i64 n, .int .i64 t]] w fun e w' => e = .returned (.bool true) ∧ Below w.heap.size w w' := by
  have hf := Lib.hid (fun w' (h : Seens w' v l) => few_any v l w' h)
  have hax : IntKind.i64.wrap (n.tmod 3) = n.tmod 3 := kwrap_id (by have := Int.tmod_lt_of_pos n (show (0:Int) < 3 by omega); have := Int.lt_tmod_of_pos n (show (0:Int) < 3 by omega); omega) (by have := Int.tmod_lt_of_pos n (show (0:Int) < 3 by omega); omega)
  generalize hA : n.tmod 3 = ax at *
  have h1 := Lib.hid (fun w' (h : Seens w' v l) => ptfits_any v l ax a b w' h)
  have h2 := Lib.hid (fun w' (h : Seens w' v l) => lines_any v l ax t w' h)
  unfold pfV at h1
  unfold linV at h2
  rw [hfb] at hf
  have hE := (pfB_fit hB).1
  have k0 : (linE l ax t != 0) = true := by simpa using hL
  have k13 : (linE l ax t != 13) = true := by simpa using fun e => conflict_no hB e
  rw [hB, hE] at h1
  clear hL hB hE
  generalize linE l ax t = K at *
  generalize linLo l ax t = lo at *
  generalize linHi l ax t = hi at *
  go_enter Try.func8, Try.ntmps8
  go_wp2_with (first
    | ((go_at_call 28; refine (awake33_any _).mono ?_; rintro e w1 ⟨rfl, hb1⟩; have hP := heap_old hb1 (heap_alloc (X := .cells #[.int .i64 n, .int .i64 t] 23) (heap_new w (.cells #[.int .i64 a.1, .int .i64 a.2, .int .i64 b.1, .int .i64 b.2] 24) rfl)); have hN := heap_old hb1 (heap_new (w.alloc (.cells #[.int .i64 a.1, .int .i64 a.2, .int .i64 b.1, .int .i64 b.2] 24)) (.cells #[.int .i64 n, .int .i64 t] 23) (b := w.heap.size + 1) (by simp)); have hK := Below.next2 (Below.refl w.heap.size w) (Nat.le_refl _) hb1; clear hb1; (have p0 := cell_heap (o := 0) hP rfl; have p1 := cell_heap (o := 1) hP rfl; have p2 := cell_heap (o := 2) hP rfl; have p3 := cell_heap (o := 3) hP rfl); (have n0 := cell_heap (o := 0) hN rfl; have n1 := cell_heap (o := 1) hN rfl)))
    | ((go_at_call 29; refine (hf.out _ (h.below hK)).mono ?_; rintro e w2 ⟨rfl, hb2⟩; replace hK := Below.next hK (Nat.le_refl _) hb2; replace hP := heap_old hb2 hP; replace hN := heap_old hb2 hN; clear hb2; clear p0 p1 p2 p3 n0 n1; (have p0 := cell_heap (o := 0) hP rfl; have p1 := cell_heap (o := 1) hP rfl; have p2 := cell_heap (o := 2) hP rfl; have p3 := cell_heap (o := 3) hP rfl); (have n0 := cell_heap (o := 0) hN rfl; have n1 := cell_heap (o := 1) hN rfl))))
  refine region_still (by kernel_rfl) (by kernel_rfl) ?_; intro W' hW hC; have z0 := (hC ⟨w.heap.size + 1, 0, none⟩).trans (n0); have z1 := (hC ⟨w.heap.size + 1, 1, none⟩).trans (n1); replace hW := Lib.hid hW; clear hC; (repeat still_step); refine wpStill_nil ?_; obtain rfl := hW.out; clear hW
  replace hP := heap_drew hP
  replace hK := Below.drew hK
  generalize w2.drew = wD at *
  clear p0 p1 p2 p3 n0 n1 hN
  (have p0 := cell_heap (o := 0) hP rfl; have p1 := cell_heap (o := 1) hP rfl; have p2 := cell_heap (o := 2) hP rfl; have p3 := cell_heap (o := 3) hP rfl)
  go_wp2_with (first
    | ((go_at_call 33; refine (h1.out _ (h.below hK)).mono ?_; rintro e w3 ⟨rfl, hb3⟩; replace hK := Below.next hK (Nat.le_refl _) hb3; replace hP := heap_old hb3 hP; clear hb3; clear p0 p1 p2 p3; (have p0 := cell_heap (o := 0) hP rfl; have p1 := cell_heap (o := 1) hP rfl; have p2 := cell_heap (o := 2) hP rfl; have p3 := cell_heap (o := 3) hP rfl)))
    | ((go_at_call 30; refine (h2.out _ (h.below hK)).mono ?_; rintro e w4 ⟨rfl, hb4⟩; replace hK := Below.next hK (Nat.le_refl _) hb4; have hK4 := hK.alloc hK.size (.cells #[.int .i64 lo, .int .i64 hi] 34); have hR := heap_new w4 (.cells #[.int .i64 lo, .int .i64 hi] 34) rfl; replace hP := heap_alloc (X := .cells #[.int .i64 lo, .int .i64 hi] 34) (heap_old hb4 hP); clear hb4; clear p0 p1 p2 p3; (have p0 := cell_heap (o := 0) hP rfl; have p1 := cell_heap (o := 1) hP rfl; have p2 := cell_heap (o := 2) hP rfl; have p3 := cell_heap (o := 3) hP rfl)))
    | ((go_at_call 35; refine (hv.out _).mono ?_; rintro e w5 ⟨rfl, hb5⟩; have hK5 := Below.next hK4 (Nat.le_refl _) hb5; replace hR := heap_old hb5 hR; have r0 := cell_heap (o := 0) hR rfl; have r1 := cell_heap (o := 1) hR rfl)))
  all_goals
    go_ret
    first | exact ⟨rfl, hK4⟩ | exact ⟨rfl, hK5⟩
set_option maxRecDepth 100000 in
set_option maxHeartbeats 4000000 in
theorem pathEncloses_good (v : Value) (l : List SN) (a b : Int × Int) (n t : Int) (w : World) (h : Seens w v l) (hn1 : -9223372036854775808 ≤ n) (hn2 : n ≤ 9223372036854775807) (hfb : fewB l = true) (hB : pfB l (n.tmod 3) a b = true) (hL : linE l (n.tmod 3) t = 0) : Calls Try.prog 8 #[v, .agg #[.int .i64 a.1, .int .i64 a.2, .int .i64 b.1, .int .i64 b.2], .agg #[.int .i64 n, .int .i64 t]] w fun e w' => e = .returned (.bool true) ∧ Below w.heap.size w w' := by
  have hf := Lib.hid (fun w' (h : Seens w' v l) => few_any v l w' h)
  have hax : IntKind.i64.wrap (n.tmod 3) = n.tmod 3 := kwrap_id (by have := Int.tmod_lt_of_pos n (show (0:Int) < 3 by omega); have := Int.lt_tmod_of_pos n (show (0:Int) < 3 by omega); omega) (by have := Int.tmod_lt_of_pos n (show (0:Int) < 3 by omega); omega)
  generalize hA : n.tmod 3 = ax at *
  have h1 := Lib.hid (fun w' (h : Seens w' v l) => ptfits_any v l ax a b w' h)
  have h2 := Lib.hid (fun w' (h : Seens w' v l) => lines_any v l ax t w' h)
  unfold pfV at h1
  unfold linV at h2
  rw [hfb] at hf
  have hE := (pfB_fit hB).1
  obtain ⟨⟨t1, t2⟩, ⟨y1, y2⟩, ⟨y3, y4⟩, g1, g2⟩ := encloses hB hL
  obtain ⟨_, ho, hd⟩ := pfE_parts hE
  obtain ⟨⟨q1, q2⟩, _, ⟨q3, q4⟩, _⟩ := ord_in ho
  have hv := Lib.hid (fun w => value_any a b t w (in_of ho) (by omega) (by omega))
  rw [hB, hE] at h1
  rw [hL] at h2
  clear hL hB hE ho
  generalize linLo l ax t = lo at *
  generalize linHi l ax t = hi at *
  generalize valN (ordA a b) (ordB a b) t = V at *
  have d1 : 0 < (ordB a b).1 - (ordA a b).1 := by omega
  have d2 : (ordB a b).1 - (ordA a b).1 ≤ 8000 := by omega
  clear hd q1 q2 q3 q4
  generalize (ordB a b).1 - (ordA a b).1 = D at *
  obtain ⟨m1, m2⟩ := mul_bd (A := 300000000000000) (B := 8000) (a := lo) (b := D) y1 y2 (by omega) d2
  obtain ⟨m3, m4⟩ := mul_bd (A := 300000000000000) (B := 8000) (a := hi) (b := D) y3 y4 (by omega) d2
  go_enter Try.func8, Try.ntmps8
  go_wp2_with (first
    | ((go_at_call 28; refine (awake33_any _).mono ?_; rintro e w1 ⟨rfl, hb1⟩; have hP := heap_old hb1 (heap_alloc (X := .cells #[.int .i64 n, .int .i64 t] 23) (heap_new w (.cells #[.int .i64 a.1, .int .i64 a.2, .int .i64 b.1, .int .i64 b.2] 24) rfl)); have hN := heap_old hb1 (heap_new (w.alloc (.cells #[.int .i64 a.1, .int .i64 a.2, .int .i64 b.1, .int .i64 b.2] 24)) (.cells #[.int .i64 n, .int .i64 t] 23) (b := w.heap.size + 1) (by simp)); have hK := Below.next2 (Below.refl w.heap.size w) (Nat.le_refl _) hb1; clear hb1; (have p0 := cell_heap (o := 0) hP rfl; have p1 := cell_heap (o := 1) hP rfl; have p2 := cell_heap (o := 2) hP rfl; have p3 := cell_heap (o := 3) hP rfl); (have n0 := cell_heap (o := 0) hN rfl; have n1 := cell_heap (o := 1) hN rfl)))
    | ((go_at_call 29; refine (hf.out _ (h.below hK)).mono ?_; rintro e w2 ⟨rfl, hb2⟩; replace hK := Below.next hK (Nat.le_refl _) hb2; replace hP := heap_old hb2 hP; replace hN := heap_old hb2 hN; clear hb2; clear p0 p1 p2 p3 n0 n1; (have p0 := cell_heap (o := 0) hP rfl; have p1 := cell_heap (o := 1) hP rfl; have p2 := cell_heap (o := 2) hP rfl; have p3 := cell_heap (o := 3) hP rfl); (have n0 := cell_heap (o := 0) hN rfl; have n1 := cell_heap (o := 1) hN rfl))))
  refine region_still (by kernel_rfl) (by kernel_rfl) ?_; intro W' hW hC; have z0 := (hC ⟨w.heap.size + 1, 0, none⟩).trans (n0); have z1 := (hC ⟨w.heap.size + 1, 1, none⟩).trans (n1); replace hW := Lib.hid hW; clear hC; (repeat still_step); refine wpStill_nil ?_; obtain rfl := hW.out; clear hW
  replace hP := heap_drew hP
  replace hK := Below.drew hK
  generalize w2.drew = wD at *
  clear p0 p1 p2 p3 n0 n1 hN
  (have p0 := cell_heap (o := 0) hP rfl; have p1 := cell_heap (o := 1) hP rfl; have p2 := cell_heap (o := 2) hP rfl; have p3 := cell_heap (o := 3) hP rfl)
  go_wp2_with (first
    | ((go_at_call 33; refine (h1.out _ (h.below hK)).mono ?_; rintro e w3 ⟨rfl, hb3⟩; replace hK := Below.next hK (Nat.le_refl _) hb3; replace hP := heap_old hb3 hP; clear hb3; clear p0 p1 p2 p3; (have p0 := cell_heap (o := 0) hP rfl; have p1 := cell_heap (o := 1) hP rfl; have p2 := cell_heap (o := 2) hP rfl; have p3 := cell_heap (o := 3) hP rfl)))
    | ((go_at_call 30; refine (h2.out _ (h.below hK)).mono ?_; rintro e w4 ⟨rfl, hb4⟩; replace hK := Below.next hK (Nat.le_refl _) hb4; have hK4 := hK.alloc hK.size (.cells #[.int .i64 lo, .int .i64 hi] 34); have hR := heap_new w4 (.cells #[.int .i64 lo, .int .i64 hi] 34) rfl; replace hP := heap_alloc (X := .cells #[.int .i64 lo, .int .i64 hi] 34) (heap_old hb4 hP); clear hb4; clear p0 p1 p2 p3; (have p0 := cell_heap (o := 0) hP rfl; have p1 := cell_heap (o := 1) hP rfl; have p2 := cell_heap (o := 2) hP rfl; have p3 := cell_heap (o := 3) hP rfl)))
    | ((go_at_call 35; refine (hv.out _).mono ?_; rintro e w5 ⟨rfl, hb5⟩; have hK5 := Below.next hK4 (Nat.le_refl _) hb5; replace hR := heap_old hb5 hR; have r0 := cell_heap (o := 0) hR rfl; have r1 := cell_heap (o := 1) hR rfl)))
  all_goals
    go_ret
    first | exact ⟨rfl, hK4⟩ | exact ⟨rfl, hK5⟩
theorem pathEncloses_walk (v : Value) (l : List SN) (a b : Int × Int) (n t : Int) (w : World) (h : Seens w v l) (hn1 : -9223372036854775808 ≤ n) (hn2 : n ≤ 9223372036854775807) : Calls Try.prog 8 #[v, .agg #[.int .i64 a.1, .int .i64 a.2, .int .i64 b.1, .int .i64 b.2], .agg #[.int .i64 n, .int .i64 t]] w fun e w' => e = .returned (.bool true) ∧ Below w.heap.size w w' := by
  cases hfb : fewB l with
  | false => exact pathEncloses_few v l a b n t w h hn1 hn2 hfb
  | true =>
    cases hB : pfB l (n.tmod 3) a b with
    | false => exact pathEncloses_bad v l a b n t w h hn1 hn2 hfb hB
    | true =>
      by_cases hL : linE l (n.tmod 3) t = 0
      · exact pathEncloses_good v l a b n t w h hn1 hn2 hfb hB hL
      · exact pathEncloses_err v l a b n t w h hn1 hn2 hfb hB hL
end Go.Proofs.Ytmdledlbkdcmnaa
