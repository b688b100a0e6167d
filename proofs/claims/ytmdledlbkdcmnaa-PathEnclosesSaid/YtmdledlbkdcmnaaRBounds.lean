/-
  Contracts of the reference's Bounds, three and possible, and of Possible, ours and the reference's.
  Conditions: none.
-/
import Derived.Test.YtmdledlbkdcmnaaRB2
namespace Go.Proofs.Ytmdledlbkdcmnaa
open Go.RowKit
/-- The error of the bounds of an axis. -/
def bndE (l : List SN) (ax : Int) : Int := if ax < 0 ∨ 2 < ax then 1 else behE l
theorem bndE_in {l : List SN} {ax : Int} (h1 : 0 ≤ ax) (h2 : ax ≤ 2) : bndE l ax = behE l := by unfold bndE; rw [if_neg (by omega)]
set_option maxHeartbeats 1000000 in
theorem rbounds_any (v : Value) (l : List SN) (ax : Int) (w : World) (h : Seens w v l) : Calls Try.prog 71 #[v, .int .i64 ax] w fun e w' => ∃ u, e = .returned (.tuple #[u, .int .i64 (bndE l ax)]) ∧ (bndE l ax = 0 → Bnds w' u (bnds ax (bhdL l))) ∧ Below w.heap.size w w' := by
  by_cases hax : ax < 0 ∨ 2 < ax
  · have e1 : bndE l ax = 1 := by unfold bndE; rw [if_pos hax]
    rw [e1]
    clear e1
    go_enter Try.func71, Try.ntmps71
    go_wp2_with fail
    all_goals first
      | (go_ret2; exact ⟨_, rfl, fun e => absurd e (by decide), (by repeat (first | with_reducible exact Below.refl _ _ | with_reducible assumption | with_reducible refine Below.drew ?_ | with_reducible refine Below.setCell ?_ (by first | omega | (simp; omega) | simp) _ | with_reducible refine Below.alloc ?_ (by first | omega | (simp; omega) | simp) _ | with_reducible refine Below.trans ?_ (Below.mono (by with_reducible assumption) (by first | omega | (simp; omega) | simp))))⟩)
      | (go_ret2; exact ⟨⟨_, rfl⟩, (by repeat (first | with_reducible exact Below.refl _ _ | with_reducible assumption | with_reducible refine Below.drew ?_ | with_reducible refine Below.setCell ?_ (by first | omega | (simp; omega) | simp) _ | with_reducible refine Below.alloc ?_ (by first | omega | (simp; omega) | simp) _ | with_reducible refine Below.trans ?_ (Below.mono (by with_reducible assumption) (by first | omega | (simp; omega) | simp))))⟩)
      | (exfalso; omega)
  · rw [bndE_in (by omega) (by omega)]
    by_cases hc : chkE l = 0
    · rcases (show ax = 0 ∨ ax = 1 ∨ ax = 2 by omega) with rfl | rfl | rfl
      · exact rbounds0 v l w h hc
      · exact rbounds1 v l w h hc
      · exact rbounds2 v l w h hc
    · rw [behE_chk hc]
      obtain ⟨x1, x2⟩ : 0 ≤ ax ∧ ax ≤ 2 := by omega
      have hck := Lib.hid (fun w' (h : Seens w' v l) => rcheck_any v l w' h)
      have hc' : (chkE l != 0) = true := by simpa using hc
      have hC := Lib.hid hc
      clear hc hax
      generalize chkE l = E at *
      go_enter Try.func71, Try.ntmps71
      go_wp2_with (go_at_call 96; refine (hck.out _ (h.below (by repeat (first | with_reducible exact Below.refl _ _ | with_reducible assumption | with_reducible refine Below.drew ?_ | with_reducible refine Below.setCell ?_ (by first | omega | (simp; omega) | simp) _ | with_reducible refine Below.alloc ?_ (by first | omega | (simp; omega) | simp) _ | with_reducible refine Below.trans ?_ (Below.mono (by with_reducible assumption) (by first | omega | (simp; omega) | simp)))))).mono ?_; rintro e w1 ⟨⟨k0, rfl⟩, hb1⟩)
      all_goals first
        | (go_ret2; exact ⟨_, rfl, fun e => absurd e hC.out, hb1⟩)
        | (exfalso; omega)
set_option maxRecDepth 100000 in
set_option maxHeartbeats 4000000 in
theorem rthree_any (a b c : BD) (ha : okB a) (hb : okB b) (hc : okB c) (w : World) : Calls Try.prog 109 #[.agg #[.int .i64 a.1, .int .i64 a.2.1, .int .i64 a.2.2], .agg #[.int .i64 b.1, .int .i64 b.2.1, .int .i64 b.2.2], .agg #[.int .i64 c.1, .int .i64 c.2.1, .int .i64 c.2.2]] w fun e w' => e = .returned (.bool (three a b c)) ∧ Below w.heap.size w w' := by
  obtain ⟨⟨at1, at2⟩, al1, al2, al3⟩ := ha
  obtain ⟨⟨dt1, dt2⟩, dl1, dl2, dl3⟩ := hb
  obtain ⟨⟨ct1, ct2⟩, cl1, cl2, cl3⟩ := hc
  obtain ⟨p1, p2⟩ := part_bd dl1 (by omega : b.2.1 ≤ 20000000000) ct1 ct2 at1 at2
  obtain ⟨p3, p4⟩ := part_bd (by omega : -20000000000 ≤ a.2.2) al3 ct1 ct2 dt1 dt2
  obtain ⟨p5, p6⟩ := part_bd (by omega : -20000000000 ≤ c.2.2) cl3 dt1 dt2 at1 at2
  obtain ⟨q1, q2⟩ := part_bd (by omega : -20000000000 ≤ b.2.2) dl3 ct1 ct2 at1 at2
  obtain ⟨q3, q4⟩ := part_bd al1 (by omega : a.2.1 ≤ 20000000000) ct1 ct2 dt1 dt2
  obtain ⟨q5, q6⟩ := part_bd cl1 (by omega : c.2.1 ≤ 20000000000) dt1 dt2 at1 at2
  go_enter Try.func109, Try.ntmps109
  go_wp2_with fail
  have hA := heap_alloc (X := .cells #[.int .i64 c.1, .int .i64 c.2.1, .int .i64 c.2.2] 116) (heap_alloc (X := .cells #[.int .i64 b.1, .int .i64 b.2.1, .int .i64 b.2.2] 116) (heap_new w (.cells #[.int .i64 a.1, .int .i64 a.2.1, .int .i64 a.2.2] 116) rfl))
  have hB := heap_alloc (X := .cells #[.int .i64 c.1, .int .i64 c.2.1, .int .i64 c.2.2] 116) (heap_new (w.alloc (.cells #[.int .i64 a.1, .int .i64 a.2.1, .int .i64 a.2.2] 116)) (.cells #[.int .i64 b.1, .int .i64 b.2.1, .int .i64 b.2.2] 116) (b := w.heap.size + 1) (by simp))
  have hC := heap_new ((w.alloc (.cells #[.int .i64 a.1, .int .i64 a.2.1, .int .i64 a.2.2] 116)).alloc (.cells #[.int .i64 b.1, .int .i64 b.2.1, .int .i64 b.2.2] 116)) (.cells #[.int .i64 c.1, .int .i64 c.2.1, .int .i64 c.2.2] 116) (b := w.heap.size + 1 + 1) (by simp)
  have hBB : Below w.heap.size w (((w.alloc (.cells #[.int .i64 a.1, .int .i64 a.2.1, .int .i64 a.2.2] 116)).alloc (.cells #[.int .i64 b.1, .int .i64 b.2.1, .int .i64 b.2.2] 116)).alloc (.cells #[.int .i64 c.1, .int .i64 c.2.1, .int .i64 c.2.2] 116)) := (by repeat (first | with_reducible exact Below.refl _ _ | with_reducible assumption | with_reducible refine Below.drew ?_ | with_reducible refine Below.setCell ?_ (by first | omega | (simp; omega) | simp) _ | with_reducible refine Below.alloc ?_ (by first | omega | (simp; omega) | simp) _ | with_reducible refine Below.trans ?_ (Below.mono (by with_reducible assumption) (by first | omega | (simp; omega) | simp))))
  generalize (((w.alloc (.cells #[.int .i64 a.1, .int .i64 a.2.1, .int .i64 a.2.2] 116)).alloc (.cells #[.int .i64 b.1, .int .i64 b.2.1, .int .i64 b.2.2] 116)).alloc (.cells #[.int .i64 c.1, .int .i64 c.2.1, .int .i64 c.2.2] 116)) = W at hA hB hC hBB ⊢
  have a0 := cell_heap (o := 0) hA rfl
  have a1 := cell_heap (o := 1) hA rfl
  have a2 := cell_heap (o := 2) hA rfl
  have b0 := cell_heap (o := 0) hB rfl
  have b1 := cell_heap (o := 1) hB rfl
  have b2 := cell_heap (o := 2) hB rfl
  have c0 := cell_heap (o := 0) hC rfl
  have c1 := cell_heap (o := 1) hC rfl
  have c2 := cell_heap (o := 2) hC rfl
  refine region_still (by kernel_rfl) (by kernel_rfl) ?_; intro W' hW hC; have z0 := (hC ⟨w.heap.size, 0, none⟩).trans (a0); have z1 := (hC ⟨w.heap.size + 1, 0, none⟩).trans (b0); have z2 := (hC ⟨w.heap.size + 1 + 1, 0, none⟩).trans (c0); replace hW := Lib.hid hW; clear hC; (repeat still_step); refine wpStill_nil ?_; obtain rfl := hW.out; clear hW
  rw [kwrap_id (x := c.1 - a.1) (by omega) (by omega), kwrap_id (x := c.1 - b.1) (by omega) (by omega), kwrap_id (x := b.1 - a.1) (by omega) (by omega)]
  have hBW : Below w.heap.size w W.drew := (by repeat (first | with_reducible exact Below.refl _ _ | with_reducible assumption | with_reducible refine Below.drew ?_ | with_reducible refine Below.setCell ?_ (by first | omega | (simp; omega) | simp) _ | with_reducible refine Below.alloc ?_ (by first | omega | (simp; omega) | simp) _ | with_reducible refine Below.trans ?_ (Below.mono (by with_reducible assumption) (by first | omega | (simp; omega) | simp))))
  replace hA := heap_drew hA
  replace hB := heap_drew hB
  replace hC := heap_drew hC
  generalize W.drew = W1 at *
  clear a0 a1 a2 b0 b1 b2 c0 c1 c2
  have a1 := cell_heap (o := 1) hA rfl
  have a2 := cell_heap (o := 2) hA rfl
  have b1 := cell_heap (o := 1) hB rfl
  have b2 := cell_heap (o := 2) hB rfl
  have c1 := cell_heap (o := 1) hC rfl
  have c2 := cell_heap (o := 2) hC rfl
  go_wp2_with fail
  all_goals (go_ret; refine ⟨ret_bool ?_, hBW⟩)
  · unfold three; rw [decide_eq_true (show b.2.1 * (c.1 - a.1) ≤ a.2.2 * (c.1 - b.1) + c.2.2 * (b.1 - a.1) by assumption), Bool.true_and]
  · rw [three_no (.inl (by assumption))]
end Go.Proofs.Ytmdledlbkdcmnaa
