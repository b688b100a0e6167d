/-
  Contracts and laws, merged: RB0 RB1 RB2 RBounds Possible Possible2 RPossible Between RLines.
  Conditions: none.
-/
import Derived.Test.YtmdledlbkdcmnaaM5
import Derived.LoopN
set_option linter.unusedSimpArgs false
set_option linter.unusedVariables false
/-
  Contract of the reference's Bounds for X.
  Conditions: none.
-/
namespace Go.Proofs.Ytmdledlbkdcmnaa
open Go.RowKit
theorem bnds_take {ax : Int} {S : List SN} {k : Nat} (h : S.length ≤ k) : (bnds ax S).take k = bnds ax S := List.take_of_length_le (by rw [bnds_len]; omega)
theorem ret_e {u : Value} {a b : Int} (h : a = b) : Ending.returned (.tuple #[u, .int .i64 a]) = .returned (.tuple #[u, .int .i64 b]) := by rw [h]
theorem behE_short {l : List SN} (h : chkE l = 0) (h2 : (bhdL l).length < 2) : behE l = 1 := by unfold behE; rw [if_neg (fun e => e h), if_pos h2]
theorem behE_long {l : List SN} (h : chkE l = 0) (h2 : ¬(bhdL l).length < 2) : behE l = 0 := by unfold behE; rw [if_neg (fun e => e h), if_neg h2]
theorem behE_chk {l : List SN} (h : chkE l ≠ 0) : behE l = chkE l := by unfold behE; rw [if_pos h]
set_option maxRecDepth 100000 in
set_option maxHeartbeats 4000000 in
theorem rbounds0 (v : Value) (l : List SN) (w : World) (h : Seens w v l) (hc : chkE l = 0) : Calls Try.prog 71 #[v, .int .i64 0] w fun e w' => ∃ u, e = .returned (.tuple #[u, .int .i64 (behE l)]) ∧ (behE l = 0 → Bnds w' u (bnds 0 (bhdL l))) ∧ Below w.heap.size w w' := by
  obtain ⟨i0, hi0, hz0, hz1, hz2⟩ := info_parts (P := Try.prog) (e := 116) (z := zeroB) (size := 3) (bytes := 24) (by kernel_rfl)
  have hck := Lib.hid (fun w' (h : Seens w' v l) => by have := rcheck_any v l w' h; rwa [hc] at this)
  have hbh := Lib.hid (fun w' (h : Seens w' v l) => rbehind_any v l w' h)
  have hok := Lib.hid (bhd_ok (l := l))
  have hl64 := bhd_len l
  have hES := Lib.hid (behE_short hc)
  have hEL := Lib.hid (behE_long hc)
  clear hc
  generalize behE l = E at *
  generalize hq : bhdL l = S at *
  clear hq
  go_enter Try.func71, Try.ntmps71
  go_wp2_with (first
    | (go_at_call 96; refine (hck.out _ (h.below (by repeat (first | with_reducible exact Below.refl _ _ | with_reducible assumption | with_reducible refine Below.drew ?_ | with_reducible refine Below.setCell ?_ (by first | omega | (simp; omega) | simp) _ | with_reducible refine Below.alloc ?_ (by first | omega | (simp; omega) | simp) _ | with_reducible refine Below.trans ?_ (Below.mono (by with_reducible assumption) (by first | omega | (simp; omega) | simp)))))).mono ?_; rintro e w1 ⟨⟨k0, rfl⟩, hb1⟩)
    | (go_at_call 97; refine (hbh.out _ ((h.below (by repeat (first | with_reducible exact Below.refl _ _ | with_reducible assumption | with_reducible refine Below.drew ?_ | with_reducible refine Below.setCell ?_ (by first | omega | (simp; omega) | simp) _ | with_reducible refine Below.alloc ?_ (by first | omega | (simp; omega) | simp) _ | with_reducible refine Below.trans ?_ (Below.mono (by with_reducible assumption) (by first | omega | (simp; omega) | simp))))).below hb1)).mono ?_; rintro e w2 ⟨u, rfl, hs2, hb2⟩; have hB2 : Below w.heap.size w w2 := Below.next hb1 (Nat.le_refl _) hb2; obtain ⟨pa, b, o, cap, rfl, h1, h2, h3, h4⟩ := hs2; clear hb1 hb2))
  have hcap : cap ≤ 9223372036854775807 := by unfold maxLen at h3; omega
  go_loopw [8, 29] (fun u x wr => ∃ k : Nat, k ≤ S.length ∧ x = .int .i64 k ∧ Below w2.heap.size w2 wr ∧ wr.ownsRow w2.heap.size 116 3 u ((bnds 0 S).take k).length (((bnds 0 S).take k).flatMap cB)) (fun _ x _ => S.length - (intOf x).toNat)
  case atStart => exact ⟨0, by omega, rfl, Below.refl _ _, by simpa using World.ownsRow_nil _ _ _ _⟩
  case round =>
    obtain ⟨k, hk, rfl, hb0, hO⟩ := hrel
    have hlenk : ((bnds 0 S).take k).length = k := by rw [List.length_take, bnds_len]; omega
    have hsz := hb0.size
    rcases Nat.lt_or_ge k S.length with hlt | hge
    · obtain rfl := h1 (by omega)
      obtain ⟨s, hs⟩ : ∃ s, S[k]? = some s := ⟨_, List.getElem?_eq_getElem hlt⟩
      obtain ⟨c0, c1, c2, c3, c4⟩ := (h4 k s hs).below hb0
      obtain ⟨⟨a1, a2⟩, ⟨a3, a4⟩, ⟨a5, a6⟩, ⟨a7, a8⟩, a9, a10⟩ := okS_iff.1 (hok.out s (List.mem_of_getElem? hs))
      have hTT := Lib.hid (take_map_next (bndS 0) hs)
      have hn : S.length - (k + 1) < S.length - k := by omega
      clear hs
      unfold bnds at *
      generalize (S.map (bndS 0)).take k = P at *
      go_wp2_with (at_builtin; refine wpList_append_own _ rfl _ _ 112 rfl w2.heap.size 116 i0 zeroB 3 24 Try.underlying112 hi0 hz0 hz1 hz2 rfl (by decide) _ _ _ rfl (own_below hO (by repeat (first | with_reducible exact Below.refl _ _ | with_reducible assumption | with_reducible refine Below.drew ?_ | with_reducible refine Below.setCell ?_ (by first | omega | (simp; omega) | simp) _ | with_reducible refine Below.alloc ?_ (by first | omega | (simp; omega) | simp) _ | with_reducible refine Below.trans ?_ (Below.mono (by with_reducible assumption) (by first | omega | (simp; omega) | simp))))) ⟨_, 0, none⟩ 1 1 (cB (bX s)) rfl rfl ?_ (cB_one _) (by unfold maxLen; omega) (by omega) (by simp; omega) ?_; rotate_left; intro u' w5 ho5 hg5 hnil5; have hB5 : Below w2.heap.size w2 w5 := Below.grown (by repeat (first | with_reducible exact Below.refl _ _ | with_reducible assumption | with_reducible refine Below.drew ?_ | with_reducible refine Below.setCell ?_ (by first | omega | (simp; omega) | simp) _ | with_reducible refine Below.alloc ?_ (by first | omega | (simp; omega) | simp) _ | with_reducible refine Below.trans ?_ (Below.mono (by with_reducible assumption) (by first | omega | (simp; omega) | simp)))) hg5 (by simp; omega) (fun q hq => by have := (hO.lt q hq).1; omega))
      · refine ⟨⟨k + 1, hlt, by simp, hB5, ?_⟩, by simpa [intOf] using hn⟩
        rw [hTT.out]; exact own_push ho5
      · exact fun _ _ h => h
    · obtain rfl : k = S.length := by omega
      rw [bnds_take (Nat.le_refl _)] at hO
      clear hlenk
      have hH := held_own cB_len hO
      obtain ⟨pp, cp, rfl⟩ := own_slice hO
      have hbl := bnds_len 0 S
      rw [hbl] at hH ⊢
      by_cases h2 : S.length < 2
      · have e1 := Lib.hid (hES.out h2)
        go_wp2_with fail
        go_ret2
        exact ⟨_, ret_e e1.out.symm, fun e => by rw [e1.out] at e; omega, Below.next hB2 (Nat.le_refl _) hb0⟩
      · have e1 := Lib.hid (hEL.out h2)
        go_wp2_with fail
        go_ret2
        exact ⟨_, ret_e e1.out.symm, fun _ => hH, Below.next hB2 (Nat.le_refl _) hb0⟩
end Go.Proofs.Ytmdledlbkdcmnaa

/-
  Contract of the reference's Bounds for Y.
  Conditions: none.
-/
namespace Go.Proofs.Ytmdledlbkdcmnaa
open Go.RowKit
set_option maxRecDepth 100000 in
set_option maxHeartbeats 4000000 in
theorem rbounds1 (v : Value) (l : List SN) (w : World) (h : Seens w v l) (hc : chkE l = 0) : Calls Try.prog 71 #[v, .int .i64 1] w fun e w' => ∃ u, e = .returned (.tuple #[u, .int .i64 (behE l)]) ∧ (behE l = 0 → Bnds w' u (bnds 1 (bhdL l))) ∧ Below w.heap.size w w' := by
  obtain ⟨i0, hi0, hz0, hz1, hz2⟩ := info_parts (P := Try.prog) (e := 116) (z := zeroB) (size := 3) (bytes := 24) (by kernel_rfl)
  have hck := Lib.hid (fun w' (h : Seens w' v l) => by have := rcheck_any v l w' h; rwa [hc] at this)
  have hbh := Lib.hid (fun w' (h : Seens w' v l) => rbehind_any v l w' h)
  have hok := Lib.hid (bhd_ok (l := l))
  have hl64 := bhd_len l
  have hES := Lib.hid (behE_short hc)
  have hEL := Lib.hid (behE_long hc)
  clear hc
  generalize behE l = E at *
  generalize hq : bhdL l = S at *
  clear hq
  go_enter Try.func71, Try.ntmps71
  go_wp2_with (first
    | (go_at_call 96; refine (hck.out _ (h.below (by repeat (first | with_reducible exact Below.refl _ _ | with_reducible assumption | with_reducible refine Below.drew ?_ | with_reducible refine Below.setCell ?_ (by first | omega | (simp; omega) | simp) _ | with_reducible refine Below.alloc ?_ (by first | omega | (simp; omega) | simp) _ | with_reducible refine Below.trans ?_ (Below.mono (by with_reducible assumption) (by first | omega | (simp; omega) | simp)))))).mono ?_; rintro e w1 ⟨⟨k0, rfl⟩, hb1⟩)
    | (go_at_call 97; refine (hbh.out _ ((h.below (by repeat (first | with_reducible exact Below.refl _ _ | with_reducible assumption | with_reducible refine Below.drew ?_ | with_reducible refine Below.setCell ?_ (by first | omega | (simp; omega) | simp) _ | with_reducible refine Below.alloc ?_ (by first | omega | (simp; omega) | simp) _ | with_reducible refine Below.trans ?_ (Below.mono (by with_reducible assumption) (by first | omega | (simp; omega) | simp))))).below hb1)).mono ?_; rintro e w2 ⟨u, rfl, hs2, hb2⟩; have hB2 : Below w.heap.size w w2 := Below.next hb1 (Nat.le_refl _) hb2; obtain ⟨pa, b, o, cap, rfl, h1, h2, h3, h4⟩ := hs2; clear hb1 hb2))
  have hcap : cap ≤ 9223372036854775807 := by unfold maxLen at h3; omega
  go_loopw [8, 29] (fun u x wr => ∃ k : Nat, k ≤ S.length ∧ x = .int .i64 k ∧ Below w2.heap.size w2 wr ∧ wr.ownsRow w2.heap.size 116 3 u ((bnds 1 S).take k).length (((bnds 1 S).take k).flatMap cB)) (fun _ x _ => S.length - (intOf x).toNat)
  case atStart => exact ⟨0, by omega, rfl, Below.refl _ _, by simpa using World.ownsRow_nil _ _ _ _⟩
  case round =>
    obtain ⟨k, hk, rfl, hb0, hO⟩ := hrel
    have hlenk : ((bnds 1 S).take k).length = k := by rw [List.length_take, bnds_len]; omega
    have hsz := hb0.size
    rcases Nat.lt_or_ge k S.length with hlt | hge
    · obtain rfl := h1 (by omega)
      obtain ⟨s, hs⟩ : ∃ s, S[k]? = some s := ⟨_, List.getElem?_eq_getElem hlt⟩
      obtain ⟨c0, c1, c2, c3, c4⟩ := (h4 k s hs).below hb0
      obtain ⟨⟨a1, a2⟩, ⟨a3, a4⟩, ⟨a5, a6⟩, ⟨a7, a8⟩, a9, a10⟩ := okS_iff.1 (hok.out s (List.mem_of_getElem? hs))
      have hTT := Lib.hid (take_map_next (bndS 1) hs)
      have hn : S.length - (k + 1) < S.length - k := by omega
      clear hs
      unfold bnds at *
      generalize (S.map (bndS 1)).take k = P at *
      go_wp2_with fail
      go_region
      go_wp2_with (at_builtin; refine wpList_append_own _ rfl _ _ 112 rfl w2.heap.size 116 i0 zeroB 3 24 Try.underlying112 hi0 hz0 hz1 hz2 rfl (by decide) _ _ _ rfl (own_below hO (by repeat (first | with_reducible exact Below.refl _ _ | with_reducible assumption | with_reducible refine Below.drew ?_ | with_reducible refine Below.setCell ?_ (by first | omega | (simp; omega) | simp) _ | with_reducible refine Below.alloc ?_ (by first | omega | (simp; omega) | simp) _ | with_reducible refine Below.trans ?_ (Below.mono (by with_reducible assumption) (by first | omega | (simp; omega) | simp))))) ⟨_, 0, none⟩ 1 1 (cB (bY s)) rfl rfl ?_ (cB_one _) (by unfold maxLen; omega) (by omega) (by simp; omega) ?_; rotate_left; intro u' w5 ho5 hg5 hnil5; have hB5 : Below w2.heap.size w2 w5 := Below.grown (by repeat (first | with_reducible exact Below.refl _ _ | with_reducible assumption | with_reducible refine Below.drew ?_ | with_reducible refine Below.setCell ?_ (by first | omega | (simp; omega) | simp) _ | with_reducible refine Below.alloc ?_ (by first | omega | (simp; omega) | simp) _ | with_reducible refine Below.trans ?_ (Below.mono (by with_reducible assumption) (by first | omega | (simp; omega) | simp)))) hg5 (by simp; omega) (fun q hq => by have := (hO.lt q hq).1; omega))
      · refine ⟨⟨k + 1, hlt, by simp, hB5, ?_⟩, by simpa [intOf] using hn⟩
        rw [hTT.out]; exact own_push ho5
      · exact cells_here (heap_drew (heap_new _ _ (by simp)))
    · obtain rfl : k = S.length := by omega
      rw [bnds_take (Nat.le_refl _)] at hO
      clear hlenk
      have hH := held_own cB_len hO
      obtain ⟨pp, cp, rfl⟩ := own_slice hO
      have hbl := bnds_len 1 S
      rw [hbl] at hH ⊢
      by_cases h2 : S.length < 2
      · have e1 := Lib.hid (hES.out h2)
        go_wp2_with fail
        go_ret2
        exact ⟨_, ret_e e1.out.symm, fun e => by rw [e1.out] at e; omega, Below.next hB2 (Nat.le_refl _) hb0⟩
      · have e1 := Lib.hid (hEL.out h2)
        go_wp2_with fail
        go_ret2
        exact ⟨_, ret_e e1.out.symm, fun _ => hH, Below.next hB2 (Nat.le_refl _) hb0⟩
end Go.Proofs.Ytmdledlbkdcmnaa

/-
  Contract of the reference's Bounds for Z.
  Conditions: none.
-/
namespace Go.Proofs.Ytmdledlbkdcmnaa
open Go.RowKit
set_option linter.unusedSimpArgs false
set_option maxRecDepth 100000 in
set_option maxHeartbeats 4000000 in
theorem rbounds2 (v : Value) (l : List SN) (w : World) (h : Seens w v l) (hc : chkE l = 0) : Calls Try.prog 71 #[v, .int .i64 2] w fun e w' => ∃ u, e = .returned (.tuple #[u, .int .i64 (behE l)]) ∧ (behE l = 0 → Bnds w' u (bnds 2 (bhdL l))) ∧ Below w.heap.size w w' := by
  obtain ⟨i0, hi0, hz0, hz1, hz2⟩ := info_parts (P := Try.prog) (e := 116) (z := zeroB) (size := 3) (bytes := 24) (by kernel_rfl)
  have hck := Lib.hid (fun w' (h : Seens w' v l) => by have := rcheck_any v l w' h; rwa [hc] at this)
  have hbh := Lib.hid (fun w' (h : Seens w' v l) => rbehind_any v l w' h)
  have hok := Lib.hid (bhd_ok (l := l))
  have hl64 := bhd_len l
  have hES := Lib.hid (behE_short hc)
  have hEL := Lib.hid (behE_long hc)
  clear hc
  generalize behE l = E at *
  generalize hq : bhdL l = S at *
  clear hq
  go_enter Try.func71, Try.ntmps71
  go_wp2_with (first
    | (go_at_call 96; refine (hck.out _ (h.below (by repeat (first | with_reducible exact Below.refl _ _ | with_reducible assumption | with_reducible refine Below.drew ?_ | with_reducible refine Below.setCell ?_ (by first | omega | (simp; omega) | simp) _ | with_reducible refine Below.alloc ?_ (by first | omega | (simp; omega) | simp) _ | with_reducible refine Below.trans ?_ (Below.mono (by with_reducible assumption) (by first | omega | (simp; omega) | simp)))))).mono ?_; rintro e w1 ⟨⟨k0, rfl⟩, hb1⟩)
    | (go_at_call 97; refine (hbh.out _ ((h.below (by repeat (first | with_reducible exact Below.refl _ _ | with_reducible assumption | with_reducible refine Below.drew ?_ | with_reducible refine Below.setCell ?_ (by first | omega | (simp; omega) | simp) _ | with_reducible refine Below.alloc ?_ (by first | omega | (simp; omega) | simp) _ | with_reducible refine Below.trans ?_ (Below.mono (by with_reducible assumption) (by first | omega | (simp; omega) | simp))))).below hb1)).mono ?_; rintro e w2 ⟨u, rfl, hs2, hb2⟩; have hB2 : Below w.heap.size w w2 := Below.next hb1 (Nat.le_refl _) hb2; obtain ⟨pa, b, o, cap, rfl, h1, h2, h3, h4⟩ := hs2; clear hb1 hb2))
  have hcap : cap ≤ 9223372036854775807 := by unfold maxLen at h3; omega
  go_loopw [8, 29] (fun u x wr => ∃ k : Nat, k ≤ S.length ∧ x = .int .i64 k ∧ Below w2.heap.size w2 wr ∧ wr.ownsRow w2.heap.size 116 3 u ((bnds 2 S).take k).length (((bnds 2 S).take k).flatMap cB)) (fun _ x _ => S.length - (intOf x).toNat)
  case atStart => exact ⟨0, by omega, rfl, Below.refl _ _, by simpa using World.ownsRow_nil _ _ _ _⟩
  case round =>
    obtain ⟨k, hk, rfl, hb0, hO⟩ := hrel
    have hlenk : ((bnds 2 S).take k).length = k := by rw [List.length_take, bnds_len]; omega
    have hsz := hb0.size
    rcases Nat.lt_or_ge k S.length with hlt | hge
    · obtain rfl := h1 (by omega)
      obtain ⟨s, hs⟩ : ∃ s, S[k]? = some s := ⟨_, List.getElem?_eq_getElem hlt⟩
      obtain ⟨c0, c1, c2, c3, c4⟩ := (h4 k s hs).below hb0
      obtain ⟨⟨a1, a2⟩, ⟨a3, a4⟩, ⟨a5, a6⟩, ⟨a7, a8⟩, a9, a10⟩ := okS_iff.1 (hok.out s (List.mem_of_getElem? hs))
      have hTT := Lib.hid (take_map_next (bndS 2) hs)
      have hn : S.length - (k + 1) < S.length - k := by omega
      clear hs
      unfold bnds at *
      generalize (S.map (bndS 2)).take k = P at *
      go_wp2_with fail
      have hS : ((wr.alloc (.cells #[.int .i64 s.1, .int .i64 s.2.1, .int .i64 s.2.2.1, .int .i64 s.2.2.2.1, .int .i64 s.2.2.2.2] 38)).alloc (.cells #[.int .i64 s.1, .int .i64 (s.2.1 - s.2.2.2.2), .int .i64 (s.2.1 + s.2.2.2.2)] 116)).heap[wr.heap.size]? = some (.cells #[.int .i64 s.1, .int .i64 s.2.1, .int .i64 s.2.2.1, .int .i64 s.2.2.2.1, .int .i64 s.2.2.2.2] 38) := heap_alloc (heap_new wr _ rfl)
      have hBn := heap_new (wr.alloc (.cells #[.int .i64 s.1, .int .i64 s.2.1, .int .i64 s.2.2.1, .int .i64 s.2.2.2.1, .int .i64 s.2.2.2.2] 38)) (.cells #[.int .i64 s.1, .int .i64 (s.2.1 - s.2.2.2.2), .int .i64 (s.2.1 + s.2.2.2.2)] 116) (b := wr.heap.size + 1) (by simp)
      apply region_gen 17 [] [0, 1, 2, 3, 4, 5, 6, 7, 8, 9, 10, 11, 12, 13, 14, 15, 16] [17, 18, 19]; (case hm => kernel_rfl); (case hS => rfl); (case hF => kernel_rfl); (case hB => kernel_rfl); (case hQ => exact fun _ _ _ _ _ h => h); (case f => (exact rfl)); (case hz => exact rfl); (case h => (intro LQ hLQ W1 hW1; have hS1 := heap_old hW1 hS; have d0 := cell_heap (o := 0) hS1 rfl; have d3 := cell_heap (o := 3) hS1 rfl; have d4 := cell_heap (o := 4) hS1 rfl; simp only [pickO, List.drop_succ_cons, List.drop_zero, List.take_succ_cons, List.take_zero, List.cons_append, List.nil_append, List.append_nil, Act.put, List.setIfInBounds_toArray, List.set_cons_succ, List.set_cons_zero]; have hl := @Later.cell; (repeat (go_big_quiet_step ((go_at_call 108; exact Calls.later_same (rraise_any _ _ _))))); exact wpQuiet_nil hLQ)); (intro W2 hW2; simp only [pickO, List.drop_succ_cons, List.drop_zero, List.take_succ_cons, List.take_zero, List.cons_append, List.nil_append, List.append_nil, Act.put, List.setIfInBounds_toArray, List.set_cons_succ, List.set_cons_zero])
      have hB2 := heap_old hW2 hBn
      have e0 := cell_heap (o := 0) hB2 rfl
      have e1 := cell_heap (o := 1) hB2 rfl
      have e2 := cell_heap (o := 2) hB2 rfl
      have f1 := frozen_heap (o := 1) hB2
      have f2 := frozen_heap (o := 2) hB2
      have hK2 : Below wr.heap.size wr W2 := Below.trans (by repeat (first | with_reducible exact Below.refl _ _ | with_reducible assumption | with_reducible refine Below.drew ?_ | with_reducible refine Below.setCell ?_ (by first | omega | (simp; omega) | simp) _ | with_reducible refine Below.alloc ?_ (by first | omega | (simp; omega) | simp) _ | with_reducible refine Below.trans ?_ (Below.mono (by with_reducible assumption) (by first | omega | (simp; omega) | simp)))) (hW2.mono (by simp; omega))
      have hsz2 := hK2.size
      have hlt2 := (Array.getElem?_eq_some_iff.1 hB2).1
      go_wp2_with (at_builtin; refine wpList_append_own _ rfl _ _ 112 rfl w2.heap.size 116 i0 zeroB 3 24 Try.underlying112 hi0 hz0 hz1 hz2 rfl (by decide) _ _ _ rfl (own_below hO (by repeat (first | with_reducible exact Below.refl _ _ | with_reducible assumption | with_reducible refine Below.drew ?_ | with_reducible refine Below.setCell ?_ (by first | omega | (simp; omega) | simp) _ | with_reducible refine Below.alloc ?_ (by first | omega | (simp; omega) | simp) _ | with_reducible refine Below.trans ?_ (Below.mono (by with_reducible assumption) (by first | omega | (simp; omega) | simp))))) ⟨_, 0, none⟩ 1 1 (cB (bZ s)) rfl rfl ?_ (cB_one _) (by unfold maxLen; omega) (by omega) (by simp; omega) ?_; rotate_left; intro u' w5 ho5 hg5 hnil5; have hB5 : Below w2.heap.size w2 w5 := Below.grown (by repeat (first | with_reducible exact Below.refl _ _ | with_reducible assumption | with_reducible refine Below.drew ?_ | with_reducible refine Below.setCell ?_ (by first | omega | (simp; omega) | simp) _ | with_reducible refine Below.alloc ?_ (by first | omega | (simp; omega) | simp) _ | with_reducible refine Below.trans ?_ (Below.mono (by with_reducible assumption) (by first | omega | (simp; omega) | simp)))) hg5 (by simp; omega) (fun q hq => by have := (hO.lt q hq).1; omega))
      · refine ⟨⟨k + 1, hlt, by simp, hB5, ?_⟩, by simpa [intOf] using hn⟩
        rw [hTT.out]; exact own_push ho5
      · exact cells_here (heap_new _ (.cells (cB (bZ s)).toArray 116) (by simp))
    · obtain rfl : k = S.length := by omega
      rw [bnds_take (Nat.le_refl _)] at hO
      clear hlenk
      have hH := held_own cB_len hO
      obtain ⟨pp, cp, rfl⟩ := own_slice hO
      have hbl := bnds_len 2 S
      rw [hbl] at hH ⊢
      by_cases h2 : S.length < 2
      · have e1 := Lib.hid (hES.out h2)
        go_wp2_with fail
        go_ret2
        exact ⟨_, ret_e e1.out.symm, fun e => by rw [e1.out] at e; omega, Below.next hB2 (Nat.le_refl _) hb0⟩
      · have e1 := Lib.hid (hEL.out h2)
        go_wp2_with fail
        go_ret2
        exact ⟨_, ret_e e1.out.symm, fun _ => hH, Below.next hB2 (Nat.le_refl _) hb0⟩
end Go.Proofs.Ytmdledlbkdcmnaa

/-
  Contracts of the reference's Bounds, three and possible, and of Possible, ours and the reference's.
  Conditions: none.
-/
namespace Go.Proofs.Ytmdledlbkdcmnaa
open Go.RowKit
/-- The error of the bounds of an axis. -/
def bndE (l : List SN) (ax : Int) : Int := if ax < 0 ∨ 2 < ax then 1 else behE l
theorem bndE_in {l : List SN} {ax : Int} (h1 : 0 ≤ ax) (h2 : ax ≤ 2) : bndE l ax = behE l := by unfold bndE; rw [if_neg (by omega)]
set_option maxHeartbeats 1000000 in
theorem rbounds_any (v : Value) (l : List SN) (ax : Int) (w : World) (h : Seens w v l) : Calls Try.prog 71 #[v, .int .i64 ax] w fun e w' => ∃ u, e = .returned (.tuple #[u, .int .i64 (bndE l ax)]) ∧ (bndE l ax = 0 → Bnds w' u (bnds ax (bhdL l))) ∧ Below w.heap.size w w' := by
  by_cases hax : ax < 0 ∨ 2 < ax
  · have e1 : bndE l ax = 1 := by unfold bndE; rw [if_pos hax]
    rw [e1]
    clear e1
    go_enter Try.func71, Try.ntmps71
    go_wp2_with fail
    all_goals first
      | (go_ret2; exact ⟨_, rfl, fun e => absurd e (by decide), (by repeat (first | with_reducible exact Below.refl _ _ | with_reducible assumption | with_reducible refine Below.drew ?_ | with_reducible refine Below.setCell ?_ (by first | omega | (simp; omega) | simp) _ | with_reducible refine Below.alloc ?_ (by first | omega | (simp; omega) | simp) _ | with_reducible refine Below.trans ?_ (Below.mono (by with_reducible assumption) (by first | omega | (simp; omega) | simp))))⟩)
      | (go_ret2; exact ⟨⟨_, rfl⟩, (by repeat (first | with_reducible exact Below.refl _ _ | with_reducible assumption | with_reducible refine Below.drew ?_ | with_reducible refine Below.setCell ?_ (by first | omega | (simp; omega) | simp) _ | with_reducible refine Below.alloc ?_ (by first | omega | (simp; omega) | simp) _ | with_reducible refine Below.trans ?_ (Below.mono (by with_reducible assumption) (by first | omega | (simp; omega) | simp))))⟩)
      | (exfalso; omega)
  · rw [bndE_in (by omega) (by omega)]
    by_cases hc : chkE l = 0
    · rcases (show ax = 0 ∨ ax = 1 ∨ ax = 2 by omega) with rfl | rfl | rfl
      · exact rbounds0 v l w h hc
      · exact rbounds1 v l w h hc
      · exact rbounds2 v l w h hc
    · rw [behE_chk hc]
      obtain ⟨x1, x2⟩ : 0 ≤ ax ∧ ax ≤ 2 := by omega
      have hck := Lib.hid (fun w' (h : Seens w' v l) => rcheck_any v l w' h)
      have hc' : (chkE l != 0) = true := by simpa using hc
      have hC := Lib.hid hc
      clear hc hax
      generalize chkE l = E at *
      go_enter Try.func71, Try.ntmps71
      go_wp2_with (go_at_call 96; refine (hck.out _ (h.below (by repeat (first | with_reducible exact Below.refl _ _ | with_reducible assumption | with_reducible refine Below.drew ?_ | with_reducible refine Below.setCell ?_ (by first | omega | (simp; omega) | simp) _ | with_reducible refine Below.alloc ?_ (by first | omega | (simp; omega) | simp) _ | with_reducible refine Below.trans ?_ (Below.mono (by with_reducible assumption) (by first | omega | (simp; omega) | simp)))))).mono ?_; rintro e w1 ⟨⟨k0, rfl⟩, hb1⟩)
      all_goals first
        | (go_ret2; exact ⟨_, rfl, fun e => absurd e hC.out, hb1⟩)
        | (exfalso; omega)
set_option maxRecDepth 100000 in
set_option maxHeartbeats 4000000 in
theorem rthree_any (a b c : BD) (ha : okB a) (hb : okB b) (hc : okB c) (w : World) : Calls Try.prog 109 #[.agg #[.int .i64 a.1, .int .i64 a.2.1, .int .i64 a.2.2], .agg #[.int .i64 b.1, .int .i64 b.2.1, .int .i64 b.2.2], .agg #[.int .i64 c.1, .int .i64 c.2.1, .int .i64 c.2.2]] w fun e w' => e = .returned (.bool (three a b c)) ∧ Below w.heap.size w w' := by
  obtain ⟨⟨at1, at2⟩, al1, al2, al3⟩ := ha
  obtain ⟨⟨dt1, dt2⟩, dl1, dl2, dl3⟩ := hb
  obtain ⟨⟨ct1, ct2⟩, cl1, cl2, cl3⟩ := hc
  obtain ⟨p1, p2⟩ := part_bd dl1 (by omega : b.2.1 ≤ 20000000000) ct1 ct2 at1 at2
  obtain ⟨p3, p4⟩ := part_bd (by omega : -20000000000 ≤ a.2.2) al3 ct1 ct2 dt1 dt2
  obtain ⟨p5, p6⟩ := part_bd (by omega : -20000000000 ≤ c.2.2) cl3 dt1 dt2 at1 at2
  obtain ⟨q1, q2⟩ := part_bd (by omega : -20000000000 ≤ b.2.2) dl3 ct1 ct2 at1 at2
  obtain ⟨q3, q4⟩ := part_bd al1 (by omega : a.2.1 ≤ 20000000000) ct1 ct2 dt1 dt2
  obtain ⟨q5, q6⟩ := part_bd cl1 (by omega : c.2.1 ≤ 20000000000) dt1 dt2 at1 at2
  go_enter Try.func109, Try.ntmps109
  go_wp2_with fail
  have hA := heap_alloc (X := .cells #[.int .i64 c.1, .int .i64 c.2.1, .int .i64 c.2.2] 116) (heap_alloc (X := .cells #[.int .i64 b.1, .int .i64 b.2.1, .int .i64 b.2.2] 116) (heap_new w (.cells #[.int .i64 a.1, .int .i64 a.2.1, .int .i64 a.2.2] 116) rfl))
  have hB := heap_alloc (X := .cells #[.int .i64 c.1, .int .i64 c.2.1, .int .i64 c.2.2] 116) (heap_new (w.alloc (.cells #[.int .i64 a.1, .int .i64 a.2.1, .int .i64 a.2.2] 116)) (.cells #[.int .i64 b.1, .int .i64 b.2.1, .int .i64 b.2.2] 116) (b := w.heap.size + 1) (by simp))
  have hC := heap_new ((w.alloc (.cells #[.int .i64 a.1, .int .i64 a.2.1, .int .i64 a.2.2] 116)).alloc (.cells #[.int .i64 b.1, .int .i64 b.2.1, .int .i64 b.2.2] 116)) (.cells #[.int .i64 c.1, .int .i64 c.2.1, .int .i64 c.2.2] 116) (b := w.heap.size + 1 + 1) (by simp)
  have hBB : Below w.heap.size w (((w.alloc (.cells #[.int .i64 a.1, .int .i64 a.2.1, .int .i64 a.2.2] 116)).alloc (.cells #[.int .i64 b.1, .int .i64 b.2.1, .int .i64 b.2.2] 116)).alloc (.cells #[.int .i64 c.1, .int .i64 c.2.1, .int .i64 c.2.2] 116)) := (by repeat (first | with_reducible exact Below.refl _ _ | with_reducible assumption | with_reducible refine Below.drew ?_ | with_reducible refine Below.setCell ?_ (by first | omega | (simp; omega) | simp) _ | with_reducible refine Below.alloc ?_ (by first | omega | (simp; omega) | simp) _ | with_reducible refine Below.trans ?_ (Below.mono (by with_reducible assumption) (by first | omega | (simp; omega) | simp))))
  generalize (((w.alloc (.cells #[.int .i64 a.1, .int .i64 a.2.1, .int .i64 a.2.2] 116)).alloc (.cells #[.int .i64 b.1, .int .i64 b.2.1, .int .i64 b.2.2] 116)).alloc (.cells #[.int .i64 c.1, .int .i64 c.2.1, .int .i64 c.2.2] 116)) = W at hA hB hC hBB ⊢
  have a0 := cell_heap (o := 0) hA rfl
  have a1 := cell_heap (o := 1) hA rfl
  have a2 := cell_heap (o := 2) hA rfl
  have b0 := cell_heap (o := 0) hB rfl
  have b1 := cell_heap (o := 1) hB rfl
  have b2 := cell_heap (o := 2) hB rfl
  have c0 := cell_heap (o := 0) hC rfl
  have c1 := cell_heap (o := 1) hC rfl
  have c2 := cell_heap (o := 2) hC rfl
  refine region_still (by kernel_rfl) (by kernel_rfl) ?_; intro W' hW hC; have z0 := (hC ⟨w.heap.size, 0, none⟩).trans (a0); have z1 := (hC ⟨w.heap.size + 1, 0, none⟩).trans (b0); have z2 := (hC ⟨w.heap.size + 1 + 1, 0, none⟩).trans (c0); replace hW := Lib.hid hW; clear hC; (repeat still_step); refine wpStill_nil ?_; obtain rfl := hW.out; clear hW
  rw [kwrap_id (x := c.1 - a.1) (by omega) (by omega), kwrap_id (x := c.1 - b.1) (by omega) (by omega), kwrap_id (x := b.1 - a.1) (by omega) (by omega)]
  have hBW : Below w.heap.size w W.drew := (by repeat (first | with_reducible exact Below.refl _ _ | with_reducible assumption | with_reducible refine Below.drew ?_ | with_reducible refine Below.setCell ?_ (by first | omega | (simp; omega) | simp) _ | with_reducible refine Below.alloc ?_ (by first | omega | (simp; omega) | simp) _ | with_reducible refine Below.trans ?_ (Below.mono (by with_reducible assumption) (by first | omega | (simp; omega) | simp))))
  replace hA := heap_drew hA
  replace hB := heap_drew hB
  replace hC := heap_drew hC
  generalize W.drew = W1 at *
  clear a0 a1 a2 b0 b1 b2 c0 c1 c2
  have a1 := cell_heap (o := 1) hA rfl
  have a2 := cell_heap (o := 2) hA rfl
  have b1 := cell_heap (o := 1) hB rfl
  have b2 := cell_heap (o := 2) hB rfl
  have c1 := cell_heap (o := 1) hC rfl
  have c2 := cell_heap (o := 2) hC rfl
  go_wp2_with fail
  all_goals (go_ret; refine ⟨ret_bool ?_, hBW⟩)
  · unfold three; rw [decide_eq_true (show b.2.1 * (c.1 - a.1) ≤ a.2.2 * (c.1 - b.1) + c.2.2 * (b.1 - a.1) by assumption), Bool.true_and]
  · rw [three_no (.inl (by assumption))]
end Go.Proofs.Ytmdledlbkdcmnaa

/-
  Contracts of the reference's possible, and of Possible, ours and the reference's.
  Conditions: none.
-/
namespace Go.Proofs.Ytmdledlbkdcmnaa
open Go.RowKit
set_option maxRecDepth 100000 in
set_option maxHeartbeats 4000000 in
theorem rpossible_any (v : Value) (l : List BD) (w : World) (h : Bnds w v l) (hok : ∀ b ∈ l, okB b) (hl : l.length ≤ 64) : Calls Try.prog 72 #[v] w fun e w' => e = .returned (.bool (fitsB l)) ∧ Below w.heap.size w w' := by
  obtain ⟨pa, b, o, cap, rfl, h1, h2, h3, h4⟩ := h
  have hcap : cap ≤ 9223372036854775807 := by unfold maxLen at h3; omega
  have hK := Lib.hid hok
  clear hok
  go_enter Try.func72, Try.ntmps72
  go_wp2_with fail
  go_loopw [8] (fun x wr => ∃ i : Nat, i ≤ l.length ∧ x = .int .i64 i ∧ Below w.heap.size w wr ∧ ∀ i' j k, i' < i → i' < j → j < k → k < l.length → threeAt l i' j k = true) (fun x _ => l.length - (intOf x).toNat)
  case atStart => exact ⟨0, by omega, rfl, (by repeat (first | with_reducible exact Below.refl _ _ | with_reducible assumption | with_reducible refine Below.drew ?_ | with_reducible refine Below.setCell ?_ (by first | omega | (simp; omega) | simp) _ | with_reducible refine Below.alloc ?_ (by first | omega | (simp; omega) | simp) _ | with_reducible refine Below.trans ?_ (Below.mono (by with_reducible assumption) (by first | omega | (simp; omega) | simp)))), fun _ _ _ h => by omega⟩
  case round =>
    obtain ⟨i, hi, rfl, hb0, hP⟩ := hrel
    rcases Nat.lt_or_ge i l.length with hlt | hge
    · obtain rfl := h1 (by omega)
      have hPP := Lib.hid hP
      have hn : l.length - (i + 1) < l.length - i := by omega
      clear hP
      go_wp2_with fail
      go_loopw [4] (fun x w2 => ∃ j : Nat, i < j ∧ j ≤ l.length ∧ x = .int .i64 j ∧ Below w.heap.size w w2 ∧ ∀ j' k, j' < j → i < j' → j' < k → k < l.length → threeAt l i j' k = true) (fun x _ => l.length - (intOf x).toNat)
      case atStart => exact ⟨i + 1, by omega, hlt, by simp, hb0, fun _ _ h h2 => by omega⟩
      case round =>
        obtain ⟨j, hij, hj, rfl, hb1, hP2⟩ := hrel
        rcases Nat.lt_or_ge j l.length with hjl | hjl
        · have hPP2 := Lib.hid hP2
          have hn2 : l.length - (j + 1) < l.length - j := by omega
          clear hP2
          go_wp2_with fail
          go_loopw [5] (fun x w3 => ∃ k : Nat, j < k ∧ k ≤ l.length ∧ x = .int .i64 k ∧ Below w.heap.size w w3 ∧ ∀ k', k' < k → j < k' → threeAt l i j k' = true) (fun x _ => l.length - (intOf x).toNat)
          case atStart => exact ⟨j + 1, by omega, hjl, by simp, hb1, fun _ h h2 => by omega⟩
          case round =>
            obtain ⟨k, hjk, hk, rfl, hb2, hP3⟩ := hrel
            rcases Nat.lt_or_ge k l.length with hkl | hkl
            · obtain ⟨a, ha⟩ := some_of' (l := l) hlt
              obtain ⟨d, hd⟩ := some_of' (l := l) hjl
              obtain ⟨c, hc⟩ := some_of' (l := l) hkl
              obtain ⟨a0, a1, a2⟩ := cB_at (cells_below (h4 i a ha) hb2)
              obtain ⟨d0, d1, d2⟩ := cB_at (cells_below (h4 j d hd) hb2)
              obtain ⟨c0, c1, c2⟩ := cB_at (cells_below (h4 k c hc) hb2)
              have hT := Lib.hid (threeAt_some ha hd hc)
              have hth := Lib.hid (fun w => rthree_any a d c (hK.out a (List.mem_of_getElem? ha)) (hK.out d (List.mem_of_getElem? hd)) (hK.out c (List.mem_of_getElem? hc)) w)
              have hPP3 := Lib.hid hP3
              have hn3 : l.length - (k + 1) < l.length - k := by omega
              clear ha hd hc hP3
              go_wp2_with fail
              have hl := @Later.cell
              refine region_later (by kernel_rfl) (by kernel_rfl) ?_; (repeat (go_big_quiet_step ((go_at_call 109; exact Calls.later (hth.out _))))); refine wpQuiet_nil ?_; rintro _ ⟨x, rfl⟩; obtain ⟨w', hb⟩ := x; (try clear hc hf); (try clear hcM hfM); (try clear hcN hfN); (first | ((first | replace hB := Below.next hB (Nat.le_refl _) hb | replace hB := Below.next1 hB (Nat.le_refl _) hb | replace hB := Below.next2 hB (Nat.le_refl _) hb); (first | replace hM := Below.next hM (Nat.le_refl _) hb | replace hM := Below.next1 hM (Nat.le_refl _) hb | replace hM := Below.next2 hM (Nat.le_refl _) hb); (first | replace hN := Below.next hN (Nat.le_refl _) hb | replace hN := Below.next1 hN (Nat.le_refl _) hb | replace hN := Below.next2 hN (Nat.le_refl _) hb)) | ((first | replace hB := Below.next hB (Nat.le_refl _) hb | replace hB := Below.next1 hB (Nat.le_refl _) hb | replace hB := Below.next2 hB (Nat.le_refl _) hb); (first | replace hM := Below.next hM (Nat.le_refl _) hb | replace hM := Below.next1 hM (Nat.le_refl _) hb | replace hM := Below.next2 hM (Nat.le_refl _) hb); have hN := Below.mid hb) | ((first | replace hB := Below.next hB (Nat.le_refl _) hb | replace hB := Below.next1 hB (Nat.le_refl _) hb | replace hB := Below.next2 hB (Nat.le_refl _) hb); (first | replace hM := Below.next hM (Nat.le_refl _) hb | replace hM := Below.next1 hM (Nat.le_refl _) hb | replace hM := Below.next2 hM (Nat.le_refl _) hb)) | ((first | replace hB := Below.next hB (Nat.le_refl _) hb | replace hB := Below.next1 hB (Nat.le_refl _) hb | replace hB := Below.next2 hB (Nat.le_refl _) hb); have hM := Below.mid hb) | (first | replace hB := Below.next hB (Nat.le_refl _) hb | replace hB := Below.next1 hB (Nat.le_refl _) hb | replace hB := Below.next2 hB (Nat.le_refl _) hb) | have hB := hb); obtain ⟨hc, hf, hz⟩ := after hB; (try (have hq := after hM; obtain ⟨hcM, hfM, hzM⟩ := hq)); (try (have hq := after hN; obtain ⟨hcN, hfN, hzN⟩ := hq)); have hs := hb.size; (try simp at hz); (try simp at hs)
              have hK3 := Below.next hb2 (Nat.le_refl _) hb
              go_wp2_with fail
              · go_ret
                refine ⟨ret_bool ?_, hK3⟩
                exact (fitsB_no hij hjk hkl (by rw [hT.out]; simpa using ‹(!three a d c) = true›)).symm
              · refine ⟨⟨k + 1, by omega, hkl, by simp, hK3, fun k' h1 h2 => ?_⟩, by simpa [intOf] using hn3⟩
                rcases Nat.lt_or_eq_of_le (Nat.le_of_lt_succ h1) with h | rfl
                · exact hPP3.out k' h h2
                · rw [hT.out]; simpa using ‹(!three a d c) = false›
            · obtain rfl : k = l.length := by omega
              have hPP3 := Lib.hid hP3
              clear hP3
              go_wp2_with fail
              refine ⟨⟨j + 1, by omega, hjl, by simp, hb2, fun j' k h1 h2 h3 h4 => ?_⟩, by simpa [intOf] using hn2⟩
              rcases Nat.lt_or_eq_of_le (Nat.le_of_lt_succ h1) with h | rfl
              · exact hPP2.out j' k h h2 h3 h4
              · exact hPP3.out k h4 h3
        · obtain rfl : j = l.length := by omega
          have hPP2 := Lib.hid hP2
          clear hP2
          go_wp2_with fail
          refine ⟨⟨i + 1, hlt, by simp, hb1, fun i' j k h1 h2 h3 h4 => ?_⟩, by simpa [intOf] using hn⟩
          rcases Nat.lt_or_eq_of_le (Nat.le_of_lt_succ h1) with h | rfl
          · exact hPP.out i' j k h h2 h3 h4
          · exact hPP2.out j k (by omega) h2 h3 h4
    · have hall : fitsB l = true := fitsB_iff.2 fun i' j k hi hj hk' => hP i' j k (by omega) hi hj hk'
      have hall' := Lib.hid hall
      clear hall hP
      obtain rfl : i = l.length := by omega
      go_wp2_with fail
      go_ret
      exact ⟨ret_bool hall'.out.symm, hb0⟩
end Go.Proofs.Ytmdledlbkdcmnaa

/-
  Contracts of Possible, ours and the reference's.
  Conditions: none.
-/
namespace Go.Proofs.Ytmdledlbkdcmnaa
open Go.RowKit
def posOk (l : List SN) : Bool := decide (behE l = 0) && posB l
def posV (l : List SN) : Value := .tuple #[.bool (posOk l), .int .i64 (behE l)]
theorem bnds_small (ax : Int) (l : List SN) : (bnds ax (bhdL l)).length ≤ 64 := by rw [bnds_len]; exact bhd_len l
theorem ret_p {a c : Bool} {b d : Int} (h1 : a = c) (h2 : b = d) : Ending.returned (.tuple #[.bool a, .int .i64 b]) = .returned (.tuple #[.bool c, .int .i64 d]) := by rw [h1, h2]
set_option maxRecDepth 100000 in
set_option maxHeartbeats 4000000 in
theorem possible_any (v : Value) (l : List SN) (w : World) (h : Seens w v l) : Calls Try.prog 20 #[v] w fun e w' => e = .returned (posV l) ∧ Below w.heap.size w w' := by
  have hbeh := Lib.hid (fun w' (h : Seens w' v l) => pbehind_any v l w' h)
  unfold posV posOk
  by_cases hb : behE l = 0
  · have hb0 : (0 : Int) = 0 := rfl
    have hok := Lib.hid (bhd_ok (l := l))
    have hl64 := bhd_len l
    have hB0 := Lib.hid (fun w' u (h : Seens w' u (bhdL l)) => bounds_any u (bhdL l) 0 w' h hok.out hl64 (by omega) (by omega))
    have hB1 := Lib.hid (fun w' u (h : Seens w' u (bhdL l)) => bounds_any u (bhdL l) 1 w' h hok.out hl64 (by omega) (by omega))
    have hB2 := Lib.hid (fun w' u (h : Seens w' u (bhdL l)) => bounds_any u (bhdL l) 2 w' h hok.out hl64 (by omega) (by omega))
    have hF0 := Lib.hid (fun w' u (h : Bnds w' u (bnds 0 (bhdL l))) => pfits_any u _ w' h (bnds_ok (ax := 0)) (bnds_small 0 l))
    have hF1 := Lib.hid (fun w' u (h : Bnds w' u (bnds 1 (bhdL l))) => pfits_any u _ w' h (bnds_ok (ax := 1)) (bnds_small 1 l))
    have hF2 := Lib.hid (fun w' u (h : Bnds w' u (bnds 2 (bhdL l))) => pfits_any u _ w' h (bnds_ok (ax := 2)) (bnds_small 2 l))
    have hbeh' := Lib.hid (fun w' (h : Seens w' v l) => by have := pbehind_any v l w' h; rwa [hb] at this)
    rw [hb]
    unfold posB
    clear hbeh hb hok
    generalize hX : bnds 0 (bhdL l) = X at *
    generalize hY : bnds 1 (bhdL l) = Y at *
    generalize hZ : bnds 2 (bhdL l) = Z at *
    generalize bhdL l = S at *
    clear hX hY hZ
    generalize fitsB X = fx at *
    generalize fitsB Y = fy at *
    generalize fitsB Z = fz at *
    cases fx <;> cases fy
    all_goals
      go_enter Try.func20, Try.ntmps20
      go_wp2_with (first
        | (go_at_call 55; refine (hbeh'.out _ (h.below (by repeat (first | with_reducible exact Below.refl _ _ | with_reducible assumption | with_reducible refine Below.drew ?_ | with_reducible refine Below.setCell ?_ (by first | omega | (simp; omega) | simp) _ | with_reducible refine Below.alloc ?_ (by first | omega | (simp; omega) | simp) _ | with_reducible refine Below.trans ?_ (Below.mono (by with_reducible assumption) (by first | omega | (simp; omega) | simp)))))).mono ?_; rintro e w1 ⟨⟨u, rfl, hu⟩, hb1⟩; have hK : Below w.heap.size w w1 := hb1; have hs := hu (by first | rfl | trivial); clear hu)
        | (go_at_call_of 57 (Value.int IntKind.i64 0); refine (hB0.out _ _ hs).mono ?_; rintro e w2 ⟨x, rfl, hx, hb2⟩; replace hK := Below.next hK (Nat.le_refl _) hb2; replace hs := hs.below hb2; clear hb2)
        | (go_at_call_of 57 (Value.int IntKind.i64 1); refine (hB1.out _ _ hs).mono ?_; rintro e w2 ⟨y, rfl, hy, hb2⟩; replace hK := Below.next hK (Nat.le_refl _) hb2; replace hs := hs.below hb2; clear hb2)
        | (go_at_call_of 57 (Value.int IntKind.i64 2); refine (hB2.out _ _ hs).mono ?_; rintro e w2 ⟨z, rfl, hz, hb2⟩; replace hK := Below.next hK (Nat.le_refl _) hb2; replace hs := hs.below hb2; clear hb2)
        | (go_at_call_of 56 (x); refine (hF0.out _ _ hx).mono ?_; rintro e w2 ⟨rfl, hb2⟩; replace hK := Below.next hK (Nat.le_refl _) hb2; replace hs := hs.below hb2; clear hb2)
        | (go_at_call_of 56 (y); refine (hF1.out _ _ hy).mono ?_; rintro e w2 ⟨rfl, hb2⟩; replace hK := Below.next hK (Nat.le_refl _) hb2; replace hs := hs.below hb2; clear hb2)
        | (go_at_call_of 56 (z); refine (hF2.out _ _ hz).mono ?_; rintro e w2 ⟨rfl, hb2⟩; replace hK := Below.next hK (Nat.le_refl _) hb2; replace hs := hs.below hb2; clear hb2))
      go_ret2
      exact ⟨ret_p (by simp) rfl, hK⟩
  · have hb' : (behE l != 0) = true := by simpa using hb
    have hd : decide (behE l = 0) = false := by simpa using hb
    rw [hd]
    clear hb hd
    generalize behE l = E at *
    go_enter Try.func20, Try.ntmps20
    go_wp2_with (go_at_call 55; refine (hbeh.out _ (h.below (by repeat (first | with_reducible exact Below.refl _ _ | with_reducible assumption | with_reducible refine Below.drew ?_ | with_reducible refine Below.setCell ?_ (by first | omega | (simp; omega) | simp) _ | with_reducible refine Below.alloc ?_ (by first | omega | (simp; omega) | simp) _ | with_reducible refine Below.trans ?_ (Below.mono (by with_reducible assumption) (by first | omega | (simp; omega) | simp)))))).mono ?_; rintro e w1 ⟨⟨u, rfl, hu⟩, hb1⟩; clear hu; have hK : Below w.heap.size w w1 := hb1)
    go_ret2
    exact ⟨ret_p (by simp) rfl, hK⟩
end Go.Proofs.Ytmdledlbkdcmnaa

/-
  Contracts of the reference's Possible and through.
  Conditions: none.
-/
namespace Go.Proofs.Ytmdledlbkdcmnaa
open Go.RowKit
set_option maxRecDepth 100000 in
set_option maxHeartbeats 4000000 in
theorem rpos_any (v : Value) (l : List SN) (w : World) (h : Seens w v l) : Calls Try.prog 32 #[v] w fun e w' => e = .returned (posV l) ∧ Below w.heap.size w w' := by
  unfold posV posOk
  by_cases hb : behE l = 0
  · have hB0 := Lib.hid (fun w' (h : Seens w' v l) => by have := rbounds_any v l 0 w' h; rwa [bndE_in (by omega) (by omega), hb] at this)
    have hB1 := Lib.hid (fun w' (h : Seens w' v l) => by have := rbounds_any v l 1 w' h; rwa [bndE_in (by omega) (by omega), hb] at this)
    have hB2 := Lib.hid (fun w' (h : Seens w' v l) => by have := rbounds_any v l 2 w' h; rwa [bndE_in (by omega) (by omega), hb] at this)
    have hF0 := Lib.hid (fun w' u (h : Bnds w' u (bnds 0 (bhdL l))) => rpossible_any u _ w' h (bnds_ok (ax := 0)) (bnds_small 0 l))
    have hF1 := Lib.hid (fun w' u (h : Bnds w' u (bnds 1 (bhdL l))) => rpossible_any u _ w' h (bnds_ok (ax := 1)) (bnds_small 1 l))
    have hF2 := Lib.hid (fun w' u (h : Bnds w' u (bnds 2 (bhdL l))) => rpossible_any u _ w' h (bnds_ok (ax := 2)) (bnds_small 2 l))
    rw [hb]
    unfold posB
    clear hb
    generalize hX : bnds 0 (bhdL l) = X at *
    generalize hY : bnds 1 (bhdL l) = Y at *
    generalize hZ : bnds 2 (bhdL l) = Z at *
    clear hX hY hZ
    generalize fitsB X = fx at *
    generalize fitsB Y = fy at *
    generalize fitsB Z = fz at *
    cases fx <;> cases fy <;> cases fz
    all_goals
      go_enter Try.func32, Try.ntmps32
      go_wp2_with fail
      refine wp_loop_rounds 4 ?_
      rw [rounds_succ]
      go_wp2_with (first
        | (go_at_call_of 71 (Value.int IntKind.i64 0); refine (hB0.out _ (h.below (by repeat (first | with_reducible exact Below.refl _ _ | with_reducible assumption | with_reducible refine Below.drew ?_ | with_reducible refine Below.setCell ?_ (by first | omega | (simp; omega) | simp) _ | with_reducible refine Below.alloc ?_ (by first | omega | (simp; omega) | simp) _ | with_reducible refine Below.trans ?_ (Below.mono (by with_reducible assumption) (by first | omega | (simp; omega) | simp)))))).mono ?_; rintro e w2 ⟨x, rfl, hx', hK⟩; have hx := hx' (by first | rfl | trivial); clear hx')
        | (go_at_call_of 72 (x); refine (hF0.out _ _ hx).mono ?_; rintro e w2 ⟨rfl, hb2⟩; replace hK := Below.next hK (Nat.le_refl _) hb2; clear hb2))
      try (go_ret2; exact ⟨ret_p (by simp) rfl, hK⟩)
    all_goals
      rw [rounds_succ]
      go_wp2_with (first
        | (go_at_call_of 71 (Value.int IntKind.i64 1); refine (hB1.out _ (h.below hK)).mono ?_; rintro e w2 ⟨y, rfl, hx', hb2⟩; have hy := hx' (by first | rfl | trivial); clear hx'; replace hK := Below.next hK (Nat.le_refl _) hb2; clear hb2)
        | (go_at_call_of 72 (y); refine (hF1.out _ _ hy).mono ?_; rintro e w2 ⟨rfl, hb2⟩; replace hK := Below.next hK (Nat.le_refl _) hb2; clear hb2))
      try (go_ret2; exact ⟨ret_p (by simp) rfl, hK⟩)
    all_goals
      rw [rounds_succ]
      go_wp2_with (first
        | (go_at_call_of 71 (Value.int IntKind.i64 2); refine (hB2.out _ (h.below hK)).mono ?_; rintro e w2 ⟨z, rfl, hx', hb2⟩; have hz := hx' (by first | rfl | trivial); clear hx'; replace hK := Below.next hK (Nat.le_refl _) hb2; clear hb2)
        | (go_at_call_of 72 (z); refine (hF2.out _ _ hz).mono ?_; rintro e w2 ⟨rfl, hb2⟩; replace hK := Below.next hK (Nat.le_refl _) hb2; clear hb2))
      try (go_ret2; exact ⟨ret_p (by simp) rfl, hK⟩)
    all_goals
      rw [rounds_succ]
      go_wp2_with fail
      go_ret2
      exact ⟨ret_p (by simp) rfl, hK⟩
  · have hb' : (behE l != 0) = true := by simpa using hb
    have hd : decide (behE l = 0) = false := by simpa using hb
    have hB0 := Lib.hid (fun w' (h : Seens w' v l) => by have := rbounds_any v l 0 w' h; rwa [bndE_in (by omega) (by omega)] at this)
    rw [hd]
    clear hb hd
    generalize behE l = E at *
    go_enter Try.func32, Try.ntmps32
    go_wp2_with fail
    refine wp_loop_rounds 4 ?_
    rw [rounds_succ]
    go_wp2_with (go_at_call 71; refine (hB0.out _ (h.below (by repeat (first | with_reducible exact Below.refl _ _ | with_reducible assumption | with_reducible refine Below.drew ?_ | with_reducible refine Below.setCell ?_ (by first | omega | (simp; omega) | simp) _ | with_reducible refine Below.alloc ?_ (by first | omega | (simp; omega) | simp) _ | with_reducible refine Below.trans ?_ (Below.mono (by with_reducible assumption) (by first | omega | (simp; omega) | simp)))))).mono ?_; rintro e w2 ⟨x, rfl, hx', hK⟩; clear hx')
    go_ret2
    exact ⟨ret_p (by simp) rfl, hK⟩
theorem thr_num (u v : Int × Int) (t : Int) : -20000000000 ≤ u.2 → u.2 ≤ 20000000000 → -20000000000 ≤ v.2 → v.2 ≤ 20000000000 → 0 ≤ u.1 → u.1 ≤ 4000 → 0 ≤ v.1 → v.1 ≤ 4000 → -10 ≤ t → t ≤ 5000 →
    (-120000000000000 ≤ u.2 * (v.1 - t) ∧ u.2 * (v.1 - t) ≤ 120000000000000) ∧ (-120000000000000 ≤ v.2 * (t - u.1) ∧ v.2 * (t - u.1) ≤ 120000000000000) := by
  intro h1 h2 h3 h4 h5 h6 h7 h8 h9 h10
  have a := mul_bd (A := 20000000000) (B := 6000) (a := u.2) (b := v.1 - t) h1 h2 (by omega) (by omega)
  have b := mul_bd (A := 20000000000) (B := 6000) (a := v.2) (b := t - u.1) h3 h4 (by omega) (by omega)
  omega
set_option maxRecDepth 100000 in
set_option maxHeartbeats 4000000 in
theorem rthrough_up (t ta a tb b : Int) (hok : okN (ta, a, tb - ta, b - a)) (h1 : -20000000000 ≤ b) (h2 : b ≤ 20000000000) (h3 : tb ≤ 4000) (t1 : -10 ≤ t) (t2 : t ≤ 5000) (w : World) :
    Calls Try.prog 110 #[.int .i64 t, .int .i64 ta, .int .i64 a, .int .i64 tb, .int .i64 b, .bool true] w fun e w' => e = .returned (.int .i64 (ceL (ta, a, tb - ta, b - a) t)) ∧ Below w.heap.size w w' := by
  obtain ⟨⟨a1, a2⟩, ⟨b1, b2⟩, ⟨c1, c2⟩, _⟩ := hok
  dsimp only at a1 a2 b1 b2 c1 c2
  obtain ⟨⟨m1, m2⟩, m3, m4⟩ := thr_num (ta, a) (tb, b) t b1 b2 h1 h2 a1 a2 (by dsimp only; omega) h3 t1 t2
  dsimp only at m1 m2 m3 m4
  have hf := Lib.hid (fun w => rceildiv_any (a * (tb - t) + b * (t - ta)) (tb - ta) (by omega) (by omega) (by omega) (by omega) w)
  rw [← thr_ceil (u := (ta, a)) (v := (tb, b)) t (by dsimp only; omega)]
  dsimp only
  generalize -(-(a * (tb - t) + b * (t - ta)) / (tb - ta)) = q at *
  go_enter Try.func110, Try.ntmps110
  go_wp2_with (go_at_call 125; refine (hf.out _).mono ?_; rintro e w' ⟨rfl, hb⟩; (try clear hc hf); (try clear hcM hfM); (try clear hcN hfN); (first | ((first | replace hB := Below.next hB (Nat.le_refl _) hb | replace hB := Below.next1 hB (Nat.le_refl _) hb | replace hB := Below.next2 hB (Nat.le_refl _) hb); (first | replace hM := Below.next hM (Nat.le_refl _) hb | replace hM := Below.next1 hM (Nat.le_refl _) hb | replace hM := Below.next2 hM (Nat.le_refl _) hb); (first | replace hN := Below.next hN (Nat.le_refl _) hb | replace hN := Below.next1 hN (Nat.le_refl _) hb | replace hN := Below.next2 hN (Nat.le_refl _) hb)) | ((first | replace hB := Below.next hB (Nat.le_refl _) hb | replace hB := Below.next1 hB (Nat.le_refl _) hb | replace hB := Below.next2 hB (Nat.le_refl _) hb); (first | replace hM := Below.next hM (Nat.le_refl _) hb | replace hM := Below.next1 hM (Nat.le_refl _) hb | replace hM := Below.next2 hM (Nat.le_refl _) hb); have hN := Below.mid hb) | ((first | replace hB := Below.next hB (Nat.le_refl _) hb | replace hB := Below.next1 hB (Nat.le_refl _) hb | replace hB := Below.next2 hB (Nat.le_refl _) hb); (first | replace hM := Below.next hM (Nat.le_refl _) hb | replace hM := Below.next1 hM (Nat.le_refl _) hb | replace hM := Below.next2 hM (Nat.le_refl _) hb)) | ((first | replace hB := Below.next hB (Nat.le_refl _) hb | replace hB := Below.next1 hB (Nat.le_refl _) hb | replace hB := Below.next2 hB (Nat.le_refl _) hb); have hM := Below.mid hb) | (first | replace hB := Below.next hB (Nat.le_refl _) hb | replace hB := Below.next1 hB (Nat.le_refl _) hb | replace hB := Below.next2 hB (Nat.le_refl _) hb) | have hB := hb); obtain ⟨hc, hf, hz⟩ := after hB; (try (have hq := after hM; obtain ⟨hcM, hfM, hzM⟩ := hq)); (try (have hq := after hN; obtain ⟨hcN, hfN, hzN⟩ := hq)); have hs := hb.size; (try simp at hz); (try simp at hs))
  go_ret
  exact ⟨rfl, (by repeat (first | with_reducible exact Below.refl _ _ | with_reducible assumption | with_reducible refine Below.drew ?_ | with_reducible refine Below.setCell ?_ (by first | omega | (simp; omega) | simp) _ | with_reducible refine Below.alloc ?_ (by first | omega | (simp; omega) | simp) _ | with_reducible refine Below.trans ?_ (Below.mono (by with_reducible assumption) (by first | omega | (simp; omega) | simp))))⟩
set_option maxRecDepth 100000 in
set_option maxHeartbeats 4000000 in
theorem rthrough_down (t ta a tb b : Int) (hok : okN (ta, a, tb - ta, b - a)) (h1 : -20000000000 ≤ b) (h2 : b ≤ 20000000000) (h3 : tb ≤ 4000) (t1 : -10 ≤ t) (t2 : t ≤ 5000) (w : World) :
    Calls Try.prog 110 #[.int .i64 t, .int .i64 ta, .int .i64 a, .int .i64 tb, .int .i64 b, .bool false] w fun e w' => e = .returned (.int .i64 (flL (ta, a, tb - ta, b - a) t)) ∧ Below w.heap.size w w' := by
  obtain ⟨⟨a1, a2⟩, ⟨b1, b2⟩, ⟨c1, c2⟩, _⟩ := hok
  dsimp only at a1 a2 b1 b2 c1 c2
  obtain ⟨⟨m1, m2⟩, m3, m4⟩ := thr_num (ta, a) (tb, b) t b1 b2 h1 h2 a1 a2 (by dsimp only; omega) h3 t1 t2
  dsimp only at m1 m2 m3 m4
  have hf := Lib.hid (fun w => rfloordiv_any (a * (tb - t) + b * (t - ta)) (tb - ta) (by omega) (by omega) (by omega) (by omega) w)
  rw [← thr_floor (u := (ta, a)) (v := (tb, b)) t (by dsimp only; omega)]
  dsimp only
  generalize (a * (tb - t) + b * (t - ta)) / (tb - ta) = q at *
  go_enter Try.func110, Try.ntmps110
  go_wp2_with (go_at_call 126; refine (hf.out _).mono ?_; rintro e w' ⟨rfl, hb⟩; (try clear hc hf); (try clear hcM hfM); (try clear hcN hfN); (first | ((first | replace hB := Below.next hB (Nat.le_refl _) hb | replace hB := Below.next1 hB (Nat.le_refl _) hb | replace hB := Below.next2 hB (Nat.le_refl _) hb); (first | replace hM := Below.next hM (Nat.le_refl _) hb | replace hM := Below.next1 hM (Nat.le_refl _) hb | replace hM := Below.next2 hM (Nat.le_refl _) hb); (first | replace hN := Below.next hN (Nat.le_refl _) hb | replace hN := Below.next1 hN (Nat.le_refl _) hb | replace hN := Below.next2 hN (Nat.le_refl _) hb)) | ((first | replace hB := Below.next hB (Nat.le_refl _) hb | replace hB := Below.next1 hB (Nat.le_refl _) hb | replace hB := Below.next2 hB (Nat.le_refl _) hb); (first | replace hM := Below.next hM (Nat.le_refl _) hb | replace hM := Below.next1 hM (Nat.le_refl _) hb | replace hM := Below.next2 hM (Nat.le_refl _) hb); have hN := Below.mid hb) | ((first | replace hB := Below.next hB (Nat.le_refl _) hb | replace hB := Below.next1 hB (Nat.le_refl _) hb | replace hB := Below.next2 hB (Nat.le_refl _) hb); (first | replace hM := Below.next hM (Nat.le_refl _) hb | replace hM := Below.next1 hM (Nat.le_refl _) hb | replace hM := Below.next2 hM (Nat.le_refl _) hb)) | ((first | replace hB := Below.next hB (Nat.le_refl _) hb | replace hB := Below.next1 hB (Nat.le_refl _) hb | replace hB := Below.next2 hB (Nat.le_refl _) hb); have hM := Below.mid hb) | (first | replace hB := Below.next hB (Nat.le_refl _) hb | replace hB := Below.next1 hB (Nat.le_refl _) hb | replace hB := Below.next2 hB (Nat.le_refl _) hb) | have hB := hb); obtain ⟨hc, hf, hz⟩ := after hB; (try (have hq := after hM; obtain ⟨hcM, hfM, hzM⟩ := hq)); (try (have hq := after hN; obtain ⟨hcN, hfN, hzN⟩ := hq)); have hs := hb.size; (try simp at hz); (try simp at hs))
  go_ret
  exact ⟨rfl, (by repeat (first | with_reducible exact Below.refl _ _ | with_reducible assumption | with_reducible refine Below.drew ?_ | with_reducible refine Below.setCell ?_ (by first | omega | (simp; omega) | simp) _ | with_reducible refine Below.alloc ?_ (by first | omega | (simp; omega) | simp) _ | with_reducible refine Below.trans ?_ (Below.mono (by with_reducible assumption) (by first | omega | (simp; omega) | simp))))⟩
end Go.Proofs.Ytmdledlbkdcmnaa

/-
  Contract of the reference's between.
  Conditions: none.
-/
namespace Go.Proofs.Ytmdledlbkdcmnaa
open Go.RowKit
theorem mxl_push {l : List Int} (h : l ≠ []) (y : Int) : mxl (l ++ [y]) = max (mxl l) y := by
  cases l with
  | nil => exact absurd rfl h
  | cons x l => simp only [mxl, List.cons_append, List.foldl_append, List.foldl_cons, List.foldl_nil]
theorem mnl_push {l : List Int} (h : l ≠ []) (y : Int) : mnl (l ++ [y]) = min (mnl l) y := by
  cases l with
  | nil => exact absurd rfl h
  | cons x l => simp only [mnl, List.cons_append, List.foldl_append, List.foldl_cons, List.foldl_nil]
theorem prsR_next {l : List BD} {k : Nat} {c : BD} (h : l[k]? = some c) : prsR l (k + 1) = prsR l k ++ (l.drop (k + 1)).map (fun v => (c, v)) := by
  conv => lhs; unfold prsR
  rw [h]
def pLo (s t : Int) (p : BD × BD) : Int := loP s t (loL p.1 p.2)
def pHi (s t : Int) (p : BD × BD) : Int := hiP s t (upL p.1 p.2)
set_option maxRecDepth 100000 in
set_option maxHeartbeats 4000000 in
theorem rbetw_any (v : Value) (X : List BD) (s t : Int) (w : World) (h : Bnds w v X) (hX : ∀ b ∈ X, okB b) (r : RisingB X) (hl : X.length ≤ 64) (s1 : -10 ≤ s) (s2 : s ≤ 5000) (t1 : -10 ≤ t) (t2 : t ≤ 5000) :
    Calls Try.prog 73 #[v, .int .i64 s, .int .i64 t] w fun e w' => e = .returned (.agg #[.int .i64 (loR X s t), .int .i64 (hiR X s t)]) ∧ Below w.heap.size w w' := by
  have hLR := Lib.hid (loR_ref X s t)
  have hHR := Lib.hid (hiR_ref X s t)
  obtain ⟨pa, b, o, cap, rfl, h1, h2, h3, h4⟩ := h
  have hcap : cap ≤ 9223372036854775807 := by unfold maxLen at h3; omega
  have hK := Lib.hid hX
  have hRr := Lib.hid r
  clear hX r
  generalize hA0 : loR X s t = A0 at *
  generalize hB0 : hiR X s t = B0 at *
  clear hA0 hB0
  go_enter Try.func73, Try.ntmps73
  go_wp2_with fail
  have hR := heap_alloc (X := .cells #[.int .i64 0, .int .i64 0] 34) (heap_new w (.cells #[.int .i64 0, .int .i64 0] 34) rfl)
  have hS := heap_new (w.alloc (.cells #[.int .i64 0, .int .i64 0] 34)) (.cells #[.int .i64 0, .int .i64 0] 34) (b := w.heap.size + 1) (by simp)
  have hBS : Below w.heap.size w ((w.alloc (.cells #[.int .i64 0, .int .i64 0] 34)).alloc (.cells #[.int .i64 0, .int .i64 0] 34)) := (by repeat (first | with_reducible exact Below.refl _ _ | with_reducible assumption | with_reducible refine Below.drew ?_ | with_reducible refine Below.setCell ?_ (by first | omega | (simp; omega) | simp) _ | with_reducible refine Below.alloc ?_ (by first | omega | (simp; omega) | simp) _ | with_reducible refine Below.trans ?_ (Below.mono (by with_reducible assumption) (by first | omega | (simp; omega) | simp))))
  generalize (w.alloc (.cells #[.int .i64 0, .int .i64 0] 34)).alloc (.cells #[.int .i64 0, .int .i64 0] 34) = w0 at hR hS hBS ⊢
  go_loopw [7, 17] (fun fi x wr => ∃ i : Nat, i ≤ X.length ∧ x = .int .i64 i ∧ Below w.heap.size w wr ∧ wr.heap[w.heap.size]? = some (.cells #[.int .i64 0, .int .i64 0] 34 (0, 0)) ∧ ∃ P : List (BD × BD), P = prsR X i ∧ fi = .bool P.isEmpty ∧ wr.heap[w.heap.size + 1]? = some (.cells #[.int .i64 (mxl (P.map (pLo s t))), .int .i64 (mnl (P.map (pHi s t)))] 34 (0, 0))) (fun _ x _ => X.length - (intOf x).toNat)
  case atStart => exact ⟨0, by omega, rfl, hBS, hR, [], rfl, rfl, by simpa [mxl, mnl] using hS⟩
  case round =>
    obtain ⟨i, hi, rfl, hb0, hR0, P, hPe, rfl, hS0⟩ := hrel
    have hPH := Lib.hid hPe
    clear hPe
    rcases Nat.lt_or_ge i X.length with hlt | hge
    · obtain rfl := h1 (by omega)
      obtain ⟨c, hc⟩ := some_of' (l := X) hlt
      obtain ⟨c0, c1, c2⟩ := cB_at (cells_below (h4 i c hc) hb0)
      obtain ⟨⟨ct1, ct2⟩, cl1, cl2, cl3⟩ := hK.out c (List.mem_of_getElem? hc)
      have hC := Lib.hid hc
      have hN := Lib.hid (prsR_next hc)
      have hn : X.length - (i + 1) < X.length - i := by omega
      have hsz := hb0.size
      have hltS := (Array.getElem?_eq_some_iff.1 hS0).1
      clear hc
      by_cases hend : X.length = i + 1
      · have h0 : X.length - (i + 1) = 0 := by omega
        have hP2 : prsR X (i + 1) = P := by rw [hN.out, List.drop_eq_nil_of_le (by omega), hPH.out]; simp
        have hPH2 := Lib.hid hP2
        clear hP2 hend
        by_cases hc1 : cap = i + 1
        · subst hc1
          go_wp2_with fail
          go_loopw [7, 27] (fun fi x w2 => x = .int .i64 0 ∧ fi = .bool P.isEmpty ∧ Below w.heap.size w w2 ∧ w2.heap[w.heap.size]? = some (.cells #[.int .i64 0, .int .i64 0] 34 (0, 0)) ∧ w2.heap[w.heap.size + 1]? = some (.cells #[.int .i64 (mxl (P.map (pLo s t))), .int .i64 (mnl (P.map (pHi s t)))] 34 (0, 0))) (fun _ _ _ => 0)
          case atStart => exact ⟨rfl, rfl, (by repeat (first | with_reducible exact Below.refl _ _ | with_reducible assumption | with_reducible refine Below.drew ?_ | with_reducible refine Below.setCell ?_ (by first | omega | (simp; omega) | simp) _ | with_reducible refine Below.alloc ?_ (by first | omega | (simp; omega) | simp) _ | with_reducible refine Below.trans ?_ (Below.mono (by with_reducible assumption) (by first | omega | (simp; omega) | simp)))), heap_alloc hR0, heap_alloc hS0⟩
          case round =>
            obtain ⟨rfl, rfl, hb1, hR1, hS1⟩ := hrel
            go_wp2_with fail
            exact ⟨⟨i + 1, hlt, by simp, hb1, hR1, P, hPH2.out.symm, rfl, hS1⟩, by simpa [intOf] using hn⟩
        · go_wp2_with fail
          go_loopw [7, 27] (fun fi x w2 => x = .int .i64 0 ∧ fi = .bool P.isEmpty ∧ Below w.heap.size w w2 ∧ w2.heap[w.heap.size]? = some (.cells #[.int .i64 0, .int .i64 0] 34 (0, 0)) ∧ w2.heap[w.heap.size + 1]? = some (.cells #[.int .i64 (mxl (P.map (pLo s t))), .int .i64 (mnl (P.map (pHi s t)))] 34 (0, 0))) (fun _ _ _ => 0)
          case atStart => exact ⟨rfl, rfl, (by repeat (first | with_reducible exact Below.refl _ _ | with_reducible assumption | with_reducible refine Below.drew ?_ | with_reducible refine Below.setCell ?_ (by first | omega | (simp; omega) | simp) _ | with_reducible refine Below.alloc ?_ (by first | omega | (simp; omega) | simp) _ | with_reducible refine Below.trans ?_ (Below.mono (by with_reducible assumption) (by first | omega | (simp; omega) | simp)))), heap_alloc hR0, heap_alloc hS0⟩
          case round =>
            obtain ⟨rfl, rfl, hb1, hR1, hS1⟩ := hrel
            go_wp2_with fail
            exact ⟨⟨i + 1, hlt, by simp, hb1, hR1, P, hPH2.out.symm, rfl, hS1⟩, by simpa [intOf] using hn⟩
      have hcne : ¬cap = i + 1 := by omega
      go_wp2_with fail
      have hX0 := heap_new wr (.cells #[.int .i64 c.1, .int .i64 c.2.1, .int .i64 c.2.2] 116) rfl
      have hRX := heap_alloc (X := .cells #[.int .i64 c.1, .int .i64 c.2.1, .int .i64 c.2.2] 116) hR0
      have hSX := heap_alloc (X := .cells #[.int .i64 c.1, .int .i64 c.2.1, .int .i64 c.2.2] 116) hS0
      have hBX : Below w.heap.size w (wr.alloc (.cells #[.int .i64 c.1, .int .i64 c.2.1, .int .i64 c.2.2] 116)) := (by repeat (first | with_reducible exact Below.refl _ _ | with_reducible assumption | with_reducible refine Below.drew ?_ | with_reducible refine Below.setCell ?_ (by first | omega | (simp; omega) | simp) _ | with_reducible refine Below.alloc ?_ (by first | omega | (simp; omega) | simp) _ | with_reducible refine Below.trans ?_ (Below.mono (by with_reducible assumption) (by first | omega | (simp; omega) | simp))))
      generalize wr.alloc (.cells #[.int .i64 c.1, .int .i64 c.2.1, .int .i64 c.2.2] 116) = wx at hX0 hRX hSX hBX ⊢
      clear c0 c1 c2
      generalize wr.heap.size = bx at hX0 hsz hltS ⊢
      go_loopw [7, 27] (fun fi x w2 => ∃ m : Nat, m ≤ X.length - (i + 1) ∧ x = .int .i64 m ∧ Below w.heap.size w w2 ∧ w2.heap[w.heap.size]? = some (.cells #[.int .i64 0, .int .i64 0] 34 (0, 0)) ∧ w2.heap[bx]? = some (.cells #[.int .i64 c.1, .int .i64 c.2.1, .int .i64 c.2.2] 116 (0, 0)) ∧ ∃ MM : List (BD × BD), MM = P ++ ((X.drop (i + 1)).take m).map (fun v => (c, v)) ∧ fi = .bool MM.isEmpty ∧ w2.heap[w.heap.size + 1]? = some (.cells #[.int .i64 (mxl (MM.map (pLo s t))), .int .i64 (mnl (MM.map (pHi s t)))] 34 (0, 0))) (fun _ x _ => X.length - (i + 1) - (intOf x).toNat)
      case atStart => exact ⟨0, by omega, rfl, hBX, hRX, hX0, P, by simp, rfl, hSX⟩
      case round =>
        obtain ⟨m, hm, rfl, hb1, hR1, hX1, MM, hQe, rfl, hS1⟩ := hrel
        rcases Nat.lt_or_ge m (X.length - (i + 1)) with hml | hml
        · obtain ⟨d, hd⟩ := some_of' (l := X) (show i + 1 + m < X.length by omega)
          obtain ⟨d0, d1, d2⟩ := cB_at (cells_below (h4 (i + 1 + m) d hd) hb1)
          have he : o + (i + 1 + m) * 3 = o + (i + 1) * 3 + m * 3 := by omega
          rw [he] at d0 d1 d2
          obtain ⟨⟨dt1, dt2⟩, dl1, dl2, dl3⟩ := hK.out d (List.mem_of_getElem? hd)
          have hcd : c.1 < d.1 := hRr.out i (i + 1 + m) c d (by omega) hC.out hd
          have hoU := upL_ok (hK.out c (List.mem_of_getElem? hC.out)) (hK.out d (List.mem_of_getElem? hd)) hcd
          have hoL := loL_ok (hK.out c (List.mem_of_getElem? hC.out)) (hK.out d (List.mem_of_getElem? hd)) hcd
          have hdr : (X.drop (i + 1))[m]? = some d := by rw [List.getElem?_drop]; exact hd
          have hQ2 : P ++ ((X.drop (i + 1)).take (m + 1)).map (fun v => (c, v)) = MM ++ [(c, d)] := by
            rw [List.take_add_one, hdr, hQe]; simp
          have hQH := Lib.hid hQ2
          have us := Lib.hid (fun w => rthrough_up s c.1 c.2.1 d.1 d.2.2 hoU (by omega) dl3 dt2 s1 s2 w)
          have ut := Lib.hid (fun w => rthrough_up t c.1 c.2.1 d.1 d.2.2 hoU (by omega) dl3 dt2 t1 t2 w)
          have ds := Lib.hid (fun w => rthrough_down s c.1 c.2.2 d.1 d.2.1 hoL dl1 (by omega) dt2 s1 s2 w)
          have dt := Lib.hid (fun w => rthrough_down t c.1 c.2.2 d.1 d.2.1 hoL dl1 (by omega) dt2 t1 t2 w)
          have hpU := Lib.hid (show pHi s t (c, d) = if ceL (c.1, c.2.1, d.1 - c.1, d.2.2 - c.2.1) s < ceL (c.1, c.2.1, d.1 - c.1, d.2.2 - c.2.1) t then ceL (c.1, c.2.1, d.1 - c.1, d.2.2 - c.2.1) t else ceL (c.1, c.2.1, d.1 - c.1, d.2.2 - c.2.1) s from (hiP_ite s t (upL c d)).symm)
          have hpL := Lib.hid (show pLo s t (c, d) = if flL (c.1, c.2.2, d.1 - c.1, d.2.1 - c.2.2) t < flL (c.1, c.2.2, d.1 - c.1, d.2.1 - c.2.2) s then flL (c.1, c.2.2, d.1 - c.1, d.2.1 - c.2.2) t else flL (c.1, c.2.2, d.1 - c.1, d.2.1 - c.2.2) s from (loP_ite s t (loL c d)).symm)
          have hn2 : X.length - (i + 1) - (m + 1) < X.length - (i + 1) - m := by omega
          have hsz1 := hb1.size
          have hltX := (Array.getElem?_eq_some_iff.1 hX1).1
          have hltS1 := (Array.getElem?_eq_some_iff.1 hS1).1
          clear hd hQ2 hQe hdr hoU hoL he
          generalize ceL (c.1, c.2.1, d.1 - c.1, d.2.2 - c.2.1) s = us' at *
          generalize ceL (c.1, c.2.1, d.1 - c.1, d.2.2 - c.2.1) t = ut' at *
          generalize flL (c.1, c.2.2, d.1 - c.1, d.2.1 - c.2.2) s = ds' at *
          generalize flL (c.1, c.2.2, d.1 - c.1, d.2.1 - c.2.2) t = dt' at *
          go_wp2_with fail
          have hY := heap_new wr (.cells #[.int .i64 d.1, .int .i64 d.2.1, .int .i64 d.2.2] 116) rfl
          have hRY := heap_alloc (X := .cells #[.int .i64 d.1, .int .i64 d.2.1, .int .i64 d.2.2] 116) hR1
          have hXY := heap_alloc (X := .cells #[.int .i64 d.1, .int .i64 d.2.1, .int .i64 d.2.2] 116) hX1
          have hSY := heap_alloc (X := .cells #[.int .i64 d.1, .int .i64 d.2.1, .int .i64 d.2.2] 116) hS1
          have hBY : Below w.heap.size w (wr.alloc (.cells #[.int .i64 d.1, .int .i64 d.2.1, .int .i64 d.2.2] 116)) := (by repeat (first | with_reducible exact Below.refl _ _ | with_reducible assumption | with_reducible refine Below.drew ?_ | with_reducible refine Below.setCell ?_ (by first | omega | (simp; omega) | simp) _ | with_reducible refine Below.alloc ?_ (by first | omega | (simp; omega) | simp) _ | with_reducible refine Below.trans ?_ (Below.mono (by with_reducible assumption) (by first | omega | (simp; omega) | simp))))
          generalize wr.alloc (.cells #[.int .i64 d.1, .int .i64 d.2.1, .int .i64 d.2.2] 116) = wy at hY hRY hXY hSY hBY ⊢
          clear d0 d1 d2 hR1 hX1 hS1 hb1
          generalize wr.heap.size = by_ at hY hsz1 hltX hltS1 ⊢
          have x0 := cell_heap (o := 0) hXY rfl
          have x1 := cell_heap (o := 1) hXY rfl
          have y0 := cell_heap (o := 0) hY rfl
          have y2 := cell_heap (o := 2) hY rfl
          have hl := @Later.cell
          refine region_later (by kernel_rfl) (by kernel_rfl) ?_; (repeat (go_big_quiet_step (first | (go_at_call_of 110 (s); exact Calls.later (us.out _)) | (go_at_call_of 110 (t); exact Calls.later (ut.out _))))); refine wpQuiet_nil ?_; rintro _ ⟨x, rfl⟩; obtain ⟨w', hb⟩ := x; (try clear hc hf); (try clear hcM hfM); (try clear hcN hfN); (first | ((first | replace hB := Below.next hB (Nat.le_refl _) hb | replace hB := Below.next1 hB (Nat.le_refl _) hb | replace hB := Below.next2 hB (Nat.le_refl _) hb); (first | replace hM := Below.next hM (Nat.le_refl _) hb | replace hM := Below.next1 hM (Nat.le_refl _) hb | replace hM := Below.next2 hM (Nat.le_refl _) hb); (first | replace hN := Below.next hN (Nat.le_refl _) hb | replace hN := Below.next1 hN (Nat.le_refl _) hb | replace hN := Below.next2 hN (Nat.le_refl _) hb)) | ((first | replace hB := Below.next hB (Nat.le_refl _) hb | replace hB := Below.next1 hB (Nat.le_refl _) hb | replace hB := Below.next2 hB (Nat.le_refl _) hb); (first | replace hM := Below.next hM (Nat.le_refl _) hb | replace hM := Below.next1 hM (Nat.le_refl _) hb | replace hM := Below.next2 hM (Nat.le_refl _) hb); have hN := Below.mid hb) | ((first | replace hB := Below.next hB (Nat.le_refl _) hb | replace hB := Below.next1 hB (Nat.le_refl _) hb | replace hB := Below.next2 hB (Nat.le_refl _) hb); (first | replace hM := Below.next hM (Nat.le_refl _) hb | replace hM := Below.next1 hM (Nat.le_refl _) hb | replace hM := Below.next2 hM (Nat.le_refl _) hb)) | ((first | replace hB := Below.next hB (Nat.le_refl _) hb | replace hB := Below.next1 hB (Nat.le_refl _) hb | replace hB := Below.next2 hB (Nat.le_refl _) hb); have hM := Below.mid hb) | (first | replace hB := Below.next hB (Nat.le_refl _) hb | replace hB := Below.next1 hB (Nat.le_refl _) hb | replace hB := Below.next2 hB (Nat.le_refl _) hb) | have hB := hb); obtain ⟨hc, hf, hz⟩ := after hB; (try (have hq := after hM; obtain ⟨hcM, hfM, hzM⟩ := hq)); (try (have hq := after hN; obtain ⟨hcN, hfN, hzN⟩ := hq)); have hs := hb.size; (try simp at hz); (try simp at hs)
          dsimp only
          rw [← hpU.out]
          generalize hpu : pHi s t (c, d) = hi' at *
          have hpU1 := Lib.hid hpu
          clear hpu
          have hB9 := Below.next hBY (Nat.le_refl _) hb
          replace hRY := heap_old hb hRY
          replace hXY := heap_old hb hXY
          replace hSY := heap_old hb hSY
          replace hY := heap_old hb hY
          clear x0 x1 y0 y2 hb hBY
          generalize w' = wz at *
          have x0 := cell_heap (o := 0) hXY rfl
          have x2 := cell_heap (o := 2) hXY rfl
          have y0 := cell_heap (o := 0) hY rfl
          have y1 := cell_heap (o := 1) hY rfl
          go_wp2_with fail
          have hl := @Later.cell
          refine region_later (by kernel_rfl) (by kernel_rfl) ?_; (repeat (go_big_quiet_step (first | (go_at_call_of 110 (s); exact Calls.later (ds.out _)) | (go_at_call_of 110 (t); exact Calls.later (dt.out _))))); refine wpQuiet_nil ?_; rintro _ ⟨x, rfl⟩; obtain ⟨w', hb⟩ := x; (try clear hc hf); (try clear hcM hfM); (try clear hcN hfN); (first | ((first | replace hB := Below.next hB (Nat.le_refl _) hb | replace hB := Below.next1 hB (Nat.le_refl _) hb | replace hB := Below.next2 hB (Nat.le_refl _) hb); (first | replace hM := Below.next hM (Nat.le_refl _) hb | replace hM := Below.next1 hM (Nat.le_refl _) hb | replace hM := Below.next2 hM (Nat.le_refl _) hb); (first | replace hN := Below.next hN (Nat.le_refl _) hb | replace hN := Below.next1 hN (Nat.le_refl _) hb | replace hN := Below.next2 hN (Nat.le_refl _) hb)) | ((first | replace hB := Below.next hB (Nat.le_refl _) hb | replace hB := Below.next1 hB (Nat.le_refl _) hb | replace hB := Below.next2 hB (Nat.le_refl _) hb); (first | replace hM := Below.next hM (Nat.le_refl _) hb | replace hM := Below.next1 hM (Nat.le_refl _) hb | replace hM := Below.next2 hM (Nat.le_refl _) hb); have hN := Below.mid hb) | ((first | replace hB := Below.next hB (Nat.le_refl _) hb | replace hB := Below.next1 hB (Nat.le_refl _) hb | replace hB := Below.next2 hB (Nat.le_refl _) hb); (first | replace hM := Below.next hM (Nat.le_refl _) hb | replace hM := Below.next1 hM (Nat.le_refl _) hb | replace hM := Below.next2 hM (Nat.le_refl _) hb)) | ((first | replace hB := Below.next hB (Nat.le_refl _) hb | replace hB := Below.next1 hB (Nat.le_refl _) hb | replace hB := Below.next2 hB (Nat.le_refl _) hb); have hM := Below.mid hb) | (first | replace hB := Below.next hB (Nat.le_refl _) hb | replace hB := Below.next1 hB (Nat.le_refl _) hb | replace hB := Below.next2 hB (Nat.le_refl _) hb) | have hB := hb); obtain ⟨hc, hf, hz⟩ := after hB; (try (have hq := after hM; obtain ⟨hcM, hfM, hzM⟩ := hq)); (try (have hq := after hN; obtain ⟨hcN, hfN, hzN⟩ := hq)); have hs := hb.size; (try simp at hz); (try simp at hs)
          dsimp only
          rw [← hpL.out]
          generalize hpl : pLo s t (c, d) = lo' at *
          have hpL1 := Lib.hid hpl
          clear hpl
          have hB8 := Below.next hB9 (Nat.le_refl _) hb
          replace hRY := heap_old hb hRY
          replace hXY := heap_old hb hXY
          replace hSY := heap_old hb hSY
          clear x0 x2 y0 y1 hb hB9 hY
          generalize w' = wv at *
          have hlR := (Array.getElem?_eq_some_iff.1 hRY).1
          have r0 := cell_heap (o := 0) hSY rfl
          have r1 := cell_heap (o := 1) hSY rfl
          have z0 := frozen_heap (o := 0) hSY
          have z1 := frozen_heap (o := 1) hSY
          by_cases hQe : MM = []
          · subst hQe
            have hS5 := heap_set (o := 1) (v := .int .i64 hi') (heap_set (o := 0) (v := .int .i64 lo') hSY)
            simp only [List.setIfInBounds_toArray, List.set_cons_succ, List.set_cons_zero] at hS5
            go_wp2_with fail
            refine ⟨⟨m + 1, hml, by simp, (by repeat (first | with_reducible exact Below.refl _ _ | with_reducible assumption | with_reducible refine Below.drew ?_ | with_reducible refine Below.setCell ?_ (by first | omega | (simp; omega) | simp) _ | with_reducible refine Below.alloc ?_ (by first | omega | (simp; omega) | simp) _ | with_reducible refine Below.trans ?_ (Below.mono (by with_reducible assumption) (by first | omega | (simp; omega) | simp)))), heap_set_other (heap_set_other hRY (by omega)) (by omega), heap_set_other (heap_set_other hXY (by omega)) (by omega), [(c, d)], by rw [hQH.out]; rfl, rfl, ?_⟩, by simpa [intOf] using hn2⟩
            simpa [mxl, mnl, hpL1.out, hpU1.out] using hS5
          · have hne : MM.isEmpty = false := by simpa using hQe
            have e1 := Lib.hid (mxl_push (l := MM.map (pLo s t)) (by simpa using hQe) lo')
            have e2 := Lib.hid (mnl_push (l := MM.map (pHi s t)) (by simpa using hQe) hi')
            have hQx := Lib.hid hQe
            clear hQe
            generalize MM.isEmpty = fb at *
            subst hne
            generalize mxl (MM.map (pLo s t)) = A at *
            generalize mnl (MM.map (pHi s t)) = B at *
            go_wp2_with fail
            all_goals
              refine ⟨⟨m + 1, hml, by simp, (by repeat (first | with_reducible exact Below.refl _ _ | with_reducible assumption | with_reducible refine Below.drew ?_ | with_reducible refine Below.setCell ?_ (by first | omega | (simp; omega) | simp) _ | with_reducible refine Below.alloc ?_ (by first | omega | (simp; omega) | simp) _ | with_reducible refine Below.trans ?_ (Below.mono (by with_reducible assumption) (by first | omega | (simp; omega) | simp)))), heap_set_other (heap_set_other hRY (by omega)) (by omega), heap_set_other (heap_set_other hXY (by omega)) (by omega), MM ++ [(c, d)], hQH.out.symm, by simp, ?_⟩, by simpa [intOf] using hn2⟩
              rw [List.map_append, List.map_append, List.map_cons, List.map_cons, List.map_nil, List.map_nil, hpL1.out, hpU1.out, e1.out, e2.out]
              rw [← ite_max, ← ite_min]
              have hS5 := heap_set (o := 1) (v := .int .i64 (if hi' < B then hi' else B)) (heap_set (o := 0) (v := .int .i64 (if A < lo' then lo' else A)) hSY)
              simp only [List.setIfInBounds_toArray, List.set_cons_succ, List.set_cons_zero] at hS5
              exact hS5
        · obtain rfl : m = X.length - (i + 1) := by omega
          have hQ3 : MM = prsR X (i + 1) := by rw [hQe, hN.out, hPH.out, List.take_of_length_le (by rw [List.length_drop]; omega)]
          have hQ3H := Lib.hid hQ3
          clear hQ3 hQe
          go_wp2_with fail
          exact ⟨⟨i + 1, hlt, by simp, hb1, hR1, MM, hQ3H.out, rfl, hS1⟩, by simpa [intOf] using hn⟩
    · obtain rfl : i = X.length := by omega
      have e1 : mxl (P.map (pLo s t)) = A0 := by rw [hLR.out, hPH.out]; rfl
      have e2 : mnl (P.map (pHi s t)) = B0 := by rw [hHR.out, hPH.out]; rfl
      rw [e1, e2] at hS0
      clear e1 e2
      have r0 := cell_heap (o := 0) hR0 rfl
      have r1 := cell_heap (o := 1) hR0 rfl
      have s0 := cell_heap (o := 0) hS0 rfl
      have s1 := cell_heap (o := 1) hS0 rfl
      have z0 := frozen_heap (o := 0) hR0
      have z1 := frozen_heap (o := 1) hR0
      go_wp2_with fail
      have hE := heap_set (o := 1) (v := .int .i64 B0) (heap_set (o := 0) (v := .int .i64 A0) hR0)
      simp only [List.setIfInBounds_toArray, List.set_cons_succ, List.set_cons_zero] at hE
      have k0 := cell_heap (o := 0) hE rfl
      have k1 := cell_heap (o := 1) hE rfl
      refine bodyPost_ret (v := .agg #[.int .i64 A0, .int .i64 B0]) (by simp only [results, Try.results73]; go_simp) rfl ⟨rfl, (by repeat (first | with_reducible exact Below.refl _ _ | with_reducible assumption | with_reducible refine Below.drew ?_ | with_reducible refine Below.setCell ?_ (by first | omega | (simp; omega) | simp) _ | with_reducible refine Below.alloc ?_ (by first | omega | (simp; omega) | simp) _ | with_reducible refine Below.trans ?_ (Below.mono (by with_reducible assumption) (by first | omega | (simp; omega) | simp))))⟩
end Go.Proofs.Ytmdledlbkdcmnaa

/-
  Contract of the reference's Lines.
  Conditions: none.
-/
namespace Go.Proofs.Ytmdledlbkdcmnaa
open Go.RowKit
theorem linE_alt (l : List SN) (ax t : Int) : linE l ax t = if bndE l ax ≠ 0 then bndE l ax else if t < (lastB (bnds ax (bhdL l))).1 ∨ (lastB (bnds ax (bhdL l))).1 + 400 < t then 2 else if fitsB (bnds ax (bhdL l)) = true then 0 else 13 := by
  unfold linE bndE
  by_cases h : ax < 0 ∨ 2 < ax
  · simp [h]
  · simp only [if_neg h]
theorem bndE_ok {l : List SN} {ax : Int} (h : bndE l ax = 0) : (0 ≤ ax ∧ ax ≤ 2) ∧ behE l = 0 := by
  unfold bndE at h
  split at h
  · omega
  · exact ⟨by omega, h⟩
set_option maxRecDepth 100000 in
set_option maxHeartbeats 4000000 in
theorem rlines_any (v : Value) (l : List SN) (ax t : Int) (w : World) (h : Seens w v l) : Calls Try.prog 31 #[v, .int .i64 ax, .int .i64 t] w fun e w' => e = .returned (linV l ax t) ∧ Below w.heap.size w w' := by
  by_cases hb : bndE l ax = 0
  · obtain ⟨⟨x1, x2⟩, hbe⟩ := bndE_ok hb
    have hbl := (behE_len hbe).2
    have hrs := Lib.hid (bnds_rise ax l)
    have hbo := Lib.hid (bnds_ok (ax := ax) (l := l))
    have hX64 := bnds_small ax l
    have hXl := bnds_len ax (bhdL l)
    obtain ⟨n, hn⟩ : ∃ n, (bnds ax (bhdL l)).length = n + 1 := ⟨(bhdL l).length - 1, by omega⟩
    obtain ⟨s, hs⟩ := some_of' (l := bnds ax (bhdL l)) (i := n) (by omega)
    have hlast : lastB (bnds ax (bhdL l)) = s := lastB_some (by rw [hn]; simpa using hs)
    obtain ⟨⟨s1, s2⟩, _⟩ := hbo.out s (List.mem_of_getElem? hs)
    have hbd := Lib.hid (fun w' (h : Seens w' v l) => by have := rbounds_any v l ax w' h; rwa [hb] at this)
    have hX2 : 2 ≤ (bnds ax (bhdL l)).length := by omega
    have hLE := linE_alt l ax t
    rw [if_neg (by simp [hb]), hlast] at hLE
    have hS := Lib.hid hs
    by_cases ht : t < s.1 ∨ s.1 + 400 < t
    · rw [if_pos ht] at hLE
      rw [linV_bad hLE (by omega)]
      clear hs hlast hb hbe hLE hXl
      generalize bnds ax (bhdL l) = X at *
      go_enter Try.func31, Try.ntmps31
      go_wp2_with (go_at_call 71; refine (hbd.out _ (h.below (by repeat (first | with_reducible exact Below.refl _ _ | with_reducible assumption | with_reducible refine Below.drew ?_ | with_reducible refine Below.setCell ?_ (by first | omega | (simp; omega) | simp) _ | with_reducible refine Below.alloc ?_ (by first | omega | (simp; omega) | simp) _ | with_reducible refine Below.trans ?_ (Below.mono (by with_reducible assumption) (by first | omega | (simp; omega) | simp)))))).mono ?_; rintro e w1 ⟨u, rfl, hu, hb1⟩; have hx := hu (by first | rfl | trivial); have hx1 := hx; obtain ⟨pa, b, o, cap, rfl, g1, g2, g3, g4⟩ := hx1; clear hu; have hB1 : Below w.heap.size w w1 := Below.next1 (Below.refl _ _) (Nat.le_refl _) hb1; obtain rfl := g1 (by omega); obtain ⟨c0, c1, c2⟩ := cB_at (g4 n s hS.out); have hR := heap_old hb1 (heap_new w (.cells #[.int .i64 0, .int .i64 0] 34) rfl); have r0 := cell_heap (o := 0) hR rfl; have r1 := cell_heap (o := 1) hR rfl; have z0 := frozen_heap (o := 0) hR; have z1 := frozen_heap (o := 1) hR; clear g4 hb1; rw [hn] at g2 hx ⊢)
      all_goals
        have hE := heap_set (o := 1) (v := .int .i64 0) (heap_set (o := 0) (v := .int .i64 0) hR); simp only [List.setIfInBounds_toArray, List.set_cons_succ, List.set_cons_zero] at hE; have k0 := cell_heap (o := 0) hE rfl; have k1 := cell_heap (o := 1) hE rfl
        refine bodyPost_ret (v := .tuple #[.agg #[.int .i64 0, .int .i64 0], .int .i64 2]) (by simp only [results, Try.results31]; go_simp) rfl ⟨rfl, (by repeat (first | with_reducible exact Below.refl _ _ | with_reducible assumption | with_reducible refine Below.drew ?_ | with_reducible refine Below.setCell ?_ (by first | omega | (simp; omega) | simp) _ | with_reducible refine Below.alloc ?_ (by first | omega | (simp; omega) | simp) _ | with_reducible refine Below.trans ?_ (Below.mono (by with_reducible assumption) (by first | omega | (simp; omega) | simp))))⟩
    · rw [if_neg ht] at hLE
      obtain ⟨ht1, ht2⟩ : s.1 ≤ t ∧ t ≤ s.1 + 400 := by omega
      by_cases hf : fitsB (bnds ax (bhdL l)) = true
      · rw [if_pos hf] at hLE
        have e1 : linV l ax t = .tuple #[.agg #[.int .i64 (loR (bnds ax (bhdL l)) t t), .int .i64 (hiR (bnds ax (bhdL l)) t t)], .int .i64 0] := by
          unfold linV linLo linHi; rw [hLE]; rfl
        rw [e1]
        clear hs hlast hb hbe hLE hXl e1 ht
        generalize bnds ax (bhdL l) = X at *
        have hfit := Lib.hid (fun w' u (h : Bnds w' u X) => by have := rpossible_any u X w' h hbo.out (by omega); rwa [hf] at this)
        have hbt := Lib.hid (fun w' u (h : Bnds w' u X) => rbetw_any u X t t w' h hbo.out hrs.out hX64 (by omega) (by omega) (by omega) (by omega))
        clear hf
        generalize loR X t t = A at *
        generalize hiR X t t = B at *
        go_enter Try.func31, Try.ntmps31
        go_wp2_with (first
          | (go_at_call 71; refine (hbd.out _ (h.below (by repeat (first | with_reducible exact Below.refl _ _ | with_reducible assumption | with_reducible refine Below.drew ?_ | with_reducible refine Below.setCell ?_ (by first | omega | (simp; omega) | simp) _ | with_reducible refine Below.alloc ?_ (by first | omega | (simp; omega) | simp) _ | with_reducible refine Below.trans ?_ (Below.mono (by with_reducible assumption) (by first | omega | (simp; omega) | simp)))))).mono ?_; rintro e w1 ⟨u, rfl, hu, hb1⟩; have hx := hu (by first | rfl | trivial); have hx1 := hx; obtain ⟨pa, b, o, cap, rfl, g1, g2, g3, g4⟩ := hx1; clear hu; have hB1 : Below w.heap.size w w1 := Below.next1 (Below.refl _ _) (Nat.le_refl _) hb1; obtain rfl := g1 (by omega); obtain ⟨c0, c1, c2⟩ := cB_at (g4 n s hS.out); have hR := heap_old hb1 (heap_new w (.cells #[.int .i64 0, .int .i64 0] 34) rfl); have r0 := cell_heap (o := 0) hR rfl; have r1 := cell_heap (o := 1) hR rfl; have z0 := frozen_heap (o := 0) hR; have z1 := frozen_heap (o := 1) hR; clear g4 hb1; rw [hn] at g2 hx ⊢)
          | (go_at_call 72; refine (hfit.out _ _ hx).mono ?_; rintro e w3 ⟨rfl, hb3⟩; have hB3 := Below.next hB1 (Nat.le_refl _) hb3; replace hR := heap_old hb3 hR; replace hx := hx.below hb3; clear hb3; (clear r0 r1 z0 z1; have r0 := cell_heap (o := 0) hR rfl; have r1 := cell_heap (o := 1) hR rfl; have z0 := frozen_heap (o := 0) hR; have z1 := frozen_heap (o := 1) hR))
          | (go_at_call 73; refine (hbt.out _ _ hx).mono ?_; rintro e w5 ⟨rfl, hb5⟩; have hB5 := Below.next hB3 (Nat.le_refl _) hb5; replace hR := heap_old hb5 hR; (clear r0 r1 z0 z1; have r0 := cell_heap (o := 0) hR rfl; have r1 := cell_heap (o := 1) hR rfl; have z0 := frozen_heap (o := 0) hR; have z1 := frozen_heap (o := 1) hR)))
        have hE := heap_set (o := 1) (v := .int .i64 B) (heap_set (o := 0) (v := .int .i64 A) hR)
        simp only [List.setIfInBounds_toArray, List.set_cons_succ, List.set_cons_zero] at hE
        have k0 := cell_heap (o := 0) hE rfl
        have k1 := cell_heap (o := 1) hE rfl
        refine bodyPost_ret (v := .tuple #[.agg #[.int .i64 A, .int .i64 B], .int .i64 0]) (by simp only [results, Try.results31]; go_simp) rfl ⟨rfl, (by repeat (first | with_reducible exact Below.refl _ _ | with_reducible assumption | with_reducible refine Below.drew ?_ | with_reducible refine Below.setCell ?_ (by first | omega | (simp; omega) | simp) _ | with_reducible refine Below.alloc ?_ (by first | omega | (simp; omega) | simp) _ | with_reducible refine Below.trans ?_ (Below.mono (by with_reducible assumption) (by first | omega | (simp; omega) | simp))))⟩
      · rw [if_neg hf] at hLE
        rw [linV_bad hLE (by omega)]
        have hf' : fitsB (bnds ax (bhdL l)) = false := by simpa using hf
        clear hs hlast hb hbe hLE hXl ht hf
        generalize bnds ax (bhdL l) = X at *
        have hfit := Lib.hid (fun w' u (h : Bnds w' u X) => by have := rpossible_any u X w' h hbo.out (by omega); rwa [hf'] at this)
        clear hf'
        go_enter Try.func31, Try.ntmps31
        go_wp2_with (first
          | (go_at_call 71; refine (hbd.out _ (h.below (by repeat (first | with_reducible exact Below.refl _ _ | with_reducible assumption | with_reducible refine Below.drew ?_ | with_reducible refine Below.setCell ?_ (by first | omega | (simp; omega) | simp) _ | with_reducible refine Below.alloc ?_ (by first | omega | (simp; omega) | simp) _ | with_reducible refine Below.trans ?_ (Below.mono (by with_reducible assumption) (by first | omega | (simp; omega) | simp)))))).mono ?_; rintro e w1 ⟨u, rfl, hu, hb1⟩; have hx := hu (by first | rfl | trivial); have hx1 := hx; obtain ⟨pa, b, o, cap, rfl, g1, g2, g3, g4⟩ := hx1; clear hu; have hB1 : Below w.heap.size w w1 := Below.next1 (Below.refl _ _) (Nat.le_refl _) hb1; obtain rfl := g1 (by omega); obtain ⟨c0, c1, c2⟩ := cB_at (g4 n s hS.out); have hR := heap_old hb1 (heap_new w (.cells #[.int .i64 0, .int .i64 0] 34) rfl); have r0 := cell_heap (o := 0) hR rfl; have r1 := cell_heap (o := 1) hR rfl; have z0 := frozen_heap (o := 0) hR; have z1 := frozen_heap (o := 1) hR; clear g4 hb1; rw [hn] at g2 hx ⊢)
          | (go_at_call 72; refine (hfit.out _ _ hx).mono ?_; rintro e w3 ⟨rfl, hb3⟩; have hB3 := Below.next hB1 (Nat.le_refl _) hb3; replace hR := heap_old hb3 hR; clear hb3; (clear r0 r1 z0 z1; have r0 := cell_heap (o := 0) hR rfl; have r1 := cell_heap (o := 1) hR rfl; have z0 := frozen_heap (o := 0) hR; have z1 := frozen_heap (o := 1) hR)))
        have hE := heap_set (o := 1) (v := .int .i64 0) (heap_set (o := 0) (v := .int .i64 0) hR); simp only [List.setIfInBounds_toArray, List.set_cons_succ, List.set_cons_zero] at hE; have k0 := cell_heap (o := 0) hE rfl; have k1 := cell_heap (o := 1) hE rfl
        refine bodyPost_ret (v := .tuple #[.agg #[.int .i64 0, .int .i64 0], .int .i64 13]) (by simp only [results, Try.results31]; go_simp) rfl ⟨rfl, (by repeat (first | with_reducible exact Below.refl _ _ | with_reducible assumption | with_reducible refine Below.drew ?_ | with_reducible refine Below.setCell ?_ (by first | omega | (simp; omega) | simp) _ | with_reducible refine Below.alloc ?_ (by first | omega | (simp; omega) | simp) _ | with_reducible refine Below.trans ?_ (Below.mono (by with_reducible assumption) (by first | omega | (simp; omega) | simp))))⟩
  · have hLE := linE_alt l ax t
    rw [if_pos hb] at hLE
    rw [linV_bad hLE hb]
    have hbd := Lib.hid (fun w' (h : Seens w' v l) => rbounds_any v l ax w' h)
    have hb' : (bndE l ax != 0) = true := by simpa using hb
    clear hLE hb
    generalize bndE l ax = E at *
    go_enter Try.func31, Try.ntmps31
    go_wp2_with (go_at_call 71; refine (hbd.out _ (h.below (by repeat (first | with_reducible exact Below.refl _ _ | with_reducible assumption | with_reducible refine Below.drew ?_ | with_reducible refine Below.setCell ?_ (by first | omega | (simp; omega) | simp) _ | with_reducible refine Below.alloc ?_ (by first | omega | (simp; omega) | simp) _ | with_reducible refine Below.trans ?_ (Below.mono (by with_reducible assumption) (by first | omega | (simp; omega) | simp)))))).mono ?_; rintro e w1 ⟨u, rfl, hu, hb1⟩; clear hu; have hB1 : Below w.heap.size w w1 := Below.next1 (Below.refl _ _) (Nat.le_refl _) hb1; have hR := heap_old hb1 (heap_new w (.cells #[.int .i64 0, .int .i64 0] 34) rfl); have r0 := cell_heap (o := 0) hR rfl; have r1 := cell_heap (o := 1) hR rfl; have z0 := frozen_heap (o := 0) hR; have z1 := frozen_heap (o := 1) hR)
    have hE := heap_set (o := 1) (v := .int .i64 0) (heap_set (o := 0) (v := .int .i64 0) hR); simp only [List.setIfInBounds_toArray, List.set_cons_succ, List.set_cons_zero] at hE; have k0 := cell_heap (o := 0) hE rfl; have k1 := cell_heap (o := 1) hE rfl
    refine bodyPost_ret (v := .tuple #[.agg #[.int .i64 0, .int .i64 0], .int .i64 E]) (by simp only [results, Try.results31]; go_simp) rfl ⟨rfl, (by repeat (first | with_reducible exact Below.refl _ _ | with_reducible assumption | with_reducible refine Below.drew ?_ | with_reducible refine Below.setCell ?_ (by first | omega | (simp; omega) | simp) _ | with_reducible refine Below.alloc ?_ (by first | omega | (simp; omega) | simp) _ | with_reducible refine Below.trans ?_ (Below.mono (by with_reducible assumption) (by first | omega | (simp; omega) | simp))))⟩
end Go.Proofs.Ytmdledlbkdcmnaa
