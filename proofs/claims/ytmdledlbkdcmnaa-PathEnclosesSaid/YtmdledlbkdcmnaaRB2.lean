/-
  Contract of the reference's Bounds for Z.
  Conditions: none.
-/
import Derived.Test.YtmdledlbkdcmnaaRB1
namespace Go.Proofs.Ytmdledlbkdcmnaa
open Go.RowKit
set_option linter.unusedSimpArgs false
set_option maxRecDepth 100000 in
set_option maxHeartbeats 4000000 in
theorem rbounds2 (v : Value) (l : List SN) (w : World) (h : Seens w v l) (hc : chkE l = 0) : Calls Try.prog 71 #[v, .int .i64 2] w fun e w' => ∃ u, e = .returned (.tuple #[u, .int .i64 (behE l)]) ∧ (behE l = 0 → Bnds w' u (bnds 2 (bhdL l))) ∧ Below w.heap.size w w' := by
  obtain ⟨i0, hi0, hz0, hz1, hz2⟩ := info_parts (P := Try.prog) (e := 116) (z := zeroB) (size := 3) (bytes := 24) (by kernel_rfl)
  have hck := Lib.hid (fun w' (h : Seens w' v l) => by have := rcheck_any v l w' h; rwa [hc] at this)
  have hbh := Lib.hid (fun w' (h : Seens w' v l) => rbehind_any v l w' h)
  have hok := Lib.hid (bhd_ok (l := l))
  have hl64 := bhd_len l
  have hES := Lib.hid (behE_short hc)
  have hEL := Lib.hid (behE_long hc)
  clear hc
  generalize behE l = E at *
  generalize hq : bhdL l = S at *
  clear hq
  go_enter Try.func71, Try.ntmps71
  go_wp2_with (first
    | (go_at_call 96; refine (hck.out _ (h.below (by repeat (first | with_reducible exact Below.refl _ _ | with_reducible assumption | with_reducible refine Below.drew ?_ | with_reducible refine Below.setCell ?_ (by first | omega | (simp; omega) | simp) _ | with_reducible refine Below.alloc ?_ (by first | omega | (simp; omega) | simp) _ | with_reducible refine Below.trans ?_ (Below.mono (by with_reducible assumption) (by first | omega | (simp; omega) | simp)))))).mono ?_; rintro e w1 ⟨⟨k0, rfl⟩, hb1⟩)
    | (go_at_call 97; refine (hbh.out _ ((h.below (by repeat (first | with_reducible exact Below.refl _ _ | with_reducible assumption | with_reducible refine Below.drew ?_ | with_reducible refine Below.setCell ?_ (by first | omega | (simp; omega) | simp) _ | with_reducible refine Below.alloc ?_ (by first | omega | (simp; omega) | simp) _ | with_reducible refine Below.trans ?_ (Below.mono (by with_reducible assumption) (by first | omega | (simp; omega) | simp))))).below hb1)).mono ?_; rintro e w2 ⟨u, rfl, hs2, hb2⟩; have hB2 : Below w.heap.size w w2 := Below.next hb1 (Nat.le_refl _) hb2; obtain ⟨pa, b, o, cap, rfl, h1, h2, h3, h4⟩ := hs2; clear hb1 hb2))
  have hcap : cap ≤ 9223372036854775807 := by unfold maxLen at h3; omega
  go_loopw [8, 29] (fun u x wr => ∃ k : Nat, k ≤ S.length ∧ x = .int .i64 k ∧ Below w2.heap.size w2 wr ∧ wr.ownsRow w2.heap.size 116 3 u ((bnds 2 S).take k).length (((bnds 2 S).take k).flatMap cB)) (fun _ x _ => S.length - (intOf x).toNat)
  case atStart => exact ⟨0, by omega, rfl, Below.refl _ _, by simpa using World.ownsRow_nil _ _ _ _⟩
  case round =>
    obtain ⟨k, hk, rfl, hb0, hO⟩ := hrel
    have hlenk : ((bnds 2 S).take k).length = k := by rw [List.length_take, bnds_len]; omega
    have hsz := hb0.size
    rcases Nat.lt_or_ge k S.length with hlt | hge
    · obtain rfl := h1 (by omega)
      obtain ⟨s, hs⟩ : ∃ s, S[k]? = some s := ⟨_, List.getElem?_eq_getElem hlt⟩
      obtain ⟨c0, c1, c2, c3, c4⟩ := (h4 k s hs).below hb0
      obtain ⟨⟨a1, a2⟩, ⟨a3, a4⟩, ⟨a5, a6⟩, ⟨a7, a8⟩, a9, a10⟩ := okS_iff.1 (hok.out s (List.mem_of_getElem? hs))
      have hTT := Lib.hid (take_map_next (bndS 2) hs)
      have hn : S.length - (k + 1) < S.length - k := by omega
      clear hs
      unfold bnds at *
      generalize (S.map (bndS 2)).take k = P at *
      go_wp2_with fail
      have hS : ((wr.alloc (.cells #[.int .i64 s.1, .int .i64 s.2.1, .int .i64 s.2.2.1, .int .i64 s.2.2.2.1, .int .i64 s.2.2.2.2] 38)).alloc (.cells #[.int .i64 s.1, .int .i64 (s.2.1 - s.2.2.2.2), .int .i64 (s.2.1 + s.2.2.2.2)] 116)).heap[wr.heap.size]? = some (.cells #[.int .i64 s.1, .int .i64 s.2.1, .int .i64 s.2.2.1, .int .i64 s.2.2.2.1, .int .i64 s.2.2.2.2] 38) := heap_alloc (heap_new wr _ rfl)
      have hBn := heap_new (wr.alloc (.cells #[.int .i64 s.1, .int .i64 s.2.1, .int .i64 s.2.2.1, .int .i64 s.2.2.2.1, .int .i64 s.2.2.2.2] 38)) (.cells #[.int .i64 s.1, .int .i64 (s.2.1 - s.2.2.2.2), .int .i64 (s.2.1 + s.2.2.2.2)] 116) (b := wr.heap.size + 1) (by simp)
      apply region_gen 17 [] [0, 1, 2, 3, 4, 5, 6, 7, 8, 9, 10, 11, 12, 13, 14, 15, 16] [17, 18, 19]; (case hm => kernel_rfl); (case hS => rfl); (case hF => kernel_rfl); (case hB => kernel_rfl); (case hQ => exact fun _ _ _ _ _ h => h); (case f => (exact rfl)); (case hz => exact rfl); (case h => (intro LQ hLQ W1 hW1; have hS1 := heap_old hW1 hS; have d0 := cell_heap (o := 0) hS1 rfl; have d3 := cell_heap (o := 3) hS1 rfl; have d4 := cell_heap (o := 4) hS1 rfl; simp only [pickO, List.drop_succ_cons, List.drop_zero, List.take_succ_cons, List.take_zero, List.cons_append, List.nil_append, List.append_nil, Act.put, List.setIfInBounds_toArray, List.set_cons_succ, List.set_cons_zero]; have hl := @Later.cell; (repeat (go_big_quiet_step ((go_at_call 108; exact Calls.later_same (rraise_any _ _ _))))); exact wpQuiet_nil hLQ)); (intro W2 hW2; simp only [pickO, List.drop_succ_cons, List.drop_zero, List.take_succ_cons, List.take_zero, List.cons_append, List.nil_append, List.append_nil, Act.put, List.setIfInBounds_toArray, List.set_cons_succ, List.set_cons_zero])
      have hB2 := heap_old hW2 hBn
      have e0 := cell_heap (o := 0) hB2 rfl
      have e1 := cell_heap (o := 1) hB2 rfl
      have e2 := cell_heap (o := 2) hB2 rfl
      have f1 := frozen_heap (o := 1) hB2
      have f2 := frozen_heap (o := 2) hB2
      have hK2 : Below wr.heap.size wr W2 := Below.trans (by repeat (first | with_reducible exact Below.refl _ _ | with_reducible assumption | with_reducible refine Below.drew ?_ | with_reducible refine Below.setCell ?_ (by first | omega | (simp; omega) | simp) _ | with_reducible refine Below.alloc ?_ (by first | omega | (simp; omega) | simp) _ | with_reducible refine Below.trans ?_ (Below.mono (by with_reducible assumption) (by first | omega | (simp; omega) | simp)))) (hW2.mono (by simp; omega))
      have hsz2 := hK2.size
      have hlt2 := (Array.getElem?_eq_some_iff.1 hB2).1
      go_wp2_with (at_builtin; refine wpList_append_own _ rfl _ _ 112 rfl w2.heap.size 116 i0 zeroB 3 24 Try.underlying112 hi0 hz0 hz1 hz2 rfl (by decide) _ _ _ rfl (own_below hO (by repeat (first | with_reducible exact Below.refl _ _ | with_reducible assumption | with_reducible refine Below.drew ?_ | with_reducible refine Below.setCell ?_ (by first | omega | (simp; omega) | simp) _ | with_reducible refine Below.alloc ?_ (by first | omega | (simp; omega) | simp) _ | with_reducible refine Below.trans ?_ (Below.mono (by with_reducible assumption) (by first | omega | (simp; omega) | simp))))) ⟨_, 0, none⟩ 1 1 (cB (bZ s)) rfl rfl ?_ (cB_one _) (by unfold maxLen; omega) (by omega) (by simp; omega) ?_; rotate_left; intro u' w5 ho5 hg5 hnil5; have hB5 : Below w2.heap.size w2 w5 := Below.grown (by repeat (first | with_reducible exact Below.refl _ _ | with_reducible assumption | with_reducible refine Below.drew ?_ | with_reducible refine Below.setCell ?_ (by first | omega | (simp; omega) | simp) _ | with_reducible refine Below.alloc ?_ (by first | omega | (simp; omega) | simp) _ | with_reducible refine Below.trans ?_ (Below.mono (by with_reducible assumption) (by first | omega | (simp; omega) | simp)))) hg5 (by simp; omega) (fun q hq => by have := (hO.lt q hq).1; omega))
      · refine ⟨⟨k + 1, hlt, by simp, hB5, ?_⟩, by simpa [intOf] using hn⟩
        rw [hTT.out]; exact own_push ho5
      · exact cells_here (heap_new _ (.cells (cB (bZ s)).toArray 116) (by simp))
    · obtain rfl : k = S.length := by omega
      rw [bnds_take (Nat.le_refl _)] at hO
      clear hlenk
      have hH := held_own cB_len hO
      obtain ⟨pp, cp, rfl⟩ := own_slice hO
      have hbl := bnds_len 2 S
      rw [hbl] at hH ⊢
      by_cases h2 : S.length < 2
      · have e1 := Lib.hid (hES.out h2)
        go_wp2_with fail
        go_ret2
        exact ⟨_, ret_e e1.out.symm, fun e => by rw [e1.out] at e; omega, Below.next hB2 (Nat.le_refl _) hb0⟩
      · have e1 := Lib.hid (hEL.out h2)
        go_wp2_with fail
        go_ret2
        exact ⟨_, ret_e e1.out.symm, fun _ => hH, Below.next hB2 (Nat.le_refl _) hb0⟩
end Go.Proofs.Ytmdledlbkdcmnaa
