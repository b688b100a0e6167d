/-
  Contracts and laws, merged: RDecide LbwWalks.
  Conditions: none.
-/
import Derived.Test.YtmdledlbkdcmnaaM15
import Derived.Test.YtmdledlbkdcmnaaM11
import Derived.Test.YtmdledlbkdcmnaaM5
import Derived.Test.YtmdledlbkdcmnaaM13
import Derived.Test.YtmdledlbkdcmnaaM7
set_option linter.unusedSimpArgs false
set_option linter.unusedVariables false
/-
  Contracts of the reference's Check and Decide (chapter 35).
  Conditions: none.
-/
namespace Go.Proofs.Ytmdledlbkdcmnaa
open Go.RowKit
set_option linter.unusedSimpArgs false
theorem rside35 (a b : Int) (left : Bool) (hv : validB a b = true) (w : World) : Calls Try.prog 94 #[.agg #[.int .i64 a, .int .i64 b], .bool left] w fun e w' => e = .returned (.agg #[.int .i64 (sdLo a b left), .int .i64 (sdHi a b left)]) ∧ Below w.heap.size w w' := by
  have hs := Lib.hid (fun w => by have := rside_any a b left w; rwa [sideV_ok hv] at this)
  generalize sdLo a b left = A at *
  generalize sdHi a b left = B at *
  clear hv
  go_enter Try.func94, Try.ntmps94
  go_wp2_with (go_at_call 116; refine (hs.out _).mono ?_; rintro e w1 ⟨rfl, k1⟩; have hR := heap_old k1 (heap_new (w.alloc (.cells #[.int .i64 a, .int .i64 b] 34)) (.cells #[.int .i64 0, .int .i64 0] 34) (b := w.heap.size + 1) (by simp)); have hK := Below.next2 (Below.refl w.heap.size w) (Nat.le_refl _) k1; have hsz := hK.size; have r0 := cell_heap (o := 0) hR rfl; have r1 := cell_heap (o := 1) hR rfl; have z0 := frozen_heap (o := 0) hR; have z1 := frozen_heap (o := 1) hR; have hlt := (Array.getElem?_eq_some_iff.1 hR).1)
  have hE := heap_set (o := 1) (v := .int .i64 B) (heap_set (o := 0) (v := .int .i64 A) (heap_alloc (X := .cells #[.int .i64 A, .int .i64 B] 34) hR))
  simp only [List.setIfInBounds_toArray, List.set_cons_succ, List.set_cons_zero] at hE
  have k0 := cell_heap (o := 0) hE rfl
  have k4 := cell_heap (o := 1) hE rfl
  refine bodyPost_ret (v := .agg #[.int .i64 A, .int .i64 B]) (by simp only [results, Try.results94]; go_simp) rfl ⟨rfl, (by repeat (first | with_reducible exact Below.refl _ _ | with_reducible assumption | with_reducible refine Below.drew ?_ | with_reducible refine Below.setCell ?_ (by first | omega | (simp; omega) | simp) _ | with_reducible refine Below.alloc ?_ (by first | omega | (simp; omega) | simp) _ | with_reducible refine Below.trans ?_ (Below.mono (by with_reducible assumption) (by first | omega | (simp; omega) | simp))))⟩
theorem rplace_ok (s : SN) (left : Bool) (ho : okS s = true) (w : World) : Calls Try.prog 91 #[.agg #[.int .i64 s.1, .int .i64 s.2.1, .int .i64 s.2.2.1, .int .i64 s.2.2.2.1, .int .i64 s.2.2.2.2], .bool left] w fun e w' => e = .returned (.agg #[.int .i64 (plLo s left), .int .i64 (plHi s left)]) ∧ Below w.heap.size w w' := by
  obtain ⟨_, _, ⟨c1, c2⟩, _, e1, e2⟩ := okS_iff.1 ho
  have hv : validB (s.2.2.1 - s.2.2.2.2) (s.2.2.1 + s.2.2.2.2) = true := validB_mk (by omega) (by omega) (by omega)
  have hs := Lib.hid (fun w => rside35 (s.2.2.1 - s.2.2.2.2) (s.2.2.1 + s.2.2.2.2) left hv w)
  unfold plLo plHi
  generalize sdLo (s.2.2.1 - s.2.2.2.2) (s.2.2.1 + s.2.2.2.2) left = A at *
  generalize sdHi (s.2.2.1 - s.2.2.2.2) (s.2.2.1 + s.2.2.2.2) left = B at *
  clear hv
  go_enter Try.func91, Try.ntmps91
  go_wp2_with (go_at_call 94; refine (hs.out _).mono ?_; rintro e w1 ⟨rfl, k1⟩; have hR := heap_old k1 (heap_new (w.alloc (.cells #[.int .i64 s.1, .int .i64 s.2.1, .int .i64 s.2.2.1, .int .i64 s.2.2.2.1, .int .i64 s.2.2.2.2] 38)) (.cells #[.int .i64 0, .int .i64 0] 34) (b := w.heap.size + 1) (by simp)); have hK := Below.next2 (Below.refl w.heap.size w) (Nat.le_refl _) k1; have hsz := hK.size; have r0 := cell_heap (o := 0) hR rfl; have r1 := cell_heap (o := 1) hR rfl; have z0 := frozen_heap (o := 0) hR; have z1 := frozen_heap (o := 1) hR; have hlt := (Array.getElem?_eq_some_iff.1 hR).1)
  have hE := heap_set (o := 1) (v := .int .i64 B) (heap_set (o := 0) (v := .int .i64 A) hR)
  simp only [List.setIfInBounds_toArray, List.set_cons_succ, List.set_cons_zero] at hE
  have k0 := cell_heap (o := 0) hE rfl
  have k4 := cell_heap (o := 1) hE rfl
  refine bodyPost_ret (v := .agg #[.int .i64 A, .int .i64 B]) (by simp only [results, Try.results91]; go_simp) rfl ⟨rfl, (by repeat (first | with_reducible exact Below.refl _ _ | with_reducible assumption | with_reducible refine Below.drew ?_ | with_reducible refine Below.setCell ?_ (by first | omega | (simp; omega) | simp) _ | with_reducible refine Below.alloc ?_ (by first | omega | (simp; omega) | simp) _ | with_reducible refine Below.trans ?_ (Below.mono (by with_reducible assumption) (by first | omega | (simp; omega) | simp))))⟩
theorem rlcheck_any (v : Value) (l : List SN) (left shot bat void : Bool) (w : World) (h : Seens w v l) : Calls Try.prog 50 #[.agg #[v, .bool left, .bool shot, .bool bat, .bool void]] w fun e w' => e = .returned (.int .i64 (behE l)) ∧ Below w.heap.size w w' := by
  have hc := Lib.hid (fun w' (h : Seens w' v l) => rcheck_any v l w' h)
  have hb := Lib.hid (fun w' (h : Seens w' v l) => rbehind_any v l w' h)
  have hE : Hid (behE l = if chkE l ≠ 0 then chkE l else if (bhdL l).length < 2 then 1 else 0) := Lib.hid rfl
  by_cases h0 : chkE l = 0
  · rw [h0] at hc hE
    clear h0
    go_enter Try.func50, Try.ntmps50
    go_wp2_with (first
      | (go_at_call 96; refine (hc.out _ (h.below (by repeat (first | with_reducible exact Below.refl _ _ | with_reducible assumption | with_reducible refine Below.drew ?_ | with_reducible refine Below.setCell ?_ (by first | omega | (simp; omega) | simp) _ | with_reducible refine Below.alloc ?_ (by first | omega | (simp; omega) | simp) _ | with_reducible refine Below.trans ?_ (Below.mono (by with_reducible assumption) (by first | omega | (simp; omega) | simp)))))).mono ?_; rintro e w1 ⟨⟨k0, rfl⟩, hb1⟩; have hK := Below.next1 (Below.refl w.heap.size w) (Nat.le_refl _) hb1; have hB := heap_old hb1 (heap_new w (.cells #[v, .bool left, .bool shot, .bool bat, .bool void] 43) rfl); have b0 := cell_heap (o := 0) hB rfl)
      | (go_at_call 97; refine (hb.out _ (h.below hK)).mono ?_; rintro e w2 ⟨u, rfl, ⟨pa, b, o, cap, rfl, g1, g2, g3, g4⟩, hb2⟩; have hcap : cap ≤ 9223372036854775807 := (by unfold maxLen at g3; omega); have hl2 := bhd_len l; replace hK := Below.next hK (Nat.le_refl _) hb2; clear g4))
    all_goals
      go_ret
      refine ⟨ret_int ?_, hK⟩
      rw [hE.out, if_neg (fun h => h rfl)]
      first | rw [if_pos (by omega)] | rw [if_neg (by omega)]
  · have hn : (chkE l != 0) = true := by simpa using h0
    rw [if_pos h0] at hE
    clear h0
    generalize chkE l = E at *
    rw [hE.out]
    go_enter Try.func50, Try.ntmps50
    go_wp2_with (go_at_call 96; refine (hc.out _ (h.below (by repeat (first | with_reducible exact Below.refl _ _ | with_reducible assumption | with_reducible refine Below.drew ?_ | with_reducible refine Below.setCell ?_ (by first | omega | (simp; omega) | simp) _ | with_reducible refine Below.alloc ?_ (by first | omega | (simp; omega) | simp) _ | with_reducible refine Below.trans ?_ (Below.mono (by with_reducible assumption) (by first | omega | (simp; omega) | simp)))))).mono ?_; rintro e w1 ⟨⟨k0, rfl⟩, hb1⟩; have hK := Below.next1 (Below.refl w.heap.size w) (Nat.le_refl _) hb1)
    go_ret
    exact ⟨rfl, hK⟩
set_option maxRecDepth 100000 in
set_option maxHeartbeats 8000000 in
theorem rdecide_bad (v : Value) (l : List SN) (left shot bat void : Bool) (w : World) (h : Seens w v l) (hb : behE l ≠ 0) : Calls Try.prog 48 #[.agg #[v, .bool left, .bool shot, .bool bat, .bool void]] w fun e w' => e = .returned (decV l left shot bat void) ∧ Below w.heap.size w w' := by
  have e1 : decV l left shot bat void = .tuple #[.agg #[.int .u8 0, .int .u8 0, .int .u8 0, .int .u8 0], .int .i64 (behE l)] := by unfold decV; rw [if_neg hb]
  rw [e1]
  have hn : (behE l != 0) = true := by simpa using hb
  have hck := Lib.hid (fun w' (h : Seens w' v l) => rlcheck_any v l left shot bat void w' h)
  clear hb e1
  generalize behE l = E at *
  go_enter Try.func48, Try.ntmps48
  go_wp2_with ((go_at_call 50; refine (hck.out _ (h.below (by repeat (first | with_reducible exact Below.refl _ _ | with_reducible assumption | with_reducible refine Below.drew ?_ | with_reducible refine Below.setCell ?_ (by first | omega | (simp; omega) | simp) _ | with_reducible refine Below.alloc ?_ (by first | omega | (simp; omega) | simp) _ | with_reducible refine Below.trans ?_ (Below.mono (by with_reducible assumption) (by first | omega | (simp; omega) | simp)))))).mono ?_; rintro e w1 ⟨rfl, hb1⟩; have hB := heap_old hb1 (heap_alloc (X := (.cells #[.int .u8 0, .int .u8 0, .int .u8 0, .int .u8 0] 47)) (heap_new w (.cells #[v, .bool left, .bool shot, .bool bat, .bool void] 43) rfl)); have hR := heap_old hb1 (heap_new (w.alloc (.cells #[v, .bool left, .bool shot, .bool bat, .bool void] 43)) (.cells #[.int .u8 0, .int .u8 0, .int .u8 0, .int .u8 0] 47) (b := w.heap.size + 1) (by simp)); have hK := Below.next2 (Below.refl w.heap.size w) (Nat.le_refl _) hb1; clear hb1; (have b0 := cell_heap (o := 0) hB rfl; have b1 := cell_heap (o := 1) hB rfl; have b2 := cell_heap (o := 2) hB rfl; have b3 := cell_heap (o := 3) hB rfl; have b4 := cell_heap (o := 4) hB rfl); (have r0 := cell_heap (o := 0) hR rfl; have r1 := cell_heap (o := 1) hR rfl; have r2 := cell_heap (o := 2) hR rfl; have r3 := cell_heap (o := 3) hR rfl; have z0 := frozen_heap (o := 0) hR; have z1 := frozen_heap (o := 1) hR; have z2 := frozen_heap (o := 2) hR; have z3 := frozen_heap (o := 3) hR)))
  have hE := heap_set (o := 3) (v := .int .u8 0) (heap_set (o := 2) (v := .int .u8 0) (heap_set (o := 1) (v := .int .u8 0) (heap_set (o := 0) (v := .int .u8 0) hR)))
  simp only [List.setIfInBounds_toArray, List.set_cons_succ, List.set_cons_zero] at hE
  have k0 := cell_heap (o := 0) hE rfl
  have k1 := cell_heap (o := 1) hE rfl
  have k2 := cell_heap (o := 2) hE rfl
  have k3 := cell_heap (o := 3) hE rfl
  refine bodyPost_ret (v := .tuple #[.agg #[.int .u8 0, .int .u8 0, .int .u8 0, .int .u8 0], .int .i64 E]) (by simp only [results, Try.results48]; go_simp) rfl ⟨rfl, (by repeat (first | with_reducible exact Below.refl _ _ | with_reducible assumption | with_reducible refine Below.drew ?_ | with_reducible refine Below.setCell ?_ (by first | omega | (simp; omega) | simp) _ | with_reducible refine Below.alloc ?_ (by first | omega | (simp; omega) | simp) _ | with_reducible refine Below.trans ?_ (Below.mono (by with_reducible assumption) (by first | omega | (simp; omega) | simp))))⟩
set_option maxRecDepth 100000 in
set_option maxHeartbeats 8000000 in
theorem rdecide_nm (v : Value) (l : List SN) (left shot bat void : Bool) (w : World) (h : Seens w v l) (hb : behE l = 0) (hq : bncK l = 0) (hc : crsE l ≠ 0) : Calls Try.prog 48 #[.agg #[v, .bool left, .bool shot, .bool bat, .bool void]] w fun e w' => e = .returned (decV l left shot bat void) ∧ Below w.heap.size w w' := by
  have e1 : decV l left shot bat void = .tuple #[.agg #[.int .u8 (decCall l left shot bat void), .int .u8 (decLeg l left), .int .u8 (decLine l left shot), .int .u8 (decWkt l left)], .int .i64 0] := by unfold decV; rw [if_pos hb]
  rw [e1]
  have hck := Lib.hid (fun w' (h : Seens w' v l) => rlcheck_any v l left shot bat void w' h)
  rw [hb] at hck
  have hch := (behE_len hb).1
  have hn2 := beh_pos hb
  have hl64 := chkE_len hch
  have hbo := Lib.hid (fun w' (h : Seens w' v l) => by have := rbounce_ok v l w' h; rwa [show bncQ l = false from by unfold bncQ; simp [hq]] at this)
  have dL : decLeg l left = 2 := by unfold decLeg; rw [if_pos hq]
  have hr : l[l.length - 1]? = some (atS l (l.length - 1)) := by unfold atS; rw [List.getElem?_eq_getElem (show l.length - 1 < l.length by omega)]
  have hro := chkE_ok hch _ (atS_mem (show l.length - 1 < l.length by omega))
  have hac2 := Lib.hid (fun w => rplace_ok (atS l (l.length - 1)) left hro w)
  have himp := Lib.hid (fun w => rimpact_any (plLo (atS l (l.length - 1)) left) (plHi (atS l (l.length - 1)) left) shot w)
  have dI : decLine l left shot = impactV (plLo (atS l (l.length - 1)) left) (plHi (atS l (l.length - 1)) left) shot := rfl
  rw [← dI] at himp
  have hcr := Lib.hid (fun w' (h : Seens w' v l) => by have := rcross_any v l w' h; unfold crsV at this; rwa [if_neg hc] at this)
  have dW : decWkt l left = 3 := by unfold decWkt; rw [if_neg hc]
  have hcn : (crsE l == 0) = false := by simpa using hc
  have hru := Lib.hid (fun w => rrule_any (decLeg l left) (decLine l left shot) (decWkt l left) bat void w)
  have dC : decCall l left shot bat void = ruleV (decLeg l left) (decLine l left shot) (decWkt l left) bat void := rfl
  rw [← dC] at hru
  rw [dL] at hru ⊢
  rw [dW] at hru ⊢
  clear dC dI dW dL e1
  generalize decCall l left shot bat void = CALL at *
  generalize decLine l left shot = LINE at *
  generalize plLo (atS l (l.length - 1)) left = p3 at *
  generalize plHi (atS l (l.length - 1)) left = p4 at *
  generalize atS l (l.length - 1) = r at *
  generalize crsE l = CE at *
  rw [hq] at hbo
  obtain ⟨n, hn⟩ : ∃ n, l.length = n + 1 := ⟨l.length - 1, by omega⟩
  have hn64 : n ≤ 63 := by omega
  have hR0 := Lib.hid hr
  clear hr hb hq hc hch hn2 hl64
  have h0 := h
  obtain ⟨pa, b, o, cap, rfl, g1, g2, g3, g4⟩ := h0
  have hcap : cap ≤ 9223372036854775807 := by unfold maxLen at g3; omega
  obtain rfl := g1 (by omega)
  have hrr := hR0.out
  rw [hn, Nat.add_sub_cancel] at hrr
  have hC0 := Lib.hid (g4 n r hrr)
  rw [hn] at g2 h hck hbo hcr ⊢
  clear g4 hrr hR0 g1
  go_enter Try.func48, Try.ntmps48
  go_wp2_with (first
    | (go_at_call 50; refine (hck.out _ (h.below (by repeat (first | with_reducible exact Below.refl _ _ | with_reducible assumption | with_reducible refine Below.drew ?_ | with_reducible refine Below.setCell ?_ (by first | omega | (simp; omega) | simp) _ | with_reducible refine Below.alloc ?_ (by first | omega | (simp; omega) | simp) _ | with_reducible refine Below.trans ?_ (Below.mono (by with_reducible assumption) (by first | omega | (simp; omega) | simp)))))).mono ?_; rintro e w1 ⟨rfl, hb1⟩; have hB := heap_old hb1 (heap_alloc (X := (.cells #[.int .u8 0, .int .u8 0, .int .u8 0, .int .u8 0] 47)) (heap_new w (.cells #[.slice (some ⟨b, o, none⟩) (n + 1) cap, .bool left, .bool shot, .bool bat, .bool void] 43) rfl)); have hR := heap_old hb1 (heap_new (w.alloc (.cells #[.slice (some ⟨b, o, none⟩) (n + 1) cap, .bool left, .bool shot, .bool bat, .bool void] 43)) (.cells #[.int .u8 0, .int .u8 0, .int .u8 0, .int .u8 0] 47) (b := w.heap.size + 1) (by simp)); have hK := Below.next2 (Below.refl w.heap.size w) (Nat.le_refl _) hb1; clear hb1; (have b0 := cell_heap (o := 0) hB rfl; have b1 := cell_heap (o := 1) hB rfl; have b2 := cell_heap (o := 2) hB rfl; have b3 := cell_heap (o := 3) hB rfl; have b4 := cell_heap (o := 4) hB rfl); (have r0 := cell_heap (o := 0) hR rfl; have r1 := cell_heap (o := 1) hR rfl; have r2 := cell_heap (o := 2) hR rfl; have r3 := cell_heap (o := 3) hR rfl; have z0 := frozen_heap (o := 0) hR; have z1 := frozen_heap (o := 1) hR; have z2 := frozen_heap (o := 2) hR; have z3 := frozen_heap (o := 3) hR))
    | (go_at_call 89; have hwv := (Array.getElem?_eq_some_iff.1 hR).1; have hV := heap_new w1 (.cells #[.int .u8 0, .int .u8 2, .int .u8 0, .int .u8 3] 47) rfl; replace hB := heap_alloc (X := (.cells #[.int .u8 0, .int .u8 2, .int .u8 0, .int .u8 3] 47)) hB; replace hR := heap_alloc (X := (.cells #[.int .u8 0, .int .u8 2, .int .u8 0, .int .u8 3] 47)) hR; replace hK := hK.alloc hK.size (.cells #[.int .u8 0, .int .u8 2, .int .u8 0, .int .u8 3] 47); (have q0 := cell_heap (o := 0) hV rfl; have q1 := cell_heap (o := 1) hV rfl; have q2 := cell_heap (o := 2) hV rfl; have q3 := cell_heap (o := 3) hV rfl; have y0 := frozen_heap (o := 0) hV; have y1 := frozen_heap (o := 1) hV; have y2 := frozen_heap (o := 2) hV; have y3 := frozen_heap (o := 3) hV); refine (hbo.out _ (h.below hK)).mono ?_; rintro e w2 ⟨rfl, hb2⟩; replace hB := heap_old hb2 hB; replace hR := heap_old hb2 hR; replace hV := heap_old hb2 hV; replace hK := Below.next hK (Nat.le_refl _) hb2; clear hb2; (clear b0 b1 b2 b3 b4); (clear r0 r1 r2 r3 z0 z1 z2 z3); (clear q0 q1 q2 q3 y0 y1 y2 y3); (have b0 := cell_heap (o := 0) hB rfl; have b1 := cell_heap (o := 1) hB rfl; have b2 := cell_heap (o := 2) hB rfl; have b3 := cell_heap (o := 3) hB rfl; have b4 := cell_heap (o := 4) hB rfl); (have r0 := cell_heap (o := 0) hR rfl; have r1 := cell_heap (o := 1) hR rfl; have r2 := cell_heap (o := 2) hR rfl; have r3 := cell_heap (o := 3) hR rfl; have z0 := frozen_heap (o := 0) hR; have z1 := frozen_heap (o := 1) hR; have z2 := frozen_heap (o := 2) hR; have z3 := frozen_heap (o := 3) hR); (have q0 := cell_heap (o := 0) hV rfl; have q1 := cell_heap (o := 1) hV rfl; have q2 := cell_heap (o := 2) hV rfl; have q3 := cell_heap (o := 3) hV rfl; have y0 := frozen_heap (o := 0) hV; have y1 := frozen_heap (o := 1) hV; have y2 := frozen_heap (o := 2) hV; have y3 := frozen_heap (o := 3) hV)))
  have nVB : w1.heap.size ≠ w.heap.size := by omega
  have nVR : w1.heap.size ≠ w.heap.size + 1 := by omega
  have nBV : w.heap.size ≠ w1.heap.size := by omega
  have nRV : w.heap.size + 1 ≠ w1.heap.size := by omega
  have hle : w.heap.size ≤ w1.heap.size := by omega
  (clear b0 b1 b2 b3 b4)
  apply region_gen 14 [] [0, 1, 2, 3, 4, 5, 6, 7, 8, 9, 10, 11, 12, 13] [14, 15]; (case hm => kernel_rfl); (case hS => rfl); (case hF => kernel_rfl); (case hB => kernel_rfl); (case hQ => exact fun _ _ _ _ _ h => h); (case f => (exact rfl)); (case hz => exact rfl); (case h => (intro LQ hLQ W1 hW1; have hK1 := Below.next hK (Nat.le_refl _) hW1; have hB1 := heap_old hW1 hB; obtain ⟨d0, d1, d2, d3, d4⟩ := SeenAt.below hC0.out hK1; have b0 := cell_heap (o := 0) hB1 rfl; have b1 := cell_heap (o := 1) hB1 rfl; have b2 := cell_heap (o := 2) hB1 rfl; simp only [pickO, List.drop_succ_cons, List.drop_zero, List.take_succ_cons, List.take_zero, List.cons_append, List.nil_append, List.append_nil, Act.put, List.setIfInBounds_toArray, List.set_cons_succ, List.set_cons_zero]; have hl := @Later.cell; (repeat (go_big_quiet_step (first | (go_at_call 91; exact Calls.later (hac2.out _)) | (go_at_call 92; exact Calls.later (himp.out _))))); exact wpQuiet_nil hLQ)); (intro W2 hW2; simp only [pickO, List.drop_succ_cons, List.drop_zero, List.take_succ_cons, List.take_zero, List.cons_append, List.nil_append, List.append_nil, Act.put, List.setIfInBounds_toArray, List.set_cons_succ, List.set_cons_zero])
  replace hB := heap_old hW2 hB
  replace hR := heap_old hW2 hR
  replace hV := heap_old hW2 hV
  replace hK := Below.next hK (Nat.le_refl _) hW2
  (clear r0 r1 r2 r3 z0 z1 z2 z3)
  (clear q0 q1 q2 q3 y0 y1 y2 y3)
  (have b0 := cell_heap (o := 0) hB rfl; have b1 := cell_heap (o := 1) hB rfl; have b2 := cell_heap (o := 2) hB rfl; have b3 := cell_heap (o := 3) hB rfl; have b4 := cell_heap (o := 4) hB rfl)
  (have r0 := cell_heap (o := 0) hR rfl; have r1 := cell_heap (o := 1) hR rfl; have r2 := cell_heap (o := 2) hR rfl; have r3 := cell_heap (o := 3) hR rfl; have z0 := frozen_heap (o := 0) hR; have z1 := frozen_heap (o := 1) hR; have z2 := frozen_heap (o := 2) hR; have z3 := frozen_heap (o := 3) hR)
  (have q0 := cell_heap (o := 0) hV rfl; have q1 := cell_heap (o := 1) hV rfl; have q2 := cell_heap (o := 2) hV rfl; have q3 := cell_heap (o := 3) hV rfl; have y0 := frozen_heap (o := 0) hV; have y1 := frozen_heap (o := 1) hV; have y2 := frozen_heap (o := 2) hV; have y3 := frozen_heap (o := 3) hV)
  go_wp2_with (first
    | (go_at_call 39; replace hB := heap_set_other (g := w1.heap.size) (o := 2) (v := .int .u8 LINE) hB nBV; replace hR := heap_set_other (g := w1.heap.size) (o := 2) (v := .int .u8 LINE) hR nRV; replace hV := heap_set (o := 2) (v := .int .u8 LINE) hV; simp only [List.setIfInBounds_toArray, List.set_cons_succ, List.set_cons_zero] at hV; replace hK := Below.setCell hK hle (.int .u8 LINE) (p := ⟨w1.heap.size, 2, none⟩); refine (hcr.out _ (h.below hK)).mono ?_; rintro e w5 ⟨rfl, hb5⟩; replace hB := heap_old hb5 hB; replace hR := heap_old hb5 hR; replace hV := heap_old hb5 hV; replace hK := Below.next hK (Nat.le_refl _) hb5; clear hb5; (clear b0 b1 b2 b3 b4); (clear r0 r1 r2 r3 z0 z1 z2 z3); (clear q0 q1 q2 q3 y0 y1 y2 y3); (have b0 := cell_heap (o := 0) hB rfl; have b1 := cell_heap (o := 1) hB rfl; have b2 := cell_heap (o := 2) hB rfl; have b3 := cell_heap (o := 3) hB rfl; have b4 := cell_heap (o := 4) hB rfl); (have r0 := cell_heap (o := 0) hR rfl; have r1 := cell_heap (o := 1) hR rfl; have r2 := cell_heap (o := 2) hR rfl; have r3 := cell_heap (o := 3) hR rfl; have z0 := frozen_heap (o := 0) hR; have z1 := frozen_heap (o := 1) hR; have z2 := frozen_heap (o := 2) hR; have z3 := frozen_heap (o := 3) hR); (have q0 := cell_heap (o := 0) hV rfl; have q1 := cell_heap (o := 1) hV rfl; have q2 := cell_heap (o := 2) hV rfl; have q3 := cell_heap (o := 3) hV rfl; have y0 := frozen_heap (o := 0) hV; have y1 := frozen_heap (o := 1) hV; have y2 := frozen_heap (o := 2) hV; have y3 := frozen_heap (o := 3) hV); have hC := heap_new w5 (.cells #[.int .i64 0, .int .i64 0, .int .i64 0, .int .i64 0, .int .i64 0, .int .i64 0] 70) rfl; replace hB := heap_alloc (X := (.cells #[.int .i64 0, .int .i64 0, .int .i64 0, .int .i64 0, .int .i64 0, .int .i64 0] 70)) hB; replace hR := heap_alloc (X := (.cells #[.int .i64 0, .int .i64 0, .int .i64 0, .int .i64 0, .int .i64 0, .int .i64 0] 70)) hR; replace hV := heap_alloc (X := (.cells #[.int .i64 0, .int .i64 0, .int .i64 0, .int .i64 0, .int .i64 0, .int .i64 0] 70)) hV; replace hK := hK.alloc hK.size (.cells #[.int .i64 0, .int .i64 0, .int .i64 0, .int .i64 0, .int .i64 0, .int .i64 0] 70); (clear b0 b1 b2 b3 b4); (clear r0 r1 r2 r3 z0 z1 z2 z3); (clear q0 q1 q2 q3 y0 y1 y2 y3); (have b0 := cell_heap (o := 0) hB rfl; have b1 := cell_heap (o := 1) hB rfl; have b2 := cell_heap (o := 2) hB rfl; have b3 := cell_heap (o := 3) hB rfl; have b4 := cell_heap (o := 4) hB rfl); (have r0 := cell_heap (o := 0) hR rfl; have r1 := cell_heap (o := 1) hR rfl; have r2 := cell_heap (o := 2) hR rfl; have r3 := cell_heap (o := 3) hR rfl; have z0 := frozen_heap (o := 0) hR; have z1 := frozen_heap (o := 1) hR; have z2 := frozen_heap (o := 2) hR; have z3 := frozen_heap (o := 3) hR); (have q0 := cell_heap (o := 0) hV rfl; have q1 := cell_heap (o := 1) hV rfl; have q2 := cell_heap (o := 2) hV rfl; have q3 := cell_heap (o := 3) hV rfl; have y0 := frozen_heap (o := 0) hV; have y1 := frozen_heap (o := 1) hV; have y2 := frozen_heap (o := 2) hV; have y3 := frozen_heap (o := 3) hV); (have c0 := cell_heap (o := 0) hC rfl; have c1 := cell_heap (o := 1) hC rfl; have c2 := cell_heap (o := 2) hC rfl; have c3 := cell_heap (o := 3) hC rfl; have c4 := cell_heap (o := 4) hC rfl; have c5 := cell_heap (o := 5) hC rfl); have hlt5 := (Array.getElem?_eq_some_iff.1 hC).1)
    | (go_at_call 95; refine (hru.out _).mono ?_; rintro e w9 ⟨rfl, rfl⟩))
  replace hR := heap_set_other (g := w1.heap.size) (o := 0) (v := .int .u8 CALL) hR nRV
  replace hV := heap_set (o := 0) (v := .int .u8 CALL) hV
  simp only [List.setIfInBounds_toArray, List.set_cons_succ, List.set_cons_zero] at hV
  replace hK := Below.setCell hK hle (.int .u8 CALL) (p := ⟨w1.heap.size, 0, none⟩)
  have hE := heap_set (o := 3) (v := .int .u8 3) (heap_set (o := 2) (v := .int .u8 LINE) (heap_set (o := 1) (v := .int .u8 2) (heap_set (o := 0) (v := .int .u8 CALL) hR)))
  simp only [List.setIfInBounds_toArray, List.set_cons_succ, List.set_cons_zero] at hE
  have k0 := cell_heap (o := 0) hE rfl
  have k1 := cell_heap (o := 1) hE rfl
  have k2 := cell_heap (o := 2) hE rfl
  have k3 := cell_heap (o := 3) hE rfl
  refine bodyPost_ret (v := .tuple #[.agg #[.int .u8 CALL, .int .u8 2, .int .u8 LINE, .int .u8 3], .int .i64 0]) (by simp only [results, Try.results48]; go_simp) rfl ⟨rfl, ?_⟩
  exact Below.setCell (Below.setCell (Below.setCell (Below.setCell hK (Nat.le_succ _) _) (Nat.le_succ _) _) (Nat.le_succ _) _) (Nat.le_succ _) _
set_option maxRecDepth 100000 in
set_option maxHeartbeats 8000000 in
theorem rdecide_bm (v : Value) (l : List SN) (left shot bat void : Bool) (w : World) (h : Seens w v l) (hb : behE l = 0) (hq : bncK l ≠ 0) (hc : crsE l ≠ 0) : Calls Try.prog 48 #[.agg #[v, .bool left, .bool shot, .bool bat, .bool void]] w fun e w' => e = .returned (decV l left shot bat void) ∧ Below w.heap.size w w' := by
  have e1 : decV l left shot bat void = .tuple #[.agg #[.int .u8 (decCall l left shot bat void), .int .u8 (decLeg l left), .int .u8 (decLine l left shot), .int .u8 (decWkt l left)], .int .i64 0] := by unfold decV; rw [if_pos hb]
  rw [e1]
  have hck := Lib.hid (fun w' (h : Seens w' v l) => rlcheck_any v l left shot bat void w' h)
  rw [hb] at hck
  have hch := (behE_len hb).1
  have hn2 := beh_pos hb
  have hl64 := chkE_len hch
  have hbo := Lib.hid (fun w' (h : Seens w' v l) => by have := rbounce_ok v l w' h; rwa [show bncQ l = true from by unfold bncQ; simp [hq]] at this)
  have hk := bncK_lt' (l := l) (by omega)
  have hs : l[bncK l]? = some (atS l (bncK l)) := by unfold atS; rw [List.getElem?_eq_getElem hk]
  have hso := chkE_ok hch _ (atS_mem hk)
  have hac1 := Lib.hid (fun w => rplace_ok (atS l (bncK l)) left hso w)
  have hleg := Lib.hid (fun w => rleg_any (plLo (atS l (bncK l)) left) (plHi (atS l (bncK l)) left) w)
  have dL : decLeg l left = ans (plLo (atS l (bncK l)) left) (plHi (atS l (bncK l)) left) (-4611686018427387904) (-1144) := by unfold decLeg; rw [if_neg hq]
  rw [← dL] at hleg
  have hr : l[l.length - 1]? = some (atS l (l.length - 1)) := by unfold atS; rw [List.getElem?_eq_getElem (show l.length - 1 < l.length by omega)]
  have hro := chkE_ok hch _ (atS_mem (show l.length - 1 < l.length by omega))
  have hac2 := Lib.hid (fun w => rplace_ok (atS l (l.length - 1)) left hro w)
  have himp := Lib.hid (fun w => rimpact_any (plLo (atS l (l.length - 1)) left) (plHi (atS l (l.length - 1)) left) shot w)
  have dI : decLine l left shot = impactV (plLo (atS l (l.length - 1)) left) (plHi (atS l (l.length - 1)) left) shot := rfl
  rw [← dI] at himp
  have hcr := Lib.hid (fun w' (h : Seens w' v l) => by have := rcross_any v l w' h; unfold crsV at this; rwa [if_neg hc] at this)
  have dW : decWkt l left = 3 := by unfold decWkt; rw [if_neg hc]
  have hcn : (crsE l == 0) = false := by simpa using hc
  have hru := Lib.hid (fun w => rrule_any (decLeg l left) (decLine l left shot) (decWkt l left) bat void w)
  have dC : decCall l left shot bat void = ruleV (decLeg l left) (decLine l left shot) (decWkt l left) bat void := rfl
  rw [← dC] at hru
  rw [dW] at hru ⊢
  clear dC dI dW dL e1
  generalize decCall l left shot bat void = CALL at *
  generalize decLine l left shot = LINE at *
  generalize decLeg l left = LEG at *
  generalize plLo (atS l (bncK l)) left = p1 at *
  generalize plHi (atS l (bncK l)) left = p2 at *
  generalize atS l (bncK l) = s at *
  generalize plLo (atS l (l.length - 1)) left = p3 at *
  generalize plHi (atS l (l.length - 1)) left = p4 at *
  generalize atS l (l.length - 1) = r at *
  generalize crsE l = CE at *
  generalize bncK l = kb at *
  obtain ⟨n, hn⟩ : ∃ n, l.length = n + 1 := ⟨l.length - 1, by omega⟩
  have hn64 : n ≤ 63 := by omega
  have hR0 := Lib.hid hr
  have hS0 := Lib.hid hs
  have hkn : kb < n + 1 := by omega
  clear hs
  clear hr hb hq hc hch hn2 hl64
  have h0 := h
  obtain ⟨pa, b, o, cap, rfl, g1, g2, g3, g4⟩ := h0
  have hcap : cap ≤ 9223372036854775807 := by unfold maxLen at g3; omega
  obtain rfl := g1 (by omega)
  have hrr := hR0.out
  rw [hn, Nat.add_sub_cancel] at hrr
  have hC0 := Lib.hid (g4 n r hrr)
  have hD0 := Lib.hid (g4 kb s hS0.out)
  rw [hn] at g2 h hck hbo hcr ⊢
  clear g4 hrr hR0 g1 hS0
  go_enter Try.func48, Try.ntmps48
  go_wp2_with (first
    | (go_at_call 50; refine (hck.out _ (h.below (by repeat (first | with_reducible exact Below.refl _ _ | with_reducible assumption | with_reducible refine Below.drew ?_ | with_reducible refine Below.setCell ?_ (by first | omega | (simp; omega) | simp) _ | with_reducible refine Below.alloc ?_ (by first | omega | (simp; omega) | simp) _ | with_reducible refine Below.trans ?_ (Below.mono (by with_reducible assumption) (by first | omega | (simp; omega) | simp)))))).mono ?_; rintro e w1 ⟨rfl, hb1⟩; have hB := heap_old hb1 (heap_alloc (X := (.cells #[.int .u8 0, .int .u8 0, .int .u8 0, .int .u8 0] 47)) (heap_new w (.cells #[.slice (some ⟨b, o, none⟩) (n + 1) cap, .bool left, .bool shot, .bool bat, .bool void] 43) rfl)); have hR := heap_old hb1 (heap_new (w.alloc (.cells #[.slice (some ⟨b, o, none⟩) (n + 1) cap, .bool left, .bool shot, .bool bat, .bool void] 43)) (.cells #[.int .u8 0, .int .u8 0, .int .u8 0, .int .u8 0] 47) (b := w.heap.size + 1) (by simp)); have hK := Below.next2 (Below.refl w.heap.size w) (Nat.le_refl _) hb1; clear hb1; (have b0 := cell_heap (o := 0) hB rfl; have b1 := cell_heap (o := 1) hB rfl; have b2 := cell_heap (o := 2) hB rfl; have b3 := cell_heap (o := 3) hB rfl; have b4 := cell_heap (o := 4) hB rfl); (have r0 := cell_heap (o := 0) hR rfl; have r1 := cell_heap (o := 1) hR rfl; have r2 := cell_heap (o := 2) hR rfl; have r3 := cell_heap (o := 3) hR rfl; have z0 := frozen_heap (o := 0) hR; have z1 := frozen_heap (o := 1) hR; have z2 := frozen_heap (o := 2) hR; have z3 := frozen_heap (o := 3) hR))
    | (go_at_call 89; have hwv := (Array.getElem?_eq_some_iff.1 hR).1; have hV := heap_new w1 (.cells #[.int .u8 0, .int .u8 2, .int .u8 0, .int .u8 3] 47) rfl; replace hB := heap_alloc (X := (.cells #[.int .u8 0, .int .u8 2, .int .u8 0, .int .u8 3] 47)) hB; replace hR := heap_alloc (X := (.cells #[.int .u8 0, .int .u8 2, .int .u8 0, .int .u8 3] 47)) hR; replace hK := hK.alloc hK.size (.cells #[.int .u8 0, .int .u8 2, .int .u8 0, .int .u8 3] 47); (have q0 := cell_heap (o := 0) hV rfl; have q1 := cell_heap (o := 1) hV rfl; have q2 := cell_heap (o := 2) hV rfl; have q3 := cell_heap (o := 3) hV rfl; have y0 := frozen_heap (o := 0) hV; have y1 := frozen_heap (o := 1) hV; have y2 := frozen_heap (o := 2) hV; have y3 := frozen_heap (o := 3) hV); refine (hbo.out _ (h.below hK)).mono ?_; rintro e w2 ⟨rfl, hb2⟩; replace hB := heap_old hb2 hB; replace hR := heap_old hb2 hR; replace hV := heap_old hb2 hV; replace hK := Below.next hK (Nat.le_refl _) hb2; clear hb2; (clear b0 b1 b2 b3 b4); (clear r0 r1 r2 r3 z0 z1 z2 z3); (clear q0 q1 q2 q3 y0 y1 y2 y3); (have b0 := cell_heap (o := 0) hB rfl; have b1 := cell_heap (o := 1) hB rfl; have b2 := cell_heap (o := 2) hB rfl; have b3 := cell_heap (o := 3) hB rfl; have b4 := cell_heap (o := 4) hB rfl); (have r0 := cell_heap (o := 0) hR rfl; have r1 := cell_heap (o := 1) hR rfl; have r2 := cell_heap (o := 2) hR rfl; have r3 := cell_heap (o := 3) hR rfl; have z0 := frozen_heap (o := 0) hR; have z1 := frozen_heap (o := 1) hR; have z2 := frozen_heap (o := 2) hR; have z3 := frozen_heap (o := 3) hR); (have q0 := cell_heap (o := 0) hV rfl; have q1 := cell_heap (o := 1) hV rfl; have q2 := cell_heap (o := 2) hV rfl; have q3 := cell_heap (o := 3) hV rfl; have y0 := frozen_heap (o := 0) hV; have y1 := frozen_heap (o := 1) hV; have y2 := frozen_heap (o := 2) hV; have y3 := frozen_heap (o := 3) hV)))
  have nVB : w1.heap.size ≠ w.heap.size := by omega
  have nVR : w1.heap.size ≠ w.heap.size + 1 := by omega
  have nBV : w.heap.size ≠ w1.heap.size := by omega
  have nRV : w.heap.size + 1 ≠ w1.heap.size := by omega
  have hle : w.heap.size ≤ w1.heap.size := by omega
  (clear b0 b1 b2 b3 b4)
  apply region_gen 9 [] [0, 1, 2, 3, 4, 5, 6, 7, 8] [9, 10]; (case hm => kernel_rfl); (case hS => rfl); (case hF => kernel_rfl); (case hB => kernel_rfl); (case hQ => exact fun _ _ _ _ _ h => h); (case f => (exact rfl)); (case hz => exact rfl); (case h => (intro LQ hLQ W1 hW1; have hK1 := Below.next hK (Nat.le_refl _) hW1; have hB1 := heap_old hW1 hB; obtain ⟨d0, d1, d2, d3, d4⟩ := SeenAt.below hD0.out hK1; have b0 := cell_heap (o := 0) hB1 rfl; have b1 := cell_heap (o := 1) hB1 rfl; have b2 := cell_heap (o := 2) hB1 rfl; simp only [pickO, List.drop_succ_cons, List.drop_zero, List.take_succ_cons, List.take_zero, List.cons_append, List.nil_append, List.append_nil, Act.put, List.setIfInBounds_toArray, List.set_cons_succ, List.set_cons_zero]; have hl := @Later.cell; (repeat (go_big_quiet_step (first | (go_at_call 91; exact Calls.later (hac1.out _)) | (go_at_call 90; exact Calls.later (hleg.out _))))); exact wpQuiet_nil hLQ)); (intro W2 hW2; simp only [pickO, List.drop_succ_cons, List.drop_zero, List.take_succ_cons, List.take_zero, List.cons_append, List.nil_append, List.append_nil, Act.put, List.setIfInBounds_toArray, List.set_cons_succ, List.set_cons_zero])
  replace hB := heap_old hW2 hB
  replace hR := heap_old hW2 hR
  replace hV := heap_old hW2 hV
  replace hK := Below.next hK (Nat.le_refl _) hW2
  (clear r0 r1 r2 r3 z0 z1 z2 z3)
  (clear q0 q1 q2 q3 y0 y1 y2 y3)
  (have b0 := cell_heap (o := 0) hB rfl; have b1 := cell_heap (o := 1) hB rfl; have b2 := cell_heap (o := 2) hB rfl; have b3 := cell_heap (o := 3) hB rfl; have b4 := cell_heap (o := 4) hB rfl)
  (have r0 := cell_heap (o := 0) hR rfl; have r1 := cell_heap (o := 1) hR rfl; have r2 := cell_heap (o := 2) hR rfl; have r3 := cell_heap (o := 3) hR rfl; have z0 := frozen_heap (o := 0) hR; have z1 := frozen_heap (o := 1) hR; have z2 := frozen_heap (o := 2) hR; have z3 := frozen_heap (o := 3) hR)
  (have q0 := cell_heap (o := 0) hV rfl; have q1 := cell_heap (o := 1) hV rfl; have q2 := cell_heap (o := 2) hV rfl; have q3 := cell_heap (o := 3) hV rfl; have y0 := frozen_heap (o := 0) hV; have y1 := frozen_heap (o := 1) hV; have y2 := frozen_heap (o := 2) hV; have y3 := frozen_heap (o := 3) hV)
  go_wp2_with fail
  replace hB := heap_set_other (g := w1.heap.size) (o := 1) (v := .int .u8 LEG) hB nBV
  replace hR := heap_set_other (g := w1.heap.size) (o := 1) (v := .int .u8 LEG) hR nRV
  replace hV := heap_set (o := 1) (v := .int .u8 LEG) hV
  simp only [List.setIfInBounds_toArray, List.set_cons_succ, List.set_cons_zero] at hV
  replace hK := Below.setCell hK hle (.int .u8 LEG) (p := ⟨w1.heap.size, 1, none⟩)
  (clear b0 b1 b2 b3 b4)
  (clear r0 r1 r2 r3 z0 z1 z2 z3)
  (clear q0 q1 q2 q3 y0 y1 y2 y3)
  (have b0 := cell_heap (o := 0) hB rfl; have b1 := cell_heap (o := 1) hB rfl; have b2 := cell_heap (o := 2) hB rfl; have b3 := cell_heap (o := 3) hB rfl; have b4 := cell_heap (o := 4) hB rfl)
  (have r0 := cell_heap (o := 0) hR rfl; have r1 := cell_heap (o := 1) hR rfl; have r2 := cell_heap (o := 2) hR rfl; have r3 := cell_heap (o := 3) hR rfl; have z0 := frozen_heap (o := 0) hR; have z1 := frozen_heap (o := 1) hR; have z2 := frozen_heap (o := 2) hR; have z3 := frozen_heap (o := 3) hR)
  (have q0 := cell_heap (o := 0) hV rfl; have q1 := cell_heap (o := 1) hV rfl; have q2 := cell_heap (o := 2) hV rfl; have q3 := cell_heap (o := 3) hV rfl; have y0 := frozen_heap (o := 0) hV; have y1 := frozen_heap (o := 1) hV; have y2 := frozen_heap (o := 2) hV; have y3 := frozen_heap (o := 3) hV)
  generalize World.setCell _ _ _ = wS at *
  (clear b0 b1 b2 b3 b4)
  apply region_gen 14 [] [0, 1, 2, 3, 4, 5, 6, 7, 8, 9, 10, 11, 12, 13] [14, 15]; (case hm => kernel_rfl); (case hS => rfl); (case hF => kernel_rfl); (case hB => kernel_rfl); (case hQ => exact fun _ _ _ _ _ h => h); (case f => (exact rfl)); (case hz => exact rfl); (case h => (intro LQ hLQ W1 hW1; have hK1 := Below.next hK (Nat.le_refl _) hW1; have hB1 := heap_old hW1 hB; obtain ⟨d0, d1, d2, d3, d4⟩ := SeenAt.below hC0.out hK1; have b0 := cell_heap (o := 0) hB1 rfl; have b1 := cell_heap (o := 1) hB1 rfl; have b2 := cell_heap (o := 2) hB1 rfl; simp only [pickO, List.drop_succ_cons, List.drop_zero, List.take_succ_cons, List.take_zero, List.cons_append, List.nil_append, List.append_nil, Act.put, List.setIfInBounds_toArray, List.set_cons_succ, List.set_cons_zero]; have hl := @Later.cell; (repeat (go_big_quiet_step (first | (go_at_call 91; exact Calls.later (hac2.out _)) | (go_at_call 92; exact Calls.later (himp.out _))))); exact wpQuiet_nil hLQ)); (intro W2 hW2; simp only [pickO, List.drop_succ_cons, List.drop_zero, List.take_succ_cons, List.take_zero, List.cons_append, List.nil_append, List.append_nil, Act.put, List.setIfInBounds_toArray, List.set_cons_succ, List.set_cons_zero])
  replace hB := heap_old hW2 hB
  replace hR := heap_old hW2 hR
  replace hV := heap_old hW2 hV
  replace hK := Below.next hK (Nat.le_refl _) hW2
  (clear r0 r1 r2 r3 z0 z1 z2 z3)
  (clear q0 q1 q2 q3 y0 y1 y2 y3)
  (have b0 := cell_heap (o := 0) hB rfl; have b1 := cell_heap (o := 1) hB rfl; have b2 := cell_heap (o := 2) hB rfl; have b3 := cell_heap (o := 3) hB rfl; have b4 := cell_heap (o := 4) hB rfl)
  (have r0 := cell_heap (o := 0) hR rfl; have r1 := cell_heap (o := 1) hR rfl; have r2 := cell_heap (o := 2) hR rfl; have r3 := cell_heap (o := 3) hR rfl; have z0 := frozen_heap (o := 0) hR; have z1 := frozen_heap (o := 1) hR; have z2 := frozen_heap (o := 2) hR; have z3 := frozen_heap (o := 3) hR)
  (have q0 := cell_heap (o := 0) hV rfl; have q1 := cell_heap (o := 1) hV rfl; have q2 := cell_heap (o := 2) hV rfl; have q3 := cell_heap (o := 3) hV rfl; have y0 := frozen_heap (o := 0) hV; have y1 := frozen_heap (o := 1) hV; have y2 := frozen_heap (o := 2) hV; have y3 := frozen_heap (o := 3) hV)
  go_wp2_with (first
    | (go_at_call 39; replace hB := heap_set_other (g := w1.heap.size) (o := 2) (v := .int .u8 LINE) hB nBV; replace hR := heap_set_other (g := w1.heap.size) (o := 2) (v := .int .u8 LINE) hR nRV; replace hV := heap_set (o := 2) (v := .int .u8 LINE) hV; simp only [List.setIfInBounds_toArray, List.set_cons_succ, List.set_cons_zero] at hV; replace hK := Below.setCell hK hle (.int .u8 LINE) (p := ⟨w1.heap.size, 2, none⟩); refine (hcr.out _ (h.below hK)).mono ?_; rintro e w5 ⟨rfl, hb5⟩; replace hB := heap_old hb5 hB; replace hR := heap_old hb5 hR; replace hV := heap_old hb5 hV; replace hK := Below.next hK (Nat.le_refl _) hb5; clear hb5; (clear b0 b1 b2 b3 b4); (clear r0 r1 r2 r3 z0 z1 z2 z3); (clear q0 q1 q2 q3 y0 y1 y2 y3); (have b0 := cell_heap (o := 0) hB rfl; have b1 := cell_heap (o := 1) hB rfl; have b2 := cell_heap (o := 2) hB rfl; have b3 := cell_heap (o := 3) hB rfl; have b4 := cell_heap (o := 4) hB rfl); (have r0 := cell_heap (o := 0) hR rfl; have r1 := cell_heap (o := 1) hR rfl; have r2 := cell_heap (o := 2) hR rfl; have r3 := cell_heap (o := 3) hR rfl; have z0 := frozen_heap (o := 0) hR; have z1 := frozen_heap (o := 1) hR; have z2 := frozen_heap (o := 2) hR; have z3 := frozen_heap (o := 3) hR); (have q0 := cell_heap (o := 0) hV rfl; have q1 := cell_heap (o := 1) hV rfl; have q2 := cell_heap (o := 2) hV rfl; have q3 := cell_heap (o := 3) hV rfl; have y0 := frozen_heap (o := 0) hV; have y1 := frozen_heap (o := 1) hV; have y2 := frozen_heap (o := 2) hV; have y3 := frozen_heap (o := 3) hV); have hC := heap_new w5 (.cells #[.int .i64 0, .int .i64 0, .int .i64 0, .int .i64 0, .int .i64 0, .int .i64 0] 70) rfl; replace hB := heap_alloc (X := (.cells #[.int .i64 0, .int .i64 0, .int .i64 0, .int .i64 0, .int .i64 0, .int .i64 0] 70)) hB; replace hR := heap_alloc (X := (.cells #[.int .i64 0, .int .i64 0, .int .i64 0, .int .i64 0, .int .i64 0, .int .i64 0] 70)) hR; replace hV := heap_alloc (X := (.cells #[.int .i64 0, .int .i64 0, .int .i64 0, .int .i64 0, .int .i64 0, .int .i64 0] 70)) hV; replace hK := hK.alloc hK.size (.cells #[.int .i64 0, .int .i64 0, .int .i64 0, .int .i64 0, .int .i64 0, .int .i64 0] 70); (clear b0 b1 b2 b3 b4); (clear r0 r1 r2 r3 z0 z1 z2 z3); (clear q0 q1 q2 q3 y0 y1 y2 y3); (have b0 := cell_heap (o := 0) hB rfl; have b1 := cell_heap (o := 1) hB rfl; have b2 := cell_heap (o := 2) hB rfl; have b3 := cell_heap (o := 3) hB rfl; have b4 := cell_heap (o := 4) hB rfl); (have r0 := cell_heap (o := 0) hR rfl; have r1 := cell_heap (o := 1) hR rfl; have r2 := cell_heap (o := 2) hR rfl; have r3 := cell_heap (o := 3) hR rfl; have z0 := frozen_heap (o := 0) hR; have z1 := frozen_heap (o := 1) hR; have z2 := frozen_heap (o := 2) hR; have z3 := frozen_heap (o := 3) hR); (have q0 := cell_heap (o := 0) hV rfl; have q1 := cell_heap (o := 1) hV rfl; have q2 := cell_heap (o := 2) hV rfl; have q3 := cell_heap (o := 3) hV rfl; have y0 := frozen_heap (o := 0) hV; have y1 := frozen_heap (o := 1) hV; have y2 := frozen_heap (o := 2) hV; have y3 := frozen_heap (o := 3) hV); (have c0 := cell_heap (o := 0) hC rfl; have c1 := cell_heap (o := 1) hC rfl; have c2 := cell_heap (o := 2) hC rfl; have c3 := cell_heap (o := 3) hC rfl; have c4 := cell_heap (o := 4) hC rfl; have c5 := cell_heap (o := 5) hC rfl); have hlt5 := (Array.getElem?_eq_some_iff.1 hC).1)
    | (go_at_call 95; refine (hru.out _).mono ?_; rintro e w9 ⟨rfl, rfl⟩))
  replace hR := heap_set_other (g := w1.heap.size) (o := 0) (v := .int .u8 CALL) hR nRV
  replace hV := heap_set (o := 0) (v := .int .u8 CALL) hV
  simp only [List.setIfInBounds_toArray, List.set_cons_succ, List.set_cons_zero] at hV
  replace hK := Below.setCell hK hle (.int .u8 CALL) (p := ⟨w1.heap.size, 0, none⟩)
  have hE := heap_set (o := 3) (v := .int .u8 3) (heap_set (o := 2) (v := .int .u8 LINE) (heap_set (o := 1) (v := .int .u8 LEG) (heap_set (o := 0) (v := .int .u8 CALL) hR)))
  simp only [List.setIfInBounds_toArray, List.set_cons_succ, List.set_cons_zero] at hE
  have k0 := cell_heap (o := 0) hE rfl
  have k1 := cell_heap (o := 1) hE rfl
  have k2 := cell_heap (o := 2) hE rfl
  have k3 := cell_heap (o := 3) hE rfl
  refine bodyPost_ret (v := .tuple #[.agg #[.int .u8 CALL, .int .u8 LEG, .int .u8 LINE, .int .u8 3], .int .i64 0]) (by simp only [results, Try.results48]; go_simp) rfl ⟨rfl, ?_⟩
  exact Below.setCell (Below.setCell (Below.setCell (Below.setCell hK (Nat.le_succ _) _) (Nat.le_succ _) _) (Nat.le_succ _) _) (Nat.le_succ _) _
set_option maxRecDepth 100000 in
set_option maxHeartbeats 8000000 in
theorem rdecide_nc (v : Value) (l : List SN) (left shot bat void : Bool) (w : World) (h : Seens w v l) (hb : behE l = 0) (hq : bncK l = 0) (hc : crsE l = 0) : Calls Try.prog 48 #[.agg #[v, .bool left, .bool shot, .bool bat, .bool void]] w fun e w' => e = .returned (decV l left shot bat void) ∧ Below w.heap.size w w' := by
  have e1 : decV l left shot bat void = .tuple #[.agg #[.int .u8 (decCall l left shot bat void), .int .u8 (decLeg l left), .int .u8 (decLine l left shot), .int .u8 (decWkt l left)], .int .i64 0] := by unfold decV; rw [if_pos hb]
  rw [e1]
  have hck := Lib.hid (fun w' (h : Seens w' v l) => rlcheck_any v l left shot bat void w' h)
  rw [hb] at hck
  have hch := (behE_len hb).1
  have hn2 := beh_pos hb
  have hl64 := chkE_len hch
  have hbo := Lib.hid (fun w' (h : Seens w' v l) => by have := rbounce_ok v l w' h; rwa [show bncQ l = false from by unfold bncQ; simp [hq]] at this)
  have dL : decLeg l left = 2 := by unfold decLeg; rw [if_pos hq]
  have hr : l[l.length - 1]? = some (atS l (l.length - 1)) := by unfold atS; rw [List.getElem?_eq_getElem (show l.length - 1 < l.length by omega)]
  have hro := chkE_ok hch _ (atS_mem (show l.length - 1 < l.length by omega))
  have hac2 := Lib.hid (fun w => rplace_ok (atS l (l.length - 1)) left hro w)
  have himp := Lib.hid (fun w => rimpact_any (plLo (atS l (l.length - 1)) left) (plHi (atS l (l.length - 1)) left) shot w)
  have dI : decLine l left shot = impactV (plLo (atS l (l.length - 1)) left) (plHi (atS l (l.length - 1)) left) shot := rfl
  rw [← dI] at himp
  have hcr := Lib.hid (fun w' (h : Seens w' v l) => by have := rcross_any v l w' h; unfold crsV at this; rwa [if_pos hc] at this)
  obtain ⟨hv1, hv2⟩ := cross_valid hc
  have hsd := Lib.hid (fun w => rside35 (cYlo l) (cYhi l) left hv1 w)
  have hwk := Lib.hid (fun w => rwicket_any (sdLo (cYlo l) (cYhi l) left) (sdHi (cYlo l) (cYhi l) left) (cZlo l) (cZhi l) 180 w)
  have dW : decWkt l left = wicketV (sdLo (cYlo l) (cYhi l) left) (sdHi (cYlo l) (cYhi l) left) (cZlo l) (cZhi l) 180 := by unfold decWkt; rw [if_pos hc]
  rw [← dW] at hwk
  unfold cYlo cYhi at hsd hwk
  unfold cZlo cZhi at hwk
  have hru := Lib.hid (fun w => rrule_any (decLeg l left) (decLine l left shot) (decWkt l left) bat void w)
  have dC : decCall l left shot bat void = ruleV (decLeg l left) (decLine l left shot) (decWkt l left) bat void := rfl
  rw [← dC] at hru
  rw [dL] at hru ⊢
  clear dC dI dW dL e1
  generalize decCall l left shot bat void = CALL at *
  generalize decLine l left shot = LINE at *
  generalize decWkt l left = WKT at *
  generalize plLo (atS l (l.length - 1)) left = p3 at *
  generalize plHi (atS l (l.length - 1)) left = p4 at *
  generalize atS l (l.length - 1) = r at *
  generalize sdLo (loR (bnds 1 (bhdL l)) (cT1 l) (cT2 l)) (hiR (bnds 1 (bhdL l)) (cT1 l) (cT2 l)) left = sl at *
  generalize sdHi (loR (bnds 1 (bhdL l)) (cT1 l) (cT2 l)) (hiR (bnds 1 (bhdL l)) (cT1 l) (cT2 l)) left = sh at *
  generalize fallLo (loR (bnds 2 (bhdL l)) (cT1 l) (cT2 l)) (hiR (bnds 2 (bhdL l)) (cT1 l) (cT2 l)) (cT1 l) (cT2 l) = zl at *
  generalize fallHi (loR (bnds 2 (bhdL l)) (cT1 l) (cT2 l)) (hiR (bnds 2 (bhdL l)) (cT1 l) (cT2 l)) (cT1 l) (cT2 l) = zh at *
  generalize loR (bnds 1 (bhdL l)) (cT1 l) (cT2 l) = yl at *
  generalize hiR (bnds 1 (bhdL l)) (cT1 l) (cT2 l) = yh at *
  generalize cT1 l = ta at *
  generalize cT2 l = tb at *
  rw [hq] at hbo
  obtain ⟨n, hn⟩ : ∃ n, l.length = n + 1 := ⟨l.length - 1, by omega⟩
  have hn64 : n ≤ 63 := by omega
  have hR0 := Lib.hid hr
  clear hr hb hq hc hch hn2 hl64
  have h0 := h
  obtain ⟨pa, b, o, cap, rfl, g1, g2, g3, g4⟩ := h0
  have hcap : cap ≤ 9223372036854775807 := by unfold maxLen at g3; omega
  obtain rfl := g1 (by omega)
  have hrr := hR0.out
  rw [hn, Nat.add_sub_cancel] at hrr
  have hC0 := Lib.hid (g4 n r hrr)
  rw [hn] at g2 h hck hbo hcr ⊢
  clear g4 hrr hR0 g1
  go_enter Try.func48, Try.ntmps48
  go_wp2_with (first
    | (go_at_call 50; refine (hck.out _ (h.below (by repeat (first | with_reducible exact Below.refl _ _ | with_reducible assumption | with_reducible refine Below.drew ?_ | with_reducible refine Below.setCell ?_ (by first | omega | (simp; omega) | simp) _ | with_reducible refine Below.alloc ?_ (by first | omega | (simp; omega) | simp) _ | with_reducible refine Below.trans ?_ (Below.mono (by with_reducible assumption) (by first | omega | (simp; omega) | simp)))))).mono ?_; rintro e w1 ⟨rfl, hb1⟩; have hB := heap_old hb1 (heap_alloc (X := (.cells #[.int .u8 0, .int .u8 0, .int .u8 0, .int .u8 0] 47)) (heap_new w (.cells #[.slice (some ⟨b, o, none⟩) (n + 1) cap, .bool left, .bool shot, .bool bat, .bool void] 43) rfl)); have hR := heap_old hb1 (heap_new (w.alloc (.cells #[.slice (some ⟨b, o, none⟩) (n + 1) cap, .bool left, .bool shot, .bool bat, .bool void] 43)) (.cells #[.int .u8 0, .int .u8 0, .int .u8 0, .int .u8 0] 47) (b := w.heap.size + 1) (by simp)); have hK := Below.next2 (Below.refl w.heap.size w) (Nat.le_refl _) hb1; clear hb1; (have b0 := cell_heap (o := 0) hB rfl; have b1 := cell_heap (o := 1) hB rfl; have b2 := cell_heap (o := 2) hB rfl; have b3 := cell_heap (o := 3) hB rfl; have b4 := cell_heap (o := 4) hB rfl); (have r0 := cell_heap (o := 0) hR rfl; have r1 := cell_heap (o := 1) hR rfl; have r2 := cell_heap (o := 2) hR rfl; have r3 := cell_heap (o := 3) hR rfl; have z0 := frozen_heap (o := 0) hR; have z1 := frozen_heap (o := 1) hR; have z2 := frozen_heap (o := 2) hR; have z3 := frozen_heap (o := 3) hR))
    | (go_at_call 89; have hwv := (Array.getElem?_eq_some_iff.1 hR).1; have hV := heap_new w1 (.cells #[.int .u8 0, .int .u8 2, .int .u8 0, .int .u8 3] 47) rfl; replace hB := heap_alloc (X := (.cells #[.int .u8 0, .int .u8 2, .int .u8 0, .int .u8 3] 47)) hB; replace hR := heap_alloc (X := (.cells #[.int .u8 0, .int .u8 2, .int .u8 0, .int .u8 3] 47)) hR; replace hK := hK.alloc hK.size (.cells #[.int .u8 0, .int .u8 2, .int .u8 0, .int .u8 3] 47); (have q0 := cell_heap (o := 0) hV rfl; have q1 := cell_heap (o := 1) hV rfl; have q2 := cell_heap (o := 2) hV rfl; have q3 := cell_heap (o := 3) hV rfl; have y0 := frozen_heap (o := 0) hV; have y1 := frozen_heap (o := 1) hV; have y2 := frozen_heap (o := 2) hV; have y3 := frozen_heap (o := 3) hV); refine (hbo.out _ (h.below hK)).mono ?_; rintro e w2 ⟨rfl, hb2⟩; replace hB := heap_old hb2 hB; replace hR := heap_old hb2 hR; replace hV := heap_old hb2 hV; replace hK := Below.next hK (Nat.le_refl _) hb2; clear hb2; (clear b0 b1 b2 b3 b4); (clear r0 r1 r2 r3 z0 z1 z2 z3); (clear q0 q1 q2 q3 y0 y1 y2 y3); (have b0 := cell_heap (o := 0) hB rfl; have b1 := cell_heap (o := 1) hB rfl; have b2 := cell_heap (o := 2) hB rfl; have b3 := cell_heap (o := 3) hB rfl; have b4 := cell_heap (o := 4) hB rfl); (have r0 := cell_heap (o := 0) hR rfl; have r1 := cell_heap (o := 1) hR rfl; have r2 := cell_heap (o := 2) hR rfl; have r3 := cell_heap (o := 3) hR rfl; have z0 := frozen_heap (o := 0) hR; have z1 := frozen_heap (o := 1) hR; have z2 := frozen_heap (o := 2) hR; have z3 := frozen_heap (o := 3) hR); (have q0 := cell_heap (o := 0) hV rfl; have q1 := cell_heap (o := 1) hV rfl; have q2 := cell_heap (o := 2) hV rfl; have q3 := cell_heap (o := 3) hV rfl; have y0 := frozen_heap (o := 0) hV; have y1 := frozen_heap (o := 1) hV; have y2 := frozen_heap (o := 2) hV; have y3 := frozen_heap (o := 3) hV)))
  have nVB : w1.heap.size ≠ w.heap.size := by omega
  have nVR : w1.heap.size ≠ w.heap.size + 1 := by omega
  have nBV : w.heap.size ≠ w1.heap.size := by omega
  have nRV : w.heap.size + 1 ≠ w1.heap.size := by omega
  have hle : w.heap.size ≤ w1.heap.size := by omega
  (clear b0 b1 b2 b3 b4)
  apply region_gen 14 [] [0, 1, 2, 3, 4, 5, 6, 7, 8, 9, 10, 11, 12, 13] [14, 15]; (case hm => kernel_rfl); (case hS => rfl); (case hF => kernel_rfl); (case hB => kernel_rfl); (case hQ => exact fun _ _ _ _ _ h => h); (case f => (exact rfl)); (case hz => exact rfl); (case h => (intro LQ hLQ W1 hW1; have hK1 := Below.next hK (Nat.le_refl _) hW1; have hB1 := heap_old hW1 hB; obtain ⟨d0, d1, d2, d3, d4⟩ := SeenAt.below hC0.out hK1; have b0 := cell_heap (o := 0) hB1 rfl; have b1 := cell_heap (o := 1) hB1 rfl; have b2 := cell_heap (o := 2) hB1 rfl; simp only [pickO, List.drop_succ_cons, List.drop_zero, List.take_succ_cons, List.take_zero, List.cons_append, List.nil_append, List.append_nil, Act.put, List.setIfInBounds_toArray, List.set_cons_succ, List.set_cons_zero]; have hl := @Later.cell; (repeat (go_big_quiet_step (first | (go_at_call 91; exact Calls.later (hac2.out _)) | (go_at_call 92; exact Calls.later (himp.out _))))); exact wpQuiet_nil hLQ)); (intro W2 hW2; simp only [pickO, List.drop_succ_cons, List.drop_zero, List.take_succ_cons, List.take_zero, List.cons_append, List.nil_append, List.append_nil, Act.put, List.setIfInBounds_toArray, List.set_cons_succ, List.set_cons_zero])
  replace hB := heap_old hW2 hB
  replace hR := heap_old hW2 hR
  replace hV := heap_old hW2 hV
  replace hK := Below.next hK (Nat.le_refl _) hW2
  (clear r0 r1 r2 r3 z0 z1 z2 z3)
  (clear q0 q1 q2 q3 y0 y1 y2 y3)
  (have b0 := cell_heap (o := 0) hB rfl; have b1 := cell_heap (o := 1) hB rfl; have b2 := cell_heap (o := 2) hB rfl; have b3 := cell_heap (o := 3) hB rfl; have b4 := cell_heap (o := 4) hB rfl)
  (have r0 := cell_heap (o := 0) hR rfl; have r1 := cell_heap (o := 1) hR rfl; have r2 := cell_heap (o := 2) hR rfl; have r3 := cell_heap (o := 3) hR rfl; have z0 := frozen_heap (o := 0) hR; have z1 := frozen_heap (o := 1) hR; have z2 := frozen_heap (o := 2) hR; have z3 := frozen_heap (o := 3) hR)
  (have q0 := cell_heap (o := 0) hV rfl; have q1 := cell_heap (o := 1) hV rfl; have q2 := cell_heap (o := 2) hV rfl; have q3 := cell_heap (o := 3) hV rfl; have y0 := frozen_heap (o := 0) hV; have y1 := frozen_heap (o := 1) hV; have y2 := frozen_heap (o := 2) hV; have y3 := frozen_heap (o := 3) hV)
  go_wp2_with ((go_at_call 39; replace hB := heap_set_other (g := w1.heap.size) (o := 2) (v := .int .u8 LINE) hB nBV; replace hR := heap_set_other (g := w1.heap.size) (o := 2) (v := .int .u8 LINE) hR nRV; replace hV := heap_set (o := 2) (v := .int .u8 LINE) hV; simp only [List.setIfInBounds_toArray, List.set_cons_succ, List.set_cons_zero] at hV; replace hK := Below.setCell hK hle (.int .u8 LINE) (p := ⟨w1.heap.size, 2, none⟩); refine (hcr.out _ (h.below hK)).mono ?_; rintro e w5 ⟨rfl, hb5⟩; replace hB := heap_old hb5 hB; replace hR := heap_old hb5 hR; replace hV := heap_old hb5 hV; replace hK := Below.next hK (Nat.le_refl _) hb5; clear hb5; (clear b0 b1 b2 b3 b4); (clear r0 r1 r2 r3 z0 z1 z2 z3); (clear q0 q1 q2 q3 y0 y1 y2 y3); (have b0 := cell_heap (o := 0) hB rfl; have b1 := cell_heap (o := 1) hB rfl; have b2 := cell_heap (o := 2) hB rfl; have b3 := cell_heap (o := 3) hB rfl; have b4 := cell_heap (o := 4) hB rfl); (have r0 := cell_heap (o := 0) hR rfl; have r1 := cell_heap (o := 1) hR rfl; have r2 := cell_heap (o := 2) hR rfl; have r3 := cell_heap (o := 3) hR rfl; have z0 := frozen_heap (o := 0) hR; have z1 := frozen_heap (o := 1) hR; have z2 := frozen_heap (o := 2) hR; have z3 := frozen_heap (o := 3) hR); (have q0 := cell_heap (o := 0) hV rfl; have q1 := cell_heap (o := 1) hV rfl; have q2 := cell_heap (o := 2) hV rfl; have q3 := cell_heap (o := 3) hV rfl; have y0 := frozen_heap (o := 0) hV; have y1 := frozen_heap (o := 1) hV; have y2 := frozen_heap (o := 2) hV; have y3 := frozen_heap (o := 3) hV); have hC := heap_new w5 (.cells #[.int .i64 ta, .int .i64 tb, .int .i64 yl, .int .i64 yh, .int .i64 zl, .int .i64 zh] 70) rfl; replace hB := heap_alloc (X := (.cells #[.int .i64 ta, .int .i64 tb, .int .i64 yl, .int .i64 yh, .int .i64 zl, .int .i64 zh] 70)) hB; replace hR := heap_alloc (X := (.cells #[.int .i64 ta, .int .i64 tb, .int .i64 yl, .int .i64 yh, .int .i64 zl, .int .i64 zh] 70)) hR; replace hV := heap_alloc (X := (.cells #[.int .i64 ta, .int .i64 tb, .int .i64 yl, .int .i64 yh, .int .i64 zl, .int .i64 zh] 70)) hV; replace hK := hK.alloc hK.size (.cells #[.int .i64 ta, .int .i64 tb, .int .i64 yl, .int .i64 yh, .int .i64 zl, .int .i64 zh] 70); (clear b0 b1 b2 b3 b4); (clear r0 r1 r2 r3 z0 z1 z2 z3); (clear q0 q1 q2 q3 y0 y1 y2 y3); (have b0 := cell_heap (o := 0) hB rfl; have b1 := cell_heap (o := 1) hB rfl; have b2 := cell_heap (o := 2) hB rfl; have b3 := cell_heap (o := 3) hB rfl; have b4 := cell_heap (o := 4) hB rfl); (have r0 := cell_heap (o := 0) hR rfl; have r1 := cell_heap (o := 1) hR rfl; have r2 := cell_heap (o := 2) hR rfl; have r3 := cell_heap (o := 3) hR rfl; have z0 := frozen_heap (o := 0) hR; have z1 := frozen_heap (o := 1) hR; have z2 := frozen_heap (o := 2) hR; have z3 := frozen_heap (o := 3) hR); (have q0 := cell_heap (o := 0) hV rfl; have q1 := cell_heap (o := 1) hV rfl; have q2 := cell_heap (o := 2) hV rfl; have q3 := cell_heap (o := 3) hV rfl; have y0 := frozen_heap (o := 0) hV; have y1 := frozen_heap (o := 1) hV; have y2 := frozen_heap (o := 2) hV; have y3 := frozen_heap (o := 3) hV); (have c0 := cell_heap (o := 0) hC rfl; have c1 := cell_heap (o := 1) hC rfl; have c2 := cell_heap (o := 2) hC rfl; have c3 := cell_heap (o := 3) hC rfl; have c4 := cell_heap (o := 4) hC rfl; have c5 := cell_heap (o := 5) hC rfl); have hlt5 := (Array.getElem?_eq_some_iff.1 hC).1))
  (clear b0 b1 b2 b3 b4)
  clear c0 c1 c2 c3 c4 c5
  apply region_gen 8 [] [0, 1, 2, 3, 4, 5, 6, 7] [8, 9]; (case hm => kernel_rfl); (case hS => rfl); (case hF => kernel_rfl); (case hB => kernel_rfl); (case hQ => exact fun _ _ _ _ _ h => h); (case f => (exact rfl)); (case hz => exact rfl); (case h => (intro LQ hLQ W1 hW1; have hB1 := heap_old hW1 hB; have hC1 := heap_old hW1 hC; have b1 := cell_heap (o := 1) hB1 rfl; have c2 := cell_heap (o := 2) hC1 rfl; have c3 := cell_heap (o := 3) hC1 rfl; have c4 := cell_heap (o := 4) hC1 rfl; have c5 := cell_heap (o := 5) hC1 rfl; simp only [pickO, List.drop_succ_cons, List.drop_zero, List.take_succ_cons, List.take_zero, List.cons_append, List.nil_append, List.append_nil, Act.put, List.setIfInBounds_toArray, List.set_cons_succ, List.set_cons_zero]; have hl := @Later.cell; (repeat (go_big_quiet_step (first | (go_at_call 94; exact Calls.later (hsd.out _)) | (go_at_call 93; exact Calls.later (hwk.out _))))); exact wpQuiet_nil hLQ)); (intro W2 hW2; simp only [pickO, List.drop_succ_cons, List.drop_zero, List.take_succ_cons, List.take_zero, List.cons_append, List.nil_append, List.append_nil, Act.put, List.setIfInBounds_toArray, List.set_cons_succ, List.set_cons_zero])
  replace hB := heap_old hW2 hB
  replace hR := heap_old hW2 hR
  replace hV := heap_old hW2 hV
  replace hK := Below.next hK (Nat.le_refl _) hW2
  (clear r0 r1 r2 r3 z0 z1 z2 z3)
  (clear q0 q1 q2 q3 y0 y1 y2 y3)
  (have b0 := cell_heap (o := 0) hB rfl; have b1 := cell_heap (o := 1) hB rfl; have b2 := cell_heap (o := 2) hB rfl; have b3 := cell_heap (o := 3) hB rfl; have b4 := cell_heap (o := 4) hB rfl)
  (have r0 := cell_heap (o := 0) hR rfl; have r1 := cell_heap (o := 1) hR rfl; have r2 := cell_heap (o := 2) hR rfl; have r3 := cell_heap (o := 3) hR rfl; have z0 := frozen_heap (o := 0) hR; have z1 := frozen_heap (o := 1) hR; have z2 := frozen_heap (o := 2) hR; have z3 := frozen_heap (o := 3) hR)
  (have q0 := cell_heap (o := 0) hV rfl; have q1 := cell_heap (o := 1) hV rfl; have q2 := cell_heap (o := 2) hV rfl; have q3 := cell_heap (o := 3) hV rfl; have y0 := frozen_heap (o := 0) hV; have y1 := frozen_heap (o := 1) hV; have y2 := frozen_heap (o := 2) hV; have y3 := frozen_heap (o := 3) hV)
  go_wp2_with ((go_at_call 95; replace hB := heap_set_other (g := w1.heap.size) (o := 3) (v := .int .u8 WKT) hB nBV; replace hR := heap_set_other (g := w1.heap.size) (o := 3) (v := .int .u8 WKT) hR nRV; replace hV := heap_set (o := 3) (v := .int .u8 WKT) hV; simp only [List.setIfInBounds_toArray, List.set_cons_succ, List.set_cons_zero] at hV; replace hK := Below.setCell hK hle (.int .u8 WKT) (p := ⟨w1.heap.size, 3, none⟩); refine (hru.out _).mono ?_; rintro e w9 ⟨rfl, rfl⟩; (clear b0 b1 b2 b3 b4); (clear r0 r1 r2 r3 z0 z1 z2 z3); (clear q0 q1 q2 q3 y0 y1 y2 y3); (have b0 := cell_heap (o := 0) hB rfl; have b1 := cell_heap (o := 1) hB rfl; have b2 := cell_heap (o := 2) hB rfl; have b3 := cell_heap (o := 3) hB rfl; have b4 := cell_heap (o := 4) hB rfl); (have r0 := cell_heap (o := 0) hR rfl; have r1 := cell_heap (o := 1) hR rfl; have r2 := cell_heap (o := 2) hR rfl; have r3 := cell_heap (o := 3) hR rfl; have z0 := frozen_heap (o := 0) hR; have z1 := frozen_heap (o := 1) hR; have z2 := frozen_heap (o := 2) hR; have z3 := frozen_heap (o := 3) hR); (have q0 := cell_heap (o := 0) hV rfl; have q1 := cell_heap (o := 1) hV rfl; have q2 := cell_heap (o := 2) hV rfl; have q3 := cell_heap (o := 3) hV rfl; have y0 := frozen_heap (o := 0) hV; have y1 := frozen_heap (o := 1) hV; have y2 := frozen_heap (o := 2) hV; have y3 := frozen_heap (o := 3) hV)))
  replace hR := heap_set_other (g := w1.heap.size) (o := 0) (v := .int .u8 CALL) hR nRV
  replace hV := heap_set (o := 0) (v := .int .u8 CALL) hV
  simp only [List.setIfInBounds_toArray, List.set_cons_succ, List.set_cons_zero] at hV
  replace hK := Below.setCell hK hle (.int .u8 CALL) (p := ⟨w1.heap.size, 0, none⟩)
  have hE := heap_set (o := 3) (v := .int .u8 WKT) (heap_set (o := 2) (v := .int .u8 LINE) (heap_set (o := 1) (v := .int .u8 2) (heap_set (o := 0) (v := .int .u8 CALL) hR)))
  simp only [List.setIfInBounds_toArray, List.set_cons_succ, List.set_cons_zero] at hE
  have k0 := cell_heap (o := 0) hE rfl
  have k1 := cell_heap (o := 1) hE rfl
  have k2 := cell_heap (o := 2) hE rfl
  have k3 := cell_heap (o := 3) hE rfl
  refine bodyPost_ret (v := .tuple #[.agg #[.int .u8 CALL, .int .u8 2, .int .u8 LINE, .int .u8 WKT], .int .i64 0]) (by simp only [results, Try.results48]; go_simp) rfl ⟨rfl, ?_⟩
  exact Below.setCell (Below.setCell (Below.setCell (Below.setCell hK (Nat.le_succ _) _) (Nat.le_succ _) _) (Nat.le_succ _) _) (Nat.le_succ _) _
set_option maxRecDepth 100000 in
set_option maxHeartbeats 8000000 in
theorem rdecide_bc (v : Value) (l : List SN) (left shot bat void : Bool) (w : World) (h : Seens w v l) (hb : behE l = 0) (hq : bncK l ≠ 0) (hc : crsE l = 0) : Calls Try.prog 48 #[.agg #[v, .bool left, .bool shot, .bool bat, .bool void]] w fun e w' => e = .returned (decV l left shot bat void) ∧ Below w.heap.size w w' := by
  have e1 : decV l left shot bat void = .tuple #[.agg #[.int .u8 (decCall l left shot bat void), .int .u8 (decLeg l left), .int .u8 (decLine l left shot), .int .u8 (decWkt l left)], .int .i64 0] := by unfold decV; rw [if_pos hb]
  rw [e1]
  have hck := Lib.hid (fun w' (h : Seens w' v l) => rlcheck_any v l left shot bat void w' h)
  rw [hb] at hck
  have hch := (behE_len hb).1
  have hn2 := beh_pos hb
  have hl64 := chkE_len hch
  have hbo := Lib.hid (fun w' (h : Seens w' v l) => by have := rbounce_ok v l w' h; rwa [show bncQ l = true from by unfold bncQ; simp [hq]] at this)
  have hk := bncK_lt' (l := l) (by omega)
  have hs : l[bncK l]? = some (atS l (bncK l)) := by unfold atS; rw [List.getElem?_eq_getElem hk]
  have hso := chkE_ok hch _ (atS_mem hk)
  have hac1 := Lib.hid (fun w => rplace_ok (atS l (bncK l)) left hso w)
  have hleg := Lib.hid (fun w => rleg_any (plLo (atS l (bncK l)) left) (plHi (atS l (bncK l)) left) w)
  have dL : decLeg l left = ans (plLo (atS l (bncK l)) left) (plHi (atS l (bncK l)) left) (-4611686018427387904) (-1144) := by unfold decLeg; rw [if_neg hq]
  rw [← dL] at hleg
  have hr : l[l.length - 1]? = some (atS l (l.length - 1)) := by unfold atS; rw [List.getElem?_eq_getElem (show l.length - 1 < l.length by omega)]
  have hro := chkE_ok hch _ (atS_mem (show l.length - 1 < l.length by omega))
  have hac2 := Lib.hid (fun w => rplace_ok (atS l (l.length - 1)) left hro w)
  have himp := Lib.hid (fun w => rimpact_any (plLo (atS l (l.length - 1)) left) (plHi (atS l (l.length - 1)) left) shot w)
  have dI : decLine l left shot = impactV (plLo (atS l (l.length - 1)) left) (plHi (atS l (l.length - 1)) left) shot := rfl
  rw [← dI] at himp
  have hcr := Lib.hid (fun w' (h : Seens w' v l) => by have := rcross_any v l w' h; unfold crsV at this; rwa [if_pos hc] at this)
  obtain ⟨hv1, hv2⟩ := cross_valid hc
  have hsd := Lib.hid (fun w => rside35 (cYlo l) (cYhi l) left hv1 w)
  have hwk := Lib.hid (fun w => rwicket_any (sdLo (cYlo l) (cYhi l) left) (sdHi (cYlo l) (cYhi l) left) (cZlo l) (cZhi l) 180 w)
  have dW : decWkt l left = wicketV (sdLo (cYlo l) (cYhi l) left) (sdHi (cYlo l) (cYhi l) left) (cZlo l) (cZhi l) 180 := by unfold decWkt; rw [if_pos hc]
  rw [← dW] at hwk
  unfold cYlo cYhi at hsd hwk
  unfold cZlo cZhi at hwk
  have hru := Lib.hid (fun w => rrule_any (decLeg l left) (decLine l left shot) (decWkt l left) bat void w)
  have dC : decCall l left shot bat void = ruleV (decLeg l left) (decLine l left shot) (decWkt l left) bat void := rfl
  rw [← dC] at hru
  clear dC dI dW dL e1
  generalize decCall l left shot bat void = CALL at *
  generalize decLine l left shot = LINE at *
  generalize decLeg l left = LEG at *
  generalize decWkt l left = WKT at *
  generalize plLo (atS l (bncK l)) left = p1 at *
  generalize plHi (atS l (bncK l)) left = p2 at *
  generalize atS l (bncK l) = s at *
  generalize plLo (atS l (l.length - 1)) left = p3 at *
  generalize plHi (atS l (l.length - 1)) left = p4 at *
  generalize atS l (l.length - 1) = r at *
  generalize sdLo (loR (bnds 1 (bhdL l)) (cT1 l) (cT2 l)) (hiR (bnds 1 (bhdL l)) (cT1 l) (cT2 l)) left = sl at *
  generalize sdHi (loR (bnds 1 (bhdL l)) (cT1 l) (cT2 l)) (hiR (bnds 1 (bhdL l)) (cT1 l) (cT2 l)) left = sh at *
  generalize fallLo (loR (bnds 2 (bhdL l)) (cT1 l) (cT2 l)) (hiR (bnds 2 (bhdL l)) (cT1 l) (cT2 l)) (cT1 l) (cT2 l) = zl at *
  generalize fallHi (loR (bnds 2 (bhdL l)) (cT1 l) (cT2 l)) (hiR (bnds 2 (bhdL l)) (cT1 l) (cT2 l)) (cT1 l) (cT2 l) = zh at *
  generalize loR (bnds 1 (bhdL l)) (cT1 l) (cT2 l) = yl at *
  generalize hiR (bnds 1 (bhdL l)) (cT1 l) (cT2 l) = yh at *
  generalize cT1 l = ta at *
  generalize cT2 l = tb at *
  generalize bncK l = kb at *
  obtain ⟨n, hn⟩ : ∃ n, l.length = n + 1 := ⟨l.length - 1, by omega⟩
  have hn64 : n ≤ 63 := by omega
  have hR0 := Lib.hid hr
  have hS0 := Lib.hid hs
  have hkn : kb < n + 1 := by omega
  clear hs
  clear hr hb hq hc hch hn2 hl64
  have h0 := h
  obtain ⟨pa, b, o, cap, rfl, g1, g2, g3, g4⟩ := h0
  have hcap : cap ≤ 9223372036854775807 := by unfold maxLen at g3; omega
  obtain rfl := g1 (by omega)
  have hrr := hR0.out
  rw [hn, Nat.add_sub_cancel] at hrr
  have hC0 := Lib.hid (g4 n r hrr)
  have hD0 := Lib.hid (g4 kb s hS0.out)
  rw [hn] at g2 h hck hbo hcr ⊢
  clear g4 hrr hR0 g1 hS0
  go_enter Try.func48, Try.ntmps48
  go_wp2_with (first
    | (go_at_call 50; refine (hck.out _ (h.below (by repeat (first | with_reducible exact Below.refl _ _ | with_reducible assumption | with_reducible refine Below.drew ?_ | with_reducible refine Below.setCell ?_ (by first | omega | (simp; omega) | simp) _ | with_reducible refine Below.alloc ?_ (by first | omega | (simp; omega) | simp) _ | with_reducible refine Below.trans ?_ (Below.mono (by with_reducible assumption) (by first | omega | (simp; omega) | simp)))))).mono ?_; rintro e w1 ⟨rfl, hb1⟩; have hB := heap_old hb1 (heap_alloc (X := (.cells #[.int .u8 0, .int .u8 0, .int .u8 0, .int .u8 0] 47)) (heap_new w (.cells #[.slice (some ⟨b, o, none⟩) (n + 1) cap, .bool left, .bool shot, .bool bat, .bool void] 43) rfl)); have hR := heap_old hb1 (heap_new (w.alloc (.cells #[.slice (some ⟨b, o, none⟩) (n + 1) cap, .bool left, .bool shot, .bool bat, .bool void] 43)) (.cells #[.int .u8 0, .int .u8 0, .int .u8 0, .int .u8 0] 47) (b := w.heap.size + 1) (by simp)); have hK := Below.next2 (Below.refl w.heap.size w) (Nat.le_refl _) hb1; clear hb1; (have b0 := cell_heap (o := 0) hB rfl; have b1 := cell_heap (o := 1) hB rfl; have b2 := cell_heap (o := 2) hB rfl; have b3 := cell_heap (o := 3) hB rfl; have b4 := cell_heap (o := 4) hB rfl); (have r0 := cell_heap (o := 0) hR rfl; have r1 := cell_heap (o := 1) hR rfl; have r2 := cell_heap (o := 2) hR rfl; have r3 := cell_heap (o := 3) hR rfl; have z0 := frozen_heap (o := 0) hR; have z1 := frozen_heap (o := 1) hR; have z2 := frozen_heap (o := 2) hR; have z3 := frozen_heap (o := 3) hR))
    | (go_at_call 89; have hwv := (Array.getElem?_eq_some_iff.1 hR).1; have hV := heap_new w1 (.cells #[.int .u8 0, .int .u8 2, .int .u8 0, .int .u8 3] 47) rfl; replace hB := heap_alloc (X := (.cells #[.int .u8 0, .int .u8 2, .int .u8 0, .int .u8 3] 47)) hB; replace hR := heap_alloc (X := (.cells #[.int .u8 0, .int .u8 2, .int .u8 0, .int .u8 3] 47)) hR; replace hK := hK.alloc hK.size (.cells #[.int .u8 0, .int .u8 2, .int .u8 0, .int .u8 3] 47); (have q0 := cell_heap (o := 0) hV rfl; have q1 := cell_heap (o := 1) hV rfl; have q2 := cell_heap (o := 2) hV rfl; have q3 := cell_heap (o := 3) hV rfl; have y0 := frozen_heap (o := 0) hV; have y1 := frozen_heap (o := 1) hV; have y2 := frozen_heap (o := 2) hV; have y3 := frozen_heap (o := 3) hV); refine (hbo.out _ (h.below hK)).mono ?_; rintro e w2 ⟨rfl, hb2⟩; replace hB := heap_old hb2 hB; replace hR := heap_old hb2 hR; replace hV := heap_old hb2 hV; replace hK := Below.next hK (Nat.le_refl _) hb2; clear hb2; (clear b0 b1 b2 b3 b4); (clear r0 r1 r2 r3 z0 z1 z2 z3); (clear q0 q1 q2 q3 y0 y1 y2 y3); (have b0 := cell_heap (o := 0) hB rfl; have b1 := cell_heap (o := 1) hB rfl; have b2 := cell_heap (o := 2) hB rfl; have b3 := cell_heap (o := 3) hB rfl; have b4 := cell_heap (o := 4) hB rfl); (have r0 := cell_heap (o := 0) hR rfl; have r1 := cell_heap (o := 1) hR rfl; have r2 := cell_heap (o := 2) hR rfl; have r3 := cell_heap (o := 3) hR rfl; have z0 := frozen_heap (o := 0) hR; have z1 := frozen_heap (o := 1) hR; have z2 := frozen_heap (o := 2) hR; have z3 := frozen_heap (o := 3) hR); (have q0 := cell_heap (o := 0) hV rfl; have q1 := cell_heap (o := 1) hV rfl; have q2 := cell_heap (o := 2) hV rfl; have q3 := cell_heap (o := 3) hV rfl; have y0 := frozen_heap (o := 0) hV; have y1 := frozen_heap (o := 1) hV; have y2 := frozen_heap (o := 2) hV; have y3 := frozen_heap (o := 3) hV)))
  have nVB : w1.heap.size ≠ w.heap.size := by omega
  have nVR : w1.heap.size ≠ w.heap.size + 1 := by omega
  have nBV : w.heap.size ≠ w1.heap.size := by omega
  have nRV : w.heap.size + 1 ≠ w1.heap.size := by omega
  have hle : w.heap.size ≤ w1.heap.size := by omega
  (clear b0 b1 b2 b3 b4)
  apply region_gen 9 [] [0, 1, 2, 3, 4, 5, 6, 7, 8] [9, 10]; (case hm => kernel_rfl); (case hS => rfl); (case hF => kernel_rfl); (case hB => kernel_rfl); (case hQ => exact fun _ _ _ _ _ h => h); (case f => (exact rfl)); (case hz => exact rfl); (case h => (intro LQ hLQ W1 hW1; have hK1 := Below.next hK (Nat.le_refl _) hW1; have hB1 := heap_old hW1 hB; obtain ⟨d0, d1, d2, d3, d4⟩ := SeenAt.below hD0.out hK1; have b0 := cell_heap (o := 0) hB1 rfl; have b1 := cell_heap (o := 1) hB1 rfl; have b2 := cell_heap (o := 2) hB1 rfl; simp only [pickO, List.drop_succ_cons, List.drop_zero, List.take_succ_cons, List.take_zero, List.cons_append, List.nil_append, List.append_nil, Act.put, List.setIfInBounds_toArray, List.set_cons_succ, List.set_cons_zero]; have hl := @Later.cell; (repeat (go_big_quiet_step (first | (go_at_call 91; exact Calls.later (hac1.out _)) | (go_at_call 90; exact Calls.later (hleg.out _))))); exact wpQuiet_nil hLQ)); (intro W2 hW2; simp only [pickO, List.drop_succ_cons, List.drop_zero, List.take_succ_cons, List.take_zero, List.cons_append, List.nil_append, List.append_nil, Act.put, List.setIfInBounds_toArray, List.set_cons_succ, List.set_cons_zero])
  replace hB := heap_old hW2 hB
  replace hR := heap_old hW2 hR
  replace hV := heap_old hW2 hV
  replace hK := Below.next hK (Nat.le_refl _) hW2
  (clear r0 r1 r2 r3 z0 z1 z2 z3)
  (clear q0 q1 q2 q3 y0 y1 y2 y3)
  (have b0 := cell_heap (o := 0) hB rfl; have b1 := cell_heap (o := 1) hB rfl; have b2 := cell_heap (o := 2) hB rfl; have b3 := cell_heap (o := 3) hB rfl; have b4 := cell_heap (o := 4) hB rfl)
  (have r0 := cell_heap (o := 0) hR rfl; have r1 := cell_heap (o := 1) hR rfl; have r2 := cell_heap (o := 2) hR rfl; have r3 := cell_heap (o := 3) hR rfl; have z0 := frozen_heap (o := 0) hR; have z1 := frozen_heap (o := 1) hR; have z2 := frozen_heap (o := 2) hR; have z3 := frozen_heap (o := 3) hR)
  (have q0 := cell_heap (o := 0) hV rfl; have q1 := cell_heap (o := 1) hV rfl; have q2 := cell_heap (o := 2) hV rfl; have q3 := cell_heap (o := 3) hV rfl; have y0 := frozen_heap (o := 0) hV; have y1 := frozen_heap (o := 1) hV; have y2 := frozen_heap (o := 2) hV; have y3 := frozen_heap (o := 3) hV)
  go_wp2_with fail
  replace hB := heap_set_other (g := w1.heap.size) (o := 1) (v := .int .u8 LEG) hB nBV
  replace hR := heap_set_other (g := w1.heap.size) (o := 1) (v := .int .u8 LEG) hR nRV
  replace hV := heap_set (o := 1) (v := .int .u8 LEG) hV
  simp only [List.setIfInBounds_toArray, List.set_cons_succ, List.set_cons_zero] at hV
  replace hK := Below.setCell hK hle (.int .u8 LEG) (p := ⟨w1.heap.size, 1, none⟩)
  (clear b0 b1 b2 b3 b4)
  (clear r0 r1 r2 r3 z0 z1 z2 z3)
  (clear q0 q1 q2 q3 y0 y1 y2 y3)
  (have b0 := cell_heap (o := 0) hB rfl; have b1 := cell_heap (o := 1) hB rfl; have b2 := cell_heap (o := 2) hB rfl; have b3 := cell_heap (o := 3) hB rfl; have b4 := cell_heap (o := 4) hB rfl)
  (have r0 := cell_heap (o := 0) hR rfl; have r1 := cell_heap (o := 1) hR rfl; have r2 := cell_heap (o := 2) hR rfl; have r3 := cell_heap (o := 3) hR rfl; have z0 := frozen_heap (o := 0) hR; have z1 := frozen_heap (o := 1) hR; have z2 := frozen_heap (o := 2) hR; have z3 := frozen_heap (o := 3) hR)
  (have q0 := cell_heap (o := 0) hV rfl; have q1 := cell_heap (o := 1) hV rfl; have q2 := cell_heap (o := 2) hV rfl; have q3 := cell_heap (o := 3) hV rfl; have y0 := frozen_heap (o := 0) hV; have y1 := frozen_heap (o := 1) hV; have y2 := frozen_heap (o := 2) hV; have y3 := frozen_heap (o := 3) hV)
  generalize World.setCell _ _ _ = wS at *
  (clear b0 b1 b2 b3 b4)
  apply region_gen 14 [] [0, 1, 2, 3, 4, 5, 6, 7, 8, 9, 10, 11, 12, 13] [14, 15]; (case hm => kernel_rfl); (case hS => rfl); (case hF => kernel_rfl); (case hB => kernel_rfl); (case hQ => exact fun _ _ _ _ _ h => h); (case f => (exact rfl)); (case hz => exact rfl); (case h => (intro LQ hLQ W1 hW1; have hK1 := Below.next hK (Nat.le_refl _) hW1; have hB1 := heap_old hW1 hB; obtain ⟨d0, d1, d2, d3, d4⟩ := SeenAt.below hC0.out hK1; have b0 := cell_heap (o := 0) hB1 rfl; have b1 := cell_heap (o := 1) hB1 rfl; have b2 := cell_heap (o := 2) hB1 rfl; simp only [pickO, List.drop_succ_cons, List.drop_zero, List.take_succ_cons, List.take_zero, List.cons_append, List.nil_append, List.append_nil, Act.put, List.setIfInBounds_toArray, List.set_cons_succ, List.set_cons_zero]; have hl := @Later.cell; (repeat (go_big_quiet_step (first | (go_at_call 91; exact Calls.later (hac2.out _)) | (go_at_call 92; exact Calls.later (himp.out _))))); exact wpQuiet_nil hLQ)); (intro W2 hW2; simp only [pickO, List.drop_succ_cons, List.drop_zero, List.take_succ_cons, List.take_zero, List.cons_append, List.nil_append, List.append_nil, Act.put, List.setIfInBounds_toArray, List.set_cons_succ, List.set_cons_zero])
  replace hB := heap_old hW2 hB
  replace hR := heap_old hW2 hR
  replace hV := heap_old hW2 hV
  replace hK := Below.next hK (Nat.le_refl _) hW2
  (clear r0 r1 r2 r3 z0 z1 z2 z3)
  (clear q0 q1 q2 q3 y0 y1 y2 y3)
  (have b0 := cell_heap (o := 0) hB rfl; have b1 := cell_heap (o := 1) hB rfl; have b2 := cell_heap (o := 2) hB rfl; have b3 := cell_heap (o := 3) hB rfl; have b4 := cell_heap (o := 4) hB rfl)
  (have r0 := cell_heap (o := 0) hR rfl; have r1 := cell_heap (o := 1) hR rfl; have r2 := cell_heap (o := 2) hR rfl; have r3 := cell_heap (o := 3) hR rfl; have z0 := frozen_heap (o := 0) hR; have z1 := frozen_heap (o := 1) hR; have z2 := frozen_heap (o := 2) hR; have z3 := frozen_heap (o := 3) hR)
  (have q0 := cell_heap (o := 0) hV rfl; have q1 := cell_heap (o := 1) hV rfl; have q2 := cell_heap (o := 2) hV rfl; have q3 := cell_heap (o := 3) hV rfl; have y0 := frozen_heap (o := 0) hV; have y1 := frozen_heap (o := 1) hV; have y2 := frozen_heap (o := 2) hV; have y3 := frozen_heap (o := 3) hV)
  go_wp2_with ((go_at_call 39; replace hB := heap_set_other (g := w1.heap.size) (o := 2) (v := .int .u8 LINE) hB nBV; replace hR := heap_set_other (g := w1.heap.size) (o := 2) (v := .int .u8 LINE) hR nRV; replace hV := heap_set (o := 2) (v := .int .u8 LINE) hV; simp only [List.setIfInBounds_toArray, List.set_cons_succ, List.set_cons_zero] at hV; replace hK := Below.setCell hK hle (.int .u8 LINE) (p := ⟨w1.heap.size, 2, none⟩); refine (hcr.out _ (h.below hK)).mono ?_; rintro e w5 ⟨rfl, hb5⟩; replace hB := heap_old hb5 hB; replace hR := heap_old hb5 hR; replace hV := heap_old hb5 hV; replace hK := Below.next hK (Nat.le_refl _) hb5; clear hb5; (clear b0 b1 b2 b3 b4); (clear r0 r1 r2 r3 z0 z1 z2 z3); (clear q0 q1 q2 q3 y0 y1 y2 y3); (have b0 := cell_heap (o := 0) hB rfl; have b1 := cell_heap (o := 1) hB rfl; have b2 := cell_heap (o := 2) hB rfl; have b3 := cell_heap (o := 3) hB rfl; have b4 := cell_heap (o := 4) hB rfl); (have r0 := cell_heap (o := 0) hR rfl; have r1 := cell_heap (o := 1) hR rfl; have r2 := cell_heap (o := 2) hR rfl; have r3 := cell_heap (o := 3) hR rfl; have z0 := frozen_heap (o := 0) hR; have z1 := frozen_heap (o := 1) hR; have z2 := frozen_heap (o := 2) hR; have z3 := frozen_heap (o := 3) hR); (have q0 := cell_heap (o := 0) hV rfl; have q1 := cell_heap (o := 1) hV rfl; have q2 := cell_heap (o := 2) hV rfl; have q3 := cell_heap (o := 3) hV rfl; have y0 := frozen_heap (o := 0) hV; have y1 := frozen_heap (o := 1) hV; have y2 := frozen_heap (o := 2) hV; have y3 := frozen_heap (o := 3) hV); have hC := heap_new w5 (.cells #[.int .i64 ta, .int .i64 tb, .int .i64 yl, .int .i64 yh, .int .i64 zl, .int .i64 zh] 70) rfl; replace hB := heap_alloc (X := (.cells #[.int .i64 ta, .int .i64 tb, .int .i64 yl, .int .i64 yh, .int .i64 zl, .int .i64 zh] 70)) hB; replace hR := heap_alloc (X := (.cells #[.int .i64 ta, .int .i64 tb, .int .i64 yl, .int .i64 yh, .int .i64 zl, .int .i64 zh] 70)) hR; replace hV := heap_alloc (X := (.cells #[.int .i64 ta, .int .i64 tb, .int .i64 yl, .int .i64 yh, .int .i64 zl, .int .i64 zh] 70)) hV; replace hK := hK.alloc hK.size (.cells #[.int .i64 ta, .int .i64 tb, .int .i64 yl, .int .i64 yh, .int .i64 zl, .int .i64 zh] 70); (clear b0 b1 b2 b3 b4); (clear r0 r1 r2 r3 z0 z1 z2 z3); (clear q0 q1 q2 q3 y0 y1 y2 y3); (have b0 := cell_heap (o := 0) hB rfl; have b1 := cell_heap (o := 1) hB rfl; have b2 := cell_heap (o := 2) hB rfl; have b3 := cell_heap (o := 3) hB rfl; have b4 := cell_heap (o := 4) hB rfl); (have r0 := cell_heap (o := 0) hR rfl; have r1 := cell_heap (o := 1) hR rfl; have r2 := cell_heap (o := 2) hR rfl; have r3 := cell_heap (o := 3) hR rfl; have z0 := frozen_heap (o := 0) hR; have z1 := frozen_heap (o := 1) hR; have z2 := frozen_heap (o := 2) hR; have z3 := frozen_heap (o := 3) hR); (have q0 := cell_heap (o := 0) hV rfl; have q1 := cell_heap (o := 1) hV rfl; have q2 := cell_heap (o := 2) hV rfl; have q3 := cell_heap (o := 3) hV rfl; have y0 := frozen_heap (o := 0) hV; have y1 := frozen_heap (o := 1) hV; have y2 := frozen_heap (o := 2) hV; have y3 := frozen_heap (o := 3) hV); (have c0 := cell_heap (o := 0) hC rfl; have c1 := cell_heap (o := 1) hC rfl; have c2 := cell_heap (o := 2) hC rfl; have c3 := cell_heap (o := 3) hC rfl; have c4 := cell_heap (o := 4) hC rfl; have c5 := cell_heap (o := 5) hC rfl); have hlt5 := (Array.getElem?_eq_some_iff.1 hC).1))
  (clear b0 b1 b2 b3 b4)
  clear c0 c1 c2 c3 c4 c5
  apply region_gen 8 [] [0, 1, 2, 3, 4, 5, 6, 7] [8, 9]; (case hm => kernel_rfl); (case hS => rfl); (case hF => kernel_rfl); (case hB => kernel_rfl); (case hQ => exact fun _ _ _ _ _ h => h); (case f => (exact rfl)); (case hz => exact rfl); (case h => (intro LQ hLQ W1 hW1; have hB1 := heap_old hW1 hB; have hC1 := heap_old hW1 hC; have b1 := cell_heap (o := 1) hB1 rfl; have c2 := cell_heap (o := 2) hC1 rfl; have c3 := cell_heap (o := 3) hC1 rfl; have c4 := cell_heap (o := 4) hC1 rfl; have c5 := cell_heap (o := 5) hC1 rfl; simp only [pickO, List.drop_succ_cons, List.drop_zero, List.take_succ_cons, List.take_zero, List.cons_append, List.nil_append, List.append_nil, Act.put, List.setIfInBounds_toArray, List.set_cons_succ, List.set_cons_zero]; have hl := @Later.cell; (repeat (go_big_quiet_step (first | (go_at_call 94; exact Calls.later (hsd.out _)) | (go_at_call 93; exact Calls.later (hwk.out _))))); exact wpQuiet_nil hLQ)); (intro W2 hW2; simp only [pickO, List.drop_succ_cons, List.drop_zero, List.take_succ_cons, List.take_zero, List.cons_append, List.nil_append, List.append_nil, Act.put, List.setIfInBounds_toArray, List.set_cons_succ, List.set_cons_zero])
  replace hB := heap_old hW2 hB
  replace hR := heap_old hW2 hR
  replace hV := heap_old hW2 hV
  replace hK := Below.next hK (Nat.le_refl _) hW2
  (clear r0 r1 r2 r3 z0 z1 z2 z3)
  (clear q0 q1 q2 q3 y0 y1 y2 y3)
  (have b0 := cell_heap (o := 0) hB rfl; have b1 := cell_heap (o := 1) hB rfl; have b2 := cell_heap (o := 2) hB rfl; have b3 := cell_heap (o := 3) hB rfl; have b4 := cell_heap (o := 4) hB rfl)
  (have r0 := cell_heap (o := 0) hR rfl; have r1 := cell_heap (o := 1) hR rfl; have r2 := cell_heap (o := 2) hR rfl; have r3 := cell_heap (o := 3) hR rfl; have z0 := frozen_heap (o := 0) hR; have z1 := frozen_heap (o := 1) hR; have z2 := frozen_heap (o := 2) hR; have z3 := frozen_heap (o := 3) hR)
  (have q0 := cell_heap (o := 0) hV rfl; have q1 := cell_heap (o := 1) hV rfl; have q2 := cell_heap (o := 2) hV rfl; have q3 := cell_heap (o := 3) hV rfl; have y0 := frozen_heap (o := 0) hV; have y1 := frozen_heap (o := 1) hV; have y2 := frozen_heap (o := 2) hV; have y3 := frozen_heap (o := 3) hV)
  go_wp2_with ((go_at_call 95; replace hB := heap_set_other (g := w1.heap.size) (o := 3) (v := .int .u8 WKT) hB nBV; replace hR := heap_set_other (g := w1.heap.size) (o := 3) (v := .int .u8 WKT) hR nRV; replace hV := heap_set (o := 3) (v := .int .u8 WKT) hV; simp only [List.setIfInBounds_toArray, List.set_cons_succ, List.set_cons_zero] at hV; replace hK := Below.setCell hK hle (.int .u8 WKT) (p := ⟨w1.heap.size, 3, none⟩); refine (hru.out _).mono ?_; rintro e w9 ⟨rfl, rfl⟩; (clear b0 b1 b2 b3 b4); (clear r0 r1 r2 r3 z0 z1 z2 z3); (clear q0 q1 q2 q3 y0 y1 y2 y3); (have b0 := cell_heap (o := 0) hB rfl; have b1 := cell_heap (o := 1) hB rfl; have b2 := cell_heap (o := 2) hB rfl; have b3 := cell_heap (o := 3) hB rfl; have b4 := cell_heap (o := 4) hB rfl); (have r0 := cell_heap (o := 0) hR rfl; have r1 := cell_heap (o := 1) hR rfl; have r2 := cell_heap (o := 2) hR rfl; have r3 := cell_heap (o := 3) hR rfl; have z0 := frozen_heap (o := 0) hR; have z1 := frozen_heap (o := 1) hR; have z2 := frozen_heap (o := 2) hR; have z3 := frozen_heap (o := 3) hR); (have q0 := cell_heap (o := 0) hV rfl; have q1 := cell_heap (o := 1) hV rfl; have q2 := cell_heap (o := 2) hV rfl; have q3 := cell_heap (o := 3) hV rfl; have y0 := frozen_heap (o := 0) hV; have y1 := frozen_heap (o := 1) hV; have y2 := frozen_heap (o := 2) hV; have y3 := frozen_heap (o := 3) hV)))
  replace hR := heap_set_other (g := w1.heap.size) (o := 0) (v := .int .u8 CALL) hR nRV
  replace hV := heap_set (o := 0) (v := .int .u8 CALL) hV
  simp only [List.setIfInBounds_toArray, List.set_cons_succ, List.set_cons_zero] at hV
  replace hK := Below.setCell hK hle (.int .u8 CALL) (p := ⟨w1.heap.size, 0, none⟩)
  have hE := heap_set (o := 3) (v := .int .u8 WKT) (heap_set (o := 2) (v := .int .u8 LINE) (heap_set (o := 1) (v := .int .u8 LEG) (heap_set (o := 0) (v := .int .u8 CALL) hR)))
  simp only [List.setIfInBounds_toArray, List.set_cons_succ, List.set_cons_zero] at hE
  have k0 := cell_heap (o := 0) hE rfl
  have k1 := cell_heap (o := 1) hE rfl
  have k2 := cell_heap (o := 2) hE rfl
  have k3 := cell_heap (o := 3) hE rfl
  refine bodyPost_ret (v := .tuple #[.agg #[.int .u8 CALL, .int .u8 LEG, .int .u8 LINE, .int .u8 WKT], .int .i64 0]) (by simp only [results, Try.results48]; go_simp) rfl ⟨rfl, ?_⟩
  exact Below.setCell (Below.setCell (Below.setCell (Below.setCell hK (Nat.le_succ _) _) (Nat.le_succ _) _) (Nat.le_succ _) _) (Nat.le_succ _) _
theorem rdecide_any (v : Value) (l : List SN) (left shot bat void : Bool) (w : World) (h : Seens w v l)  : Calls Try.prog 48 #[.agg #[v, .bool left, .bool shot, .bool bat, .bool void]] w fun e w' => e = .returned (decV l left shot bat void) ∧ Below w.heap.size w w' := by
  by_cases hb : behE l = 0
  · by_cases hq : bncK l = 0
    · by_cases hc : crsE l = 0
      · exact rdecide_nc v l left shot bat void w h hb hq hc
      · exact rdecide_nm v l left shot bat void w h hb hq hc
    · by_cases hc : crsE l = 0
      · exact rdecide_bc v l left shot bat void w h hb hq hc
      · exact rdecide_bm v l left shot bat void w h hb hq hc
  · exact rdecide_bad v l left shot bat void w h hb
end Go.Proofs.Ytmdledlbkdcmnaa

/-
  The walks of the statements on decisions: the reference's answers, excuses.
  Conditions: none.
-/
namespace Go.Proofs.Ytmdledlbkdcmnaa
open Go.RowKit
theorem lfew_any (v : Value) (l : List SN) (w : World) (h : Seens w v l) : Calls Try.prog 47 #[v] w fun e w' => e = .returned (.bool (fewB l)) ∧ Below w.heap.size w w' := by
  obtain ⟨pa, b, o, cap, rfl, h1, h2, h3, h4⟩ := h
  go_enter Try.func47, Try.ntmps47
  go_wp2_with fail
  all_goals (go_ret; refine ⟨ret_bool ?_, (by repeat (first | with_reducible exact Below.refl _ _ | with_reducible assumption | with_reducible refine Below.drew ?_ | with_reducible refine Below.setCell ?_ (by first | omega | (simp; omega) | simp) _ | with_reducible refine Below.alloc ?_ (by first | omega | (simp; omega) | simp) _ | with_reducible refine Below.trans ?_ (Below.mono (by with_reducible assumption) (by first | omega | (simp; omega) | simp))))⟩; unfold fewB; grind)
theorem decV_form (l : List SN) (left shot bat void : Bool) : ∃ x0 x1 x2 x3 : Int, decV l left shot bat void = .tuple #[.agg #[.int .u8 x0, .int .u8 x1, .int .u8 x2, .int .u8 x3], .int .i64 (behE l)] := by
  unfold decV
  by_cases h : behE l = 0
  · rw [if_pos h, h]; exact ⟨_, _, _, _, rfl⟩
  · rw [if_neg h]; exact ⟨_, _, _, _, rfl⟩
set_option maxRecDepth 100000 in
set_option maxHeartbeats 4000000 in
theorem lbwDecides_walk (v : Value) (l : List SN) (left shot bat void : Bool) (w : World) (h : Seens w v l) : Calls Try.prog 13 #[.agg #[v, .bool left, .bool shot, .bool bat, .bool void]] w fun e w' => e = .returned (.bool true) ∧ Below w.heap.size w w' := by
  have hf := Lib.hid (fun w' (h : Seens w' v l) => lfew_any v l w' h)
  have h1 := Lib.hid (fun w' (h : Seens w' v l) => decide_any v l left shot bat void w' h)
  have h2 := Lib.hid (fun w' (h : Seens w' v l) => rdecide_any v l left shot bat void w' h)
  have h3 := Lib.hid (fun w' (h : Seens w' v l) => lcheck_any v l left shot bat void w' h)
  have h4 := Lib.hid (fun w' (h : Seens w' v l) => rlcheck_any v l left shot bat void w' h)
  obtain ⟨x0, x1, x2, x3, e⟩ := decV_form l left shot bat void
  rw [e] at h1 h2
  clear e
  generalize behE l = E at *
  generalize fewB l = fb at *
  cases fb
  · go_enter Try.func13, Try.ntmps13
    go_wp2_with (first
      | (go_at_call 46; refine (awake35_any _).mono ?_; rintro e w1 ⟨rfl, hb1⟩; have hB := heap_old hb1 (heap_new w (.cells #[v, .bool left, .bool shot, .bool bat, .bool void] 43) rfl); have hK := Below.next1 (Below.refl w.heap.size w) (Nat.le_refl _) hb1; clear hb1; (have b0 := cell_heap (o := 0) hB rfl; have b1 := cell_heap (o := 1) hB rfl; have b2 := cell_heap (o := 2) hB rfl; have b3 := cell_heap (o := 3) hB rfl; have b4 := cell_heap (o := 4) hB rfl))
      | (go_at_call 47; refine (hf.out _ (h.below hK)).mono ?_; rintro e w2 ⟨rfl, hb2⟩; replace hB := heap_old hb2 hB; replace hK := Below.next hK (Nat.le_refl _) hb2; clear hb2; (clear b0 b1 b2 b3 b4); (have b0 := cell_heap (o := 0) hB rfl; have b1 := cell_heap (o := 1) hB rfl; have b2 := cell_heap (o := 2) hB rfl; have b3 := cell_heap (o := 3) hB rfl; have b4 := cell_heap (o := 4) hB rfl)))
    go_ret
    exact ⟨rfl, hK⟩
  · go_enter Try.func13, Try.ntmps13
    go_wp2_with (first
      | (go_at_call 46; refine (awake35_any _).mono ?_; rintro e w1 ⟨rfl, hb1⟩; have hB := heap_old hb1 (heap_new w (.cells #[v, .bool left, .bool shot, .bool bat, .bool void] 43) rfl); have hK := Below.next1 (Below.refl w.heap.size w) (Nat.le_refl _) hb1; clear hb1; (have b0 := cell_heap (o := 0) hB rfl; have b1 := cell_heap (o := 1) hB rfl; have b2 := cell_heap (o := 2) hB rfl; have b3 := cell_heap (o := 3) hB rfl; have b4 := cell_heap (o := 4) hB rfl))
      | (go_at_call 47; refine (hf.out _ (h.below hK)).mono ?_; rintro e w2 ⟨rfl, hb2⟩; replace hB := heap_old hb2 hB; replace hK := Below.next hK (Nat.le_refl _) hb2; clear hb2; (clear b0 b1 b2 b3 b4); (have b0 := cell_heap (o := 0) hB rfl; have b1 := cell_heap (o := 1) hB rfl; have b2 := cell_heap (o := 2) hB rfl; have b3 := cell_heap (o := 3) hB rfl; have b4 := cell_heap (o := 4) hB rfl))
      | (go_at_call 23; refine (h1.out _ (h.below hK)).mono ?_; rintro e w3 ⟨rfl, hb3⟩; have hV := heap_new w3 (.cells #[.int .u8 x0, .int .u8 x1, .int .u8 x2, .int .u8 x3] 47) rfl; replace hB := heap_alloc (X := .cells #[.int .u8 x0, .int .u8 x1, .int .u8 x2, .int .u8 x3] 47) (heap_old hb3 hB); replace hK := (Below.next hK (Nat.le_refl _) hb3); replace hK := hK.alloc hK.size (.cells #[.int .u8 x0, .int .u8 x1, .int .u8 x2, .int .u8 x3] 47); (clear b0 b1 b2 b3 b4); (have b0 := cell_heap (o := 0) hB rfl; have b1 := cell_heap (o := 1) hB rfl; have b2 := cell_heap (o := 2) hB rfl; have b3 := cell_heap (o := 3) hB rfl; have b4 := cell_heap (o := 4) hB rfl))
      | (go_at_call 48; refine (h2.out _ (h.below hK)).mono ?_; rintro e w4 ⟨rfl, hb4⟩; have hU := heap_new w4 (.cells #[.int .u8 x0, .int .u8 x1, .int .u8 x2, .int .u8 x3] 47) rfl; replace hB := heap_alloc (X := .cells #[.int .u8 x0, .int .u8 x1, .int .u8 x2, .int .u8 x3] 47) (heap_old hb4 hB); replace hV := heap_alloc (X := .cells #[.int .u8 x0, .int .u8 x1, .int .u8 x2, .int .u8 x3] 47) (heap_old hb4 hV); replace hK := (Below.next hK (Nat.le_refl _) hb4); replace hK := hK.alloc hK.size (.cells #[.int .u8 x0, .int .u8 x1, .int .u8 x2, .int .u8 x3] 47)))
    (clear b0 b1 b2 b3 b4)
    generalize World.alloc _ _ = w5 at *
    (have b0 := cell_heap (o := 0) hB rfl; have b1 := cell_heap (o := 1) hB rfl; have b2 := cell_heap (o := 2) hB rfl; have b3 := cell_heap (o := 3) hB rfl; have b4 := cell_heap (o := 4) hB rfl)
    have v0 := cell_heap (o := 0) hV rfl
    have v1 := cell_heap (o := 1) hV rfl
    have v2 := cell_heap (o := 2) hV rfl
    have v3 := cell_heap (o := 3) hV rfl
    have y0 := cell_heap (o := 0) hU rfl
    have y1 := cell_heap (o := 1) hU rfl
    have y2 := cell_heap (o := 2) hU rfl
    have y3 := cell_heap (o := 3) hU rfl
    have hS5 := h.below hK
    have hl := @Later.cell
    refine region_later (by kernel_rfl) (by kernel_rfl) ?_; (repeat (go_big_quiet_step (first | (go_at_call 49; exact Calls.later (h3.out _ (hS5.below (later_below _)))) | (go_at_call 50; exact Calls.later (h4.out _ (hS5.below (later_below _))))))); refine wpQuiet_nil ?_; rintro _ ⟨x, rfl⟩; obtain ⟨w', hb⟩ := x; (try clear hc hf); (try clear hcM hfM); (try clear hcN hfN); (first | ((first | replace hB := Below.next hB (Nat.le_refl _) hb | replace hB := Below.next1 hB (Nat.le_refl _) hb | replace hB := Below.next2 hB (Nat.le_refl _) hb); (first | replace hM := Below.next hM (Nat.le_refl _) hb | replace hM := Below.next1 hM (Nat.le_refl _) hb | replace hM := Below.next2 hM (Nat.le_refl _) hb); (first | replace hN := Below.next hN (Nat.le_refl _) hb | replace hN := Below.next1 hN (Nat.le_refl _) hb | replace hN := Below.next2 hN (Nat.le_refl _) hb)) | ((first | replace hB := Below.next hB (Nat.le_refl _) hb | replace hB := Below.next1 hB (Nat.le_refl _) hb | replace hB := Below.next2 hB (Nat.le_refl _) hb); (first | replace hM := Below.next hM (Nat.le_refl _) hb | replace hM := Below.next1 hM (Nat.le_refl _) hb | replace hM := Below.next2 hM (Nat.le_refl _) hb); have hN := Below.mid hb) | ((first | replace hB := Below.next hB (Nat.le_refl _) hb | replace hB := Below.next1 hB (Nat.le_refl _) hb | replace hB := Below.next2 hB (Nat.le_refl _) hb); (first | replace hM := Below.next hM (Nat.le_refl _) hb | replace hM := Below.next1 hM (Nat.le_refl _) hb | replace hM := Below.next2 hM (Nat.le_refl _) hb)) | ((first | replace hB := Below.next hB (Nat.le_refl _) hb | replace hB := Below.next1 hB (Nat.le_refl _) hb | replace hB := Below.next2 hB (Nat.le_refl _) hb); have hM := Below.mid hb) | (first | replace hB := Below.next hB (Nat.le_refl _) hb | replace hB := Below.next1 hB (Nat.le_refl _) hb | replace hB := Below.next2 hB (Nat.le_refl _) hb) | have hB := hb); obtain ⟨hc, hf, hz⟩ := after hB; (try (have hq := after hM; obtain ⟨hcM, hfM, hzM⟩ := hq)); (try (have hq := after hN; obtain ⟨hcN, hfN, hzN⟩ := hq)); have hs := hb.size; (try simp at hz); (try simp at hs)
    dsimp only
    go_wp2_with fail
    go_ret
    exact ⟨rfl, Below.next hK (Nat.le_refl _) hb⟩
theorem decV_bad {l : List SN} {left shot bat void : Bool} (h : behE l ≠ 0) : decV l left shot bat void = .tuple #[.agg #[.int .u8 0, .int .u8 0, .int .u8 0, .int .u8 0], .int .i64 (behE l)] := by unfold decV; rw [if_neg h]
theorem decV_good {l : List SN} {left shot bat void : Bool} (h : behE l = 0) : decV l left shot bat void = .tuple #[.agg #[.int .u8 (decCall l left shot bat void), .int .u8 (decLeg l left), .int .u8 (decLine l left shot), .int .u8 (decWkt l left)], .int .i64 0] := by unfold decV; rw [if_pos h]
theorem call_bat (l : List SN) (left shot void : Bool) : decCall l left shot true void = 2 := by unfold decCall ruleV; rw [if_pos (.inl rfl)]
theorem call_void (l : List SN) (left shot bat : Bool) : decCall l left shot bat true = 2 := by unfold decCall ruleV; rw [if_pos (.inr (.inl rfl))]
set_option maxRecDepth 100000 in
set_option maxHeartbeats 4000000 in
theorem lbwExcuses_few (v : Value) (l : List SN) (left shot bat void : Bool) (w : World) (h : Seens w v l) (hfb : fewB l = false) : Calls Try.prog 14 #[.agg #[v, .bool left, .bool shot, .bool bat, .bool void]] w fun e w' => e = .returned (.bool true) ∧ Below w.heap.size w w' := by
  have hf := Lib.hid (fun w' (h : Seens w' v l) => by have := lfew_any v l w' h; rwa [hfb] at this)
  go_enter Try.func14, Try.ntmps14
  go_wp2_with (first
    | (go_at_call 46; refine (awake35_any _).mono ?_; rintro e w1 ⟨rfl, hb1⟩; have hB := heap_old hb1 (heap_new w (.cells #[v, .bool left, .bool shot, .bool bat, .bool void] 43) rfl); have hK := Below.next1 (Below.refl w.heap.size w) (Nat.le_refl _) hb1; clear hb1; (have b0 := cell_heap (o := 0) hB rfl; have b1 := cell_heap (o := 1) hB rfl; have b2 := cell_heap (o := 2) hB rfl; have b3 := cell_heap (o := 3) hB rfl; have b4 := cell_heap (o := 4) hB rfl))
    | (go_at_call 47; refine (hf.out _ (h.below hK)).mono ?_; rintro e w2 ⟨rfl, hb2⟩; replace hB := heap_old hb2 hB; replace hK := Below.next hK (Nat.le_refl _) hb2; clear hb2; (clear b0 b1 b2 b3 b4); (have b0 := cell_heap (o := 0) hB rfl; have b1 := cell_heap (o := 1) hB rfl; have b2 := cell_heap (o := 2) hB rfl; have b3 := cell_heap (o := 3) hB rfl; have b4 := cell_heap (o := 4) hB rfl)))
  go_ret
  exact ⟨rfl, hK⟩
set_option maxRecDepth 100000 in
set_option maxHeartbeats 4000000 in
theorem lbwExcuses_bad (v : Value) (l : List SN) (left shot bat void : Bool) (w : World) (h : Seens w v l) (hfb : fewB l = true) (hb : behE l ≠ 0) : Calls Try.prog 14 #[.agg #[v, .bool left, .bool shot, .bool bat, .bool void]] w fun e w' => e = .returned (.bool true) ∧ Below w.heap.size w w' := by
  have hf := Lib.hid (fun w' (h : Seens w' v l) => by have := lfew_any v l w' h; rwa [hfb] at this)
  have h1 := Lib.hid (fun w' (h : Seens w' v l) => by have := decide_any v l left shot bat void w' h; rwa [decV_bad hb] at this)
  have h2 := Lib.hid (fun w' (h : Seens w' v l) => by have := decide_any v l left shot false true w' h; rwa [decV_bad hb] at this)
  have h3 := Lib.hid (fun w' (h : Seens w' v l) => lcheck_any v l left shot bat void w' h)
  have hn : (behE l != 0) = true := by simpa using hb
  clear hb
  generalize behE l = E at *
  have hcp := h
  obtain ⟨pa, b, o, cap, rfl, g1, g2, g3, g4⟩ := hcp
  clear g4 g1
  go_enter Try.func14, Try.ntmps14
  go_wp2_with (first
    | (go_at_call 46; refine (awake35_any _).mono ?_; rintro e w1 ⟨rfl, hb1⟩; have hB := heap_old hb1 (heap_new w (.cells #[.slice pa l.length cap, .bool left, .bool shot, .bool bat, .bool void] 43) rfl); have hK := Below.next1 (Below.refl w.heap.size w) (Nat.le_refl _) hb1; clear hb1; (have b0 := cell_heap (o := 0) hB rfl; have b1 := cell_heap (o := 1) hB rfl; have b2 := cell_heap (o := 2) hB rfl; have b3 := cell_heap (o := 3) hB rfl; have b4 := cell_heap (o := 4) hB rfl))
    | (go_at_call 47; refine (hf.out _ (h.below hK)).mono ?_; rintro e w2 ⟨rfl, hb2⟩; replace hB := heap_old hb2 hB; replace hK := Below.next hK (Nat.le_refl _) hb2; clear hb2; (clear b0 b1 b2 b3 b4); (have b0 := cell_heap (o := 0) hB rfl; have b1 := cell_heap (o := 1) hB rfl; have b2 := cell_heap (o := 2) hB rfl; have b3 := cell_heap (o := 3) hB rfl; have b4 := cell_heap (o := 4) hB rfl))
    | (go_at_call 23; have hq0 := hV; clear hq0; refine (h2.out _ (h.below hK)).mono ?_; rintro e w4 ⟨rfl, hb4⟩; have hU := heap_new w4 (.cells #[.int .u8 0, .int .u8 0, .int .u8 0, .int .u8 0] 47) rfl; replace hB := heap_alloc (X := (.cells #[.int .u8 0, .int .u8 0, .int .u8 0, .int .u8 0] 47)) (heap_old hb4 hB); replace hV := heap_alloc (X := (.cells #[.int .u8 0, .int .u8 0, .int .u8 0, .int .u8 0] 47)) (heap_old hb4 hV); replace hK := Below.next hK (Nat.le_refl _) hb4; replace hK := hK.alloc hK.size (.cells #[.int .u8 0, .int .u8 0, .int .u8 0, .int .u8 0] 47); clear hb4; (clear b0 b1 b2 b3 b4); clear c0 c1 c2 c3 c4 hC2; (have b0 := cell_heap (o := 0) hB rfl; have b1 := cell_heap (o := 1) hB rfl; have b2 := cell_heap (o := 2) hB rfl; have b3 := cell_heap (o := 3) hB rfl; have b4 := cell_heap (o := 4) hB rfl); have v0 := cell_heap (o := 0) hV rfl; have v1 := cell_heap (o := 1) hV rfl; have v2 := cell_heap (o := 2) hV rfl; have v3 := cell_heap (o := 3) hV rfl; have y0 := cell_heap (o := 0) hU rfl; have y1 := cell_heap (o := 1) hU rfl; have y2 := cell_heap (o := 2) hU rfl; have y3 := cell_heap (o := 3) hU rfl)
    | (go_at_call 23; have hC2 := heap_new w2 (.cells #[.slice pa l.length cap, .bool left, .bool shot, .bool false, .bool true] 43) rfl; replace hB := heap_alloc (X := (.cells #[.slice pa l.length cap, .bool left, .bool shot, .bool false, .bool true] 43)) hB; replace hK := hK.alloc hK.size (.cells #[.slice pa l.length cap, .bool left, .bool shot, .bool false, .bool true] 43); refine (h1.out _ (h.below hK)).mono ?_; rintro e w3 ⟨rfl, hb3⟩; have hV := heap_new w3 (.cells #[.int .u8 0, .int .u8 0, .int .u8 0, .int .u8 0] 47) rfl; replace hB := heap_alloc (X := (.cells #[.int .u8 0, .int .u8 0, .int .u8 0, .int .u8 0] 47)) (heap_old hb3 hB); replace hC2 := heap_alloc (X := (.cells #[.int .u8 0, .int .u8 0, .int .u8 0, .int .u8 0] 47)) (heap_old hb3 hC2); replace hK := Below.next hK (Nat.le_refl _) hb3; replace hK := hK.alloc hK.size (.cells #[.int .u8 0, .int .u8 0, .int .u8 0, .int .u8 0] 47); clear hb3; (clear b0 b1 b2 b3 b4); (have b0 := cell_heap (o := 0) hB rfl; have b1 := cell_heap (o := 1) hB rfl; have b2 := cell_heap (o := 2) hB rfl; have b3 := cell_heap (o := 3) hB rfl; have b4 := cell_heap (o := 4) hB rfl); have c0 := cell_heap (o := 0) hC2 rfl; have c1 := cell_heap (o := 1) hC2 rfl; have c2 := cell_heap (o := 2) hC2 rfl; have c3 := cell_heap (o := 3) hC2 rfl; have c4 := cell_heap (o := 4) hC2 rfl)
    | (go_at_call 49; refine (h3.out _ (h.below hK)).mono ?_; rintro e w5 ⟨rfl, hb5⟩; replace hK := Below.next hK (Nat.le_refl _) hb5))
  go_ret
  exact ⟨rfl, hK⟩
set_option maxRecDepth 100000 in
set_option maxHeartbeats 4000000 in
theorem lbwExcuses_ok (v : Value) (l : List SN) (left shot bat void : Bool) (w : World) (h : Seens w v l) (hfb : fewB l = true) (hb : behE l = 0) : Calls Try.prog 14 #[.agg #[v, .bool left, .bool shot, .bool bat, .bool void]] w fun e w' => e = .returned (.bool true) ∧ Below w.heap.size w w' := by
  have hf := Lib.hid (fun w' (h : Seens w' v l) => by have := lfew_any v l w' h; rwa [hfb] at this)
  have hv := decV_good (left := left) (shot := shot) (bat := bat) (void := void) hb
  have hv2 := decV_good (left := left) (shot := shot) (bat := false) (void := true) hb
  rw [call_void] at hv2
  have h1 := Lib.hid (fun w' (h : Seens w' v l) => by have := decide_any v l left shot bat void w' h; rwa [hv] at this)
  have h2 := Lib.hid (fun w' (h : Seens w' v l) => by have := decide_any v l left shot false true w' h; rwa [hv2] at this)
  have hcl : (bat = false ∧ void = false) ∨ decCall l left shot bat void = 2 := by
    cases bat
    · cases void
      · exact .inl ⟨rfl, rfl⟩
      · exact .inr (call_void _ _ _ _)
    · exact .inr (call_bat _ _ _ _)
  clear hv hv2 hb
  generalize decCall l left shot bat void = CA at *
  generalize decLeg l left = LE at *
  generalize decLine l left shot = LI at *
  generalize decWkt l left = WK at *
  have hCL := Lib.hid hcl
  clear hcl
  have hcp := h
  obtain ⟨pa, b, o, cap, rfl, g1, g2, g3, g4⟩ := hcp
  clear g4 g1
  go_enter Try.func14, Try.ntmps14
  go_wp2_with (first
    | (go_at_call 46; refine (awake35_any _).mono ?_; rintro e w1 ⟨rfl, hb1⟩; have hB := heap_old hb1 (heap_new w (.cells #[.slice pa l.length cap, .bool left, .bool shot, .bool bat, .bool void] 43) rfl); have hK := Below.next1 (Below.refl w.heap.size w) (Nat.le_refl _) hb1; clear hb1; (have b0 := cell_heap (o := 0) hB rfl; have b1 := cell_heap (o := 1) hB rfl; have b2 := cell_heap (o := 2) hB rfl; have b3 := cell_heap (o := 3) hB rfl; have b4 := cell_heap (o := 4) hB rfl))
    | (go_at_call 47; refine (hf.out _ (h.below hK)).mono ?_; rintro e w2 ⟨rfl, hb2⟩; replace hB := heap_old hb2 hB; replace hK := Below.next hK (Nat.le_refl _) hb2; clear hb2; (clear b0 b1 b2 b3 b4); (have b0 := cell_heap (o := 0) hB rfl; have b1 := cell_heap (o := 1) hB rfl; have b2 := cell_heap (o := 2) hB rfl; have b3 := cell_heap (o := 3) hB rfl; have b4 := cell_heap (o := 4) hB rfl))
    | (go_at_call 23; have hq0 := hV; clear hq0; refine (h2.out _ (h.below hK)).mono ?_; rintro e w4 ⟨rfl, hb4⟩; have hU := heap_new w4 (.cells #[.int .u8 2, .int .u8 LE, .int .u8 LI, .int .u8 WK] 47) rfl; replace hB := heap_alloc (X := (.cells #[.int .u8 2, .int .u8 LE, .int .u8 LI, .int .u8 WK] 47)) (heap_old hb4 hB); replace hV := heap_alloc (X := (.cells #[.int .u8 2, .int .u8 LE, .int .u8 LI, .int .u8 WK] 47)) (heap_old hb4 hV); replace hK := Below.next hK (Nat.le_refl _) hb4; replace hK := hK.alloc hK.size (.cells #[.int .u8 2, .int .u8 LE, .int .u8 LI, .int .u8 WK] 47); clear hb4; (clear b0 b1 b2 b3 b4); clear c0 c1 c2 c3 c4 hC2; (have b0 := cell_heap (o := 0) hB rfl; have b1 := cell_heap (o := 1) hB rfl; have b2 := cell_heap (o := 2) hB rfl; have b3 := cell_heap (o := 3) hB rfl; have b4 := cell_heap (o := 4) hB rfl); have v0 := cell_heap (o := 0) hV rfl; have v1 := cell_heap (o := 1) hV rfl; have v2 := cell_heap (o := 2) hV rfl; have v3 := cell_heap (o := 3) hV rfl; have y0 := cell_heap (o := 0) hU rfl; have y1 := cell_heap (o := 1) hU rfl; have y2 := cell_heap (o := 2) hU rfl; have y3 := cell_heap (o := 3) hU rfl)
    | (go_at_call 23; have hC2 := heap_new w2 (.cells #[.slice pa l.length cap, .bool left, .bool shot, .bool false, .bool true] 43) rfl; replace hB := heap_alloc (X := (.cells #[.slice pa l.length cap, .bool left, .bool shot, .bool false, .bool true] 43)) hB; replace hK := hK.alloc hK.size (.cells #[.slice pa l.length cap, .bool left, .bool shot, .bool false, .bool true] 43); refine (h1.out _ (h.below hK)).mono ?_; rintro e w3 ⟨rfl, hb3⟩; have hV := heap_new w3 (.cells #[.int .u8 CA, .int .u8 LE, .int .u8 LI, .int .u8 WK] 47) rfl; replace hB := heap_alloc (X := (.cells #[.int .u8 CA, .int .u8 LE, .int .u8 LI, .int .u8 WK] 47)) (heap_old hb3 hB); replace hC2 := heap_alloc (X := (.cells #[.int .u8 CA, .int .u8 LE, .int .u8 LI, .int .u8 WK] 47)) (heap_old hb3 hC2); replace hK := Below.next hK (Nat.le_refl _) hb3; replace hK := hK.alloc hK.size (.cells #[.int .u8 CA, .int .u8 LE, .int .u8 LI, .int .u8 WK] 47); clear hb3; (clear b0 b1 b2 b3 b4); (have b0 := cell_heap (o := 0) hB rfl; have b1 := cell_heap (o := 1) hB rfl; have b2 := cell_heap (o := 2) hB rfl; have b3 := cell_heap (o := 3) hB rfl; have b4 := cell_heap (o := 4) hB rfl); have c0 := cell_heap (o := 0) hC2 rfl; have c1 := cell_heap (o := 1) hC2 rfl; have c2 := cell_heap (o := 2) hC2 rfl; have c3 := cell_heap (o := 3) hC2 rfl; have c4 := cell_heap (o := 4) hC2 rfl)
    | fail)
  all_goals
    go_ret
    refine ⟨ret_bool ?_, hK⟩
    rcases hCL.out with ⟨rfl, rfl⟩ | rfl <;> simp_all
theorem lbwExcuses_walk (v : Value) (l : List SN) (left shot bat void : Bool) (w : World) (h : Seens w v l) : Calls Try.prog 14 #[.agg #[v, .bool left, .bool shot, .bool bat, .bool void]] w fun e w' => e = .returned (.bool true) ∧ Below w.heap.size w w' := by
  cases hfb : fewB l with
  | false => exact lbwExcuses_few v l left shot bat void w h hfb
  | true =>
    by_cases hb : behE l = 0
    · exact lbwExcuses_ok v l left shot bat void w h hfb hb
    · exact lbwExcuses_bad v l left shot bat void w h hfb hb
end Go.Proofs.Ytmdledlbkdcmnaa
