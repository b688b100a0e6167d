/-
  Contracts and laws, merged: TopAcross TopCrossing.
  Conditions: none.
-/
import Derived.Test.YtmdledlbkdcmnaaM20
import Derived.Test.YtmdledlbkdcmnaaM23
import Derived.Test.YtmdledlbkdcmnaaM13
set_option linter.unusedSimpArgs false
set_option linter.unusedVariables false
/-
  Contracts of the statement's across and height.
  Conditions: none.
-/
namespace Go.Proofs.Ytmdledlbkdcmnaa
open Go.RowKit
set_option linter.unusedSimpArgs false
/-- Points whose numbers are small enough. -/
def smallP (m : Int) (a : Int × Int) : Prop := (0 ≤ a.1 ∧ a.1 ≤ 8000) ∧ -m ≤ a.2 ∧ a.2 ≤ m
theorem ord_small {m : Int} {a b : Int × Int} (ha : smallP m a) (hb : smallP m b) : smallP m (ordA a b) ∧ smallP m (ordB a b) := by
  rcases ord_split a b with ⟨_, e1, e2⟩ | ⟨_, e1, e2⟩
  · rw [e1, e2]; exact ⟨hb, ha⟩
  · rw [e1, e2]; exact ⟨ha, hb⟩
set_option maxRecDepth 100000 in
set_option maxHeartbeats 4000000 in
theorem tacross_any (a b : Int × Int) (n d bound : Int) (ha : smallP 33554432 a) (hb : smallP 33554432 b) (hn : 0 ≤ n ∧ n ≤ 1099511627776) (hd : 0 < d ∧ d ≤ 67108864) (hbo : -10000 ≤ bound ∧ bound ≤ 10000) (w : World) :
    Calls Try.prog 67 #[.agg #[.int .i64 a.1, .int .i64 a.2, .int .i64 b.1, .int .i64 b.2], .int .i64 n, .int .i64 d, .int .i64 bound] w fun e w' => e = .returned (.int .i64 (cmpV (valQ (ordA a b) (ordB a b) n d) (bound * (((ordB a b).1 - (ordA a b).1) * d)))) ∧ Below w.heap.size w w' := by
  have hor := Lib.hid (fun w => ordered_any a b w)
  obtain ⟨hA, hB⟩ := ord_small ha hb
  have hve := Lib.hid (show (ordA a b).2 * ((ordB a b).1 * d - n) + (ordB a b).2 * (n - (ordA a b).1 * d) = valQ (ordA a b) (ordB a b) n d from rfl)
  generalize ordA a b = A at *
  generalize ordB a b = B at *
  clear ha hb
  obtain ⟨⟨A1, A2⟩, A3, A4⟩ := hA
  obtain ⟨⟨B1, B2⟩, B3, B4⟩ := hB
  obtain ⟨n1, n2⟩ := hn
  obtain ⟨d1, d2⟩ := hd
  obtain ⟨o1, o2⟩ := hbo
  obtain ⟨p1, p2⟩ := mul_bd (A := 8000) (B := 67108864) (a := B.1) (b := d) (by omega) (by omega) (by omega) (by omega)
  obtain ⟨p3, p4⟩ := mul_bd (A := 8000) (B := 67108864) (a := A.1) (b := d) (by omega) (by omega) (by omega) (by omega)
  obtain ⟨p5, p6⟩ := mul_bd (A := 8000) (B := 67108864) (a := B.1 - A.1) (b := d) (by omega) (by omega) (by omega) (by omega)
  have bu := mul_bd (A := 33554432) (B := 2199023255552) (a := A.2) (b := B.1 * d - n) (by omega) (by omega) (by omega) (by omega)
  have bv := mul_bd (A := 33554432) (B := 2199023255552) (a := B.2) (b := n - A.1 * d) (by omega) (by omega) (by omega) (by omega)
  have m1 := Lib.hid (fun w => mul_any A.2 (B.1 * d - n) (by omega) (by omega) (by omega) (by omega) w)
  have m2 := Lib.hid (fun w => mul_any B.2 (n - A.1 * d) (by omega) (by omega) (by omega) (by omega) w)
  have m3 := Lib.hid (fun w => mul_any bound ((B.1 - A.1) * d) (by omega) (by omega) (by omega) (by omega) w)
  have ad := Lib.hid (fun w => by have := wadd_ok (A.2 * (B.1 * d - n)) (B.2 * (n - A.1 * d)) (by omega) (by omega) (by omega) (by omega) (by omega) (by omega) w; rwa [hve.out] at this)
  have cm := Lib.hid (fun w => cmp_any (valQ A B n d) (bound * ((B.1 - A.1) * d)) w)
  clear bu bv hve
  generalize cmpV (valQ A B n d) (bound * ((B.1 - A.1) * d)) = RES0 at *
  generalize valQ A B n d / 18446744073709551616 = U0 at *
  generalize valQ A B n d % 18446744073709551616 = U1 at *
  generalize bound * ((B.1 - A.1) * d) / 18446744073709551616 = G0 at *
  generalize bound * ((B.1 - A.1) * d) % 18446744073709551616 = G1 at *
  generalize A.2 * (B.1 * d - n) / 18446744073709551616 = Q0 at *
  generalize A.2 * (B.1 * d - n) % 18446744073709551616 = Q1 at *
  generalize B.2 * (n - A.1 * d) / 18446744073709551616 = S0 at *
  generalize B.2 * (n - A.1 * d) % 18446744073709551616 = S1 at *
  go_enter Try.func67, Try.ntmps67
  go_wp2_with (go_at_call 59; refine (hor.out _).mono ?_; rintro e w1 ⟨rfl, hb1⟩; have hK := Below.next1 (Below.refl w.heap.size w) (Nat.le_refl _) hb1; clear hb1)
  have hA := heap_alloc (X := (.cells #[.int .i64 B.1, .int .i64 B.2] 23)) (heap_new w1 (.cells #[.int .i64 A.1, .int .i64 A.2] 23) rfl)
  have hB := heap_new (w1.alloc (.cells #[.int .i64 A.1, .int .i64 A.2] 23)) (.cells #[.int .i64 B.1, .int .i64 B.2] 23) (b := w1.heap.size + 1) (by simp)
  have hK2 : Below w.heap.size w ((w1.alloc (.cells #[.int .i64 A.1, .int .i64 A.2] 23)).alloc (.cells #[.int .i64 B.1, .int .i64 B.2] 23)) := (hK.alloc hK.size _).alloc (by have := hK.size; simp; omega) _
  have hsz : w1.heap.size + 2 ≤ ((w1.alloc (.cells #[.int .i64 A.1, .int .i64 A.2] 23)).alloc (.cells #[.int .i64 B.1, .int .i64 B.2] 23)).heap.size := by simp
  generalize (w1.alloc (.cells #[.int .i64 A.1, .int .i64 A.2] 23)).alloc (.cells #[.int .i64 B.1, .int .i64 B.2] 23) = w2 at *
  generalize hkb : w1.heap.size + 1 = kb at *
  generalize w1.heap.size = ka at *
  apply region_genHA 23 22 21 [0, 1, 2, 3, 4, 5, 6, 7, 8, 9, 10, 11, 12, 13, 14, 15, 16, 17, 18, 19, 20] [24]; (case hm => kernel_rfl); (case hS => rfl); (case hB => kernel_rfl); (case hQ => exact fun _ _ _ _ _ h => h); (case ho => rfl); (case hg => rfl); (case hal => (intro a W; go_simp; with_reducible rfl)); (case hoq => rfl); (case hgq => rfl); (case h => (intro LQ hLQ W1 hW1; have hA1 := heap_old hW1 hA; have hB1 := heap_old hW1 hB; have a0 := cell_heap (o := 0) hA1 rfl; have a1 := cell_heap (o := 1) hA1 rfl; have b0 := cell_heap (o := 0) hB1 rfl; have b1 := cell_heap (o := 1) hB1 rfl; simp only [pickO, List.drop_succ_cons, List.drop_zero, List.take_succ_cons, List.take_zero, List.cons_append, List.nil_append, List.append_nil, Act.put, List.setIfInBounds_toArray, List.set_cons_succ, List.set_cons_zero]; have hl := @Later.cell; (repeat (go_big_quiet_step (first | (go_at_call_of 41 (A.2); exact Calls.later (m1.out _)) | (go_at_call_of 41 (B.2); exact Calls.later (m2.out _)) | (go_at_call 42; exact Calls.later (ad.out _))))); exact wpQuiet_nil hLQ)); (case hv0 => (intro W; go_simp <;> with_reducible rfl)); (case hv => (intro x W; go_simp <;> with_reducible rfl)); (case hne => (intro x; simp only [Act.put, List.setIfInBounds_toArray, List.set_cons_succ, List.set_cons_zero])); (all_goals (intro k W2 hk hW2 hkk; simp only [pickO, List.drop_succ_cons, List.drop_zero, List.take_succ_cons, List.take_zero, List.cons_append, List.nil_append, List.append_nil, Act.put, List.setIfInBounds_toArray, List.set_cons_succ, List.set_cons_zero]))
  all_goals
    have hK3 := Below.next hK2 (Nat.le_refl _) hW2
    replace hA := heap_old hW2 hA
    replace hB := heap_old hW2 hB
    have k0 := cell_heap (o := 0) hkk rfl
    have k1 := cell_heap (o := 1) hkk rfl
    have f0 := frozen_heap (o := 0) hkk
    have f1 := frozen_heap (o := 1) hkk
    have hkw : w.heap.size ≤ k := by have := hK2.size; omega
    go_wp2_with fail
    have hk3 := heap_set (o := 1) (v := .int .u64 U1) (heap_set (o := 0) (v := .int .i64 U0) hkk)
    simp only [List.setIfInBounds_toArray, List.set_cons_succ, List.set_cons_zero] at hk3
    have hA3 := heap_set_other (g := k) (o := 1) (v := .int .u64 U1) (heap_set_other (g := k) (o := 0) (v := .int .i64 U0) hA (by omega)) (by omega)
    have hB3 := heap_set_other (g := k) (o := 1) (v := .int .u64 U1) (heap_set_other (g := k) (o := 0) (v := .int .i64 U0) hB (by omega)) (by omega)
    have hK4 : Below w.heap.size w ((W2.setCell ⟨k, 0, none⟩ (.int .i64 U0)).setCell ⟨k, 1, none⟩ (.int .u64 U1)) := (by repeat (first | with_reducible exact Below.refl _ _ | with_reducible assumption | with_reducible refine Below.drew ?_ | with_reducible refine Below.setCell ?_ (by first | omega | (simp; omega) | simp) _ | with_reducible refine Below.alloc ?_ (by first | omega | (simp; omega) | simp) _ | with_reducible refine Below.trans ?_ (Below.mono (by with_reducible assumption) (by first | omega | (simp; omega) | simp))))
    generalize (W2.setCell ⟨k, 0, none⟩ (.int .i64 U0)).setCell ⟨k, 1, none⟩ (.int .u64 U1) = W3 at hk3 hA3 hB3 hK4 ⊢
    clear k0 k1 f0 f1 hkk hA hB hW2 hK2 hK3 hk hsz
    have k0 := cell_heap (o := 0) hk3 rfl
    have k1 := cell_heap (o := 1) hk3 rfl
    have a0 := cell_heap (o := 0) hA3 rfl
    have b0 := cell_heap (o := 0) hB3 rfl
    have hl := @Later.cell
    refine region_later (by kernel_rfl) (by kernel_rfl) ?_; (repeat (go_big_quiet_step (first | (go_at_call 41; exact Calls.later (m3.out _)) | (go_at_call 87; exact Calls.later (cm.out _))))); refine wpQuiet_nil ?_; rintro _ ⟨x, rfl⟩; obtain ⟨w', hb⟩ := x; (try clear hc hf); (try clear hcM hfM); (try clear hcN hfN); (first | ((first | replace hB := Below.next hB (Nat.le_refl _) hb | replace hB := Below.next1 hB (Nat.le_refl _) hb | replace hB := Below.next2 hB (Nat.le_refl _) hb); (first | replace hM := Below.next hM (Nat.le_refl _) hb | replace hM := Below.next1 hM (Nat.le_refl _) hb | replace hM := Below.next2 hM (Nat.le_refl _) hb); (first | replace hN := Below.next hN (Nat.le_refl _) hb | replace hN := Below.next1 hN (Nat.le_refl _) hb | replace hN := Below.next2 hN (Nat.le_refl _) hb)) | ((first | replace hB := Below.next hB (Nat.le_refl _) hb | replace hB := Below.next1 hB (Nat.le_refl _) hb | replace hB := Below.next2 hB (Nat.le_refl _) hb); (first | replace hM := Below.next hM (Nat.le_refl _) hb | replace hM := Below.next1 hM (Nat.le_refl _) hb | replace hM := Below.next2 hM (Nat.le_refl _) hb); have hN := Below.mid hb) | ((first | replace hB := Below.next hB (Nat.le_refl _) hb | replace hB := Below.next1 hB (Nat.le_refl _) hb | replace hB := Below.next2 hB (Nat.le_refl _) hb); (first | replace hM := Below.next hM (Nat.le_refl _) hb | replace hM := Below.next1 hM (Nat.le_refl _) hb | replace hM := Below.next2 hM (Nat.le_refl _) hb)) | ((first | replace hB := Below.next hB (Nat.le_refl _) hb | replace hB := Below.next1 hB (Nat.le_refl _) hb | replace hB := Below.next2 hB (Nat.le_refl _) hb); have hM := Below.mid hb) | (first | replace hB := Below.next hB (Nat.le_refl _) hb | replace hB := Below.next1 hB (Nat.le_refl _) hb | replace hB := Below.next2 hB (Nat.le_refl _) hb) | have hB := hb); obtain ⟨hc, hf, hz⟩ := after hB; (try (have hq := after hM; obtain ⟨hcM, hfM, hzM⟩ := hq)); (try (have hq := after hN; obtain ⟨hcN, hfN, hzN⟩ := hq)); have hs := hb.size; (try simp at hz); (try simp at hs)
    have hK5 := Below.next hK4 (Nat.le_refl _) hb
    go_wp2_with fail
    go_ret
    exact ⟨rfl, hK5⟩
set_option maxRecDepth 100000 in
set_option maxHeartbeats 4000000 in
theorem theight_any (a b : Int × Int) (n d bound : Int) (ha : smallP 1099511627776 a) (hb : smallP 1099511627776 b) (hn : 0 ≤ n ∧ n ≤ 1099511627776) (hd : 0 < d ∧ d ≤ 67108864) (hbo : -10000 ≤ bound ∧ bound ≤ 10000) (w : World) :
    Calls Try.prog 68 #[.agg #[.int .i64 a.1, .int .i64 a.2, .int .i64 b.1, .int .i64 b.2], .int .i64 n, .int .i64 d, .int .i64 bound] w fun e w' => e = .returned (.int .i64 (cmpV (valQ (ordA a b) (ordB a b) n d * d) (n * n * (981 * ((ordB a b).1 - (ordA a b).1)) + bound * 80000 * (((ordB a b).1 - (ordA a b).1) * d) * d))) ∧ Below w.heap.size w w' := by
  have hor := Lib.hid (fun w => ordered_any a b w)
  obtain ⟨hA, hB⟩ := ord_small ha hb
  have hve := Lib.hid (show (ordA a b).2 * ((ordB a b).1 * d - n) + (ordB a b).2 * (n - (ordA a b).1 * d) = valQ (ordA a b) (ordB a b) n d from rfl)
  generalize ordA a b = A at *
  generalize ordB a b = B at *
  clear ha hb
  obtain ⟨⟨A1, A2⟩, A3, A4⟩ := hA
  obtain ⟨⟨B1, B2⟩, B3, B4⟩ := hB
  obtain ⟨n1, n2⟩ := hn
  obtain ⟨d1, d2⟩ := hd
  obtain ⟨o1, o2⟩ := hbo
  obtain ⟨p1, p2⟩ := mul_bd (A := 8000) (B := 67108864) (a := B.1) (b := d) (by omega) (by omega) (by omega) (by omega)
  obtain ⟨p3, p4⟩ := mul_bd (A := 8000) (B := 67108864) (a := A.1) (b := d) (by omega) (by omega) (by omega) (by omega)
  obtain ⟨p5, p6⟩ := mul_bd (A := 8000) (B := 67108864) (a := B.1 - A.1) (b := d) (by omega) (by omega) (by omega) (by omega)
  have bu := mul_bd (A := 1099511627776) (B := 2199023255552) (a := A.2) (b := B.1 * d - n) (by omega) (by omega) (by omega) (by omega)
  have bv := mul_bd (A := 1099511627776) (B := 2199023255552) (a := B.2) (b := n - A.1 * d) (by omega) (by omega) (by omega) (by omega)
  have bn := mul_bd (A := 1099511627776) (B := 1099511627776) (a := n) (b := n) (by omega) (by omega) (by omega) (by omega)
  have bb := mul_bd (A := 800000000) (B := 536870912000) (a := bound * 80000) (b := (B.1 - A.1) * d) (by omega) (by omega) (by omega) (by omega)
  have m1 := Lib.hid (fun w => mul_any A.2 (B.1 * d - n) (by omega) (by omega) (by omega) (by omega) w)
  have m2 := Lib.hid (fun w => mul_any B.2 (n - A.1 * d) (by omega) (by omega) (by omega) (by omega) w)
  have m3 := Lib.hid (fun w => mul_any n n (by omega) (by omega) (by omega) (by omega) w)
  have m4 := Lib.hid (fun w => mul_any (bound * 80000) ((B.1 - A.1) * d) (by omega) (by omega) (by omega) (by omega) w)
  have ad := Lib.hid (fun w => by have := wadd_ok (A.2 * (B.1 * d - n)) (B.2 * (n - A.1 * d)) (by omega) (by omega) (by omega) (by omega) (by omega) (by omega) w; rwa [hve.out] at this)
  have bV : -4835703278458516698824704 ≤ valQ A B n d ∧ valQ A B n d ≤ 4835703278458516698824704 := by rw [← hve.out]; omega
  clear bu bv hve
  generalize valQ A B n d = V at *
  have bW := mul_bd (A := 4835703278458516698824704) (B := 67108864) (a := V) (b := d) (by omega) (by omega) (by omega) (by omega)
  have bG := mul_bd (A := 1208925819614629174706176) (B := 7848000) (a := n * n) (b := 981 * (B.1 - A.1)) (by omega) (by omega) (by omega) (by omega)
  have bX := mul_bd (A := 429496729600000000000) (B := 67108864) (a := bound * 80000 * ((B.1 - A.1) * d)) (b := d) (by omega) (by omega) (by omega) (by omega)
  have sc := Lib.hid (fun w => scale_any V d (by omega) (by omega) (by omega) (by omega) (by omega) (by omega) w)
  have sg := Lib.hid (fun w => scale_any (n * n) (981 * (B.1 - A.1)) (by omega) (by omega) (by omega) (by omega) (by omega) (by omega) w)
  have sx := Lib.hid (fun w => scale_any (bound * 80000 * ((B.1 - A.1) * d)) d (by omega) (by omega) (by omega) (by omega) (by omega) (by omega) w)
  have a2 := Lib.hid (fun w => wadd_ok (n * n * (981 * (B.1 - A.1))) (bound * 80000 * ((B.1 - A.1) * d) * d) (by omega) (by omega) (by omega) (by omega) (by omega) (by omega) w)
  have cm := Lib.hid (fun w => cmp_any (V * d) (n * n * (981 * (B.1 - A.1)) + bound * 80000 * ((B.1 - A.1) * d) * d) w)
  clear bn bb bW bG bX bV
  generalize cmpV (V * d) (n * n * (981 * (B.1 - A.1)) + bound * 80000 * ((B.1 - A.1) * d) * d) = RES0 at *
  generalize (n * n * (981 * (B.1 - A.1)) + bound * 80000 * ((B.1 - A.1) * d) * d) / 18446744073709551616 = T0 at *
  generalize (n * n * (981 * (B.1 - A.1)) + bound * 80000 * ((B.1 - A.1) * d) * d) % 18446744073709551616 = T1 at *
  generalize n * n * (981 * (B.1 - A.1)) / 18446744073709551616 = G0 at *
  generalize n * n * (981 * (B.1 - A.1)) % 18446744073709551616 = G1 at *
  generalize bound * 80000 * ((B.1 - A.1) * d) * d / 18446744073709551616 = X0 at *
  generalize bound * 80000 * ((B.1 - A.1) * d) * d % 18446744073709551616 = X1 at *
  generalize bound * 80000 * ((B.1 - A.1) * d) / 18446744073709551616 = Y0 at *
  generalize bound * 80000 * ((B.1 - A.1) * d) % 18446744073709551616 = Y1 at *
  generalize V * d / 18446744073709551616 = D0 at *
  generalize V * d % 18446744073709551616 = D1 at *
  generalize V / 18446744073709551616 = U0 at *
  generalize V % 18446744073709551616 = U1 at *
  generalize n * n / 18446744073709551616 = N0 at *
  generalize n * n % 18446744073709551616 = N1 at *
  generalize A.2 * (B.1 * d - n) / 18446744073709551616 = Q0 at *
  generalize A.2 * (B.1 * d - n) % 18446744073709551616 = Q1 at *
  generalize B.2 * (n - A.1 * d) / 18446744073709551616 = S0 at *
  generalize B.2 * (n - A.1 * d) % 18446744073709551616 = S1 at *
  go_enter Try.func68, Try.ntmps68
  go_wp2_with (go_at_call 59; refine (hor.out _).mono ?_; rintro e w1 ⟨rfl, hb1⟩; have hK := Below.next1 (Below.refl w.heap.size w) (Nat.le_refl _) hb1; clear hb1)
  have hA := heap_alloc (X := (.cells #[.int .i64 B.1, .int .i64 B.2] 23)) (heap_new w1 (.cells #[.int .i64 A.1, .int .i64 A.2] 23) rfl)
  have hB := heap_new (w1.alloc (.cells #[.int .i64 A.1, .int .i64 A.2] 23)) (.cells #[.int .i64 B.1, .int .i64 B.2] 23) (b := w1.heap.size + 1) (by simp)
  have hK2 : Below w.heap.size w ((w1.alloc (.cells #[.int .i64 A.1, .int .i64 A.2] 23)).alloc (.cells #[.int .i64 B.1, .int .i64 B.2] 23)) := (hK.alloc hK.size _).alloc (by have := hK.size; simp; omega) _
  have hsz : w1.heap.size + 2 ≤ ((w1.alloc (.cells #[.int .i64 A.1, .int .i64 A.2] 23)).alloc (.cells #[.int .i64 B.1, .int .i64 B.2] 23)).heap.size := by simp
  have a0 := cell_heap (o := 0) hA rfl
  have b0 := cell_heap (o := 0) hB rfl
  generalize (w1.alloc (.cells #[.int .i64 A.1, .int .i64 A.2] 23)).alloc (.cells #[.int .i64 B.1, .int .i64 B.2] 23) = w2 at *
  generalize hkb : w1.heap.size + 1 = kb at *
  generalize w1.heap.size = ka at *
  go_wp2_with fail
  clear a0 b0
  apply region_genHA 23 22 21 [0, 1, 2, 3, 4, 5, 6, 7, 8, 9, 10, 11, 12, 13, 14, 15, 16, 17, 18, 19, 20] [24]; (case hm => kernel_rfl); (case hS => rfl); (case hB => kernel_rfl); (case hQ => exact fun _ _ _ _ _ h => h); (case ho => rfl); (case hg => rfl); (case hal => (intro a W; go_simp; with_reducible rfl)); (case hoq => rfl); (case hgq => rfl); (case h => (intro LQ hLQ W1 hW1; have hA1 := heap_old hW1 hA; have hB1 := heap_old hW1 hB; have a0 := cell_heap (o := 0) hA1 rfl; have a1 := cell_heap (o := 1) hA1 rfl; have b0 := cell_heap (o := 0) hB1 rfl; have b1 := cell_heap (o := 1) hB1 rfl; simp only [pickO, List.drop_succ_cons, List.drop_zero, List.take_succ_cons, List.take_zero, List.cons_append, List.nil_append, List.append_nil, Act.put, List.setIfInBounds_toArray, List.set_cons_succ, List.set_cons_zero]; have hl := @Later.cell; (repeat (go_big_quiet_step (first | (go_at_call_of 41 (A.2); exact Calls.later (m1.out _)) | (go_at_call_of 41 (B.2); exact Calls.later (m2.out _)) | (go_at_call 42; exact Calls.later (ad.out _))))); exact wpQuiet_nil hLQ)); (case hv0 => (intro W; go_simp <;> with_reducible rfl)); (case hv => (intro x W; go_simp <;> with_reducible rfl)); (case hne => (intro x; simp only [Act.put, List.setIfInBounds_toArray, List.set_cons_succ, List.set_cons_zero])); (all_goals (intro k W2 hk hW2 hkk; simp only [pickO, List.drop_succ_cons, List.drop_zero, List.take_succ_cons, List.take_zero, List.cons_append, List.nil_append, List.append_nil, Act.put, List.setIfInBounds_toArray, List.set_cons_succ, List.set_cons_zero]))
  all_goals
    have hK3 := Below.next hK2 (Nat.le_refl _) hW2
    clear hA hB
    have k0 := cell_heap (o := 0) hkk rfl
    have k1 := cell_heap (o := 1) hkk rfl
    have f0 := frozen_heap (o := 0) hkk
    have f1 := frozen_heap (o := 1) hkk
    have hkw : w.heap.size ≤ k := by have := hK2.size; omega
    have hk3 := heap_set (o := 1) (v := .int .u64 U1) (heap_set (o := 0) (v := .int .i64 U0) hkk)
    simp only [List.setIfInBounds_toArray, List.set_cons_succ, List.set_cons_zero] at hk3
    have c0 := cell_heap (o := 0) hk3 rfl
    have c1 := cell_heap (o := 1) hk3 rfl
    have hK4 := Below.setCell (Below.setCell hK3 hkw (.int .i64 U0) (p := ⟨k, 0, none⟩)) hkw (.int .u64 U1) (p := ⟨k, 1, none⟩)
    have hkl := (Array.getElem?_eq_some_iff.1 hk3).1
    go_wp2_with (go_at_call_of 86 (U0); refine (sc.out _).mono ?_; rintro e w4 ⟨rfl, k4⟩; have hk4 := heap_old k4 hk3; have hK5 := Below.next hK4 (Nat.le_refl _) k4; clear k0 k1 f0 f1 c0 c1; have k0 := cell_heap (o := 0) hk4 rfl; have k1 := cell_heap (o := 1) hk4 rfl; have f0 := frozen_heap (o := 0) hk4; have f1 := frozen_heap (o := 1) hk4)
    have hU := heap_set (o := 1) (v := .int .u64 D1) (heap_set (o := 0) (v := .int .i64 D0) hk4)
    simp only [List.setIfInBounds_toArray, List.set_cons_succ, List.set_cons_zero] at hU
    have hK6 := Below.setCell (Below.setCell hK5 hkw (.int .i64 D0) (p := ⟨k, 0, none⟩)) hkw (.int .u64 D1) (p := ⟨k, 1, none⟩)
    generalize (w4.setCell ⟨k, 0, none⟩ (.int .i64 D0)).setCell ⟨k, 1, none⟩ (.int .u64 D1) = W5 at hU hK6 ⊢
    clear k0 k1 f0 f1 hk4 hK5 k4 hk3 hK4 hK3 hkk
    go_wp2_with (first
      | (go_at_call_of 41 (n); refine (m3.out _).mono ?_; rintro e w5 ⟨rfl, k5⟩; replace hU := heap_old k5 hU; have hK7 := Below.next hK6 (Nat.le_refl _) k5)
      | (go_at_call_of 86 (N0); refine (sg.out _).mono ?_; rintro e w6 ⟨rfl, k6⟩; have hG := heap_new w6 (.cells #[.int .i64 G0, .int .u64 G1] 75) rfl; replace hU := heap_alloc (X := (.cells #[.int .i64 G0, .int .u64 G1] 75)) (heap_old k6 hU); have hK8 := Below.next hK7 (Nat.le_refl _) k6; have hK9 := hK8.alloc hK8.size (.cells #[.int .i64 G0, .int .u64 G1] 75))
      | (go_at_call 41; refine (m4.out _).mono ?_; rintro e w8 ⟨rfl, k8⟩; replace hU := heap_old k8 hU; replace hG := heap_old k8 hG; have hKA := Below.next hK9 (Nat.le_refl _) k8)
      | (go_at_call_of 86 (Y0); refine (sx.out _).mono ?_; rintro e w9 ⟨rfl, k9⟩; replace hU := heap_alloc (X := (.cells #[.int .i64 X0, .int .u64 X1] 75)) (heap_old k9 hU); replace hG := heap_alloc (X := (.cells #[.int .i64 X0, .int .u64 X1] 75)) (heap_old k9 hG); have hKB := Below.next hKA (Nat.le_refl _) k9; have hKC := hKB.alloc hKB.size (.cells #[.int .i64 X0, .int .u64 X1] 75); have g0 := cell_heap (o := 0) hG rfl; have g1 := cell_heap (o := 1) hG rfl)
      | (go_at_call 42; refine (a2.out _).mono ?_; rintro e w10 ⟨rfl, k10⟩; replace hU := heap_alloc (X := (.cells #[.int .i64 T0, .int .u64 T1] 75)) (heap_old k10 hU); have hKD := Below.next hKC (Nat.le_refl _) k10; have hKE := hKD.alloc hKD.size (.cells #[.int .i64 T0, .int .u64 T1] 75); have u0 := cell_heap (o := 0) hU rfl; have u1 := cell_heap (o := 1) hU rfl)
      | (go_at_call 87; refine (cm.out _).mono ?_; rintro e w11 ⟨rfl, k11⟩; have hKF := Below.next hKE (Nat.le_refl _) k11))
    go_ret
    exact ⟨rfl, hKF⟩
end Go.Proofs.Ytmdledlbkdcmnaa

/-
  Contracts of the statement's crossing, hits and spot.
  Conditions: none.
-/
namespace Go.Proofs.Ytmdledlbkdcmnaa
open Go.RowKit
set_option maxRecDepth 100000 in
set_option maxHeartbeats 4000000 in
theorem spot_any (v : Value) (left shot bat void : Bool) (p : TR) (t lo hi : Int) (hi2 : ¬(outP p.2.2.1 ∨ outP p.2.2.2.1)) (hlt : (ordA p.2.2.1 p.2.2.2.1).1 < (ordB p.2.2.1 p.2.2.2.1).1) (t1 : 0 ≤ t) (t2 : t ≤ 5000) (l1 : -1099511627776 ≤ lo) (l2 : lo ≤ 1099511627776) (g1 : -1099511627776 ≤ hi) (g2 : hi ≤ 1099511627776) (w : World) :
    Calls Try.prog 26 #[(.agg #[v, .bool left, .bool shot, .bool bat, .bool void]), (.agg #[.int .i64 p.1.1, .int .i64 p.1.2, .int .i64 p.2.1.1, .int .i64 p.2.1.2, .int .i64 p.2.2.1.1, .int .i64 p.2.2.1.2, .int .i64 p.2.2.2.1.1, .int .i64 p.2.2.2.1.2, .int .i64 p.2.2.2.2.1.1, .int .i64 p.2.2.2.2.1.2, .int .i64 p.2.2.2.2.2.1, .int .i64 p.2.2.2.2.2.2]), .int .i64 t, .int .i64 lo, .int .i64 hi] w fun e w' => e = .returned (.bool (spotB (ordA p.2.2.1 p.2.2.2.1) (ordB p.2.2.1 p.2.2.2.1) left t lo hi)) ∧ Below w.heap.size w w' := by
  have hv := Lib.hid (fun w => lineValue_any p.2.2.1 p.2.2.2.1 t w (in_of hi2) (by omega) (by omega))
  obtain ⟨q1, ⟨q2, q3⟩, q4, q5⟩ := ord_in hi2
  obtain ⟨⟨v1, v2⟩, v3, v4⟩ := val_bd2 (ord_in hi2) (show -10 ≤ t by omega) t2
  have vd : valN (ordA p.2.2.1 p.2.2.2.1) (ordB p.2.2.1 p.2.2.2.1) t = (ordA p.2.2.1 p.2.2.2.1).2 * ((ordB p.2.2.1 p.2.2.2.1).1 - t) + (ordB p.2.2.1 p.2.2.2.1).2 * (t - (ordA p.2.2.1 p.2.2.2.1).1) := rfl
  have vb : -20000000000000000 ≤ valN (ordA p.2.2.1 p.2.2.2.1) (ordB p.2.2.1 p.2.2.2.1) t ∧ valN (ordA p.2.2.1 p.2.2.2.1) (ordB p.2.2.1 p.2.2.2.1) t ≤ 20000000000000000 := by rw [vd]; omega
  have d0 : 0 < (ordB p.2.2.1 p.2.2.2.1).1 - (ordA p.2.2.1 p.2.2.2.1).1 := by omega
  have d1 : (ordB p.2.2.1 p.2.2.2.1).1 - (ordA p.2.2.1 p.2.2.2.1).1 ≤ 8000 := by omega
  unfold spotB
  clear vd v1 v2 v3 v4 q1 q2 q3 q4 q5 hlt hi2
  generalize valN (ordA p.2.2.1 p.2.2.2.1) (ordB p.2.2.1 p.2.2.2.1) t = V at *
  generalize (ordB p.2.2.1 p.2.2.2.1).1 - (ordA p.2.2.1 p.2.2.2.1).1 = D at *
  obtain ⟨m1, m2⟩ := mul_bd (A := 1099511627776) (B := 8000) (a := lo) (b := D) (by omega) (by omega) (by omega) (by omega)
  obtain ⟨m3, m4⟩ := mul_bd (A := 1099511627776) (B := 8000) (a := hi) (b := D) (by omega) (by omega) (by omega) (by omega)
  cases left
  · go_enter Try.func26, Try.ntmps26
    go_wp2_with (go_at_call 22; refine (hv.out _).mono ?_; rintro e w1 ⟨rfl, hb1⟩; have hK := Below.next2 (Below.refl w.heap.size w) (Nat.le_refl _) hb1; have hB := heap_old hb1 (heap_alloc (X := (.cells #[.int .i64 p.1.1, .int .i64 p.1.2, .int .i64 p.2.1.1, .int .i64 p.2.1.2, .int .i64 p.2.2.1.1, .int .i64 p.2.2.1.2, .int .i64 p.2.2.2.1.1, .int .i64 p.2.2.2.1.2, .int .i64 p.2.2.2.2.1.1, .int .i64 p.2.2.2.2.1.2, .int .i64 p.2.2.2.2.2.1, .int .i64 p.2.2.2.2.2.2] 26)) (heap_new w (.cells #[v, .bool false, .bool shot, .bool bat, .bool void] 43) rfl)); have b1 := cell_heap (o := 1) hB rfl; clear hb1)
    all_goals
      go_ret
      refine ⟨ret_bool ?_, hK⟩
      unfold sgn
      grind
  · go_enter Try.func26, Try.ntmps26
    go_wp2_with (go_at_call 22; refine (hv.out _).mono ?_; rintro e w1 ⟨rfl, hb1⟩; have hK := Below.next2 (Below.refl w.heap.size w) (Nat.le_refl _) hb1; have hB := heap_old hb1 (heap_alloc (X := (.cells #[.int .i64 p.1.1, .int .i64 p.1.2, .int .i64 p.2.1.1, .int .i64 p.2.1.2, .int .i64 p.2.2.1.1, .int .i64 p.2.2.1.2, .int .i64 p.2.2.2.1.1, .int .i64 p.2.2.2.1.2, .int .i64 p.2.2.2.2.1.1, .int .i64 p.2.2.2.2.1.2, .int .i64 p.2.2.2.2.2.1, .int .i64 p.2.2.2.2.2.2] 26)) (heap_new w (.cells #[v, .bool true, .bool shot, .bool bat, .bool void] 43) rfl)); have b1 := cell_heap (o := 1) hB rfl; clear hb1)
    all_goals
      go_ret
      refine ⟨ret_bool ?_, hK⟩
      unfold sgn
      grind
theorem cmp_ge (x y : Int) : decide (0 ≤ cmpV x y) = decide (y ≤ x) := by
  unfold cmpV
  split
  · rw [decide_eq_false (by omega), decide_eq_false (by omega)]
  · split
    · rw [decide_eq_true (by omega), decide_eq_true (by omega)]
    · rw [decide_eq_true (by omega), decide_eq_true (by omega)]
theorem small_of {a b : Int × Int} (h : ¬(outP a ∨ outP b)) : smallP 1099511627776 a ∧ smallP 1099511627776 b := by
  unfold outP at h; unfold smallP; omega
set_option maxRecDepth 100000 in
set_option maxHeartbeats 4000000 in
theorem hits_any (p : TR) (n d m : Int) (hy1 : smallP 33554432 p.2.2.1) (hy2 : smallP 33554432 p.2.2.2.1) (hz : ¬(outP p.2.2.2.2.1 ∨ outP p.2.2.2.2.2)) (hn : 0 ≤ n ∧ n ≤ 1099511627776) (hd : 0 < d ∧ d ≤ 67108864) (m1 : 0 ≤ m) (m2 : m ≤ 180) (w : World) :
    Calls Try.prog 27 #[(.agg #[.int .i64 p.1.1, .int .i64 p.1.2, .int .i64 p.2.1.1, .int .i64 p.2.1.2, .int .i64 p.2.2.1.1, .int .i64 p.2.2.1.2, .int .i64 p.2.2.2.1.1, .int .i64 p.2.2.2.1.2, .int .i64 p.2.2.2.2.1.1, .int .i64 p.2.2.2.2.1.2, .int .i64 p.2.2.2.2.2.1, .int .i64 p.2.2.2.2.2.2]), .int .i64 n, .int .i64 d, .int .i64 m] w fun e w' => e = .returned (.bool (hitsB (ordA p.2.2.1 p.2.2.2.1) (ordB p.2.2.1 p.2.2.2.1) (ordA p.2.2.2.2.1 p.2.2.2.2.2) (ordB p.2.2.2.2.1 p.2.2.2.2.2) n d m)) ∧ Below w.heap.size w w' := by
  obtain ⟨hz1, hz2⟩ := small_of hz
  have A1 := Lib.hid (fun w => tacross_any p.2.2.1 p.2.2.2.1 n d (1503 - m) hy1 hy2 hn hd (by omega) w)
  have A2 := Lib.hid (fun w => tacross_any p.2.2.1 p.2.2.2.1 n d (-(1503 - m)) hy1 hy2 hn hd (by omega) w)
  have A3 := Lib.hid (fun w => theight_any p.2.2.2.2.1 p.2.2.2.2.2 n d (7472 - m) hz1 hz2 hn hd (by omega) w)
  unfold hitsB
  rw [← cmp_le (valQ (ordA p.2.2.1 p.2.2.2.1) (ordB p.2.2.1 p.2.2.2.1) n d) ((1503 - m) * (((ordB p.2.2.1 p.2.2.2.1).1 - (ordA p.2.2.1 p.2.2.2.1).1) * d)), ← cmp_ge (valQ (ordA p.2.2.1 p.2.2.2.1) (ordB p.2.2.1 p.2.2.2.1) n d) (-(1503 - m) * (((ordB p.2.2.1 p.2.2.2.1).1 - (ordA p.2.2.1 p.2.2.2.1).1) * d)), ← cmp_le (valQ (ordA p.2.2.2.2.1 p.2.2.2.2.2) (ordB p.2.2.2.2.1 p.2.2.2.2.2) n d * d) (n * n * (981 * ((ordB p.2.2.2.2.1 p.2.2.2.2.2).1 - (ordA p.2.2.2.2.1 p.2.2.2.2.2).1)) + (7472 - m) * 80000 * (((ordB p.2.2.2.2.1 p.2.2.2.2.2).1 - (ordA p.2.2.2.2.1 p.2.2.2.2.2).1) * d) * d)]
  generalize cmpV (valQ (ordA p.2.2.1 p.2.2.2.1) (ordB p.2.2.1 p.2.2.2.1) n d) ((1503 - m) * (((ordB p.2.2.1 p.2.2.2.1).1 - (ordA p.2.2.1 p.2.2.2.1).1) * d)) = c1 at *
  generalize cmpV (valQ (ordA p.2.2.1 p.2.2.2.1) (ordB p.2.2.1 p.2.2.2.1) n d) (-(1503 - m) * (((ordB p.2.2.1 p.2.2.2.1).1 - (ordA p.2.2.1 p.2.2.2.1).1) * d)) = c2 at *
  generalize cmpV (valQ (ordA p.2.2.2.2.1 p.2.2.2.2.2) (ordB p.2.2.2.2.1 p.2.2.2.2.2) n d * d) _ = c3 at *
  clear hz1 hz2 hz hy1 hy2 hn hd
  have hwm : IntKind.i64.wrap (1503 - m) = 1503 - m := kwrap_id (by omega) (by omega)
  by_cases e1 : c1 ≤ 0
  · by_cases e2 : 0 ≤ c2
    · go_enter Try.func27, Try.ntmps27
      go_wp2_with (first
        | (go_at_call 67; have q := z1; clear q; refine (A2.out _).mono ?_; rintro e w2 ⟨rfl, hb2⟩; have hK2 := Below.next hK1 (Nat.le_refl _) hb2; replace hB := heap_old hb2 hB; clear hb2 y0 y1 y2 y3; have y0 := cell_heap (o := 8) hB rfl; have y1 := cell_heap (o := 9) hB rfl; have y2 := cell_heap (o := 10) hB rfl; have y3 := cell_heap (o := 11) hB rfl)
        | (go_at_call 67; refine (A1.out _).mono ?_; rintro e w1 ⟨rfl, hb1⟩; have z1 := True.intro; have hK1 := Below.next1 (Below.refl w.heap.size w) (Nat.le_refl _) hb1; have hB := heap_old hb1 (heap_new w (.cells #[.int .i64 p.1.1, .int .i64 p.1.2, .int .i64 p.2.1.1, .int .i64 p.2.1.2, .int .i64 p.2.2.1.1, .int .i64 p.2.2.1.2, .int .i64 p.2.2.2.1.1, .int .i64 p.2.2.2.1.2, .int .i64 p.2.2.2.2.1.1, .int .i64 p.2.2.2.2.1.2, .int .i64 p.2.2.2.2.2.1, .int .i64 p.2.2.2.2.2.2] 26) rfl); clear hb1; have y0 := cell_heap (o := 4) hB rfl; have y1 := cell_heap (o := 5) hB rfl; have y2 := cell_heap (o := 6) hB rfl; have y3 := cell_heap (o := 7) hB rfl)
        | (go_at_call 68; refine (A3.out _).mono ?_; rintro e w3 ⟨rfl, hb3⟩; have hK3 := Below.next hK2 (Nat.le_refl _) hb3))
      all_goals
        go_ret
        refine ⟨ret_bool ?_, hK3⟩
        rw [decide_eq_true (show c1 ≤ 0 by omega), decide_eq_true (show 0 ≤ c2 by omega)]
        first | rfl | simp
    · go_enter Try.func27, Try.ntmps27
      go_wp2_with (first
        | (go_at_call 67; have q := z1; clear q; refine (A2.out _).mono ?_; rintro e w2 ⟨rfl, hb2⟩; have hK2 := Below.next hK1 (Nat.le_refl _) hb2)
        | (go_at_call 67; refine (A1.out _).mono ?_; rintro e w1 ⟨rfl, hb1⟩; have z1 := True.intro; have hK1 := Below.next1 (Below.refl w.heap.size w) (Nat.le_refl _) hb1; have hB := heap_old hb1 (heap_new w (.cells #[.int .i64 p.1.1, .int .i64 p.1.2, .int .i64 p.2.1.1, .int .i64 p.2.1.2, .int .i64 p.2.2.1.1, .int .i64 p.2.2.1.2, .int .i64 p.2.2.2.1.1, .int .i64 p.2.2.2.1.2, .int .i64 p.2.2.2.2.1.1, .int .i64 p.2.2.2.2.1.2, .int .i64 p.2.2.2.2.2.1, .int .i64 p.2.2.2.2.2.2] 26) rfl); clear hb1; have y0 := cell_heap (o := 4) hB rfl; have y1 := cell_heap (o := 5) hB rfl; have y2 := cell_heap (o := 6) hB rfl; have y3 := cell_heap (o := 7) hB rfl))
      all_goals
        go_ret
        refine ⟨ret_bool ?_, hK2⟩
        rw [decide_eq_false (show ¬ 0 ≤ c2 by omega)]
        simp
  · go_enter Try.func27, Try.ntmps27
    go_wp2_with (first
      | (go_at_call 67; refine (A1.out _).mono ?_; rintro e w1 ⟨rfl, hb1⟩; have hK1 := Below.next1 (Below.refl w.heap.size w) (Nat.le_refl _) hb1))
    all_goals
      go_ret
      refine ⟨ret_bool ?_, hK1⟩
      rw [decide_eq_false (show ¬ c1 ≤ 0 by omega)]
      rfl
end Go.Proofs.Ytmdledlbkdcmnaa
