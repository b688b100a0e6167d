/-
  The walk of LbwSettles.
  Conditions: none.
-/
import Derived.Test.YtnlbfemlclepkaaLbwLaws
import Derived.Laws.BitsAllLaws
namespace Go.Proofs.Ytnlbfemlclepkaa
open Go.RowKit

/-- What a marginal answer turns out to be. -/
def Turned (a b : Int) : Prop := (a = 3 ∧ (b = 1 ∨ b = 2)) ∨ (a ≠ 3 ∧ b = a)

theorem settled (l i k l2 i2 k2 : Int) (h1 : 1 ≤ l ∧ l ≤ 3) (h2 : 1 ≤ i ∧ i ≤ 3) (h3 : 1 ≤ k ∧ k ≤ 3) (t1 : Turned l l2) (t2 : Turned i i2) (t3 : Turned k k2) :
    ruleV l2 i2 k2 false false ≠ 3 ∧ (ruleV l i k false false = 3 ∨ ruleV l i k false false = ruleV l2 i2 k2 false false) := by
  unfold Turned at *
  unfold ruleV
  simp only [Bool.false_eq_true, false_or]
  obtain rfl | rfl | rfl : l = 1 ∨ l = 2 ∨ l = 3 := by omega
  all_goals obtain rfl | rfl | rfl : i = 1 ∨ i = 2 ∨ i = 3 := by omega
  all_goals obtain rfl | rfl | rfl : k = 1 ∨ k = 2 ∨ k = 3 := by omega
  all_goals grind (splits := 30)

/-- The lowest bit. -/
theorem bit_bd (n : Int) (h1 : 0 ≤ n) (h2 : n < 256) : bits BinOp.and IntKind.u8 n 1 = 0 ∨ bits BinOp.and IntKind.u8 n 1 = 1 := by
  rw [u8_and n 1 h1 h2 (by omega) (by omega)]
  have : n.toNat &&& (1 : Int).toNat = n.toNat % 2 := by simp
  omega

theorem turn3 {x m : Int} (h : (x == 3) = true) (h1 : 0 ≤ m) (h2 : m < 256) : Turned x ((1 + bits BinOp.and IntKind.u8 m 1) % 256) := by
  have h3 : x = 3 := by simpa using h
  unfold Turned
  rcases bit_bd m h1 h2 with e | e <;> rw [e] <;> omega
theorem turn {x : Int} (h : (x == 3) = false) : Turned x x := by
  have h3 : x ≠ 3 := by simpa using h
  exact .inr ⟨h3, rfl⟩
theorem fin1 {l i k l2 i2 k2 : Int} (h : ruleV l2 i2 k2 false false = 3) (h1 : 1 ≤ l ∧ l ≤ 3) (h2 : 1 ≤ i ∧ i ≤ 3) (h3 : 1 ≤ k ∧ k ≤ 3) (t1 : Turned l l2) (t2 : Turned i i2) (t3 : Turned k k2) : false = true :=
  absurd h (settled l i k l2 i2 k2 h1 h2 h3 t1 t2 t3).1
theorem fin2 {l i k l2 i2 k2 : Int} (h1 : 1 ≤ l ∧ l ≤ 3) (h2 : 1 ≤ i ∧ i ≤ 3) (h3 : 1 ≤ k ∧ k ≤ 3) (t1 : Turned l l2) (t2 : Turned i i2) (t3 : Turned k k2) : (ruleV l2 i2 k2 false false != 3) = true := by
  simpa using (settled l i k l2 i2 k2 h1 h2 h3 t1 t2 t3).1
theorem fin3 {l i k l2 i2 k2 : Int} (h1 : 1 ≤ l ∧ l ≤ 3) (h2 : 1 ≤ i ∧ i ≤ 3) (h3 : 1 ≤ k ∧ k ≤ 3) (t1 : Turned l l2) (t2 : Turned i i2) (t3 : Turned k k2) : (ruleV l2 i2 k2 false false != 3 && (ruleV l i k false false == 3 || ruleV l i k false false == ruleV l2 i2 k2 false false)) = true := by
  simpa using settled l i k l2 i2 k2 h1 h2 h3 t1 t2 t3

set_option maxHeartbeats 4000000 in
theorem lbwSettles_walk (l i k n : Int) (hl1 : 0 ≤ l ∧ l ≤ 255) (hi1 : 0 ≤ i ∧ i ≤ 255) (hk1 : 0 ≤ k ∧ k ≤ 255) (hn1 : 0 ≤ n ∧ n ≤ 255) (w : World) : Calls Try.prog 4 #[.agg #[.int .u8 l, .int .u8 i, .int .u8 k], .int .u8 n] w fun e w' => e = .returned (.bool true) ∧ Below w.heap.size w w' := by
  obtain ⟨b1, b2⟩ := hl1; obtain ⟨c1, c2⟩ := hi1; obtain ⟨d1, d2⟩ := hk1; obtain ⟨n1, n2⟩ := hn1
  have i0 : ∀ w, (Instr.index 23 (.agg #[.int .u8 l, .int .u8 i, .int .u8 k]) (.int .i64 0)).run Try.prog w = .ok (.int .u8 l) w := fun _ => by kernel_rfl
  have i1 : ∀ w, (Instr.index 23 (.agg #[.int .u8 l, .int .u8 i, .int .u8 k]) (.int .i64 1)).run Try.prog w = .ok (.int .u8 i) w := fun _ => by kernel_rfl
  have i2 : ∀ w, (Instr.index 23 (.agg #[.int .u8 l, .int .u8 i, .int .u8 k]) (.int .i64 2)).run Try.prog w = .ok (.int .u8 k) w := fun _ => by kernel_rfl
  go_enter Try.func4, Try.ntmps4
  go_wp2_with (go_at_call 13; refine (awake35_any _).mono ?_; rintro e w' ⟨rfl, hb⟩; (try clear hc hf); (try clear hcM hfM); (try clear hcN hfN); (first | ((first | replace hB := Below.next hB (Nat.le_refl _) hb | replace hB := Below.next1 hB (Nat.le_refl _) hb | replace hB := Below.next2 hB (Nat.le_refl _) hb); (first | replace hM := Below.next hM (Nat.le_refl _) hb | replace hM := Below.next1 hM (Nat.le_refl _) hb | replace hM := Below.next2 hM (Nat.le_refl _) hb); (first | replace hN := Below.next hN (Nat.le_refl _) hb | replace hN := Below.next1 hN (Nat.le_refl _) hb | replace hN := Below.next2 hN (Nat.le_refl _) hb)) | ((first | replace hB := Below.next hB (Nat.le_refl _) hb | replace hB := Below.next1 hB (Nat.le_refl _) hb | replace hB := Below.next2 hB (Nat.le_refl _) hb); (first | replace hM := Below.next hM (Nat.le_refl _) hb | replace hM := Below.next1 hM (Nat.le_refl _) hb | replace hM := Below.next2 hM (Nat.le_refl _) hb); have hN := Below.mid hb) | ((first | replace hB := Below.next hB (Nat.le_refl _) hb | replace hB := Below.next1 hB (Nat.le_refl _) hb | replace hB := Below.next2 hB (Nat.le_refl _) hb); (first | replace hM := Below.next hM (Nat.le_refl _) hb | replace hM := Below.next1 hM (Nat.le_refl _) hb | replace hM := Below.next2 hM (Nat.le_refl _) hb)) | ((first | replace hB := Below.next hB (Nat.le_refl _) hb | replace hB := Below.next1 hB (Nat.le_refl _) hb | replace hB := Below.next2 hB (Nat.le_refl _) hb); have hM := Below.mid hb) | (first | replace hB := Below.next hB (Nat.le_refl _) hb | replace hB := Below.next1 hB (Nat.le_refl _) hb | replace hB := Below.next2 hB (Nat.le_refl _) hb) | have hB := hb); obtain ⟨hc, hf, hz⟩ := after hB; (try (have hq := after hM; obtain ⟨hcM, hfM, hzM⟩ := hq)); (try (have hq := after hN; obtain ⟨hcN, hfN, hzN⟩ := hq)); have hs := hb.size; (try simp at hz); (try simp at hs); (try clear q0_0); have q0_0 := hc (w.heap.size) 0 (by simp [go_sem]); simp [go_sem] at q0_0; (try clear q0_1); have q0_1 := hc (w.heap.size) 1 (by simp [go_sem]); simp [go_sem] at q0_1; (try clear q0_2); have q0_2 := hc (w.heap.size) 2 (by simp [go_sem]); simp [go_sem] at q0_2)
  refine wp_loop_rounds 4 ?_
  rw [rounds_succ]
  go_wp2_with fail
  all_goals (try (go_ret; exact ⟨rfl, (by repeat (first | with_reducible exact Below.refl _ _ | with_reducible assumption | with_reducible refine Below.drew ?_ | with_reducible refine Below.setCell ?_ (by first | omega | (simp; omega) | simp) _ | with_reducible refine Below.alloc ?_ (by first | omega | (simp; omega) | simp) _ | with_reducible refine Below.trans ?_ (Below.mono (by with_reducible assumption) (by first | omega | (simp; omega) | simp))))⟩))
  all_goals (rw [rounds_succ]; go_wp2_with fail)
  all_goals (try (go_ret; exact ⟨rfl, (by repeat (first | with_reducible exact Below.refl _ _ | with_reducible assumption | with_reducible refine Below.drew ?_ | with_reducible refine Below.setCell ?_ (by first | omega | (simp; omega) | simp) _ | with_reducible refine Below.alloc ?_ (by first | omega | (simp; omega) | simp) _ | with_reducible refine Below.trans ?_ (Below.mono (by with_reducible assumption) (by first | omega | (simp; omega) | simp))))⟩))
  all_goals (rw [rounds_succ]; go_wp2_with fail)
  all_goals (try (go_ret; exact ⟨rfl, (by repeat (first | with_reducible exact Below.refl _ _ | with_reducible assumption | with_reducible refine Below.drew ?_ | with_reducible refine Below.setCell ?_ (by first | omega | (simp; omega) | simp) _ | with_reducible refine Below.alloc ?_ (by first | omega | (simp; omega) | simp) _ | with_reducible refine Below.trans ?_ (Below.mono (by with_reducible assumption) (by first | omega | (simp; omega) | simp))))⟩))
  all_goals (rw [rounds_succ]; go_wp2_with (go_at_call 14; refine (rule_any _ _ _ _ _ _).mono ?_; rintro e w' ⟨rfl, rfl⟩))
  all_goals go_ret
  all_goals refine ⟨ret_bool ?_, (by repeat (first | with_reducible exact Below.refl _ _ | with_reducible assumption | with_reducible refine Below.drew ?_ | with_reducible refine Below.setCell ?_ (by first | omega | (simp; omega) | simp) _ | with_reducible refine Below.alloc ?_ (by first | omega | (simp; omega) | simp) _ | with_reducible refine Below.trans ?_ (Below.mono (by with_reducible assumption) (by first | omega | (simp; omega) | simp))))⟩
  all_goals (first | refine fin3 ?_ ?_ ?_ ?_ ?_ ?_ | refine fin2 (l := l) (i := i) (k := k) ?_ ?_ ?_ ?_ ?_ ?_ | refine fin1 (l := l) (i := i) (k := k) (by assumption) ?_ ?_ ?_ ?_ ?_ ?_)
  all_goals (first | omega | exact turn (by assumption) | exact turn3 (by assumption) (by omega) (by omega))
end Go.Proofs.Ytnlbfemlclepkaa
