/-
  Contracts of lbw.Rule, lbw.Text and the reference's; the examples of the chapter (awake).
  Conditions: none.
-/
import Derived.Test.YtnlbfemlclepkaaZonesWick
namespace Go.Proofs.Ytnlbfemlclepkaa
open Go.RowKit

def ruleV (l i k : Int) (bat void : Bool) : Int :=
  if bat = true ∨ void = true ∨ l = 1 ∨ i = 2 ∨ k = 2 then 2 else if l = 2 ∧ i = 1 ∧ k = 1 then 1 else 3

theorem rule_any (l i k : Int) (bat void : Bool) (w : World) : Calls Try.prog 14 #[.int .u8 l, .int .u8 i, .int .u8 k, .bool bat, .bool void] w fun e w' => e = .returned (.int .u8 (ruleV l i k bat void)) ∧ w = w' := by
  cases bat <;> cases void
  all_goals
    go_enter Try.func14, Try.ntmps14
    go_wp2_with fail
    all_goals (go_ret; refine ⟨ret_int ?_, rfl⟩; simp only [ruleV]; grind)
theorem rrule_any (l i k : Int) (bat void : Bool) (w : World) : Calls Try.prog 15 #[.int .u8 l, .int .u8 i, .int .u8 k, .bool bat, .bool void] w fun e w' => e = .returned (.int .u8 (ruleV l i k bat void)) ∧ w = w' := by
  cases bat <;> cases void
  all_goals
    go_enter Try.func15, Try.ntmps15
    go_wp2_with fail
    all_goals (go_ret; refine ⟨ret_int ?_, rfl⟩; simp only [ruleV]; grind)

theorem nameB_size (a : Int) : (nameB a).size ≤ 8 := by
  unfold nameB; split <;> (try split) <;> (try split) <;> decide
theorem nameB_full {a : Int} (h : a = 1 ∨ a = 2 ∨ a = 3) : (nameB a).toList.isEmpty = false := by
  rcases h with rfl | rfl | rfl <;> decide +kernel
theorem nameB_none {a : Int} (h : ¬(a = 1 ∨ a = 2 ∨ a = 3)) : nameB a = ⟨#[]⟩ := by
  unfold nameB; rw [if_neg (by omega), if_neg (by omega), if_neg (by omega)]

def callB (c : Int) : ByteArray := if c = 1 then ⟨#[79, 85, 84]⟩ else if c = 2 then ⟨#[78, 79, 84, 32, 79, 85, 84]⟩ else ⟨#[79, 80, 69, 78]⟩
def Known (a : Int) : Prop := a = 1 ∨ a = 2 ∨ a = 3
instance (a : Int) : Decidable (Known a) := inferInstanceAs (Decidable (a = 1 ∨ a = 2 ∨ a = 3))
def textB (c l i k : Int) : ByteArray :=
  if Known c ∧ Known l ∧ Known i ∧ Known k then callB c ++ ⟨#[32, 80, 73, 84, 67, 72, 73, 78, 71, 32]⟩ ++ nameB l ++ ⟨#[32, 73, 77, 80, 65, 67, 84, 32]⟩ ++ nameB i ++ ⟨#[32, 87, 73, 67, 75, 69, 84, 32]⟩ ++ nameB k else ⟨#[]⟩

theorem text_full (c l i k : Int) (hc : Known c) (h1 : Known l) (h2 : Known i) (h3 : Known k) (w : World) : Calls Try.prog 16 #[.agg #[.int .u8 c, .int .u8 l, .int .u8 i, .int .u8 k]] w fun e w' => e = .returned (.string (textB c l i k)) ∧ Below w.heap.size w w' := by
  have hl := @Later.cell
  have e1 : textB c l i k = callB c ++ ⟨#[32, 80, 73, 84, 67, 72, 73, 78, 71, 32]⟩ ++ nameB l ++ ⟨#[32, 73, 77, 80, 65, 67, 84, 32]⟩ ++ nameB i ++ ⟨#[32, 87, 73, 67, 75, 69, 84, 32]⟩ ++ nameB k := by unfold textB; rw [if_pos ⟨hc, h1, h2, h3⟩]
  have E1 := Lib.hid e1
  clear e1
  have s1 := nameB_size l
  have s2 := nameB_size i
  have s3 := nameB_size k
  have f1 := nameB_full h1
  have f2 := nameB_full h2
  have f3 := nameB_full h3
  clear h1 h2 h3
  rcases hc with rfl | rfl | rfl
  all_goals
    go_enter Try.func16, Try.ntmps16
    go_wp2_with fail
    refine region_later (by kernel_rfl) (by kernel_rfl) ?_; (repeat (go_big_quiet_step ((go_at_call 21; exact Calls.later_same (name_any _ _))))); refine wpQuiet_nil ?_; rintro _ ⟨x, rfl⟩; obtain ⟨w', hb⟩ := x; (try clear hc hf); (try clear hcM hfM); (try clear hcN hfN); (first | ((first | replace hB := Below.next hB (Nat.le_refl _) hb | replace hB := Below.next1 hB (Nat.le_refl _) hb | replace hB := Below.next2 hB (Nat.le_refl _) hb); (first | replace hM := Below.next hM (Nat.le_refl _) hb | replace hM := Below.next1 hM (Nat.le_refl _) hb | replace hM := Below.next2 hM (Nat.le_refl _) hb); (first | replace hN := Below.next hN (Nat.le_refl _) hb | replace hN := Below.next1 hN (Nat.le_refl _) hb | replace hN := Below.next2 hN (Nat.le_refl _) hb)) | ((first | replace hB := Below.next hB (Nat.le_refl _) hb | replace hB := Below.next1 hB (Nat.le_refl _) hb | replace hB := Below.next2 hB (Nat.le_refl _) hb); (first | replace hM := Below.next hM (Nat.le_refl _) hb | replace hM := Below.next1 hM (Nat.le_refl _) hb | replace hM := Below.next2 hM (Nat.le_refl _) hb); have hN := Below.mid hb) | ((first | replace hB := Below.next hB (Nat.le_refl _) hb | replace hB := Below.next1 hB (Nat.le_refl _) hb | replace hB := Below.next2 hB (Nat.le_refl _) hb); (first | replace hM := Below.next hM (Nat.le_refl _) hb | replace hM := Below.next1 hM (Nat.le_refl _) hb | replace hM := Below.next2 hM (Nat.le_refl _) hb)) | ((first | replace hB := Below.next hB (Nat.le_refl _) hb | replace hB := Below.next1 hB (Nat.le_refl _) hb | replace hB := Below.next2 hB (Nat.le_refl _) hb); have hM := Below.mid hb) | (first | replace hB := Below.next hB (Nat.le_refl _) hb | replace hB := Below.next1 hB (Nat.le_refl _) hb | replace hB := Below.next2 hB (Nat.le_refl _) hb) | have hB := hb); obtain ⟨hc, hf, hz⟩ := after hB; (try (have hq := after hM; obtain ⟨hcM, hfM, hzM⟩ := hq)); (try (have hq := after hN; obtain ⟨hcN, hfN, hzN⟩ := hq)); have hs := hb.size; (try simp at hz); (try simp at hs)
    go_wp2_with fail
    go_ret
    refine ⟨ret_str ?_, (by repeat (first | exact Below.refl _ _ | assumption | refine Below.drew ?_ | refine Below.alloc ?_ (by first | omega | (simp; omega) | simp) _ | refine Below.setCell ?_ (by first | omega | (simp; omega) | simp) _ | refine Below.trans ?_ (Below.mono (by assumption) (by first | omega | (simp; omega) | simp))))⟩
    rw [E1.out]
    rfl
set_option maxHeartbeats 1000000 in
theorem text_some (c l i k : Int) (hc : Known c) (hx : ¬(Known l ∧ Known i ∧ Known k)) (w : World) : Calls Try.prog 16 #[.agg #[.int .u8 c, .int .u8 l, .int .u8 i, .int .u8 k]] w fun e w' => e = .returned (.string (textB c l i k)) ∧ Below w.heap.size w w' := by
  have hl := @Later.cell
  have e1 : textB c l i k = ⟨#[]⟩ := by unfold textB; rw [if_neg (fun h => hx h.2)]
  have E1 := Lib.hid e1
  clear e1
  have hy : nameB l = ⟨#[]⟩ ∨ ((nameB l).toList.isEmpty = false ∧ nameB i = ⟨#[]⟩) ∨ ((nameB l).toList.isEmpty = false ∧ (nameB i).toList.isEmpty = false ∧ nameB k = ⟨#[]⟩) := by
    by_cases h1 : Known l
    · by_cases h2 : Known i
      · exact .inr (.inr ⟨nameB_full h1, nameB_full h2, nameB_none fun h3 => hx ⟨h1, h2, h3⟩⟩)
      · exact .inr (.inl ⟨nameB_full h1, nameB_none h2⟩)
    · exact .inl (nameB_none h1)
  clear hx
  rcases hc with rfl | rfl | rfl <;> rcases hy with f1 | ⟨f1, f2⟩ | ⟨f1, f2, f3⟩
  all_goals
    go_enter Try.func16, Try.ntmps16
    go_wp2_with fail
    refine region_later (by kernel_rfl) (by kernel_rfl) ?_; (repeat (go_big_quiet_step ((go_at_call 21; exact Calls.later_same (name_any _ _))))); refine wpQuiet_nil ?_; rintro _ ⟨x, rfl⟩; obtain ⟨w', hb⟩ := x; (try clear hc hf); (try clear hcM hfM); (try clear hcN hfN); (first | ((first | replace hB := Below.next hB (Nat.le_refl _) hb | replace hB := Below.next1 hB (Nat.le_refl _) hb | replace hB := Below.next2 hB (Nat.le_refl _) hb); (first | replace hM := Below.next hM (Nat.le_refl _) hb | replace hM := Below.next1 hM (Nat.le_refl _) hb | replace hM := Below.next2 hM (Nat.le_refl _) hb); (first | replace hN := Below.next hN (Nat.le_refl _) hb | replace hN := Below.next1 hN (Nat.le_refl _) hb | replace hN := Below.next2 hN (Nat.le_refl _) hb)) | ((first | replace hB := Below.next hB (Nat.le_refl _) hb | replace hB := Below.next1 hB (Nat.le_refl _) hb | replace hB := Below.next2 hB (Nat.le_refl _) hb); (first | replace hM := Below.next hM (Nat.le_refl _) hb | replace hM := Below.next1 hM (Nat.le_refl _) hb | replace hM := Below.next2 hM (Nat.le_refl _) hb); have hN := Below.mid hb) | ((first | replace hB := Below.next hB (Nat.le_refl _) hb | replace hB := Below.next1 hB (Nat.le_refl _) hb | replace hB := Below.next2 hB (Nat.le_refl _) hb); (first | replace hM := Below.next hM (Nat.le_refl _) hb | replace hM := Below.next1 hM (Nat.le_refl _) hb | replace hM := Below.next2 hM (Nat.le_refl _) hb)) | ((first | replace hB := Below.next hB (Nat.le_refl _) hb | replace hB := Below.next1 hB (Nat.le_refl _) hb | replace hB := Below.next2 hB (Nat.le_refl _) hb); have hM := Below.mid hb) | (first | replace hB := Below.next hB (Nat.le_refl _) hb | replace hB := Below.next1 hB (Nat.le_refl _) hb | replace hB := Below.next2 hB (Nat.le_refl _) hb) | have hB := hb); obtain ⟨hc, hf, hz⟩ := after hB; (try (have hq := after hM; obtain ⟨hcM, hfM, hzM⟩ := hq)); (try (have hq := after hN; obtain ⟨hcN, hfN, hzN⟩ := hq)); have hs := hb.size; (try simp at hz); (try simp at hs)
    go_wp2_with fail
    go_ret
    refine ⟨ret_str ?_, (by repeat (first | exact Below.refl _ _ | assumption | refine Below.drew ?_ | refine Below.alloc ?_ (by first | omega | (simp; omega) | simp) _ | refine Below.setCell ?_ (by first | omega | (simp; omega) | simp) _ | refine Below.trans ?_ (Below.mono (by assumption) (by first | omega | (simp; omega) | simp))))⟩
    rw [E1.out]
theorem text_none (c l i k : Int) (h0 : 0 ≤ c) (hc : ¬Known c) (w : World) : Calls Try.prog 16 #[.agg #[.int .u8 c, .int .u8 l, .int .u8 i, .int .u8 k]] w fun e w' => e = .returned (.string (textB c l i k)) ∧ Below w.heap.size w w' := by
  have hl := @Later.cell
  have e1 : textB c l i k = ⟨#[]⟩ := by unfold textB; rw [if_neg (fun h => hc h.1)]
  have E1 := Lib.hid e1
  clear e1
  unfold Known at hc
  have h1 : (c == 1) = false := by rw [beq_eq_false_iff_ne]; omega
  have h2 : (c == 2) = false := by rw [beq_eq_false_iff_ne]; omega
  have h3 : (c == 3) = false := by rw [beq_eq_false_iff_ne]; omega
  clear hc
  go_enter Try.func16, Try.ntmps16
  go_wp2_with fail
  go_ret
  refine ⟨ret_str ?_, (by repeat (first | exact Below.refl _ _ | assumption | refine Below.drew ?_ | refine Below.alloc ?_ (by first | omega | (simp; omega) | simp) _ | refine Below.setCell ?_ (by first | omega | (simp; omega) | simp) _ | refine Below.trans ?_ (Below.mono (by assumption) (by first | omega | (simp; omega) | simp))))⟩
  rw [E1.out]
theorem text_any (c l i k : Int) (h0 : 0 ≤ c) (w : World) : Calls Try.prog 16 #[.agg #[.int .u8 c, .int .u8 l, .int .u8 i, .int .u8 k]] w fun e w' => e = .returned (.string (textB c l i k)) ∧ Below w.heap.size w w' := by
  by_cases hc : Known c
  · by_cases hx : Known l ∧ Known i ∧ Known k
    · exact text_full c l i k hc hx.1 hx.2.1 hx.2.2 w
    · exact text_some c l i k hc hx w
  · exact text_none c l i k h0 hc w

/-- The examples of the chapter stand. -/
theorem awake35_any (w : World) : Calls Try.prog 13 #[] w fun e w' => e = .returned (.bool true) ∧ Below w.heap.size w w' := by
  have e1 : ruleV 2 1 1 false false = 1 := by decide
  have e2 : ruleV 3 1 1 false false = 3 := by decide
  have e3 : ruleV 1 1 1 false false = 2 := by decide
  have e4 : textB 3 2 1 3 = ⟨#[79, 80, 69, 78, 32, 80, 73, 84, 67, 72, 73, 78, 71, 32, 79, 85, 84, 32, 73, 77, 80, 65, 67, 84, 32, 73, 78, 32, 87, 73, 67, 75, 69, 84, 32, 77, 65, 82, 71, 73, 78, 65, 76]⟩ := by decide +kernel
  go_enter Try.func13, Try.ntmps13
  go_wp2_with (first | (go_at_call 14; refine (rule_any _ _ _ _ _ _).mono ?_; rintro e w' ⟨rfl, rfl⟩) | (go_at_call 16; refine (text_any _ _ _ _ (by omega) _).mono ?_; rintro e w' ⟨rfl, hb⟩; (try clear hc hf); (try clear hcM hfM); (try clear hcN hfN); (first | ((first | replace hB := Below.next hB (Nat.le_refl _) hb | replace hB := Below.next1 hB (Nat.le_refl _) hb | replace hB := Below.next2 hB (Nat.le_refl _) hb); (first | replace hM := Below.next hM (Nat.le_refl _) hb | replace hM := Below.next1 hM (Nat.le_refl _) hb | replace hM := Below.next2 hM (Nat.le_refl _) hb); (first | replace hN := Below.next hN (Nat.le_refl _) hb | replace hN := Below.next1 hN (Nat.le_refl _) hb | replace hN := Below.next2 hN (Nat.le_refl _) hb)) | ((first | replace hB := Below.next hB (Nat.le_refl _) hb | replace hB := Below.next1 hB (Nat.le_refl _) hb | replace hB := Below.next2 hB (Nat.le_refl _) hb); (first | replace hM := Below.next hM (Nat.le_refl _) hb | replace hM := Below.next1 hM (Nat.le_refl _) hb | replace hM := Below.next2 hM (Nat.le_refl _) hb); have hN := Below.mid hb) | ((first | replace hB := Below.next hB (Nat.le_refl _) hb | replace hB := Below.next1 hB (Nat.le_refl _) hb | replace hB := Below.next2 hB (Nat.le_refl _) hb); (first | replace hM := Below.next hM (Nat.le_refl _) hb | replace hM := Below.next1 hM (Nat.le_refl _) hb | replace hM := Below.next2 hM (Nat.le_refl _) hb)) | ((first | replace hB := Below.next hB (Nat.le_refl _) hb | replace hB := Below.next1 hB (Nat.le_refl _) hb | replace hB := Below.next2 hB (Nat.le_refl _) hb); have hM := Below.mid hb) | (first | replace hB := Below.next hB (Nat.le_refl _) hb | replace hB := Below.next1 hB (Nat.le_refl _) hb | replace hB := Below.next2 hB (Nat.le_refl _) hb) | have hB := hb); obtain ⟨hc, hf, hz⟩ := after hB; (try (have hq := after hM; obtain ⟨hcM, hfM, hzM⟩ := hq)); (try (have hq := after hN; obtain ⟨hcN, hfN, hzN⟩ := hq)); have hs := hb.size; (try simp at hz); (try simp at hs)))
  go_ret
  exact ⟨rfl, (by repeat (first | exact Below.refl _ _ | assumption | refine Below.drew ?_ | refine Below.alloc ?_ (by first | omega | (simp; omega) | simp) _ | refine Below.setCell ?_ (by first | omega | (simp; omega) | simp) _ | refine Below.trans ?_ (Below.mono (by assumption) (by first | omega | (simp; omega) | simp))))⟩
end Go.Proofs.Ytnlbfemlclepkaa
