/-
  Contract of the reference's Text; the walks of LbwRules and LbwTexts.
  Conditions: none.
-/
import Derived.Test.YtnlbfemlclepkaaLbwRule
namespace Go.Proofs.Ytnlbfemlclepkaa
open Go.RowKit

theorem rtext_full (c l i k : Int) (hc : Known c) (h1 : Known l) (h2 : Known i) (h3 : Known k) (w : World) : Calls Try.prog 17 #[.agg #[.int .u8 c, .int .u8 l, .int .u8 i, .int .u8 k]] w fun e w' => e = .returned (.string (textB c l i k)) ∧ Below w.heap.size w w' := by
  have hl := @Later.cell
  have e1 : textB c l i k = callB c ++ ⟨#[32, 80, 73, 84, 67, 72, 73, 78, 71, 32]⟩ ++ nameB l ++ ⟨#[32, 73, 77, 80, 65, 67, 84, 32]⟩ ++ nameB i ++ ⟨#[32, 87, 73, 67, 75, 69, 84, 32]⟩ ++ nameB k := by unfold textB; rw [if_pos ⟨hc, h1, h2, h3⟩]
  have E1 := Lib.hid e1
  clear e1
  have bl : 0 ≤ l ∧ l ≤ 255 := by unfold Known at h1; omega
  have bi : 0 ≤ i ∧ i ≤ 255 := by unfold Known at h2; omega
  have bk : 0 ≤ k ∧ k ≤ 255 := by unfold Known at h3; omega
  obtain ⟨bl1, bl2⟩ := bl; obtain ⟨bi1, bi2⟩ := bi; obtain ⟨bk1, bk2⟩ := bk
  have s1 := nameB_size l
  have s2 := nameB_size i
  have s3 := nameB_size k
  have f1 := nameB_full h1
  have f2 := nameB_full h2
  have f3 := nameB_full h3
  clear h1 h2 h3
  rcases hc with rfl | rfl | rfl
  all_goals
    go_enter Try.func17, Try.ntmps17
    go_wp2_with fail
    refine region_later (by kernel_rfl) (by kernel_rfl) ?_; (repeat (go_big_quiet_step ((go_at_call 22; exact Calls.later (rname_any _ (by omega) (by omega) _))))); refine wpQuiet_nil ?_; rintro _ ⟨x, rfl⟩; obtain ⟨w', hb⟩ := x; (try clear hc hf); (try clear hcM hfM); (try clear hcN hfN); (first | ((first | replace hB := Below.next hB (Nat.le_refl _) hb | replace hB := Below.next1 hB (Nat.le_refl _) hb | replace hB := Below.next2 hB (Nat.le_refl _) hb); (first | replace hM := Below.next hM (Nat.le_refl _) hb | replace hM := Below.next1 hM (Nat.le_refl _) hb | replace hM := Below.next2 hM (Nat.le_refl _) hb); (first | replace hN := Below.next hN (Nat.le_refl _) hb | replace hN := Below.next1 hN (Nat.le_refl _) hb | replace hN := Below.next2 hN (Nat.le_refl _) hb)) | ((first | replace hB := Below.next hB (Nat.le_refl _) hb | replace hB := Below.next1 hB (Nat.le_refl _) hb | replace hB := Below.next2 hB (Nat.le_refl _) hb); (first | replace hM := Below.next hM (Nat.le_refl _) hb | replace hM := Below.next1 hM (Nat.le_refl _) hb | replace hM := Below.next2 hM (Nat.le_refl _) hb); have hN := Below.mid hb) | ((first | replace hB := Below.next hB (Nat.le_refl _) hb | replace hB := Below.next1 hB (Nat.le_refl _) hb | replace hB := Below.next2 hB (Nat.le_refl _) hb); (first | replace hM := Below.next hM (Nat.le_refl _) hb | replace hM := Below.next1 hM (Nat.le_refl _) hb | replace hM := Below.next2 hM (Nat.le_refl _) hb)) | ((first | replace hB := Below.next hB (Nat.le_refl _) hb | replace hB := Below.next1 hB (Nat.le_refl _) hb | replace hB := Below.next2 hB (Nat.le_refl _) hb); have hM := Below.mid hb) | (first | replace hB := Below.next hB (Nat.le_refl _) hb | replace hB := Below.next1 hB (Nat.le_refl _) hb | replace hB := Below.next2 hB (Nat.le_refl _) hb) | have hB := hb); obtain ⟨hc, hf, hz⟩ := after hB; (try (have hq := after hM; obtain ⟨hcM, hfM, hzM⟩ := hq)); (try (have hq := after hN; obtain ⟨hcN, hfN, hzN⟩ := hq)); have hs := hb.size; (try simp at hz); (try simp at hs)
    go_wp2_with fail
    go_ret
    refine ⟨ret_str ?_, (by repeat (first | exact Below.refl _ _ | assumption | refine Below.drew ?_ | refine Below.alloc ?_ (by first | omega | (simp; omega) | simp) _ | refine Below.setCell ?_ (by first | omega | (simp; omega) | simp) _ | refine Below.trans ?_ (Below.mono (by assumption) (by first | omega | (simp; omega) | simp))))⟩
    rw [E1.out]
    rfl
set_option maxHeartbeats 1000000 in
theorem rtext_some (c l i k : Int) (hc : Known c) (hx : ¬(Known l ∧ Known i ∧ Known k)) (bl1 : 0 ≤ l) (bl2 : l ≤ 255) (bi1 : 0 ≤ i) (bi2 : i ≤ 255) (bk1 : 0 ≤ k) (bk2 : k ≤ 255) (w : World) : Calls Try.prog 17 #[.agg #[.int .u8 c, .int .u8 l, .int .u8 i, .int .u8 k]] w fun e w' => e = .returned (.string (textB c l i k)) ∧ Below w.heap.size w w' := by
  have hl := @Later.cell
  have e1 : textB c l i k = ⟨#[]⟩ := by unfold textB; rw [if_neg (fun h => hx h.2)]
  have E1 := Lib.hid e1
  clear e1
  have hy : nameB l = ⟨#[]⟩ ∨ ((nameB l).toList.isEmpty = false ∧ nameB i = ⟨#[]⟩) ∨ ((nameB l).toList.isEmpty = false ∧ (nameB i).toList.isEmpty = false ∧ nameB k = ⟨#[]⟩) := by
    by_cases h1 : Known l
    · by_cases h2 : Known i
      · exact .inr (.inr ⟨nameB_full h1, nameB_full h2, nameB_none fun h3 => hx ⟨h1, h2, h3⟩⟩)
      · exact .inr (.inl ⟨nameB_full h1, nameB_none h2⟩)
    · exact .inl (nameB_none h1)
  clear hx
  rcases hc with rfl | rfl | rfl <;> rcases hy with f1 | ⟨f1, f2⟩ | ⟨f1, f2, f3⟩
  all_goals
    go_enter Try.func17, Try.ntmps17
    go_wp2_with fail
    refine region_later (by kernel_rfl) (by kernel_rfl) ?_; (repeat (go_big_quiet_step ((go_at_call 22; exact Calls.later (rname_any _ (by omega) (by omega) _))))); refine wpQuiet_nil ?_; rintro _ ⟨x, rfl⟩; obtain ⟨w', hb⟩ := x; (try clear hc hf); (try clear hcM hfM); (try clear hcN hfN); (first | ((first | replace hB := Below.next hB (Nat.le_refl _) hb | replace hB := Below.next1 hB (Nat.le_refl _) hb | replace hB := Below.next2 hB (Nat.le_refl _) hb); (first | replace hM := Below.next hM (Nat.le_refl _) hb | replace hM := Below.next1 hM (Nat.le_refl _) hb | replace hM := Below.next2 hM (Nat.le_refl _) hb); (first | replace hN := Below.next hN (Nat.le_refl _) hb | replace hN := Below.next1 hN (Nat.le_refl _) hb | replace hN := Below.next2 hN (Nat.le_refl _) hb)) | ((first | replace hB := Below.next hB (Nat.le_refl _) hb | replace hB := Below.next1 hB (Nat.le_refl _) hb | replace hB := Below.next2 hB (Nat.le_refl _) hb); (first | replace hM := Below.next hM (Nat.le_refl _) hb | replace hM := Below.next1 hM (Nat.le_refl _) hb | replace hM := Below.next2 hM (Nat.le_refl _) hb); have hN := Below.mid hb) | ((first | replace hB := Below.next hB (Nat.le_refl _) hb | replace hB := Below.next1 hB (Nat.le_refl _) hb | replace hB := Below.next2 hB (Nat.le_refl _) hb); (first | replace hM := Below.next hM (Nat.le_refl _) hb | replace hM := Below.next1 hM (Nat.le_refl _) hb | replace hM := Below.next2 hM (Nat.le_refl _) hb)) | ((first | replace hB := Below.next hB (Nat.le_refl _) hb | replace hB := Below.next1 hB (Nat.le_refl _) hb | replace hB := Below.next2 hB (Nat.le_refl _) hb); have hM := Below.mid hb) | (first | replace hB := Below.next hB (Nat.le_refl _) hb | replace hB := Below.next1 hB (Nat.le_refl _) hb | replace hB := Below.next2 hB (Nat.le_refl _) hb) | have hB := hb); obtain ⟨hc, hf, hz⟩ := after hB; (try (have hq := after hM; obtain ⟨hcM, hfM, hzM⟩ := hq)); (try (have hq := after hN; obtain ⟨hcN, hfN, hzN⟩ := hq)); have hs := hb.size; (try simp at hz); (try simp at hs)
    go_wp2_with fail
    go_ret
    refine ⟨ret_str ?_, (by repeat (first | exact Below.refl _ _ | assumption | refine Below.drew ?_ | refine Below.alloc ?_ (by first | omega | (simp; omega) | simp) _ | refine Below.setCell ?_ (by first | omega | (simp; omega) | simp) _ | refine Below.trans ?_ (Below.mono (by assumption) (by first | omega | (simp; omega) | simp))))⟩
    rw [E1.out]
theorem rtext_none (c l i k : Int) (h0 : 0 ≤ c) (hc : ¬Known c) (bl1 : 0 ≤ l) (bl2 : l ≤ 255) (bi1 : 0 ≤ i) (bi2 : i ≤ 255) (bk1 : 0 ≤ k) (bk2 : k ≤ 255) (w : World) : Calls Try.prog 17 #[.agg #[.int .u8 c, .int .u8 l, .int .u8 i, .int .u8 k]] w fun e w' => e = .returned (.string (textB c l i k)) ∧ Below w.heap.size w w' := by
  have hl := @Later.cell
  have e1 : textB c l i k = ⟨#[]⟩ := by unfold textB; rw [if_neg (fun h => hc h.1)]
  have E1 := Lib.hid e1
  clear e1
  unfold Known at hc
  rcases Int.lt_or_le c 1 with h1 | h1
  · clear hc
    go_enter Try.func17, Try.ntmps17
    go_wp2_with fail
    refine region_later (by kernel_rfl) (by kernel_rfl) ?_; (repeat (go_big_quiet_step ((go_at_call 22; exact Calls.later (rname_any _ (by omega) (by omega) _))))); refine wpQuiet_nil ?_; rintro _ ⟨x, rfl⟩; obtain ⟨w', hb⟩ := x; (try clear hc hf); (try clear hcM hfM); (try clear hcN hfN); (first | ((first | replace hB := Below.next hB (Nat.le_refl _) hb | replace hB := Below.next1 hB (Nat.le_refl _) hb | replace hB := Below.next2 hB (Nat.le_refl _) hb); (first | replace hM := Below.next hM (Nat.le_refl _) hb | replace hM := Below.next1 hM (Nat.le_refl _) hb | replace hM := Below.next2 hM (Nat.le_refl _) hb); (first | replace hN := Below.next hN (Nat.le_refl _) hb | replace hN := Below.next1 hN (Nat.le_refl _) hb | replace hN := Below.next2 hN (Nat.le_refl _) hb)) | ((first | replace hB := Below.next hB (Nat.le_refl _) hb | replace hB := Below.next1 hB (Nat.le_refl _) hb | replace hB := Below.next2 hB (Nat.le_refl _) hb); (first | replace hM := Below.next hM (Nat.le_refl _) hb | replace hM := Below.next1 hM (Nat.le_refl _) hb | replace hM := Below.next2 hM (Nat.le_refl _) hb); have hN := Below.mid hb) | ((first | replace hB := Below.next hB (Nat.le_refl _) hb | replace hB := Below.next1 hB (Nat.le_refl _) hb | replace hB := Below.next2 hB (Nat.le_refl _) hb); (first | replace hM := Below.next hM (Nat.le_refl _) hb | replace hM := Below.next1 hM (Nat.le_refl _) hb | replace hM := Below.next2 hM (Nat.le_refl _) hb)) | ((first | replace hB := Below.next hB (Nat.le_refl _) hb | replace hB := Below.next1 hB (Nat.le_refl _) hb | replace hB := Below.next2 hB (Nat.le_refl _) hb); have hM := Below.mid hb) | (first | replace hB := Below.next hB (Nat.le_refl _) hb | replace hB := Below.next1 hB (Nat.le_refl _) hb | replace hB := Below.next2 hB (Nat.le_refl _) hb) | have hB := hb); obtain ⟨hc, hf, hz⟩ := after hB; (try (have hq := after hM; obtain ⟨hcM, hfM, hzM⟩ := hq)); (try (have hq := after hN; obtain ⟨hcN, hfN, hzN⟩ := hq)); have hs := hb.size; (try simp at hz); (try simp at hs)
    go_wp2_with fail
    go_ret
    refine ⟨ret_str ?_, (by repeat (first | exact Below.refl _ _ | assumption | refine Below.drew ?_ | refine Below.alloc ?_ (by first | omega | (simp; omega) | simp) _ | refine Below.setCell ?_ (by first | omega | (simp; omega) | simp) _ | refine Below.trans ?_ (Below.mono (by assumption) (by first | omega | (simp; omega) | simp))))⟩
    rw [E1.out]
  · have h3 : 3 < c := by omega
    clear hc
    go_enter Try.func17, Try.ntmps17
    go_wp2_with fail
    refine region_later (by kernel_rfl) (by kernel_rfl) ?_; (repeat (go_big_quiet_step ((go_at_call 22; exact Calls.later (rname_any _ (by omega) (by omega) _))))); refine wpQuiet_nil ?_; rintro _ ⟨x, rfl⟩; obtain ⟨w', hb⟩ := x; (try clear hc hf); (try clear hcM hfM); (try clear hcN hfN); (first | ((first | replace hB := Below.next hB (Nat.le_refl _) hb | replace hB := Below.next1 hB (Nat.le_refl _) hb | replace hB := Below.next2 hB (Nat.le_refl _) hb); (first | replace hM := Below.next hM (Nat.le_refl _) hb | replace hM := Below.next1 hM (Nat.le_refl _) hb | replace hM := Below.next2 hM (Nat.le_refl _) hb); (first | replace hN := Below.next hN (Nat.le_refl _) hb | replace hN := Below.next1 hN (Nat.le_refl _) hb | replace hN := Below.next2 hN (Nat.le_refl _) hb)) | ((first | replace hB := Below.next hB (Nat.le_refl _) hb | replace hB := Below.next1 hB (Nat.le_refl _) hb | replace hB := Below.next2 hB (Nat.le_refl _) hb); (first | replace hM := Below.next hM (Nat.le_refl _) hb | replace hM := Below.next1 hM (Nat.le_refl _) hb | replace hM := Below.next2 hM (Nat.le_refl _) hb); have hN := Below.mid hb) | ((first | replace hB := Below.next hB (Nat.le_refl _) hb | replace hB := Below.next1 hB (Nat.le_refl _) hb | replace hB := Below.next2 hB (Nat.le_refl _) hb); (first | replace hM := Below.next hM (Nat.le_refl _) hb | replace hM := Below.next1 hM (Nat.le_refl _) hb | replace hM := Below.next2 hM (Nat.le_refl _) hb)) | ((first | replace hB := Below.next hB (Nat.le_refl _) hb | replace hB := Below.next1 hB (Nat.le_refl _) hb | replace hB := Below.next2 hB (Nat.le_refl _) hb); have hM := Below.mid hb) | (first | replace hB := Below.next hB (Nat.le_refl _) hb | replace hB := Below.next1 hB (Nat.le_refl _) hb | replace hB := Below.next2 hB (Nat.le_refl _) hb) | have hB := hb); obtain ⟨hc, hf, hz⟩ := after hB; (try (have hq := after hM; obtain ⟨hcM, hfM, hzM⟩ := hq)); (try (have hq := after hN; obtain ⟨hcN, hfN, hzN⟩ := hq)); have hs := hb.size; (try simp at hz); (try simp at hs)
    go_wp2_with fail
    go_ret
    refine ⟨ret_str ?_, (by repeat (first | exact Below.refl _ _ | assumption | refine Below.drew ?_ | refine Below.alloc ?_ (by first | omega | (simp; omega) | simp) _ | refine Below.setCell ?_ (by first | omega | (simp; omega) | simp) _ | refine Below.trans ?_ (Below.mono (by assumption) (by first | omega | (simp; omega) | simp))))⟩
    rw [E1.out]
theorem rtext_any (c l i k : Int) (h0 : 0 ≤ c) (bl1 : 0 ≤ l) (bl2 : l ≤ 255) (bi1 : 0 ≤ i) (bi2 : i ≤ 255) (bk1 : 0 ≤ k) (bk2 : k ≤ 255) (w : World) : Calls Try.prog 17 #[.agg #[.int .u8 c, .int .u8 l, .int .u8 i, .int .u8 k]] w fun e w' => e = .returned (.string (textB c l i k)) ∧ Below w.heap.size w w' := by
  by_cases hc : Known c
  · by_cases hx : Known l ∧ Known i ∧ Known k
    · exact rtext_full c l i k hc hx.1 hx.2.1 hx.2.2 w
    · exact rtext_some c l i k hc hx bl1 bl2 bi1 bi2 bk1 bk2 w
  · exact rtext_none c l i k h0 hc bl1 bl2 bi1 bi2 bk1 bk2 w

theorem lbwTexts_walk (c l i k : Int) (h0 : 0 ≤ c ∧ c ≤ 255) (hl1 : 0 ≤ l ∧ l ≤ 255) (hi1 : 0 ≤ i ∧ i ≤ 255) (hk1 : 0 ≤ k ∧ k ≤ 255) (w : World) : Calls Try.prog 5 #[.agg #[.int .u8 c, .int .u8 l, .int .u8 i, .int .u8 k]] w fun e w' => e = .returned (.bool true) ∧ Below w.heap.size w w' := by
  have hl := @Later.cell
  obtain ⟨a1, a2⟩ := h0; obtain ⟨b1, b2⟩ := hl1; obtain ⟨c1, c2⟩ := hi1; obtain ⟨d1, d2⟩ := hk1
  go_enter Try.func5, Try.ntmps5
  go_wp2_with fail
  refine region_later (by kernel_rfl) (by kernel_rfl) ?_; (repeat (go_big_quiet_step (first | (go_at_call 13; exact Calls.later (awake35_any _)) | (go_at_call 16; exact Calls.later (text_any _ _ _ _ a1 _)) | (go_at_call 17; exact Calls.later (rtext_any _ _ _ _ a1 b1 b2 c1 c2 d1 d2 _))))); refine wpQuiet_nil ?_; rintro _ ⟨x, rfl⟩; obtain ⟨w', hb⟩ := x; (try clear hc hf); (try clear hcM hfM); (try clear hcN hfN); (first | ((first | replace hB := Below.next hB (Nat.le_refl _) hb | replace hB := Below.next1 hB (Nat.le_refl _) hb | replace hB := Below.next2 hB (Nat.le_refl _) hb); (first | replace hM := Below.next hM (Nat.le_refl _) hb | replace hM := Below.next1 hM (Nat.le_refl _) hb | replace hM := Below.next2 hM (Nat.le_refl _) hb); (first | replace hN := Below.next hN (Nat.le_refl _) hb | replace hN := Below.next1 hN (Nat.le_refl _) hb | replace hN := Below.next2 hN (Nat.le_refl _) hb)) | ((first | replace hB := Below.next hB (Nat.le_refl _) hb | replace hB := Below.next1 hB (Nat.le_refl _) hb | replace hB := Below.next2 hB (Nat.le_refl _) hb); (first | replace hM := Below.next hM (Nat.le_refl _) hb | replace hM := Below.next1 hM (Nat.le_refl _) hb | replace hM := Below.next2 hM (Nat.le_refl _) hb); have hN := Below.mid hb) | ((first | replace hB := Below.next hB (Nat.le_refl _) hb | replace hB := Below.next1 hB (Nat.le_refl _) hb | replace hB := Below.next2 hB (Nat.le_refl _) hb); (first | replace hM := Below.next hM (Nat.le_refl _) hb | replace hM := Below.next1 hM (Nat.le_refl _) hb | replace hM := Below.next2 hM (Nat.le_refl _) hb)) | ((first | replace hB := Below.next hB (Nat.le_refl _) hb | replace hB := Below.next1 hB (Nat.le_refl _) hb | replace hB := Below.next2 hB (Nat.le_refl _) hb); have hM := Below.mid hb) | (first | replace hB := Below.next hB (Nat.le_refl _) hb | replace hB := Below.next1 hB (Nat.le_refl _) hb | replace hB := Below.next2 hB (Nat.le_refl _) hb) | have hB := hb); obtain ⟨hc, hf, hz⟩ := after hB; (try (have hq := after hM; obtain ⟨hcM, hfM, hzM⟩ := hq)); (try (have hq := after hN; obtain ⟨hcN, hfN, hzN⟩ := hq)); have hs := hb.size; (try simp at hz); (try simp at hs)
  go_wp2_with fail
  go_ret
  exact ⟨rfl, (by repeat (first | exact Below.refl _ _ | assumption | refine Below.drew ?_ | refine Below.alloc ?_ (by first | omega | (simp; omega) | simp) _ | refine Below.setCell ?_ (by first | omega | (simp; omega) | simp) _ | refine Below.trans ?_ (Below.mono (by assumption) (by first | omega | (simp; omega) | simp))))⟩

theorem lbwRules_walk (l i k : Int) (bat void : Bool) (w : World) : Calls Try.prog 3 #[.agg #[.int .u8 l, .int .u8 i, .int .u8 k], .bool bat, .bool void] w fun e w' => e = .returned (.bool true) ∧ Below w.heap.size w w' := by
  have hl := @Later.cell
  go_enter Try.func3, Try.ntmps3
  go_wp2_with fail
  refine region_later (by kernel_rfl) (by kernel_rfl) ?_; (repeat (go_big_quiet_step (first | (go_at_call 13; exact Calls.later (awake35_any _)) | (go_at_call 14; exact Calls.later_same (rule_any _ _ _ _ _ _)) | (go_at_call 15; exact Calls.later_same (rrule_any _ _ _ _ _ _))))); refine wpQuiet_nil ?_; rintro _ ⟨x, rfl⟩; obtain ⟨w', hb⟩ := x; (try clear hc hf); (try clear hcM hfM); (try clear hcN hfN); (first | ((first | replace hB := Below.next hB (Nat.le_refl _) hb | replace hB := Below.next1 hB (Nat.le_refl _) hb | replace hB := Below.next2 hB (Nat.le_refl _) hb); (first | replace hM := Below.next hM (Nat.le_refl _) hb | replace hM := Below.next1 hM (Nat.le_refl _) hb | replace hM := Below.next2 hM (Nat.le_refl _) hb); (first | replace hN := Below.next hN (Nat.le_refl _) hb | replace hN := Below.next1 hN (Nat.le_refl _) hb | replace hN := Below.next2 hN (Nat.le_refl _) hb)) | ((first | replace hB := Below.next hB (Nat.le_refl _) hb | replace hB := Below.next1 hB (Nat.le_refl _) hb | replace hB := Below.next2 hB (Nat.le_refl _) hb); (first | replace hM := Below.next hM (Nat.le_refl _) hb | replace hM := Below.next1 hM (Nat.le_refl _) hb | replace hM := Below.next2 hM (Nat.le_refl _) hb); have hN := Below.mid hb) | ((first | replace hB := Below.next hB (Nat.le_refl _) hb | replace hB := Below.next1 hB (Nat.le_refl _) hb | replace hB := Below.next2 hB (Nat.le_refl _) hb); (first | replace hM := Below.next hM (Nat.le_refl _) hb | replace hM := Below.next1 hM (Nat.le_refl _) hb | replace hM := Below.next2 hM (Nat.le_refl _) hb)) | ((first | replace hB := Below.next hB (Nat.le_refl _) hb | replace hB := Below.next1 hB (Nat.le_refl _) hb | replace hB := Below.next2 hB (Nat.le_refl _) hb); have hM := Below.mid hb) | (first | replace hB := Below.next hB (Nat.le_refl _) hb | replace hB := Below.next1 hB (Nat.le_refl _) hb | replace hB := Below.next2 hB (Nat.le_refl _) hb) | have hB := hb); obtain ⟨hc, hf, hz⟩ := after hB; (try (have hq := after hM; obtain ⟨hcM, hfM, hzM⟩ := hq)); (try (have hq := after hN; obtain ⟨hcN, hfN, hzN⟩ := hq)); have hs := hb.size; (try simp at hz); (try simp at hs)
  go_wp2_with fail
  go_ret
  exact ⟨rfl, (by repeat (first | exact Below.refl _ _ | assumption | refine Below.drew ?_ | refine Below.alloc ?_ (by first | omega | (simp; omega) | simp) _ | refine Below.setCell ?_ (by first | omega | (simp; omega) | simp) _ | refine Below.trans ?_ (Below.mono (by assumption) (by first | omega | (simp; omega) | simp))))⟩
end Go.Proofs.Ytnlbfemlclepkaa
