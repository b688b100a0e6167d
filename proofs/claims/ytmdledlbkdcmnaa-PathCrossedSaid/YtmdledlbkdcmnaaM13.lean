/-
  Contracts and laws, merged: LbwRule DecPlain DecLaw Decided.
  Conditions: none.
-/
import Derived.Test.YtmdledlbkdcmnaaM5
import Derived.Test.YtmdledlbkdcmnaaM9
import Derived.Test.YtmdledlbkdcmnaaM1
set_option linter.unusedSimpArgs false
set_option linter.unusedVariables false
/-
  Contracts of lbw.Rule, lbw.Text and the reference's; the examples of the chapter (awake).
  Conditions: none.
-/
namespace Go.Proofs.Ytmdledlbkdcmnaa
open Go.RowKit

def ruleV (l i k : Int) (bat void : Bool) : Int :=
  if bat = true ∨ void = true ∨ l = 1 ∨ i = 2 ∨ k = 2 then 2 else if l = 2 ∧ i = 1 ∧ k = 1 then 1 else 3

theorem rule_any (l i k : Int) (bat void : Bool) (w : World) : Calls Try.prog 65 #[.int .u8 l, .int .u8 i, .int .u8 k, .bool bat, .bool void] w fun e w' => e = .returned (.int .u8 (ruleV l i k bat void)) ∧ w = w' := by
  cases bat <;> cases void
  all_goals
    go_enter Try.func65, Try.ntmps65
    go_wp2_with fail
    all_goals (go_ret; refine ⟨ret_int ?_, rfl⟩; simp only [ruleV]; grind)
theorem rrule_any (l i k : Int) (bat void : Bool) (w : World) : Calls Try.prog 95 #[.int .u8 l, .int .u8 i, .int .u8 k, .bool bat, .bool void] w fun e w' => e = .returned (.int .u8 (ruleV l i k bat void)) ∧ w = w' := by
  cases bat <;> cases void
  all_goals
    go_enter Try.func95, Try.ntmps95
    go_wp2_with fail
    all_goals (go_ret; refine ⟨ret_int ?_, rfl⟩; simp only [ruleV]; grind)

theorem nameB_size (a : Int) : (nameB a).size ≤ 8 := by
  unfold nameB; split <;> (try split) <;> (try split) <;> decide
theorem nameB_full {a : Int} (h : a = 1 ∨ a = 2 ∨ a = 3) : (nameB a).toList.isEmpty = false := by
  rcases h with rfl | rfl | rfl <;> decide +kernel
theorem nameB_none {a : Int} (h : ¬(a = 1 ∨ a = 2 ∨ a = 3)) : nameB a = ⟨#[]⟩ := by
  unfold nameB; rw [if_neg (by omega), if_neg (by omega), if_neg (by omega)]

def callB (c : Int) : ByteArray := if c = 1 then ⟨#[79, 85, 84]⟩ else if c = 2 then ⟨#[78, 79, 84, 32, 79, 85, 84]⟩ else ⟨#[79, 80, 69, 78]⟩
def Known (a : Int) : Prop := a = 1 ∨ a = 2 ∨ a = 3
instance (a : Int) : Decidable (Known a) := inferInstanceAs (Decidable (a = 1 ∨ a = 2 ∨ a = 3))
def textB (c l i k : Int) : ByteArray :=
  if Known c ∧ Known l ∧ Known i ∧ Known k then callB c ++ ⟨#[32, 80, 73, 84, 67, 72, 73, 78, 71, 32]⟩ ++ nameB l ++ ⟨#[32, 73, 77, 80, 65, 67, 84, 32]⟩ ++ nameB i ++ ⟨#[32, 87, 73, 67, 75, 69, 84, 32]⟩ ++ nameB k else ⟨#[]⟩

theorem text_full (c l i k : Int) (hc : Known c) (h1 : Known l) (h2 : Known i) (h3 : Known k) (w : World) : Calls Try.prog 88 #[.agg #[.int .u8 c, .int .u8 l, .int .u8 i, .int .u8 k]] w fun e w' => e = .returned (.string (textB c l i k)) ∧ Below w.heap.size w w' := by
  have hl := @Later.cell
  have e1 : textB c l i k = callB c ++ ⟨#[32, 80, 73, 84, 67, 72, 73, 78, 71, 32]⟩ ++ nameB l ++ ⟨#[32, 73, 77, 80, 65, 67, 84, 32]⟩ ++ nameB i ++ ⟨#[32, 87, 73, 67, 75, 69, 84, 32]⟩ ++ nameB k := by unfold textB; rw [if_pos ⟨hc, h1, h2, h3⟩]
  have E1 := Lib.hid e1
  clear e1
  have s1 := nameB_size l
  have s2 := nameB_size i
  have s3 := nameB_size k
  have f1 := nameB_full h1
  have f2 := nameB_full h2
  have f3 := nameB_full h3
  clear h1 h2 h3
  rcases hc with rfl | rfl | rfl
  all_goals
    go_enter Try.func88, Try.ntmps88
    go_wp2_with fail
    refine region_later (by kernel_rfl) (by kernel_rfl) ?_; (repeat (go_big_quiet_step ((go_at_call 54; exact Calls.later_same (name_any _ _))))); refine wpQuiet_nil ?_; rintro _ ⟨x, rfl⟩; obtain ⟨w', hb⟩ := x; (try clear hc hf); (try clear hcM hfM); (try clear hcN hfN); (first | ((first | replace hB := Below.next hB (Nat.le_refl _) hb | replace hB := Below.next1 hB (Nat.le_refl _) hb | replace hB := Below.next2 hB (Nat.le_refl _) hb); (first | replace hM := Below.next hM (Nat.le_refl _) hb | replace hM := Below.next1 hM (Nat.le_refl _) hb | replace hM := Below.next2 hM (Nat.le_refl _) hb); (first | replace hN := Below.next hN (Nat.le_refl _) hb | replace hN := Below.next1 hN (Nat.le_refl _) hb | replace hN := Below.next2 hN (Nat.le_refl _) hb)) | ((first | replace hB := Below.next hB (Nat.le_refl _) hb | replace hB := Below.next1 hB (Nat.le_refl _) hb | replace hB := Below.next2 hB (Nat.le_refl _) hb); (first | replace hM := Below.next hM (Nat.le_refl _) hb | replace hM := Below.next1 hM (Nat.le_refl _) hb | replace hM := Below.next2 hM (Nat.le_refl _) hb); have hN := Below.mid hb) | ((first | replace hB := Below.next hB (Nat.le_refl _) hb | replace hB := Below.next1 hB (Nat.le_refl _) hb | replace hB := Below.next2 hB (Nat.le_refl _) hb); (first | replace hM := Below.next hM (Nat.le_refl _) hb | replace hM := Below.next1 hM (Nat.le_refl _) hb | replace hM := Below.next2 hM (Nat.le_refl _) hb)) | ((first | replace hB := Below.next hB (Nat.le_refl _) hb | replace hB := Below.next1 hB (Nat.le_refl _) hb | replace hB := Below.next2 hB (Nat.le_refl _) hb); have hM := Below.mid hb) | (first | replace hB := Below.next hB (Nat.le_refl _) hb | replace hB := Below.next1 hB (Nat.le_refl _) hb | replace hB := Below.next2 hB (Nat.le_refl _) hb) | have hB := hb); obtain ⟨hc, hf, hz⟩ := after hB; (try (have hq := after hM; obtain ⟨hcM, hfM, hzM⟩ := hq)); (try (have hq := after hN; obtain ⟨hcN, hfN, hzN⟩ := hq)); have hs := hb.size; (try simp at hz); (try simp at hs)
    go_wp2_with fail
    go_ret
    refine ⟨ret_str ?_, (by repeat (first | with_reducible exact Below.refl _ _ | with_reducible assumption | with_reducible refine Below.drew ?_ | with_reducible refine Below.setCell ?_ (by first | omega | (simp; omega) | simp) _ | with_reducible refine Below.alloc ?_ (by first | omega | (simp; omega) | simp) _ | with_reducible refine Below.trans ?_ (Below.mono (by with_reducible assumption) (by first | omega | (simp; omega) | simp))))⟩
    rw [E1.out]
    rfl
set_option maxHeartbeats 1000000 in
theorem text_some (c l i k : Int) (hc : Known c) (hx : ¬(Known l ∧ Known i ∧ Known k)) (w : World) : Calls Try.prog 88 #[.agg #[.int .u8 c, .int .u8 l, .int .u8 i, .int .u8 k]] w fun e w' => e = .returned (.string (textB c l i k)) ∧ Below w.heap.size w w' := by
  have hl := @Later.cell
  have e1 : textB c l i k = ⟨#[]⟩ := by unfold textB; rw [if_neg (fun h => hx h.2)]
  have E1 := Lib.hid e1
  clear e1
  have hy : nameB l = ⟨#[]⟩ ∨ ((nameB l).toList.isEmpty = false ∧ nameB i = ⟨#[]⟩) ∨ ((nameB l).toList.isEmpty = false ∧ (nameB i).toList.isEmpty = false ∧ nameB k = ⟨#[]⟩) := by
    by_cases h1 : Known l
    · by_cases h2 : Known i
      · exact .inr (.inr ⟨nameB_full h1, nameB_full h2, nameB_none fun h3 => hx ⟨h1, h2, h3⟩⟩)
      · exact .inr (.inl ⟨nameB_full h1, nameB_none h2⟩)
    · exact .inl (nameB_none h1)
  clear hx
  rcases hc with rfl | rfl | rfl <;> rcases hy with f1 | ⟨f1, f2⟩ | ⟨f1, f2, f3⟩
  all_goals
    go_enter Try.func88, Try.ntmps88
    go_wp2_with fail
    refine region_later (by kernel_rfl) (by kernel_rfl) ?_; (repeat (go_big_quiet_step ((go_at_call 54; exact Calls.later_same (name_any _ _))))); refine wpQuiet_nil ?_; rintro _ ⟨x, rfl⟩; obtain ⟨w', hb⟩ := x; (try clear hc hf); (try clear hcM hfM); (try clear hcN hfN); (first | ((first | replace hB := Below.next hB (Nat.le_refl _) hb | replace hB := Below.next1 hB (Nat.le_refl _) hb | replace hB := Below.next2 hB (Nat.le_refl _) hb); (first | replace hM := Below.next hM (Nat.le_refl _) hb | replace hM := Below.next1 hM (Nat.le_refl _) hb | replace hM := Below.next2 hM (Nat.le_refl _) hb); (first | replace hN := Below.next hN (Nat.le_refl _) hb | replace hN := Below.next1 hN (Nat.le_refl _) hb | replace hN := Below.next2 hN (Nat.le_refl _) hb)) | ((first | replace hB := Below.next hB (Nat.le_refl _) hb | replace hB := Below.next1 hB (Nat.le_refl _) hb | replace hB := Below.next2 hB (Nat.le_refl _) hb); (first | replace hM := Below.next hM (Nat.le_refl _) hb | replace hM := Below.next1 hM (Nat.le_refl _) hb | replace hM := Below.next2 hM (Nat.le_refl _) hb); have hN := Below.mid hb) | ((first | replace hB := Below.next hB (Nat.le_refl _) hb | replace hB := Below.next1 hB (Nat.le_refl _) hb | replace hB := Below.next2 hB (Nat.le_refl _) hb); (first | replace hM := Below.next hM (Nat.le_refl _) hb | replace hM := Below.next1 hM (Nat.le_refl _) hb | replace hM := Below.next2 hM (Nat.le_refl _) hb)) | ((first | replace hB := Below.next hB (Nat.le_refl _) hb | replace hB := Below.next1 hB (Nat.le_refl _) hb | replace hB := Below.next2 hB (Nat.le_refl _) hb); have hM := Below.mid hb) | (first | replace hB := Below.next hB (Nat.le_refl _) hb | replace hB := Below.next1 hB (Nat.le_refl _) hb | replace hB := Below.next2 hB (Nat.le_refl _) hb) | have hB := hb); obtain ⟨hc, hf, hz⟩ := after hB; (try (have hq := after hM; obtain ⟨hcM, hfM, hzM⟩ := hq)); (try (have hq := after hN; obtain ⟨hcN, hfN, hzN⟩ := hq)); have hs := hb.size; (try simp at hz); (try simp at hs)
    go_wp2_with fail
    go_ret
    refine ⟨ret_str ?_, (by repeat (first | with_reducible exact Below.refl _ _ | with_reducible assumption | with_reducible refine Below.drew ?_ | with_reducible refine Below.setCell ?_ (by first | omega | (simp; omega) | simp) _ | with_reducible refine Below.alloc ?_ (by first | omega | (simp; omega) | simp) _ | with_reducible refine Below.trans ?_ (Below.mono (by with_reducible assumption) (by first | omega | (simp; omega) | simp))))⟩
    rw [E1.out]
theorem text_none (c l i k : Int) (h0 : 0 ≤ c) (hc : ¬Known c) (w : World) : Calls Try.prog 88 #[.agg #[.int .u8 c, .int .u8 l, .int .u8 i, .int .u8 k]] w fun e w' => e = .returned (.string (textB c l i k)) ∧ Below w.heap.size w w' := by
  have hl := @Later.cell
  have e1 : textB c l i k = ⟨#[]⟩ := by unfold textB; rw [if_neg (fun h => hc h.1)]
  have E1 := Lib.hid e1
  clear e1
  unfold Known at hc
  have h1 : (c == 1) = false := by rw [beq_eq_false_iff_ne]; omega
  have h2 : (c == 2) = false := by rw [beq_eq_false_iff_ne]; omega
  have h3 : (c == 3) = false := by rw [beq_eq_false_iff_ne]; omega
  clear hc
  go_enter Try.func88, Try.ntmps88
  go_wp2_with fail
  go_ret
  refine ⟨ret_str ?_, (by repeat (first | with_reducible exact Below.refl _ _ | with_reducible assumption | with_reducible refine Below.drew ?_ | with_reducible refine Below.setCell ?_ (by first | omega | (simp; omega) | simp) _ | with_reducible refine Below.alloc ?_ (by first | omega | (simp; omega) | simp) _ | with_reducible refine Below.trans ?_ (Below.mono (by with_reducible assumption) (by first | omega | (simp; omega) | simp))))⟩
  rw [E1.out]
theorem text_any (c l i k : Int) (h0 : 0 ≤ c) (w : World) : Calls Try.prog 88 #[.agg #[.int .u8 c, .int .u8 l, .int .u8 i, .int .u8 k]] w fun e w' => e = .returned (.string (textB c l i k)) ∧ Below w.heap.size w w' := by
  by_cases hc : Known c
  · by_cases hx : Known l ∧ Known i ∧ Known k
    · exact text_full c l i k hc hx.1 hx.2.1 hx.2.2 w
    · exact text_some c l i k hc hx w
  · exact text_none c l i k h0 hc w

/-- The examples of the chapter stand. -/
theorem awake35_any (w : World) : Calls Try.prog 46 #[] w fun e w' => e = .returned (.bool true) ∧ Below w.heap.size w w' := by
  have e1 : ruleV 2 1 1 false false = 1 := by decide
  have e2 : ruleV 3 1 1 false false = 3 := by decide
  have e3 : ruleV 1 1 1 false false = 2 := by decide
  have e4 : textB 3 2 1 3 = ⟨#[79, 80, 69, 78, 32, 80, 73, 84, 67, 72, 73, 78, 71, 32, 79, 85, 84, 32, 73, 77, 80, 65, 67, 84, 32, 73, 78, 32, 87, 73, 67, 75, 69, 84, 32, 77, 65, 82, 71, 73, 78, 65, 76]⟩ := by decide +kernel
  go_enter Try.func46, Try.ntmps46
  go_wp2_with (first | (go_at_call 65; refine (rule_any _ _ _ _ _ _).mono ?_; rintro e w' ⟨rfl, rfl⟩) | (go_at_call 88; refine (text_any _ _ _ _ (by omega) _).mono ?_; rintro e w' ⟨rfl, hb⟩; (try clear hc hf); (try clear hcM hfM); (try clear hcN hfN); (first | ((first | replace hB := Below.next hB (Nat.le_refl _) hb | replace hB := Below.next1 hB (Nat.le_refl _) hb | replace hB := Below.next2 hB (Nat.le_refl _) hb); (first | replace hM := Below.next hM (Nat.le_refl _) hb | replace hM := Below.next1 hM (Nat.le_refl _) hb | replace hM := Below.next2 hM (Nat.le_refl _) hb); (first | replace hN := Below.next hN (Nat.le_refl _) hb | replace hN := Below.next1 hN (Nat.le_refl _) hb | replace hN := Below.next2 hN (Nat.le_refl _) hb)) | ((first | replace hB := Below.next hB (Nat.le_refl _) hb | replace hB := Below.next1 hB (Nat.le_refl _) hb | replace hB := Below.next2 hB (Nat.le_refl _) hb); (first | replace hM := Below.next hM (Nat.le_refl _) hb | replace hM := Below.next1 hM (Nat.le_refl _) hb | replace hM := Below.next2 hM (Nat.le_refl _) hb); have hN := Below.mid hb) | ((first | replace hB := Below.next hB (Nat.le_refl _) hb | replace hB := Below.next1 hB (Nat.le_refl _) hb | replace hB := Below.next2 hB (Nat.le_refl _) hb); (first | replace hM := Below.next hM (Nat.le_refl _) hb | replace hM := Below.next1 hM (Nat.le_refl _) hb | replace hM := Below.next2 hM (Nat.le_refl _) hb)) | ((first | replace hB := Below.next hB (Nat.le_refl _) hb | replace hB := Below.next1 hB (Nat.le_refl _) hb | replace hB := Below.next2 hB (Nat.le_refl _) hb); have hM := Below.mid hb) | (first | replace hB := Below.next hB (Nat.le_refl _) hb | replace hB := Below.next1 hB (Nat.le_refl _) hb | replace hB := Below.next2 hB (Nat.le_refl _) hb) | have hB := hb); obtain ⟨hc, hf, hz⟩ := after hB; (try (have hq := after hM; obtain ⟨hcM, hfM, hzM⟩ := hq)); (try (have hq := after hN; obtain ⟨hcN, hfN, hzN⟩ := hq)); have hs := hb.size; (try simp at hz); (try simp at hs)))
  go_ret
  exact ⟨rfl, (by repeat (first | with_reducible exact Below.refl _ _ | with_reducible assumption | with_reducible refine Below.drew ?_ | with_reducible refine Below.setCell ?_ (by first | omega | (simp; omega) | simp) _ | with_reducible refine Below.alloc ?_ (by first | omega | (simp; omega) | simp) _ | with_reducible refine Below.trans ?_ (Below.mono (by with_reducible assumption) (by first | omega | (simp; omega) | simp))))⟩
end Go.Proofs.Ytmdledlbkdcmnaa

/-
  The decision of leg before wicket in plain Lean; lesser errors, sides exchanged, the paths that fit.
  Conditions: none.
-/
namespace Go.Proofs.Ytmdledlbkdcmnaa
open Go.RowKit
theorem wicketV_good' {a b c d m : Int} (hv : validB a b = true) (hw : validB c d = true) : wicketV a b c d m = if (-(1503 - clampM m) ≤ a ∧ b ≤ 1503 - clampM m) ∧ d ≤ 7472 - clampM m then 1 else if (b < -1503 ∨ 1503 < a) ∨ 7472 < c then 2 else 3 := by
  have k := clampM_bd m
  unfold wicketV
  rw [if_neg (by simp [hv, hw])]
  simp only [ans_one hv (l := -(1503 - clampM m)) (h := 1503 - clampM m) (by omega) (by omega) (by omega), ans_two hv (l := -1503) (h := 1503) (by omega) (by omega) (by omega)]
/-- A range as seen from a right-handed batter. -/
def sdLo (a b : Int) (left : Bool) : Int := if left then -b else a
def sdHi (a b : Int) (left : Bool) : Int := if left then -a else b
def atS (l : List SN) (k : Nat) : SN := match l[k]? with
  | some s => s
  | none => (0, 0, 0, 0, 0)
theorem atS_some {l : List SN} {k : Nat} {s : SN} (h : l[k]? = some s) : atS l k = s := by unfold atS; rw [h]
def plLo (s : SN) (left : Bool) : Int := sdLo (s.2.2.1 - s.2.2.2.2) (s.2.2.1 + s.2.2.2.2) left
def plHi (s : SN) (left : Bool) : Int := sdHi (s.2.2.1 - s.2.2.2.2) (s.2.2.1 + s.2.2.2.2) left
def decLeg (l : List SN) (left : Bool) : Int := if bncK l = 0 then 2 else ans (plLo (atS l (bncK l)) left) (plHi (atS l (bncK l)) left) (-4611686018427387904) (-1144)
def decLine (l : List SN) (left shot : Bool) : Int := impactV (plLo (atS l (l.length - 1)) left) (plHi (atS l (l.length - 1)) left) shot
def cYlo (l : List SN) : Int := loR (bnds 1 (bhdL l)) (cT1 l) (cT2 l)
def cYhi (l : List SN) : Int := hiR (bnds 1 (bhdL l)) (cT1 l) (cT2 l)
def cZlo (l : List SN) : Int := fallLo (loR (bnds 2 (bhdL l)) (cT1 l) (cT2 l)) (hiR (bnds 2 (bhdL l)) (cT1 l) (cT2 l)) (cT1 l) (cT2 l)
def cZhi (l : List SN) : Int := fallHi (loR (bnds 2 (bhdL l)) (cT1 l) (cT2 l)) (hiR (bnds 2 (bhdL l)) (cT1 l) (cT2 l)) (cT1 l) (cT2 l)
def decWkt (l : List SN) (left : Bool) : Int := if crsE l = 0 then wicketV (sdLo (cYlo l) (cYhi l) left) (sdHi (cYlo l) (cYhi l) left) (cZlo l) (cZhi l) 180 else 3
def decCall (l : List SN) (left shot bat void : Bool) : Int := ruleV (decLeg l left) (decLine l left shot) (decWkt l left) bat void
def decV (l : List SN) (left shot bat void : Bool) : Value :=
  if behE l = 0 then .tuple #[.agg #[.int .u8 (decCall l left shot bat void), .int .u8 (decLeg l left), .int .u8 (decLine l left shot), .int .u8 (decWkt l left)], .int .i64 0]
  else .tuple #[.agg #[.int .u8 0, .int .u8 0, .int .u8 0, .int .u8 0], .int .i64 (behE l)]
/-! The sides exchanged. -/
theorem flip_flip (l : List BD) : (l.map flipB).map flipB = l := by
  rw [List.map_map]
  refine (List.map_congr_left (g := id) fun b _ => ?_).trans (List.map_id l)
  simp [flipB]
theorem hiP_flip (s t : Int) (u v : BD) : hiP s t (upL (flipB u) (flipB v)) = -loP s t (loL u v) := by
  unfold hiP loP; rw [flip_line, flip_line]; omega
theorem flip_hi {l : List BD} (h2 : 2 ≤ l.length) (s t : Int) : hiR (l.map flipB) s t = -loR l s t := by
  obtain ⟨i, j, u, v, hij, hu, hv, e⟩ := hiR_some (l := l.map flipB) (by rw [List.length_map]; exact h2) s t
  obtain ⟨k, m, x, y, hkm, hx, hy, f⟩ := loR_some h2 s t
  have h3 := hiR_all s t hkm (flip_get' hx) (flip_get' hy)
  obtain ⟨u, hu', rfl⟩ := flip_get hu
  obtain ⟨v, hv', rfl⟩ := flip_get hv
  have h4 := loR_all s t hij hu' hv'
  rw [hiP_flip] at h3 e
  omega
theorem flip_lo {l : List BD} (h2 : 2 ≤ l.length) (s t : Int) : loR (l.map flipB) s t = -hiR l s t := by
  have := flip_hi (l := l.map flipB) (by rw [List.length_map]; exact h2) s t
  rw [flip_flip] at this
  omega
theorem flip_fitsB (l : List BD) : fitsB (l.map flipB) = fitsB l := by
  cases h : fitsB l with
  | true => exact flip_fits h
  | false =>
    cases h' : fitsB (l.map flipB) with
    | false => rfl
    | true => have := flip_fits h'; rw [flip_flip] at this; rw [this] at h; cases h
theorem bnds_mir0 (L : List SN) : bnds 0 (L.map mirS) = bnds 0 L := by unfold bnds; rw [List.map_map]; rfl
theorem bnds_mir2 (L : List SN) : bnds 2 (L.map mirS) = bnds 2 L := by unfold bnds; rw [List.map_map]; rfl
theorem bnds_mir1 (L : List SN) : bnds 1 (L.map mirS) = (bnds 1 L).map flipB := by
  unfold bnds
  rw [List.map_map, List.map_map]
  refine List.map_congr_left fun s _ => ?_
  show (s.1, -s.2.2.1 - s.2.2.2.2, -s.2.2.1 + s.2.2.2.2) = (s.1, -(s.2.2.1 + s.2.2.2.2), -(s.2.2.1 - s.2.2.2.2))
  rw [show -s.2.2.1 - s.2.2.2.2 = -(s.2.2.1 + s.2.2.2.2) by omega, show -s.2.2.1 + s.2.2.2.2 = -(s.2.2.1 - s.2.2.2.2) by omega]
theorem behE_mir (l : List SN) : behE (l.map mirS) = behE l := by unfold behE; rw [chkE_mir, bhd_mir, List.length_map]
theorem posB_mir (l : List SN) : posB (l.map mirS) = posB l := by unfold posB; rw [bhd_mir, bnds_mir0, bnds_mir1, bnds_mir2, flip_fitsB]
theorem crsE_mir (l : List SN) : crsE (l.map mirS) = crsE l := by unfold crsE; rw [behE_mir, posB_mir, bhd_mir, bnds_mir0]
theorem cT1_mir (l : List SN) : cT1 (l.map mirS) = cT1 l := by unfold cT1; rw [bhd_mir, bnds_mir0]
theorem cT2_mir (l : List SN) : cT2 (l.map mirS) = cT2 l := by unfold cT2; rw [bhd_mir, bnds_mir0]
theorem cZlo_mir (l : List SN) : cZlo (l.map mirS) = cZlo l := by unfold cZlo; rw [cT1_mir, cT2_mir, bhd_mir, bnds_mir2]
theorem cZhi_mir (l : List SN) : cZhi (l.map mirS) = cZhi l := by unfold cZhi; rw [cT1_mir, cT2_mir, bhd_mir, bnds_mir2]
theorem cY_mir {l : List SN} (h : 2 ≤ (bhdL l).length) : cYlo (l.map mirS) = -cYhi l ∧ cYhi (l.map mirS) = -cYlo l := by
  unfold cYlo cYhi
  rw [cT1_mir, cT2_mir, bhd_mir, bnds_mir1, flip_lo (by rw [bnds_len]; exact h), flip_hi (by rw [bnds_len]; exact h)]
  exact ⟨rfl, rfl⟩
theorem sd_mir (a b : Int) (left : Bool) : sdLo (-b) (-a) (!left) = sdLo a b left ∧ sdHi (-b) (-a) (!left) = sdHi a b left := by
  cases left <;> simp [sdLo, sdHi]
theorem pl_mir (s : SN) (left : Bool) : plLo (mirS s) (!left) = plLo s left ∧ plHi (mirS s) (!left) = plHi s left := by
  have := sd_mir (s.2.2.1 - s.2.2.2.2) (s.2.2.1 + s.2.2.2.2) left
  unfold plLo plHi mirS
  dsimp only
  rw [show -s.2.2.1 - s.2.2.2.2 = -(s.2.2.1 + s.2.2.2.2) by omega, show -s.2.2.1 + s.2.2.2.2 = -(s.2.2.1 - s.2.2.2.2) by omega]
  exact this
theorem atS_mir {l : List SN} {k : Nat} (h : k < l.length) : atS (l.map mirS) k = mirS (atS l k) := by
  unfold atS
  rw [List.getElem?_map, List.getElem?_eq_getElem h]
  rfl
theorem beh_pos {l : List SN} (h : behE l = 0) : 2 ≤ l.length := by
  have h2 := (behE_len h).2
  unfold bhdL at h2
  split at h2
  · rw [List.length_drop] at h2; omega
  · simp at h2
theorem bncK_lt' {l : List SN} (h : 0 < l.length) : bncK l < l.length := by
  unfold bncK
  split
  · split
    · exact h
    · exact minAt_lt _ (Nat.le_refl _) h
  · exact h
theorem decV_mir (l : List SN) (left shot bat void : Bool) : decV (l.map mirS) (!left) shot bat void = decV l left shot bat void := by
  unfold decV
  rw [behE_mir]
  by_cases h : behE l = 0
  · rw [if_pos h, if_pos h]
    have h2 := (behE_len h).2
    have hn := beh_pos h
    have e1 : decLeg (l.map mirS) (!left) = decLeg l left := by
      unfold decLeg
      rw [bncK_mir, atS_mir (bncK_lt' (by omega)), (pl_mir _ left).1, (pl_mir _ left).2]
    have e2 : decLine (l.map mirS) (!left) shot = decLine l left shot := by
      unfold decLine
      rw [List.length_map, atS_mir (by omega), (pl_mir _ left).1, (pl_mir _ left).2]
    have e3 : decWkt (l.map mirS) (!left) = decWkt l left := by
      unfold decWkt
      rw [crsE_mir, (cY_mir h2).1, (cY_mir h2).2, (sd_mir _ _ left).1, (sd_mir _ _ left).2, cZlo_mir, cZhi_mir]
    have e4 : decCall (l.map mirS) (!left) shot bat void = decCall l left shot bat void := by unfold decCall; rw [e1, e2, e3]
    rw [e1, e2, e3, e4]
  · rw [if_neg h, if_neg h]
theorem decV_mirW {l : List SN} (h : ∀ s ∈ l, y64 s) (left shot bat void : Bool) : decV (l.map mirW) (!left) shot bat void = decV l left shot bat void := by
  by_cases hc : chkE l = 0
  · rw [map_mirW hc, decV_mir]
  · have e : ∀ m : List SN, chkE m ≠ 0 → behE m = chkE m := fun m hm => by unfold behE; rw [if_pos hm]
    have hc' : chkE (l.map mirW) ≠ 0 := by rw [chkE_mirW h]; exact hc
    unfold decV
    rw [e l hc, e _ hc', chkE_mirW h, if_neg hc, if_neg hc]
/-! Lesser errors. -/
def lessS (k : Int) (s : SN) : SN := (s.1, s.2.1, s.2.2.1, s.2.2.2.1, max (s.2.2.2.2 - k) 1)
theorem okS_less {k : Int} (hk : 0 ≤ k) {s : SN} (h : okS s = true) : okS (lessS k s) = true := by
  rw [okS_iff] at *; simp only [lessS]; omega
theorem chkF_less {k : Int} (hk : 0 ≤ k) : ∀ (l : List SN) (p : Int), chkF p l = 0 → chkF p (l.map (lessS k)) = 0
  | [], _, _ => rfl
  | q :: l, p, h => by
    unfold chkF at h
    split at h
    · rename_i hq
      split at h
      · omega
      · rename_i hp
        simp only [List.map_cons]
        unfold chkF
        rw [if_pos (okS_less hk hq), show (lessS k q).1 = q.1 from rfl, if_neg hp]
        exact chkF_less hk l _ h
    · omega
theorem chkE_less {k : Int} (hk : 0 ≤ k) {l : List SN} (h : chkE l = 0) : chkE (l.map (lessS k)) = 0 := by
  unfold chkE at *
  rw [List.length_map]
  split at h
  · omega
  · rename_i hl; rw [if_neg hl]; exact chkF_less hk l _ h
theorem minAt_less (k : Int) (l : List SN) : ∀ i, minAt (l.map (lessS k)) i = minAt l i
  | 0 => rfl
  | i + 1 => by
    unfold minAt
    rw [minAt_less k l i, List.getElem?_map, List.getElem?_map]
    cases l[i]? <;> cases l[minAt l i]? <;> simp [lessS]
theorem heightAt_less (k : Int) (l : List SN) (j : Nat) : heightAt (l.map (lessS k)) j = heightAt l j := by
  unfold heightAt
  rw [List.getElem?_map]
  cases l[j]? <;> simp [lessS]
theorem bncK_less {k : Int} (hk : 0 ≤ k) {l : List SN} (h : chkE l = 0) : bncK (l.map (lessS k)) = bncK l := by
  unfold bncK
  rw [if_pos h, if_pos (chkE_less hk h), List.length_map, minAt_less, heightAt_less]
theorem bhd_less {k : Int} (hk : 0 ≤ k) {l : List SN} (h : chkE l = 0) : bhdL (l.map (lessS k)) = (bhdL l).map (lessS k) := by
  unfold bhdL
  rw [if_pos h, if_pos (chkE_less hk h), bncK_less hk h, List.map_drop]
theorem behE_less {k : Int} (hk : 0 ≤ k) {l : List SN} (h : behE l = 0) : behE (l.map (lessS k)) = 0 := by
  obtain ⟨h1, h2⟩ := behE_len h
  unfold behE
  rw [if_neg (fun e => e (chkE_less hk h1)), bhd_less hk h1, List.length_map, if_neg (by omega)]
/-- Bounds within bounds, at the same times. -/
def Tight (l m : List BD) : Prop := l.length = m.length ∧ ∀ (i : Nat) (a b : BD), l[i]? = some a → m[i]? = some b → b.1 = a.1 ∧ a.2.1 ≤ b.2.1 ∧ b.2.2 ≤ a.2.2
theorem bnd_less (ax k : Int) (hk : 0 ≤ k) {s : SN} (h : okS s = true) : (bndS ax (lessS k s)).1 = (bndS ax s).1 ∧ (bndS ax s).2.1 ≤ (bndS ax (lessS k s)).2.1 ∧ (bndS ax (lessS k s)).2.2 ≤ (bndS ax s).2.2 := by
  obtain ⟨⟨a1, a2⟩, ⟨b1, b2⟩, ⟨c1, c2⟩, ⟨d1, d2⟩, e1, e2⟩ := okS_iff.1 h
  unfold bndS
  by_cases x1 : ax = 1
  · rw [if_pos x1]; simp only [bY, lessS]; refine ⟨trivial, ?_, ?_⟩ <;> omega
  · rw [if_neg x1]
    by_cases x2 : ax = 2
    · rw [if_pos x2]
      simp only [bZ, lessS]
      rw [raise_in a1 a2 (by omega) (by omega), raise_in a1 a2 (by omega) (by omega), raise_in a1 a2 (by omega) (by omega), raise_in a1 a2 (by omega) (by omega)]
      refine ⟨trivial, ?_, ?_⟩ <;> omega
    · rw [if_neg x2]; simp only [bX, lessS]; refine ⟨trivial, ?_, ?_⟩ <;> omega
theorem tight_less (ax : Int) {k : Int} (hk : 0 ≤ k) {l : List SN} (h : chkE l = 0) : Tight (bnds ax (bhdL l)) (bnds ax (bhdL (l.map (lessS k)))) := by
  rw [bhd_less hk h]
  refine ⟨by simp [bnds], fun i a b ha hb => ?_⟩
  unfold bnds at ha hb
  rw [List.getElem?_map] at ha hb
  rw [List.getElem?_map] at hb
  cases hi : (bhdL l)[i]? with
  | none => rw [hi] at ha; simp at ha
  | some s =>
    rw [hi] at ha hb
    simp only [Option.map_some, Option.some.injEq] at ha hb
    subst ha hb
    exact bnd_less ax k hk (bhd_ok s (List.mem_of_getElem? hi))
theorem Tight.get {l m : List BD} (h : Tight l m) {i : Nat} {a : BD} (ha : l[i]? = some a) : ∃ b, m[i]? = some b ∧ b.1 = a.1 ∧ a.2.1 ≤ b.2.1 ∧ b.2.2 ≤ a.2.2 := by
  obtain ⟨b, hb⟩ := some_of (l := m) (i := i) (by rw [← h.1]; exact (List.getElem?_eq_some_iff.1 ha).1)
  exact ⟨b, hb, h.2 i a b ha hb⟩
theorem Tight.last {l m : List BD} (h : Tight l m) (h2 : 2 ≤ l.length) : (lastB m).1 = (lastB l).1 ∧ (lastB l).2.1 ≤ (lastB m).2.1 ∧ (lastB m).2.2 ≤ (lastB l).2.2 := by
  have a := last_ex h2
  have b := last_ex (l := m) (by rw [← h.1]; exact h2)
  rw [← h.1] at b
  exact h.2 _ _ _ a b
theorem fl_tight {u v u' v' : BD} {t : Int} (hu : u'.1 = u.1 ∧ u.2.1 ≤ u'.2.1 ∧ u'.2.2 ≤ u.2.2) (hv : v'.1 = v.1 ∧ v.2.1 ≤ v'.2.1 ∧ v'.2.2 ≤ v.2.2) (h : u.1 < v.1) (ht : v.1 ≤ t) : flL (loL u v) t ≤ flL (loL u' v') t ∧ ceL (upL u' v') t ≤ ceL (upL u v) t := by
  have e1 := thr_floor (u := (u.1, u.2.2)) (v := (v.1, v.2.1)) t h
  have e2 := thr_floor (u := (u'.1, u'.2.2)) (v := (v'.1, v'.2.1)) t (by dsimp only; omega)
  have e3 := thr_ceil (u := (u.1, u.2.1)) (v := (v.1, v.2.2)) t h
  have e4 := thr_ceil (u := (u'.1, u'.2.1)) (v := (v'.1, v'.2.2)) t (by dsimp only; omega)
  have f1 : flL (loL u v) t = flL (u.1, u.2.2, v.1 - u.1, v.2.1 - u.2.2) t := rfl
  have f2 : flL (loL u' v') t = flL (u'.1, u'.2.2, v'.1 - u'.1, v'.2.1 - u'.2.2) t := rfl
  have f3 : ceL (upL u v) t = ceL (u.1, u.2.1, v.1 - u.1, v.2.2 - u.2.1) t := rfl
  have f4 : ceL (upL u' v') t = ceL (u'.1, u'.2.1, v'.1 - u'.1, v'.2.2 - u'.2.1) t := rfl
  rw [f1, f2, f3, f4]
  dsimp only at e1 e2 e3 e4
  rw [← e1, ← e2, ← e3, ← e4, hu.1, hv.1]
  have a1 := mulL hu.2.2 (c := t - v.1) (by omega)
  have a2 := mulL hv.2.1 (c := t - u.1) (by omega)
  have a3 := mulL hu.2.1 (c := t - v.1) (by omega)
  have a4 := mulL hv.2.2 (c := t - u.1) (by omega)
  have b1 : u.2.2 * (v.1 - t) + v.2.1 * (t - u.1) ≤ u'.2.2 * (v.1 - t) + v'.2.1 * (t - u.1) := by grind
  have b2 : u'.2.1 * (v.1 - t) + v'.2.2 * (t - u.1) ≤ u.2.1 * (v.1 - t) + v.2.2 * (t - u.1) := by grind
  have c1 := Int.ediv_le_ediv (show 0 < v.1 - u.1 by omega) b1
  have c2 := Int.ediv_le_ediv (show 0 < v.1 - u.1 by omega) (Int.neg_le_neg b2)
  constructor <;> omega
theorem fl_mid {x : LN} (h : 1 ≤ x.2.2.1) {s t r : Int} (h1 : s ≤ r) (h2 : r ≤ t) : loP s t x ≤ flL x r ∧ ceL x r ≤ hiP s t x := by
  unfold loP hiP flL ceL
  rcases Int.le_total 0 x.2.2.2 with h0 | h0
  · have a := mulL (show s - x.1 ≤ r - x.1 by omega) h0
    have b := mulL (show r - x.1 ≤ t - x.1 by omega) h0
    have c := Int.ediv_le_ediv (show 0 < x.2.2.1 by omega) a
    have d := Int.ediv_le_ediv (show 0 < x.2.2.1 by omega) (Int.neg_le_neg b)
    constructor <;> omega
  · have a : x.2.2.2 * (t - x.1) ≤ x.2.2.2 * (r - x.1) := Int.mul_le_mul_of_nonpos_left h0 (by omega)
    have b : x.2.2.2 * (r - x.1) ≤ x.2.2.2 * (s - x.1) := Int.mul_le_mul_of_nonpos_left h0 (by omega)
    have c := Int.ediv_le_ediv (show 0 < x.2.2.1 by omega) a
    have d := Int.ediv_le_ediv (show 0 < x.2.2.1 by omega) (Int.neg_le_neg b)
    constructor <;> omega
/-- Tighter bounds and a shorter time give a lesser range. -/
theorem range_tight {l m : List BD} (h : Tight l m) (r : RisingB l) (h2 : 2 ≤ l.length) {s t s' t' : Int} (hp : Past l s') (h1 : s ≤ s') (h3 : s' ≤ t') (h4 : t' ≤ t) : loR l s t ≤ loR m s' t' ∧ hiR m s' t' ≤ hiR l s t := by
  constructor
  · obtain ⟨i, j, u, v, hij, hu, hv, e⟩ := loR_some h2 s t
    obtain ⟨u', hu', a⟩ := h.get hu
    obtain ⟨v', hv', b⟩ := h.get hv
    have d := r i j u v hij hu hv
    have q := loR_all s' t' hij hu' hv'
    have w1 : 1 ≤ (loL u v).2.2.1 := by unfold loL; dsimp only; omega
    have m1 := (fl_mid w1 h1 (show s' ≤ t by omega)).1
    have m2 := (fl_mid w1 (show s ≤ t' by omega) h4).1
    have p := hp v (List.mem_of_getElem? hv)
    have n1 := (fl_tight a b d p).1
    have n2 := (fl_tight a b d (show v.1 ≤ t' by omega)).1
    have k : loP s' t' (loL u' v') = min (flL (loL u' v') s') (flL (loL u' v') t') := rfl
    rw [e]
    omega
  · obtain ⟨i, j, u, v, hij, hu, hv, e⟩ := hiR_some h2 s t
    obtain ⟨u', hu', a⟩ := h.get hu
    obtain ⟨v', hv', b⟩ := h.get hv
    have d := r i j u v hij hu hv
    have q := hiR_all s' t' hij hu' hv'
    have w1 : 1 ≤ (upL u v).2.2.1 := by unfold upL; dsimp only; omega
    have m1 := (fl_mid w1 h1 (show s' ≤ t by omega)).2
    have m2 := (fl_mid w1 (show s ≤ t' by omega) h4).2
    have p := hp v (List.mem_of_getElem? hv)
    have n1 := (fl_tight a b d p).2
    have n2 := (fl_tight a b d (show v.1 ≤ t' by omega)).2
    have k : hiP s' t' (upL u' v') = max (ceL (upL u' v') s') (ceL (upL u' v') t') := rfl
    rw [e]
    omega
theorem comes_tight {l m : List BD} (h : Tight l m) (hc : comes l = true) : comes m = true := by
  rw [comes_iff] at *
  intro i j hij hj
  rw [← h.1] at hj
  obtain ⟨a, ha⟩ := some_of (l := l) (i := i) (by omega)
  obtain ⟨b, hb⟩ := some_of hj
  obtain ⟨a', ha', x⟩ := h.get ha
  obtain ⟨b', hb', y⟩ := h.get hb
  have := hc i j hij hj
  rw [comeAt_some ha hb, decide_eq_true_eq] at this
  rw [comeAt_some ha' hb', decide_eq_true_eq]
  omega
end Go.Proofs.Ytmdledlbkdcmnaa

/-
  Laws of the decision in plain Lean: lesser errors turn no call into its opposite; what a call says of the paths that fit.
  Conditions: none.
-/
namespace Go.Proofs.Ytmdledlbkdcmnaa
open Go.RowKit
theorem crsE_parts {l : List SN} (h : crsE l = 0) : behE l = 0 ∧ posB l = true ∧ comes (bnds 0 (bhdL l)) = true ∧ 0 < (lastB (bnds 0 (bhdL l))).2.1 ∧ hiR (bnds 0 (bhdL l)) ((lastB (bnds 0 (bhdL l))).1 + 400) ((lastB (bnds 0 (bhdL l))).1 + 400) < 0 := by
  have hb : behE l = 0 := by
    unfold crsE at h; split at h
    · omega
    · omega
  unfold crsE at h
  rw [if_neg (by omega)] at h
  split at h
  · omega
  split at h
  · omega
  split at h
  · omega
  rename_i h1 h2 h3
  exact ⟨hb, by simpa using h1, by simpa using h2, by omega, by omega⟩
theorem crsE_mk {l : List SN} (h1 : behE l = 0) (h2 : posB l = true) (h3 : comes (bnds 0 (bhdL l)) = true) (h4 : 0 < (lastB (bnds 0 (bhdL l))).2.1) (h5 : hiR (bnds 0 (bhdL l)) ((lastB (bnds 0 (bhdL l))).1 + 400) ((lastB (bnds 0 (bhdL l))).1 + 400) < 0) : crsE l = 0 := by
  unfold crsE
  rw [if_neg (by omega), if_neg (by simp [h2]), if_neg (by simp [h3]), if_neg (by omega)]
theorem posB_parts {l : List SN} (h : posB l = true) : fitsB (bnds 0 (bhdL l)) = true ∧ fitsB (bnds 1 (bhdL l)) = true ∧ fitsB (bnds 2 (bhdL l)) = true := by
  unfold posB at h; simp only [Bool.and_eq_true] at h; exact ⟨h.1, h.2.1, h.2.2⟩
/-- The times of a crossing. -/
theorem cT_bd {l : List SN} (h : crsE l = 0) : (lastB (bnds 0 (bhdL l))).1 ≤ cT1 l ∧ cT1 l < cT2 l ∧ cT2 l ≤ 4400 ∧ 0 ≤ cT1 l := by
  obtain ⟨h1, h2, h3, h4, h5⟩ := crsE_parts h
  have l2 : 2 ≤ (bnds 0 (bhdL l)).length := by rw [bnds_len]; exact (behE_len h1).2
  have r := bnds_rise 0 l
  obtain ⟨⟨f1, f2, f3, f4⟩, f5, f6, f7⟩ := crs_k r bnds_ok l2 (posB_parts h2).1 h4 h5
  have T0 := lastB_t (bnds_ok (ax := 0) (l := l)) l2
  have le := lo_le_hi r bnds_ok l2 (past_last r l2 (t := (lastB (bnds 0 (bhdL l))).1 + (crsL (bnds 0 (bhdL l)) + 1 : Nat)) (by omega)) (posB_parts h2).1
  have c2 := f7 (crsL (bnds 0 (bhdL l)) + 1) (by omega) (by omega)
  have : crsF (bnds 0 (bhdL l)) ≤ crsL (bnds 0 (bhdL l)) + 1 := by
    rcases Nat.lt_or_ge (crsL (bnds 0 (bhdL l)) + 1) (crsF (bnds 0 (bhdL l))) with g | g
    · have := f4 _ g; omega
    · exact g
  unfold cT1 cT2
  omega
/-- Heights: the range of a tighter one lies within. -/
theorem fall_tight {lo hi e k lo' hi' e' k' : Int} (he : 0 ≤ e) (h1 : e ≤ e') (h2 : e' ≤ k') (h3 : k' ≤ k) (h4 : lo ≤ lo') (h5 : hi' ≤ hi) (h6 : lo' ≤ hi') (h7 : lo ≤ hi) : fallLo lo hi e k ≤ fallLo lo' hi' e' k' ∧ fallHi lo' hi' e' k' ≤ fallHi lo hi e k ∧ fallLo lo' hi' e' k' ≤ fallHi lo' hi' e' k' ∧ fallLo lo hi e k ≤ fallHi lo hi e k := by
  have s1 := sq_le he h1
  have s2 := sq_le (by omega) h2
  have s3 := sq_le (by omega) h3
  have e1 : ∀ x : Int, 981 * x * x = 981 * (x * x) := fun x => by grind
  unfold fallLo fallHi
  simp only [e1]
  rw [if_pos (by omega), if_pos (by omega), if_pos (by omega), if_pos (by omega)]
  generalize e * e = E at *
  generalize e' * e' = E' at *
  generalize k * k = K at *
  generalize k' * k' = K' at *
  omega
theorem fall_bd {lo hi e k : Int} (h1 : -300000000000000 ≤ lo) (h2 : lo ≤ 300000000000000) (h3 : -300000000000000 ≤ hi) (h4 : hi ≤ 300000000000000) (h5 : 0 ≤ e) (h6 : e ≤ 5000) (h7 : 0 ≤ k) (h8 : k ≤ 5000) : (-400000000000000 ≤ fallLo lo hi e k ∧ fallLo lo hi e k ≤ 400000000000000) ∧ -400000000000000 ≤ fallHi lo hi e k ∧ fallHi lo hi e k ≤ 400000000000000 := by
  have s1 : 0 ≤ k * k ∧ k * k ≤ 25000000 := ⟨Int.mul_nonneg h7 h7, sq_le h7 h8⟩
  have s2 : 0 ≤ e * e ∧ e * e ≤ 25000000 := ⟨Int.mul_nonneg h5 h5, sq_le h5 h6⟩
  have e1 : ∀ x : Int, 981 * x * x = 981 * (x * x) := fun x => by grind
  unfold fallLo fallHi
  simp only [e1]
  generalize e * e = E at *
  generalize k * k = K at *
  split <;> omega
/-- The ranges of a crossing are valid ones. -/
theorem cross_valid {l : List SN} (h : crsE l = 0) : validB (cYlo l) (cYhi l) = true ∧ validB (cZlo l) (cZhi l) = true := by
  obtain ⟨t1, t2, t3, t4⟩ := cT_bd h
  obtain ⟨h1, h2, h3, h4, h5⟩ := crsE_parts h
  have b2 := (behE_len h1).2
  have l2 : ∀ ax, 2 ≤ (bnds ax (bhdL l)).length := fun ax => by rw [bnds_len]; exact b2
  have p : ∀ ax, Past (bnds ax (bhdL l)) (cT1 l) := fun ax => past_last (bnds_rise ax l) (l2 ax) (by rw [bnds_last ax 0 b2]; exact t1)
  have ry := range_le (t := cT2 l) (bnds_rise 1 l) bnds_ok (l2 1) (p 1) (posB_parts h2).2.1
  have rz := range_le (t := cT2 l) (bnds_rise 2 l) bnds_ok (l2 2) (p 2) (posB_parts h2).2.2
  have y1 := loR_bd (bnds_ok (ax := 1) (l := l)) (bnds_rise 1 l) (show -10 ≤ cT1 l by omega) (show cT1 l ≤ 5000 by omega) (show -10 ≤ cT2 l by omega) (show cT2 l ≤ 5000 by omega)
  have y2 := hiR_bd (bnds_ok (ax := 1) (l := l)) (bnds_rise 1 l) (show -10 ≤ cT1 l by omega) (show cT1 l ≤ 5000 by omega) (show -10 ≤ cT2 l by omega) (show cT2 l ≤ 5000 by omega)
  have z1 := loR_bd (bnds_ok (ax := 2) (l := l)) (bnds_rise 2 l) (show -10 ≤ cT1 l by omega) (show cT1 l ≤ 5000 by omega) (show -10 ≤ cT2 l by omega) (show cT2 l ≤ 5000 by omega)
  have z2 := hiR_bd (bnds_ok (ax := 2) (l := l)) (bnds_rise 2 l) (show -10 ≤ cT1 l by omega) (show cT1 l ≤ 5000 by omega) (show -10 ≤ cT2 l by omega) (show cT2 l ≤ 5000 by omega)
  have f := fall_bd (e := cT1 l) (k := cT2 l) z1.1 z1.2 z2.1 z2.2 t4 (by omega) (by omega) (by omega)
  have g := (fall_tight (k := cT2 l) (k' := cT2 l) t4 (Int.le_refl _) (Int.le_of_lt t2) (Int.le_refl _) (Int.le_refl _) (Int.le_refl _) rz rz).2.2.2
  constructor
  · refine validB_mk ry ?_ ?_ <;> simp only [cYlo, cYhi] <;> omega
  · refine validB_mk g ?_ ?_ <;> simp only [cZlo, cZhi] <;> omega
/-- With lesser errors a crossing stays one, within the old one. -/
theorem cross_less {k : Int} (hk : 0 ≤ k) {l : List SN} (h : crsE l = 0) (hp : posB (l.map (lessS k)) = true) :
    crsE (l.map (lessS k)) = 0 ∧ cYlo l ≤ cYlo (l.map (lessS k)) ∧ cYhi (l.map (lessS k)) ≤ cYhi l ∧ cZlo l ≤ cZlo (l.map (lessS k)) ∧ cZhi (l.map (lessS k)) ≤ cZhi l := by
  obtain ⟨t1, t2, t3, t4⟩ := cT_bd h
  obtain ⟨h1, h2, h3, h4, h5⟩ := crsE_parts h
  have hc := (behE_len h1).1
  have b2 := (behE_len h1).2
  have l2 : ∀ ax, 2 ≤ (bnds ax (bhdL l)).length := fun ax => by rw [bnds_len]; exact b2
  have T := fun ax => tight_less ax hk hc
  have r := fun ax => bnds_rise ax l
  have la := (T 0).last (l2 0)
  have p0 : ∀ t, (lastB (bnds 0 (bhdL l))).1 ≤ t → ∀ ax, Past (bnds ax (bhdL l)) t := fun t ht ax => past_last (r ax) (l2 ax) (by rw [bnds_last ax 0 b2]; exact ht)
  have q5 := (range_tight (T 0) (r 0) (l2 0) (s := (lastB (bnds 0 (bhdL l))).1 + 400) (t := (lastB (bnds 0 (bhdL l))).1 + 400) (p0 _ (by omega) 0) (Int.le_refl _) (Int.le_refl _) (Int.le_refl _)).2
  have hc' : crsE (l.map (lessS k)) = 0 := by
    refine crsE_mk (behE_less hk h1) hp (comes_tight (T 0) h3) (by omega) ?_
    rw [la.1]; omega
  obtain ⟨u1, u2, u3, u4⟩ := cT_bd hc'
  obtain ⟨g1, g2, g3, g4, g5⟩ := crsE_parts hc'
  have l2' : 2 ≤ (bnds 0 (bhdL (l.map (lessS k)))).length := by rw [← (T 0).1]; exact l2 0
  obtain ⟨⟨f1, f2, f3, f4⟩, f5, f6, f7⟩ := crs_k (r 0) bnds_ok (l2 0) (posB_parts h2).1 h4 h5
  obtain ⟨⟨f1', f2', f3', f4'⟩, f5', f6', f7'⟩ := crs_k (bnds_rise 0 _) bnds_ok l2' (posB_parts hp).1 g4 g5
  have ra : ∀ j : Nat, loR (bnds 0 (bhdL l)) ((lastB (bnds 0 (bhdL l))).1 + j) ((lastB (bnds 0 (bhdL l))).1 + j) ≤ loR (bnds 0 (bhdL (l.map (lessS k)))) ((lastB (bnds 0 (bhdL l))).1 + j) ((lastB (bnds 0 (bhdL l))).1 + j) ∧ hiR (bnds 0 (bhdL (l.map (lessS k)))) ((lastB (bnds 0 (bhdL l))).1 + j) ((lastB (bnds 0 (bhdL l))).1 + j) ≤ hiR (bnds 0 (bhdL l)) ((lastB (bnds 0 (bhdL l))).1 + j) ((lastB (bnds 0 (bhdL l))).1 + j) := fun j =>
    range_tight (T 0) (r 0) (l2 0) (p0 _ (by omega) 0) (Int.le_refl _) (Int.le_refl _) (Int.le_refl _)
  rw [la.1] at f1' f5'
  have hF : crsF (bnds 0 (bhdL l)) ≤ crsF (bnds 0 (bhdL (l.map (lessS k)))) := by
    rcases Nat.lt_or_ge (crsF (bnds 0 (bhdL (l.map (lessS k))))) (crsF (bnds 0 (bhdL l))) with g | g
    · have a := f4 _ g
      have b := (ra (crsF (bnds 0 (bhdL (l.map (lessS k)))))).1
      omega
    · exact g
  have hL : crsL (bnds 0 (bhdL (l.map (lessS k)))) ≤ crsL (bnds 0 (bhdL l)) := by
    rcases Nat.lt_or_ge (crsL (bnds 0 (bhdL l))) (crsL (bnds 0 (bhdL (l.map (lessS k))))) with g | g
    · have a := f7 _ g (by omega)
      have b := (ra (crsL (bnds 0 (bhdL (l.map (lessS k)))))).2
      omega
    · exact g
  have c1 : cT1 l ≤ cT1 (l.map (lessS k)) := by unfold cT1; omega
  have c2 : cT2 (l.map (lessS k)) ≤ cT2 l := by unfold cT2; omega
  have ry := range_tight (T 1) (r 1) (l2 1) (p0 _ (show _ ≤ cT1 (l.map (lessS k)) by omega) 1) c1 (Int.le_of_lt u2) c2
  have rz := range_tight (T 2) (r 2) (l2 2) (p0 _ (show _ ≤ cT1 (l.map (lessS k)) by omega) 2) c1 (Int.le_of_lt u2) c2
  have b2' : 2 ≤ (bhdL (l.map (lessS k))).length := (behE_len g1).2
  have pz : Past (bnds 2 (bhdL (l.map (lessS k)))) (cT1 (l.map (lessS k))) := past_last (bnds_rise 2 _) (by rw [bnds_len]; exact b2') (by rw [bnds_last 2 0 b2']; exact u1)
  have wz := range_le (t := cT2 (l.map (lessS k))) (bnds_rise 2 _) bnds_ok (by rw [bnds_len]; exact b2') pz (posB_parts hp).2.2
  have F := fall_tight t4 c1 (Int.le_of_lt u2) c2 rz.1 rz.2 wz (by omega)
  exact ⟨hc', ry.1, ry.2, F.1, F.2.1⟩
theorem insideB_mk {a b c d : Int} (h1 : validB a b = true) (h2 : validB c d = true) (h3 : c ≤ a) (h4 : b ≤ d) : insideB a b c d = true := by
  unfold insideB; simp [h1, h2, h3, h4]
theorem ans_less {a b p q l h : Int} (hv : validB p q = true) (hw : validB a b = true) (h4 : a ≤ p) (h5 : q ≤ b) (h1 : l ≤ h) (h2 : -4611686018427387904 ≤ l) (h3 : h ≤ 4611686018427387904) : ans a b l h = 3 ∨ ans a b l h = ans p q l h := by
  have b1 := validB_bd hv
  rw [ans_good hw h1 h2 h3, ans_good hv h1 h2 h3]
  grind
theorem wkt_less {a b c d p q r s m : Int} (hv : validB p q = true) (hw : validB a b = true) (h4 : a ≤ p) (h5 : q ≤ b) (hv' : validB r s = true) (hw' : validB c d = true) (h4' : c ≤ r) (h5' : s ≤ d) : wicketV a b c d m = 3 ∨ wicketV a b c d m = wicketV p q r s m := by
  have b1 := validB_bd hv
  have b2 := validB_bd hv'
  have k := clampM_bd m
  rw [wicketV_good' hw hw', wicketV_good' hv hv']
  grind
theorem sd_valid {a b : Int} (h : validB a b = true) (left : Bool) : validB (sdLo a b left) (sdHi a b left) = true := by
  have := validB_bd h
  cases left <;> unfold sdLo sdHi <;> simp only [Bool.false_eq_true, if_false, if_true, h]
  exact validB_mk (by omega) (by omega) (by omega)
theorem sd_less {a b p q : Int} (h1 : a ≤ p) (h2 : q ≤ b) (left : Bool) : sdLo a b left ≤ sdLo p q left ∧ sdHi p q left ≤ sdHi a b left := by
  cases left <;> unfold sdLo sdHi <;> simp only [Bool.false_eq_true, if_false, if_true] <;> omega
theorem pl_valid {s : SN} (h : okS s = true) (left : Bool) : validB (plLo s left) (plHi s left) = true := by
  obtain ⟨_, _, ⟨c1, c2⟩, _, e1, e2⟩ := okS_iff.1 h
  exact sd_valid (validB_mk (by omega) (by omega) (by omega)) left
theorem pl_less {k : Int} (hk : 0 ≤ k) {s : SN} (h : okS s = true) (left : Bool) : plLo s left ≤ plLo (lessS k s) left ∧ plHi (lessS k s) left ≤ plHi s left := by
  obtain ⟨_, _, ⟨c1, c2⟩, _, e1, e2⟩ := okS_iff.1 h
  unfold plLo plHi
  refine sd_less ?_ ?_ left <;> simp only [lessS] <;> omega
theorem atS_mem {l : List SN} {k : Nat} (h : k < l.length) : atS l k ∈ l := by
  unfold atS; rw [List.getElem?_eq_getElem h]; exact List.getElem_mem h
theorem atS_less (k : Int) {l : List SN} {i : Nat} (h : i < l.length) : atS (l.map (lessS k)) i = lessS k (atS l i) := by
  unfold atS
  rw [List.getElem?_map, List.getElem?_eq_getElem h]
  rfl
theorem decLeg_less {k : Int} (hk : 0 ≤ k) {l : List SN} (h : behE l = 0) (left : Bool) : decLeg l left = 3 ∨ decLeg l left = decLeg (l.map (lessS k)) left := by
  have hc := (behE_len h).1
  have hn := beh_pos h
  unfold decLeg
  rw [bncK_less hk hc]
  split
  · right; rfl
  · have hlt := bncK_lt' (l := l) (by omega)
    have ho := chkE_ok hc _ (atS_mem hlt)
    rw [atS_less k hlt]
    have p := pl_less hk ho left
    exact ans_less (pl_valid (okS_less hk ho) left) (pl_valid ho left) p.1 p.2 (by omega) (by omega) (by omega)
theorem decLine_less {k : Int} (hk : 0 ≤ k) {l : List SN} (h : behE l = 0) (left shot : Bool) : decLine l left shot = 3 ∨ decLine l left shot = decLine (l.map (lessS k)) left shot := by
  have hc := (behE_len h).1
  have hn := beh_pos h
  have hlt : l.length - 1 < l.length := by omega
  have ho := chkE_ok hc _ (atS_mem hlt)
  have p := pl_less hk ho left
  have v1 := pl_valid (okS_less hk ho) left
  have v2 := pl_valid ho left
  unfold decLine
  rw [List.length_map, atS_less k hlt]
  cases shot
  · exact ans_less v1 v2 p.1 p.2 (by omega) (by omega) (by omega)
  · exact ans_less v1 v2 p.1 p.2 (by omega) (by omega) (by omega)
theorem decWkt_less {k : Int} (hk : 0 ≤ k) {l : List SN} (hp : posB (l.map (lessS k)) = true) (left : Bool) : decWkt l left = 3 ∨ decWkt l left = decWkt (l.map (lessS k)) left := by
  by_cases h : crsE l = 0
  · obtain ⟨h', y1, y2, z1, z2⟩ := cross_less hk h hp
    obtain ⟨v1, v2⟩ := cross_valid h
    obtain ⟨v1', v2'⟩ := cross_valid h'
    unfold decWkt
    rw [if_pos h, if_pos h']
    have s := sd_less y1 y2 left
    exact wkt_less (sd_valid v1' left) (sd_valid v1 left) s.1 s.2 v2' v2 z1 z2
  · left; unfold decWkt; rw [if_neg h]
/-- SURER. -/
theorem surer {k : Int} (hk : 0 ≤ k) {l : List SN} (h : behE l = 0) (hp : posB (l.map (lessS k)) = true) (left shot bat void : Bool) :
    decCall l left shot bat void = 3 ∨ decCall (l.map (lessS k)) left shot bat void = 3 ∨ decCall l left shot bat void = decCall (l.map (lessS k)) left shot bat void := by
  have a := decLeg_less hk h left
  have b := decLine_less hk h left shot
  have c := decWkt_less (l := l) hk hp left
  unfold decCall ruleV
  generalize decLeg l left = x at *
  generalize decLine l left shot = y at *
  generalize decWkt l left = z at *
  generalize decLeg (l.map (lessS k)) left = x' at *
  generalize decLine (l.map (lessS k)) left shot = y' at *
  generalize decWkt (l.map (lessS k)) left = z' at *
  grind
end Go.Proofs.Ytmdledlbkdcmnaa

/-
  What a given call says of every path that fits, in plain Lean.
  Conditions: none.
-/
namespace Go.Proofs.Ytmdledlbkdcmnaa
open Go.RowKit
/-- A value as seen from a right-handed batter. -/
def sgn (n : Int) (left : Bool) : Int := if left then -n else n
theorem sgn_in {a b n D : Int} (h1 : a * D ≤ n) (h2 : n ≤ b * D) (left : Bool) : sdLo a b left * D ≤ sgn n left ∧ sgn n left ≤ sdHi a b left * D := by
  cases left <;> unfold sdLo sdHi sgn <;> simp only [Bool.false_eq_true, if_false, if_true]
  · exact ⟨h1, h2⟩
  · rw [Int.neg_mul, Int.neg_mul]; omega
/-- An observation behind the bounce holds a line that fits. -/
theorem seen_in {l : List SN} {a b : Int × Int} (h : fitL (bnds 1 (bhdL l)) a b = true) {s : SN} (hs : s ∈ bhdL l) (left : Bool) : plLo s left * (b.1 - a.1) ≤ sgn (valN a b s.1) left ∧ sgn (valN a b s.1) left ≤ plHi s left * (b.1 - a.1) := by
  have hm : bY s ∈ bnds 1 (bhdL l) := List.mem_map.2 ⟨s, hs, rfl⟩
  have := fitL_mem h hm
  exact sgn_in this.1 this.2 left
theorem bhd_mem {l : List SN} (h : behE l = 0) : atS l (bncK l) ∈ bhdL l ∧ atS l (l.length - 1) ∈ bhdL l := by
  obtain ⟨hc, h2⟩ := behE_len h
  have hn := beh_pos h
  have hb := bncK_lt' (l := l) (by omega)
  unfold bhdL
  rw [if_pos hc]
  constructor
  · refine List.mem_of_getElem? (i := 0) ?_
    rw [List.getElem?_drop]
    unfold atS
    rw [List.getElem?_eq_getElem (show bncK l + 0 < l.length by omega)]
    rw [List.getElem?_eq_getElem hb]
    rfl
  · refine List.mem_of_getElem? (i := l.length - 1 - bncK l) ?_
    rw [List.getElem?_drop]
    unfold atS
    rw [show bncK l + (l.length - 1 - bncK l) = l.length - 1 by omega, List.getElem?_eq_getElem (show l.length - 1 < l.length by omega)]
theorem pl_bd {s : SN} (h : okS s = true) (left : Bool) : -51000 ≤ plLo s left ∧ plHi s left ≤ 51000 := by
  obtain ⟨_, _, ⟨c1, c2⟩, _, e1, e2⟩ := okS_iff.1 h
  cases left <;> unfold plLo plHi sdLo sdHi <;> simp only [Bool.false_eq_true, if_false, if_true] <;> omega
/-- The place at a time is from lo to hi. -/
def spotB (a b : Int × Int) (left : Bool) (t lo hi : Int) : Bool := decide (lo * (b.1 - a.1) ≤ sgn (valN a b t) left) && decide (sgn (valN a b t) left ≤ hi * (b.1 - a.1))
theorem mulR {a b c : Int} (h : a ≤ b) (hc : 0 ≤ c) : a * c ≤ b * c := Int.mul_le_mul_of_nonneg_right h hc
def legB (l : List SN) (left : Bool) (a b : Int × Int) : Bool := decide (bncK l ≠ 0) && !spotB a b left (atS l (bncK l)).1 (-1143) 1099511627776
def lineB (l : List SN) (left shot : Bool) (a b : Int × Int) : Bool := spotB a b left (atS l (l.length - 1)).1 (-1143) 1099511627776 && (!shot || spotB a b left (atS l (l.length - 1)).1 (-1099511627776) 1143)
theorem spot_yes {a b : Int × Int} {left : Bool} {t lo hi p q : Int} (hd : a.1 < b.1) (h1 : p * (b.1 - a.1) ≤ sgn (valN a b t) left) (h2 : sgn (valN a b t) left ≤ q * (b.1 - a.1)) (h3 : lo ≤ p) (h4 : q ≤ hi) : spotB a b left t lo hi = true := by
  have a1 := mulR h3 (c := b.1 - a.1) (by omega)
  have a2 := mulR h4 (c := b.1 - a.1) (by omega)
  unfold spotB
  rw [decide_eq_true (Int.le_trans a1 h1), decide_eq_true (Int.le_trans h2 a2)]
  rfl
theorem spot_no {a b : Int × Int} {left : Bool} {t lo hi p q : Int} (hd : a.1 < b.1) (h1 : p * (b.1 - a.1) ≤ sgn (valN a b t) left) (h2 : sgn (valN a b t) left ≤ q * (b.1 - a.1)) (h3 : q < lo ∨ hi < p) : spotB a b left t lo hi = false := by
  unfold spotB
  rw [Bool.and_eq_false_iff, decide_eq_false_iff_not, decide_eq_false_iff_not]
  rcases h3 with h | h
  · left
    have a1 := mulR (show q + 1 ≤ lo by omega) (c := b.1 - a.1) (by omega)
    rw [Int.add_mul] at a1
    omega
  · right
    have a1 := mulR (show hi + 1 ≤ p by omega) (c := b.1 - a.1) (by omega)
    rw [Int.add_mul] at a1
    omega
theorem leg_two {l : List SN} {left : Bool} {a b : Int × Int} (h : behE l = 0) (hd : a.1 < b.1) (hf : fitL (bnds 1 (bhdL l)) a b = true) (hl : decLeg l left = 2) : legB l left a b = false := by
  have ho := bhd_ok _ (bhd_mem h).1
  obtain ⟨s1, s2⟩ := seen_in hf (bhd_mem h).1 left
  obtain ⟨b1, b2⟩ := pl_bd ho left
  unfold decLeg at hl
  unfold legB
  split at hl
  · rename_i h0; simp [h0]
  · rw [ans_two (pl_valid ho left) (by omega) (by omega) (by omega)] at hl
    have hv := validB_bd (pl_valid ho left)
    rw [spot_yes hd s1 s2 (by omega) (by omega)]
    simp
theorem leg_one {l : List SN} {left : Bool} {a b : Int × Int} (h : behE l = 0) (hd : a.1 < b.1) (hf : fitL (bnds 1 (bhdL l)) a b = true) (hl : decLeg l left = 1) : legB l left a b = true := by
  have ho := bhd_ok _ (bhd_mem h).1
  obtain ⟨s1, s2⟩ := seen_in hf (bhd_mem h).1 left
  unfold decLeg at hl
  unfold legB
  split at hl
  · omega
  · rename_i h0
    rw [ans_one (pl_valid ho left) (by omega) (by omega) (by omega)] at hl
    rw [spot_no hd s1 s2 (.inl (by omega))]
    simp [h0]
theorem line_one {l : List SN} {left shot : Bool} {a b : Int × Int} (h : behE l = 0) (hd : a.1 < b.1) (hf : fitL (bnds 1 (bhdL l)) a b = true) (hl : decLine l left shot = 1) : lineB l left shot a b = true := by
  have ho := bhd_ok _ (bhd_mem h).2
  obtain ⟨s1, s2⟩ := seen_in hf (bhd_mem h).2 left
  obtain ⟨b1, b2⟩ := pl_bd ho left
  unfold decLine impactV at hl
  unfold lineB
  cases shot
  · rw [if_neg (by simp), ans_one (pl_valid ho left) (by omega) (by omega) (by omega)] at hl
    rw [spot_yes hd s1 s2 (by omega) (by omega)]
    simp
  · rw [if_pos rfl, ans_one (pl_valid ho left) (by omega) (by omega) (by omega)] at hl
    rw [spot_yes hd s1 s2 (by omega) (by omega), spot_yes hd s1 s2 (by omega) (by omega)]
    simp
theorem line_two {l : List SN} {left shot : Bool} {a b : Int × Int} (h : behE l = 0) (hd : a.1 < b.1) (hf : fitL (bnds 1 (bhdL l)) a b = true) (hl : decLine l left shot = 2) : lineB l left shot a b = false := by
  have ho := bhd_ok _ (bhd_mem h).2
  obtain ⟨s1, s2⟩ := seen_in hf (bhd_mem h).2 left
  obtain ⟨b1, b2⟩ := pl_bd ho left
  have hv := validB_bd (pl_valid ho left)
  unfold decLine impactV at hl
  unfold lineB
  cases shot
  · rw [if_neg (by simp), ans_two (pl_valid ho left) (by omega) (by omega) (by omega)] at hl
    rw [spot_no hd s1 s2 (.inl (by omega))]
    simp
  · rw [if_pos rfl, ans_two (pl_valid ho left) (by omega) (by omega) (by omega)] at hl
    rcases hl with hl | hl
    · rw [spot_no hd s1 s2 (.inl hl)]; simp
    · rw [spot_no (lo := -1099511627776) (hi := 1143) hd s1 s2 (.inr hl)]; simp
/-- The path passes the wicket, made smaller by a margin. -/
def hitsB (ya yb za zb : Int × Int) (n d m : Int) : Bool :=
  decide (valQ ya yb n d ≤ (1503 - m) * ((yb.1 - ya.1) * d)) && (decide (-(1503 - m) * ((yb.1 - ya.1) * d) ≤ valQ ya yb n d) && decide (valQ za zb n d * d ≤ n * n * (981 * (zb.1 - za.1)) + (7472 - m) * 80000 * ((zb.1 - za.1) * d) * d))
theorem hits_one {l : List SN} {left : Bool} {xa xb ya yb za zb : Int × Int} (hx : xa.1 < xb.1) (hy : ya.1 < yb.1) (hz : za.1 < zb.1) (fx : fitL (bnds 0 (bhdL l)) xa xb = true) (fy : fitL (bnds 1 (bhdL l)) ya yb = true) (fz : fitL (bnds 2 (bhdL l)) za zb = true) (hw : decWkt l left = 1) : hitsB ya yb za zb (xa.2 * xb.1 - xb.2 * xa.1) (xa.2 - xb.2) 180 = true := by
  unfold decWkt at hw
  split at hw
  · rename_i hc
    have C := crossed_all hc hx hy hz fx fy fz
    obtain ⟨v1, v2⟩ := cross_valid hc
    rw [wicketV_good' (sd_valid v1 left) v2] at hw
    have k : clampM 180 = 180 := by decide
    rw [k] at hw
    obtain ⟨c0, _, _, _, _, _, c1, c2, c3, c4⟩ := C
    generalize xa.2 * xb.1 - xb.2 * xa.1 = n at *
    generalize xa.2 - xb.2 = d at *
    have hD : 0 ≤ (yb.1 - ya.1) * d := Int.mul_nonneg (by omega) (by omega)
    have hE : 0 ≤ (zb.1 - za.1) * (d * d) := Int.mul_nonneg (by omega) (Int.mul_nonneg (by omega) (by omega))
    have hyy : -1323 ≤ cYlo l ∧ cYhi l ≤ 1323 ∧ cZhi l ≤ 7292 := by
      split at hw
      · rename_i h; cases left <;> unfold sdLo sdHi at h <;> simp only [Bool.false_eq_true, if_false, if_true] at h <;> omega
      · split at hw <;> omega
    have y1 : -1323 * ((yb.1 - ya.1) * d) ≤ cYlo l * ((yb.1 - ya.1) * d) := mulR hyy.1 hD
    have y2 : cYhi l * ((yb.1 - ya.1) * d) ≤ 1323 * ((yb.1 - ya.1) * d) := mulR hyy.2.1 hD
    have z1 : cZhi l * ((zb.1 - za.1) * (d * d)) ≤ 7292 * ((zb.1 - za.1) * (d * d)) := mulR hyy.2.2 hE
    unfold hitsB
    rw [decide_eq_true, decide_eq_true, decide_eq_true]
    · rfl
    · have e1 : fallHi (loR (bnds 2 (bhdL l)) (cT1 l) (cT2 l)) (hiR (bnds 2 (bhdL l)) (cT1 l) (cT2 l)) (cT1 l) (cT2 l) * (80000 * (zb.1 - za.1)) * (d * d) = 80000 * (cZhi l * ((zb.1 - za.1) * (d * d))) := by unfold cZhi; grind
      rw [e1] at c4
      have e2 : n * n * (981 * (zb.1 - za.1)) = 981 * (zb.1 - za.1) * (n * n) := by grind
      have e3 : (7472 - 180) * 80000 * ((zb.1 - za.1) * d) * d = 80000 * (7292 * ((zb.1 - za.1) * (d * d))) := by grind
      rw [e2, e3]
      omega
    · exact Int.le_trans y1 c1
    · exact Int.le_trans c2 y2
  · omega
theorem hits_two {l : List SN} {left : Bool} {xa xb ya yb za zb : Int × Int} (hx : xa.1 < xb.1) (hy : ya.1 < yb.1) (hz : za.1 < zb.1) (fx : fitL (bnds 0 (bhdL l)) xa xb = true) (fy : fitL (bnds 1 (bhdL l)) ya yb = true) (fz : fitL (bnds 2 (bhdL l)) za zb = true) (hw : decWkt l left = 2) : hitsB ya yb za zb (xa.2 * xb.1 - xb.2 * xa.1) (xa.2 - xb.2) 0 = false := by
  unfold decWkt at hw
  split at hw
  · rename_i hc
    have C := crossed_all hc hx hy hz fx fy fz
    obtain ⟨v1, v2⟩ := cross_valid hc
    rw [wicketV_good' (sd_valid v1 left) v2] at hw
    have k : clampM 180 = 180 := by decide
    rw [k] at hw
    obtain ⟨c0, _, _, _, _, _, c1, c2, c3, c4⟩ := C
    generalize xa.2 * xb.1 - xb.2 * xa.1 = n at *
    generalize xa.2 - xb.2 = d at *
    have hD : 0 < (yb.1 - ya.1) * d := Int.mul_pos (by omega) (by omega)
    have hE : 0 < (zb.1 - za.1) * (d * d) := Int.mul_pos (by omega) (Int.mul_pos (by omega) (by omega))
    have hyy : cYhi l ≤ -1504 ∨ 1504 ≤ cYlo l ∨ 7473 ≤ cZlo l := by
      split at hw
      · omega
      · split at hw
        · rename_i h; cases left <;> unfold sdLo sdHi at h <;> simp only [Bool.false_eq_true, if_false, if_true] at h <;> omega
        · omega
    unfold hitsB
    rw [Bool.and_eq_false_iff, Bool.and_eq_false_iff, decide_eq_false_iff_not, decide_eq_false_iff_not, decide_eq_false_iff_not]
    rcases hyy with q | q | q
    · right; left
      have y2 : cYhi l * ((yb.1 - ya.1) * d) ≤ -1504 * ((yb.1 - ya.1) * d) := mulR q (Int.le_of_lt hD)
      have e : -1504 * ((yb.1 - ya.1) * d) = -(1503 - 0) * ((yb.1 - ya.1) * d) - (yb.1 - ya.1) * d := by grind
      unfold cYhi at y2
      omega
    · left
      have y2 : 1504 * ((yb.1 - ya.1) * d) ≤ cYlo l * ((yb.1 - ya.1) * d) := mulR q (Int.le_of_lt hD)
      have e : 1504 * ((yb.1 - ya.1) * d) = (1503 - 0) * ((yb.1 - ya.1) * d) + (yb.1 - ya.1) * d := by grind
      unfold cYlo at y2
      omega
    · right; right
      have z1 : 7473 * ((zb.1 - za.1) * (d * d)) ≤ cZlo l * ((zb.1 - za.1) * (d * d)) := mulR q (Int.le_of_lt hE)
      have e1 : fallLo (loR (bnds 2 (bhdL l)) (cT1 l) (cT2 l)) (hiR (bnds 2 (bhdL l)) (cT1 l) (cT2 l)) (cT1 l) (cT2 l) * (80000 * (zb.1 - za.1)) * (d * d) = 80000 * (cZlo l * ((zb.1 - za.1) * (d * d))) := by unfold cZlo; grind
      rw [e1] at c3
      have e2 : n * n * (981 * (zb.1 - za.1)) = 981 * (zb.1 - za.1) * (n * n) := by grind
      have e3 : (7472 - 0) * 80000 * ((zb.1 - za.1) * d) * d = 80000 * (7472 * ((zb.1 - za.1) * (d * d))) := by grind
      rw [e2, e3]
      omega
  · omega
/-- DECIDED. -/
theorem decided {l : List SN} {left shot : Bool} {xa xb ya yb za zb : Int × Int} (h : behE l = 0) (hx : xa.1 < xb.1) (hy : ya.1 < yb.1) (hz : za.1 < zb.1) (fx : fitL (bnds 0 (bhdL l)) xa xb = true) (fy : fitL (bnds 1 (bhdL l)) ya yb = true) (fz : fitL (bnds 2 (bhdL l)) za zb = true) :
    (decCall l left shot false false = 1 → legB l left ya yb = false ∧ lineB l left shot ya yb = true ∧ hitsB ya yb za zb (xa.2 * xb.1 - xb.2 * xa.1) (xa.2 - xb.2) 180 = true)
    ∧ (decCall l left shot false false = 2 → legB l left ya yb = true ∨ lineB l left shot ya yb = false ∨ hitsB ya yb za zb (xa.2 * xb.1 - xb.2 * xa.1) (xa.2 - xb.2) 0 = false)
    ∧ (decCall l left shot false false = 1 ∨ decCall l left shot false false = 2 ∨ decCall l left shot false false = 3) := by
  have a2 := leg_two (left := left) h hy fy
  have a1 := leg_one (left := left) h hy fy
  have b1 := line_one (left := left) (shot := shot) h hy fy
  have b2 := line_two (left := left) (shot := shot) h hy fy
  have c1 := hits_one (left := left) hx hy hz fx fy fz
  have c2 := hits_two (left := left) hx hy hz fx fy fz
  unfold decCall ruleV
  generalize decLeg l left = x at *
  generalize decLine l left shot = y at *
  generalize decWkt l left = z at *
  refine ⟨fun e => ?_, fun e => ?_, ?_⟩
  · simp only [Bool.false_eq_true, false_or] at e
    split at e
    · omega
    · split at e
      · rename_i k; exact ⟨a2 k.1, b1 k.2.1, c1 k.2.2⟩
      · omega
  · simp only [Bool.false_eq_true, false_or] at e
    split at e
    · rename_i k
      rcases k with k | k | k
      · exact .inl (a1 k)
      · exact .inr (.inl (b2 k))
      · exact .inr (.inr (c2 k))
    · split at e <;> omega
  · split
    · exact .inr (.inl rfl)
    · split
      · exact .inl rfl
      · exact .inr (.inr rfl)
end Go.Proofs.Ytmdledlbkdcmnaa
