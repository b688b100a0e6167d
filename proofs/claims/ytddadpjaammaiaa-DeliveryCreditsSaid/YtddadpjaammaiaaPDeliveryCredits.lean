/-
  Deliveries: what each party gets of any delivery is what the reference gives.
  Conditions: none: every input that the parameter types allow.
-/
import Derived.Test.YtddadpjaammaiaaCreditLaws
import Derived.Test.YtddadpjaammaiaaFlat
import Derived.WalkKit
import Derived.ProofKit
import Derived.OpenShut
import Derived.ChangeOld
import Derived.Below
namespace Go.Proofs.Ytddadpjaammaiaa.deliveryCredits
open Go.ChangeShapes Go.WideShapes Go.ChangeAt Go.RowKit Go.Deep
set_option linter.unusedVariables false

theorem own : ownKnob Try.prog.godebug = none := by kernel_rfl
theorem laidOut : laidOutB Try.prog = true := by kernel_rfl

set_option maxRecDepth 100000 in
set_option maxHeartbeats 1000000 in
theorem lifted (os : Os) (started : os.Started) (H : Type) (enc : TypeId × Value → H) :
    ReturnsInHanded {} Try.checked os 7 .any (Rows.deliveryCreditsSpec.pre6 enc Try.prog Try.f7 Rows.deliveryCreditsRow.domain false) (Rows.deliveryCreditsSpec.post enc Try.prog Try.f7 false true false false) := by
  refine returnsInHanded_of_change (C := Try.checked) own started (by kernel_rfl) Try.func7
    (ChangeSpec.witness6 (enc := enc) (C := Try.checked) false ⟨#[], #[.agg #[.int .i64 0, .int .i64 0], .agg #[.int .u8 0, .int .u8 0, .int .i64 0, .int .i64 0, .int .i64 0, .bool false, .int .u8 0, .int .i64 0, .int .i64 0, .int .i64 0, .bool false, .int .i64 0]], []⟩ 8 (by kernel_rfl) (by kernel_rfl) (by kernel_rfl) (by kernel_rfl)) ?_
  intro W base args ds gs before hval0 hW hcnd _
  have hval : ∀ (j : Nat) t v, Try.f7.params[j]? = some t → args[j]? = some v → Value.okWide Try.prog W .any base t v := hval0
  have hW' := hW
  obtain ⟨p, q, hA0, hV, rfl, hfz, hnd⟩ := hW
  have hA : DataW.TrodAll enc Try.prog W 0 (fun _ => true) true Try.f7.params.toList args.toList ds p := hA0
  rw [Try.params7] at hA hval
  obtain ⟨v0, vs0, d0, ds0, p0, q0, hargs, rfl, rfl, h0, r0⟩ := trodAll_cons hA
  obtain ⟨v1, vs1, d1, ds1, p1, q1, rfl, rfl, rfl, h1, r1⟩ := trodAll_cons r0
  obtain ⟨rfl, rfl, rfl⟩ := trodAll_nil r1
  obtain rfl : args = #[v0, v1] := by cases args; simp_all
  obtain ⟨rfl, rfl⟩ := trodVars_none hV
  have k0 := h0
  have lt0 : ∀ x ∈ p0, x.block < W.heap.size := by obtain ⟨m, hm⟩ := k0; exact DataW.trod_lt m _ _ _ hm
  obtain ⟨cs0, rfl, hs0⟩ := okWide_struct Try.underlying43 (hval 0 43 v0 rfl rfl)
  have hn0 : cs0.toList.length = 2 := by rw [Array.length_toList, hs0]; kernel_rfl
  obtain ⟨fuel0, hf0⟩ := h0
  simp only [Value.cells] at hf0
  obtain ⟨l0, hl0, hc0, wf0⟩ := leaf_ints (n := 8) (k := .i64) (N := 2) (by kernel_rfl) hn0 hf0
  obtain ⟨x0_0, x0_1, rfl⟩ := len2 hl0
  obtain rfl : cs0 = #[.int .i64 x0_0, .int .i64 x0_1] := by cases cs0; simp_all
  have b0_0 := bounds_i64 (wf0 x0_0 (by simp))
  have b0_1 := bounds_i64 (wf0 x0_1 (by simp))
  have k1 := h1
  have lt1 : ∀ x ∈ p1, x.block < W.heap.size := by obtain ⟨m, hm⟩ := k1; exact DataW.trod_lt m _ _ _ hm
  obtain ⟨cs1, rfl, hs1⟩ := okWide_struct Try.underlying26 (hval 1 26 v1 rfl rfl)
  have hn1 : cs1.toList.length = 12 := by rw [Array.length_toList, hs1]; kernel_rfl
  obtain ⟨fuel1, hf1⟩ := h1
  simp only [Value.cells] at hf1
  obtain ⟨L1⟩ := cs1
  simp only at hn1 hf1
  obtain ⟨x1_0, e1_0, w1_0⟩ := leaf_int (n := 8) (i := 0) (u := 22) (by kernel_rfl) Try.underlying22 hf1
  have b1_0 := bounds_u8 w1_0
  obtain ⟨x1_1, e1_1, w1_1⟩ := leaf_int (n := 8) (i := 1) (u := 23) (by kernel_rfl) Try.underlying23 hf1
  have b1_1 := bounds_u8 w1_1
  obtain ⟨x1_2, e1_2, w1_2⟩ := leaf_int (n := 8) (i := 2) (u := 3) (by kernel_rfl) Try.underlying3 hf1
  have b1_2 := bounds_i64 w1_2
  obtain ⟨x1_3, e1_3, w1_3⟩ := leaf_int (n := 8) (i := 3) (u := 3) (by kernel_rfl) Try.underlying3 hf1
  have b1_3 := bounds_i64 w1_3
  obtain ⟨x1_4, e1_4, w1_4⟩ := leaf_int (n := 8) (i := 4) (u := 3) (by kernel_rfl) Try.underlying3 hf1
  have b1_4 := bounds_i64 w1_4
  obtain ⟨x1_5, e1_5⟩ := leaf_bool (n := 8) (i := 5) (u := 4) (by kernel_rfl) Try.underlying4 hf1
  obtain ⟨x1_6, e1_6, w1_6⟩ := leaf_int (n := 8) (i := 6) (u := 24) (by kernel_rfl) Try.underlying24 hf1
  have b1_6 := bounds_u8 w1_6
  obtain ⟨x1_7, e1_7, w1_7⟩ := leaf_int (n := 8) (i := 7) (u := 3) (by kernel_rfl) Try.underlying3 hf1
  have b1_7 := bounds_i64 w1_7
  obtain ⟨x1_8, e1_8, w1_8⟩ := leaf_int (n := 8) (i := 8) (u := 3) (by kernel_rfl) Try.underlying3 hf1
  have b1_8 := bounds_i64 w1_8
  obtain ⟨x1_9, e1_9, w1_9⟩ := leaf_int (n := 8) (i := 9) (u := 3) (by kernel_rfl) Try.underlying3 hf1
  have b1_9 := bounds_i64 w1_9
  obtain ⟨x1_10, e1_10⟩ := leaf_bool (n := 8) (i := 10) (u := 4) (by kernel_rfl) Try.underlying4 hf1
  obtain ⟨x1_11, e1_11, w1_11⟩ := leaf_int (n := 8) (i := 11) (u := 3) (by kernel_rfl) Try.underlying3 hf1
  have b1_11 := bounds_i64 w1_11
  obtain ⟨c1_0, c1_1, c1_2, c1_3, c1_4, c1_5, c1_6, c1_7, c1_8, c1_9, c1_10, c1_11, rfl⟩ := len12 hn1
  simp only [List.getElem?_cons_zero, List.getElem?_cons_succ, Option.some.injEq] at e1_0 e1_1 e1_2 e1_3 e1_4 e1_5 e1_6 e1_7 e1_8 e1_9 e1_10 e1_11
  subst e1_0 e1_1 e1_2 e1_3 e1_4 e1_5 e1_6 e1_7 e1_8 e1_9 e1_10 e1_11
  clear hA0 hval0
  refine (deliveryCredits_walk x0_0 x0_1 x1_0 x1_1 x1_2 x1_3 x1_4 x1_5 x1_6 x1_7 x1_8 x1_9 x1_10 x1_11 b1_1.1 b0_1.1 b0_1.2 W).mono fun e W' ⟨he, bel⟩ => ?_
  subst he
  exact ⟨_, rfl, _, _, _, [], _, [], hW', trodAll_mk1 (shut_bool Try.underlying4 _), (trodAll_cons_mk (Below.trod laidOut (by kernel_rfl) (of_decide_eq_true (by kernel_rfl)) k0 bel lt0) (trodAll_cons_mk (Below.trod laidOut (by kernel_rfl) (of_decide_eq_true (by kernel_rfl)) k1 bel lt1) trodAll_mk0)), rfl, bel.frame _, fun h => by cases h⟩

theorem over : Rows.deliveryCreditsRow.holds Try.pinned (OpenSpec.ofChange Rows.deliveryCreditsSpec) :=
  OpenClaim.holds_of_wide 7 Try.f7 rfl rfl rfl rfl rfl rfl rfl ⟨rfl, rfl, rfl, rfl, rfl⟩ rfl rfl rfl rfl rfl (by kernel_rfl) Try.func7 (by kernel_rfl)
    (of_decide_eq_true (by kernel_rfl)) (by unfold Func.isWrapper; first | (rw [if_pos (by decide +kernel)]; kernel_rfl) | (rw [if_neg (by decide +kernel)]; exact ⟨rfl, rfl⟩))
    (fun os started H enc _ => lifted os started H enc)

/-- The statement. -/
theorem proved : Rows.DeliveryCreditsSaid := over
#print axioms proved
end Go.Proofs.Ytddadpjaammaiaa.deliveryCredits
