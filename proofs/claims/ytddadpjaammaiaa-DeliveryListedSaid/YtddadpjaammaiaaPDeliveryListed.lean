/-
  Deliveries: a plain delivery is in the list exactly once if it is legal and has few runs, otherwise not.
  Conditions: none: every input that the parameter types allow.
-/
import Derived.Test.YtddadpjaammaiaaDelLaws4
import Derived.Test.YtddadpjaammaiaaFlat
import Derived.WalkKit
import Derived.ProofKit
import Derived.OpenShut
import Derived.ChangeOld
import Derived.Below
namespace Go.Proofs.Ytddadpjaammaiaa.deliveryListed
open Go.ChangeShapes Go.WideShapes Go.ChangeAt Go.RowKit Go.Deep
set_option linter.unusedVariables false

theorem own : ownKnob Try.prog.godebug = none := by kernel_rfl
theorem laidOut : laidOutB Try.prog = true := by kernel_rfl

set_option maxRecDepth 100000 in
set_option maxHeartbeats 1000000 in
theorem lifted (os : Os) (started : os.Started) (H : Type) (enc : TypeId × Value → H) :
    ReturnsInHanded {} Try.checked os 5 .any (Rows.deliveryListedSpec.pre6 enc Try.prog Try.f5 Rows.deliveryListedRow.domain false) (Rows.deliveryListedSpec.post enc Try.prog Try.f5 false true false false) := by
  refine returnsInHanded_of_change (C := Try.checked) own started (by kernel_rfl) Try.func5
    (ChangeSpec.witness6 (enc := enc) (C := Try.checked) false ⟨#[], #[.agg #[.int .u8 0, .int .u8 0, .int .i64 0, .int .i64 0, .int .i64 0, .bool false, .int .u8 0, .int .i64 0, .int .i64 0, .int .i64 0, .bool false, .int .i64 0], .int .u8 0], []⟩ 8 (by kernel_rfl) (by kernel_rfl) (by kernel_rfl) (by kernel_rfl)) ?_
  intro W base args ds gs before hval0 hW hcnd _
  have hval : ∀ (j : Nat) t v, Try.f5.params[j]? = some t → args[j]? = some v → Value.okWide Try.prog W .any base t v := hval0
  have hW' := hW
  obtain ⟨p, q, hA0, hV, rfl, hfz, hnd⟩ := hW
  have hA : DataW.TrodAll enc Try.prog W 0 (fun _ => true) true Try.f5.params.toList args.toList ds p := hA0
  rw [Try.params5] at hA hval
  obtain ⟨v0, vs0, d0, ds0, p0, q0, hargs, rfl, rfl, h0, r0⟩ := trodAll_cons hA
  obtain ⟨v1, vs1, d1, ds1, p1, q1, rfl, rfl, rfl, h1, r1⟩ := trodAll_cons r0
  obtain ⟨rfl, rfl, rfl⟩ := trodAll_nil r1
  obtain rfl : args = #[v0, v1] := by cases args; simp_all
  obtain ⟨rfl, rfl⟩ := trodVars_none hV
  have k0 := h0
  have lt0 : ∀ x ∈ p0, x.block < W.heap.size := by obtain ⟨m, hm⟩ := k0; exact DataW.trod_lt m _ _ _ hm
  obtain ⟨cs0, rfl, hs0⟩ := okWide_struct Try.underlying26 (hval 0 26 v0 rfl rfl)
  have hn0 : cs0.toList.length = 12 := by rw [Array.length_toList, hs0]; kernel_rfl
  obtain ⟨fuel0, hf0⟩ := h0
  simp only [Value.cells] at hf0
  obtain ⟨L0⟩ := cs0
  simp only at hn0 hf0
  obtain ⟨x0_0, e0_0, w0_0⟩ := leaf_int (n := 8) (i := 0) (u := 22) (by kernel_rfl) Try.underlying22 hf0
  have b0_0 := bounds_u8 w0_0
  obtain ⟨x0_1, e0_1, w0_1⟩ := leaf_int (n := 8) (i := 1) (u := 23) (by kernel_rfl) Try.underlying23 hf0
  have b0_1 := bounds_u8 w0_1
  obtain ⟨x0_2, e0_2, w0_2⟩ := leaf_int (n := 8) (i := 2) (u := 3) (by kernel_rfl) Try.underlying3 hf0
  have b0_2 := bounds_i64 w0_2
  obtain ⟨x0_3, e0_3, w0_3⟩ := leaf_int (n := 8) (i := 3) (u := 3) (by kernel_rfl) Try.underlying3 hf0
  have b0_3 := bounds_i64 w0_3
  obtain ⟨x0_4, e0_4, w0_4⟩ := leaf_int (n := 8) (i := 4) (u := 3) (by kernel_rfl) Try.underlying3 hf0
  have b0_4 := bounds_i64 w0_4
  obtain ⟨x0_5, e0_5⟩ := leaf_bool (n := 8) (i := 5) (u := 4) (by kernel_rfl) Try.underlying4 hf0
  obtain ⟨x0_6, e0_6, w0_6⟩ := leaf_int (n := 8) (i := 6) (u := 24) (by kernel_rfl) Try.underlying24 hf0
  have b0_6 := bounds_u8 w0_6
  obtain ⟨x0_7, e0_7, w0_7⟩ := leaf_int (n := 8) (i := 7) (u := 3) (by kernel_rfl) Try.underlying3 hf0
  have b0_7 := bounds_i64 w0_7
  obtain ⟨x0_8, e0_8, w0_8⟩ := leaf_int (n := 8) (i := 8) (u := 3) (by kernel_rfl) Try.underlying3 hf0
  have b0_8 := bounds_i64 w0_8
  obtain ⟨x0_9, e0_9, w0_9⟩ := leaf_int (n := 8) (i := 9) (u := 3) (by kernel_rfl) Try.underlying3 hf0
  have b0_9 := bounds_i64 w0_9
  obtain ⟨x0_10, e0_10⟩ := leaf_bool (n := 8) (i := 10) (u := 4) (by kernel_rfl) Try.underlying4 hf0
  obtain ⟨x0_11, e0_11, w0_11⟩ := leaf_int (n := 8) (i := 11) (u := 3) (by kernel_rfl) Try.underlying3 hf0
  have b0_11 := bounds_i64 w0_11
  obtain ⟨c0_0, c0_1, c0_2, c0_3, c0_4, c0_5, c0_6, c0_7, c0_8, c0_9, c0_10, c0_11, rfl⟩ := len12 hn0
  simp only [List.getElem?_cons_zero, List.getElem?_cons_succ, Option.some.injEq] at e0_0 e0_1 e0_2 e0_3 e0_4 e0_5 e0_6 e0_7 e0_8 e0_9 e0_10 e0_11
  subst e0_0 e0_1 e0_2 e0_3 e0_4 e0_5 e0_6 e0_7 e0_8 e0_9 e0_10 e0_11
  have k1 := h1
  have lt1 : ∀ x ∈ p1, x.block < W.heap.size := by obtain ⟨m, hm⟩ := k1; exact DataW.trod_lt m _ _ _ hm
  obtain ⟨a1, rfl, rfl, rfl, w1⟩ := open_int Try.underlying5 (hval 1 5 v1 rfl rfl) h1
  have b1 := bounds_u8 w1
  clear hA0 hval0
  refine (deliveryListed_walk x0_0 x0_1 x0_2 x0_3 x0_4 x0_5 x0_6 x0_7 x0_8 x0_9 x0_10 x0_11 a1 b0_1.1 b1.1 b1.2 W).mono fun e W' ⟨he, bel⟩ => ?_
  subst he
  exact ⟨_, rfl, _, _, _, [], _, [], hW', trodAll_mk1 (shut_bool Try.underlying4 _), (trodAll_cons_mk (Below.trod laidOut (by kernel_rfl) (of_decide_eq_true (by kernel_rfl)) k0 bel lt0) (trodAll_cons_mk (Below.trod laidOut (by kernel_rfl) (of_decide_eq_true (by kernel_rfl)) k1 bel lt1) trodAll_mk0)), rfl, bel.frame _, fun h => by cases h⟩

theorem over : Rows.deliveryListedRow.holds Try.pinned (OpenSpec.ofChange Rows.deliveryListedSpec) :=
  OpenClaim.holds_of_wide 5 Try.f5 rfl rfl rfl rfl rfl rfl rfl ⟨rfl, rfl, rfl, rfl, rfl⟩ rfl rfl rfl rfl rfl (by kernel_rfl) Try.func5 (by kernel_rfl)
    (of_decide_eq_true (by kernel_rfl)) (by unfold Func.isWrapper; first | (rw [if_pos (by decide +kernel)]; kernel_rfl) | (rw [if_neg (by decide +kernel)]; exact ⟨rfl, rfl⟩))
    (fun os started H enc _ => lifted os started H enc)

/-- The statement. -/
theorem proved : Rows.DeliveryListedSaid := over
#print axioms proved
end Go.Proofs.Ytddadpjaammaiaa.deliveryListed
