/-
  Drawn paths: each place that is drawn is that of At at its time, and the times are a step apart.
  Conditions: none: every input that the parameter types allow.
-/
import Derived.Test.YtcppgigndpepnaaDrawnLaw
import Derived.Test.YtcppgigndpepnaaFlat
import Derived.WalkKit
import Derived.ProofKit
import Derived.OpenShut
import Derived.ChangeOld
import Derived.Below
namespace Go.Proofs.Ytcppgigndpepnaa.flightDrawn
open Go.ChangeShapes Go.WideShapes Go.ChangeAt Go.RowKit Go.Deep
set_option linter.unusedVariables false

theorem own : ownKnob Try.prog.godebug = none := by kernel_rfl
theorem laidOut : laidOutB Try.prog = true := by kernel_rfl

set_option maxRecDepth 100000 in
set_option maxHeartbeats 1000000 in
theorem lifted (os : Os) (started : os.Started) (H : Type) (enc : TypeId × Value → H) :
    ReturnsInHanded {} Try.checked os 11 .any (Rows.flightDrawnSpec.pre6 enc Try.prog Try.f11 Rows.flightDrawnRow.domain false) (Rows.flightDrawnSpec.post enc Try.prog Try.f11 false true false false) := by
  refine returnsInHanded_of_change (C := Try.checked) own started (by kernel_rfl) Try.func11
    (ChangeSpec.witness6 (enc := enc) (C := Try.checked) false ⟨#[], #[.agg #[.int .i64 0, .int .i64 0, .int .i64 0, .int .i64 0, .int .i64 0, .int .i64 0, .int .i64 0, .int .i64 0, .int .i64 0], .agg #[.int .i64 0, .int .i64 0, .int .i64 0]], []⟩ 8 (by kernel_rfl) (by kernel_rfl) (by kernel_rfl) (by kernel_rfl)) ?_
  intro W base args ds gs before hval0 hW hcnd _
  have hval : ∀ (j : Nat) t v, Try.f11.params[j]? = some t → args[j]? = some v → Value.okWide Try.prog W .any base t v := hval0
  have hW' := hW
  obtain ⟨p, q, hA0, hV, rfl, hfz, hnd⟩ := hW
  have hA : DataW.TrodAll enc Try.prog W 0 (fun _ => true) true Try.f11.params.toList args.toList ds p := hA0
  rw [Try.params11] at hA hval
  obtain ⟨v0, vs0, d0, ds0, p0, q0, hargs, rfl, rfl, h0, r0⟩ := trodAll_cons hA
  obtain ⟨v1, vs1, d1, ds1, p1, q1, rfl, rfl, rfl, h1, r1⟩ := trodAll_cons r0
  obtain ⟨rfl, rfl, rfl⟩ := trodAll_nil r1
  obtain rfl : args = #[v0, v1] := by cases args; simp_all
  obtain ⟨rfl, rfl⟩ := trodVars_none hV
  have k0 := h0
  have lt0 : ∀ x ∈ p0, x.block < W.heap.size := by obtain ⟨m, hm⟩ := k0; exact DataW.trod_lt m _ _ _ hm
  obtain ⟨cs0, rfl, hs0⟩ := okWide_struct Try.underlying48 (hval 0 48 v0 rfl rfl)
  have hn0 : cs0.toList.length = 9 := by rw [Array.length_toList, hs0]; kernel_rfl
  obtain ⟨fuel0, hf0⟩ := h0
  simp only [Value.cells] at hf0
  obtain ⟨l0, hl0, hc0, wf0⟩ := leaf_ints (n := 8) (k := .i64) (N := 9) (by kernel_rfl) hn0 hf0
  obtain ⟨x0_0, x0_1, x0_2, x0_3, x0_4, x0_5, x0_6, x0_7, x0_8, rfl⟩ := len9 hl0
  obtain rfl : cs0 = #[.int .i64 x0_0, .int .i64 x0_1, .int .i64 x0_2, .int .i64 x0_3, .int .i64 x0_4, .int .i64 x0_5, .int .i64 x0_6, .int .i64 x0_7, .int .i64 x0_8] := by cases cs0; simp_all
  have b0_0 := bounds_i64 (wf0 x0_0 (by simp))
  have b0_1 := bounds_i64 (wf0 x0_1 (by simp))
  have b0_2 := bounds_i64 (wf0 x0_2 (by simp))
  have b0_3 := bounds_i64 (wf0 x0_3 (by simp))
  have b0_4 := bounds_i64 (wf0 x0_4 (by simp))
  have b0_5 := bounds_i64 (wf0 x0_5 (by simp))
  have b0_6 := bounds_i64 (wf0 x0_6 (by simp))
  have b0_7 := bounds_i64 (wf0 x0_7 (by simp))
  have b0_8 := bounds_i64 (wf0 x0_8 (by simp))
  have k1 := h1
  have lt1 : ∀ x ∈ p1, x.block < W.heap.size := by obtain ⟨m, hm⟩ := k1; exact DataW.trod_lt m _ _ _ hm
  obtain ⟨cs1, rfl, hs1⟩ := okWide_array Try.underlying56 (hval 1 56 v1 rfl rfl)
  have hn1 : cs1.toList.length = 3 := by rw [Array.length_toList, hs1]; kernel_rfl
  obtain ⟨fuel1, hf1⟩ := h1
  simp only [Value.cells] at hf1
  obtain ⟨l1, hl1, hc1, wf1⟩ := leaf_ints (n := 8) (k := .i64) (N := 3) (by kernel_rfl) hn1 hf1
  obtain ⟨x1_0, x1_1, x1_2, rfl⟩ := len3 hl1
  obtain rfl : cs1 = #[.int .i64 x1_0, .int .i64 x1_1, .int .i64 x1_2] := by cases cs1; simp_all
  have b1_0 := bounds_i64 (wf1 x1_0 (by simp))
  have b1_1 := bounds_i64 (wf1 x1_1 (by simp))
  have b1_2 := bounds_i64 (wf1 x1_2 (by simp))
  clear hA0 hval0
  refine (flightDrawn_walk x0_0 x0_1 x0_2 x0_3 x0_4 x0_5 x0_6 x0_7 x0_8 x1_0 x1_1 x1_2 W).mono fun e W' ⟨he, bel⟩ => ?_
  subst he
  exact ⟨_, rfl, _, _, _, [], _, [], hW', trodAll_mk1 (shut_bool Try.underlying4 _), (trodAll_cons_mk (Below.trod laidOut (by kernel_rfl) (of_decide_eq_true (by kernel_rfl)) k0 bel lt0) (trodAll_cons_mk (Below.trod laidOut (by kernel_rfl) (of_decide_eq_true (by kernel_rfl)) k1 bel lt1) trodAll_mk0)), rfl, bel.frame _, fun h => by cases h⟩

theorem over : Rows.flightDrawnRow.holds Try.pinned (OpenSpec.ofChange Rows.flightDrawnSpec) :=
  OpenClaim.holds_of_wide 11 Try.f11 rfl rfl rfl rfl rfl rfl rfl ⟨rfl, rfl, rfl, rfl, rfl⟩ rfl rfl rfl rfl rfl (by kernel_rfl) Try.func11 (by kernel_rfl)
    (of_decide_eq_true (by kernel_rfl)) (by unfold Func.isWrapper; first | (rw [if_pos (by decide +kernel)]; kernel_rfl) | (rw [if_neg (by decide +kernel)]; exact ⟨rfl, rfl⟩))
    (fun os started H enc _ => lifted os started H enc)

/-- The statement. -/
theorem proved : Rows.FlightDrawnSaid := over
#print axioms proved
end Go.Proofs.Ytcppgigndpepnaa.flightDrawn
