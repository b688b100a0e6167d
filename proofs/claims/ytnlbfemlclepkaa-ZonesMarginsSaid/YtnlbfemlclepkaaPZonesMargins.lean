/-
  Zones: a greater margin takes no ball out of the wicket that a lesser one leaves marginal, and adds none.
  Conditions: none: every input that the parameter types allow.
-/
import Derived.Test.YtnlbfemlclepkaaZonesLaws2
import Derived.Test.YtnlbfemlclepkaaFlat
import Derived.WalkKit
import Derived.ProofKit
import Derived.OpenShut
import Derived.ChangeOld
import Derived.Below
namespace Go.Proofs.Ytnlbfemlclepkaa.zonesMargins
open Go.ChangeShapes Go.WideShapes Go.ChangeAt Go.RowKit Go.Deep
set_option linter.unusedVariables false

theorem own : ownKnob Try.prog.godebug = none := by kernel_rfl
theorem laidOut : laidOutB Try.prog = true := by kernel_rfl

set_option maxRecDepth 100000 in
set_option maxHeartbeats 1000000 in
theorem lifted (os : Os) (started : os.Started) (H : Type) (enc : TypeId × Value → H) :
    ReturnsInHanded {} Try.checked os 7 .any (Rows.zonesMarginsSpec.pre6 enc Try.prog Try.f7 Rows.zonesMarginsRow.domain false) (Rows.zonesMarginsSpec.post enc Try.prog Try.f7 false true false false) := by
  refine returnsInHanded_of_change (C := Try.checked) own started (by kernel_rfl) Try.func7
    (ChangeSpec.witness6 (enc := enc) (C := Try.checked) false ⟨#[], #[.agg #[.int .i64 0, .int .i64 0], .agg #[.int .i64 0, .int .i64 0], .agg #[.int .i64 0, .int .i64 0]], []⟩ 8 (by kernel_rfl) (by kernel_rfl) (by kernel_rfl) (by kernel_rfl)) ?_
  intro W base args ds gs before hval0 hW hcnd _
  have hval : ∀ (j : Nat) t v, Try.f7.params[j]? = some t → args[j]? = some v → Value.okWide Try.prog W .any base t v := hval0
  have hW' := hW
  obtain ⟨p, q, hA0, hV, rfl, hfz, hnd⟩ := hW
  have hA : DataW.TrodAll enc Try.prog W 0 (fun _ => true) true Try.f7.params.toList args.toList ds p := hA0
  rw [Try.params7] at hA hval
  obtain ⟨v0, vs0, d0, ds0, p0, q0, hargs, rfl, rfl, h0, r0⟩ := trodAll_cons hA
  obtain ⟨v1, vs1, d1, ds1, p1, q1, rfl, rfl, rfl, h1, r1⟩ := trodAll_cons r0
  obtain ⟨v2, vs2, d2, ds2, p2, q2, rfl, rfl, rfl, h2, r2⟩ := trodAll_cons r1
  obtain ⟨rfl, rfl, rfl⟩ := trodAll_nil r2
  obtain rfl : args = #[v0, v1, v2] := by cases args; simp_all
  obtain ⟨rfl, rfl⟩ := trodVars_none hV
  have k0 := h0
  have lt0 : ∀ x ∈ p0, x.block < W.heap.size := by obtain ⟨m, hm⟩ := k0; exact DataW.trod_lt m _ _ _ hm
  obtain ⟨cs0, rfl, hs0⟩ := okWide_struct Try.underlying34 (hval 0 34 v0 rfl rfl)
  have hn0 : cs0.toList.length = 2 := by rw [Array.length_toList, hs0]; kernel_rfl
  obtain ⟨fuel0, hf0⟩ := h0
  simp only [Value.cells] at hf0
  obtain ⟨l0, hl0, hc0, wf0⟩ := leaf_ints (n := 8) (k := .i64) (N := 2) (by kernel_rfl) hn0 hf0
  obtain ⟨x0_0, x0_1, rfl⟩ := len2 hl0
  obtain rfl : cs0 = #[.int .i64 x0_0, .int .i64 x0_1] := by cases cs0; simp_all
  have b0_0 := bounds_i64 (wf0 x0_0 (by simp))
  have b0_1 := bounds_i64 (wf0 x0_1 (by simp))
  have k1 := h1
  have lt1 : ∀ x ∈ p1, x.block < W.heap.size := by obtain ⟨m, hm⟩ := k1; exact DataW.trod_lt m _ _ _ hm
  obtain ⟨cs1, rfl, hs1⟩ := okWide_struct Try.underlying34 (hval 1 34 v1 rfl rfl)
  have hn1 : cs1.toList.length = 2 := by rw [Array.length_toList, hs1]; kernel_rfl
  obtain ⟨fuel1, hf1⟩ := h1
  simp only [Value.cells] at hf1
  obtain ⟨l1, hl1, hc1, wf1⟩ := leaf_ints (n := 8) (k := .i64) (N := 2) (by kernel_rfl) hn1 hf1
  obtain ⟨x1_0, x1_1, rfl⟩ := len2 hl1
  obtain rfl : cs1 = #[.int .i64 x1_0, .int .i64 x1_1] := by cases cs1; simp_all
  have b1_0 := bounds_i64 (wf1 x1_0 (by simp))
  have b1_1 := bounds_i64 (wf1 x1_1 (by simp))
  have k2 := h2
  have lt2 : ∀ x ∈ p2, x.block < W.heap.size := by obtain ⟨m, hm⟩ := k2; exact DataW.trod_lt m _ _ _ hm
  obtain ⟨cs2, rfl, hs2⟩ := okWide_array Try.underlying37 (hval 2 37 v2 rfl rfl)
  have hn2 : cs2.toList.length = 2 := by rw [Array.length_toList, hs2]; kernel_rfl
  obtain ⟨fuel2, hf2⟩ := h2
  simp only [Value.cells] at hf2
  obtain ⟨l2, hl2, hc2, wf2⟩ := leaf_ints (n := 8) (k := .i64) (N := 2) (by kernel_rfl) hn2 hf2
  obtain ⟨x2_0, x2_1, rfl⟩ := len2 hl2
  obtain rfl : cs2 = #[.int .i64 x2_0, .int .i64 x2_1] := by cases cs2; simp_all
  have b2_0 := bounds_i64 (wf2 x2_0 (by simp))
  have b2_1 := bounds_i64 (wf2 x2_1 (by simp))
  clear hA0 hval0
  refine (zonesMargins_walk x0_0 x0_1 x1_0 x1_1 x2_0 x2_1 W).mono fun e W' ⟨he, bel⟩ => ?_
  subst he
  exact ⟨_, rfl, _, _, _, [], _, [], hW', trodAll_mk1 (shut_bool Try.underlying4 _), (trodAll_cons_mk (Below.trod laidOut (by kernel_rfl) (of_decide_eq_true (by kernel_rfl)) k0 bel lt0) (trodAll_cons_mk (Below.trod laidOut (by kernel_rfl) (of_decide_eq_true (by kernel_rfl)) k1 bel lt1) (trodAll_cons_mk (Below.trod laidOut (by kernel_rfl) (of_decide_eq_true (by kernel_rfl)) k2 bel lt2) trodAll_mk0))), rfl, bel.frame _, fun h => by cases h⟩

theorem over : Rows.zonesMarginsRow.holds Try.pinned (OpenSpec.ofChange Rows.zonesMarginsSpec) :=
  OpenClaim.holds_of_wide 7 Try.f7 rfl rfl rfl rfl rfl rfl rfl ⟨rfl, rfl, rfl, rfl, rfl⟩ rfl rfl rfl rfl rfl (by kernel_rfl) Try.func7 (by kernel_rfl)
    (of_decide_eq_true (by kernel_rfl)) (by unfold Func.isWrapper; first | (rw [if_pos (by decide +kernel)]; kernel_rfl) | (rw [if_neg (by decide +kernel)]; exact ⟨rfl, rfl⟩))
    (fun os started H enc _ => lifted os started H enc)

/-- The statement. -/
theorem proved : Rows.ZonesMarginsSaid := over
#print axioms proved
end Go.Proofs.Ytnlbfemlclepkaa.zonesMargins
