/-
  Zones: what is in or out for a range is so for each range within it.
  Conditions: none: every input that the parameter types allow.
-/
import Derived.Test.YtnlbfemlclepkaaZonesLaws5
import Derived.Test.YtnlbfemlclepkaaFlat
import Derived.WalkKit
import Derived.ProofKit
import Derived.OpenShut
import Derived.ChangeOld
import Derived.Below
namespace Go.Proofs.Ytnlbfemlclepkaa.zonesSmaller
open Go.ChangeShapes Go.WideShapes Go.ChangeAt Go.RowKit Go.Deep
set_option linter.unusedVariables false

theorem own : ownKnob Try.prog.godebug = none := by kernel_rfl
theorem laidOut : laidOutB Try.prog = true := by kernel_rfl

set_option maxRecDepth 100000 in
set_option maxHeartbeats 1000000 in
theorem lifted (os : Os) (started : os.Started) (H : Type) (enc : TypeId × Value → H) :
    ReturnsInHanded {} Try.checked os 12 .any (Rows.zonesSmallerSpec.pre6 enc Try.prog Try.f12 Rows.zonesSmallerRow.domain false) (Rows.zonesSmallerSpec.post enc Try.prog Try.f12 false true false false) := by
  refine returnsInHanded_of_change (C := Try.checked) own started (by kernel_rfl) Try.func12
    (ChangeSpec.witness6 (enc := enc) (C := Try.checked) false ⟨#[], #[.agg #[.int .i64 0, .int .i64 0], .agg #[.int .i64 0, .int .i64 0], .agg #[.int .i64 0, .int .i64 0, .int .i64 0, .int .i64 0]], []⟩ 8 (by kernel_rfl) (by kernel_rfl) (by kernel_rfl) (by kernel_rfl)) ?_
  intro W base args ds gs before hval0 hW hcnd _
  have hval : ∀ (j : Nat) t v, Try.f12.params[j]? = some t → args[j]? = some v → Value.okWide Try.prog W .any base t v := hval0
  have hW' := hW
  obtain ⟨p, q, hA0, hV, rfl, hfz, hnd⟩ := hW
  have hA : DataW.TrodAll enc Try.prog W 0 (fun _ => true) true Try.f12.params.toList args.toList ds p := hA0
  rw [Try.params12] at hA hval
  obtain ⟨v0, vs0, d0, ds0, p0, q0, hargs, rfl, rfl, h0, r0⟩ := trodAll_cons hA
  obtain ⟨v1, vs1, d1, ds1, p1, q1, rfl, rfl, rfl, h1, r1⟩ := trodAll_cons r0
  obtain ⟨v2, vs2, d2, ds2, p2, q2, rfl, rfl, rfl, h2, r2⟩ := trodAll_cons r1
  obtain ⟨rfl, rfl, rfl⟩ := trodAll_nil r2
  obtain rfl : args = #[v0, v1, v2] := by cases args; simp_all
  obtain ⟨rfl, rfl⟩ := trodVars_none hV
  have k0 := h0
  have lt0 : ∀ x ∈ p0, x.block < W.heap.size := by obtain ⟨m, hm⟩ := k0; exact DataW.trod_lt m _ _ _ hm
  obtain ⟨cs0, rfl, hs0⟩ := okWide_struct Try.underlying34 (hval 0 34 v0 rfl rfl)
  have hn0 : cs0.toList.length = 2 := by rw [Array.length_toList, hs0]; kernel_rfl
  obtain ⟨fuel0, hf0⟩ := h0
  simp only [Value.cells] at hf0
  obtain ⟨l0, hl0, hc0, wf0⟩ := leaf_ints (n := 8) (k := .i64) (N := 2) (by kernel_rfl) hn0 hf0
  obtain ⟨x0_0, x0_1, rfl⟩ := len2 hl0
  obtain rfl : cs0 = #[.int .i64 x0_0, .int .i64 x0_1] := by cases cs0; simp_all
  have b0_0 := bounds_i64 (wf0 x0_0 (by simp))
  have b0_1 := bounds_i64 (wf0 x0_1 (by simp))
  have k1 := h1
  have lt1 : ∀ x ∈ p1, x.block < W.heap.size := by obtain ⟨m, hm⟩ := k1; exact DataW.trod_lt m _ _ _ hm
  obtain ⟨cs1, rfl, hs1⟩ := okWide_struct Try.underlying34 (hval 1 34 v1 rfl rfl)
  have hn1 : cs1.toList.length = 2 := by rw [Array.length_toList, hs1]; kernel_rfl
  obtain ⟨fuel1, hf1⟩ := h1
  simp only [Value.cells] at hf1
  obtain ⟨l1, hl1, hc1, wf1⟩ := leaf_ints (n := 8) (k := .i64) (N := 2) (by kernel_rfl) hn1 hf1
  obtain ⟨x1_0, x1_1, rfl⟩ := len2 hl1
  obtain rfl : cs1 = #[.int .i64 x1_0, .int .i64 x1_1] := by cases cs1; simp_all
  have b1_0 := bounds_i64 (wf1 x1_0 (by simp))
  have b1_1 := bounds_i64 (wf1 x1_1 (by simp))
  have k2 := h2
  have lt2 : ∀ x ∈ p2, x.block < W.heap.size := by obtain ⟨m, hm⟩ := k2; exact DataW.trod_lt m _ _ _ hm
  obtain ⟨cs2, rfl, hs2⟩ := okWide_array Try.underlying49 (hval 2 49 v2 rfl rfl)
  have hn2 : cs2.toList.length = 4 := by rw [Array.length_toList, hs2]; kernel_rfl
  obtain ⟨fuel2, hf2⟩ := h2
  simp only [Value.cells] at hf2
  obtain ⟨l2, hl2, hc2, wf2⟩ := leaf_ints (n := 8) (k := .i64) (N := 4) (by kernel_rfl) hn2 hf2
  obtain ⟨x2_0, x2_1, x2_2, x2_3, rfl⟩ := len4 hl2
  obtain rfl : cs2 = #[.int .i64 x2_0, .int .i64 x2_1, .int .i64 x2_2, .int .i64 x2_3] := by cases cs2; simp_all
  have b2_0 := bounds_i64 (wf2 x2_0 (by simp))
  have b2_1 := bounds_i64 (wf2 x2_1 (by simp))
  have b2_2 := bounds_i64 (wf2 x2_2 (by simp))
  have b2_3 := bounds_i64 (wf2 x2_3 (by simp))
  clear hA0 hval0
  refine (zonesSmaller_walk x0_0 x0_1 x1_0 x1_1 x2_0 x2_1 x2_2 x2_3 b2_0 b2_1 b2_2 b2_3 W).mono fun e W' ⟨he, bel⟩ => ?_
  subst he
  exact ⟨_, rfl, _, _, _, [], _, [], hW', trodAll_mk1 (shut_bool Try.underlying4 _), (trodAll_cons_mk (Below.trod laidOut (by kernel_rfl) (of_decide_eq_true (by kernel_rfl)) k0 bel lt0) (trodAll_cons_mk (Below.trod laidOut (by kernel_rfl) (of_decide_eq_true (by kernel_rfl)) k1 bel lt1) (trodAll_cons_mk (Below.trod laidOut (by kernel_rfl) (of_decide_eq_true (by kernel_rfl)) k2 bel lt2) trodAll_mk0))), rfl, bel.frame _, fun h => by cases h⟩

theorem over : Rows.zonesSmallerRow.holds Try.pinned (OpenSpec.ofChange Rows.zonesSmallerSpec) :=
  OpenClaim.holds_of_wide 12 Try.f12 rfl rfl rfl rfl rfl rfl rfl ⟨rfl, rfl, rfl, rfl, rfl⟩ rfl rfl rfl rfl rfl (by kernel_rfl) Try.func12 (by kernel_rfl)
    (of_decide_eq_true (by kernel_rfl)) (by unfold Func.isWrapper; first | (rw [if_pos (by decide +kernel)]; kernel_rfl) | (rw [if_neg (by decide +kernel)]; exact ⟨rfl, rfl⟩))
    (fun os started H enc _ => lifted os started H enc)

/-- The statement. -/
theorem proved : Rows.ZonesSmallerSaid := over
#print axioms proved
end Go.Proofs.Ytnlbfemlclepkaa.zonesSmaller
