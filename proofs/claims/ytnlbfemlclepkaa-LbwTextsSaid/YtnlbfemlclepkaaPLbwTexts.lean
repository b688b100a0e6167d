/-
  Leg before wicket: for every verdict Text gives the words of the reference.
  Conditions: none: every input that the parameter types allow.
-/
import Derived.Test.YtnlbfemlclepkaaLbwLaws
import Derived.Test.YtnlbfemlclepkaaFlat
import Derived.WalkKit
import Derived.ProofKit
import Derived.OpenShut
import Derived.ChangeOld
import Derived.Below
namespace Go.Proofs.Ytnlbfemlclepkaa.lbwTexts
open Go.ChangeShapes Go.WideShapes Go.ChangeAt Go.RowKit Go.Deep
set_option linter.unusedVariables false

theorem own : ownKnob Try.prog.godebug = none := by kernel_rfl
theorem laidOut : laidOutB Try.prog = true := by kernel_rfl

set_option maxRecDepth 100000 in
set_option maxHeartbeats 1000000 in
theorem lifted (os : Os) (started : os.Started) (H : Type) (enc : TypeId × Value → H) :
    ReturnsInHanded {} Try.checked os 5 .any (Rows.lbwTextsSpec.pre6 enc Try.prog Try.f5 Rows.lbwTextsRow.domain false) (Rows.lbwTextsSpec.post enc Try.prog Try.f5 false true false false) := by
  refine returnsInHanded_of_change (C := Try.checked) own started (by kernel_rfl) Try.func5
    (ChangeSpec.witness6 (enc := enc) (C := Try.checked) false ⟨#[], #[.agg #[.int .u8 0, .int .u8 0, .int .u8 0, .int .u8 0]], []⟩ 8 (by kernel_rfl) (by kernel_rfl) (by kernel_rfl) (by kernel_rfl)) ?_
  intro W base args ds gs before hval0 hW hcnd _
  have hval : ∀ (j : Nat) t v, Try.f5.params[j]? = some t → args[j]? = some v → Value.okWide Try.prog W .any base t v := hval0
  have hW' := hW
  obtain ⟨p, q, hA0, hV, rfl, hfz, hnd⟩ := hW
  have hA : DataW.TrodAll enc Try.prog W 0 (fun _ => true) true Try.f5.params.toList args.toList ds p := hA0
  rw [Try.params5] at hA hval
  obtain ⟨v0, vs0, d0, ds0, p0, q0, hargs, rfl, rfl, h0, r0⟩ := trodAll_cons hA
  obtain ⟨rfl, rfl, rfl⟩ := trodAll_nil r0
  obtain rfl : args = #[v0] := by cases args; simp_all
  obtain ⟨rfl, rfl⟩ := trodVars_none hV
  have k0 := h0
  have lt0 : ∀ x ∈ p0, x.block < W.heap.size := by obtain ⟨m, hm⟩ := k0; exact DataW.trod_lt m _ _ _ hm
  obtain ⟨cs0, rfl, hs0⟩ := okWide_struct Try.underlying30 (hval 0 30 v0 rfl rfl)
  have hn0 : cs0.toList.length = 4 := by rw [Array.length_toList, hs0]; kernel_rfl
  obtain ⟨fuel0, hf0⟩ := h0
  simp only [Value.cells] at hf0
  obtain ⟨l0, hl0, hc0, wf0⟩ := leaf_ints (n := 8) (k := .u8) (N := 4) (by kernel_rfl) hn0 hf0
  obtain ⟨x0_0, x0_1, x0_2, x0_3, rfl⟩ := len4 hl0
  obtain rfl : cs0 = #[.int .u8 x0_0, .int .u8 x0_1, .int .u8 x0_2, .int .u8 x0_3] := by cases cs0; simp_all
  have b0_0 := bounds_u8 (wf0 x0_0 (by simp))
  have b0_1 := bounds_u8 (wf0 x0_1 (by simp))
  have b0_2 := bounds_u8 (wf0 x0_2 (by simp))
  have b0_3 := bounds_u8 (wf0 x0_3 (by simp))
  clear hA0 hval0
  refine (lbwTexts_walk x0_0 x0_1 x0_2 x0_3 b0_0 b0_1 b0_2 b0_3 W).mono fun e W' ⟨he, bel⟩ => ?_
  subst he
  exact ⟨_, rfl, _, _, _, [], _, [], hW', trodAll_mk1 (shut_bool Try.underlying4 _), (trodAll_cons_mk (Below.trod laidOut (by kernel_rfl) (of_decide_eq_true (by kernel_rfl)) k0 bel lt0) trodAll_mk0), rfl, bel.frame _, fun h => by cases h⟩

theorem over : Rows.lbwTextsRow.holds Try.pinned (OpenSpec.ofChange Rows.lbwTextsSpec) :=
  OpenClaim.holds_of_wide 5 Try.f5 rfl rfl rfl rfl rfl rfl rfl ⟨rfl, rfl, rfl, rfl, rfl⟩ rfl rfl rfl rfl rfl (by kernel_rfl) Try.func5 (by kernel_rfl)
    (of_decide_eq_true (by kernel_rfl)) (by unfold Func.isWrapper; first | (rw [if_pos (by decide +kernel)]; kernel_rfl) | (rw [if_neg (by decide +kernel)]; exact ⟨rfl, rfl⟩))
    (fun os started H enc _ => lifted os started H enc)

/-- The statement. -/
theorem proved : Rows.LbwTextsSaid := over
#print axioms proved
end Go.Proofs.Ytnlbfemlclepkaa.lbwTexts
