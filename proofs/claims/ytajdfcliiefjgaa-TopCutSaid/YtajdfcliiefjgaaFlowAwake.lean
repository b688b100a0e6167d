/-
  The walk of seasonAwake: a round robin of two teams, the number of a day.
  Conditions: none.
-/
import Derived.Test.YtajdfcliiefjgaaFlowMem
namespace Go.Proofs.Ytajdfcliiefjgaa
open Go.RowKit
set_option linter.unusedSimpArgs false
set_option linter.unusedVariables false
theorem World.ownsRow.form2 {w : World} {base size n : Nat} {e : TypeId} {v : Value} {xs : List Value} (h : w.ownsRow base e size v n xs) (hn : 0 < n) : ∃ g cap, v = .slice (some ⟨g, 0, none⟩) n cap ∧ base ≤ g ∧ g < w.heap.size := by
  rcases h.2 with ⟨_, h0⟩ | ⟨g, cap, cur, rfl, h1, h2, _⟩
  · omega
  · exact ⟨g, cap, rfl, h1, (Array.getElem?_eq_some_iff.1 h2).1⟩
theorem leap_1900 (w : World) : Calls Try.prog 19 #[.int .i64 1900] w fun e w' => e = .returned (.bool false) ∧ Below w.heap.size w w' := by
  go_enter Try.func19, Try.ntmps19
  go_wp2_with fail
  go_ret
  exact ⟨rfl, (by repeat (first | with_reducible exact Below.refl _ _ | with_reducible assumption | with_reducible refine Below.drew ?_ | with_reducible refine Below.setCell ?_ (by first | omega | (simp; omega) | simp) _ | with_reducible refine Below.alloc ?_ (by first | omega | (simp; omega) | simp) _ | with_reducible refine Below.trans ?_ (Below.mono (by with_reducible assumption) (by first | omega | (simp; omega) | simp))))⟩
def lenM (m : Int) : Int := if m = 4 ∨ m = 6 ∨ m = 9 ∨ m = 11 then 30 else if m = 2 then 28 else 31
theorem length_1900 (m : Int) (w : World) : Calls Try.prog 17 #[.int .i64 1900, .int .i64 m] w fun e w' => e = .returned (.int .i64 (lenM m)) ∧ Below w.heap.size w w' := by
  go_enter Try.func17, Try.ntmps17
  go_wp2_with (go_at_call 19; refine (leap_1900 _).mono ?_; rintro e w1 ⟨rfl, hb1⟩)
  all_goals
    go_ret
    refine ⟨ret_int ?_, (by repeat (first | with_reducible exact Below.refl _ _ | with_reducible assumption | with_reducible refine Below.drew ?_ | with_reducible refine Below.setCell ?_ (by first | omega | (simp; omega) | simp) _ | with_reducible refine Below.alloc ?_ (by first | omega | (simp; omega) | simp) _ | with_reducible refine Below.trans ?_ (Below.mono (by with_reducible assumption) (by first | omega | (simp; omega) | simp))))⟩
    unfold lenM
    simp_all
theorem day_ex (w : World) : Calls Try.prog 10 #[.int .i64 1900, .int .i64 3, .int .i64 1] w fun e w' => e = .returned (.tuple #[.int .i64 59, .int .i64 0]) ∧ Below w.heap.size w w' := by
  have e1 : lenM 1 = 31 := by decide
  have e2 : lenM 2 = 28 := by decide
  have e3 : lenM 3 = 31 := by decide
  go_enter Try.func10, Try.ntmps10
  go_wp2_with (go_at_call 17; refine (length_1900 _ _).mono ?_; rintro e w1 ⟨rfl, hb1⟩; simp only [e1, e2, e3])
  refine wp_loop_rounds 2 ?_
  rw [rounds_succ]
  go_wp2_with fail
  refine wp_loop_rounds 4 ?_
  rw [rounds_succ]
  go_wp2_with (go_at_call 17; refine (length_1900 _ _).mono ?_; rintro e w2 ⟨rfl, hb2⟩; simp only [e1, e2, e3])
  rw [rounds_succ]
  go_wp2_with (go_at_call 17; refine (length_1900 _ _).mono ?_; rintro e w3 ⟨rfl, hb3⟩; simp only [e1, e2, e3])
  rw [rounds_succ]
  go_wp2_with fail
  go_ret2
  exact ⟨rfl, Below.next (Below.next hb1 (Nat.le_refl _) hb2) (Nat.le_refl _) hb3⟩
theorem add_ex (gn go : Nat) (w : World) (hn : w.heap[gn]? = some (.cells #[.int .i64 2] 3)) (ho : w.heap[go]? = some (.cells #[.slice none 0 0] 39)) (hne : gn < go) :
    Calls Try.prog 16 #[.int .i64 0, .int .i64 0, .int .i64 1, .pointer (some ⟨gn, 0, none⟩), .pointer (some ⟨go, 0, none⟩)] w fun e w' => e = .returned (.tuple #[]) ∧ (∃ p c, w'.heap[go]? = some (.cells #[.slice p 1 c] 39)) ∧ Below go w w' := by
  obtain ⟨i0, hi0, hz0, hz1, hz2⟩ := info_parts (P := Try.prog) (e := 53) (z := .agg #[.int .i64 0, .int .i64 0, .int .i64 0]) (size := 3) (bytes := 24) (by kernel_rfl)
  have n0 := cell_heap (o := 0) hn rfl
  have o0 := cell_heap (o := 0) ho rfl
  have of := frozen_heap (o := 0) ho
  have hlt := (Array.getElem?_eq_some_iff.1 ho).1
  have hO := World.ownsRow_nil w w.heap.size 53 3
  go_enter Try.func16, Try.ntmps16
  go_wp2_with (at_builtin; refine wpList_append_own _ rfl _ _ 39 rfl w.heap.size 53 i0 (.agg #[.int .i64 0, .int .i64 0, .int .i64 0]) 3 24 Try.underlying39 hi0 hz0 hz1 hz2 rfl (by decide) _ _ _ rfl (hO.alloc _) ⟨w.heap.size, 0, none⟩ 1 1 [.int .i64 0, .int .i64 0, .int .i64 1] rfl rfl ?_ (fun x hx => by simp at hx; rcases hx with rfl | rfl <;> rfl) (by decide) (by decide) (by simp) ?_; rotate_left; intro v' w5 ho5 hg5 hnil5; obtain ⟨gv, cv, rfl, hgv, hgv2⟩ := World.ownsRow.form2 ho5 (by decide); have hg6 : (w.alloc (.cells #[.int .i64 0, .int .i64 0, .int .i64 1] 53)).grownBy w5 none := hg5; have hb5 := Below.grown (B := go) ((Below.refl go w).alloc (Nat.le_of_lt hlt) (.cells #[.int .i64 0, .int .i64 0, .int .i64 1] 53)) hg6 (by simp; omega) (fun q hq => by cases hq); have ho6 := (hg6.block go (by simp; omega) (fun q => by cases q)).trans (heap_alloc (X := .cells #[.int .i64 0, .int .i64 0, .int .i64 1] 53) ho); have k0 := cell_heap (o := 0) ho6 rfl; have kf := frozen_heap (o := 0) ho6)
  · go_end0
    exact ⟨rfl, ⟨_, _, heap_set (o := 0) ho6⟩, Below.setCell hb5 (Nat.le_refl _) _⟩
  · intro j u hu
    rw [Addr.add_lit, Nat.zero_add]
    exact cell_heap (heap_new w (.cells #[.int .i64 0, .int .i64 0, .int .i64 1] 53) rfl) (by simpa using hu)
theorem rounds_ex (w : World) : Calls Try.prog 9 #[.int .i64 2, .bool false] w fun e w' => (∃ p c, e = .returned (.tuple #[.slice p 1 c, .int .i64 0])) ∧ Below w.heap.size w w' := by
  have hmf : ∀ (fn : Fn) (first cap : Array Value) (w : World), (Instr.makeFunc fn first cap).run Try.prog w = .ok (.func fn first cap) w := fun _ _ _ _ => rfl
  go_enter Try.func9, Try.ntmps9
  go_wp2_with fail
  refine wp_loop_rounds 3 ?_
  rw [rounds_succ]
  go_wp2_with (go_at_call 16; refine (add_ex w.heap.size (w.heap.size + 1) _ (heap_alloc (heap_new w _ rfl)) (heap_new (w.alloc (.cells #[.int .i64 2] 3)) _ (by simp)) (by omega)).mono ?_; rintro e w1 ⟨rfl, ⟨p, c, ho⟩, hb1⟩; have o0 := cell_heap (o := 0) ho rfl)
  refine wp_loop_rounds 2 ?_
  rw [rounds_succ]
  go_wp2_with fail
  rw [rounds_succ]
  go_wp2_with fail
  go_ret2
  exact ⟨⟨_, _, rfl⟩, Below.trans (Below.alloc (Below.alloc (Below.refl _ _) (Nat.le_refl _) _) (by simp) _) (hb1.mono (by simp))⟩
theorem seasonAwake_any (w : World) : Calls Try.prog 4 #[] w fun e w' => e = .returned (.bool true) ∧ Below w.heap.size w w' := by
  go_enter Try.func4, Try.ntmps4
  go_wp2_with (first
    | (go_at_call 9; refine (rounds_ex _).mono ?_; rintro e w1 ⟨⟨p, c, rfl⟩, hb1⟩)
    | (go_at_call 10; refine (day_ex _).mono ?_; rintro e w2 ⟨rfl, hb2⟩))
  go_ret
  exact ⟨rfl, Below.next hb1 (Nat.le_refl _) hb2⟩
end Go.Proofs.Ytajdfcliiefjgaa
