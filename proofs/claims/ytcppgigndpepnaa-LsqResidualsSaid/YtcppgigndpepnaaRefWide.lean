/-
  Contracts of the reference's wide numbers: Of, Add, Sub, Neg.
  Conditions: none.
-/
import Derived.Test.YtcppgigndpepnaaLimbs
import Derived.Test.YtcppgigndpepnaaAccept
namespace Go.Proofs.Ytcppgigndpepnaa
open Go.RowKit
set_option maxRecDepth 100000 in
set_option maxHeartbeats 2000000 in
theorem rof_any (n : Int) (h1 : -9223372036854775808 ≤ n) (h2 : n ≤ 9223372036854775807) (w : World) : Calls Try.prog 79 #[.int .i64 n] w fun e w' => e = .returned (.agg #[.int .i64 (n / 18446744073709551616), .int .u64 (n % 18446744073709551616)]) ∧ Below w.heap.size w w' := by
  have g2 : IntKind.u64.wrap n = n % 18446744073709551616 := wrap_u64 n
  rcases Int.lt_or_le n 0 with h | h
  · have e0 : n / 18446744073709551616 = -1 := by omega
    rw [e0]
    clear e0
    go_enter Try.func79, Try.ntmps79
    go_wp2_with fail
    refine bodyPost_ret (v := .agg #[.int .i64 (-1), .int .u64 (n % 18446744073709551616)]) (by simp only [results, Try.results79]; go_simp) rfl ⟨rfl, (by repeat (first | with_reducible exact Below.refl _ _ | with_reducible assumption | with_reducible refine Below.drew ?_ | with_reducible refine Below.setCell ?_ (by first | omega | (simp; omega) | simp) _ | with_reducible refine Below.alloc ?_ (by first | omega | (simp; omega) | simp) _ | with_reducible refine Below.trans ?_ (Below.mono (by with_reducible assumption) (by first | omega | (simp; omega) | simp))))⟩
  · have e0 : n / 18446744073709551616 = 0 := by omega
    rw [e0]
    clear e0
    go_enter Try.func79, Try.ntmps79
    go_wp2_with fail
    refine bodyPost_ret (v := .agg #[.int .i64 0, .int .u64 (n % 18446744073709551616)]) (by simp only [results, Try.results79]; go_simp) rfl ⟨rfl, (by repeat (first | with_reducible exact Below.refl _ _ | with_reducible assumption | with_reducible refine Below.drew ?_ | with_reducible refine Below.setCell ?_ (by first | omega | (simp; omega) | simp) _ | with_reducible refine Below.alloc ?_ (by first | omega | (simp; omega) | simp) _ | with_reducible refine Below.trans ?_ (Below.mono (by with_reducible assumption) (by first | omega | (simp; omega) | simp))))⟩
set_option maxRecDepth 100000 in
set_option maxHeartbeats 4000000 in
theorem radd_c (a al b bl A B S T H h : Int) (gA : IntKind.u64.wrap a = A) (gB : IntKind.u64.wrap b = B) (gS : IntKind.u64.wrap (al + bl) = S) (gT : IntKind.u64.wrap (A + B) = T) (gH : IntKind.u64.wrap (T + 1) = H) (gh0 : wrap64 H = h) (hc : S < al) (w : World) :
    Calls Try.prog 77 #[.agg #[.int .i64 a, .int .u64 al], .agg #[.int .i64 b, .int .u64 bl]] w fun e w' => e = .returned (if (a < 0 ∧ b < 0 ∧ ¬h < 0) ∨ (¬a < 0 ∧ ¬b < 0 ∧ h < 0) then .tuple #[.agg #[.int .i64 0, .int .u64 0], .bool false] else .tuple #[.agg #[.int .i64 h, .int .u64 S], .bool true]) ∧ Below w.heap.size w w' := by
  rcases Classical.em (a < 0) with ga | ga <;> rcases Classical.em (b < 0) with gb | gb <;> rcases Classical.em (h < 0) with gh | gh
  all_goals
    first | rw [if_pos (by omega)] | rw [if_neg (by omega)]
    go_enter Try.func77, Try.ntmps77
    go_wp2_with fail
    first
    | refine bodyPost_ret (v := .tuple #[.agg #[.int .i64 0, .int .u64 0], .bool false]) (by simp only [results, Try.results77]; go_simp) rfl ⟨rfl, (by repeat (first | with_reducible exact Below.refl _ _ | with_reducible assumption | with_reducible refine Below.drew ?_ | with_reducible refine Below.setCell ?_ (by first | omega | (simp; omega) | simp) _ | with_reducible refine Below.alloc ?_ (by first | omega | (simp; omega) | simp) _ | with_reducible refine Below.trans ?_ (Below.mono (by with_reducible assumption) (by first | omega | (simp; omega) | simp))))⟩
    | refine bodyPost_ret (v := .tuple #[.agg #[.int .i64 h, .int .u64 S], .bool true]) (by simp only [results, Try.results77]; go_simp) rfl ⟨rfl, (by repeat (first | with_reducible exact Below.refl _ _ | with_reducible assumption | with_reducible refine Below.drew ?_ | with_reducible refine Below.setCell ?_ (by first | omega | (simp; omega) | simp) _ | with_reducible refine Below.alloc ?_ (by first | omega | (simp; omega) | simp) _ | with_reducible refine Below.trans ?_ (Below.mono (by with_reducible assumption) (by first | omega | (simp; omega) | simp))))⟩
set_option maxRecDepth 100000 in
set_option maxHeartbeats 4000000 in
theorem radd_n (a al b bl A B S T h : Int) (gA : IntKind.u64.wrap a = A) (gB : IntKind.u64.wrap b = B) (gS : IntKind.u64.wrap (al + bl) = S) (gT : IntKind.u64.wrap (A + B) = T) (gh0 : wrap64 T = h) (hc : ¬S < al) (w : World) :
    Calls Try.prog 77 #[.agg #[.int .i64 a, .int .u64 al], .agg #[.int .i64 b, .int .u64 bl]] w fun e w' => e = .returned (if (a < 0 ∧ b < 0 ∧ ¬h < 0) ∨ (¬a < 0 ∧ ¬b < 0 ∧ h < 0) then .tuple #[.agg #[.int .i64 0, .int .u64 0], .bool false] else .tuple #[.agg #[.int .i64 h, .int .u64 S], .bool true]) ∧ Below w.heap.size w w' := by
  rcases Classical.em (a < 0) with ga | ga <;> rcases Classical.em (b < 0) with gb | gb <;> rcases Classical.em (h < 0) with gh | gh
  all_goals
    first | rw [if_pos (by omega)] | rw [if_neg (by omega)]
    go_enter Try.func77, Try.ntmps77
    go_wp2_with fail
    first
    | refine bodyPost_ret (v := .tuple #[.agg #[.int .i64 0, .int .u64 0], .bool false]) (by simp only [results, Try.results77]; go_simp) rfl ⟨rfl, (by repeat (first | with_reducible exact Below.refl _ _ | with_reducible assumption | with_reducible refine Below.drew ?_ | with_reducible refine Below.setCell ?_ (by first | omega | (simp; omega) | simp) _ | with_reducible refine Below.alloc ?_ (by first | omega | (simp; omega) | simp) _ | with_reducible refine Below.trans ?_ (Below.mono (by with_reducible assumption) (by first | omega | (simp; omega) | simp))))⟩
    | refine bodyPost_ret (v := .tuple #[.agg #[.int .i64 h, .int .u64 S], .bool true]) (by simp only [results, Try.results77]; go_simp) rfl ⟨rfl, (by repeat (first | with_reducible exact Below.refl _ _ | with_reducible assumption | with_reducible refine Below.drew ?_ | with_reducible refine Below.setCell ?_ (by first | omega | (simp; omega) | simp) _ | with_reducible refine Below.alloc ?_ (by first | omega | (simp; omega) | simp) _ | with_reducible refine Below.trans ?_ (Below.mono (by with_reducible assumption) (by first | omega | (simp; omega) | simp))))⟩
set_option maxRecDepth 100000 in
set_option maxHeartbeats 4000000 in
theorem rsub_c (a al b bl A B S T H h : Int) (gA : IntKind.u64.wrap a = A) (gB : IntKind.u64.wrap b = B) (gS : IntKind.u64.wrap (al - bl) = S) (gT : IntKind.u64.wrap (A - B) = T) (gH : IntKind.u64.wrap (T - 1) = H) (gh0 : wrap64 H = h) (hc : al < bl) (w : World) :
    Calls Try.prog 90 #[.agg #[.int .i64 a, .int .u64 al], .agg #[.int .i64 b, .int .u64 bl]] w fun e w' => e = .returned (if (a < 0 ∧ ¬b < 0 ∧ ¬h < 0) ∨ (¬a < 0 ∧ b < 0 ∧ h < 0) then .tuple #[.agg #[.int .i64 0, .int .u64 0], .bool false] else .tuple #[.agg #[.int .i64 h, .int .u64 S], .bool true]) ∧ Below w.heap.size w w' := by
  rcases Classical.em (a < 0) with ga | ga <;> rcases Classical.em (b < 0) with gb | gb <;> rcases Classical.em (h < 0) with gh | gh
  all_goals
    first | rw [if_pos (by omega)] | rw [if_neg (by omega)]
    go_enter Try.func90, Try.ntmps90
    go_wp2_with fail
    first
    | refine bodyPost_ret (v := .tuple #[.agg #[.int .i64 0, .int .u64 0], .bool false]) (by simp only [results, Try.results90]; go_simp) rfl ⟨rfl, (by repeat (first | with_reducible exact Below.refl _ _ | with_reducible assumption | with_reducible refine Below.drew ?_ | with_reducible refine Below.setCell ?_ (by first | omega | (simp; omega) | simp) _ | with_reducible refine Below.alloc ?_ (by first | omega | (simp; omega) | simp) _ | with_reducible refine Below.trans ?_ (Below.mono (by with_reducible assumption) (by first | omega | (simp; omega) | simp))))⟩
    | refine bodyPost_ret (v := .tuple #[.agg #[.int .i64 h, .int .u64 S], .bool true]) (by simp only [results, Try.results90]; go_simp) rfl ⟨rfl, (by repeat (first | with_reducible exact Below.refl _ _ | with_reducible assumption | with_reducible refine Below.drew ?_ | with_reducible refine Below.setCell ?_ (by first | omega | (simp; omega) | simp) _ | with_reducible refine Below.alloc ?_ (by first | omega | (simp; omega) | simp) _ | with_reducible refine Below.trans ?_ (Below.mono (by with_reducible assumption) (by first | omega | (simp; omega) | simp))))⟩
set_option maxRecDepth 100000 in
set_option maxHeartbeats 4000000 in
theorem rsub_n (a al b bl A B S T h : Int) (gA : IntKind.u64.wrap a = A) (gB : IntKind.u64.wrap b = B) (gS : IntKind.u64.wrap (al - bl) = S) (gT : IntKind.u64.wrap (A - B) = T) (gh0 : wrap64 T = h) (hc : ¬al < bl) (w : World) :
    Calls Try.prog 90 #[.agg #[.int .i64 a, .int .u64 al], .agg #[.int .i64 b, .int .u64 bl]] w fun e w' => e = .returned (if (a < 0 ∧ ¬b < 0 ∧ ¬h < 0) ∨ (¬a < 0 ∧ b < 0 ∧ h < 0) then .tuple #[.agg #[.int .i64 0, .int .u64 0], .bool false] else .tuple #[.agg #[.int .i64 h, .int .u64 S], .bool true]) ∧ Below w.heap.size w w' := by
  rcases Classical.em (a < 0) with ga | ga <;> rcases Classical.em (b < 0) with gb | gb <;> rcases Classical.em (h < 0) with gh | gh
  all_goals
    first | rw [if_pos (by omega)] | rw [if_neg (by omega)]
    go_enter Try.func90, Try.ntmps90
    go_wp2_with fail
    first
    | refine bodyPost_ret (v := .tuple #[.agg #[.int .i64 0, .int .u64 0], .bool false]) (by simp only [results, Try.results90]; go_simp) rfl ⟨rfl, (by repeat (first | with_reducible exact Below.refl _ _ | with_reducible assumption | with_reducible refine Below.drew ?_ | with_reducible refine Below.setCell ?_ (by first | omega | (simp; omega) | simp) _ | with_reducible refine Below.alloc ?_ (by first | omega | (simp; omega) | simp) _ | with_reducible refine Below.trans ?_ (Below.mono (by with_reducible assumption) (by first | omega | (simp; omega) | simp))))⟩
    | refine bodyPost_ret (v := .tuple #[.agg #[.int .i64 h, .int .u64 S], .bool true]) (by simp only [results, Try.results90]; go_simp) rfl ⟨rfl, (by repeat (first | with_reducible exact Below.refl _ _ | with_reducible assumption | with_reducible refine Below.drew ?_ | with_reducible refine Below.setCell ?_ (by first | omega | (simp; omega) | simp) _ | with_reducible refine Below.alloc ?_ (by first | omega | (simp; omega) | simp) _ | with_reducible refine Below.trans ?_ (Below.mono (by with_reducible assumption) (by first | omega | (simp; omega) | simp))))⟩
end Go.Proofs.Ytcppgigndpepnaa
