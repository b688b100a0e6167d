/-
  Contracts and laws, merged: Scale2 RegionHA Raised.
  Conditions: none.
-/
import Derived.Test.YtmdledlbkdcmnaaM14
import Derived.Deep.RegionWith
import Derived.Test.YtmdledlbkdcmnaaM3
set_option linter.unusedSimpArgs false
set_option linter.unusedVariables false
/-
  Contract of wide.Scale for numbers of either sign.
  Conditions: none.
-/
namespace Go.Proofs.Ytmdledlbkdcmnaa
open Go.RowKit
set_option maxRecDepth 100000 in
set_option maxHeartbeats 2000000 in
theorem size2_pos (x : Int) (h1 : 0 ≤ x) (h2 : x < 170141183460469231731687303715884105728) (w : World) : Calls Try.prog 113 #[.agg #[.int .i64 (x / 18446744073709551616), .int .u64 (x % 18446744073709551616)]] w fun e w' => e = .returned (.tuple #[.int .u64 (x / 18446744073709551616), .int .u64 (x % 18446744073709551616), .bool false]) ∧ Below w.heap.size w w' := by
  have g1 : 0 ≤ x / 18446744073709551616 := by omega
  have g2 : IntKind.u64.wrap (x / 18446744073709551616) = x / 18446744073709551616 := by rw [wrap_u64]; omega
  go_enter Try.func113, Try.ntmps113
  go_wp2_with fail
  have hl := @Later.cell
  refine region_later (by kernel_rfl) (by kernel_rfl) ?_; (repeat (go_big_quiet_step (fail))); refine wpQuiet_nil ?_; rintro _ ⟨x, rfl⟩; obtain ⟨w', hb⟩ := x; (try clear hc hf); (try clear hcM hfM); (try clear hcN hfN); (first | ((first | replace hB := Below.next hB (Nat.le_refl _) hb | replace hB := Below.next1 hB (Nat.le_refl _) hb | replace hB := Below.next2 hB (Nat.le_refl _) hb); (first | replace hM := Below.next hM (Nat.le_refl _) hb | replace hM := Below.next1 hM (Nat.le_refl _) hb | replace hM := Below.next2 hM (Nat.le_refl _) hb); (first | replace hN := Below.next hN (Nat.le_refl _) hb | replace hN := Below.next1 hN (Nat.le_refl _) hb | replace hN := Below.next2 hN (Nat.le_refl _) hb)) | ((first | replace hB := Below.next hB (Nat.le_refl _) hb | replace hB := Below.next1 hB (Nat.le_refl _) hb | replace hB := Below.next2 hB (Nat.le_refl _) hb); (first | replace hM := Below.next hM (Nat.le_refl _) hb | replace hM := Below.next1 hM (Nat.le_refl _) hb | replace hM := Below.next2 hM (Nat.le_refl _) hb); have hN := Below.mid hb) | ((first | replace hB := Below.next hB (Nat.le_refl _) hb | replace hB := Below.next1 hB (Nat.le_refl _) hb | replace hB := Below.next2 hB (Nat.le_refl _) hb); (first | replace hM := Below.next hM (Nat.le_refl _) hb | replace hM := Below.next1 hM (Nat.le_refl _) hb | replace hM := Below.next2 hM (Nat.le_refl _) hb)) | ((first | replace hB := Below.next hB (Nat.le_refl _) hb | replace hB := Below.next1 hB (Nat.le_refl _) hb | replace hB := Below.next2 hB (Nat.le_refl _) hb); have hM := Below.mid hb) | (first | replace hB := Below.next hB (Nat.le_refl _) hb | replace hB := Below.next1 hB (Nat.le_refl _) hb | replace hB := Below.next2 hB (Nat.le_refl _) hb) | have hB := hb); obtain ⟨hc, hf, hz⟩ := after hB; (try (have hq := after hM; obtain ⟨hcM, hfM, hzM⟩ := hq)); (try (have hq := after hN; obtain ⟨hcN, hfN, hzN⟩ := hq)); have hs := hb.size; (try simp at hz); (try simp at hs)
  go_wp2_with fail
  refine bodyPost_ret (v := .tuple #[.int .u64 (x / 18446744073709551616), .int .u64 (x % 18446744073709551616), .bool false]) (by simp only [results, Try.results113]; go_simp) rfl ⟨rfl, Below.next1 (Below.refl _ _) (Nat.le_refl _) hb⟩
set_option maxRecDepth 100000 in
set_option maxHeartbeats 2000000 in
theorem size2_neg (x : Int) (h1 : x < 0) (h2 : -170141183460469231731687303715884105728 ≤ x) (w : World) : Calls Try.prog 113 #[.agg #[.int .i64 (x / 18446744073709551616), .int .u64 (x % 18446744073709551616)]] w fun e w' => e = .returned (.tuple #[.int .u64 (-x / 18446744073709551616), .int .u64 (-x % 18446744073709551616), .bool true]) ∧ Below w.heap.size w w' := by
  have g1 : x / 18446744073709551616 < 0 := by omega
  have g2 : IntKind.u64.wrap (x / 18446744073709551616) = 18446744073709551616 + x / 18446744073709551616 := by rw [wrap_u64]; omega
  have n1 := not_u64 (x := x % 18446744073709551616) (by omega) (by omega)
  have n2 := not_u64 (x := 18446744073709551616 + x / 18446744073709551616) (by omega) (by omega)
  have k1 := add64_0 (18446744073709551615 - x % 18446744073709551616) 1 (by omega) (by omega) (by omega) (by omega)
  have k2 := add64 (18446744073709551615 - (18446744073709551616 + x / 18446744073709551616)) 0 ((18446744073709551615 - x % 18446744073709551616 + 1) / 18446744073709551616) (by omega) (by omega) (by omega) (by omega) (by omega) (by omega)
  rw [Int.add_zero] at k2
  have e1 : (18446744073709551615 - x % 18446744073709551616 + 1) % 18446744073709551616 = -x % 18446744073709551616 := by omega
  have e2 : (18446744073709551615 - (18446744073709551616 + x / 18446744073709551616) + (18446744073709551615 - x % 18446744073709551616 + 1) / 18446744073709551616) % 18446744073709551616 = -x / 18446744073709551616 := by omega
  rw [e1] at k1
  rw [e2] at k2
  have K1 := Lib.hid k1
  have K2 := Lib.hid k2
  clear k1 k2 e1 e2
  go_enter Try.func113, Try.ntmps113
  go_wp2_with fail
  have hl := @Later.cell
  refine region_later (by kernel_rfl) (by kernel_rfl) ?_; (repeat (go_big_quiet_step (fail))); refine wpQuiet_nil ?_; rintro _ ⟨x, rfl⟩; obtain ⟨w', hb⟩ := x; (try clear hc hf); (try clear hcM hfM); (try clear hcN hfN); (first | ((first | replace hB := Below.next hB (Nat.le_refl _) hb | replace hB := Below.next1 hB (Nat.le_refl _) hb | replace hB := Below.next2 hB (Nat.le_refl _) hb); (first | replace hM := Below.next hM (Nat.le_refl _) hb | replace hM := Below.next1 hM (Nat.le_refl _) hb | replace hM := Below.next2 hM (Nat.le_refl _) hb); (first | replace hN := Below.next hN (Nat.le_refl _) hb | replace hN := Below.next1 hN (Nat.le_refl _) hb | replace hN := Below.next2 hN (Nat.le_refl _) hb)) | ((first | replace hB := Below.next hB (Nat.le_refl _) hb | replace hB := Below.next1 hB (Nat.le_refl _) hb | replace hB := Below.next2 hB (Nat.le_refl _) hb); (first | replace hM := Below.next hM (Nat.le_refl _) hb | replace hM := Below.next1 hM (Nat.le_refl _) hb | replace hM := Below.next2 hM (Nat.le_refl _) hb); have hN := Below.mid hb) | ((first | replace hB := Below.next hB (Nat.le_refl _) hb | replace hB := Below.next1 hB (Nat.le_refl _) hb | replace hB := Below.next2 hB (Nat.le_refl _) hb); (first | replace hM := Below.next hM (Nat.le_refl _) hb | replace hM := Below.next1 hM (Nat.le_refl _) hb | replace hM := Below.next2 hM (Nat.le_refl _) hb)) | ((first | replace hB := Below.next hB (Nat.le_refl _) hb | replace hB := Below.next1 hB (Nat.le_refl _) hb | replace hB := Below.next2 hB (Nat.le_refl _) hb); have hM := Below.mid hb) | (first | replace hB := Below.next hB (Nat.le_refl _) hb | replace hB := Below.next1 hB (Nat.le_refl _) hb | replace hB := Below.next2 hB (Nat.le_refl _) hb) | have hB := hb); obtain ⟨hc, hf, hz⟩ := after hB; (try (have hq := after hM; obtain ⟨hcM, hfM, hzM⟩ := hq)); (try (have hq := after hN; obtain ⟨hcN, hfN, hzN⟩ := hq)); have hs := hb.size; (try simp at hz); (try simp at hs)
  go_wp2_with (first | simp only [K1.out] | simp only [K2.out])
  refine bodyPost_ret (v := .tuple #[.int .u64 (-x / 18446744073709551616), .int .u64 (-x % 18446744073709551616), .bool true]) (by simp only [results, Try.results113]; go_simp) rfl ⟨rfl, (by repeat (first | with_reducible exact Below.refl _ _ | with_reducible assumption | with_reducible refine Below.drew ?_ | with_reducible refine Below.setCell ?_ (by first | omega | (simp; omega) | simp) _ | with_reducible refine Below.alloc ?_ (by first | omega | (simp; omega) | simp) _ | with_reducible refine Below.trans ?_ (Below.mono (by with_reducible assumption) (by first | omega | (simp; omega) | simp))))⟩
theorem size2_any (x : Int) (h1 : -170141183460469231731687303715884105728 ≤ x) (h2 : x < 170141183460469231731687303715884105728) (w : World) : Calls Try.prog 113 #[.agg #[.int .i64 (x / 18446744073709551616), .int .u64 (x % 18446744073709551616)]] w fun e w' => e = .returned (.tuple #[.int .u64 ((x.natAbs : Int) / 18446744073709551616), .int .u64 ((x.natAbs : Int) % 18446744073709551616), .bool (decide (x < 0))]) ∧ Below w.heap.size w w' := by
  rcases Int.lt_or_le x 0 with h | h
  · rw [Int.ofNat_natAbs_of_nonpos (by omega), decide_eq_true h]; exact size2_neg x h h1 w
  · rw [Int.natAbs_of_nonneg h, decide_eq_false (by omega)]; exact size2_pos x h h2 w
set_option maxRecDepth 100000 in
set_option maxHeartbeats 2000000 in
/-- Where the product fits. -/
theorem scale_any (x n : Int) (h1 : -170141183460469231731687303715884105728 < x) (h2 : x < 170141183460469231731687303715884105728) (n1 : -9223372036854775808 ≤ n) (n2 : n ≤ 9223372036854775807) (hp : -170141183460469231731687303715884105728 < x * n) (hq : x * n < 170141183460469231731687303715884105728) (w : World) : Calls Try.prog 86 #[.agg #[.int .i64 (x / 18446744073709551616), .int .u64 (x % 18446744073709551616)], .int .i64 n] w fun e w' => e = .returned (.tuple #[.agg #[.int .i64 (x * n / 18446744073709551616), .int .u64 (x * n % 18446744073709551616)], .bool true]) ∧ Below w.heap.size w w' := by
  have hs := size2_any x (by omega) h2
  have hw := word_any n n1 n2
  have hm := abs_mul x n
  have hmade : ∀ w, Calls Try.prog 83 #[.int .u64 ((x.natAbs : Int) * (n.natAbs : Int) / 18446744073709551616), .int .u64 ((x.natAbs : Int) * (n.natAbs : Int) % 18446744073709551616), .bool (decide (x < 0) != decide (n < 0))] w fun e w' => e = .returned (.tuple #[.agg #[.int .i64 (x * n / 18446744073709551616), .int .u64 (x * n % 18446744073709551616)], .bool true]) ∧ Below w.heap.size w w' := by
    intro w
    have b0 : 0 ≤ (x.natAbs : Int) * (n.natAbs : Int) := Int.mul_nonneg (by omega) (by omega)
    rw [hm] at b0 ⊢
    cases hs : (decide (x < 0) != decide (n < 0))
    · rw [hs] at b0
      simp only [Bool.false_eq_true, if_false] at b0 ⊢
      have := made_pos (x * n) (by omega) (by omega) w
      rwa [if_pos (by omega)] at this
    · rw [hs] at b0
      simp only [if_true] at b0 ⊢
      have := made_neg (-(x * n)) (by omega) (by omega) w
      rwa [Int.neg_neg] at this
  have hP : (x.natAbs : Int) * (n.natAbs : Int) < 170141183460469231731687303715884105728 := by rw [hm]; split <;> omega
  have x0 : (0 : Int) ≤ (x.natAbs : Int) := by omega
  have x1 : (x.natAbs : Int) < 170141183460469231731687303715884105728 := by omega
  have y0 : (0 : Int) ≤ (n.natAbs : Int) := by omega
  have y1 : (n.natAbs : Int) ≤ 9223372036854775808 := by omega
  clear hm hp hq h1 h2 n1 n2
  generalize x * n = R at *
  generalize (x.natAbs : Int) = A at *
  generalize (n.natAbs : Int) = B at *
  generalize decide (x < 0) = p at *
  generalize decide (n < 0) = q at *
  have hx : A * B = (A / 18446744073709551616 * B) * 18446744073709551616 + A % 18446744073709551616 * B := by
    have h := Int.mul_ediv_add_emod A 18446744073709551616
    have h' : A = A / 18446744073709551616 * 18446744073709551616 + A % 18446744073709551616 := by omega
    have : A * B = (A / 18446744073709551616 * 18446744073709551616 + A % 18446744073709551616) * B := by rw [← h']
    rw [this]
    grind
  have p0 := mul_bd (A := 18446744073709551615) (B := 9223372036854775808) (a := A % 18446744073709551616) (b := B) (by omega) (by omega) (by omega) (by omega)
  have p0' : 0 ≤ A % 18446744073709551616 * B := Int.mul_nonneg (by omega) y0
  have p1' : 0 ≤ A / 18446744073709551616 * B := Int.mul_nonneg (by omega) y0
  have mm : ∀ w, Calls Try.prog 82 #[.int .u64 (A % 18446744073709551616), .int .u64 B] w fun e w' => e = .returned (.tuple #[.int .u64 (A % 18446744073709551616 * B / 18446744073709551616), .int .u64 (A % 18446744073709551616 * B % 18446744073709551616)]) ∧ w = w' := fun w => mul64 _ _ (by omega) (by omega) y0 (by omega) w
  have mn : ∀ w, Calls Try.prog 82 #[.int .u64 (A / 18446744073709551616), .int .u64 B] w fun e w' => e = .returned (.tuple #[.int .u64 (A / 18446744073709551616 * B / 18446744073709551616), .int .u64 (A / 18446744073709551616 * B % 18446744073709551616)]) ∧ w = w' := fun w => mul64 _ _ (by omega) (by omega) y0 (by omega) w
  generalize A / 18446744073709551616 * B = P1 at *
  generalize A % 18446744073709551616 * B = P0 at *
  generalize A * B = m at *
  have e1 : P1 / 18446744073709551616 = 0 := by omega
  have e2 : P1 % 18446744073709551616 = P1 := by omega
  have e5 : P0 % 18446744073709551616 = m % 18446744073709551616 := by omega
  rw [e5] at mm
  rw [e1, e2] at mn
  have k1 := add64_0 P1 (P0 / 18446744073709551616) p1' (by omega) (by omega) (by omega)
  rw [show (P1 + P0 / 18446744073709551616) % 18446744073709551616 = m / 18446744073709551616 by omega, show (P1 + P0 / 18446744073709551616) / 18446744073709551616 = 0 by omega] at k1
  have HS := Lib.hid hs
  have HW := Lib.hid hw
  have K1 := Lib.hid k1
  have HM := Lib.hid hmade
  have M0 := Lib.hid mm
  have M1 := Lib.hid mn
  clear hs hw k1 hmade mm mn p0 hx e1 e2 e5 x0 x1 y0 y1
  generalize hX0 : A / 18446744073709551616 = X1 at *
  generalize hX1 : A % 18446744073709551616 = X0 at *
  clear hX0 hX1
  go_enter Try.func86, Try.ntmps86
  go_wp2_with (first
    | simp only [K1.out]
    | (go_at_call 113; refine (HS.out _).mono ?_; rintro e v1 ⟨rfl, hv1⟩; have hK1 : Below w.heap.size w v1 := Below.trans (by repeat (first | exact Below.refl _ _ | refine Below.alloc ?_ (by first | omega | (simp; omega) | simp) _)) (hv1.mono (by first | (simp; done) | (simp; omega))); have hR := heap_old hv1 (b := w.heap.size + 1) (o := .cells #[.int .i64 0, .int .u64 0] 75) (by repeat (first | with_reducible refine heap_new _ _ (by first | omega | (simp; done) | (simp; omega)) | with_reducible apply heap_alloc)))
    | (go_at_call 81; refine (HW.out _).mono ?_; rintro e w' ⟨rfl, rfl⟩)
    | (go_at_call_of 82 (X0); refine (M0.out _).mono ?_; rintro e w' ⟨rfl, rfl⟩)
    | (go_at_call_of 82 (X1); refine (M1.out _).mono ?_; rintro e w' ⟨rfl, rfl⟩)
    | (go_at_call 83; refine (HM.out _).mono ?_; rintro e v2 ⟨rfl, hv2⟩; have hq1 := hv1.size; simp at hq1; have hK2 := Below.next hK1 (Nat.le_refl _) hv2; replace hR := heap_old hv2 hR; have r0 := cell_heap (o := 0) hR rfl; have r1 := cell_heap (o := 1) hR rfl; have rf := frozen_heap (o := 0) hR; have rg := frozen_heap (o := 1) hR))
  refine bodyPost_ret (v := .tuple #[.agg #[.int .i64 (R / 18446744073709551616), .int .u64 (R % 18446744073709551616)], .bool true]) (by simp only [results, Try.results86]; go_simp) rfl ⟨rfl, (by repeat (first | with_reducible exact Below.refl _ _ | with_reducible assumption | with_reducible refine Below.drew ?_ | with_reducible refine Below.setCell ?_ (by first | omega | (simp; omega) | simp) _ | with_reducible refine Below.alloc ?_ (by first | omega | (simp; omega) | simp) _ | with_reducible refine Below.trans ?_ (Below.mono (by with_reducible assumption) (by first | omega | (simp; omega) | simp))))⟩
end Go.Proofs.Ytmdledlbkdcmnaa

/-
  A region that draws its order, with an alloc that floats and a reading operation that may come up before or behind the first of the tail.
  Conditions: none.
-/
namespace Go.Proofs.Ytmdledlbkdcmnaa
open Go Go.RowKit
section
variable {P : Program} {Q : Exit → Act → World → Prop}
def genHAB (ops : Array Oper) (l0 : Array Bool) (n m p q : Nat) (hs ts : List Nat) (os : List Oper) : Bool :=
  Region.noSelect ops && decide (n < ops.size) && !l0.getD n false && decide (l0.size = ops.size) && headH .any ops l0 n [q] && tailB .any ops l0 n && dstB m os && (hs.all fun i => ![q].contains i)
    && (decide (p < n) && (decide (q < n) && headL .any ops n (fun listed => decide (Region.ready .any ops listed = [q, p]) && (decide (Region.ready .any ops (listed.setIfInBounds q true) = [p])
      && (seqL .any ops (n :: ts) ((listed.setIfInBounds q true).setIfInBounds p true) && (((Region.ready .any ops ((listed.setIfInBounds q true).setIfInBounds p true)).all fun j => decide (n ≤ j)) && floatB ops n ts [q] (listed.setIfInBounds p true))))) hs l0))
/-- The region whole: the head hs, then p (which makes a block), q and n, where only n waits for p, then ts. -/
theorem region_genHA {id : Nat} {l : List Oper} {a : Act} {w : World} {aM : Act} {o oq : Oper} {obj : Obj} (n p q : Nat) (hs ts : List Nat) (hm : P.follows .mixedOrders = true)
    (hS : l.length = hs.length + 2 + (ts.length + 1))
    (hB : genHAB l.toArray (Array.replicate l.length false) n a.tmps.size p q hs ts (pickO l hs) = true)
    (hQ : ∀ c (a : Act) (d : Tmp) v w, Q (.panic c) (a.put (some d) v) w → Q (.panic c) a w)
    (ho : l[p]? = some o) (hg : o.guard = none) (hal : ∀ (a : Act) (W : World), (execOp a.eval o).run P W = .ok (.value (.pointer (some ⟨W.heap.size, 0, none⟩))) (W.alloc obj))
    (hoq : l[q]? = some oq) (hgq : oq.guard = none)
    (h : ∀ L : Act → Prop, L aM → ∀ W1, After w W1 → wpQuiet P l.toArray (fun w' => ∃ x : Later W1, w' = x.1) L (pickO l hs) a)
    (v : Value) (hv0 : ∀ W, (execOp aM.eval oq).run P W = .ok (.value v) W) (hv : ∀ x W, (execOp (aM.put o.dst x).eval oq).run P W = .ok (.value v) W)
    (hne : ∀ x, (aM.put oq.dst v).put o.dst x = (aM.put o.dst x).put oq.dst v)
    (t1 : ∀ k W2, w.heap.size ≤ k → After w W2 → W2.heap[k]? = some obj → wpList P l.toArray Q (pickO l (n :: ts)) ((aM.put o.dst (.pointer (some ⟨k, 0, none⟩))).put oq.dst v) W2)
    (t2 : ∀ k W2, w.heap.size ≤ k → After w W2 → W2.heap[k]? = some obj → wpList P l.toArray Q (pickO l (n :: q :: ts)) (aM.put o.dst (.pointer (some ⟨k, 0, none⟩))) W2) : (Code.region id l.toArray true).wp P Q a w := by
  refine wp_region_any hm ?_
  simp only [genHAB, Bool.and_eq_true, decide_eq_true_eq, Bool.not_eq_true'] at hB
  obtain ⟨⟨⟨⟨⟨⟨⟨⟨hsel, hn⟩, hn0⟩, hsz⟩, hh⟩, ht⟩, hD⟩, hq⟩, hpn, hqn, hL⟩ := hB
  have hop : l.toArray[p]? = some o := by simpa using ho
  have hoq' : l.toArray[q]? = some oq := by simpa using hoq
  have H := wpAnyH_lex (P := P) (Q := Q) (md := .any) (f := 2) (g := ts.length + 1) (aF := aM)
    (L := fun listed a W => seqL .any l.toArray (n :: ts) listed = true ∧ ((Region.ready .any l.toArray listed).all fun j => decide (n ≤ j)) = true ∧ ∀ W2, After W W2 → wpList P l.toArray Q (pickO l (n :: ts)) a W2)
    hsel hh ht hn hn0 hQ (fun l a W W' hW hl => ⟨hl.1, hl.2.1, fun W2 h2 => hl.2.2 W2 (hW.trans h2)⟩)
    (fun listed a W hl j hj => of_decide_eq_true (List.all_eq_true.1 hl.2.1 j hj)) hs (Array.replicate l.length false) a { w with drawn := w.drawn + 1 } rfl (headU0 hsz) hL (by simpa using hq) hD
    (fun W1 h1 => h (fun a' => a' = aM) rfl W1 (after_drew h1))
    (fun listed' hk _ => by
      simp only [Bool.and_eq_true, decide_eq_true_eq] at hk
      obtain ⟨hr, hr2, hk1, hk2, hF⟩ := hk
      refine ⟨fun h0 => (by rw [hr] at h0; cases h0), fun i hi => ?_⟩
      rw [hr] at hi
      have hi2 : i = q ∨ i = p := by simpa using hi
      rcases hi2 with rfl | rfl
      · refine .inl ⟨hqn, fun W hW => ?_⟩
        unfold wpOp
        simp only [hoq']
        rw [if_pos (by simp [Region.wanted, hgq])]
        left
        unfold Oper.wp
        rw [hv0]
        refine ⟨After.refl _, fun h0 => (by rw [hr2] at h0; cases h0), fun j hj => ?_⟩
        rw [hr2] at hj
        have hjp : j = p := by simpa using hj
        subst hjp
        refine .inl ⟨hpn, fun W' hW' => ?_⟩
        unfold wpOp
        simp only [hop]
        rw [if_pos (by simp [Region.wanted, hg])]
        left
        unfold Oper.wp
        rw [hal]
        have hA : After W' (W'.alloc obj) := Below.alloc (Below.refl _ _) (Nat.le_refl _) _
        refine ⟨hA, hk1, hk2, fun W2 h2 => ?_⟩
        have hww : After w W' := (after_drew (hW.trans hW'))
        have e := t1 W'.heap.size W2 hww.size ((hww.trans hA).trans h2) (heap_old h2 (heap_new W' obj (b := W'.heap.size) rfl))
        rw [← hne] at e
        exact e
      · refine .inl ⟨hpn, fun W hW => ?_⟩
        unfold wpOp
        simp only [hop]
        rw [if_pos (by simp [Region.wanted, hg])]
        left
        unfold Oper.wp
        rw [hal]
        have hA : After W (W.alloc obj) := Below.alloc (Below.refl _ _) (Nat.le_refl _) _
        have hww : After w W := (after_drew hW)
        refine ⟨hA, ?_⟩
        refine wpFl_any (w := W.alloc obj) (fun listed a W h1 h2 h3 => ⟨h1, h2, h3⟩) [q] _ _ (W.alloc obj) (After.refl _) hF ?_
        exact ⟨fun W2 h2 => t2 W.heap.size W2 hww.size ((hww.trans hA).trans h2) (heap_old h2 (heap_new W obj (b := W.heap.size) rfl)), oq, v, hoq, hgq, fun W' _ => hv _ W', fun W2 h2 => t1 W.heap.size W2 hww.size ((hww.trans hA).trans h2) (heap_old h2 (heap_new W obj (b := W.heap.size) rfl))⟩)
  have G := wpAnyV.any (g := ts.length + 1) (fun l' a' W hl => wpAny_seqL (n :: ts) l' a' W hl.1 (hl.2.2 W (After.refl _))) _ _ _ _ H
  have e : l.toArray.size = hs.length + 2 + (ts.length + 1) := by simpa using hS
  rw [← e] at G
  simpa using G
end
end Go.Proofs.Ytmdledlbkdcmnaa

/-
  Contracts of the statement's least and raised.
  Conditions: none.
-/
namespace Go.Proofs.Ytmdledlbkdcmnaa
open Go.RowKit
set_option linter.unusedSimpArgs false
theorem cmp_le (x y : Int) : decide (cmpV x y ≤ 0) = decide (x ≤ y) := by
  unfold cmpV
  split
  · rw [decide_eq_true (by omega), decide_eq_true (by omega)]
  · split
    · rw [decide_eq_true (by omega), decide_eq_true (by omega)]
    · rw [decide_eq_false (by omega), decide_eq_false (by omega)]
theorem ret_b {w w' : World} {a b : Bool} (h1 : a = b) (hb : Below w.heap.size w w') : Ending.returned (.bool a) = .returned (.bool b) ∧ Below w.heap.size w w' := ⟨by rw [h1], hb⟩
set_option maxRecDepth 100000 in
set_option maxHeartbeats 4000000 in
theorem least_any (a n y b : Int) (a1 : -9223372036854775808 ≤ a) (a2 : a ≤ 9223372036854775807) (n1 : -9223372036854775808 ≤ n) (n2 : n ≤ 9223372036854775807) (y1 : -9223372036854775808 ≤ y) (y2 : y ≤ 9223372036854775807) (p1 : -170141183460469231731687303715884105728 < a * n) (p2 : a * n < 170141183460469231731687303715884105728) (q1 : -170141183460469231731687303715884105728 < a * n * y) (q2 : a * n * y < 170141183460469231731687303715884105728) (w : World) :
    Calls Try.prog 44 #[.int .i64 a, .int .i64 n, .int .i64 y, .agg #[.int .i64 (b / 18446744073709551616), .int .u64 (b % 18446744073709551616)]] w fun e w' => e = .returned (.bool (decide (a * n * y ≤ b))) ∧ Below w.heap.size w w' := by
  have hm := Lib.hid (fun w => mul_any a n a1 a2 n1 n2 w)
  have hs := Lib.hid (fun w => scale_any (a * n) y p1 p2 y1 y2 q1 q2 w)
  have hc := Lib.hid (fun w => cmp_any (a * n * y) b w)
  have hd := Lib.hid (cmp_le (a * n * y) b)
  clear p1 p2 q1 q2
  generalize decide (a * n * y ≤ b) = res at *
  generalize cmpV (a * n * y) b = c at *
  generalize a * n * y / 18446744073709551616 = x0 at *
  generalize a * n * y % 18446744073709551616 = x1 at *
  generalize a * n / 18446744073709551616 = u0 at *
  generalize a * n % 18446744073709551616 = u1 at *
  generalize b / 18446744073709551616 = b0 at *
  generalize b % 18446744073709551616 = b1 at *
  go_enter Try.func44, Try.ntmps44
  go_wp2_with (first
    | (go_at_call 41; refine (hm.out _).mono ?_; rintro e w1 ⟨rfl, k1⟩; have hR := heap_old k1 (heap_new w (.cells #[.int .i64 b0, .int .u64 b1] 75) rfl); have hK := Below.next1 (Below.refl w.heap.size w) (Nat.le_refl _) k1)
    | (go_at_call 86; refine (hs.out _).mono ?_; rintro e w2 ⟨rfl, k2⟩; replace hR := heap_old k2 hR; replace hK := Below.next hK (Nat.le_refl _) k2; have r0 := cell_heap (o := 0) hR rfl; have r1 := cell_heap (o := 1) hR rfl; have hlt := (Array.getElem?_eq_some_iff.1 hR).1)
    | (go_at_call 87; refine (hc.out _).mono ?_; rintro e w3 ⟨rfl, k3⟩; replace hK := Below.next1 hK (Nat.le_refl _) k3))
  refine bodyPost_ret (v := .bool (decide (c ≤ 0))) (by simp only [results, Try.results44]; go_simp) rfl (ret_b hd.out (by repeat (first | with_reducible exact Below.refl _ _ | with_reducible assumption | with_reducible refine Below.drew ?_ | with_reducible refine Below.setCell ?_ (by first | omega | (simp; omega) | simp) _ | with_reducible refine Below.alloc ?_ (by first | omega | (simp; omega) | simp) _ | with_reducible refine Below.trans ?_ (Below.mono (by with_reducible assumption) (by first | omega | (simp; omega) | simp)))))
set_option maxRecDepth 100000 in
set_option maxHeartbeats 4000000 in
theorem raised_any (t1 t2 y1 y2 lo hi p q r s n d : Int) (hp : 0 ≤ p ∧ p ≤ 8000) (hq : -1099511627776 ≤ q ∧ q ≤ 1099511627776) (hr : 0 ≤ r ∧ r ≤ 8000) (hs : -1099511627776 ≤ s ∧ s ≤ 1099511627776) (hn : 0 ≤ n ∧ n ≤ 2147483648) (hd : 0 < d ∧ d ≤ 1048576) (hl : -400000000000000 ≤ lo ∧ lo ≤ 400000000000000) (hh : -400000000000000 ≤ hi ∧ hi ≤ 400000000000000) (w : World) :
    Calls Try.prog 45 #[.agg #[.int .i64 t1, .int .i64 t2, .int .i64 y1, .int .i64 y2, .int .i64 lo, .int .i64 hi], .agg #[.int .i64 p, .int .i64 q, .int .i64 r, .int .i64 s], .int .i64 n, .int .i64 d] w fun e w' =>
      e = .returned (.bool (decide (lo * (80000 * (r - p)) * (d * d) ≤ (q * (r * d - n) + s * (n - p * d)) * d - n * n * (981 * (r - p))) && decide (-hi * (80000 * (r - p)) * (d * d) ≤ -((q * (r * d - n) + s * (n - p * d)) * d - n * n * (981 * (r - p)))))) ∧ Below w.heap.size w w' := by
  obtain ⟨p1, p2⟩ := hp
  obtain ⟨q1, q2⟩ := hq
  obtain ⟨r1, r2⟩ := hr
  obtain ⟨s1, s2⟩ := hs
  obtain ⟨n1, n2⟩ := hn
  obtain ⟨d1, d2⟩ := hd
  obtain ⟨l1, l2⟩ := hl
  obtain ⟨h1, h2⟩ := hh
  obtain ⟨a1, a2⟩ := mul_bd (A := 8000) (B := 1048576) (a := r) (b := d) (by omega) (by omega) (by omega) (by omega)
  obtain ⟨b1, b2⟩ := mul_bd (A := 8000) (B := 1048576) (a := p) (b := d) (by omega) (by omega) (by omega) (by omega)
  obtain ⟨c1, c2⟩ := mul_bd (A := 1048576) (B := 1048576) (a := d) (b := d) (by omega) (by omega) (by omega) (by omega)
  have bu := mul_bd (A := 1099511627776) (B := 10536091648) (a := q) (b := r * d - n) (by omega) (by omega) (by omega) (by omega)
  have bv := mul_bd (A := 1099511627776) (B := 10536091648) (a := s) (b := n - p * d) (by omega) (by omega) (by omega) (by omega)
  have bn := mul_bd (A := 2147483648) (B := 2147483648) (a := n) (b := n) (by omega) (by omega) (by omega) (by omega)
  have bl := mul_bd (A := 400000000000000) (B := 640000000) (a := lo) (b := 80000 * (r - p)) (by omega) (by omega) (by omega) (by omega)
  have bh := mul_bd (A := 400000000000000) (B := 640000000) (a := -hi) (b := 80000 * (r - p)) (by omega) (by omega) (by omega) (by omega)
  have m1 := Lib.hid (fun w => mul_any q (r * d - n) (by omega) (by omega) (by omega) (by omega) w)
  have m2 := Lib.hid (fun w => mul_any s (n - p * d) (by omega) (by omega) (by omega) (by omega) w)
  have m3 := Lib.hid (fun w => mul_any n n (by omega) (by omega) (by omega) (by omega) w)
  have ad := Lib.hid (fun w => wadd_ok (q * (r * d - n)) (s * (n - p * d)) (by omega) (by omega) (by omega) (by omega) (by omega) (by omega) w)
  have bU := mul_bd (A := 23169117000000000000000) (B := 1048576) (a := q * (r * d - n) + s * (n - p * d)) (b := d) (by omega) (by omega) (by omega) (by omega)
  have bG := mul_bd (A := 4611686018427387904) (B := 7848000) (a := n * n) (b := 981 * (r - p)) (by omega) (by omega) (by omega) (by omega)
  have bL := mul_bd (A := 256000000000000000000000) (B := 1099511627776) (a := lo * (80000 * (r - p))) (b := d * d) (by omega) (by omega) (by omega) (by omega)
  have bH := mul_bd (A := 256000000000000000000000) (B := 1099511627776) (a := -hi * (80000 * (r - p))) (b := d * d) (by omega) (by omega) (by omega) (by omega)
  have sc := Lib.hid (fun w => scale_any (q * (r * d - n) + s * (n - p * d)) d (by omega) (by omega) (by omega) (by omega) (by omega) (by omega) w)
  have sg := Lib.hid (fun w => scale_any (n * n) (981 * (r - p)) (by omega) (by omega) (by omega) (by omega) (by omega) (by omega) w)
  have sb := Lib.hid (fun w => wsub_ok ((q * (r * d - n) + s * (n - p * d)) * d) (n * n * (981 * (r - p))) (by omega) (by omega) (by omega) (by omega) (by omega) (by omega) w)
  have ng := Lib.hid (fun w => wneg_ok ((q * (r * d - n) + s * (n - p * d)) * d - n * n * (981 * (r - p))) (by omega) (by omega) w)
  have le1 := Lib.hid (fun w => least_any lo (80000 * (r - p)) (d * d) ((q * (r * d - n) + s * (n - p * d)) * d - n * n * (981 * (r - p))) (by omega) (by omega) (by omega) (by omega) (by omega) (by omega) (by omega) (by omega) (by omega) (by omega) w)
  have le2 := Lib.hid (fun w => least_any (-hi) (80000 * (r - p)) (d * d) (-((q * (r * d - n) + s * (n - p * d)) * d - n * n * (981 * (r - p)))) (by omega) (by omega) (by omega) (by omega) (by omega) (by omega) (by omega) (by omega) (by omega) (by omega) w)
  clear bu bv bn bl bh bU bG bL bH
  generalize decide (lo * (80000 * (r - p)) * (d * d) ≤ (q * (r * d - n) + s * (n - p * d)) * d - n * n * (981 * (r - p))) = e1 at *
  generalize decide (-hi * (80000 * (r - p)) * (d * d) ≤ -((q * (r * d - n) + s * (n - p * d)) * d - n * n * (981 * (r - p)))) = e2 at *
  generalize (-((q * (r * d - n) + s * (n - p * d)) * d - n * n * (981 * (r - p)))) / 18446744073709551616 = M0 at *
  generalize (-((q * (r * d - n) + s * (n - p * d)) * d - n * n * (981 * (r - p)))) % 18446744073709551616 = M1 at *
  generalize ((q * (r * d - n) + s * (n - p * d)) * d - n * n * (981 * (r - p))) / 18446744073709551616 = V0 at *
  generalize ((q * (r * d - n) + s * (n - p * d)) * d - n * n * (981 * (r - p))) % 18446744073709551616 = V1 at *
  generalize n * n * (981 * (r - p)) / 18446744073709551616 = G0 at *
  generalize n * n * (981 * (r - p)) % 18446744073709551616 = G1 at *
  generalize (q * (r * d - n) + s * (n - p * d)) * d / 18446744073709551616 = D0 at *
  generalize (q * (r * d - n) + s * (n - p * d)) * d % 18446744073709551616 = D1 at *
  generalize (q * (r * d - n) + s * (n - p * d)) / 18446744073709551616 = U0 at *
  generalize (q * (r * d - n) + s * (n - p * d)) % 18446744073709551616 = U1 at *
  generalize q * (r * d - n) / 18446744073709551616 = Q0 at *
  generalize q * (r * d - n) % 18446744073709551616 = Q1 at *
  generalize s * (n - p * d) / 18446744073709551616 = S0 at *
  generalize s * (n - p * d) % 18446744073709551616 = S1 at *
  generalize n * n / 18446744073709551616 = N0 at *
  generalize n * n % 18446744073709551616 = N1 at *
  go_enter Try.func45, Try.ntmps45
  go_wp2_with fail
  have hC := heap_alloc (X := .cells #[.int .i64 p, .int .i64 q, .int .i64 r, .int .i64 s] 24) (heap_new w (.cells #[.int .i64 t1, .int .i64 t2, .int .i64 y1, .int .i64 y2, .int .i64 lo, .int .i64 hi] 70) rfl)
  have hZ := heap_new (w.alloc (.cells #[.int .i64 t1, .int .i64 t2, .int .i64 y1, .int .i64 y2, .int .i64 lo, .int .i64 hi] 70)) (.cells #[.int .i64 p, .int .i64 q, .int .i64 r, .int .i64 s] 24) (b := w.heap.size + 1) (by simp)
  have hK0 : Below w.heap.size w ((w.alloc (.cells #[.int .i64 t1, .int .i64 t2, .int .i64 y1, .int .i64 y2, .int .i64 lo, .int .i64 hi] 70)).alloc (.cells #[.int .i64 p, .int .i64 q, .int .i64 r, .int .i64 s] 24)) := (by repeat (first | with_reducible exact Below.refl _ _ | with_reducible assumption | with_reducible refine Below.drew ?_ | with_reducible refine Below.setCell ?_ (by first | omega | (simp; omega) | simp) _ | with_reducible refine Below.alloc ?_ (by first | omega | (simp; omega) | simp) _ | with_reducible refine Below.trans ?_ (Below.mono (by with_reducible assumption) (by first | omega | (simp; omega) | simp))))
  have hsz : w.heap.size + 2 ≤ ((w.alloc (.cells #[.int .i64 t1, .int .i64 t2, .int .i64 y1, .int .i64 y2, .int .i64 lo, .int .i64 hi] 70)).alloc (.cells #[.int .i64 p, .int .i64 q, .int .i64 r, .int .i64 s] 24)).heap.size := by simp
  generalize (w.alloc (.cells #[.int .i64 t1, .int .i64 t2, .int .i64 y1, .int .i64 y2, .int .i64 lo, .int .i64 hi] 70)).alloc (.cells #[.int .i64 p, .int .i64 q, .int .i64 r, .int .i64 s] 24) = w0 at *
  apply region_genHA 27 26 25 [0, 1, 2, 3, 4, 5, 6, 7, 8, 9, 10, 11, 12, 13, 14, 15, 16, 17, 18, 19, 20, 21, 22, 23, 24] [28]; (case hm => kernel_rfl); (case hS => rfl); (case hB => kernel_rfl); (case hQ => exact fun _ _ _ _ _ h => h); (case ho => rfl); (case hg => rfl); (case hal => (intro a W; go_simp; with_reducible rfl)); (case hoq => rfl); (case hgq => rfl); (case h => (intro LQ hLQ W1 hW1; have hZ1 := heap_old hW1 hZ; have z0 := cell_heap (o := 0) hZ1 rfl; have z1 := cell_heap (o := 1) hZ1 rfl; have z2 := cell_heap (o := 2) hZ1 rfl; have z3 := cell_heap (o := 3) hZ1 rfl; simp only [pickO, List.drop_succ_cons, List.drop_zero, List.take_succ_cons, List.take_zero, List.cons_append, List.nil_append, List.append_nil, Act.put, List.setIfInBounds_toArray, List.set_cons_succ, List.set_cons_zero]; have hl := @Later.cell; (repeat (go_big_quiet_step (first | (go_at_call_of 41 (q); exact Calls.later (m1.out _)) | (go_at_call_of 41 (s); exact Calls.later (m2.out _)) | (go_at_call 42; exact Calls.later (ad.out _))))); exact wpQuiet_nil hLQ)); (case hv0 => (intro W; go_simp <;> with_reducible rfl)); (case hv => (intro x W; go_simp <;> with_reducible rfl)); (case hne => (intro x; simp only [Act.put, List.setIfInBounds_toArray, List.set_cons_succ, List.set_cons_zero])); (all_goals (intro k W2 hk hW2 hkk; simp only [pickO, List.drop_succ_cons, List.drop_zero, List.take_succ_cons, List.take_zero, List.cons_append, List.nil_append, List.append_nil, Act.put, List.setIfInBounds_toArray, List.set_cons_succ, List.set_cons_zero]))
  all_goals
    have hK2 := Below.next hK0 (Nat.le_refl _) hW2
    replace hC := heap_old hW2 hC
    replace hZ := heap_old hW2 hZ
    have k0 := cell_heap (o := 0) hkk rfl
    have k1 := cell_heap (o := 1) hkk rfl
    have f0 := frozen_heap (o := 0) hkk
    have f1 := frozen_heap (o := 1) hkk
    have hkw : w.heap.size + 2 ≤ k := by omega
    go_wp2_with fail
    have hk3 := heap_set (o := 1) (v := .int .u64 U1) (heap_set (o := 0) (v := .int .i64 U0) hkk)
    simp only [List.setIfInBounds_toArray, List.set_cons_succ, List.set_cons_zero] at hk3
    have hC3 := heap_set_other (g := k) (o := 1) (v := .int .u64 U1) (heap_set_other (g := k) (o := 0) (v := .int .i64 U0) hC (by omega)) (by omega)
    have hZ3 := heap_set_other (g := k) (o := 1) (v := .int .u64 U1) (heap_set_other (g := k) (o := 0) (v := .int .i64 U0) hZ (by omega)) (by omega)
    have hK3 : Below w.heap.size w ((W2.setCell ⟨k, 0, none⟩ (.int .i64 U0)).setCell ⟨k, 1, none⟩ (.int .u64 U1)) := (by repeat (first | with_reducible exact Below.refl _ _ | with_reducible assumption | with_reducible refine Below.drew ?_ | with_reducible refine Below.setCell ?_ (by first | omega | (simp; omega) | simp) _ | with_reducible refine Below.alloc ?_ (by first | omega | (simp; omega) | simp) _ | with_reducible refine Below.trans ?_ (Below.mono (by with_reducible assumption) (by first | omega | (simp; omega) | simp))))
    generalize (W2.setCell ⟨k, 0, none⟩ (.int .i64 U0)).setCell ⟨k, 1, none⟩ (.int .u64 U1) = W3 at hk3 hC3 hZ3 hK3 ⊢
    clear k0 k1 f0 f1 hkk hC hZ hW2 hK2 hk hsz
    go_wp2_with (go_at_call 86; refine (sc.out _).mono ?_; rintro e w4 ⟨rfl, k4⟩; have hk4 := heap_old k4 hk3; have hC4 := heap_old k4 hC3; have hZ4 := heap_old k4 hZ3; have hK4 := Below.next hK3 (Nat.le_refl _) k4; have k0 := cell_heap (o := 0) hk4 rfl; have k1 := cell_heap (o := 1) hk4 rfl; have f0 := frozen_heap (o := 0) hk4; have f1 := frozen_heap (o := 1) hk4; have z0 := cell_heap (o := 0) hZ4 rfl; have z2 := cell_heap (o := 2) hZ4 rfl; have nn : k ≠ w.heap.size + 1 := by omega)
    have hk5 := heap_set (o := 1) (v := .int .u64 D1) (heap_set (o := 0) (v := .int .i64 D0) hk4)
    simp only [List.setIfInBounds_toArray, List.set_cons_succ, List.set_cons_zero] at hk5
    have hC5 := heap_set_other (g := k) (o := 1) (v := .int .u64 D1) (heap_set_other (g := k) (o := 0) (v := .int .i64 D0) hC4 (by omega)) (by omega)
    have hK5 : Below w.heap.size w ((w4.setCell ⟨k, 0, none⟩ (.int .i64 D0)).setCell ⟨k, 1, none⟩ (.int .u64 D1)) := (by repeat (first | with_reducible exact Below.refl _ _ | with_reducible assumption | with_reducible refine Below.drew ?_ | with_reducible refine Below.setCell ?_ (by first | omega | (simp; omega) | simp) _ | with_reducible refine Below.alloc ?_ (by first | omega | (simp; omega) | simp) _ | with_reducible refine Below.trans ?_ (Below.mono (by with_reducible assumption) (by first | omega | (simp; omega) | simp))))
    generalize (w4.setCell ⟨k, 0, none⟩ (.int .i64 D0)).setCell ⟨k, 1, none⟩ (.int .u64 D1) = W5 at hk5 hC5 hK5 ⊢
    clear k0 k1 f0 f1 hk4 hC4 hZ4 hK4 k4 hk3 hC3 hZ3 hK3 z0 z2
    cases e1
    all_goals
      go_wp2_with (first
        | (go_at_call 41; refine (m3.out _).mono ?_; rintro e w6 ⟨rfl, k6⟩; replace hk5 := heap_old k6 hk5; replace hC5 := heap_old k6 hC5; have hK6 := Below.next hK5 (Nat.le_refl _) k6)
        | (go_at_call 86; refine (sg.out _).mono ?_; rintro e w7 ⟨rfl, k7⟩; replace hk5 := heap_old k7 hk5; replace hC5 := heap_old k7 hC5; have hK7 := Below.next hK6 (Nat.le_refl _) k7; have k0 := cell_heap (o := 0) hk5 rfl; have k1 := cell_heap (o := 1) hk5 rfl; have hlk := (Array.getElem?_eq_some_iff.1 hk5).1)
        | (go_at_call 85; refine (sb.out _).mono ?_; rintro e w8 ⟨rfl, k8⟩; have hC8 := heap_old k8 (heap_alloc (X := .cells #[.int .i64 G0, .int .u64 G1] 75) hC5); have hK8 := Below.next1 hK7 (Nat.le_refl _) k8)
        | (go_at_call 43; refine (ng.out _).mono ?_; rintro e w9 ⟨rfl, k9⟩; have hV9 := heap_old k9 (heap_new w8 (.cells #[.int .i64 V0, .int .u64 V1] 75) rfl); have hC9 := heap_old k9 (heap_alloc (X := .cells #[.int .i64 V0, .int .u64 V1] 75) hC8); have hK9 := Below.next1 hK8 (Nat.le_refl _) k9; have v0 := cell_heap (o := 0) hV9 rfl; have v1 := cell_heap (o := 1) hV9 rfl; have c4 := cell_heap (o := 4) hC9 rfl; have hlv := (Array.getElem?_eq_some_iff.1 hV9).1; have hlc := (Array.getElem?_eq_some_iff.1 hC9).1)
        | (go_at_call_of 44 (V0); refine (le1.out _).mono ?_; rintro e w10 ⟨rfl, k10⟩; have hM10 := heap_old k10 (heap_new w9 (.cells #[.int .i64 M0, .int .u64 M1] 75) rfl); have hC10 := heap_old k10 (heap_alloc (X := .cells #[.int .i64 M0, .int .u64 M1] 75) hC9); have hK10 := Below.next1 hK9 (Nat.le_refl _) k10; have x0 := cell_heap (o := 0) hM10 rfl; have x1 := cell_heap (o := 1) hM10 rfl; have c5 := cell_heap (o := 5) hC10 rfl)
        | (go_at_call_of 44 (M0); refine (le2.out _).mono ?_; rintro e w11 ⟨rfl, k11⟩; have hK11 := Below.next hK10 (Nat.le_refl _) k11))
    · refine bodyPost_ret (v := .bool false) (by simp only [results, Try.results45]; go_simp) rfl ⟨rfl, (by repeat (first | with_reducible exact Below.refl _ _ | with_reducible assumption | with_reducible refine Below.drew ?_ | with_reducible refine Below.setCell ?_ (by first | omega | (simp; omega) | simp) _ | with_reducible refine Below.alloc ?_ (by first | omega | (simp; omega) | simp) _ | with_reducible refine Below.trans ?_ (Below.mono (by with_reducible assumption) (by first | omega | (simp; omega) | simp))))⟩
    · refine bodyPost_ret (v := .bool e2) (by simp only [results, Try.results45]; go_simp) rfl ⟨rfl, (by repeat (first | with_reducible exact Below.refl _ _ | with_reducible assumption | with_reducible refine Below.drew ?_ | with_reducible refine Below.setCell ?_ (by first | omega | (simp; omega) | simp) _ | with_reducible refine Below.alloc ?_ (by first | omega | (simp; omega) | simp) _ | with_reducible refine Below.trans ?_ (Below.mono (by with_reducible assumption) (by first | omega | (simp; omega) | simp))))⟩
end Go.Proofs.Ytmdledlbkdcmnaa
