/-
  The walk of the statement that no other line has a lesser sum of squares.
  Conditions: none.
-/
import Derived.Test.YtcppgigndpepnaaRes
import Derived.Test.YtcppgigndpepnaaScale
import Derived.Test.YtcppgigndpepnaaLsqLaws
namespace Go.Proofs.Ytcppgigndpepnaa
open Go.RowKit
def okQ (p : PT) : Bool := decide (0 ≤ p.1) && decide (p.1 ≤ 100) && decide (p.2 ≤ 1000) && decide (-1000 ≤ p.2)
def littleB (ps : List PT) : Bool := decide (ps.length ≤ 8) && ps.all okQ
theorem okQ_iff {p : PT} (h : okQ p = true) : (0 ≤ p.1 ∧ p.1 ≤ 100) ∧ -1000 ≤ p.2 ∧ p.2 ≤ 1000 := by simp [okQ] at h; omega
theorem okQ_next {ps : List PT} {i : Nat} {p : PT} (h : (ps.take i).all okQ = true) (hp : ps[i]? = some p) (hk : okQ p = true) : (ps.take (i + 1)).all okQ = true := by
  rw [List.take_add_one, hp]; simp only [Option.toList_some, List.all_append, h, List.all_cons, hk, List.all_nil, Bool.and_true]
theorem little_f1 {ps : List PT} (h : ¬ ps.length ≤ 8) : false = littleB ps := by unfold littleB; simp [h]
theorem little_f2 {ps : List PT} {i : Nat} {p : PT} (hp : ps[i]? = some p) (h : okQ p = false) : false = littleB ps := by
  unfold littleB
  have : ps.all okQ = false := by rw [List.all_eq_false]; exact ⟨p, List.mem_of_getElem? hp, by simp [h]⟩
  rw [this, Bool.and_false]
theorem little_t {ps : List PT} {i : Nat} (h : (ps.take i).all okQ = true) (hi : ps.length ≤ i) (hl : ps.length ≤ 8) : true = littleB ps := by
  rw [List.take_of_length_le hi] at h
  unfold littleB; simp [h, hl]
theorem sq_bd {A B D K : Int} (hK : 0 ≤ K) : ∀ ps : List PT, (∀ p ∈ ps, -K ≤ dev A B D p ∧ dev A B D p ≤ K) → 0 ≤ sSq A B D ps ∧ sSq A B D ps ≤ ps.length * (K * K)
  | [], _ => by simp [sSq]
  | p :: l, h => by
    have ih := sq_bd hK l (fun q hq => h q (by simp [hq]))
    obtain ⟨h1, h2⟩ := h p (by simp)
    have q := mul_bd (A := K) (B := K) (a := dev A B D p) (b := dev A B D p) h1 h2 h1 h2
    have q0 := sq_nonneg (dev A B D p)
    simp only [sSq, List.length_cons, Int.natCast_add, Int.natCast_one, Int.add_mul, Int.one_mul]
    omega
theorem dev_lit {A B D a b d : Int} (hA : -a ≤ A ∧ A ≤ a) (hB : -b ≤ B ∧ B ≤ b) (hD : -d ≤ D ∧ D ≤ d) {p : PT} (hp : okQ p = true) : -(d * 1000 + a + b * 100) ≤ dev A B D p ∧ dev A B D p ≤ d * 1000 + a + b * 100 := by
  obtain ⟨⟨t1, t2⟩, v1, v2⟩ := okQ_iff hp
  have q1 := mul_bd (A := d) (B := 1000) (a := D) (b := p.2) hD.1 hD.2 v1 v2
  have q2 := mul_bd (A := b) (B := 100) (a := B) (b := p.1) hB.1 hB.2 (by omega) t2
  unfold dev
  omega
/-- The line found through few small points is small. -/
theorem line_small {ps : List PT} (hl : ps.length ≤ 8) (h : ps.all okQ = true) : (-1280000000 ≤ fA ps ∧ fA ps ≤ 1280000000) ∧ (-12800000 ≤ fB ps ∧ fB ps ≤ 12800000) ∧ (0 ≤ fD ps ∧ fD ps ≤ 640000) := by
  obtain ⟨⟨a1, a2⟩, ⟨b1, b2⟩, ⟨c1, c2⟩, d1, d2⟩ := sums_bd 100 1000 (by omega) ps (fun p hp => by have := okQ_iff (List.all_eq_true.1 h p hp); omega)
  have q1 := mul_bd (A := 80000) (B := 8000) (a := sQ ps) (b := sV ps) (by omega) (by omega) (by omega) (by omega)
  have q2 := mul_bd (A := 800) (B := 800000) (a := sT ps) (b := sW ps) (by omega) (by omega) (by omega) (by omega)
  have q3 := mul_bd (A := 8) (B := 800000) (a := (ps.length : Int)) (b := sW ps) (by omega) (by omega) (by omega) (by omega)
  have q4 := mul_bd (A := 800) (B := 8000) (a := sT ps) (b := sV ps) (by omega) (by omega) (by omega) (by omega)
  have q5 := mul_bd (A := 8) (B := 80000) (a := (ps.length : Int)) (b := sQ ps) (by omega) (by omega) (by omega) (by omega)
  have q6 := sq_nonneg (sT ps)
  have h0 := fD_nonneg ps
  unfold fA fB fD at *
  omega
/-- The sums of squares of the two lines: their sizes and their order. -/
theorem least_all {ps : List PT} (hl : ps.length ≤ 8) (h : ps.all okQ = true) {A B D : Int} (hA : -1048576 ≤ A ∧ A ≤ 1048576) (hB : -1048576 ≤ B ∧ B ≤ 1048576) (hD : 1 ≤ D ∧ D ≤ 1000) :
    (0 ≤ sSq (fA ps) (fB ps) (fD ps) ps ∧ sSq (fA ps) (fB ps) (fD ps) ps ≤ 100000000000000000000) ∧ (0 ≤ sSq A B D ps ∧ sSq A B D ps ≤ 100000000000000000) ∧ D * D * sSq (fA ps) (fB ps) (fD ps) ps ≤ fD ps * fD ps * sSq A B D ps := by
  obtain ⟨ha, hb, hd⟩ := line_small hl h
  have s1 := sq_bd (A := fA ps) (B := fB ps) (D := fD ps) (K := 640000 * 1000 + 1280000000 + 12800000 * 100) (by omega) ps (fun p hp => dev_lit ha hb (by omega) (List.all_eq_true.1 h p hp))
  have s2 := sq_bd (A := A) (B := B) (D := D) (K := 1000 * 1000 + 1048576 + 1048576 * 100) (by omega) ps (fun p hp => dev_lit hA hB (by omega) (List.all_eq_true.1 h p hp))
  refine ⟨by omega, by omega, best_least ps A B D⟩
set_option maxHeartbeats 1000000 in
theorem little_any (v : Value) (ps : List PT) (w : World) (h : Pts w v ps) : Calls Try.prog 48 #[v] w fun e w' => e = .returned (.bool (littleB ps)) ∧ Below w.heap.size w w' := by
  obtain ⟨pa, b, o, cap, rfl, h1, h2, h3, h4⟩ := h
  have hcap : cap ≤ 9223372036854775807 := by unfold maxLen at h3; omega
  rcases Nat.lt_or_ge 8 ps.length with hbig | hsm
  · go_enter Try.func48, Try.ntmps48
    go_wp2_with fail
    go_ret
    exact ⟨ret_bool (little_f1 (by omega)), (by repeat (first | with_reducible exact Below.refl _ _ | with_reducible assumption | with_reducible refine Below.drew ?_ | with_reducible refine Below.setCell ?_ (by first | omega | (simp; omega) | simp) _ | with_reducible refine Below.alloc ?_ (by first | omega | (simp; omega) | simp) _ | with_reducible refine Below.trans ?_ (Below.mono (by with_reducible assumption) (by first | omega | (simp; omega) | simp))))⟩
  · go_enter Try.func48, Try.ntmps48
    go_wp2_with fail
    go_loopw [10] (fun x wr => ∃ i : Nat, i ≤ ps.length ∧ x = .int .i64 i ∧ Below w.heap.size w wr ∧ (ps.take i).all okQ = true) (fun x _ => ps.length - (intOf x).toNat)
    case atStart => exact ⟨0, by omega, rfl, (by repeat (first | with_reducible exact Below.refl _ _ | with_reducible assumption | with_reducible refine Below.drew ?_ | with_reducible refine Below.setCell ?_ (by first | omega | (simp; omega) | simp) _ | with_reducible refine Below.alloc ?_ (by first | omega | (simp; omega) | simp) _ | with_reducible refine Below.trans ?_ (Below.mono (by with_reducible assumption) (by first | omega | (simp; omega) | simp)))), by simp⟩
    case round =>
      obtain ⟨i, hi, rfl, hb, hk⟩ := hrel
      rcases Nat.lt_or_ge i ps.length with hlt | hge
      · obtain rfl := h1 (by omega)
        have hx := (after hb).1
        obtain ⟨p, hp⟩ : ∃ p, ps[i]? = some p := ⟨_, List.getElem?_eq_getElem hlt⟩
        obtain ⟨c0, c1⟩ := h4 i p hp
        replace c0 := (hx _ _ (by simp [c0])).trans c0
        replace c1 := (hx _ _ (by simp [c1])).trans c1
        have hs := hb.size
        have hP := Lib.hid hp
        have hn : ps.length - (i + 1) < ps.length - i := by omega
        clear hp
        go_wp2_with fail
        all_goals first
          | (have hq : okQ p = false := by simp only [okQ]; grind
             go_ret
             exact ⟨ret_bool (little_f2 hP.out hq), (by repeat (first | with_reducible exact Below.refl _ _ | with_reducible assumption | with_reducible refine Below.drew ?_ | with_reducible refine Below.setCell ?_ (by first | omega | (simp; omega) | simp) _ | with_reducible refine Below.alloc ?_ (by first | omega | (simp; omega) | simp) _ | with_reducible refine Below.trans ?_ (Below.mono (by with_reducible assumption) (by first | omega | (simp; omega) | simp))))⟩)
          | (have hq : okQ p = true := by simp only [okQ]; grind
             exact ⟨⟨i + 1, hlt, by simp, (by repeat (first | with_reducible exact Below.refl _ _ | with_reducible assumption | with_reducible refine Below.drew ?_ | with_reducible refine Below.setCell ?_ (by first | omega | (simp; omega) | simp) _ | with_reducible refine Below.alloc ?_ (by first | omega | (simp; omega) | simp) _ | with_reducible refine Below.trans ?_ (Below.mono (by with_reducible assumption) (by first | omega | (simp; omega) | simp)))), okQ_next hk hP.out hq⟩, by simpa [intOf] using hn⟩)
      · have hdi : ¬i < ps.length := by omega
        go_wp2_with fail
        go_ret
        exact ⟨ret_bool (little_t hk hge hsm), (by repeat (first | with_reducible exact Below.refl _ _ | with_reducible assumption | with_reducible refine Below.drew ?_ | with_reducible refine Below.setCell ?_ (by first | omega | (simp; omega) | simp) _ | with_reducible refine Below.alloc ?_ (by first | omega | (simp; omega) | simp) _ | with_reducible refine Below.trans ?_ (Below.mono (by with_reducible assumption) (by first | omega | (simp; omega) | simp))))⟩
theorem least_bounds {X Y D d : Int} (s1 : 0 ≤ X) (s2 : X ≤ 100000000000000000000) (s3 : 0 ≤ Y) (s4 : Y ≤ 100000000000000000) (s5 : D * D * X ≤ d * d * Y) (d1 : 0 ≤ d) (d2 : d ≤ 640000) (g1 : 1 ≤ D) (g2 : D ≤ 1000) :
    0 ≤ D * D ∧ D * D ≤ 1000000 ∧ X * (D * D) < 170141183460469231731687303715884105728 ∧ 0 ≤ Y * d ∧ Y * d ≤ 64000000000000000000000 ∧ Y * d * d < 170141183460469231731687303715884105728 ∧ cmpV (X * (D * D)) (Y * d * d) ≤ 0 := by
  have q0 := mul_bd (A := 1000) (B := 1000) (a := D) (b := D) (by omega) (by omega) (by omega) (by omega)
  have q1 := sq_nonneg D
  have q2 := mul_bd (A := 100000000000000000000) (B := 1000000) (a := X) (b := D * D) (by omega) (by omega) (by omega) (by omega)
  have q3 := mul_bd (A := 100000000000000000) (B := 640000) (a := Y) (b := d) (by omega) (by omega) (by omega) (by omega)
  have q4 : 0 ≤ Y * d := Int.mul_nonneg s3 d1
  have q5 := mul_bd (A := 64000000000000000000000) (B := 640000) (a := Y * d) (b := d) (by omega) (by omega) (by omega) (by omega)
  have e1 : X * (D * D) = D * D * X := Int.mul_comm _ _
  have e2 : Y * d * d = d * d * Y := by grind
  refine ⟨q1, by omega, by omega, q4, by omega, by omega, ?_⟩
  unfold cmpV
  split
  · omega
  · rw [if_pos (by omega)]; omega
theorem residual_ok (A B D : Int) (v : Value) (ps : List PT) (w : World) (h : Pts w v ps) (he : ptsE ps = 0) (hk : okL A B D = true) (hs : sSq A B D ps < 170141183460469231731687303715884105728) : Calls Try.prog 45 #[v, .agg #[.int .i64 A, .int .i64 B, .int .i64 D]] w fun e w' => e = .returned (.tuple #[.agg #[.int .i64 (sSq A B D ps / 18446744073709551616), .int .u64 (sSq A B D ps % 18446744073709551616)], .int .i64 0]) ∧ Below w.heap.size w w' := by
  have h1 : resE A B D ps = 0 := by
    unfold resE
    rw [if_neg (fun h => h he), hk, if_neg (by simp), if_pos hs]
  have h2 : resX A B D ps = sSq A B D ps := by unfold resX; rw [if_pos h1]
  have h3 := residual_good A B D v ps w h he hk
  rwa [h1, h2] at h3
/-- What a region may leave: told on its own, and at the normal exit alone. -/
def AbsQ (R : Act → World → Prop) : Exit → Act → World → Prop
  | .normal, a, W => R a W
  | _, _, _ => False
theorem wp_abs {P : Program} {c : Code} {Q : Exit → Act → World → Prop} {a : Act} {w : World} (R : Act → Act → World → Prop) (h : c.wp P (AbsQ (R a)) a w) (k : ∀ a' W, R a a' W → Q .normal a' W) : c.wp P Q a w :=
  Code.wp_mono (fun e a' W hr => by cases e <;> first | exact k a' W hr | exact hr.elim) h
set_option maxRecDepth 100000 in
set_option maxHeartbeats 4000000 in
theorem lsqLeast_out (v : Value) (ps : List PT) (A B D : Int) (w : World) (h : Pts w v ps) (hlit : ¬(littleB ps = true ∧ (1 ≤ D ∧ D ≤ 1000) ∧ (-1048576 ≤ A ∧ A ≤ 1048576) ∧ (-1048576 ≤ B ∧ B ≤ 1048576))) : Calls Try.prog 16 #[v, .agg #[.int .i64 A, .int .i64 B, .int .i64 D]] w fun e w' => e = .returned (.bool true) ∧ Below w.heap.size w w' := by
  have h0 := h
  generalize hlb : littleB ps = lb at *
  have hLB := Lib.hid (fun w' (h : Pts w' v ps) => by have := little_any v ps w' h; rwa [hlb] at this)
  clear hlb
  cases lb with
  | false =>
    clear hlit
    go_enter Try.func16, Try.ntmps16
    go_wp2_with (first
      | (go_at_call 17; refine (awake30_any _).mono ?_; rintro e w1 ⟨rfl, hb1⟩; have hK : Below w.heap.size w w1 := Below.trans (by repeat (first | with_reducible exact Below.refl _ _ | with_reducible assumption | with_reducible refine Below.drew ?_ | refine Below.setCell ?_ (by first | omega | (simp; done) | (simp; omega)) _ | refine Below.alloc ?_ (by first | omega | (simp; done) | (simp; omega)) _)) (hb1.mono (by first | (simp; done) | (simp; omega) | omega)); have hG := heap_old hb1 (heap_new w (.cells #[.int .i64 A, .int .i64 B, .int .i64 D] 35) rfl); have g0 := cell_heap (o := 0) hG rfl; have g1 := cell_heap (o := 1) hG rfl; have g2 := cell_heap (o := 2) hG rfl)
      | (go_at_call 48; refine (hLB.out _ (h0.below hK)).mono ?_; rintro e w2 ⟨rfl, hb2⟩; replace hK := Below.next hK (Nat.le_refl _) hb2; replace hG := heap_old hb2 hG; clear g0 g1 g2; have g0 := cell_heap (o := 0) hG rfl; have g1 := cell_heap (o := 1) hG rfl; have g2 := cell_heap (o := 2) hG rfl))
    go_ret
    exact ⟨rfl, hK⟩
  | true =>
    go_enter Try.func16, Try.ntmps16
    go_wp2_with (first
      | (go_at_call 17; refine (awake30_any _).mono ?_; rintro e w1 ⟨rfl, hb1⟩; have hK : Below w.heap.size w w1 := Below.trans (by repeat (first | with_reducible exact Below.refl _ _ | with_reducible assumption | with_reducible refine Below.drew ?_ | refine Below.setCell ?_ (by first | omega | (simp; done) | (simp; omega)) _ | refine Below.alloc ?_ (by first | omega | (simp; done) | (simp; omega)) _)) (hb1.mono (by first | (simp; done) | (simp; omega) | omega)); have hG := heap_old hb1 (heap_new w (.cells #[.int .i64 A, .int .i64 B, .int .i64 D] 35) rfl); have g0 := cell_heap (o := 0) hG rfl; have g1 := cell_heap (o := 1) hG rfl; have g2 := cell_heap (o := 2) hG rfl)
      | (go_at_call 48; refine (hLB.out _ (h0.below hK)).mono ?_; rintro e w2 ⟨rfl, hb2⟩; replace hK := Below.next hK (Nat.le_refl _) hb2; replace hG := heap_old hb2 hG; clear g0 g1 g2; have g0 := cell_heap (o := 0) hG rfl; have g1 := cell_heap (o := 1) hG rfl; have g2 := cell_heap (o := 2) hG rfl))
    all_goals first
      | (go_ret; exact ⟨rfl, hK⟩)
      | (exfalso; apply hlit; refine ⟨by first | rfl | trivial, ?_, ?_, ?_⟩ <;> omega)
set_option maxRecDepth 100000 in
set_option maxHeartbeats 4000000 in
theorem lsqLeast_none (v : Value) (ps : List PT) (A B D : Int) (w : World) (h : Pts w v ps) (hL : littleB ps = true) (b1 : 1 ≤ D) (b2 : D ≤ 1000) (b3 : -1048576 ≤ A) (b4 : A ≤ 1048576) (b5 : -1048576 ≤ B) (b6 : B ≤ 1048576) (hq : ¬(ptsE ps = 0 ∧ fD ps ≠ 0)) : Calls Try.prog 16 #[v, .agg #[.int .i64 A, .int .i64 B, .int .i64 D]] w fun e w' => e = .returned (.bool true) ∧ Below w.heap.size w w' := by
  have h0 := h
  have hL2 := hL
  unfold littleB at hL2
  simp only [Bool.and_eq_true, decide_eq_true_eq] at hL2
  obtain ⟨hl8, hall⟩ := hL2
  have hLH := Lib.hid (fun w' (h : Pts w' v ps) => by have := little_any v ps w' h; rwa [hL] at this)
  have hz : ∃ E, E ≠ 0 ∧ lineV ps = .tuple #[.agg #[.int .i64 0, .int .i64 0, .int .i64 0], .int .i64 E] := by
    by_cases he : ptsE ps = 0
    · have hd : fD ps = 0 := by
        rcases Classical.em (fD ps = 0) with h | h
        · exact h
        · exact absurd ⟨he, h⟩ hq
      exact ⟨14, by omega, lineV_s he hd⟩
    · exact ⟨_, he, lineV_e he⟩
  obtain ⟨E, hE0, hE⟩ := hz
  have hl := fun v' w' (h : Pts w' v' ps) => line_any v' ps w' h
  simp only [hE] at hl
  have HL := Lib.hid hl
  have hE1 : (E != 0) = true := by simpa using hE0
  have hof := Lib.hid (fun w' (h : Pts w' v ps) => of_any v ps w' h (by omega))
  clear hl hE hE0 hq hL
  go_enter Try.func16, Try.ntmps16
  go_wp2_with (first
    | (go_at_call 17; refine (awake30_any _).mono ?_; rintro e w1 ⟨rfl, hb1⟩; have hK : Below w.heap.size w w1 := Below.trans (by repeat (first | with_reducible exact Below.refl _ _ | with_reducible assumption | with_reducible refine Below.drew ?_ | refine Below.setCell ?_ (by first | omega | (simp; done) | (simp; omega)) _ | refine Below.alloc ?_ (by first | omega | (simp; done) | (simp; omega)) _)) (hb1.mono (by first | (simp; done) | (simp; omega) | omega)); have hG := heap_old hb1 (heap_new w (.cells #[.int .i64 A, .int .i64 B, .int .i64 D] 35) rfl); have g0 := cell_heap (o := 0) hG rfl; have g1 := cell_heap (o := 1) hG rfl; have g2 := cell_heap (o := 2) hG rfl)
    | (go_at_call 48; refine (hLH.out _ (h0.below hK)).mono ?_; rintro e w2 ⟨rfl, hb2⟩; replace hK := Below.next hK (Nat.le_refl _) hb2; replace hG := heap_old hb2 hG; clear g0 g1 g2; have g0 := cell_heap (o := 0) hG rfl; have g1 := cell_heap (o := 1) hG rfl; have g2 := cell_heap (o := 2) hG rfl)
    | (go_at_call 25; refine (hof.out _ (h0.below hK)).mono ?_; rintro e wx ⟨ux, rfl, hp, hbx⟩; replace hK := Below.next hK (Nat.le_refl _) hbx; have hsz := hK.size)
    | (go_at_call 24; refine (HL.out _ _ hp).mono ?_; rintro e w4 ⟨rfl, hb4⟩; replace hK := Below.next hK (Nat.le_refl _) hb4; have hsz := hK.size))
  go_ret
  exact ⟨rfl, by first | exact hK | exact hK.alloc hK.size _⟩
set_option maxRecDepth 100000 in
set_option maxHeartbeats 40000000 in
theorem lsqLeast_walk (v : Value) (ps : List PT) (A B D : Int) (w : World) (h : Pts w v ps) : Calls Try.prog 16 #[v, .agg #[.int .i64 A, .int .i64 B, .int .i64 D]] w fun e w' => e = .returned (.bool true) ∧ Below w.heap.size w w' := by
  have h0 := h
  by_cases hlit : littleB ps = true ∧ (1 ≤ D ∧ D ≤ 1000) ∧ (-1048576 ≤ A ∧ A ≤ 1048576) ∧ (-1048576 ≤ B ∧ B ≤ 1048576)
  · obtain ⟨hL, ⟨g1, g2⟩, ⟨g3, g4⟩, g5, g6⟩ := hlit
    have hL2 := hL
    unfold littleB at hL2
    simp only [Bool.and_eq_true, decide_eq_true_eq] at hL2
    obtain ⟨hl8, hall⟩ := hL2
    have hLH := Lib.hid (fun w' (h : Pts w' v ps) => by have := little_any v ps w' h; rwa [hL] at this)
    by_cases hq : ptsE ps = 0 ∧ fD ps ≠ 0
    · obtain ⟨he, hd⟩ := hq
      obtain ⟨⟨s1, s2⟩, ⟨s3, s4⟩, s5⟩ := least_all hl8 hall ⟨g3, g4⟩ ⟨g5, g6⟩ ⟨g1, g2⟩
      obtain ⟨_, _, d1, d2⟩ := line_small hl8 hall
      have hokg : okL A B D = true := by simp [okL]; omega
      obtain ⟨dd0, dd1, xdd, yx0, yx1, yxx, hcm⟩ := least_bounds s1 s2 s3 s4 s5 d1 d2 g1 g2
      have m1 : sSq (fA ps) (fB ps) (fD ps) ps < 170141183460469231731687303715884105728 := by omega
      have m2 : D * D ≤ 9223372036854775807 := by omega
      have m3 : sSq A B D ps < 170141183460469231731687303715884105728 := by omega
      have m4 : fD ps ≤ 9223372036854775807 := by omega
      have m5 : sSq A B D ps * fD ps < 170141183460469231731687303715884105728 := by omega
      have hl := fun v' w' (h : Pts w' v' ps) => line_any v' ps w' h
      simp only [lineV_ok he hd] at hl
      have hr1 := fun v' w' (h : Pts w' v' ps) => residual_ok (fA ps) (fB ps) (fD ps) v' ps w' h he (line_ok he hd) (by omega)
      have hr2 := fun v' w' (h : Pts w' v' ps) => residual_ok A B D v' ps w' h he hokg (by omega)
      have HL := Lib.hid hl
      have HR1 := Lib.hid hr1
      have HR2 := Lib.hid hr2
      have hcmp := Lib.hid hcm
      have hof := Lib.hid (fun w' (h : Pts w' v ps) => of_any v ps w' h (by omega))
      clear hl hr1 hr2 he hd s5 hokg hL hcm
      generalize sSq (fA ps) (fB ps) (fD ps) ps = X at *
      generalize sSq A B D ps = Y at *
      generalize fA ps = xa at *
      generalize fB ps = xb at *
      generalize fD ps = xd at *
      go_enter Try.func16, Try.ntmps16
      go_wp2_with (first
        | (go_at_call 17; refine (awake30_any _).mono ?_; rintro e w1 ⟨rfl, hb1⟩; have hK : Below w.heap.size w w1 := Below.trans (by repeat (first | with_reducible exact Below.refl _ _ | with_reducible assumption | with_reducible refine Below.drew ?_ | refine Below.setCell ?_ (by first | omega | (simp; done) | (simp; omega)) _ | refine Below.alloc ?_ (by first | omega | (simp; done) | (simp; omega)) _)) (hb1.mono (by first | (simp; done) | (simp; omega) | omega)); have hsz := hK.size; have hG := heap_old hb1 (b := w.heap.size) (o := (.cells #[.int .i64 A, .int .i64 B, .int .i64 D] 35)) (by first | ((repeat (first | with_reducible assumption | with_reducible refine heap_drew ?_ | with_reducible refine heap_new _ _ (by first | rfl | (simp; done) | fail "no") | with_reducible apply heap_alloc)); done) | fail "no"); have g0 := cell_heap (o := 0) hG rfl; have g1 := cell_heap (o := 1) hG rfl; have g2 := cell_heap (o := 2) hG rfl; (first | (have hF := heap_old hb1 (b := w4.heap.size) (o := (.cells #[.int .i64 xa, .int .i64 xb, .int .i64 xd] 35)) (by first | ((repeat (first | with_reducible assumption | with_reducible refine heap_drew ?_ | with_reducible refine heap_new _ _ (by first | rfl | (simp; done) | fail "no") | with_reducible apply heap_alloc)); done) | fail "no"); have f0 := cell_heap (o := 0) hF rfl; have f1 := cell_heap (o := 1) hF rfl; have f2 := cell_heap (o := 2) hF rfl) | skip); (first | (have hA := heap_old hb1 (b := w6.heap.size) (o := (.cells #[.int .i64 (X / 18446744073709551616), .int .u64 (X % 18446744073709551616)] 65)) (by first | ((repeat (first | with_reducible assumption | with_reducible refine heap_drew ?_ | with_reducible refine heap_new _ _ (by first | rfl | (simp; done) | fail "no") | with_reducible apply heap_alloc)); done) | fail "no"); have a0 := cell_heap (o := 0) hA rfl; have a1 := cell_heap (o := 1) hA rfl) | skip); (first | (have hBb := heap_old hb1 (b := w8.heap.size) (o := (.cells #[.int .i64 (Y / 18446744073709551616), .int .u64 (Y % 18446744073709551616)] 65)) (by first | ((repeat (first | with_reducible assumption | with_reducible refine heap_drew ?_ | with_reducible refine heap_new _ _ (by first | rfl | (simp; done) | fail "no") | with_reducible apply heap_alloc)); done) | fail "no"); have b0 := cell_heap (o := 0) hBb rfl; have b1 := cell_heap (o := 1) hBb rfl) | skip))
        | (go_at_call 48; refine (hLH.out _ (h0.below hK)).mono ?_; rintro e w2 ⟨rfl, hb2⟩; have hK : Below w.heap.size w w2 := Below.trans (by repeat (first | with_reducible exact Below.refl _ _ | with_reducible assumption | with_reducible refine Below.drew ?_ | refine Below.setCell ?_ (by first | omega | (simp; done) | (simp; omega)) _ | refine Below.alloc ?_ (by first | omega | (simp; done) | (simp; omega)) _)) (hb2.mono (by first | (simp; done) | (simp; omega) | omega)); have hsz := hK.size; have hG := heap_old hb2 (b := w.heap.size) (o := (.cells #[.int .i64 A, .int .i64 B, .int .i64 D] 35)) (by first | ((repeat (first | with_reducible assumption | with_reducible refine heap_drew ?_ | with_reducible refine heap_new _ _ (by first | rfl | (simp; done) | fail "no") | with_reducible apply heap_alloc)); done) | fail "no"); have g0 := cell_heap (o := 0) hG rfl; have g1 := cell_heap (o := 1) hG rfl; have g2 := cell_heap (o := 2) hG rfl; (first | (have hF := heap_old hb2 (b := w4.heap.size) (o := (.cells #[.int .i64 xa, .int .i64 xb, .int .i64 xd] 35)) (by first | ((repeat (first | with_reducible assumption | with_reducible refine heap_drew ?_ | with_reducible refine heap_new _ _ (by first | rfl | (simp; done) | fail "no") | with_reducible apply heap_alloc)); done) | fail "no"); have f0 := cell_heap (o := 0) hF rfl; have f1 := cell_heap (o := 1) hF rfl; have f2 := cell_heap (o := 2) hF rfl) | skip); (first | (have hA := heap_old hb2 (b := w6.heap.size) (o := (.cells #[.int .i64 (X / 18446744073709551616), .int .u64 (X % 18446744073709551616)] 65)) (by first | ((repeat (first | with_reducible assumption | with_reducible refine heap_drew ?_ | with_reducible refine heap_new _ _ (by first | rfl | (simp; done) | fail "no") | with_reducible apply heap_alloc)); done) | fail "no"); have a0 := cell_heap (o := 0) hA rfl; have a1 := cell_heap (o := 1) hA rfl) | skip); (first | (have hBb := heap_old hb2 (b := w8.heap.size) (o := (.cells #[.int .i64 (Y / 18446744073709551616), .int .u64 (Y % 18446744073709551616)] 65)) (by first | ((repeat (first | with_reducible assumption | with_reducible refine heap_drew ?_ | with_reducible refine heap_new _ _ (by first | rfl | (simp; done) | fail "no") | with_reducible apply heap_alloc)); done) | fail "no"); have b0 := cell_heap (o := 0) hBb rfl; have b1 := cell_heap (o := 1) hBb rfl) | skip))
        | (go_at_call 25; refine (hof.out _ (h0.below (by repeat (first | with_reducible exact Below.refl _ _ | with_reducible assumption | with_reducible refine Below.drew ?_ | refine Below.setCell ?_ (by first | omega | (simp; done) | (simp; omega)) _ | refine Below.alloc ?_ (by first | omega | (simp; done) | (simp; omega)) _)))).mono ?_; rintro e wx ⟨ux, rfl, hp, hbx⟩; have hK : Below w.heap.size w wx := Below.trans (by repeat (first | with_reducible exact Below.refl _ _ | with_reducible assumption | with_reducible refine Below.drew ?_ | refine Below.setCell ?_ (by first | omega | (simp; done) | (simp; omega)) _ | refine Below.alloc ?_ (by first | omega | (simp; done) | (simp; omega)) _)) (hbx.mono (by first | (simp; done) | (simp; omega) | omega)); have hsz := hK.size; have hG := heap_old hbx (b := w.heap.size) (o := (.cells #[.int .i64 A, .int .i64 B, .int .i64 D] 35)) (by first | ((repeat (first | with_reducible assumption | with_reducible refine heap_drew ?_ | with_reducible refine heap_new _ _ (by first | rfl | (simp; done) | fail "no") | with_reducible apply heap_alloc)); done) | fail "no"); have g0 := cell_heap (o := 0) hG rfl; have g1 := cell_heap (o := 1) hG rfl; have g2 := cell_heap (o := 2) hG rfl; (first | (have hF := heap_old hbx (b := w4.heap.size) (o := (.cells #[.int .i64 xa, .int .i64 xb, .int .i64 xd] 35)) (by first | ((repeat (first | with_reducible assumption | with_reducible refine heap_drew ?_ | with_reducible refine heap_new _ _ (by first | rfl | (simp; done) | fail "no") | with_reducible apply heap_alloc)); done) | fail "no"); have f0 := cell_heap (o := 0) hF rfl; have f1 := cell_heap (o := 1) hF rfl; have f2 := cell_heap (o := 2) hF rfl) | skip); (first | (have hA := heap_old hbx (b := w6.heap.size) (o := (.cells #[.int .i64 (X / 18446744073709551616), .int .u64 (X % 18446744073709551616)] 65)) (by first | ((repeat (first | with_reducible assumption | with_reducible refine heap_drew ?_ | with_reducible refine heap_new _ _ (by first | rfl | (simp; done) | fail "no") | with_reducible apply heap_alloc)); done) | fail "no"); have a0 := cell_heap (o := 0) hA rfl; have a1 := cell_heap (o := 1) hA rfl) | skip); (first | (have hBb := heap_old hbx (b := w8.heap.size) (o := (.cells #[.int .i64 (Y / 18446744073709551616), .int .u64 (Y % 18446744073709551616)] 65)) (by first | ((repeat (first | with_reducible assumption | with_reducible refine heap_drew ?_ | with_reducible refine heap_new _ _ (by first | rfl | (simp; done) | fail "no") | with_reducible apply heap_alloc)); done) | fail "no"); have b0 := cell_heap (o := 0) hBb rfl; have b1 := cell_heap (o := 1) hBb rfl) | skip))
        | (go_at_call 24; refine (HL.out _ _ hp).mono ?_; rintro e w4 ⟨rfl, hb4⟩; have hK : Below w.heap.size w w4 := Below.trans (by repeat (first | with_reducible exact Below.refl _ _ | with_reducible assumption | with_reducible refine Below.drew ?_ | refine Below.setCell ?_ (by first | omega | (simp; done) | (simp; omega)) _ | refine Below.alloc ?_ (by first | omega | (simp; done) | (simp; omega)) _)) (hb4.mono (by first | (simp; done) | (simp; omega) | omega)); have hsz := hK.size; have hG := heap_old hb4 (b := w.heap.size) (o := (.cells #[.int .i64 A, .int .i64 B, .int .i64 D] 35)) (by first | ((repeat (first | with_reducible assumption | with_reducible refine heap_drew ?_ | with_reducible refine heap_new _ _ (by first | rfl | (simp; done) | fail "no") | with_reducible apply heap_alloc)); done) | fail "no"); have g0 := cell_heap (o := 0) hG rfl; have g1 := cell_heap (o := 1) hG rfl; have g2 := cell_heap (o := 2) hG rfl; (first | (have hF := heap_old hb4 (b := w4.heap.size) (o := (.cells #[.int .i64 xa, .int .i64 xb, .int .i64 xd] 35)) (by first | ((repeat (first | with_reducible assumption | with_reducible refine heap_drew ?_ | with_reducible refine heap_new _ _ (by first | rfl | (simp; done) | fail "no") | with_reducible apply heap_alloc)); done) | fail "no"); have f0 := cell_heap (o := 0) hF rfl; have f1 := cell_heap (o := 1) hF rfl; have f2 := cell_heap (o := 2) hF rfl) | skip); (first | (have hA := heap_old hb4 (b := w6.heap.size) (o := (.cells #[.int .i64 (X / 18446744073709551616), .int .u64 (X % 18446744073709551616)] 65)) (by first | ((repeat (first | with_reducible assumption | with_reducible refine heap_drew ?_ | with_reducible refine heap_new _ _ (by first | rfl | (simp; done) | fail "no") | with_reducible apply heap_alloc)); done) | fail "no"); have a0 := cell_heap (o := 0) hA rfl; have a1 := cell_heap (o := 1) hA rfl) | skip); (first | (have hBb := heap_old hb4 (b := w8.heap.size) (o := (.cells #[.int .i64 (Y / 18446744073709551616), .int .u64 (Y % 18446744073709551616)] 65)) (by first | ((repeat (first | with_reducible assumption | with_reducible refine heap_drew ?_ | with_reducible refine heap_new _ _ (by first | rfl | (simp; done) | fail "no") | with_reducible apply heap_alloc)); done) | fail "no"); have b0 := cell_heap (o := 0) hBb rfl; have b1 := cell_heap (o := 1) hBb rfl) | skip))
        | (go_at_call_of 45 (xa); refine (HR1.out _ _ hp).mono ?_; rintro e w6 ⟨rfl, hb6⟩; have hK : Below w.heap.size w w6 := Below.trans (by repeat (first | with_reducible exact Below.refl _ _ | with_reducible assumption | with_reducible refine Below.drew ?_ | refine Below.setCell ?_ (by first | omega | (simp; done) | (simp; omega)) _ | refine Below.alloc ?_ (by first | omega | (simp; done) | (simp; omega)) _)) (hb6.mono (by first | (simp; done) | (simp; omega) | omega)); have hsz := hK.size; have hG := heap_old hb6 (b := w.heap.size) (o := (.cells #[.int .i64 A, .int .i64 B, .int .i64 D] 35)) (by first | ((repeat (first | with_reducible assumption | with_reducible refine heap_drew ?_ | with_reducible refine heap_new _ _ (by first | rfl | (simp; done) | fail "no") | with_reducible apply heap_alloc)); done) | fail "no"); have g0 := cell_heap (o := 0) hG rfl; have g1 := cell_heap (o := 1) hG rfl; have g2 := cell_heap (o := 2) hG rfl; (first | (have hF := heap_old hb6 (b := w4.heap.size) (o := (.cells #[.int .i64 xa, .int .i64 xb, .int .i64 xd] 35)) (by first | ((repeat (first | with_reducible assumption | with_reducible refine heap_drew ?_ | with_reducible refine heap_new _ _ (by first | rfl | (simp; done) | fail "no") | with_reducible apply heap_alloc)); done) | fail "no"); have f0 := cell_heap (o := 0) hF rfl; have f1 := cell_heap (o := 1) hF rfl; have f2 := cell_heap (o := 2) hF rfl) | skip); (first | (have hA := heap_old hb6 (b := w6.heap.size) (o := (.cells #[.int .i64 (X / 18446744073709551616), .int .u64 (X % 18446744073709551616)] 65)) (by first | ((repeat (first | with_reducible assumption | with_reducible refine heap_drew ?_ | with_reducible refine heap_new _ _ (by first | rfl | (simp; done) | fail "no") | with_reducible apply heap_alloc)); done) | fail "no"); have a0 := cell_heap (o := 0) hA rfl; have a1 := cell_heap (o := 1) hA rfl) | skip); (first | (have hBb := heap_old hb6 (b := w8.heap.size) (o := (.cells #[.int .i64 (Y / 18446744073709551616), .int .u64 (Y % 18446744073709551616)] 65)) (by first | ((repeat (first | with_reducible assumption | with_reducible refine heap_drew ?_ | with_reducible refine heap_new _ _ (by first | rfl | (simp; done) | fail "no") | with_reducible apply heap_alloc)); done) | fail "no"); have b0 := cell_heap (o := 0) hBb rfl; have b1 := cell_heap (o := 1) hBb rfl) | skip))
        | (go_at_call_of 45 (A); refine (HR2.out _ _ hp).mono ?_; rintro e w8 ⟨rfl, hb8⟩; have hK : Below w.heap.size w w8 := Below.trans (by repeat (first | with_reducible exact Below.refl _ _ | with_reducible assumption | with_reducible refine Below.drew ?_ | refine Below.setCell ?_ (by first | omega | (simp; done) | (simp; omega)) _ | refine Below.alloc ?_ (by first | omega | (simp; done) | (simp; omega)) _)) (hb8.mono (by first | (simp; done) | (simp; omega) | omega)); have hsz := hK.size; have hG := heap_old hb8 (b := w.heap.size) (o := (.cells #[.int .i64 A, .int .i64 B, .int .i64 D] 35)) (by first | ((repeat (first | with_reducible assumption | with_reducible refine heap_drew ?_ | with_reducible refine heap_new _ _ (by first | rfl | (simp; done) | fail "no") | with_reducible apply heap_alloc)); done) | fail "no"); have g0 := cell_heap (o := 0) hG rfl; have g1 := cell_heap (o := 1) hG rfl; have g2 := cell_heap (o := 2) hG rfl; (first | (have hF := heap_old hb8 (b := w4.heap.size) (o := (.cells #[.int .i64 xa, .int .i64 xb, .int .i64 xd] 35)) (by first | ((repeat (first | with_reducible assumption | with_reducible refine heap_drew ?_ | with_reducible refine heap_new _ _ (by first | rfl | (simp; done) | fail "no") | with_reducible apply heap_alloc)); done) | fail "no"); have f0 := cell_heap (o := 0) hF rfl; have f1 := cell_heap (o := 1) hF rfl; have f2 := cell_heap (o := 2) hF rfl) | skip); (first | (have hA := heap_old hb8 (b := w6.heap.size) (o := (.cells #[.int .i64 (X / 18446744073709551616), .int .u64 (X % 18446744073709551616)] 65)) (by first | ((repeat (first | with_reducible assumption | with_reducible refine heap_drew ?_ | with_reducible refine heap_new _ _ (by first | rfl | (simp; done) | fail "no") | with_reducible apply heap_alloc)); done) | fail "no"); have a0 := cell_heap (o := 0) hA rfl; have a1 := cell_heap (o := 1) hA rfl) | skip); (first | (have hBb := heap_old hb8 (b := w8.heap.size) (o := (.cells #[.int .i64 (Y / 18446744073709551616), .int .u64 (Y % 18446744073709551616)] 65)) (by first | ((repeat (first | with_reducible assumption | with_reducible refine heap_drew ?_ | with_reducible refine heap_new _ _ (by first | rfl | (simp; done) | fail "no") | with_reducible apply heap_alloc)); done) | fail "no"); have b0 := cell_heap (o := 0) hBb rfl; have b1 := cell_heap (o := 1) hBb rfl) | skip)))
      have hwF : w.heap.size < w4.heap.size := (Array.getElem?_eq_some_iff.1 hG).1
      refine wp_abs (fun a0 a' W => ∃ u n, a' = (((((((((a0.put (some 59) v).put (some 60) u).put (some 61) (.agg #[.int .i64 xa, .int .i64 xb, .int .i64 xd])).put (some 62) (.tuple #[.agg #[.int .i64 (X / 18446744073709551616), .int .u64 (X % 18446744073709551616)], .int .i64 0])).put (some 58) (.tuple #[.agg #[.int .i64 (X / 18446744073709551616), .int .u64 (X % 18446744073709551616)], .int .i64 0])).put (some 63) (.agg #[.int .i64 (X / 18446744073709551616), .int .u64 (X % 18446744073709551616)])).put (some 64) (.int .i64 0)).put (some 7) (.pointer (some ⟨n, 0, none⟩))).put (some 8) (.int .i64 0)) ∧ Below w.heap.size w W ∧ W.heap[w.heap.size]? = some (.cells #[.int .i64 A, .int .i64 B, .int .i64 D] 35) ∧ W.heap[w4.heap.size]? = some (.cells #[.int .i64 xa, .int .i64 xb, .int .i64 xd] 35) ∧ W.heap[n]? = some (.cells #[.int .i64 (X / 18446744073709551616), .int .u64 (X % 18446744073709551616)] 65)) ?_ ?_
      · first
        | go_region_with (first
            | (go_at_call 25; refine (hof.out _ (h0.below (by repeat (first | with_reducible exact Below.refl _ _ | with_reducible assumption | with_reducible refine Below.drew ?_ | refine Below.setCell ?_ (by first | omega | (simp; done) | (simp; omega)) _ | refine Below.alloc ?_ (by first | omega | (simp; done) | (simp; omega)) _)))).mono ?_; rintro e wx ⟨ux, rfl, hp, hbx⟩; have hK : Below w.heap.size w wx := Below.trans (by repeat (first | with_reducible exact Below.refl _ _ | with_reducible assumption | with_reducible refine Below.drew ?_ | refine Below.setCell ?_ (by first | omega | (simp; done) | (simp; omega)) _ | refine Below.alloc ?_ (by first | omega | (simp; done) | (simp; omega)) _)) (hbx.mono (by first | (simp; done) | (simp; omega) | omega)); have hsz := hK.size; have hG := heap_old hbx (b := w.heap.size) (o := (.cells #[.int .i64 A, .int .i64 B, .int .i64 D] 35)) (by first | ((repeat (first | with_reducible assumption | with_reducible refine heap_drew ?_ | with_reducible refine heap_new _ _ (by first | rfl | (simp; done) | fail "no") | with_reducible apply heap_alloc | with_reducible refine heap_set_other ?_ (by omega))); done) | fail "no"); have hltG := (Array.getElem?_eq_some_iff.1 hG).1; have g0 := cell_heap (o := 0) hG rfl; have g1 := cell_heap (o := 1) hG rfl; have g2 := cell_heap (o := 2) hG rfl; have hF := heap_old hbx (b := w4.heap.size) (o := (.cells #[.int .i64 xa, .int .i64 xb, .int .i64 xd] 35)) (by first | ((repeat (first | with_reducible assumption | with_reducible refine heap_drew ?_ | with_reducible refine heap_new _ _ (by first | rfl | (simp; done) | fail "no") | with_reducible apply heap_alloc | with_reducible refine heap_set_other ?_ (by omega))); done) | fail "no"); have hltF := (Array.getElem?_eq_some_iff.1 hF).1; have f0 := cell_heap (o := 0) hF rfl; have f1 := cell_heap (o := 1) hF rfl; have f2 := cell_heap (o := 2) hF rfl; (first | (have hN := heap_old hbx (b := w4.heap.size + 1) (o := (.cells #[.int .i64 0, .int .u64 0] 65)) (by first | ((repeat (first | with_reducible assumption | with_reducible refine heap_drew ?_ | with_reducible refine heap_new _ _ (by first | rfl | (simp; done) | fail "no") | with_reducible apply heap_alloc | with_reducible refine heap_set_other ?_ (by omega))); done) | fail "no"); have n0 := cell_heap (o := 0) hN rfl; have n1 := cell_heap (o := 1) hN rfl; have nf := frozen_heap (o := 0) hN; have ng := frozen_heap (o := 1) hN) | skip))
            | (go_at_call 45; refine (HR1.out _ _ (hp.below (by repeat (first | with_reducible exact Below.refl _ _ | with_reducible assumption | with_reducible refine Below.drew ?_ | refine Below.setCell ?_ (by first | omega | (simp; done) | (simp; omega)) _ | refine Below.alloc ?_ (by first | omega | (simp; done) | (simp; omega)) _)))).mono ?_; rintro e wy ⟨rfl, hby⟩; have hK : Below w.heap.size w wy := Below.trans (by repeat (first | with_reducible exact Below.refl _ _ | with_reducible assumption | with_reducible refine Below.drew ?_ | refine Below.setCell ?_ (by first | omega | (simp; done) | (simp; omega)) _ | refine Below.alloc ?_ (by first | omega | (simp; done) | (simp; omega)) _)) (hby.mono (by first | (simp; done) | (simp; omega) | omega)); have hsz := hK.size; have hG := heap_old hby (b := w.heap.size) (o := (.cells #[.int .i64 A, .int .i64 B, .int .i64 D] 35)) (by first | ((repeat (first | with_reducible assumption | with_reducible refine heap_drew ?_ | with_reducible refine heap_new _ _ (by first | rfl | (simp; done) | fail "no") | with_reducible apply heap_alloc | with_reducible refine heap_set_other ?_ (by omega))); done) | fail "no"); have hltG := (Array.getElem?_eq_some_iff.1 hG).1; have g0 := cell_heap (o := 0) hG rfl; have g1 := cell_heap (o := 1) hG rfl; have g2 := cell_heap (o := 2) hG rfl; have hF := heap_old hby (b := w4.heap.size) (o := (.cells #[.int .i64 xa, .int .i64 xb, .int .i64 xd] 35)) (by first | ((repeat (first | with_reducible assumption | with_reducible refine heap_drew ?_ | with_reducible refine heap_new _ _ (by first | rfl | (simp; done) | fail "no") | with_reducible apply heap_alloc | with_reducible refine heap_set_other ?_ (by omega))); done) | fail "no"); have hltF := (Array.getElem?_eq_some_iff.1 hF).1; have f0 := cell_heap (o := 0) hF rfl; have f1 := cell_heap (o := 1) hF rfl; have f2 := cell_heap (o := 2) hF rfl; (first | (have hN := heap_old hby (b := w4.heap.size + 1) (o := (.cells #[.int .i64 0, .int .u64 0] 65)) (by first | ((repeat (first | with_reducible assumption | with_reducible refine heap_drew ?_ | with_reducible refine heap_new _ _ (by first | rfl | (simp; done) | fail "no") | with_reducible apply heap_alloc | with_reducible refine heap_set_other ?_ (by omega))); done) | fail "no"); have n0 := cell_heap (o := 0) hN rfl; have n1 := cell_heap (o := 1) hN rfl; have nf := frozen_heap (o := 0) hN; have ng := frozen_heap (o := 1) hN) | skip); (first | (have hN := heap_old hby (b := wx.heap.size) (o := (.cells #[.int .i64 0, .int .u64 0] 65)) (by first | ((repeat (first | with_reducible assumption | with_reducible refine heap_drew ?_ | with_reducible refine heap_new _ _ (by first | rfl | (simp; done) | fail "no") | with_reducible apply heap_alloc | with_reducible refine heap_set_other ?_ (by omega))); done) | fail "no"); have n0 := cell_heap (o := 0) hN rfl; have n1 := cell_heap (o := 1) hN rfl; have nf := frozen_heap (o := 0) hN; have ng := frozen_heap (o := 1) hN) | skip)))
        | fail
        all_goals
          refine ⟨?_, ?_, ?_, ?_⟩
          rotate_left 2
          · simp only [Act.put, List.setIfInBounds_toArray, List.set_cons_succ, List.set_cons_zero]
            rfl
          · refine ⟨(by repeat (first | with_reducible exact Below.refl _ _ | with_reducible assumption | with_reducible refine Below.drew ?_ | refine Below.setCell ?_ (by first | omega | (simp; done) | (simp; omega)) _ | refine Below.alloc ?_ (by first | omega | (simp; done) | (simp; omega)) _)), (by first | ((repeat (first | with_reducible assumption | with_reducible refine heap_drew ?_ | with_reducible refine heap_new _ _ (by first | rfl | (simp; done) | fail "no") | with_reducible apply heap_alloc | with_reducible refine heap_set_other ?_ (by omega))); done) | fail "no"), (by first | ((repeat (first | with_reducible assumption | with_reducible refine heap_drew ?_ | with_reducible refine heap_new _ _ (by first | rfl | (simp; done) | fail "no") | with_reducible apply heap_alloc | with_reducible refine heap_set_other ?_ (by omega))); done) | fail "no"), (by first | exact (by first | ((repeat (first | with_reducible assumption | with_reducible refine heap_drew ?_ | with_reducible refine heap_new _ _ (by first | rfl | (simp; done) | fail "no") | with_reducible apply heap_alloc | with_reducible refine heap_set_other ?_ (by omega))); done) | fail "no") | (have h9 := heap_set (o := 1) (v := .int .u64 (X % 18446744073709551616)) (heap_set (o := 0) (v := .int .i64 (X / 18446744073709551616)) hN); simp only [List.setIfInBounds_toArray, List.set_cons_succ, List.set_cons_zero] at h9; exact h9))⟩
      · rintro a' W8 ⟨u8, n8, rfl, hK, hG , hF , hA⟩
        simp only [Act.put, List.setIfInBounds_toArray, List.set_cons_succ, List.set_cons_zero]
        have hsz := hK.size
        have hltG := (Array.getElem?_eq_some_iff.1 hG).1
        have g0 := cell_heap (o := 0) hG rfl
        have g1 := cell_heap (o := 1) hG rfl
        have g2 := cell_heap (o := 2) hG rfl
        have hltF := (Array.getElem?_eq_some_iff.1 hF).1
        have f0 := cell_heap (o := 0) hF rfl
        have f1 := cell_heap (o := 1) hF rfl
        have f2 := cell_heap (o := 2) hF rfl
        have hltA := (Array.getElem?_eq_some_iff.1 hA).1
        have a0 := cell_heap (o := 0) hA rfl
        have a1 := cell_heap (o := 1) hA rfl
        go_wp2_with fail
        refine wp_abs (fun a0 a' W => ∃ u n, a' = (((((((((a0.put (some 66) v).put (some 67) u).put (some 68) (.agg #[.int .i64 A, .int .i64 B, .int .i64 D])).put (some 69) (.tuple #[.agg #[.int .i64 (Y / 18446744073709551616), .int .u64 (Y % 18446744073709551616)], .int .i64 0])).put (some 65) (.tuple #[.agg #[.int .i64 (Y / 18446744073709551616), .int .u64 (Y % 18446744073709551616)], .int .i64 0])).put (some 70) (.agg #[.int .i64 (Y / 18446744073709551616), .int .u64 (Y % 18446744073709551616)])).put (some 71) (.int .i64 0)).put (some 9) (.pointer (some ⟨n, 0, none⟩))).put (some 10) (.int .i64 0)) ∧ Below w.heap.size w W ∧ W.heap[w.heap.size]? = some (.cells #[.int .i64 A, .int .i64 B, .int .i64 D] 35) ∧ W.heap[w4.heap.size]? = some (.cells #[.int .i64 xa, .int .i64 xb, .int .i64 xd] 35) ∧ W.heap[n8]? = some (.cells #[.int .i64 (X / 18446744073709551616), .int .u64 (X % 18446744073709551616)] 65) ∧ W.heap[n]? = some (.cells #[.int .i64 (Y / 18446744073709551616), .int .u64 (Y % 18446744073709551616)] 65)) ?_ ?_
        · first
          | go_region_with (first
              | (go_at_call 25; refine (hof.out _ (h0.below (by repeat (first | with_reducible exact Below.refl _ _ | with_reducible assumption | with_reducible refine Below.drew ?_ | refine Below.setCell ?_ (by first | omega | (simp; done) | (simp; omega)) _ | refine Below.alloc ?_ (by first | omega | (simp; done) | (simp; omega)) _)))).mono ?_; rintro e wx ⟨ux, rfl, hp, hbx⟩; have hK : Below w.heap.size w wx := Below.trans (by repeat (first | with_reducible exact Below.refl _ _ | with_reducible assumption | with_reducible refine Below.drew ?_ | refine Below.setCell ?_ (by first | omega | (simp; done) | (simp; omega)) _ | refine Below.alloc ?_ (by first | omega | (simp; done) | (simp; omega)) _)) (hbx.mono (by first | (simp; done) | (simp; omega) | omega)); have hsz := hK.size; have hG := heap_old hbx (b := w.heap.size) (o := (.cells #[.int .i64 A, .int .i64 B, .int .i64 D] 35)) (by first | ((repeat (first | with_reducible assumption | with_reducible refine heap_drew ?_ | with_reducible refine heap_new _ _ (by first | rfl | (simp; done) | fail "no") | with_reducible apply heap_alloc | with_reducible refine heap_set_other ?_ (by omega))); done) | fail "no"); have hltG := (Array.getElem?_eq_some_iff.1 hG).1; have g0 := cell_heap (o := 0) hG rfl; have g1 := cell_heap (o := 1) hG rfl; have g2 := cell_heap (o := 2) hG rfl; have hF := heap_old hbx (b := w4.heap.size) (o := (.cells #[.int .i64 xa, .int .i64 xb, .int .i64 xd] 35)) (by first | ((repeat (first | with_reducible assumption | with_reducible refine heap_drew ?_ | with_reducible refine heap_new _ _ (by first | rfl | (simp; done) | fail "no") | with_reducible apply heap_alloc | with_reducible refine heap_set_other ?_ (by omega))); done) | fail "no"); have hltF := (Array.getElem?_eq_some_iff.1 hF).1; have f0 := cell_heap (o := 0) hF rfl; have f1 := cell_heap (o := 1) hF rfl; have f2 := cell_heap (o := 2) hF rfl; have hA := heap_old hbx (b := n8) (o := (.cells #[.int .i64 (X / 18446744073709551616), .int .u64 (X % 18446744073709551616)] 65)) (by first | ((repeat (first | with_reducible assumption | with_reducible refine heap_drew ?_ | with_reducible refine heap_new _ _ (by first | rfl | (simp; done) | fail "no") | with_reducible apply heap_alloc | with_reducible refine heap_set_other ?_ (by omega))); done) | fail "no"); have hltA := (Array.getElem?_eq_some_iff.1 hA).1; have a0 := cell_heap (o := 0) hA rfl; have a1 := cell_heap (o := 1) hA rfl; (first | (have hN := heap_old hbx (b := W8.heap.size) (o := (.cells #[.int .i64 0, .int .u64 0] 65)) (by first | ((repeat (first | with_reducible assumption | with_reducible refine heap_drew ?_ | with_reducible refine heap_new _ _ (by first | rfl | (simp; done) | fail "no") | with_reducible apply heap_alloc | with_reducible refine heap_set_other ?_ (by omega))); done) | fail "no"); have n0 := cell_heap (o := 0) hN rfl; have n1 := cell_heap (o := 1) hN rfl; have nf := frozen_heap (o := 0) hN; have ng := frozen_heap (o := 1) hN) | skip))
              | (go_at_call 45; refine (HR2.out _ _ (hp.below (by repeat (first | with_reducible exact Below.refl _ _ | with_reducible assumption | with_reducible refine Below.drew ?_ | refine Below.setCell ?_ (by first | omega | (simp; done) | (simp; omega)) _ | refine Below.alloc ?_ (by first | omega | (simp; done) | (simp; omega)) _)))).mono ?_; rintro e wy ⟨rfl, hby⟩; have hK : Below w.heap.size w wy := Below.trans (by repeat (first | with_reducible exact Below.refl _ _ | with_reducible assumption | with_reducible refine Below.drew ?_ | refine Below.setCell ?_ (by first | omega | (simp; done) | (simp; omega)) _ | refine Below.alloc ?_ (by first | omega | (simp; done) | (simp; omega)) _)) (hby.mono (by first | (simp; done) | (simp; omega) | omega)); have hsz := hK.size; have hG := heap_old hby (b := w.heap.size) (o := (.cells #[.int .i64 A, .int .i64 B, .int .i64 D] 35)) (by first | ((repeat (first | with_reducible assumption | with_reducible refine heap_drew ?_ | with_reducible refine heap_new _ _ (by first | rfl | (simp; done) | fail "no") | with_reducible apply heap_alloc | with_reducible refine heap_set_other ?_ (by omega))); done) | fail "no"); have hltG := (Array.getElem?_eq_some_iff.1 hG).1; have g0 := cell_heap (o := 0) hG rfl; have g1 := cell_heap (o := 1) hG rfl; have g2 := cell_heap (o := 2) hG rfl; have hF := heap_old hby (b := w4.heap.size) (o := (.cells #[.int .i64 xa, .int .i64 xb, .int .i64 xd] 35)) (by first | ((repeat (first | with_reducible assumption | with_reducible refine heap_drew ?_ | with_reducible refine heap_new _ _ (by first | rfl | (simp; done) | fail "no") | with_reducible apply heap_alloc | with_reducible refine heap_set_other ?_ (by omega))); done) | fail "no"); have hltF := (Array.getElem?_eq_some_iff.1 hF).1; have f0 := cell_heap (o := 0) hF rfl; have f1 := cell_heap (o := 1) hF rfl; have f2 := cell_heap (o := 2) hF rfl; have hA := heap_old hby (b := n8) (o := (.cells #[.int .i64 (X / 18446744073709551616), .int .u64 (X % 18446744073709551616)] 65)) (by first | ((repeat (first | with_reducible assumption | with_reducible refine heap_drew ?_ | with_reducible refine heap_new _ _ (by first | rfl | (simp; done) | fail "no") | with_reducible apply heap_alloc | with_reducible refine heap_set_other ?_ (by omega))); done) | fail "no"); have hltA := (Array.getElem?_eq_some_iff.1 hA).1; have a0 := cell_heap (o := 0) hA rfl; have a1 := cell_heap (o := 1) hA rfl; (first | (have hN := heap_old hby (b := W8.heap.size) (o := (.cells #[.int .i64 0, .int .u64 0] 65)) (by first | ((repeat (first | with_reducible assumption | with_reducible refine heap_drew ?_ | with_reducible refine heap_new _ _ (by first | rfl | (simp; done) | fail "no") | with_reducible apply heap_alloc | with_reducible refine heap_set_other ?_ (by omega))); done) | fail "no"); have n0 := cell_heap (o := 0) hN rfl; have n1 := cell_heap (o := 1) hN rfl; have nf := frozen_heap (o := 0) hN; have ng := frozen_heap (o := 1) hN) | skip); (first | (have hN := heap_old hby (b := wx.heap.size) (o := (.cells #[.int .i64 0, .int .u64 0] 65)) (by first | ((repeat (first | with_reducible assumption | with_reducible refine heap_drew ?_ | with_reducible refine heap_new _ _ (by first | rfl | (simp; done) | fail "no") | with_reducible apply heap_alloc | with_reducible refine heap_set_other ?_ (by omega))); done) | fail "no"); have n0 := cell_heap (o := 0) hN rfl; have n1 := cell_heap (o := 1) hN rfl; have nf := frozen_heap (o := 0) hN; have ng := frozen_heap (o := 1) hN) | skip)))
          | fail
          all_goals
            refine ⟨?_, ?_, ?_, ?_⟩
            rotate_left 2
            · simp only [Act.put, List.setIfInBounds_toArray, List.set_cons_succ, List.set_cons_zero]
              rfl
            · refine ⟨(by repeat (first | with_reducible exact Below.refl _ _ | with_reducible assumption | with_reducible refine Below.drew ?_ | refine Below.setCell ?_ (by first | omega | (simp; done) | (simp; omega)) _ | refine Below.alloc ?_ (by first | omega | (simp; done) | (simp; omega)) _)), (by first | ((repeat (first | with_reducible assumption | with_reducible refine heap_drew ?_ | with_reducible refine heap_new _ _ (by first | rfl | (simp; done) | fail "no") | with_reducible apply heap_alloc | with_reducible refine heap_set_other ?_ (by omega))); done) | fail "no"), (by first | ((repeat (first | with_reducible assumption | with_reducible refine heap_drew ?_ | with_reducible refine heap_new _ _ (by first | rfl | (simp; done) | fail "no") | with_reducible apply heap_alloc | with_reducible refine heap_set_other ?_ (by omega))); done) | fail "no"), (by first | ((repeat (first | with_reducible assumption | with_reducible refine heap_drew ?_ | with_reducible refine heap_new _ _ (by first | rfl | (simp; done) | fail "no") | with_reducible apply heap_alloc | with_reducible refine heap_set_other ?_ (by omega))); done) | fail "no"), (by first | exact (by first | ((repeat (first | with_reducible assumption | with_reducible refine heap_drew ?_ | with_reducible refine heap_new _ _ (by first | rfl | (simp; done) | fail "no") | with_reducible apply heap_alloc | with_reducible refine heap_set_other ?_ (by omega))); done) | fail "no") | (have h9 := heap_set (o := 1) (v := .int .u64 (Y % 18446744073709551616)) (heap_set (o := 0) (v := .int .i64 (Y / 18446744073709551616)) hN); simp only [List.setIfInBounds_toArray, List.set_cons_succ, List.set_cons_zero] at h9; exact h9))⟩
        · rintro a' W9 ⟨u9, n9, rfl, hK, hG , hF , hA , hBb⟩
          simp only [Act.put, List.setIfInBounds_toArray, List.set_cons_succ, List.set_cons_zero]
          have hsz := hK.size
          have hltG := (Array.getElem?_eq_some_iff.1 hG).1
          have g0 := cell_heap (o := 0) hG rfl
          have g1 := cell_heap (o := 1) hG rfl
          have g2 := cell_heap (o := 2) hG rfl
          have hltF := (Array.getElem?_eq_some_iff.1 hF).1
          have f0 := cell_heap (o := 0) hF rfl
          have f1 := cell_heap (o := 1) hF rfl
          have f2 := cell_heap (o := 2) hF rfl
          have hltA := (Array.getElem?_eq_some_iff.1 hA).1
          have a0 := cell_heap (o := 0) hA rfl
          have a1 := cell_heap (o := 1) hA rfl
          have hltBb := (Array.getElem?_eq_some_iff.1 hBb).1
          have b0 := cell_heap (o := 0) hBb rfl
          have b1 := cell_heap (o := 1) hBb rfl
          clear a0 a1 b0 b1 g0 g1 g2 f0 f1 f2 hltG hltF hltA hltBb hsz
          generalize w4.heap.size = nF at *
          have a0 := cell_heap (o := 0) hA rfl
          have a1 := cell_heap (o := 1) hA rfl
          have g2 := cell_heap (o := 2) hG rfl
          go_wp2_with (first
            | (go_at_call_of 49 (X); refine (scale_pos X (D * D) s1 m1 dd0 m2 xdd _).mono ?_; rintro e v1 ⟨rfl, hv1⟩; replace hK := Below.next hK (Nat.le_refl _) hv1; replace hF := heap_alloc (X := (.cells #[.int .i64 (X * (D * D) / 18446744073709551616), .int .u64 (X * (D * D) % 18446744073709551616)] 65)) (heap_old hv1 hF); replace hBb := heap_alloc (X := (.cells #[.int .i64 (X * (D * D) / 18446744073709551616), .int .u64 (X * (D * D) % 18446744073709551616)] 65)) (heap_old hv1 hBb); have hX := heap_new v1 (.cells #[.int .i64 (X * (D * D) / 18446744073709551616), .int .u64 (X * (D * D) % 18446744073709551616)] 65) rfl; clear a0 a1 g2 hG hA hv1; have f2 := cell_heap (o := 2) hF rfl; have b0 := cell_heap (o := 0) hBb rfl; have b1 := cell_heap (o := 1) hBb rfl)
            | (go_at_call_of 49 (Y * xd); refine (scale_pos (Y * xd) xd yx0 m5 d1 m4 yxx _).mono ?_; rintro e v3 ⟨rfl, hv3⟩; replace hK := Below.next1 hK (Nat.le_refl _) hv3; replace hX := heap_old hv3 hX; replace hY := heap_old hv3 hY; clear y0 y1 f2 hv3; have y0 := cell_heap (o := 0) hY rfl; have y1 := cell_heap (o := 1) hY rfl; have z0 := frozen_heap (o := 0) hY; have z1 := frozen_heap (o := 1) hY; have hX2 := heap_set_other (g := v2.heap.size) (o := 1) (v := .int .u64 (Y * xd * xd % 18446744073709551616)) (heap_set_other (g := v2.heap.size) (o := 0) (v := .int .i64 (Y * xd * xd / 18446744073709551616)) hX (Nat.ne_of_lt hlt)) (Nat.ne_of_lt hlt); have x0 := cell_heap (o := 0) hX2 rfl; have x1 := cell_heap (o := 1) hX2 rfl; have hY2 := heap_set (o := 1) (v := .int .u64 (Y * xd * xd % 18446744073709551616)) (heap_set (o := 0) (v := .int .i64 (Y * xd * xd / 18446744073709551616)) hY); simp only [List.setIfInBounds_toArray, List.set_cons_succ, List.set_cons_zero] at hY2; have w0 := cell_heap (o := 0) hY2 rfl; have w1 := cell_heap (o := 1) hY2 rfl)
            | (go_at_call_of 49 (Y); refine (scale_pos Y xd s3 m3 d1 m4 m5 _).mono ?_; rintro e v2 ⟨rfl, hv2⟩; replace hK := Below.next1 hK (Nat.le_refl _) hv2; have hs2 := hK.size; replace hF := heap_alloc (X := (.cells #[.int .i64 (Y * xd / 18446744073709551616), .int .u64 (Y * xd % 18446744073709551616)] 65)) (heap_old hv2 hF); replace hX := heap_old hv2 hX; have hlt := (Array.getElem?_eq_some_iff.1 hX).1; replace hX := heap_alloc (X := (.cells #[.int .i64 (Y * xd / 18446744073709551616), .int .u64 (Y * xd % 18446744073709551616)] 65)) hX; have hY := heap_new v2 (.cells #[.int .i64 (Y * xd / 18446744073709551616), .int .u64 (Y * xd % 18446744073709551616)] 65) rfl; clear f2 b0 b1 hBb hv2; have f2 := cell_heap (o := 2) hF rfl; have y0 := cell_heap (o := 0) hY rfl; have y1 := cell_heap (o := 1) hY rfl)
            | (go_at_call 50; refine (cmp_any (X * (D * D)) (Y * xd * xd) _).mono ?_; rintro e v4 ⟨rfl, hv4⟩; have hle := hcmp.out; have hK4 := Below.trans (Below.setCell (Below.setCell hK hs2 _) hs2 _) (hv4.mono (by simp; exact hK.size))))
          go_ret
          exact ⟨ret_bool (by first | (simp; done) | (simp; exact hle)), hK4⟩
    · exact lsqLeast_none v ps A B D w h hL g1 g2 g3 g4 g5 g6 hq
  · exact lsqLeast_out v ps A B D w h hlit
end Go.Proofs.Ytcppgigndpepnaa
