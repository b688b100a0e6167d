/-
  Contracts and laws, merged: TopPlain TopFits.
  Conditions: none.
-/
import Derived.Test.YtmdledlbkdcmnaaM9
import Derived.Test.YtmdledlbkdcmnaaM12
import Derived.Test.YtmdledlbkdcmnaaM13
import Derived.Test.YtmdledlbkdcmnaaM15
import Derived.Test.YtmdledlbkdcmnaaM5
set_option linter.unusedSimpArgs false
set_option linter.unusedVariables false
/-
  Plain laws for the statements on attained ends, crossings and enclosures through the layers.
  Conditions: none.
-/
namespace Go.Proofs.Ytmdledlbkdcmnaa
open Go.RowKit
theorem linE_ok {l : List SN} {ax t : Int} (h : linE l ax t = 0) : (0 ≤ ax ∧ ax ≤ 2) ∧ behE l = 0 ∧ ((lastB (bnds ax (bhdL l))).1 ≤ t ∧ t ≤ (lastB (bnds ax (bhdL l))).1 + 400) ∧ fitsB (bnds ax (bhdL l)) = true := by
  unfold linE at h
  split at h
  · omega
  · split at h
    · omega
    · split at h
      · omega
      · split at h
        · rename_i h4; exact ⟨by omega, by omega, by omega, h4⟩
        · omega
theorem last_mem {l : List SN} (h : behE l = 0) (ax : Int) : (lastB (bnds ax (bhdL l))).1 = (atS l (l.length - 1)).1 := by
  obtain ⟨hc, h2⟩ := behE_len h
  have hn := beh_pos h
  have hb := bncK_lt' (l := l) (by omega)
  have e : (bhdL l)[(bhdL l).length - 1]? = some (atS l (l.length - 1)) := by
    unfold bhdL
    rw [if_pos hc]
    unfold atS
    rw [List.getElem?_drop, List.length_drop, show bncK l + (l.length - bncK l - 1) = l.length - 1 by omega, List.getElem?_eq_getElem (show l.length - 1 < l.length by omega)]
  rw [lastB_bnds e, bndS_t]
/-- The condition under which a line through two bounds shows the upper end attained; and the lower one. -/
def conH (l : List SN) (ax t : Int) (u v : BD) : Bool := pfB l ax (u.1, u.2.1) (v.1, v.2.2) && (decide ((linHi l ax t - 1) * (v.1 - u.1) < valN (u.1, u.2.1) (v.1, v.2.2) t) && decide (valN (u.1, u.2.1) (v.1, v.2.2) t ≤ linHi l ax t * (v.1 - u.1)))
def conL (l : List SN) (ax t : Int) (u v : BD) : Bool := pfB l ax (u.1, u.2.2) (v.1, v.2.1) && (decide (valN (u.1, u.2.2) (v.1, v.2.1) t < (linLo l ax t + 1) * (v.1 - u.1)) && decide (linLo l ax t * (v.1 - u.1) ≤ valN (u.1, u.2.2) (v.1, v.2.1) t))
theorem not_out {a b : Int × Int} (h : (0 ≤ a.1 ∧ a.1 ≤ 4000) ∧ (-20000000000 ≤ a.2 ∧ a.2 ≤ 20000000000) ∧ (0 ≤ b.1 ∧ b.1 ≤ 4000) ∧ (-20000000000 ≤ b.2 ∧ b.2 ≤ 20000000000)) : ¬(outP a ∨ outP b) := by unfold outP; omega
theorem pfB_lt {l : List SN} {ax : Int} {a b : Int × Int} (hb : bndE l ax = 0) (h : (0 ≤ a.1 ∧ a.1 ≤ 4000) ∧ (-20000000000 ≤ a.2 ∧ a.2 ≤ 20000000000) ∧ (0 ≤ b.1 ∧ b.1 ≤ 4000) ∧ (-20000000000 ≤ b.2 ∧ b.2 ≤ 20000000000)) (hlt : a.1 < b.1) : pfE l ax a b = 0 ∧ pfB l ax a b = fitL (bnds ax (bhdL l)) a b := by
  have e := pfE_ok hb (not_out h) (by omega)
  refine ⟨e, ?_⟩
  unfold pfB ordA ordB
  rw [e, if_neg (by omega), if_neg (by omega)]
  simp
theorem bndE_of {l : List SN} {ax t : Int} (h : linE l ax t = 0) : bndE l ax = 0 := by
  obtain ⟨h1, h2, _⟩ := linE_ok h
  unfold bndE
  rw [if_neg (by omega), h2]
theorem attained_ex {l : List SN} {ax t : Int} (h : linE l ax t = 0) (ht : (lastB (bnds ax (bhdL l))).1 < t) :
    (∃ (i j : Nat) (u v : BD), i < j ∧ (bnds ax (bhdL l))[i]? = some u ∧ (bnds ax (bhdL l))[j]? = some v ∧ conH l ax t u v = true) ∧ ∃ (i j : Nat) (u v : BD), i < j ∧ (bnds ax (bhdL l))[i]? = some u ∧ (bnds ax (bhdL l))[j]? = some v ∧ conL l ax t u v = true := by
  obtain ⟨h1, h2, h3, h4⟩ := linE_ok h
  have hbe := bndE_of h
  have l2 : 2 ≤ (bnds ax (bhdL l)).length := by rw [bnds_len]; exact (behE_len h2).2
  have r := bnds_rise ax l
  have ho := bnds_ok (ax := ax) (l := l)
  have hp : ∀ b ∈ bnds ax (bhdL l), b.1 < t := fun b hb => by
    have := past_last r l2 (Int.le_refl _) b hb
    omega
  constructor
  · obtain ⟨i, j, u, v, hij, hu, hv, hf, g1, g2⟩ := attained_hi r ho l2 hp h4
    have du := ho u (List.mem_of_getElem? hu)
    have dv := ho v (List.mem_of_getElem? hv)
    have hlt := r i j u v hij hu hv
    unfold okB at du dv
    refine ⟨i, j, u, v, hij, hu, hv, ?_⟩
    have q := (pfB_lt (a := (u.1, u.2.1)) (b := (v.1, v.2.2)) hbe ⟨du.1, ⟨by dsimp only; omega, by dsimp only; omega⟩, dv.1, by dsimp only; omega, by dsimp only; omega⟩ hlt).2
    unfold conH linHi
    rw [q, hf, if_pos h, decide_eq_true g1, decide_eq_true g2]; rfl
  · obtain ⟨i, j, u, v, hij, hu, hv, hf, g1, g2⟩ := attained_lo r ho l2 hp h4
    have du := ho u (List.mem_of_getElem? hu)
    have dv := ho v (List.mem_of_getElem? hv)
    have hlt := r i j u v hij hu hv
    unfold okB at du dv
    refine ⟨i, j, u, v, hij, hu, hv, ?_⟩
    have q := (pfB_lt (a := (u.1, u.2.2)) (b := (v.1, v.2.1)) hbe ⟨du.1, ⟨by dsimp only; omega, by dsimp only; omega⟩, dv.1, by dsimp only; omega, by dsimp only; omega⟩ hlt).2
    unfold conL linLo
    rw [q, hf, if_pos h, decide_eq_true g1, decide_eq_true g2]; rfl
/-- A path: a line through two points on each axis. -/
abbrev TR := (Int × Int) × (Int × Int) × (Int × Int) × (Int × Int) × (Int × Int) × (Int × Int)
def fitT (l : List SN) (p : TR) : Bool := pfB l 0 p.1 p.2.1 && (pfB l 1 p.2.2.1 p.2.2.2.1 && pfB l 2 p.2.2.2.2.1 p.2.2.2.2.2)
theorem fitT_parts {l : List SN} {p : TR} (h : fitT l p = true) : pfB l 0 p.1 p.2.1 = true ∧ pfB l 1 p.2.2.1 p.2.2.2.1 = true ∧ pfB l 2 p.2.2.2.2.1 p.2.2.2.2.2 = true := by
  unfold fitT at h; simpa using h
theorem pfB_all {l : List SN} {ax : Int} {a b : Int × Int} (h : pfB l ax a b = true) : behE l = 0 ∧ fitsB (bnds ax (bhdL l)) = true ∧ (ordA a b).1 < (ordB a b).1 ∧ ¬(outP a ∨ outP b) ∧ fitL (bnds ax (bhdL l)) (ordA a b) (ordB a b) = true := by
  obtain ⟨h1, hf⟩ := pfB_fit h
  obtain ⟨hb, ho, hlt⟩ := pfE_parts h1
  exact ⟨(bndE_ok hb).2, fitsB_of_line (bnds_rise ax l) hlt hf, hlt, ho, hf⟩
theorem fitT_pos {l : List SN} {p : TR} (h : fitT l p = true) : behE l = 0 ∧ posB l = true := by
  obtain ⟨h0, h1, h2⟩ := fitT_parts h
  obtain ⟨b0, f0, _⟩ := pfB_all h0
  obtain ⟨_, f1, _⟩ := pfB_all h1
  obtain ⟨_, f2, _⟩ := pfB_all h2
  refine ⟨b0, ?_⟩
  unfold posB
  rw [f0, f1, f2]; rfl
theorem fitT_crs {l : List SN} {p : TR} (h : fitT l p = true) : crsE l ≠ 13 := by
  obtain ⟨h1, h2⟩ := fitT_pos h
  unfold crsE
  rw [if_neg (by omega), if_neg (by rw [h2]; simp)]
  split
  · omega
  · split <;> omega
/-- ENCLOSED on all axes. -/
theorem aptE_fit {l : List SN} {p : TR} {t : Int} (h : fitT l p = true) (he : aptE l t ≠ 0) : aptE l t = 2 ∧ (t < (atS l (l.length - 1)).1 ∨ (atS l (l.length - 1)).1 + 400 < t) := by
  obtain ⟨h0, h1, h2⟩ := fitT_parts h
  obtain ⟨b0, f0, _⟩ := pfB_all h0
  obtain ⟨_, f1, _⟩ := pfB_all h1
  obtain ⟨_, f2, _⟩ := pfB_all h2
  have L := last_mem b0
  have key : ∀ ax : Int, 0 ≤ ax → ax ≤ 2 → fitsB (bnds ax (bhdL l)) = true → linE l ax t = if t < (atS l (l.length - 1)).1 ∨ (atS l (l.length - 1)).1 + 400 < t then 2 else 0 := by
    intro ax x1 x2 f
    unfold linE
    rw [if_neg (by omega), if_neg (by omega), L ax, f]
    simp
  unfold aptE at he ⊢
  rw [key 0 (by omega) (by omega) f0, key 1 (by omega) (by omega) f1, key 2 (by omega) (by omega) f2] at he ⊢
  by_cases c : t < (atS l (l.length - 1)).1 ∨ (atS l (l.length - 1)).1 + 400 < t
  · rw [if_pos c] at he ⊢
    exact ⟨rfl, c⟩
  · rw [if_neg c] at he
    simp at he
theorem aptE_parts {l : List SN} {t : Int} (h : aptE l t = 0) : linE l 0 t = 0 ∧ linE l 1 t = 0 ∧ linE l 2 t = 0 := by
  unfold aptE at h
  split at h
  · omega
  · split at h
    · omega
    · omega
/-- What the statement on enclosures asks of the heights. -/
theorem enclosesZ {l : List SN} {t : Int} {a b : Int × Int} (h2 : pfB l 2 a b = true) (h3 : linE l 2 t = 0) :
    (-400000000000000 ≤ fallLo (linLo l 2 t) (linHi l 2 t) t t * 80000 ∧ fallLo (linLo l 2 t) (linHi l 2 t) t t * 80000 ≤ 400000000000000) ∧ (-400000000000000 ≤ fallHi (linLo l 2 t) (linHi l 2 t) t t * 80000 ∧ fallHi (linLo l 2 t) (linHi l 2 t) t t * 80000 ≤ 400000000000000)
    ∧ fallLo (linLo l 2 t) (linHi l 2 t) t t * 80000 * ((ordB a b).1 - (ordA a b).1) ≤ valN (ordA a b) (ordB a b) t - 981 * t * t * ((ordB a b).1 - (ordA a b).1)
    ∧ valN (ordA a b) (ordB a b) t - 981 * t * t * ((ordB a b).1 - (ordA a b).1) ≤ fallHi (linLo l 2 t) (linHi l 2 t) t t * 80000 * ((ordB a b).1 - (ordA a b).1) := by
  obtain ⟨⟨t1, t2⟩, ⟨y1, y2⟩, ⟨y3, y4⟩, g1, g2⟩ := encloses h2 h3
  obtain ⟨_, _, hlt, _⟩ := pfB_all h2
  obtain ⟨_, hb, _, hf⟩ := linE_ok h3
  have hle : linLo l 2 t ≤ linHi l 2 t := by
    rcases Int.lt_or_le (linHi l 2 t) (linLo l 2 t) with h | h
    · exfalso
      have := Int.mul_lt_mul_of_pos_right h (show 0 < (ordB a b).1 - (ordA a b).1 by omega)
      omega
    · exact h
  have f1 := fall_lo (lo := linLo l 2 t) (hi := linHi l 2 t) (e := t) (l := t) (n := t) (d := 1) (w := (ordB a b).1 - (ordA a b).1) (u := valN (ordA a b) (ordB a b) t) t1 (Int.le_refl _) hle (by omega) (by omega) t1 (by omega) (by rw [Int.mul_one]; exact g1)
  have f2 := fall_hi (lo := linLo l 2 t) (hi := linHi l 2 t) (e := t) (l := t) (n := t) (d := 1) (w := (ordB a b).1 - (ordA a b).1) (u := valN (ordA a b) (ordB a b) t) t1 (Int.le_refl _) hle (by omega) (by omega) (by omega) (by rw [Int.mul_one]; exact g2)
  have e1 : ∀ z : Int, z * (80000 * ((ordB a b).1 - (ordA a b).1)) * (1 * 1) = z * 80000 * ((ordB a b).1 - (ordA a b).1) := fun z => by grind
  have e2 : ∀ u : Int, u * 1 - 981 * ((ordB a b).1 - (ordA a b).1) * (t * t) = u - 981 * t * t * ((ordB a b).1 - (ordA a b).1) := fun u => by grind
  rw [e1, e2] at f1 f2
  have s1 : 0 ≤ t * t ∧ t * t ≤ 19360000 := ⟨Int.mul_nonneg t1 t1, sq_le t1 t2⟩
  have e3 : 981 * t * t = 981 * (t * t) := by grind
  refine ⟨?_, ?_, f1, f2⟩
  · unfold fallLo
    rw [if_pos (by omega)]
    omega
  · unfold fallHi
    rw [if_pos (by omega)]
    omega
/-- What the statement on crossings asks of a path that fits. -/
theorem crossedT {l : List SN} {p : TR} (hc : crsE l = 0) (h : fitT l p = true) :
    Crossed l (ordA p.1 p.2.1) (ordB p.1 p.2.1) (ordA p.2.2.1 p.2.2.2.1) (ordB p.2.2.1 p.2.2.2.1) (ordA p.2.2.2.2.1 p.2.2.2.2.2) (ordB p.2.2.2.2.1 p.2.2.2.2.2)
      ((ordA p.1 p.2.1).2 * (ordB p.1 p.2.1).1 - (ordB p.1 p.2.1).2 * (ordA p.1 p.2.1).1) ((ordA p.1 p.2.1).2 - (ordB p.1 p.2.1).2) := by
  obtain ⟨h0, h1, h2⟩ := fitT_parts h
  obtain ⟨_, _, d0, _, f0⟩ := pfB_all h0
  obtain ⟨_, _, d1, _, f1⟩ := pfB_all h1
  obtain ⟨_, _, d2, _, f2⟩ := pfB_all h2
  exact crossed_all hc d0 d1 d2 f0 f1 f2
end Go.Proofs.Ytmdledlbkdcmnaa

/-
  Contracts of the statements' own: whether a path fits; the points of a line in order.
  Conditions: none.
-/
namespace Go.Proofs.Ytmdledlbkdcmnaa
open Go.RowKit
theorem pfV_split (l : List SN) (ax : Int) (a b : Int × Int) : ∃ E : Int, pfV l ax a b = .tuple #[.bool (pfB l ax a b), .int .i64 E] ∧ (pfB l ax a b = true → E = 0) := ⟨pfE l ax a b, rfl, fun h => (pfB_fit h).1⟩
set_option maxRecDepth 100000 in
set_option maxHeartbeats 8000000 in
theorem pathFits_any (v : Value) (l : List SN) (p : TR) (w : World) (h : Seens w v l) : Calls Try.prog 19 #[v, (.agg #[.int .i64 p.1.1, .int .i64 p.1.2, .int .i64 p.2.1.1, .int .i64 p.2.1.2, .int .i64 p.2.2.1.1, .int .i64 p.2.2.1.2, .int .i64 p.2.2.2.1.1, .int .i64 p.2.2.2.1.2, .int .i64 p.2.2.2.2.1.1, .int .i64 p.2.2.2.2.1.2, .int .i64 p.2.2.2.2.2.1, .int .i64 p.2.2.2.2.2.2])] w fun e w' => e = .returned (.bool (fitT l p)) ∧ Below w.heap.size w w' := by
  obtain ⟨E0, q0, z0⟩ := pfV_split l 0 p.1 p.2.1
  obtain ⟨E1, q1, z1⟩ := pfV_split l 1 p.2.2.1 p.2.2.2.1
  obtain ⟨E2, q2, z2⟩ := pfV_split l 2 p.2.2.2.2.1 p.2.2.2.2.2
  have h0 := Lib.hid (fun w' (h : Seens w' v l) => by have := ptfits_any v l 0 p.1 p.2.1 w' h; rwa [q0] at this)
  have h1 := Lib.hid (fun w' (h : Seens w' v l) => by have := ptfits_any v l 1 p.2.2.1 p.2.2.2.1 w' h; rwa [q1] at this)
  have h2 := Lib.hid (fun w' (h : Seens w' v l) => by have := ptfits_any v l 2 p.2.2.2.2.1 p.2.2.2.2.2 w' h; rwa [q2] at this)
  unfold fitT
  clear q0 q1 q2
  generalize pfB l 0 p.1 p.2.1 = B0 at *
  generalize pfB l 1 p.2.2.1 p.2.2.2.1 = B1 at *
  generalize pfB l 2 p.2.2.2.2.1 p.2.2.2.2.2 = B2 at *
  cases B0
  · clear z0 z1 z2
    go_enter Try.func19, Try.ntmps19
    go_wp2_with fail
    refine wp_loop_rounds 4 ?_
    rw [rounds_succ]
    go_wp2_with (go_at_call_of 33 (Value.int IntKind.i64 0); refine (h0.out _ (h.below (by repeat (first | with_reducible exact Below.refl _ _ | with_reducible assumption | with_reducible refine Below.drew ?_ | with_reducible refine Below.setCell ?_ (by first | omega | (simp; omega) | simp) _ | with_reducible refine Below.alloc ?_ (by first | omega | (simp; omega) | simp) _ | with_reducible refine Below.trans ?_ (Below.mono (by with_reducible assumption) (by first | omega | (simp; omega) | simp)))))).mono ?_; rintro e w1 ⟨rfl, hb1⟩; have hS := heap_old hb1 (heap_alloc (X := (.cells #[.int .i64 p.1.1, .int .i64 p.1.2, .int .i64 p.2.1.1, .int .i64 p.2.1.2] 24)) (heap_new (w.alloc (.cells #[.int .i64 p.1.1, .int .i64 p.1.2, .int .i64 p.2.1.1, .int .i64 p.2.1.2, .int .i64 p.2.2.1.1, .int .i64 p.2.2.1.2, .int .i64 p.2.2.2.1.1, .int .i64 p.2.2.2.1.2, .int .i64 p.2.2.2.2.1.1, .int .i64 p.2.2.2.2.1.2, .int .i64 p.2.2.2.2.2.1, .int .i64 p.2.2.2.2.2.2] 26)) (.cells #[.int .i64 p.1.1, .int .i64 p.1.2, .int .i64 p.2.1.1, .int .i64 p.2.1.2, .int .i64 p.2.2.1.1, .int .i64 p.2.2.1.2, .int .i64 p.2.2.2.1.1, .int .i64 p.2.2.2.1.2, .int .i64 p.2.2.2.2.1.1, .int .i64 p.2.2.2.2.1.2, .int .i64 p.2.2.2.2.2.1, .int .i64 p.2.2.2.2.2.2] 24) (b := w.heap.size + 1) (by simp))); have hK : Below w.heap.size w w1 := Below.trans (by repeat (first | with_reducible exact Below.refl _ _ | with_reducible assumption | with_reducible refine Below.drew ?_ | with_reducible refine Below.setCell ?_ (by first | omega | (simp; omega) | simp) _ | with_reducible refine Below.alloc ?_ (by first | omega | (simp; omega) | simp) _ | with_reducible refine Below.trans ?_ (Below.mono (by with_reducible assumption) (by first | omega | (simp; omega) | simp)))) (hb1.mono (by simp; omega)); clear hb1; (have s0 := cell_heap (o := 0) hS rfl; have s1 := cell_heap (o := 1) hS rfl; have s2 := cell_heap (o := 2) hS rfl; have s3 := cell_heap (o := 3) hS rfl; have s4 := cell_heap (o := 4) hS rfl; have s5 := cell_heap (o := 5) hS rfl; have s6 := cell_heap (o := 6) hS rfl; have s7 := cell_heap (o := 7) hS rfl; have s8 := cell_heap (o := 8) hS rfl; have s9 := cell_heap (o := 9) hS rfl; have s10 := cell_heap (o := 10) hS rfl; have s11 := cell_heap (o := 11) hS rfl))
    go_ret
    exact ⟨rfl, hK⟩
  · obtain rfl := z0 rfl
    clear z0
    cases B1
    · clear z1 z2
      go_enter Try.func19, Try.ntmps19
      go_wp2_with fail
      refine wp_loop_rounds 4 ?_
      rw [rounds_succ]
      go_wp2_with (go_at_call_of 33 (Value.int IntKind.i64 0); refine (h0.out _ (h.below (by repeat (first | with_reducible exact Below.refl _ _ | with_reducible assumption | with_reducible refine Below.drew ?_ | with_reducible refine Below.setCell ?_ (by first | omega | (simp; omega) | simp) _ | with_reducible refine Below.alloc ?_ (by first | omega | (simp; omega) | simp) _ | with_reducible refine Below.trans ?_ (Below.mono (by with_reducible assumption) (by first | omega | (simp; omega) | simp)))))).mono ?_; rintro e w1 ⟨rfl, hb1⟩; have hS := heap_old hb1 (heap_alloc (X := (.cells #[.int .i64 p.1.1, .int .i64 p.1.2, .int .i64 p.2.1.1, .int .i64 p.2.1.2] 24)) (heap_new (w.alloc (.cells #[.int .i64 p.1.1, .int .i64 p.1.2, .int .i64 p.2.1.1, .int .i64 p.2.1.2, .int .i64 p.2.2.1.1, .int .i64 p.2.2.1.2, .int .i64 p.2.2.2.1.1, .int .i64 p.2.2.2.1.2, .int .i64 p.2.2.2.2.1.1, .int .i64 p.2.2.2.2.1.2, .int .i64 p.2.2.2.2.2.1, .int .i64 p.2.2.2.2.2.2] 26)) (.cells #[.int .i64 p.1.1, .int .i64 p.1.2, .int .i64 p.2.1.1, .int .i64 p.2.1.2, .int .i64 p.2.2.1.1, .int .i64 p.2.2.1.2, .int .i64 p.2.2.2.1.1, .int .i64 p.2.2.2.1.2, .int .i64 p.2.2.2.2.1.1, .int .i64 p.2.2.2.2.1.2, .int .i64 p.2.2.2.2.2.1, .int .i64 p.2.2.2.2.2.2] 24) (b := w.heap.size + 1) (by simp))); have hK : Below w.heap.size w w1 := Below.trans (by repeat (first | with_reducible exact Below.refl _ _ | with_reducible assumption | with_reducible refine Below.drew ?_ | with_reducible refine Below.setCell ?_ (by first | omega | (simp; omega) | simp) _ | with_reducible refine Below.alloc ?_ (by first | omega | (simp; omega) | simp) _ | with_reducible refine Below.trans ?_ (Below.mono (by with_reducible assumption) (by first | omega | (simp; omega) | simp)))) (hb1.mono (by simp; omega)); clear hb1; (have s0 := cell_heap (o := 0) hS rfl; have s1 := cell_heap (o := 1) hS rfl; have s2 := cell_heap (o := 2) hS rfl; have s3 := cell_heap (o := 3) hS rfl; have s4 := cell_heap (o := 4) hS rfl; have s5 := cell_heap (o := 5) hS rfl; have s6 := cell_heap (o := 6) hS rfl; have s7 := cell_heap (o := 7) hS rfl; have s8 := cell_heap (o := 8) hS rfl; have s9 := cell_heap (o := 9) hS rfl; have s10 := cell_heap (o := 10) hS rfl; have s11 := cell_heap (o := 11) hS rfl))
      rw [rounds_succ]
      go_wp2_with (go_at_call_of 33 (Value.int IntKind.i64 1); refine (h1.out _ ((h.below hK).below (Below.alloc (Below.refl _ _) (Nat.le_refl _) (.cells #[.int .i64 p.2.2.1.1, .int .i64 p.2.2.1.2, .int .i64 p.2.2.2.1.1, .int .i64 p.2.2.2.1.2] 24)))).mono ?_; rintro e w2 ⟨rfl, hb2⟩; replace hS := heap_old hb2 (heap_alloc (X := (.cells #[.int .i64 p.2.2.1.1, .int .i64 p.2.2.1.2, .int .i64 p.2.2.2.1.1, .int .i64 p.2.2.2.1.2] 24)) hS); replace hK := Below.next1 hK (Nat.le_refl _) hb2; clear hb2; (clear s0 s1 s2 s3 s4 s5 s6 s7 s8 s9 s10 s11); (have s0 := cell_heap (o := 0) hS rfl; have s1 := cell_heap (o := 1) hS rfl; have s2 := cell_heap (o := 2) hS rfl; have s3 := cell_heap (o := 3) hS rfl; have s4 := cell_heap (o := 4) hS rfl; have s5 := cell_heap (o := 5) hS rfl; have s6 := cell_heap (o := 6) hS rfl; have s7 := cell_heap (o := 7) hS rfl; have s8 := cell_heap (o := 8) hS rfl; have s9 := cell_heap (o := 9) hS rfl; have s10 := cell_heap (o := 10) hS rfl; have s11 := cell_heap (o := 11) hS rfl))
      go_ret
      exact ⟨rfl, hK⟩
    · obtain rfl := z1 rfl
      clear z1
      cases B2
      · clear z2
        go_enter Try.func19, Try.ntmps19
        go_wp2_with fail
        refine wp_loop_rounds 4 ?_
        rw [rounds_succ]
        go_wp2_with (go_at_call_of 33 (Value.int IntKind.i64 0); refine (h0.out _ (h.below (by repeat (first | with_reducible exact Below.refl _ _ | with_reducible assumption | with_reducible refine Below.drew ?_ | with_reducible refine Below.setCell ?_ (by first | omega | (simp; omega) | simp) _ | with_reducible refine Below.alloc ?_ (by first | omega | (simp; omega) | simp) _ | with_reducible refine Below.trans ?_ (Below.mono (by with_reducible assumption) (by first | omega | (simp; omega) | simp)))))).mono ?_; rintro e w1 ⟨rfl, hb1⟩; have hS := heap_old hb1 (heap_alloc (X := (.cells #[.int .i64 p.1.1, .int .i64 p.1.2, .int .i64 p.2.1.1, .int .i64 p.2.1.2] 24)) (heap_new (w.alloc (.cells #[.int .i64 p.1.1, .int .i64 p.1.2, .int .i64 p.2.1.1, .int .i64 p.2.1.2, .int .i64 p.2.2.1.1, .int .i64 p.2.2.1.2, .int .i64 p.2.2.2.1.1, .int .i64 p.2.2.2.1.2, .int .i64 p.2.2.2.2.1.1, .int .i64 p.2.2.2.2.1.2, .int .i64 p.2.2.2.2.2.1, .int .i64 p.2.2.2.2.2.2] 26)) (.cells #[.int .i64 p.1.1, .int .i64 p.1.2, .int .i64 p.2.1.1, .int .i64 p.2.1.2, .int .i64 p.2.2.1.1, .int .i64 p.2.2.1.2, .int .i64 p.2.2.2.1.1, .int .i64 p.2.2.2.1.2, .int .i64 p.2.2.2.2.1.1, .int .i64 p.2.2.2.2.1.2, .int .i64 p.2.2.2.2.2.1, .int .i64 p.2.2.2.2.2.2] 24) (b := w.heap.size + 1) (by simp))); have hK : Below w.heap.size w w1 := Below.trans (by repeat (first | with_reducible exact Below.refl _ _ | with_reducible assumption | with_reducible refine Below.drew ?_ | with_reducible refine Below.setCell ?_ (by first | omega | (simp; omega) | simp) _ | with_reducible refine Below.alloc ?_ (by first | omega | (simp; omega) | simp) _ | with_reducible refine Below.trans ?_ (Below.mono (by with_reducible assumption) (by first | omega | (simp; omega) | simp)))) (hb1.mono (by simp; omega)); clear hb1; (have s0 := cell_heap (o := 0) hS rfl; have s1 := cell_heap (o := 1) hS rfl; have s2 := cell_heap (o := 2) hS rfl; have s3 := cell_heap (o := 3) hS rfl; have s4 := cell_heap (o := 4) hS rfl; have s5 := cell_heap (o := 5) hS rfl; have s6 := cell_heap (o := 6) hS rfl; have s7 := cell_heap (o := 7) hS rfl; have s8 := cell_heap (o := 8) hS rfl; have s9 := cell_heap (o := 9) hS rfl; have s10 := cell_heap (o := 10) hS rfl; have s11 := cell_heap (o := 11) hS rfl))
        rw [rounds_succ]
        go_wp2_with (go_at_call_of 33 (Value.int IntKind.i64 1); refine (h1.out _ ((h.below hK).below (Below.alloc (Below.refl _ _) (Nat.le_refl _) (.cells #[.int .i64 p.2.2.1.1, .int .i64 p.2.2.1.2, .int .i64 p.2.2.2.1.1, .int .i64 p.2.2.2.1.2] 24)))).mono ?_; rintro e w2 ⟨rfl, hb2⟩; replace hS := heap_old hb2 (heap_alloc (X := (.cells #[.int .i64 p.2.2.1.1, .int .i64 p.2.2.1.2, .int .i64 p.2.2.2.1.1, .int .i64 p.2.2.2.1.2] 24)) hS); replace hK := Below.next1 hK (Nat.le_refl _) hb2; clear hb2; (clear s0 s1 s2 s3 s4 s5 s6 s7 s8 s9 s10 s11); (have s0 := cell_heap (o := 0) hS rfl; have s1 := cell_heap (o := 1) hS rfl; have s2 := cell_heap (o := 2) hS rfl; have s3 := cell_heap (o := 3) hS rfl; have s4 := cell_heap (o := 4) hS rfl; have s5 := cell_heap (o := 5) hS rfl; have s6 := cell_heap (o := 6) hS rfl; have s7 := cell_heap (o := 7) hS rfl; have s8 := cell_heap (o := 8) hS rfl; have s9 := cell_heap (o := 9) hS rfl; have s10 := cell_heap (o := 10) hS rfl; have s11 := cell_heap (o := 11) hS rfl))
        rw [rounds_succ]
        go_wp2_with (go_at_call_of 33 (Value.int IntKind.i64 2); refine (h2.out _ ((h.below hK).below (Below.alloc (Below.refl _ _) (Nat.le_refl _) _))).mono ?_; rintro e w3 ⟨rfl, hb3⟩; replace hK := Below.next1 hK (Nat.le_refl _) hb3)
        go_ret
        exact ⟨rfl, hK⟩
      · obtain rfl := z2 rfl
        clear z2
        go_enter Try.func19, Try.ntmps19
        go_wp2_with fail
        refine wp_loop_rounds 4 ?_
        rw [rounds_succ]
        go_wp2_with (go_at_call_of 33 (Value.int IntKind.i64 0); refine (h0.out _ (h.below (by repeat (first | with_reducible exact Below.refl _ _ | with_reducible assumption | with_reducible refine Below.drew ?_ | with_reducible refine Below.setCell ?_ (by first | omega | (simp; omega) | simp) _ | with_reducible refine Below.alloc ?_ (by first | omega | (simp; omega) | simp) _ | with_reducible refine Below.trans ?_ (Below.mono (by with_reducible assumption) (by first | omega | (simp; omega) | simp)))))).mono ?_; rintro e w1 ⟨rfl, hb1⟩; have hS := heap_old hb1 (heap_alloc (X := (.cells #[.int .i64 p.1.1, .int .i64 p.1.2, .int .i64 p.2.1.1, .int .i64 p.2.1.2] 24)) (heap_new (w.alloc (.cells #[.int .i64 p.1.1, .int .i64 p.1.2, .int .i64 p.2.1.1, .int .i64 p.2.1.2, .int .i64 p.2.2.1.1, .int .i64 p.2.2.1.2, .int .i64 p.2.2.2.1.1, .int .i64 p.2.2.2.1.2, .int .i64 p.2.2.2.2.1.1, .int .i64 p.2.2.2.2.1.2, .int .i64 p.2.2.2.2.2.1, .int .i64 p.2.2.2.2.2.2] 26)) (.cells #[.int .i64 p.1.1, .int .i64 p.1.2, .int .i64 p.2.1.1, .int .i64 p.2.1.2, .int .i64 p.2.2.1.1, .int .i64 p.2.2.1.2, .int .i64 p.2.2.2.1.1, .int .i64 p.2.2.2.1.2, .int .i64 p.2.2.2.2.1.1, .int .i64 p.2.2.2.2.1.2, .int .i64 p.2.2.2.2.2.1, .int .i64 p.2.2.2.2.2.2] 24) (b := w.heap.size + 1) (by simp))); have hK : Below w.heap.size w w1 := Below.trans (by repeat (first | with_reducible exact Below.refl _ _ | with_reducible assumption | with_reducible refine Below.drew ?_ | with_reducible refine Below.setCell ?_ (by first | omega | (simp; omega) | simp) _ | with_reducible refine Below.alloc ?_ (by first | omega | (simp; omega) | simp) _ | with_reducible refine Below.trans ?_ (Below.mono (by with_reducible assumption) (by first | omega | (simp; omega) | simp)))) (hb1.mono (by simp; omega)); clear hb1; (have s0 := cell_heap (o := 0) hS rfl; have s1 := cell_heap (o := 1) hS rfl; have s2 := cell_heap (o := 2) hS rfl; have s3 := cell_heap (o := 3) hS rfl; have s4 := cell_heap (o := 4) hS rfl; have s5 := cell_heap (o := 5) hS rfl; have s6 := cell_heap (o := 6) hS rfl; have s7 := cell_heap (o := 7) hS rfl; have s8 := cell_heap (o := 8) hS rfl; have s9 := cell_heap (o := 9) hS rfl; have s10 := cell_heap (o := 10) hS rfl; have s11 := cell_heap (o := 11) hS rfl))
        rw [rounds_succ]
        go_wp2_with (go_at_call_of 33 (Value.int IntKind.i64 1); refine (h1.out _ ((h.below hK).below (Below.alloc (Below.refl _ _) (Nat.le_refl _) (.cells #[.int .i64 p.2.2.1.1, .int .i64 p.2.2.1.2, .int .i64 p.2.2.2.1.1, .int .i64 p.2.2.2.1.2] 24)))).mono ?_; rintro e w2 ⟨rfl, hb2⟩; replace hS := heap_old hb2 (heap_alloc (X := (.cells #[.int .i64 p.2.2.1.1, .int .i64 p.2.2.1.2, .int .i64 p.2.2.2.1.1, .int .i64 p.2.2.2.1.2] 24)) hS); replace hK := Below.next1 hK (Nat.le_refl _) hb2; clear hb2; (clear s0 s1 s2 s3 s4 s5 s6 s7 s8 s9 s10 s11); (have s0 := cell_heap (o := 0) hS rfl; have s1 := cell_heap (o := 1) hS rfl; have s2 := cell_heap (o := 2) hS rfl; have s3 := cell_heap (o := 3) hS rfl; have s4 := cell_heap (o := 4) hS rfl; have s5 := cell_heap (o := 5) hS rfl; have s6 := cell_heap (o := 6) hS rfl; have s7 := cell_heap (o := 7) hS rfl; have s8 := cell_heap (o := 8) hS rfl; have s9 := cell_heap (o := 9) hS rfl; have s10 := cell_heap (o := 10) hS rfl; have s11 := cell_heap (o := 11) hS rfl))
        rw [rounds_succ]
        go_wp2_with (go_at_call_of 33 (Value.int IntKind.i64 2); refine (h2.out _ ((h.below hK).below (Below.alloc (Below.refl _ _) (Nat.le_refl _) _))).mono ?_; rintro e w3 ⟨rfl, hb3⟩; replace hK := Below.next1 hK (Nat.le_refl _) hb3)
        rw [rounds_succ]
        go_wp2_with fail
        go_ret
        exact ⟨rfl, hK⟩
set_option maxRecDepth 100000 in
set_option maxHeartbeats 8000000 in
theorem lfits_any (v : Value) (l : List SN) (p : TR) (w : World) (h : Seens w v l) : Calls Try.prog 40 #[v, (.agg #[.int .i64 p.1.1, .int .i64 p.1.2, .int .i64 p.2.1.1, .int .i64 p.2.1.2, .int .i64 p.2.2.1.1, .int .i64 p.2.2.1.2, .int .i64 p.2.2.2.1.1, .int .i64 p.2.2.2.1.2, .int .i64 p.2.2.2.2.1.1, .int .i64 p.2.2.2.2.1.2, .int .i64 p.2.2.2.2.2.1, .int .i64 p.2.2.2.2.2.2])] w fun e w' => e = .returned (.bool (fitT l p)) ∧ Below w.heap.size w w' := by
  obtain ⟨E0, q0, z0⟩ := pfV_split l 0 p.1 p.2.1
  obtain ⟨E1, q1, z1⟩ := pfV_split l 1 p.2.2.1 p.2.2.2.1
  obtain ⟨E2, q2, z2⟩ := pfV_split l 2 p.2.2.2.2.1 p.2.2.2.2.2
  have h0 := Lib.hid (fun w' (h : Seens w' v l) => by have := ptfits_any v l 0 p.1 p.2.1 w' h; rwa [q0] at this)
  have h1 := Lib.hid (fun w' (h : Seens w' v l) => by have := ptfits_any v l 1 p.2.2.1 p.2.2.2.1 w' h; rwa [q1] at this)
  have h2 := Lib.hid (fun w' (h : Seens w' v l) => by have := ptfits_any v l 2 p.2.2.2.2.1 p.2.2.2.2.2 w' h; rwa [q2] at this)
  unfold fitT
  clear q0 q1 q2
  generalize pfB l 0 p.1 p.2.1 = B0 at *
  generalize pfB l 1 p.2.2.1 p.2.2.2.1 = B1 at *
  generalize pfB l 2 p.2.2.2.2.1 p.2.2.2.2.2 = B2 at *
  cases B0
  · clear z0 z1 z2
    go_enter Try.func40, Try.ntmps40
    go_wp2_with fail
    refine wp_loop_rounds 4 ?_
    rw [rounds_succ]
    go_wp2_with (go_at_call_of 33 (Value.int IntKind.i64 0); refine (h0.out _ (h.below (by repeat (first | with_reducible exact Below.refl _ _ | with_reducible assumption | with_reducible refine Below.drew ?_ | with_reducible refine Below.setCell ?_ (by first | omega | (simp; omega) | simp) _ | with_reducible refine Below.alloc ?_ (by first | omega | (simp; omega) | simp) _ | with_reducible refine Below.trans ?_ (Below.mono (by with_reducible assumption) (by first | omega | (simp; omega) | simp)))))).mono ?_; rintro e w1 ⟨rfl, hb1⟩; have hS := heap_old hb1 (heap_alloc (X := (.cells #[.int .i64 p.1.1, .int .i64 p.1.2, .int .i64 p.2.1.1, .int .i64 p.2.1.2] 24)) (heap_new (w.alloc (.cells #[.int .i64 p.1.1, .int .i64 p.1.2, .int .i64 p.2.1.1, .int .i64 p.2.1.2, .int .i64 p.2.2.1.1, .int .i64 p.2.2.1.2, .int .i64 p.2.2.2.1.1, .int .i64 p.2.2.2.1.2, .int .i64 p.2.2.2.2.1.1, .int .i64 p.2.2.2.2.1.2, .int .i64 p.2.2.2.2.2.1, .int .i64 p.2.2.2.2.2.2] 26)) (.cells #[.int .i64 p.1.1, .int .i64 p.1.2, .int .i64 p.2.1.1, .int .i64 p.2.1.2, .int .i64 p.2.2.1.1, .int .i64 p.2.2.1.2, .int .i64 p.2.2.2.1.1, .int .i64 p.2.2.2.1.2, .int .i64 p.2.2.2.2.1.1, .int .i64 p.2.2.2.2.1.2, .int .i64 p.2.2.2.2.2.1, .int .i64 p.2.2.2.2.2.2] 24) (b := w.heap.size + 1) (by simp))); have hK : Below w.heap.size w w1 := Below.trans (by repeat (first | with_reducible exact Below.refl _ _ | with_reducible assumption | with_reducible refine Below.drew ?_ | with_reducible refine Below.setCell ?_ (by first | omega | (simp; omega) | simp) _ | with_reducible refine Below.alloc ?_ (by first | omega | (simp; omega) | simp) _ | with_reducible refine Below.trans ?_ (Below.mono (by with_reducible assumption) (by first | omega | (simp; omega) | simp)))) (hb1.mono (by simp; omega)); clear hb1; (have s0 := cell_heap (o := 0) hS rfl; have s1 := cell_heap (o := 1) hS rfl; have s2 := cell_heap (o := 2) hS rfl; have s3 := cell_heap (o := 3) hS rfl; have s4 := cell_heap (o := 4) hS rfl; have s5 := cell_heap (o := 5) hS rfl; have s6 := cell_heap (o := 6) hS rfl; have s7 := cell_heap (o := 7) hS rfl; have s8 := cell_heap (o := 8) hS rfl; have s9 := cell_heap (o := 9) hS rfl; have s10 := cell_heap (o := 10) hS rfl; have s11 := cell_heap (o := 11) hS rfl))
    go_ret
    exact ⟨rfl, hK⟩
  · obtain rfl := z0 rfl
    clear z0
    cases B1
    · clear z1 z2
      go_enter Try.func40, Try.ntmps40
      go_wp2_with fail
      refine wp_loop_rounds 4 ?_
      rw [rounds_succ]
      go_wp2_with (go_at_call_of 33 (Value.int IntKind.i64 0); refine (h0.out _ (h.below (by repeat (first | with_reducible exact Below.refl _ _ | with_reducible assumption | with_reducible refine Below.drew ?_ | with_reducible refine Below.setCell ?_ (by first | omega | (simp; omega) | simp) _ | with_reducible refine Below.alloc ?_ (by first | omega | (simp; omega) | simp) _ | with_reducible refine Below.trans ?_ (Below.mono (by with_reducible assumption) (by first | omega | (simp; omega) | simp)))))).mono ?_; rintro e w1 ⟨rfl, hb1⟩; have hS := heap_old hb1 (heap_alloc (X := (.cells #[.int .i64 p.1.1, .int .i64 p.1.2, .int .i64 p.2.1.1, .int .i64 p.2.1.2] 24)) (heap_new (w.alloc (.cells #[.int .i64 p.1.1, .int .i64 p.1.2, .int .i64 p.2.1.1, .int .i64 p.2.1.2, .int .i64 p.2.2.1.1, .int .i64 p.2.2.1.2, .int .i64 p.2.2.2.1.1, .int .i64 p.2.2.2.1.2, .int .i64 p.2.2.2.2.1.1, .int .i64 p.2.2.2.2.1.2, .int .i64 p.2.2.2.2.2.1, .int .i64 p.2.2.2.2.2.2] 26)) (.cells #[.int .i64 p.1.1, .int .i64 p.1.2, .int .i64 p.2.1.1, .int .i64 p.2.1.2, .int .i64 p.2.2.1.1, .int .i64 p.2.2.1.2, .int .i64 p.2.2.2.1.1, .int .i64 p.2.2.2.1.2, .int .i64 p.2.2.2.2.1.1, .int .i64 p.2.2.2.2.1.2, .int .i64 p.2.2.2.2.2.1, .int .i64 p.2.2.2.2.2.2] 24) (b := w.heap.size + 1) (by simp))); have hK : Below w.heap.size w w1 := Below.trans (by repeat (first | with_reducible exact Below.refl _ _ | with_reducible assumption | with_reducible refine Below.drew ?_ | with_reducible refine Below.setCell ?_ (by first | omega | (simp; omega) | simp) _ | with_reducible refine Below.alloc ?_ (by first | omega | (simp; omega) | simp) _ | with_reducible refine Below.trans ?_ (Below.mono (by with_reducible assumption) (by first | omega | (simp; omega) | simp)))) (hb1.mono (by simp; omega)); clear hb1; (have s0 := cell_heap (o := 0) hS rfl; have s1 := cell_heap (o := 1) hS rfl; have s2 := cell_heap (o := 2) hS rfl; have s3 := cell_heap (o := 3) hS rfl; have s4 := cell_heap (o := 4) hS rfl; have s5 := cell_heap (o := 5) hS rfl; have s6 := cell_heap (o := 6) hS rfl; have s7 := cell_heap (o := 7) hS rfl; have s8 := cell_heap (o := 8) hS rfl; have s9 := cell_heap (o := 9) hS rfl; have s10 := cell_heap (o := 10) hS rfl; have s11 := cell_heap (o := 11) hS rfl))
      rw [rounds_succ]
      go_wp2_with (go_at_call_of 33 (Value.int IntKind.i64 1); refine (h1.out _ ((h.below hK).below (Below.alloc (Below.refl _ _) (Nat.le_refl _) (.cells #[.int .i64 p.2.2.1.1, .int .i64 p.2.2.1.2, .int .i64 p.2.2.2.1.1, .int .i64 p.2.2.2.1.2] 24)))).mono ?_; rintro e w2 ⟨rfl, hb2⟩; replace hS := heap_old hb2 (heap_alloc (X := (.cells #[.int .i64 p.2.2.1.1, .int .i64 p.2.2.1.2, .int .i64 p.2.2.2.1.1, .int .i64 p.2.2.2.1.2] 24)) hS); replace hK := Below.next1 hK (Nat.le_refl _) hb2; clear hb2; (clear s0 s1 s2 s3 s4 s5 s6 s7 s8 s9 s10 s11); (have s0 := cell_heap (o := 0) hS rfl; have s1 := cell_heap (o := 1) hS rfl; have s2 := cell_heap (o := 2) hS rfl; have s3 := cell_heap (o := 3) hS rfl; have s4 := cell_heap (o := 4) hS rfl; have s5 := cell_heap (o := 5) hS rfl; have s6 := cell_heap (o := 6) hS rfl; have s7 := cell_heap (o := 7) hS rfl; have s8 := cell_heap (o := 8) hS rfl; have s9 := cell_heap (o := 9) hS rfl; have s10 := cell_heap (o := 10) hS rfl; have s11 := cell_heap (o := 11) hS rfl))
      go_ret
      exact ⟨rfl, hK⟩
    · obtain rfl := z1 rfl
      clear z1
      cases B2
      · clear z2
        go_enter Try.func40, Try.ntmps40
        go_wp2_with fail
        refine wp_loop_rounds 4 ?_
        rw [rounds_succ]
        go_wp2_with (go_at_call_of 33 (Value.int IntKind.i64 0); refine (h0.out _ (h.below (by repeat (first | with_reducible exact Below.refl _ _ | with_reducible assumption | with_reducible refine Below.drew ?_ | with_reducible refine Below.setCell ?_ (by first | omega | (simp; omega) | simp) _ | with_reducible refine Below.alloc ?_ (by first | omega | (simp; omega) | simp) _ | with_reducible refine Below.trans ?_ (Below.mono (by with_reducible assumption) (by first | omega | (simp; omega) | simp)))))).mono ?_; rintro e w1 ⟨rfl, hb1⟩; have hS := heap_old hb1 (heap_alloc (X := (.cells #[.int .i64 p.1.1, .int .i64 p.1.2, .int .i64 p.2.1.1, .int .i64 p.2.1.2] 24)) (heap_new (w.alloc (.cells #[.int .i64 p.1.1, .int .i64 p.1.2, .int .i64 p.2.1.1, .int .i64 p.2.1.2, .int .i64 p.2.2.1.1, .int .i64 p.2.2.1.2, .int .i64 p.2.2.2.1.1, .int .i64 p.2.2.2.1.2, .int .i64 p.2.2.2.2.1.1, .int .i64 p.2.2.2.2.1.2, .int .i64 p.2.2.2.2.2.1, .int .i64 p.2.2.2.2.2.2] 26)) (.cells #[.int .i64 p.1.1, .int .i64 p.1.2, .int .i64 p.2.1.1, .int .i64 p.2.1.2, .int .i64 p.2.2.1.1, .int .i64 p.2.2.1.2, .int .i64 p.2.2.2.1.1, .int .i64 p.2.2.2.1.2, .int .i64 p.2.2.2.2.1.1, .int .i64 p.2.2.2.2.1.2, .int .i64 p.2.2.2.2.2.1, .int .i64 p.2.2.2.2.2.2] 24) (b := w.heap.size + 1) (by simp))); have hK : Below w.heap.size w w1 := Below.trans (by repeat (first | with_reducible exact Below.refl _ _ | with_reducible assumption | with_reducible refine Below.drew ?_ | with_reducible refine Below.setCell ?_ (by first | omega | (simp; omega) | simp) _ | with_reducible refine Below.alloc ?_ (by first | omega | (simp; omega) | simp) _ | with_reducible refine Below.trans ?_ (Below.mono (by with_reducible assumption) (by first | omega | (simp; omega) | simp)))) (hb1.mono (by simp; omega)); clear hb1; (have s0 := cell_heap (o := 0) hS rfl; have s1 := cell_heap (o := 1) hS rfl; have s2 := cell_heap (o := 2) hS rfl; have s3 := cell_heap (o := 3) hS rfl; have s4 := cell_heap (o := 4) hS rfl; have s5 := cell_heap (o := 5) hS rfl; have s6 := cell_heap (o := 6) hS rfl; have s7 := cell_heap (o := 7) hS rfl; have s8 := cell_heap (o := 8) hS rfl; have s9 := cell_heap (o := 9) hS rfl; have s10 := cell_heap (o := 10) hS rfl; have s11 := cell_heap (o := 11) hS rfl))
        rw [rounds_succ]
        go_wp2_with (go_at_call_of 33 (Value.int IntKind.i64 1); refine (h1.out _ ((h.below hK).below (Below.alloc (Below.refl _ _) (Nat.le_refl _) (.cells #[.int .i64 p.2.2.1.1, .int .i64 p.2.2.1.2, .int .i64 p.2.2.2.1.1, .int .i64 p.2.2.2.1.2] 24)))).mono ?_; rintro e w2 ⟨rfl, hb2⟩; replace hS := heap_old hb2 (heap_alloc (X := (.cells #[.int .i64 p.2.2.1.1, .int .i64 p.2.2.1.2, .int .i64 p.2.2.2.1.1, .int .i64 p.2.2.2.1.2] 24)) hS); replace hK := Below.next1 hK (Nat.le_refl _) hb2; clear hb2; (clear s0 s1 s2 s3 s4 s5 s6 s7 s8 s9 s10 s11); (have s0 := cell_heap (o := 0) hS rfl; have s1 := cell_heap (o := 1) hS rfl; have s2 := cell_heap (o := 2) hS rfl; have s3 := cell_heap (o := 3) hS rfl; have s4 := cell_heap (o := 4) hS rfl; have s5 := cell_heap (o := 5) hS rfl; have s6 := cell_heap (o := 6) hS rfl; have s7 := cell_heap (o := 7) hS rfl; have s8 := cell_heap (o := 8) hS rfl; have s9 := cell_heap (o := 9) hS rfl; have s10 := cell_heap (o := 10) hS rfl; have s11 := cell_heap (o := 11) hS rfl))
        rw [rounds_succ]
        go_wp2_with (go_at_call_of 33 (Value.int IntKind.i64 2); refine (h2.out _ ((h.below hK).below (Below.alloc (Below.refl _ _) (Nat.le_refl _) _))).mono ?_; rintro e w3 ⟨rfl, hb3⟩; replace hK := Below.next1 hK (Nat.le_refl _) hb3)
        go_ret
        exact ⟨rfl, hK⟩
      · obtain rfl := z2 rfl
        clear z2
        go_enter Try.func40, Try.ntmps40
        go_wp2_with fail
        refine wp_loop_rounds 4 ?_
        rw [rounds_succ]
        go_wp2_with (go_at_call_of 33 (Value.int IntKind.i64 0); refine (h0.out _ (h.below (by repeat (first | with_reducible exact Below.refl _ _ | with_reducible assumption | with_reducible refine Below.drew ?_ | with_reducible refine Below.setCell ?_ (by first | omega | (simp; omega) | simp) _ | with_reducible refine Below.alloc ?_ (by first | omega | (simp; omega) | simp) _ | with_reducible refine Below.trans ?_ (Below.mono (by with_reducible assumption) (by first | omega | (simp; omega) | simp)))))).mono ?_; rintro e w1 ⟨rfl, hb1⟩; have hS := heap_old hb1 (heap_alloc (X := (.cells #[.int .i64 p.1.1, .int .i64 p.1.2, .int .i64 p.2.1.1, .int .i64 p.2.1.2] 24)) (heap_new (w.alloc (.cells #[.int .i64 p.1.1, .int .i64 p.1.2, .int .i64 p.2.1.1, .int .i64 p.2.1.2, .int .i64 p.2.2.1.1, .int .i64 p.2.2.1.2, .int .i64 p.2.2.2.1.1, .int .i64 p.2.2.2.1.2, .int .i64 p.2.2.2.2.1.1, .int .i64 p.2.2.2.2.1.2, .int .i64 p.2.2.2.2.2.1, .int .i64 p.2.2.2.2.2.2] 26)) (.cells #[.int .i64 p.1.1, .int .i64 p.1.2, .int .i64 p.2.1.1, .int .i64 p.2.1.2, .int .i64 p.2.2.1.1, .int .i64 p.2.2.1.2, .int .i64 p.2.2.2.1.1, .int .i64 p.2.2.2.1.2, .int .i64 p.2.2.2.2.1.1, .int .i64 p.2.2.2.2.1.2, .int .i64 p.2.2.2.2.2.1, .int .i64 p.2.2.2.2.2.2] 24) (b := w.heap.size + 1) (by simp))); have hK : Below w.heap.size w w1 := Below.trans (by repeat (first | with_reducible exact Below.refl _ _ | with_reducible assumption | with_reducible refine Below.drew ?_ | with_reducible refine Below.setCell ?_ (by first | omega | (simp; omega) | simp) _ | with_reducible refine Below.alloc ?_ (by first | omega | (simp; omega) | simp) _ | with_reducible refine Below.trans ?_ (Below.mono (by with_reducible assumption) (by first | omega | (simp; omega) | simp)))) (hb1.mono (by simp; omega)); clear hb1; (have s0 := cell_heap (o := 0) hS rfl; have s1 := cell_heap (o := 1) hS rfl; have s2 := cell_heap (o := 2) hS rfl; have s3 := cell_heap (o := 3) hS rfl; have s4 := cell_heap (o := 4) hS rfl; have s5 := cell_heap (o := 5) hS rfl; have s6 := cell_heap (o := 6) hS rfl; have s7 := cell_heap (o := 7) hS rfl; have s8 := cell_heap (o := 8) hS rfl; have s9 := cell_heap (o := 9) hS rfl; have s10 := cell_heap (o := 10) hS rfl; have s11 := cell_heap (o := 11) hS rfl))
        rw [rounds_succ]
        go_wp2_with (go_at_call_of 33 (Value.int IntKind.i64 1); refine (h1.out _ ((h.below hK).below (Below.alloc (Below.refl _ _) (Nat.le_refl _) (.cells #[.int .i64 p.2.2.1.1, .int .i64 p.2.2.1.2, .int .i64 p.2.2.2.1.1, .int .i64 p.2.2.2.1.2] 24)))).mono ?_; rintro e w2 ⟨rfl, hb2⟩; replace hS := heap_old hb2 (heap_alloc (X := (.cells #[.int .i64 p.2.2.1.1, .int .i64 p.2.2.1.2, .int .i64 p.2.2.2.1.1, .int .i64 p.2.2.2.1.2] 24)) hS); replace hK := Below.next1 hK (Nat.le_refl _) hb2; clear hb2; (clear s0 s1 s2 s3 s4 s5 s6 s7 s8 s9 s10 s11); (have s0 := cell_heap (o := 0) hS rfl; have s1 := cell_heap (o := 1) hS rfl; have s2 := cell_heap (o := 2) hS rfl; have s3 := cell_heap (o := 3) hS rfl; have s4 := cell_heap (o := 4) hS rfl; have s5 := cell_heap (o := 5) hS rfl; have s6 := cell_heap (o := 6) hS rfl; have s7 := cell_heap (o := 7) hS rfl; have s8 := cell_heap (o := 8) hS rfl; have s9 := cell_heap (o := 9) hS rfl; have s10 := cell_heap (o := 10) hS rfl; have s11 := cell_heap (o := 11) hS rfl))
        rw [rounds_succ]
        go_wp2_with (go_at_call_of 33 (Value.int IntKind.i64 2); refine (h2.out _ ((h.below hK).below (Below.alloc (Below.refl _ _) (Nat.le_refl _) _))).mono ?_; rintro e w3 ⟨rfl, hb3⟩; replace hK := Below.next1 hK (Nat.le_refl _) hb3)
        rw [rounds_succ]
        go_wp2_with fail
        go_ret
        exact ⟨rfl, hK⟩
theorem ord_split (a b : Int × Int) : (b.1 < a.1 ∧ ordA a b = b ∧ ordB a b = a) ∨ (¬b.1 < a.1 ∧ ordA a b = a ∧ ordB a b = b) := by
  unfold ordA ordB
  by_cases h : b.1 < a.1
  · rw [if_pos h, if_pos h]; exact .inl ⟨h, rfl, rfl⟩
  · rw [if_neg h, if_neg h]; exact .inr ⟨h, rfl, rfl⟩
set_option maxRecDepth 100000 in
set_option maxHeartbeats 4000000 in
theorem ordered_any (a b : Int × Int) (w : World) : Calls Try.prog 59 #[.agg #[.int .i64 a.1, .int .i64 a.2, .int .i64 b.1, .int .i64 b.2]] w fun e w' => e = .returned (.tuple #[.agg #[.int .i64 (ordA a b).1, .int .i64 (ordA a b).2], .agg #[.int .i64 (ordB a b).1, .int .i64 (ordB a b).2]]) ∧ Below w.heap.size w w' := by
  rcases ord_split a b with ⟨hs, e1, e2⟩ | ⟨hs, e1, e2⟩
  · rw [e1, e2]
    clear e1 e2
    go_enter Try.func59, Try.ntmps59
    go_wp2_with fail
    first | go_region_with (fail) | fail
    all_goals
      go_wp2_with fail
      refine bodyPost_ret (v := .tuple #[.agg #[.int .i64 b.1, .int .i64 b.2], .agg #[.int .i64 a.1, .int .i64 a.2]]) (by simp only [results, Try.results59]; go_simp) rfl ⟨rfl, (by repeat (first | with_reducible exact Below.refl _ _ | with_reducible assumption | with_reducible refine Below.drew ?_ | with_reducible refine Below.setCell ?_ (by first | omega | (simp; omega) | simp) _ | with_reducible refine Below.alloc ?_ (by first | omega | (simp; omega) | simp) _ | with_reducible refine Below.trans ?_ (Below.mono (by with_reducible assumption) (by first | omega | (simp; omega) | simp))))⟩
  · rw [e1, e2]
    clear e1 e2
    go_enter Try.func59, Try.ntmps59
    go_wp2_with fail
    first | go_region_with (fail) | fail
    all_goals
      go_wp2_with fail
      refine bodyPost_ret (v := .tuple #[.agg #[.int .i64 a.1, .int .i64 a.2], .agg #[.int .i64 b.1, .int .i64 b.2]]) (by simp only [results, Try.results59]; go_simp) rfl ⟨rfl, (by repeat (first | with_reducible exact Below.refl _ _ | with_reducible assumption | with_reducible refine Below.drew ?_ | with_reducible refine Below.setCell ?_ (by first | omega | (simp; omega) | simp) _ | with_reducible refine Below.alloc ?_ (by first | omega | (simp; omega) | simp) _ | with_reducible refine Below.trans ?_ (Below.mono (by with_reducible assumption) (by first | omega | (simp; omega) | simp))))⟩
set_option maxRecDepth 100000 in
set_option maxHeartbeats 4000000 in
theorem lineValue_any (a b : Int × Int) (t : Int) (w : World) (h : (0 ≤ a.1 ∧ a.1 ≤ 8000) ∧ (-1099511627776 ≤ a.2 ∧ a.2 ≤ 1099511627776) ∧ (0 ≤ b.1 ∧ b.1 ≤ 8000) ∧ (-1099511627776 ≤ b.2 ∧ b.2 ≤ 1099511627776)) (h1 : -10 ≤ t) (h2 : t ≤ 5000) :
    Calls Try.prog 22 #[.agg #[.int .i64 a.1, .int .i64 a.2, .int .i64 b.1, .int .i64 b.2], .int .i64 t] w fun e w' => e = .returned (.tuple #[.int .i64 (valN (ordA a b) (ordB a b) t), .int .i64 ((ordB a b).1 - (ordA a b).1)]) ∧ Below w.heap.size w w' := by
  have hor := Lib.hid (fun w => ordered_any a b w)
  have hb : (0 ≤ (ordA a b).1 ∧ (ordA a b).1 ≤ 8000) ∧ (-1099511627776 ≤ (ordA a b).2 ∧ (ordA a b).2 ≤ 1099511627776) ∧ (0 ≤ (ordB a b).1 ∧ (ordB a b).1 ≤ 8000) ∧ (-1099511627776 ≤ (ordB a b).2 ∧ (ordB a b).2 ≤ 1099511627776) := by
    rcases ord_split a b with ⟨_, e1, e2⟩ | ⟨_, e1, e2⟩
    · rw [e1, e2]; exact ⟨h.2.2.1, h.2.2.2, h.1, h.2.1⟩
    · rw [e1, e2]; exact h
  obtain ⟨⟨v1, v2⟩, v3, v4⟩ := val_bd2 hb h1 h2
  have hve := Lib.hid (show (ordA a b).2 * ((ordB a b).1 - t) + (ordB a b).2 * (t - (ordA a b).1) = valN (ordA a b) (ordB a b) t from rfl)
  obtain ⟨⟨n1, n2⟩, ⟨n3, n4⟩, ⟨n5, n6⟩, n7, n8⟩ := hb
  generalize ordA a b = A at *
  generalize ordB a b = B at *
  clear h
  go_enter Try.func22, Try.ntmps22
  go_wp2_with (go_at_call 59; refine (hor.out _).mono ?_; rintro e w1 ⟨rfl, hb1⟩; have hK := Below.next1 (Below.refl w.heap.size w) (Nat.le_refl _) hb1; clear hb1)
  have hA : (w1.alloc (.cells #[.int .i64 A.1, .int .i64 A.2] 23)).heap[w1.heap.size]? = some (.cells #[.int .i64 A.1, .int .i64 A.2] 23) := heap_new _ _ rfl
  have hA2 := heap_alloc (X := .cells #[.int .i64 B.1, .int .i64 B.2] 23) hA
  have hB2 : ((w1.alloc (.cells #[.int .i64 A.1, .int .i64 A.2] 23)).alloc (.cells #[.int .i64 B.1, .int .i64 B.2] 23)).heap[w1.heap.size + 1]? = some (.cells #[.int .i64 B.1, .int .i64 B.2] 23) := heap_new _ _ (by simp)
  have a0 := cell_heap (o := 0) hA2 rfl
  have a1 := cell_heap (o := 1) hA2 rfl
  have b0 := cell_heap (o := 0) hB2 rfl
  have b1 := cell_heap (o := 1) hB2 rfl
  have hK2 : Below w.heap.size w ((w1.alloc (.cells #[.int .i64 A.1, .int .i64 A.2] 23)).alloc (.cells #[.int .i64 B.1, .int .i64 B.2] 23)) := (hK.alloc hK.size _).alloc (by have := hK.size; simp; omega) _
  clear hA hA2 hB2
  generalize (w1.alloc _).alloc _ = w2 at *
  generalize w1.heap.size + 1 = kb at *
  generalize w1.heap.size = ka at *
  refine region_still (by kernel_rfl) (by kernel_rfl) ?_; intro W' hW hC; have z0 := (hC ⟨ka, 0, none⟩).trans (a0); have z1 := (hC ⟨ka, 1, none⟩).trans (a1); have z2 := (hC ⟨kb, 0, none⟩).trans (b0); have z3 := (hC ⟨kb, 1, none⟩).trans (b1); replace hW := Lib.hid hW; clear hC; (repeat still_step); refine wpStill_nil ?_; obtain rfl := hW.out; clear hW
  have z1 : IntKind.i64.wrap (B.1 - t) = B.1 - t := kwrap_id (by omega) (by omega)
  have z2 : IntKind.i64.wrap (t - A.1) = t - A.1 := kwrap_id (by omega) (by omega)
  have z3 : IntKind.i64.wrap (B.1 - A.1) = B.1 - A.1 := kwrap_id (by omega) (by omega)
  have z4 : IntKind.i64.wrap (A.2 * (B.1 - t)) = A.2 * (B.1 - t) := kwrap_id (by omega) (by omega)
  have z5 : IntKind.i64.wrap (B.2 * (t - A.1)) = B.2 * (t - A.1) := kwrap_id (by omega) (by omega)
  have z6 : IntKind.i64.wrap (A.2 * (B.1 - t) + B.2 * (t - A.1)) = A.2 * (B.1 - t) + B.2 * (t - A.1) := kwrap_id (by omega) (by omega)
  rw [z1, z2, z3, z4, z5, z6]
  go_wp2_with fail
  go_ret2
  exact ret_ii hve.out rfl (Below.drew hK2)
theorem seenFew_any (v : Value) (l : List SN) (w : World) (h : Seens w v l) : Calls Try.prog 18 #[v] w fun e w' => e = .returned (.bool (decide (l.length ≤ 10))) ∧ Below w.heap.size w w' := by
  obtain ⟨pa, b, o, cap, rfl, h1, h2, h3, h4⟩ := h
  go_enter Try.func18, Try.ntmps18
  go_wp2_with fail
  go_ret
  refine ⟨ret_bool ?_, (by repeat (first | with_reducible exact Below.refl _ _ | with_reducible assumption | with_reducible refine Below.drew ?_ | with_reducible refine Below.setCell ?_ (by first | omega | (simp; omega) | simp) _ | with_reducible refine Below.alloc ?_ (by first | omega | (simp; omega) | simp) _ | with_reducible refine Below.trans ?_ (Below.mono (by with_reducible assumption) (by first | omega | (simp; omega) | simp))))⟩
  grind
theorem name_in : nameB 1 = ⟨#[73, 78]⟩ := by decide
theorem raise_ex : raiseV 20 300 = 24392400 := by decide
set_option maxRecDepth 100000 in
theorem trackAwake_any (w : World) : Calls Try.prog 17 #[] w fun e w' => e = .returned (.bool true) ∧ Below w.heap.size w w' := by
  have hn := Lib.hid (fun w => by have := name_any 1 w; rwa [name_in] at this)
  have hr := Lib.hid (fun w => by have := raise_any 20 300 w; rwa [raise_ex] at this)
  have ha := Lib.hid (fun w => around_any 10 3 (by omega) (by omega) (by omega) (by omega) w)
  go_enter Try.func17, Try.ntmps17
  go_wp2_with (first
    | (go_at_call 52; refine (ha.out _).mono ?_; rintro e w1 ⟨rfl, hb1⟩)
    | (go_at_call 53; refine (hr.out _).mono ?_; rintro e w2 ⟨rfl, rfl⟩)
    | (go_at_call 54; refine (hn.out _).mono ?_; rintro e w3 ⟨rfl, rfl⟩))
  go_ret
  exact ⟨rfl, hb1.alloc hb1.size _⟩
end Go.Proofs.Ytmdledlbkdcmnaa
