/-
  Laws of enclosures in plain Lean: what fits lies within, the ends are attained, no lower line lies above an upper one.
  Conditions: none.
-/
import Derived.Test.YtmdledlbkdcmnaaHelly
namespace Go.Proofs.Ytmdledlbkdcmnaa
open Go.RowKit
/-- The value at a time of the line through two points, times the distance of their times. -/
def valN (a b : Int × Int) (t : Int) : Int := a.2 * (b.1 - t) + b.2 * (t - a.1)
theorem val_mid (a b : Int × Int) (u t w : Int) : valN a b t * (w - u) = valN a b u * (w - t) + valN a b w * (t - u) := by unfold valN; grind
def fitO (a b : Int × Int) (o : BD) : Bool := decide (o.2.1 * (b.1 - a.1) ≤ valN a b o.1) && decide (valN a b o.1 ≤ o.2.2 * (b.1 - a.1))
def fitL (l : List BD) (a b : Int × Int) : Bool := l.all (fitO a b)
theorem fitO_iff {a b : Int × Int} {o : BD} : fitO a b o = true ↔ o.2.1 * (b.1 - a.1) ≤ valN a b o.1 ∧ valN a b o.1 ≤ o.2.2 * (b.1 - a.1) := by
  unfold fitO; simp only [Bool.and_eq_true, decide_eq_true_eq]
theorem fitL_mem {l : List BD} {a b : Int × Int} (h : fitL l a b = true) {o : BD} (ho : o ∈ l) : o.2.1 * (b.1 - a.1) ≤ valN a b o.1 ∧ valN a b o.1 ≤ o.2.2 * (b.1 - a.1) :=
  fitO_iff.1 (List.all_eq_true.1 h o ho)
theorem mulL {a b c : Int} (h : a ≤ b) (hc : 0 ≤ c) : c * a ≤ c * b := Int.mul_le_mul_of_nonneg_left h hc
/-- If a line fits, each three fit. -/
theorem fits_three {a b : Int × Int} {u v w : BD} (hd : a.1 < b.1) (hu : fitO a b u = true) (hv : fitO a b v = true) (hw : fitO a b w = true) (h1 : u.1 ≤ v.1) (h2 : v.1 ≤ w.1) : three u v w = true := by
  rw [fitO_iff] at hu hv hw
  have e := val_mid a b u.1 v.1 w.1
  unfold three
  simp only [Bool.and_eq_true, decide_eq_true_eq]
  generalize valN a b u.1 = x at *
  generalize valN a b v.1 = y at *
  generalize valN a b w.1 = z at *
  obtain ⟨D, hD⟩ : ∃ D, b.1 - a.1 = D := ⟨_, rfl⟩
  rw [hD] at hu hv hw
  have a1 := mulL hu.1 (c := w.1 - v.1) (by omega)
  have a2 := mulL hu.2 (c := w.1 - v.1) (by omega)
  have b1 := mulL hv.1 (c := w.1 - u.1) (by omega)
  have b2 := mulL hv.2 (c := w.1 - u.1) (by omega)
  have c1 := mulL hw.1 (c := v.1 - u.1) (by omega)
  have c2 := mulL hw.2 (c := v.1 - u.1) (by omega)
  constructor
  · refine Int.le_of_mul_le_mul_left (a := D) ?_ (by omega)
    grind
  · refine Int.le_of_mul_le_mul_left (a := D) ?_ (by omega)
    grind
theorem fitsB_of_line {l : List BD} {a b : Int × Int} (r : RisingB l) (hd : a.1 < b.1) (h : fitL l a b = true) : fitsB l = true := by
  rw [fitsB_iff]
  intro i j k hij hjk hk
  obtain ⟨u, hu⟩ : ∃ u, l[i]? = some u := ⟨_, List.getElem?_eq_getElem (by omega)⟩
  obtain ⟨v, hv⟩ : ∃ v, l[j]? = some v := ⟨_, List.getElem?_eq_getElem (by omega)⟩
  obtain ⟨w, hw⟩ : ∃ w, l[k]? = some w := ⟨_, List.getElem?_eq_getElem (by omega)⟩
  rw [threeAt_some hu hv hw]
  have H := List.all_eq_true.1 h
  exact fits_three hd (H u (List.mem_of_getElem? hu)) (H v (List.mem_of_getElem? hv)) (H w (List.mem_of_getElem? hw)) (Int.le_of_lt (r i j u v hij hu hv)) (Int.le_of_lt (r j k v w hjk hv hw))
/-- Floors and ceilings. -/
theorem fl_le {x : LN} (h : 1 ≤ x.2.2.1) (t : Int) : flL x t * x.2.2.1 ≤ x.2.1 * x.2.2.1 + x.2.2.2 * (t - x.1) := by
  have := Int.ediv_mul_le (x.2.2.2 * (t - x.1)) (show x.2.2.1 ≠ 0 by omega)
  unfold flL
  rw [Int.add_mul]; omega
theorem fl_gt {x : LN} (h : 1 ≤ x.2.2.1) (t : Int) : x.2.1 * x.2.2.1 + x.2.2.2 * (t - x.1) < (flL x t + 1) * x.2.2.1 := by
  have := Int.lt_ediv_add_one_mul_self (x.2.2.2 * (t - x.1)) (show 0 < x.2.2.1 by omega)
  unfold flL
  have e : (x.2.1 + x.2.2.2 * (t - x.1) / x.2.2.1 + 1) * x.2.2.1 = x.2.1 * x.2.2.1 + (x.2.2.2 * (t - x.1) / x.2.2.1 + 1) * x.2.2.1 := by grind
  rw [e]; omega
theorem ce_ge {x : LN} (h : 1 ≤ x.2.2.1) (t : Int) : x.2.1 * x.2.2.1 + x.2.2.2 * (t - x.1) ≤ ceL x t * x.2.2.1 := by
  have := Int.ediv_mul_le (-(x.2.2.2 * (t - x.1))) (show x.2.2.1 ≠ 0 by omega)
  unfold ceL
  rw [Int.add_mul, Int.neg_mul]; omega
theorem ce_lt {x : LN} (h : 1 ≤ x.2.2.1) (t : Int) : (ceL x t - 1) * x.2.2.1 < x.2.1 * x.2.2.1 + x.2.2.2 * (t - x.1) := by
  have := Int.lt_ediv_add_one_mul_self (-(x.2.2.2 * (t - x.1))) (show 0 < x.2.2.1 by omega)
  unfold ceL
  have e : (x.2.1 + -(-(x.2.2.2 * (t - x.1)) / x.2.2.1) - 1) * x.2.2.1 = x.2.1 * x.2.2.1 - (-(x.2.2.2 * (t - x.1)) / x.2.2.1 + 1) * x.2.2.1 := by grind
  rw [e]; omega
theorem loL_val (u v : BD) (t : Int) : (loL u v).2.1 * (loL u v).2.2.1 + (loL u v).2.2.2 * (t - (loL u v).1) = valN (u.1, u.2.2) (v.1, v.2.1) t := by
  unfold loL valN; dsimp only; grind
theorem upL_val (u v : BD) (t : Int) : (upL u v).2.1 * (upL u v).2.2.1 + (upL u v).2.2.2 * (t - (upL u v).1) = valN (u.1, u.2.1) (v.1, v.2.2) t := by
  unfold upL valN; dsimp only; grind
/-- A line that fits lies above each lower line and (by repeat (first | with_reducible exact Below.refl _ _ | with_reducible assumption | with_reducible refine Below.drew ?_ | with_reducible refine Below.setCell ?_ (by first | omega | (simp; omega) | simp) _ | with_reducible refine Below.alloc ?_ (by first | omega | (simp; omega) | simp) _ | with_reducible refine Below.trans ?_ (Below.mono (by with_reducible assumption) (by first | omega | (simp; omega) | simp)))) each upper one behind both. -/
theorem low_under {a b : Int × Int} {u v : BD} {t : Int} (hd : a.1 < b.1) (hu : fitO a b u = true) (hv : fitO a b v = true) (h1 : u.1 < v.1) (h2 : v.1 ≤ t) : flL (loL u v) t * (b.1 - a.1) ≤ valN a b t := by
  rw [fitO_iff] at hu hv
  have e := val_mid a b u.1 v.1 t
  have f := fl_le (x := loL u v) (by unfold loL; dsimp only; omega) t
  rw [loL_val] at f
  have hw : (loL u v).2.2.1 = v.1 - u.1 := rfl
  rw [hw] at f
  generalize flL (loL u v) t = q at *
  unfold valN at f
  dsimp only at f
  generalize valN a b u.1 = x at *
  generalize valN a b v.1 = y at *
  generalize valN a b t = z at *
  obtain ⟨D, hD⟩ : ∃ D, b.1 - a.1 = D := ⟨_, rfl⟩
  rw [hD] at hu hv ⊢
  refine Int.le_of_mul_le_mul_left (a := v.1 - u.1) ?_ (by omega)
  have a1 := mulL hu.2 (c := t - v.1) (by omega)
  have b1 := mulL hv.1 (c := t - u.1) (by omega)
  have c1 := mulL f (c := D) (by omega)
  grind
theorem up_over {a b : Int × Int} {u v : BD} {t : Int} (hd : a.1 < b.1) (hu : fitO a b u = true) (hv : fitO a b v = true) (h1 : u.1 < v.1) (h2 : v.1 ≤ t) : valN a b t ≤ ceL (upL u v) t * (b.1 - a.1) := by
  rw [fitO_iff] at hu hv
  have e := val_mid a b u.1 v.1 t
  have f := ce_ge (x := upL u v) (by unfold upL; dsimp only; omega) t
  rw [upL_val] at f
  have hw : (upL u v).2.2.1 = v.1 - u.1 := rfl
  rw [hw] at f
  generalize ceL (upL u v) t = q at *
  unfold valN at f
  dsimp only at f
  generalize valN a b u.1 = x at *
  generalize valN a b v.1 = y at *
  generalize valN a b t = z at *
  obtain ⟨D, hD⟩ : ∃ D, b.1 - a.1 = D := ⟨_, rfl⟩
  rw [hD] at hu hv ⊢
  refine Int.le_of_mul_le_mul_left (a := v.1 - u.1) ?_ (by omega)
  have a1 := mulL hu.1 (c := t - v.1) (by omega)
  have b1 := mulL hv.2 (c := t - u.1) (by omega)
  have c1 := mulL f (c := D) (by omega)
  grind
/-- What is at or behind all times. -/
def Past (l : List BD) (t : Int) : Prop := ∀ b ∈ l, b.1 ≤ t
theorem lows_ne {l : List BD} (h : 2 ≤ l.length) (f : LN → Int) : (lows l).map f ≠ [] := by
  intro e
  have := prs_ne h
  apply this
  unfold lows at e
  simpa using e
theorem upps_ne {l : List BD} (h : 2 ≤ l.length) (f : LN → Int) : (upps l).map f ≠ [] := by
  intro e
  have := prs_ne h
  apply this
  unfold upps at e
  simpa using e
theorem loR_some {l : List BD} (h : 2 ≤ l.length) (s t : Int) : ∃ (i j : Nat) (u v : BD), i < j ∧ l[i]? = some u ∧ l[j]? = some v ∧ loR l s t = loP s t (loL u v) := by
  obtain ⟨h1, _⟩ := mxl_spec (lows_ne h (loP s t))
  obtain ⟨x, hx, e⟩ := List.mem_map.1 h1
  obtain ⟨i, j, u, v, hij, hu, hv, rfl⟩ := lows_mem.1 hx
  exact ⟨i, j, u, v, hij, hu, hv, e.symm⟩
theorem hiR_some {l : List BD} (h : 2 ≤ l.length) (s t : Int) : ∃ (i j : Nat) (u v : BD), i < j ∧ l[i]? = some u ∧ l[j]? = some v ∧ hiR l s t = hiP s t (upL u v) := by
  obtain ⟨h1, _⟩ := mnl_spec (upps_ne h (hiP s t))
  obtain ⟨x, hx, e⟩ := List.mem_map.1 h1
  obtain ⟨i, j, u, v, hij, hu, hv, rfl⟩ := upps_mem.1 hx
  exact ⟨i, j, u, v, hij, hu, hv, e.symm⟩
theorem loR_all {l : List BD} (s t : Int) {i j : Nat} {u v : BD} (hij : i < j) (hu : l[i]? = some u) (hv : l[j]? = some v) : loP s t (loL u v) ≤ loR l s t := by
  have hm : loP s t (loL u v) ∈ (lows l).map (loP s t) := List.mem_map.2 ⟨_, lows_mem.2 ⟨i, j, u, v, hij, hu, hv, rfl⟩, rfl⟩
  exact (mxl_spec (fun e => by rw [e] at hm; simp at hm)).2 _ hm
theorem hiR_all {l : List BD} (s t : Int) {i j : Nat} {u v : BD} (hij : i < j) (hu : l[i]? = some u) (hv : l[j]? = some v) : hiR l s t ≤ hiP s t (upL u v) := by
  have hm : hiP s t (upL u v) ∈ (upps l).map (hiP s t) := List.mem_map.2 ⟨_, upps_mem.2 ⟨i, j, u, v, hij, hu, hv, rfl⟩, rfl⟩
  exact (mnl_spec (fun e => by rw [e] at hm; simp at hm)).2 _ hm
theorem loP_same (t : Int) (x : LN) : loP t t x = flL x t := by unfold loP; omega
theorem hiP_same (t : Int) (x : LN) : hiP t t x = ceL x t := by unfold hiP; omega
/-- ENCLOSED: a line that fits lies within the range. -/
theorem enclosed {l : List BD} {a b : Int × Int} {t : Int} (r : RisingB l) (h2 : 2 ≤ l.length) (hp : Past l t) (hd : a.1 < b.1) (h : fitL l a b = true) : loR l t t * (b.1 - a.1) ≤ valN a b t ∧ valN a b t ≤ hiR l t t * (b.1 - a.1) := by
  have H := List.all_eq_true.1 h
  constructor
  · obtain ⟨i, j, u, v, hij, hu, hv, e⟩ := loR_some h2 t t
    rw [e, loP_same]
    exact low_under hd (H u (List.mem_of_getElem? hu)) (H v (List.mem_of_getElem? hv)) (r i j u v hij hu hv) (hp v (List.mem_of_getElem? hv))
  · obtain ⟨i, j, u, v, hij, hu, hv, e⟩ := hiR_some h2 t t
    rw [e, hiP_same]
    exact up_over hd (H u (List.mem_of_getElem? hu)) (H v (List.mem_of_getElem? hv)) (r i j u v hij hu hv) (hp v (List.mem_of_getElem? hv))
/-- Bounds in the form of the law of Helly. -/
def bdAt (l : List BD) (i : Nat) : PathLaw.Bd := match l[i]? with
  | some b => ⟨b.1, b.2.1, b.2.2⟩
  | none => ⟨0, 0, 0⟩
theorem bdAt_some {l : List BD} {i : Nat} {b : BD} (h : l[i]? = some b) : bdAt l i = ⟨b.1, b.2.1, b.2.2⟩ := by unfold bdAt; rw [h]
theorem some_of {l : List BD} {i : Nat} (h : i < l.length) : ∃ b, l[i]? = some b := ⟨_, List.getElem?_eq_getElem h⟩
theorem rising_bd {l : List BD} (r : RisingB l) (ho : ∀ b ∈ l, okB b) : PathLaw.Rising l.length (bdAt l) := by
  constructor
  · intro i j hij hj
    obtain ⟨u, hu⟩ := some_of (l := l) (i := i) (by omega)
    obtain ⟨v, hv⟩ := some_of hj
    rw [bdAt_some hu, bdAt_some hv]
    exact r i j u v hij hu hv
  · intro i hi
    obtain ⟨u, hu⟩ := some_of hi
    rw [bdAt_some hu]
    exact (ho u (List.mem_of_getElem? hu)).2.2.1
theorem triples_bd {l : List BD} (h : fitsB l = true) : PathLaw.Triples l.length (bdAt l) := by
  intro i j k hij hjk hk
  obtain ⟨u, hu⟩ := some_of (l := l) (i := i) (by omega)
  obtain ⟨v, hv⟩ := some_of (l := l) (i := j) (by omega)
  obtain ⟨w, hw⟩ := some_of hk
  rw [bdAt_some hu, bdAt_some hv, bdAt_some hw]
  have := fitsB_iff.1 h i j k hij hjk hk
  rw [threeAt_some hu hv hw] at this
  unfold three at this
  simp only [Bool.and_eq_true, decide_eq_true_eq] at this
  exact this
/-- No lower end lies above the upper one. -/
theorem lo_le_hi {l : List BD} {t : Int} (r : RisingB l) (ho : ∀ b ∈ l, okB b) (h2 : 2 ≤ l.length) (hp : Past l t) (h : fitsB l = true) : loR l t t ≤ hiR l t t := by
  obtain ⟨k, m, u, v, hkm, hu, hv, e⟩ := loR_some h2 t t
  obtain ⟨i, j, x, y, hij, hx, hy, f⟩ := hiR_some h2 t t
  have H := PathLaw.helly (triples_bd h) (rising_bd r ho) (T := t) (fun i hi => by
    obtain ⟨b, hb⟩ := some_of hi
    rw [bdAt_some hb]
    exact hp b (List.mem_of_getElem? hb)) hkm (List.getElem?_eq_some_iff.1 hv).1 hij (List.getElem?_eq_some_iff.1 hy).1
  rw [bdAt_some hu, bdAt_some hv, bdAt_some hx, bdAt_some hy] at H
  dsimp only at H
  rw [e, f, loP_same, hiP_same]
  have d1 := r k m u v hkm hu hv
  have d2 := r i j x y hij hx hy
  have a1 := fl_le (x := loL u v) (by unfold loL; dsimp only; omega) t
  have a2 := ce_ge (x := upL x y) (by unfold upL; dsimp only; omega) t
  rw [loL_val] at a1
  rw [upL_val] at a2
  have w1 : (loL u v).2.2.1 = v.1 - u.1 := rfl
  have w2 : (upL x y).2.2.1 = y.1 - x.1 := rfl
  rw [w1] at a1
  rw [w2] at a2
  unfold valN at a1 a2
  dsimp only at a1 a2
  generalize flL (loL u v) t = p at *
  generalize ceL (upL x y) t = q at *
  have b1 := mulL a1 (c := y.1 - x.1) (by omega)
  have b2 := mulL a2 (c := v.1 - u.1) (by omega)
  have hpos : 0 < (v.1 - u.1) * (y.1 - x.1) := Int.mul_pos (by omega) (by omega)
  refine Int.le_of_mul_le_mul_left (a := (v.1 - u.1) * (y.1 - x.1)) ?_ hpos
  grind
/-- All pairs of places. -/
def prN (n : Nat) : List (Nat × Nat) := (List.range n).flatMap fun j => (List.range j).map fun i => (i, j)
theorem prN_mem {n i j : Nat} : (i, j) ∈ prN n ↔ i < j ∧ j < n := by
  unfold prN
  simp only [List.mem_flatMap, List.mem_range, List.mem_map, Prod.mk.injEq]
  constructor
  · rintro ⟨k, hk, m, hm, rfl, rfl⟩; exact ⟨hm, hk⟩
  · rintro ⟨h1, h2⟩; exact ⟨j, h2, i, h1, rfl, rfl⟩
/-- ATTAINED above: an upper line fits whose value at the time lies within the last unit (by repeat (first | with_reducible exact Below.refl _ _ | with_reducible assumption | with_reducible refine Below.drew ?_ | with_reducible refine Below.setCell ?_ (by first | omega | (simp; omega) | simp) _ | with_reducible refine Below.alloc ?_ (by first | omega | (simp; omega) | simp) _ | with_reducible refine Below.trans ?_ (Below.mono (by with_reducible assumption) (by first | omega | (simp; omega) | simp)))) the upper end. -/
theorem attained_hi {l : List BD} {t : Int} (r : RisingB l) (ho : ∀ b ∈ l, okB b) (h2 : 2 ≤ l.length) (hp : ∀ b ∈ l, b.1 < t) (h : fitsB l = true) :
    ∃ (i j : Nat) (u v : BD), i < j ∧ l[i]? = some u ∧ l[j]? = some v ∧ fitL l (u.1, u.2.1) (v.1, v.2.2) = true ∧ (hiR l t t - 1) * (v.1 - u.1) < valN (u.1, u.2.1) (v.1, v.2.2) t ∧ valN (u.1, u.2.1) (v.1, v.2.2) t ≤ hiR l t t * (v.1 - u.1) := by
  have hR := rising_bd r ho
  have hne : prN l.length ≠ [] := by
    intro e
    have : (0, 1) ∈ prN l.length := prN_mem.2 ⟨by omega, by omega⟩
    rw [e] at this; simp at this
  obtain ⟨⟨i, j⟩, hm, hmin⟩ := PathLaw.least_ratio (fun p : Nat × Nat => PathLaw.up (bdAt l) t p.1 p.2) (fun p => PathLaw.dist (bdAt l) p.1 p.2) (prN l.length) hne (by
    rintro ⟨i, j⟩ hij
    obtain ⟨h1, h3⟩ := prN_mem.1 hij
    have := hR.1 i j h1 h3
    simp only [PathLaw.dist]; omega)
  obtain ⟨hij, hj⟩ := prN_mem.1 hm
  obtain ⟨u, hu⟩ := some_of (l := l) (i := i) (by omega)
  obtain ⟨v, hv⟩ := some_of hj
  have hmin' : ∀ k m, k < m → m < l.length → PathLaw.up (bdAt l) t i j * PathLaw.dist (bdAt l) k m ≤ PathLaw.up (bdAt l) t k m * PathLaw.dist (bdAt l) i j := fun k m h1 h3 => hmin (k, m) (prN_mem.2 ⟨h1, h3⟩)
  have hT : ∀ i, i < l.length → (bdAt l i).t < t := fun i hi => by
    obtain ⟨b, hb⟩ := some_of hi
    rw [bdAt_some hb]
    exact hp b (List.mem_of_getElem? hb)
  have HF := fun m (hm : m < l.length) => PathLaw.least_fits (triples_bd h) hR hT hij hj hmin' hm
  have d1 := r i j u v hij hu hv
  have hup : PathLaw.up (bdAt l) t i j = valN (u.1, u.2.1) (v.1, v.2.2) t := by
    unfold PathLaw.up valN; rw [bdAt_some hu, bdAt_some hv]; dsimp only; grind
  refine ⟨i, j, u, v, hij, hu, hv, ?_, ?_, ?_⟩
  · unfold fitL
    rw [List.all_eq_true]
    intro o hoo
    obtain ⟨m, hmm, hmo⟩ := List.getElem_of_mem hoo
    have hmo' : l[m]? = some o := by rw [← hmo]; exact List.getElem?_eq_getElem hmm
    have := HF m hmm
    unfold PathLaw.dist at this
    rw [bdAt_some hu, bdAt_some hv, bdAt_some hmo'] at this
    rw [fitO_iff]
    unfold valN
    exact this
  · obtain ⟨k, m, x, y, hkm, hx, hy, e⟩ := hiR_some h2 t t
    rw [hiP_same] at e
    have hall := hiR_all t t hij hu hv
    rw [hiP_same] at hall
    have c := ce_lt (x := upL u v) (by unfold upL; dsimp only; omega) t
    rw [upL_val] at c
    have w2 : (upL u v).2.2.1 = v.1 - u.1 := rfl
    rw [w2] at c
    have := mulL (show hiR l t t - 1 ≤ ceL (upL u v) t - 1 by omega) (c := v.1 - u.1) (by omega)
    rw [Int.mul_comm, Int.mul_comm (v.1 - u.1)] at this
    omega
  · obtain ⟨k, m, x, y, hkm, hx, hy, e⟩ := hiR_some h2 t t
    rw [hiP_same] at e
    have d2 := r k m x y hkm hx hy
    have hc := hmin' k m hkm (List.getElem?_eq_some_iff.1 hy).1
    have hup2 : PathLaw.up (bdAt l) t k m = valN (x.1, x.2.1) (y.1, y.2.2) t := by
      unfold PathLaw.up valN; rw [bdAt_some hx, bdAt_some hy]; dsimp only; grind
    unfold PathLaw.dist at hc
    rw [hup, hup2, bdAt_some hu, bdAt_some hv, bdAt_some hx, bdAt_some hy] at hc
    dsimp only at hc
    have c := ce_ge (x := upL x y) (by unfold upL; dsimp only; omega) t
    rw [upL_val] at c
    have w2 : (upL x y).2.2.1 = y.1 - x.1 := rfl
    rw [w2, ← e] at c
    generalize valN (u.1, u.2.1) (v.1, v.2.2) t = p at *
    generalize valN (x.1, x.2.1) (y.1, y.2.2) t = q at *
    have b1 := mulL c (c := v.1 - u.1) (by omega)
    refine Int.le_of_mul_le_mul_left (a := y.1 - x.1) ?_ (by omega)
    grind
/-- The other way up. -/
def flipB (b : BD) : BD := (b.1, -b.2.2, -b.2.1)
theorem flip_get {l : List BD} {i : Nat} {u : BD} (h : (l.map flipB)[i]? = some u) : ∃ v, l[i]? = some v ∧ u = flipB v := by
  rw [List.getElem?_map] at h
  cases hv : l[i]? with
  | none => rw [hv] at h; simp at h
  | some v => rw [hv] at h; exact ⟨v, rfl, (Option.some.inj h).symm⟩
theorem flip_get' {l : List BD} {i : Nat} {v : BD} (h : l[i]? = some v) : (l.map flipB)[i]? = some (flipB v) := by rw [List.getElem?_map, h]; rfl
theorem flip_rise {l : List BD} (r : RisingB l) : RisingB (l.map flipB) := by
  intro i j a b hij ha hb
  obtain ⟨x, hx, rfl⟩ := flip_get ha
  obtain ⟨y, hy, rfl⟩ := flip_get hb
  exact r i j x y hij hx hy
theorem flip_ok {l : List BD} (h : ∀ b ∈ l, okB b) : ∀ b ∈ l.map flipB, okB b := by
  intro b hb
  obtain ⟨x, hx, rfl⟩ := List.mem_map.1 hb
  have := h x hx
  unfold okB flipB at *
  dsimp only at *
  omega
theorem flip_three {a b c : BD} (h : three a b c = true) : three (flipB a) (flipB b) (flipB c) = true := by
  unfold three at *
  simp only [Bool.and_eq_true, decide_eq_true_eq, flipB] at *
  constructor
  · have := h.2; grind
  · have := h.1; grind
theorem flip_fits {l : List BD} (h : fitsB l = true) : fitsB (l.map flipB) = true := by
  rw [fitsB_iff] at *
  intro i j k hij hjk hk
  rw [List.length_map] at hk
  obtain ⟨u, hu⟩ := some_of (l := l) (i := i) (by omega)
  obtain ⟨v, hv⟩ := some_of (l := l) (i := j) (by omega)
  obtain ⟨w, hw⟩ := some_of hk
  rw [threeAt_some (flip_get' hu) (flip_get' hv) (flip_get' hw)]
  have := h i j k hij hjk hk
  rw [threeAt_some hu hv hw] at this
  exact flip_three this
theorem flip_line (u v : BD) (t : Int) : ceL (upL (flipB u) (flipB v)) t = -flL (loL u v) t := by
  unfold ceL upL flL loL flipB
  dsimp only
  have e : -((-v.2.1 - -u.2.2) * (t - u.1)) = (v.2.1 - u.2.2) * (t - u.1) := by grind
  rw [e]; omega
theorem flip_hiR {l : List BD} (h2 : 2 ≤ l.length) (t : Int) : hiR (l.map flipB) t t = -loR l t t := by
  obtain ⟨i, j, u, v, hij, hu, hv, e⟩ := hiR_some (l := l.map flipB) (by rw [List.length_map]; exact h2) t t
  obtain ⟨k, m, x, y, hkm, hx, hy, f⟩ := loR_some h2 t t
  have h3 := hiR_all t t hkm (flip_get' hx) (flip_get' hy)
  obtain ⟨u, hu', rfl⟩ := flip_get hu
  obtain ⟨v, hv', rfl⟩ := flip_get hv
  have h4 := loR_all t t hij hu' hv'
  rw [hiP_same, flip_line] at h3 e
  rw [loP_same] at h4 f
  omega
theorem flip_val (u v : BD) (t : Int) : valN ((flipB u).1, (flipB u).2.1) ((flipB v).1, (flipB v).2.2) t = -valN (u.1, u.2.2) (v.1, v.2.1) t := by
  unfold valN flipB; dsimp only; grind
theorem flip_fitL {l : List BD} {u v : BD} (h : fitL (l.map flipB) ((flipB u).1, (flipB u).2.1) ((flipB v).1, (flipB v).2.2) = true) : fitL l (u.1, u.2.2) (v.1, v.2.1) = true := by
  unfold fitL at *
  rw [List.all_eq_true] at *
  intro o ho
  have := h (flipB o) (List.mem_map.2 ⟨o, ho, rfl⟩)
  rw [fitO_iff, flip_val] at this
  rw [fitO_iff]
  unfold flipB at this
  dsimp only at this
  obtain ⟨h1, h2⟩ := this
  rw [Int.neg_mul] at h1 h2
  exact ⟨by dsimp only; omega, by dsimp only; omega⟩
/-- ATTAINED below. -/
theorem attained_lo {l : List BD} {t : Int} (r : RisingB l) (ho : ∀ b ∈ l, okB b) (h2 : 2 ≤ l.length) (hp : ∀ b ∈ l, b.1 < t) (h : fitsB l = true) :
    ∃ (i j : Nat) (u v : BD), i < j ∧ l[i]? = some u ∧ l[j]? = some v ∧ fitL l (u.1, u.2.2) (v.1, v.2.1) = true ∧ valN (u.1, u.2.2) (v.1, v.2.1) t < (loR l t t + 1) * (v.1 - u.1) ∧ loR l t t * (v.1 - u.1) ≤ valN (u.1, u.2.2) (v.1, v.2.1) t := by
  obtain ⟨i, j, u, v, hij, hu, hv, hf, g1, g2⟩ := attained_hi (t := t) (flip_rise r) (flip_ok ho) (by rw [List.length_map]; exact h2) (by
    intro b hb
    obtain ⟨x, hx, rfl⟩ := List.mem_map.1 hb
    exact hp x hx) (flip_fits h)
  obtain ⟨u, hu', rfl⟩ := flip_get hu
  obtain ⟨v, hv', rfl⟩ := flip_get hv
  rw [flip_val, flip_hiR h2] at g1 g2
  refine ⟨i, j, u, v, hij, hu', hv', flip_fitL hf, ?_, ?_⟩
  · have e : (-loR l t t - 1) * ((flipB v).1 - (flipB u).1) = -((loR l t t + 1) * (v.1 - u.1)) := by unfold flipB; dsimp only; grind
    rw [e] at g1; omega
  · have e : -loR l t t * ((flipB v).1 - (flipB u).1) = -(loR l t t * (v.1 - u.1)) := by unfold flipB; dsimp only; grind
    rw [e] at g2; omega
end Go.Proofs.Ytmdledlbkdcmnaa
