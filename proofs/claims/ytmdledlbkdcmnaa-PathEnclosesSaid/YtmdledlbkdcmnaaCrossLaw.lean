/-
  What a path that fits does where the ball crosses the line of the stumps, in plain Lean.
  Conditions: none.
-/
import Derived.Test.YtmdledlbkdcmnaaCrossPlain
namespace Go.Proofs.Ytmdledlbkdcmnaa
open Go.RowKit
/-- The value of a line at the time n / d, times the distance of its points and d. -/
def valQ (a b : Int × Int) (n d : Int) : Int := a.2 * (b.1 * d - n) + b.2 * (n - a.1 * d)
theorem valQ_mid (a b : Int × Int) (n d s t : Int) : valQ a b n d * (t - s) = valN a b s * (t * d - n) + valN a b t * (n - s * d) := by unfold valQ valN; grind
theorem loP_le (s t : Int) (x : LN) : loP s t x ≤ flL x s ∧ loP s t x ≤ flL x t := by unfold loP; omega
theorem hiP_ge (s t : Int) (x : LN) : ceL x s ≤ hiP s t x ∧ ceL x t ≤ hiP s t x := by unfold hiP; omega
/-- At a time between two others a line that fits lies within the range of both. -/
theorem within {l : List BD} {a b : Int × Int} {s t n d : Int} (r : RisingB l) (h2 : 2 ≤ l.length) (hp : Past l s) (hst : s < t) (hd : a.1 < b.1) (h : fitL l a b = true) (h1 : s * d ≤ n) (h3 : n ≤ t * d) :
    loR l s t * ((b.1 - a.1) * d) ≤ valQ a b n d ∧ valQ a b n d ≤ hiR l s t * ((b.1 - a.1) * d) := by
  have H := List.all_eq_true.1 h
  have e := valQ_mid a b n d s t
  constructor
  · obtain ⟨i, j, u, v, hij, hu, hv, f⟩ := loR_some h2 s t
    obtain ⟨q1, q2⟩ := loP_le s t (loL u v)
    rw [← f] at q1 q2
    have ps := hp v (List.mem_of_getElem? hv)
    have l1 := low_under (t := s) hd (H u (List.mem_of_getElem? hu)) (H v (List.mem_of_getElem? hv)) (r i j u v hij hu hv) ps
    have l2 := low_under (t := t) hd (H u (List.mem_of_getElem? hu)) (H v (List.mem_of_getElem? hv)) (r i j u v hij hu hv) (by omega)
    have m1 := Int.mul_le_mul_of_nonneg_right q1 (c := b.1 - a.1) (by omega)
    have m2 := Int.mul_le_mul_of_nonneg_right q2 (c := b.1 - a.1) (by omega)
    have k1 := Int.mul_le_mul_of_nonneg_right (Int.le_trans m1 l1) (c := t * d - n) (by omega)
    have k2 := Int.mul_le_mul_of_nonneg_right (Int.le_trans m2 l2) (c := n - s * d) (by omega)
    refine Int.le_of_mul_le_mul_right (a := t - s) ?_ (by omega)
    rw [e]
    refine Int.le_trans ?_ (Int.add_le_add k1 k2)
    exact Int.le_of_eq (by grind)
  · obtain ⟨i, j, u, v, hij, hu, hv, f⟩ := hiR_some h2 s t
    obtain ⟨q1, q2⟩ := hiP_ge s t (upL u v)
    rw [← f] at q1 q2
    have ps := hp v (List.mem_of_getElem? hv)
    have l1 := up_over (t := s) hd (H u (List.mem_of_getElem? hu)) (H v (List.mem_of_getElem? hv)) (r i j u v hij hu hv) ps
    have l2 := up_over (t := t) hd (H u (List.mem_of_getElem? hu)) (H v (List.mem_of_getElem? hv)) (r i j u v hij hu hv) (by omega)
    have m1 := Int.mul_le_mul_of_nonneg_right q1 (c := b.1 - a.1) (by omega)
    have m2 := Int.mul_le_mul_of_nonneg_right q2 (c := b.1 - a.1) (by omega)
    have k1 := Int.mul_le_mul_of_nonneg_right (Int.le_trans l1 m1) (c := t * d - n) (by omega)
    have k2 := Int.mul_le_mul_of_nonneg_right (Int.le_trans l2 m2) (c := n - s * d) (by omega)
    refine Int.le_of_mul_le_mul_right (a := t - s) ?_ (by omega)
    rw [e]
    refine Int.le_trans (Int.add_le_add k1 k2) ?_
    exact Int.le_of_eq (by grind)
/-- A path that fits an axis has a range there that is not empty. -/
theorem range_le {l : List BD} {s t : Int} (r : RisingB l) (ho : ∀ b ∈ l, okB b) (h2 : 2 ≤ l.length) (hp : Past l s) (h : fitsB l = true) : loR l s t ≤ hiR l s t := by
  have q := lo_le_hi r ho h2 hp h
  obtain ⟨i, j, u, v, hij, hu, hv, f⟩ := loR_some h2 s t
  obtain ⟨k, m, x, y, hkm, hx, hy, g⟩ := hiR_some h2 s t
  have a1 := loR_all s s hij hu hv
  have a2 := hiR_all s s hkm hx hy
  rw [loP_same] at a1
  rw [hiP_same] at a2
  have b1 := loP_le s t (loL u v)
  have b2 := hiP_ge s t (upL x y)
  omega
/-- CROSSED on the axis X: the times between which the ball is at the line of the stumps. -/
theorem crossed {x : List BD} {a b : Int × Int} (r : RisingB x) (ho : ∀ b ∈ x, okB b) (h2 : 2 ≤ x.length) (h : fitL x a b = true) (hd : a.1 < b.1) (hl : 0 < (lastB x).2.1) (hh : hiR x ((lastB x).1 + 400) ((lastB x).1 + 400) < 0) :
    0 < valN a b ((lastB x).1 + crsF x - 1) ∧ valN a b ((lastB x).1 + crsL x + 1) < 0 ∧ crsF x ≤ crsL x + 1 ∧ 1 ≤ crsF x ∧ crsL x < 400 := by
  have hf := fitsB_of_line r hd h
  obtain ⟨⟨f1, f2, f3, f4⟩, f5, f6, f7⟩ := crs_k r ho h2 hf hl hh
  have p1 : Past x ((lastB x).1 + (crsF x - 1 : Nat)) := past_last r h2 (by omega)
  have p2 : Past x ((lastB x).1 + (crsL x + 1 : Nat)) := past_last r h2 (by omega)
  have c1 := f4 (crsF x - 1) (by omega)
  have c2 := f7 (crsL x + 1) (by omega) (by omega)
  have e1 := (enclosed r h2 p1 hd h).1
  have e2 := (enclosed r h2 p2 hd h).2
  have le := lo_le_hi r ho h2 p2 hf
  have g1 : 0 < loR x ((lastB x).1 + (crsF x - 1 : Nat)) ((lastB x).1 + (crsF x - 1 : Nat)) * (b.1 - a.1) := Int.mul_pos c1 (by omega)
  have g2 : hiR x ((lastB x).1 + (crsL x + 1 : Nat)) ((lastB x).1 + (crsL x + 1 : Nat)) * (b.1 - a.1) < 0 := Int.mul_neg_of_neg_of_pos c2 (by omega)
  have t1 : (lastB x).1 + crsF x - 1 = (lastB x).1 + (crsF x - 1 : Nat) := by omega
  have t2 : (lastB x).1 + crsL x + 1 = (lastB x).1 + (crsL x + 1 : Nat) := by omega
  rw [t1, t2]
  refine ⟨by omega, by omega, ?_, f2, f6⟩
  rcases Nat.lt_or_ge (crsL x + 1) (crsF x) with g | g
  · have := f4 (crsL x + 1) g
    omega
  · exact g
theorem valN_nd (a b : Int × Int) (t : Int) : valN a b t = (a.2 * b.1 - b.2 * a.1) - t * (a.2 - b.2) := by unfold valN; grind
/-- The whole of a crossing for a path that fits. -/
structure Crossed (l : List SN) (xa xb ya yb za zb : Int × Int) (n d : Int) : Prop where
  dpos : 0 < d
  tl : 0 ≤ cT1 l
  tt : cT1 l < cT2 l
  th : cT2 l ≤ 4400
  lo : cT1 l * d < n
  hi : n < cT2 l * d
  ylo : loR (bnds 1 (bhdL l)) (cT1 l) (cT2 l) * ((yb.1 - ya.1) * d) ≤ valQ ya yb n d
  yhi : valQ ya yb n d ≤ hiR (bnds 1 (bhdL l)) (cT1 l) (cT2 l) * ((yb.1 - ya.1) * d)
  zlo : fallLo (loR (bnds 2 (bhdL l)) (cT1 l) (cT2 l)) (hiR (bnds 2 (bhdL l)) (cT1 l) (cT2 l)) (cT1 l) (cT2 l) * (80000 * (zb.1 - za.1)) * (d * d) ≤ valQ za zb n d * d - 981 * (zb.1 - za.1) * (n * n)
  zhi : valQ za zb n d * d - 981 * (zb.1 - za.1) * (n * n) ≤ fallHi (loR (bnds 2 (bhdL l)) (cT1 l) (cT2 l)) (hiR (bnds 2 (bhdL l)) (cT1 l) (cT2 l)) (cT1 l) (cT2 l) * (80000 * (zb.1 - za.1)) * (d * d)
theorem sq_le {a b : Int} (h0 : 0 ≤ a) (h : a ≤ b) : a * a ≤ b * b := Int.mul_le_mul h h h0 (by omega)
theorem fall_lo {lo hi e l n d w u : Int} (he : 0 ≤ e) (hl : e ≤ l) (hlh : lo ≤ hi) (hd : 0 < d) (hw : 0 < w) (hn0 : 0 ≤ n) (hn : n ≤ l * d) (h : lo * (w * d) ≤ u) :
    fallLo lo hi e l * (80000 * w) * (d * d) ≤ u * d - 981 * w * (n * n) := by
  have hs := sq_le he hl
  have hc : lo - 981 * l * l ≤ hi - 981 * e * e := by
    have e1 : 981 * l * l = 981 * (l * l) := by grind
    have e2 : 981 * e * e = 981 * (e * e) := by grind
    omega
  unfold fallLo
  rw [if_pos hc]
  have q := Int.ediv_mul_le (lo - 981 * l * l) (show (80000 : Int) ≠ 0 by omega)
  generalize (lo - 981 * l * l) / 80000 = z at *
  have a1 := Int.mul_le_mul_of_nonneg_right q (c := w * (d * d)) (Int.mul_nonneg (by omega) (Int.mul_nonneg (by omega) (by omega)))
  have a2 := Int.mul_le_mul_of_nonneg_right h (c := d) (by omega)
  have a3 := sq_le hn0 hn
  have a4 := Int.mul_le_mul_of_nonneg_left a3 (c := 981 * w) (by omega)
  have e1 : z * (80000 * w) * (d * d) = z * 80000 * (w * (d * d)) := by grind
  rw [e1]
  refine Int.le_trans a1 ?_
  have e2 : (lo - 981 * l * l) * (w * (d * d)) = lo * (w * d) * d - 981 * w * (l * d * (l * d)) := by grind
  rw [e2]
  omega
theorem fall_hi {lo hi e l n d w u : Int} (he : 0 ≤ e) (hl : e ≤ l) (hlh : lo ≤ hi) (hd : 0 < d) (hw : 0 < w) (hn : e * d ≤ n) (h : u ≤ hi * (w * d)) :
    u * d - 981 * w * (n * n) ≤ fallHi lo hi e l * (80000 * w) * (d * d) := by
  have hs := sq_le he hl
  have hc : lo - 981 * l * l ≤ hi - 981 * e * e := by
    have e1 : 981 * l * l = 981 * (l * l) := by grind
    have e2 : 981 * e * e = 981 * (e * e) := by grind
    omega
  unfold fallHi
  rw [if_pos hc]
  have q := Int.ediv_mul_le (-(hi - 981 * e * e)) (show (80000 : Int) ≠ 0 by omega)
  generalize -(hi - 981 * e * e) / 80000 = z at *
  have q' : hi - 981 * e * e ≤ -z * 80000 := by rw [Int.neg_mul]; omega
  have a1 := Int.mul_le_mul_of_nonneg_right q' (c := w * (d * d)) (Int.mul_nonneg (by omega) (Int.mul_nonneg (by omega) (by omega)))
  have a2 := Int.mul_le_mul_of_nonneg_right h (c := d) (by omega)
  have a3 := sq_le (Int.mul_nonneg he (Int.le_of_lt hd)) hn
  have a4 := Int.mul_le_mul_of_nonneg_left a3 (c := 981 * w) (by omega)
  have e1 : -z * (80000 * w) * (d * d) = -z * 80000 * (w * (d * d)) := by grind
  rw [e1]
  refine Int.le_trans ?_ a1
  have e2 : (hi - 981 * e * e) * (w * (d * d)) = hi * (w * d) * d - 981 * w * (e * d * (e * d)) := by grind
  rw [e2]
  omega
theorem lastB_t {l : List BD} (ho : ∀ b ∈ l, okB b) (h : 2 ≤ l.length) : 0 ≤ (lastB l).1 ∧ (lastB l).1 ≤ 4000 :=
  (ho _ (List.mem_of_getElem? (last_ex h))).1
theorem bnds_last (ax ay : Int) {l : List SN} (h : 2 ≤ l.length) : (lastB (bnds ax l)).1 = (lastB (bnds ay l)).1 := by
  obtain ⟨s, hs⟩ := some_of (l := (bnds ax l)) (i := l.length - 1) (by rw [bnds_len]; omega)
  unfold bnds at hs
  rw [List.getElem?_map] at hs
  cases hq : l[l.length - 1]? with
  | none => rw [hq] at hs; simp at hs
  | some q =>
    have e : ∀ ax, lastB (bnds ax l) = bndS ax q := fun ax => lastB_some (by rw [bnds_len]; unfold bnds; rw [List.getElem?_map, hq]; rfl)
    rw [e, e, bndS_t, bndS_t]
theorem crossed_all {l : List SN} (hc : crsE l = 0) {xa xb ya yb za zb : Int × Int} (hx : xa.1 < xb.1) (hy : ya.1 < yb.1) (hz : za.1 < zb.1) (fx : fitL (bnds 0 (bhdL l)) xa xb = true) (fy : fitL (bnds 1 (bhdL l)) ya yb = true) (fz : fitL (bnds 2 (bhdL l)) za zb = true) :
    Crossed l xa xb ya yb za zb (xa.2 * xb.1 - xb.2 * xa.1) (xa.2 - xb.2) := by
  have hb : behE l = 0 := by
    unfold crsE at hc; split at hc
    · omega
    · omega
  have h2 : 2 ≤ (bhdL l).length := (behE_len hb).2
  have l2 : ∀ ax, 2 ≤ (bnds ax (bhdL l)).length := fun ax => by rw [bnds_len]; exact h2
  unfold crsE at hc
  rw [if_neg (by omega)] at hc
  split at hc
  · omega
  split at hc
  · omega
  split at hc
  · omega
  rename_i hpo hco hno
  have r := fun ax => bnds_rise ax l
  have ho := fun ax => bnds_ok (ax := ax) (l := l)
  obtain ⟨v1, v2, k1, k2, k3⟩ := crossed (r 0) (ho 0) (l2 0) fx hx (by omega) (by omega)
  have T0 := lastB_t (ho 0) (l2 0)
  have e1 : cT1 l = (lastB (bnds 0 (bhdL l))).1 + crsF (bnds 0 (bhdL l)) - 1 := rfl
  have e2 : cT2 l = (lastB (bnds 0 (bhdL l))).1 + crsL (bnds 0 (bhdL l)) + 1 := rfl
  rw [← e1, valN_nd] at v1
  rw [← e2, valN_nd] at v2
  have b1 : (lastB (bnds 0 (bhdL l))).1 ≤ cT1 l := by omega
  have b2 : cT1 l < cT2 l := by omega
  have b3 : cT2 l ≤ 4400 := by omega
  clear e1 e2
  generalize xa.2 * xb.1 - xb.2 * xa.1 = n at *
  generalize xa.2 - xb.2 = d at *
  generalize hA : cT1 l = A at *
  generalize hB : cT2 l = B at *
  have hdp : 0 < d := by
    have : 0 < (B - A) * d := by rw [Int.sub_mul]; omega
    exact Int.pos_of_mul_pos_right this (by omega) |> fun h => h
  have p : ∀ ax, Past (bnds ax (bhdL l)) A := fun ax => past_last (r ax) (l2 ax) (by rw [bnds_last ax 0 h2]; exact b1)
  have wy := within (n := n) (d := d) (r 1) (l2 1) (p 1) b2 hy fy (by omega) (by omega)
  have wz := within (n := n) (d := d) (r 2) (l2 2) (p 2) b2 hz fz (by omega) (by omega)
  have hlz := range_le (t := B) (r 2) (ho 2) (l2 2) (p 2) (fitsB_of_line (r 2) hz fz)
  have hA0 : 0 ≤ A := by omega
  have hAd := Int.mul_nonneg hA0 (Int.le_of_lt hdp)
  exact { dpos := hdp, tl := by rw [hA]; exact hA0, tt := by rw [hA, hB]; exact b2, th := by rw [hB]; exact b3, lo := by rw [hA]; omega, hi := by rw [hB]; omega, ylo := by rw [hA, hB]; exact wy.1, yhi := by rw [hA, hB]; exact wy.2,
          zlo := by rw [hA, hB]; exact fall_lo hA0 (Int.le_of_lt b2) hlz hdp (by omega) (by omega) (by omega) wz.1,
          zhi := by rw [hA, hB]; exact fall_hi hA0 (Int.le_of_lt b2) hlz hdp (by omega) (by omega) wz.2 }
end Go.Proofs.Ytmdledlbkdcmnaa
