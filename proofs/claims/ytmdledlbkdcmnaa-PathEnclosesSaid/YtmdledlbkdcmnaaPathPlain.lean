/-
  Enclosures of the path in plain Lean: bounds, lines through two of them, ranges.
  Conditions: none.
-/
import Derived.Test.YtmdledlbkdcmnaaFlightPlain
namespace Go.Proofs.Ytmdledlbkdcmnaa
open Go.RowKit
/-- Bounds: time, least, greatest. -/
abbrev BD := Int × Int × Int
def bX (s : SN) : BD := (s.1, s.2.1 - s.2.2.2.2, s.2.1 + s.2.2.2.2)
def bY (s : SN) : BD := (s.1, s.2.2.1 - s.2.2.2.2, s.2.2.1 + s.2.2.2.2)
def bZ (s : SN) : BD := (s.1, raiseV s.1 (s.2.2.2.1 - s.2.2.2.2), raiseV s.1 (s.2.2.2.1 + s.2.2.2.2))
def bndS (ax : Int) : SN → BD := if ax = 1 then bY else if ax = 2 then bZ else bX
def bnds (ax : Int) (l : List SN) : List BD := l.map (bndS ax)
def okB (b : BD) : Prop := (0 ≤ b.1 ∧ b.1 ≤ 4000) ∧ -20000000000 ≤ b.2.1 ∧ b.2.1 ≤ b.2.2 ∧ b.2.2 ≤ 20000000000
theorem grav4 {t : Int} (h1 : 0 ≤ t) (h2 : t ≤ 4000) : 0 ≤ 981 * t * t ∧ 981 * t * t ≤ 15696000000 := by
  have q := mul_bd (A := 4000) (B := 4000) (a := t) (b := t) (by omega) (by omega) (by omega) (by omega)
  have q0 := sq_nonneg t
  have e : 981 * t * t = 981 * (t * t) := by grind
  omega
theorem raise_in {t z : Int} (h1 : 0 ≤ t) (h2 : t ≤ 4000) (h3 : -1000000 ≤ z) (h4 : z ≤ 1000000) : raiseV t z = z * 80000 + 981 * t * t := by
  unfold raiseV; rw [if_neg (by omega)]
theorem bndS_ok {s : SN} (ax : Int) (h : okS s = true) : okB (bndS ax s) := by
  obtain ⟨⟨a1, a2⟩, ⟨b1, b2⟩, ⟨c1, c2⟩, ⟨d1, d2⟩, e1, e2⟩ := okS_iff.1 h
  unfold bndS okB
  split
  · simp only [bY]; omega
  · split
    · have := grav4 a1 a2
      simp only [bZ]
      rw [raise_in a1 a2 (by omega) (by omega), raise_in a1 a2 (by omega) (by omega)]
      omega
    · simp only [bX]; omega
theorem bndS_t (ax : Int) (s : SN) : (bndS ax s).1 = s.1 := by
  unfold bndS; split; · rfl
  · split <;> rfl
theorem bnds_len (ax : Int) (l : List SN) : (bnds ax l).length = l.length := by simp [bnds]
theorem bnds_ok {ax : Int} {l : List SN} : ∀ b ∈ bnds ax (bhdL l), okB b := by
  intro b hb
  obtain ⟨s, hs, rfl⟩ := List.mem_map.1 hb
  exact bndS_ok ax (bhd_ok s hs)
/-- Times rise. -/
def RisingB (l : List BD) : Prop := ∀ (i j : Nat) (a b : BD), i < j → l[i]? = some a → l[j]? = some b → a.1 < b.1
theorem chkF_rise : ∀ (l : List SN) (p : Int), chkF p l = 0 → (∀ (i : Nat) (a : SN), l[i]? = some a → p < a.1) ∧ ∀ (i j : Nat) (a b : SN), i < j → l[i]? = some a → l[j]? = some b → a.1 < b.1
  | [], _, _ => ⟨fun i a h => by simp at h, fun i j a b _ h => by simp at h⟩
  | q :: l, p, h => by
    unfold chkF at h
    split at h
    · split at h
      · omega
      · rename_i hq
        obtain ⟨h1, h2⟩ := chkF_rise l _ h
        refine ⟨fun i a ha => ?_, fun i j a b hij ha hb => ?_⟩
        · cases i with
          | zero => obtain rfl : q = a := by simpa using ha
                    omega
          | succ i => have := h1 i a (by simpa using ha); omega
        · cases j with
          | zero => omega
          | succ j =>
            cases i with
            | zero => obtain rfl : q = a := by simpa using ha
                      exact h1 j b (by simpa using hb)
            | succ i => exact h2 i j a b (by omega) (by simpa using ha) (by simpa using hb)
    · omega
theorem chkE_rise {l : List SN} (h : chkE l = 0) : ∀ (i j : Nat) (a b : SN), i < j → l[i]? = some a → l[j]? = some b → a.1 < b.1 := by
  unfold chkE at h
  split at h
  · omega
  · exact (chkF_rise l _ h).2
theorem bhd_rise (l : List SN) : ∀ (i j : Nat) (a b : SN), i < j → (bhdL l)[i]? = some a → (bhdL l)[j]? = some b → a.1 < b.1 := by
  intro i j a b hij ha hb
  unfold bhdL at ha hb
  split at ha
  · rename_i h
    rw [if_pos h] at hb
    rw [List.getElem?_drop] at ha hb
    exact chkE_rise h _ _ a b (by omega) ha hb
  · simp at ha
theorem bnds_rise (ax : Int) (l : List SN) : RisingB (bnds ax (bhdL l)) := by
  intro i j a b hij ha hb
  unfold bnds at ha hb
  rw [List.getElem?_map] at ha hb
  cases hi : (bhdL l)[i]? with
  | none => rw [hi] at ha; simp at ha
  | some s =>
    cases hj : (bhdL l)[j]? with
    | none => rw [hj] at hb; simp at hb
    | some r =>
      rw [hi] at ha; rw [hj] at hb
      simp only [Option.map_some, Option.some.injEq] at ha hb
      subst ha hb
      rw [bndS_t, bndS_t]
      exact bhd_rise l i j s r hij hi hj
/-- The error of the observations behind the bounce. -/
def behE (l : List SN) : Int := if chkE l ≠ 0 then chkE l else if (bhdL l).length < 2 then 1 else 0
theorem behE_len {l : List SN} (h : behE l = 0) : chkE l = 0 ∧ 2 ≤ (bhdL l).length := by
  unfold behE at h
  split at h
  · omega
  · split at h
    · omega
    · omega
/-- A line fits for three. -/
def three (a b c : BD) : Bool := decide (b.2.1 * (c.1 - a.1) ≤ a.2.2 * (c.1 - b.1) + c.2.2 * (b.1 - a.1)) && decide (a.2.1 * (c.1 - b.1) + c.2.1 * (b.1 - a.1) ≤ b.2.2 * (c.1 - a.1))
def threeAt (l : List BD) (i j k : Nat) : Bool := match l[i]?, l[j]?, l[k]? with
  | some a, some b, some c => three a b c
  | _, _, _ => true
theorem threeAt_some {l : List BD} {i j k : Nat} {a b c : BD} (ha : l[i]? = some a) (hb : l[j]? = some b) (hc : l[k]? = some c) : threeAt l i j k = three a b c := by
  unfold threeAt; rw [ha, hb, hc]
def fitsB (l : List BD) : Bool := (List.range l.length).all fun k => (List.range k).all fun j => (List.range j).all fun i => threeAt l i j k
theorem fitsB_iff {l : List BD} : fitsB l = true ↔ ∀ i j k, i < j → j < k → k < l.length → threeAt l i j k = true := by
  unfold fitsB
  simp only [List.all_eq_true, List.mem_range]
  exact ⟨fun h i j k hi hj hk => h k hk j hj i hi, fun h k hk j hj i hi => h i j k hi hj hk⟩
theorem fitsB_no {l : List BD} {i j k : Nat} (hi : i < j) (hj : j < k) (hk : k < l.length) (h : threeAt l i j k = false) : fitsB l = false := by
  cases hb : fitsB l with
  | false => rfl
  | true => rw [fitsB_iff.1 hb i j k hi hj hk] at h; cases h
/-- Lines: time, value, the steps of both. -/
abbrev LN := Int × Int × Int × Int
def loL (u v : BD) : LN := (u.1, u.2.2, v.1 - u.1, v.2.1 - u.2.2)
def upL (u v : BD) : LN := (u.1, u.2.1, v.1 - u.1, v.2.2 - u.2.1)
def flL (x : LN) (t : Int) : Int := x.2.1 + x.2.2.2 * (t - x.1) / x.2.2.1
def ceL (x : LN) (t : Int) : Int := x.2.1 + -(-(x.2.2.2 * (t - x.1)) / x.2.2.1)
def okN (x : LN) : Prop := (0 ≤ x.1 ∧ x.1 ≤ 4000) ∧ (-20000000000 ≤ x.2.1 ∧ x.2.1 ≤ 20000000000) ∧ (1 ≤ x.2.2.1 ∧ x.2.2.1 ≤ 4000) ∧ -40000000000 ≤ x.2.2.2 ∧ x.2.2.2 ≤ 40000000000
theorem loL_ok {u v : BD} (hu : okB u) (hv : okB v) (h : u.1 < v.1) : okN (loL u v) := by unfold okB at hu hv; unfold okN loL; dsimp only; omega
theorem upL_ok {u v : BD} (hu : okB u) (hv : okB v) (h : u.1 < v.1) : okN (upL u v) := by unfold okB at hu hv; unfold okN upL; dsimp only; omega
/-- The pairs of an earlier and a later one: by the later one first; by the earlier one first. -/
def prs (l : List BD) : Nat → List (BD × BD)
  | 0 => []
  | j + 1 => prs l j ++ match l[j]? with
    | some v => (l.take j).map fun u => (u, v)
    | none => []
def prsR (l : List BD) : Nat → List (BD × BD)
  | 0 => []
  | i + 1 => prsR l i ++ match l[i]? with
    | some u => (l.drop (i + 1)).map fun v => (u, v)
    | none => []
theorem prs_mem {l : List BD} {u v : BD} : ∀ n : Nat, n ≤ l.length → ((u, v) ∈ prs l n ↔ ∃ i j : Nat, i < j ∧ j < n ∧ l[i]? = some u ∧ l[j]? = some v)
  | 0, _ => by simp [prs]
  | n + 1, h => by
    obtain ⟨x, hx⟩ : ∃ x, l[n]? = some x := ⟨_, List.getElem?_eq_getElem (by omega)⟩
    simp only [prs, hx, List.mem_append, prs_mem (l := l) n (by omega), List.mem_map, Prod.mk.injEq]
    constructor
    · rintro (⟨i, j, h1, h2, h3, h4⟩ | ⟨y, hy, rfl, rfl⟩)
      · exact ⟨i, j, h1, by omega, h3, h4⟩
      · obtain ⟨i, hi, rfl⟩ := List.getElem_of_mem hy
        have hi' : i < n := by rw [List.length_take] at hi; omega
        exact ⟨i, n, hi', by omega, by rw [List.getElem_take]; exact List.getElem?_eq_getElem (by omega), hx⟩
    · rintro ⟨i, j, h1, h2, h3, h4⟩
      rcases Nat.lt_or_eq_of_le (Nat.le_of_lt_succ h2) with h5 | rfl
      · exact .inl ⟨i, j, h1, h5, h3, h4⟩
      · refine .inr ⟨u, ?_, rfl, ?_⟩
        · exact List.mem_of_getElem? (by rw [List.getElem?_take, if_pos h1]; exact h3)
        · rw [hx] at h4; exact Option.some.inj h4
theorem prsR_mem {l : List BD} {u v : BD} : ∀ n : Nat, n ≤ l.length → ((u, v) ∈ prsR l n ↔ ∃ i j : Nat, i < n ∧ i < j ∧ l[i]? = some u ∧ l[j]? = some v)
  | 0, _ => by simp [prsR]
  | n + 1, h => by
    obtain ⟨x, hx⟩ : ∃ x, l[n]? = some x := ⟨_, List.getElem?_eq_getElem (by omega)⟩
    simp only [prsR, hx, List.mem_append, prsR_mem (l := l) n (by omega), List.mem_map, Prod.mk.injEq]
    constructor
    · rintro (⟨i, j, h1, h2, h3, h4⟩ | ⟨y, hy, rfl, rfl⟩)
      · exact ⟨i, j, by omega, h2, h3, h4⟩
      · obtain ⟨j, hj, rfl⟩ := List.getElem_of_mem hy
        have hj' : n + 1 + j < l.length := by rw [List.length_drop] at hj; omega
        exact ⟨n, n + 1 + j, by omega, by omega, hx, by rw [List.getElem_drop]; exact List.getElem?_eq_getElem hj'⟩
    · rintro ⟨i, j, h1, h2, h3, h4⟩
      rcases Nat.lt_or_eq_of_le (Nat.le_of_lt_succ h1) with h5 | rfl
      · exact .inl ⟨i, j, h5, h2, h3, h4⟩
      · refine .inr ⟨v, ?_, ?_, rfl⟩
        · exact List.mem_of_getElem? (i := j - (i + 1)) (by rw [List.getElem?_drop]; rw [show i + 1 + (j - (i + 1)) = j by omega]; exact h4)
        · rw [hx] at h3; exact Option.some.inj h3
theorem prs_same {l : List BD} (p : BD × BD) : p ∈ prs l l.length ↔ p ∈ prsR l l.length := by
  obtain ⟨u, v⟩ := p
  rw [prs_mem _ (Nat.le_refl _), prsR_mem _ (Nat.le_refl _)]
  constructor
  · rintro ⟨i, j, h1, h2, h3, h4⟩; exact ⟨i, j, by omega, h1, h3, h4⟩
  · rintro ⟨i, j, h1, h2, h3, h4⟩; exact ⟨i, j, h2, (List.getElem?_eq_some_iff.1 h4).1, h3, h4⟩
/-- The greatest and the least of a list. -/
def mxl : List Int → Int
  | [] => 0
  | x :: l => l.foldl max x
def mnl : List Int → Int
  | [] => 0
  | x :: l => l.foldl min x
theorem foldmax_spec : ∀ (l : List Int) (x : Int), x ≤ l.foldl max x ∧ (∀ y ∈ l, y ≤ l.foldl max x) ∧ (l.foldl max x = x ∨ l.foldl max x ∈ l)
  | [], x => by simp
  | y :: l, x => by
    obtain ⟨h1, h2, h3⟩ := foldmax_spec l (max x y)
    simp only [List.foldl_cons, List.mem_cons, forall_eq_or_imp]
    refine ⟨by omega, ⟨by omega, h2⟩, ?_⟩
    rcases h3 with h3 | h3
    · rcases Int.le_total x y with h | h
      · right; left; omega
      · left; omega
    · exact .inr (.inr h3)
theorem foldmin_spec : ∀ (l : List Int) (x : Int), l.foldl min x ≤ x ∧ (∀ y ∈ l, l.foldl min x ≤ y) ∧ (l.foldl min x = x ∨ l.foldl min x ∈ l)
  | [], x => by simp
  | y :: l, x => by
    obtain ⟨h1, h2, h3⟩ := foldmin_spec l (min x y)
    simp only [List.foldl_cons, List.mem_cons, forall_eq_or_imp]
    refine ⟨by omega, ⟨by omega, h2⟩, ?_⟩
    rcases h3 with h3 | h3
    · rcases Int.le_total x y with h | h
      · left; omega
      · right; left; omega
    · exact .inr (.inr h3)
theorem mxl_spec {l : List Int} (h : l ≠ []) : mxl l ∈ l ∧ ∀ y ∈ l, y ≤ mxl l := by
  cases l with
  | nil => exact absurd rfl h
  | cons x l =>
    obtain ⟨h1, h2, h3⟩ := foldmax_spec l x
    simp only [mxl, List.mem_cons, forall_eq_or_imp]
    exact ⟨h3, h1, h2⟩
theorem mnl_spec {l : List Int} (h : l ≠ []) : mnl l ∈ l ∧ ∀ y ∈ l, mnl l ≤ y := by
  cases l with
  | nil => exact absurd rfl h
  | cons x l =>
    obtain ⟨h1, h2, h3⟩ := foldmin_spec l x
    simp only [mnl, List.mem_cons, forall_eq_or_imp]
    exact ⟨h3, h1, h2⟩
theorem ne_nil_same {l m : List Int} (h : ∀ x, x ∈ l ↔ x ∈ m) : l = [] ↔ m = [] := by
  constructor
  · rintro rfl
    exact List.eq_nil_iff_forall_not_mem.2 fun x hx => by have := (h x).2 hx; simp at this
  · rintro rfl
    exact List.eq_nil_iff_forall_not_mem.2 fun x hx => by have := (h x).1 hx; simp at this
theorem mxl_congr {l m : List Int} (h : ∀ x, x ∈ l ↔ x ∈ m) : mxl l = mxl m := by
  by_cases hl : l = []
  · have hm := (ne_nil_same h).1 hl
    rw [hl, hm]
  · have hm : m ≠ [] := fun e => hl ((ne_nil_same h).2 e)
    obtain ⟨a1, a2⟩ := mxl_spec hl
    obtain ⟨b1, b2⟩ := mxl_spec hm
    have := a2 _ ((h _).2 b1)
    have := b2 _ ((h _).1 a1)
    omega
theorem mnl_congr {l m : List Int} (h : ∀ x, x ∈ l ↔ x ∈ m) : mnl l = mnl m := by
  by_cases hl : l = []
  · have hm := (ne_nil_same h).1 hl
    rw [hl, hm]
  · have hm : m ≠ [] := fun e => hl ((ne_nil_same h).2 e)
    obtain ⟨a1, a2⟩ := mnl_spec hl
    obtain ⟨b1, b2⟩ := mnl_spec hm
    have := a2 _ ((h _).2 b1)
    have := b2 _ ((h _).1 a1)
    omega
/-- What lower and upper lines give from one time to another one. -/
def loP (a b : Int) (x : LN) : Int := min (flL x a) (flL x b)
def hiP (a b : Int) (x : LN) : Int := max (ceL x a) (ceL x b)
def lows (l : List BD) : List LN := (prs l l.length).map fun p => loL p.1 p.2
def upps (l : List BD) : List LN := (prs l l.length).map fun p => upL p.1 p.2
def loR (l : List BD) (a b : Int) : Int := mxl ((lows l).map (loP a b))
def hiR (l : List BD) (a b : Int) : Int := mnl ((upps l).map (hiP a b))
theorem map_same {l : List BD} (f : BD × BD → Int) (x : Int) : x ∈ (prs l l.length).map f ↔ x ∈ (prsR l l.length).map f := by
  simp only [List.mem_map]
  constructor
  · rintro ⟨p, hp, rfl⟩; exact ⟨p, (prs_same p).1 hp, rfl⟩
  · rintro ⟨p, hp, rfl⟩; exact ⟨p, (prs_same p).2 hp, rfl⟩
theorem loR_ref (l : List BD) (a b : Int) : loR l a b = mxl ((prsR l l.length).map fun p => loP a b (loL p.1 p.2)) := by
  unfold loR lows
  rw [List.map_map]
  exact mxl_congr fun x => map_same (fun p => loP a b (loL p.1 p.2)) x
theorem hiR_ref (l : List BD) (a b : Int) : hiR l a b = mnl ((prsR l l.length).map fun p => hiP a b (upL p.1 p.2)) := by
  unfold hiR upps
  rw [List.map_map]
  exact mnl_congr fun x => map_same (fun p => hiP a b (upL p.1 p.2)) x
theorem prs_ne {l : List BD} (h : 2 ≤ l.length) : prs l l.length ≠ [] := by
  intro e
  obtain ⟨u, hu⟩ : ∃ u, l[0]? = some u := ⟨_, List.getElem?_eq_getElem (by omega)⟩
  obtain ⟨v, hv⟩ : ∃ v, l[1]? = some v := ⟨_, List.getElem?_eq_getElem (by omega)⟩
  have : (u, v) ∈ prs l l.length := (prs_mem _ (Nat.le_refl _)).2 ⟨0, 1, by omega, by omega, hu, hv⟩
  rw [e] at this; simp at this
theorem lows_mem {l : List BD} {x : LN} : x ∈ lows l ↔ ∃ (i j : Nat) (u v : BD), i < j ∧ l[i]? = some u ∧ l[j]? = some v ∧ x = loL u v := by
  unfold lows
  simp only [List.mem_map]
  constructor
  · rintro ⟨⟨u, v⟩, h, rfl⟩
    obtain ⟨i, j, h1, _, h3, h4⟩ := (prs_mem _ (Nat.le_refl _)).1 h
    exact ⟨i, j, u, v, h1, h3, h4, rfl⟩
  · rintro ⟨i, j, u, v, h1, h3, h4, rfl⟩
    exact ⟨(u, v), (prs_mem _ (Nat.le_refl _)).2 ⟨i, j, h1, (List.getElem?_eq_some_iff.1 h4).1, h3, h4⟩, rfl⟩
theorem upps_mem {l : List BD} {x : LN} : x ∈ upps l ↔ ∃ (i j : Nat) (u v : BD), i < j ∧ l[i]? = some u ∧ l[j]? = some v ∧ x = upL u v := by
  unfold upps
  simp only [List.mem_map]
  constructor
  · rintro ⟨⟨u, v⟩, h, rfl⟩
    obtain ⟨i, j, h1, _, h3, h4⟩ := (prs_mem _ (Nat.le_refl _)).1 h
    exact ⟨i, j, u, v, h1, h3, h4, rfl⟩
  · rintro ⟨i, j, u, v, h1, h3, h4, rfl⟩
    exact ⟨(u, v), (prs_mem _ (Nat.le_refl _)).2 ⟨i, j, h1, (List.getElem?_eq_some_iff.1 h4).1, h3, h4⟩, rfl⟩
theorem lows_ok {l : List BD} (h : ∀ b ∈ l, okB b) (r : RisingB l) : ∀ x ∈ lows l, okN x := by
  intro x hx
  obtain ⟨i, j, u, v, hij, hu, hv, rfl⟩ := lows_mem.1 hx
  exact loL_ok (h u (List.mem_of_getElem? hu)) (h v (List.mem_of_getElem? hv)) (r i j u v hij hu hv)
theorem upps_ok {l : List BD} (h : ∀ b ∈ l, okB b) (r : RisingB l) : ∀ x ∈ upps l, okN x := by
  intro x hx
  obtain ⟨i, j, u, v, hij, hu, hv, rfl⟩ := upps_mem.1 hx
  exact upL_ok (h u (List.mem_of_getElem? hu)) (h v (List.mem_of_getElem? hv)) (r i j u v hij hu hv)
theorem lows_len (l : List BD) : (lows l).length = (upps l).length := by simp [lows, upps]
/-- Sizes. -/
theorem num_bd {x : LN} (h : okN x) {t : Int} (h1 : -10 ≤ t) (h2 : t ≤ 5000) : -(200400000000000) ≤ x.2.2.2 * (t - x.1) ∧ x.2.2.2 * (t - x.1) ≤ 200400000000000 := by
  obtain ⟨⟨a1, a2⟩, _, _, d1, d2⟩ := h
  exact mul_bd (A := 40000000000) (B := 5010) d1 d2 (by omega) (by omega)
theorem ediv_small {n d A : Int} (hd : 1 ≤ d) (h1 : -A ≤ n) (h2 : n ≤ A) (hA : 0 ≤ A) : -A ≤ n / d ∧ n / d ≤ A := by
  constructor
  · refine Int.le_ediv_of_mul_le (by omega) ?_
    have := Int.mul_le_mul_of_nonneg_left hd hA
    have e : -A * d = -(A * d) := Int.neg_mul _ _
    rw [e]; omega
  · have : n / d ≤ A / 1 := by
      rcases Int.le_total 0 n with h | h
      · rw [Int.ediv_one]; exact Int.le_trans (Int.ediv_le_self _ h) h2
      · rw [Int.ediv_one]
        have : n / d ≤ 0 := by
          have := Int.ediv_le_ediv (show 0 < d by omega) h
          rwa [Int.zero_ediv] at this
        omega
    rwa [Int.ediv_one] at this
theorem flL_bd {x : LN} (h : okN x) {t : Int} (h1 : -10 ≤ t) (h2 : t ≤ 5000) : -300000000000000 ≤ flL x t ∧ flL x t ≤ 300000000000000 := by
  have hn := num_bd h h1 h2
  have hq := ediv_small (A := 200400000000000) h.2.2.1.1 hn.1 hn.2 (by omega)
  have := h.2.1
  unfold flL; omega
theorem ceL_bd {x : LN} (h : okN x) {t : Int} (h1 : -10 ≤ t) (h2 : t ≤ 5000) : -300000000000000 ≤ ceL x t ∧ ceL x t ≤ 300000000000000 := by
  have hn := num_bd h h1 h2
  have hq := ediv_small (n := -(x.2.2.2 * (t - x.1))) (A := 200400000000000) h.2.2.1.1 (by omega) (by omega) (by omega)
  have := h.2.1
  unfold ceL; omega
/-- The reference's way to the same values. -/
theorem thr_eq (a b t ta tb : Int) : a * (tb - t) + b * (t - ta) = (b - a) * (t - ta) + a * (tb - ta) := by grind
theorem thr_floor {u v : Int × Int} (t : Int) (h : u.1 < v.1) : (u.2 * (v.1 - t) + v.2 * (t - u.1)) / (v.1 - u.1) = flL (u.1, u.2, v.1 - u.1, v.2 - u.2) t := by
  unfold flL
  rw [thr_eq, Int.add_mul_ediv_right _ _ (by omega)]
  dsimp only; omega
theorem thr_ceil {u v : Int × Int} (t : Int) (h : u.1 < v.1) : -(-(u.2 * (v.1 - t) + v.2 * (t - u.1)) / (v.1 - u.1)) = ceL (u.1, u.2, v.1 - u.1, v.2 - u.2) t := by
  unfold ceL
  rw [thr_eq, Int.neg_add, ← Int.neg_mul, ← Int.neg_mul, Int.add_mul_ediv_right _ _ (by omega)]
  dsimp only
  rw [Int.neg_add, Int.neg_neg, Int.neg_mul]
  omega
end Go.Proofs.Ytmdledlbkdcmnaa
