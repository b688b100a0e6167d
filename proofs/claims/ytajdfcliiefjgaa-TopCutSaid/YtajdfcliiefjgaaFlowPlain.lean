/-
  Plain laws of flows: surpluses, cuts, ways, in plain Lean.
  Conditions: none.
-/
import Derived.Test.YtajdfcliiefjgaaBase
namespace Go.Proofs.Ytajdfcliiefjgaa
/-- An edge: from, to, capacity. -/
abbrev ED := Int × Int × Int
/-- An arc: the edge's index, and whether it is gone against its direction. -/
abbrev AR := Nat × Bool
/-- The surplus of a node. -/
def netOf (v : Int) : List ED → List Int → Int
  | e :: es, x :: xs => (if e.1 = v then x else 0) - (if e.2.1 = v then x else 0) + netOf v es xs
  | _, _ => 0
/-- Every number is from 0 to its edge's capacity, and there are as many. -/
def okFl : List ED → List Int → Prop
  | e :: es, x :: xs => (0 ≤ x ∧ x ≤ e.2.2) ∧ okFl es xs
  | [], [] => True
  | _, _ => False
def inN (n : Nat) (es : List ED) : Prop := ∀ e ∈ es, (0 ≤ e.1 ∧ e.1 < n) ∧ (0 ≤ e.2.1 ∧ e.2.1 < n)
/-- The capacity of a cut. -/
def capOf (c : Int → Bool) : List ED → Int
  | e :: es => (if c e.1 && !c e.2.1 then e.2.2 else 0) + capOf c es
  | [] => 0
def crossOf (c : Int → Bool) : List ED → List Int → Int
  | e :: es, x :: xs => (if c e.1 then x else 0) - (if c e.2.1 then x else 0) + crossOf c es xs
  | _, _ => 0
def sumC (c : Int → Bool) (g : Int → Int) : Nat → Int
  | 0 => 0
  | n + 1 => sumC c g n + (if c (n : Int) then g (n : Int) else 0)
theorem sumC_zero (c : Int → Bool) (n : Nat) : sumC c (fun _ => 0) n = 0 := by
  induction n with
  | zero => rfl
  | succ n ih => simp [sumC, ih]
theorem sumC_lin (c : Int → Bool) (g h k : Int → Int) (n : Nat) : sumC c (fun v => g v - h v + k v) n = sumC c g n - sumC c h n + sumC c k n := by
  induction n with
  | zero => rfl
  | succ n ih => simp only [sumC, ih]; split <;> omega
theorem sumC_congr {c : Int → Bool} {g h : Int → Int} {n : Nat} (e : ∀ v : Int, 0 ≤ v → v < n → c v = true → g v = h v) : sumC c g n = sumC c h n := by
  induction n with
  | zero => rfl
  | succ n ih =>
    simp only [sumC]
    rw [ih (fun v h1 h2 => e v h1 (by omega))]
    by_cases hc : c (n : Int) = true
    · rw [if_pos hc, if_pos hc, e n (by omega) (by omega) hc]
    · rw [if_neg hc, if_neg hc]
theorem sumC_one (c : Int → Bool) {a : Int} (x : Int) {n : Nat} (h1 : 0 ≤ a) : sumC c (fun v => if a = v then x else 0) n = if a < n ∧ c a = true then x else 0 := by
  induction n with
  | zero => simp only [sumC]; rw [if_neg (by omega)]
  | succ n ih =>
    simp only [sumC]
    rw [ih]
    by_cases hn : a = n
    · subst hn
      have e0 : ¬((n : Int) < (n : Int)) := by omega
      have e1 : (n : Int) < ((n + 1 : Nat) : Int) := by omega
      by_cases hc : c (n : Int) = true
      · simp only [hc, e0, e1, false_and, and_self, if_true, if_false]; omega
      · simp only [hc, e0, false_and, if_false]; simp
    · have e1 : (a < ((n + 1 : Nat) : Int)) = (a < (n : Int)) := by apply propext; omega
      simp only [hn, e1, if_false]
      split <;> omega
theorem cross_sum (c : Int → Bool) {n : Nat} : ∀ (es : List ED) (xs : List Int), inN n es → sumC c (fun v => netOf v es xs) n = crossOf c es xs
  | [], xs, _ => by simp only [netOf, crossOf]; exact sumC_zero c n
  | e :: es, [], _ => by simp only [netOf, crossOf]; exact sumC_zero c n
  | e :: es, x :: xs, h => by
    simp only [netOf, crossOf]
    obtain ⟨⟨a1, a2⟩, b1, b2⟩ := h e (List.mem_cons_self ..)
    rw [sumC_lin c (fun v => if e.1 = v then x else 0) (fun v => if e.2.1 = v then x else 0), cross_sum c es xs (fun e he => h e (List.mem_cons_of_mem _ he)), sumC_one c x a1, sumC_one c x b1]
    simp only [a2, b2, true_and]
/-- Across a cut flows what leaves the source. -/
theorem val_cross {c : Int → Bool} {n : Nat} {s t : Int} {es : List ED} {xs : List Int} (hN : inN n es) (hs0 : 0 ≤ s) (hs : s < n) (cs : c s = true) (ct : c t = false) (hz : ∀ v : Int, 0 ≤ v → v < n → v ≠ s → v ≠ t → netOf v es xs = 0) : netOf s es xs = crossOf c es xs := by
  rw [← cross_sum c es xs hN, sumC_congr (h := fun v => if s = v then netOf s es xs else 0), sumC_one c _ hs0, if_pos ⟨hs, cs⟩]
  intro v h1 h2 hv
  by_cases e : s = v
  · rw [if_pos e, e]
  · rw [if_neg e]
    exact hz v h1 h2 (fun q => e q.symm) (fun q => by rw [q, ct] at hv; cases hv)
theorem cross_le (c : Int → Bool) : ∀ (es : List ED) (xs : List Int), okFl es xs → crossOf c es xs ≤ capOf c es
  | [], [], _ => by simp [crossOf, capOf]
  | [], _ :: _, h => h.elim
  | _ :: _, [], h => h.elim
  | e :: es, x :: xs, h => by
    have := cross_le c es xs h.2
    have := h.1
    simp only [crossOf, capOf]
    cases c e.1 <;> cases c e.2.1 <;> simp <;> omega
theorem cross_eq (c : Int → Bool) : ∀ (es : List ED) (xs : List Int), okFl es xs → (∀ (i : Nat) (e : ED) (x : Int), es[i]? = some e → xs[i]? = some x → (c e.1 = true → c e.2.1 = false → x = e.2.2) ∧ (c e.1 = false → c e.2.1 = true → x = 0)) → crossOf c es xs = capOf c es
  | [], [], _, _ => by simp [crossOf, capOf]
  | [], _ :: _, h, _ => h.elim
  | _ :: _, [], h, _ => h.elim
  | e :: es, x :: xs, h, k => by
    have := cross_eq c es xs h.2 (fun i a b h1 h2 => k (i + 1) a b (by simpa using h1) (by simpa using h2))
    have := h.1
    have q := k 0 e x rfl rfl
    simp only [crossOf, capOf]
    cases h1 : c e.1 <;> cases h2 : c e.2.1 <;> simp [h1, h2] at q ⊢ <;> omega
theorem okFl_len : ∀ {es : List ED} {xs : List Int}, okFl es xs → xs.length = es.length
  | [], [], _ => rfl
  | [], _ :: _, h => h.elim
  | _ :: _, [], h => h.elim
  | _ :: es, _ :: xs, h => by simp [okFl_len h.2]
theorem okFl_get : ∀ {es : List ED} {xs : List Int} {i : Nat} {e : ED}, okFl es xs → es[i]? = some e → ∃ x, xs[i]? = some x ∧ 0 ≤ x ∧ x ≤ e.2.2
  | [], [], i, e, _, h => by simp at h
  | [], _ :: _, _, _, h, _ => h.elim
  | _ :: _, [], _, _, h, _ => h.elim
  | a :: es, x :: xs, 0, e, h, he => by simp at he; subst he; exact ⟨x, rfl, h.1⟩
  | a :: es, x :: xs, i + 1, e, h, he => by
    obtain ⟨y, h1, h2⟩ := okFl_get (i := i) h.2 (by simpa using he)
    exact ⟨y, by simpa using h1, h2⟩
theorem okFl_set : ∀ {es : List ED} {xs : List Int} {i : Nat} {e : ED} {y : Int}, okFl es xs → es[i]? = some e → 0 ≤ y → y ≤ e.2.2 → okFl es (xs.set i y)
  | [], [], i, e, y, _, h, _, _ => by simp at h
  | [], _ :: _, _, _, _, h, _, _, _ => h.elim
  | _ :: _, [], _, _, _, h, _, _, _ => h.elim
  | a :: es, x :: xs, 0, e, y, h, he, h1, h2 => by simp at he; subst he; exact ⟨⟨h1, h2⟩, h.2⟩
  | a :: es, x :: xs, i + 1, e, y, h, he, h1, h2 => ⟨h.1, okFl_set (i := i) h.2 (by simpa using he) h1 h2⟩
theorem net_set (v d : Int) : ∀ {es : List ED} {xs : List Int} {i : Nat} {e : ED} {x : Int}, es[i]? = some e → xs[i]? = some x → netOf v es (xs.set i (x + d)) = netOf v es xs + (if e.1 = v then d else 0) - (if e.2.1 = v then d else 0)
  | [], _, _, _, _, h, _ => by simp at h
  | _ :: _, [], _, _, _, _, h => by simp at h
  | a :: es, b :: xs, 0, e, x, h, k => by
    simp at h k
    subst h k
    simp only [List.set_cons_zero, netOf]
    split <;> split <;> omega
  | a :: es, b :: xs, i + 1, e, x, h, k => by
    simp only [List.set_cons_succ, netOf]
    rw [net_set v d (i := i) (by simpa using h) (by simpa using k)]
    omega
/-- The node that an arc leads to, and the one it comes from. -/
def hdA (e : ED) (b : Bool) : Int := if b then e.1 else e.2.1
def tlA (e : ED) (b : Bool) : Int := if b then e.2.1 else e.1
def edAt (es : List ED) (i : Nat) : ED := es[i]?.getD (0, 0, 0)
def flAt (xs : List Int) (i : Nat) : Int := xs[i]?.getD 0
/-- How much more may go along an arc. -/
def roomA (es : List ED) (xs : List Int) (a : AR) : Int := if a.2 then flAt xs a.1 else (edAt es a.1).2.2 - flAt xs a.1
theorem edAt_some {es : List ED} {i : Nat} {e : ED} (h : es[i]? = some e) : edAt es i = e := by unfold edAt; rw [h]; rfl
theorem flAt_some {xs : List Int} {i : Nat} {x : Int} (h : xs[i]? = some x) : flAt xs i = x := by unfold flAt; rw [h]; rfl
/-- The arcs of w lead from m to n, told from n on; the nodes' ranks fall. -/
def wayP (es : List ED) (rk : Int → Nat) : Int → List AR → Int → Prop
  | n, [], m => n = m
  | n, a :: u, m => (a.1 < es.length ∧ hdA (edAt es a.1) a.2 = n ∧ rk (tlA (edAt es a.1) a.2) < rk n) ∧ wayP es rk (tlA (edAt es a.1) a.2) u m
theorem wayP_snoc {es : List ED} {rk : Int → Nat} {a : AR} : ∀ {w : List AR} {n m : Int}, wayP es rk n w m → a.1 < es.length → hdA (edAt es a.1) a.2 = m → rk (tlA (edAt es a.1) a.2) < rk m → wayP es rk n (w ++ [a]) (tlA (edAt es a.1) a.2)
  | [], n, m, h, h1, h2, h3 => by
    have : n = m := h
    subst this
    exact ⟨⟨h1, h2, h3⟩, rfl⟩
  | b :: w, n, m, h, h1, h2, h3 => ⟨h.1, wayP_snoc h.2 h1 h2 h3⟩
theorem wayP_le {es : List ED} {rk : Int → Nat} {a : AR} : ∀ {w : List AR} {n m : Int}, wayP es rk n w m → a ∈ w → a.1 < es.length ∧ rk (edAt es a.1).1 ≤ rk n ∧ rk (edAt es a.1).2.1 ≤ rk n
  | [], n, m, _, h => by simp at h
  | b :: w, n, m, h, ha => by
    obtain ⟨⟨h1, h2, h3⟩, h4⟩ := h
    rcases List.mem_cons.1 ha with rfl | ha
    · refine ⟨h1, ?_⟩
      unfold hdA at h2
      unfold tlA at h3
      cases hb : a.2 <;> rw [hb] at h2 h3 <;> simp only [Bool.false_eq_true, if_false, if_true] at h2 h3 <;> rw [h2] <;> omega
    · have := wayP_le h4 ha
      omega
theorem wayP_nodup {es : List ED} {rk : Int → Nat} : ∀ {w : List AR} {n m : Int}, wayP es rk n w m → (w.map (·.1)).Nodup
  | [], _, _, _ => by simp
  | b :: w, n, m, h => by
    obtain ⟨⟨h1, h2, h3⟩, h4⟩ := h
    rw [List.map_cons, List.nodup_cons]
    refine ⟨fun hm => ?_, wayP_nodup h4⟩
    obtain ⟨a, ha, e⟩ := List.mem_map.1 hm
    have := wayP_le h4 ha
    rw [e] at this
    unfold hdA at h2
    cases hb : b.2 <;> rw [hb] at h2 <;> simp only [Bool.false_eq_true, if_false, if_true] at h2 <;> rw [h2] at this <;> omega
/-- More along every arc. -/
def goA (d : Int) (xs : List Int) (a : AR) : List Int := xs.set a.1 (flAt xs a.1 + (if a.2 then -d else d))
def goW (d : Int) (xs : List Int) (w : List AR) : List Int := w.foldl (goA d) xs
theorem goA_room {es : List ED} {xs : List Int} {d : Int} {a b : AR} (h : a.1 ≠ b.1) : roomA es (goA d xs b) a = roomA es xs a := by
  unfold roomA flAt goA
  rw [List.getElem?_set_ne (fun q => h q.symm)]
theorem goA_ok {es : List ED} {xs : List Int} {d : Int} {a : AR} (h : okFl es xs) (h1 : a.1 < es.length) (h2 : d ≤ roomA es xs a) (h0 : 0 ≤ d) : okFl es (goA d xs a) := by
  have he := List.getElem?_eq_getElem h1
  obtain ⟨x, hx, x0, x1⟩ := okFl_get h he
  unfold roomA at h2
  rw [edAt_some he, flAt_some hx] at h2
  unfold goA
  rw [flAt_some hx]
  refine okFl_set h he ?_ ?_ <;> cases hb : a.2 <;> rw [hb] at h2 <;> simp only [Bool.false_eq_true, if_false, if_true] at h2 ⊢ <;> omega
theorem goW_ok {es : List ED} {d : Int} (h0 : 0 ≤ d) : ∀ {w : List AR} {xs : List Int}, okFl es xs → (w.map (·.1)).Nodup → (∀ a ∈ w, a.1 < es.length ∧ d ≤ roomA es xs a) → okFl es (goW d xs w)
  | [], xs, h, _, _ => h
  | b :: w, xs, h, hn, hr => by
    rw [List.map_cons, List.nodup_cons] at hn
    have hb := hr b (List.mem_cons_self ..)
    refine goW_ok (w := w) (xs := goA d xs b) h0 (goA_ok h hb.1 hb.2 h0) hn.2 (fun a ha => ?_)
    have := hr a (List.mem_cons_of_mem _ ha)
    rw [goA_room (fun q => hn.1 (by rw [← q]; exact List.mem_map.2 ⟨a, ha, rfl⟩))]
    exact this
theorem goA_len (d : Int) (xs : List Int) (a : AR) : (goA d xs a).length = xs.length := by unfold goA; simp
theorem goA_net {es : List ED} {xs : List Int} {d v : Int} {a : AR} (h1 : a.1 < es.length) (h2 : a.1 < xs.length) : netOf v es (goA d xs a) = netOf v es xs + (if tlA (edAt es a.1) a.2 = v then d else 0) - (if hdA (edAt es a.1) a.2 = v then d else 0) := by
  have he := List.getElem?_eq_getElem h1
  have hx := List.getElem?_eq_getElem h2
  unfold goA
  rw [flAt_some hx, net_set v _ he hx, edAt_some he]
  unfold hdA tlA
  cases a.2 <;> simp only [Bool.false_eq_true, if_false, if_true] <;> split <;> split <;> omega
theorem goW_net {es : List ED} {rk : Int → Nat} {d v : Int} : ∀ {w : List AR} {xs : List Int} {n m : Int}, xs.length = es.length → wayP es rk n w m → netOf v es (goW d xs w) = netOf v es xs + (if m = v then d else 0) - (if n = v then d else 0)
  | [], xs, n, m, _, h => by
    have : n = m := h
    subst this
    show netOf v es xs = _
    omega
  | b :: w, xs, n, m, hl, h => by
    obtain ⟨⟨h1, h2, h3⟩, h4⟩ := h
    have := goW_net (d := d) (v := v) (xs := goA d xs b) (by rw [goA_len, hl]) h4
    show netOf v es (goW d (goA d xs b) w) = _
    rw [this, goA_net h1 (by omega), h2]
    omega
theorem goW_snoc (d : Int) (xs : List Int) (w : List AR) (a : AR) : goW d xs (w ++ [a]) = goA d (goW d xs w) a := by unfold goW; rw [List.foldl_append]; rfl
theorem goW_len (d : Int) : ∀ (w : List AR) (xs : List Int), (goW d xs w).length = xs.length
  | [], _ => rfl
  | b :: w, xs => by show (goW d (goA d xs b) w).length = _; rw [goW_len d w, goA_len]
/-- What a flow is: conserved, within the capacities. -/
def flowP (n : Nat) (s t : Int) (es : List ED) (xs : List Int) : Prop := okFl es xs ∧ ∀ v : Int, 0 ≤ v → v < n → v ≠ s → v ≠ t → netOf v es xs = 0
theorem flow_next {n : Nat} {s t : Int} {es : List ED} {xs : List Int} {rk : Int → Nat} {w : List AR} {d : Int} (h : flowP n s t es xs) (hw : wayP es rk t w s) (hr : ∀ a ∈ w, d ≤ roomA es xs a) (h0 : 0 ≤ d) (hst : s ≠ t) :
    flowP n s t es (goW d xs w) ∧ netOf s es (goW d xs w) = netOf s es xs + d := by
  refine ⟨⟨goW_ok h0 h.1 (wayP_nodup hw) (fun a ha => ⟨(wayP_le hw ha).1, hr a ha⟩), fun v h1 h2 h3 h4 => ?_⟩, ?_⟩
  · rw [goW_net (okFl_len h.1) hw, h.2 v h1 h2 h3 h4, if_neg (fun q => h3 q.symm), if_neg (fun q => h4 q.symm)]; rfl
  · rw [goW_net (okFl_len h.1) hw, if_pos rfl, if_neg (fun q => hst q.symm)]; omega
theorem flow_le {c : Int → Bool} {n : Nat} {s t : Int} {es : List ED} {xs : List Int} (h : flowP n s t es xs) (hN : inN n es) (hs0 : 0 ≤ s) (hs : s < n) (cs : c s = true) (ct : c t = false) : netOf s es xs ≤ capOf c es := by
  rw [val_cross hN hs0 hs cs ct h.2]; exact cross_le c es xs h.1
/-- Nothing more can leave the nodes that are reached. -/
def shutP (c : Int → Bool) (es : List ED) (xs : List Int) : Prop := ∀ (i : Nat) (e : ED), es[i]? = some e → (c e.1 = true → c e.2.1 = false → ¬ 0 < roomA es xs (i, false)) ∧ (c e.1 = false → c e.2.1 = true → ¬ 0 < roomA es xs (i, true))
theorem flow_eq {c : Int → Bool} {n : Nat} {s t : Int} {es : List ED} {xs : List Int} (h : flowP n s t es xs) (hN : inN n es) (hs0 : 0 ≤ s) (hs : s < n) (cs : c s = true) (ct : c t = false) (hc : shutP c es xs) : netOf s es xs = capOf c es := by
  rw [val_cross hN hs0 hs cs ct h.2]
  refine cross_eq c es xs h.1 (fun i e x he hx => ?_)
  obtain ⟨x', hx', x0, x1⟩ := okFl_get h.1 he
  rw [hx] at hx'
  obtain rfl := Option.some.inj hx'
  obtain ⟨k1, k2⟩ := hc i e he
  unfold roomA at k1 k2
  simp only [Bool.false_eq_true, if_false, if_true, edAt_some he, flAt_some hx] at k1 k2
  exact ⟨fun a b => by have := k1 a b; omega, fun a b => by have := k2 a b; omega⟩
/-- More capacity of one edge. -/
theorem cap_more (c : Int → Bool) : ∀ {es : List ED} {i : Nat} {e : ED} {y : Int}, es[i]? = some e → capOf c (es.set i (e.1, e.2.1, y)) = capOf c es + (if c e.1 && !c e.2.1 then y - e.2.2 else 0)
  | [], _, _, _, h => by simp at h
  | a :: es, 0, e, y, h => by
    simp at h; subst h
    simp only [List.set_cons_zero, capOf]
    split <;> omega
  | a :: es, i + 1, e, y, h => by
    simp only [List.set_cons_succ, capOf]
    rw [cap_more c (i := i) (by simpa using h)]
    omega
theorem okFl_more : ∀ {es : List ED} {xs : List Int} {i : Nat} {e : ED} {y : Int}, okFl es xs → es[i]? = some e → e.2.2 ≤ y → okFl (es.set i (e.1, e.2.1, y)) xs
  | [], [], _, _, _, _, h, _ => by simp at h
  | [], _ :: _, _, _, _, h, _, _ => h.elim
  | _ :: _, [], _, _, _, h, _, _ => h.elim
  | a :: es, x :: xs, 0, e, y, h, he, h1 => by simp at he; subst he; exact ⟨⟨h.1.1, by have := h.1.2; show x ≤ y; omega⟩, h.2⟩
  | a :: es, x :: xs, i + 1, e, y, h, he, h1 => ⟨h.1, okFl_more (i := i) h.2 (by simpa using he) h1⟩
theorem net_more (v : Int) : ∀ {es : List ED} {xs : List Int} {i : Nat} {e : ED} {y : Int}, es[i]? = some e → netOf v (es.set i (e.1, e.2.1, y)) xs = netOf v es xs
  | [], _, _, _, _, h => by simp at h
  | _ :: _, [], i, _, _, _ => by cases i <;> simp [netOf]
  | a :: es, x :: xs, 0, e, y, h => by simp at h; subst h; simp [netOf]
  | a :: es, x :: xs, i + 1, e, y, h => by simp only [List.set_cons_succ, netOf]; rw [net_more v (i := i) (by simpa using h)]
theorem inN_more {n : Nat} {es : List ED} {i : Nat} {e : ED} {y : Int} (h : inN n es) (he : es[i]? = some e) : inN n (es.set i (e.1, e.2.1, y)) := by
  intro a ha
  rcases List.mem_or_eq_of_mem_set ha with h1 | rfl
  · exact h a h1
  · exact h e (List.mem_of_getElem? he)
/-- THE CUT's LAW: more capacity of one edge raises the greatest value by at most as much, and only across the cut. -/
theorem cut_law {c c2 : Int → Bool} {n : Nat} {s t : Int} {es : List ED} {xs ys : List Int} {i : Nat} {e : ED} {y : Int} (hN : inN n es) (hs0 : 0 ≤ s) (hs : s < n)
    (h : flowP n s t es xs) (cs : c s = true) (ct : c t = false) (hc : shutP c es xs) (he : es[i]? = some e) (hy : e.2.2 ≤ y)
    (h2 : flowP n s t (es.set i (e.1, e.2.1, y)) ys) (cs2 : c2 s = true) (ct2 : c2 t = false) (hc2 : shutP c2 (es.set i (e.1, e.2.1, y)) ys) :
    netOf s es xs ≤ netOf s (es.set i (e.1, e.2.1, y)) ys ∧ netOf s (es.set i (e.1, e.2.1, y)) ys ≤ netOf s es xs + (y - e.2.2) ∧ (netOf s (es.set i (e.1, e.2.1, y)) ys = netOf s es xs ∨ (c e.1 = true ∧ c e.2.1 = false)) := by
  have e1 := flow_eq h hN hs0 hs cs ct hc
  have e2 := flow_eq h2 (inN_more hN he) hs0 hs cs2 ct2 hc2
  have u := flow_le h2 (inN_more hN he) hs0 hs cs ct
  rw [cap_more c he] at u
  have hx : flowP n s t (es.set i (e.1, e.2.1, y)) xs := ⟨okFl_more h.1 he hy, fun v a1 a2 a3 a4 => by rw [net_more v he]; exact h.2 v a1 a2 a3 a4⟩
  have l := flow_le hx (inN_more hN he) hs0 hs cs2 ct2
  rw [net_more s he] at l
  cases h3 : c e.1 <;> cases h4 : c e.2.1 <;> rw [h3, h4] at u <;> simp at u ⊢ <;> omega
end Go.Proofs.Ytajdfcliiefjgaa
