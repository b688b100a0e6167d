/-
  As Tail, where the region's last operation only moves a constant (the index of a range loop): it may come up at any time, so it is taken first.
  Conditions: none.
-/
import Derived.Test.YtnlbfemlclepkaaTail
import Derived.OrdersHeld
namespace Go.Proofs.Ytnlbfemlclepkaa
open Go Go.RowKit
section
variable {P : Program} {ops : Array Oper} {md : Region.Mode} {C : World → Prop} {Q : Exit → Act → World → Prop}

theorem wpAnyH_true : ∀ (fuel : Nat) (listed : Array Bool) (a : Act) (w : World), wpAny P md ops Q fuel listed a w → wpAnyH P md ops Q (fun _ => True) fuel listed a w
  | 0, _, _, _, h => h
  | fuel + 1, _, _, _, h => ⟨h.1, fun i hi => wpOp_mono (fun a' w' h' => ⟨trivial, wpAnyH_true fuel _ a' w' h'⟩) (h.2 i hi)⟩

/-- The tail in its one order, up to number p. -/
def chainP (md : Region.Mode) (ops : Array Oper) (n p : Nat) : Bool :=
  (List.range p).all fun t => decide (t ≤ n) || Region.waitsFor md ops t (t - 1)

structure HeadP (md : Region.Mode) (ops : Array Oper) (n p : Nat) (listed : Array Bool) : Prop where
  size : listed.size = ops.size
  closed : ∀ j oj, j ≠ p → ops[j]? = some oj → listed.getD j false = true → ∀ e ∈ oj.after, Region.binds md e = true → listed.getD e.on false = true
  tail : ∀ t, n ≤ t → t < p → listed.getD t true = false
  last : listed.getD p true = true

theorem HeadP.set {n p i : Nat} {listed : Array Bool} (inv : HeadP md ops n p listed) (hi : i ∈ Region.ready md ops listed) (hin : i < n) : HeadP md ops n p (listed.setIfInBounds i true) := by
  obtain ⟨hun, oi, hoi, hall⟩ := mem_ready.1 hi
  have hip : i ≠ p := fun e => by rw [e, inv.last] at hun; cases hun
  refine ⟨by simp [inv.size], fun j oj hjp hj hl e he hb => ?_, fun t ht ht' => by rw [getD_set_ne true (by omega)]; exact inv.tail t ht ht', by rw [getD_set_ne true hip]; exact inv.last⟩
  by_cases hij : i = j
  · subst hij
    have : oj = oi := Option.some.inj (hj.symm.trans hoi)
    subst this
    exact getD_set_true (hall e he hb)
  · rw [getD_set_ne false hij] at hl
    exact getD_set_true (inv.closed j oj hjp hj hl e he hb)

theorem tailP_waits {n p : Nat} {listed : Array Bool} (hs : Region.sinkB md ops n = true) (hc : chainP md ops n p = true) (hn : n < p) (hp : p + 1 = ops.size) (inv : HeadP md ops n p listed) :
    ∀ (d i : Nat), n - i = d → i < n → listed.getD i true = false → ∀ t, n ≤ t → t ∉ Region.ready md ops listed := by
  intro d
  induction d using Nat.strongRecOn with
  | _ d ih =>
    intro i hd hi hun t ht hr
    obtain ⟨hunt, ot, hot, hall⟩ := mem_ready.1 hr
    have htlt : t < ops.size := (Array.getElem?_eq_some_iff.1 hot).1
    have htp : t < p := by
      rcases Nat.lt_or_eq_of_le (show t ≤ p by omega) with h | h
      · exact h
      · rw [h, inv.last] at hunt; cases hunt
    by_cases htn : t = n
    · subst htn
      have h1 := List.all_eq_true.1 hs i (List.mem_range.2 hi)
      obtain ⟨j, hj, hj2⟩ := List.any_eq_true.1 h1
      simp only [Bool.and_eq_true, decide_eq_true_eq] at hj2
      obtain ⟨oj, hoj, e, he, hb, hon⟩ := Region.waitsFor_spec hj2.2
      have hjle : j ≤ t := by have := List.mem_range.1 hj; omega
      by_cases hjt : j = t
      · subst hjt
        have : oj = ot := Option.some.inj (hoj.symm.trans hot)
        subst this
        have h2 := hall e he hb
        rw [hon, getD_both hun] at h2
        cases h2
      · cases hl : listed.getD j false with
        | true =>
          have h2 := inv.closed j oj (by omega) hoj hl e he hb
          rw [hon, getD_both hun] at h2
          cases h2
        | false =>
          have hjs : j < listed.size := by rw [inv.size]; omega
          exact ih (t - j) (by omega) j rfl (by omega) (getD_in hjs hl) t (Nat.le_refl _) hr
    · have h1 := List.all_eq_true.1 hc t (List.mem_range.2 htp)
      simp only [Bool.or_eq_true, decide_eq_true_eq] at h1
      rcases h1 with h1 | h1
      · omega
      · obtain ⟨o', ho', e, he, hb, hon⟩ := Region.waitsFor_spec h1
        have : o' = ot := Option.some.inj (ho'.symm.trans hot)
        subst this
        have h2 := hall e he hb
        rw [hon, getD_both (inv.tail (t - 1) (by omega) (by omega))] at h2
        cases h2

theorem wpAnyLP_first {n p i : Nat} {oi : Oper} {v : Value} {L : Array Bool → Act → Prop} (hi : ops[i]? = some oi) (hsel : ∀ (j : Nat) (o : Oper) cs b, ops[j]? = some o → o.op ≠ .select cs b)
    (hs : Region.sinkB md ops n = true) (hc : chainP md ops n p = true) (hn : n < p) (hp : p + 1 = ops.size) (hin : i < n)
    (hdone : ∀ listed a, L listed a → ∀ j ∈ Region.ready md ops listed, n ≤ j) :
    ∀ (f : Nat) (listed : Array Bool) (a : Act), HeadP md ops n p listed →
      (∀ j oj, ops[j]? = some oj → j ≠ i → listed.getD j true = false → (∀ e ∈ oj.after, Region.binds md e = true → e.on ≠ i) → oi.apart ops oj = true) →
      i ∈ Region.ready md ops listed → YieldsIn P ops C oi v a →
      wpAnyLQ P md ops C n L f (listed.setIfInBounds i true) (a.put oi.dst v) → wpAnyLQ P md ops C n L (f + 1) listed a := by
  intro f
  induction f with
  | zero =>
    intro listed a inv _ hr hy H
    have hun := (mem_ready.1 hr).1
    refine ⟨fun h => (by rw [h] at hr; cases hr), fun j hj => ?_⟩
    have hjn : j < n := by
      rcases Nat.lt_or_ge j n with h | h
      · exact h
      · exact absurd hj (tailP_waits hs hc hn hp inv _ i rfl hin hun j h)
    refine ⟨hjn, ?_⟩
    by_cases hji : j = i
    · subst hji; exact hy.qOp hi H
    · have := hdone _ _ H j (ready_mono hj hji)
      omega
  | succ f ih =>
    intro listed a inv hfree hr hy H
    have hun := (mem_ready.1 hr).1
    refine ⟨fun h => (by rw [h] at hr; cases hr), fun j hj => ?_⟩
    have hjn : j < n := by
      rcases Nat.lt_or_ge j n with h | h
      · exact h
      · exact absurd hj (tailP_waits hs hc hn hp inv _ i rfl hin hun j h)
    refine ⟨hjn, ?_⟩
    by_cases hji : j = i
    · subst hji; exact hy.qOp hi H
    · have h1 := (H.2 j (ready_mono hj hji)).2
      obtain ⟨hjun, oj, hoj, hall⟩ := mem_ready.1 hj
      have hnot : ∀ e ∈ oj.after, Region.binds md e = true → e.on ≠ i := fun e he hb heq => by
        have h1 := hall e he hb
        rw [heq, getD_both hun] at h1
        cases h1
      have h2 := qOp_put hoj (hfree j oj hoj hji hjun hnot) (fun cs b => hsel i oi cs b hi) (fun cs b => hsel j oj cs b hoj) hy h1
      have hfree' : ∀ k ok, ops[k]? = some ok → k ≠ i → (listed.setIfInBounds j true).getD k true = false →
          (∀ e ∈ ok.after, Region.binds md e = true → e.on ≠ i) → oi.apart ops ok = true := fun k ok hk hki hun hno => by
        refine hfree k ok hk hki ?_ hno
        by_cases hjk : j = k
        · subst hjk; exact hjun
        · rw [getD_set_ne true hjk] at hun; exact hun
      refine qOp_mono (fun a' h3 => ih (listed.setIfInBounds j true) a' (inv.set hj hjn) hfree' (ready_mono hr (Ne.symm hji)) h3.1 ?_) h2
      rw [Array.setIfInBounds_comm _ _ hji]
      exact h3.2

theorem wpAnyLP_lex {n p g : Nat} {Lq : Act → Prop} (hsel : Region.noSelect ops = true) (hs : Region.sinkB md ops n = true) (hc : chainP md ops n p = true) (hn : n < p) (hp : p + 1 = ops.size) :
    ∀ (l : List Oper) (k : Nat) (listed : Array Bool) (a : Act), (∀ j, j < l.length → l[j]? = ops[k + j]?) → k + l.length = n → HeadP md ops n p listed →
    Region.lexHead md ops g l.length k listed = true → wpQuiet P ops C Lq l a →
    wpAnyLQ P md ops C n (fun listed' a' => Region.seqB md ops g n listed' = true ∧ Lq a') l.length listed a
  | [], k, listed, a, _, hk, _, hB, h => by
    have : k = n := by simpa using hk
    subst this
    exact ⟨by simpa [Region.lexHead] using hB, h⟩
  | o :: l, k, listed, a, hl, hk, inv, hB, h => by
    have h0 : ops[k]? = some o := by simpa using (hl 0 (by simp)).symm
    simp only [List.length_cons, Region.lexHead, Bool.and_eq_true] at hB
    obtain ⟨⟨hr, hf⟩, hB'⟩ := hB
    have hkn : k < n := by simp only [List.length_cons] at hk; omega
    have hr' : k ∈ Region.ready md ops listed := by simpa using hr
    have hst : qOp P ops C k (wpQuiet P ops C Lq l) a := by unfold qOp; simp only [h0]; exact h
    obtain ⟨v, hy, hK⟩ := yieldsIn_of_qOp h0 hst
    exact wpAnyLP_first h0 (Region.noSelect_spec hsel) hs hc hn hp hkn (fun listed' a' hL => seqB_ready hL.1) l.length listed a inv (Region.free_spec h0 hf) hr' hy
      (wpAnyLP_lex hsel hs hc hn hp l (k + 1) _ _ (fun j hj => by have := hl (j + 1) (by simp; omega); simpa [Nat.add_assoc, Nat.add_comm 1 j] using this) (by simp only [List.length_cons] at hk; omega) (inv.set hr' hkn) hB' hK)

theorem wpAny_of_seqP {Q' : Exit → Act → World → Prop} : ∀ (l : List Oper) (k : Nat) (listed : Array Bool) (a : Act) (w : World), (∀ j, j < l.length → l[j]? = ops[k + j]?) →
    Region.seqB md ops l.length k listed = true → wpList P ops Q' l a w → wpAny P md ops Q' l.length listed a w
  | [], _, _, _, _, _, hB, h => ⟨by simpa [Region.seqB] using hB, h⟩
  | o :: l, k, listed, a, w, hl, hB, h => by
    have h0 : ops[k]? = some o := by simpa using (hl 0 (by simp)).symm
    simp only [List.length_cons, Region.seqB, Bool.and_eq_true, decide_eq_true_eq] at hB
    refine ⟨fun h1 => (by rw [hB.1] at h1; cases h1), fun i hi => ?_⟩
    rw [hB.1] at hi
    have hik : i = k := by simpa using hi
    subst hik
    have hw : wpOp P ops Q' i (wpList P ops Q' l) a w := by unfold wpOp; simp only [h0]; exact h
    exact wpOp_mono (fun a' w' h' => wpAny_of_seqP l (i + 1) _ a' w' (fun j hj => by have := hl (j + 1) (by simp; omega); simpa [Nat.add_assoc, Nat.add_comm 1 j] using this) hB.2 h') hw

/-- What is asked of the region, as one Bool: n operations in the head, then those up to p in one order, p itself last in the text. -/
def moveTailB (ops : Array Oper) (n p : Nat) : Bool :=
  Region.noSelect ops && decide (n < p) && decide (p + 1 = ops.size) && Region.sinkB .any ops n && chainP .any ops n p
    && (Region.ready .any ops (Array.replicate ops.size false)).contains p && Region.free .any ops (Array.replicate ops.size false) p
    && Region.lexHead .any ops (p - n) n 0 ((Array.replicate ops.size false).setIfInBounds p true)

theorem region_later_move {id : Nat} {a : Act} {w : World} {l : List Oper} (n p : Nat) (o : Oper) (c : Value) (hm : P.follows .mixedOrders = true) (hB : moveTailB l.toArray n p = true)
    (ho : l[p]? = some o) (hmv : o.op = .move (.const c)) (hg : o.guard = none) (hQ : ∀ (pc : List PanicEntry) (a : Act) (w : World), Q (.panic pc) (a.put o.dst c) w → Q (.panic pc) a w)
    (h : wpQuiet P l.toArray (fun w' => ∃ x : Later w, w' = x.1) (fun a' => ∀ w', (∃ x : Later w, w' = x.1) → wpList P l.toArray Q ((l.drop n).take (p - n)) a' w') (l.take n) (a.put o.dst c)) : (Code.region id l.toArray true).wp P Q a w := by
  simp only [moveTailB, Bool.and_eq_true, decide_eq_true_eq] at hB
  obtain ⟨⟨⟨⟨⟨⟨⟨hsel, hn⟩, hp⟩, hs⟩, hc⟩, hrp⟩, hfp⟩, hlex⟩ := hB
  have hp' : p + 1 = l.length := by simpa using hp
  have htl : (l.take n).length = n := by simp; omega
  have hdl : ((l.drop n).take (p - n)).length = p - n := by simp; omega
  have hop : l.toArray[p]? = some o := by simpa using ho
  have inv0 : HeadP .any l.toArray n p ((Array.replicate l.toArray.size false).setIfInBounds p true) := by
    refine ⟨by simp, fun j oj hjp _ hl => ?_, fun t _ ht => ?_, ?_⟩
    · rw [getD_set_ne false (Ne.symm hjp), getD_replicate_false] at hl; cases hl
    · rw [getD_set_ne true (by omega)]
      exact getD_in (by simp; omega) (getD_replicate_false _ _)
    · simp [show p < l.length by omega]
  have H := wpAnyLP_lex (md := .any) (p := p) (g := p - n) hsel hs hc hn hp (l.take n) 0 _ (a.put o.dst c) (fun j hj => by
    have hj' : j < n := by rw [htl] at hj; exact hj
    simp [hj']) (by simpa using htl) inv0 (by rw [htl]; exact hlex) h
  refine wp_region_any hm ?_
  have hC : ∃ x : Later w, ({ w with drawn := w.drawn + 1 } : World) = x.1 := ⟨⟨{ w with drawn := w.drawn + 1 }, rfl, rfl, rfl, Nat.le_refl _, fun _ _ => rfl⟩, rfl⟩
  have K := wpAny_of_headQ (Q' := Q) (g := p - n) (fun listed a' w' hw' hL => by
    have := wpAny_of_seqP (md := .any) (Q' := Q) ((l.drop n).take (p - n)) n listed a' w' (fun j hj => by
      rw [hdl] at hj
      simp [List.getElem?_drop, hj]) (by rw [hdl]; exact hL.1) (hL.2 w' hw')
    rwa [hdl] at this) _ _ _ _ hC H
  rw [htl, show n + (p - n) = p by omega] at K
  have hy : YieldsIf P l.toArray (fun _ => True) o c a := by
    refine Yields.yieldsIf (.inl ⟨?_, fun w => ?_⟩)
    · simp [Region.wanted, hg]
    · have e : execOp a.eval o = execOp a.eval { o with op := .move (.const c) } := by rw [← hmv]
      rw [e]
      simp [execOp, Act.eval]
  have R := wpAnyH_first (md := .any) hop (Region.noSelect_spec hsel) (fun c' a' w' h' => hQ c' a' w' h') p (Array.replicate l.toArray.size false) a { w with drawn := w.drawn + 1 }
    (Region.free_spec hop hfp) (by simpa using hrp) hy trivial (wpAnyH_true _ _ _ _ K)
  have := wpAny_of_held _ _ _ _ R
  rw [hp] at this
  exact this
end
end Go.Proofs.Ytnlbfemlclepkaa
