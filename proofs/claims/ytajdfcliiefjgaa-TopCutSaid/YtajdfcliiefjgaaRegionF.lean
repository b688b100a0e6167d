/-
  A region that draws its order with an operation that may come up before or behind the first of the tail.
  Conditions: none.
-/
import Derived.Test.YtajdfcliiefjgaaRegion
namespace Go.Proofs.Ytajdfcliiefjgaa
open Go Go.RowKit
section
variable {P : Program} {ops : Array Oper} {md : Region.Mode} {Q : Exit → Act → World → Prop}
def wpAnyV (P : Program) (md : Region.Mode) (ops : Array Oper) (Q : Exit → Act → World → Prop) (n g : Nat) (L : Array Bool → Act → World → Prop) : Nat → Array Bool → Act → World → Prop
  | 0, listed, a, W0 => L listed a W0
  | f + 1, listed, a, W0 => Region.ready md ops listed ≠ [] ∧ ∀ i ∈ Region.ready md ops listed,
      (i < n ∧ ∀ W, After W0 W → wpOp P ops Q i (fun a' W' => After W W' ∧ wpAnyV P md ops Q n g L f (listed.setIfInBounds i true) a' W') a W)
      ∨ (i = n ∧ ∀ W, After W0 W → wpOp P ops Q i (wpAny P md ops Q (f + g) (listed.setIfInBounds i true)) a W)
theorem wpAnyV.later {n g : Nat} {L : Array Bool → Act → World → Prop} (hL : ∀ l a W W', After W W' → L l a W → L l a W') : ∀ (f : Nat) (listed : Array Bool) (a : Act) (W0 W1 : World), After W0 W1 →
    wpAnyV P md ops Q n g L f listed a W0 → wpAnyV P md ops Q n g L f listed a W1
  | 0, _, _, _, _, h, H => hL _ _ _ _ h H
  | _ + 1, _, _, _, _, h, H => ⟨H.1, fun i hi => (H.2 i hi).imp (fun ⟨h1, h2⟩ => ⟨h1, fun W hW => h2 W (h.trans hW)⟩) (fun ⟨h1, h2⟩ => ⟨h1, fun W hW => h2 W (h.trans hW)⟩)⟩
theorem wpAnyV.any {n g : Nat} {L : Array Bool → Act → World → Prop} (hL : ∀ l a W, L l a W → wpAny P md ops Q g l a W) : ∀ (f : Nat) (listed : Array Bool) (a : Act) (W0 : World),
    wpAnyV P md ops Q n g L f listed a W0 → wpAny P md ops Q (f + g) listed a W0
  | 0, listed, a, W0, h => by rw [Nat.zero_add]; exact hL _ _ _ h
  | f + 1, listed, a, W0, h => by
    rw [show f + 1 + g = (f + g) + 1 by omega]
    refine ⟨fun h0 => absurd h0 h.1, fun i hi => ?_⟩
    rcases h.2 i hi with ⟨_, h2⟩ | ⟨_, h2⟩
    · exact wpOp_mono (fun a' w' h' => wpAnyV.any hL f _ a' w' h'.2) (h2 W0 (After.refl _))
    · exact h2 W0 (After.refl _)
def headF (md : Region.Mode) (ops : Array Oper) (l0 : Array Bool) (n q : Nat) : Bool :=
  (List.range n).all fun i => i == q || (l0.getD i false || (List.range (n + 1)).any fun j => decide (i < j) && (j != q && (!l0.getD j false && Region.waitsFor md ops j i)))
theorem tailF_waits {l0 : Array Bool} {n q : Nat} {listed : Array Bool} (hs : headF md ops l0 n q = true) (hc : tailB md ops l0 n = true) (hn : n < ops.size) (hn0 : l0.getD n false = false) (inv : HeadU md ops l0 n listed) :
    ∀ (d i : Nat), n - i = d → i < n → i ≠ q → listed.getD i true = false → ∀ t, n ≤ t → t ∉ Region.ready md ops listed := by
  intro d
  induction d using Nat.strongRecOn with
  | _ d ih =>
    intro i hd hi hiq hun t ht hr
    obtain ⟨htun, ot, hot, hall⟩ := mem_ready.1 hr
    have htlt : t < ops.size := (Array.getElem?_eq_some_iff.1 hot).1
    by_cases htn : t = n
    · subst htn
      have h1 := List.all_eq_true.1 hs i (List.mem_range.2 hi)
      simp only [Bool.or_eq_true, beq_iff_eq] at h1
      rcases h1 with h1 | h1 | h1
      · exact hiq h1
      · have := inv.more i h1
        rw [both_of hun] at this; cases this
      obtain ⟨j, hj, hj2⟩ := List.any_eq_true.1 h1
      simp only [Bool.and_eq_true, decide_eq_true_eq, Bool.not_eq_true', bne_iff_ne, ne_eq] at hj2
      obtain ⟨hij, hjq, hj0, hjw⟩ := hj2
      obtain ⟨oj, hoj, e, he, hb, hon⟩ := Region.waitsFor_spec hjw
      have hjle : j ≤ t := by have := List.mem_range.1 hj; omega
      by_cases hjt : j = t
      · subst hjt
        have : oj = ot := Option.some.inj (hoj.symm.trans hot)
        subst this
        have h2 := hall e he hb
        rw [hon, both_of hun] at h2
        cases h2
      · cases hl : listed.getD j false with
        | true =>
          have h2 := inv.closed j oj hj0 hoj hl e he hb
          rw [hon, both_of hun] at h2
          cases h2
        | false =>
          have hjs : j < listed.size := by rw [inv.size]; omega
          exact ih (t - j) (by omega) j rfl (by omega) hjq (getD_in hjs hl) t (Nat.le_refl _) hr
    · have h1 := List.all_eq_true.1 hc t (List.mem_range.2 htlt)
      simp only [Bool.or_eq_true, decide_eq_true_eq] at h1
      rcases h1 with (h1 | h1) | h1
      · omega
      · have := inv.more t h1
        rw [both_of htun] at this; cases this
      · obtain ⟨s, hs1, hs2⟩ := List.any_eq_true.1 h1
        simp only [Bool.and_eq_true, decide_eq_true_eq, Bool.not_eq_true'] at hs2
        obtain ⟨hns, hs0, hsw⟩ := hs2
        obtain ⟨o', ho', e, he, hb, hon⟩ := Region.waitsFor_spec hsw
        have : o' = ot := Option.some.inj (ho'.symm.trans hot)
        subst this
        have h2 := hall e he hb
        rw [hon, inv.tail s hns hs0] at h2
        cases h2
theorem wpAnyV_first {l0 : Array Bool} {n g q i : Nat} {oi : Oper} {v : Value} {L : Array Bool → Act → World → Prop} (hi : ops[i]? = some oi) (hsel : ∀ (j : Nat) (o : Oper) cs b, ops[j]? = some o → o.op ≠ .select cs b)
    (hs : headF md ops l0 n q = true) (hc : tailB md ops l0 n = true) (hn : n < ops.size) (hn0 : l0.getD n false = false) (hin : i < n) (hiq : i ≠ q)
    (hQ : ∀ c a w, Q (.panic c) (a.put oi.dst v) w → Q (.panic c) a w)
    (hL : ∀ l a W W', After W W' → L l a W → L l a W') (hdone : ∀ listed a W, L listed a W → ∀ j ∈ Region.ready md ops listed, n ≤ j) :
    ∀ (f : Nat) (listed : Array Bool) (a : Act) (W0 : World), HeadU md ops l0 n listed →
      (∀ j oj, ops[j]? = some oj → j ≠ i → listed.getD j true = false → (∀ e ∈ oj.after, Region.binds md e = true → e.on ≠ i) → oi.apart ops oj = true) →
      i ∈ Region.ready md ops listed → YieldsUp P ops W0 oi v a →
      wpAnyV P md ops Q n g L f (listed.setIfInBounds i true) (a.put oi.dst v) W0 → wpAnyV P md ops Q n g L (f + 1) listed a W0 := by
  intro f
  induction f with
  | zero =>
    intro listed a W0 inv _ hr hy H
    have hun := (mem_ready.1 hr).1
    refine ⟨fun h => (by rw [h] at hr; cases hr), fun j hj => .inl ?_⟩
    have hjn : j < n := by
      rcases Nat.lt_or_ge j n with h | h
      · exact h
      · exact absurd hj (tailF_waits hs hc hn hn0 inv _ i rfl hin hiq hun j h)
    refine ⟨hjn, fun W hW => ?_⟩
    by_cases hji : j = i
    · subst hji; exact hy.wpOp hi hW fun W' hW' => ⟨hW', hL _ _ _ _ (hW.trans hW') H⟩
    · have := hdone _ _ _ H j (ready_mono hj hji)
      omega
  | succ f ih =>
    intro listed a W0 inv hfree hr hy H
    have hun := (mem_ready.1 hr).1
    refine ⟨fun h => (by rw [h] at hr; cases hr), fun j hj => .inl ?_⟩
    have hjn : j < n := by
      rcases Nat.lt_or_ge j n with h | h
      · exact h
      · exact absurd hj (tailF_waits hs hc hn hn0 inv _ i rfl hin hiq hun j h)
    refine ⟨hjn, fun W hW => ?_⟩
    by_cases hji : j = i
    · subst hji; exact hy.wpOp hi hW fun W' hW' => ⟨hW', wpAnyV.later hL _ _ _ _ _ (hW.trans hW') H⟩
    · rcases H.2 j (ready_mono hj hji) with ⟨_, h1'⟩ | ⟨h1', _⟩
      rotate_left
      · omega
      have h1 := h1' W hW
      obtain ⟨hjun, oj, hoj, hall⟩ := mem_ready.1 hj
      have hnot : ∀ e ∈ oj.after, Region.binds md e = true → e.on ≠ i := fun e he hb heq => by
        have h1 := hall e he hb
        rw [heq, getD_both hun] at h1
        cases h1
      have h2 := wpOp_swap hoj (hfree j oj hoj hji hjun hnot) (fun cs b => hsel i oi cs b hi) (fun cs b => hsel j oj cs b hoj) hQ h1
      have hfree' : ∀ k ok, ops[k]? = some ok → k ≠ i → (listed.setIfInBounds j true).getD k true = false →
          (∀ e ∈ ok.after, Region.binds md e = true → e.on ≠ i) → oi.apart ops ok = true := fun k ok hk hki hun hno => by
        refine hfree k ok hk hki ?_ hno
        by_cases hjk : j = k
        · subst hjk; exact hjun
        · rw [getD_set_ne true hjk] at hun; exact hun
      refine wpOp_mono (fun a' W' h3 => ⟨h3.2.1, ih (listed.setIfInBounds j true) a' W' (inv.set hj hjn) hfree' (ready_mono hr (Ne.symm hji)) ((hy.later (hW.trans h3.2.1)).same h3.1.1 h3.1.2) ?_⟩) h2
      rw [Array.setIfInBounds_comm _ _ hji]
      exact h3.2.2
theorem wpAnyV_lex {l : List Oper} {l0 : Array Bool} {n g q f : Nat} {aF : Act} {L : Array Bool → Act → World → Prop} {k : Array Bool → Bool} {m : Nat} (hsel : Region.noSelect l.toArray = true)
    (hs : headF md l.toArray l0 n q = true) (hc : tailB md l.toArray l0 n = true) (hn : n < l.toArray.size) (hn0 : l0.getD n false = false)
    (hQ : ∀ c (a : Act) (d : Tmp) v w, Q (.panic c) (a.put (some d) v) w → Q (.panic c) a w)
    (hL : ∀ l a W W', After W W' → L l a W → L l a W') (hdone : ∀ listed a W, L listed a W → ∀ j ∈ Region.ready md l.toArray listed, n ≤ j) :
    ∀ (hd : List Nat) (listed : Array Bool) (a : Act) (W0 : World), a.tmps.size = m → HeadU md l.toArray l0 n listed → headL md l.toArray n k hd listed = true → hd.contains q = false → dstB m (pickO l hd) = true →
      (∀ W1, After W0 W1 → wpQuiet P l.toArray (fun w' => ∃ x : Later W1, w' = x.1) (fun a' => a' = aF) (pickO l hd) a) →
      (∀ listed', k listed' = true → HeadU md l.toArray l0 n listed' → wpAnyV P md l.toArray Q n g L f listed' aF W0) →
      wpAnyV P md l.toArray Q n g L (hd.length + f) listed a W0
  | [], listed, a, W0, _, inv, hB, _, _, h, K => by
    have e : a = aF := h W0 (After.refl _)
    rw [List.length_nil, Nat.zero_add, e]
    exact K listed hB inv
  | i :: hd, listed, a, W0, hm, inv, hB, hq, hD, h, K => by
    simp only [headL, Bool.and_eq_true, decide_eq_true_eq] at hB
    obtain ⟨hin, hr, hf, hB⟩ := hB
    have hiq : i ≠ q := fun e => by subst e; simp at hq
    have hq' : hd.contains q = false := by
      simp only [List.contains_cons, Bool.or_eq_false_iff] at hq
      exact hq.2
    have hr' : i ∈ Region.ready md l.toArray listed := by simpa using hr
    obtain ⟨_, o, ho, _⟩ := mem_ready.1 hr'
    have ho' : l[i]? = some o := by simpa using ho
    rw [pickO_cons ho'] at hD h
    simp only [dstB, Bool.and_eq_true] at hD
    obtain ⟨hD1, hD2⟩ := hD
    obtain ⟨d, hd'⟩ : ∃ d, o.dst = some d := by
      cases h : o.dst with
      | none => rw [h] at hD1; cases hD1
      | some d => exact ⟨d, rfl⟩
    rw [hd'] at hD1
    simp only [Bool.and_eq_true, decide_eq_true_eq] at hD1
    have hsz : ∀ v, (a.put o.dst v).tmps.size = m := fun v => by rw [hd']; simp [Act.put, hm]
    have key : ∃ v, YieldsUp P l.toArray W0 o v a ∧ ∀ W1, After W0 W1 → wpQuiet P l.toArray (fun w' => ∃ x : Later W1, w' = x.1) (fun a' => a' = aF) (pickO l hd) (a.put o.dst v) := by
      by_cases hw : Region.wanted o (yielded l.toArray a.tmps) = true
      · have one : ∀ W1, After W0 W1 → ∃ v, aF.tmps[d]? = some v ∧ (∀ w, (∃ x : Later W1, w = x.1) → o.quietAt P a (fun w' => ∃ x : Later W1, w' = x.1) w v) ∧ wpQuiet P l.toArray (fun w' => ∃ x : Later W1, w' = x.1) (fun a' => a' = aF) (pickO l hd) (a.put o.dst v) := fun W1 h1 => by
          have h2 := h W1 h1
          unfold wpQuiet at h2
          rw [if_pos hw] at h2
          obtain ⟨v, h3, h4⟩ := h2
          refine ⟨v, ?_, h3, h4⟩
          rw [quiet_keep _ _ h4 hD1.2, hd']
          simp [Act.put, hm, hD1.1]
        obtain ⟨v, hv, _, _⟩ := one W0 (After.refl _)
        refine ⟨v, .inl ⟨hw, fun W hW => ?_⟩, fun W1 h1 => ?_⟩
        · obtain ⟨u, hu, h3, _⟩ := one W hW
          obtain rfl : v = u := Option.some.inj (hv.symm.trans hu)
          have h4 := h3 W ⟨⟨W, After.refl _⟩, rfl⟩
          unfold Oper.quietAt at h4
          cases hr : (execOp a.eval o).run P W with
          | ok nx w' =>
            rw [hr] at h4
            cases nx with
            | enter f args => exact ⟨h4.1, Calls.mono h4.2 fun e w'' ⟨he, x, hx⟩ => ⟨he, by rw [hx]; exact x.2⟩⟩
            | value u => exact h4
            | skip => exact h4
            | _ => exact h4.elim
          | halt x w' => rw [hr] at h4; exact h4.elim
        · obtain ⟨u, hu, _, h5⟩ := one W1 h1
          obtain rfl : v = u := Option.some.inj (hv.symm.trans hu)
          exact h5
      · refine ⟨undef, .inr ⟨by simpa using hw, rfl⟩, fun W1 h1 => ?_⟩
        have h2 := h W1 h1
        unfold wpQuiet at h2
        rwa [if_neg hw] at h2
    obtain ⟨v, hy, hrest⟩ := key
    rw [List.length_cons, show hd.length + 1 + f = (hd.length + f) + 1 by omega]
    exact wpAnyV_first ho (Region.noSelect_spec hsel) hs hc hn hn0 hin hiq (by rw [hd']; exact fun c a w => hQ c a d v w) hL hdone _ _ _ _ inv (Region.free_spec ho hf) hr' hy
      (wpAnyV_lex hsel hs hc hn hn0 hQ hL hdone hd _ _ W0 (hsz v) (inv.set hr' hin) hB hq' hD2 hrest K)
def genFB (ops : Array Oper) (l0 : Array Bool) (n m q : Nat) (hs ts : List Nat) (os : List Oper) : Bool :=
  Region.noSelect ops && decide (n < ops.size) && !l0.getD n false && decide (l0.size = ops.size) && headF .any ops l0 n q && tailB .any ops l0 n && dstB m os && !hs.contains q
    && (decide (q < n) && headL .any ops n (fun listed => decide (Region.ready .any ops listed = [q, n]) && (seqL .any ops (n :: ts) (listed.setIfInBounds q true) && ((Region.ready .any ops (listed.setIfInBounds q true)).all fun j => decide (n ≤ j)) && seqL .any ops (q :: ts) (listed.setIfInBounds n true))) hs l0)
/-- The region whole: the head hs, then q and n in either order, then ts. -/
theorem region_genF {id : Nat} {l : List Oper} {a : Act} {w : World} {aM aF : Act} {o : Oper} (n q : Nat) (hs ts : List Nat) (hm : P.follows .mixedOrders = true)
    (hS : l.length = hs.length + 1 + (ts.length + 1))
    (hB : genFB l.toArray (Array.replicate l.length false) n a.tmps.size q hs ts (pickO l hs) = true)
    (hQ : ∀ c (a : Act) (d : Tmp) v w, Q (.panic c) (a.put (some d) v) w → Q (.panic c) a w)
    (ho : l[q]? = some o) (hg : o.guard = none)
    (h : ∀ L : Act → Prop, L aM → ∀ W1, After w W1 → wpQuiet P l.toArray (fun w' => ∃ x : Later W1, w' = x.1) L (pickO l hs) a)
    (v : Value) (hv : ∀ W, (execOp aM.eval o).run P W = .ok (.value v) W) (hF : aM.put o.dst v = aF)
    (t1 : ∀ W2, After w W2 → wpList P l.toArray Q (pickO l (n :: ts)) aF W2)
    (t2 : ∀ W2, After w W2 → wpList P l.toArray Q (pickO l (n :: q :: ts)) aM W2) : (Code.region id l.toArray true).wp P Q a w := by
  refine wp_region_any hm ?_
  simp only [genFB, Bool.and_eq_true, decide_eq_true_eq, Bool.not_eq_true'] at hB
  obtain ⟨⟨⟨⟨⟨⟨⟨⟨hsel, hn⟩, hn0⟩, hsz⟩, hh⟩, ht⟩, hD⟩, hq⟩, hqn, hL⟩ := hB
  subst hF
  have hoq : l.toArray[q]? = some o := by simpa using ho
  have H := wpAnyV_lex (P := P) (Q := Q) (md := .any) (f := 1) (g := ts.length + 1) (aF := aM)
    (L := fun listed a W => seqL .any l.toArray (n :: ts) listed = true ∧ ((Region.ready .any l.toArray listed).all fun j => decide (n ≤ j)) = true ∧ ∀ W2, After W W2 → wpList P l.toArray Q (pickO l (n :: ts)) a W2)
    hsel hh ht hn hn0 hQ (fun l a W W' hW hl => ⟨hl.1, hl.2.1, fun W2 h2 => hl.2.2 W2 (hW.trans h2)⟩)
    (fun listed a W hl j hj => of_decide_eq_true (List.all_eq_true.1 hl.2.1 j hj)) hs (Array.replicate l.length false) a { w with drawn := w.drawn + 1 } rfl (headU0 hsz) hL hq hD
    (fun W1 h1 => h (fun a' => a' = aM) rfl W1 (after_drew h1))
    (fun listed' hk _ => by
      simp only [Bool.and_eq_true, decide_eq_true_eq] at hk
      obtain ⟨hr, ⟨hk1, hk2⟩, hk3⟩ := hk
      refine ⟨fun h0 => (by rw [hr] at h0; cases h0), fun i hi => ?_⟩
      rw [hr] at hi
      have hi2 : i = q ∨ i = n := by simpa using hi
      rcases hi2 with rfl | rfl
      · refine .inl ⟨hqn, fun W hW => ?_⟩
        unfold wpOp
        simp only [hoq]
        rw [if_pos (by simp [Region.wanted, hg])]
        left
        unfold Oper.wp
        rw [hv W]
        exact ⟨After.refl _, hk1, hk2, fun W2 h2 => t1 W2 (after_drew (hW.trans h2))⟩
      · refine .inr ⟨rfl, fun W hW => ?_⟩
        have T := t2 W (after_drew hW)
        obtain ⟨_, on, hon, _⟩ := mem_ready.1 (show i ∈ Region.ready .any l.toArray listed' by rw [hr]; simp)
        have hon' : l[i]? = some on := by simpa using hon
        rw [pickO_cons hon'] at T
        have := wpAny_seqL (P := P) (Q := Q) (md := .any) (l := l) (q :: ts)
        rw [show 0 + (ts.length + 1) = (q :: ts).length by simp]
        unfold wpOp
        simp only [hon]
        unfold wpList at T
        by_cases hw : Region.wanted on (yielded l.toArray aM.tmps) = true
        · rw [if_pos hw] at T ⊢
          rcases T with T | T
          · left
            exact Oper.wp_mono (fun a' w' h' => this _ a' w' hk3 h') T
          · exact .inr T
        · rw [if_neg hw] at T ⊢
          exact this _ _ _ hk3 T)
  have G := wpAnyV.any (g := ts.length + 1) (fun l' a' W hl => wpAny_seqL (n :: ts) l' a' W hl.1 (hl.2.2 W (After.refl _))) _ _ _ _ H
  have e : l.toArray.size = hs.length + 1 + (ts.length + 1) := by simpa using hS
  rw [← e] at G
  simpa using G
end
end Go.Proofs.Ytajdfcliiefjgaa
