/-
  Contracts and laws, merged: Region RegionF RegionH Abs.
  Conditions: none.
-/
import Derived.Test.YtmdledlbkdcmnaaM1
import Derived.StillTail
set_option linter.unusedSimpArgs false
set_option linter.unusedVariables false
/-
  A region that draws its order: operations that read or call functions that make blocks at most, at most one 'alloc' among them that may come up at any time, and a tail in one order; other operations may have been taken before.
  Conditions: none.
-/
namespace Go.Proofs.Ytmdledlbkdcmnaa
open Go Go.RowKit
section
variable {P : Program} {ops : Array Oper} {md : Region.Mode} {Q : Exit → Act → World → Prop}
/-- Behind W only blocks have been made. -/
def After (W W' : World) : Prop := Below W.heap.size W W'
theorem After.refl (W : World) : After W W := Below.refl _ _
theorem After.trans {a b c : World} (h : After a b) (k : After b c) : After a c := Below.trans h (Below.mono k (Below.size h))
theorem wpOp_swap {j : Nat} {oi oj : Oper} {v : Value} (hj : ops[j]? = some oj) (hap : oi.apart ops oj = true)
    (hsi : ∀ cs b, oi.op ≠ .select cs b) (hsj : ∀ cs b, oj.op ≠ .select cs b)
    (hQ : ∀ c a w, Q (.panic c) (a.put oi.dst v) w → Q (.panic c) a w) {K : Act → World → Prop} {a : Act} {w : World}
    (h : wpOp P ops Q j K (a.put oi.dst v) w) :
    wpOp P ops Q j (fun a' w' => (execOp a'.eval oi = execOp a.eval oi ∧ Region.wanted oi (yielded ops a'.tmps) = Region.wanted oi (yielded ops a.tmps)) ∧ K (a'.put oi.dst v) w') a w := by
  obtain ⟨h1, h2, h3⟩ := Oper.apart_spec hap
  have see : ∀ u, execOp (a.put oj.dst u).eval oi = execOp a.eval oi ∧ Region.wanted oi (yielded ops (a.put oj.dst u).tmps) = Region.wanted oi (yielded ops a.tmps) :=
    fun u => ⟨execOp_put oi hsi a oj.dst u h3, wanted_put oi a oj.dst u h3⟩
  have seeD : ∀ d u, execOp (({ a with defers := d :: a.defers } : Act).put oj.dst u).eval oi = execOp a.eval oi ∧ Region.wanted oi (yielded ops (({ a with defers := d :: a.defers } : Act).put oj.dst u).tmps) = Region.wanted oi (yielded ops a.tmps) :=
    fun d u => ⟨execOp_put oi hsi { a with defers := d :: a.defers } oj.dst u h3, wanted_put oi { a with defers := d :: a.defers } oj.dst u h3⟩
  unfold wpOp at *
  simp only [hj] at *
  rw [wanted_put oj a oi.dst v h1] at h
  by_cases hw : Region.wanted oj (yielded ops a.tmps) = true
  · rw [if_pos hw] at h ⊢
    rcases h with h | ⟨hasks, hlets⟩
    · left
      unfold Oper.wp at *
      rw [execOp_put oj hsj a oi.dst v h1] at h
      cases hr : (execOp a.eval oj).run P w with
      | ok n w' =>
        rw [hr] at h
        cases n with
        | enter f args =>
          refine Calls.mono h fun e w'' he => ?_
          cases e with
          | returned u => exact ⟨see u, by rw [← Act.put_comm a v u h2]; exact he⟩
          | panicked c => exact hQ _ _ _ he
          | outgrown => exact he
        | row row args => exact Rows.mono h fun u w'' he => ⟨see u, by rw [← Act.put_comm a v u h2]; exact he⟩
        | value u => exact ⟨see u, by rw [← Act.put_comm a v u h2]; exact h⟩
        | skip => exact ⟨see _, by rw [← Act.put_comm a v undef h2]; exact h⟩
        | defer d =>
          refine ⟨seeD d _, ?_⟩
          rw [← Act.put_comm _ v undef h2, ← Act.put_defers]
          exact h
        | _ => exact h
      | halt x w' =>
        rw [hr] at h
        cases x with
        | panic u => exact hQ _ _ _ h
        | _ => exact h
    · right
      exact ⟨by unfold Oper.asks at *; rw [execOp_put oj hsj a oi.dst v h1] at hasks; exact hasks, hlets⟩
  · rw [if_neg hw] at h ⊢
    exact ⟨see _, by rw [← Act.put_comm a v undef h2]; exact h⟩

/-- What an operation gives in a world: a value, the world being left as it is; or a call that hands it back behind new blocks at most. -/
def upGives (P : Program) (W : World) (v : Value) : Result Next → Prop
  | .ok (.value u) w' => w' = W ∧ u = v
  | .ok .skip w' => w' = W ∧ v = undef
  | .ok (.enter f args) w' => w' = W ∧ Calls P f args W (fun e w'' => e = .returned v ∧ After W w'')
  | _ => False
/-- In every world behind W0 it gives v. -/
def YieldsUp (P : Program) (ops : Array Oper) (W0 : World) (o : Oper) (v : Value) (a : Act) : Prop :=
  (Region.wanted o (yielded ops a.tmps) = true ∧ ∀ W, After W0 W → upGives P W v ((execOp a.eval o).run P W)) ∨
  (Region.wanted o (yielded ops a.tmps) = false ∧ v = undef)
theorem YieldsUp.same {W0 : World} {o : Oper} {v : Value} {a a' : Act} (hy : YieldsUp P ops W0 o v a) (he : execOp a'.eval o = execOp a.eval o)
    (hw : Region.wanted o (yielded ops a'.tmps) = Region.wanted o (yielded ops a.tmps)) : YieldsUp P ops W0 o v a' := by
  unfold YieldsUp at *
  rw [he, hw]
  exact hy
theorem YieldsUp.later {W0 W1 : World} {o : Oper} {v : Value} {a : Act} (hy : YieldsUp P ops W0 o v a) (h : After W0 W1) : YieldsUp P ops W1 o v a :=
  hy.imp (fun ⟨h1, h2⟩ => ⟨h1, fun W hW => h2 W (h.trans hW)⟩) id
theorem YieldsUp.wpOp {i : Nat} {o : Oper} {v : Value} {a : Act} {W0 W : World} (hi : ops[i]? = some o) (hy : YieldsUp P ops W0 o v a) (hW : After W0 W) {K : Act → World → Prop}
    (hK : ∀ W', After W W' → K (a.put o.dst v) W') : wpOp P ops Q i K a W := by
  unfold Go.wpOp
  simp only [hi]
  rcases hy with ⟨hw, hv⟩ | ⟨hw, rfl⟩
  · rw [if_pos hw]
    left
    have h := hv W hW
    unfold Oper.wp
    cases hr : (execOp a.eval o).run P W with
    | ok n w' =>
      rw [hr] at h
      cases n with
      | enter f args =>
        obtain ⟨rfl, h⟩ := h
        exact Calls.mono h fun e w'' ⟨he, ha⟩ => by subst he; exact hK _ ha
      | value u => obtain ⟨rfl, rfl⟩ := h; exact hK _ (After.refl _)
      | skip => obtain ⟨rfl, rfl⟩ := h; exact hK _ (After.refl _)
      | _ => exact h.elim
    | halt x w' => rw [hr] at h; exact h.elim
  · rw [if_neg (by rw [hw]; exact Bool.false_ne_true)]
    exact hK _ (After.refl _)

/-- Whatever order is picked from here on, in whatever world behind W0. -/
def wpAnyU (P : Program) (md : Region.Mode) (ops : Array Oper) (Q : Exit → Act → World → Prop) (n : Nat) (L : Array Bool → Act → World → Prop) : Nat → Array Bool → Act → World → Prop
  | 0, listed, a, W0 => L listed a W0
  | f + 1, listed, a, W0 => Region.ready md ops listed ≠ [] ∧ ∀ i ∈ Region.ready md ops listed, i < n ∧ ∀ W, After W0 W →
      wpOp P ops Q i (fun a' W' => After W W' ∧ wpAnyU P md ops Q n L f (listed.setIfInBounds i true) a' W') a W
theorem wpAnyU.later {n : Nat} {L : Array Bool → Act → World → Prop} (hL : ∀ l a W W', After W W' → L l a W → L l a W') : ∀ (f : Nat) (listed : Array Bool) (a : Act) (W0 W1 : World), After W0 W1 →
    wpAnyU P md ops Q n L f listed a W0 → wpAnyU P md ops Q n L f listed a W1
  | 0, _, _, _, _, h, H => hL _ _ _ _ h H
  | _ + 1, _, _, _, _, h, H => ⟨H.1, fun i hi => ⟨(H.2 i hi).1, fun W hW => (H.2 i hi).2 W (h.trans hW)⟩⟩
theorem wpAnyU.any {n g : Nat} {L : Array Bool → Act → World → Prop} (hL : ∀ l a W, L l a W → wpAny P md ops Q g l a W) : ∀ (f : Nat) (listed : Array Bool) (a : Act) (W0 : World),
    wpAnyU P md ops Q n L f listed a W0 → wpAny P md ops Q (f + g) listed a W0
  | 0, listed, a, W0, h => by rw [Nat.zero_add]; exact hL _ _ _ h
  | f + 1, listed, a, W0, h => by
    rw [show f + 1 + g = (f + g) + 1 by omega]
    exact ⟨fun h0 => absurd h0 h.1, fun i hi => wpOp_mono (fun a' w' h' => wpAnyU.any hL f _ a' w' h'.2) ((h.2 i hi).2 W0 (After.refl _))⟩

/-- The head: numbers (by repeat (first | with_reducible exact Below.refl _ _ | with_reducible assumption | with_reducible refine Below.drew ?_ | with_reducible refine Below.setCell ?_ (by first | omega | (simp; omega) | simp) _ | with_reducible refine Below.alloc ?_ (by first | omega | (simp; omega) | simp) _ | with_reducible refine Below.trans ?_ (Below.mono (by with_reducible assumption) (by first | omega | (simp; omega) | simp)))) n that had not been listed at the beginning (l0); each is waited for within it or by number n. -/
def headB (md : Region.Mode) (ops : Array Oper) (l0 : Array Bool) (n : Nat) : Bool :=
  (List.range n).all fun i => l0.getD i false || (List.range (n + 1)).any fun j => decide (i < j) && (!l0.getD j false && Region.waitsFor md ops j i)
/-- The tail: each number behind n waits for one that has not been listed. -/
def tailB (md : Region.Mode) (ops : Array Oper) (l0 : Array Bool) (n : Nat) : Bool :=
  (List.range ops.size).all fun t => decide (t ≤ n) || l0.getD t false || (List.range t).any fun s => decide (n ≤ s) && (!l0.getD s false && Region.waitsFor md ops t s)
structure HeadU (md : Region.Mode) (ops : Array Oper) (l0 : Array Bool) (n : Nat) (listed : Array Bool) : Prop where
  size : listed.size = ops.size
  more : ∀ j, l0.getD j false = true → listed.getD j false = true
  closed : ∀ j oj, l0.getD j false = false → ops[j]? = some oj → listed.getD j false = true → ∀ e ∈ oj.after, Region.binds md e = true → listed.getD e.on false = true
  tail : ∀ t, n ≤ t → l0.getD t false = false → listed.getD t false = false
theorem both_of {l : Array Bool} {i : Nat} (h : l.getD i true = false) : l.getD i false = false := getD_both h
theorem HeadU.set {l0 : Array Bool} {n i : Nat} {listed : Array Bool} (inv : HeadU md ops l0 n listed) (hi : i ∈ Region.ready md ops listed) (hin : i < n) : HeadU md ops l0 n (listed.setIfInBounds i true) := by
  obtain ⟨hun, oi, hoi, hall⟩ := mem_ready.1 hi
  refine ⟨by simp [inv.size], fun j hj => getD_set_true (inv.more j hj), fun j oj hjp hj hl e he hb => ?_, fun t ht ht' => by rw [getD_set_ne false (by omega)]; exact inv.tail t ht ht'⟩
  by_cases hij : i = j
  · subst hij
    have : oj = oi := Option.some.inj (hj.symm.trans hoi)
    subst this
    exact getD_set_true (hall e he hb)
  · rw [getD_set_ne false hij] at hl
    exact getD_set_true (inv.closed j oj hjp hj hl e he hb)
theorem tailU_waits {l0 : Array Bool} {n : Nat} {listed : Array Bool} (hs : headB md ops l0 n = true) (hc : tailB md ops l0 n = true) (hn : n < ops.size) (hn0 : l0.getD n false = false) (inv : HeadU md ops l0 n listed) :
    ∀ (d i : Nat), n - i = d → i < n → listed.getD i true = false → ∀ t, n ≤ t → t ∉ Region.ready md ops listed := by
  intro d
  induction d using Nat.strongRecOn with
  | _ d ih =>
    intro i hd hi hun t ht hr
    obtain ⟨htun, ot, hot, hall⟩ := mem_ready.1 hr
    have htlt : t < ops.size := (Array.getElem?_eq_some_iff.1 hot).1
    by_cases htn : t = n
    · subst htn
      have h1 := List.all_eq_true.1 hs i (List.mem_range.2 hi)
      simp only [Bool.or_eq_true] at h1
      rcases h1 with h1 | h1
      · have := inv.more i h1
        rw [both_of hun] at this; cases this
      obtain ⟨j, hj, hj2⟩ := List.any_eq_true.1 h1
      simp only [Bool.and_eq_true, decide_eq_true_eq, Bool.not_eq_true'] at hj2
      obtain ⟨hij, hj0, hjw⟩ := hj2
      obtain ⟨oj, hoj, e, he, hb, hon⟩ := Region.waitsFor_spec hjw
      have hjle : j ≤ t := by have := List.mem_range.1 hj; omega
      by_cases hjt : j = t
      · subst hjt
        have : oj = ot := Option.some.inj (hoj.symm.trans hot)
        subst this
        have h2 := hall e he hb
        rw [hon, both_of hun] at h2
        cases h2
      · cases hl : listed.getD j false with
        | true =>
          have h2 := inv.closed j oj hj0 hoj hl e he hb
          rw [hon, both_of hun] at h2
          cases h2
        | false =>
          have hjs : j < listed.size := by rw [inv.size]; omega
          exact ih (t - j) (by omega) j rfl (by omega) (getD_in hjs hl) t (Nat.le_refl _) hr
    · have h1 := List.all_eq_true.1 hc t (List.mem_range.2 htlt)
      simp only [Bool.or_eq_true, decide_eq_true_eq] at h1
      rcases h1 with (h1 | h1) | h1
      · omega
      · have := inv.more t h1
        rw [both_of htun] at this; cases this
      · obtain ⟨s, hs1, hs2⟩ := List.any_eq_true.1 h1
        simp only [Bool.and_eq_true, decide_eq_true_eq, Bool.not_eq_true'] at hs2
        obtain ⟨hns, hs0, hsw⟩ := hs2
        obtain ⟨o', ho', e, he, hb, hon⟩ := Region.waitsFor_spec hsw
        have : o' = ot := Option.some.inj (ho'.symm.trans hot)
        subst this
        have h2 := hall e he hb
        rw [hon, inv.tail s hns hs0] at h2
        cases h2

theorem wpAnyU_first {l0 : Array Bool} {n i : Nat} {oi : Oper} {v : Value} {L : Array Bool → Act → World → Prop} (hi : ops[i]? = some oi) (hsel : ∀ (j : Nat) (o : Oper) cs b, ops[j]? = some o → o.op ≠ .select cs b)
    (hs : headB md ops l0 n = true) (hc : tailB md ops l0 n = true) (hn : n < ops.size) (hn0 : l0.getD n false = false) (hin : i < n)
    (hQ : ∀ c a w, Q (.panic c) (a.put oi.dst v) w → Q (.panic c) a w)
    (hL : ∀ l a W W', After W W' → L l a W → L l a W') (hdone : ∀ listed a W, L listed a W → ∀ j ∈ Region.ready md ops listed, n ≤ j) :
    ∀ (f : Nat) (listed : Array Bool) (a : Act) (W0 : World), HeadU md ops l0 n listed →
      (∀ j oj, ops[j]? = some oj → j ≠ i → listed.getD j true = false → (∀ e ∈ oj.after, Region.binds md e = true → e.on ≠ i) → oi.apart ops oj = true) →
      i ∈ Region.ready md ops listed → YieldsUp P ops W0 oi v a →
      wpAnyU P md ops Q n L f (listed.setIfInBounds i true) (a.put oi.dst v) W0 → wpAnyU P md ops Q n L (f + 1) listed a W0 := by
  intro f
  induction f with
  | zero =>
    intro listed a W0 inv _ hr hy H
    have hun := (mem_ready.1 hr).1
    refine ⟨fun h => (by rw [h] at hr; cases hr), fun j hj => ?_⟩
    have hjn : j < n := by
      rcases Nat.lt_or_ge j n with h | h
      · exact h
      · exact absurd hj (tailU_waits hs hc hn hn0 inv _ i rfl hin hun j h)
    refine ⟨hjn, fun W hW => ?_⟩
    by_cases hji : j = i
    · subst hji; exact hy.wpOp hi hW fun W' hW' => ⟨hW', hL _ _ _ _ (hW.trans hW') H⟩
    · have := hdone _ _ _ H j (ready_mono hj hji)
      omega
  | succ f ih =>
    intro listed a W0 inv hfree hr hy H
    have hun := (mem_ready.1 hr).1
    refine ⟨fun h => (by rw [h] at hr; cases hr), fun j hj => ?_⟩
    have hjn : j < n := by
      rcases Nat.lt_or_ge j n with h | h
      · exact h
      · exact absurd hj (tailU_waits hs hc hn hn0 inv _ i rfl hin hun j h)
    refine ⟨hjn, fun W hW => ?_⟩
    by_cases hji : j = i
    · subst hji; exact hy.wpOp hi hW fun W' hW' => ⟨hW', wpAnyU.later hL _ _ _ _ _ (hW.trans hW') H⟩
    · have h1 := (H.2 j (ready_mono hj hji)).2 W hW
      obtain ⟨hjun, oj, hoj, hall⟩ := mem_ready.1 hj
      have hnot : ∀ e ∈ oj.after, Region.binds md e = true → e.on ≠ i := fun e he hb heq => by
        have h1 := hall e he hb
        rw [heq, getD_both hun] at h1
        cases h1
      have h2 := wpOp_swap hoj (hfree j oj hoj hji hjun hnot) (fun cs b => hsel i oi cs b hi) (fun cs b => hsel j oj cs b hoj) hQ h1
      have hfree' : ∀ k ok, ops[k]? = some ok → k ≠ i → (listed.setIfInBounds j true).getD k true = false →
          (∀ e ∈ ok.after, Region.binds md e = true → e.on ≠ i) → oi.apart ops ok = true := fun k ok hk hki hun hno => by
        refine hfree k ok hk hki ?_ hno
        by_cases hjk : j = k
        · subst hjk; exact hjun
        · rw [getD_set_ne true hjk] at hun; exact hun
      refine wpOp_mono (fun a' W' h3 => ⟨h3.2.1, ih (listed.setIfInBounds j true) a' W' (inv.set hj hjn) hfree' (ready_mono hr (Ne.symm hji)) ((hy.later (hW.trans h3.2.1)).same h3.1.1 h3.1.2) ?_⟩) h2
      rw [Array.setIfInBounds_comm _ _ hji]
      exact h3.2.2
/-- The operations with these numbers. -/
def pickO (l : List Oper) : List Nat → List Oper
  | [] => []
  | i :: hs => (l.drop i).take 1 ++ pickO l hs
theorem pickO_cons {l : List Oper} {i : Nat} {hs : List Nat} {o : Oper} (h : l[i]? = some o) : pickO l (i :: hs) = o :: pickO l hs := by
  obtain ⟨hi, rfl⟩ := List.getElem?_eq_some_iff.1 h
  conv => lhs; unfold pickO
  rw [List.drop_eq_getElem_cons hi]; rfl
def seqL (md : Region.Mode) (ops : Array Oper) : List Nat → Array Bool → Bool
  | [], listed => (Region.ready md ops listed).isEmpty
  | t :: ts, listed => decide (Region.ready md ops listed = [t]) && seqL md ops ts (listed.setIfInBounds t true)
theorem wpAny_seqL {l : List Oper} : ∀ (ts : List Nat) (listed : Array Bool) (a : Act) (w : World), seqL md l.toArray ts listed = true → wpList P l.toArray Q (pickO l ts) a w → wpAny P md l.toArray Q ts.length listed a w
  | [], listed, a, w, hB, h => ⟨by simpa [seqL] using hB, h⟩
  | t :: ts, listed, a, w, hB, h => by
    simp only [seqL, Bool.and_eq_true, decide_eq_true_eq] at hB
    refine ⟨fun h1 => (by rw [hB.1] at h1; cases h1), fun i hi => ?_⟩
    rw [hB.1] at hi
    have hik : i = t := by simpa using hi
    subst hik
    have hr : i ∈ Region.ready md l.toArray listed := by rw [hB.1]; exact List.mem_singleton.2 rfl
    obtain ⟨_, o, ho, _⟩ := mem_ready.1 hr
    have ho' : l[i]? = some o := by simpa using ho
    rw [pickO_cons ho'] at h
    have hw : wpOp P l.toArray Q i (wpList P l.toArray Q (pickO l ts)) a w := by unfold wpOp; simp only [ho]; exact h
    exact wpOp_mono (fun a' w' h' => wpAny_seqL ts _ a' w' hB.2 h') hw
def headL (md : Region.Mode) (ops : Array Oper) (n : Nat) (k : Array Bool → Bool) : List Nat → Array Bool → Bool
  | [], listed => k listed
  | i :: hs, listed => decide (i < n) && ((Region.ready md ops listed).contains i && (Region.free md ops listed i && headL md ops n k hs (listed.setIfInBounds i true)))
def dstB (m : Nat) : List Oper → Bool
  | [] => true
  | o :: os => (match o.dst with
    | some d => decide (d < m) && os.all fun o' => o'.dst != some d
    | none => false) && dstB m os
theorem quiet_keep {C : World → Prop} {aF : Act} {d : Tmp} : ∀ (os : List Oper) (a : Act), wpQuiet P ops C (fun a' => a' = aF) os a → (os.all fun o' => o'.dst != some d) = true → aF.tmps[d]? = a.tmps[d]?
  | [], a, h, _ => by rw [show a = aF from h]
  | o :: os, a, h, hd => by
    simp only [List.all_cons, Bool.and_eq_true, bne_iff_ne, ne_eq] at hd
    have hput : ∀ v, (a.put o.dst v).tmps[d]? = a.tmps[d]? := fun v => by
      cases ho : o.dst with
      | none => rfl
      | some e =>
        have hne : e ≠ d := fun h => hd.1 (by rw [ho, h])
        simp [Act.put, Array.getElem?_setIfInBounds_ne hne]
    unfold wpQuiet at h
    split at h
    · obtain ⟨v, _, h⟩ := h
      rw [quiet_keep os _ h hd.2, hput]
    · rw [quiet_keep os _ h hd.2, hput]
theorem wpAnyU_lex {l : List Oper} {l0 : Array Bool} {n f : Nat} {aF : Act} {L : Array Bool → Act → World → Prop} {k : Array Bool → Bool} {m : Nat} (hsel : Region.noSelect l.toArray = true)
    (hs : headB md l.toArray l0 n = true) (hc : tailB md l.toArray l0 n = true) (hn : n < l.toArray.size) (hn0 : l0.getD n false = false)
    (hQ : ∀ c (a : Act) (d : Tmp) v w, Q (.panic c) (a.put (some d) v) w → Q (.panic c) a w)
    (hL : ∀ l a W W', After W W' → L l a W → L l a W') (hdone : ∀ listed a W, L listed a W → ∀ j ∈ Region.ready md l.toArray listed, n ≤ j) :
    ∀ (hd : List Nat) (listed : Array Bool) (a : Act) (W0 : World), a.tmps.size = m → HeadU md l.toArray l0 n listed → headL md l.toArray n k hd listed = true → dstB m (pickO l hd) = true →
      (∀ W1, After W0 W1 → wpQuiet P l.toArray (fun w' => ∃ x : Later W1, w' = x.1) (fun a' => a' = aF) (pickO l hd) a) →
      (∀ listed', k listed' = true → HeadU md l.toArray l0 n listed' → wpAnyU P md l.toArray Q n L f listed' aF W0) →
      wpAnyU P md l.toArray Q n L (hd.length + f) listed a W0
  | [], listed, a, W0, _, inv, hB, _, h, K => by
    have e : a = aF := h W0 (After.refl _)
    rw [List.length_nil, Nat.zero_add, e]
    exact K listed hB inv
  | i :: hd, listed, a, W0, hm, inv, hB, hD, h, K => by
    simp only [headL, Bool.and_eq_true, decide_eq_true_eq] at hB
    obtain ⟨hin, hr, hf, hB⟩ := hB
    have hr' : i ∈ Region.ready md l.toArray listed := by simpa using hr
    obtain ⟨_, o, ho, _⟩ := mem_ready.1 hr'
    have ho' : l[i]? = some o := by simpa using ho
    rw [pickO_cons ho'] at hD h
    simp only [dstB, Bool.and_eq_true] at hD
    obtain ⟨hD1, hD2⟩ := hD
    obtain ⟨d, hd'⟩ : ∃ d, o.dst = some d := by
      cases h : o.dst with
      | none => rw [h] at hD1; cases hD1
      | some d => exact ⟨d, rfl⟩
    rw [hd'] at hD1
    simp only [Bool.and_eq_true, decide_eq_true_eq] at hD1
    have hsz : ∀ v, (a.put o.dst v).tmps.size = m := fun v => by rw [hd']; simp [Act.put, hm]
    have key : ∃ v, YieldsUp P l.toArray W0 o v a ∧ ∀ W1, After W0 W1 → wpQuiet P l.toArray (fun w' => ∃ x : Later W1, w' = x.1) (fun a' => a' = aF) (pickO l hd) (a.put o.dst v) := by
      by_cases hw : Region.wanted o (yielded l.toArray a.tmps) = true
      · have one : ∀ W1, After W0 W1 → ∃ v, aF.tmps[d]? = some v ∧ (∀ w, (∃ x : Later W1, w = x.1) → o.quietAt P a (fun w' => ∃ x : Later W1, w' = x.1) w v) ∧ wpQuiet P l.toArray (fun w' => ∃ x : Later W1, w' = x.1) (fun a' => a' = aF) (pickO l hd) (a.put o.dst v) := fun W1 h1 => by
          have h2 := h W1 h1
          unfold wpQuiet at h2
          rw [if_pos hw] at h2
          obtain ⟨v, h3, h4⟩ := h2
          refine ⟨v, ?_, h3, h4⟩
          rw [quiet_keep _ _ h4 hD1.2, hd']
          simp [Act.put, hm, hD1.1]
        obtain ⟨v, hv, _, _⟩ := one W0 (After.refl _)
        refine ⟨v, .inl ⟨hw, fun W hW => ?_⟩, fun W1 h1 => ?_⟩
        · obtain ⟨u, hu, h3, _⟩ := one W hW
          obtain rfl : v = u := Option.some.inj (hv.symm.trans hu)
          have h4 := h3 W ⟨⟨W, After.refl _⟩, rfl⟩
          unfold Oper.quietAt at h4
          cases hr : (execOp a.eval o).run P W with
          | ok nx w' =>
            rw [hr] at h4
            cases nx with
            | enter f args => exact ⟨h4.1, Calls.mono h4.2 fun e w'' ⟨he, x, hx⟩ => ⟨he, by rw [hx]; exact x.2⟩⟩
            | value u => exact h4
            | skip => exact h4
            | _ => exact h4.elim
          | halt x w' => rw [hr] at h4; exact h4.elim
        · obtain ⟨u, hu, _, h5⟩ := one W1 h1
          obtain rfl : v = u := Option.some.inj (hv.symm.trans hu)
          exact h5
      · refine ⟨undef, .inr ⟨by simpa using hw, rfl⟩, fun W1 h1 => ?_⟩
        have h2 := h W1 h1
        unfold wpQuiet at h2
        rwa [if_neg hw] at h2
    obtain ⟨v, hy, hrest⟩ := key
    rw [List.length_cons, show hd.length + 1 + f = (hd.length + f) + 1 by omega]
    exact wpAnyU_first ho (Region.noSelect_spec hsel) hs hc hn hn0 hin (by rw [hd']; exact fun c a w => hQ c a d v w) hL hdone _ _ _ _ inv (Region.free_spec ho hf) hr' hy
      (wpAnyU_lex hsel hs hc hn hn0 hQ hL hdone hd _ _ W0 (hsz v) (inv.set hr' hin) hB hD2 hrest K)
/-- What is asked of the region, as one Bool: the head's numbers hs, then those of the tail in one order. -/
def genB (ops : Array Oper) (l0 : Array Bool) (n m : Nat) (hs ts : List Nat) (os : List Oper) : Bool :=
  Region.noSelect ops && decide (n < ops.size) && !l0.getD n false && decide (l0.size = ops.size) && headB .any ops l0 n && tailB .any ops l0 n && dstB m os
    && headL .any ops n (fun listed => seqL .any ops ts listed && (Region.ready .any ops listed).all fun j => decide (n ≤ j)) hs l0
def genAB (ops : Array Oper) (l0 : Array Bool) (n m p : Nat) (hs ts : List Nat) (os : List Oper) : Bool :=
  Region.noSelect ops && decide (n < ops.size) && !l0.getD n false && decide (l0.size = ops.size) && headB .any ops l0 n && tailB .any ops l0 n && dstB m os
    && (decide (p < n) && headL .any ops n (fun listed => decide (Region.ready .any ops listed = [p]) && (seqL .any ops ts (listed.setIfInBounds p true) && (Region.ready .any ops (listed.setIfInBounds p true)).all fun j => decide (n ≤ j))) hs l0)
/-- What has been listed is closed under waiting, and lies where it may. -/
def preB (ops : Array Oper) (l0 : Array Bool) : Bool := decide (l0.size = ops.size)
theorem headU0 {l0 : Array Bool} {n : Nat} (h : l0.size = ops.size) : HeadU md ops l0 n l0 :=
  ⟨h, fun _ h => h, fun j oj h1 _ h2 => (by rw [h1] at h2; cases h2), fun t _ h => h⟩
theorem wpAny_gen {l : List Oper} {l0 : Array Bool} {a : Act} {w : World} {aF : Act} (n : Nat) (hs ts : List Nat) (hB : genB l.toArray l0 n a.tmps.size hs ts (pickO l hs) = true)
    (hQ : ∀ c (a : Act) (d : Tmp) v w, Q (.panic c) (a.put (some d) v) w → Q (.panic c) a w)
    (h : ∀ W1, After w W1 → wpQuiet P l.toArray (fun w' => ∃ x : Later W1, w' = x.1) (fun a' => a' = aF) (pickO l hs) a)
    (t : ∀ W2, After w W2 → wpList P l.toArray Q (pickO l ts) aF W2) : wpAny P .any l.toArray Q (hs.length + ts.length) l0 a w := by
  simp only [genB, Bool.and_eq_true, decide_eq_true_eq, Bool.not_eq_true'] at hB
  obtain ⟨⟨⟨⟨⟨⟨⟨hsel, hn⟩, hn0⟩, hsz⟩, hh⟩, ht⟩, hD⟩, hL⟩ := hB
  have H := wpAnyU_lex (P := P) (Q := Q) (md := .any) (f := 0) (aF := aF)
    (L := fun listed a W => seqL .any l.toArray ts listed = true ∧ ((Region.ready .any l.toArray listed).all fun j => decide (n ≤ j)) = true ∧ ∀ W2, After W W2 → wpList P l.toArray Q (pickO l ts) a W2)
    hsel hh ht hn hn0 hQ (fun l a W W' hW hl => ⟨hl.1, hl.2.1, fun W2 h2 => hl.2.2 W2 (hW.trans h2)⟩)
    (fun listed a W hl j hj => of_decide_eq_true (List.all_eq_true.1 hl.2.1 j hj)) hs l0 a w rfl (headU0 hsz) hL hD h
    (fun listed' hk _ => by
      simp only [Bool.and_eq_true] at hk
      exact ⟨hk.1, hk.2, t⟩)
  exact wpAnyU.any (fun l' a' W hl => wpAny_seqL ts l' a' W hl.1 (hl.2.2 W (After.refl _))) _ _ _ _ H
theorem wpAny_genA {l : List Oper} {l0 : Array Bool} {a : Act} {w : World} {aF : Act} {o : Oper} {obj : Obj} (n p : Nat) (hs ts : List Nat) (hB : genAB l.toArray l0 n a.tmps.size p hs ts (pickO l hs) = true)
    (hQ : ∀ c (a : Act) (d : Tmp) v w, Q (.panic c) (a.put (some d) v) w → Q (.panic c) a w)
    (ho : l[p]? = some o) (hg : o.guard = none) (hal : ∀ (a : Act) (W : World), (execOp a.eval o).run P W = .ok (.value (.pointer (some ⟨W.heap.size, 0, none⟩))) (W.alloc obj))
    (h : ∀ W1, After w W1 → wpQuiet P l.toArray (fun w' => ∃ x : Later W1, w' = x.1) (fun a' => a' = aF) (pickO l hs) a)
    (t : ∀ k W2, w.heap.size ≤ k → After w W2 → W2.heap[k]? = some obj → wpList P l.toArray Q (pickO l ts) (aF.put o.dst (.pointer (some ⟨k, 0, none⟩))) W2) :
    wpAny P .any l.toArray Q (hs.length + 1 + ts.length) l0 a w := by
  simp only [genAB, Bool.and_eq_true, decide_eq_true_eq, Bool.not_eq_true'] at hB
  obtain ⟨⟨⟨⟨⟨⟨⟨hsel, hn⟩, hn0⟩, hsz⟩, hh⟩, ht⟩, hD⟩, hp, hL⟩ := hB
  have hop : l.toArray[p]? = some o := by simpa using ho
  have H := wpAnyU_lex (P := P) (Q := Q) (md := .any) (f := 1) (aF := aF)
    (L := fun listed a W => seqL .any l.toArray ts listed = true ∧ ((Region.ready .any l.toArray listed).all fun j => decide (n ≤ j)) = true ∧ ∀ W2, After W W2 → wpList P l.toArray Q (pickO l ts) a W2)
    hsel hh ht hn hn0 hQ (fun l a W W' hW hl => ⟨hl.1, hl.2.1, fun W2 h2 => hl.2.2 W2 (hW.trans h2)⟩)
    (fun listed a W hl j hj => of_decide_eq_true (List.all_eq_true.1 hl.2.1 j hj)) hs l0 a w rfl (headU0 hsz) hL hD h
    (fun listed' hk _ => by
      simp only [Bool.and_eq_true, decide_eq_true_eq] at hk
      obtain ⟨hr, hk1, hk2⟩ := hk
      refine ⟨fun h0 => (by rw [hr] at h0; cases h0), fun i hi => ?_⟩
      rw [hr] at hi
      have hip : i = p := by simpa using hi
      subst hip
      refine ⟨hp, fun W hW => ?_⟩
      unfold wpOp
      simp only [hop]
      rw [if_pos (by simp [Region.wanted, hg])]
      left
      unfold Oper.wp
      rw [hal]
      have hA : After W (W.alloc obj) := Below.alloc (Below.refl _ _) (Nat.le_refl _) _
      refine ⟨hA, hk1, hk2, fun W2 h2 => ?_⟩
      refine t W.heap.size W2 hW.size ((hW.trans hA).trans h2) ?_
      have := heap_new W obj (b := W.heap.size) rfl
      exact heap_old h2 this)
  exact wpAnyU.any (fun l' a' W hl => wpAny_seqL ts l' a' W hl.1 (hl.2.2 W (After.refl _))) _ _ _ _ H
/-- Operations that may be taken before all others: each gives a value in whatever world. -/
def wpPre (P : Program) (ops : Array Oper) : List Nat → Act → Act → Prop
  | [], a, b => a = b
  | i :: is, a, b => ∃ o d v, ops[i]? = some o ∧ o.guard = none ∧ o.dst = some d ∧ (∀ W, (execOp a.eval o).run P W = .ok (.value v) W) ∧ wpPre P ops is (a.put (some d) v) b
def preL (md : Region.Mode) (ops : Array Oper) : List Nat → Array Bool → Bool
  | [], _ => true
  | i :: is, listed => (Region.ready md ops listed).contains i && (Region.free md ops listed i && preL md ops is (listed.setIfInBounds i true))
theorem wpAny_pre {fuel : Nat} {b : Act} {w : World} (hsel : Region.noSelect ops = true) (hQ : ∀ c (a : Act) (d : Tmp) v w, Q (.panic c) (a.put (some d) v) w → Q (.panic c) a w) :
    ∀ (is : List Nat) (listed : Array Bool) (a : Act), preL md ops is listed = true → wpPre P ops is a b → wpAny P md ops Q fuel (is.foldl (fun x i => x.setIfInBounds i true) listed) b w → wpAny P md ops Q (is.length + fuel) listed a w
  | [], listed, a, _, h, H => by rw [List.length_nil, Nat.zero_add, show a = b from h]; exact H
  | i :: is, listed, a, hB, h, H => by
    simp only [preL, Bool.and_eq_true] at hB
    obtain ⟨o, d, v, h1, h2, h3, h4, h5⟩ := h
    rw [List.length_cons, show is.length + 1 + fuel = (is.length + fuel) + 1 by omega]
    refine wpAny_take h1 hsel hB.2.1 hB.1 (by rw [h3]; exact fun c a w => hQ c a d v w) (.inl ⟨by simp [Region.wanted, h2], h4⟩) ?_
    rw [h3]
    exact wpAny_pre hsel hQ is _ _ hB.2.2 h5 H
theorem after_drew {w W : World} (h : After { w with drawn := w.drawn + 1 } W) : After w W := ⟨h.os, h.tape, h.output, h.size, h.block⟩
/-- The region whole: first fs, then the head hs, then the tail ts. -/
theorem region_gen {id : Nat} {l : List Oper} {a b : Act} {w : World} {aF : Act} (n : Nat) (fs hs ts : List Nat) (hm : P.follows .mixedOrders = true)
    (hS : l.length = fs.length + (hs.length + ts.length)) (hF : preL .any l.toArray fs (Array.replicate l.length false) = true)
    (hB : genB l.toArray (fs.foldl (fun x i => x.setIfInBounds i true) (Array.replicate l.length false)) n a.tmps.size hs ts (pickO l hs) = true) (hz : b.tmps.size = a.tmps.size)
    (hQ : ∀ c (a : Act) (d : Tmp) v w, Q (.panic c) (a.put (some d) v) w → Q (.panic c) a w)
    (f : wpPre P l.toArray fs a b)
    (h : ∀ L : Act → Prop, L aF → ∀ W1, After w W1 → wpQuiet P l.toArray (fun w' => ∃ x : Later W1, w' = x.1) L (pickO l hs) b)
    (t : ∀ W2, After w W2 → wpList P l.toArray Q (pickO l ts) aF W2) : (Code.region id l.toArray true).wp P Q a w := by
  refine wp_region_any hm ?_
  have hsel : Region.noSelect l.toArray = true := by
    simp only [genB, Bool.and_eq_true] at hB; exact hB.1.1.1.1.1.1.1
  rw [← hz] at hB
  have G := wpAny_gen (P := P) (Q := Q) (w := { w with drawn := w.drawn + 1 }) n hs ts hB hQ (fun W1 h1 => h (fun a' => a' = aF) rfl W1 (after_drew h1)) (fun W2 h2 => t W2 (after_drew h2))
  have := wpAny_pre (P := P) (Q := Q) (md := .any) hsel hQ fs (Array.replicate l.length false) a hF f G
  rw [← hS] at this
  simpa using this
theorem region_genA {id : Nat} {l : List Oper} {a b : Act} {w : World} {aF : Act} {o : Oper} {obj : Obj} (n p : Nat) (fs hs ts : List Nat) (hm : P.follows .mixedOrders = true)
    (hS : l.length = fs.length + (hs.length + 1 + ts.length)) (hF : preL .any l.toArray fs (Array.replicate l.length false) = true)
    (hB : genAB l.toArray (fs.foldl (fun x i => x.setIfInBounds i true) (Array.replicate l.length false)) n a.tmps.size p hs ts (pickO l hs) = true) (hz : b.tmps.size = a.tmps.size)
    (hQ : ∀ c (a : Act) (d : Tmp) v w, Q (.panic c) (a.put (some d) v) w → Q (.panic c) a w)
    (ho : l[p]? = some o) (hg : o.guard = none) (hal : ∀ (a : Act) (W : World), (execOp a.eval o).run P W = .ok (.value (.pointer (some ⟨W.heap.size, 0, none⟩))) (W.alloc obj))
    (f : wpPre P l.toArray fs a b)
    (h : ∀ L : Act → Prop, L aF → ∀ W1, After w W1 → wpQuiet P l.toArray (fun w' => ∃ x : Later W1, w' = x.1) L (pickO l hs) b)
    (t : ∀ k W2, w.heap.size ≤ k → After w W2 → W2.heap[k]? = some obj → wpList P l.toArray Q (pickO l ts) (aF.put o.dst (.pointer (some ⟨k, 0, none⟩))) W2) : (Code.region id l.toArray true).wp P Q a w := by
  refine wp_region_any hm ?_
  have hsel : Region.noSelect l.toArray = true := by
    simp only [genAB, Bool.and_eq_true] at hB; exact hB.1.1.1.1.1.1.1
  rw [← hz] at hB
  have G := wpAny_genA (P := P) (Q := Q) (w := { w with drawn := w.drawn + 1 }) n p hs ts hB hQ ho hg hal (fun W1 h1 => h (fun a' => a' = aF) rfl W1 (after_drew h1)) (fun k W2 hk h2 => t k W2 hk (after_drew h2))
  have := wpAny_pre (P := P) (Q := Q) (md := .any) hsel hQ fs (Array.replicate l.length false) a hF f G
  rw [← hS] at this
  simpa using this
end
end Go.Proofs.Ytmdledlbkdcmnaa

/-
  A region that draws its order with an operation that may come up before or behind the first of the tail.
  Conditions: none.
-/
namespace Go.Proofs.Ytmdledlbkdcmnaa
open Go Go.RowKit
section
variable {P : Program} {ops : Array Oper} {md : Region.Mode} {Q : Exit → Act → World → Prop}
def wpAnyV (P : Program) (md : Region.Mode) (ops : Array Oper) (Q : Exit → Act → World → Prop) (n g : Nat) (L : Array Bool → Act → World → Prop) : Nat → Array Bool → Act → World → Prop
  | 0, listed, a, W0 => L listed a W0
  | f + 1, listed, a, W0 => Region.ready md ops listed ≠ [] ∧ ∀ i ∈ Region.ready md ops listed,
      (i < n ∧ ∀ W, After W0 W → wpOp P ops Q i (fun a' W' => After W W' ∧ wpAnyV P md ops Q n g L f (listed.setIfInBounds i true) a' W') a W)
      ∨ (i = n ∧ ∀ W, After W0 W → wpOp P ops Q i (wpAny P md ops Q (f + g) (listed.setIfInBounds i true)) a W)
theorem wpAnyV.later {n g : Nat} {L : Array Bool → Act → World → Prop} (hL : ∀ l a W W', After W W' → L l a W → L l a W') : ∀ (f : Nat) (listed : Array Bool) (a : Act) (W0 W1 : World), After W0 W1 →
    wpAnyV P md ops Q n g L f listed a W0 → wpAnyV P md ops Q n g L f listed a W1
  | 0, _, _, _, _, h, H => hL _ _ _ _ h H
  | _ + 1, _, _, _, _, h, H => ⟨H.1, fun i hi => (H.2 i hi).imp (fun ⟨h1, h2⟩ => ⟨h1, fun W hW => h2 W (h.trans hW)⟩) (fun ⟨h1, h2⟩ => ⟨h1, fun W hW => h2 W (h.trans hW)⟩)⟩
theorem wpAnyV.any {n g : Nat} {L : Array Bool → Act → World → Prop} (hL : ∀ l a W, L l a W → wpAny P md ops Q g l a W) : ∀ (f : Nat) (listed : Array Bool) (a : Act) (W0 : World),
    wpAnyV P md ops Q n g L f listed a W0 → wpAny P md ops Q (f + g) listed a W0
  | 0, listed, a, W0, h => by rw [Nat.zero_add]; exact hL _ _ _ h
  | f + 1, listed, a, W0, h => by
    rw [show f + 1 + g = (f + g) + 1 by omega]
    refine ⟨fun h0 => absurd h0 h.1, fun i hi => ?_⟩
    rcases h.2 i hi with ⟨_, h2⟩ | ⟨_, h2⟩
    · exact wpOp_mono (fun a' w' h' => wpAnyV.any hL f _ a' w' h'.2) (h2 W0 (After.refl _))
    · exact h2 W0 (After.refl _)
def headF (md : Region.Mode) (ops : Array Oper) (l0 : Array Bool) (n q : Nat) : Bool :=
  (List.range n).all fun i => i == q || (l0.getD i false || (List.range (n + 1)).any fun j => decide (i < j) && (j != q && (!l0.getD j false && Region.waitsFor md ops j i)))
theorem tailF_waits {l0 : Array Bool} {n q : Nat} {listed : Array Bool} (hs : headF md ops l0 n q = true) (hc : tailB md ops l0 n = true) (hn : n < ops.size) (hn0 : l0.getD n false = false) (inv : HeadU md ops l0 n listed) :
    ∀ (d i : Nat), n - i = d → i < n → i ≠ q → listed.getD i true = false → ∀ t, n ≤ t → t ∉ Region.ready md ops listed := by
  intro d
  induction d using Nat.strongRecOn with
  | _ d ih =>
    intro i hd hi hiq hun t ht hr
    obtain ⟨htun, ot, hot, hall⟩ := mem_ready.1 hr
    have htlt : t < ops.size := (Array.getElem?_eq_some_iff.1 hot).1
    by_cases htn : t = n
    · subst htn
      have h1 := List.all_eq_true.1 hs i (List.mem_range.2 hi)
      simp only [Bool.or_eq_true, beq_iff_eq] at h1
      rcases h1 with h1 | h1 | h1
      · exact hiq h1
      · have := inv.more i h1
        rw [both_of hun] at this; cases this
      obtain ⟨j, hj, hj2⟩ := List.any_eq_true.1 h1
      simp only [Bool.and_eq_true, decide_eq_true_eq, Bool.not_eq_true', bne_iff_ne, ne_eq] at hj2
      obtain ⟨hij, hjq, hj0, hjw⟩ := hj2
      obtain ⟨oj, hoj, e, he, hb, hon⟩ := Region.waitsFor_spec hjw
      have hjle : j ≤ t := by have := List.mem_range.1 hj; omega
      by_cases hjt : j = t
      · subst hjt
        have : oj = ot := Option.some.inj (hoj.symm.trans hot)
        subst this
        have h2 := hall e he hb
        rw [hon, both_of hun] at h2
        cases h2
      · cases hl : listed.getD j false with
        | true =>
          have h2 := inv.closed j oj hj0 hoj hl e he hb
          rw [hon, both_of hun] at h2
          cases h2
        | false =>
          have hjs : j < listed.size := by rw [inv.size]; omega
          exact ih (t - j) (by omega) j rfl (by omega) hjq (getD_in hjs hl) t (Nat.le_refl _) hr
    · have h1 := List.all_eq_true.1 hc t (List.mem_range.2 htlt)
      simp only [Bool.or_eq_true, decide_eq_true_eq] at h1
      rcases h1 with (h1 | h1) | h1
      · omega
      · have := inv.more t h1
        rw [both_of htun] at this; cases this
      · obtain ⟨s, hs1, hs2⟩ := List.any_eq_true.1 h1
        simp only [Bool.and_eq_true, decide_eq_true_eq, Bool.not_eq_true'] at hs2
        obtain ⟨hns, hs0, hsw⟩ := hs2
        obtain ⟨o', ho', e, he, hb, hon⟩ := Region.waitsFor_spec hsw
        have : o' = ot := Option.some.inj (ho'.symm.trans hot)
        subst this
        have h2 := hall e he hb
        rw [hon, inv.tail s hns hs0] at h2
        cases h2
theorem wpAnyV_first {l0 : Array Bool} {n g q i : Nat} {oi : Oper} {v : Value} {L : Array Bool → Act → World → Prop} (hi : ops[i]? = some oi) (hsel : ∀ (j : Nat) (o : Oper) cs b, ops[j]? = some o → o.op ≠ .select cs b)
    (hs : headF md ops l0 n q = true) (hc : tailB md ops l0 n = true) (hn : n < ops.size) (hn0 : l0.getD n false = false) (hin : i < n) (hiq : i ≠ q)
    (hQ : ∀ c a w, Q (.panic c) (a.put oi.dst v) w → Q (.panic c) a w)
    (hL : ∀ l a W W', After W W' → L l a W → L l a W') (hdone : ∀ listed a W, L listed a W → ∀ j ∈ Region.ready md ops listed, n ≤ j) :
    ∀ (f : Nat) (listed : Array Bool) (a : Act) (W0 : World), HeadU md ops l0 n listed →
      (∀ j oj, ops[j]? = some oj → j ≠ i → listed.getD j true = false → (∀ e ∈ oj.after, Region.binds md e = true → e.on ≠ i) → oi.apart ops oj = true) →
      i ∈ Region.ready md ops listed → YieldsUp P ops W0 oi v a →
      wpAnyV P md ops Q n g L f (listed.setIfInBounds i true) (a.put oi.dst v) W0 → wpAnyV P md ops Q n g L (f + 1) listed a W0 := by
  intro f
  induction f with
  | zero =>
    intro listed a W0 inv _ hr hy H
    have hun := (mem_ready.1 hr).1
    refine ⟨fun h => (by rw [h] at hr; cases hr), fun j hj => .inl ?_⟩
    have hjn : j < n := by
      rcases Nat.lt_or_ge j n with h | h
      · exact h
      · exact absurd hj (tailF_waits hs hc hn hn0 inv _ i rfl hin hiq hun j h)
    refine ⟨hjn, fun W hW => ?_⟩
    by_cases hji : j = i
    · subst hji; exact hy.wpOp hi hW fun W' hW' => ⟨hW', hL _ _ _ _ (hW.trans hW') H⟩
    · have := hdone _ _ _ H j (ready_mono hj hji)
      omega
  | succ f ih =>
    intro listed a W0 inv hfree hr hy H
    have hun := (mem_ready.1 hr).1
    refine ⟨fun h => (by rw [h] at hr; cases hr), fun j hj => .inl ?_⟩
    have hjn : j < n := by
      rcases Nat.lt_or_ge j n with h | h
      · exact h
      · exact absurd hj (tailF_waits hs hc hn hn0 inv _ i rfl hin hiq hun j h)
    refine ⟨hjn, fun W hW => ?_⟩
    by_cases hji : j = i
    · subst hji; exact hy.wpOp hi hW fun W' hW' => ⟨hW', wpAnyV.later hL _ _ _ _ _ (hW.trans hW') H⟩
    · rcases H.2 j (ready_mono hj hji) with ⟨_, h1'⟩ | ⟨h1', _⟩
      rotate_left
      · omega
      have h1 := h1' W hW
      obtain ⟨hjun, oj, hoj, hall⟩ := mem_ready.1 hj
      have hnot : ∀ e ∈ oj.after, Region.binds md e = true → e.on ≠ i := fun e he hb heq => by
        have h1 := hall e he hb
        rw [heq, getD_both hun] at h1
        cases h1
      have h2 := wpOp_swap hoj (hfree j oj hoj hji hjun hnot) (fun cs b => hsel i oi cs b hi) (fun cs b => hsel j oj cs b hoj) hQ h1
      have hfree' : ∀ k ok, ops[k]? = some ok → k ≠ i → (listed.setIfInBounds j true).getD k true = false →
          (∀ e ∈ ok.after, Region.binds md e = true → e.on ≠ i) → oi.apart ops ok = true := fun k ok hk hki hun hno => by
        refine hfree k ok hk hki ?_ hno
        by_cases hjk : j = k
        · subst hjk; exact hjun
        · rw [getD_set_ne true hjk] at hun; exact hun
      refine wpOp_mono (fun a' W' h3 => ⟨h3.2.1, ih (listed.setIfInBounds j true) a' W' (inv.set hj hjn) hfree' (ready_mono hr (Ne.symm hji)) ((hy.later (hW.trans h3.2.1)).same h3.1.1 h3.1.2) ?_⟩) h2
      rw [Array.setIfInBounds_comm _ _ hji]
      exact h3.2.2
theorem wpAnyV_lex {l : List Oper} {l0 : Array Bool} {n g q f : Nat} {aF : Act} {L : Array Bool → Act → World → Prop} {k : Array Bool → Bool} {m : Nat} (hsel : Region.noSelect l.toArray = true)
    (hs : headF md l.toArray l0 n q = true) (hc : tailB md l.toArray l0 n = true) (hn : n < l.toArray.size) (hn0 : l0.getD n false = false)
    (hQ : ∀ c (a : Act) (d : Tmp) v w, Q (.panic c) (a.put (some d) v) w → Q (.panic c) a w)
    (hL : ∀ l a W W', After W W' → L l a W → L l a W') (hdone : ∀ listed a W, L listed a W → ∀ j ∈ Region.ready md l.toArray listed, n ≤ j) :
    ∀ (hd : List Nat) (listed : Array Bool) (a : Act) (W0 : World), a.tmps.size = m → HeadU md l.toArray l0 n listed → headL md l.toArray n k hd listed = true → hd.contains q = false → dstB m (pickO l hd) = true →
      (∀ W1, After W0 W1 → wpQuiet P l.toArray (fun w' => ∃ x : Later W1, w' = x.1) (fun a' => a' = aF) (pickO l hd) a) →
      (∀ listed', k listed' = true → HeadU md l.toArray l0 n listed' → wpAnyV P md l.toArray Q n g L f listed' aF W0) →
      wpAnyV P md l.toArray Q n g L (hd.length + f) listed a W0
  | [], listed, a, W0, _, inv, hB, _, _, h, K => by
    have e : a = aF := h W0 (After.refl _)
    rw [List.length_nil, Nat.zero_add, e]
    exact K listed hB inv
  | i :: hd, listed, a, W0, hm, inv, hB, hq, hD, h, K => by
    simp only [headL, Bool.and_eq_true, decide_eq_true_eq] at hB
    obtain ⟨hin, hr, hf, hB⟩ := hB
    have hiq : i ≠ q := fun e => by subst e; simp at hq
    have hq' : hd.contains q = false := by
      simp only [List.contains_cons, Bool.or_eq_false_iff] at hq
      exact hq.2
    have hr' : i ∈ Region.ready md l.toArray listed := by simpa using hr
    obtain ⟨_, o, ho, _⟩ := mem_ready.1 hr'
    have ho' : l[i]? = some o := by simpa using ho
    rw [pickO_cons ho'] at hD h
    simp only [dstB, Bool.and_eq_true] at hD
    obtain ⟨hD1, hD2⟩ := hD
    obtain ⟨d, hd'⟩ : ∃ d, o.dst = some d := by
      cases h : o.dst with
      | none => rw [h] at hD1; cases hD1
      | some d => exact ⟨d, rfl⟩
    rw [hd'] at hD1
    simp only [Bool.and_eq_true, decide_eq_true_eq] at hD1
    have hsz : ∀ v, (a.put o.dst v).tmps.size = m := fun v => by rw [hd']; simp [Act.put, hm]
    have key : ∃ v, YieldsUp P l.toArray W0 o v a ∧ ∀ W1, After W0 W1 → wpQuiet P l.toArray (fun w' => ∃ x : Later W1, w' = x.1) (fun a' => a' = aF) (pickO l hd) (a.put o.dst v) := by
      by_cases hw : Region.wanted o (yielded l.toArray a.tmps) = true
      · have one : ∀ W1, After W0 W1 → ∃ v, aF.tmps[d]? = some v ∧ (∀ w, (∃ x : Later W1, w = x.1) → o.quietAt P a (fun w' => ∃ x : Later W1, w' = x.1) w v) ∧ wpQuiet P l.toArray (fun w' => ∃ x : Later W1, w' = x.1) (fun a' => a' = aF) (pickO l hd) (a.put o.dst v) := fun W1 h1 => by
          have h2 := h W1 h1
          unfold wpQuiet at h2
          rw [if_pos hw] at h2
          obtain ⟨v, h3, h4⟩ := h2
          refine ⟨v, ?_, h3, h4⟩
          rw [quiet_keep _ _ h4 hD1.2, hd']
          simp [Act.put, hm, hD1.1]
        obtain ⟨v, hv, _, _⟩ := one W0 (After.refl _)
        refine ⟨v, .inl ⟨hw, fun W hW => ?_⟩, fun W1 h1 => ?_⟩
        · obtain ⟨u, hu, h3, _⟩ := one W hW
          obtain rfl : v = u := Option.some.inj (hv.symm.trans hu)
          have h4 := h3 W ⟨⟨W, After.refl _⟩, rfl⟩
          unfold Oper.quietAt at h4
          cases hr : (execOp a.eval o).run P W with
          | ok nx w' =>
            rw [hr] at h4
            cases nx with
            | enter f args => exact ⟨h4.1, Calls.mono h4.2 fun e w'' ⟨he, x, hx⟩ => ⟨he, by rw [hx]; exact x.2⟩⟩
            | value u => exact h4
            | skip => exact h4
            | _ => exact h4.elim
          | halt x w' => rw [hr] at h4; exact h4.elim
        · obtain ⟨u, hu, _, h5⟩ := one W1 h1
          obtain rfl : v = u := Option.some.inj (hv.symm.trans hu)
          exact h5
      · refine ⟨undef, .inr ⟨by simpa using hw, rfl⟩, fun W1 h1 => ?_⟩
        have h2 := h W1 h1
        unfold wpQuiet at h2
        rwa [if_neg hw] at h2
    obtain ⟨v, hy, hrest⟩ := key
    rw [List.length_cons, show hd.length + 1 + f = (hd.length + f) + 1 by omega]
    exact wpAnyV_first ho (Region.noSelect_spec hsel) hs hc hn hn0 hin hiq (by rw [hd']; exact fun c a w => hQ c a d v w) hL hdone _ _ _ _ inv (Region.free_spec ho hf) hr' hy
      (wpAnyV_lex hsel hs hc hn hn0 hQ hL hdone hd _ _ W0 (hsz v) (inv.set hr' hin) hB hq' hD2 hrest K)
def genFB (ops : Array Oper) (l0 : Array Bool) (n m q : Nat) (hs ts : List Nat) (os : List Oper) : Bool :=
  Region.noSelect ops && decide (n < ops.size) && !l0.getD n false && decide (l0.size = ops.size) && headF .any ops l0 n q && tailB .any ops l0 n && dstB m os && !hs.contains q
    && (decide (q < n) && headL .any ops n (fun listed => decide (Region.ready .any ops listed = [q, n]) && (seqL .any ops (n :: ts) (listed.setIfInBounds q true) && ((Region.ready .any ops (listed.setIfInBounds q true)).all fun j => decide (n ≤ j)) && seqL .any ops (q :: ts) (listed.setIfInBounds n true))) hs l0)
/-- The region whole: the head hs, then q and n in either order, then ts. -/
theorem region_genF {id : Nat} {l : List Oper} {a : Act} {w : World} {aM aF : Act} {o : Oper} (n q : Nat) (hs ts : List Nat) (hm : P.follows .mixedOrders = true)
    (hS : l.length = hs.length + 1 + (ts.length + 1))
    (hB : genFB l.toArray (Array.replicate l.length false) n a.tmps.size q hs ts (pickO l hs) = true)
    (hQ : ∀ c (a : Act) (d : Tmp) v w, Q (.panic c) (a.put (some d) v) w → Q (.panic c) a w)
    (ho : l[q]? = some o) (hg : o.guard = none)
    (h : ∀ L : Act → Prop, L aM → ∀ W1, After w W1 → wpQuiet P l.toArray (fun w' => ∃ x : Later W1, w' = x.1) L (pickO l hs) a)
    (v : Value) (hv : ∀ W, (execOp aM.eval o).run P W = .ok (.value v) W) (hF : aM.put o.dst v = aF)
    (t1 : ∀ W2, After w W2 → wpList P l.toArray Q (pickO l (n :: ts)) aF W2)
    (t2 : ∀ W2, After w W2 → wpList P l.toArray Q (pickO l (n :: q :: ts)) aM W2) : (Code.region id l.toArray true).wp P Q a w := by
  refine wp_region_any hm ?_
  simp only [genFB, Bool.and_eq_true, decide_eq_true_eq, Bool.not_eq_true'] at hB
  obtain ⟨⟨⟨⟨⟨⟨⟨⟨hsel, hn⟩, hn0⟩, hsz⟩, hh⟩, ht⟩, hD⟩, hq⟩, hqn, hL⟩ := hB
  subst hF
  have hoq : l.toArray[q]? = some o := by simpa using ho
  have H := wpAnyV_lex (P := P) (Q := Q) (md := .any) (f := 1) (g := ts.length + 1) (aF := aM)
    (L := fun listed a W => seqL .any l.toArray (n :: ts) listed = true ∧ ((Region.ready .any l.toArray listed).all fun j => decide (n ≤ j)) = true ∧ ∀ W2, After W W2 → wpList P l.toArray Q (pickO l (n :: ts)) a W2)
    hsel hh ht hn hn0 hQ (fun l a W W' hW hl => ⟨hl.1, hl.2.1, fun W2 h2 => hl.2.2 W2 (hW.trans h2)⟩)
    (fun listed a W hl j hj => of_decide_eq_true (List.all_eq_true.1 hl.2.1 j hj)) hs (Array.replicate l.length false) a { w with drawn := w.drawn + 1 } rfl (headU0 hsz) hL hq hD
    (fun W1 h1 => h (fun a' => a' = aM) rfl W1 (after_drew h1))
    (fun listed' hk _ => by
      simp only [Bool.and_eq_true, decide_eq_true_eq] at hk
      obtain ⟨hr, ⟨hk1, hk2⟩, hk3⟩ := hk
      refine ⟨fun h0 => (by rw [hr] at h0; cases h0), fun i hi => ?_⟩
      rw [hr] at hi
      have hi2 : i = q ∨ i = n := by simpa using hi
      rcases hi2 with rfl | rfl
      · refine .inl ⟨hqn, fun W hW => ?_⟩
        unfold wpOp
        simp only [hoq]
        rw [if_pos (by simp [Region.wanted, hg])]
        left
        unfold Oper.wp
        rw [hv W]
        exact ⟨After.refl _, hk1, hk2, fun W2 h2 => t1 W2 (after_drew (hW.trans h2))⟩
      · refine .inr ⟨rfl, fun W hW => ?_⟩
        have T := t2 W (after_drew hW)
        obtain ⟨_, on, hon, _⟩ := mem_ready.1 (show i ∈ Region.ready .any l.toArray listed' by rw [hr]; simp)
        have hon' : l[i]? = some on := by simpa using hon
        rw [pickO_cons hon'] at T
        have := wpAny_seqL (P := P) (Q := Q) (md := .any) (l := l) (q :: ts)
        rw [show 0 + (ts.length + 1) = (q :: ts).length by simp]
        unfold wpOp
        simp only [hon]
        unfold wpList at T
        by_cases hw : Region.wanted on (yielded l.toArray aM.tmps) = true
        · rw [if_pos hw] at T ⊢
          rcases T with T | T
          · left
            exact Oper.wp_mono (fun a' w' h' => this _ a' w' hk3 h') T
          · exact .inr T
        · rw [if_neg hw] at T ⊢
          exact this _ _ _ hk3 T)
  have G := wpAnyV.any (g := ts.length + 1) (fun l' a' W hl => wpAny_seqL (n :: ts) l' a' W hl.1 (hl.2.2 W (After.refl _))) _ _ _ _ H
  have e : l.toArray.size = hs.length + 1 + (ts.length + 1) := by simpa using hS
  rw [← e] at G
  simpa using G
end
end Go.Proofs.Ytmdledlbkdcmnaa

/-
  A region that draws its order with reading operations that may come up before or behind the first of the tail.
  Conditions: none.
-/
namespace Go.Proofs.Ytmdledlbkdcmnaa
open Go Go.RowKit
section
variable {P : Program} {ops : Array Oper} {md : Region.Mode} {Q : Exit → Act → World → Prop}
def headH (md : Region.Mode) (ops : Array Oper) (l0 : Array Bool) (n : Nat) (qs : List Nat) : Bool :=
  (List.range n).all fun i => qs.contains i || (l0.getD i false || (List.range (n + 1)).any fun j => decide (i < j) && (!qs.contains j && (!l0.getD j false && Region.waitsFor md ops j i)))
theorem tailH_waits {l0 : Array Bool} {n : Nat} {qs : List Nat} {listed : Array Bool} (hs : headH md ops l0 n qs = true) (hc : tailB md ops l0 n = true) (hn : n < ops.size) (hn0 : l0.getD n false = false) (inv : HeadU md ops l0 n listed) :
    ∀ (d i : Nat), n - i = d → i < n → qs.contains i = false → listed.getD i true = false → ∀ t, n ≤ t → t ∉ Region.ready md ops listed := by
  intro d
  induction d using Nat.strongRecOn with
  | _ d ih =>
    intro i hd hi hiq hun t ht hr
    obtain ⟨htun, ot, hot, hall⟩ := mem_ready.1 hr
    have htlt : t < ops.size := (Array.getElem?_eq_some_iff.1 hot).1
    by_cases htn : t = n
    · subst htn
      have h1 := List.all_eq_true.1 hs i (List.mem_range.2 hi)
      simp only [Bool.or_eq_true] at h1
      rcases h1 with h1 | h1 | h1
      · rw [hiq] at h1; cases h1
      · have := inv.more i h1
        rw [both_of hun] at this; cases this
      obtain ⟨j, hj, hj2⟩ := List.any_eq_true.1 h1
      simp only [Bool.and_eq_true, decide_eq_true_eq, Bool.not_eq_true'] at hj2
      obtain ⟨hij, hjq, hj0, hjw⟩ := hj2
      obtain ⟨oj, hoj, e, he, hb, hon⟩ := Region.waitsFor_spec hjw
      have hjle : j ≤ t := by have := List.mem_range.1 hj; omega
      by_cases hjt : j = t
      · subst hjt
        have : oj = ot := Option.some.inj (hoj.symm.trans hot)
        subst this
        have h2 := hall e he hb
        rw [hon, both_of hun] at h2
        cases h2
      · cases hl : listed.getD j false with
        | true =>
          have h2 := inv.closed j oj hj0 hoj hl e he hb
          rw [hon, both_of hun] at h2
          cases h2
        | false =>
          have hjs : j < listed.size := by rw [inv.size]; omega
          exact ih (t - j) (by omega) j rfl (by omega) hjq (getD_in hjs hl) t (Nat.le_refl _) hr
    · have h1 := List.all_eq_true.1 hc t (List.mem_range.2 htlt)
      simp only [Bool.or_eq_true, decide_eq_true_eq] at h1
      rcases h1 with (h1 | h1) | h1
      · omega
      · have := inv.more t h1
        rw [both_of htun] at this; cases this
      · obtain ⟨s, hs1, hs2⟩ := List.any_eq_true.1 h1
        simp only [Bool.and_eq_true, decide_eq_true_eq, Bool.not_eq_true'] at hs2
        obtain ⟨hns, hs0, hsw⟩ := hs2
        obtain ⟨o', ho', e, he, hb, hon⟩ := Region.waitsFor_spec hsw
        have : o' = ot := Option.some.inj (ho'.symm.trans hot)
        subst this
        have h2 := hall e he hb
        rw [hon, inv.tail s hns hs0] at h2
        cases h2
theorem wpAnyH_first {l0 : Array Bool} {n g i : Nat} {qs : List Nat} {oi : Oper} {v : Value} {L : Array Bool → Act → World → Prop} (hi : ops[i]? = some oi) (hsel : ∀ (j : Nat) (o : Oper) cs b, ops[j]? = some o → o.op ≠ .select cs b)
    (hs : headH md ops l0 n qs = true) (hc : tailB md ops l0 n = true) (hn : n < ops.size) (hn0 : l0.getD n false = false) (hin : i < n) (hiq : qs.contains i = false)
    (hQ : ∀ c a w, Q (.panic c) (a.put oi.dst v) w → Q (.panic c) a w)
    (hL : ∀ l a W W', After W W' → L l a W → L l a W') (hdone : ∀ listed a W, L listed a W → ∀ j ∈ Region.ready md ops listed, n ≤ j) :
    ∀ (f : Nat) (listed : Array Bool) (a : Act) (W0 : World), HeadU md ops l0 n listed →
      (∀ j oj, ops[j]? = some oj → j ≠ i → listed.getD j true = false → (∀ e ∈ oj.after, Region.binds md e = true → e.on ≠ i) → oi.apart ops oj = true) →
      i ∈ Region.ready md ops listed → YieldsUp P ops W0 oi v a →
      wpAnyV P md ops Q n g L f (listed.setIfInBounds i true) (a.put oi.dst v) W0 → wpAnyV P md ops Q n g L (f + 1) listed a W0 := by
  intro f
  induction f with
  | zero =>
    intro listed a W0 inv _ hr hy H
    have hun := (mem_ready.1 hr).1
    refine ⟨fun h => (by rw [h] at hr; cases hr), fun j hj => .inl ?_⟩
    have hjn : j < n := by
      rcases Nat.lt_or_ge j n with h | h
      · exact h
      · exact absurd hj (tailH_waits hs hc hn hn0 inv _ i rfl hin hiq hun j h)
    refine ⟨hjn, fun W hW => ?_⟩
    by_cases hji : j = i
    · subst hji; exact hy.wpOp hi hW fun W' hW' => ⟨hW', hL _ _ _ _ (hW.trans hW') H⟩
    · have := hdone _ _ _ H j (ready_mono hj hji)
      omega
  | succ f ih =>
    intro listed a W0 inv hfree hr hy H
    have hun := (mem_ready.1 hr).1
    refine ⟨fun h => (by rw [h] at hr; cases hr), fun j hj => .inl ?_⟩
    have hjn : j < n := by
      rcases Nat.lt_or_ge j n with h | h
      · exact h
      · exact absurd hj (tailH_waits hs hc hn hn0 inv _ i rfl hin hiq hun j h)
    refine ⟨hjn, fun W hW => ?_⟩
    by_cases hji : j = i
    · subst hji; exact hy.wpOp hi hW fun W' hW' => ⟨hW', wpAnyV.later hL _ _ _ _ _ (hW.trans hW') H⟩
    · rcases H.2 j (ready_mono hj hji) with ⟨_, h1'⟩ | ⟨h1', _⟩
      rotate_left
      · omega
      have h1 := h1' W hW
      obtain ⟨hjun, oj, hoj, hall⟩ := mem_ready.1 hj
      have hnot : ∀ e ∈ oj.after, Region.binds md e = true → e.on ≠ i := fun e he hb heq => by
        have h1 := hall e he hb
        rw [heq, getD_both hun] at h1
        cases h1
      have h2 := wpOp_swap hoj (hfree j oj hoj hji hjun hnot) (fun cs b => hsel i oi cs b hi) (fun cs b => hsel j oj cs b hoj) hQ h1
      have hfree' : ∀ k ok, ops[k]? = some ok → k ≠ i → (listed.setIfInBounds j true).getD k true = false →
          (∀ e ∈ ok.after, Region.binds md e = true → e.on ≠ i) → oi.apart ops ok = true := fun k ok hk hki hun hno => by
        refine hfree k ok hk hki ?_ hno
        by_cases hjk : j = k
        · subst hjk; exact hjun
        · rw [getD_set_ne true hjk] at hun; exact hun
      refine wpOp_mono (fun a' W' h3 => ⟨h3.2.1, ih (listed.setIfInBounds j true) a' W' (inv.set hj hjn) hfree' (ready_mono hr (Ne.symm hji)) ((hy.later (hW.trans h3.2.1)).same h3.1.1 h3.1.2) ?_⟩) h2
      rw [Array.setIfInBounds_comm _ _ hji]
      exact h3.2.2
theorem wpAnyH_lex {l : List Oper} {l0 : Array Bool} {n g f : Nat} {qs : List Nat} {aF : Act} {L : Array Bool → Act → World → Prop} {k : Array Bool → Bool} {m : Nat} (hsel : Region.noSelect l.toArray = true)
    (hs : headH md l.toArray l0 n qs = true) (hc : tailB md l.toArray l0 n = true) (hn : n < l.toArray.size) (hn0 : l0.getD n false = false)
    (hQ : ∀ c (a : Act) (d : Tmp) v w, Q (.panic c) (a.put (some d) v) w → Q (.panic c) a w)
    (hL : ∀ l a W W', After W W' → L l a W → L l a W') (hdone : ∀ listed a W, L listed a W → ∀ j ∈ Region.ready md l.toArray listed, n ≤ j) :
    ∀ (hd : List Nat) (listed : Array Bool) (a : Act) (W0 : World), a.tmps.size = m → HeadU md l.toArray l0 n listed → headL md l.toArray n k hd listed = true → (hd.all fun i => !qs.contains i) = true → dstB m (pickO l hd) = true →
      (∀ W1, After W0 W1 → wpQuiet P l.toArray (fun w' => ∃ x : Later W1, w' = x.1) (fun a' => a' = aF) (pickO l hd) a) →
      (∀ listed', k listed' = true → HeadU md l.toArray l0 n listed' → wpAnyV P md l.toArray Q n g L f listed' aF W0) →
      wpAnyV P md l.toArray Q n g L (hd.length + f) listed a W0
  | [], listed, a, W0, _, inv, hB, _, _, h, K => by
    have e : a = aF := h W0 (After.refl _)
    rw [List.length_nil, Nat.zero_add, e]
    exact K listed hB inv
  | i :: hd, listed, a, W0, hm, inv, hB, hq, hD, h, K => by
    simp only [headL, Bool.and_eq_true, decide_eq_true_eq] at hB
    obtain ⟨hin, hr, hf, hB⟩ := hB
    simp only [List.all_cons, Bool.and_eq_true, Bool.not_eq_true'] at hq
    obtain ⟨hiq, hq0⟩ := hq
    have hq' : (hd.all fun i => !qs.contains i) = true := hq0
    have hr' : i ∈ Region.ready md l.toArray listed := by simpa using hr
    obtain ⟨_, o, ho, _⟩ := mem_ready.1 hr'
    have ho' : l[i]? = some o := by simpa using ho
    rw [pickO_cons ho'] at hD h
    simp only [dstB, Bool.and_eq_true] at hD
    obtain ⟨hD1, hD2⟩ := hD
    obtain ⟨d, hd'⟩ : ∃ d, o.dst = some d := by
      cases h : o.dst with
      | none => rw [h] at hD1; cases hD1
      | some d => exact ⟨d, rfl⟩
    rw [hd'] at hD1
    simp only [Bool.and_eq_true, decide_eq_true_eq] at hD1
    have hsz : ∀ v, (a.put o.dst v).tmps.size = m := fun v => by rw [hd']; simp [Act.put, hm]
    have key : ∃ v, YieldsUp P l.toArray W0 o v a ∧ ∀ W1, After W0 W1 → wpQuiet P l.toArray (fun w' => ∃ x : Later W1, w' = x.1) (fun a' => a' = aF) (pickO l hd) (a.put o.dst v) := by
      by_cases hw : Region.wanted o (yielded l.toArray a.tmps) = true
      · have one : ∀ W1, After W0 W1 → ∃ v, aF.tmps[d]? = some v ∧ (∀ w, (∃ x : Later W1, w = x.1) → o.quietAt P a (fun w' => ∃ x : Later W1, w' = x.1) w v) ∧ wpQuiet P l.toArray (fun w' => ∃ x : Later W1, w' = x.1) (fun a' => a' = aF) (pickO l hd) (a.put o.dst v) := fun W1 h1 => by
          have h2 := h W1 h1
          unfold wpQuiet at h2
          rw [if_pos hw] at h2
          obtain ⟨v, h3, h4⟩ := h2
          refine ⟨v, ?_, h3, h4⟩
          rw [quiet_keep _ _ h4 hD1.2, hd']
          simp [Act.put, hm, hD1.1]
        obtain ⟨v, hv, _, _⟩ := one W0 (After.refl _)
        refine ⟨v, .inl ⟨hw, fun W hW => ?_⟩, fun W1 h1 => ?_⟩
        · obtain ⟨u, hu, h3, _⟩ := one W hW
          obtain rfl : v = u := Option.some.inj (hv.symm.trans hu)
          have h4 := h3 W ⟨⟨W, After.refl _⟩, rfl⟩
          unfold Oper.quietAt at h4
          cases hr : (execOp a.eval o).run P W with
          | ok nx w' =>
            rw [hr] at h4
            cases nx with
            | enter f args => exact ⟨h4.1, Calls.mono h4.2 fun e w'' ⟨he, x, hx⟩ => ⟨he, by rw [hx]; exact x.2⟩⟩
            | value u => exact h4
            | skip => exact h4
            | _ => exact h4.elim
          | halt x w' => rw [hr] at h4; exact h4.elim
        · obtain ⟨u, hu, _, h5⟩ := one W1 h1
          obtain rfl : v = u := Option.some.inj (hv.symm.trans hu)
          exact h5
      · refine ⟨undef, .inr ⟨by simpa using hw, rfl⟩, fun W1 h1 => ?_⟩
        have h2 := h W1 h1
        unfold wpQuiet at h2
        rwa [if_neg hw] at h2
    obtain ⟨v, hy, hrest⟩ := key
    rw [List.length_cons, show hd.length + 1 + f = (hd.length + f) + 1 by omega]
    exact wpAnyH_first ho (Region.noSelect_spec hsel) hs hc hn hn0 hin hiq (by rw [hd']; exact fun c a w => hQ c a d v w) hL hdone _ _ _ _ inv (Region.free_spec ho hf) hr' hy
      (wpAnyH_lex hsel hs hc hn hn0 hQ hL hdone hd _ _ W0 (hsz v) (inv.set hr' hin) hB hq' hD2 hrest K)
/-- The floating operations q.. one after the other, and n before, between or behind them. -/
def floatB (ops : Array Oper) (n : Nat) (ts : List Nat) : List Nat → Array Bool → Bool
  | [], listed => seqL .any ops (n :: ts) listed && ((Region.ready .any ops listed).all fun j => decide (n ≤ j))
  | q :: qs, listed => decide (q < n) && (decide (Region.ready .any ops listed = [q, n]) && (floatB ops n ts qs (listed.setIfInBounds q true) && seqL .any ops (q :: qs ++ ts) (listed.setIfInBounds n true)))
def wpFl (P : Program) (l : List Oper) (Q : Exit → Act → World → Prop) (n : Nat) (ts : List Nat) (w : World) : List Nat → Act → Prop
  | [], a => ∀ W2, After w W2 → wpList P l.toArray Q (pickO l (n :: ts)) a W2
  | q :: qs, a => (∀ W2, After w W2 → wpList P l.toArray Q (pickO l (n :: (q :: qs ++ ts))) a W2) ∧ ∃ o v, l[q]? = some o ∧ o.guard = none ∧ (∀ W, After w W → (execOp a.eval o).run P W = .ok (.value v) W) ∧ wpFl P l Q n ts w qs (a.put o.dst v)
theorem wpFl_any {l : List Oper} {n : Nat} {ts : List Nat} {w : World} {L : Array Bool → Act → World → Prop}
    (hL : ∀ listed a W, seqL .any l.toArray (n :: ts) listed = true → ((Region.ready .any l.toArray listed).all fun j => decide (n ≤ j)) = true → (∀ W2, After W W2 → wpList P l.toArray Q (pickO l (n :: ts)) a W2) → L listed a W) :
    ∀ (qs : List Nat) (listed : Array Bool) (a : Act) (W0 : World), After w W0 → floatB l.toArray n ts qs listed = true → wpFl P l Q n ts w qs a →
      wpAnyV P .any l.toArray Q n (ts.length + 1) L qs.length listed a W0
  | [], listed, a, W0, hW, hB, h => by
    simp only [floatB, Bool.and_eq_true] at hB
    exact hL listed a W0 hB.1 hB.2 fun W2 h2 => h W2 (hW.trans h2)
  | q :: qs, listed, a, W0, hW, hB, h => by
    simp only [floatB, Bool.and_eq_true, decide_eq_true_eq] at hB
    obtain ⟨hqn, hr, hF, hS⟩ := hB
    obtain ⟨hT, o, v, ho, hg, hv, hrest⟩ := h
    refine ⟨fun h0 => (by rw [hr] at h0; cases h0), fun i hi => ?_⟩
    have hi' := hi
    rw [hr] at hi
    have hi2 : i = q ∨ i = n := by simpa using hi
    rcases hi2 with rfl | rfl
    · refine .inl ⟨hqn, fun W hW1 => ?_⟩
      have hoq : l.toArray[i]? = some o := by simpa using ho
      unfold wpOp
      simp only [hoq]
      rw [if_pos (by simp [Region.wanted, hg])]
      left
      unfold Oper.wp
      rw [hv W (hW.trans hW1)]
      exact ⟨After.refl _, wpFl_any hL qs _ _ W (hW.trans hW1) hF hrest⟩
    · refine .inr ⟨rfl, fun W hW1 => ?_⟩
      have T := hT W (hW.trans hW1)
      obtain ⟨_, on, hon, _⟩ := mem_ready.1 hi'
      have hon' : l[i]? = some on := by simpa using hon
      rw [pickO_cons hon'] at T
      have := wpAny_seqL (P := P) (Q := Q) (md := .any) (l := l) (q :: qs ++ ts)
      rw [show qs.length + (ts.length + 1) = (q :: qs ++ ts).length by simp; omega]
      unfold wpOp
      simp only [hon]
      unfold wpList at T
      by_cases hw : Region.wanted on (yielded l.toArray a.tmps) = true
      · rw [if_pos hw] at T ⊢
        rcases T with T | T
        · left
          exact Oper.wp_mono (fun a' w' h' => this _ a' w' hS h') T
        · exact .inr T
      · rw [if_neg hw] at T ⊢
        exact this _ _ _ hS T
def genHB (ops : Array Oper) (l0 : Array Bool) (n m : Nat) (qs hs ts : List Nat) (os : List Oper) : Bool :=
  Region.noSelect ops && decide (n < ops.size) && !l0.getD n false && decide (l0.size = ops.size) && headH .any ops l0 n qs && tailB .any ops l0 n && dstB m os && (hs.all fun i => !qs.contains i)
    && headL .any ops n (fun listed => floatB ops n ts qs listed) hs l0
/-- The region whole: the head hs, then the reading operations qs and n in any order, then ts. -/
theorem region_genH {id : Nat} {l : List Oper} {a : Act} {w : World} {aM : Act} (n : Nat) (qs hs ts : List Nat) (hm : P.follows .mixedOrders = true)
    (hS : l.length = hs.length + qs.length + (ts.length + 1))
    (hB : genHB l.toArray (Array.replicate l.length false) n a.tmps.size qs hs ts (pickO l hs) = true)
    (hQ : ∀ c (a : Act) (d : Tmp) v w, Q (.panic c) (a.put (some d) v) w → Q (.panic c) a w)
    (h : ∀ L : Act → Prop, L aM → ∀ W1, After w W1 → wpQuiet P l.toArray (fun w' => ∃ x : Later W1, w' = x.1) L (pickO l hs) a)
    (t : ∀ W1, After w W1 → wpFl P l Q n ts W1 qs aM) : (Code.region id l.toArray true).wp P Q a w := by
  refine wp_region_any hm ?_
  simp only [genHB, Bool.and_eq_true, decide_eq_true_eq, Bool.not_eq_true'] at hB
  obtain ⟨⟨⟨⟨⟨⟨⟨⟨hsel, hn⟩, hn0⟩, hsz⟩, hh⟩, ht⟩, hD⟩, hq⟩, hL⟩ := hB
  have H := wpAnyH_lex (P := P) (Q := Q) (md := .any) (f := qs.length) (g := ts.length + 1) (aF := aM)
    (L := fun listed a W => seqL .any l.toArray (n :: ts) listed = true ∧ ((Region.ready .any l.toArray listed).all fun j => decide (n ≤ j)) = true ∧ ∀ W2, After W W2 → wpList P l.toArray Q (pickO l (n :: ts)) a W2)
    hsel hh ht hn hn0 hQ (fun l a W W' hW hl => ⟨hl.1, hl.2.1, fun W2 h2 => hl.2.2 W2 (hW.trans h2)⟩)
    (fun listed a W hl j hj => of_decide_eq_true (List.all_eq_true.1 hl.2.1 j hj)) hs (Array.replicate l.length false) a { w with drawn := w.drawn + 1 } rfl (headU0 hsz) hL hq hD
    (fun W1 h1 => h (fun a' => a' = aM) rfl W1 (after_drew h1))
    (fun listed' hk _ => wpFl_any (fun listed a W h1 h2 h3 => ⟨h1, h2, h3⟩) qs listed' aM _ (After.refl _) hk (t _ (after_drew (After.refl _))))
  have G := wpAnyV.any (g := ts.length + 1) (fun l' a' W hl => wpAny_seqL (n :: ts) l' a' W hl.1 (hl.2.2 W (After.refl _))) _ _ _ _ H
  have e : l.toArray.size = hs.length + qs.length + (ts.length + 1) := by simpa using hS
  rw [← e] at G
  simpa using G
end
end Go.Proofs.Ytmdledlbkdcmnaa

/-
  What a region may leave, told on its own.
  Conditions: none.
-/
namespace Go.Proofs.Ytmdledlbkdcmnaa
open Go.RowKit
/-- What a region may leave: told on its own, and at the normal exit alone. -/
def AbsQ (R : Act → World → Prop) : Exit → Act → World → Prop
  | .normal, a, W => R a W
  | _, _, _ => False
theorem wp_abs {P : Program} {c : Code} {Q : Exit → Act → World → Prop} {a : Act} {w : World} (R : Act → Act → World → Prop) (h : c.wp P (AbsQ (R a)) a w) (k : ∀ a' W, R a a' W → Q .normal a' W) : c.wp P Q a w :=
  Code.wp_mono (fun e a' W hr => by cases e <;> first | exact k a' W hr | exact hr.elim) h
end Go.Proofs.Ytmdledlbkdcmnaa
