/-
  Contracts and laws, merged: Base LsqPlain Still Pts Line RLine OfPts At SeenPlain FlightPlain PathPlain Helly PathLaw CrossPlain Fold MirPlain.
  Conditions: none.
-/
import Derived.Test.YtmdledlbkdcmnaaRows
import Derived.WalkKit
import Derived.WalkSpells
import Derived.WalkLawsBesides
import Derived.Laws.Pointers
import Derived.Deep.RegionHeld3
import Derived.BigQuiet
import Derived.RowKit3
import Derived.Lib.Hide
import Derived.StillTactics
import Derived.OwnWalk
import Derived.Maps.AppendAt
set_option linter.unusedSimpArgs false
set_option linter.unusedVariables false
/-
  Small words for the walks: worlds that have at most new blocks (by repeat (first | with_reducible exact Below.refl _ _ | with_reducible assumption | with_reducible refine Below.drew ?_ | with_reducible refine Below.setCell ?_ (by first | omega | (simp; omega) | simp) _ | with_reducible refine Below.alloc ?_ (by first | omega | (simp; omega) | simp) _ | with_reducible refine Below.trans ?_ (Below.mono (by with_reducible assumption) (by first | omega | (simp; omega) | simp)))) the heap's size at the call's begin; regions that draw their order, walked once over all such worlds.
  Conditions: none.
-/
namespace Go.Proofs.Ytmdledlbkdcmnaa
open Go.RowKit

theorem bcell {W w1 : World} (hb : Below W.heap.size W w1) : (∀ b o, b < W.heap.size → w1.cell? ⟨b, o, none⟩ = W.cell? ⟨b, o, none⟩) ∧ (∀ b o, b < W.heap.size → w1.frozen? ⟨b, o, none⟩ = W.frozen? ⟨b, o, none⟩) :=
  ⟨fun b o h => hb.cell (p := ⟨b, o, none⟩) h, fun b o h => hb.frozen (p := ⟨b, o, none⟩) h⟩

theorem lt_of_cell {W : World} {b o : Nat} (h : (W.cell? ⟨b, o, none⟩).isSome = true) : b < W.heap.size := by
  obtain ⟨v, hv⟩ := Option.isSome_iff_exists.1 h
  exact World.block_lt_of_cell? W ⟨b, o, none⟩ hv

/-- A cell that is there reads as it did behind a new block. -/
theorem cell_alloc_old (W : World) (X : Obj) (b o : Nat) (h : (W.cell? ⟨b, o, none⟩).isSome = true) : (W.alloc X).cell? ⟨b, o, none⟩ = W.cell? ⟨b, o, none⟩ := World.cell?_alloc_lt W X ⟨b, o, none⟩ (lt_of_cell h)
theorem frozen_alloc_old (W : World) (X : Obj) (b o : Nat) (h : (W.cell? ⟨b, o, none⟩).isSome = true) : (W.alloc X).frozen? ⟨b, o, none⟩ = W.frozen? ⟨b, o, none⟩ :=
  (((Below.refl _ _).alloc (Nat.le_refl _) X : Below W.heap.size W (W.alloc X))).frozen (p := ⟨b, o, none⟩) (lt_of_cell h)
attribute [go_sem] cell_alloc_old frozen_alloc_old

/-- What stands behind a call that made blocks: the old cells read as they did. -/
theorem after {W w1 : World} (hb : Below W.heap.size W w1) : (∀ b o, (W.cell? ⟨b, o, none⟩).isSome = true → w1.cell? ⟨b, o, none⟩ = W.cell? ⟨b, o, none⟩) ∧ (∀ b o, (W.cell? ⟨b, o, none⟩).isSome = true → w1.frozen? ⟨b, o, none⟩ = W.frozen? ⟨b, o, none⟩) ∧ W.heap.size ≤ w1.heap.size :=
  ⟨fun b o h => hb.cell (p := ⟨b, o, none⟩) (lt_of_cell h), fun b o h => hb.frozen (p := ⟨b, o, none⟩) (lt_of_cell h), hb.size⟩

/-- From one call to the next: as it is, or behind one or two new blocks. -/
theorem Below.next {B : Nat} {a b c : World} (h : Below B a b) (hB : B ≤ a.heap.size) (k : Below b.heap.size b c) : Below B a c := h.trans (k.mono (Nat.le_trans hB h.size))
theorem Below.next1 {B : Nat} {a b c : World} {X : Obj} (h : Below B a b) (hB : B ≤ a.heap.size) (k : Below (b.alloc X).heap.size (b.alloc X) c) : Below B a c :=
  Below.next (h.alloc (Nat.le_trans hB h.size) X) hB k
theorem Below.next2 {B : Nat} {a b c : World} {X Y : Obj} (h : Below B a b) (hB : B ≤ a.heap.size) (k : Below ((b.alloc X).alloc Y).heap.size ((b.alloc X).alloc Y) c) : Below B a c :=
  Below.next1 (h.alloc (Nat.le_trans hB h.size) X) hB k

theorem Below.mid {b c : World} {X : Obj} (k : Below (b.alloc X).heap.size (b.alloc X) c) : Below (b.alloc X).heap.size (b.alloc X) c := k
theorem ret_str {a b : ByteArray} (h : a = b) : Ending.returned (.string a) = .returned (.string b) := by rw [h]
theorem ret_bool {a b : Bool} (h : a = b) : Ending.returned (.bool a) = .returned (.bool b) := by rw [h]
theorem ret_int {k : IntKind} {a b : Int} (h : a = b) : Ending.returned (.int k a) = .returned (.int k b) := by rw [h]

/-- The worlds that are as w is (by repeat (first | with_reducible exact Below.refl _ _ | with_reducible assumption | with_reducible refine Below.drew ?_ | with_reducible refine Below.setCell ?_ (by first | omega | (simp; omega) | simp) _ | with_reducible refine Below.alloc ?_ (by first | omega | (simp; omega) | simp) _ | with_reducible refine Below.trans ?_ (Below.mono (by with_reducible assumption) (by first | omega | (simp; omega) | simp)))) w's own blocks. -/
def Later (w : World) : Type := { w' : World // Below w.heap.size w w' }
instance (w : World) : Nonempty (Later w) := ⟨⟨w, Below.refl _ _⟩⟩
theorem Later.cell {w : World} (x : Later w) (b o : Nat) (h : (w.cell? ⟨b, o, none⟩).isSome = true) : x.1.cell? ⟨b, o, none⟩ = w.cell? ⟨b, o, none⟩ := x.2.cell (p := ⟨b, o, none⟩) (lt_of_cell h)

theorem Calls.later {P : Program} {f : FuncId} {args : Array Value} {w : World} {x : Later w} {v : Value}
    (h : Calls P f args x.1 fun e w' => e = .returned v ∧ Below x.1.heap.size x.1 w') : Calls P f args x.1 fun e w'' => e = .returned v ∧ ∃ y : Later w, w'' = y.1 :=
  h.mono fun _ w' ⟨he, hb⟩ => ⟨he, ⟨w', x.2.trans (hb.mono x.2.size)⟩, rfl⟩

theorem Calls.later_same {P : Program} {f : FuncId} {args : Array Value} {w : World} {x : Later w} {v : Value}
    (h : Calls P f args x.1 fun e w' => e = .returned v ∧ x.1 = w') : Calls P f args x.1 fun e w'' => e = .returned v ∧ ∃ y : Later w, w'' = y.1 :=
  h.mono fun _ _ ⟨he, hb⟩ => ⟨he, x, hb.symm⟩

theorem region_later {P : Program} {id : Nat} {Q : Exit → Act → World → Prop} {a : Act} {w : World} {l : List Oper} (hm : P.follows .mixedOrders = true) (hB : Region.lexB .any l.toArray = true)
    (h : wpQuiet P l.toArray (fun w' => ∃ x : Later w, w' = x.1) (fun a' => ∀ w', (∃ x : Later w, w' = x.1) → Q .normal a' w') l a) : (Code.region id l.toArray true).wp P Q a w :=
  wp_region_quiet (C := fun w' => ∃ x : Later w, w' = x.1) hm hB ⟨⟨{ w with drawn := w.drawn + 1 }, rfl, rfl, rfl, Nat.le_refl _, fun _ _ => rfl⟩, rfl⟩ (by simpa using h)

/-! A struct that is a result lies in a block of its own: the block, store by store. -/
theorem heap_old {W w1 : World} (hb : Below W.heap.size W w1) {b : Nat} {o : Obj} (h : W.heap[b]? = some o) : w1.heap[b]? = some o := by
  rw [hb.block b (Array.getElem?_eq_some_iff.1 h).1]; exact h
theorem heap_alloc {W : World} {b : Nat} {o X : Obj} (h : W.heap[b]? = some o) : (W.alloc X).heap[b]? = some o := by
  rw [Below.heap_alloc W X b (Array.getElem?_eq_some_iff.1 h).1]; exact h
theorem heap_new (W : World) (X : Obj) {b : Nat} (h : b = W.heap.size) : (W.alloc X).heap[b]? = some X := by
  subst h; exact (MapKept.heap_alloc W X).1
theorem heap_set {W : World} {b o : Nat} {c : Array Value} {t : TypeId} {fr : Nat × Nat} {v : Value} (h : W.heap[b]? = some (.cells c t fr)) : (W.setCell ⟨b, o, none⟩ v).heap[b]? = some (.cells (c.setIfInBounds o v) t fr) := by
  simp only [World.setCell, Array.getElem?_modify, if_true, h, Option.map_some]
  simp
theorem heap_set_other {W : World} {b g o : Nat} {x : Obj} {v : Value} (h : W.heap[b]? = some x) (hg : b ≠ g) : (W.setCell ⟨g, o, none⟩ v).heap[b]? = some x := by
  rw [Below.heap_setCell W _ v b hg]; exact h
theorem post_row {P : Program} {fn : Func} {R : Ending → World → Prop} {a : Act} {w : World} {p : Tmp} {ty : TypeId} {b : Nat} {t : TypeId} {cs : Array Value} {fr : Nat × Nat} {d : TypeDesc} (h : fn.results = #[.cell p ty])
    (hp : a.tmps.getD p undef = .pointer (some ⟨b, 0, none⟩)) (hg : w.heap[b]? = some (.cells cs t fr)) (hu : P.underlying ty = some d) (hd : (match d with | .struct _ | .array _ _ => true | _ => false) = true)
    (hi : (P.info? ty).map (·.size) = some cs.size) (hdf : a.defers = []) (hR : R (.returned (.agg cs)) w) : bodyPost P fn R .ret a w :=
  bodyPost_ret (results_cell_row h _ _ _ _ _ _ _ hp hg hu hd hi) hdf hR
end Go.Proofs.Ytmdledlbkdcmnaa

/-
  Lines of least squares in plain Lean: sums, bounds, the line found, its deviations.
  Conditions: none.
-/
namespace Go.Proofs.Ytmdledlbkdcmnaa
open Go.RowKit

/-- A point: time and value. -/
abbrev PT := Int × Int
def okP (p : PT) : Bool := decide (0 ≤ p.1) && decide (p.1 ≤ 8000) && decide (-1000000 ≤ p.2) && decide (p.2 ≤ 1000000)
def ptsE (ps : List PT) : Int := if 64 < ps.length then 9 else if ps.length < 2 then 1 else if ps.all okP then 0 else 2
def sT : List PT → Int
  | [] => 0
  | p :: l => p.1 + sT l
def sQ : List PT → Int
  | [] => 0
  | p :: l => p.1 * p.1 + sQ l
def sV : List PT → Int
  | [] => 0
  | p :: l => p.2 + sV l
def sW : List PT → Int
  | [] => 0
  | p :: l => p.1 * p.2 + sW l
def fA (ps : List PT) : Int := sQ ps * sV ps - sT ps * sW ps
def fB (ps : List PT) : Int := ps.length * sW ps - sT ps * sV ps
def fD (ps : List PT) : Int := ps.length * sQ ps - sT ps * sT ps

theorem okP_iff {p : PT} (h : okP p = true) : (0 ≤ p.1 ∧ p.1 ≤ 8000) ∧ (-1000000 ≤ p.2 ∧ p.2 ≤ 1000000) := by
  simp [okP] at h; omega
theorem sT_app (a b : List PT) : sT (a ++ b) = sT a + sT b := by induction a with | nil => simp [sT] | cons p l ih => simp only [List.cons_append, sT, ih]; omega
theorem sQ_app (a b : List PT) : sQ (a ++ b) = sQ a + sQ b := by induction a with | nil => simp [sQ] | cons p l ih => simp only [List.cons_append, sQ, ih]; omega
theorem sV_app (a b : List PT) : sV (a ++ b) = sV a + sV b := by induction a with | nil => simp [sV] | cons p l ih => simp only [List.cons_append, sV, ih]; omega
theorem sW_app (a b : List PT) : sW (a ++ b) = sW a + sW b := by induction a with | nil => simp [sW] | cons p l ih => simp only [List.cons_append, sW, ih]; omega

/-- A product of bounded numbers is bounded. -/
theorem mul_bd {a b A B : Int} (h1 : -A ≤ a) (h2 : a ≤ A) (h3 : -B ≤ b) (h4 : b ≤ B) : -(A * B) ≤ a * b ∧ a * b ≤ A * B := by
  have hA : 0 ≤ A := by omega
  have hB : 0 ≤ B := by omega
  have e : (a * b).natAbs ≤ (A * B).natAbs := by
    rw [Int.natAbs_mul, Int.natAbs_mul]
    exact Nat.mul_le_mul (by omega) (by omega)
  have hAB : 0 ≤ A * B := Int.mul_nonneg hA hB
  omega
theorem sq_nonneg (a : Int) : 0 ≤ a * a := by
  rcases Int.le_total 0 a with h | h
  · exact Int.mul_nonneg h h
  · exact Int.mul_nonneg_of_nonpos_of_nonpos h h

theorem sums_bd (TT VV : Int) (hT : 0 ≤ TT) : ∀ ps : List PT, (∀ p ∈ ps, 0 ≤ p.1 ∧ p.1 ≤ TT ∧ -VV ≤ p.2 ∧ p.2 ≤ VV) →
    (0 ≤ sT ps ∧ sT ps ≤ ps.length * TT) ∧ (0 ≤ sQ ps ∧ sQ ps ≤ ps.length * (TT * TT)) ∧ (-(ps.length * VV) ≤ sV ps ∧ sV ps ≤ ps.length * VV) ∧ (-(ps.length * (TT * VV)) ≤ sW ps ∧ sW ps ≤ ps.length * (TT * VV)) := by
  intro ps
  induction ps with
  | nil => intro _; simp [sT, sQ, sV, sW]
  | cons p l ih =>
    intro h
    obtain ⟨⟨a1, a2⟩, ⟨b1, b2⟩, ⟨c1, c2⟩, d1, d2⟩ := ih (fun q hq => h q (by simp [hq]))
    obtain ⟨h1, h2, h3, h4⟩ := h p (by simp)
    have hq := mul_bd (A := TT) (B := TT) (a := p.1) (b := p.1) (by omega) h2 (by omega) h2
    have hw := mul_bd (A := TT) (B := VV) (a := p.1) (b := p.2) (by omega) h2 h3 h4
    have hq0 := sq_nonneg p.1
    simp only [sT, sQ, sV, sW, List.length_cons, Int.natCast_add, Int.natCast_one, Int.add_mul, Int.one_mul]
    omega

theorem pts_bd {ps : List PT} (h : ps.all okP = true) : (0 ≤ sT ps ∧ sT ps ≤ ps.length * 8000) ∧ (0 ≤ sQ ps ∧ sQ ps ≤ ps.length * 64000000) ∧ (-(ps.length * 1000000) ≤ sV ps ∧ sV ps ≤ ps.length * 1000000) ∧ (-(ps.length * 8000000000) ≤ sW ps ∧ sW ps ≤ ps.length * 8000000000) := by
  refine sums_bd 8000 1000000 (by omega) ps fun p hp => ?_
  have := okP_iff (List.all_eq_true.1 h p hp)
  omega

/-- The sum of the squares of the differences from a time. -/
def sD (t : Int) : List PT → Int
  | [] => 0
  | p :: l => (p.1 - t) * (p.1 - t) + sD t l
theorem sD_nonneg (t : Int) (ps : List PT) : 0 ≤ sD t ps := by
  induction ps with
  | nil => simp [sD]
  | cons p l ih => have := sq_nonneg (p.1 - t); simp only [sD]; omega
theorem sD_eq (t : Int) (ps : List PT) : sD t ps = sQ ps + ps.length * (t * t) - 2 * t * sT ps := by
  induction ps with
  | nil => simp [sD, sQ, sT]
  | cons p l ih => simp only [sD, sQ, sT, ih, List.length_cons, Int.natCast_add, Int.natCast_one]; grind
theorem fD_nonneg (ps : List PT) : 0 ≤ fD ps := by
  induction ps with
  | nil => simp [fD, sQ, sT]
  | cons p l ih =>
    have h := sD_nonneg p.1 l
    rw [sD_eq] at h
    simp only [fD, sQ, sT, List.length_cons, Int.natCast_add, Int.natCast_one] at ih ⊢
    grind

/-- What is accepted as a line. -/
def okL (A B D : Int) : Bool := decide (1 ≤ D) && decide (D ≤ 1099511627776) && (decide (-1152921504606846976 ≤ A) && decide (A ≤ 1152921504606846976)) && (decide (-70368744177664 ≤ B) && decide (B ≤ 70368744177664))
theorem okL_iff {A B D : Int} (h : okL A B D = true) : (1 ≤ D ∧ D ≤ 1099511627776) ∧ (-1152921504606846976 ≤ A ∧ A ≤ 1152921504606846976) ∧ (-70368744177664 ≤ B ∧ B ≤ 70368744177664) := by
  simp [okL] at h; omega

/-- The bounds of the products behind a line, for points that are accepted. -/
theorem line_bd {ps : List PT} (h : ptsE ps = 0) :
    (-262144000000000000 ≤ sQ ps * sV ps ∧ sQ ps * sV ps ≤ 262144000000000000) ∧ (-262144000000000000 ≤ sT ps * sW ps ∧ sT ps * sW ps ≤ 262144000000000000) ∧
    (-32768000000000 ≤ ps.length * sW ps ∧ ps.length * sW ps ≤ 32768000000000) ∧ (-32768000000000 ≤ sT ps * sV ps ∧ sT ps * sV ps ≤ 32768000000000) ∧
    (0 ≤ ps.length * sQ ps ∧ ps.length * sQ ps ≤ 262144000000) ∧ (0 ≤ sT ps * sT ps ∧ sT ps * sT ps ≤ 262144000000) := by
  unfold ptsE at h
  split at h
  · omega
  · split at h
    · omega
    · split at h
      · rename_i h1 h2 h3
        obtain ⟨⟨a1, a2⟩, ⟨b1, b2⟩, ⟨c1, c2⟩, d1, d2⟩ := pts_bd h3
        have p1 := mul_bd (A := 4096000000) (B := 64000000) (a := sQ ps) (b := sV ps) (by omega) (by omega) (by omega) (by omega)
        have p2 := mul_bd (A := 512000) (B := 512000000000) (a := sT ps) (b := sW ps) (by omega) (by omega) (by omega) (by omega)
        have p3 := mul_bd (A := 64) (B := 512000000000) (a := (ps.length : Int)) (b := sW ps) (by omega) (by omega) (by omega) (by omega)
        have p4 := mul_bd (A := 512000) (B := 64000000) (a := sT ps) (b := sV ps) (by omega) (by omega) (by omega) (by omega)
        have p5 := mul_bd (A := 64) (B := 4096000000) (a := (ps.length : Int)) (b := sQ ps) (by omega) (by omega) (by omega) (by omega)
        have p6 := mul_bd (A := 512000) (B := 512000) (a := sT ps) (b := sT ps) (by omega) (by omega) (by omega) (by omega)
        have q5 : 0 ≤ (ps.length : Int) * sQ ps := Int.mul_nonneg (by omega) b1
        have q6 := sq_nonneg (sT ps)
        omega
      · omega

/-- The line that is found is accepted as a line. -/
theorem line_ok {ps : List PT} (h : ptsE ps = 0) (hD : fD ps ≠ 0) : okL (fA ps) (fB ps) (fD ps) = true := by
  have hb := line_bd h
  have h0 := fD_nonneg ps
  simp only [fA, fB, fD] at *
  simp only [okL, Bool.and_eq_true, decide_eq_true_eq]
  omega

/-- The deviation of a point, times the denominator. -/
def dev (A B D : Int) (p : PT) : Int := D * p.2 - A - B * p.1
def sDev (A B D : Int) : List PT → Int
  | [] => 0
  | p :: l => dev A B D p + sDev A B D l
def sMom (A B D : Int) : List PT → Int
  | [] => 0
  | p :: l => dev A B D p * p.1 + sMom A B D l
def sSq (A B D : Int) : List PT → Int
  | [] => 0
  | p :: l => dev A B D p * dev A B D p + sSq A B D l
theorem sDev_eq (A B D : Int) (ps : List PT) : sDev A B D ps = D * sV ps - ps.length * A - B * sT ps := by
  induction ps with
  | nil => simp [sDev, sV, sT]
  | cons p l ih => simp only [sDev, dev, sV, sT, ih, List.length_cons, Int.natCast_add, Int.natCast_one]; grind
theorem sMom_eq (A B D : Int) (ps : List PT) : sMom A B D ps = D * sW ps - A * sT ps - B * sQ ps := by
  induction ps with
  | nil => simp [sMom, sW, sT, sQ]
  | cons p l ih => simp only [sMom, dev, sW, sT, sQ, ih]; grind
theorem best_dev (ps : List PT) : sDev (fA ps) (fB ps) (fD ps) ps = 0 := by rw [sDev_eq]; simp only [fA, fB, fD]; grind
theorem best_mom (ps : List PT) : sMom (fA ps) (fB ps) (fD ps) ps = 0 := by rw [sMom_eq]; simp only [fA, fB, fD]; grind
theorem sSq_nonneg (A B D : Int) (ps : List PT) : 0 ≤ sSq A B D ps := by
  induction ps with
  | nil => simp [sSq]
  | cons p l ih => have := sq_nonneg (dev A B D p); simp only [sSq]; omega
/-- Squares of a line's deviations, against those of another line. -/
theorem sSq_other (A B D A' B' D' : Int) (ps : List PT) : D * D * sSq A' B' D' ps = D' * D' * sSq A B D ps + 2 * D' * ((D' * A - D * A') * sDev A B D ps + (D' * B - D * B') * sMom A B D ps) + sSq (D * A' - D' * A) (D * B' - D' * B) 0 ps := by
  induction ps with
  | nil => simp [sSq, sDev, sMom]
  | cons p l ih => simp only [sSq, sDev, sMom, dev] at ih ⊢; grind
theorem best_least (ps : List PT) (A' B' D' : Int) : D' * D' * sSq (fA ps) (fB ps) (fD ps) ps ≤ fD ps * fD ps * sSq A' B' D' ps := by
  have h := sSq_other (fA ps) (fB ps) (fD ps) A' B' D' ps
  rw [best_dev, best_mom] at h
  have h0 := sSq_nonneg (fD ps * A' - D' * fA ps) (fD ps * B' - D' * fB ps) 0 ps
  simp only [Int.mul_zero, Int.add_zero] at h
  omega
end Go.Proofs.Ytmdledlbkdcmnaa

/-
  A region that draws its order and only loads and reckons, walked once at a world that is a letter.
  Conditions: none.
-/
namespace Go.Proofs.Ytmdledlbkdcmnaa
open Go.RowKit
theorem heap_drew {W : World} {b : Nat} {x : Obj} (h : W.heap[b]? = some x) : W.drew.heap[b]? = some x := h
theorem cell_heap {W : World} {b o : Nat} {c : Array Value} {t : TypeId} {fr : Nat × Nat} {v : Value} (h : W.heap[b]? = some (.cells c t fr)) (hv : c[o]? = some v) : W.cell? ⟨b, o, none⟩ = some v := by
  simp [World.cell?, h, hv]
theorem frozen_heap {W : World} {b o : Nat} {c : Array Value} {t : TypeId} (h : W.heap[b]? = some (.cells c t (0, 0))) : W.frozen? ⟨b, o, none⟩ = false := by
  simp [World.frozen?, h]
theorem region_still {P : Program} {id : Nat} {Q : Exit → Act → World → Prop} {a : Act} {w : World} {l : List Oper} (hm : P.follows .mixedOrders = true) (hB : Region.lexB .any l.toArray = true)
    (h : ∀ W' : World, W' = w.drew → (∀ p, W'.cell? p = w.cell? p) → wpStill P l.toArray W' (fun a' => Q .normal a' W') l a) : (Code.region id l.toArray true).wp P Q a w :=
  wp_region_still_lit hm hB (h _ rfl (fun _ => rfl))
theorem kwrap_id {x : Int} (h1 : -9223372036854775808 ≤ x) (h2 : x ≤ 9223372036854775807) : IntKind.i64.wrap x = x := by rw [IntKind.wrap_i64]; omega
theorem wrap_id {x : Int} (h1 : -9223372036854775808 ≤ x) (h2 : x ≤ 9223372036854775807) : wrap64 x = x := by unfold wrap64; omega
end Go.Proofs.Ytmdledlbkdcmnaa

/-
  A slice that holds points; contracts of points, ours and the reference's.
  Conditions: none.
-/
namespace Go.Proofs.Ytmdledlbkdcmnaa
open Go.RowKit

/-- The slice v holds the points ps. -/
def Pts (w : World) (v : Value) (ps : List PT) : Prop :=
  ∃ (pa : Option Addr) (b o cap : Nat), v = .slice pa ps.length cap ∧ (0 < ps.length → pa = some ⟨b, o, none⟩) ∧ ps.length ≤ cap ∧ cap ≤ maxLen ∧
    ∀ i p, ps[i]? = some p → w.cell? ⟨b, o + i * 2, none⟩ = some (.int .i64 p.1) ∧ w.cell? ⟨b, o + i * 2 + 1, none⟩ = some (.int .i64 p.2)
theorem Pts.below {w w' : World} {v : Value} {ps : List PT} (h : Pts w v ps) (hb : Below w.heap.size w w') : Pts w' v ps := by
  obtain ⟨pa, b, o, cap, rfl, h1, h2, h3, h4⟩ := h
  refine ⟨pa, b, o, cap, rfl, h1, h2, h3, fun i p hp => ?_⟩
  obtain ⟨c0, c1⟩ := h4 i p hp
  have hx := (after hb).1
  exact ⟨(hx _ _ (by simp [c0])).trans c0, (hx _ _ (by simp [c1])).trans c1⟩
def inB (n k : Int) : Bool := decide (-k ≤ n) && decide (n ≤ k)
theorem all_next {ps : List PT} {i : Nat} {p : PT} (h : (ps.take i).all okP = true) (hp : ps[i]? = some p) (hk : okP p = true) : (ps.take (i + 1)).all okP = true := by
  rw [List.take_add_one, hp]; simp only [Option.toList_some, List.all_append, h, List.all_cons, hk, List.all_nil, Bool.and_true]
theorem pts_bad {ps : List PT} {i : Nat} {p : PT} (hp : ps[i]? = some p) (h1 : ¬ 64 < ps.length) (h2 : ¬ ps.length < 2) (hk : okP p = false) : 2 = ptsE ps := by
  unfold ptsE
  rw [if_neg h1, if_neg h2, if_neg]
  intro h
  have := List.all_eq_true.1 h p (List.mem_of_getElem? hp)
  rw [hk] at this
  exact Bool.noConfusion this
theorem pts_good {ps : List PT} {i : Nat} (h : (ps.take i).all okP = true) (hi : ps.length ≤ i) (h1 : ¬ 64 < ps.length) (h2 : ¬ ps.length < 2) : 0 = ptsE ps := by
  rw [List.take_of_length_le hi] at h
  unfold ptsE
  rw [if_neg h1, if_neg h2, if_pos h]
end Go.Proofs.Ytmdledlbkdcmnaa

/-
  Contract of Line, ours and the reference's.
  Conditions: none.
-/
namespace Go.Proofs.Ytmdledlbkdcmnaa
open Go.RowKit
def lineV (ps : List PT) : Value := if ptsE ps ≠ 0 then .tuple #[.agg #[.int .i64 0, .int .i64 0, .int .i64 0], .int .i64 (ptsE ps)] else if fD ps = 0 then .tuple #[.agg #[.int .i64 0, .int .i64 0, .int .i64 0], .int .i64 14] else .tuple #[.agg #[.int .i64 (fA ps), .int .i64 (fB ps), .int .i64 (fD ps)], .int .i64 0]
theorem ptsE_all {ps : List PT} (h : ptsE ps = 0) : ps.all okP = true ∧ ps.length ≤ 64 ∧ 2 ≤ ps.length := by
  unfold ptsE at h
  split at h
  · omega
  · split at h
    · omega
    · split at h
      · rename_i h1 h2 h3; exact ⟨h3, by omega, by omega⟩
      · omega
theorem lineV_e {ps : List PT} (h : ptsE ps ≠ 0) : lineV ps = .tuple #[.agg #[.int .i64 0, .int .i64 0, .int .i64 0], .int .i64 (ptsE ps)] := by unfold lineV; rw [if_pos h]
theorem lineV_s {ps : List PT} (h : ptsE ps = 0) (hd : fD ps = 0) : lineV ps = .tuple #[.agg #[.int .i64 0, .int .i64 0, .int .i64 0], .int .i64 14] := by unfold lineV; rw [if_neg (fun h' => h' h), if_pos hd]
theorem lineV_ok {ps : List PT} (h : ptsE ps = 0) (hd : fD ps ≠ 0) : lineV ps = .tuple #[.agg #[.int .i64 (fA ps), .int .i64 (fB ps), .int .i64 (fD ps)], .int .i64 0] := by unfold lineV; rw [if_neg (fun h' => h' h), if_neg hd]
theorem of_t {a b : Int} (h : (a == b) = true) : a = b := by simpa using h
theorem of_f {a b : Int} (h : (a == b) = false) : a ≠ b := by simpa using h
theorem sums_next {ps : List PT} {i : Nat} {p : PT} (hp : ps[i]? = some p) : sT (ps.take (i + 1)) = sT (ps.take i) + p.1 ∧ sQ (ps.take (i + 1)) = sQ (ps.take i) + p.1 * p.1 ∧ sV (ps.take (i + 1)) = sV (ps.take i) + p.2 ∧ sW (ps.take (i + 1)) = sW (ps.take i) + p.1 * p.2 := by
  rw [List.take_add_one, hp]
  simp [sT_app, sQ_app, sV_app, sW_app, sT, sQ, sV, sW]
theorem take_bd {ps : List PT} (h : ptsE ps = 0) (i : Nat) : (0 ≤ sT (ps.take i) ∧ sT (ps.take i) ≤ 512000) ∧ (0 ≤ sQ (ps.take i) ∧ sQ (ps.take i) ≤ 4096000000) ∧ (-64000000 ≤ sV (ps.take i) ∧ sV (ps.take i) ≤ 64000000) ∧ (-512000000000 ≤ sW (ps.take i) ∧ sW (ps.take i) ≤ 512000000000) := by
  obtain ⟨h1, h2, _⟩ := ptsE_all h
  have hk : (ps.take i).all okP = true := List.all_eq_true.2 fun p hp => List.all_eq_true.1 h1 p (List.mem_of_mem_take hp)
  have hl : (ps.take i).length ≤ 64 := by rw [List.length_take]; omega
  have := pts_bd hk
  omega
theorem pt_bd {ps : List PT} (h : ptsE ps = 0) {i : Nat} {p : PT} (hp : ps[i]? = some p) : (0 ≤ p.1 ∧ p.1 ≤ 8000) ∧ (-1000000 ≤ p.2 ∧ p.2 ≤ 1000000) ∧ (0 ≤ p.1 * p.1 ∧ p.1 * p.1 ≤ 64000000) ∧ (-8000000000 ≤ p.1 * p.2 ∧ p.1 * p.2 ≤ 8000000000) := by
  obtain ⟨h1, _⟩ := ptsE_all h
  have hk := okP_iff (List.all_eq_true.1 h1 p (List.mem_of_getElem? hp))
  have q1 := mul_bd (A := 8000) (B := 8000) (a := p.1) (b := p.1) (by omega) (by omega) (by omega) (by omega)
  have q2 := mul_bd (A := 8000) (B := 1000000) (a := p.1) (b := p.2) (by omega) (by omega) (by omega) (by omega)
  have q3 := sq_nonneg p.1
  omega

end Go.Proofs.Ytmdledlbkdcmnaa

/-
  Contract of the reference's Line.
  Conditions: none.
-/
namespace Go.Proofs.Ytmdledlbkdcmnaa
open Go.RowKit
end Go.Proofs.Ytmdledlbkdcmnaa

/-
  The statements' own 'of': points as the program has them.
  Conditions: none.
-/
namespace Go.Proofs.Ytmdledlbkdcmnaa
open Go.RowKit
theorem own_below {w1 w2 : World} {base : Nat} {e : TypeId} {size : Nat} {v : Value} {n : Nat} {xs : List Value} (h : w1.ownsRow base e size v n xs) (hb : Below w1.heap.size w1 w2) : w2.ownsRow base e size v n xs := by
  obtain ⟨h1, h2⟩ := h
  refine ⟨h1, ?_⟩
  rcases h2 with h | ⟨g, cap, cur, a, b, c, d⟩
  · exact .inl h
  · exact .inr ⟨g, cap, cur, a, b, heap_old hb c, d⟩
def cells2 (p : PT) : List Value := [.int .i64 p.1, .int .i64 p.2]
theorem cells2_len (L : List PT) : (L.flatMap cells2).length = L.length * 2 := by
  induction L with
  | nil => rfl
  | cons d L ih => simp only [List.flatMap_cons, List.length_append, ih, List.length_cons]; simp [cells2]; omega
theorem cells2_at : ∀ (L : List PT) (i : Nat) (p : PT), L[i]? = some p → (L.flatMap cells2)[i * 2]? = some (.int .i64 p.1) ∧ (L.flatMap cells2)[i * 2 + 1]? = some (.int .i64 p.2)
  | [], i, p, h => by simp at h
  | d :: L, 0, p, h => by
    obtain rfl : d = p := by simpa using h
    simp [cells2]
  | d :: L, i + 1, p, h => by
    obtain ⟨a, b⟩ := cells2_at L i p (by simpa using h)
    have e1 : (i + 1) * 2 = i * 2 + 2 := by omega
    have e2 : (i + 1) * 2 + 1 = (i * 2 + 1) + 2 := by omega
    rw [e2, e1]
    exact ⟨by simpa [List.flatMap_cons, cells2] using a, by simpa [List.flatMap_cons, cells2] using b⟩
theorem cells_new (w : World) (cs : List Value) (t : TypeId) : ∀ j u, cs[j]? = some u → (w.alloc (.cells cs.toArray t)).cell? ((⟨w.heap.size, 0, none⟩ : Addr).add j) = some u := by
  intro j u h
  have e : (⟨w.heap.size, 0, none⟩ : Addr).add j = ⟨w.heap.size, j, none⟩ := by rw [Addr.add_lit]; simp
  rw [e]
  exact cell_heap (heap_new _ _ rfl) (by simpa using h)
/-- The world holds the points in the slice v, made since w. -/
def OwnPts (t : TypeId) (w wr : World) (v : Value) (L : List PT) : Prop := wr.ownsRow w.heap.size t 2 v L.length (L.flatMap cells2) ∧ Below w.heap.size w wr
theorem OwnPts.nil (t : TypeId) (w : World) : OwnPts t w w (.slice none 0 0) [] := ⟨World.ownsRow_nil _ _ _ _, Below.refl _ _⟩
theorem OwnPts.below {t : TypeId} {w wr w2 : World} {v : Value} {L : List PT} (h : OwnPts t w wr v L) (hb : Below wr.heap.size wr w2) : OwnPts t w w2 v L := ⟨own_below h.1 hb, h.2.trans (hb.mono h.2.size)⟩
theorem OwnPts.push {t : TypeId} {w w3 : World} {v : Value} {L : List PT} {d : PT} (h : w3.ownsRow w.heap.size t 2 v (L.length + 1) (L.flatMap cells2 ++ cells2 d)) (hb : Below w.heap.size w w3) : OwnPts t w w3 v (L ++ [d]) := by
  refine ⟨?_, hb⟩
  simpa [List.flatMap_append] using h
theorem OwnPts.pts {t : TypeId} {w wr : World} {v : Value} {L : List PT} (h : OwnPts t w wr v L) : Pts wr v L := by
  rcases h.1.2 with ⟨rfl, h0⟩ | ⟨g, cap, cur, rfl, hg, hh, h1, h2, h3, h4⟩
  · refine ⟨none, 0, 0, 0, by rw [h0], fun hp => by omega, by omega, by omega, fun i p hp => ?_⟩
    have := (List.getElem?_eq_some_iff.1 hp).1
    omega
  · refine ⟨_, g, 0, cap, rfl, fun _ => rfl, h1, h2, fun i p hp => ?_⟩
    have hi := (List.getElem?_eq_some_iff.1 hp).1
    obtain ⟨a, b⟩ := cells2_at L i p hp
    have e1 := World.ownsRow.cellAt h.1 (i * 2) (by omega)
    have e2 := World.ownsRow.cellAt h.1 (i * 2 + 1) (by omega)
    rw [Nat.zero_add, e1, e2]
    exact ⟨a, b⟩
def zeroP : Value := .agg #[.int .i64 0, .int .i64 0]

end Go.Proofs.Ytmdledlbkdcmnaa

/-
  Contracts of division rounded down by a positive number, of the acceptance of a line, and of At, ours and the reference's.
  Conditions: the division's divisor is positive.
-/
namespace Go.Proofs.Ytmdledlbkdcmnaa
open Go.RowKit
theorem tdiv_floor {n d : Int} (hd : 0 < d) : (if n.tmod d ≠ 0 ∧ n < 0 then n.tdiv d - 1 else n.tdiv d) = n / d := by
  rcases Int.le_total 0 n with h | h
  · rw [if_neg (by omega), Int.tdiv_eq_ediv_of_nonneg h]
  · obtain ⟨m, rfl⟩ : ∃ m, n = -m := ⟨-n, by omega⟩
    have hm : 0 ≤ m := by omega
    rw [Int.neg_tdiv, Int.neg_tmod, Int.tdiv_eq_ediv_of_nonneg hm, Int.tmod_eq_emod_of_nonneg hm]
    have h2 := Int.mul_ediv_add_emod m d
    have h3 := Int.emod_nonneg m (by omega : d ≠ 0)
    have h4 := Int.emod_lt_of_pos m hd
    generalize m / d = q at *
    generalize m % d = r at *
    rcases Int.lt_or_eq_of_le h3 with hr | hr
    · have e : -m = (d - r) + d * (-q - 1) := by rw [← h2]; grind
      have hm0 : -m < 0 := by
        rcases Int.lt_or_eq_of_le hm with h | h
        · omega
        · exfalso
          subst h
          have : d * q = -r := by omega
          rcases Int.lt_or_le q 0 with hq | hq
          · have := Int.mul_le_mul_of_nonneg_left (show q ≤ -1 by omega) (Int.le_of_lt hd); omega
          · have := Int.mul_nonneg (Int.le_of_lt hd) hq; omega
      rw [if_pos ⟨by omega, hm0⟩, e, Int.add_mul_ediv_left _ _ (by omega), Int.ediv_eq_zero_of_lt (by omega) (by omega)]
      omega
    · subst hr
      rw [if_neg (by simp)]
      have e : -m = d * (-q) := by rw [← h2]; grind
      rw [e, Int.mul_ediv_cancel_left _ (by omega)]
theorem div_bd {n d : Int} (hd : 0 < d) (hn1 : -9223372036854775808 ≤ n) (hn2 : n ≤ 9223372036854775807) : -9223372036854775808 ≤ n / d ∧ n / d ≤ 9223372036854775807 := by
  have h1 : (-9223372036854775808 : Int) ≤ n / d := Int.le_ediv_of_mul_le hd (by omega)
  have h2 : n / d < 9223372036854775808 := Int.ediv_lt_of_lt_mul hd (by omega)
  omega
theorem ret_tup {a b : Int} (h : a = b) : Ending.returned (.tuple #[.int .i64 a, .int .i64 0]) = .returned (.tuple #[.int .i64 b, .int .i64 0]) := by rw [h]
theorem floor_less {n d : Int} (hd : 0 < d) (h1 : -9223372036854775808 ≤ n) (h2 : n ≤ 9223372036854775807) (hr : ¬n.tmod d = 0) (hn : n < 0) : wrap64 (n.tdiv d - 1) = n / d := by
  have hf := tdiv_floor (n := n) hd
  rw [if_pos ⟨hr, hn⟩] at hf
  have := div_bd hd h1 h2
  rw [hf]
  exact wrap_id (by omega) (by omega)
theorem floor_same {n d : Int} (hd : 0 < d) (hr : ¬(n.tmod d ≠ 0 ∧ n < 0)) : n.tdiv d = n / d := by
  have hf := tdiv_floor (n := n) hd
  rwa [if_neg hr] at hf
theorem tdiv_bd {n d : Int} (hd : 0 < d) (h1 : -9223372036854775808 ≤ n) (h2 : n ≤ 9223372036854775807) : -9223372036854775808 ≤ n.tdiv d ∧ n.tdiv d ≤ 9223372036854775807 := by
  have hb := div_bd hd h1 h2
  have hf := tdiv_floor (n := n) hd
  split at hf
  · rename_i hc
    have := Int.ediv_neg_of_neg_of_pos hc.2 hd
    omega
  · omega
theorem tmod_sign {n d : Int} (hd : 0 < d) : n.tmod d < 0 ↔ (¬n.tmod d = 0 ∧ n < 0) := by
  rcases Int.le_total 0 n with h | h
  · have := Int.emod_nonneg n (by omega : d ≠ 0)
    rw [Int.tmod_eq_emod_of_nonneg h]; omega
  · obtain ⟨m, rfl⟩ : ∃ m, n = -m := ⟨-n, by omega⟩
    have hm : 0 ≤ m := by omega
    have h3 := Int.emod_nonneg m (by omega : d ≠ 0)
    rw [Int.neg_tmod, Int.tmod_eq_emod_of_nonneg hm]
    rcases Int.lt_or_eq_of_le hm with h0 | h0
    · omega
    · subst h0; simp
theorem divided_any (n d : Int) (hd : 0 < d) (w : World) : Calls Try.prog 131 #[.int .i64 n, .int .i64 d] w fun e w' => e = .returned (.int .i64 0) ∧ w = w' := by
  go_enter Try.func131, Try.ntmps131
  go_wp2_with fail
  all_goals (go_ret; exact ⟨rfl, rfl⟩)
set_option maxHeartbeats 1000000 in
theorem floordiv_any (n d : Int) (hd : 0 < d) (hn1 : -9223372036854775808 ≤ n) (hn2 : n ≤ 9223372036854775807) (hd2 : d ≤ 9223372036854775807) (w : World) : Calls Try.prog 120 #[.int .i64 n, .int .i64 d] w fun e w' => e = .returned (.tuple #[.int .i64 (n / d), .int .i64 0]) ∧ Below w.heap.size w w' := by
  go_enter Try.func120, Try.ntmps120
  go_wp2_with (go_at_call 131; refine (divided_any _ _ hd _).mono ?_; rintro e w' ⟨rfl, rfl⟩)
  all_goals go_ret2
  all_goals
    refine ⟨ret_tup ?_, (by repeat (first | with_reducible exact Below.refl _ _ | with_reducible assumption | with_reducible refine Below.drew ?_ | with_reducible refine Below.setCell ?_ (by first | omega | (simp; omega) | simp) _ | with_reducible refine Below.alloc ?_ (by first | omega | (simp; omega) | simp) _ | with_reducible refine Below.trans ?_ (Below.mono (by with_reducible assumption) (by first | omega | (simp; omega) | simp))))⟩
    first
      | exact floor_same hd (by grind)
      | exact floor_less hd hn1 hn2 (by grind) (by grind)
set_option maxHeartbeats 1000000 in
theorem rfloordiv_any (n d : Int) (hd : 0 < d) (hn0 : -9223372036854775808 < n) (hn2 : n ≤ 9223372036854775807) (hd2 : d ≤ 9223372036854775807) (w : World) : Calls Try.prog 126 #[.int .i64 n, .int .i64 d] w fun e w' => e = .returned (.tuple #[.int .i64 (n / d), .int .i64 0]) ∧ Below w.heap.size w w' := by
  have hn1 : -9223372036854775808 ≤ n := by omega
  have hd0 : ¬d = 0 := by omega
  have hb := tdiv_bd hd hn1 hn2
  have hk : IntKind.i64.wrap (n.tdiv d) = n.tdiv d := kwrap_id (by omega) (by omega)
  clear hb
  go_enter Try.func126, Try.ntmps126
  go_wp2_with fail
  refine region_still (by kernel_rfl) (by kernel_rfl) ?_; intro W' hW hC; skip; replace hW := Lib.hid hW; clear hC; (repeat still_step); refine wpStill_nil ?_; obtain rfl := hW.out; clear hW
  go_wp2_with fail
  all_goals go_ret2
  all_goals
    refine ⟨ret_tup ?_, (by repeat (first | with_reducible exact Below.refl _ _ | with_reducible assumption | with_reducible refine Below.drew ?_ | with_reducible refine Below.setCell ?_ (by first | omega | (simp; omega) | simp) _ | with_reducible refine Below.alloc ?_ (by first | omega | (simp; omega) | simp) _ | with_reducible refine Below.trans ?_ (Below.mono (by with_reducible assumption) (by first | omega | (simp; omega) | simp))))⟩
    have hsg := tmod_sign (n := n) hd
    clear hk
    first
      | exact floor_same hd (by rw [ne_eq, ← hsg]; grind)
      | exact floor_less hd hn1 hn2 (hsg.1 (by grind)).1 (hsg.1 (by grind)).2

def atV (A B D t : Int) : Value := if okL A B D = true then (if t < 0 ∨ 8000 < t then .tuple #[.int .i64 0, .int .i64 2] else .tuple #[.int .i64 ((2 * (A + B * t) + D) / (2 * D)), .int .i64 0]) else .tuple #[.int .i64 0, .int .i64 1]
theorem at_bd {A B D t : Int} (h : okL A B D = true) (h1 : 0 ≤ t) (h2 : t ≤ 8000) : (-562949953421312000 ≤ B * t ∧ B * t ≤ 562949953421312000) := by
  have := okL_iff h
  have p := mul_bd (A := 70368744177664) (B := 8000) (a := B) (b := t) (by omega) (by omega) (by omega) (by omega)
  omega
end Go.Proofs.Ytmdledlbkdcmnaa

/-
  Observations of a ball in plain Lean: the check, the bounce, what is behind it.
  Conditions: none.
-/
namespace Go.Proofs.Ytmdledlbkdcmnaa
open Go.RowKit
/-- An observation: time, three places, error. -/
abbrev SN := Int × Int × Int × Int × Int
def inR (n lo hi : Int) : Bool := decide (lo ≤ n) && decide (n ≤ hi)
def okS (s : SN) : Bool := inR s.1 0 4000 && inR s.2.1 (-300000) 300000 && inR s.2.2.1 (-50000) 50000 && inR s.2.2.2.1 0 50000 && inR s.2.2.2.2 1 1000
theorem okS_iff {s : SN} : okS s = true ↔ (0 ≤ s.1 ∧ s.1 ≤ 4000) ∧ (-300000 ≤ s.2.1 ∧ s.2.1 ≤ 300000) ∧ (-50000 ≤ s.2.2.1 ∧ s.2.2.1 ≤ 50000) ∧ (0 ≤ s.2.2.2.1 ∧ s.2.2.2.1 ≤ 50000) ∧ (1 ≤ s.2.2.2.2 ∧ s.2.2.2.2 ≤ 1000) := by
  simp only [okS, inR, Bool.and_eq_true, decide_eq_true_eq, and_assoc]
def chkF (prev : Int) : List SN → Int
  | [] => 0
  | s :: l => if okS s then (if s.1 ≤ prev then 8 else chkF s.1 l) else 2
def chkE (l : List SN) : Int := if 64 < l.length then 9 else chkF (-1) l
def prevT (l : List SN) : Nat → Int
  | 0 => -1
  | i + 1 => match l[i]? with
    | some s => s.1
    | none => -1
theorem prevT_succ {l : List SN} {i : Nat} {s : SN} (h : l[i]? = some s) : prevT l (i + 1) = s.1 := by simp [prevT, h]
theorem drop_at {α : Type} {l : List α} {i : Nat} {s : α} (h : l[i]? = some s) : l.drop i = s :: l.drop (i + 1) := by
  obtain ⟨hi, rfl⟩ := List.getElem?_eq_some_iff.1 h
  exact List.drop_eq_getElem_cons hi
/-- What the check still has to give from the i-th observation on. -/
def chkAt (l : List SN) (i : Nat) : Int := chkF (prevT l i) (l.drop i)
theorem chkAt_zero (l : List SN) : chkAt l 0 = chkF (-1) l := rfl
theorem chkAt_end {l : List SN} {i : Nat} (h : l.length ≤ i) : chkAt l i = 0 := by unfold chkAt; rw [List.drop_eq_nil_of_le h]; rfl
theorem chkAt_bad {l : List SN} {i : Nat} {s : SN} (h : l[i]? = some s) (hk : okS s = false) : chkAt l i = 2 := by
  unfold chkAt; rw [drop_at h, chkF, if_neg (by simp [hk])]
theorem chkAt_order {l : List SN} {i : Nat} {s : SN} (h : l[i]? = some s) (hk : okS s = true) (ho : s.1 ≤ prevT l i) : chkAt l i = 8 := by
  unfold chkAt; rw [drop_at h, chkF, if_pos hk, if_pos ho]
theorem chkAt_next {l : List SN} {i : Nat} {s : SN} (h : l[i]? = some s) (hk : okS s = true) (ho : ¬ s.1 ≤ prevT l i) : chkAt l i = chkAt l (i + 1) := by
  unfold chkAt; rw [drop_at h, chkF, if_pos hk, if_neg ho, prevT_succ h]
/-- The place of the least height among the first ones. -/
def minAt (l : List SN) : Nat → Nat
  | 0 => 0
  | i + 1 => match l[i]?, l[minAt l i]? with
    | some s, some r => if s.2.2.2.1 < r.2.2.2.1 then i else minAt l i
    | _, _ => minAt l i
theorem minAt_lt {l : List SN} : ∀ i, i ≤ l.length → 0 < l.length → minAt l i < l.length
  | 0, _, h => h
  | i + 1, hi, h => by
    have ih := minAt_lt i (by omega) h
    unfold minAt
    split
    · split <;> omega
    · exact ih
theorem minAt_next {l : List SN} {i : Nat} {s r : SN} (hs : l[i]? = some s) (hr : l[minAt l i]? = some r) : minAt l (i + 1) = if s.2.2.2.1 < r.2.2.2.1 then i else minAt l i := by
  conv => lhs; unfold minAt
  rw [hs, hr]
def heightAt (l : List SN) (k : Nat) : Int := match l[k]? with
  | some s => s.2.2.2.1
  | none => 0
/-- The place of the bounce, or 0. -/
def bncK (l : List SN) : Nat := if chkE l = 0 then (if minAt l l.length = 0 ∨ (minAt l l.length : Int) = (l.length : Int) - 1 ∨ 1000 < heightAt l (minAt l l.length) then 0 else minAt l l.length) else 0
/-- Behind the bounce. -/
def bhdL (l : List SN) : List SN := if chkE l = 0 then l.drop (bncK l) else []
theorem bncK_le (l : List SN) : bncK l ≤ l.length := by
  unfold bncK
  split
  · split
    · omega
    · rename_i h
      have := minAt_lt (l := l) l.length (Nat.le_refl _) (by
        rcases Nat.eq_zero_or_pos l.length with h0 | h0
        · rw [h0] at h; simp [minAt] at h
        · exact h0)
      omega
  · omega
/-- The sides of the pitch exchanged. -/
def mirS (s : SN) : SN := (s.1, s.2.1, -s.2.2.1, s.2.2.2.1, s.2.2.2.2)
theorem chkE_len {l : List SN} (h : chkE l = 0) : l.length ≤ 64 := by
  unfold chkE at h
  split at h
  · omega
  · omega
theorem chkF_ok : ∀ (l : List SN) (p : Int), chkF p l = 0 → ∀ s ∈ l, okS s = true
  | [], _, _, s, hs => by simp at hs
  | q :: l, p, h, s, hs => by
    unfold chkF at h
    split at h
    · rename_i hk
      split at h
      · omega
      · simp only [List.mem_cons] at hs
        rcases hs with rfl | hs
        · exact hk
        · exact chkF_ok l _ h s hs
    · omega
theorem chkE_ok {l : List SN} (h : chkE l = 0) : ∀ s ∈ l, okS s = true := by
  unfold chkE at h
  split at h
  · omega
  · exact chkF_ok l _ h
theorem bhd_ok {l : List SN} : ∀ s ∈ bhdL l, okS s = true := by
  intro s hs
  unfold bhdL at hs
  split at hs
  · rename_i h; exact chkE_ok h s (List.mem_of_mem_drop hs)
  · simp at hs
theorem bhd_len (l : List SN) : (bhdL l).length ≤ 64 := by
  unfold bhdL
  split
  · rename_i h; rw [List.length_drop]; have := chkE_len h; omega
  · simp
theorem chkF_mir : ∀ (l : List SN) (p : Int), chkF p (l.map mirS) = chkF p l
  | [], _ => rfl
  | q :: l, p => by
    have hk : okS (mirS q) = okS q := by
      rw [Bool.eq_iff_iff, okS_iff, okS_iff]; simp only [mirS]; omega
    simp only [List.map_cons, chkF, hk, chkF_mir l]
    rfl
theorem chkE_mir (l : List SN) : chkE (l.map mirS) = chkE l := by
  unfold chkE; rw [List.length_map, chkF_mir]
theorem minAt_mir (l : List SN) : ∀ i, minAt (l.map mirS) i = minAt l i
  | 0 => rfl
  | i + 1 => by
    unfold minAt
    rw [minAt_mir l i, List.getElem?_map, List.getElem?_map]
    cases l[i]? <;> cases l[minAt l i]? <;> simp [mirS]
theorem heightAt_mir (l : List SN) (k : Nat) : heightAt (l.map mirS) k = heightAt l k := by
  unfold heightAt
  rw [List.getElem?_map]
  cases l[k]? <;> simp [mirS]
theorem bncK_mir (l : List SN) : bncK (l.map mirS) = bncK l := by
  unfold bncK
  rw [chkE_mir, List.length_map, minAt_mir, heightAt_mir]
theorem bhd_mir (l : List SN) : bhdL (l.map mirS) = (bhdL l).map mirS := by
  unfold bhdL
  rw [chkE_mir, bncK_mir]
  split
  · rw [List.map_drop]
  · rfl
end Go.Proofs.Ytmdledlbkdcmnaa

/-
  Drawn paths in plain Lean: gravity taken out, the three lines, places.
  Conditions: none.
-/
namespace Go.Proofs.Ytmdledlbkdcmnaa
open Go.RowKit
def raiseV (t z : Int) : Int := if t < 0 ∨ 8000 < t ∨ z < -1000000 ∨ 1000000 < z then 0 else z * 80000 + 981 * t * t
def nrst (n : Int) : Int := (n + 40000) / 80000
theorem nrst_two (n : Int) : (2 * n + 80000) / 160000 = nrst n := by unfold nrst; omega
theorem grav_bd {t : Int} (h1 : 0 ≤ t) (h2 : t ≤ 8000) : 0 ≤ 981 * t * t ∧ 981 * t * t ≤ 62784000000 := by
  have q := mul_bd (A := 8000) (B := 8000) (a := t) (b := t) (by omega) (by omega) (by omega) (by omega)
  have q0 := sq_nonneg t
  have e : 981 * t * t = 981 * (t * t) := by grind
  omega
theorem raise_bd (t z : Int) : -80000000000 ≤ raiseV t z ∧ raiseV t z ≤ 142784000000 := by
  unfold raiseV
  split
  · omega
  · have := grav_bd (t := t) (by omega) (by omega); omega
theorem nrst_bd {n : Int} (h1 : -80000000000 ≤ n) (h2 : n ≤ 142784000000) : -1000000 ≤ nrst n ∧ nrst n ≤ 1784801 := by unfold nrst; omega
/-- Times and values of the three lines. -/
def tX (s : SN) : PT := (s.1, s.2.1)
def tY (s : SN) : PT := (s.1, s.2.2.1)
def tZ (s : SN) : PT := (s.1, nrst (raiseV s.1 s.2.2.2.1))
theorem okS_pts {s : SN} (h : okS s = true) : okP (tX s) = true ∧ okP (tY s) = true ∧ okP (tZ s) = true := by
  obtain ⟨⟨a1, a2⟩, ⟨b1, b2⟩, ⟨c1, c2⟩, ⟨d1, d2⟩, e1, e2⟩ := okS_iff.1 h
  have hr : 0 ≤ raiseV s.1 s.2.2.2.1 ∧ raiseV s.1 s.2.2.2.1 ≤ 4000000000 + 62784000000 := by
    unfold raiseV
    have := grav_bd (t := s.1) (by omega) (by omega)
    split <;> omega
  have hn : 0 ≤ nrst (raiseV s.1 s.2.2.2.1) ∧ nrst (raiseV s.1 s.2.2.2.1) ≤ 1000000 := by unfold nrst; omega
  simp only [tX, tY, tZ]
  simp [okP]
  omega
theorem map_ok {l : List SN} {f : SN → PT} (h : ∀ s ∈ l, okP (f s) = true) : (l.map f).all okP = true := by
  rw [List.all_eq_true]
  intro p hp
  obtain ⟨s, hs, rfl⟩ := List.mem_map.1 hp
  exact h s hs
theorem ptsE_map {l : List SN} {f : SN → PT} (h : ∀ s ∈ l, okP (f s) = true) (hl : l.length ≤ 64) : ptsE (l.map f) = if l.length < 2 then 1 else 0 := by
  unfold ptsE
  rw [List.length_map, if_neg (by omega), map_ok h]
  rfl
theorem fD_map {l : List SN} {f g : SN → PT} (h : ∀ s, (f s).1 = (g s).1) : fD (l.map f) = fD (l.map g) := by
  have hT : ∀ l : List SN, sT (l.map f) = sT (l.map g) := by
    intro l; induction l with
    | nil => rfl
    | cons s l ih => simp only [List.map_cons, sT, ih, h]
  have hQ : ∀ l : List SN, sQ (l.map f) = sQ (l.map g) := by
    intro l; induction l with
    | nil => rfl
    | cons s l ih => simp only [List.map_cons, sQ, ih, h]
  unfold fD; rw [hT, hQ, List.length_map, List.length_map]
/-- The error of the lines through the observations behind the bounce. -/
def lnE (l : List SN) : Int := if l.length < 2 then 1 else if fD (l.map tX) = 0 then 14 else 0
def fitE (l : List SN) : Int := if chkE l ≠ 0 then chkE l else lnE (bhdL l)
def lnV (l : List SN) (f : SN → PT) : Value := if lnE l = 0 then .agg #[.int .i64 (fA (l.map f)), .int .i64 (fB (l.map f)), .int .i64 (fD (l.map f))] else .agg #[.int .i64 0, .int .i64 0, .int .i64 0]
theorem lineV_map {l : List SN} {f : SN → PT} (hf : ∀ s, (f s).1 = s.1) (h : ∀ s ∈ l, okP (f s) = true) (hl : l.length ≤ 64) : lineV (l.map f) = .tuple #[lnV l f, .int .i64 (lnE l)] := by
  have hd : fD (l.map f) = fD (l.map tX) := fD_map (fun s => (hf s).trans rfl)
  unfold lineV lnV lnE
  rw [ptsE_map h hl, hd]
  by_cases h2 : l.length < 2
  · simp [h2]
  · by_cases h3 : fD (l.map tX) = 0
    · simp [h2, h3]
    · simp [h2, h3]
/-- What Fit gives. -/
def fitV (l : List SN) : Value := if fitE l = 0 then .tuple #[.agg #[.int .i64 (fA ((bhdL l).map tX)), .int .i64 (fB ((bhdL l).map tX)), .int .i64 (fD ((bhdL l).map tX)), .int .i64 (fA ((bhdL l).map tY)), .int .i64 (fB ((bhdL l).map tY)), .int .i64 (fD ((bhdL l).map tY)), .int .i64 (fA ((bhdL l).map tZ)), .int .i64 (fB ((bhdL l).map tZ)), .int .i64 (fD ((bhdL l).map tZ))], .int .i64 0] else .tuple #[.agg #[.int .i64 0, .int .i64 0, .int .i64 0, .int .i64 0, .int .i64 0, .int .i64 0, .int .i64 0, .int .i64 0, .int .i64 0], .int .i64 (fitE l)]
theorem lnV_ok {l : List SN} {f : SN → PT} (h : lnE l = 0) : lnV l f = .agg #[.int .i64 (fA (l.map f)), .int .i64 (fB (l.map f)), .int .i64 (fD (l.map f))] := by unfold lnV; rw [if_pos h]
theorem lnV_bad {l : List SN} {f : SN → PT} (h : lnE l ≠ 0) : lnV l f = .agg #[.int .i64 0, .int .i64 0, .int .i64 0] := by unfold lnV; rw [if_neg h]
/-- A line at a time: the error. -/
def atE (A B D t : Int) : Int := if okL A B D = true then (if t < 0 ∨ 8000 < t then 2 else 0) else 1
def vAt (A B D t : Int) : Int := (2 * (A + B * t) + D) / (2 * D)
theorem atV_ok {A B D t : Int} (h : atE A B D t = 0) : atV A B D t = .tuple #[.int .i64 (vAt A B D t), .int .i64 0] := by
  unfold atE at h
  split at h
  · split at h
    · omega
    · rename_i h1 h2; unfold atV vAt; rw [if_pos h1, if_neg h2]
  · omega
theorem atV_bad {A B D t : Int} (h : atE A B D t ≠ 0) : atV A B D t = .tuple #[.int .i64 0, .int .i64 (atE A B D t)] := by
  unfold atE at h ⊢
  unfold atV
  split at h
  · split at h
    · rename_i h1 h2; rw [if_pos h1, if_pos h2, if_pos h1, if_pos h2]
    · omega
  · rename_i h1; rw [if_neg h1, if_neg h1]
theorem atE_zero {A B D t : Int} (h : atE A B D t = 0) : okL A B D = true ∧ 0 ≤ t ∧ t ≤ 8000 := by
  unfold atE at h
  split at h
  · split at h
    · omega
    · rename_i h1 h2; exact ⟨h1, by omega, by omega⟩
  · omega
/-- The place of a drawn path at a time: the error; all that is returned. -/
def plE (a1 b1 d1 a2 b2 d2 a3 b3 d3 t : Int) : Int := if atE a1 b1 d1 t ≠ 0 then atE a1 b1 d1 t else if atE a2 b2 d2 t ≠ 0 then atE a2 b2 d2 t else atE a3 b3 d3 t
def plV (a1 b1 d1 a2 b2 d2 a3 b3 d3 t : Int) : Value := if plE a1 b1 d1 a2 b2 d2 a3 b3 d3 t = 0 then .tuple #[.int .i64 (vAt a1 b1 d1 t), .int .i64 (vAt a2 b2 d2 t), .int .i64 (vAt a3 b3 d3 t - nrst (981 * t * t)), .int .i64 0] else .tuple #[.int .i64 0, .int .i64 0, .int .i64 0, .int .i64 (plE a1 b1 d1 a2 b2 d2 a3 b3 d3 t)]
theorem plV_1 {a1 b1 d1 t : Int} (a2 b2 d2 a3 b3 d3 : Int) (h : atE a1 b1 d1 t ≠ 0) : plV a1 b1 d1 a2 b2 d2 a3 b3 d3 t = .tuple #[.int .i64 0, .int .i64 0, .int .i64 0, .int .i64 (atE a1 b1 d1 t)] := by
  have e : plE a1 b1 d1 a2 b2 d2 a3 b3 d3 t = atE a1 b1 d1 t := by unfold plE; rw [if_pos h]
  unfold plV; rw [e, if_neg h]
theorem plV_2 {a1 b1 d1 a2 b2 d2 t : Int} (a3 b3 d3 : Int) (h1 : atE a1 b1 d1 t = 0) (h : atE a2 b2 d2 t ≠ 0) : plV a1 b1 d1 a2 b2 d2 a3 b3 d3 t = .tuple #[.int .i64 0, .int .i64 0, .int .i64 0, .int .i64 (atE a2 b2 d2 t)] := by
  have e : plE a1 b1 d1 a2 b2 d2 a3 b3 d3 t = atE a2 b2 d2 t := by unfold plE; rw [if_neg (by omega), if_pos h]
  unfold plV; rw [e, if_neg h]
theorem plV_3 {a1 b1 d1 a2 b2 d2 a3 b3 d3 t : Int} (h1 : atE a1 b1 d1 t = 0) (h2 : atE a2 b2 d2 t = 0) (h : atE a3 b3 d3 t ≠ 0) : plV a1 b1 d1 a2 b2 d2 a3 b3 d3 t = .tuple #[.int .i64 0, .int .i64 0, .int .i64 0, .int .i64 (atE a3 b3 d3 t)] := by
  have e : plE a1 b1 d1 a2 b2 d2 a3 b3 d3 t = atE a3 b3 d3 t := by unfold plE; rw [if_neg (by omega), if_neg (by omega)]
  unfold plV; rw [e, if_neg h]
theorem plV_ok {a1 b1 d1 a2 b2 d2 a3 b3 d3 t : Int} (h1 : atE a1 b1 d1 t = 0) (h2 : atE a2 b2 d2 t = 0) (h3 : atE a3 b3 d3 t = 0) : plV a1 b1 d1 a2 b2 d2 a3 b3 d3 t = .tuple #[.int .i64 (vAt a1 b1 d1 t), .int .i64 (vAt a2 b2 d2 t), .int .i64 (vAt a3 b3 d3 t - nrst (981 * t * t)), .int .i64 0] := by
  have e : plE a1 b1 d1 a2 b2 d2 a3 b3 d3 t = 0 := by unfold plE; rw [if_neg (by omega), if_neg (by omega), h3]
  unfold plV; rw [if_pos e]
theorem vAt_bd {A B D t : Int} (h : okL A B D = true) (h1 : 0 ≤ t) (h2 : t ≤ 8000) : -1715871458028158977 ≤ vAt A B D t ∧ vAt A B D t ≤ 1715871458028158977 := by
  obtain ⟨⟨d1, d2⟩, ⟨a1, a2⟩, b1, b2⟩ := okL_iff h
  obtain ⟨m1, m2⟩ := at_bd h h1 h2
  have e : (2 * (A + B * t) + D) = D * 1 + 2 * (A + B * t) := by omega
  unfold vAt
  have hd : (0 : Int) < 2 * D := by omega
  constructor
  · exact Int.le_ediv_of_mul_le hd (by
      have : -1715871458028158977 * (2 * D) ≤ -1715871458028158977 * 2 := by omega
      omega)
  · have : (2 * (A + B * t) + D) / (2 * D) < 1715871458028158978 := Int.ediv_lt_of_lt_mul hd (by
      have : 1715871458028158978 * 2 ≤ 1715871458028158978 * (2 * D) := by omega
      omega)
    omega
end Go.Proofs.Ytmdledlbkdcmnaa

/-
  Enclosures of the path in plain Lean: bounds, lines through two of them, ranges.
  Conditions: none.
-/
namespace Go.Proofs.Ytmdledlbkdcmnaa
open Go.RowKit
/-- Bounds: time, least, greatest. -/
abbrev BD := Int × Int × Int
def bX (s : SN) : BD := (s.1, s.2.1 - s.2.2.2.2, s.2.1 + s.2.2.2.2)
def bY (s : SN) : BD := (s.1, s.2.2.1 - s.2.2.2.2, s.2.2.1 + s.2.2.2.2)
def bZ (s : SN) : BD := (s.1, raiseV s.1 (s.2.2.2.1 - s.2.2.2.2), raiseV s.1 (s.2.2.2.1 + s.2.2.2.2))
def bndS (ax : Int) : SN → BD := if ax = 1 then bY else if ax = 2 then bZ else bX
def bnds (ax : Int) (l : List SN) : List BD := l.map (bndS ax)
def okB (b : BD) : Prop := (0 ≤ b.1 ∧ b.1 ≤ 4000) ∧ -20000000000 ≤ b.2.1 ∧ b.2.1 ≤ b.2.2 ∧ b.2.2 ≤ 20000000000
theorem grav4 {t : Int} (h1 : 0 ≤ t) (h2 : t ≤ 4000) : 0 ≤ 981 * t * t ∧ 981 * t * t ≤ 15696000000 := by
  have q := mul_bd (A := 4000) (B := 4000) (a := t) (b := t) (by omega) (by omega) (by omega) (by omega)
  have q0 := sq_nonneg t
  have e : 981 * t * t = 981 * (t * t) := by grind
  omega
theorem raise_in {t z : Int} (h1 : 0 ≤ t) (h2 : t ≤ 4000) (h3 : -1000000 ≤ z) (h4 : z ≤ 1000000) : raiseV t z = z * 80000 + 981 * t * t := by
  unfold raiseV; rw [if_neg (by omega)]
theorem bndS_ok {s : SN} (ax : Int) (h : okS s = true) : okB (bndS ax s) := by
  obtain ⟨⟨a1, a2⟩, ⟨b1, b2⟩, ⟨c1, c2⟩, ⟨d1, d2⟩, e1, e2⟩ := okS_iff.1 h
  unfold bndS okB
  split
  · simp only [bY]; omega
  · split
    · have := grav4 a1 a2
      simp only [bZ]
      rw [raise_in a1 a2 (by omega) (by omega), raise_in a1 a2 (by omega) (by omega)]
      omega
    · simp only [bX]; omega
theorem bndS_t (ax : Int) (s : SN) : (bndS ax s).1 = s.1 := by
  unfold bndS; split; · rfl
  · split <;> rfl
theorem bnds_len (ax : Int) (l : List SN) : (bnds ax l).length = l.length := by simp [bnds]
theorem bnds_ok {ax : Int} {l : List SN} : ∀ b ∈ bnds ax (bhdL l), okB b := by
  intro b hb
  obtain ⟨s, hs, rfl⟩ := List.mem_map.1 hb
  exact bndS_ok ax (bhd_ok s hs)
/-- Times rise. -/
def RisingB (l : List BD) : Prop := ∀ (i j : Nat) (a b : BD), i < j → l[i]? = some a → l[j]? = some b → a.1 < b.1
theorem chkF_rise : ∀ (l : List SN) (p : Int), chkF p l = 0 → (∀ (i : Nat) (a : SN), l[i]? = some a → p < a.1) ∧ ∀ (i j : Nat) (a b : SN), i < j → l[i]? = some a → l[j]? = some b → a.1 < b.1
  | [], _, _ => ⟨fun i a h => by simp at h, fun i j a b _ h => by simp at h⟩
  | q :: l, p, h => by
    unfold chkF at h
    split at h
    · split at h
      · omega
      · rename_i hq
        obtain ⟨h1, h2⟩ := chkF_rise l _ h
        refine ⟨fun i a ha => ?_, fun i j a b hij ha hb => ?_⟩
        · cases i with
          | zero => obtain rfl : q = a := by simpa using ha
                    omega
          | succ i => have := h1 i a (by simpa using ha); omega
        · cases j with
          | zero => omega
          | succ j =>
            cases i with
            | zero => obtain rfl : q = a := by simpa using ha
                      exact h1 j b (by simpa using hb)
            | succ i => exact h2 i j a b (by omega) (by simpa using ha) (by simpa using hb)
    · omega
theorem chkE_rise {l : List SN} (h : chkE l = 0) : ∀ (i j : Nat) (a b : SN), i < j → l[i]? = some a → l[j]? = some b → a.1 < b.1 := by
  unfold chkE at h
  split at h
  · omega
  · exact (chkF_rise l _ h).2
theorem bhd_rise (l : List SN) : ∀ (i j : Nat) (a b : SN), i < j → (bhdL l)[i]? = some a → (bhdL l)[j]? = some b → a.1 < b.1 := by
  intro i j a b hij ha hb
  unfold bhdL at ha hb
  split at ha
  · rename_i h
    rw [if_pos h] at hb
    rw [List.getElem?_drop] at ha hb
    exact chkE_rise h _ _ a b (by omega) ha hb
  · simp at ha
theorem bnds_rise (ax : Int) (l : List SN) : RisingB (bnds ax (bhdL l)) := by
  intro i j a b hij ha hb
  unfold bnds at ha hb
  rw [List.getElem?_map] at ha hb
  cases hi : (bhdL l)[i]? with
  | none => rw [hi] at ha; simp at ha
  | some s =>
    cases hj : (bhdL l)[j]? with
    | none => rw [hj] at hb; simp at hb
    | some r =>
      rw [hi] at ha; rw [hj] at hb
      simp only [Option.map_some, Option.some.injEq] at ha hb
      subst ha hb
      rw [bndS_t, bndS_t]
      exact bhd_rise l i j s r hij hi hj
/-- The error of the observations behind the bounce. -/
def behE (l : List SN) : Int := if chkE l ≠ 0 then chkE l else if (bhdL l).length < 2 then 1 else 0
theorem behE_len {l : List SN} (h : behE l = 0) : chkE l = 0 ∧ 2 ≤ (bhdL l).length := by
  unfold behE at h
  split at h
  · omega
  · split at h
    · omega
    · omega
/-- A line fits for three. -/
def three (a b c : BD) : Bool := decide (b.2.1 * (c.1 - a.1) ≤ a.2.2 * (c.1 - b.1) + c.2.2 * (b.1 - a.1)) && decide (a.2.1 * (c.1 - b.1) + c.2.1 * (b.1 - a.1) ≤ b.2.2 * (c.1 - a.1))
def threeAt (l : List BD) (i j k : Nat) : Bool := match l[i]?, l[j]?, l[k]? with
  | some a, some b, some c => three a b c
  | _, _, _ => true
theorem threeAt_some {l : List BD} {i j k : Nat} {a b c : BD} (ha : l[i]? = some a) (hb : l[j]? = some b) (hc : l[k]? = some c) : threeAt l i j k = three a b c := by
  unfold threeAt; rw [ha, hb, hc]
def fitsB (l : List BD) : Bool := (List.range l.length).all fun k => (List.range k).all fun j => (List.range j).all fun i => threeAt l i j k
theorem fitsB_iff {l : List BD} : fitsB l = true ↔ ∀ i j k, i < j → j < k → k < l.length → threeAt l i j k = true := by
  unfold fitsB
  simp only [List.all_eq_true, List.mem_range]
  exact ⟨fun h i j k hi hj hk => h k hk j hj i hi, fun h k hk j hj i hi => h i j k hi hj hk⟩
theorem fitsB_no {l : List BD} {i j k : Nat} (hi : i < j) (hj : j < k) (hk : k < l.length) (h : threeAt l i j k = false) : fitsB l = false := by
  cases hb : fitsB l with
  | false => rfl
  | true => rw [fitsB_iff.1 hb i j k hi hj hk] at h; cases h
/-- Lines: time, value, the steps of both. -/
abbrev LN := Int × Int × Int × Int
def loL (u v : BD) : LN := (u.1, u.2.2, v.1 - u.1, v.2.1 - u.2.2)
def upL (u v : BD) : LN := (u.1, u.2.1, v.1 - u.1, v.2.2 - u.2.1)
def flL (x : LN) (t : Int) : Int := x.2.1 + x.2.2.2 * (t - x.1) / x.2.2.1
def ceL (x : LN) (t : Int) : Int := x.2.1 + -(-(x.2.2.2 * (t - x.1)) / x.2.2.1)
def okN (x : LN) : Prop := (0 ≤ x.1 ∧ x.1 ≤ 4000) ∧ (-20000000000 ≤ x.2.1 ∧ x.2.1 ≤ 20000000000) ∧ (1 ≤ x.2.2.1 ∧ x.2.2.1 ≤ 4000) ∧ -40000000000 ≤ x.2.2.2 ∧ x.2.2.2 ≤ 40000000000
theorem loL_ok {u v : BD} (hu : okB u) (hv : okB v) (h : u.1 < v.1) : okN (loL u v) := by unfold okB at hu hv; unfold okN loL; dsimp only; omega
theorem upL_ok {u v : BD} (hu : okB u) (hv : okB v) (h : u.1 < v.1) : okN (upL u v) := by unfold okB at hu hv; unfold okN upL; dsimp only; omega
/-- The pairs of an earlier and a later one: by the later one first; by the earlier one first. -/
def prs (l : List BD) : Nat → List (BD × BD)
  | 0 => []
  | j + 1 => prs l j ++ match l[j]? with
    | some v => (l.take j).map fun u => (u, v)
    | none => []
def prsR (l : List BD) : Nat → List (BD × BD)
  | 0 => []
  | i + 1 => prsR l i ++ match l[i]? with
    | some u => (l.drop (i + 1)).map fun v => (u, v)
    | none => []
theorem prs_mem {l : List BD} {u v : BD} : ∀ n : Nat, n ≤ l.length → ((u, v) ∈ prs l n ↔ ∃ i j : Nat, i < j ∧ j < n ∧ l[i]? = some u ∧ l[j]? = some v)
  | 0, _ => by simp [prs]
  | n + 1, h => by
    obtain ⟨x, hx⟩ : ∃ x, l[n]? = some x := ⟨_, List.getElem?_eq_getElem (by omega)⟩
    simp only [prs, hx, List.mem_append, prs_mem (l := l) n (by omega), List.mem_map, Prod.mk.injEq]
    constructor
    · rintro (⟨i, j, h1, h2, h3, h4⟩ | ⟨y, hy, rfl, rfl⟩)
      · exact ⟨i, j, h1, by omega, h3, h4⟩
      · obtain ⟨i, hi, rfl⟩ := List.getElem_of_mem hy
        have hi' : i < n := by rw [List.length_take] at hi; omega
        exact ⟨i, n, hi', by omega, by rw [List.getElem_take]; exact List.getElem?_eq_getElem (by omega), hx⟩
    · rintro ⟨i, j, h1, h2, h3, h4⟩
      rcases Nat.lt_or_eq_of_le (Nat.le_of_lt_succ h2) with h5 | rfl
      · exact .inl ⟨i, j, h1, h5, h3, h4⟩
      · refine .inr ⟨u, ?_, rfl, ?_⟩
        · exact List.mem_of_getElem? (by rw [List.getElem?_take, if_pos h1]; exact h3)
        · rw [hx] at h4; exact Option.some.inj h4
theorem prsR_mem {l : List BD} {u v : BD} : ∀ n : Nat, n ≤ l.length → ((u, v) ∈ prsR l n ↔ ∃ i j : Nat, i < n ∧ i < j ∧ l[i]? = some u ∧ l[j]? = some v)
  | 0, _ => by simp [prsR]
  | n + 1, h => by
    obtain ⟨x, hx⟩ : ∃ x, l[n]? = some x := ⟨_, List.getElem?_eq_getElem (by omega)⟩
    simp only [prsR, hx, List.mem_append, prsR_mem (l := l) n (by omega), List.mem_map, Prod.mk.injEq]
    constructor
    · rintro (⟨i, j, h1, h2, h3, h4⟩ | ⟨y, hy, rfl, rfl⟩)
      · exact ⟨i, j, by omega, h2, h3, h4⟩
      · obtain ⟨j, hj, rfl⟩ := List.getElem_of_mem hy
        have hj' : n + 1 + j < l.length := by rw [List.length_drop] at hj; omega
        exact ⟨n, n + 1 + j, by omega, by omega, hx, by rw [List.getElem_drop]; exact List.getElem?_eq_getElem hj'⟩
    · rintro ⟨i, j, h1, h2, h3, h4⟩
      rcases Nat.lt_or_eq_of_le (Nat.le_of_lt_succ h1) with h5 | rfl
      · exact .inl ⟨i, j, h5, h2, h3, h4⟩
      · refine .inr ⟨v, ?_, ?_, rfl⟩
        · exact List.mem_of_getElem? (i := j - (i + 1)) (by rw [List.getElem?_drop]; rw [show i + 1 + (j - (i + 1)) = j by omega]; exact h4)
        · rw [hx] at h3; exact Option.some.inj h3
theorem prs_same {l : List BD} (p : BD × BD) : p ∈ prs l l.length ↔ p ∈ prsR l l.length := by
  obtain ⟨u, v⟩ := p
  rw [prs_mem _ (Nat.le_refl _), prsR_mem _ (Nat.le_refl _)]
  constructor
  · rintro ⟨i, j, h1, h2, h3, h4⟩; exact ⟨i, j, by omega, h1, h3, h4⟩
  · rintro ⟨i, j, h1, h2, h3, h4⟩; exact ⟨i, j, h2, (List.getElem?_eq_some_iff.1 h4).1, h3, h4⟩
/-- The greatest and the least of a list. -/
def mxl : List Int → Int
  | [] => 0
  | x :: l => l.foldl max x
def mnl : List Int → Int
  | [] => 0
  | x :: l => l.foldl min x
theorem foldmax_spec : ∀ (l : List Int) (x : Int), x ≤ l.foldl max x ∧ (∀ y ∈ l, y ≤ l.foldl max x) ∧ (l.foldl max x = x ∨ l.foldl max x ∈ l)
  | [], x => by simp
  | y :: l, x => by
    obtain ⟨h1, h2, h3⟩ := foldmax_spec l (max x y)
    simp only [List.foldl_cons, List.mem_cons, forall_eq_or_imp]
    refine ⟨by omega, ⟨by omega, h2⟩, ?_⟩
    rcases h3 with h3 | h3
    · rcases Int.le_total x y with h | h
      · right; left; omega
      · left; omega
    · exact .inr (.inr h3)
theorem foldmin_spec : ∀ (l : List Int) (x : Int), l.foldl min x ≤ x ∧ (∀ y ∈ l, l.foldl min x ≤ y) ∧ (l.foldl min x = x ∨ l.foldl min x ∈ l)
  | [], x => by simp
  | y :: l, x => by
    obtain ⟨h1, h2, h3⟩ := foldmin_spec l (min x y)
    simp only [List.foldl_cons, List.mem_cons, forall_eq_or_imp]
    refine ⟨by omega, ⟨by omega, h2⟩, ?_⟩
    rcases h3 with h3 | h3
    · rcases Int.le_total x y with h | h
      · left; omega
      · right; left; omega
    · exact .inr (.inr h3)
theorem mxl_spec {l : List Int} (h : l ≠ []) : mxl l ∈ l ∧ ∀ y ∈ l, y ≤ mxl l := by
  cases l with
  | nil => exact absurd rfl h
  | cons x l =>
    obtain ⟨h1, h2, h3⟩ := foldmax_spec l x
    simp only [mxl, List.mem_cons, forall_eq_or_imp]
    exact ⟨h3, h1, h2⟩
theorem mnl_spec {l : List Int} (h : l ≠ []) : mnl l ∈ l ∧ ∀ y ∈ l, mnl l ≤ y := by
  cases l with
  | nil => exact absurd rfl h
  | cons x l =>
    obtain ⟨h1, h2, h3⟩ := foldmin_spec l x
    simp only [mnl, List.mem_cons, forall_eq_or_imp]
    exact ⟨h3, h1, h2⟩
theorem ne_nil_same {l m : List Int} (h : ∀ x, x ∈ l ↔ x ∈ m) : l = [] ↔ m = [] := by
  constructor
  · rintro rfl
    exact List.eq_nil_iff_forall_not_mem.2 fun x hx => by have := (h x).2 hx; simp at this
  · rintro rfl
    exact List.eq_nil_iff_forall_not_mem.2 fun x hx => by have := (h x).1 hx; simp at this
theorem mxl_congr {l m : List Int} (h : ∀ x, x ∈ l ↔ x ∈ m) : mxl l = mxl m := by
  by_cases hl : l = []
  · have hm := (ne_nil_same h).1 hl
    rw [hl, hm]
  · have hm : m ≠ [] := fun e => hl ((ne_nil_same h).2 e)
    obtain ⟨a1, a2⟩ := mxl_spec hl
    obtain ⟨b1, b2⟩ := mxl_spec hm
    have := a2 _ ((h _).2 b1)
    have := b2 _ ((h _).1 a1)
    omega
theorem mnl_congr {l m : List Int} (h : ∀ x, x ∈ l ↔ x ∈ m) : mnl l = mnl m := by
  by_cases hl : l = []
  · have hm := (ne_nil_same h).1 hl
    rw [hl, hm]
  · have hm : m ≠ [] := fun e => hl ((ne_nil_same h).2 e)
    obtain ⟨a1, a2⟩ := mnl_spec hl
    obtain ⟨b1, b2⟩ := mnl_spec hm
    have := a2 _ ((h _).2 b1)
    have := b2 _ ((h _).1 a1)
    omega
/-- What lower and upper lines give from one time to another one. -/
def loP (a b : Int) (x : LN) : Int := min (flL x a) (flL x b)
def hiP (a b : Int) (x : LN) : Int := max (ceL x a) (ceL x b)
def lows (l : List BD) : List LN := (prs l l.length).map fun p => loL p.1 p.2
def upps (l : List BD) : List LN := (prs l l.length).map fun p => upL p.1 p.2
def loR (l : List BD) (a b : Int) : Int := mxl ((lows l).map (loP a b))
def hiR (l : List BD) (a b : Int) : Int := mnl ((upps l).map (hiP a b))
theorem map_same {l : List BD} (f : BD × BD → Int) (x : Int) : x ∈ (prs l l.length).map f ↔ x ∈ (prsR l l.length).map f := by
  simp only [List.mem_map]
  constructor
  · rintro ⟨p, hp, rfl⟩; exact ⟨p, (prs_same p).1 hp, rfl⟩
  · rintro ⟨p, hp, rfl⟩; exact ⟨p, (prs_same p).2 hp, rfl⟩
theorem loR_ref (l : List BD) (a b : Int) : loR l a b = mxl ((prsR l l.length).map fun p => loP a b (loL p.1 p.2)) := by
  unfold loR lows
  rw [List.map_map]
  exact mxl_congr fun x => map_same (fun p => loP a b (loL p.1 p.2)) x
theorem hiR_ref (l : List BD) (a b : Int) : hiR l a b = mnl ((prsR l l.length).map fun p => hiP a b (upL p.1 p.2)) := by
  unfold hiR upps
  rw [List.map_map]
  exact mnl_congr fun x => map_same (fun p => hiP a b (upL p.1 p.2)) x
theorem prs_ne {l : List BD} (h : 2 ≤ l.length) : prs l l.length ≠ [] := by
  intro e
  obtain ⟨u, hu⟩ : ∃ u, l[0]? = some u := ⟨_, List.getElem?_eq_getElem (by omega)⟩
  obtain ⟨v, hv⟩ : ∃ v, l[1]? = some v := ⟨_, List.getElem?_eq_getElem (by omega)⟩
  have : (u, v) ∈ prs l l.length := (prs_mem _ (Nat.le_refl _)).2 ⟨0, 1, by omega, by omega, hu, hv⟩
  rw [e] at this; simp at this
theorem lows_mem {l : List BD} {x : LN} : x ∈ lows l ↔ ∃ (i j : Nat) (u v : BD), i < j ∧ l[i]? = some u ∧ l[j]? = some v ∧ x = loL u v := by
  unfold lows
  simp only [List.mem_map]
  constructor
  · rintro ⟨⟨u, v⟩, h, rfl⟩
    obtain ⟨i, j, h1, _, h3, h4⟩ := (prs_mem _ (Nat.le_refl _)).1 h
    exact ⟨i, j, u, v, h1, h3, h4, rfl⟩
  · rintro ⟨i, j, u, v, h1, h3, h4, rfl⟩
    exact ⟨(u, v), (prs_mem _ (Nat.le_refl _)).2 ⟨i, j, h1, (List.getElem?_eq_some_iff.1 h4).1, h3, h4⟩, rfl⟩
theorem upps_mem {l : List BD} {x : LN} : x ∈ upps l ↔ ∃ (i j : Nat) (u v : BD), i < j ∧ l[i]? = some u ∧ l[j]? = some v ∧ x = upL u v := by
  unfold upps
  simp only [List.mem_map]
  constructor
  · rintro ⟨⟨u, v⟩, h, rfl⟩
    obtain ⟨i, j, h1, _, h3, h4⟩ := (prs_mem _ (Nat.le_refl _)).1 h
    exact ⟨i, j, u, v, h1, h3, h4, rfl⟩
  · rintro ⟨i, j, u, v, h1, h3, h4, rfl⟩
    exact ⟨(u, v), (prs_mem _ (Nat.le_refl _)).2 ⟨i, j, h1, (List.getElem?_eq_some_iff.1 h4).1, h3, h4⟩, rfl⟩
theorem lows_ok {l : List BD} (h : ∀ b ∈ l, okB b) (r : RisingB l) : ∀ x ∈ lows l, okN x := by
  intro x hx
  obtain ⟨i, j, u, v, hij, hu, hv, rfl⟩ := lows_mem.1 hx
  exact loL_ok (h u (List.mem_of_getElem? hu)) (h v (List.mem_of_getElem? hv)) (r i j u v hij hu hv)
theorem upps_ok {l : List BD} (h : ∀ b ∈ l, okB b) (r : RisingB l) : ∀ x ∈ upps l, okN x := by
  intro x hx
  obtain ⟨i, j, u, v, hij, hu, hv, rfl⟩ := upps_mem.1 hx
  exact upL_ok (h u (List.mem_of_getElem? hu)) (h v (List.mem_of_getElem? hv)) (r i j u v hij hu hv)
theorem lows_len (l : List BD) : (lows l).length = (upps l).length := by simp [lows, upps]
/-- Sizes. -/
theorem num_bd {x : LN} (h : okN x) {t : Int} (h1 : -10 ≤ t) (h2 : t ≤ 5000) : -(200400000000000) ≤ x.2.2.2 * (t - x.1) ∧ x.2.2.2 * (t - x.1) ≤ 200400000000000 := by
  obtain ⟨⟨a1, a2⟩, _, _, d1, d2⟩ := h
  exact mul_bd (A := 40000000000) (B := 5010) d1 d2 (by omega) (by omega)
theorem ediv_small {n d A : Int} (hd : 1 ≤ d) (h1 : -A ≤ n) (h2 : n ≤ A) (hA : 0 ≤ A) : -A ≤ n / d ∧ n / d ≤ A := by
  constructor
  · refine Int.le_ediv_of_mul_le (by omega) ?_
    have := Int.mul_le_mul_of_nonneg_left hd hA
    have e : -A * d = -(A * d) := Int.neg_mul _ _
    rw [e]; omega
  · have : n / d ≤ A / 1 := by
      rcases Int.le_total 0 n with h | h
      · rw [Int.ediv_one]; exact Int.le_trans (Int.ediv_le_self _ h) h2
      · rw [Int.ediv_one]
        have : n / d ≤ 0 := by
          have := Int.ediv_le_ediv (show 0 < d by omega) h
          rwa [Int.zero_ediv] at this
        omega
    rwa [Int.ediv_one] at this
theorem flL_bd {x : LN} (h : okN x) {t : Int} (h1 : -10 ≤ t) (h2 : t ≤ 5000) : -300000000000000 ≤ flL x t ∧ flL x t ≤ 300000000000000 := by
  have hn := num_bd h h1 h2
  have hq := ediv_small (A := 200400000000000) h.2.2.1.1 hn.1 hn.2 (by omega)
  have := h.2.1
  unfold flL; omega
theorem ceL_bd {x : LN} (h : okN x) {t : Int} (h1 : -10 ≤ t) (h2 : t ≤ 5000) : -300000000000000 ≤ ceL x t ∧ ceL x t ≤ 300000000000000 := by
  have hn := num_bd h h1 h2
  have hq := ediv_small (n := -(x.2.2.2 * (t - x.1))) (A := 200400000000000) h.2.2.1.1 (by omega) (by omega) (by omega)
  have := h.2.1
  unfold ceL; omega
/-- The reference's way to the same values. -/
theorem thr_eq (a b t ta tb : Int) : a * (tb - t) + b * (t - ta) = (b - a) * (t - ta) + a * (tb - ta) := by grind
theorem thr_floor {u v : Int × Int} (t : Int) (h : u.1 < v.1) : (u.2 * (v.1 - t) + v.2 * (t - u.1)) / (v.1 - u.1) = flL (u.1, u.2, v.1 - u.1, v.2 - u.2) t := by
  unfold flL
  rw [thr_eq, Int.add_mul_ediv_right _ _ (by omega)]
  dsimp only; omega
theorem thr_ceil {u v : Int × Int} (t : Int) (h : u.1 < v.1) : -(-(u.2 * (v.1 - t) + v.2 * (t - u.1)) / (v.1 - u.1)) = ceL (u.1, u.2, v.1 - u.1, v.2 - u.2) t := by
  unfold ceL
  rw [thr_eq, Int.neg_add, ← Int.neg_mul, ← Int.neg_mul, Int.add_mul_ediv_right _ _ (by omega)]
  dsimp only
  rw [Int.neg_add, Int.neg_neg, Int.neg_mul]
  omega
end Go.Proofs.Ytmdledlbkdcmnaa

/-
  Helly for lines between bounds: behind the last bounds no lower line is above an upper one; the least upper line fits.
  Conditions: none.
-/
namespace Go.Proofs.Ytmdledlbkdcmnaa.PathLaw
/-- The bounds of an observation on an axis. -/
structure Bd where
  t : Int
  lo : Int
  hi : Int
  deriving DecidableEq

theorem mul_mono {a b c : Int} (h : a ≤ b) (hc : 0 ≤ c) : c * a ≤ c * b := Int.mul_le_mul_of_nonneg_left h hc

theorem caseA {ak al ai aj kh ll jh il : Int} (h0 : 0 ≤ aj) (hj : aj ≤ al) (hl : al < ak) (hi : aj < ai)
    (h1 : ll * (ak - aj) ≤ kh * (al - aj) + jh * (ak - al)) (h2 : il * (ak - aj) ≤ kh * (ai - aj) + jh * (ak - ai)) :
    (ll * ak - kh * al) * (ai - aj) ≤ (jh * ai - il * aj) * (ak - al) := by
  have p1 : (ak - al) * (ai - aj) * (jh * ak - kh * aj) ≤ (jh * ai - il * aj) * (ak - al) * (ak - aj) := by
    have := mul_mono h2 (c := aj * (ak - al)) (Int.mul_nonneg h0 (by omega))
    grind
  have p2 : (ll * ak - kh * al) * (ai - aj) * (ak - aj) ≤ (ak - al) * (ai - aj) * (jh * ak - kh * aj) := by
    have := mul_mono h1 (c := ak * (ai - aj)) (Int.mul_nonneg (by omega) (by omega))
    grind
  exact Int.le_of_mul_le_mul_right (Int.le_trans p2 p1) (by omega)

theorem caseB {ak al ai aj kh ll jh il : Int} (h0 : 0 ≤ al) (hl : al < ak) (hi : aj < ai) (hj : al ≤ aj)
    (h1 : il * (ak - al) + ll * (ai - ak) ≤ kh * (ai - al)) (h2 : il * (aj - al) + ll * (ai - aj) ≤ jh * (ai - al)) :
    (ll * ak - kh * al) * (ai - aj) ≤ (jh * ai - il * aj) * (ak - al) := by
  have p1 : (ak - al) * (ai - aj) * (ll * ai - il * al) ≤ (jh * ai - il * aj) * (ak - al) * (ai - al) := by
    have := mul_mono h2 (c := ai * (ak - al)) (Int.mul_nonneg (by omega) (by omega))
    grind
  have p2 : (ll * ak - kh * al) * (ai - aj) * (ai - al) ≤ (ak - al) * (ai - aj) * (ll * ai - il * al) := by
    have := mul_mono h1 (c := al * (ai - aj)) (Int.mul_nonneg (by omega) (by omega))
    grind
  exact Int.le_of_mul_le_mul_right (Int.le_trans p2 p1) (by omega)

theorem caseC {ak al ai aj kh ll jh il : Int} (h0 : 0 ≤ al) (hl : al < ak)
    (h1 : il * (ak - aj) ≤ kh * (ai - aj) + jh * (ak - ai)) (h2 : il * (aj - al) + ll * (ai - aj) ≤ jh * (ai - al)) :
    (ll * ak - kh * al) * (ai - aj) ≤ (jh * ai - il * aj) * (ak - al) := by
  have q1 := mul_mono h1 h0
  have q2 := mul_mono h2 (c := ak) (by omega)
  grind

theorem caseD {ak al ai aj kh ll jh il : Int} (h0 : 0 ≤ aj) (hi : aj < ai)
    (h1 : il * (ak - al) + ll * (ai - ak) ≤ kh * (ai - al)) (h2 : ll * (ak - aj) ≤ kh * (al - aj) + jh * (ak - al)) :
    (ll * ak - kh * al) * (ai - aj) ≤ (jh * ai - il * aj) * (ak - al) := by
  have q1 := mul_mono h1 h0
  have q2 := mul_mono h2 (c := ai) (by omega)
  grind

/-- A line fits for three observations. -/
def three (a b c : Bd) : Prop := b.lo * (c.t - a.t) ≤ a.hi * (c.t - b.t) + c.hi * (b.t - a.t) ∧ a.lo * (c.t - b.t) + c.lo * (b.t - a.t) ≤ b.hi * (c.t - a.t)

theorem three_left {a c : Bd} (h : a.lo ≤ a.hi) (ht : a.t ≤ c.t) : three a a c := by
  have := mul_mono h (c := c.t - a.t) (by omega)
  constructor <;> grind
theorem three_right {a c : Bd} (h : c.lo ≤ c.hi) (ht : a.t ≤ c.t) : three a c c := by
  have := mul_mono h (c := c.t - a.t) (by omega)
  constructor <;> grind

/-- Every three of the observations can be met by one line. -/
def Triples (n : Nat) (f : Nat → Bd) : Prop := ∀ i j k, i < j → j < k → k < n → three (f i) (f j) (f k)
/-- The times rise, and no bounds are crossed. -/
def Rising (n : Nat) (f : Nat → Bd) : Prop := (∀ i j, i < j → j < n → (f i).t < (f j).t) ∧ ∀ i, i < n → (f i).lo ≤ (f i).hi

theorem Triples.weak {n : Nat} {f : Nat → Bd} (h : Triples n f) (r : Rising n f) {i j k : Nat} (hij : i ≤ j) (hjk : j ≤ k) (hk : k < n) : three (f i) (f j) (f k) := by
  rcases Nat.lt_or_eq_of_le hij with h1 | rfl
  · rcases Nat.lt_or_eq_of_le hjk with h2 | rfl
    · exact h i j k h1 h2 hk
    · exact three_right (r.2 _ hk) (Int.le_of_lt (r.1 _ _ h1 hk))
  · rcases Nat.lt_or_eq_of_le hjk with h2 | rfl
    · exact three_left (r.2 _ (by omega)) (Int.le_of_lt (r.1 _ _ h2 hk))
    · exact three_left (r.2 _ hk) (Int.le_refl _)

/-- HELLY: behind the last observation no lower line is above an upper one. -/
theorem helly {n : Nat} {f : Nat → Bd} (h : Triples n f) (r : Rising n f) {T : Int} (hT : ∀ i, i < n → (f i).t ≤ T) {k l i j : Nat} (hkl : k < l) (hl : l < n) (hij : i < j) (hj : j < n) :
    ((f l).lo * (T - (f k).t) - (f k).hi * (T - (f l).t)) * ((f j).t - (f i).t) ≤ ((f j).hi * (T - (f i).t) - (f i).lo * (T - (f j).t)) * ((f l).t - (f k).t) := by
  have tkl := r.1 _ _ hkl hl
  have tij := r.1 _ _ hij hj
  have hTl := hT l hl
  have hTj := hT j hj
  have e1 : ((f j).t - (f i).t) = (T - (f i).t) - (T - (f j).t) := by omega
  have e2 : ((f l).t - (f k).t) = (T - (f k).t) - (T - (f l).t) := by omega
  rw [e1, e2]
  rcases Nat.le_total k i with h1 | h1 <;> rcases Nat.le_total l j with h2 | h2
  · have a := (h.weak r (Nat.le_of_lt hkl) h2 hj).1
    have b := (h.weak r h1 (Nat.le_of_lt hij) hj).1
    have tlj : (f l).t ≤ (f j).t := by
      rcases Nat.lt_or_eq_of_le h2 with e | rfl
      · exact Int.le_of_lt (r.1 _ _ e hj)
      · exact Int.le_refl _
    refine caseA (by omega) (by omega) (by omega) (by omega) ?_ ?_
    · grind
    · grind
  · have a := (h.weak r h1 (Nat.le_of_lt hij) hj).1
    have b := (h.weak r (Nat.le_of_lt hij) h2 hl).2
    refine caseC (by omega) (by omega) ?_ ?_
    · grind
    · grind
  · have a := (h.weak r h1 (Nat.le_of_lt hkl) hl).2
    have b := (h.weak r (Nat.le_of_lt hkl) h2 hj).1
    refine caseD (by omega) (by omega) ?_ ?_
    · grind
    · grind
  · have a := (h.weak r h1 (Nat.le_of_lt hkl) hl).2
    have b := (h.weak r (Nat.le_of_lt hij) h2 hl).2
    have tlj : (f j).t ≤ (f l).t := by
      rcases Nat.lt_or_eq_of_le h2 with e | rfl
      · exact Int.le_of_lt (r.1 _ _ e hl)
      · exact Int.le_refl _
    refine caseB (by omega) (by omega) (by omega) (by omega) ?_ ?_
    · grind
    · grind

/-- Of a list of pairs there is one with the least ratio. -/
theorem least_ratio {α : Type} (num den : α → Int) : ∀ (l : List α), l ≠ [] → (∀ p ∈ l, 0 < den p) → ∃ p ∈ l, ∀ q ∈ l, num p * den q ≤ num q * den p := by
  intro l
  induction l with
  | nil => intro h; exact absurd rfl h
  | cons a l ih =>
    intro _ hd
    by_cases hl : l = []
    · subst hl
      exact ⟨a, by simp, fun q hq => by simp at hq; subst hq; exact Int.le_refl _⟩
    · obtain ⟨p, hp, hm⟩ := ih hl fun q hq => hd q (by simp [hq])
      have da := hd a (by simp)
      have dp := hd p (by simp [hp])
      by_cases hc : num a * den p ≤ num p * den a
      · refine ⟨a, by simp, fun q hq => ?_⟩
        rcases List.mem_cons.1 hq with rfl | hq
        · exact Int.le_refl _
        · have dq := hd q (by simp [hq])
          have h1 := mul_mono hc (c := den q) (Int.le_of_lt dq)
          have h2 := mul_mono (hm q hq) (c := den a) (Int.le_of_lt da)
          have h3 : (num a * den q) * den p ≤ (num q * den a) * den p := by grind
          exact Int.le_of_mul_le_mul_right h3 dp
      · refine ⟨p, by simp [hp], fun q hq => ?_⟩
        rcases List.mem_cons.1 hq with rfl | hq
        · omega
        · exact hm q hq

/-- The value at T of the upper line of a pair, times the pair's distance; of the lower one. -/
def up (f : Nat → Bd) (T : Int) (i j : Nat) : Int := (f j).hi * (T - (f i).t) - (f i).lo * (T - (f j).t)
def low (f : Nat → Bd) (T : Int) (i j : Nat) : Int := (f j).lo * (T - (f i).t) - (f i).hi * (T - (f j).t)
def dist (f : Nat → Bd) (i j : Nat) : Int := (f j).t - (f i).t

theorem cancel_pos {a b c : Int} (hc : 0 < c) (h : c * a ≤ c * b) : a ≤ b := Int.le_of_mul_le_mul_left h hc

/-- The upper line that is least at T fits everywhere. -/
theorem least_fits {n : Nat} {f : Nat → Bd} (h : Triples n f) (r : Rising n f) {T : Int} (hT : ∀ i, i < n → (f i).t < T) {i j : Nat} (hij : i < j) (hj : j < n)
    (hmin : ∀ k l, k < l → l < n → up f T i j * dist f k l ≤ up f T k l * dist f i j) {m : Nat} (hm : m < n) :
    (f m).lo * dist f i j ≤ (f i).lo * ((f j).t - (f m).t) + (f j).hi * ((f m).t - (f i).t) ∧ (f i).lo * ((f j).t - (f m).t) + (f j).hi * ((f m).t - (f i).t) ≤ (f m).hi * dist f i j := by
  have hi : i < n := by omega
  have ai := hT i hi
  have aj := hT j hj
  have am := hT m hm
  have tij := r.1 _ _ hij hj
  unfold up dist at *
  have hh : ∀ k l, k < l → l < n → _ := fun k l h1 h2 => helly h r (T := T) (fun i hi => Int.le_of_lt (hT i hi)) h1 h2 hij hj
  constructor
  · rcases Nat.lt_trichotomy m j with e | e | e
    · have a := hmin m j e hj
      refine cancel_pos (c := T - (f j).t) (by omega) ?_
      grind
    · subst e
      have b := mul_mono (r.2 _ hj) (c := (f m).t - (f i).t) (by omega)
      grind
    · have a := hh j m e hm
      refine cancel_pos (c := T - (f j).t) (by omega) ?_
      grind
  · rcases Nat.lt_trichotomy i m with e | e | e
    · have a := hmin i m e hm
      refine cancel_pos (c := T - (f i).t) (by omega) ?_
      grind
    · subst e
      have b := mul_mono (r.2 _ hi) (c := (f j).t - (f i).t) (by omega)
      grind
    · have a := hh m i e hi
      refine cancel_pos (c := T - (f i).t) (by omega) ?_
      grind
end Go.Proofs.Ytmdledlbkdcmnaa.PathLaw

/-
  Laws of enclosures in plain Lean: what fits lies within, the ends are attained, no lower line lies above an upper one.
  Conditions: none.
-/
namespace Go.Proofs.Ytmdledlbkdcmnaa
open Go.RowKit
/-- The value at a time of the line through two points, times the distance of their times. -/
def valN (a b : Int × Int) (t : Int) : Int := a.2 * (b.1 - t) + b.2 * (t - a.1)
theorem val_mid (a b : Int × Int) (u t w : Int) : valN a b t * (w - u) = valN a b u * (w - t) + valN a b w * (t - u) := by unfold valN; grind
def fitO (a b : Int × Int) (o : BD) : Bool := decide (o.2.1 * (b.1 - a.1) ≤ valN a b o.1) && decide (valN a b o.1 ≤ o.2.2 * (b.1 - a.1))
def fitL (l : List BD) (a b : Int × Int) : Bool := l.all (fitO a b)
theorem fitO_iff {a b : Int × Int} {o : BD} : fitO a b o = true ↔ o.2.1 * (b.1 - a.1) ≤ valN a b o.1 ∧ valN a b o.1 ≤ o.2.2 * (b.1 - a.1) := by
  unfold fitO; simp only [Bool.and_eq_true, decide_eq_true_eq]
theorem fitL_mem {l : List BD} {a b : Int × Int} (h : fitL l a b = true) {o : BD} (ho : o ∈ l) : o.2.1 * (b.1 - a.1) ≤ valN a b o.1 ∧ valN a b o.1 ≤ o.2.2 * (b.1 - a.1) :=
  fitO_iff.1 (List.all_eq_true.1 h o ho)
theorem mulL {a b c : Int} (h : a ≤ b) (hc : 0 ≤ c) : c * a ≤ c * b := Int.mul_le_mul_of_nonneg_left h hc
/-- If a line fits, each three fit. -/
theorem fits_three {a b : Int × Int} {u v w : BD} (hd : a.1 < b.1) (hu : fitO a b u = true) (hv : fitO a b v = true) (hw : fitO a b w = true) (h1 : u.1 ≤ v.1) (h2 : v.1 ≤ w.1) : three u v w = true := by
  rw [fitO_iff] at hu hv hw
  have e := val_mid a b u.1 v.1 w.1
  unfold three
  simp only [Bool.and_eq_true, decide_eq_true_eq]
  generalize valN a b u.1 = x at *
  generalize valN a b v.1 = y at *
  generalize valN a b w.1 = z at *
  obtain ⟨D, hD⟩ : ∃ D, b.1 - a.1 = D := ⟨_, rfl⟩
  rw [hD] at hu hv hw
  have a1 := mulL hu.1 (c := w.1 - v.1) (by omega)
  have a2 := mulL hu.2 (c := w.1 - v.1) (by omega)
  have b1 := mulL hv.1 (c := w.1 - u.1) (by omega)
  have b2 := mulL hv.2 (c := w.1 - u.1) (by omega)
  have c1 := mulL hw.1 (c := v.1 - u.1) (by omega)
  have c2 := mulL hw.2 (c := v.1 - u.1) (by omega)
  constructor
  · refine Int.le_of_mul_le_mul_left (a := D) ?_ (by omega)
    grind
  · refine Int.le_of_mul_le_mul_left (a := D) ?_ (by omega)
    grind
theorem fitsB_of_line {l : List BD} {a b : Int × Int} (r : RisingB l) (hd : a.1 < b.1) (h : fitL l a b = true) : fitsB l = true := by
  rw [fitsB_iff]
  intro i j k hij hjk hk
  obtain ⟨u, hu⟩ : ∃ u, l[i]? = some u := ⟨_, List.getElem?_eq_getElem (by omega)⟩
  obtain ⟨v, hv⟩ : ∃ v, l[j]? = some v := ⟨_, List.getElem?_eq_getElem (by omega)⟩
  obtain ⟨w, hw⟩ : ∃ w, l[k]? = some w := ⟨_, List.getElem?_eq_getElem (by omega)⟩
  rw [threeAt_some hu hv hw]
  have H := List.all_eq_true.1 h
  exact fits_three hd (H u (List.mem_of_getElem? hu)) (H v (List.mem_of_getElem? hv)) (H w (List.mem_of_getElem? hw)) (Int.le_of_lt (r i j u v hij hu hv)) (Int.le_of_lt (r j k v w hjk hv hw))
/-- Floors and ceilings. -/
theorem fl_le {x : LN} (h : 1 ≤ x.2.2.1) (t : Int) : flL x t * x.2.2.1 ≤ x.2.1 * x.2.2.1 + x.2.2.2 * (t - x.1) := by
  have := Int.ediv_mul_le (x.2.2.2 * (t - x.1)) (show x.2.2.1 ≠ 0 by omega)
  unfold flL
  rw [Int.add_mul]; omega
theorem fl_gt {x : LN} (h : 1 ≤ x.2.2.1) (t : Int) : x.2.1 * x.2.2.1 + x.2.2.2 * (t - x.1) < (flL x t + 1) * x.2.2.1 := by
  have := Int.lt_ediv_add_one_mul_self (x.2.2.2 * (t - x.1)) (show 0 < x.2.2.1 by omega)
  unfold flL
  have e : (x.2.1 + x.2.2.2 * (t - x.1) / x.2.2.1 + 1) * x.2.2.1 = x.2.1 * x.2.2.1 + (x.2.2.2 * (t - x.1) / x.2.2.1 + 1) * x.2.2.1 := by grind
  rw [e]; omega
theorem ce_ge {x : LN} (h : 1 ≤ x.2.2.1) (t : Int) : x.2.1 * x.2.2.1 + x.2.2.2 * (t - x.1) ≤ ceL x t * x.2.2.1 := by
  have := Int.ediv_mul_le (-(x.2.2.2 * (t - x.1))) (show x.2.2.1 ≠ 0 by omega)
  unfold ceL
  rw [Int.add_mul, Int.neg_mul]; omega
theorem ce_lt {x : LN} (h : 1 ≤ x.2.2.1) (t : Int) : (ceL x t - 1) * x.2.2.1 < x.2.1 * x.2.2.1 + x.2.2.2 * (t - x.1) := by
  have := Int.lt_ediv_add_one_mul_self (-(x.2.2.2 * (t - x.1))) (show 0 < x.2.2.1 by omega)
  unfold ceL
  have e : (x.2.1 + -(-(x.2.2.2 * (t - x.1)) / x.2.2.1) - 1) * x.2.2.1 = x.2.1 * x.2.2.1 - (-(x.2.2.2 * (t - x.1)) / x.2.2.1 + 1) * x.2.2.1 := by grind
  rw [e]; omega
theorem loL_val (u v : BD) (t : Int) : (loL u v).2.1 * (loL u v).2.2.1 + (loL u v).2.2.2 * (t - (loL u v).1) = valN (u.1, u.2.2) (v.1, v.2.1) t := by
  unfold loL valN; dsimp only; grind
theorem upL_val (u v : BD) (t : Int) : (upL u v).2.1 * (upL u v).2.2.1 + (upL u v).2.2.2 * (t - (upL u v).1) = valN (u.1, u.2.1) (v.1, v.2.2) t := by
  unfold upL valN; dsimp only; grind
/-- A line that fits lies above each lower line and (by repeat (first | with_reducible exact Below.refl _ _ | with_reducible assumption | with_reducible refine Below.drew ?_ | with_reducible refine Below.setCell ?_ (by first | omega | (simp; omega) | simp) _ | with_reducible refine Below.alloc ?_ (by first | omega | (simp; omega) | simp) _ | with_reducible refine Below.trans ?_ (Below.mono (by with_reducible assumption) (by first | omega | (simp; omega) | simp)))) each upper one behind both. -/
theorem low_under {a b : Int × Int} {u v : BD} {t : Int} (hd : a.1 < b.1) (hu : fitO a b u = true) (hv : fitO a b v = true) (h1 : u.1 < v.1) (h2 : v.1 ≤ t) : flL (loL u v) t * (b.1 - a.1) ≤ valN a b t := by
  rw [fitO_iff] at hu hv
  have e := val_mid a b u.1 v.1 t
  have f := fl_le (x := loL u v) (by unfold loL; dsimp only; omega) t
  rw [loL_val] at f
  have hw : (loL u v).2.2.1 = v.1 - u.1 := rfl
  rw [hw] at f
  generalize flL (loL u v) t = q at *
  unfold valN at f
  dsimp only at f
  generalize valN a b u.1 = x at *
  generalize valN a b v.1 = y at *
  generalize valN a b t = z at *
  obtain ⟨D, hD⟩ : ∃ D, b.1 - a.1 = D := ⟨_, rfl⟩
  rw [hD] at hu hv ⊢
  refine Int.le_of_mul_le_mul_left (a := v.1 - u.1) ?_ (by omega)
  have a1 := mulL hu.2 (c := t - v.1) (by omega)
  have b1 := mulL hv.1 (c := t - u.1) (by omega)
  have c1 := mulL f (c := D) (by omega)
  grind
theorem up_over {a b : Int × Int} {u v : BD} {t : Int} (hd : a.1 < b.1) (hu : fitO a b u = true) (hv : fitO a b v = true) (h1 : u.1 < v.1) (h2 : v.1 ≤ t) : valN a b t ≤ ceL (upL u v) t * (b.1 - a.1) := by
  rw [fitO_iff] at hu hv
  have e := val_mid a b u.1 v.1 t
  have f := ce_ge (x := upL u v) (by unfold upL; dsimp only; omega) t
  rw [upL_val] at f
  have hw : (upL u v).2.2.1 = v.1 - u.1 := rfl
  rw [hw] at f
  generalize ceL (upL u v) t = q at *
  unfold valN at f
  dsimp only at f
  generalize valN a b u.1 = x at *
  generalize valN a b v.1 = y at *
  generalize valN a b t = z at *
  obtain ⟨D, hD⟩ : ∃ D, b.1 - a.1 = D := ⟨_, rfl⟩
  rw [hD] at hu hv ⊢
  refine Int.le_of_mul_le_mul_left (a := v.1 - u.1) ?_ (by omega)
  have a1 := mulL hu.1 (c := t - v.1) (by omega)
  have b1 := mulL hv.2 (c := t - u.1) (by omega)
  have c1 := mulL f (c := D) (by omega)
  grind
/-- What is at or behind all times. -/
def Past (l : List BD) (t : Int) : Prop := ∀ b ∈ l, b.1 ≤ t
theorem lows_ne {l : List BD} (h : 2 ≤ l.length) (f : LN → Int) : (lows l).map f ≠ [] := by
  intro e
  have := prs_ne h
  apply this
  unfold lows at e
  simpa using e
theorem upps_ne {l : List BD} (h : 2 ≤ l.length) (f : LN → Int) : (upps l).map f ≠ [] := by
  intro e
  have := prs_ne h
  apply this
  unfold upps at e
  simpa using e
theorem loR_some {l : List BD} (h : 2 ≤ l.length) (s t : Int) : ∃ (i j : Nat) (u v : BD), i < j ∧ l[i]? = some u ∧ l[j]? = some v ∧ loR l s t = loP s t (loL u v) := by
  obtain ⟨h1, _⟩ := mxl_spec (lows_ne h (loP s t))
  obtain ⟨x, hx, e⟩ := List.mem_map.1 h1
  obtain ⟨i, j, u, v, hij, hu, hv, rfl⟩ := lows_mem.1 hx
  exact ⟨i, j, u, v, hij, hu, hv, e.symm⟩
theorem hiR_some {l : List BD} (h : 2 ≤ l.length) (s t : Int) : ∃ (i j : Nat) (u v : BD), i < j ∧ l[i]? = some u ∧ l[j]? = some v ∧ hiR l s t = hiP s t (upL u v) := by
  obtain ⟨h1, _⟩ := mnl_spec (upps_ne h (hiP s t))
  obtain ⟨x, hx, e⟩ := List.mem_map.1 h1
  obtain ⟨i, j, u, v, hij, hu, hv, rfl⟩ := upps_mem.1 hx
  exact ⟨i, j, u, v, hij, hu, hv, e.symm⟩
theorem loR_all {l : List BD} (s t : Int) {i j : Nat} {u v : BD} (hij : i < j) (hu : l[i]? = some u) (hv : l[j]? = some v) : loP s t (loL u v) ≤ loR l s t := by
  have hm : loP s t (loL u v) ∈ (lows l).map (loP s t) := List.mem_map.2 ⟨_, lows_mem.2 ⟨i, j, u, v, hij, hu, hv, rfl⟩, rfl⟩
  exact (mxl_spec (fun e => by rw [e] at hm; simp at hm)).2 _ hm
theorem hiR_all {l : List BD} (s t : Int) {i j : Nat} {u v : BD} (hij : i < j) (hu : l[i]? = some u) (hv : l[j]? = some v) : hiR l s t ≤ hiP s t (upL u v) := by
  have hm : hiP s t (upL u v) ∈ (upps l).map (hiP s t) := List.mem_map.2 ⟨_, upps_mem.2 ⟨i, j, u, v, hij, hu, hv, rfl⟩, rfl⟩
  exact (mnl_spec (fun e => by rw [e] at hm; simp at hm)).2 _ hm
theorem loP_same (t : Int) (x : LN) : loP t t x = flL x t := by unfold loP; omega
theorem hiP_same (t : Int) (x : LN) : hiP t t x = ceL x t := by unfold hiP; omega
/-- ENCLOSED: a line that fits lies within the range. -/
theorem enclosed {l : List BD} {a b : Int × Int} {t : Int} (r : RisingB l) (h2 : 2 ≤ l.length) (hp : Past l t) (hd : a.1 < b.1) (h : fitL l a b = true) : loR l t t * (b.1 - a.1) ≤ valN a b t ∧ valN a b t ≤ hiR l t t * (b.1 - a.1) := by
  have H := List.all_eq_true.1 h
  constructor
  · obtain ⟨i, j, u, v, hij, hu, hv, e⟩ := loR_some h2 t t
    rw [e, loP_same]
    exact low_under hd (H u (List.mem_of_getElem? hu)) (H v (List.mem_of_getElem? hv)) (r i j u v hij hu hv) (hp v (List.mem_of_getElem? hv))
  · obtain ⟨i, j, u, v, hij, hu, hv, e⟩ := hiR_some h2 t t
    rw [e, hiP_same]
    exact up_over hd (H u (List.mem_of_getElem? hu)) (H v (List.mem_of_getElem? hv)) (r i j u v hij hu hv) (hp v (List.mem_of_getElem? hv))
/-- Bounds in the form of the law of Helly. -/
def bdAt (l : List BD) (i : Nat) : PathLaw.Bd := match l[i]? with
  | some b => ⟨b.1, b.2.1, b.2.2⟩
  | none => ⟨0, 0, 0⟩
theorem bdAt_some {l : List BD} {i : Nat} {b : BD} (h : l[i]? = some b) : bdAt l i = ⟨b.1, b.2.1, b.2.2⟩ := by unfold bdAt; rw [h]
theorem some_of {l : List BD} {i : Nat} (h : i < l.length) : ∃ b, l[i]? = some b := ⟨_, List.getElem?_eq_getElem h⟩
theorem rising_bd {l : List BD} (r : RisingB l) (ho : ∀ b ∈ l, okB b) : PathLaw.Rising l.length (bdAt l) := by
  constructor
  · intro i j hij hj
    obtain ⟨u, hu⟩ := some_of (l := l) (i := i) (by omega)
    obtain ⟨v, hv⟩ := some_of hj
    rw [bdAt_some hu, bdAt_some hv]
    exact r i j u v hij hu hv
  · intro i hi
    obtain ⟨u, hu⟩ := some_of hi
    rw [bdAt_some hu]
    exact (ho u (List.mem_of_getElem? hu)).2.2.1
theorem triples_bd {l : List BD} (h : fitsB l = true) : PathLaw.Triples l.length (bdAt l) := by
  intro i j k hij hjk hk
  obtain ⟨u, hu⟩ := some_of (l := l) (i := i) (by omega)
  obtain ⟨v, hv⟩ := some_of (l := l) (i := j) (by omega)
  obtain ⟨w, hw⟩ := some_of hk
  rw [bdAt_some hu, bdAt_some hv, bdAt_some hw]
  have := fitsB_iff.1 h i j k hij hjk hk
  rw [threeAt_some hu hv hw] at this
  unfold three at this
  simp only [Bool.and_eq_true, decide_eq_true_eq] at this
  exact this
/-- No lower end lies above the upper one. -/
theorem lo_le_hi {l : List BD} {t : Int} (r : RisingB l) (ho : ∀ b ∈ l, okB b) (h2 : 2 ≤ l.length) (hp : Past l t) (h : fitsB l = true) : loR l t t ≤ hiR l t t := by
  obtain ⟨k, m, u, v, hkm, hu, hv, e⟩ := loR_some h2 t t
  obtain ⟨i, j, x, y, hij, hx, hy, f⟩ := hiR_some h2 t t
  have H := PathLaw.helly (triples_bd h) (rising_bd r ho) (T := t) (fun i hi => by
    obtain ⟨b, hb⟩ := some_of hi
    rw [bdAt_some hb]
    exact hp b (List.mem_of_getElem? hb)) hkm (List.getElem?_eq_some_iff.1 hv).1 hij (List.getElem?_eq_some_iff.1 hy).1
  rw [bdAt_some hu, bdAt_some hv, bdAt_some hx, bdAt_some hy] at H
  dsimp only at H
  rw [e, f, loP_same, hiP_same]
  have d1 := r k m u v hkm hu hv
  have d2 := r i j x y hij hx hy
  have a1 := fl_le (x := loL u v) (by unfold loL; dsimp only; omega) t
  have a2 := ce_ge (x := upL x y) (by unfold upL; dsimp only; omega) t
  rw [loL_val] at a1
  rw [upL_val] at a2
  have w1 : (loL u v).2.2.1 = v.1 - u.1 := rfl
  have w2 : (upL x y).2.2.1 = y.1 - x.1 := rfl
  rw [w1] at a1
  rw [w2] at a2
  unfold valN at a1 a2
  dsimp only at a1 a2
  generalize flL (loL u v) t = p at *
  generalize ceL (upL x y) t = q at *
  have b1 := mulL a1 (c := y.1 - x.1) (by omega)
  have b2 := mulL a2 (c := v.1 - u.1) (by omega)
  have hpos : 0 < (v.1 - u.1) * (y.1 - x.1) := Int.mul_pos (by omega) (by omega)
  refine Int.le_of_mul_le_mul_left (a := (v.1 - u.1) * (y.1 - x.1)) ?_ hpos
  grind
/-- All pairs of places. -/
def prN (n : Nat) : List (Nat × Nat) := (List.range n).flatMap fun j => (List.range j).map fun i => (i, j)
theorem prN_mem {n i j : Nat} : (i, j) ∈ prN n ↔ i < j ∧ j < n := by
  unfold prN
  simp only [List.mem_flatMap, List.mem_range, List.mem_map, Prod.mk.injEq]
  constructor
  · rintro ⟨k, hk, m, hm, rfl, rfl⟩; exact ⟨hm, hk⟩
  · rintro ⟨h1, h2⟩; exact ⟨j, h2, i, h1, rfl, rfl⟩
/-- ATTAINED above: an upper line fits whose value at the time lies within the last unit (by repeat (first | with_reducible exact Below.refl _ _ | with_reducible assumption | with_reducible refine Below.drew ?_ | with_reducible refine Below.setCell ?_ (by first | omega | (simp; omega) | simp) _ | with_reducible refine Below.alloc ?_ (by first | omega | (simp; omega) | simp) _ | with_reducible refine Below.trans ?_ (Below.mono (by with_reducible assumption) (by first | omega | (simp; omega) | simp)))) the upper end. -/
theorem attained_hi {l : List BD} {t : Int} (r : RisingB l) (ho : ∀ b ∈ l, okB b) (h2 : 2 ≤ l.length) (hp : ∀ b ∈ l, b.1 < t) (h : fitsB l = true) :
    ∃ (i j : Nat) (u v : BD), i < j ∧ l[i]? = some u ∧ l[j]? = some v ∧ fitL l (u.1, u.2.1) (v.1, v.2.2) = true ∧ (hiR l t t - 1) * (v.1 - u.1) < valN (u.1, u.2.1) (v.1, v.2.2) t ∧ valN (u.1, u.2.1) (v.1, v.2.2) t ≤ hiR l t t * (v.1 - u.1) := by
  have hR := rising_bd r ho
  have hne : prN l.length ≠ [] := by
    intro e
    have : (0, 1) ∈ prN l.length := prN_mem.2 ⟨by omega, by omega⟩
    rw [e] at this; simp at this
  obtain ⟨⟨i, j⟩, hm, hmin⟩ := PathLaw.least_ratio (fun p : Nat × Nat => PathLaw.up (bdAt l) t p.1 p.2) (fun p => PathLaw.dist (bdAt l) p.1 p.2) (prN l.length) hne (by
    rintro ⟨i, j⟩ hij
    obtain ⟨h1, h3⟩ := prN_mem.1 hij
    have := hR.1 i j h1 h3
    simp only [PathLaw.dist]; omega)
  obtain ⟨hij, hj⟩ := prN_mem.1 hm
  obtain ⟨u, hu⟩ := some_of (l := l) (i := i) (by omega)
  obtain ⟨v, hv⟩ := some_of hj
  have hmin' : ∀ k m, k < m → m < l.length → PathLaw.up (bdAt l) t i j * PathLaw.dist (bdAt l) k m ≤ PathLaw.up (bdAt l) t k m * PathLaw.dist (bdAt l) i j := fun k m h1 h3 => hmin (k, m) (prN_mem.2 ⟨h1, h3⟩)
  have hT : ∀ i, i < l.length → (bdAt l i).t < t := fun i hi => by
    obtain ⟨b, hb⟩ := some_of hi
    rw [bdAt_some hb]
    exact hp b (List.mem_of_getElem? hb)
  have HF := fun m (hm : m < l.length) => PathLaw.least_fits (triples_bd h) hR hT hij hj hmin' hm
  have d1 := r i j u v hij hu hv
  have hup : PathLaw.up (bdAt l) t i j = valN (u.1, u.2.1) (v.1, v.2.2) t := by
    unfold PathLaw.up valN; rw [bdAt_some hu, bdAt_some hv]; dsimp only; grind
  refine ⟨i, j, u, v, hij, hu, hv, ?_, ?_, ?_⟩
  · unfold fitL
    rw [List.all_eq_true]
    intro o hoo
    obtain ⟨m, hmm, hmo⟩ := List.getElem_of_mem hoo
    have hmo' : l[m]? = some o := by rw [← hmo]; exact List.getElem?_eq_getElem hmm
    have := HF m hmm
    unfold PathLaw.dist at this
    rw [bdAt_some hu, bdAt_some hv, bdAt_some hmo'] at this
    rw [fitO_iff]
    unfold valN
    exact this
  · obtain ⟨k, m, x, y, hkm, hx, hy, e⟩ := hiR_some h2 t t
    rw [hiP_same] at e
    have hall := hiR_all t t hij hu hv
    rw [hiP_same] at hall
    have c := ce_lt (x := upL u v) (by unfold upL; dsimp only; omega) t
    rw [upL_val] at c
    have w2 : (upL u v).2.2.1 = v.1 - u.1 := rfl
    rw [w2] at c
    have := mulL (show hiR l t t - 1 ≤ ceL (upL u v) t - 1 by omega) (c := v.1 - u.1) (by omega)
    rw [Int.mul_comm, Int.mul_comm (v.1 - u.1)] at this
    omega
  · obtain ⟨k, m, x, y, hkm, hx, hy, e⟩ := hiR_some h2 t t
    rw [hiP_same] at e
    have d2 := r k m x y hkm hx hy
    have hc := hmin' k m hkm (List.getElem?_eq_some_iff.1 hy).1
    have hup2 : PathLaw.up (bdAt l) t k m = valN (x.1, x.2.1) (y.1, y.2.2) t := by
      unfold PathLaw.up valN; rw [bdAt_some hx, bdAt_some hy]; dsimp only; grind
    unfold PathLaw.dist at hc
    rw [hup, hup2, bdAt_some hu, bdAt_some hv, bdAt_some hx, bdAt_some hy] at hc
    dsimp only at hc
    have c := ce_ge (x := upL x y) (by unfold upL; dsimp only; omega) t
    rw [upL_val] at c
    have w2 : (upL x y).2.2.1 = y.1 - x.1 := rfl
    rw [w2, ← e] at c
    generalize valN (u.1, u.2.1) (v.1, v.2.2) t = p at *
    generalize valN (x.1, x.2.1) (y.1, y.2.2) t = q at *
    have b1 := mulL c (c := v.1 - u.1) (by omega)
    refine Int.le_of_mul_le_mul_left (a := y.1 - x.1) ?_ (by omega)
    grind
/-- The other way up. -/
def flipB (b : BD) : BD := (b.1, -b.2.2, -b.2.1)
theorem flip_get {l : List BD} {i : Nat} {u : BD} (h : (l.map flipB)[i]? = some u) : ∃ v, l[i]? = some v ∧ u = flipB v := by
  rw [List.getElem?_map] at h
  cases hv : l[i]? with
  | none => rw [hv] at h; simp at h
  | some v => rw [hv] at h; exact ⟨v, rfl, (Option.some.inj h).symm⟩
theorem flip_get' {l : List BD} {i : Nat} {v : BD} (h : l[i]? = some v) : (l.map flipB)[i]? = some (flipB v) := by rw [List.getElem?_map, h]; rfl
theorem flip_rise {l : List BD} (r : RisingB l) : RisingB (l.map flipB) := by
  intro i j a b hij ha hb
  obtain ⟨x, hx, rfl⟩ := flip_get ha
  obtain ⟨y, hy, rfl⟩ := flip_get hb
  exact r i j x y hij hx hy
theorem flip_ok {l : List BD} (h : ∀ b ∈ l, okB b) : ∀ b ∈ l.map flipB, okB b := by
  intro b hb
  obtain ⟨x, hx, rfl⟩ := List.mem_map.1 hb
  have := h x hx
  unfold okB flipB at *
  dsimp only at *
  omega
theorem flip_three {a b c : BD} (h : three a b c = true) : three (flipB a) (flipB b) (flipB c) = true := by
  unfold three at *
  simp only [Bool.and_eq_true, decide_eq_true_eq, flipB] at *
  constructor
  · have := h.2; grind
  · have := h.1; grind
theorem flip_fits {l : List BD} (h : fitsB l = true) : fitsB (l.map flipB) = true := by
  rw [fitsB_iff] at *
  intro i j k hij hjk hk
  rw [List.length_map] at hk
  obtain ⟨u, hu⟩ := some_of (l := l) (i := i) (by omega)
  obtain ⟨v, hv⟩ := some_of (l := l) (i := j) (by omega)
  obtain ⟨w, hw⟩ := some_of hk
  rw [threeAt_some (flip_get' hu) (flip_get' hv) (flip_get' hw)]
  have := h i j k hij hjk hk
  rw [threeAt_some hu hv hw] at this
  exact flip_three this
theorem flip_line (u v : BD) (t : Int) : ceL (upL (flipB u) (flipB v)) t = -flL (loL u v) t := by
  unfold ceL upL flL loL flipB
  dsimp only
  have e : -((-v.2.1 - -u.2.2) * (t - u.1)) = (v.2.1 - u.2.2) * (t - u.1) := by grind
  rw [e]; omega
theorem flip_hiR {l : List BD} (h2 : 2 ≤ l.length) (t : Int) : hiR (l.map flipB) t t = -loR l t t := by
  obtain ⟨i, j, u, v, hij, hu, hv, e⟩ := hiR_some (l := l.map flipB) (by rw [List.length_map]; exact h2) t t
  obtain ⟨k, m, x, y, hkm, hx, hy, f⟩ := loR_some h2 t t
  have h3 := hiR_all t t hkm (flip_get' hx) (flip_get' hy)
  obtain ⟨u, hu', rfl⟩ := flip_get hu
  obtain ⟨v, hv', rfl⟩ := flip_get hv
  have h4 := loR_all t t hij hu' hv'
  rw [hiP_same, flip_line] at h3 e
  rw [loP_same] at h4 f
  omega
theorem flip_val (u v : BD) (t : Int) : valN ((flipB u).1, (flipB u).2.1) ((flipB v).1, (flipB v).2.2) t = -valN (u.1, u.2.2) (v.1, v.2.1) t := by
  unfold valN flipB; dsimp only; grind
theorem flip_fitL {l : List BD} {u v : BD} (h : fitL (l.map flipB) ((flipB u).1, (flipB u).2.1) ((flipB v).1, (flipB v).2.2) = true) : fitL l (u.1, u.2.2) (v.1, v.2.1) = true := by
  unfold fitL at *
  rw [List.all_eq_true] at *
  intro o ho
  have := h (flipB o) (List.mem_map.2 ⟨o, ho, rfl⟩)
  rw [fitO_iff, flip_val] at this
  rw [fitO_iff]
  unfold flipB at this
  dsimp only at this
  obtain ⟨h1, h2⟩ := this
  rw [Int.neg_mul] at h1 h2
  exact ⟨by dsimp only; omega, by dsimp only; omega⟩
/-- ATTAINED below. -/
theorem attained_lo {l : List BD} {t : Int} (r : RisingB l) (ho : ∀ b ∈ l, okB b) (h2 : 2 ≤ l.length) (hp : ∀ b ∈ l, b.1 < t) (h : fitsB l = true) :
    ∃ (i j : Nat) (u v : BD), i < j ∧ l[i]? = some u ∧ l[j]? = some v ∧ fitL l (u.1, u.2.2) (v.1, v.2.1) = true ∧ valN (u.1, u.2.2) (v.1, v.2.1) t < (loR l t t + 1) * (v.1 - u.1) ∧ loR l t t * (v.1 - u.1) ≤ valN (u.1, u.2.2) (v.1, v.2.1) t := by
  obtain ⟨i, j, u, v, hij, hu, hv, hf, g1, g2⟩ := attained_hi (t := t) (flip_rise r) (flip_ok ho) (by rw [List.length_map]; exact h2) (by
    intro b hb
    obtain ⟨x, hx, rfl⟩ := List.mem_map.1 hb
    exact hp x hx) (flip_fits h)
  obtain ⟨u, hu', rfl⟩ := flip_get hu
  obtain ⟨v, hv', rfl⟩ := flip_get hv
  rw [flip_val, flip_hiR h2] at g1 g2
  refine ⟨i, j, u, v, hij, hu', hv', flip_fitL hf, ?_, ?_⟩
  · have e : (-loR l t t - 1) * ((flipB v).1 - (flipB u).1) = -((loR l t t + 1) * (v.1 - u.1)) := by unfold flipB; dsimp only; grind
    rw [e] at g1; omega
  · have e : -loR l t t * ((flipB v).1 - (flipB u).1) = -(loR l t t * (v.1 - u.1)) := by unfold flipB; dsimp only; grind
    rw [e] at g2; omega
end Go.Proofs.Ytmdledlbkdcmnaa

/-
  Where a ball crosses the line of the stumps, in plain Lean; ranges of heights with gravity put back.
  Conditions: none.
-/
namespace Go.Proofs.Ytmdledlbkdcmnaa
open Go.RowKit
/-- The first number from k on, and the last one up to n, that has a property. -/
def fstK (p : Nat → Bool) : Nat → Nat → Nat
  | 0, k => k
  | n + 1, k => if p k then k else fstK p n (k + 1)
theorem fstK_spec {p : Nat → Bool} : ∀ n k : Nat, (∃ m, k ≤ m ∧ m < k + n ∧ p m = true) → p (fstK p n k) = true ∧ k ≤ fstK p n k ∧ fstK p n k < k + n ∧ ∀ m, k ≤ m → m < fstK p n k → p m = false
  | 0, k, ⟨m, h1, h2, _⟩ => by omega
  | n + 1, k, ⟨m, h1, h2, h3⟩ => by
    unfold fstK
    by_cases hk : p k = true
    · rw [if_pos hk]; exact ⟨hk, Nat.le_refl _, by omega, fun m h1 h2 => by omega⟩
    · rw [if_neg hk]
      have hne : m ≠ k := fun e => hk (by rw [← e]; exact h3)
      obtain ⟨a1, a2, a3, a4⟩ := fstK_spec n (k + 1) ⟨m, by omega, by omega, h3⟩
      refine ⟨a1, by omega, by omega, fun q h1 h2 => ?_⟩
      by_cases hq : q = k
      · subst hq; simpa using hk
      · exact a4 q (by omega) h2
def lstK (p : Nat → Bool) : Nat → Nat
  | 0 => 0
  | k + 1 => if p (k + 1) then k + 1 else lstK p k
theorem lstK_spec {p : Nat → Bool} : ∀ n : Nat, (∃ m, m ≤ n ∧ p m = true) → p (lstK p n) = true ∧ lstK p n ≤ n ∧ ∀ m, lstK p n < m → m ≤ n → p m = false
  | 0, ⟨m, h1, h2⟩ => by
    obtain rfl : m = 0 := by omega
    exact ⟨h2, Nat.le_refl _, fun m h1 h2 => by unfold lstK at h1; omega⟩
  | n + 1, ⟨m, h1, h2⟩ => by
    unfold lstK
    by_cases hk : p (n + 1) = true
    · rw [if_pos hk]; exact ⟨hk, Nat.le_refl _, fun m h1 h2 => by omega⟩
    · rw [if_neg hk]
      have hne : m ≠ n + 1 := fun e => hk (by rw [← e]; exact h2)
      obtain ⟨a1, a2, a3⟩ := lstK_spec n ⟨m, by omega, h2⟩
      refine ⟨a1, by omega, fun q h1 h2 => ?_⟩
      by_cases hq : q = n + 1
      · subst hq; simpa using hk
      · exact a3 q h1 (by omega)
def lastB (l : List BD) : BD := match l[l.length - 1]? with
  | some b => b
  | none => (0, 0, 0)
theorem lastB_some {l : List BD} {b : BD} (h : l[l.length - 1]? = some b) : lastB l = b := by unfold lastB; rw [h]
theorem last_ex {l : List BD} (h : 2 ≤ l.length) : l[l.length - 1]? = some (lastB l) := by
  obtain ⟨b, hb⟩ := some_of (l := l) (i := l.length - 1) (by omega)
  rw [hb, lastB_some hb]
theorem past_last {l : List BD} (r : RisingB l) (h : 2 ≤ l.length) {t : Int} (ht : (lastB l).1 ≤ t) : Past l t := by
  intro b hb
  obtain ⟨i, hi, e⟩ := List.getElem_of_mem hb
  have hb' : l[i]? = some b := by rw [← e]; exact List.getElem?_eq_getElem hi
  have hl := last_ex h
  by_cases hi2 : i = l.length - 1
  · subst hi2
    rw [hl] at hb'
    obtain rfl := Option.some.inj hb'
    exact ht
  · have := r i (l.length - 1) b _ (by omega) hb' hl
    omega
/-- The ball comes nearer from each to each later one. -/
def comeAt (l : List BD) (i j : Nat) : Bool := match l[i]?, l[j]? with
  | some a, some b => decide (b.2.2 < a.2.1)
  | _, _ => true
theorem comeAt_some {l : List BD} {i j : Nat} {a b : BD} (ha : l[i]? = some a) (hb : l[j]? = some b) : comeAt l i j = decide (b.2.2 < a.2.1) := by unfold comeAt; rw [ha, hb]
def comes (l : List BD) : Bool := (List.range l.length).all fun j => (List.range j).all fun i => comeAt l i j
theorem comes_iff {l : List BD} : comes l = true ↔ ∀ i j, i < j → j < l.length → comeAt l i j = true := by
  unfold comes
  simp only [List.all_eq_true, List.mem_range]
  exact ⟨fun h i j hi hj => h j hj i hi, fun h j hj i hi => h i j hi hj⟩
theorem comes_no {l : List BD} {i j : Nat} (hi : i < j) (hj : j < l.length) (h : comeAt l i j = false) : comes l = false := by
  cases hb : comes l with
  | false => rfl
  | true => rw [comes_iff.1 hb i j hi hj] at h; cases h
/-- Heights of raised ones. -/
def fallLo (lo hi e l : Int) : Int := if lo - 981 * l * l ≤ hi - 981 * e * e then (lo - 981 * l * l) / 80000 else 0
def fallHi (lo hi e l : Int) : Int := if lo - 981 * l * l ≤ hi - 981 * e * e then -(-(hi - 981 * e * e) / 80000) else 0
/-- Whether a path fits. -/
def posB (l : List SN) : Bool := fitsB (bnds 0 (bhdL l)) && (fitsB (bnds 1 (bhdL l)) && fitsB (bnds 2 (bhdL l)))
def linE (l : List SN) (ax t : Int) : Int :=
  if ax < 0 ∨ 2 < ax then 1 else if behE l ≠ 0 then behE l else if t < (lastB (bnds ax (bhdL l))).1 ∨ (lastB (bnds ax (bhdL l))).1 + 400 < t then 2 else if fitsB (bnds ax (bhdL l)) = true then 0 else 13
def linLo (l : List SN) (ax t : Int) : Int := if linE l ax t = 0 then loR (bnds ax (bhdL l)) t t else 0
def linHi (l : List SN) (ax t : Int) : Int := if linE l ax t = 0 then hiR (bnds ax (bhdL l)) t t else 0
def crsE (l : List SN) : Int :=
  if behE l ≠ 0 then behE l else if posB l = false then 13 else if comes (bnds 0 (bhdL l)) = false then 8
  else if (lastB (bnds 0 (bhdL l))).2.1 ≤ 0 ∨ 0 ≤ hiR (bnds 0 (bhdL l)) ((lastB (bnds 0 (bhdL l))).1 + 400) ((lastB (bnds 0 (bhdL l))).1 + 400) then 6 else 0
def crsF (x : List BD) : Nat := fstK (fun k => decide (loR x ((lastB x).1 + k) ((lastB x).1 + k) ≤ 0)) 401 0
def crsL (x : List BD) : Nat := lstK (fun k => decide (0 ≤ hiR x ((lastB x).1 + k) ((lastB x).1 + k))) 400
theorem crs_k {x : List BD} (r : RisingB x) (ho : ∀ b ∈ x, okB b) (h2 : 2 ≤ x.length) (h : fitsB x = true) (hl : 0 < (lastB x).2.1) (hh : hiR x ((lastB x).1 + 400) ((lastB x).1 + 400) < 0) :
    (loR x ((lastB x).1 + crsF x) ((lastB x).1 + crsF x) ≤ 0 ∧ 1 ≤ crsF x ∧ crsF x ≤ 400 ∧ ∀ k : Nat, k < crsF x → 0 < loR x ((lastB x).1 + k) ((lastB x).1 + k))
    ∧ (0 ≤ hiR x ((lastB x).1 + crsL x) ((lastB x).1 + crsL x) ∧ crsL x < 400 ∧ (∀ k : Nat, crsL x < k → k ≤ 400 → hiR x ((lastB x).1 + k) ((lastB x).1 + k) < 0)) := by
  have h0 : 0 < loR x ((lastB x).1 + ((0 : Nat) : Int)) ((lastB x).1 + ((0 : Nat) : Int)) := by
    obtain ⟨u, hu⟩ := some_of (l := x) (i := 0) (by omega)
    have hv := last_ex h2
    have := loR_all ((lastB x).1 + ((0 : Nat) : Int)) ((lastB x).1 + ((0 : Nat) : Int)) (show 0 < x.length - 1 by omega) hu hv
    rw [loP_same] at this
    have hd := r _ _ _ _ (show 0 < x.length - 1 by omega) hu hv
    have e : flL (loL u (lastB x)) ((lastB x).1 + ((0 : Nat) : Int)) = (lastB x).2.1 := by
      unfold flL loL
      dsimp only
      rw [show (lastB x).1 + ((0 : Nat) : Int) - u.1 = (lastB x).1 - u.1 by simp, Int.mul_ediv_cancel _ (by omega)]
      omega
    omega
  have le0 := lo_le_hi r ho h2 (past_last r h2 (t := (lastB x).1 + ((0 : Nat) : Int)) (by simp)) h
  have le4 := lo_le_hi r ho h2 (past_last r h2 (t := (lastB x).1 + 400) (by omega)) h
  obtain ⟨a1, a2, a3, a4⟩ := fstK_spec (p := fun k => decide (loR x ((lastB x).1 + k) ((lastB x).1 + k) ≤ 0)) 401 0 ⟨400, by omega, by omega, by simp only [decide_eq_true_eq]; exact Int.le_trans le4 (by omega)⟩
  obtain ⟨b1, b2, b3⟩ := lstK_spec (p := fun k => decide (0 ≤ hiR x ((lastB x).1 + k) ((lastB x).1 + k))) 400 ⟨0, by omega, by simp only [decide_eq_true_eq]; omega⟩
  have a1' : loR x ((lastB x).1 + crsF x) ((lastB x).1 + crsF x) ≤ 0 := of_decide_eq_true a1
  have b1' : 0 ≤ hiR x ((lastB x).1 + crsL x) ((lastB x).1 + crsL x) := of_decide_eq_true b1
  refine ⟨⟨a1', ?_, by unfold crsF; omega, fun k hk => ?_⟩, b1', ?_, fun k hk hk2 => ?_⟩
  · rcases Nat.eq_zero_or_pos (crsF x) with e | e
    · rw [e] at a1'; omega
    · exact e
  · have := a4 k (by omega) hk
    simp only [decide_eq_false_iff_not] at this
    omega
  · rcases Nat.lt_or_eq_of_le b2 with e | e
    · exact e
    · exfalso
      have e' : crsL x = 400 := e
      rw [e'] at b1'
      have : hiR x ((lastB x).1 + 400) ((lastB x).1 + 400) = hiR x ((lastB x).1 + ((400 : Nat) : Int)) ((lastB x).1 + ((400 : Nat) : Int)) := rfl
      omega
  · have := b3 k hk hk2
    simp only [decide_eq_false_iff_not] at this
    omega
def cT1 (l : List SN) : Int := (lastB (bnds 0 (bhdL l))).1 + crsF (bnds 0 (bhdL l)) - 1
def cT2 (l : List SN) : Int := (lastB (bnds 0 (bhdL l))).1 + crsL (bnds 0 (bhdL l)) + 1
end Go.Proofs.Ytmdledlbkdcmnaa

/-
  The greatest and the least of a list, step by step; sizes of the ends of ranges.
  Conditions: none.
-/
namespace Go.Proofs.Ytmdledlbkdcmnaa
open Go.RowKit
theorem fold_next {f : Int → Int → Int} {l : List Int} {k : Nat} {x y : Int} (h : l[k]? = some y) : (l.take (k + 1)).foldl f x = f ((l.take k).foldl f x) y := by
  rw [List.take_add_one, h, List.foldl_append]; rfl
theorem fold_max {l : List Int} {x : Int} (h : l[0]? = some x) : l.foldl max x = mxl l := by
  cases l with
  | nil => simp at h
  | cons y l =>
    obtain rfl : y = x := by simpa using h
    simp only [List.foldl_cons, mxl, Int.max_self]
theorem fold_min {l : List Int} {x : Int} (h : l[0]? = some x) : l.foldl min x = mnl l := by
  cases l with
  | nil => simp at h
  | cons y l =>
    obtain rfl : y = x := by simpa using h
    simp only [List.foldl_cons, mnl, Int.min_self]
theorem loP_bd {x : LN} (h : okN x) {s t : Int} (h1 : -10 ≤ s) (h2 : s ≤ 5000) (h3 : -10 ≤ t) (h4 : t ≤ 5000) : -300000000000000 ≤ loP s t x ∧ loP s t x ≤ 300000000000000 := by
  have a := flL_bd h h1 h2
  have b := flL_bd h h3 h4
  unfold loP; omega
theorem hiP_bd {x : LN} (h : okN x) {s t : Int} (h1 : -10 ≤ s) (h2 : s ≤ 5000) (h3 : -10 ≤ t) (h4 : t ≤ 5000) : -300000000000000 ≤ hiP s t x ∧ hiP s t x ≤ 300000000000000 := by
  have a := ceL_bd h h1 h2
  have b := ceL_bd h h3 h4
  unfold hiP; omega
theorem loR_bd {l : List BD} (ho : ∀ b ∈ l, okB b) (r : RisingB l) {s t : Int} (h1 : -10 ≤ s) (h2 : s ≤ 5000) (h3 : -10 ≤ t) (h4 : t ≤ 5000) : -300000000000000 ≤ loR l s t ∧ loR l s t ≤ 300000000000000 := by
  unfold loR
  cases e : (lows l).map (loP s t) with
  | nil => simp [mxl]
  | cons y m =>
    have := (mxl_spec (l := y :: m) (by simp)).1
    rw [← e] at this ⊢
    obtain ⟨x, hx, hxe⟩ := List.mem_map.1 this
    rw [← hxe]
    exact loP_bd (lows_ok ho r x hx) h1 h2 h3 h4
theorem hiR_bd {l : List BD} (ho : ∀ b ∈ l, okB b) (r : RisingB l) {s t : Int} (h1 : -10 ≤ s) (h2 : s ≤ 5000) (h3 : -10 ≤ t) (h4 : t ≤ 5000) : -300000000000000 ≤ hiR l s t ∧ hiR l s t ≤ 300000000000000 := by
  unfold hiR
  cases e : (upps l).map (hiP s t) with
  | nil => simp [mnl]
  | cons y m =>
    have := (mnl_spec (l := y :: m) (by simp)).1
    rw [← e] at this ⊢
    obtain ⟨x, hx, hxe⟩ := List.mem_map.1 this
    rw [← hxe]
    exact hiP_bd (upps_ok ho r x hx) h1 h2 h3 h4
theorem lastB_ok {l : List BD} (ho : ∀ b ∈ l, okB b) (h : 2 ≤ l.length) : okB (lastB l) := ho _ (List.mem_of_getElem? (last_ex h))
end Go.Proofs.Ytmdledlbkdcmnaa

/-
  The sides of the pitch exchanged, in plain Lean: the lines through what is exchanged.
  Conditions: none.
-/
namespace Go.Proofs.Ytmdledlbkdcmnaa
open Go.RowKit
/-- The sides exchanged, as 64 bits give it. -/
def mirW (s : SN) : SN := (s.1, s.2.1, wrap64 (-s.2.2.1), s.2.2.2.1, s.2.2.2.2)
/-- The place across is a number of 64 bits. -/
def y64 (s : SN) : Prop := -9223372036854775808 ≤ s.2.2.1 ∧ s.2.2.1 ≤ 9223372036854775807
theorem mirW_ok {s : SN} (h : y64 s) : okS (mirW s) = okS s := by
  obtain ⟨h1, h2⟩ := h
  rw [Bool.eq_iff_iff, okS_iff, okS_iff]
  simp only [mirW]
  unfold wrap64
  omega
theorem mirW_id {s : SN} (h : okS s = true) : mirW s = mirS s := by
  obtain ⟨_, _, ⟨h1, h2⟩, _⟩ := okS_iff.1 h
  unfold mirW mirS
  rw [show wrap64 (-s.2.2.1) = -s.2.2.1 from wrap_id (by omega) (by omega)]
theorem chkF_mirW : ∀ (l : List SN) (p : Int), (∀ s ∈ l, y64 s) → chkF p (l.map mirW) = chkF p l
  | [], _, _ => rfl
  | q :: l, p, h => by
    have hk := mirW_ok (h q (by simp))
    simp only [List.map_cons, chkF, hk, chkF_mirW l _ (fun s hs => h s (by simp [hs]))]
    rfl
theorem chkE_mirW {l : List SN} (h : ∀ s ∈ l, y64 s) : chkE (l.map mirW) = chkE l := by
  unfold chkE; rw [List.length_map, chkF_mirW l _ h]
theorem map_mirW {l : List SN} (h : chkE l = 0) : l.map mirW = l.map mirS := List.map_congr_left fun s hs => mirW_id (chkE_ok h s hs)
def neg2 (p : PT) : PT := (p.1, -p.2)
theorem sT_neg (l : List PT) : sT (l.map neg2) = sT l := by induction l with | nil => rfl | cons p l ih => simp only [List.map_cons, sT, ih]; rfl
theorem sQ_neg (l : List PT) : sQ (l.map neg2) = sQ l := by induction l with | nil => rfl | cons p l ih => simp only [List.map_cons, sQ, ih]; rfl
theorem sV_neg (l : List PT) : sV (l.map neg2) = -sV l := by induction l with | nil => rfl | cons p l ih => simp only [List.map_cons, sV, ih, neg2]; omega
theorem sW_neg (l : List PT) : sW (l.map neg2) = -sW l := by induction l with | nil => rfl | cons p l ih => simp only [List.map_cons, sW, ih, neg2]; grind
theorem fA_neg (l : List PT) : fA (l.map neg2) = -fA l := by unfold fA; rw [sT_neg, sQ_neg, sV_neg, sW_neg]; grind
theorem fB_neg (l : List PT) : fB (l.map neg2) = -fB l := by unfold fB; rw [sT_neg, sV_neg, sW_neg, List.length_map]; grind
theorem fD_neg (l : List PT) : fD (l.map neg2) = fD l := by unfold fD; rw [sT_neg, sQ_neg, List.length_map]
theorem mapX_mir (L : List SN) : (L.map mirS).map tX = L.map tX := by rw [List.map_map]; rfl
theorem mapZ_mir (L : List SN) : (L.map mirS).map tZ = L.map tZ := by rw [List.map_map]; rfl
theorem mapY_mir (L : List SN) : (L.map mirS).map tY = (L.map tY).map neg2 := by rw [List.map_map, List.map_map]; rfl
theorem lnE_mir (L : List SN) : lnE (L.map mirS) = lnE L := by unfold lnE; rw [List.length_map, mapX_mir]
theorem lnE_pts {L : List SN} {f : SN → PT} (h : ∀ s ∈ L, okP (f s) = true) (hl : L.length ≤ 64) (he : lnE L = 0) : ptsE (L.map f) = 0 := by
  rw [ptsE_map h hl]
  unfold lnE at he
  split at he
  · omega
  · rename_i h2; rw [if_neg h2]
/-- What Fit gives of a list and of its mirror image. -/
theorem fit_mir {l : List SN} (h : ∀ s ∈ l, y64 s) : ∃ xa xb xd ya yb yd ya' yb' za zb zd e : Int, fitV l = .tuple #[.agg #[.int .i64 xa, .int .i64 xb, .int .i64 xd, .int .i64 ya, .int .i64 yb, .int .i64 yd, .int .i64 za, .int .i64 zb, .int .i64 zd], .int .i64 e] ∧
    fitV (l.map mirW) = .tuple #[.agg #[.int .i64 xa, .int .i64 xb, .int .i64 xd, .int .i64 ya', .int .i64 yb', .int .i64 yd, .int .i64 za, .int .i64 zb, .int .i64 zd], .int .i64 e] ∧ ya' = -ya ∧ yb' = -yb ∧ (-4611686018427387904 ≤ ya ∧ ya ≤ 4611686018427387904) ∧ (-4611686018427387904 ≤ yb ∧ yb ≤ 4611686018427387904) := by
  by_cases hc : chkE l = 0
  · have e1 : bhdL (l.map mirW) = (bhdL l).map mirS := by rw [map_mirW hc, bhd_mir]
    have e2 : fitE (l.map mirW) = fitE l := by unfold fitE; rw [chkE_mirW h, e1, lnE_mir]
    by_cases he : fitE l = 0
    · have hln : lnE (bhdL l) = 0 := by unfold fitE at he; rw [if_neg (fun h => h hc)] at he; exact he
      have hp := lnE_pts (f := tY) (fun s hs => (okS_pts (bhd_ok s hs)).2.1) (bhd_len l) hln
      have hbd := line_bd hp
      refine ⟨fA ((bhdL l).map tX), fB ((bhdL l).map tX), fD ((bhdL l).map tX), fA ((bhdL l).map tY), fB ((bhdL l).map tY), fD ((bhdL l).map tY), fA (((bhdL l).map tY).map neg2), fB (((bhdL l).map tY).map neg2), fA ((bhdL l).map tZ), fB ((bhdL l).map tZ), fD ((bhdL l).map tZ), 0, ?_, ?_, fA_neg _, fB_neg _, ?_, ?_⟩
      · unfold fitV; rw [if_pos he]
      · unfold fitV; rw [if_pos (e2.trans he), e1, mapX_mir, mapY_mir, mapZ_mir, fD_neg]
      · unfold fA; omega
      · unfold fB; omega
    · exact ⟨0, 0, 0, 0, 0, 0, 0, 0, 0, 0, 0, fitE l, by unfold fitV; rw [if_neg he], by unfold fitV; rw [e2, if_neg he], rfl, rfl, by omega, by omega⟩
  · have e2 : fitE (l.map mirW) = fitE l := by unfold fitE; rw [chkE_mirW h, if_pos hc, if_pos hc]
    have he : fitE l ≠ 0 := by unfold fitE; rw [if_pos hc]; exact hc
    exact ⟨0, 0, 0, 0, 0, 0, 0, 0, 0, 0, 0, fitE l, by unfold fitV; rw [if_neg he], by unfold fitV; rw [e2, if_neg he], rfl, rfl, by omega, by omega⟩
end Go.Proofs.Ytmdledlbkdcmnaa
