/-
  Small words for the walks: worlds that have at most new blocks (by repeat (first | with_reducible exact Below.refl _ _ | with_reducible assumption | with_reducible refine Below.drew ?_ | with_reducible refine Below.setCell ?_ (by first | omega | (simp; omega) | simp) _ | with_reducible refine Below.alloc ?_ (by first | omega | (simp; omega) | simp) _ | with_reducible refine Below.trans ?_ (Below.mono (by with_reducible assumption) (by first | omega | (simp; omega) | simp)))) the heap's size at the call's begin; regions that draw their order, walked once over all such worlds.
  Conditions: none.
-/
import Derived.Test.YtcppgigndpepnaaRows
import Derived.WalkKit
import Derived.WalkSpells
import Derived.WalkLawsBesides
import Derived.Laws.Pointers
import Derived.Deep.RegionHeld3
import Derived.BigQuiet
import Derived.RowKit3
import Derived.Lib.Hide
namespace Go.Proofs.Ytcppgigndpepnaa
open Go.RowKit

theorem bcell {W w1 : World} (hb : Below W.heap.size W w1) : (∀ b o, b < W.heap.size → w1.cell? ⟨b, o, none⟩ = W.cell? ⟨b, o, none⟩) ∧ (∀ b o, b < W.heap.size → w1.frozen? ⟨b, o, none⟩ = W.frozen? ⟨b, o, none⟩) :=
  ⟨fun b o h => hb.cell (p := ⟨b, o, none⟩) h, fun b o h => hb.frozen (p := ⟨b, o, none⟩) h⟩

theorem lt_of_cell {W : World} {b o : Nat} (h : (W.cell? ⟨b, o, none⟩).isSome = true) : b < W.heap.size := by
  obtain ⟨v, hv⟩ := Option.isSome_iff_exists.1 h
  exact World.block_lt_of_cell? W ⟨b, o, none⟩ hv

/-- A cell that is there reads as it did behind a new block. -/
theorem cell_alloc_old (W : World) (X : Obj) (b o : Nat) (h : (W.cell? ⟨b, o, none⟩).isSome = true) : (W.alloc X).cell? ⟨b, o, none⟩ = W.cell? ⟨b, o, none⟩ := World.cell?_alloc_lt W X ⟨b, o, none⟩ (lt_of_cell h)
theorem frozen_alloc_old (W : World) (X : Obj) (b o : Nat) (h : (W.cell? ⟨b, o, none⟩).isSome = true) : (W.alloc X).frozen? ⟨b, o, none⟩ = W.frozen? ⟨b, o, none⟩ :=
  (((Below.refl _ _).alloc (Nat.le_refl _) X : Below W.heap.size W (W.alloc X))).frozen (p := ⟨b, o, none⟩) (lt_of_cell h)
attribute [go_sem] cell_alloc_old frozen_alloc_old

/-- What stands behind a call that made blocks: the old cells read as they did. -/
theorem after {W w1 : World} (hb : Below W.heap.size W w1) : (∀ b o, (W.cell? ⟨b, o, none⟩).isSome = true → w1.cell? ⟨b, o, none⟩ = W.cell? ⟨b, o, none⟩) ∧ (∀ b o, (W.cell? ⟨b, o, none⟩).isSome = true → w1.frozen? ⟨b, o, none⟩ = W.frozen? ⟨b, o, none⟩) ∧ W.heap.size ≤ w1.heap.size :=
  ⟨fun b o h => hb.cell (p := ⟨b, o, none⟩) (lt_of_cell h), fun b o h => hb.frozen (p := ⟨b, o, none⟩) (lt_of_cell h), hb.size⟩

/-- From one call to the next: as it is, or behind one or two new blocks. -/
theorem Below.next {B : Nat} {a b c : World} (h : Below B a b) (hB : B ≤ a.heap.size) (k : Below b.heap.size b c) : Below B a c := h.trans (k.mono (Nat.le_trans hB h.size))
theorem Below.next1 {B : Nat} {a b c : World} {X : Obj} (h : Below B a b) (hB : B ≤ a.heap.size) (k : Below (b.alloc X).heap.size (b.alloc X) c) : Below B a c :=
  Below.next (h.alloc (Nat.le_trans hB h.size) X) hB k
theorem Below.next2 {B : Nat} {a b c : World} {X Y : Obj} (h : Below B a b) (hB : B ≤ a.heap.size) (k : Below ((b.alloc X).alloc Y).heap.size ((b.alloc X).alloc Y) c) : Below B a c :=
  Below.next1 (h.alloc (Nat.le_trans hB h.size) X) hB k

theorem Below.mid {b c : World} {X : Obj} (k : Below (b.alloc X).heap.size (b.alloc X) c) : Below (b.alloc X).heap.size (b.alloc X) c := k
theorem ret_str {a b : ByteArray} (h : a = b) : Ending.returned (.string a) = .returned (.string b) := by rw [h]
theorem ret_bool {a b : Bool} (h : a = b) : Ending.returned (.bool a) = .returned (.bool b) := by rw [h]
theorem ret_int {k : IntKind} {a b : Int} (h : a = b) : Ending.returned (.int k a) = .returned (.int k b) := by rw [h]

/-- The worlds that are as w is (by repeat (first | with_reducible exact Below.refl _ _ | with_reducible assumption | with_reducible refine Below.drew ?_ | with_reducible refine Below.setCell ?_ (by first | omega | (simp; omega) | simp) _ | with_reducible refine Below.alloc ?_ (by first | omega | (simp; omega) | simp) _ | with_reducible refine Below.trans ?_ (Below.mono (by with_reducible assumption) (by first | omega | (simp; omega) | simp)))) w's own blocks. -/
def Later (w : World) : Type := { w' : World // Below w.heap.size w w' }
instance (w : World) : Nonempty (Later w) := ⟨⟨w, Below.refl _ _⟩⟩
theorem Later.cell {w : World} (x : Later w) (b o : Nat) (h : (w.cell? ⟨b, o, none⟩).isSome = true) : x.1.cell? ⟨b, o, none⟩ = w.cell? ⟨b, o, none⟩ := x.2.cell (p := ⟨b, o, none⟩) (lt_of_cell h)

theorem Calls.later {P : Program} {f : FuncId} {args : Array Value} {w : World} {x : Later w} {v : Value}
    (h : Calls P f args x.1 fun e w' => e = .returned v ∧ Below x.1.heap.size x.1 w') : Calls P f args x.1 fun e w'' => e = .returned v ∧ ∃ y : Later w, w'' = y.1 :=
  h.mono fun _ w' ⟨he, hb⟩ => ⟨he, ⟨w', x.2.trans (hb.mono x.2.size)⟩, rfl⟩

theorem Calls.later_same {P : Program} {f : FuncId} {args : Array Value} {w : World} {x : Later w} {v : Value}
    (h : Calls P f args x.1 fun e w' => e = .returned v ∧ x.1 = w') : Calls P f args x.1 fun e w'' => e = .returned v ∧ ∃ y : Later w, w'' = y.1 :=
  h.mono fun _ _ ⟨he, hb⟩ => ⟨he, x, hb.symm⟩

theorem region_later {P : Program} {id : Nat} {Q : Exit → Act → World → Prop} {a : Act} {w : World} {l : List Oper} (hm : P.follows .mixedOrders = true) (hB : Region.lexB .any l.toArray = true)
    (h : wpQuiet P l.toArray (fun w' => ∃ x : Later w, w' = x.1) (fun a' => ∀ w', (∃ x : Later w, w' = x.1) → Q .normal a' w') l a) : (Code.region id l.toArray true).wp P Q a w :=
  wp_region_quiet (C := fun w' => ∃ x : Later w, w' = x.1) hm hB ⟨⟨{ w with drawn := w.drawn + 1 }, rfl, rfl, rfl, Nat.le_refl _, fun _ _ => rfl⟩, rfl⟩ (by simpa using h)

/-! A struct that is a result lies in a block of its own: the block, store by store. -/
theorem heap_old {W w1 : World} (hb : Below W.heap.size W w1) {b : Nat} {o : Obj} (h : W.heap[b]? = some o) : w1.heap[b]? = some o := by
  rw [hb.block b (Array.getElem?_eq_some_iff.1 h).1]; exact h
theorem heap_alloc {W : World} {b : Nat} {o X : Obj} (h : W.heap[b]? = some o) : (W.alloc X).heap[b]? = some o := by
  rw [Below.heap_alloc W X b (Array.getElem?_eq_some_iff.1 h).1]; exact h
theorem heap_new (W : World) (X : Obj) {b : Nat} (h : b = W.heap.size) : (W.alloc X).heap[b]? = some X := by
  subst h; exact (MapKept.heap_alloc W X).1
theorem heap_set {W : World} {b o : Nat} {c : Array Value} {t : TypeId} {fr : Nat × Nat} {v : Value} (h : W.heap[b]? = some (.cells c t fr)) : (W.setCell ⟨b, o, none⟩ v).heap[b]? = some (.cells (c.setIfInBounds o v) t fr) := by
  simp only [World.setCell, Array.getElem?_modify, if_true, h, Option.map_some]
  simp
theorem heap_set_other {W : World} {b g o : Nat} {x : Obj} {v : Value} (h : W.heap[b]? = some x) (hg : b ≠ g) : (W.setCell ⟨g, o, none⟩ v).heap[b]? = some x := by
  rw [Below.heap_setCell W _ v b hg]; exact h
theorem post_row {P : Program} {fn : Func} {R : Ending → World → Prop} {a : Act} {w : World} {p : Tmp} {ty : TypeId} {b : Nat} {t : TypeId} {cs : Array Value} {fr : Nat × Nat} {d : TypeDesc} (h : fn.results = #[.cell p ty])
    (hp : a.tmps.getD p undef = .pointer (some ⟨b, 0, none⟩)) (hg : w.heap[b]? = some (.cells cs t fr)) (hu : P.underlying ty = some d) (hd : (match d with | .struct _ | .array _ _ => true | _ => false) = true)
    (hi : (P.info? ty).map (·.size) = some cs.size) (hdf : a.defers = []) (hR : R (.returned (.agg cs)) w) : bodyPost P fn R .ret a w :=
  bodyPost_ret (results_cell_row h _ _ _ _ _ _ _ hp hg hu hd hi) hdf hR
end Go.Proofs.Ytcppgigndpepnaa
