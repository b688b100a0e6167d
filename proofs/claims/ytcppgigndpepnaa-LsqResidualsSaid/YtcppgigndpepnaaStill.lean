/-
  A region that draws its order and only loads and reckons, walked once at a world that is a letter.
  Conditions: none.
-/
import Derived.Test.YtcppgigndpepnaaBase
import Derived.StillTactics
namespace Go.Proofs.Ytcppgigndpepnaa
open Go.RowKit
theorem heap_drew {W : World} {b : Nat} {x : Obj} (h : W.heap[b]? = some x) : W.drew.heap[b]? = some x := h
theorem cell_heap {W : World} {b o : Nat} {c : Array Value} {t : TypeId} {fr : Nat × Nat} {v : Value} (h : W.heap[b]? = some (.cells c t fr)) (hv : c[o]? = some v) : W.cell? ⟨b, o, none⟩ = some v := by
  simp [World.cell?, h, hv]
theorem frozen_heap {W : World} {b o : Nat} {c : Array Value} {t : TypeId} (h : W.heap[b]? = some (.cells c t (0, 0))) : W.frozen? ⟨b, o, none⟩ = false := by
  simp [World.frozen?, h]
theorem region_still {P : Program} {id : Nat} {Q : Exit → Act → World → Prop} {a : Act} {w : World} {l : List Oper} (hm : P.follows .mixedOrders = true) (hB : Region.lexB .any l.toArray = true)
    (h : ∀ W' : World, W' = w.drew → (∀ p, W'.cell? p = w.cell? p) → wpStill P l.toArray W' (fun a' => Q .normal a' W') l a) : (Code.region id l.toArray true).wp P Q a w :=
  wp_region_still_lit hm hB (h _ rfl (fun _ => rfl))
theorem kwrap_id {x : Int} (h1 : -9223372036854775808 ≤ x) (h2 : x ≤ 9223372036854775807) : IntKind.i64.wrap x = x := by rw [IntKind.wrap_i64]; omega
theorem wrap_id {x : Int} (h1 : -9223372036854775808 ≤ x) (h2 : x ≤ 9223372036854775807) : wrap64 x = x := by unfold wrap64; omega
end Go.Proofs.Ytcppgigndpepnaa
