/-
  Three rows of points of one's own, apart from each other.
  Conditions: none.
-/
import Derived.Test.YtmdledlbkdcmnaaOfPts
import Derived.Maps.AppendAt
namespace Go.Proofs.Ytmdledlbkdcmnaa
open Go.RowKit
/-- No row of the one is a row of the other. -/
def Apart (a b : Value) : Prop := ∀ g, a.ownBlock = some g → b.ownBlock ≠ some g
theorem Apart.symm {a b : Value} (h : Apart a b) : Apart b a := fun g hb ha => h g ha hb
theorem Apart.or {a b : Value} (h : Apart a b) : a.ownBlock = none ∨ a.ownBlock ≠ b.ownBlock := by
  cases ha : a.ownBlock with
  | none => exact .inl rfl
  | some g => exact .inr fun e => h g ha e.symm
theorem Apart.grow {a a' b : Value} {n : Nat} (h : Apart a b) (hat : a'.ownBlock = a.ownBlock ∨ a'.ownBlock = some n) (hb : ∀ g, b.ownBlock = some g → g < n) : Apart a' b := by
  intro g ha hg
  rcases hat with e | e
  · exact h g (e ▸ ha) hg
  · have := hb g hg
    rw [e] at ha
    obtain rfl := Option.some.inj ha
    omega
structure Own3 (t : TypeId) (base : Nat) (w : World) (x y z : Value) (X Y Z : List PT) : Prop where
  hx : w.ownsRow base t 2 x X.length (X.flatMap cells2)
  hy : w.ownsRow base t 2 y Y.length (Y.flatMap cells2)
  hz : w.ownsRow base t 2 z Z.length (Z.flatMap cells2)
  xy : Apart x y
  xz : Apart x z
  yz : Apart y z
theorem Own3.nil (t : TypeId) (base : Nat) (w : World) : Own3 t base w (.slice none 0 0) (.slice none 0 0) (.slice none 0 0) [] [] [] :=
  ⟨World.ownsRow_nil _ _ _ _, World.ownsRow_nil _ _ _ _, World.ownsRow_nil _ _ _ _, fun g h => by simp [Value.ownBlock] at h, fun g h => by simp [Value.ownBlock] at h, fun g h => by simp [Value.ownBlock] at h⟩
section
variable {t : TypeId} {base : Nat} {w w' : World} {x y z v : Value} {X Y Z : List PT} {p : PT}
theorem Own3.below (h : Own3 t base w x y z X Y Z) (hb : Below w.heap.size w w') : Own3 t base w' x y z X Y Z := ⟨own_below h.hx hb, own_below h.hy hb, own_below h.hz hb, h.xy, h.xz, h.yz⟩
theorem Own3.alloc (h : Own3 t base w x y z X Y Z) (o : Obj) : Own3 t base (w.alloc o) x y z X Y Z := ⟨h.hx.alloc _, h.hy.alloc _, h.hz.alloc _, h.xy, h.xz, h.yz⟩
theorem push_len {X : List PT} {v : Value} (o : w'.ownsRow base t 2 v (X.length + 1) (X.flatMap cells2 ++ cells2 p)) : w'.ownsRow base t 2 v (X ++ [p]).length ((X ++ [p]).flatMap cells2) := by
  simpa [List.flatMap_append] using o
theorem Own3.pushX (h : Own3 t base w x y z X Y Z) (o : w'.ownsRow base t 2 v (X.length + 1) (X.flatMap cells2 ++ cells2 p)) (g : w.grownBy w' x.ownBlock) (a : v.ownBlock = x.ownBlock ∨ v.ownBlock = some w.heap.size) : Own3 t base w' v y z (X ++ [p]) Y Z :=
  ⟨push_len o, h.hy.kept g h.xy.symm.or, h.hz.kept g h.xz.symm.or, h.xy.grow a (fun q hq => (h.hy.lt q hq).2), h.xz.grow a (fun q hq => (h.hz.lt q hq).2), h.yz⟩
theorem Own3.pushY (h : Own3 t base w x y z X Y Z) (o : w'.ownsRow base t 2 v (Y.length + 1) (Y.flatMap cells2 ++ cells2 p)) (g : w.grownBy w' y.ownBlock) (a : v.ownBlock = y.ownBlock ∨ v.ownBlock = some w.heap.size) : Own3 t base w' x v z X (Y ++ [p]) Z :=
  ⟨h.hx.kept g h.xy.or, push_len o, h.hz.kept g h.yz.symm.or, (h.xy.symm.grow a (fun q hq => (h.hx.lt q hq).2)).symm, h.xz, h.yz.grow a (fun q hq => (h.hz.lt q hq).2)⟩
theorem Own3.pushZ (h : Own3 t base w x y z X Y Z) (o : w'.ownsRow base t 2 v (Z.length + 1) (Z.flatMap cells2 ++ cells2 p)) (g : w.grownBy w' z.ownBlock) (a : v.ownBlock = z.ownBlock ∨ v.ownBlock = some w.heap.size) : Own3 t base w' x y v X Y (Z ++ [p]) :=
  ⟨h.hx.kept g h.xz.or, h.hy.kept g h.yz.or, push_len o, h.xy, (h.xz.symm.grow a (fun q hq => (h.hx.lt q hq).2)).symm, (h.yz.symm.grow a (fun q hq => (h.hy.lt q hq).2)).symm⟩
end
theorem own_pts {t : TypeId} {base : Nat} {w : World} {v : Value} {L : List PT} (h : w.ownsRow base t 2 v L.length (L.flatMap cells2)) : Pts w v L := by
  rcases h.2 with ⟨rfl, h0⟩ | ⟨g, cap, cur, rfl, hg, hh, h1, h2, h3, h4⟩
  · refine ⟨none, 0, 0, 0, by rw [h0], fun hp => by omega, by omega, by omega, fun i p hp => ?_⟩
    have := (List.getElem?_eq_some_iff.1 hp).1
    omega
  · refine ⟨_, g, 0, cap, rfl, fun _ => rfl, h1, h2, fun i p hp => ?_⟩
    have hi := (List.getElem?_eq_some_iff.1 hp).1
    obtain ⟨a, b⟩ := cells2_at L i p hp
    have e1 := World.ownsRow.cellAt h (i * 2) (by omega)
    have e2 := World.ownsRow.cellAt h (i * 2 + 1) (by omega)
    rw [Nat.zero_add, e1, e2]
    exact ⟨a, b⟩
theorem own_slice {w : World} {base size n : Nat} {e : TypeId} {v : Value} {xs : List Value} (h : w.ownsRow base e size v n xs) : ∃ p c, v = .slice p n c := by
  rcases h.2 with ⟨rfl, rfl⟩ | ⟨g, cap, cur, rfl, _⟩
  · exact ⟨_, _, rfl⟩
  · exact ⟨_, _, rfl⟩
end Go.Proofs.Ytmdledlbkdcmnaa
