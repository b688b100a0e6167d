/-
  A slice that holds points; contracts of points, ours and the reference's.
  Conditions: none.
-/
import Derived.Test.YtmdledlbkdcmnaaLsqPlain
import Derived.OwnWalk
import Derived.Lib.Hide
namespace Go.Proofs.Ytmdledlbkdcmnaa
open Go.RowKit

/-- The slice v holds the points ps. -/
def Pts (w : World) (v : Value) (ps : List PT) : Prop :=
  ∃ (pa : Option Addr) (b o cap : Nat), v = .slice pa ps.length cap ∧ (0 < ps.length → pa = some ⟨b, o, none⟩) ∧ ps.length ≤ cap ∧ cap ≤ maxLen ∧
    ∀ i p, ps[i]? = some p → w.cell? ⟨b, o + i * 2, none⟩ = some (.int .i64 p.1) ∧ w.cell? ⟨b, o + i * 2 + 1, none⟩ = some (.int .i64 p.2)
theorem Pts.below {w w' : World} {v : Value} {ps : List PT} (h : Pts w v ps) (hb : Below w.heap.size w w') : Pts w' v ps := by
  obtain ⟨pa, b, o, cap, rfl, h1, h2, h3, h4⟩ := h
  refine ⟨pa, b, o, cap, rfl, h1, h2, h3, fun i p hp => ?_⟩
  obtain ⟨c0, c1⟩ := h4 i p hp
  have hx := (after hb).1
  exact ⟨(hx _ _ (by simp [c0])).trans c0, (hx _ _ (by simp [c1])).trans c1⟩
def inB (n k : Int) : Bool := decide (-k ≤ n) && decide (n ≤ k)
theorem all_next {ps : List PT} {i : Nat} {p : PT} (h : (ps.take i).all okP = true) (hp : ps[i]? = some p) (hk : okP p = true) : (ps.take (i + 1)).all okP = true := by
  rw [List.take_add_one, hp]; simp only [Option.toList_some, List.all_append, h, List.all_cons, hk, List.all_nil, Bool.and_true]
theorem pts_bad {ps : List PT} {i : Nat} {p : PT} (hp : ps[i]? = some p) (h1 : ¬ 64 < ps.length) (h2 : ¬ ps.length < 2) (hk : okP p = false) : 2 = ptsE ps := by
  unfold ptsE
  rw [if_neg h1, if_neg h2, if_neg]
  intro h
  have := List.all_eq_true.1 h p (List.mem_of_getElem? hp)
  rw [hk] at this
  exact Bool.noConfusion this
theorem pts_good {ps : List PT} {i : Nat} (h : (ps.take i).all okP = true) (hi : ps.length ≤ i) (h1 : ¬ 64 < ps.length) (h2 : ¬ ps.length < 2) : 0 = ptsE ps := by
  rw [List.take_of_length_le hi] at h
  unfold ptsE
  rw [if_neg h1, if_neg h2, if_pos h]
end Go.Proofs.Ytmdledlbkdcmnaa
