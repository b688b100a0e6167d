/-
  Contracts of path.Fits and of the reference's Fits.
  Conditions: none.
-/
import Derived.Test.YtmdledlbkdcmnaaRLines
namespace Go.Proofs.Ytmdledlbkdcmnaa
open Go.RowKit
def outP (p : Int × Int) : Prop := p.1 < 0 ∨ 8000 < p.1 ∨ p.2 < -1099511627776 ∨ 1099511627776 < p.2
instance (p : Int × Int) : Decidable (outP p) := by unfold outP; infer_instance
def ordA (a b : Int × Int) : Int × Int := if b.1 < a.1 then b else a
def ordB (a b : Int × Int) : Int × Int := if b.1 < a.1 then a else b
def pfE (l : List SN) (ax : Int) (a b : Int × Int) : Int := if bndE l ax ≠ 0 then bndE l ax else if outP a ∨ outP b then 2 else if a.1 = b.1 then 1 else 0
def pfB (l : List SN) (ax : Int) (a b : Int × Int) : Bool := decide (pfE l ax a b = 0) && fitL (bnds ax (bhdL l)) (ordA a b) (ordB a b)
def pfV (l : List SN) (ax : Int) (a b : Int × Int) : Value := .tuple #[.bool (pfB l ax a b), .int .i64 (pfE l ax a b)]
theorem pfV_bad {l : List SN} {ax : Int} {a b : Int × Int} {e : Int} (h : pfE l ax a b = e) (hne : e ≠ 0) : pfV l ax a b = .tuple #[.bool false, .int .i64 e] := by
  unfold pfV pfB; rw [h, decide_eq_false hne, Bool.false_and]
theorem in_of {a b : Int × Int} (h : ¬(outP a ∨ outP b)) : (0 ≤ a.1 ∧ a.1 ≤ 8000) ∧ (-1099511627776 ≤ a.2 ∧ a.2 ≤ 1099511627776) ∧ (0 ≤ b.1 ∧ b.1 ≤ 8000) ∧ (-1099511627776 ≤ b.2 ∧ b.2 ≤ 1099511627776) := by
  unfold outP at h; omega
theorem valN_eq (a b : Int × Int) (t : Int) : a.2 * (b.1 - a.1) + (b.2 - a.2) * (t - a.1) = valN a b t := by unfold valN; grind
theorem fitO_no {a b : Int × Int} {o : BD} (h : valN a b o.1 < o.2.1 * (b.1 - a.1) ∨ o.2.2 * (b.1 - a.1) < valN a b o.1) : fitO a b o = false := by
  unfold fitO; rw [Bool.and_eq_false_iff, decide_eq_false_iff_not, decide_eq_false_iff_not]; omega
theorem fitL_no {l : List BD} {a b : Int × Int} {o : BD} {i : Nat} (hi : l[i]? = some o) (h : fitO a b o = false) : false = fitL l a b := by
  unfold fitL; exact (List.all_eq_false.2 ⟨o, List.mem_of_getElem? hi, by simp [h]⟩).symm
theorem fitL_all {l : List BD} {a b : Int × Int} (h : ∀ (i : Nat) (o : BD), l[i]? = some o → fitO a b o = true) : true = fitL l a b := by
  unfold fitL; exact (List.all_eq_true.2 fun o ho => by
    obtain ⟨i, hi, e⟩ := List.getElem_of_mem ho
    exact h i o (by rw [← e]; exact List.getElem?_eq_getElem hi)).symm
theorem val_bd {a b : Int × Int} {t : Int} (h : (0 ≤ a.1 ∧ a.1 ≤ 8000) ∧ (-1099511627776 ≤ a.2 ∧ a.2 ≤ 1099511627776) ∧ (0 ≤ b.1 ∧ b.1 ≤ 8000) ∧ (-1099511627776 ≤ b.2 ∧ b.2 ≤ 1099511627776)) (h1 : 0 ≤ t) (h2 : t ≤ 4000) :
    (-8796093022208000 ≤ a.2 * (b.1 - a.1) ∧ a.2 * (b.1 - a.1) ≤ 8796093022208000) ∧ (-17592186044416000 ≤ (b.2 - a.2) * (t - a.1) ∧ (b.2 - a.2) * (t - a.1) ≤ 17592186044416000) ∧ (-8796093022208000 ≤ a.2 * (b.1 - t) ∧ a.2 * (b.1 - t) ≤ 8796093022208000) ∧ (-8796093022208000 ≤ b.2 * (t - a.1) ∧ b.2 * (t - a.1) ≤ 8796093022208000) := by
  have p1 := mul_bd (A := 1099511627776) (B := 8000) (a := a.2) (b := b.1 - a.1) (by omega) (by omega) (by omega) (by omega)
  have p2 := mul_bd (A := 2199023255552) (B := 8000) (a := b.2 - a.2) (b := t - a.1) (by omega) (by omega) (by omega) (by omega)
  have p3 := mul_bd (A := 1099511627776) (B := 8000) (a := a.2) (b := b.1 - t) (by omega) (by omega) (by omega) (by omega)
  have p4 := mul_bd (A := 1099511627776) (B := 8000) (a := b.2) (b := t - a.1) (by omega) (by omega) (by omega) (by omega)
  omega
theorem bnd_bd {v d : Int} (h1 : -20000000000 ≤ v) (h2 : v ≤ 20000000000) (h3 : 0 ≤ d) (h4 : d ≤ 8000) : -160000000000000 ≤ v * d ∧ v * d ≤ 160000000000000 :=
  mul_bd (A := 20000000000) (B := 8000) h1 h2 (by omega) h4
theorem pfE_bnd {l : List SN} {ax : Int} {a b : Int × Int} (h : bndE l ax ≠ 0) : pfE l ax a b = bndE l ax := by unfold pfE; rw [if_pos h]
theorem pfE_out {l : List SN} {ax : Int} {a b : Int × Int} (h : bndE l ax = 0) (h2 : outP a ∨ outP b) : pfE l ax a b = 2 := by unfold pfE; rw [if_neg (fun e => e h), if_pos h2]
theorem pfE_eq {l : List SN} {ax : Int} {a b : Int × Int} (h : bndE l ax = 0) (h2 : ¬(outP a ∨ outP b)) (h3 : a.1 = b.1) : pfE l ax a b = 1 := by unfold pfE; rw [if_neg (fun e => e h), if_neg h2, if_pos h3]
theorem pfE_ok {l : List SN} {ax : Int} {a b : Int × Int} (h : bndE l ax = 0) (h2 : ¬(outP a ∨ outP b)) (h3 : ¬a.1 = b.1) : pfE l ax a b = 0 := by unfold pfE; rw [if_neg (fun e => e h), if_neg h2, if_neg h3]
theorem pfV_ok {l : List SN} {ax : Int} {a b : Int × Int} (h : pfE l ax a b = 0) : pfV l ax a b = .tuple #[.bool (fitL (bnds ax (bhdL l)) (ordA a b) (ordB a b)), .int .i64 0] := by
  unfold pfV pfB; rw [h, decide_eq_true rfl, Bool.true_and]
end Go.Proofs.Ytmdledlbkdcmnaa
