/-
  Numbers of limbs of 32 bits, in plain Lean: the product limb by limb.
  Conditions: none.
-/
import Derived.Test.YtcppgigndpepnaaWideMul
namespace Go.Proofs.Ytcppgigndpepnaa
open Go.RowKit
/-- The number with given limbs, the lowest first. -/
def lv : List Int → Int
  | [] => 0
  | x :: l => x + 4294967296 * lv l
def pw (j : Nat) : Int := (4294967296 : Int) ^ j
theorem pw_succ (j : Nat) : pw (j + 1) = pw j * 4294967296 := Int.pow_succ _ _
theorem pw_add (i j : Nat) : pw (i + j) = pw i * pw j := Int.pow_add _ _ _
theorem pw_pos (j : Nat) : 0 < pw j := Int.pow_pos (by decide)
theorem lv_set : ∀ (l : List Int) (j : Nat) (x y : Int), l[j]? = some x → lv (l.set j y) = lv l + (y - x) * pw j
  | [], j, x, y, h => by simp at h
  | z :: l, 0, x, y, h => by
    simp only [List.getElem?_cons_zero, Option.some.injEq] at h
    subst h
    simp only [List.set_cons_zero, lv, pw, Int.pow_zero, Int.mul_one]
    omega
  | z :: l, j + 1, x, y, h => by
    simp only [List.getElem?_cons_succ] at h
    simp only [List.set_cons_succ, lv, lv_set l j x y h, pw_succ]
    generalize pw j = P
    grind
theorem lv_take {l : List Int} {i : Nat} {x : Int} (h : l[i]? = some x) : lv (l.take (i + 1)) = lv (l.take i) + x * pw i := by
  induction l generalizing i with
  | nil => simp at h
  | cons z l ih =>
    cases i with
    | zero =>
      simp only [List.getElem?_cons_zero, Option.some.injEq] at h
      subst h
      simp [lv, pw]
    | succ i =>
      simp only [List.getElem?_cons_succ] at h
      simp only [List.take_succ_cons, lv, ih h, pw_succ]
      generalize pw i = P
      grind
/-- Limbs. -/
def limB (l : List Int) : Prop := ∀ x ∈ l, 0 ≤ x ∧ x < 4294967296
theorem lim_at {l : List Int} (h : limB l) {i : Nat} {x : Int} (g : l[i]? = some x) : 0 ≤ x ∧ x < 4294967296 := h x (List.mem_of_getElem? g)
theorem lim_set {l : List Int} (h : limB l) (j : Nat) {y : Int} (h1 : 0 ≤ y) (h2 : y < 4294967296) : limB (l.set j y) := by
  intro x hx
  rcases List.mem_or_eq_of_mem_set hx with g | g
  · exact h x g
  · subst g; exact ⟨h1, h2⟩
theorem lv_nonneg : ∀ {l : List Int}, limB l → 0 ≤ lv l
  | [], _ => Int.le_refl _
  | x :: l, h => by
    have := lv_nonneg (l := l) (fun y hy => h y (List.mem_cons_of_mem _ hy))
    have := (h x (List.mem_cons_self)).1
    unfold lv
    omega
/-- One step of the inner loop: what is carried. -/
def InnS (al bl : List Int) (i k : Nat) (l : List Int) (c : Int) : Prop :=
  l.length = 8 ∧ limB l ∧ 0 ≤ c ∧ c < 4294967296 ∧ (∀ j, i + 4 ≤ j → j < 8 → l[j]? = some 0) ∧ ∃ a, al[i]? = some a ∧ lv l + c * pw (i + k) = lv (al.take i) * lv bl + a * lv (bl.take k) * pw i
def OutS (al bl : List Int) (i : Nat) (l : List Int) : Prop :=
  l.length = 8 ∧ limB l ∧ (∀ j, i + 4 ≤ j → j < 8 → l[j]? = some 0) ∧ lv l = lv (al.take i) * lv bl
theorem out_start (al bl : List Int) : OutS al bl 0 [0, 0, 0, 0, 0, 0, 0, 0] := by
  refine ⟨rfl, ?_, ?_, ?_⟩
  · intro x hx
    have : x = 0 := by simpa using hx
    omega
  · intro j h1 h2
    obtain rfl | rfl | rfl | rfl : j = 4 ∨ j = 5 ∨ j = 6 ∨ j = 7 := by omega
    all_goals rfl
  · simp [lv]
theorem inn_start {al bl l : List Int} {i : Nat} {a : Int} (h : OutS al bl i l) (ha : al[i]? = some a) : InnS al bl i 0 l 0 := by
  obtain ⟨h1, h2, h3, h4⟩ := h
  refine ⟨h1, h2, by omega, by omega, h3, a, ha, ?_⟩
  simp [lv, h4]
/-- The word reckoned has 64 bits. -/
theorem inn_bd {a b o c : Int} (ha : 0 ≤ a ∧ a < 4294967296) (hb : 0 ≤ b ∧ b < 4294967296) (ho : 0 ≤ o ∧ o < 4294967296) (hc : 0 ≤ c ∧ c < 4294967296) : (0 ≤ a * b ∧ a * b ≤ 18446744065119617025) ∧ 0 ≤ a * b + o + c ∧ a * b + o + c < 18446744073709551616 := by
  have h1 : 0 ≤ a * b := Int.mul_nonneg ha.1 hb.1
  have h2 : a * b ≤ 4294967295 * 4294967295 := Int.mul_le_mul (by omega) (by omega) hb.1 (by omega)
  omega
theorem inn_next {al bl l : List Int} {i k : Nat} {c a b o : Int} (h : InnS al bl i k l c) (hk : k < 4) (ha : al[i]? = some a) (ha2 : 0 ≤ a ∧ a < 4294967296) (hb : bl[k]? = some b) (hb2 : 0 ≤ b ∧ b < 4294967296) (ho : l[i + k]? = some o) : InnS al bl i (k + 1) (l.set (i + k) ((a * b + o + c) % 4294967296)) ((a * b + o + c) / 4294967296) := by
  obtain ⟨h1, h2, h3, h4, h5, a', ha', h6⟩ := h
  rw [ha] at ha'
  obtain rfl := Option.some.inj ha'
  have ho2 := lim_at h2 ho
  have hbd := inn_bd ha2 hb2 ho2 ⟨h3, h4⟩
  refine ⟨by rw [List.length_set]; exact h1, lim_set h2 _ (by omega) (by omega), by omega, by omega, fun j g1 g2 => ?_, a, ha, ?_⟩
  · rw [List.getElem?_set_ne (by omega)]; exact h5 j g1 g2
  · rw [lv_set _ _ _ _ ho, lv_take hb]
    have e : (a * b + o + c) % 4294967296 = a * b + o + c - 4294967296 * ((a * b + o + c) / 4294967296) := by omega
    rw [e]
    have p1 : pw (i + (k + 1)) = pw (i + k) * 4294967296 := pw_succ _
    rw [p1, pw_add] 
    rw [pw_add] at h6
    generalize (a * b + o + c) / 4294967296 = Q
    generalize pw i = P at *
    generalize pw k = R at *
    generalize lv (bl.take k) = V at *
    generalize lv (al.take i) * lv bl = U at *
    generalize lv l = L at *
    grind
theorem out_next {al bl l : List Int} {i : Nat} {c : Int} (h : InnS al bl i 4 l c) (hi : i < 4) (hbl : bl.length = 4) : OutS al bl (i + 1) (l.set (i + 4) c) := by
  obtain ⟨h1, h2, h3, h4, h5, a, ha, h6⟩ := h
  have hz : l[i + 4]? = some 0 := h5 _ (by omega) (by omega)
  refine ⟨by rw [List.length_set]; exact h1, lim_set h2 _ h3 h4, fun j g1 g2 => ?_, ?_⟩
  · rw [List.getElem?_set_ne (by omega)]; exact h5 j (by omega) g2
  · rw [lv_set _ _ _ _ hz, lv_take ha]
    rw [List.take_of_length_le (l := bl) (by omega)] at h6
    generalize pw (i + 4) = R at *
    generalize pw i = P at *
    generalize lv l = L at *
    generalize lv bl = V at *
    generalize lv (al.take i) = U at *
    grind
/-- The end: the four lowest limbs hold the product, the others are 0. -/
theorem out_end {al bl l : List Int} (h : OutS al bl 4 l) (hal : al.length = 4) (hp : lv al * lv bl < 340282366920938463463374607431768211456) : ∃ o0 o1 o2 o3, l = [o0, o1, o2, o3, 0, 0, 0, 0] ∧ (0 ≤ o0 ∧ o0 < 4294967296) ∧ (0 ≤ o1 ∧ o1 < 4294967296) ∧ (0 ≤ o2 ∧ o2 < 4294967296) ∧ (0 ≤ o3 ∧ o3 < 4294967296) ∧ o0 + o1 * 4294967296 + o2 * 18446744073709551616 + o3 * 79228162514264337593543950336 = lv al * lv bl := by
  obtain ⟨h1, h2, _, h4⟩ := h
  rw [List.take_of_length_le (by omega)] at h4
  match l, h1 with
  | [o0, o1, o2, o3, o4, o5, o6, o7], _ =>
    have b0 := h2 o0 (by simp)
    have b1 := h2 o1 (by simp)
    have b2 := h2 o2 (by simp)
    have b3 := h2 o3 (by simp)
    have b4 := h2 o4 (by simp)
    have b5 := h2 o5 (by simp)
    have b6 := h2 o6 (by simp)
    have b7 := h2 o7 (by simp)
    simp only [lv] at h4
    have z : o4 = 0 ∧ o5 = 0 ∧ o6 = 0 ∧ o7 = 0 := by omega
    obtain ⟨rfl, rfl, rfl, rfl⟩ := z
    exact ⟨o0, o1, o2, o3, rfl, b0, b1, b2, b3, by omega⟩
theorem lv4 (a b c d : Int) : lv [a, b, c, d] = a + b * 4294967296 + c * 18446744073709551616 + d * 79228162514264337593543950336 := by simp only [lv]; omega
/-- The limbs of a number of 128 bits. -/
theorem lv_parts (m : Int) : lv [m % 18446744073709551616 % 4294967296, m % 18446744073709551616 / 4294967296, m / 18446744073709551616 % 4294967296, m / 18446744073709551616 / 4294967296] = m := by rw [lv4]; omega
theorem parts_of {a b c d m : Int} (ha : 0 ≤ a ∧ a < 4294967296) (hb : 0 ≤ b ∧ b < 4294967296) (h : a + b * 4294967296 + c * 18446744073709551616 + d * 79228162514264337593543950336 = m) : d * 4294967296 + c = m / 18446744073709551616 ∧ b * 4294967296 + a = m % 18446744073709551616 := by omega
/-! The operations on bits. -/
theorem and32 {x : Int} (h1 : 0 ≤ x) (h2 : x < 18446744073709551616) : bits .and .u64 x 4294967295 = x % 4294967296 := by
  obtain ⟨x, rfl⟩ := Int.eq_ofNat_of_zero_le h1
  have h := u64_and_nat x 4294967295 (by omega) (by omega)
  have e : x &&& 4294967295 = x % 4294967296 := Nat.and_two_pow_sub_one_eq_mod x 32
  rw [e] at h
  simpa using h
theorem or32 {x y : Int} (h1 : 0 ≤ x) (h2 : x < 4294967296) (g1 : 0 ≤ y) (g2 : y < 4294967296) : bits .or .u64 (x * 4294967296) y = x * 4294967296 + y := by
  obtain ⟨x, rfl⟩ := Int.eq_ofNat_of_zero_le h1
  obtain ⟨y, rfl⟩ := Int.eq_ofNat_of_zero_le g1
  have h := u64_or_nat (x * 4294967296) y (by omega) (by omega)
  have e : x * 4294967296 ||| y = x * 4294967296 + y := by
    have := Nat.shiftLeft_add_eq_or_of_lt (b := y) (i := 32) (by omega) x
    rw [Nat.shiftLeft_eq] at this
    exact this.symm
  rw [e] at h
  simpa using h
end Go.Proofs.Ytcppgigndpepnaa
