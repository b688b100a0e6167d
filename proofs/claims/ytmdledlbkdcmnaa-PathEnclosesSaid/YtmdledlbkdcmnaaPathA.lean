/-
  Contracts of path.behind, through, floor, ceil, bounds.
  Conditions: none.
-/
import Derived.Test.YtmdledlbkdcmnaaPathPlain
import Derived.Test.YtmdledlbkdcmnaaRBehind
import Derived.Test.YtmdledlbkdcmnaaHeld
import Derived.Test.YtmdledlbkdcmnaaCeil
import Derived.Test.YtmdledlbkdcmnaaRaise
import Derived.Deep.RegionWith
namespace Go.Proofs.Ytmdledlbkdcmnaa
open Go.RowKit
set_option maxHeartbeats 1000000 in
theorem pbehind_any (v : Value) (l : List SN) (w : World) (h : Seens w v l) : Calls Try.prog 55 #[v] w fun e w' => (∃ u, e = .returned (.tuple #[u, .int .i64 (behE l)]) ∧ (behE l = 0 → Seens w' u (bhdL l))) ∧ Below w.heap.size w w' := by
  by_cases hc : chkE l = 0
  · have hc' : (chkE l != 0) = false := by simp [hc]
    by_cases hl : (bhdL l).length < 2
    · have e1 : behE l = 1 := by unfold behE; rw [if_neg (fun h => h hc), if_pos hl]
      rw [e1]
      clear hc e1
      go_enter Try.func55, Try.ntmps55
      go_wp2_with (first | (go_at_call 66; refine (check_any _ _ _ (h.below (by repeat (first | with_reducible exact Below.refl _ _ | with_reducible assumption | with_reducible refine Below.drew ?_ | with_reducible refine Below.setCell ?_ (by first | omega | (simp; omega) | simp) _ | with_reducible refine Below.alloc ?_ (by first | omega | (simp; omega) | simp) _ | with_reducible refine Below.trans ?_ (Below.mono (by with_reducible assumption) (by first | omega | (simp; omega) | simp)))))).mono ?_; rintro e w1 ⟨⟨k0, rfl⟩, hb1⟩) | (go_at_call 76; refine (behind_any _ _ _ ((h.below (by repeat (first | with_reducible exact Below.refl _ _ | with_reducible assumption | with_reducible refine Below.drew ?_ | with_reducible refine Below.setCell ?_ (by first | omega | (simp; omega) | simp) _ | with_reducible refine Below.alloc ?_ (by first | omega | (simp; omega) | simp) _ | with_reducible refine Below.trans ?_ (Below.mono (by with_reducible assumption) (by first | omega | (simp; omega) | simp))))).below hb1)).mono ?_; rintro e w2 ⟨u, rfl, hs2, hb2⟩; have hB2 : Below w.heap.size w w2 := Below.next hb1 (Nat.le_refl _) hb2; obtain ⟨pa, b, o, cap, rfl, g1, g2, g3, g4⟩ := hs2))
      go_ret2
      exact ⟨⟨_, rfl, fun h => by cases h⟩, hB2⟩
    · have e1 : behE l = 0 := by unfold behE; rw [if_neg (fun h => h hc), if_neg hl]
      rw [e1]
      clear hc e1
      go_enter Try.func55, Try.ntmps55
      go_wp2_with (first | (go_at_call 66; refine (check_any _ _ _ (h.below (by repeat (first | with_reducible exact Below.refl _ _ | with_reducible assumption | with_reducible refine Below.drew ?_ | with_reducible refine Below.setCell ?_ (by first | omega | (simp; omega) | simp) _ | with_reducible refine Below.alloc ?_ (by first | omega | (simp; omega) | simp) _ | with_reducible refine Below.trans ?_ (Below.mono (by with_reducible assumption) (by first | omega | (simp; omega) | simp)))))).mono ?_; rintro e w1 ⟨⟨k0, rfl⟩, hb1⟩) | (go_at_call 76; refine (behind_any _ _ _ ((h.below (by repeat (first | with_reducible exact Below.refl _ _ | with_reducible assumption | with_reducible refine Below.drew ?_ | with_reducible refine Below.setCell ?_ (by first | omega | (simp; omega) | simp) _ | with_reducible refine Below.alloc ?_ (by first | omega | (simp; omega) | simp) _ | with_reducible refine Below.trans ?_ (Below.mono (by with_reducible assumption) (by first | omega | (simp; omega) | simp))))).below hb1)).mono ?_; rintro e w2 ⟨u, rfl, hs2, hb2⟩; have hB2 : Below w.heap.size w w2 := Below.next hb1 (Nat.le_refl _) hb2; have hs3 := hs2; obtain ⟨pa, b, o, cap, rfl, g1, g2, g3, g4⟩ := hs2))
      go_ret2
      exact ⟨⟨_, rfl, fun _ => hs3⟩, hB2⟩
  · have e1 : behE l = chkE l := by unfold behE; rw [if_pos hc]
    have hc' : (chkE l != 0) = true := by simp [hc]
    have hC := Lib.hid hc
    rw [e1]
    clear hc e1
    go_enter Try.func55, Try.ntmps55
    go_wp2_with (go_at_call 66; refine (check_any _ _ _ (h.below (by repeat (first | with_reducible exact Below.refl _ _ | with_reducible assumption | with_reducible refine Below.drew ?_ | with_reducible refine Below.setCell ?_ (by first | omega | (simp; omega) | simp) _ | with_reducible refine Below.alloc ?_ (by first | omega | (simp; omega) | simp) _ | with_reducible refine Below.trans ?_ (Below.mono (by with_reducible assumption) (by first | omega | (simp; omega) | simp)))))).mono ?_; rintro e w1 ⟨⟨k0, rfl⟩, hb1⟩)
    go_ret2
    exact ⟨⟨_, rfl, fun h => absurd h hC.out⟩, hb1⟩
theorem through_any (t v u x : Int) (h1 : -20000000000 ≤ t ∧ t ≤ 20000000000) (h2 : -2000000000000 ≤ v ∧ v ≤ 2000000000000) (h3 : -20000000000 ≤ u ∧ u ≤ 20000000000) (h4 : -2000000000000 ≤ x ∧ x ≤ 2000000000000) (w : World) :
    Calls Try.prog 74 #[.int .i64 t, .int .i64 v, .int .i64 u, .int .i64 x] w fun e w' => e = .returned (.agg #[.int .i64 t, .int .i64 v, .int .i64 (u - t), .int .i64 (x - v)]) ∧ Below w.heap.size w w' := by
  obtain ⟨a1, a2⟩ := h1
  obtain ⟨b1, b2⟩ := h2
  obtain ⟨c1, c2⟩ := h3
  obtain ⟨d1, d2⟩ := h4
  go_enter Try.func74, Try.ntmps74
  go_wp2_with fail
  refine bodyPost_ret (v := .agg #[.int .i64 t, .int .i64 v, .int .i64 (u - t), .int .i64 (x - v)]) (by simp only [results, Try.results74]; go_simp) rfl ⟨rfl, (by repeat (first | with_reducible exact Below.refl _ _ | with_reducible assumption | with_reducible refine Below.drew ?_ | with_reducible refine Below.setCell ?_ (by first | omega | (simp; omega) | simp) _ | with_reducible refine Below.alloc ?_ (by first | omega | (simp; omega) | simp) _ | with_reducible refine Below.trans ?_ (Below.mono (by with_reducible assumption) (by first | omega | (simp; omega) | simp))))⟩
def lnA (x : LN) : Value := .agg #[.int .i64 x.1, .int .i64 x.2.1, .int .i64 x.2.2.1, .int .i64 x.2.2.2]
set_option maxHeartbeats 1000000 in
theorem floor_any (x : LN) (t : Int) (h : okN x) (h1 : -10 ≤ t) (h2 : t ≤ 5000) (w : World) : Calls Try.prog 106 #[lnA x, .int .i64 t] w fun e w' => e = .returned (.int .i64 (flL x t)) ∧ Below w.heap.size w w' := by
  obtain ⟨n1, n2⟩ := num_bd h h1 h2
  obtain ⟨q1, q2⟩ := flL_bd h h1 h2
  obtain ⟨⟨a1, a2⟩, ⟨b1, b2⟩, ⟨c1, c2⟩, d1, d2⟩ := h
  have hf := fun w => floordiv_any (x.2.2.2 * (t - x.1)) x.2.2.1 (by omega) (by omega) (by omega) (by omega) w
  have hF := Lib.hid hf
  clear hf
  unfold flL at q1 q2 ⊢
  unfold lnA
  obtain ⟨x1, x2, x3, x4⟩ := x
  simp only at *
  generalize x4 * (t - x1) / x3 = q at *
  go_enter Try.func106, Try.ntmps106
  go_wp2_with (go_at_call 120; refine (hF.out _).mono ?_; rintro e w2 ⟨rfl, hb2⟩; have hK := Below.next1 (Below.refl w.heap.size w) (Nat.le_refl _) hb2; have hX := heap_old hb2 (heap_new _ _ rfl); have g1 := cell_heap (o := 1) hX rfl)
  go_ret
  exact ⟨rfl, hK⟩
set_option maxHeartbeats 1000000 in
theorem ceil_any (x : LN) (t : Int) (h : okN x) (h1 : -10 ≤ t) (h2 : t ≤ 5000) (w : World) : Calls Try.prog 107 #[lnA x, .int .i64 t] w fun e w' => e = .returned (.int .i64 (ceL x t)) ∧ Below w.heap.size w w' := by
  obtain ⟨n1, n2⟩ := num_bd h h1 h2
  obtain ⟨q1, q2⟩ := ceL_bd h h1 h2
  obtain ⟨⟨a1, a2⟩, ⟨b1, b2⟩, ⟨c1, c2⟩, d1, d2⟩ := h
  have hf := fun w => ceildiv_any (x.2.2.2 * (t - x.1)) x.2.2.1 (by omega) (by omega) (by omega) (by omega) w
  have hF := Lib.hid hf
  clear hf
  unfold ceL at q1 q2 ⊢
  unfold lnA
  obtain ⟨x1, x2, x3, x4⟩ := x
  simp only at *
  generalize -(-(x4 * (t - x1)) / x3) = q at *
  go_enter Try.func107, Try.ntmps107
  go_wp2_with (go_at_call 121; refine (hF.out _).mono ?_; rintro e w2 ⟨rfl, hb2⟩; have hK := Below.next1 (Below.refl w.heap.size w) (Nat.le_refl _) hb2; have hX := heap_old hb2 (heap_new _ _ rfl); have g1 := cell_heap (o := 1) hX rfl)
  go_ret
  exact ⟨rfl, hK⟩
theorem cells_here {w : World} {b : Nat} {cs : List Value} {t : TypeId} {fr : Nat × Nat} (h : w.heap[b]? = some (.cells cs.toArray t fr)) : ∀ j u, cs[j]? = some u → w.cell? ((⟨b, 0, none⟩ : Addr).add j) = some u := by
  intro j u hu
  rw [Addr.add_lit, Nat.zero_add]
  exact cell_heap h (by simpa using hu)
def zeroB : Value := .agg #[.int .i64 0, .int .i64 0, .int .i64 0]
theorem take_map_next {α β : Type} {l : List α} {i : Nat} {s : α} (f : α → β) (h : l[i]? = some s) : (l.map f).take (i + 1) = (l.map f).take i ++ [f s] := by
  rw [List.take_add_one, List.getElem?_map, h]; rfl
set_option maxRecDepth 100000 in
set_option maxHeartbeats 4000000 in
theorem bounds0 (v : Value) (l : List SN) (w : World) (h : Seens w v l) (hok : ∀ s ∈ l, okS s = true) (hl : l.length ≤ 64) : Calls Try.prog 57 #[v, .int .i64 0] w fun e w' => ∃ u, e = .returned u ∧ Bnds w' u (bnds 0 l) ∧ Below w.heap.size w w' := by
  obtain ⟨i0, hi0, hz0, hz1, hz2⟩ := info_parts (P := Try.prog) (e := 124) (z := zeroB) (size := 3) (bytes := 24) (by kernel_rfl)
  obtain ⟨pa, b, o, cap, rfl, h1, h2, h3, h4⟩ := h
  have hcap : cap ≤ 9223372036854775807 := by unfold maxLen at h3; omega
  go_enter Try.func57, Try.ntmps57
  go_wp2_with fail
  go_loopw [5, 11] (fun u x wr => ∃ k : Nat, k ≤ l.length ∧ x = .int .i64 k ∧ Below w.heap.size w wr ∧ wr.ownsRow w.heap.size 124 3 u ((bnds 0 l).take k).length (((bnds 0 l).take k).flatMap cB)) (fun _ x _ => l.length - (intOf x).toNat)
  case atStart => exact ⟨0, by omega, rfl, (by repeat (first | with_reducible exact Below.refl _ _ | with_reducible assumption | with_reducible refine Below.drew ?_ | with_reducible refine Below.setCell ?_ (by first | omega | (simp; omega) | simp) _ | with_reducible refine Below.alloc ?_ (by first | omega | (simp; omega) | simp) _ | with_reducible refine Below.trans ?_ (Below.mono (by with_reducible assumption) (by first | omega | (simp; omega) | simp)))), by simpa using World.ownsRow_nil _ _ _ _⟩
  case round =>
    obtain ⟨k, hk, rfl, hb0, hO⟩ := hrel
    have hlenk : ((bnds 0 l).take k).length = k := by rw [List.length_take, bnds_len]; omega
    have hsz := hb0.size
    rcases Nat.lt_or_ge k l.length with hlt | hge
    · obtain rfl := h1 (by omega)
      obtain ⟨s, hs⟩ : ∃ s, l[k]? = some s := ⟨_, List.getElem?_eq_getElem hlt⟩
      obtain ⟨c0, c1, c2, c3, c4⟩ := (h4 k s hs).below hb0
      obtain ⟨⟨a1, a2⟩, ⟨a3, a4⟩, ⟨a5, a6⟩, ⟨a7, a8⟩, a9, a10⟩ := okS_iff.1 (hok s (List.mem_of_getElem? hs))
      have hTT := Lib.hid (take_map_next (bndS 0) hs)
      have hn : l.length - (k + 1) < l.length - k := by omega
      clear hs h4 hok
      unfold bnds at *
      generalize (l.map (bndS 0)).take k = P at *
      go_wp2_with (at_builtin; refine wpList_append_own _ rfl _ _ 93 rfl w.heap.size 124 i0 zeroB 3 24 Try.underlying93 hi0 hz0 hz1 hz2 rfl (by decide) _ _ _ rfl (own_below hO (by repeat (first | with_reducible exact Below.refl _ _ | with_reducible assumption | with_reducible refine Below.drew ?_ | with_reducible refine Below.setCell ?_ (by first | omega | (simp; omega) | simp) _ | with_reducible refine Below.alloc ?_ (by first | omega | (simp; omega) | simp) _ | with_reducible refine Below.trans ?_ (Below.mono (by with_reducible assumption) (by first | omega | (simp; omega) | simp))))) ⟨_, 0, none⟩ 1 1 (cB (bX s)) rfl rfl ?_ (cB_one _) (by unfold maxLen; omega) (by omega) (by simp; omega) ?_; rotate_left; intro u' w5 ho5 hg5 hnil5)
      · refine ⟨⟨k + 1, hlt, by simp, ?_, ?_⟩, by simpa [intOf] using hn⟩
        · exact Below.grown (by repeat (first | with_reducible exact Below.refl _ _ | with_reducible assumption | with_reducible refine Below.drew ?_ | with_reducible refine Below.setCell ?_ (by first | omega | (simp; omega) | simp) _ | with_reducible refine Below.alloc ?_ (by first | omega | (simp; omega) | simp) _ | with_reducible refine Below.trans ?_ (Below.mono (by with_reducible assumption) (by first | omega | (simp; omega) | simp)))) hg5 (by simp; omega) (fun q hq => by have := (hO.lt q hq).1; omega)
        · rw [hTT.out]; exact own_push ho5
      · exact fun _ _ h => h
    · obtain rfl : k = l.length := by omega
      rw [List.take_of_length_le (by rw [bnds_len]; omega)] at hO
      clear hlenk
      go_wp2_with fail
      go_ret
      exact ⟨_, rfl, held_own cB_len hO, hb0⟩
end Go.Proofs.Ytmdledlbkdcmnaa
