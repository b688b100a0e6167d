/-
  Contracts and laws, merged: PathA PathB1 PathB2 Fits Rims Enclose During Lines.
  Conditions: none.
-/
import Derived.Test.YtmdledlbkdcmnaaM1
import Derived.Test.YtmdledlbkdcmnaaM2
import Derived.Deep.RegionWith
import Derived.Test.YtmdledlbkdcmnaaM3
set_option linter.unusedSimpArgs false
set_option linter.unusedVariables false
/-
  Contracts of path.behind, through, floor, ceil, bounds.
  Conditions: none.
-/
namespace Go.Proofs.Ytmdledlbkdcmnaa
open Go.RowKit
set_option maxHeartbeats 1000000 in
theorem pbehind_any (v : Value) (l : List SN) (w : World) (h : Seens w v l) : Calls Try.prog 55 #[v] w fun e w' => (∃ u, e = .returned (.tuple #[u, .int .i64 (behE l)]) ∧ (behE l = 0 → Seens w' u (bhdL l))) ∧ Below w.heap.size w w' := by
  by_cases hc : chkE l = 0
  · have hc' : (chkE l != 0) = false := by simp [hc]
    by_cases hl : (bhdL l).length < 2
    · have e1 : behE l = 1 := by unfold behE; rw [if_neg (fun h => h hc), if_pos hl]
      rw [e1]
      clear hc e1
      go_enter Try.func55, Try.ntmps55
      go_wp2_with (first | (go_at_call 66; refine (check_any _ _ _ (h.below (by repeat (first | with_reducible exact Below.refl _ _ | with_reducible assumption | with_reducible refine Below.drew ?_ | with_reducible refine Below.setCell ?_ (by first | omega | (simp; omega) | simp) _ | with_reducible refine Below.alloc ?_ (by first | omega | (simp; omega) | simp) _ | with_reducible refine Below.trans ?_ (Below.mono (by with_reducible assumption) (by first | omega | (simp; omega) | simp)))))).mono ?_; rintro e w1 ⟨⟨k0, rfl⟩, hb1⟩) | (go_at_call 76; refine (behind_any _ _ _ ((h.below (by repeat (first | with_reducible exact Below.refl _ _ | with_reducible assumption | with_reducible refine Below.drew ?_ | with_reducible refine Below.setCell ?_ (by first | omega | (simp; omega) | simp) _ | with_reducible refine Below.alloc ?_ (by first | omega | (simp; omega) | simp) _ | with_reducible refine Below.trans ?_ (Below.mono (by with_reducible assumption) (by first | omega | (simp; omega) | simp))))).below hb1)).mono ?_; rintro e w2 ⟨u, rfl, hs2, hb2⟩; have hB2 : Below w.heap.size w w2 := Below.next hb1 (Nat.le_refl _) hb2; obtain ⟨pa, b, o, cap, rfl, g1, g2, g3, g4⟩ := hs2))
      go_ret2
      exact ⟨⟨_, rfl, fun h => by cases h⟩, hB2⟩
    · have e1 : behE l = 0 := by unfold behE; rw [if_neg (fun h => h hc), if_neg hl]
      rw [e1]
      clear hc e1
      go_enter Try.func55, Try.ntmps55
      go_wp2_with (first | (go_at_call 66; refine (check_any _ _ _ (h.below (by repeat (first | with_reducible exact Below.refl _ _ | with_reducible assumption | with_reducible refine Below.drew ?_ | with_reducible refine Below.setCell ?_ (by first | omega | (simp; omega) | simp) _ | with_reducible refine Below.alloc ?_ (by first | omega | (simp; omega) | simp) _ | with_reducible refine Below.trans ?_ (Below.mono (by with_reducible assumption) (by first | omega | (simp; omega) | simp)))))).mono ?_; rintro e w1 ⟨⟨k0, rfl⟩, hb1⟩) | (go_at_call 76; refine (behind_any _ _ _ ((h.below (by repeat (first | with_reducible exact Below.refl _ _ | with_reducible assumption | with_reducible refine Below.drew ?_ | with_reducible refine Below.setCell ?_ (by first | omega | (simp; omega) | simp) _ | with_reducible refine Below.alloc ?_ (by first | omega | (simp; omega) | simp) _ | with_reducible refine Below.trans ?_ (Below.mono (by with_reducible assumption) (by first | omega | (simp; omega) | simp))))).below hb1)).mono ?_; rintro e w2 ⟨u, rfl, hs2, hb2⟩; have hB2 : Below w.heap.size w w2 := Below.next hb1 (Nat.le_refl _) hb2; have hs3 := hs2; obtain ⟨pa, b, o, cap, rfl, g1, g2, g3, g4⟩ := hs2))
      go_ret2
      exact ⟨⟨_, rfl, fun _ => hs3⟩, hB2⟩
  · have e1 : behE l = chkE l := by unfold behE; rw [if_pos hc]
    have hc' : (chkE l != 0) = true := by simp [hc]
    have hC := Lib.hid hc
    rw [e1]
    clear hc e1
    go_enter Try.func55, Try.ntmps55
    go_wp2_with (go_at_call 66; refine (check_any _ _ _ (h.below (by repeat (first | with_reducible exact Below.refl _ _ | with_reducible assumption | with_reducible refine Below.drew ?_ | with_reducible refine Below.setCell ?_ (by first | omega | (simp; omega) | simp) _ | with_reducible refine Below.alloc ?_ (by first | omega | (simp; omega) | simp) _ | with_reducible refine Below.trans ?_ (Below.mono (by with_reducible assumption) (by first | omega | (simp; omega) | simp)))))).mono ?_; rintro e w1 ⟨⟨k0, rfl⟩, hb1⟩)
    go_ret2
    exact ⟨⟨_, rfl, fun h => absurd h hC.out⟩, hb1⟩
theorem through_any (t v u x : Int) (h1 : -20000000000 ≤ t ∧ t ≤ 20000000000) (h2 : -2000000000000 ≤ v ∧ v ≤ 2000000000000) (h3 : -20000000000 ≤ u ∧ u ≤ 20000000000) (h4 : -2000000000000 ≤ x ∧ x ≤ 2000000000000) (w : World) :
    Calls Try.prog 74 #[.int .i64 t, .int .i64 v, .int .i64 u, .int .i64 x] w fun e w' => e = .returned (.agg #[.int .i64 t, .int .i64 v, .int .i64 (u - t), .int .i64 (x - v)]) ∧ Below w.heap.size w w' := by
  obtain ⟨a1, a2⟩ := h1
  obtain ⟨b1, b2⟩ := h2
  obtain ⟨c1, c2⟩ := h3
  obtain ⟨d1, d2⟩ := h4
  go_enter Try.func74, Try.ntmps74
  go_wp2_with fail
  refine bodyPost_ret (v := .agg #[.int .i64 t, .int .i64 v, .int .i64 (u - t), .int .i64 (x - v)]) (by simp only [results, Try.results74]; go_simp) rfl ⟨rfl, (by repeat (first | with_reducible exact Below.refl _ _ | with_reducible assumption | with_reducible refine Below.drew ?_ | with_reducible refine Below.setCell ?_ (by first | omega | (simp; omega) | simp) _ | with_reducible refine Below.alloc ?_ (by first | omega | (simp; omega) | simp) _ | with_reducible refine Below.trans ?_ (Below.mono (by with_reducible assumption) (by first | omega | (simp; omega) | simp))))⟩
def lnA (x : LN) : Value := .agg #[.int .i64 x.1, .int .i64 x.2.1, .int .i64 x.2.2.1, .int .i64 x.2.2.2]
set_option maxHeartbeats 1000000 in
theorem floor_any (x : LN) (t : Int) (h : okN x) (h1 : -10 ≤ t) (h2 : t ≤ 5000) (w : World) : Calls Try.prog 106 #[lnA x, .int .i64 t] w fun e w' => e = .returned (.int .i64 (flL x t)) ∧ Below w.heap.size w w' := by
  obtain ⟨n1, n2⟩ := num_bd h h1 h2
  obtain ⟨q1, q2⟩ := flL_bd h h1 h2
  obtain ⟨⟨a1, a2⟩, ⟨b1, b2⟩, ⟨c1, c2⟩, d1, d2⟩ := h
  have hf := fun w => floordiv_any (x.2.2.2 * (t - x.1)) x.2.2.1 (by omega) (by omega) (by omega) (by omega) w
  have hF := Lib.hid hf
  clear hf
  unfold flL at q1 q2 ⊢
  unfold lnA
  obtain ⟨x1, x2, x3, x4⟩ := x
  simp only at *
  generalize x4 * (t - x1) / x3 = q at *
  go_enter Try.func106, Try.ntmps106
  go_wp2_with (go_at_call 120; refine (hF.out _).mono ?_; rintro e w2 ⟨rfl, hb2⟩; have hK := Below.next1 (Below.refl w.heap.size w) (Nat.le_refl _) hb2; have hX := heap_old hb2 (heap_new _ _ rfl); have g1 := cell_heap (o := 1) hX rfl)
  go_ret
  exact ⟨rfl, hK⟩
set_option maxHeartbeats 1000000 in
theorem ceil_any (x : LN) (t : Int) (h : okN x) (h1 : -10 ≤ t) (h2 : t ≤ 5000) (w : World) : Calls Try.prog 107 #[lnA x, .int .i64 t] w fun e w' => e = .returned (.int .i64 (ceL x t)) ∧ Below w.heap.size w w' := by
  obtain ⟨n1, n2⟩ := num_bd h h1 h2
  obtain ⟨q1, q2⟩ := ceL_bd h h1 h2
  obtain ⟨⟨a1, a2⟩, ⟨b1, b2⟩, ⟨c1, c2⟩, d1, d2⟩ := h
  have hf := fun w => ceildiv_any (x.2.2.2 * (t - x.1)) x.2.2.1 (by omega) (by omega) (by omega) (by omega) w
  have hF := Lib.hid hf
  clear hf
  unfold ceL at q1 q2 ⊢
  unfold lnA
  obtain ⟨x1, x2, x3, x4⟩ := x
  simp only at *
  generalize -(-(x4 * (t - x1)) / x3) = q at *
  go_enter Try.func107, Try.ntmps107
  go_wp2_with (go_at_call 121; refine (hF.out _).mono ?_; rintro e w2 ⟨rfl, hb2⟩; have hK := Below.next1 (Below.refl w.heap.size w) (Nat.le_refl _) hb2; have hX := heap_old hb2 (heap_new _ _ rfl); have g1 := cell_heap (o := 1) hX rfl)
  go_ret
  exact ⟨rfl, hK⟩
theorem cells_here {w : World} {b : Nat} {cs : List Value} {t : TypeId} {fr : Nat × Nat} (h : w.heap[b]? = some (.cells cs.toArray t fr)) : ∀ j u, cs[j]? = some u → w.cell? ((⟨b, 0, none⟩ : Addr).add j) = some u := by
  intro j u hu
  rw [Addr.add_lit, Nat.zero_add]
  exact cell_heap h (by simpa using hu)
def zeroB : Value := .agg #[.int .i64 0, .int .i64 0, .int .i64 0]
theorem take_map_next {α β : Type} {l : List α} {i : Nat} {s : α} (f : α → β) (h : l[i]? = some s) : (l.map f).take (i + 1) = (l.map f).take i ++ [f s] := by
  rw [List.take_add_one, List.getElem?_map, h]; rfl
set_option maxRecDepth 100000 in
set_option maxHeartbeats 4000000 in
theorem bounds0 (v : Value) (l : List SN) (w : World) (h : Seens w v l) (hok : ∀ s ∈ l, okS s = true) (hl : l.length ≤ 64) : Calls Try.prog 57 #[v, .int .i64 0] w fun e w' => ∃ u, e = .returned u ∧ Bnds w' u (bnds 0 l) ∧ Below w.heap.size w w' := by
  obtain ⟨i0, hi0, hz0, hz1, hz2⟩ := info_parts (P := Try.prog) (e := 124) (z := zeroB) (size := 3) (bytes := 24) (by kernel_rfl)
  obtain ⟨pa, b, o, cap, rfl, h1, h2, h3, h4⟩ := h
  have hcap : cap ≤ 9223372036854775807 := by unfold maxLen at h3; omega
  go_enter Try.func57, Try.ntmps57
  go_wp2_with fail
  go_loopw [5, 11] (fun u x wr => ∃ k : Nat, k ≤ l.length ∧ x = .int .i64 k ∧ Below w.heap.size w wr ∧ wr.ownsRow w.heap.size 124 3 u ((bnds 0 l).take k).length (((bnds 0 l).take k).flatMap cB)) (fun _ x _ => l.length - (intOf x).toNat)
  case atStart => exact ⟨0, by omega, rfl, (by repeat (first | with_reducible exact Below.refl _ _ | with_reducible assumption | with_reducible refine Below.drew ?_ | with_reducible refine Below.setCell ?_ (by first | omega | (simp; omega) | simp) _ | with_reducible refine Below.alloc ?_ (by first | omega | (simp; omega) | simp) _ | with_reducible refine Below.trans ?_ (Below.mono (by with_reducible assumption) (by first | omega | (simp; omega) | simp)))), by simpa using World.ownsRow_nil _ _ _ _⟩
  case round =>
    obtain ⟨k, hk, rfl, hb0, hO⟩ := hrel
    have hlenk : ((bnds 0 l).take k).length = k := by rw [List.length_take, bnds_len]; omega
    have hsz := hb0.size
    rcases Nat.lt_or_ge k l.length with hlt | hge
    · obtain rfl := h1 (by omega)
      obtain ⟨s, hs⟩ : ∃ s, l[k]? = some s := ⟨_, List.getElem?_eq_getElem hlt⟩
      obtain ⟨c0, c1, c2, c3, c4⟩ := (h4 k s hs).below hb0
      obtain ⟨⟨a1, a2⟩, ⟨a3, a4⟩, ⟨a5, a6⟩, ⟨a7, a8⟩, a9, a10⟩ := okS_iff.1 (hok s (List.mem_of_getElem? hs))
      have hTT := Lib.hid (take_map_next (bndS 0) hs)
      have hn : l.length - (k + 1) < l.length - k := by omega
      clear hs h4 hok
      unfold bnds at *
      generalize (l.map (bndS 0)).take k = P at *
      go_wp2_with (at_builtin; refine wpList_append_own _ rfl _ _ 93 rfl w.heap.size 124 i0 zeroB 3 24 Try.underlying93 hi0 hz0 hz1 hz2 rfl (by decide) _ _ _ rfl (own_below hO (by repeat (first | with_reducible exact Below.refl _ _ | with_reducible assumption | with_reducible refine Below.drew ?_ | with_reducible refine Below.setCell ?_ (by first | omega | (simp; omega) | simp) _ | with_reducible refine Below.alloc ?_ (by first | omega | (simp; omega) | simp) _ | with_reducible refine Below.trans ?_ (Below.mono (by with_reducible assumption) (by first | omega | (simp; omega) | simp))))) ⟨_, 0, none⟩ 1 1 (cB (bX s)) rfl rfl ?_ (cB_one _) (by unfold maxLen; omega) (by omega) (by simp; omega) ?_; rotate_left; intro u' w5 ho5 hg5 hnil5)
      · refine ⟨⟨k + 1, hlt, by simp, ?_, ?_⟩, by simpa [intOf] using hn⟩
        · exact Below.grown (by repeat (first | with_reducible exact Below.refl _ _ | with_reducible assumption | with_reducible refine Below.drew ?_ | with_reducible refine Below.setCell ?_ (by first | omega | (simp; omega) | simp) _ | with_reducible refine Below.alloc ?_ (by first | omega | (simp; omega) | simp) _ | with_reducible refine Below.trans ?_ (Below.mono (by with_reducible assumption) (by first | omega | (simp; omega) | simp)))) hg5 (by simp; omega) (fun q hq => by have := (hO.lt q hq).1; omega)
        · rw [hTT.out]; exact own_push ho5
      · exact fun _ _ h => h
    · obtain rfl : k = l.length := by omega
      rw [List.take_of_length_le (by rw [bnds_len]; omega)] at hO
      clear hlenk
      go_wp2_with fail
      go_ret
      exact ⟨_, rfl, held_own cB_len hO, hb0⟩
end Go.Proofs.Ytmdledlbkdcmnaa

/-
  Contract of path.bounds for Y.
  Conditions: none.
-/
namespace Go.Proofs.Ytmdledlbkdcmnaa
open Go.RowKit
set_option maxRecDepth 100000 in
set_option maxHeartbeats 4000000 in
theorem bounds1 (v : Value) (l : List SN) (w : World) (h : Seens w v l) (hok : ∀ s ∈ l, okS s = true) (hl : l.length ≤ 64) : Calls Try.prog 57 #[v, .int .i64 1] w fun e w' => ∃ u, e = .returned u ∧ Bnds w' u (bnds 1 l) ∧ Below w.heap.size w w' := by
  obtain ⟨i0, hi0, hz0, hz1, hz2⟩ := info_parts (P := Try.prog) (e := 124) (z := zeroB) (size := 3) (bytes := 24) (by kernel_rfl)
  obtain ⟨pa, b, o, cap, rfl, h1, h2, h3, h4⟩ := h
  have hcap : cap ≤ 9223372036854775807 := by unfold maxLen at h3; omega
  go_enter Try.func57, Try.ntmps57
  go_wp2_with fail
  go_loopw [5, 11] (fun u x wr => ∃ k : Nat, k ≤ l.length ∧ x = .int .i64 k ∧ Below w.heap.size w wr ∧ wr.ownsRow w.heap.size 124 3 u ((bnds 1 l).take k).length (((bnds 1 l).take k).flatMap cB)) (fun _ x _ => l.length - (intOf x).toNat)
  case atStart => exact ⟨0, by omega, rfl, (by repeat (first | with_reducible exact Below.refl _ _ | with_reducible assumption | with_reducible refine Below.drew ?_ | with_reducible refine Below.setCell ?_ (by first | omega | (simp; omega) | simp) _ | with_reducible refine Below.alloc ?_ (by first | omega | (simp; omega) | simp) _ | with_reducible refine Below.trans ?_ (Below.mono (by with_reducible assumption) (by first | omega | (simp; omega) | simp)))), by simpa using World.ownsRow_nil _ _ _ _⟩
  case round =>
    obtain ⟨k, hk, rfl, hb0, hO⟩ := hrel
    have hlenk : ((bnds 1 l).take k).length = k := by rw [List.length_take, bnds_len]; omega
    have hsz := hb0.size
    rcases Nat.lt_or_ge k l.length with hlt | hge
    · obtain rfl := h1 (by omega)
      obtain ⟨s, hs⟩ : ∃ s, l[k]? = some s := ⟨_, List.getElem?_eq_getElem hlt⟩
      obtain ⟨c0, c1, c2, c3, c4⟩ := (h4 k s hs).below hb0
      obtain ⟨⟨a1, a2⟩, ⟨a3, a4⟩, ⟨a5, a6⟩, ⟨a7, a8⟩, a9, a10⟩ := okS_iff.1 (hok s (List.mem_of_getElem? hs))
      have hTT := Lib.hid (take_map_next (bndS 1) hs)
      have hn : l.length - (k + 1) < l.length - k := by omega
      clear hs h4 hok
      unfold bnds at *
      generalize (l.map (bndS 1)).take k = P at *
      go_wp2_with fail
      go_region
      go_wp2_with (at_builtin; refine wpList_append_own _ rfl _ _ 93 rfl w.heap.size 124 i0 zeroB 3 24 Try.underlying93 hi0 hz0 hz1 hz2 rfl (by decide) _ _ _ rfl (own_below hO (by repeat (first | with_reducible exact Below.refl _ _ | with_reducible assumption | with_reducible refine Below.drew ?_ | with_reducible refine Below.setCell ?_ (by first | omega | (simp; omega) | simp) _ | with_reducible refine Below.alloc ?_ (by first | omega | (simp; omega) | simp) _ | with_reducible refine Below.trans ?_ (Below.mono (by with_reducible assumption) (by first | omega | (simp; omega) | simp))))) ⟨_, 0, none⟩ 1 1 (cB (bY s)) rfl rfl ?_ (cB_one _) (by unfold maxLen; omega) (by omega) (by simp; omega) ?_; rotate_left; intro u' w5 ho5 hg5 hnil5)
      · refine ⟨⟨k + 1, hlt, by simp, ?_, ?_⟩, by simpa [intOf] using hn⟩
        · exact Below.grown (by repeat (first | with_reducible exact Below.refl _ _ | with_reducible assumption | with_reducible refine Below.drew ?_ | with_reducible refine Below.setCell ?_ (by first | omega | (simp; omega) | simp) _ | with_reducible refine Below.alloc ?_ (by first | omega | (simp; omega) | simp) _ | with_reducible refine Below.trans ?_ (Below.mono (by with_reducible assumption) (by first | omega | (simp; omega) | simp)))) hg5 (by simp; omega) (fun q hq => by have := (hO.lt q hq).1; omega)
        · rw [hTT.out]; exact own_push ho5
      · exact cells_here (heap_drew (heap_new _ _ (by simp)))
    · obtain rfl : k = l.length := by omega
      rw [List.take_of_length_le (by rw [bnds_len]; omega)] at hO
      clear hlenk
      go_wp2_with fail
      go_ret
      exact ⟨_, rfl, held_own cB_len hO, hb0⟩
end Go.Proofs.Ytmdledlbkdcmnaa

/-
  Contract of path.bounds for Z.
  Conditions: none.
-/
namespace Go.Proofs.Ytmdledlbkdcmnaa
open Go.RowKit
set_option linter.unusedSimpArgs false
set_option maxRecDepth 100000 in
set_option maxHeartbeats 4000000 in
theorem bounds2 (v : Value) (l : List SN) (w : World) (h : Seens w v l) (hok : ∀ s ∈ l, okS s = true) (hl : l.length ≤ 64) : Calls Try.prog 57 #[v, .int .i64 2] w fun e w' => ∃ u, e = .returned u ∧ Bnds w' u (bnds 2 l) ∧ Below w.heap.size w w' := by
  obtain ⟨i0, hi0, hz0, hz1, hz2⟩ := info_parts (P := Try.prog) (e := 124) (z := zeroB) (size := 3) (bytes := 24) (by kernel_rfl)
  obtain ⟨pa, b, o, cap, rfl, h1, h2, h3, h4⟩ := h
  have hcap : cap ≤ 9223372036854775807 := by unfold maxLen at h3; omega
  go_enter Try.func57, Try.ntmps57
  go_wp2_with fail
  go_loopw [5, 11] (fun u x wr => ∃ k : Nat, k ≤ l.length ∧ x = .int .i64 k ∧ Below w.heap.size w wr ∧ wr.ownsRow w.heap.size 124 3 u ((bnds 2 l).take k).length (((bnds 2 l).take k).flatMap cB)) (fun _ x _ => l.length - (intOf x).toNat)
  case atStart => exact ⟨0, by omega, rfl, (by repeat (first | with_reducible exact Below.refl _ _ | with_reducible assumption | with_reducible refine Below.drew ?_ | with_reducible refine Below.setCell ?_ (by first | omega | (simp; omega) | simp) _ | with_reducible refine Below.alloc ?_ (by first | omega | (simp; omega) | simp) _ | with_reducible refine Below.trans ?_ (Below.mono (by with_reducible assumption) (by first | omega | (simp; omega) | simp)))), by simpa using World.ownsRow_nil _ _ _ _⟩
  case round =>
    obtain ⟨k, hk, rfl, hb0, hO⟩ := hrel
    have hlenk : ((bnds 2 l).take k).length = k := by rw [List.length_take, bnds_len]; omega
    have hsz := hb0.size
    rcases Nat.lt_or_ge k l.length with hlt | hge
    · obtain rfl := h1 (by omega)
      obtain ⟨s, hs⟩ : ∃ s, l[k]? = some s := ⟨_, List.getElem?_eq_getElem hlt⟩
      obtain ⟨c0, c1, c2, c3, c4⟩ := (h4 k s hs).below hb0
      obtain ⟨⟨a1, a2⟩, ⟨a3, a4⟩, ⟨a5, a6⟩, ⟨a7, a8⟩, a9, a10⟩ := okS_iff.1 (hok s (List.mem_of_getElem? hs))
      have hTT := Lib.hid (take_map_next (bndS 2) hs)
      have hn : l.length - (k + 1) < l.length - k := by omega
      clear hs h4 hok
      unfold bnds at *
      generalize (l.map (bndS 2)).take k = P at *
      go_wp2_with fail
      have hS : ((wr.alloc (.cells #[.int .i64 s.1, .int .i64 s.2.1, .int .i64 s.2.2.1, .int .i64 s.2.2.2.1, .int .i64 s.2.2.2.2] 38)).alloc (.cells #[.int .i64 s.1, .int .i64 (s.2.1 - s.2.2.2.2), .int .i64 (s.2.1 + s.2.2.2.2)] 124)).heap[wr.heap.size]? = some (.cells #[.int .i64 s.1, .int .i64 s.2.1, .int .i64 s.2.2.1, .int .i64 s.2.2.2.1, .int .i64 s.2.2.2.2] 38) := heap_alloc (heap_new wr _ rfl)
      have hBn := heap_new (wr.alloc (.cells #[.int .i64 s.1, .int .i64 s.2.1, .int .i64 s.2.2.1, .int .i64 s.2.2.2.1, .int .i64 s.2.2.2.2] 38)) (.cells #[.int .i64 s.1, .int .i64 (s.2.1 - s.2.2.2.2), .int .i64 (s.2.1 + s.2.2.2.2)] 124) (b := wr.heap.size + 1) (by simp)
      apply region_gen 17 [] [0, 1, 2, 3, 4, 5, 6, 7, 8, 9, 10, 11, 12, 13, 14, 15, 16] [17, 18, 19]; (case hm => kernel_rfl); (case hS => rfl); (case hF => kernel_rfl); (case hB => kernel_rfl); (case hQ => exact fun _ _ _ _ _ h => h); (case f => (exact rfl)); (case hz => exact rfl); (case h => (intro LQ hLQ W1 hW1; have hS1 := heap_old hW1 hS; have d0 := cell_heap (o := 0) hS1 rfl; have d3 := cell_heap (o := 3) hS1 rfl; have d4 := cell_heap (o := 4) hS1 rfl; simp only [pickO, List.drop_succ_cons, List.drop_zero, List.take_succ_cons, List.take_zero, List.cons_append, List.nil_append, List.append_nil, Act.put, List.setIfInBounds_toArray, List.set_cons_succ, List.set_cons_zero]; have hl := @Later.cell; (repeat (go_big_quiet_step ((go_at_call 53; exact Calls.later_same (raise_any _ _ _))))); exact wpQuiet_nil hLQ)); (intro W2 hW2; simp only [pickO, List.drop_succ_cons, List.drop_zero, List.take_succ_cons, List.take_zero, List.cons_append, List.nil_append, List.append_nil, Act.put, List.setIfInBounds_toArray, List.set_cons_succ, List.set_cons_zero])
      have hB2 := heap_old hW2 hBn
      have e0 := cell_heap (o := 0) hB2 rfl
      have e1 := cell_heap (o := 1) hB2 rfl
      have e2 := cell_heap (o := 2) hB2 rfl
      have f1 := frozen_heap (o := 1) hB2
      have f2 := frozen_heap (o := 2) hB2
      have hK2 : Below wr.heap.size wr W2 := Below.trans (by repeat (first | with_reducible exact Below.refl _ _ | with_reducible assumption | with_reducible refine Below.drew ?_ | with_reducible refine Below.setCell ?_ (by first | omega | (simp; omega) | simp) _ | with_reducible refine Below.alloc ?_ (by first | omega | (simp; omega) | simp) _ | with_reducible refine Below.trans ?_ (Below.mono (by with_reducible assumption) (by first | omega | (simp; omega) | simp)))) (hW2.mono (by simp; omega))
      have hsz2 := hK2.size
      have hlt2 := (Array.getElem?_eq_some_iff.1 hB2).1
      go_wp2_with (at_builtin; refine wpList_append_own _ rfl _ _ 93 rfl w.heap.size 124 i0 zeroB 3 24 Try.underlying93 hi0 hz0 hz1 hz2 rfl (by decide) _ _ _ rfl (own_below hO (by repeat (first | with_reducible exact Below.refl _ _ | with_reducible assumption | with_reducible refine Below.drew ?_ | with_reducible refine Below.setCell ?_ (by first | omega | (simp; omega) | simp) _ | with_reducible refine Below.alloc ?_ (by first | omega | (simp; omega) | simp) _ | with_reducible refine Below.trans ?_ (Below.mono (by with_reducible assumption) (by first | omega | (simp; omega) | simp))))) ⟨_, 0, none⟩ 1 1 (cB (bZ s)) rfl rfl ?_ (cB_one _) (by unfold maxLen; omega) (by omega) (by simp; omega) ?_; rotate_left; intro u' w5 ho5 hg5 hnil5)
      · refine ⟨⟨k + 1, hlt, by simp, ?_, ?_⟩, by simpa [intOf] using hn⟩
        · exact Below.grown (by repeat (first | with_reducible exact Below.refl _ _ | with_reducible assumption | with_reducible refine Below.drew ?_ | with_reducible refine Below.setCell ?_ (by first | omega | (simp; omega) | simp) _ | with_reducible refine Below.alloc ?_ (by first | omega | (simp; omega) | simp) _ | with_reducible refine Below.trans ?_ (Below.mono (by with_reducible assumption) (by first | omega | (simp; omega) | simp)))) hg5 (by simp; omega) (fun q hq => by have := (hO.lt q hq).1; omega)
        · rw [hTT.out]; exact own_push ho5
      · exact cells_here (heap_drew (heap_new _ _ (by simp)))
    · obtain rfl : k = l.length := by omega
      rw [List.take_of_length_le (by rw [bnds_len]; omega)] at hO
      clear hlenk
      go_wp2_with fail
      go_ret
      exact ⟨_, rfl, held_own cB_len hO, hb0⟩
end Go.Proofs.Ytmdledlbkdcmnaa

/-
  Contract of path.fits.
  Conditions: none.
-/
namespace Go.Proofs.Ytmdledlbkdcmnaa
open Go.RowKit
theorem some_of' {α : Type} {l : List α} {i : Nat} (h : i < l.length) : ∃ b, l[i]? = some b := ⟨_, List.getElem?_eq_getElem h⟩
theorem part_bd {v s t : Int} (h1 : -20000000000 ≤ v) (h2 : v ≤ 20000000000) (h3 : 0 ≤ s) (h4 : s ≤ 4000) (h5 : 0 ≤ t) (h6 : t ≤ 4000) : -80000000000000 ≤ v * (s - t) ∧ v * (s - t) ≤ 80000000000000 :=
  mul_bd (A := 20000000000) (B := 4000) h1 h2 (by omega) (by omega)
theorem three_true {a b c : BD} (h1 : ¬(b.2.1 * (c.1 - a.1) > a.2.2 * (c.1 - b.1) + c.2.2 * (b.1 - a.1))) (h2 : ¬(b.2.2 * (c.1 - a.1) < a.2.1 * (c.1 - b.1) + c.2.1 * (b.1 - a.1))) : three a b c = true := by
  unfold three
  simp only [Bool.and_eq_true, decide_eq_true_eq]
  omega
theorem three_no {a b c : BD} (h : b.2.1 * (c.1 - a.1) > a.2.2 * (c.1 - b.1) + c.2.2 * (b.1 - a.1) ∨ b.2.2 * (c.1 - a.1) < a.2.1 * (c.1 - b.1) + c.2.1 * (b.1 - a.1)) : three a b c = false := by
  unfold three
  rw [Bool.and_eq_false_iff, decide_eq_false_iff_not, decide_eq_false_iff_not]
  omega
set_option maxRecDepth 100000 in
set_option maxHeartbeats 4000000 in
theorem pfits_any (v : Value) (l : List BD) (w : World) (h : Bnds w v l) (hok : ∀ b ∈ l, okB b) (hl : l.length ≤ 64) : Calls Try.prog 56 #[v] w fun e w' => e = .returned (.bool (fitsB l)) ∧ Below w.heap.size w w' := by
  obtain ⟨pa, b, o, cap, rfl, h1, h2, h3, h4⟩ := h
  have hcap : cap ≤ 9223372036854775807 := by unfold maxLen at h3; omega
  have hK := Lib.hid hok
  clear hok
  go_enter Try.func56, Try.ntmps56
  go_wp2_with fail
  go_loopw [11] (fun x wr => ∃ k : Nat, k ≤ l.length ∧ x = .int .i64 k ∧ Below w.heap.size w wr ∧ ∀ k' j i, k' < k → j < k' → i < j → threeAt l i j k' = true) (fun x _ => l.length - (intOf x).toNat)
  case atStart => exact ⟨0, by omega, rfl, (by repeat (first | with_reducible exact Below.refl _ _ | with_reducible assumption | with_reducible refine Below.drew ?_ | with_reducible refine Below.setCell ?_ (by first | omega | (simp; omega) | simp) _ | with_reducible refine Below.alloc ?_ (by first | omega | (simp; omega) | simp) _ | with_reducible refine Below.trans ?_ (Below.mono (by with_reducible assumption) (by first | omega | (simp; omega) | simp)))), fun _ _ _ h => by omega⟩
  case round =>
    obtain ⟨k, hk, rfl, hb0, hP⟩ := hrel
    rcases Nat.lt_or_ge k l.length with hlt | hge
    · obtain rfl := h1 (by omega)
      obtain ⟨c, hc⟩ := some_of' (l := l) hlt
      obtain ⟨c0, c1, c2⟩ := cB_at (cells_below (h4 k c hc) hb0)
      have hcok := hK.out c (List.mem_of_getElem? hc)
      obtain ⟨⟨ct1, ct2⟩, cl1, cl2, cl3⟩ := hcok
      have cl4 : c.2.1 ≤ 20000000000 := by omega
      have cl5 : -20000000000 ≤ c.2.2 := by omega
      have hC := Lib.hid hc
      have hPP := Lib.hid hP
      have hn : l.length - (k + 1) < l.length - k := by omega
      have hkc : k ≤ cap := by omega
      have hsz := hb0.size
      clear hc hP
      go_wp2_with fail
      have hX := heap_new wr (.cells #[.int .i64 c.1, .int .i64 c.2.1, .int .i64 c.2.2] 124) rfl
      have hBX : Below w.heap.size w (wr.alloc (.cells #[.int .i64 c.1, .int .i64 c.2.1, .int .i64 c.2.2] 124)) := (by repeat (first | with_reducible exact Below.refl _ _ | with_reducible assumption | with_reducible refine Below.drew ?_ | with_reducible refine Below.setCell ?_ (by first | omega | (simp; omega) | simp) _ | with_reducible refine Below.alloc ?_ (by first | omega | (simp; omega) | simp) _ | with_reducible refine Below.trans ?_ (Below.mono (by with_reducible assumption) (by first | omega | (simp; omega) | simp))))
      generalize wr.alloc (.cells #[.int .i64 c.1, .int .i64 c.2.1, .int .i64 c.2.2] 124) = wx at hX hBX ⊢
      clear c0 c1 c2
      generalize wr.heap.size = bx at hX hsz ⊢
      go_loopw [20] (fun x w2 => ∃ j : Nat, j ≤ k ∧ x = .int .i64 j ∧ Below w.heap.size w w2 ∧ w2.heap[bx]? = some (.cells #[.int .i64 c.1, .int .i64 c.2.1, .int .i64 c.2.2] 124 (0, 0)) ∧ ∀ j' i, j' < j → i < j' → threeAt l i j' k = true) (fun x _ => k - (intOf x).toNat)
      case atStart => exact ⟨0, by omega, rfl, hBX, hX, fun _ _ h => by omega⟩
      case round =>
        obtain ⟨j, hj, rfl, hb1, hX1, hP2⟩ := hrel
        rcases Nat.lt_or_ge j k with hjk | hjk
        · obtain ⟨d, hd⟩ := some_of' (l := l) (show j < l.length by omega)
          obtain ⟨d0, d1, d2⟩ := cB_at (cells_below (h4 j d hd) hb1)
          obtain ⟨⟨dt1, dt2⟩, dl1, dl2, dl3⟩ := hK.out d (List.mem_of_getElem? hd)
          have dl4 : d.2.1 ≤ 20000000000 := by omega
          have dl5 : -20000000000 ≤ d.2.2 := by omega
          have hD := Lib.hid hd
          have hPP2 := Lib.hid hP2
          have hn2 : k - (j + 1) < k - j := by omega
          have hjc : j ≤ cap := by omega
          have hsz1 := hb1.size
          have hltX := (Array.getElem?_eq_some_iff.1 hX1).1
          clear hd hP2
          go_wp2_with fail
          have hX2 := heap_alloc (X := .cells #[.int .i64 d.1, .int .i64 d.2.1, .int .i64 d.2.2] 124) hX1
          have hY2 := heap_new wr (.cells #[.int .i64 d.1, .int .i64 d.2.1, .int .i64 d.2.2] 124) rfl
          have hBY : Below w.heap.size w (wr.alloc (.cells #[.int .i64 d.1, .int .i64 d.2.1, .int .i64 d.2.2] 124)) := (by repeat (first | with_reducible exact Below.refl _ _ | with_reducible assumption | with_reducible refine Below.drew ?_ | with_reducible refine Below.setCell ?_ (by first | omega | (simp; omega) | simp) _ | with_reducible refine Below.alloc ?_ (by first | omega | (simp; omega) | simp) _ | with_reducible refine Below.trans ?_ (Below.mono (by with_reducible assumption) (by first | omega | (simp; omega) | simp))))
          generalize wr.alloc (.cells #[.int .i64 d.1, .int .i64 d.2.1, .int .i64 d.2.2] 124) = wy at hX2 hY2 hBY ⊢
          clear d0 d1 d2
          generalize wr.heap.size = by_ at hY2 hsz1 hltX ⊢
          go_loopw [29] (fun x w3 => ∃ i : Nat, i ≤ j ∧ x = .int .i64 i ∧ Below w.heap.size w w3 ∧ w3.heap[bx]? = some (.cells #[.int .i64 c.1, .int .i64 c.2.1, .int .i64 c.2.2] 124 (0, 0)) ∧ w3.heap[by_]? = some (.cells #[.int .i64 d.1, .int .i64 d.2.1, .int .i64 d.2.2] 124 (0, 0)) ∧ ∀ i', i' < i → threeAt l i' j k = true) (fun x _ => j - (intOf x).toNat)
          case atStart => exact ⟨0, by omega, rfl, hBY, hX2, hY2, fun _ h => by omega⟩
          case round =>
            obtain ⟨i, hi, rfl, hb2, hX3, hY3, hP3⟩ := hrel
            rcases Nat.lt_or_ge i j with hij | hij
            · obtain ⟨a, ha⟩ := some_of' (l := l) (show i < l.length by omega)
              obtain ⟨a0, a1, a2⟩ := cB_at (cells_below (h4 i a ha) hb2)
              obtain ⟨⟨at1, at2⟩, al1, al2, al3⟩ := hK.out a (List.mem_of_getElem? ha)
              have al4 : a.2.1 ≤ 20000000000 := by omega
              have al5 : -20000000000 ≤ a.2.2 := by omega
              have hA := Lib.hid ha
              have hPP3 := Lib.hid hP3
              have hn3 : j - (i + 1) < j - i := by omega
              have hsz2 := hb2.size
              have hltX3 := (Array.getElem?_eq_some_iff.1 hX3).1
              have hltY3 := (Array.getElem?_eq_some_iff.1 hY3).1
              have x0 := cell_heap (o := 0) hX3 rfl
              have x1 := cell_heap (o := 1) hX3 rfl
              have x2 := cell_heap (o := 2) hX3 rfl
              have y0 := cell_heap (o := 0) hY3 rfl
              have y1 := cell_heap (o := 1) hY3 rfl
              have y2 := cell_heap (o := 2) hY3 rfl
              obtain ⟨p1, p2⟩ := part_bd dl1 dl4 ct1 ct2 at1 at2
              obtain ⟨p3, p4⟩ := part_bd al5 al3 ct1 ct2 dt1 dt2
              obtain ⟨p5, p6⟩ := part_bd cl5 cl3 dt1 dt2 at1 at2
              obtain ⟨q1, q2⟩ := part_bd dl5 dl3 ct1 ct2 at1 at2
              obtain ⟨q3, q4⟩ := part_bd al1 al4 ct1 ct2 dt1 dt2
              obtain ⟨q5, q6⟩ := part_bd cl1 cl4 dt1 dt2 at1 at2
              have hT := Lib.hid (threeAt_some hA.out hD.out hC.out)
              have hBW : Below w.heap.size w (wr.alloc (.cells #[.int .i64 a.1, .int .i64 a.2.1, .int .i64 a.2.2] 124)) := (by repeat (first | with_reducible exact Below.refl _ _ | with_reducible assumption | with_reducible refine Below.drew ?_ | with_reducible refine Below.setCell ?_ (by first | omega | (simp; omega) | simp) _ | with_reducible refine Below.alloc ?_ (by first | omega | (simp; omega) | simp) _ | with_reducible refine Below.trans ?_ (Below.mono (by with_reducible assumption) (by first | omega | (simp; omega) | simp))))
              clear ha hP3
              go_wp2_with fail
              all_goals first
                | (go_ret; refine ⟨ret_bool ?_, (by repeat (first | with_reducible exact Below.refl _ _ | with_reducible assumption | with_reducible refine Below.drew ?_ | with_reducible refine Below.setCell ?_ (by first | omega | (simp; omega) | simp) _ | with_reducible refine Below.alloc ?_ (by first | omega | (simp; omega) | simp) _ | with_reducible refine Below.trans ?_ (Below.mono (by with_reducible assumption) (by first | omega | (simp; omega) | simp))))⟩; exact (fitsB_no hij hjk hlt (by rw [hT.out]; exact three_no (by first | omega | grind))).symm)
                | (refine ⟨⟨i + 1, hij, by simp, (by repeat (first | with_reducible exact Below.refl _ _ | with_reducible assumption | with_reducible refine Below.drew ?_ | with_reducible refine Below.setCell ?_ (by first | omega | (simp; omega) | simp) _ | with_reducible refine Below.alloc ?_ (by first | omega | (simp; omega) | simp) _ | with_reducible refine Below.trans ?_ (Below.mono (by with_reducible assumption) (by first | omega | (simp; omega) | simp)))), heap_alloc hX3, heap_alloc hY3, fun i' hi' => ?_⟩, by simpa [intOf] using hn3⟩; rcases Nat.lt_or_eq_of_le (Nat.le_of_lt_succ hi') with h | rfl; exact hPP3.out i' h; rw [hT.out]; exact three_true (by omega) (by omega))
                | skip
            · obtain rfl : i = j := by omega
              have hPP3 := Lib.hid hP3
              clear hP3
              go_wp2_with fail
              refine ⟨⟨i + 1, hjk, by simp, hb2, hX3, fun j' i' hj' hi' => ?_⟩, by simpa [intOf] using hn2⟩
              rcases Nat.lt_or_eq_of_le (Nat.le_of_lt_succ hj') with h | rfl
              · exact hPP2.out j' i' h hi'
              · exact hPP3.out i' hi'
        · obtain rfl : j = k := by omega
          have hPP2 := Lib.hid hP2
          clear hP2
          go_wp2_with fail
          refine ⟨⟨j + 1, hlt, by simp, hb1, fun k' j' i' hk' hj' hi' => ?_⟩, by simpa [intOf] using hn⟩
          rcases Nat.lt_or_eq_of_le (Nat.le_of_lt_succ hk') with h | rfl
          · exact hPP.out k' j' i' h hj' hi'
          · exact hPP2.out j' i' hj' hi'
    · have hall : fitsB l = true := fitsB_iff.2 fun i j k' hi hj hk' => hP k' j i (by omega) hj hi
      have hall' := Lib.hid hall
      clear hall
      go_wp2_with fail
      go_ret
      exact ⟨ret_bool hall'.out.symm, hb0⟩
end Go.Proofs.Ytmdledlbkdcmnaa

/-
  Contract of path.rims.
  Conditions: none.
-/
namespace Go.Proofs.Ytmdledlbkdcmnaa
open Go.RowKit
theorem grown_heap {W w' : World} {row : Option Nat} {k : Nat} {X : Obj} (hg : W.grownBy w' row) (h : W.heap[k]? = some X) (hne : some k ≠ row) : w'.heap[k]? = some X :=
  (hg.block k (Array.getElem?_eq_some_iff.1 h).1 hne).trans h
theorem own_ne {w : World} {base n k size : Nat} {t : TypeId} {v : Value} {xs : List Value} (h : w.ownsRow base t size v n xs) (hk : w.heap.size ≤ k) : some k ≠ v.ownBlock := fun e => by
  have := (h.lt k e.symm).2
  omega
structure Own2 (t : TypeId) (base : Nat) (w : World) (x y : Value) (X Y : List LN) : Prop where
  hx : w.ownsRow base t 4 x X.length (X.flatMap cL)
  hy : w.ownsRow base t 4 y Y.length (Y.flatMap cL)
  xy : Apart x y
theorem Own2.nil (t : TypeId) (base : Nat) (w : World) : Own2 t base w (.slice none 0 0) (.slice none 0 0) [] [] :=
  ⟨World.ownsRow_nil _ _ _ _, World.ownsRow_nil _ _ _ _, fun g h => by simp [Value.ownBlock] at h⟩
section
variable {t : TypeId} {base : Nat} {w w' : World} {x y v : Value} {X Y : List LN} {p : LN}
theorem Own2.below (h : Own2 t base w x y X Y) (hb : Below w.heap.size w w') : Own2 t base w' x y X Y := ⟨own_below h.hx hb, own_below h.hy hb, h.xy⟩
theorem Own2.alloc (h : Own2 t base w x y X Y) (o : Obj) : Own2 t base (w.alloc o) x y X Y := ⟨h.hx.alloc _, h.hy.alloc _, h.xy⟩
theorem Own2.pushX (h : Own2 t base w x y X Y) (o : w'.ownsRow base t 4 v (X.length + 1) (X.flatMap cL ++ cL p)) (g : w.grownBy w' x.ownBlock) (a : v.ownBlock = x.ownBlock ∨ v.ownBlock = some w.heap.size) : Own2 t base w' v y (X ++ [p]) Y :=
  ⟨own_push o, h.hy.kept g h.xy.symm.or, h.xy.grow a (fun q hq => (h.hy.lt q hq).2)⟩
theorem Own2.pushY (h : Own2 t base w x y X Y) (o : w'.ownsRow base t 4 v (Y.length + 1) (Y.flatMap cL ++ cL p)) (g : w.grownBy w' y.ownBlock) (a : v.ownBlock = y.ownBlock ∨ v.ownBlock = some w.heap.size) : Own2 t base w' x v X (Y ++ [p]) :=
  ⟨h.hx.kept g h.xy.or, own_push o, (h.xy.symm.grow a (fun q hq => (h.hx.lt q hq).2)).symm⟩
end
theorem prs_next {α : Type} {l : List BD} {k : Nat} {c : BD} (f : BD × BD → α) (h : l[k]? = some c) : (prs l (k + 1)).map f = (prs l k).map f ++ (l.take k).map (fun u => f (u, c)) := by
  conv => lhs; unfold prs
  rw [h, List.map_append, List.map_map]; rfl
theorem prs_len (l : List BD) : ∀ k : Nat, (prs l k).length ≤ k * l.length
  | 0 => by simp [prs]
  | k + 1 => by
    have := prs_len l k
    unfold prs
    rw [List.length_append, Nat.add_mul, Nat.one_mul]
    split
    · rw [List.length_map, List.length_take]; omega
    · simp; omega
def zeroL : Value := .agg #[.int .i64 0, .int .i64 0, .int .i64 0, .int .i64 0]
theorem cells_here' (w : World) (cs : List Value) (t : TypeId) : ∀ j u, cs[j]? = some u → (w.alloc (.cells cs.toArray t)).cell? ((⟨w.heap.size, 0, none⟩ : Addr).add j) = some u := cells_here (heap_new w _ rfl)
set_option maxRecDepth 100000 in
set_option maxHeartbeats 4000000 in
theorem rims_any (v : Value) (l : List BD) (w : World) (h : Bnds w v l) (hok : ∀ b ∈ l, okB b) (hl : l.length ≤ 64) : Calls Try.prog 69 #[v] w fun e w' => ∃ u1 u2, e = .returned (.tuple #[u1, u2]) ∧ Lns w' u1 (lows l) ∧ Lns w' u2 (upps l) ∧ Below w.heap.size w w' := by
  obtain ⟨i0, hi0, hz0, hz1, hz2⟩ := info_parts (P := Try.prog) (e := 121) (z := zeroL) (size := 4) (bytes := 32) (by kernel_rfl)
  obtain ⟨pa, b, o, cap, rfl, h1, h2, h3, h4⟩ := h
  have hcap : cap ≤ 9223372036854775807 := by unfold maxLen at h3; omega
  have hK := Lib.hid hok
  clear hok
  go_enter Try.func69, Try.ntmps69
  go_wp2_with fail
  go_loopw [2, 3, 10] (fun x y i wr => ∃ k : Nat, k ≤ l.length ∧ i = .int .i64 k ∧ Below w.heap.size w wr ∧ Own2 121 w.heap.size wr x y ((prs l k).map fun p => loL p.1 p.2) ((prs l k).map fun p => upL p.1 p.2)) (fun _ _ x _ => l.length - (intOf x).toNat)
  case atStart => exact ⟨0, by omega, rfl, (by repeat (first | with_reducible exact Below.refl _ _ | with_reducible assumption | with_reducible refine Below.drew ?_ | with_reducible refine Below.setCell ?_ (by first | omega | (simp; omega) | simp) _ | with_reducible refine Below.alloc ?_ (by first | omega | (simp; omega) | simp) _ | with_reducible refine Below.trans ?_ (Below.mono (by with_reducible assumption) (by first | omega | (simp; omega) | simp)))), Own2.nil _ _ _⟩
  case round =>
    obtain ⟨k, hk, rfl, hb0, hO⟩ := hrel
    rcases Nat.lt_or_ge k l.length with hlt | hge
    · obtain rfl := h1 (by omega)
      obtain ⟨c, hc⟩ := some_of' (l := l) hlt
      obtain ⟨c0, c1, c2⟩ := cB_at (cells_below (h4 k c hc) hb0)
      obtain ⟨⟨ct1, ct2⟩, cl1, cl2, cl3⟩ := hK.out c (List.mem_of_getElem? hc)
      have hC := Lib.hid hc
      have hNL := Lib.hid (prs_next (fun p : BD × BD => loL p.1 p.2) hc)
      have hNU := Lib.hid (prs_next (fun p : BD × BD => upL p.1 p.2) hc)
      have hlen := prs_len l k
      have hlen2 : k * l.length ≤ 64 * 64 := Nat.mul_le_mul (by omega) hl
      have hLL : ((prs l k).map fun p => loL p.1 p.2).length ≤ 4096 := by rw [List.length_map]; omega
      have hUL : ((prs l k).map fun p => upL p.1 p.2).length ≤ 4096 := by rw [List.length_map]; omega
      have hn : l.length - (k + 1) < l.length - k := by omega
      have hkc : k ≤ cap := by omega
      have hsz := hb0.size
      clear hc hlen hlen2
      generalize ((prs l k).map fun p => loL p.1 p.2) = LL at *
      generalize ((prs l k).map fun p => upL p.1 p.2) = UU at *
      go_wp2_with fail
      have hX := heap_new wr (.cells #[.int .i64 c.1, .int .i64 c.2.1, .int .i64 c.2.2] 124) rfl
      have hBX : Below w.heap.size w (wr.alloc (.cells #[.int .i64 c.1, .int .i64 c.2.1, .int .i64 c.2.2] 124)) := (by repeat (first | with_reducible exact Below.refl _ _ | with_reducible assumption | with_reducible refine Below.drew ?_ | with_reducible refine Below.setCell ?_ (by first | omega | (simp; omega) | simp) _ | with_reducible refine Below.alloc ?_ (by first | omega | (simp; omega) | simp) _ | with_reducible refine Below.trans ?_ (Below.mono (by with_reducible assumption) (by first | omega | (simp; omega) | simp))))
      have hOX := hO.alloc (.cells #[.int .i64 c.1, .int .i64 c.2.1, .int .i64 c.2.2] 124)
      have hne1 := own_ne hO.hx (Nat.le_refl wr.heap.size)
      have hne2 := own_ne hO.hy (Nat.le_refl wr.heap.size)
      generalize wr.alloc (.cells #[.int .i64 c.1, .int .i64 c.2.1, .int .i64 c.2.2] 124) = wx at hX hBX hOX ⊢
      clear c0 c1 c2
      generalize wr.heap.size = bx at hX hsz hne1 hne2 ⊢
      go_loopw [2, 3, 19] (fun x y z w2 => ∃ i : Nat, i ≤ k ∧ z = .int .i64 i ∧ Below w.heap.size w w2 ∧ w2.heap[bx]? = some (.cells #[.int .i64 c.1, .int .i64 c.2.1, .int .i64 c.2.2] 124 (0, 0)) ∧ some bx ≠ x.ownBlock ∧ some bx ≠ y.ownBlock ∧ Own2 121 w.heap.size w2 x y (LL ++ (l.take i).map fun u => loL u c) (UU ++ (l.take i).map fun u => upL u c)) (fun _ _ x _ => k - (intOf x).toNat)
      case atStart => exact ⟨0, by omega, rfl, hBX, hX, hne1, hne2, by simpa using hOX⟩
      case round =>
        obtain ⟨i, hi, rfl, hb1, hX1, hx1, hx2, hO1⟩ := hrel
        rcases Nat.lt_or_ge i k with hik | hik
        · obtain ⟨a, ha⟩ := some_of' (l := l) (show i < l.length by omega)
          obtain ⟨a0, a1, a2⟩ := cB_at (cells_below (h4 i a ha) hb1)
          obtain ⟨⟨at1, at2⟩, al1, al2, al3⟩ := hK.out a (List.mem_of_getElem? ha)
          have hTL : LL ++ (l.take (i + 1)).map (fun u => loL u c) = (LL ++ (l.take i).map fun u => loL u c) ++ [loL a c] := by rw [List.take_add_one, ha]; simp
          have hTU : UU ++ (l.take (i + 1)).map (fun u => upL u c) = (UU ++ (l.take i).map fun u => upL u c) ++ [upL a c] := by rw [List.take_add_one, ha]; simp
          have hTLH := Lib.hid hTL
          have hTUH := Lib.hid hTU
          have hXL : (LL ++ (l.take i).map fun u => loL u c).length ≤ 5000 := by rw [List.length_append, List.length_map, List.length_take]; omega
          have hYL : (UU ++ (l.take i).map fun u => upL u c).length ≤ 5000 := by rw [List.length_append, List.length_map, List.length_take]; omega
          have hn2 : k - (i + 1) < k - i := by omega
          have hsz1 := hb1.size
          have hltX := (Array.getElem?_eq_some_iff.1 hX1).1
          have x0 := cell_heap (o := 0) hX1 rfl
          have x1 := cell_heap (o := 1) hX1 rfl
          have x2 := cell_heap (o := 2) hX1 rfl
          clear ha hTL hTU
          generalize (LL ++ (l.take i).map fun u => loL u c) = X at *
          generalize (UU ++ (l.take i).map fun u => upL u c) = Y at *
          have t1 := fun w => through_any a.1 a.2.2 c.1 c.2.1 (by omega) (by omega) (by omega) (by omega) w
          have t2 := fun w => through_any a.1 a.2.1 c.1 c.2.2 (by omega) (by omega) (by omega) (by omega) w
          have T1 := Lib.hid t1
          have T2 := Lib.hid t2
          clear t1 t2
          have hA0 := heap_new wr (.cells #[.int .i64 a.1, .int .i64 a.2.1, .int .i64 a.2.2] 124) rfl
          go_wp2_with (first
            | (go_at_call_of 74 (a.2.2); refine (T1.out _).mono ?_; rintro e w3 ⟨rfl, hb3⟩; have hB3 : Below w.heap.size w w3 := Below.trans (by repeat (first | with_reducible exact Below.refl _ _ | with_reducible assumption | with_reducible refine Below.drew ?_ | with_reducible refine Below.setCell ?_ (by first | omega | (simp; omega) | simp) _ | with_reducible refine Below.alloc ?_ (by first | omega | (simp; omega) | simp) _ | with_reducible refine Below.trans ?_ (Below.mono (by with_reducible assumption) (by first | omega | (simp; omega) | simp)))) (hb3.mono (by simp; omega)); have hX3 := heap_old hb3 (heap_alloc hX1); have hA3 := heap_old hb3 hA0; have hO3 := (hO1.alloc _).below hb3; have hs3 := hb3.size; simp at hs3)
            | (go_at_call_of 74 (a.2.1); refine (T2.out _).mono ?_; rintro e w6 ⟨rfl, hb6⟩; have hB6 := Below.next hB5 (Nat.le_refl _) hb6; have hX6 := heap_old hb6 hX5; have hO6 := hO5.below hb6; have hs6 := hb6.size)
            | (at_builtin; refine wpList_append_own_at _ rfl _ _ 108 rfl w.heap.size 121 i0 zeroL 4 32 Try.underlying108 hi0 hz0 hz1 hz2 rfl (by decide) _ _ _ rfl (hO3.alloc _).hx ⟨w3.heap.size, 0, none⟩ 1 1 (cL (loL a c)) rfl rfl ?_ (cL_one _) (by unfold maxLen; omega) (by omega) (by simp; omega) ?_; rotate_left; intro x' w5 ho5 hg5 hn5 ha5; have hO5 := (hO3.alloc _).pushX (p := loL a c) ho5 hg5 ha5; have hX5 := grown_heap hg5 (heap_alloc hX3) hx1; have hA5 := grown_heap hg5 (heap_alloc hA3) (own_ne hO1.hx (Nat.le_refl _)); have y0 := cell_heap (o := 0) hX5 rfl; have y1 := cell_heap (o := 1) hX5 rfl; have y2 := cell_heap (o := 2) hX5 rfl; have z0 := cell_heap (o := 0) hA5 rfl; have z1 := cell_heap (o := 1) hA5 rfl; have z2 := cell_heap (o := 2) hA5 rfl; have hB5 : Below w.heap.size w w5 := (hB3.alloc (by omega) _).grown hg5 (by simp; omega) (fun q hq => (hO3.hx.lt q hq).1); have hz5 := hg5.size; simp at hz5)
            | (at_builtin; refine wpList_append_own_at _ rfl _ _ 108 rfl w.heap.size 121 i0 zeroL 4 32 Try.underlying108 hi0 hz0 hz1 hz2 rfl (by decide) _ _ _ rfl (hO6.alloc _).hy ⟨w6.heap.size, 0, none⟩ 1 1 (cL (upL a c)) rfl rfl ?_ (cL_one _) (by unfold maxLen; omega) (by omega) (by simp; omega) ?_; rotate_left; intro y' w7 ho7 hg7 hn7 ha7; have hO7 := (hO6.alloc _).pushY (p := upL a c) ho7 hg7 ha7; have hX7 := grown_heap hg7 (heap_alloc hX6) hx2; have hB7 : Below w.heap.size w w7 := (hB6.alloc (by omega) _).grown hg7 (by simp; omega) (fun q hq => (hO6.hy.lt q hq).1)))
          · refine ⟨⟨i + 1, hik, by simp, hB7, hX7, ?_, ?_, by rw [hTLH.out, hTUH.out]; exact hO7⟩, by simpa [intOf] using hn2⟩
            · intro e
              rcases ha5 with g | g
              · exact hx1 (e.trans g)
              · rw [g] at e; have := Option.some.inj e; simp at this; omega
            · intro e
              rcases ha7 with g | g
              · exact hx2 (e.trans g)
              · rw [g] at e; have := Option.some.inj e; simp at this; omega
          · exact cells_here' _ (cL (upL a c)) _
          · exact cells_here' _ (cL (loL a c)) _
        · obtain rfl : i = k := by omega
          go_wp2_with fail
          exact ⟨⟨i + 1, hlt, by simp, hb1, by rw [hNL.out, hNU.out]; exact hO1⟩, by simpa [intOf] using hn⟩
    · obtain rfl : k = l.length := by omega
      go_wp2_with fail
      go_ret2
      exact ⟨_, _, rfl, held_own cL_len hO.hx, held_own cL_len hO.hy, hb0⟩
end Go.Proofs.Ytmdledlbkdcmnaa

/-
  Contract of path.enclose.
  Conditions: none.
-/
namespace Go.Proofs.Ytmdledlbkdcmnaa
open Go.RowKit
set_option linter.unusedSimpArgs false
theorem ret_rng {a b c d : Int} {w w' : World} {n : Nat} (h1 : a = c) (h2 : b = d) (h : Below n w w') : Ending.returned (.agg #[.int .i64 a, .int .i64 b]) = .returned (.agg #[.int .i64 c, .int .i64 d]) ∧ Below n w w' := ⟨by rw [h1, h2], h⟩
theorem ite_max (a b : Int) : (if a < b then b else a) = max a b := by omega
theorem ite_min (a b : Int) : (if b < a then b else a) = min a b := by omega
set_option maxRecDepth 100000 in
set_option maxHeartbeats 4000000 in
theorem enclose_any (v1 v2 : Value) (L U : List LN) (t : Int) (w : World) (h1 : Lns w v1 L) (h2 : Lns w v2 U) (hlen : U.length = L.length) (hpos : 0 < L.length) (hL : ∀ x ∈ L, okN x) (hU : ∀ x ∈ U, okN x) (t1 : -10 ≤ t) (t2 : t ≤ 5000) :
    Calls Try.prog 70 #[v1, v2, .int .i64 t] w fun e w' => e = .returned (.agg #[.int .i64 (mxl (L.map fun x => flL x t)), .int .i64 (mnl (U.map fun x => ceL x t))]) ∧ Below w.heap.size w w' := by
  obtain ⟨pa, b, o, cap, rfl, a1, a2, a3, a4⟩ := h1
  obtain ⟨pb, d, q, cup, rfl, c1, c2, c3, c4⟩ := h2
  obtain rfl := a1 hpos
  obtain rfl := c1 (by omega)
  rw [hlen] at c2 ⊢
  have hcap : cap ≤ 9223372036854775807 := by unfold maxLen at a3; omega
  have hcup : cup ≤ 9223372036854775807 := by unfold maxLen at c3; omega
  obtain ⟨x, hx⟩ := some_of' (l := L) hpos
  obtain ⟨y, hy⟩ := some_of' (l := U) (show 0 < U.length by omega)
  have hfx : (L.map fun x => flL x t)[0]? = some (flL x t) := by rw [List.getElem?_map, hx]; rfl
  have hfy : (U.map fun x => ceL x t)[0]? = some (ceL y t) := by rw [List.getElem?_map, hy]; rfl
  have hMX := Lib.hid (fold_max hfx)
  have hMN := Lib.hid (fold_min hfy)
  have hx4 := Lib.hid (a4 0 x hx)
  have hy4 := Lib.hid (c4 0 y hy)
  have f0 := Lib.hid (fun w => floor_any x t (hL x (List.mem_of_getElem? hx)) t1 t2 w)
  have g0 := Lib.hid (fun w => ceil_any y t (hU y (List.mem_of_getElem? hy)) t1 t2 w)
  have hOL := Lib.hid hL
  have hOU := Lib.hid hU
  clear hx hy hfx hfy a1 c1 hL hU
  go_enter Try.func70, Try.ntmps70
  go_wp2_with fail
  have hR := heap_new w (.cells #[.int .i64 0, .int .i64 0] 34) rfl
  have hBR : Below w.heap.size w (w.alloc (.cells #[.int .i64 0, .int .i64 0] 34)) := (by repeat (first | with_reducible exact Below.refl _ _ | with_reducible assumption | with_reducible refine Below.drew ?_ | with_reducible refine Below.setCell ?_ (by first | omega | (simp; omega) | simp) _ | with_reducible refine Below.alloc ?_ (by first | omega | (simp; omega) | simp) _ | with_reducible refine Below.trans ?_ (Below.mono (by with_reducible assumption) (by first | omega | (simp; omega) | simp))))
  have hsR : w.heap.size + 1 ≤ (w.alloc (.cells #[.int .i64 0, .int .i64 0] 34)).heap.size := by simp
  generalize w.alloc (.cells #[.int .i64 0, .int .i64 0] 34) = w0 at hR hBR hsR ⊢
  apply region_genA 12 11 [] [0, 1, 2, 3, 4, 5, 6, 7, 8, 9, 10] [12]; (case hm => kernel_rfl); (case hS => rfl); (case hF => kernel_rfl); (case hB => kernel_rfl); (case hQ => exact fun _ _ _ _ _ h => h); (case ho => rfl); (case hg => rfl); (case hal => (intro a W; go_simp; with_reducible rfl)); (case f => (exact rfl)); (case hz => exact rfl); (case h => (intro LQ hLQ W1 hW1; have hK1 := Below.next hBR (Nat.le_refl _) hW1; obtain ⟨e0, e1, e2, e3⟩ := cL_at (cells_below hx4.out hK1); obtain ⟨i0, i1, i2, i3⟩ := cL_at (cells_below hy4.out hK1); simp only [Nat.zero_mul, Nat.add_zero] at e0 e1 e2 e3 i0 i1 i2 i3; simp only [pickO, List.drop_succ_cons, List.drop_zero, List.take_succ_cons, List.take_zero, List.cons_append, List.nil_append, List.append_nil, Act.put, List.setIfInBounds_toArray, List.set_cons_succ, List.set_cons_zero]; have hl := @Later.cell; (repeat (go_big_quiet_step (first | (go_at_call 106; exact Calls.later (f0.out _)) | (go_at_call 107; exact Calls.later (g0.out _))))); exact wpQuiet_nil hLQ)); (intro k W2 hk hW2 hkk; simp only [pickO, List.drop_succ_cons, List.drop_zero, List.take_succ_cons, List.take_zero, List.cons_append, List.nil_append, List.append_nil, Act.put, List.setIfInBounds_toArray, List.set_cons_succ, List.set_cons_zero])
  have hK2 := Below.next hBR (Nat.le_refl _) hW2
  have hR2 := heap_old hW2 hR
  have k0 := cell_heap (o := 0) hkk rfl
  have k1 := cell_heap (o := 1) hkk rfl
  have z0 := frozen_heap (o := 0) hkk
  have z1 := frozen_heap (o := 1) hkk
  go_wp2_with fail
  have hS3 := heap_set (o := 1) (v := .int .i64 (ceL y t)) (heap_set (o := 0) (v := .int .i64 (flL x t)) hkk)
  simp only [List.setIfInBounds_toArray, List.set_cons_succ, List.set_cons_zero] at hS3
  have hR3 := heap_set_other (g := k) (o := 1) (v := .int .i64 (ceL y t)) (heap_set_other (g := k) (o := 0) (v := .int .i64 (flL x t)) hR2 (by omega)) (by omega)
  have hB3 : Below w.heap.size w ((W2.setCell ⟨k, 0, none⟩ (.int .i64 (flL x t))).setCell ⟨k, 1, none⟩ (.int .i64 (ceL y t))) := (by repeat (first | with_reducible exact Below.refl _ _ | with_reducible assumption | with_reducible refine Below.drew ?_ | with_reducible refine Below.setCell ?_ (by first | omega | (simp; omega) | simp) _ | with_reducible refine Below.alloc ?_ (by first | omega | (simp; omega) | simp) _ | with_reducible refine Below.trans ?_ (Below.mono (by with_reducible assumption) (by first | omega | (simp; omega) | simp))))
  generalize (W2.setCell ⟨k, 0, none⟩ (.int .i64 (flL x t))).setCell ⟨k, 1, none⟩ (.int .i64 (ceL y t)) = W3 at hS3 hR3 hB3 ⊢
  clear k0 k1 z0 z1 hkk hR2 hR hW2 hK2
  have hkw : w.heap.size < k := by omega
  clear hk hsR hBR
  generalize hFL : (L.map fun x => flL x t) = FL at *
  generalize hFU : (U.map fun x => ceL x t) = FU at *
  have hFLH := Lib.hid hFL
  have hFUH := Lib.hid hFU
  clear hFL hFU
  go_loopw [22] (fun i wr => ∃ m : Nat, m ≤ L.length ∧ i = .int .i64 m ∧ Below w.heap.size w wr ∧ wr.heap[w.heap.size]? = some (.cells #[.int .i64 0, .int .i64 0] 34 (0, 0)) ∧ wr.heap[k]? = some (.cells #[.int .i64 ((FL.take m).foldl max (flL x t)), .int .i64 ((FU.take m).foldl min (ceL y t))] 34 (0, 0))) (fun i _ => L.length - (intOf i).toNat)
  case atStart => exact ⟨0, by omega, rfl, hB3, hR3, by simpa using hS3⟩
  case round =>
    obtain ⟨m, hm, rfl, hb0, hR0, hS0⟩ := hrel
    rcases Nat.lt_or_ge m L.length with hlt | hge
    · obtain ⟨p, hp⟩ := some_of' (l := L) hlt
      obtain ⟨r, hr⟩ := some_of' (l := U) (show m < U.length by omega)
      have hp4 := a4 m p hp
      have hr4 := c4 m r hr
      have f1 := Lib.hid (fun w => floor_any p t (hOL.out p (List.mem_of_getElem? hp)) t1 t2 w)
      have g1 := Lib.hid (fun w => ceil_any r t (hOU.out r (List.mem_of_getElem? hr)) t1 t2 w)
      have hfp : FL[m]? = some (flL p t) := by rw [← hFLH.out, List.getElem?_map, hp]; rfl
      have hfr : FU[m]? = some (ceL r t) := by rw [← hFUH.out, List.getElem?_map, hr]; rfl
      have hNX := Lib.hid (fold_next (f := max) (x := flL x t) hfp)
      have hNN := Lib.hid (fold_next (f := min) (x := ceL y t) hfr)
      have hn : L.length - (m + 1) < L.length - m := by omega
      have hlk := (Array.getElem?_eq_some_iff.1 hS0).1
      clear hp hr hfp hfr
      generalize (FL.take m).foldl max (flL x t) = A at *
      generalize (FU.take m).foldl min (ceL y t) = B at *
      go_wp2_with fail
      apply region_genF 19 17 [0, 1, 2, 3, 4, 5, 6, 7, 8, 9, 10, 11, 12, 13, 14, 15, 16, 18] [20, 21]; (case hm => kernel_rfl); (case hS => rfl); (case hB => kernel_rfl); (case hQ => exact fun _ _ _ _ _ h => h); (case ho => rfl); (case hg => rfl); (case h => (intro LQ hLQ W1 hW1; have hK1 := Below.next hb0 (Nat.le_refl _) hW1; obtain ⟨e0, e1, e2, e3⟩ := cL_at (cells_below hp4 hK1); obtain ⟨i0, i1, i2, i3⟩ := cL_at (cells_below hr4 hK1); have hS1 := heap_old hW1 hS0; have s0 := cell_heap (o := 0) hS1 rfl; have s1 := cell_heap (o := 1) hS1 rfl; simp only [pickO, List.drop_succ_cons, List.drop_zero, List.take_succ_cons, List.take_zero, List.cons_append, List.nil_append, List.append_nil, Act.put, List.setIfInBounds_toArray, List.set_cons_succ, List.set_cons_zero]; have hl := @Later.cell; (repeat (go_big_quiet_step (first | (go_at_call 106; exact Calls.later (f1.out _)) | (go_at_call 107; exact Calls.later (g1.out _))))); exact wpQuiet_nil hLQ)); (case hv => (intro W; go_simp; with_reducible rfl)); (case hF => (simp only [Act.put, List.setIfInBounds_toArray, List.set_cons_succ, List.set_cons_zero]; exact rfl)); (all_goals (intro W2 hW2; simp only [pickO, List.drop_succ_cons, List.drop_zero, List.take_succ_cons, List.take_zero, List.cons_append, List.nil_append, List.append_nil, Act.put, List.setIfInBounds_toArray, List.set_cons_succ, List.set_cons_zero]))
      all_goals
        have hK2 := Below.next hb0 (Nat.le_refl _) hW2
        have hR2 := heap_old hW2 hR0
        have hS2 := heap_old hW2 hS0
        have k0 := cell_heap (o := 0) hS2 rfl
        have k1 := cell_heap (o := 1) hS2 rfl
        have z0 := frozen_heap (o := 0) hS2
        have z1 := frozen_heap (o := 1) hS2
        go_wp2_with fail
        refine ⟨⟨m + 1, hlt, by simp, (by repeat (first | with_reducible exact Below.refl _ _ | with_reducible assumption | with_reducible refine Below.drew ?_ | with_reducible refine Below.setCell ?_ (by first | omega | (simp; omega) | simp) _ | with_reducible refine Below.alloc ?_ (by first | omega | (simp; omega) | simp) _ | with_reducible refine Below.trans ?_ (Below.mono (by with_reducible assumption) (by first | omega | (simp; omega) | simp)))), heap_set_other (heap_set_other hR2 (by omega)) (by omega), ?_⟩, by simpa [intOf] using hn⟩
        rw [hNX.out, hNN.out, ← ite_max, ← ite_min]
        have hS4 := heap_set (o := 1) (v := .int .i64 (if ceL r t < B then ceL r t else B)) (heap_set (o := 0) (v := .int .i64 (if A < flL p t then flL p t else A)) hS2)
        simpa only [List.setIfInBounds_toArray, List.set_cons_succ, List.set_cons_zero] using hS4
    · obtain rfl : m = L.length := by omega
      have e1 : FL.take L.length = FL := List.take_of_length_le (by rw [← hFLH.out, List.length_map]; omega)
      have e2 : FU.take L.length = FU := List.take_of_length_le (by rw [← hFUH.out, List.length_map]; omega)
      rw [e1, e2, hMX.out, hMN.out] at hS0
      clear e1 e2
      have r0 := cell_heap (o := 0) hR0 rfl
      have r1 := cell_heap (o := 1) hR0 rfl
      have s0 := cell_heap (o := 0) hS0 rfl
      have s1 := cell_heap (o := 1) hS0 rfl
      have z0 := frozen_heap (o := 0) hR0
      have z1 := frozen_heap (o := 1) hR0
      go_wp2_with fail
      have hE := heap_set (o := 1) (v := .int .i64 (mnl FU)) (heap_set (o := 0) (v := .int .i64 (mxl FL)) hR0)
      simp only [List.setIfInBounds_toArray, List.set_cons_succ, List.set_cons_zero] at hE
      have c0 := cell_heap (o := 0) hE rfl
      have c1 := cell_heap (o := 1) hE rfl
      refine bodyPost_ret (v := .agg #[.int .i64 (mxl FL), .int .i64 (mnl FU)]) (by simp only [results, Try.results70]; go_simp) rfl (ret_rng (congrArg mxl hFLH.out.symm) (congrArg mnl hFUH.out.symm) (by repeat (first | with_reducible exact Below.refl _ _ | with_reducible assumption | with_reducible refine Below.drew ?_ | with_reducible refine Below.setCell ?_ (by first | omega | (simp; omega) | simp) _ | with_reducible refine Below.alloc ?_ (by first | omega | (simp; omega) | simp) _ | with_reducible refine Below.trans ?_ (Below.mono (by with_reducible assumption) (by first | omega | (simp; omega) | simp)))))
end Go.Proofs.Ytmdledlbkdcmnaa

/-
  Contract of path.during.
  Conditions: none.
-/
namespace Go.Proofs.Ytmdledlbkdcmnaa
open Go.RowKit
set_option linter.unusedSimpArgs false
theorem ret_rng' {a b c d : Int} {w w' : World} {n : Nat} (h1 : a = c) (h2 : b = d) (h : Below n w w') : Ending.returned (.agg #[.int .i64 a, .int .i64 b]) = .returned (.agg #[.int .i64 c, .int .i64 d]) ∧ Below n w w' := ⟨by rw [h1, h2], h⟩
theorem loP_ite (s t : Int) (x : LN) : (if flL x t < flL x s then flL x t else flL x s) = loP s t x := by unfold loP; exact ite_min _ _
theorem hiP_ite (s t : Int) (x : LN) : (if ceL x s < ceL x t then ceL x t else ceL x s) = hiP s t x := by unfold hiP; exact ite_max _ _
set_option maxRecDepth 100000 in
set_option maxHeartbeats 4000000 in
theorem during_any (v1 v2 : Value) (L U : List LN) (s t : Int) (w : World) (h1 : Lns w v1 L) (h2 : Lns w v2 U) (hlen : U.length = L.length) (hpos : 0 < L.length) (hL : ∀ x ∈ L, okN x) (hU : ∀ x ∈ U, okN x) (s1 : -10 ≤ s) (s2 : s ≤ 5000) (t1 : -10 ≤ t) (t2 : t ≤ 5000) :
    Calls Try.prog 79 #[v1, v2, .agg #[.int .i64 s, .int .i64 t]] w fun e w' => e = .returned (.agg #[.int .i64 (mxl (L.map (loP s t))), .int .i64 (mnl (U.map (hiP s t)))]) ∧ Below w.heap.size w w' := by
  obtain ⟨pa, b, o, cap, rfl, a1, a2, a3, a4⟩ := h1
  obtain ⟨pb, d, q, cup, rfl, c1, c2, c3, c4⟩ := h2
  obtain rfl := a1 hpos
  obtain rfl := c1 (by omega)
  rw [hlen] at c2 ⊢
  have hcap : cap ≤ 9223372036854775807 := by unfold maxLen at a3; omega
  have hcup : cup ≤ 9223372036854775807 := by unfold maxLen at c3; omega
  obtain ⟨x, hx⟩ := some_of' (l := L) hpos
  obtain ⟨y, hy⟩ := some_of' (l := U) (show 0 < U.length by omega)
  have hfx : (L.map (loP s t))[0]? = some (loP s t x) := by rw [List.getElem?_map, hx]; rfl
  have hfy : (U.map (hiP s t))[0]? = some (hiP s t y) := by rw [List.getElem?_map, hy]; rfl
  have hMX := Lib.hid (fold_max hfx)
  have hMN := Lib.hid (fold_min hfy)
  have hx4 := Lib.hid (a4 0 x hx)
  have hy4 := Lib.hid (c4 0 y hy)
  have f0 := Lib.hid (fun u (h1 : -10 ≤ u) (h2 : u ≤ 5000) w => floor_any x u (hL x (List.mem_of_getElem? hx)) h1 h2 w)
  have g0 := Lib.hid (fun u (h1 : -10 ≤ u) (h2 : u ≤ 5000) w => ceil_any y u (hU y (List.mem_of_getElem? hy)) h1 h2 w)
  have hOL := Lib.hid hL
  have hOU := Lib.hid hU
  clear hx hy hfx hfy a1 c1 hL hU
  go_enter Try.func79, Try.ntmps79
  go_wp2_with fail
  have hP := heap_alloc (X := .cells #[.int .i64 0, .int .i64 0] 34) (heap_new w (.cells #[.int .i64 s, .int .i64 t] 34) rfl)
  have hR := heap_new (w.alloc (.cells #[.int .i64 s, .int .i64 t] 34)) (.cells #[.int .i64 0, .int .i64 0] 34) (b := w.heap.size + 1) (by simp)
  have hBR : Below w.heap.size w ((w.alloc (.cells #[.int .i64 s, .int .i64 t] 34)).alloc (.cells #[.int .i64 0, .int .i64 0] 34)) := (by repeat (first | with_reducible exact Below.refl _ _ | with_reducible assumption | with_reducible refine Below.drew ?_ | with_reducible refine Below.setCell ?_ (by first | omega | (simp; omega) | simp) _ | with_reducible refine Below.alloc ?_ (by first | omega | (simp; omega) | simp) _ | with_reducible refine Below.trans ?_ (Below.mono (by with_reducible assumption) (by first | omega | (simp; omega) | simp))))
  have hsR : w.heap.size + 2 ≤ ((w.alloc (.cells #[.int .i64 s, .int .i64 t] 34)).alloc (.cells #[.int .i64 0, .int .i64 0] 34)).heap.size := by simp
  generalize (w.alloc (.cells #[.int .i64 s, .int .i64 t] 34)).alloc (.cells #[.int .i64 0, .int .i64 0] 34) = w0 at hP hR hBR hsR ⊢
  apply region_genA 28 27 [] [0, 1, 2, 3, 4, 5, 6, 7, 8, 9, 10, 11, 12, 13, 14, 15, 16, 17, 18, 19, 20, 21, 22, 23, 24, 25, 26] [28]; (case hm => kernel_rfl); (case hS => rfl); (case hF => kernel_rfl); (case hB => kernel_rfl); (case hQ => exact fun _ _ _ _ _ h => h); (case ho => rfl); (case hg => rfl); (case hal => (intro a W; go_simp; with_reducible rfl)); (case f => (exact rfl)); (case hz => exact rfl); (case h => (intro LQ hLQ W1 hW1; have hK1 := Below.next hBR (Nat.le_refl _) hW1; obtain ⟨e0, e1, e2, e3⟩ := cL_at (cells_below hx4.out hK1); obtain ⟨i0, i1, i2, i3⟩ := cL_at (cells_below hy4.out hK1); simp only [Nat.zero_mul, Nat.add_zero] at e0 e1 e2 e3 i0 i1 i2 i3; have hP1 := heap_old hW1 hP; have p0 := cell_heap (o := 0) hP1 rfl; have p1 := cell_heap (o := 1) hP1 rfl; simp only [pickO, List.drop_succ_cons, List.drop_zero, List.take_succ_cons, List.take_zero, List.cons_append, List.nil_append, List.append_nil, Act.put, List.setIfInBounds_toArray, List.set_cons_succ, List.set_cons_zero]; have hl := @Later.cell; (repeat (go_big_quiet_step (first | (go_at_call_of 106 (s); exact Calls.later (f0.out s s1 s2 _)) | (go_at_call_of 106 (t); exact Calls.later (f0.out t t1 t2 _)) | (go_at_call_of 107 (s); exact Calls.later (g0.out s s1 s2 _)) | (go_at_call_of 107 (t); exact Calls.later (g0.out t t1 t2 _))))); exact wpQuiet_nil hLQ)); (intro k W2 hk hW2 hkk; simp only [pickO, List.drop_succ_cons, List.drop_zero, List.take_succ_cons, List.take_zero, List.cons_append, List.nil_append, List.append_nil, Act.put, List.setIfInBounds_toArray, List.set_cons_succ, List.set_cons_zero])
  rw [loP_ite, hiP_ite]
  have hK2 := Below.next hBR (Nat.le_refl _) hW2
  have hR2 := heap_old hW2 hR
  have hP2 := heap_old hW2 hP
  have k0 := cell_heap (o := 0) hkk rfl
  have k1 := cell_heap (o := 1) hkk rfl
  have z0 := frozen_heap (o := 0) hkk
  have z1 := frozen_heap (o := 1) hkk
  go_wp2_with fail
  have hS3 := heap_set (o := 1) (v := .int .i64 (hiP s t y)) (heap_set (o := 0) (v := .int .i64 (loP s t x)) hkk)
  simp only [List.setIfInBounds_toArray, List.set_cons_succ, List.set_cons_zero] at hS3
  have hR3 := heap_set_other (g := k) (o := 1) (v := .int .i64 (hiP s t y)) (heap_set_other (g := k) (o := 0) (v := .int .i64 (loP s t x)) hR2 (by omega)) (by omega)
  have hP3 := heap_set_other (g := k) (o := 1) (v := .int .i64 (hiP s t y)) (heap_set_other (g := k) (o := 0) (v := .int .i64 (loP s t x)) hP2 (by omega)) (by omega)
  have hB3 : Below w.heap.size w ((W2.setCell ⟨k, 0, none⟩ (.int .i64 (loP s t x))).setCell ⟨k, 1, none⟩ (.int .i64 (hiP s t y))) := (by repeat (first | with_reducible exact Below.refl _ _ | with_reducible assumption | with_reducible refine Below.drew ?_ | with_reducible refine Below.setCell ?_ (by first | omega | (simp; omega) | simp) _ | with_reducible refine Below.alloc ?_ (by first | omega | (simp; omega) | simp) _ | with_reducible refine Below.trans ?_ (Below.mono (by with_reducible assumption) (by first | omega | (simp; omega) | simp))))
  generalize (W2.setCell ⟨k, 0, none⟩ (.int .i64 (loP s t x))).setCell ⟨k, 1, none⟩ (.int .i64 (hiP s t y)) = W3 at hS3 hR3 hP3 hB3 ⊢
  clear k0 k1 z0 z1 hkk hR2 hR hP hP2 hW2 hK2
  have hkw : w.heap.size + 1 < k := by omega
  clear hk hsR hBR
  generalize hFL : (L.map (loP s t)) = FL at *
  generalize hFU : (U.map (hiP s t)) = FU at *
  have hFLH := Lib.hid hFL
  have hFUH := Lib.hid hFU
  clear hFL hFU
  go_loopw [38] (fun i wr => ∃ m : Nat, m ≤ L.length ∧ i = .int .i64 m ∧ Below w.heap.size w wr ∧ wr.heap[w.heap.size]? = some (.cells #[.int .i64 s, .int .i64 t] 34 (0, 0)) ∧ wr.heap[w.heap.size + 1]? = some (.cells #[.int .i64 0, .int .i64 0] 34 (0, 0)) ∧ wr.heap[k]? = some (.cells #[.int .i64 ((FL.take m).foldl max (loP s t x)), .int .i64 ((FU.take m).foldl min (hiP s t y))] 34 (0, 0))) (fun i _ => L.length - (intOf i).toNat)
  case atStart => exact ⟨0, by omega, rfl, hB3, hP3, hR3, by simpa using hS3⟩
  case round =>
    obtain ⟨m, hm, rfl, hb0, hP0, hR0, hS0⟩ := hrel
    rcases Nat.lt_or_ge m L.length with hlt | hge
    · obtain ⟨p, hp⟩ := some_of' (l := L) hlt
      obtain ⟨r, hr⟩ := some_of' (l := U) (show m < U.length by omega)
      have hp4 := a4 m p hp
      have hr4 := c4 m r hr
      have f1 := Lib.hid (fun u (h1 : -10 ≤ u) (h2 : u ≤ 5000) w => floor_any p u (hOL.out p (List.mem_of_getElem? hp)) h1 h2 w)
      have g1 := Lib.hid (fun u (h1 : -10 ≤ u) (h2 : u ≤ 5000) w => ceil_any r u (hOU.out r (List.mem_of_getElem? hr)) h1 h2 w)
      have hfp : FL[m]? = some (loP s t p) := by rw [← hFLH.out, List.getElem?_map, hp]; rfl
      have hfr : FU[m]? = some (hiP s t r) := by rw [← hFUH.out, List.getElem?_map, hr]; rfl
      have hNX := Lib.hid (fold_next (f := max) (x := loP s t x) hfp)
      have hNN := Lib.hid (fold_next (f := min) (x := hiP s t y) hfr)
      have hn : L.length - (m + 1) < L.length - m := by omega
      have hlk := (Array.getElem?_eq_some_iff.1 hS0).1
      clear hp hr hfp hfr
      generalize (FL.take m).foldl max (loP s t x) = A at *
      generalize (FU.take m).foldl min (hiP s t y) = B at *
      go_wp2_with fail
      apply region_gen 19 [] [0, 1, 2, 3, 4, 5, 6, 7, 8, 9, 10, 11, 12, 13, 14, 15, 16, 17, 18] [19]; (case hm => kernel_rfl); (case hS => rfl); (case hF => kernel_rfl); (case hB => kernel_rfl); (case hQ => exact fun _ _ _ _ _ h => h); (case f => (exact rfl)); (case hz => exact rfl); (case h => (intro LQ hLQ W1 hW1; have hK1 := Below.next hb0 (Nat.le_refl _) hW1; obtain ⟨e0, e1, e2, e3⟩ := cL_at (cells_below hp4 hK1); have hS1 := heap_old hW1 hS0; have s0 := cell_heap (o := 0) hS1 rfl; have s1 := cell_heap (o := 1) hS1 rfl; have hP1 := heap_old hW1 hP0; have p0 := cell_heap (o := 0) hP1 rfl; have p1 := cell_heap (o := 1) hP1 rfl; simp only [pickO, List.drop_succ_cons, List.drop_zero, List.take_succ_cons, List.take_zero, List.cons_append, List.nil_append, List.append_nil, Act.put, List.setIfInBounds_toArray, List.set_cons_succ, List.set_cons_zero]; have hl := @Later.cell; (repeat (go_big_quiet_step (first | (go_at_call_of 106 (s); exact Calls.later (f1.out s (by assumption) (by assumption) _)) | (go_at_call_of 106 (t); exact Calls.later (f1.out t t1 t2 _))))); exact wpQuiet_nil hLQ)); (intro W2 hW2; simp only [pickO, List.drop_succ_cons, List.drop_zero, List.take_succ_cons, List.take_zero, List.cons_append, List.nil_append, List.append_nil, Act.put, List.setIfInBounds_toArray, List.set_cons_succ, List.set_cons_zero])
      rw [loP_ite, ite_max]
      have hK2 := Below.next hb0 (Nat.le_refl _) hW2
      have hP2 := heap_old hW2 hP0
      have hR2 := heap_old hW2 hR0
      have hS2 := heap_old hW2 hS0
      have k0 := cell_heap (o := 0) hS2 rfl
      have z0 := frozen_heap (o := 0) hS2
      go_wp2_with fail
      have hS4 := heap_set (o := 0) (v := .int .i64 (max A (loP s t p))) hS2
      simp only [List.setIfInBounds_toArray, List.set_cons_succ, List.set_cons_zero] at hS4
      have hR4 := heap_set_other (g := k) (o := 0) (v := .int .i64 (max A (loP s t p))) hR2 (by omega)
      have hP4 := heap_set_other (g := k) (o := 0) (v := .int .i64 (max A (loP s t p))) hP2 (by omega)
      have hB4 : Below w.heap.size w (W2.setCell ⟨k, 0, none⟩ (.int .i64 (max A (loP s t p)))) := (by repeat (first | with_reducible exact Below.refl _ _ | with_reducible assumption | with_reducible refine Below.drew ?_ | with_reducible refine Below.setCell ?_ (by first | omega | (simp; omega) | simp) _ | with_reducible refine Below.alloc ?_ (by first | omega | (simp; omega) | simp) _ | with_reducible refine Below.trans ?_ (Below.mono (by with_reducible assumption) (by first | omega | (simp; omega) | simp))))
      generalize W2.setCell ⟨k, 0, none⟩ (.int .i64 (max A (loP s t p))) = W4 at hS4 hR4 hP4 hB4 ⊢
      clear k0 z0 hS2 hR2 hP2 hK2 hW2
      apply region_gen 19 [] [0, 1, 2, 3, 4, 5, 6, 7, 8, 9, 10, 11, 12, 13, 14, 15, 16, 17, 18] [19]; (case hm => kernel_rfl); (case hS => rfl); (case hF => kernel_rfl); (case hB => kernel_rfl); (case hQ => exact fun _ _ _ _ _ h => h); (case f => (exact rfl)); (case hz => exact rfl); (case h => (intro LQ hLQ W1 hW1; have hK1 := Below.next hB4 (Nat.le_refl _) hW1; obtain ⟨i0, i1, i2, i3⟩ := cL_at (cells_below hr4 hK1); have hS1 := heap_old hW1 hS4; have s0 := cell_heap (o := 0) hS1 rfl; have s1 := cell_heap (o := 1) hS1 rfl; have hP1 := heap_old hW1 hP4; have p0 := cell_heap (o := 0) hP1 rfl; have p1 := cell_heap (o := 1) hP1 rfl; simp only [pickO, List.drop_succ_cons, List.drop_zero, List.take_succ_cons, List.take_zero, List.cons_append, List.nil_append, List.append_nil, Act.put, List.setIfInBounds_toArray, List.set_cons_succ, List.set_cons_zero]; have hl := @Later.cell; (repeat (go_big_quiet_step (first | (go_at_call_of 107 (s); exact Calls.later (g1.out s (by assumption) (by assumption) _)) | (go_at_call_of 107 (t); exact Calls.later (g1.out t t1 t2 _))))); exact wpQuiet_nil hLQ)); (intro W2 hW2; simp only [pickO, List.drop_succ_cons, List.drop_zero, List.take_succ_cons, List.take_zero, List.cons_append, List.nil_append, List.append_nil, Act.put, List.setIfInBounds_toArray, List.set_cons_succ, List.set_cons_zero])
      rw [hiP_ite, ite_min]
      have hK2 := Below.next hB4 (Nat.le_refl _) hW2
      have hP2 := heap_old hW2 hP4
      have hR2 := heap_old hW2 hR4
      have hS2 := heap_old hW2 hS4
      have k1 := cell_heap (o := 1) hS2 rfl
      have z1 := frozen_heap (o := 1) hS2
      go_wp2_with fail
      refine ⟨⟨m + 1, hlt, by simp, (by repeat (first | with_reducible exact Below.refl _ _ | with_reducible assumption | with_reducible refine Below.drew ?_ | with_reducible refine Below.setCell ?_ (by first | omega | (simp; omega) | simp) _ | with_reducible refine Below.alloc ?_ (by first | omega | (simp; omega) | simp) _ | with_reducible refine Below.trans ?_ (Below.mono (by with_reducible assumption) (by first | omega | (simp; omega) | simp)))), heap_set_other hP2 (by omega), heap_set_other hR2 (by omega), ?_⟩, by simpa [intOf] using hn⟩
      rw [hNX.out, hNN.out]
      have hS5 := heap_set (o := 1) (v := .int .i64 (min B (hiP s t r))) hS2
      simpa only [List.setIfInBounds_toArray, List.set_cons_succ, List.set_cons_zero] using hS5
    · obtain rfl : m = L.length := by omega
      have e1 : FL.take L.length = FL := List.take_of_length_le (by rw [← hFLH.out, List.length_map]; omega)
      have e2 : FU.take L.length = FU := List.take_of_length_le (by rw [← hFUH.out, List.length_map]; omega)
      rw [e1, e2, hMX.out, hMN.out] at hS0
      clear e1 e2
      have r0 := cell_heap (o := 0) hR0 rfl
      have r1 := cell_heap (o := 1) hR0 rfl
      have k0 := cell_heap (o := 0) hS0 rfl
      have k1 := cell_heap (o := 1) hS0 rfl
      have z0 := frozen_heap (o := 0) hR0
      have z1 := frozen_heap (o := 1) hR0
      go_wp2_with fail
      have hE := heap_set (o := 1) (v := .int .i64 (mnl FU)) (heap_set (o := 0) (v := .int .i64 (mxl FL)) hR0)
      simp only [List.setIfInBounds_toArray, List.set_cons_succ, List.set_cons_zero] at hE
      have c0 := cell_heap (o := 0) hE rfl
      have c1 := cell_heap (o := 1) hE rfl
      refine bodyPost_ret (v := .agg #[.int .i64 (mxl FL), .int .i64 (mnl FU)]) (by simp only [results, Try.results79]; go_simp) rfl (ret_rng' (congrArg mxl hFLH.out.symm) (congrArg mnl hFUH.out.symm) (by repeat (first | with_reducible exact Below.refl _ _ | with_reducible assumption | with_reducible refine Below.drew ?_ | with_reducible refine Below.setCell ?_ (by first | omega | (simp; omega) | simp) _ | with_reducible refine Below.alloc ?_ (by first | omega | (simp; omega) | simp) _ | with_reducible refine Below.trans ?_ (Below.mono (by with_reducible assumption) (by first | omega | (simp; omega) | simp)))))
end Go.Proofs.Ytmdledlbkdcmnaa

/-
  Contract of path.Lines.
  Conditions: none.
-/
namespace Go.Proofs.Ytmdledlbkdcmnaa
open Go.RowKit
theorem bounds_any (v : Value) (l : List SN) (ax : Int) (w : World) (h : Seens w v l) (hok : ∀ s ∈ l, okS s = true) (hl : l.length ≤ 64) (h1 : 0 ≤ ax) (h2 : ax ≤ 2) : Calls Try.prog 57 #[v, .int .i64 ax] w fun e w' => ∃ u, e = .returned u ∧ Bnds w' u (bnds ax l) ∧ Below w.heap.size w w' := by
  rcases (show ax = 0 ∨ ax = 1 ∨ ax = 2 by omega) with rfl | rfl | rfl
  · exact bounds0 v l w h hok hl
  · exact bounds1 v l w h hok hl
  · exact bounds2 v l w h hok hl
theorem lastB_bnds {ax : Int} {l : List SN} {s : SN} (h : l[l.length - 1]? = some s) : lastB (bnds ax l) = bndS ax s := by
  apply lastB_some
  rw [bnds_len]
  unfold bnds
  rw [List.getElem?_map, h]; rfl
/-- The ends of the range at a time, of the lines between bounds. -/
theorem enclose_rims {X : List BD} (hX : ∀ b ∈ X, okB b) (r : RisingB X) (h2 : 2 ≤ X.length) (v1 v2 : Value) (t : Int) (w : World) (h1 : Lns w v1 (lows X)) (h3 : Lns w v2 (upps X)) (t1 : -10 ≤ t) (t2 : t ≤ 5000) :
    Calls Try.prog 70 #[v1, v2, .int .i64 t] w fun e w' => e = .returned (.agg #[.int .i64 (loR X t t), .int .i64 (hiR X t t)]) ∧ Below w.heap.size w w' := by
  have hpos : 0 < (lows X).length := by
    have := lows_ne h2 (fun _ => 0)
    rcases Nat.eq_zero_or_pos (lows X).length with e | e
    · exact absurd (by rw [List.length_eq_zero_iff.1 e]; rfl) this
    · exact e
  have e1 : (lows X).map (loP t t) = (lows X).map fun x => flL x t := List.map_congr_left fun x _ => loP_same t x
  have e2 : (upps X).map (hiP t t) = (upps X).map fun x => ceL x t := List.map_congr_left fun x _ => hiP_same t x
  unfold loR hiR
  rw [e1, e2]
  exact enclose_any v1 v2 _ _ t w h1 h3 (lows_len X).symm hpos (lows_ok hX r) (upps_ok hX r) t1 t2
theorem during_rims {X : List BD} (hX : ∀ b ∈ X, okB b) (r : RisingB X) (h2 : 2 ≤ X.length) (v1 v2 : Value) (s t : Int) (w : World) (h1 : Lns w v1 (lows X)) (h3 : Lns w v2 (upps X)) (s1 : -10 ≤ s) (s2 : s ≤ 5000) (t1 : -10 ≤ t) (t2 : t ≤ 5000) :
    Calls Try.prog 79 #[v1, v2, .agg #[.int .i64 s, .int .i64 t]] w fun e w' => e = .returned (.agg #[.int .i64 (loR X s t), .int .i64 (hiR X s t)]) ∧ Below w.heap.size w w' := by
  have hpos : 0 < (lows X).length := by
    have := lows_ne h2 (fun _ => 0)
    rcases Nat.eq_zero_or_pos (lows X).length with e | e
    · exact absurd (by rw [List.length_eq_zero_iff.1 e]; rfl) this
    · exact e
  exact during_any v1 v2 _ _ s t w h1 h3 (lows_len X).symm hpos (lows_ok hX r) (upps_ok hX r) s1 s2 t1 t2
def linV (l : List SN) (ax t : Int) : Value := .tuple #[.agg #[.int .i64 (linLo l ax t), .int .i64 (linHi l ax t)], .int .i64 (linE l ax t)]
theorem linV_bad {l : List SN} {ax t e : Int} (h : linE l ax t = e) (hne : e ≠ 0) : linV l ax t = .tuple #[.agg #[.int .i64 0, .int .i64 0], .int .i64 e] := by
  unfold linV linLo linHi
  rw [h, if_neg hne, if_neg hne]
set_option maxRecDepth 100000 in
set_option maxHeartbeats 4000000 in
theorem lines_any (v : Value) (l : List SN) (ax t : Int) (w : World) (h : Seens w v l) : Calls Try.prog 30 #[v, .int .i64 ax, .int .i64 t] w fun e w' => e = .returned (linV l ax t) ∧ Below w.heap.size w w' := by
  by_cases hax : ax < 0 ∨ 2 < ax
  · have e1 : linV l ax t = .tuple #[.agg #[.int .i64 0, .int .i64 0], .int .i64 1] := linV_bad (by unfold linE; rw [if_pos hax]) (by omega)
    rw [e1]
    go_enter Try.func30, Try.ntmps30
    go_wp2_with fail
    all_goals first
      | (refine bodyPost_ret (v := .tuple #[.agg #[.int .i64 0, .int .i64 0], .int .i64 1]) (by simp only [results, Try.results30]; go_simp) rfl ⟨rfl, (by repeat (first | with_reducible exact Below.refl _ _ | with_reducible assumption | with_reducible refine Below.drew ?_ | with_reducible refine Below.setCell ?_ (by first | omega | (simp; omega) | simp) _ | with_reducible refine Below.alloc ?_ (by first | omega | (simp; omega) | simp) _ | with_reducible refine Below.trans ?_ (Below.mono (by with_reducible assumption) (by first | omega | (simp; omega) | simp))))⟩)
      | (exfalso; omega)
  obtain ⟨x1, x2⟩ : 0 ≤ ax ∧ ax ≤ 2 := by omega
  by_cases hb : behE l = 0
  · have hbl := (behE_len hb).2
    have hok := Lib.hid (bhd_ok (l := l))
    have hrs := Lib.hid (bnds_rise ax l)
    have hbo := Lib.hid (bnds_ok (ax := ax) (l := l))
    have hl64 := bhd_len l
    obtain ⟨n, hn⟩ : ∃ n, (bhdL l).length = n + 1 := ⟨(bhdL l).length - 1, by omega⟩
    obtain ⟨s, hs⟩ := some_of' (l := bhdL l) (i := n) (by omega)
    have hlast : lastB (bnds ax (bhdL l)) = bndS ax s := lastB_bnds (by rw [hn]; simpa using hs)
    have hlt1 : (lastB (bnds ax (bhdL l))).1 = s.1 := by rw [hlast, bndS_t]
    obtain ⟨⟨s1, s2⟩, _⟩ := okS_iff.1 (hok.out s (List.mem_of_getElem? hs))
    have hXl := bnds_len ax (bhdL l)
    have hbeh := Lib.hid (fun w' (h : Seens w' v l) => by have := pbehind_any v l w' h; rwa [hb] at this)
    by_cases ht : t < s.1 ∨ s.1 + 400 < t
    · have e1 : linV l ax t = .tuple #[.agg #[.int .i64 0, .int .i64 0], .int .i64 2] := linV_bad (by unfold linE; rw [if_neg hax, if_neg (by simp [hb]), hlt1, if_pos ht]) (by omega)
      rw [e1]
      have hS := Lib.hid hs
      clear hs hlast hlt1 hb e1 hax
      generalize hq : bhdL l = S at *
      clear hq
      go_enter Try.func30, Try.ntmps30
      go_wp2_with (go_at_call 55; refine (hbeh.out _ (h.below (by repeat (first | with_reducible exact Below.refl _ _ | with_reducible assumption | with_reducible refine Below.drew ?_ | with_reducible refine Below.setCell ?_ (by first | omega | (simp; omega) | simp) _ | with_reducible refine Below.alloc ?_ (by first | omega | (simp; omega) | simp) _ | with_reducible refine Below.trans ?_ (Below.mono (by with_reducible assumption) (by first | omega | (simp; omega) | simp)))))).mono ?_; rintro e w1 ⟨⟨u, rfl, hu⟩, hb1⟩; obtain ⟨pa, b, o, cap, rfl, g1, g2, g3, g4⟩ := hu (by first | rfl | trivial); have hB1 : Below w.heap.size w w1 := Below.next1 (Below.refl _ _) (Nat.le_refl _) hb1; obtain rfl := g1 (by omega); obtain ⟨c0, c1, c2, c3, c4⟩ := g4 n s hS.out; have hR := heap_old hb1 (heap_new w (.cells #[.int .i64 0, .int .i64 0] 34) rfl); have r0 := cell_heap (o := 0) hR rfl; have r1 := cell_heap (o := 1) hR rfl; have z0 := frozen_heap (o := 0) hR; have z1 := frozen_heap (o := 1) hR; clear g4 hb1; rw [hn] at g2 ⊢)
      all_goals
        have hE := heap_set (o := 1) (v := .int .i64 0) (heap_set (o := 0) (v := .int .i64 0) hR); simp only [List.setIfInBounds_toArray, List.set_cons_succ, List.set_cons_zero] at hE; have k0 := cell_heap (o := 0) hE rfl; have k1 := cell_heap (o := 1) hE rfl
        refine bodyPost_ret (v := .tuple #[.agg #[.int .i64 0, .int .i64 0], .int .i64 2]) (by simp only [results, Try.results30]; go_simp) rfl ⟨rfl, (by repeat (first | with_reducible exact Below.refl _ _ | with_reducible assumption | with_reducible refine Below.drew ?_ | with_reducible refine Below.setCell ?_ (by first | omega | (simp; omega) | simp) _ | with_reducible refine Below.alloc ?_ (by first | omega | (simp; omega) | simp) _ | with_reducible refine Below.trans ?_ (Below.mono (by with_reducible assumption) (by first | omega | (simp; omega) | simp))))⟩
    · have hX2 : 2 ≤ (bnds ax (bhdL l)).length := by omega
      have hXb := Lib.hid (fun w' u (h : Seens w' u (bhdL l)) => bounds_any u (bhdL l) ax w' h hok.out hl64 x1 x2)
      obtain ⟨ht1, ht2⟩ : s.1 ≤ t ∧ t ≤ s.1 + 400 := by omega
      have hS := Lib.hid hs
      by_cases hf : fitsB (bnds ax (bhdL l)) = true
      · have e0 : linE l ax t = 0 := by unfold linE; rw [if_neg hax, if_neg (by simp [hb]), hlt1, if_neg ht, if_pos hf]
        have e1 : linV l ax t = .tuple #[.agg #[.int .i64 (loR (bnds ax (bhdL l)) t t), .int .i64 (hiR (bnds ax (bhdL l)) t t)], .int .i64 0] := by
          unfold linV linLo linHi; rw [e0]; rfl
        rw [e1]
        clear hs hlast hlt1 hb e1 e0 hax ht
        generalize bnds ax (bhdL l) = X at *
        have hfit := Lib.hid (fun w' u (h : Bnds w' u X) => by have := pfits_any u X w' h hbo.out (by omega); rwa [hf] at this)
        have hrim := Lib.hid (fun w' u (h : Bnds w' u X) => rims_any u X w' h hbo.out (by omega))
        have henc := Lib.hid (fun w' v1 v2 (h1 : Lns w' v1 (lows X)) (h2 : Lns w' v2 (upps X)) => enclose_rims hbo.out hrs.out hX2 v1 v2 t w' h1 h2 (by omega) (by omega))
        clear hf
        generalize loR X t t = A at *
        generalize hiR X t t = B at *
        generalize hq : bhdL l = S at *
        clear hq
        go_enter Try.func30, Try.ntmps30
        go_wp2_with (first
          | (go_at_call 55; refine (hbeh.out _ (h.below (by repeat (first | with_reducible exact Below.refl _ _ | with_reducible assumption | with_reducible refine Below.drew ?_ | with_reducible refine Below.setCell ?_ (by first | omega | (simp; omega) | simp) _ | with_reducible refine Below.alloc ?_ (by first | omega | (simp; omega) | simp) _ | with_reducible refine Below.trans ?_ (Below.mono (by with_reducible assumption) (by first | omega | (simp; omega) | simp)))))).mono ?_; rintro e w1 ⟨⟨u, rfl, hu⟩, hb1⟩; have hu0 := hu (by first | rfl | trivial); have hu1 := hu0; obtain ⟨pa, b, o, cap, rfl, g1, g2, g3, g4⟩ := hu1; clear hu; have hB1 : Below w.heap.size w w1 := Below.next1 (Below.refl _ _) (Nat.le_refl _) hb1; obtain rfl := g1 (by omega); obtain ⟨c0, c1, c2, c3, c4⟩ := g4 n s hS.out; have hR := heap_old hb1 (heap_new w (.cells #[.int .i64 0, .int .i64 0] 34) rfl); have r0 := cell_heap (o := 0) hR rfl; have r1 := cell_heap (o := 1) hR rfl; have z0 := frozen_heap (o := 0) hR; have z1 := frozen_heap (o := 1) hR; clear g4 hb1; rw [hn] at g2 hu0 ⊢)
          | (go_at_call 57; refine (hXb.out _ _ hu0).mono ?_; rintro e w2 ⟨x, rfl, hx, hb2⟩; have hB2 := Below.next hB1 (Nat.le_refl _) hb2; replace hR := heap_old hb2 hR)
          | (go_at_call 56; refine (hfit.out _ _ hx).mono ?_; rintro e w3 ⟨rfl, hb3⟩; have hB3 := Below.next hB2 (Nat.le_refl _) hb3; replace hR := heap_old hb3 hR; have hx3 := hx.below hb3)
          | (go_at_call 69; refine (hrim.out _ _ hx3).mono ?_; rintro e w4 ⟨y1, y2, rfl, hy1, hy2, hb4⟩; have hB4 := Below.next hB3 (Nat.le_refl _) hb4; replace hR := heap_old hb4 hR)
          | (go_at_call 70; refine (henc.out _ _ _ hy1 hy2).mono ?_; rintro e w5 ⟨rfl, hb5⟩; have hB5 := Below.next hB4 (Nat.le_refl _) hb5; replace hR := heap_old hb5 hR; clear r0 r1 z0 z1; have r0 := cell_heap (o := 0) hR rfl; have r1 := cell_heap (o := 1) hR rfl; have z0 := frozen_heap (o := 0) hR; have z1 := frozen_heap (o := 1) hR))
        have hE := heap_set (o := 1) (v := .int .i64 B) (heap_set (o := 0) (v := .int .i64 A) hR)
        simp only [List.setIfInBounds_toArray, List.set_cons_succ, List.set_cons_zero] at hE
        have k0 := cell_heap (o := 0) hE rfl
        have k1 := cell_heap (o := 1) hE rfl
        refine bodyPost_ret (v := .tuple #[.agg #[.int .i64 A, .int .i64 B], .int .i64 0]) (by simp only [results, Try.results30]; go_simp) rfl ⟨rfl, (by repeat (first | with_reducible exact Below.refl _ _ | with_reducible assumption | with_reducible refine Below.drew ?_ | with_reducible refine Below.setCell ?_ (by first | omega | (simp; omega) | simp) _ | with_reducible refine Below.alloc ?_ (by first | omega | (simp; omega) | simp) _ | with_reducible refine Below.trans ?_ (Below.mono (by with_reducible assumption) (by first | omega | (simp; omega) | simp))))⟩
      · have e1 : linV l ax t = .tuple #[.agg #[.int .i64 0, .int .i64 0], .int .i64 13] := linV_bad (by unfold linE; rw [if_neg hax, if_neg (by simp [hb]), hlt1, if_neg ht, if_neg hf]) (by omega)
        rw [e1]
        have hf' : fitsB (bnds ax (bhdL l)) = false := by simpa using hf
        clear hs hlast hlt1 hb e1 hax ht hf
        generalize bnds ax (bhdL l) = X at *
        have hfit := Lib.hid (fun w' u (h : Bnds w' u X) => by have := pfits_any u X w' h hbo.out (by omega); rwa [hf'] at this)
        clear hf'
        generalize hq : bhdL l = S at *
        clear hq
        go_enter Try.func30, Try.ntmps30
        go_wp2_with (first
          | (go_at_call 55; refine (hbeh.out _ (h.below (by repeat (first | with_reducible exact Below.refl _ _ | with_reducible assumption | with_reducible refine Below.drew ?_ | with_reducible refine Below.setCell ?_ (by first | omega | (simp; omega) | simp) _ | with_reducible refine Below.alloc ?_ (by first | omega | (simp; omega) | simp) _ | with_reducible refine Below.trans ?_ (Below.mono (by with_reducible assumption) (by first | omega | (simp; omega) | simp)))))).mono ?_; rintro e w1 ⟨⟨u, rfl, hu⟩, hb1⟩; have hu0 := hu (by first | rfl | trivial); have hu1 := hu0; obtain ⟨pa, b, o, cap, rfl, g1, g2, g3, g4⟩ := hu1; clear hu; have hB1 : Below w.heap.size w w1 := Below.next1 (Below.refl _ _) (Nat.le_refl _) hb1; obtain rfl := g1 (by omega); obtain ⟨c0, c1, c2, c3, c4⟩ := g4 n s hS.out; have hR := heap_old hb1 (heap_new w (.cells #[.int .i64 0, .int .i64 0] 34) rfl); have r0 := cell_heap (o := 0) hR rfl; have r1 := cell_heap (o := 1) hR rfl; have z0 := frozen_heap (o := 0) hR; have z1 := frozen_heap (o := 1) hR; clear g4 hb1; rw [hn] at g2 hu0 ⊢)
          | (go_at_call 57; refine (hXb.out _ _ hu0).mono ?_; rintro e w2 ⟨x, rfl, hx, hb2⟩; have hB2 := Below.next hB1 (Nat.le_refl _) hb2; replace hR := heap_old hb2 hR)
          | (go_at_call 56; refine (hfit.out _ _ hx).mono ?_; rintro e w3 ⟨rfl, hb3⟩; have hB3 := Below.next hB2 (Nat.le_refl _) hb3; replace hR := heap_old hb3 hR; clear r0 r1 z0 z1; have r0 := cell_heap (o := 0) hR rfl; have r1 := cell_heap (o := 1) hR rfl; have z0 := frozen_heap (o := 0) hR; have z1 := frozen_heap (o := 1) hR))
        have hE := heap_set (o := 1) (v := .int .i64 0) (heap_set (o := 0) (v := .int .i64 0) hR); simp only [List.setIfInBounds_toArray, List.set_cons_succ, List.set_cons_zero] at hE; have k0 := cell_heap (o := 0) hE rfl; have k1 := cell_heap (o := 1) hE rfl
        refine bodyPost_ret (v := .tuple #[.agg #[.int .i64 0, .int .i64 0], .int .i64 13]) (by simp only [results, Try.results30]; go_simp) rfl ⟨rfl, (by repeat (first | with_reducible exact Below.refl _ _ | with_reducible assumption | with_reducible refine Below.drew ?_ | with_reducible refine Below.setCell ?_ (by first | omega | (simp; omega) | simp) _ | with_reducible refine Below.alloc ?_ (by first | omega | (simp; omega) | simp) _ | with_reducible refine Below.trans ?_ (Below.mono (by with_reducible assumption) (by first | omega | (simp; omega) | simp))))⟩
  · have e1 : linV l ax t = .tuple #[.agg #[.int .i64 0, .int .i64 0], .int .i64 (behE l)] := linV_bad (by unfold linE; rw [if_neg hax, if_pos hb]) hb
    rw [e1]
    have hbeh := Lib.hid (fun w' (h : Seens w' v l) => pbehind_any v l w' h)
    have hb' : (behE l != 0) = true := by simpa using hb
    clear e1 hax hb
    generalize behE l = E at *
    go_enter Try.func30, Try.ntmps30
    go_wp2_with (go_at_call 55; refine (hbeh.out _ (h.below (by repeat (first | with_reducible exact Below.refl _ _ | with_reducible assumption | with_reducible refine Below.drew ?_ | with_reducible refine Below.setCell ?_ (by first | omega | (simp; omega) | simp) _ | with_reducible refine Below.alloc ?_ (by first | omega | (simp; omega) | simp) _ | with_reducible refine Below.trans ?_ (Below.mono (by with_reducible assumption) (by first | omega | (simp; omega) | simp)))))).mono ?_; rintro e w1 ⟨⟨u, rfl, hu⟩, hb1⟩; clear hu; have hB1 : Below w.heap.size w w1 := Below.next1 (Below.refl _ _) (Nat.le_refl _) hb1; have hR := heap_old hb1 (heap_new w (.cells #[.int .i64 0, .int .i64 0] 34) rfl); have r0 := cell_heap (o := 0) hR rfl; have r1 := cell_heap (o := 1) hR rfl; have z0 := frozen_heap (o := 0) hR; have z1 := frozen_heap (o := 1) hR)
    have hE := heap_set (o := 1) (v := .int .i64 0) (heap_set (o := 0) (v := .int .i64 0) hR); simp only [List.setIfInBounds_toArray, List.set_cons_succ, List.set_cons_zero] at hE; have k0 := cell_heap (o := 0) hE rfl; have k1 := cell_heap (o := 1) hE rfl
    refine bodyPost_ret (v := .tuple #[.agg #[.int .i64 0, .int .i64 0], .int .i64 E]) (by simp only [results, Try.results30]; go_simp) rfl ⟨rfl, (by repeat (first | with_reducible exact Below.refl _ _ | with_reducible assumption | with_reducible refine Below.drew ?_ | with_reducible refine Below.setCell ?_ (by first | omega | (simp; omega) | simp) _ | with_reducible refine Below.alloc ?_ (by first | omega | (simp; omega) | simp) _ | with_reducible refine Below.trans ?_ (Below.mono (by with_reducible assumption) (by first | omega | (simp; omega) | simp))))⟩
end Go.Proofs.Ytmdledlbkdcmnaa
