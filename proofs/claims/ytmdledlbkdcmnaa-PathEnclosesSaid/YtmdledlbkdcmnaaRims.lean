/-
  Contract of path.rims.
  Conditions: none.
-/
import Derived.Test.YtmdledlbkdcmnaaPathA
import Derived.Test.YtmdledlbkdcmnaaFits
namespace Go.Proofs.Ytmdledlbkdcmnaa
open Go.RowKit
theorem grown_heap {W w' : World} {row : Option Nat} {k : Nat} {X : Obj} (hg : W.grownBy w' row) (h : W.heap[k]? = some X) (hne : some k ≠ row) : w'.heap[k]? = some X :=
  (hg.block k (Array.getElem?_eq_some_iff.1 h).1 hne).trans h
theorem own_ne {w : World} {base n k size : Nat} {t : TypeId} {v : Value} {xs : List Value} (h : w.ownsRow base t size v n xs) (hk : w.heap.size ≤ k) : some k ≠ v.ownBlock := fun e => by
  have := (h.lt k e.symm).2
  omega
structure Own2 (t : TypeId) (base : Nat) (w : World) (x y : Value) (X Y : List LN) : Prop where
  hx : w.ownsRow base t 4 x X.length (X.flatMap cL)
  hy : w.ownsRow base t 4 y Y.length (Y.flatMap cL)
  xy : Apart x y
theorem Own2.nil (t : TypeId) (base : Nat) (w : World) : Own2 t base w (.slice none 0 0) (.slice none 0 0) [] [] :=
  ⟨World.ownsRow_nil _ _ _ _, World.ownsRow_nil _ _ _ _, fun g h => by simp [Value.ownBlock] at h⟩
section
variable {t : TypeId} {base : Nat} {w w' : World} {x y v : Value} {X Y : List LN} {p : LN}
theorem Own2.below (h : Own2 t base w x y X Y) (hb : Below w.heap.size w w') : Own2 t base w' x y X Y := ⟨own_below h.hx hb, own_below h.hy hb, h.xy⟩
theorem Own2.alloc (h : Own2 t base w x y X Y) (o : Obj) : Own2 t base (w.alloc o) x y X Y := ⟨h.hx.alloc _, h.hy.alloc _, h.xy⟩
theorem Own2.pushX (h : Own2 t base w x y X Y) (o : w'.ownsRow base t 4 v (X.length + 1) (X.flatMap cL ++ cL p)) (g : w.grownBy w' x.ownBlock) (a : v.ownBlock = x.ownBlock ∨ v.ownBlock = some w.heap.size) : Own2 t base w' v y (X ++ [p]) Y :=
  ⟨own_push o, h.hy.kept g h.xy.symm.or, h.xy.grow a (fun q hq => (h.hy.lt q hq).2)⟩
theorem Own2.pushY (h : Own2 t base w x y X Y) (o : w'.ownsRow base t 4 v (Y.length + 1) (Y.flatMap cL ++ cL p)) (g : w.grownBy w' y.ownBlock) (a : v.ownBlock = y.ownBlock ∨ v.ownBlock = some w.heap.size) : Own2 t base w' x v X (Y ++ [p]) :=
  ⟨h.hx.kept g h.xy.or, own_push o, (h.xy.symm.grow a (fun q hq => (h.hx.lt q hq).2)).symm⟩
end
theorem prs_next {α : Type} {l : List BD} {k : Nat} {c : BD} (f : BD × BD → α) (h : l[k]? = some c) : (prs l (k + 1)).map f = (prs l k).map f ++ (l.take k).map (fun u => f (u, c)) := by
  conv => lhs; unfold prs
  rw [h, List.map_append, List.map_map]; rfl
theorem prs_len (l : List BD) : ∀ k : Nat, (prs l k).length ≤ k * l.length
  | 0 => by simp [prs]
  | k + 1 => by
    have := prs_len l k
    unfold prs
    rw [List.length_append, Nat.add_mul, Nat.one_mul]
    split
    · rw [List.length_map, List.length_take]; omega
    · simp; omega
def zeroL : Value := .agg #[.int .i64 0, .int .i64 0, .int .i64 0, .int .i64 0]
theorem cells_here' (w : World) (cs : List Value) (t : TypeId) : ∀ j u, cs[j]? = some u → (w.alloc (.cells cs.toArray t)).cell? ((⟨w.heap.size, 0, none⟩ : Addr).add j) = some u := cells_here (heap_new w _ rfl)
set_option maxRecDepth 100000 in
set_option maxHeartbeats 4000000 in
theorem rims_any (v : Value) (l : List BD) (w : World) (h : Bnds w v l) (hok : ∀ b ∈ l, okB b) (hl : l.length ≤ 64) : Calls Try.prog 69 #[v] w fun e w' => ∃ u1 u2, e = .returned (.tuple #[u1, u2]) ∧ Lns w' u1 (lows l) ∧ Lns w' u2 (upps l) ∧ Below w.heap.size w w' := by
  obtain ⟨i0, hi0, hz0, hz1, hz2⟩ := info_parts (P := Try.prog) (e := 121) (z := zeroL) (size := 4) (bytes := 32) (by kernel_rfl)
  obtain ⟨pa, b, o, cap, rfl, h1, h2, h3, h4⟩ := h
  have hcap : cap ≤ 9223372036854775807 := by unfold maxLen at h3; omega
  have hK := Lib.hid hok
  clear hok
  go_enter Try.func69, Try.ntmps69
  go_wp2_with fail
  go_loopw [2, 3, 10] (fun x y i wr => ∃ k : Nat, k ≤ l.length ∧ i = .int .i64 k ∧ Below w.heap.size w wr ∧ Own2 121 w.heap.size wr x y ((prs l k).map fun p => loL p.1 p.2) ((prs l k).map fun p => upL p.1 p.2)) (fun _ _ x _ => l.length - (intOf x).toNat)
  case atStart => exact ⟨0, by omega, rfl, (by repeat (first | with_reducible exact Below.refl _ _ | with_reducible assumption | with_reducible refine Below.drew ?_ | with_reducible refine Below.setCell ?_ (by first | omega | (simp; omega) | simp) _ | with_reducible refine Below.alloc ?_ (by first | omega | (simp; omega) | simp) _ | with_reducible refine Below.trans ?_ (Below.mono (by with_reducible assumption) (by first | omega | (simp; omega) | simp)))), Own2.nil _ _ _⟩
  case round =>
    obtain ⟨k, hk, rfl, hb0, hO⟩ := hrel
    rcases Nat.lt_or_ge k l.length with hlt | hge
    · obtain rfl := h1 (by omega)
      obtain ⟨c, hc⟩ := some_of' (l := l) hlt
      obtain ⟨c0, c1, c2⟩ := cB_at (cells_below (h4 k c hc) hb0)
      obtain ⟨⟨ct1, ct2⟩, cl1, cl2, cl3⟩ := hK.out c (List.mem_of_getElem? hc)
      have hC := Lib.hid hc
      have hNL := Lib.hid (prs_next (fun p : BD × BD => loL p.1 p.2) hc)
      have hNU := Lib.hid (prs_next (fun p : BD × BD => upL p.1 p.2) hc)
      have hlen := prs_len l k
      have hlen2 : k * l.length ≤ 64 * 64 := Nat.mul_le_mul (by omega) hl
      have hLL : ((prs l k).map fun p => loL p.1 p.2).length ≤ 4096 := by rw [List.length_map]; omega
      have hUL : ((prs l k).map fun p => upL p.1 p.2).length ≤ 4096 := by rw [List.length_map]; omega
      have hn : l.length - (k + 1) < l.length - k := by omega
      have hkc : k ≤ cap := by omega
      have hsz := hb0.size
      clear hc hlen hlen2
      generalize ((prs l k).map fun p => loL p.1 p.2) = LL at *
      generalize ((prs l k).map fun p => upL p.1 p.2) = UU at *
      go_wp2_with fail
      have hX := heap_new wr (.cells #[.int .i64 c.1, .int .i64 c.2.1, .int .i64 c.2.2] 124) rfl
      have hBX : Below w.heap.size w (wr.alloc (.cells #[.int .i64 c.1, .int .i64 c.2.1, .int .i64 c.2.2] 124)) := (by repeat (first | with_reducible exact Below.refl _ _ | with_reducible assumption | with_reducible refine Below.drew ?_ | with_reducible refine Below.setCell ?_ (by first | omega | (simp; omega) | simp) _ | with_reducible refine Below.alloc ?_ (by first | omega | (simp; omega) | simp) _ | with_reducible refine Below.trans ?_ (Below.mono (by with_reducible assumption) (by first | omega | (simp; omega) | simp))))
      have hOX := hO.alloc (.cells #[.int .i64 c.1, .int .i64 c.2.1, .int .i64 c.2.2] 124)
      have hne1 := own_ne hO.hx (Nat.le_refl wr.heap.size)
      have hne2 := own_ne hO.hy (Nat.le_refl wr.heap.size)
      generalize wr.alloc (.cells #[.int .i64 c.1, .int .i64 c.2.1, .int .i64 c.2.2] 124) = wx at hX hBX hOX ⊢
      clear c0 c1 c2
      generalize wr.heap.size = bx at hX hsz hne1 hne2 ⊢
      go_loopw [2, 3, 19] (fun x y z w2 => ∃ i : Nat, i ≤ k ∧ z = .int .i64 i ∧ Below w.heap.size w w2 ∧ w2.heap[bx]? = some (.cells #[.int .i64 c.1, .int .i64 c.2.1, .int .i64 c.2.2] 124 (0, 0)) ∧ some bx ≠ x.ownBlock ∧ some bx ≠ y.ownBlock ∧ Own2 121 w.heap.size w2 x y (LL ++ (l.take i).map fun u => loL u c) (UU ++ (l.take i).map fun u => upL u c)) (fun _ _ x _ => k - (intOf x).toNat)
      case atStart => exact ⟨0, by omega, rfl, hBX, hX, hne1, hne2, by simpa using hOX⟩
      case round =>
        obtain ⟨i, hi, rfl, hb1, hX1, hx1, hx2, hO1⟩ := hrel
        rcases Nat.lt_or_ge i k with hik | hik
        · obtain ⟨a, ha⟩ := some_of' (l := l) (show i < l.length by omega)
          obtain ⟨a0, a1, a2⟩ := cB_at (cells_below (h4 i a ha) hb1)
          obtain ⟨⟨at1, at2⟩, al1, al2, al3⟩ := hK.out a (List.mem_of_getElem? ha)
          have hTL : LL ++ (l.take (i + 1)).map (fun u => loL u c) = (LL ++ (l.take i).map fun u => loL u c) ++ [loL a c] := by rw [List.take_add_one, ha]; simp
          have hTU : UU ++ (l.take (i + 1)).map (fun u => upL u c) = (UU ++ (l.take i).map fun u => upL u c) ++ [upL a c] := by rw [List.take_add_one, ha]; simp
          have hTLH := Lib.hid hTL
          have hTUH := Lib.hid hTU
          have hXL : (LL ++ (l.take i).map fun u => loL u c).length ≤ 5000 := by rw [List.length_append, List.length_map, List.length_take]; omega
          have hYL : (UU ++ (l.take i).map fun u => upL u c).length ≤ 5000 := by rw [List.length_append, List.length_map, List.length_take]; omega
          have hn2 : k - (i + 1) < k - i := by omega
          have hsz1 := hb1.size
          have hltX := (Array.getElem?_eq_some_iff.1 hX1).1
          have x0 := cell_heap (o := 0) hX1 rfl
          have x1 := cell_heap (o := 1) hX1 rfl
          have x2 := cell_heap (o := 2) hX1 rfl
          clear ha hTL hTU
          generalize (LL ++ (l.take i).map fun u => loL u c) = X at *
          generalize (UU ++ (l.take i).map fun u => upL u c) = Y at *
          have t1 := fun w => through_any a.1 a.2.2 c.1 c.2.1 (by omega) (by omega) (by omega) (by omega) w
          have t2 := fun w => through_any a.1 a.2.1 c.1 c.2.2 (by omega) (by omega) (by omega) (by omega) w
          have T1 := Lib.hid t1
          have T2 := Lib.hid t2
          clear t1 t2
          have hA0 := heap_new wr (.cells #[.int .i64 a.1, .int .i64 a.2.1, .int .i64 a.2.2] 124) rfl
          go_wp2_with (first
            | (go_at_call_of 74 (a.2.2); refine (T1.out _).mono ?_; rintro e w3 ⟨rfl, hb3⟩; have hB3 : Below w.heap.size w w3 := Below.trans (by repeat (first | with_reducible exact Below.refl _ _ | with_reducible assumption | with_reducible refine Below.drew ?_ | with_reducible refine Below.setCell ?_ (by first | omega | (simp; omega) | simp) _ | with_reducible refine Below.alloc ?_ (by first | omega | (simp; omega) | simp) _ | with_reducible refine Below.trans ?_ (Below.mono (by with_reducible assumption) (by first | omega | (simp; omega) | simp)))) (hb3.mono (by simp; omega)); have hX3 := heap_old hb3 (heap_alloc hX1); have hA3 := heap_old hb3 hA0; have hO3 := (hO1.alloc _).below hb3; have hs3 := hb3.size; simp at hs3)
            | (go_at_call_of 74 (a.2.1); refine (T2.out _).mono ?_; rintro e w6 ⟨rfl, hb6⟩; have hB6 := Below.next hB5 (Nat.le_refl _) hb6; have hX6 := heap_old hb6 hX5; have hO6 := hO5.below hb6; have hs6 := hb6.size)
            | (at_builtin; refine wpList_append_own_at _ rfl _ _ 108 rfl w.heap.size 121 i0 zeroL 4 32 Try.underlying108 hi0 hz0 hz1 hz2 rfl (by decide) _ _ _ rfl (hO3.alloc _).hx ⟨w3.heap.size, 0, none⟩ 1 1 (cL (loL a c)) rfl rfl ?_ (cL_one _) (by unfold maxLen; omega) (by omega) (by simp; omega) ?_; rotate_left; intro x' w5 ho5 hg5 hn5 ha5; have hO5 := (hO3.alloc _).pushX (p := loL a c) ho5 hg5 ha5; have hX5 := grown_heap hg5 (heap_alloc hX3) hx1; have hA5 := grown_heap hg5 (heap_alloc hA3) (own_ne hO1.hx (Nat.le_refl _)); have y0 := cell_heap (o := 0) hX5 rfl; have y1 := cell_heap (o := 1) hX5 rfl; have y2 := cell_heap (o := 2) hX5 rfl; have z0 := cell_heap (o := 0) hA5 rfl; have z1 := cell_heap (o := 1) hA5 rfl; have z2 := cell_heap (o := 2) hA5 rfl; have hB5 : Below w.heap.size w w5 := (hB3.alloc (by omega) _).grown hg5 (by simp; omega) (fun q hq => (hO3.hx.lt q hq).1); have hz5 := hg5.size; simp at hz5)
            | (at_builtin; refine wpList_append_own_at _ rfl _ _ 108 rfl w.heap.size 121 i0 zeroL 4 32 Try.underlying108 hi0 hz0 hz1 hz2 rfl (by decide) _ _ _ rfl (hO6.alloc _).hy ⟨w6.heap.size, 0, none⟩ 1 1 (cL (upL a c)) rfl rfl ?_ (cL_one _) (by unfold maxLen; omega) (by omega) (by simp; omega) ?_; rotate_left; intro y' w7 ho7 hg7 hn7 ha7; have hO7 := (hO6.alloc _).pushY (p := upL a c) ho7 hg7 ha7; have hX7 := grown_heap hg7 (heap_alloc hX6) hx2; have hB7 : Below w.heap.size w w7 := (hB6.alloc (by omega) _).grown hg7 (by simp; omega) (fun q hq => (hO6.hy.lt q hq).1)))
          · refine ⟨⟨i + 1, hik, by simp, hB7, hX7, ?_, ?_, by rw [hTLH.out, hTUH.out]; exact hO7⟩, by simpa [intOf] using hn2⟩
            · intro e
              rcases ha5 with g | g
              · exact hx1 (e.trans g)
              · rw [g] at e; have := Option.some.inj e; simp at this; omega
            · intro e
              rcases ha7 with g | g
              · exact hx2 (e.trans g)
              · rw [g] at e; have := Option.some.inj e; simp at this; omega
          · exact cells_here' _ (cL (upL a c)) _
          · exact cells_here' _ (cL (loL a c)) _
        · obtain rfl : i = k := by omega
          go_wp2_with fail
          exact ⟨⟨i + 1, hlt, by simp, hb1, by rw [hNL.out, hNU.out]; exact hO1⟩, by simpa [intOf] using hn⟩
    · obtain rfl : k = l.length := by omega
      go_wp2_with fail
      go_ret2
      exact ⟨_, _, rfl, held_own cL_len hO.hx, held_own cL_len hO.hy, hb0⟩
end Go.Proofs.Ytmdledlbkdcmnaa
