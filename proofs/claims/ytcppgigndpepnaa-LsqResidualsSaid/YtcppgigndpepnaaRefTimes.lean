/-
  Contract of the reference's product of limbs.
  Conditions: none.
-/
import Derived.Test.YtcppgigndpepnaaLimbs
import Derived.Test.YtcppgigndpepnaaAccept
import Derived.BigRegion
namespace Go.Proofs.Ytcppgigndpepnaa
open Go.RowKit
/-- A limb of a block. -/
theorem lim_cell {w : World} {b : Nat} {l : List Int} {i : Nat} {x : Int} {t : TypeId} {fr : Nat × Nat} (h : w.heap[b]? = some (.cells (l.map (Value.int .u64)).toArray t fr)) (g : l[i]? = some x) : w.cell? ⟨b, i, none⟩ = some (.int .u64 x) := by
  refine cell_heap h ?_
  simp [g]
theorem lim_store {w : World} {b : Nat} {l : List Int} {t : TypeId} {fr : Nat × Nat} (j : Nat) (y : Int) (h : w.heap[b]? = some (.cells (l.map (Value.int .u64)).toArray t fr)) : (w.setCell ⟨b, j, none⟩ (.int .u64 y)).heap[b]? = some (.cells ((l.set j y).map (Value.int .u64)).toArray t fr) := by
  have := heap_set (o := j) (v := .int .u64 y) h
  rw [this]
  simp [List.map_set]
set_option maxRecDepth 100000 in
set_option maxHeartbeats 8000000 in
theorem rtimes_any (a0 a1 a2 a3 b0 b1 b2 b3 : Int) (ha : limB [a0, a1, a2, a3]) (hb : limB [b0, b1, b2, b3]) (hp : lv [a0, a1, a2, a3] * lv [b0, b1, b2, b3] < 340282366920938463463374607431768211456) (w : World) :
    Calls Try.prog 86 #[.agg #[.int .u64 a0, .int .u64 a1, .int .u64 a2, .int .u64 a3], .agg #[.int .u64 b0, .int .u64 b1, .int .u64 b2, .int .u64 b3]] w fun e w' => (∃ o0 o1 o2 o3, e = .returned (.tuple #[.agg #[.int .u64 o0, .int .u64 o1, .int .u64 o2, .int .u64 o3], .bool true]) ∧ (0 ≤ o0 ∧ o0 < 4294967296) ∧ (0 ≤ o1 ∧ o1 < 4294967296) ∧ (0 ≤ o2 ∧ o2 < 4294967296) ∧ (0 ≤ o3 ∧ o3 < 4294967296) ∧ o0 + o1 * 4294967296 + o2 * 18446744073709551616 + o3 * 79228162514264337593543950336 = lv [a0, a1, a2, a3] * lv [b0, b1, b2, b3]) ∧ Below w.heap.size w w' := by
  have hPP := Lib.hid hp
  have hal := Lib.hid ha
  have hbl := Lib.hid hb
  clear hp ha hb
  go_enter Try.func86, Try.ntmps86
  go_wp2_with fail
  go_loopw [7] (fun x wr => ∃ (i : Nat) (l : List Int), i ≤ 4 ∧ x = .int .i64 i ∧ OutS [a0, a1, a2, a3] [b0, b1, b2, b3] i l ∧ Below w.heap.size w wr ∧ wr.heap[w.heap.size]? = some (.cells (([a0, a1, a2, a3] : List Int).map (Value.int .u64)).toArray 109 (0, 0)) ∧ wr.heap[w.heap.size + 1]? = some (.cells (([b0, b1, b2, b3] : List Int).map (Value.int .u64)).toArray 109 (0, 0)) ∧ wr.heap[w.heap.size + 1 + 1]? = some (.cells #[.int .u64 0, .int .u64 0, .int .u64 0, .int .u64 0] 109 (0, 0)) ∧ wr.heap[w.heap.size + 1 + 1 + 1]? = some (.cells (l.map (Value.int .u64)).toArray 114 (0, 0))) (fun x _ => 4 - (intOf x).toNat)
  case atStart => exact ⟨0, [0, 0, 0, 0, 0, 0, 0, 0], by omega, rfl, out_start _ _, (by repeat (first | with_reducible exact Below.refl _ _ | with_reducible assumption | with_reducible refine Below.drew ?_ | with_reducible refine Below.setCell ?_ (by first | omega | (simp; omega) | simp) _ | with_reducible refine Below.alloc ?_ (by first | omega | (simp; omega) | simp) _ | with_reducible refine Below.trans ?_ (Below.mono (by with_reducible assumption) (by first | omega | (simp; omega) | simp)))), heap_alloc (heap_alloc (heap_alloc (heap_new _ _ rfl))), heap_alloc (heap_alloc (heap_new _ _ (by simp))), heap_alloc (heap_new _ _ (by simp)), heap_new _ _ (by simp)⟩
  case round =>
    obtain ⟨i, l, hi, rfl, hO, hK, gA, gB, gR, gW⟩ := hrel
    rcases Nat.lt_or_ge i 4 with hlt | hge
    · obtain ⟨a, ha⟩ : ∃ a, ([a0, a1, a2, a3] : List Int)[i]? = some a := ⟨_, List.getElem?_eq_getElem (by simpa using hlt)⟩
      have hOO := Lib.hid hO
      have hAI := Lib.hid ha
      have hab := lim_at hal.out ha
      have ca := fun {W : World} (h : W.heap[w.heap.size]? = some (.cells (([a0, a1, a2, a3] : List Int).map (Value.int .u64)).toArray 109 (0, 0))) => lim_cell h ha
      clear ha hO
      have hmi : 4 - (i + 1) < 4 - i := by omega
      go_wp2_with fail
      go_loopw [8, 9] (fun y x wq => ∃ (k : Nat) (q : List Int) (c : Int), k ≤ 4 ∧ x = .int .i64 k ∧ y = .int .u64 c ∧ InnS [a0, a1, a2, a3] [b0, b1, b2, b3] i k q c ∧ Below w.heap.size w wq ∧ wq.heap[w.heap.size]? = some (.cells (([a0, a1, a2, a3] : List Int).map (Value.int .u64)).toArray 109 (0, 0)) ∧ wq.heap[w.heap.size + 1]? = some (.cells (([b0, b1, b2, b3] : List Int).map (Value.int .u64)).toArray 109 (0, 0)) ∧ wq.heap[w.heap.size + 1 + 1]? = some (.cells #[.int .u64 0, .int .u64 0, .int .u64 0, .int .u64 0] 109 (0, 0)) ∧ wq.heap[w.heap.size + 1 + 1 + 1]? = some (.cells (q.map (Value.int .u64)).toArray 114 (0, 0))) (fun _ x _ => 4 - (intOf x).toNat)
      case atStart => exact ⟨0, l, 0, by omega, rfl, rfl, inn_start hOO.out hAI.out, hK, gA, gB, gR, gW⟩
      case round =>
        obtain ⟨k, q, c, hk4, rfl, rfl, hI, hK2, gA2, gB2, gR2, gW2⟩ := hrel
        have hII := Lib.hid hI
        obtain ⟨q8, qb, c0, c1, _, _⟩ := hI
        rcases Nat.lt_or_ge k 4 with hkl | hkg
        · obtain ⟨b, hbi⟩ : ∃ b, ([b0, b1, b2, b3] : List Int)[k]? = some b := ⟨_, List.getElem?_eq_getElem (by simpa using hkl)⟩
          obtain ⟨o, ho⟩ : ∃ o, q[i + k]? = some o := ⟨_, List.getElem?_eq_getElem (by omega)⟩
          have hbb := lim_at hbl.out hbi
          have hob := lim_at qb ho
          obtain ⟨⟨n1, n2⟩, n3, n4⟩ := inn_bd hab hbb hob ⟨c0, c1⟩
          have hN := Lib.hid (inn_next hII.out hkl hAI.out hab hbi hbb ho)
          have ca2 := ca gA2
          have cb2 := lim_cell gB2 hbi
          have co2 := lim_cell gW2 ho
          have cf2 := frozen_heap (o := i + k) gW2
          have w1 : IntKind.u64.wrap (a * b) = a * b := by rw [wrap_u64]; omega
          have w2 : IntKind.u64.wrap (a * b + o) = a * b + o := by rw [wrap_u64]; omega
          have w3 : IntKind.u64.wrap (a * b + o + c) = a * b + o + c := by rw [wrap_u64]; omega
          have w4 := and32 n3 n4
          have hmk : 4 - (k + 1) < 4 - k := by omega
          clear hbi qb q8 ca
          go_wp2_with fail
          have hl := @Later.cell
          refine region_later (by kernel_rfl) (by kernel_rfl) ?_; (repeat (go_big_quiet_step (fail))); refine wpQuiet_nil ?_; rintro _ ⟨x, rfl⟩; obtain ⟨w', hb⟩ := x; (try clear hc hf); (try clear hcM hfM); (try clear hcN hfN); (first | ((first | replace hB := Below.next hB (Nat.le_refl _) hb | replace hB := Below.next1 hB (Nat.le_refl _) hb | replace hB := Below.next2 hB (Nat.le_refl _) hb); (first | replace hM := Below.next hM (Nat.le_refl _) hb | replace hM := Below.next1 hM (Nat.le_refl _) hb | replace hM := Below.next2 hM (Nat.le_refl _) hb); (first | replace hN := Below.next hN (Nat.le_refl _) hb | replace hN := Below.next1 hN (Nat.le_refl _) hb | replace hN := Below.next2 hN (Nat.le_refl _) hb)) | ((first | replace hB := Below.next hB (Nat.le_refl _) hb | replace hB := Below.next1 hB (Nat.le_refl _) hb | replace hB := Below.next2 hB (Nat.le_refl _) hb); (first | replace hM := Below.next hM (Nat.le_refl _) hb | replace hM := Below.next1 hM (Nat.le_refl _) hb | replace hM := Below.next2 hM (Nat.le_refl _) hb); have hN := Below.mid hb) | ((first | replace hB := Below.next hB (Nat.le_refl _) hb | replace hB := Below.next1 hB (Nat.le_refl _) hb | replace hB := Below.next2 hB (Nat.le_refl _) hb); (first | replace hM := Below.next hM (Nat.le_refl _) hb | replace hM := Below.next1 hM (Nat.le_refl _) hb | replace hM := Below.next2 hM (Nat.le_refl _) hb)) | ((first | replace hB := Below.next hB (Nat.le_refl _) hb | replace hB := Below.next1 hB (Nat.le_refl _) hb | replace hB := Below.next2 hB (Nat.le_refl _) hb); have hM := Below.mid hb) | (first | replace hB := Below.next hB (Nat.le_refl _) hb | replace hB := Below.next1 hB (Nat.le_refl _) hb | replace hB := Below.next2 hB (Nat.le_refl _) hb) | have hB := hb); obtain ⟨hc, hf, hz⟩ := after hB; (try (have hq := after hM; obtain ⟨hcM, hfM, hzM⟩ := hq)); (try (have hq := after hN; obtain ⟨hcN, hfN, hzN⟩ := hq)); have hs := hb.size; (try simp at hz); (try simp at hs)
          dsimp only
          have gA3 := heap_old hb gA2
          have gB3 := heap_old hb gB2
          have gR3 := heap_old hb gR2
          have gW3 := heap_old hb gW2
          have hK3 := Below.next hK2 (Nat.le_refl _) hb
          have co3 := lim_cell gW3 ho
          have cf3 := frozen_heap (o := i + k) gW3
          clear ca2 cb2 co2 cf2 gA2 gB2 gR2 gW2 hb hB hc hf hz hs ho
          go_wp2_with fail
          exact ⟨⟨k + 1, _, _, hkl, by simp, rfl, hN.out, (by repeat (first | with_reducible exact Below.refl _ _ | with_reducible assumption | with_reducible refine Below.drew ?_ | with_reducible refine Below.setCell ?_ (by first | omega | (simp; omega) | simp) _ | with_reducible refine Below.alloc ?_ (by first | omega | (simp; omega) | simp) _ | with_reducible refine Below.trans ?_ (Below.mono (by with_reducible assumption) (by first | omega | (simp; omega) | simp)))), heap_set_other gA3 (by omega), heap_set_other gB3 (by omega), heap_set_other gR3 (by omega), lim_store _ _ gW3⟩, by simpa [intOf] using hmk⟩
        · obtain rfl : k = 4 := by omega
          have hz0 : q[i + 4]? = some 0 := (hII.out).2.2.2.2.1 _ (by omega) (by omega)
          have cz := frozen_heap (o := i + 4) gW2
          have cy := lim_cell gW2 hz0
          have hO2 := Lib.hid (out_next hII.out hlt rfl)
          clear hz0 ca
          go_wp2_with fail
          exact ⟨⟨i + 1, _, hlt, by simp, hO2.out, (by repeat (first | with_reducible exact Below.refl _ _ | with_reducible assumption | with_reducible refine Below.drew ?_ | with_reducible refine Below.setCell ?_ (by first | omega | (simp; omega) | simp) _ | with_reducible refine Below.alloc ?_ (by first | omega | (simp; omega) | simp) _ | with_reducible refine Below.trans ?_ (Below.mono (by with_reducible assumption) (by first | omega | (simp; omega) | simp)))), heap_set_other gA2 (by omega), heap_set_other gB2 (by omega), heap_set_other gR2 (by omega), lim_store _ _ gW2⟩, by simpa [intOf] using hmi⟩
    · obtain rfl : i = 4 := by omega
      obtain ⟨o0, o1, o2, o3, rfl, e0, e1, e2, e3, e4⟩ := out_end hO rfl hPP.out
      go_wp2_with fail
      have y0 := cell_heap (o := 0) gW rfl
      have y1 := cell_heap (o := 1) gW rfl
      have y2 := cell_heap (o := 2) gW rfl
      have y3 := cell_heap (o := 3) gW rfl
      have y4 := cell_heap (o := 4) gW rfl
      have y5 := cell_heap (o := 5) gW rfl
      have y6 := cell_heap (o := 6) gW rfl
      have y7 := cell_heap (o := 7) gW rfl
      have r0 := cell_heap (o := 0) gR rfl
      have r1 := cell_heap (o := 1) gR rfl
      have r2 := cell_heap (o := 2) gR rfl
      have r3 := cell_heap (o := 3) gR rfl
      have f0 := frozen_heap (o := 0) gR
      have f1 := frozen_heap (o := 1) gR
      have f2 := frozen_heap (o := 2) gR
      have f3 := frozen_heap (o := 3) gR
      go_region
      all_goals
        go_wp2_with fail
        refine bodyPost_ret (v := .tuple #[.agg #[.int .u64 o0, .int .u64 o1, .int .u64 o2, .int .u64 o3], .bool true]) (by simp only [results, Try.results86]; go_simp) rfl ⟨⟨o0, o1, o2, o3, rfl, e0, e1, e2, e3, e4⟩, (by repeat (first | with_reducible exact Below.refl _ _ | with_reducible assumption | with_reducible refine Below.drew ?_ | with_reducible refine Below.setCell ?_ (by first | omega | (simp; omega) | simp) _ | with_reducible refine Below.alloc ?_ (by first | omega | (simp; omega) | simp) _ | with_reducible refine Below.trans ?_ (Below.mono (by with_reducible assumption) (by first | omega | (simp; omega) | simp))))⟩
end Go.Proofs.Ytcppgigndpepnaa
