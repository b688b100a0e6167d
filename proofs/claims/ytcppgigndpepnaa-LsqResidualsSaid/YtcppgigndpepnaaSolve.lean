/-
  Contract of Solve.
  Conditions: none.
-/
import Derived.Test.YtcppgigndpepnaaDetAny
namespace Go.Proofs.Ytcppgigndpepnaa
open Go.RowKit
theorem withCol_len (k : Nat) : ∀ (a : Mat) (b : List Int), (withCol k a b).length = a.length
  | [], b => by cases b <;> rfl
  | r :: a, [] => rfl
  | r :: a, x :: b => by simp [withCol, withCol_len k a b]
theorem withCol_at (k : Nat) : ∀ (a : Mat) (b : List Int) (i : Nat) (r : List Int) (x : Int), a[i]? = some r → b[i]? = some x → (withCol k a b)[i]? = some (r.set k x)
  | [], _, i, _, _, h, _ => by simp at h
  | _ :: _, [], i, _, _, _, h => by simp at h
  | r :: a, x :: b, 0, r', x', h, h' => by
    obtain rfl : r = r' := by simpa using h
    obtain rfl : x = x' := by simpa using h'
    rfl
  | r :: a, x :: b, i + 1, r', x', h, h' => by
    simpa [withCol] using withCol_at k a b i r' x' (by simpa using h) (by simpa using h')
theorem withCol_mem (k : Nat) : ∀ (a : Mat) (b : List Int) (q : List Int), q ∈ withCol k a b → q ∈ a ∨ ∃ r ∈ a, ∃ x ∈ b, q = r.set k x
  | [], b, q, h => by cases b <;> simp [withCol] at h
  | r :: a, [], q, h => .inl (by simpa [withCol] using h)
  | r :: a, x :: b, q, h => by
    simp only [withCol, List.mem_cons] at h
    rcases h with rfl | h
    · exact .inr ⟨r, by simp, x, by simp, rfl⟩
    · rcases withCol_mem k a b q h with h | ⟨r', h1, x', h2, h3⟩
      · exact .inl (by simp [h])
      · exact .inr ⟨r', by simp [h1], x', by simp [h2], h3⟩
theorem matE_iff {a : Mat} : matE a = 0 ↔ ¬(a.length < 1 ∨ 3 < a.length) ∧ (∀ r ∈ a, r.length = a.length) ∧ ∀ r ∈ a, ∀ x ∈ r, okE x = true := by
  unfold matE
  split
  · rename_i h; simp only [h, not_true_eq_false, false_and, iff_false]; omega
  · rename_i h
    split
    · rename_i h2
      have e2 : ∀ r ∈ a, r.length = a.length := fun r hr => by simpa using List.all_eq_true.1 h2 r hr
      split
      · rename_i h3
        have e3 : ∀ r ∈ a, ∀ x ∈ r, okE x = true := fun r hr x hx => List.all_eq_true.1 (List.all_eq_true.1 h3 r hr) x hx
        exact ⟨fun _ => ⟨h, e2, e3⟩, fun _ => rfl⟩
      · rename_i h3
        refine ⟨fun h' => absurd h' (by omega), fun h' => absurd ?_ h3⟩
        exact List.all_eq_true.2 fun r hr => List.all_eq_true.2 fun x hx => h'.2.2 r hr x hx
    · rename_i h2
      refine ⟨fun h' => absurd h' (by omega), fun h' => absurd ?_ h2⟩
      exact List.all_eq_true.2 fun r hr => by simpa using h'.2.1 r hr
theorem withCol_ok {a : Mat} {b : List Int} (k : Nat) (h : matE a = 0) (hb : b.all okE = true) : matE (withCol k a b) = 0 := by
  obtain ⟨h1, h2, h3⟩ := matE_iff.1 h
  refine matE_iff.2 ⟨by rwa [withCol_len], fun q hq => ?_, fun q hq y hy => ?_⟩
  · rw [withCol_len]
    rcases withCol_mem k a b q hq with hq | ⟨r, hr, x, _, rfl⟩
    · exact h2 q hq
    · rw [List.length_set]; exact h2 r hr
  · rcases withCol_mem k a b q hq with hq | ⟨r, hr, x, hx, rfl⟩
    · exact h3 q hq y hy
    · rcases List.mem_or_eq_of_mem_set hy with hy | rfl
      · exact h3 r hr y hy
      · exact List.all_eq_true.1 hb _ hx
def solvE (a : Mat) (b : List Int) : Int := if matE a ≠ 0 then matE a else if b.length ≠ a.length then 1 else if b.all okE then (if detL a = 0 then 14 else 0) else 2
def solvD (a : Mat) (b : List Int) : Int := if solvE a b = 0 then detL a else 0
def solvX (a : Mat) (b : List Int) : List Int := if solvE a b = 0 then solL a b else []

theorem own_form {w : World} {base size n : Nat} {e : TypeId} {v : Value} {xs : List Value} (h : w.ownsRow base e size v n xs) (hn : 0 < n) : ∃ g cap, v = .slice (some ⟨g, 0, none⟩) n cap ∧ base ≤ g ∧ g < w.heap.size := by
  rcases h.2 with ⟨_, h0⟩ | ⟨g, cap, cur, rfl, h1, h2, _⟩
  · omega
  · exact ⟨g, cap, rfl, h1, (Array.getElem?_eq_some_iff.1 h2).1⟩
theorem own_mono {w : World} {base base' : Nat} {e : TypeId} {size : Nat} {v : Value} {n : Nat} {xs : List Value} (h : w.ownsRow base e size v n xs) (hb : base' ≤ base) : w.ownsRow base' e size v n xs := by
  obtain ⟨h1, h2⟩ := h
  refine ⟨h1, ?_⟩
  rcases h2 with h | ⟨g, cap, cur, a, b, c⟩
  · exact .inl h
  · exact .inr ⟨g, cap, cur, a, Nat.le_trans hb b, c⟩
theorem solL_len (a : Mat) (b : List Int) : (solL a b).length = a.length := by simp [solL]
theorem solL_at {a : Mat} {b : List Int} {k : Nat} (hk : k < a.length) : (solL a b)[k]? = some (detL (withCol k a b)) := by simp [solL, hk]
theorem row_news {w w' : World} {b o : Nat} {r : List Int} (h : ∀ i x, r[i]? = some x → w.cell? ⟨b, o + i, none⟩ = some (.int .i64 x)) (hb : Below w.heap.size w w') : ∀ j u, (ints r)[j]? = some u → w'.cell? ((⟨b, o, none⟩ : Addr).add j) = some u := by
  intro j u hu
  rw [Addr.add_lit]
  simp only [ints, List.getElem?_map, Option.map_eq_some_iff] at hu
  obtain ⟨x, hx, rfl⟩ := hu
  have c := h j x hx
  exact ((after hb).1 _ _ (by simp [c])).trans c
set_option maxRecDepth 100000 in
set_option maxHeartbeats 8000000 in
theorem solve_good (v vb : Value) (a : Mat) (bs : List Int) (w : World) (h : MatV w v a) (hv : Row w vb bs) (he : matE a = 0) (hl : bs.length = a.length) (hk : bs.all okE = true) (hd : detL a ≠ 0) : Calls Try.prog 19 #[v, vb] w fun e w' => ∃ u, e = .returned (.tuple #[u, .int .i64 (detL a), .int .i64 0]) ∧ Row w' u (solL a bs) ∧ Below w.heap.size w w' := by
  have h0 := h
  have hm := matE_iff.1 he
  have hN : detN a = detL a := by unfold detN; rw [if_pos he]
  obtain ⟨pa, b, o, cap, rfl, h1, h2, h3, h4⟩ := h
  obtain ⟨pb, bb, bo, bc, rfl, g1, g2, g3, g4⟩ := hv
  obtain ⟨i0, hi0, hz0, hz1, hz2⟩ := info_parts (P := Try.prog) (e := 2) (z := .int .i64 0) (size := 1) (bytes := 8) (by kernel_rfl)
  obtain ⟨i1, hi1, hy0, hy1, hy2⟩ := info_parts (P := Try.prog) (e := 23) (z := .slice none 0 0) (size := 1) (bytes := 24) (by kernel_rfl)
  go_enter Try.func19, Try.ntmps19
  go_wp2_with (go_at_call 21; refine (detc_any _ _ _ h0).mono ?_; rintro e w' ⟨rfl, hb⟩; (try clear hc hf); (try clear hcM hfM); (try clear hcN hfN); (first | ((first | replace hB := Below.next hB (Nat.le_refl _) hb | replace hB := Below.next1 hB (Nat.le_refl _) hb | replace hB := Below.next2 hB (Nat.le_refl _) hb); (first | replace hM := Below.next hM (Nat.le_refl _) hb | replace hM := Below.next1 hM (Nat.le_refl _) hb | replace hM := Below.next2 hM (Nat.le_refl _) hb); (first | replace hN := Below.next hN (Nat.le_refl _) hb | replace hN := Below.next1 hN (Nat.le_refl _) hb | replace hN := Below.next2 hN (Nat.le_refl _) hb)) | ((first | replace hB := Below.next hB (Nat.le_refl _) hb | replace hB := Below.next1 hB (Nat.le_refl _) hb | replace hB := Below.next2 hB (Nat.le_refl _) hb); (first | replace hM := Below.next hM (Nat.le_refl _) hb | replace hM := Below.next1 hM (Nat.le_refl _) hb | replace hM := Below.next2 hM (Nat.le_refl _) hb); have hN := Below.mid hb) | ((first | replace hB := Below.next hB (Nat.le_refl _) hb | replace hB := Below.next1 hB (Nat.le_refl _) hb | replace hB := Below.next2 hB (Nat.le_refl _) hb); (first | replace hM := Below.next hM (Nat.le_refl _) hb | replace hM := Below.next1 hM (Nat.le_refl _) hb | replace hM := Below.next2 hM (Nat.le_refl _) hb)) | ((first | replace hB := Below.next hB (Nat.le_refl _) hb | replace hB := Below.next1 hB (Nat.le_refl _) hb | replace hB := Below.next2 hB (Nat.le_refl _) hb); have hM := Below.mid hb) | (first | replace hB := Below.next hB (Nat.le_refl _) hb | replace hB := Below.next1 hB (Nat.le_refl _) hb | replace hB := Below.next2 hB (Nat.le_refl _) hb) | have hB := hb); obtain ⟨hc, hf, hz⟩ := after hB; (try (have hq := after hM; obtain ⟨hcM, hfM, hzM⟩ := hq)); (try (have hq := after hN; obtain ⟨hcN, hfN, hzN⟩ := hq)); have hs := hb.size; (try simp at hz); (try simp at hs))
  have hd' : (detL a == 0) = false := by simpa using hd
  have hal : 1 ≤ a.length ∧ a.length ≤ 3 := by omega
  obtain ⟨hal1, hal2⟩ := hal
  have hM := Lib.hid hm
  have hD := Lib.hid hd
  have hK := Lib.hid hk
  have hE := Lib.hid he
  clear hm hd hk he
  go_loopw [32] (fun x wr => ∃ i : Nat, i ≤ a.length ∧ x = .int .i64 i ∧ Below w.heap.size w wr) (fun x _ => a.length - (intOf x).toNat)
  case atStart => exact ⟨0, by omega, rfl, hB⟩
  case round =>
    obtain ⟨i, hi, rfl, hb1⟩ := hrel
    rcases Nat.lt_or_ge i a.length with hlt | hge
    · obtain rfl := g1 (by omega)
      have hx := (after hb1).1
      obtain ⟨y, hy⟩ : ∃ y, bs[i]? = some y := ⟨_, List.getElem?_eq_getElem (by omega)⟩
      have d0 := g4 i y hy
      replace d0 := (hx _ _ (by simp [d0])).trans d0
      have hy2 := List.all_eq_true.1 hK.out y (List.mem_of_getElem? hy)
      have hin : inB y 1000000 = true := by simpa [inB, okE] using hy2
      have hn : a.length - (i + 1) < a.length - i := by omega
      clear hy hx hy2
      go_wp2_with (go_at_call 51; refine (within_any _ _ (by omega) (by omega) _).mono ?_; rintro e w' ⟨rfl, rfl⟩)
      exact ⟨⟨i + 1, hlt, by simp, hb1⟩, by simpa [intOf] using hn⟩
    · have hdi : ¬i < a.length := by omega
      go_wp2_with fail
      go_loopw [11, 44] (fun u x wr => ∃ k : Nat, k ≤ a.length ∧ x = .int .i64 k ∧ Below w.heap.size w wr ∧ wr.ownsRow w.heap.size 2 1 u k (ints ((solL a bs).take k))) (fun _ x _ => a.length - (intOf x).toNat)
      case atStart => exact ⟨0, by omega, rfl, hb1, by simpa [ints] using World.ownsRow_nil _ _ _ _⟩
      case round =>
        obtain ⟨k, hk, rfl, hb2, hO⟩ := hrel
        rcases Nat.lt_or_ge k a.length with hlt2 | hge2
        · have hn2 : a.length - (k + 1) < a.length - k := by omega
          go_wp2_with fail
          go_loopw [13, 49] (fun m x wr => ∃ i : Nat, i ≤ a.length ∧ x = .int .i64 i ∧ Below w.heap.size w wr ∧ wr.ownsRow w.heap.size 2 1 u11 k (ints ((solL a bs).take k)) ∧ MatOwn w.heap.size wr m ((withCol k a bs).take i)) (fun _ x _ => a.length - (intOf x).toNat)
          case atStart => exact ⟨0, by omega, rfl, hb2, hO, by simpa using MatOwn.nil _ _⟩
          case round =>
            obtain ⟨i, hi2, rfl, hb3, hO3, hM3⟩ := hrel
            rcases Nat.lt_or_ge i a.length with hlt3 | hge3
            · obtain rfl := h1 (by omega)
              obtain rfl := g1 (by omega)
              have hx := (after hb3).1
              obtain ⟨r, hr⟩ : ∃ r, a[i]? = some r := ⟨_, List.getElem?_eq_getElem hlt3⟩
              obtain ⟨u, c0, hu⟩ := h4 i r hr
              replace c0 := (hx _ _ (by simp [c0])).trans c0
              obtain ⟨qa, qb, qo, qc, rfl, q1, q2, q3, q4⟩ := hu
              have hrl : r.length = a.length := hM.out.2.1 r (List.mem_of_getElem? hr)
              obtain rfl := q1 (by omega)
              obtain ⟨y, hy⟩ : ∃ y, bs[i]? = some y := ⟨_, List.getElem?_eq_getElem (by omega)⟩
              have d0 := g4 i y hy
              replace d0 := (hx _ _ (by simp [d0])).trans d0
              have hq4 := Lib.hid (row_news q4 hb3)
              obtain ⟨z, hz⟩ : ∃ z, r[k]? = some z := ⟨_, List.getElem?_eq_getElem (by omega)⟩
              have hR := Lib.hid hr
              have hY := Lib.hid hy
              have hZ := Lib.hid hz
              have hn3 : a.length - (i + 1) < a.length - i := by omega
              have hs3 := hb3.size
              clear hr hy hz hx q4
              have hlen : ((withCol k a bs).take i).length = i := by rw [List.length_take, withCol_len]; omega
              go_wp2_with (first
                | (at_builtin; refine wpList_append_own _ rfl _ _ 23 rfl wr.heap.size 2 i0 (.int .i64 0) 1 8 Try.underlying23 hi0 hz0 hz1 hz2 rfl (by decide) (.slice none 0 0) 0 [] rfl (World.ownsRow_nil _ _ _ _) ⟨qb, qo, none⟩ a.length qc (ints r) (by rfl) (by simp [ints]; omega) hq4.out (ints_one r) (by unfold maxLen; omega) (by omega) (Nat.le_refl _) ?_; intro c w3 hc hg3 hnil3; obtain ⟨g, cc, rfl, hgl, hgs⟩ := own_form hc (by omega); replace hc : w3.ownsRow wr.heap.size 2 1 (.slice (some ⟨g, 0, none⟩) (0 + a.length) cc) (0 + a.length) (ints r) := hc; rw [Nat.zero_add] at hc; have hB3 : Below wr.heap.size wr w3 := (Below.refl _ _).grown hg3 (Nat.le_refl _) (fun q hq => by simp [Value.ownBlock] at hq); have d1 := ((after hB3).1 _ _ (by simp [d0])).trans d0; have z0 := (World.ownsRow.cellAt hc k (by omega)).trans (ints_at hZ.out); have z1 := World.ownsRow.frozenAt hc k; have hst := (World.ownsRow.stored hc k (.int .i64 y)).1; have hB4 : Below wr.heap.size wr (w3.setCell ⟨g, k, none⟩ (.int .i64 y)) := hB3.setCell hgl _; have hO4 := own_below hO3 hB4; have hM4 := hM3.below hB4; have hs4 := hB3.size; obtain ⟨us, hus, hrows⟩ := hM4; rw [hlen] at hus; rw [Nat.zero_add])
                | (at_builtin; refine wpList_append_own _ rfl _ _ 22 rfl w.heap.size 23 i1 (.slice none 0 0) 1 24 Try.underlying22 hi1 hy0 hy1 hy2 rfl (by decide) _ _ _ rfl (hus.alloc _) ⟨w3.heap.size, 0, none⟩ 1 1 [.slice (some ⟨g, 0, none⟩) a.length cc] rfl rfl ?_ (fun x hx => by simp at hx; subst hx; rfl) (by unfold maxLen; omega) (by omega) (by simp; omega) ?_; rotate_left; intro m' w5 hown5 hg5 hnil5))
              have hb4 : Below w.heap.size w (w3.setCell ⟨g, k, none⟩ (.int .i64 y)) := Below.next hb3 (Nat.le_refl _) hB4
              have hT : (withCol k a bs).take (i + 1) = (withCol k a bs).take i ++ [r.set k y] := by rw [List.take_add_one, withCol_at k a bs i r y hR.out hY.out]; rfl
              have hsz : w.heap.size ≤ (w3.setCell ⟨g, k, none⟩ (.int .i64 y)).heap.size := hb4.size
              have hrs : (r.set k y).length = a.length := by rw [List.length_set]; exact hrl
              refine ⟨⟨i + 1, hlt3, by simp, ?_, ?_, ?_⟩, by simpa [intOf] using hn3⟩
              · exact (hb4.alloc hsz _).grown hg5 (by simp; omega) (fun q hq => (hus.lt q hq).1)
              · exact (hO4.alloc _).kept hg5 (own_apart hO4 hus (by decide))
              · rw [hT]
                refine MatOwn.push (by rw [hlen]; exact hus.alloc _) (fun j q hj => let ⟨u, x1, x2⟩ := hrows j q hj; ⟨u, x1, x2.alloc _⟩) ?_ (by rw [hlen]; exact hown5) hg5
                rw [hrs, ints, List.map_set]
                exact (own_mono hst hs3).alloc _
            · have hdi3 : ¬i < a.length := by omega
              rw [List.take_of_length_le (by rw [withCol_len]; omega)] at hM3
              have hmv := hM3.mat
              have hwc := withCol_ok k hE.out hK.out
              have hxl : (ints ((solL a bs).take k)).length = k * 1 := hO3.1
              have hwe := Lib.hid hwc
              clear hwc
              go_wp2_with (first
                | (go_at_call 52; refine (det_any _ _ _ hmv hwe.out).mono ?_; rintro e w3 ⟨rfl, hb4⟩; have hO4 := own_below hO3 hb4; have hs4 := hb4.size; have hs3 := hb3.size)
                | (at_builtin; refine wpList_append_own _ rfl _ _ 23 rfl w.heap.size 2 i0 (.int .i64 0) 1 8 Try.underlying23 hi0 hz0 hz1 hz2 rfl (by decide) _ _ _ rfl (hO4.alloc _) ⟨w3.heap.size, 0, none⟩ 1 1 [.int .i64 (detL (withCol k a bs))] rfl rfl ?_ (fun x hx => by simp at hx; subst hx; rfl) (by unfold maxLen; omega) (by omega) (by simp; omega) ?_; rotate_left; intro m' w5 hown5 hg5 hnil5))
              · have hT : ints ((solL a bs).take (k + 1)) = ints ((solL a bs).take k) ++ [.int .i64 (detL (withCol k a bs))] := by rw [List.take_add_one, solL_at hlt2]; simp [ints]
                refine ⟨⟨k + 1, hlt2, by simp, ?_, ?_⟩, by simpa [intOf] using hn2⟩
                · exact ((Below.next hb3 (Nat.le_refl _) hb4).alloc (by omega) _).grown hg5 (by simp; omega) (fun q hq => (hO4.lt q hq).1)
                · rw [hT]; exact hown5
              · exact cells_new _ _ _
        · have hdk : ¬k < a.length := by omega
          obtain rfl : k = a.length := by omega
          rw [List.take_of_length_le (by rw [solL_len]; exact Nat.le_refl _)] at hO
          have hO' : wr.ownsRow w.heap.size 2 1 u11 (solL a bs).length (ints (solL a bs)) := by rw [solL_len]; exact hO
          go_wp2_with fail
          refine bodyPost_ret (v := .tuple #[u11, .int .i64 (detL a), .int .i64 0]) (by simp only [results, Try.results19]; go_simp) rfl ⟨u11, rfl, row_own hO', hb2⟩
theorem row_nil (w : World) : Row w (.slice none 0 0) [] := ⟨none, 0, 0, 0, rfl, fun h => by simp at h, by simp, by omega, fun i x h => by simp at h⟩
set_option maxHeartbeats 4000000 in
theorem solve_e1 (v vb : Value) (a : Mat) (w : World) (h : MatV w v a) (he : matE a ≠ 0) : Calls Try.prog 19 #[v, vb] w fun e w' => ∃ u, e = .returned (.tuple #[u, .int .i64 0, .int .i64 (matE a)]) ∧ Row w' u [] ∧ Below w.heap.size w w' := by
  have he' : (matE a != 0) = true := by simpa using he
  clear he
  go_enter Try.func19, Try.ntmps19
  go_wp2_with (go_at_call 21; refine (detc_any _ _ _ h).mono ?_; rintro e w' ⟨rfl, hb⟩; (try clear hc hf); (try clear hcM hfM); (try clear hcN hfN); (first | ((first | replace hB := Below.next hB (Nat.le_refl _) hb | replace hB := Below.next1 hB (Nat.le_refl _) hb | replace hB := Below.next2 hB (Nat.le_refl _) hb); (first | replace hM := Below.next hM (Nat.le_refl _) hb | replace hM := Below.next1 hM (Nat.le_refl _) hb | replace hM := Below.next2 hM (Nat.le_refl _) hb); (first | replace hN := Below.next hN (Nat.le_refl _) hb | replace hN := Below.next1 hN (Nat.le_refl _) hb | replace hN := Below.next2 hN (Nat.le_refl _) hb)) | ((first | replace hB := Below.next hB (Nat.le_refl _) hb | replace hB := Below.next1 hB (Nat.le_refl _) hb | replace hB := Below.next2 hB (Nat.le_refl _) hb); (first | replace hM := Below.next hM (Nat.le_refl _) hb | replace hM := Below.next1 hM (Nat.le_refl _) hb | replace hM := Below.next2 hM (Nat.le_refl _) hb); have hN := Below.mid hb) | ((first | replace hB := Below.next hB (Nat.le_refl _) hb | replace hB := Below.next1 hB (Nat.le_refl _) hb | replace hB := Below.next2 hB (Nat.le_refl _) hb); (first | replace hM := Below.next hM (Nat.le_refl _) hb | replace hM := Below.next1 hM (Nat.le_refl _) hb | replace hM := Below.next2 hM (Nat.le_refl _) hb)) | ((first | replace hB := Below.next hB (Nat.le_refl _) hb | replace hB := Below.next1 hB (Nat.le_refl _) hb | replace hB := Below.next2 hB (Nat.le_refl _) hb); have hM := Below.mid hb) | (first | replace hB := Below.next hB (Nat.le_refl _) hb | replace hB := Below.next1 hB (Nat.le_refl _) hb | replace hB := Below.next2 hB (Nat.le_refl _) hb) | have hB := hb); obtain ⟨hc, hf, hz⟩ := after hB; (try (have hq := after hM; obtain ⟨hcM, hfM, hzM⟩ := hq)); (try (have hq := after hN; obtain ⟨hcN, hfN, hzN⟩ := hq)); have hs := hb.size; (try simp at hz); (try simp at hs))
  refine bodyPost_ret (v := .tuple #[.slice none 0 0, .int .i64 0, .int .i64 (matE a)]) (by simp only [results, Try.results19]; go_simp) rfl ⟨_, rfl, row_nil _, (by repeat (first | with_reducible exact Below.refl _ _ | with_reducible assumption | with_reducible refine Below.drew ?_ | with_reducible refine Below.setCell ?_ (by first | omega | (simp; omega) | simp) _ | with_reducible refine Below.alloc ?_ (by first | omega | (simp; omega) | simp) _ | with_reducible refine Below.trans ?_ (Below.mono (by with_reducible assumption) (by first | omega | (simp; omega) | simp))))⟩
set_option maxHeartbeats 4000000 in
theorem solve_e2 (v vb : Value) (a : Mat) (bs : List Int) (w : World) (h : MatV w v a) (hv : Row w vb bs) (he : matE a = 0) (hl : bs.length ≠ a.length) : Calls Try.prog 19 #[v, vb] w fun e w' => ∃ u, e = .returned (.tuple #[u, .int .i64 0, .int .i64 1]) ∧ Row w' u [] ∧ Below w.heap.size w w' := by
  have hl' : ((bs.length : Int) != (a.length : Int)) = true := by simp; omega
  have h0 := h
  obtain ⟨pa, b, o, cap, rfl, h1, h2, h3, h4⟩ := h
  obtain ⟨pb, bb, bo, bc, rfl, g1, g2, g3, g4⟩ := hv
  clear h1 h2 h3 h4 g1 g2 g3 g4
  go_enter Try.func19, Try.ntmps19
  go_wp2_with (go_at_call 21; refine (detc_any _ _ _ h0).mono ?_; rintro e w' ⟨rfl, hb⟩; (try clear hc hf); (try clear hcM hfM); (try clear hcN hfN); (first | ((first | replace hB := Below.next hB (Nat.le_refl _) hb | replace hB := Below.next1 hB (Nat.le_refl _) hb | replace hB := Below.next2 hB (Nat.le_refl _) hb); (first | replace hM := Below.next hM (Nat.le_refl _) hb | replace hM := Below.next1 hM (Nat.le_refl _) hb | replace hM := Below.next2 hM (Nat.le_refl _) hb); (first | replace hN := Below.next hN (Nat.le_refl _) hb | replace hN := Below.next1 hN (Nat.le_refl _) hb | replace hN := Below.next2 hN (Nat.le_refl _) hb)) | ((first | replace hB := Below.next hB (Nat.le_refl _) hb | replace hB := Below.next1 hB (Nat.le_refl _) hb | replace hB := Below.next2 hB (Nat.le_refl _) hb); (first | replace hM := Below.next hM (Nat.le_refl _) hb | replace hM := Below.next1 hM (Nat.le_refl _) hb | replace hM := Below.next2 hM (Nat.le_refl _) hb); have hN := Below.mid hb) | ((first | replace hB := Below.next hB (Nat.le_refl _) hb | replace hB := Below.next1 hB (Nat.le_refl _) hb | replace hB := Below.next2 hB (Nat.le_refl _) hb); (first | replace hM := Below.next hM (Nat.le_refl _) hb | replace hM := Below.next1 hM (Nat.le_refl _) hb | replace hM := Below.next2 hM (Nat.le_refl _) hb)) | ((first | replace hB := Below.next hB (Nat.le_refl _) hb | replace hB := Below.next1 hB (Nat.le_refl _) hb | replace hB := Below.next2 hB (Nat.le_refl _) hb); have hM := Below.mid hb) | (first | replace hB := Below.next hB (Nat.le_refl _) hb | replace hB := Below.next1 hB (Nat.le_refl _) hb | replace hB := Below.next2 hB (Nat.le_refl _) hb) | have hB := hb); obtain ⟨hc, hf, hz⟩ := after hB; (try (have hq := after hM; obtain ⟨hcM, hfM, hzM⟩ := hq)); (try (have hq := after hN; obtain ⟨hcN, hfN, hzN⟩ := hq)); have hs := hb.size; (try simp at hz); (try simp at hs))
  refine bodyPost_ret (v := .tuple #[.slice none 0 0, .int .i64 0, .int .i64 1]) (by simp only [results, Try.results19]; go_simp) rfl ⟨_, rfl, row_nil _, (by repeat (first | with_reducible exact Below.refl _ _ | with_reducible assumption | with_reducible refine Below.drew ?_ | with_reducible refine Below.setCell ?_ (by first | omega | (simp; omega) | simp) _ | with_reducible refine Below.alloc ?_ (by first | omega | (simp; omega) | simp) _ | with_reducible refine Below.trans ?_ (Below.mono (by with_reducible assumption) (by first | omega | (simp; omega) | simp))))⟩
set_option maxHeartbeats 4000000 in
theorem solve_e3 (v vb : Value) (a : Mat) (bs : List Int) (w : World) (h : MatV w v a) (hv : Row w vb bs) (he : matE a = 0) (hl : bs.length = a.length) (hq : bs.all okE = false ∨ detL a = 0) (E : Int) (hE2 : bs.all okE = false → 2 = E) (hE14 : bs.all okE = true → 14 = E) : Calls Try.prog 19 #[v, vb] w fun e w' => ∃ u, e = .returned (.tuple #[u, .int .i64 0, .int .i64 E]) ∧ Row w' u [] ∧ Below w.heap.size w w' := by
  have h0 := h
  have hN : detN a = detL a := by unfold detN; rw [if_pos he]
  obtain ⟨pa, b, o, cap, rfl, h1, h2, h3, h4⟩ := h
  obtain ⟨pb, bb, bo, bc, rfl, g1, g2, g3, g4⟩ := hv
  have hQ := Lib.hid hq
  have hEa := Lib.hid hE2
  have hEb := Lib.hid hE14
  have hal : a.length ≤ 3 := by have := (matE_iff.1 he).1; omega
  clear hq hE2 hE14 h1 h2 h3 h4
  go_enter Try.func19, Try.ntmps19
  go_wp2_with (go_at_call 21; refine (detc_any _ _ _ h0).mono ?_; rintro e w' ⟨rfl, hb⟩; (try clear hc hf); (try clear hcM hfM); (try clear hcN hfN); (first | ((first | replace hB := Below.next hB (Nat.le_refl _) hb | replace hB := Below.next1 hB (Nat.le_refl _) hb | replace hB := Below.next2 hB (Nat.le_refl _) hb); (first | replace hM := Below.next hM (Nat.le_refl _) hb | replace hM := Below.next1 hM (Nat.le_refl _) hb | replace hM := Below.next2 hM (Nat.le_refl _) hb); (first | replace hN := Below.next hN (Nat.le_refl _) hb | replace hN := Below.next1 hN (Nat.le_refl _) hb | replace hN := Below.next2 hN (Nat.le_refl _) hb)) | ((first | replace hB := Below.next hB (Nat.le_refl _) hb | replace hB := Below.next1 hB (Nat.le_refl _) hb | replace hB := Below.next2 hB (Nat.le_refl _) hb); (first | replace hM := Below.next hM (Nat.le_refl _) hb | replace hM := Below.next1 hM (Nat.le_refl _) hb | replace hM := Below.next2 hM (Nat.le_refl _) hb); have hN := Below.mid hb) | ((first | replace hB := Below.next hB (Nat.le_refl _) hb | replace hB := Below.next1 hB (Nat.le_refl _) hb | replace hB := Below.next2 hB (Nat.le_refl _) hb); (first | replace hM := Below.next hM (Nat.le_refl _) hb | replace hM := Below.next1 hM (Nat.le_refl _) hb | replace hM := Below.next2 hM (Nat.le_refl _) hb)) | ((first | replace hB := Below.next hB (Nat.le_refl _) hb | replace hB := Below.next1 hB (Nat.le_refl _) hb | replace hB := Below.next2 hB (Nat.le_refl _) hb); have hM := Below.mid hb) | (first | replace hB := Below.next hB (Nat.le_refl _) hb | replace hB := Below.next1 hB (Nat.le_refl _) hb | replace hB := Below.next2 hB (Nat.le_refl _) hb) | have hB := hb); obtain ⟨hc, hf, hz⟩ := after hB; (try (have hq := after hM; obtain ⟨hcM, hfM, hzM⟩ := hq)); (try (have hq := after hN; obtain ⟨hcN, hfN, hzN⟩ := hq)); have hs := hb.size; (try simp at hz); (try simp at hs))
  go_loopw [32] (fun x wr => ∃ i : Nat, i ≤ a.length ∧ x = .int .i64 i ∧ Below w.heap.size w wr ∧ (bs.take i).all okE = true) (fun x _ => a.length - (intOf x).toNat)
  case atStart => exact ⟨0, by omega, rfl, hB, by simp⟩
  case round =>
    obtain ⟨i, hi, rfl, hb1, hk⟩ := hrel
    rcases Nat.lt_or_ge i a.length with hlt | hge
    · obtain rfl := g1 (by omega)
      have hx := (after hb1).1
      obtain ⟨y, hy⟩ : ∃ y, bs[i]? = some y := ⟨_, List.getElem?_eq_getElem (by omega)⟩
      have d0 := g4 i y hy
      replace d0 := (hx _ _ (by simp [d0])).trans d0
      have hY := Lib.hid hy
      have hn : a.length - (i + 1) < a.length - i := by omega
      clear hy hx
      go_wp2_with (go_at_call 51; refine (within_any _ _ (by omega) (by omega) _).mono ?_; rintro e w' ⟨rfl, rfl⟩)
      · have hw : okE y = false := by simp only [okE]; simp only [inB] at *; grind
        have hbad := all_bad hY.out hw
        refine bodyPost_ret (v := .tuple #[.slice none 0 0, .int .i64 0, .int .i64 2]) (by simp only [results, Try.results19]; go_simp) rfl ⟨_, by rw [hEa.out hbad], row_nil _, hb1⟩
      · have hw : okE y = true := by simp only [okE]; simp only [inB] at *; grind
        exact ⟨⟨i + 1, hlt, by simp, hb1, all_take_next hk hY.out hw⟩, by simpa [intOf] using hn⟩
    · have hall := all_take_end hk (by omega)
      have hd : detL a = 0 := by rcases hQ.out with h | h; · rw [hall] at h; cases h
                                 · exact h
      have hd' : (detL a == 0) = true := by simpa using hd
      have hA := Lib.hid hall
      have hdi : ¬i < a.length := by omega
      clear hall hk
      go_wp2_with fail
      refine bodyPost_ret (v := .tuple #[.slice none 0 0, .int .i64 0, .int .i64 14]) (by simp only [results, Try.results19]; go_simp) rfl ⟨_, by rw [hEb.out hA.out], row_nil _, hb1⟩
theorem solve_any (v vb : Value) (a : Mat) (bs : List Int) (w : World) (h : MatV w v a) (hv : Row w vb bs) : Calls Try.prog 19 #[v, vb] w fun e w' => ∃ u, e = .returned (.tuple #[u, .int .i64 (solvD a bs), .int .i64 (solvE a bs)]) ∧ Row w' u (solvX a bs) ∧ Below w.heap.size w w' := by
  by_cases he : matE a = 0
  · by_cases hl : bs.length = a.length
    · by_cases hk : bs.all okE = true
      · by_cases hd : detL a = 0
        · have e1 : solvE a bs = 14 := by unfold solvE; rw [if_neg (fun h => h he), if_neg (fun h => h hl), if_pos hk, if_pos hd]
          have e2 : solvD a bs = 0 := by unfold solvD; rw [e1]; rfl
          have e3 : solvX a bs = [] := by unfold solvX; rw [e1]; rfl
          rw [e1, e2, e3]
          exact solve_e3 v vb a bs w h hv he hl (.inr hd) 14 (fun h => by rw [hk] at h; cases h) (fun _ => rfl)
        · have e1 : solvE a bs = 0 := by unfold solvE; rw [if_neg (fun h => h he), if_neg (fun h => h hl), if_pos hk, if_neg hd]
          have e2 : solvD a bs = detL a := by unfold solvD; rw [if_pos e1]
          have e3 : solvX a bs = solL a bs := by unfold solvX; rw [if_pos e1]
          rw [e1, e2, e3]
          exact solve_good v vb a bs w h hv he hl hk hd
      · have e1 : solvE a bs = 2 := by unfold solvE; rw [if_neg (fun h => h he), if_neg (fun h => h hl), if_neg hk]
        have e2 : solvD a bs = 0 := by unfold solvD; rw [e1]; rfl
        have e3 : solvX a bs = [] := by unfold solvX; rw [e1]; rfl
        rw [e1, e2, e3]
        exact solve_e3 v vb a bs w h hv he hl (.inl (by simpa using hk)) 2 (fun _ => rfl) (fun h => absurd h hk)
    · have e1 : solvE a bs = 1 := by unfold solvE; rw [if_neg (fun h => h he), if_pos hl]
      have e2 : solvD a bs = 0 := by unfold solvD; rw [e1]; rfl
      have e3 : solvX a bs = [] := by unfold solvX; rw [e1]; rfl
      rw [e1, e2, e3]
      exact solve_e2 v vb a bs w h hv he hl
  · have e1 : solvE a bs = matE a := by unfold solvE; rw [if_pos he]
    have e2 : solvD a bs = 0 := by unfold solvD; rw [e1, if_neg he]
    have e3 : solvX a bs = [] := by unfold solvX; rw [e1, if_neg he]
    rw [e1, e2, e3]
    exact solve_e1 v vb a w h he
end Go.Proofs.Ytcppgigndpepnaa
