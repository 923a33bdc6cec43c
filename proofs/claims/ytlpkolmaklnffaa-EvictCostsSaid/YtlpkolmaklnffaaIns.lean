/- A slice of ints that may begin in the midst of its row; slices.Insert, slices.BinarySearch on it. -/
import Derived.Test.YtlpkolmaklnffaaSorted
import Derived.Test.YtlpkolmaklnffaaShelf2
namespace Go.Proofs.Ytlpkolmaklnffaa
open Go.RowKit Go.MapKept

theorem setCells_row {t : TypeId} {fr : Nat × Nat} (g : Nat) : ∀ (vs : List Value) (o : Nat) (w : World) (cur : Array Value), w.heap[g]? = some (.cells cur t fr) →
    ∃ cur', (w.setCells g o vs).heap[g]? = some (.cells cur' t fr) ∧ cur'.size = cur.size ∧ ∀ j, cur'[j]? = if o ≤ j ∧ j < o + vs.length ∧ j < cur.size then vs[j - o]? else cur[j]?
  | [], o, w, cur, h => ⟨cur, h, rfl, fun j => by rw [if_neg]; simp; omega⟩
  | v :: r, o, w, cur, h => by
    have h1 : (w.setCell ⟨g, o, none⟩ v).heap[g]? = some (.cells (cur.setIfInBounds o v) t fr) := by simp [World.setCell, Array.getElem?_modify, h]
    obtain ⟨cur', h2, h3, h4⟩ := setCells_row g r (o + 1) _ _ h1
    refine ⟨cur', h2, by simpa using h3, fun j => ?_⟩
    rw [h4 j, Array.getElem?_setIfInBounds]
    simp only [Array.size_setIfInBounds, List.length_cons]
    by_cases hj : o + 1 ≤ j ∧ j < o + 1 + r.length ∧ j < cur.size
    · rw [if_pos hj, if_pos (by omega), show j - o = (j - (o + 1)) + 1 by omega, List.getElem?_cons_succ]
    · rw [if_neg hj]
      by_cases ho : o = j
      · subst ho
        by_cases hs : o < cur.size
        · rw [if_pos rfl, if_pos hs, if_pos (by omega)]
          simp
        · rw [if_pos rfl, if_neg hs, if_neg (by omega)]
          simp only [Array.getElem?_eq_none (Nat.le_of_not_lt hs)]
      · rw [if_neg ho, if_neg (by omega)]
theorem Only.setCells (w : World) (g o : Nat) (vs : List Value) : Only (fun k => k = g) w (w.setCells g o vs) := by
  induction vs generalizing o w with
  | nil => exact Only.refl _ _
  | cons v r ih => exact (Only.setCell (F := fun k => k = g) w (p := ⟨g, o, none⟩) rfl v).trans (ih _ _) (fun _ _ h => h)
/-- A slice of the numbers xs, nil or in a row of its own from base on; it need not begin at the row's head. -/
def Win (w : World) (base : Nat) (v : Value) (xs : List Int) : Prop := ∃ A c, v = .slice A xs.length c ∧ ((A = none ∧ xs = [] ∧ c = 0) ∨
  ∃ g off cur, A = some ⟨g, off, none⟩ ∧ base ≤ g ∧ w.heap[g]? = some (.cells cur 3 (0, 0)) ∧ xs.length ≤ c ∧ c ≤ maxLen ∧ off + c ≤ cur.size ∧ ∀ j, j < xs.length → cur[off + j]? = some (.int .i64 (xs[j]?.getD 0)))
theorem Win.of_own {w : World} {base : Nat} {v : Value} {n : Nat} {xs : List Int} (h : w.ownsRow base 3 1 v n (xs.map (Value.int .i64))) : Win w base v xs := by
  have hn : xs.length = n := by simpa using h.1
  subst hn
  rcases h.2 with ⟨rfl, h0⟩ | ⟨g, cap, cur, rfl, hb, hg, h1, h2, h3, h4⟩
  · obtain rfl := List.eq_nil_of_length_eq_zero h0
    exact ⟨none, 0, rfl, .inl ⟨rfl, rfl, rfl⟩⟩
  · refine ⟨_, cap, rfl, .inr ⟨g, 0, cur, rfl, hb, hg, h1, h2, by omega, fun j hj => ?_⟩⟩
    have e : (cur.toList.take (xs.length * 1))[j]? = some (.int .i64 xs[j]) := by rw [h4]; simp [hj]
    rw [List.getElem?_take, if_pos (by omega)] at e
    simpa [hj] using e
theorem Win.only {F : Nat → Prop} {w w' : World} {base : Nat} {v : Value} {xs : List Int} (h : Win w base v xs) (k : Only F w w') (hn : ∀ g, v.ownBlock = some g → ¬ F g) : Win w' base v xs := by
  obtain ⟨A, c, rfl, h⟩ := h
  refine ⟨A, c, rfl, h.imp id ?_⟩
  rintro ⟨g, off, cur, rfl, h1, h2, r⟩
  exact ⟨g, off, cur, rfl, h1, k.heap h2 (hn g rfl), r⟩
theorem Win.lt {w : World} {base : Nat} {v : Value} {xs : List Int} (h : Win w base v xs) {g : Nat} (hg : v.ownBlock = some g) : base ≤ g ∧ g < w.heap.size := by
  obtain ⟨A, c, rfl, ⟨rfl, _⟩ | ⟨g', off, cur, rfl, h1, h2, r⟩⟩ := h
  · cases hg
  · cases hg
    exact ⟨h1, (Array.getElem?_eq_some_iff.1 h2).1⟩
theorem Win.sl {w : World} {base c : Nat} {A : Option Addr} {xs : List Int} (h : Win w base (.slice A xs.length c) xs) : SlI w A xs := fun hp => by
  obtain ⟨A', c', e, ⟨rfl, rfl, _⟩ | ⟨g, off, cur, rfl, h1, h2, h3, h4, h5, h6⟩⟩ := h
  · simp at hp
  · injection e with e1
    subst e1
    refine ⟨g, off, rfl, fun j hj => ?_⟩
    rw [cell_of_row w g (off + j) _ _ _ h2]
    exact h6 j hj
theorem Win.form {w : World} {base : Nat} {v : Value} {xs : List Int} (h : Win w base v xs) : ∃ A c, v = .slice A xs.length c ∧ xs.length ≤ c ∧ c ≤ maxLen := by
  obtain ⟨A, c, rfl, ⟨_, rfl, rfl⟩ | ⟨g, off, cur, rfl, h1, h2, h3, h4, r⟩⟩ := h
  · exact ⟨A, 0, rfl, Nat.le_refl _, by unfold maxLen; omega⟩
  · exact ⟨_, c, rfl, h3, h4⟩
/-- s[1:]. -/
theorem Win.tail {w : World} {base n c : Nat} {A : Option Addr} {x : Int} {xs : List Int} (h : Win w base (.slice A n c) (x :: xs)) : ∃ g off, A = some ⟨g, off, none⟩ ∧ n = xs.length + 1 ∧ xs.length + 1 ≤ c ∧ c ≤ maxLen ∧ w.cell? ⟨g, off, none⟩ = some (.int .i64 x) ∧
    Win w base (.slice (some ⟨g, off + 1, none⟩) xs.length (c - 1)) xs ∧ (xs = [] → Win w base (.slice (some ⟨g, off, none⟩) xs.length (c - 1)) xs) := by
  obtain ⟨A', c', e, ⟨rfl, h0, _⟩ | ⟨g, off, cur, rfl, h1, h2, h3, h4, h5, h6⟩⟩ := h
  · cases h0
  · injection e with e1 e2 e3
    subst e1 e2 e3
    simp only [List.length_cons] at h3 h6
    refine ⟨g, off, rfl, rfl, h3, h4, ?_, ⟨_, _, rfl, .inr ⟨g, off + 1, cur, rfl, h1, h2, by omega, by omega, by omega, fun j hj => ?_⟩⟩, ?_⟩
    · rw [cell_of_row w g off _ _ _ h2]
      simpa using h6 0 (by omega)
    · have := h6 (j + 1) (by omega)
      rw [show off + 1 + j = off + (j + 1) by omega, this]
      simp
    · rintro rfl
      exact ⟨_, _, rfl, .inr ⟨g, off, cur, rfl, h1, h2, Nat.zero_le _, by omega, by omega, fun j hj => by simp at hj⟩⟩
def insAt (xs : List Int) (i : Nat) (x : Int) : List Int := xs.take i ++ x :: xs.drop i
theorem insAt_length {xs : List Int} {i : Nat} (x : Int) (hi : i ≤ xs.length) : (insAt xs i x).length = xs.length + 1 := by simp [insAt]; omega
theorem insAt_get {xs : List Int} {i : Nat} (x : Int) (hi : i ≤ xs.length) (j : Nat) : (insAt xs i x)[j]? = if j < i then xs[j]? else if j = i then some x else xs[j - 1]? := by
  unfold insAt
  have hl : (xs.take i).length = i := by simp; omega
  by_cases h1 : j < i
  · rw [if_pos h1, List.getElem?_append_left (by omega), List.getElem?_take, if_pos h1]
  · rw [if_neg h1, List.getElem?_append_right (by omega), hl]
    by_cases h2 : j = i
    · subst h2; simp
    · rw [if_neg h2, show j - i = (j - i - 1) + 1 by omega, List.getElem?_cons_succ, List.getElem?_drop]
      congr 1; omega
theorem zeroCells_size (n : Nat) : (Builtin.zeroCells (Value.int .i64 0).cells n).size = n := by simp [Builtin.zeroCells, Value.cells]
set_option maxHeartbeats 1000000 in
theorem insert_at (base : Nat) (v : Value) (xs : List Int) (i : Nat) (x : Int) (vb : Nat) (w : World) (hW : Win w base v xs) (hi : i ≤ xs.length) (hvb : w.heap[vb]? = some (.cells #[.int .i64 x] 3 (0, 0))) (hne : ∀ g, v.ownBlock = some g → g ≠ vb) (hfew : xs.length ≤ 1048576) (hbase : base ≤ w.heap.size) :
    Calls Try.prog 92 #[v, .int .i64 i, .slice (some ⟨vb, 0, none⟩) 1 1] w fun e w' => ∃ v', e = .returned v' ∧ Win w' base v' (insAt xs i x) ∧ Only (fun k => v.ownBlock = some k) w w' ∧ (v'.ownBlock = v.ownBlock ∨ ∃ k, v'.ownBlock = some k ∧ w.heap.size ≤ k) := by
  obtain ⟨A, c, rfl, hW⟩ := hW
  have hlen := insAt_length x hi
  have hvs : ∀ (j : Nat) (u : Value), [Value.int .i64 x][j]? = some u → w.cell? ⟨vb, 0 + j, none⟩ = some u := fun j u hu => by
    rw [cell_of_row w vb (0 + j) _ _ _ hvb]
    cases j with
    | zero => simpa using hu
    | succ j => simp at hu
  have h1v : ∀ u ∈ [Value.int .i64 x], u.oneCell' = true := by simp [Value.oneCell']
  have hcl : (xs.map (Value.int .i64)).length = xs.length := by simp
  have h1c := oneCell_ints xs
  have hget : ∀ j, j < xs.length → (xs.map (Value.int .i64))[j]? = some (.int .i64 (xs[j]?.getD 0)) := fun j hj => by simp [hj]
  have hgi : ∀ j, j < xs.length + 1 → ∃ y, (insAt xs i x)[j]? = some y := fun j hj => ⟨_, List.getElem?_eq_getElem (by omega)⟩
  rcases hW with ⟨rfl, rfl, rfl⟩ | ⟨g, off, cur, rfl, hb, hg, h1, h2, h3, h4⟩
  · obtain rfl : i = 0 := by simpa using hi
    refine (Any2.slices_Insert_int_end_grow Try.laysIns none 0 0 vb 0 1 1 [] [.int .i64 x] w (by omega) (Nat.le_refl _) (by omega) (by omega) rfl rfl (fun _ => rfl) (fun a h => by cases h) hvs h1v).mono ?_
    rintro e w' ⟨rfl, rfl⟩
    have hge := grownCap_ge w (0 + 1) 0 3
    have hgm := grownCap_le_maxLen w (0 + 1) 0 3 (by unfold maxLen; omega)
    refine ⟨_, rfl, ⟨_, _, rfl, .inr ⟨w.heap.size, 0, _, rfl, hbase, heap_alloc_new w.drew _, hge, hgm, ?_, fun j hj => ?_⟩⟩, ?_, .inr ⟨_, rfl, Nat.le_refl _⟩⟩
    · simp [zeroCells_size]; omega
    · obtain rfl : j = 0 := by simpa [insAt] using hj
      simp [insAt]
      rw [Array.getElem?_append_left (by simp)]
      rfl
    · exact (Only.drew w).trans (Only.alloc _ _) (fun _ _ h => h)
  · have hcs : ∀ (j : Nat) (u : Value), (xs.map (Value.int .i64))[j]? = some u → w.cell? ⟨g, off + j, none⟩ = some u := fun j u hu => by
      have hj : j < xs.length := by simpa using (List.getElem?_eq_some_iff.1 hu).1
      rw [cell_of_row w g (off + j) _ _ _ hg, h4 j hj, ← hget j hj, hu]
    have hfz : ∀ j, w.frozen? ⟨g, j, none⟩ = false := fun j => by simp [World.frozen?, hg]
    have hfv : ∀ j, w.frozen? ⟨vb, j, none⟩ = false := fun j => by simp [World.frozen?, hvb]
    have hsp : ∀ j, j < c → (w.cell? ⟨g, off + j, none⟩).isSome = true := fun j hj => by
      rw [cell_of_row w g (off + j) _ _ _ hg]
      simp; omega
    have hgv : vb ≠ g := fun e => hne g rfl e.symm
    by_cases hroom : xs.length + 1 ≤ c
    · by_cases hin : i < xs.length
      · refine (Any2.slices_Insert_int_shift Try.laysIns g off xs.length c i vb 0 1 1 (xs.map (Value.int .i64)) [.int .i64 x] w hin (by omega) hroom (by unfold maxLen at h2; omega) hgv hcl rfl hcs (fun j hj => hsp j (by omega)) (fun j _ => hfz _) hvs h1c h1v 3 3 1 cur.size
          (by simp [World.shape?, hvb]) (by simp [World.shape?, hg]) (by omega) (hfv _) (hfv _)).mono ?_
        rintro e w' ⟨rfl, rfl⟩
        obtain ⟨cur1, a1, a2, a3⟩ := setCells_row g ((xs.map (Value.int .i64)).drop i) (off + (i + 1)) w.drew cur hg
        obtain ⟨cur2, b1, b2, b3⟩ := setCells_row g [.int .i64 x] (off + i) _ cur1 a1
        refine ⟨_, rfl, ⟨_, c, by rw [hlen], .inr ⟨g, off, cur2, rfl, hb, b1, by omega, h2, by omega, fun j hj => ?_⟩⟩, ?_, .inl rfl⟩
        · rw [hlen] at hj
          rw [b3, a3, insAt_get x hi]
          simp only [List.length_cons, List.length_nil, List.length_drop, List.length_map]
          by_cases hji : j < i
          · rw [if_neg (by omega), if_neg (by omega), if_pos hji]; exact h4 j (by omega)
          · by_cases hje : j = i
            · subst hje
              rw [if_pos (by omega), if_neg (by omega), if_pos rfl]
              simp
            · rw [if_neg (by omega), if_pos (by omega), if_neg hji, if_neg hje, List.getElem?_drop, show i + (off + j - (off + (i + 1))) = j - 1 by omega]
              exact hget _ (by omega)
        · exact ((Only.drew w).trans (Only.setCells w.drew g _ _) (fun _ _ h => by rw [h]; rfl)).trans (Only.setCells _ g _ _) (fun _ _ h => by rw [h]; rfl)
      · obtain rfl : i = xs.length := by omega
        refine (Any2.slices_Insert_int_end_room Try.laysIns g off xs.length c vb 0 1 1 [.int .i64 x] w (by omega) hroom (by unfold maxLen at h2; omega) rfl (fun j hj => by have := hsp (xs.length + j) (by omega); rwa [← Nat.add_assoc] at this) (fun j _ => hfz _) hvs h1v).mono ?_
        rintro e w' ⟨rfl, rfl⟩
        obtain ⟨cur2, b1, b2, b3⟩ := setCells_row g [.int .i64 x] (off + xs.length) w cur hg
        refine ⟨_, rfl, ⟨_, c, by rw [hlen], .inr ⟨g, off, cur2, rfl, hb, b1, by omega, h2, by omega, fun j hj => ?_⟩⟩, ?_, .inl rfl⟩
        · rw [hlen] at hj
          rw [b3, insAt_get x hi]
          simp only [List.length_cons, List.length_nil]
          by_cases hji : j < xs.length
          · rw [if_neg (by omega), if_pos hji]; exact h4 j hji
          · obtain rfl : j = xs.length := by omega
            rw [if_pos (by omega), if_neg hji, if_pos rfl]
            simp
        · exact (Only.setCells w g _ _).mono (fun _ _ h => by rw [h]; rfl)
    · have hcn : c = xs.length := by omega
      by_cases hin : i < xs.length
      · refine (Any2.slices_Insert_int_grow Try.laysIns g off xs.length c i vb 0 1 1 (xs.map (Value.int .i64)) [.int .i64 x] w hin (by omega) h1 (by omega) (by omega) hcl rfl hcs hvs h1c h1v).mono ?_
        rintro e w' ⟨rfl, rfl⟩
        have hge := grownCap_ge w (xs.length + 1) c 3
        have hgm := grownCap_le_maxLen w (xs.length + 1) c 3 (by unfold maxLen; omega)
        obtain ⟨cur1, a1, a2, a3⟩ := setCells_row w.heap.size [.int .i64 x] i (w.alloc (.cells (((xs.map (Value.int .i64)).take i).toArray ++ Builtin.zeroCells (Value.int .i64 0).cells (xs.length + 1 - i) ++ Builtin.zeroCells (Value.int .i64 0).cells (grownCap w (xs.length + 1) c 3 - (xs.length + 1))) 3)).drew _ (heap_alloc_new w _)
        obtain ⟨cur2, b1, b2, b3⟩ := setCells_row w.heap.size ((xs.map (Value.int .i64)).drop i) (i + 1) (((w.alloc (.cells (((xs.map (Value.int .i64)).take i).toArray ++ Builtin.zeroCells (Value.int .i64 0).cells (xs.length + 1 - i) ++ Builtin.zeroCells (Value.int .i64 0).cells (grownCap w (xs.length + 1) c 3 - (xs.length + 1))) 3)).drew.setCells w.heap.size i [.int .i64 x]).drew) cur1 a1
        have hsz : cur1.size = grownCap w (xs.length + 1) c 3 := by
          rw [a2]
          simp [zeroCells_size]
          omega
        refine ⟨_, rfl, ⟨_, _, by rw [hlen]; rfl, .inr ⟨w.heap.size, 0, cur2, rfl, hbase, b1, by rw [hlen]; exact hge, hgm, by rw [b2, hsz]; simp, fun j hj => ?_⟩⟩, ?_, .inr ⟨_, rfl, Nat.le_refl _⟩⟩
        · rw [hlen] at hj
          rw [b3, a3, insAt_get x hi, Nat.zero_add, ← a2, hsz]
          simp only [List.length_cons, List.length_nil, List.length_drop, List.length_map]
          by_cases hji : j < i
          · rw [if_neg (by omega), if_neg (by omega), if_pos hji, Array.getElem?_append_left (by simp; omega), Array.getElem?_append_left (by simp; omega)]
            simp only [List.getElem?_toArray, List.getElem?_take, if_pos hji]
            exact hget j (by omega)
          · by_cases hje : j = i
            · subst hje
              rw [if_neg (by omega), if_pos (by omega), if_neg hji, if_pos rfl]
              simp
            · rw [if_pos (by omega), if_neg hji, if_neg hje, List.getElem?_drop, show i + (j - (i + 1)) = j - 1 by omega]
              exact hget _ (by omega)
        · have k1 := (Grew.trans (Only.alloc w (.cells (((xs.map (Value.int .i64)).take i).toArray ++ Builtin.zeroCells (Value.int .i64 0).cells (xs.length + 1 - i) ++ Builtin.zeroCells (Value.int .i64 0).cells (grownCap w (xs.length + 1) c 3 - (xs.length + 1))) 3)) (Only.drew _))
          have k2 : Only (fun k => k = w.heap.size) w _ := (Grew.to k1).trans (Only.setCells _ w.heap.size i [.int .i64 x]) (fun _ _ h => h)
          have k3 := (k2.trans (Only.drew _) (fun _ _ h => h)).trans (Only.setCells _ w.heap.size (i + 1) ((xs.map (Value.int .i64)).drop i)) (fun _ _ h => h)
          exact k3.mono (fun k hk e => by omega)
      · obtain rfl : i = xs.length := by omega
        refine (Any2.slices_Insert_int_end_grow Try.laysIns (some ⟨g, off, none⟩) xs.length c vb 0 1 1 (xs.map (Value.int .i64)) [.int .i64 x] w (by omega) h1 (by omega) (by omega) hcl rfl (fun h => by cases h) (fun a h => by cases h; intro j u hu; rw [add_none]; exact hcs j u hu) hvs h1v).mono ?_
        rintro e w' ⟨rfl, rfl⟩
        have hge := grownCap_ge w (xs.length + 1) c 3
        have hgm := grownCap_le_maxLen w (xs.length + 1) c 3 (by unfold maxLen; omega)
        refine ⟨_, rfl, ⟨_, _, by rw [hlen]; rfl, .inr ⟨w.heap.size, 0, _, rfl, hbase, heap_alloc_new w.drew _, by rw [hlen]; exact hge, hgm, ?_, fun j hj => ?_⟩⟩, ?_, .inr ⟨_, rfl, Nat.le_refl _⟩⟩
        · simp [zeroCells_size, show Try.laysIns_ren.t 3 = 3 from rfl]; omega
        · rw [hlen] at hj
          rw [insAt_get x hi, Nat.zero_add, Array.getElem?_append_left (by simp; omega)]
          simp only [List.getElem?_toArray]
          by_cases hji : j < xs.length
          · rw [if_pos hji, List.getElem?_append_left (by simpa using hji)]
            exact hget j hji
          · obtain rfl : j = xs.length := by omega
            rw [if_neg hji, if_pos rfl, List.getElem?_append_right (by simp)]
            simp
        · exact (Only.drew w).trans (Only.alloc _ _) (fun _ _ h => h)
theorem search_at (A : Option Addr) (c : Nat) (xs : List Int) (x : Int) (w : World) (hx : SlI w A xs) (hs : xs.Pairwise (· ≤ ·)) (h1 : xs.length ≤ 1048576) :
    Calls Try.prog 91 #[.slice A xs.length c, .int .i64 x] w fun e w' => ∃ r, e = .returned (.tuple #[.int .i64 (xs.countP (· < x) : Nat), .bool r]) ∧ ∃ q, w' = w.drewN q := by
  rcases Nat.eq_zero_or_pos xs.length with h0 | h0
  · obtain rfl := List.eq_nil_of_length_eq_zero h0
    refine (Try.slices_BinarySearch_int_empty A c x w).mono ?_
    rintro e w' ⟨rfl, rfl⟩
    exact ⟨_, rfl, 0, rfl⟩
  · obtain ⟨b, off, rfl, hc⟩ := hx h0
    refine (Try.slices_BinarySearch_int b off xs.length c xs x w (Nat.le_refl _) (by omega) (fun j hj => by rw [getD_eq]; exact hc j hj) (by simpa using hs)).mono ?_
    rintro e w' ⟨rfl, q, rfl⟩
    exact ⟨_, by rw [List.take_length], q, rfl⟩
end Go.Proofs.Ytlpkolmaklnffaa
