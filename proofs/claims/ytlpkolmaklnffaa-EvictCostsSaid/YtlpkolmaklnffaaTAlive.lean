/- The walk of graftlaw13's alive: the example of the chapter. -/
import Derived.Test.YtlpkolmaklnffaaCycW
import Derived.Test.YtlpkolmaklnffaaLawWithout
namespace Go.Proofs.Ytlpkolmaklnffaa
open Go.RowKit Go.MapKept

theorem order0 (b N : Nat) (E : List (Int × Int)) (F : Nat → Prop) (w : World) (hG : IsGraph w F b N E) (hfew : E.length ≤ 1048576) (o : List Int) (ho : IsOrder E N [] o) (r : Bool) (hr : decide (restL N [] o = []) = r) :
    Calls Try.prog 40 #[.pointer (some ⟨b, 0, none⟩), .slice none 0 0] w fun e w' => ∃ A' c', e = .returned (.tuple #[.slice A' (ordRes r o).length c', .bool r]) ∧ SlI w' A' (ordRes r o) ∧ (∀ k off, A' = some ⟨k, off, none⟩ → w.heap.size ≤ k) ∧ Grew w w' :=
  order_is b N E F none 0 [] w hG SlI.nil (by simp) hfew o ho r hr
theorem cycle0 (b N : Nat) (E : List (Int × Int)) (F : Nat → Prop) (v : Int) (w : World) (hG : IsGraph w F b N E) (hfew : E.length ≤ 1048576) (hv : okI v) :
    Calls Try.prog 42 #[.pointer (some ⟨b, 0, none⟩), .int .i64 v, .slice none 0 0] w fun e w' => ∃ A' c' r, e = .returned (.slice A' r.length c') ∧ IsCycle (cut E []) v r ∧ SlI w' A' r ∧ r.length ≤ 1048577 ∧ Grew w w' :=
  cycle_at b N E F none 0 [] v w hG SlI.nil (by simp) hfew hv
theorem cycle_is (b N : Nat) (E : List (Int × Int)) (F : Nat → Prop) (A : Option Addr) (c : Nat) (s : List Int) (v : Int) (w : World) (hG : IsGraph w F b N E) (hs : SlI w A s) (hsl : s.length ≤ 9223372036854775807) (hfew : E.length ≤ 1048576) (hv : okI v) (r : List Int) (hr : IsCycle (cut E s) v r) :
    Calls Try.prog 42 #[.pointer (some ⟨b, 0, none⟩), .int .i64 v, .slice A s.length c] w fun e w' => ∃ A' c', e = .returned (.slice A' r.length c') ∧ SlI w' A' r ∧ Grew w w' := by
  refine (cycle_at b N E F A c s v w hG hs hsl hfew hv).mono ?_
  rintro e w' ⟨A', c', r', rfl, h1, h2, _, h3⟩
  obtain rfl := h1.unique hr
  exact ⟨A', c', rfl, h2, h3⟩
theorem cycle0_is (b N : Nat) (E : List (Int × Int)) (F : Nat → Prop) (v : Int) (w : World) (hG : IsGraph w F b N E) (hfew : E.length ≤ 1048576) (hv : okI v) (r : List Int) (hr : IsCycle (cut E []) v r) :
    Calls Try.prog 42 #[.pointer (some ⟨b, 0, none⟩), .int .i64 v, .slice none 0 0] w fun e w' => ∃ A' c', e = .returned (.slice A' r.length c') ∧ SlI w' A' r ∧ Grew w w' :=
  cycle_is b N E F none 0 [] v w hG SlI.nil (by simp) hfew hv r hr
def T1 : List (Int × Int) := [(2, 0), (2, 1)]
def T2 : List (Int × Int) := [(2, 0), (2, 1), (1, 2)]
theorem addT1 : addAll 3 [] T1 = T1 := by decide
theorem addT2 : addAll 3 T1 [(1, 2)] = T2 := by decide
theorem three {u : Int} (h : 0 ≤ u ∧ u < ((3 : Nat) : Int)) : u = 0 ∨ u = 1 ∨ u = 2 := by omega
theorem orderT1 : IsOrder T1 3 [] [2, 0, 1] := by
  refine ⟨.snoc (out := [2, 0]) (.snoc (out := [2]) (.snoc .nil ⟨⟨by decide, by simp, by simp, fun u h => by simp [T1] at h⟩, fun u h => ?_⟩) ⟨⟨by decide, by simp, by simp, fun u h => by simp [T1] at h; simp [h]⟩, fun u h => ?_⟩) ⟨⟨by decide, by simp, by simp, fun u h => by simp [T1] at h; simp [h]⟩, fun u h => ?_⟩, fun u h => ?_⟩
  · rcases three h.1 with rfl | rfl | rfl
    · have := h.2.2.2 2 (by simp [T1]); simp at this
    · have := h.2.2.2 2 (by simp [T1]); simp at this
    · omega
  · exact h.1.1
  · rcases three h.1 with rfl | rfl | rfl
    · exact absurd (by simp) h.2.2.1
    · omega
    · exact absurd (by simp) h.2.2.1
  · rcases three h.1 with rfl | rfl | rfl <;> exact absurd (by simp) h.2.2.1
theorem orderT2 : IsOrder T2 3 [] [] := by
  refine ⟨.nil, fun u h => ?_⟩
  rcases three h.1 with rfl | rfl | rfl
  · have := h.2.2.2 2 (by simp [T2]); simp at this
  · have := h.2.2.2 2 (by simp [T2]); simp at this
  · have := h.2.2.2 1 (by simp [T2]); simp at this
theorem orderT3 : IsOrder T2 3 [2] [0, 1] := by
  refine ⟨.snoc (out := [0]) (.snoc .nil ⟨⟨by decide, by simp, by simp, fun u h => by simp [T2] at h; simp [h]⟩, fun u h => ?_⟩) ⟨⟨by decide, by simp, by simp, fun u h => by simp [T2] at h; simp [h]⟩, fun u h => ?_⟩, fun u h => ?_⟩
  · exact h.1.1
  · rcases three h.1 with rfl | rfl | rfl
    · exact absurd (by simp) h.2.2.1
    · omega
    · exact absurd (by simp) h.2.1
  · rcases three h.1 with rfl | rfl | rfl
    · exact absurd (by simp) h.2.2.1
    · exact absurd (by simp) h.2.2.1
    · exact absurd (by simp) h.2.1
theorem cycleT : IsCycle (cut T2 []) 1 [1, 2] := by
  rw [cut_nil]
  refine .inl ⟨⟨⟨by simp, rfl, fun i hi => ?_⟩, by decide⟩, fun q hq => ?_⟩
  · obtain rfl : i = 0 := by simp at hi; omega
    decide
  · by_cases h1 : q.length = 1
    · have h2 := hq.2
      unfold lastv at h2
      rw [h1, hq.1.head] at h2
      exact absurd h2 (by decide)
    · have hp := hq.1.pos
      by_cases h2 : q.length = 2
      · have he := hq.1.edge 0 (by omega)
        rw [hq.1.head] at he
        have h3 : pg q 1 = 2 := by
          have : ∀ y, ((1 : Int), y) ∈ T2 → y = 2 := fun y hy => by simpa [T2] using hy
          exact this _ he
        refine .inl (pg_ext (by simp [h2]) (fun i hi => ?_))
        have hi2 : i = 0 ∨ i = 1 := by simp at hi; omega
        rcases hi2 with rfl | rfl
        · rw [hq.1.head]; rfl
        · rw [h3]; rfl
      · exact .inr (.inl (by simp; omega))
theorem okT1 : ∀ e ∈ T1, okE e := by
  intro e he
  simp [T1] at he
  rcases he with rfl | rfl <;> exact ⟨⟨by decide, by decide⟩, ⟨by decide, by decide⟩⟩
theorem cellsT (w : World) (a b c d : Int) : SlE (w.alloc (.cells #[.int .i64 a, .int .i64 b, .int .i64 c, .int .i64 d] 41)) (some ⟨w.heap.size, 0, none⟩) [(a, b), (c, d)] := by
  refine fun _ => ⟨_, 0, rfl, fun j hj => ?_⟩
  have h := heap_alloc_new w (.cells #[.int .i64 a, .int .i64 b, .int .i64 c, .int .i64 d] 41)
  have hj' : j < 2 := hj
  match j, hj' with
  | 0, _ => exact ⟨cell_of_row _ _ _ _ _ _ h, cell_of_row _ _ _ _ _ _ h⟩
  | 1, _ => exact ⟨cell_of_row _ _ _ _ _ _ h, cell_of_row _ _ _ _ _ _ h⟩
theorem cells_i1 (w : World) (x : Int) : SlI (w.alloc (.cells #[.int .i64 x] 3)) (some ⟨w.heap.size, 0, none⟩) [x] := by
  refine fun _ => ⟨_, 0, rfl, fun j hj => ?_⟩
  have hj' : j < 1 := hj
  match j, hj' with
  | 0, _ => exact cell_of_row _ _ _ _ _ _ (heap_alloc_new w _)
theorem cells_i2 (w : World) (x y : Int) : SlI (w.alloc (.cells #[.int .i64 x, .int .i64 y] 3)) (some ⟨w.heap.size, 0, none⟩) [x, y] := by
  refine fun _ => ⟨_, 0, rfl, fun j hj => ?_⟩
  have hj' : j < 2 := hj
  match j, hj' with
  | 0, _ => exact cell_of_row _ _ _ _ _ _ (heap_alloc_new w _)
  | 1, _ => exact cell_of_row _ _ _ _ _ _ (heap_alloc_new w _)
theorem cells_i3 (w : World) (x y z : Int) : SlI (w.alloc (.cells #[.int .i64 x, .int .i64 y, .int .i64 z] 3)) (some ⟨w.heap.size, 0, none⟩) [x, y, z] := by
  refine fun _ => ⟨_, 0, rfl, fun j hj => ?_⟩
  have hj' : j < 3 := hj
  match j, hj' with
  | 0, _ => exact cell_of_row _ _ _ _ _ _ (heap_alloc_new w _)
  | 1, _ => exact cell_of_row _ _ _ _ _ _ (heap_alloc_new w _)
  | 2, _ => exact cell_of_row _ _ _ _ _ _ (heap_alloc_new w _)
set_option maxRecDepth 100000 in
set_option maxHeartbeats 600000 in
theorem talive_at (w : World) : Calls Try.prog 39 #[] w fun e w' => e = .returned (.bool true) ∧ Grew w w' := by
  go_enter Try.func39, Try.ntmps39
  go_wp2_with (go_at_call 27; refine (new_ok 3 w (by omega) (by omega)).mono ?_; rintro e w1 ⟨b, rfl, hG, hg1⟩)
  have H1 := hid (And.intro hG hg1)
  clear hG hg1
  go_wp2_with (go_at_call 28; refine (add_at b 3 [] _ (some ⟨w1.heap.size, 0, none⟩) 2 T1 _ (H1.out.1.grew (Only.alloc _ _)) (cellsT w1 2 0 2 1) okT1 (by simp [T1]) (fun blk off e h => by cases e; omega)).mono ?_; rintro e w2 ⟨he, hG2, hO2⟩; rw [addT1] at he hG2; replace he : e = .returned (.int .i64 2) := he; subst he)
  have hs1 := H1.out.2.size
  have hO02 : Only (fun i => w.heap.size ≤ i) w w2 := (Grew.to (Grew.trans H1.out.2 (Only.alloc _ _))).trans hO2 (fun _ _ h => h.1)
  have hF2 : IsGraph w2 (fun i => w.heap.size ≤ i ∧ i < w2.heap.size) b 3 T1 := hG2.mono (fun i hi h => by
    rcases h with h | h
    · exact ⟨h.1, hi⟩
    · exact ⟨by have := h.1; simp at this; omega, hi⟩)
  have H2 := hid (And.intro hF2 hO02)
  clear hG2 hO2 hO02 hF2
  have cO := order0 b 3 T1 _ w2 H2.out.1 (by decide) _ orderT1 true (by decide)
  go_wp2_with (go_at_call 40; with_reducible refine cO.mono ?_; clear cO; rintro e w3 ⟨A3, c3, rfl, hi3, hl3, hg3⟩)
  have H3 := hid (And.intro hi3 (And.intro hg3 (And.intro hg3.size hl3)))
  clear hi3 hg3 hl3
  have hG3 := H2.out.1.grew H3.out.2.1
  have HG3 := hid hG3
  clear hG3
  go_wp2_with (go_at_call 28; refine (add_at b 3 T1 _ (some ⟨w3.heap.size, 0, none⟩) 1 [(1, 2)] _ (HG3.out.grew (Only.alloc _ _)) (sl_one' (heap_alloc_new w3 _)) (fun e he => (List.mem_singleton.1 he) ▸ ⟨⟨by decide, by decide⟩, ⟨by decide, by decide⟩⟩) (by simp [T1]) (fun blk off e h => by cases e; have := H3.out.2.2.1; omega)).mono ?_; rintro e w4 ⟨he, hG4, hO4⟩; rw [addT2] at he hG4; replace he : e = .returned (.int .i64 1) := he; subst he)
  have hs2 := H2.out.2.size
  have hO04 : Only (fun i => w.heap.size ≤ i) w w4 := ((H2.out.2.trans H3.out.2.1 (fun _ _ h => h.elim)).trans (Only.alloc (F := fun i => w.heap.size ≤ i) _ _) (fun _ _ h => h)).trans hO4 (fun _ _ h => h.1)
  have hi4 : SlI w4 A3 (ordRes true [2, 0, 1]) := (H3.out.1.grew (Only.alloc (F := fun _ => False) w3 (.cells #[.int .i64 1, .int .i64 2] 41))).only hO4 (fun k off h e => by have := H3.out.2.2.2 k off h; omega)
  have H4 := hid (And.intro hG4 (And.intro hO04 hi4))
  clear hG4 hO4 hO04 hi4
  have cO := order0 b 3 T2 _ w4 H4.out.1 (by decide) _ orderT2 false (by decide)
  go_wp2_with (go_at_call 40; with_reducible refine cO.mono ?_; clear cO; rintro e w5 ⟨A5, c5, rfl, _, _, hg5⟩)
  have H5 := hid hg5
  clear hg5
  have cO := order_is b 3 T2 _ (some ⟨w5.heap.size, 0, none⟩) 1 [2] (w5.alloc (.cells #[.int .i64 2] 3)) ((H4.out.1.grew H5.out).grew (Only.alloc _ _)) (cells_i1 w5 2) (by simp) (by decide) _ orderT3 true (by decide)
  go_wp2_with (go_at_call 40; refine cO.mono ?_; clear cO; rintro e w6 ⟨A6, c6, rfl, hi6, _, hg6⟩)
  have H6 := hid (And.intro hi6 (Grew.trans (Only.alloc (F := fun _ => False) w5 (.cells #[.int .i64 2] 3)) hg6))
  clear hi6 hg6
  have cE := equal_same A3 _ c3 3 [2, 0, 1] _ (((H4.out.2.2.grew H5.out).grew H6.out.2).grew (Only.alloc _ _)) (cells_i3 w6 2 0 1) (by decide)
  go_wp2_with (go_at_call 23; refine cE.mono ?_; clear cE; rintro e w7 ⟨rfl, hg7⟩)
  have H7 := hid (Grew.trans (Only.alloc (F := fun _ => False) w6 (.cells #[.int .i64 2, .int .i64 0, .int .i64 1] 3)) hg7)
  clear hg7
  have cE := equal_same A6 _ c6 2 [0, 1] _ ((H6.out.1.grew H7.out).grew (Only.alloc _ _)) (cells_i2 w7 0 1) (by decide)
  go_wp2_with (go_at_call 23; refine cE.mono ?_; clear cE; rintro e w8 ⟨rfl, hg8⟩)
  have H8 := hid (Grew.trans (Only.alloc (F := fun _ => False) w7 (.cells #[.int .i64 0, .int .i64 1] 3)) hg8)
  clear hg8
  have hg48 := Grew.trans H5.out (Grew.trans H6.out.2 (Grew.trans H7.out H8.out))
  have HG8 := hid (And.intro (H4.out.1.grew hg48) hg48)
  clear hg48
  go_wp2_with (go_at_call 42; refine (cycle0_is b 3 T2 _ 1 w8 HG8.out.1 (by decide) ⟨by decide, by decide⟩ _ cycleT).mono ?_; rintro e w9 ⟨A9, c9, rfl, hi9, hg9⟩)
  have H9 := hid (And.intro hi9 hg9)
  clear hi9 hg9
  have cE := equal_same A9 _ c9 2 [1, 2] _ (H9.out.1.grew (Only.alloc _ _)) (cells_i2 w9 1 2) (by decide)
  go_wp2_with (go_at_call 23; refine cE.mono ?_; clear cE; rintro e w10 ⟨rfl, hg10⟩)
  have H10 := hid (Grew.trans (Only.alloc (F := fun _ => False) w9 (.cells #[.int .i64 1, .int .i64 2] 3)) hg10)
  clear hg10
  go_ret
  exact ⟨rfl, Grew.trans (Fresh.grew H4.out.2.1) (Grew.trans HG8.out.2 (Grew.trans H9.out.2 H10.out))⟩
end Go.Proofs.Ytlpkolmaklnffaa
