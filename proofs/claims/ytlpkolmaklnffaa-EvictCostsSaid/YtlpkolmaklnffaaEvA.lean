/- The walk of graftlaw14's alive: the example of the chapter. -/
import Derived.Test.YtlpkolmaklnffaaEvE
namespace Go.Proofs.Ytlpkolmaklnffaa
open Go.RowKit Go.MapKept

def V4 : List (Int × Int) := [(0, 1), (1, 0), (1, 2), (2, 1)]
def W3 : List Int := [5, 7, 6]
theorem addV4 : addAll 3 [] V4 = V4 := by decide
theorem okV4 : ∀ e ∈ V4, okE e := by
  intro e he
  simp [V4] at he
  rcases he with rfl | rfl | rfl | rfl <;> exact ⟨⟨by decide, by decide⟩, ⟨by decide, by decide⟩⟩
theorem cellsV (w : World) : SlE (w.alloc (.cells #[.int .i64 0, .int .i64 1, .int .i64 1, .int .i64 0, .int .i64 1, .int .i64 2, .int .i64 2, .int .i64 1] 41)) (some ⟨w.heap.size, 0, none⟩) V4 := by
  refine fun _ => ⟨_, 0, rfl, fun j hj => ?_⟩
  have h := heap_alloc_new w (.cells #[.int .i64 0, .int .i64 1, .int .i64 1, .int .i64 0, .int .i64 1, .int .i64 2, .int .i64 2, .int .i64 1] 41)
  have hj' : j < 4 := hj
  match j, hj' with
  | 0, _ => exact ⟨cell_of_row _ _ _ _ _ _ h, cell_of_row _ _ _ _ _ _ h⟩
  | 1, _ => exact ⟨cell_of_row _ _ _ _ _ _ h, cell_of_row _ _ _ _ _ _ h⟩
  | 2, _ => exact ⟨cell_of_row _ _ _ _ _ _ h, cell_of_row _ _ _ _ _ _ h⟩
  | 3, _ => exact ⟨cell_of_row _ _ _ _ _ _ h, cell_of_row _ _ _ _ _ _ h⟩
theorem cyc_explicit {E : List (Int × Int)} {s xs : List Int} (h1 : xs.Pairwise (· < ·)) (h2 : ∀ u x, (u, x) ∈ cut E s → x ∈ xs) (h3 : ∀ x ∈ xs, ∃ y, (x, y) ∈ cut E s ∧ (y, x) ∈ cut E s) : IsCyc E s xs := by
  refine ⟨h1, fun x => ⟨fun hx => ?_, fun hp => ?_⟩⟩
  · obtain ⟨y, a, b⟩ := h3 x hx
    exact .more (.one a) b
  · obtain ⟨u, hu⟩ := hp.last
    exact h2 u x hu
theorem cycV0 : IsCyc V4 [] [0, 1, 2] := cyc_explicit (by decide) (fun u x h => by simp [cut, V4] at h; rcases h with h | h | h | h <;> simp [h]) (fun x h => by simp at h; rcases h with rfl | rfl | rfl; exact ⟨1, by decide, by decide⟩; exact ⟨2, by decide, by decide⟩; exact ⟨1, by decide, by decide⟩)
theorem cycV1 : IsCyc V4 [0] [1, 2] := cyc_explicit (by decide) (fun u x h => by rw [show cut V4 [0] = [(1, 2), (2, 1)] from by decide] at h; simp at h; rcases h with h | h <;> simp [h]) (fun x h => by simp at h; rcases h with rfl | rfl; exact ⟨2, by decide, by decide⟩; exact ⟨1, by decide, by decide⟩)
theorem cycV2 : IsCyc V4 [0, 2] [] := cyc_explicit (by simp) (fun u x h => by rw [show cut V4 [0, 2] = [] from by decide] at h; cases h) (fun x h => by cases h)
theorem cycV3 : IsCyc V4 [1] [] := cyc_explicit (by simp) (fun u x h => by rw [show cut V4 [1] = [] from by decide] at h; cases h) (fun x h => by cases h)
theorem chooseV : IsChoose V4 W3 [] [0, 2] [] :=
  ⟨.snoc (out := [0]) (.snoc (out := []) .nil cycV0 (by decide)) cycV1 (by decide), cycV2, by decide⟩
theorem rightV : WRight W3 := wright_iff.1 (by decide)
theorem sumV : sumw W3 (ddp [0, 2]) = 11 := by decide
theorem validV : Valid (3 : Nat) V4 := by
  intro e he
  simp [V4] at he
  rcases he with rfl | rfl | rfl | rfl <;> decide
set_option maxRecDepth 100000 in
set_option maxHeartbeats 1000000 in
theorem ealive_at (w : World) : Calls Try.prog 51 #[] w fun e w' => e = .returned (.bool true) ∧ Grew w w' := by
  go_enter Try.func51, Try.ntmps51
  go_wp2_with (go_at_call 27; refine (new_ok 3 w (by omega) (by omega)).mono ?_; rintro e w1 ⟨b, rfl, hG, hg1⟩)
  have H1 := hid (And.intro hG hg1)
  clear hG hg1
  go_wp2_with (go_at_call 28; refine (add_at b 3 [] _ (some ⟨w1.heap.size, 0, none⟩) 4 V4 _ (H1.out.1.grew (Only.alloc _ _)) (cellsV w1) okV4 (by simp [V4]) (fun blk off e h => by cases e; omega)).mono ?_; rintro e w2 ⟨he, hG2, hO2⟩; rw [addV4] at he hG2; replace he : e = .returned (.int .i64 4) := he; subst he)
  have hs1 := H1.out.2.size
  have hO02 : Only (fun i => w.heap.size ≤ i) w w2 := (Grew.to (Grew.trans H1.out.2 (Only.alloc _ _))).trans hO2 (fun _ _ h => h.1)
  have H2 := hid (And.intro hG2 hO02)
  clear hG2 hO2 hO02
  have cC := choose_at b 3 V4 _ (some ⟨w2.heap.size, 0, none⟩) 3 W3 none 0 [] (w2.alloc (.cells #[.int .i64 5, .int .i64 7, .int .i64 6] 3)) (H2.out.1.grew (Only.alloc _ _)) (cells_i3 w2 5 7 6) SlI.nil (by decide) (by decide) (by decide) _ _ chooseV true (by decide)
  go_wp2_with (go_at_call 52; refine cC.mono ?_; clear cC; rintro e w3 ⟨A3, c3, rfl, hi3, _, _, hg3⟩)
  have H3 := hid (And.intro hi3 (Grew.trans (Only.alloc (F := fun _ => False) w2 (.cells #[.int .i64 5, .int .i64 7, .int .i64 6] 3)) hg3))
  clear hi3 hg3
  have cE := equal_same A3 _ c3 2 [0, 2] _ (H3.out.1.grew (Only.alloc _ _)) (cells_i2 w3 0 2) (by decide)
  go_wp2_with (go_at_call 23; refine cE.mono ?_; clear cE; rintro e w4 ⟨rfl, hg4⟩)
  have H4 := hid (Grew.trans (Only.alloc (F := fun _ => False) w3 (.cells #[.int .i64 0, .int .i64 2] 3)) hg4)
  clear hg4
  have cB := breaks_is b 3 V4 _ (some ⟨w4.heap.size, 0, none⟩) 1 [1] _ ((H2.out.1.grew (Grew.trans H3.out.2 H4.out)).grew (Only.alloc _ _)) (cells_i1 w4 1) (by decide) (by decide) validV [] cycV3 true (by decide)
  go_wp2_with (go_at_call 54; refine cB.mono ?_; clear cB; rintro e w5 ⟨rfl, hg5⟩)
  have H5 := hid (Grew.trans (Only.alloc (F := fun _ => False) w4 (.cells #[.int .i64 1] 3)) hg5)
  clear hg5
  have cB := breaks_is b 3 V4 _ (some ⟨w5.heap.size, 0, none⟩) 1 [0] _ ((H2.out.1.grew (Grew.trans H3.out.2 (Grew.trans H4.out H5.out))).grew (Only.alloc _ _)) (cells_i1 w5 0) (by decide) (by decide) validV [1, 2] cycV1 false (by decide)
  go_wp2_with (go_at_call 54; refine cB.mono ?_; clear cB; rintro e w6 ⟨rfl, hg6⟩)
  have H6 := hid (Grew.trans (Only.alloc (F := fun _ => False) w5 (.cells #[.int .i64 0] 3)) hg6)
  clear hg6
  have cK := cost_at (some ⟨w6.heap.size, 0, none⟩) 3 W3 A3 c3 [0, 2] _ (cells_i3 w6 5 7 6) ((H3.out.1.grew (Grew.trans H4.out (Grew.trans H5.out H6.out))).grew (Only.alloc _ _)) rightV (by decide)
  rw [sumV] at cK
  go_wp2_with (go_at_call 55; refine cK.mono ?_; clear cK; rintro e w7 ⟨rfl, hg7⟩)
  have H7 := hid (Grew.trans (Only.alloc (F := fun _ => False) w6 (.cells #[.int .i64 5, .int .i64 7, .int .i64 6] 3)) hg7)
  clear hg7
  go_ret
  exact ⟨rfl, Grew.trans (Fresh.grew H2.out.2) (Grew.trans H3.out.2 (Grew.trans H4.out (Grew.trans H5.out (Grew.trans H6.out H7.out))))⟩
end Go.Proofs.Ytlpkolmaklnffaa
