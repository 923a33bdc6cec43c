/- The law package's alive. -/
import Derived.Test.YtlpkolmaklnffaaMk
namespace Go.Proofs.Ytlpkolmaklnffaa
open Go.RowKit Go.MapKept

def E3 : List (Int × Int) := [(0, 1), (1, 2), (2, 1)]
theorem reach3 (v : Int) (hv : v = 0 ∨ v = 1) : IsReach E3 v [1, 2] := by
  refine ⟨by simp, fun x => ⟨fun h => ?_, fun p => ?_⟩⟩
  · simp only [List.mem_cons, List.not_mem_nil, or_false] at h
    rcases hv with rfl | rfl <;> rcases h with rfl | rfl
    · exact .one (by simp [E3])
    · exact .more (.one (show (0, 1) ∈ E3 by simp [E3])) (by simp [E3])
    · exact .more (.one (show (1, 2) ∈ E3 by simp [E3])) (by simp [E3])
    · exact .one (by simp [E3])
  · induction p with
    | one e => simp [E3] at e ⊢; omega
    | more p e ih => simp [E3] at e ih ⊢; omega
theorem add3 : addAll 3 [] E3 = E3 := by decide
theorem cells3 (w : World) (b : Nat) (hb : w.heap.size = b) : SlE (w.alloc (.cells #[.int .i64 0, .int .i64 1, .int .i64 1, .int .i64 2, .int .i64 2, .int .i64 1] 41)) (some ⟨b, 0, none⟩) E3 := by
  subst hb
  refine fun _ => ⟨_, 0, rfl, fun j hj => ?_⟩
  have h := heap_alloc_new w (.cells #[.int .i64 0, .int .i64 1, .int .i64 1, .int .i64 2, .int .i64 2, .int .i64 1] 41)
  have hj' : j < 3 := hj
  match j, hj' with
  | 0, _ => exact ⟨cell_of_row _ _ _ _ _ _ h, cell_of_row _ _ _ _ _ _ h⟩
  | 1, _ => exact ⟨cell_of_row _ _ _ _ _ _ h, cell_of_row _ _ _ _ _ _ h⟩
  | 2, _ => exact ⟨cell_of_row _ _ _ _ _ _ h, cell_of_row _ _ _ _ _ _ h⟩
theorem cells12 (w : World) (b : Nat) (hb : w.heap.size = b) : SlI (w.alloc (.cells #[.int .i64 1, .int .i64 2] 3)) (some ⟨b, 0, none⟩) [1, 2] := by
  subst hb
  refine fun _ => ⟨_, 0, rfl, fun j hj => ?_⟩
  have h := heap_alloc_new w (.cells #[.int .i64 1, .int .i64 2] 3)
  have hj' : j < 2 := hj
  match j, hj' with
  | 0, _ => exact cell_of_row _ _ _ _ _ _ h
  | 1, _ => exact cell_of_row _ _ _ _ _ _ h
theorem ok3 : ∀ e ∈ E3, okE e := by
  intro e he
  simp [E3] at he
  rcases he with rfl | rfl | rfl <;> exact ⟨⟨by decide, by decide⟩, ⟨by decide, by decide⟩⟩
theorem IsGraph.n_cell {w : World} {F : Nat → Prop} {b : Nat} {n : Int} {E : List (Int × Int)} (h : IsGraph w F b n E) : w.cell? ⟨b, 0, none⟩ = some (.int .i64 n) := by
  obtain ⟨⟨me, mo, mi, KO, KI, g⟩, _⟩ := h
  exact cell_of_row _ _ 0 _ _ _ g.blk
theorem reach_is (b : Nat) (n v : Int) (E : List (Int × Int)) (F : Nat → Prop) (w : World) (hG : IsGraph w F b n E) (hv : okI v) (hfew : E.length ≤ 1048576) (xs : List Int) (hx : IsReach E v xs) :
    Calls Try.prog 24 #[.pointer (some ⟨b, 0, none⟩), .int .i64 v] w fun e w' => ∃ A c, e = .returned (.slice A xs.length c) ∧ SlI w' A xs ∧ Grew w w' := by
  refine (reach_at b n v E F w hG hv hfew).mono ?_
  rintro e w' ⟨r, ys, rfl, hn, hr, hg⟩
  obtain rfl := hr.unique hx
  obtain ⟨A, c, rfl, hi, _⟩ := hn.form
  exact ⟨A, c, rfl, hi, hg⟩
set_option maxRecDepth 100000 in
set_option maxHeartbeats 1000000 in
theorem alive_at (w : World) : Calls Try.prog 22 #[] w fun e w' => e = .returned (.bool true) ∧ Grew w w' := by
  go_enter Try.func22, Try.ntmps22
  go_wp2_with (go_at_call 27; refine (new_ok 3 w (by omega) (by omega)).mono ?_; rintro e w1 ⟨b, rfl, hG, hg1⟩)
  have H1 := hid (And.intro hG hg1)
  clear hG hg1
  go_wp2_with (go_at_call 28; refine (add_at b 3 [] _ (some ⟨w1.heap.size, 0, none⟩) 3 E3 _ (H1.out.1.grew (Only.alloc _ _)) (cells3 w1 _ rfl) ok3 (by simp [E3]) (fun blk off e h => by cases e; omega)).mono ?_; rintro e w2 ⟨he, hG2, hO2⟩; rw [add3] at he hG2; replace he : e = .returned (.int .i64 3) := he; subst he)
  have hs1 := H1.out.2.size
  have hO02 : Only (fun i => w.heap.size ≤ i) w w2 := (Grew.to (Grew.trans H1.out.2 (Only.alloc _ _))).trans hO2 (fun _ _ h => h.1)
  have H2 := hid (And.intro hG2 hO02)
  clear hG2 hO2 hO02 hs1
  go_wp2_with (go_at_call 24; go_loud (refine (reach_is b 3 0 E3 _ w2 H2.out.1 ⟨by decide, by decide⟩ (by decide) [1, 2] (reach3 0 (.inl rfl))).mono ?_; rintro e w3 ⟨A3, c3, rfl, hi3, hg3⟩))
  have H3 := hid (And.intro hi3 hg3)
  clear hi3 hg3
  go_wp2_with (go_at_call 23; go_loud (refine (equal_at A3 (some ⟨w3.heap.size, 0, none⟩) c3 2 [1, 2] [1, 2] _ (H3.out.1.grew (Only.alloc _ _)) (cells12 w3 _ rfl) (by decide) (by decide)).mono ?_; rintro e w4 ⟨rfl, q4, rfl⟩))
  have hG4 := (H2.out.1.grew H3.out.2).grew (Grew.trans (Only.alloc (F := fun _ => False) w3 (.cells #[.int .i64 1, .int .i64 2] 3)) (Only.drewN _ q4))
  have hg4 := Grew.trans H3.out.2 (Grew.trans (Only.alloc (F := fun _ => False) w3 (.cells #[.int .i64 1, .int .i64 2] 3)) (Only.drewN _ q4))
  have H4 := hid (And.intro hG4 hg4)
  clear hG4 hg4
  generalize hw4 : ((w3.alloc (.cells #[.int .i64 1, .int .i64 2] 3)).drewN q4) = w4 at *
  go_wp2_with (go_at_call 24; go_loud (refine (reach_is b 3 1 E3 _ w4 H4.out.1 ⟨by decide, by decide⟩ (by decide) [1, 2] (reach3 1 (.inr rfl))).mono ?_; rintro e w5 ⟨A5, c5, rfl, hi5, hg5⟩))
  have H5 := hid (And.intro hi5 hg5)
  clear hi5 hg5
  go_wp2_with (go_at_call 23; go_loud (refine (equal_at A5 (some ⟨w5.heap.size, 0, none⟩) c5 2 [1, 2] [1, 2] _ (H5.out.1.grew (Only.alloc _ _)) (cells12 w5 _ rfl) (by decide) (by decide)).mono ?_; rintro e w6 ⟨rfl, q6, rfl⟩))
  have hG6 := (H4.out.1.grew H5.out.2).grew (Grew.trans (Only.alloc (F := fun _ => False) w5 (.cells #[.int .i64 1, .int .i64 2] 3)) (Only.drewN _ q6))
  have hg6 := Grew.trans H5.out.2 (Grew.trans (Only.alloc (F := fun _ => False) w5 (.cells #[.int .i64 1, .int .i64 2] 3)) (Only.drewN _ q6))
  have hc6 := hG6.n_cell
  have H6 := hid (And.intro hG6 hg6)
  clear hG6 hg6
  generalize hw6 : ((w5.alloc (.cells #[.int .i64 1, .int .i64 2] 3)).drewN q6) = w6 at *
  go_wp2_with (first
    | (go_at_call 37; go_loud (refine (len_at b 3 w6 hc6).mono ?_; rintro e w7 ⟨rfl, rfl⟩))
    | (go_at_call 38; go_loud (refine (size_at b 3 E3 _ w6 H6.out.1).mono ?_; rintro e w7 ⟨he, rfl⟩; replace he : e = .returned (.int .i64 3) := he; subst he)))
  go_ret
  exact ⟨rfl, Grew.trans (Fresh.grew H2.out.2) (Grew.trans H4.out.2 H6.out.2)⟩
end Go.Proofs.Ytlpkolmaklnffaa
