/- topo.Sorted, topo.Cycle of a nil graph. -/
import Derived.Test.YtlpkolmaklnffaaTDepth
import Derived.Test.YtlpkolmaklnffaaTSorted
namespace Go.Proofs.Ytlpkolmaklnffaa
open Go.RowKit Go.MapKept

set_option maxRecDepth 100000 in
set_option maxHeartbeats 400000 in
theorem sorted_nil (w : World) : Calls Try.prog 45 #[.pointer none, .slice none 0 0] w fun e w' => e = .returned (.bool true) ∧ Grew w w' := by
  have hmm := @run_makeMap Try.prog
  go_enter Try.func45, Try.ntmps45
  go_wp2_with (go_at_call 37; refine (len_nil _).mono ?_; rintro e w1 ⟨rfl, rfl⟩)
  clear hmm
  have HG : Hid (Grew w (w.alloc (.map #[] 0))) := hid (Only.alloc _ _)
  generalize w.alloc (.map #[] 0) = w1 at *
  go_loopw [23] (fun i wr => i = .int .i64 0 ∧ wr = w1) (fun _ _ => 0)
  case atStart => exact ⟨rfl, rfl⟩
  case round =>
    obtain ⟨rfl, rfl⟩ := hrel
    go_wp2_with (go_at_call 37; refine (len_nil _).mono ?_; rintro e w1 ⟨rfl, rfl⟩)
    obtain ⟨wo, rfl⟩ : ∃ wo : World, wo = wr := ⟨_, rfl⟩
    go_loopw [34] (fun i wr => i = .int .i64 0 ∧ wr = wo) (fun _ _ => 0)
    case atStart => exact ⟨rfl, rfl⟩
    case round =>
      obtain ⟨rfl, rfl⟩ := hrel
      go_wp2
      go_ret
      exact ⟨rfl, HG.out⟩
set_option maxRecDepth 100000 in
set_option maxHeartbeats 400000 in
theorem cycle_nil (v : Int) (w : World) : Calls Try.prog 42 #[.pointer none, .int .i64 v, .slice none 0 0] w fun e w' => e = .returned (.slice none 0 0) ∧ Grew w w' := by
  have hmm := @run_makeMap Try.prog
  go_enter Try.func42, Try.ntmps42
  go_wp2_with fail
  go_step3
  go_wp2_with (first
    | (go_at_call 33; have cX : Calls Try.prog 33 #[.slice none 0 0, .int .i64 v] w (fun e w' => e = .returned (.bool false) ∧ w = w') := contains_is none 0 [] v w false (by simp) SlI.nil (by simp); with_reducible refine cX.mono ?_; clear cX; rintro e w2 ⟨rfl, rfl⟩)
    | (go_at_call 35; refine (without_nil _ _ _ _).mono ?_; rintro e w1 ⟨rfl, rfl⟩))
  go_wp2_with fail
  have hb1 := heap_new2 w (.cells #[.int .i64 v] 3) (.cells #[.slice (some ⟨w.heap.size, 0, none⟩) 1 1] 29)
  have hb2 := heap_new2' w (.cells #[.int .i64 v] 3) (.cells #[.slice (some ⟨w.heap.size, 0, none⟩) 1 1] 29)
  have kM : Grew ((w.alloc (.cells #[.int .i64 v] 3)).alloc (.cells #[.slice (some ⟨w.heap.size, 0, none⟩) 1 1] 29)) (((w.alloc (.cells #[.int .i64 v] 3)).alloc (.cells #[.slice (some ⟨w.heap.size, 0, none⟩) 1 1] 29)).alloc (.map #[] 0)) := Only.alloc _ _
  have hc1 := kM.cell (cell_of_row _ _ 0 _ _ _ hb1) (fun h => h)
  have hc2 := kM.cell (cell_of_row _ _ 0 _ _ _ hb2) (fun h => h)
  have HG : Hid (Grew w (((w.alloc (.cells #[.int .i64 v] 3)).alloc (.cells #[.slice (some ⟨w.heap.size, 0, none⟩) 1 1] 29)).alloc (.map #[] 0))) := hid (Grew.trans (Only.alloc _ _) (Grew.trans (Only.alloc _ _) (Only.alloc _ _)))
  simp at hc1 hc2
  have HC := hid (And.intro hc1 hc2)
  clear hb1 hb2 kM hc1 hc2
  go_step3
  go_wp2_with fail
  clear hmm
  generalize (((w.alloc (.cells #[.int .i64 v] 3)).alloc (.cells #[.slice (some ⟨w.heap.size, 0, none⟩) 1 1] 29)).alloc (.map #[] 0)) = w2 at *
  go_loopw [8] (fun pv wr => pv = .slice (some ⟨w.heap.size + 1, 0, none⟩) 1 1 ∧ wr = w2) (fun _ _ => 0)
  case atStart => exact ⟨rfl, rfl⟩
  case round =>
    obtain ⟨rfl, rfl⟩ := hrel
    have hc1 := HC.out.1
    have hc2 := HC.out.2
    go_wp2_with (first
      | (go_at_call 26; refine (out_nil _ _).mono ?_; rintro e w3 ⟨rfl, rfl⟩))
    obtain ⟨wo, rfl⟩ : ∃ wo : World, wo = wr := ⟨_, rfl⟩
    go_loopw [40] (fun i wr => i = .int .i64 0 ∧ wr = wo) (fun _ _ => 0)
    case atStart => exact ⟨rfl, rfl⟩
    case round =>
      obtain ⟨rfl, rfl⟩ := hrel
      go_wp2_with (go_at_call 37; refine (len_nil _).mono ?_; rintro e w4 ⟨rfl, rfl⟩)
      rw [Exit.noGoto_ret]
      go_ret
      exact ⟨rfl, HG.out⟩
end Go.Proofs.Ytlpkolmaklnffaa
