/- The walks of package digraph: New, Len, vertex, Size, Has. -/
import Derived.Test.YtlpkolmaklnffaaGraph
import Derived.BigQuiet
import Derived.Deep.QuietTactic
namespace Go.Proofs.Ytlpkolmaklnffaa
open Go.RowKit Go.MapKept

theorem zeroBool (w : World) : (zeroValue 4).run Try.prog w = .ok (.bool false) w := by kernel_rfl
theorem zeroInts (w : World) : (zeroValue 29).run Try.prog w = .ok (.slice none 0 0) w := by kernel_rfl

set_option maxHeartbeats 400000 in
theorem new_ok (n : Int) (w : World) (h0 : 0 ≤ n) (h1 : n ≤ 1048576) :
    Calls Try.prog 27 #[.int .i64 n] w fun e w' => ∃ b, e = .returned (.pointer (some ⟨b, 0, none⟩)) ∧ IsGraph w' (fun k => w.heap.size ≤ k ∧ k < w'.heap.size) b n [] ∧ Grew w w' := by
  have h2 : decide (n < 0) = false := by simp; omega
  have h3 : decide (1048576 < n) = false := by simp; omega
  have hmm := @run_makeMap Try.prog
  have HG := hid (IsGraph.new h0 h1 w)
  go_enter Try.func27, Try.ntmps27
  go_wp2
  go_ret
  refine ⟨_, rfl, HG.out.mono (fun i _ hi => ⟨hi.1, by simp; omega⟩), ?_⟩
  exact (((Only.alloc w _).trans (Only.alloc _ _) (fun _ _ hf => hf)).trans (Only.alloc _ _) (fun _ _ hf => hf)).trans (Only.alloc _ _) (fun _ _ hf => hf)

set_option maxHeartbeats 400000 in
theorem new_nil (n : Int) (w : World) (h : n < 0 ∨ 1048576 < n) :
    Calls Try.prog 27 #[.int .i64 n] w fun e w' => e = .returned (.pointer none) ∧ w = w' := by
  by_cases h0 : n < 0
  · have h2 : decide (n < 0) = true := by simp; omega
    go_enter Try.func27, Try.ntmps27
    go_wp2
    go_ret
    exact ⟨rfl, rfl⟩
  · have h2 : decide (n < 0) = false := by simp; omega
    have h3 : decide (1048576 < n) = true := by simp; omega
    go_enter Try.func27, Try.ntmps27
    go_wp2
    go_ret
    exact ⟨rfl, rfl⟩

set_option maxHeartbeats 400000 in
theorem len_nil (w : World) : Calls Try.prog 37 #[.pointer none] w fun e w' => e = .returned (.int .i64 0) ∧ w = w' := by
  go_enter Try.func37, Try.ntmps37
  go_wp2
  go_ret
  exact ⟨rfl, rfl⟩
set_option maxHeartbeats 400000 in
theorem len_at (b : Nat) (n : Int) (w : World) (hc : w.cell? ⟨b, 0, none⟩ = some (.int .i64 n)) : Calls Try.prog 37 #[.pointer (some ⟨b, 0, none⟩)] w fun e w' => e = .returned (.int .i64 n) ∧ w = w' := by
  go_enter Try.func37, Try.ntmps37
  go_wp2
  go_ret
  exact ⟨rfl, rfl⟩

def inRange (n v : Int) : Bool := decide (0 ≤ v ∧ v < n)
set_option maxHeartbeats 400000 in
theorem vertex_at (b : Nat) (n v : Int) (w : World) (hc : w.cell? ⟨b, 0, none⟩ = some (.int .i64 n)) : Calls Try.prog 68 #[.pointer (some ⟨b, 0, none⟩), .int .i64 v] w fun e w' => e = .returned (.bool (inRange n v)) ∧ w = w' := by
  by_cases h0 : 0 ≤ v
  · have h1 : decide (0 ≤ v) = true := by simpa using h0
    have hr : inRange n v = decide (v < n) := by simp [inRange, h0]
    have HR := hid hr
    clear hr
    go_enter Try.func68, Try.ntmps68
    go_wp2_with (go_at_call 37; refine (len_at _ _ _ hc).mono ?_; rintro e w' ⟨rfl, rfl⟩)
    go_ret
    exact ⟨by rw [HR.out]; rfl, rfl⟩
  · have h1 : decide (0 ≤ v) = false := by simpa using h0
    have hr : inRange n v = false := by simp [inRange, h0]
    have HR := hid hr
    clear hr
    go_enter Try.func68, Try.ntmps68
    go_wp2
    go_ret
    exact ⟨by rw [HR.out]; rfl, rfl⟩
set_option maxHeartbeats 400000 in
theorem vertex_nil (v : Int) (w : World) : Calls Try.prog 68 #[.pointer none, .int .i64 v] w fun e w' => e = .returned (.bool false) ∧ w = w' := by
  by_cases h0 : 0 ≤ v
  · have h1 : decide (0 ≤ v) = true := by simpa using h0
    have h2 : decide (v < 0) = false := by simp; omega
    go_enter Try.func68, Try.ntmps68
    go_wp2_with (go_at_call 37; refine (len_nil _).mono ?_; rintro e w' ⟨rfl, rfl⟩)
    go_ret
    exact ⟨rfl, rfl⟩
  · have h1 : decide (0 ≤ v) = false := by simpa using h0
    go_enter Try.func68, Try.ntmps68
    go_wp2
    go_ret
    exact ⟨rfl, rfl⟩
end Go.Proofs.Ytlpkolmaklnffaa
