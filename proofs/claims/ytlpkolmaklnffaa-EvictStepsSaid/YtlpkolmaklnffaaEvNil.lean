/- The walks of evict's functions at a nil graph. -/
import Derived.Test.YtlpkolmaklnffaaEvE
namespace Go.Proofs.Ytlpkolmaklnffaa
open Go.RowKit Go.MapKept

set_option maxRecDepth 100000 in
set_option maxHeartbeats 1000000 in
theorem cyclic_nil (A : Option Addr) (c m : Nat) (w : World) : Calls Try.prog 48 #[.pointer none, .slice A m c] w fun e w' => e = .returned (.slice none 0 0) ∧ Grew w w' := by
  go_enter Try.func48, Try.ntmps48
  go_wp2_with fail
  go_at_call 73
  refine (remove_nil A c m w).mono ?_
  rintro e w1 ⟨md, rfl, hM, hg1⟩
  have H1 := hid hg1
  clear hM hg1
  go_wp2_with (first
    | (go_at_call 35; refine (without_nil A c m w1).mono ?_; rintro e w2 ⟨rfl, rfl⟩)
    | (go_at_call 37; refine (len_nil _).mono ?_; rintro e w3 ⟨rfl, rfl⟩))
  go_loopw [8, 23] (fun ov i wr => ov = .slice none 0 0 ∧ i = .int .i64 0 ∧ wr = w1) (fun _ _ _ => 0)
  case atStart => exact ⟨rfl, rfl, rfl⟩
  case round =>
    obtain ⟨rfl, rfl, rfl⟩ := hrel
    go_wp2
    go_ret
    exact ⟨rfl, H1.out⟩
theorem smallest_nil (f : Value) (w : World) : Calls Try.prog 94 #[.slice none 0 0, f] w fun e w' => e = .returned (.tuple #[.int .i64 0, .bool false]) ∧ w = w' := by
  go_enter Try.func94, Try.ntmps94
  go_wp2_with fail
  go_loopw [6, 11] (fun bv i wr => i = .int .i64 0 ∧ bv = .int .i64 0 ∧ wr = w) (fun _ _ _ => 0)
  case atStart => exact ⟨rfl, rfl, rfl⟩
  case round =>
    obtain ⟨rfl, rfl, rfl⟩ := hrel
    go_wp2
    go_ret2
    exact ⟨rfl, rfl⟩
set_option maxRecDepth 100000 in
theorem next_nil (Aw : Option Addr) (cw kw : Nat) (Ar : Option Addr) (cr kr : Nat) (Ak : Option Addr) (ck kk : Nat) (w : World) :
    Calls Try.prog 79 #[.pointer none, .slice Aw kw cw, .slice Ar kr cr, .slice Ak kk ck] w fun e w' => e = .returned (.tuple #[.int .i64 0, .bool false, .bool false]) ∧ Grew w w' := by
  go_enter Try.func79, Try.ntmps79
  go_wp2_with (first
    | (go_at_call 48; refine (cyclic_nil Ar cr kr _).mono ?_; rintro e w1 ⟨rfl, hg1⟩; have H1 := hid (Grew.trans (Only.alloc (F := fun _ => False) w (.cells #[.slice Aw kw cw] 29)) (Grew.trans (Only.alloc _ _) hg1)); clear hg1)
    | (go_at_call 60; refine (delete_nil _ _ _).mono ?_; rintro e w2 ⟨rfl, rfl⟩)
    | (go_at_call 94; refine (smallest_nil _ _).mono ?_; rintro e w3 ⟨rfl, rfl⟩))
  go_ret3
  exact ⟨rfl, H1.out⟩
set_option maxRecDepth 100000 in
theorem step_nil (B0 B1 B2 B3 : Nat) (Aw : Option Addr) (cw kw : Nat) (Ak : Option Addr) (ck kk : Nat) (W : World) (c0 : W.cell? ⟨B0, 0, none⟩ = some (.pointer none)) (c1 : W.cell? ⟨B1, 0, none⟩ = some (.slice Aw kw cw)) (c2 : W.cell? ⟨B2, 0, none⟩ = some (.slice Ak kk ck)) (c3 : W.cell? ⟨B3, 0, none⟩ = some (.slice none 0 0)) :
    Calls Try.prog 78 #[.pointer (some ⟨B0, 0, none⟩), .pointer (some ⟨B1, 0, none⟩), .pointer (some ⟨B3, 0, none⟩), .pointer (some ⟨B2, 0, none⟩)] W fun e w' => e = .returned (.tuple #[.bool false, .bool false]) ∧ Grew W w' := by
  go_enter Try.func78, Try.ntmps78
  go_wp2_with (go_at_call 79; refine (next_nil Aw cw kw none 0 0 Ak ck kk W).mono ?_; rintro e w1 ⟨rfl, hg1⟩)
  go_ret2
  exact ⟨rfl, hg1⟩
theorem boxes_nil (w : World) (Aw : Option Addr) (cw kw : Nat) (Ak : Option Addr) (ck kk : Nat) :
    ∀ W, W = (((w.alloc (.cells #[.pointer none] 23)).alloc (.cells #[.slice Aw kw cw] 29)).alloc (.cells #[.slice Ak kk ck] 29)).alloc (.cells #[.slice none 0 0] 29) →
    Grew w W ∧ W.cell? ⟨w.heap.size, 0, none⟩ = some (.pointer none) ∧ W.cell? ⟨w.heap.size + 1, 0, none⟩ = some (.slice Aw kw cw) ∧ W.cell? ⟨w.heap.size + 2, 0, none⟩ = some (.slice Ak kk ck) ∧ W.cell? ⟨w.heap.size + 3, 0, none⟩ = some (.slice none 0 0) := by
  rintro W rfl
  have g1 := Only.alloc (F := fun _ => False) w (.cells #[.pointer none] 23)
  have h1 := heap_alloc_new w (.cells #[.pointer none] 23)
  generalize hw1 : w.alloc (.cells #[.pointer none] 23) = w1 at *
  have s1 : w1.heap.size = w.heap.size + 1 := by rw [← hw1]; simp
  have g2 := Only.alloc (F := fun _ => False) w1 (.cells #[.slice Aw kw cw] 29)
  have h2 := heap_alloc_new w1 (.cells #[.slice Aw kw cw] 29)
  generalize hw2 : w1.alloc (.cells #[.slice Aw kw cw] 29) = w2 at *
  have s2 : w2.heap.size = w.heap.size + 2 := by rw [← hw2]; simp; omega
  have g3 := Only.alloc (F := fun _ => False) w2 (.cells #[.slice Ak kk ck] 29)
  have h3 := heap_alloc_new w2 (.cells #[.slice Ak kk ck] 29)
  generalize hw3 : w2.alloc (.cells #[.slice Ak kk ck] 29) = w3 at *
  have s3 : w3.heap.size = w.heap.size + 3 := by rw [← hw3]; simp; omega
  have g4 := Only.alloc (F := fun _ => False) w3 (.cells #[.slice none 0 0] 29)
  have h4 := heap_alloc_new w3 (.cells #[.slice none 0 0] 29)
  generalize w3.alloc (.cells #[.slice none 0 0] 29) = w4 at *
  rw [s1] at h2
  rw [s2] at h3
  rw [s3] at h4
  exact ⟨Grew.trans g1 (Grew.trans g2 (Grew.trans g3 g4)), (Grew.trans g2 (Grew.trans g3 g4)).cell (cell_of_one h1) (fun h => h), (Grew.trans g3 g4).cell (cell_of_one h2) (fun h => h), g4.cell (cell_of_one h3) (fun h => h), cell_of_one h4⟩
set_option maxRecDepth 100000 in
set_option maxHeartbeats 1000000 in
theorem choose_nil (Aw : Option Addr) (cw kw : Nat) (w : World) :
    Calls Try.prog 52 #[.pointer none, .slice Aw kw cw, .slice none 0 0] w fun e w' => e = .returned (.tuple #[.slice none 0 0, .bool true]) ∧ Grew w w' := by
  have hmf : ∀ (fn : Fn) (first cap : Array Value) (w : World), (Instr.makeFunc fn first cap).run Try.prog w = .ok (.func fn first cap) w := fun _ _ _ _ => rfl
  have HB := hid (boxes_nil w Aw cw kw none 0 0 _ rfl)
  go_enter Try.func52, Try.ntmps52
  go_wp2_with fail
  go_at_call 78
  clear hmf
  generalize (((w.alloc (.cells #[.pointer none] 23)).alloc (.cells #[.slice Aw kw cw] 29)).alloc (.cells #[.slice none 0 0] 29)).alloc (.cells #[.slice none 0 0] 29) = W0 at *
  refine (step_nil w.heap.size (w.heap.size + 1) (w.heap.size + 2) (w.heap.size + 3) Aw cw kw none 0 0 W0 HB.out.2.1 HB.out.2.2.1 HB.out.2.2.2.1 HB.out.2.2.2.2).mono ?_
  rintro e w1 ⟨rfl, hg1⟩
  have k3 := hg1.cell HB.out.2.2.2.2 (fun h => h)
  have H1 := hid (Grew.trans HB.out.1 hg1)
  clear hg1
  go_wp2_with fail
  go_loopw [10, 11] (fun ov cv wr => ov = .bool false ∧ cv = .bool false ∧ wr = w1) (fun _ _ _ => 0)
  case atStart => exact ⟨rfl, rfl, rfl⟩
  case round =>
    obtain ⟨rfl, rfl, rfl⟩ := hrel
    go_wp2
    go_ret2
    exact ⟨rfl, H1.out⟩
theorem breaks_nil (A : Option Addr) (c m : Nat) (w : World) : Calls Try.prog 54 #[.pointer none, .slice A m c] w fun e w' => e = .returned (.bool true) ∧ Grew w w' := by
  go_enter Try.func54, Try.ntmps54
  go_wp2_with (go_at_call 40; refine (order_nil A c m w).mono ?_; rintro e w1 ⟨rfl, hg1⟩)
  go_ret
  exact ⟨rfl, hg1⟩
set_option maxRecDepth 100000 in
theorem needed_nil (A : Option Addr) (c m : Nat) (w : World) : Calls Try.prog 59 #[.pointer none, .slice A m c] w fun e w' => e = .returned (.slice none 0 0) ∧ Grew w w' := by
  have h0 := cell_of_one (heap_alloc_new w (.cells #[.pointer none] 23))
  have HG0 := hid (Only.alloc (F := fun _ => False) w (.cells #[.pointer none] 23))
  have HC0 := hid h0
  clear h0
  go_enter Try.func59, Try.ntmps59
  go_wp2_with fail
  go_at_call 54
  generalize w.alloc (.cells #[.pointer none] 23) = W0 at *
  refine (breaks_nil A c m W0).mono ?_
  rintro e w1 ⟨rfl, hg1⟩
  have k0 := hg1.cell HC0.out (fun h => h)
  have H1 := hid (Grew.trans HG0.out hg1)
  clear hg1
  go_wp2_with (go_at_call 37; refine (len_nil _).mono ?_; rintro e w3 ⟨rfl, rfl⟩)
  go_loopw [5, 20] (fun ov i wr => ov = .slice none 0 0 ∧ i = .int .i64 0 ∧ wr = w1) (fun _ _ _ => 0)
  case atStart => exact ⟨rfl, rfl, rfl⟩
  case round =>
    obtain ⟨rfl, rfl, rfl⟩ := hrel
    go_wp2
    go_ret
    exact ⟨rfl, H1.out⟩
end Go.Proofs.Ytlpkolmaklnffaa
