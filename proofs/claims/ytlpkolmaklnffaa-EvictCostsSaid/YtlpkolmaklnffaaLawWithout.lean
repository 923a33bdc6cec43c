/- The walk of the law DigraphWithout. -/
import Derived.Test.YtlpkolmaklnffaaWithout
namespace Go.Proofs.Ytlpkolmaklnffaa
open Go.RowKit Go.MapKept

set_option maxRecDepth 100000 in
set_option maxHeartbeats 1000000 in
theorem lawwithout_big (n : Int) (A : Option Addr) (c m : Nat) (B : Option Addr) (cb k : Nat) (w : World) (h : n < 0 ∨ 30 < n ∨ 150 < m) :
    Calls Try.prog 7 #[.int .i64 n, .slice A m c, .slice B k cb] w fun e w' => e = .returned (.bool true) ∧ Grew w w' := by
  go_enter Try.func7, Try.ntmps7
  go_wp2_with (first
    | (go_at_call 21; refine (make_big n A c m w h).mono ?_; rintro e w1 ⟨rfl, rfl⟩)
    | (go_at_call 22; refine (alive_at w).mono ?_; rintro e w2 ⟨rfl, hg⟩))
  go_ret
  exact ⟨rfl, hg⟩
set_option maxRecDepth 100000 in
set_option maxHeartbeats 1000000 in
theorem lawwithout_many (N : Nat) (A : Option Addr) (c : Nat) (l : List (Int × Int)) (B : Option Addr) (cb k : Nat) (w : World) (h1 : N ≤ 30) (hm : l.length ≤ 150) (hl : SlE w A l) (hlo : ∀ e ∈ l, okE e) (hk : 60 < k) :
    Calls Try.prog 7 #[.int .i64 N, .slice A l.length c, .slice B k cb] w fun e w' => e = .returned (.bool true) ∧ Grew w w' := by
  have h6 : decide ((60 : Int) < (k : Int)) = true := by simp; omega
  have HL := hid (And.intro hl hlo)
  clear hl hlo
  go_enter Try.func7, Try.ntmps7
  go_wp2_with (first
    | (go_at_call 21; refine (make_at N A c l w (by omega) (by omega) hm HL.out.1 HL.out.2).mono ?_; rintro e w1 ⟨b, b2, rfl, hG, hR, hg1⟩; have H1 := hid hg1; clear hG hR hg1)
    | (go_at_call 22; refine (alive_at _).mono ?_; rintro e w2 ⟨rfl, hg⟩))
  go_ret
  exact ⟨rfl, Grew.trans H1.out hg⟩
theorem cells2 (w : World) : SlE (w.alloc (.cells #[.int .i64 0, .int .i64 1, .int .i64 1, .int .i64 0] 41)) (some ⟨w.heap.size, 0, none⟩) [(0, 1), (1, 0)] := by
  refine fun _ => ⟨_, 0, rfl, fun j hj => ?_⟩
  have h := heap_alloc_new w (.cells #[.int .i64 0, .int .i64 1, .int .i64 1, .int .i64 0] 41)
  have hj' : j < 2 := hj
  match j, hj' with
  | 0, _ => exact ⟨cell_of_row _ _ _ _ _ _ h, cell_of_row _ _ _ _ _ _ h⟩
  | 1, _ => exact ⟨cell_of_row _ _ _ _ _ _ h, cell_of_row _ _ _ _ _ _ h⟩
theorem ok2 : ∀ e ∈ ([(0, 1), (1, 0)] : List (Int × Int)), okE e := by
  intro e he
  simp at he
  rcases he with rfl | rfl <;> exact ⟨⟨by decide, by decide⟩, ⟨by decide, by decide⟩⟩
set_option maxRecDepth 100000 in
set_option maxHeartbeats 1000000 in
theorem lawwithout_at (N : Nat) (A : Option Addr) (c : Nat) (l : List (Int × Int)) (B : Option Addr) (cb : Nat) (xs : List Int) (w : World) (h1 : N ≤ 30) (hm : l.length ≤ 150) (hl : SlE w A l) (hlo : ∀ e ∈ l, okE e) (hx : SlI w B xs) (hk : xs.length ≤ 60) :
    Calls Try.prog 7 #[.int .i64 N, .slice A l.length c, .slice B xs.length cb] w fun e w' => e = .returned (.bool true) ∧ Grew w w' := by
  have h6 : decide ((60 : Int) < (xs.length : Int)) = false := by simp; omega
  have HE := hid (addAll_length (N : Int) [] l)
  have HL := hid (And.intro hl (And.intro hlo hx))
  clear hl hlo hx
  go_enter Try.func7, Try.ntmps7
  go_wp2_with (go_at_call 21; refine (make_at N A c l w (by omega) (by omega) hm HL.out.1 HL.out.2.1).mono ?_; rintro e w1 ⟨b, b2, rfl, hG, hR, hg⟩)
  generalize hEE : addAll (N : Int) [] l = E at *
  have hfew : E.length ≤ 1048576 := by have := HE.out.2; simp at this; omega
  have H1 := hid (And.intro hG (And.intro hR (And.intro hg hfew)))
  clear hG hR hg hEE hfew
  go_wp2_with (go_at_call 35; refine (without_at b N E _ B cb xs w1 H1.out.1 (HL.out.2.2.grew H1.out.2.2.1) (by omega) H1.out.2.2.2).mono ?_; rintro e w2 ⟨bh, E2, rfl, hG2, hp2, hg2⟩)
  have H2 := hid (And.intro hG2 (And.intro hp2 hg2))
  clear hG2 hp2 hg2
  go_wp2_with (go_at_call 36; refine (rwithout_at b2 N E _ B cb xs w2 (H1.out.2.1.grew H2.out.2.2) ((HL.out.2.2.grew H1.out.2.2.1).grew H2.out.2.2) (by omega) H1.out.2.2.2).mono ?_; rintro e w3 ⟨bh2, rfl, hR3, hg3⟩)
  have H3 := hid (And.intro hR3 hg3)
  clear hR3 hg3
  have hl2 : E2.length ≤ 1048576 := by have h1 := H2.out.2.1.length_eq; have h2 := cut_length E xs; have h3 := H1.out.2.2.2; omega
  have HL2 := hid hl2
  clear hl2
  have cS := same_at bh bh2 N E2 (cut E xs) _ _ w3 (H2.out.1.grew H3.out.2) H3.out.1 (fun e => H2.out.2.1.mem_iff) H2.out.2.1.length_eq (by omega) HL2.out
  go_wp2_with (go_at_call 32; with_reducible refine cS.mono ?_; clear cS; rintro e w4 ⟨rfl, hg4⟩)
  have H4 := hid hg4
  clear hg4
  have cS := same_at b b2 N E E _ _ w4 (((H1.out.1.grew H2.out.2.2).grew H3.out.2).grew H4.out) (((H1.out.2.1.grew H2.out.2.2).grew H3.out.2).grew H4.out) (fun _ => Iff.rfl) rfl (by omega) H1.out.2.2.2
  go_wp2_with (go_at_call 32; with_reducible refine cS.mono ?_; clear cS; rintro e w5 ⟨rfl, hg5⟩)
  have H5 := hid hg5
  clear hg5
  go_wp2_with (go_at_call 28; refine (add_at bh N E2 _ _ 2 [(0, 1), (1, 0)] _ ((((H2.out.1.grew H3.out.2).grew H4.out).grew H5.out).grew (Only.alloc _ _)) (cells2 w5) ok2 (by have := HL2.out; simp; omega) (fun blk off e h => by cases e; have a1 := H3.out.2.size; have a2 := H4.out.size; have a3 := H5.out.size; omega)).mono ?_; rintro e w6 ⟨rfl, hG6, hO6⟩)
  have hg15 : Grew w1 (w5.alloc (.cells #[.int .i64 0, .int .i64 1, .int .i64 1, .int .i64 0] 41)) := Grew.trans H2.out.2.2 (Grew.trans H3.out.2 (Grew.trans H4.out (Grew.trans H5.out (Only.alloc _ _))))
  have hGf := (H1.out.1.grew hg15).only hO6 (fun i hi hf => by omega)
  have hRf := (H1.out.2.1.grew hg15).only hO6 (fun i hi hf => by omega)
  have hOf : Only (fun i => w1.heap.size ≤ i) w1 w6 := (Grew.to hg15).trans (hO6.mono (G := fun i => w1.heap.size ≤ i) (fun i _ hi => hi.1)) (fun _ _ h => h)
  have H6 := hid (And.intro hGf (And.intro hRf (Fresh.grew hOf)))
  clear hG6 hO6 hg15 hGf hRf hOf
  go_wp2_with (go_at_call 22; refine (alive_at w6).mono ?_; rintro e w7 ⟨rfl, hg7⟩)
  have H7 := hid hg7
  clear hg7
  have cS := same_at b b2 N E E _ _ w7 (H6.out.1.grew H7.out) (H6.out.2.1.grew H7.out) (fun _ => Iff.rfl) rfl (by omega) H1.out.2.2.2
  go_wp2_with (go_at_call 32; with_reducible refine cS.mono ?_; clear cS; rintro e w8 ⟨rfl, hg8⟩)
  go_ret
  exact ⟨rfl, Grew.trans H1.out.2.2.1 (Grew.trans H6.out.2.2 (Grew.trans H7.out hg8))⟩
end Go.Proofs.Ytlpkolmaklnffaa
