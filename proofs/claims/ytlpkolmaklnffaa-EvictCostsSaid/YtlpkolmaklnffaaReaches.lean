/- The walk of the law DigraphReaches. -/
import Derived.Test.YtlpkolmaklnffaaAlive
namespace Go.Proofs.Ytlpkolmaklnffaa
open Go.RowKit Go.MapKept

theorem path_from {E : List (Int × Int)} {n v x : Int} (hE : Valid n E) (p : Path E v x) : 0 ≤ v ∧ v < n := by
  induction p with
  | one e => exact (hE _ e).1
  | more p e ih => exact ih
theorem reach_out {E : List (Int × Int)} {n v : Int} (hE : Valid n E) (hv : ¬ (0 ≤ v ∧ v < n)) : IsReach E v [] :=
  ⟨List.Pairwise.nil, fun x => ⟨fun h => by simp at h, fun p => absurd (path_from hE p) hv⟩⟩
theorem rreach_is (b N : Nat) (v : Int) (E : List (Int × Int)) (F : Nat → Prop) (w : World) (hG : IsRef w F b N E) (hN : N ≤ 1048576) (hE : Valid N E) (xs : List Int) (hx : IsReach E v xs) :
    Calls Try.prog 25 #[.pointer (some ⟨b, 0, none⟩), .int .i64 v] w fun e w' => ∃ A c, e = .returned (.slice A xs.length c) ∧ SlI w' A xs ∧ Grew w w' := by
  refine (rreach_at b N v E F w hG hN hE).mono ?_
  rintro e w' ⟨r, ys, rfl, hn, hr, hg⟩
  obtain rfl := hr.unique hx
  obtain ⟨A, c, rfl, hi, _⟩ := hn.form
  exact ⟨A, c, rfl, hi, hg⟩
theorem reach_ex (b : Nat) (n v : Int) (E : List (Int × Int)) (F : Nat → Prop) (w : World) (hG : IsGraph w F b n E) (hv : okI v) (hfew : E.length ≤ 1048576) :
    Calls Try.prog 24 #[.pointer (some ⟨b, 0, none⟩), .int .i64 v] w fun e w' => ∃ A c xs, e = .returned (.slice A xs.length c) ∧ SlI w' A xs ∧ IsReach E v xs ∧ xs.length ≤ 9223372036854775807 ∧ Grew w w' := by
  refine (reach_at b n v E F w hG hv hfew).mono ?_
  rintro e w' ⟨r, ys, rfl, hn, hr, hg⟩
  obtain ⟨A, c, rfl, hi, h1, h2, _⟩ := hn.form
  exact ⟨A, c, ys, rfl, hi, hr, by unfold maxLen at h2; omega, hg⟩
theorem equal_same (A B : Option Addr) (c d : Nat) (xs : List Int) (w : World) (hx : SlI w A xs) (hy : SlI w B xs) (h1 : xs.length ≤ 9223372036854775807) :
    Calls Try.prog 23 #[.slice A xs.length c, .slice B xs.length d] w fun e w' => e = .returned (.bool true) ∧ Grew w w' := by
  refine (equal_at A B c d xs xs w hx hy h1 h1).mono ?_
  rintro e w' ⟨rfl, q, rfl⟩
  exact ⟨by simp, Only.drewN _ _⟩
set_option maxRecDepth 100000 in
set_option maxHeartbeats 1000000 in
theorem reaches_big (n : Int) (A : Option Addr) (c m : Nat) (w : World) (h : n < 0 ∨ 30 < n ∨ 150 < m) :
    Calls Try.prog 3 #[.int .i64 n, .slice A m c] w fun e w' => e = .returned (.bool true) ∧ Grew w w' := by
  go_enter Try.func3, Try.ntmps3
  go_wp2_with (first
    | (go_at_call 21; refine (make_big n A c m w h).mono ?_; rintro e w1 ⟨rfl, rfl⟩)
    | (go_at_call 22; refine (alive_at w).mono ?_; rintro e w2 ⟨rfl, hg⟩))
  go_ret
  exact ⟨rfl, hg⟩
set_option maxRecDepth 100000 in
set_option maxHeartbeats 1000000 in
theorem reaches_at (N : Nat) (A : Option Addr) (c : Nat) (l : List (Int × Int)) (w : World) (h1 : N ≤ 30) (hm : l.length ≤ 150) (hl : SlE w A l) (hlo : ∀ e ∈ l, okE e) :
    Calls Try.prog 3 #[.int .i64 N, .slice A l.length c] w fun e w' => e = .returned (.bool true) ∧ Grew w w' := by
  have HE := hid (addAll_length (N : Int) [] l)
  go_enter Try.func3, Try.ntmps3
  go_wp2_with (go_at_call 21; refine (make_at N A c l w (by omega) (by omega) hm hl hlo).mono ?_; rintro e w1 ⟨b, b2, rfl, hG, hR, hg⟩)
  generalize hEE : addAll (N : Int) [] l = E at *
  have H1 := hid (And.intro hG (And.intro hR (And.intro hG.2.2 hg)))
  clear hG hR hg hl hlo hEE
  go_wp2_with fail
  go_loopw [20] (fun i wr => ∃ k : Nat, k ≤ N ∧ i = .int .i64 k ∧ Grew w1 wr) (fun i _ => N - (intOf i).toNat)
  case atStart => exact ⟨0, by omega, rfl, Only.refl _ _⟩
  case round =>
    obtain ⟨k, hk, rfl, hO⟩ := hrel
    have HO := hid hO
    clear hO
    by_cases hlt : k < N
    · have hb0 : (k : Int) < (N : Int) := by omega
      go_wp2_with (go_at_call 24; go_loud (refine (reach_ex b N k E _ wr (H1.out.1.grew HO.out) ⟨by omega, by omega⟩ (by have := HE.out.2; simp at this; omega)).mono ?_; rintro e w2 ⟨A2, c2, xs, rfl, hi2, hr2, hx2, hg2⟩))
      have H2 := hid (And.intro hi2 (And.intro hr2 (And.intro hx2 hg2)))
      clear hi2 hr2 hx2 hg2
      go_wp2_with (go_at_call 25; go_loud (refine (rreach_is b2 N k E _ w2 ((H1.out.2.1.grew HO.out).grew H2.out.2.2.2) (by omega) H1.out.2.2.1 xs H2.out.2.1).mono ?_; rintro e w3 ⟨A3, c3, rfl, hi3, hg3⟩))
      have H3 := hid (And.intro hi3 hg3)
      clear hi3 hg3
      go_wp2_with (go_at_call 23; go_loud (refine (equal_same A2 A3 c2 c3 xs w3 (H2.out.1.grew H3.out.2) H3.out.1 H2.out.2.2.1).mono ?_; rintro e w4 ⟨rfl, hg4⟩))
      have H4 := hid hg4
      clear hg4
      go_roundw
      case rel => exact ⟨k + 1, by omega, by go_num, Grew.trans HO.out (Grew.trans H2.out.2.2.2 (Grew.trans H3.out.2 H4.out))⟩
      case measure => simp [intOf]; omega
    · obtain rfl : k = N := by omega
      go_wp2_with (go_at_call 22; refine (alive_at wr).mono ?_; rintro e w2 ⟨rfl, hg2⟩)
      have H2 := hid hg2
      clear hg2
      have q1 : okI (-1) := ⟨by omega, by omega⟩
      have q2 : okI (k : Int) := ⟨by omega, by omega⟩
      have q3 : E.length ≤ 1048576 := by have := HE.out.2; simp at this; omega
      have q4 := reach_out (v := -1) H1.out.2.2.1 (by omega)
      have q5 := reach_out (v := (k : Int)) H1.out.2.2.1 (by omega)
      have q6 := (H1.out.1.grew HO.out).grew H2.out
      have c1 := reach_is b k (-1) E _ w2 q6 q1 q3 [] q4
      have HC := hid (fun w3 (h : Grew w2 w3) => reach_is b k k E _ w3 (q6.grew h) q2 q3 [] q5)
      clear q1 q2 q3 q4 q5 q6
      go_wp2_with (go_at_call 24; with_reducible refine c1.mono ?_; clear c1; rintro e w3 ⟨A3, c3, rfl, hi3, hg3⟩)
      clear hi3
      have c2 := HC.out w3 hg3
      have H3 := hid hg3
      clear hg3
      go_wp2_with (go_at_call 24; with_reducible refine c2.mono ?_; clear c2; rintro e w4 ⟨A4, c4, rfl, hi4, hg4⟩)
      have H4 := hid hg4
      clear hi4 hg4
      go_ret
      exact ⟨rfl, Grew.trans H1.out.2.2.2 (Grew.trans HO.out (Grew.trans H2.out (Grew.trans H3.out H4.out)))⟩
end Go.Proofs.Ytlpkolmaklnffaa
