/- The walk of the law TopoCyclic. -/
import Derived.Test.YtlpkolmaklnffaaCyclic
import Derived.Test.YtlpkolmaklnffaaLTOrders
namespace Go.Proofs.Ytlpkolmaklnffaa
open Go.RowKit Go.MapKept

set_option maxRecDepth 100000 in
set_option maxHeartbeats 1000000 in
theorem tcyclic_big (n : Int) (A : Option Addr) (c m : Nat) (B : Option Addr) (cb k : Nat) (w : World) (h : n < 0 ∨ 30 < n ∨ 150 < m) :
    Calls Try.prog 13 #[.int .i64 n, .slice A m c, .slice B k cb] w fun e w' => e = .returned (.bool true) ∧ Grew w w' := by
  go_enter Try.func13, Try.ntmps13
  go_wp2_with (first
    | (go_at_call 21; refine (make_big n A c m w h).mono ?_; rintro e w1 ⟨rfl, rfl⟩)
    | (go_at_call 39; refine (talive_at w).mono ?_; rintro e w2 ⟨rfl, hg⟩))
  go_ret
  exact ⟨rfl, hg⟩
set_option maxRecDepth 100000 in
set_option maxHeartbeats 1000000 in
theorem tcyclic_many (N : Nat) (A : Option Addr) (c : Nat) (l : List (Int × Int)) (B : Option Addr) (cb k : Nat) (w : World) (h1 : N ≤ 30) (hm : l.length ≤ 150) (hl : SlE w A l) (hlo : ∀ e ∈ l, okE e) (hk : 60 < k) :
    Calls Try.prog 13 #[.int .i64 N, .slice A l.length c, .slice B k cb] w fun e w' => e = .returned (.bool true) ∧ Grew w w' := by
  have h6 : decide ((60 : Int) < (k : Int)) = true := by simp; omega
  have HL := hid (And.intro hl hlo)
  clear hl hlo
  go_enter Try.func13, Try.ntmps13
  go_wp2_with (first
    | (go_at_call 21; refine (make_at N A c l w (by omega) (by omega) hm HL.out.1 HL.out.2).mono ?_; rintro e w1 ⟨b, b2, rfl, hG, hR, hg1⟩; have H1 := hid hg1; clear hG hR hg1)
    | (go_at_call 39; refine (talive_at _).mono ?_; rintro e w2 ⟨rfl, hg⟩))
  go_ret
  exact ⟨rfl, Grew.trans H1.out hg⟩
set_option maxRecDepth 100000 in
set_option maxHeartbeats 1000000 in
theorem tcyclic_at (N : Nat) (A : Option Addr) (c : Nat) (l : List (Int × Int)) (B : Option Addr) (cb : Nat) (xs : List Int) (w : World) (h1 : N ≤ 30) (hm : l.length ≤ 150) (hl : SlE w A l) (hlo : ∀ e ∈ l, okE e) (hx : SlI w B xs) (hk : xs.length ≤ 60) :
    Calls Try.prog 13 #[.int .i64 N, .slice A l.length c, .slice B xs.length cb] w fun e w' => e = .returned (.bool true) ∧ Grew w w' := by
  have h6 : decide ((60 : Int) < (xs.length : Int)) = false := by simp; omega
  have HL := hid (And.intro hl (And.intro hlo hx))
  clear hl hlo hx
  go_enter Try.func13, Try.ntmps13
  go_wp2_with (go_at_call 21; refine (make_small N A c l w h1 hm HL.out.1 HL.out.2.1).mono ?_; rintro e w1 ⟨b, b2, E, rfl, hG, hR, hE1, hE2, hE3, hg⟩)
  have H1 := hid (And.intro hG (And.intro hR (And.intro hE2 hg)))
  clear hG hR hg hE2 hE3
  obtain ⟨o, ho⟩ := order_ex E N xs
  obtain ⟨ys, hy⟩ := cyc_ex H1.out.2.2.1 xs
  obtain ⟨r, hr⟩ : ∃ q : Bool, decide (restL N xs o = []) = q := ⟨_, rfl⟩
  have hol := ho.1.length
  have hyr : ((ys.length : Int) == 0) = r := by
    rw [← hr]
    show decide ((ys.length : Int) = 0) = _
    congr 1
    rw [eq_iff_iff, ho.rest_nil H1.out.2.2.1 hy]
    constructor
    · intro h
      exact List.eq_nil_of_length_eq_zero (by omega)
    · rintro rfl
      rfl
  have HO := hid (And.intro ho hr)
  have HY := hid hy
  clear ho hr hy
  go_wp2_with (go_at_call 48; refine (cyclic_at b N E _ B cb xs w1 H1.out.1 (HL.out.2.2.grew H1.out.2.2.2) (by omega) (by omega) ys HY.out).mono ?_; rintro e w2 ⟨v2, rfl, hn2, hg2⟩)
  obtain ⟨A2, c2, rfl, hi2, hi2a, hi2b, _⟩ := hn2.form
  have hyl : ys.length ≤ 9223372036854775807 := by unfold maxLen at hi2b; omega
  have H2 := hid (And.intro hi2 hg2)
  clear hi2 hg2 hn2 hi2a hi2b
  go_wp2_with (go_at_call 40; refine (order_is b N E _ B cb xs w2 (H1.out.1.grew H2.out.2) ((HL.out.2.2.grew H1.out.2.2.2).grew H2.out.2) (by omega) (by omega) o HO.out.1 r HO.out.2).mono ?_; rintro e w3 ⟨A3, c3, rfl, hi3, _, hg3⟩)
  have H3 := hid hg3
  clear hi3 hg3
  cases r
  all_goals
    go_wp2_with (first
      | (go_at_call 39; refine (talive_at w3).mono ?_; rintro e w4 ⟨rfl, hg4⟩; have H4 := hid hg4; clear hg4)
      | (go_at_call 49; refine (rcyclic_at b2 N E _ B cb xs w4 (((H1.out.2.1.grew H2.out.2).grew H3.out).grew H4.out) ((((HL.out.2.2.grew H1.out.2.2.2).grew H2.out.2).grew H3.out).grew H4.out) (by omega) (by omega) (by omega) H1.out.2.2.1 ys HY.out).mono ?_; rintro e w5 ⟨v5, rfl, hn5, hg5⟩; obtain ⟨A5, c5, rfl, hi5, _, _, _⟩ := hn5.form; have H5 := hid (And.intro hi5 hg5); clear hi5 hg5 hn5)
      | (go_at_call 23; refine (equal_same A2 A5 c2 c5 ys w5 (((H2.out.1.grew H3.out).grew H4.out).grew H5.out.2) H5.out.1 hyl).mono ?_; rintro e w6 ⟨rfl, hg6⟩))
    go_ret
    refine ⟨?_, Grew.trans H1.out.2.2.2 (Grew.trans H2.out.2 (Grew.trans H3.out (Grew.trans H4.out (Grew.trans H5.out.2 hg6))))⟩
    first
      | rfl
      | (show Ending.returned (Value.bool (!((ys.length : Int) == 0))) = _; rw [hyr]; rfl)
      | (show Ending.returned (Value.bool ((ys.length : Int) == 0)) = _; rw [hyr])
end Go.Proofs.Ytlpkolmaklnffaa
