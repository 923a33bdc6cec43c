/- The walk of the law TopoOrders. -/
import Derived.Test.YtlpkolmaklnffaaRefT
import Derived.Test.YtlpkolmaklnffaaTAlive
namespace Go.Proofs.Ytlpkolmaklnffaa
open Go.RowKit Go.MapKept

theorem make_small (N : Nat) (A : Option Addr) (c : Nat) (l : List (Int × Int)) (w : World) (h1 : N ≤ 30) (hm : l.length ≤ 150) (hl : SlE w A l) (hlo : ∀ e ∈ l, okE e) :
    Calls Try.prog 21 #[.int .i64 N, .slice A l.length c] w fun e w' => ∃ b b2 E, e = .returned (.tuple #[.pointer (some ⟨b, 0, none⟩), .pointer (some ⟨b2, 0, none⟩)]) ∧
      IsGraph w' (fun k => w.heap.size ≤ k ∧ k < w'.heap.size) b N E ∧ IsRef w' (fun k => w.heap.size ≤ k ∧ k < w'.heap.size) b2 N E ∧ E.length ≤ 150 ∧ Valid (N : Int) E ∧ E.Nodup ∧ Grew w w' := by
  refine (make_at N A c l w (by omega) (by omega) hm hl hlo).mono ?_
  rintro e w' ⟨b, b2, rfl, hG, hR, hg⟩
  have hlen := (addAll_length (N : Int) [] l).2
  simp at hlen
  exact ⟨b, b2, _, rfl, hG, hR, by omega, hG.2.2, hG.2.1, hg⟩
set_option maxRecDepth 100000 in
set_option maxHeartbeats 1000000 in
theorem torders_big (n : Int) (A : Option Addr) (c m : Nat) (B : Option Addr) (cb k : Nat) (w : World) (h : n < 0 ∨ 30 < n ∨ 150 < m) :
    Calls Try.prog 9 #[.int .i64 n, .slice A m c, .slice B k cb] w fun e w' => e = .returned (.bool true) ∧ Grew w w' := by
  go_enter Try.func9, Try.ntmps9
  go_wp2_with (first
    | (go_at_call 21; refine (make_big n A c m w h).mono ?_; rintro e w1 ⟨rfl, rfl⟩)
    | (go_at_call 39; refine (talive_at w).mono ?_; rintro e w2 ⟨rfl, hg⟩))
  go_ret
  exact ⟨rfl, hg⟩
set_option maxRecDepth 100000 in
set_option maxHeartbeats 1000000 in
theorem torders_many (N : Nat) (A : Option Addr) (c : Nat) (l : List (Int × Int)) (B : Option Addr) (cb k : Nat) (w : World) (h1 : N ≤ 30) (hm : l.length ≤ 150) (hl : SlE w A l) (hlo : ∀ e ∈ l, okE e) (hk : 60 < k) :
    Calls Try.prog 9 #[.int .i64 N, .slice A l.length c, .slice B k cb] w fun e w' => e = .returned (.bool true) ∧ Grew w w' := by
  have h6 : decide ((60 : Int) < (k : Int)) = true := by simp; omega
  have HL := hid (And.intro hl hlo)
  clear hl hlo
  go_enter Try.func9, Try.ntmps9
  go_wp2_with (first
    | (go_at_call 21; refine (make_at N A c l w (by omega) (by omega) hm HL.out.1 HL.out.2).mono ?_; rintro e w1 ⟨b, b2, rfl, hG, hR, hg1⟩; have H1 := hid hg1; clear hG hR hg1)
    | (go_at_call 39; refine (talive_at _).mono ?_; rintro e w2 ⟨rfl, hg⟩))
  go_ret
  exact ⟨rfl, Grew.trans H1.out hg⟩
set_option maxRecDepth 100000 in
set_option maxHeartbeats 1000000 in
theorem torders_at (N : Nat) (A : Option Addr) (c : Nat) (l : List (Int × Int)) (B : Option Addr) (cb : Nat) (xs : List Int) (w : World) (h1 : N ≤ 30) (hm : l.length ≤ 150) (hl : SlE w A l) (hlo : ∀ e ∈ l, okE e) (hx : SlI w B xs) (hk : xs.length ≤ 60) :
    Calls Try.prog 9 #[.int .i64 N, .slice A l.length c, .slice B xs.length cb] w fun e w' => e = .returned (.bool true) ∧ Grew w w' := by
  have h6 : decide ((60 : Int) < (xs.length : Int)) = false := by simp; omega
  have HL := hid (And.intro hl (And.intro hlo hx))
  clear hl hlo hx
  go_enter Try.func9, Try.ntmps9
  go_wp2_with (go_at_call 21; refine (make_small N A c l w h1 hm HL.out.1 HL.out.2.1).mono ?_; rintro e w1 ⟨b, b2, E, rfl, hG, hR, hE1, hE2, hE3, hg⟩)
  have H1 := hid (And.intro hG (And.intro hR (And.intro hE2 hg)))
  clear hG hR hg hE2 hE3
  obtain ⟨o, ho⟩ := order_ex E N xs
  obtain ⟨r, hr⟩ : ∃ q : Bool, decide (restL N xs o = []) = q := ⟨_, rfl⟩
  have hol := ho.1.length
  have HO := hid (And.intro ho hr)
  clear ho hr
  have hrl : (ordRes r o).length ≤ 30 := by
    unfold ordRes
    split
    · omega
    · simp
  go_wp2_with (go_at_call 40; refine (order_is b N E _ B cb xs w1 H1.out.1 (HL.out.2.2.grew H1.out.2.2.2) (by omega) (by omega) o HO.out.1 r HO.out.2).mono ?_; rintro e w2 ⟨A2, c2, rfl, hi2, _, hg2⟩)
  have H2 := hid (And.intro hi2 hg2)
  clear hi2 hg2
  go_wp2_with (go_at_call 41; refine (rorder_is b2 N E _ B cb xs w2 (H1.out.2.1.grew H2.out.2) ((HL.out.2.2.grew H1.out.2.2.2).grew H2.out.2) (by omega) (by omega) (by omega) H1.out.2.2.1 o HO.out.1 r HO.out.2).mono ?_; rintro e w3 ⟨A3, c3, rfl, hi3, hg3⟩)
  have H3 := hid (And.intro hi3 hg3)
  clear hi3 hg3
  generalize ordRes r o = L at *
  cases r
  all_goals
    go_wp2_with (first
      | (go_at_call 39; refine (talive_at w3).mono ?_; rintro e w4 ⟨rfl, hg4⟩; have H4 := hid hg4; clear hg4)
      | (go_at_call 23; refine (equal_same A2 A3 c2 c3 L w4 ((H2.out.1.grew H3.out.2).grew H4.out) (H3.out.1.grew H4.out) (by omega)).mono ?_; rintro e w5 ⟨rfl, hg5⟩))
    go_ret
    exact ⟨rfl, Grew.trans H1.out.2.2.2 (Grew.trans H2.out.2 (Grew.trans H3.out.2 (Grew.trans H4.out hg5)))⟩
end Go.Proofs.Ytlpkolmaklnffaa
