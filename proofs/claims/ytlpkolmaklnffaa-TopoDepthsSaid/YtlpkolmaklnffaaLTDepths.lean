/- The walk of the law TopoDepths. -/
import Derived.Test.YtlpkolmaklnffaaTNil
import Derived.Test.YtlpkolmaklnffaaLTOrders
namespace Go.Proofs.Ytlpkolmaklnffaa
open Go.RowKit Go.MapKept

set_option maxRecDepth 100000 in
set_option maxHeartbeats 1000000 in
theorem tdepths_big (n : Int) (A : Option Addr) (c m : Nat) (w : World) (h : n < 0 ∨ 30 < n ∨ 150 < m) :
    Calls Try.prog 12 #[.int .i64 n, .slice A m c] w fun e w' => e = .returned (.bool true) ∧ Grew w w' := by
  go_enter Try.func12, Try.ntmps12
  go_wp2_with (first
    | (go_at_call 21; refine (make_big n A c m w h).mono ?_; rintro e w1 ⟨rfl, rfl⟩)
    | (go_at_call 39; refine (talive_at w).mono ?_; rintro e w2 ⟨rfl, hg⟩))
  go_ret
  exact ⟨rfl, hg⟩
set_option maxRecDepth 100000 in
set_option maxHeartbeats 1000000 in
theorem tdepths_at (N : Nat) (A : Option Addr) (c : Nat) (l : List (Int × Int)) (w : World) (h1 : N ≤ 30) (hm : l.length ≤ 150) (hl : SlE w A l) (hlo : ∀ e ∈ l, okE e) :
    Calls Try.prog 12 #[.int .i64 N, .slice A l.length c] w fun e w' => e = .returned (.bool true) ∧ Grew w w' := by
  have HL := hid (And.intro hl hlo)
  clear hl hlo
  go_enter Try.func12, Try.ntmps12
  go_wp2_with (go_at_call 21; refine (make_small N A c l w h1 hm HL.out.1 HL.out.2).mono ?_; rintro e w1 ⟨b, b2, E, rfl, hG, hR, hE1, hE2, hE3, hg⟩)
  have H1 := hid (And.intro hG (And.intro hR (And.intro hE2 hg)))
  clear hG hR hg hE2 hE3
  obtain ⟨o, ho⟩ := order_ex E N []
  have HO := hid ho
  have hol := ho.1.length
  clear ho
  have CR : Hid (∀ (W : World) (r : Bool), decide (restL N [] o = []) = r → Grew w1 W → Calls Try.prog 41 #[.pointer (some ⟨b2, 0, none⟩), .slice none 0 0] W (fun e w' => ∃ A' c', e = .returned (.tuple #[.slice A' (ordRes r o).length c', .bool r]) ∧ SlI w' A' (ordRes r o) ∧ Grew W w')) := hid (fun W r hr hW =>
    rorder_is b2 N E _ none 0 [] W (H1.out.2.1.grew hW) SlI.nil (by simp) (by omega) (by omega) H1.out.2.2.1 o HO.out r hr)
  by_cases hr : restL N [] o = []
  · have hrt : decide (restL N [] o = []) = true := by simpa using hr
    have HR := hid (And.intro hr hrt)
    have HD : Hid (rounds E N N = relaxAll (List.replicate N 0) (flatE E o)) := hid (rounds_depth H1.out.2.2.1 HO.out (rest_all hr) (order_depth H1.out.2.2.1 HO.out (rest_all hr)))
    have hdl : (relaxAll (List.replicate N 0) (flatE E o)).length = N := by rw [relaxAll_length]; simp
    clear hr hrt
    go_wp2_with (go_at_call 46; refine (tdepth_at b N E _ w1 H1.out.1 (by omega) o HO.out HR.out.1).mono ?_; rintro e w2 ⟨sb, rfl, hI2, hg2⟩)
    have H2 := hid (And.intro hI2 hg2)
    clear hI2 hg2
    go_wp2_with (go_at_call 41; have cX := CR.out w2 true HR.out.2 H2.out.2; with_reducible refine cX.mono ?_; clear cX; rintro e w3 ⟨A3, c3, rfl, _, hg3⟩)
    have H3 := hid (Grew.trans H2.out.2 hg3)
    have H3' := hid hg3
    clear hg3
    go_wp2_with (go_at_call 40; refine (order_nil _ _ _ _).mono ?_; rintro e w4 ⟨rfl, hg4⟩)
    have H4 := hid (And.intro (Grew.trans H3.out hg4) (Grew.trans H3'.out hg4))
    clear hg4
    go_wp2_with (first
      | (go_at_call 39; refine (talive_at w4).mono ?_; rintro e w5 ⟨rfl, hg5⟩; have H5 := hid (And.intro (Grew.trans H4.out.1 hg5) (Grew.trans H4.out.2 hg5)); clear hg5)
      | (go_at_call 47; refine (rdepth_at b2 N E _ w5 (H1.out.2.1.grew H5.out.1) (by omega) H1.out.2.2.1 (by omega)).mono ?_; rintro e w6 ⟨sb2, rfl, hI6, _, hg6⟩; rw [HD.out] at hI6; have H6 := hid (And.intro (Grew.trans H5.out.1 hg6) (And.intro (Grew.trans H5.out.2 hg6) hI6)); clear hI6 hg6)
      | (go_at_call 23; have cX : Calls Try.prog 23 #[.slice (some ⟨sb, 0, none⟩) N N, .slice (some ⟨sb2, 0, none⟩) N N] w6 (fun e w' => e = .returned (.bool true) ∧ Grew w6 w') := (by have h := equal_same _ _ N N _ w6 (H2.out.1.SlI.grew H6.out.2.1) H6.out.2.2.SlI (by rw [hdl]; omega); rwa [hdl] at h); with_reducible refine cX.mono ?_; clear cX; rintro e w7 ⟨rfl, hg7⟩; have H7 := hid (Grew.trans H6.out.1 hg7); clear hg7)
      | (go_at_call 45; refine (sorted_nil _).mono ?_; rintro e w8 ⟨rfl, hg8⟩; have H8 := hid (Grew.trans H7.out hg8); clear hg8)
      | (go_at_call 42; refine (cycle_nil _ _).mono ?_; rintro e w9 ⟨rfl, hg9⟩; have H9 := hid (Grew.trans H8.out hg9); clear hg9))
    go_ret
    exact ⟨rfl, Grew.trans H1.out.2.2.2 H9.out⟩
  · have hrf : decide (restL N [] o = []) = false := by simpa using hr
    have HR := hid hrf
    clear hr hrf
    go_wp2_with (go_at_call 46; refine (tdepth_no b N E _ w1 H1.out.1 (by omega) o HO.out HR.out).mono ?_; rintro e w2 ⟨rfl, hg2⟩)
    have H2 := hid hg2
    clear hg2
    go_wp2_with (first
      | (go_at_call 41; have cX := CR.out w2 false HR.out H2.out; with_reducible refine cX.mono ?_; clear cX; rintro e w3 ⟨A3, c3, rfl, _, hg3⟩; have H3 := hid (Grew.trans H2.out hg3); clear hg3)
      | (go_at_call 39; refine (talive_at _).mono ?_; rintro e w5 ⟨rfl, hg5⟩))
    go_ret
    exact ⟨rfl, Grew.trans H1.out.2.2.2 (Grew.trans H3.out hg5)⟩
end Go.Proofs.Ytlpkolmaklnffaa
