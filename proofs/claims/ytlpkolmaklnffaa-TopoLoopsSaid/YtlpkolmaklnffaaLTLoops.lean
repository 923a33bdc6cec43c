/- The walk of the law TopoLoops. -/
import Derived.Test.YtlpkolmaklnffaaLoops
import Derived.Test.YtlpkolmaklnffaaCycW2
import Derived.Test.YtlpkolmaklnffaaLTCyclic
namespace Go.Proofs.Ytlpkolmaklnffaa
open Go.RowKit Go.MapKept

set_option maxRecDepth 100000 in
set_option maxHeartbeats 1000000 in
theorem tloops_big (n : Int) (A : Option Addr) (c m : Nat) (w : World) (h : n < 0 ∨ 30 < n ∨ 150 < m) :
    Calls Try.prog 14 #[.int .i64 n, .slice A m c] w fun e w' => e = .returned (.bool true) ∧ Grew w w' := by
  go_enter Try.func14, Try.ntmps14
  go_wp2_with (first
    | (go_at_call 21; refine (make_big n A c m w h).mono ?_; rintro e w1 ⟨rfl, rfl⟩)
    | (go_at_call 39; refine (talive_at w).mono ?_; rintro e w2 ⟨rfl, hg⟩))
  go_ret
  exact ⟨rfl, hg⟩
set_option maxRecDepth 100000 in
set_option maxHeartbeats 1000000 in
theorem tloops_at (N : Nat) (A : Option Addr) (c : Nat) (l : List (Int × Int)) (w : World) (h1 : N ≤ 30) (hm : l.length ≤ 150) (hl : SlE w A l) (hlo : ∀ e ∈ l, okE e) :
    Calls Try.prog 14 #[.int .i64 N, .slice A l.length c] w fun e w' => e = .returned (.bool true) ∧ Grew w w' := by
  have HL := hid (And.intro hl hlo)
  clear hl hlo
  go_enter Try.func14, Try.ntmps14
  go_wp2_with (go_at_call 21; refine (make_small N A c l w h1 hm HL.out.1 HL.out.2).mono ?_; rintro e w1 ⟨b, b2, E, rfl, hG, hR, hE1, hE2, hE3, hg⟩)
  have H1 := hid (And.intro hG (And.intro hE2 hg))
  clear hG hR hg hE2 hE3
  obtain ⟨ys, hy⟩ := cyc_ex H1.out.2.1 []
  have HY := hid hy
  clear hy
  have CX : Hid (Calls Try.prog 48 #[.pointer (some ⟨b, 0, none⟩), .slice none 0 0] w1 fun e w' => ∃ A2 c2, e = .returned (.slice A2 ys.length c2) ∧ SlI w' A2 ys ∧ ys.length ≤ 9223372036854775807 ∧ Grew w1 w') := hid (by
    refine (cyclic_at b N E _ none 0 [] w1 H1.out.1 SlI.nil (by simp) (by omega) ys HY.out).mono ?_
    rintro e w2 ⟨v2, rfl, hn2, hg2⟩
    obtain ⟨A2, c2, rfl, hi2, hi2a, hi2b, _⟩ := hn2.form
    exact ⟨A2, c2, rfl, hi2, by unfold maxLen at hi2b; omega, hg2⟩)
  go_wp2_with (go_at_call 48; have cX := CX.out; with_reducible refine cX.mono ?_; clear cX; rintro e w2 ⟨A2, c2, rfl, hi2, hyl, hg2⟩)
  have H2 := hid (And.intro hi2 hg2)
  clear hi2 hg2 CX
  go_loopw [26] (fun i wr => ∃ k : Nat, k ≤ N ∧ i = .int .i64 k ∧ Grew w2 wr) (fun i _ => N - (intOf i).toNat)
  case atStart => exact ⟨0, Nat.zero_le _, rfl, Only.refl _ _⟩
  case round =>
    obtain ⟨k, hk, rfl, hO⟩ := hrel
    have HO := hid (Grew.trans H2.out.2 hO)
    have HO2 := hid hO
    clear hO
    by_cases hlt : k < N
    · have hb0 : (k : Int) < (N : Int) := by omega
      have CC : Hid (Calls Try.prog 42 #[.pointer (some ⟨b, 0, none⟩), .int .i64 k, .slice none 0 0] wr fun e w' => ∃ A' c' r, e = .returned (.slice A' r.length c') ∧ IsCycle E k r ∧ SlI w' A' r ∧ r.length ≤ 1048577 ∧ r.length ≤ c' ∧ Grew wr w') := hid (by
        have h := cycle_cap b N E _ none 0 [] k wr (H1.out.1.grew HO.out) SlI.nil (by simp) (by omega) ⟨by omega, by omega⟩
        rw [cut_nil] at h
        exact h)
      go_wp2_with (go_at_call 42; have cX := CC.out; with_reducible refine cX.mono ?_; clear cX; rintro e w3 ⟨A3, c3, r, rfl, hr, hi3, hl3, hcap, hg3⟩)
      have HQ : Hid (decide ((k : Int) ∈ ys) = decide (0 < r.length)) := hid (by
        congr 1
        rw [eq_iff_iff, HY.out.2, cut_nil, ← hr.some_iff]
        constructor
        · intro h
          exact List.length_pos_iff.2 h
        · intro h
          exact List.length_pos_iff.1 h)
      have H3 := hid (And.intro hr (And.intro hi3 (And.intro (Grew.trans HO.out hg3) (Grew.trans HO2.out hg3))))
      clear hr hi3 hg3 CC
      have hcase : r.length = 0 ∨ 0 < r.length := by omega
      rcases hcase with h0 | h0
      · obtain rfl : r = [] := List.eq_nil_of_length_eq_zero h0
        clear h0
        go_wp2_with (go_at_call 33; refine (contains_is A2 c2 ys k _ false (by rw [HQ.out]; simp) (H2.out.1.grew H3.out.2.2.2) hyl).mono ?_; rintro e w4 ⟨rfl, rfl⟩)
        obtain ⟨wo, rfl⟩ : ∃ wo : World, wo = w3 := ⟨_, rfl⟩
        go_loopw [53] (fun i wr => i = .int .i64 0 ∧ wr = wo) (fun _ _ => 0)
        case atStart => exact ⟨rfl, rfl⟩
        case round =>
          obtain ⟨rfl, rfl⟩ := hrel
          go_wp2
          go_roundw
          case rel => exact ⟨k + 1, by omega, by go_num, H3.out.2.2.2⟩
          case measure => simp [intOf]; omega
      · have hp0 : (0 : Int) < (r.length : Int) := by omega
        obtain ⟨bl, off, rfl, hcell⟩ := H3.out.2.1 h0
        have hc0 := hcell 0 h0
        have e0 : r[0]?.getD 0 = (k : Int) := H3.out.1.first h0
        rw [e0, Nat.add_zero] at hc0
        clear e0
        have HCE := hid hcell
        clear hcell
        go_wp2_with (go_at_call 33; refine (contains_is A2 c2 ys k _ true (by rw [HQ.out]; simpa using h0) (H2.out.1.grew H3.out.2.2.2) hyl).mono ?_; rintro e w4 ⟨rfl, rfl⟩)
        obtain ⟨wo, rfl⟩ : ∃ wo : World, wo = w3 := ⟨_, rfl⟩
        go_loopw [53] (fun i wr => ∃ m : Nat, m ≤ r.length ∧ i = .int .i64 m ∧ Grew wo wr) (fun i _ => r.length - (intOf i).toNat)
        case atStart => exact ⟨0, Nat.zero_le _, rfl, Only.refl _ _⟩
        case round =>
          obtain ⟨m, hm, rfl, hO⟩ := hrel
          have HW := hid hO
          clear hO
          by_cases hlt2 : m < r.length
          · have hb1 : (m : Int) < (r.length : Int) := by omega
            have hnx : (m + 1) % r.length < r.length := Nat.mod_lt _ h0
            have hcm : wr.cell? ⟨bl, off + m, none⟩ = some (.int .i64 (pg r m)) := HW.out.cell (HCE.out m hlt2) (fun h => h)
            have hcn : wr.cell? ⟨bl, off + (m + 1) % r.length, none⟩ = some (.int .i64 (pg r ((m + 1) % r.length))) := HW.out.cell (HCE.out _ hnx) (fun h => h)
            have hrem : ((m : Int) + 1).tmod (r.length : Int) = (((m + 1) % r.length : Nat) : Int) := by
              rw [Int.tmod_eq_emod_of_nonneg (by omega)]
              norm_cast
            have HE := hid (And.intro (H3.out.1.next hlt2) (H3.out.1.not_before hlt2))
            generalize pg r m = x at *
            generalize pg r ((m + 1) % r.length) = y at *
            generalize (m + 1) % r.length = nx at *
            have hnxb : (nx : Int) < (r.length : Int) := by omega
            have HX : Hid (okE (x, y)) := hid (by
              have h := H1.out.2.1 _ HE.out.1
              exact ⟨⟨by have := h.1.1; show _ ≤ x; omega, by have := h.1.2; show x ≤ _; omega⟩, ⟨by have := h.2.1.1; show _ ≤ y; omega, by have := h.2.1.2; show y ≤ _; omega⟩⟩)
            have HSL : Hid (∀ w', Grew wr w' → SlI w' (some ⟨bl, off, none⟩) (r.take m)) := hid (fun w' h hp => ⟨bl, off, rfl, fun j hj => by
              rw [List.length_take] at hj
              rw [(Grew.trans HW.out h).cell (HCE.out j (by omega)) (fun h => h), List.getElem?_take, if_pos (by omega)]⟩)
            have hmc : (m : Int) ≤ (c3 : Int) := by omega
            have hmc' : m ≤ c3 := by omega
            have htl : (r.take m).length = m := by rw [List.length_take]; omega
            go_wp2_with (first
              | (go_at_call 30; refine (has_is b N x y E _ wr true (by simpa using HE.out.1) (H1.out.1.grew (Grew.trans H3.out.2.2.1 HW.out)) HX.out).mono ?_; rintro e w5 ⟨rfl, hg5⟩; have H5 := hid hg5; clear hg5)
              | (go_at_call 33; have cX : Calls Try.prog 33 #[.slice (some ⟨bl, off, none⟩) m c3, .int .i64 x] w5 (fun e w' => e = .returned (.bool false) ∧ w5 = w') := (by have h := contains_is (some ⟨bl, off, none⟩) c3 (r.take m) x w5 false (by simpa using HE.out.2) (HSL.out _ H5.out) (by omega); rwa [htl] at h); with_reducible refine cX.mono ?_; clear cX; rintro e w6 ⟨rfl, rfl⟩))
            go_roundw
            case rel => exact ⟨m + 1, by omega, by go_num, Grew.trans HW.out H5.out⟩
            case measure => simp [intOf]; omega
          · obtain rfl : m = r.length := by omega
            go_wp2
            go_roundw
            case rel => exact ⟨k + 1, by omega, by go_num, Grew.trans H3.out.2.2.2 HW.out⟩
            case measure => simp [intOf]; omega
    · obtain rfl : k = N := by omega
      go_wp2_with (go_at_call 39; refine (talive_at _).mono ?_; rintro e w5 ⟨rfl, hg5⟩)
      go_ret
      exact ⟨rfl, Grew.trans H1.out.2.2 (Grew.trans HO.out hg5)⟩
end Go.Proofs.Ytlpkolmaklnffaa
