/- The walk of the law EvictBreaks. -/
import Derived.Test.YtlpkolmaklnffaaEvA
namespace Go.Proofs.Ytlpkolmaklnffaa
open Go.RowKit Go.MapKept

set_option maxRecDepth 100000 in
set_option maxHeartbeats 1000000 in
theorem ebreaks_big (n : Int) (A : Option Addr) (c m : Nat) (B : Option Addr) (cb k : Nat) (w : World) (h : n < 0 ∨ 30 < n ∨ 150 < m) :
    Calls Try.prog 16 #[.int .i64 n, .slice A m c, .slice B k cb] w fun e w' => e = .returned (.bool true) ∧ Grew w w' := by
  go_enter Try.func16, Try.ntmps16
  go_wp2_with (first
    | (go_at_call 21; refine (make_big n A c m _ h).mono ?_; rintro e w1 ⟨rfl, rfl⟩)
    | (go_at_call 51; refine (ealive_at _).mono ?_; rintro e w2 ⟨rfl, hg⟩))
  go_ret
  exact ⟨rfl, hg⟩
set_option maxRecDepth 100000 in
set_option maxHeartbeats 1000000 in
theorem ebreaks_wrong (N : Nat) (A : Option Addr) (c : Nat) (l : List (Int × Int)) (B : Option Addr) (cb : Nat) (xs : List Int) (w : World) (h1 : N ≤ 30) (hm : l.length ≤ 150) (hl : SlE w A l) (hlo : ∀ e ∈ l, okE e) (hx : SlI w B xs) (hxl : xs.length ≤ 9223372036854775807) (hr : wrightB xs = false) :
    Calls Try.prog 16 #[.int .i64 N, .slice A l.length c, .slice B xs.length cb] w fun e w' => e = .returned (.bool true) ∧ Grew w w' := by
  have HL := hid (And.intro hl (And.intro hlo (And.intro hx hr)))
  clear hl hlo hx hr
  go_enter Try.func16, Try.ntmps16
  go_wp2_with (first
    | (go_at_call 21; refine (make_at N A c l _ (by omega) (by omega) hm HL.out.1 HL.out.2.1).mono ?_; rintro e w1 ⟨b, b2, rfl, hG, hR, hg1⟩; have H1 := hid hg1; clear hG hR hg1)
    | (go_at_call 50; refine (right_is B cb xs w1 (HL.out.2.2.1.grew H1.out) hxl false HL.out.2.2.2).mono ?_; rintro e w2 ⟨rfl, rfl⟩)
    | (go_at_call 51; refine (ealive_at _).mono ?_; rintro e w2 ⟨rfl, hg⟩))
  go_ret
  exact ⟨rfl, Grew.trans H1.out hg⟩
set_option maxRecDepth 100000 in
set_option maxHeartbeats 2000000 in
theorem ebreaks_at (N : Nat) (A : Option Addr) (c : Nat) (l : List (Int × Int)) (B : Option Addr) (cb : Nat) (xs : List Int) (w : World) (h1 : N ≤ 30) (hm : l.length ≤ 150) (hl : SlE w A l) (hlo : ∀ e ∈ l, okE e) (hx : SlI w B xs) (hxl : xs.length ≤ 9223372036854775807) (hr : wrightB xs = true) :
    Calls Try.prog 16 #[.int .i64 N, .slice A l.length c, .slice B xs.length cb] w fun e w' => e = .returned (.bool true) ∧ Grew w w' := by
  have HL := hid (And.intro hl (And.intro hlo (And.intro hx (And.intro hr (wright_iff.1 hr)))))
  clear hl hlo hx hr
  go_enter Try.func16, Try.ntmps16
  go_wp2_with (go_at_call 21; refine (make_small N A c l _ h1 hm HL.out.1 HL.out.2.1).mono ?_; rintro e w1 ⟨b, b2, E, rfl, hG, hR, hE1, hE2, hE3, hg⟩)
  have H1 := hid (And.intro hG (And.intro hR (And.intro hE2 hg)))
  clear hG hR hg hE2 hE3
  go_wp2_with (go_at_call 50; refine (right_is B cb xs w1 (HL.out.2.2.1.grew H1.out.2.2.2) hxl true HL.out.2.2.2.1).mono ?_; rintro e w2 ⟨rfl, rfl⟩)
  obtain ⟨o, zs, hc⟩ := choose_ex H1.out.2.2.1 xs []
  obtain rfl := hc.free
  have HC := hid (And.intro hc (hc.1.nodup H1.out.2.2.1))
  have hol := hc.1.length H1.out.2.2.1
  clear hc
  have CH : Hid (Calls Try.prog 52 #[.pointer (some ⟨b, 0, none⟩), .slice B xs.length cb, .slice none 0 0] w1 fun e w' => ∃ A' c', e = .returned (.tuple #[.slice A' o.length c', .bool true]) ∧ SlI w' A' o ∧ o.length ≤ c' ∧ Grew w1 w') := hid (by
    refine (choose_at b N E _ B cb xs none 0 [] w1 H1.out.1 (HL.out.2.2.1.grew H1.out.2.2.2) SlI.nil hxl (by simp) (by omega) o [] HC.out.1 true (by decide)).mono ?_
    rintro e w' ⟨A', c', rfl, h1, h2, _, h3⟩
    exact ⟨A', c', rfl, h1, h2, h3⟩)
  go_wp2_with (go_at_call 52; have cX := CH.out; with_reducible refine cX.mono ?_; clear cX; rintro e w3 ⟨A3, c3, rfl, hi3, hcap, hg3⟩)
  have H3 := hid (And.intro hi3 hg3)
  clear hi3 hg3 CH
  go_loopw [41] (fun i wr => ∃ k : Nat, k ≤ o.length ∧ i = .int .i64 k ∧ wr = w3) (fun i _ => o.length - (intOf i).toNat)
  case atStart => exact ⟨0, Nat.zero_le _, rfl, rfl⟩
  case round =>
    obtain ⟨k, hk, rfl, rfl⟩ := hrel
    by_cases hlt : k < o.length
    · have hb0 : (k : Int) < (o.length : Int) := by omega
      have hb1 : (k : Int) ≤ (c3 : Int) := by omega
      have hb2 : k ≤ c3 := by omega
      obtain ⟨bl, off, rfl, hcell⟩ := H3.out.1 (by omega)
      have hc := hcell k hlt
      obtain ⟨x, hx⟩ : ∃ x, o[k]? = some x := ⟨_, List.getElem?_eq_getElem hlt⟩
      simp only [hx, Option.getD_some] at hc
      have htl : (o.take k).length = k := by rw [List.length_take]; omega
      have CC : Hid (Calls Try.prog 33 #[.slice (some ⟨bl, off, none⟩) k c3, .int .i64 x] wr fun e w' => e = .returned (.bool false) ∧ wr = w') := hid (by
        have h := contains_is (some ⟨bl, off, none⟩) c3 (o.take k) x wr false (by
          simp only [decide_eq_false_iff_not]
          intro hin
          have h1 := HC.out.2.1
          rw [← List.take_append_drop k o] at h1
          have h2 := (List.nodup_append.1 h1).2.2 x hin x (by
            rw [List.drop_eq_getElem_cons hlt]
            have := List.getElem?_eq_some_iff.1 hx
            rw [this.2]
            simp)
          exact h2 rfl) (fun hp => ⟨bl, off, rfl, fun j hj => by
            rw [List.length_take] at hj
            rw [hcell j (by omega), List.getElem?_take, if_pos (by omega)]⟩) (by omega)
        rwa [htl] at h)
      have hxr := HC.out.2.2 x (List.mem_of_getElem? hx)
      have hd1 : decide (x < 0) = false := by simpa using hxr.1
      have hd2 : decide ((N : Int) ≤ x) = false := by simpa using hxr.2
      clear hcell hx hxr
      go_wp2_with (go_at_call 33; have cX := CC.out; with_reducible refine cX.mono ?_; clear cX; rintro e w4 ⟨rfl, rfl⟩)
      go_roundw
      case rel => exact ⟨k + 1, by omega, by go_num, by trivial⟩
      case measure => simp [intOf]; omega
    · obtain rfl : k = o.length := by omega
      obtain ⟨o2, ho2⟩ := order_ex E N o
      obtain ⟨o0, ho0⟩ := order_ex E N []
      obtain ⟨x0, hx0⟩ := cyc_ex H1.out.2.2.1 []
      obtain ⟨r, hr⟩ : ∃ r : Bool, decide (o = []) = r := ⟨_, rfl⟩
      have HO2 := hid (And.intro ho2 (show decide (restL N o o2 = []) = true by simpa using (ho2.rest_nil H1.out.2.2.1 HC.out.1.2.1).2 rfl))
      have HO0 := hid (And.intro ho0 (show decide (restL N [] o0 = []) = r by rw [← hr]; congr 1; rw [eq_iff_iff, ho0.rest_nil H1.out.2.2.1 hx0]; exact HC.out.1.nil_iff hx0))
      have hz : ((o.length : Int) == 0) = r := by
        rw [← hr]
        show decide ((o.length : Int) = 0) = _
        congr 1
        rw [eq_iff_iff, ← List.length_eq_zero_iff]
        omega
      clear ho2 ho0 hx0 hr
      have CB : Hid (∀ W, Grew wr W → Calls Try.prog 54 #[.pointer (some ⟨b, 0, none⟩), .slice A3 o.length c3] W fun e w' => e = .returned (.bool true) ∧ Grew W w') := hid (fun W hW =>
        breaks_is b N E _ A3 c3 o W (H1.out.1.grew (Grew.trans H3.out.2 hW)) (H3.out.1.grew hW) (by omega) (by omega) H1.out.2.2.1 [] HC.out.1.2.1 true (by decide))
      cases r
      all_goals
        have cO := order_is b N E _ A3 c3 o wr (H1.out.1.grew H3.out.2) H3.out.1 (by omega) (by omega) o2 HO2.out.1 true HO2.out.2
        go_wp2_with (go_at_call 40; with_reducible refine cO.mono ?_; clear cO; rintro e w4 ⟨A4, c4, rfl, _, _, hg4⟩)
        have H4 := hid hg4
        clear hg4
        have cO := order0 b N E _ w4 (H1.out.1.grew (Grew.trans H3.out.2 H4.out)) (by omega) o0 HO0.out.1 _ HO0.out.2
        go_wp2_with (first
          | (go_at_call 40; with_reducible refine cO.mono ?_; clear cO; rintro e w5 ⟨A5, c5, rfl, _, _, hg5⟩; have H5 := hid (Grew.trans H4.out hg5); clear hg5)
          | (go_at_call 51; refine (ealive_at w5).mono ?_; rintro e w6 ⟨rfl, hg6⟩; have H6 := hid (Grew.trans H5.out hg6); clear hg6)
          | (go_at_call 54; have cX := CB.out w6 H6.out; with_reducible refine cX.mono ?_; clear cX; rintro e w7 ⟨rfl, hg7⟩))
        go_ret
        exact ⟨rfl, Grew.trans H1.out.2.2.2 (Grew.trans H3.out.2 (Grew.trans H6.out hg7))⟩
end Go.Proofs.Ytlpkolmaklnffaa
