/- The walk of the law EvictSteps. -/
import Derived.Test.YtlpkolmaklnffaaEvA
import Derived.Test.YtlpkolmaklnffaaEvNil
namespace Go.Proofs.Ytlpkolmaklnffaa
open Go.RowKit Go.MapKept

set_option maxRecDepth 100000 in
set_option maxHeartbeats 1000000 in
theorem esteps_big (n : Int) (A : Option Addr) (c m : Nat) (B : Option Addr) (cb k : Nat) (w : World) (h : n < 0 ∨ 30 < n ∨ 150 < m) :
    Calls Try.prog 20 #[.int .i64 n, .slice A m c, .slice B k cb] w fun e w' => e = .returned (.bool true) ∧ Grew w w' := by
  go_enter Try.func20, Try.ntmps20
  go_wp2_with (first
    | (go_at_call 21; refine (make_big n A c m _ h).mono ?_; rintro e w1 ⟨rfl, rfl⟩)
    | (go_at_call 51; refine (ealive_at _).mono ?_; rintro e w2 ⟨rfl, hg⟩))
  go_ret
  exact ⟨rfl, hg⟩
set_option maxRecDepth 100000 in
set_option maxHeartbeats 1000000 in
theorem esteps_wrong (N : Nat) (A : Option Addr) (c : Nat) (l : List (Int × Int)) (B : Option Addr) (cb : Nat) (xs : List Int) (w : World) (h1 : N ≤ 30) (hm : l.length ≤ 150) (hl : SlE w A l) (hlo : ∀ e ∈ l, okE e) (hx : SlI w B xs) (hxl : xs.length ≤ 9223372036854775807) (hr : wrightB xs = false) :
    Calls Try.prog 20 #[.int .i64 N, .slice A l.length c, .slice B xs.length cb] w fun e w' => e = .returned (.bool true) ∧ Grew w w' := by
  have HL := hid (And.intro hl (And.intro hlo (And.intro hx hr)))
  clear hl hlo hx hr
  go_enter Try.func20, Try.ntmps20
  go_wp2_with (first
    | (go_at_call 21; refine (make_at N A c l _ (by omega) (by omega) hm HL.out.1 HL.out.2.1).mono ?_; rintro e w1 ⟨b, b2, rfl, hG, hR, hg1⟩; have H1 := hid hg1; clear hG hR hg1)
    | (go_at_call 50; refine (right_is B cb xs w1 (HL.out.2.2.1.grew H1.out) hxl false HL.out.2.2.2).mono ?_; rintro e w2 ⟨rfl, rfl⟩)
    | (go_at_call 51; refine (ealive_at _).mono ?_; rintro e w2 ⟨rfl, hg⟩))
  go_ret
  exact ⟨rfl, Grew.trans H1.out hg⟩
set_option maxRecDepth 100000 in
set_option maxHeartbeats 2000000 in
theorem esteps_at (N : Nat) (A : Option Addr) (c : Nat) (l : List (Int × Int)) (B : Option Addr) (cb : Nat) (xs : List Int) (w : World) (h1 : N ≤ 30) (hm : l.length ≤ 150) (hl : SlE w A l) (hlo : ∀ e ∈ l, okE e) (hx : SlI w B xs) (hxl : xs.length ≤ 9223372036854775807) (hr : wrightB xs = true) :
    Calls Try.prog 20 #[.int .i64 N, .slice A l.length c, .slice B xs.length cb] w fun e w' => e = .returned (.bool true) ∧ Grew w w' := by
  have HL := hid (And.intro hl (And.intro hlo (And.intro hx (And.intro hr (wright_iff.1 hr)))))
  clear hl hlo hx hr
  go_enter Try.func20, Try.ntmps20
  go_wp2_with (go_at_call 21; refine (make_small N A c l _ h1 hm HL.out.1 HL.out.2.1).mono ?_; rintro e w1 ⟨b, b2, E, rfl, hG, hR, hE1, hE2, hE3, hg⟩)
  have H1 := hid (And.intro hG (And.intro hR (And.intro hE2 hg)))
  clear hG hR hg hE2 hE3
  go_wp2_with (go_at_call 50; refine (right_is B cb xs w1 (HL.out.2.2.1.grew H1.out.2.2.2) hxl true HL.out.2.2.2.1).mono ?_; rintro e w2 ⟨rfl, rfl⟩)
  obtain ⟨o, zs, hc⟩ := choose_ex H1.out.2.2.1 xs []
  obtain rfl := hc.free
  have HC := hid (And.intro hc (hc.1.nodup H1.out.2.2.1))
  have hol := hc.1.length H1.out.2.2.1
  clear hc
  have CH : Hid (Calls Try.prog 52 #[.pointer (some ⟨b, 0, none⟩), .slice B xs.length cb, .slice none 0 0] w1 fun e w' => ∃ A' c', e = .returned (.tuple #[.slice A' o.length c', .bool true]) ∧ SlI w' A' o ∧ o.length ≤ c' ∧ Grew w1 w') := hid (by
    refine (choose_at b N E _ B cb xs none 0 [] w1 H1.out.1 (HL.out.2.2.1.grew H1.out.2.2.2) SlI.nil hxl (by simp) (by omega) o [] HC.out.1 true (by decide)).mono ?_
    rintro e w' ⟨A', c', rfl, h1, h2, _, h3⟩
    exact ⟨A', c', rfl, h1, h2, h3⟩)
  go_wp2_with (go_at_call 52; have cX := CH.out; with_reducible refine cX.mono ?_; clear cX; rintro e w3 ⟨A3, c3, rfl, hi3, hcap, hg3⟩)
  have H3 := hid (And.intro hi3 hg3)
  clear hi3 hg3 CH
  have CN : Hid (∀ (W : World) (A' : Option Addr) (c' : Nat) (s ys : List Int) (q : Option Int), Grew w3 W → SlI W A' s → s.length ≤ 30 → IsCyc E s ys → best (wgt xs) ys = q → Calls Try.prog 57 #[.pointer (some ⟨b, 0, none⟩), .slice B xs.length cb, .slice A' s.length c'] W fun e w' => e = .returned (.tuple #[.int .i64 (q.getD 0), .bool q.isSome]) ∧ Grew W w') := hid (fun W A' c' s ys q hW hi hl hy hq =>
    enext_at b N E _ B cb xs A' c' s W (H1.out.1.grew (Grew.trans H3.out.2 hW)) (HL.out.2.2.1.grew (Grew.trans H1.out.2.2.2 (Grew.trans H3.out.2 hW))) hi hxl (by omega) (by omega) ys hy q hq)
  go_loopw [43] (fun i wr => ∃ k : Nat, k ≤ o.length ∧ i = .int .i64 k ∧ Grew w3 wr) (fun i _ => o.length - (intOf i).toNat)
  case atStart => exact ⟨0, Nat.zero_le _, rfl, Only.refl _ _⟩
  case round =>
    obtain ⟨k, hk, rfl, hO⟩ := hrel
    have HO := hid hO
    clear hO
    by_cases hlt : k < o.length
    · have hb0 : (k : Int) < (o.length : Int) := by omega
      have hb1 : (k : Int) ≤ (c3 : Int) := by omega
      have hb2 : k ≤ c3 := by omega
      obtain ⟨bl, off, rfl, hcell⟩ := (H3.out.1.grew HO.out) (by omega)
      have hc := hcell k hlt
      obtain ⟨x, hx⟩ : ∃ x, o[k]? = some x := ⟨_, List.getElem?_eq_getElem hlt⟩
      simp only [hx, Option.getD_some] at hc
      have htl : (o.take k).length = k := by rw [List.length_take]; omega
      have hdr : o = o.take k ++ x :: o.drop (k + 1) := by
        conv => lhs; rw [← List.take_append_drop k o]
        rw [List.drop_eq_getElem_cons hlt]
        have := (List.getElem?_eq_some_iff.1 hx).2
        rw [this]
      obtain ⟨ys, hy, hb⟩ := HC.out.1.1.at _ _ _ hdr
      rw [kept_nil] at hb
      have CC : Hid (Calls Try.prog 57 #[.pointer (some ⟨b, 0, none⟩), .slice B xs.length cb, .slice (some ⟨bl, off, none⟩) k c3] wr fun e w' => e = .returned (.tuple #[.int .i64 x, .bool true]) ∧ Grew wr w') := hid (by
        have h := CN.out wr (some ⟨bl, off, none⟩) c3 (o.take k) ys (some x) HO.out (fun hp => ⟨bl, off, rfl, fun j hj => by
          rw [List.length_take] at hj
          rw [hcell j (by omega), List.getElem?_take, if_pos (by omega)]⟩) (by omega) hy hb
        rwa [htl] at h)
      clear hcell hx hdr hy hb
      go_wp2_with (go_at_call 57; have cX := CC.out; with_reducible refine cX.mono ?_; clear cX; rintro e w4 ⟨rfl, hg4⟩; have H4 := hid (Grew.trans HO.out hg4); clear hg4)
      go_roundw
      case rel => exact ⟨k + 1, by omega, by go_num, H4.out⟩
      case measure => simp [intOf]; omega
    · obtain rfl : k = o.length := by omega
      go_wp2_with (go_at_call 57; have cX := CN.out wr A3 c3 o [] none HO.out (H3.out.1.grew HO.out) (by omega) HC.out.1.2.1 rfl; with_reducible refine cX.mono ?_; clear cX; rintro e w4 ⟨rfl, hg4⟩; have H4 := hid (Grew.trans HO.out hg4); clear hg4)
      go_wp2_with (first
        | (go_at_call 52; refine (choose_nil B cb xs.length w4).mono ?_; rintro e w5 ⟨rfl, hg5⟩; have H5 := hid (Grew.trans H4.out hg5); clear hg5)
        | (go_at_call 51; refine (ealive_at w5).mono ?_; rintro e w6 ⟨rfl, hg6⟩; have H6 := hid (Grew.trans H5.out hg6); clear hg6)
        | (go_at_call 54; refine (breaks_nil none 0 0 w6).mono ?_; rintro e w7 ⟨rfl, hg7⟩; have H7 := hid (Grew.trans H6.out hg7); clear hg7)
        | (go_at_call 59; refine (needed_nil _ 1 1 _).mono ?_; rintro e w8 ⟨rfl, hg8⟩))
      go_ret
      exact ⟨rfl, Grew.trans H1.out.2.2.2 (Grew.trans H3.out.2 (Grew.trans H7.out (Grew.trans (Only.alloc _ _) hg8)))⟩
end Go.Proofs.Ytlpkolmaklnffaa
