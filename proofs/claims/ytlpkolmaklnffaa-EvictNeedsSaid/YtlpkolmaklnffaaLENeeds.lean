/- The walk of the law EvictNeeds. -/
import Derived.Test.YtlpkolmaklnffaaEvA
import Derived.Test.YtlpkolmaklnffaaEvF
namespace Go.Proofs.Ytlpkolmaklnffaa
open Go.RowKit Go.MapKept

theorem samef2_at (x k : Int) (B0 : Nat) (W : World) (hc : W.cell? ⟨B0, 0, none⟩ = some (.int .i64 k)) :
    Calls Try.prog 62 #[.int .i64 x, .pointer (some ⟨B0, 0, none⟩)] W fun e w' => e = .returned (.bool (decide (x = k))) ∧ ∃ q, w' = W.drewN q := by
  obtain ⟨r, hr⟩ : ∃ r : Bool, (x == k) = r := ⟨_, rfl⟩
  have HR : Hid (decide (x = k) = r) := hid (by rw [← hr]; rfl)
  go_enter Try.func62, Try.ntmps62
  go_wp2
  go_ret
  exact ⟨by rw [HR.out]; rfl, 0, rfl⟩
theorem eg62 (args : Array Value) (w : World) : (callFunc 62 args).run Try.prog w = .ok (.enter 62 args) w := enters_of Try.func62 (by kernel_rfl) rfl args w
set_option maxRecDepth 100000 in
set_option maxHeartbeats 1000000 in
theorem eneeds_big (n : Int) (A : Option Addr) (c m : Nat) (B : Option Addr) (cb k : Nat) (w : World) (h : n < 0 ∨ 30 < n ∨ 150 < m) :
    Calls Try.prog 19 #[.int .i64 n, .slice A m c, .slice B k cb] w fun e w' => e = .returned (.bool true) ∧ Grew w w' := by
  go_enter Try.func19, Try.ntmps19
  go_wp2_with (first
    | (go_at_call 21; refine (make_big n A c m _ h).mono ?_; rintro e w1 ⟨rfl, rfl⟩)
    | (go_at_call 51; refine (ealive_at _).mono ?_; rintro e w2 ⟨rfl, hg⟩))
  go_ret
  exact ⟨rfl, hg⟩
set_option maxRecDepth 100000 in
set_option maxHeartbeats 1000000 in
theorem eneeds_many (N : Nat) (A : Option Addr) (c : Nat) (l : List (Int × Int)) (B : Option Addr) (cb k : Nat) (w : World) (h1 : N ≤ 30) (hm : l.length ≤ 150) (hl : SlE w A l) (hlo : ∀ e ∈ l, okE e) (hk : 60 < k) :
    Calls Try.prog 19 #[.int .i64 N, .slice A l.length c, .slice B k cb] w fun e w' => e = .returned (.bool true) ∧ Grew w w' := by
  have h6 : decide ((60 : Int) < (k : Int)) = true := by simp; omega
  have HL := hid (And.intro hl hlo)
  clear hl hlo
  go_enter Try.func19, Try.ntmps19
  go_wp2_with (first
    | (go_at_call 21; refine (make_at N A c l w (by omega) (by omega) hm HL.out.1 HL.out.2).mono ?_; rintro e w1 ⟨b, b2, rfl, hG, hR, hg1⟩; have H1 := hid hg1; clear hG hR hg1)
    | (go_at_call 51; refine (ealive_at _).mono ?_; rintro e w2 ⟨rfl, hg⟩))
  go_ret
  exact ⟨rfl, Grew.trans H1.out hg⟩
set_option maxRecDepth 100000 in
set_option maxHeartbeats 2000000 in
theorem eneeds_at (N : Nat) (A : Option Addr) (c : Nat) (l : List (Int × Int)) (B : Option Addr) (cb : Nat) (xs : List Int) (w : World) (h1 : N ≤ 30) (hm : l.length ≤ 150) (hl : SlE w A l) (hlo : ∀ e ∈ l, okE e) (hx : SlI w B xs) (hk : xs.length ≤ 60) :
    Calls Try.prog 19 #[.int .i64 N, .slice A l.length c, .slice B xs.length cb] w fun e w' => e = .returned (.bool true) ∧ Grew w w' := by
  have h6 : decide ((60 : Int) < (xs.length : Int)) = false := by simp; omega
  have HL := hid (And.intro hl (And.intro hlo hx))
  clear hl hlo hx
  go_enter Try.func19, Try.ntmps19
  go_wp2_with (go_at_call 21; refine (make_small N A c l w h1 hm HL.out.1 HL.out.2.1).mono ?_; rintro e w1 ⟨b, b2, E, rfl, hG, hR, hE1, hE2, hE3, hg⟩)
  have H1 := hid (And.intro hG (And.intro hR (And.intro hE2 hg)))
  clear hG hR hg hE2 hE3
  obtain ⟨ys, hy⟩ := needed_ex E N xs
  have HY := hid hy
  have hyl : ys.length ≤ N := length_le_of_range (hy.lt.imp (fun h e => by omega)) (fun x hx => ((hy.mem x).1 hx).1)
  clear hy
  obtain ⟨zs, hz⟩ := cyc_ex H1.out.2.2.1 xs
  obtain ⟨r, hr⟩ : ∃ r : Bool, decide (zs = []) = r := ⟨_, rfl⟩
  have hz2 : ((zs.length : Int) == 0) = r := by
    rw [← hr]
    show decide ((zs.length : Int) = 0) = _
    congr 1
    rw [eq_iff_iff, ← List.length_eq_zero_iff]
    omega
  have HZ := hid (And.intro hz hr)
  clear hz hr
  go_wp2_with (go_at_call 59; refine (needed_at b N E _ B cb xs w1 H1.out.1 (HL.out.2.2.grew H1.out.2.2.2) (by omega) (by omega) ys HY.out).mono ?_; rintro e w3 ⟨A3, c3, rfl, hi3, hg3⟩)
  have H3 := hid (And.intro hi3 hg3)
  clear hi3 hg3
  go_loopw [33] (fun i wr => ∃ k : Nat, k ≤ ys.length ∧ i = .int .i64 k ∧ Grew w3 wr) (fun i _ => ys.length - (intOf i).toNat)
  case atStart => exact ⟨0, Nat.zero_le _, rfl, Only.refl _ _⟩
  case round =>
    obtain ⟨k, hk2, rfl, hO⟩ := hrel
    have HO := hid (And.intro hO (Grew.trans H1.out.2.2.2 (Grew.trans H3.out.2 hO)))
    clear hO
    by_cases hlt : k < ys.length
    · have hb0 : (k : Int) < (ys.length : Int) := by omega
      obtain ⟨bl, off, rfl, hcell⟩ := (H3.out.1.grew HO.out.1) (by omega)
      have hc := hcell k hlt
      obtain ⟨x, hx⟩ : ∃ x, ys[k]? = some x := ⟨_, List.getElem?_eq_getElem hlt⟩
      simp only [hx, Option.getD_some] at hc
      have HNA : Hid (¬ Acyc E (others xs x)) := hid ((HY.out.mem x).1 (List.mem_of_getElem? hx)).2.2
      clear hcell hx
      go_wp2_with fail
      go_at_call 61
      have HGk := hid (Only.alloc (F := fun _ => False) wr (.cells #[.int .i64 x] 3))
      have hck := cell_of_one (heap_alloc_new wr (.cells #[.int .i64 x] 3))
      have hsk : (wr.alloc (.cells #[.int .i64 x] 3)).heap.size = wr.heap.size + 1 := by simp
      refine (clone_at B cb xs _ (HL.out.2.2.grew (Grew.trans HO.out.2 HGk.out)) (by omega)).mono ?_
      generalize wr.alloc (.cells #[.int .i64 x] 3) = Wk at *
      rintro e w4 ⟨v4, rfl, hn4, hg4⟩
      have hck4 := hg4.cell hck (fun h => h)
      have hs4 := hg4.size
      have H4 := hid (And.intro hn4 (Grew.trans HGk.out hg4))
      clear hn4 hg4 hck
      have CD : Hid (Calls Try.prog 60 #[v4, .func (.func 62) #[] #[.pointer (some ⟨wr.heap.size, 0, none⟩)]] w4 fun e w' => ∃ A' c', e = .returned (.slice A' (others xs x).length c') ∧ SlI w' A' (others xs x) ∧ Grew wr w') := hid (by
        refine (delete_at 62 #[.pointer (some ⟨wr.heap.size, 0, none⟩)] eg62 (fun u => decide (u = x)) Wk.heap.size v4 xs w4 H4.out.1 (by omega) (fun W u hW => ?_)).mono ?_
        · have hO : Only (fun i => Wk.heap.size ≤ i) w4 W := hW.mono (fun i hi h => (World.ownsRow.lt H4.out.1 i h).1)
          exact samef2_at u x wr.heap.size W (hO.cell hck4 (by show ¬ Wk.heap.size ≤ wr.heap.size; omega))
        · rintro e w' ⟨A', c', rfl, h1, _, h2⟩
          have h3 : Only (fun i => Wk.heap.size ≤ i) wr w' := (Grew.to H4.out.2).trans h2 (fun i hi h => (World.ownsRow.lt H4.out.1 i h).1)
          exact ⟨A', c', rfl, h1, h3.mono (fun i hi h => by omega)⟩)
      obtain ⟨zz, hzz⟩ := cyc_ex H1.out.2.2.1 (others xs x)
      have hol := others_le xs x
      have HZZ := hid (And.intro hzz (show decide (zz = []) = false by simpa using fun h => HNA.out (hzz.nil_iff.1 h)))
      clear hzz hck4
      generalize others xs x = O at *
      go_wp2_with (go_at_call 60; have cX := CD.out; with_reducible refine cX.mono ?_; clear cX; rintro e w5 ⟨A5, c5, rfl, hi5, hg5⟩; have H5 := hid (And.intro hi5 (Grew.trans HO.out.1 hg5)); clear hi5 hg5)
      go_wp2_with (go_at_call 54; refine (breaks_is b N E _ A5 c5 O w5 (H1.out.1.grew (Grew.trans H3.out.2 H5.out.2)) H5.out.1 (by omega) (by omega) H1.out.2.2.1 zz HZZ.out.1 false HZZ.out.2).mono ?_; rintro e w6 ⟨rfl, hg6⟩; have H6 := hid (Grew.trans H5.out.2 hg6); clear hg6)
      go_roundw
      case rel => exact ⟨k + 1, by omega, by go_num, H6.out⟩
      case measure => simp [intOf]; omega
    · obtain rfl : k = ys.length := by omega
      have CC : Hid (∀ W, Grew w1 W → Calls Try.prog 49 #[.pointer (some ⟨b2, 0, none⟩), .slice B xs.length cb] W fun e w' => ∃ A c, e = .returned (.slice A zs.length c) ∧ Grew W w') := hid (fun W hW => by
        refine (rcyclic_at b2 N E _ B cb xs W (H1.out.2.1.grew hW) (HL.out.2.2.grew (Grew.trans H1.out.2.2.2 hW)) (by omega) (by omega) (by omega) H1.out.2.2.1 zs HZ.out.1).mono ?_
        rintro e w' ⟨v, rfl, hn, hg⟩
        obtain ⟨A, c, rfl, _⟩ := hn.form
        exact ⟨A, c, rfl, hg⟩)
      have HW0 : Hid (Grew w1 wr) := hid (Grew.trans H3.out.2 HO.out.1)
      cases r
      all_goals
        go_wp2_with (first
          | (go_at_call 51; refine (ealive_at wr).mono ?_; rintro e w4 ⟨rfl, hg4⟩; have H4 := hid (And.intro (Grew.trans HW0.out hg4) (Grew.trans HO.out.1 hg4)); clear hg4)
          | (go_at_call 63; refine (rneeded_at b2 N E _ B cb xs w4 (H1.out.2.1.grew H4.out.1) (HL.out.2.2.grew (Grew.trans H1.out.2.2.2 H4.out.1)) (by omega) (by omega) (by omega) H1.out.2.2.1 ys HY.out).mono ?_; rintro e w5 ⟨A5, c5, rfl, hi5, hg5⟩; have H5 := hid (And.intro hi5 (And.intro (Grew.trans H4.out.1 hg5) (Grew.trans H4.out.2 hg5))); clear hi5 hg5)
          | (go_at_call 23; refine (equal_same A3 A5 c3 c5 ys w5 (H3.out.1.grew H5.out.2.2) H5.out.1 (by omega)).mono ?_; rintro e w6 ⟨rfl, hg6⟩; have H6 := hid (Grew.trans H5.out.2.1 hg6); clear hg6)
          | (go_at_call 54; refine (breaks_is b N E _ B cb xs w6 (H1.out.1.grew H6.out) (HL.out.2.2.grew (Grew.trans H1.out.2.2.2 H6.out)) (by omega) (by omega) H1.out.2.2.1 zs HZ.out.1 _ HZ.out.2).mono ?_; rintro e w7 ⟨rfl, hg7⟩; have H7 := hid (Grew.trans H6.out hg7); clear hg7)
          | (go_at_call 49; have cX := CC.out w7 H7.out; with_reducible refine cX.mono ?_; clear cX; rintro e w8 ⟨A8, c8, rfl, hg8⟩))
        go_ret
        exact ⟨rfl, Grew.trans H1.out.2.2.2 (Grew.trans H7.out hg8)⟩
end Go.Proofs.Ytlpkolmaklnffaa
