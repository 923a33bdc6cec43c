/- The walk of the law EvictChooses. -/
import Derived.Test.YtlpkolmaklnffaaEvA
namespace Go.Proofs.Ytlpkolmaklnffaa
open Go.RowKit Go.MapKept

set_option maxRecDepth 100000 in
set_option maxHeartbeats 1000000 in
theorem echooses_big (n : Int) (A : Option Addr) (c m : Nat) (B : Option Addr) (cb k : Nat) (B2 : Option Addr) (cb2 k2 : Nat) (w : World) (h : n < 0 ∨ 30 < n ∨ 150 < m) :
    Calls Try.prog 15 #[.int .i64 n, .slice A m c, .agg #[.slice B k cb, .slice B2 k2 cb2]] w fun e w' => e = .returned (.bool true) ∧ Grew w w' := by
  go_enter Try.func15, Try.ntmps15
  go_wp2_with (first
    | (go_at_call 21; refine (make_big n A c m _ h).mono ?_; rintro e w1 ⟨rfl, rfl⟩)
    | (go_at_call 51; refine (ealive_at _).mono ?_; rintro e w2 ⟨rfl, hg⟩))
  go_ret
  exact ⟨rfl, Grew.trans (Only.alloc _ _) hg⟩
set_option maxRecDepth 100000 in
set_option maxHeartbeats 1000000 in
theorem echooses_wrong (N : Nat) (A : Option Addr) (c : Nat) (l : List (Int × Int)) (B : Option Addr) (cb : Nat) (xs : List Int) (B2 : Option Addr) (cb2 : Nat) (ys : List Int) (w : World) (h1 : N ≤ 30) (hm : l.length ≤ 150) (hl : SlE w A l) (hlo : ∀ e ∈ l, okE e) (hx : SlI w B xs) (hxl : xs.length ≤ 9223372036854775807) (hr : wrightB xs = false) :
    Calls Try.prog 15 #[.int .i64 N, .slice A l.length c, .agg #[.slice B xs.length cb, .slice B2 ys.length cb2]] w fun e w' => e = .returned (.bool true) ∧ Grew w w' := by
  have HL := hid (And.intro (fun t => hl.grew (Only.alloc w (.cells #[.slice B xs.length cb, .slice B2 ys.length cb2] t))) (And.intro hlo (And.intro hx hr)))
  have HK : Hid (∀ t w', Grew (w.alloc (.cells #[.slice B xs.length cb, .slice B2 ys.length cb2] t)) w' → w'.cell? ⟨w.heap.size, 0, none⟩ = some (.slice B xs.length cb) ∧ w'.cell? ⟨w.heap.size, 1, none⟩ = some (.slice B2 ys.length cb2)) :=
    hid (fun t w' h => ⟨h.cell (cell_of_row _ _ 0 _ _ _ (heap_alloc_new w _)) (fun h => h), h.cell (cell_of_row _ _ 1 _ _ _ (heap_alloc_new w _)) (fun h => h)⟩)
  clear hl hlo hx hr
  go_enter Try.func15, Try.ntmps15
  go_wp2_with (first
    | (go_at_call 21; refine (make_at N A c l _ (by omega) (by omega) hm (HL.out.1 _) HL.out.2.1).mono ?_; rintro e w1 ⟨b, b2, rfl, hG, hR, hg1⟩; have H1 := hid (Grew.trans (Only.alloc _ _) hg1); obtain ⟨k0, k1⟩ := HK.out _ _ hg1; clear hG hR hg1)
    | (go_at_call 50; refine (right_is B cb xs w1 (HL.out.2.2.1.grew H1.out) hxl false HL.out.2.2.2).mono ?_; rintro e w2 ⟨rfl, rfl⟩)
    | (go_at_call 51; refine (ealive_at _).mono ?_; rintro e w2 ⟨rfl, hg⟩))
  go_ret
  exact ⟨rfl, Grew.trans H1.out hg⟩
set_option maxRecDepth 100000 in
set_option maxHeartbeats 1000000 in
theorem echooses_many (N : Nat) (A : Option Addr) (c : Nat) (l : List (Int × Int)) (B : Option Addr) (cb : Nat) (xs : List Int) (B2 : Option Addr) (cb2 : Nat) (ys : List Int) (w : World) (h1 : N ≤ 30) (hm : l.length ≤ 150) (hl : SlE w A l) (hlo : ∀ e ∈ l, okE e) (hx : SlI w B xs) (hxl : xs.length ≤ 9223372036854775807) (hr : wrightB xs = true) (hk : 60 < ys.length) :
    Calls Try.prog 15 #[.int .i64 N, .slice A l.length c, .agg #[.slice B xs.length cb, .slice B2 ys.length cb2]] w fun e w' => e = .returned (.bool true) ∧ Grew w w' := by
  have h6 : decide ((60 : Int) < (ys.length : Int)) = true := by simp; omega
  have HL := hid (And.intro (fun t => hl.grew (Only.alloc w (.cells #[.slice B xs.length cb, .slice B2 ys.length cb2] t))) (And.intro hlo (And.intro hx hr)))
  have HK : Hid (∀ t w', Grew (w.alloc (.cells #[.slice B xs.length cb, .slice B2 ys.length cb2] t)) w' → w'.cell? ⟨w.heap.size, 0, none⟩ = some (.slice B xs.length cb) ∧ w'.cell? ⟨w.heap.size, 1, none⟩ = some (.slice B2 ys.length cb2)) :=
    hid (fun t w' h => ⟨h.cell (cell_of_row _ _ 0 _ _ _ (heap_alloc_new w _)) (fun h => h), h.cell (cell_of_row _ _ 1 _ _ _ (heap_alloc_new w _)) (fun h => h)⟩)
  clear hl hlo hx hr
  go_enter Try.func15, Try.ntmps15
  go_wp2_with (first
    | (go_at_call 21; refine (make_at N A c l _ (by omega) (by omega) hm (HL.out.1 _) HL.out.2.1).mono ?_; rintro e w1 ⟨b, b2, rfl, hG, hR, hg1⟩; have H1 := hid (Grew.trans (Only.alloc _ _) hg1); obtain ⟨k0, k1⟩ := HK.out _ _ hg1; clear hG hR hg1)
    | (go_at_call 50; refine (right_is B cb xs w1 (HL.out.2.2.1.grew H1.out) hxl true HL.out.2.2.2).mono ?_; rintro e w2 ⟨rfl, rfl⟩)
    | (go_at_call 51; refine (ealive_at _).mono ?_; rintro e w2 ⟨rfl, hg⟩))
  go_ret
  exact ⟨rfl, Grew.trans H1.out hg⟩
set_option maxRecDepth 100000 in
set_option maxHeartbeats 2000000 in
theorem echooses_at (N : Nat) (A : Option Addr) (c : Nat) (l : List (Int × Int)) (B : Option Addr) (cb : Nat) (xs : List Int) (B2 : Option Addr) (cb2 : Nat) (ys : List Int) (w : World) (h1 : N ≤ 30) (hm : l.length ≤ 150) (hl : SlE w A l) (hlo : ∀ e ∈ l, okE e) (hx : SlI w B xs) (hxl : xs.length ≤ 9223372036854775807) (hy : SlI w B2 ys) (hr : wrightB xs = true) (hk : ys.length ≤ 60) :
    Calls Try.prog 15 #[.int .i64 N, .slice A l.length c, .agg #[.slice B xs.length cb, .slice B2 ys.length cb2]] w fun e w' => e = .returned (.bool true) ∧ Grew w w' := by
  have h6 : decide ((60 : Int) < (ys.length : Int)) = false := by simp; omega
  have HL := hid (And.intro (fun t => hl.grew (Only.alloc w (.cells #[.slice B xs.length cb, .slice B2 ys.length cb2] t))) (And.intro hlo (And.intro hx (And.intro hr (And.intro hy (wright_iff.1 hr))))))
  have HK : Hid (∀ t w', Grew (w.alloc (.cells #[.slice B xs.length cb, .slice B2 ys.length cb2] t)) w' → w'.cell? ⟨w.heap.size, 0, none⟩ = some (.slice B xs.length cb) ∧ w'.cell? ⟨w.heap.size, 1, none⟩ = some (.slice B2 ys.length cb2)) :=
    hid (fun t w' h => ⟨h.cell (cell_of_row _ _ 0 _ _ _ (heap_alloc_new w _)) (fun h => h), h.cell (cell_of_row _ _ 1 _ _ _ (heap_alloc_new w _)) (fun h => h)⟩)
  clear hl hlo hx hr hy
  go_enter Try.func15, Try.ntmps15
  go_wp2_with (go_at_call 21; refine (make_small N A c l _ h1 hm (HL.out.1 _) HL.out.2.1).mono ?_; rintro e w1 ⟨b, b2, E, rfl, hG, hR, hE1, hE2, hE3, hg⟩; obtain ⟨k0, k1⟩ := HK.out _ _ hg)
  have HS : Hid (∀ w', Grew w1 w' → w'.cell? ⟨w.heap.size, 0, none⟩ = some (.slice B xs.length cb) ∧ w'.cell? ⟨w.heap.size, 1, none⟩ = some (.slice B2 ys.length cb2)) := hid (fun w' h => HK.out _ w' (Grew.trans hg h))
  have H1 := hid (And.intro hG (And.intro hR (And.intro hE2 (Grew.trans (Only.alloc _ _) hg))))
  clear hG hR hg hE2 hE3 HK
  go_wp2_with (go_at_call 50; refine (right_is B cb xs w1 (HL.out.2.2.1.grew H1.out.2.2.2) hxl true HL.out.2.2.2.1).mono ?_; rintro e w2 ⟨rfl, rfl⟩)
  obtain ⟨o, zs, hc⟩ := choose_ex H1.out.2.2.1 xs ys
  obtain ⟨r, hr⟩ : ∃ r : Bool, decide (zs = []) = r := ⟨_, rfl⟩
  have HC := hid (And.intro hc hr)
  have hol := hc.1.length H1.out.2.2.1
  clear hc hr
  go_wp2_with (go_at_call 52; refine (choose_at b N E _ B cb xs B2 cb2 ys w1 H1.out.1 (HL.out.2.2.1.grew H1.out.2.2.2) (HL.out.2.2.2.2.1.grew H1.out.2.2.2) hxl (by omega) (by omega) o zs HC.out.1 r HC.out.2).mono ?_; rintro e w3 ⟨A3, c3, rfl, hi3, _, _, hg3⟩; obtain ⟨k03, k13⟩ := HS.out w3 hg3)
  have H3 := hid (And.intro hi3 hg3)
  clear hi3 hg3
  go_wp2_with (go_at_call 53; refine (rchoose_at b2 N E _ B cb xs B2 cb2 ys w3 (H1.out.2.1.grew H3.out.2) (HL.out.2.2.1.grew (Grew.trans H1.out.2.2.2 H3.out.2)) (HL.out.2.2.2.2.1.grew (Grew.trans H1.out.2.2.2 H3.out.2)) hxl (by omega) (by omega) (by omega) H1.out.2.2.1 o zs HC.out.1 r HC.out.2).mono ?_; rintro e w4 ⟨A4, c4, rfl, hi4, hg4⟩)
  have H4 := hid (And.intro hi4 hg4)
  clear hi4 hg4 k0 k1 k03 k13
  have hrl : (ordRes r o).length ≤ 30 := by unfold ordRes; split; omega; exact Nat.zero_le _
  generalize ordRes r o = d at *
  cases r
  all_goals
    go_wp2_with (first
      | (go_at_call 51; refine (ealive_at w4).mono ?_; rintro e w5 ⟨rfl, hg5⟩; have H5 := hid hg5; clear hg5)
      | (go_at_call 23; refine (equal_same A3 A4 c3 c4 d w5 ((H3.out.1.grew H4.out.2).grew H5.out) (H4.out.1.grew H5.out) (by omega)).mono ?_; rintro e w6 ⟨rfl, hg6⟩))
    go_ret
    exact ⟨rfl, Grew.trans H1.out.2.2.2 (Grew.trans H3.out.2 (Grew.trans H4.out.2 (Grew.trans H5.out hg6)))⟩
end Go.Proofs.Ytlpkolmaklnffaa
