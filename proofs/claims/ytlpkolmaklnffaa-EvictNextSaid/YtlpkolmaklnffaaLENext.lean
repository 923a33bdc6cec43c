/- The walk of the law EvictNext. -/
import Derived.Test.YtlpkolmaklnffaaEvA
namespace Go.Proofs.Ytlpkolmaklnffaa
open Go.RowKit Go.MapKept

set_option maxRecDepth 100000 in
set_option maxHeartbeats 1000000 in
theorem enxt_big (n : Int) (A : Option Addr) (c m : Nat) (B : Option Addr) (cb k : Nat) (B2 : Option Addr) (cb2 k2 : Nat) (w : World) (h : n < 0 ∨ 30 < n ∨ 150 < m) :
    Calls Try.prog 18 #[.int .i64 n, .slice A m c, .agg #[.slice B k cb, .slice B2 k2 cb2]] w fun e w' => e = .returned (.bool true) ∧ Grew w w' := by
  go_enter Try.func18, Try.ntmps18
  go_wp2_with (first
    | (go_at_call 21; refine (make_big n A c m _ h).mono ?_; rintro e w1 ⟨rfl, rfl⟩)
    | (go_at_call 51; refine (ealive_at _).mono ?_; rintro e w2 ⟨rfl, hg⟩))
  go_ret
  exact ⟨rfl, Grew.trans (Only.alloc _ _) hg⟩
set_option maxRecDepth 100000 in
set_option maxHeartbeats 1000000 in
theorem enxt_wrong (N : Nat) (A : Option Addr) (c : Nat) (l : List (Int × Int)) (B : Option Addr) (cb : Nat) (xs : List Int) (B2 : Option Addr) (cb2 : Nat) (ys : List Int) (w : World) (h1 : N ≤ 30) (hm : l.length ≤ 150) (hl : SlE w A l) (hlo : ∀ e ∈ l, okE e) (hx : SlI w B xs) (hxl : xs.length ≤ 9223372036854775807) (hr : wrightB xs = false) :
    Calls Try.prog 18 #[.int .i64 N, .slice A l.length c, .agg #[.slice B xs.length cb, .slice B2 ys.length cb2]] w fun e w' => e = .returned (.bool true) ∧ Grew w w' := by
  have HL := hid (And.intro (fun t => hl.grew (Only.alloc w (.cells #[.slice B xs.length cb, .slice B2 ys.length cb2] t))) (And.intro hlo (And.intro hx hr)))
  have HK : Hid (∀ t w', Grew (w.alloc (.cells #[.slice B xs.length cb, .slice B2 ys.length cb2] t)) w' → w'.cell? ⟨w.heap.size, 0, none⟩ = some (.slice B xs.length cb) ∧ w'.cell? ⟨w.heap.size, 1, none⟩ = some (.slice B2 ys.length cb2)) :=
    hid (fun t w' h => ⟨h.cell (cell_of_row _ _ 0 _ _ _ (heap_alloc_new w _)) (fun h => h), h.cell (cell_of_row _ _ 1 _ _ _ (heap_alloc_new w _)) (fun h => h)⟩)
  clear hl hlo hx hr
  go_enter Try.func18, Try.ntmps18
  go_wp2_with (first
    | (go_at_call 21; refine (make_at N A c l _ (by omega) (by omega) hm (HL.out.1 _) HL.out.2.1).mono ?_; rintro e w1 ⟨b, b2, rfl, hG, hR, hg1⟩; have H1 := hid (Grew.trans (Only.alloc _ _) hg1); obtain ⟨k0, k1⟩ := HK.out _ _ hg1; clear hG hR hg1)
    | (go_at_call 50; refine (right_is B cb xs w1 (HL.out.2.2.1.grew H1.out) hxl false HL.out.2.2.2).mono ?_; rintro e w2 ⟨rfl, rfl⟩)
    | (go_at_call 51; refine (ealive_at _).mono ?_; rintro e w2 ⟨rfl, hg⟩))
  go_ret
  exact ⟨rfl, Grew.trans H1.out hg⟩
set_option maxRecDepth 100000 in
set_option maxHeartbeats 1000000 in
theorem enxt_many (N : Nat) (A : Option Addr) (c : Nat) (l : List (Int × Int)) (B : Option Addr) (cb : Nat) (xs : List Int) (B2 : Option Addr) (cb2 : Nat) (ys : List Int) (w : World) (h1 : N ≤ 30) (hm : l.length ≤ 150) (hl : SlE w A l) (hlo : ∀ e ∈ l, okE e) (hx : SlI w B xs) (hxl : xs.length ≤ 9223372036854775807) (hr : wrightB xs = true) (hk : 60 < ys.length) :
    Calls Try.prog 18 #[.int .i64 N, .slice A l.length c, .agg #[.slice B xs.length cb, .slice B2 ys.length cb2]] w fun e w' => e = .returned (.bool true) ∧ Grew w w' := by
  have h6 : decide ((60 : Int) < (ys.length : Int)) = true := by simp; omega
  have HL := hid (And.intro (fun t => hl.grew (Only.alloc w (.cells #[.slice B xs.length cb, .slice B2 ys.length cb2] t))) (And.intro hlo (And.intro hx hr)))
  have HK : Hid (∀ t w', Grew (w.alloc (.cells #[.slice B xs.length cb, .slice B2 ys.length cb2] t)) w' → w'.cell? ⟨w.heap.size, 0, none⟩ = some (.slice B xs.length cb) ∧ w'.cell? ⟨w.heap.size, 1, none⟩ = some (.slice B2 ys.length cb2)) :=
    hid (fun t w' h => ⟨h.cell (cell_of_row _ _ 0 _ _ _ (heap_alloc_new w _)) (fun h => h), h.cell (cell_of_row _ _ 1 _ _ _ (heap_alloc_new w _)) (fun h => h)⟩)
  clear hl hlo hx hr
  go_enter Try.func18, Try.ntmps18
  go_wp2_with (first
    | (go_at_call 21; refine (make_at N A c l _ (by omega) (by omega) hm (HL.out.1 _) HL.out.2.1).mono ?_; rintro e w1 ⟨b, b2, rfl, hG, hR, hg1⟩; have H1 := hid (Grew.trans (Only.alloc _ _) hg1); obtain ⟨k0, k1⟩ := HK.out _ _ hg1; clear hG hR hg1)
    | (go_at_call 50; refine (right_is B cb xs w1 (HL.out.2.2.1.grew H1.out) hxl true HL.out.2.2.2).mono ?_; rintro e w2 ⟨rfl, rfl⟩)
    | (go_at_call 51; refine (ealive_at _).mono ?_; rintro e w2 ⟨rfl, hg⟩))
  go_ret
  exact ⟨rfl, Grew.trans H1.out hg⟩
set_option maxRecDepth 100000 in
set_option maxHeartbeats 2000000 in
theorem enxt_at (N : Nat) (A : Option Addr) (c : Nat) (l : List (Int × Int)) (B : Option Addr) (cb : Nat) (xs : List Int) (B2 : Option Addr) (cb2 : Nat) (ys : List Int) (w : World) (h1 : N ≤ 30) (hm : l.length ≤ 150) (hl : SlE w A l) (hlo : ∀ e ∈ l, okE e) (hx : SlI w B xs) (hxl : xs.length ≤ 9223372036854775807) (hy : SlI w B2 ys) (hr : wrightB xs = true) (hk : ys.length ≤ 60) :
    Calls Try.prog 18 #[.int .i64 N, .slice A l.length c, .agg #[.slice B xs.length cb, .slice B2 ys.length cb2]] w fun e w' => e = .returned (.bool true) ∧ Grew w w' := by
  have h6 : decide ((60 : Int) < (ys.length : Int)) = false := by simp; omega
  have HL := hid (And.intro (fun t => hl.grew (Only.alloc w (.cells #[.slice B xs.length cb, .slice B2 ys.length cb2] t))) (And.intro hlo (And.intro hx (And.intro hr (And.intro hy (wright_iff.1 hr))))))
  have HK : Hid (∀ t w', Grew (w.alloc (.cells #[.slice B xs.length cb, .slice B2 ys.length cb2] t)) w' → w'.cell? ⟨w.heap.size, 0, none⟩ = some (.slice B xs.length cb) ∧ w'.cell? ⟨w.heap.size, 1, none⟩ = some (.slice B2 ys.length cb2)) :=
    hid (fun t w' h => ⟨h.cell (cell_of_row _ _ 0 _ _ _ (heap_alloc_new w _)) (fun h => h), h.cell (cell_of_row _ _ 1 _ _ _ (heap_alloc_new w _)) (fun h => h)⟩)
  clear hl hlo hx hr hy
  go_enter Try.func18, Try.ntmps18
  go_wp2_with (go_at_call 21; refine (make_small N A c l _ h1 hm (HL.out.1 _) HL.out.2.1).mono ?_; rintro e w1 ⟨b, b2, E, rfl, hG, hR, hE1, hE2, hE3, hg⟩; obtain ⟨k0, k1⟩ := HK.out _ _ hg)
  have HS : Hid (∀ w', Grew w1 w' → w'.cell? ⟨w.heap.size, 0, none⟩ = some (.slice B xs.length cb) ∧ w'.cell? ⟨w.heap.size, 1, none⟩ = some (.slice B2 ys.length cb2)) := hid (fun w' h => HK.out _ w' (Grew.trans hg h))
  have H1 := hid (And.intro hG (And.intro hR (And.intro hE2 (Grew.trans (Only.alloc _ _) hg))))
  clear hG hR hg hE2 hE3 HK
  go_wp2_with (go_at_call 50; refine (right_is B cb xs w1 (HL.out.2.2.1.grew H1.out.2.2.2) hxl true HL.out.2.2.2.1).mono ?_; rintro e w2 ⟨rfl, rfl⟩)
  obtain ⟨zs, hz⟩ := cyc_ex H1.out.2.2.1 ys
  obtain ⟨o, ho⟩ : ∃ o, best (wgt xs) zs = o := ⟨_, rfl⟩
  have HC := hid (And.intro hz ho)
  have CR : Hid (∀ W, Grew w1 W → Calls Try.prog 58 #[.pointer (some ⟨b2, 0, none⟩), .slice B xs.length cb, .slice B2 ys.length cb2, .slice none 0 0] W fun e w' => e = .returned (.int .i64 (o.getD (-1))) ∧ Grew W w') := hid (fun W hW => by
    have h := rnext_at b2 N E _ B cb xs B2 cb2 ys none 0 [] W (H1.out.2.1.grew hW) (HL.out.2.2.1.grew (Grew.trans H1.out.2.2.2 hW)) (HL.out.2.2.2.2.1.grew (Grew.trans H1.out.2.2.2 hW)) SlI.nil hxl (by omega) (by simp) (by omega) (by omega) H1.out.2.2.1 zs HC.out.1
    rw [kept_nil, HC.out.2] at h
    exact h)
  go_wp2_with (go_at_call 57; refine (enext_at b N E _ B cb xs B2 cb2 ys w1 H1.out.1 (HL.out.2.2.1.grew H1.out.2.2.2) (HL.out.2.2.2.2.1.grew H1.out.2.2.2) hxl (by omega) (by omega) zs HC.out.1 o HC.out.2).mono ?_; rintro e w3 ⟨rfl, hg3⟩; obtain ⟨k03, k13⟩ := HS.out w3 hg3)
  have H3 := hid hg3
  clear hg3 hz ho
  cases o with
  | none =>
    go_wp2_with (first
      | (go_at_call 58; have cX := CR.out w3 H3.out; with_reducible refine cX.mono ?_; clear cX; rintro e w4 ⟨rfl, hg4⟩; have H4 := hid hg4; clear hg4 k0 k1 k03 k13)
      | (go_at_call 51; refine (ealive_at w4).mono ?_; rintro e w5 ⟨rfl, hg5⟩))
    go_ret
    exact ⟨rfl, Grew.trans H1.out.2.2.2 (Grew.trans H3.out (Grew.trans H4.out hg5))⟩
  | some v =>
    obtain ⟨m, rfl⟩ := Int.eq_ofNat_of_zero_le (HC.out.1.range H1.out.2.2.1 (best_mem HC.out.2)).1
    go_wp2_with (first
      | (go_at_call 58; have cX := CR.out w3 H3.out; with_reducible refine cX.mono ?_; clear cX; rintro e w4 ⟨rfl, hg4⟩; have H4 := hid hg4; clear hg4 k0 k1 k03 k13)
      | (go_at_call 51; refine (ealive_at w4).mono ?_; rintro e w5 ⟨rfl, hg5⟩))
    go_ret
    exact ⟨rfl, Grew.trans H1.out.2.2.2 (Grew.trans H3.out (Grew.trans H4.out hg5))⟩
end Go.Proofs.Ytlpkolmaklnffaa
