/- The walk of the law EvictCosts. -/
import Derived.Test.YtlpkolmaklnffaaEvA
import Derived.Deep.RegionHeld3
namespace Go.Proofs.Ytlpkolmaklnffaa
open Go.RowKit Go.MapKept

set_option maxRecDepth 100000 in
set_option maxHeartbeats 1000000 in
theorem ecosts_big (n : Int) (A : Option Addr) (c m : Nat) (B : Option Addr) (cb k : Nat) (B2 : Option Addr) (cb2 k2 : Nat) (w : World) (h : n < 0 ∨ 30 < n ∨ 150 < m) :
    Calls Try.prog 17 #[.int .i64 n, .slice A m c, .agg #[.slice B k cb, .slice B2 k2 cb2]] w fun e w' => e = .returned (.bool true) ∧ Grew w w' := by
  go_enter Try.func17, Try.ntmps17
  go_wp2_with (first
    | (go_at_call 21; refine (make_big n A c m _ h).mono ?_; rintro e w1 ⟨rfl, rfl⟩)
    | (go_at_call 51; refine (ealive_at _).mono ?_; rintro e w2 ⟨rfl, hg⟩))
  go_ret
  exact ⟨rfl, Grew.trans (Only.alloc _ _) hg⟩
set_option maxRecDepth 100000 in
set_option maxHeartbeats 1000000 in
theorem ecosts_wrong (N : Nat) (A : Option Addr) (c : Nat) (l : List (Int × Int)) (B : Option Addr) (cb : Nat) (xs : List Int) (B2 : Option Addr) (cb2 : Nat) (ys : List Int) (w : World) (h1 : N ≤ 30) (hm : l.length ≤ 150) (hl : SlE w A l) (hlo : ∀ e ∈ l, okE e) (hx : SlI w B xs) (hxl : xs.length ≤ 9223372036854775807) (hr : wrightB xs = false) :
    Calls Try.prog 17 #[.int .i64 N, .slice A l.length c, .agg #[.slice B xs.length cb, .slice B2 ys.length cb2]] w fun e w' => e = .returned (.bool true) ∧ Grew w w' := by
  have HL := hid (And.intro (fun t => hl.grew (Only.alloc w (.cells #[.slice B xs.length cb, .slice B2 ys.length cb2] t))) (And.intro hlo (And.intro hx hr)))
  have HK : Hid (∀ t w', Grew (w.alloc (.cells #[.slice B xs.length cb, .slice B2 ys.length cb2] t)) w' → w'.cell? ⟨w.heap.size, 0, none⟩ = some (.slice B xs.length cb) ∧ w'.cell? ⟨w.heap.size, 1, none⟩ = some (.slice B2 ys.length cb2)) :=
    hid (fun t w' h => ⟨h.cell (cell_of_row _ _ 0 _ _ _ (heap_alloc_new w _)) (fun h => h), h.cell (cell_of_row _ _ 1 _ _ _ (heap_alloc_new w _)) (fun h => h)⟩)
  clear hl hlo hx hr
  go_enter Try.func17, Try.ntmps17
  go_wp2_with (first
    | (go_at_call 21; refine (make_at N A c l _ (by omega) (by omega) hm (HL.out.1 _) HL.out.2.1).mono ?_; rintro e w1 ⟨b, b2, rfl, hG, hR, hg1⟩; have H1 := hid (Grew.trans (Only.alloc _ _) hg1); obtain ⟨k0, k1⟩ := HK.out _ _ hg1; clear hG hR hg1)
    | (go_at_call 50; refine (right_is B cb xs w1 (HL.out.2.2.1.grew H1.out) hxl false HL.out.2.2.2).mono ?_; rintro e w2 ⟨rfl, rfl⟩)
    | (go_at_call 51; refine (ealive_at _).mono ?_; rintro e w2 ⟨rfl, hg⟩))
  go_ret
  exact ⟨rfl, Grew.trans H1.out hg⟩
set_option maxRecDepth 100000 in
set_option maxHeartbeats 1000000 in
theorem ecosts_many (N : Nat) (A : Option Addr) (c : Nat) (l : List (Int × Int)) (B : Option Addr) (cb : Nat) (xs : List Int) (B2 : Option Addr) (cb2 : Nat) (ys : List Int) (w : World) (h1 : N ≤ 30) (hm : l.length ≤ 150) (hl : SlE w A l) (hlo : ∀ e ∈ l, okE e) (hx : SlI w B xs) (hxl : xs.length ≤ 9223372036854775807) (hr : wrightB xs = true) (hk : 60 < ys.length) :
    Calls Try.prog 17 #[.int .i64 N, .slice A l.length c, .agg #[.slice B xs.length cb, .slice B2 ys.length cb2]] w fun e w' => e = .returned (.bool true) ∧ Grew w w' := by
  have h6 : decide ((60 : Int) < (ys.length : Int)) = true := by simp; omega
  have HL := hid (And.intro (fun t => hl.grew (Only.alloc w (.cells #[.slice B xs.length cb, .slice B2 ys.length cb2] t))) (And.intro hlo (And.intro hx hr)))
  have HK : Hid (∀ t w', Grew (w.alloc (.cells #[.slice B xs.length cb, .slice B2 ys.length cb2] t)) w' → w'.cell? ⟨w.heap.size, 0, none⟩ = some (.slice B xs.length cb) ∧ w'.cell? ⟨w.heap.size, 1, none⟩ = some (.slice B2 ys.length cb2)) :=
    hid (fun t w' h => ⟨h.cell (cell_of_row _ _ 0 _ _ _ (heap_alloc_new w _)) (fun h => h), h.cell (cell_of_row _ _ 1 _ _ _ (heap_alloc_new w _)) (fun h => h)⟩)
  clear hl hlo hx hr
  go_enter Try.func17, Try.ntmps17
  go_wp2_with (first
    | (go_at_call 21; refine (make_at N A c l _ (by omega) (by omega) hm (HL.out.1 _) HL.out.2.1).mono ?_; rintro e w1 ⟨b, b2, rfl, hG, hR, hg1⟩; have H1 := hid (Grew.trans (Only.alloc _ _) hg1); obtain ⟨k0, k1⟩ := HK.out _ _ hg1; clear hG hR hg1)
    | (go_at_call 50; refine (right_is B cb xs w1 (HL.out.2.2.1.grew H1.out) hxl true HL.out.2.2.2).mono ?_; rintro e w2 ⟨rfl, rfl⟩)
    | (go_at_call 51; refine (ealive_at _).mono ?_; rintro e w2 ⟨rfl, hg⟩))
  go_ret
  exact ⟨rfl, Grew.trans H1.out hg⟩
set_option maxRecDepth 100000 in
set_option maxHeartbeats 2000000 in
theorem ecosts_at (N : Nat) (A : Option Addr) (c : Nat) (l : List (Int × Int)) (B : Option Addr) (cb : Nat) (xs : List Int) (B2 : Option Addr) (cb2 : Nat) (ys : List Int) (w : World) (h1 : N ≤ 30) (hm : l.length ≤ 150) (hl : SlE w A l) (hlo : ∀ e ∈ l, okE e) (hx : SlI w B xs) (hxl : xs.length ≤ 9223372036854775807) (hy : SlI w B2 ys) (hr : wrightB xs = true) (hk : ys.length ≤ 60) (hcap : ys.length ≤ cb2) :
    Calls Try.prog 17 #[.int .i64 N, .slice A l.length c, .agg #[.slice B xs.length cb, .slice B2 ys.length cb2]] w fun e w' => e = .returned (.bool true) ∧ Grew w w' := by
  have h6 : decide ((60 : Int) < (ys.length : Int)) = false := by simp; omega
  have HL := hid (And.intro (fun t => hl.grew (Only.alloc w (.cells #[.slice B xs.length cb, .slice B2 ys.length cb2] t))) (And.intro hlo (And.intro hx (And.intro hr (And.intro hy (wright_iff.1 hr))))))
  have HK : Hid (∀ t w', Grew (w.alloc (.cells #[.slice B xs.length cb, .slice B2 ys.length cb2] t)) w' → w'.cell? ⟨w.heap.size, 0, none⟩ = some (.slice B xs.length cb) ∧ w'.cell? ⟨w.heap.size, 1, none⟩ = some (.slice B2 ys.length cb2)) :=
    hid (fun t w' h => ⟨h.cell (cell_of_row _ _ 0 _ _ _ (heap_alloc_new w _)) (fun h => h), h.cell (cell_of_row _ _ 1 _ _ _ (heap_alloc_new w _)) (fun h => h)⟩)
  clear hl hlo hx hr hy
  go_enter Try.func17, Try.ntmps17
  go_wp2_with (go_at_call 21; refine (make_small N A c l _ h1 hm (HL.out.1 _) HL.out.2.1).mono ?_; rintro e w1 ⟨b, b2, E, rfl, hG, hR, hE1, hE2, hE3, hg⟩; obtain ⟨k0, k1⟩ := HK.out _ _ hg)
  have HS : Hid (∀ w', Grew w1 w' → w'.cell? ⟨w.heap.size, 0, none⟩ = some (.slice B xs.length cb) ∧ w'.cell? ⟨w.heap.size, 1, none⟩ = some (.slice B2 ys.length cb2)) := hid (fun w' h => HK.out _ w' (Grew.trans hg h))
  have H1 := hid (And.intro hG (And.intro hR (And.intro hE2 (Grew.trans (Only.alloc _ _) hg))))
  clear hG hR hg hE2 hE3 HK
  go_wp2_with (go_at_call 50; refine (right_is B cb xs w1 (HL.out.2.2.1.grew H1.out.2.2.2) hxl true HL.out.2.2.2.1).mono ?_; rintro e w2 ⟨rfl, rfl⟩)
  obtain ⟨o, zs, hc⟩ := choose_ex H1.out.2.2.1 xs []
  obtain rfl := hc.free
  obtain ⟨x0, hx0⟩ := cyc_ex H1.out.2.2.1 []
  have hol := hc.1.length H1.out.2.2.1
  have hnd := hc.1.nodup H1.out.2.2.1
  have HC := hid (And.intro hc hx0)
  have hd : decide (sumw xs (ddp o) ≤ sumw xs (ddp x0)) = true := by
    rw [decide_eq_true_eq]
    refine sumw_le HL.out.2.2.2.2.2 (ddp_mem o).1 (fun v hv => ?_)
    rw [(ddp_mem x0).2]
    exact hc.1.cyc hx0 v (((ddp_mem o).2 v).1 hv)
  clear hc hx0 hnd
  have CH : Hid (Calls Try.prog 52 #[.pointer (some ⟨b, 0, none⟩), .slice B xs.length cb, .slice none 0 0] w1 fun e w' => ∃ A' c', e = .returned (.tuple #[.slice A' o.length c', .bool true]) ∧ SlI w' A' o ∧ o.length ≤ c' ∧ Grew w1 w') := hid (by
    refine (choose_at b N E _ B cb xs none 0 [] w1 H1.out.1 (HL.out.2.2.1.grew H1.out.2.2.2) SlI.nil hxl (by simp) (by omega) o [] HC.out.1 true (by decide)).mono ?_
    rintro e w' ⟨A', c', rfl, h1, h2, _, h3⟩
    exact ⟨A', c', rfl, h1, h2, h3⟩)
  go_wp2_with (go_at_call 52; have cX := CH.out; with_reducible refine cX.mono ?_; clear cX; rintro e w3 ⟨A3, c3, rfl, hi3, hcap3, hg3⟩; obtain ⟨k03, k13⟩ := HS.out w3 hg3)
  have H3 := hid (And.intro hi3 hg3)
  clear hi3 hg3 CH k0 k1
  have HSS : Hid (∀ w', Grew w3 w' → w'.cell? ⟨w.heap.size, 0, none⟩ = some (.slice B xs.length cb) ∧ w'.cell? ⟨w.heap.size, 1, none⟩ = some (.slice B2 ys.length cb2)) := hid (fun w' h => HS.out w' (Grew.trans H3.out.2 h))
  have C1 : Hid (∀ W, Grew w3 W → Calls Try.prog 55 #[.slice B xs.length cb, .slice B2 ys.length cb2] W fun e w' => e = .returned (.int .i64 (sumw xs (ddp ys))) ∧ Grew W w') := hid (fun W hW =>
    cost_at B cb xs B2 cb2 ys W (HL.out.2.2.1.grew (Grew.trans H1.out.2.2.2 (Grew.trans H3.out.2 hW))) (HL.out.2.2.2.2.1.grew (Grew.trans H1.out.2.2.2 (Grew.trans H3.out.2 hW))) HL.out.2.2.2.2.2 (by omega))
  have C2 : Hid (∀ W, Grew w3 W → Calls Try.prog 56 #[.slice B xs.length cb, .slice B2 ys.length cb2] W fun e w' => e = .returned (.int .i64 (sumw xs (ddp ys))) ∧ Grew W w') := hid (fun W hW =>
    rcost_at B cb xs B2 cb2 ys W (HL.out.2.2.1.grew (Grew.trans H1.out.2.2.2 (Grew.trans H3.out.2 hW))) (HL.out.2.2.2.2.1.grew (Grew.trans H1.out.2.2.2 (Grew.trans H3.out.2 hW))) HL.out.2.2.2.2.2 (by omega) hcap)
  have C3 : Hid (∀ W, Grew w3 W → Calls Try.prog 55 #[.slice B xs.length cb, .slice A3 o.length c3] W fun e w' => e = .returned (.int .i64 (sumw xs (ddp o))) ∧ Grew W w') := hid (fun W hW =>
    cost_at B cb xs A3 c3 o W (HL.out.2.2.1.grew (Grew.trans H1.out.2.2.2 (Grew.trans H3.out.2 hW))) (H3.out.1.grew hW) HL.out.2.2.2.2.2 (by omega))
  have hxl0 : x0.length ≤ N := length_le_of_range (HC.out.2.1.imp (fun h e => by omega)) (fun x hx => HC.out.2.range H1.out.2.2.1 hx)
  have C4 : Hid (∀ W, Grew w3 W → Calls Try.prog 49 #[.pointer (some ⟨b2, 0, none⟩), .slice none 0 0] W fun e w' => ∃ A c, e = .returned (.slice A x0.length c) ∧ SlI w' A x0 ∧ x0.length ≤ c ∧ Grew W w') := hid (fun W hW => by
    refine (rcyclic_at b2 N E _ none 0 [] W (H1.out.2.1.grew (Grew.trans H3.out.2 hW)) SlI.nil (by simp) (by omega) (by omega) H1.out.2.2.1 x0 HC.out.2).mono ?_
    rintro e w' ⟨v, rfl, hn, hg⟩
    obtain ⟨A, c, rfl, h1, h2, _⟩ := hn.form
    exact ⟨A, c, rfl, h1, h2, hg⟩)
  have C5 : Hid (∀ W A c, Grew w3 W → SlI W A x0 → x0.length ≤ c → Calls Try.prog 56 #[.slice B xs.length cb, .slice A x0.length c] W fun e w' => e = .returned (.int .i64 (sumw xs (ddp x0))) ∧ Grew W w') := hid (fun W A c hW hi hc =>
    rcost_at B cb xs A c x0 W (HL.out.2.2.1.grew (Grew.trans H1.out.2.2.2 (Grew.trans H3.out.2 hW))) hi HL.out.2.2.2.2.2 (by omega) hc)
  generalize sumw xs (ddp ys) = S at *
  generalize sumw xs (ddp o) = S1 at *
  generalize sumw xs (ddp x0) = S2 at *
  clear k03 k13
  go_wp2_with fail
  generalize hB : w.heap.size = WB at *
  go_region_held3 (fun w' => w'.cell? ⟨WB, 0, none⟩ = some (.slice B xs.length cb) ∧ w'.cell? ⟨WB, 1, none⟩ = some (.slice B2 ys.length cb2))
    (first
      | exact HSS.out _ (Only.drew _)
      | exact HSS.out _ hf
      | exact HSS.out _ he
      | exact HSS.out _ hdd
      | exact HSS.out _ hc
      | exact HSS.out _ hb
      | exact HSS.out _ ha)
    (first
      | (go_at_call 56; have cX := C5.out we Ae ce he hie hce; with_reducible refine cX.mono ?_; clear cX; rintro e wf ⟨rfl, hf0⟩; have hf : Grew w3 wf := Grew.trans he hf0)
      | (go_at_call 49; have cX := C4.out wd hdd; with_reducible refine cX.mono ?_; clear cX; rintro e we ⟨Ae, ce, rfl, hie, hce, he0⟩; have he : Grew w3 we := Grew.trans hdd he0)
      | (go_at_call 55; have cX := C3.out wc hc; with_reducible refine cX.mono ?_; clear cX; rintro e wd ⟨rfl, hd0⟩; have hdd : Grew w3 wd := Grew.trans hc hd0)
      | (go_at_call 56; have cX := C2.out wb hb; with_reducible refine cX.mono ?_; clear cX; rintro e wc ⟨rfl, hc0⟩; have hc : Grew w3 wc := Grew.trans hb hc0)
      | (go_at_call 55; have cX := C1.out wa ha; with_reducible refine cX.mono ?_; clear cX; rintro e wb ⟨rfl, hb0⟩; have hb : Grew w3 wb := Grew.trans ha hb0)
      | (go_at_call 51; refine (ealive_at _).mono ?_; rintro e wa ⟨rfl, ha0⟩; have ha : Grew w3 wa := Grew.trans (Only.drew _) ha0))
  all_goals
    go_wp2
    go_ret
    exact ⟨rfl, Grew.trans H1.out.2.2.2 (Grew.trans H3.out.2 hf)⟩
end Go.Proofs.Ytlpkolmaklnffaa
