/- The walk of the law TopoCycles. -/
import Derived.Test.YtlpkolmaklnffaaRefCy
import Derived.Test.YtlpkolmaklnffaaLTOrders
import Derived.Deep.RegionHeld3
namespace Go.Proofs.Ytlpkolmaklnffaa
open Go.RowKit Go.MapKept

theorem cells_i1' (w : World) (o : Obj) (x : Int) : SlI ((w.alloc o).alloc (.cells #[.int .i64 x] 3)) (some ⟨w.heap.size + 1, 0, none⟩) [x] := by
  have h := cells_i1 (w.alloc o) x
  simpa using h
set_option maxRecDepth 100000 in
set_option maxHeartbeats 1000000 in
theorem tcycles_big (n : Int) (A : Option Addr) (c m : Nat) (x0 x1 : Int) (w : World) (h : n < 0 ∨ 30 < n ∨ 150 < m) :
    Calls Try.prog 10 #[.int .i64 n, .slice A m c, .agg #[.int .i64 x0, .int .i64 x1]] w fun e w' => e = .returned (.bool true) ∧ Grew w w' := by
  go_enter Try.func10, Try.ntmps10
  go_wp2_with (first
    | (go_at_call 21; refine (make_big n A c m _ h).mono ?_; rintro e w1 ⟨rfl, rfl⟩)
    | (go_at_call 39; refine (talive_at _).mono ?_; rintro e w2 ⟨rfl, hg⟩))
  go_ret
  exact ⟨rfl, Grew.trans (Only.alloc _ _) hg⟩
set_option maxRecDepth 100000 in
set_option maxHeartbeats 1000000 in
theorem tcycles_at (N : Nat) (A : Option Addr) (c : Nat) (l : List (Int × Int)) (x0 x1 : Int) (w : World) (h1 : N ≤ 30) (hm : l.length ≤ 150) (hl : SlE w A l) (hlo : ∀ e ∈ l, okE e) (ho0 : okI x0) (ho1 : okI x1) :
    Calls Try.prog 10 #[.int .i64 N, .slice A l.length c, .agg #[.int .i64 x0, .int .i64 x1]] w fun e w' => e = .returned (.bool true) ∧ Grew w w' := by
  have HL := hid (And.intro (fun t => hl.grew (Only.alloc w (.cells #[.int .i64 x0, .int .i64 x1] t))) (And.intro hlo (And.intro ho0 ho1)))
  have HK : Hid (∀ t w', Grew (w.alloc (.cells #[.int .i64 x0, .int .i64 x1] t)) w' → w'.cell? ⟨w.heap.size, 0, none⟩ = some (.int .i64 x0) ∧ w'.cell? ⟨w.heap.size, 1, none⟩ = some (.int .i64 x1)) :=
    hid (fun t w' h => ⟨h.cell (cell_of_row _ _ 0 _ _ _ (heap_alloc_new w _)) (fun h => h), h.cell (cell_of_row _ _ 1 _ _ _ (heap_alloc_new w _)) (fun h => h)⟩)
  clear hl hlo ho0 ho1
  go_enter Try.func10, Try.ntmps10
  go_wp2_with (go_at_call 21; refine (make_small N A c l _ h1 hm (HL.out.1 _) HL.out.2.1).mono ?_; rintro e w1 ⟨b, b2, E, rfl, hG, hR, hE1, hE2, hE3, hg⟩)
  have HS : Hid (∀ w', Grew w1 w' → w'.cell? ⟨w.heap.size, 0, none⟩ = some (.int .i64 x0) ∧ w'.cell? ⟨w.heap.size, 1, none⟩ = some (.int .i64 x1)) := hid (fun w' h => HK.out _ w' (Grew.trans hg h))
  have H1 := hid (And.intro hG (And.intro hR (And.intro hE2 (Grew.trans (Only.alloc _ _) hg))))
  clear hG hR hg hE2 hE3 HK
  have HC0 : Hid (∀ W, Grew w1 W → Calls Try.prog 42 #[.pointer (some ⟨b, 0, none⟩), .int .i64 x0, .slice none 0 0] W fun e w' => ∃ A' c' r, e = .returned (.slice A' r.length c') ∧ IsCycle (cut E []) x0 r ∧ SlI w' A' r ∧ r.length ≤ 1048577 ∧ Grew W w') := hid (fun W hW => cycle_at b N E _ none 0 [] x0 W (H1.out.1.grew hW) SlI.nil (by simp) (by omega) HL.out.2.2.1)
  have HC1 : Hid (∀ W A c, Grew w1 W → SlI W A [x1] → Calls Try.prog 42 #[.pointer (some ⟨b, 0, none⟩), .int .i64 x0, .slice A 1 c] W fun e w' => ∃ A' c' r, e = .returned (.slice A' r.length c') ∧ IsCycle (cut E [x1]) x0 r ∧ SlI w' A' r ∧ r.length ≤ 1048577 ∧ Grew W w') := hid (fun W A c hW hA => cycle_at b N E _ A c [x1] x0 W (H1.out.1.grew hW) hA (by simp) (by omega) HL.out.2.2.1)
  have HR0 : Hid (∀ r, IsCycle (cut E []) x0 r → ∀ W, Grew w1 W → Calls Try.prog 43 #[.pointer (some ⟨b2, 0, none⟩), .int .i64 x0, .slice none 0 0] W fun e w' => ∃ A' c', e = .returned (.slice A' r.length c') ∧ SlI w' A' r ∧ r.length ≤ 1048577 ∧ Grew W w') := hid (fun r hr W hW => rcycle_is b2 N E _ none 0 [] x0 W (H1.out.2.1.grew hW) SlI.nil (by simp) (by omega) (by omega) H1.out.2.2.1 HL.out.2.2.1 r hr)
  have HR1 : Hid (∀ r, IsCycle (cut E [x1]) x0 r → ∀ W A c, Grew w1 W → SlI W A [x1] → Calls Try.prog 43 #[.pointer (some ⟨b2, 0, none⟩), .int .i64 x0, .slice A 1 c] W fun e w' => ∃ A' c', e = .returned (.slice A' r.length c') ∧ SlI w' A' r ∧ r.length ≤ 1048577 ∧ Grew W w') := hid (fun r hr W A c hW hA => rcycle_is b2 N E _ A c [x1] x0 W (H1.out.2.1.grew hW) hA (by simp) (by omega) (by omega) H1.out.2.2.1 HL.out.2.2.1 r hr)
  go_wp2_with fail
  generalize hB : w.heap.size = B at *
  go_region_held3 (fun w' => w'.cell? ⟨B, 0, none⟩ = some (.int .i64 x0) ∧ w'.cell? ⟨B, 1, none⟩ = some (.int .i64 x1))
    (first
      | exact HS.out _ (Only.drew _)
      | exact HS.out _ hg
      | exact HS.out _ hf
      | exact HS.out _ (Grew.trans hf (Only.alloc _ _))
      | exact HS.out _ (Grew.trans hf (Grew.trans (Only.alloc _ _) (Only.alloc _ _)))
      | exact HS.out _ he
      | exact HS.out _ (Grew.trans he (Only.alloc _ _))
      | exact HS.out _ (Grew.trans he (Grew.trans (Only.alloc _ _) (Only.alloc _ _)))
      | exact HS.out _ hd
      | exact HS.out _ (Grew.trans hd (Only.alloc _ _))
      | exact HS.out _ (Grew.trans hd (Grew.trans (Only.alloc _ _) (Only.alloc _ _)))
      | exact HS.out _ hc
      | exact HS.out _ (Grew.trans hc (Only.alloc _ _))
      | exact HS.out _ (Grew.trans hc (Grew.trans (Only.alloc _ _) (Only.alloc _ _)))
      | exact HS.out _ hb
      | exact HS.out _ ha)
    (first
      | (go_at_call 23; have cX := equal_same Ae Af ce cf r1 _ (hie.grew hef) hif (by omega); with_reducible refine cX.mono ?_; clear cX; rintro e wg ⟨rfl, hg0⟩; have hg : Grew w1 wg := Grew.trans hf hg0)
      | (go_at_call 43; have cX := HR1.out r1 hr1 _ _ 1 (Grew.trans he (Only.alloc we (.cells #[.int .i64 x1] 3))) (cells_i1 we x1); with_reducible refine cX.mono ?_; clear cX; rintro e wf ⟨Af, cf, rfl, hif, hlf, hf0⟩; have hf : Grew w1 wf := Grew.trans he (Grew.trans (Only.alloc we (.cells #[.int .i64 x1] 3)) hf0); have hef : Grew we wf := Grew.trans (Only.alloc we (.cells #[.int .i64 x1] 3)) hf0)
      | (go_at_call 43; have cX := HR1.out r1 hr1 _ _ 1 he ((cells_i1' wd (.cells #[.int .i64 x1] 3) x1).grew he0); with_reducible refine cX.mono ?_; clear cX; rintro e wf ⟨Af, cf, rfl, hif, hlf, hf0⟩; have hf : Grew w1 wf := Grew.trans he hf0; have hef : Grew we wf := hf0)
      | (go_at_call 43; have cX := HR1.out r1 hr1 _ _ 1 he (((cells_i1 wd x1).grew (Only.alloc (wd.alloc (.cells #[.int .i64 x1] 3)) (.cells #[.int .i64 x1] 3))).grew he0); with_reducible refine cX.mono ?_; clear cX; rintro e wf ⟨Af, cf, rfl, hif, hlf, hf0⟩; have hf : Grew w1 wf := Grew.trans he hf0; have hef : Grew we wf := hf0)
      | (go_at_call 42; have cX := HC1.out _ _ 1 (Grew.trans hd (Only.alloc wd (.cells #[.int .i64 x1] 3))) (cells_i1 wd x1); with_reducible refine cX.mono ?_; clear cX; rintro e we ⟨Ae, ce, r1, rfl, hr1, hie, hle, he0⟩; have he : Grew w1 we := Grew.trans hd (Grew.trans (Only.alloc wd (.cells #[.int .i64 x1] 3)) he0))
      | (go_at_call 42; have cX := HC1.out _ _ 1 (Grew.trans hd (Grew.trans (Only.alloc wd (.cells #[.int .i64 x1] 3)) (Only.alloc (wd.alloc (.cells #[.int .i64 x1] 3)) (.cells #[.int .i64 x1] 3)))) (cells_i1' wd (.cells #[.int .i64 x1] 3) x1); with_reducible refine cX.mono ?_; clear cX; rintro e we ⟨Ae, ce, r1, rfl, hr1, hie, hle, he0⟩; have he : Grew w1 we := Grew.trans hd (Grew.trans (Grew.trans (Only.alloc wd (.cells #[.int .i64 x1] 3)) (Only.alloc (wd.alloc (.cells #[.int .i64 x1] 3)) (.cells #[.int .i64 x1] 3))) he0))
      | (go_at_call 42; have cX := HC1.out _ _ 1 (Grew.trans hd (Grew.trans (Only.alloc wd (.cells #[.int .i64 x1] 3)) (Only.alloc (wd.alloc (.cells #[.int .i64 x1] 3)) (.cells #[.int .i64 x1] 3)))) ((cells_i1 wd x1).grew (Only.alloc (wd.alloc (.cells #[.int .i64 x1] 3)) (.cells #[.int .i64 x1] 3))); with_reducible refine cX.mono ?_; clear cX; rintro e we ⟨Ae, ce, r1, rfl, hr1, hie, hle, he0⟩; have he : Grew w1 we := Grew.trans hd (Grew.trans (Grew.trans (Only.alloc wd (.cells #[.int .i64 x1] 3)) (Only.alloc (wd.alloc (.cells #[.int .i64 x1] 3)) (.cells #[.int .i64 x1] 3))) he0))
      | (go_at_call 23; have cX := equal_same Ab Ac cb cc r0 _ (hib.grew hc0) hic (by omega); with_reducible refine cX.mono ?_; clear cX; rintro e wd ⟨rfl, hd0⟩; have hd : Grew w1 wd := Grew.trans hc hd0)
      | (go_at_call 43; have cX := HR0.out r0 hr0 _ hb; with_reducible refine cX.mono ?_; clear cX; rintro e wc ⟨Ac, cc, rfl, hic, hlc, hc0⟩; have hc : Grew w1 wc := Grew.trans hb hc0)
      | (go_at_call 42; have cX := HC0.out _ ha; with_reducible refine cX.mono ?_; clear cX; rintro e wb ⟨Ab, cb, r0, rfl, hr0, hib, hlb, hb0⟩; have hb : Grew w1 wb := Grew.trans ha hb0)
      | (go_at_call 39; refine (talive_at _).mono ?_; rintro e wa ⟨rfl, ha0⟩; have ha : Grew w1 wa := Grew.trans (Only.drew _) ha0))
  all_goals
    go_wp2
    go_ret
    exact ⟨rfl, Grew.trans H1.out.2.2.2 hg⟩
end Go.Proofs.Ytlpkolmaklnffaa
