/- The walk of the law IndexGaps. -/
import Derived.Test.YtgpfhdjedebdfaaIx20
namespace Go.Proofs.Ytgpfhdjedebdfaa
open Go.RowKit Go.MapKept Go.Shelf Go.Lib

set_option maxRecDepth 100000 in
set_option maxHeartbeats 1000000 in
theorem lgaps_big (A : Option Addr) (cp : Nat) (l : List (Int × Int)) (c d : Int) (w : World) (h : 60 < l.length) :
    Calls Try.prog 8 #[.slice A l.length cp, .agg #[.int .i64 c, .int .i64 d]] w fun e w' => e = .returned (.bool true) ∧ Grew w w' := by
  have h1 : decide ((60 : Int) < (l.length : Int)) = true := by simp; omega
  have h2 : decide (60 < l.length) = true := by simp; omega
  go_enter Try.func8, Try.ntmps8
  go_wp2_with (go_at_call 10; refine (ialive_at _).mono ?_; rintro e w9 ⟨rfl, hg9⟩)
  go_ret
  exact ⟨rfl, Grew.trans (Only.alloc _ _) hg9⟩
set_option maxRecDepth 100000 in
set_option maxHeartbeats 1000000 in
theorem lgaps_wrong (A : Option Addr) (cp : Nat) (l : List (Int × Int)) (c d : Int) (w : World) (hl : SlE w A l) (hlo : ∀ e ∈ l, okE e) (h : l.length ≤ 60) (hr : ¬ RightL l) :
    Calls Try.prog 8 #[.slice A l.length cp, .agg #[.int .i64 c, .int .i64 d]] w fun e w' => e = .returned (.bool true) ∧ Grew w w' := by
  have h1 : decide ((60 : Int) < (l.length : Int)) = false := by simp; omega
  have h2 : decide (60 < l.length) = false := by simp; omega
  have HC := hid (rright_no A cp l (w.alloc (.cells #[.int .i64 c, .int .i64 d] 28)) (hl.grew (Only.alloc _ _)) hlo (by omega) hr)
  clear hl hlo hr h
  go_enter Try.func8, Try.ntmps8
  go_wp2_with (first | (go_at_call 10; refine (ialive_at _).mono ?_; rintro e w9 ⟨rfl, hg9⟩) | (go_at_call 9; have cX := HC.out; with_reducible refine cX.mono ?_; clear cX; rintro e w1 ⟨rfl, hg1⟩))
  go_ret
  exact ⟨rfl, Grew.trans (Only.alloc _ _) (Grew.trans hg1 hg9)⟩
set_option maxRecDepth 100000 in
set_option maxHeartbeats 1000000 in
theorem lgaps_inv (A : Option Addr) (cp : Nat) (l : List (Int × Int)) (c d : Int) (w : World) (hl : SlE w A l) (hlo : ∀ e ∈ l, okE e) (hc : okI c) (hd : okI d) (h : l.length ≤ 60) (hr : RightL l) (hv : veB (c, d) = false) :
    Calls Try.prog 8 #[.slice A l.length cp, .agg #[.int .i64 c, .int .i64 d]] w fun e w' => e = .returned (.bool true) ∧ Grew w w' := by
  have h1 : decide ((60 : Int) < (l.length : Int)) = false := by simp; omega
  have h2 : decide (60 < l.length) = false := by simp; omega
  have HC := hid (rright_yes A cp l (w.alloc (.cells #[.int .i64 c, .int .i64 d] 28)) (hl.grew (Only.alloc _ _)) hlo (by omega) hr)
  have HV := hid (fun w => rvalid_res c d w hc hd false hv)
  obtain ⟨k1, k2⟩ := cells2 w (.int .i64 c) (.int .i64 d) 28
  clear hl hlo hr h hc hd hv
  go_enter Try.func8, Try.ntmps8
  go_wp2_with (first | (go_at_call 10; refine (ialive_at _).mono ?_; rintro e w9 ⟨rfl, hg9⟩) | (go_at_call 14; have cX := HV.out w1; with_reducible refine cX.mono ?_; clear cX; rintro e w2 ⟨rfl, hg2⟩) | (go_at_call 9; have cX := HC.out; with_reducible refine cX.mono ?_; clear cX; rintro e w1 ⟨rfl, hg1⟩; have m1 := hg1.cell k1 (fun h => h); have m2 := hg1.cell k2 (fun h => h)))
  go_ret
  exact ⟨rfl, Grew.trans (Only.alloc _ _) (Grew.trans hg1 (Grew.trans hg2 hg9))⟩
set_option maxRecDepth 100000 in
set_option maxHeartbeats 4000000 in
theorem lgaps_at (A : Option Addr) (cp : Nat) (l : List (Int × Int)) (c d : Int) (w : World) (hl : SlE w A l) (hlo : ∀ e ∈ l, okE e) (hc : okI c) (hd : okI d) (h : l.length ≤ 60) (hr : RightL l) (hv : VE (c, d)) :
    Calls Try.prog 8 #[.slice A l.length cp, .agg #[.int .i64 c, .int .i64 d]] w fun e w' => e = .returned (.bool true) ∧ Grew w w' := by
  have h1 : decide ((60 : Int) < (l.length : Int)) = false := by simp; omega
  have h2 : decide (60 < l.length) = false := by simp; omega
  have HRi := hid (And.intro hr (And.intro hlo (And.intro hv hl)))
  have HC := hid (rright_yes A cp l (w.alloc (.cells #[.int .i64 c, .int .i64 d] 28)) (hl.grew (Only.alloc _ _)) hlo (by omega) hr)
  have HV := hid (fun w => rvalid_res c d w hc hd true (veB_iff.2 hv))
  obtain ⟨k1, k2⟩ := cells2 w (.int .i64 c) (.int .i64 d) 28
  have HG0 : Hid (Grew w (w.alloc (.cells #[.int .i64 c, .int .i64 d] 28))) := hid (Only.alloc _ _)
  have hxlen : l.length ≤ 1048576 := by omega
  clear hl hlo hr hc hd hv
  go_enter Try.func8, Try.ntmps8
  go_wp2_with (first | (go_at_call 11; have cX := new_ok A cp l w2 ((HRi.out.2.2.2.grew HG0.out).grew (Grew.trans hg1 hg2)) HRi.out.2.1 hxlen HRi.out.1; with_reducible refine cX.mono ?_; clear cX; rintro e w3 ⟨p, S, rfl, hp, hS, hI, hg3⟩; have r1 := hg3.cell n1 (fun h => h); have r2 := hg3.cell n2 (fun h => h)) | (go_at_call 14; have cX := HV.out w1; with_reducible refine cX.mono ?_; clear cX; rintro e w2 ⟨rfl, hg2⟩; have n1 := hg2.cell m1 (fun h => h); have n2 := hg2.cell m2 (fun h => h)) | (go_at_call 9; have cX := HC.out; with_reducible refine cX.mono ?_; clear cX; rintro e w1 ⟨rfl, hg1⟩; have m1 := hg1.cell k1 (fun h => h); have m2 := hg1.cell k2 (fun h => h)) | (go_at_call 22; fail))
  have HG3 : Hid (Grew w w3) := hid (Grew.trans HG0.out (Grew.trans hg1 (Grew.trans hg2 hg3)))
  have HS : Hid (∀ w', Grew w3 w' → w'.cell? ⟨w.heap.size, 0, none⟩ = some (.int .i64 c) ∧ w'.cell? ⟨w.heap.size, 1, none⟩ = some (.int .i64 d)) := hid (fun w' h => ⟨(Grew.trans hg3 h).cell n1 (fun h => h), (Grew.trans hg3 h).cell n2 (fun h => h)⟩)
  obtain ⟨g, hg⟩ : ∃ g, gapsOf (c, d) (parts (c, d) S) = g := ⟨_, rfl⟩
  have hst : GapSt (c, d) (parts (c, d) S) g (c + d) := by
    have h := gaps_st HRi.out.2.2.1 (parts_chain (e := (c, d)) hS)
    rw [hg] at h
    exact h
  have hgl : g.length ≤ 61 := by
    have h1 := parts_length_le (c, d) S
    have h2 := hp.length_eq
    rw [ents_length] at h2
    have h3 := gst_length c (parts (c, d) S)
    rw [← hg]
    unfold gapsOf
    have h4 := gapL_length (gst c (parts (c, d) S)).2 (RowKit.wrap64 (c + d)) (gst c (parts (c, d) S)).1
    simp only
    omega
  obtain ⟨n, hn⟩ : ∃ n, sumI (g.map (·.2)) = n := ⟨_, rfl⟩
  obtain ⟨z, hzc⟩ : ∃ z, cw (parts (c, d) S) = z := ⟨_, rfl⟩
  have hve := HRi.out.2.2.1
  have hnz : n + z = d ∧ 0 ≤ n ∧ 0 ≤ z := by
    have h1 := hst.sum
    have h2 : 0 ≤ n := by
      rw [← hn]
      exact sumI_nonneg (fun y hy => by obtain ⟨x, hx, rfl⟩ := List.mem_map.1 hy; have := (hst.inn x hx).2.1; omega)
    have h3 : 0 ≤ sumI ((parts (c, d) S).map (·.2.2)) := sumI_nonneg (fun y hy => by obtain ⟨x, hx, rfl⟩ := List.mem_map.1 hy; have := ((parts_chain (e := (c, d)) hS).2 x hx).2.1; omega)
    obtain ⟨v1, v2, v3⟩ := hve
    simp only at v1 v2 v3 h1
    have h4 : z = sumI ((parts (c, d) S).map (·.2.2)) := by rw [← hzc, cw_eq, wrap_id (by omega) (by omega)]
    omega
  have HGa : Hid (∀ W, Grew w3 W → Calls Try.prog 22 #[.pointer (some ⟨p, 0, none⟩), .agg #[.int .i64 c, .int .i64 d]] W fun e W' => ∃ A k, e = .returned (.slice A g.length k) ∧ SlE W' A g ∧ Grew W W') := hid (fun W hW => gaps_is p S c d W (hI.grew hW) hS HRi.out.2.2.1 g hg)
  have HRG : Hid (∀ W, Grew w3 W → Calls Try.prog 27 #[.slice A l.length cp, .agg #[.int .i64 c, .int .i64 d]] W fun e W' => ∃ A k, e = .returned (.slice A g.length k) ∧ SlE W' A g ∧ Grew W W') := hid (fun W hW => rgaps_is A cp l c d W (HRi.out.2.2.2.grew (Grew.trans HG3.out hW)) HRi.out.1 HRi.out.2.2.1 hxlen S hp hS g hg)
  have HCo : Hid (∀ W, Grew w3 W → Calls Try.prog 18 #[.pointer (some ⟨p, 0, none⟩), .agg #[.int .i64 c, .int .i64 d]] W fun e W' => e = .returned (.int .i64 z) ∧ Grew W W') := hid (fun W hW => covered_is p S c d W (hI.grew hW) hS HRi.out.2.2.1 z hzc)
  have HTo : Hid (∀ W A k, SlE W A g → Calls Try.prog 26 #[.slice A g.length k] W fun e W' => e = .returned (.tuple #[.int .i64 n, .bool true]) ∧ Grew W W') := hid (fun W A k hA => by
    have h := total_at A k g W hA (fun x hx => by have := (hst.inn x hx).2.1; omega) (by rw [hn]; have := hve.2.2; have := hve.1; simp only at *; omega) (by omega)
    rw [hn] at h
    exact h)
  have HCn : Hid (∀ W A k, SlE W A g → Calls Try.prog 28 #[.agg #[.int .i64 c, .int .i64 d], .slice A g.length k] W fun e W' => e = .returned (.bool true) ∧ Grew W W') := hid (fun W A k hA => econtains_at (c, d) A k g W hA (by omega) hve (fun y hy => ⟨gap_valid hve hst hy, (hst.inn y hy).1, (hst.inn y hy).2.2⟩))
  have HMy : Hid (∀ y ∈ g, ∀ W, Grew w3 W → Calls Try.prog 16 #[.pointer (some ⟨p, 0, none⟩), .agg #[.int .i64 y.1, .int .i64 y.2]] W fun e W' => ∃ A k, e = .returned (.slice A 0 k) ∧ Grew W W') := hid (fun y hy W hW => (meet_is p S y.1 y.2 W (hI.grew hW) hS (gap_valid hve hst hy) [] (by rw [gap_no_meet hst hy]; rfl)).mono fun _ _ ⟨A, k, a, _, b⟩ => ⟨A, k, a, b⟩)
  have HN := hid hnz
  clear hn hzc hp hS hI hg hg1 hg2 hg3 k1 k2 m1 m2 n1 n2 HC HV hst hnz hve
  go_wp2_with (first
    | (go_at_call 26; have cX := HTo.out w4 A4 c4 i4; with_reducible refine cX.mono ?_; clear cX; rintro e w5 ⟨rfl, hg5⟩)
    | (go_at_call 22; have cX := HGa.out w3 (Only.refl _ _); with_reducible refine cX.mono ?_; clear cX; rintro e w4 ⟨A4, c4, rfl, i4, hg4⟩))
  have HSL : Hid (SlE w5 A4 g) := hid (i4.grew hg5)
  have HG5 : Hid (Grew w3 w5) := hid (Grew.trans hg4 hg5)
  clear i4 hg4 hg5 r1 r2
  go_loopw [39] (fun i wr => ∃ k : Nat, k ≤ g.length ∧ i = .int .i64 k ∧ Grew w5 wr) (fun i _ => g.length - (intOf i).toNat)
  case atStart => exact ⟨0, Nat.zero_le _, rfl, Only.refl _ _⟩
  case round =>
    obtain ⟨k, hk, rfl, hO⟩ := hrel
    have HO := hid hO
    clear hO
    by_cases hlt : k < g.length
    · have hb0 : (k : Int) < (g.length : Int) := by omega
      obtain ⟨bl, o, rfl, hcell⟩ := (HSL.out.grew HO.out) (by omega)
      obtain ⟨c1, c2⟩ := hcell k hlt
      obtain ⟨y, hy⟩ : ∃ y, g[k]? = some y := ⟨_, List.getElem?_eq_getElem hlt⟩
      simp only [hy, Option.getD_some] at c1 c2
      have HY := hid (HMy.out y (List.mem_of_getElem? hy) (wr.alloc (.cells #[.int .i64 y.1, .int .i64 y.2] 28)) (Grew.trans (Grew.trans HG5.out HO.out) (Only.alloc _ _)))
      obtain ⟨a, b⟩ := y
      simp only at c1 c2 HY
      clear hcell hy
      go_wp2_with (go_at_call 16; have cX := HY.out; with_reducible refine cX.mono ?_; clear cX; rintro e w6 ⟨A6, c6, rfl, hg6⟩)
      go_roundw
      case rel => exact ⟨k + 1, by omega, by go_num, Grew.trans HO.out (Grew.trans (Only.alloc _ _) hg6)⟩
      case measure => simp [intOf]; omega
    · obtain rfl : k = g.length := by omega
      have HGR : Hid (Grew w3 wr) := hid (Grew.trans HG5.out HO.out)
      have HSS : Hid (∀ w', Grew wr w' → w'.cell? ⟨w.heap.size, 0, none⟩ = some (.int .i64 c) ∧ w'.cell? ⟨w.heap.size, 1, none⟩ = some (.int .i64 d)) := hid (fun w' h => HS.out w' (Grew.trans HGR.out h))
      have hadd : IntKind.i64.wrap (n + z) = d := by
        rw [HN.out.1]
        have h := HRi.out.2.2.1
        obtain ⟨v1, v2, v3⟩ := h
        exact IntWalk.i64_in _ (by simp only at *; omega)
      go_wp2_with fail
      generalize w.heap.size = B at *
      go_region_held3 (fun w' => w'.cell? ⟨B, 0, none⟩ = some (.int .i64 c) ∧ w'.cell? ⟨B, 1, none⟩ = some (.int .i64 d))
        (first
          | exact HSS.out _ (Only.drew _)
          | exact HSS.out _ he
          | exact HSS.out _ hd
          | exact HSS.out _ hc
          | exact HSS.out _ hb
          | exact HSS.out _ ha)
        (first
          | (go_at_call 28; have cX := HCn.out wd A4 c4 (HSL.out.grew (Grew.trans HO.out hd)); with_reducible refine cX.mono ?_; clear cX; rintro e we ⟨rfl, he0⟩; have he : Grew wr we := Grew.trans hd he0)
          | (go_at_call 18; have cX := HCo.out wc (Grew.trans HGR.out hc); with_reducible refine cX.mono ?_; clear cX; rintro e wd ⟨rfl, hd0⟩; have hd : Grew wr wd := Grew.trans hc hd0)
          | (go_at_call 24; have cX := equalE_same A4 Ab c4 cb g wb (HSL.out.grew (Grew.trans HO.out hb)) ib (by omega); with_reducible refine cX.mono ?_; clear cX; rintro e wc ⟨rfl, hc0⟩; have hc : Grew wr wc := Grew.trans hb hc0)
          | (go_at_call 27; have cX := HRG.out wa (Grew.trans HGR.out ha); with_reducible refine cX.mono ?_; clear cX; rintro e wb ⟨Ab, cb, rfl, ib, hb0⟩; have hb : Grew wr wb := Grew.trans ha hb0)
          | (go_at_call 10; refine (ialive_at _).mono ?_; rintro e wa ⟨rfl, ha0⟩; have ha : Grew wr wa := Grew.trans (Only.drew _) ha0))
      all_goals
        go_wp2
        go_ret
        exact ⟨rfl, Grew.trans HG3.out (Grew.trans HGR.out he)⟩
end Go.Proofs.Ytgpfhdjedebdfaa
