/- The walk of the law IndexMeets. -/
import Derived.Test.YtgpfhdjedebdfaaIx20
namespace Go.Proofs.Ytgpfhdjedebdfaa
open Go.RowKit Go.MapKept Go.Shelf Go.Lib

set_option maxRecDepth 100000 in
set_option maxHeartbeats 1000000 in
theorem lmeets_big (A : Option Addr) (cp : Nat) (l : List (Int × Int)) (c d : Int) (w : World) (h : 60 < l.length) :
    Calls Try.prog 4 #[.slice A l.length cp, .agg #[.int .i64 c, .int .i64 d]] w fun e w' => e = .returned (.bool true) ∧ Grew w w' := by
  have h1 : decide ((60 : Int) < (l.length : Int)) = true := by simp; omega
  have h2 : decide (60 < l.length) = true := by simp; omega
  go_enter Try.func4, Try.ntmps4
  go_wp2_with (go_at_call 10; refine (ialive_at _).mono ?_; rintro e w9 ⟨rfl, hg9⟩)
  go_ret
  exact ⟨rfl, Grew.trans (Only.alloc _ _) hg9⟩
set_option maxRecDepth 100000 in
set_option maxHeartbeats 1000000 in
theorem lmeets_wrong (A : Option Addr) (cp : Nat) (l : List (Int × Int)) (c d : Int) (w : World) (hl : SlE w A l) (hlo : ∀ e ∈ l, okE e) (h : l.length ≤ 60) (hr : ¬ RightL l) :
    Calls Try.prog 4 #[.slice A l.length cp, .agg #[.int .i64 c, .int .i64 d]] w fun e w' => e = .returned (.bool true) ∧ Grew w w' := by
  have h1 : decide ((60 : Int) < (l.length : Int)) = false := by simp; omega
  have h2 : decide (60 < l.length) = false := by simp; omega
  have HC := hid (rright_no A cp l (w.alloc (.cells #[.int .i64 c, .int .i64 d] 28)) (hl.grew (Only.alloc _ _)) hlo (by omega) hr)
  clear hl hlo hr h
  go_enter Try.func4, Try.ntmps4
  go_wp2_with (first | (go_at_call 10; refine (ialive_at _).mono ?_; rintro e w9 ⟨rfl, hg9⟩) | (go_at_call 9; have cX := HC.out; with_reducible refine cX.mono ?_; clear cX; rintro e w1 ⟨rfl, hg1⟩))
  go_ret
  exact ⟨rfl, Grew.trans (Only.alloc _ _) (Grew.trans hg1 hg9)⟩
set_option maxRecDepth 100000 in
set_option maxHeartbeats 1000000 in
theorem lmeets_inv (A : Option Addr) (cp : Nat) (l : List (Int × Int)) (c d : Int) (w : World) (hl : SlE w A l) (hlo : ∀ e ∈ l, okE e) (hc : okI c) (hd : okI d) (h : l.length ≤ 60) (hr : RightL l) (hv : veB (c, d) = false) :
    Calls Try.prog 4 #[.slice A l.length cp, .agg #[.int .i64 c, .int .i64 d]] w fun e w' => e = .returned (.bool true) ∧ Grew w w' := by
  have h1 : decide ((60 : Int) < (l.length : Int)) = false := by simp; omega
  have h2 : decide (60 < l.length) = false := by simp; omega
  have HC := hid (rright_yes A cp l (w.alloc (.cells #[.int .i64 c, .int .i64 d] 28)) (hl.grew (Only.alloc _ _)) hlo (by omega) hr)
  have HV := hid (fun w => rvalid_res c d w hc hd false hv)
  obtain ⟨k1, k2⟩ := cells2 w (.int .i64 c) (.int .i64 d) 28
  clear hl hlo hr h hc hd hv
  go_enter Try.func4, Try.ntmps4
  go_wp2_with (first | (go_at_call 10; refine (ialive_at _).mono ?_; rintro e w9 ⟨rfl, hg9⟩) | (go_at_call 14; have cX := HV.out w1; with_reducible refine cX.mono ?_; clear cX; rintro e w2 ⟨rfl, hg2⟩) | (go_at_call 9; have cX := HC.out; with_reducible refine cX.mono ?_; clear cX; rintro e w1 ⟨rfl, hg1⟩; have m1 := hg1.cell k1 (fun h => h); have m2 := hg1.cell k2 (fun h => h)))
  go_ret
  exact ⟨rfl, Grew.trans (Only.alloc _ _) (Grew.trans hg1 (Grew.trans hg2 hg9))⟩
set_option maxRecDepth 100000 in
set_option maxHeartbeats 4000000 in
theorem lmeets_at (A : Option Addr) (cp : Nat) (l : List (Int × Int)) (c d : Int) (w : World) (hl : SlE w A l) (hlo : ∀ e ∈ l, okE e) (hc : okI c) (hd : okI d) (h : l.length ≤ 60) (hr : RightL l) (hv : VE (c, d)) :
    Calls Try.prog 4 #[.slice A l.length cp, .agg #[.int .i64 c, .int .i64 d]] w fun e w' => e = .returned (.bool true) ∧ Grew w w' := by
  have h1 : decide ((60 : Int) < (l.length : Int)) = false := by simp; omega
  have h2 : decide (60 < l.length) = false := by simp; omega
  have HRi := hid (And.intro hr (And.intro hlo (And.intro hv hl)))
  have HC := hid (rright_yes A cp l (w.alloc (.cells #[.int .i64 c, .int .i64 d] 28)) (hl.grew (Only.alloc _ _)) hlo (by omega) hr)
  have HV := hid (fun w => rvalid_res c d w hc hd true (veB_iff.2 hv))
  obtain ⟨k1, k2⟩ := cells2 w (.int .i64 c) (.int .i64 d) 28
  have HG0 : Hid (Grew w (w.alloc (.cells #[.int .i64 c, .int .i64 d] 28))) := hid (Only.alloc _ _)
  have hxlen : l.length ≤ 1048576 := by omega
  clear hl hlo hr hc hd hv
  go_enter Try.func4, Try.ntmps4
  go_wp2_with (first | (go_at_call 11; have cX := new_ok A cp l w2 ((HRi.out.2.2.2.grew HG0.out).grew (Grew.trans hg1 hg2)) HRi.out.2.1 hxlen HRi.out.1; with_reducible refine cX.mono ?_; clear cX; rintro e w3 ⟨p, S, rfl, hp, hS, hI, hg3⟩) | (go_at_call 14; have cX := HV.out w1; with_reducible refine cX.mono ?_; clear cX; rintro e w2 ⟨rfl, hg2⟩; have n1 := hg2.cell m1 (fun h => h); have n2 := hg2.cell m2 (fun h => h)) | (go_at_call 9; have cX := HC.out; with_reducible refine cX.mono ?_; clear cX; rintro e w1 ⟨rfl, hg1⟩; have m1 := hg1.cell k1 (fun h => h); have m2 := hg1.cell k2 (fun h => h)))
  have HG3 : Hid (Grew w w3) := hid (Grew.trans HG0.out (Grew.trans hg1 (Grew.trans hg2 hg3)))
  have HS : Hid (∀ w', Grew w3 w' → w'.cell? ⟨w.heap.size, 0, none⟩ = some (.int .i64 c) ∧ w'.cell? ⟨w.heap.size, 1, none⟩ = some (.int .i64 d)) := hid (fun w' h => ⟨(Grew.trans hg3 h).cell n1 (fun h => h), (Grew.trans hg3 h).cell n2 (fun h => h)⟩)
  obtain ⟨zs, hz⟩ : ∃ zs, (parts (c, d) S).map (·.1) = zs := ⟨_, rfl⟩
  obtain ⟨z, hzc⟩ : ∃ z, cw (parts (c, d) S) = z := ⟨_, rfl⟩
  have hzl : zs.length ≤ 60 := by
    have h1 := parts_length_le (c, d) S
    have h2 := hp.length_eq
    rw [ents_length] at h2
    rw [← hz, List.length_map]
    omega
  have HM : Hid (∀ W, Grew w3 W → Calls Try.prog 16 #[.pointer (some ⟨p, 0, none⟩), .agg #[.int .i64 c, .int .i64 d]] W fun e W' => ∃ A k, e = .returned (.slice A zs.length k) ∧ SlI W' A zs ∧ Grew W W') := hid (fun W hW => meet_is p S c d W (hI.grew hW) hS HRi.out.2.2.1 zs hz)
  have HRM : Hid (∀ W, Grew w3 W → Calls Try.prog 17 #[.slice A l.length cp, .agg #[.int .i64 c, .int .i64 d]] W fun e W' => ∃ A k, e = .returned (.slice A zs.length k) ∧ SlI W' A zs ∧ Grew W W') := hid (fun W hW => rmeet_is A cp l c d W (HRi.out.2.2.2.grew (Grew.trans HG3.out hW)) HRi.out.1 HRi.out.2.2.1 hxlen S hp hS zs hz)
  have HCo : Hid (∀ W, Grew w3 W → Calls Try.prog 18 #[.pointer (some ⟨p, 0, none⟩), .agg #[.int .i64 c, .int .i64 d]] W fun e W' => e = .returned (.int .i64 z) ∧ Grew W W') := hid (fun W hW => covered_is p S c d W (hI.grew hW) hS HRi.out.2.2.1 z hzc)
  have HRC : Hid (∀ W, Grew w3 W → Calls Try.prog 19 #[.slice A l.length cp, .agg #[.int .i64 c, .int .i64 d]] W fun e W' => e = .returned (.int .i64 z) ∧ Grew W W') := hid (fun W hW => rcovered_is A cp l c d W (HRi.out.2.2.2.grew (Grew.trans HG3.out hW)) HRi.out.1 HRi.out.2.2.1 hxlen S hp z hzc)
  clear hz hzc hp hS hI hg1 hg2 hg3 k1 k2 m1 m2 n1 n2 HC HV
  go_wp2_with fail
  generalize w.heap.size = B at *
  go_region_held3 (fun w' => w'.cell? ⟨B, 0, none⟩ = some (.int .i64 c) ∧ w'.cell? ⟨B, 1, none⟩ = some (.int .i64 d))
    (first
      | exact HS.out _ (Only.drew _)
      | exact HS.out _ hf
      | exact HS.out _ he
      | exact HS.out _ hd
      | exact HS.out _ hc
      | exact HS.out _ hb
      | exact HS.out _ ha)
    (first
      | (go_at_call 19; have cX := HRC.out we he; with_reducible refine cX.mono ?_; clear cX; rintro e wf ⟨rfl, hf0⟩; have hf : Grew w3 wf := Grew.trans he hf0)
      | (go_at_call 18; have cX := HCo.out wd hd; with_reducible refine cX.mono ?_; clear cX; rintro e we ⟨rfl, he0⟩; have he : Grew w3 we := Grew.trans hd he0)
      | (go_at_call 15; have cX := equalI_same Ab Ac cb cc zs wc (ib.grew hc0) ic (by omega); with_reducible refine cX.mono ?_; clear cX; rintro e wd ⟨rfl, hd0⟩; have hd : Grew w3 wd := Grew.trans hc hd0)
      | (go_at_call 17; have cX := HRM.out wb hb; with_reducible refine cX.mono ?_; clear cX; rintro e wc ⟨Ac, cc, rfl, ic, hc0⟩; have hc : Grew w3 wc := Grew.trans hb hc0)
      | (go_at_call 16; have cX := HM.out wa ha; with_reducible refine cX.mono ?_; clear cX; rintro e wb ⟨Ab, cb, rfl, ib, hb0⟩; have hb : Grew w3 wb := Grew.trans ha hb0)
      | (go_at_call 10; refine (ialive_at _).mono ?_; rintro e wa ⟨rfl, ha0⟩; have ha : Grew w3 wa := Grew.trans (Only.drew _) ha0))
  all_goals
    go_wp2
    go_ret
    exact ⟨rfl, Grew.trans HG3.out hf⟩
end Go.Proofs.Ytgpfhdjedebdfaa
