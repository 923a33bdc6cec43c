/- The walk of the law IndexFinds. -/
import Derived.Test.YtgpfhdjedebdfaaIx20
namespace Go.Proofs.Ytgpfhdjedebdfaa
open Go.RowKit Go.MapKept Go.Shelf Go.Lib

theorem find_elem {l : List (Int × Int)} {S : List Ent} (hp : S.Perm (ents l)) {k : Nat} {x : Int × Int} (hx : l[k]? = some x) {off : Int} (h1 : x.1 ≤ off) (h2 : off < x.1 + x.2) : IsFind S off (k : Int) :=
  .inl ⟨(x, (k : Int)), hp.mem_iff.2 (mem_ents.2 ⟨k, hx, rfl⟩), h1, h2, rfl⟩
theorem rfind_find {l : List (Int × Int)} {S : List Ent} (hp : S.Perm (ents l)) {off v : Int} (h : IsRFind l off v) : IsFind S off v := by
  rcases h with ⟨i, x, hx, hh, rfl⟩ | ⟨hno, rfl⟩
  · exact find_elem hp hx hh.1 hh.2
  · refine .inr ⟨fun x hx => ?_, rfl⟩
    obtain ⟨i, hi, _⟩ := mem_ents.1 (hp.mem_iff.1 hx)
    exact hno x.1 (List.mem_of_getElem? hi)
set_option maxRecDepth 100000 in
set_option maxHeartbeats 1000000 in
theorem lfinds_big (A : Option Addr) (cp : Nat) (l : List (Int × Int)) (off : Int) (w : World) (h : 60 < l.length) :
    Calls Try.prog 3 #[.slice A l.length cp, .int .i64 off] w fun e w' => e = .returned (.bool true) ∧ Grew w w' := by
  have h1 : decide ((60 : Int) < (l.length : Int)) = true := by simp; omega
  have h2 : decide (60 < l.length) = true := by simp; omega
  go_enter Try.func3, Try.ntmps3
  go_wp2_with (go_at_call 10; refine (ialive_at _).mono ?_; rintro e w9 ⟨rfl, hg9⟩)
  go_ret
  exact ⟨rfl, hg9⟩
set_option maxRecDepth 100000 in
set_option maxHeartbeats 1000000 in
theorem lfinds_wrong (A : Option Addr) (cp : Nat) (l : List (Int × Int)) (off : Int) (w : World) (hl : SlE w A l) (hlo : ∀ e ∈ l, okE e) (h : l.length ≤ 60) (hr : ¬ RightL l) :
    Calls Try.prog 3 #[.slice A l.length cp, .int .i64 off] w fun e w' => e = .returned (.bool true) ∧ Grew w w' := by
  have h1 : decide ((60 : Int) < (l.length : Int)) = false := by simp; omega
  have h2 : decide (60 < l.length) = false := by simp; omega
  have HC := hid (rright_no A cp l w hl hlo (by omega) hr)
  clear hl hlo hr h
  go_enter Try.func3, Try.ntmps3
  go_wp2_with (first | (go_at_call 10; refine (ialive_at _).mono ?_; rintro e w9 ⟨rfl, hg9⟩) | (go_at_call 9; have cX := HC.out; with_reducible refine cX.mono ?_; clear cX; rintro e w1 ⟨rfl, hg1⟩))
  go_ret
  exact ⟨rfl, Grew.trans hg1 hg9⟩
set_option maxRecDepth 100000 in
set_option maxHeartbeats 4000000 in
theorem lfinds_at (A : Option Addr) (cp : Nat) (l : List (Int × Int)) (off : Int) (w : World) (hl : SlE w A l) (hlo : ∀ e ∈ l, okE e) (h : l.length ≤ 60) (hr : RightL l) :
    Calls Try.prog 3 #[.slice A l.length cp, .int .i64 off] w fun e w' => e = .returned (.bool true) ∧ Grew w w' := by
  have h1 : decide ((60 : Int) < (l.length : Int)) = false := by simp; omega
  have h2 : decide (60 < l.length) = false := by simp; omega
  have HRi := hid (And.intro hr (And.intro hlo hl))
  have HC := hid (rright_yes A cp l w hl hlo (by omega) hr)
  have hxlen : l.length ≤ 1048576 := by omega
  clear hl hlo hr
  go_enter Try.func3, Try.ntmps3
  go_wp2_with (first | (go_at_call 11; have cX := new_ok A cp l w1 (HRi.out.2.2.grew hg1) HRi.out.2.1 hxlen HRi.out.1; with_reducible refine cX.mono ?_; clear cX; rintro e w3 ⟨p, S, rfl, hp, hS, hI, hg3⟩) | (go_at_call 9; have cX := HC.out; with_reducible refine cX.mono ?_; clear cX; rintro e w1 ⟨rfl, hg1⟩))
  have HG3 : Hid (Grew w w3) := hid (Grew.trans hg1 hg3)
  have HX := hid (And.intro hp (And.intro hS hI))
  clear hp hS hI hg1 hg3 HC
  go_wp2_with fail
  go_loopw [23] (fun i wr => ∃ k : Nat, k ≤ l.length ∧ i = .int .i64 k ∧ Grew w3 wr) (fun i _ => l.length - (intOf i).toNat)
  case atStart => exact ⟨0, Nat.zero_le _, rfl, Only.refl _ _⟩
  case round =>
    obtain ⟨k, hk, rfl, hO⟩ := hrel
    have HO := hid hO
    clear hO
    by_cases hlt : k < l.length
    · have hb0 : (k : Int) < (l.length : Int) := by omega
      obtain ⟨bl, o, rfl, hcell⟩ := (HRi.out.2.2.grew (Grew.trans HG3.out HO.out)) (by omega)
      obtain ⟨c1, c2⟩ := hcell k hlt
      obtain ⟨y, hy⟩ : ∃ y, l[k]? = some y := ⟨_, List.getElem?_eq_getElem hlt⟩
      simp only [hy, Option.getD_some] at c1 c2
      have hv := HRi.out.1.1 y (List.mem_of_getElem? hy)
      have HY := hid hy
      obtain ⟨a, b⟩ := y
      obtain ⟨⟨v1, v2, v3⟩, v4⟩ := hv
      simp only at c1 c2 v1 v2 v3 v4
      have HF1 := hid (fun (W : World) (hW : Grew w3 W) => find_is p S a W (HX.out.2.2.grew hW) HX.out.2.1 (k : Int) (find_elem HX.out.1 HY.out (Int.le_refl _) (by simp only; omega)))
      have HF2 := hid (fun (W : World) (hW : Grew w3 W) => find_is p S (a + b - 1) W (HX.out.2.2.grew hW) HX.out.2.1 (k : Int) (find_elem HX.out.1 HY.out (by simp only; omega) (by simp only; omega)))
      have hc12 := cells2 wr (.int .i64 a) (.int .i64 b) 28
      have HG4 : Hid (Grew w3 (wr.alloc (.cells #[.int .i64 a, .int .i64 b] 28))) := hid (Grew.trans HO.out (Only.alloc _ _))
      obtain ⟨d1, d2⟩ := hc12
      clear hcell hy
      go_wp2_with (first
        | (go_at_call 12; have cX := HF2.out w5 (Grew.trans HG4.out hg5); with_reducible refine cX.mono ?_; clear cX; rintro e w6 ⟨rfl, hg6⟩)
        | (go_at_call 12; have cX := HF1.out _ HG4.out; with_reducible refine cX.mono ?_; clear cX; rintro e w5 ⟨rfl, hg5⟩; have e1 := hg5.cell d1 (fun h => h); have e2 := hg5.cell d2 (fun h => h)))
      go_roundw
      case rel => exact ⟨k + 1, by omega, by go_num, Grew.trans HG4.out (Grew.trans hg5 hg6)⟩
      case measure => simp [intOf]; omega
    · obtain rfl : k = l.length := by omega
      go_wp2_with (first
        | (go_at_call 13; have cX := rfind_at A cp l off w6 (HRi.out.2.2.grew (Grew.trans HG3.out (Grew.trans HO.out (Grew.trans hg5 hg6)))) (fun e he => (HRi.out.1.1 e he).1) hxlen; with_reducible refine cX.mono ?_; clear cX; rintro e w7 ⟨u, rfl, hu, hg7⟩; obtain rfl := IsFind.unique HX.out.2.1 hv (rfind_find HX.out.1 hu))
        | (go_at_call 12; have cX := find_at p S off w5 (HX.out.2.2.grew (Grew.trans HO.out hg5)) HX.out.2.1; with_reducible refine cX.mono ?_; clear cX; rintro e w6 ⟨v, rfl, hv, hg6⟩)
        | (go_at_call 10; refine (ialive_at _).mono ?_; rintro e w5 ⟨rfl, hg5⟩))
      go_ret
      exact ⟨rfl, Grew.trans HG3.out (Grew.trans HO.out (Grew.trans hg5 (Grew.trans hg6 hg7)))⟩
end Go.Proofs.Ytgpfhdjedebdfaa
