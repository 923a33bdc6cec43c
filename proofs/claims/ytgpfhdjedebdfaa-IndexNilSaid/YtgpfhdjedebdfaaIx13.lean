/- The walk of the reference Right. -/
import Derived.Test.YtgpfhdjedebdfaaIx12
namespace Go.Proofs.Ytgpfhdjedebdfaa
open Go.RowKit Go.MapKept

def RightL (l : List (Int × Int)) : Prop := (∀ e ∈ l, VE e ∧ 0 < e.2) ∧ ∀ (i j : Nat) (x y : Int × Int), j < i → l[i]? = some x → l[j]? = some y → meets x y = false
/-- The reference's test on the first k. -/
def RightTo (l : List (Int × Int)) (k : Nat) : Prop := (∀ (i : Nat) (x : Int × Int), i < k → l[i]? = some x → VE x ∧ 0 < x.2) ∧ ∀ (i j : Nat) (x y : Int × Int), i < k → j < i → l[i]? = some x → l[j]? = some y → meets x y = false
theorem RightTo.all {l : List (Int × Int)} (h : RightTo l l.length) : RightL l :=
  ⟨fun e he => by
    obtain ⟨i, hi⟩ := List.mem_iff_getElem?.1 he
    exact h.1 i e (List.getElem?_eq_some_iff.1 hi).1 hi, fun i j x y hij hx hy => h.2 i j x y (List.getElem?_eq_some_iff.1 hx).1 hij hx hy⟩
theorem ovl_pos {a b : Int × Int} : (0 < (ovl a b).2) ↔ meets a b = true := by
  unfold ovl meets
  split
  · rename_i h
    simp only [decide_eq_true_eq]
    exact ⟨fun _ => h, fun _ => by show 0 < min (a.1 + a.2) (b.1 + b.2) - max a.1 b.1; omega⟩
  · rename_i h
    simp [h]
set_option maxRecDepth 100000 in
set_option maxHeartbeats 4000000 in
theorem rright_at (A : Option Addr) (cp : Nat) (l : List (Int × Int)) (w : World) (hl : SlE w A l) (hlo : ∀ e ∈ l, okE e) (hll : l.length ≤ 1048576) :
    Calls Try.prog 9 #[.slice A l.length cp] w fun e w' => ∃ r : Bool, e = .returned (.bool r) ∧ (r = true ↔ RightL l) ∧ Grew w w' := by
  have HP := hid (And.intro hl hlo)
  clear hl hlo
  go_enter Try.func9, Try.ntmps9
  go_wp2_with fail
  go_loopw [3] (fun i wr => ∃ (k : Nat), k ≤ l.length ∧ i = .int .i64 k ∧ Hid (RightTo l k) ∧ Grew w wr) (fun i _ => l.length - (intOf i).toNat)
  case atStart => exact ⟨0, Nat.zero_le _, rfl, hid ⟨fun i x h => by omega, fun i j x y h => by omega⟩, Only.refl _ _⟩
  case round =>
    obtain ⟨k, hk, rfl, hR, hO⟩ := hrel
    have HO := hid hO
    clear hO
    by_cases hlt : k < l.length
    · have hb0 : (k : Int) < (l.length : Int) := by omega
      obtain ⟨bl, o, rfl, hcell⟩ := (HP.out.1.grew HO.out) (by omega)
      have HC := hid hcell
      obtain ⟨c1, c2⟩ := hcell k hlt
      obtain ⟨x, hx⟩ : ∃ x, l[k]? = some x := ⟨_, List.getElem?_eq_getElem hlt⟩
      simp only [hx, Option.getD_some] at c1 c2
      have HX := hid (And.intro hx (HP.out.2 x (List.mem_of_getElem? hx)))
      obtain ⟨a, b⟩ := x
      simp only at c1 c2
      obtain ⟨v, hv⟩ : ∃ v : Bool, veB (a, b) = v := ⟨_, rfl⟩
      have HV := hid hv
      have CV : Hid (Calls Try.prog 14 #[.agg #[.int .i64 a, .int .i64 b]] wr fun e w' => e = .returned (.bool v) ∧ Grew wr w') := hid (by
        have h := rvalid_is a b wr HX.out.2.1 HX.out.2.2
        rw [hv] at h
        exact h)
      clear hcell hx hv
      cases v with
      | false =>
        go_wp2_with (go_at_call 14; have cX := CV.out; with_reducible refine cX.mono ?_; clear cX; rintro e wa ⟨rfl, hg⟩)
        go_ret
        refine ⟨false, rfl, ⟨fun h => by (cases h), fun h => ?_⟩, Grew.trans HO.out hg⟩
        have h1 := veB_iff.2 (h.1 _ (List.mem_of_getElem? HX.out.1)).1
        rw [HV.out] at h1
        exact h1
      | true =>
        by_cases hb : b = 0
        · have hbz : (b == 0) = true := by simp [hb]
          have HB0 := hid hb
          clear hb
          go_wp2_with (go_at_call 14; have cX := CV.out; with_reducible refine cX.mono ?_; clear cX; rintro e wa ⟨rfl, hg⟩; have d2 := hg.cell c2 (fun h => h))
          go_ret
          refine ⟨false, rfl, ⟨fun h => by (cases h), fun h => ?_⟩, Grew.trans HO.out hg⟩
          have h1 := (h.1 _ (List.mem_of_getElem? HX.out.1)).2
          simp only at h1
          have := HB0.out
          omega
        · have hbz : (b == 0) = false := by simpa using hb
          have hve := veB_iff.1 HV.out
          have HB0 : Hid (VE (a, b) ∧ 0 < b) := hid ⟨hve, by have h1 : 0 ≤ b := hve.2.1; omega⟩
          clear hve hb
          go_wp2_with (go_at_call 14; have cX := CV.out; with_reducible refine cX.mono ?_; clear cX; rintro e wa ⟨rfl, hg⟩; have d2 := hg.cell c2 (fun h => h))
          have HG : Hid (Grew w wa) := hid (Grew.trans HO.out hg)
          clear hg d2 c1 c2
          obtain ⟨wo, rfl⟩ : ∃ wo : World, wo = wr := ⟨_, rfl⟩
          go_loopw [4] (fun i wr => ∃ (m : Nat), m ≤ k ∧ i = .int .i64 m ∧ Hid (∀ (j : Nat) (y : Int × Int), j < m → l[j]? = some y → meets (a, b) y = false) ∧ Grew wa wr) (fun i _ => k - (intOf i).toNat)
          case atStart => exact ⟨0, Nat.zero_le _, rfl, hid (fun j y h => by omega), Only.refl _ _⟩
          case round =>
            obtain ⟨m, hm, rfl, hM, hO2⟩ := hrel
            have HO2 : Hid (Grew w wr) := hid (Grew.trans HG.out hO2)
            have HO3 := hid hO2
            clear hO2
            by_cases hmk : m < k
            · have hb1 : (m : Int) < (k : Int) := by omega
              have hb2 : (m : Int) < (l.length : Int) := by omega
              obtain ⟨y, hy⟩ : ∃ y, l[m]? = some y := ⟨_, List.getElem?_eq_getElem (by omega)⟩
              obtain ⟨bl', o', he', hcell'⟩ := (HP.out.1.grew HO2.out) (by omega)
              cases he'
              obtain ⟨c1, c2⟩ := hcell' k hlt
              obtain ⟨c3, c4⟩ := hcell' m (by omega)
              simp only [HX.out.1, hy, Option.getD_some] at c1 c2 c3 c4
              have HY := hid (And.intro hy (hR.out.1 m y hmk hy))
              obtain ⟨a', b'⟩ := y
              simp only at c3 c4
              obtain ⟨o1, o2, hov⟩ : ∃ o1 o2 : Int, ovl (a, b) (a', b') = (o1, o2) := ⟨_, _, rfl⟩
              have HOV := hid hov
              have HCO : Hid (∀ W, Calls Try.prog 29 #[.agg #[.int .i64 a, .int .i64 b], .agg #[.int .i64 a', .int .i64 b']] W fun e w' => e = .returned (.agg #[.int .i64 o1, .int .i64 o2]) ∧ Grew W w') := hid (fun W => by
                have h := roverlap_at a b a' b' W HB0.out.1 HY.out.2.1
                rw [hov] at h
                exact h)
              have hfd : ∀ w : World, (Instr.field 28 (.agg #[.int .i64 o1, .int .i64 o2]) 1).run Try.prog w = .ok (.int .i64 o2) w := fun _ => by kernel_rfl
              have HS : Hid (∀ w', Grew wr w' → w'.cell? ⟨bl, o + k * 2, none⟩ = some (.int .i64 a) ∧ w'.cell? ⟨bl, o + k * 2 + 1, none⟩ = some (.int .i64 b) ∧ w'.cell? ⟨bl, o + m * 2, none⟩ = some (.int .i64 a') ∧ w'.cell? ⟨bl, o + m * 2 + 1, none⟩ = some (.int .i64 b')) :=
                hid (fun w' h => ⟨h.cell c1 (fun h => h), h.cell c2 (fun h => h), h.cell c3 (fun h => h), h.cell c4 (fun h => h)⟩)
              clear hcell' hy hov c1 c2 c3 c4
              by_cases hpos : 0 < o2
              · have hd : decide (0 < o2) = true := by simpa using hpos
                have HPOS := hid hpos
                clear hpos
                go_wp2_with fail
                go_region_held3 (fun w' => w'.cell? ⟨bl, o + k * 2, none⟩ = some (.int .i64 a) ∧ w'.cell? ⟨bl, o + k * 2 + 1, none⟩ = some (.int .i64 b) ∧ w'.cell? ⟨bl, o + m * 2, none⟩ = some (.int .i64 a') ∧ w'.cell? ⟨bl, o + m * 2 + 1, none⟩ = some (.int .i64 b'))
                  (first
                    | exact HS.out _ (Only.drew _)
                    | exact HS.out _ ha)
                  (first
                    | (go_at_call 29; refine (HCO.out _).mono ?_; rintro e wb ⟨rfl, ha0⟩; have ha : Grew wr wb := Grew.trans (Only.drew _) ha0))
                all_goals
                  go_wp2
                  go_ret
                  refine ⟨false, rfl, ⟨fun h => by (cases h), fun h => ?_⟩, Grew.trans HO2.out ha⟩
                  have h1 := h.2 k m _ _ hmk HX.out.1 HY.out.1
                  have h2 := (ovl_pos (a := (a, b)) (b := (a', b'))).1 (by rw [HOV.out]; exact HPOS.out)
                  rw [h1] at h2
                  cases h2
              · have hd : decide (0 < o2) = false := by simpa using hpos
                have HPOS := hid hpos
                clear hpos
                go_wp2_with fail
                go_region_held3 (fun w' => w'.cell? ⟨bl, o + k * 2, none⟩ = some (.int .i64 a) ∧ w'.cell? ⟨bl, o + k * 2 + 1, none⟩ = some (.int .i64 b) ∧ w'.cell? ⟨bl, o + m * 2, none⟩ = some (.int .i64 a') ∧ w'.cell? ⟨bl, o + m * 2 + 1, none⟩ = some (.int .i64 b'))
                  (first
                    | exact HS.out _ (Only.drew _)
                    | exact HS.out _ ha)
                  (first
                    | (go_at_call 29; refine (HCO.out _).mono ?_; rintro e wb ⟨rfl, ha0⟩; have ha : Grew wr wb := Grew.trans (Only.drew _) ha0))
                all_goals
                  go_wp2
                  go_roundw
                  case rel =>
                    refine ⟨m + 1, by omega, by go_num, hid (fun j y hj hy => ?_), Grew.trans HO3.out ha⟩
                    rcases Nat.lt_or_eq_of_le (show j ≤ m by omega) with h | h
                    · exact hM.out j y h hy
                    · subst h
                      rw [HY.out.1] at hy
                      cases hy
                      cases hme : meets (a, b) (a', b') with
                      | false => rfl
                      | true =>
                        have h2 := (ovl_pos (a := (a, b)) (b := (a', b'))).2 hme
                        rw [HOV.out] at h2
                        have h3 := HPOS.out
                        simp only at h2
                        omega
                  case measure => simp [intOf]; omega
            · obtain rfl : m = k := by omega
              go_wp2
              go_roundw
              case rel =>
                refine ⟨m + 1, by omega, by go_num, hid ⟨fun i x hi hx => ?_, fun i j x y hi hj hx hy => ?_⟩, HO2.out⟩
                · rcases Nat.lt_or_eq_of_le (show i ≤ m by omega) with h | h
                  · exact hR.out.1 i x h hx
                  · subst h
                    rw [HX.out.1] at hx
                    cases hx
                    exact HB0.out
                · rcases Nat.lt_or_eq_of_le (show i ≤ m by omega) with h | h
                  · exact hR.out.2 i j x y h hj hx hy
                  · subst h
                    rw [HX.out.1] at hx
                    cases hx
                    exact hM.out j y hj hy
              case measure => simp [intOf]; omega
    · obtain rfl : k = l.length := by omega
      go_wp2
      go_ret
      exact ⟨true, rfl, ⟨fun _ => hR.out.all, fun _ => rfl⟩, HO.out⟩
end Go.Proofs.Ytgpfhdjedebdfaa
