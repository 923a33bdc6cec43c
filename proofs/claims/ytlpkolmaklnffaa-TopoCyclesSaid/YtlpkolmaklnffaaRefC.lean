/- The walks of the reference's least and Cycle. -/
import Derived.Test.YtlpkolmaklnffaaSteps
import Derived.Test.YtlpkolmaklnffaaCycW
namespace Go.Proofs.Ytlpkolmaklnffaa
open Go.RowKit Go.MapKept

/-- The nearest so far among the vertices looked at. -/
def NearUpto (d : List Int) (L : List Int) (n : Int) : Prop :=
  (n = -1 ∧ ∀ x ∈ L, dget d x < 0) ∨ ∃ m : Nat, n = m ∧ (∃ x ∈ L, dget d x = m) ∧ ∀ x ∈ L, 0 ≤ dget d x → (m : Int) ≤ dget d x
theorem NearUpto.range {d L : List Int} {n : Int} (h : NearUpto d L n) : -1 ≤ n := by
  rcases h with h | ⟨m, rfl, _⟩ <;> omega
theorem NearUpto.keep {d L : List Int} {n : Int} {x : Int} (h : NearUpto d L n) (hc : dget d x < 0 ∨ (¬ n < 0 ∧ ¬ dget d x < n)) : NearUpto d (L ++ [x]) n := by
  rcases h with ⟨rfl, h⟩ | ⟨m, rfl, ⟨y, hy, hd⟩, h⟩
  · refine .inl ⟨rfl, fun y hy => ?_⟩
    rcases List.mem_append.1 hy with hy | hy
    · exact h y hy
    · obtain rfl : y = x := by simpa using hy
      omega
  · refine .inr ⟨m, rfl, ⟨y, by simp [hy], hd⟩, fun z hz h0 => ?_⟩
    rcases List.mem_append.1 hz with hz | hz
    · exact h z hz h0
    · obtain rfl : z = x := by simpa using hz
      omega
theorem NearUpto.put {d L : List Int} {n : Int} {x : Int} (h : NearUpto d L n) (h0 : ¬ dget d x < 0) (hc : n < 0 ∨ dget d x < n) : NearUpto d (L ++ [x]) (dget d x) := by
  obtain ⟨k, hk⟩ := Int.eq_ofNat_of_zero_le (show 0 ≤ dget d x by omega)
  refine .inr ⟨k, hk, ⟨x, by simp, hk⟩, fun z hz hz0 => ?_⟩
  rcases List.mem_append.1 hz with hz | hz
  · rcases h with ⟨rfl, h⟩ | ⟨m, rfl, _, h⟩
    · have := h z hz; omega
    · have := h z hz hz0; omega
  · obtain rfl : z = x := by simpa using hz
    omega
theorem mem_outs {E : List (Int × Int)} {N : Nat} {v x : Int} (hE : Valid N E) : x ∈ (verts N).filter (fun x => decide ((v, x) ∈ E)) ↔ (v, x) ∈ E := by
  rw [List.mem_filter, decide_eq_true_eq]
  exact ⟨fun h => h.2, fun h => ⟨mem_verts.2 (hE _ h).2.1, h⟩⟩
set_option maxRecDepth 100000 in
set_option maxHeartbeats 1000000 in
theorem least_at (b N : Nat) (v : Int) (E : List (Int × Int)) (F : Nat → Prop) (sb : Nat) (d : List Int) (n : Int) (w : World) (hG : IsRef w F b N E) (hN : N ≤ 1048576) (hE : Valid N E) (hI : Ints w sb d) (hd : d.length = N) (hx : ∃ x, (v, x) ∈ E ∧ dget d x = n) :
    Calls Try.prog 77 #[.pointer (some ⟨b, 0, none⟩), .int .i64 v, .slice (some ⟨sb, 0, none⟩) N N, .int .i64 n] w fun e w' => ∃ x, e = .returned (.int .i64 x) ∧ (v, x) ∈ E ∧ dget d x = n ∧ (∀ y, (v, y) ∈ E → dget d y = n → x ≤ y) ∧ Grew w w' := by
  have HP := hid (And.intro hG (And.intro hE (And.intro hI hx)))
  clear hG hE hI hx
  go_enter Try.func77, Try.ntmps77
  obtain ⟨L, hL⟩ : ∃ L, (verts N).filter (fun x => decide ((v, x) ∈ E)) = L := ⟨_, rfl⟩
  have hLN : L.length ≤ N := by rw [← hL]; exact Nat.le_trans (List.length_filter_le _ _) (by simp [verts])
  have HL : Hid ((∀ x, x ∈ L ↔ (v, x) ∈ E) ∧ L.Pairwise (· < ·)) := hid ⟨fun x => by rw [← hL]; exact mem_outs HP.out.2.1, by rw [← hL]; exact (verts_sorted N).filter _⟩
  go_wp2_with (go_at_call 70; refine (rout_is b N v E F w HP.out.1 hN L hL.symm).mono ?_; rintro e w1 ⟨A1, c1, rfl, hi1, hg1⟩)
  have H1 := hid (And.intro hi1 hg1)
  clear hi1 hg1 hL
  go_wp2_with fail
  go_loopw [10] (fun i wr => ∃ k : Nat, k ≤ L.length ∧ i = .int .i64 k ∧ (∀ x ∈ L.take k, dget d x ≠ n) ∧ Grew w1 wr) (fun i _ => L.length - (intOf i).toNat)
  case atStart => exact ⟨0, Nat.zero_le _, rfl, fun x hx => by simp at hx, Only.refl _ _⟩
  case round =>
    obtain ⟨k, hk, rfl, hall, hO⟩ := hrel
    have HO := hid (And.intro hall hO)
    have hsl := H1.out.1.grew hO
    have hI2 := (HP.out.2.2.1.only H1.out.2 (fun h => h)).only hO (fun h => h)
    clear hO hall
    by_cases hlt : k < L.length
    · obtain ⟨bl, off, rfl, hcell⟩ := hsl (by omega)
      have h1 := hcell k hlt
      obtain ⟨x, hx⟩ : ∃ x, L[k]? = some x := ⟨_, List.getElem?_eq_getElem hlt⟩
      simp only [hx, Option.getD_some] at h1
      have hm := List.mem_of_getElem? hx
      have hr := (HP.out.2.1 _ ((HL.out.1 x).1 hm)).2.1
      obtain ⟨X, rfl⟩ := Int.eq_ofNat_of_zero_le hr.1
      have hX : X < N := by omega
      have hbX : (X : Int) < (N : Int) := by omega
      have hc := hI2.cell (i := X) (by omega)
      have hb0 : (k : Int) < (L.length : Int) := by omega
      have HX := hid (And.intro hx hm)
      clear hcell hsl hx hm hI2
      generalize hdx : dget d X = dx at hc
      have HDX := hid hdx
      clear hdx
      by_cases heq : dx = n
      · subst heq
        go_wp2
        go_ret
        refine ⟨_, rfl, (HL.out.1 _).1 HX.out.2, HDX.out, fun y hy hdy => ?_, Grew.trans H1.out.2 HO.out.2⟩
        have hym := (HL.out.1 y).2 hy
        rw [← List.take_append_drop k L] at hym
        rcases List.mem_append.1 hym with h | h
        · exact absurd hdy (HO.out.1 y h)
        · rw [List.drop_eq_getElem_cons hlt] at h
          have e1 : L[k] = (X : Int) := by
            have := HX.out.1
            rw [List.getElem?_eq_getElem hlt] at this
            exact Option.some.inj this
          rw [e1] at h
          rcases List.mem_cons.1 h with rfl | h
          · exact Int.le_refl _
          · have hs := HL.out.2
            rw [← List.take_append_drop k L, List.drop_eq_getElem_cons hlt, e1] at hs
            exact Int.le_of_lt ((List.pairwise_cons.1 (List.pairwise_append.1 hs).2.1).1 y h)
      · go_wp2
        go_roundw
        case rel =>
          refine ⟨k + 1, by omega, by go_num, fun x hx => ?_, HO.out.2⟩
          rw [List.take_add_one, HX.out.1] at hx
          rcases List.mem_append.1 hx with h | h
          · exact HO.out.1 x h
          · obtain rfl : x = (X : Int) := by simpa using h
            rw [HDX.out]
            exact heq
        case measure => simp [intOf]; omega
    · obtain rfl : k = L.length := by omega
      exfalso
      obtain ⟨x, h1, h2⟩ := HP.out.2.2.2
      exact HO.out.1 x (by rw [List.take_length]; exact (HL.out.1 x).2 h1) h2
end Go.Proofs.Ytlpkolmaklnffaa
