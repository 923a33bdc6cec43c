/- The walk of the law IndexMakes. -/
import Derived.Test.YtgpfhdjedebdfaaIx20
import Derived.StillTailTactics
namespace Go.Proofs.Ytgpfhdjedebdfaa
open Go.RowKit Go.MapKept Go.Shelf Go.Lib

theorem new_no (A : Option Addr) (c : Nat) (l : List (Int × Int)) (w : World) (hl : SlE w A l) (hlo : ∀ e ∈ l, okE e) (hll : l.length ≤ 1048576) (hr : ¬ RightL l) :
    Calls Try.prog 11 #[.slice A l.length c] w fun e w' => e = .returned (.pointer none) ∧ Grew w w' :=
  (new_at A c l w hl hlo hll).mono fun _ _ ⟨hg, h⟩ => by
    rcases h with ⟨p, S, h1, h2, h3, h4⟩ | ⟨h1, _⟩
    · exact absurd (right_of_good h2 h3) hr
    · exact ⟨h1, hg⟩
set_option maxRecDepth 100000 in
set_option maxHeartbeats 1000000 in
theorem lmakes_big (A : Option Addr) (cp : Nat) (l : List (Int × Int)) (w : World) (h : 60 < l.length) :
    Calls Try.prog 7 #[.slice A l.length cp] w fun e w' => e = .returned (.bool true) ∧ Grew w w' := by
  have h1 : decide ((60 : Int) < (l.length : Int)) = true := by simp; omega
  have h2 : decide (60 < l.length) = true := by simp; omega
  go_enter Try.func7, Try.ntmps7
  go_wp2_with (go_at_call 10; refine (ialive_at _).mono ?_; rintro e w9 ⟨rfl, hg9⟩)
  go_ret
  exact ⟨rfl, hg9⟩
set_option maxRecDepth 100000 in
set_option maxHeartbeats 1000000 in
theorem lmakes_wrong (A : Option Addr) (cp : Nat) (l : List (Int × Int)) (w : World) (hl : SlE w A l) (hlo : ∀ e ∈ l, okE e) (h : l.length ≤ 60) (hr : ¬ RightL l) :
    Calls Try.prog 7 #[.slice A l.length cp] w fun e w' => e = .returned (.bool true) ∧ Grew w w' := by
  have h1 : decide ((60 : Int) < (l.length : Int)) = false := by simp; omega
  have h2 : decide (60 < l.length) = false := by simp; omega
  have HN := hid (new_no A cp l w hl hlo (by omega) hr)
  have HC := hid (fun (w1 : World) (hg : Grew w w1) => rright_no A cp l w1 (hl.grew hg) hlo (by omega) hr)
  clear hl hlo hr h
  go_enter Try.func7, Try.ntmps7
  go_wp2_with (first | (go_at_call 10; refine (ialive_at _).mono ?_; rintro e w9 ⟨rfl, hg9⟩) | (go_at_call 9; have cX := HC.out w0 hg0; with_reducible refine cX.mono ?_; clear cX; rintro e w1 ⟨rfl, hg1⟩) | (go_at_call 11; have cX := HN.out; with_reducible refine cX.mono ?_; clear cX; rintro e w0 ⟨rfl, hg0⟩))
  go_ret
  exact ⟨rfl, Grew.trans hg0 (Grew.trans hg1 hg9)⟩
theorem sorted_l (p : Nat) (S : List Ent) (n : Nat) (hn : S.length = n) (w : World) (hI : IsIdx w p S) :
    Calls Try.prog 20 #[.pointer (some ⟨p, 0, none⟩)] w fun e W' => ∃ A k, e = .returned (.slice A n k) ∧ SlE W' A (S.map (·.1)) ∧ Grew w W' := by
  subst hn
  exact (sorted_is p S w hI).mono fun e W' ⟨A, k, h1, h2, h3⟩ => ⟨A, k, h1, SlE.of_own h2, h3⟩
theorem len_l (p : Nat) (S : List Ent) (n : Nat) (hn : S.length = n) (w : World) (hI : IsIdx w p S) : Calls Try.prog 21 #[.pointer (some ⟨p, 0, none⟩)] w fun e w' => e = .returned (.int .i64 n) ∧ w = w' := by
  subst hn
  exact len_at p S w hI
set_option linter.unusedSimpArgs false in
set_option maxRecDepth 100000 in
set_option maxHeartbeats 4000000 in
theorem lmakes_at (A : Option Addr) (cp : Nat) (l : List (Int × Int)) (w : World) (hl : SlE w A l) (hlo : ∀ e ∈ l, okE e) (h : l.length ≤ 60) (hr : RightL l) :
    Calls Try.prog 7 #[.slice A l.length cp] w fun e w' => e = .returned (.bool true) ∧ Grew w w' := by
  have h1 : decide ((60 : Int) < (l.length : Int)) = false := by simp; omega
  have h2 : decide (60 < l.length) = false := by simp; omega
  have HRi := hid (And.intro hr (And.intro hlo hl))
  have HN := hid (new_ok A cp l w hl hlo (by omega) hr)
  have HC := hid (fun (w1 : World) (hg : Grew w w1) => rright_yes A cp l w1 (hl.grew hg) hlo (by omega) hr)
  clear hl hlo hr
  go_enter Try.func7, Try.ntmps7
  go_wp2_with (first
    | (go_at_call 9; have cX := HC.out w1 hg1; with_reducible refine cX.mono ?_; clear cX; rintro e w2 ⟨rfl, hg2⟩)
    | (go_at_call 11; have cX := HN.out; with_reducible refine cX.mono ?_; clear cX; rintro e w1 ⟨p, S, rfl, hp, hS, hI, hg1⟩)
    | (go_at_call 21; have cX := len_l p S l.length (by rw [hp.length_eq, ents_length]) w2 (hI.grew hg2); with_reducible refine cX.mono ?_; clear cX; rintro e w3 ⟨rfl, rfl⟩)
    | (go_at_call 20; have cX := sorted_l p S l.length (by rw [hp.length_eq, ents_length]) w2 (hI.grew hg2); with_reducible refine cX.mono ?_; clear cX; rintro e w3 ⟨A3, c3, rfl, i3, hg3⟩))
  have HSl : Hid (S.length = l.length) := hid (by rw [hp.length_eq, ents_length])
  have HX := hid (And.intro hp (And.intro hS i3))
  have HG3 : Hid (Grew w w3) := hid (Grew.trans hg1 (Grew.trans hg2 hg3))
  clear hp hS hI i3 hg1 hg2 hg3 HC HN
  go_wp2_with fail
  go_loopw [34] (fun i wr => ∃ k : Nat, k ≤ l.length ∧ i = .int .i64 k ∧ Grew w3 wr) (fun i _ => l.length - (intOf i).toNat)
  case atStart => exact ⟨0, Nat.zero_le _, rfl, Only.refl _ _⟩
  case round =>
    obtain ⟨k, hk, rfl, hO⟩ := hrel
    have HO := hid hO
    clear hO
    by_cases hlt : k < l.length
    · have hb0 : (k : Int) < (l.length : Int) := by omega
      obtain ⟨bl, o, rfl, hcell⟩ := (HX.out.2.2.grew HO.out) (by rw [List.length_map, HSl.out]; omega)
      obtain ⟨c1, c2⟩ := hcell k (by rw [List.length_map, HSl.out]; omega)
      obtain ⟨y, hy⟩ : ∃ y, S[k]? = some y := ⟨_, List.getElem?_eq_getElem (by rw [HSl.out]; omega)⟩
      have hy1 : (S.map (·.1))[k]? = some y.1 := by rw [List.getElem?_map, hy]; rfl
      simp only [hy1, Option.getD_some] at c1 c2
      have hmem : y.1 ∈ l := by
        obtain ⟨i, hi, _⟩ := mem_ents.1 (HX.out.1.mem_iff.1 (List.mem_of_getElem? hy))
        exact List.mem_of_getElem? hi
      have HY := hid hy
      obtain ⟨⟨a, b⟩, q⟩ := y
      simp only at c1 c2 hmem
      have hCon := hid (fun (W : World) (hW : Grew w W) => containsE_at A cp l (a, b) W (HRi.out.2.2.grew hW) (by omega) (by omega))
      have HCon : Hid (∀ W, Grew w W → Calls Try.prog 25 #[.slice A l.length cp, .agg #[.int .i64 a, .int .i64 b]] W fun e w' => e = .returned (.bool true) ∧ Grew W w') := hid (fun W hW => (hCon.out W hW).mono fun _ _ ⟨x, z⟩ => ⟨by rw [x, decide_eq_true hmem], z⟩)
      obtain ⟨d1, d2⟩ := cells2 wr (.int .i64 a) (.int .i64 b) 28
      have HG4 : Hid (Grew w3 (wr.alloc (.cells #[.int .i64 a, .int .i64 b] 28))) := hid (Grew.trans HO.out (Only.alloc _ _))
      have HG5 : Hid (Grew wr (wr.alloc (.cells #[.int .i64 a, .int .i64 b] 28))) := hid (Only.alloc _ _)
      clear hCon hmem
      by_cases hk0 : k = 0
      · have hg0 : decide (0 < k) = false := by simp; omega
        clear hcell hy hy1 hk0
        go_wp2_with fail
        generalize wr.alloc (.cells #[.int .i64 a, .int .i64 b] 28) = W4 at *
        have HS4 : Hid (∀ w', Grew W4 w' → w'.cell? ⟨wr.heap.size, 0, none⟩ = some (.int .i64 a) ∧ w'.cell? ⟨wr.heap.size, 1, none⟩ = some (.int .i64 b)) := hid (fun w' h => ⟨h.cell d1 (fun h => h), h.cell d2 (fun h => h)⟩)
        refine wp_region_held_drew (S := fun w' => w'.cell? ⟨wr.heap.size, 0, none⟩ = some (.int .i64 a) ∧ w'.cell? ⟨wr.heap.size, 1, none⟩ = some (.int .i64 b)) (by kernel_rfl) (HS4.out _ (Only.drew _)) (fun hHeld => ?_)
        refine wpAnyH_take (i := 0) (v := ?_) rfl (by kernel_rfl) (by kernel_rfl) (by kernel_rfl) (fun _ _ _ h => h) (Or.inl ⟨by kernel_rfl, ?_⟩) hHeld ?_
        rotate_left
        focus (intro wz hz; obtain ⟨z1, z2⟩ := hz; go_simp; try with_reducible rfl)
        (try simp only [Act.put, List.setIfInBounds_toArray, List.set_cons_zero, List.set_cons_succ, List.getElem_toArray, List.getElem_cons_succ, List.getElem_cons_zero])
        refine wpAnyH_take (i := 1) (v := ?_) rfl (by kernel_rfl) (by kernel_rfl) (by kernel_rfl) (fun _ _ _ h => h) (Or.inl ⟨by kernel_rfl, ?_⟩) hHeld ?_
        rotate_left
        focus (intro wz hz; obtain ⟨z1, z2⟩ := hz; go_simp; try with_reducible rfl)
        (try simp only [Act.put, List.setIfInBounds_toArray, List.set_cons_zero, List.set_cons_succ, List.getElem_toArray, List.getElem_cons_succ, List.getElem_cons_zero])
        refine wpAnyH_take (i := 2) (v := ?_) rfl (by kernel_rfl) (by kernel_rfl) (by kernel_rfl) (fun _ _ _ h => h) (Or.inl ⟨by kernel_rfl, ?_⟩) hHeld ?_
        rotate_left
        focus (intro wz hz; obtain ⟨z1, z2⟩ := hz; go_simp; try with_reducible rfl)
        (try simp only [Act.put, List.setIfInBounds_toArray, List.set_cons_zero, List.set_cons_succ, List.getElem_toArray, List.getElem_cons_succ, List.getElem_cons_zero])
        refine wpAnyH_take (i := 3) (v := undef) rfl (by kernel_rfl) (by kernel_rfl) (by kernel_rfl) (fun _ _ _ h => h) (Or.inr ⟨by kernel_rfl, rfl⟩) hHeld ?_
        (try simp only [Act.put, List.setIfInBounds_toArray, List.set_cons_zero, List.set_cons_succ, List.getElem_toArray, List.getElem_cons_succ, List.getElem_cons_zero])
        refine wpAnyH_take (i := 4) (v := undef) rfl (by kernel_rfl) (by kernel_rfl) (by kernel_rfl) (fun _ _ _ h => h) (Or.inr ⟨by kernel_rfl, rfl⟩) hHeld ?_
        (try simp only [Act.put, List.setIfInBounds_toArray, List.set_cons_zero, List.set_cons_succ, List.getElem_toArray, List.getElem_cons_succ, List.getElem_cons_zero])
        refine wpAnyH_take (i := 5) (v := undef) rfl (by kernel_rfl) (by kernel_rfl) (by kernel_rfl) (fun _ _ _ h => h) (Or.inr ⟨by kernel_rfl, rfl⟩) hHeld ?_
        (try simp only [Act.put, List.setIfInBounds_toArray, List.set_cons_zero, List.set_cons_succ, List.getElem_toArray, List.getElem_cons_succ, List.getElem_cons_zero])
        refine wpAnyH_take (i := 6) (v := undef) rfl (by kernel_rfl) (by kernel_rfl) (by kernel_rfl) (fun _ _ _ h => h) (Or.inr ⟨by kernel_rfl, rfl⟩) hHeld ?_
        (try simp only [Act.put, List.setIfInBounds_toArray, List.set_cons_zero, List.set_cons_succ, List.getElem_toArray, List.getElem_cons_succ, List.getElem_cons_zero])
        refine wpAnyH_take (i := 7) (v := undef) rfl (by kernel_rfl) (by kernel_rfl) (by kernel_rfl) (fun _ _ _ h => h) (Or.inr ⟨by kernel_rfl, rfl⟩) hHeld ?_
        (try simp only [Act.put, List.setIfInBounds_toArray, List.set_cons_zero, List.set_cons_succ, List.getElem_toArray, List.getElem_cons_succ, List.getElem_cons_zero])
        refine wpAnyH_take (i := 8) (v := undef) rfl (by kernel_rfl) (by kernel_rfl) (by kernel_rfl) (fun _ _ _ h => h) (Or.inr ⟨by kernel_rfl, rfl⟩) hHeld ?_
        (try simp only [Act.put, List.setIfInBounds_toArray, List.set_cons_zero, List.set_cons_succ, List.getElem_toArray, List.getElem_cons_succ, List.getElem_cons_zero])
        refine wpAnyH_take (i := 9) (v := undef) rfl (by kernel_rfl) (by kernel_rfl) (by kernel_rfl) (fun _ _ _ h => h) (Or.inr ⟨by kernel_rfl, rfl⟩) hHeld ?_
        (try simp only [Act.put, List.setIfInBounds_toArray, List.set_cons_zero, List.set_cons_succ, List.getElem_toArray, List.getElem_cons_succ, List.getElem_cons_zero])
        refine wpAnyH_take (i := 10) (v := undef) rfl (by kernel_rfl) (by kernel_rfl) (by kernel_rfl) (fun _ _ _ h => h) (Or.inr ⟨by kernel_rfl, rfl⟩) hHeld ?_
        (try simp only [Act.put, List.setIfInBounds_toArray, List.set_cons_zero, List.set_cons_succ, List.getElem_toArray, List.getElem_cons_succ, List.getElem_cons_zero])
        refine wpAnyH_take (i := 11) (v := undef) rfl (by kernel_rfl) (by kernel_rfl) (by kernel_rfl) (fun _ _ _ h => h) (Or.inr ⟨by kernel_rfl, rfl⟩) hHeld ?_
        (try simp only [Act.put, List.setIfInBounds_toArray, List.set_cons_zero, List.set_cons_succ, List.getElem_toArray, List.getElem_cons_succ, List.getElem_cons_zero])
        refine wpAnyH_take (i := 12) (v := undef) rfl (by kernel_rfl) (by kernel_rfl) (by kernel_rfl) (fun _ _ _ h => h) (Or.inr ⟨by kernel_rfl, rfl⟩) hHeld ?_
        (try simp only [Act.put, List.setIfInBounds_toArray, List.set_cons_zero, List.set_cons_succ, List.getElem_toArray, List.getElem_cons_succ, List.getElem_cons_zero])
        refine wpAnyH_take (i := 13) (v := undef) rfl (by kernel_rfl) (by kernel_rfl) (by kernel_rfl) (fun _ _ _ h => h) (Or.inr ⟨by kernel_rfl, rfl⟩) hHeld ?_
        (try simp only [Act.put, List.setIfInBounds_toArray, List.set_cons_zero, List.set_cons_succ, List.getElem_toArray, List.getElem_cons_succ, List.getElem_cons_zero])
        refine wpAnyH_take (i := 14) (v := undef) rfl (by kernel_rfl) (by kernel_rfl) (by kernel_rfl) (fun _ _ _ h => h) (Or.inr ⟨by kernel_rfl, rfl⟩) hHeld ?_
        (try simp only [Act.put, List.setIfInBounds_toArray, List.set_cons_zero, List.set_cons_succ, List.getElem_toArray, List.getElem_cons_succ, List.getElem_cons_zero])
        refine wpAnyH_take (i := 15) (v := undef) rfl (by kernel_rfl) (by kernel_rfl) (by kernel_rfl) (fun _ _ _ h => h) (Or.inr ⟨by kernel_rfl, rfl⟩) hHeld ?_
        (try simp only [Act.put, List.setIfInBounds_toArray, List.set_cons_zero, List.set_cons_succ, List.getElem_toArray, List.getElem_cons_succ, List.getElem_cons_zero])
        refine wpAnyH_take (i := 16) (v := undef) rfl (by kernel_rfl) (by kernel_rfl) (by kernel_rfl) (fun _ _ _ h => h) (Or.inr ⟨by kernel_rfl, rfl⟩) hHeld ?_
        (try simp only [Act.put, List.setIfInBounds_toArray, List.set_cons_zero, List.set_cons_succ, List.getElem_toArray, List.getElem_cons_succ, List.getElem_cons_zero])
        refine wpAnyH_take (i := 17) (v := undef) rfl (by kernel_rfl) (by kernel_rfl) (by kernel_rfl) (fun _ _ _ h => h) (Or.inr ⟨by kernel_rfl, rfl⟩) hHeld ?_
        (try simp only [Act.put, List.setIfInBounds_toArray, List.set_cons_zero, List.set_cons_succ, List.getElem_toArray, List.getElem_cons_succ, List.getElem_cons_zero])
        refine wpAnyH_take (i := 18) (v := undef) rfl (by kernel_rfl) (by kernel_rfl) (by kernel_rfl) (fun _ _ _ h => h) (Or.inr ⟨by kernel_rfl, rfl⟩) hHeld ?_
        (try simp only [Act.put, List.setIfInBounds_toArray, List.set_cons_zero, List.set_cons_succ, List.getElem_toArray, List.getElem_cons_succ, List.getElem_cons_zero])
        refine wpAnyH_take (i := 19) (v := ?_) rfl (by kernel_rfl) (by kernel_rfl) (by kernel_rfl) (fun _ _ _ h => h) (Or.inl ⟨by kernel_rfl, ?_⟩) hHeld ?_
        rotate_left
        focus (intro wz hz; obtain ⟨z1, z2⟩ := hz; go_simp; try with_reducible rfl)
        (try simp only [Act.put, List.setIfInBounds_toArray, List.set_cons_zero, List.set_cons_succ, List.getElem_toArray, List.getElem_cons_succ, List.getElem_cons_zero])
        refine wpAnyH_take (i := 20) (v := ?_) rfl (by kernel_rfl) (by kernel_rfl) (by kernel_rfl) (fun _ _ _ h => h) (Or.inl ⟨by kernel_rfl, ?_⟩) hHeld ?_
        rotate_left
        focus (intro wz hz; obtain ⟨z1, z2⟩ := hz; go_simp; try with_reducible rfl)
        (try simp only [Act.put, List.setIfInBounds_toArray, List.set_cons_zero, List.set_cons_succ, List.getElem_toArray, List.getElem_cons_succ, List.getElem_cons_zero])
        refine wpAnyH_take (i := 21) (v := ?_) rfl (by kernel_rfl) (by kernel_rfl) (by kernel_rfl) (fun _ _ _ h => h) (Or.inl ⟨by kernel_rfl, ?_⟩) hHeld ?_
        rotate_left
        focus (intro wz hz; obtain ⟨z1, z2⟩ := hz; go_simp; try with_reducible rfl)
        (try simp only [Act.put, List.setIfInBounds_toArray, List.set_cons_zero, List.set_cons_succ, List.getElem_toArray, List.getElem_cons_succ, List.getElem_cons_zero])
        refine wpAnyH_take (i := 22) (v := ?_) rfl (by kernel_rfl) (by kernel_rfl) (by kernel_rfl) (fun _ _ _ h => h) (Or.inl ⟨by kernel_rfl, ?_⟩) hHeld ?_
        rotate_left
        focus (intro wz hz; obtain ⟨z1, z2⟩ := hz; go_simp; try with_reducible rfl)
        (try simp only [Act.put, List.setIfInBounds_toArray, List.set_cons_zero, List.set_cons_succ, List.getElem_toArray, List.getElem_cons_succ, List.getElem_cons_zero])
        refine wpAnyH_ready (rs := [23]) (by kernel_rfl) (by simp) ?_
        refine AllReadyH.cons rfl (fun K hK => ?_) ?_
        rotate_left
        exact AllReadyH.nil
        refine (if_pos (by kernel_rfl)).mpr ?_
        go_simp
        refine (HCon.out _ (Grew.trans HG3.out (Grew.trans HG4.out (Only.drew _)))).mono ?_
        rintro e w6 ⟨rfl, hg6⟩
        refine hK.out _ _ (HS4.out _ (Grew.trans (Only.drew _) hg6)) (fun hHeld => ?_)
        clear hK K
        refine wpAnyH_take (i := 24) (v := ?_) rfl (by kernel_rfl) (by kernel_rfl) (by kernel_rfl) (fun _ _ _ h => h) (Or.inl ⟨by kernel_rfl, ?_⟩) hHeld ?_
        rotate_left
        focus (intro wz hz; obtain ⟨z1, z2⟩ := hz; go_simp; try with_reducible rfl)
        (try simp only [Act.put, List.setIfInBounds_toArray, List.set_cons_zero, List.set_cons_succ, List.getElem_toArray, List.getElem_cons_succ, List.getElem_cons_zero])
        refine wpAnyH_take (i := 25) (v := ?_) rfl (by kernel_rfl) (by kernel_rfl) (by kernel_rfl) (fun _ _ _ h => h) (Or.inl ⟨by kernel_rfl, ?_⟩) hHeld ?_
        rotate_left
        focus (intro wz hz; obtain ⟨z1, z2⟩ := hz; go_simp; try with_reducible rfl)
        (try simp only [Act.put, List.setIfInBounds_toArray, List.set_cons_zero, List.set_cons_succ, List.getElem_toArray, List.getElem_cons_succ, List.getElem_cons_zero])
        refine wpAnyH_done (by kernel_rfl) ?_ _
        clear hHeld
        have HG6 : Hid (Grew w3 w6) := hid (Grew.trans HG4.out (Grew.trans (Only.drew _) hg6))
        go_wp2
        go_roundw
        case rel => exact ⟨k + 1, by omega, by go_num, HG6.out⟩
        case measure => simp [intOf]; omega
      · obtain ⟨m, hkm⟩ : ∃ m, k = m + 1 := ⟨k - 1, by omega⟩
        obtain ⟨x, hx⟩ : ∃ x, S[m]? = some x := ⟨_, List.getElem?_eq_getElem (by rw [HSl.out]; omega)⟩
        obtain ⟨c3', c4⟩ := hcell m (by rw [List.length_map, HSl.out]; omega)
        have hx1 : (S.map (·.1))[m]? = some x.1 := by rw [List.getElem?_map, hx]; rfl
        simp only [hx1, Option.getD_some] at c3' c4
        have hle := HX.out.2.1.lt hx hy (by omega)
        have hvx := (HX.out.2.1.at hx).1
        obtain ⟨⟨a', b'⟩, q'⟩ := x
        obtain ⟨v1, v2, v3⟩ := hvx
        simp only at c3' c4 hle v1 v2 v3
        have e3 := HG5.out.cell c3' (fun h => h)
        have e4 := HG5.out.cell c4 (fun h => h)
        have hdl : decide (a < a' + b') = false := by simp; omega
        have hm1 : decide (0 < k) = true := by simp; omega
        have hab : IntKind.i64.wrap (a' + b') = a' + b' := IntWalk.i64_in _ (by omega)
        have hm4 : (0 : Int) < (k : Int) := by omega
        have hkn : (k : Int) ≤ 1048576 := by omega
        have hsub : IntKind.i64.wrap ((k : Int) - 1) = (m : Int) := by rw [IntWalk.i64_in _ (by omega)]; omega
        have hm2 : (m : Int) < (l.length : Int) := by omega
        have HKM := hid hkm
        clear hcell hy hy1 hx hx1 hle c3' c4 hk0 hkm
        go_wp2_with fail
        generalize wr.alloc (.cells #[.int .i64 a, .int .i64 b] 28) = W4 at *
        have HS4 : Hid (∀ w', Grew W4 w' → w'.cell? ⟨wr.heap.size, 0, none⟩ = some (.int .i64 a) ∧ w'.cell? ⟨wr.heap.size, 1, none⟩ = some (.int .i64 b) ∧ w'.cell? ⟨bl, o + m * 2, none⟩ = some (.int .i64 a') ∧ w'.cell? ⟨bl, o + m * 2 + 1, none⟩ = some (.int .i64 b')) := hid (fun w' h => ⟨h.cell d1 (fun h => h), h.cell d2 (fun h => h), h.cell e3 (fun h => h), h.cell e4 (fun h => h)⟩)
        go_region_held3 (fun w' => w'.cell? ⟨wr.heap.size, 0, none⟩ = some (.int .i64 a) ∧ w'.cell? ⟨wr.heap.size, 1, none⟩ = some (.int .i64 b) ∧ w'.cell? ⟨bl, o + m * 2, none⟩ = some (.int .i64 a') ∧ w'.cell? ⟨bl, o + m * 2 + 1, none⟩ = some (.int .i64 b'))
          (first
            | exact HS4.out _ (Only.drew _)
            | exact HS4.out _ hb6)
          (first
            | (go_at_call 25; have cX := HCon.out _ (Grew.trans HG3.out (Grew.trans HG4.out (Only.drew _))); with_reducible refine cX.mono ?_; clear cX; rintro e w6 ⟨rfl, hg6⟩; have hb6 : Grew W4 w6 := Grew.trans (Only.drew _) hg6))
        go_wp2
        go_roundw
        case rel => exact ⟨k + 1, by omega, by go_num, Grew.trans HG4.out (Grew.trans (Only.drew _) hg6)⟩
        case measure => simp [intOf]; omega
    · obtain rfl : k = l.length := by omega
      go_wp2_with (go_at_call 10; refine (ialive_at _).mono ?_; rintro e w5 ⟨rfl, hg5⟩)
      go_ret
      exact ⟨rfl, Grew.trans HG3.out (Grew.trans HO.out hg5)⟩
end Go.Proofs.Ytgpfhdjedebdfaa
