/- The walks of Needed on both sides. -/
import Derived.Test.YtlpkolmaklnffaaEvD
namespace Go.Proofs.Ytlpkolmaklnffaa
open Go.RowKit Go.MapKept

theorem others_snoc (L : List Int) (x v : Int) : others (L ++ [x]) v = others L v ++ (if x = v then [] else [x]) := by
  unfold others
  rw [List.filter_append]
  by_cases h : x = v <;> simp [h]
theorem others_le (L : List Int) (v : Int) : (others L v).length ≤ L.length := List.length_filter_le _ _
theorem rangef_at (x : Int) (B0 b N : Nat) (E : List (Int × Int)) (F : Nat → Prop) (W : World) (hc : W.cell? ⟨B0, 0, none⟩ = some (.pointer (some ⟨b, 0, none⟩))) (hG : IsGraph W F b N E) :
    Calls Try.prog 84 #[.int .i64 x, .pointer (some ⟨B0, 0, none⟩)] W fun e w' => e = .returned (.bool (decide (x < 0) || decide ((N : Int) ≤ x))) ∧ ∃ q, w' = W.drewN q := by
  have HC := hid hG.n_cell
  clear hG
  by_cases h0 : x < 0
  · have hd : decide (x < 0) = true := by simpa using h0
    clear h0
    go_enter Try.func84, Try.ntmps84
    go_wp2
    go_ret
    exact ⟨by rw [hd]; rfl, 0, rfl⟩
  · have hd : decide (x < 0) = false := by simpa using h0
    clear h0
    obtain ⟨r, hr⟩ : ∃ r : Bool, decide ((N : Int) ≤ x) = r := ⟨_, rfl⟩
    go_enter Try.func84, Try.ntmps84
    go_wp2_with (go_at_call 37; refine (len_at b N _ HC.out).mono ?_; rintro e w1 ⟨rfl, rfl⟩)
    go_ret
    exact ⟨by rw [hd, hr]; rfl, 0, rfl⟩
theorem samef_at (x k : Int) (B0 : Nat) (W : World) (hc : W.cell? ⟨B0, 0, none⟩ = some (.int .i64 k)) :
    Calls Try.prog 85 #[.int .i64 x, .pointer (some ⟨B0, 0, none⟩)] W fun e w' => e = .returned (.bool (decide (x = k))) ∧ ∃ q, w' = W.drewN q := by
  obtain ⟨r, hr⟩ : ∃ r : Bool, (x == k) = r := ⟨_, rfl⟩
  have HR : Hid (decide (x = k) = r) := hid (by rw [← hr]; rfl)
  go_enter Try.func85, Try.ntmps85
  go_wp2
  go_ret
  exact ⟨by rw [HR.out]; rfl, 0, rfl⟩
theorem eg84 (args : Array Value) (w : World) : (callFunc 84 args).run Try.prog w = .ok (.enter 84 args) w := enters_of Try.func84 (by kernel_rfl) rfl args w
theorem eg85 (args : Array Value) (w : World) : (callFunc 85 args).run Try.prog w = .ok (.enter 85 args) w := enters_of Try.func85 (by kernel_rfl) rfl args w
set_option maxRecDepth 100000 in
set_option maxHeartbeats 2000000 in
theorem needed_at (b N : Nat) (E : List (Int × Int)) (F : Nat → Prop) (A : Option Addr) (c : Nat) (l : List Int) (w : World) (hG : IsGraph w F b N E) (hl : SlI w A l) (hll : l.length ≤ 1048576) (hfew : E.length ≤ 1048576) (ys : List Int) (hy : IsNeeded E N l ys) :
    Calls Try.prog 59 #[.pointer (some ⟨b, 0, none⟩), .slice A l.length c] w fun e w' => ∃ A' c', e = .returned (.slice A' ys.length c') ∧ SlI w' A' ys ∧ Grew w w' := by
  have hN := hG.small.2
  have HP := hid (And.intro hG (And.intro hl (And.intro hy (And.intro hG.2.2 hy.eq_filter))))
  obtain ⟨i0, hi0, hz0, hz1, hz2⟩ := info_parts info_int
  have HI := hid (And.intro hi0 (And.intro hz0 (And.intro hz1 hz2)))
  obtain ⟨xs, hx⟩ := cyc_ex hG.2.2 l
  obtain ⟨r, hr⟩ : ∃ r : Bool, decide (xs = []) = r := ⟨_, rfl⟩
  have HX := hid (And.intro hx hr)
  have HG0 := hid (Only.alloc (F := fun _ => False) w (.cells #[.pointer (some ⟨b, 0, none⟩)] 23))
  have hc0 := cell_of_one (heap_alloc_new w (.cells #[.pointer (some ⟨b, 0, none⟩)] 23))
  have hs0 : (w.alloc (.cells #[.pointer (some ⟨b, 0, none⟩)] 23)).heap.size = w.heap.size + 1 := by simp
  have HC0 := hid (And.intro hc0 hs0)
  clear hG hl hy hx hr hi0 hz0 hz1 hz2 hc0 hs0
  go_enter Try.func59, Try.ntmps59
  go_wp2_with fail
  go_at_call 54
  generalize w.alloc (.cells #[.pointer (some ⟨b, 0, none⟩)] 23) = W0 at *
  refine (breaks_is b N E F A c l W0 (HP.out.1.grew HG0.out) (HP.out.2.1.grew HG0.out) (by omega) hfew HP.out.2.2.2.1 xs HX.out.1 r HX.out.2).mono ?_
  rintro e w1 ⟨rfl, hg1⟩
  have hc1 := hg1.cell HC0.out.1 (fun h => h)
  have H1 := hid (And.intro hg1 (Grew.trans HG0.out hg1))
  have hs1 := hg1.size
  have hW0 := HC0.out.2
  clear hg1
  cases r
  · have HNA : Hid (¬ Acyc E l) := hid (fun h => by
      have := HX.out.1.nil_iff.2 h
      have h2 := HX.out.2
      rw [this] at h2
      simp at h2)
    go_wp2_with fail
    go_at_call 67
    refine (values_at A l.length c w1).mono ?_
    rintro e w2 ⟨rfl, rfl⟩
    have HGa := hid (Only.alloc (F := fun _ => False) w1 (.cells #[.slice A l.length c] 29))
    have HCa := hid (cell_of_one (heap_alloc_new w1 (.cells #[.slice A l.length c] 29)))
    have hca := HGa.out.cell hc1 (fun h => h)
    generalize w1.alloc (.cells #[.slice A l.length c] 29) = w2 at *
    have hs2 := HGa.out.size
    go_wp2_with (go_at_call 65; refine (sorted_values_at w1.heap.size c A l (by omega) w2 HCa.out (HP.out.2.1.grew (Grew.trans H1.out.2 HGa.out))).mono ?_; rintro e w3 ⟨v3, rfl, hn3, hg3⟩; have hc3 := hg3.cell hca (fun h => h))
    have H3 := hid (And.intro hn3 (Grew.trans H1.out.2 (Grew.trans HGa.out hg3)))
    have hs3 := hg3.size
    clear hn3 hg3
    go_wp2_with (go_at_call 80; refine (compact_own w2.heap.size v3 (sortL l) w3 H3.out.1 (by rw [sortL_length]; omega)).mono ?_; rintro e w4 ⟨A4, c4, rfl, hrow4, hO4⟩)
    have hc4 := hO4.cell hc3 (fun h => by have h' : w2.heap.size ≤ w.heap.size := (World.ownsRow.lt H3.out.1 _ h).1; omega)
    have hO4' : Only (fun i => w2.heap.size ≤ i) w w4 := (Grew.to H3.out.2).trans hO4 (fun i hi h => (World.ownsRow.lt H3.out.1 i h).1)
    have H4 := hid (And.intro hrow4 (hO4'.mono (G := fun _ => False) (fun i hi h => by omega)))
    clear hrow4 hO4 hO4'
    have hul : (uniqL l).length ≤ l.length := by
      have h1 := Lib.compact_length_le (sortL l)
      rwa [sortL_length] at h1
    have CD : Hid (Calls Try.prog 60 #[.slice A4 (Lib.compact (sortL l)).length c4, .func (.func 84) #[] #[.pointer (some ⟨w.heap.size, 0, none⟩)]] w4 fun e w' => ∃ A' c', e = .returned (.slice A' ys.length c') ∧ SlI w' A' ys ∧ Grew w w') := hid (by
      refine (delete_at 84 #[.pointer (some ⟨w.heap.size, 0, none⟩)] eg84 (fun x => decide (x < 0) || decide ((N : Int) ≤ x)) w2.heap.size _ (Lib.compact (sortL l)) w4 H4.out.1 (by have : (Lib.compact (sortL l)).length ≤ l.length := hul; omega) (fun W x hW => ?_)).mono ?_
      · have hO : Only (fun i => w2.heap.size ≤ i) w4 W := hW.mono (fun i hi h => (World.ownsRow.lt H4.out.1 i h).1)
        have hO2 : Only (fun i => w2.heap.size ≤ i) w W := (Grew.to H4.out.2).trans hO (fun _ _ h => h)
        exact rangef_at x w.heap.size b N E F W (hO.cell hc4 (by show ¬ w2.heap.size ≤ w.heap.size; omega)) (HP.out.1.grew (hO2.mono (fun i hi h => by omega)))
      · rintro e w' ⟨A', c', rfl, h1, _, h2⟩
        have e1 : (Lib.compact (sortL l)).filter (fun x => !(decide (x < 0) || decide ((N : Int) ≤ x))) = ys := HP.out.2.2.1.any HNA.out
        rw [e1] at h1 ⊢
        have hO2 : Only (fun i => w2.heap.size ≤ i) w w' := (Grew.to H4.out.2).trans h2 (fun i hi h => (World.ownsRow.lt H4.out.1 i h).1)
        exact ⟨A', c', rfl, h1, hO2.mono (fun i hi h => by omega)⟩)
    go_wp2_with (go_at_call 60; have cX := CD.out; with_reducible refine cX.mono ?_; clear cX; rintro e w5 ⟨A5, c5, rfl, hi5, hg5⟩)
    go_ret
    exact ⟨A5, c5, rfl, hi5, hg5⟩
  · go_wp2_with (go_at_call 37; refine (len_at b N _ (HP.out.1.grew H1.out.2).n_cell).mono ?_; rintro e w3 ⟨rfl, rfl⟩)
    go_loopw [5, 20] (fun ov i wr => ∃ k : Nat, k ≤ N ∧ i = .int .i64 k ∧ wr.ownsRow w1.heap.size 3 1 ov (((verts N).take k).filter (fun x => decide (x ∈ ys))).length ((((verts N).take k).filter (fun x => decide (x ∈ ys))).map (Value.int .i64)) ∧
        Only (fun i => w1.heap.size ≤ i) w1 wr) (fun _ i _ => N - (intOf i).toNat)
    case atStart => exact ⟨0, Nat.zero_le _, rfl, ⟨by simp, .inl ⟨rfl, by simp⟩⟩, Only.refl _ _⟩
    case round =>
      obtain ⟨k, hk, rfl, hrow, hO⟩ := hrel
      have hOs := hO.size
      have hcr := hO.cell hc1 (by show ¬ w1.heap.size ≤ w.heap.size; omega)
      have HH := hid (And.intro hrow (And.intro hO (Grew.trans H1.out.2 (Fresh.grew hO))))
      clear hrow hO
      by_cases hlt : k < N
      · have hb0 : (k : Int) < (N : Int) := by omega
        have HTK := hid (cyc_take hlt ys)
        have hlen := cyc_len N k ys
        generalize ((verts N).take k).filter (fun x => decide (x ∈ ys)) = L at *
        have HMY : Hid ((k : Int) ∈ ys ↔ (k : Int) ∈ l ∧ ¬ Acyc E (others l k)) := hid (by
          rw [HP.out.2.2.1.mem]
          exact ⟨fun h => h.2, fun h => ⟨⟨by omega, by omega⟩, h⟩⟩)
        go_wp2_with fail
        go_at_call 61
        have HGk := hid (Only.alloc (F := fun _ => False) wr (.cells #[.int .i64 (k : Int)] 3))
        have hck := cell_of_one (heap_alloc_new wr (.cells #[.int .i64 (k : Int)] 3))
        have hsk : (wr.alloc (.cells #[.int .i64 (k : Int)] 3)).heap.size = wr.heap.size + 1 := by simp
        refine (clone_at A c l _ (HP.out.2.1.grew (Grew.trans HH.out.2.2 HGk.out)) (by omega)).mono ?_
        generalize wr.alloc (.cells #[.int .i64 (k : Int)] 3) = Wk at *
        rintro e w2 ⟨v2, rfl, hn2, hg2⟩
        have hck2 := hg2.cell hck (fun h => h)
        have hcr2 := (Grew.trans HGk.out hg2).cell hcr (fun h => h)
        have hs2 := hg2.size
        have H2 := hid (And.intro hn2 (And.intro hg2 (Grew.trans HGk.out hg2)))
        clear hn2 hg2 hck hcr
        have CD : Hid (Calls Try.prog 60 #[v2, .func (.func 85) #[] #[.pointer (some ⟨wr.heap.size, 0, none⟩)]] w2 fun e w' => ∃ A' c', e = .returned (.slice A' (others l k).length c') ∧ SlI w' A' (others l k) ∧ Only (fun i => Wk.heap.size ≤ i) w2 w') := hid (by
          refine (delete_at 85 #[.pointer (some ⟨wr.heap.size, 0, none⟩)] eg85 (fun x => decide (x = (k : Int))) Wk.heap.size v2 l w2 H2.out.1 (by omega) (fun W x hW => ?_)).mono ?_
          · have hO : Only (fun i => Wk.heap.size ≤ i) w2 W := hW.mono (fun i hi h => (World.ownsRow.lt H2.out.1 i h).1)
            exact samef_at x k wr.heap.size W (hO.cell hck2 (by show ¬ Wk.heap.size ≤ wr.heap.size; omega))
          · rintro e w' ⟨A', c', rfl, h1, _, h2⟩
            exact ⟨A', c', rfl, h1, h2.mono (fun i hi h => (World.ownsRow.lt H2.out.1 i h).1)⟩)
        obtain ⟨q, hq⟩ : ∃ q : Bool, decide ((others l k).length < l.length) = q := ⟨_, rfl⟩
        have hq2 : decide (((others l k).length : Int) < (l.length : Int)) = q := by rw [← hq]; congr 1; rw [eq_iff_iff]; omega
        have HQ : Hid (q = decide ((k : Int) ∈ l)) := hid (by rw [← hq]; congr 1; rw [eq_iff_iff]; exact others_length)
        have hol := others_le l k
        have HMO : Hid ((k : Int) ∈ ys ↔ (k : Int) ∈ l ∧ ¬ Acyc E (others l k)) := hid HMY.out
        clear HMY
        generalize others l k = O at *
        cases q
        · have HNY : Hid ((k : Int) ∉ ys) := hid (fun h => by
            have h2 := (HMO.out.1 h).1
            have h3 := HQ.out
            simp [h2] at h3)
          go_wp2_with (go_at_call 60; have cX := CD.out; with_reducible refine cX.mono ?_; clear cX; rintro e w3 ⟨A3, c3, rfl, hi3, hO3⟩; have hck3 := hO3.cell hck2 (fun h => by have h' : Wk.heap.size ≤ wr.heap.size := h; omega); have hcr3 := hO3.cell hcr2 (fun h => by have h' : Wk.heap.size ≤ w.heap.size := h; omega); have hs3 := hO3.size; have H3 := hid (And.intro hi3 hO3); clear hi3 hO3)
          have HW3 : Hid (Grew wr w3) := hid (((Grew.to H2.out.2.2 : Only (fun i => Wk.heap.size ≤ i) wr w2).trans H3.out.2 (fun _ _ h => h)).mono (fun i hi h => by omega))
          have HO3 : Hid (Only (fun i => w1.heap.size ≤ i) w1 w3) := hid (HH.out.2.1.trans HW3.out (fun _ _ h => h.elim))
          have HW : Hid (Grew w w3) := hid (Grew.trans HH.out.2.2 HW3.out)
          clear CD hck2 hcr2
          go_roundw
          case rel => exact ⟨k + 1, by omega, by go_num, by rw [HTK.out, if_neg HNY.out, List.append_nil]; exact own_only HH.out.1 HW3.out (fun _ _ h => h), HO3.out⟩
          case measure => simp [intOf]; omega
        · obtain ⟨xs2, hx2⟩ := cyc_ex HP.out.2.2.2.1 O
          obtain ⟨r2, hr2⟩ : ∃ r : Bool, decide (xs2 = []) = r := ⟨_, rfl⟩
          have HIN : Hid ((k : Int) ∈ l) := hid (by simpa using HQ.out.symm)
          have HR2 : Hid (r2 = true ↔ Acyc E O) := hid (by rw [← hr2, decide_eq_true_eq]; exact hx2.nil_iff)
          have CB : Hid (∀ W A3 c3, Grew w W → SlI W A3 O → Calls Try.prog 54 #[.pointer (some ⟨b, 0, none⟩), .slice A3 O.length c3] W fun e w' => e = .returned (.bool r2) ∧ Grew W w') := hid (fun W A3 c3 hg hi =>
            breaks_is b N E F A3 c3 O W (HP.out.1.grew hg) hi (by omega) hfew HP.out.2.2.2.1 xs2 hx2 r2 hr2)
          clear hx2 hr2
          go_wp2_with (go_at_call 60; have cX := CD.out; with_reducible refine cX.mono ?_; clear cX; rintro e w3 ⟨A3, c3, rfl, hi3, hO3⟩; have hck3 := hO3.cell hck2 (fun h => by have h' : Wk.heap.size ≤ wr.heap.size := h; omega); have hcr3 := hO3.cell hcr2 (fun h => by have h' : Wk.heap.size ≤ w.heap.size := h; omega); have hs3 := hO3.size; have H3 := hid (And.intro hi3 hO3); clear hi3 hO3)
          have HW3 : Hid (Grew wr w3) := hid (((Grew.to H2.out.2.2 : Only (fun i => Wk.heap.size ≤ i) wr w2).trans H3.out.2 (fun _ _ h => h)).mono (fun i hi h => by omega))
          have HO3 : Hid (Only (fun i => w1.heap.size ≤ i) w1 w3) := hid (HH.out.2.1.trans HW3.out (fun _ _ h => h.elim))
          have HW : Hid (Grew w w3) := hid (Grew.trans HH.out.2.2 HW3.out)
          clear CD hck2 hcr2
          cases r2
          · have HNY : Hid ((k : Int) ∈ ys) := hid (HMO.out.2 ⟨HIN.out, fun h => by have := HR2.out.2 h; cases this⟩)
            go_wp2_with (first
              | (go_at_call 54; have cX := CB.out w3 A3 c3 HW.out H3.out.1; with_reducible refine cX.mono ?_; clear cX; rintro e w4 ⟨rfl, hg4⟩; have hck4 := hg4.cell hck3 (fun h => h); have hs4 := hg4.size; have H4 := hid (Grew.trans HW3.out hg4); clear hg4)
              | (at_builtin; go_loud (refine wpList_append_own_at _ rfl (.tmp 38) (.tmp 40) 29 rfl w1.heap.size 3 i0 _ 1 8 Try.underlying29 HI.out.1 HI.out.2.1 HI.out.2.2.1 HI.out.2.2.2 rfl (by omega) _ L.length (L.map (Value.int .i64)) rfl (own_only HH.out.1 (Grew.trans H4.out (Only.alloc (F := fun _ => False) _ _)) (fun _ _ h => h)) _ 1 1 [.int .i64 k] rfl rfl (new_one _ _ _) (by simp [Value.oneCell']) (by unfold maxLen; omega) (by omega) (by simp; omega) ?_; intro v8 w8 hown8 hgrow8 _ hl8)))
            have k8 : Only (fun i => w1.heap.size ≤ i) (w4.alloc (.cells #[.int .i64 (k : Int)] 3)) w8 := Only.of_grownBy hgrow8 (fun i e => .inl (World.ownsRow.lt HH.out.1 i e).1)
            have hO8 : Only (fun i => w1.heap.size ≤ i) w1 w8 := ((HH.out.2.1.trans H4.out (fun _ _ h => h.elim)).trans (Only.alloc (F := fun i => w1.heap.size ≤ i) _ _) (fun _ _ h => h)).trans k8 (fun _ _ h => h)
            have H8 := hid (And.intro hown8 hO8)
            clear hown8 hgrow8 hl8 k8 hO8
            go_wp2
            go_roundw
            case rel => exact ⟨k + 1, by omega, by go_num, by rw [HTK.out, if_pos HNY.out]; simpa using H8.out.1, H8.out.2⟩
            case measure => simp [intOf]; omega
          · have HNY : Hid ((k : Int) ∉ ys) := hid (fun h => (HMO.out.1 h).2 (HR2.out.1 rfl))
            go_wp2_with (go_at_call 54; have cX := CB.out w3 A3 c3 HW.out H3.out.1; with_reducible refine cX.mono ?_; clear cX; rintro e w4 ⟨rfl, hg4⟩; have H4 := hid (Grew.trans HW3.out hg4); clear hg4)
            go_roundw
            case rel => exact ⟨k + 1, by omega, by go_num, by rw [HTK.out, if_neg HNY.out, List.append_nil]; exact own_only HH.out.1 H4.out (fun _ _ h => h), HH.out.2.1.trans H4.out (fun _ _ h => h.elim)⟩
            case measure => simp [intOf]; omega
      · obtain rfl : k = N := by omega
        have hrow := HH.out.1
        rw [List.take_of_length_le (by simp [verts]), HP.out.2.2.2.2] at hrow
        have HF := hid hrow
        obtain ⟨A9, c9, rfl, hi9⟩ := own_form hrow
        have H9 := hid hi9
        clear hrow hi9
        go_wp2
        go_ret
        exact ⟨A9, c9, rfl, H9.out, HH.out.2.2⟩
end Go.Proofs.Ytlpkolmaklnffaa
