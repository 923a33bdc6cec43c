/- The walks of the reference's Choose, of Cost on both sides, of Breaks. -/
import Derived.Test.YtlpkolmaklnffaaEvC
import Derived.Test.YtlpkolmaklnffaaLTOrders
namespace Go.Proofs.Ytlpkolmaklnffaa
open Go.RowKit Go.MapKept

set_option maxRecDepth 100000 in
set_option maxHeartbeats 2000000 in
theorem rchoose_at (b N : Nat) (E : List (Int × Int)) (F : Nat → Prop) (Aw : Option Addr) (cw : Nat) (ws : List Int) (Ak : Option Addr) (ck : Nat) (keep : List Int) (w : World) (hG : IsRef w F b N E) (hw : SlI w Aw ws) (hk : SlI w Ak keep)
    (hwl : ws.length ≤ 9223372036854775807) (hkl : keep.length ≤ 9223372036854775807) (hfew : E.length ≤ 1048576) (hN : N ≤ 1048576) (hE : Valid N E) (o xs : List Int) (hx : IsChoose E ws keep o xs) (r : Bool) (hr : decide (xs = []) = r) :
    Calls Try.prog 53 #[.pointer (some ⟨b, 0, none⟩), .slice Aw ws.length cw, .slice Ak keep.length ck] w fun e w' =>
      ∃ A' c', e = .returned (.tuple #[.slice A' (ordRes r o).length c', .bool r]) ∧ SlI w' A' (ordRes r o) ∧ Grew w w' := by
  have HP := hid (And.intro hG (And.intro hw (And.intro hk (And.intro hx (And.intro hr hE)))))
  obtain ⟨i0, hi0, hz0, hz1, hz2⟩ := info_parts info_int
  have HI := hid (And.intro hi0 (And.intro hz0 (And.intro hz1 hz2)))
  clear hG hw hk hx hr hE hi0 hz0 hz1 hz2
  go_enter Try.func53, Try.ntmps53
  go_wp2_with fail
  go_loopw [8] (fun ov wr => ∃ (out : List Int), Hid (Chosen E ws keep out) ∧ wr.ownsRow w.heap.size 3 1 ov out.length (out.map (Value.int .i64)) ∧ Only (fun i => w.heap.size ≤ i) w wr) (fun ov _ => N - lenOf ov)
  case atStart => exact ⟨[], hid .nil, ⟨by simp, .inl ⟨rfl, by simp⟩⟩, Only.refl _ _⟩
  case round =>
    obtain ⟨out, hch, hrow, hO⟩ := hrel
    have hol := hch.out.length HP.out.2.2.2.2.2
    obtain ⟨Ao, co, rfl, hio⟩ := own_form hrow
    obtain ⟨ys, hy⟩ := cyc_ex HP.out.2.2.2.2.2 out
    have HH := hid (And.intro hch.out (And.intro hrow (And.intro hio (And.intro (Fresh.grew hO) hy))))
    have hOs := hO.size
    have HO := hid hO
    clear hch hrow hio hO hy
    have CC : Hid (Calls Try.prog 49 #[.pointer (some ⟨b, 0, none⟩), .slice Ao out.length co] wr fun e w' => ∃ A c, e = .returned (.slice A ys.length c) ∧ Grew wr w') := hid (by
      refine (rcyclic_at b N E F Ao co out wr (HP.out.1.grew HH.out.2.2.2.1) HH.out.2.2.1 (by omega) hfew hN HP.out.2.2.2.2.2 ys HH.out.2.2.2.2).mono ?_
      rintro e w' ⟨v, rfl, hn, hg⟩
      obtain ⟨A, c, rfl, _⟩ := hn.form
      exact ⟨A, c, rfl, hg⟩)
    obtain ⟨q, hq⟩ : ∃ q, best (wgt ws) (kept ys keep) = q := ⟨_, rfl⟩
    have HQ := hid hq
    clear hq
    by_cases h0 : ys = []
    · subst h0
      have hq : q = none := by rw [← HQ.out]; rfl
      subst hq
      obtain ⟨e1, e2⟩ := HP.out.2.2.2.1.unique (isChoose_of HH.out.1 HH.out.2.2.2.2 HQ.out)
      have HE := hid (And.intro e1 e2)
      obtain rfl : r = true := by rw [← HP.out.2.2.2.2.1, HE.out.2]; rfl
      clear e1 e2
      go_wp2_with (go_at_call 49; have cX := CC.out; with_reducible refine cX.mono ?_; clear cX; rintro e w1 ⟨A1, c1, rfl, hg1⟩)
      go_ret2
      rw [HE.out.1]
      exact ⟨Ao, co, rfl, HH.out.2.2.1.grew hg1, Grew.trans HH.out.2.2.2.1 hg1⟩
    · have hpos : (0 : Int) < (ys.length : Int) := by have := List.length_pos_iff.2 h0; omega
      have HNE := hid h0
      clear h0
      go_wp2_with (go_at_call 49; have cX := CC.out; with_reducible refine cX.mono ?_; clear cX; rintro e w1 ⟨A1, c1, rfl, hg1⟩)
      have H1 := hid (And.intro hg1 (Grew.trans HH.out.2.2.2.1 hg1))
      have hs1 := hg1.size
      clear hg1 CC
      have CN : Hid (Calls Try.prog 58 #[.pointer (some ⟨b, 0, none⟩), .slice Aw ws.length cw, .slice Ao out.length co, .slice Ak keep.length ck] w1 fun e w' => e = .returned (.int .i64 (q.getD (-1))) ∧ Grew w1 w') := hid (by
        have h := rnext_at b N E F Aw cw ws Ao co out Ak ck keep w1 (HP.out.1.grew H1.out.2) (HP.out.2.1.grew H1.out.2) (HH.out.2.2.1.grew H1.out.1) (HP.out.2.2.1.grew H1.out.2) hwl (by omega) hkl hfew hN HP.out.2.2.2.2.2 ys HH.out.2.2.2.2
        rw [HQ.out] at h
        exact h)
      cases q with
      | none =>
        obtain ⟨e1, e2⟩ := HP.out.2.2.2.1.unique (isChoose_of HH.out.1 HH.out.2.2.2.2 HQ.out)
        have HE := hid (And.intro e1 e2)
        obtain rfl : r = false := by rw [← HP.out.2.2.2.2.1, HE.out.2]; simpa using HNE.out
        clear e1 e2
        go_wp2_with (go_at_call 58; have cX := CN.out; with_reducible refine cX.mono ?_; clear cX; rintro e w2 ⟨rfl, hg2⟩)
        go_ret2
        exact ⟨none, 0, rfl, SlI.nil, Grew.trans H1.out.2 hg2⟩
      | some v =>
        have hch2 := Chosen.snoc HH.out.1 HH.out.2.2.2.2 HQ.out
        have hl2 := hch2.length HP.out.2.2.2.2.2
        rw [List.length_append, List.length_singleton] at hl2
        have hv0 := ((hch2.nodup HP.out.2.2.2.2.2).2 v (by simp)).1
        have hd : decide (v < 0) = false := by simpa using hv0
        have HC2 := hid hch2
        clear hch2
        go_wp2_with (first
          | (go_at_call 58; have cX := CN.out; with_reducible refine cX.mono ?_; clear cX; rintro e w2 ⟨rfl, hg2⟩; have hs2 := hg2.size; have H2 := hid (And.intro hg2 (Grew.trans H1.out.1 hg2)); clear hg2)
          | (at_builtin; go_loud (refine wpList_append_own_at _ rfl (.tmp 22) (.tmp 24) 29 rfl w.heap.size 3 i0 _ 1 8 Try.underlying29 HI.out.1 HI.out.2.1 HI.out.2.2.1 HI.out.2.2.2 rfl (by omega) _ out.length (out.map (Value.int .i64)) rfl (own_only HH.out.2.1 (Grew.trans H2.out.2 (Only.alloc (F := fun _ => False) _ _)) (fun _ _ h => h)) _ 1 1 [.int .i64 v] rfl rfl (new_one _ _ _) (by simp [Value.oneCell']) (by unfold maxLen; omega) (by omega) (by simp; omega) ?_; intro v8 w8 hown8 hgrow8 _ hl8)))
        have k8 : Only (fun i => w.heap.size ≤ i) (w2.alloc (.cells #[.int .i64 v] 3)) w8 := Only.of_grownBy hgrow8 (fun i e => .inl (World.ownsRow.lt HH.out.2.1 i e).1)
        have hO8 : Only (fun i => w.heap.size ≤ i) w w8 := ((HO.out.trans H2.out.2 (fun _ _ h => h.elim)).trans (Only.alloc (F := fun i => w.heap.size ≤ i) _ _) (fun _ _ h => h)).trans k8 (fun _ _ h => h)
        have hown : w8.ownsRow w.heap.size 3 1 v8 (out.length + 1) ((out ++ [v]).map (Value.int .i64)) := by simpa using hown8
        obtain ⟨A8, c8, e8, _⟩ := own_form hown
        obtain rfl : v8 = .slice A8 (out.length + 1) c8 := by rw [e8]; simp
        have HF := hid (And.intro hown hO8)
        clear hown8 hgrow8 k8 hO8 hown e8 hl8
        go_wp2
        go_roundw
        case rel => exact ⟨out ++ [v], HC2, by simpa using HF.out.1, HF.out.2⟩
        case measure => simp only [lenOf]; omega
/-! ### Breaks -/
set_option maxRecDepth 100000 in
theorem breaks_is (b N : Nat) (E : List (Int × Int)) (F : Nat → Prop) (A : Option Addr) (c : Nat) (s : List Int) (w : World) (hG : IsGraph w F b N E) (hs : SlI w A s) (hsl : s.length ≤ 9223372036854775807) (hfew : E.length ≤ 1048576) (hE : Valid N E)
    (xs : List Int) (hx : IsCyc E s xs) (r : Bool) (hr : decide (xs = []) = r) :
    Calls Try.prog 54 #[.pointer (some ⟨b, 0, none⟩), .slice A s.length c] w fun e w' => e = .returned (.bool r) ∧ Grew w w' := by
  obtain ⟨o, ho⟩ := order_ex E N s
  have HC := hid (order_is b N E F A c s w hG hs hsl hfew o ho r (by rw [← hr]; congr 1; rw [eq_iff_iff, ho.rest_nil hE hx]))
  clear hG hs hE hx hr ho
  go_enter Try.func54, Try.ntmps54
  go_wp2_with (go_at_call 40; have cX := HC.out; with_reducible refine cX.mono ?_; clear cX; rintro e w1 ⟨A1, c1, rfl, _, _, hg1⟩)
  go_ret
  exact ⟨rfl, hg1⟩
/-! ### Cost -/
theorem compact_own (base : Nat) (v : Value) (xs : List Int) (w : World) (hv : w.ownsRow base 3 1 v xs.length (xs.map (Value.int .i64))) (hlen : xs.length ≤ 9223372036854775807) :
    Calls Try.prog 80 #[v] w fun e w' => ∃ A c, e = .returned (.slice A (Lib.compact xs).length c) ∧ w'.ownsRow base 3 1 (.slice A (Lib.compact xs).length c) (Lib.compact xs).length ((Lib.compact xs).map (Value.int .i64)) ∧ Only (fun i => v.ownBlock = some i) w w' := by
  rcases hv.2 with ⟨rfl, hz⟩ | ⟨gb, cap, cur, rfl, hb, hg, h1, h2, h3, h4⟩
  · obtain rfl : xs = [] := List.eq_nil_of_length_eq_zero hz
    refine (Try.slices_Compact_int_empty none 0 w).mono ?_
    rintro e w' ⟨rfl, rfl⟩
    exact ⟨none, 0, rfl, ⟨by simp, .inl ⟨rfl, rfl⟩⟩, Only.refl _ _⟩
  · have hcells : ∀ j, j < xs.length → w.cell? ⟨gb, 0 + j, none⟩ = some (.int .i64 (xs[j]?.getD 0)) := fun j hj => by
      obtain ⟨b', off', e, hcc⟩ := SlI.of_own hv (by omega)
      cases e
      exact hcc j hj
    have hH : Sort.Holds (Value.int .i64) w gb 0 xs.toArray := fun j hj => by
      have hj' : j < xs.length := by simpa using hj
      refine ⟨?_, ?_⟩
      · rw [hcells j hj', getElem!_pos xs.toArray j hj, List.getElem?_eq_getElem hj']
        simp
      · unfold World.frozen?
        simp [hg]
    refine (Try.slices_Compact_int gb 0 cap xs w hH hlen h1).mono ?_
    rintro e w' ⟨rfl, q, rfl⟩
    have hle := Lib.compact_length_le xs
    refine ⟨_, _, rfl, ⟨by simp, .inr ⟨gb, cap, Sort.putCells (Value.int .i64) 0 (Lib.compact xs ++ List.replicate (xs.length - (Lib.compact xs).length) 0).toArray cur, rfl, hb, ?_, by omega, h2, ?_, ?_⟩⟩, (Only.ahead _ w q).trans (Only.putRow (fun i => Value.ownBlock (.slice (some ⟨gb, 0, none⟩) xs.length cap) = some i) _ gb 0 _ rfl) (fun _ _ h => h)⟩
    · show (w.heap.modify gb _)[gb]? = _
      rw [Array.getElem?_modify, if_pos rfl, hg]
      rfl
    · unfold Sort.putCells
      rw [Array.size_mapIdx]
      exact h3
    · apply List.ext_getElem?
      intro i
      rw [List.getElem?_take]
      by_cases hi : i < (Lib.compact xs).length * 1
      · rw [if_pos hi]
        have hi' : i < (Lib.compact xs).length := by omega
        have hic : i < cur.size := by omega
        unfold Sort.putCells
        rw [Array.getElem?_toList, Array.getElem?_mapIdx, Array.getElem?_eq_getElem hic, Option.map_some, if_pos ⟨by omega, by simp; omega⟩, List.getElem?_map, List.getElem?_eq_getElem hi', Option.map_some, getElem!_pos _ _ (by simp; omega)]
        simp [hi']
      · rw [if_neg hi, List.getElem?_eq_none (by simp; omega)]
theorem sumw_take (ws l : List Int) {k : Nat} {x : Int} (h : l[k]? = some x) : sumw ws (l.take (k + 1)) = sumw ws (l.take k) + wgt ws x := by
  rw [List.take_add_one, h]
  exact sumw_snoc ws _ x
set_option maxRecDepth 100000 in
set_option maxHeartbeats 1000000 in
theorem cost_at (Aw : Option Addr) (cw : Nat) (ws : List Int) (Al : Option Addr) (cl : Nat) (l : List Int) (w : World) (hw : SlI w Aw ws) (hl : SlI w Al l) (hW : WRight ws) (hll : l.length ≤ 1048576) :
    Calls Try.prog 55 #[.slice Aw ws.length cw, .slice Al l.length cl] w fun e w' => e = .returned (.int .i64 (sumw ws (ddp l))) ∧ Grew w w' := by
  have hwl := hW.1
  have HP := hid (And.intro hw (And.intro hl hW))
  have hul : (uniqL l).length ≤ 1048576 := by
    have h1 := Lib.compact_length_le (sortL l)
    rw [sortL_length] at h1
    unfold uniqL
    omega
  rw [← uniq_sum hW l]
  clear hw hl hW
  go_enter Try.func55, Try.ntmps55
  go_wp2_with fail
  go_at_call 67
  refine (values_at Al l.length cl w).mono ?_
  rintro e w1 ⟨rfl, rfl⟩
  have HG0 := hid (Only.alloc (F := fun _ => False) w (.cells #[.slice Al l.length cl] 29))
  have HC0 := hid (cell_of_one (heap_alloc_new w (.cells #[.slice Al l.length cl] 29)))
  generalize w.alloc (.cells #[.slice Al l.length cl] 29) = w1 at *
  go_wp2_with (go_at_call 65; refine (sorted_values_at w.heap.size cl Al l (by omega) w1 HC0.out (HP.out.2.1.grew HG0.out)).mono ?_; rintro e w2 ⟨v2, rfl, hn2, hg2⟩)
  have H2 := hid (And.intro hn2 (Grew.trans HG0.out hg2))
  have hs2 := hg2.size
  clear hn2 hg2
  have CK : Hid (Calls Try.prog 80 #[v2] w2 fun e w' => ∃ A c, e = .returned (.slice A (uniqL l).length c) ∧ SlI w' A (uniqL l) ∧ Grew w w') := hid (by
    refine (compact_own w1.heap.size v2 (sortL l) w2 H2.out.1 (by rw [sortL_length]; omega)).mono ?_
    rintro e w' ⟨A, c, rfl, h1, h2⟩
    refine ⟨A, c, rfl, SlI.of_own h1, ?_⟩
    have h3 : Only (fun i => w1.heap.size ≤ i) w w' := (Grew.to H2.out.2).trans h2 (fun i hi h => (World.ownsRow.lt H2.out.1 i h).1)
    exact h3.mono (fun i hi h => by have := HG0.out.size; omega))
  go_wp2_with (go_at_call 80; have cX := CK.out; with_reducible refine cX.mono ?_; clear cX; rintro e w3 ⟨A3, c3, rfl, hi3, hg3⟩)
  have H3 := hid (And.intro hi3 hg3)
  clear hi3 hg3 CK
  generalize hu : uniqL l = u at *
  have HU := hid hu
  clear hu
  go_loopw [5, 13] (fun nv i wr => ∃ k : Nat, k ≤ u.length ∧ i = .int .i64 k ∧ nv = .int .i64 (sumw ws (u.take k)) ∧ wr = w3) (fun _ i _ => u.length - (intOf i).toNat)
  case atStart => exact ⟨0, Nat.zero_le _, rfl, rfl, rfl⟩
  case round =>
    obtain ⟨k, hk, rfl, rfl, rfl⟩ := hrel
    have hsr := sumw_range HP.out.2.2 (u.take k)
    have htl : (u.take k).length ≤ k := by rw [List.length_take]; omega
    have hs1 : 0 ≤ sumw ws (u.take k) := hsr.1
    have hs2' : sumw ws (u.take k) ≤ 1152921504606846976 := by have := hsr.2; omega
    clear hsr
    by_cases hlt : k < u.length
    · have hb0 : (k : Int) < (u.length : Int) := by omega
      obtain ⟨bl, off, rfl, hcell⟩ := H3.out.1 (by omega)
      have hc := hcell k hlt
      obtain ⟨x, hx⟩ : ∃ x, u[k]? = some x := ⟨_, List.getElem?_eq_getElem hlt⟩
      simp only [hx, Option.getD_some] at hc
      have HX := hid (sumw_take ws u hx)
      have hwr := wgt_range HP.out.2.2 x
      have hw1 := hwr.1
      have hw2 := hwr.2
      have HW := hid (weight_at Aw cw ws x wr (HP.out.1.grew H3.out.2) (by omega))
      clear hcell hx hwr
      generalize wgt ws x = fx at *
      generalize sumw ws (u.take k) = S at *
      go_wp2_with (go_at_call 81; have cX := HW.out; with_reducible refine cX.mono ?_; clear cX; rintro e w' ⟨rfl, rfl⟩)
      go_roundw
      case rel => exact ⟨k + 1, by omega, by go_num, by rw [HX.out], by trivial⟩
      case measure => simp [intOf]; omega
    · obtain rfl : k = u.length := by omega
      rw [List.take_length]
      go_wp2
      go_ret
      exact ⟨by rw [HU.out]; rfl, H3.out.2⟩
set_option maxRecDepth 100000 in
set_option maxHeartbeats 1000000 in
theorem rcost_at (Aw : Option Addr) (cw : Nat) (ws : List Int) (Al : Option Addr) (cl : Nat) (l : List Int) (w : World) (hw : SlI w Aw ws) (hl : SlI w Al l) (hW : WRight ws) (hll : l.length ≤ 1048576) (hcap : l.length ≤ cl) :
    Calls Try.prog 56 #[.slice Aw ws.length cw, .slice Al l.length cl] w fun e w' => e = .returned (.int .i64 (sumw ws (ddp l))) ∧ Grew w w' := by
  have hwl := hW.1
  have HP := hid (And.intro hw (And.intro hl hW))
  clear hw hl hW
  go_enter Try.func56, Try.ntmps56
  go_wp2_with fail
  go_loopw [5, 6] (fun nv i wr => ∃ k : Nat, k ≤ l.length ∧ i = .int .i64 k ∧ nv = .int .i64 (sumw ws (ddp (l.take k))) ∧ Grew w wr) (fun _ i _ => l.length - (intOf i).toNat)
  case atStart => exact ⟨0, Nat.zero_le _, rfl, rfl, Only.refl _ _⟩
  case round =>
    obtain ⟨k, hk, rfl, rfl, hO⟩ := hrel
    have HO := hid hO
    clear hO
    have hsr := sumw_range HP.out.2.2 (ddp (l.take k))
    have htl : (ddp (l.take k)).length ≤ l.length := by
      have h1 := (ddp_mem (l.take k)).1.length_le_of_subset (l₂ := l.take k) (fun x hx => ((ddp_mem _).2 x).1 hx)
      rw [List.length_take] at h1
      omega
    have hs1 : 0 ≤ sumw ws (ddp (l.take k)) := hsr.1
    have hs2' : sumw ws (ddp (l.take k)) ≤ 1152921504606846976 := by have := hsr.2; omega
    clear hsr htl
    by_cases hlt : k < l.length
    · have hb0 : (k : Int) < (l.length : Int) := by omega
      have hb1 : (k : Int) ≤ (cl : Int) := by omega
      have hb2 : k ≤ cl := by omega
      have HS := HP.out.2.1.grew HO.out
      obtain ⟨bl, off, rfl, hcell⟩ := HS (by omega)
      have hc := hcell k hlt
      obtain ⟨x, hx⟩ : ∃ x, l[k]? = some x := ⟨_, List.getElem?_eq_getElem hlt⟩
      simp only [hx, Option.getD_some] at hc
      have HX : Hid (ddp (l.take (k + 1)) = ddp (l.take k) ++ (if x ∈ l.take k then [] else [x])) := hid (by rw [List.take_add_one, hx]; exact ddp_snoc _ _)
      have HSL : Hid (∀ w', Grew wr w' → SlI w' (some ⟨bl, off, none⟩) (l.take k)) := hid (fun w' h hp => ⟨bl, off, rfl, fun j hj => by
        rw [List.length_take] at hj
        rw [h.cell (hcell j (by omega)) (fun h => h), List.getElem?_take, if_pos (by omega)]⟩)
      have htl : (l.take k).length = k := by rw [List.length_take]; omega
      obtain ⟨r, hr⟩ : ∃ r : Bool, decide (x ∈ l.take k) = r := ⟨_, rfl⟩
      have HI : Hid (∀ w', Grew wr w' → Calls Try.prog 82 #[.int .i64 x, .slice (some ⟨bl, off, none⟩) k cl] w' fun e w'' => e = .returned (.bool r) ∧ w' = w'') := hid (fun w' h => by
        have h := in14_is (some ⟨bl, off, none⟩) cl (l.take k) x w' r hr (HSL.out w' h) (by omega)
        rwa [htl] at h)
      have HWW : Hid (∀ w', Grew wr w' → Calls Try.prog 83 #[.slice Aw ws.length cw, .int .i64 x] w' fun e w'' => e = .returned (.int .i64 (wgt ws x)) ∧ w' = w'') := hid (fun w' h => rweight_at Aw cw ws x w' (HP.out.1.grew (Grew.trans HO.out h)) (by omega))
      have hcw : ∀ w', Grew wr w' → w'.cell? ⟨bl, off + k, none⟩ = some (.int .i64 x) := fun w' h => h.cell hc (fun h => h)
      have HCW := hid hcw
      clear hcell hx HS hcw HSL
      cases r
      · have HX2 : Hid (sumw ws (ddp (l.take (k + 1))) = sumw ws (ddp (l.take k)) + wgt ws x) := hid (by rw [HX.out, if_neg (by simpa using hr), sumw_snoc])
        have hwr := wgt_range HP.out.2.2 x
        have hw1 := hwr.1
        have hw2 := hwr.2
        clear hr hwr HX
        generalize wgt ws x = fx at *
        generalize sumw ws (ddp (l.take k)) = S at *
        go_wp2_with fail
        go_quiet ((go_at_call 82; (first | exact quiet_left (HI.out _ (Only.drewN _ _)) | exact quiet_add_left (HI.out _ (Only.drewN _ _)))))
        go_wp2_with (go_at_call 83; have cX := HWW.out (wr.drewN nq) (Only.drewN _ _); with_reducible refine cX.mono ?_; clear cX; rintro e w' ⟨rfl, rfl⟩)
        go_roundw
        case rel => exact ⟨k + 1, by omega, by go_num, by rw [HX2.out], Grew.trans HO.out (Only.drewN _ _)⟩
        case measure => simp [intOf]; omega
      · have HX2 : Hid (ddp (l.take (k + 1)) = ddp (l.take k)) := hid (by rw [HX.out, if_pos (by simpa using hr), List.append_nil])
        clear hr HX
        go_wp2_with fail
        go_quiet ((go_at_call 82; (first | exact quiet_left (HI.out _ (Only.drewN _ _)) | exact quiet_add_left (HI.out _ (Only.drewN _ _)))))
        go_wp2
        go_roundw
        case rel => exact ⟨k + 1, by omega, by go_num, by rw [HX2.out], Grew.trans HO.out (Only.drewN _ _)⟩
        case measure => simp [intOf]; omega
    · obtain rfl : k = l.length := by omega
      rw [List.take_length]
      go_wp2
      go_ret
      exact ⟨rfl, HO.out⟩
end Go.Proofs.Ytlpkolmaklnffaa
