/- The walks of topo.Cyclic and of the reference's Cyclic. -/
import Derived.Test.YtlpkolmaklnffaaRefT
namespace Go.Proofs.Ytlpkolmaklnffaa
open Go.RowKit Go.MapKept

theorem Path.perm {E E' : List (Int × Int)} (h : E.Perm E') {u x : Int} : Path E u x ↔ Path E' u x := ⟨fun p => p.mono (fun _ he => h.mem_iff.1 he), fun p => p.mono (fun _ he => h.mem_iff.2 he)⟩
theorem IsCyc.eq_filter {E : List (Int × Int)} {N : Nat} {s xs : List Int} (hE : Valid N E) (h : IsCyc E s xs) : (verts N).filter (fun x => decide (x ∈ xs)) = xs := by
  refine eq_of_lt_mem ((verts_sorted N).filter _) h.1 (fun x => ?_)
  rw [List.mem_filter, decide_eq_true_eq]
  exact ⟨fun q => q.2, fun q => ⟨mem_verts.2 (path_range (hE.cut s) ((h.2 x).1 q)), q⟩⟩
theorem cyc_take {N k : Nat} (hk : k < N) (xs : List Int) : ((verts N).take (k + 1)).filter (fun x => decide (x ∈ xs)) = ((verts N).take k).filter (fun x => decide (x ∈ xs)) ++ (if (k : Int) ∈ xs then [(k : Int)] else []) := by
  rw [verts_take_succ N k hk, List.filter_append]
  congr 1
  simp only [List.filter_cons, List.filter_nil, decide_eq_true_eq]
theorem cyc_len (N k : Nat) (xs : List Int) : (((verts N).take k).filter (fun x => decide (x ∈ xs))).length ≤ k := Nat.le_trans (List.length_filter_le _ _) (by rw [List.length_take]; omega)
set_option maxRecDepth 100000 in
set_option maxHeartbeats 1000000 in
theorem cyclic_at (b N : Nat) (E : List (Int × Int)) (F : Nat → Prop) (A : Option Addr) (c : Nat) (s : List Int) (w : World) (hG : IsGraph w F b N E) (hs : SlI w A s) (hsl : s.length ≤ 9223372036854775807) (hfew : E.length ≤ 1048576)
    (xs : List Int) (hx : IsCyc E s xs) :
    Calls Try.prog 48 #[.pointer (some ⟨b, 0, none⟩), .slice A s.length c] w fun e w' => ∃ v, e = .returned v ∧ NewInts w w' v xs ∧ Grew w w' := by
  have hN := hG.small.2
  have hE := hG.2.2
  have HP := hid (And.intro hG (And.intro hs (And.intro hx (And.intro hE (hx.eq_filter hE)))))
  obtain ⟨i0, hi0, hz0, hz1, hz2⟩ := info_parts info_int
  have HI := hid (And.intro hi0 (And.intro hz0 (And.intro hz1 hz2)))
  clear hG hs hx hE hi0 hz0 hz1 hz2
  go_enter Try.func48, Try.ntmps48
  go_wp2_with fail
  go_at_call 73
  refine (remove_at b N E F A c s w HP.out.1 HP.out.2.1 hsl hfew).mono ?_
  rintro e w1 ⟨vo, md, f, o, rfl, ho, hn, hM, hg1⟩
  have H1 := hid (And.intro ho (And.intro hM (And.intro hg1 hg1.size)))
  clear ho hn hM hg1
  go_wp2_with (go_at_call 35; refine (without_at b N E F A c s w1 (HP.out.1.grew H1.out.2.2.1) (HP.out.2.1.grew H1.out.2.2.1) hsl hfew).mono ?_; rintro e w2 ⟨bh, E2, rfl, hG2, hp2, hg2⟩)
  have hfew2 : E2.length ≤ 1048576 := by have h1 := hp2.length_eq; have h2 := cut_length E s; omega
  have hs2 : w.heap.size ≤ w2.heap.size := by have h1 := H1.out.2.2.2; have h2 := hg2.size; omega
  have H2 := hid (And.intro hG2 (And.intro hp2 (And.intro (H1.out.2.1.only hg2 (fun h => h)) (And.intro (Grew.trans H1.out.2.2.1 hg2) (H1.out.2.1.only hg2 (fun h => h)).lt))))
  clear hG2 hp2 hg2
  go_wp2_with (go_at_call 37; refine (len_at b N _ (HP.out.1.grew H2.out.2.2.2.1).n_cell).mono ?_; rintro e w3 ⟨rfl, rfl⟩)
  go_loopw [8, 23] (fun ov i wr => ∃ k : Nat, k ≤ N ∧ i = .int .i64 k ∧ wr.ownsRow w.heap.size 3 1 ov (((verts N).take k).filter (fun x => decide (x ∈ xs))).length ((((verts N).take k).filter (fun x => decide (x ∈ xs))).map (Value.int .i64)) ∧
      Only (fun i => w2.heap.size ≤ i) w2 wr ∧ (∀ q, ov.ownBlock = some q → w2.heap.size ≤ q)) (fun _ i _ => N - (intOf i).toNat)
  case atStart => exact ⟨0, Nat.zero_le _, rfl, ⟨by simp, .inl ⟨rfl, by simp⟩⟩, Only.refl _ _, fun q h => by cases h⟩
  case round =>
    obtain ⟨k, hk, rfl, hrow, hO, hq⟩ := hrel
    have hOs := hO.size
    have HH := hid (And.intro hrow (And.intro hO hq))
    clear hrow hO hq
    by_cases hlt : k < N
    · have hb0 : (k : Int) < (N : Int) := by omega
      have hok : okI (k : Int) := ⟨by omega, by omega⟩
      have HTK := hid (cyc_take hlt xs)
      have hlen := cyc_len N k xs
      have hl1 := (kv_look (H2.out.2.2.1.only HH.out.2.1 (by have := H2.out.2.2.2.2; omega)) hok).2
      have HOK := hid hok
      clear hok
      generalize ((verts N).take k).filter (fun x => decide (x ∈ xs)) = L at *
      by_cases hin : (k : Int) ∈ restL N s o
      · rw [if_pos hin] at hl1
        have hd : decide ((k : Int) ∈ restL N s o) = true := by simpa using hin
        rw [hd] at hl1
        clear hin hd
        obtain ⟨r, hr⟩ : ∃ q : Bool, decide ((k : Int) ∈ xs) = q := ⟨_, rfl⟩
        have HR := hid hr
        clear hr
        cases r
        · go_wp2_with (first
            | (go_at_call 24; refine (reach_ex bh N k E2 _ wr (H2.out.1.only HH.out.2.1 (fun i hi h => by omega)) HOK.out hfew2).mono ?_; rintro e w5 ⟨A5, c5, ys, rfl, hi5, hr5, hl5, hg5⟩; have H5 := hid (And.intro hi5 (And.intro hr5 (And.intro hl5 hg5))); clear hi5 hr5 hl5 hg5)
            | (go_at_call 33; refine (contains_is A5 c5 ys k w5 false (by rw [← HR.out]; congr 1; rw [eq_iff_iff, H5.out.2.1.2, HP.out.2.2.1.2]; exact Path.perm H2.out.2.1) H5.out.1 H5.out.2.2.1).mono ?_; rintro e w6 ⟨rfl, rfl⟩))
          go_roundw
          case rel => exact ⟨k + 1, by omega, by go_num, by rw [HTK.out, if_neg (by simpa using HR.out), List.append_nil]; exact own_only HH.out.1 H5.out.2.2.2 (fun _ _ h => h), HH.out.2.1.trans H5.out.2.2.2 (fun _ _ h => h.elim), HH.out.2.2⟩
          case measure => simp [intOf]; omega
        · go_wp2_with (first
            | (go_at_call 24; refine (reach_ex bh N k E2 _ wr (H2.out.1.only HH.out.2.1 (fun i hi h => by omega)) HOK.out hfew2).mono ?_; rintro e w5 ⟨A5, c5, ys, rfl, hi5, hr5, hl5, hg5⟩; have h5s := hg5.size; have H5 := hid (And.intro hi5 (And.intro hr5 (And.intro hl5 hg5))); clear hi5 hr5 hl5 hg5)
            | (go_at_call 33; refine (contains_is A5 c5 ys k w5 true (by rw [← HR.out]; congr 1; rw [eq_iff_iff, H5.out.2.1.2, HP.out.2.2.1.2]; exact Path.perm H2.out.2.1) H5.out.1 H5.out.2.2.1).mono ?_; rintro e w6 ⟨rfl, rfl⟩)
            | (at_builtin; go_loud (refine wpList_append_own_at _ rfl (.tmp 40) (.tmp 42) 29 rfl w.heap.size 3 i0 _ 1 8 Try.underlying29 HI.out.1 HI.out.2.1 HI.out.2.2.1 HI.out.2.2.2 rfl (by omega) _ L.length (L.map (Value.int .i64)) rfl (own_only HH.out.1 (Grew.trans H5.out.2.2.2 (Only.alloc (F := fun _ => False) _ _)) (fun _ _ h => h)) _ 1 1 [.int .i64 k] rfl rfl (new_one _ _ _) (by simp [Value.oneCell']) (by unfold maxLen; omega) (by omega) (by simp; omega) ?_; intro v8 w8 hown8 hgrow8 _ hl8)))
          have k8 : Only (fun i => w2.heap.size ≤ i) (w5.alloc (.cells #[.int .i64 (k : Int)] 3)) w8 := Only.of_grownBy hgrow8 (fun i e => .inl (HH.out.2.2 i e))
          have hO8 : Only (fun i => w2.heap.size ≤ i) w2 w8 := ((HH.out.2.1.trans H5.out.2.2.2 (fun _ _ h => h.elim)).trans (Only.alloc (F := fun i => w2.heap.size ≤ i) _ _) (fun _ _ h => h)).trans k8 (fun _ _ h => h)
          have hq8 : ∀ q, v8.ownBlock = some q → w2.heap.size ≤ q := fun q hq => by
            rcases hl8 with h | h
            · exact HH.out.2.2 q (h.symm.trans hq)
            · rw [h] at hq
              simp at hq
              omega
          have H8 := hid (And.intro hown8 (And.intro hO8 hq8))
          clear hown8 hgrow8 hl8 k8 hO8 hq8
          go_wp2
          go_roundw
          case rel => exact ⟨k + 1, by omega, by go_num, by rw [HTK.out, if_pos (by simpa using HR.out)]; simpa using H8.out.1, H8.out.2.1, H8.out.2.2⟩
          case measure => simp [intOf]; omega
      · rw [if_neg hin] at hl1
        have hd : decide ((k : Int) ∈ restL N s o) = false := by simpa using hin
        rw [hd] at hl1
        have HNX : Hid ((k : Int) ∉ xs) := hid (fun h => hin (HP.out.2.2.1.rest HP.out.2.2.2.1 H1.out.1 h))
        clear hin hd
        go_wp2
        go_roundw
        case rel => exact ⟨k + 1, by omega, by go_num, by rw [HTK.out, if_neg HNX.out, List.append_nil]; exact HH.out.1, HH.out.2.1, HH.out.2.2⟩
        case measure => simp [intOf]; omega
    · obtain rfl : k = N := by omega
      have hrow := HH.out.1
      rw [List.take_of_length_le (by simp [verts]), HP.out.2.2.2.2] at hrow
      have HF := hid hrow
      clear hrow
      go_wp2
      go_ret
      exact ⟨_, rfl, HF.out, Grew.trans H2.out.2.2.2.1 (Fresh.grew HH.out.2.1)⟩
set_option maxRecDepth 100000 in
set_option maxHeartbeats 1000000 in
theorem rcyclic_at (b N : Nat) (E : List (Int × Int)) (F : Nat → Prop) (A : Option Addr) (c : Nat) (s : List Int) (w : World) (hG : IsRef w F b N E) (hs : SlI w A s) (hsl : s.length ≤ 9223372036854775807) (hfew : E.length ≤ 1048576) (hN : N ≤ 1048576) (hE : Valid N E)
    (xs : List Int) (hx : IsCyc E s xs) :
    Calls Try.prog 49 #[.pointer (some ⟨b, 0, none⟩), .slice A s.length c] w fun e w' => ∃ v, e = .returned v ∧ NewInts w w' v xs ∧ Grew w w' := by
  have HP := hid (And.intro hG (And.intro hs (And.intro hx (And.intro hE (hx.eq_filter hE)))))
  obtain ⟨i0, hi0, hz0, hz1, hz2⟩ := info_parts info_int
  have HI := hid (And.intro hi0 (And.intro hz0 (And.intro hz1 hz2)))
  clear hG hs hx hE hi0 hz0 hz1 hz2
  go_enter Try.func49, Try.ntmps49
  go_wp2_with fail
  go_at_call 36
  refine (rwithout_at b N E F A c s w HP.out.1 HP.out.2.1 hsl hfew).mono ?_
  rintro e w2 ⟨bh, rfl, hR2, hg2⟩
  have hs2 := hg2.size
  have H2 := hid (And.intro hR2 hg2)
  clear hR2 hg2
  go_wp2_with fail
  go_loopw [6, 7] (fun ov i wr => ∃ k : Nat, k ≤ N ∧ i = .int .i64 k ∧ wr.ownsRow w.heap.size 3 1 ov (((verts N).take k).filter (fun x => decide (x ∈ xs))).length ((((verts N).take k).filter (fun x => decide (x ∈ xs))).map (Value.int .i64)) ∧
      Only (fun i => w2.heap.size ≤ i) w2 wr ∧ (∀ q, ov.ownBlock = some q → w2.heap.size ≤ q)) (fun _ i _ => N - (intOf i).toNat)
  case atStart => exact ⟨0, Nat.zero_le _, rfl, ⟨by simp, .inl ⟨rfl, by simp⟩⟩, Only.refl _ _, fun q h => by cases h⟩
  case round =>
    obtain ⟨k, hk, rfl, hrow, hO, hq⟩ := hrel
    have hOs := hO.size
    have hRw := H2.out.1.only hO (fun i hi h => by omega)
    have k0 : wr.cell? ⟨bh, 0, none⟩ = some (.int .i64 N) := by
      obtain ⟨A', c', g⟩ := hRw
      exact cell_of_row _ _ 0 _ _ _ g.blk
    have HH := hid (And.intro hrow (And.intro hO (And.intro hq hRw)))
    clear hrow hO hq hRw
    by_cases hlt : k < N
    · have hb0 : (k : Int) < (N : Int) := by omega
      have HTK := hid (cyc_take hlt xs)
      have hlen := cyc_len N k xs
      generalize ((verts N).take k).filter (fun x => decide (x ∈ xs)) = L at *
      obtain ⟨r, hr⟩ : ∃ q : Bool, decide ((k : Int) ∈ xs) = q := ⟨_, rfl⟩
      have HR := hid hr
      clear hr
      have CR : Hid (Calls Try.prog 25 #[.pointer (some ⟨bh, 0, none⟩), .int .i64 k] wr fun e w' => ∃ A c ys, e = .returned (.slice A ys.length c) ∧ SlI w' A ys ∧ IsReach (cut E s) k ys ∧ ys.length ≤ 9223372036854775807 ∧ Grew wr w') := hid (by
        refine (rreach_at bh N k (cut E s) _ wr HH.out.2.2.2 hN (HP.out.2.2.2.1.cut s)).mono ?_
        rintro e w' ⟨r, ys, rfl, hn, hr, hg⟩
        obtain ⟨A', c', rfl, hi, hc1, hc2, _⟩ := hn.form
        exact ⟨A', c', ys, rfl, hi, hr, by unfold maxLen at hc2; omega, hg⟩)
      have c1 := CR.out
      cases r
      · go_wp2_with (first
          | (go_at_call 25; refine c1.mono ?_; clear c1; rintro e w5 ⟨A5, c5, ys, rfl, hi5, hr5, hl5, hg5⟩; have H5 := hid (And.intro hi5 (And.intro hr5 (And.intro hl5 hg5))); clear hi5 hr5 hl5 hg5)
          | (go_at_call 74; refine (in13_is A5 c5 ys k w5 false (by rw [← HR.out]; congr 1; rw [eq_iff_iff, H5.out.2.1.2, HP.out.2.2.1.2]) H5.out.1 H5.out.2.2.1).mono ?_; rintro e w6 ⟨rfl, rfl⟩))
        go_roundw
        case rel => exact ⟨k + 1, by omega, by go_num, by rw [HTK.out, if_neg (by simpa using HR.out), List.append_nil]; exact own_only HH.out.1 H5.out.2.2.2 (fun _ _ h => h), HH.out.2.1.trans H5.out.2.2.2 (fun _ _ h => h.elim), HH.out.2.2.1⟩
        case measure => simp [intOf]; omega
      · go_wp2_with (first
          | (go_at_call 25; refine c1.mono ?_; clear c1; rintro e w5 ⟨A5, c5, ys, rfl, hi5, hr5, hl5, hg5⟩; have h5s := hg5.size; have H5 := hid (And.intro hi5 (And.intro hr5 (And.intro hl5 hg5))); clear hi5 hr5 hl5 hg5)
          | (go_at_call 74; refine (in13_is A5 c5 ys k w5 true (by rw [← HR.out]; congr 1; rw [eq_iff_iff, H5.out.2.1.2, HP.out.2.2.1.2]) H5.out.1 H5.out.2.2.1).mono ?_; rintro e w6 ⟨rfl, rfl⟩)
          | (at_builtin; go_loud (refine wpList_append_own_at _ rfl (.tmp 24) (.tmp 26) 29 rfl w.heap.size 3 i0 _ 1 8 Try.underlying29 HI.out.1 HI.out.2.1 HI.out.2.2.1 HI.out.2.2.2 rfl (by omega) _ L.length (L.map (Value.int .i64)) rfl (own_only HH.out.1 (Grew.trans H5.out.2.2.2 (Only.alloc (F := fun _ => False) _ _)) (fun _ _ h => h)) _ 1 1 [.int .i64 k] rfl rfl (new_one _ _ _) (by simp [Value.oneCell']) (by unfold maxLen; omega) (by omega) (by simp; omega) ?_; intro v8 w8 hown8 hgrow8 _ hl8)))
        have k8 : Only (fun i => w2.heap.size ≤ i) (w5.alloc (.cells #[.int .i64 (k : Int)] 3)) w8 := Only.of_grownBy hgrow8 (fun i e => .inl (HH.out.2.2.1 i e))
        have hO8 : Only (fun i => w2.heap.size ≤ i) w2 w8 := ((HH.out.2.1.trans H5.out.2.2.2 (fun _ _ h => h.elim)).trans (Only.alloc (F := fun i => w2.heap.size ≤ i) _ _) (fun _ _ h => h)).trans k8 (fun _ _ h => h)
        have hq8 : ∀ q, v8.ownBlock = some q → w2.heap.size ≤ q := fun q hq => by
          rcases hl8 with h | h
          · exact HH.out.2.2.1 q (h.symm.trans hq)
          · rw [h] at hq
            simp at hq
            omega
        have H8 := hid (And.intro hown8 (And.intro hO8 hq8))
        clear hown8 hgrow8 hl8 k8 hO8 hq8
        go_wp2
        go_roundw
        case rel => exact ⟨k + 1, by omega, by go_num, by rw [HTK.out, if_pos (by simpa using HR.out)]; simpa using H8.out.1, H8.out.2.1, H8.out.2.2⟩
        case measure => simp [intOf]; omega
    · obtain rfl : k = N := by omega
      have hrow := HH.out.1
      rw [List.take_of_length_le (by simp [verts]), HP.out.2.2.2.2] at hrow
      have HF := hid hrow
      clear hrow
      go_wp2
      go_ret
      exact ⟨_, rfl, HF.out, Grew.trans H2.out.2 (Fresh.grew HH.out.2.1)⟩
end Go.Proofs.Ytlpkolmaklnffaa
