/- The walk of the law IndexOrder. -/
import Derived.Test.YtgpfhdjedebdfaaIx21
namespace Go.Proofs.Ytgpfhdjedebdfaa
open Go.RowKit Go.MapKept Go.Shelf Go.Lib

/-- The list when the first k have been turned. -/
def mixL (f : Int → Int) (ms : List Int) (k : Nat) : List Int := (ms.take k).map f ++ ms.drop k
theorem mixL_length (f : Int → Int) (ms : List Int) (k : Nat) : (mixL f ms k).length = ms.length := by simp [mixL]; omega
theorem mixL_get (f : Int → Int) (ms : List Int) (k j : Nat) (hj : j < ms.length) : (mixL f ms k)[j]?.getD 0 = if j < k then f (ms[j]?.getD 0) else ms[j]?.getD 0 := by
  unfold mixL
  have e : ms[j]? = some ms[j] := List.getElem?_eq_getElem hj
  by_cases h : j < k
  · rw [if_pos h, List.getElem?_append_left (by simp; omega), List.getElem?_map, List.getElem?_take_of_lt h, e]
    rfl
  · rw [if_neg h, List.getElem?_append_right (by simp; omega), List.getElem?_drop]
    congr 2
    simp
    omega
theorem mixL_all (f : Int → Int) (ms : List Int) : mixL f ms ms.length = ms.map f := by simp [mixL]
/-- One element of a row in memory is turned. -/
theorem SlI.turn {w : World} {g off k : Nat} {f : Int → Int} {ms : List Int} (h : SlI w (some ⟨g, off, none⟩) (mixL f ms k)) (hk : k < ms.length) : SlI (w.setCell ⟨g, off + k, none⟩ (.int .i64 (f (ms[k]?.getD 0)))) (some ⟨g, off, none⟩) (mixL f ms (k + 1)) := fun hp => by
  obtain ⟨b, o, e, hc⟩ := h (by rw [mixL_length]; omega)
  cases e
  refine ⟨g, off, rfl, fun j hj => ?_⟩
  rw [mixL_length] at hj
  have h1 := hc j (by rw [mixL_length]; exact hj)
  rw [mixL_get f ms k j hj] at h1
  rw [mixL_get f ms (k + 1) j hj]
  have hk1 := hc k (by rw [mixL_length]; exact hk)
  by_cases hjk : j = k
  · subst hjk
    rw [if_pos (by omega)]
    exact World.cell?_setCell_same' w _ _ (by rw [hk1]; rfl)
  · rw [World.cell?_setCell_other w ⟨g, off + k, none⟩ ⟨g, off + j, none⟩ _ (fun e => by injection e with _ e2 _; omega)]
    rw [h1]
    by_cases h2 : j < k
    · rw [if_pos h2, if_pos (by omega)]
    · rw [if_neg h2, if_neg (by omega)]
theorem meet_own (p : Nat) (S : List Ent) (c d : Int) (w : World) (hI : IsIdx w p S) (hS : GoodS S) (hV : VE (c, d)) (zs : List Int) (hz : (parts (c, d) S).map (·.1) = zs) :
    Calls Try.prog 16 #[.pointer (some ⟨p, 0, none⟩), .agg #[.int .i64 c, .int .i64 d]] w fun e W' => ∃ A k, e = .returned (.slice A zs.length k) ∧ W'.ownsRow w.heap.size 3 1 (.slice A zs.length k) zs.length (zs.map (Value.int .i64)) ∧ Grew w W' :=
  (meet_at p S c d w hI hS hV).mono fun e W' ⟨v, h1, h2, h3⟩ => by
    have e1 : (parts (c, d) S).map (fun x => Value.int .i64 x.1) = zs.map (Value.int .i64) := by rw [← hz, List.map_map]; rfl
    rw [e1] at h2
    obtain ⟨A, k, rfl, _⟩ := own_slI h2
    have hl : (parts (c, d) S).length = zs.length := by rw [← hz, List.length_map]
    rw [hl] at h2
    exact ⟨A, k, h1, h2, h3⟩
theorem own_block {w : World} {base e size n c : Nat} {A : Option Addr} {xs : List Value} (h : w.ownsRow base e size (.slice A n c) n xs) : ∀ g off, A = some ⟨g, off, none⟩ → base ≤ g ∧ ∃ cur, w.heap[g]? = some (.cells cur e (0, 0)) := by
  rintro g off rfl
  rcases h.2 with ⟨hv, _⟩ | ⟨g', cap, cur, hv, hb, hg, _⟩
  · cases hv
  · cases hv
    exact ⟨hb, cur, hg⟩
theorem block_setCell {w : World} {g : Nat} {cur : Array Value} {t : TypeId} (h : w.heap[g]? = some (.cells cur t (0, 0))) (a : Addr) (v : Value) : ∃ cur', (w.setCell a v).heap[g]? = some (.cells cur' t (0, 0)) := by
  by_cases hg : a.block = g
  · subst hg
    simp [World.setCell, Array.getElem?_modify, h]
  · exact ⟨cur, by simp [World.setCell, Array.getElem?_modify, h, hg]⟩
theorem parts_pos {l : List (Int × Int)} {T : List Ent} (hq : T.Perm (ents l)) (e : Int × Int) : ∀ z : Int, z ∈ (parts e T).map (·.1) → 0 ≤ z ∧ z < (l.length : Int) := by
  intro z hz
  obtain ⟨p, hp, rfl⟩ := List.mem_map.1 hz
  unfold parts at hp
  obtain ⟨x, hx, rfl⟩ := List.mem_map.1 hp
  obtain ⟨i, hi, hx2⟩ := mem_ents.1 (hq.mem_iff.1 (List.mem_filter.1 hx).1)
  have := (List.getElem?_eq_some_iff.1 hi).1
  simp only
  omega
theorem gst_second (c : Int) (ps : List Part) (h : Int → Int) : gst c (ps.map (fun p => (h p.1, p.2))) = gst c ps := by
  unfold gst
  rw [List.foldl_map]
theorem cw_second (ps : List Part) (h : Int → Int) : cw (ps.map (fun p => (h p.1, p.2))) = cw ps := by
  unfold cw
  rw [List.foldl_map]
theorem RightL.reverse {l : List (Int × Int)} (h : RightL l) : RightL l.reverse := by
  obtain ⟨S, hp, hS⟩ := good_exists h
  refine right_of_good (S := S.map (flip l.length)) ?_ (flip_good hS)
  have h1 := ents_reverse l.reverse
  rw [List.length_reverse, List.reverse_reverse] at h1
  have h2 := hp.map (flip l.length)
  rw [h1] at h2
  exact h2.trans (List.reverse_perm _)
set_option maxRecDepth 100000 in
set_option maxHeartbeats 1000000 in
theorem lorder_big (A : Option Addr) (cp : Nat) (l : List (Int × Int)) (c d : Int) (w : World) (h : 60 < l.length) :
    Calls Try.prog 6 #[.slice A l.length cp, .agg #[.int .i64 c, .int .i64 d]] w fun e w' => e = .returned (.bool true) ∧ Grew w w' := by
  have h1 : decide ((60 : Int) < (l.length : Int)) = true := by simp; omega
  have h2 : decide (60 < l.length) = true := by simp; omega
  go_enter Try.func6, Try.ntmps6
  go_wp2_with (go_at_call 10; refine (ialive_at _).mono ?_; rintro e w9 ⟨rfl, hg9⟩)
  go_ret
  exact ⟨rfl, Grew.trans (Only.alloc _ _) hg9⟩
set_option maxRecDepth 100000 in
set_option maxHeartbeats 1000000 in
theorem lorder_wrong (A : Option Addr) (cp : Nat) (l : List (Int × Int)) (c d : Int) (w : World) (hl : SlE w A l) (hlo : ∀ e ∈ l, okE e) (h : l.length ≤ 60) (hr : ¬ RightL l) :
    Calls Try.prog 6 #[.slice A l.length cp, .agg #[.int .i64 c, .int .i64 d]] w fun e w' => e = .returned (.bool true) ∧ Grew w w' := by
  have h1 : decide ((60 : Int) < (l.length : Int)) = false := by simp; omega
  have h2 : decide (60 < l.length) = false := by simp; omega
  have HC := hid (rright_no A cp l (w.alloc (.cells #[.int .i64 c, .int .i64 d] 28)) (hl.grew (Only.alloc _ _)) hlo (by omega) hr)
  clear hl hlo hr h
  go_enter Try.func6, Try.ntmps6
  go_wp2_with (first | (go_at_call 10; refine (ialive_at _).mono ?_; rintro e w9 ⟨rfl, hg9⟩) | (go_at_call 9; have cX := HC.out; with_reducible refine cX.mono ?_; clear cX; rintro e w1 ⟨rfl, hg1⟩))
  go_ret
  exact ⟨rfl, Grew.trans (Only.alloc _ _) (Grew.trans hg1 hg9)⟩
set_option maxRecDepth 100000 in
set_option maxHeartbeats 1000000 in
theorem lorder_inv (A : Option Addr) (cp : Nat) (l : List (Int × Int)) (c d : Int) (w : World) (hl : SlE w A l) (hlo : ∀ e ∈ l, okE e) (hc : okI c) (hd : okI d) (h : l.length ≤ 60) (hr : RightL l) (hv : veB (c, d) = false) :
    Calls Try.prog 6 #[.slice A l.length cp, .agg #[.int .i64 c, .int .i64 d]] w fun e w' => e = .returned (.bool true) ∧ Grew w w' := by
  have h1 : decide ((60 : Int) < (l.length : Int)) = false := by simp; omega
  have h2 : decide (60 < l.length) = false := by simp; omega
  have HC := hid (rright_yes A cp l (w.alloc (.cells #[.int .i64 c, .int .i64 d] 28)) (hl.grew (Only.alloc _ _)) hlo (by omega) hr)
  have HV := hid (fun w => rvalid_res c d w hc hd false hv)
  obtain ⟨k1, k2⟩ := cells2 w (.int .i64 c) (.int .i64 d) 28
  clear hl hlo hr h hc hd hv
  go_enter Try.func6, Try.ntmps6
  go_wp2_with (first | (go_at_call 10; refine (ialive_at _).mono ?_; rintro e w9 ⟨rfl, hg9⟩) | (go_at_call 14; have cX := HV.out w1; with_reducible refine cX.mono ?_; clear cX; rintro e w2 ⟨rfl, hg2⟩) | (go_at_call 9; have cX := HC.out; with_reducible refine cX.mono ?_; clear cX; rintro e w1 ⟨rfl, hg1⟩; have m1 := hg1.cell k1 (fun h => h); have m2 := hg1.cell k2 (fun h => h)))
  go_ret
  exact ⟨rfl, Grew.trans (Only.alloc _ _) (Grew.trans hg1 (Grew.trans hg2 hg9))⟩
set_option maxRecDepth 100000 in
set_option maxHeartbeats 4000000 in
theorem lorder_at (A : Option Addr) (cp : Nat) (l : List (Int × Int)) (c d : Int) (w : World) (hl : SlE w A l) (hlo : ∀ e ∈ l, okE e) (hc : okI c) (hd : okI d) (h : l.length ≤ 60) (hr : RightL l) (hv : VE (c, d)) :
    Calls Try.prog 6 #[.slice A l.length cp, .agg #[.int .i64 c, .int .i64 d]] w fun e w' => e = .returned (.bool true) ∧ Grew w w' := by
  have h1 : decide ((60 : Int) < (l.length : Int)) = false := by simp; omega
  have h2 : decide (60 < l.length) = false := by simp; omega
  have HRi := hid (And.intro hr (And.intro hlo (And.intro hv hl)))
  have HC := hid (rright_yes A cp l (w.alloc (.cells #[.int .i64 c, .int .i64 d] 28)) (hl.grew (Only.alloc _ _)) hlo (by omega) hr)
  have HV := hid (fun w => rvalid_res c d w hc hd true (veB_iff.2 hv))
  obtain ⟨k1, k2⟩ := cells2 w (.int .i64 c) (.int .i64 d) 28
  have HG0 : Hid (Grew w (w.alloc (.cells #[.int .i64 c, .int .i64 d] 28))) := hid (Only.alloc _ _)
  have hxlen : l.length ≤ 1048576 := by omega
  clear hl hlo hr hc hd hv
  obtain ⟨i0, hi0, hz0, hz1, hz2⟩ := info_parts info_ext
  have HI := hid (And.intro hi0 (And.intro hz0 (And.intro hz1 hz2)))
  clear hi0 hz0 hz1 hz2
  go_enter Try.func6, Try.ntmps6
  go_wp2_with (first | (go_at_call 14; have cX := HV.out w1; with_reducible refine cX.mono ?_; clear cX; rintro e w2 ⟨rfl, hg2⟩; have n1 := hg2.cell m1 (fun h => h); have n2 := hg2.cell m2 (fun h => h)) | (go_at_call 9; have cX := HC.out; with_reducible refine cX.mono ?_; clear cX; rintro e w1 ⟨rfl, hg1⟩; have m1 := hg1.cell k1 (fun h => h); have m2 := hg1.cell k2 (fun h => h)) | (at_builtin; go_loud (refine wpList_append_src _ rfl (.tmp 24) (.tmp 25) 22 rfl 0 28 i0 _ 2 16 Try.underlying22 HI.out.1 HI.out.2.1 HI.out.2.2.1 HI.out.2.2.2 rfl (by omega) w2.heap.size 0 0 [] rfl (own_empty (heap_alloc_new _ _)) A l.length cp (cellsE l) rfl (SlE.cells (((HRi.out.2.2.2.grew HG0.out).grew (Grew.trans hg1 hg2)).grew (Only.alloc _ _))) (oneCell_cellsE _) (by unfold maxLen; omega) (by omega) (by simp) ?_); intro g4 cap4 w4 hown4 hgrow4 hat4 hlt4; simp only [Nat.zero_add, List.nil_append] at hown4 ⊢; have hg4b : w2.heap.size ≤ g4 := (by rcases hat4 with h | h <;> first | omega | (simp at h; omega)); have hF4 : Fresh w2 w4 := Fresh.grown (Only.alloc _ _) hgrow4 (Nat.le_refl _)) | (go_at_call 23; have cX := reverse_at 0 l.length cap4 (some ⟨g4, 0, none⟩) l w4 hown4 hxlen; with_reducible refine cX.mono ?_; clear cX; rintro e w5 ⟨rfl, i5, hO5⟩))
  have HG5 : Hid (Grew w w5) := hid (Grew.trans HG0.out (Grew.trans hg1 (Grew.trans hg2 ((hF4.trans hO5 (fun i _ h => by cases h; exact hg4b)).mono (fun i hi h => by omega)))))
  have HS5 : Hid (∀ w', Grew w5 w' → w'.cell? ⟨w.heap.size, 0, none⟩ = some (.int .i64 c) ∧ w'.cell? ⟨w.heap.size, 1, none⟩ = some (.int .i64 d)) := hid (by
    have h25 : Grew w2 w5 := (hF4.trans hO5 (fun i _ h => by cases h; exact hg4b)).mono (fun i hi h => by omega)
    exact fun w' h => ⟨(Grew.trans h25 h).cell n1 (fun h => h), (Grew.trans h25 h).cell n2 (fun h => h)⟩)
  have HI5 : Hid (SlE w5 (some ⟨g4, 0, none⟩) l.reverse) := hid i5
  have HNB : Hid (∀ W, Grew w5 W → Calls Try.prog 11 #[.slice (some ⟨g4, 0, none⟩) l.length cap4] W fun e w' => ∃ p S, e = .returned (.pointer (some ⟨p, 0, none⟩)) ∧ S.Perm (ents l.reverse) ∧ GoodS S ∧ IsIdx w' p S ∧ Grew W w') := hid (fun W hW => by
    have h := new_ok (some ⟨g4, 0, none⟩) cap4 l.reverse W (HI5.out.grew hW) (fun e he => HRi.out.2.1 e (List.mem_reverse.1 he)) (by rw [List.length_reverse]; exact hxlen) HRi.out.1.reverse
    rw [List.length_reverse] at h
    exact h)
  clear i5 hO5 hF4 hg4b hown4 hgrow4 hat4 hlt4 hg1 hg2 k1 k2 m1 m2 n1 n2 HC HV
  go_wp2_with (first
    | (go_at_call 11; have cX := HNB.out w6 hg6; with_reducible refine cX.mono ?_; clear cX; rintro e w7 ⟨p2, T, rfl, hq, hT, hI2, hg7⟩; obtain ⟨n1, n2⟩ := HS5.out w7 (Grew.trans hg6 hg7); obtain ⟨ms, hms⟩ : ∃ ms, (parts (c, d) T).map (·.1) = ms := ⟨_, rfl⟩)
    | (go_at_call 11; have cX := new_ok A cp l w5 (HRi.out.2.2.2.grew HG5.out) HRi.out.2.1 hxlen HRi.out.1; with_reducible refine cX.mono ?_; clear cX; rintro e w6 ⟨p, S, rfl, hp, hS, hI, hg6⟩)
    | (go_at_call 16; have cX := meet_own p2 T c d w7 hI2 hT HRi.out.2.2.1 ms hms; with_reducible refine cX.mono ?_; clear cX; rintro e w8 ⟨A8, c8, rfl, h8, hg8⟩))
  have hflip := other_order hp hS hq hT
  have HPos : Hid (∀ z : Int, z ∈ ms → 0 ≤ z ∧ z < (l.length : Int)) := hid (fun z hz => by
    rw [← hms] at hz
    have h := parts_pos hq (c, d) z hz
    rw [List.length_reverse] at h
    exact h)
  have hzs : (parts (c, d) S).map (·.1) = ms.map (fun z => (l.length : Int) - 1 - z) := by
    rw [hflip, parts_flip, ← hms, List.map_map, List.map_map]
    rfl
  obtain ⟨z, hzc⟩ : ∃ z, cw (parts (c, d) S) = z := ⟨_, rfl⟩
  have hzc2 : cw (parts (c, d) T) = z := by rw [← hzc, hflip, parts_flip, cw_second (parts (c, d) T) (fun x => (l.length : Int) - 1 - x)]
  obtain ⟨g, hgs⟩ : ∃ g, gapsOf (c, d) (parts (c, d) S) = g := ⟨_, rfl⟩
  have hgs2 : gapsOf (c, d) (parts (c, d) T) = g := by
    rw [← hgs, hflip, parts_flip]
    unfold gapsOf
    rw [gst_second c (parts (c, d) T) (fun x => (l.length : Int) - 1 - x)]
  obtain ⟨q, hqs⟩ : ∃ q, S.map (·.1) = q := ⟨_, rfl⟩
  have hqs2 : T.map (·.1) = q := by rw [← hqs, hflip, List.map_map]; rfl
  have hSl : S.length = l.length := by rw [hp.length_eq, ents_length]
  have hTl : T.length = l.length := by rw [hq.length_eq, ents_length, List.length_reverse]
  have hql : q.length = l.length := by rw [← hqs, List.length_map, hSl]
  have hml : ms.length ≤ 60 := by
    have h1 := parts_length_le (c, d) T
    rw [← hms, List.length_map]
    omega
  have hgl : g.length ≤ 61 := by
    have h1 := parts_length_le (c, d) S
    have h3 := gst_length c (parts (c, d) S)
    rw [← hgs]
    unfold gapsOf
    have h4 := gapL_length (gst c (parts (c, d) S)).2 (RowKit.wrap64 (c + d)) (gst c (parts (c, d) S)).1
    simp only
    omega
  have HG7 : Hid (Grew w w7) := hid (Grew.trans HG5.out (Grew.trans hg6 hg7))
  have HM : Hid (∀ W, Grew w7 W → Calls Try.prog 16 #[.pointer (some ⟨p, 0, none⟩), .agg #[.int .i64 c, .int .i64 d]] W fun e W' => ∃ A k, e = .returned (.slice A ms.length k) ∧ SlI W' A (ms.map (fun z => (l.length : Int) - 1 - z)) ∧ Grew W W') := hid (fun W hW => by
    have h := meet_is p S c d W (hI.grew (Grew.trans hg7 hW)) hS HRi.out.2.2.1 _ hzs
    rw [List.length_map] at h
    exact h)
  have HEq : Hid (∀ W A k B k', SlI W A (ms.map (fun z => (l.length : Int) - 1 - z)) → SlI W B (ms.map (fun z => (l.length : Int) - 1 - z)) → Calls Try.prog 15 #[.slice A ms.length k, .slice B ms.length k'] W fun e w' => e = .returned (.bool true) ∧ Grew W w') := hid (fun W A k B k' hA hB => by
    have h := equalI_same A B k k' _ W hA hB (by rw [List.length_map]; omega)
    rw [List.length_map] at h
    exact h)
  have HCo : Hid (∀ W, Grew w7 W → Calls Try.prog 18 #[.pointer (some ⟨p, 0, none⟩), .agg #[.int .i64 c, .int .i64 d]] W fun e W' => e = .returned (.int .i64 z) ∧ Grew W W') := hid (fun W hW => covered_is p S c d W (hI.grew (Grew.trans hg7 hW)) hS HRi.out.2.2.1 z hzc)
  have HCo2 : Hid (∀ W, Grew w7 W → Calls Try.prog 18 #[.pointer (some ⟨p2, 0, none⟩), .agg #[.int .i64 c, .int .i64 d]] W fun e W' => e = .returned (.int .i64 z) ∧ Grew W W') := hid (fun W hW => covered_is p2 T c d W (hI2.grew hW) hT HRi.out.2.2.1 z hzc2)
  have HGa : Hid (∀ W, Grew w7 W → Calls Try.prog 22 #[.pointer (some ⟨p, 0, none⟩), .agg #[.int .i64 c, .int .i64 d]] W fun e W' => ∃ A k, e = .returned (.slice A g.length k) ∧ SlE W' A g ∧ Grew W W') := hid (fun W hW => gaps_is p S c d W (hI.grew (Grew.trans hg7 hW)) hS HRi.out.2.2.1 g hgs)
  have HGa2 : Hid (∀ W, Grew w7 W → Calls Try.prog 22 #[.pointer (some ⟨p2, 0, none⟩), .agg #[.int .i64 c, .int .i64 d]] W fun e W' => ∃ A k, e = .returned (.slice A g.length k) ∧ SlE W' A g ∧ Grew W W') := hid (fun W hW => gaps_is p2 T c d W (hI2.grew hW) hT HRi.out.2.2.1 g hgs2)
  have HSo : Hid (∀ W, Grew w7 W → Calls Try.prog 20 #[.pointer (some ⟨p, 0, none⟩)] W fun e W' => ∃ A k, e = .returned (.slice A q.length k) ∧ SlE W' A q ∧ Grew W W') := hid (fun W hW => (sorted_is p S W (hI.grew (Grew.trans hg7 hW))).mono fun e W' ⟨A, k, h1, h2, h3⟩ => ⟨A, k, by rw [h1, hql, hSl], by have h := SlE.of_own h2; rw [hqs] at h; exact h, h3⟩)
  have HSo2 : Hid (∀ W, Grew w7 W → Calls Try.prog 20 #[.pointer (some ⟨p2, 0, none⟩)] W fun e W' => ∃ A k, e = .returned (.slice A q.length k) ∧ SlE W' A q ∧ Grew W W') := hid (fun W hW => (sorted_is p2 T W (hI2.grew hW)).mono fun e W' ⟨A, k, h1, h2, h3⟩ => ⟨A, k, by rw [h1, hql, hTl], by have h := SlE.of_own h2; rw [hqs2] at h; exact h, h3⟩)
  have HS7 : Hid (∀ w', Grew w7 w' → w'.cell? ⟨w.heap.size, 0, none⟩ = some (.int .i64 c) ∧ w'.cell? ⟨w.heap.size, 1, none⟩ = some (.int .i64 d)) := hid (fun w' h => HS5.out w' (Grew.trans hg6 (Grew.trans hg7 h)))
  have H8 := hid (And.intro h8 hg8)
  have HQL := hid hql
  clear hql hflip hms hzs hzc hzc2 hgs hgs2 hqs hqs2 hSl hTl hp hS hI hq hT hI2 hg6 hg7 h8 hg8 n1 n2
  go_loopw [44] (fun i wr => ∃ k : Nat, k ≤ ms.length ∧ i = .int .i64 k ∧ Hid (SlI wr A8 (mixL (fun z => (l.length : Int) - 1 - z) ms k)) ∧ Hid (∀ g off, A8 = some ⟨g, off, none⟩ → w7.heap.size ≤ g ∧ ∃ cur, wr.heap[g]? = some (.cells cur 3 (0, 0))) ∧ Grew w7 wr) (fun i _ => ms.length - (intOf i).toNat)
  case atStart => exact ⟨0, Nat.zero_le _, rfl, hid (by have h := SlI.of_own H8.out.1; simpa [mixL] using h), hid (own_block H8.out.1), H8.out.2⟩
  case round =>
    obtain ⟨k, hk, rfl, hsl, hbl, hO⟩ := hrel
    have HO := hid hO
    clear hO
    by_cases hlt : k < ms.length
    · have hb0 : (k : Int) < (ms.length : Int) := by omega
      obtain ⟨bl, o, rfl, hcell⟩ := hsl.out (by rw [mixL_length]; omega)
      have c1 := hcell k (by rw [mixL_length]; exact hlt)
      rw [mixL_get _ _ _ _ hlt, if_neg (by omega)] at c1
      obtain ⟨y, hy⟩ : ∃ y, ms[k]? = some y := ⟨_, List.getElem?_eq_getElem hlt⟩
      have hy0 : ms[k]?.getD 0 = y := by rw [hy]; rfl
      rw [hy0] at c1
      obtain ⟨y1, y2⟩ := HPos.out y (List.mem_of_getElem? hy)
      obtain ⟨hbs, cur, hcur⟩ := hbl.out bl o rfl
      have hfz : wr.frozen? ⟨bl, o + k, none⟩ = false := by simp [World.frozen?, hcur]
      have HT := hid (SlI.turn hsl.out hlt)
      rw [hy0] at HT
      have HCU := hid hcur
      have hll := h
      clear hcell hy hy0 hcur
      go_wp2
      go_roundw
      case rel =>
        refine ⟨k + 1, by omega, by go_num, HT, hid (fun g off e => ?_), (Grew.to HO.out).trans (Only.setCell (F := fun i => i = bl) wr (p := ⟨bl, o + k, none⟩) rfl _) (fun _ _ h => h) |>.mono (fun i hi h => by omega)⟩
        cases e
        exact ⟨hbs, block_setCell HCU.out _ _⟩
      case measure => simp [intOf]; omega
    · obtain rfl : k = ms.length := by omega
      have HF : Hid (SlI wr A8 (ms.map (fun z => (l.length : Int) - 1 - z))) := hid (by
        have h := hsl.out
        rw [mixL_all] at h
        exact h)
      have HSS : Hid (∀ w', Grew wr w' → w'.cell? ⟨w.heap.size, 0, none⟩ = some (.int .i64 c) ∧ w'.cell? ⟨w.heap.size, 1, none⟩ = some (.int .i64 d)) := hid (fun w' h => HS7.out w' (Grew.trans HO.out h))
      go_wp2_with fail
      generalize w.heap.size = B at *
      go_region_held3 (fun w' => w'.cell? ⟨B, 0, none⟩ = some (.int .i64 c) ∧ w'.cell? ⟨B, 1, none⟩ = some (.int .i64 d))
        (first
          | exact HSS.out _ (Only.drew _)
          | exact HSS.out _ hl
          | exact HSS.out _ hk
          | exact HSS.out _ hj
          | exact HSS.out _ hi
          | exact HSS.out _ hh
          | exact HSS.out _ hg
          | exact HSS.out _ hf
          | exact HSS.out _ he
          | exact HSS.out _ hd
          | exact HSS.out _ hc
          | exact HSS.out _ hb
          | exact HSS.out _ ha)
        (first
          | (go_at_call 24; have cX := equalE_same Aj Ak cj ck q wk (ij.grew hk0) ik (by have := HQL.out; omega); with_reducible refine cX.mono ?_; clear cX; rintro e wl ⟨rfl, hl0⟩; have hl : Grew wr wl := Grew.trans hk hl0)
          | (go_at_call 20; have cX := HSo2.out wj (Grew.trans HO.out hj); with_reducible refine cX.mono ?_; clear cX; rintro e wk ⟨Ak, ck, rfl, ik, hk0⟩; have hk : Grew wr wk := Grew.trans hj hk0)
          | (go_at_call 20; have cX := HSo.out wi (Grew.trans HO.out hi); with_reducible refine cX.mono ?_; clear cX; rintro e wj ⟨Aj, cj, rfl, ij, hj0⟩; have hj : Grew wr wj := Grew.trans hi hj0)
          | (go_at_call 15; have cX := HEq.out wh Ah ch A8 c8 ih (HF.out.grew hh); with_reducible refine cX.mono ?_; clear cX; rintro e wi ⟨rfl, hi0⟩; have hi : Grew wr wi := Grew.trans hh hi0)
          | (go_at_call 16; have cX := HM.out wg (Grew.trans HO.out hg); with_reducible refine cX.mono ?_; clear cX; rintro e wh ⟨Ah, ch, rfl, ih, hh0⟩; have hh : Grew wr wh := Grew.trans hg hh0)
          | (go_at_call 24; have cX := equalE_same Ae Af ce cf g wf (ie.grew hf0) if_ (by omega); with_reducible refine cX.mono ?_; clear cX; rintro e wg ⟨rfl, hg0⟩; have hg : Grew wr wg := Grew.trans hf hg0)
          | (go_at_call 22; have cX := HGa2.out we (Grew.trans HO.out he); with_reducible refine cX.mono ?_; clear cX; rintro e wf ⟨Af, cf, rfl, if_, hf0⟩; have hf : Grew wr wf := Grew.trans he hf0)
          | (go_at_call 22; have cX := HGa.out wd (Grew.trans HO.out hd); with_reducible refine cX.mono ?_; clear cX; rintro e we ⟨Ae, ce, rfl, ie, he0⟩; have he : Grew wr we := Grew.trans hd he0)
          | (go_at_call 18; have cX := HCo2.out wc (Grew.trans HO.out hc); with_reducible refine cX.mono ?_; clear cX; rintro e wd ⟨rfl, hd0⟩; have hd : Grew wr wd := Grew.trans hc hd0)
          | (go_at_call 18; have cX := HCo.out wa (Grew.trans HO.out ha); with_reducible refine cX.mono ?_; clear cX; rintro e wc ⟨rfl, hc0⟩; have hc : Grew wr wc := Grew.trans ha hc0)
          | (go_at_call 10; refine (ialive_at _).mono ?_; rintro e wa ⟨rfl, ha0⟩; have ha : Grew wr wa := Grew.trans (Only.drew _) ha0))
      all_goals
        go_wp2
        go_ret
        exact ⟨rfl, Grew.trans HG7.out (Grew.trans HO.out hl)⟩
end Go.Proofs.Ytgpfhdjedebdfaa
