/- The walk of the law IndexNil. -/
import Derived.Test.YtgpfhdjedebdfaaIx21
namespace Go.Proofs.Ytgpfhdjedebdfaa
open Go.RowKit Go.MapKept Go.Shelf Go.Lib

theorem own_block {w : World} {base e size n c : Nat} {A : Option Addr} {xs : List Value} (h : w.ownsRow base e size (.slice A n c) n xs) : ∀ g off, A = some ⟨g, off, none⟩ → base ≤ g ∧ ∃ cur, w.heap[g]? = some (.cells cur e (0, 0)) := by
  rintro g off rfl
  rcases h.2 with ⟨hv, _⟩ | ⟨g', cap, cur, hv, hb, hg, _⟩
  · cases hv
  · cases hv
    exact ⟨hb, cur, hg⟩
theorem block_setCell {w : World} {g : Nat} {cur : Array Value} {t : TypeId} (h : w.heap[g]? = some (.cells cur t (0, 0))) (a : Addr) (v : Value) : ∃ cur', (w.setCell a v).heap[g]? = some (.cells cur' t (0, 0)) := by
  by_cases hg : a.block = g
  · subst hg
    simp [World.setCell, Array.getElem?_modify, h]
  · exact ⟨cur, by simp [World.setCell, Array.getElem?_modify, h, hg]⟩
theorem set_get {α : Type} (E : List α) (k j : Nat) (x d : α) (hk : k < E.length) : (E.set k x)[j]?.getD d = if j = k then x else E[j]?.getD d := by
  by_cases h : j = k
  · subst h
    rw [if_pos rfl, List.getElem?_set_self (by omega)]
    rfl
  · rw [if_neg h, List.getElem?_set_ne (by omega)]
theorem SlE.turn1 {w : World} {g o k : Nat} {E : List (Int × Int)} {a b : Int} (r : Int) (h : SlE w (some ⟨g, o, none⟩) E) (hk : E[k]? = some (a, b)) : SlE (w.setCell ⟨g, o + k * 2, none⟩ (.int .i64 r)) (some ⟨g, o, none⟩) (E.set k (r, b)) := fun hp => by
  have hlt := (List.getElem?_eq_some_iff.1 hk).1
  obtain ⟨g', o', e, hc⟩ := h (by simpa using hp)
  cases e
  refine ⟨g, o, rfl, fun j hj => ?_⟩
  rw [List.length_set] at hj
  rw [set_get _ _ _ _ _ hlt]
  obtain ⟨h1, h2⟩ := hc j hj
  by_cases hjk : j = k
  · subst hjk
    rw [hk] at h1 h2
    rw [if_pos rfl]
    refine ⟨World.cell?_setCell_same' w _ _ (by rw [h1]; rfl), ?_⟩
    rw [World.cell?_setCell_other w ⟨g, o + j * 2, none⟩ ⟨g, o + j * 2 + 1, none⟩ _ (fun e => by injection e with _ e2 _; omega)]
    exact h2
  · rw [if_neg hjk]
    rw [World.cell?_setCell_other w ⟨g, o + k * 2, none⟩ ⟨g, o + j * 2, none⟩ _ (fun e => by injection e with _ e2 _; omega), World.cell?_setCell_other w ⟨g, o + k * 2, none⟩ ⟨g, o + j * 2 + 1, none⟩ _ (fun e => by injection e with _ e2 _; omega)]
    exact ⟨h1, h2⟩
theorem SlE.turn2 {w : World} {g o k : Nat} {E : List (Int × Int)} {a b : Int} (r : Int) (h : SlE w (some ⟨g, o, none⟩) E) (hk : E[k]? = some (a, b)) : SlE (w.setCell ⟨g, o + k * 2 + 1, none⟩ (.int .i64 r)) (some ⟨g, o, none⟩) (E.set k (a, r)) := fun hp => by
  have hlt := (List.getElem?_eq_some_iff.1 hk).1
  obtain ⟨g', o', e, hc⟩ := h (by simpa using hp)
  cases e
  refine ⟨g, o, rfl, fun j hj => ?_⟩
  rw [List.length_set] at hj
  rw [set_get _ _ _ _ _ hlt]
  obtain ⟨h1, h2⟩ := hc j hj
  by_cases hjk : j = k
  · subst hjk
    rw [hk] at h1 h2
    rw [if_pos rfl]
    refine ⟨?_, World.cell?_setCell_same' w _ _ (by rw [h2]; rfl)⟩
    rw [World.cell?_setCell_other w ⟨g, o + j * 2 + 1, none⟩ ⟨g, o + j * 2, none⟩ _ (fun e => by injection e with _ e2 _; omega)]
    exact h1
  · rw [if_neg hjk]
    rw [World.cell?_setCell_other w ⟨g, o + k * 2 + 1, none⟩ ⟨g, o + j * 2, none⟩ _ (fun e => by injection e with _ e2 _; omega), World.cell?_setCell_other w ⟨g, o + k * 2 + 1, none⟩ ⟨g, o + j * 2 + 1, none⟩ _ (fun e => by injection e with _ e2 _; omega)]
    exact ⟨h1, h2⟩
set_option maxRecDepth 100000 in
set_option maxHeartbeats 1000000 in
theorem lnil_big (A : Option Addr) (cp : Nat) (l : List (Int × Int)) (c d : Int) (w : World) (h : 60 < l.length) :
    Calls Try.prog 5 #[.slice A l.length cp, .agg #[.int .i64 c, .int .i64 d]] w fun e w' => e = .returned (.bool true) ∧ Grew w w' := by
  have h1 : decide ((60 : Int) < (l.length : Int)) = true := by simp; omega
  have h2 : decide (60 < l.length) = true := by simp; omega
  go_enter Try.func5, Try.ntmps5
  go_wp2_with (go_at_call 10; refine (ialive_at _).mono ?_; rintro e w9 ⟨rfl, hg9⟩)
  go_ret
  exact ⟨rfl, Grew.trans (Only.alloc _ _) hg9⟩
set_option maxRecDepth 100000 in
set_option maxHeartbeats 1000000 in
theorem lnil_wrong (A : Option Addr) (cp : Nat) (l : List (Int × Int)) (c d : Int) (w : World) (hl : SlE w A l) (hlo : ∀ e ∈ l, okE e) (h : l.length ≤ 60) (hr : ¬ RightL l) :
    Calls Try.prog 5 #[.slice A l.length cp, .agg #[.int .i64 c, .int .i64 d]] w fun e w' => e = .returned (.bool true) ∧ Grew w w' := by
  have h1 : decide ((60 : Int) < (l.length : Int)) = false := by simp; omega
  have h2 : decide (60 < l.length) = false := by simp; omega
  have HC := hid (rright_no A cp l (w.alloc (.cells #[.int .i64 c, .int .i64 d] 28)) (hl.grew (Only.alloc _ _)) hlo (by omega) hr)
  clear hl hlo hr h
  go_enter Try.func5, Try.ntmps5
  go_wp2_with (first | (go_at_call 10; refine (ialive_at _).mono ?_; rintro e w9 ⟨rfl, hg9⟩) | (go_at_call 9; have cX := HC.out; with_reducible refine cX.mono ?_; clear cX; rintro e w1 ⟨rfl, hg1⟩))
  go_ret
  exact ⟨rfl, Grew.trans (Only.alloc _ _) (Grew.trans hg1 hg9)⟩
set_option maxRecDepth 100000 in
set_option maxHeartbeats 1000000 in
theorem lnil_inv (A : Option Addr) (cp : Nat) (l : List (Int × Int)) (c d : Int) (w : World) (hl : SlE w A l) (hlo : ∀ e ∈ l, okE e) (hc : okI c) (hd : okI d) (h : l.length ≤ 60) (hr : RightL l) (hv : veB (c, d) = false) :
    Calls Try.prog 5 #[.slice A l.length cp, .agg #[.int .i64 c, .int .i64 d]] w fun e w' => e = .returned (.bool true) ∧ Grew w w' := by
  have h1 : decide ((60 : Int) < (l.length : Int)) = false := by simp; omega
  have h2 : decide (60 < l.length) = false := by simp; omega
  have HC := hid (rright_yes A cp l (w.alloc (.cells #[.int .i64 c, .int .i64 d] 28)) (hl.grew (Only.alloc _ _)) hlo (by omega) hr)
  have HV := hid (fun w => rvalid_res c d w hc hd false hv)
  obtain ⟨k1, k2⟩ := cells2 w (.int .i64 c) (.int .i64 d) 28
  clear hl hlo hr h hc hd hv
  go_enter Try.func5, Try.ntmps5
  go_wp2_with (first | (go_at_call 10; refine (ialive_at _).mono ?_; rintro e w9 ⟨rfl, hg9⟩) | (go_at_call 14; have cX := HV.out w1; with_reducible refine cX.mono ?_; clear cX; rintro e w2 ⟨rfl, hg2⟩) | (go_at_call 9; have cX := HC.out; with_reducible refine cX.mono ?_; clear cX; rintro e w1 ⟨rfl, hg1⟩; have m1 := hg1.cell k1 (fun h => h); have m2 := hg1.cell k2 (fun h => h)))
  go_ret
  exact ⟨rfl, Grew.trans (Only.alloc _ _) (Grew.trans hg1 (Grew.trans hg2 hg9))⟩
set_option maxRecDepth 100000 in
set_option maxHeartbeats 4000000 in
theorem lnil_at (A : Option Addr) (cp : Nat) (l : List (Int × Int)) (c d : Int) (w : World) (hl : SlE w A l) (hlo : ∀ e ∈ l, okE e) (hc : okI c) (hd : okI d) (h : l.length ≤ 60) (hr : RightL l) (hv : VE (c, d)) :
    Calls Try.prog 5 #[.slice A l.length cp, .agg #[.int .i64 c, .int .i64 d]] w fun e w' => e = .returned (.bool true) ∧ Grew w w' := by
  have h1 : decide ((60 : Int) < (l.length : Int)) = false := by simp; omega
  have h2 : decide (60 < l.length) = false := by simp; omega
  have HRi := hid (And.intro hr (And.intro hlo (And.intro hv hl)))
  have HC := hid (rright_yes A cp l (w.alloc (.cells #[.int .i64 c, .int .i64 d] 28)) (hl.grew (Only.alloc _ _)) hlo (by omega) hr)
  have HV := hid (fun w => rvalid_res c d w hc hd true (veB_iff.2 hv))
  obtain ⟨k1, k2⟩ := cells2 w (.int .i64 c) (.int .i64 d) 28
  have HG0 : Hid (Grew w (w.alloc (.cells #[.int .i64 c, .int .i64 d] 28))) := hid (Only.alloc _ _)
  have hxlen : l.length ≤ 1048576 := by omega
  clear hl hlo hr hc hd hv
  obtain ⟨i0, hi0, hz0, hz1, hz2⟩ := info_parts info_ext
  have HI := hid (And.intro hi0 (And.intro hz0 (And.intro hz1 hz2)))
  clear hi0 hz0 hz1 hz2
  go_enter Try.func5, Try.ntmps5
  go_wp2_with (first | (go_at_call 14; have cX := HV.out w1; with_reducible refine cX.mono ?_; clear cX; rintro e w2 ⟨rfl, hg2⟩; have n1 := hg2.cell m1 (fun h => h); have n2 := hg2.cell m2 (fun h => h)) | (go_at_call 9; have cX := HC.out; with_reducible refine cX.mono ?_; clear cX; rintro e w1 ⟨rfl, hg1⟩; have m1 := hg1.cell k1 (fun h => h); have m2 := hg1.cell k2 (fun h => h)) | (at_builtin; go_loud (refine wpList_append_src _ rfl (.tmp 25) (.tmp 26) 22 rfl 0 28 i0 _ 2 16 Try.underlying22 HI.out.1 HI.out.2.1 HI.out.2.2.1 HI.out.2.2.2 rfl (by omega) w2.heap.size 0 0 [] rfl (own_empty (heap_alloc_new _ _)) A l.length cp (cellsE l) rfl (SlE.cells (((HRi.out.2.2.2.grew HG0.out).grew (Grew.trans hg1 hg2)).grew (Only.alloc _ _))) (oneCell_cellsE _) (by unfold maxLen; omega) (by omega) (by simp) ?_); intro g4 cap4 w4 hown4 hgrow4 hat4 hlt4; simp only [Nat.zero_add, List.nil_append] at hown4 ⊢; have hg4b : w2.heap.size ≤ g4 := (by rcases hat4 with h | h <;> first | omega | (simp at h; omega)); have hF4 : Fresh w2 w4 := Fresh.grown (Only.alloc _ _) hgrow4 (Nat.le_refl _)) | (go_at_call 11; have cX := new_ok2 (some ⟨g4, 0, none⟩) cap4 l w4 (SlE.of_own hown4) HRi.out.2.1 hxlen HRi.out.1; with_reducible refine cX.mono ?_; clear cX; rintro e w5 ⟨p, S, rfl, hp, hS, hI, hg5⟩))
  obtain ⟨_, cur4, hcur4⟩ := own_block hown4 g4 0 rfl
  have H5 : Hid (Grew w2 w5) := hid ((hF4.trans hg5 (fun _ _ h => h.elim)).mono (fun i hi h => by omega))
  have HL5 : Hid (SlE w5 (some ⟨g4, 0, none⟩) l) := hid ((SlE.of_own hown4).grew hg5)
  have HB5 : Hid (w5.heap[g4]? = some (.cells cur4 28 (0, 0))) := hid (hg5.heap hcur4 (fun h => h))
  have HX := hid (And.intro hp (And.intro hS hI))
  have HS2 : Hid (∀ w', Grew w2 w' → w'.cell? ⟨w.heap.size, 0, none⟩ = some (.int .i64 c) ∧ w'.cell? ⟨w.heap.size, 1, none⟩ = some (.int .i64 d)) := hid (fun w' h => ⟨h.cell n1 (fun h => h), h.cell n2 (fun h => h)⟩)
  have HG2 : Hid (Grew w w2) := hid (Grew.trans HG0.out (Grew.trans hg1 hg2))
  clear hp hS hI hg5 hcur4 hown4 hgrow4 hat4 hF4 hg1 hg2 k1 k2 m1 m2 n1 n2 HC HV
  go_wp2_with fail
  go_loopw [34] (fun i wr => ∃ (k : Nat) (E' : List (Int × Int)), k ≤ l.length ∧ i = .int .i64 k ∧ E'.length = l.length ∧ Hid (SlE wr (some ⟨g4, 0, none⟩) E') ∧ Hid (∃ cur, wr.heap[g4]? = some (.cells cur 28 (0, 0))) ∧ Only (fun i => i = g4) w5 wr) (fun i _ => l.length - (intOf i).toNat)
  case atStart => exact ⟨0, l, Nat.zero_le _, rfl, rfl, HL5, hid ⟨_, HB5.out⟩, Only.refl _ _⟩
  case round =>
    obtain ⟨k, E', hk, rfl, hEl, hsl, hbl, hO⟩ := hrel
    have HO := hid hO
    have HEl := hid hEl
    clear hO hEl
    by_cases hlt : k < l.length
    · have hb0 : (k : Int) < (l.length : Int) := by omega
      obtain ⟨bl, o, e0, hcell⟩ := hsl.out (by rw [HEl.out]; omega)
      cases e0
      obtain ⟨c1, _⟩ := hcell k (by rw [HEl.out]; omega)
      obtain ⟨y, hy⟩ : ∃ y, E'[k]? = some y := ⟨_, List.getElem?_eq_getElem (by rw [HEl.out]; omega)⟩
      simp only [hy, Option.getD_some, Nat.zero_add] at c1
      obtain ⟨a, b⟩ := y
      simp only at c1
      obtain ⟨cur, hcur⟩ := hbl.out
      have hfz : wr.frozen? ⟨g4, k * 2, none⟩ = false := by simp [World.frozen?, hcur]
      obtain ⟨r, hr⟩ : ∃ r : Int, RowKit.wrap64 (a + 1) = r := ⟨_, rfl⟩
      have hr2 : IntKind.i64.wrap (a + 1) = r := by rw [IntWalk.i64_left]; exact hr
      have HT := hid (SlE.turn1 r hsl.out hy)
      simp only [Nat.zero_add] at HT
      have HCU := hid hcur
      clear hcell hy hcur hr
      go_wp2
      go_roundw
      case rel => exact ⟨k + 1, E'.set k (r, b), by omega, by go_num, by rw [List.length_set]; exact HEl.out, HT, hid (block_setCell HCU.out _ _), HO.out.trans (Only.setCell (F := fun i => i = g4) wr (p := ⟨g4, k * 2, none⟩) rfl _) (fun _ _ h => h)⟩
      case measure => simp [intOf]; omega
    · obtain rfl : k = l.length := by omega
      have H6 : Hid (Grew w2 wr) := hid ((Grew.to H5.out).trans HO.out (fun _ _ h => h) |>.mono (fun i hi h => by omega))
      have HI6 : Hid (IsIdx wr p S) := hid ((HX.out.2.2.keep HO.out (fun i hi h => by omega)).to)
      go_wp2_with (go_at_call 20; have cX := sorted_is p S wr HI6.out; with_reducible refine cX.mono ?_; clear cX; rintro e w7 ⟨A7, c7, rfl, h7, hg7⟩)
      have HSl : Hid (S.length = l.length) := hid (by rw [HX.out.1.length_eq, ents_length])
      have H7 := hid (And.intro h7 hg7)
      have HG7 : Hid (Grew w2 w7) := hid (Grew.trans H6.out hg7)
      have HI7 : Hid (IsIdx w7 p S) := hid (HI6.out.grew hg7)
      clear h7 hg7
      obtain ⟨wo, rfl⟩ : ∃ wo : World, wo = wr := ⟨_, rfl⟩
      go_wp2_with fail
      go_loopw [50] (fun i wr => ∃ (k : Nat) (E' : List (Int × Int)), k ≤ S.length ∧ i = .int .i64 k ∧ E'.length = S.length ∧ Hid (SlE wr A7 E') ∧ Hid (∀ g off, A7 = some ⟨g, off, none⟩ → wo.heap.size ≤ g ∧ ∃ cur, wr.heap[g]? = some (.cells cur 28 (0, 0))) ∧ Grew wo wr) (fun i _ => S.length - (intOf i).toNat)
      case atStart => exact ⟨0, S.map (·.1), Nat.zero_le _, rfl, by simp, hid (SlE.of_own H7.out.1), hid (own_block H7.out.1), H7.out.2⟩
      case round =>
        obtain ⟨k, E', hk, rfl, hEl, hsl, hbl, hO⟩ := hrel
        have HO2 := hid hO
        have HEl := hid hEl
        clear hO hEl
        by_cases hlt : k < S.length
        · have hb0 : (k : Int) < (S.length : Int) := by omega
          have hSb : S.length ≤ 1048576 := by rw [HSl.out]; omega
          obtain ⟨bl, o, rfl, hcell⟩ := hsl.out (by rw [HEl.out]; omega)
          obtain ⟨_, c2⟩ := hcell k (by rw [HEl.out]; omega)
          obtain ⟨y, hy⟩ : ∃ y, E'[k]? = some y := ⟨_, List.getElem?_eq_getElem (by rw [HEl.out]; omega)⟩
          simp only [hy, Option.getD_some] at c2
          obtain ⟨a, b⟩ := y
          simp only at c2
          obtain ⟨hbs, cur, hcur⟩ := hbl.out bl o rfl
          have hfz : wr.frozen? ⟨bl, o + k * 2 + 1, none⟩ = false := by simp [World.frozen?, hcur]
          obtain ⟨r, hr⟩ : ∃ r : Int, RowKit.wrap64 (b + 1) = r := ⟨_, rfl⟩
          have hr2 : IntKind.i64.wrap (b + 1) = r := by rw [IntWalk.i64_left]; exact hr
          have HT := hid (SlE.turn2 r hsl.out hy)
          have HCU := hid hcur
          clear hcell hy hcur hr
          go_wp2
          go_roundw
          case rel =>
            refine ⟨k + 1, E'.set k (a, r), by omega, by go_num, by rw [List.length_set]; exact HEl.out, HT, hid (fun g off e => ?_), (Grew.to HO2.out).trans (Only.setCell (F := fun i => i = bl) wr (p := ⟨bl, o + k * 2 + 1, none⟩) rfl _) (fun _ _ h => h) |>.mono (fun i hi h => by omega)⟩
            cases e
            exact ⟨hbs, block_setCell HCU.out _ _⟩
          case measure => simp [intOf]; omega
        · obtain rfl : k = S.length := by omega
          have HW : Hid (Grew w2 wr) := hid (Grew.trans H6.out HO2.out)
          have HIw : Hid (IsIdx wr p S) := hid (HI6.out.grew HO2.out)
          have HGW : Hid (Grew w wr) := hid (Grew.trans HG2.out HW.out)
          obtain ⟨zs, hz⟩ : ∃ zs, (parts (c, d) S).map (·.1) = zs := ⟨_, rfl⟩
          obtain ⟨z, hzc⟩ : ∃ z, cw (parts (c, d) S) = z := ⟨_, rfl⟩
          have hzl : zs.length ≤ 60 := by
            have h1 := parts_length_le (c, d) S
            have h2 := HSl.out
            rw [← hz, List.length_map]
            omega
          have HM : Hid (∀ W, Grew wr W → Calls Try.prog 16 #[.pointer (some ⟨p, 0, none⟩), .agg #[.int .i64 c, .int .i64 d]] W fun e W' => ∃ A k, e = .returned (.slice A zs.length k) ∧ SlI W' A zs ∧ Grew W W') := hid (fun W hW => meet_is p S c d W (HIw.out.grew hW) HX.out.2.1 HRi.out.2.2.1 zs hz)
          have HRM : Hid (∀ W, Grew wr W → Calls Try.prog 17 #[.slice A l.length cp, .agg #[.int .i64 c, .int .i64 d]] W fun e W' => ∃ A k, e = .returned (.slice A zs.length k) ∧ SlI W' A zs ∧ Grew W W') := hid (fun W hW => rmeet_is A cp l c d W (HRi.out.2.2.2.grew (Grew.trans HGW.out hW)) HRi.out.1 HRi.out.2.2.1 hxlen S HX.out.1 HX.out.2.1 zs hz)
          have HCo : Hid (∀ W, Grew wr W → Calls Try.prog 18 #[.pointer (some ⟨p, 0, none⟩), .agg #[.int .i64 c, .int .i64 d]] W fun e W' => e = .returned (.int .i64 z) ∧ Grew W W') := hid (fun W hW => covered_is p S c d W (HIw.out.grew hW) HX.out.2.1 HRi.out.2.2.1 z hzc)
          have HRC : Hid (∀ W, Grew wr W → Calls Try.prog 19 #[.slice A l.length cp, .agg #[.int .i64 c, .int .i64 d]] W fun e W' => e = .returned (.int .i64 z) ∧ Grew W W') := hid (fun W hW => rcovered_is A cp l c d W (HRi.out.2.2.2.grew (Grew.trans HGW.out hW)) HRi.out.1 HRi.out.2.2.1 hxlen S HX.out.1 z hzc)
          have HSS : Hid (∀ w', Grew wr w' → w'.cell? ⟨w.heap.size, 0, none⟩ = some (.int .i64 c) ∧ w'.cell? ⟨w.heap.size, 1, none⟩ = some (.int .i64 d)) := hid (fun w' h => HS2.out w' (Grew.trans HW.out h))
          clear hz hzc
          go_wp2_with fail
          generalize w.heap.size = B at *
          go_region_held3 (fun w' => w'.cell? ⟨B, 0, none⟩ = some (.int .i64 c) ∧ w'.cell? ⟨B, 1, none⟩ = some (.int .i64 d))
            (first
              | exact HSS.out _ (Only.drew _)
              | exact HSS.out _ hl
              | exact HSS.out _ hk
              | exact HSS.out _ hj
              | exact HSS.out _ hi
              | exact HSS.out _ hh
              | exact HSS.out _ hf
              | exact HSS.out _ he
              | exact HSS.out _ hd
              | exact HSS.out _ hc
              | exact HSS.out _ hb
              | exact HSS.out _ ha)
            (first
              | (go_at_call 20; have cX := sorted_nil wk; with_reducible refine cX.mono ?_; clear cX; rintro e wl ⟨rfl, hl0⟩; have hl : Grew wr wl := Grew.trans hk hl0)
              | (go_at_call 22; have cX := gaps_nil c d wj; with_reducible refine cX.mono ?_; clear cX; rintro e wk ⟨rfl, hk0⟩; have hk : Grew wr wk := Grew.trans hj hk0)
              | (go_at_call 18; have cX := covered_nil c d wi; with_reducible refine cX.mono ?_; clear cX; rintro e wj ⟨rfl, hj0⟩; have hj : Grew wr wj := Grew.trans hi hj0)
              | (go_at_call 16; have cX := meet_nil2 c d wh; with_reducible refine cX.mono ?_; clear cX; rintro e wi ⟨Ai, ci, rfl, hi0⟩; have hi : Grew wr wi := Grew.trans hh hi0)
              | (go_at_call 12; have cX := find_nil 0 wf; with_reducible refine cX.mono ?_; clear cX; rintro e wh ⟨rfl, hh0⟩; have hh : Grew wr wh := Grew.trans hf hh0)
              | (go_at_call 21; have cX := len_nil wf; with_reducible refine cX.mono ?_; clear cX; rintro e wg ⟨rfl, rfl⟩)
              | (go_at_call 19; have cX := HRC.out we he; with_reducible refine cX.mono ?_; clear cX; rintro e wf ⟨rfl, hf0⟩; have hf : Grew wr wf := Grew.trans he hf0)
              | (go_at_call 18; have cX := HCo.out wd hd; with_reducible refine cX.mono ?_; clear cX; rintro e we ⟨rfl, he0⟩; have he : Grew wr we := Grew.trans hd he0)
              | (go_at_call 15; have cX := equalI_same Ab Ac cb cc zs wc (ib.grew hc0) ic (by omega); with_reducible refine cX.mono ?_; clear cX; rintro e wd ⟨rfl, hd0⟩; have hd : Grew wr wd := Grew.trans hc hd0)
              | (go_at_call 17; have cX := HRM.out wb hb; with_reducible refine cX.mono ?_; clear cX; rintro e wc ⟨Ac, cc, rfl, ic, hc0⟩; have hc : Grew wr wc := Grew.trans hb hc0)
              | (go_at_call 16; have cX := HM.out wa ha; with_reducible refine cX.mono ?_; clear cX; rintro e wb ⟨Ab, cb, rfl, ib, hb0⟩; have hb : Grew wr wb := Grew.trans ha hb0)
              | (go_at_call 10; refine (ialive_at _).mono ?_; rintro e wa ⟨rfl, ha0⟩; have ha : Grew wr wa := Grew.trans (Only.drew _) ha0))
          all_goals
            go_wp2
            go_ret
            exact ⟨rfl, Grew.trans HGW.out hl⟩
end Go.Proofs.Ytgpfhdjedebdfaa
