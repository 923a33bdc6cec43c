/- The walk of the law TopoSorted. -/
import Derived.Test.YtlpkolmaklnffaaTSorted
import Derived.Test.YtlpkolmaklnffaaLTOrders
import Derived.BigQuiet
namespace Go.Proofs.Ytlpkolmaklnffaa
open Go.RowKit Go.MapKept

theorem index_is (A : Option Addr) (c : Nat) (xs : List Int) (x : Int) (i : Nat) (w : World) (hx : SlI w A xs) (h1 : xs.length ≤ 9223372036854775807) (hm : x ∈ xs) (hi : xs.idxOf x = i) :
    Calls Try.prog 44 #[.slice A xs.length c, .int .i64 x] w fun e w' => e = .returned (.int .i64 i) ∧ w = w' := by
  have hlt : xs.idxOf x < xs.length := List.idxOf_lt_length_of_mem hm
  obtain ⟨b1, o1, rfl, c1⟩ := hx (by omega)
  refine (Try.slices_Index_int b1 o1 xs.length c xs x w (Nat.le_refl _) h1 (fun j hj => by rw [getD_eq]; exact c1 j hj)).mono fun _ _ ⟨a, b⟩ => ⟨?_, b.symm⟩
  rw [a, Lib.idxOf_hit xs xs.length i x (by omega) (Nat.le_refl _) ?_ ?_]
  · subst hi
    rw [getD_eq, List.getElem?_eq_getElem hlt]
    exact List.getElem_idxOf hlt
  · intro j hj e
    subst hi
    have hj2 : j < xs.findIdx (· == x) := hj
    have h3 := List.not_of_lt_findIdx hj2
    rw [getD_eq, List.getElem?_eq_getElem (by omega), Option.getD_some] at e
    rw [e] at h3
    simp at h3
theorem sorted_is (b N : Nat) (E : List (Int × Int)) (F : Nat → Prop) (A : Option Addr) (c : Nat) (xs : List Int) (w : World) (hG : IsGraph w F b N E) (hx : SlI w A xs) (hxo : ∀ x ∈ xs, okI x) (hxl : xs.length ≤ 9223372036854775807) (hfew : E.length ≤ 1048576) (q : Bool) (hq : decide (IsSorted E N xs) = q) :
    Calls Try.prog 45 #[.pointer (some ⟨b, 0, none⟩), .slice A xs.length c] w fun e w' => e = .returned (.bool q) ∧ Grew w w' := hq ▸ sorted_at b N E F A c xs w hG hx hxo hxl hfew
theorem order_sorted {E : List (Int × Int)} {N : Nat} {o : List Int} (hE : Valid N E) (ho : IsOrder E N [] o) {r : Bool} (hr : decide (restL N [] o = []) = r) : decide (IsSorted E N (ordRes r o)) = r := by
  cases r with
  | false =>
    simp only [decide_eq_false_iff_not] at hr ⊢
    intro hs
    have h0 : (0 : Nat) = N := hs.1
    subst h0
    exact hr (by simp [restL, verts])
  | true =>
    simp only [decide_eq_true_eq] at hr ⊢
    have hall : ∀ v ∈ verts N, v ∈ o := fun v hv => by
      by_cases h : v ∈ o
      · exact h
      · have : v ∈ restL N [] o := mem_rest.2 ⟨mem_verts.1 hv, by simp, h⟩
        rw [hr] at this
        cases this
    refine ⟨?_, hall, fun e he => ?_⟩
    · have h1 := ho.1.length
      have h2 := (verts_nodup N).length_le_of_subset hall
      simp [verts] at h2
      show o.length = N
      omega
    · exact (ho.1.edge he (by simp) (hall _ (mem_verts.2 (hE e he).2.1))).2
def want (q : Bool) (xs : List Int) (L : List Int) (M : List (Int × Int)) : Bool := (q && L.all (fun v => decide (v ∈ xs))) && M.all (fun e => decide (xs.idxOf e.1 < xs.idxOf e.2))
theorem want_v {q : Bool} {xs L : List Int} {v : Int} : want q xs (L ++ [v]) [] = (want q xs L [] && decide (v ∈ xs)) := by simp [want, Bool.and_assoc]
theorem want_e {q : Bool} {xs L : List Int} {M : List (Int × Int)} {e : Int × Int} : want q xs L (M ++ [e]) = (want q xs L M && decide (xs.idxOf e.1 < xs.idxOf e.2)) := by simp [want, Bool.and_assoc]
theorem want_all {q : Bool} {xs : List Int} {N : Nat} {E : List (Int × Int)} (hq : ((xs.length : Int) == (N : Int)) = q) : want q xs (verts N) E = decide (IsSorted E N xs) := by
  subst hq
  rw [Bool.eq_iff_iff, decide_eq_true_eq]
  unfold IsSorted
  simp only [want, Bool.and_eq_true, List.all_eq_true, decide_eq_true_eq, beq_iff_eq]
  constructor
  · rintro ⟨⟨h1, h2⟩, h3⟩
    exact ⟨by omega, h2, h3⟩
  · rintro ⟨h1, h2, h3⟩
    exact ⟨⟨by omega, h2⟩, h3⟩
theorem want_mem {q : Bool} {xs : List Int} {N : Nat} {M : List (Int × Int)} (h : want q xs (verts N) M = true) {v : Int} (hv : 0 ≤ v ∧ v < (N : Int)) : v ∈ xs := by
  simp only [want, Bool.and_eq_true, List.all_eq_true, decide_eq_true_eq] at h
  exact h.1.2 v (mem_verts.2 hv)
set_option maxRecDepth 100000 in
set_option maxHeartbeats 1000000 in
theorem tsorted_big (n : Int) (A : Option Addr) (c m : Nat) (B : Option Addr) (cb k : Nat) (w : World) (h : n < 0 ∨ 30 < n ∨ 150 < m) :
    Calls Try.prog 11 #[.int .i64 n, .slice A m c, .slice B k cb] w fun e w' => e = .returned (.bool true) ∧ Grew w w' := by
  go_enter Try.func11, Try.ntmps11
  go_wp2_with (first
    | (go_at_call 21; refine (make_big n A c m w h).mono ?_; rintro e w1 ⟨rfl, rfl⟩)
    | (go_at_call 39; refine (talive_at w).mono ?_; rintro e w2 ⟨rfl, hg⟩))
  go_ret
  exact ⟨rfl, hg⟩
set_option maxRecDepth 100000 in
set_option maxHeartbeats 1000000 in
theorem tsorted_many (N : Nat) (A : Option Addr) (c : Nat) (l : List (Int × Int)) (B : Option Addr) (cb k : Nat) (w : World) (h1 : N ≤ 30) (hm : l.length ≤ 150) (hl : SlE w A l) (hlo : ∀ e ∈ l, okE e) (hk : 60 < k) :
    Calls Try.prog 11 #[.int .i64 N, .slice A l.length c, .slice B k cb] w fun e w' => e = .returned (.bool true) ∧ Grew w w' := by
  have h6 : decide ((60 : Int) < (k : Int)) = true := by simp; omega
  have HL := hid (And.intro hl hlo)
  clear hl hlo
  go_enter Try.func11, Try.ntmps11
  go_wp2_with (first
    | (go_at_call 21; refine (make_at N A c l w (by omega) (by omega) hm HL.out.1 HL.out.2).mono ?_; rintro e w1 ⟨b, b2, rfl, hG, hR, hg1⟩; have H1 := hid hg1; clear hG hR hg1)
    | (go_at_call 39; refine (talive_at _).mono ?_; rintro e w2 ⟨rfl, hg⟩))
  go_ret
  exact ⟨rfl, Grew.trans H1.out hg⟩
set_option maxRecDepth 100000 in
set_option maxHeartbeats 1000000 in
theorem tsorted_at (N : Nat) (A : Option Addr) (c : Nat) (l : List (Int × Int)) (B : Option Addr) (cb : Nat) (xs : List Int) (w : World) (h1 : N ≤ 30) (hm : l.length ≤ 150) (hl : SlE w A l) (hlo : ∀ e ∈ l, okE e) (hx : SlI w B xs) (hxo : ∀ x ∈ xs, okI x) (hk : xs.length ≤ 60) :
    Calls Try.prog 11 #[.int .i64 N, .slice A l.length c, .slice B xs.length cb] w fun e w' => e = .returned (.bool true) ∧ Grew w w' := by
  have h6 : decide ((60 : Int) < (xs.length : Int)) = false := by simp; omega
  obtain ⟨q, hq⟩ : ∃ q : Bool, ((xs.length : Int) == (N : Int)) = q := ⟨_, rfl⟩
  have HL := hid (And.intro hl (And.intro hlo (And.intro hx (And.intro hxo hq))))
  clear hl hlo hx hxo
  go_enter Try.func11, Try.ntmps11
  go_wp2_with (go_at_call 21; refine (make_small N A c l w h1 hm HL.out.1 HL.out.2.1).mono ?_; rintro e w1 ⟨b, b2, E, rfl, hG, hR, hE1, hE2, hE3, hg⟩)
  have H1 := hid (And.intro hG (And.intro hR (And.intro hE2 (And.intro (HL.out.2.2.1.grew hg) hg))))
  clear hG hR hg hE2 hE3
  go_loopw [9, 36] (fun t i wr => ∃ k : Nat, k ≤ N ∧ i = .int .i64 k ∧ t = .bool (want q xs ((verts N).take k) []) ∧ wr = w1) (fun _ i _ => N - (intOf i).toNat)
  case atStart => exact ⟨0, Nat.zero_le _, rfl, by simp [want], rfl⟩
  case round =>
    obtain ⟨k, hkN, rfl, rfl, rfl⟩ := hrel
    by_cases hlt : k < N
    · have hb0 : (k : Int) < (N : Int) := by omega
      have HT : Hid (want q xs ((verts N).take (k + 1)) [] = (want q xs ((verts N).take k) [] && decide ((k : Int) ∈ xs))) := hid (by rw [verts_take_succ N k hlt, want_v])
      generalize want q xs ((verts N).take k) [] = p at *
      obtain ⟨r, hr⟩ : ∃ r : Bool, decide ((k : Int) ∈ xs) = r := ⟨_, rfl⟩
      have HR := hid hr
      clear hr
      cases p
      · go_wp2
        go_roundw
        case rel => exact ⟨k + 1, by omega, by go_num, by rw [HT.out]; rfl, trivial⟩
        case measure => simp [intOf]; omega
      · go_wp2_with (go_at_call 33; refine (contains_is B cb xs k _ r HR.out H1.out.2.2.2.1 (by omega)).mono ?_; rintro e w3 ⟨rfl, rfl⟩)
        go_roundw
        case rel => exact ⟨k + 1, by omega, by go_num, by rw [HT.out, HR.out]; cases r <;> rfl, trivial⟩
        case measure => simp [intOf]; omega
    · obtain rfl : k = N := by omega
      rw [List.take_of_length_le (by simp [verts])]
      obtain ⟨A', c', g⟩ := H1.out.2.1
      have k1 := cell_of_row _ _ 1 _ _ _ g.blk
      simp at k1
      have HSL := hid g.sl
      clear g
      obtain ⟨wo, rfl⟩ : ∃ wo : World, wo = wr := ⟨_, rfl⟩
      have HW : Hid ((want q xs (verts k) []) = want q xs (verts k) (E.take 0)) := hid rfl
      generalize want q xs (verts k) [] = p0 at *
      go_wp2_with fail
      go_loopw [9, 51] (fun t i wr => ∃ m : Nat, m ≤ E.length ∧ i = .int .i64 m ∧ t = .bool (want q xs (verts k) (E.take m)) ∧ Grew wo wr) (fun _ i _ => E.length - (intOf i).toNat)
      case atStart => exact ⟨0, Nat.zero_le _, rfl, by rw [HW.out], Only.refl _ _⟩
      case round =>
        obtain ⟨m, hmE, rfl, rfl, hO⟩ := hrel
        have hsl := HSL.out.grew hO
        have HO := hid hO
        clear hO
        by_cases hlt2 : m < E.length
        · obtain ⟨bl, off, rfl, hcell⟩ := hsl (by omega)
          obtain ⟨g1, g2⟩ := hcell m hlt2
          obtain ⟨⟨u, x⟩, hux⟩ : ∃ p, E[m]? = some p := ⟨E[m], by simp [hlt2]⟩
          simp only [hux, Option.getD_some] at g1 g2
          have hval := H1.out.2.2.1 _ (List.mem_of_getElem? hux)
          have HT : Hid (want q xs (verts k) (E.take (m + 1)) = (want q xs (verts k) (E.take m) && decide (xs.idxOf u < xs.idxOf x))) := hid (by rw [List.take_add_one, hux]; exact want_e)
          have HMEM : Hid (want q xs (verts k) (E.take m) = true → u ∈ xs ∧ x ∈ xs) := hid (fun h => ⟨want_mem h hval.1, want_mem h hval.2.1⟩)
          have hb1 : (m : Int) < (E.length : Int) := by omega
          have c0 : (wr.alloc (.cells #[.int .i64 u, .int .i64 x] 39)).cell? ⟨wr.heap.size, 0, none⟩ = some (.int .i64 u) := cell_of_row _ _ 0 _ _ _ (heap_alloc_new wr _)
          have c1 : (wr.alloc (.cells #[.int .i64 u, .int .i64 x] 39)).cell? ⟨wr.heap.size, 1, none⟩ = some (.int .i64 x) := cell_of_row _ _ 1 _ _ _ (heap_alloc_new wr _)
          have HS : Hid (∀ nq, SlI ((wr.alloc (.cells #[.int .i64 u, .int .i64 x] 39)).drewN nq) B xs ∧ Grew wo ((wr.alloc (.cells #[.int .i64 u, .int .i64 x] 39)).drewN nq)) := hid (fun nq => by
            have hgr : Grew wo ((wr.alloc (.cells #[.int .i64 u, .int .i64 x] 39)).drewN nq) := Grew.trans HO.out (Grew.trans (Only.alloc _ _) (Only.drewN _ _))
            exact ⟨H1.out.2.2.2.1.grew hgr, hgr⟩)
          clear hcell hsl hux hval
          generalize want q xs (verts k) (E.take m) = p at *
          go_wp2_with fail
          cases p
          · go_quiet (fail)
            go_wp2
            go_roundw
            case rel => exact ⟨m + 1, by omega, by go_num, by rw [HT.out]; rfl, (HS.out _).2⟩
            case measure => simp [intOf]; omega
          · obtain ⟨i, hi⟩ : ∃ i, xs.idxOf u = i := ⟨_, rfl⟩
            obtain ⟨j, hj⟩ : ∃ j, xs.idxOf x = j := ⟨_, rfl⟩
            have HIJ := hid (And.intro hi hj)
            clear hi hj
            go_quiet ((go_at_call 44; (first
              | with_reducible exact quiet_left (index_is B cb xs u i _ (HS.out _).1 (by omega) (HMEM.out rfl).1 HIJ.out.1)
              | with_reducible exact quiet_add_left (index_is B cb xs u i _ (HS.out _).1 (by omega) (HMEM.out rfl).1 HIJ.out.1)
              | with_reducible exact quiet_left (index_is B cb xs x j _ (HS.out _).1 (by omega) (HMEM.out rfl).2 HIJ.out.2)
              | with_reducible exact quiet_add_left (index_is B cb xs x j _ (HS.out _).1 (by omega) (HMEM.out rfl).2 HIJ.out.2))))
            go_wp2
            go_roundw
            case rel => exact ⟨m + 1, by omega, by go_num, by rw [HT.out, HIJ.out.1, HIJ.out.2, Bool.true_and], (HS.out _).2⟩
            case measure => simp [intOf]; omega
        · obtain rfl : m = E.length := by omega
          rw [List.take_length, want_all HL.out.2.2.2.2]
          obtain ⟨s, hs⟩ : ∃ s : Bool, decide (IsSorted E k xs) = s := ⟨_, rfl⟩
          have HS := hid hs
          rw [hs]
          clear hs hsl
          obtain ⟨o, ho⟩ := order_ex E k []
          obtain ⟨r, hr⟩ : ∃ r : Bool, decide (restL k [] o = []) = r := ⟨_, rfl⟩
          have hol := ho.1.length
          have HO2 := hid (And.intro ho (And.intro hr (order_sorted H1.out.2.2.1 ho hr)))
          have hok : Hid (∀ x ∈ ordRes r o, okI x) := hid (fun x hx => by
            unfold ordRes at hx
            split at hx
            · have := (ho.1.nodup.2 x hx).1
              exact ⟨by omega, by omega⟩
            · cases hx)
          have hlen : (ordRes r o).length ≤ 30 := by
            unfold ordRes
            split
            · omega
            · simp
          have hz : r = false → ((k : Int) == 0) = false := fun h => by
            subst h
            have : ¬ (k = 0) := fun hk0 => by
              subst hk0
              simp [restL, verts] at hr
            simp
            omega
          clear ho hr
          go_wp2_with (go_at_call 40; have cX := order0 b k E _ wr (H1.out.1.grew HO.out) (by omega) o HO2.out.1 r HO2.out.2.1; with_reducible refine cX.mono ?_; clear cX; rintro e w4 ⟨A4, c4, rfl, hi4, _, hg4⟩)
          have H4 := hid (And.intro hi4 (Grew.trans HO.out hg4))
          clear hi4 hg4
          generalize ordRes r o = L at *
          cases r
          all_goals
            try have hz' := hz rfl
            clear hz
            cases s
          all_goals
            go_wp2_with (first
              | (go_at_call 39; refine (talive_at w4).mono ?_; rintro e w5 ⟨rfl, hg5⟩; have H5 := hid (Grew.trans H4.out.2 hg5); have H5' := hid hg5; clear hg5)
              | (go_at_call 45; have cX := sorted_is b k E _ B cb xs w5 (H1.out.1.grew H5.out) (H1.out.2.2.2.1.grew H5.out) HL.out.2.2.2.1 (by omega) (by omega) _ HS.out; with_reducible refine cX.mono ?_; clear cX; rintro e w6 ⟨rfl, hg6⟩; have H6 := hid (And.intro (Grew.trans H5.out hg6) (Grew.trans H5'.out hg6)); clear hg6)
              | (go_at_call 45; have cX := sorted_is b k E _ A4 c4 L w6 (H1.out.1.grew H6.out.1) (H4.out.1.grew H6.out.2) hok.out (by omega) (by omega) _ HO2.out.2.2; with_reducible refine cX.mono ?_; clear cX; rintro e w7 ⟨rfl, hg7⟩))
            go_ret
            exact ⟨rfl, Grew.trans H1.out.2.2.2.2 (Grew.trans H6.out.1 hg7)⟩
end Go.Proofs.Ytlpkolmaklnffaa
