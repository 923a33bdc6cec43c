/- The walk of the law DigraphNil. -/
import Derived.Test.YtlpkolmaklnffaaLawWithout
namespace Go.Proofs.Ytlpkolmaklnffaa
open Go.RowKit Go.MapKept

/-- A slice of ints, whatever they are, in a block from base on and below top. -/
def AllInts (w : World) (base top : Nat) (v : Value) : Prop := ∃ A n c, v = .slice A n c ∧ n ≤ 9223372036854775807 ∧
  (0 < n → ∃ g cur t, A = some ⟨g, 0, none⟩ ∧ base ≤ g ∧ g < top ∧ w.heap[g]? = some (.cells cur t (0, 0)) ∧ n ≤ cur.size ∧ ∀ j, j < n → ∃ x, cur[j]? = some (.int .i64 x))
theorem AllInts.of_new {w w' : World} {v : Value} {xs : List Int} (h : NewInts w w' v xs) : AllInts w' w.heap.size w'.heap.size v := by
  have hl : xs.length = xs.length := rfl
  rcases h.2 with ⟨rfl, hz⟩ | ⟨g, cap, cur, rfl, hb, hg, h1, h2, h3, h4⟩
  · exact ⟨none, 0, 0, rfl, by omega, fun h => by omega⟩
  · unfold maxLen at h2
    refine ⟨_, _, _, rfl, by omega, fun _ => ⟨g, cur, _, rfl, hb, (Array.getElem?_eq_some_iff.1 hg).1, hg, by omega, fun j hj => ⟨xs[j], ?_⟩⟩⟩
    have e : (cur.toList.take (xs.length * 1))[j]? = some (.int .i64 xs[j]) := by rw [h4]; simp [hj]
    rw [List.getElem?_take, if_pos (by omega)] at e
    simpa using e
theorem AllInts.only {F : Nat → Prop} {w w' : World} {base top : Nat} {v : Value} (h : AllInts w base top v) (k : Only F w w') (hn : ∀ i, base ≤ i → i < top → ¬ F i) : AllInts w' base top v := by
  obtain ⟨A, n, c, rfl, hl, r⟩ := h
  refine ⟨A, n, c, rfl, hl, fun hp => ?_⟩
  obtain ⟨g, cur, t, rfl, h1, h2, h3, h4⟩ := r hp
  exact ⟨g, cur, t, rfl, h1, h2, k.heap h3 (hn g h1 h2), h4⟩
theorem AllInts.mono {w : World} {base base' top top' : Nat} {v : Value} (h : AllInts w base top v) (h1 : base' ≤ base) (h2 : top ≤ top') : AllInts w base' top' v := by
  obtain ⟨A, n, c, rfl, hl, r⟩ := h
  refine ⟨A, n, c, rfl, hl, fun hp => ?_⟩
  obtain ⟨g, cur, t, rfl, a1, a2, r'⟩ := r hp
  exact ⟨g, cur, t, rfl, by omega, by omega, r'⟩
theorem AllInts.set {w : World} {base top : Nat} {v : Value} (h : AllInts w base top v) (g j : Nat) (y : Int) : AllInts (w.setCell ⟨g, j, none⟩ (.int .i64 y)) base top v := by
  obtain ⟨A, n, c, rfl, hl, r⟩ := h
  refine ⟨A, n, c, rfl, hl, fun hp => ?_⟩
  obtain ⟨g', cur, t, rfl, h1, h2, h3, h4, h5⟩ := r hp
  by_cases e : g' = g
  · subst e
    refine ⟨g', cur.setIfInBounds j (.int .i64 y), t, rfl, h1, h2, by simp [World.setCell, Array.getElem?_modify, h3], by simpa using h4, fun i hi => ?_⟩
    by_cases hij : j = i
    · subst hij
      exact ⟨y, by rw [Array.getElem?_setIfInBounds]; simp; omega⟩
    · obtain ⟨x, hx⟩ := h5 i hi
      exact ⟨x, by rw [Array.getElem?_setIfInBounds, if_neg hij]; exact hx⟩
  · exact ⟨g', cur, t, rfl, h1, h2, (Below.heap_setCell _ _ _ _ e).trans h3, h4, h5⟩
/-- The three slices in block bb. -/
def Trip (w : World) (base bb : Nat) : Prop := ∀ j, j < 3 → ∃ A n c, w.cell? ⟨bb, j, none⟩ = some (.slice A n c) ∧ AllInts w base bb (.slice A n c)
theorem Trip.only {F : Nat → Prop} {w w' : World} {base bb : Nat} (h : Trip w base bb) (k : Only F w w') (hn : ∀ i, base ≤ i → i ≤ bb → ¬ F i) (hb : base ≤ bb) : Trip w' base bb := fun j hj => by
  obtain ⟨A, n, c, h1, h2⟩ := h j hj
  exact ⟨A, n, c, k.cell h1 (hn bb hb (Nat.le_refl _)), h2.only k (fun i a b => hn i a (by omega))⟩
theorem Trip.set {w : World} {base bb : Nat} (h : Trip w base bb) (g j : Nat) (hg : g < bb) (y : Int) : Trip (w.setCell ⟨g, j, none⟩ (.int .i64 y)) base bb := fun i hi => by
  obtain ⟨A, n, c, h1, h2⟩ := h i hi
  exact ⟨A, n, c, (Only.setCell (F := fun k => k = g) w (p := ⟨g, j, none⟩) rfl _).cell h1 (by show ¬ bb = g; omega), h2.set g j y⟩
theorem Trip.made (w : World) (base : Nat) (A1 A2 A3 : Option Addr) (n1 n2 n3 c1 c2 c3 : Nat) (h1 : AllInts w base w.heap.size (.slice A1 n1 c1)) (h2 : AllInts w base w.heap.size (.slice A2 n2 c2)) (h3 : AllInts w base w.heap.size (.slice A3 n3 c3)) :
    Trip (w.alloc (.cells #[.slice A1 n1 c1, .slice A2 n2 c2, .slice A3 n3 c3] 29)) base w.heap.size := fun j hj => by
  have hb := heap_alloc_new w (.cells #[.slice A1 n1 c1, .slice A2 n2 c2, .slice A3 n3 c3] 29)
  have k : Only (fun _ => False) w (w.alloc (.cells #[.slice A1 n1 c1, .slice A2 n2 c2, .slice A3 n3 c3] 29)) := Only.alloc _ _
  match j, hj with
  | 0, _ => exact ⟨_, _, _, cell_of_row _ _ _ _ _ _ hb, h1.only k (fun _ _ _ h => h)⟩
  | 1, _ => exact ⟨_, _, _, cell_of_row _ _ _ _ _ _ hb, h2.only k (fun _ _ _ h => h)⟩
  | 2, _ => exact ⟨_, _, _, cell_of_row _ _ _ _ _ _ hb, h3.only k (fun _ _ _ h => h)⟩
set_option maxRecDepth 100000 in
set_option maxHeartbeats 1000000 in
theorem add_nil (A : Option Addr) (c : Nat) (l : List (Int × Int)) (w : World) (hl : SlE w A l) (hm : l.length ≤ 1048576) :
    Calls Try.prog 28 #[.pointer none, .slice A l.length c] w fun e w' => e = .returned (.int .i64 0) ∧ Grew w w' := by
  go_enter Try.func28, Try.ntmps28
  go_wp2
  go_loopw [5, 10] (fun s i wr => ∃ k : Nat, k ≤ l.length ∧ i = .int .i64 k ∧ s = .int .i64 0 ∧ Grew w wr) (fun _ i _ => l.length - (intOf i).toNat)
  case atStart => exact ⟨0, Nat.zero_le _, rfl, rfl, Only.refl _ _⟩
  case round =>
    obtain ⟨k, hk, rfl, rfl, hO⟩ := hrel
    by_cases hlt : k < l.length
    · obtain ⟨bl, off, rfl, hcell⟩ := (hl.grew hO) (by omega)
      obtain ⟨h1, h2⟩ := hcell k hlt
      generalize (l[k]?.getD (0, 0)).1 = u at h1
      generalize (l[k]?.getD (0, 0)).2 = x at h2
      have hb0 : (k : Int) < (l.length : Int) := by omega
      have HO := hid hO
      clear hcell hl hO
      go_wp2_with fail
      have c0 : (wr.alloc (.cells #[.int .i64 u, .int .i64 x] 41)).cell? ⟨wr.heap.size, 0, none⟩ = some (.int .i64 u) := cell_of_row _ _ 0 _ _ _ (heap_alloc_new wr _)
      have hW : Hid (Grew w (wr.alloc (.cells #[.int .i64 u, .int .i64 x] 41))) := hid (Grew.trans HO.out (Only.alloc _ _))
      generalize wr.heap.size = B at *
      generalize wr.alloc (.cells #[.int .i64 u, .int .i64 x] 41) = W at *
      clear h1 h2
      go_quiet ((go_at_call 68; exact quiet_left (vertex_nil u _)))
      go_wp2
      go_roundw
      case rel => exact ⟨k + 1, by omega, by go_num, rfl, Grew.trans hW.out (Only.drewN _ _)⟩
      case measure => simp [intOf]; omega
    · obtain rfl : k = l.length := by omega
      clear hl
      go_wp2
      go_ret
      exact ⟨rfl, hO⟩
set_option maxRecDepth 100000 in
theorem reach_nil (v : Int) (w : World) : Calls Try.prog 24 #[.pointer none, .int .i64 v] w fun e w' => e = .returned (.slice none 0 0) ∧ w = w' := by
  go_enter Try.func24, Try.ntmps24
  go_wp2_with fail
  go_step3
  go_wp2_with fail
  rw [Exit.noGoto_ret]
  go_ret
  exact ⟨rfl, rfl⟩
set_option maxRecDepth 100000 in
set_option maxHeartbeats 1000000 in
theorem lawnil_big (n : Int) (A : Option Addr) (c m : Nat) (w : World) (h : n < 0 ∨ 30 < n ∨ 150 < m) :
    Calls Try.prog 8 #[.int .i64 n, .slice A m c] w fun e w' => e = .returned (.bool true) ∧ Grew w w' := by
  go_enter Try.func8, Try.ntmps8
  go_wp2_with (first
    | (go_at_call 21; refine (make_big n A c m w h).mono ?_; rintro e w1 ⟨rfl, rfl⟩)
    | (go_at_call 22; refine (alive_at w).mono ?_; rintro e w2 ⟨rfl, hg⟩))
  go_ret
  exact ⟨rfl, hg⟩
set_option maxRecDepth 100000 in
set_option maxHeartbeats 2000000 in
theorem lawnil_at (N : Nat) (A : Option Addr) (c : Nat) (l : List (Int × Int)) (w : World) (h1 : N ≤ 30) (hm : l.length ≤ 150) (hl : SlE w A l) (hlo : ∀ e ∈ l, okE e) :
    Calls Try.prog 8 #[.int .i64 N, .slice A l.length c] w fun e w' => e = .returned (.bool true) ∧ Grew w w' := by
  have HE := hid (addAll_length (N : Int) [] l)
  have HL := hid (And.intro hl hlo)
  clear hl hlo
  go_enter Try.func8, Try.ntmps8
  go_wp2_with (go_at_call 21; refine (make_at N A c l w (by omega) (by omega) hm HL.out.1 HL.out.2).mono ?_; rintro e w1 ⟨b, b2, rfl, hG, hR, hg⟩)
  generalize hEE : addAll (N : Int) [] l = E at *
  have hfew : E.length ≤ 1048576 := by have := HE.out.2; simp at this; omega
  have H1 := hid (And.intro hG (And.intro hR (And.intro hg hfew)))
  clear hG hR hg hEE hfew
  go_wp2_with fail
  go_loopw [24] (fun i wr => ∃ k : Nat, k ≤ N ∧ i = .int .i64 k ∧ Only (fun i => w1.heap.size ≤ i) w1 wr) (fun i _ => N - (intOf i).toNat)
  case atStart => exact ⟨0, by omega, rfl, Only.refl _ _⟩
  case round =>
    obtain ⟨k, hk, rfl, hO⟩ := hrel
    have HO := hid hO
    have hOs := hO.size
    clear hO
    obtain ⟨wo, rfl⟩ : ∃ wo : World, wo = wr := ⟨_, rfl⟩
    have hGw := H1.out.1.grew (Fresh.grew HO.out)
    have HG := hid hGw
    clear hGw
    by_cases hlt : k < N
    · have hb0 : (k : Int) < (N : Int) := by omega
      have hok : okI (k : Int) := ⟨by omega, by omega⟩
      have HK := hid hok
      clear hok
      go_wp2_with (go_at_call 26; refine (out_at b N k E _ wo HG.out HK.out (by have := H1.out.2.2.2; omega)).mono ?_; rintro e w2 ⟨r1, rfl, hn1, hg2⟩; obtain ⟨A1, n1, c1, rfl, ha1⟩ : ∃ A1 n1 c1, r1 = .slice A1 n1 c1 ∧ AllInts w2 wo.heap.size w2.heap.size (.slice A1 n1 c1) := by (have h := AllInts.of_new hn1; obtain ⟨A1, n1, c1, e1, r⟩ := h; exact ⟨A1, n1, c1, e1, A1, n1, c1, rfl, r⟩))
      have H2 := hid (And.intro ha1 (And.intro hg2 hg2.size))
      clear hn1 ha1 hg2
      go_wp2_with (go_at_call 34; refine (in_at b N k E _ w2 (HG.out.grew H2.out.2.1) HK.out (by have := H1.out.2.2.2; omega)).mono ?_; rintro e w3 ⟨r2, rfl, hn2, hg3⟩; obtain ⟨A2, n2, c2, rfl, ha2⟩ : ∃ A1 n1 c1, r2 = .slice A1 n1 c1 ∧ AllInts w3 w2.heap.size w3.heap.size (.slice A1 n1 c1) := by (have h := AllInts.of_new hn2; obtain ⟨A1, n1, c1, e1, r⟩ := h; exact ⟨A1, n1, c1, e1, A1, n1, c1, rfl, r⟩))
      have H3 := hid (And.intro ha2 (And.intro hg3 hg3.size))
      clear hn2 ha2 hg3
      go_wp2_with (go_at_call 24; refine (reach_at b N k E _ w3 ((HG.out.grew H2.out.2.1).grew H3.out.2.1) HK.out H1.out.2.2.2).mono ?_; rintro e w4 ⟨r3, xs3, rfl, hn3, _, hg4⟩; obtain ⟨A3, n3, c3, rfl, ha3⟩ : ∃ A1 n1 c1, r3 = .slice A1 n1 c1 ∧ AllInts w4 w3.heap.size w4.heap.size (.slice A1 n1 c1) := by (have h := AllInts.of_new hn3; obtain ⟨A1, n1, c1, e1, r⟩ := h; exact ⟨A1, n1, c1, e1, A1, n1, c1, rfl, r⟩))
      have H4 := hid (And.intro ha3 (And.intro hg4 hg4.size))
      clear hn3 ha3 hg4
      have HT : Hid (Trip (w4.alloc (.cells #[.slice A1 n1 c1, .slice A2 n2 c2, .slice A3 n3 c3] 29)) w1.heap.size w4.heap.size) := hid (by
        have a1 := H2.out.2.2
        have a2 := H3.out.2.2
        have a3 := H4.out.2.2
        exact Trip.made w4 _ _ _ _ _ _ _ _ _ _ (((H2.out.1.only H3.out.2.1 (fun _ _ _ h => h)).only H4.out.2.1 (fun _ _ _ h => h)).mono hOs (by omega)) ((H3.out.1.only H4.out.2.1 (fun _ _ _ h => h)).mono (by omega) (by omega)) (H4.out.1.mono (by omega) (Nat.le_refl _)))
      have HO4 : Hid (Only (fun i => w1.heap.size ≤ i) w1 (w4.alloc (.cells #[.slice A1 n1 c1, .slice A2 n2 c2, .slice A3 n3 c3] 29))) := hid (HO.out.trans (Grew.to (F := fun i => w1.heap.size ≤ i) (Grew.trans H2.out.2.1 (Grew.trans H3.out.2.1 (Grew.trans H4.out.2.1 (Only.alloc _ _))))) (fun _ _ h => h))
      have hbase : w1.heap.size ≤ w4.heap.size := by have a1 := H2.out.2.2; have a2 := H3.out.2.2; have a3 := H4.out.2.2; omega
      go_wp2_with fail
      generalize w4.heap.size = bb at *
      generalize w4.alloc (.cells #[.slice A1 n1 c1, .slice A2 n2 c2, .slice A3 n3 c3] 29) = w5 at *
      go_loopw [38] (fun i wr => ∃ j : Nat, j ≤ 3 ∧ i = .int .i64 j ∧ Trip wr w1.heap.size bb ∧ Only (fun i => w1.heap.size ≤ i) w1 wr) (fun i _ => 3 - (intOf i).toNat)
      case atStart => exact ⟨0, by omega, rfl, HT.out, HO4.out⟩
      case round =>
        obtain ⟨j, hj, rfl, hT, hO⟩ := hrel
        obtain ⟨wq, rfl⟩ : ∃ wq : World, wq = wr := ⟨_, rfl⟩
        have HQ := hid (And.intro hT hO)
        clear hT hO
        by_cases hjl : j < 3
        · obtain ⟨Aj, nj, cj, hcj, haj⟩ := HQ.out.1 j hjl
          have hb1 : (j : Int) < 3 := by omega
          obtain ⟨A', n', c', e1, hnl, har⟩ := haj
          obtain ⟨rfl, rfl, rfl⟩ : Aj = A' ∧ nj = n' ∧ cj = c' := by simpa using e1
          have HR := hid har
          clear e1 har
          go_wp2_with fail
          go_loopw [44] (fun i wr => ∃ m : Nat, m ≤ nj ∧ i = .int .i64 m ∧ Trip wr w1.heap.size bb ∧ AllInts wr w1.heap.size bb (.slice Aj nj cj) ∧ Only (fun i => w1.heap.size ≤ i) w1 wr) (fun i _ => nj - (intOf i).toNat)
          case atStart => exact ⟨0, by omega, rfl, HQ.out.1, ⟨_, _, _, rfl, hnl, HR.out⟩, HQ.out.2⟩
          case round =>
            obtain ⟨m, hm', rfl, hT, ha, hO⟩ := hrel
            by_cases hml : m < nj
            · obtain ⟨A', n', c', e1, _, har⟩ := ha
              obtain ⟨rfl, rfl, rfl⟩ : Aj = A' ∧ nj = n' ∧ cj = c' := by simpa using e1
              obtain ⟨g, cur, t, rfl, g1, g2, g3, g4, g5⟩ := har (by omega)
              obtain ⟨y, hy⟩ := g5 m hml
              have hcell : wr.cell? ⟨g, m, none⟩ = some (.int .i64 y) := by
                have hlt' := (Array.getElem?_eq_some_iff.1 hy).1
                have := cell_of_row wr g m cur t (0, 0) g3
                rw [this]
                exact hy
              have hfz : wr.frozen? ⟨g, m, none⟩ = false := by simp [World.frozen?, g3]
              have hb2 : (m : Int) < (nj : Int) := by omega
              have HX := hid (And.intro hT (And.intro hO g3))
              have HA : Hid (AllInts wr w1.heap.size bb (.slice (some ⟨g, 0, none⟩) nj cj)) := hid ⟨_, _, _, rfl, hnl, har⟩
              clear e1 har g3 g4 g5 hy hT hO
              go_wp2
              go_roundw
              case rel => exact ⟨m + 1, by omega, by go_num, HX.out.1.set g m g2 _, HA.out.set g m _, HX.out.2.1.trans (Only.setCell (F := fun i => w1.heap.size ≤ i) _ (p := ⟨g, m, none⟩) g1 _) (fun _ _ h => h)⟩
              case measure => simp [intOf]; omega
            · obtain rfl : m = nj := by omega
              have HX := hid (And.intro hT hO)
              clear hT hO ha
              go_wp2
              go_roundw
              case rel => exact ⟨j + 1, by omega, by go_num, HX.out.1, HX.out.2⟩
              case measure => simp [intOf]; omega
        · obtain rfl : j = 3 := by omega
          go_wp2
          go_roundw
          case rel => exact ⟨k + 1, by omega, by go_num, HQ.out.2⟩
          case measure => simp [intOf]; omega
    · obtain rfl : k = N := by omega
      have HOf := hid (Fresh.grew HO.out)
      clear HE
      go_wp2_with (go_at_call 22; refine (alive_at wo).mono ?_; rintro e w2 ⟨rfl, hg2⟩)
      have H2 := hid hg2
      clear hg2
      have cS := same_at b b2 k E E _ _ w2 (HG.out.grew H2.out) ((H1.out.2.1.grew HOf.out).grew H2.out) (fun _ => Iff.rfl) rfl (by omega) H1.out.2.2.2
      go_wp2_with (go_at_call 32; with_reducible refine cS.mono ?_; clear cS; rintro e w3 ⟨rfl, hg3⟩)
      have H3 := hid hg3
      clear hg3
      go_wp2_with (go_at_call 28; refine (add_nil _ 1 [(0, 1)] _ (sl_one' (heap_alloc_new w3 _)) (by simp)).mono ?_; rintro e w4 ⟨rfl, hg4⟩)
      have H4 := hid (Grew.trans (Only.alloc (F := fun _ => False) w3 (.cells #[.int .i64 0, .int .i64 1] 41)) hg4)
      clear hg4
      go_wp2_with (first
        | (go_at_call 37; refine (len_nil w4).mono ?_; rintro e w5 ⟨rfl, rfl⟩)
        | (go_at_call 38; refine (size_nil w4).mono ?_; rintro e w5 ⟨rfl, rfl⟩)
        | (go_at_call 30; refine (has_nil 0 0 w4).mono ?_; rintro e w5 ⟨rfl, hg5⟩))
      have H5 := hid hg5
      clear hg5
      go_wp2_with (first
        | (go_at_call 26; refine (out_nil 0 w5).mono ?_; rintro e w6 ⟨rfl, rfl⟩)
        | (go_at_call 34; refine (in_nil 0 w5).mono ?_; rintro e w6 ⟨rfl, rfl⟩)
        | (go_at_call 24; refine (reach_nil 0 w5).mono ?_; rintro e w6 ⟨rfl, rfl⟩)
        | (go_at_call 35; refine (without_nil _ 1 1 _).mono ?_; rintro e w6 ⟨rfl, rfl⟩))
      go_ret
      exact ⟨rfl, Grew.trans H1.out.2.2.1 (Grew.trans HOf.out (Grew.trans H2.out (Grew.trans H3.out (Grew.trans H4.out (Grew.trans H5.out (Only.alloc _ _))))))⟩
end Go.Proofs.Ytlpkolmaklnffaa
