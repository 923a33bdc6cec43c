/- Contracts of the index and of the reference in the form that the laws use; extent.Contains; the walk of alive. -/
import Derived.Test.YtgpfhdjedebdfaaIx18
namespace Go.Proofs.Ytgpfhdjedebdfaa
open Go.RowKit Go.MapKept Go.Shelf Go.Lib

theorem indexF_nil (A : Option Addr) (c : Nat) (f : Value) (w : World) :
    Calls Try.prog 50 #[.slice A 0 c, f] w fun e w' => e = .returned (.int .i64 (-1)) ∧ Grew w w' := by
  go_enter Try.func50, Try.ntmps50
  go_wp2
  refine wp_loop_rounds 1 ?_
  rw [rounds_succ]
  go_wp2
  go_ret
  exact ⟨rfl, Only.refl _ _⟩
theorem containsF_nil (A : Option Addr) (c : Nat) (f : Value) (w : World) :
    Calls Try.prog 41 #[.slice A 0 c, f] w fun e w' => e = .returned (.bool false) ∧ Grew w w' := by
  go_enter Try.func41, Try.ntmps41
  go_wp2_with (go_at_call 50; refine (indexF_nil _ _ _ _).mono ?_; rintro e w1 ⟨rfl, hg⟩)
  go_ret
  exact ⟨rfl, hg⟩
theorem eg42 (args : Array Value) (w : World) : (callFunc 42 args).run Try.prog w = .ok (.enter 42 args) w := enters_of Try.func42 (by kernel_rfl) rfl args w
theorem containsF_at (B : Nat) (e : Int × Int) (A : Option Addr) (c : Nat) (l : List (Int × Int)) (w : World) (h1 : w.cell? ⟨B, 0, none⟩ = some (.int .i64 e.1)) (h2 : w.cell? ⟨B, 1, none⟩ = some (.int .i64 e.2)) (hl : SlE w A l) (hll : l.length ≤ 9223372036854775807) :
    Calls Try.prog 41 #[.slice A l.length c, .func (.func 42) #[] #[.pointer (some ⟨B, 0, none⟩)]] w fun en w' => en = .returned (.bool (l.any (inE e))) ∧ Grew w w' := by
  rcases Nat.eq_zero_or_pos l.length with h0 | h0
  · obtain rfl := List.eq_nil_of_length_eq_zero h0
    exact (containsF_nil A c _ w).mono fun _ _ ⟨a, b⟩ => ⟨by simpa using a, b⟩
  · obtain ⟨b1, o1, rfl, c1⟩ := hl h0
    have hb : b1 < w.heap.size := World.block_lt_of_cell? w _ (c1 0 h0).1
    have hB : B < w.heap.size := World.block_lt_of_cell? w _ h1
    refine (AnyQ.slices_ContainsFunc Try.laysConF 2 Try.isAgg28 Try.sizeOf28 encE (fun _ => rfl) (inE e) 42 #[.pointer (some ⟨B, 0, none⟩)] eg42 b1 o1 l.length c l w (fun W x hW => ?_) (Nat.le_refl _) hll hb (SlE.encs c1)).mono fun _ _ ⟨a, b⟩ => ⟨?_, Only.of_below b (Nat.le_refl _)⟩
    · refine (contf_at B e x W ?_ ?_).mono fun _ _ ⟨a, b⟩ => ⟨a, ?_⟩
      · rw [hW.cell (p := ⟨B, 0, none⟩) hB]; exact h1
      · rw [hW.cell (p := ⟨B, 1, none⟩) hB]; exact h2
      · exact hW.trans (b.below.mono hW.size)
    · rw [a, List.take_length]
theorem econtains_at (e : Int × Int) (A : Option Addr) (c : Nat) (l : List (Int × Int)) (w : World) (hl : SlE w A l) (hll : l.length ≤ 9223372036854775807) (he : VE e) (hin : ∀ y ∈ l, VE y ∧ e.1 ≤ y.1 ∧ y.1 + y.2 ≤ e.1 + e.2) :
    Calls Try.prog 28 #[.agg #[.int .i64 e.1, .int .i64 e.2], .slice A l.length c] w fun en w' => en = .returned (.bool true) ∧ Grew w w' := by
  have hany : l.any (inE e) = false := by
    rw [List.any_eq_false]
    intro y hy
    obtain ⟨⟨v1, v2, v3⟩, h2, h3⟩ := hin y hy
    obtain ⟨u1, u2, u3⟩ := he
    unfold inE
    rw [wrap_id (by omega) (by omega), wrap_id (by omega) (by omega)]
    simp
    omega
  have HC := hid (containsF_at w.heap.size e A c l (w.alloc (.cells #[.int .i64 e.1, .int .i64 e.2] 28)) (cells2 _ _ _ _).1 (cells2 _ _ _ _).2 (hl.grew (Only.alloc _ _)) hll)
  rw [hany] at HC
  clear hany hl
  go_enter Try.func28, Try.ntmps28
  go_wp2_with (go_at_call 41; have cX := HC.out; with_reducible refine cX.mono ?_; clear cX; rintro e w1 ⟨rfl, hg⟩)
  go_ret
  exact ⟨rfl, Grew.trans (Only.alloc _ _) hg⟩

/-! ### contracts with the results named -/
theorem new_ok (A : Option Addr) (c : Nat) (l : List (Int × Int)) (w : World) (hl : SlE w A l) (hlo : ∀ e ∈ l, okE e) (hll : l.length ≤ 1048576) (hr : RightL l) :
    Calls Try.prog 11 #[.slice A l.length c] w fun e w' => ∃ p S, e = .returned (.pointer (some ⟨p, 0, none⟩)) ∧ S.Perm (ents l) ∧ GoodS S ∧ IsIdx w' p S ∧ Grew w w' :=
  (new_at A c l w hl hlo hll).mono fun _ _ ⟨hg, h⟩ => by
    rcases h with ⟨p, S, h1, h2, h3, h4⟩ | ⟨_, h⟩
    · exact ⟨p, S, h1, h2, h3, h4, hg⟩
    · exact absurd (good_exists hr) h
theorem own_slI {w : World} {base n : Nat} {v : Value} {xs : List Int} (h : w.ownsRow base 3 1 v n (xs.map (Value.int .i64))) : ∃ A c, v = .slice A xs.length c ∧ SlI w A xs := by
  obtain ⟨A, c, rfl, _⟩ := own_form1 h
  have hn : n = xs.length := by have := h.1; simp at this; omega
  subst hn
  exact ⟨A, c, rfl, SlI.of_own h⟩
theorem own_slE {w : World} {base n : Nat} {v : Value} {xs : List (Int × Int)} (h : w.ownsRow base 28 2 v n (cellsE xs)) : ∃ A c, v = .slice A xs.length c ∧ SlE w A xs := by
  obtain ⟨A, c, rfl, _⟩ := own_form1 h
  have hn : n = xs.length := by have := h.1; rw [cellsE_length] at this; omega
  subst hn
  exact ⟨A, c, rfl, SlE.of_own h⟩
theorem meet_is (p : Nat) (S : List Ent) (c d : Int) (w : World) (hI : IsIdx w p S) (hS : GoodS S) (hV : VE (c, d)) (zs : List Int) (hz : (parts (c, d) S).map (·.1) = zs) :
    Calls Try.prog 16 #[.pointer (some ⟨p, 0, none⟩), .agg #[.int .i64 c, .int .i64 d]] w fun e W' => ∃ A k, e = .returned (.slice A zs.length k) ∧ SlI W' A zs ∧ Grew w W' :=
  (meet_at p S c d w hI hS hV).mono fun e W' ⟨v, h1, h2, h3⟩ => by
    have e1 : (parts (c, d) S).map (fun x => Value.int .i64 x.1) = zs.map (Value.int .i64) := by rw [← hz, List.map_map]; rfl
    rw [e1] at h2
    obtain ⟨A, k, rfl, h4⟩ := own_slI h2
    exact ⟨A, k, h1, h4, h3⟩
theorem gaps_is (p : Nat) (S : List Ent) (c d : Int) (w : World) (hI : IsIdx w p S) (hS : GoodS S) (hV : VE (c, d)) (g : List (Int × Int)) (hg : gapsOf (c, d) (parts (c, d) S) = g) :
    Calls Try.prog 22 #[.pointer (some ⟨p, 0, none⟩), .agg #[.int .i64 c, .int .i64 d]] w fun e W' => ∃ A k, e = .returned (.slice A g.length k) ∧ SlE W' A g ∧ Grew w W' :=
  (gaps_at p S c d w hI hS hV g hg).mono fun e W' ⟨v, h1, h2, h3⟩ => by
    obtain ⟨A, k, rfl, h4⟩ := own_slE h2
    exact ⟨A, k, h1, h4, h3⟩
theorem covered_is (p : Nat) (S : List Ent) (c d : Int) (w : World) (hI : IsIdx w p S) (hS : GoodS S) (hV : VE (c, d)) (z : Int) (hz : cw (parts (c, d) S) = z) :
    Calls Try.prog 18 #[.pointer (some ⟨p, 0, none⟩), .agg #[.int .i64 c, .int .i64 d]] w fun e W' => e = .returned (.int .i64 z) ∧ Grew w W' := by
  rw [← hz]
  exact covered_at p S c d w hI hS hV
theorem rmeet_is (A : Option Addr) (cp : Nat) (l : List (Int × Int)) (c d : Int) (w : World) (hl : SlE w A l) (hr : RightL l) (hV : VE (c, d)) (hll : l.length ≤ 1048576) (S : List Ent) (hp : S.Perm (ents l)) (hS : GoodS S) (zs : List Int) (hz : (parts (c, d) S).map (·.1) = zs) :
    Calls Try.prog 17 #[.slice A l.length cp, .agg #[.int .i64 c, .int .i64 d]] w fun e W' => ∃ A k, e = .returned (.slice A zs.length k) ∧ SlI W' A zs ∧ Grew w W' :=
  (rmeet_at A cp l c d w hl (fun e he => (hr.1 e he).1) hV hll).mono fun e W' ⟨v, xs, h1, hM, h2, h3⟩ => by
    rw [meet_list hM hp hS] at h2
    have e1 : (parts (c, d) S).map (fun x => Value.int .i64 x.1) = zs.map (Value.int .i64) := by rw [← hz, List.map_map]; rfl
    rw [e1] at h2
    obtain ⟨A, k, rfl, h4⟩ := own_slI h2
    exact ⟨A, k, h1, h4, h3⟩
theorem rcovered_is (A : Option Addr) (cp : Nat) (l : List (Int × Int)) (c d : Int) (w : World) (hl : SlE w A l) (hr : RightL l) (hV : VE (c, d)) (hll : l.length ≤ 1048576) (S : List Ent) (hp : S.Perm (ents l)) (z : Int) (hz : cw (parts (c, d) S) = z) :
    Calls Try.prog 19 #[.slice A l.length cp, .agg #[.int .i64 c, .int .i64 d]] w fun e W' => e = .returned (.int .i64 z) ∧ Grew w W' := by
  rw [← hz, covered_same hp]
  exact rcovered_at A cp l c d w hl (fun e he => (hr.1 e he).1) hV hll
theorem rgaps_is (A : Option Addr) (cp : Nat) (l : List (Int × Int)) (c d : Int) (w : World) (hl : SlE w A l) (hr : RightL l) (hV : VE (c, d)) (hll : l.length ≤ 1048576) (S : List Ent) (hp : S.Perm (ents l)) (hS : GoodS S) (g : List (Int × Int)) (hg : gapsOf (c, d) (parts (c, d) S) = g) :
    Calls Try.prog 27 #[.slice A l.length cp, .agg #[.int .i64 c, .int .i64 d]] w fun e W' => ∃ A k, e = .returned (.slice A g.length k) ∧ SlE W' A g ∧ Grew w W' :=
  (rgaps_at A cp l c d w hl (fun e he => (hr.1 e he).1) hV hll).mono fun e W' ⟨v, xs, h1, hM, h2, h3⟩ => by
    rw [parts_same hM hp hS, hg] at h2
    obtain ⟨A, k, rfl, h4⟩ := own_slE h2
    exact ⟨A, k, h1, h4, h3⟩
theorem sorted_is (p : Nat) (S : List Ent) (w : World) (hI : IsIdx w p S) :
    Calls Try.prog 20 #[.pointer (some ⟨p, 0, none⟩)] w fun e W' => ∃ A k, e = .returned (.slice A S.length k) ∧ W'.ownsRow w.heap.size 28 2 (.slice A S.length k) S.length (cellsE (S.map (·.1))) ∧ Grew w W' :=
  (sorted_at p S w hI).mono fun e W' ⟨v, h1, h2, h3⟩ => by
    obtain ⟨A, k, rfl, _⟩ := own_form1 h2
    exact ⟨A, k, h1, h2, h3⟩
theorem equalI_same (A B : Option Addr) (c d : Nat) (xs : List Int) (w : World) (hx : SlI w A xs) (hy : SlI w B xs) (h1 : xs.length ≤ 9223372036854775807) :
    Calls Try.prog 15 #[.slice A xs.length c, .slice B xs.length d] w fun e w' => e = .returned (.bool true) ∧ Grew w w' :=
  (equalI_at A B c d xs xs w hx hy h1 h1).mono fun _ _ ⟨a, q, b⟩ => ⟨by simpa using a, b ▸ Only.drewN _ _⟩
theorem equalE_same (A B : Option Addr) (c d : Nat) (xs : List (Int × Int)) (w : World) (hx : SlE w A xs) (hy : SlE w B xs) (h1 : xs.length ≤ 9223372036854775807) :
    Calls Try.prog 24 #[.slice A xs.length c, .slice B xs.length d] w fun e w' => e = .returned (.bool true) ∧ Grew w w' :=
  (equalE_at A B c d xs xs w hx hy h1 h1).mono fun _ _ ⟨a, q, b⟩ => ⟨by simpa using a, b ▸ Only.drewN _ _⟩
theorem IsFind.unique {S : List Ent} (hS : GoodS S) {off u v : Int} (h : IsFind S off u) (k : IsFind S off v) : u = v := by
  rcases h with ⟨x, hx, h1, h2, rfl⟩ | ⟨h1, rfl⟩
  · rcases k with ⟨y, hy, k1, k2, rfl⟩ | ⟨k1, _⟩
    · obtain ⟨i, hi⟩ := List.mem_iff_getElem?.1 hx
      obtain ⟨j, hj⟩ := List.mem_iff_getElem?.1 hy
      rcases Nat.lt_trichotomy i j with h | h | h
      · have := hS.lt hi hj h
        omega
      · subst h
        rw [hi] at hj
        cases hj
        rfl
      · have := hS.lt hj hi h
        omega
    · exact absurd ⟨h1, h2⟩ (k1 x hx)
  · rcases k with ⟨y, hy, k1, k2, _⟩ | ⟨_, rfl⟩
    · exact absurd ⟨k1, k2⟩ (h1 y hy)
    · rfl
theorem find_is (p : Nat) (S : List Ent) (off : Int) (w : World) (hI : IsIdx w p S) (hS : GoodS S) (v : Int) (hv : IsFind S off v) :
    Calls Try.prog 12 #[.pointer (some ⟨p, 0, none⟩), .int .i64 off] w fun e W' => e = .returned (.int .i64 v) ∧ Grew w W' :=
  (find_at p S off w hI hS).mono fun e W' ⟨u, h1, h2, h3⟩ => by
    obtain rfl := IsFind.unique hS h2 hv
    exact ⟨h1, h3⟩

/-! ### the example -/
def L2 : List (Int × Int) := [(5, 3), (0, 2)]
def S2 : List Ent := [((0, 2), 1), ((5, 3), 0)]
theorem permS2 : S2.Perm (ents L2) := List.Perm.swap _ _ []
theorem goodS2 : GoodS S2 := by
  refine ⟨by simp [S2], fun x hx => ?_⟩
  simp [S2] at hx
  rcases hx with rfl | rfl <;> exact ⟨⟨by decide, by decide, by decide⟩, by decide⟩
theorem cellsL2 (w : World) : SlE (w.alloc (.cells #[.int .i64 5, .int .i64 3, .int .i64 0, .int .i64 2] 28)) (some ⟨w.heap.size, 0, none⟩) L2 := by
  refine fun _ => ⟨_, 0, rfl, fun j hj => ?_⟩
  have h := heap_alloc_new w (.cells #[.int .i64 5, .int .i64 3, .int .i64 0, .int .i64 2] 28)
  have hj' : j < 2 := hj
  match j, hj' with
  | 0, _ => exact ⟨cell_of_row _ _ _ _ _ _ h, cell_of_row _ _ _ _ _ _ h⟩
  | 1, _ => exact ⟨cell_of_row _ _ _ _ _ _ h, cell_of_row _ _ _ _ _ _ h⟩
theorem cells_i2 (w : World) (x y : Int) : SlI (w.alloc (.cells #[.int .i64 x, .int .i64 y] 3)) (some ⟨w.heap.size, 0, none⟩) [x, y] := by
  refine fun _ => ⟨_, 0, rfl, fun j hj => ?_⟩
  have h := heap_alloc_new w (.cells #[.int .i64 x, .int .i64 y] 3)
  have hj' : j < 2 := hj
  match j, hj' with
  | 0, _ => exact cell_of_row _ _ _ _ _ _ h
  | 1, _ => exact cell_of_row _ _ _ _ _ _ h
theorem cells_e1 (w : World) (x y : Int) : SlE (w.alloc (.cells #[.int .i64 x, .int .i64 y] 28)) (some ⟨w.heap.size, 0, none⟩) [(x, y)] := by
  refine fun _ => ⟨_, 0, rfl, fun j hj => ?_⟩
  have h := heap_alloc_new w (.cells #[.int .i64 x, .int .i64 y] 28)
  have hj' : j < 1 := hj
  match j, hj' with
  | 0, _ => exact ⟨cell_of_row _ _ _ _ _ _ h, cell_of_row _ _ _ _ _ _ h⟩
theorem okL2 : ∀ e ∈ L2, okE e := by
  intro e he
  simp [L2] at he
  rcases he with rfl | rfl <;> exact ⟨⟨by decide, by decide⟩, ⟨by decide, by decide⟩⟩
theorem partsS2 : parts (1, 5) S2 = [(1, (1, 1)), (0, (5, 1))] := by decide
theorem gapS2 : gapsOf (1, 5) (parts (1, 5) S2) = [(2, 3)] := by rw [partsS2]; simp [gapsOf, gst, gapL, RowKit.wrap64]
theorem cwS2 : cw (parts (1, 5) S2) = 2 := by rw [partsS2]; simp [cw, RowKit.wrap64]
theorem mS2 : (parts (1, 5) S2).map (·.1) = [1, 0] := by decide
theorem v15 : VE (1, 5) := ⟨by decide, by decide, by decide⟩
set_option maxRecDepth 100000 in
set_option maxHeartbeats 1000000 in
theorem ialive_at (w : World) : Calls Try.prog 10 #[] w fun e w' => e = .returned (.bool true) ∧ Grew w w' := by
  have hR : Hid (RightL L2) := hid (right_of_good permS2 goodS2)
  go_enter Try.func10, Try.ntmps10
  go_wp2_with (go_at_call 11; refine (new_ok (some ⟨w.heap.size, 0, none⟩) 2 L2 _ (cellsL2 w) okL2 (by decide) hR.out).mono ?_; rintro e w1 ⟨p, S, rfl, hp, hS, hI, hg1⟩; obtain rfl := good_unique (hp.trans permS2.symm) hS goodS2)
  have H1 := hid (And.intro hI (Grew.trans (Only.alloc (F := fun _ => False) w (.cells #[.int .i64 5, .int .i64 3, .int .i64 0, .int .i64 2] 28)) hg1))
  have hc2 := cells2 w1 (.int .i64 1) (.int .i64 5) 28
  have HGW : Hid (Grew w1 (w1.alloc (.cells #[.int .i64 1, .int .i64 5] 28))) := hid (Only.alloc _ _)
  have HS2 := hid hS
  clear hp hS hI hg1
  have HK : Hid (∀ W', Grew (w1.alloc (.cells #[.int .i64 1, .int .i64 5] 28)) W' → W'.cell? ⟨w1.heap.size, 0, none⟩ = some (.int .i64 1) ∧ W'.cell? ⟨w1.heap.size, 1, none⟩ = some (.int .i64 5)) := hid (fun W' h => ⟨h.cell hc2.1 (fun h => h), h.cell hc2.2 (fun h => h)⟩)
  clear hc2
  obtain ⟨z1, z2⟩ := HK.out _ (Only.refl _ _)
  go_wp2_with (first
    | (go_at_call 21; have cX := len_at p S2 w9 (H1.out.1.grew (Grew.trans HGW.out h9)); with_reducible refine cX.mono ?_; clear cX; rintro e w10 ⟨rfl, rfl⟩)
    | (go_at_call 12; have cX := find_is p S2 6 w8 (H1.out.1.grew (Grew.trans HGW.out h8)) HS2.out 0 (.inl ⟨((5, 3), 0), by simp [S2], by decide, by decide, rfl⟩); with_reducible refine cX.mono ?_; clear cX; rintro e w9 ⟨rfl, hg9⟩; have h9 := Grew.trans h8 hg9; clear hg9)
    | (go_at_call 18; have cX := covered_is p S2 1 5 w7 (H1.out.1.grew (Grew.trans HGW.out h7)) HS2.out v15 2 cwS2; with_reducible refine cX.mono ?_; clear cX; rintro e w8 ⟨rfl, hg8⟩; have h8 := Grew.trans h7 hg8; clear hg8)
    | (go_at_call 24; have cX := equalE_same A6 (some ⟨w6.heap.size, 0, none⟩) c6 1 [(2, 3)] (w6.alloc (.cells #[.int .i64 2, .int .i64 3] 28)) (i6.grew (Only.alloc _ _)) (cells_e1 w6 2 3) (by decide); refine cX.mono ?_; clear cX; rintro e w7 ⟨rfl, hg7⟩; have h7 := Grew.trans h6 (Grew.trans (Only.alloc (F := fun _ => False) w6 (.cells #[.int .i64 2, .int .i64 3] 28)) hg7); clear hg7; obtain ⟨x1, x2⟩ := HK.out _ h7)
    | (go_at_call 22; have cX := gaps_is p S2 1 5 w5 (H1.out.1.grew (Grew.trans HGW.out h5)) HS2.out v15 [(2, 3)] gapS2; with_reducible refine cX.mono ?_; clear cX; rintro e w6 ⟨A6, c6, rfl, i6, hg6⟩; have h6 := Grew.trans h5 hg6; clear hg6)
    | (go_at_call 15; have cX := equalI_same A4 (some ⟨w4.heap.size, 0, none⟩) c4 2 [1, 0] (w4.alloc (.cells #[.int .i64 1, .int .i64 0] 3)) (i4.grew (Only.alloc _ _)) (cells_i2 w4 1 0) (by decide); refine cX.mono ?_; clear cX; rintro e w5 ⟨rfl, hg5⟩; have h5 := Grew.trans h4 (Grew.trans (Only.alloc (F := fun _ => False) w4 (.cells #[.int .i64 1, .int .i64 0] 3)) hg5); clear hg5; obtain ⟨y1, y2⟩ := HK.out _ h5)
    | (go_at_call 16; have cX := meet_is p S2 1 5 _ (H1.out.1.grew HGW.out) HS2.out v15 [1, 0] mS2; with_reducible refine cX.mono ?_; clear cX; rintro e w4 ⟨A4, c4, rfl, i4, h4⟩))
  go_ret
  exact ⟨rfl, Grew.trans H1.out.2 (Grew.trans HGW.out h9)⟩
end Go.Proofs.Ytgpfhdjedebdfaa
