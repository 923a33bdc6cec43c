/- slices.Reverse at extents, extent.Total, extent.Contains. -/
import Derived.Test.YtgpfhdjedebdfaaIx17
namespace Go.Proofs.Ytgpfhdjedebdfaa
open Go.RowKit Go.MapKept Go.Shelf Go.Lib

theorem cellsE_length (E : List (Int × Int)) : (cellsE E).length = E.length * 2 := by
  unfold cellsE
  induction E with
  | nil => rfl
  | cons e r ih => simp [ih]; omega
theorem cellsE_get (E : List (Int × Int)) (j : Nat) : (cellsE E)[j]? = (E[j / 2]?).map fun e => if j % 2 = 0 then .int .i64 e.1 else .int .i64 e.2 := by
  unfold cellsE
  induction E generalizing j with
  | nil => simp
  | cons e r ih =>
    match j with
    | 0 => simp
    | 1 => simp
    | j + 2 =>
      have h1 : (j + 2) / 2 = j / 2 + 1 := by omega
      have h2 : (j + 2) % 2 = j % 2 := by omega
      rw [h1, h2]
      simp only [List.flatMap_cons, List.cons_append, List.nil_append, List.getElem?_cons_succ]
      exact ih j
theorem SlE.of_cells {w : World} {b off : Nat} {E : List (Int × Int)} (h : ∀ j u, (cellsE E)[j]? = some u → w.cell? ⟨b, off + j, none⟩ = some u) : SlE w (some ⟨b, off, none⟩) E := fun _ => by
  refine ⟨b, off, rfl, fun j hj => ?_⟩
  have hE : E[j]? = some E[j] := List.getElem?_eq_getElem hj
  constructor
  · have := h (j * 2) (.int .i64 (E[j]?.getD (0, 0)).1) (by
      rw [cellsE_get, show j * 2 / 2 = j by omega, hE, show j * 2 % 2 = 0 by omega]; rfl)
    exact this
  · have := h (j * 2 + 1) (.int .i64 (E[j]?.getD (0, 0)).2) (by
      rw [cellsE_get, show (j * 2 + 1) / 2 = j by omega, hE, show (j * 2 + 1) % 2 = 1 by omega]; rfl)
    rw [← Nat.add_assoc] at this
    exact this
theorem SlE.of_own {w : World} {base e n c : Nat} {A : Option Addr} {E : List (Int × Int)} (h : w.ownsRow base e 2 (.slice A n c) n (cellsE E)) : SlE w A E := fun hp => by
  have hn : n = E.length := by have := h.1; rw [cellsE_length] at this; omega
  rcases h.2 with ⟨hv, h0⟩ | ⟨g, cap, cur, hv, hb, hg, hnc, hcm, hcs, ht⟩
  · omega
  · injection hv with h1 h2 h3
    subst h1
    exact SlE.of_cells (fun j u hu => by have := h.cells (g := g) rfl j u hu; rw [add_none] at this; exact this) hp
theorem Only.putRowE (F : Nat → Prop) (w : World) (blk off : Nat) (d : Array (Int × Int)) (hb : F blk) : Only F w (Sort.putRowK encE 2 w blk off d) :=
  ⟨rfl, rfl, rfl, by show w.heap.size ≤ (w.heap.modify blk _).size; rw [Array.size_modify]; exact Nat.le_refl _, fun k _ hn => by
    show (w.heap.modify blk _)[k]? = _
    rw [Array.getElem?_modify, if_neg (fun e : blk = k => hn (e ▸ hb))]⟩
theorem getElem!_arrE (S : List (Int × Int)) (j : Nat) (hj : j < S.length) : S.toArray[j]! = S[j]?.getD (0, 0) := by
  rw [getElem!_pos S.toArray j (by simpa using hj), List.getElem?_eq_getElem hj]
  simp
theorem SlE.holds {w : World} {g : Nat} {S : List (Int × Int)} {cur : Array Value} (hg : w.heap[g]? = some (.cells cur 28 (0, 0))) (h : SlE w (some ⟨g, 0, none⟩) S) : Sort.HoldsK encE 2 w g 0 S.toArray := fun t ht => by
  rw [Sort.size_flatK] at ht
  have ht' : t < S.length * 2 := by simpa using ht
  have hj : t / 2 < S.length := by omega
  rw [Sort.get_flatK encE 2 S.toArray t ht, getElem!_arrE S _ hj]
  obtain ⟨b, off, e, hc⟩ := h (by omega)
  cases e
  have h3 := hc (t / 2) hj
  have hr : t % 2 = 0 ∨ t % 2 = 1 := by omega
  refine ⟨?_, by unfold World.frozen?; simp [hg]⟩
  rcases hr with hr | hr
  · have e1 : 0 + t = 0 + t / 2 * 2 := by omega
    rw [hr, e1]
    exact h3.1
  · have e1 : 0 + t = 0 + t / 2 * 2 + 1 := by omega
    rw [hr, e1]
    exact h3.2
theorem SlE.of_holds {w : World} {g : Nat} {d : Array (Int × Int)} (h : Sort.HoldsK encE 2 w g 0 d) : SlE w (some ⟨g, 0, none⟩) d.toList := fun _ => by
  refine ⟨g, 0, rfl, fun j hj => ?_⟩
  have hj' : j < d.size := by simpa using hj
  have hd : d.toList[j]?.getD (0, 0) = d[j]! := by rw [List.getElem?_eq_getElem hj, getElem!_pos d j hj']; simp
  rw [hd]
  exact ⟨(h.cell hj' (c := 0) (by omega)).1, (h.cell hj' (c := 1) (by omega)).1⟩
theorem reverse_at (base n c : Nat) (A : Option Addr) (S : List (Int × Int)) (w : World) (hv : w.ownsRow base 28 2 (.slice A n c) n (cellsE S)) (hlen : S.length ≤ 1048576) :
    Calls Try.prog 23 #[.slice A n c] w fun e w' => e = .returned (.tuple #[]) ∧ SlE w' A S.reverse ∧ Only (fun i => (Value.slice A n c).ownBlock = some i) w w' := by
  have hs := SlE.of_own hv
  have hn : n = S.length := by have := hv.1; rw [cellsE_length] at this; omega
  subst hn
  rcases hv.2 with ⟨hv1, h0⟩ | ⟨g, cap, cur, hv1, hb, hg, hnc, hcm, hcs, ht⟩
  · obtain rfl := List.eq_nil_of_length_eq_zero h0
    refine (AnyQ.slices_Reverse_empty Try.laysRevE A c w).mono ?_
    rintro e w' ⟨rfl, rfl⟩
    exact ⟨rfl, SlE.nil, Only.refl _ _⟩
  · injection hv1 with h1 h2 h3
    subst h1 h3
    have hH := SlE.holds hg hs
    have h := AnyQ.slices_Reverse Try.laysRevE 2 Try.isAgg28 Try.sizeOf28 encE (fun _ => rfl) (fun x v hv => by simp [encE] at hv; rcases hv with rfl | rfl <;> rfl) g 0 c S.toArray w hH (by simp; omega)
    simp only [List.size_toArray] at h
    change Calls Try.prog 23 _ _ _ at h
    refine h.mono ?_
    clear h
    rintro e w' ⟨rfl, m, rfl⟩
    refine ⟨rfl, ?_, (Only.aheadS (fun i => (Value.slice (some ⟨g, 0, none⟩) S.length c).ownBlock = some i) w m).trans (Only.putRowE (fun i => (Value.slice (some ⟨g, 0, none⟩) S.length c).ownBlock = some i) _ g 0 _ rfl) (fun _ _ h => h)⟩
    have h1 := SlE.of_holds (Sort.holdsK_putRowK encE 2 _ g 0 S.toArray S.toArray.reverse (Sort.holdsK_ahead encE 2 w m g 0 S.toArray hH) (by simp))
    simpa using h1
theorem sumI_take {l : List (Int × Int)} {k : Nat} {x : Int × Int} (h : l[k]? = some x) : sumI ((l.take (k + 1)).map (·.2)) = sumI ((l.take k).map (·.2)) + x.2 := by
  rw [List.take_add_one, h, List.map_append, sumI_append]
  simp [sumI]
theorem sumI_nonneg : ∀ {l : List Int}, (∀ x ∈ l, 0 ≤ x) → 0 ≤ sumI l
  | [], _ => by simp [sumI]
  | x :: r, h => by
    have h1 := sumI_nonneg (l := r) (fun y hy => h y (List.mem_cons_of_mem _ hy))
    have h2 := h x List.mem_cons_self
    simp only [sumI, List.foldr_cons] at *
    omega
theorem sumI_le {l : List (Int × Int)} (h : ∀ x ∈ l, 0 ≤ x.2) (k : Nat) : 0 ≤ sumI ((l.take k).map (·.2)) ∧ sumI ((l.take k).map (·.2)) ≤ sumI (l.map (·.2)) := by
  have h1 : 0 ≤ sumI ((l.take k).map (·.2)) := sumI_nonneg (fun y hy => by
    obtain ⟨x, hx, rfl⟩ := List.mem_map.1 hy
    exact h x (List.mem_of_mem_take hx))
  have h2 : 0 ≤ sumI ((l.drop k).map (·.2)) := sumI_nonneg (fun y hy => by
    obtain ⟨x, hx, rfl⟩ := List.mem_map.1 hy
    exact h x (List.mem_of_mem_drop hx))
  have h3 : sumI (l.map (·.2)) = sumI ((l.take k).map (·.2)) + sumI ((l.drop k).map (·.2)) := by
    rw [← sumI_append, ← List.map_append, List.take_append_drop]
  omega
set_option maxHeartbeats 1000000 in
theorem total_at (A : Option Addr) (c : Nat) (l : List (Int × Int)) (w : World) (hl : SlE w A l) (hp : ∀ x ∈ l, 0 ≤ x.2) (hs : sumI (l.map (·.2)) ≤ 4611686018427387903) (hll : l.length ≤ 4611686018427387903) :
    Calls Try.prog 26 #[.slice A l.length c] w fun e w' => e = .returned (.tuple #[.int .i64 (sumI (l.map (·.2))), .bool true]) ∧ Grew w w' := by
  have HP := hid (And.intro hl (And.intro hp hs))
  clear hl hp hs
  go_enter Try.func26, Try.ntmps26
  go_wp2_with fail
  go_loopw [4, 9] (fun nv i wr => ∃ (k : Nat) (s : Int), k ≤ l.length ∧ i = .int .i64 k ∧ nv = .int .i64 s ∧ Hid (s = sumI ((l.take k).map (·.2))) ∧ Grew w wr) (fun _ i _ => l.length - (intOf i).toNat)
  case atStart => exact ⟨0, 0, Nat.zero_le _, rfl, rfl, hid (by simp [sumI]), Only.refl _ _⟩
  case round =>
    obtain ⟨k, s, hk, rfl, rfl, hS, hO⟩ := hrel
    have HO := hid hO
    clear hO
    by_cases hlt : k < l.length
    · have hb0 : (k : Int) < (l.length : Int) := by omega
      obtain ⟨bl, o, rfl, hcell⟩ := (HP.out.1.grew HO.out) (by omega)
      obtain ⟨c1, c2⟩ := hcell k hlt
      obtain ⟨x, hx⟩ : ∃ x, l[k]? = some x := ⟨_, List.getElem?_eq_getElem hlt⟩
      simp only [hx, Option.getD_some] at c1 c2
      have h1 := sumI_le HP.out.2.1 k
      have h2 := sumI_le HP.out.2.1 (k + 1)
      have h3 := sumI_take hx
      have h4 := HP.out.2.1 x (List.mem_of_getElem? hx)
      have h5 := HP.out.2.2
      obtain ⟨a, b⟩ := x
      simp only at c1 c2 h3 h4
      rw [← hS.out] at h1 h3
      have H3 := hid h3
      have g0 : 0 ≤ s := h1.1
      have g1 : s + b ≤ 4611686018427387903 := by omega
      have g2 : b ≤ 4611686018427387903 := by omega
      clear hcell hx h1 h2 h3 h5
      go_wp2
      go_roundw
      case rel => exact ⟨k + 1, s + b, by omega, by go_num, by first | rfl | go_num, hid H3.out.symm, Grew.trans HO.out (Only.alloc _ _)⟩
      case measure => simp [intOf]; omega
    · obtain rfl : k = l.length := by omega
      go_wp2
      go_ret2
      have h := hS.out
      rw [List.take_length] at h
      rw [h]
      exact ⟨rfl, HO.out⟩
def inE (e x : Int × Int) : Bool := decide (x.1 < e.1) || decide (RowKit.wrap64 (e.1 + e.2) < RowKit.wrap64 (x.1 + x.2))
set_option maxHeartbeats 2000000 in
theorem contf_at (B : Nat) (e x : Int × Int) (W : World) (h1 : W.cell? ⟨B, 0, none⟩ = some (.int .i64 e.1)) (h2 : W.cell? ⟨B, 1, none⟩ = some (.int .i64 e.2)) :
    Calls Try.prog 42 (#[.agg (encE x).toArray] ++ #[.pointer (some ⟨B, 0, none⟩)]) W fun en W' => en = .returned (.bool (inE e x)) ∧ Grew W W' := by
  obtain ⟨a, b⟩ := e
  obtain ⟨p, q⟩ := x
  simp only [encE] at *
  have hBl := World.block_lt_of_cell? W _ h1
  have HS0 : Hid (∀ w', Grew (W.alloc (.cells #[.int .i64 p, .int .i64 q] 28)) w' → w'.cell? ⟨B, 0, none⟩ = some (.int .i64 a) ∧ w'.cell? ⟨B, 1, none⟩ = some (.int .i64 b) ∧ w'.cell? ⟨W.heap.size, 0, none⟩ = some (.int .i64 p) ∧ w'.cell? ⟨W.heap.size, 1, none⟩ = some (.int .i64 q)) :=
    hid (fun w' h => ⟨(Grew.trans (Only.alloc _ _) h).cell h1 (fun h => h), (Grew.trans (Only.alloc _ _) h).cell h2 (fun h => h), h.cell (cells2 _ _ _ _).1 (fun h => h), h.cell (cells2 _ _ _ _).2 (fun h => h)⟩)
  have HG0 : Hid (Grew W (W.alloc (.cells #[.int .i64 p, .int .i64 q] 28))) := hid (Only.alloc _ _)
  obtain ⟨r1, hr1⟩ : ∃ r, RowKit.wrap64 (a + b) = r := ⟨_, rfl⟩
  obtain ⟨r2, hr2⟩ : ∃ r, RowKit.wrap64 (p + q) = r := ⟨_, rfl⟩
  have HE1 : Hid (∀ w, Calls Try.prog 34 #[.agg #[.int .i64 a, .int .i64 b]] w fun e w' => e = .returned (.int .i64 r1) ∧ Grew w w') := hid (fun w => by rw [← hr1]; exact (endw_at a b w).mono fun _ _ ⟨x, y⟩ => ⟨x, by rw [y]; exact Only.alloc _ _⟩)
  have HE2 : Hid (∀ w, Calls Try.prog 34 #[.agg #[.int .i64 p, .int .i64 q]] w fun e w' => e = .returned (.int .i64 r2) ∧ Grew w w') := hid (fun w => by rw [← hr2]; exact (endw_at p q w).mono fun _ _ ⟨x, y⟩ => ⟨x, by rw [y]; exact Only.alloc _ _⟩)
  have HR : Hid (inE (a, b) (p, q) = (decide (p < a) || decide (r1 < r2))) := hid (by unfold inE; simp only; rw [hr1, hr2])
  clear h1 h2 hr1 hr2
  by_cases hpa : p < a
  · have hd : decide (p < a) = true := by simpa using hpa
    have HRR : Hid (inE (a, b) (p, q) = true) := hid (by rw [HR.out, hd]; rfl)
    rw [HRR.out]
    clear hpa HR HRR
    go_enter Try.func42, Try.ntmps42
    go_wp2_with fail
    generalize W.alloc (.cells #[.int .i64 p, .int .i64 q] 28) = W0 at *
    generalize W.heap.size = C at *
    obtain ⟨z1, z2, z3, z4⟩ := HS0.out W0 (Only.refl _ _)
    go_quiet (fail)
    go_wp2
    go_ret
    exact ⟨rfl, Grew.trans HG0.out (Only.drewN _ _)⟩
  · have hd : decide (p < a) = false := by simpa using hpa
    have HRR : Hid (inE (a, b) (p, q) = decide (r1 < r2)) := hid (by rw [HR.out, hd]; rfl)
    rw [HRR.out]
    clear hpa HR HRR
    go_enter Try.func42, Try.ntmps42
    go_wp2_with fail
    generalize W.alloc (.cells #[.int .i64 p, .int .i64 q] 28) = W0 at *
    generalize W.heap.size = C at *
    go_region_held3 (fun w' => w'.cell? ⟨B, 0, none⟩ = some (.int .i64 a) ∧ w'.cell? ⟨B, 1, none⟩ = some (.int .i64 b) ∧ w'.cell? ⟨C, 0, none⟩ = some (.int .i64 p) ∧ w'.cell? ⟨C, 1, none⟩ = some (.int .i64 q))
      (first
        | exact HS0.out _ (Only.drew _)
        | exact HS0.out _ hb
        | exact HS0.out _ ha)
      (first
        | (go_at_call 34; have cX := HE2.out wa; with_reducible refine cX.mono ?_; clear cX; rintro e wb ⟨rfl, hb0⟩; have hb : Grew W0 wb := Grew.trans ha hb0)
        | (go_at_call 34; have cX := HE1.out wa; with_reducible refine cX.mono ?_; clear cX; rintro e wb ⟨rfl, hb0⟩; have hb : Grew W0 wb := Grew.trans ha hb0)
        | (go_at_call 34; have cX := HE1.out W0.drew; with_reducible refine cX.mono ?_; clear cX; rintro e wa ⟨rfl, ha0⟩; have ha : Grew W0 wa := Grew.trans (Only.drew _) ha0)
        | (go_at_call 34; have cX := HE2.out W0.drew; with_reducible refine cX.mono ?_; clear cX; rintro e wa ⟨rfl, ha0⟩; have ha : Grew W0 wa := Grew.trans (Only.drew _) ha0))
    all_goals
      go_wp2
      go_ret
      exact ⟨rfl, Grew.trans HG0.out hb⟩
end Go.Proofs.Ytgpfhdjedebdfaa
