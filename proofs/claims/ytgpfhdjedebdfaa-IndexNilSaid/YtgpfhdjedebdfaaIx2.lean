/- The walks of Valid and Overlap of the reference, of extent.Overlap. -/
import Derived.Test.YtgpfhdjedebdfaaIx1
namespace Go.Proofs.Ytgpfhdjedebdfaa
open Go.RowKit Go.MapKept

set_option maxHeartbeats 1000000 in
theorem rvalid_is (a b : Int) (w : World) (ha : okI a) (hb : okI b) :
    Calls Try.prog 14 #[.agg #[.int .i64 a, .int .i64 b]] w fun e w' => e = .returned (.bool (veB (a, b))) ∧ Grew w w' := by
  obtain ⟨ha1, ha2⟩ := ha
  obtain ⟨hb1, hb2⟩ := hb
  by_cases h0 : 0 ≤ a
  · have d0 : decide (0 ≤ a) = true := by simpa using h0
    by_cases h1 : 0 ≤ b
    · have d1 : decide (0 ≤ b) = true := by simpa using h1
      by_cases h4 : a ≤ 4611686018427387903
      · have d4 : decide (a ≤ 4611686018427387903) = true := by simpa using h4
        obtain ⟨r, hr⟩ : ∃ r : Bool, decide (b ≤ 4611686018427387903 - a) = r := ⟨_, rfl⟩
        have HV : Hid (veB (a, b) = r) := hid (by
          rw [← hr]
          unfold veB
          simp only [d0, d1, Bool.true_and]
          congr 1
          rw [eq_iff_iff]
          omega)
        rw [HV.out]
        clear HV
        go_enter Try.func14, Try.ntmps14
        go_wp2_with fail
        go_quiet ((go_at_call 37; (first | exact quiet_left (max_at _) | exact quiet_add_left (max_at _))))
        go_wp2
        go_ret
        exact ⟨rfl, Grew.trans (Only.alloc _ _) (Only.drewN _ _)⟩
      · have d4 : decide (a ≤ 4611686018427387903) = false := by simpa using h4
        rw [veB_false (fun h => by have h1 := h.2.2; simp only at h1; omega)]
        go_enter Try.func14, Try.ntmps14
        go_wp2_with fail
        go_quiet ((go_at_call 37; (first | exact quiet_left (max_at _) | exact quiet_add_left (max_at _))))
        go_wp2
        go_ret
        exact ⟨rfl, Grew.trans (Only.alloc _ _) (Only.drewN _ _)⟩
    · have d1 : decide (0 ≤ b) = false := by simpa using h1
      rw [veB_false (fun h => by have h1 := h.2.1; simp only at h1; omega)]
      go_enter Try.func14, Try.ntmps14
      go_wp2_with fail
      go_quiet (fail)
      go_wp2
      go_ret
      exact ⟨rfl, Grew.trans (Only.alloc _ _) (Only.drewN _ _)⟩
  · have d0 : decide (0 ≤ a) = false := by simpa using h0
    rw [veB_false (fun h => by have h1 := h.1; simp only at h1; omega)]
    go_enter Try.func14, Try.ntmps14
    go_wp2_with fail
    go_quiet (fail)
    go_wp2
    go_ret
    exact ⟨rfl, Grew.trans (Only.alloc _ _) (Only.drewN _ _)⟩
theorem results_cell1 {fn : Func} {p : Tmp} {ty : TypeId} (h : fn.results = #[.cell p ty]) (tmps : Array Value) (P : Program) (w : World) :
    (results fn tmps).run P w = ((asAddr (tmps.getD p undef)).run P w).andThen fun a w₁ => (loadVar ty a).run P w₁ := by
  simp only [results, h]
  simp [Sem.run_bind, Result.andThen]
theorem ovl_yes {a b : Int × Int} (h : meets a b = true) : ovl a b = (max a.1 b.1, min (a.1 + a.2) (b.1 + b.2) - max a.1 b.1) := by
  unfold ovl meets at *
  rw [if_pos (by simpa using h)]
theorem ovl_no {a b : Int × Int} (h : meets a b = false) : ovl a b = (0, 0) := by
  unfold ovl meets at *
  rw [if_neg (by simpa using h)]
theorem eV_ovl {a b c d lo n : Int} (h1 : lo = max a c) (h2 : n = min (a + b) (c + d) - max a c) (h3 : max a c < min (a + b) (c + d)) : eV (lo, n) = eV (ovl (a, b) (c, d)) := by
  unfold ovl
  rw [if_pos h3, h1, h2]
theorem eV_ovl0 {a b c d : Int} (h3 : min (a + b) (c + d) ≤ max a c) : eV (0, 0) = eV (ovl (a, b) (c, d)) := by
  unfold ovl
  rw [if_neg (by simp only; omega)]
set_option maxHeartbeats 4000000 in
theorem roverlap_at (a b c d : Int) (w : World) (h1 : VE (a, b)) (h2 : VE (c, d)) :
    Calls Try.prog 29 #[.agg #[.int .i64 a, .int .i64 b], .agg #[.int .i64 c, .int .i64 d]] w fun e w' => e = .returned (eV (ovl (a, b) (c, d))) ∧ Grew w w' := by
  obtain ⟨a1, a2, a3⟩ := h1
  obtain ⟨c1, c2, c3⟩ := h2
  simp only at a1 a2 a3 c1 c2 c3
  go_enter Try.func29, Try.ntmps29
  go_wp2
  all_goals (try simp only [Exit.inBlock, Exit.then])
  all_goals first
    | (refine bodyPost_ret (v := eV (a, a + b - a)) ?_ rfl ⟨by rw [eV_ovl (a := a) (b := b) (c := c) (d := d) (lo := a) (n := a + b - a) (by omega) (by omega) (by omega)], Grew.trans (Only.alloc _ _) (Grew.trans (Only.alloc _ _) (Only.alloc _ _))⟩; rw [results_cell1 rfl]; go_simp; done)
    | (refine bodyPost_ret (v := eV (a, c + d - a)) ?_ rfl ⟨by rw [eV_ovl (a := a) (b := b) (c := c) (d := d) (lo := a) (n := c + d - a) (by omega) (by omega) (by omega)], Grew.trans (Only.alloc _ _) (Grew.trans (Only.alloc _ _) (Only.alloc _ _))⟩; rw [results_cell1 rfl]; go_simp; done)
    | (refine bodyPost_ret (v := eV (c, a + b - c)) ?_ rfl ⟨by rw [eV_ovl (a := a) (b := b) (c := c) (d := d) (lo := c) (n := a + b - c) (by omega) (by omega) (by omega)], Grew.trans (Only.alloc _ _) (Grew.trans (Only.alloc _ _) (Only.alloc _ _))⟩; rw [results_cell1 rfl]; go_simp; done)
    | (refine bodyPost_ret (v := eV (c, c + d - c)) ?_ rfl ⟨by rw [eV_ovl (a := a) (b := b) (c := c) (d := d) (lo := c) (n := c + d - c) (by omega) (by omega) (by omega)], Grew.trans (Only.alloc _ _) (Grew.trans (Only.alloc _ _) (Only.alloc _ _))⟩; rw [results_cell1 rfl]; go_simp; done)
    | (refine bodyPost_ret (v := eV (0, 0)) ?_ rfl ⟨by rw [eV_ovl0 (a := a) (b := b) (c := c) (d := d) (by omega)], Grew.trans (Only.alloc _ _) (Grew.trans (Only.alloc _ _) (Only.alloc _ _))⟩; rw [results_cell1 rfl]; go_simp; done)
theorem set_two (w : World) (b : Nat) (x y x' y' : Value) (h1 : w.cell? ⟨b, 0, none⟩ = some x) (h2 : w.cell? ⟨b, 1, none⟩ = some y) :
    ((w.setCell ⟨b, 0, none⟩ x').setCell ⟨b, 1, none⟩ y').cell? ⟨b, 0, none⟩ = some x' ∧ ((w.setCell ⟨b, 0, none⟩ x').setCell ⟨b, 1, none⟩ y').cell? ⟨b, 1, none⟩ = some y' := by
  have a1 := World.cell?_setCell_same' w ⟨b, 0, none⟩ x' (by rw [h1]; rfl)
  constructor
  · rw [World.cell?_setCell_other]
    · exact a1
    · simp
  · refine World.cell?_setCell_same' _ _ _ ?_
    rw [World.cell?_setCell_other]
    · rw [h2]; rfl
    · simp
theorem ovl_meets {a b c d lo hi : Int} (h1 : lo = max a c) (h2 : hi = min (a + b) (c + d)) : (if decide (hi - lo < 1) = true then eV (0, 0) else eV (lo, hi - lo)) = eV (ovl (a, b) (c, d)) ∧ (!decide (hi - lo < 1)) = meets (a, b) (c, d) := by
  subst h1 h2
  unfold ovl meets
  by_cases h : max a c < min (a + b) (c + d)
  · have h' : decide (min (a + b) (c + d) - max a c < 1) = false := by simp; omega
    rw [h', if_pos h]
    exact ⟨rfl, by simp [h]⟩
  · have h' : decide (min (a + b) (c + d) - max a c < 1) = true := by simp; omega
    rw [h', if_neg h]
    exact ⟨rfl, by simp [h]⟩
set_option maxHeartbeats 4000000 in
theorem overlap_at (a b c d : Int) (w : World) (h1 : VE (a, b)) (h2 : VE (c, d)) :
    Calls Try.prog 49 #[.agg #[.int .i64 a, .int .i64 b], .agg #[.int .i64 c, .int .i64 d]] w fun e w' => e = .returned (.tuple #[eV (ovl (a, b) (c, d)), .bool (meets (a, b) (c, d))]) ∧ Grew w w' := by
  obtain ⟨a1, a2, a3⟩ := h1
  obtain ⟨c1, c2, c3⟩ := h2
  simp only at a1 a2 a3 c1 c2 c3
  have HB : Hid (∀ lo hi W (r : Bool), lo = max a c → hi = min (a + b) (c + d) → Calls Try.prog 61 #[.int .i64 lo, .int .i64 hi, .int .i64 1] W fun e w' => e = .returned (.tuple #[eV (ovl (a, b) (c, d)), .bool (meets (a, b) (c, d))]) ∧ Grew W w') := hid (fun lo hi W r hlo hhi => by
    have h := between_at lo hi 1 W (by omega) (by omega) (by omega) (by omega) _ rfl
    obtain ⟨e1, e2⟩ := ovl_meets (a := a) (b := b) (c := c) (d := d) hlo hhi
    rw [e1, e2] at h
    exact h)
  generalize meets (a, b) (c, d) = r at *
  generalize ovl (a, b) (c, d) = o at *
  obtain ⟨o1, o2⟩ := o
  have HS0 : Hid (∀ w', Only (fun i => i = w.heap.size + 2) (((w.alloc (.cells #[.int .i64 a, .int .i64 b] 28)).alloc (.cells #[.int .i64 c, .int .i64 d] 28)).alloc (.cells #[.int .i64 0, .int .i64 0] 28)) w' → w'.cell? ⟨w.heap.size, 0, none⟩ = some (.int .i64 a) ∧ w'.cell? ⟨w.heap.size, 1, none⟩ = some (.int .i64 b) ∧ w'.cell? ⟨w.heap.size + 1, 0, none⟩ = some (.int .i64 c) ∧ w'.cell? ⟨w.heap.size + 1, 1, none⟩ = some (.int .i64 d)) := hid (fun w' hw' => by
    have g1 := cells2 w (.int .i64 a) (.int .i64 b) 28
    have g2 := cells2 (w.alloc (.cells #[.int .i64 a, .int .i64 b] 28)) (.int .i64 c) (.int .i64 d) 28
    rw [World.size_alloc] at g2
    have q1 := Only.alloc (F := fun i => i = w.heap.size + 2) (w.alloc (.cells #[.int .i64 a, .int .i64 b] 28)) (.cells #[.int .i64 c, .int .i64 d] 28)
    have q2 := Only.alloc (F := fun i => i = w.heap.size + 2) ((w.alloc (.cells #[.int .i64 a, .int .i64 b] 28)).alloc (.cells #[.int .i64 c, .int .i64 d] 28)) (.cells #[.int .i64 0, .int .i64 0] 28)
    have q3 := (q1.trans q2 (fun _ _ h => h)).trans hw' (fun _ _ h => h)
    have q4 := q2.trans hw' (fun _ _ h => h)
    exact ⟨q3.cell g1.1 (by show ¬ w.heap.size = w.heap.size + 2; omega), q3.cell g1.2 (by show ¬ w.heap.size = w.heap.size + 2; omega), q4.cell g2.1 (by show ¬ w.heap.size + 1 = w.heap.size + 2; omega), q4.cell g2.2 (by show ¬ w.heap.size + 1 = w.heap.size + 2; omega)⟩)
  have HF0 : Hid (∀ w', Only (fun _ => False) (((w.alloc (.cells #[.int .i64 a, .int .i64 b] 28)).alloc (.cells #[.int .i64 c, .int .i64 d] 28)).alloc (.cells #[.int .i64 0, .int .i64 0] 28)) w' → w'.frozen? ⟨w.heap.size + 1 + 1, 0, none⟩ = false ∧ w'.frozen? ⟨w.heap.size + 1 + 1, 1, none⟩ = false ∧ w'.cell? ⟨w.heap.size + 1 + 1, 0, none⟩ = some (.int .i64 0) ∧ w'.cell? ⟨w.heap.size + 1 + 1, 1, none⟩ = some (.int .i64 0)) := hid (fun w' hw' => by
    have g3 := heap_alloc_new ((w.alloc (.cells #[.int .i64 a, .int .i64 b] 28)).alloc (.cells #[.int .i64 c, .int .i64 d] 28)) (.cells #[.int .i64 0, .int .i64 0] 28)
    rw [World.size_alloc, World.size_alloc] at g3
    have g4 := hw'.heap g3 (fun h => h)
    exact ⟨by simp [World.frozen?, g4], by simp [World.frozen?, g4], by simp [World.cell?, g4], by simp [World.cell?, g4]⟩)
  go_enter Try.func49, Try.ntmps49
  go_wp2_with fail
  have HGW : Hid (Grew w (((w.alloc (.cells #[.int .i64 a, .int .i64 b] 28)).alloc (.cells #[.int .i64 c, .int .i64 d] 28)).alloc (.cells #[.int .i64 0, .int .i64 0] 28))) := hid (Grew.trans (Only.alloc _ _) (Grew.trans (Only.alloc _ _) (Only.alloc _ _)))
  generalize ((w.alloc (.cells #[.int .i64 a, .int .i64 b] 28)).alloc (.cells #[.int .i64 c, .int .i64 d] 28)).alloc (.cells #[.int .i64 0, .int .i64 0] 28) = W0 at *
  generalize hB0 : w.heap.size = B at *
  have HSS : Hid (∀ w', Only (fun i => i = B + 1 + 1) W0 w' → w'.cell? ⟨B, 0, none⟩ = some (.int .i64 a) ∧ w'.cell? ⟨B, 1, none⟩ = some (.int .i64 b) ∧ w'.cell? ⟨B + 1, 0, none⟩ = some (.int .i64 c) ∧ w'.cell? ⟨B + 1, 1, none⟩ = some (.int .i64 d)) := hid HS0.out
  have HFF : Hid (∀ w', Grew W0 w' → w'.frozen? ⟨B + 1 + 1, 0, none⟩ = false ∧ w'.frozen? ⟨B + 1 + 1, 1, none⟩ = false ∧ w'.cell? ⟨B + 1 + 1, 0, none⟩ = some (.int .i64 0) ∧ w'.cell? ⟨B + 1 + 1, 1, none⟩ = some (.int .i64 0)) := hid HF0.out
  have HSX : Hid (∀ w', Grew W0 w' → ∀ u v, ((w'.setCell ⟨B + 1 + 1, 0, none⟩ u).setCell ⟨B + 1 + 1, 1, none⟩ v).cell? ⟨B, 0, none⟩ = some (.int .i64 a) ∧ ((w'.setCell ⟨B + 1 + 1, 0, none⟩ u).setCell ⟨B + 1 + 1, 1, none⟩ v).cell? ⟨B, 1, none⟩ = some (.int .i64 b) ∧ ((w'.setCell ⟨B + 1 + 1, 0, none⟩ u).setCell ⟨B + 1 + 1, 1, none⟩ v).cell? ⟨B + 1, 0, none⟩ = some (.int .i64 c) ∧ ((w'.setCell ⟨B + 1 + 1, 0, none⟩ u).setCell ⟨B + 1 + 1, 1, none⟩ v).cell? ⟨B + 1, 1, none⟩ = some (.int .i64 d)) := hid (fun w' h u v =>
    HSS.out _ ((h.mono (G := fun i => i = B + 1 + 1) (fun _ _ h => h.elim)).trans ((Only.setCell (F := fun i => i = B + 1 + 1) w' (p := ⟨B + 1 + 1, 0, none⟩) rfl u).trans (Only.setCell (F := fun i => i = B + 1 + 1) _ (p := ⟨B + 1 + 1, 1, none⟩) rfl v) (fun _ _ h => h)) (fun _ _ h => h)))
  have HGX : Hid (∀ w', Grew W0 w' → ∀ u v, Grew w ((w'.setCell ⟨B + 1 + 1, 0, none⟩ u).setCell ⟨B + 1 + 1, 1, none⟩ v)) := hid (fun w' h u v => by
    have q := ((Grew.trans HGW.out h).mono (G := fun i => i = B + 1 + 1) (fun _ _ h => h.elim)).trans ((Only.setCell (F := fun i => i = B + 1 + 1) w' (p := ⟨B + 1 + 1, 0, none⟩) rfl u).trans (Only.setCell (F := fun i => i = B + 1 + 1) _ (p := ⟨B + 1 + 1, 1, none⟩) rfl v) (fun _ _ h => h)) (fun _ _ h => h)
    exact q.mono (fun i hi h => by omega))
  have HCX : Hid (∀ w', Grew W0 w' → ((w'.setCell ⟨B + 1 + 1, 0, none⟩ (.int .i64 o1)).setCell ⟨B + 1 + 1, 1, none⟩ (.int .i64 o2)).cell? ⟨B + 1 + 1, 0, none⟩ = some (.int .i64 o1) ∧ ((w'.setCell ⟨B + 1 + 1, 0, none⟩ (.int .i64 o1)).setCell ⟨B + 1 + 1, 1, none⟩ (.int .i64 o2)).cell? ⟨B + 1 + 1, 1, none⟩ = some (.int .i64 o2)) := hid (fun w' h => by
    obtain ⟨_, _, n3, n4⟩ := HFF.out w' h
    exact set_two w' (B + 1 + 1) _ _ _ _ n3 n4)
  clear HS0 HF0
  rcases (show a < c ∨ ¬ a < c by omega) with hac | hac <;> rcases (show c + d < a + b ∨ ¬ c + d < a + b by omega) with hab | hab
  · go_region_held3 (fun w' => w'.cell? ⟨B, 0, none⟩ = some (.int .i64 a) ∧ w'.cell? ⟨B, 1, none⟩ = some (.int .i64 b) ∧ w'.cell? ⟨B + 1, 0, none⟩ = some (.int .i64 c) ∧ w'.cell? ⟨B + 1, 1, none⟩ = some (.int .i64 d))
      (first
        | exact HSS.out _ (Only.drew _)
        | exact HSS.out _ (hc.mono (fun _ _ h => h.elim))
        | exact HSX.out _ hc _ _
        | exact HSS.out _ (hb.mono (fun _ _ h => h.elim))
        | exact HSS.out _ (ha.mono (fun _ _ h => h.elim)))
      (first
        | (go_at_call 61; have cX := HB.out (c) (c + d) wb true (by omega) (by omega); with_reducible refine cX.mono ?_; clear cX; rintro e wc ⟨rfl, hc0⟩; have hc : Grew W0 wc := Grew.trans hb hc0; obtain ⟨n1, n2, n3, n4⟩ := HFF.out wc hc)
        | (go_at_call 34; have cX := end_at c d wa c1 c2 c3; with_reducible refine cX.mono ?_; clear cX; rintro e wb ⟨rfl, hb0⟩; have hb : Grew W0 wb := Grew.trans ha hb0)
        | (go_at_call 34; refine (end_at a b _ a1 a2 a3).mono ?_; rintro e wa ⟨rfl, ha0⟩; have ha : Grew W0 wa := Grew.trans (Only.drew _) ha0))
    all_goals
      go_wp2
      (try simp only [Exit.inBlock, Exit.then])
      obtain ⟨c5, c6⟩ := HCX.out wc hc
      refine bodyPost_ret (v := .tuple #[_, _]) ?_ rfl ⟨rfl, HGX.out wc hc _ _⟩
      rw [results_cell_tmp rfl]
      go_simp
  · have hab' : (c + d < a + b) = False := eq_false hab
    go_region_held3 (fun w' => w'.cell? ⟨B, 0, none⟩ = some (.int .i64 a) ∧ w'.cell? ⟨B, 1, none⟩ = some (.int .i64 b) ∧ w'.cell? ⟨B + 1, 0, none⟩ = some (.int .i64 c) ∧ w'.cell? ⟨B + 1, 1, none⟩ = some (.int .i64 d))
      (first
        | exact HSS.out _ (Only.drew _)
        | exact HSS.out _ (hc.mono (fun _ _ h => h.elim))
        | exact HSX.out _ hc _ _
        | exact HSS.out _ (hb.mono (fun _ _ h => h.elim))
        | exact HSS.out _ (ha.mono (fun _ _ h => h.elim)))
      (first
        | (go_at_call 61; have cX := HB.out (c) (a + b) wb true (by omega) (by omega); with_reducible refine cX.mono ?_; clear cX; rintro e wc ⟨rfl, hc0⟩; have hc : Grew W0 wc := Grew.trans hb hc0; obtain ⟨n1, n2, n3, n4⟩ := HFF.out wc hc)
        | (go_at_call 34; have cX := end_at c d wa c1 c2 c3; with_reducible refine cX.mono ?_; clear cX; rintro e wb ⟨rfl, hb0⟩; have hb : Grew W0 wb := Grew.trans ha hb0)
        | (go_at_call 34; refine (end_at a b _ a1 a2 a3).mono ?_; rintro e wa ⟨rfl, ha0⟩; have ha : Grew W0 wa := Grew.trans (Only.drew _) ha0))
    all_goals
      go_wp2
      (try simp only [Exit.inBlock, Exit.then])
      obtain ⟨c5, c6⟩ := HCX.out wc hc
      refine bodyPost_ret (v := .tuple #[_, _]) ?_ rfl ⟨rfl, HGX.out wc hc _ _⟩
      rw [results_cell_tmp rfl]
      go_simp
  · have hac' : (a < c) = False := eq_false hac
    go_region_held3 (fun w' => w'.cell? ⟨B, 0, none⟩ = some (.int .i64 a) ∧ w'.cell? ⟨B, 1, none⟩ = some (.int .i64 b) ∧ w'.cell? ⟨B + 1, 0, none⟩ = some (.int .i64 c) ∧ w'.cell? ⟨B + 1, 1, none⟩ = some (.int .i64 d))
      (first
        | exact HSS.out _ (Only.drew _)
        | exact HSS.out _ (hc.mono (fun _ _ h => h.elim))
        | exact HSX.out _ hc _ _
        | exact HSS.out _ (hb.mono (fun _ _ h => h.elim))
        | exact HSS.out _ (ha.mono (fun _ _ h => h.elim)))
      (first
        | (go_at_call 61; have cX := HB.out (a) (c + d) wb true (by omega) (by omega); with_reducible refine cX.mono ?_; clear cX; rintro e wc ⟨rfl, hc0⟩; have hc : Grew W0 wc := Grew.trans hb hc0; obtain ⟨n1, n2, n3, n4⟩ := HFF.out wc hc)
        | (go_at_call 34; have cX := end_at c d wa c1 c2 c3; with_reducible refine cX.mono ?_; clear cX; rintro e wb ⟨rfl, hb0⟩; have hb : Grew W0 wb := Grew.trans ha hb0)
        | (go_at_call 34; refine (end_at a b _ a1 a2 a3).mono ?_; rintro e wa ⟨rfl, ha0⟩; have ha : Grew W0 wa := Grew.trans (Only.drew _) ha0))
    all_goals
      go_wp2
      (try simp only [Exit.inBlock, Exit.then])
      obtain ⟨c5, c6⟩ := HCX.out wc hc
      refine bodyPost_ret (v := .tuple #[_, _]) ?_ rfl ⟨rfl, HGX.out wc hc _ _⟩
      rw [results_cell_tmp rfl]
      go_simp
  · have hac' : (a < c) = False := eq_false hac
    have hab' : (c + d < a + b) = False := eq_false hab
    go_region_held3 (fun w' => w'.cell? ⟨B, 0, none⟩ = some (.int .i64 a) ∧ w'.cell? ⟨B, 1, none⟩ = some (.int .i64 b) ∧ w'.cell? ⟨B + 1, 0, none⟩ = some (.int .i64 c) ∧ w'.cell? ⟨B + 1, 1, none⟩ = some (.int .i64 d))
      (first
        | exact HSS.out _ (Only.drew _)
        | exact HSS.out _ (hc.mono (fun _ _ h => h.elim))
        | exact HSX.out _ hc _ _
        | exact HSS.out _ (hb.mono (fun _ _ h => h.elim))
        | exact HSS.out _ (ha.mono (fun _ _ h => h.elim)))
      (first
        | (go_at_call 61; have cX := HB.out (a) (a + b) wb true (by omega) (by omega); with_reducible refine cX.mono ?_; clear cX; rintro e wc ⟨rfl, hc0⟩; have hc : Grew W0 wc := Grew.trans hb hc0; obtain ⟨n1, n2, n3, n4⟩ := HFF.out wc hc)
        | (go_at_call 34; have cX := end_at c d wa c1 c2 c3; with_reducible refine cX.mono ?_; clear cX; rintro e wb ⟨rfl, hb0⟩; have hb : Grew W0 wb := Grew.trans ha hb0)
        | (go_at_call 34; refine (end_at a b _ a1 a2 a3).mono ?_; rintro e wa ⟨rfl, ha0⟩; have ha : Grew W0 wa := Grew.trans (Only.drew _) ha0))
    all_goals
      go_wp2
      (try simp only [Exit.inBlock, Exit.then])
      obtain ⟨c5, c6⟩ := HCX.out wc hc
      refine bodyPost_ret (v := .tuple #[_, _]) ?_ rfl ⟨rfl, HGX.out wc hc _ _⟩
      rw [results_cell_tmp rfl]
      go_simp
end Go.Proofs.Ytgpfhdjedebdfaa
