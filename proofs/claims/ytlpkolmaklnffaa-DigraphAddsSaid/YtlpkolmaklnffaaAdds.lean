/- The walk of the law DigraphAdds. -/
import Derived.Test.YtlpkolmaklnffaaSame
import Derived.Deep.RegionHeld3
namespace Go.Proofs.Ytlpkolmaklnffaa
open Go.RowKit Go.MapKept

set_option maxRecDepth 100000 in
set_option maxHeartbeats 1000000 in
theorem adds_out (n : Int) (A : Option Addr) (c m : Nat) (w : World) (h : n < 0 ∨ 1048576 < n) :
    Calls Try.prog 5 #[.int .i64 n, .slice A m c] w fun e w' => e = .returned (.bool true) ∧ Grew w w' := by
  have H := hid h
  by_cases h0 : n < 0
  · have h2 : decide (n < 0) = true := by simp; omega
    clear h
    go_enter Try.func5, Try.ntmps5
    go_wp2_with (first
      | (go_at_call 27; refine (new_nil n w H.out).mono ?_; rintro e w1 ⟨rfl, rfl⟩)
      | (go_at_call 22; refine (alive_at w).mono ?_; rintro e w2 ⟨rfl, hg⟩))
    go_ret
    exact ⟨rfl, hg⟩
  · have h2 : decide (n < 0) = false := by simp; omega
    have h3 : decide (1048576 < n) = true := by simp; omega
    clear h
    go_enter Try.func5, Try.ntmps5
    go_wp2_with (first
      | (go_at_call 27; refine (new_nil n w H.out).mono ?_; rintro e w1 ⟨rfl, rfl⟩)
      | (go_at_call 22; refine (alive_at w).mono ?_; rintro e w2 ⟨rfl, hg⟩))
    go_ret
    exact ⟨rfl, hg⟩
set_option maxRecDepth 100000 in
set_option maxHeartbeats 1000000 in
theorem adds_big (n : Int) (A : Option Addr) (c m : Nat) (w : World) (h0 : 0 ≤ n) (h1 : n ≤ 1048576) (h : 30 < n ∨ 150 < m) :
    Calls Try.prog 5 #[.int .i64 n, .slice A m c] w fun e w' => e = .returned (.bool true) ∧ Grew w w' := by
  have h2 : decide (n < 0) = false := by simp; omega
  have h3 : decide (1048576 < n) = false := by simp; omega
  by_cases h5 : 30 < n
  · have h4 : decide (30 < n) = true := by simp; omega
    clear h
    go_enter Try.func5, Try.ntmps5
    go_wp2_with (first
      | (go_at_call 27; refine (new_ok n w h0 h1).mono ?_; rintro e w1 ⟨b, rfl, hG, hg1⟩)
      | (go_at_call 22; refine (alive_at _).mono ?_; rintro e w2 ⟨rfl, hg⟩))
    go_ret
    exact ⟨rfl, Grew.trans hg1 hg⟩
  · have h4 : decide (30 < n) = false := by simp; omega
    have h6 : decide ((150 : Int) < (m : Int)) = true := by simp; omega
    clear h
    go_enter Try.func5, Try.ntmps5
    go_wp2_with (first
      | (go_at_call 27; refine (new_ok n w h0 h1).mono ?_; rintro e w1 ⟨b, rfl, hG, hg1⟩)
      | (go_at_call 22; refine (alive_at _).mono ?_; rintro e w2 ⟨rfl, hg⟩))
    go_ret
    exact ⟨rfl, Grew.trans hg1 hg⟩
theorem sl_one {X : World} {B1 : Nat} {u x : Int} {t : TypeId} (h : X.heap[B1]? = some (.cells #[.int .i64 u, .int .i64 x] t (0, 0))) : SlE X (some ⟨B1, 0, none⟩) [(u, x)] := fun _ => by
  refine ⟨B1, 0, rfl, fun j hj => ?_⟩
  obtain rfl : j = 0 := by simpa using hj
  exact ⟨cell_of_row _ _ 0 _ _ _ h, cell_of_row _ _ 1 _ _ _ h⟩
theorem adds_apart {Fg Fr : Nat → Prop} {lo n a wa wb : Nat} (h : ∀ i, Fg i → ¬ Fr i) (hin : ∀ i, Fg i ∨ Fr i → lo ≤ i ∧ i < n) (hn : n ≤ a ∧ n ≤ wa) : ∀ i, Fg i ∨ (a ≤ i ∧ i < wa) → ¬ (Fr i ∨ (wa ≤ i ∧ i < wb)) := by
  rintro i (h1 | h1) (h2 | h2)
  · exact h i h1 h2
  · have := hin i (.inl h1); omega
  · have := hin i (.inr h2); omega
  · omega
theorem adds_in {Fg Fr : Nat → Prop} {lo n a wa wb wf : Nat} (hin : ∀ i, Fg i ∨ Fr i → lo ≤ i ∧ i < n) (hl : lo ≤ a) (hn : n ≤ wa ∧ n ≤ wb ∧ wa ≤ wb ∧ lo ≤ wa) (hf : wb ≤ wf) : ∀ i, (Fg i ∨ (a ≤ i ∧ i < wa)) ∨ (Fr i ∨ (wa ≤ i ∧ i < wb)) → lo ≤ i ∧ i < wf := by
  rintro i ((h1 | h1) | (h1 | h1))
  · have := hin i (.inl h1); omega
  · omega
  · have := hin i (.inr h1); omega
  · omega
theorem adds_only {Fg Fr : Nat → Prop} {w W wB wf : World} {n : Nat} (hin : ∀ i, Fg i ∨ Fr i → w.heap.size ≤ i ∧ i < n) (h1 : Only (fun i => w.heap.size ≤ i) w W) (h2 : Only (fun i => Fg i ∨ Fr i) W wB) (h3 : Grew wB wf) : Only (fun i => w.heap.size ≤ i) w wf :=
  (h1.trans (h2.mono (fun i _ hi => (hin i hi).1)) (fun _ _ h => h)).trans h3 (fun _ _ h => h.elim)
set_option maxRecDepth 100000 in
set_option maxHeartbeats 20000000 in
theorem adds_at (N : Nat) (A : Option Addr) (c : Nat) (l : List (Int × Int)) (w : World) (h1 : N ≤ 30) (hm : l.length ≤ 150) (hl : SlE w A l) (hlo : ∀ e ∈ l, okE e) :
    Calls Try.prog 5 #[.int .i64 N, .slice A l.length c] w fun e w' => e = .returned (.bool true) ∧ Grew w w' := by
  have h2 : decide ((N : Int) < 0) = false := by simp
  have h3 : decide (1048576 < (N : Int)) = false := by simp; omega
  have h4 : decide (30 < (N : Int)) = false := by simp; omega
  have h6 : decide ((150 : Int) < (l.length : Int)) = false := by simp; omega
  have HL := hid (And.intro hl hlo)
  clear hl hlo
  go_enter Try.func5, Try.ntmps5
  go_wp2_with (go_at_call 27; refine (new_ok N w (by omega) (by omega)).mono ?_; rintro e w1 ⟨b, rfl, hG, hg1⟩)
  have hR0 := IsRef.new w1 N
  have hG0 := hG.grew (Only.alloc (F := fun _ => False) w1 (.cells #[.int .i64 N, .slice none 0 0] 37))
  have hs1 := hg1.size
  have H0 := hid (And.intro hG0 (And.intro hR0 hg1))
  clear hG hG0 hR0 hg1
  go_loopw [37] (fun i wr => ∃ (k : Nat) (Fg Fr : Nat → Prop), i = .int .i64 k ∧ k ≤ l.length ∧ IsGraph wr Fg b N (addAll N [] (l.take k)) ∧ IsRef wr Fr w1.heap.size N (addAll N [] (l.take k)) ∧
    (∀ i, Fg i → ¬ Fr i) ∧ (∀ i, Fg i ∨ Fr i → w.heap.size ≤ i ∧ i < wr.heap.size) ∧ Only (fun i => w.heap.size ≤ i) w wr) (fun i _ => l.length - (intOf i).toNat)
  case atStart =>
    refine ⟨0, _, _, rfl, by omega, by simpa [addAll] using H0.out.1, by simpa [addAll] using H0.out.2.1, ?_, ?_, Grew.to (Grew.trans H0.out.2.2 (Only.alloc _ _))⟩
    · intro i hi h; omega
    · intro i hi; simp; omega
  case round =>
    obtain ⟨k, Fg, Fr, rfl, hk, hG, hR, hdis, hin, hO⟩ := hrel
    have hlen := addAll_length (N : Int) [] (l.take k)
    have htl : (l.take k).length ≤ 150 := by rw [List.length_take]; omega
    simp only [List.length_nil, Nat.zero_add] at hlen
    have hsl := HL.out.1.grew (Fresh.grew hO)
    have hOs := hO.size
    have HIN := hid (And.intro hG (And.intro hR (And.intro hdis (And.intro hin hO))))
    clear hG hR hdis hin hO
    by_cases hlt : k < l.length
    · obtain ⟨bl, off, rfl, hcell⟩ := hsl (by omega)
      obtain ⟨c1, c2⟩ := hcell k hlt
      obtain ⟨⟨u, x⟩, hux⟩ : ∃ p, l[k]? = some p := ⟨l[k], by simp [hlt]⟩
      simp only [hux, Option.getD_some] at c1 c2
      have hok := HL.out.2 _ (List.mem_of_getElem? hux)
      have hsn := addAll_snoc (N : Int) [] l hux
      have HUX := hid (And.intro hok hsn)
      have hb0 : (k : Int) < (l.length : Int) := by omega
      clear hcell hsl hux hok hsn
      generalize hEk : addAll (N : Int) [] (l.take k) = Ek at *
      go_wp2_with fail
      have hG1 := HIN.out.1.grew (Only.alloc (F := fun _ => False) wr (.cells #[.int .i64 u, .int .i64 x] 39))
      have hR1 := HIN.out.2.1.grew (Only.alloc (F := fun _ => False) wr (.cells #[.int .i64 u, .int .i64 x] 39))
      have hO1 := HIN.out.2.2.2.2.trans (Only.alloc (F := fun _ => False) wr (.cells #[.int .i64 u, .int .i64 x] 39)) (fun _ _ h => h.elim)
      have hB8 := heap_alloc_new wr (.cells #[.int .i64 u, .int .i64 x] 39)
      have hWs : (wr.alloc (.cells #[.int .i64 u, .int .i64 x] 39)).heap.size = wr.heap.size + 1 := by simp
      generalize wr.alloc (.cells #[.int .i64 u, .int .i64 x] 39) = W at *
      have HADD : Hid (∀ X B1 t, Grew W X → X.heap[B1]? = some (.cells #[.int .i64 u, .int .i64 x] t (0, 0)) → W.heap.size ≤ B1 →
          Calls Try.prog 28 #[.pointer (some ⟨b, 0, none⟩), .slice (some ⟨B1, 0, none⟩) 1 1] X fun e w' => e = .returned (.int .i64 ((addAll N Ek [(u, x)]).length - Ek.length : Nat)) ∧
            Hid (IsGraph w' (fun i => Fg i ∨ (W.heap.size ≤ i ∧ i < w'.heap.size)) b N (addAll N Ek [(u, x)])) ∧ Hid (Only Fg X w')) := hid fun X B1 t hg hb hB1 =>
        (add_at b N Ek Fg (some ⟨B1, 0, none⟩) 1 [(u, x)] X (hG1.grew hg) (sl_one hb) (fun e he => (List.mem_singleton.1 he) ▸ HUX.out.1) (by rw [List.length_singleton]; omega) (fun blk off e h => by cases e; have := HIN.out.2.2.2.1 B1 (.inl h); omega)).mono fun e w' h => ⟨h.1, hid (h.2.1.mono (fun i _ hi => hi.imp id (fun q => ⟨Nat.le_trans hg.size q.1, q.2⟩))), hid h.2.2⟩
      have HRADD : Hid (∀ X B1 t Y, Only Fg W X → X.heap[B1]? = some (.cells #[.int .i64 u, .int .i64 x] t (0, 0)) → W.heap.size ≤ B1 → Y ≤ X.heap.size →
          Calls Try.prog 29 #[.pointer (some ⟨w1.heap.size, 0, none⟩), .slice (some ⟨B1, 0, none⟩) 1 1] X fun e w' => e = .returned (.int .i64 ((addAll N Ek [(u, x)]).length - Ek.length : Nat)) ∧
            Hid (IsRef w' (fun i => Fr i ∨ (Y ≤ i ∧ i < w'.heap.size)) w1.heap.size N (addAll N Ek [(u, x)])) ∧ Hid (Only Fr X w')) := hid fun X B1 t Y hg hb hB1 hY =>
        (radd_at w1.heap.size N Ek Fr (some ⟨B1, 0, none⟩) 1 [(u, x)] X (hR1.only hg (fun i hi h => HIN.out.2.2.1 i h hi)) (sl_one hb) (by rw [List.length_singleton]; omega) (fun blk off e h => by cases e; have := HIN.out.2.2.2.1 B1 (.inr h); omega)).mono fun e w' h => ⟨h.1, hid (h.2.1.mono (fun i _ hi => hi.imp id (fun q => ⟨Nat.le_trans hY q.1, q.2⟩))), hid h.2.2⟩
      obtain ⟨r, hr⟩ : ∃ r : Bool, decide ((u, x) ∈ addAll (N : Int) Ek [(u, x)]) = r := ⟨_, rfl⟩
      have hl1 := addAll_length (N : Int) Ek [(u, x)]
      rw [List.length_singleton] at hl1
      generalize hE' : addAll (N : Int) Ek [(u, x)] = E' at *
      have HNX : Hid (addAll (N : Int) [] (l.take (k + 1)) = E') := hid (HUX.out.2.trans hE')
      clear hE'
      generalize E'.length - Ek.length = cnt at *
      have HRR := hid hr
      clear hr
      have HS : Hid (∀ X, Only (fun i => Fg i ∨ Fr i) W X → X.cell? ⟨wr.heap.size, 0, none⟩ = some (.int .i64 u) ∧ X.cell? ⟨wr.heap.size, 1, none⟩ = some (.int .i64 x)) := hid fun X hX =>
        ⟨hX.cell (cell_of_row _ _ 0 _ _ _ hB8) (fun h => by have := HIN.out.2.2.2.1 _ h; simp at this), hX.cell (cell_of_row _ _ 1 _ _ _ hB8) (fun h => by have := HIN.out.2.2.2.1 _ h; simp at this)⟩
      have HO1 := hid (And.intro hO1 hB8)
      clear hG1 hR1 hO1 hB8
      go_cut [37, 60] from 37 to 61 (fun s37 s60 w' => s37 = .int .i64 k ∧ s60 = .bool false ∧ ∃ Fg' Fr' : Nat → Prop, IsGraph w' Fg' b N E' ∧ IsRef w' Fr' w1.heap.size N E' ∧
        (∀ i, Fg' i → ¬ Fr' i) ∧ (∀ i, Fg' i ∨ Fr' i → w.heap.size ≤ i ∧ i < w'.heap.size) ∧ Only (fun i => w.heap.size ≤ i) w w')
      case first =>
        have HHAS : Hid (∀ X (G : Nat → Prop), IsGraph X G b N E' → Calls Try.prog 30 #[.pointer (some ⟨b, 0, none⟩), .agg #[.int .i64 u, .int .i64 x]] X fun e w' => e = .returned (.bool r) ∧ Grew X w') := hid fun X G hX => has_is b N u x E' G X r HRR.out hX HUX.out.1
        have HRHAS : Hid (∀ X (G : Nat → Prop), IsRef X G w1.heap.size N E' → Calls Try.prog 31 #[.pointer (some ⟨w1.heap.size, 0, none⟩), .agg #[.int .i64 u, .int .i64 x]] X fun e w' => e = .returned (.bool r) ∧ Grew X w') := hid fun X G hX => rhas_is w1.heap.size N E' G u x X r HRR.out hX
        generalize w1.heap.size = b2 at *
        generalize wr.heap.size = B8 at *
        have HN1 : Hid (∀ o, (W.alloc o).heap[B8 + 1]? = some o) := hid fun o => hWs ▸ heap_alloc_new W o
        have HN2 : Hid (∀ o o', ((W.alloc o).alloc o').heap[B8 + 1]? = some o) := hid fun o o' => (Only.alloc (F := fun _ => False) _ o').heap (HN1.out o) (fun h => h)
        have HN3 : Hid (∀ o o', ((W.alloc o).alloc o').heap[B8 + 2]? = some o') := hid fun o o' => by have h := heap_alloc_new (W.alloc o) o'; simpa [hWs] using h
        cases r
        · refine wp_region_held_drew (S := (fun w' => w'.cell? ⟨B8, 0, none⟩ = some (.int .i64 u) ∧ w'.cell? ⟨B8, 1, none⟩ = some (.int .i64 x))) (by kernel_rfl) (HS.out _ (Only.drew _)) (fun hHeld => ?_)
          refine wpAnyH_take (i := 0) (v := ?_) rfl (by kernel_rfl) (by kernel_rfl) (by kernel_rfl) (fun _ _ _ h => h) (Or.inl ⟨by rfl, ?_⟩) hHeld ?_
          rotate_left
          focus (intro wz hz; obtain ⟨z1, z2⟩ := hz; go_simp; try with_reducible rfl)
          refine wpAnyH_take (i := 1) (v := ?_) rfl (by kernel_rfl) (by kernel_rfl) (by kernel_rfl) (fun _ _ _ h => h) (Or.inl ⟨by rfl, ?_⟩) hHeld ?_
          rotate_left
          focus (intro wz hz; obtain ⟨z1, z2⟩ := hz; go_simp; try with_reducible rfl)
          refine wpAnyH_take (i := 4) (v := ?_) rfl (by kernel_rfl) (by kernel_rfl) (by kernel_rfl) (fun _ _ _ h => h) (Or.inl ⟨by rfl, ?_⟩) hHeld ?_
          rotate_left
          focus (intro wz hz; obtain ⟨z1, z2⟩ := hz; go_simp; try with_reducible rfl)
          refine wpAnyH_take (i := 5) (v := ?_) rfl (by kernel_rfl) (by kernel_rfl) (by kernel_rfl) (fun _ _ _ h => h) (Or.inl ⟨by rfl, ?_⟩) hHeld ?_
          rotate_left
          focus (intro wz hz; obtain ⟨z1, z2⟩ := hz; go_simp; try with_reducible rfl)
          refine wpAnyH_ready (rs := [2, 6]) (by kernel_rfl) (by simp) ?_
          refine AllReadyH.cons rfl (fun K hK => ?_) ?_
          · skip
            rw [if_pos (by rfl)]
            go_simp
            refine hK.out _ _ (HS.out _ (Only.trans (Only.alloc _ _) (Only.drew _) (fun _ _ h => h))) (fun hHeld => ?_)
            clear hK K
            refine wpAnyH_ready (rs := [3, 6]) (by kernel_rfl) (by simp) ?_
            refine AllReadyH.cons rfl (fun K hK => ?_) ?_
            · skip
              rw [if_pos (by rfl)]
              go_simp
              refine (HADD.out _ _ 41 (Only.trans (Only.alloc _ _) (Only.drew _) (fun _ _ h => h)) (HN1.out _) (by omega)).mono ?_
              rintro e wA ⟨rfl, HGA, HOA⟩
              have qA : Only Fg W wA := Only.trans (Only.trans (Only.alloc _ _) (Only.drew _) (fun _ _ h => h)) HOA.out (fun _ _ h => h)
              have hA : Only (fun i => Fg i ∨ Fr i) W wA := qA.mono (fun _ _ h => .inl h)
              have qAs := qA.size
              refine hK.out _ _ (HS.out _ hA) (fun hHeld => ?_)
              clear hK K
              refine wpAnyH_ready (rs := [6]) (by kernel_rfl) (by simp) ?_
              refine AllReadyH.cons rfl (fun K hK => ?_) ?_
              rotate_left
              exact AllReadyH.nil
              rw [if_pos (by rfl)]
              go_simp
              refine hK.out _ _ (HS.out _ (hA.trans (Only.alloc _ _) (fun _ _ h => h))) (fun hHeld => ?_)
              clear hK K
              refine wpAnyH_ready (rs := [7]) (by kernel_rfl) (by simp) ?_
              refine AllReadyH.cons rfl (fun K hK => ?_) ?_
              rotate_left
              exact AllReadyH.nil
              rw [if_pos (by rfl)]
              go_simp
              refine (HRADD.out _ _ 39 wA.heap.size (qA.trans (Only.alloc _ _) (fun _ _ h => h)) (heap_alloc_new wA _) (by omega) (by simp)).mono ?_
              rintro e wB ⟨rfl, HRB, HOB⟩
              have qB : Only Fr wA wB := (Only.alloc _ _).trans HOB.out (fun _ _ h => h)
              have hB : Only (fun i => Fg i ∨ Fr i) W wB := hA.trans qB (fun _ _ h => .inr h)
              have HGB : Hid (IsGraph wB (fun i => Fg i ∨ (W.heap.size ≤ i ∧ i < wA.heap.size)) b N E') := hid (HGA.out.only qB (fun i hi h => hi.elim (fun hi => HIN.out.2.2.1 i hi h) (fun hi => by have := HIN.out.2.2.2.1 i (.inr h); omega)))
              refine hK.out _ _ (HS.out _ hB) (fun hHeld => ?_)
              clear hK K
              refine wpAnyH_take (i := 8) (v := ?_) rfl (by kernel_rfl) (by kernel_rfl) (by kernel_rfl) (fun _ _ _ h => h) (Or.inl ⟨by rfl, ?_⟩) hHeld ?_
              rotate_left
              focus (intro wz hz; obtain ⟨z1, z2⟩ := hz; go_simp; try with_reducible rfl)
              refine wpAnyH_take (i := 9) (v := ?_) rfl (by kernel_rfl) (by kernel_rfl) (by kernel_rfl) (fun _ _ _ h => h) (Or.inl ⟨by rfl, ?_⟩) hHeld ?_
              rotate_left
              focus (intro wz hz; obtain ⟨z1, z2⟩ := hz; go_simp; try with_reducible rfl)
              refine wpAnyH_take (i := 10) (v := ?_) rfl (by kernel_rfl) (by kernel_rfl) (by kernel_rfl) (fun _ _ _ h => h) (Or.inl ⟨by rfl, ?_⟩) hHeld ?_
              rotate_left
              focus (intro wz hz; obtain ⟨z1, z2⟩ := hz; go_simp; try with_reducible rfl)
              refine wpAnyH_take (i := 11) (v := ?_) rfl (by kernel_rfl) (by kernel_rfl) (by kernel_rfl) (fun _ _ _ h => h) (Or.inl ⟨by rfl, ?_⟩) hHeld ?_
              rotate_left
              focus (intro wz hz; obtain ⟨z1, z2⟩ := hz; go_simp; try with_reducible rfl)
              refine wpAnyH_ready (rs := [12]) (by kernel_rfl) (by simp) ?_
              refine AllReadyH.cons rfl (fun K hK => ?_) ?_
              rotate_left
              exact AllReadyH.nil
              rw [if_pos (by rfl)]
              go_simp
              refine (HHAS.out _ _ HGB.out).mono ?_
              rintro e wC ⟨rfl, hBC⟩
              refine hK.out _ _ (HS.out _ (hB.trans hBC (fun _ _ h => h.elim))) (fun hHeld => ?_)
              clear hK K
              refine wpAnyH_take (i := 13) (v := ?_) rfl (by kernel_rfl) (by kernel_rfl) (by kernel_rfl) (fun _ _ _ h => h) (Or.inl ⟨by rfl, ?_⟩) hHeld ?_
              rotate_left
              focus (intro wz hz; obtain ⟨z1, z2⟩ := hz; go_simp; try with_reducible rfl)
              refine wpAnyH_take (i := 14) (v := ?_) rfl (by kernel_rfl) (by kernel_rfl) (by kernel_rfl) (fun _ _ _ h => h) (Or.inl ⟨by rfl, ?_⟩) hHeld ?_
              rotate_left
              focus (intro wz hz; obtain ⟨z1, z2⟩ := hz; go_simp; try with_reducible rfl)
              refine wpAnyH_take (i := 15) (v := ?_) rfl (by kernel_rfl) (by kernel_rfl) (by kernel_rfl) (fun _ _ _ h => h) (Or.inl ⟨by rfl, ?_⟩) hHeld ?_
              rotate_left
              focus (intro wz hz; obtain ⟨z1, z2⟩ := hz; go_simp; try with_reducible rfl)
              refine wpAnyH_take (i := 16) (v := ?_) rfl (by kernel_rfl) (by kernel_rfl) (by kernel_rfl) (fun _ _ _ h => h) (Or.inl ⟨by rfl, ?_⟩) hHeld ?_
              rotate_left
              focus (intro wz hz; obtain ⟨z1, z2⟩ := hz; go_simp; try with_reducible rfl)
              refine wpAnyH_ready (rs := [17]) (by kernel_rfl) (by simp) ?_
              refine AllReadyH.cons rfl (fun K hK => ?_) ?_
              rotate_left
              exact AllReadyH.nil
              rw [if_pos (by rfl)]
              go_simp
              refine (HRHAS.out _ _ (HRB.out.grew hBC)).mono ?_
              rintro e wD ⟨rfl, hCD⟩
              have hBf : Grew wB wD := Grew.trans hBC hCD
              refine hK.out _ _ (HS.out _ ((hB.trans hBC (fun _ _ h => h.elim)).trans hCD (fun _ _ h => h.elim))) (fun hHeld => ?_)
              clear hK K
              refine wpAnyH_take (i := 18) (v := ?_) rfl (by kernel_rfl) (by kernel_rfl) (by kernel_rfl) (fun _ _ _ h => h) (Or.inl ⟨by rfl, ?_⟩) hHeld ?_
              rotate_left
              focus (intro wz hz; obtain ⟨z1, z2⟩ := hz; go_simp; try with_reducible rfl)
              refine wpAnyH_take (i := 19) (v := ?_) rfl (by kernel_rfl) (by kernel_rfl) (by kernel_rfl) (fun _ _ _ h => h) (Or.inl ⟨by rfl, ?_⟩) hHeld ?_
              rotate_left
              focus (intro wz hz; obtain ⟨z1, z2⟩ := hz; go_simp; try with_reducible rfl)
              refine wpAnyH_done (by kernel_rfl) ?_ _
              have HF := hid (And.intro qB (And.intro hB hBf))
              clear hHeld
              go_wp2_with fail
              go_meet
              exact ⟨rfl, rfl, _, _, HGB.out.grew HF.out.2.2, HRB.out.grew HF.out.2.2, adds_apart HIN.out.2.2.1 HIN.out.2.2.2.1 (by omega), adds_in HIN.out.2.2.2.1 (by have := HIN.out.2.2.2.2.size; omega) (by have := HF.out.1.size; omega) HF.out.2.2.size, adds_only HIN.out.2.2.2.1 HO1.out.1 HF.out.2.1 HF.out.2.2⟩
            · refine AllReadyH.cons rfl (fun K hK => ?_) AllReadyH.nil
              rw [if_pos (by rfl)]
              go_simp
              refine hK.out _ _ (HS.out _ (Only.trans (Only.alloc _ _) (Only.trans (Only.alloc _ _) (Only.drew _) (fun _ _ h => h)) (fun _ _ h => h))) (fun hHeld => ?_)
              clear hK K
              refine wpAnyH_ready (rs := [3]) (by kernel_rfl) (by simp) ?_
              refine AllReadyH.cons rfl (fun K hK => ?_) ?_
              rotate_left
              exact AllReadyH.nil
              rw [if_pos (by rfl)]
              go_simp
              refine (HADD.out _ _ 41 (Only.trans (Only.alloc _ _) (Only.trans (Only.alloc _ _) (Only.drew _) (fun _ _ h => h)) (fun _ _ h => h)) (HN2.out _ _) (by omega)).mono ?_
              rintro e wA ⟨rfl, HGA, HOA⟩
              have qA : Only Fg W wA := Only.trans (Only.trans (Only.alloc _ _) (Only.trans (Only.alloc _ _) (Only.drew _) (fun _ _ h => h)) (fun _ _ h => h)) HOA.out (fun _ _ h => h)
              have hA : Only (fun i => Fg i ∨ Fr i) W wA := qA.mono (fun _ _ h => .inl h)
              have qAs := qA.size
              refine hK.out _ _ (HS.out _ hA) (fun hHeld => ?_)
              clear hK K
              refine wpAnyH_ready (rs := [7]) (by kernel_rfl) (by simp) ?_
              refine AllReadyH.cons rfl (fun K hK => ?_) ?_
              rotate_left
              exact AllReadyH.nil
              rw [if_pos (by rfl)]
              go_simp
              refine (HRADD.out _ _ 39 wA.heap.size (qA) (HOA.out.heap (HN3.out _ _) (fun h => by have := HIN.out.2.2.2.1 _ (.inl h); omega)) (by omega) (by simp)).mono ?_
              rintro e wB ⟨rfl, HRB, HOB⟩
              have qB : Only Fr wA wB := HOB.out
              have hB : Only (fun i => Fg i ∨ Fr i) W wB := hA.trans qB (fun _ _ h => .inr h)
              have HGB : Hid (IsGraph wB (fun i => Fg i ∨ (W.heap.size ≤ i ∧ i < wA.heap.size)) b N E') := hid (HGA.out.only qB (fun i hi h => hi.elim (fun hi => HIN.out.2.2.1 i hi h) (fun hi => by have := HIN.out.2.2.2.1 i (.inr h); omega)))
              refine hK.out _ _ (HS.out _ hB) (fun hHeld => ?_)
              clear hK K
              refine wpAnyH_take (i := 8) (v := ?_) rfl (by kernel_rfl) (by kernel_rfl) (by kernel_rfl) (fun _ _ _ h => h) (Or.inl ⟨by rfl, ?_⟩) hHeld ?_
              rotate_left
              focus (intro wz hz; obtain ⟨z1, z2⟩ := hz; go_simp; try with_reducible rfl)
              refine wpAnyH_take (i := 9) (v := ?_) rfl (by kernel_rfl) (by kernel_rfl) (by kernel_rfl) (fun _ _ _ h => h) (Or.inl ⟨by rfl, ?_⟩) hHeld ?_
              rotate_left
              focus (intro wz hz; obtain ⟨z1, z2⟩ := hz; go_simp; try with_reducible rfl)
              refine wpAnyH_take (i := 10) (v := ?_) rfl (by kernel_rfl) (by kernel_rfl) (by kernel_rfl) (fun _ _ _ h => h) (Or.inl ⟨by rfl, ?_⟩) hHeld ?_
              rotate_left
              focus (intro wz hz; obtain ⟨z1, z2⟩ := hz; go_simp; try with_reducible rfl)
              refine wpAnyH_take (i := 11) (v := ?_) rfl (by kernel_rfl) (by kernel_rfl) (by kernel_rfl) (fun _ _ _ h => h) (Or.inl ⟨by rfl, ?_⟩) hHeld ?_
              rotate_left
              focus (intro wz hz; obtain ⟨z1, z2⟩ := hz; go_simp; try with_reducible rfl)
              refine wpAnyH_ready (rs := [12]) (by kernel_rfl) (by simp) ?_
              refine AllReadyH.cons rfl (fun K hK => ?_) ?_
              rotate_left
              exact AllReadyH.nil
              rw [if_pos (by rfl)]
              go_simp
              refine (HHAS.out _ _ HGB.out).mono ?_
              rintro e wC ⟨rfl, hBC⟩
              refine hK.out _ _ (HS.out _ (hB.trans hBC (fun _ _ h => h.elim))) (fun hHeld => ?_)
              clear hK K
              refine wpAnyH_take (i := 13) (v := ?_) rfl (by kernel_rfl) (by kernel_rfl) (by kernel_rfl) (fun _ _ _ h => h) (Or.inl ⟨by rfl, ?_⟩) hHeld ?_
              rotate_left
              focus (intro wz hz; obtain ⟨z1, z2⟩ := hz; go_simp; try with_reducible rfl)
              refine wpAnyH_take (i := 14) (v := ?_) rfl (by kernel_rfl) (by kernel_rfl) (by kernel_rfl) (fun _ _ _ h => h) (Or.inl ⟨by rfl, ?_⟩) hHeld ?_
              rotate_left
              focus (intro wz hz; obtain ⟨z1, z2⟩ := hz; go_simp; try with_reducible rfl)
              refine wpAnyH_take (i := 15) (v := ?_) rfl (by kernel_rfl) (by kernel_rfl) (by kernel_rfl) (fun _ _ _ h => h) (Or.inl ⟨by rfl, ?_⟩) hHeld ?_
              rotate_left
              focus (intro wz hz; obtain ⟨z1, z2⟩ := hz; go_simp; try with_reducible rfl)
              refine wpAnyH_take (i := 16) (v := ?_) rfl (by kernel_rfl) (by kernel_rfl) (by kernel_rfl) (fun _ _ _ h => h) (Or.inl ⟨by rfl, ?_⟩) hHeld ?_
              rotate_left
              focus (intro wz hz; obtain ⟨z1, z2⟩ := hz; go_simp; try with_reducible rfl)
              refine wpAnyH_ready (rs := [17]) (by kernel_rfl) (by simp) ?_
              refine AllReadyH.cons rfl (fun K hK => ?_) ?_
              rotate_left
              exact AllReadyH.nil
              rw [if_pos (by rfl)]
              go_simp
              refine (HRHAS.out _ _ (HRB.out.grew hBC)).mono ?_
              rintro e wD ⟨rfl, hCD⟩
              have hBf : Grew wB wD := Grew.trans hBC hCD
              refine hK.out _ _ (HS.out _ ((hB.trans hBC (fun _ _ h => h.elim)).trans hCD (fun _ _ h => h.elim))) (fun hHeld => ?_)
              clear hK K
              refine wpAnyH_take (i := 18) (v := ?_) rfl (by kernel_rfl) (by kernel_rfl) (by kernel_rfl) (fun _ _ _ h => h) (Or.inl ⟨by rfl, ?_⟩) hHeld ?_
              rotate_left
              focus (intro wz hz; obtain ⟨z1, z2⟩ := hz; go_simp; try with_reducible rfl)
              refine wpAnyH_take (i := 19) (v := ?_) rfl (by kernel_rfl) (by kernel_rfl) (by kernel_rfl) (fun _ _ _ h => h) (Or.inl ⟨by rfl, ?_⟩) hHeld ?_
              rotate_left
              focus (intro wz hz; obtain ⟨z1, z2⟩ := hz; go_simp; try with_reducible rfl)
              refine wpAnyH_done (by kernel_rfl) ?_ _
              have HF := hid (And.intro qB (And.intro hB hBf))
              clear hHeld
              go_wp2_with fail
              go_meet
              exact ⟨rfl, rfl, _, _, HGB.out.grew HF.out.2.2, HRB.out.grew HF.out.2.2, adds_apart HIN.out.2.2.1 HIN.out.2.2.2.1 (by omega), adds_in HIN.out.2.2.2.1 (by have := HIN.out.2.2.2.2.size; omega) (by have := HF.out.1.size; omega) HF.out.2.2.size, adds_only HIN.out.2.2.2.1 HO1.out.1 HF.out.2.1 HF.out.2.2⟩
          · refine AllReadyH.cons rfl (fun K hK => ?_) AllReadyH.nil
            rw [if_pos (by rfl)]
            go_simp
            refine hK.out _ _ (HS.out _ (Only.trans (Only.alloc _ _) (Only.drew _) (fun _ _ h => h))) (fun hHeld => ?_)
            clear hK K
            refine wpAnyH_ready (rs := [2]) (by kernel_rfl) (by simp) ?_
            refine AllReadyH.cons rfl (fun K hK => ?_) ?_
            rotate_left
            exact AllReadyH.nil
            rw [if_pos (by rfl)]
            go_simp
            refine hK.out _ _ (HS.out _ (Only.trans (Only.alloc _ _) (Only.trans (Only.alloc _ _) (Only.drew _) (fun _ _ h => h)) (fun _ _ h => h))) (fun hHeld => ?_)
            clear hK K
            refine wpAnyH_ready (rs := [3]) (by kernel_rfl) (by simp) ?_
            refine AllReadyH.cons rfl (fun K hK => ?_) ?_
            rotate_left
            exact AllReadyH.nil
            rw [if_pos (by rfl)]
            go_simp
            refine (HADD.out _ _ 41 (Only.trans (Only.alloc _ _) (Only.trans (Only.alloc _ _) (Only.drew _) (fun _ _ h => h)) (fun _ _ h => h)) (HN3.out _ _) (by omega)).mono ?_
            rintro e wA ⟨rfl, HGA, HOA⟩
            have qA : Only Fg W wA := Only.trans (Only.trans (Only.alloc _ _) (Only.trans (Only.alloc _ _) (Only.drew _) (fun _ _ h => h)) (fun _ _ h => h)) HOA.out (fun _ _ h => h)
            have hA : Only (fun i => Fg i ∨ Fr i) W wA := qA.mono (fun _ _ h => .inl h)
            have qAs := qA.size
            refine hK.out _ _ (HS.out _ hA) (fun hHeld => ?_)
            clear hK K
            refine wpAnyH_ready (rs := [7]) (by kernel_rfl) (by simp) ?_
            refine AllReadyH.cons rfl (fun K hK => ?_) ?_
            rotate_left
            exact AllReadyH.nil
            rw [if_pos (by rfl)]
            go_simp
            refine (HRADD.out _ _ 39 wA.heap.size (qA) (HOA.out.heap (HN2.out _ _) (fun h => by have := HIN.out.2.2.2.1 _ (.inl h); omega)) (by omega) (by simp)).mono ?_
            rintro e wB ⟨rfl, HRB, HOB⟩
            have qB : Only Fr wA wB := HOB.out
            have hB : Only (fun i => Fg i ∨ Fr i) W wB := hA.trans qB (fun _ _ h => .inr h)
            have HGB : Hid (IsGraph wB (fun i => Fg i ∨ (W.heap.size ≤ i ∧ i < wA.heap.size)) b N E') := hid (HGA.out.only qB (fun i hi h => hi.elim (fun hi => HIN.out.2.2.1 i hi h) (fun hi => by have := HIN.out.2.2.2.1 i (.inr h); omega)))
            refine hK.out _ _ (HS.out _ hB) (fun hHeld => ?_)
            clear hK K
            refine wpAnyH_take (i := 8) (v := ?_) rfl (by kernel_rfl) (by kernel_rfl) (by kernel_rfl) (fun _ _ _ h => h) (Or.inl ⟨by rfl, ?_⟩) hHeld ?_
            rotate_left
            focus (intro wz hz; obtain ⟨z1, z2⟩ := hz; go_simp; try with_reducible rfl)
            refine wpAnyH_take (i := 9) (v := ?_) rfl (by kernel_rfl) (by kernel_rfl) (by kernel_rfl) (fun _ _ _ h => h) (Or.inl ⟨by rfl, ?_⟩) hHeld ?_
            rotate_left
            focus (intro wz hz; obtain ⟨z1, z2⟩ := hz; go_simp; try with_reducible rfl)
            refine wpAnyH_take (i := 10) (v := ?_) rfl (by kernel_rfl) (by kernel_rfl) (by kernel_rfl) (fun _ _ _ h => h) (Or.inl ⟨by rfl, ?_⟩) hHeld ?_
            rotate_left
            focus (intro wz hz; obtain ⟨z1, z2⟩ := hz; go_simp; try with_reducible rfl)
            refine wpAnyH_take (i := 11) (v := ?_) rfl (by kernel_rfl) (by kernel_rfl) (by kernel_rfl) (fun _ _ _ h => h) (Or.inl ⟨by rfl, ?_⟩) hHeld ?_
            rotate_left
            focus (intro wz hz; obtain ⟨z1, z2⟩ := hz; go_simp; try with_reducible rfl)
            refine wpAnyH_ready (rs := [12]) (by kernel_rfl) (by simp) ?_
            refine AllReadyH.cons rfl (fun K hK => ?_) ?_
            rotate_left
            exact AllReadyH.nil
            rw [if_pos (by rfl)]
            go_simp
            refine (HHAS.out _ _ HGB.out).mono ?_
            rintro e wC ⟨rfl, hBC⟩
            refine hK.out _ _ (HS.out _ (hB.trans hBC (fun _ _ h => h.elim))) (fun hHeld => ?_)
            clear hK K
            refine wpAnyH_take (i := 13) (v := ?_) rfl (by kernel_rfl) (by kernel_rfl) (by kernel_rfl) (fun _ _ _ h => h) (Or.inl ⟨by rfl, ?_⟩) hHeld ?_
            rotate_left
            focus (intro wz hz; obtain ⟨z1, z2⟩ := hz; go_simp; try with_reducible rfl)
            refine wpAnyH_take (i := 14) (v := ?_) rfl (by kernel_rfl) (by kernel_rfl) (by kernel_rfl) (fun _ _ _ h => h) (Or.inl ⟨by rfl, ?_⟩) hHeld ?_
            rotate_left
            focus (intro wz hz; obtain ⟨z1, z2⟩ := hz; go_simp; try with_reducible rfl)
            refine wpAnyH_take (i := 15) (v := ?_) rfl (by kernel_rfl) (by kernel_rfl) (by kernel_rfl) (fun _ _ _ h => h) (Or.inl ⟨by rfl, ?_⟩) hHeld ?_
            rotate_left
            focus (intro wz hz; obtain ⟨z1, z2⟩ := hz; go_simp; try with_reducible rfl)
            refine wpAnyH_take (i := 16) (v := ?_) rfl (by kernel_rfl) (by kernel_rfl) (by kernel_rfl) (fun _ _ _ h => h) (Or.inl ⟨by rfl, ?_⟩) hHeld ?_
            rotate_left
            focus (intro wz hz; obtain ⟨z1, z2⟩ := hz; go_simp; try with_reducible rfl)
            refine wpAnyH_ready (rs := [17]) (by kernel_rfl) (by simp) ?_
            refine AllReadyH.cons rfl (fun K hK => ?_) ?_
            rotate_left
            exact AllReadyH.nil
            rw [if_pos (by rfl)]
            go_simp
            refine (HRHAS.out _ _ (HRB.out.grew hBC)).mono ?_
            rintro e wD ⟨rfl, hCD⟩
            have hBf : Grew wB wD := Grew.trans hBC hCD
            refine hK.out _ _ (HS.out _ ((hB.trans hBC (fun _ _ h => h.elim)).trans hCD (fun _ _ h => h.elim))) (fun hHeld => ?_)
            clear hK K
            refine wpAnyH_take (i := 18) (v := ?_) rfl (by kernel_rfl) (by kernel_rfl) (by kernel_rfl) (fun _ _ _ h => h) (Or.inl ⟨by rfl, ?_⟩) hHeld ?_
            rotate_left
            focus (intro wz hz; obtain ⟨z1, z2⟩ := hz; go_simp; try with_reducible rfl)
            refine wpAnyH_take (i := 19) (v := ?_) rfl (by kernel_rfl) (by kernel_rfl) (by kernel_rfl) (fun _ _ _ h => h) (Or.inl ⟨by rfl, ?_⟩) hHeld ?_
            rotate_left
            focus (intro wz hz; obtain ⟨z1, z2⟩ := hz; go_simp; try with_reducible rfl)
            refine wpAnyH_done (by kernel_rfl) ?_ _
            have HF := hid (And.intro qB (And.intro hB hBf))
            clear hHeld
            go_wp2_with fail
            go_meet
            exact ⟨rfl, rfl, _, _, HGB.out.grew HF.out.2.2, HRB.out.grew HF.out.2.2, adds_apart HIN.out.2.2.1 HIN.out.2.2.2.1 (by omega), adds_in HIN.out.2.2.2.1 (by have := HIN.out.2.2.2.2.size; omega) (by have := HF.out.1.size; omega) HF.out.2.2.size, adds_only HIN.out.2.2.2.1 HO1.out.1 HF.out.2.1 HF.out.2.2⟩
        · refine wp_region_held_drew (S := (fun w' => w'.cell? ⟨B8, 0, none⟩ = some (.int .i64 u) ∧ w'.cell? ⟨B8, 1, none⟩ = some (.int .i64 x))) (by kernel_rfl) (HS.out _ (Only.drew _)) (fun hHeld => ?_)
          refine wpAnyH_take (i := 0) (v := ?_) rfl (by kernel_rfl) (by kernel_rfl) (by kernel_rfl) (fun _ _ _ h => h) (Or.inl ⟨by rfl, ?_⟩) hHeld ?_
          rotate_left
          focus (intro wz hz; obtain ⟨z1, z2⟩ := hz; go_simp; try with_reducible rfl)
          refine wpAnyH_take (i := 1) (v := ?_) rfl (by kernel_rfl) (by kernel_rfl) (by kernel_rfl) (fun _ _ _ h => h) (Or.inl ⟨by rfl, ?_⟩) hHeld ?_
          rotate_left
          focus (intro wz hz; obtain ⟨z1, z2⟩ := hz; go_simp; try with_reducible rfl)
          refine wpAnyH_take (i := 4) (v := ?_) rfl (by kernel_rfl) (by kernel_rfl) (by kernel_rfl) (fun _ _ _ h => h) (Or.inl ⟨by rfl, ?_⟩) hHeld ?_
          rotate_left
          focus (intro wz hz; obtain ⟨z1, z2⟩ := hz; go_simp; try with_reducible rfl)
          refine wpAnyH_take (i := 5) (v := ?_) rfl (by kernel_rfl) (by kernel_rfl) (by kernel_rfl) (fun _ _ _ h => h) (Or.inl ⟨by rfl, ?_⟩) hHeld ?_
          rotate_left
          focus (intro wz hz; obtain ⟨z1, z2⟩ := hz; go_simp; try with_reducible rfl)
          refine wpAnyH_ready (rs := [2, 6]) (by kernel_rfl) (by simp) ?_
          refine AllReadyH.cons rfl (fun K hK => ?_) ?_
          · skip
            rw [if_pos (by rfl)]
            go_simp
            refine hK.out _ _ (HS.out _ (Only.trans (Only.alloc _ _) (Only.drew _) (fun _ _ h => h))) (fun hHeld => ?_)
            clear hK K
            refine wpAnyH_ready (rs := [3, 6]) (by kernel_rfl) (by simp) ?_
            refine AllReadyH.cons rfl (fun K hK => ?_) ?_
            · skip
              rw [if_pos (by rfl)]
              go_simp
              refine (HADD.out _ _ 41 (Only.trans (Only.alloc _ _) (Only.drew _) (fun _ _ h => h)) (HN1.out _) (by omega)).mono ?_
              rintro e wA ⟨rfl, HGA, HOA⟩
              have qA : Only Fg W wA := Only.trans (Only.trans (Only.alloc _ _) (Only.drew _) (fun _ _ h => h)) HOA.out (fun _ _ h => h)
              have hA : Only (fun i => Fg i ∨ Fr i) W wA := qA.mono (fun _ _ h => .inl h)
              have qAs := qA.size
              refine hK.out _ _ (HS.out _ hA) (fun hHeld => ?_)
              clear hK K
              refine wpAnyH_ready (rs := [6]) (by kernel_rfl) (by simp) ?_
              refine AllReadyH.cons rfl (fun K hK => ?_) ?_
              rotate_left
              exact AllReadyH.nil
              rw [if_pos (by rfl)]
              go_simp
              refine hK.out _ _ (HS.out _ (hA.trans (Only.alloc _ _) (fun _ _ h => h))) (fun hHeld => ?_)
              clear hK K
              refine wpAnyH_ready (rs := [7]) (by kernel_rfl) (by simp) ?_
              refine AllReadyH.cons rfl (fun K hK => ?_) ?_
              rotate_left
              exact AllReadyH.nil
              rw [if_pos (by rfl)]
              go_simp
              refine (HRADD.out _ _ 39 wA.heap.size (qA.trans (Only.alloc _ _) (fun _ _ h => h)) (heap_alloc_new wA _) (by omega) (by simp)).mono ?_
              rintro e wB ⟨rfl, HRB, HOB⟩
              have qB : Only Fr wA wB := (Only.alloc _ _).trans HOB.out (fun _ _ h => h)
              have hB : Only (fun i => Fg i ∨ Fr i) W wB := hA.trans qB (fun _ _ h => .inr h)
              have HGB : Hid (IsGraph wB (fun i => Fg i ∨ (W.heap.size ≤ i ∧ i < wA.heap.size)) b N E') := hid (HGA.out.only qB (fun i hi h => hi.elim (fun hi => HIN.out.2.2.1 i hi h) (fun hi => by have := HIN.out.2.2.2.1 i (.inr h); omega)))
              refine hK.out _ _ (HS.out _ hB) (fun hHeld => ?_)
              clear hK K
              refine wpAnyH_take (i := 8) (v := ?_) rfl (by kernel_rfl) (by kernel_rfl) (by kernel_rfl) (fun _ _ _ h => h) (Or.inl ⟨by rfl, ?_⟩) hHeld ?_
              rotate_left
              focus (intro wz hz; obtain ⟨z1, z2⟩ := hz; go_simp; try with_reducible rfl)
              refine wpAnyH_take (i := 9) (v := ?_) rfl (by kernel_rfl) (by kernel_rfl) (by kernel_rfl) (fun _ _ _ h => h) (Or.inl ⟨by rfl, ?_⟩) hHeld ?_
              rotate_left
              focus (intro wz hz; obtain ⟨z1, z2⟩ := hz; go_simp; try with_reducible rfl)
              refine wpAnyH_take (i := 10) (v := ?_) rfl (by kernel_rfl) (by kernel_rfl) (by kernel_rfl) (fun _ _ _ h => h) (Or.inl ⟨by rfl, ?_⟩) hHeld ?_
              rotate_left
              focus (intro wz hz; obtain ⟨z1, z2⟩ := hz; go_simp; try with_reducible rfl)
              refine wpAnyH_take (i := 11) (v := ?_) rfl (by kernel_rfl) (by kernel_rfl) (by kernel_rfl) (fun _ _ _ h => h) (Or.inl ⟨by rfl, ?_⟩) hHeld ?_
              rotate_left
              focus (intro wz hz; obtain ⟨z1, z2⟩ := hz; go_simp; try with_reducible rfl)
              refine wpAnyH_ready (rs := [12]) (by kernel_rfl) (by simp) ?_
              refine AllReadyH.cons rfl (fun K hK => ?_) ?_
              rotate_left
              exact AllReadyH.nil
              rw [if_pos (by rfl)]
              go_simp
              refine (HHAS.out _ _ HGB.out).mono ?_
              rintro e wC ⟨rfl, hBC⟩
              refine hK.out _ _ (HS.out _ (hB.trans hBC (fun _ _ h => h.elim))) (fun hHeld => ?_)
              clear hK K
              refine wpAnyH_take (i := 13) (v := ?_) rfl (by kernel_rfl) (by kernel_rfl) (by kernel_rfl) (fun _ _ _ h => h) (Or.inl ⟨by rfl, ?_⟩) hHeld ?_
              rotate_left
              focus (intro wz hz; obtain ⟨z1, z2⟩ := hz; go_simp; try with_reducible rfl)
              refine wpAnyH_take (i := 14) (v := ?_) rfl (by kernel_rfl) (by kernel_rfl) (by kernel_rfl) (fun _ _ _ h => h) (Or.inl ⟨by rfl, ?_⟩) hHeld ?_
              rotate_left
              focus (intro wz hz; obtain ⟨z1, z2⟩ := hz; go_simp; try with_reducible rfl)
              refine wpAnyH_take (i := 15) (v := undef) rfl (by kernel_rfl) (by kernel_rfl) (by kernel_rfl) (fun _ _ _ h => h) (Or.inr ⟨by rfl, rfl⟩) hHeld ?_
              refine wpAnyH_take (i := 16) (v := undef) rfl (by kernel_rfl) (by kernel_rfl) (by kernel_rfl) (fun _ _ _ h => h) (Or.inr ⟨by rfl, rfl⟩) hHeld ?_
              refine wpAnyH_take (i := 17) (v := undef) rfl (by kernel_rfl) (by kernel_rfl) (by kernel_rfl) (fun _ _ _ h => h) (Or.inr ⟨by rfl, rfl⟩) hHeld ?_
              have hBf : Grew wB wC := hBC
              refine wpAnyH_take (i := 18) (v := ?_) rfl (by kernel_rfl) (by kernel_rfl) (by kernel_rfl) (fun _ _ _ h => h) (Or.inl ⟨by rfl, ?_⟩) hHeld ?_
              rotate_left
              focus (intro wz hz; obtain ⟨z1, z2⟩ := hz; go_simp; try with_reducible rfl)
              refine wpAnyH_take (i := 19) (v := ?_) rfl (by kernel_rfl) (by kernel_rfl) (by kernel_rfl) (fun _ _ _ h => h) (Or.inl ⟨by rfl, ?_⟩) hHeld ?_
              rotate_left
              focus (intro wz hz; obtain ⟨z1, z2⟩ := hz; go_simp; try with_reducible rfl)
              refine wpAnyH_done (by kernel_rfl) ?_ _
              have HF := hid (And.intro qB (And.intro hB hBf))
              clear hHeld
              go_wp2_with fail
              go_meet
              exact ⟨rfl, rfl, _, _, HGB.out.grew HF.out.2.2, HRB.out.grew HF.out.2.2, adds_apart HIN.out.2.2.1 HIN.out.2.2.2.1 (by omega), adds_in HIN.out.2.2.2.1 (by have := HIN.out.2.2.2.2.size; omega) (by have := HF.out.1.size; omega) HF.out.2.2.size, adds_only HIN.out.2.2.2.1 HO1.out.1 HF.out.2.1 HF.out.2.2⟩
            · refine AllReadyH.cons rfl (fun K hK => ?_) AllReadyH.nil
              rw [if_pos (by rfl)]
              go_simp
              refine hK.out _ _ (HS.out _ (Only.trans (Only.alloc _ _) (Only.trans (Only.alloc _ _) (Only.drew _) (fun _ _ h => h)) (fun _ _ h => h))) (fun hHeld => ?_)
              clear hK K
              refine wpAnyH_ready (rs := [3]) (by kernel_rfl) (by simp) ?_
              refine AllReadyH.cons rfl (fun K hK => ?_) ?_
              rotate_left
              exact AllReadyH.nil
              rw [if_pos (by rfl)]
              go_simp
              refine (HADD.out _ _ 41 (Only.trans (Only.alloc _ _) (Only.trans (Only.alloc _ _) (Only.drew _) (fun _ _ h => h)) (fun _ _ h => h)) (HN2.out _ _) (by omega)).mono ?_
              rintro e wA ⟨rfl, HGA, HOA⟩
              have qA : Only Fg W wA := Only.trans (Only.trans (Only.alloc _ _) (Only.trans (Only.alloc _ _) (Only.drew _) (fun _ _ h => h)) (fun _ _ h => h)) HOA.out (fun _ _ h => h)
              have hA : Only (fun i => Fg i ∨ Fr i) W wA := qA.mono (fun _ _ h => .inl h)
              have qAs := qA.size
              refine hK.out _ _ (HS.out _ hA) (fun hHeld => ?_)
              clear hK K
              refine wpAnyH_ready (rs := [7]) (by kernel_rfl) (by simp) ?_
              refine AllReadyH.cons rfl (fun K hK => ?_) ?_
              rotate_left
              exact AllReadyH.nil
              rw [if_pos (by rfl)]
              go_simp
              refine (HRADD.out _ _ 39 wA.heap.size (qA) (HOA.out.heap (HN3.out _ _) (fun h => by have := HIN.out.2.2.2.1 _ (.inl h); omega)) (by omega) (by simp)).mono ?_
              rintro e wB ⟨rfl, HRB, HOB⟩
              have qB : Only Fr wA wB := HOB.out
              have hB : Only (fun i => Fg i ∨ Fr i) W wB := hA.trans qB (fun _ _ h => .inr h)
              have HGB : Hid (IsGraph wB (fun i => Fg i ∨ (W.heap.size ≤ i ∧ i < wA.heap.size)) b N E') := hid (HGA.out.only qB (fun i hi h => hi.elim (fun hi => HIN.out.2.2.1 i hi h) (fun hi => by have := HIN.out.2.2.2.1 i (.inr h); omega)))
              refine hK.out _ _ (HS.out _ hB) (fun hHeld => ?_)
              clear hK K
              refine wpAnyH_take (i := 8) (v := ?_) rfl (by kernel_rfl) (by kernel_rfl) (by kernel_rfl) (fun _ _ _ h => h) (Or.inl ⟨by rfl, ?_⟩) hHeld ?_
              rotate_left
              focus (intro wz hz; obtain ⟨z1, z2⟩ := hz; go_simp; try with_reducible rfl)
              refine wpAnyH_take (i := 9) (v := ?_) rfl (by kernel_rfl) (by kernel_rfl) (by kernel_rfl) (fun _ _ _ h => h) (Or.inl ⟨by rfl, ?_⟩) hHeld ?_
              rotate_left
              focus (intro wz hz; obtain ⟨z1, z2⟩ := hz; go_simp; try with_reducible rfl)
              refine wpAnyH_take (i := 10) (v := ?_) rfl (by kernel_rfl) (by kernel_rfl) (by kernel_rfl) (fun _ _ _ h => h) (Or.inl ⟨by rfl, ?_⟩) hHeld ?_
              rotate_left
              focus (intro wz hz; obtain ⟨z1, z2⟩ := hz; go_simp; try with_reducible rfl)
              refine wpAnyH_take (i := 11) (v := ?_) rfl (by kernel_rfl) (by kernel_rfl) (by kernel_rfl) (fun _ _ _ h => h) (Or.inl ⟨by rfl, ?_⟩) hHeld ?_
              rotate_left
              focus (intro wz hz; obtain ⟨z1, z2⟩ := hz; go_simp; try with_reducible rfl)
              refine wpAnyH_ready (rs := [12]) (by kernel_rfl) (by simp) ?_
              refine AllReadyH.cons rfl (fun K hK => ?_) ?_
              rotate_left
              exact AllReadyH.nil
              rw [if_pos (by rfl)]
              go_simp
              refine (HHAS.out _ _ HGB.out).mono ?_
              rintro e wC ⟨rfl, hBC⟩
              refine hK.out _ _ (HS.out _ (hB.trans hBC (fun _ _ h => h.elim))) (fun hHeld => ?_)
              clear hK K
              refine wpAnyH_take (i := 13) (v := ?_) rfl (by kernel_rfl) (by kernel_rfl) (by kernel_rfl) (fun _ _ _ h => h) (Or.inl ⟨by rfl, ?_⟩) hHeld ?_
              rotate_left
              focus (intro wz hz; obtain ⟨z1, z2⟩ := hz; go_simp; try with_reducible rfl)
              refine wpAnyH_take (i := 14) (v := ?_) rfl (by kernel_rfl) (by kernel_rfl) (by kernel_rfl) (fun _ _ _ h => h) (Or.inl ⟨by rfl, ?_⟩) hHeld ?_
              rotate_left
              focus (intro wz hz; obtain ⟨z1, z2⟩ := hz; go_simp; try with_reducible rfl)
              refine wpAnyH_take (i := 15) (v := undef) rfl (by kernel_rfl) (by kernel_rfl) (by kernel_rfl) (fun _ _ _ h => h) (Or.inr ⟨by rfl, rfl⟩) hHeld ?_
              refine wpAnyH_take (i := 16) (v := undef) rfl (by kernel_rfl) (by kernel_rfl) (by kernel_rfl) (fun _ _ _ h => h) (Or.inr ⟨by rfl, rfl⟩) hHeld ?_
              refine wpAnyH_take (i := 17) (v := undef) rfl (by kernel_rfl) (by kernel_rfl) (by kernel_rfl) (fun _ _ _ h => h) (Or.inr ⟨by rfl, rfl⟩) hHeld ?_
              have hBf : Grew wB wC := hBC
              refine wpAnyH_take (i := 18) (v := ?_) rfl (by kernel_rfl) (by kernel_rfl) (by kernel_rfl) (fun _ _ _ h => h) (Or.inl ⟨by rfl, ?_⟩) hHeld ?_
              rotate_left
              focus (intro wz hz; obtain ⟨z1, z2⟩ := hz; go_simp; try with_reducible rfl)
              refine wpAnyH_take (i := 19) (v := ?_) rfl (by kernel_rfl) (by kernel_rfl) (by kernel_rfl) (fun _ _ _ h => h) (Or.inl ⟨by rfl, ?_⟩) hHeld ?_
              rotate_left
              focus (intro wz hz; obtain ⟨z1, z2⟩ := hz; go_simp; try with_reducible rfl)
              refine wpAnyH_done (by kernel_rfl) ?_ _
              have HF := hid (And.intro qB (And.intro hB hBf))
              clear hHeld
              go_wp2_with fail
              go_meet
              exact ⟨rfl, rfl, _, _, HGB.out.grew HF.out.2.2, HRB.out.grew HF.out.2.2, adds_apart HIN.out.2.2.1 HIN.out.2.2.2.1 (by omega), adds_in HIN.out.2.2.2.1 (by have := HIN.out.2.2.2.2.size; omega) (by have := HF.out.1.size; omega) HF.out.2.2.size, adds_only HIN.out.2.2.2.1 HO1.out.1 HF.out.2.1 HF.out.2.2⟩
          · refine AllReadyH.cons rfl (fun K hK => ?_) AllReadyH.nil
            rw [if_pos (by rfl)]
            go_simp
            refine hK.out _ _ (HS.out _ (Only.trans (Only.alloc _ _) (Only.drew _) (fun _ _ h => h))) (fun hHeld => ?_)
            clear hK K
            refine wpAnyH_ready (rs := [2]) (by kernel_rfl) (by simp) ?_
            refine AllReadyH.cons rfl (fun K hK => ?_) ?_
            rotate_left
            exact AllReadyH.nil
            rw [if_pos (by rfl)]
            go_simp
            refine hK.out _ _ (HS.out _ (Only.trans (Only.alloc _ _) (Only.trans (Only.alloc _ _) (Only.drew _) (fun _ _ h => h)) (fun _ _ h => h))) (fun hHeld => ?_)
            clear hK K
            refine wpAnyH_ready (rs := [3]) (by kernel_rfl) (by simp) ?_
            refine AllReadyH.cons rfl (fun K hK => ?_) ?_
            rotate_left
            exact AllReadyH.nil
            rw [if_pos (by rfl)]
            go_simp
            refine (HADD.out _ _ 41 (Only.trans (Only.alloc _ _) (Only.trans (Only.alloc _ _) (Only.drew _) (fun _ _ h => h)) (fun _ _ h => h)) (HN3.out _ _) (by omega)).mono ?_
            rintro e wA ⟨rfl, HGA, HOA⟩
            have qA : Only Fg W wA := Only.trans (Only.trans (Only.alloc _ _) (Only.trans (Only.alloc _ _) (Only.drew _) (fun _ _ h => h)) (fun _ _ h => h)) HOA.out (fun _ _ h => h)
            have hA : Only (fun i => Fg i ∨ Fr i) W wA := qA.mono (fun _ _ h => .inl h)
            have qAs := qA.size
            refine hK.out _ _ (HS.out _ hA) (fun hHeld => ?_)
            clear hK K
            refine wpAnyH_ready (rs := [7]) (by kernel_rfl) (by simp) ?_
            refine AllReadyH.cons rfl (fun K hK => ?_) ?_
            rotate_left
            exact AllReadyH.nil
            rw [if_pos (by rfl)]
            go_simp
            refine (HRADD.out _ _ 39 wA.heap.size (qA) (HOA.out.heap (HN2.out _ _) (fun h => by have := HIN.out.2.2.2.1 _ (.inl h); omega)) (by omega) (by simp)).mono ?_
            rintro e wB ⟨rfl, HRB, HOB⟩
            have qB : Only Fr wA wB := HOB.out
            have hB : Only (fun i => Fg i ∨ Fr i) W wB := hA.trans qB (fun _ _ h => .inr h)
            have HGB : Hid (IsGraph wB (fun i => Fg i ∨ (W.heap.size ≤ i ∧ i < wA.heap.size)) b N E') := hid (HGA.out.only qB (fun i hi h => hi.elim (fun hi => HIN.out.2.2.1 i hi h) (fun hi => by have := HIN.out.2.2.2.1 i (.inr h); omega)))
            refine hK.out _ _ (HS.out _ hB) (fun hHeld => ?_)
            clear hK K
            refine wpAnyH_take (i := 8) (v := ?_) rfl (by kernel_rfl) (by kernel_rfl) (by kernel_rfl) (fun _ _ _ h => h) (Or.inl ⟨by rfl, ?_⟩) hHeld ?_
            rotate_left
            focus (intro wz hz; obtain ⟨z1, z2⟩ := hz; go_simp; try with_reducible rfl)
            refine wpAnyH_take (i := 9) (v := ?_) rfl (by kernel_rfl) (by kernel_rfl) (by kernel_rfl) (fun _ _ _ h => h) (Or.inl ⟨by rfl, ?_⟩) hHeld ?_
            rotate_left
            focus (intro wz hz; obtain ⟨z1, z2⟩ := hz; go_simp; try with_reducible rfl)
            refine wpAnyH_take (i := 10) (v := ?_) rfl (by kernel_rfl) (by kernel_rfl) (by kernel_rfl) (fun _ _ _ h => h) (Or.inl ⟨by rfl, ?_⟩) hHeld ?_
            rotate_left
            focus (intro wz hz; obtain ⟨z1, z2⟩ := hz; go_simp; try with_reducible rfl)
            refine wpAnyH_take (i := 11) (v := ?_) rfl (by kernel_rfl) (by kernel_rfl) (by kernel_rfl) (fun _ _ _ h => h) (Or.inl ⟨by rfl, ?_⟩) hHeld ?_
            rotate_left
            focus (intro wz hz; obtain ⟨z1, z2⟩ := hz; go_simp; try with_reducible rfl)
            refine wpAnyH_ready (rs := [12]) (by kernel_rfl) (by simp) ?_
            refine AllReadyH.cons rfl (fun K hK => ?_) ?_
            rotate_left
            exact AllReadyH.nil
            rw [if_pos (by rfl)]
            go_simp
            refine (HHAS.out _ _ HGB.out).mono ?_
            rintro e wC ⟨rfl, hBC⟩
            refine hK.out _ _ (HS.out _ (hB.trans hBC (fun _ _ h => h.elim))) (fun hHeld => ?_)
            clear hK K
            refine wpAnyH_take (i := 13) (v := ?_) rfl (by kernel_rfl) (by kernel_rfl) (by kernel_rfl) (fun _ _ _ h => h) (Or.inl ⟨by rfl, ?_⟩) hHeld ?_
            rotate_left
            focus (intro wz hz; obtain ⟨z1, z2⟩ := hz; go_simp; try with_reducible rfl)
            refine wpAnyH_take (i := 14) (v := ?_) rfl (by kernel_rfl) (by kernel_rfl) (by kernel_rfl) (fun _ _ _ h => h) (Or.inl ⟨by rfl, ?_⟩) hHeld ?_
            rotate_left
            focus (intro wz hz; obtain ⟨z1, z2⟩ := hz; go_simp; try with_reducible rfl)
            refine wpAnyH_take (i := 15) (v := undef) rfl (by kernel_rfl) (by kernel_rfl) (by kernel_rfl) (fun _ _ _ h => h) (Or.inr ⟨by rfl, rfl⟩) hHeld ?_
            refine wpAnyH_take (i := 16) (v := undef) rfl (by kernel_rfl) (by kernel_rfl) (by kernel_rfl) (fun _ _ _ h => h) (Or.inr ⟨by rfl, rfl⟩) hHeld ?_
            refine wpAnyH_take (i := 17) (v := undef) rfl (by kernel_rfl) (by kernel_rfl) (by kernel_rfl) (fun _ _ _ h => h) (Or.inr ⟨by rfl, rfl⟩) hHeld ?_
            have hBf : Grew wB wC := hBC
            refine wpAnyH_take (i := 18) (v := ?_) rfl (by kernel_rfl) (by kernel_rfl) (by kernel_rfl) (fun _ _ _ h => h) (Or.inl ⟨by rfl, ?_⟩) hHeld ?_
            rotate_left
            focus (intro wz hz; obtain ⟨z1, z2⟩ := hz; go_simp; try with_reducible rfl)
            refine wpAnyH_take (i := 19) (v := ?_) rfl (by kernel_rfl) (by kernel_rfl) (by kernel_rfl) (fun _ _ _ h => h) (Or.inl ⟨by rfl, ?_⟩) hHeld ?_
            rotate_left
            focus (intro wz hz; obtain ⟨z1, z2⟩ := hz; go_simp; try with_reducible rfl)
            refine wpAnyH_done (by kernel_rfl) ?_ _
            have HF := hid (And.intro qB (And.intro hB hBf))
            clear hHeld
            go_wp2_with fail
            go_meet
            exact ⟨rfl, rfl, _, _, HGB.out.grew HF.out.2.2, HRB.out.grew HF.out.2.2, adds_apart HIN.out.2.2.1 HIN.out.2.2.2.1 (by omega), adds_in HIN.out.2.2.2.1 (by have := HIN.out.2.2.2.2.size; omega) (by have := HF.out.1.size; omega) HF.out.2.2.size, adds_only HIN.out.2.2.2.1 HO1.out.1 HF.out.2.1 HF.out.2.2⟩
      case rest =>
        obtain ⟨rfl, rfl, Fg', Fr', q1, q2, q3, q4, q5⟩ := hcut
        have HQ := hid (And.intro q1 (And.intro q2 (And.intro q3 (And.intro q4 q5))))
        clear q1 q2 q3 q4 q5
        go_wp2
        go_roundw
        case rel => exact ⟨k + 1, Fg', Fr', by go_num, by omega, HNX.out ▸ HQ.out.1, HNX.out ▸ HQ.out.2.1, HQ.out.2.2.1, HQ.out.2.2.2.1, HQ.out.2.2.2.2⟩
        case measure => simp [intOf]; omega
    · obtain rfl : k = l.length := by omega
      rw [List.take_length] at *
      clear hsl
      generalize hEk : addAll (N : Int) [] l = Ek at *
      go_wp2_with (first
        | (go_at_call 22; refine (alive_at wr).mono ?_; rintro e w5 ⟨rfl, hg5⟩)
        | (go_at_call 32; refine (same_at b w1.heap.size N Ek Ek Fg Fr w5 (HIN.out.1.grew hg5) (HIN.out.2.1.grew hg5) (fun _ => Iff.rfl) rfl (by omega) (by omega)).mono ?_; rintro e w6 ⟨rfl, hg6⟩))
      go_ret
      exact ⟨rfl, Grew.trans (Fresh.grew HIN.out.2.2.2.2) (Grew.trans hg5 hg6)⟩
end Go.Proofs.Ytlpkolmaklnffaa
