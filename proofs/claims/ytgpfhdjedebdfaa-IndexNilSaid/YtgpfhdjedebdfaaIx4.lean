/- The walks of after and Find. -/
import Derived.Test.YtgpfhdjedebdfaaIx3
namespace Go.Proofs.Ytgpfhdjedebdfaa
open Go.RowKit Go.MapKept

theorem IsIdx.at {w : World} {p : Nat} {S : List Ent} (h : IsIdx w p S) {i : Nat} {x : Ent} (hx : S[i]? = some x) : ∃ b o c, w.cell? ⟨p, 0, none⟩ = some (.slice (some ⟨b, o, none⟩) S.length c) ∧ w.cell? ⟨b, o + i * 3, none⟩ = some (.int .i64 x.1.1) ∧ w.cell? ⟨b, o + i * 3 + 1, none⟩ = some (.int .i64 x.1.2) ∧ w.cell? ⟨b, o + i * 3 + 2, none⟩ = some (.int .i64 x.2) := by
  obtain ⟨A, c, h1, h2, h3⟩ := h
  have hi := (List.getElem?_eq_some_iff.1 hx).1
  obtain ⟨b, o, rfl, hc⟩ := h2 (by omega)
  have := hc i hi
  rw [hx] at this
  exact ⟨b, o, c, cell_of_one h1, this⟩
set_option maxHeartbeats 1000000 in
theorem afterf_at (i : Nat) (B0 B1 p : Nat) (S : List Ent) (off : Int) (W : World) (x : Ent) (hx : S[i]? = some x) (hV : VE x.1) (h0 : W.cell? ⟨B0, 0, none⟩ = some (.pointer (some ⟨p, 0, none⟩))) (h1 : W.cell? ⟨B1, 0, none⟩ = some (.int .i64 off)) (hI : IsIdx W p S) (r : Bool) (hr : decide (off < x.1.1 + x.1.2) = r) :
    Calls Try.prog 47 #[.int .i64 i, .pointer (some ⟨B0, 0, none⟩), .pointer (some ⟨B1, 0, none⟩)] W fun e w' => e = .returned (.bool r) ∧ Grew W w' := by
  obtain ⟨b, o, c, q1, q2, q3, _⟩ := hI.at hx
  obtain ⟨⟨x1, x2⟩, x3⟩ := x
  obtain ⟨v1, v2, v3⟩ := hV
  simp only at q2 q3 v1 v2 v3 hr
  have hi := (List.getElem?_eq_some_iff.1 hx).1
  have hb0 : (i : Int) < (S.length : Int) := by omega
  have HS : Hid (∀ w', Grew W w' → w'.cell? ⟨B0, 0, none⟩ = some (.pointer (some ⟨p, 0, none⟩)) ∧ w'.cell? ⟨B1, 0, none⟩ = some (.int .i64 off) ∧ w'.cell? ⟨p, 0, none⟩ = some (.slice (some ⟨b, o, none⟩) S.length c) ∧ w'.cell? ⟨b, o + i * 3, none⟩ = some (.int .i64 x1) ∧ w'.cell? ⟨b, o + i * 3 + 1, none⟩ = some (.int .i64 x2)) :=
    hid (fun w' h => ⟨h.cell h0 (fun h => h), h.cell h1 (fun h => h), h.cell q1 (fun h => h), h.cell q2 (fun h => h), h.cell q3 (fun h => h)⟩)
  clear h0 h1 q1 q2 q3 hI hx
  generalize S.length = n at *
  go_enter Try.func47, Try.ntmps47
  go_wp2_with fail
  go_region_held3 (fun w' => w'.cell? ⟨B0, 0, none⟩ = some (.pointer (some ⟨p, 0, none⟩)) ∧ w'.cell? ⟨B1, 0, none⟩ = some (.int .i64 off) ∧ w'.cell? ⟨p, 0, none⟩ = some (.slice (some ⟨b, o, none⟩) n c) ∧ w'.cell? ⟨b, o + i * 3, none⟩ = some (.int .i64 x1) ∧ w'.cell? ⟨b, o + i * 3 + 1, none⟩ = some (.int .i64 x2))
    (first
      | exact HS.out _ (Only.drew _)
      | exact HS.out _ ha)
    (first
      | (go_at_call 34; refine (end_at x1 x2 _ v1 v2 v3).mono ?_; rintro e wa ⟨rfl, ha0⟩; have ha : Grew W wa := Grew.trans (Only.drew _) ha0))
  all_goals
    go_wp2
    go_ret
    exact ⟨by rw [← hr]; rfl, ha⟩
theorem eg47 (args : Array Value) (w : World) : (callFunc 47 args).run Try.prog w = .ok (.enter 47 args) w := enters_of Try.func47 (by kernel_rfl) rfl args w
/-- Entry i ends behind the offset. -/
def pf (S : List Ent) (off : Int) (i : Nat) : Bool := decide (off < (S[i]?.getD dE).1.1 + (S[i]?.getD dE).1.2)
theorem GoodS.at {S : List Ent} (h : GoodS S) {i : Nat} {x : Ent} (hx : S[i]? = some x) : VE x.1 ∧ 0 < x.1.2 := h.2 x (List.mem_of_getElem? hx)
theorem GoodS.lt {S : List Ent} (h : GoodS S) {i j : Nat} {x y : Ent} (hx : S[i]? = some x) (hy : S[j]? = some y) (hij : i < j) : x.1.1 + x.1.2 ≤ y.1.1 := by
  obtain ⟨hi, rfl⟩ := List.getElem?_eq_some_iff.1 hx
  obtain ⟨hj, rfl⟩ := List.getElem?_eq_some_iff.1 hy
  exact List.pairwise_iff_getElem.1 h.1 i j hi hj hij
theorem pf_mono {S : List Ent} (h : GoodS S) (off : Int) (a b : Nat) (hab : a ≤ b) (hb : b < S.length) (hp : pf S off a = true) : pf S off b = true := by
  unfold pf at *
  rcases Nat.lt_or_eq_of_le hab with hlt | rfl
  · have ha := List.getElem?_eq_getElem (l := S) (i := a) (by omega)
    have hb' := List.getElem?_eq_getElem (l := S) (i := b) hb
    have h1 := h.lt ha hb' hlt
    have h2 := (h.at hb').2
    rw [ha] at hp
    rw [hb']
    simp only [Option.getD_some, decide_eq_true_eq] at *
    omega
  · exact hp
set_option maxHeartbeats 1000000 in
theorem after_at (p : Nat) (S : List Ent) (off : Int) (w : World) (hI : IsIdx w p S) (hS : GoodS S) :
    Calls Try.prog 35 #[.pointer (some ⟨p, 0, none⟩), .int .i64 off] w fun e w' => ∃ k : Nat, e = .returned (.int .i64 k) ∧ IsCut S.length (pf S off) k ∧ Grew w w' := by
  have hlen := hI
  obtain ⟨_, _, _, _, hl⟩ := hlen
  have HP := hid (And.intro hI hS)
  have hmf : ∀ (fn : Fn) (first cap : Array Value) (w : World), (Instr.makeFunc fn first cap).run Try.prog w = .ok (.func fn first cap) w := fun _ _ _ _ => rfl
  clear hI hS
  have HW0 : Hid (Grew w ((w.alloc (.cells #[.pointer (some ⟨p, 0, none⟩)] 25)).alloc (.cells #[.int .i64 off] 3)) ∧ ((w.alloc (.cells #[.pointer (some ⟨p, 0, none⟩)] 25)).alloc (.cells #[.int .i64 off] 3)).cell? ⟨w.heap.size, 0, none⟩ = some (.pointer (some ⟨p, 0, none⟩)) ∧ ((w.alloc (.cells #[.pointer (some ⟨p, 0, none⟩)] 25)).alloc (.cells #[.int .i64 off] 3)).cell? ⟨w.heap.size + 1, 0, none⟩ = some (.int .i64 off)) := hid (by
    have g1 := heap_alloc_new w (.cells #[.pointer (some ⟨p, 0, none⟩)] 25)
    have g2 := heap_alloc_new (w.alloc (.cells #[.pointer (some ⟨p, 0, none⟩)] 25)) (.cells #[.int .i64 off] 3)
    rw [World.size_alloc] at g2
    exact ⟨Grew.trans (Only.alloc _ _) (Only.alloc _ _), (Only.alloc (F := fun _ => False) _ _).cell (cell_of_one g1) (fun h => h), cell_of_one g2⟩)
  go_enter Try.func35, Try.ntmps35
  go_wp2_with fail
  go_at_call 21
  clear hmf
  generalize (w.alloc (.cells #[.pointer (some ⟨p, 0, none⟩)] 25)).alloc (.cells #[.int .i64 off] 3) = W0 at *
  refine (len_at p S W0 (HP.out.1.grew HW0.out.1)).mono ?_
  rintro e w1 ⟨rfl, rfl⟩
  have HC : Hid (Calls Try.prog 46 #[.int .i64 S.length, .func (.func 47) #[] #[.pointer (some ⟨w.heap.size, 0, none⟩), .pointer (some ⟨w.heap.size + 1, 0, none⟩)]] W0 fun e w' => ∃ k : Nat, e = .returned (.int .i64 k) ∧ IsCut S.length (pf S off) k ∧ Grew W0 w') := hid (by
    refine search_at _ _ S.length (pf S off) W0 hl eg47 (fun W i hi hg => ?_) (pf_mono HP.out.2 off)
    have hx := List.getElem?_eq_getElem (l := S) (i := i) hi
    exact afterf_at i _ _ p S off W _ hx (HP.out.2.at hx).1 (hg.cell HW0.out.2.1 (fun h => h)) (hg.cell HW0.out.2.2 (fun h => h)) (HP.out.1.grew (Grew.trans HW0.out.1 hg)) _ (by unfold pf; rw [hx]; rfl))
  go_wp2_with (go_at_call 46; have cX := HC.out; with_reducible refine cX.mono ?_; clear cX; rintro e w2 ⟨k, rfl, hk, hg2⟩)
  go_ret
  exact ⟨k, rfl, hk, Grew.trans HW0.out.1 hg2⟩
set_option maxHeartbeats 1000000 in
theorem after_nil (off : Int) (w : World) :
    Calls Try.prog 35 #[.pointer none, .int .i64 off] w fun e w' => e = .returned (.int .i64 0) ∧ Grew w w' := by
  have hmf : ∀ (fn : Fn) (first cap : Array Value) (w : World), (Instr.makeFunc fn first cap).run Try.prog w = .ok (.func fn first cap) w := fun _ _ _ _ => rfl
  have HG : Hid (Grew w ((w.alloc (.cells #[.pointer none] 25)).alloc (.cells #[.int .i64 off] 3))) := hid (Grew.trans (Only.alloc _ _) (Only.alloc _ _))
  go_enter Try.func35, Try.ntmps35
  go_wp2_with (go_at_call 21; refine (len_nil _).mono ?_; rintro e w1 ⟨rfl, rfl⟩)
  have HC : Hid (∀ W cb, Calls Try.prog 46 #[.int .i64 0, .func (.func 47) #[] cb] W fun e w' => e = .returned (.int .i64 0) ∧ Grew W w') := hid (fun W cb => by
    refine (search_at _ cb 0 (fun _ => false) W (by omega) eg47 (fun W i hi hg => by omega) (fun a b h1 h2 => by omega)).mono ?_
    rintro e w' ⟨k, rfl, hk, hg⟩
    obtain rfl : k = 0 := by have := hk.1; omega
    exact ⟨rfl, hg⟩)
  go_wp2_with (go_at_call 46; refine (HC.out _ _).mono ?_; rintro e w2 ⟨rfl, hg2⟩)
  go_ret
  exact ⟨rfl, Grew.trans HG.out hg2⟩
def IsFind (S : List Ent) (off v : Int) : Prop := (∃ x ∈ S, x.1.1 ≤ off ∧ off < x.1.1 + x.1.2 ∧ v = x.2) ∨ ((∀ x ∈ S, ¬ (x.1.1 ≤ off ∧ off < x.1.1 + x.1.2)) ∧ v = -1)
theorem IsCut.before {S : List Ent} {off : Int} {k : Nat} (h : IsCut S.length (pf S off) k) {i : Nat} {x : Ent} (hx : S[i]? = some x) (hi : i < k) : x.1.1 + x.1.2 ≤ off := by
  have := h.2.1 i hi
  unfold pf at this
  rw [hx] at this
  simp only [Option.getD_some, decide_eq_false_iff_not] at this
  omega
theorem IsCut.behind {S : List Ent} {off : Int} {k : Nat} (h : IsCut S.length (pf S off) k) {i : Nat} {x : Ent} (hx : S[i]? = some x) (hi : k ≤ i) : off < x.1.1 + x.1.2 := by
  have := h.2.2 i hi (List.getElem?_eq_some_iff.1 hx).1
  unfold pf at this
  rw [hx] at this
  simpa using this
set_option maxHeartbeats 1000000 in
theorem find_at (p : Nat) (S : List Ent) (off : Int) (w : World) (hI : IsIdx w p S) (hS : GoodS S) :
    Calls Try.prog 12 #[.pointer (some ⟨p, 0, none⟩), .int .i64 off] w fun e w' => ∃ v, e = .returned (.int .i64 v) ∧ IsFind S off v ∧ Grew w w' := by
  have HP := hid (And.intro hI hS)
  have HC := hid (after_at p S off w hI hS)
  clear hI hS
  go_enter Try.func12, Try.ntmps12
  go_wp2_with (go_at_call 35; have cX := HC.out; with_reducible refine cX.mono ?_; clear cX; rintro e w1 ⟨k, rfl, hk, hg1⟩)
  have H1 := hid (And.intro hk hg1)
  have hkl := hk.1
  have hI1 := HP.out.1.grew hg1
  clear hk hg1 HC
  have HI1 := hid hI1
  by_cases hkn : k = S.length
  · have he : ((k : Int) == (S.length : Int)) = true := by simp [hkn]
    have HKN := hid hkn
    clear hkn hI1
    go_wp2_with (go_at_call 21; refine (len_at p S w1 HI1.out).mono ?_; rintro e w2 ⟨rfl, rfl⟩)
    go_ret
    refine ⟨-1, rfl, .inr ⟨fun x hx hn => ?_, rfl⟩, H1.out.2⟩
    obtain ⟨i, hi, he⟩ := List.mem_iff_getElem.1 hx
    have := H1.out.1.before (List.getElem?_eq_some_iff.2 ⟨hi, he⟩) (by rw [HKN.out]; exact hi)
    omega
  · have hlt : k < S.length := by omega
    have he : ((k : Int) == (S.length : Int)) = false := beq_eq_false_iff_ne.2 (by omega)
    obtain ⟨x, hx⟩ : ∃ x, S[k]? = some x := ⟨_, List.getElem?_eq_getElem hlt⟩
    obtain ⟨b, o, c, q1, q2, q3, q4⟩ := hI1.at hx
    have HX := hid hx
    have hb0 : (k : Int) < (S.length : Int) := by omega
    clear hI1 hx hkn
    obtain ⟨⟨x1, x2⟩, x3⟩ := x
    simp only at q2 q3 q4
    by_cases hgt : off < x1
    · have hd : decide (off < x1) = true := by simpa using hgt
      clear hgt
      go_wp2_with (go_at_call 21; refine (len_at p S w1 HI1.out).mono ?_; rintro e w2 ⟨rfl, rfl⟩)
      go_ret
      refine ⟨-1, rfl, .inr ⟨fun y hy hn => ?_, rfl⟩, H1.out.2⟩
      obtain ⟨i, hi, he⟩ := List.mem_iff_getElem.1 hy
      have hyi := List.getElem?_eq_some_iff.2 ⟨hi, he⟩
      have hd' : off < x1 := by simpa using hd
      rcases Nat.lt_trichotomy i k with h | h | h
      · have := H1.out.1.before hyi h
        omega
      · subst h
        rw [HX.out] at hyi
        obtain rfl : ((x1, x2), x3) = y := by simpa using hyi
        have := hn.1
        simp only at this
        omega
      · have h1 := HP.out.2.lt HX.out hyi h
        have h2 := (HP.out.2.at HX.out).2
        simp only at h1 h2
        have := hn.1
        omega
    · have hd : decide (off < x1) = false := by simpa using hgt
      have HL := hid hgt
      clear hgt
      go_wp2_with (go_at_call 21; refine (len_at p S w1 HI1.out).mono ?_; rintro e w2 ⟨rfl, rfl⟩)
      go_ret
      refine ⟨x3, rfl, .inl ⟨((x1, x2), x3), List.mem_of_getElem? HX.out, ?_, ?_, rfl⟩, H1.out.2⟩
      · have := HL.out
        simp only
        omega
      · exact H1.out.1.behind HX.out (Nat.le_refl _)
end Go.Proofs.Ytgpfhdjedebdfaa
