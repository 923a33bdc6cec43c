/- The walk of topo.Depth. -/
import Derived.Test.YtlpkolmaklnffaaRDepth
import Derived.Test.YtlpkolmaklnffaaTAlive
namespace Go.Proofs.Ytlpkolmaklnffaa
open Go.RowKit Go.MapKept

theorem rest_all {N : Nat} {o : List Int} (h : restL N [] o = []) (v : Int) (h0 : 0 ≤ v) (h1 : v < (N : Int)) : v ∈ o := by
  by_cases hv : v ∈ o
  · exact hv
  · have : v ∈ restL N [] o := mem_rest.2 ⟨⟨h0, h1⟩, by simp, hv⟩
    rw [h] at this
    cases this
theorem flat_snoc {E : List (Int × Int)} {o : List Int} {k : Nat} {v : Int} (h : o[k]? = some v) : flatE E (o.take (k + 1)) = flatE E (o.take k) ++ (outL E v).map (fun x => (v, x)) := by
  unfold flatE
  rw [List.take_add_one, h, List.flatMap_append]
  simp
set_option maxRecDepth 100000 in
set_option maxHeartbeats 1000000 in
theorem tdepth_no (b N : Nat) (E : List (Int × Int)) (F : Nat → Prop) (w : World) (hG : IsGraph w F b N E) (hfew : E.length ≤ 1048576) (o : List Int) (ho : IsOrder E N [] o) (hr : decide (restL N [] o = []) = false) :
    Calls Try.prog 46 #[.pointer (some ⟨b, 0, none⟩)] w fun e w' => e = .returned (.tuple #[.slice none 0 0, .bool false]) ∧ Grew w w' := by
  have HP := hid (And.intro hG (And.intro ho hr))
  clear hG ho hr
  go_enter Try.func46, Try.ntmps46
  go_wp2_with (go_at_call 40; have cX := order0 b N E _ w HP.out.1 hfew o HP.out.2.1 false HP.out.2.2; with_reducible refine cX.mono ?_; clear cX; rintro e w4 ⟨A4, c4, rfl, hi4, _, hg4⟩)
  go_ret2
  exact ⟨rfl, hg4⟩
set_option maxRecDepth 100000 in
set_option maxHeartbeats 1000000 in
theorem tdepth_at (b N : Nat) (E : List (Int × Int)) (F : Nat → Prop) (w : World) (hG : IsGraph w F b N E) (hfew : E.length ≤ 1048576) (o : List Int) (ho : IsOrder E N [] o) (hr : restL N [] o = []) :
    Calls Try.prog 46 #[.pointer (some ⟨b, 0, none⟩)] w fun e w' => ∃ sb, e = .returned (.tuple #[.slice (some ⟨sb, 0, none⟩) N N, .bool true]) ∧ Ints w' sb (relaxAll (List.replicate N 0) (flatE E o)) ∧ Grew w w' := by
  have hN := hG.small.2
  have hoN := order_length ho (rest_all hr)
  subst hoN
  obtain ⟨i0, hi0, hz0, hz1, hz2⟩ := info_parts info_int
  have hmk : ∀ W : World, (Instr.makeSlice 29 (.int .i64 (o.length : Int)) (.int .i64 (o.length : Int))).run Try.prog W = .ok (.slice (some ⟨W.heap.size, 0, none⟩) o.length o.length) (W.alloc (.cells ((List.replicate o.length (0 : Int)).map (Value.int .i64)).toArray 3)) := fun W => by
    have h := run_make (P := Try.prog) W 29 3 i0 (.int .i64 0) Try.underlying29 hi0 hz0 .i64 .i64 (o.length : Int) (o.length : Int) (by omega) (Int.le_refl _) (by rw [hz2]; omega) (by omega)
    rw [h, hz1]
    simp only [Int.toNat_natCast, Nat.mul_one]
    congr 4
    apply Array.ext'
    rw [show (Value.int .i64 0).cells = #[.int .i64 0] from rfl, toList_madeCells_one]
    simp
  have HB0 : Hid (∀ W : World, Ints (W.alloc (.cells ((List.replicate o.length (0 : Int)).map (Value.int .i64)).toArray 3)) W.heap.size (List.replicate o.length 0)) := hid (fun W => heap_alloc_new W _)
  have HP := hid (And.intro hG (And.intro ho (And.intro (show decide (restL o.length [] o = []) = true by simpa using hr) hG.2.2)))
  have CX : Hid (Calls Try.prog 40 #[.pointer (some ⟨b, 0, none⟩), .slice none 0 0] w fun e w' => ∃ A' c', e = .returned (.tuple #[.slice A' o.length c', .bool true]) ∧ SlI w' A' o ∧ (∀ k off, A' = some ⟨k, off, none⟩ → w.heap.size ≤ k) ∧ Grew w w') := hid (order0 b o.length E _ w HP.out.1 hfew o HP.out.2.1 true HP.out.2.2.1)
  clear hG ho hr hi0 hz0 hz1 hz2
  go_enter Try.func46, Try.ntmps46
  go_wp2_with (go_at_call 40; have cX := CX.out; with_reducible refine cX.mono ?_; clear cX; rintro e w1 ⟨A4, c4, rfl, hi4, _, hg4⟩)
  have H1 := hid (And.intro hi4 (And.intro hg4 (HP.out.1.grew hg4)))
  clear hi4 hg4 CX
  go_loopw [23] (fun i wr => ∃ k : Nat, k ≤ o.length ∧ i = .int .i64 k ∧ Ints wr w1.heap.size (relaxAll (List.replicate o.length 0) (flatE E (o.take k))) ∧ Hid (∀ i : Nat, 0 ≤ dget (relaxAll (List.replicate o.length 0) (flatE E (o.take k))) i ∧ dget (relaxAll (List.replicate o.length 0) (flatE E (o.take k))) i ≤ ((k * E.length : Nat) : Int)) ∧ Only (fun i => w1.heap.size ≤ i) w1 wr) (fun i _ => o.length - (intOf i).toNat)
  case atStart => exact ⟨0, Nat.zero_le _, rfl, by simpa [flatE, relaxAll] using HB0.out w1, hid (fun i => by simp [flatE, relaxAll, dget_zeros]), Only.alloc _ _⟩
  clear hmk HB0
  case round =>
    obtain ⟨k, hk, rfl, hI, hb, hO⟩ := hrel
    have hsl := H1.out.1.grew (Fresh.grew hO)
    have HH := hid (And.intro hI (And.intro hb.out hO))
    clear hI hO hb
    by_cases hlt : k < o.length
    · obtain ⟨bl, off, rfl, hcell⟩ := hsl (by omega)
      have h1 := hcell k hlt
      obtain ⟨v, hv⟩ : ∃ v, o[k]? = some v := ⟨_, List.getElem?_eq_getElem hlt⟩
      simp only [hv, Option.getD_some] at h1
      have hvr := (HP.out.2.1.1.nodup.2 v (List.mem_of_getElem? hv)).1
      obtain ⟨V, rfl⟩ := Int.eq_ofNat_of_zero_le hvr.1
      have hV : V < o.length := by omega
      have hVb : (V : Int) < (o.length : Int) := by omega
      have hb0 : (k : Int) < (o.length : Int) := by omega
      have hkl : k * E.length ≤ 1048576 * 1048576 := Nat.mul_le_mul (by omega) hfew
      have HK1 : Hid ((k + 1) * E.length = k * E.length + E.length) := hid (Nat.succ_mul _ _)
      have HFL := hid (flat_snoc (E := E) hv)
      generalize k * E.length = K at *
      have hlast := hcell
      clear hcell hsl hv hlast
      go_wp2_with (go_at_call 26; refine (out_new2 b o.length V E _ wr (H1.out.2.2.grew (Fresh.grew HH.out.2.2)) ⟨by omega, by omega⟩ (by omega)).mono ?_; rintro e w5 ⟨A5, c5, rfl, hi5, hl5, hg5⟩)
      have hol := outL_length E V
      have hs1 := HH.out.2.2.size
      have hsbl := HH.out.1.lt
      have H5 := hid (And.intro hi5 (And.intro (show ∀ k off, A5 = some ⟨k, off, none⟩ → ¬ (k = w1.heap.size) from fun k off e => by have := (hl5 k off e).1; omega) (And.intro (HH.out.1.only hg5 (fun h => h)) (HH.out.2.2.trans hg5 (fun _ _ h => h.elim)))))
      clear hi5 hl5 hg5
      go_loopw [31] (fun i wr => ∃ m : Nat, m ≤ (outL E V).length ∧ i = .int .i64 m ∧ Ints wr w1.heap.size (relaxAll (List.replicate o.length 0) (flatE E (o.take k) ++ ((outL E V).take m).map (fun x => ((V : Int), x)))) ∧ Hid (∀ i : Nat, 0 ≤ dget (relaxAll (List.replicate o.length 0) (flatE E (o.take k) ++ ((outL E V).take m).map (fun x => ((V : Int), x)))) i ∧ dget (relaxAll (List.replicate o.length 0) (flatE E (o.take k) ++ ((outL E V).take m).map (fun x => ((V : Int), x)))) i ≤ ((K + m : Nat) : Int)) ∧ Only (fun i => i = w1.heap.size) w5 wr) (fun i _ => (outL E V).length - (intOf i).toNat)
      case atStart => exact ⟨0, Nat.zero_le _, rfl, by simpa using H5.out.2.2.1, hid (fun i => by simpa using HH.out.2.1 i), Only.refl _ _⟩
      case round =>
        obtain ⟨m, hm, rfl, hI, hb, hO⟩ := hrel
        have hsl := H5.out.1.only hO H5.out.2.1
        by_cases hlt2 : m < (outL E V).length
        · obtain ⟨bl2, off2, rfl, hcell⟩ := hsl (by omega)
          have g1 := hcell m hlt2
          obtain ⟨x, hx⟩ : ∃ x, (outL E V)[m]? = some x := ⟨_, List.getElem?_eq_getElem hlt2⟩
          simp only [hx, Option.getD_some] at g1
          have hxr := (HP.out.2.2.2 _ (mem_outL.1 (List.mem_of_getElem? hx))).2.1
          obtain ⟨X, rfl⟩ := Int.eq_ofNat_of_zero_le hxr.1
          have hX : X < o.length := by omega
          have hbX : (X : Int) < (o.length : Int) := by omega
          have hb2 : (m : Int) < ((outL E V).length : Int) := by omega
          have hdl : (relaxAll (List.replicate o.length 0) (flatE E (o.take k) ++ ((outL E V).take m).map (fun x => ((V : Int), x)))).length = o.length := by rw [relaxAll_length]; simp
          have HT : Hid (relaxAll (List.replicate o.length 0) (flatE E (o.take k) ++ ((outL E V).take (m + 1)).map (fun x => ((V : Int), x))) = relax (relaxAll (List.replicate o.length 0) (flatE E (o.take k) ++ ((outL E V).take m).map (fun x => ((V : Int), x)))) ((V : Int), (X : Int))) := hid (by
            rw [List.take_add_one, hx, List.map_append, ← List.append_assoc]
            exact relaxAll_snoc _ _ _)
          generalize relaxAll (List.replicate o.length 0) (flatE E (o.take k) ++ ((outL E V).take m).map (fun x => ((V : Int), x))) = d at *
          have hu0 := hI.cell (i := V) (by omega)
          have hx0 := hI.cell (i := X) (by omega)
          have hfz := hI.frozen X
          have hru := hb.out V
          have hrx := hb.out X
          have HB := hid (relax_bound (U := V) (by omega : X < d.length) hb.out)
          have HI := hid (And.intro hI hO)
          have HR : Hid (relax d ((V : Int), (X : Int)) = d.set X (max (dget d X) (dget d V + 1))) := hid rfl
          clear hcell hsl hx hI hO hb
          generalize hdu : dget d V = du at *
          generalize hdx : dget d X = dx at *
          clear hdu hdx
          go_wp2_with fail
          go_region
          go_wp2
          go_roundw
          case rel =>
            refine ⟨m + 1, by omega, by go_num, ?_, hid (fun i => ?_), ?_⟩
            · rw [HT.out, HR.out]
              exact HI.out.1.set X _
            · rw [HT.out]
              have := HB.out i
              omega
            · exact HI.out.2.trans (Only.trans (F := fun i => i = w1.heap.size) (Only.drewN _ _) (Only.setCell (F := fun i => i = w1.heap.size) _ rfl _) (fun _ _ h => h)) (fun _ _ h => h)
          case measure => simp [intOf]; omega
        · obtain rfl : m = (outL E V).length := by omega
          rw [List.take_length, ← HFL.out] at hI hb
          have HF := hid (And.intro hI (And.intro hb.out (H5.out.2.2.2.trans hO (fun i _ h => by subst h; exact Nat.le_refl _))))
          clear hI hO hb hsl
          go_wp2
          go_roundw
          case rel => exact ⟨k + 1, by omega, by go_num, HF.out.1, hid (fun i => by have := HF.out.2.1 i; rw [HK1.out]; omega), HF.out.2.2⟩
          case measure => simp [intOf]; omega
    · obtain rfl : k = o.length := by omega
      have hI := HH.out.1
      rw [List.take_length] at hI
      have HF := hid hI
      clear hI hsl
      go_wp2
      go_ret2
      exact ⟨_, rfl, HF.out, Grew.trans H1.out.2.1 (Fresh.grew HH.out.2.2)⟩
end Go.Proofs.Ytlpkolmaklnffaa
