/- The walk of the reference's Depth. -/
import Derived.Test.YtlpkolmaklnffaaSteps
import Derived.Test.YtlpkolmaklnffaaDepth
import Derived.RegionTactic
namespace Go.Proofs.Ytlpkolmaklnffaa
open Go.RowKit Go.MapKept

theorem relax_bound {d : List Int} {U X : Nat} {T : Int} (hX : X < d.length) (h : ∀ i : Nat, 0 ≤ dget d i ∧ dget d i ≤ T) : ∀ i : Nat, 0 ≤ dget (relax d ((U : Int), (X : Int))) i ∧ dget (relax d ((U : Int), (X : Int))) i ≤ T + 1 := fun i => by
  rw [dget_relax (by show (0 : Int) ≤ X; omega) (by show (X : Int) < _; omega) (by omega)]
  have h1 := h i
  have h2 := h X
  have h3 := h U
  split
  · show 0 ≤ max (dget d X) (dget d U + 1) ∧ max (dget d X) (dget d U + 1) ≤ T + 1
    omega
  · omega
set_option maxRecDepth 100000 in
set_option maxHeartbeats 1000000 in
theorem rdepth_at (b N : Nat) (E : List (Int × Int)) (F : Nat → Prop) (w : World) (hG : IsRef w F b N E) (hN : N ≤ 1048576) (hE : Valid N E) (hfew : E.length ≤ 1048576) :
    Calls Try.prog 47 #[.pointer (some ⟨b, 0, none⟩)] w fun e w' => ∃ sb, e = .returned (.slice (some ⟨sb, 0, none⟩) N N) ∧ Ints w' sb (rounds E N N) ∧ w.heap.size ≤ sb ∧ Grew w w' := by
  obtain ⟨A', c', g⟩ := hG
  have k0 := cell_of_row _ _ 0 _ _ _ g.blk
  simp at k0
  have hcap := g.cap
  have hcmax := g.cmax
  unfold maxLen at hcmax
  obtain ⟨i0, hi0, hz0, hz1, hz2⟩ := info_parts info_int
  have hmk : ∀ W : World, (Instr.makeSlice 29 (.int .i64 (N : Int)) (.int .i64 (N : Int))).run Try.prog W = .ok (.slice (some ⟨W.heap.size, 0, none⟩) N N) (W.alloc (.cells ((List.replicate N (0 : Int)).map (Value.int .i64)).toArray 3)) := fun W => by
    have h := run_make (P := Try.prog) W 29 3 i0 (.int .i64 0) Try.underlying29 hi0 hz0 .i64 .i64 (N : Int) (N : Int) (by omega) (Int.le_refl _) (by rw [hz2]; omega) (by omega)
    rw [h, hz1]
    simp only [Int.toNat_natCast, Nat.mul_one]
    congr 4
    apply Array.ext'
    rw [show (Value.int .i64 0).cells = #[.int .i64 0] from rfl, toList_madeCells_one]
    simp
  have HB0 : Hid (Ints (w.alloc (.cells ((List.replicate N (0 : Int)).map (Value.int .i64)).toArray 3)) w.heap.size (List.replicate N 0)) := hid (heap_alloc_new w _)
  have HG := hid (fun (wr : World) (hO : Only (fun i => w.heap.size ≤ i) w wr) => g.only (Fresh.grew hO) (fun _ _ h => h))
  have HE := hid hE
  clear hi0 hz0 hz1 hz2 g hE
  go_enter Try.func47, Try.ntmps47
  go_wp2_with fail
  go_loopw [4] (fun i wr => ∃ k : Nat, k ≤ N ∧ i = .int .i64 k ∧ Ints wr w.heap.size (rounds E N k) ∧ Hid (∀ i : Nat, 0 ≤ dget (rounds E N k) i ∧ dget (rounds E N k) i ≤ ((k * E.length : Nat) : Int)) ∧ Only (fun i => w.heap.size ≤ i) w wr) (fun i _ => N - (intOf i).toNat)
  case atStart => exact ⟨0, Nat.zero_le _, rfl, by simpa [rounds] using HB0.out, hid (fun i => by simp [rounds, dget_zeros]), Only.alloc _ _⟩
  clear hmk HB0
  case round =>
    obtain ⟨k, hk, rfl, hI, hb, hO⟩ := hrel
    have k1 := cell_of_row _ _ 0 _ _ _ (HG.out wr hO).blk
    simp at k1
    have HH := hid (And.intro hI (And.intro hb.out hO))
    clear hI hO hb
    by_cases hlt : k < N
    · have hb0 : (k : Int) < (N : Int) := by omega
      have hkl : k * E.length ≤ 1048576 * 1048576 := Nat.mul_le_mul (by omega) hfew
      have HK1 : Hid ((k + 1) * E.length = k * E.length + E.length) := hid (Nat.succ_mul _ _)
      generalize k * E.length = K at *
      go_wp2_with fail
      go_loopw [5] (fun i wr => ∃ m : Nat, m ≤ E.length ∧ i = .int .i64 m ∧ Ints wr w.heap.size (relaxAll (rounds E N k) (E.take m)) ∧ Hid (∀ i : Nat, 0 ≤ dget (relaxAll (rounds E N k) (E.take m)) i ∧ dget (relaxAll (rounds E N k) (E.take m)) i ≤ ((K + m : Nat) : Int)) ∧ Only (fun i => w.heap.size ≤ i) w wr) (fun i _ => E.length - (intOf i).toNat)
      case atStart => exact ⟨0, Nat.zero_le _, rfl, by simpa [relaxAll] using HH.out.1, hid (fun i => by simpa [relaxAll] using HH.out.2.1 i), HH.out.2.2⟩
      clear HH k1
      case round =>
        obtain ⟨m, hm, rfl, hI, hb, hO⟩ := hrel
        have g1 := HG.out wr hO
        have k1 := cell_of_row _ _ 1 _ _ _ g1.blk
        simp at k1
        have hsl := g1.sl
        clear g1
        by_cases hlt2 : m < E.length
        · obtain ⟨bl, off, rfl, hcell⟩ := hsl (by omega)
          obtain ⟨h1, h2⟩ := hcell m hlt2
          obtain ⟨⟨u, x⟩, hux⟩ : ∃ p, E[m]? = some p := ⟨E[m], by simp [hlt2]⟩
          have hval := HE.out _ (List.mem_of_getElem? hux)
          obtain ⟨U, rfl⟩ := Int.eq_ofNat_of_zero_le hval.1.1
          obtain ⟨X, rfl⟩ := Int.eq_ofNat_of_zero_le hval.2.1.1
          simp only [hux, Option.getD_some] at h1 h2
          have hU : U < N := by have := hval.1.2; omega
          have hX : X < N := by have := hval.2.1.2; omega
          have hbU : (U : Int) < (N : Int) := by omega
          have hbX : (X : Int) < (N : Int) := by omega
          have hb2 : (m : Int) < (E.length : Int) := by omega
          have hdl : (relaxAll (rounds E N k) (E.take m)).length = N := by rw [relaxAll_length, rounds_length]
          have HT : Hid (relaxAll (rounds E N k) (E.take (m + 1)) = relax (relaxAll (rounds E N k) (E.take m)) ((U : Int), (X : Int))) := hid (by rw [List.take_add_one, hux]; exact relaxAll_snoc _ _ _)
          generalize relaxAll (rounds E N k) (E.take m) = d at *
          have hB2 : Ints (wr.alloc (.cells #[.int .i64 U, .int .i64 X] 39)) w.heap.size d := hI.only (Only.alloc (F := fun _ => False) _ _) (fun h => h)
          have hu0 := hB2.cell (i := U) (by omega)
          have hx0 := hB2.cell (i := X) (by omega)
          have c0 : (wr.alloc (.cells #[.int .i64 U, .int .i64 X] 39)).cell? ⟨wr.heap.size, 0, none⟩ = some (.int .i64 U) := cell_of_row _ _ 0 _ _ _ (heap_alloc_new wr _)
          have c1 : (wr.alloc (.cells #[.int .i64 U, .int .i64 X] 39)).cell? ⟨wr.heap.size, 1, none⟩ = some (.int .i64 X) := cell_of_row _ _ 1 _ _ _ (heap_alloc_new wr _)
          have hfz := hB2.frozen X
          have hru := hb.out U
          have hrx := hb.out X
          have HB := hid (relax_bound (U := U) (by omega : X < d.length) hb.out)
          have HH := hid (And.intro hB2 (hO.trans (Only.alloc (F := fun i => w.heap.size ≤ i) wr (.cells #[.int .i64 U, .int .i64 X] 39)) (fun _ _ h => h)))
          have HR : Hid (relax d ((U : Int), (X : Int)) = d.set X (max (dget d X) (dget d U + 1))) := hid rfl
          clear hcell hsl hux hval hB2 hI hO hb
          generalize hdu : dget d U = du at *
          generalize hdx : dget d X = dx at *
          clear hdu hdx
          go_wp2_with fail
          go_region
          go_wp2
          go_roundw
          case rel =>
            refine ⟨m + 1, by omega, by go_num, ?_, hid (fun i => ?_), ?_⟩
            · rw [HT.out, HR.out]
              exact HH.out.1.set X _
            · rw [HT.out]
              have := HB.out i
              omega
            · exact HH.out.2.trans (Only.trans (F := fun i => w.heap.size ≤ i) (Only.drewN _ _) (Only.setCell _ (Nat.le_refl _) _) (fun _ _ h => h)) (fun _ _ h => h)
          case measure => simp [intOf]; omega
        · obtain rfl : m = E.length := by omega
          rw [List.take_length] at hI hb
          have HF := hid (And.intro hI (And.intro hb.out hO))
          clear hI hO hb hsl
          go_wp2
          go_roundw
          case rel => exact ⟨k + 1, by omega, by go_num, HF.out.1, hid (fun i => by have := HF.out.2.1 i; rw [HK1.out]; exact this), HF.out.2.2⟩
          case measure => simp [intOf]; omega
    · obtain rfl : k = N := by omega
      go_wp2
      go_ret
      exact ⟨w.heap.size, rfl, HH.out.1, Nat.le_refl _, Fresh.grew HH.out.2.2⟩
end Go.Proofs.Ytlpkolmaklnffaa
