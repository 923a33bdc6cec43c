/- The walk of the reference's steps: how far each vertex is from v. -/
import Derived.Test.YtlpkolmaklnffaaRefT
import Derived.Test.YtlpkolmaklnffaaCyc2
namespace Go.Proofs.Ytlpkolmaklnffaa
open Go.RowKit Go.MapKept

/-- Block sb is the row of ints d. -/
def Ints (w : World) (sb : Nat) (d : List Int) : Prop := w.heap[sb]? = some (.cells (d.map (Value.int .i64)).toArray 3 (0, 0))
theorem Ints.cell {w : World} {sb : Nat} {d : List Int} (h : Ints w sb d) {i : Nat} (hi : i < d.length) : w.cell? ⟨sb, i, none⟩ = some (.int .i64 (dget d i)) := by
  have := cell_of_row w sb i _ _ _ h
  rw [this]
  simp [dget, List.getElem?_eq_getElem hi]
theorem Ints.frozen {w : World} {sb : Nat} {d : List Int} (h : Ints w sb d) (i : Nat) : w.frozen? ⟨sb, i, none⟩ = false := by
  unfold Ints at h
  simp [World.frozen?, h]
theorem Ints.only {F : Nat → Prop} {w w' : World} {sb : Nat} {d : List Int} (h : Ints w sb d) (k : Only F w w') (hn : ¬ F sb) : Ints w' sb d := k.heap h hn
theorem Ints.lt {w : World} {sb : Nat} {d : List Int} (h : Ints w sb d) : sb < w.heap.size := (Array.getElem?_eq_some_iff.1 h).1
theorem Ints.set {w : World} {sb : Nat} {d : List Int} (h : Ints w sb d) (i : Nat) (x : Int) : Ints (w.setCell ⟨sb, i, none⟩ (.int .i64 x)) sb (d.set i x) := by
  unfold Ints at h ⊢
  simp [World.setCell, Array.getElem?_modify, h]
theorem Ints.SlI {w : World} {sb : Nat} {d : List Int} (h : Ints w sb d) : SlI w (some ⟨sb, 0, none⟩) d := fun _ => ⟨sb, 0, rfl, fun j hj => by
  rw [Nat.zero_add, h.cell hj]
  simp [dget, List.getElem?_eq_getElem hj]⟩
theorem minus_all {d : List Int} {N : Nat} (hl : d.length = N) (h : ∀ j, j < N → d[j]? = some (-1)) : d = List.replicate N (-1) := by
  apply List.ext_getElem?
  intro j
  by_cases hj : j < N
  · rw [h j hj, List.getElem?_replicate, if_pos hj]
  · rw [List.getElem?_eq_none (by omega), List.getElem?_eq_none (by simp; omega)]
theorem DistMid.range {E L : List (Int × Int)} {v : Int} {N n : Nat} {d : List Int} (h : DistMid E v N n L d) {x : Nat} (hx : x < N) : -1 ≤ dget d x ∧ dget d x ≤ n := by
  rcases h.2 x (by omega) (by omega) with ⟨a, _⟩ | ⟨k, a, b, _⟩
  · omega
  · omega
set_option maxRecDepth 100000 in
set_option maxHeartbeats 1000000 in
theorem rsteps_at (b N V : Nat) (E : List (Int × Int)) (F : Nat → Prop) (w : World) (hG : IsRef w F b N E) (hN : N ≤ 1048576) (hE : Valid N E) (hV : V < N) :
    Calls Try.prog 76 #[.pointer (some ⟨b, 0, none⟩), .int .i64 V] w fun e w' => ∃ d sb, e = .returned (.slice (some ⟨sb, 0, none⟩) N N) ∧ IsDist E V N d ∧ Ints w' sb d ∧ w.heap.size ≤ sb ∧ Grew w w' := by
  obtain ⟨A', c', g⟩ := hG
  have k0 := cell_of_row _ _ 0 _ _ _ g.blk
  simp at k0
  have hcap := g.cap
  have hcmax := g.cmax
  unfold maxLen at hcmax
  obtain ⟨i0, hi0, hz0, hz1, hz2⟩ := info_parts info_int
  have hmk : ∀ W : World, (Instr.makeSlice 29 (.int .i64 (N : Int)) (.int .i64 (N : Int))).run Try.prog W = .ok (.slice (some ⟨W.heap.size, 0, none⟩) N N) (W.alloc (.cells ((List.replicate N (0 : Int)).map (Value.int .i64)).toArray 3)) := fun W => by
    have h := run_make (P := Try.prog) W 29 3 i0 (.int .i64 0) Try.underlying29 hi0 hz0 .i64 .i64 (N : Int) (N : Int) (by omega) (Int.le_refl _) (by rw [hz2]; omega) (by omega)
    rw [h, hz1]
    simp only [Int.toNat_natCast, Nat.mul_one]
    congr 4
    apply Array.ext'
    rw [show (Value.int .i64 0).cells = #[.int .i64 0] from rfl, toList_madeCells_one]
    simp
  have HB0 : Hid (Ints (w.alloc (.cells ((List.replicate N (0 : Int)).map (Value.int .i64)).toArray 3)) w.heap.size (List.replicate N 0)) := hid (heap_alloc_new w _)
  have HG := hid (fun (wr : World) (hO : Only (fun i => w.heap.size ≤ i) w wr) => g.only (Fresh.grew hO) (fun _ _ h => h))
  have HE := hid hE
  clear hi0 hz0 hz1 hz2 g hE
  go_enter Try.func76, Try.ntmps76
  go_wp2_with fail
  go_loopw [6] (fun i wr => ∃ (k : Nat) (d : List Int), k ≤ N ∧ i = .int .i64 k ∧ Ints wr w.heap.size d ∧ d.length = N ∧ (∀ j, j < k → d[j]? = some (-1)) ∧ Only (fun i => w.heap.size ≤ i) w wr) (fun i _ => N - (intOf i).toNat)
  case atStart => exact ⟨0, _, Nat.zero_le _, rfl, by simpa using HB0.out, by simp, fun j hj => absurd hj (Nat.not_lt_zero j), Only.alloc _ _⟩
  case round =>
    obtain ⟨k, d, hk, rfl, hI, hdl, hd, hO⟩ := hrel
    have k1 := cell_of_row _ _ 0 _ _ _ (HG.out wr hO).blk
    simp at k1
    have HH := hid (And.intro hI (And.intro hd hO))
    have hfz := hI.frozen
    have hw0 := hI.lt
    clear hd hO hmk HB0
    by_cases hlt : k < N
    · have hc := hI.cell (i := k) (by omega)
      have hb0 : (k : Int) < (N : Int) := by omega
      clear hI
      go_wp2
      go_roundw
      case rel =>
        refine ⟨k + 1, d.set k (-1), by omega, by go_num, HH.out.1.set k (-1), by simpa using hdl, fun j hj => ?_, HH.out.2.2.trans (Only.setCell _ (Nat.le_refl _) _) (fun _ _ h => h)⟩
        rw [List.getElem?_set]
        by_cases hjk : k = j
        · rw [if_pos hjk, if_pos (by omega)]
        · rw [if_neg hjk]
          exact HH.out.2.1 j (by omega)
      case measure => simp [intOf]; omega
    · obtain rfl : k = N := by omega
      obtain rfl := minus_all hdl HH.out.2.1
      have hc := hI.cell (i := V) (by simpa using hV)
      have hb0 : (V : Int) < (k : Int) := by omega
      clear hI hdl
      go_wp2_with fail
      go_loopw [7] (fun i wr => ∃ (n : Nat) (d : List Int), 1 ≤ n ∧ n ≤ k + 1 ∧ i = .int .i64 n ∧ Ints wr w.heap.size d ∧ DistUpto E V k n d ∧ Only (fun i => w.heap.size ≤ i) w wr) (fun i _ => k + 1 - (intOf i).toNat)
      case atStart => exact ⟨1, _, Nat.le_refl _, by omega, rfl, HH.out.1.set V 0, DistUpto.start hV, HH.out.2.2.trans (Only.setCell _ (Nat.le_refl _) _) (fun _ _ h => h)⟩
      clear hc k1 hfz hw0
      clear HH
      case round =>
        obtain ⟨n, d, hn0, hn, rfl, hI, hD, hO⟩ := hrel
        have k1 := cell_of_row _ _ 0 _ _ _ (HG.out wr hO).blk
        simp at k1
        have HH := hid (And.intro hI (And.intro hD hO))
        clear hI hD hO
        by_cases hlt : n ≤ k
        · have hb1 : (n : Int) ≤ (k : Int) := by omega
          go_wp2_with fail
          go_loopw [8] (fun i wr => ∃ (m : Nat) (d : List Int), m ≤ E.length ∧ i = .int .i64 m ∧ Ints wr w.heap.size d ∧ DistMid E V k n (E.take m) d ∧ Only (fun i => w.heap.size ≤ i) w wr) (fun i _ => E.length - (intOf i).toNat)
          case atStart => exact ⟨0, d, Nat.zero_le _, rfl, HH.out.1, HH.out.2.1.mid, HH.out.2.2⟩
          clear HH k1
          case round =>
            obtain ⟨m, d, hm, rfl, hI, hD, hO⟩ := hrel
            have g1 := HG.out wr hO
            have k1 := cell_of_row _ _ 1 _ _ _ g1.blk
            simp at k1
            have hsl := g1.sl
            clear g1
            by_cases hlt2 : m < E.length
            · obtain ⟨bl, off, rfl, hcell⟩ := hsl (by omega)
              obtain ⟨h1, h2⟩ := hcell m hlt2
              obtain ⟨⟨u, x⟩, hux⟩ : ∃ p, E[m]? = some p := ⟨E[m], by simp [hlt2]⟩
              have hval := HE.out _ (List.mem_of_getElem? hux)
              obtain ⟨U, rfl⟩ := Int.eq_ofNat_of_zero_le hval.1.1
              obtain ⟨X, rfl⟩ := Int.eq_ofNat_of_zero_le hval.2.1.1
              simp only [hux, Option.getD_some] at h1 h2
              have hU : U < k := by have := hval.1.2; omega
              have hX : X < k := by have := hval.2.1.2; omega
              have hbU : (U : Int) < (k : Int) := by omega
              have hbX : (X : Int) < (k : Int) := by omega
              have hb2 : (m : Int) < (E.length : Int) := by omega
              have hdl := hD.1
              have hB2 : Ints (wr.alloc (.cells #[.int .i64 U, .int .i64 X] 39)) w.heap.size d := hI.only (Only.alloc (F := fun _ => False) _ _) (fun h => h)
              have hu0 := hB2.cell (i := U) (by omega)
              have hx0 := hB2.cell (i := X) (by omega)
              have c0 : (wr.alloc (.cells #[.int .i64 U, .int .i64 X] 39)).cell? ⟨wr.heap.size, 0, none⟩ = some (.int .i64 U) := cell_of_row _ _ 0 _ _ _ (heap_alloc_new wr _)
              have c1 : (wr.alloc (.cells #[.int .i64 U, .int .i64 X] 39)).cell? ⟨wr.heap.size, 1, none⟩ = some (.int .i64 X) := cell_of_row _ _ 1 _ _ _ (heap_alloc_new wr _)
              have hfz := hB2.frozen U
              have hru := hD.range hU
              have hrx := hD.range hX
              have HT : Hid (E.take (m + 1) = E.take m ++ [((U : Int), (X : Int))]) := hid (by rw [List.take_add_one, hux]; rfl)
              have HM := hid (List.mem_of_getElem? hux)
              have HH := hid (And.intro hB2 (And.intro hD (And.intro (hO.trans (Only.alloc (F := fun i => w.heap.size ≤ i) wr (.cells #[.int .i64 U, .int .i64 X] 39)) (fun _ _ h => h)) hval)))
              clear hcell hsl hux hval hB2 hI hD hO
              generalize hdu : dget d U = du at hu0 hru
              generalize hdx : dget d X = dx at hx0 hrx
              have HDU := hid (And.intro hdu hdx)
              clear hdu hdx
              by_cases hneg : du < 0
              · by_cases heq : dx = (n : Int) - 1
                · go_wp2
                  go_roundw
                  case rel =>
                    refine ⟨m + 1, d.set U n, by omega, by go_num, HH.out.1.set U n, ?_, HH.out.2.2.1.trans (Only.setCell _ (Nat.le_refl _) _) (fun _ _ h => h)⟩
                    rw [HT.out]
                    exact HH.out.2.1.put (by omega) (fun e he => HE.out e (List.mem_of_mem_take he)) hU HH.out.2.2.2.2.1 HM.out (by rw [HDU.out.1]; exact hneg) (by rw [HDU.out.2]; omega)
                  case measure => simp [intOf]; omega
                · have hne : ¬ dx = (n : Int) - 1 := heq
                  go_wp2
                  go_roundw
                  case rel =>
                    refine ⟨m + 1, d, by omega, by go_num, HH.out.1, ?_, HH.out.2.2.1⟩
                    rw [HT.out]
                    exact HH.out.2.1.keep (by rw [HDU.out.1, HDU.out.2]; omega)
                  case measure => simp [intOf]; omega
              · go_wp2
                go_roundw
                case rel =>
                  refine ⟨m + 1, d, by omega, by go_num, HH.out.1, ?_, HH.out.2.2.1⟩
                  rw [HT.out]
                  exact HH.out.2.1.keep (by rw [HDU.out.1]; omega)
                case measure => simp [intOf]; omega
            · obtain rfl : m = E.length := by omega
              rw [List.take_length] at hD
              have HF := hid (And.intro hI (And.intro hD hO))
              clear hI hD hO hsl
              go_wp2
              go_roundw
              case rel => exact ⟨n + 1, d, by omega, by omega, by go_num, HF.out.1, HF.out.2.1.done (by omega) HE.out, HF.out.2.2⟩
              case measure => simp [intOf]; omega
        · obtain rfl : n = k + 1 := by omega
          go_wp2
          go_ret
          exact ⟨d, w.heap.size, rfl, HH.out.2.1.all HE.out ⟨by omega, by omega⟩, HH.out.1, Nat.le_refl _, Fresh.grew HH.out.2.2⟩
end Go.Proofs.Ytlpkolmaklnffaa
