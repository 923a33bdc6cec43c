/- slices.Sorted over slices.Values and over maps.Keys, at ints; slices.Equal, Contains, Index, Clone: in this claim's own words. -/
import Derived.Test.YtlpkolmaklnffaaSeq
import Derived.Sort.OwnSorted
namespace Go.Proofs.Ytlpkolmaklnffaa
open Go.RowKit Go.Shelf Go.Sort Go.Maps

def sortL (xs : List Int) : List Int := xs.mergeSort (fun x y => decide (x ≤ y))
theorem sortL_perm (xs : List Int) : (sortL xs).Perm xs := List.mergeSort_perm _ _
theorem sortL_length (xs : List Int) : (sortL xs).length = xs.length := (sortL_perm xs).length_eq
theorem sortL_sorted (xs : List Int) : (sortL xs).Pairwise (· ≤ ·) := by
  have := List.pairwise_mergeSort (le := fun x y : Int => decide (x ≤ y)) (fun a b c h1 h2 => by simp at *; omega) (fun a b => by simp; omega) xs
  exact this.imp (fun h => by simpa using h)
theorem eq_of_perm_le {l l' : List Int} (hp : l.Perm l') (h : l.Pairwise (· ≤ ·)) (h' : l'.Pairwise (· ≤ ·)) : l = l' :=
  hp.eq_of_pairwise (fun a b _ _ h1 h2 => by omega) h h'
theorem sortL_eq {xs ys : List Int} (hp : ys.Perm xs) (hs : ys.Pairwise (· ≤ ·)) : sortL xs = ys :=
  eq_of_perm_le ((sortL_perm xs).trans hp.symm) (sortL_sorted xs) hs
theorem sortL_congr {xs ys : List Int} (hp : xs.Perm ys) : sortL xs = sortL ys := sortL_eq ((sortL_perm ys).trans hp.symm) (sortL_sorted ys)

set_option maxHeartbeats 1000000 in
theorem collect_in (F : Fence) (n : Nat) (h2 : F.fn 87) (h3 : F.fn 96) (h5 : F.fn 90) (hro : F.round = none) (hn : 4 ≤ n) (Bs cap : Nat) (A : Option Addr) (zs : List Int) (hbytes : zs.length * 8 ≤ 140737488351232) (w : World)
    (hBs : Bs < w.heap.size) (hc0 : w.cell? ⟨Bs, 0, none⟩ = some (.slice A zs.length cap)) (hI : SlI w A zs) :
    CallsIn F n Try.prog 87 #[.func (.func 90) #[] #[.pointer (some ⟨Bs, 0, none⟩)]] w fun e W' => ∃ v, e = .returned v ∧ W'.ownsRow w.heap.size 3 1 v zs.length (zs.map (Value.int .i64)) ∧ (v = .slice none 0 0 ↔ zs = []) ∧ Below w.heap.size w W' := by
  have h1 : 1 ≤ n := by omega
  have HA := hid (appendSeq_in F (n - 1) h3 h5 hro (by omega) Bs cap A zs hbytes w hBs hc0 hI)
  clear hc0 hI
  refine callsIn_of_wp Try.func87 rfl h2 ?_ hro
  simp only [Try.ntmps87, List.size_toArray, List.length_cons, List.length_nil, Nat.reduceAdd, Nat.reduceSub, Array.replicate_succ, Array.replicate_zero, List.push_toArray, List.append_toArray, List.nil_append, List.cons_append]
  gi_wp2_with (gi_at_call 96; refine (HA.out).mono ?_; rintro e w' ⟨v, rfl, hrow, hnil, hb⟩)
  go_ret
  exact ⟨v, rfl, hrow, hnil, hb⟩
/-- slices.Sort's two contracts at this program. -/
theorem sortsA (m : Nat) : AnyZI.SortsIn Try.prog Try.sortedA_ren Fence.wide m :=
  ⟨fun blk off cap ss W hH hblk hsz => callsIn_wide.2 (AnyM.slices_Sort_int Try.sortA blk off cap ss W hH hblk hsz),
   fun p cap W => callsIn_wide.2 (AnyM.slices_Sort_int_none Try.sortA p cap W)⟩
set_option maxHeartbeats 1000000 in
theorem sorted_in (Bs cap : Nat) (A : Option Addr) (zs : List Int) (hbytes : zs.length * 8 ≤ 140737488351232) (w : World)
    (hBs : Bs < w.heap.size) (hc0 : w.cell? ⟨Bs, 0, none⟩ = some (.slice A zs.length cap)) (hI : SlI w A zs) :
    CallsIn Fence.wide 6 Try.prog 65 #[.func (.func 90) #[] #[.pointer (some ⟨Bs, 0, none⟩)]] w fun e W' => ∃ v, e = .returned v ∧ W'.ownsRow w.heap.size 3 1 v zs.length ((sortL zs).map encZ) ∧ Below w.heap.size w W' := by
  have HC := hid (collect_in Fence.wide 5 trivial trivial trivial rfl (by omega) Bs cap A zs hbytes w hBs hc0 hI)
  have hS1 := fun blk off cap ss W hH hblk hsz => (sortsA 5).1 blk off cap ss W hH hblk hsz
  have hS2 := fun p cap W => (sortsA 5).2 p cap W
  have hf1 : Fence.wide.fn 87 := trivial
  have hf2 : Fence.wide.fn 88 := trivial
  have HS1 := hid hS1
  have HS2 := hid hS2
  clear hc0 hI hS1 hS2
  refine callsIn_of_wp Try.func65 rfl trivial ?_ rfl
  simp only [Try.ntmps65, List.size_toArray, List.length_cons, List.length_nil, Nat.reduceAdd, Nat.reduceSub, Array.replicate_succ, Array.replicate_zero, List.push_toArray, List.append_toArray, List.nil_append, List.cons_append]
  gi_wp2_with (gi_at_call 87; refine (HC.out).mono ?_; rintro e W ⟨v, rfl, hrow, hnil, hb⟩)
  rcases hrow.2 with ⟨rfl, hz⟩ | ⟨gb, cap', cur, rfl, hbase, hgb, r1, r2, r3, r4⟩
  · have hss : zs = [] := List.eq_nil_of_length_eq_zero hz
    subst hss
    have cS : CallsIn Fence.wide 5 Try.prog 88 #[.slice none 0 0] W fun e w' => e = .returned (.tuple #[]) ∧ w' = W := HS2.out none 0 W
    have HCS := hid cS
    clear cS
    gi_wp2_with (gi_at_call 88; refine (HCS.out).mono ?_; rintro e w' ⟨rfl, rfl⟩)
    go_ret
    exact ⟨.slice none 0 0, rfl, by simpa [sortL] using hrow, hb⟩
  · have hH : Holds encZ W gb 0 zs.toArray := holds_of_block_i hgb (by simpa using r4)
    have hgl : gb < W.heap.size := (Array.getElem?_eq_some_iff.1 hgb).1
    have hsz : zs.length < 4611686018427387904 := by omega
    have cS : CallsIn Fence.wide 5 Try.prog 88 #[.slice (some ⟨gb, 0, none⟩) zs.length cap'] W fun e w' => e = .returned (.tuple #[]) ∧ ∃ k os, w' = grow (putRow encZ (Sort.ahead W k) gb 0 (zs.mergeSort fun x y => decide (x ≤ y)).toArray) os := HS1.out gb 0 cap' zs W hH hgl hsz
    have HCS := hid cS
    have HR := hid (And.intro hgb (And.intro r1 (And.intro r2 r3)))
    clear cS hH hgb r1 r2 r3 r4 hrow
    gi_wp2_with (gi_at_call 88; refine (HCS.out).mono ?_; rintro e w' ⟨rfl, nn, os, rfl⟩)
    go_ret
    exact ⟨_, rfl, ownsRow_sorted_i (by simp) hbase HR.out.1 HR.out.2.1 HR.out.2.2.1 HR.out.2.2.2, hb.grown (grownBy_sorted_i _) hb.size (fun j hj => by cases hj; exact hbase)⟩
theorem encZ_eq (xs : List Int) : xs.map encZ = xs.map (Value.int .i64) := rfl
/-- slices.Values(s). -/
theorem values_at (A : Option Addr) (len cap : Nat) (w : World) :
    Calls Try.prog 67 #[.slice A len cap] w fun e w' => e = .returned (.func (.func 90) #[] #[.pointer (some ⟨w.heap.size, 0, none⟩)]) ∧ w.alloc (.cells #[.slice A len cap] 29) = w' :=
  ((callsIn_wide (n := 2)).1 (values_in Fence.wide 2 trivial rfl A len cap w)).mono fun _ _ ⟨h1, h2⟩ => ⟨h1, h2.symm⟩
/-- What slices.Sorted hands back: a new slice of the numbers xs, or nil where there is none. -/
def NewInts (w w' : World) (v : Value) (xs : List Int) : Prop := w'.ownsRow w.heap.size 3 1 v xs.length (xs.map (Value.int .i64))
theorem NewInts.form {w w' : World} {v : Value} {xs : List Int} (h : NewInts w w' v xs) : ∃ A c, v = .slice A xs.length c ∧ SlI w' A xs ∧ xs.length ≤ c ∧ c ≤ maxLen ∧ ∀ b off, A = some ⟨b, off, none⟩ → w.heap.size ≤ b ∧ b < w'.heap.size := by
  have h' := h
  rcases h.2 with ⟨rfl, hz⟩ | ⟨g, cap, cur, rfl, hb, hg, h1, h2, h3, h4⟩
  · obtain rfl : xs = [] := List.eq_nil_of_length_eq_zero hz
    exact ⟨none, 0, rfl, SlI.nil, Nat.le_refl _, by simp [maxLen], fun _ _ h => by cases h⟩
  · exact ⟨_, _, rfl, SlI.of_own h', h1, h2, fun b off e => by cases e; exact ⟨hb, (Array.getElem?_eq_some_iff.1 hg).1⟩⟩
/-- slices.Sorted(slices.Values(s)). -/
theorem sorted_values_at (Bs cap : Nat) (A : Option Addr) (zs : List Int) (hbytes : zs.length * 8 ≤ 140737488351232) (w : World) (hc0 : w.cell? ⟨Bs, 0, none⟩ = some (.slice A zs.length cap)) (hI : SlI w A zs) :
    Calls Try.prog 65 #[.func (.func 90) #[] #[.pointer (some ⟨Bs, 0, none⟩)]] w fun e w' => ∃ v, e = .returned v ∧ NewInts w w' v (sortL zs) ∧ Grew w w' :=
  ((callsIn_wide (n := 6)).1 (sorted_in Bs cap A zs hbytes w (World.block_lt_of_cell? w _ hc0) hc0 hI)).mono fun _ _ ⟨v, h1, h2, h3⟩ =>
    ⟨v, h1, by unfold NewInts; rw [sortL_length]; exact h2, Only.of_below h3 (Nat.le_refl _)⟩

/-! ### slices.Equal, Contains, Index, Clone -/
theorem getD_eq (xs : List Int) (j : Nat) : xs.getD j 0 = xs[j]?.getD 0 := by simp [List.getD]
theorem equal_at (A B : Option Addr) (c d : Nat) (xs ys : List Int) (w : World) (hx : SlI w A xs) (hy : SlI w B ys) (h1 : xs.length ≤ 9223372036854775807) (h2 : ys.length ≤ 9223372036854775807) :
    Calls Try.prog 23 #[.slice A xs.length c, .slice B ys.length d] w fun e w' => e = .returned (.bool (decide (xs = ys))) ∧ ∃ q, w' = w.drewN q := by
  by_cases hl : xs.length = ys.length
  · rcases Nat.eq_zero_or_pos xs.length with h0 | h0
    · have e1 : xs = [] := List.eq_nil_of_length_eq_zero h0
      have e2 : ys = [] := List.eq_nil_of_length_eq_zero (hl ▸ h0)
      subst e1 e2
      exact (Try.slices_Equal_int_empty A B c 0 d w (by omega)).mono fun _ _ ⟨a, b⟩ => ⟨by simpa using a, 0, b⟩
    · obtain ⟨b1, o1, rfl, c1⟩ := hx h0
      obtain ⟨b2, o2, rfl, c2⟩ := hy (hl ▸ h0)
      refine (Try.slices_Equal_int b1 o1 xs.length c b2 o2 ys.length d xs ys w (Nat.le_refl _) (Nat.le_refl _) h1 h2 (fun j hj => by rw [getD_eq]; exact c1 j hj) (fun j hj => by rw [getD_eq]; exact c2 j hj)).mono fun _ _ ⟨a, b⟩ => ⟨?_, b⟩
      rw [a, List.take_length, List.take_length]
      congr 2
      by_cases h : xs = ys <;> simp [h]
  · refine (Try.slices_Equal_int_lens A B xs.length c ys.length d w hl).mono fun _ _ ⟨a, b⟩ => ⟨?_, 0, b⟩
    rw [a]
    congr 2
    simp
    rintro rfl
    exact hl rfl
theorem contains_at (A : Option Addr) (c : Nat) (xs : List Int) (x : Int) (w : World) (hx : SlI w A xs) (h1 : xs.length ≤ 9223372036854775807) :
    Calls Try.prog 33 #[.slice A xs.length c, .int .i64 x] w fun e w' => e = .returned (.bool (decide (x ∈ xs))) ∧ w = w' := by
  rcases Nat.eq_zero_or_pos xs.length with h0 | h0
  · obtain rfl : xs = [] := List.eq_nil_of_length_eq_zero h0
    exact (Try.slices_Contains_int_empty A c x w).mono fun _ _ ⟨a, b⟩ => ⟨by simpa using a, b.symm⟩
  · obtain ⟨b1, o1, rfl, c1⟩ := hx h0
    refine (Try.slices_Contains_int b1 o1 xs.length c xs x w (Nat.le_refl _) h1 (fun j hj => by rw [getD_eq]; exact c1 j hj)).mono fun _ _ ⟨a, b⟩ => ⟨?_, b.symm⟩
    rw [a, List.take_length]
    congr 2
    by_cases h : x ∈ xs <;> simp [h]
theorem clone_at (A : Option Addr) (c : Nat) (xs : List Int) (w : World) (hx : SlI w A xs) (h1 : xs.length * 8 ≤ 140737488355328) :
    Calls Try.prog 61 #[.slice A xs.length c] w fun e w' => ∃ v, e = .returned v ∧ NewInts w w' v xs ∧ Grew w w' := by
  rcases A with _ | a
  · obtain rfl : xs = [] := by
      rcases Nat.eq_zero_or_pos xs.length with h0 | h0
      · exact List.eq_nil_of_length_eq_zero h0
      · obtain ⟨_, _, h, _⟩ := hx h0
        cases h
    exact (Try.slices_Clone_int_nil 0 c w).mono fun _ _ ⟨a, b⟩ => ⟨_, a, b ▸ World.ownsRow_nil _ _ _ _, b ▸ Only.refl _ _⟩
  · rcases Nat.eq_zero_or_pos xs.length with h0 | h0
    · obtain rfl : xs = [] := List.eq_nil_of_length_eq_zero h0
      exact (Try.slices_Clone_int_zero a c w).mono fun _ _ ⟨v, a, b, _, d⟩ => ⟨v, a, b, Only.of_below d (Nat.le_refl _)⟩
    · obtain ⟨b1, o1, e, c1⟩ := hx h0
      cases e
      refine (Try.slices_Clone_int b1 o1 xs.length c xs w (Nat.le_refl _) h1 (fun j hj => by rw [getD_eq]; exact c1 j hj)).mono fun _ _ ⟨v, a, b, _, d⟩ => ⟨v, a, ?_, Only.of_below d (Nat.le_refl _)⟩
      rw [List.take_length] at b
      exact b
end Go.Proofs.Ytlpkolmaklnffaa
