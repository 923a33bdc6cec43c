/- slices.Equal, Reverse, Contains, ContainsFunc at extents, extent.Total, extent.Contains: in this claim's own words. -/
import Derived.Test.YtgpfhdjedebdfaaIx16
import Derived.Shelf.SlicesQ.Reverse
import Derived.Shelf.SlicesQ.Contains
import Derived.Shelf.SlicesQ.IndexFunc
import Derived.Shelf.SlicesQ.Equal
namespace Go.Proofs.Ytgpfhdjedebdfaa
open Go.RowKit Go.MapKept Go.Shelf Go.Lib

theorem getD_eq {α : Type} (xs : List α) (j : Nat) (d : α) : xs.getD j d = xs[j]?.getD d := by simp [List.getD]
theorem equalI_at (A B : Option Addr) (c d : Nat) (xs ys : List Int) (w : World) (hx : SlI w A xs) (hy : SlI w B ys) (h1 : xs.length ≤ 9223372036854775807) (h2 : ys.length ≤ 9223372036854775807) :
    Calls Try.prog 15 #[.slice A xs.length c, .slice B ys.length d] w fun e w' => e = .returned (.bool (decide (xs = ys))) ∧ ∃ q, w' = w.drewN q := by
  by_cases hl : xs.length = ys.length
  · rcases Nat.eq_zero_or_pos xs.length with h0 | h0
    · have e1 : xs = [] := List.eq_nil_of_length_eq_zero h0
      have e2 : ys = [] := List.eq_nil_of_length_eq_zero (hl ▸ h0)
      subst e1 e2
      exact (Try.slices_Equal_int_empty A B c 0 d w (by omega)).mono fun _ _ ⟨a, b⟩ => ⟨by simpa using a, 0, b⟩
    · obtain ⟨b1, o1, rfl, c1⟩ := hx h0
      obtain ⟨b2, o2, rfl, c2⟩ := hy (hl ▸ h0)
      refine (Try.slices_Equal_int b1 o1 xs.length c b2 o2 ys.length d xs ys w (Nat.le_refl _) (Nat.le_refl _) h1 h2 (fun j hj => by rw [getD_eq]; exact c1 j hj) (fun j hj => by rw [getD_eq]; exact c2 j hj)).mono fun _ _ ⟨a, b⟩ => ⟨?_, b⟩
      rw [a, List.take_length, List.take_length]
      congr 2
      by_cases h : xs = ys <;> simp [h]
  · refine (Try.slices_Equal_int_lens A B xs.length c ys.length d w hl).mono fun _ _ ⟨a, b⟩ => ⟨?_, 0, b⟩
    rw [a]
    congr 2
    simp
    rintro rfl
    exact hl rfl
def encE (x : Int × Int) : List Value := [.int .i64 x.1, .int .i64 x.2]
def eqE (x y : Int × Int) : Bool := x.1 == y.1 && x.2 == y.2
theorem eqE_iff {x y : Int × Int} : eqE x y = true ↔ x = y := by
  unfold eqE
  simp [Prod.ext_iff]
theorem eqlE : EqlAt Try.prog 28 (fun x => .agg (encE x).toArray) eqE := by
  refine ⟨fun x y w => ?_, GuardAt.agg _ (by kernel_rfl)⟩
  have u3 := Try.underlying3
  have a3 := Try.isAgg3
  have z3 := Try.sizeOf3
  have hS : Try.prog.underlying 28 = some (.struct (Try.prog.fieldsOf 28)) := by kernel_rfl
  have hp : Try.prog.stoodInHeld 28 = false := by kernel_rfl
  simp only [encE]
  rw [run_eql_struct, show (10000 : Nat) = 9999 + 1 from rfl, run_equalIn_agg w 9999 28 _ _ hS hp]
  simp only [Program.fieldsOf, Try.underlying28]
  go_simp
  by_cases h1 : x.fst = y.fst <;> by_cases h2 : x.snd = y.snd <;> simp [h1, h2, eqE]
theorem neqE : NeqAt Try.prog 28 (fun x => .agg (encE x).toArray) eqE := by
  refine ⟨fun x y w => ?_, GuardAt.agg _ (by kernel_rfl)⟩
  have u3 := Try.underlying3
  have a3 := Try.isAgg3
  have z3 := Try.sizeOf3
  have hS : Try.prog.underlying 28 = some (.struct (Try.prog.fieldsOf 28)) := by kernel_rfl
  have hp : Try.prog.stoodInHeld 28 = false := by kernel_rfl
  simp only [encE]
  rw [run_neq_struct, show (10000 : Nat) = 9999 + 1 from rfl, run_equalIn_agg w 9999 28 _ _ hS hp]
  simp only [Program.fieldsOf, Try.underlying28]
  go_simp
  by_cases h1 : x.fst = y.fst <;> by_cases h2 : x.snd = y.snd <;> simp [h1, h2, eqE]
theorem getElem!_of {α : Type} [Inhabited α] {xs : List α} {j : Nat} (h : j < xs.length) (d : α) : xs[j]! = xs[j]?.getD d := by
  rw [List.getElem!_eq_getElem?_getD, List.getElem?_eq_getElem h]
  rfl
theorem SlE.encs {w : World} {b o : Nat} {xs : List (Int × Int)} (hc : ∀ j, j < xs.length → w.cell? ⟨b, o + j * 2, none⟩ = some (.int .i64 (xs[j]?.getD (0, 0)).1) ∧ w.cell? ⟨b, o + j * 2 + 1, none⟩ = some (.int .i64 (xs[j]?.getD (0, 0)).2)) :
    ∀ j, j < xs.length → ∀ i v, (encE xs[j]!)[i]? = some v → w.cell? ⟨b, o + j * 2 + i, none⟩ = some v := fun j hj i v hi => by
  obtain ⟨c1, c2⟩ := hc j hj
  rw [getElem!_of hj (0, 0)] at hi
  match i with
  | 0 => simp [encE] at hi; subst hi; exact c1
  | 1 => simp [encE] at hi; subst hi; exact c2
  | i + 2 => simp [encE] at hi
theorem allEqE (xs ys : List (Int × Int)) : allEq eqE xs ys = decide (xs = ys) := by
  induction xs generalizing ys with
  | nil => cases ys <;> simp [allEq]
  | cons x r ih =>
    cases ys with
    | nil => simp [allEq]
    | cons y t =>
      simp only [allEq, ih]
      by_cases h : x = y
      · subst h
        simp [eqE_iff.2]
      · have : eqE x y = false := by
          cases he : eqE x y with
          | false => rfl
          | true => exact absurd (eqE_iff.1 he) h
        simp [this, h]
theorem equalE_lens (A B : Option Addr) (n m c d : Nat) (w : World) (h : n ≠ m) :
    Calls Try.prog 24 #[.slice A n c, .slice B m d] w fun e w' => e = .returned (.bool false) ∧ w' = w := by
  have hd : ((n : Int) != (m : Int)) = true := by simp; omega
  have hd2 : (n != m) = true := by simp; omega
  go_enter Try.func24, Try.ntmps24
  go_wp2
  go_ret
  exact ⟨rfl, rfl⟩
theorem equalE_nil (A B : Option Addr) (c d : Nat) (w : World) :
    Calls Try.prog 24 #[.slice A 0 c, .slice B 0 d] w fun e w' => e = .returned (.bool true) ∧ w' = w := by
  go_enter Try.func24, Try.ntmps24
  go_wp2
  refine wp_loop_rounds 1 ?_
  rw [rounds_succ]
  go_wp2
  go_ret
  exact ⟨rfl, rfl⟩
theorem equalE_at (A B : Option Addr) (c d : Nat) (xs ys : List (Int × Int)) (w : World) (hx : SlE w A xs) (hy : SlE w B ys) (h1 : xs.length ≤ 9223372036854775807) (h2 : ys.length ≤ 9223372036854775807) :
    Calls Try.prog 24 #[.slice A xs.length c, .slice B ys.length d] w fun e w' => e = .returned (.bool (decide (xs = ys))) ∧ ∃ q, w' = w.drewN q := by
  by_cases hl : xs.length = ys.length
  · rcases Nat.eq_zero_or_pos xs.length with h0 | h0
    · have e1 : xs = [] := List.eq_nil_of_length_eq_zero h0
      have e2 : ys = [] := List.eq_nil_of_length_eq_zero (hl ▸ h0)
      subst e1 e2
      exact (equalE_nil A B c d w).mono fun _ _ ⟨a, b⟩ => ⟨by simpa using a, 0, b⟩
    · obtain ⟨b1, o1, rfl, c1⟩ := hx h0
      obtain ⟨b2, o2, rfl, c2⟩ := hy (hl ▸ h0)
      refine (AnyQ.slices_Equal Try.laysEqE 2 Try.isAgg28 Try.sizeOf28 encE (fun _ => rfl) eqE neqE b1 o1 xs.length c b2 o2 ys.length d xs ys w (Nat.le_refl _) (Nat.le_refl _) h1 h2 (SlE.encs c1) (SlE.encs c2)).mono fun _ _ ⟨a, b⟩ => ⟨?_, b⟩
      rw [a, List.take_length, List.take_length, allEqE]
  · refine (equalE_lens A B xs.length ys.length c d w hl).mono fun _ _ ⟨a, b⟩ => ⟨?_, 0, b⟩
    rw [a]
    congr 2
    simp
    rintro rfl
    exact hl rfl
theorem containsE_at (A : Option Addr) (c : Nat) (xs : List (Int × Int)) (x : Int × Int) (w : World) (hx : SlE w A xs) (h0 : 0 < xs.length) (h1 : xs.length ≤ 9223372036854775807) :
    Calls Try.prog 25 #[.slice A xs.length c, .agg #[.int .i64 x.1, .int .i64 x.2]] w fun e w' => e = .returned (.bool (decide (x ∈ xs))) ∧ Grew w w' := by
  obtain ⟨b1, o1, rfl, c1⟩ := hx h0
  refine (AnyQ.slices_Contains Try.laysConE 2 Try.isAgg28 Try.sizeOf28 encE (fun _ => rfl) eqE eqlE b1 o1 xs.length c xs x w (Nat.le_refl _) h1 (SlE.encs c1)).mono fun _ _ ⟨a, b⟩ => ⟨?_, Only.of_below b (Nat.le_refl _)⟩
  rw [a, List.take_length]
  congr 2
  rw [Bool.eq_iff_iff, List.any_eq_true, decide_eq_true_iff]
  exact ⟨fun ⟨y, hy, he⟩ => by rw [eqE_iff.1 he]; exact hy, fun h => ⟨x, h, eqE_iff.2 rfl⟩⟩
end Go.Proofs.Ytgpfhdjedebdfaa
