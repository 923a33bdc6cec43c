/- The walks of the small functions on extents, of the program and of the references. -/
import Derived.Test.YtgpfhdjedebdfaaBase
import Derived.Test.YtgpfhdjedebdfaaProg
import Derived.Deep.RegionHeld3
import Derived.Laws.ResultCell
import Derived.BigQuiet
namespace Go.Proofs.Ytgpfhdjedebdfaa
open Go.RowKit Go.MapKept

def okI (x : Int) : Prop := -9223372036854775808 ≤ x ∧ x ≤ 9223372036854775807
def okE (e : Int × Int) : Prop := okI e.1 ∧ okI e.2
/-- A valid extent. -/
def VE (e : Int × Int) : Prop := 0 ≤ e.1 ∧ 0 ≤ e.2 ∧ e.1 + e.2 ≤ 4611686018427387903
abbrev eV (e : Int × Int) : Value := .agg #[.int .i64 e.1, .int .i64 e.2]
def ovl (a b : Int × Int) : Int × Int := if max a.1 b.1 < min (a.1 + a.2) (b.1 + b.2) then (max a.1 b.1, min (a.1 + a.2) (b.1 + b.2) - max a.1 b.1) else (0, 0)
def meets (a b : Int × Int) : Bool := decide (max a.1 b.1 < min (a.1 + a.2) (b.1 + b.2))
theorem cells2 (w : World) (x y : Value) (t : TypeId) : (w.alloc (.cells #[x, y] t)).cell? ⟨w.heap.size, 0, none⟩ = some x ∧ (w.alloc (.cells #[x, y] t)).cell? ⟨w.heap.size, 1, none⟩ = some y :=
  ⟨cell_of_row _ _ 0 _ _ _ (heap_alloc_new w _), cell_of_row _ _ 1 _ _ _ (heap_alloc_new w _)⟩
theorem end_at (a b : Int) (w : World) (h1 : 0 ≤ a) (h2 : 0 ≤ b) (h3 : a + b ≤ 4611686018427387903) :
    Calls Try.prog 34 #[.agg #[.int .i64 a, .int .i64 b]] w fun e w' => e = .returned (.int .i64 (a + b)) ∧ Grew w w' := by
  go_enter Try.func34, Try.ntmps34
  go_wp2
  go_ret
  exact ⟨rfl, Only.alloc _ _⟩
def veB (e : Int × Int) : Bool := decide (0 ≤ e.1) && (decide (0 ≤ e.2) && decide (e.1 + e.2 ≤ 4611686018427387903))
theorem veB_iff {e : Int × Int} : veB e = true ↔ VE e := by simp [veB, VE]
theorem veB_false {a b : Int} (h : ¬ VE (a, b)) : veB (a, b) = false := by
  cases hv : veB (a, b) with
  | false => rfl
  | true => exact absurd (veB_iff.1 hv) h
theorem valid_is (a b : Int) (w : World) (ha : okI a) (hb : okI b) :
    Calls Try.prog 30 #[.agg #[.int .i64 a, .int .i64 b]] w fun e w' => e = .returned (.bool (veB (a, b))) ∧ Grew w w' := by
  obtain ⟨ha1, ha2⟩ := ha
  obtain ⟨hb1, hb2⟩ := hb
  by_cases h0 : a < 0 ∨ b < 0
  · rw [veB_false (fun h => by have h1 := h.1; have h2 := h.2.1; simp only at h1 h2; omega)]
    by_cases hle : a ≤ b
    · have h1 : a < 0 := by omega
      clear h0
      go_enter Try.func30, Try.ntmps30
      go_wp2
      go_ret
      exact ⟨rfl, Only.alloc _ _⟩
    · have h1 : b < 0 := by omega
      clear h0
      go_enter Try.func30, Try.ntmps30
      go_wp2
      go_ret
      exact ⟨rfl, Only.alloc _ _⟩
  · have hpa : 0 ≤ a := by omega
    have hpb : 0 ≤ b := by omega
    by_cases h4 : 4611686018427387903 < a
    · rw [veB_false (fun h => by have h1 := h.2.2; simp only at h1; omega)]
      have h5 : decide (a ≤ 4611686018427387903) = false := by simp; omega
      clear h0
      go_enter Try.func30, Try.ntmps30
      go_wp2
      all_goals (go_ret; exact ⟨rfl, Only.alloc _ _⟩)
    · have h5 : decide (a ≤ 4611686018427387903) = true := by simp; omega
      have h6 : 0 ≤ a := by omega
      have h7 : a ≤ 4611686018427387903 := by omega
      obtain ⟨r, hr⟩ : ∃ r : Bool, decide (b ≤ 4611686018427387903 - a) = r := ⟨_, rfl⟩
      have HV : Hid (veB (a, b) = r) := hid (by
        rw [← hr]
        unfold veB
        simp only [show decide (0 ≤ a) = true by simp; omega, show decide (0 ≤ b) = true by simp; omega, Bool.true_and]
        congr 1
        rw [eq_iff_iff]
        omega)
      rw [HV.out]
      clear h0 h4 HV
      go_enter Try.func30, Try.ntmps30
      go_wp2
      all_goals (go_ret; exact ⟨rfl, Only.alloc _ _⟩)
theorem max_at (w : World) : Calls Try.prog 37 #[] w fun e w' => e = .returned (.int .i64 4611686018427387903) ∧ w = w' := by
  go_enter Try.func37, Try.ntmps37
  go_wp2
  go_ret
  exact ⟨rfl, rfl⟩
theorem between_at (lo hi least : Int) (w : World) (h1 : -4611686018427387904 ≤ lo) (h2 : lo ≤ 4611686018427387903) (h3 : -4611686018427387904 ≤ hi) (h4 : hi ≤ 4611686018427387903) (r : Bool) (hr : decide (hi - lo < least) = r) :
    Calls Try.prog 61 #[.int .i64 lo, .int .i64 hi, .int .i64 least] w fun e w' => e = .returned (.tuple #[if r = true then eV (0, 0) else eV (lo, hi - lo), .bool (!r)]) ∧ Grew w w' := by
  cases r
  all_goals
    go_enter Try.func61, Try.ntmps61
    go_wp2
    (try simp only [Exit.inBlock, Exit.then])
    refine bodyPost_ret (v := .tuple #[_, _]) ?_ rfl ⟨rfl, Only.alloc _ _⟩
    rw [results_cell_tmp rfl]
    go_simp
theorem has_is (a b at_ : Int) (w : World) (h : VE (a, b)) (r : Bool) (hr : decide (a ≤ at_ ∧ at_ < a + b) = r) :
    Calls Try.prog 36 #[.agg #[.int .i64 a, .int .i64 b], .int .i64 at_] w fun e w' => e = .returned (.bool r) ∧ Grew w w' := by
  obtain ⟨h1, h2, h3⟩ := h
  simp only at h1 h2 h3
  by_cases h0 : a ≤ at_
  · have h4 : decide (a ≤ at_) = true := by simpa using h0
    have h5 : decide (at_ < a + b) = r := by rw [← hr]; congr 1; rw [eq_iff_iff]; exact ⟨fun h => ⟨h0, h⟩, fun h => h.2⟩
    clear hr h0
    go_enter Try.func36, Try.ntmps36
    go_wp2
    go_ret
    exact ⟨rfl, Only.alloc _ _⟩
  · have h4 : decide (a ≤ at_) = false := by simpa using h0
    obtain rfl : r = false := by rw [← hr]; simp; omega
    clear hr h0
    go_enter Try.func36, Try.ntmps36
    go_wp2
    go_ret
    exact ⟨rfl, Only.alloc _ _⟩
end Go.Proofs.Ytgpfhdjedebdfaa
