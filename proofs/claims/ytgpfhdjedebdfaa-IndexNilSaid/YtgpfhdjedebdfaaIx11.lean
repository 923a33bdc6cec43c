/- The walks of the references Find, Covered. -/
import Derived.Test.YtgpfhdjedebdfaaIx10
namespace Go.Proofs.Ytgpfhdjedebdfaa
open Go.RowKit Go.MapKept

def hasE (e : Int × Int) (off : Int) : Prop := e.1 ≤ off ∧ off < e.1 + e.2
def IsRFind (l : List (Int × Int)) (off v : Int) : Prop := (∃ (i : Nat) (x : Int × Int), l[i]? = some x ∧ hasE x off ∧ v = (i : Int)) ∨ ((∀ x ∈ l, ¬ hasE x off) ∧ v = -1)
set_option maxHeartbeats 1000000 in
theorem rfind_at (A : Option Addr) (c : Nat) (l : List (Int × Int)) (off : Int) (w : World) (hl : SlE w A l) (hv : ∀ e ∈ l, VE e) (hll : l.length ≤ 1048576) :
    Calls Try.prog 13 #[.slice A l.length c, .int .i64 off] w fun e w' => ∃ v, e = .returned (.int .i64 v) ∧ IsRFind l off v ∧ Grew w w' := by
  have HP := hid (And.intro hl hv)
  clear hl hv
  go_enter Try.func13, Try.ntmps13
  go_wp2_with fail
  go_loopw [5] (fun i wr => ∃ k : Nat, k ≤ l.length ∧ i = .int .i64 k ∧ Hid (∀ x ∈ l.take k, ¬ hasE x off) ∧ Grew w wr) (fun i _ => l.length - (intOf i).toNat)
  case atStart => exact ⟨0, Nat.zero_le _, rfl, hid (by simp), Only.refl _ _⟩
  case round =>
    obtain ⟨k, hk, rfl, hno, hO⟩ := hrel
    have HO := hid hO
    clear hO
    by_cases hlt : k < l.length
    · have hb0 : (k : Int) < (l.length : Int) := by omega
      obtain ⟨bl, o, rfl, hcell⟩ := (HP.out.1.grew HO.out) (by omega)
      obtain ⟨c1, c2⟩ := hcell k hlt
      obtain ⟨x, hx⟩ : ∃ x, l[k]? = some x := ⟨_, List.getElem?_eq_getElem hlt⟩
      simp only [hx, Option.getD_some] at c1 c2
      have HX := hid hx
      have HV := hid (HP.out.2 x (List.mem_of_getElem? hx))
      obtain ⟨a, b⟩ := x
      simp only at c1 c2
      obtain ⟨r, hr⟩ : ∃ r : Bool, decide (a ≤ off ∧ off < a + b) = r := ⟨_, rfl⟩
      have HC := hid (has_is a b off wr HV.out r hr)
      have HR := hid hr
      clear hcell hx hr
      cases r with
      | true =>
        go_wp2_with (go_at_call 36; have cX := HC.out; with_reducible refine cX.mono ?_; clear cX; rintro e wa ⟨rfl, hg⟩)
        go_ret
        exact ⟨k, rfl, .inl ⟨k, (a, b), HX.out, (of_decide_eq_true HR.out : a ≤ off ∧ off < a + b), rfl⟩, Grew.trans HO.out hg⟩
      | false =>
        go_wp2_with (go_at_call 36; have cX := HC.out; with_reducible refine cX.mono ?_; clear cX; rintro e wa ⟨rfl, hg⟩)
        go_roundw
        case rel =>
          refine ⟨k + 1, by omega, by go_num, hid (fun y hy => ?_), Grew.trans HO.out hg⟩
          rw [List.take_add_one, HX.out] at hy
          rcases List.mem_append.1 hy with hy | hy
          · exact hno.out y hy
          · obtain rfl : y = (a, b) := by simpa using hy
            have h := HR.out
            simp only [decide_eq_false_iff_not] at h
            exact h
        case measure => simp [intOf]; omega
    · obtain rfl : k = l.length := by omega
      go_wp2
      go_ret
      exact ⟨-1, rfl, .inr ⟨by have h := hno.out; rw [List.take_length] at h; exact h, rfl⟩, HO.out⟩
end Go.Proofs.Ytgpfhdjedebdfaa
