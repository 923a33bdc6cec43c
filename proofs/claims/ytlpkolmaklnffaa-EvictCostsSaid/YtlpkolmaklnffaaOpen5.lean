/- The arguments of the laws, opened: an array of two slices of ints. -/
import Derived.Test.YtlpkolmaklnffaaOpen4
namespace Go.Proofs.Ytlpkolmaklnffaa
open Go.ChangeShapes Go.WideShapes Go.ChangeAt Go.RowKit Go.Deep

section
variable {H : Type} {enc : TypeId × Value → H}
set_option maxRecDepth 100000 in
theorem open_cell {W : World} {sp : Nat → Bool} {held : Bool} {c0 : Value} {fuel : Nat} {x : DataW H × List MemPlace} (hf : DataW.trod enc Try.prog W 0 sp held fuel 29 [c0] = some x) :
    ∃ B cb xs, c0 = .slice B xs.length cb ∧ SlI W B xs ∧ (∀ x ∈ xs, okI x) ∧ xs.length ≤ 9223372036854775807 ∧ xs.length ≤ cb := by
  rcases open_ints Try.underlying29 Try.underlying3 Try.cellsOf_int hf with ⟨h0, _⟩ | ⟨a, len', cap', zs, hcs, hb, hl, hm, hzl, hx, hc, hwf⟩
  · simp at h0
    subst h0
    exact ⟨none, 0, [], rfl, SlI.nil, by simp, by simp, by simp⟩
  · simp at hcs
    subst hcs
    have hlm : len' ≤ zs.length := by rw [hzl]; split <;> omega
    have hln : (zs.take len').length = len' := by simp; omega
    refine ⟨some a, cap', zs.take len', by rw [hln], ?_, fun x hx => okI_of_wf (hwf x (List.mem_of_mem_take hx)), by unfold maxLen at hm; omega, by omega⟩
    intro hp
    obtain ⟨b, off, spot⟩ := a
    have hspot : spot = none := by simpa [Addr.add] using World.cell?_spot (hc 0 (by omega))
    subst hspot
    refine ⟨b, off, rfl, fun j hj => ?_⟩
    have hj' : j < len' := by omega
    have h1 := hc j (by omega)
    simp only [add_plain] at h1
    rw [h1, List.getElem?_take, if_pos hj', List.getD]
set_option maxRecDepth 100000 in
theorem open_xs2 {W : World} {sp : Nat → Bool} {held : Bool} {r : Reach} {b0 : Nat} {v : Value} {d : DataW H} {p : List MemPlace} (hv : Value.okWide Try.prog W r b0 66 v) (h : DataW.Trod enc Try.prog W 0 sp held 66 v d p) :
    ∃ B cb xs B2 cb2 ys, v = .agg #[.slice B xs.length cb, .slice B2 ys.length cb2] ∧ (SlI W B xs ∧ (∀ x ∈ xs, okI x) ∧ xs.length ≤ 9223372036854775807 ∧ xs.length ≤ cb) ∧ (SlI W B2 ys ∧ (∀ x ∈ ys, okI x) ∧ ys.length ≤ 9223372036854775807 ∧ ys.length ≤ cb2) := by
  obtain ⟨c0, c1, rfl, _, _⟩ := okWide_array2 Try.underlying66 (by kernel_rfl) (by first | exact .inl (by kernel_rfl) | exact .inr (by kernel_rfl)) hv
  obtain ⟨fuel, hf⟩ := h
  obtain ⟨y0, y1, n, _, u0, u1⟩ := trod_array2 Try.underlying66 (by kernel_rfl) hf
  obtain ⟨B, cb, xs, rfl, h1⟩ := open_cell u0
  obtain ⟨B2, cb2, ys, rfl, h2⟩ := open_cell u1
  exact ⟨B, cb, xs, B2, cb2, ys, rfl, h1, h2⟩
end
end Go.Proofs.Ytlpkolmaklnffaa
