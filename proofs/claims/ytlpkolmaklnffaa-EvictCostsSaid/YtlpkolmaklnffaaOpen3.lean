/- The arguments of the laws, opened: a slice of ints. -/
import Derived.Test.YtlpkolmaklnffaaOpen
namespace Go.Proofs.Ytlpkolmaklnffaa
open Go.ChangeShapes Go.WideShapes Go.ChangeAt Go.RowKit Go.Deep

section
variable {H : Type} {enc : TypeId × Value → H}
set_option maxRecDepth 100000 in
theorem open_xs {W : World} {sp : Nat → Bool} {held : Bool} {r : Reach} {b0 : Nat} {v : Value} {d : DataW H} {p : List MemPlace} (hv : Value.okWide Try.prog W r b0 29 v) (h : DataW.Trod enc Try.prog W 0 sp held 29 v d p) :
    ∃ B cb xs, v = .slice B xs.length cb ∧ SlI W B xs ∧ (∀ x ∈ xs, okI x) ∧ xs.length ≤ 9223372036854775807 := by
  obtain ⟨a0, len, cap, rfl⟩ := okWide_slice Try.underlying29 hv
  obtain ⟨fuel, hf⟩ := h
  rcases open_ints Try.underlying29 Try.underlying3 Try.cellsOf_int hf with ⟨h0, _⟩ | ⟨a, len', cap', zs, hcs, hb, hl, hm, hzl, hx, hc, hwf⟩
  · simp [Value.cells] at h0
    obtain ⟨rfl, rfl, rfl⟩ := h0
    exact ⟨none, 0, [], rfl, SlI.nil, by simp, by simp⟩
  · simp [Value.cells] at hcs
    obtain ⟨rfl, rfl, rfl⟩ := hcs
    have hlm : len ≤ zs.length := by rw [hzl]; split <;> omega
    have hln : (zs.take len).length = len := by simp; omega
    refine ⟨some a, cap, zs.take len, by rw [hln], ?_, fun x hx => okI_of_wf (hwf x (List.mem_of_mem_take hx)), by unfold maxLen at hm; omega⟩
    intro hp
    obtain ⟨b, off, spot⟩ := a
    have hspot : spot = none := by simpa [Addr.add] using World.cell?_spot (hc 0 (by omega))
    subst hspot
    refine ⟨b, off, rfl, fun j hj => ?_⟩
    have hj' : j < len := by omega
    have h1 := hc j (by omega)
    simp only [add_plain] at h1
    rw [h1, List.getElem?_take, if_pos hj', List.getD]
end
end Go.Proofs.Ytlpkolmaklnffaa
