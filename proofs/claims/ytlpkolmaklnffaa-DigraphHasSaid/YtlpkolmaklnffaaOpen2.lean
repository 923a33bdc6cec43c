/- The arguments of the laws, opened: one edge by value. -/
import Derived.Test.YtlpkolmaklnffaaOpen
import Derived.Lib.SmallJoins
namespace Go.Proofs.Ytlpkolmaklnffaa
open Go.ChangeShapes Go.WideShapes Go.ChangeAt Go.RowKit Go.Deep Go.Joins

section
variable {H : Type} {enc : TypeId × Value → H}
set_option maxRecDepth 100000 in
theorem open_edge {W : World} {sp : Nat → Bool} {held : Bool} {r : Reach} {b0 base : Nat} {v : Value} {d : DataW H} {p : List MemPlace} (hv : Value.okWide Try.prog W r b0 39 v) (h : DataW.Trod enc Try.prog W base sp held 39 v d p) :
    ∃ u x, v = .agg #[.int .i64 u, .int .i64 x] ∧ okE (u, x) := by
  obtain ⟨v0, v1, y0, y1, n, rfl, _, _, u0, u1⟩ := open_agg2 Try.underlying39 (by kernel_rfl) Try.cellsOf_redge hv h
  obtain ⟨q, e0, _, w0⟩ := DataW.trod_int Try.underlying3 u0
  obtain ⟨s, e1, _, w1⟩ := DataW.trod_int Try.underlying3 u1
  simp only [List.cons.injEq, and_true] at e0 e1
  subst e0; subst e1
  exact ⟨q, s, rfl, okI_of_wf w0, okI_of_wf w1⟩
end
end Go.Proofs.Ytlpkolmaklnffaa
