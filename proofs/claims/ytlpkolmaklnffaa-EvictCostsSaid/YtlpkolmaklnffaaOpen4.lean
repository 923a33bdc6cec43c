/- The arguments of the laws, opened: an array of two ints, an array of two slices of ints. -/
import Derived.Test.YtlpkolmaklnffaaOpen3
namespace Go.Proofs.Ytlpkolmaklnffaa
open Go.ChangeShapes Go.WideShapes Go.ChangeAt Go.RowKit Go.Deep

section
variable {H : Type} {enc : TypeId × Value → H}
theorem trod_array2 {P : Program} {w : World} {base : Nat} {spare : Nat → Bool} {held : Bool} {t e : TypeId} {fuel : Nat} {c0 c1 : Value} {x : DataW H × List MemPlace} (ht : P.underlying t = some (.array 2 e)) (hce : P.cellsOf e = 1)
    (h : DataW.trod enc P w base spare held fuel t [c0, c1] = some x) :
    ∃ y0 y1 n, x = (.agg [y0.1, y1.1], y0.2 ++ y1.2) ∧ DataW.trod enc P w base spare held n e [c0] = some y0 ∧ DataW.trod enc P w base spare held n e [c1] = some y1 := by
  cases fuel with
  | zero => simp [DataW.trod] at h
  | succ n =>
    unfold DataW.trod at h
    rw [ht] at h
    have r2 : List.range 2 = [0, 1] := rfl
    simp [r2, hce] at h
    obtain ⟨_, h⟩ := h
    cases h0 : DataW.trod enc P w base spare held n e [c0] with
    | none => simp [h0] at h
    | some y0 =>
      cases h1 : DataW.trod enc P w base spare held n e [c1] with
      | none => simp [h0, h1] at h
      | some y1 =>
        simp [h0, h1] at h
        exact ⟨y0, y1, n, h.symm, h0, h1⟩
theorem okWide_array2 {P : Program} {w : World} {base : Nat} {r : Reach} {t e : TypeId} {v : Value} (ht : P.underlying t = some (.array 2 e)) (hc : P.cellsOf t = 2) (hts : P.cellTypes P.depth t = some [e, e] ∨ P.cellTypes P.depth t = some [e])
    (h : Value.okWide P w r base t v) : ∃ c0 c1, v = .agg #[c0, c1] ∧ Cell.okWide P w r base e c0 ∧ Cell.okWide P w r base e c1 := by
  unfold Value.okWide at h
  rw [ht] at h
  obtain ⟨cs, rfl, hs, ts, h1, _, h2⟩ := h
  rw [hc] at hs
  obtain ⟨l⟩ := cs
  match l, hs with
  | [c0, c1], _ =>
    obtain ⟨u0, e0, k0⟩ := h2 0 c0 rfl
    obtain ⟨u1, e1, k1⟩ := h2 1 c1 rfl
    rcases hts with hts | hts
    all_goals
      rw [hts] at h1
      cases h1
      simp at e0 e1
      subst e0 e1
      exact ⟨c0, c1, rfl, k0, k1⟩
set_option maxRecDepth 100000 in
theorem open_int2 {W : World} {sp : Nat → Bool} {held : Bool} {r : Reach} {b0 base : Nat} {v : Value} {d : DataW H} {p : List MemPlace} (hv : Value.okWide Try.prog W r b0 56 v) (h : DataW.Trod enc Try.prog W base sp held 56 v d p) :
    ∃ x0 x1, v = .agg #[.int .i64 x0, .int .i64 x1] ∧ okI x0 ∧ okI x1 := by
  obtain ⟨c0, c1, rfl, _, _⟩ := okWide_array2 Try.underlying56 (by kernel_rfl) (by first | exact .inl (by kernel_rfl) | exact .inr (by kernel_rfl)) hv
  obtain ⟨fuel, hf⟩ := h
  obtain ⟨y0, y1, n, _, u0, u1⟩ := trod_array2 Try.underlying56 Try.cellsOf_int hf
  obtain ⟨q, e0, _, w0⟩ := DataW.trod_int Try.underlying3 u0
  obtain ⟨s, e1, _, w1⟩ := DataW.trod_int Try.underlying3 u1
  simp only [List.cons.injEq, and_true] at e0 e1
  subst e0; subst e1
  exact ⟨q, s, rfl, okI_of_wf w0, okI_of_wf w1⟩
end
end Go.Proofs.Ytlpkolmaklnffaa
