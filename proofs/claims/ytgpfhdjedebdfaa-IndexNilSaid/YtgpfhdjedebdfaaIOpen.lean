/- The arguments of the laws, opened. -/
import Derived.Test.YtgpfhdjedebdfaaIx1
import Derived.Test.YtgpfhdjedebdfaaRows
import Derived.ProofKit
import Derived.SizedLaws
import Derived.Deep.Slices
import Derived.Deep.Fields
import Derived.ChangeSame
import Derived.Lib.SmallJoins
namespace Go.Proofs.Ytgpfhdjedebdfaa
open Go.ChangeShapes Go.WideShapes Go.ChangeAt Go.RowKit Go.Deep Go.Joins

theorem Try.own : ownKnob Try.prog.godebug = none := by kernel_rfl
theorem Try.laidOut : laidOutB Try.prog = true := by kernel_rfl
theorem Try.cellsOf_ext : Try.prog.cellsOf 28 = 2 := by kernel_rfl
theorem Try.cellsOf_int : Try.prog.cellsOf 3 = 1 := by kernel_rfl
theorem okI_of_wf {n : Int} (h : (Lit.int .i64 n).wf = true) : okI n := by
  have h1 : IntKind.i64.min = -9223372036854775808 := rfl
  have h2 : IntKind.i64.max = 9223372036854775807 := rfl
  simp only [Lit.wf, Bool.and_eq_true, decide_eq_true_eq] at h
  exact ⟨by omega, by omega⟩
section
variable {H : Type} {enc : TypeId × Value → H}
theorem shut_bool {W : World} {base : Nat} {sp : Nat → Bool} {held : Bool} (b : Bool) : DataW.Trod enc Try.prog W base sp held 4 (.bool b) (.lit (.bool b)) [] := ⟨1, by simp [DataW.trod, Value.cells, Try.underlying4]⟩
set_option maxRecDepth 100000 in
theorem open_exts {W : World} {sp : Nat → Bool} {held : Bool} {r : Reach} {b0 : Nat} {v : Value} {d : DataW H} {p : List MemPlace} (hv : Value.okWide Try.prog W r b0 22 v) (h : DataW.Trod enc Try.prog W 0 sp held 22 v d p) :
    ∃ A cap l, v = .slice A l.length cap ∧ SlE W A l ∧ ∀ e ∈ l, okE e := by
  obtain ⟨a0, len, cap, rfl⟩ := okWide_slice Try.underlying22 hv
  obtain ⟨fuel, hf⟩ := h
  rcases open_slice Try.underlying22 hf with ⟨h0, hx⟩ | ⟨a, len', cap', m, n, D, Pl, hcs, hb, hl, hm, hmm, hx, hi⟩
  · simp [Value.cells] at h0
    obtain ⟨rfl, rfl, rfl⟩ := h0
    exact ⟨none, 0, [], rfl, SlE.nil, by simp⟩
  · simp [Value.cells] at hcs
    obtain ⟨rfl, rfl, rfl⟩ := hcs
    have hlm : len ≤ m := by rw [hmm]; split <;> omega
    have each : ∀ i, i < m → ∃ q : Int × Int, W.cell? (a.add (i * 2)) = some (.int .i64 q.1) ∧ W.cell? ((a.add (i * 2)).add 1) = some (.int .i64 q.2) ∧ okE q := by
      intro i hi'
      obtain ⟨cs', h1, h2⟩ := hi i hi'
      rw [Try.cellsOf_ext] at h1
      obtain ⟨_, hlen, hcell⟩ := World.cells?_some h1
      obtain ⟨y0, y1, k, hxy, _, u0, u1⟩ := trod_struct2 Try.underlying28 h2
      match cs', hlen with
      | [v0, v1], _ =>
        simp only [Try.cellsOf_int, List.drop, List.take] at u0 u1
        obtain ⟨q, e0, d0, w0⟩ := DataW.trod_int Try.underlying3 u0
        obtain ⟨p, e1, d1, w1⟩ := DataW.trod_int Try.underlying3 u1
        simp only [List.cons.injEq, and_true] at e0 e1
        subst e0; subst e1
        have c0 := hcell 0 (by omega)
        have c1 := hcell 1 (by omega)
        exact ⟨(q, p), by simpa [Addr.add] using c0, by simpa using c1, okI_of_wf w0, okI_of_wf w1⟩
    obtain ⟨q, hq⟩ := choose_lt each
    refine ⟨some a, cap, (List.range len).map q, by simp, ?_, ?_⟩
    · intro hp
      have hp' : 0 < len := by simpa using hp
      obtain ⟨b, off, spot⟩ := a
      have hspot : spot = none := by simpa [Addr.add] using World.cell?_spot (hq 0 (by omega)).1
      subst hspot
      refine ⟨b, off, rfl, fun j hj => ?_⟩
      have hj' : j < len := by simpa using hj
      obtain ⟨h1, h2, _⟩ := hq j (by omega)
      simp only [add_plain] at h1 h2
      have e1 : ((List.range len).map q)[j]?.getD (0, 0) = q j := by simp [hj']
      rw [e1]
      exact ⟨h1, h2⟩
    · intro e he
      obtain ⟨j, hj, rfl⟩ := List.mem_map.1 he
      exact (hq j (by have := List.mem_range.1 hj; omega)).2.2
set_option maxRecDepth 100000 in
theorem open_ext {W : World} {sp : Nat → Bool} {held : Bool} {r : Reach} {b0 base : Nat} {v : Value} {d : DataW H} {p : List MemPlace} (hv : Value.okWide Try.prog W r b0 28 v) (h : DataW.Trod enc Try.prog W base sp held 28 v d p) :
    ∃ u x, v = .agg #[.int .i64 u, .int .i64 x] ∧ okE (u, x) := by
  obtain ⟨v0, v1, y0, y1, n, rfl, _, _, u0, u1⟩ := open_agg2 Try.underlying28 (by kernel_rfl) Try.cellsOf_ext hv h
  obtain ⟨q, e0, _, w0⟩ := DataW.trod_int Try.underlying3 u0
  obtain ⟨s, e1, _, w1⟩ := DataW.trod_int Try.underlying3 u1
  simp only [List.cons.injEq, and_true] at e0 e1
  subst e0; subst e1
  exact ⟨q, s, rfl, okI_of_wf w0, okI_of_wf w1⟩
end
end Go.Proofs.Ytgpfhdjedebdfaa
