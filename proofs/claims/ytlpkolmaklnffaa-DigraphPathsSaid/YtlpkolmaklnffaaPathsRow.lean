/- The statement of DigraphPaths is proved: for every two numbers and every slice of edges the law returns true, and the arguments read as before; conditions: those of the row alone. -/
import Derived.Test.YtlpkolmaklnffaaOpen
import Derived.Test.YtlpkolmaklnffaaPaths
namespace Go.Proofs.Ytlpkolmaklnffaa
open Go.ChangeShapes Go.WideShapes Go.ChangeAt Go.RowKit Go.Deep

set_option maxRecDepth 100000 in
theorem paths_lifted (os : Os) (started : os.Started) (H : Type) (enc : TypeId × Value → H) :
    ReturnsInHanded {} Try.checked os 4 .any (Rows.digraphPathsSpec.pre6 enc Try.prog Try.f4 Rows.digraphPathsRow.domain false) (Rows.digraphPathsSpec.post enc Try.prog Try.f4 false true false false) := by
  refine returnsInHanded_of_change (C := Try.checked) Try.own started (by kernel_rfl) Try.func4
    (ChangeSpec.witness6 (enc := enc) (C := Try.checked) false ⟨#[], #[.int .i64 0, .slice none 0 0, .int .i64 0], []⟩ 8 (by kernel_rfl) (by kernel_rfl) (by kernel_rfl) (by kernel_rfl)) ?_
  intro W base args ds gs before hval0 hW _ _
  have hval : ∀ (j : Nat) t v, Try.f4.params[j]? = some t → args[j]? = some v → Value.okWide Try.prog W .any base t v := hval0
  have hW' := hW
  obtain ⟨p, q, hA0, hV, rfl, _, _⟩ := hW
  have hA : DataW.TrodAll enc Try.prog W 0 (fun _ => true) true Try.f4.params.toList args.toList ds p := hA0
  rw [Try.params4] at hA hval
  obtain ⟨v0, v1, v2, d0, d1, d2, p0, p1, p2, rfl, rfl, rfl, h0, h1, h2⟩ := trodAll_three hA
  obtain ⟨rfl, rfl⟩ := trodVars_none hV
  have h0k := h0
  obtain ⟨n, rfl, _, _, wn⟩ := open_int Try.underlying3 (hval 0 3 v0 rfl rfl) h0
  obtain ⟨A, c, l, rfl, hl, hlo⟩ := open_edges (hval 1 22 v1 rfl rfl) h1
  have h2k := h2
  obtain ⟨v, rfl, _, _, wv⟩ := open_int Try.underlying3 (hval 2 3 v2 rfl rfl) h2
  clear hA0 hval0
  simp only [List.append_nil] at hW'
  have hlt0 : ∀ y ∈ p0, y.block < W.heap.size := fun y hy => by simpa using hW'.lt y (by simp [hy])
  have hlt1 : ∀ y ∈ p1, y.block < W.heap.size := fun y hy => by simpa using hW'.lt y (by simp [hy])
  have hlt2 : ∀ y ∈ p2, y.block < W.heap.size := fun y hy => by simpa using hW'.lt y (by simp [hy])
  have hcall : Calls Try.prog 4 #[.int .i64 n, .slice A l.length c, .int .i64 v] W fun e w' => e = .returned (.bool true) ∧ Grew W w' := by
    by_cases hb : n < 0 ∨ 30 < n ∨ 150 < l.length
    · exact paths_big n v A c l.length W hb
    · obtain ⟨N, rfl⟩ := Int.eq_ofNat_of_zero_le (show 0 ≤ n by omega)
      exact paths_at N v A c l W (by omega) (by omega) hl hlo (okI_of_wf wv)
  refine hcall.mono fun e W' ⟨he, hg⟩ => ?_
  subst he
  refine ⟨_, rfl, _, _, _, [], p0 ++ (p1 ++ p2), [], hW', trodAll_mk1 (shut_bool true), ?_, rfl, hg.below.frame _, fun h => by cases h⟩
  exact trodAll_mk3 (p := p0) (p' := p1) (p'' := p2) (Below.trod Try.laidOut (by kernel_rfl) (of_decide_eq_true (by kernel_rfl)) h0k hg.below hlt0) (Below.trod Try.laidOut (by kernel_rfl) (of_decide_eq_true (by kernel_rfl)) h1 hg.below hlt1)
    (Below.trod Try.laidOut (by kernel_rfl) (of_decide_eq_true (by kernel_rfl)) h2k hg.below hlt2)

theorem paths_holds : Rows.DigraphPathsSaid :=
  OpenClaim.holds_of_wide 4 Try.f4 rfl rfl rfl rfl rfl rfl rfl ⟨rfl, rfl, rfl, rfl, rfl⟩ rfl rfl rfl rfl rfl (by kernel_rfl) Try.func4 (by kernel_rfl)
    (of_decide_eq_true (by kernel_rfl)) (by unfold Func.isWrapper; first | (rw [if_pos (by decide +kernel)]; kernel_rfl) | (rw [if_neg (by decide +kernel)]; exact ⟨rfl, rfl⟩))
    (fun os started H enc _ => paths_lifted os started H enc)
#print axioms paths_holds
end Go.Proofs.Ytlpkolmaklnffaa
