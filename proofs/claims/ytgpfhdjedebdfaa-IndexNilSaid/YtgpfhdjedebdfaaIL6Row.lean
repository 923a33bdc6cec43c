/- The statement of IndexNil is proved: for every slice of extents and every extent the law returns true, and both arguments read as before; conditions: those of the row alone. -/
import Derived.Test.YtgpfhdjedebdfaaIOpen
import Derived.Test.YtgpfhdjedebdfaaIL6
namespace Go.Proofs.Ytgpfhdjedebdfaa
open Go.ChangeShapes Go.WideShapes Go.ChangeAt Go.RowKit Go.Deep

set_option maxRecDepth 100000 in
theorem lnil_lifted (os : Os) (started : os.Started) (H : Type) (enc : TypeId × Value → H) :
    ReturnsInHanded {} Try.checked os 5 .any (Rows.indexNilSpec.pre6 enc Try.prog Try.f5 Rows.indexNilRow.domain false) (Rows.indexNilSpec.post enc Try.prog Try.f5 false true false false) := by
  refine returnsInHanded_of_change (C := Try.checked) Try.own started (by kernel_rfl) Try.func5
    (ChangeSpec.witness6 (enc := enc) (C := Try.checked) false ⟨#[], #[.slice none 0 0, .agg #[.int .i64 0, .int .i64 0]], []⟩ 8 (by kernel_rfl) (by kernel_rfl) (by kernel_rfl) (by kernel_rfl)) ?_
  intro W base args ds gs before hval0 hW _ _
  have hval : ∀ (j : Nat) t v, Try.f5.params[j]? = some t → args[j]? = some v → Value.okWide Try.prog W .any base t v := hval0
  have hW' := hW
  obtain ⟨p, q, hA0, hV, rfl, _, _⟩ := hW
  have hA : DataW.TrodAll enc Try.prog W 0 (fun _ => true) true Try.f5.params.toList args.toList ds p := hA0
  rw [Try.params5] at hA hval
  obtain ⟨v0, v1, d0, d1, p0, p1, rfl, rfl, rfl, h0, h1⟩ := trodAll_two hA
  obtain ⟨rfl, rfl⟩ := trodVars_none hV
  obtain ⟨A, cp, l, rfl, hl, hlo⟩ := open_exts (hval 0 22 v0 rfl rfl) h0
  obtain ⟨c, d, rfl, hc, hd⟩ := open_ext (hval 1 28 v1 rfl rfl) h1
  clear hA0 hval0
  simp only [List.append_nil] at hW'
  have hlt0 : ∀ x ∈ p0, x.block < W.heap.size := fun x hx => by simpa using hW'.lt x (by simp [hx])
  have hlt1 : ∀ x ∈ p1, x.block < W.heap.size := fun x hx => by simpa using hW'.lt x (by simp [hx])
  have hcall : Calls Try.prog 5 #[.slice A l.length cp, .agg #[.int .i64 c, .int .i64 d]] W fun e w' => e = .returned (.bool true) ∧ Grew W w' := by
    by_cases hb : 60 < l.length
    · exact lnil_big A cp l c d W hb
    · by_cases hr : RightL l
      · cases hv : veB (c, d) with
        | false => exact lnil_inv A cp l c d W hl hlo hc hd (by omega) hr hv
        | true => exact lnil_at A cp l c d W hl hlo hc hd (by omega) hr (veB_iff.1 hv)
      · exact lnil_wrong A cp l c d W hl hlo (by omega) hr
  refine hcall.mono fun e W' ⟨he, hg⟩ => ?_
  subst he
  refine ⟨_, rfl, _, _, _, [], p0 ++ p1, [], hW', trodAll_mk1 (shut_bool true), ?_, rfl, hg.below.frame _, fun h => by cases h⟩
  exact trodAll_mk2 (p := p0) (p' := p1) (Below.trod Try.laidOut (by kernel_rfl) (of_decide_eq_true (by kernel_rfl)) h0 hg.below hlt0) (Below.trod Try.laidOut (by kernel_rfl) (of_decide_eq_true (by kernel_rfl)) h1 hg.below hlt1)

theorem lnil_holds : Rows.IndexNilSaid :=
  OpenClaim.holds_of_wide 5 Try.f5 rfl rfl rfl rfl rfl rfl rfl ⟨rfl, rfl, rfl, rfl, rfl⟩ rfl rfl rfl rfl rfl (by kernel_rfl) Try.func5 (by kernel_rfl)
    (of_decide_eq_true (by kernel_rfl)) (by unfold Func.isWrapper; first | (rw [if_pos (by decide +kernel)]; kernel_rfl) | (rw [if_neg (by decide +kernel)]; exact ⟨rfl, rfl⟩))
    (fun os started H enc _ => lnil_lifted os started H enc)
#print axioms lnil_holds
end Go.Proofs.Ytgpfhdjedebdfaa
