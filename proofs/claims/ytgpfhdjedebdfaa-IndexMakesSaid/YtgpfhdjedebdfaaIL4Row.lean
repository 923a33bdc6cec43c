/- The statement of IndexMakes is proved: for every slice of extents the law returns true, and the slice reads as before; conditions: those of the row alone. -/
import Derived.Test.YtgpfhdjedebdfaaIOpen
import Derived.Test.YtgpfhdjedebdfaaIL4
namespace Go.Proofs.Ytgpfhdjedebdfaa
open Go.ChangeShapes Go.WideShapes Go.ChangeAt Go.RowKit Go.Deep

set_option maxRecDepth 100000 in
theorem lmakes_lifted (os : Os) (started : os.Started) (H : Type) (enc : TypeId × Value → H) :
    ReturnsInHanded {} Try.checked os 7 .any (Rows.indexMakesSpec.pre6 enc Try.prog Try.f7 Rows.indexMakesRow.domain false) (Rows.indexMakesSpec.post enc Try.prog Try.f7 false true false false) := by
  refine returnsInHanded_of_change (C := Try.checked) Try.own started (by kernel_rfl) Try.func7
    (ChangeSpec.witness6 (enc := enc) (C := Try.checked) false ⟨#[], #[.slice none 0 0], []⟩ 8 (by kernel_rfl) (by kernel_rfl) (by kernel_rfl) (by kernel_rfl)) ?_
  intro W base args ds gs before hval0 hW _ _
  have hval : ∀ (j : Nat) t v, Try.f7.params[j]? = some t → args[j]? = some v → Value.okWide Try.prog W .any base t v := hval0
  have hW' := hW
  obtain ⟨p0, q, hA0, hV, rfl, _, _⟩ := hW
  have hA : DataW.TrodAll enc Try.prog W 0 (fun _ => true) true Try.f7.params.toList args.toList ds p0 := hA0
  rw [Try.params7] at hA hval
  obtain ⟨v0, d0, rfl, rfl, h0⟩ := trodAll_one hA
  obtain ⟨rfl, rfl⟩ := trodVars_none hV
  obtain ⟨A, cp, l, rfl, hl, hlo⟩ := open_exts (hval 0 22 v0 rfl rfl) h0
  clear hA0 hval0
  simp only [List.append_nil] at hW'
  have hlt0 : ∀ x ∈ p0, x.block < W.heap.size := fun x hx => by simpa using hW'.lt x (by simp [hx])
  have hcall : Calls Try.prog 7 #[.slice A l.length cp] W fun e w' => e = .returned (.bool true) ∧ Grew W w' := by
    by_cases hb : 60 < l.length
    · exact lmakes_big A cp l W hb
    · by_cases hr : RightL l
      · exact lmakes_at A cp l W hl hlo (by omega) hr
      · exact lmakes_wrong A cp l W hl hlo (by omega) hr
  refine hcall.mono fun e W' ⟨he, hg⟩ => ?_
  subst he
  refine ⟨_, rfl, _, _, _, [], p0, [], hW', trodAll_mk1 (shut_bool true), ?_, rfl, hg.below.frame _, fun h => by cases h⟩
  exact trodAll_mk1 (Below.trod Try.laidOut (by kernel_rfl) (of_decide_eq_true (by kernel_rfl)) h0 hg.below hlt0)

theorem lmakes_holds : Rows.IndexMakesSaid :=
  OpenClaim.holds_of_wide 7 Try.f7 rfl rfl rfl rfl rfl rfl rfl ⟨rfl, rfl, rfl, rfl, rfl⟩ rfl rfl rfl rfl rfl (by kernel_rfl) Try.func7 (by kernel_rfl)
    (of_decide_eq_true (by kernel_rfl)) (by unfold Func.isWrapper; first | (rw [if_pos (by decide +kernel)]; kernel_rfl) | (rw [if_neg (by decide +kernel)]; exact ⟨rfl, rfl⟩))
    (fun os started H enc _ => lmakes_lifted os started H enc)
#print axioms lmakes_holds
end Go.Proofs.Ytgpfhdjedebdfaa
