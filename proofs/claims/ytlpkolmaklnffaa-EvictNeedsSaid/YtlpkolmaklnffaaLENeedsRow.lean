/- The statement of EvictNeeds is proved: for every number, every slice of edges and every slice of ints the law returns true, and the arguments read as before; conditions: those of the row alone. -/
import Derived.Test.YtlpkolmaklnffaaOpen3
import Derived.Test.YtlpkolmaklnffaaLENeeds
namespace Go.Proofs.Ytlpkolmaklnffaa
open Go.ChangeShapes Go.WideShapes Go.ChangeAt Go.RowKit Go.Deep

set_option maxRecDepth 100000 in
theorem eneeds_lifted (os : Os) (started : os.Started) (H : Type) (enc : TypeId × Value → H) :
    ReturnsInHanded {} Try.checked os 19 .any (Rows.evictNeedsSpec.pre6 enc Try.prog Try.f19 Rows.evictNeedsRow.domain false) (Rows.evictNeedsSpec.post enc Try.prog Try.f19 false true false false) := by
  refine returnsInHanded_of_change (C := Try.checked) Try.own started (by kernel_rfl) Try.func19
    (ChangeSpec.witness6 (enc := enc) (C := Try.checked) false ⟨#[], #[.int .i64 0, .slice none 0 0, .slice none 0 0], []⟩ 8 (by kernel_rfl) (by kernel_rfl) (by kernel_rfl) (by kernel_rfl)) ?_
  intro W base args ds gs before hval0 hW _ _
  have hval : ∀ (j : Nat) t v, Try.f19.params[j]? = some t → args[j]? = some v → Value.okWide Try.prog W .any base t v := hval0
  have hW' := hW
  obtain ⟨p, q, hA0, hV, rfl, _, _⟩ := hW
  have hA : DataW.TrodAll enc Try.prog W 0 (fun _ => true) true Try.f19.params.toList args.toList ds p := hA0
  rw [Try.params19] at hA hval
  obtain ⟨v0, v1, v2, d0, d1, d2, p0, p1, p2, rfl, rfl, rfl, h0, h1, h2⟩ := trodAll_three hA
  obtain ⟨rfl, rfl⟩ := trodVars_none hV
  obtain ⟨n, rfl, rfl, rfl, wn0⟩ := open_int Try.underlying3 (hval 0 3 v0 rfl rfl) h0
  obtain ⟨A, c, l, rfl, hl, hlo⟩ := open_edges (hval 1 22 v1 rfl rfl) h1
  obtain ⟨B, cb, xs, rfl, hxs, hxo, hxm⟩ := open_xs (hval 2 29 v2 rfl rfl) h2
  clear hA0 hval0
  simp only [List.append_nil] at hW'
  have hlt1 : ∀ x ∈ p1, x.block < W.heap.size := fun x hx => by simpa using hW'.lt x (by simp [hx])
  have hlt2 : ∀ x ∈ p2, x.block < W.heap.size := fun x hx => by simpa using hW'.lt x (by simp [hx])
  have hcall : Calls Try.prog 19 #[.int .i64 n, .slice A l.length c, .slice B xs.length cb] W fun e w' => e = .returned (.bool true) ∧ Grew W w' := by
    by_cases hb : n < 0 ∨ 30 < n ∨ 150 < l.length
    · exact eneeds_big n A c l.length B cb xs.length W hb
    · obtain ⟨N, rfl⟩ := Int.eq_ofNat_of_zero_le (show 0 ≤ n by omega)
      by_cases hk : 60 < xs.length
      · exact eneeds_many N A c l B cb xs.length W (by omega) (by omega) hl hlo hk
      · exact eneeds_at N A c l B cb xs W (by omega) (by omega) hl hlo hxs (by omega)
  refine hcall.mono fun e W' ⟨he, hg⟩ => ?_
  subst he
  refine ⟨_, rfl, _, _, _, [], [] ++ (p1 ++ p2), [], hW', trodAll_mk1 (shut_bool true), ?_, rfl, hg.below.frame _, fun h => by cases h⟩
  exact trodAll_mk3 (p := []) (p' := p1) (p'' := p2) (shut_int Try.underlying3 wn0) (Below.trod Try.laidOut (by kernel_rfl) (of_decide_eq_true (by kernel_rfl)) h1 hg.below hlt1) (Below.trod Try.laidOut (by kernel_rfl) (of_decide_eq_true (by kernel_rfl)) h2 hg.below hlt2)

theorem eneeds_holds : Rows.EvictNeedsSaid :=
  OpenClaim.holds_of_wide 19 Try.f19 rfl rfl rfl rfl rfl rfl rfl ⟨rfl, rfl, rfl, rfl, rfl⟩ rfl rfl rfl rfl rfl (by kernel_rfl) Try.func19 (by kernel_rfl)
    (of_decide_eq_true (by kernel_rfl)) (by unfold Func.isWrapper; first | (rw [if_pos (by decide +kernel)]; kernel_rfl) | (rw [if_neg (by decide +kernel)]; exact ⟨rfl, rfl⟩))
    (fun os started H enc _ => eneeds_lifted os started H enc)
#print axioms eneeds_holds
end Go.Proofs.Ytlpkolmaklnffaa
