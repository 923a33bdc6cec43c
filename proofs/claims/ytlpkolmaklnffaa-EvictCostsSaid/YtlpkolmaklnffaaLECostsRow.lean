/- The statement of EvictCosts is proved: for every number, every slice of edges and every array of two slices of ints the law returns true, and the arguments read as before; conditions: those of the row alone. -/
import Derived.Test.YtlpkolmaklnffaaOpen5
import Derived.Test.YtlpkolmaklnffaaLECosts
namespace Go.Proofs.Ytlpkolmaklnffaa
open Go.ChangeShapes Go.WideShapes Go.ChangeAt Go.RowKit Go.Deep

set_option maxRecDepth 100000 in
theorem ecosts_lifted (os : Os) (started : os.Started) (H : Type) (enc : TypeId × Value → H) :
    ReturnsInHanded {} Try.checked os 17 .any (Rows.evictCostsSpec.pre6 enc Try.prog Try.f17 Rows.evictCostsRow.domain false) (Rows.evictCostsSpec.post enc Try.prog Try.f17 false true false false) := by
  refine returnsInHanded_of_change (C := Try.checked) Try.own started (by kernel_rfl) Try.func17
    (ChangeSpec.witness6 (enc := enc) (C := Try.checked) false ⟨#[], #[.int .i64 0, .slice none 0 0, .agg #[.slice none 0 0, .slice none 0 0]], []⟩ 8 (by kernel_rfl) (by kernel_rfl) (by kernel_rfl) (by kernel_rfl)) ?_
  intro W base args ds gs before hval0 hW _ _
  have hval : ∀ (j : Nat) t v, Try.f17.params[j]? = some t → args[j]? = some v → Value.okWide Try.prog W .any base t v := hval0
  have hW' := hW
  obtain ⟨p, q, hA0, hV, rfl, _, _⟩ := hW
  have hA : DataW.TrodAll enc Try.prog W 0 (fun _ => true) true Try.f17.params.toList args.toList ds p := hA0
  rw [Try.params17] at hA hval
  obtain ⟨v0, v1, v2, d0, d1, d2, p0, p1, p2, rfl, rfl, rfl, h0, h1, h2⟩ := trodAll_three hA
  obtain ⟨rfl, rfl⟩ := trodVars_none hV
  obtain ⟨n, rfl, rfl, rfl, wn0⟩ := open_int Try.underlying3 (hval 0 3 v0 rfl rfl) h0
  obtain ⟨A, c, l, rfl, hl, hlo⟩ := open_edges (hval 1 22 v1 rfl rfl) h1
  obtain ⟨B, cb, xs, B2, cb2, ys, rfl, ⟨hxs, hxo, hxm, hxc⟩, ⟨hys, hyo, hym, hyc⟩⟩ := open_xs2 (hval 2 66 v2 rfl rfl) h2
  clear hA0 hval0
  simp only [List.append_nil] at hW'
  have hlt1 : ∀ x ∈ p1, x.block < W.heap.size := fun x hx => by simpa using hW'.lt x (by simp [hx])
  have hlt2 : ∀ x ∈ p2, x.block < W.heap.size := fun x hx => by simpa using hW'.lt x (by simp [hx])
  have hcall : Calls Try.prog 17 #[.int .i64 n, .slice A l.length c, .agg #[.slice B xs.length cb, .slice B2 ys.length cb2]] W fun e w' => e = .returned (.bool true) ∧ Grew W w' := by
    by_cases hb : n < 0 ∨ 30 < n ∨ 150 < l.length
    · exact ecosts_big n A c l.length B cb xs.length B2 cb2 ys.length W hb
    · obtain ⟨N, rfl⟩ := Int.eq_ofNat_of_zero_le (show 0 ≤ n by omega)
      cases hr : wrightB xs with
      | false => exact ecosts_wrong N A c l B cb xs B2 cb2 ys W (by omega) (by omega) hl hlo hxs hxm hr
      | true =>
        by_cases hk : 60 < ys.length
        · exact ecosts_many N A c l B cb xs B2 cb2 ys W (by omega) (by omega) hl hlo hxs hxm hr hk
        · exact ecosts_at N A c l B cb xs B2 cb2 ys W (by omega) (by omega) hl hlo hxs hxm hys hr (by omega) hyc
  refine hcall.mono fun e W' ⟨he, hg⟩ => ?_
  subst he
  refine ⟨_, rfl, _, _, _, [], [] ++ (p1 ++ p2), [], hW', trodAll_mk1 (shut_bool true), ?_, rfl, hg.below.frame _, fun h => by cases h⟩
  exact trodAll_mk3 (p := []) (p' := p1) (p'' := p2) (shut_int Try.underlying3 wn0) (Below.trod Try.laidOut (by kernel_rfl) (of_decide_eq_true (by kernel_rfl)) h1 hg.below hlt1) (Below.trod Try.laidOut (by kernel_rfl) (of_decide_eq_true (by kernel_rfl)) h2 hg.below hlt2)

theorem ecosts_holds : Rows.EvictCostsSaid :=
  OpenClaim.holds_of_wide 17 Try.f17 rfl rfl rfl rfl rfl rfl rfl ⟨rfl, rfl, rfl, rfl, rfl⟩ rfl rfl rfl rfl rfl (by kernel_rfl) Try.func17 (by kernel_rfl)
    (of_decide_eq_true (by kernel_rfl)) (by unfold Func.isWrapper; first | (rw [if_pos (by decide +kernel)]; kernel_rfl) | (rw [if_neg (by decide +kernel)]; exact ⟨rfl, rfl⟩))
    (fun os started H enc _ => ecosts_lifted os started H enc)
#print axioms ecosts_holds
end Go.Proofs.Ytlpkolmaklnffaa
