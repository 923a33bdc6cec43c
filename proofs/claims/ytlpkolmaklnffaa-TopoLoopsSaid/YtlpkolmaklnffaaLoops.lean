/- Plain: a least closed walk meets no vertex twice; there is one just where a path leads back. -/
import Derived.Test.YtlpkolmaklnffaaCyc2
namespace Go.Proofs.Ytlpkolmaklnffaa

section
variable {E : List (Int × Int)} {v : Int} {r : List Int}
theorem Steps.path : ∀ {k : Nat} {x : Int}, Steps E v (k + 1) x → Path E x v
  | 0, x, h => by
    cases h with
    | more e h' =>
      cases h'
      exact .one e
  | k + 1, x, h => by
    cases h with
    | more e h' => exact (Path.one e).trans (Steps.path h')
theorem Closed.path (h : Closed E v r) : Path E v v := by
  have hp := h.1.pos
  have := h.steps 0 (r.length - 1) (by omega)
  rw [h.1.head] at this
  exact this.path
theorem path_walk {x : Int} (p : Path E v x) : ∃ q, Walk E v q ∧ (lastv q, x) ∈ E := by
  induction p with
  | one e => exact ⟨[v], Walk.one E v, e⟩
  | more p e ih =>
    obtain ⟨q, h1, h2⟩ := ih
    exact ⟨_, h1.snoc h2, by rw [lastv_snoc]; exact e⟩
theorem IsCycle.some_iff (h : IsCycle E v r) : r ≠ [] ↔ Path E v v := by
  constructor
  · intro hr
    rcases h with ⟨h1, _⟩ | ⟨h1, _⟩
    · exact h1.path
    · exact absurd h1 hr
  · intro p hr
    obtain ⟨q, h1, h2⟩ := path_walk p
    rcases h with ⟨h3, _⟩ | ⟨_, h3⟩
    · have := h3.1.pos
      rw [hr] at this
      simp at this
    · exact h3 q ⟨h1, h2⟩
theorem pg_cut {i j m : Nat} (hji : j ≤ i) (hi : i < r.length) : pg (r.take j ++ r.drop i) m = if m < j then pg r m else pg r (m - j + i) := by
  have hl : (r.take j).length = j := by rw [List.length_take]; omega
  unfold pg
  by_cases hm : m < j
  · rw [if_pos hm, List.getElem?_append_left (by omega), List.getElem?_take, if_pos hm]
  · rw [if_neg hm, List.getElem?_append_right (by omega), hl, List.getElem?_drop, Nat.add_comm i]
theorem Closed.shorter {i j : Nat} (h : Closed E v r) (hji : j < i) (hi : i < r.length) (he : pg r i = pg r j) : Closed E v (r.take j ++ r.drop i) := by
  have hl : (r.take j ++ r.drop i).length = j + (r.length - i) := by
    rw [List.length_append, List.length_take, List.length_drop]
    omega
  refine ⟨⟨by omega, ?_, fun m hm => ?_⟩, ?_⟩
  · rw [pg_cut (by omega) hi]
    split
    · exact h.1.head
    · rw [show 0 - j + i = i by omega, he, show j = 0 by omega]
      exact h.1.head
  · rw [hl] at hm
    rw [pg_cut (by omega) hi, pg_cut (by omega) hi]
    by_cases h1 : m + 1 < j
    · rw [if_pos (by omega), if_pos h1]
      exact h.1.edge m (by omega)
    · by_cases h2 : m + 1 = j
      · rw [if_pos (by omega), if_neg (by omega), show m + 1 - j + i = i by omega, he, ← h2]
        exact h.1.edge m (by omega)
      · rw [if_neg (by omega), if_neg (by omega), show m + 1 - j + i = (m - j + i) + 1 by omega]
        exact h.1.edge _ (by omega)
  · unfold lastv
    rw [hl, pg_cut (by omega) hi, if_neg (by omega), show j + (r.length - i) - 1 - j + i = r.length - 1 by omega]
    exact h.2
theorem IsCycle.once (h : IsCycle E v r) {i j : Nat} (hji : j < i) (hi : i < r.length) : pg r i ≠ pg r j := fun he => by
  rcases h with ⟨h1, h2⟩ | ⟨rfl, _⟩
  · have h3 := h2 _ (h1.shorter hji hi he)
    have hl : (r.take j ++ r.drop i).length = j + (r.length - i) := by
      rw [List.length_append, List.length_take, List.length_drop]
      omega
    rcases h3 with h3 | h3 | ⟨h3, _⟩
    · rw [← h3] at hl
      omega
    · omega
    · omega
  · simp at hi
theorem IsCycle.not_before (h : IsCycle E v r) {i : Nat} (hi : i < r.length) : pg r i ∉ r.take i := fun hm => by
  obtain ⟨j, hj⟩ := List.getElem?_of_mem hm
  have hlt := (List.getElem?_eq_some_iff.1 hj).1
  rw [List.length_take] at hlt
  rw [List.getElem?_take, if_pos (by omega)] at hj
  refine h.once (j := j) (by omega) hi ?_
  unfold pg
  rw [hj]
  rfl
theorem IsCycle.next (h : IsCycle E v r) {i : Nat} (hi : i < r.length) : (pg r i, pg r ((i + 1) % r.length)) ∈ E := by
  rcases h with ⟨h1, _⟩ | ⟨rfl, _⟩
  · by_cases hl : i + 1 < r.length
    · rw [Nat.mod_eq_of_lt hl]
      exact h1.1.edge i hl
    · rw [show i + 1 = r.length by omega, Nat.mod_self, h1.1.head]
      have := h1.2
      unfold lastv at this
      rwa [show r.length - 1 = i by omega] at this
  · simp at hi
theorem IsCycle.first (h : IsCycle E v r) (hr : 0 < r.length) : pg r 0 = v := by
  rcases h with ⟨h1, _⟩ | ⟨rfl, _⟩
  · exact h1.1.head
  · simp at hr
end
end Go.Proofs.Ytlpkolmaklnffaa
