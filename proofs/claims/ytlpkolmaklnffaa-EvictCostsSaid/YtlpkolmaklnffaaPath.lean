/- Plain: what is reached from a vertex; a depth-first search with a set and a stack. -/
import Derived.Test.YtlpkolmaklnffaaGraph
namespace Go.Proofs.Ytlpkolmaklnffaa

theorem mem_succ {E : List (Int × Int)} {u x : Int} : x ∈ succ E u ↔ (u, x) ∈ E := by
  unfold succ
  simp only [List.mem_map, List.mem_filter, decide_eq_true_eq]
  constructor
  · rintro ⟨⟨a, b⟩, ⟨h, rfl⟩, rfl⟩
    exact h
  · intro h
    exact ⟨(u, x), ⟨h, rfl⟩, rfl⟩
theorem mem_pred {E : List (Int × Int)} {u x : Int} : u ∈ pred E x ↔ (u, x) ∈ E := by
  unfold pred
  simp only [List.mem_map, List.mem_filter, decide_eq_true_eq]
  constructor
  · rintro ⟨⟨a, b⟩, ⟨h, rfl⟩, rfl⟩
    exact h
  · intro h
    exact ⟨(u, x), ⟨h, rfl⟩, rfl⟩
/-- A path of one or more edges. -/
inductive Path (E : List (Int × Int)) (v : Int) : Int → Prop where
  | one {x : Int} (h : (v, x) ∈ E) : Path E v x
  | more {x y : Int} (h : Path E v x) (e : (x, y) ∈ E) : Path E v y
/-- The vertices that are reached from v, ascending. -/
def IsReach (E : List (Int × Int)) (v : Int) (xs : List Int) : Prop := xs.Pairwise (· < ·) ∧ ∀ x, x ∈ xs ↔ Path E v x
theorem lt_nodup {xs : List Int} (h : xs.Pairwise (· < ·)) : xs.Nodup := h.imp (fun h => by omega)
theorem eq_of_lt_mem {xs ys : List Int} (hx : xs.Pairwise (· < ·)) (hy : ys.Pairwise (· < ·)) (h : ∀ x, x ∈ xs ↔ x ∈ ys) : xs = ys :=
  ((List.perm_ext_iff_of_nodup (lt_nodup hx) (lt_nodup hy)).2 h).eq_of_pairwise (fun a b _ _ h1 h2 => by omega) hx hy
theorem IsReach.unique {E : List (Int × Int)} {v : Int} {xs ys : List Int} (h : IsReach E v xs) (k : IsReach E v ys) : xs = ys :=
  eq_of_lt_mem h.1 k.1 (fun x => (h.2 x).trans (k.2 x).symm)
/-- The search: what has been seen, what is on the stack. -/
structure Dfs (E : List (Int × Int)) (v : Int) (seen stack : List Int) : Prop where
  nd : seen.Nodup
  path : ∀ x, x ∈ seen ∨ x ∈ stack → Path E v x
  first : ∀ y ∈ succ E v, y ∈ seen ∨ y ∈ stack
  closed : ∀ s ∈ seen, ∀ y ∈ succ E s, y ∈ seen ∨ y ∈ stack
theorem Dfs.start (E : List (Int × Int)) (v : Int) : Dfs E v [] (succ E v) :=
  ⟨by simp, fun x h => by rcases h with h | h; cases h; exact .one (mem_succ.1 h), fun y h => .inr h, fun _ h => by cases h⟩
theorem Dfs.skip {E : List (Int × Int)} {v x : Int} {seen st : List Int} (h : Dfs E v seen (st ++ [x])) (hx : x ∈ seen) : Dfs E v seen st := by
  have key : ∀ y, y ∈ seen ∨ y ∈ st ++ [x] → y ∈ seen ∨ y ∈ st := fun y hy => by
    rcases hy with hy | hy
    · exact .inl hy
    · rcases List.mem_append.1 hy with hy | hy
      · exact .inr hy
      · simp at hy; exact .inl (hy ▸ hx)
  exact ⟨h.nd, fun y hy => h.path y (hy.imp id (fun hy => List.mem_append_left _ hy)), fun y hy => key y (h.first y hy), fun s hs y hy => key y (h.closed s hs y hy)⟩
theorem Dfs.visit {E : List (Int × Int)} {v x : Int} {seen st : List Int} (h : Dfs E v seen (st ++ [x])) (hx : x ∉ seen) : Dfs E v (seen ++ [x]) (st ++ succ E x) := by
  have px : Path E v x := h.path x (.inr (by simp))
  have key : ∀ y, y ∈ seen ∨ y ∈ st ++ [x] → y ∈ seen ++ [x] ∨ y ∈ st ++ succ E x := fun y hy => by
    rcases hy with hy | hy
    · exact .inl (List.mem_append_left _ hy)
    · rcases List.mem_append.1 hy with hy | hy
      · exact .inr (List.mem_append_left _ hy)
      · exact .inl (List.mem_append_right _ hy)
  refine ⟨List.nodup_append.2 ⟨h.nd, by simp, fun a ha b hb e => ?_⟩, fun y hy => ?_, fun y hy => key y (h.first y hy), fun s hs y hy => ?_⟩
  · simp at hb
    exact hx (hb ▸ e ▸ ha)
  · rcases hy with hy | hy
    · rcases List.mem_append.1 hy with hy | hy
      · exact h.path y (.inl hy)
      · simp at hy; exact hy ▸ px
    · rcases List.mem_append.1 hy with hy | hy
      · exact h.path y (.inr (List.mem_append_left _ hy))
      · exact .more px (mem_succ.1 hy)
  · rcases List.mem_append.1 hs with hs | hs
    · exact key y (h.closed s hs y hy)
    · simp at hs
      subst hs
      exact .inr (List.mem_append_right _ hy)
theorem Dfs.done {E : List (Int × Int)} {v : Int} {seen : List Int} (h : Dfs E v seen []) (x : Int) : x ∈ seen ↔ Path E v x := by
  refine ⟨fun hx => h.path x (.inl hx), fun p => ?_⟩
  induction p with
  | one e =>
    rcases h.first _ (mem_succ.2 e) with h | h
    · exact h
    · cases h
  | more _ e ih =>
    rcases h.closed _ ih _ (mem_succ.2 e) with h | h
    · exact h
    · cases h
/-- The vertices. -/
def verts (n : Nat) : List Int := (List.range n).map (fun i : Nat => (i : Int))
theorem mem_verts {n : Nat} {x : Int} : x ∈ verts n ↔ 0 ≤ x ∧ x < n := by
  unfold verts
  simp only [List.mem_map, List.mem_range]
  constructor
  · rintro ⟨i, hi, rfl⟩
    omega
  · rintro ⟨h0, h1⟩
    exact ⟨x.toNat, by omega, by omega⟩
theorem verts_sorted (n : Nat) : (verts n).Pairwise (· < ·) := by
  unfold verts
  rw [List.pairwise_map]
  exact List.pairwise_lt_range.imp (fun h => by omega)
theorem length_le_of_range {n : Nat} {xs : List Int} (hn : xs.Nodup) (h : ∀ x ∈ xs, 0 ≤ x ∧ x < n) : xs.length ≤ n := by
  have := hn.length_le_of_subset (l₂ := verts n) (fun x hx => mem_verts.2 (h x hx))
  simpa [verts] using this
theorem path_range {E : List (Int × Int)} {n : Int} (hE : ∀ e ∈ E, (0 ≤ e.1 ∧ e.1 < n) ∧ (0 ≤ e.2 ∧ e.2 < n) ∧ e.1 ≠ e.2) {v x : Int} (p : Path E v x) : 0 ≤ x ∧ x < n := by
  cases p with
  | one e => exact (hE _ e).2.1
  | more _ e => exact (hE _ e).2.1
theorem path_src {E : List (Int × Int)} {n : Int} (hE : ∀ e ∈ E, (0 ≤ e.1 ∧ e.1 < n) ∧ (0 ≤ e.2 ∧ e.2 < n) ∧ e.1 ≠ e.2) {v x : Int} (p : Path E v x) : 0 ≤ v ∧ v < n := by
  induction p with
  | one e => exact (hE _ e).1
  | more _ _ ih => exact ih
/-- The measure of the search. -/
theorem dfs_less {n s t m L : Nat} (hs : s < n) (hm : m ≤ L) : (n - (s + 1)) * (L + 1) + (t + m) < (n - s) * (L + 1) + (t + 1) := by
  have : (n - s) * (L + 1) = (n - (s + 1)) * (L + 1) + (L + 1) := by
    rw [← Nat.succ_mul]; congr 1; omega
  omega
end Go.Proofs.Ytlpkolmaklnffaa
