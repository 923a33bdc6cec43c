/- Plain: the vertices that are taken away one by one, the least first (Kahn), and what is left. -/
import Derived.Test.YtlpkolmaklnffaaSame
namespace Go.Proofs.Ytlpkolmaklnffaa

/-- The edges that touch none of some vertices. -/
def cut (E : List (Int × Int)) (s : List Int) : List (Int × Int) := E.filter (fun e => decide (e.1 ∉ s ∧ e.2 ∉ s))
theorem mem_cut {E : List (Int × Int)} {s : List Int} {u x : Int} : (u, x) ∈ cut E s ↔ (u, x) ∈ E ∧ u ∉ s ∧ x ∉ s := by simp [cut]
theorem cut_nil (E : List (Int × Int)) : cut E [] = E := by simp [cut]
theorem Path.mono {E E' : List (Int × Int)} (h : ∀ e, e ∈ E → e ∈ E') {u x : Int} (p : Path E u x) : Path E' u x := by
  induction p with
  | one e => exact .one (h _ e)
  | more _ e ih => exact .more ih (h _ e)
theorem Path.trans {E : List (Int × Int)} {u x y : Int} (p : Path E u x) (q : Path E x y) : Path E u y := by
  induction q with
  | one e => exact .more p e
  | more _ e ih => exact .more ih e
theorem Path.last {E : List (Int × Int)} {u x : Int} (p : Path E u x) : ∃ y, (y, x) ∈ E := by
  cases p with
  | one e => exact ⟨_, e⟩
  | more _ e => exact ⟨_, e⟩
/-- v is left, and all that lead to it are off. -/
def Ready (E : List (Int × Int)) (N : Nat) (s out : List Int) (v : Int) : Prop := (0 ≤ v ∧ v < N) ∧ v ∉ s ∧ v ∉ out ∧ ∀ u, (u, v) ∈ E → u ∈ s ∨ u ∈ out
def Least (E : List (Int × Int)) (N : Nat) (s out : List Int) (v : Int) : Prop := Ready E N s out v ∧ ∀ u, Ready E N s out u → v ≤ u
inductive Kahn (E : List (Int × Int)) (N : Nat) (s : List Int) : List Int → Prop where
  | nil : Kahn E N s []
  | snoc {out : List Int} {v : Int} (h : Kahn E N s out) (l : Least E N s out v) : Kahn E N s (out ++ [v])
def IsOrder (E : List (Int × Int)) (N : Nat) (s out : List Int) : Prop := Kahn E N s out ∧ ∀ v, ¬ Ready E N s out v

section
variable {E : List (Int × Int)} {N : Nat} {s out : List Int}
theorem Kahn.at {l : List Int} (h : Kahn E N s l) : ∀ p a t, l = p ++ a :: t → Least E N s p a := by
  induction h with
  | nil => intro p a t e; cases p <;> cases e
  | snoc h l ih =>
    intro p a t e
    rcases List.eq_nil_or_concat t with rfl | ⟨t', z, rfl⟩
    · obtain ⟨rfl, e2⟩ := List.append_inj' e rfl
      obtain rfl : _ = a := by simpa using e2
      exact l
    · rw [List.concat_eq_append, ← List.cons_append, ← List.append_assoc] at e
      obtain ⟨e1, _⟩ := List.append_inj' e rfl
      exact ih p a t' e1
theorem Kahn.ahead {l l2 : List Int} (h : Kahn E N s l) (h2 : IsOrder E N s l2) : l <+: l2 := by
  induction h with
  | nil => exact List.nil_prefix
  | snoc h l ih =>
    obtain ⟨t, rfl⟩ := ih
    cases t with
    | nil => rw [List.append_nil] at h2; exact absurd l.1 (h2.2 _)
    | cons a t =>
      have ha := h2.1.at _ a t rfl
      have e1 := l.2 _ ha.1
      have e2 := ha.2 _ l.1
      obtain rfl := Int.le_antisymm e1 e2
      exact ⟨t, by simp⟩
theorem IsOrder.unique {l l2 : List Int} (h : IsOrder E N s l) (h2 : IsOrder E N s l2) : l = l2 := by
  obtain ⟨t, rfl⟩ := h.1.ahead h2
  cases t with
  | nil => simp
  | cons a t => exact absurd (h2.1.at _ a t rfl).1 (h.2 _)
theorem Kahn.nodup {l : List Int} (h : Kahn E N s l) : l.Nodup ∧ ∀ v ∈ l, (0 ≤ v ∧ v < N) ∧ v ∉ s := by
  induction h with
  | nil => simp
  | snoc h l ih =>
    refine ⟨List.nodup_append.2 ⟨ih.1, by simp, ?_⟩, ?_⟩
    · intro a ha b hb e
      obtain rfl : b = _ := by simpa using hb
      exact l.1.2.2.1 (e ▸ ha)
    · intro v hv
      rcases List.mem_append.1 hv with hv | hv
      · exact ih.2 v hv
      · obtain rfl : v = _ := by simpa using hv
        exact ⟨l.1.1, l.1.2.1⟩
theorem Kahn.length {l : List Int} (h : Kahn E N s l) : l.length ≤ N := length_le_of_range h.nodup.1 (fun x hx => (h.nodup.2 x hx).1)
theorem ready_least {v : Int} (h : Ready E N s out v) : ∃ u, Least E N s out u := by
  generalize hk : v.toNat = k
  induction k using Nat.strongRecOn generalizing v with
  | _ k ih =>
    by_cases hu : ∃ u, Ready E N s out u ∧ u < v
    · obtain ⟨u, hr, hlt⟩ := hu
      have h0 := hr.1.1
      exact ih u.toNat (by omega) hr rfl
    · exact ⟨v, h, fun u hr => by
        by_cases hlt : u < v
        · exact absurd ⟨u, hr, hlt⟩ hu
        · omega⟩
theorem order_from (k : Nat) : ∀ {out : List Int}, Kahn E N s out → N - out.length ≤ k → ∃ o, IsOrder E N s o := by
  induction k with
  | zero =>
    intro out h hk
    refine ⟨out, h, fun v hv => ?_⟩
    obtain ⟨u, hl⟩ := ready_least hv
    have := (Kahn.snoc h hl).length
    simp at this
    omega
  | succ k ih =>
    intro out h hk
    by_cases hr : ∃ v, Ready E N s out v
    · obtain ⟨v, hv⟩ := hr
      obtain ⟨u, hl⟩ := ready_least hv
      have := (Kahn.snoc h hl).length
      simp at this
      exact ih (Kahn.snoc h hl) (by simp; omega)
    · exact ⟨out, h, fun v hv => hr ⟨v, hv⟩⟩
theorem order_ex (E : List (Int × Int)) (N : Nat) (s : List Int) : ∃ o, IsOrder E N s o := order_from N .nil (by simp)
/-- An edge among those that are left leads from one that was taken before. -/
theorem Kahn.edge {l : List Int} (h : Kahn E N s l) {u x : Int} (he : (u, x) ∈ E) (hu : u ∉ s) (hx : x ∈ l) : u ∈ l ∧ l.idxOf u < l.idxOf x := by
  obtain ⟨p, t, rfl, hp⟩ := List.eq_append_cons_of_mem hx
  have hup := ((h.at p x t rfl).1.2.2.2 u he).resolve_left hu
  refine ⟨List.mem_append_left _ hup, ?_⟩
  rw [List.idxOf_append, List.idxOf_append, if_pos hup, if_neg hp, List.idxOf_cons_self]
  have := List.idxOf_lt_length_iff.2 hup
  omega
theorem Kahn.path {l : List Int} (h : Kahn E N s l) {u x : Int} (p : Path (cut E s) u x) (hx : x ∈ l) : u ∈ l ∧ l.idxOf u < l.idxOf x := by
  induction p with
  | one e => exact h.edge (mem_cut.1 e).1 (mem_cut.1 e).2.1 hx
  | more p e ih =>
    have h1 := h.edge (mem_cut.1 e).1 (mem_cut.1 e).2.1 hx
    have h2 := ih h1.1
    exact ⟨h2.1, by omega⟩
theorem Kahn.noCycle {l : List Int} (h : Kahn E N s l) {x : Int} (p : Path (cut E s) x x) : x ∉ l := fun hx => by
  have := (h.path p hx).2
  omega
theorem countP_lt {α : Type} {p q : α → Bool} {a : α} : ∀ {l : List α}, (∀ x ∈ l, p x = true → q x = true) → a ∈ l → p a = false → q a = true → l.countP p < l.countP q
  | [], _, ha, _, _ => by cases ha
  | b :: r, h, ha, hp, hq => by
    have hm : r.countP p ≤ r.countP q := List.countP_mono_left (fun x hx => h x (List.mem_cons_of_mem _ hx))
    rw [List.countP_cons, List.countP_cons]
    rcases List.mem_cons.1 ha with rfl | ha
    · simp only [hp, hq, if_true, Bool.false_eq_true, if_false]
      omega
    · have := countP_lt (fun x hx => h x (List.mem_cons_of_mem _ hx)) ha hp hq
      by_cases hb : p b = true
      · rw [if_pos hb, if_pos (h b (List.mem_cons_self ..) hb)]
        omega
      · rw [if_neg hb]
        split <;> omega
/-- What can never be taken holds a cycle. -/
theorem cycle_of_left {S : Int → Prop} (hr : ∀ x, S x → 0 ≤ x ∧ x < (N : Int)) (hS : ∀ x, S x → ∃ u, S u ∧ (u, x) ∈ E) {x : Int} (hx : S x) : ∃ c, S c ∧ Path E c c := by
  classical
  generalize hk : (verts N).countP (fun z => decide (S z ∧ Path E z x)) = k
  induction k using Nat.strongRecOn generalizing x with
  | _ k ih =>
    obtain ⟨u, hu, he⟩ := hS x hx
    by_cases hc : Path E u u
    · exact ⟨u, hu, hc⟩
    · refine ih _ ?_ hu rfl
      rw [← hk]
      refine countP_lt (a := u) (fun z _ hz => ?_) (mem_verts.2 (hr u hu)) ?_ ?_
      · simp only [decide_eq_true_eq] at hz ⊢
        exact ⟨hz.1, .more hz.2 he⟩
      · simp [hc]
      · simp only [decide_eq_true_eq]
        exact ⟨hu, .one he⟩
theorem IsOrder.left (hE : Valid N E) {l : List Int} (h : IsOrder E N s l) {v : Int} (hv : 0 ≤ v ∧ v < (N : Int)) (hs : v ∉ s) (hl : v ∉ l) : ∃ c, c ∉ l ∧ Path (cut E s) c c := by
  obtain ⟨c, hc, hp⟩ := cycle_of_left (E := cut E s) (N := N) (S := fun x => (0 ≤ x ∧ x < (N : Int)) ∧ x ∉ s ∧ x ∉ l) (fun x hx => hx.1) (fun x hx => by
    by_cases hu : ∃ u, (u, x) ∈ E ∧ u ∉ s ∧ u ∉ l
    · obtain ⟨u, he, hus, hul⟩ := hu
      exact ⟨u, ⟨(hE _ he).1, hus, hul⟩, mem_cut.2 ⟨he, hus, hx.2.1⟩⟩
    · refine absurd ⟨hx.1, hx.2.1, hx.2.2, fun u he => ?_⟩ (h.2 x)
      by_cases h1 : u ∈ s
      · exact .inl h1
      · by_cases h2 : u ∈ l
        · exact .inr h2
        · exact absurd ⟨u, he, h1, h2⟩ hu) ⟨hv, hs, hl⟩
  exact ⟨c, hc.2.2, hp⟩
theorem Valid.cut {N : Int} (hE : Valid N E) (s : List Int) : Valid N (cut E s) := fun e he => hE e (List.mem_filter.1 he).1
/-- The vertices that lie on cycles, ascending. -/
def IsCyc (E : List (Int × Int)) (s xs : List Int) : Prop := xs.Pairwise (· < ·) ∧ ∀ x, x ∈ xs ↔ Path (cut E s) x x
theorem IsCyc.unique {xs ys : List Int} (h : IsCyc E s xs) (k : IsCyc E s ys) : xs = ys := eq_of_lt_mem h.1 k.1 (fun x => (h.2 x).trans (k.2 x).symm)
theorem cyc_ex (hE : Valid N E) (s : List Int) : ∃ xs, IsCyc E s xs := by
  classical
  refine ⟨(verts N).filter (fun x => decide (Path (cut E s) x x)), (verts_sorted N).filter _, fun x => ?_⟩
  rw [List.mem_filter, decide_eq_true_eq]
  exact ⟨fun h => h.2, fun h => ⟨mem_verts.2 (path_range (hE.cut s) h), h⟩⟩
/-- Is any vertex left? -/
def restL (N : Nat) (s out : List Int) : List Int := (verts N).filter (fun v => !decide (v ∈ s) && !decide (v ∈ out))
theorem mem_rest {v : Int} : v ∈ restL N s out ↔ (0 ≤ v ∧ v < (N : Int)) ∧ v ∉ s ∧ v ∉ out := by simp [restL, mem_verts]
theorem IsOrder.rest_nil (hE : Valid N E) {l xs : List Int} (h : IsOrder E N s l) (hx : IsCyc E s xs) : restL N s l = [] ↔ xs = [] := by
  constructor
  · intro hr
    refine List.eq_nil_iff_forall_not_mem.2 (fun x hm => ?_)
    have hp := (hx.2 x).1 hm
    have hl := h.1.noCycle hp
    obtain ⟨y, hy⟩ := hp.last
    have : x ∈ restL N s l := mem_rest.2 ⟨path_range (hE.cut s) hp, (mem_cut.1 hy).2.2, hl⟩
    rw [hr] at this
    cases this
  · intro he
    refine List.eq_nil_iff_forall_not_mem.2 (fun v hv => ?_)
    obtain ⟨h1, h2, h3⟩ := mem_rest.1 hv
    obtain ⟨c, _, hp⟩ := h.left hE h1 h2 h3
    have := (hx.2 c).2 hp
    rw [he] at this
    cases this
theorem IsCyc.rest (hE : Valid N E) {l xs : List Int} (h : IsOrder E N s l) (hx : IsCyc E s xs) {v : Int} (hv : v ∈ xs) : v ∈ restL N s l := by
  have hp := (hx.2 v).1 hv
  obtain ⟨y, hy⟩ := hp.last
  exact mem_rest.2 ⟨path_range (hE.cut s) hp, (mem_cut.1 hy).2.2, h.1.noCycle hp⟩
end
end Go.Proofs.Ytlpkolmaklnffaa
