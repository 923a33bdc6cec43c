/- Plain: the reference's way to a least closed walk: how far each vertex is from v; then always the least successor that is one nearer. -/
import Derived.Test.YtlpkolmaklnffaaCyc
namespace Go.Proofs.Ytlpkolmaklnffaa

/-- There is a walk of k edges from x to v. -/
inductive Steps (E : List (Int × Int)) (v : Int) : Nat → Int → Prop where
  | zero : Steps E v 0 v
  | more {k : Nat} {x y : Int} (e : (x, y) ∈ E) (h : Steps E v k y) : Steps E v (k + 1) x
/-- d x: the least k, or -1. -/
def IsDist (E : List (Int × Int)) (v : Int) (N : Nat) (d : List Int) : Prop :=
  d.length = N ∧ ∀ x, 0 ≤ x → x < (N : Int) → (dget d x = -1 ∧ ∀ k, ¬ Steps E v k x) ∨ ∃ k : Nat, dget d x = k ∧ Steps E v k x ∧ ∀ j, Steps E v j x → k ≤ j
/-- .. as far as k' < n; n in the round under way, once for the edges E' looked at. -/
def DistUpto (E : List (Int × Int)) (v : Int) (N n : Nat) (d : List Int) : Prop :=
  d.length = N ∧ ∀ x, 0 ≤ x → x < (N : Int) → (dget d x = -1 ∧ ∀ k, k < n → ¬ Steps E v k x) ∨ ∃ k : Nat, dget d x = k ∧ k < n ∧ Steps E v k x ∧ ∀ j, Steps E v j x → k ≤ j
def DistMid (E : List (Int × Int)) (v : Int) (N n : Nat) (L : List (Int × Int)) (d : List Int) : Prop :=
  d.length = N ∧ ∀ x, 0 ≤ x → x < (N : Int) → (dget d x = -1 ∧ (∀ k, k < n → ¬ Steps E v k x) ∧ ∀ y, (x, y) ∈ L → dget d y + 1 ≠ n) ∨ ∃ k : Nat, dget d x = k ∧ k ≤ n ∧ Steps E v k x ∧ ∀ j, Steps E v j x → k ≤ j
section
variable {E L : List (Int × Int)} {v : Int} {N n : Nat} {d : List Int}
theorem dget_set {d : List Int} {i : Nat} (h : i < d.length) (a x : Int) (hx : 0 ≤ x) : dget (d.set i a) x = if x = (i : Int) then a else dget d x := by
  unfold dget
  rw [List.getElem?_set]
  by_cases hxi : x = (i : Int)
  · subst hxi; simp [h]
  · have : ¬ i = x.toNat := by omega
    simp [this, hxi]
theorem DistUpto.start {V : Nat} (hV : V < N) : DistUpto E (V : Int) N 1 ((List.replicate N (-1 : Int)).set V 0) := by
  refine ⟨by simp, fun x h0 h1 => ?_⟩
  rw [dget_set (by simpa using hV) 0 x h0]
  by_cases hx : x = (V : Int)
  · subst hx
    exact .inr ⟨0, by simp, by omega, .zero, fun _ _ => Nat.zero_le _⟩
  · rw [if_neg hx]
    refine .inl ⟨?_, fun k hk hs => ?_⟩
    · unfold dget
      rw [List.getElem?_replicate, if_pos (by omega)]
      rfl
    · obtain rfl : k = 0 := by omega
      cases hs
      exact hx rfl
theorem DistUpto.mid (h : DistUpto E v N n d) : DistMid E v N n [] d :=
  ⟨h.1, fun x h0 h1 => (h.2 x h0 h1).imp (fun a => ⟨a.1, a.2, fun y hy => by simp at hy⟩) (fun ⟨k, a, b, c⟩ => ⟨k, a, by omega, c⟩)⟩
/-- An edge that changes nothing. -/
theorem DistMid.keep {u x : Int} (h : DistMid E v N n L d) (hc : ¬ (dget d u < 0 ∧ dget d x + 1 = n)) : DistMid E v N n (L ++ [(u, x)]) d := by
  refine ⟨h.1, fun z h0 h1 => ?_⟩
  rcases h.2 z h0 h1 with ⟨a, b, c⟩ | r
  · refine .inl ⟨a, b, fun y hy => ?_⟩
    rcases List.mem_append.1 hy with hy | hy
    · exact c y hy
    · obtain ⟨rfl, rfl⟩ : z = u ∧ y = x := by simpa using hy
      exact fun e => hc ⟨by omega, e⟩
  · exact .inr r
/-- One that tells that its tail is n edges away. -/
theorem DistMid.put {U : Nat} {x : Int} (hn0 : 0 < n) (hL : Valid N L) (hU : U < N) (hx : 0 ≤ x ∧ x < (N : Int)) (he : ((U : Int), x) ∈ E) (h : DistMid E v N n L d) (hc : dget d U < 0) (hn : dget d x + 1 = n) : DistMid E v N n (L ++ [((U : Int), x)]) (d.set U n) := by
  have hl := h.1
  refine ⟨by simpa using hl, fun z h0 h1 => ?_⟩
  rw [dget_set (by omega) _ z h0]
  by_cases hz : z = (U : Int)
  · subst hz
    rw [if_pos rfl]
    refine .inr ⟨n, rfl, Nat.le_refl _, ?_, fun j hj => ?_⟩
    · rcases h.2 x hx.1 hx.2 with ⟨a, _⟩ | ⟨k, a, _, b, _⟩
      · omega
      · obtain rfl : n = k + 1 := by omega
        exact .more he b
    · rcases h.2 _ h0 h1 with ⟨_, b, _⟩ | ⟨k, a, _⟩
      · by_cases hj' : j < n
        · exact absurd hj (b j hj')
        · omega
      · omega
  · rw [if_neg hz]
    rcases h.2 z h0 h1 with ⟨a, b, c⟩ | r
    · refine .inl ⟨a, b, fun y hy => ?_⟩
      rcases List.mem_append.1 hy with hy | hy
      · have hy0 := (hL _ hy).2.1.1
        rw [dget_set (by omega) _ y hy0]
        split
        · omega
        · exact c y hy
      · have : z = (U : Int) := by simp at hy; exact hy.1
        exact absurd this hz
    · exact .inr r
theorem DistMid.done (hn0 : 0 < n) (hE : Valid N E) (h : DistMid E v N n E d) : DistUpto E v N (n + 1) d := by
  refine ⟨h.1, fun x h0 h1 => ?_⟩
  rcases h.2 x h0 h1 with ⟨a, b, c⟩ | ⟨k, a, b, r⟩
  · refine .inl ⟨a, fun k hk hs => ?_⟩
    by_cases hk' : k < n
    · exact b k hk' hs
    · obtain rfl : k = n := by omega
      cases hs with
      | zero => omega
      | more e hy =>
        rename_i m y
        have hy2 := (hE _ e).2.1
        rcases h.2 y hy2.1 hy2.2 with ⟨_, b', _⟩ | ⟨k', a', _, s', m'⟩
        · exact b' m (by omega) hy
        · have h1 := m' m hy
          have h2 := c y e
          by_cases hlt : k' < m
          · exact b (k' + 1) (by omega) (.more e s')
          · omega
  · exact .inr ⟨k, a, by omega, r⟩
theorem Steps.range (hE : Valid N E) {k : Nat} {x : Int} (h : Steps E v k x) (hv : 0 ≤ v ∧ v < (N : Int)) : 0 ≤ x ∧ x < (N : Int) := by
  cases h with
  | zero => exact hv
  | more e _ => exact (hE _ e).1
/-- A vertex that is just m away: m + 1 different vertices. -/
theorem Steps.many (hE : Valid N E) (hv : 0 ≤ v ∧ v < (N : Int)) : ∀ (m : Nat) (x : Int), Steps E v m x → (∀ j, Steps E v j x → m ≤ j) → ∃ l : List Int, l.Nodup ∧ l.length = m + 1 ∧ (∀ z ∈ l, 0 ≤ z ∧ z < (N : Int)) ∧ ∀ z ∈ l, ∃ j, j ≤ m ∧ Steps E v j z
  | 0, x, h, _ => ⟨[x], by simp, rfl, fun z hz => by obtain rfl : z = x := by simpa using hz
                                                     exact h.range hE hv, fun z hz => by obtain rfl : z = x := by simpa using hz
                                                                                         exact ⟨0, Nat.le_refl _, h⟩⟩
  | m + 1, x, h, hm => by
    cases h with
    | more e hy =>
      rename_i y
      obtain ⟨l, h1, h2, h3, h4⟩ := Steps.many hE hv m y hy (fun j hj => by have := hm (j + 1) (.more e hj); omega)
      refine ⟨x :: l, List.nodup_cons.2 ⟨fun hx => ?_, h1⟩, by simp [h2], fun z hz => ?_, fun z hz => ?_⟩
      · obtain ⟨j, hj, hs⟩ := h4 x hx
        have := hm j hs
        omega
      · rcases List.mem_cons.1 hz with rfl | hz
        · exact (hE _ e).1
        · exact h3 z hz
      · rcases List.mem_cons.1 hz with rfl | hz
        · exact ⟨m + 1, Nat.le_refl _, .more e hy⟩
        · obtain ⟨j, hj, hs⟩ := h4 z hz
          exact ⟨j, by omega, hs⟩
theorem Steps.least {k : Nat} {x : Int} (h : Steps E v k x) : ∃ m, Steps E v m x ∧ ∀ j, Steps E v j x → m ≤ j := by
  induction k using Nat.strongRecOn with
  | _ k ih =>
    by_cases hj : ∃ j, j < k ∧ Steps E v j x
    · obtain ⟨j, hlt, hs⟩ := hj
      exact ih j hlt hs
    · exact ⟨k, h, fun j hs => by
        by_cases hlt : j < k
        · exact absurd ⟨j, hlt, hs⟩ hj
        · omega⟩
theorem DistUpto.all (hE : Valid N E) (hv : 0 ≤ v ∧ v < (N : Int)) (h : DistUpto E v N (N + 1) d) : IsDist E v N d := by
  refine ⟨h.1, fun x h0 h1 => ?_⟩
  rcases h.2 x h0 h1 with ⟨a, b⟩ | ⟨k, a, _, r⟩
  · refine .inl ⟨a, fun k hk => ?_⟩
    obtain ⟨m, hm, hl⟩ := hk.least
    obtain ⟨l, g1, g2, g3, _⟩ := Steps.many hE hv m x hm hl
    have := length_le_of_range g1 g3
    exact b m (by omega) hm
  · exact .inr ⟨k, a, r⟩
/-- A closed walk's vertices and how far they are. -/
theorem Closed.steps {q : List Int} (h : Closed E v q) : ∀ i j, i + j + 1 = q.length → Steps E v (j + 1) (pg q i) := by
  intro i j
  induction j generalizing i with
  | zero =>
    intro hl
    have h1 := h.2
    unfold lastv at h1
    rw [show q.length - 1 = i by omega] at h1
    exact .more h1 .zero
  | succ j ih => intro hl; exact .more (h.1.edge i (by omega)) (ih (i + 1) (by omega))
theorem IsDist.at (hd : IsDist E v N d) {x : Int} (hx : 0 ≤ x ∧ x < (N : Int)) {k : Nat} (h : Steps E v k x) : 0 ≤ dget d x ∧ dget d x ≤ k := by
  rcases hd.2 x hx.1 hx.2 with ⟨_, b⟩ | ⟨m, a, _, c⟩
  · exact absurd h (b k)
  · have := c k h
    omega
theorem IsDist.lip (hd : IsDist E v N d) {x y : Int} (hx : 0 ≤ x ∧ x < (N : Int)) (hy : 0 ≤ y ∧ y < (N : Int)) (he : (x, y) ∈ E) (hp : 0 ≤ dget d y) : 0 ≤ dget d x ∧ dget d x ≤ dget d y + 1 := by
  rcases hd.2 y hy.1 hy.2 with ⟨a, _⟩ | ⟨m, a, b, _⟩
  · omega
  · have := hd.at hx (.more he b)
    omega
/-- The way so far: always the least successor that is one nearer. -/
structure Greedy (E : List (Int × Int)) (v : Int) (d : List Int) (n : Nat) (out : List Int) : Prop where
  pos : 0 < out.length
  le : out.length ≤ n + 1
  head : pg out 0 = v
  edge : ∀ i, i + 1 < out.length → (pg out i, pg out (i + 1)) ∈ E
  dist : ∀ i, i + 1 < out.length → dget d (pg out (i + 1)) = (n : Int) - i
  least : ∀ i, i + 1 < out.length → ∀ y, (pg out i, y) ∈ E → dget d y = (n : Int) - i → pg out (i + 1) ≤ y
theorem Greedy.start (E : List (Int × Int)) (v : Int) (d : List Int) (n : Nat) : Greedy E v d n [v] :=
  ⟨by simp, by simp, rfl, fun i h => by simp at h, fun i h => by simp at h, fun i h => by simp at h⟩
theorem Greedy.snoc {out : List Int} {x : Int} (h : Greedy E v d n out) (hl : out.length ≤ n) (he : (lastv out, x) ∈ E) (hd : dget d x = (n : Int) + 1 - out.length)
    (hx : ∀ y, (lastv out, y) ∈ E → dget d y = (n : Int) + 1 - out.length → x ≤ y) : Greedy E v d n (out ++ [x]) := by
  have hp := h.pos
  have cs : ∀ i, i + 1 < (out ++ [x]).length → i + 1 < out.length ∨ i + 1 = out.length := fun i hi => by simp at hi; omega
  have lst : ∀ i, i + 1 = out.length → pg (out ++ [x]) i = lastv out := fun i hi => by
    rw [pg_append_left (by omega)]; unfold lastv; rw [show out.length - 1 = i by omega]
  have nw : ∀ i, i + 1 = out.length → pg (out ++ [x]) (i + 1) = x := fun i hi => by rw [hi, pg_snoc]
  refine ⟨by simp, by simp; omega, by rw [pg_append_left hp]; exact h.head, fun i hi => ?_, fun i hi => ?_, fun i hi y hy hdy => ?_⟩
  · rcases cs i hi with hi | hi
    · rw [pg_append_left hi, pg_append_left (by omega)]; exact h.edge i hi
    · rw [lst i hi, nw i hi]; exact he
  · rcases cs i hi with hi | hi
    · rw [pg_append_left hi]; exact h.dist i hi
    · rw [nw i hi]; omega
  · rcases cs i hi with hi | hi
    · rw [pg_append_left hi]; rw [pg_append_left (by omega)] at hy; exact h.least i hi y hy hdy
    · rw [nw i hi]; rw [lst i hi] at hy; exact hx y hy (by omega)
/-- The nearest successor's number; there is one. -/
def IsNear (E : List (Int × Int)) (v : Int) (d : List Int) (n : Nat) : Prop := (∃ x, (v, x) ∈ E ∧ dget d x = n) ∧ ∀ x, (v, x) ∈ E → 0 ≤ dget d x → (n : Int) ≤ dget d x
theorem IsNear.pos (hE : Valid N E) (hd : IsDist E v N d) (h : IsNear E v d n) : 0 < n := by
  obtain ⟨⟨x, he, hx⟩, _⟩ := h
  have hb := hE _ he
  rcases hd.2 x hb.2.1.1 hb.2.1.2 with ⟨a, _⟩ | ⟨m, a, b, _⟩
  · omega
  · cases b with
    | zero => exact absurd rfl hb.2.2
    | more _ _ => omega
theorem Greedy.next {out : List Int} (hE : Valid N E) (hd : IsDist E v N d) (hn : IsNear E v d n) (h : Greedy E v d n out) (hl : out.length ≤ n) : ∃ x, (lastv out, x) ∈ E ∧ dget d x = (n : Int) + 1 - out.length := by
  have hp := h.pos
  by_cases h1 : out.length = 1
  · obtain ⟨x, he, hx⟩ := hn.1
    refine ⟨x, ?_, by omega⟩
    unfold lastv
    rw [show out.length - 1 = 0 by omega, h.head]
    exact he
  · obtain ⟨i, hi⟩ : ∃ i, out.length = i + 2 := ⟨out.length - 2, by omega⟩
    have he := h.edge i (by omega)
    have hx := h.dist i (by omega)
    have hb := hE _ he
    have e1 : lastv out = pg out (i + 1) := by unfold lastv; rw [show out.length - 1 = i + 1 by omega]
    rw [e1]
    rcases hd.2 (pg out (i + 1)) hb.2.1.1 hb.2.1.2 with ⟨a, _⟩ | ⟨m, a, b, c⟩
    · omega
    · cases b with
      | zero => omega
      | more e2 hs =>
        rename_i m y
        have hb2 := hE _ e2
        have h2 := hd.at (x := y) hb2.2.1 hs
        have h3 := hd.lip (x := pg out (i + 1)) (y := y) hb2.1 hb2.2.1 e2 h2.1
        exact ⟨y, e2, by omega⟩
theorem pg_ext {p q : List Int} (hl : p.length = q.length) (h : ∀ i, i < p.length → pg p i = pg q i) : p = q := by
  apply List.ext_getElem hl
  intro i h1 h2
  have := h i h1
  simpa [pg, h1, h2] using this
theorem first_diff {p q : List Int} (hl : p.length = q.length) (hne : p ≠ q) : ∃ i, i < p.length ∧ (∀ j, j < i → pg p j = pg q j) ∧ pg p i ≠ pg q i := by
  have key : ∀ k, (∀ j, j < k → pg p j = pg q j) ∨ ∃ i, i < k ∧ (∀ j, j < i → pg p j = pg q j) ∧ pg p i ≠ pg q i := by
    intro k
    induction k with
    | zero => exact .inl (fun j hj => absurd hj (Nat.not_lt_zero j))
    | succ k ih =>
      rcases ih with h | ⟨i, hi, r⟩
      · by_cases hk : pg p k = pg q k
        · refine .inl (fun j hj => ?_)
          by_cases hjk : j = k
          · subst hjk; exact hk
          · exact h j (by omega)
        · exact .inr ⟨k, by omega, h, hk⟩
      · exact .inr ⟨i, by omega, r⟩
  rcases key p.length with h | ⟨i, hi, r⟩
  · exact absurd (pg_ext hl h) hne
  · exact ⟨i, hi, r⟩
theorem Greedy.cycle {out : List Int} (hE : Valid N E) (hd : IsDist E v N d) (hn : IsNear E v d n) (h : Greedy E v d n out) (hl : out.length = n + 1) : IsCycle E v out := by
  have hn0 := hn.pos hE hd
  have hw : Walk E v out := ⟨h.pos, h.head, h.edge⟩
  have hclose : (lastv out, v) ∈ E := by
    obtain ⟨i, hi⟩ : ∃ i, out.length = i + 2 := ⟨out.length - 2, by omega⟩
    have he := h.edge i (by omega)
    have hx := h.dist i (by omega)
    have hb := hE _ he
    have e1 : lastv out = pg out (i + 1) := by unfold lastv; rw [show out.length - 1 = i + 1 by omega]
    rw [e1]
    rcases hd.2 (pg out (i + 1)) hb.2.1.1 hb.2.1.2 with ⟨a, _⟩ | ⟨m, a, b, c⟩
    · omega
    · obtain rfl : m = 1 := by omega
      cases b with
      | more e2 hs => cases hs; exact e2
  refine .inl ⟨⟨hw, hclose⟩, fun q hq => ?_⟩
  have hq0 := hq.1.pos
  have hq1 : 1 < q.length := by
    by_cases h1 : q.length = 1
    · have h2 := hq.2
      unfold lastv at h2
      rw [show q.length - 1 = 0 by omega, hq.1.head] at h2
      exact absurd rfl (hE _ h2).2.2
    · omega
  have low : ∀ i, i + 1 < q.length → (n : Int) - i ≤ dget d (pg q (i + 1)) := by
    intro i
    induction i with
    | zero =>
      intro hi
      have he := hq.1.edge 0 hi
      rw [hq.1.head] at he
      have hb := hE _ he
      have h1 := hd.at (x := pg q 1) hb.2.1 (hq.steps 1 (q.length - 2) (by omega))
      have h2 := hn.2 _ he h1.1
      simpa using h2
    | succ i ih =>
      intro hi
      have he := hq.1.edge (i + 1) hi
      have hb := hE _ he
      have h1 := hd.at (x := pg q (i + 2)) hb.2.1 (hq.steps (i + 2) (q.length - (i + 3)) (by omega))
      have h2 := hd.lip (x := pg q (i + 1)) (y := pg q (i + 2)) hb.1 hb.2.1 he h1.1
      have h3 := ih (by omega)
      have e2 : pg q (i + 1 + 1) = pg q (i + 2) := rfl
      rw [e2]
      omega
  have hqn : n + 1 ≤ q.length := by
    have h1 := low 0 hq1
    have he := hq.1.edge 0 hq1
    have hb := hE _ he
    have h2 := hd.at (x := pg q 1) hb.2.1 (hq.steps 1 (q.length - 2) (by omega))
    have e2 : pg q (0 + 1) = pg q 1 := rfl
    rw [e2] at h1
    omega
  by_cases hlt : n + 1 < q.length
  · exact .inr (.inl (by omega))
  · by_cases hne : out = q
    · exact .inl hne
    · obtain ⟨i, hi, h1, h2⟩ := first_diff (by omega) hne
      refine .inr (.inr ⟨by omega, i, hi, h1, ?_⟩)
      cases i with
      | zero => exact absurd (h.head.trans hq.1.head.symm) h2
      | succ i =>
        have he := hq.1.edge i (by omega)
        rw [← h1 i (by omega)] at he
        have hb := hE _ he
        have h3 := low i (by omega)
        have h4 := hd.at (x := pg q (i + 1)) hb.2.1 (hq.steps (i + 1) (q.length - (i + 2)) (by omega))
        have h5 := h.least i hi _ he (by omega)
        omega
theorem cycle_none (hE : Valid N E) (hd : IsDist E v N d) (h : ∀ x, (v, x) ∈ E → dget d x < 0) : IsCycle E v [] := by
  refine .inr ⟨rfl, fun q hq => ?_⟩
  have hq0 := hq.1.pos
  by_cases h1 : q.length = 1
  · have h2 := hq.2
    unfold lastv at h2
    rw [show q.length - 1 = 0 by omega, hq.1.head] at h2
    exact absurd rfl (hE _ h2).2.2
  · have he := hq.1.edge 0 (by omega)
    rw [hq.1.head] at he
    have hb := hE _ he
    have h3 := hd.at (x := pg q 1) hb.2.1 (hq.steps 1 (q.length - 2) (by omega))
    have h4 := h _ he
    have e2 : pg q (0 + 1) = pg q 1 := rfl
    rw [e2] at h4
    omega
end
end Go.Proofs.Ytlpkolmaklnffaa
