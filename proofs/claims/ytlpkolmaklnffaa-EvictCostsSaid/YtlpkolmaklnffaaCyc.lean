/- Plain: a least closed walk through a vertex: by length, then by its vertices in their order; a search in breadth finds it. -/
import Derived.Test.YtlpkolmaklnffaaDepth
namespace Go.Proofs.Ytlpkolmaklnffaa

def pg (p : List Int) (i : Nat) : Int := p[i]?.getD 0
def lastv (p : List Int) : Int := pg p (p.length - 1)
structure Walk (E : List (Int × Int)) (v : Int) (p : List Int) : Prop where
  pos : 0 < p.length
  head : pg p 0 = v
  edge : ∀ i, i + 1 < p.length → (pg p i, pg p (i + 1)) ∈ E
def Closed (E : List (Int × Int)) (v : Int) (p : List Int) : Prop := Walk E v p ∧ (lastv p, v) ∈ E
/-- Shorter, or as long and ahead of the other at the first place in which they part. -/
def slt (p q : List Int) : Prop := p.length < q.length ∨ (p.length = q.length ∧ ∃ i, i < p.length ∧ (∀ j, j < i → pg p j = pg q j) ∧ pg p i < pg q i)
def sle (p q : List Int) : Prop := p = q ∨ slt p q
theorem pg_append_left {p q : List Int} {i : Nat} (h : i < p.length) : pg (p ++ q) i = pg p i := by unfold pg; rw [List.getElem?_append_left h]
theorem pg_snoc {p : List Int} {x : Int} : pg (p ++ [x]) p.length = x := by unfold pg; simp
theorem lastv_snoc (p : List Int) (x : Int) : lastv (p ++ [x]) = x := by
  unfold lastv
  rw [List.length_append, List.length_singleton, Nat.add_sub_cancel]
  exact pg_snoc
theorem slt.trans {p q r : List Int} (h : slt p q) (k : slt q r) : slt p r := by
  rcases h with h | ⟨hl, i, hi, h1, h2⟩ <;> rcases k with k | ⟨kl, j, hj, k1, k2⟩
  · exact .inl (by omega)
  · exact .inl (by omega)
  · exact .inl (by omega)
  · refine .inr ⟨by omega, ?_⟩
    rcases Nat.lt_trichotomy i j with hij | rfl | hij
    · exact ⟨i, hi, fun m hm => (h1 m hm).trans (k1 m (by omega)), by rw [← k1 i hij]; exact h2⟩
    · exact ⟨i, hi, fun m hm => (h1 m hm).trans (k1 m hm), by omega⟩
    · exact ⟨j, by omega, fun m hm => (h1 m (by omega)).trans (k1 m hm), by rw [h1 j hij]; exact k2⟩
theorem slt.irrefl {p : List Int} (h : slt p p) : False := by
  rcases h with h | ⟨_, i, _, _, h⟩ <;> omega
theorem slt.snoc {p q : List Int} (h : slt p q) (x y : Int) : slt (p ++ [x]) (q ++ [y]) := by
  rcases h with h | ⟨hl, i, hi, h1, h2⟩
  · exact .inl (by simp; omega)
  · refine .inr ⟨by simp; omega, i, by simp; omega, fun j hj => ?_, ?_⟩
    · rw [pg_append_left (by omega), pg_append_left (by omega)]; exact h1 j hj
    · rw [pg_append_left (by omega), pg_append_left (by omega)]; exact h2
theorem slt_snoc {p : List Int} {x y : Int} (h : x < y) : slt (p ++ [x]) (p ++ [y]) :=
  .inr ⟨by simp, p.length, by simp, fun j hj => by rw [pg_append_left hj, pg_append_left hj], by rw [pg_snoc, pg_snoc]; exact h⟩
theorem sle.trans {p q r : List Int} (h : sle p q) (k : sle q r) : sle p r := by
  rcases h with rfl | h
  · exact k
  · rcases k with rfl | k
    · exact .inr h
    · exact .inr (h.trans k)
theorem sle.antisymm {p q : List Int} (h : sle p q) (k : sle q p) : p = q := by
  rcases h with rfl | h
  · rfl
  · rcases k with rfl | k
    · rfl
    · exact (h.trans k).irrefl.elim
/-- What Cycle hands back. -/
def IsCycle (E : List (Int × Int)) (v : Int) (r : List Int) : Prop := (Closed E v r ∧ ∀ q, Closed E v q → sle r q) ∨ (r = [] ∧ ∀ q, ¬ Closed E v q)
theorem IsCycle.unique {E : List (Int × Int)} {v : Int} {r s : List Int} (h : IsCycle E v r) (k : IsCycle E v s) : r = s := by
  rcases h with ⟨h1, h2⟩ | ⟨rfl, h2⟩ <;> rcases k with ⟨k1, k2⟩ | ⟨rfl, k2⟩
  · exact (h2 _ k1).antisymm (k2 _ h1)
  · exact absurd h1 (k2 _)
  · exact absurd k1 (h2 _)
  · rfl
theorem Walk.congr {E E' : List (Int × Int)} (hm : ∀ e, e ∈ E → e ∈ E') {v : Int} {p : List Int} (h : Walk E v p) : Walk E' v p := ⟨h.pos, h.head, fun i hi => hm _ (h.edge i hi)⟩
theorem IsCycle.congr {E E' : List (Int × Int)} (hm : ∀ e, e ∈ E ↔ e ∈ E') {v : Int} {r : List Int} (h : IsCycle E v r) : IsCycle E' v r := by
  have h1 : ∀ q, Closed E v q → Closed E' v q := fun q hq => ⟨hq.1.congr (fun e => (hm e).1), (hm _).1 hq.2⟩
  have h2 : ∀ q, Closed E' v q → Closed E v q := fun q hq => ⟨hq.1.congr (fun e => (hm e).2), (hm _).2 hq.2⟩
  rcases h with ⟨a, b⟩ | ⟨rfl, b⟩
  · exact .inl ⟨h1 _ a, fun q hq => b q (h2 q hq)⟩
  · exact .inr ⟨rfl, fun q hq => b q (h2 q hq)⟩
theorem Walk.one (E : List (Int × Int)) (v : Int) : Walk E v [v] := ⟨by simp, rfl, fun i hi => by simp at hi⟩
theorem Walk.snoc {E : List (Int × Int)} {v x : Int} {p : List Int} (h : Walk E v p) (he : (lastv p, x) ∈ E) : Walk E v (p ++ [x]) := by
  have hp := h.pos
  refine ⟨by simp, by rw [pg_append_left hp]; exact h.head, fun i hi => ?_⟩
  simp at hi
  by_cases hl : i + 1 < p.length
  · rw [pg_append_left hl, pg_append_left (by omega)]; exact h.edge i hl
  · have e1 : i = p.length - 1 := by omega
    have e2 : i + 1 = p.length := by omega
    rw [pg_append_left (by omega), e2, pg_snoc, e1]
    exact he
theorem Walk.init {E : List (Int × Int)} {v x : Int} {p : List Int} (h : Walk E v (p ++ [x])) (hp : 0 < p.length) : Walk E v p ∧ (lastv p, x) ∈ E := by
  refine ⟨⟨hp, by have := h.head; rwa [pg_append_left hp] at this, fun i hi => ?_⟩, ?_⟩
  · have := h.edge i (by simp; omega)
    rwa [pg_append_left hi, pg_append_left (by omega)] at this
  · have := h.edge (p.length - 1) (by simp; omega)
    rw [pg_append_left (by omega), show p.length - 1 + 1 = p.length by omega, pg_snoc] at this
    exact this
theorem Walk.range {E : List (Int × Int)} {N : Int} (hE : Valid N E) {v : Int} {p : List Int} (h : Walk E v p) (hv : 0 ≤ v ∧ v < N) : ∀ x ∈ p, 0 ≤ x ∧ x < N := by
  intro x hx
  obtain ⟨i, hi⟩ := List.getElem?_of_mem hx
  have hlt := (List.getElem?_eq_some_iff.1 hi).1
  have hpi : pg p i = x := by unfold pg; rw [hi]; rfl
  cases i with
  | zero => rw [h.head] at hpi; subst hpi; exact hv
  | succ i =>
    have := (hE _ (h.edge i hlt)).2.1
    rwa [hpi] at this

/-- The search: the paths that have been taken off the row, those on it, the vertices seen; C: which edges have been looked at. -/
structure Bfs (E : List (Int × Int)) (v : Int) (done queue : List (List Int)) (seen : List Int) (C : List Int → Int → Prop) : Prop where
  sorted : (done ++ queue).Pairwise slt
  start : [v] ∈ done ++ queue
  walk : ∀ r ∈ done ++ queue, Walk E v r
  orig : ∀ r ∈ done ++ queue, r = [v] ∨ ∃ q x, q ∈ done ∧ r = q ++ [x]
  clos : ∀ q x, C q x → x ≠ v ∧ ∃ r ∈ done ++ queue, lastv r = x ∧ sle r (q ++ [x])
  saw : ∀ x ∈ seen, x ≠ v ∧ ∃ q ∈ done, q ++ [x] ∈ done ++ queue
  nd : ∀ r ∈ done ++ queue, r.Nodup ∧ ∀ x ∈ r, x = v ∨ x ∈ seen
  kid : ∀ q x, q ≠ [] → q ++ [x] ∈ done ++ queue → C q x
  nds : seen.Nodup
section
variable {E : List (Int × Int)} {v : Int} {done queue : List (List Int)} {seen : List Int} {C C' : List Int → Int → Prop} {p : List Int}
theorem Bfs.begin (E : List (Int × Int)) (v : Int) : Bfs E v [] [[v]] [] (fun _ _ => False) where
  sorted := by simp
  start := by simp
  walk := fun r hr => by obtain rfl : r = [v] := by simpa using hr
                         exact Walk.one E v
  orig := fun r hr => .inl (by simpa using hr)
  clos := fun _ _ h => h.elim
  saw := fun x hx => by simp at hx
  nd := fun r hr => by obtain rfl : r = [v] := by simpa using hr
                       simp
  kid := fun q x hq hm => by
    have h1 : q ++ [x] = [v] := by simpa using hm
    have h2 := congrArg List.length h1
    simp at h2
    exact hq h2
  nds := by simp
theorem Bfs.congr (h : Bfs E v done queue seen C) (hC : ∀ q x, C q x ↔ C' q x) : Bfs E v done queue seen C' :=
  { h with clos := fun q x hq => h.clos q x ((hC q x).2 hq), kid := fun q x hq hm => (hC q x).1 (h.kid q x hq hm) }
theorem Bfs.pop (h : Bfs E v done (p :: queue) seen C) : Bfs E v (done ++ [p]) queue seen C := by
  have e : (done ++ [p]) ++ queue = done ++ p :: queue := by simp
  exact {
    sorted := by rw [e]; exact h.sorted
    start := by rw [e]; exact h.start
    walk := by rw [e]; exact h.walk
    orig := by
      rw [e]
      exact fun r hr => (h.orig r hr).imp id (fun ⟨q, x, hq, hr⟩ => ⟨q, x, List.mem_append_left _ hq, hr⟩)
    clos := by rw [e]; exact h.clos
    saw := by
      rw [e]
      exact fun x hx => ⟨(h.saw x hx).1, (h.saw x hx).2.imp (fun q hq => ⟨List.mem_append_left _ hq.1, hq.2⟩)⟩
    nd := by rw [e]; exact h.nd
    kid := by rw [e]; exact h.kid
    nds := h.nds }
theorem Bfs.le_last (h : Bfs E v (done ++ [p]) queue seen C) {q : List Int} (hq : q ∈ done ++ [p]) : sle q p := by
  rcases List.mem_append.1 hq with hq | hq
  · have h1 := (List.pairwise_append.1 h.sorted).1
    exact .inr ((List.pairwise_append.1 h1).2.2 q hq p (by simp))
  · exact .inl (by simpa using hq)
theorem sle.snoc {p q : List Int} (h : sle p q) (x : Int) : sle (p ++ [x]) (q ++ [x]) := by
  rcases h with rfl | h
  · exact .inl rfl
  · exact .inr (h.snoc x x)
/-- A vertex that has been seen. -/
theorem Bfs.skip {x : Int} (h : Bfs E v (done ++ [p]) queue seen C) (hx : x ∈ seen) : Bfs E v (done ++ [p]) queue seen (fun q y => C q y ∨ (q = p ∧ y = x)) :=
  { h with
    clos := fun q y hq => by
      rcases hq with hq | ⟨rfl, rfl⟩
      · exact h.clos q y hq
      · obtain ⟨h1, r, hr, hm⟩ := h.saw y hx
        exact ⟨h1, r ++ [y], hm, lastv_snoc _ _, (h.le_last hr).snoc y⟩
    kid := fun q y hq hm => .inl (h.kid q y hq hm) }
/-- One that has not: a path more. -/
theorem Bfs.push {x : Int} (h : Bfs E v (done ++ [p]) queue seen C) (hx : x ∉ seen) (hv : x ≠ v) (he : (lastv p, x) ∈ E) (hC : ∀ y, C p y → y < x) :
    Bfs E v (done ++ [p]) (queue ++ [p ++ [x]]) (seen ++ [x]) (fun q y => C q y ∨ (q = p ∧ y = x)) := by
  have hpm : p ∈ (done ++ [p]) ++ queue := by simp
  have hpw := h.walk p hpm
  have hp0 := hpw.pos
  have e : (done ++ [p]) ++ (queue ++ [p ++ [x]]) = ((done ++ [p]) ++ queue) ++ [p ++ [x]] := by rw [List.append_assoc, List.append_assoc, List.append_assoc]
  have mem : ∀ r, r ∈ (done ++ [p]) ++ (queue ++ [p ++ [x]]) → r ∈ (done ++ [p]) ++ queue ∨ r = p ++ [x] := fun r hr => by
    rw [e] at hr
    rcases List.mem_append.1 hr with hr | hr
    · exact .inl hr
    · exact .inr (by simpa using hr)
  have old : ∀ {r}, r ∈ (done ++ [p]) ++ queue → r ∈ (done ++ [p]) ++ (queue ++ [p ++ [x]]) := fun hr => by rw [e]; exact List.mem_append_left _ hr
  have new : p ++ [x] ∈ (done ++ [p]) ++ (queue ++ [p ++ [x]]) := by rw [e]; simp
  refine { sorted := ?_, start := old h.start, walk := fun r hr => ?_, orig := fun r hr => ?_, clos := fun q y hq => ?_, saw := fun y hy => ?_, nd := fun r hr => ?_, kid := fun q y hq hm => ?_, nds := ?_ }
  · rw [e]
    refine List.pairwise_append.2 ⟨h.sorted, by simp, fun r hr s hs => ?_⟩
    obtain rfl : s = p ++ [x] := by simpa using hs
    rcases h.orig r hr with rfl | ⟨q, y, hq, rfl⟩
    · exact .inl (by simp; omega)
    · rcases h.le_last hq with rfl | hlt
      · exact slt_snoc (hC y (h.kid q y (fun e0 => by subst e0; simp at hp0) hr))
      · exact hlt.snoc y x
  · rcases mem r hr with hr | rfl
    · exact h.walk r hr
    · exact hpw.snoc he
  · rcases mem r hr with hr | rfl
    · exact h.orig r hr
    · exact .inr ⟨p, x, by simp, rfl⟩
  · rcases hq with hq | ⟨rfl, rfl⟩
    · obtain ⟨h1, r, hr, h2⟩ := h.clos q y hq
      exact ⟨h1, r, old hr, h2⟩
    · exact ⟨hv, _, new, lastv_snoc _ _, .inl rfl⟩
  · rcases List.mem_append.1 hy with hy | hy
    · obtain ⟨h1, q, hq, hm⟩ := h.saw y hy
      exact ⟨h1, q, hq, old hm⟩
    · obtain rfl : y = x := by simpa using hy
      exact ⟨hv, p, by simp, new⟩
  · rcases mem r hr with hr | rfl
    · exact ⟨(h.nd r hr).1, fun y hy => ((h.nd r hr).2 y hy).imp id (fun hy => List.mem_append_left _ hy)⟩
    · have hn := h.nd p hpm
      refine ⟨List.nodup_append.2 ⟨hn.1, by simp, fun a ha b hb => ?_⟩, fun y hy => ?_⟩
      · obtain rfl : b = x := by simpa using hb
        rintro rfl
        rcases hn.2 a ha with h1 | h1
        · exact hv h1
        · exact hx h1
      · rcases List.mem_append.1 hy with hy | hy
        · exact (hn.2 y hy).imp id (fun hy => List.mem_append_left _ hy)
        · exact .inr (List.mem_append_right _ hy)
  · rcases mem _ hm with hm | hm
    · exact .inl (h.kid q y hq hm)
    · obtain ⟨h1, h2⟩ := List.append_inj' hm rfl
      exact .inr ⟨h1, by simpa using h2⟩
  · refine List.nodup_append.2 ⟨h.nds, by simp, fun a ha b hb => ?_⟩
    obtain rfl : b = x := by simpa using hb
    rintro rfl
    exact hx ha
/-- Whatever walk there is, a path is as good, or one that waits is better. -/
theorem Bfs.cover {d0 rest : List (List Int)} (h : Bfs E v done queue seen C) (hall : done ++ queue = d0 ++ rest) (hC : ∀ q ∈ d0, ∀ x, (lastv q, x) ∈ E → C q x) :
    ∀ k (q : List Int), q.length = k → Walk E v q → (∃ r ∈ d0 ++ rest, lastv r = lastv q ∧ sle r q) ∨ ∃ r ∈ rest, slt r q := by
  intro k
  induction k with
  | zero => intro q hk hw; have := hw.pos; omega
  | succ k ih =>
    intro q hk hw
    rcases List.eq_nil_or_concat q with rfl | ⟨q0, x, rfl⟩
    · simp at hk
    · rw [List.concat_eq_append] at *
      have hk0 : q0.length = k := by simpa using hk
      rcases Nat.eq_zero_or_pos k with h0 | h0
      · obtain rfl := List.eq_nil_of_length_eq_zero (hk0.trans h0)
        have hx : x = v := hw.head
        subst hx
        exact .inl ⟨[x], hall ▸ h.start, rfl, .inl rfl⟩
      · obtain ⟨hw0, he⟩ := hw.init (by omega)
        rcases ih q0 hk0 hw0 with ⟨r, hr, hl, hs⟩ | ⟨r, hr, hs⟩
        · rcases List.mem_append.1 hr with hr | hr
          · obtain ⟨_, s, hsm, hsl, hss⟩ := h.clos r x (hC r hr x (by rw [hl]; exact he))
            exact .inl ⟨s, hall ▸ hsm, by rw [hsl, lastv_snoc], hss.trans (hs.snoc x)⟩
          · refine .inr ⟨r, hr, ?_⟩
            have : slt q0 (q0 ++ [x]) := .inl (by simp)
            rcases hs with rfl | hs
            · exact this
            · exact hs.trans this
        · exact .inr ⟨r, hr, hs.trans (.inl (by simp))⟩
theorem Bfs.found (h : Bfs E v (done ++ [p]) queue seen C) (hC : ∀ q ∈ done, ∀ x, (lastv q, x) ∈ E → C q x) (he : (lastv p, v) ∈ E) : IsCycle E v p := by
  have hall : (done ++ [p]) ++ queue = done ++ (p :: queue) := by simp
  have hpm : p ∈ (done ++ [p]) ++ queue := by simp
  have hs := h.sorted
  rw [hall] at hs
  have hq1 := (List.pairwise_cons.1 (List.pairwise_append.1 hs).2.1).1
  refine .inl ⟨⟨h.walk p hpm, he⟩, fun q hq => ?_⟩
  have low : ∀ r ∈ p :: queue, sle p r := fun r hr => by
    rcases List.mem_cons.1 hr with rfl | hr
    · exact .inl rfl
    · exact .inr (hq1 r hr)
  rcases h.cover hall hC q.length q rfl hq.1 with ⟨r, hr, hl, hs⟩ | ⟨r, hr, hs⟩
  · rcases List.mem_append.1 hr with hr | hr
    · exact absurd rfl (h.clos r v (hC r hr v (by rw [hl]; exact hq.2))).1
    · exact (low r hr).trans hs
  · exact (low r hr).trans (.inr hs)
theorem Bfs.none (h : Bfs E v done [] seen C) (hC : ∀ q ∈ done, ∀ x, (lastv q, x) ∈ E → C q x) : IsCycle E v [] := by
  refine .inr ⟨rfl, fun q hq => ?_⟩
  rcases h.cover (d0 := done) (rest := []) rfl hC q.length q rfl hq.1 with ⟨r, hr, hl, _⟩ | ⟨r, hr, _⟩
  · rw [List.append_nil] at hr
    exact (h.clos r v (hC r hr v (by rw [hl]; exact hq.2))).1 rfl
  · cases hr
theorem cycle_out {N : Int} (hE : Valid N E) (hv : ¬ (0 ≤ v ∧ v < N)) : IsCycle E v [] := .inr ⟨rfl, fun _ hq => hv (hE _ hq.2).2.1⟩
theorem Bfs.length {N : Nat} (hE : Valid N E) (h : Bfs E v (done ++ [p]) queue seen C) (hv : 0 ≤ v ∧ v < (N : Int)) : p.length ≤ N :=
  length_le_of_range (h.nd p (by simp)).1 ((h.walk p (by simp)).range hE hv)
theorem Bfs.seen_range {N : Int} (hE : Valid N E) (h : Bfs E v done queue seen C) {x : Int} (hx : x ∈ seen) : 0 ≤ x ∧ x < N := by
  obtain ⟨_, q, hq, hm⟩ := h.saw x hx
  have hw := h.walk _ hm
  have hq0 := (h.walk q (List.mem_append_left _ hq)).pos
  exact (hE _ (hw.init hq0).2).2.1
end
end Go.Proofs.Ytlpkolmaklnffaa
