/- Plain: the greatest number of edges of a path that ends at each vertex: by one run in a topological order, and by N runs over all edges. -/
import Derived.Test.YtlpkolmaklnffaaKahn
namespace Go.Proofs.Ytlpkolmaklnffaa

def dget (d : List Int) (x : Int) : Int := d[x.toNat]?.getD 0
def relax (d : List Int) (e : Int × Int) : List Int := d.set e.2.toNat (max (dget d e.2) (dget d e.1 + 1))
def relaxAll (d : List Int) (L : List (Int × Int)) : List Int := L.foldl relax d
theorem relax_length (d : List Int) (e : Int × Int) : (relax d e).length = d.length := by simp [relax]
theorem relaxAll_length (L : List (Int × Int)) : ∀ d : List Int, (relaxAll d L).length = d.length := by
  induction L with
  | nil => intro d; rfl
  | cons e L ih => intro d; exact (ih (relax d e)).trans (relax_length d e)
theorem relaxAll_append (d : List Int) (L M : List (Int × Int)) : relaxAll d (L ++ M) = relaxAll (relaxAll d L) M := List.foldl_append
theorem relaxAll_snoc (d : List Int) (L : List (Int × Int)) (e : Int × Int) : relaxAll d (L ++ [e]) = relax (relaxAll d L) e := List.foldl_append
theorem dget_relax {d : List Int} {e : Int × Int} {x : Int} (h0 : 0 ≤ e.2) (h1 : e.2 < d.length) (hx : 0 ≤ x) : dget (relax d e) x = if x = e.2 then max (dget d e.2) (dget d e.1 + 1) else dget d x := by
  unfold relax
  generalize max (dget d e.2) (dget d e.1 + 1) = m
  unfold dget
  rw [List.getElem?_set]
  by_cases h : x = e.2
  · subst h
    have : e.2.toNat < d.length := by omega
    simp [this]
  · have : ¬ e.2.toNat = x.toNat := by omega
    simp [this, h]
theorem dget_zeros (N : Nat) (x : Int) : dget (List.replicate N 0) x = 0 := by
  unfold dget
  rw [List.getElem?_replicate]
  split <;> rfl
theorem dget_ext {d d' : List Int} (hl : d.length = d'.length) (h : ∀ x : Int, 0 ≤ x → x < d.length → dget d x = dget d' x) : d = d' := by
  apply List.ext_getElem hl
  intro i h1 h2
  have := h i (by omega) (by omega)
  simpa [dget, h1, h2] using this
def InN (N : Nat) (L : List (Int × Int)) : Prop := ∀ e ∈ L, (0 ≤ e.1 ∧ e.1 < (N : Int)) ∧ (0 ≤ e.2 ∧ e.2 < (N : Int)) ∧ e.1 ≠ e.2
structure IsDepth (E : List (Int × Int)) (N : Nat) (d : List Int) : Prop where
  len : d.length = N
  pos : ∀ x, 0 ≤ dget d x
  up : ∀ u x, (u, x) ∈ E → dget d u + 1 ≤ dget d x
  src : ∀ x, 0 ≤ x → dget d x = 0 ∨ ∃ u, (u, x) ∈ E ∧ dget d x = dget d u + 1
theorem zeros_depth (N : Nat) : IsDepth [] N (List.replicate N 0) :=
  ⟨by simp, fun x => by rw [dget_zeros]; omega, fun u x h => by simp at h, fun x _ => .inl (dget_zeros N x)⟩
theorem relax_nonneg {N : Nat} {d : List Int} {e : Int × Int} (hl : d.length = N) (hp : ∀ x, 0 ≤ dget d x) (he : (0 ≤ e.2 ∧ e.2 < (N : Int))) (x : Int) : 0 ≤ dget (relax d e) x := by
  by_cases hx : 0 ≤ x
  · rw [dget_relax he.1 (by omega) hx]
    have h1 := hp e.2
    have h2 := hp x
    split <;> omega
  · have : dget (relax d e) x = dget (relax d e) 0 := by unfold dget; rw [show x.toNat = (0 : Int).toNat by omega]
    rw [this, dget_relax he.1 (by omega) (by omega)]
    have h1 := hp e.2
    have h2 := hp 0
    split <;> omega
/-- One edge more, whose head is the tail of none so far. -/
theorem IsDepth.step {N : Nat} {L : List (Int × Int)} {d : List Int} {e : Int × Int} (h : IsDepth L N d) (hL : InN N (L ++ [e])) (hn : ∀ a ∈ L, e.2 ≠ a.1) : IsDepth (L ++ [e]) N (relax d e) := by
  have he := hL e (by simp)
  have hl := h.len
  have hg : ∀ x, 0 ≤ x → dget (relax d e) x = if x = e.2 then max (dget d e.2) (dget d e.1 + 1) else dget d x := fun x hx => dget_relax he.2.1.1 (by omega) hx
  have hsame : ∀ u, 0 ≤ u → u ≠ e.2 → dget (relax d e) u = dget d u := fun u hu hne => by rw [hg u hu, if_neg hne]
  have hge : ∀ x, 0 ≤ x → dget d x ≤ dget (relax d e) x := fun x hx => by
    rw [hg x hx]
    split
    · rename_i h; subst h; omega
    · omega
  refine ⟨by rw [relax_length]; exact hl, relax_nonneg hl h.pos he.2.1, ?_, ?_⟩
  · intro u x hm
    have hb := hL _ hm
    rcases List.mem_append.1 hm with hm | hm
    · have h1 := h.up u x hm
      have h2 := hsame u hb.1.1 (fun e1 => hn _ hm e1.symm)
      have h3 := hge x hb.2.1.1
      omega
    · obtain rfl : (u, x) = e := by simpa using hm
      rw [hsame u hb.1.1 hb.2.2, hg x hb.2.1.1, if_pos rfl]
      exact Int.le_max_right _ _
  · intro x hx
    have old : dget d x = 0 ∨ ∃ u, (u, x) ∈ L ++ [e] ∧ dget d x = dget (relax d e) u + 1 := by
      rcases h.src x hx with h0 | ⟨u, hu, hd⟩
      · exact .inl h0
      · refine .inr ⟨u, List.mem_append_left _ hu, ?_⟩
        rw [hd, hsame u (hL _ (List.mem_append_left _ hu)).1.1 (fun e1 => hn _ hu e1.symm)]
    by_cases hxe : x = e.2
    · have hgx := hg x hx
      rw [if_pos hxe] at hgx
      by_cases hle : dget d e.1 + 1 ≤ dget d e.2
      · rw [Int.max_eq_left hle, ← hxe] at hgx
        rw [hgx]
        exact old
      · rw [Int.max_eq_right (by omega)] at hgx
        refine .inr ⟨e.1, by rw [hxe]; simp, ?_⟩
        rw [hgx, hsame e.1 he.1.1 he.2.2]
    · rw [hsame x hx hxe]
      exact old
theorem depth_list {N : Nat} {L : List (Int × Int)} (hL : InN N L) (hp : L.Pairwise (fun a b => b.2 ≠ a.1)) : IsDepth L N (relaxAll (List.replicate N 0) L) := by
  induction hk : L.length generalizing L with
  | zero => obtain rfl := List.eq_nil_of_length_eq_zero hk; exact zeros_depth N
  | succ k ih =>
    rcases List.eq_nil_or_concat L with rfl | ⟨L', e, rfl⟩
    · simp at hk
    · rw [List.concat_eq_append] at *
      rw [relaxAll_snoc]
      obtain ⟨p1, _, p3⟩ := List.pairwise_append.1 hp
      exact (ih (fun a ha => hL a (List.mem_append_left _ ha)) p1 (by simpa using hk)).step hL (fun a ha => p3 a ha e (by simp))
theorem IsDepth.congr {N : Nat} {E L : List (Int × Int)} {d : List Int} (h : IsDepth L N d) (hm : ∀ e, e ∈ L ↔ e ∈ E) : IsDepth E N d :=
  ⟨h.len, h.pos, fun u x he => h.up u x ((hm _).2 he), fun x hx => (h.src x hx).imp id (fun ⟨u, hu, hd⟩ => ⟨u, (hm _).1 hu, hd⟩)⟩
/-- The edges in the order in which Depth takes them. -/
def flatE (E : List (Int × Int)) (o : List Int) : List (Int × Int) := o.flatMap (fun v => (outL E v).map (fun x => (v, x)))
theorem Kahn.later {E : List (Int × Int)} {N : Nat} {o : List Int} (h : Kahn E N [] o) : o.Pairwise (fun a b => (b, a) ∉ E) := by
  induction h with
  | nil => exact List.Pairwise.nil
  | snoc h l ih =>
    refine List.pairwise_append.2 ⟨ih, by simp, fun a ha b hb he => ?_⟩
    obtain rfl : b = _ := by simpa using hb
    exact l.1.2.2.1 (h.edge he (by simp) ha).1
theorem order_depth {E : List (Int × Int)} {N : Nat} {o : List Int} (hE : Valid N E) (h : IsOrder E N [] o) (hall : ∀ v, 0 ≤ v → v < (N : Int) → v ∈ o) : IsDepth E N (relaxAll (List.replicate N 0) (flatE E o)) := by
  have hm : ∀ e, e ∈ flatE E o ↔ e ∈ E := fun e => by
    unfold flatE
    simp only [List.mem_flatMap, List.mem_map]
    constructor
    · rintro ⟨v, _, x, hx, rfl⟩; exact mem_outL.1 hx
    · intro he
      exact ⟨e.1, hall _ (hE e he).1.1 (hE e he).1.2, e.2, mem_outL.2 he, rfl⟩
  refine (depth_list (fun e he => hE e ((hm e).1 he)) ?_).congr hm
  unfold flatE
  refine List.pairwise_flatMap.2 ⟨fun v _ => ?_, h.1.later.imp ?_⟩
  · refine List.pairwise_map.2 ?_
    refine (List.pairwise_of_forall_mem_list (fun a ha b hb => ?_))
    exact fun e1 => (hE _ (mem_outL.1 hb)).2.2 e1.symm
  · intro a b hab x hx y hy
    obtain ⟨x', hx', rfl⟩ := List.mem_map.1 hx
    obtain ⟨y', hy', rfl⟩ := List.mem_map.1 hy
    intro e1
    have e2 : y' = a := e1
    subst e2
    exact hab (mem_outL.1 hy')
theorem IsDepth.small {E : List (Int × Int)} {N : Nat} {o d : List Int} (h : IsOrder E N [] o) (hE : Valid N E) (hall : ∀ v, 0 ≤ v → v < (N : Int) → v ∈ o) (hd : IsDepth E N d) (x : Int) (hx0 : 0 ≤ x) (hx1 : x < (N : Int)) : dget d x ≤ (o.idxOf x : Int) := by
  generalize hk : o.idxOf x = k
  induction k using Nat.strongRecOn generalizing x with
  | _ k ih =>
    rcases hd.src x hx0 with h0 | ⟨u, hu, he⟩
    · omega
    · have h1 := (h.1.edge hu (by simp) (hall x hx0 hx1)).2
      have h2 := hE _ hu
      have := ih _ (by omega) u h2.1.1 h2.1.2 rfl
      omega
/-- N runs over all edges. -/
def rounds (E : List (Int × Int)) (N : Nat) : Nat → List Int
  | 0 => List.replicate N 0
  | k + 1 => relaxAll (rounds E N k) E
theorem rounds_length (E : List (Int × Int)) (N : Nat) : ∀ k, (rounds E N k).length = N
  | 0 => by simp [rounds]
  | k + 1 => (relaxAll_length E _).trans (rounds_length E N k)
theorem relax_mono {N : Nat} {d : List Int} {e : Int × Int} (hl : d.length = N) (he : (0 ≤ e.2 ∧ e.2 < (N : Int))) {x : Int} (hx : 0 ≤ x) : dget d x ≤ dget (relax d e) x := by
  rw [dget_relax he.1 (by omega) hx]
  split
  · rename_i h; subst h; omega
  · omega
theorem relaxAll_mono {N : Nat} {L : List (Int × Int)} : ∀ {d : List Int}, d.length = N → InN N L → ∀ {x : Int}, 0 ≤ x → dget d x ≤ dget (relaxAll d L) x := by
  induction L with
  | nil => intro d _ _ x _; exact Int.le_refl _
  | cons e L ih =>
    intro d hl hL x hx
    have h1 := relax_mono (e := e) hl (hL e (by simp)).2.1 hx
    have h2 := ih (d := relax d e) (by rw [relax_length]; exact hl) (fun a ha => hL a (List.mem_cons_of_mem _ ha)) hx
    exact Int.le_trans h1 h2
theorem relaxAll_edge {N : Nat} {L : List (Int × Int)} {u x : Int} : ∀ {d : List Int}, d.length = N → InN N L → (u, x) ∈ L → dget d u + 1 ≤ dget (relaxAll d L) x := by
  induction L with
  | nil => intro d _ _ hm; cases hm
  | cons e L ih =>
    intro d hl hL hm
    have hl' : (relax d e).length = N := by rw [relax_length]; exact hl
    have hb := hL _ hm
    rcases List.mem_cons.1 hm with rfl | hm
    · have h2 := relaxAll_mono (d := relax d (u, x)) hl' (fun a ha => hL a (List.mem_cons_of_mem _ ha)) hb.2.1.1
      rw [dget_relax hb.2.1.1 (by have := hb.2.1.2; omega) hb.2.1.1, if_pos rfl] at h2
      have : dget d u + 1 ≤ max (dget d x) (dget d u + 1) := Int.le_max_right _ _
      exact Int.le_trans this h2
    · have h1 := relax_mono (e := e) (x := u) hl (hL e (by simp)).2.1 hb.1.1
      have h2 := ih hl' (fun a ha => hL a (List.mem_cons_of_mem _ ha)) hm
      show dget d u + 1 ≤ dget (relaxAll (relax d e) L) x
      omega
theorem relaxAll_below {N : Nat} {E L : List (Int × Int)} {D : List Int} (hD : IsDepth E N D) (hin : ∀ e ∈ L, e ∈ E) : ∀ {d : List Int}, d.length = N → InN N L → (∀ x, 0 ≤ x → dget d x ≤ dget D x) → ∀ x, 0 ≤ x → dget (relaxAll d L) x ≤ dget D x := by
  induction L with
  | nil => intro d _ _ h; exact h
  | cons e L ih =>
    intro d hl hL h x hx
    refine ih (fun a ha => hin a (List.mem_cons_of_mem _ ha)) (d := relax d e) (by rw [relax_length]; exact hl) (fun a ha => hL a (List.mem_cons_of_mem _ ha)) (fun y hy => ?_) x hx
    have he := hL e (by simp)
    rw [dget_relax he.2.1.1 (by omega) hy]
    split
    · rename_i h1
      subst h1
      have h2 := hD.up e.1 e.2 (hin e (by simp))
      have h3 := h e.1 he.1.1
      have h4 := h e.2 he.2.1.1
      omega
    · exact h y hy
theorem rounds_depth {E : List (Int × Int)} {N : Nat} {o D : List Int} (hE : Valid N E) (h : IsOrder E N [] o) (hall : ∀ v, 0 ≤ v → v < (N : Int) → v ∈ o) (hD : IsDepth E N D) : rounds E N N = D := by
  have low : ∀ (k : Nat) (x : Int), 0 ≤ x → min (dget D x) (k : Int) ≤ dget (rounds E N k) x := by
    intro k
    induction k with
    | zero =>
      intro x _
      show _ ≤ dget (List.replicate N 0) x
      rw [dget_zeros]
      omega
    | succ k ih =>
      intro x hx
      have hm := relaxAll_mono (d := rounds E N k) (rounds_length E N k) hE hx
      have hx' := ih x hx
      show _ ≤ dget (relaxAll (rounds E N k) E) x
      rcases hD.src x hx with h0 | ⟨u, hu, he⟩
      · omega
      · have h1 := relaxAll_edge (rounds_length E N k) hE hu
        have h2 := ih u (hE _ hu).1.1
        omega
  have up : ∀ (k : Nat) (x : Int), 0 ≤ x → dget (rounds E N k) x ≤ dget D x := by
    intro k
    induction k with
    | zero =>
      intro x _
      show dget (List.replicate N 0) x ≤ _
      rw [dget_zeros]
      exact hD.pos x
    | succ k ih => exact relaxAll_below hD (fun _ h => h) (rounds_length E N k) hE ih
  refine dget_ext ((rounds_length E N N).trans hD.len.symm) (fun x h0 h1 => ?_)
  rw [rounds_length] at h1
  have h2 := low N x h0
  have h3 := up N x h0
  have h4 := hD.small h hE hall x h0 h1
  have h5 := List.idxOf_lt_length_iff.2 (hall x h0 h1)
  have h6 := h.1.length
  omega
theorem order_length {E : List (Int × Int)} {N : Nat} {o : List Int} (h : IsOrder E N [] o) (hall : ∀ v, 0 ≤ v → v < (N : Int) → v ∈ o) : o.length = N := by
  have hp : o.Perm (verts N) := (List.perm_ext_iff_of_nodup h.1.nodup.1 (lt_nodup (verts_sorted N))).2 (fun x => ⟨fun hx => mem_verts.2 (h.1.nodup.2 x hx).1, fun hx => hall x (mem_verts.1 hx).1 (mem_verts.1 hx).2⟩)
  rw [hp.length_eq]
  simp [verts]
end Go.Proofs.Ytlpkolmaklnffaa
