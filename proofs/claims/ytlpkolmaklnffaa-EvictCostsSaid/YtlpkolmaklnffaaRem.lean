/- Plain: the state of Kahn's removal: who is left, their degrees, who is ready. -/
import Derived.Test.YtlpkolmaklnffaaKahn
import Derived.Test.YtlpkolmaklnffaaIns
import Derived.Test.YtlpkolmaklnffaaRange
namespace Go.Proofs.Ytlpkolmaklnffaa
open Go.RowKit Go.MapKept

/-! ### a map from numbers to numbers -/
def kvOf (ks : List Int) (f : Int → Int) : List (Int × Value) := ks.map (fun v => (v, .int .i64 (f v)))
def upd (f : Int → Int) (x y : Int) : Int → Int := fun z => if z = x then y else f z
theorem kvOf_keys (ks : List Int) (f : Int → Int) : (kvOf ks f).map (·.1) = ks := by simp [kvOf, Function.comp_def]
theorem kvOf_length (ks : List Int) (f : Int → Int) : (kvOf ks f).length = ks.length := by simp [kvOf]
theorem kvOf_get (ks : List Int) (f : Int → Int) (x : Int) : mget (kvOf ks f) x = if x ∈ ks then some (.int .i64 (f x)) else none := by
  unfold mget kvOf
  induction ks with
  | nil => simp
  | cons a r ih =>
    rw [List.map_cons, List.find?_cons]
    by_cases h : a = x
    · subst h; simp
    · have h' : ¬ x = a := fun e => h e.symm
      simp only [h, decide_false, List.mem_cons, h', false_or]
      exact ih
theorem kvOf_has (ks : List Int) (f : Int → Int) (x : Int) : mhas (kvOf ks f) x = decide (x ∈ ks) := by
  rw [mhas_mget, kvOf_get]
  by_cases h : x ∈ ks <;> simp [h]
theorem kvOf_congr {ks : List Int} {f g : Int → Int} (h : ∀ x ∈ ks, f x = g x) : kvOf ks f = kvOf ks g := List.map_congr_left (fun x hx => by rw [h x hx])
theorem kvOf_put {ks : List Int} {f : Int → Int} {x : Int} (h : x ∈ ks) (y : Int) : mput (kvOf ks f) x (.int .i64 y) = kvOf ks (upd f x y) := by
  unfold mput
  rw [kvOf_has, if_pos (by simpa using h)]
  unfold kvOf upd
  rw [List.map_map]
  refine List.map_congr_left (fun z _ => ?_)
  simp only [Function.comp_def]
  by_cases hz : z = x
  · subst hz; simp
  · simp [hz]
theorem kvOf_new {ks : List Int} {f : Int → Int} {x : Int} (h : x ∉ ks) : mput (kvOf ks f) x (.int .i64 (f x)) = kvOf (ks ++ [x]) f := by
  rw [mput_new _ (by rw [kvOf_has]; simpa using h)]
  simp [kvOf]
theorem kvOf_del (ks : List Int) (f : Int → Int) (x : Int) : mdel (kvOf ks f) x = kvOf (ks.filter (fun y => !decide (y = x))) f := by
  unfold mdel kvOf
  rw [List.filter_map]
  rfl

/-! ### degrees -/
def deg (E : List (Int × Int)) (D : List Int) (x : Int) : Nat := (inL E x).countP (fun u => decide (u ∈ D))
theorem deg_le (E : List (Int × Int)) (D : List Int) (x : Int) : deg E D x ≤ E.length := Nat.le_trans List.countP_le_length (inL_length E x)
theorem deg_zero {E : List (Int × Int)} {D : List Int} {x : Int} : deg E D x = 0 ↔ ∀ u, (u, x) ∈ E → u ∉ D := by
  unfold deg
  rw [List.countP_eq_zero]
  constructor
  · intro h u hu hd
    exact absurd (by simpa using hd) (h u (mem_inL.2 hu))
  · intro h u hu
    simpa using h u (mem_inL.1 hu)
theorem countP_one {l : List Int} (hn : l.Nodup) (v : Int) : l.countP (fun u => decide (u = v)) = if v ∈ l then 1 else 0 := by
  induction l with
  | nil => simp
  | cons a r ih =>
    obtain ⟨h1, h2⟩ := List.nodup_cons.1 hn
    rw [List.countP_cons, ih h2]
    by_cases h : a = v
    · subst h; simp [h1]
    · have h' : ¬ v = a := fun e => h e.symm
      simp [h, h']
theorem countP_split {α : Type} (p q : α → Bool) : ∀ l : List α, l.countP p = l.countP (fun x => p x && q x) + l.countP (fun x => p x && !q x)
  | [] => rfl
  | a :: r => by
    rw [List.countP_cons, List.countP_cons, List.countP_cons, countP_split p q r]
    cases p a <;> cases q a <;> simp <;> omega
theorem deg_step {E : List (Int × Int)} (hnd : E.Nodup) {D : List Int} {v x : Int} (hv : v ∈ D) : deg E (D.filter (fun y => !decide (y = v))) x + (if x ∈ outL E v then 1 else 0) = deg E D x := by
  unfold deg
  rw [countP_split (fun u => decide (u ∈ D)) (fun u => decide (u = v)) (inL E x)]
  have h1 : (inL E x).countP (fun u => decide (u ∈ D) && decide (u = v)) = if x ∈ outL E v then 1 else 0 := by
    have hn : (inL E x).Nodup := (sortL_perm _).nodup_iff.2 (pred_nodup hnd x)
    have h0 : (inL E x).countP (fun u => decide (u = v)) = if x ∈ outL E v then 1 else 0 := by
      rw [countP_one hn v]
      simp only [mem_inL, mem_outL]
    rw [← h0]
    refine List.countP_congr (fun u _ => ?_)
    simp only [Bool.and_eq_true, decide_eq_true_eq]
    exact ⟨fun h => h.2, fun h => ⟨h ▸ hv, h⟩⟩
  have h2 : (inL E x).countP (fun u => decide (u ∈ D.filter (fun y => !decide (y = v)))) = (inL E x).countP (fun u => decide (u ∈ D) && !decide (u = v)) := by
    refine List.countP_congr (fun u _ => ?_)
    simp
  rw [h1, h2, Nat.add_comm]

/-! ### the state -/
def alive0 (N : Nat) (s : List Int) : List Int := (verts N).filter (fun v => !decide (v ∈ s))
theorem mem_alive0 {N : Nat} {s : List Int} {x : Int} : x ∈ alive0 N s ↔ (0 ≤ x ∧ x < (N : Int)) ∧ x ∉ s := by simp [alive0, mem_verts]
structure Kst (E : List (Int × Int)) (N : Nat) (s out D : List Int) (f : Int → Int) (rdy : List Int) : Prop where
  kahn : Kahn E N s out
  rest : D = (alive0 N s).filter (fun x => !decide (x ∈ out))
  degs : ∀ x ∈ D, f x = (deg E D x : Int)
  sorted : rdy.Pairwise (· < ·)
  ready : ∀ x, x ∈ rdy ↔ x ∈ D ∧ f x = 0
/-- .. while the edges from v, taken last, are struck; T: the heads so far. -/
structure Kin (E : List (Int × Int)) (N : Nat) (s out D : List Int) (v : Int) (T : List Int) (f : Int → Int) (rdy : List Int) : Prop where
  kahn : Kahn E N s (out ++ [v])
  rest : D = (alive0 N s).filter (fun x => !decide (x ∈ out))
  vin : v ∈ D
  degs : ∀ x ∈ D, x ≠ v → f x + (if x ∈ T then 1 else 0) = (deg E D x : Int)
  sorted : rdy.Pairwise (· < ·)
  ready : ∀ x, x ∈ rdy ↔ (x ∈ D ∧ x ≠ v) ∧ f x = 0
section
variable {E : List (Int × Int)} {N : Nat} {s out D rdy T : List Int} {f : Int → Int} {v x : Int}
theorem Kst.mem (h : Kst E N s out D f rdy) : x ∈ D ↔ ((0 ≤ x ∧ x < (N : Int)) ∧ x ∉ s) ∧ x ∉ out := by rw [h.rest]; simp [mem_alive0]
theorem Kst.isReady (hE : Valid N E) (h : Kst E N s out D f rdy) : x ∈ rdy ↔ Ready E N s out x := by
  rw [h.ready]
  constructor
  · rintro ⟨hx, hf⟩
    have hd := h.degs x hx
    rw [hf] at hd
    have hz : deg E D x = 0 := by omega
    have hm := h.mem.1 hx
    refine ⟨hm.1.1, hm.1.2, hm.2, fun u hu => ?_⟩
    have hn := deg_zero.1 hz u hu
    have hb := hE _ hu
    by_cases h1 : u ∈ s
    · exact .inl h1
    · by_cases h2 : u ∈ out
      · exact .inr h2
      · exact absurd (h.mem.2 ⟨⟨hb.1, h1⟩, h2⟩) hn
  · rintro ⟨h1, h2, h3, h4⟩
    have hx : x ∈ D := h.mem.2 ⟨⟨h1, h2⟩, h3⟩
    refine ⟨hx, ?_⟩
    rw [h.degs x hx, deg_zero.2 (fun u hu hd => ?_)]
    · rfl
    · have hm := h.mem.1 hd
      rcases h4 u hu with h5 | h5
      · exact hm.1.2 h5
      · exact hm.2 h5
theorem Kst.start (f : Int → Int) (hf : ∀ x ∈ alive0 N s, f x = (deg E (alive0 N s) x : Int)) (rdy : List Int) (hr : rdy = (verts N).filter (fun x => decide (x ∈ alive0 N s) && decide (f x = 0))) : Kst E N s [] (alive0 N s) f rdy := by
  subst hr
  refine ⟨.nil, (List.filter_eq_self.2 (fun _ _ => by simp)).symm, hf, (verts_sorted N).filter _, fun x => ?_⟩
  simp only [List.mem_filter, Bool.and_eq_true, decide_eq_true_eq]
  exact ⟨fun h => h.2, fun h => ⟨mem_verts.2 (mem_alive0.1 h.1).1, h⟩⟩
theorem Kst.pop (hE : Valid N E) (h : Kst E N s out D f (v :: rdy)) : Kin E N s out D v [] f rdy := by
  obtain ⟨s1, s2⟩ := List.pairwise_cons.1 h.sorted
  have hv := (h.ready v).1 (List.mem_cons_self ..)
  refine ⟨.snoc h.kahn ⟨(h.isReady hE).1 (List.mem_cons_self ..), fun u hu => ?_⟩, h.rest, hv.1, fun x hx _ => by simpa using h.degs x hx, s2, fun x => ?_⟩
  · rcases List.mem_cons.1 ((h.isReady hE).2 hu) with rfl | hm
    · exact Int.le_refl _
    · exact Int.le_of_lt (s1 u hm)
  · constructor
    · intro hx
      have h1 := (h.ready x).1 (List.mem_cons_of_mem _ hx)
      have h2 := s1 x hx
      exact ⟨⟨h1.1, by omega⟩, h1.2⟩
    · rintro ⟨⟨h1, h2⟩, h3⟩
      rcases List.mem_cons.1 ((h.ready x).2 ⟨h1, h3⟩) with e | hm
      · exact absurd e h2
      · exact hm
theorem Kin.skip (h : Kin E N s out D v T f rdy) (hx : ¬ (x ∈ D ∧ x ≠ v)) : Kin E N s out D v (T ++ [x]) f rdy :=
  { h with
    degs := fun y hy hne => by
      have := h.degs y hy hne
      have hyx : ¬ y = x := fun e => hx (e ▸ ⟨hy, hne⟩)
      simpa [hyx] using this }
theorem Kin.pos (hnd : E.Nodup) (h : Kin E N s out D v T f rdy) (hx : x ∈ D ∧ x ≠ v) (ho : x ∈ outL E v) (hT : x ∉ T) : 1 ≤ f x ∧ f x ≤ E.length := by
  have h1 := h.degs x hx.1 hx.2
  rw [if_neg hT] at h1
  have h2 := deg_step (E := E) (x := x) hnd h.vin
  rw [if_pos ho] at h2
  have h3 := deg_le E D x
  omega
theorem Kin.dec_keep (h : Kin E N s out D v T f rdy) (hx : x ∈ D ∧ x ≠ v) (hT : x ∉ T) (hp : 1 ≤ f x) (h0 : f x - 1 ≠ 0) : Kin E N s out D v (T ++ [x]) (upd f x (f x - 1)) rdy :=
  { h with
    degs := fun y hy hne => by
      have := h.degs y hy hne
      unfold upd
      by_cases e : y = x
      · subst e
        rw [if_neg hT] at this
        simp
        omega
      · simpa [e] using this
    ready := fun y => by
      rw [h.ready]
      unfold upd
      by_cases e : y = x
      · subst e
        simp only [if_true]
        constructor
        · rintro ⟨a, b⟩; omega
        · rintro ⟨a, b⟩; exact absurd b h0
      · simp [e] }
theorem countP_lt_mem {l : List Int} (hs : l.Pairwise (· < ·)) (x : Int) : ∀ j, j < l.length → (j < l.countP (· < x) ↔ l[j]?.getD 0 < x) := by
  induction l with
  | nil => intro j hj; simp at hj
  | cons a r ih =>
    obtain ⟨s1, s2⟩ := List.pairwise_cons.1 hs
    intro j hj
    rw [List.countP_cons]
    by_cases ha : a < x
    · simp only [ha, decide_true, if_true]
      cases j with
      | zero => simp [ha]
      | succ j =>
        have := ih s2 j (by simpa using hj)
        simp only [List.getElem?_cons_succ]
        omega
    · have h0 : r.countP (· < x) = 0 := List.countP_eq_zero.2 (fun b hb => by have := s1 b hb; simp; omega)
      simp only [ha, decide_false, h0]
      cases j with
      | zero => simp [ha]
      | succ j =>
        have hj' : j < r.length := by simpa using hj
        have := s1 r[j] (List.getElem_mem hj')
        simp only [List.getElem?_cons_succ, List.getElem?_eq_getElem hj', Option.getD_some]
        constructor
        · intro h; simp at h
        · intro h; omega
theorem mem_insAt {l : List Int} {i : Nat} {x y : Int} : y ∈ insAt l i x ↔ y = x ∨ y ∈ l := by
  unfold insAt
  rw [List.mem_append, List.mem_cons]
  constructor
  · rintro (h | h | h)
    · exact .inr (List.mem_of_mem_take h)
    · exact .inl h
    · exact .inr (List.mem_of_mem_drop h)
  · rintro (h | h)
    · exact .inr (.inl h)
    · rw [← List.take_append_drop i l, List.mem_append] at h
      exact h.imp id .inr
theorem insAt_sorted {l : List Int} (hs : l.Pairwise (· < ·)) {x : Int} (hx : x ∉ l) : (insAt l (l.countP (· < x)) x).Pairwise (· < ·) := by
  have hc : l.countP (· < x) ≤ l.length := List.countP_le_length
  have hlt : ∀ y ∈ l.take (l.countP (· < x)), y < x := fun y hy => by
    obtain ⟨j, hj⟩ := List.getElem?_of_mem hy
    have hj1 := (List.getElem?_eq_some_iff.1 hj).1
    rw [List.length_take] at hj1
    have hj2 : j < l.countP (· < x) := by omega
    rw [List.getElem?_take, if_pos hj2] at hj
    have := (countP_lt_mem hs x j (by omega)).1 hj2
    rwa [hj] at this
  have hgt : ∀ y ∈ l.drop (l.countP (· < x)), x < y := fun y hy => by
    obtain ⟨j, hj⟩ := List.getElem?_of_mem hy
    rw [List.getElem?_drop] at hj
    have hj1 := (List.getElem?_eq_some_iff.1 hj).1
    have h1 := (countP_lt_mem hs x (l.countP (· < x) + j) hj1)
    rw [hj] at h1
    have hne : y ≠ x := fun e => hx (e ▸ List.mem_of_getElem? hj)
    have h2 : ¬ (y < x) := fun h => by have := h1.2 h; omega
    omega
  unfold insAt
  have hp := hs
  rw [← List.take_append_drop (l.countP (· < x)) l] at hp
  obtain ⟨p1, p2, p3⟩ := List.pairwise_append.1 hp
  refine List.pairwise_append.2 ⟨p1, List.pairwise_cons.2 ⟨hgt, p2⟩, fun a ha b hb => ?_⟩
  rcases List.mem_cons.1 hb with rfl | hb
  · exact hlt a ha
  · exact p3 a ha b hb
theorem Kin.dec_put (h : Kin E N s out D v T f rdy) (hx : x ∈ D ∧ x ≠ v) (hT : x ∉ T) (h0 : f x - 1 = 0) : Kin E N s out D v (T ++ [x]) (upd f x (f x - 1)) (insAt rdy (rdy.countP (· < x)) x) := by
  have hxr : x ∉ rdy := fun hm => by have := ((h.ready x).1 hm).2; omega
  exact { h with
    degs := fun y hy hne => by
      have := h.degs y hy hne
      unfold upd
      by_cases e : y = x
      · subst e
        rw [if_neg hT] at this
        simp
        omega
      · simpa [e] using this
    sorted := insAt_sorted h.sorted hxr
    ready := fun y => by
      rw [mem_insAt, h.ready]
      unfold upd
      by_cases e : y = x
      · subst e; simp [hx, h0]
      · simp [e] }
theorem Kin.done (hnd : E.Nodup) (h : Kin E N s out D v (outL E v) f rdy) : Kst E N s (out ++ [v]) (D.filter (fun y => !decide (y = v))) f rdy := by
  refine ⟨h.kahn, ?_, fun x hx => ?_, h.sorted, fun x => ?_⟩
  · rw [h.rest, List.filter_filter]
    refine List.filter_congr (fun x _ => ?_)
    by_cases h1 : x ∈ out <;> by_cases h2 : x = v <;> simp [h1, h2]
  · simp only [List.mem_filter, Bool.not_eq_true', decide_eq_false_iff_not] at hx
    have h1 := h.degs x hx.1 hx.2
    have h2 := deg_step (E := E) (x := x) hnd h.vin
    by_cases ho : x ∈ outL E v
    · rw [if_pos ho] at h1 h2; omega
    · rw [if_neg ho] at h1 h2; omega
  · rw [h.ready]
    simp
theorem Kst.final (hE : Valid N E) (h : Kst E N s out D f []) : IsOrder E N s out ∧ D = restL N s out := by
  refine ⟨⟨h.kahn, fun v hv => by have := (h.isReady hE).2 hv; cases this⟩, ?_⟩
  rw [h.rest]
  unfold alive0 restL
  rw [List.filter_filter]
  refine List.filter_congr (fun x _ => ?_)
  rw [Bool.and_comm]
theorem Kst.small (h : Kst E N s out D f rdy) : D.length ≤ N ∧ out.length ≤ N ∧ rdy.length ≤ N := by
  refine ⟨?_, h.kahn.length, length_le_of_range (lt_nodup h.sorted) (fun x hx => (h.mem.1 ((h.ready x).1 hx).1).1.1)⟩
  rw [h.rest]
  refine Nat.le_trans (List.length_filter_le _ _) (Nat.le_trans (List.length_filter_le _ _) ?_)
  simp [verts]
theorem Kin.small (h : Kin E N s out D v T f rdy) : rdy.length ≤ N := by
  refine length_le_of_range (lt_nodup h.sorted) (fun x hx => ?_)
  have hx' := ((h.ready x).1 hx).1.1
  rw [h.rest] at hx'
  exact (mem_alive0.1 (List.mem_filter.1 hx').1).1
end
end Go.Proofs.Ytlpkolmaklnffaa
