/- Plain: the weight of a vertex, the first element with the smallest key, the vertices that are chosen one by one, sums of weights. -/
import Derived.Test.YtlpkolmaklnffaaKahn
import Derived.Lib.SlicesCompact
namespace Go.Proofs.Ytlpkolmaklnffaa

def wgt (ws : List Int) (v : Int) : Int := if 0 ≤ v ∧ v < (ws.length : Int) then ws[v.toNat]?.getD 0 else 0
def bstep (f : Int → Int) (o : Option Int) (x : Int) : Option Int := match o with
  | none => some x
  | some y => if f x < f y then some x else some y
def best (f : Int → Int) (L : List Int) : Option Int := L.foldl (bstep f) none
theorem best_nil (f : Int → Int) : best f [] = none := rfl
theorem best_snoc (f : Int → Int) (L : List Int) (x : Int) : best f (L ++ [x]) = bstep f (best f L) x := by unfold best; rw [List.foldl_append]; rfl
theorem bstep_some (f : Int → Int) (o : Option Int) (x : Int) : ∃ y, bstep f o x = some y ∧ (y = x ∨ o = some y) := by
  unfold bstep
  cases o with
  | none => exact ⟨x, rfl, .inl rfl⟩
  | some y =>
    by_cases h : f x < f y
    · exact ⟨x, by simp [h], .inl rfl⟩
    · exact ⟨y, by simp [h], .inr rfl⟩
theorem snocInd {p : List Int → Prop} (h0 : p []) (h1 : ∀ L x, p L → p (L ++ [x])) (L : List Int) : p L := by
  have : ∀ n : Nat, ∀ L : List Int, L.length = n → p L := by
    intro n
    induction n with
    | zero => intro L h; obtain rfl := List.eq_nil_of_length_eq_zero h; exact h0
    | succ n ih =>
      intro L h
      rcases List.eq_nil_or_concat L with rfl | ⟨t, z, rfl⟩
      · exact h0
      · rw [List.concat_eq_append] at h ⊢
        exact h1 t z (ih t (by simpa using h))
  exact this _ L rfl
theorem best_mem {f : Int → Int} {L : List Int} {v : Int} : best f L = some v → v ∈ L := by
  revert v
  refine snocInd (p := fun L => ∀ {v}, best f L = some v → v ∈ L) (fun h => by cases h) (fun L x ih v h => ?_) L
  rw [best_snoc] at h
  obtain ⟨y, e, hy⟩ := bstep_some f (best f L) x
  obtain rfl : y = v := by rw [e] at h; simpa using h
  rcases hy with rfl | hy
  · simp
  · exact List.mem_append_left _ (ih hy)
theorem best_none {f : Int → Int} {L : List Int} : best f L = none ↔ L = [] := by
  rcases List.eq_nil_or_concat L with rfl | ⟨t, z, rfl⟩
  · simp [best_nil]
  · rw [List.concat_eq_append, best_snoc]
    obtain ⟨y, e, _⟩ := bstep_some f (best f t) z
    rw [e]
    simp
/-- Those that are not to be kept. -/
def kept (xs keep : List Int) : List Int := xs.filter (fun v => !decide (v ∈ keep))
theorem kept_nil (xs : List Int) : kept xs [] = xs := by
  unfold kept
  exact List.filter_eq_self.2 (fun x _ => by simp)
theorem mem_kept {xs keep : List Int} {v : Int} : v ∈ kept xs keep ↔ v ∈ xs ∧ v ∉ keep := by simp [kept]

inductive Chosen (E : List (Int × Int)) (ws keep : List Int) : List Int → Prop where
  | nil : Chosen E ws keep []
  | snoc {out xs : List Int} {v : Int} (h : Chosen E ws keep out) (hx : IsCyc E out xs) (hb : best (wgt ws) (kept xs keep) = some v) : Chosen E ws keep (out ++ [v])
/-- 'out' are chosen, xs lie on cycles then, and none of them can be chosen. -/
def IsChoose (E : List (Int × Int)) (ws keep out xs : List Int) : Prop := Chosen E ws keep out ∧ IsCyc E out xs ∧ best (wgt ws) (kept xs keep) = none

section
variable {E : List (Int × Int)} {N : Nat} {ws keep out : List Int}
theorem Chosen.at {l : List Int} (h : Chosen E ws keep l) : ∀ p a t, l = p ++ a :: t → ∃ xs, IsCyc E p xs ∧ best (wgt ws) (kept xs keep) = some a := by
  induction h with
  | nil => intro p a t e; cases p <;> cases e
  | snoc h hx hb ih =>
    intro p a t e
    rcases List.eq_nil_or_concat t with rfl | ⟨t', z, rfl⟩
    · obtain ⟨rfl, e2⟩ := List.append_inj' e rfl
      obtain rfl : _ = a := by simpa using e2
      exact ⟨_, hx, hb⟩
    · rw [List.concat_eq_append, ← List.cons_append, ← List.append_assoc] at e
      obtain ⟨e1, _⟩ := List.append_inj' e rfl
      exact ih p a t' e1
theorem Chosen.ahead {l l2 xs2 : List Int} (h : Chosen E ws keep l) (h2 : IsChoose E ws keep l2 xs2) : l <+: l2 := by
  induction h with
  | nil => exact List.nil_prefix
  | snoc h hx hb ih =>
    obtain ⟨t, rfl⟩ := ih
    cases t with
    | nil =>
      rw [List.append_nil] at h2
      obtain rfl := hx.unique h2.2.1
      rw [h2.2.2] at hb
      cases hb
    | cons a t =>
      obtain ⟨ys, hy, hb2⟩ := h2.1.at _ a t rfl
      obtain rfl := hx.unique hy
      rw [hb] at hb2
      obtain rfl : _ = a := by simpa using hb2
      exact ⟨t, by simp⟩
theorem IsChoose.unique {l l2 xs xs2 : List Int} (h : IsChoose E ws keep l xs) (h2 : IsChoose E ws keep l2 xs2) : l = l2 ∧ xs = xs2 := by
  obtain ⟨t, rfl⟩ := h.1.ahead h2
  cases t with
  | nil =>
    rw [List.append_nil] at h2 ⊢
    exact ⟨rfl, h.2.1.unique h2.2.1⟩
  | cons a t =>
    obtain ⟨ys, hy, hb⟩ := h2.1.at _ a t rfl
    obtain rfl := h.2.1.unique hy
    rw [h.2.2] at hb
    cases hb
theorem IsCyc.notIn {s xs : List Int} (h : IsCyc E s xs) {v : Int} (hv : v ∈ xs) : v ∉ s := by
  obtain ⟨y, hy⟩ := ((h.2 v).1 hv).last
  exact (mem_cut.1 hy).2.2
theorem IsCyc.range {s xs : List Int} (hE : Valid N E) (h : IsCyc E s xs) {v : Int} (hv : v ∈ xs) : 0 ≤ v ∧ v < (N : Int) := path_range (hE.cut s) ((h.2 v).1 hv)
theorem Chosen.nodup (hE : Valid N E) {l : List Int} (h : Chosen E ws keep l) : l.Nodup ∧ ∀ v ∈ l, 0 ≤ v ∧ v < (N : Int) := by
  induction h with
  | nil => simp
  | snoc h hx hb ih =>
    have hm := (mem_kept.1 (best_mem hb)).1
    refine ⟨List.nodup_append.2 ⟨ih.1, by simp, ?_⟩, ?_⟩
    · intro a ha b hb' e
      obtain rfl : b = _ := by simpa using hb'
      exact hx.notIn hm (e ▸ ha)
    · intro v hv
      rcases List.mem_append.1 hv with hv | hv
      · exact ih.2 v hv
      · obtain rfl : v = _ := by simpa using hv
        exact hx.range hE hm
theorem Chosen.length (hE : Valid N E) {l : List Int} (h : Chosen E ws keep l) : l.length ≤ N := length_le_of_range (h.nodup hE).1 (h.nodup hE).2
theorem choose_from (hE : Valid N E) (k : Nat) : ∀ {out : List Int}, Chosen E ws keep out → N - out.length ≤ k → ∃ o xs, IsChoose E ws keep o xs := by
  induction k with
  | zero =>
    intro out h hk
    obtain ⟨xs, hx⟩ := cyc_ex hE out
    cases hb : best (wgt ws) (kept xs keep) with
    | none => exact ⟨out, xs, h, hx, hb⟩
    | some v =>
      have := (Chosen.snoc h hx hb).length hE
      simp at this
      omega
  | succ k ih =>
    intro out h hk
    obtain ⟨xs, hx⟩ := cyc_ex hE out
    cases hb : best (wgt ws) (kept xs keep) with
    | none => exact ⟨out, xs, h, hx, hb⟩
    | some v =>
      have := (Chosen.snoc h hx hb).length hE
      simp at this
      exact ih (Chosen.snoc h hx hb) (by simp; omega)
theorem choose_ex (hE : Valid N E) (ws keep : List Int) : ∃ o xs, IsChoose E ws keep o xs := choose_from hE N .nil (by simp)
/-- Where nothing is to be kept, no cycle is left. -/
theorem IsChoose.free {xs : List Int} (h : IsChoose E ws [] out xs) : xs = [] := by
  have := h.2.2
  rwa [kept_nil, best_none] at this
theorem IsChoose.nil_iff {xs x0 : List Int} (h : IsChoose E ws [] out xs) (h0 : IsCyc E [] x0) : x0 = [] ↔ out = [] := by
  constructor
  · rintro rfl
    have hc : IsChoose E ws [] [] [] := ⟨.nil, h0, rfl⟩
    exact (h.unique hc).1
  · rintro rfl
    obtain rfl := h.2.1.unique h0
    exact h.free
theorem Path.uncut {s : List Int} {u x : Int} (p : Path (cut E s) u x) : Path E u x := p.mono (fun _ he => (List.mem_filter.1 he).1)
/-- The chosen ones lie on cycles. -/
theorem Chosen.cyc {l x0 : List Int} (h : Chosen E ws keep l) (h0 : IsCyc E [] x0) : ∀ v ∈ l, v ∈ x0 := by
  induction h with
  | nil => simp
  | snoc h hx hb ih =>
    intro v hv
    rcases List.mem_append.1 hv with hv | hv
    · exact ih v hv
    · obtain rfl : v = _ := by simpa using hv
      have hm := (mem_kept.1 (best_mem hb)).1
      rw [h0.2, cut_nil]
      exact ((hx.2 _).1 hm).uncut
end

/-! ### sums -/
def sumw (ws L : List Int) : Int := (L.map (wgt ws)).sum
theorem sumw_nil (ws : List Int) : sumw ws [] = 0 := rfl
theorem sumw_cons (ws L : List Int) (x : Int) : sumw ws (x :: L) = wgt ws x + sumw ws L := by simp [sumw]
theorem sumw_append (ws L M : List Int) : sumw ws (L ++ M) = sumw ws L + sumw ws M := by simp [sumw]
theorem sumw_snoc (ws L : List Int) (x : Int) : sumw ws (L ++ [x]) = sumw ws L + wgt ws x := by rw [sumw_append, sumw_cons, sumw_nil, Int.add_zero]
/-- All weights are in their range. -/
def WRight (ws : List Int) : Prop := ws.length ≤ 60 ∧ ∀ x ∈ ws, 0 ≤ x ∧ x ≤ 1099511627776
theorem wgt_range {ws : List Int} (h : WRight ws) (v : Int) : 0 ≤ wgt ws v ∧ wgt ws v ≤ 1099511627776 := by
  unfold wgt
  by_cases hv : 0 ≤ v ∧ v < (ws.length : Int)
  · rw [if_pos hv]
    have hl : v.toNat < ws.length := by omega
    rw [List.getElem?_eq_getElem hl, Option.getD_some]
    exact h.2 _ (List.getElem_mem hl)
  · rw [if_neg hv]
    omega
theorem sumw_range {ws : List Int} (h : WRight ws) (L : List Int) : 0 ≤ sumw ws L ∧ sumw ws L ≤ L.length * 1099511627776 := by
  induction L with
  | nil => simp [sumw_nil]
  | cons x L ih =>
    rw [sumw_cons]
    have := wgt_range h x
    simp only [List.length_cons]
    omega
theorem sumw_le {ws : List Int} (h : WRight ws) {A : List Int} : ∀ {B : List Int}, A.Nodup → (∀ x ∈ A, x ∈ B) → sumw ws A ≤ sumw ws B := by
  induction A with
  | nil => intro B _ _; rw [sumw_nil]; exact (sumw_range h B).1
  | cons a A ih =>
    intro B hn hs
    obtain ⟨p, t, rfl⟩ := List.append_of_mem (hs a (by simp))
    obtain ⟨h1, h2⟩ := List.nodup_cons.1 hn
    have := ih (B := p ++ t) h2 (fun x hx => by
      have hne : x ≠ a := fun e => h1 (e ▸ hx)
      have := hs x (List.mem_cons_of_mem _ hx)
      rw [List.mem_append, List.mem_cons] at this
      rw [List.mem_append]
      rcases this with h | h | h
      · exact .inl h
      · exact absurd h hne
      · exact .inr h)
    rw [sumw_append] at this
    rw [sumw_cons, sumw_append, sumw_cons]
    omega
theorem sumw_same {ws : List Int} (h : WRight ws) {A B : List Int} (hA : A.Nodup) (hB : B.Nodup) (hm : ∀ x, x ∈ A ↔ x ∈ B) : sumw ws A = sumw ws B :=
  Int.le_antisymm (sumw_le h hA (fun x hx => (hm x).1 hx)) (sumw_le h hB (fun x hx => (hm x).2 hx))
/-- Each element at its first place. -/
def firsts : List Int → List Int → List Int
  | _, [] => []
  | p, x :: t => if x ∈ p then firsts (p ++ [x]) t else x :: firsts (p ++ [x]) t
def ddp (l : List Int) : List Int := firsts [] l
theorem firsts_snoc (x : Int) : ∀ (t p : List Int), firsts p (t ++ [x]) = firsts p t ++ (if x ∈ p ++ t then [] else [x])
  | [], p => by
    simp only [List.nil_append, List.append_nil, firsts]
  | y :: t, p => by
    rw [List.cons_append]
    simp only [firsts]
    rw [firsts_snoc x t (p ++ [y])]
    have : (x ∈ p ++ [y] ++ t) = (x ∈ p ++ y :: t) := by rw [List.append_assoc]; rfl
    simp only [this]
    split <;> split <;> simp
theorem ddp_snoc (l : List Int) (x : Int) : ddp (l ++ [x]) = ddp l ++ (if x ∈ l then [] else [x]) := by
  unfold ddp
  rw [firsts_snoc, List.nil_append]
theorem ddp_mem (l : List Int) : (ddp l).Nodup ∧ ∀ x, x ∈ ddp l ↔ x ∈ l := by
  refine snocInd (p := fun l => (ddp l).Nodup ∧ ∀ x, x ∈ ddp l ↔ x ∈ l) ⟨by simp [ddp, firsts], by simp [ddp, firsts]⟩ (fun L y ih => ?_) l
  rw [ddp_snoc]
  by_cases h : y ∈ L
  · rw [if_pos h, List.append_nil]
    refine ⟨ih.1, fun x => ?_⟩
    rw [ih.2, List.mem_append, List.mem_singleton]
    constructor
    · exact .inl
    · rintro (h2 | rfl)
      · exact h2
      · exact h
  · rw [if_neg h]
    refine ⟨List.nodup_append.2 ⟨ih.1, by simp, ?_⟩, fun x => ?_⟩
    · intro a ha b hb e
      obtain rfl : b = _ := by simpa using hb
      exact h ((ih.2 _).1 (e ▸ ha))
    · rw [List.mem_append, List.mem_append, ih.2]
theorem ddp_self {l : List Int} (h : l.Nodup) : ddp l = l := by
  revert h
  refine snocInd (p := fun l => l.Nodup → ddp l = l) (fun _ => rfl) (fun L y ih h => ?_) l
  obtain ⟨h1, _, h3⟩ := List.nodup_append.1 h
  rw [ddp_snoc, ih h1, if_neg (fun hm => h3 y hm y (by simp) rfl)]
theorem compact_sorted {zs : List Int} (hs : zs.Pairwise (· ≤ ·)) : (Lib.compact zs).Pairwise (· < ·) ∧ ∀ x, x ∈ Lib.compact zs ↔ x ∈ zs := by
  have hle : ∀ i j, i < j → j < zs.length → zs[i]! ≤ zs[j]! := fun i j hij hj => by
    rw [getElem!_pos zs i (by omega), getElem!_pos zs j hj]
    exact List.pairwise_iff_getElem.1 hs i j (by omega) hj hij
  have key : ∀ m, m ≤ zs.length → (Lib.compactUpTo zs.toArray m).Pairwise (· < ·) ∧ ∀ x, x ∈ Lib.compactUpTo zs.toArray m ↔ ∃ j, j < m ∧ zs[j]! = x := by
    intro m
    induction m with
    | zero => intro _; simp [Lib.compactUpTo]
    | succ m ih =>
      intro hm
      obtain ⟨i1, i2⟩ := ih (by omega)
      have ea : ∀ j : Nat, zs.toArray[j]! = zs[j]! := fun j => by simp
      rw [Lib.compactUpTo_succ]
      by_cases hk : Lib.keeps zs.toArray m = true
      · rw [if_pos hk]
        have hk2 : m = 0 ∨ zs[m]! ≠ zs[m - 1]! := by
          have := hk
          unfold Lib.keeps at this
          rw [ea, ea] at this
          simpa using this
        refine ⟨List.pairwise_append.2 ⟨i1, by simp, ?_⟩, fun x => ?_⟩
        · intro a ha b hb
          obtain rfl : b = zs.toArray[m]! := List.mem_singleton.1 hb
          obtain ⟨j, hj, rfl⟩ := (i2 a).1 ha
          rw [ea]
          rcases hk2 with h0 | hne
          · omega
          · have h1 : zs[m - 1]! ≤ zs[m]! := hle (m - 1) m (by omega) (by omega)
            have h2 : zs[j]! ≤ zs[m - 1]! := by
              by_cases hjm : j = m - 1
              · rw [hjm]; exact Int.le_refl _
              · exact hle j (m - 1) (by omega) (by omega)
            omega
        · rw [List.mem_append, i2, List.mem_singleton, ea]
          constructor
          · rintro (⟨j, hj, e⟩ | rfl)
            · exact ⟨j, by omega, e⟩
            · exact ⟨m, by omega, rfl⟩
          · rintro ⟨j, hj, e⟩
            by_cases hjm : j = m
            · exact .inr (by rw [← e, hjm])
            · exact .inl ⟨j, by omega, e⟩
      · rw [if_neg hk, List.append_nil]
        have hk2 : m ≠ 0 ∧ zs[m]! = zs[m - 1]! := by
          have := hk
          unfold Lib.keeps at this
          rw [ea, ea] at this
          simpa [not_or] using this
        refine ⟨i1, fun x => ?_⟩
        rw [i2]
        constructor
        · rintro ⟨j, hj, e⟩
          exact ⟨j, by omega, e⟩
        · rintro ⟨j, hj, e⟩
          by_cases hjm : j = m
          · exact ⟨m - 1, by omega, by rw [← hk2.2, ← hjm]; exact e⟩
          · exact ⟨j, by omega, e⟩
  obtain ⟨k1, k2⟩ := key zs.length (Nat.le_refl _)
  refine ⟨k1, fun x => ?_⟩
  show x ∈ Lib.compactUpTo zs.toArray zs.length ↔ _
  rw [k2, List.mem_iff_getElem]
  constructor
  · rintro ⟨j, hj, e⟩
    exact ⟨j, hj, by rw [← e, getElem!_pos zs j hj]⟩
  · rintro ⟨j, hj, e⟩
    exact ⟨j, hj, by rw [← e, getElem!_pos zs j hj]⟩
/-- What slices.Compact leaves of a sorted list. -/
def uniqL (l : List Int) : List Int := Lib.compact (sortL l)
theorem uniq_lt (l : List Int) : (uniqL l).Pairwise (· < ·) := (compact_sorted (sortL_sorted l)).1
theorem mem_uniq {l : List Int} {x : Int} : x ∈ uniqL l ↔ x ∈ l := ((compact_sorted (sortL_sorted l)).2 x).trans (sortL_perm l).mem_iff
theorem uniq_nodup (l : List Int) : (uniqL l).Nodup := (uniq_lt l).imp (fun h e => by omega)
theorem uniq_sum {ws : List Int} (h : WRight ws) (l : List Int) : sumw ws (uniqL l) = sumw ws (ddp l) :=
  sumw_same h (uniq_nodup l) (ddp_mem l).1 (fun x => mem_uniq.trans ((ddp_mem l).2 x).symm)

/-! ### what is needed -/
/-- No cycle is left without the vertices s. -/
def Acyc (E : List (Int × Int)) (s : List Int) : Prop := ∀ x, ¬ Path (cut E s) x x
theorem IsCyc.nil_iff {E : List (Int × Int)} {s xs : List Int} (h : IsCyc E s xs) : xs = [] ↔ Acyc E s := by
  constructor
  · rintro rfl x hp
    have := (h.2 x).2 hp
    cases this
  · intro ha
    exact List.eq_nil_iff_forall_not_mem.2 (fun x hx => ha x ((h.2 x).1 hx))
def others (l : List Int) (v : Int) : List Int := l.filter (fun u => !decide (u = v))
structure IsNeeded (E : List (Int × Int)) (N : Nat) (l ys : List Int) : Prop where
  lt : ys.Pairwise (· < ·)
  mem : ∀ v, v ∈ ys ↔ (0 ≤ v ∧ v < (N : Int)) ∧ v ∈ l ∧ ¬ Acyc E (others l v)
theorem needed_ex (E : List (Int × Int)) (N : Nat) (l : List Int) : ∃ ys, IsNeeded E N l ys := by
  classical
  refine ⟨(verts N).filter (fun v => decide (v ∈ l ∧ ¬ Acyc E (others l v))), (verts_sorted N).filter _, fun v => ?_⟩
  rw [List.mem_filter, mem_verts, decide_eq_true_eq]
theorem IsNeeded.eq_filter {E : List (Int × Int)} {N : Nat} {l ys : List Int} (h : IsNeeded E N l ys) : (verts N).filter (fun x => decide (x ∈ ys)) = ys := by
  refine eq_of_lt_mem ((verts_sorted N).filter _) h.lt (fun x => ?_)
  rw [List.mem_filter, decide_eq_true_eq]
  exact ⟨fun q => q.2, fun q => ⟨mem_verts.2 ((h.mem x).1 q).1, q⟩⟩
theorem Acyc.less {E : List (Int × Int)} {s t : List Int} (h : Acyc E s) (hst : ∀ x ∈ s, x ∈ t) : Acyc E t := fun x hp => h x (hp.mono (fun e he => by
  obtain ⟨u, y⟩ := e
  obtain ⟨h1, h2, h3⟩ := mem_cut.1 he
  exact mem_cut.2 ⟨h1, fun h => h2 (hst _ h), fun h => h3 (hst _ h)⟩))
/-- Where a cycle remains anyhow. -/
theorem IsNeeded.any {E : List (Int × Int)} {N : Nat} {l ys : List Int} (h : IsNeeded E N l ys) (hl : ¬ Acyc E l) : (uniqL l).filter (fun v => !(decide (v < 0) || decide ((N : Int) ≤ v))) = ys := by
  refine eq_of_lt_mem ((uniq_lt l).filter _) h.lt (fun x => ?_)
  rw [List.mem_filter, mem_uniq, h.mem]
  simp only [Bool.not_eq_true', Bool.or_eq_false_iff, decide_eq_false_iff_not]
  constructor
  · rintro ⟨h1, h2, h3⟩
    exact ⟨⟨by omega, by omega⟩, h1, fun ha => hl (ha.less (fun y hy => (List.mem_filter.1 hy).1))⟩
  · rintro ⟨h1, h2, _⟩
    exact ⟨h2, by omega, by omega⟩
theorem others_length {l : List Int} {v : Int} : (others l v).length < l.length ↔ v ∈ l := by
  unfold others
  constructor
  · intro h
    by_cases hm : v ∈ l
    · exact hm
    · rw [List.filter_eq_self.2 (fun u hu => by simp; rintro rfl; exact hm hu)] at h
      omega
  · intro hm
    have h1 := List.length_filter_le (fun u => !decide (u = v)) l
    rcases Nat.lt_or_ge (l.filter (fun u => !decide (u = v))).length l.length with h | h
    · exact h
    · have := List.filter_eq_self.1 (List.Sublist.eq_of_length_le (List.filter_sublist) h) v hm
      simp at this
theorem others_self {l : List Int} {v : Int} (h : v ∉ l) : others l v = l := List.filter_eq_self.2 (fun u hu => by simp; rintro rfl; exact h hu)
end Go.Proofs.Ytlpkolmaklnffaa
