/- Plain facts on extents that do not overlap: the good order is there and is the only one; what Meet, Covered, Gaps of the reference have to do with it. -/
import Derived.Test.YtgpfhdjedebdfaaIx13
import Derived.Test.YtgpfhdjedebdfaaIx15
namespace Go.Proofs.Ytgpfhdjedebdfaa
open Go.RowKit

/-! ### the good order -/
theorem meets_comm (a b : Int × Int) : meets a b = meets b a := by
  unfold meets
  congr 1
  rw [Int.max_comm, Int.min_comm]
theorem no_meet_of_le {a b : Int × Int} (h : a.1 + a.2 ≤ b.1) : meets a b = false := by
  unfold meets
  simp only [decide_eq_false_iff_not]
  omega
theorem le_of_no_meet {a b : Int × Int} (h : meets a b = false) (hab : a.1 ≤ b.1) (hb : 0 < b.2) : a.1 + a.2 ≤ b.1 := by
  unfold meets at h
  simp only [decide_eq_false_iff_not] at h
  omega
theorem RightL.pairwise {l : List (Int × Int)} (h : RightL l) : (ents l).Pairwise (fun x y => meets x.1 y.1 = false) := by
  rw [List.pairwise_iff_getElem]
  intro i j hi hj hij
  have e1 := ents_get l i
  have e2 := ents_get l j
  rw [ents_length] at hi hj
  rw [List.getElem?_eq_getElem (by rw [ents_length]; exact hi), List.getElem?_eq_getElem hi] at e1
  rw [List.getElem?_eq_getElem (by rw [ents_length]; exact hj), List.getElem?_eq_getElem hj] at e2
  simp only [Option.map_some, Option.some.injEq] at e1 e2
  rw [e1, e2, meets_comm]
  exact h.2 j i _ _ hij (List.getElem?_eq_getElem hj) (List.getElem?_eq_getElem hi)
theorem ents_fst (l : List (Int × Int)) : (ents l).map (·.1) = l := by
  apply List.ext_getElem?
  intro i
  rw [List.getElem?_map, ents_get]
  cases l[i]? <;> rfl
theorem good_exists {l : List (Int × Int)} (h : RightL l) : ∃ S, S.Perm (ents l) ∧ GoodS S := by
  have hp := List.mergeSort_perm (ents l) (fun x y => decide (x.1.1 ≤ y.1.1))
  have hs := List.pairwise_mergeSort (le := fun x y : Ent => decide (x.1.1 ≤ y.1.1)) (fun a b c h1 h2 => by simp at *; omega) (fun a b => by simp; omega) (ents l)
  refine ⟨_, hp, ?_, fun x hx => ?_⟩
  · have hn := hp.symm.pairwise h.pairwise (fun h => by rw [meets_comm]; exact h)
    have hpos : ∀ x ∈ (ents l).mergeSort (fun x y => decide (x.1.1 ≤ y.1.1)), 0 < x.1.2 := fun x hx => by
      obtain ⟨i, hi, _⟩ := mem_ents.1 (hp.mem_iff.1 hx)
      exact (h.1 _ (List.mem_of_getElem? hi)).2
    refine List.Pairwise.imp_of_mem (fun {_ y} _ hy h => ?_) (hs.and hn)
    exact le_of_no_meet h.2 (of_decide_eq_true h.1) (hpos y hy)
  · obtain ⟨i, hi, _⟩ := mem_ents.1 (hp.mem_iff.1 hx)
    exact h.1 _ (List.mem_of_getElem? hi)
theorem right_of_good {l : List (Int × Int)} {S : List Ent} (hp : S.Perm (ents l)) (hS : GoodS S) : RightL l := by
  refine ⟨fun e he => ?_, fun i j x y hij hx hy => ?_⟩
  · obtain ⟨i, hi⟩ := List.mem_iff_getElem?.1 he
    exact hS.2 (e, (i : Int)) (hp.mem_iff.2 (mem_ents.2 ⟨i, hi, rfl⟩))
  · have h1 : (ents l).Pairwise (fun x y => meets x.1 y.1 = false) := hp.pairwise (hS.1.imp (fun h => no_meet_of_le h)) (fun h => by rw [meets_comm]; exact h)
    rw [List.pairwise_iff_getElem] at h1
    have hi := (List.getElem?_eq_some_iff.1 hx).1
    have hj := (List.getElem?_eq_some_iff.1 hy).1
    have h2 := h1 j i (by rw [ents_length]; exact hj) (by rw [ents_length]; exact hi) hij
    have e1 := ents_get l i
    have e2 := ents_get l j
    rw [hx, List.getElem?_eq_getElem (by rw [ents_length]; exact hi)] at e1
    rw [hy, List.getElem?_eq_getElem (by rw [ents_length]; exact hj)] at e2
    simp only [Option.map_some, Option.some.injEq] at e1 e2
    rw [e1, e2, meets_comm] at h2
    exact h2
theorem good_anti {S : List Ent} (hS : GoodS S) {x y : Ent} (hx : x ∈ S) (hy : y ∈ S) (h1 : x.1.1 ≤ y.1.1) (h2 : y.1.1 ≤ x.1.1) : x = y := by
  obtain ⟨i, hi⟩ := List.mem_iff_getElem?.1 hx
  obtain ⟨j, hj⟩ := List.mem_iff_getElem?.1 hy
  rcases Nat.lt_trichotomy i j with h | h | h
  · have h3 := hS.lt hi hj h
    have := (hS.at hi).2
    omega
  · subst h
    rw [hi] at hj
    cases hj
    rfl
  · have h3 := hS.lt hj hi h
    have := (hS.at hj).2
    omega
theorem good_le {S : List Ent} (hS : GoodS S) : S.Pairwise (fun x y => x.1.1 ≤ y.1.1) :=
  List.Pairwise.imp_of_mem (fun hx _ h => by have := (hS.2 _ hx).2; omega) hS.1
theorem good_unique {S T : List Ent} (hp : S.Perm T) (hS : GoodS S) (hT : GoodS T) : S = T :=
  hp.eq_of_pairwise (le := fun x y : Ent => x.1.1 ≤ y.1.1) (fun _ _ hx hy h1 h2 => good_anti hS hx (hp.mem_iff.2 hy) h1 h2) (good_le hS) (good_le hT)

/-! ### Meet -/
theorem ents_range (l : List (Int × Int)) : ents l = (List.range l.length).map (fun i : Nat => (l[i]?.getD (0, 0), (i : Int))) := by
  apply List.ext_getElem?
  intro i
  rw [ents_get, List.getElem?_map]
  by_cases h : i < l.length
  · rw [List.getElem?_range h]
    simp only [Option.map_some]
    rw [List.getElem?_eq_getElem h]
    rfl
  · rw [List.getElem?_eq_none (by omega : l.length ≤ i), List.getElem?_eq_none (by simp; omega)]
    rfl
theorem posTo_ents (l : List (Int × Int)) (e : Int × Int) : (posTo l e l.length).map (fun j : Nat => (l[j]?.getD (0, 0), (j : Int))) = (ents l).filter (fun x => meets x.1 e) := by
  rw [ents_range, List.filter_map]
  rfl
/-- The positions' entries are the filtered good order. -/
theorem meet_same {l : List (Int × Int)} {e : Int × Int} {xs : List Nat} {S : List Ent} (h : IsMeet l e l.length xs) (hp : S.Perm (ents l)) (hS : GoodS S) :
    xs.map (fun j : Nat => (l[j]?.getD (0, 0), (j : Int))) = S.filter (fun x => meets x.1 e) := by
  have hq : (xs.map (fun j : Nat => (l[j]?.getD (0, 0), (j : Int)))).Perm (S.filter (fun x => meets x.1 e)) := by
    refine (h.1.map _).trans ?_
    rw [posTo_ents]
    exact (hp.filter _).symm
  refine hq.eq_of_pairwise (le := fun x y : Ent => x.1.1 ≤ y.1.1) (fun x y hx hy h1 h2 => ?_) ?_ ((good_le hS).sublist List.filter_sublist)
  · exact good_anti hS (List.mem_filter.1 (hq.mem_iff.1 hx)).1 (List.mem_filter.1 hy).1 h1 h2
  · exact List.pairwise_map.2 h.2
theorem parts_same {l : List (Int × Int)} {e : Int × Int} {xs : List Nat} {S : List Ent} (h : IsMeet l e l.length xs) (hp : S.Perm (ents l)) (hS : GoodS S) : rparts l e xs = parts e S := by
  unfold rparts parts
  rw [← meet_same h hp hS, List.map_map]
  rfl
theorem meet_list {l : List (Int × Int)} {e : Int × Int} {xs : List Nat} {S : List Ent} (h : IsMeet l e l.length xs) (hp : S.Perm (ents l)) (hS : GoodS S) : xs.map nV = (parts e S).map (fun x => .int .i64 x.1) := by
  rw [← parts_same h hp hS]
  unfold rparts
  rw [List.map_map]
  rfl

/-! ### sums -/
def sumI (l : List Int) : Int := l.foldr (· + ·) 0
theorem sumI_perm {l l' : List Int} (h : l.Perm l') : sumI l = sumI l' := by
  induction h with
  | nil => rfl
  | cons x _ ih => simp only [sumI, List.foldr_cons] at *; rw [ih]
  | swap x y _ => simp only [sumI, List.foldr_cons]; omega
  | trans _ _ h1 h2 => exact h1.trans h2
theorem sumI_append (l l' : List Int) : sumI (l ++ l') = sumI l + sumI l' := by
  induction l with
  | nil => simp [sumI]
  | cons x r ih => simp only [sumI, List.cons_append, List.foldr_cons] at *; rw [ih]; omega
theorem wrap_add (a b : Int) : RowKit.wrap64 (RowKit.wrap64 a + b) = RowKit.wrap64 (a + b) := by
  unfold RowKit.wrap64
  omega
theorem wrap_id {a : Int} (h1 : -9223372036854775808 ≤ a) (h2 : a ≤ 9223372036854775807) : RowKit.wrap64 a = a := by
  unfold RowKit.wrap64
  omega
theorem fold_wrap {α : Type} (f : α → Int) : ∀ (l : List α) (a : Int), RowKit.wrap64 (l.foldl (fun n x => RowKit.wrap64 (n + f x)) a) = RowKit.wrap64 (a + sumI (l.map f))
  | [], a => by simp [sumI]
  | x :: r, a => by
    rw [List.foldl_cons, fold_wrap f r]
    simp only [List.map_cons, sumI, List.foldr_cons]
    rw [wrap_add]
    congr 1
    omega
theorem wrap_wrap (a : Int) : RowKit.wrap64 (RowKit.wrap64 a) = RowKit.wrap64 a := by
  unfold RowKit.wrap64
  omega
theorem fold_wrap0 {α : Type} (f : α → Int) (l : List α) : l.foldl (fun n x => RowKit.wrap64 (n + f x)) 0 = RowKit.wrap64 (sumI (l.map f)) := by
  rcases List.eq_nil_or_concat l with rfl | ⟨r, x, rfl⟩
  · simp [sumI, wrap_id]
  · have h := fold_wrap f (r ++ [x]) 0
    rw [Int.zero_add] at h
    rw [List.concat_eq_append, ← h, List.foldl_append]
    simp only [List.foldl_cons, List.foldl_nil]
    rw [wrap_wrap]
theorem parts_sum (e : Int × Int) : ∀ (S : List Ent), sumI ((parts e S).map (·.2.2)) = sumI (S.map (fun x => (ovl x.1 e).2))
  | [] => rfl
  | x :: r => by
    have ih := parts_sum e r
    unfold parts at ih ⊢
    by_cases h : meets x.1 e = true
    · rw [List.filter_cons_of_pos (by simpa using h)]
      simp only [List.map_cons, sumI, List.foldr_cons] at ih ⊢
      rw [ih]
    · rw [List.filter_cons_of_neg (by simpa using h)]
      have h0 := ovl_no (by simpa using h : meets x.1 e = false)
      simp only [List.map_cons, sumI, List.foldr_cons] at ih ⊢
      rw [ih, h0]
      omega
theorem rc_eq (e : Int × Int) (l : List (Int × Int)) : rc e l = RowKit.wrap64 (sumI (l.map (fun x => (ovl x e).2))) := fold_wrap0 (fun x : Int × Int => (ovl x e).2) l
theorem cw_eq (ps : List Part) : cw ps = RowKit.wrap64 (sumI (ps.map (·.2.2))) := fold_wrap0 (fun x : Part => x.2.2) ps
theorem covered_same {l : List (Int × Int)} {e : Int × Int} {S : List Ent} (hp : S.Perm (ents l)) : cw (parts e S) = rc e l := by
  rw [cw_eq, rc_eq, parts_sum]
  congr 1
  have h := sumI_perm (hp.map (fun x => (ovl x.1 e).2))
  have h2 : (ents l).map (fun x => (ovl x.1 e).2) = l.map (fun x => (ovl x e).2) := by
    conv => rhs; rw [← ents_fst l]
    rw [List.map_map]
    rfl
  rw [h, h2]

/-! ### the gaps -/
theorem ovl_in {x e : Int × Int} (h : meets x e = true) : e.1 ≤ (ovl x e).1 ∧ x.1 ≤ (ovl x e).1 ∧ 0 < (ovl x e).2 ∧ (ovl x e).1 + (ovl x e).2 ≤ e.1 + e.2 ∧ (ovl x e).1 + (ovl x e).2 ≤ x.1 + x.2 := by
  rw [ovl_yes h]
  unfold meets at h
  simp only [decide_eq_true_eq] at h
  simp only
  omega
/-- The parts lie in e one behind the other. -/
def Chain (e : Int × Int) (ps : List Part) : Prop := ps.Pairwise (fun p q => p.2.1 + p.2.2 ≤ q.2.1) ∧ ∀ p ∈ ps, e.1 ≤ p.2.1 ∧ 0 < p.2.2 ∧ p.2.1 + p.2.2 ≤ e.1 + e.2
theorem parts_chain {e : Int × Int} {S : List Ent} (hS : GoodS S) : Chain e (parts e S) := by
  refine ⟨?_, fun p hp => ?_⟩
  · unfold parts
    rw [List.pairwise_map]
    refine List.Pairwise.imp_of_mem (fun {x y} hx hy h => ?_) (hS.1.sublist List.filter_sublist)
    have h1 := ovl_in (List.mem_filter.1 hx).2
    have h2 := ovl_in (List.mem_filter.1 hy).2
    show (ovl x.1 e).1 + (ovl x.1 e).2 ≤ (ovl y.1 e).1
    omega
  · unfold parts at hp
    obtain ⟨x, hx, rfl⟩ := List.mem_map.1 hp
    have h1 := ovl_in (List.mem_filter.1 hx).2
    exact ⟨h1.1, h1.2.2.1, h1.2.2.2.1⟩
/-- y has no byte of p. -/
def Apart (y p : Int × Int) : Prop := y.1 + y.2 ≤ p.1 ∨ p.1 + p.2 ≤ y.1
structure GapSt (e : Int × Int) (ps : List Part) (G : List (Int × Int)) (at_ : Int) : Prop where
  lo : e.1 ≤ at_
  hi : at_ ≤ e.1 + e.2
  behind : ∀ p ∈ ps, p.2.1 + p.2.2 ≤ at_
  inn : ∀ y ∈ G, e.1 ≤ y.1 ∧ 0 < y.2 ∧ y.1 + y.2 ≤ at_
  apart : ∀ y ∈ G, ∀ p ∈ ps, Apart y p.2
  sum : sumI (G.map (·.2)) + sumI (ps.map (·.2.2)) = at_ - e.1
theorem GapSt.gap {e : Int × Int} {ps : List Part} {G : List (Int × Int)} {at_ o : Int} (he : VE e) (h : GapSt e ps G at_) (h1 : at_ ≤ o) (h2 : o ≤ e.1 + e.2) : GapSt e ps (gapL at_ o G) o := by
  obtain ⟨v1, v2, v3⟩ := he
  have := h.lo
  unfold gapL
  by_cases hlt : at_ < o
  · rw [if_pos hlt, wrap_id (by omega) (by omega)]
    refine ⟨by omega, h2, fun p hp => Int.le_trans (h.behind p hp) h1, fun y hy => ?_, fun y hy p hp => ?_, ?_⟩
    · rcases List.mem_append.1 hy with hy | hy
      · have := h.inn y hy; omega
      · obtain rfl : y = (at_, o - at_) := by simpa using hy
        simp only
        omega
    · rcases List.mem_append.1 hy with hy | hy
      · exact h.apart y hy p hp
      · obtain rfl : y = (at_, o - at_) := by simpa using hy
        exact .inr (h.behind p hp)
    · rw [List.map_append, sumI_append]
      have := h.sum
      have e0 : sumI ([(at_, o - at_)].map (·.2)) = o - at_ := by simp [sumI]
      rw [e0]
      omega
  · rw [if_neg hlt]
    obtain rfl : at_ = o := by omega
    exact h
theorem GapSt.part {e : Int × Int} {ps : List Part} {G : List (Int × Int)} {p : Part} (h : GapSt e ps G p.2.1) (h1 : 0 < p.2.2) (h2 : p.2.1 + p.2.2 ≤ e.1 + e.2) : GapSt e (ps ++ [p]) G (p.2.1 + p.2.2) := by
  have := h.lo
  refine ⟨by omega, h2, fun q hq => ?_, fun y hy => ?_, fun y hy q hq => ?_, ?_⟩
  · rcases List.mem_append.1 hq with hq | hq
    · have := h.behind q hq; omega
    · obtain rfl : q = p := by simpa using hq
      exact Int.le_refl _
  · have := h.inn y hy; omega
  · rcases List.mem_append.1 hq with hq | hq
    · exact h.apart y hy q hq
    · obtain rfl : q = p := by simpa using hq
      exact .inl (h.inn y hy).2.2
  · rw [List.map_append, sumI_append]
    have := h.sum
    have e0 : sumI ([p].map (·.2.2)) = p.2.2 := by simp [sumI]
    rw [e0]
    omega
theorem gst_st {e : Int × Int} (he : VE e) (ps : List Part) (hc : Chain e ps) : ∀ k, k ≤ ps.length → GapSt e (ps.take k) (gst e.1 (ps.take k)).1 (gst e.1 (ps.take k)).2 ∧ (gst e.1 (ps.take k)).2 = (match k with | 0 => e.1 | j + 1 => match ps[j]? with | some p => p.2.1 + p.2.2 | none => 0) := by
  intro k
  induction k with
  | zero =>
    intro _
    refine ⟨⟨Int.le_refl _, ?_, by simp, by simp [gst], by simp [gst], ?_⟩, rfl⟩
    · have := he.2.1; show e.1 ≤ e.1 + e.2; omega
    · simp [gst, sumI]
  | succ k ih =>
    intro hk
    obtain ⟨h1, h2⟩ := ih (by omega)
    obtain ⟨p, hp⟩ : ∃ p, ps[k]? = some p := ⟨_, List.getElem?_eq_getElem (by omega)⟩
    have hpm := hc.2 p (List.mem_of_getElem? hp)
    have htk : ps.take (k + 1) = ps.take k ++ [p] := by rw [List.take_add_one, hp]; rfl
    obtain ⟨v1, v2, v3⟩ := he
    have hle : (gst e.1 (ps.take k)).2 ≤ p.2.1 := by
      rw [h2]
      match k, hk, hp, h1 with
      | 0, _, _, _ => exact hpm.1
      | j + 1, hk, hp, _ =>
        obtain ⟨q, hq⟩ : ∃ q, ps[j]? = some q := ⟨_, List.getElem?_eq_getElem (by omega)⟩
        simp only [hq]
        have := List.pairwise_iff_getElem.1 hc.1 j (j + 1) (by omega) (by omega) (by omega)
        obtain ⟨_, e1⟩ := List.getElem?_eq_some_iff.1 hq
        obtain ⟨_, e2⟩ := List.getElem?_eq_some_iff.1 hp
        rw [e1, e2] at this
        exact this
    have h3 := (h1.gap ⟨v1, v2, v3⟩ hle (by omega)).part hpm.2.1 hpm.2.2
    rw [htk, gst_snoc]
    simp only
    rw [wrap_id (by omega) (by omega)]
    refine ⟨h3, ?_⟩
    simp [hp]
theorem gaps_st {e : Int × Int} (he : VE e) {ps : List Part} (hc : Chain e ps) : GapSt e ps (gapsOf e ps) (e.1 + e.2) := by
  have h := (gst_st he ps hc ps.length (Nat.le_refl _)).1
  rw [List.take_length] at h
  unfold gapsOf
  rw [wrap_id (by obtain ⟨v1, v2, v3⟩ := he; omega) (by obtain ⟨v1, v2, v3⟩ := he; omega)]
  exact h.gap he h.hi (Int.le_refl _)
/-- No gap meets an extent of the index. -/
theorem gap_no_meet {e y : Int × Int} {S : List Ent} {G : List (Int × Int)} (h : GapSt e (parts e S) G (e.1 + e.2)) (hy : y ∈ G) : parts y S = [] := by
  refine parts_nil (fun x hx => ?_)
  cases hm : meets x.1 y with
  | false => rfl
  | true =>
    exfalso
    have hi := h.inn y hy
    have hm2 : meets x.1 e = true := by
      unfold meets at hm ⊢
      simp only [decide_eq_true_eq] at hm ⊢
      omega
    have ha := h.apart y hy (x.2, ovl x.1 e) (List.mem_map.2 ⟨x, List.mem_filter.2 ⟨hx, hm2⟩, rfl⟩)
    unfold Apart at ha
    rw [ovl_yes hm2] at ha
    unfold meets at hm
    simp only [decide_eq_true_eq] at hm
    simp only at ha
    omega
theorem gap_valid {e y : Int × Int} {ps : List Part} {G : List (Int × Int)} (he : VE e) (h : GapSt e ps G (e.1 + e.2)) (hy : y ∈ G) : VE y := by
  have hi := h.inn y hy
  obtain ⟨v1, v2, v3⟩ := he
  exact ⟨by omega, by omega, by omega⟩

/-! ### the other order -/
def flip (n : Nat) (x : Ent) : Ent := (x.1, (n : Int) - 1 - x.2)
theorem ents_reverse (l : List (Int × Int)) : (ents l.reverse).map (flip l.length) = (ents l).reverse := by
  apply List.ext_getElem?
  intro i
  rw [List.getElem?_map, ents_get]
  by_cases h : i < l.length
  · rw [List.getElem?_reverse h, List.getElem?_reverse (by rw [ents_length]; exact h), ents_length, ents_get]
    have : l.length - 1 - i < l.length := by omega
    rw [List.getElem?_eq_getElem this]
    simp only [Option.map_some, flip, Option.some.injEq, Prod.mk.injEq, true_and]
    omega
  · rw [List.getElem?_eq_none (by simp; omega), List.getElem?_eq_none (by rw [List.length_reverse, ents_length]; omega)]
    rfl
theorem flip_good {n : Nat} {S : List Ent} (h : GoodS S) : GoodS (S.map (flip n)) := by
  refine ⟨List.pairwise_map.2 (h.1.imp (fun h => h)), fun x hx => ?_⟩
  obtain ⟨y, hy, rfl⟩ := List.mem_map.1 hx
  exact h.2 y hy
theorem other_order {l : List (Int × Int)} {S T : List Ent} (hp : S.Perm (ents l)) (hS : GoodS S) (hq : T.Perm (ents l.reverse)) (hT : GoodS T) : S = T.map (flip l.length) := by
  refine good_unique ?_ hS (flip_good hT)
  refine hp.trans (List.Perm.trans ?_ (hq.map _).symm)
  rw [ents_reverse]
  exact (List.reverse_perm _).symm
theorem parts_flip (n : Nat) (e : Int × Int) (T : List Ent) : parts e (T.map (flip n)) = (parts e T).map (fun p => ((n : Int) - 1 - p.1, p.2)) := by
  unfold parts
  rw [List.filter_map, List.map_map, List.map_map]
  rfl
end Go.Proofs.Ytgpfhdjedebdfaa
