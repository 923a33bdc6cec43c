/- append onto a row of the call's own that is not nil, from whatever source (nil, empty or not). -/
import Derived.Test.YtlpkolmaklnffaaBase
import Derived.Maps.AppendAt
namespace Go.Proofs.Ytlpkolmaklnffaa
open Go.RowKit Go.MapKept

/-- The slice at A, of m elements of 'size' cells, reads as the cells xs. -/
def Cells (w : World) (size : Nat) (A : Option Addr) (m : Nat) (xs : List Value) : Prop :=
  xs.length = m * size ∧ (0 < m → ∃ ad, A = some ad ∧ ∀ j u, xs[j]? = some u → w.cell? (ad.add j) = some u)
theorem add_none (b off j : Nat) : (⟨b, off, none⟩ : Addr).add j = ⟨b, off + j, none⟩ := by unfold Addr.add; split <;> simp_all
def cellsE (E : List (Int × Int)) : List Value := E.flatMap fun e => [.int .i64 e.1, .int .i64 e.2]
theorem cellsE_length (E : List (Int × Int)) : (cellsE E).length = E.length * 2 := by
  unfold cellsE
  induction E with
  | nil => rfl
  | cons e r ih => simp [ih]; omega
theorem cellsE_get (E : List (Int × Int)) (j : Nat) : (cellsE E)[j]? = (E[j / 2]?).map fun e => if j % 2 = 0 then .int .i64 e.1 else .int .i64 e.2 := by
  unfold cellsE
  induction E generalizing j with
  | nil => simp
  | cons e r ih =>
    match j with
    | 0 => simp
    | 1 => simp
    | j + 2 =>
      have h1 : (j + 2) / 2 = j / 2 + 1 := by omega
      have h2 : (j + 2) % 2 = j % 2 := by omega
      rw [h1, h2]
      simp only [List.flatMap_cons, List.cons_append, List.nil_append, List.getElem?_cons_succ]
      exact ih j
theorem SlE.cells {w : World} {A : Option Addr} {E : List (Int × Int)} (h : SlE w A E) : Cells w 2 A E.length (cellsE E) := by
  refine ⟨cellsE_length E, fun hp => ?_⟩
  obtain ⟨b, off, rfl, hc⟩ := h hp
  refine ⟨_, rfl, fun j u hu => ?_⟩
  rw [add_none]
  rw [cellsE_get] at hu
  cases hj : E[j / 2]? with
  | none => rw [hj] at hu; cases hu
  | some e =>
    rw [hj] at hu
    have hlt := (List.getElem?_eq_some_iff.1 hj).1
    obtain ⟨h1, h2⟩ := hc (j / 2) hlt
    simp only [hj, Option.getD_some] at h1 h2
    simp only [Option.map_some, Option.some.injEq] at hu
    subst hu
    by_cases hm : j % 2 = 0
    · rw [if_pos hm]
      have : off + j / 2 * 2 = off + j := by omega
      rw [← this]; exact h1
    · rw [if_neg hm]
      have : off + j / 2 * 2 + 1 = off + j := by omega
      rw [← this]; exact h2
theorem SlE.of_cells {w : World} {b off : Nat} {E : List (Int × Int)} (h : ∀ j u, (cellsE E)[j]? = some u → w.cell? ⟨b, off + j, none⟩ = some u) : SlE w (some ⟨b, off, none⟩) E := fun _ => by
  refine ⟨b, off, rfl, fun j hj => ?_⟩
  have hE : E[j]? = some E[j] := List.getElem?_eq_getElem hj
  constructor
  · have := h (j * 2) (.int .i64 (E[j]?.getD (0, 0)).1) (by
      rw [cellsE_get, show j * 2 / 2 = j by omega, hE, show j * 2 % 2 = 0 by omega]; rfl)
    exact this
  · have := h (j * 2 + 1) (.int .i64 (E[j]?.getD (0, 0)).2) (by
      rw [cellsE_get, show (j * 2 + 1) / 2 = j by omega, hE, show (j * 2 + 1) % 2 = 1 by omega]; rfl)
    rw [← Nat.add_assoc] at this
    exact this
theorem SlE.of_own {w : World} {base e n c : Nat} {A : Option Addr} {E : List (Int × Int)} (h : w.ownsRow base e 2 (.slice A n c) n (cellsE E)) : SlE w A E := fun hp => by
  have hn : n = E.length := by have := h.1; rw [cellsE_length] at this; omega
  rcases h.2 with ⟨hv, h0⟩ | ⟨g, cap, cur, hv, hb, hg, hnc, hcm, hcs, ht⟩
  · omega
  · injection hv with h1 h2 h3
    subst h1
    exact SlE.of_cells (fun j u hu => by have := h.cells (g := g) rfl j u hu; rw [add_none] at this; exact this) hp
theorem SlI.cells {w : World} {A : Option Addr} {xs : List Int} (h : SlI w A xs) : Cells w 1 A xs.length (xs.map (Value.int .i64)) := by
  refine ⟨by simp, fun hp => ?_⟩
  obtain ⟨b, off, rfl, hc⟩ := h hp
  refine ⟨_, rfl, fun j u hu => ?_⟩
  rw [add_none]
  rw [List.getElem?_map] at hu
  cases hj : xs[j]? with
  | none => rw [hj] at hu; cases hu
  | some e =>
    rw [hj] at hu
    have hlt := (List.getElem?_eq_some_iff.1 hj).1
    have h1 := hc j hlt
    simp only [hj, Option.getD_some] at h1
    simp only [Option.map_some, Option.some.injEq] at hu
    subst hu
    exact h1
theorem oneCell_cellsE (E : List (Int × Int)) : ∀ u ∈ cellsE E, u.oneCell' = true := by
  intro u hu
  unfold cellsE at hu
  obtain ⟨e, _, hu⟩ := List.mem_flatMap.1 hu
  simp at hu
  rcases hu with rfl | rfl <;> rfl
theorem oneCell_ints (xs : List Int) : ∀ u ∈ xs.map (Value.int .i64), u.oneCell' = true := by
  intro u hu
  obtain ⟨e, _, rfl⟩ := List.mem_map.1 hu
  rfl

section
variable {P : Program} (w : World)
/-- append onto an owned row (nil or not), from whatever source. -/
theorem run_append_src (base : Nat) (t ty e : TypeId) (i : TypeInfo) (z : Value) (size bytes : Nat) (ht : P.underlying t = some (.slice e)) (hi : P.info? e = some i) (hz : i.zero = some z)
    (hsize : i.size = size) (hby : i.bytes = bytes) (hzs : z.cells.size = size) (hsz : 0 < size)
    (v : Value) (n : Nat) (xs : List Value) (hown : w.ownsRow base e size v n xs) (A : Option Addr) (m c : Nat) (news : List Value) (hr : Cells w size A m news) (h1 : ∀ u ∈ news, u.oneCell' = true)
    (h63 : n + m ≤ maxLen) (hbytes : (n + m) * bytes ≤ 140737488355328) (hbase : base ≤ w.heap.size) :
    ∃ v' w', (Builtin.append_ #[t, t] ty #[v, .slice A m c]).run P w = .ok v' w' ∧ w'.ownsRow base e size v' (n + m) (xs ++ news) ∧ w.grownBy w' v.ownBlock ∧
      (v' = .slice none 0 0 ↔ v = .slice none 0 0 ∧ m = 0) ∧ (v'.ownBlock = v.ownBlock ∨ v'.ownBlock = some w.heap.size) := by
  rcases A with _ | ad
  · have hm : m = 0 := by
      rcases Nat.eq_zero_or_pos m with h0 | h0
      · exact h0
      · obtain ⟨ad, h, _⟩ := hr.2 h0
        cases h
    subst hm
    have hn : news = [] := List.eq_nil_of_length_eq_zero (by simpa using hr.1)
    subst hn
    refine ⟨v, w, ?_, by simpa using hown, ⟨rfl, rfl, rfl, Nat.le_refl _, fun _ _ _ => rfl⟩, by simp, .inl rfl⟩
    rcases hown.2 with ⟨rfl, rfl⟩ | ⟨g, cap, cur, rfl, _, _, hnc, _⟩
    · simp [Builtin.append_, run_underlying ht, sizeOf, typeInfo, hi, Builtin.lenOf, Builtin.firstCells]
    · simp [Builtin.append_, run_underlying ht, sizeOf, typeInfo, hi, Builtin.lenOf, Builtin.firstCells, hnc, storeCells]
  · have hcells : ∀ j u, news[j]? = some u → w.cell? (ad.add j) = some u := by
      intro j u hu
      rcases Nat.eq_zero_or_pos m with h0 | h0
      · subst h0
        have hn : news = [] := List.eq_nil_of_length_eq_zero (by simpa using hr.1)
        subst hn
        simp at hu
      · obtain ⟨ad', h, hc⟩ := hr.2 h0
        injection h with h
        subst h
        exact hc j u hu
    exact run_append_own_at (P := P) w base t ty e i z size bytes ht hi hz hsize hby hzs hsz v n xs hown ad m c news hr.1 hcells h1 h63 hbytes hbase
/-- .. at the operation: the row is not nil. -/
theorem wp_append_src {o : Oper} {a : Act} {K : Act → World → Prop} {Q : Exit → Act → World → Prop} (s x : Operand) (t : TypeId)
    (ho : o.op = .call { callee := .builtin .append, args := #[s, x], argTypes := #[t, t] })
    (base : Nat) (e : TypeId) (i : TypeInfo) (z : Value) (size bytes : Nat) (ht : P.underlying t = some (.slice e)) (hi : P.info? e = some i) (hz : i.zero = some z)
    (hsize : i.size = size) (hby : i.bytes = bytes) (hzs : z.cells.size = size) (hsz : 0 < size)
    (g n cap : Nat) (xs : List Value) (hs : a.eval s = .slice (some ⟨g, 0, none⟩) n cap) (hown : w.ownsRow base e size (.slice (some ⟨g, 0, none⟩) n cap) n xs)
    (A : Option Addr) (m c : Nat) (news : List Value) (hx : a.eval x = .slice A m c) (hr : Cells w size A m news) (h1 : ∀ u ∈ news, u.oneCell' = true)
    (h63 : n + m ≤ maxLen) (hbytes : (n + m) * bytes ≤ 140737488355328) (hbase : base ≤ w.heap.size)
    (h : ∀ g' cap' w', w'.ownsRow base e size (.slice (some ⟨g', 0, none⟩) (n + m) cap') (n + m) (xs ++ news) → w.grownBy w' (some g) → (g' = g ∨ g' = w.heap.size) → g' < w'.heap.size → K (a.put o.dst (.slice (some ⟨g', 0, none⟩) (n + m) cap')) w') :
    Oper.wp P o a w K Q := by
  obtain ⟨v', w', hrun, h2, h3, h4, h5⟩ := run_append_src (P := P) w base t o.type e i z size bytes ht hi hz hsize hby hzs hsz _ n xs hown A m c news hr h1 h63 hbytes hbase
  have hv : ∃ g' cap', v' = .slice (some ⟨g', 0, none⟩) (n + m) cap' := by
    rcases h2.2 with ⟨hv, _⟩ | ⟨g', cap', cur, hv, _⟩
    · have := h4.1 hv
      cases this.1
    · exact ⟨g', cap', hv⟩
  obtain ⟨g', cap', rfl⟩ := hv
  unfold Oper.wp execOp
  simp only [ho, resolve, invoke, builtin, Sem.run_bind, Sem.run_pure, Result.andThen_ok, List.map_toArray, List.map_cons, List.map_nil, hs, hx, hrun]
  refine h g' cap' w' h2 h3 ?_ (h2.lt g' rfl).2
  simpa [Value.ownBlock] using h5
/-- .. in a list of operations. -/
theorem wpList_append_src {ops : Array Oper} {rest : List Oper} {o : Oper} {a : Act} {Q : Exit → Act → World → Prop} (hgd : o.guard = none) (s x : Operand) (t : TypeId)
    (ho : o.op = .call { callee := .builtin .append, args := #[s, x], argTypes := #[t, t] })
    (base : Nat) (e : TypeId) (i : TypeInfo) (z : Value) (size bytes : Nat) (ht : P.underlying t = some (.slice e)) (hi : P.info? e = some i) (hz : i.zero = some z)
    (hsize : i.size = size) (hby : i.bytes = bytes) (hzs : z.cells.size = size) (hsz : 0 < size)
    (g n cap : Nat) (xs : List Value) (hs : a.eval s = .slice (some ⟨g, 0, none⟩) n cap) (hown : w.ownsRow base e size (.slice (some ⟨g, 0, none⟩) n cap) n xs)
    (A : Option Addr) (m c : Nat) (news : List Value) (hx : a.eval x = .slice A m c) (hr : Cells w size A m news) (h1 : ∀ u ∈ news, u.oneCell' = true)
    (h63 : n + m ≤ maxLen) (hbytes : (n + m) * bytes ≤ 140737488355328) (hbase : base ≤ w.heap.size)
    (h : ∀ g' cap' w', w'.ownsRow base e size (.slice (some ⟨g', 0, none⟩) (n + m) cap') (n + m) (xs ++ news) → w.grownBy w' (some g) → (g' = g ∨ g' = w.heap.size) → g' < w'.heap.size → wpList P ops Q rest (a.put o.dst (.slice (some ⟨g', 0, none⟩) (n + m) cap')) w') :
    wpList P ops Q (o :: rest) a w :=
  wpList_plain hgd fun _ hK => wp_append_src w s x t ho base e i z size bytes ht hi hz hsize hby hzs hsz g n cap xs hs hown A m c news hx hr h1 h63 hbytes hbase fun g' cap' w' a1 a2 a3 a4 => hK _ _ (h g' cap' w' a1 a2 a3 a4)
end
end Go.Proofs.Ytlpkolmaklnffaa
