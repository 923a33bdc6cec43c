/- The walk of the reference Meet. -/
import Derived.Test.YtgpfhdjedebdfaaIx2
import Derived.Test.YtgpfhdjedebdfaaHeld
import Derived.Maps.AppendAt
import Derived.Deep.CutRange
import Derived.Deep.AppendLies
namespace Go.Proofs.Ytgpfhdjedebdfaa
open Go.RowKit Go.MapKept

/-- The slice at A, of m elements of 'size' cells, reads as the cells xs. -/
def Cells (w : World) (size : Nat) (A : Option Addr) (m : Nat) (xs : List Value) : Prop :=
  xs.length = m * size ∧ (0 < m → ∃ ad, A = some ad ∧ ∀ j u, xs[j]? = some u → w.cell? (ad.add j) = some u)
theorem add_none (b off j : Nat) : (⟨b, off, none⟩ : Addr).add j = ⟨b, off + j, none⟩ := by unfold Addr.add; split <;> simp_all
theorem SlI.cells {w : World} {A : Option Addr} {xs : List Int} (h : SlI w A xs) : Cells w 1 A xs.length (xs.map (Value.int .i64)) := by
  refine ⟨by simp, fun hp => ?_⟩
  obtain ⟨b, off, rfl, hc⟩ := h hp
  refine ⟨_, rfl, fun j u hu => ?_⟩
  rw [add_none]
  rw [List.getElem?_map] at hu
  cases hj : xs[j]? with
  | none => rw [hj] at hu; cases hu
  | some e =>
    rw [hj] at hu
    have hlt := (List.getElem?_eq_some_iff.1 hj).1
    have h1 := hc j hlt
    simp only [hj, Option.getD_some] at h1
    simp only [Option.map_some, Option.some.injEq] at hu
    subst hu
    exact h1
theorem oneCell_ints (xs : List Int) : ∀ u ∈ xs.map (Value.int .i64), u.oneCell' = true := by
  intro u hu
  obtain ⟨e, _, rfl⟩ := List.mem_map.1 hu
  rfl

section
variable {P : Program} (w : World)
/-- append onto an owned row (nil or not), from whatever source. -/
theorem run_append_src (base : Nat) (t ty e : TypeId) (i : TypeInfo) (z : Value) (size bytes : Nat) (ht : P.underlying t = some (.slice e)) (hi : P.info? e = some i) (hz : i.zero = some z)
    (hsize : i.size = size) (hby : i.bytes = bytes) (hzs : z.cells.size = size) (hsz : 0 < size)
    (v : Value) (n : Nat) (xs : List Value) (hown : w.ownsRow base e size v n xs) (A : Option Addr) (m c : Nat) (news : List Value) (hr : Cells w size A m news) (h1 : ∀ u ∈ news, u.oneCell' = true)
    (h63 : n + m ≤ maxLen) (hbytes : (n + m) * bytes ≤ 140737488355328) (hbase : base ≤ w.heap.size) :
    ∃ v' w', (Builtin.append_ #[t, t] ty #[v, .slice A m c]).run P w = .ok v' w' ∧ w'.ownsRow base e size v' (n + m) (xs ++ news) ∧ w.grownBy w' v.ownBlock ∧
      (v' = .slice none 0 0 ↔ v = .slice none 0 0 ∧ m = 0) ∧ (v'.ownBlock = v.ownBlock ∨ v'.ownBlock = some w.heap.size) := by
  rcases A with _ | ad
  · have hm : m = 0 := by
      rcases Nat.eq_zero_or_pos m with h0 | h0
      · exact h0
      · obtain ⟨ad, h, _⟩ := hr.2 h0
        cases h
    subst hm
    have hn : news = [] := List.eq_nil_of_length_eq_zero (by simpa using hr.1)
    subst hn
    refine ⟨v, w, ?_, by simpa using hown, ⟨rfl, rfl, rfl, Nat.le_refl _, fun _ _ _ => rfl⟩, by simp, .inl rfl⟩
    rcases hown.2 with ⟨rfl, rfl⟩ | ⟨g, cap, cur, rfl, _, _, hnc, _⟩
    · simp [Builtin.append_, run_underlying ht, sizeOf, typeInfo, hi, Builtin.lenOf, Builtin.firstCells]
    · simp [Builtin.append_, run_underlying ht, sizeOf, typeInfo, hi, Builtin.lenOf, Builtin.firstCells, hnc, storeCells]
  · have hcells : ∀ j u, news[j]? = some u → w.cell? (ad.add j) = some u := by
      intro j u hu
      rcases Nat.eq_zero_or_pos m with h0 | h0
      · subst h0
        have hn : news = [] := List.eq_nil_of_length_eq_zero (by simpa using hr.1)
        subst hn
        simp at hu
      · obtain ⟨ad', h, hc⟩ := hr.2 h0
        injection h with h
        subst h
        exact hc j u hu
    exact run_append_own_at (P := P) w base t ty e i z size bytes ht hi hz hsize hby hzs hsz v n xs hown ad m c news hr.1 hcells h1 h63 hbytes hbase
/-- .. at the operation: the row is not nil. -/
theorem wp_append_src {o : Oper} {a : Act} {K : Act → World → Prop} {Q : Exit → Act → World → Prop} (s x : Operand) (t : TypeId)
    (ho : o.op = .call { callee := .builtin .append, args := #[s, x], argTypes := #[t, t] })
    (base : Nat) (e : TypeId) (i : TypeInfo) (z : Value) (size bytes : Nat) (ht : P.underlying t = some (.slice e)) (hi : P.info? e = some i) (hz : i.zero = some z)
    (hsize : i.size = size) (hby : i.bytes = bytes) (hzs : z.cells.size = size) (hsz : 0 < size)
    (g n cap : Nat) (xs : List Value) (hs : a.eval s = .slice (some ⟨g, 0, none⟩) n cap) (hown : w.ownsRow base e size (.slice (some ⟨g, 0, none⟩) n cap) n xs)
    (A : Option Addr) (m c : Nat) (news : List Value) (hx : a.eval x = .slice A m c) (hr : Cells w size A m news) (h1 : ∀ u ∈ news, u.oneCell' = true)
    (h63 : n + m ≤ maxLen) (hbytes : (n + m) * bytes ≤ 140737488355328) (hbase : base ≤ w.heap.size)
    (h : ∀ g' cap' w', w'.ownsRow base e size (.slice (some ⟨g', 0, none⟩) (n + m) cap') (n + m) (xs ++ news) → w.grownBy w' (some g) → (g' = g ∨ g' = w.heap.size) → g' < w'.heap.size → K (a.put o.dst (.slice (some ⟨g', 0, none⟩) (n + m) cap')) w') :
    Oper.wp P o a w K Q := by
  obtain ⟨v', w', hrun, h2, h3, h4, h5⟩ := run_append_src (P := P) w base t o.type e i z size bytes ht hi hz hsize hby hzs hsz _ n xs hown A m c news hr h1 h63 hbytes hbase
  have hv : ∃ g' cap', v' = .slice (some ⟨g', 0, none⟩) (n + m) cap' := by
    rcases h2.2 with ⟨hv, _⟩ | ⟨g', cap', cur, hv, _⟩
    · have := h4.1 hv
      cases this.1
    · exact ⟨g', cap', hv⟩
  obtain ⟨g', cap', rfl⟩ := hv
  unfold Oper.wp execOp
  simp only [ho, resolve, invoke, builtin, Sem.run_bind, Sem.run_pure, Result.andThen_ok, List.map_toArray, List.map_cons, List.map_nil, hs, hx, hrun]
  refine h g' cap' w' h2 h3 ?_ (h2.lt g' rfl).2
  simpa [Value.ownBlock] using h5
end

theorem info_intM : (Try.prog.info? 3).map (fun i => (i.zero, i.size, i.bytes)) = some (some (.int .i64 0), 1, 8) := by kernel_rfl
def offN (l : List (Int × Int)) (j : Nat) : Int := (l[j]?.getD (0, 0)).1
/-- The positions of those of the first k that meet e. -/
def posTo (l : List (Int × Int)) (e : Int × Int) (k : Nat) : List Nat := (List.range k).filter (fun i => meets (l[i]?.getD (0, 0)) e)
def IsMeet (l : List (Int × Int)) (e : Int × Int) (k : Nat) (xs : List Nat) : Prop := xs.Perm (posTo l e k) ∧ xs.Pairwise (fun a b => offN l a ≤ offN l b)
theorem IsMeet.lt {l : List (Int × Int)} {e : Int × Int} {k : Nat} {xs : List Nat} (h : IsMeet l e k xs) {x : Nat} (hx : x ∈ xs) : x < k := by
  have h1 := (h.1.mem_iff).1 hx
  unfold posTo at h1
  exact List.mem_range.1 (List.mem_filter.1 h1).1
theorem IsMeet.len {l : List (Int × Int)} {e : Int × Int} {k : Nat} {xs : List Nat} (h : IsMeet l e k xs) : xs.length ≤ k := by
  rw [h.1.length_eq]
  unfold posTo
  have := List.length_filter_le (fun i => meets (l[i]?.getD (0, 0)) e) (List.range k)
  simpa using this
theorem posTo_no {l : List (Int × Int)} {e : Int × Int} {k : Nat} (h : meets (l[k]?.getD (0, 0)) e = false) : posTo l e (k + 1) = posTo l e k := by
  unfold posTo
  rw [List.range_succ, List.filter_append]
  simp [h]
theorem posTo_yes {l : List (Int × Int)} {e : Int × Int} {k : Nat} (h : meets (l[k]?.getD (0, 0)) e = true) : posTo l e (k + 1) = posTo l e k ++ [k] := by
  unfold posTo
  rw [List.range_succ, List.filter_append]
  simp [h]
theorem IsMeet.step {l : List (Int × Int)} {e : Int × Int} {k m : Nat} {xs : List Nat} (h : IsMeet l e k xs) (hk : meets (l[k]?.getD (0, 0)) e = true) (hm : m ≤ xs.length)
    (hb : ∀ j x, m ≤ j → xs[j]? = some x → offN l k < offN l x) (ha : ∀ x, m ≠ 0 → xs[m - 1]? = some x → offN l x ≤ offN l k) : IsMeet l e (k + 1) (xs.take m ++ [k] ++ xs.drop m) := by
  refine ⟨?_, ?_⟩
  · rw [posTo_yes hk]
    have h1 : (xs.take m ++ [k] ++ xs.drop m).Perm ((xs.take m ++ xs.drop m) ++ [k]) := by
      rw [List.append_assoc, List.append_assoc]
      exact List.Perm.append_left _ List.perm_append_comm
    rw [List.take_append_drop] at h1
    exact h1.trans (h.1.append_right _)
  · have hp := h.2
    have hlow : ∀ x ∈ xs.take m, offN l x ≤ offN l k := fun x hx => by
      obtain ⟨j, hj⟩ := List.mem_iff_getElem?.1 hx
      have hjm : j < m := by have := (List.getElem?_eq_some_iff.1 hj).1; simp at this; omega
      rw [List.getElem?_take_of_lt hjm] at hj
      obtain ⟨y, hy⟩ : ∃ y, xs[m - 1]? = some y := ⟨_, List.getElem?_eq_getElem (by omega)⟩
      have hy2 := ha y (by omega) hy
      rcases Nat.lt_or_eq_of_le (show j ≤ m - 1 by omega) with hlt | heq
      · have := List.pairwise_iff_getElem.1 hp j (m - 1) (by omega) (by omega) hlt
        obtain ⟨_, e1⟩ := List.getElem?_eq_some_iff.1 hj
        obtain ⟨_, e2⟩ := List.getElem?_eq_some_iff.1 hy
        rw [e1, e2] at this
        omega
      · subst heq
        rw [hj] at hy
        cases hy
        exact hy2
    have hhigh : ∀ x ∈ xs.drop m, offN l k < offN l x := fun x hx => by
      obtain ⟨j, hj⟩ := List.mem_iff_getElem?.1 hx
      rw [List.getElem?_drop] at hj
      exact hb (m + j) x (by omega) hj
    rw [← List.take_append_drop m xs, List.pairwise_append] at hp
    rw [List.append_assoc, List.pairwise_append]
    refine ⟨hp.1, ?_, fun a hx b hb' => ?_⟩
    · rw [List.singleton_append, List.pairwise_cons]
      exact ⟨fun b hb' => Int.le_of_lt (hhigh b hb'), hp.2.1⟩
    · rw [List.singleton_append] at hb'
      rcases List.mem_cons.1 hb' with rfl | hb'
      · exact hlow a hx
      · exact hp.2.2 a hx b hb'
abbrev nV (j : Nat) : Value := .int .i64 (j : Int)
theorem own_form1 {w : World} {base e size n : Nat} {v : Value} {xs : List Value} (h : w.ownsRow base e size v n xs) : ∃ A c, v = .slice A n c ∧ n ≤ c := by
  rcases h.2 with ⟨rfl, rfl⟩ | ⟨g, cap, cur, rfl, _, _, hnc, _⟩
  · exact ⟨none, 0, rfl, Nat.le_refl _⟩
  · exact ⟨_, _, rfl, hnc⟩
theorem own_cellI {w : World} {base e n c : Nat} {A : Option Addr} {xs : List Value} (h : w.ownsRow base e 1 (.slice A n c) n xs) : Cells w 1 A n xs := by
  refine ⟨by have := h.1; omega, fun hp => ?_⟩
  rcases h.2 with ⟨hv, h0⟩ | ⟨g, cap, cur, hv, hb, hg, hnc, hcm, hcs, ht⟩
  · have := h.1; subst h0; simp at this; omega
  · injection hv with h1 h2 h3
    subst h1
    exact ⟨_, rfl, fun j u hu => h.cells (g := g) rfl j u hu⟩
theorem Cells.keep {F : Nat → Prop} {w w' : World} {A : Option Addr} {m : Nat} {xs : List Value} (h : Cells w 1 A m xs) (k : Only F w w') (hn : ∀ b off, A = some ⟨b, off, none⟩ → ¬ F b) (hs : ∀ ad, A = some ad → ad.spot = none) : Cells w' 1 A m xs :=
  ⟨h.1, fun hp => by
    obtain ⟨ad, rfl, hc⟩ := h.2 hp
    obtain ⟨b, off, sp⟩ := ad
    have hsp : sp = none := hs _ rfl
    subst hsp
    refine ⟨_, rfl, fun j u hu => k.cell (hc j u hu) ?_⟩
    rw [add_none]
    exact hn b off rfl⟩
theorem own_empty {w : World} {g e size : Nat} (h : w.heap[g]? = some (.cells #[] e (0, 0))) : w.ownsRow 0 e size (.slice (some ⟨g, 0, none⟩) 0 0) 0 [] :=
  ⟨by simp, .inr ⟨g, 0, #[], rfl, Nat.zero_le _, h, Nat.le_refl _, by simp [maxLen], by simp, by simp⟩⟩
theorem heap_new2 (w : World) (o o' : Obj) : ((w.alloc o).alloc o').heap[w.heap.size]? = some o := (Below.heap_alloc _ _ _ (by simp)).trans (heap_alloc_new _ _)
theorem heap_new2' (w : World) (o o' : Obj) : ((w.alloc o).alloc o').heap[w.heap.size + 1]? = some o' := by
  have := heap_alloc_new (w.alloc o) o'
  rwa [World.size_alloc] at this
abbrev Fresh (w w' : World) : Prop := Only (fun i => w.heap.size ≤ i) w w'
theorem Fresh.grown {w W w1 : World} {X : Nat} (h : Fresh w W) (hg : W.grownBy w1 (some X)) (hX : w.heap.size ≤ X) : Fresh w w1 :=
  h.trans (Only.of_grownBy (F := fun i => w.heap.size ≤ i) hg (fun i e => by cases e; exact .inl hX)) (fun _ _ h => h)
theorem Fresh.grew {w w' : World} (h : Fresh w w') : Grew w w' := ⟨h.os, h.tape, h.output, h.size, fun k hk _ => h.block k hk (by omega)⟩
theorem own_base0 {w : World} {base base' e size g n c : Nat} {m : Nat} {xs : List Value} (h : w.ownsRow base e size (.slice (some ⟨g, 0, none⟩) n c) m xs) (hb : base' ≤ g) : w.ownsRow base' e size (.slice (some ⟨g, 0, none⟩) n c) m xs := by
  refine ⟨h.1, ?_⟩
  rcases h.2 with ⟨hv, _⟩ | ⟨g', cap, cur, hv, _, r⟩
  · cases hv
  · cases hv
    exact .inr ⟨_, _, _, rfl, hb, r⟩
/-- Both windows on an own row of ints. -/
theorem own_windows {w : World} {base e n c m : Nat} {A : Option Addr} {xs : List Nat} (h : w.ownsRow base e 1 (.slice A n c) n (xs.map nV)) (hm : m ≤ n) :
    n = xs.length ∧ (∀ w', Grew w w' → Cells w' 1 A m ((xs.take m).map nV)) ∧ ∀ w', Grew w w' → Cells w' 1 (if c = m then A else A.map (·.add (m * 1))) (n - m) ((xs.drop m).map nV) := by
  have hn : n = xs.length := by have := h.1; simp at this; omega
  refine ⟨hn, fun w' hw => ?_, fun w' hw => ?_⟩
  · refine ⟨by simp; omega, fun hp => ?_⟩
    rcases h.2 with ⟨hv, h0⟩ | ⟨g, cap, cur, hv, hb, hg, hnc, hcm, hcs, ht⟩
    · omega
    · injection hv with h1 h2 h3
      subst h1
      refine ⟨_, rfl, fun j u hu => ?_⟩
      rw [List.getElem?_map] at hu
      have hj : j < m := by
        rcases Nat.lt_or_ge j m with h' | h'
        · exact h'
        · rw [List.getElem?_eq_none (by simp; omega)] at hu; cases hu
      rw [List.getElem?_take_of_lt hj, ← List.getElem?_map] at hu
      have hc := h.cells (g := g) rfl j u hu
      rw [add_none] at hc ⊢
      exact hw.cell hc (fun h => h)
  · refine ⟨by simp; omega, fun hp => ?_⟩
    rcases h.2 with ⟨hv, h0⟩ | ⟨g, cap, cur, hv, hb, hg, hnc, hcm, hcs, ht⟩
    · omega
    · injection hv with h1 h2 h3
      subst h1
      have hcm' : c ≠ m := by omega
      rw [if_neg hcm']
      refine ⟨_, rfl, fun j u hu => ?_⟩
      rw [List.getElem?_map, List.getElem?_drop, ← List.getElem?_map] at hu
      have hc := h.cells (g := g) rfl (m + j) u hu
      rw [add_none] at hc
      rw [Nat.mul_one]
      show w'.cell? (((⟨g, 0, none⟩ : Addr).add m).add j) = some u
      rw [add_none, add_none]
      have hw' := hw.cell hc (fun h => h)
      simpa [Nat.add_assoc] using hw'
theorem oneCell_nV (xs : List Nat) : ∀ u ∈ xs.map nV, u.oneCell' = true := by
  intro u hu
  obtain ⟨e, _, rfl⟩ := List.mem_map.1 hu
  rfl
theorem own_meet {w : World} {e g n c m k base : Nat} {xs : List Nat} (h : w.ownsRow 0 e 1 (.slice (some ⟨g, 0, none⟩) n c) n ((xs.take m).map nV ++ [k].map nV ++ (xs.drop m).map nV)) (hm : m ≤ xs.length) (hb : base ≤ g) :
    n = xs.length + 1 ∧ w.ownsRow base e 1 (.slice (some ⟨g, 0, none⟩) (xs.length + 1) c) (xs.length + 1) ((xs.take m ++ [k] ++ xs.drop m).map nV) := by
  have hn : n = xs.length + 1 := by have := h.1; simp at this; omega
  subst hn
  refine ⟨rfl, ?_⟩
  rw [List.map_append, List.map_append]
  exact own_base0 h hb
theorem own_keep1 {w w' : World} {base e size : Nat} {v : Value} {m : Nat} {xs : List Value} (h : w.ownsRow base e size v m xs) (k : Grew w w') : w'.ownsRow base e size v m xs := by
  refine ⟨h.1, ?_⟩
  rcases h.2 with h2 | ⟨g, cap, cur, rfl, hb, hh, r⟩
  · exact .inl h2
  · exact .inr ⟨g, cap, cur, rfl, hb, k.heap hh (fun h => h), r⟩
theorem own_baseM {w : World} {base base' e size : Nat} {v : Value} {m : Nat} {xs : List Value} (h : w.ownsRow base e size v m xs) (hb : base' ≤ base) : w.ownsRow base' e size v m xs := by
  refine ⟨h.1, ?_⟩
  rcases h.2 with h2 | ⟨g, cap, cur, rfl, hg, hh, r⟩
  · exact .inl h2
  · exact .inr ⟨g, cap, cur, rfl, Nat.le_trans hb hg, hh, r⟩
set_option maxRecDepth 100000 in
set_option maxHeartbeats 4000000 in
theorem rmeet_at (A : Option Addr) (cp : Nat) (l : List (Int × Int)) (c d : Int) (w : World) (hl : SlE w A l) (hv : ∀ e ∈ l, VE e) (hV : VE (c, d)) (hll : l.length ≤ 1048576) :
    Calls Try.prog 17 #[.slice A l.length cp, .agg #[.int .i64 c, .int .i64 d]] w fun e w' => ∃ (v : Value) (xs : List Nat), e = .returned v ∧ IsMeet l (c, d) l.length xs ∧ w'.ownsRow w.heap.size 3 1 v xs.length (xs.map nV) ∧ Grew w w' := by
  obtain ⟨i0, hi0, hz0, hz1, hz2⟩ := info_parts info_intM
  have HI := hid (And.intro hi0 (And.intro hz0 (And.intro hz1 hz2)))
  have HP := hid (And.intro hl (And.intro hv hV))
  have HW : Hid (Grew w (w.alloc (.cells #[.int .i64 c, .int .i64 d] 28)) ∧ (w.alloc (.cells #[.int .i64 c, .int .i64 d] 28)).cell? ⟨w.heap.size, 0, none⟩ = some (.int .i64 c) ∧ (w.alloc (.cells #[.int .i64 c, .int .i64 d] 28)).cell? ⟨w.heap.size, 1, none⟩ = some (.int .i64 d)) := hid ⟨Only.alloc _ _, cells2 _ _ _ _⟩
  have HWS : Hid (w.heap.size ≤ (w.alloc (.cells #[.int .i64 c, .int .i64 d] 28)).heap.size) := hid (by simp)
  clear hl hv hV hi0 hz0 hz1 hz2
  go_enter Try.func17, Try.ntmps17
  go_wp2_with fail
  generalize w.alloc (.cells #[.int .i64 c, .int .i64 d] 28) = W0 at *
  go_loopw [5, 6] (fun ov i wr => ∃ (k : Nat) (xs : List Nat), k ≤ l.length ∧ i = .int .i64 k ∧ Hid (IsMeet l (c, d) k xs) ∧ wr.ownsRow W0.heap.size 3 1 ov xs.length (xs.map nV) ∧ Grew W0 wr) (fun _ i _ => l.length - (intOf i).toNat)
  case atStart => exact ⟨0, [], Nat.zero_le _, rfl, hid ⟨List.Perm.refl _, List.Pairwise.nil⟩, World.ownsRow_nil _ _ _ _, Only.refl _ _⟩
  case round =>
    obtain ⟨k, xs, hk, rfl, hM, hrow, hO⟩ := hrel
    have HO := hid hO
    clear hO
    obtain ⟨A2, c2, rfl, hnc⟩ := own_form1 hrow
    have HRow := hid hrow
    have hxl : xs.length ≤ k := hM.out.len
    clear hrow
    by_cases hlt : k < l.length
    · have hb0 : (k : Int) < (l.length : Int) := by omega
      obtain ⟨bl, o, rfl, hcell⟩ := ((HP.out.1.grew HW.out.1).grew HO.out) (by omega)
      have HC0 := hid hcell
      obtain ⟨c1, q2⟩ := hcell k hlt
      obtain ⟨x, hx⟩ : ∃ x, l[k]? = some x := ⟨_, List.getElem?_eq_getElem hlt⟩
      simp only [hx, Option.getD_some] at c1 q2
      have HX := hid hx
      have HV := hid (HP.out.2.1 x (List.mem_of_getElem? hx))
      obtain ⟨a, b⟩ := x
      simp only at c1 q2
      obtain ⟨o1, o2, hov⟩ : ∃ o1 o2 : Int, ovl (a, b) (c, d) = (o1, o2) := ⟨_, _, rfl⟩
      have HC : Hid (∀ W, Calls Try.prog 29 #[.agg #[.int .i64 a, .int .i64 b], .agg #[.int .i64 c, .int .i64 d]] W fun e w' => e = .returned (.agg #[.int .i64 o1, .int .i64 o2]) ∧ Grew W w') := hid (fun W => by
        have h := roverlap_at a b c d W HV.out HP.out.2.2
        rw [hov] at h
        exact h)
      have HS : Hid (∀ w', Grew wr w' → w'.cell? ⟨w.heap.size, 0, none⟩ = some (.int .i64 c) ∧ w'.cell? ⟨w.heap.size, 1, none⟩ = some (.int .i64 d) ∧ w'.cell? ⟨bl, o + k * 2, none⟩ = some (.int .i64 a) ∧ w'.cell? ⟨bl, o + k * 2 + 1, none⟩ = some (.int .i64 b)) :=
        hid (fun w' h => ⟨(Grew.trans HO.out h).cell HW.out.2.1 (fun h => h), (Grew.trans HO.out h).cell HW.out.2.2 (fun h => h), h.cell c1 (fun h => h), h.cell q2 (fun h => h)⟩)
      have hfd : ∀ w : World, (Instr.field 28 (.agg #[.int .i64 o1, .int .i64 o2]) 1).run Try.prog w = .ok (.int .i64 o2) w := fun _ => by kernel_rfl
      obtain ⟨r, hr⟩ : ∃ r : Bool, meets (a, b) (c, d) = r := ⟨_, rfl⟩
      have HR : Hid (meets (l[k]?.getD (0, 0)) (c, d) = r) := hid (by rw [hx]; exact hr)
      have HOff : Hid (offN l k = a) := hid (by unfold offN; rw [hx]; rfl)
      have hz : (o2 == 0) = !r := by
        cases r with
        | true =>
          rw [ovl_yes hr] at hov
          have e2 := congrArg Prod.snd hov
          simp only at e2
          have h3 := of_decide_eq_true hr
          simp only at h3
          have : ¬ o2 = 0 := by omega
          simpa using this
        | false =>
          rw [ovl_no hr] at hov
          have e2 := congrArg Prod.snd hov
          simp only at e2
          simp [← e2]
      clear hcell hx hr hov c1 q2
      cases r with
      | false =>
        simp only [Bool.not_false] at hz
        go_wp2_with fail
        go_region_held3 (fun w' => w'.cell? ⟨w.heap.size, 0, none⟩ = some (.int .i64 c) ∧ w'.cell? ⟨w.heap.size, 1, none⟩ = some (.int .i64 d) ∧ w'.cell? ⟨bl, o + k * 2, none⟩ = some (.int .i64 a) ∧ w'.cell? ⟨bl, o + k * 2 + 1, none⟩ = some (.int .i64 b))
          (first
            | exact HS.out _ (Only.drew _)
            | exact HS.out _ ha)
          (first
            | (go_at_call 29; refine (HC.out _).mono ?_; rintro e wa ⟨rfl, ha0⟩; have ha : Grew wr wa := Grew.trans (Only.drew _) ha0))
        all_goals
          go_wp2
          go_roundw
          case rel => exact ⟨k + 1, xs, by omega, by go_num, hid ⟨by rw [posTo_no HR.out]; exact hM.out.1, hM.out.2⟩, own_keep1 HRow.out ha, Grew.trans HO.out ha⟩
          case measure => simp [intOf]; omega
      | true =>
        simp only [Bool.not_true] at hz
        go_wp2_with fail
        go_cut [21] from 14 to 21 (fun s wx => s = .bool false ∧ Grew wr wx)
        case first =>
          go_region_held3 (fun w' => w'.cell? ⟨w.heap.size, 0, none⟩ = some (.int .i64 c) ∧ w'.cell? ⟨w.heap.size, 1, none⟩ = some (.int .i64 d) ∧ w'.cell? ⟨bl, o + k * 2, none⟩ = some (.int .i64 a) ∧ w'.cell? ⟨bl, o + k * 2 + 1, none⟩ = some (.int .i64 b))
            (first
              | exact HS.out _ (Only.drew _)
              | exact HS.out _ ha)
            (first
              | (go_at_call 29; refine (HC.out _).mono ?_; rintro e wa ⟨rfl, ha0⟩; have ha : Grew wr wa := Grew.trans (Only.drew _) ha0))
          all_goals
            go_wp2_with fail
            go_meet
            exact ⟨rfl, ha⟩
        case rest =>
          obtain ⟨rfl, ha⟩ := hcut
          clear hz hfd HS HC
          obtain ⟨wa, rfl⟩ : ∃ wa : World, wa = wc := ⟨_, rfl⟩
          have HRa := hid (own_keep1 HRow.out ha)
          have HOa := hid (Grew.trans HO.out ha)
          have HCa : Hid (∀ j, j < l.length → wa.cell? ⟨bl, o + j * 2, none⟩ = some (.int .i64 (offN l j))) := hid (fun j hj => ha.cell (HC0.out j hj).1 (fun h => h))
          clear ha HRow HO HC0
          go_wp2_with fail
          obtain ⟨wo, rfl⟩ : ∃ wo : World, wo = wr := ⟨_, rfl⟩
          go_loopw [7] (fun av wr => ∃ (m : Nat), m ≤ xs.length ∧ av = .int .i64 m ∧ Hid (∀ j x, m ≤ j → xs[j]? = some x → offN l k < offN l x) ∧ Grew wa wr) (fun av _ => (intOf av).toNat)
          case atStart => exact ⟨xs.length, Nat.le_refl _, rfl, hid (fun j x h1 h2 => by rw [List.getElem?_eq_none h1] at h2; cases h2), Only.refl _ _⟩
          case round =>
            obtain ⟨m, hm, rfl, hT, hOm⟩ := hrel
            have HOm := hid hOm
            clear hOm
            go_wp2_with fail
            go_cut [42] from 24 to 42 (fun s wx => ∃ r : Bool, s = .bool r ∧ Hid (r = true → m ≠ 0 ∧ ∀ x, xs[m - 1]? = some x → offN l k < offN l x) ∧ Hid (r = false → ∀ x, m ≠ 0 → xs[m - 1]? = some x → offN l x ≤ offN l k) ∧ Grew wr wx)
            case first =>
              by_cases hm0 : m = 0
              · subst hm0
                go_quiet (fail)
                go_wp2_with fail
                go_meet
                exact ⟨false, rfl, hid (fun h => by cases h), hid (fun _ x h => absurd rfl h), Only.drewN _ _⟩
              · obtain ⟨x, hx⟩ : ∃ x, xs[m - 1]? = some x := ⟨_, List.getElem?_eq_getElem (by omega)⟩
                have hxk : x < k := hM.out.lt (List.mem_of_getElem? hx)
                have hxl2 : (x : Int) < (l.length : Int) := by omega
                have g1 := HOm.out.cell (HCa.out x (by omega)) (fun h => h)
                have g2 := HOm.out.cell (HCa.out k hlt) (fun h => h)
                rw [HOff.out] at g2
                have hrow := own_keep1 HRa.out HOm.out
                obtain ⟨ad, rfl, g3⟩ := (own_cellI hrow).2 (by omega)
                have g4 := g3 (m - 1) (nV x) (by rw [List.getElem?_map, hx]; rfl)
                have hsub : IntKind.i64.wrap ((m : Int) - 1) = ((m - 1 : Nat) : Int) := by
                  rw [show (m : Int) - 1 = ((m - 1 : Nat) : Int) by omega]
                  exact IntWalk.i64_in _ (by omega)
                have hm1 : decide (0 < m) = true := by simp; omega
                have hm2 : (0 : Int) < (m : Int) := by omega
                obtain ⟨r, hr⟩ : ∃ r : Bool, decide (a < offN l x) = r := ⟨_, rfl⟩
                have HRR := hid hr
                have HXX := hid hx
                have hm3 : ((m - 1 : Nat) : Int) < (xs.length : Int) := by omega
                clear hx hrow g3 hm
                go_quiet (fail)
                go_wp2_with fail
                go_meet
                exact ⟨r, rfl, hid (fun h => ⟨hm0, fun y hy => by rw [HXX.out] at hy; cases hy; subst h; have := of_decide_eq_true HRR.out; rw [HOff.out]; exact this⟩), hid (fun h y _ hy => by rw [HXX.out] at hy; cases hy; subst h; have := of_decide_eq_false HRR.out; rw [HOff.out]; omega), Only.drewN _ _⟩
            case rest =>
              obtain ⟨r, rfl, HT, HFa, hgc⟩ := hcut
              have HGc := hid (Grew.trans HOm.out hgc)
              clear hgc HOm
              cases r with
              | true =>
                have hsub : IntKind.i64.wrap ((m : Int) - 1) = ((m - 1 : Nat) : Int) := by
                  have := (HT.out rfl).1
                  rw [show (m : Int) - 1 = ((m - 1 : Nat) : Int) by omega]
                  exact IntWalk.i64_in _ (by omega)
                have hmp : 0 < m := by have := (HT.out rfl).1; omega
                go_wp2
                go_roundw
                case rel =>
                  refine ⟨m - 1, by omega, by first | rfl | (rw [hsub]), hid (fun j x hj hx => ?_), HGc.out⟩
                  rcases Nat.lt_or_ge j m with h | h
                  · obtain rfl : j = m - 1 := by omega
                    exact (HT.out rfl).2 x hx
                  · exact hT.out j x h hx
                case measure => simp [intOf]; omega
              | false =>
                obtain ⟨hnn, hw1, hw2⟩ := own_windows (own_keep1 HRa.out HGc.out) hm
                clear hnn
                have HSL := hid (And.intro hw1 hw2)
                have HSt := hid (hM.out.step HR.out hm hT.out (fun x h1 h2 => HFa.out rfl x h1 h2))
                have hb3 : W0.heap.size ≤ wc.heap.size := by have := (Grew.trans HOa.out HGc.out).size; exact this
                have hs3 : (if c2 = 0 then A2 else A2.map (·.add 0)) = A2 := by cases A2 <;> simp [Addr.add]
                generalize hA3 : (if c2 = m then A2 else A2.map (·.add (m * 1))) = A3 at *
                have HA3 := hid hA3
                clear hw1 hw2 hA3
                go_wp2_with fail
                obtain ⟨hi0, hz0, hz1, hz2⟩ := HI.out
                have hln : xs.length - m + m = xs.length := by omega
                have hl9 : (xs.take m ++ [k] ++ xs.drop m).length = xs.length + 1 := by simp; omega
                have HL9 := hid hl9
                clear hl9
                refine wp_region_G (by kernel_rfl) 12 (fun _ => True) trivial (fun hHeld => ?_)
                refine wpAnyG_take (i := 1) (v := ?_) rfl (by kernel_rfl) (by kernel_rfl) (by kernel_rfl) (by kernel_rfl) (fun _ _ _ h => h) (Or.inl ⟨by rfl, ?_⟩) hHeld ?_
                rotate_left
                focus (intro wz _; go_simp; try with_reducible rfl)
                refine wpAnyG_take (i := 2) (v := ?_) rfl (by kernel_rfl) (by kernel_rfl) (by kernel_rfl) (by kernel_rfl) (fun _ _ _ h => h) (Or.inl ⟨by rfl, ?_⟩) hHeld ?_
                rotate_left
                focus (intro wz _; go_simp; try with_reducible rfl)
                refine wpAnyG_take (i := 3) (v := .slice A2 m c2) rfl (by kernel_rfl) (by kernel_rfl) (by kernel_rfl) (by kernel_rfl) (fun _ _ _ h => h) (Or.inl ⟨by rfl, ?_⟩) hHeld ?_
                focus (intro wz _; go_simp; exact fun h => absurd h (by omega))
                refine wpAnyG_take (i := 5) (v := ?_) rfl (by kernel_rfl) (by kernel_rfl) (by kernel_rfl) (by kernel_rfl) (fun _ _ _ h => h) (Or.inl ⟨by rfl, ?_⟩) hHeld ?_
                rotate_left
                focus (intro wz _; go_simp; try with_reducible rfl)
                refine wpAnyG_take (i := 8) (v := ?_) rfl (by kernel_rfl) (by kernel_rfl) (by kernel_rfl) (by kernel_rfl) (fun _ _ _ h => h) (Or.inl ⟨by rfl, ?_⟩) hHeld ?_
                rotate_left
                focus (intro wz _; go_simp; try with_reducible rfl)
                refine wpAnyG_take (i := 9) (v := ?_) rfl (by kernel_rfl) (by kernel_rfl) (by kernel_rfl) (by kernel_rfl) (fun _ _ _ h => h) (Or.inl ⟨by rfl, ?_⟩) hHeld ?_
                rotate_left
                focus (intro wz _; go_simp; try with_reducible rfl)
                refine wpAnyG_take (i := 10) (v := .slice A3 (xs.length - m) (c2 - m)) rfl (by kernel_rfl) (by kernel_rfl) (by kernel_rfl) (by kernel_rfl) (fun _ _ _ h => h) (Or.inl ⟨by rfl, ?_⟩) hHeld ?_
                focus (intro wz _; go_simp; rw [← HA3.out, Nat.mul_one])
                clear hHeld
                refine wpAnyG_ready (rs := [0, 6]) (by kernel_rfl) (by simp) ?_
                refine AllReadyG.cons rfl (by rfl) (fun K hK => ?_) ?_
                · go_simp
                  refine hK.out _ _ (fun _ => trivial) ?_
                  clear hK K
                  refine wpAnyG_ready (rs := [4, 6]) (by kernel_rfl) (by simp) ?_
                  refine AllReadyG.cons rfl (by rfl) (fun K hK => ?_) ?_
                  · refine wp_append_src _ (.tmp 45) (.tmp 48) 34 (by rfl) 0 3 i0 _ 1 8 Try.underlying34 hi0 hz0 hz1 hz2 rfl (by omega) _ _ _ _ rfl (own_empty (heap_alloc_new _ _)) _ m _ ((xs.take m).map nV) rfl (HSL.out.1 _ (Grew.trans (Only.drew _) (Only.alloc _ _))) (oneCell_nV _) (by unfold maxLen; omega) (by omega) (by simp) ?_
                    intro g1 cap1 w1 hown1 hgrow1 hat1 hlt1
                    simp only [Nat.zero_add, List.nil_append] at hown1 ⊢
                    have HQ1 : Hid (Fresh wc w1) := hid (Fresh.grown (Only.trans (Only.drew _) (Only.alloc _ _) (fun _ _ h => h)) hgrow1 (by simp))
                    have hsz1 := HQ1.out.size
                    have hX1 : wc.heap.size ≤ g1 := by rcases hat1 with h | h <;> first | omega | (simp at h; omega)
                    refine hK.out _ _ (fun _ => trivial) ?_
                    clear hK K
                    refine wpAnyG_ready (rs := [6]) (by kernel_rfl) (by simp) ?_
                    refine AllReadyG.cons rfl (by rfl) (fun K hK => ?_) ?_
                    rotate_left
                    exact AllReadyG.nil
                    go_simp
                    refine hK.out _ _ (fun _ => trivial) ?_
                    clear hK K
                    refine wpAnyG_ready (rs := [7]) (by kernel_rfl) (by simp) ?_
                    refine AllReadyG.cons rfl (by rfl) (fun K hK => ?_) ?_
                    rotate_left
                    exact AllReadyG.nil
                    refine wp_append_src _ (.tmp 49) (.tmp 51) 34 (by rfl) 0 3 i0 _ 1 8 Try.underlying34 hi0 hz0 hz1 hz2 rfl (by omega) _ _ _ _ rfl (own_keep1 hown1 (Only.alloc _ _)) _ 1 _ ([k].map nV) rfl (⟨rfl, fun _ => ⟨_, rfl, World.news_of_block (cs := #[nV k]) (t := 3) (fr := (0, 0)) (heap_alloc_new _ _)⟩⟩) (oneCell_nV _) (by unfold maxLen; omega) (by omega) (by simp) ?_
                    intro g2 cap2 w2 hown2 hgrow2 hat2 hlt2
                    have HQ2 : Hid (Fresh wc w2) := hid (Fresh.grown (HQ1.out.trans (Only.alloc _ _) (fun _ _ h => h)) hgrow2 (hX1))
                    have hsz2 := HQ2.out.size
                    have hX2 : wc.heap.size ≤ g2 := by rcases hat2 with h | h <;> first | omega | (simp at h; omega)
                    refine hK.out _ _ (fun _ => trivial) ?_
                    clear hK K
                    refine wpAnyG_ready (rs := [11]) (by kernel_rfl) (by simp) ?_
                    refine AllReadyG.cons rfl (by rfl) (fun K hK => ?_) ?_
                    rotate_left
                    exact AllReadyG.nil
                    refine wp_append_src _ (.tmp 52) (.tmp 55) 34 (by rfl) 0 3 i0 _ 1 8 Try.underlying34 hi0 hz0 hz1 hz2 rfl (by omega) _ _ _ _ rfl (hown2) _ (xs.length - m) _ ((xs.drop m).map nV) rfl (HSL.out.2 _ HQ2.out.grew) (oneCell_nV _) (by unfold maxLen; omega) (by omega) (by simp) ?_
                    intro g3 cap3 w3 hown3 hgrow3 hat3 hlt3
                    have HQ3 : Hid (Fresh wc w3) := hid (Fresh.grown (HQ2.out) hgrow3 (hX2))
                    have hsz3 := HQ3.out.size
                    have hX3 : wc.heap.size ≤ g3 := by rcases hat3 with h | h <;> first | omega | (simp at h; omega)
                    refine hK.out _ _ (fun _ => trivial) ?_
                    clear hK K
                    refine wpAnyG_ready (rs := [12]) (by kernel_rfl) (by simp) ?_
                    refine AllReadyG.cons rfl (by rfl) (fun K hK => ?_) ?_
                    rotate_left
                    exact AllReadyG.nil
                    go_simp
                    refine hK.out _ _ (fun h => absurd rfl h) ?_
                    clear hK K
                    refine wpAnyG_done (by kernel_rfl) ?_ _
                    have hfin := own_meet hown3 (by omega) (show W0.heap.size ≤ g3 by omega)
                    obtain ⟨hl3, hfin⟩ := hfin
                    have HF9 := hid (And.intro hfin (Grew.trans (Grew.trans HOa.out HGc.out) HQ3.out.grew))
                    clear hown1 hown2 hown3 hgrow1 hgrow2 hgrow3 hat1 hat2 hat3 hlt1 hlt2 hlt3 hfin
                    rw [hl3]
                    clear hl3
                    go_wp2
                    go_roundw
                    case rel => exact ⟨k + 1, xs.take m ++ [k] ++ xs.drop m, by omega, by go_num, HSt, by rw [HL9.out]; exact HF9.out.1, HF9.out.2⟩
                    case measure => simp [intOf]; omega
                  · refine AllReadyG.cons rfl (by rfl) (fun K hK => ?_) ?_
                    rotate_left
                    exact AllReadyG.nil
                    go_simp
                    refine hK.out _ _ (fun _ => trivial) ?_
                    clear hK K
                    refine wpAnyG_ready (rs := [4]) (by kernel_rfl) (by simp) ?_
                    refine AllReadyG.cons rfl (by rfl) (fun K hK => ?_) ?_
                    rotate_left
                    exact AllReadyG.nil
                    refine wp_append_src _ (.tmp 45) (.tmp 48) 34 (by rfl) 0 3 i0 _ 1 8 Try.underlying34 hi0 hz0 hz1 hz2 rfl (by omega) _ _ _ _ rfl (own_empty (heap_new2 _ _ _)) _ m _ ((xs.take m).map nV) rfl (HSL.out.1 _ (Grew.trans (Only.drew _) (Grew.trans (Only.alloc _ _) (Only.alloc _ _)))) (oneCell_nV _) (by unfold maxLen; omega) (by omega) (by simp) ?_
                    intro g1 cap1 w1 hown1 hgrow1 hat1 hlt1
                    simp only [Nat.zero_add, List.nil_append] at hown1 ⊢
                    have HQ1 : Hid (Fresh wc w1) := hid (Fresh.grown (Only.trans (Only.drew _) (Only.trans (Only.alloc _ _) (Only.alloc _ _) (fun _ _ h => h)) (fun _ _ h => h)) hgrow1 (by simp))
                    have hsz1 := HQ1.out.size
                    have hX1 : wc.heap.size ≤ g1 := by rcases hat1 with h | h <;> first | omega | (simp at h; omega)
                    refine hK.out _ _ (fun _ => trivial) ?_
                    clear hK K
                    refine wpAnyG_ready (rs := [7]) (by kernel_rfl) (by simp) ?_
                    refine AllReadyG.cons rfl (by rfl) (fun K hK => ?_) ?_
                    rotate_left
                    exact AllReadyG.nil
                    refine wp_append_src _ (.tmp 49) (.tmp 51) 34 (by rfl) 0 3 i0 _ 1 8 Try.underlying34 hi0 hz0 hz1 hz2 rfl (by omega) _ _ _ _ rfl (hown1) _ 1 _ ([k].map nV) rfl (⟨rfl, fun _ => ⟨_, rfl, World.news_of_block (cs := #[nV k]) (t := 3) (fr := (0, 0)) ((hgrow1.block _ (by simp) (by simp)).trans (heap_new2' _ _ _))⟩⟩) (oneCell_nV _) (by unfold maxLen; omega) (by omega) (by simp) ?_
                    intro g2 cap2 w2 hown2 hgrow2 hat2 hlt2
                    have HQ2 : Hid (Fresh wc w2) := hid (Fresh.grown (HQ1.out) hgrow2 (hX1))
                    have hsz2 := HQ2.out.size
                    have hX2 : wc.heap.size ≤ g2 := by rcases hat2 with h | h <;> first | omega | (simp at h; omega)
                    refine hK.out _ _ (fun _ => trivial) ?_
                    clear hK K
                    refine wpAnyG_ready (rs := [11]) (by kernel_rfl) (by simp) ?_
                    refine AllReadyG.cons rfl (by rfl) (fun K hK => ?_) ?_
                    rotate_left
                    exact AllReadyG.nil
                    refine wp_append_src _ (.tmp 52) (.tmp 55) 34 (by rfl) 0 3 i0 _ 1 8 Try.underlying34 hi0 hz0 hz1 hz2 rfl (by omega) _ _ _ _ rfl (hown2) _ (xs.length - m) _ ((xs.drop m).map nV) rfl (HSL.out.2 _ HQ2.out.grew) (oneCell_nV _) (by unfold maxLen; omega) (by omega) (by simp) ?_
                    intro g3 cap3 w3 hown3 hgrow3 hat3 hlt3
                    have HQ3 : Hid (Fresh wc w3) := hid (Fresh.grown (HQ2.out) hgrow3 (hX2))
                    have hsz3 := HQ3.out.size
                    have hX3 : wc.heap.size ≤ g3 := by rcases hat3 with h | h <;> first | omega | (simp at h; omega)
                    refine hK.out _ _ (fun _ => trivial) ?_
                    clear hK K
                    refine wpAnyG_ready (rs := [12]) (by kernel_rfl) (by simp) ?_
                    refine AllReadyG.cons rfl (by rfl) (fun K hK => ?_) ?_
                    rotate_left
                    exact AllReadyG.nil
                    go_simp
                    refine hK.out _ _ (fun h => absurd rfl h) ?_
                    clear hK K
                    refine wpAnyG_done (by kernel_rfl) ?_ _
                    have hfin := own_meet hown3 (by omega) (show W0.heap.size ≤ g3 by omega)
                    obtain ⟨hl3, hfin⟩ := hfin
                    have HF9 := hid (And.intro hfin (Grew.trans (Grew.trans HOa.out HGc.out) HQ3.out.grew))
                    clear hown1 hown2 hown3 hgrow1 hgrow2 hgrow3 hat1 hat2 hat3 hlt1 hlt2 hlt3 hfin
                    rw [hl3]
                    clear hl3
                    go_wp2
                    go_roundw
                    case rel => exact ⟨k + 1, xs.take m ++ [k] ++ xs.drop m, by omega, by go_num, HSt, by rw [HL9.out]; exact HF9.out.1, HF9.out.2⟩
                    case measure => simp [intOf]; omega
                · refine AllReadyG.cons rfl (by rfl) (fun K hK => ?_) ?_
                  rotate_left
                  exact AllReadyG.nil
                  go_simp
                  refine hK.out _ _ (fun _ => trivial) ?_
                  clear hK K
                  refine wpAnyG_ready (rs := [0]) (by kernel_rfl) (by simp) ?_
                  refine AllReadyG.cons rfl (by rfl) (fun K hK => ?_) ?_
                  rotate_left
                  exact AllReadyG.nil
                  go_simp
                  refine hK.out _ _ (fun _ => trivial) ?_
                  clear hK K
                  refine wpAnyG_ready (rs := [4]) (by kernel_rfl) (by simp) ?_
                  refine AllReadyG.cons rfl (by rfl) (fun K hK => ?_) ?_
                  rotate_left
                  exact AllReadyG.nil
                  refine wp_append_src _ (.tmp 45) (.tmp 48) 34 (by rfl) 0 3 i0 _ 1 8 Try.underlying34 hi0 hz0 hz1 hz2 rfl (by omega) _ _ _ _ rfl (own_empty (heap_new2' _ _ _)) _ m _ ((xs.take m).map nV) rfl (HSL.out.1 _ (Grew.trans (Only.drew _) (Grew.trans (Only.alloc _ _) (Only.alloc _ _)))) (oneCell_nV _) (by unfold maxLen; omega) (by omega) (by simp) ?_
                  intro g1 cap1 w1 hown1 hgrow1 hat1 hlt1
                  simp only [Nat.zero_add, List.nil_append] at hown1 ⊢
                  have HQ1 : Hid (Fresh wc w1) := hid (Fresh.grown (Only.trans (Only.drew _) (Only.trans (Only.alloc _ _) (Only.alloc _ _) (fun _ _ h => h)) (fun _ _ h => h)) hgrow1 (by simp))
                  have hsz1 := HQ1.out.size
                  have hX1 : wc.heap.size ≤ g1 := by rcases hat1 with h | h <;> first | omega | (simp at h; omega)
                  refine hK.out _ _ (fun _ => trivial) ?_
                  clear hK K
                  refine wpAnyG_ready (rs := [7]) (by kernel_rfl) (by simp) ?_
                  refine AllReadyG.cons rfl (by rfl) (fun K hK => ?_) ?_
                  rotate_left
                  exact AllReadyG.nil
                  refine wp_append_src _ (.tmp 49) (.tmp 51) 34 (by rfl) 0 3 i0 _ 1 8 Try.underlying34 hi0 hz0 hz1 hz2 rfl (by omega) _ _ _ _ rfl (hown1) _ 1 _ ([k].map nV) rfl (⟨rfl, fun _ => ⟨_, rfl, World.news_of_block (cs := #[nV k]) (t := 3) (fr := (0, 0)) ((hgrow1.block _ (by simp; omega) (by simp)).trans (heap_new2 _ _ _))⟩⟩) (oneCell_nV _) (by unfold maxLen; omega) (by omega) (by simp) ?_
                  intro g2 cap2 w2 hown2 hgrow2 hat2 hlt2
                  have HQ2 : Hid (Fresh wc w2) := hid (Fresh.grown (HQ1.out) hgrow2 (hX1))
                  have hsz2 := HQ2.out.size
                  have hX2 : wc.heap.size ≤ g2 := by rcases hat2 with h | h <;> first | omega | (simp at h; omega)
                  refine hK.out _ _ (fun _ => trivial) ?_
                  clear hK K
                  refine wpAnyG_ready (rs := [11]) (by kernel_rfl) (by simp) ?_
                  refine AllReadyG.cons rfl (by rfl) (fun K hK => ?_) ?_
                  rotate_left
                  exact AllReadyG.nil
                  refine wp_append_src _ (.tmp 52) (.tmp 55) 34 (by rfl) 0 3 i0 _ 1 8 Try.underlying34 hi0 hz0 hz1 hz2 rfl (by omega) _ _ _ _ rfl (hown2) _ (xs.length - m) _ ((xs.drop m).map nV) rfl (HSL.out.2 _ HQ2.out.grew) (oneCell_nV _) (by unfold maxLen; omega) (by omega) (by simp) ?_
                  intro g3 cap3 w3 hown3 hgrow3 hat3 hlt3
                  have HQ3 : Hid (Fresh wc w3) := hid (Fresh.grown (HQ2.out) hgrow3 (hX2))
                  have hsz3 := HQ3.out.size
                  have hX3 : wc.heap.size ≤ g3 := by rcases hat3 with h | h <;> first | omega | (simp at h; omega)
                  refine hK.out _ _ (fun _ => trivial) ?_
                  clear hK K
                  refine wpAnyG_ready (rs := [12]) (by kernel_rfl) (by simp) ?_
                  refine AllReadyG.cons rfl (by rfl) (fun K hK => ?_) ?_
                  rotate_left
                  exact AllReadyG.nil
                  go_simp
                  refine hK.out _ _ (fun h => absurd rfl h) ?_
                  clear hK K
                  refine wpAnyG_done (by kernel_rfl) ?_ _
                  have hfin := own_meet hown3 (by omega) (show W0.heap.size ≤ g3 by omega)
                  obtain ⟨hl3, hfin⟩ := hfin
                  have HF9 := hid (And.intro hfin (Grew.trans (Grew.trans HOa.out HGc.out) HQ3.out.grew))
                  clear hown1 hown2 hown3 hgrow1 hgrow2 hgrow3 hat1 hat2 hat3 hlt1 hlt2 hlt3 hfin
                  rw [hl3]
                  clear hl3
                  go_wp2
                  go_roundw
                  case rel => exact ⟨k + 1, xs.take m ++ [k] ++ xs.drop m, by omega, by go_num, HSt, by rw [HL9.out]; exact HF9.out.1, HF9.out.2⟩
                  case measure => simp [intOf]; omega
    · obtain rfl : k = l.length := by omega
      go_wp2
      go_ret
      exact ⟨_, xs, rfl, hM.out, own_baseM HRow.out HWS.out, Grew.trans HW.out.1 HO.out⟩
end Go.Proofs.Ytgpfhdjedebdfaa
