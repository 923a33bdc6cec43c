/- A slice whose elements take one cell each, which may begin in the midst of its own row; append onto it. -/
import Derived.Test.YtlpkolmaklnffaaIns
import Derived.Deep.AppendSrc
import Derived.Lib.JoinLaws
namespace Go.Proofs.Ytlpkolmaklnffaa
open Go.RowKit Go.MapKept

def WinV (w : World) (base : Nat) (e : TypeId) (v : Value) (vs : List Value) : Prop := ∃ A c, v = .slice A vs.length c ∧ ((A = none ∧ vs = [] ∧ c = 0) ∨
  ∃ g off cur, A = some ⟨g, off, none⟩ ∧ base ≤ g ∧ w.heap[g]? = some (.cells cur e (0, 0)) ∧ vs.length ≤ c ∧ c ≤ maxLen ∧ off + c ≤ cur.size ∧ ∀ j, j < vs.length → cur[off + j]? = vs[j]?)
section
variable {w w' : World} {base : Nat} {e : TypeId} {v : Value} {vs : List Value}
theorem WinV.only {F : Nat → Prop} (h : WinV w base e v vs) (k : Only F w w') (hn : ∀ g, v.ownBlock = some g → ¬ F g) : WinV w' base e v vs := by
  obtain ⟨A, c, rfl, h⟩ := h
  refine ⟨A, c, rfl, h.imp id ?_⟩
  rintro ⟨g, off, cur, rfl, h1, h2, r⟩
  exact ⟨g, off, cur, rfl, h1, k.heap h2 (hn g rfl), r⟩
theorem WinV.lt (h : WinV w base e v vs) {g : Nat} (hg : v.ownBlock = some g) : base ≤ g ∧ g < w.heap.size := by
  obtain ⟨A, c, rfl, ⟨rfl, _⟩ | ⟨g', off, cur, rfl, h1, h2, r⟩⟩ := h
  · cases hg
  · cases hg
    exact ⟨h1, (Array.getElem?_eq_some_iff.1 h2).1⟩
theorem WinV.form (h : WinV w base e v vs) : ∃ A c, v = .slice A vs.length c ∧ vs.length ≤ c ∧ c ≤ maxLen := by
  obtain ⟨A, c, rfl, ⟨_, rfl, rfl⟩ | ⟨g, off, cur, rfl, h1, h2, h3, h4, r⟩⟩ := h
  · exact ⟨A, 0, rfl, Nat.le_refl _, by unfold maxLen; omega⟩
  · exact ⟨_, c, rfl, h3, h4⟩
theorem WinV.one (w : World) (e : TypeId) (x : Value) : WinV (w.alloc (.cells #[x] e)) w.heap.size e (.slice (some ⟨w.heap.size, 0, none⟩) 1 1) [x] :=
  ⟨_, 1, rfl, .inr ⟨_, 0, _, rfl, Nat.le_refl _, heap_alloc_new w _, Nat.le_refl _, by unfold maxLen; omega, by simp, fun j hj => by
    obtain rfl : j = 0 := by simpa using hj
    simp⟩⟩
/-- s[0], s[1:]. -/
theorem WinV.tail {n c : Nat} {A : Option Addr} {x : Value} (h : WinV w base e (.slice A n c) (x :: vs)) : ∃ g off, A = some ⟨g, off, none⟩ ∧ n = vs.length + 1 ∧ vs.length + 1 ≤ c ∧ c ≤ maxLen ∧ w.cell? ⟨g, off, none⟩ = some x ∧
    WinV w base e (.slice (some ⟨g, off + 1, none⟩) vs.length (c - 1)) vs ∧ (vs = [] → WinV w base e (.slice (some ⟨g, off, none⟩) vs.length (c - 1)) vs) := by
  obtain ⟨A', c', e1, ⟨rfl, h0, _⟩ | ⟨g, off, cur, rfl, h1, h2, h3, h4, h5, h6⟩⟩ := h
  · cases h0
  · injection e1 with e1 e2 e3
    subst e1 e2 e3
    simp only [List.length_cons] at h3 h6
    refine ⟨g, off, rfl, rfl, h3, h4, ?_, ⟨_, _, rfl, .inr ⟨g, off + 1, cur, rfl, h1, h2, by omega, by omega, by omega, fun j hj => ?_⟩⟩, ?_⟩
    · rw [cell_of_row w g off _ _ _ h2]
      simpa using h6 0 (by omega)
    · have := h6 (j + 1) (by omega)
      rw [show off + 1 + j = off + (j + 1) by omega, this]
      simp
    · rintro rfl
      exact ⟨_, _, rfl, .inr ⟨g, off, cur, rfl, h1, h2, Nat.zero_le _, by omega, by omega, fun j hj => by simp at hj⟩⟩
end
section
variable {P : Program} (w : World)
theorem run_append_win (t ty e : TypeId) (i : TypeInfo) (z : Value) (bytes : Nat) (ht : P.underlying t = some (.slice e)) (hi : P.info? e = some i) (hz : i.zero = some z) (hsize : i.size = 1) (hby : i.bytes = bytes) (hzs : z.cells.size = 1)
    (base : Nat) (v : Value) (vs : List Value) (hW : WinV w base e v vs) (x : Value) (xb xc : Nat) (hx1 : x.oneCell' = true) (hxb : w.heap[xb]? = some (.cells #[x] e (0, 0))) (h63 : vs.length + 1 ≤ maxLen) (hbytes : (vs.length + 1) * bytes ≤ 140737488355328) (hbase : base ≤ w.heap.size) :
    ∃ v' w', (Builtin.append_ #[t, t] ty #[v, .slice (some ⟨xb, 0, none⟩) 1 xc]).run P w = .ok v' w' ∧ WinV w' base e v' (vs ++ [x]) ∧ Only (fun k => v.ownBlock = some k) w w' ∧ (v'.ownBlock = v.ownBlock ∨ ∃ k, v'.ownBlock = some k ∧ w.heap.size ≤ k) := by
  have hsrc : Src P i.size t (.slice (some ⟨xb, 0, none⟩) 1 xc) 1 [x] w := Src.ofSlice w ht ⟨xb, 0, none⟩ 1 xc [x] (by rw [hsize]; rfl) (fun j u hj => by
    cases j with
    | zero => rw [add_none, cell_of_row w xb (0 + 0) _ _ _ hxb]; simpa using hj
    | succ j => simp at hj) (by simpa using hx1)
  have hlen : (vs ++ [x]).length = vs.length + 1 := by simp
  have grow : ∀ (A : Option Addr) (c : Nat), c < vs.length + 1 → (Builtin.firstCells i.size vs.length (.slice A vs.length c)).run P w.drew = .ok vs.toArray w.drew →
      ∃ v' w', (Builtin.append_ #[t, t] ty #[.slice A vs.length c, .slice (some ⟨xb, 0, none⟩) 1 xc]).run P w = .ok v' w' ∧ WinV w' base e v' (vs ++ [x]) ∧ Only (fun k => (Value.slice A vs.length c).ownBlock = some k) w w' ∧ (v'.ownBlock = (Value.slice A vs.length c).ownBlock ∨ ∃ k, v'.ownBlock = some k ∧ w.heap.size ≤ k) := by
    intro A c hc hold
    have hrun := run_append_grow_src (P := P) w t t ty e i z ht hi hz A vs.length c vs hold _ 1 [x] hsrc hc (by unfold maxLen at h63; omega) (by rw [hby]; exact growslice_fits hc hbytes)
    have hge := grownCap_ge w (vs.length + 1) c e
    have hgm := grownCap_le_maxLen w (vs.length + 1) c e h63
    refine ⟨_, _, hrun, ⟨_, _, by rw [hlen], .inr ⟨w.heap.size, 0, _, rfl, hbase, heap_alloc_new w.drew _, by rw [hlen]; exact hge, hgm, ?_, fun j hj => ?_⟩⟩, (Only.drew w).trans (Only.alloc _ _) (fun _ _ h => h), .inr ⟨_, rfl, Nat.le_refl _⟩⟩
    · simp [Builtin.zeroCells, hzs]
      omega
    · rw [Nat.zero_add, Array.getElem?_append_left (by simpa using hj)]
      simp
  obtain ⟨A, c, rfl, ⟨rfl, rfl, rfl⟩ | ⟨g, off, cur, rfl, h1, h2, h3, h4, h5, h6⟩⟩ := hW
  · exact grow none 0 (by simp) (run_firstCells_none w.drew i.size 0 0 0)
  · have hcell : ∀ (j : Nat) (u : Value), vs[j]? = some u → w.cell? ⟨g, off + j, none⟩ = some u := fun j u hu => by
      rw [cell_of_row w g (off + j) _ _ _ h2, h6 j (List.getElem?_eq_some_iff.1 hu).1, hu]
    by_cases hroom : vs.length + 1 ≤ c
    · have hrun := run_append_room_src (P := P) w t t ty e i ht hi g off vs.length c _ 1 [x] hsrc hroom (fun j hj => by
        rw [cell_of_row w g _ _ _ _ h2, hsize]
        simp at hj
        simp
        omega) (fun j _ => by simp [World.frozen?, h2])
      rw [hsize, Nat.mul_one] at hrun
      obtain ⟨cur2, b1, b2, b3⟩ := setCells_row g [x] (off + vs.length) w cur h2
      refine ⟨_, _, hrun, ⟨_, c, by rw [hlen], .inr ⟨g, off, cur2, rfl, h1, b1, by omega, h4, by omega, fun j hj => ?_⟩⟩, (Only.setCells w g _ _).mono (fun _ _ h => by rw [h]; rfl), .inl rfl⟩
      rw [hlen] at hj
      rw [b3]
      simp only [List.length_cons, List.length_nil]
      by_cases hji : j < vs.length
      · rw [if_neg (by omega), List.getElem?_append_left hji]; exact h6 j hji
      · obtain rfl : j = vs.length := by omega
        rw [if_pos (by omega), List.getElem?_append_right (Nat.le_refl _)]
        simp
    · refine grow _ c (by omega) ?_
      rw [hsize]
      exact run_firstCells_some w.drew 1 vs.length _ vs.length c vs (by omega) (fun j u hu => by rw [add_none]; exact hcell j u hu)
theorem wpList_append_win {ops : Array Oper} {rest : List Oper} {o : Oper} {a : Act} {Q : Exit → Act → World → Prop} (hgd : o.guard = none) (s x : Operand) (t : TypeId)
    (ho : o.op = .call { callee := .builtin .append, args := #[s, x], argTypes := #[t, t] })
    (e : TypeId) (i : TypeInfo) (z : Value) (bytes : Nat) (ht : P.underlying t = some (.slice e)) (hi : P.info? e = some i) (hz : i.zero = some z) (hsize : i.size = 1) (hby : i.bytes = bytes) (hzs : z.cells.size = 1)
    (base : Nat) (v : Value) (vs : List Value) (hs : a.eval s = v) (hW : WinV w base e v vs) (xv : Value) (xb xc : Nat) (hx : a.eval x = .slice (some ⟨xb, 0, none⟩) 1 xc) (hx1 : xv.oneCell' = true) (hxb : w.heap[xb]? = some (.cells #[xv] e (0, 0)))
    (h63 : vs.length + 1 ≤ maxLen) (hbytes : (vs.length + 1) * bytes ≤ 140737488355328) (hbase : base ≤ w.heap.size)
    (h : ∀ v' w', WinV w' base e v' (vs ++ [xv]) → Only (fun k => v.ownBlock = some k) w w' → (v'.ownBlock = v.ownBlock ∨ ∃ k, v'.ownBlock = some k ∧ w.heap.size ≤ k) → wpList P ops Q rest (a.put o.dst v') w') : wpList P ops Q (o :: rest) a w := by
  refine wpList_plain hgd fun K hK => ?_
  obtain ⟨v', w', hr, h2, h3, h4⟩ := run_append_win (P := P) w t o.type e i z bytes ht hi hz hsize hby hzs base v vs hW xv xb xc hx1 hxb h63 hbytes hbase
  unfold Oper.wp execOp
  simp only [ho, resolve, invoke, builtin, Sem.run_bind, Sem.run_pure, Result.andThen_ok, List.map_toArray, List.map_cons, List.map_nil, hs, hx, hr]
  exact hK _ _ (h v' w' h2 h3 h4)
end
end Go.Proofs.Ytlpkolmaklnffaa
