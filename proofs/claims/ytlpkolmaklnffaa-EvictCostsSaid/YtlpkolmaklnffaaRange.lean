/- Plain words on maps: a range loop over a map under way, a store at a key that is there, delete. -/
import Derived.Test.YtlpkolmaklnffaaKeys
import Derived.Maps.RangeWalk
namespace Go.Proofs.Ytlpkolmaklnffaa
open Go.RowKit Go.MapKept
open Go.ChangeMaps (setBlock heap_setBlock_same heap_setBlock_other)
open Go.Maps (Keyed)

section
variable {κ : Type} [DecidableEq κ] {P : Program} {k : TypeId} {enc : κ → Value} {ok : κ → Prop} {w w' : World} {b r : Nat} {kv : List (κ × Value)} {left : List κ}
/-- A loop over the map in block b is under way; its iterator is block r; the keys 'left' are still to come. -/
def Over (w : World) (b r : Nat) (enc : κ → Value) (ok : κ → Prop) (kv : List (κ × Value)) (left : List κ) : Prop :=
  MapIs w b enc ok kv ∧ left.Nodup ∧ (∀ x ∈ left, ∃ v, mget kv x = some v) ∧ ∃ es clock since seen c0, w.heap[b]? = some (.map es clock) ∧ w.heap[r]? = some (.mapIter (some b) since seen c0) ∧
    (∀ x ∈ es.toList, x.born < since) ∧ since ≤ c0 ∧ since ≤ clock ∧ (leftOf es seen).toList.map (·.key) = left.map enc
theorem Over.mapIs (h : Over w b r enc ok kv left) : MapIs w b enc ok kv := h.1
theorem Over.lt (h : Over w b r enc ok kv left) : r < w.heap.size := by
  obtain ⟨_, _, _, es, clock, since, seen, c0, _, hr, _⟩ := h
  exact (Array.getElem?_eq_some_iff.1 hr).1
theorem Over.left_eq (h : Over w b r enc ok kv left) : w.rangeLeft b r = left.length := by
  obtain ⟨_, _, _, es, clock, since, seen, c0, hb, hr, _, _, _, hl⟩ := h
  simp only [World.rangeLeft, hb, hr]
  simpa using congrArg List.length hl
theorem left_perm {left : List κ} (hn : left.Nodup) {x : κ} (hx : x ∈ left) : left.Perm (x :: left.filter (fun y => !decide (y = x))) := by
  refine (List.perm_ext_iff_of_nodup hn (List.nodup_cons.2 ⟨by simp, hn.filter _⟩)).2 (fun y => ?_)
  simp only [List.mem_cons, List.mem_filter, Bool.not_eq_true', decide_eq_false_iff_not]
  constructor
  · intro hy
    by_cases h : y = x
    · exact .inl h
    · exact .inr ⟨hy, h⟩
  · rintro (rfl | ⟨h, _⟩)
    · exact hx
    · exact h
theorem Over.only {F : Nat → Prop} (h : Over w b r enc ok kv left) (k : Only F w w') (hb : ¬ F b) (hr : ¬ F r) : Over w' b r enc ok kv left := by
  obtain ⟨h1, h2, h3, es, clock, since, seen, c0, hhb, hhr, rest⟩ := h
  exact ⟨h1.only k hb, h2, h3, es, clock, since, seen, c0, k.heap hhb hb, k.heap hhr hr, rest⟩
omit [DecidableEq κ] in
theorem keys_of_mapIs {es : Array MapEntry} (he : es.toList.map (fun e => (e.key, e.val)) = kv.map (fun p => (enc p.1, p.2))) : es.toList.map (·.key) = (kv.map (·.1)).map enc := by
  have := congrArg (List.map Prod.fst) he
  simpa [List.map_map, Function.comp_def] using this
/-- 'range m'. -/
theorem MapIs.range {t e : TypeId} (ht : P.underlying t = some (.map k e)) (h : MapIs w b enc ok kv) :
    ∃ w', (Instr.range t (.map (some b))).run P w = .ok (.pointer (some ⟨w.heap.size, 0, none⟩)) w' ∧ Over w' b w.heap.size enc ok kv (kv.map (·.1)) ∧ Grew w w' ∧ w'.heap.size = w.heap.size + 1 := by
  have h' := h
  have hnd := h.nodup
  have hlt := h.lt
  obtain ⟨es, clock, hb, hs, hz, he, hok⟩ := h
  refine ⟨_, run_range_map w t k e b es clock ht hb, ⟨h'.only (Only.alloc (F := fun _ => False) _ _) (fun h => h), ?_, fun x hx => ?_, es, clock, clock, #[], clock, ((MapKept.heap_alloc w _).2 b hlt).trans hb, (MapKept.heap_alloc w _).1, ((stamped_iff es clock).1 hs).1, Nat.le_refl _, Nat.le_refl _, ?_⟩, Only.alloc _ _, by simp⟩
  · rw [List.Nodup, List.pairwise_map]
    exact hnd
  · obtain ⟨p, hp, rfl⟩ := List.mem_map.1 hx
    exact ⟨p.2, mget_of_mem hnd hp⟩
  · have : leftOf es #[] = es := by simp [leftOf]
    rw [this]
    exact keys_of_mapIs he
theorem filter_map_key {l : List MapEntry} {f : Value → Bool} : (l.filter (fun e => f e.key)).map (·.key) = (l.map (·.key)).filter f := by
  rw [List.filter_map]
  rfl
/-- The step. -/
theorem Over.next (C : Enc P k enc ok) (h : Over w b r enc ok kv left) (ty : TypeId) :
    (left = [] ∧ (Instr.next (.pointer (some ⟨r, 0, none⟩)) false ty).run P w = .ok (.tuple #[.bool false]) w) ∨
    ∃ x v w', x ∈ left ∧ mget kv x = some v ∧ (Instr.next (.pointer (some ⟨r, 0, none⟩)) false ty).run P w = .ok (.tuple #[.bool true, enc x, v]) w' ∧
      Over w' b r enc ok kv (left.filter (fun y => !decide (y = x))) ∧ Only (fun i => i = r) w w' ∧ w'.heap.size = w.heap.size ∧ (Instr.entry (.pointer (some ⟨r, 0, none⟩))).run P w' = .ok (.tuple #[enc x, v]) w' := by
  classical
  obtain ⟨hM, hnd, hin, es, clock, since, seen, c0, hb, hr, hold, hsc, hsk, hl⟩ := h
  have hne : r ≠ b := by rintro rfl; rw [hb] at hr; cases hr
  have hM' := hM
  obtain ⟨es', clock', hb', hs, hz, he, hok⟩ := hM'
  rw [hb] at hb'
  obtain ⟨rfl, rfl⟩ : es = es' ∧ clock = clock' := by simpa using hb'
  rcases run_next_at (P := P) w ty r b since c0 seen es clock hr hb hold hsc with ⟨h0, hrun⟩ | ⟨e, hel, w1, hal, hrun⟩
  · refine .inl ⟨?_, hrun⟩
    have h1 : (leftOf es seen).toList = [] := by rw [Array.eq_empty_of_size_eq_zero h0]
    rw [h1] at hl
    simpa using hl.symm
  · obtain ⟨hem, hes⟩ := mem_left hel
    have hkm : e.key ∈ left.map enc := hl ▸ List.mem_map.2 ⟨e, hel, rfl⟩
    obtain ⟨x, hx, hxe⟩ := List.mem_map.1 hkm
    have hpm : (e.key, e.val) ∈ kv.map (fun p => (enc p.1, p.2)) := he ▸ List.mem_map.2 ⟨e, hem, rfl⟩
    obtain ⟨p, hp, hpe⟩ := List.mem_map.1 hpm
    simp only [Prod.mk.injEq] at hpe
    have hpx : p.1 = x := C.inj (hpe.1.trans hxe.symm)
    have hg : mget kv x = some e.val := mget_of_mem hM.nodup (by rw [← hpx, ← hpe.2]; exact hp)
    have hr1 : w1.heap[r]? = some (.mapIter (some b) since seen c0) := by rcases hal with rfl | rfl <;> exact hr
    have hb1 : w1.heap[b]? = some (.map es clock) := by rcases hal with rfl | rfl <;> exact hb
    have hset := heap_set (o' := .mapIter (some b) since (seen.push e.born) clock) hr1
    have hb2 : (setBlock w1 r (.mapIter (some b) since (seen.push e.born) clock)).heap[b]? = some (.map es clock) := (hset.2 b (fun e1 => hne e1.symm)).trans hb1
    have k1 : Only (fun i => i = r) w (setBlock w1 r (.mapIter (some b) since (seen.push e.born) clock)) := by
      rcases hal with rfl | rfl <;> exact ⟨rfl, rfl, rfl, by simp [setBlock], fun i _ hi => hset.2 i hi⟩
    have hst := (stamped_iff es clock).1 hs
    rw [← hxe] at hrun
    refine .inr ⟨x, e.val, _, hx, hg, hrun, ⟨hM.only k1 (fun e1 => hne e1.symm), hnd.filter _, fun y hy => hin y (List.mem_filter.1 hy).1, es, clock, since, seen.push e.born, clock, hb2, hset.1, hold, hsk, hsk, ?_⟩, k1, ?_, ?_⟩
    · have e1 : (leftOf es (seen.push e.born)).toList = (leftOf es seen).toList.filter (fun z => !decide (z.key = e.key)) := by
        unfold leftOf
        rw [Array.toList_filter, Array.toList_filter, List.filter_filter]
        refine List.filter_congr (fun z hz => ?_)
        rw [contains_push]
        by_cases hze : z.key = e.key
        · obtain rfl := entry_eq_of_key hst.2.2 hz hem hze
          simp
        · have : z.born ≠ e.born := fun hb => hze (congrArg MapEntry.key (born_inj hst.2.1 hz hem hb))
          simp [hze, this]
      rw [e1, filter_map_key (f := fun key => !decide (key = e.key)), hl, List.filter_map]
      refine congrArg (List.map enc) (List.filter_congr (fun y _ => ?_))
      simp only [Function.comp_def, ← hxe]
      by_cases hyx : y = x
      · simp [hyx]
      · have : ¬ enc y = enc x := fun h => hyx (C.inj h)
        simp [hyx, this]
    · rcases hal with rfl | rfl <;> simp [setBlock]
    · rw [hxe]
      exact run_entry_at _ r b since seen es clock e hset.1 hb2 hem hst.2.1
theorem filter_set_map {α β : Type} {p : α → Bool} {g : α → β} {x y : α} : ∀ {l : List α} {j : Nat}, l[j]? = some x → p y = p x → g y = g x → ((l.set j y).filter p).map g = (l.filter p).map g
  | [], _, h, _, _ => by simp at h
  | a :: l, 0, h, hp, hg => by
    obtain rfl : a = x := by simpa using h
    rw [List.set_cons_zero, List.filter_cons, List.filter_cons, hp]
    split
    · rw [List.map_cons, List.map_cons, hg]
    · rfl
  | a :: l, j + 1, h, hp, hg => by
    have ih := filter_set_map (l := l) (j := j) (by simpa using h) hp hg
    rw [List.set_cons_succ, List.filter_cons, List.filter_cons]
    split
    · rw [List.map_cons, List.map_cons, ih]
    · exact ih
/-- A store, in the loop, at a key that is there. -/
theorem Over.put {t e : TypeId} (C : Enc P k enc ok) (ht : P.underlying t = some (.map k e)) (h : Over w b r enc ok kv left) {x : κ} (hx : ok x) (hin : ∃ v, mget kv x = some v) (v : Value) :
    ∃ w', (Instr.mapUpdate t (.map (some b)) (enc x) v).run P w = .ok () w' ∧ Over w' b r enc ok (mput kv x v) left ∧ Only (fun i => i = b) w w' ∧ w'.heap.size = w.heap.size := by
  obtain ⟨hM, hnd, hall, es, clock, since, seen, c0, hb, hr, hold, hsc, hsk, hl⟩ := h
  have hne : r ≠ b := by rintro rfl; rw [hb] at hr; cases hr
  obtain ⟨lx, hlx⟩ := C.reads hx
  have hok : ∀ p ∈ kv, ok p.1 := by obtain ⟨_, _, _, _, _, _, hok⟩ := hM; exact hok
  have hzz : es.size ≤ maxLen := by
    obtain ⟨es', clock', hb', _, hz, _⟩ := hM
    rw [hb] at hb'
    obtain ⟨rfl, rfl⟩ : es = es' ∧ clock = clock' := by simpa using hb'
    exact hz
  obtain ⟨es', clock', hb', hs, hsz, he, hf⟩ := hM.find C hx
  rw [hb] at hb'
  obtain ⟨rfl, rfl⟩ : es = es' ∧ clock = clock' := by simpa using hb'
  obtain ⟨v0, hv0⟩ := hin
  rcases hf with ⟨h1, h2, h3⟩ | ⟨j, e0, h1, h2, h3, h4, h5⟩
  · rw [hv0] at h3; cases h3
  · have hh : mhas kv x = true := by rw [mhas_mget, h4]; rfl
    have hkeyf : ∀ e', es[j]? = some e' → ({ e' with key := enc x, val := v } : MapEntry).key = e'.key := fun e' he' => by rw [h2] at he'; cases he'; exact h3.symm
    have hj : es.toList[j]? = some e0 := by simpa using h2
    have htl : (es.modify j (fun e' => { e' with key := enc x, val := v })).toList = es.toList.set j { e0 with key := enc x, val := v } := by
      rw [Array.toList_modify, ChangeMaps.modify_eq_set _ _ _ _ hj]
    refine ⟨setBlock w b (.map (es.modify j (fun e' => { e' with key := enc x, val := v })) clock), ?_, ⟨⟨_, _, heap_setBlock_same hb _, stamped_modify hs _ _ (fun _ _ => rfl) (fun e' _ he' => hkeyf e' he'), by simpa using hzz, ?_, ?_⟩, hnd, fun y hy => ?_,
      _, _, since, seen, c0, heap_setBlock_same hb _, (heap_setBlock_other hb _ hne).trans hr, fun y hy => ?_, hsc, hsk, ?_⟩, ⟨rfl, rfl, rfl, by simp [setBlock], fun i _ hi => heap_setBlock_other hb _ hi⟩, by simp [setBlock]⟩
    · simp [Instr.mapUpdate, run_underlying ht, MapKept.run_getObj_map hb, C.keyed.check w false hlx, h1, h2, h3, C.keyed.stays w hlx, MapKept.run_setObj_map _ hb, Result.andThen, setBlock]
    · rw [htl, List.map_set, he]
      unfold mput
      rw [if_pos hh]
      apply List.ext_getElem?
      intro i
      rw [List.getElem?_set, List.getElem?_map, List.getElem?_map, List.getElem?_map]
      by_cases hij : j = i
      · subst hij
        rw [if_pos rfl, h5]
        have : j < kv.length := (List.getElem?_eq_some_iff.1 h5).1
        simp [this]
      · rw [if_neg hij]
        cases hi : kv[i]? with
        | none => rfl
        | some p =>
          have hne : p.1 ≠ x := fun ep => by
            have li := (List.getElem?_eq_some_iff.1 hi)
            have lj := (List.getElem?_eq_some_iff.1 h5)
            rcases Nat.lt_or_gt_of_ne hij with hlt | hgt
            · have := List.pairwise_iff_getElem.1 hM.nodup j i lj.1 li.1 hlt
              rw [lj.2, li.2] at this
              exact this ep.symm
            · have := List.pairwise_iff_getElem.1 hM.nodup i j li.1 lj.1 hgt
              rw [lj.2, li.2] at this
              exact this ep
          simp [hne]
    · intro p hp
      rcases mem_mput hp with rfl | ⟨hp, _⟩
      · exact hx
      · exact hok p hp
    · rw [mget_mput]
      split
      · exact ⟨v, rfl⟩
      · exact hall y hy
    · rw [htl] at hy
      rcases List.mem_or_eq_of_mem_set hy with hy | rfl
      · exact hold y hy
      · exact hold e0 (List.mem_of_getElem? hj)
    · rw [← hl]
      unfold leftOf
      rw [Array.toList_filter, Array.toList_filter, htl]
      exact filter_set_map hj rfl h3.symm
theorem map_eraseIdx_list {α β : Type} (f : α → β) : ∀ (l : List α) (j : Nat), (l.eraseIdx j).map f = (l.map f).eraseIdx j
  | [], _ => rfl
  | _ :: _, 0 => rfl
  | a :: l, j + 1 => by simp [map_eraseIdx_list f l j]
theorem mdel_eq {x : κ} {v : Value} : ∀ {kv : List (κ × Value)} {j : Nat}, kv.Pairwise (fun p q => p.1 ≠ q.1) → kv[j]? = some (x, v) → mdel kv x = kv.eraseIdx j
  | [], _, _, h => by simp at h
  | p :: r, 0, hd, h => by
    obtain rfl : p = (x, v) := by simpa using h
    obtain ⟨h1, _⟩ := List.pairwise_cons.1 hd
    unfold mdel
    simp only [List.eraseIdx_zero, List.tail_cons]
    rw [List.filter_cons]
    simp only [decide_true, Bool.not_true, Bool.false_eq_true, if_false]
    exact List.filter_eq_self.2 (fun q hq => by simpa using fun e => h1 q hq e.symm)
  | p :: r, j + 1, hd, h => by
    obtain ⟨h1, h2⟩ := List.pairwise_cons.1 hd
    have hr : r[j]? = some (x, v) := by simpa using h
    have hp : p.1 ≠ x := h1 _ (List.mem_of_getElem? hr)
    have ih := mdel_eq h2 hr
    unfold mdel at ih ⊢
    rw [List.filter_cons]
    simp [hp, ih]
theorem mdel_none {x : κ} {kv : List (κ × Value)} (h : mget kv x = none) : mdel kv x = kv :=
  List.filter_eq_self.2 (fun q hq => by simpa using mget_none.1 h q hq)
/-- 'delete(m, k)'. -/
theorem MapIs.drop {t e ty : TypeId} (C : Enc P k enc ok) (ht : P.underlying t = some (.map k e)) (h : MapIs w b enc ok kv) {x : κ} (hx : ok x) :
    ∃ w', (Builtin.delete_ #[t, k] ty #[.map (some b), enc x]).run P w = .ok (.tuple #[]) w' ∧ MapIs w' b enc ok (mdel kv x) ∧ w.grownBy w' (some b) ∧ w'.heap.size = w.heap.size := by
  obtain ⟨lx, hlx⟩ := C.reads hx
  have hnd := h.nodup
  have hok : ∀ p ∈ kv, ok p.1 := by obtain ⟨_, _, _, _, _, _, hok⟩ := h; exact hok
  have hzz : ∃ es clock, w.heap[b]? = some (.map es clock) ∧ es.size ≤ maxLen := by
    obtain ⟨es', clock', hb', _, hz, _⟩ := h
    exact ⟨_, _, hb', hz⟩
  obtain ⟨es0, clock0, hb0, hz0⟩ := hzz
  obtain ⟨es, clock, hb, hs, hsz, he, hf⟩ := h.find C hx
  rw [hb] at hb0
  obtain ⟨rfl, rfl⟩ : es = es0 ∧ clock = clock0 := by simpa using hb0
  rcases hf with ⟨h1, h2, h3⟩ | ⟨j, e0, h1, h2, h3, h4, h5⟩
  · refine ⟨setBlock w b (.map es clock), ?_, ⟨es, clock, heap_setBlock_same hb _, hs, hz0, ?_, ?_⟩, ⟨rfl, rfl, rfl, by simp [setBlock], fun i _ hi => heap_setBlock_other hb _ (fun e => hi (by rw [e]))⟩, by simp [setBlock]⟩
    · simp [Builtin.delete_, run_underlying ht, MapKept.run_getObj_map hb, C.keyed.check w _ hlx, h1, MapKept.run_setObj_map _ hb, Result.andThen, setBlock]
    · rw [mdel_none h3]; exact he
    · rw [mdel_none h3]; exact hok
  · have hjs : j < es.size := (Array.getElem?_eq_some_iff.1 h2).1
    have hsub : (es.eraseIdxIfInBounds j).toList = es.toList.eraseIdx j := by
      unfold Array.eraseIdxIfInBounds
      rw [dif_pos hjs]
      simp
    refine ⟨setBlock w b (.map (es.eraseIdxIfInBounds j) clock), ?_, ⟨_, _, heap_setBlock_same hb _, stamped_erase hs j, Nat.le_trans (MapFrom.size_erase es j) hz0, ?_, ?_⟩, ⟨rfl, rfl, rfl, by simp [setBlock], fun i _ hi => heap_setBlock_other hb _ (fun e => hi (by rw [e]))⟩, by simp [setBlock]⟩
    · simp [Builtin.delete_, run_underlying ht, MapKept.run_getObj_map hb, C.keyed.check w _ hlx, h1, MapKept.run_setObj_map _ hb, Result.andThen, setBlock]
    · rw [hsub, map_eraseIdx_list, he, mdel_eq hnd h5, map_eraseIdx_list]
    · intro p hp
      exact hok p (List.mem_filter.1 hp).1
theorem mget_mdel (kv : List (κ × Value)) (x y : κ) : mget (mdel kv x) y = if y = x then none else mget kv y := by
  unfold mget mdel
  by_cases h : y = x
  · subst h
    rw [if_pos rfl, List.find?_filter]
    simp
  · rw [if_neg h, List.find?_filter]
    congr 2
    funext p
    by_cases hp : p.1 = y
    · have : ¬ p.1 = x := fun e => h (hp ▸ e)
      simp [hp, h]
    · simp [hp]
theorem mdel_length (kv : List (κ × Value)) (x : κ) : (mdel kv x).length ≤ kv.length := List.length_filter_le _ _

section
variable {ops : Array Oper} {rest : List Oper} {o : Oper} {a : Act} {Q : Exit → Act → World → Prop}
/-- 'range m' at the operation. -/
theorem wpList_over (hg : o.guard = none) (m : Operand) (t e : TypeId) (hop : o.op = Op.range t m) (ht : P.underlying t = some (.map k e)) (h : MapIs w b enc ok kv) (hm : a.eval m = .map (some b))
    (hK : ∀ w', Over w' b w.heap.size enc ok kv (kv.map (·.1)) → Grew w w' → w'.heap.size = w.heap.size + 1 → wpList P ops Q rest (a.put o.dst (.pointer (some ⟨w.heap.size, 0, none⟩))) w') : wpList P ops Q (o :: rest) a w := by
  refine wpList_plain hg fun K' hK' => ?_
  obtain ⟨w', hrun, r1, r2, r3⟩ := h.range ht
  unfold Oper.wp
  simp [execOp, hop, hm, hrun, Result.andThen]
  exact hK' _ _ (hK w' r1 r2 r3)
/-- The step at the operation. -/
theorem wpList_over_next (hg : o.guard = none) (it : Operand) (hop : o.op = Op.next it false) (C : Enc P k enc ok) (hit : a.eval it = .pointer (some ⟨r, 0, none⟩)) (h : Over w b r enc ok kv left)
    (hDone : left = [] → wpList P ops Q rest (a.put o.dst (.tuple #[.bool false])) w)
    (hMore : ∀ x v w', x ∈ left → mget kv x = some v → Over w' b r enc ok kv (left.filter (fun y => !decide (y = x))) → Only (fun i => i = r) w w' → w'.heap.size = w.heap.size →
      (Instr.entry (.pointer (some ⟨r, 0, none⟩))).run P w' = .ok (.tuple #[enc x, v]) w' → wpList P ops Q rest (a.put o.dst (.tuple #[.bool true, enc x, v])) w') : wpList P ops Q (o :: rest) a w := by
  refine wpList_plain hg fun K' hK' => ?_
  unfold Oper.wp
  rcases h.next C o.type with ⟨h0, hrun⟩ | ⟨x, v, w', hx, hv, hrun, r1, r2, r3, hen⟩
  · simp [execOp, hop, hit, hrun, Result.andThen]
    exact hK' _ _ (hDone h0)
  · simp [execOp, hop, hit, hrun, Result.andThen]
    exact hK' _ _ (hMore x v w' hx hv r1 r2 r3 hen)
/-- A store at a key that is there, in the loop. -/
theorem wpList_over_put {t e : TypeId} (hg : o.guard = none) (m x v : Operand) (hop : o.op = Op.mapUpdate t m x v)
    (C : Enc P k enc ok) (ht : P.underlying t = some (.map k e)) (h : Over w b r enc ok kv left) (hm : a.eval m = .map (some b)) {y : κ} (hy : ok y) (hin : ∃ v, mget kv y = some v) (hx : a.eval x = enc y) (val : Value) (hv : a.eval v = val)
    (hK : ∀ w', Over w' b r enc ok (mput kv y val) left → Only (fun i => i = b) w w' → w'.heap.size = w.heap.size → wpList P ops Q rest (a.put o.dst undef) w') : wpList P ops Q (o :: rest) a w := by
  refine wpList_plain hg fun K' hK' => ?_
  obtain ⟨w', hrun, r1, r2, r3⟩ := h.put C ht hy hin val
  unfold Oper.wp
  simp [execOp, hop, hm, hx, hv, hrun, Result.andThen]
  exact hK' _ _ (hK w' r1 r2 r3)
/-- 'delete(m, k)' at the operation. -/
theorem wpList_drop (hg : o.guard = none) (m x : Operand) (t e : TypeId) (hop : o.op = Op.call { callee := Callee.builtin Builtin.delete, args := #[m, x], argTypes := #[t, k] })
    (C : Enc P k enc ok) (ht : P.underlying t = some (.map k e)) (h : MapIs w b enc ok kv) (hm : a.eval m = .map (some b)) {y : κ} (hy : ok y) (hx : a.eval x = enc y)
    (hK : ∀ w', MapIs w' b enc ok (mdel kv y) → w.grownBy w' (some b) → w'.heap.size = w.heap.size → wpList P ops Q rest (a.put o.dst (.tuple #[])) w') : wpList P ops Q (o :: rest) a w := by
  refine wpList_plain hg fun K' hK' => ?_
  obtain ⟨w', hrun, r1, r2, r3⟩ := h.drop (ty := o.type) C ht hy
  unfold Oper.wp
  simp [execOp, hop, resolve, invoke, builtin, hm, hx, hrun, Result.andThen]
  exact hK' _ _ (hK w' r1 r2 r3)
end
end
end Go.Proofs.Ytlpkolmaklnffaa
