/- Plain words on memory, of no program: what may have turned ('Only'), a slice that reads as a list, a map that is a list of entries. -/
import Derived.WalkKit
import Derived.WalkSpells
import Derived.WalkLawsBesides
import Derived.Maps.RangeWalk
import Derived.OneCell
import Derived.BigQuiet
import Derived.Deep.QuietTactic
namespace Go.Proofs.Ytgpfhdjedebdfaa
open Go.RowKit Go.MapKept
open Go.ChangeMaps (setBlock heap_setBlock_same heap_setBlock_other)
open Go.Maps (Keyed)

/-- A fact kept from the walk. -/
theorem hid {p : Prop} (h : p) : Hid p := h

theorem quiet_left {P : Program} {f : FuncId} {args : Array Value} {w : World} {n : Nat} {v : Value} (h : Calls P f args (w.drewN n) fun e w' => e = .returned v ∧ w.drewN n = w') :
    Calls P f args (w.drewN n) fun e w'' => e = .returned v ∧ ∃ m, w'' = w.drewN m :=
  h.mono fun _ _ ⟨he, hm⟩ => ⟨he, n, hm.symm⟩
theorem quiet_add_left {P : Program} {f : FuncId} {args : Array Value} {w : World} {a n : Nat} {v : Value} (h : Calls P f args (w.drewN (a + n)) fun e w' => e = .returned v ∧ w.drewN (a + n) = w') :
    Calls P f args (w.drewN (a + n)) fun e w'' => e = .returned v ∧ ∃ m, w'' = w.drewN (a + m) :=
  h.mono fun _ _ ⟨he, hm⟩ => ⟨he, n, hm.symm⟩

/-! ### what may have turned -/
/-- w' is w but for the blocks of which F holds, and for new ones. -/
structure Only (F : Nat → Prop) (w w' : World) : Prop where
  os : w'.os = w.os
  tape : w'.tape = w.tape
  output : w'.output = w.output
  size : w.heap.size ≤ w'.heap.size
  block : ∀ k, k < w.heap.size → ¬ F k → w'.heap[k]? = w.heap[k]?

section
variable {F G : Nat → Prop} {w w' a b c : World}
theorem Only.refl (F : Nat → Prop) (w : World) : Only F w w := ⟨rfl, rfl, rfl, Nat.le_refl _, fun _ _ _ => rfl⟩
theorem Only.mono (h : Only F w w') (hFG : ∀ k, k < w.heap.size → F k → G k) : Only G w w' := ⟨h.os, h.tape, h.output, h.size, fun k hk hn => h.block k hk (fun hf => hn (hFG k hk hf))⟩
theorem Only.trans (h : Only F a b) (k : Only G b c) (hG : ∀ i, i < a.heap.size → G i → F i) : Only F a c :=
  ⟨k.os.trans h.os, k.tape.trans h.tape, k.output.trans h.output, Nat.le_trans h.size k.size, fun i hi hn => (k.block i (Nat.lt_of_lt_of_le hi h.size) (fun hg => hn (hG i hi hg))).trans (h.block i hi hn)⟩
theorem Only.alloc (w : World) (o : Obj) : Only F w (w.alloc o) := ⟨rfl, rfl, rfl, by simp, fun k hk _ => Below.heap_alloc w o k hk⟩
theorem Only.drew (w : World) : Only F w w.drew := ⟨rfl, rfl, rfl, Nat.le_refl _, fun _ _ _ => rfl⟩
theorem Only.drewN (w : World) (n : Nat) : Only F w (w.drewN n) := ⟨rfl, rfl, rfl, Nat.le_refl _, fun _ _ _ => rfl⟩
theorem Only.undrew (h : Only F w.drew w') : Only F w w' := ⟨h.os, h.tape, h.output, h.size, h.block⟩
theorem Only.undrewN {n : Nat} (h : Only F (w.drewN n) w') : Only F w w' := ⟨h.os, h.tape, h.output, h.size, h.block⟩
theorem Only.of_grownBy {row : Option Nat} (h : w.grownBy w' row) (hr : ∀ k, row = some k → F k ∨ w.heap.size ≤ k) : Only F w w' :=
  ⟨h.os, h.tape, h.output, h.size, fun k hk hn => h.block k hk (fun e => by rcases hr k e.symm with h1 | h1; exact hn h1; omega)⟩
theorem Only.of_below {B : Nat} (h : Below B w w') (hB : w.heap.size ≤ B) : Only F w w' := ⟨h.os, h.tape, h.output, h.size, fun k hk _ => h.block k (by omega)⟩
theorem Only.setCell (w : World) {p : Addr} (hp : F p.block) (u : Value) : Only F w (w.setCell p u) :=
  ⟨rfl, rfl, rfl, by simp [World.setCell], fun k _ hn => Below.heap_setCell w p u k (fun e => hn (e ▸ hp))⟩
theorem Only.below {B : Nat} (h : Only F w w') (hB : B ≤ w.heap.size) (hF : ∀ k, k < B → ¬ F k) : Below B w w' := ⟨h.os, h.tape, h.output, h.size, fun k hk => h.block k (by omega) (hF k hk)⟩
theorem Only.heap (h : Only F w w') {k : Nat} {o : Obj} (hk : w.heap[k]? = some o) (hn : ¬ F k) : w'.heap[k]? = some o :=
  (h.block k (Array.getElem?_eq_some_iff.1 hk).1 hn).trans hk
theorem Only.cell (h : Only F w w') {p : Addr} {v : Value} (hp : w.cell? p = some v) (hn : ¬ F p.block) : w'.cell? p = some v :=
  (World.cell?_of_block (w := w) (h.block p.block (World.block_lt_of_cell? w p hp) hn)).trans hp
theorem Only.frozen (h : Only F w w') {p : Addr} (hp : p.block < w.heap.size) (hn : ¬ F p.block) : w'.frozen? p = w.frozen? p :=
  World.frozen?_of_block (w := w) (h.block p.block hp hn)
end
/-- Nothing that was there has turned. -/
abbrev Grew (w w' : World) : Prop := Only (fun _ => False) w w'
theorem Grew.to {F : Nat → Prop} {w w' : World} (h : Grew w w') : Only F w w' := h.mono (fun _ _ hf => hf.elim)
theorem Grew.below {w w' : World} (h : Grew w w') : Below w.heap.size w w' := Only.below h (Nat.le_refl _) (fun _ _ hf => hf)
theorem Grew.trans {a b c : World} (h : Grew a b) (k : Grew b c) : Grew a c := Only.trans h k (fun _ _ hf => hf)

/-! ### a slice of ints -/
/-- The slice value that lies at A reads as the numbers xs. -/
def SlI (w : World) (A : Option Addr) (xs : List Int) : Prop :=
  0 < xs.length → ∃ b off, A = some ⟨b, off, none⟩ ∧ ∀ j, j < xs.length → w.cell? ⟨b, off + j, none⟩ = some (.int .i64 (xs[j]?.getD 0))
theorem SlI.nil {w : World} {A : Option Addr} : SlI w A [] := fun h => absurd h (by simp)
theorem SlI.only {F : Nat → Prop} {w w' : World} {A : Option Addr} {xs : List Int} (h : SlI w A xs) (k : Only F w w') (hn : ∀ b off, A = some ⟨b, off, none⟩ → ¬ F b) : SlI w' A xs := fun hp => by
  obtain ⟨b, off, rfl, hc⟩ := h hp
  exact ⟨b, off, rfl, fun j hj => k.cell (hc j hj) (hn b off rfl)⟩
theorem SlI.grew {w w' : World} {A : Option Addr} {xs : List Int} (h : SlI w A xs) (k : Grew w w') : SlI w' A xs := h.only k (fun _ _ _ hf => hf)
theorem SlI.of_own {w : World} {base e n c : Nat} {A : Option Addr} {xs : List Int} (h : w.ownsRow base e 1 (.slice A n c) n (xs.map (Value.int .i64))) : SlI w A xs := fun hp => by
  have hn : n = xs.length := by simpa using h.1.symm
  rcases h.2 with ⟨hv, h0⟩ | ⟨g, cap, cur, hv, hb, hg, hnc, hcm, hcs, ht⟩
  · omega
  · injection hv with h1 h2 h3
    subst h1
    refine ⟨g, 0, rfl, fun j hj => ?_⟩
    have hc := h.cells (g := g) rfl j (.int .i64 (xs[j]?.getD 0)) (by simp [List.getElem?_map, List.getElem?_eq_getElem hj])
    have hadd : (⟨g, 0, none⟩ : Addr).add j = ⟨g, 0 + j, none⟩ := by unfold Addr.add; split <;> simp_all
    rw [hadd] at hc
    exact hc

/-! ### a slice of structs of two ints -/
/-- .. reads as the pairs E. -/
def SlE (w : World) (A : Option Addr) (E : List (Int × Int)) : Prop :=
  0 < E.length → ∃ b off, A = some ⟨b, off, none⟩ ∧ ∀ j, j < E.length → w.cell? ⟨b, off + j * 2, none⟩ = some (.int .i64 (E[j]?.getD (0, 0)).1) ∧ w.cell? ⟨b, off + j * 2 + 1, none⟩ = some (.int .i64 (E[j]?.getD (0, 0)).2)
theorem SlE.nil {w : World} {A : Option Addr} : SlE w A [] := fun h => absurd h (by simp)
theorem SlE.only {F : Nat → Prop} {w w' : World} {A : Option Addr} {E : List (Int × Int)} (h : SlE w A E) (k : Only F w w') (hn : ∀ b off, A = some ⟨b, off, none⟩ → ¬ F b) : SlE w' A E := fun hp => by
  obtain ⟨b, off, rfl, hc⟩ := h hp
  exact ⟨b, off, rfl, fun j hj => ⟨k.cell (hc j hj).1 (hn b off rfl), k.cell (hc j hj).2 (hn b off rfl)⟩⟩
theorem SlE.grew {w w' : World} {A : Option Addr} {E : List (Int × Int)} (h : SlE w A E) (k : Grew w w') : SlE w' A E := h.only k (fun _ _ _ hf => hf)

/-! ### a map -/
section
variable {κ : Type} [DecidableEq κ]
/-- The key's type k, its keys written as values by 'enc'. -/
structure Enc (P : Program) (k : TypeId) (enc : κ → Value) (ok : κ → Prop) : Prop where
  keyed : Keyed P k
  reads : ∀ {x}, ok x → ∃ l, keyOf P k (enc x) = some l
  inj : ∀ {x y}, enc x = enc y → x = y
/-- Block b is a map that holds just the entries kv, in the order in which they came. -/
def MapIs (w : World) (b : Nat) (enc : κ → Value) (ok : κ → Prop) (kv : List (κ × Value)) : Prop :=
  ∃ es clock, w.heap[b]? = some (.map es clock) ∧ Stamped es clock ∧ es.size ≤ maxLen ∧ es.toList.map (fun e => (e.key, e.val)) = kv.map (fun p => (enc p.1, p.2)) ∧ ∀ p ∈ kv, ok p.1
def mget (kv : List (κ × Value)) (x : κ) : Option Value := (kv.find? (fun p => decide (p.1 = x))).map (·.2)
def mhas (kv : List (κ × Value)) (x : κ) : Bool := kv.any (fun p => decide (p.1 = x))
def mput (kv : List (κ × Value)) (x : κ) (v : Value) : List (κ × Value) :=
  if mhas kv x then kv.map (fun p => if p.1 = x then (x, v) else p) else kv ++ [(x, v)]
def mdel (kv : List (κ × Value)) (x : κ) : List (κ × Value) := kv.filter (fun p => !decide (p.1 = x))
variable {P : Program} {k : TypeId} {enc : κ → Value} {ok : κ → Prop} {w w' : World} {b : Nat} {kv : List (κ × Value)}
omit [DecidableEq κ] in
theorem MapIs.lt (h : MapIs w b enc ok kv) : b < w.heap.size := by
  obtain ⟨es, clock, hb, _⟩ := h
  exact (Array.getElem?_eq_some_iff.1 hb).1
omit [DecidableEq κ] in
theorem MapIs.only {F : Nat → Prop} (h : MapIs w b enc ok kv) (k : Only F w w') (hn : ¬ F b) : MapIs w' b enc ok kv := by
  obtain ⟨es, clock, hb, r⟩ := h
  exact ⟨es, clock, k.heap hb hn, r⟩
omit [DecidableEq κ] in
theorem MapIs.made (w : World) (enc : κ → Value) (ok : κ → Prop) : MapIs (w.alloc (.map #[] 0)) w.heap.size enc ok [] :=
  ⟨#[], 0, (MapKept.heap_alloc w _).1, stamped_empty 0, by simp, by simp, by simp⟩
omit [DecidableEq κ] in
/-- The entries as the model has them. -/
theorem MapIs.length (h : MapIs w b enc ok kv) : kv.length ≤ maxLen := by
  obtain ⟨es, clock, _, _, hs, he, _⟩ := h
  have := congrArg List.length he
  simp at this
  omega
theorem mget_none {kv : List (κ × Value)} {x : κ} : mget kv x = none ↔ ∀ p ∈ kv, p.1 ≠ x := by
  simp [mget]
theorem mget_some {kv : List (κ × Value)} {x : κ} {v : Value} (h : mget kv x = some v) : (x, v) ∈ kv := by
  unfold mget at h
  cases hf : kv.find? (fun p => decide (p.1 = x)) with
  | none => rw [hf] at h; cases h
  | some p =>
    rw [hf] at h
    have h1 := List.find?_some hf
    have h2 := List.mem_of_find?_eq_some hf
    simp at h h1
    subst h1
    subst h
    exact h2
theorem mhas_iff {kv : List (κ × Value)} {x : κ} : mhas kv x = true ↔ ∃ p ∈ kv, p.1 = x := by simp [mhas]
theorem mhas_mget {kv : List (κ × Value)} {x : κ} : mhas kv x = (mget kv x).isSome := by
  unfold mhas mget
  rw [Option.isSome_map, List.isSome_find?]
omit [DecidableEq κ] in
/-- No key stands twice. -/
theorem MapIs.nodup (h : MapIs w b enc ok kv) : kv.Pairwise (fun p q => p.1 ≠ q.1) := by
  obtain ⟨es, clock, _, hs, _, he, _⟩ := h
  have h3 := ((stamped_iff es clock).1 hs).2.2
  have h4 : (es.toList.map (fun e => (e.key, e.val))).Pairwise (fun p q => p.1 ≠ q.1) := List.pairwise_map.2 h3
  rw [he, List.pairwise_map] at h4
  exact h4.imp (fun hne e => hne (by rw [e]))
theorem mget_of_mem {kv : List (κ × Value)} (hd : kv.Pairwise (fun p q => p.1 ≠ q.1)) {x : κ} {v : Value} (h : (x, v) ∈ kv) : mget kv x = some v := by
  induction kv with
  | nil => cases h
  | cons p r ih =>
    obtain ⟨h1, h2⟩ := List.pairwise_cons.1 hd
    unfold mget
    rw [List.find?_cons]
    by_cases hp : p.1 = x
    · simp only [hp, decide_true, Option.map_some]
      rcases List.mem_cons.1 h with e | hm
      · rw [← e]
      · exact absurd hp (h1 _ hm)
    · simp only [hp, decide_false]
      rcases List.mem_cons.1 h with e | hm
      · exact absurd (by rw [← e]) hp
      · exact ih h2 hm
theorem mget_mput (kv : List (κ × Value)) (x : κ) (v : Value) (y : κ) : mget (mput kv x v) y = if y = x then some v else mget kv y := by
  unfold mput
  by_cases hh : mhas kv x = true
  · rw [if_pos hh]
    unfold mget
    induction kv with
    | nil => simp [mhas] at hh
    | cons p r ih =>
      rw [List.map_cons, List.find?_cons, List.find?_cons]
      by_cases hp : p.1 = x
      · rw [if_pos hp]
        by_cases hy : y = x
        · simp [hy]
        · have : ¬ x = y := fun e => hy e.symm
          have h2 : ¬ p.1 = y := fun e => hy (e ▸ hp)
          simp only [this, decide_false, h2, if_neg hy]
          by_cases hr : mhas r x = true
          · rw [ih hr, if_neg hy]
          · have : r.map (fun p => if p.1 = x then (x, v) else p) = r := by
              conv => rhs; rw [← List.map_id r]
              refine List.map_congr_left (fun q hq => ?_)
              rw [if_neg (fun e => hr (mhas_iff.2 ⟨q, hq, e⟩))]
              rfl
            rw [this]
      · rw [if_neg hp]
        have hr : mhas r x = true := by
          obtain ⟨q, hq, e⟩ := mhas_iff.1 hh
          rcases List.mem_cons.1 hq with rfl | hq
          · exact absurd e hp
          · exact mhas_iff.2 ⟨q, hq, e⟩
        by_cases hpy : p.1 = y
        · have hy : ¬ y = x := fun e => hp (hpy.trans e)
          simp [hpy, hy]
        · simp only [hpy, decide_false]
          exact ih hr
  · rw [if_neg hh]
    unfold mget
    rw [List.find?_append]
    by_cases hy : y = x
    · subst hy
      have : kv.find? (fun p => decide (p.1 = y)) = none := List.find?_eq_none.2 (fun p hp => by simpa using fun e => hh (mhas_iff.2 ⟨p, hp, e⟩))
      rw [this]
      simp
    · have : ¬ x = y := fun e => hy e.symm
      simp [this, hy]
theorem mem_mput {kv : List (κ × Value)} {x : κ} {v : Value} {p : κ × Value} (h : p ∈ mput kv x v) : p = (x, v) ∨ (p ∈ kv ∧ p.1 ≠ x) := by
  unfold mput at h
  split at h
  · obtain ⟨q, hq, e⟩ := List.mem_map.1 h
    split at e
    · exact .inl e.symm
    · rename_i hne
      subst e
      exact .inr ⟨hq, hne⟩
  · rename_i hh
    rcases List.mem_append.1 h with h | h
    · exact .inr ⟨h, fun e => hh (mhas_iff.2 ⟨p, h, e⟩)⟩
    · exact .inl (by simpa using h)
theorem mput_length (kv : List (κ × Value)) (x : κ) (v : Value) : (mput kv x v).length ≤ kv.length + 1 := by
  unfold mput
  split <;> simp
theorem mput_new {kv : List (κ × Value)} {x : κ} (v : Value) (h : mhas kv x = false) : mput kv x v = kv ++ [(x, v)] := by
  unfold mput
  rw [h]
  rfl
/-- What the model's search finds. -/
theorem MapIs.find (C : Enc P k enc ok) (h : MapIs w b enc ok kv) {x : κ} (hx : ok x) : ∃ es clock, w.heap[b]? = some (.map es clock) ∧ Stamped es clock ∧ es.size = kv.length ∧ es.toList.map (fun e => (e.key, e.val)) = kv.map (fun p => (enc p.1, p.2)) ∧
    (((∀ w1 : World, (Instr.findKey k (enc x) es.toList).run P w1 = .ok none w1) ∧ (∀ e ∈ es.toList, e.key ≠ enc x) ∧ mget kv x = none) ∨
      ∃ j e, (∀ w1 : World, (Instr.findKey k (enc x) es.toList).run P w1 = .ok (some (j, e.val)) w1) ∧ es[j]? = some e ∧ e.key = enc x ∧ mget kv x = some e.val ∧ kv[j]? = some (x, e.val)) := by
  have hnd := h.nodup
  obtain ⟨es, clock, hb, hs, hz, he, hok⟩ := h
  obtain ⟨lx, hlx⟩ := C.reads hx
  have hlen : es.size = kv.length := by have := congrArg List.length he; simpa using this
  have hkeys : ∀ e ∈ es.toList, ∃ l, keyOf P k e.key = some l := fun e hem => by
    have : (e.key, e.val) ∈ es.toList.map (fun e => (e.key, e.val)) := List.mem_map.2 ⟨e, hem, rfl⟩
    rw [he] at this
    obtain ⟨p, hp, hpe⟩ := List.mem_map.1 this
    simp only [Prod.mk.injEq] at hpe
    rw [← hpe.1]
    exact C.reads (hok p hp)
  refine ⟨es, clock, hb, hs, hlen, he, ?_⟩
  rcases C.keyed.find w hlx es.toList hkeys with ⟨h1, h2⟩ | ⟨j, e0, h1, h2, h3⟩
  · refine .inl ⟨fun w1 => ?_, h2, mget_none.2 (fun p hp hpx => ?_)⟩
    · rcases C.keyed.find w1 hlx es.toList hkeys with ⟨h1', _⟩ | ⟨j, e0, _, hj, h3⟩
      · exact h1'
      · exact absurd h3 (h2 e0 (List.mem_of_getElem? hj))
    · have : (enc p.1, p.2) ∈ kv.map (fun p => (enc p.1, p.2)) := List.mem_map.2 ⟨p, hp, rfl⟩
      rw [← he] at this
      obtain ⟨e, hem, hpe⟩ := List.mem_map.1 this
      simp only [Prod.mk.injEq] at hpe
      exact h2 e hem (by rw [hpe.1, hpx])
  · have hk : kv[j]? = some (x, e0.val) := by
      have h5 : (es.toList.map (fun e => (e.key, e.val)))[j]? = some (e0.key, e0.val) := by simp [List.getElem?_map, h2]
      rw [he, List.getElem?_map] at h5
      cases hq : kv[j]? with
      | none => rw [hq] at h5; cases h5
      | some q =>
        rw [hq] at h5
        simp only [Option.map_some, Option.some.injEq, Prod.mk.injEq] at h5
        rw [h3] at h5
        have e1 := C.inj h5.1
        rw [← e1, ← h5.2]
    refine .inr ⟨j, e0, fun w1 => ?_, by simpa using h2, h3, mget_of_mem hnd (List.mem_of_getElem? hk), hk⟩
    rcases C.keyed.find w1 hlx es.toList hkeys with ⟨_, hno⟩ | ⟨j', e', h1', h2', h3'⟩
    · exact absurd h3 (hno e0 (List.mem_of_getElem? h2))
    · have hst := ((stamped_iff es clock).1 hs).2.2
      have hjj : j' = j := by
        have hl' := (List.getElem?_eq_some_iff.1 h2').1
        have hl := (List.getElem?_eq_some_iff.1 h2).1
        have g' := (List.getElem?_eq_some_iff.1 h2').2
        have g := (List.getElem?_eq_some_iff.1 h2).2
        rcases Nat.lt_trichotomy j' j with hlt | heq | hgt
        · have := List.pairwise_iff_getElem.1 hst j' j hl' hl hlt
          rw [g', g, h3, h3'] at this
          exact absurd rfl this
        · exact heq
        · have := List.pairwise_iff_getElem.1 hst j j' hl hl' hgt
          rw [g', g, h3, h3'] at this
          exact absurd rfl this
      subst hjj
      rw [h2] at h2'
      obtain rfl : e0 = e' := by simpa using h2'
      exact h1'
/-- 'm[k]', 'v, ok := m[k]'. -/
theorem MapIs.lookup {t e : TypeId} (C : Enc P k enc ok) (ht : P.underlying t = some (.map k e)) {z : Value} (hz : ∀ w : World, (zeroValue e).run P w = .ok z w) (h : MapIs w b enc ok kv) {x : κ} (hx : ok x) :
    (Instr.lookup t (.map (some b)) (enc x) false).run P w = .ok ((mget kv x).getD z) w ∧
    (Instr.lookup t (.map (some b)) (enc x) true).run P w = .ok (.tuple #[(mget kv x).getD z, .bool (mget kv x).isSome]) w := by
  obtain ⟨lx, hlx⟩ := C.reads hx
  obtain ⟨es, clock, hb, hs, hsz, he, hf⟩ := h.find C hx
  rcases hf with ⟨h1, h2, h3⟩ | ⟨j, e0, h1, h2, h3, h4, h5⟩
  · constructor <;> simp [Instr.lookup, run_underlying ht, MapKept.run_getObj_map hb, C.keyed.check w _ hlx, h1, hz w, Result.andThen, h3]
  · constructor <;> simp [Instr.lookup, run_underlying ht, MapKept.run_getObj_map hb, C.keyed.check w _ hlx, h1, Result.andThen, h4]
/-- 'm[k] = v'. -/
theorem MapIs.update {t e : TypeId} (C : Enc P k enc ok) (ht : P.underlying t = some (.map k e)) (h : MapIs w b enc ok kv) (hn : kv.length < maxLen) {x : κ} (hx : ok x) (v : Value) :
    ∃ w', (Instr.mapUpdate t (.map (some b)) (enc x) v).run P w = .ok () w' ∧ MapIs w' b enc ok (mput kv x v) ∧ w.grownBy w' (some b) ∧ w'.heap.size = w.heap.size := by
  obtain ⟨lx, hlx⟩ := C.reads hx
  have hnd := h.nodup
  have hok : ∀ p ∈ kv, ok p.1 := by obtain ⟨_, _, _, _, _, _, hok⟩ := h; exact hok
  obtain ⟨es, clock, hb, hs, hsz, he, hf⟩ := h.find C hx
  rcases hf with ⟨h1, h2, h3⟩ | ⟨j, e0, h1, h2, h3, h4, h5⟩
  · have hh : mhas kv x = false := by rw [mhas_mget, h3]; rfl
    refine ⟨setBlock w b (.map (es.push ⟨enc x, v, clock⟩) (clock + 1)), ?_, ⟨_, _, heap_setBlock_same hb _, stamped_push hs h2, by simp; omega, ?_, ?_⟩, ⟨rfl, rfl, rfl, by simp [setBlock], fun i _ hi => heap_setBlock_other hb _ (fun e => hi (by rw [e]))⟩, by simp [setBlock]⟩
    · simp [Instr.mapUpdate, run_underlying ht, MapKept.run_getObj_map hb, C.keyed.check w false hlx, h1, MapKept.run_setObj_map _ hb, Result.andThen, setBlock]
    · rw [mput_new v hh]
      simp [he]
    · intro p hp
      rcases mem_mput hp with rfl | ⟨hp, _⟩
      · exact hx
      · exact hok p hp
  · have hh : mhas kv x = true := by rw [mhas_mget, h4]; rfl
    have hkeyf : ∀ e', es[j]? = some e' → ({ e' with key := enc x, val := v } : MapEntry).key = e'.key := fun e' he' => by rw [h2] at he'; cases he'; exact h3.symm
    refine ⟨setBlock w b (.map (es.modify j (fun e' => { e' with key := enc x, val := v })) clock), ?_, ⟨_, _, heap_setBlock_same hb _, stamped_modify hs _ _ (fun _ _ => rfl) (fun e' _ he' => hkeyf e' he'), by simp; omega, ?_, ?_⟩, ⟨rfl, rfl, rfl, by simp [setBlock], fun i _ hi => heap_setBlock_other hb _ (fun e => hi (by rw [e]))⟩, by simp [setBlock]⟩
    · simp [Instr.mapUpdate, run_underlying ht, MapKept.run_getObj_map hb, C.keyed.check w false hlx, h1, h2, h3, C.keyed.stays w hlx, MapKept.run_setObj_map _ hb, Result.andThen, setBlock]
    · have hj : es.toList[j]? = some e0 := by simpa using h2
      rw [Array.toList_modify, ChangeMaps.modify_eq_set _ _ _ _ hj, List.map_set, he]
      unfold mput
      rw [if_pos hh]
      apply List.ext_getElem?
      intro i
      rw [List.getElem?_set, List.getElem?_map, List.getElem?_map, List.getElem?_map]
      by_cases hij : j = i
      · subst hij
        rw [if_pos rfl, h5]
        have : j < kv.length := (List.getElem?_eq_some_iff.1 h5).1
        simp [this]
      · rw [if_neg hij]
        cases hi : kv[i]? with
        | none => rfl
        | some p =>
          have hne : p.1 ≠ x := fun ep => by
            have li := (List.getElem?_eq_some_iff.1 hi)
            have lj := (List.getElem?_eq_some_iff.1 h5)
            rcases Nat.lt_or_gt_of_ne hij with hlt | hgt
            · have := List.pairwise_iff_getElem.1 hnd j i lj.1 li.1 hlt
              rw [lj.2, li.2] at this
              exact this ep.symm
            · have := List.pairwise_iff_getElem.1 hnd i j li.1 lj.1 hgt
              rw [lj.2, li.2] at this
              exact this ep
          simp [hne]
    · intro p hp
      rcases mem_mput hp with rfl | ⟨hp, _⟩
      · exact hx
      · exact hok p hp
/-- 'm[k] = v' at the operation. -/
theorem wpList_put {t e : TypeId} {ops : Array Oper} {rest : List Oper} {o : Oper} {a : Act} {Q : Exit → Act → World → Prop} (hg : o.guard = none) (m x v : Operand) (hop : o.op = Op.mapUpdate t m x v)
    (C : Enc P k enc ok) (ht : P.underlying t = some (.map k e)) (h : MapIs w b enc ok kv) (hn : kv.length < maxLen) (hm : a.eval m = .map (some b)) {y : κ} (hy : ok y) (hx : a.eval x = enc y) (val : Value) (hv : a.eval v = val)
    (hK : ∀ w', MapIs w' b enc ok (mput kv y val) → w.grownBy w' (some b) → w'.heap.size = w.heap.size → wpList P ops Q rest (a.put o.dst undef) w') : wpList P ops Q (o :: rest) a w := by
  refine wpList_plain hg fun K' hK' => ?_
  obtain ⟨w', hrun, r1, r2, r3⟩ := h.update C ht hn hy val
  unfold Oper.wp
  simp [execOp, hop, hm, hx, hv, hrun, Result.andThen]
  exact hK' _ _ (hK w' r1 r2 r3)
/-- .. where the orders of a region are drawn. -/
theorem step_put {t e : TypeId} {ops : Array Oper} {o : Oper} {a : Act} {K : Act → World → Prop} {Q : Exit → Act → World → Prop} {E : Prop} (hgd : o.guard = none) (m x v : Operand) (hop : o.op = Op.mapUpdate t m x v)
    (C : Enc P k enc ok) (ht : P.underlying t = some (.map k e)) (h : MapIs w b enc ok kv) (hn : kv.length < maxLen) (hm : a.eval m = .map (some b)) {y : κ} (hy : ok y) (hx : a.eval x = enc y) (val : Value) (hv : a.eval v = val)
    (hK : ∀ w', MapIs w' b enc ok (mput kv y val) → w.grownBy w' (some b) → w'.heap.size = w.heap.size → K (a.put o.dst undef) w') :
    if Region.wanted o (yielded ops a.tmps) = true then Oper.wp P o a w K Q else E := by
  have hw : Region.wanted o (yielded ops a.tmps) = true := by simp [Region.wanted, hgd]
  rw [if_pos hw]
  obtain ⟨w', hrun, r1, r2, r3⟩ := h.update C ht hn hy val
  unfold Oper.wp
  simp [execOp, hop, hm, hx, hv, hrun, Result.andThen]
  exact hK w' r1 r2 r3
end
end Go.Proofs.Ytgpfhdjedebdfaa
