/- A directed graph as it lies in memory (package digraph), and how it changes when an edge is added. -/
import Derived.Test.YtlpkolmaklnffaaKeys
namespace Go.Proofs.Ytlpkolmaklnffaa
open Go.RowKit Go.MapKept

def succ (E : List (Int × Int)) (u : Int) : List Int := (E.filter (fun e => decide (e.1 = u))).map (·.2)
def pred (E : List (Int × Int)) (v : Int) : List Int := (E.filter (fun e => decide (e.2 = v))).map (·.1)
theorem succ_snoc (E : List (Int × Int)) (e : Int × Int) (u : Int) : succ (E ++ [e]) u = if u = e.1 then succ E u ++ [e.2] else succ E u := by
  unfold succ
  rw [List.filter_append]
  by_cases h : u = e.1
  · simp [h]
  · have : ¬ e.1 = u := fun x => h x.symm
    simp [h, this]
theorem pred_snoc (E : List (Int × Int)) (e : Int × Int) (v : Int) : pred (E ++ [e]) v = if v = e.2 then pred E v ++ [e.1] else pred E v := by
  unfold pred
  rw [List.filter_append]
  by_cases h : v = e.2
  · simp [h]
  · have : ¬ e.2 = v := fun x => h x.symm
    simp [h, this]
theorem succ_length (E : List (Int × Int)) (u : Int) : (succ E u).length ≤ E.length := by
  unfold succ; rw [List.length_map]; exact List.length_filter_le _ _
theorem pred_length (E : List (Int × Int)) (u : Int) : (pred E u).length ≤ E.length := by
  unfold pred; rw [List.length_map]; exact List.length_filter_le _ _

/-- The slices in a map of slices: each owns its numbers. -/
def RowsOf (w : World) (kv : List (Int × Value)) (f : Int → List Int) : Prop :=
  ∀ u, (∀ v, mget kv u = some v → w.ownsRow 0 3 1 v (f u).length ((f u).map (Value.int .i64))) ∧ (mget kv u = none → f u = [])
/-- No block is the row of both. -/
def Off (p q : Int × Value) : Prop := ∀ g, p.2.ownBlock = some g → q.2.ownBlock ≠ some g
theorem Off.symm {p q : Int × Value} (h : Off p q) : Off q p := fun g hq hp => h g hp hq
/-- (Ee, Eo, Ei: the edges as each of the three maps has them.) -/
structure GraphAt (w : World) (F : Nat → Prop) (b : Nat) (n : Int) (Ee Eo Ei : List (Int × Int)) (me mo mi : Nat) (KO KI : List (Int × Value)) : Prop where
  blk : w.heap[b]? = some (.cells #[.int .i64 n, .map (some me), .map (some mo), .map (some mi)] 85 (0, 0))
  edges : MapIs w me encE okE (Ee.map (fun e => (e, .bool true)))
  out : MapIs w mo encI okI KO
  inn : MapIs w mi encI okI KI
  rout : RowsOf w KO (succ Eo)
  rin : RowsOf w KI (pred Ei)
  offo : ∀ p ∈ KO, ∀ q ∈ KO, p.1 ≠ q.1 → Off p q
  offi : ∀ p ∈ KI, ∀ q ∈ KI, p.1 ≠ q.1 → Off p q
  offoi : ∀ p ∈ KO, ∀ q ∈ KI, Off p q
  Fb : F b
  Fe : F me
  Fo : F mo
  Fi : F mi
  Fro : ∀ p ∈ KO, ∀ g, p.2.ownBlock = some g → F g
  Fri : ∀ p ∈ KI, ∀ g, p.2.ownBlock = some g → F g
  neo : me ≠ mo
  nei : me ≠ mi
  noi : mo ≠ mi
  lo : KO.length ≤ Eo.length
  li : KI.length ≤ Ei.length
  n0 : 0 ≤ n
  n1 : n ≤ 1048576
/-- The pointer to block b is a graph with n vertices and the edges E; all its blocks are in F. -/
def IsGraph (w : World) (F : Nat → Prop) (b : Nat) (n : Int) (E : List (Int × Int)) : Prop :=
  (∃ me mo mi KO KI, GraphAt w F b n E E E me mo mi KO KI) ∧ E.Nodup ∧ ∀ e ∈ E, (0 ≤ e.1 ∧ e.1 < n) ∧ (0 ≤ e.2 ∧ e.2 < n) ∧ e.1 ≠ e.2

section
variable {w w' : World} {F G : Nat → Prop} {b : Nat} {n : Int} {E Ee Eo Ei : List (Int × Int)} {me mo mi : Nat} {KO KI : List (Int × Value)}
theorem own_only {base e : Nat} {v : Value} {m : Nat} {xs : List Value} (h : w.ownsRow base e 1 v m xs) (k : Only G w w') (hn : ∀ g, v.ownBlock = some g → ¬ G g) : w'.ownsRow base e 1 v m xs := by
  refine ⟨h.1, ?_⟩
  rcases h.2 with h2 | ⟨g, cap, cur, rfl, hb, hh, r⟩
  · exact .inl h2
  · exact .inr ⟨g, cap, cur, rfl, hb, k.heap hh (hn g rfl), r⟩
theorem RowsOf.only {kv : List (Int × Value)} {f : Int → List Int} (h : RowsOf w kv f) (k : Only G w w') (hn : ∀ p ∈ kv, ∀ g, p.2.ownBlock = some g → ¬ G g) : RowsOf w' kv f := fun u =>
  ⟨fun v hv => own_only ((h u).1 v hv) k (hn _ (mget_some hv)), (h u).2⟩
/-- It stays while none of its blocks turns. -/
theorem GraphAt.only (h : GraphAt w F b n Ee Eo Ei me mo mi KO KI) (k : Only G w w') (hn : ∀ i, F i → ¬ G i) : GraphAt w' F b n Ee Eo Ei me mo mi KO KI :=
  { h with
    blk := k.heap h.blk (hn _ h.Fb)
    edges := h.edges.only k (hn _ h.Fe)
    out := h.out.only k (hn _ h.Fo)
    inn := h.inn.only k (hn _ h.Fi)
    rout := h.rout.only k (fun p hp g hg => hn _ (h.Fro p hp g hg))
    rin := h.rin.only k (fun p hp g hg => hn _ (h.Fri p hp g hg)) }
theorem GraphAt.row_lt (h : GraphAt w F b n Ee Eo Ei me mo mi KO KI) : (∀ p ∈ KO, ∀ g, p.2.ownBlock = some g → g < w.heap.size) ∧ (∀ p ∈ KI, ∀ g, p.2.ownBlock = some g → g < w.heap.size) :=
  ⟨fun p hp g hg => (((h.rout p.1).1 p.2 (mget_of_mem h.out.nodup hp)).lt g hg).2, fun p hp g hg => (((h.rin p.1).1 p.2 (mget_of_mem h.inn.nodup hp)).lt g hg).2⟩
theorem GraphAt.mono (h : GraphAt w F b n Ee Eo Ei me mo mi KO KI) (hF : ∀ i, i < w.heap.size → F i → G i) : GraphAt w G b n Ee Eo Ei me mo mi KO KI :=
  { h with
    Fb := hF _ (Array.getElem?_eq_some_iff.1 h.blk).1 h.Fb
    Fe := hF _ h.edges.lt h.Fe
    Fo := hF _ h.out.lt h.Fo
    Fi := hF _ h.inn.lt h.Fi
    Fro := fun p hp g hg => hF _ (h.row_lt.1 p hp g hg) (h.Fro p hp g hg)
    Fri := fun p hp g hg => hF _ (h.row_lt.2 p hp g hg) (h.Fri p hp g hg) }
theorem IsGraph.only (h : IsGraph w F b n E) (k : Only G w w') (hn : ∀ i, F i → ¬ G i) : IsGraph w' F b n E := by
  obtain ⟨⟨me, mo, mi, KO, KI, g⟩, r⟩ := h
  exact ⟨⟨me, mo, mi, KO, KI, g.only k hn⟩, r⟩
theorem IsGraph.grew (h : IsGraph w F b n E) (k : Grew w w') : IsGraph w' F b n E := h.only k (fun _ _ hf => hf)
theorem IsGraph.mono (h : IsGraph w F b n E) (hF : ∀ i, i < w.heap.size → F i → G i) : IsGraph w G b n E := by
  obtain ⟨⟨me, mo, mi, KO, KI, g⟩, r⟩ := h
  exact ⟨⟨me, mo, mi, KO, KI, g.mono hF⟩, r⟩
theorem IsGraph.lt (h : IsGraph w F b n E) : b < w.heap.size := by
  obtain ⟨⟨me, mo, mi, KO, KI, g⟩, r⟩ := h
  exact (Array.getElem?_eq_some_iff.1 g.blk).1
/-- A row is no map, no graph's block. -/
theorem row_ne_map {kv : List (Int × Value)} {f : Int → List Int} (h : RowsOf w kv f) {p : Int × Value} (hg : mget kv p.1 = some p.2) {g i : Nat} {es : Array MapEntry} {c : Nat} (hp : p.2.ownBlock = some g) (hi : w.heap[i]? = some (.map es c)) : g ≠ i := by
  rintro rfl
  rcases ((h p.1).1 p.2 hg).2 with ⟨hv, _⟩ | ⟨g', cap, cur, hv, _, hh, _⟩
  · rw [hv] at hp; cases hp
  · rw [hv] at hp
    simp only [Value.ownBlock, Option.some.injEq] at hp
    subst hp
    rw [hh] at hi
    cases hi
theorem MapIs.heap_map {κ : Type} {enc : κ → Value} {ok : κ → Prop} {kv : List (κ × Value)} {i : Nat} (h : MapIs w i enc ok kv) : ∃ es c, w.heap[i]? = some (.map es c) := by
  obtain ⟨es, c, hb, _⟩ := h
  exact ⟨es, c, hb⟩
/-- The first of the three: the set of edges. -/
theorem GraphAt.edge (h : GraphAt w F b n Ee Eo Ei me mo mi KO KI) {e : Int × Int} (hg : w.grownBy w' (some me)) (hm : MapIs w' me encE okE (mput (Ee.map (fun e => (e, .bool true))) e (.bool true))) (hnew : e ∉ Ee) :
    GraphAt w' F b n (Ee ++ [e]) Eo Ei me mo mi KO KI := by
  have k : Only (fun i => i = me) w w' := Only.of_grownBy hg (fun i e => by cases e; exact .inl rfl)
  obtain ⟨es, c, hme⟩ := h.edges.heap_map
  have hh : mhas (Ee.map (fun e => (e, Value.bool true))) e = false := by
    cases hx : mhas (Ee.map (fun e => (e, Value.bool true))) e with
    | false => rfl
    | true =>
      obtain ⟨p, hp, hpe⟩ := mhas_iff.1 hx
      obtain ⟨e', he', rfl⟩ := List.mem_map.1 hp
      exact absurd (hpe ▸ he') hnew
  rw [mput_new _ hh] at hm
  exact { h with
    blk := k.heap h.blk (by rintro rfl; rw [h.blk] at hme; cases hme)
    edges := by rw [List.map_append]; exact hm
    out := h.out.only k (fun e => h.neo e.symm)
    inn := h.inn.only k (fun e => h.nei e.symm)
    rout := h.rout.only k (fun p hp g hg => row_ne_map h.rout (mget_of_mem h.out.nodup hp) hg hme)
    rin := h.rin.only k (fun p hp g hg => row_ne_map h.rin (mget_of_mem h.inn.nodup hp) hg hme) }
/-- What is in the row of the slice that the look-up handed over. -/
theorem GraphAt.outrow (h : GraphAt w F b n Ee Eo Ei me mo mi KO KI) (u : Int) : w.ownsRow 0 3 1 ((mget KO u).getD (.slice none 0 0)) (succ Eo u).length ((succ Eo u).map (Value.int .i64)) := by
  cases hm : mget KO u with
  | none => rw [(h.rout u).2 hm]; exact World.ownsRow_nil _ _ _ _
  | some v => exact (h.rout u).1 v hm
theorem GraphAt.inrow (h : GraphAt w F b n Ee Eo Ei me mo mi KO KI) (u : Int) : w.ownsRow 0 3 1 ((mget KI u).getD (.slice none 0 0)) (pred Ei u).length ((pred Ei u).map (Value.int .i64)) := by
  cases hm : mget KI u with
  | none => rw [(h.rin u).2 hm]; exact World.ownsRow_nil _ _ _ _
  | some v => exact (h.rin u).1 v hm
theorem own_ne_blk {base e : Nat} {v : Value} {m : Nat} {xs : List Value} (h : w.ownsRow base e 1 v m xs) {g t : Nat} {cs : Array Value} {fr : Nat × Nat} (hg : w.heap[g]? = some (.cells cs t fr)) (hne : e ≠ t) : v.ownBlock ≠ some g := by
  rcases h.2 with ⟨rfl, _⟩ | ⟨g', cap, cur, rfl, _, hh, _⟩
  · simp [Value.ownBlock]
  · intro he
    have : g' = g := by simpa [Value.ownBlock] using he
    subst this
    rw [hh] at hg
    injection hg with hg
    injection hg with _ ht
    exact hne ht
theorem own_ne_map {base e : Nat} {v : Value} {m : Nat} {xs : List Value} (h : w.ownsRow base e 1 v m xs) {g : Nat} {es : Array MapEntry} {c : Nat} (hg : w.heap[g]? = some (.map es c)) : v.ownBlock ≠ some g := by
  rcases h.2 with ⟨rfl, _⟩ | ⟨g', cap, cur, rfl, _, hh, _⟩
  · simp [Value.ownBlock]
  · intro he
    have : g' = g := by simpa [Value.ownBlock] using he
    subst this
    rw [hh] at hg
    cases hg
/-- A map of rows, one row of which has grown by x (its own row, or a new block), and whose entry has been laid anew. -/
theorem RowsOf.put {kv : List (Int × Value)} {f f' : Int → List Int} {w1 : World} {u x : Int} {v' : Value} {mo : Nat} {es : Array MapEntry} {c : Nat} (h : RowsOf w kv f) (hoff : ∀ p ∈ kv, ∀ q ∈ kv, p.1 ≠ q.1 → Off p q)
    (k1 : Only (fun i => ((mget kv u).getD (.slice none 0 0)).ownBlock = some i) w w1) (hrow : w1.ownsRow 0 3 1 v' ((f u).length + 1) ((f u).map (Value.int .i64) ++ [.int .i64 x]))
    (hmo : w.heap[mo]? = some (.map es c)) (k2 : Only (fun i => i = mo) w1 w') (hf : ∀ y, f' y = if y = u then f y ++ [x] else f y) : RowsOf w' (mput kv u v') f' := by
  have hvm : ((mget kv u).getD (.slice none 0 0)).ownBlock ≠ some mo := by
    cases hm : mget kv u with
    | none => simp [Value.ownBlock]
    | some v => exact own_ne_map ((h u).1 v hm) hmo
  have hmo1 : w1.heap[mo]? = some (.map es c) := k1.heap hmo hvm
  intro y
  rw [mget_mput, hf]
  by_cases hy : y = u
  · subst hy
    rw [if_pos rfl, if_pos rfl]
    refine ⟨fun v hv => ?_, fun hn => by cases hn⟩
    obtain rfl : v' = v := Option.some.inj hv
    have e1 : (f y ++ [x]).length = (f y).length + 1 := by simp
    rw [e1, List.map_append]
    refine own_only hrow k2 (fun g hg e => ?_)
    subst e
    exact own_ne_map hrow hmo1 hg
  · rw [if_neg hy, if_neg hy]
    refine ⟨fun v hv => ?_, (h y).2⟩
    have hold := (h y).1 v hv
    have hold1 : w1.ownsRow 0 3 1 v (f y).length ((f y).map (Value.int .i64)) := by
      refine own_only hold k1 (fun g hg hu => ?_)
      cases hm : mget kv u with
      | none => rw [hm] at hu; cases hu
      | some vu =>
        rw [hm] at hu
        exact hoff (y, v) (mget_some hv) (u, vu) (mget_some hm) hy g hg hu
    refine own_only hold1 k2 (fun g hg e => ?_)
    subst e
    exact own_ne_map hold1 hmo1 hg
theorem off_put {kv : List (Int × Value)} {u : Int} {v' : Value} {B : Nat} (hoff : ∀ p ∈ kv, ∀ q ∈ kv, p.1 ≠ q.1 → Off p q) (hlt : ∀ p ∈ kv, ∀ g, p.2.ownBlock = some g → g < B)
    (hloc : v'.ownBlock = ((mget kv u).getD (.slice none 0 0)).ownBlock ∨ ∃ g, v'.ownBlock = some g ∧ B ≤ g) : (∀ p ∈ mput kv u v', ∀ q ∈ mput kv u v', p.1 ≠ q.1 → Off p q) ∧
      ∀ q : Int × Value, (∀ g, q.2.ownBlock = some g → g < B) → (∀ p ∈ kv, Off p q) → ∀ p ∈ mput kv u v', Off p q := by
  have key : ∀ q : Int × Value, (∀ g, q.2.ownBlock = some g → g < B) → (∀ vu, mget kv u = some vu → Off (u, vu) q) → Off (u, v') q := by
    intro q hq hvu g hg hqg
    rcases hloc with h1 | ⟨g', h1, h2⟩
    · cases hm : mget kv u with
      | none =>
        rw [hm] at h1
        have h2 : v'.ownBlock = none := h1
        rw [show v'.ownBlock = some g from hg] at h2
        cases h2
      | some vu =>
        rw [hm] at h1
        have h2 : v'.ownBlock = vu.ownBlock := h1
        exact hvu vu hm g (h2 ▸ hg) hqg
    · have hg' : v'.ownBlock = some g := hg
      rw [h1] at hg'
      cases hg'
      have := hq _ hqg
      omega
  constructor
  · intro p hp q hq hne
    rcases mem_mput hp with rfl | ⟨hp, hpu⟩ <;> rcases mem_mput hq with rfl | ⟨hq, hqu⟩
    · exact absurd rfl hne
    · exact key q (hlt q hq) (fun vu hvu => hoff _ (mget_some hvu) q hq (fun e => hqu e.symm))
    · exact (key p (hlt p hp) (fun vu hvu => hoff _ (mget_some hvu) p hp (fun e => hpu e.symm))).symm
    · exact hoff p hp q hq hne
  · intro q hq hkq p hp
    rcases mem_mput hp with rfl | ⟨hp, hpu⟩
    · exact key q hq (fun vu hvu => hkq _ (mget_some hvu))
    · exact hkq p hp
theorem blk_ne_map {g i t : Nat} {cs : Array Value} {fr : Nat × Nat} {es : Array MapEntry} {c : Nat} (h : w.heap[g]? = some (.cells cs t fr)) (hi : w.heap[i]? = some (.map es c)) : g ≠ i := by
  rintro rfl
  rw [h] at hi
  cases hi
/-- The second: the neighbors to which edges lead. -/
theorem GraphAt.outs (h : GraphAt w F b n Ee Eo Ei me mo mi KO KI) {w1 : World} {u x : Int} {v' : Value}
    (k1 : Only (fun i => ((mget KO u).getD (.slice none 0 0)).ownBlock = some i) w w1) (hrow : w1.ownsRow 0 3 1 v' ((succ Eo u).length + 1) ((succ Eo u).map (Value.int .i64) ++ [.int .i64 x]))
    (hloc : v'.ownBlock = ((mget KO u).getD (.slice none 0 0)).ownBlock ∨ ∃ g, v'.ownBlock = some g ∧ w.heap.size ≤ g) (k2 : Only (fun i => i = mo) w1 w')
    (hm : MapIs w' mo encI okI (mput KO u v')) (hF : ∀ i, w.heap.size ≤ i → F i) : GraphAt w' F b n Ee (Eo ++ [(u, x)]) Ei me mo mi (mput KO u v') KI := by
  obtain ⟨ese, ce, hme⟩ := h.edges.heap_map
  obtain ⟨eso, co, hmo⟩ := h.out.heap_map
  obtain ⟨esi, ci, hmi⟩ := h.inn.heap_map
  have hr := h.outrow u
  have nb := own_ne_blk hr h.blk (by decide)
  have ne := own_ne_map hr hme
  have no := own_ne_map hr hmo
  have ni := own_ne_map hr hmi
  have hoi : ∀ p ∈ KI, ∀ g, p.2.ownBlock = some g → ((mget KO u).getD (.slice none 0 0)).ownBlock ≠ some g := by
    intro p hp g hg hv
    cases hmm : mget KO u with
    | none => rw [hmm] at hv; cases hv
    | some vu =>
      rw [hmm] at hv
      exact h.offoi (u, vu) (mget_some hmm) p hp g hv hg
  have hop := off_put h.offo h.row_lt.1 hloc
  have hin1 := h.rin.only k1 (fun p hp g hg => hoi p hp g hg)
  have hmo1 := k1.heap hmo no
  exact { h with
    blk := k2.heap (k1.heap h.blk nb) (blk_ne_map h.blk hmo)
    edges := (h.edges.only k1 ne).only k2 h.neo
    out := hm
    inn := (h.inn.only k1 ni).only k2 (fun e => h.noi e.symm)
    rout := h.rout.put h.offo k1 hrow hmo k2 (fun y => succ_snoc Eo (u, x) y)
    rin := hin1.only k2 (fun p hp g hg => row_ne_map hin1 (mget_of_mem h.inn.nodup hp) hg hmo1)
    lo := by have := mput_length KO u v'; have := h.lo; simp; omega
    offo := hop.1
    offoi := fun p hp q hq => hop.2 q (h.row_lt.2 q hq) (fun p' hp' => h.offoi p' hp' q hq) p hp
    Fro := fun p hp g hg => by
      rcases mem_mput hp with rfl | ⟨hp, _⟩
      · rcases hloc with h1 | ⟨g', h1, h2⟩
        · replace hg : v'.ownBlock = some g := hg
          rw [h1] at hg
          cases hmm : mget KO u with
          | none => rw [hmm] at hg; cases hg
          | some vu => rw [hmm] at hg; exact h.Fro _ (mget_some hmm) g hg
        · replace hg : v'.ownBlock = some g := hg
          rw [h1] at hg
          cases hg
          exact hF _ h2
      · exact h.Fro p hp g hg }
/-- The third: the neighbors from which edges lead. -/
theorem GraphAt.ins (h : GraphAt w F b n Ee Eo Ei me mo mi KO KI) {w1 : World} {u x : Int} {v' : Value}
    (k1 : Only (fun i => ((mget KI x).getD (.slice none 0 0)).ownBlock = some i) w w1) (hrow : w1.ownsRow 0 3 1 v' ((pred Ei x).length + 1) ((pred Ei x).map (Value.int .i64) ++ [.int .i64 u]))
    (hloc : v'.ownBlock = ((mget KI x).getD (.slice none 0 0)).ownBlock ∨ ∃ g, v'.ownBlock = some g ∧ w.heap.size ≤ g) (k2 : Only (fun i => i = mi) w1 w')
    (hm : MapIs w' mi encI okI (mput KI x v')) (hF : ∀ i, w.heap.size ≤ i → F i) : GraphAt w' F b n Ee Eo (Ei ++ [(u, x)]) me mo mi KO (mput KI x v') := by
  obtain ⟨ese, ce, hme⟩ := h.edges.heap_map
  obtain ⟨eso, co, hmo⟩ := h.out.heap_map
  obtain ⟨esi, ci, hmi⟩ := h.inn.heap_map
  have hr := h.inrow x
  have nb := own_ne_blk hr h.blk (by decide)
  have ne := own_ne_map hr hme
  have no := own_ne_map hr hmo
  have ni := own_ne_map hr hmi
  have hoi : ∀ p ∈ KO, ∀ g, p.2.ownBlock = some g → ((mget KI x).getD (.slice none 0 0)).ownBlock ≠ some g := by
    intro p hp g hg hv
    cases hmm : mget KI x with
    | none => rw [hmm] at hv; cases hv
    | some vu =>
      rw [hmm] at hv
      exact h.offoi p hp (x, vu) (mget_some hmm) g hg hv
  have hop := off_put h.offi h.row_lt.2 hloc
  have hin1 := h.rout.only k1 (fun p hp g hg => hoi p hp g hg)
  have hmi1 := k1.heap hmi ni
  exact { h with
    blk := k2.heap (k1.heap h.blk nb) (blk_ne_map h.blk hmi)
    edges := (h.edges.only k1 ne).only k2 h.nei
    inn := hm
    out := (h.out.only k1 no).only k2 h.noi
    rin := h.rin.put h.offi k1 hrow hmi k2 (fun y => pred_snoc Ei (u, x) y)
    rout := hin1.only k2 (fun p hp g hg => row_ne_map hin1 (mget_of_mem h.out.nodup hp) hg hmi1)
    li := by have := mput_length KI x v'; have := h.li; simp; omega
    offi := hop.1
    offoi := fun p hp q hq => (hop.2 p (h.row_lt.1 p hp) (fun q' hq' => (h.offoi p hp q' hq').symm) q hq).symm
    Fri := fun p hp g hg => by
      rcases mem_mput hp with rfl | ⟨hp, _⟩
      · rcases hloc with h1 | ⟨g', h1, h2⟩
        · replace hg : v'.ownBlock = some g := hg
          rw [h1] at hg
          cases hmm : mget KI x with
          | none => rw [hmm] at hg; cases hg
          | some vu => rw [hmm] at hg; exact h.Fri _ (mget_some hmm) g hg
        · replace hg : v'.ownBlock = some g := hg
          rw [h1] at hg
          cases hg
          exact hF _ h2
      · exact h.Fri p hp g hg }
/-- The new graph. -/
theorem IsGraph.new {n : Int} (h0 : 0 ≤ n) (h1 : n ≤ 1048576) (w : World) :
    IsGraph ((((w.alloc (.map #[] 0)).alloc (.map #[] 0)).alloc (.map #[] 0)).alloc (.cells #[.int .i64 n, .map (some w.heap.size), .map (some (w.heap.size + 1)), .map (some (w.heap.size + 2))] 85))
      (fun k => w.heap.size ≤ k ∧ k < w.heap.size + 4) (w.heap.size + 3) n [] := by
  have a0 := MapIs.made w encE okE
  have a1 := MapIs.made (w.alloc (.map #[] 0)) encI okI
  have a2 := MapIs.made ((w.alloc (.map #[] 0)).alloc (.map #[] 0)) encI okI
  simp only [World.size_alloc] at a1 a2
  refine ⟨⟨w.heap.size, w.heap.size + 1, w.heap.size + 2, [], [], ?_⟩, by simp, by simp⟩
  exact {
    blk := by have := heap_alloc_new (((w.alloc (.map #[] 0)).alloc (.map #[] 0)).alloc (.map #[] 0)) (.cells #[.int .i64 n, .map (some w.heap.size), .map (some (w.heap.size + 1)), .map (some (w.heap.size + 2))] 85); simpa using this
    edges := ((a0.only (Only.alloc (F := fun _ => False) _ _) (fun h => h)).only (Only.alloc (F := fun _ => False) _ _) (fun h => h)).only (Only.alloc (F := fun _ => False) _ _) (fun h => h)
    out := (a1.only (Only.alloc (F := fun _ => False) _ _) (fun h => h)).only (Only.alloc (F := fun _ => False) _ _) (fun h => h)
    inn := a2.only (Only.alloc (F := fun _ => False) _ _) (fun h => h)
    rout := fun u => ⟨fun v hv => by simp [mget] at hv, fun _ => rfl⟩
    rin := fun u => ⟨fun v hv => by simp [mget] at hv, fun _ => rfl⟩
    offo := by simp
    offi := by simp
    offoi := by simp
    Fb := by omega
    Fe := by omega
    Fo := by omega
    Fi := by omega
    Fro := by simp
    Fri := by simp
    neo := by omega
    nei := by omega
    noi := by omega
    lo := by simp
    li := by simp
    n0 := h0
    n1 := h1 }
end
end Go.Proofs.Ytlpkolmaklnffaa
