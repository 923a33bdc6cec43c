/- Entries of extents; the sort of a row of entries that is the call's own. -/
import Derived.Test.YtgpfhdjedebdfaaIx4
import Derived.Test.YtgpfhdjedebdfaaShelf
import Derived.Shelf.SlSortCmp.WholeK
namespace Go.Proofs.Ytgpfhdjedebdfaa
open Go.RowKit Go.MapKept

def entsFrom : Nat → List (Int × Int) → List Ent
  | _, [] => []
  | k, e :: t => (e, (k : Int)) :: entsFrom (k + 1) t
def ents (l : List (Int × Int)) : List Ent := entsFrom 0 l
theorem entsFrom_snoc (e : Int × Int) : ∀ (t : List (Int × Int)) (k : Nat), entsFrom k (t ++ [e]) = entsFrom k t ++ [(e, ((k + t.length : Nat) : Int))]
  | [], k => rfl
  | x :: t, k => by
    simp only [List.cons_append, entsFrom, entsFrom_snoc e t (k + 1), List.length_cons]
    rw [show k + 1 + t.length = k + (t.length + 1) by omega]
theorem ents_snoc (t : List (Int × Int)) (e : Int × Int) : ents (t ++ [e]) = ents t ++ [(e, (t.length : Int))] := by unfold ents; rw [entsFrom_snoc, Nat.zero_add]
theorem entsFrom_length : ∀ (t : List (Int × Int)) (k : Nat), (entsFrom k t).length = t.length
  | [], _ => rfl
  | _ :: t, k => by simp [entsFrom, entsFrom_length t (k + 1)]
theorem ents_length (l : List (Int × Int)) : (ents l).length = l.length := entsFrom_length l 0
theorem entsFrom_get : ∀ (t : List (Int × Int)) (k i : Nat), (entsFrom k t)[i]? = (t[i]?).map fun e => (e, ((k + i : Nat) : Int))
  | [], _, i => by simp [entsFrom]
  | e :: t, k, 0 => by simp [entsFrom]
  | e :: t, k, i + 1 => by
    simp only [entsFrom, List.getElem?_cons_succ]
    rw [entsFrom_get t (k + 1) i, show k + 1 + i = k + (i + 1) by omega]
theorem ents_get (l : List (Int × Int)) (i : Nat) : (ents l)[i]? = (l[i]?).map fun e => (e, (i : Int)) := by unfold ents; rw [entsFrom_get]; simp
theorem mem_ents {l : List (Int × Int)} {x : Ent} : x ∈ ents l ↔ ∃ i : Nat, l[i]? = some x.1 ∧ x.2 = (i : Int) := by
  rw [List.mem_iff_getElem?]
  constructor
  · rintro ⟨i, hi⟩
    rw [ents_get] at hi
    cases he : l[i]? with
    | none => rw [he] at hi; cases hi
    | some e =>
      rw [he] at hi
      simp only [Option.map_some, Option.some.injEq] at hi
      subst hi
      exact ⟨i, he, rfl⟩
  · rintro ⟨i, hi, h2⟩
    refine ⟨i, ?_⟩
    rw [ents_get, hi]
    simp only [Option.map_some, Option.some.injEq]
    exact Prod.ext rfl h2.symm
def encT (x : Ent) : List Value := [.int .i64 x.1.1, .int .i64 x.1.2, .int .i64 x.2]
def cellsT (S : List Ent) : List Value := S.flatMap encT
theorem cellsT_length (S : List Ent) : (cellsT S).length = S.length * 3 := by
  unfold cellsT
  induction S with
  | nil => rfl
  | cons e r ih => simp [ih, encT]; omega
theorem cellsT_snoc (S : List Ent) (x : Ent) : cellsT (S ++ [x]) = cellsT S ++ encT x := by simp [cellsT]
theorem cellsT_get : ∀ (S : List Ent) (j c : Nat), j < S.length → c < 3 → (cellsT S)[j * 3 + c]? = (encT (S[j]?.getD dE))[c]?
  | [], j, c, hj, _ => by simp at hj
  | x :: S, 0, c, _, hc => by
    show (encT x ++ cellsT S)[0 * 3 + c]? = _
    rw [List.getElem?_append_left (by simp [encT]; omega)]
    simp
  | x :: S, j + 1, c, hj, hc => by
    show (encT x ++ cellsT S)[(j + 1) * 3 + c]? = _
    rw [List.getElem?_append_right (by simp [encT]; omega)]
    have e1 : (j + 1) * 3 + c - (encT x).length = j * 3 + c := by simp [encT]; omega
    rw [e1, cellsT_get S j c (by simpa using hj) hc]
    simp
/-- What the call owns reads so. -/
theorem SlT.of_own {w : World} {base n c : Nat} {A : Option Addr} {S : List Ent} (h : w.ownsRow base 54 3 (.slice A n c) n (cellsT S)) : n = S.length ∧ SlT w A S := by
  have hn : n = S.length := by
    have := h.1
    rw [cellsT_length] at this
    omega
  refine ⟨hn, fun hp => ?_⟩
  rcases h.2 with ⟨hv, h0⟩ | ⟨g, cap, cur, hv, hb, hg, hnc, hcm, hcs, ht⟩
  · omega
  · injection hv with h1 h2 h3
    subst h1
    refine ⟨g, 0, rfl, fun j hj => ?_⟩
    have key : ∀ c, c < 3 → ∀ u, (encT (S[j]?.getD dE))[c]? = some u → w.cell? ⟨g, 0 + j * 3 + c, none⟩ = some u := fun c hc u hu => by
      rw [← cellsT_get S j c hj hc, ← ht, List.getElem?_take, if_pos (by omega)] at hu
      unfold World.cell?
      simp only [hg]
      simpa using hu
    exact ⟨key 0 (by omega) _ rfl, key 1 (by omega) _ rfl, key 2 (by omega) _ rfl⟩
theorem cmp_at (x y : Int) (w : World) : Calls Try.prog 33 #[.int .i64 x, .int .i64 y] w fun e w' => e = .returned (.int .i64 (Lib.compareInt x y)) ∧ w' = w := Try.cmp_Compare_int x y w
theorem sortf_at (x y : Ent) (W : World) : Calls Try.prog 32 #[.agg #[.int .i64 x.1.1, .int .i64 x.1.2, .int .i64 x.2], .agg #[.int .i64 y.1.1, .int .i64 y.1.2, .int .i64 y.2]] W fun e w' => e = .returned (.int .i64 (Lib.compareInt x.1.1 y.1.1)) ∧ ∃ q os', w' = Sort.grow (W.drewN q) os' := by
  have hcon := fun W' => cmp_at x.1.1 y.1.1 W'
  generalize Lib.compareInt x.1.1 y.1.1 = r at hcon ⊢
  go_enter Try.func32, Try.ntmps32
  go_wp2_with (go_at_call 33; refine (hcon _).mono ?_; rintro e w' ⟨rfl, rfl⟩)
  go_ret
  exact ⟨rfl, 0, _, by rw [Sort.alloc_eq_grow, Sort.alloc_eq_grow, Sort.grow_grow]; rfl⟩
def cfT (x y : Ent) : Int := Lib.compareInt x.1.1 y.1.1
theorem ltT (x y : Ent) : Go.Proofs.ltOf cfT x y = decide (x.1.1 < y.1.1) := by
  unfold Go.Proofs.ltOf cfT Lib.compareInt
  by_cases h1 : x.1.1 < y.1.1
  · simp [h1]
  · by_cases h2 : y.1.1 < x.1.1 <;> simp [h1, h2]
theorem swoT : Sort.SWO (Go.Proofs.ltOf cfT) where
  irrefl x := by rw [ltT]; simp
  trans x y z h1 h2 := by rw [ltT] at *; simp at *; omega
  ntrans x y z h1 h2 := by rw [ltT] at *; simp at *; omega
theorem eg32 (args : Array Value) (w : World) : (callFunc 32 args).run Try.prog w = .ok (.enter 32 args) w := enters_of Try.func32 (by kernel_rfl) rfl args w
theorem Only.putRowK (F : Nat → Prop) (w : World) (blk off : Nat) (d : Array Ent) (hb : F blk) : Only F w (Sort.putRowK encT 3 w blk off d) :=
  ⟨rfl, rfl, rfl, by show w.heap.size ≤ (w.heap.modify blk _).size; rw [Array.size_modify]; exact Nat.le_refl _, fun k _ hn => by
    show (w.heap.modify blk _)[k]? = _
    rw [Array.getElem?_modify, if_neg (fun e : blk = k => hn (e ▸ hb))]⟩
theorem Only.growS (F : Nat → Prop) (w : World) (os : Array Obj) : Only F w (Sort.grow w os) :=
  ⟨rfl, rfl, rfl, by show w.heap.size ≤ (w.heap ++ os).size; rw [Array.size_append]; omega, fun k hk _ => by
    show (w.heap ++ os)[k]? = _
    rw [Array.getElem?_append_left hk]⟩
theorem Only.aheadS (F : Nat → Prop) (w : World) (q : Nat) : Only F w (Sort.ahead w q) := ⟨rfl, rfl, rfl, Nat.le_refl _, fun _ _ _ => rfl⟩
theorem getElem!_toArray (S : List Ent) (j : Nat) (hj : j < S.length) : S.toArray[j]! = S[j]?.getD default := by
  rw [getElem!_pos S.toArray j (by simpa using hj), List.getElem?_eq_getElem hj]
  simp
theorem SlT.holds {w : World} {g : Nat} {S : List Ent} {cur : Array Value} (hg : w.heap[g]? = some (.cells cur 54 (0, 0))) (h : SlT w (some ⟨g, 0, none⟩) S) : Sort.HoldsK encT 3 w g 0 S.toArray := fun t ht => by
  rw [Sort.size_flatK] at ht
  have ht' : t < S.length * 3 := by simpa using ht
  have hj : t / 3 < S.length := by omega
  rw [Sort.get_flatK encT 3 S.toArray t ht, getElem!_toArray S _ hj]
  obtain ⟨b, off, e, hc⟩ := h (by omega)
  cases e
  have h3 := hc (t / 3) hj
  have hr : t % 3 = 0 ∨ t % 3 = 1 ∨ t % 3 = 2 := by omega
  refine ⟨?_, by unfold World.frozen?; simp [hg]⟩
  have hd : S[t / 3]?.getD default = S[t / 3]?.getD dE := by rw [List.getElem?_eq_getElem hj]; rfl
  rw [hd]
  rcases hr with hr | hr | hr
  · have e1 : 0 + t = 0 + t / 3 * 3 := by omega
    rw [hr, e1]
    exact h3.1
  · have e1 : 0 + t = 0 + t / 3 * 3 + 1 := by omega
    rw [hr, e1]
    exact h3.2.1
  · have e1 : 0 + t = 0 + t / 3 * 3 + 2 := by omega
    rw [hr, e1]
    exact h3.2.2
theorem SlT.of_holds {w : World} {g : Nat} {d : Array Ent} (h : Sort.HoldsK encT 3 w g 0 d) : SlT w (some ⟨g, 0, none⟩) d.toList := fun _ => by
  refine ⟨g, 0, rfl, fun j hj => ?_⟩
  have hj' : j < d.size := by simpa using hj
  have hd : d.toList[j]?.getD dE = d[j]! := by rw [List.getElem?_eq_getElem hj, getElem!_pos d j hj']; simp
  rw [hd]
  exact ⟨(h.cell hj' (c := 0) (by omega)).1, (h.cell hj' (c := 1) (by omega)).1, (h.cell hj' (c := 2) (by omega)).1⟩
theorem sort_at (base n c : Nat) (A : Option Addr) (S : List Ent) (w : World) (hv : w.ownsRow base 54 3 (.slice A n c) n (cellsT S)) (hp : 0 < S.length) (hlen : S.length ≤ 1048576) :
    Calls Try.prog 31 #[.slice A n c, .func (.func 32) #[] #[]] w fun e w' => e = .returned (.tuple #[]) ∧ ∃ S', S'.Perm S ∧ S'.Pairwise (fun x y => x.1.1 ≤ y.1.1) ∧ SlT w' A S' ∧ Only (fun i => (Value.slice A n c).ownBlock = some i) w w' := by
  obtain ⟨hn, hs⟩ := SlT.of_own hv
  subst hn
  rcases hv.2 with ⟨hv1, h0⟩ | ⟨g, cap, cur, hv1, hb, hg, hnc, hcm, hcs, ht⟩
  · omega
  · injection hv1 with h1 h2 h3
    subst h1 h3
    have hH := SlT.holds hg hs
    have h := Go.Proofs.AnyQ.slices_SortFunc Try.laysSortF 3 Try.isAgg54 Try.sizeOf54 encT (fun _ => rfl) (fun x v hv => by simp [encT] at hv; rcases hv with rfl | rfl | rfl <;> rfl) cfT swoT 32 #[] g 0 c S.toArray w eg32
      (fun m os dk _ x y => sortf_at x y _) hH (Array.getElem?_eq_some_iff.1 hg).1 (by simp; omega)
    simp only [List.size_toArray] at h
    change Calls Try.prog 31 _ _ _ at h
    refine h.mono ?_
    clear h
    rintro e w' ⟨rfl, d', m, os, hpm, hsd, rfl⟩
    have hsz : d'.size = S.length := by have := hpm.1; simpa using this
    refine ⟨rfl, d'.toList, ?_, ?_, ?_, ((Only.aheadS (fun i => (Value.slice (some ⟨g, 0, none⟩) S.length c).ownBlock = some i) w m).trans (Only.putRowK (fun i => (Value.slice (some ⟨g, 0, none⟩) S.length c).ownBlock = some i) _ g 0 d' rfl) (fun _ _ h => h)).trans (Only.growS _ _ os) (fun _ _ h => h)⟩
    · have := hpm.2.2
      have e1 : (d'.extract 0 S.length).toList = d'.toList := by rw [← hsz]; simp
      have e2 : (S.toArray.extract 0 S.length).toList = S := by simp
      rw [e1, e2] at this
      exact this
    · rw [List.pairwise_iff_getElem]
      intro i j hi hj hij
      have := hsd i j (Nat.zero_le _) hij (by simpa [← hsz] using hj)
      rw [ltT, getElem!_pos d' j (by simpa using hj), getElem!_pos d' i (by simpa using hi)] at this
      simp at this
      simpa using this
    · refine SlT.of_holds ?_
      refine Sort.holdsK_grow encT 3 _ os g 0 d' ?_ (Sort.holdsK_putRowK encT 3 _ g 0 S.toArray d' (Sort.holdsK_ahead encT 3 w m g 0 S.toArray hH) (by simp [hsz]))
      show g < (w.heap.modify g _).size
      rw [Array.size_modify]
      exact (Array.getElem?_eq_some_iff.1 hg).1
end Go.Proofs.Ytgpfhdjedebdfaa
