/- The walk of Gaps. -/
import Derived.Test.YtgpfhdjedebdfaaIx8
import Derived.Laws.EntriesVeiled
namespace Go.Proofs.Ytgpfhdjedebdfaa
open Go.RowKit Go.MapKept Go.Shelf Go.Maps

theorem info_ext : (Try.prog.info? 28).map (fun i => (i.zero, i.size, i.bytes)) = some (some (.agg #[.int .i64 0, .int .i64 0]), 2, 16) := by kernel_rfl
def cellsE (l : List (Int × Int)) : List Value := l.flatMap (fun x => [.int .i64 x.1, .int .i64 x.2])
theorem cellsE_snoc (l : List (Int × Int)) (x : Int × Int) : cellsE (l ++ [x]) = cellsE l ++ [.int .i64 x.1, .int .i64 x.2] := by simp [cellsE]
theorem news2 {w : World} {b : Nat} {x y : Value} {t : TypeId} (h : w.heap[b]? = some (.cells #[x, y] t (0, 0))) : ∀ j u, [x, y][j]? = some u → w.cell? ((⟨b, 0, none⟩ : Addr).add j) = some u := by
  intro j u hu
  have hadd : (⟨b, 0, none⟩ : Addr).add j = ⟨b, 0 + j, none⟩ := by unfold Addr.add; split <;> simp_all
  rw [hadd]
  unfold World.cell?
  simp only [h]
  simpa using hu
/-- What the closure gap adds. -/
def gapL (a e : Int) (xs : List (Int × Int)) : List (Int × Int) := if a < e then xs ++ [(a, RowKit.wrap64 (e - a))] else xs
set_option maxHeartbeats 1000000 in
theorem endw_at (a b : Int) (w : World) :
    Calls Try.prog 34 #[.agg #[.int .i64 a, .int .i64 b]] w fun e w' => e = .returned (.int .i64 (RowKit.wrap64 (a + b))) ∧ w' = w.alloc (.cells #[.int .i64 a, .int .i64 b] 28) := by
  obtain ⟨r, hr⟩ : ∃ r : Int, RowKit.wrap64 (a + b) = r := ⟨_, rfl⟩
  have hr2 : IntKind.i64.wrap (a + b) = r := by rw [IntWalk.i64_left]; exact hr
  rw [hr]
  go_enter Try.func34, Try.ntmps34
  go_wp2
  go_ret
  exact ⟨rfl, rfl⟩
set_option maxHeartbeats 2000000 in
theorem gapf_at (Ba Bo base : Nat) (a e : Int) (v : Value) (xs : List (Int × Int)) (W : World) (hlt : Bo < base ∧ base ≤ W.heap.size) (ha : W.heap[Ba]? = some (.cells #[.int .i64 a] 3 (0, 0))) (ho : W.heap[Bo]? = some (.cells #[v] 22 (0, 0)))
    (hrow : W.ownsRow base 28 2 v xs.length (cellsE xs)) (hl : xs.length ≤ 1048577) :
    Calls Try.prog 39 #[.int .i64 e, .pointer (some ⟨Ba, 0, none⟩), .pointer (some ⟨Bo, 0, none⟩)] W fun en W' => en = .returned (.tuple #[]) ∧ Only (fun i => i = Bo ∨ v.ownBlock = some i) W W' ∧ KeepsOthers W W' ∧ ∃ v', W'.heap[Bo]? = some (.cells #[v'] 22 (0, 0)) ∧ W'.ownsRow base 28 2 v' (gapL a e xs).length (cellsE (gapL a e xs)) := by
  obtain ⟨i0, hi, hz0, hz1, hz2⟩ := info_parts info_ext
  have HI := hid (And.intro hi (And.intro hz0 (And.intro hz1 hz2)))
  have k1 := cell_of_one ha
  have k2 := cell_of_one ho
  have HH := hid (And.intro ho (And.intro hrow ha))
  clear hi hz0 hz1 hz2 ha ho hrow
  by_cases hae : a < e
  · have hd : decide (a < e) = true := by simpa using hae
    have HG : Hid (gapL a e xs = xs ++ [(a, RowKit.wrap64 (e - a))]) := hid (by unfold gapL; rw [if_pos hae])
    obtain ⟨r, hr⟩ : ∃ r : Int, RowKit.wrap64 (e - a) = r := ⟨_, rfl⟩
    have hr2 : IntKind.i64.wrap (e - a) = r := by rw [IntWalk.i64_left]; exact hr
    have HR := hid hr
    clear hae hr
    go_enter Try.func39, Try.ntmps39
    go_wp2_with (at_builtin; go_loud (refine wpList_append_own_at _ rfl (.tmp 7) (.tmp 13) 22 rfl base 28 i0 _ 2 16 Try.underlying22 HI.out.1 HI.out.2.1 HI.out.2.2.1 HI.out.2.2.2 rfl (by omega) _ xs.length (cellsE xs) rfl (own_keep HH.out.2.1 (Only.alloc (F := fun _ => False) W (.cells #[.int .i64 a, .int .i64 r] 28)) (fun _ _ h => h)) ⟨W.heap.size, 0, none⟩ 1 1 [.int .i64 a, .int .i64 r] rfl rfl (news2 (heap_alloc_new _ _)) (by intro u hu; simp at hu; rcases hu with rfl | rfl <;> rfl) (by unfold maxLen; omega) (by omega) (by simp; omega) ?_; intro v8 w8 hown8 hgrow8 _ _; obtain ⟨g8, c8, rfl⟩ := ownsRow_succ hown8; (have k8 : Only (fun i => v.ownBlock = some i) W w8 := (Only.alloc W _).trans (Only.of_grownBy hgrow8 (fun i e => .inl e)) (fun _ _ h => h)); have h3 := k8.heap HH.out.1 (fun h => by have := (World.ownsRow.lt HH.out.2.1 _ h).1; omega); have f8 := free_of_one h3; have e8 := cell_of_one h3))
    go_end0
    refine ⟨rfl, (k8.mono (fun i _ h => .inr h)).trans (Only.setCell (F := fun i => i = Bo ∨ v.ownBlock = some i) w8 (p := ⟨Bo, 0, none⟩) (.inl rfl) _) (fun _ _ h => h), ((KeepsOthers.alloc W _).trans (KeepsOthers.of_grownBy hgrow8 (fun j o e ho => own_cells (own_keep HH.out.2.1 (Only.alloc (F := fun _ => False) W (.cells #[.int .i64 a, .int .i64 r] 28)) (fun _ _ h => h)) e ho))).trans (KeepsOthers.setCell _ _ _), _, one_setCell h3, ?_⟩
    rw [HG.out, HR.out, List.length_append, cellsE_snoc]
    refine ownsRow_setCell_other hown8 ?_ _
    intro h
    have h2 : base ≤ Bo := (World.ownsRow.lt hown8 _ h).1
    omega
  · have hd : decide (a < e) = false := by simpa using hae
    have HG : Hid (gapL a e xs = xs) := hid (by unfold gapL; rw [if_neg hae])
    clear hae
    go_enter Try.func39, Try.ntmps39
    go_wp2
    go_end0
    rw [HG.out]
    exact ⟨rfl, Only.refl _ _, KeepsOthers.refl _, v, HH.out.1, HH.out.2.1⟩
/-- What has been added, and the offset from which a gap may begin, when the parts have come. -/
def gst (c : Int) (l : List Part) : List (Int × Int) × Int := l.foldl (fun s x => (gapL s.2 x.2.1 s.1, RowKit.wrap64 (x.2.1 + x.2.2))) ([], c)
theorem gst_snoc (c : Int) (l : List Part) (x : Part) : gst c (l ++ [x]) = (gapL (gst c l).2 x.2.1 (gst c l).1, RowKit.wrap64 (x.2.1 + x.2.2)) := by simp [gst]
theorem gapL_length (a e : Int) (xs : List (Int × Int)) : (gapL a e xs).length ≤ xs.length + 1 := by
  unfold gapL
  split <;> simp
theorem gst_length (c : Int) : ∀ (l : List Part), (gst c l).1.length ≤ l.length := fun l => by
  suffices h : ∀ k, k = l.length → (gst c l).1.length ≤ k from h _ rfl
  intro k
  induction k generalizing l with
  | zero =>
    intro hk
    obtain rfl := List.eq_nil_of_length_eq_zero hk.symm
    simp [gst]
  | succ k ih =>
    intro hk
    obtain ⟨l', x, rfl⟩ : ∃ l' x, l = l' ++ [x] := ⟨l.dropLast, l.getLast (by intro h; subst h; simp at hk), (List.dropLast_concat_getLast _).symm⟩
    have h1 := ih l' (by simpa using hk)
    rw [gst_snoc]
    have := gapL_length (gst c l').2 x.2.1 (gst c l').1
    simp only
    omega
/-- What stands where the loop of Gaps begins. -/
def SixAt (w W0 : World) (q : Option Addr) (c d : Int) : Prop :=
  Grew w W0 ∧ W0.heap.size = w.heap.size + 6 ∧ W0.heap[w.heap.size]? = some (.cells #[.int .i64 c, .int .i64 d] 28 (0, 0)) ∧ W0.heap[w.heap.size + 1]? = some (.cells #[.slice none 0 0] 22 (0, 0)) ∧ W0.heap[w.heap.size + 2]? = some (.cells #[.int .i64 c] 3 (0, 0)) ∧ W0.cell? ⟨w.heap.size + 3, 0, none⟩ = some (.func (.func 39) #[] #[.pointer (some ⟨w.heap.size + 2, 0, none⟩), .pointer (some ⟨w.heap.size + 1, 0, none⟩)]) ∧ W0.cell? ⟨w.heap.size + 4, 0, none⟩ = some (.pointer q) ∧ W0.cell? ⟨w.heap.size + 5, 0, none⟩ = some (.int .i64 c) ∧ W0.cell? ⟨w.heap.size + 5, 1, none⟩ = some (.int .i64 d)
/-- What the loop of Gaps may write. -/
def Fw2 (s : Nat) (i : Nat) : Prop := i = s + 1 ∨ i = s + 2 ∨ s + 6 ≤ i
theorem six_cells (w : World) (q : Option Addr) (c d : Int) (W0 : World) (hW : W0 = (((((w.alloc (.cells #[.int .i64 c, .int .i64 d] 28)).alloc (.cells #[.slice none 0 0] 22)).alloc (.cells #[.int .i64 c] 3)).alloc (.cells #[.func (.func 39) #[] #[.pointer (some ⟨w.heap.size + 1 + 1, 0, none⟩), .pointer (some ⟨w.heap.size + 1, 0, none⟩)]] 62)).alloc (.cells #[.pointer q] 25)).alloc (.cells #[.int .i64 c, .int .i64 d] 28)) :
    SixAt w W0 q c d := by
  obtain ⟨w1, e1⟩ : ∃ w1, w.alloc (.cells #[.int .i64 c, .int .i64 d] 28) = w1 := ⟨_, rfl⟩
  have g1 := heap_alloc_new w (.cells #[.int .i64 c, .int .i64 d] 28)
  have s1 : w1.heap.size = w.heap.size + 1 := by rw [← e1]; simp
  have a1 : Grew w w1 := by rw [← e1]; exact Only.alloc _ _
  rw [e1] at hW g1
  obtain ⟨w2, e2⟩ : ∃ w2, w1.alloc (.cells #[.slice none 0 0] 22) = w2 := ⟨_, rfl⟩
  have g2 := heap_alloc_new w1 (.cells #[.slice none 0 0] 22)
  have s2 : w2.heap.size = w1.heap.size + 1 := by rw [← e2]; simp
  have a2 : Grew w1 w2 := by rw [← e2]; exact Only.alloc _ _
  rw [e2] at hW g2
  obtain ⟨w3, e3⟩ : ∃ w3, w2.alloc (.cells #[.int .i64 c] 3) = w3 := ⟨_, rfl⟩
  have g3 := heap_alloc_new w2 (.cells #[.int .i64 c] 3)
  have s3 : w3.heap.size = w2.heap.size + 1 := by rw [← e3]; simp
  have a3 : Grew w2 w3 := by rw [← e3]; exact Only.alloc _ _
  rw [e3] at hW g3
  obtain ⟨w4, e4⟩ : ∃ w4, w3.alloc (.cells #[.func (.func 39) #[] #[.pointer (some ⟨w.heap.size + 1 + 1, 0, none⟩), .pointer (some ⟨w.heap.size + 1, 0, none⟩)]] 62) = w4 := ⟨_, rfl⟩
  have g4 := heap_alloc_new w3 (.cells #[.func (.func 39) #[] #[.pointer (some ⟨w.heap.size + 1 + 1, 0, none⟩), .pointer (some ⟨w.heap.size + 1, 0, none⟩)]] 62)
  have s4 : w4.heap.size = w3.heap.size + 1 := by rw [← e4]; simp
  have a4 : Grew w3 w4 := by rw [← e4]; exact Only.alloc _ _
  rw [e4] at hW g4
  obtain ⟨w5, e5⟩ : ∃ w5, w4.alloc (.cells #[.pointer q] 25) = w5 := ⟨_, rfl⟩
  have g5 := heap_alloc_new w4 (.cells #[.pointer q] 25)
  have s5 : w5.heap.size = w4.heap.size + 1 := by rw [← e5]; simp
  have a5 : Grew w4 w5 := by rw [← e5]; exact Only.alloc _ _
  rw [e5] at hW g5
  have g6 := heap_alloc_new w5 (.cells #[.int .i64 c, .int .i64 d] 28)
  have s6 : W0.heap.size = w5.heap.size + 1 := by rw [hW]; simp
  have a6 : Grew w5 W0 := by rw [hW]; exact Only.alloc _ _
  rw [← hW] at g6
  rw [s1] at g2
  rw [s2, s1] at g3
  rw [s3, s2, s1] at g4
  rw [s4, s3, s2, s1] at g5
  rw [s5, s4, s3, s2, s1] at g6
  have b2 := Grew.trans a2 (Grew.trans a3 (Grew.trans a4 (Grew.trans a5 a6)))
  have b3 := Grew.trans a3 (Grew.trans a4 (Grew.trans a5 a6))
  have b4 := Grew.trans a4 (Grew.trans a5 a6)
  have b5 := Grew.trans a5 a6
  refine ⟨Grew.trans a1 b2, by omega, b2.heap g1 (fun h => h), b3.heap g2 (fun h => h), b4.heap g3 (fun h => h), b5.cell (cell_of_one g4) (fun h => h), a6.cell (cell_of_one g5) (fun h => h), ?_, ?_⟩
  · exact cell_of_row _ _ 0 _ _ _ g6
  · exact cell_of_row _ _ 1 _ _ _ g6
theorem fw2_b {w W0 : World} (hs : W0.heap.size = w.heap.size + 6) : ∀ (W : World) (l : Nat) (o o' : Obj), W0.heap.size ≤ l → W.heap[l]? = some o → o.isCells = false → o.isWalk = false → Only (Fw2 w.heap.size) W (W.putObj l o') :=
  onlyK_b (fun i hi => .inr (.inr (by omega)))
theorem fw2_grew {w W0 W : World} (g : Grew w W0) (h : Only (Fw2 w.heap.size) W0 W) : Grew w W :=
  ((g.mono (G := Fw2 w.heap.size) (fun _ _ h => h.elim)).trans h (fun _ _ h => h)).mono (fun i hi h => by unfold Fw2 at h; omega)
theorem fw2_keeps {w W0 : World} {p : Nat} {S : List Ent} {c d : Int} (hI : IsIdx w p S) (HW : SixAt w W0 (some ⟨p, 0, none⟩) c d) :
    ∀ W', Only (Fw2 w.heap.size) W0 W' → IsIdx W' p S ∧ W'.cell? ⟨w.heap.size + 1 + 1 + 1 + 1, 0, none⟩ = some (.pointer (some ⟨p, 0, none⟩)) ∧ W'.cell? ⟨w.heap.size + 1 + 1 + 1 + 1 + 1, 0, none⟩ = some (.int .i64 c) ∧ W'.cell? ⟨w.heap.size + 1 + 1 + 1 + 1 + 1, 1, none⟩ = some (.int .i64 d) := fun W' h => by
  obtain ⟨a1, a2, _, _, _, _, a4, a5, a6⟩ := HW
  refine ⟨?_, h.cell a4 (by unfold Fw2; simp only; omega), h.cell a5 (by unfold Fw2; simp only; omega), h.cell a6 (by unfold Fw2; simp only; omega)⟩
  have h2 : Only (Fw2 w.heap.size) w W' := (a1.mono (fun _ _ h => h.elim)).trans h (fun _ _ h => h)
  exact keep_idx hI h2 (fun i hi hf => by unfold Fw2 at hf; omega)
/-- What holds between two rounds of Gaps. -/
def GapI (s : Nat) (c : Int) (W0 : World) (pre : List Part) (W : World) : Prop :=
  (∃ v xs a, gst c pre = (xs, a) ∧ W.heap[s + 1]? = some (.cells #[v] 22 (0, 0)) ∧ W.ownsRow (s + 6) 28 2 v xs.length (cellsE xs) ∧ W.heap[s + 2]? = some (.cells #[.int .i64 a] 3 (0, 0))) ∧ Only (Fw2 s) W0 W
attribute [local go_sem] Oper.semAt_some in
set_option maxRecDepth 100000 in
set_option maxHeartbeats 4000000 in
theorem gaps_gen (n : Nat) (hn : 3 ≤ n) (p : Nat) (ps : List Part) (N : Nat) (hN : N ≤ 1048576 ∧ ps.length ≤ 1048576) (c d : Int) (w : World)
    (HQ : Hid (∀ W0 : World, SixAt w W0 (some ⟨p, 0, none⟩) c d → SeqStopsK Fence.wide (n - 1) Try.prog 48 #[.pointer (some ⟨w.heap.size + 1 + 1 + 1 + 1, 0, none⟩), .pointer (some ⟨w.heap.size + 1 + 1 + 1 + 1 + 1, 0, none⟩)] (fun x : Part => #[Value.int .i64 x.1, .agg #[.int .i64 x.2.1, .int .i64 x.2.2]]) (Only (Fw2 w.heap.size)) (fun ys => ys = ps) (fun pre => pre <+: ps) N W0)) :
    CallsIn Fence.wide n Try.prog 22 #[.pointer (some ⟨p, 0, none⟩), .agg #[.int .i64 c, .int .i64 d]] w fun e W' => ∃ v, e = .returned v ∧ W'.ownsRow w.heap.size 28 2 v (gapL (gst c ps).2 (RowKit.wrap64 (c + d)) (gst c ps).1).length (cellsE (gapL (gst c ps).2 (RowKit.wrap64 (c + d)) (gst c ps).1)) ∧ Grew w W' := by
  have h1 : 1 ≤ n := by omega
  have h2 : 1 ≤ n - 1 := by omega
  refine callsIn_of_wp_marks Try.func22 rfl trivial ?_ rfl
  simp only [Try.ntmps22, List.size_toArray, List.length_cons, List.length_nil, Nat.reduceAdd, Nat.reduceSub, Array.replicate_succ, Array.replicate_zero, List.push_toArray, List.append_toArray, List.nil_append, List.cons_append]
  gi_wp2_with (refine ⟨trivial, ?_⟩; gi_at_call 38; refine (over_in (n - 1) _ _ _ _).mono ?_; rintro e w' ⟨rfl, rfl⟩)
  obtain ⟨W0, hW0⟩ : ∃ W0, W0 = (((((w.alloc (.cells #[.int .i64 c, .int .i64 d] 28)).alloc (.cells #[.slice none 0 0] 22)).alloc (.cells #[.int .i64 c] 3)).alloc (.cells #[.func (.func 39) #[] #[.pointer (some ⟨w.heap.size + 1 + 1, 0, none⟩), .pointer (some ⟨w.heap.size + 1, 0, none⟩)]] 62)).alloc (.cells #[.pointer (some ⟨p, 0, none⟩)] 25)).alloc (.cells #[.int .i64 c, .int .i64 d] 28) := ⟨_, rfl⟩
  have HW := hid (six_cells w _ c d W0 hW0)
  rw [← hW0]
  clear hW0
  have hsz := HW.out.2.1
  have HN := hid hN.1
  have HPL := hid hN.2
  clear hN
  refine wpIn_rangeFunc_ownH rfl h1 (gf := 48) (lb := #[.pointer (some ⟨w.heap.size + 1 + 1 + 1 + 1, 0, none⟩), .pointer (some ⟨w.heap.size + 1 + 1 + 1 + 1 + 1, 0, none⟩)]) rfl trivial (enters_of Try.func48 (by kernel_rfl) rfl)
    (HQ.out W0 HW.out) onlyK_t (fw2_b hsz) (Below.refl _ _) (fun _ => rfl)
    (fun pre W => GapI w.heap.size c W0 pre W)
    (fun _ _ _ => False)
    (fun pre W W' row hs hg hr => by
      obtain ⟨⟨v, xs, a, hst, hh, hrow, ha⟩, hO⟩ := hs
      have ho : Only (fun i => W0.heap.size ≤ i) W W' := Only.of_grownBy hg (fun k hk => .inl (hr k hk).1)
      exact ⟨⟨v, xs, a, hst, ho.heap hh (by show ¬ (W0.heap.size ≤ w.heap.size + 1); omega), own_turn hrow hg (fun r e => (hr r e).2), ho.heap ha (by show ¬ (W0.heap.size ≤ w.heap.size + 2); omega)⟩, hO.trans ho (fun i _ h => .inr (.inr (by have h' : W0.heap.size ≤ i := h; omega)))⟩)
    (fun _ _ _ _ _ hs _ _ => hs)
    ⟨⟨_, [], c, rfl, HW.out.2.2.2.1, World.ownsRow_nil _ _ _ _, HW.out.2.2.2.2.1⟩, Only.refl _ _⟩
    (fun x a' W => ∃ Bx, w.heap.size + 6 ≤ Bx ∧ W.heap[Bx]? = some (.cells #[.int .i64 x.2.1, .int .i64 x.2.2] 28 (0, 0)) ∧ (∀ v, W.heap[w.heap.size + 1]? = some (.cells #[v] 22 (0, 0)) → v.ownBlock ≠ some Bx) ∧ w.heap.size + 1 < W.heap.size ∧ a' = { tmps := #[.pointer (some ⟨p, 0, none⟩), .agg #[.int .i64 c, .int .i64 d], undef, .pointer (some ⟨w.heap.size, 0, none⟩), .slice none 0 0, .pointer (some ⟨w.heap.size + 1, 0, none⟩), .pointer (some ⟨w.heap.size + 1 + 1, 0, none⟩), .pointer (some ⟨w.heap.size + 1 + 1 + 1, 0, none⟩), undef, .pointer (some ⟨Bx, 0, none⟩), .pointer (some ⟨p, 0, none⟩), .bool false, .pointer (some ⟨w.heap.size, 0, none⟩), .int .i64 c, .func (.func 39) #[] #[.pointer (some ⟨w.heap.size + 1 + 1, 0, none⟩), .pointer (some ⟨w.heap.size + 1, 0, none⟩)], .pointer (some ⟨p, 0, none⟩), .agg #[.int .i64 c, .int .i64 d], .func (.func 48) #[] #[.pointer (some ⟨w.heap.size + 1 + 1 + 1 + 1, 0, none⟩), .pointer (some ⟨w.heap.size + 1 + 1 + 1 + 1 + 1, 0, none⟩)], .int .i64 x.1, .agg #[.int .i64 x.2.1, .int .i64 x.2.2], undef, undef, undef, undef, undef, undef, undef, undef, undef, undef, undef], defers := [] })
    (fun x a' _ W W' row hs hg hr => by
      obtain ⟨Bx, hB, hh, hv, hlt, ha⟩ := hs
      refine ⟨Bx, hB, (hg.block Bx (Array.getElem?_eq_some_iff.1 hh).1 (fun e => ?_)).trans hh, fun v h => hv v ?_, Nat.lt_of_lt_of_le hlt hg.size, ha⟩
      · obtain ⟨_, o, ho, hc⟩ := hr Bx e.symm
        rw [hh] at ho
        cases ho
        cases hc
      · rw [← h]
        exact (hg.block _ hlt (fun e => by have := (hr _ e.symm).1; omega)).symm) ?assign ?body ?done ?stop
  case assign =>
    rintro l pre x W K ⟨⟨v, xs, a, hst, hh, hrow, ha⟩, hO⟩ hK
    have hws : w.heap.size + 6 ≤ W.heap.size := by have := hO.size; omega
    have HH := hid (And.intro hst (And.intro hh (And.intro hrow (And.intro ha hO))))
    clear hst hh hrow ha hO
    gi_wp2
    have hal := Only.alloc (F := fun _ => False) W (.cells #[.int .i64 x.2.1, .int .i64 x.2.2] 28)
    refine hK _ _ ((KeepsOthers.alloc _ _).from _) (Only.alloc _ _) ⟨⟨v, xs, a, HH.out.1, hal.heap HH.out.2.1 (fun h => h), own_keep HH.out.2.2.1 hal (fun _ _ h => h), hal.heap HH.out.2.2.2.1 (fun h => h)⟩, HH.out.2.2.2.2.trans (Only.alloc _ _) (fun _ _ h => h)⟩ ⟨W.heap.size, hws, heap_alloc_new _ _, fun v' h' hb => ?_, by simp; omega, rfl⟩
    rw [hal.heap HH.out.2.1 (fun h => h)] at h'
    cases h'
    exact absurd (World.ownsRow.lt HH.out.2.2.1 _ hb).2 (Nat.lt_irrefl _)
  case body =>
    rintro l pre x a' W hl _ ⟨⟨v, xs, a, hst, hh, hrow, ha⟩, hO⟩ ⟨Bx, hB, hx, hvB, _, rfl⟩ hlt
    have h3 : 1 ≤ n - 1 - 1 := by omega
    have hws : w.heap.size + 6 ≤ W.heap.size := by have := hO.size; omega
    have hxl : xs.length ≤ 1048577 := by
      have h1 := gst_length c pre
      rw [hst] at h1
      have h2 := HN.out
      simp only at h1
      omega
    obtain ⟨r, hr⟩ : ∃ r : Int, RowKit.wrap64 (x.2.1 + x.2.2) = r := ⟨_, rfl⟩
    have HG := hid (gapf_at (w.heap.size + 2) (w.heap.size + 1) (w.heap.size + 6) a x.2.1 v xs W ⟨by omega, hws⟩ ha hh hrow hxl)
    have HE : Hid (∀ w', Calls Try.prog 34 #[.agg #[.int .i64 x.2.1, .int .i64 x.2.2]] w' fun e w'' => e = .returned (.int .i64 r) ∧ w'' = w'.alloc (.cells #[.int .i64 x.2.1, .int .i64 x.2.2] 28)) := hid (fun w' => by rw [← hr]; exact endw_at _ _ w')
    have HST : Hid (gst c (pre ++ [x]) = (gapL a x.2.1 xs, r)) := hid (by rw [gst_snoc, hst, hr])
    have kf : W.cell? ⟨w.heap.size + 3, 0, none⟩ = some (.func (.func 39) #[] #[.pointer (some ⟨w.heap.size + 2, 0, none⟩), .pointer (some ⟨w.heap.size + 1, 0, none⟩)]) := hO.cell HW.out.2.2.2.2.2.1 (by unfold Fw2; simp only; omega)
    have kx := cell_of_row _ _ 0 _ _ _ hx
    have HVB : Hid (v.ownBlock ≠ some Bx) := hid (hvB v hh)
    have HH := hid (And.intro hx (And.intro hvB (And.intro ha (And.intro hO (And.intro hrow hh)))))
    clear hst hh hrow ha hO hx hvB hr
    gi_wp2_with (first
      | (refine ⟨trivial, ?_⟩; gi_at_call 39; have cX := CallsIn.inRound l ((callsIn_wide (n := n - 1 - 1 - 1)).2 HG.out); with_reducible refine cX.mono ?_; clear cX; rintro en w1 ⟨rfl, hO1, hK1, v1, hh1, hr1⟩; (have hx1 := hO1.heap HH.out.1 (fun h => h.elim (fun h => absurd h (by omega)) (fun h => absurd h HVB.out))); have kx0 := cell_of_row _ _ 0 _ _ _ hx1; have kx1 := cell_of_row _ _ 1 _ _ _ hx1; (have ha1 := hO1.heap HH.out.2.2.1 (fun h => h.elim (fun h => absurd h (by omega)) (fun h => absurd (World.ownsRow.lt HH.out.2.2.2.2.1 _ h).1 (by omega)))); have hal := Only.alloc (F := fun _ => False) w1 (.cells #[.int .i64 x.2.1, .int .i64 x.2.2] 28); have ha2 := hal.heap ha1 (fun h => h); have ka2 := cell_of_one ha2; have fa2 := free_of_one ha2)
      | (refine ⟨trivial, ?_⟩; gi_at_call 34; have cX := CallsIn.inRound l ((callsIn_wide (n := n - 1 - 1 - 1)).2 (HE.out w1)); with_reducible refine cX.mono ?_; clear cX; rintro en w2 ⟨rfl, rfl⟩))
    have hr2 := own_keep hr1 hal (fun _ _ h => h)
    have hOW : Only (Fw2 w.heap.size) W w1 := hO1.mono (fun i _ h => h.elim .inl (fun h => .inr (.inr (World.ownsRow.lt HH.out.2.2.2.2.1 _ h).1)))
    have hOS : Only (Fw2 w.heap.size) W ((w1.alloc (.cells #[.int .i64 x.2.1, .int .i64 x.2.2] 28)).setCell ⟨w.heap.size + 2, 0, none⟩ (.int .i64 r)) := (hOW.trans (hal.mono (fun _ _ h => h.elim)) (fun _ _ h => h)).trans (Only.setCell (F := Fw2 w.heap.size) _ (p := ⟨w.heap.size + 2, 0, none⟩) (.inr (.inl rfl)) _) (fun _ _ h => h)
    refine ⟨((hK1.trans (KeepsOthers.alloc _ _)).trans (KeepsOthers.setCell _ _ _)).from _, hOS, ⟨v1, _, r, HST.out, ?_, ?_, one_setCell ha2⟩, HH.out.2.2.2.1.trans hOS (fun _ _ h => h)⟩
    · exact (Only.setCell (F := fun i => i = w.heap.size + 2) _ (p := ⟨w.heap.size + 2, 0, none⟩) rfl _).heap (hal.heap hh1 (fun h => h)) (by show ¬ (w.heap.size + 1 = w.heap.size + 2); omega)
    · refine ownsRow_setCell_other hr2 ?_ _
      intro h
      have h2 : w.heap.size + 6 ≤ w.heap.size + 2 := (World.ownsRow.lt hr2 _ h).1
      omega
  case done =>
    rintro D ys W hD rfl ⟨⟨v, xs, a, hst, hh, hrow, ha⟩, hO⟩ hK
    have hws : w.heap.size + 6 ≤ W.heap.size := by have := hO.size; omega
    have hxl : Hid (ys.length ≤ 1048576 → xs.length ≤ 1048577) := hid (fun h => by
      have h1 := gst_length c ys
      rw [hst] at h1
      simp only at h1
      omega)
    obtain ⟨r, hr⟩ : ∃ r : Int, RowKit.wrap64 (c + d) = r := ⟨_, rfl⟩
    have HF : Hid (gapL (gst c ys).2 (RowKit.wrap64 (c + d)) (gst c ys).1 = gapL a r xs) := hid (by rw [hst, hr])
    have HE : Hid (∀ w', Calls Try.prog 34 #[.agg #[.int .i64 c, .int .i64 d]] w' fun e w'' => e = .returned (.int .i64 r) ∧ w'' = w'.alloc (.cells #[.int .i64 c, .int .i64 d] 28)) := hid (fun w' => by rw [← hr]; exact endw_at _ _ w')
    have HG : Hid (∀ w', Grew W w' → Calls Try.prog 39 #[.int .i64 r, .pointer (some ⟨w.heap.size + 2, 0, none⟩), .pointer (some ⟨w.heap.size + 1, 0, none⟩)] w' fun en W' => en = .returned (.tuple #[]) ∧ Only (fun i => i = w.heap.size + 1 ∨ v.ownBlock = some i) w' W' ∧ KeepsOthers w' W' ∧ ∃ v', W'.heap[w.heap.size + 1]? = some (.cells #[v'] 22 (0, 0)) ∧ W'.ownsRow (w.heap.size + 6) 28 2 v' (gapL a r xs).length (cellsE (gapL a r xs))) :=
      hid (fun w' g => gapf_at _ _ _ a r v xs w' ⟨by omega, Nat.le_trans hws g.size⟩ (g.heap ha (fun h => h)) (g.heap hh (fun h => h)) (own_keep hrow g (fun _ _ h => h)) (hxl.out HPL.out))
    have HS : Hid (∀ w', Only (Fw2 w.heap.size) W w' → w'.cell? ⟨w.heap.size + 3, 0, none⟩ = some (.func (.func 39) #[] #[.pointer (some ⟨w.heap.size + 2, 0, none⟩), .pointer (some ⟨w.heap.size + 1, 0, none⟩)]) ∧ w'.cell? ⟨w.heap.size, 0, none⟩ = some (.int .i64 c) ∧ w'.cell? ⟨w.heap.size, 1, none⟩ = some (.int .i64 d)) := hid (fun w' h => by
      have h0 := hO.trans h (fun _ _ h => h)
      have h1 := h0.heap HW.out.2.2.1 (by unfold Fw2; omega)
      exact ⟨h0.cell HW.out.2.2.2.2.2.1 (by unfold Fw2; simp only; omega), cell_of_row _ _ 0 _ _ _ h1, cell_of_row _ _ 1 _ _ _ h1⟩)
    have HH := hid (And.intro hrow (And.intro hO hK))
    have HOD : Hid (Only (Fw2 w.heap.size) W (W.alloc (.cells #[.int .i64 c, .int .i64 d] 28)).drew) := hid ((Only.alloc _ _).trans (Only.drew _) (fun _ _ h => h))
    have HOW : Hid (∀ w2, Only (fun i => i = w.heap.size + 1 ∨ v.ownBlock = some i) (W.alloc (.cells #[.int .i64 c, .int .i64 d] 28)).drew w2 → Only (Fw2 w.heap.size) W w2) := hid (fun w2 h => by
      refine HOD.out.trans h (fun i _ hi => ?_)
      rcases hi with hi | hi
      · exact Or.inl hi
      · exact Or.inr (Or.inr (World.ownsRow.lt HH.out.1 _ hi).1))
    clear hst hh hrow ha hO hr hxl hK
    gi_wp2_with fail
    refine wpIn_wide.2 ?_
    go_region_held3 (fun w' => w'.cell? ⟨w.heap.size + 3, 0, none⟩ = some (.func (.func 39) #[] #[.pointer (some ⟨w.heap.size + 2, 0, none⟩), .pointer (some ⟨w.heap.size + 1, 0, none⟩)]) ∧ w'.cell? ⟨w.heap.size, 0, none⟩ = some (.int .i64 c) ∧ w'.cell? ⟨w.heap.size, 1, none⟩ = some (.int .i64 d))
      (first
        | exact HS.out _ (Only.drew _)
        | exact HS.out _ HOD.out
        | exact HS.out _ hOW)
      (first
        | (go_at_call 39; have cX := HG.out (W.alloc (.cells #[.int .i64 c, .int .i64 d] 28)).drew (Grew.trans (Only.alloc _ _) (Only.drew _)); with_reducible refine cX.mono ?_; clear cX; rintro en w2 ⟨rfl, hO2, hK2, v2, hh2, hr2⟩; have hc2 := cell_of_one hh2; have hOW := HOW.out w2 hO2)
        | (go_at_call 34; have cX := HE.out W.drew; with_reducible refine cX.mono ?_; clear cX; rintro e wa ⟨rfl, rfl⟩))
    gi_wp2
    have hKD : w2.heap[D]? = some (.deferred (some [])) := hK2.same D _ (((KeepsOthers.alloc W _).trans (KeepsOthers.drew _)).same D _ HH.out.2.2 rfl) rfl
    refine ⟨by simp, .inl ⟨_, _, rfl, run_takeDeferred hKD, ?_⟩⟩
    rw [HF.out]
    exact ⟨_, results_tmp rfl _ _ _, v2, rfl, own_base (ownsRow_putObj hr2 _ hKD rfl) (by omega), fw2_grew HW.out.1 ((HH.out.2.1.trans hOW (fun _ _ h => h)).trans (fw2_b hsz w2 D _ _ hD hKD rfl rfl) (fun _ _ h => h))⟩
  case stop =>
    rintro D c pre W _ _ h _
    exact h.elim
theorem gaps_at (p : Nat) (S : List Ent) (c d : Int) (w : World) (hI : IsIdx w p S) (hS : GoodS S) (hV : VE (c, d)) (g : List (Int × Int)) (hg : gapL (gst c (parts (c, d) S)).2 (RowKit.wrap64 (c + d)) (gst c (parts (c, d) S)).1 = g) :
    Calls Try.prog 22 #[.pointer (some ⟨p, 0, none⟩), .agg #[.int .i64 c, .int .i64 d]] w fun e W' => ∃ v, e = .returned v ∧ W'.ownsRow w.heap.size 28 2 v g.length (cellsE g) ∧ Grew w W' := by
  have hl : S.length ≤ 1048576 := by obtain ⟨_, _, _, _, h⟩ := hI; exact h
  rw [← hg]
  exact (callsIn_wide (n := 3)).1 (gaps_gen 3 (Nat.le_refl _) p _ S.length ⟨hl, Nat.le_trans (parts_length_le _ _) hl⟩ c d w (hid (fun W0 HW => over_stops 2 (by omega) (Fw2 w.heap.size) _ _ p S c d hV hS W0 (hid (fw2_keeps hI HW)))))
theorem gaps_nil (c d : Int) (w : World) :
    Calls Try.prog 22 #[.pointer none, .agg #[.int .i64 c, .int .i64 d]] w fun e W' => e = .returned (.slice none 0 0) ∧ Grew w W' := by
  go_enter Try.func22, Try.ntmps22
  go_wp2
  go_ret
  exact ⟨rfl, Only.alloc _ _⟩
end Go.Proofs.Ytgpfhdjedebdfaa
