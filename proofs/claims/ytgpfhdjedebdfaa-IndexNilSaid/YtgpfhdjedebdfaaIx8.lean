/- The walks of Meet and Covered. -/
import Derived.Test.YtgpfhdjedebdfaaIx7
namespace Go.Proofs.Ytgpfhdjedebdfaa
open Go.RowKit Go.MapKept Go.Shelf Go.Maps
attribute [local go_sem] Oper.semAt_some

theorem info_int1 : (Try.prog.info? 3).map (fun i => (i.zero, i.size, i.bytes)) = some (some (.int .i64 0), 1, 8) := by kernel_rfl
/-- What stands where the loop begins. -/
def FourAt (w W0 : World) (v : Value) (t : TypeId) (q : Option Addr) (c d : Int) : Prop :=
  Grew w W0 ∧ W0.heap.size = w.heap.size + 4 ∧ W0.heap[w.heap.size + 1]? = some (.cells #[v] t (0, 0)) ∧ W0.cell? ⟨w.heap.size + 2, 0, none⟩ = some (.pointer q) ∧ W0.cell? ⟨w.heap.size + 3, 0, none⟩ = some (.int .i64 c) ∧ W0.cell? ⟨w.heap.size + 3, 1, none⟩ = some (.int .i64 d)
/-- Four blocks: an extent, a variable, what overlaps captures. -/
theorem four_cells (w : World) (v : Value) (t : TypeId) (q : Option Addr) (c d : Int) (W0 : World) (hW : W0 = (((w.alloc (.cells #[.int .i64 c, .int .i64 d] 28)).alloc (.cells #[v] t)).alloc (.cells #[.pointer q] 25)).alloc (.cells #[.int .i64 c, .int .i64 d] 28)) :
    FourAt w W0 v t q c d := by
  subst hW
  have g2 := heap_alloc_new (w.alloc (.cells #[.int .i64 c, .int .i64 d] 28)) (.cells #[v] t)
  have g3 := heap_alloc_new ((w.alloc (.cells #[.int .i64 c, .int .i64 d] 28)).alloc (.cells #[v] t)) (.cells #[.pointer q] 25)
  have g4 := heap_alloc_new (((w.alloc (.cells #[.int .i64 c, .int .i64 d] 28)).alloc (.cells #[v] t)).alloc (.cells #[.pointer q] 25)) (.cells #[.int .i64 c, .int .i64 d] 28)
  simp only [World.size_alloc] at g2 g3 g4
  refine ⟨Grew.trans (Grew.trans (Grew.trans (Only.alloc _ _) (Only.alloc _ _)) (Only.alloc _ _)) (Only.alloc _ _), by simp, (Grew.trans (Only.alloc _ _) (Only.alloc _ _)).heap g2 (fun h => h), (Only.alloc (F := fun _ => False) _ _).cell (cell_of_one g3) (fun h => h), ?_, ?_⟩
  · exact cell_of_row _ _ 0 _ _ _ g4
  · exact cell_of_row _ _ 1 _ _ _ g4
theorem own_cells {w : World} {base e size : Nat} {v : Value} {m : Nat} {xs : List Value} (h : w.ownsRow base e size v m xs) {j : Nat} {o : Obj} (hj : v.ownBlock = some j) (ho : w.heap[j]? = some o) : o.isCells = true := by
  rcases h.2 with ⟨rfl, _⟩ | ⟨g, cap, cur, rfl, _, hh, _⟩
  · cases hj
  · have hj' : g = j := by simpa [Value.ownBlock] using hj
    subst hj'
    rw [hh] at ho
    cases ho
    rfl
theorem own_turn {w w' : World} {base e size : Nat} {v : Value} {m : Nat} {xs : List Value} {row : Option Nat} (h : w.ownsRow base e size v m xs) (g : w.grownBy w' row) (hr : ∀ r, row = some r → ∃ o : Obj, w.heap[r]? = some o ∧ o.isCells = false) : w'.ownsRow base e size v m xs := by
  refine own_keep h (Only.of_grownBy (F := fun i => row = some i) g (fun k hk => .inl hk)) (fun i hi hf => ?_)
  obtain ⟨o, ho, hc⟩ := hr i hf
  rw [own_cells h hi ho] at hc
  cases hc
theorem own_base {w : World} {base base' e size : Nat} {v : Value} {m : Nat} {xs : List Value} (h : w.ownsRow base e size v m xs) (hb : base' ≤ base) : w.ownsRow base' e size v m xs := by
  refine ⟨h.1, ?_⟩
  rcases h.2 with h2 | ⟨g, cap, cur, h3, h4, h5⟩
  · exact .inl h2
  · exact .inr ⟨g, cap, cur, h3, Nat.le_trans hb h4, h5⟩
/-- What the body of a loop over the parts may write: the variable's block, blocks made since. -/
def Fw (s : Nat) (i : Nat) : Prop := i = s + 1 ∨ s + 4 ≤ i
theorem parts_length_le (e : Int × Int) (S : List Ent) : (parts e S).length ≤ S.length := by
  unfold parts
  rw [List.length_map]
  exact List.length_filter_le _ _
theorem fw_keeps {w W0 : World} {p : Nat} {S : List Ent} {c d : Int} {v : Value} {t : TypeId} (hI : IsIdx w p S) (HW : FourAt w W0 v t (some ⟨p, 0, none⟩) c d) :
    ∀ W', Only (Fw w.heap.size) W0 W' → IsIdx W' p S ∧ W'.cell? ⟨w.heap.size + 1 + 1, 0, none⟩ = some (.pointer (some ⟨p, 0, none⟩)) ∧ W'.cell? ⟨w.heap.size + 1 + 1 + 1, 0, none⟩ = some (.int .i64 c) ∧ W'.cell? ⟨w.heap.size + 1 + 1 + 1, 1, none⟩ = some (.int .i64 d) := fun W' h => by
  obtain ⟨a1, a2, a3, a4, a5, a6⟩ := HW
  refine ⟨?_, h.cell a4 (by unfold Fw; simp only; omega), h.cell a5 (by unfold Fw; simp only; omega), h.cell a6 (by unfold Fw; simp only; omega)⟩
  have h2 : Only (Fw w.heap.size) w W' := (a1.mono (fun _ _ h => h.elim)).trans h (fun _ _ h => h)
  exact keep_idx hI h2 (fun i hi hf => by unfold Fw at hf; omega)
theorem fw_b {w W0 : World} (hs : W0.heap.size = w.heap.size + 4) : ∀ (W : World) (l : Nat) (o o' : Obj), W0.heap.size ≤ l → W.heap[l]? = some o → o.isCells = false → o.isWalk = false → Only (Fw w.heap.size) W (W.putObj l o') :=
  onlyK_b (fun i hi => .inr (by omega))
theorem fw_grew {w W0 W : World} (g : Grew w W0) (h : Only (Fw w.heap.size) W0 W) : Grew w W :=
  ((g.mono (G := Fw w.heap.size) (fun _ _ h => h.elim)).trans h (fun _ _ h => h)).mono (fun i hi h => by unfold Fw at h; omega)
set_option maxRecDepth 100000 in
set_option maxHeartbeats 2000000 in
theorem meet_gen (n : Nat) (hn : 3 ≤ n) (q : Option Addr) (ps : List Part) (N : Nat) (hN : N ≤ 1048576) (c d : Int) (w : World)
    (HQ : Hid (∀ W0 : World, FourAt w W0 (.slice none 0 0) 34 q c d → SeqStopsK Fence.wide (n - 1) Try.prog 48 #[.pointer (some ⟨w.heap.size + 1 + 1, 0, none⟩), .pointer (some ⟨w.heap.size + 1 + 1 + 1, 0, none⟩)] (fun x : Part => #[Value.int .i64 x.1, .agg #[.int .i64 x.2.1, .int .i64 x.2.2]]) (Only (Fw w.heap.size)) (fun ys => ys = ps) (fun pre => pre <+: ps) N W0)) :
    CallsIn Fence.wide n Try.prog 16 #[.pointer q, .agg #[.int .i64 c, .int .i64 d]] w fun e W' => ∃ v, e = .returned v ∧ W'.ownsRow w.heap.size 3 1 v ps.length (ps.map (fun x => .int .i64 x.1)) ∧ Grew w W' := by
  have h1 : 1 ≤ n := by omega
  have h2 : 1 ≤ n - 1 := by omega
  obtain ⟨i0, hi, hz0, hz1, hz2⟩ := info_parts info_int1
  have HI := hid (And.intro hi (And.intro hz0 (And.intro hz1 hz2)))
  clear hi hz0 hz1 hz2
  refine callsIn_of_wp_marks Try.func16 rfl trivial ?_ rfl
  simp only [Try.ntmps16, List.size_toArray, List.length_cons, List.length_nil, Nat.reduceAdd, Nat.reduceSub, Array.replicate_succ, Array.replicate_zero, List.push_toArray, List.append_toArray, List.nil_append, List.cons_append]
  gi_wp2_with (refine ⟨trivial, ?_⟩; gi_at_call 38; refine (over_in (n - 1) _ _ _ _).mono ?_; rintro e w' ⟨rfl, rfl⟩)
  obtain ⟨W0, hW0⟩ : ∃ W0, W0 = (((w.alloc (.cells #[.int .i64 c, .int .i64 d] 28)).alloc (.cells #[.slice none 0 0] 34)).alloc (.cells #[.pointer q] 25)).alloc (.cells #[.int .i64 c, .int .i64 d] 28) := ⟨_, rfl⟩
  have HW := hid (four_cells w _ _ _ c d W0 hW0)
  rw [← hW0]
  clear hW0
  have hsz := HW.out.2.1
  have HSL : Hid (N ≤ 1048576) := hid hN
  clear hN
  have HB : Hid ((W0.heap[w.heap.size + 1]? = some (.cells #[.slice none 0 0] 34 (0, 0)))) := hid HW.out.2.2.1
  refine wpIn_rangeFunc_ownG rfl h1 (gf := 48) (lb := #[.pointer (some ⟨w.heap.size + 1 + 1, 0, none⟩), .pointer (some ⟨w.heap.size + 1 + 1 + 1, 0, none⟩)]) rfl trivial (enters_of Try.func48 (by kernel_rfl) rfl)
    (HQ.out W0 HW.out) onlyK_t (fw_b hsz) (Below.refl _ _) (fun _ => rfl)
    (fun pre W => (∃ v, W.heap[w.heap.size + 1]? = some (.cells #[v] 34 (0, 0)) ∧ W.ownsRow (w.heap.size + 4) 3 1 v pre.length (pre.map (fun x => .int .i64 x.1))) ∧ Only (Fw w.heap.size) W0 W)
    (fun _ _ _ => False)
    (fun pre W W' row hs hg hr => by
      obtain ⟨⟨v, hh, hrow⟩, hO⟩ := hs
      have ho : Only (fun i => W0.heap.size ≤ i) W W' := Only.of_grownBy hg (fun k hk => .inl (hr k hk).1)
      exact ⟨⟨v, ho.heap hh (by show ¬ (W0.heap.size ≤ w.heap.size + 1); omega), own_turn hrow hg (fun r e => (hr r e).2)⟩, hO.trans ho (fun i _ h => .inr (by have h' : W0.heap.size ≤ i := h; omega))⟩)
    (fun _ _ _ _ _ hs _ _ => hs)
    ⟨⟨_, HB.out, World.ownsRow_nil _ _ _ _⟩, Only.refl _ _⟩
    (fun x => { tmps := #[.pointer q, .agg #[.int .i64 c, .int .i64 d], undef, .pointer (some ⟨w.heap.size, 0, none⟩), .slice none 0 0, .pointer (some ⟨w.heap.size + 1, 0, none⟩), .int .i64 x.1, .pointer q, .agg #[.int .i64 c, .int .i64 d], .func (.func 48) #[] #[.pointer (some ⟨w.heap.size + 1 + 1, 0, none⟩), .pointer (some ⟨w.heap.size + 1 + 1 + 1, 0, none⟩)], .int .i64 x.1, .agg #[.int .i64 x.2.1, .int .i64 x.2.2], undef, undef, undef, undef, undef], defers := [] }) ?assign ?body ?done ?stop
  case assign =>
    intro l x W K hK
    gi_wp2
    exact hK
  case body =>
    rintro l pre x W ⟨⟨v, hh, hrow⟩, hO⟩ hlt
    have hc := cell_of_one hh
    have HH := hid (And.intro hh (And.intro hrow hO))
    have hws : w.heap.size + 4 ≤ W.heap.size := by have := hO.size; omega
    have HL := hid (And.intro hlt HSL.out)
    clear hh hrow hO
    gi_wp2_with (gi_at_builtin; refine wpListIn_append_own _ rfl _ _ 34 rfl (w.heap.size + 4) 3 i0 (.int .i64 0) 1 8 Try.underlying34 HI.out.1 HI.out.2.1 HI.out.2.2.1 HI.out.2.2.2 rfl (by decide) _ _ _ rfl (HH.out.2.1.alloc _) ⟨W.heap.size, 0, none⟩ 1 1 [.int .i64 x.1] rfl rfl (cell_one_new _ _ _) (by simp [Value.oneCell']) (by have := HL.out; unfold maxLen; omega) (by have := HL.out; omega) (by simp; omega) ?_; intro v' w1 hown' hgrow _; obtain ⟨g', cap', rfl⟩ := ownsRow_succ hown'; (have HO1 : Hid (Only (fun i => w.heap.size + 4 ≤ i) W w1) := hid ((Only.alloc W _).trans (Only.of_grownBy (F := fun i => w.heap.size + 4 ≤ i) hgrow (fun k hk => .inl (World.ownsRow.lt HH.out.2.1 k hk).1)) (fun _ _ h => h))); (have hh1 := HO1.out.heap HH.out.1 (by show ¬ (w.heap.size + 4 ≤ w.heap.size + 1); omega)); have hc1 := cell_of_one hh1; have hf1 := free_of_one hh1)
    refine ⟨(((KeepsOthers.alloc W _).trans (KeepsOthers.of_grownBy hgrow (fun j o e ho => own_cells (HH.out.2.1.alloc _) e ho))).trans (KeepsOthers.setCell _ _ _)).from _, ?_, ?_⟩
    · exact (HO1.out.mono (fun i _ h => .inr h)).trans (Only.setCell _ (p := ⟨w.heap.size + 1, 0, none⟩) (.inl rfl) _) (fun _ _ h => h)
    · refine ⟨⟨_, one_setCell hh1, ?_⟩, (HH.out.2.2.trans (HO1.out.mono (fun i _ h => .inr h)) (fun _ _ h => h)).trans (Only.setCell _ (p := ⟨w.heap.size + 1, 0, none⟩) (.inl rfl) _) (fun _ _ h => h)⟩
      rw [List.length_append, List.map_append]
      refine ownsRow_setCell_other hown' ?_ _
      intro h
      have h2 : w.heap.size + 4 ≤ w.heap.size + 1 := (World.ownsRow.lt hown' _ h).1
      omega
  case done =>
    rintro D ys W hD rfl ⟨⟨v, hh, hrow⟩, hO⟩ hK
    have hc := cell_of_one hh
    gi_wp2
    refine ⟨by simp, .inl ⟨_, _, rfl, run_takeDeferred hK, ?_⟩⟩
    exact ⟨_, results_tmp rfl _ _ _, v, rfl, own_base (ownsRow_putObj hrow _ hK rfl) (by omega), fw_grew HW.out.1 (hO.trans (fw_b hsz W D _ _ hD hK rfl rfl) (fun _ _ h => h))⟩
  case stop =>
    rintro D c pre W _ _ h _
    exact h.elim
theorem meet_at (p : Nat) (S : List Ent) (c d : Int) (w : World) (hI : IsIdx w p S) (hS : GoodS S) (hV : VE (c, d)) :
    Calls Try.prog 16 #[.pointer (some ⟨p, 0, none⟩), .agg #[.int .i64 c, .int .i64 d]] w fun e W' => ∃ v, e = .returned v ∧ W'.ownsRow w.heap.size 3 1 v (parts (c, d) S).length ((parts (c, d) S).map (fun x => .int .i64 x.1)) ∧ Grew w W' :=
  (callsIn_wide (n := 3)).1 (meet_gen 3 (Nat.le_refl _) _ _ S.length (by obtain ⟨_, _, _, _, h⟩ := hI; exact h) c d w (hid (fun W0 HW => over_stops 2 (by omega) (Fw w.heap.size) _ _ p S c d hV hS W0 (hid (fw_keeps hI HW)))))
theorem meet_nil (c d : Int) (w : World) :
    Calls Try.prog 16 #[.pointer none, .agg #[.int .i64 c, .int .i64 d]] w fun e W' => ∃ v, e = .returned v ∧ W'.ownsRow w.heap.size 3 1 v 0 [] ∧ Grew w W' :=
  (callsIn_wide (n := 3)).1 (meet_gen 3 (Nat.le_refl _) none [] 0 (by omega) c d w (hid (fun W0 HW => over_nil_stops 2 (by omega) (Fw w.heap.size) 0 _ _ c W0 HW.2.2.2.1 HW.2.2.2.2.1)))
/-- The sum of the parts' lengths as the program adds them. -/
def cw (l : List Part) : Int := l.foldl (fun n x => RowKit.wrap64 (n + x.2.2)) 0
theorem cw_snoc (l : List Part) (x : Part) : cw (l ++ [x]) = RowKit.wrap64 (cw l + x.2.2) := by simp [cw]
set_option maxRecDepth 100000 in
set_option maxHeartbeats 2000000 in
theorem covered_gen (n : Nat) (hn : 3 ≤ n) (q : Option Addr) (ps : List Part) (N : Nat) (c d : Int) (w : World)
    (HQ : Hid (∀ W0 : World, FourAt w W0 (.int .i64 0) 3 q c d → SeqStopsK Fence.wide (n - 1) Try.prog 48 #[.pointer (some ⟨w.heap.size + 1 + 1, 0, none⟩), .pointer (some ⟨w.heap.size + 1 + 1 + 1, 0, none⟩)] (fun x : Part => #[Value.int .i64 x.1, .agg #[.int .i64 x.2.1, .int .i64 x.2.2]]) (Only (Fw w.heap.size)) (fun ys => ys = ps) (fun pre => pre <+: ps) N W0)) :
    CallsIn Fence.wide n Try.prog 18 #[.pointer q, .agg #[.int .i64 c, .int .i64 d]] w fun e W' => e = .returned (.int .i64 (cw ps)) ∧ Grew w W' := by
  have h1 : 1 ≤ n := by omega
  have h2 : 1 ≤ n - 1 := by omega
  refine callsIn_of_wp_marks Try.func18 rfl trivial ?_ rfl
  simp only [Try.ntmps18, List.size_toArray, List.length_cons, List.length_nil, Nat.reduceAdd, Nat.reduceSub, Array.replicate_succ, Array.replicate_zero, List.push_toArray, List.append_toArray, List.nil_append, List.cons_append]
  gi_wp2_with (refine ⟨trivial, ?_⟩; gi_at_call 38; refine (over_in (n - 1) _ _ _ _).mono ?_; rintro e w' ⟨rfl, rfl⟩)
  obtain ⟨W0, hW0⟩ : ∃ W0, W0 = (((w.alloc (.cells #[.int .i64 c, .int .i64 d] 28)).alloc (.cells #[.int .i64 0] 3)).alloc (.cells #[.pointer q] 25)).alloc (.cells #[.int .i64 c, .int .i64 d] 28) := ⟨_, rfl⟩
  have HW := hid (four_cells w _ _ _ c d W0 hW0)
  rw [← hW0]
  clear hW0
  have hsz := HW.out.2.1
  refine wpIn_rangeFunc_ownH rfl h1 (gf := 48) (lb := #[.pointer (some ⟨w.heap.size + 1 + 1, 0, none⟩), .pointer (some ⟨w.heap.size + 1 + 1 + 1, 0, none⟩)]) rfl trivial (enters_of Try.func48 (by kernel_rfl) rfl)
    (HQ.out W0 HW.out) onlyK_t (fw_b hsz) (Below.refl _ _) (fun _ => rfl)
    (fun pre W => (∃ v : Int, W.heap[w.heap.size + 1]? = some (.cells #[.int .i64 v] 3 (0, 0)) ∧ v = cw pre) ∧ Only (Fw w.heap.size) W0 W)
    (fun _ _ _ => False)
    (fun pre W W' row hs hg hr => by
      obtain ⟨⟨v, hh, hv⟩, hO⟩ := hs
      have ho : Only (fun i => W0.heap.size ≤ i) W W' := Only.of_grownBy hg (fun k hk => .inl (hr k hk).1)
      exact ⟨⟨v, ho.heap hh (by show ¬ (W0.heap.size ≤ w.heap.size + 1); omega), hv⟩, hO.trans ho (fun i _ h => .inr (by have h' : W0.heap.size ≤ i := h; omega))⟩)
    (fun _ _ _ _ _ hs _ _ => hs)
    ⟨⟨0, HW.out.2.2.1, rfl⟩, Only.refl _ _⟩
    (fun x a' W => ∃ Bx, w.heap.size + 4 ≤ Bx ∧ W.heap[Bx]? = some (.cells #[.int .i64 x.2.1, .int .i64 x.2.2] 28 (0, 0)) ∧ a' = { tmps := #[.pointer q, .agg #[.int .i64 c, .int .i64 d], undef, .pointer (some ⟨w.heap.size, 0, none⟩), .int .i64 0, .pointer (some ⟨w.heap.size + 1, 0, none⟩), undef, .pointer (some ⟨Bx, 0, none⟩), .pointer q, .agg #[.int .i64 c, .int .i64 d], .func (.func 48) #[] #[.pointer (some ⟨w.heap.size + 1 + 1, 0, none⟩), .pointer (some ⟨w.heap.size + 1 + 1 + 1, 0, none⟩)], .int .i64 x.1, .agg #[.int .i64 x.2.1, .int .i64 x.2.2], undef, undef, undef, undef, undef], defers := [] })
    (fun x a' _ W W' row hs hg hr => by
      obtain ⟨Bx, hB, hh, ha⟩ := hs
      refine ⟨Bx, hB, (hg.block Bx (Array.getElem?_eq_some_iff.1 hh).1 (fun e => ?_)).trans hh, ha⟩
      obtain ⟨_, o, ho, hc⟩ := hr Bx e.symm
      rw [hh] at ho
      cases ho
      cases hc) ?assign ?body ?done ?stop
  case assign =>
    rintro l pre x W K ⟨⟨v, hh, hv⟩, hO⟩ hK
    have hws : w.heap.size + 4 ≤ W.heap.size := by have := hO.size; omega
    have HH := hid (And.intro hh (And.intro hv hO))
    clear hh hv hO
    gi_wp2
    exact hK _ _ ((KeepsOthers.alloc _ _).from _) (Only.alloc _ _) ⟨⟨v, (Only.alloc (F := fun _ => False) _ _).heap HH.out.1 (fun h => h), HH.out.2.1⟩, HH.out.2.2.trans (Only.alloc _ _) (fun _ _ h => h)⟩ ⟨W.heap.size, hws, heap_alloc_new _ _, rfl⟩
  case body =>
    rintro l pre x a' W hl _ ⟨⟨v, hh, hv⟩, hO⟩ ⟨Bx, hB, hx, rfl⟩ hlt
    obtain ⟨r, hr⟩ : ∃ r : Int, RowKit.wrap64 (v + x.2.2) = r := ⟨_, rfl⟩
    have hr2 : IntKind.i64.wrap (v + x.2.2) = r := by rw [IntWalk.i64_left]; exact hr
    have hc := cell_of_one hh
    have hf := free_of_one hh
    have hx1 : W.cell? ⟨Bx, 1, none⟩ = some (.int .i64 x.2.2) := cell_of_row _ _ 1 _ _ _ hx
    have HH := hid (And.intro hh (And.intro (show r = cw (pre ++ [x]) by rw [cw_snoc, ← hv]; exact hr.symm) hO))
    clear hh hv hO hx
    gi_wp2
    exact ⟨(KeepsOthers.setCell _ _ _).from _, Only.setCell _ (p := ⟨w.heap.size + 1, 0, none⟩) (.inl rfl) _, ⟨r, one_setCell HH.out.1, HH.out.2.1⟩, HH.out.2.2.trans (Only.setCell _ (p := ⟨w.heap.size + 1, 0, none⟩) (.inl rfl) _) (fun _ _ h => h)⟩
  case done =>
    rintro D ys W hD rfl ⟨⟨v, hh, hv⟩, hO⟩ hK
    have hc := cell_of_one hh
    gi_wp2
    refine ⟨by simp, .inl ⟨_, _, rfl, run_takeDeferred hK, ?_⟩⟩
    exact ⟨_, results_tmp rfl _ _ _, rfl, fw_grew HW.out.1 (hO.trans (fw_b hsz W D _ _ hD hK rfl rfl) (fun _ _ h => h))⟩
  case stop =>
    rintro D c pre W _ _ h _
    exact h.elim
theorem covered_at (p : Nat) (S : List Ent) (c d : Int) (w : World) (hI : IsIdx w p S) (hS : GoodS S) (hV : VE (c, d)) :
    Calls Try.prog 18 #[.pointer (some ⟨p, 0, none⟩), .agg #[.int .i64 c, .int .i64 d]] w fun e W' => e = .returned (.int .i64 (cw (parts (c, d) S))) ∧ Grew w W' :=
  (callsIn_wide (n := 3)).1 (covered_gen 3 (Nat.le_refl _) _ _ S.length c d w (hid (fun W0 HW => over_stops 2 (by omega) (Fw w.heap.size) _ _ p S c d hV hS W0 (hid (fw_keeps hI HW)))))
theorem covered_nil (c d : Int) (w : World) :
    Calls Try.prog 18 #[.pointer none, .agg #[.int .i64 c, .int .i64 d]] w fun e W' => e = .returned (.int .i64 0) ∧ Grew w W' :=
  (callsIn_wide (n := 3)).1 (covered_gen 3 (Nat.le_refl _) none [] 0 c d w (hid (fun W0 HW => over_nil_stops 2 (by omega) (Fw w.heap.size) 0 _ _ c W0 HW.2.2.2.1 HW.2.2.2.2.1)))
end Go.Proofs.Ytgpfhdjedebdfaa
