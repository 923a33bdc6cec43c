/- The walks of evict.next, evict.Next and of the reference's Next. -/
import Derived.Test.YtlpkolmaklnffaaEvW
import Derived.Test.YtlpkolmaklnffaaCyclic
namespace Go.Proofs.Ytlpkolmaklnffaa
open Go.RowKit Go.MapKept

theorem keepf_at (x : Int) (Bk : Nat) (A : Option Addr) (c : Nat) (keep : List Int) (W : World) (hc : W.cell? ⟨Bk, 0, none⟩ = some (.slice A keep.length c)) (hk : SlI W A keep) (h1 : keep.length ≤ 9223372036854775807) :
    Calls Try.prog 93 #[.int .i64 x, .pointer (some ⟨Bk, 0, none⟩)] W fun e w' => e = .returned (.bool (decide (x ∈ keep))) ∧ ∃ q, w' = W.drewN q := by
  have HP := hid hk
  clear hk
  go_enter Try.func93, Try.ntmps93
  go_wp2_with (go_at_call 33; refine (contains_at A c keep x W HP.out h1).mono ?_; rintro e w1 ⟨rfl, rfl⟩)
  go_ret
  exact ⟨rfl, 0, rfl⟩
theorem weightf_at (x : Int) (Bw : Nat) (A : Option Addr) (c : Nat) (ws : List Int) (W : World) (hc : W.cell? ⟨Bw, 0, none⟩ = some (.slice A ws.length c)) (hk : SlI W A ws) (h1 : ws.length ≤ 9223372036854775807) :
    Calls Try.prog 95 #[.int .i64 x, .pointer (some ⟨Bw, 0, none⟩)] W fun e w' => e = .returned (.int .i64 (wgt ws x)) ∧ W = w' := by
  have HP := hid hk
  clear hk
  go_enter Try.func95, Try.ntmps95
  go_wp2_with (go_at_call 81; refine (weight_at A c ws x W HP.out h1).mono ?_; rintro e w1 ⟨rfl, rfl⟩)
  go_ret
  exact ⟨rfl, rfl⟩
theorem best_pos {f : Int → Int} {L : List Int} : decide (0 < L.length) = (best f L).isSome := by
  cases h : best f L with
  | none => rw [best_none.1 h]; rfl
  | some v =>
    have := List.length_pos_of_mem (best_mem h)
    simp [this]
theorem eg93 (args : Array Value) (w : World) : (callFunc 93 args).run Try.prog w = .ok (.enter 93 args) w := enters_of Try.func93 (by kernel_rfl) rfl args w
theorem eg95 (args : Array Value) (w : World) : (callFunc 95 args).run Try.prog w = .ok (.enter 95 args) w := enters_of Try.func95 (by kernel_rfl) rfl args w
set_option maxRecDepth 100000 in
set_option maxHeartbeats 1000000 in
theorem next_at (b N : Nat) (E : List (Int × Int)) (F : Nat → Prop) (Aw : Option Addr) (cw : Nat) (ws : List Int) (Ar : Option Addr) (cr : Nat) (s : List Int) (Ak : Option Addr) (ck : Nat) (keep : List Int) (w : World) (hG : IsGraph w F b N E) (hw : SlI w Aw ws) (hr : SlI w Ar s) (hk : SlI w Ak keep)
    (hwl : ws.length ≤ 9223372036854775807) (hsl : s.length ≤ 9223372036854775807) (hkl : keep.length ≤ 9223372036854775807) (hfew : E.length ≤ 1048576) (xs : List Int) (hx : IsCyc E s xs) (o : Option Int) (ho : best (wgt ws) (kept xs keep) = o) (cy : Bool) (hcy : decide (0 < xs.length) = cy) :
    Calls Try.prog 79 #[.pointer (some ⟨b, 0, none⟩), .slice Aw ws.length cw, .slice Ar s.length cr, .slice Ak keep.length ck] w fun e w' =>
      e = .returned (.tuple #[.int .i64 (o.getD 0), .bool o.isSome, .bool cy]) ∧ Grew w w' := by
  have HP := hid (And.intro hG (And.intro hw (And.intro hr (And.intro hk hx))))
  have HB := hid ho
  have hcy2 : decide (0 < (xs.length : Int)) = cy := by rw [← hcy]; congr 1; rw [eq_iff_iff]; omega
  clear hG hw hr hk hx ho
  go_enter Try.func79, Try.ntmps79
  go_wp2_with fail
  go_at_call 48
  have HW0 : Hid (Grew w ((w.alloc (.cells #[.slice Aw ws.length cw] 29)).alloc (.cells #[.slice Ak keep.length ck] 29))) := hid (Grew.trans (Only.alloc _ _) (Only.alloc _ _))
  have HC0 : Hid (((w.alloc (.cells #[.slice Aw ws.length cw] 29)).alloc (.cells #[.slice Ak keep.length ck] 29)).cell? ⟨w.heap.size, 0, none⟩ = some (.slice Aw ws.length cw) ∧ ((w.alloc (.cells #[.slice Aw ws.length cw] 29)).alloc (.cells #[.slice Ak keep.length ck] 29)).cell? ⟨w.heap.size + 1, 0, none⟩ = some (.slice Ak keep.length ck)) := hid (by
    constructor
    · exact (Only.alloc (F := fun _ => False) (w.alloc (.cells #[.slice Aw ws.length cw] 29)) _).cell (cell_of_row _ _ 0 _ _ _ (heap_alloc_new w _)) (fun h => h)
    · simp)
  refine (cyclic_at b N E F Ar cr s _ (HP.out.1.grew HW0.out) (HP.out.2.2.1.grew HW0.out) hsl hfew xs HP.out.2.2.2.2).mono ?_
  generalize (w.alloc (.cells #[.slice Aw ws.length cw] 29)).alloc (.cells #[.slice Ak keep.length ck] 29) = W0 at *
  rintro e w1 ⟨v1, rfl, hn1, hg1⟩
  obtain ⟨A1, c1, rfl, hi1, hl1, hl2, hloc⟩ := hn1.form
  have hxl : xs.length ≤ 9223372036854775807 := by unfold maxLen at hl2; omega
  have H1 := hid (And.intro hn1 (And.intro hg1 (And.intro (Grew.trans HW0.out hg1) hloc)))
  have hs0 := HW0.out.size
  have H0 := hid (And.intro (World.block_lt_of_cell? _ _ HC0.out.1) (World.block_lt_of_cell? _ _ HC0.out.2))
  clear hn1 hg1 hloc hi1 hl1 hl2
  have CD : Hid (Calls Try.prog 60 #[.slice A1 xs.length c1, .func (.func 93) #[] #[.pointer (some ⟨w.heap.size + 1, 0, none⟩)]] w1 fun e w' => ∃ A c, e = .returned (.slice A (kept xs keep).length c) ∧ SlI w' A (kept xs keep) ∧ Only (fun i => (Value.slice A1 xs.length c1).ownBlock = some i) w1 w') := hid (by
    refine (delete_at 93 #[.pointer (some ⟨w.heap.size + 1, 0, none⟩)] eg93 (fun x => decide (x ∈ keep)) _ _ xs w1 H1.out.1 hxl (fun W x hW => ?_)).mono ?_
    · have hno : ∀ i, i < W0.heap.size → ¬ (Value.slice A1 xs.length c1).ownBlock = some i := fun i hi h => by have := (World.ownsRow.lt H1.out.1 i h).1; omega
      have hO : Only (fun i => W0.heap.size ≤ i) W0 W := (Grew.to H1.out.2.1).trans hW (fun i hi h => absurd h (hno i hi))
      refine keepf_at x _ Ak ck keep W (hO.cell HC0.out.2 (by have := H0.out.2; show ¬ W0.heap.size ≤ _; omega)) ?_ hkl
      exact (HP.out.2.2.2.1.grew (Grew.trans HW0.out (Fresh.grew hO)))
    · rintro e w' ⟨A, c, rfl, h1, _, h2⟩
      exact ⟨A, c, rfl, h1, h2⟩)
  go_wp2_with (go_at_call 60; have cX := CD.out; with_reducible refine cX.mono ?_; clear cX; rintro e w2 ⟨A2, c2, rfl, hi2, hO2⟩)
  have hg2 : Grew w w2 := by
    have hno : ∀ i, i < W0.heap.size → ¬ (Value.slice A1 xs.length c1).ownBlock = some i := fun i hi h => by have := (World.ownsRow.lt H1.out.1 i h).1; omega
    exact Grew.trans HW0.out (Fresh.grew ((Grew.to H1.out.2.1).trans hO2 (fun i hi h => absurd h (hno i hi))))
  have hcw : w2.cell? ⟨w.heap.size, 0, none⟩ = some (.slice Aw ws.length cw) := by
    refine hO2.cell (H1.out.2.1.cell HC0.out.1 (fun h => h)) (fun h => ?_)
    have h2 := (World.ownsRow.lt H1.out.1 w.heap.size h).1
    have h4 : w.heap.size < W0.heap.size := H0.out.1
    omega
  have H2 := hid (And.intro hi2 (And.intro hg2 hcw))
  have hkl2 : (kept xs keep).length ≤ 9223372036854775807 := Nat.le_trans (List.length_filter_le _ _) hxl
  clear hi2 hO2 hg2 hcw CD
  generalize kept xs keep = L at *
  have CS : Hid (Calls Try.prog 94 #[.slice A2 L.length c2, .func (.func 95) #[] #[.pointer (some ⟨w.heap.size, 0, none⟩)]] w2 fun e w' => e = .returned (.tuple #[.int .i64 (o.getD 0), .bool o.isSome]) ∧ w2 = w') := hid (by
    have h := smallest_at 95 #[.pointer (some ⟨w.heap.size, 0, none⟩)] (wgt ws) A2 c2 L w2 H2.out.1 hkl2 eg95 (fun x => weightf_at x w.heap.size Aw cw ws w2 H2.out.2.2 (HP.out.2.1.grew H2.out.2.1) hwl)
    rw [best_pos (f := wgt ws), HB.out] at h
    exact h)
  go_wp2_with (go_at_call 94; have cX := CS.out; with_reducible refine cX.mono ?_; clear cX; rintro e w3 ⟨rfl, rfl⟩)
  go_ret3
  exact ⟨rfl, H2.out.2.1⟩
set_option maxRecDepth 100000 in
set_option maxHeartbeats 1000000 in
theorem enext_at (b N : Nat) (E : List (Int × Int)) (F : Nat → Prop) (Aw : Option Addr) (cw : Nat) (ws : List Int) (Ar : Option Addr) (cr : Nat) (s : List Int) (w : World) (hG : IsGraph w F b N E) (hw : SlI w Aw ws) (hr : SlI w Ar s)
    (hwl : ws.length ≤ 9223372036854775807) (hsl : s.length ≤ 9223372036854775807) (hfew : E.length ≤ 1048576) (xs : List Int) (hx : IsCyc E s xs) (o : Option Int) (ho : best (wgt ws) xs = o) :
    Calls Try.prog 57 #[.pointer (some ⟨b, 0, none⟩), .slice Aw ws.length cw, .slice Ar s.length cr] w fun e w' =>
      e = .returned (.tuple #[.int .i64 (o.getD 0), .bool o.isSome]) ∧ Grew w w' := by
  have hc : Calls Try.prog 79 #[.pointer (some ⟨b, 0, none⟩), .slice Aw ws.length cw, .slice Ar s.length cr, .slice none 0 0] w fun e w' => e = .returned (.tuple #[.int .i64 (o.getD 0), .bool o.isSome, .bool (decide (0 < xs.length))]) ∧ Grew w w' := next_at b N E F Aw cw ws Ar cr s none 0 [] w hG hw hr SlI.nil hwl hsl (by simp) hfew xs hx o (by rw [kept_nil]; exact ho) _ rfl
  have HC := hid hc
  clear hG hw hr hc
  go_enter Try.func57, Try.ntmps57
  go_wp2_with (go_at_call 79; have cX := HC.out; with_reducible refine cX.mono ?_; clear cX; rintro e w1 ⟨rfl, hg1⟩)
  go_ret2
  exact ⟨rfl, hg1⟩
theorem kept_snoc (L keep : List Int) (x : Int) : kept (L ++ [x]) keep = kept L keep ++ (if x ∈ keep then [] else [x]) := by
  unfold kept
  rw [List.filter_append]
  by_cases h : x ∈ keep <;> simp [h]
set_option maxRecDepth 100000 in
set_option maxHeartbeats 1000000 in
theorem rnext_at (b N : Nat) (E : List (Int × Int)) (F : Nat → Prop) (Aw : Option Addr) (cw : Nat) (ws : List Int) (Ar : Option Addr) (cr : Nat) (s : List Int) (Ak : Option Addr) (ck : Nat) (keep : List Int) (w : World) (hG : IsRef w F b N E) (hw : SlI w Aw ws) (hr : SlI w Ar s) (hk : SlI w Ak keep)
    (hwl : ws.length ≤ 9223372036854775807) (hsl : s.length ≤ 9223372036854775807) (hkl : keep.length ≤ 9223372036854775807) (hfew : E.length ≤ 1048576) (hN : N ≤ 1048576) (hE : Valid N E) (xs : List Int) (hx : IsCyc E s xs) :
    Calls Try.prog 58 #[.pointer (some ⟨b, 0, none⟩), .slice Aw ws.length cw, .slice Ar s.length cr, .slice Ak keep.length ck] w fun e w' =>
      e = .returned (.int .i64 ((best (wgt ws) (kept xs keep)).getD (-1))) ∧ Grew w w' := by
  have HP := hid (And.intro hw (And.intro hk (And.intro hE hx)))
  have HC := hid (rcyclic_at b N E F Ar cr s w hG hr hsl hfew hN hE xs hx)
  clear hG hw hr hk hE hx
  go_enter Try.func58, Try.ntmps58
  go_wp2_with (go_at_call 49; have cX := HC.out; with_reducible refine cX.mono ?_; clear cX; rintro e w1 ⟨v1, rfl, hn1, hg1⟩; obtain ⟨A1, c1, rfl, hi1, hl1, hl2, _⟩ := hn1.form)
  have hxl : xs.length ≤ 9223372036854775807 := by unfold maxLen at hl2; omega
  have H1 := hid (And.intro hi1 hg1)
  clear hn1 hi1 hg1 hl1 hl2 HC
  go_loopw [9, 11] (fun bv i wr => ∃ k : Nat, k ≤ xs.length ∧ i = .int .i64 k ∧ bv = .int .i64 ((best (wgt ws) (kept (xs.take k) keep)).getD (-1)) ∧ wr = w1) (fun _ i _ => xs.length - (intOf i).toNat)
  case atStart => exact ⟨0, Nat.zero_le _, rfl, rfl, rfl⟩
  case round =>
    obtain ⟨k, hk, rfl, rfl, rfl⟩ := hrel
    by_cases hlt : k < xs.length
    · have hb0 : (k : Int) < (xs.length : Int) := by omega
      obtain ⟨bl, off, rfl, hcell⟩ := H1.out.1 (by omega)
      have hc := hcell k hlt
      obtain ⟨x, hx⟩ : ∃ x, xs[k]? = some x := ⟨_, List.getElem?_eq_getElem hlt⟩
      simp only [hx, Option.getD_some] at hc
      have htk : xs.take (k + 1) = xs.take k ++ [x] := by rw [List.take_add_one, hx]; rfl
      have HX : Hid (kept (xs.take (k + 1)) keep = kept (xs.take k) keep ++ (if x ∈ keep then [] else [x])) := hid (by rw [htk, kept_snoc])
      clear hcell hx htk
      by_cases hin : x ∈ keep
      · have HX2 : Hid (kept (xs.take (k + 1)) keep = kept (xs.take k) keep) := hid (by rw [HX.out, if_pos hin, List.append_nil])
        have c1 := in14_is Ak ck keep x wr true (by simpa using hin) (HP.out.2.1.grew H1.out.2) hkl
        clear hin
        go_wp2_with (go_at_call 82; with_reducible refine c1.mono ?_; clear c1; rintro e w' ⟨rfl, rfl⟩)
        go_roundw
        case rel => exact ⟨k + 1, by omega, by go_num, by rw [HX2.out], by trivial⟩
        case measure => simp [intOf]; omega
      · have HX2 : Hid (best (wgt ws) (kept (xs.take (k + 1)) keep) = bstep (wgt ws) (best (wgt ws) (kept (xs.take k) keep)) x) := hid (by rw [HX.out, if_neg hin, best_snoc])
        have c1 := in14_is Ak ck keep x wr false (by simpa using hin) (HP.out.2.1.grew H1.out.2) hkl
        clear hin HX
        obtain ⟨o, ho⟩ : ∃ o, best (wgt ws) (kept (xs.take k) keep) = o := ⟨_, rfl⟩
        rw [ho] at HX2 ⊢
        cases o with
        | none =>
          clear ho
          go_wp2_with (go_at_call 82; with_reducible refine c1.mono ?_; clear c1; rintro e w' ⟨rfl, rfl⟩)
          go_roundw
          case rel => exact ⟨k + 1, by omega, by go_num, by rw [HX2.out]; rfl, by trivial⟩
          case measure => simp [intOf]; omega
        | some y =>
          have hy0 : 0 ≤ y := (HP.out.2.2.2.range HP.out.2.2.1 (List.mem_of_mem_take (mem_kept.1 (best_mem ho)).1)).1
          have hd0 : decide (y < 0) = false := by simpa using hy0
          clear ho
          have HW := hid (fun v => rweight_at Aw cw ws v wr (HP.out.1.grew H1.out.2) hwl)
          by_cases hl : wgt ws x < wgt ws y
          · have hd : decide (wgt ws x < wgt ws y) = true := by simpa using hl
            have HX3 : Hid (best (wgt ws) (kept (xs.take (k + 1)) keep) = some x) := hid (by rw [HX2.out]; unfold bstep; simp [hl])
            clear HX2
            generalize hwx : wgt ws x = fx at *
            generalize hwy : wgt ws y = fy at *
            have HE := hid (And.intro hwx hwy)
            clear hwx hwy
            go_wp2_with (go_at_call 82; with_reducible refine c1.mono ?_; clear c1; rintro e w' ⟨rfl, rfl⟩; have c2 := HW.out x; rw [HE.out.1] at c2)
            go_wp2_with (go_at_call 83; with_reducible refine c2.mono ?_; clear c2; rintro e w' ⟨rfl, rfl⟩; have c3 := HW.out y; rw [HE.out.2] at c3)
            go_wp2_with (go_at_call 83; with_reducible refine c3.mono ?_; clear c3; rintro e w' ⟨rfl, rfl⟩)
            go_roundw
            case rel => exact ⟨k + 1, by omega, by go_num, by rw [HX3.out]; rfl, by trivial⟩
            case measure => simp [intOf]; omega
          · have hd : decide (wgt ws x < wgt ws y) = false := by simpa using hl
            have HX3 : Hid (best (wgt ws) (kept (xs.take (k + 1)) keep) = some y) := hid (by rw [HX2.out]; unfold bstep; simp [hl])
            clear HX2
            generalize hwx : wgt ws x = fx at *
            generalize hwy : wgt ws y = fy at *
            have HE := hid (And.intro hwx hwy)
            clear hwx hwy
            go_wp2_with (go_at_call 82; with_reducible refine c1.mono ?_; clear c1; rintro e w' ⟨rfl, rfl⟩; have c2 := HW.out x; rw [HE.out.1] at c2)
            go_wp2_with (go_at_call 83; with_reducible refine c2.mono ?_; clear c2; rintro e w' ⟨rfl, rfl⟩; have c3 := HW.out y; rw [HE.out.2] at c3)
            go_wp2_with (go_at_call 83; with_reducible refine c3.mono ?_; clear c3; rintro e w' ⟨rfl, rfl⟩)
            go_roundw
            case rel => exact ⟨k + 1, by omega, by go_num, by rw [HX3.out]; rfl, by trivial⟩
            case measure => simp [intOf]; omega
    · obtain rfl : k = xs.length := by omega
      rw [List.take_length]
      go_wp2
      go_ret
      exact ⟨rfl, H1.out.2⟩
end Go.Proofs.Ytlpkolmaklnffaa
