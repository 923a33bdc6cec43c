/- The walk of the reference's Without. -/
import Derived.Test.YtlpkolmaklnffaaKahn
import Derived.Test.YtlpkolmaklnffaaIn
namespace Go.Proofs.Ytlpkolmaklnffaa
open Go.RowKit Go.MapKept

section
variable {P : Program} (w : World)
/-- append of something onto an own row, nil or not. -/
theorem wp_append_any {o : Oper} {a : Act} {K : Act → World → Prop} {Q : Exit → Act → World → Prop} (s x : Operand) (t : TypeId)
    (ho : o.op = .call { callee := .builtin .append, args := #[s, x], argTypes := #[t, t] })
    (base : Nat) (e : TypeId) (i : TypeInfo) (z : Value) (size bytes : Nat) (ht : P.underlying t = some (.slice e)) (hi : P.info? e = some i) (hz : i.zero = some z)
    (hsize : i.size = size) (hby : i.bytes = bytes) (hzs : z.cells.size = size) (hsz : 0 < size)
    (v : Value) (n : Nat) (xs : List Value) (hs : a.eval s = v) (hown : w.ownsRow base e size v n xs)
    (A : Option Addr) (m c : Nat) (news : List Value) (hx : a.eval x = .slice A m c) (hr : Cells w size A m news) (h1 : ∀ u ∈ news, u.oneCell' = true) (hm : 0 < m)
    (h63 : n + m ≤ maxLen) (hbytes : (n + m) * bytes ≤ 140737488355328) (hbase : base ≤ w.heap.size)
    (h : ∀ g' cap' w', w'.ownsRow base e size (.slice (some ⟨g', 0, none⟩) (n + m) cap') (n + m) (xs ++ news) → w.grownBy w' v.ownBlock → (v.ownBlock = some g' ∨ g' = w.heap.size) → g' < w'.heap.size → K (a.put o.dst (.slice (some ⟨g', 0, none⟩) (n + m) cap')) w') :
    Oper.wp P o a w K Q := by
  obtain ⟨v', w', hrun, h2, h3, h4, h5⟩ := run_append_src (P := P) w base t o.type e i z size bytes ht hi hz hsize hby hzs hsz v n xs hown A m c news hr h1 h63 hbytes hbase
  have hv : ∃ g' cap', v' = .slice (some ⟨g', 0, none⟩) (n + m) cap' := by
    rcases h2.2 with ⟨hv, _⟩ | ⟨g', cap', cur, hv, _⟩
    · have := h4.1 hv
      omega
    · exact ⟨g', cap', hv⟩
  obtain ⟨g', cap', rfl⟩ := hv
  unfold Oper.wp execOp
  simp only [ho, resolve, invoke, builtin, Sem.run_bind, Sem.run_pure, Result.andThen_ok, List.map_toArray, List.map_cons, List.map_nil, hs, hx, hrun]
  refine h g' cap' w' h2 h3 ?_ (h2.lt g' rfl).2
  rcases h5 with h5 | h5
  · exact .inl (by simpa [Value.ownBlock] using h5.symm)
  · exact .inr (by simpa [Value.ownBlock] using h5)
end
theorem cut_snoc (E : List (Int × Int)) (l : List Int) {k : Nat} {u x : Int} (h : E[k]? = some (u, x)) : cut (E.take (k + 1)) l = cut (E.take k) l ++ (if u ∉ l ∧ x ∉ l then [(u, x)] else []) := by
  have ht : E.take (k + 1) = E.take k ++ [(u, x)] := by rw [List.take_add_one, h]; rfl
  unfold cut
  rw [ht, List.filter_append]
  congr 1
  simp only [List.filter_cons, List.filter_nil, decide_eq_true_eq]
theorem cut_length (E : List (Int × Int)) (l : List Int) : (cut E l).length ≤ E.length := List.length_filter_le _ _
/-- From h's block and its own row: a graph of the reference. -/
theorem IsRef.of_own {w : World} {b base : Nat} {n : Int} {v : Value} {E : List (Int × Int)} (hb : w.heap[b]? = some (.cells #[.int .i64 n, v] 37 (0, 0))) (hown : w.ownsRow base 39 2 v E.length (cellsE E)) (F : Nat → Prop) (hF : F b) (hFb : ∀ i, base ≤ i → F i) :
    IsRef w F b n E := by
  rcases hown.2 with ⟨rfl, h0⟩ | ⟨g, cap, cur, rfl, hg, hh, hnc, hcm, _⟩
  · obtain rfl : E = [] := List.eq_nil_of_length_eq_zero h0
    exact ⟨none, 0, hb, SlE.nil, Nat.le_refl _, by unfold maxLen; omega, hF, (fun _ _ h => by cases h), (fun _ _ h => by cases h)⟩
  · exact ⟨some ⟨g, 0, none⟩, cap, hb, SlE.of_own hown, hnc, hcm, hF, (fun blk off e => by cases e; exact hFb _ hg), (fun blk off e => by cases e; exact (hown.lt g rfl).2)⟩
set_option maxRecDepth 100000 in
set_option maxHeartbeats 4000000 in
theorem rwithout_at (b N : Nat) (E : List (Int × Int)) (F : Nat → Prop) (A : Option Addr) (c : Nat) (l : List Int) (w : World) (hG : IsRef w F b N E) (hl : SlI w A l) (hlen : l.length ≤ 9223372036854775807) (hfew : E.length ≤ 1048576) :
    Calls Try.prog 36 #[.pointer (some ⟨b, 0, none⟩), .slice A l.length c] w fun e w' => ∃ b', e = .returned (.pointer (some ⟨b', 0, none⟩)) ∧ IsRef w' (fun i => w.heap.size ≤ i ∧ i < w'.heap.size) b' N (cut E l) ∧ Grew w w' := by
  obtain ⟨A', c', g⟩ := hG
  have hcap := g.cap
  have hcmax := g.cmax
  unfold maxLen at hcmax
  have hbl := (Array.getElem?_eq_some_iff.1 g.blk).1
  have k0 := cell_of_row _ _ 0 _ _ _ g.blk
  simp at k0
  have HG := hid (And.intro g hl)
  clear g hl
  go_enter Try.func36, Try.ntmps36
  go_wp2
  go_loopw [6] (fun i wr => ∃ (k : Nat) (sv : Value), i = .int .i64 k ∧ k ≤ E.length ∧ wr.heap[w.heap.size]? = some (.cells #[.int .i64 N, sv] 37 (0, 0)) ∧
      wr.ownsRow (w.heap.size + 1) 39 2 sv (cut (E.take k) l).length (cellsE (cut (E.take k) l)) ∧ Only (fun i => w.heap.size ≤ i) w wr) (fun i _ => E.length - (intOf i).toNat)
  case atStart => exact ⟨0, _, rfl, Nat.zero_le _, heap_alloc_new w _, ⟨by simp [cut, cellsE], .inl ⟨rfl, by simp [cut]⟩⟩, Only.alloc _ _⟩
  case round =>
    obtain ⟨k, sv, rfl, hk, hB, hrow, hO⟩ := hrel
    have gr := HG.out.1.only (Fresh.grew hO) (fun _ _ h => h)
    have hlr := HG.out.2.grew (Fresh.grew hO)
    have k1 := cell_of_row _ _ 1 _ _ _ gr.blk
    simp at k1
    have hOs := hO.size
    have hsl := gr.sl
    have hbz := (Array.getElem?_eq_some_iff.1 hB).1
    have hcl := cut_length (E.take k) l
    have htl : (E.take k).length ≤ k := by rw [List.length_take]; omega
    have HGR := hid (And.intro gr hlr)
    have HH := hid (And.intro hB (And.intro hrow hO))
    clear gr hlr hB hrow hO
    by_cases hlt : k < E.length
    · obtain ⟨bl, off, rfl, hcell⟩ := hsl (by omega)
      obtain ⟨h1, h2⟩ := hcell k hlt
      obtain ⟨⟨u, x⟩, hux⟩ : ∃ p, E[k]? = some p := ⟨E[k], by simp [hlt]⟩
      simp only [hux, Option.getD_some] at h1 h2
      have hsn := cut_snoc E l hux
      have HSN := hid hsn
      have hb0 : (k : Int) < (E.length : Int) := by omega
      clear hcell hux hsn
      generalize hEk : cut (E.take k) l = Ek at *
      clear hEk
      obtain ⟨r1, hr1⟩ : ∃ r : Bool, decide (u ∈ l) = r := ⟨_, rfl⟩
      obtain ⟨r2, hr2⟩ : ∃ r : Bool, decide (x ∈ l) = r := ⟨_, rfl⟩
      have HR := hid (And.intro hr1 hr2)
      clear hr1 hr2
      have C1 : Hid (Calls Try.prog 72 #[.int .i64 u, .slice A l.length c] wr fun e w' => e = .returned (.bool r1) ∧ wr = w') := hid (in11_is A c l u wr r1 HR.out.1 HGR.out.2 hlen)
      have C2 : Hid (Calls Try.prog 72 #[.int .i64 x, .slice A l.length c] wr fun e w' => e = .returned (.bool r2) ∧ wr = w') := hid (in11_is A c l x wr r2 HR.out.2 HGR.out.2 hlen)
      by_cases hr : r1 = false ∧ r2 = false
      · obtain ⟨rfl, rfl⟩ := hr
        have HSN2 : Hid (cut (E.take (k + 1)) l = Ek ++ [(u, x)]) := hid (by rw [HSN.out, if_pos ⟨by simpa using HR.out.1, by simpa using HR.out.2⟩])
        obtain ⟨i0, hi0, hz0, hz1, hz2⟩ := info_parts info_redge
        have HI := hid (And.intro hi0 (And.intro hz0 (And.intro hz1 hz2)))
        clear hi0 hz0 hz1 hz2
        have n1 := cell_of_row _ _ 1 _ _ _ HH.out.1
        simp at n1
        have hbne : b < w.heap.size := hbl
        have hblz : bl < wr.heap.size := HGR.out.1.lt bl off rfl
        have hblw : bl < w.heap.size := by
          have := HG.out.1.lt bl off rfl
          exact this
        have HS : Hid (∀ w', Only (fun i => w.heap.size + 1 ≤ i) wr w' → w'.cell? ⟨w.heap.size, 1, none⟩ = some sv ∧ w'.cell? ⟨b, 1, none⟩ = some (.slice (some ⟨bl, off, none⟩) E.length c') ∧ w'.cell? ⟨bl, off + k * 2, none⟩ = some (.int .i64 u) ∧ w'.cell? ⟨bl, off + k * 2 + 1, none⟩ = some (.int .i64 x)) :=
          hid fun w' hw' => ⟨hw'.cell n1 (by show ¬ _ ≤ _; simp), hw'.cell k1 (by show ¬ _ ≤ _; simp; omega), hw'.cell h1 (by show ¬ _ ≤ _; simp; omega), hw'.cell h2 (by show ¬ _ ≤ _; simp; omega)⟩
        have HW : Hid (∀ w', Only (fun i => w.heap.size + 1 ≤ i) wr w' → w'.heap[w.heap.size]? = some (.cells #[.int .i64 N, sv] 37 (0, 0)) ∧ w'.cell? ⟨w.heap.size, 1, none⟩ = some sv ∧ w'.frozen? ⟨w.heap.size, 1, none⟩ = false) := hid fun w' hw' => by
          have := hw'.heap HH.out.1 (by show ¬ _ ≤ _; simp)
          exact ⟨this, by simpa using cell_of_row _ _ 1 _ _ _ this, by simp [World.frozen?, this]⟩
        clear n1
        have c1 := C1.out
        go_wp2_with (go_at_call 72; first | ((with_reducible refine C1.out.mono ?_); rintro e w' ⟨rfl, rfl⟩) | ((with_reducible refine C2.out.mono ?_); rintro e w' ⟨rfl, rfl⟩))
        clear c1
        clear k0 k1 h1 h2
        refine wp_region_G (by kernel_rfl) 16 (fun w' => w'.cell? ⟨w.heap.size, 1, none⟩ = some sv ∧ w'.cell? ⟨b, 1, none⟩ = some (.slice (some ⟨bl, off, none⟩) E.length c') ∧ w'.cell? ⟨bl, off + k * 2, none⟩ = some (.int .i64 u) ∧ w'.cell? ⟨bl, off + k * 2 + 1, none⟩ = some (.int .i64 x)) (HS.out _ (Only.drew _)) (fun hHeld => ?_)
        refine wpAnyG_take (i := 0) (v := ?_) rfl (by kernel_rfl) (by kernel_rfl) (by kernel_rfl) (by kernel_rfl) (fun _ _ _ h => h) (Or.inl ⟨by rfl, ?_⟩) hHeld ?_
        rotate_left
        focus (intro wz hz; obtain ⟨z1, z2, z3, z4⟩ := hz; go_simp; try with_reducible rfl)
        refine wpAnyG_take (i := 1) (v := ?_) rfl (by kernel_rfl) (by kernel_rfl) (by kernel_rfl) (by kernel_rfl) (fun _ _ _ h => h) (Or.inl ⟨by rfl, ?_⟩) hHeld ?_
        rotate_left
        focus (intro wz hz; obtain ⟨z1, z2, z3, z4⟩ := hz; go_simp; try with_reducible rfl)
        refine wpAnyG_take (i := 2) (v := ?_) rfl (by kernel_rfl) (by kernel_rfl) (by kernel_rfl) (by kernel_rfl) (fun _ _ _ h => h) (Or.inl ⟨by rfl, ?_⟩) hHeld ?_
        rotate_left
        focus (intro wz hz; obtain ⟨z1, z2, z3, z4⟩ := hz; go_simp; try with_reducible rfl)
        refine wpAnyG_take (i := 3) (v := ?_) rfl (by kernel_rfl) (by kernel_rfl) (by kernel_rfl) (by kernel_rfl) (fun _ _ _ h => h) (Or.inl ⟨by rfl, ?_⟩) hHeld ?_
        rotate_left
        focus (intro wz hz; obtain ⟨z1, z2, z3, z4⟩ := hz; go_simp; try with_reducible rfl)
        refine wpAnyG_take (i := 4) (v := ?_) rfl (by kernel_rfl) (by kernel_rfl) (by kernel_rfl) (by kernel_rfl) (fun _ _ _ h => h) (Or.inl ⟨by rfl, ?_⟩) hHeld ?_
        rotate_left
        focus (intro wz hz; obtain ⟨z1, z2, z3, z4⟩ := hz; go_simp; try with_reducible rfl)
        refine wpAnyG_take (i := 5) (v := ?_) rfl (by kernel_rfl) (by kernel_rfl) (by kernel_rfl) (by kernel_rfl) (fun _ _ _ h => h) (Or.inl ⟨by rfl, ?_⟩) hHeld ?_
        rotate_left
        focus (intro wz hz; obtain ⟨z1, z2, z3, z4⟩ := hz; go_simp; try with_reducible rfl)
        refine wpAnyG_take (i := 6) (v := ?_) rfl (by kernel_rfl) (by kernel_rfl) (by kernel_rfl) (by kernel_rfl) (fun _ _ _ h => h) (Or.inl ⟨by rfl, ?_⟩) hHeld ?_
        rotate_left
        focus (intro wz hz; obtain ⟨z1, z2, z3, z4⟩ := hz; go_simp; try with_reducible rfl)
        refine wpAnyG_take (i := 7) (v := ?_) rfl (by kernel_rfl) (by kernel_rfl) (by kernel_rfl) (by kernel_rfl) (fun _ _ _ h => h) (Or.inl ⟨by rfl, ?_⟩) hHeld ?_
        rotate_left
        focus (intro wz hz; obtain ⟨z1, z2, z3, z4⟩ := hz; go_simp; try with_reducible rfl)
        refine wpAnyG_take (i := 8) (v := ?_) rfl (by kernel_rfl) (by kernel_rfl) (by kernel_rfl) (by kernel_rfl) (fun _ _ _ h => h) (Or.inl ⟨by rfl, ?_⟩) hHeld ?_
        rotate_left
        focus (intro wz hz; obtain ⟨z1, z2, z3, z4⟩ := hz; go_simp; try with_reducible rfl)
        refine wpAnyG_take (i := 9) (v := ?_) rfl (by kernel_rfl) (by kernel_rfl) (by kernel_rfl) (by kernel_rfl) (fun _ _ _ h => h) (Or.inl ⟨by rfl, ?_⟩) hHeld ?_
        rotate_left
        focus (intro wz hz; obtain ⟨z1, z2, z3, z4⟩ := hz; go_simp; try with_reducible rfl)
        refine wpAnyG_take (i := 10) (v := ?_) rfl (by kernel_rfl) (by kernel_rfl) (by kernel_rfl) (by kernel_rfl) (fun _ _ _ h => h) (Or.inl ⟨by rfl, ?_⟩) hHeld ?_
        rotate_left
        focus (intro wz hz; obtain ⟨z1, z2, z3, z4⟩ := hz; go_simp; try with_reducible rfl)
        refine wpAnyG_take (i := 11) (v := ?_) rfl (by kernel_rfl) (by kernel_rfl) (by kernel_rfl) (by kernel_rfl) (fun _ _ _ h => h) (Or.inl ⟨by rfl, ?_⟩) hHeld ?_
        rotate_left
        focus (intro wz hz; obtain ⟨z1, z2, z3, z4⟩ := hz; go_simp; try with_reducible rfl)
        clear hHeld
        refine wpAnyG_ready (rs := [12]) (by kernel_rfl) (by simp) ?_
        refine AllReadyG.cons rfl (by rfl) (fun K hK => ?_) ?_
        rotate_left
        exact AllReadyG.nil
        go_simp
        refine hK.out _ _ (fun _ => HS.out _ (Only.trans (Only.alloc _ _) (Only.drew _) (fun _ _ h => h))) ?_
        clear hK K
        refine wpAnyG_ready (rs := [13]) (by kernel_rfl) (by simp) ?_
        refine AllReadyG.cons rfl (by rfl) (fun K hK => ?_) ?_
        rotate_left
        exact AllReadyG.nil
        refine wp_append_any _ (.tmp 50) (.tmp 58) 22 (by rfl) (w.heap.size + 1) 39 i0 _ 2 16 Try.underlying22 HI.out.1 HI.out.2.1 HI.out.2.2.1 HI.out.2.2.2 rfl (by omega) sv Ek.length (cellsE Ek) rfl (own_only2 HH.out.2.1 (Grew.trans (Only.alloc _ _) (Only.drew _)) (fun _ _ h => h)) _ 1 1 (cellsE [(u, x)]) rfl ⟨rfl, fun _ => ⟨_, rfl, World.news_of_block (cs := #[.int .i64 u, .int .i64 x]) (t := 39) (fr := (0, 0)) (heap_alloc_new _ _)⟩⟩ (oneCell_cellsE _) (by omega) (by unfold maxLen; omega) (by omega) (by simp; omega) ?_
        intro g2 cap2 w2 hown2 hgrow2 hat2 hlt2
        have HQ2 : Hid (Only (fun i => w.heap.size + 1 ≤ i) wr w2) := hid ((Only.trans (Only.alloc _ _) (Only.drew _) (fun _ _ h => h)).trans (Only.of_grownBy (F := fun i => w.heap.size + 1 ≤ i) hgrow2 (fun i e => .inl (by
          rcases HH.out.2.1.2 with ⟨rfl, _⟩ | ⟨gg, cap, cur, rfl, hgg, _⟩
          · replace e : Value.ownBlock (.slice none 0 0) = some i := e
            cases e
          · cases e; exact hgg))) (fun _ _ h => h))
        have HOWN := hid hown2
        have hg2 : w.heap.size + 1 ≤ g2 := by
          rcases hown2.2 with ⟨hh, _⟩ | ⟨gg, cap, cur, hh, hgg, _⟩
          · cases hh
          · cases hh; exact hgg
        clear hown2 hgrow2 hat2
        refine hK.out _ _ (fun _ => HS.out _ HQ2.out) ?_
        clear hK K
        refine wpAnyG_ready (rs := [14]) (by kernel_rfl) (by simp) ?_
        refine AllReadyG.cons rfl (by rfl) (fun K hK => ?_) ?_
        rotate_left
        exact AllReadyG.nil
        go_simp
        refine hK.out _ _ (fun _ => HS.out _ HQ2.out) ?_
        clear hK K
        refine wpAnyG_ready (rs := [15]) (by kernel_rfl) (by simp) ?_
        refine AllReadyG.cons rfl (by rfl) (fun K hK => ?_) ?_
        rotate_left
        exact AllReadyG.nil
        go_simp
        refine hK.out _ _ (fun _ => HS.out _ HQ2.out) ?_
        clear hK K
        refine wpAnyG_ready (rs := [16]) (by kernel_rfl) (by simp) ?_
        refine AllReadyG.cons rfl (by rfl) (fun K hK => ?_) ?_
        rotate_left
        exact AllReadyG.nil
        obtain ⟨n2, n3, n4⟩ := HW.out w2 HQ2.out
        have HN2 := hid n2
        clear n2
        go_simp
        refine hK.out _ _ (fun h => absurd rfl h) ?_
        clear hK K
        refine wpAnyG_done (by kernel_rfl) ?_ _
        have HQ : Hid ((w2.setCell ⟨w.heap.size, 1, none⟩ (.slice (some ⟨g2, 0, none⟩) (Ek.length + 1) cap2)).heap[w.heap.size]? = some (.cells #[.int .i64 N, .slice (some ⟨g2, 0, none⟩) (Ek.length + 1) cap2] 37 (0, 0)) ∧ (w2.setCell ⟨w.heap.size, 1, none⟩ (.slice (some ⟨g2, 0, none⟩) (Ek.length + 1) cap2)).ownsRow (w.heap.size + 1) 39 2 (.slice (some ⟨g2, 0, none⟩) (Ek.length + 1) cap2) (Ek.length + 1) (cellsE Ek ++ cellsE [(u, x)]) ∧ Only (fun i => w.heap.size ≤ i) wr (w2.setCell ⟨w.heap.size, 1, none⟩ (.slice (some ⟨g2, 0, none⟩) (Ek.length + 1) cap2))) := hid ⟨by simp [World.setCell, Array.getElem?_modify, HN2.out], own_only2 HOWN.out (Only.setCell (F := fun i => i = w.heap.size) w2 (p := ⟨w.heap.size, 1, none⟩) rfl _) (fun i hi => by omega), (HQ2.out.mono (fun i _ hi => by omega)).trans (Only.setCell (F := fun i => w.heap.size ≤ i) _ (p := ⟨w.heap.size, 1, none⟩) (Nat.le_refl _) _) (fun _ _ h => h)⟩
        clear n3 n4
        go_wp2
        go_roundw
        case rel =>
          refine ⟨k + 1, _, by go_num, by omega, HQ.out.1, ?_, HH.out.2.2.trans HQ.out.2.2 (fun _ _ h => h)⟩
          rw [HSN2.out]
          simpa [cellsE] using HQ.out.2.1
        case measure => simp [intOf]; omega
      · have HSN2 : Hid (cut (E.take (k + 1)) l = Ek) := hid (by
          rw [HSN.out, if_neg, List.append_nil]
          rintro ⟨a1, a2⟩
          exact hr ⟨by rw [← HR.out.1]; simpa using a1, by rw [← HR.out.2]; simpa using a2⟩)
        have HNR := hid hr
        clear hr
        cases r1
        · cases r2
          · exact absurd ⟨rfl, rfl⟩ HNR.out
          · go_wp2_with (go_at_call 72; first | ((with_reducible refine C1.out.mono ?_); rintro e w' ⟨rfl, rfl⟩) | ((with_reducible refine C2.out.mono ?_); rintro e w' ⟨rfl, rfl⟩))
            go_roundw
            case rel => exact ⟨k + 1, sv, by go_num, by omega, HH.out.1, by rw [HSN2.out]; exact HH.out.2.1, HH.out.2.2⟩
            case measure => simp [intOf]; omega
        · go_wp2_with (go_at_call 72; first | ((with_reducible refine C1.out.mono ?_); rintro e w' ⟨rfl, rfl⟩) | ((with_reducible refine C2.out.mono ?_); rintro e w' ⟨rfl, rfl⟩))
          go_roundw
          case rel => exact ⟨k + 1, sv, by go_num, by omega, HH.out.1, by rw [HSN2.out]; exact HH.out.2.1, HH.out.2.2⟩
          case measure => simp [intOf]; omega
    · obtain rfl : k = E.length := by omega
      clear hsl
      go_wp2
      go_ret
      obtain ⟨h1, h2, h3⟩ := HH.out
      rw [List.take_length] at h2
      exact ⟨_, rfl, (IsRef.of_own h1 h2 (fun i => w.heap.size ≤ i) (Nat.le_refl _) (fun i hi => by omega)).mono (fun i hi hi2 => ⟨hi2, hi⟩), Fresh.grew h3⟩
end Go.Proofs.Ytlpkolmaklnffaa
