/- The walk of (*digraph.Graph).Add. -/
import Derived.Test.YtlpkolmaklnffaaDig1
import Derived.StillTailTactics
import Derived.Deep.RegionHeld3
import Derived.Deep.AppendLies
import Derived.Deep.DeepCutAuto
namespace Go.Proofs.Ytlpkolmaklnffaa
open Go.RowKit Go.MapKept

/-- The edge e is one that is added. -/
def canAdd (n : Int) (E : List (Int × Int)) (e : Int × Int) : Bool := inRange n e.1 && inRange n e.2 && decide (e.1 ≠ e.2) && !decide (e ∈ E)
def addOne (n : Int) (E : List (Int × Int)) (e : Int × Int) : List (Int × Int) := if canAdd n E e then E ++ [e] else E
def addAll (n : Int) (E l : List (Int × Int)) : List (Int × Int) := l.foldl (addOne n) E

theorem info_int : (Try.prog.info? 3).map (fun i => (i.zero, i.size, i.bytes)) = some (some (.int .i64 0), 1, 8) := by kernel_rfl
theorem addAll_snoc (n : Int) (E l : List (Int × Int)) {k : Nat} {e : Int × Int} (h : l[k]? = some e) : addAll n E (l.take (k + 1)) = addOne n (addAll n E (l.take k)) e := by
  unfold addAll
  rw [List.take_add_one, h, List.foldl_append]
  rfl
theorem addAll_length (n : Int) (E l : List (Int × Int)) : E.length ≤ (addAll n E l).length ∧ (addAll n E l).length ≤ E.length + l.length := by
  unfold addAll
  induction l generalizing E with
  | nil => simp
  | cons e r ih =>
    have h := ih (addOne n E e)
    have h1 : E.length ≤ (addOne n E e).length ∧ (addOne n E e).length ≤ E.length + 1 := by unfold addOne; split <;> simp
    simp only [List.foldl_cons, List.length_cons]
    omega
set_option maxRecDepth 100000 in
set_option maxHeartbeats 400000 in
theorem add_at (b : Nat) (n : Int) (E : List (Int × Int)) (F : Nat → Prop) (A : Option Addr) (c : Nat) (l : List (Int × Int)) (w : World) (hG : IsGraph w F b n E) (hl : SlE w A l) (hlo : ∀ e ∈ l, okE e) (hfew : E.length + l.length ≤ 1099511627776) (hA : ∀ blk off, A = some ⟨blk, off, none⟩ → ¬ F blk) :
    Calls Try.prog 28 #[.pointer (some ⟨b, 0, none⟩), .slice A l.length c] w fun e w' => e = .returned (.int .i64 ((addAll n E l).length - E.length : Nat)) ∧
      IsGraph w' (fun k => F k ∨ (w.heap.size ≤ k ∧ k < w'.heap.size)) b n (addAll n E l) ∧ Only F w w' := by
  go_enter Try.func28, Try.ntmps28
  go_wp2
  go_loopw [5, 10] (fun s i wr => ∃ k : Nat, k ≤ l.length ∧ i = .int .i64 k ∧ s = .int .i64 ((addAll n E (l.take k)).length - E.length : Nat) ∧
      IsGraph wr (fun k => F k ∨ w.heap.size ≤ k) b n (addAll n E (l.take k)) ∧ Only F w wr) (fun _ i _ => l.length - (intOf i).toNat)
  case atStart => exact ⟨0, Nat.zero_le _, rfl, by simp [addAll], by simpa [addAll] using hG.mono (fun i _ h => .inl h), Only.refl _ _⟩
  case round =>
    obtain ⟨k, hk, rfl, rfl, hGr, hO⟩ := hrel
    by_cases hlt : k < l.length
    · have hlr := hl.only hO hA
      obtain ⟨bl, off, rfl, hcell⟩ := hlr (by omega)
      obtain ⟨h1, h2⟩ := hcell k hlt
      obtain ⟨⟨u, x⟩, hux⟩ : ∃ p, l[k]? = some p := ⟨l[k], by simp [hlt]⟩
      have hok : okE (u, x) := hlo _ (List.mem_of_getElem? hux)
      have hst := addAll_snoc n E l hux
      have hle := addAll_length n E (l.take k)
      have htk : (l.take k).length = k := by simp; omega
      simp only [hux, Option.getD_some] at h1 h2
      clear hcell hl hlo hlr
      have HST := hid hst
      have HUX := hid hux
      clear hst hux
      rw [htk] at hle
      clear htk
      generalize addAll n E (l.take k) = Ek at *
      have hb0 : (k : Int) < (l.length : Int) := by omega
      obtain ⟨⟨me, mo, mi, KO, KI, g⟩, hnd, hval⟩ := hGr
      have hkept : Only (fun _ => False) wr (wr.alloc (.cells #[.int .i64 u, .int .i64 x] 41)) := Only.alloc _ _
      have g1 := g.only hkept (fun _ _ h => h)
      have hblk := heap_alloc_new wr (.cells #[.int .i64 u, .int .i64 x] 41)
      have c0 : (wr.alloc (.cells #[.int .i64 u, .int .i64 x] 41)).cell? ⟨wr.heap.size, 0, none⟩ = some (.int .i64 u) := cell_of_row _ _ 0 _ _ _ (heap_alloc_new wr _)
      have c1 : (wr.alloc (.cells #[.int .i64 u, .int .i64 x] 41)).cell? ⟨wr.heap.size, 1, none⟩ = some (.int .i64 x) := cell_of_row _ _ 1 _ _ _ (heap_alloc_new wr _)
      have hnew : wr.heap.size < (wr.alloc (.cells #[.int .i64 u, .int .i64 x] 41)).heap.size := by simp
      go_wp2_with fail
      generalize hB : wr.heap.size = B at *
      generalize hW : wr.alloc (.cells #[.int .i64 u, .int .i64 x] 41) = W at *
      clear hW hB h1 h2
      have k0 := cell_of_row _ _ 0 _ _ _ g1.blk
      have k1 := cell_of_row _ _ 1 _ _ _ g1.blk
      have k2 := cell_of_row _ _ 2 _ _ _ g1.blk
      have k3 := cell_of_row _ _ 3 _ _ _ g1.blk
      simp at k0 k1 k2 k3
      have HFIN : Hid (∀ nq, IsGraph (W.drewN nq) (fun k => F k ∨ w.heap.size ≤ k) b n Ek ∧ Only F w (W.drewN nq)) :=
        hid fun nq => ⟨⟨⟨me, mo, mi, KO, KI, g1.only (Only.drewN (F := fun _ => False) W nq) (fun _ _ h => h)⟩, hnd, hval⟩, (hO.trans hkept (fun _ _ h => h.elim)).trans (Only.drewN (F := F) W nq) (fun _ _ h => h)⟩
      by_cases hadd : canAdd n Ek (u, x) = true
      · have hadd' := hadd
        simp only [canAdd, Bool.and_eq_true, Bool.not_eq_true', decide_eq_true_eq, decide_eq_false_iff_not] at hadd'
        obtain ⟨⟨⟨hv1, hv2⟩, hux⟩, hmem⟩ := hadd'
        have hq : (u == x) = false := by simpa using hux
        have hlk : ∀ nq, (Instr.lookup 82 (.map (some me)) (.agg #[.int .i64 u, .int .i64 x]) false).run Try.prog (W.drewN nq) = .ok (.bool false) (W.drewN nq) := fun nq => by
          have h := ((g1.edges.only (Only.drewN (F := fun _ => False) W nq) (fun h => h)).lookup keysE Try.underlying82 zeroBool hok).1
          rw [mget_none.2 (fun p hp e => by obtain ⟨e', he', rfl⟩ := List.mem_map.1 hp; exact hmem (e ▸ he'))] at h
          exact h
        have HADDE : Hid (addOne n Ek (u, x) = Ek ++ [(u, x)]) := hid (by unfold addOne; rw [if_pos hadd])
        have HNEW : Hid ((Ek ++ [(u, x)]).Nodup ∧ ∀ e ∈ Ek ++ [(u, x)], (0 ≤ e.1 ∧ e.1 < n) ∧ (0 ≤ e.2 ∧ e.2 < n) ∧ e.1 ≠ e.2) := hid (by
          refine ⟨List.nodup_append.2 ⟨hnd, by simp, fun a ha c hc e => ?_⟩, fun e he => ?_⟩
          · simp at hc
            exact hmem (hc ▸ e ▸ ha)
          · rcases List.mem_append.1 he with he | he
            · exact hval e he
            · simp only [List.mem_singleton] at he
              subst he
              exact ⟨by simpa [inRange] using hv1, by simpa [inRange] using hv2, hux⟩)
        have HMEM := hid hmem
        have HUX := hid hux
        clear hux hmem hadd
        go_quiet ((go_at_call 68; (first | exact quiet_left (vertex_at _ _ _ _ k0) | exact quiet_add_left (vertex_at _ _ _ _ k0))))
        clear hlk hq hv1 hv2
        go_wp2_with fail
        have hBW : (W.drewN nq).heap[B]? = some (.cells #[.int .i64 u, .int .i64 x] 41 (0, 0)) := hblk
        have g2 : GraphAt (W.drewN nq) (fun k => F k ∨ w.heap.size ≤ k) b n Ek Ek Ek me mo mi KO KI := g1.only (Only.drewN (F := fun _ => False) W nq) (fun _ _ h => h)
        have hO2 : Only F w (W.drewN nq) := (HFIN.out nq).2
        clear HFIN k0 k1 k2 k3 c0 c1 g1 hblk
        generalize W.drewN nq = W1 at *
        have c0 := cell_of_row _ _ 0 _ _ _ hBW
        have c1 := cell_of_row _ _ 1 _ _ _ hBW
        have k1 := cell_of_row _ _ 1 _ _ _ g2.blk
        simp at c0 c1 k1
        go_still_tail 5, (by kernel_rfl)
        change wpList _ _ _ _ _ W1.drew
        refine wpList_put rfl _ _ _ rfl keysE Try.underlying82 (g2.edges.only (Only.drew (F := fun _ => False) W1) (fun h => h)) (by unfold maxLen; simp; omega) rfl hok rfl (.bool true) rfl ?_
        intro W2 hm2 hg2 hs2
        have g3 := (g2.only (Only.drew (F := fun _ => False) W1) (fun _ _ h => h)).edge hg2 hm2 HMEM.out
        obtain ⟨es0, cl0, hme0⟩ := g2.edges.heap_map
        obtain ⟨es1, cl1, hmo0⟩ := g2.out.heap_map
        obtain ⟨es2, cl2, hmi0⟩ := g2.inn.heap_map
        have hO3 : Only (fun k => F k ∨ w.heap.size ≤ k) W1.drew W2 := Only.of_grownBy hg2 (fun i e => by cases e; exact .inl g2.Fe)
        have hBW2 : W2.heap[B]? = some (.cells #[.int .i64 u, .int .i64 x] 41 (0, 0)) := (Only.of_grownBy (F := fun i => i = me) hg2 (fun i e => by cases e; exact .inl rfl)).heap (show W1.drew.heap[B]? = _ from hBW) (blk_ne_map hBW hme0)
        have hwW : w.heap.size ≤ W1.heap.size := hO2.size
        have hO4 : Only F w W2 := hO2.trans hO3.undrew (fun i hi h => by rcases h with h | h; exact h; omega)
        have hBe : Hid (W1.heap[B]? = some (.cells #[.int .i64 u, .int .i64 x] 41 (0, 0))) := hid hBW
        obtain ⟨es3, cl3, hmoW⟩ := g3.out.heap_map
        clear hm2 hg2 hO3 c0 c1 k1 hme0 hmo0 hmi0 hBW hO2 hs2 hwW g2
        have c0 := cell_of_row _ _ 0 _ _ _ hBW2
        have c1 := cell_of_row _ _ 1 _ _ _ hBW2
        have k2 := cell_of_row _ _ 2 _ _ _ g3.blk
        simp at c0 c1 k2
        go_wp2_with fail
        go_frame
        go_cut [] from 46 to 62 (fun wx => ∃ KO', GraphAt wx (fun k => F k ∨ w.heap.size ≤ k) b n (Ek ++ [(u, x)]) (Ek ++ [(u, x)]) Ek me mo mi KO' KI ∧ Only F w wx ∧ wx.heap[B]? = some (.cells #[.int .i64 u, .int .i64 x] 41 (0, 0)))
        case first =>
          have hrow := g3.outrow u
          have hlen2 := succ_length Ek u
          have hlkA : ∀ w', Only (fun i => ((mget KO u).getD (.slice none 0 0)).ownBlock = some i) W2 w' → (Instr.lookup 83 (.map (some mo)) (.int .i64 u) false).run Try.prog w' = .ok ((mget KO u).getD (.slice none 0 0)) w' := fun w' hw' =>
            ((g3.out.only hw' (fun e => own_ne_map hrow hmoW e)).lookup keysI Try.underlying83 zeroInts hok.1).1
          have nb := own_ne_blk hrow g3.blk (by decide)
          have nB := own_ne_blk hrow hBW2 (by decide)
          have HFR : Hid (∀ i, ((mget KO u).getD (.slice none 0 0)).ownBlock = some i → F i ∨ w.heap.size ≤ i) := hid fun i hi => by
            cases hm : mget KO u with
            | none => rw [hm] at hi; cases hi
            | some v => rw [hm] at hi; exact g3.Fro _ (mget_some hm) i hi
          have HHLOC := hid (fun (w' w1 : World) (v' : Value) => g3.outs (w' := w') (w1 := w1) (u := u) (x := x) (v' := v'))
          generalize hov : (mget KO u).getD (.slice none 0 0) = ov at *
          have HOV := hid hov
          clear hov
          have c0 := cell_of_row _ _ 0 _ _ _ hBW2
          have c1 := cell_of_row _ _ 1 _ _ _ hBW2
          have k2 := cell_of_row _ _ 2 _ _ _ g3.blk
          simp at c0 c1 k2
          have HS : Hid (∀ w', Only (fun i => ov.ownBlock = some i) W2 w' → w'.cell? ⟨b, 2, none⟩ = some (.map (some mo)) ∧ w'.cell? ⟨B, 0, none⟩ = some (.int .i64 u) ∧ w'.cell? ⟨B, 1, none⟩ = some (.int .i64 x)) :=
            hid fun w' hw' => ⟨hw'.cell k2 nb, hw'.cell c0 nB, hw'.cell c1 nB⟩
          have hlk0 := hlkA W2.drew (Only.drew _)
          have hlk1 := fun o => hlkA (W2.alloc o).drew ((Only.alloc _ _).trans (Only.drew _) (fun _ _ h => h))
          have HM : Hid (∀ w', Only (fun i => ov.ownBlock = some i) W2 w' → MapIs w' mo encI okI KO) := hid fun w' hw' => g3.out.only hw' (fun e => own_ne_map hrow hmoW e)
          have hlo3 := g3.lo
          have HNE := hid (And.intro (blk_ne_map g3.blk hmoW) (blk_ne_map hBW2 hmoW))
          have HNB := hid nB
          clear hlkA nb nB hmoW
          obtain ⟨i0, hi0, hz0, hz1, hz2⟩ := info_parts info_int
          go_region_held3 (fun w' => w'.cell? ⟨b, 2, none⟩ = some (.map (some mo)) ∧ w'.cell? ⟨B, 0, none⟩ = some (.int .i64 u) ∧ w'.cell? ⟨B, 1, none⟩ = some (.int .i64 x))
            (first
              | exact HS.out _ (Only.drew _)
              | exact HS.out _ ((Only.alloc _ _).trans (Only.drew _) (fun _ _ h => h))
              | exact HS.out _ (((Only.alloc _ _).trans (Only.drew _) (fun _ _ h => h)).trans (Only.of_grownBy hgrow (fun i e => .inl e)) (fun _ _ h => h))
              | exact HS3.out)
            (first
              | (refine step_append_lies _ (by rfl) _ _ _ (by rfl) 0 3 i0 _ 1 8 Try.underlying29 hi0 hz0 hz1 hz2 rfl (by omega) ov _ _ (by rfl) ((hrow.alloc _).drew)
                  ⟨W2.heap.size, 0, none⟩ 1 1 [.int .i64 x] (by rfl) (by rfl) (World.news_of_block (cs := #[.int .i64 x]) (t := 3) (fr := (0, 0)) (heap_alloc_new W2 _)) (by simp [Value.oneCell'])
                  (by omega) (by unfold maxLen; omega) (by omega) (by simp) (W2.heap.size + 1) (by simp) ?_; intro gg cap w1 hown1 hgrow hat hlt1
                 obtain ⟨W3, hrun3, hm3, hg3, hs3⟩ := (HM.out _ (((Only.alloc _ _).trans (Only.drew _) (fun _ _ h => h)).trans (Only.of_grownBy hgrow (fun i e => .inl e)) (fun _ _ h => h))).update keysI Try.underlying83 (by unfold maxLen; omega) hok.1 (.slice (some ⟨gg, 0, none⟩) ((succ Ek u).length + 1) cap)
                 replace hrun3 : (Instr.mapUpdate 83 (.map (some mo)) (.int .i64 u) (.slice (some ⟨gg, 0, none⟩) ((succ Ek u).length + 1) cap)).run Try.prog w1 = .ok () W3 := hrun3
                 have HS3 : Hid (W3.cell? ⟨b, 2, none⟩ = some (.map (some mo)) ∧ W3.cell? ⟨B, 0, none⟩ = some (.int .i64 u) ∧ W3.cell? ⟨B, 1, none⟩ = some (.int .i64 x)) := hid (by
                   have hs1 := HS.out _ (((Only.alloc _ _).trans (Only.drew _) (fun _ _ h => h)).trans (Only.of_grownBy hgrow (fun i e => .inl e)) (fun _ _ h => h))
                   have k3 : Only (fun i => i = mo) w1 W3 := Only.of_grownBy hg3 (fun i e => by cases e; exact .inl rfl)
                   exact ⟨k3.cell hs1.1 HNE.out.1, k3.cell hs1.2.1 HNE.out.2, k3.cell hs1.2.2 HNE.out.2⟩)))
          all_goals
            go_wp2_with fail
            go_meet
            have q1 : Only (fun i => ov.ownBlock = some i) W2 w1 := ((Only.alloc _ _).trans (Only.drew _) (fun _ _ h => h)).trans (Only.of_grownBy hgrow (fun i e => .inl e)) (fun _ _ h => h)
            have q3 : Only (fun i => i = mo) w1 W3 := Only.of_grownBy hg3 (fun i e => by cases e; exact .inl rfl)
            have hwW : w.heap.size ≤ W2.heap.size := hO4.size
            have hloc : (Value.slice (some ⟨gg, 0, none⟩) ((succ Ek u).length + 1) cap).ownBlock = ov.ownBlock ∨ ∃ g, (Value.slice (some ⟨gg, 0, none⟩) ((succ Ek u).length + 1) cap).ownBlock = some g ∧ W2.heap.size ≤ g := by
              rcases hat with h | h
              · exact .inl h.symm
              · exact .inr ⟨gg, rfl, by omega⟩
            have HG := HHLOC.out W3 w1 _ q1 hown1 hloc q3 hm3 (fun i hi => .inr (by omega))
            refine ⟨_, HG, (hO4.trans q1 ?_).trans q3 ?_, q3.heap (q1.heap hBW2 HNB.out) HNE.out.2⟩
            · intro i hi h
              have h2 := HFR.out i (h)
              rcases h2 with h2 | h2
              · exact h2
              · omega
            · intro i hi h
              rcases (g3.Fo : _) with h2 | h2
              · exact h ▸ h2
              · omega
        case rest =>
          obtain ⟨KO', g4, hO4, hBW2⟩ := hcut
          obtain ⟨es4, cl4, hmoW⟩ := g4.inn.heap_map
          go_wp2_with fail
          go_cut [] from 63 to 79 (fun wx => ∃ KI', GraphAt wx (fun k => F k ∨ w.heap.size ≤ k) b n (Ek ++ [(u, x)]) (Ek ++ [(u, x)]) (Ek ++ [(u, x)]) me mo mi KO' KI' ∧ Only F w wx ∧ wx.heap[B]? = some (.cells #[.int .i64 u, .int .i64 x] 41 (0, 0)))
          case first =>
            have hrow := g4.inrow x
            have hlen2 := pred_length Ek x
            have hlkA : ∀ w', Only (fun i => ((mget KI x).getD (.slice none 0 0)).ownBlock = some i) wc w' → (Instr.lookup 83 (.map (some mi)) (.int .i64 x) false).run Try.prog w' = .ok ((mget KI x).getD (.slice none 0 0)) w' := fun w' hw' =>
              ((g4.inn.only hw' (fun e => own_ne_map hrow hmoW e)).lookup keysI Try.underlying83 zeroInts hok.2).1
            have nb := own_ne_blk hrow g4.blk (by decide)
            have nB := own_ne_blk hrow hBW2 (by decide)
            have HFR : Hid (∀ i, ((mget KI x).getD (.slice none 0 0)).ownBlock = some i → F i ∨ w.heap.size ≤ i) := hid fun i hi => by
              cases hm : mget KI x with
              | none => rw [hm] at hi; cases hi
              | some v => rw [hm] at hi; exact g4.Fri _ (mget_some hm) i hi
            have HHLOC := hid (fun (w' w1 : World) (v' : Value) => g4.ins (w' := w') (w1 := w1) (u := u) (x := x) (v' := v'))
            generalize hov : (mget KI x).getD (.slice none 0 0) = ov at *
            have HOV := hid hov
            clear hov
            have c0 := cell_of_row _ _ 0 _ _ _ hBW2
            have c1 := cell_of_row _ _ 1 _ _ _ hBW2
            have k2 := cell_of_row _ _ 3 _ _ _ g4.blk
            simp at c0 c1 k2
            have HS : Hid (∀ w', Only (fun i => ov.ownBlock = some i) wc w' → w'.cell? ⟨b, 3, none⟩ = some (.map (some mi)) ∧ w'.cell? ⟨B, 0, none⟩ = some (.int .i64 u) ∧ w'.cell? ⟨B, 1, none⟩ = some (.int .i64 x)) :=
              hid fun w' hw' => ⟨hw'.cell k2 nb, hw'.cell c0 nB, hw'.cell c1 nB⟩
            have hlk0 := hlkA wc.drew (Only.drew _)
            have hlk1 := fun o => hlkA (wc.alloc o).drew ((Only.alloc _ _).trans (Only.drew _) (fun _ _ h => h))
            have HM : Hid (∀ w', Only (fun i => ov.ownBlock = some i) wc w' → MapIs w' mi encI okI KI) := hid fun w' hw' => g4.inn.only hw' (fun e => own_ne_map hrow hmoW e)
            have hlo3 := g4.li
            have HNE := hid (And.intro (blk_ne_map g4.blk hmoW) (blk_ne_map hBW2 hmoW))
            have HNB := hid nB
            clear hlkA nb nB hmoW
            obtain ⟨i0, hi0, hz0, hz1, hz2⟩ := info_parts info_int
            go_region_held3 (fun w' => w'.cell? ⟨b, 3, none⟩ = some (.map (some mi)) ∧ w'.cell? ⟨B, 0, none⟩ = some (.int .i64 u) ∧ w'.cell? ⟨B, 1, none⟩ = some (.int .i64 x))
              (first
                | exact HS.out _ (Only.drew _)
                | exact HS.out _ ((Only.alloc _ _).trans (Only.drew _) (fun _ _ h => h))
                | exact HS.out _ (((Only.alloc _ _).trans (Only.drew _) (fun _ _ h => h)).trans (Only.of_grownBy hgrow (fun i e => .inl e)) (fun _ _ h => h))
                | exact HS3.out)
              (first
                | (refine step_append_lies _ (by rfl) _ _ _ (by rfl) 0 3 i0 _ 1 8 Try.underlying29 hi0 hz0 hz1 hz2 rfl (by omega) ov _ _ (by rfl) ((hrow.alloc _).drew)
                    ⟨wc.heap.size, 0, none⟩ 1 1 [.int .i64 u] (by rfl) (by rfl) (World.news_of_block (cs := #[.int .i64 u]) (t := 3) (fr := (0, 0)) (heap_alloc_new wc _)) (by simp [Value.oneCell'])
                    (by omega) (by unfold maxLen; omega) (by omega) (by simp) (wc.heap.size + 1) (by simp) ?_; intro gg cap w1 hown1 hgrow hat hlt1
                   obtain ⟨W3, hrun3, hm3, hg4, hs3⟩ := (HM.out _ (((Only.alloc _ _).trans (Only.drew _) (fun _ _ h => h)).trans (Only.of_grownBy hgrow (fun i e => .inl e)) (fun _ _ h => h))).update keysI Try.underlying83 (by unfold maxLen; omega) hok.2 (.slice (some ⟨gg, 0, none⟩) ((pred Ek x).length + 1) cap)
                   replace hrun3 : (Instr.mapUpdate 83 (.map (some mi)) (.int .i64 x) (.slice (some ⟨gg, 0, none⟩) ((pred Ek x).length + 1) cap)).run Try.prog w1 = .ok () W3 := hrun3
                   have HS3 : Hid (W3.cell? ⟨b, 3, none⟩ = some (.map (some mi)) ∧ W3.cell? ⟨B, 0, none⟩ = some (.int .i64 u) ∧ W3.cell? ⟨B, 1, none⟩ = some (.int .i64 x)) := hid (by
                     have hs1 := HS.out _ (((Only.alloc _ _).trans (Only.drew _) (fun _ _ h => h)).trans (Only.of_grownBy hgrow (fun i e => .inl e)) (fun _ _ h => h))
                     have k3 : Only (fun i => i = mi) w1 W3 := Only.of_grownBy hg4 (fun i e => by cases e; exact .inl rfl)
                     exact ⟨k3.cell hs1.1 HNE.out.1, k3.cell hs1.2.1 HNE.out.2, k3.cell hs1.2.2 HNE.out.2⟩)))
            all_goals
              go_wp2_with fail
              go_meet
              have q1 : Only (fun i => ov.ownBlock = some i) wc w1 := ((Only.alloc _ _).trans (Only.drew _) (fun _ _ h => h)).trans (Only.of_grownBy hgrow (fun i e => .inl e)) (fun _ _ h => h)
              have q3 : Only (fun i => i = mi) w1 W3 := Only.of_grownBy hg4 (fun i e => by cases e; exact .inl rfl)
              have hwW : w.heap.size ≤ wc.heap.size := hO4.size
              have hloc : (Value.slice (some ⟨gg, 0, none⟩) ((pred Ek x).length + 1) cap).ownBlock = ov.ownBlock ∨ ∃ g, (Value.slice (some ⟨gg, 0, none⟩) ((pred Ek x).length + 1) cap).ownBlock = some g ∧ wc.heap.size ≤ g := by
                rcases hat with h | h
                · exact .inl h.symm
                · exact .inr ⟨gg, rfl, by omega⟩
              have HG := HHLOC.out W3 w1 _ q1 hown1 hloc q3 hm3 (fun i hi => .inr (by omega))
              refine ⟨_, HG, (hO4.trans q1 ?_).trans q3 ?_, q3.heap (q1.heap hBW2 HNB.out) HNE.out.2⟩
              · intro i hi h
                have h2 := HFR.out i (h)
                rcases h2 with h2 | h2
                · exact h2
                · omega
              · intro i hi h
                rcases (g4.Fi : _) with h2 | h2
                · exact h ▸ h2
                · omega
          case rest =>
            obtain ⟨KI', g5, hO4, hBW2⟩ := hcut
            clear hBW2
            go_wp2
            go_roundw
            case rel =>
              refine ⟨k + 1, by omega, by go_num, ?_, ?_, hO4⟩
              · rw [HST.out, HADDE.out]
                have e1 : ((Ek ++ [(u, x)]).length - E.length : Nat) = (Ek.length - E.length) + 1 := by simp; omega
                rw [e1]
                go_num
              · rw [HST.out, HADDE.out]
                exact ⟨⟨_, _, _, _, _, g5⟩, HNEW.out.1, HNEW.out.2⟩
            case measure => simp [intOf]; omega
      · have hsame : addOne n Ek (u, x) = Ek := by unfold addOne; rw [if_neg hadd]
        have HSAME := hid hsame
        have HADD := hid hadd
        clear hsame hadd
        cases hv1 : inRange n u with
        | false =>
          go_quiet ((go_at_call 68; exact quiet_left (vertex_at _ _ _ _ k0)))
          go_wp2
          go_roundw
          case rel => exact ⟨k + 1, by omega, by go_num, by rw [HST.out, HSAME.out], by rw [HST.out, HSAME.out]; exact (HFIN.out _).1, (HFIN.out _).2⟩
          case measure => simp [intOf]; omega
        | true =>
          cases hv2 : inRange n x with
          | false =>
            go_quiet ((go_at_call 68; (first | exact quiet_left (vertex_at _ _ _ _ k0) | exact quiet_add_left (vertex_at _ _ _ _ k0))))
            go_wp2
            go_roundw
            case rel => exact ⟨k + 1, by omega, by go_num, by rw [HST.out, HSAME.out], by rw [HST.out, HSAME.out]; exact (HFIN.out _).1, (HFIN.out _).2⟩
            case measure => simp [intOf]; omega
          | true =>
            by_cases hux : u = x
            · have hq : (u == x) = true := by simpa using hux
              have HQ := hid hux
              clear hux
              go_quiet ((go_at_call 68; (first | exact quiet_left (vertex_at _ _ _ _ k0) | exact quiet_add_left (vertex_at _ _ _ _ k0))))
              go_wp2
              go_roundw
              case rel => exact ⟨k + 1, by omega, by go_num, by rw [HST.out, HSAME.out], by rw [HST.out, HSAME.out]; exact (HFIN.out _).1, (HFIN.out _).2⟩
              case measure => simp [intOf]; omega
            · have hq : (u == x) = false := by simpa using hux
              have hmem : (u, x) ∈ Ek := by
                have := HADD.out
                simpa [canAdd, hv1, hv2, hux] using this
              have hlk : ∀ nq, (Instr.lookup 82 (.map (some me)) (.agg #[.int .i64 u, .int .i64 x]) false).run Try.prog (W.drewN nq) = .ok (.bool true) (W.drewN nq) := fun nq => by
                have h := ((g1.edges.only (Only.drewN (F := fun _ => False) W nq) (fun h => h)).lookup keysE Try.underlying82 zeroBool hok).1
                rw [mget_of_mem g1.edges.nodup (List.mem_map.2 ⟨(u, x), hmem, rfl⟩)] at h
                exact h
              clear hux hmem
              go_quiet ((go_at_call 68; (first | exact quiet_left (vertex_at _ _ _ _ k0) | exact quiet_add_left (vertex_at _ _ _ _ k0))))
              go_wp2
              go_roundw
              case rel => exact ⟨k + 1, by omega, by go_num, by rw [HST.out, HSAME.out], by rw [HST.out, HSAME.out]; exact (HFIN.out _).1, (HFIN.out _).2⟩
              case measure => simp [intOf]; omega
    · obtain rfl : k = l.length := by omega
      rw [List.take_length] at *
      have HGR := hid hGr
      have HO := hid hO
      clear hGr hO hG hlo hfew hA hl
      go_wp2
      go_ret
      exact ⟨rfl, HGR.out.mono (fun i hi h => by rcases h with h | h; exact .inl h; exact .inr ⟨h, hi⟩), HO.out⟩
end Go.Proofs.Ytlpkolmaklnffaa
