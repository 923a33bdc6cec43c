/- The walk of the iterator overlaps. -/
import Derived.Test.YtgpfhdjedebdfaaIx6
import Derived.Test.YtgpfhdjedebdfaaIx2
import Derived.Test.YtgpfhdjedebdfaaIx4
import Derived.RangeFuncNested
import Derived.RangeFuncBound
import Derived.RangeFuncCalls
import Derived.RangeFuncLeaves
import Derived.RangeFuncBox
import Derived.RangeFuncWrites
import Derived.Shelf.Abstract
import Derived.Shelf.RegionOpen
import Derived.OwnWalkIn
import Derived.TacticsInMore
import Derived.LoopNIn
import Derived.LoopIn
import Derived.Maps.AppendAt
namespace Go.Proofs.Ytgpfhdjedebdfaa
open Go.RowKit Go.MapKept
attribute [local go_sem] Oper.semAt_some

abbrev Part := Int × (Int × Int)
/-- The parts of the entries that belong to e, with their positions. -/
def parts (e : Int × Int) (S : List Ent) : List Part := (S.filter (fun x => meets x.1 e)).map (fun x => (x.2, ovl x.1 e))
theorem parts_snoc_yes {e : Int × Int} {S : List Ent} {k : Nat} {x : Ent} (hx : S[k]? = some x) (h : meets x.1 e = true) : parts e (S.take (k + 1)) = parts e (S.take k) ++ [(x.2, ovl x.1 e)] := by
  rw [List.take_add_one, hx]
  simp [parts, h]
theorem parts_nil {e : Int × Int} {S : List Ent} (h : ∀ x ∈ S, meets x.1 e = false) : parts e S = [] := by
  unfold parts
  rw [List.filter_eq_nil_iff.2 (fun x hx => by rw [h x hx]; simp)]
  rfl
theorem parts_take_all {e : Int × Int} {S : List Ent} {k : Nat} (h : ∀ i x, k ≤ i → S[i]? = some x → meets x.1 e = false) : parts e (S.take k) = parts e S := by
  have h1 : parts e S = parts e (S.take k) ++ parts e (S.drop k) := by
    unfold parts
    rw [← List.map_append, ← List.filter_append, List.take_append_drop]
  rw [h1, parts_nil (S := S.drop k), List.append_nil]
  intro x hx
  obtain ⟨i, hi⟩ := List.mem_iff_getElem?.1 hx
  rw [List.getElem?_drop] at hi
  exact h _ x (by omega) hi
theorem parts_before {c d : Int} {S : List Ent} {k : Nat} (h : IsCut S.length (pf S c) k) : parts (c, d) (S.take k) = [] := by
  refine parts_nil (fun x hx => ?_)
  obtain ⟨i, hi⟩ := List.mem_iff_getElem?.1 hx
  rw [List.getElem?_take] at hi
  split at hi
  · rename_i hik
    have := h.before hi hik
    simp only [meets, decide_eq_false_iff_not]
    omega
  · cases hi
theorem parts_over {c d : Int} {S : List Ent} {k : Nat} {x : Ent} (hS : GoodS S) (hk : c < x.1.1 + x.1.2) (hx : S[k]? = some x) (hm : meets x.1 (c, d) = false) : parts (c, d) (S.take k) = parts (c, d) S := by
  refine parts_take_all (fun i y hi hy => ?_)
  have h0 := (hS.at hx).2
  simp only [meets, decide_eq_false_iff_not] at hm ⊢
  rcases Nat.lt_or_eq_of_le hi with h | h
  · have h1 := hS.lt hx hy h
    have h2 := (hS.at hy).2
    omega
  · subst h
    rw [hx] at hy
    cases hy
    exact hm
theorem parts_length_lt {e : Int × Int} {S : List Ent} {k : Nat} {x : Ent} (hx : S[k]? = some x) : (parts e (S.take k)).length < S.length := by
  have h1 : (parts e (S.take k)).length ≤ (S.take k).length := by
    unfold parts
    rw [List.length_map]
    exact List.length_filter_le _ _
  have h2 := (List.getElem?_eq_some_iff.1 hx).1
  rw [List.length_take] at h1
  omega
theorem parts_prefix (e : Int × Int) (S : List Ent) (k : Nat) : parts e (S.take k) <+: parts e S := by
  refine ⟨parts e (S.drop k), ?_⟩
  unfold parts
  rw [← List.map_append, ← List.filter_append, List.take_append_drop]
theorem two_ways {e : Ending} {A B : Prop} (h : (e = .returned (.bool true) ∧ A) ∨ (e = .returned (.bool false) ∧ B)) : ∃ bb : Bool, e = .returned (.bool bb) ∧ (bb = true → A) ∧ (bb = false → B) := by
  rcases h with ⟨h, a⟩ | ⟨h, b⟩
  · exact ⟨true, h, fun _ => a, fun h => by cases h⟩
  · exact ⟨false, h, fun h => (by cases h), fun _ => b⟩
theorem grew_grownBy {w w' : World} (h : Grew w w') : w.grownBy w' none := ⟨h.1, h.2, h.3, h.4, fun k hk _ => h.5 k hk (fun h => h)⟩
set_option maxRecDepth 100000 in
set_option maxHeartbeats 4000000 in
theorem over1_in (n : Nat) (hn : 1 ≤ n) (Fw : Nat → Prop) (l Bx Be p : Nat) (S : List Ent) (c d : Int) (hV : VE (c, d)) (hS : GoodS S) (J Jx : List Part → World → Prop)
    (hY : ∀ pre (x : Part) W, J pre W → pre.length < S.length → YieldAt Fence.wide (n - 1) Try.prog l #[.int .i64 x.1, .agg #[.int .i64 x.2.1, .int .i64 x.2.2]] W fun e W' => (e = .returned (.bool true) ∧ J (pre ++ [x]) W' ∧ Only Fw W W') ∨ (e = .returned (.bool false) ∧ Jx (pre ++ [x]) W'))
    (W : World) (hJ : ∀ pre W1 W2, J pre W1 → Grew W1 W2 → J pre W2)
    (HK : Hid (∀ W', Only Fw W W' → IsIdx W' p S ∧ W'.cell? ⟨Bx, 0, none⟩ = some (.pointer (some ⟨p, 0, none⟩)) ∧ W'.cell? ⟨Be, 0, none⟩ = some (.int .i64 c) ∧ W'.cell? ⟨Be, 1, none⟩ = some (.int .i64 d))) (h0 : J [] W) :
    CallsIn Fence.wide n Try.prog 48 #[.func (.yield l) #[] #[], .pointer (some ⟨Bx, 0, none⟩), .pointer (some ⟨Be, 0, none⟩)] W fun e W' => (∃ v, e = .returned v) ∧ (J (parts (c, d) S) W' ∨ ∃ pre, pre <+: parts (c, d) S ∧ Jx pre W') := by
  have HY := hid hY
  have HJ := hid hJ
  have HS0 := hid (And.intro hS hV)
  have H0 := hid h0
  have hmix : Try.prog.follows .mixedOrders = true := by kernel_rfl
  obtain ⟨hI, k1, k2, k3⟩ := HK.out W (Only.refl _ _)
  have hlen := hI
  obtain ⟨_, _, _, _, hl⟩ := hlen
  have HA := hid (after_at p S c W hI hS)
  clear hI hY hJ hS hV h0
  refine callsIn_of_wp Try.func48 rfl trivial ?_ rfl
  simp only [Try.ntmps48, List.size_toArray, List.length_cons, List.length_nil, Nat.reduceAdd, Nat.reduceSub, Array.replicate_succ, Array.replicate_zero, List.push_toArray, List.append_toArray, List.nil_append, List.cons_append]
  gi_wp2_with (first | (refine ⟨trivial, ?_⟩; gi_at_call 35; have cX := callsIn_wide (n := n - 1).2 HA.out; with_reducible refine cX.mono ?_; clear cX; rintro e w1 ⟨k, rfl, hk0, hg1⟩) | (gi_at_call 35; have cX := (callsIn_wide (n := n - 1)).2 HA.out; with_reducible refine cX.mono ?_; clear cX; rintro e w1 ⟨k, rfl, hk0, hg1⟩))
  have H1 := hid (And.intro hk0 hg1)
  have hk0l := hk0.1
  clear hk0 hg1 HA k1 k2 k3
  gi_loopw [4] (fun i wr => ∃ k1 : Nat, k1 ≤ S.length ∧ k ≤ k1 ∧ i = .int .i64 k1 ∧ Hid (J (parts (c, d) (S.take k1)) wr ∧ Only Fw W wr)) (fun i _ => S.length - (intOf i).toNat)
  case atStart => exact ⟨k, hk0l, Nat.le_refl _, rfl, hid ⟨by rw [parts_before H1.out.1]; exact HJ.out _ _ _ H0.out H1.out.2, H1.out.2.mono (fun _ _ h => h.elim)⟩⟩
  case round =>
    obtain ⟨q, hq, hkq, rfl, HR⟩ := hrel
    obtain ⟨hI, k1, k2, k3⟩ := HK.out wr HR.out.2
    have HI := hid hI
    by_cases hlt : q < S.length
    · have hb0 : (q : Int) < (S.length : Int) := by omega
      obtain ⟨x, hx⟩ : ∃ x, S[q]? = some x := ⟨_, List.getElem?_eq_getElem hlt⟩
      obtain ⟨b, o, cc, q1, q2, q3, q4⟩ := hI.at hx
      have HX := hid (And.intro hx (And.intro (H1.out.1.behind hx hkq) (HS0.out.1.at hx)))
      obtain ⟨⟨x1, x2⟩, x3⟩ := x
      simp only at q2 q3 q4
      have HS : Hid (∀ w', Grew wr w' → w'.cell? ⟨Bx, 0, none⟩ = some (.pointer (some ⟨p, 0, none⟩)) ∧ w'.cell? ⟨Be, 0, none⟩ = some (.int .i64 c) ∧ w'.cell? ⟨Be, 1, none⟩ = some (.int .i64 d) ∧ w'.cell? ⟨p, 0, none⟩ = some (.slice (some ⟨b, o, none⟩) S.length cc) ∧ w'.cell? ⟨b, o + q * 3, none⟩ = some (.int .i64 x1) ∧ w'.cell? ⟨b, o + q * 3 + 1, none⟩ = some (.int .i64 x2) ∧ w'.cell? ⟨b, o + q * 3 + 2, none⟩ = some (.int .i64 x3)) :=
        hid (fun w' h => ⟨h.cell k1 (fun h => h), h.cell k2 (fun h => h), h.cell k3 (fun h => h), h.cell q1 (fun h => h), h.cell q2 (fun h => h), h.cell q3 (fun h => h), h.cell q4 (fun h => h)⟩)
      have HST : Hid (∀ w1 B u v, Grew wr w1 → wr.heap.size ≤ B → Grew wr ((w1.setCell ⟨B, 0, none⟩ u).setCell ⟨B, 1, none⟩ v)) := hid (fun w1 B u v h hB => by
        have q := (h.mono (G := fun i => i = B) (fun _ _ h => h.elim)).trans ((Only.setCell (F := fun i => i = B) w1 (p := ⟨B, 0, none⟩) rfl u).trans (Only.setCell (F := fun i => i = B) _ (p := ⟨B, 1, none⟩) rfl v) (fun _ _ h => h)) (fun _ _ h => h)
        exact q.mono (fun i hi h => by omega))
      have HFR : Hid (∀ w', Grew (wr.drew.alloc (.cells #[.int .i64 0, .int .i64 0] 28)) w' → w'.frozen? ⟨wr.heap.size, 0, none⟩ = false ∧ w'.frozen? ⟨wr.heap.size, 1, none⟩ = false ∧ w'.cell? ⟨wr.heap.size, 0, none⟩ = some (.int .i64 0) ∧ w'.cell? ⟨wr.heap.size, 1, none⟩ = some (.int .i64 0)) := hid (fun w' hw' => by
        have g4 := hw'.heap (heap_alloc_new wr.drew (.cells #[.int .i64 0, .int .i64 0] 28)) (fun h => h)
        have g5 : w'.heap[wr.heap.size]? = some (.cells #[.int .i64 0, .int .i64 0] 28 (0, 0)) := g4
        exact ⟨by simp [World.frozen?, g5], by simp [World.frozen?, g5], by simp [World.cell?, g5], by simp [World.cell?, g5]⟩)
      have HO : Hid (∀ W', Calls Try.prog 49 #[.agg #[.int .i64 x1, .int .i64 x2], .agg #[.int .i64 c, .int .i64 d]] W' fun e w' => e = .returned (.tuple #[eV (ovl (x1, x2) (c, d)), .bool (meets (x1, x2) (c, d))]) ∧ Grew W' w') := hid (fun W' => overlap_at x1 x2 c d W' HX.out.2.2.1 HS0.out.2)
      have HP : Hid (∀ o1 o2, ovl (x1, x2) (c, d) = (o1, o2) → ∀ q' : Nat, q' = q → True) := hid (fun _ _ _ _ _ => trivial)
      have HXX : Hid (S[q]? = some ((x1, x2), x3)) := hid HX.out.1
      obtain ⟨m, hm⟩ : ∃ m : Bool, meets (x1, x2) (c, d) = m := ⟨_, rfl⟩
      obtain ⟨o1, o2, hov⟩ : ∃ o1 o2 : Int, ovl (x1, x2) (c, d) = (o1, o2) := ⟨_, _, rfl⟩
      have HM := hid (And.intro hm hov)
      have HO' : Hid (∀ W', Calls Try.prog 49 #[.agg #[.int .i64 x1, .int .i64 x2], .agg #[.int .i64 c, .int .i64 d]] W' fun e w' => e = .returned (.tuple #[.agg #[.int .i64 o1, .int .i64 o2], .bool m]) ∧ Grew W' w') := hid (fun W' => by
        have h := HO.out W'
        rw [hm, hov] at h
        exact h)
      clear hx hI hm hov HO HP q1 q2 q3 q4
      gi_wp2_with (first | (refine ⟨trivial, ?_⟩; gi_at_call 21; have cX := callsIn_wide (n := n - 1).2 (len_at p S wr HI.out); with_reducible refine cX.mono ?_; clear cX; rintro e w2 ⟨rfl, rfl⟩) | (gi_at_call 21; have cX := (callsIn_wide (n := n - 1)).2 (len_at p S wr HI.out); with_reducible refine cX.mono ?_; clear cX; rintro e w2 ⟨rfl, rfl⟩))
      refine wpIn_wide.2 ?_
      go_region_held3 (fun w' => w'.cell? ⟨Bx, 0, none⟩ = some (.pointer (some ⟨p, 0, none⟩)) ∧ w'.cell? ⟨Be, 0, none⟩ = some (.int .i64 c) ∧ w'.cell? ⟨Be, 1, none⟩ = some (.int .i64 d) ∧ w'.cell? ⟨p, 0, none⟩ = some (.slice (some ⟨b, o, none⟩) S.length cc) ∧ w'.cell? ⟨b, o + q * 3, none⟩ = some (.int .i64 x1) ∧ w'.cell? ⟨b, o + q * 3 + 1, none⟩ = some (.int .i64 x2) ∧ w'.cell? ⟨b, o + q * 3 + 2, none⟩ = some (.int .i64 x3))
        (first
          | exact HS.out _ (Only.drew _)
          | exact HS.out _ ha
          | exact HS.out _ (Grew.trans (Only.drew _) (Only.alloc _ _))
          | exact HS.out _ (Grew.trans ha (Only.alloc _ _))
          | exact HS.out _ (HST.out _ _ _ _ ha (Nat.le_refl _))
          | exact HS.out _ (HST.out _ _ _ _ (Grew.trans ha (Only.alloc _ _)) ha.size))
        (first
          | (go_at_call 49; refine (HO'.out _).mono ?_; rintro e wa ⟨rfl, ha0⟩; (have ha : Grew wr wa := (by first | exact Grew.trans (Only.drew _) ha0 | exact Grew.trans (Grew.trans (Only.drew _) (Only.alloc _ _)) ha0)); (try (have hz := HFR.out _ ha0; obtain ⟨z1, z2, z3, z4⟩ := hz))))
      · have hc12 := cells2 wa (.int .i64 o1) (.int .i64 o2) 28
        have HG4 := hid (Grew.trans ha (Only.alloc (F := fun _ => False) wa (.cells #[.int .i64 o1, .int .i64 o2] 28)))
        have HC4 := hid hc12
        clear hc12 ha0 ha HST HFR HO'
        generalize wa.alloc (.cells #[.int .i64 o1, .int .i64 o2] 28) = W4 at *
        generalize wa.heap.size = B at *
        cases m with
        | false =>
          gi_wp2_with fail
          refine wpIn_wide.2 ?_
          go_quiet (fail)
          gi_wp2
          refine bodyPost_ret (results_none rfl _ _ _) rfl ?_
          refine ⟨⟨_, rfl⟩, .inl ?_⟩
          have h := parts_over HS0.out.1 HX.out.2.1 HXX.out HM.out.1
          rw [← h]
          exact HJ.out _ _ _ HR.out.1 (Grew.trans HG4.out (Only.drewN _ _))
        | true =>
          obtain ⟨fn, tmps, assign, body, hy, hR⟩ := HY.out (parts (c, d) (S.take q)) (x3, (o1, o2)) W4.drew (HJ.out _ _ _ HR.out.1 (Grew.trans HG4.out (Only.drew _))) (parts_length_lt HXX.out)
          dsimp only at hy
          obtain ⟨y1, y2, y3, y4, y5, y6, y7⟩ := HS.out _ (Grew.trans HG4.out (Only.drew _))
          have y8 : W4.drew.cell? ⟨B, 0, none⟩ = some (.int .i64 o1) := HC4.out.1
          have y9 : W4.drew.cell? ⟨B, 1, none⟩ = some (.int .i64 o2) := HC4.out.2
          have HPS := hid (parts_snoc_yes HXX.out HM.out.1)
          have HGD : Hid (Only Fw W W4.drew) := hid (HR.out.2.trans ((Grew.trans HG4.out (Only.drew _)).mono (fun _ _ h => h.elim)) (fun _ _ h => h))
          gi_wp2_with fail
          gi_region_with_o (refine hR.mono ?_; intro e W5 hp; obtain ⟨bb, rfl, hpt, hpf⟩ := two_ways hp)
          all_goals
            cases bb with
            | true =>
              gi_wp2
              go_roundw
              case rel =>
                have h := hpt rfl
                refine ⟨q + 1, by omega, by omega, by simp, hid ⟨?_, HGD.out.trans h.2 (fun _ _ h => h)⟩⟩
                rw [HPS.out, HM.out.2]
                exact h.1
              case measure => simp [intOf]; omega
            | false =>
              gi_wp2
              refine bodyPost_ret (results_none rfl _ _ _) rfl ?_
              refine ⟨⟨_, rfl⟩, .inr ⟨_, ?_, hpf (by first | rfl | trivial)⟩⟩
              have h := parts_prefix (c, d) S (q + 1)
              rw [HPS.out, HM.out.2] at h
              exact h
      · have hc12 := set_two wa wr.heap.size (.int .i64 0) (.int .i64 0) (.int .i64 o1) (.int .i64 o2) z3 z4
        have HG4 := hid (HST.out wa wr.heap.size (.int .i64 o1) (.int .i64 o2) ha (Nat.le_refl _))
        have HC4 := hid hc12
        clear hc12 ha0 ha z1 z2 z3 z4 HST HFR HO'
        generalize (wa.setCell ⟨wr.heap.size, 0, none⟩ (.int .i64 o1)).setCell ⟨wr.heap.size, 1, none⟩ (.int .i64 o2) = W4 at *
        generalize wr.heap.size = B at *
        cases m with
        | false =>
          gi_wp2_with fail
          refine wpIn_wide.2 ?_
          go_quiet (fail)
          gi_wp2
          refine bodyPost_ret (results_none rfl _ _ _) rfl ?_
          refine ⟨⟨_, rfl⟩, .inl ?_⟩
          have h := parts_over HS0.out.1 HX.out.2.1 HXX.out HM.out.1
          rw [← h]
          exact HJ.out _ _ _ HR.out.1 (Grew.trans HG4.out (Only.drewN _ _))
        | true =>
          obtain ⟨fn, tmps, assign, body, hy, hR⟩ := HY.out (parts (c, d) (S.take q)) (x3, (o1, o2)) W4.drew (HJ.out _ _ _ HR.out.1 (Grew.trans HG4.out (Only.drew _))) (parts_length_lt HXX.out)
          dsimp only at hy
          obtain ⟨y1, y2, y3, y4, y5, y6, y7⟩ := HS.out _ (Grew.trans HG4.out (Only.drew _))
          have y8 : W4.drew.cell? ⟨B, 0, none⟩ = some (.int .i64 o1) := HC4.out.1
          have y9 : W4.drew.cell? ⟨B, 1, none⟩ = some (.int .i64 o2) := HC4.out.2
          have HPS := hid (parts_snoc_yes HXX.out HM.out.1)
          have HGD : Hid (Only Fw W W4.drew) := hid (HR.out.2.trans ((Grew.trans HG4.out (Only.drew _)).mono (fun _ _ h => h.elim)) (fun _ _ h => h))
          gi_wp2_with fail
          gi_region_with_o (refine hR.mono ?_; intro e W5 hp; obtain ⟨bb, rfl, hpt, hpf⟩ := two_ways hp)
          all_goals
            cases bb with
            | true =>
              gi_wp2
              go_roundw
              case rel =>
                have h := hpt rfl
                refine ⟨q + 1, by omega, by omega, by simp, hid ⟨?_, HGD.out.trans h.2 (fun _ _ h => h)⟩⟩
                rw [HPS.out, HM.out.2]
                exact h.1
              case measure => simp [intOf]; omega
            | false =>
              gi_wp2
              refine bodyPost_ret (results_none rfl _ _ _) rfl ?_
              refine ⟨⟨_, rfl⟩, .inr ⟨_, ?_, hpf (by first | rfl | trivial)⟩⟩
              have h := parts_prefix (c, d) S (q + 1)
              rw [HPS.out, HM.out.2] at h
              exact h
    · obtain rfl : q = S.length := by omega
      gi_wp2_with (first | (refine ⟨trivial, ?_⟩; gi_at_call 21; have cX := callsIn_wide (n := n - 1).2 (len_at p S wr HI.out); with_reducible refine cX.mono ?_; clear cX; rintro e w2 ⟨rfl, rfl⟩) | (gi_at_call 21; have cX := (callsIn_wide (n := n - 1)).2 (len_at p S wr HI.out); with_reducible refine cX.mono ?_; clear cX; rintro e w2 ⟨rfl, rfl⟩))
      go_end0
      exact ⟨⟨_, rfl⟩, .inl (by have h := HR.out.1; rw [List.take_length] at h; exact h)⟩
set_option maxRecDepth 100000 in
set_option maxHeartbeats 1000000 in
theorem over1_nil (n : Nat) (hn : 1 ≤ n) (l Bx Be : Nat) (c : Int) (J : List Part → World → Prop) (W : World) (hJ : ∀ pre W1 W2, J pre W1 → Grew W1 W2 → J pre W2)
    (hx : W.cell? ⟨Bx, 0, none⟩ = some (.pointer none)) (he0 : W.cell? ⟨Be, 0, none⟩ = some (.int .i64 c)) (h0 : J [] W) :
    CallsIn Fence.wide n Try.prog 48 #[.func (.yield l) #[] #[], .pointer (some ⟨Bx, 0, none⟩), .pointer (some ⟨Be, 0, none⟩)] W fun e W' => (∃ v, e = .returned v) ∧ J [] W' := by
  have HJ := hid hJ
  have H0 := hid h0
  have HA := hid (after_nil c W)
  clear hJ h0
  refine callsIn_of_wp Try.func48 rfl trivial ?_ rfl
  simp only [Try.ntmps48, List.size_toArray, List.length_cons, List.length_nil, Nat.reduceAdd, Nat.reduceSub, Array.replicate_succ, Array.replicate_zero, List.push_toArray, List.append_toArray, List.nil_append, List.cons_append]
  gi_wp2_with (first | (refine ⟨trivial, ?_⟩; gi_at_call 35; have cX := callsIn_wide (n := n - 1).2 HA.out; with_reducible refine cX.mono ?_; clear cX; rintro e w1 ⟨rfl, hg1⟩) | (gi_at_call 35; have cX := (callsIn_wide (n := n - 1)).2 HA.out; with_reducible refine cX.mono ?_; clear cX; rintro e w1 ⟨rfl, hg1⟩))
  have hx1 := hg1.cell hx (fun h => h)
  gi_loopw [4] (fun i wr => i = .int .i64 0 ∧ Hid (J [] wr) ∧ wr.cell? ⟨Bx, 0, none⟩ = some (.pointer none)) (fun _ _ => 0)
  case atStart => exact ⟨rfl, hid (HJ.out _ _ _ H0.out hg1), hx1⟩
  case round =>
    obtain ⟨rfl, HR, k1⟩ := hrel
    gi_wp2_with (first | (refine ⟨trivial, ?_⟩; gi_at_call 21; have cX := callsIn_wide (n := n - 1).2 (len_nil wr); with_reducible refine cX.mono ?_; clear cX; rintro e w2 ⟨rfl, rfl⟩) | (gi_at_call 21; have cX := (callsIn_wide (n := n - 1)).2 (len_nil wr); with_reducible refine cX.mono ?_; clear cX; rintro e w2 ⟨rfl, rfl⟩))
    go_end0
    exact ⟨⟨_, rfl⟩, HR.out⟩
theorem over_in (n : Nat) (q : Option Addr) (c d : Int) (w : World) :
    CallsIn Fence.wide n Try.prog 38 #[.pointer q, .agg #[.int .i64 c, .int .i64 d]] w fun e w' => e = .returned (.func (.func 48) #[] #[.pointer (some ⟨w.heap.size, 0, none⟩), .pointer (some ⟨w.heap.size + 1, 0, none⟩)]) ∧ w' = (w.alloc (.cells #[.pointer q] 25)).alloc (.cells #[.int .i64 c, .int .i64 d] 28) := by
  refine callsIn_of_wp Try.func38 rfl trivial ?_ rfl
  simp only [Try.ntmps38, List.size_toArray, List.length_cons, List.length_nil, Nat.reduceAdd, Nat.reduceSub, Array.replicate_succ, Array.replicate_zero, List.push_toArray, List.append_toArray, List.nil_append, List.cons_append]
  gi_wp2
  go_ret
  exact ⟨rfl, rfl⟩
theorem keep_idx {w w' : World} {Fw : Nat → Prop} {p : Nat} {S : List Ent} (h : IsIdx w p S) (k : Only Fw w w') (hF : ∀ i, i < w.heap.size → ¬ Fw i) : IsIdx w' p S :=
  h.grew (k.mono (fun i hi h => (hF i hi h).elim))
theorem onlyK_t {Fw : Nat → Prop} {A B C : World} (h : Only Fw A B) (k : Only Fw B C) : Only Fw A C := h.trans k (fun _ _ h => h)
theorem onlyK_b {Fw : Nat → Prop} {s : Nat} (hF : ∀ i, s ≤ i → Fw i) (W : World) (l : Nat) (o o' : Obj) (hl : s ≤ l) (_ : W.heap[l]? = some o) (_ : o.isCells = false) (_ : o.isWalk = false) : Only Fw W (W.putObj l o') := by
  have g := grownBy_putObj' W l o'
  exact ⟨g.1, g.2, g.3, g.4, fun k hk hn => g.5 k hk (fun e => by cases e; exact hn (hF _ hl))⟩
/-- overlaps(e) hands back a value that yields the parts. -/
theorem over_stops (n : Nat) (hn : 1 ≤ n) (Fw : Nat → Prop) (Bx Be p : Nat) (S : List Ent) (c d : Int) (hV : VE (c, d)) (hS : GoodS S) (w : World)
    (HK : Hid (∀ W', Only Fw w W' → IsIdx W' p S ∧ W'.cell? ⟨Bx, 0, none⟩ = some (.pointer (some ⟨p, 0, none⟩)) ∧ W'.cell? ⟨Be, 0, none⟩ = some (.int .i64 c) ∧ W'.cell? ⟨Be, 1, none⟩ = some (.int .i64 d))) :
    SeqStopsK Fence.wide n Try.prog 48 #[.pointer (some ⟨Bx, 0, none⟩), .pointer (some ⟨Be, 0, none⟩)] (fun x : Part => #[Value.int .i64 x.1, .agg #[.int .i64 x.2.1, .int .i64 x.2.2]]) (Only Fw) (fun ys => ys = parts (c, d) S) (fun pre => pre <+: parts (c, d) S) S.length w := fun l J Jx W hW hJ _ hY h0 => by
  have hw : Grew w W := ⟨hW.os, hW.tape, hW.output, hW.size, fun k hk _ => hW.block k hk⟩
  refine (over1_in n hn Fw l Bx Be p S c d hV hS J Jx hY W (fun pre W1 W2 h g => hJ pre W1 W2 none h (grew_grownBy g) (fun r e => by cases e)) (hid (fun W' h => HK.out W' ((hw.mono (fun _ _ h => h.elim)).trans h (fun _ _ h => h)))) h0).mono ?_
  rintro e W' ⟨he, h | ⟨pre, hp, h⟩⟩
  · exact ⟨he, .inl ⟨_, rfl, h⟩⟩
  · exact ⟨he, .inr ⟨_, hp, h⟩⟩
theorem over_nil_stops (n : Nat) (hn : 1 ≤ n) (Fw : Nat → Prop) (N : Nat) (Bx Be : Nat) (c : Int) (w : World)
    (hx : w.cell? ⟨Bx, 0, none⟩ = some (.pointer none)) (he0 : w.cell? ⟨Be, 0, none⟩ = some (.int .i64 c)) :
    SeqStopsK Fence.wide n Try.prog 48 #[.pointer (some ⟨Bx, 0, none⟩), .pointer (some ⟨Be, 0, none⟩)] (fun x : Part => #[Value.int .i64 x.1, .agg #[.int .i64 x.2.1, .int .i64 x.2.2]]) (Only Fw) (fun ys => ys = []) (fun pre => pre <+: []) N w := fun l J Jx W hW hJ _ hY h0 => by
  have hw : Grew w W := ⟨hW.os, hW.tape, hW.output, hW.size, fun k hk _ => hW.block k hk⟩
  refine (over1_nil n hn l Bx Be c J W (fun pre W1 W2 h g => hJ pre W1 W2 none h (grew_grownBy g) (fun r e => by cases e)) (hw.cell hx (fun h => h)) (hw.cell he0 (fun h => h)) h0).mono ?_
  rintro e W' ⟨he, h⟩
  exact ⟨he, .inl ⟨_, rfl, h⟩⟩
end Go.Proofs.Ytgpfhdjedebdfaa
