/- The walk of (*digraph.Graph).Without. -/
import Derived.Test.YtlpkolmaklnffaaRefW
import Derived.Test.YtlpkolmaklnffaaRange
namespace Go.Proofs.Ytlpkolmaklnffaa
open Go.RowKit Go.MapKept

theorem cut_perm {E E' : List (Int × Int)} (h : E.Perm E') (l : List Int) : (cut E l).Perm (cut E' l) := h.filter _
theorem cut_one (E : List (Int × Int)) (l : List Int) (u x : Int) : cut (E ++ [(u, x)]) l = cut E l ++ (if u ∉ l ∧ x ∉ l then [(u, x)] else []) := by
  unfold cut
  rw [List.filter_append]
  congr 1
  simp only [List.filter_cons, List.filter_nil, decide_eq_true_eq]
theorem without_nil (A : Option Addr) (c m : Nat) (w : World) : Calls Try.prog 35 #[.pointer none, .slice A m c] w fun e w' => e = .returned (.pointer none) ∧ w = w' := by
  go_enter Try.func35, Try.ntmps35
  go_wp2
  go_ret
  exact ⟨rfl, rfl⟩
theorem sl_one' {X : World} {B1 : Nat} {u x : Int} {t : TypeId} (h : X.heap[B1]? = some (.cells #[.int .i64 u, .int .i64 x] t (0, 0))) : SlE X (some ⟨B1, 0, none⟩) [(u, x)] := fun _ => by
  refine ⟨B1, 0, rfl, fun j hj => ?_⟩
  obtain rfl : j = 0 := by simpa using hj
  exact ⟨cell_of_row _ _ 0 _ _ _ h, cell_of_row _ _ 1 _ _ _ h⟩
set_option maxRecDepth 100000 in
set_option maxHeartbeats 1000000 in
theorem without_at (b N : Nat) (E : List (Int × Int)) (F : Nat → Prop) (A : Option Addr) (c : Nat) (l : List Int) (w : World) (hG : IsGraph w F b N E) (hl : SlI w A l) (hlen : l.length ≤ 9223372036854775807) (hfew : E.length ≤ 1048576) :
    Calls Try.prog 35 #[.pointer (some ⟨b, 0, none⟩), .slice A l.length c] w fun e w' => ∃ b' E2, e = .returned (.pointer (some ⟨b', 0, none⟩)) ∧ IsGraph w' (fun i => w.heap.size ≤ i ∧ i < w'.heap.size) b' N E2 ∧ E2.Perm (cut E l) ∧ Grew w w' := by
  obtain ⟨⟨me, mo, mi, KO, KI, g⟩, hnd, hE⟩ := hG
  have hN0 := g.n0
  have hN1 := g.n1
  have k0 := cell_of_row _ _ 0 _ _ _ g.blk
  simp at k0
  have hme := g.edges.lt
  have HG := hid (And.intro g (And.intro hnd (And.intro hE hl)))
  have hbl := (Array.getElem?_eq_some_iff.1 g.blk).1
  clear g hnd hE hl
  go_enter Try.func35, Try.ntmps35
  go_wp2_with fail
  go_at_call 27
  refine (new_ok N w hN0 hN1).mono ?_
  rintro e w1 ⟨b', rfl, hG1, hg1⟩
  have k1 : w1.cell? ⟨b, 1, none⟩ = some (.map (some me)) := by
    have := hg1.heap HG.out.1.blk (fun h => h)
    simpa using cell_of_row _ _ 1 _ _ _ this
  have hM1 := HG.out.1.edges.only hg1 (fun h => h)
  have hs1 := hg1.size
  have H1 := hid (And.intro hG1 hg1)
  clear hG1 hg1
  go_wp2_with (at_range; refine wpList_over rfl _ 82 _ rfl Try.underlying82 hM1 rfl ?_; intro w2 hov hg2 hs2)
  go_frame
  have H2 := hid (And.intro hov hg2)
  clear hov hg2 hM1
  go_loopw [19] (fun _ wr => ∃ (vis left E2 : List (Int × Int)) (F2 : Nat → Prop), (vis ++ left).Perm E ∧ E2.Perm (cut vis l) ∧ Over wr me w1.heap.size encE okE (E.map (fun e => (e, .bool true))) left ∧ IsGraph wr F2 b' N E2 ∧
      (∀ i, F2 i → w.heap.size ≤ i ∧ i ≠ w1.heap.size ∧ i < wr.heap.size) ∧ w1.heap.size < wr.heap.size ∧ Only (fun i => w.heap.size ≤ i) w wr) (fun _ wr => wr.rangeLeft me w1.heap.size)
  case atStart =>
    refine ⟨[], E, [], _, by simp, by simp [cut], ?_, H1.out.1.grew H2.out.2, ?_, by omega, Grew.to (Grew.trans H1.out.2 H2.out.2)⟩
    · have h := H2.out.1
      rw [List.map_map] at h
      simpa [Function.comp_def] using h
    · intro i hi; exact ⟨hi.1, by omega, by omega⟩
  case round =>
    obtain ⟨vis, left, E2, F2, hp, hc, hov, hGr, hF, hw1, hO⟩ := hrel
    have hOs := hO.size
    have HH := hid (And.intro hp (And.intro hc (And.intro hov (And.intro hGr (And.intro hF hO)))))
    clear hp hc hGr hF hO
    go_wp2_with (at_next; refine wpList_over_next rfl _ rfl keysE rfl hov ?_ ?_)
    · intro h0
      go_wp2
      go_ret
      obtain ⟨q1, q2, q3, q4, q5, q6⟩ := HH.out
      subst h0
      rw [List.append_nil] at q1
      exact ⟨_, _, rfl, q4.mono (fun i hi hf => ⟨(q5 i hf).1, hi⟩), q2.trans (cut_perm q1 l), Fresh.grew q6⟩
    · intro u x v w3 hxl hv hov3 hk3 hs3 hen
      dsimp only [encE] at hen ⊢
      obtain ⟨q1, q2, q3, q4, q5, q6⟩ := HH.out
      have hxE : (u, x) ∈ E := q1.subset (List.mem_append_right _ hxl)
      have hndv : (vis ++ left).Nodup := q1.nodup_iff.2 HG.out.2.1
      have hxv : (u, x) ∉ vis := fun h => (List.nodup_append.1 hndv).2.2 _ h _ hxl rfl
      have hx2 : (u, x) ∉ E2 := fun h => hxv (mem_cut.1 (q2.subset h)).1
      have hb := HG.out.2.2.1 _ hxE
      have hok : okE (u, x) := ⟨⟨by have := hb.1.1; simp at this; omega, by have := hb.1.2; simp at this; omega⟩, ⟨by have := hb.2.1.1; simp at this; omega, by have := hb.2.1.2; simp at this; omega⟩⟩
      have hcan : canAdd N E2 (u, x) = true := by
        have h1 : inRange N u = true := by simpa [inRange] using hb.1
        have h2 : inRange N x = true := by simpa [inRange] using hb.2.1
        unfold canAdd
        simp only [h1, h2, hx2]
        simpa using hb.2.2
      have hadd : addAll N E2 [(u, x)] = E2 ++ [(u, x)] := by
        show addOne N E2 (u, x) = _
        unfold addOne
        rw [hcan]
        rfl
      have hle2 : E2.length ≤ 1048576 := by
        have h1 := q2.length_eq
        have h2 := cut_length vis l
        have h3 := q1.length_eq
        simp at h3
        omega
      have hlp := left_perm hov.2.1 hxl
      have hp' : ((vis ++ [(u, x)]) ++ left.filter (fun y => !decide (y = (u, x)))).Perm E := by
        rw [List.append_assoc]
        exact ((hlp.append_left vis).symm.trans (List.Perm.refl _)).trans q1
      have hG3 := q4.only hk3 (fun i hf e => (q5 i hf).2.1 e)
      have hO3 := q6.trans (hk3.mono (G := fun i => w.heap.size ≤ i) (fun i _ e => by omega)) (fun _ _ h => h)
      have HX := hid (And.intro hp' (And.intro hov3 (And.intro hG3 (And.intro hO3 (And.intro hok (And.intro hadd q2))))))
      have HM := hid (And.intro hov.left_eq hov3.left_eq)
      have hll : (left.filter (fun y => !decide (y = (u, x)))).length < left.length := by
        have := hlp.length_eq
        simp at this ⊢
        omega
      have hF5 := hid q5
      have HS3 := hid hs3
      clear hs3
      clear q1 q2 q3 q4 q5 q6 hxE hndv hxv hx2 hb hok hcan hadd hlp hp' hG3 hO3 hxl hv hov3 hk3 hov
      obtain ⟨r1, hr1⟩ : ∃ r : Bool, decide (u ∈ l) = r := ⟨_, rfl⟩
      obtain ⟨r2, hr2⟩ : ∃ r : Bool, decide (x ∈ l) = r := ⟨_, rfl⟩
      have HR := hid (And.intro hr1 hr2)
      clear hr1 hr2
      have HSL := hid (HG.out.2.2.2.grew (Fresh.grew HX.out.2.2.2.1))
      have C1 : Hid (∀ W, Grew w3 W → Calls Try.prog 33 #[.slice A l.length c, .int .i64 u] W fun e w' => e = .returned (.bool r1) ∧ W = w') := hid fun W hW => contains_is A c l u W r1 HR.out.1 (HSL.out.grew hW) hlen
      have C2 : Hid (∀ W, Grew w3 W → Calls Try.prog 33 #[.slice A l.length c, .int .i64 x] W fun e w' => e = .returned (.bool r2) ∧ W = w') := hid fun W hW => contains_is A c l x W r2 HR.out.2 (HSL.out.grew hW) hlen
      have HCUT : Hid (cut (vis ++ [(u, x)]) l = cut vis l ++ (if u ∉ l ∧ x ∉ l then [(u, x)] else [])) := hid (cut_one vis l u x)
      by_cases hr : r1 = false ∧ r2 = false
      · obtain ⟨rfl, rfl⟩ := hr
        go_wp2_with (first
          | (go_at_call 33; first | ((with_reducible refine (C1.out _ (Only.alloc _ _)).mono ?_); rintro e w' ⟨rfl, rfl⟩) | ((with_reducible refine (C2.out _ (Only.alloc _ _)).mono ?_); rintro e w' ⟨rfl, rfl⟩))
          | (go_at_call 28
             refine (add_at b' N E2 F2 _ 1 [(u, x)] _ (HX.out.2.2.1.grew (Grew.trans (Only.alloc _ _) (Only.alloc _ _))) (sl_one' (heap_new2' w3 _ _)) (fun e he => (List.mem_singleton.1 he) ▸ HX.out.2.2.2.2.1) (by rw [List.length_singleton]; omega) (fun blk off e hf => by cases e; have h1 := (hF5.out _ hf).2.2; have h2 := HS3.out; omega)).mono ?_
             rintro e w4 ⟨rfl, hG4, hO4⟩))
        have hgX : Grew w3 ((w3.alloc (.cells #[.int .i64 u, .int .i64 x] 41)).alloc (.cells #[.int .i64 u, .int .i64 x] 41)) := Grew.trans (Only.alloc _ _) (Only.alloc _ _)
        have hsX := hgX.size
        have hs4 := hO4.size
        rw [HX.out.2.2.2.2.2.1] at hG4
        have hov4 := (HX.out.2.1.only hgX (fun h => h) (fun h => h)).only hO4 (fun h => by have := (hF5.out _ h).1; omega) (fun h => (hF5.out _ h).2.1 rfl)
        have hO5 := (HX.out.2.2.2.1.trans hgX (fun _ _ h => h.elim)).trans (hO4.mono (G := fun i => w.heap.size ≤ i) (fun i _ hi => (hF5.out i hi).1)) (fun _ _ h => h)
        have hF6 : ∀ i, (F2 i ∨ (((w3.alloc (.cells #[.int .i64 u, .int .i64 x] 41)).alloc (.cells #[.int .i64 u, .int .i64 x] 41)).heap.size ≤ i ∧ i < w4.heap.size)) → w.heap.size ≤ i ∧ i ≠ w1.heap.size ∧ i < w4.heap.size := by
          rintro i (hi | hi)
          · have h1 := hF5.out i hi
            have h2 := HS3.out
            exact ⟨h1.1, h1.2.1, by omega⟩
          · have h2 := HS3.out
            exact ⟨by omega, by omega, hi.2⟩
        have HC2 : Hid ((E2 ++ [(u, x)]).Perm (cut (vis ++ [(u, x)]) l)) := hid (by
          rw [HCUT.out, if_pos ⟨by simpa using HR.out.1, by simpa using HR.out.2⟩]
          exact (HX.out.2.2.2.2.2.2).append_right _)
        have HFIN := hid (And.intro hov4 (And.intro hG4 (And.intro hF6 (And.intro hO5 hov4.left_eq))))
        have hlast : w1.heap.size < w4.heap.size := by have h2 := HS3.out; omega
        clear hov4 hG4 hF6 hO5 hO4 hgX
        go_wp2
        go_roundw
        case rel => exact ⟨vis ++ [(u, x)], _, E2 ++ [(u, x)], _, HX.out.1, HC2.out, HFIN.out.1, HFIN.out.2.1, HFIN.out.2.2.1, hlast, HFIN.out.2.2.2.1⟩
        case measure => rw [HFIN.out.2.2.2.2, HM.out.1]; exact hll
      · have HNR := hid hr
        clear hr
        have HC2 : Hid (E2.Perm (cut (vis ++ [(u, x)]) l)) := hid (by
          rw [HCUT.out, if_neg, List.append_nil]
          · exact HX.out.2.2.2.2.2.2
          · rintro ⟨a1, a2⟩
            exact HNR.out ⟨by rw [← HR.out.1]; simpa using a1, by rw [← HR.out.2]; simpa using a2⟩)
        cases r1
        · cases r2
          · exact absurd ⟨rfl, rfl⟩ HNR.out
          · go_wp2_with (go_at_call 33; first | ((with_reducible refine (C1.out _ (Only.alloc _ _)).mono ?_); rintro e w' ⟨rfl, rfl⟩) | ((with_reducible refine (C2.out _ (Only.alloc _ _)).mono ?_); rintro e w' ⟨rfl, rfl⟩))
            have hgX : Grew w3 (w3.alloc (.cells #[.int .i64 u, .int .i64 x] 41)) := Only.alloc _ _
            have hsX := hgX.size
            have hov4 := HX.out.2.1.only hgX (fun h => h) (fun h => h)
            have HFIN := hid (And.intro hov4 (And.intro (HX.out.2.2.1.grew hgX) (And.intro (HX.out.2.2.2.1.trans hgX (fun _ _ h => h.elim)) hov4.left_eq)))
            have hlast : w1.heap.size < (w3.alloc (.cells #[.int .i64 u, .int .i64 x] 41)).heap.size := by have h2 := HS3.out; omega
            clear hov4 hgX
            go_roundw
            case rel => exact ⟨vis ++ [(u, x)], _, E2, F2, HX.out.1, HC2.out, HFIN.out.1, HFIN.out.2.1, fun i hi => by have h1 := hF5.out i hi; have h2 := HS3.out; exact ⟨h1.1, h1.2.1, by omega⟩, hlast, HFIN.out.2.2.1⟩
            case measure => rw [HFIN.out.2.2.2, HM.out.1]; exact hll
        · go_wp2_with (go_at_call 33; first | ((with_reducible refine (C1.out _ (Only.alloc _ _)).mono ?_); rintro e w' ⟨rfl, rfl⟩) | ((with_reducible refine (C2.out _ (Only.alloc _ _)).mono ?_); rintro e w' ⟨rfl, rfl⟩))
          have hgX : Grew w3 (w3.alloc (.cells #[.int .i64 u, .int .i64 x] 41)) := Only.alloc _ _
          have hsX := hgX.size
          have hov4 := HX.out.2.1.only hgX (fun h => h) (fun h => h)
          have HFIN := hid (And.intro hov4 (And.intro (HX.out.2.2.1.grew hgX) (And.intro (HX.out.2.2.2.1.trans hgX (fun _ _ h => h.elim)) hov4.left_eq)))
          have hlast : w1.heap.size < (w3.alloc (.cells #[.int .i64 u, .int .i64 x] 41)).heap.size := by have h2 := HS3.out; omega
          clear hov4 hgX
          go_roundw
          case rel => exact ⟨vis ++ [(u, x)], _, E2, F2, HX.out.1, HC2.out, HFIN.out.1, HFIN.out.2.1, fun i hi => by have h1 := hF5.out i hi; have h2 := HS3.out; exact ⟨h1.1, h1.2.1, by omega⟩, hlast, HFIN.out.2.2.1⟩
          case measure => rw [HFIN.out.2.2.2, HM.out.1]; exact hll
end Go.Proofs.Ytlpkolmaklnffaa
