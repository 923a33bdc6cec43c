/- The walk of the law package's same. -/
import Derived.Test.YtlpkolmaklnffaaRefO
import Derived.Test.YtlpkolmaklnffaaReaches
namespace Go.Proofs.Ytlpkolmaklnffaa
open Go.RowKit Go.MapKept

theorem succ_nodup {E : List (Int × Int)} (hnd : E.Nodup) (u : Int) : (succ E u).Nodup := by
  unfold succ List.Nodup
  rw [List.pairwise_map]
  refine (List.Pairwise.filter _ hnd).imp_of_mem (fun {a c} ha hc h e => h ?_)
  have h1 := (List.mem_filter.1 ha).2
  have h2 := (List.mem_filter.1 hc).2
  simp only [decide_eq_true_eq] at h1 h2
  exact Prod.ext (h1.trans h2.symm) e
theorem pred_nodup {E : List (Int × Int)} (hnd : E.Nodup) (u : Int) : (pred E u).Nodup := by
  unfold pred List.Nodup
  rw [List.pairwise_map]
  refine (List.Pairwise.filter _ hnd).imp_of_mem (fun {a c} ha hc h e => h ?_)
  have h1 := (List.mem_filter.1 ha).2
  have h2 := (List.mem_filter.1 hc).2
  simp only [decide_eq_true_eq] at h1 h2
  exact Prod.ext e (h1.trans h2.symm)
theorem sortL_strict {xs : List Int} (h : xs.Nodup) : (sortL xs).Pairwise (· < ·) :=
  (List.pairwise_and_iff.2 ⟨sortL_sorted xs, (sortL_perm xs).nodup_iff.2 h⟩).imp (fun h => by omega)
theorem outL_eq {E E2 : List (Int × Int)} {N : Nat} (hE : Valid N E) (hnd : E.Nodup) (hm : ∀ e, e ∈ E ↔ e ∈ E2) (v : Int) : outL E v = (verts N).filter (fun x => decide ((v, x) ∈ E2)) := by
  refine eq_of_lt_mem (sortL_strict (succ_nodup hnd v)) ((verts_sorted N).filter _) (fun x => ?_)
  rw [mem_outL, List.mem_filter, mem_verts, decide_eq_true_eq, ← hm]
  exact ⟨fun h => ⟨(hE _ h).2.1, h⟩, fun h => h.2⟩
theorem inL_eq {E E2 : List (Int × Int)} {N : Nat} (hE : Valid N E) (hnd : E.Nodup) (hm : ∀ e, e ∈ E ↔ e ∈ E2) (v : Int) : inL E v = (verts N).filter (fun x => decide ((x, v) ∈ E2)) := by
  refine eq_of_lt_mem (sortL_strict (pred_nodup hnd v)) ((verts_sorted N).filter _) (fun x => ?_)
  rw [mem_inL, List.mem_filter, mem_verts, decide_eq_true_eq, ← hm]
  exact ⟨fun h => ⟨(hE _ h).1, h⟩, fun h => h.2⟩
theorem rout_is (b N : Nat) (v : Int) (E : List (Int × Int)) (F : Nat → Prop) (w : World) (hG : IsRef w F b N E) (hN : N ≤ 1048576) (xs : List Int) (hx : xs = (verts N).filter (fun x => decide ((v, x) ∈ E))) :
    Calls Try.prog 70 #[.pointer (some ⟨b, 0, none⟩), .int .i64 v] w fun e w' => ∃ A c, e = .returned (.slice A xs.length c) ∧ SlI w' A xs ∧ Grew w w' := by
  subst hx
  refine (rout_at b N v E F w hG hN).mono ?_
  rintro e w' ⟨r, rfl, hn, hg⟩
  obtain ⟨A, c, rfl, hi, _⟩ := hn.form
  exact ⟨A, c, rfl, hi, hg⟩
theorem rin_is (b N : Nat) (v : Int) (E : List (Int × Int)) (F : Nat → Prop) (w : World) (hG : IsRef w F b N E) (hN : N ≤ 1048576) (xs : List Int) (hx : xs = (verts N).filter (fun x => decide ((x, v) ∈ E))) :
    Calls Try.prog 71 #[.pointer (some ⟨b, 0, none⟩), .int .i64 v] w fun e w' => ∃ A c, e = .returned (.slice A xs.length c) ∧ SlI w' A xs ∧ Grew w w' := by
  subst hx
  refine (rin_at b N v E F w hG hN).mono ?_
  rintro e w' ⟨r, rfl, hn, hg⟩
  obtain ⟨A, c, rfl, hi, _⟩ := hn.form
  exact ⟨A, c, rfl, hi, hg⟩
theorem size_is (b : Nat) (n : Int) (E : List (Int × Int)) (F : Nat → Prop) (w : World) (hG : IsGraph w F b n E) (m : Nat) (hm : E.length = m) : Calls Try.prog 38 #[.pointer (some ⟨b, 0, none⟩)] w fun e w' => e = .returned (.int .i64 m) ∧ w = w' := hm ▸ size_at b n E F w hG
set_option maxRecDepth 100000 in
set_option maxHeartbeats 2000000 in
/-- The graph and the reference's graph: the same vertices, the same edges. -/
theorem same_at (b b2 N : Nat) (E E2 : List (Int × Int)) (F F2 : Nat → Prop) (w : World) (hG : IsGraph w F b N E) (hR : IsRef w F2 b2 N E2) (hm : ∀ e, e ∈ E ↔ e ∈ E2) (hlen : E.length = E2.length) (hN : N ≤ 1048576) (hfew : E.length ≤ 1048576) :
    Calls Try.prog 32 #[.pointer (some ⟨b, 0, none⟩), .pointer (some ⟨b2, 0, none⟩)] w fun e w' => e = .returned (.bool true) ∧ Grew w w' := by
  have hc := hG.n_cell
  have hcq : ∀ q, (w.drewN q).cell? ⟨b, 0, none⟩ = some (.int .i64 N) := fun q => hc
  have hk0 : w.cell? ⟨b2, 0, none⟩ = some (.int .i64 N) := by
    obtain ⟨A', c', g⟩ := hR
    exact cell_of_row _ _ 0 _ _ _ g.blk
  obtain ⟨A2, c2, hk1⟩ : ∃ A2 c2, w.cell? ⟨b2, 1, none⟩ = some (.slice A2 E2.length c2) := by
    obtain ⟨A', c', g⟩ := hR
    exact ⟨A', c', cell_of_row _ _ 1 _ _ _ g.blk⟩
  have HG := hid hG
  have HR := hid hR
  have HM := hid hm
  have HLN := hid hlen
  clear hG hR hm hlen hc
  go_enter Try.func32, Try.ntmps32
  go_wp2_with fail
  go_quiet (first
    | (go_at_call 37; exact quiet_left (len_at b N _ (hcq _)))
    | (go_at_call 38; exact quiet_left (size_is b N E _ _ (HG.out.grew (Only.drewN _ _)) _ HLN.out)))
  go_wp2_with fail
  go_loopw [31] (fun i wr => ∃ k : Nat, k ≤ N ∧ i = .int .i64 k ∧ Grew w wr) (fun i _ => N - (intOf i).toNat)
  case atStart => exact ⟨0, by omega, rfl, Only.drewN _ _⟩
  case round =>
    obtain ⟨k, hk, rfl, hO⟩ := hrel
    have HO := hid hO
    clear hO
    by_cases hlt : k < N
    · have hb0 : (k : Int) < (N : Int) := by omega
      have hl1 := outL_length E k
      have hl2 := inL_length E k
      have hok : okI (k : Int) := ⟨by omega, by omega⟩
      have HOK := hid hok
      clear hok
      go_wp2_with (go_at_call 26; refine (out_is b N k E _ wr (HG.out.grew HO.out) HOK.out (by omega)).mono ?_; rintro e w2 ⟨A3, c3, rfl, hi3, hg3⟩)
      have H3 := hid (And.intro hi3 hg3)
      clear hi3 hg3
      go_wp2_with (go_at_call 70; refine (rout_is b2 N k E2 _ w2 ((HR.out.grew HO.out).grew H3.out.2) hN _ (outL_eq HG.out.2.2 HG.out.2.1 HM.out k)).mono ?_; rintro e w3 ⟨A4, c4, rfl, hi4, hg4⟩)
      have H4 := hid (And.intro hi4 hg4)
      clear hi4 hg4
      go_wp2_with (go_at_call 23; refine (equal_same A3 A4 c3 c4 (outL E k) w3 (H3.out.1.grew H4.out.2) H4.out.1 (by omega)).mono ?_; rintro e w4 ⟨rfl, hg5⟩)
      have H5 : Hid (Grew w w4) := hid (Grew.trans HO.out (Grew.trans H3.out.2 (Grew.trans H4.out.2 hg5)))
      clear hg5
      go_wp2_with (go_at_call 34; refine (in_is b N k E _ w4 (HG.out.grew H5.out) HOK.out (by omega)).mono ?_; rintro e w5 ⟨A6, c6, rfl, hi6, hg6⟩)
      have H6 := hid (And.intro hi6 hg6)
      clear hi6 hg6
      go_wp2_with (go_at_call 71; refine (rin_is b2 N k E2 _ w5 ((HR.out.grew H5.out).grew H6.out.2) hN _ (inL_eq HG.out.2.2 HG.out.2.1 HM.out k)).mono ?_; rintro e w6 ⟨A7, c7, rfl, hi7, hg7⟩)
      have H7 := hid (And.intro hi7 hg7)
      clear hi7 hg7
      go_wp2_with (go_at_call 23; refine (equal_same A6 A7 c6 c7 (inL E k) w6 (H6.out.1.grew H7.out.2) H7.out.1 (by omega)).mono ?_; rintro e w7 ⟨rfl, hg8⟩)
      have H8 := hid hg8
      clear hg8
      go_roundw
      case rel => exact ⟨k + 1, by omega, by go_num, Grew.trans H5.out (Grew.trans H6.out.2 (Grew.trans H7.out.2 H8.out))⟩
      case measure => simp [intOf]; omega
    · obtain rfl : k = N := by omega
      go_wp2
      go_ret
      exact ⟨rfl, HO.out⟩
end Go.Proofs.Ytlpkolmaklnffaa
