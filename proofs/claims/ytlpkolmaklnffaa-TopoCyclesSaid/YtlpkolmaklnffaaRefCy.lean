/- The walk of the reference's Cycle. -/
import Derived.Test.YtlpkolmaklnffaaRefC
namespace Go.Proofs.Ytlpkolmaklnffaa
open Go.RowKit Go.MapKept

set_option maxRecDepth 100000 in
set_option maxHeartbeats 1000000 in
theorem rcycle_at (b N : Nat) (E : List (Int × Int)) (F : Nat → Prop) (A : Option Addr) (c : Nat) (s : List Int) (v : Int) (w : World) (hG : IsRef w F b N E) (hs : SlI w A s) (hsl : s.length ≤ 9223372036854775807) (hfew : E.length ≤ 1048576) (hN : N ≤ 1048576) (hE : Valid N E) (hv : okI v) :
    Calls Try.prog 43 #[.pointer (some ⟨b, 0, none⟩), .int .i64 v, .slice A s.length c] w fun e w' => ∃ A' c' r, e = .returned (.slice A' r.length c') ∧ IsCycle (cut E s) v r ∧ SlI w' A' r ∧ r.length ≤ 1048577 ∧ Grew w w' := by
  have HE := hid (And.intro (hE.cut s) hE)
  have k0 : w.cell? ⟨b, 0, none⟩ = some (.int .i64 N) := by
    obtain ⟨A', c', g⟩ := hG
    exact cell_of_row _ _ 0 _ _ _ g.blk
  have HP := hid (And.intro hG hs)
  obtain ⟨i0, hi0, hz0, hz1, hz2⟩ := info_parts info_int
  have HI := hid (And.intro hi0 (And.intro hz0 (And.intro hz1 hz2)))
  clear hi0 hz0 hz1 hz2 hG hs hE
  by_cases hv0 : v < 0
  · have hout : Hid (IsCycle (cut E s) v []) := hid (cycle_out HE.out.1 (by omega))
    go_enter Try.func43, Try.ntmps43
    go_wp2
    go_ret
    exact ⟨none, 0, [], rfl, hout.out, SlI.nil, by simp, Only.refl _ _⟩
  by_cases hvN : (N : Int) ≤ v
  · have hout : Hid (IsCycle (cut E s) v []) := hid (cycle_out HE.out.1 (by omega))
    go_enter Try.func43, Try.ntmps43
    go_wp2
    go_ret
    exact ⟨none, 0, [], rfl, hout.out, SlI.nil, by simp, Only.refl _ _⟩
  obtain ⟨V, rfl⟩ := Int.eq_ofNat_of_zero_le (show 0 ≤ v by omega)
  have hV : V < N := by omega
  have hVb : (V : Int) < (N : Int) := by omega
  clear hv0 hvN hv
  go_enter Try.func43, Try.ntmps43
  go_wp2_with fail
  go_at_call 36
  refine (rwithout_at b N E F A c s w HP.out.1 HP.out.2 hsl hfew).mono ?_
  rintro e w2 ⟨bh, rfl, hR2, hg2⟩
  have hs2 := hg2.size
  have H2 := hid (And.intro hR2 hg2)
  clear hR2 hg2 k0
  have hcl := cut_length E s
  generalize hE2 : cut E s = E2 at HE H2 hcl
  have HE2 := hid hE2
  clear hE2
  obtain ⟨L, hL⟩ : ∃ L, (verts N).filter (fun x => decide (((V : Int), x) ∈ E2)) = L := ⟨_, rfl⟩
  have hLN : L.length ≤ N := by rw [← hL]; exact Nat.le_trans (List.length_filter_le _ _) (by simp [verts])
  have HL : Hid (∀ x, x ∈ L ↔ ((V : Int), x) ∈ E2) := hid (fun x => by rw [← hL]; exact mem_outs HE.out.1)
  go_wp2_with fail
  go_at_call 76
  refine (rsteps_at bh N V E2 _ w2 H2.out.1 hN HE.out.1 hV).mono ?_
  rintro e w3 ⟨d, sb, rfl, hd3, hI3, hsb, hg3⟩
  have hs3 := hg3.size
  have hdl := hd3.1
  have hsbl := hI3.lt
  have H3 := hid (And.intro hd3 (And.intro hI3 hg3))
  clear hd3 hI3 hg3
  go_wp2_with fail
  go_at_call 70
  refine (rout_is bh N V E2 _ w3 (H2.out.1.grew H3.out.2.2) hN L hL.symm).mono ?_
  rintro e w4 ⟨A4, c4, rfl, hi4, hg4⟩
  have hs4 := hg4.size
  have H4 := hid (And.intro hi4 (And.intro (H3.out.2.1.only hg4 (fun h => h)) (And.intro ((H2.out.1.grew H3.out.2.2).grew hg4) (Grew.trans H2.out.2 (Grew.trans H3.out.2.2 hg4)))))
  clear hi4 hg4 hL
  go_wp2_with fail
  go_loopw [9, 11] (fun n i wr => ∃ (k : Nat) (m : Int), k ≤ L.length ∧ i = .int .i64 k ∧ n = .int .i64 m ∧ m ≤ N ∧ NearUpto d (L.take k) m ∧ wr = w4) (fun _ i _ => L.length - (intOf i).toNat)
  case atStart => exact ⟨0, -1, Nat.zero_le _, rfl, rfl, by omega, .inl ⟨rfl, fun x hx => by simp at hx⟩, rfl⟩
  case round =>
    obtain ⟨k, m, hk, rfl, rfl, hmN, hM, rfl⟩ := hrel
    have hm1 := hM.range
    have HM := hid hM
    clear hM
    by_cases hlt : k < L.length
    · obtain ⟨bl, off, rfl, hcell⟩ := H4.out.1 (by omega)
      have h1 := hcell k hlt
      obtain ⟨x, hx⟩ : ∃ x, L[k]? = some x := ⟨_, List.getElem?_eq_getElem hlt⟩
      simp only [hx, Option.getD_some] at h1
      have hm := List.mem_of_getElem? hx
      have hr := (HE.out.1 _ ((HL.out x).1 hm)).2.1
      obtain ⟨X, rfl⟩ := Int.eq_ofNat_of_zero_le hr.1
      have hX : X < N := by omega
      have hbX : (X : Int) < (N : Int) := by omega
      have hc := H4.out.2.1.cell (i := X) (by omega)
      have hb0 : (k : Int) < (L.length : Int) := by omega
      have HT : Hid (L.take (k + 1) = L.take k ++ [(X : Int)]) := hid (by rw [List.take_add_one, hx]; rfl)
      have hdr : -1 ≤ dget d X ∧ dget d X ≤ N := by
        rcases H3.out.1.2 X (by omega) (by omega) with ⟨a, _⟩ | ⟨q, a, b, c⟩
        · omega
        · obtain ⟨l, g1, g2, g3, _⟩ := Steps.many HE.out.1 ⟨by omega, by omega⟩ q _ b c
          have := length_le_of_range g1 g3
          omega
      clear hcell hx hm hr
      generalize hdx : dget d X = dx at hc hdr
      have HDX := hid hdx
      clear hdx
      by_cases hneg : dx < 0
      · have hg : ¬ (0 ≤ dx) := by omega
        go_wp2
        go_roundw
        case rel => exact ⟨k + 1, m, by omega, by go_num, rfl, hmN, by rw [HT.out]; exact HM.out.keep (.inl (by rw [HDX.out]; exact hneg)), trivial⟩
        case measure => simp [intOf]; omega
      · have hg : 0 ≤ dx := by omega
        by_cases hmn : m < 0
        · go_wp2
          go_roundw
          case rel => exact ⟨k + 1, dx, by omega, by go_num, rfl, by omega, by rw [HT.out, ← HDX.out]; exact HM.out.put (by rw [HDX.out]; exact hneg) (.inl hmn), trivial⟩
          case measure => simp [intOf]; omega
        · by_cases hlt2 : dx < m
          · go_wp2
            go_roundw
            case rel => exact ⟨k + 1, dx, by omega, by go_num, rfl, by omega, by rw [HT.out, ← HDX.out]; exact HM.out.put (by rw [HDX.out]; exact hneg) (.inr (by rw [HDX.out]; exact hlt2)), trivial⟩
            case measure => simp [intOf]; omega
          · go_wp2
            go_roundw
            case rel => exact ⟨k + 1, m, by omega, by go_num, rfl, hmN, by rw [HT.out]; exact HM.out.keep (.inr ⟨hmn, by rw [HDX.out]; exact hlt2⟩), trivial⟩
            case measure => simp [intOf]; omega
    · obtain rfl : k = L.length := by omega
      have hNU := HM.out
      rw [List.take_length] at hNU
      rcases hNU with ⟨rfl, hno⟩ | ⟨n, rfl, hex, hle⟩
      · have HC : Hid (IsCycle E2 V []) := hid (cycle_none HE.out.1 H3.out.1 (fun x hx => hno x ((HL.out x).2 hx)))
        clear hno HM
        go_wp2
        go_ret
        exact ⟨none, 0, [], rfl, by rw [HE2.out]; exact HC.out, SlI.nil, by simp, H4.out.2.2.2⟩
      · have HN : Hid (IsNear E2 V d n) := hid ⟨by
          obtain ⟨x, h1, h2⟩ := hex
          exact ⟨x, (HL.out x).1 h1, h2⟩, fun x hx h0 => hle x ((HL.out x).2 hx) h0⟩
        have hn0 : ¬ ((n : Int) < 0) := by omega
        clear hex hle HM
        obtain ⟨wo, rfl⟩ : ∃ wo : World, wo = wr := ⟨_, rfl⟩
        go_wp2_with fail
        have hown0 := own_solo (wo.alloc (.cells #[.int .i64 (V : Int)] 3)) wo.heap.size (.int .i64 V) 3 (heap_alloc_new wo _)
        have H5 := hid hown0
        clear hown0
        go_loopw [9, 12] (fun nv ov wr => ∃ (q : Nat) (out : List Int), Greedy E2 V d n out ∧ q + out.length = n + 1 ∧ nv = .int .i64 q ∧ wr.ownsRow wo.heap.size 3 1 ov out.length (out.map (Value.int .i64)) ∧ Only (fun i => wo.heap.size ≤ i) wo wr) (fun nv _ _ => (intOf nv).toNat)
        case atStart => exact ⟨n, [(V : Int)], Greedy.start _ _ _ _, by simp, rfl, H5.out, Only.alloc _ _⟩
        clear H5
        case round =>
          obtain ⟨q, out, hgr, hq, rfl, hown, hO⟩ := hrel
          have hos := hO.size
          have hp := hgr.pos
          obtain ⟨z, hz⟩ : ∃ z, out.length = z + 1 := ⟨out.length - 1, by omega⟩
          have HZ := hid hz
          obtain ⟨Ap, cp, rfl, hip⟩ := own_form hown
          obtain ⟨bp, offp, rfl, hcp⟩ := hip (by omega)
          have hlast := hcp z (by omega)
          have elast : out[z]?.getD 0 = lastv out := by unfold lastv pg; rw [hz]; rfl
          rw [elast] at hlast
          have HO := hid (And.intro hO (And.intro hown hgr))
          clear hO hcp elast
          by_cases hq0 : q = 0
          · subst hq0
            clear hlast hown
            go_wp2
            go_ret
            exact ⟨_, _, out, rfl, by rw [HE2.out]; exact HO.out.2.2.cycle HE.out.1 H3.out.1 HN.out (by omega), hip, by omega, Grew.trans H4.out.2.2.2 (Fresh.grew HO.out.1)⟩
          · have hqp : (0 : Int) < (q : Int) := by omega
            have hqp' : 0 < q := by omega
            have hnx := hgr.next HE.out.1 H3.out.1 HN.out (by omega)
            rw [hz] at hown ⊢
            have hzb : (z : Int) < (z : Int) + 1 := by omega
            have hz1 : (1 : Int) ≤ (z : Int) + 1 := by omega
            have CX : Hid (Calls Try.prog 77 #[.pointer (some ⟨bh, 0, none⟩), .int .i64 (lastv out), .slice (some ⟨sb, 0, none⟩) N N, .int .i64 q] wr fun e w' => ∃ x, e = .returned (.int .i64 x) ∧ (lastv out, x) ∈ E2 ∧ dget d x = q ∧ (∀ y, (lastv out, y) ∈ E2 → dget d y = q → x ≤ y) ∧ Grew wr w') := hid (
              least_at bh N (lastv out) E2 _ sb d q wr (H4.out.2.2.1.only HO.out.1 (fun i hi h => by omega)) hN HE.out.1 (H4.out.2.1.only HO.out.1 (by omega)) hdl (by
                obtain ⟨x, h1, h2⟩ := hnx
                exact ⟨x, h1, by omega⟩))
            clear hgr hip hnx
            go_wp2_with (first
              | (go_at_call 77; have c1 := CX.out; with_reducible refine c1.mono ?_; clear c1; rintro e w6 ⟨x, rfl, hx1, hx2, hx3, hg6⟩; have h6s := hg6.size; have H6 := hid (And.intro hx1 (And.intro hx2 (And.intro hx3 hg6))); clear hx1 hx2 hx3 hg6)
              | (at_builtin; go_loud (refine wpList_append_own _ rfl (.tmp 74) (.tmp 85) 29 rfl wo.heap.size 3 i0 _ 1 8 Try.underlying29 HI.out.1 HI.out.2.1 HI.out.2.2.1 HI.out.2.2.2 rfl (by omega) _ (z + 1) (out.map (Value.int .i64)) rfl (own_only hown (Grew.trans H6.out.2.2.2 (Only.alloc (F := fun _ => False) _ _)) (fun _ _ h => h)) _ 1 1 [.int .i64 x] rfl rfl (new_one _ _ _) (by simp [Value.oneCell']) (by unfold maxLen; omega) (by omega) (by simp; omega) ?_; intro v8 w8 hown8 hgrow8 _)))
            have k8 : Only (fun i => wo.heap.size ≤ i) (w6.alloc (.cells #[.int .i64 x] 3)) w8 := Only.of_grownBy hgrow8 (fun i e => .inl (hown.lt i e).1)
            have hO8 : Only (fun i => wo.heap.size ≤ i) wo w8 := ((HO.out.1.trans H6.out.2.2.2 (fun _ _ h => h.elim)).trans (Only.alloc (F := fun i => wo.heap.size ≤ i) _ _) (fun _ _ h => h)).trans k8 (fun _ _ h => h)
            have H8 := hid (And.intro hown8 hO8)
            clear hown8 hgrow8 k8 hO8
            go_wp2
            go_roundw
            case rel =>
              refine ⟨q - 1, out ++ [x], HO.out.2.2.snoc (by omega) H6.out.1 (by rw [H6.out.2.1]; omega) (fun y h1 h2 => H6.out.2.2.1 y h1 (by omega)), by simp; omega, by go_num, ?_, H8.out.2⟩
              have h := H8.out.1
              simpa [hz] using h
            case measure => simp [intOf]; omega
theorem rcycle_is (b N : Nat) (E : List (Int × Int)) (F : Nat → Prop) (A : Option Addr) (c : Nat) (s : List Int) (v : Int) (w : World) (hG : IsRef w F b N E) (hs : SlI w A s) (hsl : s.length ≤ 9223372036854775807) (hfew : E.length ≤ 1048576) (hN : N ≤ 1048576) (hE : Valid N E) (hv : okI v) (r : List Int) (hr : IsCycle (cut E s) v r) :
    Calls Try.prog 43 #[.pointer (some ⟨b, 0, none⟩), .int .i64 v, .slice A s.length c] w fun e w' => ∃ A' c', e = .returned (.slice A' r.length c') ∧ SlI w' A' r ∧ r.length ≤ 1048577 ∧ Grew w w' := by
  refine (rcycle_at b N E F A c s v w hG hs hsl hfew hN hE hv).mono ?_
  rintro e w' ⟨A', c', r', rfl, h1, h2, h3, h4⟩
  obtain rfl := h1.unique hr
  exact ⟨A', c', rfl, h2, h3, h4⟩
end Go.Proofs.Ytlpkolmaklnffaa
