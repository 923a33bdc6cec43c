/- The walk of topo.remove. -/
import Derived.Test.YtlpkolmaklnffaaRem
namespace Go.Proofs.Ytlpkolmaklnffaa
open Go.RowKit Go.MapKept

theorem zeroInt (w : World) : (zeroValue 3).run Try.prog w = .ok (.int .i64 0) w := by kernel_rfl
theorem IsGraph.small {w : World} {F : Nat → Prop} {b : Nat} {n : Int} {E : List (Int × Int)} (h : IsGraph w F b n E) : 0 ≤ n ∧ n ≤ 1048576 := by
  obtain ⟨⟨me, mo, mi, KO, KI, g⟩, _⟩ := h
  exact ⟨g.n0, g.n1⟩
theorem kv_look {w : World} {md : Nat} {ks : List Int} {f : Int → Int} (hM : MapIs w md encI okI (kvOf ks f)) {x : Int} (hx : okI x) :
    (Instr.lookup 93 (.map (some md)) (.int .i64 x) false).run Try.prog w = .ok (if x ∈ ks then .int .i64 (f x) else .int .i64 0) w ∧
    (Instr.lookup 93 (.map (some md)) (.int .i64 x) true).run Try.prog w = .ok (.tuple #[if x ∈ ks then .int .i64 (f x) else .int .i64 0, .bool (decide (x ∈ ks))]) w := by
  have h := hM.lookup keysI Try.underlying93 zeroInt hx
  rw [kvOf_get] at h
  by_cases hm : x ∈ ks
  · simp only [hm, if_true, decide_true] at h ⊢
    exact h
  · simp only [hm, if_false, decide_false] at h ⊢
    exact h
theorem in_new (b : Nat) (n v : Int) (E : List (Int × Int)) (F : Nat → Prop) (w : World) (hG : IsGraph w F b n E) (hv : okI v) (hfew : E.length ≤ 1099511627776) :
    Calls Try.prog 34 #[.pointer (some ⟨b, 0, none⟩), .int .i64 v] w fun e w' => ∃ A c, e = .returned (.slice A (inL E v).length c) ∧ SlI w' A (inL E v) ∧ (∀ k off, A = some ⟨k, off, none⟩ → w.heap.size ≤ k) ∧ Grew w w' := by
  refine (in_at b n v E F w hG hv hfew).mono ?_
  rintro e w' ⟨r, rfl, hn, hg⟩
  obtain ⟨A, c, rfl, hi, _, _, hl⟩ := hn.form
  exact ⟨A, c, rfl, hi, fun k off e => (hl k off e).1, hg⟩
theorem out_new2 (b : Nat) (n v : Int) (E : List (Int × Int)) (F : Nat → Prop) (w : World) (hG : IsGraph w F b n E) (hv : okI v) (hfew : E.length ≤ 1099511627776) :
    Calls Try.prog 26 #[.pointer (some ⟨b, 0, none⟩), .int .i64 v] w fun e w' => ∃ A c, e = .returned (.slice A (outL E v).length c) ∧ SlI w' A (outL E v) ∧ (∀ k off, A = some ⟨k, off, none⟩ → w.heap.size ≤ k ∧ k < w'.heap.size) ∧ Grew w w' := by
  refine (out_at b n v E F w hG hv hfew).mono ?_
  rintro e w' ⟨r, rfl, hn, hg⟩
  obtain ⟨A, c, rfl, hi, _, _, hl⟩ := hn.form
  exact ⟨A, c, rfl, hi, hl, hg⟩
set_option maxRecDepth 100000 in
set_option maxHeartbeats 1000000 in
theorem remove_at (b N : Nat) (E : List (Int × Int)) (F : Nat → Prop) (A : Option Addr) (c : Nat) (s : List Int) (w : World) (hG : IsGraph w F b N E) (hs : SlI w A s) (hsl : s.length ≤ 9223372036854775807) (hfew : E.length ≤ 1048576) :
    Calls Try.prog 73 #[.pointer (some ⟨b, 0, none⟩), .slice A s.length c] w fun e w' => ∃ vo md f o, e = .returned (.tuple #[vo, .map (some md)]) ∧ IsOrder E N s o ∧ NewInts w w' vo o ∧ MapIs w' md encI okI (kvOf (restL N s o) f) ∧ Grew w w' := by
  have hN := hG.small.2
  have hmm := @run_makeMap Try.prog
  have k0 : (w.alloc (.map #[] 0)).cell? ⟨b, 0, none⟩ = some (.int .i64 N) := (hG.grew (Only.alloc (F := fun _ => False) w (.map #[] 0))).n_cell
  have HG := hid (And.intro hG hs)
  have HM0 : Hid (MapIs (w.alloc (.map #[] 0)) w.heap.size encI okI (kvOf [] (fun _ => 0))) := hid (MapIs.made w encI okI)
  obtain ⟨i0, hi0, hz0, hz1, hz2⟩ := info_parts info_int
  have HI := hid (And.intro hi0 (And.intro hz0 (And.intro hz1 hz2)))
  clear hG hs hi0 hz0 hz1 hz2
  go_enter Try.func73, Try.ntmps73
  go_wp2_with (go_at_call 37; refine (len_at b N _ k0).mono ?_; rintro e w1 ⟨rfl, rfl⟩)
  clear k0 hmm
  have HO0 : Hid (Only (fun i => w.heap.size ≤ i) w (w.alloc (.map #[] 0))) := hid (Only.alloc _ _)
  generalize w.alloc (.map #[] 0) = w1 at *
  go_loopw [28] (fun i wr => ∃ k : Nat, k ≤ N ∧ i = .int .i64 k ∧ MapIs wr w.heap.size encI okI (kvOf (((verts N).take k).filter (fun v => !decide (v ∈ s))) (fun _ => 0)) ∧ Only (fun i => w.heap.size ≤ i) w wr) (fun i _ => N - (intOf i).toNat)
  case atStart => exact ⟨0, Nat.zero_le _, rfl, by simpa using HM0.out, HO0.out⟩
  case round =>
    obtain ⟨k, hk, rfl, hM, hO⟩ := hrel
    have HH := hid (And.intro hM hO)
    clear HM0 HO0
    by_cases hlt : k < N
    · have hb0 : (k : Int) < (N : Int) := by omega
      have htk := hid (verts_take_succ N k hlt)
      obtain ⟨r, hr⟩ : ∃ r : Bool, decide ((k : Int) ∈ s) = r := ⟨_, rfl⟩
      have HR := hid hr
      have hnew : Hid ((k : Int) ∉ ((verts N).take k).filter (fun v => !decide (v ∈ s))) := hid (fun h => by
        have := (List.mem_filter.1 h).1
        obtain ⟨j, hj⟩ := List.getElem?_of_mem this
        have hj1 := (List.getElem?_eq_some_iff.1 hj).1
        rw [List.length_take] at hj1
        rw [List.getElem?_take, if_pos (by omega)] at hj
        obtain ⟨q1, q2⟩ := List.getElem?_eq_some_iff.1 hj
        simp [verts] at q2
        omega)
      have hlen : (((verts N).take k).filter (fun v => !decide (v ∈ s))).length ≤ k := Nat.le_trans (List.length_filter_le _ _) (by rw [List.length_take]; omega)
      have hok : okI (k : Int) := ⟨by omega, by omega⟩
      have HOK := hid hok
      clear hr hM hO hok
      generalize hL : ((verts N).take k).filter (fun v => !decide (v ∈ s)) = L at *
      cases r
      · have HNX : Hid (((verts N).take (k + 1)).filter (fun v => !decide (v ∈ s)) = L ++ [(k : Int)]) := hid (by
          rw [htk.out, List.filter_append, hL]
          have := HR.out
          simp only [List.filter_cons, List.filter_nil, this]
          rfl)
        clear hL
        go_wp2_with (first
          | (go_at_call 33; refine (contains_is A c s k wr _ HR.out (HG.out.2.grew (Fresh.grew HH.out.2)) hsl).mono ?_; rintro e w2 ⟨rfl, rfl⟩)
          | (at_mapUpdate; refine wpList_put rfl _ _ _ rfl keysI Try.underlying93 HH.out.1 (by rw [kvOf_length]; unfold maxLen; omega) rfl HOK.out rfl (.int .i64 0) rfl ?_; intro w2 hm2 hg2 hs2))
        rw [kvOf_new (f := fun _ => 0) hnew.out] at hm2
        have H2 := hid (And.intro hm2 (HH.out.2.trans (Only.of_grownBy (F := fun i => w.heap.size ≤ i) hg2 (fun i e => .inl (by cases e; exact Nat.le_refl _))) (fun _ _ h => h)))
        clear hm2 hg2 hs2
        go_wp2
        go_roundw
        case rel => exact ⟨k + 1, by omega, by go_num, HNX.out ▸ H2.out.1, H2.out.2⟩
        case measure => simp [intOf]; omega
      · have HNX : Hid (((verts N).take (k + 1)).filter (fun v => !decide (v ∈ s)) = L) := hid (by
          rw [htk.out, List.filter_append, hL]
          have := HR.out
          simp only [List.filter_cons, List.filter_nil, this]
          simp)
        clear hL
        go_wp2_with (go_at_call 33; refine (contains_is A c s k wr _ HR.out (HG.out.2.grew (Fresh.grew HH.out.2)) hsl).mono ?_; rintro e w2 ⟨rfl, rfl⟩)
        go_roundw
        case rel => exact ⟨k + 1, by omega, by go_num, HNX.out ▸ HH.out.1, HH.out.2⟩
        case measure => simp [intOf]; omega
    · obtain rfl : k = N := by omega
      have hM1 : MapIs wr w.heap.size encI okI (kvOf (alive0 k s) (fun _ => 0)) := by
        have h := HH.out.1
        rwa [List.take_of_length_le (by simp [verts])] at h
      have H1 := hid HH.out.2
      clear hM hO HH
      go_wp2_with (at_range; refine wpList_over rfl _ 93 _ rfl Try.underlying93 hM1 rfl ?_; intro w2 hov hg2 hs2)
      go_frame
      rw [kvOf_keys] at hov
      have H2 := hid (And.intro hov hg2)
      have hz2 := hg2.size
      have hz1 := H1.out.size
      clear hov hg2 hM1
      generalize wr.heap.size = r at *
      go_loopw [40] (fun _ wr => ∃ (left : List Int) (f : Int → Int), Over wr w.heap.size r encI okI (kvOf (alive0 k s) f) left ∧ (∀ x ∈ alive0 k s, x ∉ left → f x = (deg E (alive0 k s) x : Int)) ∧ (∀ x ∈ left, x ∈ alive0 k s ∧ f x = 0) ∧ r < wr.heap.size ∧ Only (fun i => w.heap.size ≤ i) w wr) (fun _ wr => wr.rangeLeft w.heap.size r)
      case atStart => exact ⟨alive0 k s, fun _ => 0, H2.out.1, fun x h1 h2 => absurd h1 h2, fun x h => ⟨h, rfl⟩, by omega, H1.out.trans H2.out.2 (fun _ _ h => h.elim)⟩
      case round =>
        obtain ⟨left, f, hov, hdone, hleft, hrz, hO⟩ := hrel
        have HH := hid (And.intro hdone (And.intro hleft (And.intro hov hO)))
        have hOs := hO.size
        clear hdone hleft hO
        obtain ⟨wo, rfl⟩ : ∃ wo : World, wo = wr := ⟨_, rfl⟩
        go_wp2_with (at_next; refine wpList_over_next rfl _ rfl keysI rfl hov ?_ ?_)
        · intro h0
          subst h0
          have HF : Hid (∀ x ∈ alive0 k s, f x = (deg E (alive0 k s) x : Int)) := hid (fun x hx => HH.out.1 x hx (by simp))
          have HM := hid HH.out.2.2.1.mapIs
          have hmlt := HM.out.lt
          have HO := hid HH.out.2.2.2
          clear hov HH H2
          go_wp2_with (go_at_call 37; refine (len_at b k _ (HG.out.1.grew (Fresh.grew HO.out)).n_cell).mono ?_; rintro e w4 ⟨rfl, rfl⟩)
          go_loopw [14, 66] (fun xv i wr => ∃ j : Nat, j ≤ k ∧ i = .int .i64 j ∧ wr.ownsRow wo.heap.size 3 1 xv (((verts k).take j).filter (fun x => decide (x ∈ alive0 k s) && decide (f x = 0))).length ((((verts k).take j).filter (fun x => decide (x ∈ alive0 k s) && decide (f x = 0))).map (Value.int .i64)) ∧
              Only (fun i => wo.heap.size ≤ i) wo wr) (fun _ i _ => k - (intOf i).toNat)
          case atStart => exact ⟨0, Nat.zero_le _, rfl, ⟨by simp, .inl ⟨rfl, by simp⟩⟩, Only.refl _ _⟩
          case round =>
            obtain ⟨j, hj, rfl, hrow, hO5⟩ := hrel
            have h5 := hO5.size
            by_cases hjl : j < k
            · have htk := hid (verts_take_succ k j hjl)
              have hb1 : (j : Int) < (k : Int) := by omega
              have hl1 := (kv_look (HM.out.only hO5 (by omega)) (x := (j : Int)) ⟨by omega, by omega⟩).2
              have hlen : (((verts k).take j).filter (fun x => decide (x ∈ alive0 k s) && decide (f x = 0))).length ≤ j := Nat.le_trans (List.length_filter_le _ _) (by rw [List.length_take]; omega)
              have HR := hid (And.intro hrow hO5)
              clear hrow hO5
              generalize hL : ((verts k).take j).filter (fun x => decide (x ∈ alive0 k s) && decide (f x = 0)) = L at *
              have HNX : Hid (((verts k).take (j + 1)).filter (fun x => decide (x ∈ alive0 k s) && decide (f x = 0)) = L ++ if (j : Int) ∈ alive0 k s ∧ f j = 0 then [(j : Int)] else []) := hid (by
                rw [htk.out, List.filter_append, hL]
                congr 1
                simp only [List.filter_cons, List.filter_nil, Bool.and_eq_true, decide_eq_true_eq])
              clear hL
              by_cases hin : (j : Int) ∈ alive0 k s
              · rw [if_pos hin] at hl1
                have hd : decide ((j : Int) ∈ alive0 k s) = true := by simpa using hin
                rw [hd] at hl1
                have HIN := hid hin
                clear hin hd
                obtain ⟨d, hd⟩ : ∃ d, f j = d := ⟨_, rfl⟩
                rw [hd] at hl1
                by_cases hd0 : d = 0
                · subst hd0
                  have HNX2 : Hid (((verts k).take (j + 1)).filter (fun x => decide (x ∈ alive0 k s) && decide (f x = 0)) = L ++ [(j : Int)]) := hid (by rw [HNX.out, if_pos ⟨HIN.out, hd⟩])
                  clear hd
                  go_wp2_with (at_builtin; go_loud (refine wpList_append_own_at _ rfl (.tmp 80) (.tmp 82) 29 rfl wo.heap.size 3 i0 _ 1 8 Try.underlying29 HI.out.1 HI.out.2.1 HI.out.2.2.1 HI.out.2.2.2 rfl (by omega) _ L.length (L.map (Value.int .i64)) rfl (own_only HR.out.1 (Only.alloc (F := fun _ => False) _ _) (fun _ _ h => h)) _ 1 1 [.int .i64 j] rfl rfl (new_one _ _ _) (by simp [Value.oneCell']) (by unfold maxLen; omega) (by omega) (by simp; omega) ?_; intro xv2 w6 hown6 hgrow6 _ _))
                  have hk6 : Only (fun i => wo.heap.size ≤ i) (wr.alloc (.cells #[.int .i64 (j : Int)] 3)) w6 := Only.of_grownBy hgrow6 (fun i e => .inl (HR.out.1.lt i e).1)
                  have H6 := hid (And.intro hown6 ((HR.out.2.trans (Only.alloc (F := fun i => wo.heap.size ≤ i) _ _) (fun _ _ h => h)).trans hk6 (fun _ _ h => h)))
                  clear hown6 hgrow6 hk6 hl1
                  go_wp2
                  go_roundw
                  case rel =>
                    refine ⟨j + 1, by omega, by go_num, ?_, H6.out.2⟩
                    rw [HNX2.out]
                    simpa using H6.out.1
                  case measure => simp [intOf]; omega
                · have hne : (d == 0) = false := by simpa using hd0
                  have HNX2 : Hid (((verts k).take (j + 1)).filter (fun x => decide (x ∈ alive0 k s) && decide (f x = 0)) = L) := hid (by rw [HNX.out, if_neg (fun h => hd0 (hd ▸ h.2)), List.append_nil])
                  have HD0 := hid hd0
                  clear hd hd0
                  go_wp2
                  go_roundw
                  case rel => exact ⟨j + 1, by omega, by go_num, HNX2.out ▸ HR.out.1, HR.out.2⟩
                  case measure => simp [intOf]; omega
              · rw [if_neg hin] at hl1
                have hd : decide ((j : Int) ∈ alive0 k s) = false := by simpa using hin
                rw [hd] at hl1
                have HNX2 : Hid (((verts k).take (j + 1)).filter (fun x => decide (x ∈ alive0 k s) && decide (f x = 0)) = L) := hid (by rw [HNX.out, if_neg (fun h => hin h.1), List.append_nil])
                clear hin hd
                go_wp2
                go_roundw
                case rel => exact ⟨j + 1, by omega, by go_num, HNX2.out ▸ HR.out.1, HR.out.2⟩
                case measure => simp [intOf]; omega
            · obtain rfl : j = k := by omega
              rw [List.take_of_length_le (by simp [verts])] at hrow
              have hK0 := Kst.start (E := E) f HF.out _ rfl
              have H5 := hid (And.intro hK0 (And.intro (HM.out.only hO5 (by omega)) (And.intro (Win.of_own hrow) (HO.out.trans hO5 (fun i _ h => by omega)))))
              have hwo := HO.out.size
              clear hrow hK0 hO5 HF HM
              go_wp2_with fail
              go_loopw [13, 14] (fun ov rv wr => ∃ (out D : List Int) (g : Int → Int) (rdy : List Int), Kst E j s out D g rdy ∧ MapIs wr w.heap.size encI okI (kvOf D g) ∧ wr.ownsRow wo.heap.size 3 1 ov out.length (out.map (Value.int .i64)) ∧ Win wr wo.heap.size rv rdy ∧
                (∀ q, ov.ownBlock = some q → rv.ownBlock ≠ some q) ∧ wo.heap.size ≤ wr.heap.size ∧ Only (fun i => w.heap.size ≤ i) w wr) (fun _ _ wr => mapSize wr w.heap.size)
              case atStart => exact ⟨[], _, f, _, H5.out.1, H5.out.2.1, ⟨by simp, .inl ⟨rfl, by simp⟩⟩, H5.out.2.2.1, (fun q h => by cases h), h5, H5.out.2.2.2⟩
              case round =>
                obtain ⟨out, D, g, rdy, hK, hM, hrow, hW, hap, hsz, hO⟩ := hrel
                have hms := hM.size
                rw [kvOf_length] at hms
                have hsm := hK.small
                cases rdy with
                | nil =>
                  obtain ⟨Ar, cr, rfl, _, _⟩ := hW.form
                  have hfin := hK.final HG.out.1.2.2
                  have HR := hid (And.intro hfin (And.intro hM (And.intro hrow hO)))
                  clear hfin hM hrow hO hW hap hK H5 hms
                  go_wp2
                  go_ret2
                  obtain ⟨a1, a2, a3, a4⟩ := HR.out
                  rw [a1.2] at a2
                  exact ⟨_, _, g, out, rfl, a1.1, own_base a3 hwo, a2, Fresh.grew a4⟩
                | cons v rdy =>
                  obtain ⟨Ar, cr, rfl, _, _⟩ := hW.form
                  obtain ⟨gb, off, rfl, _, hcr1, hcr2, hcell, hWt, hWe⟩ := hW.tail
                  unfold maxLen at hcr2
                  have hin0 := hK.pop HG.out.1.2.2
                  have hvr := (hK.mem.1 hin0.vin).1.1
                  have hD : D.length ≤ 1048576 := by omega
                  have hok : okI v := ⟨by omega, by omega⟩
                  simp only [List.length_cons] at hsm
                  have hlt : (D.filter (fun y => !decide (y = v))).length < D.length := by
                    have hnd : D.Nodup := by rw [hK.rest]; exact (((lt_nodup (verts_sorted j)).filter _).filter _)
                    have hl := (left_perm hnd hin0.vin).length_eq
                    rw [List.length_cons] at hl
                    omega
                  have hb2 := hW.lt (g := gb) rfl
                  have hWW : ∃ A' c', (A' = some ⟨gb, off + 1, none⟩ ∨ A' = some ⟨gb, off, none⟩) ∧ Win wr wo.heap.size (.slice A' rdy.length c') rdy ∧ (1 < cr → A' = some ⟨gb, off + 1, none⟩ ∧ c' = cr - 1) ∧ (cr = 1 → A' = some ⟨gb, off, none⟩ ∧ c' = 0) := by
                    by_cases h1 : cr = 1
                    · subst h1
                      exact ⟨_, _, .inr rfl, hWe (List.eq_nil_of_length_eq_zero (by omega)), fun h => by omega, fun _ => ⟨rfl, rfl⟩⟩
                    · exact ⟨_, _, .inl rfl, hWt, fun _ => ⟨rfl, rfl⟩, fun h => absurd h h1⟩
                  obtain ⟨A', c', hA', hW', hA1, hA2⟩ := hWW
                  have hap' := fun q hq => (hap q hq : some gb ≠ some q)
                  have HS := hid (And.intro hin0 (And.intro hW' (And.intro hap' (And.intro hO (And.intro hok hms)))))
                  have hnf : wr.frozen? ⟨gb, off, none⟩ = wr.frozen? ⟨gb, off, none⟩ := rfl
                  have hMlt := hM.lt
                  have hbb : (0 : Int) < ((rdy.length : Int) + 1) := by omega
                  have hn1 : (1 : Int) ≤ (rdy.length : Int) + 1 := by omega
                  clear hK hin0 hW' hap' hO hok hms hW hap hA' hWt hWe hnf
                  have HM := hid hM
                  have HROW := hid hrow
                  clear hM hrow
                  have hcc : cr = 1 ∨ 1 < cr := by omega
                  rcases hcc with hc1 | hc1
                  rotate_left
                  obtain ⟨rfl, rfl⟩ := hA1 hc1
                  clear hA1 hA2
                  rotate_left
                  obtain ⟨rfl, rfl⟩ := hA2 hc1
                  subst hc1
                  obtain rfl : rdy = [] := List.eq_nil_of_length_eq_zero (by omega)
                  clear hA1 hA2
                  all_goals
                    go_wp2_with (first
                      | (at_delete
                         refine wpList_drop rfl _ _ _ _ rfl keysI Try.underlying93 HM.out rfl HS.out.2.2.2.2.1 rfl ?_
                         intro w2 hm2 hg2 hs2
                         have hk2 : Only (fun i => i = w.heap.size) wr w2 := Only.of_grownBy hg2 (fun i e => .inl (by cases e; rfl))
                         have H2 := hid (And.intro (kvOf_del D g v ▸ hm2) (And.intro hk2 (own_only HROW.out hk2 (fun q hq e => by have := (HROW.out.lt q hq).1; omega))))
                         have HS2 := hid hs2
                         clear hm2 hg2 hk2 hs2)
                      | (at_builtin
                         go_loud (refine wpList_append_own_at _ rfl (.tmp 95) (.tmp 97) 29 rfl wo.heap.size 3 i0 _ 1 8 Try.underlying29 HI.out.1 HI.out.2.1 HI.out.2.2.1 HI.out.2.2.2 rfl (by omega) _ out.length (out.map (Value.int .i64)) rfl (own_only H2.out.2.2 (Only.alloc (F := fun _ => False) _ _) (fun _ _ h => h)) _ 1 1 [.int .i64 v] rfl rfl (new_one _ _ _) (by simp [Value.oneCell']) (by unfold maxLen; omega) (by omega) (by have := HS2.out; simp; omega) ?_)
                         intro ov3 w3 hown3 hgrow3 _ hloc3
                         have hk3 := Only.of_grownBy (F := fun i => _ = some i) hgrow3 (fun i e => .inl e)
                         have H3 := hid (And.intro hown3 (And.intro hk3 hloc3))
                         clear hown3 hgrow3 hk3 hloc3))
                    have hs2 := HS2.out
                    have hO3 : Only (fun i => w.heap.size ≤ i) w w3 := ((HS.out.2.2.2.1.trans (H2.out.2.1.mono (G := fun i => w.heap.size ≤ i) (fun i _ e => by omega)) (fun _ _ h => h)).trans (Only.alloc (F := fun i => w.heap.size ≤ i) _ _) (fun _ _ h => h)).trans (H3.out.2.1.mono (G := fun i => w.heap.size ≤ i) (fun i _ e => by have := (HROW.out.lt i e).1; omega)) (fun _ _ h => h)
                    have hM3 := (H2.out.1.only (Only.alloc (F := fun _ => False) w2 (.cells #[.int .i64 v] 3)) (fun h => h)).only H3.out.2.1 (fun e => by have := (HROW.out.lt _ e).1; omega)
                    have hW3 := ((HS.out.2.1.only H2.out.2.1 (fun q hq e => by have hq' : gb = q := Option.some.inj hq; omega)).only (Only.alloc (F := fun _ => False) w2 (.cells #[.int .i64 v] 3)) (fun _ _ h => h)).only H3.out.2.1 (fun q hq e => HS.out.2.2.1 q e hq)
                    have hap3 : ∀ q, ov3.ownBlock = some q → gb ≠ q := fun q hq e => by
                      rcases H3.out.2.2 with h | h
                      · exact HS.out.2.2.1 q (h.symm.trans hq) (congrArg some e)
                      · rw [h] at hq
                        simp at hq
                        omega
                    have hs3 := H3.out.2.1.size
                    simp only [World.size_alloc] at hs3
                    have H4 := hid (And.intro hO3 (And.intro hM3 (And.intro hW3 (And.intro hap3 (And.intro H3.out.1 HS.out.1)))))
                    have HB := hid hb2
                    have hs2i : wr.heap.size ≤ w2.heap.size := by omega
                    have HOK := hid HS.out.2.2.2.2.1
                    have HMS := hid HS.out.2.2.2.2.2
                    clear hO3 hM3 hW3 hap3 H3 H2 HS HROW HM HS2 hs2 hMlt hb2 hcell
                    go_wp2_with (go_at_call 26; refine (out_new2 b j v E F w3 (HG.out.1.grew (Fresh.grew H4.out.1)) HOK.out (by omega)).mono ?_; rintro e w7 ⟨A6, c6, rfl, hi6, hb6, hg6⟩)
                    have h37 := hg6.size
                    have H7 := hid (And.intro hi6 (And.intro hb6 (And.intro (H4.out.1.trans hg6 (fun _ _ h => h.elim)) (And.intro (H4.out.2.1.only hg6 (fun h => h)) (And.intro (H4.out.2.2.1.only hg6 (fun _ _ h => h)) (own_only H4.out.2.2.2.2.1 hg6 (fun _ _ h => h)))))))
                    have hol := outL_length E v
                    have hgb1 := HB.out.2
                    clear hi6 hb6 hg6
                    go_loopw [14, 103] (fun rv i wr => ∃ (m : Nat) (f' : Int → Int) (rdy' : List Int), m ≤ (outL E v).length ∧ i = .int .i64 m ∧ Kin E j s out D v ((outL E v).take m) f' rdy' ∧ MapIs wr w.heap.size encI okI (kvOf (D.filter (fun y => !decide (y = v))) f') ∧
                        wr.ownsRow wo.heap.size 3 1 ov3 (out.length + 1) (out.map (Value.int .i64) ++ [.int .i64 v]) ∧ SlI wr A6 (outL E v) ∧ Win wr wo.heap.size rv rdy' ∧ (∀ q, rv.ownBlock = some q → ov3.ownBlock ≠ some q ∧ ∀ off, A6 ≠ some ⟨q, off, none⟩) ∧
                        w7.heap.size ≤ wr.heap.size ∧ Only (fun i => w.heap.size ≤ i) w wr) (fun _ i _ => (outL E v).length - (intOf i).toNat)
                    case atStart =>
                      refine ⟨0, g, _, Nat.zero_le _, rfl, H4.out.2.2.2.2.2, H7.out.2.2.2.1, H7.out.2.2.2.2.2, H7.out.1, H7.out.2.2.2.2.1, fun q hq => ?_, Nat.le_refl _, H7.out.2.2.1⟩
                      obtain rfl : gb = q := Option.some.inj hq
                      exact ⟨fun h => H4.out.2.2.2.1 _ h rfl, fun off h => by have := (H7.out.2.1 _ off h).1; omega⟩
                    case round =>
                      obtain ⟨m, f', rdy', hm, rfl, hK, hM, hrow, hsl, hW, hap, hsz7, hO⟩ := hrel
                      have hml := hM.lt
                      by_cases hml2 : m < (outL E v).length
                      · have HIN := hid (And.intro hK (And.intro hrow (And.intro hsl (And.intro hap hO))))
                        obtain ⟨bl, offl, rfl, hcell⟩ := hsl (by omega)
                        have h1 := hcell m hml2
                        obtain ⟨x, hx⟩ : ∃ x, (outL E v)[m]? = some x := ⟨_, List.getElem?_eq_getElem hml2⟩
                        simp only [hx, Option.getD_some] at h1
                        have hxo := List.mem_of_getElem? hx
                        have hxr : 0 ≤ x ∧ x < (j : Int) := (HG.out.1.2.2 _ (mem_outL.1 hxo)).2.1
                        have hok : okI x := ⟨by omega, by omega⟩
                        have hb1 : (m : Int) < ((outL E v).length : Int) := by omega
                        have HTK : Hid ((outL E v).take (m + 1) = (outL E v).take m ++ [x]) := hid (by rw [List.take_add_one, hx]; rfl)
                        have hxT : x ∉ (outL E v).take m := fun h => by
                          have hnd : (outL E v).Nodup := lt_nodup (sortL_strict (succ_nodup HG.out.1.2.1 v))
                          obtain ⟨q, hq⟩ := List.getElem?_of_mem h
                          have hq1 := (List.getElem?_eq_some_iff.1 hq).1
                          rw [List.length_take] at hq1
                          rw [List.getElem?_take, if_pos (by omega)] at hq
                          have := (List.getElem?_inj (by omega) hnd).1 (hq.trans hx.symm)
                          omega
                        have hl1 := (kv_look hM hok).2
                        have hl2 := (kv_look hM hok).1
                        have HOX := hid hok
                        have hDl : (D.filter (fun y => !decide (y = v))).length ≤ 1048576 := by omega
                        have HTX := hid hxT
                        have HXO := hid hxo
                        clear hK hrow hsl hap hO hcell hx hok hxT hxo
                        by_cases hin : x ∈ D.filter (fun y => !decide (y = v))
                        · rw [if_pos hin] at hl1 hl2
                          have hd : decide (x ∈ D.filter (fun y => !decide (y = v))) = true := by simpa using hin
                          rw [hd] at hl1
                          have hin' : x ∈ D ∧ x ≠ v := by simpa using hin
                          have HD := hid (And.intro hin hin')
                          have hpos := HIN.out.1.pos HG.out.1.2.1 hin' HXO.out HTX.out
                          obtain ⟨d, hdv⟩ : ∃ d, f' x = d := ⟨_, rfl⟩
                          rw [hdv] at hl1 hl2 hpos
                          have HDV := hid hdv
                          clear hin hin' hd hdv
                          obtain ⟨Av, cv, rfl, _, _⟩ := hW.form
                          have hrl := HIN.out.1.small
                          have hvlt : ∀ q, (Value.slice Av rdy'.length cv).ownBlock = some q → wo.heap.size ≤ q ∧ q < wr.heap.size := fun q hq => hW.lt hq
                          have HW := hid (And.intro hW hvlt)
                          clear hW hvlt
                          by_cases hd1 : d = 1
                          · subst hd1
                            go_wp2_with (first
                              | (at_mapUpdate
                                 refine wpList_put rfl _ _ _ rfl keysI Try.underlying93 hM (by rw [kvOf_length]; unfold maxLen; omega) rfl HOX.out rfl (.int .i64 0) rfl ?_
                                 intro w8 hm8 hg8 hs8
                                 rw [kvOf_put HD.out.1] at hm8
                                 have hl3 := (kv_look hm8 HOX.out).1
                                 rw [if_pos HD.out.1, show upd f' x 0 x = 0 by simp [upd]] at hl3
                                 have hk8 : Only (fun i => i = w.heap.size) wr w8 := Only.of_grownBy hg8 (fun i e => .inl (by cases e; rfl))
                                 have H8 := hid (And.intro hm8 (And.intro hk8 (And.intro hs8 (HW.out.1.only hk8 (fun q hq e => by have := (HW.out.2 q hq).1; omega)))))
                                 clear hm8 hk8 hs8 hg8)
                              | (go_at_call 91
                                 refine (search_at Av cv rdy' x w8 H8.out.2.2.2.sl (HIN.out.1.sorted.imp (fun h => by omega)) (by omega)).mono ?_
                                 rintro e w9 ⟨r9, rfl, q9, rfl⟩)
                              | (go_at_call 92
                                 refine (insert_at wo.heap.size (.slice Av rdy'.length cv) rdy' (rdy'.countP (· < x)) x (w8.drewN q9).heap.size _ (H8.out.2.2.2.only (Grew.trans (Only.drewN w8 q9) (Only.alloc _ _)) (fun _ _ h => h)) List.countP_le_length (heap_alloc_new _ _) (fun q hq e => by have := (HW.out.2 q hq).2; have h8 := H8.out.2.2.1; simp at e; omega) (by omega) (by have h8 := H8.out.2.2.1; simp; omega)).mono ?_
                                 rintro e w10 ⟨v10, rfl, hW10, hk10, hl10⟩))
                            have hs8 := H8.out.2.2.1
                            have hk89 : Grew w8 ((w8.drewN q9).alloc (.cells #[.int .i64 x] 3)) := Grew.trans (Only.drewN w8 q9) (Only.alloc _ _)
                            have hs10 := hk10.size
                            simp at hs10
                            have HU : Hid (upd f' x (f' x - 1) = upd f' x 0) := hid (by rw [HDV.out]; rfl)
                            have hK10 := HIN.out.1.dec_put HD.out.2 HTX.out (by rw [HDV.out]; rfl)
                            rw [HU.out] at hK10
                            have hM10 := (H8.out.1.only hk89 (fun h => h)).only hk10 (fun e => by have := (HW.out.2 _ e).1; omega)
                            have hrow10 := own_only ((own_only (own_only HIN.out.2.1 H8.out.2.1 (fun q hq e => by have := (HIN.out.2.1.lt q hq).1; omega)) hk89 (fun _ _ h => h))) hk10 (fun q hq e => (HIN.out.2.2.2.1 q e).1 hq)
                            have hsl10 := ((HIN.out.2.2.1.only H8.out.2.1 (fun q off hq e => by have := (H7.out.2.1 q off hq).1; omega)).only hk89 (fun _ _ _ h => h)).only hk10 (fun q off hq e => (HIN.out.2.2.2.1 q e).2 off hq)
                            have hap10 : ∀ q, v10.ownBlock = some q → ov3.ownBlock ≠ some q ∧ ∀ off, some (⟨bl, offl, none⟩ : Addr) ≠ some ⟨q, off, none⟩ := fun q hq => by
                              rcases hl10 with h | ⟨kk, h, hge⟩
                              · exact HIN.out.2.2.2.1 q (h.symm.trans hq)
                              · obtain rfl : kk = q := Option.some.inj (h.symm.trans hq)
                                simp at hge
                                refine ⟨fun e => ?_, fun off e => ?_⟩
                                · have := (HIN.out.2.1.lt _ e).2; omega
                                · have := (H7.out.2.1 _ _ e).2; omega
                            have hO10 := ((HIN.out.2.2.2.2.trans (H8.out.2.1.mono (G := fun i => w.heap.size ≤ i) (fun i _ e => by omega)) (fun _ _ h => h)).trans hk89 (fun _ _ h => h.elim)).trans (hk10.mono (G := fun i => w.heap.size ≤ i) (fun i _ e => by have := (HW.out.2 _ e).1; omega)) (fun _ _ h => h)
                            have HFIN := hid (And.intro hK10 (And.intro hM10 (And.intro hrow10 (And.intro hsl10 (And.intro hW10 (And.intro hap10 (And.intro (by omega : w7.heap.size ≤ w10.heap.size) hO10)))))))
                            clear hs8 hk89 hs10 hK10 hM10 hrow10 hsl10 hap10 hO10 hW10 hk10 hl10 hl1 hl2 hl3 hM
                            go_wp2
                            go_roundw
                            case rel =>
                              obtain ⟨a1, a2, a3, a4, a5, a6, a7, a8⟩ := HFIN.out
                              exact ⟨m + 1, _, _, by omega, by go_num, HTK.out ▸ a1, a2, a3, a4, a5, a6, a7, a8⟩
                            case measure => simp [intOf]; omega
                          · have hne : (d - 1 == 0) = false := by simp; omega
                            have hd0 : Hid (d - 1 ≠ 0) := hid (by omega)
                            go_wp2_with (at_mapUpdate
                                         refine wpList_put rfl _ _ _ rfl keysI Try.underlying93 hM (by rw [kvOf_length]; unfold maxLen; omega) rfl HOX.out rfl (.int .i64 (d - 1)) rfl ?_
                                         intro w8 hm8 hg8 hs8
                                         rw [kvOf_put HD.out.1] at hm8
                                         have hl3 := (kv_look hm8 HOX.out).1
                                         rw [if_pos HD.out.1, show upd f' x (d - 1) x = d - 1 by simp [upd]] at hl3
                                         have hk8 : Only (fun i => i = w.heap.size) wr w8 := Only.of_grownBy hg8 (fun i e => .inl (by cases e; rfl))
                                         have H8 := hid (And.intro hm8 (And.intro hk8 (And.intro hs8 (HW.out.1.only hk8 (fun q hq e => by have := (HW.out.2 q hq).1; omega)))))
                                         clear hm8 hk8 hs8 hg8)
                            have hs8 := H8.out.2.1.size
                            have hK10 := HIN.out.1.dec_keep HD.out.2 HTX.out (by rw [HDV.out]; exact hpos.1) (by rw [HDV.out]; exact hd0.out)
                            rw [HDV.out] at hK10
                            have hrow10 := own_only HIN.out.2.1 H8.out.2.1 (fun q hq e => by have := (HIN.out.2.1.lt q hq).1; omega)
                            have hsl10 := HIN.out.2.2.1.only H8.out.2.1 (fun q off hq e => by have := (H7.out.2.1 q off hq).1; omega)
                            have hO10 := HIN.out.2.2.2.2.trans (H8.out.2.1.mono (G := fun i => w.heap.size ≤ i) (fun i _ e => by omega)) (fun _ _ h => h)
                            have HFIN := hid (And.intro hK10 (And.intro H8.out.1 (And.intro hrow10 (And.intro hsl10 (And.intro H8.out.2.2.2 (And.intro HIN.out.2.2.2.1 (And.intro (by omega : w7.heap.size ≤ w8.heap.size) hO10)))))))
                            clear hs8 hK10 hrow10 hsl10 hO10 hl1 hl2 hl3 hM
                            go_wp2
                            go_roundw
                            case rel =>
                              obtain ⟨a1, a2, a3, a4, a5, a6, a7, a8⟩ := HFIN.out
                              exact ⟨m + 1, _, _, by omega, by go_num, HTK.out ▸ a1, a2, a3, a4, a5, a6, a7, a8⟩
                            case measure => simp [intOf]; omega
                        · rw [if_neg hin] at hl1
                          have hd : decide (x ∈ D.filter (fun y => !decide (y = v))) = false := by simpa using hin
                          rw [hd] at hl1
                          have hin' : ¬ (x ∈ D ∧ x ≠ v) := by simpa using hin
                          have HK2 := hid (And.intro (HIN.out.1.skip hin') (And.intro hM hW))
                          clear hin hin' hd hl2 hM hW
                          go_wp2
                          go_roundw
                          case rel => exact ⟨m + 1, f', rdy', by omega, by go_num, HTK.out ▸ HK2.out.1, HK2.out.2.1, HIN.out.2.1, HIN.out.2.2.1, HK2.out.2.2, HIN.out.2.2.2.1, hsz7, HIN.out.2.2.2.2⟩
                          case measure => simp [intOf]; omega
                      · obtain rfl : m = (outL E v).length := by omega
                        rw [List.take_length] at hK
                        have hms := hM.size
                        rw [kvOf_length] at hms
                        have HF := hid (And.intro (hK.done HG.out.1.2.1) (And.intro hM (And.intro hrow (And.intro hW (And.intro hap (And.intro hO hms))))))
                        clear hK hM hrow hsl hW hap hO hms
                        go_wp2
                        go_roundw
                        case rel =>
                          obtain ⟨a1, a2, a3, a4, a5, a6, a7⟩ := HF.out
                          exact ⟨_, _, f', rdy', a1, a2, by simpa using a3, a4, fun q hq h => (a5 q h).1 hq, by omega, a6⟩
                        case measure => rw [HF.out.2.2.2.2.2.2, HMS.out]; exact hlt
        · intro v vv w3 hvl hvv hov3 hk3 hs3 hen
          obtain ⟨q1, q2, q3, q4⟩ := HH.out
          have hvk := (q2 v hvl).1
          have hvr := (mem_alive0.1 hvk).1
          rw [kvOf_get, if_pos hvk] at hvv
          obtain rfl : Value.int .i64 (f v) = vv := Option.some.inj hvv
          dsimp only [encI] at hen ⊢
          have hO3 := q4.trans (hk3.mono (G := fun i => w.heap.size ≤ i) (fun i _ e => by omega)) (fun _ _ h => h)
          have hok : okI v := ⟨by omega, by omega⟩
          have hll : (left.filter (fun y => !decide (y = v))).length < left.length := by
            have := (left_perm hov.2.1 hvl).length_eq
            simp at this ⊢
            omega
          have HX := hid (And.intro hvl (And.intro hvk (And.intro hov3 (And.intro hO3 (And.intro hok (And.intro hov.left_eq (left_perm hov.2.1 hvl)))))))
          have HS3 := hid hs3
          clear q1 q2 q3 q4 hvk hvl hvv hov3 hk3 hO3 hok hov hs3
          go_wp2_with (go_at_call 34; refine (in_new b k v E F w3 (HG.out.1.grew (Fresh.grew HX.out.2.2.2.1)) HX.out.2.2.2.2.1 (by omega)).mono ?_; rintro e w4 ⟨A4, c4, rfl, hi4, hb4, hg4⟩)
          have h34 := hg4.size
          have hmd : ∀ kk off, A4 = some ⟨kk, off, none⟩ → ¬ (kk = w.heap.size) := fun kk off e => by have := hb4 kk off e; have := HS3.out; omega
          have hov4 := HX.out.2.2.1.only hg4 (fun h => h) (fun h => h)
          have hO4 := HX.out.2.2.2.1.trans hg4 (fun _ _ h => h.elim)
          have hf0 := (HH.out.2.1 v HX.out.1).2
          have H4 := hid (And.intro hi4 (And.intro hmd (And.intro hov4 (And.intro hO4 hf0))))
          have hr4 : r < w4.heap.size := by have := HS3.out; omega
          have hil := inL_length E v
          clear hi4 hb4 hg4 hmd hov4 hO4 hf0 hen
          go_loopw [48] (fun i wr => ∃ (j : Nat) (f' : Int → Int), j ≤ (inL E v).length ∧ i = .int .i64 j ∧ Over wr w.heap.size r encI okI (kvOf (alive0 k s) f') (left.filter (fun y => !decide (y = v))) ∧ f' v = (((inL E v).take j).countP (fun u => decide (u ∈ alive0 k s)) : Nat) ∧
             (∀ z, z ≠ v → f' z = f z) ∧ r < wr.heap.size ∧ Only (fun i => i = w.heap.size) w4 wr) (fun i _ => (inL E v).length - (intOf i).toNat)
          case atStart => exact ⟨0, f, Nat.zero_le _, rfl, H4.out.2.2.1, by simpa using H4.out.2.2.2.2, fun _ _ => rfl, hr4, Only.refl _ _⟩
          case round =>
            obtain ⟨j, f', hj, rfl, hov, hfv, hfz, hrz5, hO5⟩ := hrel
            have hM5 := hov.mapIs
            have hsl5 := H4.out.1.only hO5 H4.out.2.1
            have H5 := hid (And.intro hov (And.intro hfz hO5))
            have h45 := hO5.size
            clear hfz hO5
            by_cases hjl : j < (inL E v).length
            · obtain ⟨bl, off, rfl, hcell⟩ := hsl5 (by omega)
              have h1 := hcell j hjl
              obtain ⟨x, hx⟩ : ∃ x, (inL E v)[j]? = some x := ⟨_, List.getElem?_eq_getElem hjl⟩
              simp only [hx, Option.getD_some] at h1
              have hxe := mem_inL.1 (List.mem_of_getElem? hx)
              have hxr := (HG.out.1.2.2 _ hxe).1
              have hb1 : (j : Int) < ((inL E v).length : Int) := by omega
              have hl1 := (kv_look hM5 (x := x) ⟨by omega, by omega⟩).2
              have hl2 := (kv_look hM5 (x := v) HX.out.2.2.2.2.1).1
              rw [if_pos HX.out.2.1, hfv] at hl2
              have hcnt : ((inL E v).take j).countP (fun u => decide (u ∈ alive0 k s)) ≤ 1048576 := Nat.le_trans List.countP_le_length (by rw [List.length_take]; omega)
              have HCS : Hid (((inL E v).take (j + 1)).countP (fun u => decide (u ∈ alive0 k s)) = ((inL E v).take j).countP (fun u => decide (u ∈ alive0 k s)) + if x ∈ alive0 k s then 1 else 0) := hid (by
                rw [List.take_add_one, hx]
                simp only [Option.toList_some, List.countP_append, List.countP_cons, List.countP_nil, decide_eq_true_eq, Nat.zero_add])
              have HX2 := hid (And.intro hx hfv)
              generalize ((inL E v).take j).countP (fun u => decide (u ∈ alive0 k s)) = cnt at *
              clear hcell hsl5 hx hxe hM5 hfv
              by_cases hin : x ∈ alive0 k s
              · rw [if_pos hin] at hl1
                have HIN := hid hin
                have hd : decide (x ∈ alive0 k s) = true := by simpa using hin
                rw [hd] at hl1
                clear hin hd
                go_wp2_with (at_mapUpdate; refine wpList_over_put rfl _ _ _ rfl keysI Try.underlying93 hov rfl HX.out.2.2.2.2.1 (by rw [kvOf_get, if_pos HX.out.2.1]; exact ⟨_, rfl⟩) rfl (.int .i64 ((cnt : Int) + 1)) rfl ?_; intro w6 hov6 hk6 hs6)
                rw [kvOf_put HX.out.2.1] at hov6
                have H6 := hid (And.intro hov6 (H5.out.2.2.trans hk6 (fun _ _ h => h)))
                clear hov6 hk6 hl1 hl2 hov
                go_wp2
                go_roundw
                case rel =>
                  refine ⟨j + 1, _, by omega, by go_num, H6.out.1, ?_, fun z hz => ?_, by omega, H6.out.2⟩
                  · rw [HCS.out, if_pos HIN.out]
                    simp [upd]
                  · unfold upd
                    rw [if_neg hz]
                    exact H5.out.2.1 z hz
                case measure => simp [intOf]; omega
              · rw [if_neg hin] at hl1
                have HIN := hid hin
                have hd : decide (x ∈ alive0 k s) = false := by simpa using hin
                rw [hd] at hl1
                clear hin hd
                go_wp2
                go_roundw
                case rel => exact ⟨j + 1, f', by omega, by go_num, H5.out.1, by rw [HCS.out, if_neg HIN.out]; exact HX2.out.2, H5.out.2.1, hrz5, H5.out.2.2⟩
                case measure => simp [intOf]; omega
            · obtain rfl : j = (inL E v).length := by omega
              have HF := hid hfv
              clear hfv hsl5 hM5
              go_wp2
              go_roundw
              case rel =>
                refine ⟨_, f', hov, fun x hx hxl => ?_, fun x hx => ?_, hrz5, H4.out.2.2.2.1.trans H5.out.2.2 (fun i _ e => by omega)⟩
                · by_cases hxv : x = v
                  · subst hxv
                    rw [HF.out, List.take_length]
                    rfl
                  · rw [H5.out.2.1 x hxv]
                    exact HH.out.1 x hx (fun h => hxl (List.mem_filter.2 ⟨h, by simpa using hxv⟩))
                · obtain ⟨a1, a2⟩ := List.mem_filter.1 hx
                  have hxv : x ≠ v := by simpa using a2
                  rw [H5.out.2.1 x hxv]
                  exact HH.out.2.1 x a1
              case measure => rw [H5.out.1.left_eq, HX.out.2.2.2.2.2.1]; exact hll
end Go.Proofs.Ytlpkolmaklnffaa
