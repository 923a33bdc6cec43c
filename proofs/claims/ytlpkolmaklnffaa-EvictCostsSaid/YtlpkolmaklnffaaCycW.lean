/- The walk of topo.Cycle. -/
import Derived.Test.YtlpkolmaklnffaaOrder
import Derived.Test.YtlpkolmaklnffaaCyc2
import Derived.Test.YtlpkolmaklnffaaWinV
namespace Go.Proofs.Ytlpkolmaklnffaa
open Go.RowKit Go.MapKept

theorem own_solo (w : World) (b : Nat) (x : Value) (t : TypeId) (h : w.heap[b]? = some (.cells #[x] t (0, 0))) : w.ownsRow b t 1 (.slice (some ⟨b, 0, none⟩) 1 1) 1 [x] :=
  ⟨rfl, .inr ⟨b, 1, _, rfl, Nat.le_refl _, h, Nat.le_refl _, by unfold maxLen; omega, by simp, by simp⟩⟩
theorem own_ints {w : World} {v : Value} {m : Nat} {xs : List Value} (h : w.ownsRow 0 3 1 v m xs) : ∀ g, v.ownBlock = some g → (∀ es c, w.heap[g]? ≠ some (.map es c)) ∧ ∀ cur, w.heap[g]? ≠ some (.cells cur 29 (0, 0)) := fun g hg => by
  rcases h.2 with ⟨rfl, _⟩ | ⟨g', cap, cur, rfl, _, hh, _⟩
  · cases hg
  · obtain rfl : g' = g := Option.some.inj hg
    refine ⟨fun es c e => ?_, fun cur' e => ?_⟩
    · rw [hh] at e; cases e
    · rw [hh] at e; injection e with e; injection e with _ e2; exact absurd e2 (by decide)
theorem NewInts.own {w w' : World} {v : Value} {xs : List Int} (h : NewInts w w' v xs) : w'.ownsRow 0 3 1 v xs.length (xs.map (Value.int .i64)) := own_base h (Nat.zero_le _)
theorem info_ints : (Try.prog.info? 29).map (fun i => (i.zero, i.size, i.bytes)) = some (some (.slice none 0 0), 1, 24) := by kernel_rfl
theorem WinV.blk {w : World} {base : Nat} {e : TypeId} {v : Value} {vs : List Value} (h : WinV w base e v vs) {g : Nat} (hg : v.ownBlock = some g) : ∃ cur, w.heap[g]? = some (.cells cur e (0, 0)) := by
  obtain ⟨A, c, rfl, ⟨rfl, _⟩ | ⟨g', off, cur, rfl, h1, h2, r⟩⟩ := h
  · cases hg
  · cases hg
    exact ⟨cur, h2⟩
/-- The paths on the row, each in a row of ints. -/
def PathsAt (w : World) (pvs : List Value) (qs : List (List Int)) : Prop := pvs.length = qs.length ∧ ∀ (j : Nat) (pv : Value) (p : List Int), pvs[j]? = some pv → qs[j]? = some p → w.ownsRow 0 3 1 pv p.length (p.map (Value.int .i64))
theorem PathsAt.only {F : Nat → Prop} {w w' : World} {pvs : List Value} {qs : List (List Int)} (h : PathsAt w pvs qs) (k : Only F w w') (hn : ∀ v m xs, w.ownsRow 0 3 1 v m xs → ∀ g, v.ownBlock = some g → ¬ F g) : PathsAt w' pvs qs :=
  ⟨h.1, fun j pv p h1 h2 => own_only (h.2 j pv p h1 h2) k (hn _ _ _ (h.2 j pv p h1 h2))⟩
theorem PathsAt.snoc {w : World} {pvs : List Value} {qs : List (List Int)} {pv : Value} {p : List Int} (h : PathsAt w pvs qs) (hp : w.ownsRow 0 3 1 pv p.length (p.map (Value.int .i64))) : PathsAt w (pvs ++ [pv]) (qs ++ [p]) := by
  refine ⟨by simp [h.1], fun j pv' p' h1 h2 => ?_⟩
  by_cases hj : j < pvs.length
  · rw [List.getElem?_append_left hj] at h1
    rw [List.getElem?_append_left (by rw [← h.1]; exact hj)] at h2
    exact h.2 j pv' p' h1 h2
  · rw [List.getElem?_append_right (by omega)] at h1
    rw [List.getElem?_append_right (by rw [← h.1]; omega), ← h.1] at h2
    have h0 := (List.getElem?_eq_some_iff.1 h1).1
    have : j - pvs.length = 0 := by simpa using h0
    rw [this] at h1 h2
    simp at h1 h2
    subst h1 h2
    exact hp
theorem PathsAt.tail {w : World} {pv : Value} {pvs : List Value} {p : List Int} {qs : List (List Int)} (h : PathsAt w (pv :: pvs) (p :: qs)) : w.ownsRow 0 3 1 pv p.length (p.map (Value.int .i64)) ∧ PathsAt w pvs qs :=
  ⟨h.2 0 pv p rfl rfl, by simpa using h.1, fun j a b h1 h2 => h.2 (j + 1) a b (by simpa using h1) (by simpa using h2)⟩
theorem Bfs.fresh {E : List (Int × Int)} {v : Int} {done queue : List (List Int)} {seen : List Int} {C : List Int → Int → Prop} {p : List Int} (h : Bfs E v (done ++ [p]) queue seen C) : p ∉ done := fun hm => by
  have h1 := (List.pairwise_append.1 h.sorted).1
  exact ((List.pairwise_append.1 h1).2.2 p hm p (by simp)).irrefl
theorem cycle_skip {E : List (Int × Int)} {s : List Int} {v : Int} (h : v ∈ s) : IsCycle (cut E s) v [] := .inr ⟨rfl, fun _ hq => (mem_cut.1 hq.2).2.2 h⟩
set_option maxRecDepth 100000 in
set_option maxHeartbeats 2000000 in
theorem cycle_at (b N : Nat) (E : List (Int × Int)) (F : Nat → Prop) (A : Option Addr) (c : Nat) (s : List Int) (v : Int) (w : World) (hG : IsGraph w F b N E) (hs : SlI w A s) (hsl : s.length ≤ 9223372036854775807) (hfew : E.length ≤ 1048576) (hv : okI v) :
    Calls Try.prog 42 #[.pointer (some ⟨b, 0, none⟩), .int .i64 v, .slice A s.length c] w fun e w' => ∃ A' c' r, e = .returned (.slice A' r.length c') ∧ IsCycle (cut E s) v r ∧ SlI w' A' r ∧ r.length ≤ 1048577 ∧ Grew w w' := by
  have hN := hG.small.2
  have HP := hid (And.intro hG (And.intro hs hv))
  obtain ⟨i0, hi0, hz0, hz1, hz2⟩ := info_parts info_int
  have HI := hid (And.intro hi0 (And.intro hz0 (And.intro hz1 hz2)))
  obtain ⟨i9, hi9, hy0, hy1, hy2⟩ := info_parts info_ints
  have HI9 := hid (And.intro hi9 (And.intro hy0 (And.intro hy1 hy2)))
  clear hi0 hz0 hz1 hz2 hi9 hy0 hy1 hy2 hG hs hv
  have hmm := @run_makeMap Try.prog
  obtain ⟨r, hr⟩ : ∃ r : Bool, decide (v ∈ s) = r := ⟨_, rfl⟩
  have HR := hid hr
  clear hr
  cases r
  · go_enter Try.func42, Try.ntmps42
    go_wp2_with fail
    go_step3
    go_wp2_with (go_at_call 33; refine (contains_is A c s v w _ HR.out HP.out.2.1 hsl).mono ?_; rintro e w2 ⟨rfl, rfl⟩)
    go_wp2_with (go_at_call 35; refine (without_at b N E F A c s w HP.out.1 HP.out.2.1 hsl hfew).mono ?_; rintro e w1 ⟨bh, E2, rfl, hG2, hp2, hg1⟩)
    have hfew2 : E2.length ≤ 1048576 := by have h1 := hp2.length_eq; have h2 := cut_length E s; omega
    have H1 := hid (And.intro hG2 (And.intro hp2 hg1))
    have hs1 := hg1.size
    clear hG2 hp2 hg1
    go_wp2_with fail
    have hb1 := heap_new2 w1 (.cells #[.int .i64 v] 3) (.cells #[.slice (some ⟨w1.heap.size, 0, none⟩) 1 1] 29)
    have hb2 := heap_new2' w1 (.cells #[.int .i64 v] 3) (.cells #[.slice (some ⟨w1.heap.size, 0, none⟩) 1 1] 29)
    have hW0 : WinV ((w1.alloc (.cells #[.int .i64 v] 3)).alloc (.cells #[.slice (some ⟨w1.heap.size, 0, none⟩) 1 1] 29)) w1.heap.size 29 (.slice (some ⟨w1.heap.size + 1, 0, none⟩) 1 1) [.slice (some ⟨w1.heap.size, 0, none⟩) 1 1] :=
      ⟨_, 1, rfl, .inr ⟨_, 0, _, rfl, by omega, hb2, Nat.le_refl _, by unfold maxLen; omega, by simp, fun j hj => by
        obtain rfl : j = 0 := by simpa using hj
        simp⟩⟩
    have hP0 : PathsAt ((w1.alloc (.cells #[.int .i64 v] 3)).alloc (.cells #[.slice (some ⟨w1.heap.size, 0, none⟩) 1 1] 29)) [.slice (some ⟨w1.heap.size, 0, none⟩) 1 1] [[v]] :=
      ⟨rfl, fun j pv p h1 h2 => by
        cases j with
        | succ j => simp at h1
        | zero =>
          simp at h1 h2
          subst h1 h2
          exact own_base (own_solo _ _ _ _ hb1) (Nat.zero_le _)⟩
    have kM : Only (fun _ => False) ((w1.alloc (.cells #[.int .i64 v] 3)).alloc (.cells #[.slice (some ⟨w1.heap.size, 0, none⟩) 1 1] 29)) (((w1.alloc (.cells #[.int .i64 v] 3)).alloc (.cells #[.slice (some ⟨w1.heap.size, 0, none⟩) 1 1] 29)).alloc (.map #[] 0)) := Only.alloc _ _
    have hM0 : MapIs (((w1.alloc (.cells #[.int .i64 v] 3)).alloc (.cells #[.slice (some ⟨w1.heap.size, 0, none⟩) 1 1] 29)).alloc (.map #[] 0)) (w1.heap.size + 2) encI okI (seenKV []) := by
      have h := MapIs.made ((w1.alloc (.cells #[.int .i64 v] 3)).alloc (.cells #[.slice (some ⟨w1.heap.size, 0, none⟩) 1 1] 29)) encI okI
      simpa [seenKV] using h
    have hk0 : Grew w1 (((w1.alloc (.cells #[.int .i64 v] 3)).alloc (.cells #[.slice (some ⟨w1.heap.size, 0, none⟩) 1 1] 29)).alloc (.map #[] 0)) := Grew.trans (Only.alloc _ _) (Grew.trans (Only.alloc _ _) (Only.alloc _ _))
    have H2 := hid (And.intro (hW0.only kM (fun _ _ h => h)) (And.intro (hP0.only kM (fun _ _ _ _ _ _ h => h)) (And.intro hM0 hk0)))
    have hsz2 : w1.heap.size + 2 < (((w1.alloc (.cells #[.int .i64 v] 3)).alloc (.cells #[.slice (some ⟨w1.heap.size, 0, none⟩) 1 1] 29)).alloc (.map #[] 0)).heap.size := by simp
    clear hb1 hb2 hW0 hP0 kM hM0 hk0 hmm
    go_step3
    go_wp2_with fail
    generalize (((w1.alloc (.cells #[.int .i64 v] 3)).alloc (.cells #[.slice (some ⟨w1.heap.size, 0, none⟩) 1 1] 29)).alloc (.map #[] 0)) = w2 at *
    obtain ⟨md, hmd⟩ : ∃ md, w1.heap.size + 2 = md := ⟨_, rfl⟩
    have HMD := hid hmd
    have hmdw : w1.heap.size + 2 ≤ md := by omega
    rw [hmd] at H2 hsz2 ⊢
    clear hmd
    go_loopw [8] (fun pv wr => ∃ (done queue : List (List Int)) (seen : List Int) (pvs : List Value), Bfs E2 v done queue seen (fun q x => q ∈ done ∧ (lastv q, x) ∈ E2) ∧ WinV wr w1.heap.size 29 pv pvs ∧ PathsAt wr pvs queue ∧ MapIs wr md encI okI (seenKV seen) ∧ done.length + queue.length = seen.length + 1 ∧
        w2.heap.size ≤ wr.heap.size ∧ Only (fun i => w1.heap.size ≤ i) w1 wr) (fun pv wr => 2 * (N - mapSize wr md) + lenOf pv)
    case atStart => exact ⟨[], [[v]], [], _, (Bfs.begin E2 v).congr (fun q x => by simp), H2.out.1, H2.out.2.1, H2.out.2.2.1, rfl, Nat.le_refl _, Grew.to H2.out.2.2.2⟩
    case round =>
      obtain ⟨done, queue, seen, pvs, hB, hW, hP, hM, hdq, hsz, hO⟩ := hrel
      have HDQ := hid hdq
      clear hdq
      have hVal : Valid (N : Int) E2 := H1.out.1.2.2
      have hsn := length_le_of_range hB.nds (fun x hx => hB.seen_range hVal hx)
      have hms := hM.size
      have hmdl := hM.lt
      have hml : (seenKV seen).length = seen.length := by simp [seenKV]
      rw [hml] at hms
      cases queue with
      | nil =>
        obtain rfl : pvs = [] := List.eq_nil_of_length_eq_zero hP.1
        obtain ⟨Ap, cp, rfl, _, _⟩ := hW.form
        have hnone := (hB.none (fun q hq x hx => ⟨hq, hx⟩)).congr (fun e => H1.out.2.1.mem_iff)
        have HF := hid (And.intro hnone hO)
        clear hB hW hP hM hO hVal hnone hms
        go_wp2
        rw [Exit.noGoto_ret]
        go_ret
        exact ⟨none, 0, [], rfl, HF.out.1, SlI.nil, by simp, Grew.trans H1.out.2.2 (Fresh.grew HF.out.2)⟩
      | cons p queue =>
        obtain ⟨pv0, pvs, rfl⟩ : ∃ a b, pvs = a :: b := by
          cases pvs with
          | nil => have := hP.1; simp at this
          | cons a b => exact ⟨a, b, rfl⟩
        obtain ⟨hrow, hP'⟩ := hP.tail
        obtain ⟨gp, cpv, rfl, _, _⟩ := hW.form
        obtain ⟨gb, off, rfl, _, hc1, hc2, hcell, hWt, hWe⟩ := hW.tail
        unfold maxLen at hc2
        have hBp := hB.pop
        obtain ⟨n, hn⟩ : ∃ n, p.length = n + 1 := ⟨p.length - 1, by have := (hB.walk p (by simp)).pos; omega⟩
        have hpl : v ≥ 0 ∧ v < (N : Int) → p.length ≤ N := fun h => hBp.length hVal h
        obtain ⟨Ap, cp, rfl, hip⟩ := own_form hrow
        have hip' := hip
        rw [hn] at hrow hcell
        obtain ⟨bp, offp, rfl, hcp⟩ := hip (by omega)
        have hlast := hcp n (by omega)
        have elast : p[n]?.getD 0 = lastv p := by unfold lastv pg; rw [hn]; rfl
        rw [elast] at hlast
        have hpm := hBp.nd p (by simp)
        have hplN : p.length ≤ N + 1 := by
          have := hpm.1.length_le_of_subset (l₂ := v :: verts N) (fun x hx => by
            rcases hpm.2 x hx with h | h
            · exact List.mem_cons.2 (.inl h)
            · exact List.mem_cons_of_mem _ (mem_verts.2 (hB.seen_range hVal h)))
          simpa [verts] using this
        have hlm : lastv p ∈ p := by
          rw [← elast, List.getElem?_eq_getElem (show n < p.length by omega)]
          exact List.getElem_mem _
        have hlok : okI (lastv p) := by
          rcases hpm.2 _ hlm with h | h
          · rw [h]; exact HP.out.2.2
          · have := hB.seen_range hVal h
            exact ⟨by omega, by omega⟩
        have hWW : ∃ A' c', WinV wr w1.heap.size 29 (.slice A' pvs.length c') pvs ∧ (1 < cpv → A' = some ⟨gb, off + 1, none⟩ ∧ c' = cpv - 1) ∧ (cpv = 1 → A' = some ⟨gb, off, none⟩ ∧ c' = 0) := by
          by_cases h1 : cpv = 1
          · subst h1
            exact ⟨_, _, hWe (List.eq_nil_of_length_eq_zero (by omega)), fun h => by omega, fun _ => ⟨rfl, rfl⟩⟩
          · exact ⟨_, _, hWt, fun _ => ⟨rfl, rfl⟩, fun h => absurd h h1⟩
        obtain ⟨A', c', hW', hA1, hA2⟩ := hWW
        have hpvl : pvs.length ≤ 9223372036854775807 := by omega
        have hql : pvs.length = queue.length := hP'.1
        have HS := hid (And.intro hBp (And.intro hW' (And.intro hP' (And.intro hM (And.intro hO (And.intro hrow (And.intro hlok (And.intro hms hpl))))))))
        have hbb : (0 : Int) < (pvs.length : Int) + 1 := by omega
        have hn1 : (1 : Int) ≤ (pvs.length : Int) + 1 := by omega
        have hnz : (n : Int) < (n : Int) + 1 := by omega
        have hn0 : (0 : Int) ≤ (n : Int) := by omega
        have hnb : n ≤ 1048577 := by omega
        have HHN := hid hn
        have HQL := hid hql
        have HIP := hid hip'
        clear hB hW hP hM hO hBp hP' hrow hlok hms hpl hpm hlm elast hWt hWe hip hip' hcp hW' hn hql
        have hcc : cpv = 1 ∨ 1 < cpv := by omega
        rcases hcc with hc3 | hc3
        rotate_left
        obtain ⟨rfl, rfl⟩ := hA1 hc3
        clear hA1 hA2
        rotate_left
        obtain ⟨rfl, rfl⟩ := hA2 hc3
        subst hc3
        obtain rfl : pvs = [] := List.eq_nil_of_length_eq_zero (by omega)
        clear hA1 hA2
        all_goals
          go_wp2_with (go_at_call 26; refine (out_at bh N (lastv p) E2 _ wr (H1.out.1.only HS.out.2.2.2.2.1 (fun i hi h => by omega)) HS.out.2.2.2.2.2.2.1 (by omega)).mono ?_; rintro e w7 ⟨vo, rfl, hn7, hg7⟩; obtain ⟨A6, c6, rfl, hi6, _, _, _⟩ := hn7.form)
          have h7s := hg7.size
          have hol := outL_length E2 (lastv p)
          have H7 := hid (And.intro hn7.own (And.intro (HS.out.2.1.only hg7 (fun _ _ h => h)) (And.intro (HS.out.2.2.1.only hg7 (fun _ _ _ _ _ _ h => h)) (And.intro (HS.out.2.2.2.1.only hg7 (fun h => h)) (And.intro (HS.out.2.2.2.2.1.trans hg7 (fun _ _ h => h.elim)) (own_only HS.out.2.2.2.2.2.1 hg7 (fun _ _ h => h)))))))
          clear hn7 hg7 hi6 hcell hlast
          have HCL : Hid (∀ W, SlI W (some ⟨bp, offp, none⟩) p → Calls Try.prog 61 #[.slice (some ⟨bp, offp, none⟩) (n + 1) cp] W fun e w' => ∃ vv, e = .returned vv ∧ NewInts W w' vv p ∧ Grew W w') := hid (fun W hW => by
            have h := clone_at (some ⟨bp, offp, none⟩) cp p W hW (by omega)
            rwa [HHN.out] at h)
          go_loopw [8, 40] (fun pv i wr => ∃ (j : Nat) (queue1 : List (List Int)) (seen1 : List Int) (pvs1 : List Value), j ≤ (outL E2 (lastv p)).length ∧ i = .int .i64 j ∧ Bfs E2 v (done ++ [p]) queue1 seen1 (fun q x => (q ∈ done ∧ (lastv q, x) ∈ E2) ∨ (q = p ∧ x ∈ (outL E2 (lastv p)).take j)) ∧
            WinV wr w1.heap.size 29 pv pvs1 ∧ PathsAt wr pvs1 queue1 ∧ MapIs wr md encI okI (seenKV seen1) ∧ wr.ownsRow 0 3 1 (.slice A6 (outL E2 (lastv p)).length c6) (outL E2 (lastv p)).length ((outL E2 (lastv p)).map (Value.int .i64)) ∧
            wr.ownsRow 0 3 1 (.slice (some ⟨bp, offp, none⟩) (n + 1) cp) (n + 1) (p.map (Value.int .i64)) ∧ done.length + queue1.length = seen1.length ∧ seen.length ≤ seen1.length ∧ w7.heap.size ≤ wr.heap.size ∧ Only (fun i => w1.heap.size ≤ i) w1 wr) (fun _ i _ => (outL E2 (lastv p)).length - (intOf i).toNat)
          case atStart => exact ⟨0, queue, seen, _, Nat.zero_le _, rfl, HS.out.1.congr (fun q x => by simp), H7.out.2.1, H7.out.2.2.1, H7.out.2.2.2.1, H7.out.1, H7.out.2.2.2.2.2, by have := HDQ.out; simp at this; omega, Nat.le_refl _, Nat.le_refl _, H7.out.2.2.2.2.1⟩
          case round =>
            obtain ⟨j, queue1, seen1, pvs1, hj, rfl, hB, hW, hP, hM, hoo, hpo, hqs, hss, hsz7, hO⟩ := hrel
            have hsn1 := length_le_of_range hB.nds (fun x hx => hB.seen_range hVal hx)
            have HIN := hid (And.intro hB (And.intro hW (And.intro hP (And.intro hM (And.intro hoo (And.intro hpo hO))))))
            have HQS := hid hqs
            have hmdl := hM.lt
            clear hB hW hP hoo hpo hO hqs
            by_cases hjl : j < (outL E2 (lastv p)).length
            · obtain ⟨b6, off6, rfl, hcell⟩ := SlI.of_own HIN.out.2.2.2.2.1 (by omega)
              have h1 := hcell j hjl
              obtain ⟨x, hx⟩ : ∃ x, (outL E2 (lastv p))[j]? = some x := ⟨_, List.getElem?_eq_getElem hjl⟩
              simp only [hx, Option.getD_some] at h1
              have hxe := mem_outL.1 (List.mem_of_getElem? hx)
              have hxr : 0 ≤ x ∧ x < (N : Int) := (hVal _ hxe).2.1
              have hok : okI x := ⟨by omega, by omega⟩
              have hb1 : (j : Int) < ((outL E2 (lastv p)).length : Int) := by omega
              have HTK : Hid ((outL E2 (lastv p)).take (j + 1) = (outL E2 (lastv p)).take j ++ [x]) := hid (by rw [List.take_add_one, hx]; rfl)
              have hls := (hM.lookup keysI Try.underlying81 zeroBool hok).1
              rw [seenKV_get] at hls
              have HX := hid (And.intro hx (And.intro hxe hok))
              clear hcell hx hxe hok
              by_cases hxv : x = v
              · subst hxv
                have e1 : (x == x) = true := by simp
                have hfnd := (HIN.out.1.found (fun q hq y hy => .inl ⟨hq, hy⟩) HX.out.2.1).congr (fun e => H1.out.2.1.mem_iff)
                have HF := hid hfnd
                clear hls hM hfnd
                go_wp2
                rw [Exit.noGoto_ret]
                go_ret
                exact ⟨some ⟨bp, offp, none⟩, cp, p, by rw [HHN.out]; rfl, HF.out, SlI.of_own HIN.out.2.2.2.2.2.1, by omega, Grew.trans H1.out.2.2 (Fresh.grew HIN.out.2.2.2.2.2.2)⟩
              · have e1 : (x == v) = false := by simpa using hxv
                have HXV := hid hxv
                clear hxv
                by_cases hxs : x ∈ seen1
                · rw [if_pos hxs] at hls
                  replace hls : (Instr.lookup 81 (.map (some md)) (.int .i64 x) false).run Try.prog wr = .ok (.bool true) wr := hls
                  have HB2 := hid ((HIN.out.1.skip hxs).congr (C' := fun q y => (q ∈ done ∧ (lastv q, y) ∈ E2) ∨ (q = p ∧ y ∈ (outL E2 (lastv p)).take (j + 1))) (fun q y => by
                    rw [HTK.out]
                    simp only [List.mem_append, List.mem_singleton]
                    constructor
                    · rintro ((h | ⟨h1, h2⟩) | ⟨h1, h2⟩)
                      · exact .inl h
                      · exact .inr ⟨h1, .inl h2⟩
                      · exact .inr ⟨h1, .inr h2⟩
                    · rintro (h | ⟨h1, h2 | h2⟩)
                      · exact .inl (.inl h)
                      · exact .inl (.inr ⟨h1, h2⟩)
                      · exact .inr ⟨h1, h2⟩))
                  clear hxs hM
                  go_wp2
                  go_roundw
                  case rel => exact ⟨j + 1, queue1, seen1, pvs1, by omega, by go_num, HB2.out, HIN.out.2.1, HIN.out.2.2.1, HIN.out.2.2.2.1, HIN.out.2.2.2.2.1, HIN.out.2.2.2.2.2.1, HQS.out, hss, hsz7, HIN.out.2.2.2.2.2.2⟩
                  case measure => simp [intOf]; omega
                · rw [if_neg hxs] at hls
                  replace hls : (Instr.lookup 81 (.map (some md)) (.int .i64 x) false).run Try.prog wr = .ok (.bool false) wr := hls
                  have HXS := hid hxs
                  obtain ⟨Aq, cq, rfl, hq1, hq2⟩ := HIN.out.2.1.form
                  have hpq := HIN.out.2.2.1.1
                  have hpvs : pvs1.length ≤ 1048576 := by have := HQS.out; omega
                  have hlt : ∀ y, (p ∈ done ∧ (lastv p, y) ∈ E2) ∨ (p = p ∧ y ∈ (outL E2 (lastv p)).take j) → y < x := by
                    rintro y (⟨h1, _⟩ | ⟨_, h2⟩)
                    · exact absurd h1 HIN.out.1.fresh
                    · obtain ⟨q, hq⟩ := List.getElem?_of_mem h2
                      have hq1 := (List.getElem?_eq_some_iff.1 hq).1
                      rw [List.length_take] at hq1
                      rw [List.getElem?_take, if_pos (by omega)] at hq
                      have hs := sortL_strict (succ_nodup H1.out.1.2.1 (lastv p))
                      obtain ⟨u1, u2⟩ := List.getElem?_eq_some_iff.1 hq
                      obtain ⟨t1, t2⟩ := List.getElem?_eq_some_iff.1 HX.out.1
                      have := List.pairwise_iff_getElem.1 hs q j u1 t1 (by omega)
                      rw [← u2, ← t2]
                      exact this
                  have HB2 := hid ((HIN.out.1.push hxs HXV.out HX.out.2.1 hlt).congr (C' := fun q y => (q ∈ done ∧ (lastv q, y) ∈ E2) ∨ (q = p ∧ y ∈ (outL E2 (lastv p)).take (j + 1))) (fun q y => by
                    rw [HTK.out]
                    simp only [List.mem_append, List.mem_singleton]
                    constructor
                    · rintro ((h | ⟨h1, h2⟩) | ⟨h1, h2⟩)
                      · exact .inl h
                      · exact .inr ⟨h1, .inl h2⟩
                      · exact .inr ⟨h1, .inr h2⟩
                    · rintro (h | ⟨h1, h2 | h2⟩)
                      · exact .inl (.inl h)
                      · exact .inl (.inr ⟨h1, h2⟩)
                      · exact .inr ⟨h1, h2⟩))
                  have hmap := hM.heap_map
                  have HMP := hid hmap
                  clear hxs hlt hpq hmap
                  go_wp2_with (first
                    | (at_mapUpdate
                       refine wpList_put rfl _ _ _ rfl keysI Try.underlying81 hM (by unfold maxLen; simp [seenKV]; omega) rfl HX.out.2.2 rfl (.bool true) rfl ?_
                       intro w8 hm8 hg8 hs8
                       rw [seenKV_put HXS.out] at hm8
                       have k8 : Only (fun i => i = md) wr w8 := Only.of_grownBy hg8 (fun i e => .inl (by cases e; rfl))
                       have H8 := hid (And.intro hm8 (And.intro k8 hs8))
                       clear hm8 k8 hs8 hg8 hls)
                    | (go_at_call 61
                       refine (HCL.out w8 ((SlI.of_own HIN.out.2.2.2.2.2.1).only H8.out.2.1 (fun q off hq e => by
                         obtain ⟨es, cc, hm⟩ := HMP.out
                         exact (own_ints HIN.out.2.2.2.2.2.1 q (by cases hq; rfl)).1 es cc (e ▸ hm)))).mono ?_
                       rintro e w9 ⟨v9, rfl, hn9, hg9⟩
                       have H9 := hid (And.intro hn9 (And.intro hg9 hg9.size))
                       clear hn9 hg9)
                    | (at_builtin
                       first
                         | (refine wpList_append_own_at _ rfl (.tmp 55) (.tmp 57) 29 rfl w8.heap.size 3 i0 _ 1 8 Try.underlying29 HI.out.1 HI.out.2.1 HI.out.2.2.1 HI.out.2.2.2 rfl (by omega) _ p.length (p.map (Value.int .i64)) rfl (own_only H9.out.1 (Only.alloc (F := fun _ => False) _ _) (fun _ _ h => h)) _ 1 1 [.int .i64 x] rfl rfl (new_one _ _ _) (by simp [Value.oneCell']) (by unfold maxLen; omega) (by omega) (by have := H9.out.2.2; simp; omega) ?_
                            intro v10 w10 hown10 hgrow10 _ _
                            have k10 : Only (fun i => w8.heap.size ≤ i) (w9.alloc (.cells #[.int .i64 x] 3)) w10 := Only.of_grownBy hgrow10 (fun i e => .inl (H9.out.1.lt i e).1)
                            have hown : w10.ownsRow w8.heap.size 3 1 v10 (p.length + 1) ((p ++ [x]).map (Value.int .i64)) := by simpa using hown10
                            obtain ⟨A10, c10, e10, _⟩ := own_form hown
                            obtain rfl : v10 = .slice A10 (p.length + 1) c10 := by rw [e10]; simp
                            have k11 : Only (fun _ => False) w10 (w10.alloc (.cells #[.slice A10 (p.length + 1) c10] 29)) := Only.alloc _ _
                            have hs8 := H8.out.2.2
                            have hs9 := H9.out.2.2
                            have hs10 := k10.size
                            simp only [World.size_alloc] at hs10
                            have hW11 := ((((HIN.out.2.1.only H8.out.2.1 (fun g hg e => by
                              obtain ⟨cur, hc⟩ := HIN.out.2.1.blk hg
                              obtain ⟨es, cc, hm⟩ := HMP.out
                              rw [e, hm] at hc
                              cases hc)).only H9.out.2.1 (fun _ _ h => h)).only (Only.alloc (F := fun _ => False) w9 (.cells #[.int .i64 x] 3)) (fun _ _ h => h)).only k10 (fun g hg e => by have := (HIN.out.2.1.lt hg).2; omega)).only k11 (fun _ _ h => h)
                            have keep : ∀ vv m xs, wr.ownsRow 0 3 1 vv m xs → (w10.alloc (.cells #[.slice A10 (p.length + 1) c10] 29)).ownsRow 0 3 1 vv m xs := fun vv m xs h =>
                              own_only (own_only (own_only (own_only (own_only h H8.out.2.1 (fun g hg e => by
                                obtain ⟨es, cc, hm⟩ := HMP.out
                                exact (own_ints h g hg).1 es cc (e ▸ hm))) H9.out.2.1 (fun _ _ h => h)) (Only.alloc (F := fun _ => False) w9 (.cells #[.int .i64 x] 3)) (fun _ _ h => h)) k10 (fun g hg e => by have := (h.lt g hg).2; omega)) k11 (fun _ _ h => h)
                            have hM11 := ((((H8.out.1.only H9.out.2.1 (fun h => h)).only (Only.alloc (F := fun _ => False) w9 (.cells #[.int .i64 x] 3)) (fun h => h)).only k10 (fun e => by omega)).only k11 (fun h => h))
                            have hO11 := (((HIN.out.2.2.2.2.2.2.trans (H8.out.2.1.mono (G := fun i => w1.heap.size ≤ i) (fun i _ e => by have := HMD.out; omega)) (fun _ _ h => h)).trans H9.out.2.1 (fun _ _ h => h.elim)).trans (Only.alloc (F := fun i => w1.heap.size ≤ i) w9 (.cells #[.int .i64 x] 3)) (fun _ _ h => h)).trans (k10.mono (G := fun i => w1.heap.size ≤ i) (fun i _ e => by omega)) (fun _ _ h => h)
                            have H11 := hid (And.intro hW11 (And.intro keep (And.intro hM11 (And.intro (hO11.trans k11 (fun _ _ h => h.elim)) (own_base (own_only hown k11 (fun _ _ h => h)) (Nat.zero_le 0 |> fun _ => Nat.zero_le _))))))
                            have hwl : w7.heap.size ≤ w10.heap.size ∧ w1.heap.size ≤ w10.heap.size := ⟨by omega, by omega⟩
                            clear hown hown10 hgrow10 k10 k11 hW11 keep hM11 hO11 hs8 hs9 hs10 e10)
                         | (refine wpList_append_win _ rfl (.tmp 53) (.tmp 59) 51 rfl 29 i9 _ 24 Try.underlying51 HI9.out.1 HI9.out.2.1 HI9.out.2.2.1 HI9.out.2.2.2 rfl w1.heap.size _ pvs1 rfl H11.out.1 _ _ 1 rfl rfl (heap_alloc_new w10 _) (by unfold maxLen; omega) (by omega) (by simp; omega) ?_
                            intro v12 w12 hW12 k12 hl12)))
                  have keep12 : ∀ vv m xs, (w10.alloc (.cells #[.slice A10 (p.length + 1) c10] 29)).ownsRow 0 3 1 vv m xs → w12.ownsRow 0 3 1 vv m xs := fun vv m xs h => own_only h k12 (fun g hg e => by
                    obtain ⟨cur, hc⟩ := H11.out.1.blk e
                    exact (own_ints h g hg).2 cur hc)
                  have hP12 : PathsAt w12 (pvs1 ++ [.slice A10 (p.length + 1) c10]) (queue1 ++ [p ++ [x]]) := PathsAt.snoc ⟨HIN.out.2.2.1.1, fun jj a bb h1 h2 => keep12 _ _ _ (H11.out.2.1 _ _ _ (HIN.out.2.2.1.2 jj a bb h1 h2))⟩ (by
                    have := keep12 _ _ _ H11.out.2.2.2.2
                    simpa using this)
                  have hM12 := H11.out.2.2.1.only k12 (fun e => by
                    obtain ⟨cur, hc⟩ := H11.out.1.blk e
                    obtain ⟨es, cc, hm⟩ := H11.out.2.2.1.heap_map
                    rw [hm] at hc
                    cases hc)
                  have hO12 := H11.out.2.2.2.1.trans (k12.mono (G := fun i => w1.heap.size ≤ i) (fun i _ e => (H11.out.1.lt e).1)) (fun _ _ h => h)
                  have hs12 := k12.size
                  simp only [World.size_alloc] at hs12
                  have HFIN := hid (And.intro hW12 (And.intro hP12 (And.intro hM12 (And.intro (keep12 _ _ _ (H11.out.2.1 _ _ _ HIN.out.2.2.2.2.1)) (And.intro (keep12 _ _ _ (H11.out.2.1 _ _ _ HIN.out.2.2.2.2.2.1)) hO12)))))
                  clear hW12 k12 hl12 keep12 hP12 hM12 hO12 hM
                  go_wp2
                  go_roundw
                  case rel => exact ⟨j + 1, _, _, _, by omega, by go_num, HB2.out, HFIN.out.1, HFIN.out.2.1, HFIN.out.2.2.1, HFIN.out.2.2.2.1, HFIN.out.2.2.2.2.1, by have := HQS.out; simp; omega, by simp; omega, by omega, HFIN.out.2.2.2.2.2⟩
                  case measure => simp [intOf]; omega
            · obtain rfl : j = (outL E2 (lastv p)).length := by omega
              have hlc := (H1.out.1.only HIN.out.2.2.2.2.2.2 (fun i hi h => by omega)).n_cell
              have hpq := HIN.out.2.2.1.1
              obtain ⟨Aq, cq, rfl, _, _⟩ := HIN.out.2.1.form
              have hms1 := HIN.out.2.2.2.1.size
              have hml1 : (seenKV seen1).length = seen1.length := by simp [seenKV]
              rw [hml1] at hms1
              have HMS := hid hms1
              have HPQ := hid hpq
              have HB2 := hid (HIN.out.1.congr (C' := fun q x => q ∈ done ++ [p] ∧ (lastv q, x) ∈ E2) (fun q y => by
                rw [List.take_length]
                simp only [List.mem_append, List.mem_singleton, mem_outL]
                constructor
                · rintro (⟨h1, h2⟩ | ⟨rfl, h2⟩)
                  · exact ⟨.inl h1, h2⟩
                  · exact ⟨.inr rfl, h2⟩
                · rintro ⟨h1 | rfl, h2⟩
                  · exact .inl ⟨h1, h2⟩
                  · exact .inr ⟨rfl, h2⟩))
              clear hM hms1 hpq
              by_cases hbr : N < n + 1
              · have hout : ¬ (0 ≤ v ∧ v < (N : Int)) := fun h => by
                  have := HS.out.2.2.2.2.2.2.2.2 ⟨h.1, h.2⟩
                  have := HHN.out
                  omega
                have HF := hid ((cycle_out (v := v) hVal hout).congr (fun e => H1.out.2.1.mem_iff))
                clear hout
                go_wp2_with (go_at_call 37; refine (len_at bh N _ hlc).mono ?_; rintro e w8 ⟨rfl, rfl⟩)
                rw [Exit.noGoto_ret]
                go_ret
                exact ⟨none, 0, [], rfl, HF.out, SlI.nil, by simp, Grew.trans H1.out.2.2 (Fresh.grew HIN.out.2.2.2.2.2.2)⟩
              · go_wp2_with (go_at_call 37; refine (len_at bh N _ hlc).mono ?_; rintro e w8 ⟨rfl, rfl⟩)
                go_roundw
                case rel => exact ⟨done ++ [p], queue1, seen1, pvs1, HB2.out, HIN.out.2.1, HIN.out.2.2.1, HIN.out.2.2.2.1, by have := HQS.out; simp; omega, by omega, HIN.out.2.2.2.2.2.2⟩
                case measure =>
                  rw [HMS.out, HS.out.2.2.2.2.2.2.2.1]
                  have h1 := HPQ.out
                  have h2 := HQL.out
                  have h3 := HQS.out
                  have h4 := HDQ.out
                  simp only [lenOf, List.length_cons, List.length_nil] at *
                  omega
  · go_enter Try.func42, Try.ntmps42
    go_wp2_with fail
    go_step3
    go_wp2_with (go_at_call 33; refine (contains_is A c s v w _ HR.out HP.out.2.1 hsl).mono ?_; rintro e w2 ⟨rfl, rfl⟩)
    rw [Exit.noGoto_ret]
    go_ret
    exact ⟨none, 0, [], rfl, cycle_skip (by simpa using HR.out), SlI.nil, by simp, Only.refl _ _⟩
end Go.Proofs.Ytlpkolmaklnffaa
