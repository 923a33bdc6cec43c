/- The walk of the reference Gaps. -/
import Derived.Test.YtgpfhdjedebdfaaIx9
import Derived.Test.YtgpfhdjedebdfaaIx14
namespace Go.Proofs.Ytgpfhdjedebdfaa
open Go.RowKit Go.MapKept

/-- The parts that the reference looks at. -/
def rparts (l : List (Int × Int)) (e : Int × Int) (xs : List Nat) : List Part := xs.map (fun j : Nat => ((j : Int), ovl (l[j]?.getD (0, 0)) e))
theorem rparts_snoc {l : List (Int × Int)} {e : Int × Int} {xs : List Nat} {k x : Nat} (h : xs[k]? = some x) : (rparts l e xs).take (k + 1) = (rparts l e xs).take k ++ [((x : Int), ovl (l[x]?.getD (0, 0)) e)] := by
  rw [List.take_add_one]
  unfold rparts
  rw [List.getElem?_map, h]
  rfl
/-- The gaps as both sides compute them. -/
def gapsOf (e : Int × Int) (ps : List Part) : List (Int × Int) := gapL (gst e.1 ps).2 (RowKit.wrap64 (e.1 + e.2)) (gst e.1 ps).1
set_option maxRecDepth 100000 in
set_option maxHeartbeats 4000000 in
theorem rgaps_at (A : Option Addr) (cp : Nat) (l : List (Int × Int)) (c d : Int) (w : World) (hl : SlE w A l) (hv : ∀ e ∈ l, VE e) (hV : VE (c, d)) (hll : l.length ≤ 1048576) :
    Calls Try.prog 27 #[.slice A l.length cp, .agg #[.int .i64 c, .int .i64 d]] w fun e w' => ∃ (v : Value) (xs : List Nat), e = .returned v ∧ IsMeet l (c, d) l.length xs ∧ w'.ownsRow w.heap.size 28 2 v (gapsOf (c, d) (rparts l (c, d) xs)).length (cellsE (gapsOf (c, d) (rparts l (c, d) xs))) ∧ Grew w w' := by
  obtain ⟨i0, hi0, hz0, hz1, hz2⟩ := info_parts info_ext
  have HI := hid (And.intro hi0 (And.intro hz0 (And.intro hz1 hz2)))
  have HP := hid (And.intro hl (And.intro hv hV))
  have HW : Hid (Grew w (w.alloc (.cells #[.int .i64 c, .int .i64 d] 28)) ∧ (w.alloc (.cells #[.int .i64 c, .int .i64 d] 28)).cell? ⟨w.heap.size, 0, none⟩ = some (.int .i64 c) ∧ (w.alloc (.cells #[.int .i64 c, .int .i64 d] 28)).cell? ⟨w.heap.size, 1, none⟩ = some (.int .i64 d)) := hid ⟨Only.alloc _ _, cells2 _ _ _ _⟩
  have HM : Hid (Calls Try.prog 17 #[.slice A l.length cp, .agg #[.int .i64 c, .int .i64 d]] (w.alloc (.cells #[.int .i64 c, .int .i64 d] 28)) _) := hid (rmeet_at A cp l c d _ (hl.grew (Only.alloc _ _)) hv hV hll)
  have HWS : Hid (w.heap.size ≤ (w.alloc (.cells #[.int .i64 c, .int .i64 d] 28)).heap.size) := hid (by simp)
  clear hl hv hV hi0 hz0 hz1 hz2
  have k1 := HW.out.2.1
  have k2 := HW.out.2.2
  go_enter Try.func27, Try.ntmps27
  go_wp2_with (go_at_call 17; have cX := HM.out; with_reducible refine cX.mono ?_; clear cX; rintro e w1 ⟨mv, xs, rfl, hM, hmr, hg1⟩)
  obtain ⟨A2, c2, rfl, hnc⟩ := own_form1 hmr
  have HMr := hid (own_cellI hmr)
  have HMI := hid hM
  have HMB : Hid (w.heap.size ≤ w1.heap.size) := hid (Nat.le_trans HWS.out hg1.size)
  have HG1 := hid hg1
  clear hM hmr hg1 HM k1 k2 HWS
  generalize w.alloc (.cells #[.int .i64 c, .int .i64 d] 28) = W0 at *
  have hxl : xs.length ≤ l.length := HMI.out.len
  go_wp2_with fail
  go_loopw [5, 6, 8] (fun ov av i wr => ∃ (k : Nat) (a : Int), k ≤ xs.length ∧ i = .int .i64 k ∧ av = .int .i64 a ∧ Hid (a = (gst c ((rparts l (c, d) xs).take k)).2) ∧ wr.ownsRow w1.heap.size 28 2 ov (gst c ((rparts l (c, d) xs).take k)).1.length (cellsE (gst c ((rparts l (c, d) xs).take k)).1) ∧ Grew w1 wr) (fun _ _ i _ => xs.length - (intOf i).toNat)
  case atStart => exact ⟨0, c, Nat.zero_le _, rfl, rfl, hid rfl, World.ownsRow_nil _ _ _ _, Only.refl _ _⟩
  case round =>
    obtain ⟨k, a, hk, rfl, rfl, hA, hrow, hO⟩ := hrel
    have HO := hid hO
    have hws := hO.size
    have hgl : (gst c ((rparts l (c, d) xs).take k)).1.length ≤ xs.length := by
      have h1 := gst_length c ((rparts l (c, d) xs).take k)
      have h2 : ((rparts l (c, d) xs).take k).length ≤ xs.length := by simp [rparts]; omega
      omega
    generalize hG : (gst c ((rparts l (c, d) xs).take k)).1 = G at *
    have HG := hid hG
    have HRow := hid hrow
    clear hrow hO hG
    by_cases hlt : k < xs.length
    · have hb0 : (k : Int) < (xs.length : Int) := by omega
      obtain ⟨x, hx⟩ : ∃ x, xs[k]? = some x := ⟨_, List.getElem?_eq_getElem hlt⟩
      have hxk : x < l.length := HMI.out.lt (List.mem_of_getElem? hx)
      have hxz : (x : Int) < (l.length : Int) := by omega
      obtain ⟨ad, rfl, hm3⟩ := HMr.out.2 (by omega)
      have m1 := hm3 k (nV x) (by rw [List.getElem?_map, hx]; rfl)
      obtain ⟨bl, o, rfl, hcell⟩ := (((HP.out.1.grew HW.out.1).grew HG1.out).grew HO.out) (by omega)
      obtain ⟨c1, q2⟩ := hcell x hxk
      obtain ⟨y, hy⟩ : ∃ y, l[x]? = some y := ⟨_, List.getElem?_eq_getElem hxk⟩
      simp only [hy, Option.getD_some] at c1 q2
      have HV := hid (HP.out.2.1 y (List.mem_of_getElem? hy))
      obtain ⟨p, b⟩ := y
      simp only at c1 q2
      obtain ⟨o1, o2, hov⟩ : ∃ o1 o2 : Int, ovl (p, b) (c, d) = (o1, o2) := ⟨_, _, rfl⟩
      have HTK : Hid ((rparts l (c, d) xs).take (k + 1) = (rparts l (c, d) xs).take k ++ [((x : Int), (o1, o2))]) := hid (by rw [rparts_snoc hx, hy]; simp only [Option.getD_some]; rw [hov])
      have HC : Hid (∀ W, Calls Try.prog 29 #[.agg #[.int .i64 p, .int .i64 b], .agg #[.int .i64 c, .int .i64 d]] W fun e w' => e = .returned (.agg #[.int .i64 o1, .int .i64 o2]) ∧ Grew W w') := hid (fun W => by
        have h := roverlap_at p b c d W HV.out HP.out.2.2
        rw [hov] at h
        exact h)
      have HS : Hid (∀ w', Grew wr w' → w'.cell? ⟨w.heap.size, 0, none⟩ = some (.int .i64 c) ∧ w'.cell? ⟨w.heap.size, 1, none⟩ = some (.int .i64 d) ∧ w'.cell? ⟨bl, o + x * 2, none⟩ = some (.int .i64 p) ∧ w'.cell? ⟨bl, o + x * 2 + 1, none⟩ = some (.int .i64 b) ∧ w'.cell? (ad.add k) = some (.int .i64 (x : Int))) :=
        hid (fun w' h => ⟨(Grew.trans (Grew.trans HG1.out HO.out) h).cell HW.out.2.1 (fun h => h), (Grew.trans (Grew.trans HG1.out HO.out) h).cell HW.out.2.2 (fun h => h), h.cell c1 (fun h => h), h.cell q2 (fun h => h), (Grew.trans HO.out h).cell m1 (fun h => h)⟩)
      have HST : Hid (∀ w1 B u v, Grew wr w1 → wr.heap.size ≤ B → Grew wr ((w1.setCell ⟨B, 0, none⟩ u).setCell ⟨B, 1, none⟩ v)) := hid (fun w1 B u v h hB => by
        have q := (h.mono (G := fun i => i = B) (fun _ _ h => h.elim)).trans ((Only.setCell (F := fun i => i = B) w1 (p := ⟨B, 0, none⟩) rfl u).trans (Only.setCell (F := fun i => i = B) _ (p := ⟨B, 1, none⟩) rfl v) (fun _ _ h => h)) (fun _ _ h => h)
        exact q.mono (fun i hi h => by omega))
      have HFR : Hid (∀ w', Grew (wr.drew.alloc (.cells #[.int .i64 0, .int .i64 0] 28)) w' → w'.frozen? ⟨wr.heap.size, 0, none⟩ = false ∧ w'.frozen? ⟨wr.heap.size, 1, none⟩ = false ∧ w'.cell? ⟨wr.heap.size, 0, none⟩ = some (.int .i64 0) ∧ w'.cell? ⟨wr.heap.size, 1, none⟩ = some (.int .i64 0)) := hid (fun w' hw' => by
        have g4 := hw'.heap (heap_alloc_new wr.drew (.cells #[.int .i64 0, .int .i64 0] 28)) (fun h => h)
        have g5 : w'.heap[wr.heap.size]? = some (.cells #[.int .i64 0, .int .i64 0] 28 (0, 0)) := g4
        exact ⟨by simp [World.frozen?, g5], by simp [World.frozen?, g5], by simp [World.cell?, g5], by simp [World.cell?, g5]⟩)
      clear hcell hx hy hov c1 q2 m1 hm3
      go_wp2_with fail
      go_cut [9] from 21 to 29 (fun s wx => ∃ B, s = .pointer (some ⟨B, 0, none⟩) ∧ wx.cell? ⟨B, 0, none⟩ = some (.int .i64 o1) ∧ wx.cell? ⟨B, 1, none⟩ = some (.int .i64 o2) ∧ wr.heap.size ≤ B ∧ Grew wr wx)
      case first =>
        go_region_held3 (fun w' => w'.cell? ⟨w.heap.size, 0, none⟩ = some (.int .i64 c) ∧ w'.cell? ⟨w.heap.size, 1, none⟩ = some (.int .i64 d) ∧ w'.cell? ⟨bl, o + x * 2, none⟩ = some (.int .i64 p) ∧ w'.cell? ⟨bl, o + x * 2 + 1, none⟩ = some (.int .i64 b) ∧ w'.cell? (ad.add k) = some (.int .i64 (x : Int)))
          (first
            | exact HS.out _ (Only.drew _)
            | exact HS.out _ ha
            | exact HS.out _ (Grew.trans (Only.drew _) (Only.alloc _ _))
            | exact HS.out _ (Grew.trans ha (Only.alloc _ _))
            | exact HS.out _ (HST.out _ _ _ _ ha (Nat.le_refl _))
            | exact HS.out _ (HST.out _ _ _ _ (Grew.trans ha (Only.alloc _ _)) ha.size))
          (first
            | (go_at_call 29; refine (HC.out _).mono ?_; rintro e wa ⟨rfl, ha0⟩; (have ha : Grew wr wa := (by first | exact Grew.trans (Only.drew _) ha0 | exact Grew.trans (Grew.trans (Only.drew _) (Only.alloc _ _)) ha0)); (try (have hz := HFR.out _ ha0; obtain ⟨z1, z2, z3, z4⟩ := hz))))
        · have hc12 := cells2 wa (.int .i64 o1) (.int .i64 o2) 28
          go_wp2_with fail
          go_meet
          exact ⟨_, rfl, hc12.1, hc12.2, ha.size, Grew.trans ha (Only.alloc _ _)⟩
        · have hc12 := set_two wa wr.heap.size (.int .i64 0) (.int .i64 0) (.int .i64 o1) (.int .i64 o2) z3 z4
          go_wp2_with fail
          go_meet
          exact ⟨_, rfl, hc12.1, hc12.2, Nat.le_refl _, HST.out wa wr.heap.size (.int .i64 o1) (.int .i64 o2) ha (Nat.le_refl _)⟩
      case rest =>
        obtain ⟨B, rfl, b1, b2, hBB, hgc⟩ := hcut
        clear HS HST HFR HC
        have HGC := hid hgc
        have hwc := hgc.size
        obtain ⟨r, hr⟩ : ∃ r : Int, RowKit.wrap64 (o1 + o2) = r := ⟨_, rfl⟩
        have hr2 : IntKind.i64.wrap (o1 + o2) = r := by rw [IntWalk.i64_left]; exact hr
        have HR := hid hr
        by_cases hao : a < o1
        · have hd : decide (a < o1) = true := by simpa using hao
          obtain ⟨q, hq⟩ : ∃ q : Int, RowKit.wrap64 (o1 - a) = q := ⟨_, rfl⟩
          have hq2 : IntKind.i64.wrap (o1 - a) = q := by rw [IntWalk.i64_left]; exact hq
          have HN : Hid (gst c ((rparts l (c, d) xs).take (k + 1)) = (G ++ [(a, q)], r)) := hid (by
            rw [HTK.out, gst_snoc, HG.out, ← hA.out]
            unfold gapL
            rw [if_pos hao]
            simp only
            rw [hq, hr])
          clear hgc hr hq hao
          go_wp2_with (at_builtin; go_loud (refine wpList_append_own_at _ rfl (.tmp 34) (.tmp 41) 22 rfl w1.heap.size 28 i0 _ 2 16 Try.underlying22 HI.out.1 HI.out.2.1 HI.out.2.2.1 HI.out.2.2.2 rfl (by omega) _ G.length (cellsE G) rfl (own_keep HRow.out (Grew.trans HGC.out (Only.alloc (F := fun _ => False) wc (.cells #[.int .i64 a, .int .i64 q] 28))) (fun _ _ h => h)) ⟨wc.heap.size, 0, none⟩ 1 1 [.int .i64 a, .int .i64 q] rfl rfl (news2 (heap_alloc_new _ _)) (by intro u hu; simp at hu; rcases hu with rfl | rfl <;> rfl) (by unfold maxLen; omega) (by omega) (by simp; omega) ?_; intro v8 w8 hown8 hgrow8 _ _; (have hO8 : Grew w1 w8 := (((Grew.to (Grew.trans HO.out HGC.out)).trans (Only.alloc (F := fun i => w1.heap.size ≤ i) wc _) (fun _ _ h => h)).trans (Only.of_grownBy (F := fun i => w1.heap.size ≤ i) hgrow8 (fun i e => .inl (World.ownsRow.lt HRow.out i e).1)) (fun _ _ h => h)).mono (fun i hi h => by omega)); have H8 := hid (And.intro hown8 hO8); have e1 := (Only.of_grownBy (F := fun i => i < wr.heap.size) hgrow8 (fun i e => .inl (World.ownsRow.lt HRow.out i e).2)).cell ((Only.alloc (F := fun _ => False) wc (.cells #[.int .i64 a, .int .i64 q] 28)).cell b1 (fun h => h)) (show ¬ B < wr.heap.size by omega); have e2 := (Only.of_grownBy (F := fun i => i < wr.heap.size) hgrow8 (fun i e => .inl (World.ownsRow.lt HRow.out i e).2)).cell ((Only.alloc (F := fun _ => False) wc (.cells #[.int .i64 a, .int .i64 q] 28)).cell b2 (fun h => h)) (show ¬ B < wr.heap.size by omega)))
          go_roundw
          case rel =>
            refine ⟨k + 1, r, by omega, by go_num, rfl, ?_, ?_, H8.out.2⟩
            · rw [HN.out]; exact hid rfl
            · rw [HN.out, List.length_append, cellsE_snoc]
              exact H8.out.1
          case measure => simp [intOf]; omega
        · have hd : decide (a < o1) = false := by simpa using hao
          have HN : Hid (gst c ((rparts l (c, d) xs).take (k + 1)) = (G, r)) := hid (by
            rw [HTK.out, gst_snoc, HG.out, ← hA.out]
            unfold gapL
            rw [if_neg hao]
            simp only
            rw [hr])
          clear hgc hr hao
          go_wp2
          go_roundw
          case rel =>
            refine ⟨k + 1, r, by omega, by go_num, rfl, ?_, ?_, Grew.trans HO.out HGC.out⟩
            · rw [HN.out]; exact hid rfl
            · rw [HN.out]
              exact own_keep1 HRow.out HGC.out
          case measure => simp [intOf]; omega
    · obtain rfl : k = xs.length := by omega
      have hlen : (rparts l (c, d) xs).length = xs.length := by simp [rparts]
      have htk : (rparts l (c, d) xs).take xs.length = rparts l (c, d) xs := by rw [← hlen, List.take_length]
      rw [htk] at HG hA
      have k1 := (Grew.trans HG1.out HO.out).cell HW.out.2.1 (fun h => h)
      have k2 := (Grew.trans HG1.out HO.out).cell HW.out.2.2 (fun h => h)
      obtain ⟨r, hr⟩ : ∃ r : Int, RowKit.wrap64 (c + d) = r := ⟨_, rfl⟩
      have hr2 : IntKind.i64.wrap (c + d) = r := by rw [IntWalk.i64_left]; exact hr
      by_cases har : a < r
      · have hd : decide (a < r) = true := by simpa using har
        obtain ⟨q, hq⟩ : ∃ q : Int, RowKit.wrap64 (r - a) = q := ⟨_, rfl⟩
        have hq2 : IntKind.i64.wrap (r - a) = q := by rw [IntWalk.i64_left]; exact hq
        have HN : Hid (gapsOf (c, d) (rparts l (c, d) xs) = G ++ [(a, q)]) := hid (by
          unfold gapsOf
          simp only
          rw [HG.out, ← hA.out, hr]
          unfold gapL
          rw [if_pos har, hq])
        clear hr hq har hlen htk
        go_wp2_with (at_builtin; go_loud (refine wpList_append_own_at _ rfl (.tmp 55) (.tmp 65) 22 rfl w1.heap.size 28 i0 _ 2 16 Try.underlying22 HI.out.1 HI.out.2.1 HI.out.2.2.1 HI.out.2.2.2 rfl (by omega) _ G.length (cellsE G) rfl (own_keep HRow.out (Only.alloc (F := fun _ => False) wr (.cells #[.int .i64 a, .int .i64 q] 28)) (fun _ _ h => h)) ⟨wr.heap.size, 0, none⟩ 1 1 [.int .i64 a, .int .i64 q] rfl rfl (news2 (heap_alloc_new _ _)) (by intro u hu; simp at hu; rcases hu with rfl | rfl <;> rfl) (by unfold maxLen; omega) (by omega) (by simp; omega) ?_; intro v8 w8 hown8 hgrow8 _ _; (have hO8 : Grew w1 w8 := (((Grew.to HO.out).trans (Only.alloc (F := fun i => w1.heap.size ≤ i) wr _) (fun _ _ h => h)).trans (Only.of_grownBy (F := fun i => w1.heap.size ≤ i) hgrow8 (fun i e => .inl (World.ownsRow.lt HRow.out i e).1)) (fun _ _ h => h)).mono (fun i hi h => by omega)); have H8 := hid (And.intro hown8 hO8)))
        go_ret
        refine ⟨_, xs, rfl, HMI.out, ?_, Grew.trans (Grew.trans HW.out.1 HG1.out) H8.out.2⟩
        rw [HN.out, List.length_append, cellsE_snoc]
        exact own_baseM H8.out.1 HMB.out
      · have hd : decide (a < r) = false := by simpa using har
        have HN : Hid (gapsOf (c, d) (rparts l (c, d) xs) = G) := hid (by
          unfold gapsOf
          simp only
          rw [HG.out, ← hA.out, hr]
          unfold gapL
          rw [if_neg har])
        clear hr har hlen htk
        go_wp2
        go_ret
        refine ⟨_, xs, rfl, HMI.out, ?_, Grew.trans (Grew.trans HW.out.1 HG1.out) HO.out⟩
        rw [HN.out]
        exact own_baseM HRow.out HMB.out
end Go.Proofs.Ytgpfhdjedebdfaa
