/- The reference's Add. -/
import Derived.Test.YtlpkolmaklnffaaRefG
import Derived.Test.YtlpkolmaklnffaaApp
import Derived.Test.YtlpkolmaklnffaaHeld
namespace Go.Proofs.Ytlpkolmaklnffaa
open Go.RowKit Go.MapKept

theorem info_redge : (Try.prog.info? 39).map (fun i => (i.zero, i.size, i.bytes)) = some (some (.agg #[.int .i64 0, .int .i64 0]), 2, 16) := by kernel_rfl
theorem own_empty {w : World} {g e size : Nat} (h : w.heap[g]? = some (.cells #[] e (0, 0))) : w.ownsRow 0 e size (.slice (some ⟨g, 0, none⟩) 0 0) 0 [] :=
  ⟨by simp, .inr ⟨g, 0, #[], rfl, Nat.zero_le _, h, Nat.le_refl _, by simp [maxLen], by simp, by simp⟩⟩
theorem heap_new2 (w : World) (o o' : Obj) : ((w.alloc o).alloc o').heap[w.heap.size]? = some o := (Below.heap_alloc _ _ _ (by simp)).trans (heap_alloc_new _ _)
theorem heap_new2' (w : World) (o o' : Obj) : ((w.alloc o).alloc o').heap[w.heap.size + 1]? = some o' := by
  have := heap_alloc_new (w.alloc o) o'
  rwa [World.size_alloc] at this
abbrev Fresh (w w' : World) : Prop := Only (fun i => w.heap.size ≤ i) w w'
theorem Fresh.grown {w W w1 : World} {X : Nat} (h : Fresh w W) (hg : W.grownBy w1 (some X)) (hX : w.heap.size ≤ X) : Fresh w w1 :=
  h.trans (Only.of_grownBy (F := fun i => w.heap.size ≤ i) hg (fun i e => by cases e; exact .inl hX)) (fun _ _ h => h)
theorem Fresh.grew {w w' : World} (h : Fresh w w') : Grew w w' := ⟨h.os, h.tape, h.output, h.size, fun k hk _ => h.block k hk (by omega)⟩
theorem RefAt.stored {wc w2 : World} {F : Nat → Prop} {b : Nat} {n : Int} {E : List (Int × Int)} {A : Option Addr} {c g2 cap2 m : Nat} {u x : Int} (g : RefAt wc F b n E A c) (hq : Fresh wc w2)
    (hown : w2.ownsRow 0 39 2 (.slice (some ⟨g2, 0, none⟩) m cap2) m (cellsE E ++ cellsE [(u, x)])) (hm : m = E.length + 1) (hg : wc.heap.size ≤ g2) (hF : ∀ i, wc.heap.size ≤ i → F i) :
    RefAt (w2.setCell ⟨b, 1, none⟩ (.slice (some ⟨g2, 0, none⟩) m cap2)) F b n (E ++ [(u, x)]) (some ⟨g2, 0, none⟩) cap2 := by
  subst hm
  have hb := hq.grew.heap g.blk (fun h => h)
  have hbl := (Array.getElem?_eq_some_iff.1 g.blk).1
  have he : cellsE E ++ cellsE [(u, x)] = cellsE (E ++ [(u, x)]) := by simp [cellsE]
  rw [he] at hown
  have hcap : E.length + 1 ≤ cap2 ∧ cap2 ≤ maxLen := by
    rcases hown.2 with ⟨hv, _⟩ | ⟨g', cap', cur, hv, _, _, h1, h2, _⟩
    · cases hv
    · cases hv
      exact ⟨h1, h2⟩
  have hset : ∀ i, i ≠ b → (w2.setCell ⟨b, 1, none⟩ (.slice (some ⟨g2, 0, none⟩) (E.length + 1) cap2)).heap[i]? = w2.heap[i]? := fun i hi => Below.heap_setCell _ _ _ _ hi
  exact {
    blk := by simp [World.setCell, Array.getElem?_modify, hb]
    sl := by
      have h1 : SlE w2 (some ⟨g2, 0, none⟩) (E ++ [(u, x)]) := SlE.of_own hown
      exact h1.only (Only.setCell (F := fun i => i = b) w2 (p := ⟨b, 1, none⟩) rfl _) (fun blk off e => by cases e; omega)
    cap := by simpa using hcap.1
    cmax := hcap.2
    Fb := g.Fb
    Fs := fun blk off e => by cases e; exact hF _ hg
    lt := fun blk off e => by cases e; simpa [World.setCell] using (hown.lt g2 rfl).2 }
set_option maxRecDepth 100000 in
set_option maxHeartbeats 4000000 in
theorem radd_at (b : Nat) (n : Int) (E : List (Int × Int)) (F : Nat → Prop) (A : Option Addr) (c : Nat) (l : List (Int × Int)) (w : World) (hG : IsRef w F b n E) (hl : SlE w A l) (hfew : E.length + l.length ≤ 1099511627776) (hA : ∀ blk off, A = some ⟨blk, off, none⟩ → ¬ F blk) :
    Calls Try.prog 29 #[.pointer (some ⟨b, 0, none⟩), .slice A l.length c] w fun e w' => e = .returned (.int .i64 ((addAll n E l).length - E.length : Nat)) ∧
      IsRef w' (fun k => F k ∨ (w.heap.size ≤ k ∧ k < w'.heap.size)) b n (addAll n E l) ∧ Only F w w' := by
  go_enter Try.func29, Try.ntmps29
  go_wp2
  go_loopw [5, 6] (fun s i wr => ∃ k : Nat, k ≤ l.length ∧ i = .int .i64 k ∧ s = .int .i64 ((addAll n E (l.take k)).length - E.length : Nat) ∧
      IsRef wr (fun k => F k ∨ w.heap.size ≤ k) b n (addAll n E (l.take k)) ∧ Only F w wr) (fun _ i _ => l.length - (intOf i).toNat)
  case atStart =>
    obtain ⟨A', c', g⟩ := hG
    exact ⟨0, Nat.zero_le _, rfl, by simp [addAll], ⟨A', c', by simpa [addAll] using { g with Fb := .inl g.Fb, Fs := fun blk off e => .inl (g.Fs blk off e) }⟩, Only.refl _ _⟩
  case round =>
    obtain ⟨k, hk, rfl, rfl, hGr, hO⟩ := hrel
    by_cases hlt : k < l.length
    · have hlr := hl.only hO hA
      obtain ⟨bl, off, rfl, hcell⟩ := hlr (by omega)
      obtain ⟨h1, h2⟩ := hcell k hlt
      obtain ⟨⟨u, x⟩, hux⟩ : ∃ p, l[k]? = some p := ⟨l[k], by simp [hlt]⟩
      have hst := addAll_snoc n E l hux
      have hle := addAll_length n E (l.take k)
      have htk : (l.take k).length = k := by simp; omega
      simp only [hux, Option.getD_some] at h1 h2
      clear hcell hl hlr
      have HST := hid hst
      clear hst hux
      rw [htk] at hle
      clear htk
      generalize addAll n E (l.take k) = Ek at *
      have hb0 : (k : Int) < (l.length : Int) := by omega
      have hFb : F b := by obtain ⟨_, _, g⟩ := hG; exact g.Fb
      have _hbl : bl ≠ b := by rintro rfl; exact hA _ _ rfl hFb
      obtain ⟨A', c', g⟩ := hGr
      have k0 := cell_of_row _ _ 0 _ _ _ g.blk
      simp at k0
      have HS : Hid (∀ w', Grew wr w' → w'.cell? ⟨b, 0, none⟩ = some (.int .i64 n) ∧ w'.cell? ⟨bl, off + k * 2, none⟩ = some (.int .i64 u) ∧ w'.cell? ⟨bl, off + k * 2 + 1, none⟩ = some (.int .i64 x)) :=
        hid fun w' hw' => ⟨hw'.cell k0 (fun h => h), hw'.cell h1 (fun h => h), hw'.cell h2 (fun h => h)⟩
      have HG5 := hid (fun w' (hw' : Grew wr w') => g.only hw' (fun _ _ h => h))
      have HGA := hid (And.intro hG hA)
      have HO := hid hO
      have HH := hid (And.intro h1 h2)
      have k0' : ∀ m, (wr.drewN m).cell? ⟨b, 0, none⟩ = some (.int .i64 n) := fun m => k0
      clear g hG hA hO
      go_wp2_with fail
      go_cut [50] from 13 to 50 (fun s wx => ∃ r : Bool, s = .bool r ∧ Hid (r = canAdd n Ek (u, x)) ∧ Grew wr wx)
      case first =>
        cases hv1 : inRange n u with
        | false =>
          go_quiet ((go_at_call 69; exact quiet_left (rvertex_is b n u _ false hv1 (k0' _))))
          go_wp2_with fail
          go_meet
          exact ⟨_, rfl, hid (by simp [canAdd, hv1]), Only.drewN _ _⟩
        | true =>
          cases hv2 : inRange n x with
          | false =>
            go_quiet ((go_at_call 69; (first | with_reducible exact quiet_left (rvertex_is b n u _ true hv1 (k0' _)) | with_reducible exact quiet_left (rvertex_is b n x _ false hv2 (k0' _)) | with_reducible exact quiet_add_left (rvertex_is b n x _ false hv2 (k0' _)))))
            go_wp2_with fail
            go_meet
            exact ⟨_, rfl, hid (by simp [canAdd, hv1, hv2]), Only.drewN _ _⟩
          | true =>
            by_cases hux : u = x
            · have hq : (u != x) = false := by simpa using hux
              have HUX := hid hux
              clear hux
              go_quiet ((go_at_call 69; (first | with_reducible exact quiet_left (rvertex_is b n u _ true hv1 (k0' _)) | with_reducible exact quiet_left (rvertex_is b n x _ true hv2 (k0' _)) | with_reducible exact quiet_add_left (rvertex_is b n x _ true hv2 (k0' _)))))
              go_wp2_with fail
              go_meet
              exact ⟨_, rfl, hid (by simp [canAdd, hv1, hv2]; exact fun h => absurd HUX.out h), Only.drewN _ _⟩
            · have hq : (u != x) = true := by simpa using hux
              have HUX := hid hux
              clear hux
              go_region_held3 (fun w' => w'.cell? ⟨b, 0, none⟩ = some (.int .i64 n) ∧ w'.cell? ⟨bl, off + k * 2, none⟩ = some (.int .i64 u) ∧ w'.cell? ⟨bl, off + k * 2 + 1, none⟩ = some (.int .i64 x))
                (first
                  | exact HS.out _ (Only.drew _)
                  | exact HS.out _ (Grew.trans (Only.drew _) hgrew))
                (first
                  | (go_at_call 69; refine (rvertex_at _ _ _ _ (by assumption)).mono ?_; rintro e w' ⟨rfl, rfl⟩)
                  | (go_at_call 31; refine (rhas_at b n Ek (fun k => F k ∨ w.heap.size ≤ k) u x _ ⟨A', c', HG5.out _ (Only.drew _)⟩).mono ?_; rintro e w' ⟨rfl, hgrew⟩))
              go_wp2_with fail
              go_meet
              exact ⟨_, rfl, hid (by simp [canAdd, hv1, hv2, HUX.out]), Grew.trans (Only.drew _) hgrew⟩
      case rest =>
        obtain ⟨r, rfl, HR, hgr⟩ := hcut
        clear HS k0
        have gc := HG5.out _ hgr
        have hwr := HO.out.size
        have hOc : Only F w wc := HO.out.trans hgr (fun _ _ h => h.elim)
        have hb1 := hgr.cell HH.out.1 (fun h => h)
        have hb2 := hgr.cell HH.out.2 (fun h => h)
        clear hgr h1 h2 HH HG5 HO
        cases r with
        | false =>
          have HADDE : Hid (addOne n Ek (u, x) = Ek) := hid (by unfold addOne; rw [← HR.out]; rfl)
          have HFIN := hid (And.intro gc hOc)
          clear gc hOc
          go_wp2
          go_roundw
          case rel => exact ⟨k + 1, by omega, by go_num, by rw [HST.out, HADDE.out], by rw [HST.out, HADDE.out]; exact ⟨_, _, HFIN.out.1⟩, HFIN.out.2⟩
          case measure => simp [intOf]; omega
        | true =>
          have HADDE : Hid (addOne n Ek (u, x) = Ek ++ [(u, x)]) := hid (by unfold addOne; rw [← HR.out]; rfl)
          have HFIN := hid (And.intro gc hOc)
          have k1 := cell_of_row _ _ 1 _ _ _ gc.blk
          simp at k1
          obtain ⟨i0, hi0, hz0, hz1, hz2⟩ := info_parts info_redge
          have hle2 : Ek.length ≤ E.length + k := hle.2
          have hle3 : E.length ≤ Ek.length := hle.1
          have hwc : w.heap.size ≤ wc.heap.size := hOc.size
          have HSL : Hid (∀ w', Grew wc w' → SlE w' A' Ek) := hid fun w' hw' => gc.sl.grew hw'
          have HS : Hid (∀ w', Fresh wc w' → w'.cell? ⟨b, 1, none⟩ = some (.slice A' Ek.length c') ∧ w'.cell? ⟨bl, off + k * 2, none⟩ = some (.int .i64 u) ∧ w'.cell? ⟨bl, off + k * 2 + 1, none⟩ = some (.int .i64 x)) :=
            hid fun w' hw' => ⟨hw'.grew.cell k1 (fun h => h), hw'.grew.cell hb1 (fun h => h), hw'.grew.cell hb2 (fun h => h)⟩
          have HB : Hid (∀ w', Fresh wc w' → w'.cell? ⟨b, 1, none⟩ = some (.slice A' Ek.length c') ∧ w'.frozen? ⟨b, 1, none⟩ = false) := hid fun w' hw' => by
            have := hw'.grew.heap gc.blk (fun h => h)
            exact ⟨by simpa using cell_of_row _ _ 1 _ _ _ this, by simp [World.frozen?, this]⟩
          have HST1 := hid (fun (w2 : World) (g2 cap2 m : Nat) => RefAt.stored (w2 := w2) (g2 := g2) (cap2 := cap2) (m := m) (u := u) (x := x) gc)
          clear hOc gc hle hb1 hb2 k1
          go_wp2_with fail
          go_cut [] from 51 to 65 (fun wx => ∃ A2 c2, RefAt wx (fun k => F k ∨ w.heap.size ≤ k) b n (Ek ++ [(u, x)]) A2 c2 ∧ Only (fun i => i = b) wc wx)
          case first =>
            refine wp_region_G (by kernel_rfl) 15 (fun w' => w'.cell? ⟨b, 1, none⟩ = some (.slice A' Ek.length c') ∧ w'.cell? ⟨bl, off + k * 2, none⟩ = some (.int .i64 u) ∧ w'.cell? ⟨bl, off + k * 2 + 1, none⟩ = some (.int .i64 x)) (HS.out _ (Only.drew _)) (fun hHeld => ?_)
            refine wpAnyG_take (i := 0) (v := ?_) rfl (by kernel_rfl) (by kernel_rfl) (by kernel_rfl) (by kernel_rfl) (fun _ _ _ h => h) (Or.inl ⟨by rfl, ?_⟩) hHeld ?_
            rotate_left
            focus (intro wz hz; obtain ⟨z1, z2, z3⟩ := hz; go_simp; try with_reducible rfl)
            refine wpAnyG_take (i := 2) (v := ?_) rfl (by kernel_rfl) (by kernel_rfl) (by kernel_rfl) (by kernel_rfl) (fun _ _ _ h => h) (Or.inl ⟨by rfl, ?_⟩) hHeld ?_
            rotate_left
            focus (intro wz hz; obtain ⟨z1, z2, z3⟩ := hz; go_simp; try with_reducible rfl)
            refine wpAnyG_take (i := 3) (v := ?_) rfl (by kernel_rfl) (by kernel_rfl) (by kernel_rfl) (by kernel_rfl) (fun _ _ _ h => h) (Or.inl ⟨by rfl, ?_⟩) hHeld ?_
            rotate_left
            focus (intro wz hz; obtain ⟨z1, z2, z3⟩ := hz; go_simp; try with_reducible rfl)
            refine wpAnyG_take (i := 4) (v := ?_) rfl (by kernel_rfl) (by kernel_rfl) (by kernel_rfl) (by kernel_rfl) (fun _ _ _ h => h) (Or.inl ⟨by rfl, ?_⟩) hHeld ?_
            rotate_left
            focus (intro wz hz; obtain ⟨z1, z2, z3⟩ := hz; go_simp; try with_reducible rfl)
            refine wpAnyG_take (i := 5) (v := ?_) rfl (by kernel_rfl) (by kernel_rfl) (by kernel_rfl) (by kernel_rfl) (fun _ _ _ h => h) (Or.inl ⟨by rfl, ?_⟩) hHeld ?_
            rotate_left
            focus (intro wz hz; obtain ⟨z1, z2, z3⟩ := hz; go_simp; try with_reducible rfl)
            refine wpAnyG_take (i := 7) (v := ?_) rfl (by kernel_rfl) (by kernel_rfl) (by kernel_rfl) (by kernel_rfl) (fun _ _ _ h => h) (Or.inl ⟨by rfl, ?_⟩) hHeld ?_
            rotate_left
            focus (intro wz hz; obtain ⟨z1, z2, z3⟩ := hz; go_simp; try with_reducible rfl)
            refine wpAnyG_take (i := 8) (v := ?_) rfl (by kernel_rfl) (by kernel_rfl) (by kernel_rfl) (by kernel_rfl) (fun _ _ _ h => h) (Or.inl ⟨by rfl, ?_⟩) hHeld ?_
            rotate_left
            focus (intro wz hz; obtain ⟨z1, z2, z3⟩ := hz; go_simp; try with_reducible rfl)
            refine wpAnyG_take (i := 9) (v := ?_) rfl (by kernel_rfl) (by kernel_rfl) (by kernel_rfl) (by kernel_rfl) (fun _ _ _ h => h) (Or.inl ⟨by rfl, ?_⟩) hHeld ?_
            rotate_left
            focus (intro wz hz; obtain ⟨z1, z2, z3⟩ := hz; go_simp; try with_reducible rfl)
            refine wpAnyG_take (i := 10) (v := ?_) rfl (by kernel_rfl) (by kernel_rfl) (by kernel_rfl) (by kernel_rfl) (fun _ _ _ h => h) (Or.inl ⟨by rfl, ?_⟩) hHeld ?_
            rotate_left
            focus (intro wz hz; obtain ⟨z1, z2, z3⟩ := hz; go_simp; try with_reducible rfl)
            clear hHeld
            refine wpAnyG_ready (rs := [1, 11]) (by kernel_rfl) (by simp) ?_
            refine AllReadyG.cons rfl (by rfl) (fun K hK => ?_) ?_
            · go_simp
              refine hK.out _ _ (fun _ => HS.out _ (Only.trans (Only.alloc _ _) (Only.drew _) (fun _ _ h => h))) ?_
              clear hK K
              refine wpAnyG_ready (rs := [6, 11]) (by kernel_rfl) (by simp) ?_
              refine AllReadyG.cons rfl (by rfl) (fun K hK => ?_) ?_
              · refine wp_append_src _ (.tmp 52) (.tmp 56) 22 (by rfl) 0 39 i0 _ 2 16 Try.underlying22 hi0 hz0 hz1 hz2 rfl (by omega) _ 0 0 [] rfl (own_empty (heap_alloc_new _ _)) A' Ek.length c' (cellsE Ek) rfl (HSL.out _ (Grew.trans (Only.alloc _ _) (Only.drew _))).cells (oneCell_cellsE _) (by unfold maxLen; omega) (by omega) (by simp) ?_
                intro g1 cap1 w1 hown1 hgrow1 hat1 hlt1
                simp only [Nat.zero_add, List.nil_append] at hown1 ⊢
                have hX1 : wc.heap.size ≤ g1 := by rcases hat1 with h | h <;> first | omega | (simp at h; omega)
                have HQ1 : Hid (Fresh wc w1) := hid (Fresh.grown (Only.trans (Only.alloc _ _) (Only.drew _) (fun _ _ h => h)) hgrow1 (Nat.le_refl _))
                refine hK.out _ _ (fun _ => HS.out _ HQ1.out) ?_
                clear hK K
                refine wpAnyG_ready (rs := [11]) (by kernel_rfl) (by simp) ?_
                refine AllReadyG.cons rfl (by rfl) (fun K hK => ?_) ?_
                rotate_left
                exact AllReadyG.nil
                go_simp
                refine hK.out _ _ (fun _ => HS.out _ (HQ1.out.trans (Only.alloc _ _) (fun _ _ h => h))) ?_
                clear hK K
                refine wpAnyG_ready (rs := [12]) (by kernel_rfl) (by simp) ?_
                refine AllReadyG.cons rfl (by rfl) (fun K hK => ?_) ?_
                rotate_left
                exact AllReadyG.nil
                refine wp_append_src _ (.tmp 57) (.tmp 62) 22 (by rfl) 0 39 i0 _ 2 16 Try.underlying22 hi0 hz0 hz1 hz2 rfl (by omega) _ _ _ _ rfl (hown1.alloc _) _ 1 1 (cellsE [(u, x)]) rfl ⟨rfl, fun _ => ⟨_, rfl, World.news_of_block (cs := #[.int .i64 u, .int .i64 x]) (t := 39) (fr := (0, 0)) (heap_alloc_new _ _)⟩⟩ (oneCell_cellsE _) (by unfold maxLen; omega) (by omega) (by simp) ?_
                intro g2 cap2 w2 hown2 hgrow2 hat2 hlt2
                have HQ2 : Hid (Fresh wc w2) := hid (Fresh.grown (HQ1.out.trans (Only.alloc _ _) (fun _ _ h => h)) hgrow2 hX1)
                have hsz1 := HQ1.out.size
                have hX2 : wc.heap.size ≤ g2 := by rcases hat2 with h | h <;> first | omega | (simp at h; omega)
                refine hK.out _ _ (fun _ => HS.out _ HQ2.out) ?_
                clear hK K
                refine wpAnyG_ready (rs := [13]) (by kernel_rfl) (by simp) ?_
                refine AllReadyG.cons rfl (by rfl) (fun K hK => ?_) ?_
                rotate_left
                exact AllReadyG.nil
                go_simp
                refine hK.out _ _ (fun _ => HS.out _ HQ2.out) ?_
                clear hK K
                refine wpAnyG_ready (rs := [14]) (by kernel_rfl) (by simp) ?_
                refine AllReadyG.cons rfl (by rfl) (fun K hK => ?_) ?_
                rotate_left
                exact AllReadyG.nil
                go_simp
                refine hK.out _ _ (fun _ => HS.out _ HQ2.out) ?_
                clear hK K
                refine wpAnyG_ready (rs := [15]) (by kernel_rfl) (by simp) ?_
                refine AllReadyG.cons rfl (by rfl) (fun K hK => ?_) ?_
                rotate_left
                exact AllReadyG.nil
                obtain ⟨n3, n4⟩ := HB.out w2 HQ2.out
                go_simp
                refine hK.out _ _ (fun h => absurd rfl h) ?_
                clear hK K
                refine wpAnyG_done (by kernel_rfl) ?_ _
                go_wp2_with fail
                go_meet
                exact ⟨_, _, HST1.out w2 g2 cap2 (Ek.length + 1) HQ2.out hown2 rfl hX2 (fun i hi => .inr (by omega)), HQ2.out.grew.to.trans (Only.setCell _ (p := ⟨b, 1, none⟩) rfl _) (fun _ _ h => h.symm)⟩
              · refine AllReadyG.cons rfl (by rfl) (fun K hK => ?_) ?_
                rotate_left
                exact AllReadyG.nil
                go_simp
                refine hK.out _ _ (fun _ => HS.out _ (Only.trans (Only.alloc _ _) (Only.trans (Only.alloc _ _) (Only.drew _) (fun _ _ h => h)) (fun _ _ h => h))) ?_
                clear hK K
                refine wpAnyG_ready (rs := [6]) (by kernel_rfl) (by simp) ?_
                refine AllReadyG.cons rfl (by rfl) (fun K hK => ?_) ?_
                rotate_left
                exact AllReadyG.nil
                refine wp_append_src _ (.tmp 52) (.tmp 56) 22 (by rfl) 0 39 i0 _ 2 16 Try.underlying22 hi0 hz0 hz1 hz2 rfl (by omega) _ 0 0 [] rfl (own_empty (heap_new2 _ _ _)) A' Ek.length c' (cellsE Ek) rfl (HSL.out _ (Grew.trans (Only.alloc _ _) (Grew.trans (Only.alloc _ _) (Only.drew _)))).cells (oneCell_cellsE _) (by unfold maxLen; omega) (by omega) (by simp) ?_
                intro g1 cap1 w1 hown1 hgrow1 hat1 hlt1
                simp only [Nat.zero_add, List.nil_append] at hown1 ⊢
                have hX1 : wc.heap.size ≤ g1 := by rcases hat1 with h | h <;> first | omega | (simp at h; omega)
                have HQ1 : Hid (Fresh wc w1) := hid (Fresh.grown (Only.trans (Only.alloc _ _) (Only.trans (Only.alloc _ _) (Only.drew _) (fun _ _ h => h)) (fun _ _ h => h)) hgrow1 (Nat.le_refl _))
                refine hK.out _ _ (fun _ => HS.out _ HQ1.out) ?_
                clear hK K
                refine wpAnyG_ready (rs := [12]) (by kernel_rfl) (by simp) ?_
                refine AllReadyG.cons rfl (by rfl) (fun K hK => ?_) ?_
                rotate_left
                exact AllReadyG.nil
                refine wp_append_src _ (.tmp 57) (.tmp 62) 22 (by rfl) 0 39 i0 _ 2 16 Try.underlying22 hi0 hz0 hz1 hz2 rfl (by omega) _ _ _ _ rfl (hown1) _ 1 1 (cellsE [(u, x)]) rfl ⟨rfl, fun _ => ⟨_, rfl, World.news_of_block (cs := #[.int .i64 u, .int .i64 x]) (t := 39) (fr := (0, 0)) ((hgrow1.block _ (by simp) (by simp)).trans (heap_new2' _ _ _))⟩⟩ (oneCell_cellsE _) (by unfold maxLen; omega) (by omega) (by simp) ?_
                intro g2 cap2 w2 hown2 hgrow2 hat2 hlt2
                have HQ2 : Hid (Fresh wc w2) := hid (Fresh.grown (HQ1.out) hgrow2 hX1)
                have hsz1 := HQ1.out.size
                have hX2 : wc.heap.size ≤ g2 := by rcases hat2 with h | h <;> first | omega | (simp at h; omega)
                refine hK.out _ _ (fun _ => HS.out _ HQ2.out) ?_
                clear hK K
                refine wpAnyG_ready (rs := [13]) (by kernel_rfl) (by simp) ?_
                refine AllReadyG.cons rfl (by rfl) (fun K hK => ?_) ?_
                rotate_left
                exact AllReadyG.nil
                go_simp
                refine hK.out _ _ (fun _ => HS.out _ HQ2.out) ?_
                clear hK K
                refine wpAnyG_ready (rs := [14]) (by kernel_rfl) (by simp) ?_
                refine AllReadyG.cons rfl (by rfl) (fun K hK => ?_) ?_
                rotate_left
                exact AllReadyG.nil
                go_simp
                refine hK.out _ _ (fun _ => HS.out _ HQ2.out) ?_
                clear hK K
                refine wpAnyG_ready (rs := [15]) (by kernel_rfl) (by simp) ?_
                refine AllReadyG.cons rfl (by rfl) (fun K hK => ?_) ?_
                rotate_left
                exact AllReadyG.nil
                obtain ⟨n3, n4⟩ := HB.out w2 HQ2.out
                go_simp
                refine hK.out _ _ (fun h => absurd rfl h) ?_
                clear hK K
                refine wpAnyG_done (by kernel_rfl) ?_ _
                go_wp2_with fail
                go_meet
                exact ⟨_, _, HST1.out w2 g2 cap2 (Ek.length + 1) HQ2.out hown2 rfl hX2 (fun i hi => .inr (by omega)), HQ2.out.grew.to.trans (Only.setCell _ (p := ⟨b, 1, none⟩) rfl _) (fun _ _ h => h.symm)⟩
            · refine AllReadyG.cons rfl (by rfl) (fun K hK => ?_) ?_
              rotate_left
              exact AllReadyG.nil
              go_simp
              refine hK.out _ _ (fun _ => HS.out _ (Only.trans (Only.alloc _ _) (Only.drew _) (fun _ _ h => h))) ?_
              clear hK K
              refine wpAnyG_ready (rs := [1]) (by kernel_rfl) (by simp) ?_
              refine AllReadyG.cons rfl (by rfl) (fun K hK => ?_) ?_
              rotate_left
              exact AllReadyG.nil
              go_simp
              refine hK.out _ _ (fun _ => HS.out _ (Only.trans (Only.alloc _ _) (Only.trans (Only.alloc _ _) (Only.drew _) (fun _ _ h => h)) (fun _ _ h => h))) ?_
              clear hK K
              refine wpAnyG_ready (rs := [6]) (by kernel_rfl) (by simp) ?_
              refine AllReadyG.cons rfl (by rfl) (fun K hK => ?_) ?_
              rotate_left
              exact AllReadyG.nil
              refine wp_append_src _ (.tmp 52) (.tmp 56) 22 (by rfl) 0 39 i0 _ 2 16 Try.underlying22 hi0 hz0 hz1 hz2 rfl (by omega) _ 0 0 [] rfl (own_empty (heap_new2' _ _ _)) A' Ek.length c' (cellsE Ek) rfl (HSL.out _ (Grew.trans (Only.alloc _ _) (Grew.trans (Only.alloc _ _) (Only.drew _)))).cells (oneCell_cellsE _) (by unfold maxLen; omega) (by omega) (by simp) ?_
              intro g1 cap1 w1 hown1 hgrow1 hat1 hlt1
              simp only [Nat.zero_add, List.nil_append] at hown1 ⊢
              have hX1 : wc.heap.size ≤ g1 := by rcases hat1 with h | h <;> first | omega | (simp at h; omega)
              have HQ1 : Hid (Fresh wc w1) := hid (Fresh.grown (Only.trans (Only.alloc _ _) (Only.trans (Only.alloc _ _) (Only.drew _) (fun _ _ h => h)) (fun _ _ h => h)) hgrow1 (by omega))
              refine hK.out _ _ (fun _ => HS.out _ HQ1.out) ?_
              clear hK K
              refine wpAnyG_ready (rs := [12]) (by kernel_rfl) (by simp) ?_
              refine AllReadyG.cons rfl (by rfl) (fun K hK => ?_) ?_
              rotate_left
              exact AllReadyG.nil
              refine wp_append_src _ (.tmp 57) (.tmp 62) 22 (by rfl) 0 39 i0 _ 2 16 Try.underlying22 hi0 hz0 hz1 hz2 rfl (by omega) _ _ _ _ rfl (hown1) _ 1 1 (cellsE [(u, x)]) rfl ⟨rfl, fun _ => ⟨_, rfl, World.news_of_block (cs := #[.int .i64 u, .int .i64 x]) (t := 39) (fr := (0, 0)) ((hgrow1.block _ (by simp; omega) (by simp)).trans (heap_new2 _ _ _))⟩⟩ (oneCell_cellsE _) (by unfold maxLen; omega) (by omega) (by simp) ?_
              intro g2 cap2 w2 hown2 hgrow2 hat2 hlt2
              have HQ2 : Hid (Fresh wc w2) := hid (Fresh.grown (HQ1.out) hgrow2 hX1)
              have hsz1 := HQ1.out.size
              have hX2 : wc.heap.size ≤ g2 := by rcases hat2 with h | h <;> first | omega | (simp at h; omega)
              refine hK.out _ _ (fun _ => HS.out _ HQ2.out) ?_
              clear hK K
              refine wpAnyG_ready (rs := [13]) (by kernel_rfl) (by simp) ?_
              refine AllReadyG.cons rfl (by rfl) (fun K hK => ?_) ?_
              rotate_left
              exact AllReadyG.nil
              go_simp
              refine hK.out _ _ (fun _ => HS.out _ HQ2.out) ?_
              clear hK K
              refine wpAnyG_ready (rs := [14]) (by kernel_rfl) (by simp) ?_
              refine AllReadyG.cons rfl (by rfl) (fun K hK => ?_) ?_
              rotate_left
              exact AllReadyG.nil
              go_simp
              refine hK.out _ _ (fun _ => HS.out _ HQ2.out) ?_
              clear hK K
              refine wpAnyG_ready (rs := [15]) (by kernel_rfl) (by simp) ?_
              refine AllReadyG.cons rfl (by rfl) (fun K hK => ?_) ?_
              rotate_left
              exact AllReadyG.nil
              obtain ⟨n3, n4⟩ := HB.out w2 HQ2.out
              go_simp
              refine hK.out _ _ (fun h => absurd rfl h) ?_
              clear hK K
              refine wpAnyG_done (by kernel_rfl) ?_ _
              go_wp2_with fail
              go_meet
              exact ⟨_, _, HST1.out w2 g2 cap2 (Ek.length + 1) HQ2.out hown2 rfl hX2 (fun i hi => .inr (by omega)), HQ2.out.grew.to.trans (Only.setCell _ (p := ⟨b, 1, none⟩) rfl _) (fun _ _ h => h.symm)⟩
          case rest =>
            obtain ⟨A2, c2, g2, hO2⟩ := hcut
            have HFI := hid (And.intro g2 (HFIN.out.2.trans hO2 (fun i _ h => h ▸ hFb)))
            clear g2 hO2
            go_wp2
            go_roundw
            case rel =>
              refine ⟨k + 1, by omega, by go_num, ?_, ?_, HFI.out.2⟩
              · rw [HST.out, HADDE.out]
                have e1 : ((Ek ++ [(u, x)]).length - E.length : Nat) = (Ek.length - E.length) + 1 := by simp; omega
                rw [e1]
                go_num
              · rw [HST.out, HADDE.out]
                exact ⟨_, _, HFI.out.1⟩
            case measure => simp [intOf]; omega
    · obtain rfl : k = l.length := by omega
      rw [List.take_length] at *
      have HGR := hid hGr
      have HO := hid hO
      clear hGr hO hG hfew hA hl
      go_wp2
      go_ret
      exact ⟨rfl, HGR.out.mono (fun i hi h => by rcases h with h | h; exact .inl h; exact .inr ⟨h, hi⟩), HO.out⟩
end Go.Proofs.Ytlpkolmaklnffaa
