/- The walk of index.New. -/
import Derived.Test.YtgpfhdjedebdfaaIx5
import Derived.Test.YtgpfhdjedebdfaaHeld
import Derived.Shelf.SlSortCmp.NoneTotal
namespace Go.Proofs.Ytgpfhdjedebdfaa
open Go.RowKit Go.MapKept

theorem info_ent : (Try.prog.info? 54).map (fun i => (i.zero, i.size, i.bytes)) = some (some (.agg #[.int .i64 0, .int .i64 0, .int .i64 0]), 3, 24) := by kernel_rfl
def RightB (l : List (Int × Int)) : Prop := ∀ e ∈ l, VE e ∧ 0 < e.2
theorem good_take {l : List (Int × Int)} {k : Nat} {e : Int × Int} (hk : l[k]? = some e) (h : ∀ x ∈ l.take k, VE x ∧ 0 < x.2) (he : VE e ∧ 0 < e.2) : ∀ x ∈ l.take (k + 1), VE x ∧ 0 < x.2 := fun x hx => by
  rw [List.take_add_one, hk] at hx
  rcases List.mem_append.1 hx with hx | hx
  · exact h x hx
  · obtain rfl : x = e := by simpa using hx
    exact he
theorem own_keep {F : Nat → Prop} {w w' : World} {base e size : Nat} {v : Value} {m : Nat} {xs : List Value} (h : w.ownsRow base e size v m xs) (k : Only F w w') (hn : ∀ i, v.ownBlock = some i → ¬ F i) : w'.ownsRow base e size v m xs := by
  refine ⟨h.1, ?_⟩
  rcases h.2 with h2 | ⟨g, cap, cur, rfl, hb, hh, r⟩
  · exact .inl h2
  · exact .inr ⟨g, cap, cur, rfl, hb, k.heap hh (hn g rfl), r⟩
theorem own_form3 {w : World} {base e n : Nat} {v : Value} {xs : List Value} (h : w.ownsRow base e 3 v n xs) : ∃ A c, v = .slice A n c := by
  rcases h.2 with ⟨rfl, rfl⟩ | ⟨g, cap, cur, rfl, _⟩
  · exact ⟨none, 0, rfl⟩
  · exact ⟨_, _, rfl⟩
theorem entsFrom_nodup : ∀ (t : List (Int × Int)) (k : Nat), (entsFrom k t).Pairwise (fun x y => x.2 < y.2)
  | [], _ => .nil
  | e :: t, k => by
    refine List.pairwise_cons.2 ⟨fun y hy => ?_, entsFrom_nodup t (k + 1)⟩
    obtain ⟨i, hi⟩ := List.mem_iff_getElem?.1 hy
    rw [entsFrom_get] at hi
    cases he : t[i]? with
    | none => rw [he] at hi; cases hi
    | some e' =>
      rw [he] at hi
      simp only [Option.map_some, Option.some.injEq] at hi
      subst hi
      show (k : Int) < ((k + 1 + i : Nat) : Int)
      omega
theorem ents_nodup (l : List (Int × Int)) : (ents l).Nodup := (entsFrom_nodup l 0).imp (fun h e => by rw [e] at h; omega)
theorem notIdx {l : List (Int × Int)} {k : Nat} {e : Int × Int} (hk : l[k]? = some e) (h : ¬ (VE e ∧ 0 < e.2)) : ¬ ∃ S, S.Perm (ents l) ∧ GoodS S := by
  rintro ⟨S, hp, hg⟩
  have hm : (e, (k : Int)) ∈ S := hp.mem_iff.2 (mem_ents.2 ⟨k, hk, rfl⟩)
  exact h (hg.2 _ hm)
theorem good_of_next {S : List Ent} (hs : S.Pairwise (fun x y => x.1.1 ≤ y.1.1)) (hv : ∀ x ∈ S, VE x.1 ∧ 0 < x.1.2) (h : ∀ i x y, S[i]? = some x → S[i + 1]? = some y → x.1.1 + x.1.2 ≤ y.1.1) : GoodS S := by
  refine ⟨List.pairwise_iff_getElem.2 fun i j hi hj hij => ?_, hv⟩
  have h1 := h i S[i] S[i + 1] (List.getElem?_eq_getElem hi) (List.getElem?_eq_getElem (by omega))
  rcases Nat.lt_or_eq_of_le (show i + 1 ≤ j from hij) with hlt | he
  · have h2 := List.pairwise_iff_getElem.1 hs (i + 1) j (by omega) hj hlt
    omega
  · subst he
    exact h1
theorem no_next {l : List (Int × Int)} {S' : List Ent} (hp' : S'.Perm (ents l)) (hs : S'.Pairwise (fun x y => x.1.1 ≤ y.1.1)) {i : Nat} {x y : Ent} (hx : S'[i]? = some x) (hy : S'[i + 1]? = some y) (hlt : y.1.1 < x.1.1 + x.1.2) : ¬ ∃ S, S.Perm (ents l) ∧ GoodS S := by
  rintro ⟨S, hp, hg⟩
  have hnd : S'.Nodup := hp'.nodup_iff.2 (ents_nodup l)
  obtain ⟨hi, hxe⟩ := List.getElem?_eq_some_iff.1 hx
  obtain ⟨hj, hye⟩ := List.getElem?_eq_some_iff.1 hy
  have hne : x ≠ y := by
    rw [← hxe, ← hye]
    exact List.pairwise_iff_getElem.1 hnd i (i + 1) hi hj (by omega)
  have hle : x.1.1 ≤ y.1.1 := by
    rw [← hxe, ← hye]
    exact List.pairwise_iff_getElem.1 hs i (i + 1) hi hj (by omega)
  have hxS : x ∈ S := (hp'.trans hp.symm).mem_iff.1 (List.mem_of_getElem? hx)
  have hyS : y ∈ S := (hp'.trans hp.symm).mem_iff.1 (List.mem_of_getElem? hy)
  obtain ⟨a, ha, hxa⟩ := List.mem_iff_getElem.1 hxS
  obtain ⟨b, hb, hyb⟩ := List.mem_iff_getElem.1 hyS
  have h2 := (hg.2 y hyS).2
  rcases Nat.lt_trichotomy a b with h | h | h
  · have := List.pairwise_iff_getElem.1 hg.1 a b ha hb h
    rw [hxa, hyb] at this
    omega
  · subst h
    exact hne (hxa.symm.trans hyb)
  · have := List.pairwise_iff_getElem.1 hg.1 b a hb ha h
    rw [hxa, hyb] at this
    omega
theorem news3 {w : World} {b : Nat} {x y z : Value} {t : TypeId} (h : w.heap[b]? = some (.cells #[x, y, z] t (0, 0))) : ∀ j u, [x, y, z][j]? = some u → w.cell? ((⟨b, 0, none⟩ : Addr).add j) = some u := by
  intro j u hu
  have hadd : (⟨b, 0, none⟩ : Addr).add j = ⟨b, 0 + j, none⟩ := by unfold Addr.add; split <;> simp_all
  rw [hadd]
  unfold World.cell?
  simp only [h]
  simpa using hu
theorem sortnil_at (A : Option Addr) (c : Nat) (f : Value) (w : World) : Calls Try.prog 31 #[.slice A 0 c, f] w fun e w' => e = .returned (.tuple #[]) ∧ w' = w := Go.Proofs.AnyF.slices_SortFunc_none Try.laysSortF A c f w
set_option maxRecDepth 100000 in
set_option maxHeartbeats 4000000 in
theorem new_at (A : Option Addr) (c : Nat) (l : List (Int × Int)) (w : World) (hl : SlE w A l) (hlo : ∀ e ∈ l, okE e) (hll : l.length ≤ 1048576) :
    Calls Try.prog 11 #[.slice A l.length c] w fun e w' => Grew w w' ∧ ((∃ p S, e = .returned (.pointer (some ⟨p, 0, none⟩)) ∧ S.Perm (ents l) ∧ GoodS S ∧ IsIdx w' p S) ∨ (e = .returned (.pointer none) ∧ ¬ ∃ S, S.Perm (ents l) ∧ GoodS S)) := by
  have HP := hid (And.intro hl hlo)
  obtain ⟨i0, hi0, hz0, hz1, hz2⟩ := info_parts info_ent
  have HI := hid (And.intro hi0 (And.intro hz0 (And.intro hz1 hz2)))
  have HG0 := hid (Only.alloc (F := fun _ => False) w (.cells #[.slice none 0 0] 52))
  have HC0 := hid (And.intro (heap_alloc_new w (.cells #[.slice none 0 0] 52)) (show (w.alloc (.cells #[.slice none 0 0] 52)).heap.size = w.heap.size + 1 by simp))
  clear hl hlo hi0 hz0 hz1 hz2
  go_enter Try.func11, Try.ntmps11
  go_wp2_with fail
  generalize w.alloc (.cells #[.slice none 0 0] 52) = W1 at *
  have hs1 := HC0.out.2
  generalize hp : w.heap.size = p at *
  have HPP := hid hp
  clear hp
  go_loopw [11] (fun i wr => ∃ k : Nat, k ≤ l.length ∧ i = .int .i64 k ∧ Hid (∀ e ∈ l.take k, VE e ∧ 0 < e.2) ∧ (∃ vo, wr.heap[p]? = some (.cells #[vo] 52 (0, 0)) ∧ wr.ownsRow (p + 1) 54 3 vo k (cellsT (ents (l.take k)))) ∧ Only (fun i => p ≤ i) W1 wr) (fun i _ => l.length - (intOf i).toNat)
  case atStart => exact ⟨0, Nat.zero_le _, rfl, hid (by simp), ⟨_, HC0.out.1, ⟨by simp [cellsT, ents, entsFrom], .inl ⟨rfl, rfl⟩⟩⟩, Only.refl _ _⟩
  case round =>
    obtain ⟨k, hk, rfl, hgood, ⟨vo, hx, hrow⟩, hO⟩ := hrel
    obtain ⟨Ao, co, rfl⟩ := own_form3 hrow
    have hOs := hO.size
    have HGW : Hid (Grew w wr) := hid ((((Grew.to HG0.out).trans hO (fun _ _ h => h)).mono (fun i hi h => by rw [HPP.out] at hi; omega)))
    have HH := hid (And.intro hx (And.intro hrow hO))
    have k0 := cell_of_one hx
    clear hx hrow hO
    by_cases hlt : k < l.length
    · have hb0 : (k : Int) < (l.length : Int) := by omega
      obtain ⟨bl, off, rfl, hcell⟩ := (HP.out.1.grew HGW.out) (by omega)
      obtain ⟨c1, c2⟩ := hcell k hlt
      obtain ⟨e, he⟩ : ∃ e, l[k]? = some e := ⟨_, List.getElem?_eq_getElem hlt⟩
      simp only [he, Option.getD_some] at c1 c2
      have HE := hid (And.intro he (HP.out.2 e (List.mem_of_getElem? he)))
      obtain ⟨a, b⟩ := e
      simp only at c1 c2
      have HGA := hid (Only.alloc (F := fun _ => False) wr (.cells #[.int .i64 a, .int .i64 b] 28))
      have HEC := hid (cells2 wr (.int .i64 a) (.int .i64 b) 28)
      obtain ⟨v, hv⟩ : ∃ v : Bool, veB (a, b) = v := ⟨_, rfl⟩
      have HV := hid hv
      have CV : Hid (∀ W, Calls Try.prog 30 #[.agg #[.int .i64 a, .int .i64 b]] W fun e w' => e = .returned (.bool v) ∧ Grew W w') := hid (fun W => by
        have h := valid_is a b W HE.out.2.1 HE.out.2.2
        rw [HV.out] at h
        exact h)
      clear hcell he hv
      cases v with
      | false =>
        go_wp2_with (go_at_call 30; refine (CV.out _).mono ?_; rintro e wv ⟨rfl, hgv⟩)
        go_ret
        refine ⟨Grew.trans HGW.out (Grew.trans HGA.out hgv), .inr ⟨rfl, notIdx HE.out.1 (fun h => ?_)⟩⟩
        have := veB_iff.2 h.1
        rw [HV.out] at this
        cases this
      | true =>
        have hve := veB_iff.1 HV.out
        by_cases hb : b = 0
        · have hbz : (b == 0) = true := by simp [hb]
          have HB0 := hid hb
          clear hve hb
          go_wp2_with (go_at_call 30; refine (CV.out _).mono ?_; rintro e wv ⟨rfl, hgv⟩; have hev1 := hgv.cell HEC.out.1 (fun h => h); have hev2 := hgv.cell HEC.out.2 (fun h => h))
          go_ret
          exact ⟨Grew.trans HGW.out (Grew.trans HGA.out hgv), .inr ⟨rfl, notIdx HE.out.1 (fun h => by have h1 : 0 < b := h.2; rw [HB0.out] at h1; omega)⟩⟩
        · have hbz : (b == 0) = false := by simpa using hb
          have HB0 : Hid (VE (a, b) ∧ 0 < b) := hid ⟨hve, by have h1 : 0 ≤ b := hve.2.1; omega⟩
          clear hve hb
          go_wp2_with (go_at_call 30; refine (CV.out _).mono ?_; rintro e wv ⟨rfl, hgv⟩; have hev1 := hgv.cell HEC.out.1 (fun h => h); have hev2 := hgv.cell HEC.out.2 (fun h => h))
          have HGV := hid (Grew.trans HGA.out hgv)
          have HFB : Hid (∀ i, (Value.slice Ao k co).ownBlock = some i → p + 1 ≤ i ∧ i < wr.heap.size) := hid (fun i h => World.ownsRow.lt HH.out.2.1 i h)
          have HS : Hid (∀ w', Only (fun i => p + 1 ≤ i ∧ i < wr.heap.size) wv w' → w'.cell? ⟨p, 0, none⟩ = some (.slice Ao k co) ∧ w'.cell? ⟨wr.heap.size, 0, none⟩ = some (.int .i64 a) ∧ w'.cell? ⟨wr.heap.size, 1, none⟩ = some (.int .i64 b)) :=
            hid (fun w' h => ⟨h.cell (HGV.out.cell (cell_of_one HH.out.1) (fun h => h)) (by show ¬ (p + 1 ≤ p ∧ _); omega), h.cell hev1 (by show ¬ (_ ∧ wr.heap.size < wr.heap.size); omega), h.cell hev2 (by show ¬ (_ ∧ wr.heap.size < wr.heap.size); omega)⟩)
          have hsv := HGV.out.size
          clear hgv hev1 hev2
          refine wp_region_G (by kernel_rfl) 12 (fun w' => w'.cell? ⟨p, 0, none⟩ = some (.slice Ao k co) ∧ w'.cell? ⟨wr.heap.size, 0, none⟩ = some (.int .i64 a) ∧ w'.cell? ⟨wr.heap.size, 1, none⟩ = some (.int .i64 b)) (HS.out _ (Only.drew _)) (fun hHeld => ?_)
          refine wpAnyG_take (i := 0) (v := ?_) rfl (by kernel_rfl) (by kernel_rfl) (by kernel_rfl) (by kernel_rfl) (fun _ _ _ h => h) (Or.inl ⟨by rfl, ?_⟩) hHeld ?_
          rotate_left
          focus (intro wz hz; obtain ⟨z1, z2, z3⟩ := hz; go_simp; try with_reducible rfl)
          refine wpAnyG_take (i := 1) (v := ?_) rfl (by kernel_rfl) (by kernel_rfl) (by kernel_rfl) (by kernel_rfl) (fun _ _ _ h => h) (Or.inl ⟨by rfl, ?_⟩) hHeld ?_
          rotate_left
          focus (intro wz hz; obtain ⟨z1, z2, z3⟩ := hz; go_simp; try with_reducible rfl)
          refine wpAnyG_take (i := 2) (v := ?_) rfl (by kernel_rfl) (by kernel_rfl) (by kernel_rfl) (by kernel_rfl) (fun _ _ _ h => h) (Or.inl ⟨by rfl, ?_⟩) hHeld ?_
          rotate_left
          focus (intro wz hz; obtain ⟨z1, z2, z3⟩ := hz; go_simp; try with_reducible rfl)
          refine wpAnyG_take (i := 3) (v := ?_) rfl (by kernel_rfl) (by kernel_rfl) (by kernel_rfl) (by kernel_rfl) (fun _ _ _ h => h) (Or.inl ⟨by rfl, ?_⟩) hHeld ?_
          rotate_left
          focus (intro wz hz; obtain ⟨z1, z2, z3⟩ := hz; go_simp; try with_reducible rfl)
          refine wpAnyG_take (i := 4) (v := ?_) rfl (by kernel_rfl) (by kernel_rfl) (by kernel_rfl) (by kernel_rfl) (fun _ _ _ h => h) (Or.inl ⟨by rfl, ?_⟩) hHeld ?_
          rotate_left
          focus (intro wz hz; obtain ⟨z1, z2, z3⟩ := hz; go_simp; try with_reducible rfl)
          refine wpAnyG_take (i := 5) (v := ?_) rfl (by kernel_rfl) (by kernel_rfl) (by kernel_rfl) (by kernel_rfl) (fun _ _ _ h => h) (Or.inl ⟨by rfl, ?_⟩) hHeld ?_
          rotate_left
          focus (intro wz hz; obtain ⟨z1, z2, z3⟩ := hz; go_simp; try with_reducible rfl)
          refine wpAnyG_take (i := 6) (v := ?_) rfl (by kernel_rfl) (by kernel_rfl) (by kernel_rfl) (by kernel_rfl) (fun _ _ _ h => h) (Or.inl ⟨by rfl, ?_⟩) hHeld ?_
          rotate_left
          focus (intro wz hz; obtain ⟨z1, z2, z3⟩ := hz; go_simp; try with_reducible rfl)
          refine wpAnyG_take (i := 7) (v := ?_) rfl (by kernel_rfl) (by kernel_rfl) (by kernel_rfl) (by kernel_rfl) (fun _ _ _ h => h) (Or.inl ⟨by rfl, ?_⟩) hHeld ?_
          rotate_left
          focus (intro wz hz; obtain ⟨z1, z2, z3⟩ := hz; go_simp; try with_reducible rfl)
          clear hHeld
          refine wpAnyG_ready (rs := [8]) (by kernel_rfl) (by simp) ?_
          refine AllReadyG.cons rfl (by rfl) (fun K hK => ?_) ?_
          rotate_left
          exact AllReadyG.nil
          go_simp
          have HG8 : Hid (Grew wv (wv.alloc (.cells #[.int .i64 a, .int .i64 b, .int .i64 k] 54)).drew) := hid (Grew.trans (Only.alloc _ _) (Only.drew _))
          have hn8 := heap_alloc_new wv (.cells #[.int .i64 a, .int .i64 b, .int .i64 k] 54)
          have HN8 : Hid ((wv.alloc (.cells #[.int .i64 a, .int .i64 b, .int .i64 k] 54)).drew.heap[wv.heap.size]? = some (.cells #[.int .i64 a, .int .i64 b, .int .i64 k] 54 (0, 0)) ∧ (wv.alloc (.cells #[.int .i64 a, .int .i64 b, .int .i64 k] 54)).drew.heap.size = wv.heap.size + 1) := hid ⟨hn8, by show (wv.alloc _).heap.size = _; simp⟩
          clear hn8
          refine hK.out _ _ (fun _ => HS.out _ (Grew.to HG8.out)) ?_
          clear hK K
          generalize (wv.alloc (.cells #[.int .i64 a, .int .i64 b, .int .i64 k] 54)).drew = w8 at *
          refine wpAnyG_ready (rs := [9]) (by kernel_rfl) (by simp) ?_
          refine AllReadyG.cons rfl (by rfl) (fun K hK => ?_) ?_
          rotate_left
          exact AllReadyG.nil
          have hs8 := HN8.out.2
          refine wp_append_own _ (.tmp 28) (.tmp 32) 50 (by rfl) (p + 1) 54 i0 _ 3 24 Try.underlying50 HI.out.1 HI.out.2.1 HI.out.2.2.1 HI.out.2.2.2 rfl (by omega) _ k (cellsT (ents (l.take k))) rfl (own_keep HH.out.2.1 (Grew.trans HGV.out HG8.out) (fun _ _ h => h)) ⟨wv.heap.size, 0, none⟩ 1 1 [.int .i64 a, .int .i64 b, .int .i64 k] rfl rfl (news3 HN8.out.1) (by intro u hu; simp at hu; rcases hu with rfl | rfl | rfl <;> rfl) (by unfold maxLen; omega) (by omega) (by omega) ?_
          intro v9 w9 hown9 hgrow9 _
          obtain ⟨A9, c9, rfl⟩ := own_form3 hown9
          have HO9 : Hid (Only (fun i => p + 1 ≤ i ∧ i < wr.heap.size) wv w9) := hid ((Grew.to HG8.out).trans (Only.of_grownBy hgrow9 (fun i e => .inl (HFB.out i e))) (fun _ _ h => h))
          have HN9 := hid hown9
          clear hown9 hgrow9
          refine hK.out _ _ (fun _ => HS.out _ HO9.out) ?_
          clear hK K
          refine wpAnyG_ready (rs := [10]) (by kernel_rfl) (by simp) ?_
          refine AllReadyG.cons rfl (by rfl) (fun K hK => ?_) ?_
          rotate_left
          exact AllReadyG.nil
          go_simp
          refine hK.out _ _ (fun _ => HS.out _ HO9.out) ?_
          clear hK K
          refine wpAnyG_ready (rs := [11]) (by kernel_rfl) (by simp) ?_
          refine AllReadyG.cons rfl (by rfl) (fun K hK => ?_) ?_
          rotate_left
          exact AllReadyG.nil
          go_simp
          refine hK.out _ _ (fun _ => HS.out _ HO9.out) ?_
          clear hK K
          have HX9 : Hid (w9.heap[p]? = some (.cells #[.slice Ao k co] 52 (0, 0))) := hid (HO9.out.heap (HGV.out.heap HH.out.1 (fun h => h)) (by show ¬ (p + 1 ≤ p ∧ _); omega))
          have n3 := cell_of_one HX9.out
          have n4 := free_of_one HX9.out
          refine wpAnyG_ready (rs := [12]) (by kernel_rfl) (by simp) ?_
          refine AllReadyG.cons rfl (by rfl) (fun K hK => ?_) ?_
          rotate_left
          exact AllReadyG.nil
          go_simp
          refine hK.out _ _ (fun h => absurd rfl h) ?_
          clear hK K
          refine wpAnyG_done (by kernel_rfl) ?_ _
          go_wp2
          go_roundw
          case rel =>
            refine ⟨k + 1, by omega, by go_num, hid (good_take HE.out.1 hgood.out HB0.out), ⟨_, one_setCell HX9.out, ?_⟩, ?_⟩
            · have e1 : cellsT (ents (l.take (k + 1))) = cellsT (ents (l.take k)) ++ [.int .i64 a, .int .i64 b, .int .i64 k] := by
                rw [List.take_add_one, HE.out.1]
                show cellsT (ents (l.take k ++ [(a, b)])) = _
                rw [ents_snoc, cellsT_snoc, List.length_take, Nat.min_eq_left (by omega)]
                rfl
              rw [e1]
              refine ownsRow_setCell_other HN9.out ?_ _
              intro h
              have := (World.ownsRow.lt HN9.out p h).1
              omega
            · exact ((HH.out.2.2.trans HGV.out (fun _ _ h => h.elim)).trans HO9.out (fun i _ h => by have := h.1; omega)).trans (Only.setCell (F := fun i => p ≤ i) w9 (p := ⟨p, 0, none⟩) (Nat.le_refl _) _) (fun _ _ h => h)
          case measure => simp [intOf]; omega
    · obtain rfl : k = l.length := by omega
      have hrow := HH.out.2.1
      have hgd := hgood.out
      rw [List.take_length] at hrow hgd
      have HR := hid (And.intro hrow hgd)
      have CS : Hid (Calls Try.prog 31 #[.slice Ao l.length co, .func (.func 32) #[] #[]] wr fun e w' => e = .returned (.tuple #[]) ∧ ∃ S', S'.Perm (ents l) ∧ S'.Pairwise (fun x y => x.1.1 ≤ y.1.1) ∧ SlT w' Ao S' ∧ Only (fun i => p + 1 ≤ i) wr w') := hid (by
        by_cases h0 : l.length = 0
        · obtain rfl := List.eq_nil_of_length_eq_zero h0
          refine (sortnil_at Ao co _ wr).mono ?_
          rintro e w' ⟨rfl, rfl⟩
          exact ⟨rfl, [], .refl _, .nil, fun h => by simp at h, Only.refl _ _⟩
        · refine (sort_at (p + 1) l.length co Ao (ents l) wr HR.out.1 (by rw [ents_length]; omega) (by rw [ents_length]; exact hll)).mono ?_
          rintro e w' ⟨rfl, S', h1, h2, h3, h4⟩
          exact ⟨rfl, S', h1, h2, h3, h4.mono (fun i hi h => (World.ownsRow.lt HR.out.1 i h).1)⟩)
      clear hrow hgd
      go_wp2_with (go_at_call 31; have cX := CS.out; with_reducible refine cX.mono ?_; clear cX; rintro e w2 ⟨rfl, S', hp', hst, hsl, hO2⟩; have k2 := hO2.cell k0 (by show ¬ (p + 1 ≤ p); omega))
      have HLS : Hid (S'.length = l.length) := hid (by rw [hp'.length_eq, ents_length])
      have H2 := hid (And.intro hp' (And.intro hst (And.intro hsl (And.intro (hO2.heap HH.out.1 (by show ¬ (p + 1 ≤ p); omega)) (show Grew w w2 from ((Grew.to HGW.out).trans hO2 (fun _ _ h => h)).mono (fun i hi h => by rw [HPP.out] at hi; omega))))))
      have HVS : Hid (∀ x ∈ S', VE x.1 ∧ 0 < x.1.2) := hid (fun x hx => by
        obtain ⟨i, hi, _⟩ := mem_ents.1 (hp'.mem_iff.1 hx)
        exact HR.out.2 x.1 (List.mem_of_getElem? hi))
      clear hp' hst hsl hO2 CS k0
      obtain ⟨wo, rfl⟩ : ∃ wo : World, wo = wr := ⟨_, rfl⟩
      go_loopw [47] (fun i wr => ∃ k : Nat, k ≤ l.length ∧ i = .int .i64 k ∧ Hid (∀ i x y, i + 1 < k → S'[i]? = some x → S'[i + 1]? = some y → x.1.1 + x.1.2 ≤ y.1.1) ∧ Grew w2 wr) (fun i _ => l.length - (intOf i).toNat)
      case atStart => exact ⟨0, Nat.zero_le _, rfl, hid (fun i x y h => by omega), Only.refl _ _⟩
      case round =>
        obtain ⟨k, hk, rfl, hnx, hO⟩ := hrel
        have HO := hid hO
        have k3 := hO.cell k2 (fun h => h)
        clear hO
        by_cases hlt : k < l.length
        · have hb0 : (k : Int) < (l.length : Int) := by omega
          by_cases hk0 : k = 0
          · subst hk0
            go_wp2_with fail
            go_quiet (fail)
            go_wp2
            go_roundw
            case rel => exact ⟨1, by omega, by go_num, hid (fun i x y h => by omega), Grew.trans HO.out (Only.drewN _ _)⟩
            case measure => simp [intOf]; omega
          · obtain ⟨m, hm⟩ : ∃ m, k = m + 1 := ⟨k - 1, by omega⟩
            have HK := hid hm
            have hk1 : (1 : Int) ≤ (k : Int) := by omega
            have hk2 : 0 < k := by omega
            have hkn : (k : Int) ≤ 1048576 := by omega
            have hb2 : (m : Int) < (l.length : Int) := by omega
            have hb3 : m < l.length := by omega
            have hkw : IntKind.i64.wrap ((k : Int) - 1) = (m : Int) := by rw [IntWalk.i64_in _ (by omega)]; omega
            obtain ⟨x, hx⟩ : ∃ x, S'[m]? = some x := ⟨_, List.getElem?_eq_getElem (by have := HLS.out; omega)⟩
            obtain ⟨y, hy⟩ : ∃ y, S'[k]? = some y := ⟨_, List.getElem?_eq_getElem (by have := HLS.out; omega)⟩
            obtain ⟨bl, off, rfl, hcell⟩ := (H2.out.2.2.1.grew HO.out) (by have := HLS.out; omega)
            have q1 := (hcell k (by have := HLS.out; omega)).1
            have q2 := (hcell m (by have := HLS.out; omega)).1
            have q3 := (hcell m (by have := HLS.out; omega)).2.1
            simp only [hx, hy, Option.getD_some] at q1 q2 q3
            have HXY := hid (And.intro hx hy)
            have hvx := (HVS.out x (List.mem_of_getElem? hx)).1
            obtain ⟨v1, v2, v3⟩ := hvx
            have HS : Hid (∀ w', Grew wr w' → w'.cell? ⟨p, 0, none⟩ = some (.slice (some ⟨bl, off, none⟩) l.length co) ∧ w'.cell? ⟨bl, off + k * 3, none⟩ = some (.int .i64 y.1.1) ∧ w'.cell? ⟨bl, off + m * 3, none⟩ = some (.int .i64 x.1.1) ∧ w'.cell? ⟨bl, off + m * 3 + 1, none⟩ = some (.int .i64 x.1.2)) :=
              hid (fun w' h => ⟨h.cell k3 (fun h => h), h.cell q1 (fun h => h), h.cell q2 (fun h => h), h.cell q3 (fun h => h)⟩)
            clear hcell hx hy q1 q2 q3 hm hk0
            have HD : Hid (∀ r : Bool, decide (y.1.1 < x.1.1 + x.1.2) = r → True) := hid (fun _ _ => trivial)
            obtain ⟨⟨x1, x2⟩, x3⟩ := x
            obtain ⟨⟨y1, y2⟩, y3⟩ := y
            simp only at v1 v2 v3 HS HXY
            by_cases hov : y1 < x1 + x2
            · have hd : decide (y1 < x1 + x2) = true := by simpa using hov
              have HOV := hid hov
              clear hov HD
              go_wp2_with fail
              go_region_held3 (fun w' => w'.cell? ⟨p, 0, none⟩ = some (.slice (some ⟨bl, off, none⟩) l.length co) ∧ w'.cell? ⟨bl, off + k * 3, none⟩ = some (.int .i64 y1) ∧ w'.cell? ⟨bl, off + m * 3, none⟩ = some (.int .i64 x1) ∧ w'.cell? ⟨bl, off + m * 3 + 1, none⟩ = some (.int .i64 x2))
                (first
                  | exact HS.out _ (Only.drew _)
                  | exact HS.out _ ha)
                (first
                  | (go_at_call 34; refine (end_at x1 x2 _ v1 v2 v3).mono ?_; rintro e wa ⟨rfl, ha0⟩; have ha : Grew wr wa := Grew.trans (Only.drew _) ha0))
              all_goals
                go_wp2
                go_ret
                exact ⟨Grew.trans H2.out.2.2.2.2 (Grew.trans HO.out ha), .inr ⟨rfl, no_next H2.out.1 H2.out.2.1 HXY.out.1 (by rw [← HK.out]; exact HXY.out.2) HOV.out⟩⟩
            · have hd : decide (y1 < x1 + x2) = false := by simpa using hov
              have HOV : Hid (x1 + x2 ≤ y1) := hid (by omega)
              clear hov HD
              go_wp2_with fail
              go_region_held3 (fun w' => w'.cell? ⟨p, 0, none⟩ = some (.slice (some ⟨bl, off, none⟩) l.length co) ∧ w'.cell? ⟨bl, off + k * 3, none⟩ = some (.int .i64 y1) ∧ w'.cell? ⟨bl, off + m * 3, none⟩ = some (.int .i64 x1) ∧ w'.cell? ⟨bl, off + m * 3 + 1, none⟩ = some (.int .i64 x2))
                (first
                  | exact HS.out _ (Only.drew _)
                  | exact HS.out _ ha)
                (first
                  | (go_at_call 34; refine (end_at x1 x2 _ v1 v2 v3).mono ?_; rintro e wa ⟨rfl, ha0⟩; have ha : Grew wr wa := Grew.trans (Only.drew _) ha0))
              all_goals
                go_wp2
                go_roundw
                case rel =>
                  refine ⟨k + 1, by omega, by go_num, hid (fun i x y h h1 h2 => ?_), Grew.trans HO.out ha⟩
                  rcases Nat.lt_or_eq_of_le (show i ≤ m by have := HK.out; omega) with h3 | h3
                  · exact hnx.out i x y (by have := HK.out; omega) h1 h2
                  · subst h3
                    rw [HXY.out.1] at h1
                    rw [← HK.out, HXY.out.2] at h2
                    cases h1
                    cases h2
                    exact HOV.out
                case measure => simp [intOf]; omega
        · obtain rfl : k = l.length := by omega
          have HG : Hid (GoodS S') := hid (good_of_next H2.out.2.1 HVS.out (fun i x y h1 h2 => hnx.out i x y (by have h3 := (List.getElem?_eq_some_iff.1 h2).1; have := HLS.out; omega) h1 h2))
          go_wp2
          go_ret
          have hix : IsIdx wr p S' := ⟨Ao, co, by rw [HLS.out]; exact HO.out.heap H2.out.2.2.2.1 (fun h => h), H2.out.2.2.1.grew HO.out, by rw [HLS.out]; exact hll⟩
          refine ⟨Grew.trans H2.out.2.2.2.2 HO.out, .inl ?_⟩
          first
            | exact ⟨p, S', rfl, H2.out.1, HG.out, hix⟩
            | exact ⟨p, rfl, S', H2.out.1, HG.out, hix⟩
end Go.Proofs.Ytgpfhdjedebdfaa
