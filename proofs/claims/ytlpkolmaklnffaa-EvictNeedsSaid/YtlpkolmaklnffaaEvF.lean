/- The walk of the reference's Needed. -/
import Derived.Test.YtlpkolmaklnffaaEvE
namespace Go.Proofs.Ytlpkolmaklnffaa
open Go.RowKit Go.MapKept

set_option maxRecDepth 100000 in
set_option maxHeartbeats 2000000 in
theorem rneeded_at (b N : Nat) (E : List (Int × Int)) (F : Nat → Prop) (A : Option Addr) (c : Nat) (l : List Int) (w : World) (hG : IsRef w F b N E) (hl : SlI w A l) (hll : l.length ≤ 1048576) (hfew : E.length ≤ 1048576) (hN : N ≤ 1048576) (hE : Valid N E) (ys : List Int) (hy : IsNeeded E N l ys) :
    Calls Try.prog 63 #[.pointer (some ⟨b, 0, none⟩), .slice A l.length c] w fun e w' => ∃ A' c', e = .returned (.slice A' ys.length c') ∧ SlI w' A' ys ∧ Grew w w' := by
  have HP := hid (And.intro hG (And.intro hl (And.intro hy (And.intro hE hy.eq_filter))))
  obtain ⟨i0, hi0, hz0, hz1, hz2⟩ := info_parts info_int
  have HI := hid (And.intro hi0 (And.intro hz0 (And.intro hz1 hz2)))
  clear hG hl hy hE hi0 hz0 hz1 hz2
  go_enter Try.func63, Try.ntmps63
  go_wp2_with fail
  go_loopw [5, 6] (fun ov i wr => ∃ k : Nat, k ≤ N ∧ i = .int .i64 k ∧ wr.ownsRow w.heap.size 3 1 ov (((verts N).take k).filter (fun x => decide (x ∈ ys))).length ((((verts N).take k).filter (fun x => decide (x ∈ ys))).map (Value.int .i64)) ∧
      Only (fun i => w.heap.size ≤ i) w wr) (fun _ i _ => N - (intOf i).toNat)
  case atStart => exact ⟨0, Nat.zero_le _, rfl, ⟨by simp, .inl ⟨rfl, by simp⟩⟩, Only.refl _ _⟩
  case round =>
    obtain ⟨k, hk, rfl, hrow, hO⟩ := hrel
    have hOs := hO.size
    have hRw := HP.out.1.grew (Fresh.grew hO)
    have k0 : wr.cell? ⟨b, 0, none⟩ = some (.int .i64 N) := by
      obtain ⟨A', c', g⟩ := hRw
      exact cell_of_row _ _ 0 _ _ _ g.blk
    have HH := hid (And.intro hrow (And.intro hO (And.intro (Fresh.grew hO) hRw)))
    clear hrow hO hRw
    by_cases hlt : k < N
    · have hb0 : (k : Int) < (N : Int) := by omega
      have HTK := hid (cyc_take hlt ys)
      have hlen := cyc_len N k ys
      generalize ((verts N).take k).filter (fun x => decide (x ∈ ys)) = L at *
      have HMO : Hid ((k : Int) ∈ ys ↔ (k : Int) ∈ l ∧ ¬ Acyc E (others l k)) := hid (by
        rw [HP.out.2.2.1.mem]
        exact ⟨fun h => h.2, fun h => ⟨⟨by omega, by omega⟩, h⟩⟩)
      by_cases hin : (k : Int) ∈ l
      · have c1 := in14_is A c l k wr true (by simpa using hin) (HP.out.2.1.grew HH.out.2.2.1) (by omega)
        have HIN := hid hin
        clear hin
        go_wp2_with (go_at_call 82; with_reducible refine c1.mono ?_; clear c1; rintro e w1 ⟨rfl, rfl⟩)
        obtain ⟨wo, rfl⟩ : ∃ wo : World, wo = wr := ⟨_, rfl⟩
        go_loopw [7, 8] (fun xv i wr => ∃ m : Nat, m ≤ l.length ∧ i = .int .i64 m ∧ wr.ownsRow wo.heap.size 3 1 xv (others (l.take m) k).length ((others (l.take m) k).map (Value.int .i64)) ∧ Only (fun i => wo.heap.size ≤ i) wo wr) (fun _ i _ => l.length - (intOf i).toNat)
        case atStart => exact ⟨0, Nat.zero_le _, rfl, ⟨by simp [others], .inl ⟨rfl, by simp [others]⟩⟩, Only.refl _ _⟩
        case round =>
          obtain ⟨m, hm, rfl, hrow, hO⟩ := hrel
          have hO2s := hO.size
          have HJ := hid (And.intro hrow (And.intro hO (Fresh.grew hO)))
          have HW := hid (Grew.trans HH.out.2.2.1 (Fresh.grew hO))
          clear hrow hO
          by_cases hlt2 : m < l.length
          · have hb1 : (m : Int) < (l.length : Int) := by omega
            obtain ⟨bl, off, rfl, hcell⟩ := (HP.out.2.1.grew HW.out) (by omega)
            have hc := hcell m hlt2
            obtain ⟨x, hx⟩ : ∃ x, l[m]? = some x := ⟨_, List.getElem?_eq_getElem hlt2⟩
            simp only [hx, Option.getD_some] at hc
            have HX : Hid (others (l.take (m + 1)) k = others (l.take m) k ++ (if x = k then [] else [x])) := hid (by rw [List.take_add_one, hx]; exact others_snoc _ _ _)
            have hol : (others (l.take m) k).length ≤ m := Nat.le_trans (others_le _ _) (by rw [List.length_take]; omega)
            clear hcell hx
            by_cases hxk : x = (k : Int)
            · have hne : (x != (k : Int)) = false := by simp [hxk]
              have HX2 : Hid (others (l.take (m + 1)) k = others (l.take m) k) := hid (by rw [HX.out, if_pos hxk, List.append_nil])
              clear hxk HX
              go_wp2
              go_roundw
              case rel => exact ⟨m + 1, by omega, by go_num, by rw [HX2.out]; exact HJ.out.1, HJ.out.2.1⟩
              case measure => simp [intOf]; omega
            · have hne : (x != (k : Int)) = true := by simp [hxk]
              have HX2 : Hid (others (l.take (m + 1)) k = others (l.take m) k ++ [x]) := hid (by rw [HX.out, if_neg hxk])
              clear hxk HX
              generalize others (l.take m) k = O at *
              go_wp2_with (at_builtin; go_loud (refine wpList_append_own_at _ rfl (.tmp 33) (.tmp 38) 29 rfl wo.heap.size 3 i0 _ 1 8 Try.underlying29 HI.out.1 HI.out.2.1 HI.out.2.2.1 HI.out.2.2.2 rfl (by omega) _ O.length (O.map (Value.int .i64)) rfl (own_only HJ.out.1 (Only.alloc (F := fun _ => False) _ _) (fun _ _ h => h)) _ 1 1 [.int .i64 x] rfl rfl (new_one _ _ _) (by simp [Value.oneCell']) (by unfold maxLen; omega) (by omega) (by simp; omega) ?_; intro v8 w8 hown8 hgrow8 _ hl8))
              have k8 : Only (fun i => wo.heap.size ≤ i) (wr.alloc (.cells #[.int .i64 x] 3)) w8 := Only.of_grownBy hgrow8 (fun i e => .inl (World.ownsRow.lt HJ.out.1 i e).1)
              have hO8 : Only (fun i => wo.heap.size ≤ i) wo w8 := (HJ.out.2.1.trans (Only.alloc (F := fun i => wo.heap.size ≤ i) _ _) (fun _ _ h => h)).trans k8 (fun _ _ h => h)
              have H8 := hid (And.intro hown8 hO8)
              clear hown8 hgrow8 hl8 k8 hO8
              go_wp2
              go_roundw
              case rel => exact ⟨m + 1, by omega, by go_num, by rw [HX2.out]; simpa using H8.out.1, H8.out.2⟩
              case measure => simp [intOf]; omega
          · obtain rfl : m = l.length := by omega
            have hrow := HJ.out.1
            rw [List.take_length] at hrow
            have hol := others_le l k
            obtain ⟨xs2, hx2⟩ := cyc_ex HP.out.2.2.2.1 (others l k)
            have HX2 := hid (And.intro hx2 hx2.nil_iff)
            obtain ⟨Ao, co, rfl, hio⟩ := own_form hrow
            have HIO := hid hio
            clear hrow hx2 hio
            generalize others l k = O at *
            have CC : Hid (Calls Try.prog 49 #[.pointer (some ⟨b, 0, none⟩), .slice Ao O.length co] wr fun e w' => ∃ A c, e = .returned (.slice A xs2.length c) ∧ Grew wr w') := hid (by
              refine (rcyclic_at b N E F Ao co O wr (HP.out.1.grew HW.out) HIO.out (by omega) hfew hN HP.out.2.2.2.1 xs2 HX2.out.1).mono ?_
              rintro e w' ⟨v, rfl, hn, hg⟩
              obtain ⟨A, c, rfl, _⟩ := hn.form
              exact ⟨A, c, rfl, hg⟩)
            by_cases h0 : xs2 = []
            · subst h0
              have HNY : Hid ((k : Int) ∉ ys) := hid (fun h => (HMO.out.1 h).2 (HX2.out.2.1 rfl))
              go_wp2_with (go_at_call 49; have cX := CC.out; with_reducible refine cX.mono ?_; clear cX; rintro e w4 ⟨A4, c4, rfl, hg4⟩; have H4 := hid (Grew.trans HJ.out.2.2 hg4); clear hg4)
              go_roundw
              case rel => exact ⟨k + 1, by omega, by go_num, by rw [HTK.out, if_neg HNY.out, List.append_nil]; exact own_only HH.out.1 H4.out (fun _ _ h => h), HH.out.2.1.trans H4.out (fun _ _ h => h.elim)⟩
              case measure => simp [intOf]; omega
            · have HNY : Hid ((k : Int) ∈ ys) := hid (HMO.out.2 ⟨HIN.out, fun h => h0 (HX2.out.2.2 h)⟩)
              have hpos : (0 : Int) < (xs2.length : Int) := by have := List.length_pos_iff.2 h0; omega
              clear h0
              go_wp2_with (first
                | (go_at_call 49; have cX := CC.out; with_reducible refine cX.mono ?_; clear cX; rintro e w4 ⟨A4, c4, rfl, hg4⟩; have hs4 := hg4.size; have H4 := hid (Grew.trans HJ.out.2.2 hg4); clear hg4)
                | (at_builtin; go_loud (refine wpList_append_own_at _ rfl (.tmp 45) (.tmp 47) 29 rfl w.heap.size 3 i0 _ 1 8 Try.underlying29 HI.out.1 HI.out.2.1 HI.out.2.2.1 HI.out.2.2.2 rfl (by omega) _ L.length (L.map (Value.int .i64)) rfl (own_only HH.out.1 (Grew.trans H4.out (Only.alloc (F := fun _ => False) _ _)) (fun _ _ h => h)) _ 1 1 [.int .i64 k] rfl rfl (new_one _ _ _) (by simp [Value.oneCell']) (by unfold maxLen; omega) (by omega) (by simp; omega) ?_; intro v8 w8 hown8 hgrow8 _ hl8)))
              have k8 : Only (fun i => w.heap.size ≤ i) (w4.alloc (.cells #[.int .i64 (k : Int)] 3)) w8 := Only.of_grownBy hgrow8 (fun i e => .inl (World.ownsRow.lt HH.out.1 i e).1)
              have hO8 : Only (fun i => w.heap.size ≤ i) w w8 := ((HH.out.2.1.trans H4.out (fun _ _ h => h.elim)).trans (Only.alloc (F := fun i => w.heap.size ≤ i) _ _) (fun _ _ h => h)).trans k8 (fun _ _ h => h)
              have H8 := hid (And.intro hown8 hO8)
              clear hown8 hgrow8 hl8 k8 hO8
              go_wp2
              go_roundw
              case rel => exact ⟨k + 1, by omega, by go_num, by rw [HTK.out, if_pos HNY.out]; simpa using H8.out.1, H8.out.2⟩
              case measure => simp [intOf]; omega
      · have c1 := in14_is A c l k wr false (by simpa using hin) (HP.out.2.1.grew HH.out.2.2.1) (by omega)
        have HNY : Hid ((k : Int) ∉ ys) := hid (fun h => hin (HMO.out.1 h).1)
        clear hin
        go_wp2_with (go_at_call 82; with_reducible refine c1.mono ?_; clear c1; rintro e w1 ⟨rfl, rfl⟩)
        go_roundw
        case rel => exact ⟨k + 1, by omega, by go_num, by rw [HTK.out, if_neg HNY.out, List.append_nil]; exact HH.out.1, HH.out.2.1⟩
        case measure => simp [intOf]; omega
    · obtain rfl : k = N := by omega
      have hrow := HH.out.1
      rw [List.take_of_length_le (by simp [verts]), HP.out.2.2.2.2] at hrow
      obtain ⟨A9, c9, rfl, hi9⟩ := own_form hrow
      have H9 := hid hi9
      clear hrow hi9
      go_wp2
      go_ret
      exact ⟨A9, c9, rfl, H9.out, HH.out.2.2.1⟩
end Go.Proofs.Ytlpkolmaklnffaa
