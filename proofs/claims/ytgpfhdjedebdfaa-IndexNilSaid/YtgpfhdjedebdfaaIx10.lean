/- The walk of Sorted. -/
import Derived.Test.YtgpfhdjedebdfaaIx9
namespace Go.Proofs.Ytgpfhdjedebdfaa
open Go.RowKit Go.MapKept

theorem cellsE_map_snoc (S : List Ent) (k : Nat) (x : Ent) (hx : S[k]? = some x) : cellsE ((S.take (k + 1)).map (·.1)) = cellsE ((S.take k).map (·.1)) ++ [.int .i64 x.1.1, .int .i64 x.1.2] := by
  rw [List.take_add_one, hx]
  simp [cellsE]
set_option maxRecDepth 100000 in
set_option maxHeartbeats 2000000 in
theorem sorted_at (p : Nat) (S : List Ent) (w : World) (hI : IsIdx w p S) :
    Calls Try.prog 20 #[.pointer (some ⟨p, 0, none⟩)] w fun e W' => ∃ v, e = .returned v ∧ W'.ownsRow w.heap.size 28 2 v S.length (cellsE (S.map (·.1))) ∧ Grew w W' := by
  obtain ⟨i0, hi, hz0, hz1, hz2⟩ := info_parts info_ext
  have HI := hid (And.intro hi (And.intro hz0 (And.intro hz1 hz2)))
  have HX := hid hI
  have hlen := hI
  obtain ⟨_, _, _, _, hl⟩ := hlen
  clear hi hz0 hz1 hz2 hI
  go_enter Try.func20, Try.ntmps20
  go_wp2_with (go_at_call 21; refine (len_at p S w HX.out).mono ?_; rintro e w1 ⟨rfl, rfl⟩)
  go_loopw [7, 3] (fun i vo wr => ∃ k : Nat, k ≤ S.length ∧ i = .int .i64 k ∧ wr.ownsRow w.heap.size 28 2 vo k (cellsE ((S.take k).map (·.1))) ∧ Grew w wr) (fun i _ _ => S.length - (intOf i).toNat)
  case atStart => exact ⟨0, Nat.zero_le _, rfl, World.ownsRow_nil _ _ _ _, Only.refl _ _⟩
  case round =>
    obtain ⟨k, hk, rfl, hrow, hO⟩ := hrel
    have HH := hid (And.intro hrow hO)
    clear hrow
    have hws := hO.size
    by_cases hlt : k < S.length
    · have hb0 : (k : Int) < (S.length : Int) := by omega
      obtain ⟨x, hx⟩ : ∃ x, S[k]? = some x := ⟨_, List.getElem?_eq_getElem hlt⟩
      obtain ⟨b, o, cc, q1, q2, q3, q4⟩ := (HX.out.grew hO).at hx
      have HE := hid (cellsE_map_snoc S k x hx)
      obtain ⟨⟨x1, x2⟩, x3⟩ := x
      simp only at q2 q3 HE
      clear hO hx q4
      go_wp2_with (at_builtin; go_loud (refine wpList_append_own_at _ rfl (.tmp 10) (.tmp 19) 22 rfl w.heap.size 28 i0 _ 2 16 Try.underlying22 HI.out.1 HI.out.2.1 HI.out.2.2.1 HI.out.2.2.2 rfl (by omega) _ k (cellsE ((S.take k).map (·.1))) rfl (own_keep HH.out.1 (Only.alloc (F := fun _ => False) wr (.cells #[.int .i64 x1, .int .i64 x2] 28)) (fun _ _ h => h)) ⟨wr.heap.size, 0, none⟩ 1 1 [.int .i64 x1, .int .i64 x2] rfl rfl (news2 (heap_alloc_new _ _)) (by intro u hu; simp at hu; rcases hu with rfl | rfl <;> rfl) (by unfold maxLen; omega) (by omega) (by simp; omega) ?_; intro v8 w8 hown8 hgrow8 _ _; (have hO8 : Grew w w8 := (((Grew.to HH.out.2).trans (Only.alloc (F := fun i => w.heap.size ≤ i) wr _) (fun _ _ h => h)).trans (Only.of_grownBy (F := fun i => w.heap.size ≤ i) hgrow8 (fun i e => .inl (World.ownsRow.lt HH.out.1 i e).1)) (fun _ _ h => h)).mono (fun i hi h => by omega)); have H8 := hid (And.intro hown8 hO8)))
      go_roundw
      case rel =>
        refine ⟨k + 1, by omega, by go_num, ?_, H8.out.2⟩
        rw [HE.out]
        exact H8.out.1
      case measure => simp [intOf]; omega
    · obtain rfl : k = S.length := by omega
      go_wp2
      go_ret
      refine ⟨_, rfl, ?_, HH.out.2⟩
      have h := HH.out.1
      rw [List.take_length] at h
      exact h
theorem sorted_nil (w : World) :
    Calls Try.prog 20 #[.pointer none] w fun e W' => e = .returned (.slice none 0 0) ∧ Grew w W' := by
  go_enter Try.func20, Try.ntmps20
  go_wp2_with (go_at_call 21; refine (len_nil w).mono ?_; rintro e w1 ⟨rfl, rfl⟩)
  go_loopw [7, 3] (fun i vo wr => i = .int .i64 0 ∧ vo = .slice none 0 0 ∧ Grew w wr) (fun _ _ _ => 0)
  case atStart => exact ⟨rfl, rfl, Only.refl _ _⟩
  case round =>
    obtain ⟨rfl, rfl, hO⟩ := hrel
    have HO := hid hO
    clear hO
    go_wp2
    go_ret
    exact ⟨rfl, HO.out⟩
end Go.Proofs.Ytgpfhdjedebdfaa
