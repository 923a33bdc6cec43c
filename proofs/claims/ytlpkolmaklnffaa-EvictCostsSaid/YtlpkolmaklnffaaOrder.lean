/- The walks of topo.Order and topo.Cyclic. -/
import Derived.Test.YtlpkolmaklnffaaRemove
import Derived.Test.YtlpkolmaklnffaaWithout
namespace Go.Proofs.Ytlpkolmaklnffaa
open Go.RowKit Go.MapKept

def ordRes (r : Bool) (o : List Int) : List Int := if r = true then o else []
set_option maxRecDepth 100000 in
set_option maxHeartbeats 1000000 in
theorem remove_nil (A : Option Addr) (c m : Nat) (w : World) :
    Calls Try.prog 73 #[.pointer none, .slice A m c] w fun e w' => ∃ md, e = .returned (.tuple #[.slice none 0 0, .map (some md)]) ∧ MapIs w' md encI okI (kvOf [] (fun _ => 0)) ∧ Grew w w' := by
  have hmm := @run_makeMap Try.prog
  have HM0 : Hid (MapIs (w.alloc (.map #[] 0)) w.heap.size encI okI (kvOf [] (fun _ => 0))) := hid (MapIs.made w encI okI)
  have HO0 : Hid (Grew w (w.alloc (.map #[] 0))) := hid (Only.alloc _ _)
  go_enter Try.func73, Try.ntmps73
  go_wp2_with (go_at_call 37; refine (len_nil _).mono ?_; rintro e w1 ⟨rfl, rfl⟩)
  clear hmm
  generalize w.alloc (.map #[] 0) = w1 at *
  go_loopw [28] (fun i wr => i = .int .i64 0 ∧ Grew w1 wr) (fun _ _ => 0)
  case atStart => exact ⟨rfl, Only.refl _ _⟩
  case round =>
    obtain ⟨rfl, hO⟩ := hrel
    have hM1 := HM0.out.only hO (fun h => h)
    have H1 := hid hO
    clear hO
    go_wp2_with (at_range; refine wpList_over rfl _ 93 _ rfl Try.underlying93 hM1 rfl ?_; intro w2 hov hg2 hs2)
    go_frame
    rw [kvOf_keys] at hov
    have H2 := hid (And.intro hov hg2)
    clear hov hg2 hs2 hM1
    generalize wr.heap.size = r at *
    obtain ⟨wo, rfl⟩ : ∃ wo : World, wo = wr := ⟨_, rfl⟩
    go_loopw [40] (fun _ wr => Over wr w.heap.size r encI okI (kvOf [] (fun _ => 0)) [] ∧ Grew w2 wr) (fun _ wr => 0)
    case atStart => exact ⟨H2.out.1, Only.refl _ _⟩
    case round =>
      obtain ⟨hov, hO⟩ := hrel
      have H3 := hid (And.intro hov.mapIs hO)
      clear hO
      go_wp2_with (at_next; refine wpList_over_next rfl _ rfl keysI rfl hov ?_ ?_)
      clear hov
      go_wp2_with (go_at_call 37; refine (len_nil _).mono ?_; rintro e w4 ⟨rfl, rfl⟩)
      obtain ⟨w4, rfl⟩ : ∃ w4 : World, w4 = wr := ⟨_, rfl⟩
      go_loopw [14, 66] (fun xv i wr => xv = .slice none 0 0 ∧ i = .int .i64 0 ∧ Grew w4 wr) (fun _ _ _ => 0)
      case atStart => exact ⟨rfl, rfl, Only.refl _ _⟩
      case round =>
        obtain ⟨rfl, rfl, hO⟩ := hrel
        have H5 := hid hO
        clear hO
        go_wp2_with fail
        obtain ⟨w5, rfl⟩ : ∃ w5 : World, w5 = wr := ⟨_, rfl⟩
        go_loopw [13, 14] (fun ov rv wr => ov = .slice none 0 0 ∧ rv = .slice none 0 0 ∧ Grew w5 wr) (fun _ _ _ => 0)
        case atStart => exact ⟨rfl, rfl, Only.refl _ _⟩
        case round =>
          obtain ⟨rfl, rfl, hO⟩ := hrel
          have H6 := hid hO
          clear hO
          go_wp2
          go_ret2
          exact ⟨_, rfl, (H3.out.1.only H5.out (fun h => h)).only H6.out (fun h => h), Grew.trans HO0.out (Grew.trans H1.out (Grew.trans H2.out.2 (Grew.trans H3.out.2 (Grew.trans H5.out H6.out))))⟩
set_option maxRecDepth 100000 in
set_option maxHeartbeats 1000000 in
theorem order_is (b N : Nat) (E : List (Int × Int)) (F : Nat → Prop) (A : Option Addr) (c : Nat) (s : List Int) (w : World) (hG : IsGraph w F b N E) (hs : SlI w A s) (hsl : s.length ≤ 9223372036854775807) (hfew : E.length ≤ 1048576)
    (o : List Int) (ho : IsOrder E N s o) (r : Bool) (hr : decide (restL N s o = []) = r) :
    Calls Try.prog 40 #[.pointer (some ⟨b, 0, none⟩), .slice A s.length c] w fun e w' => ∃ A' c', e = .returned (.tuple #[.slice A' (ordRes r o).length c', .bool r]) ∧ SlI w' A' (ordRes r o) ∧ (∀ k off, A' = some ⟨k, off, none⟩ → w.heap.size ≤ k) ∧ Grew w w' := by
  have HP := hid (And.intro hG (And.intro hs ho))
  clear hG hs ho
  cases r
  · have hne : 0 < (restL N s o).length := List.length_pos_iff.2 (show restL N s o ≠ [] by simpa using hr)
    clear hr
    go_enter Try.func40, Try.ntmps40
    go_wp2_with fail
    go_at_call 73
    refine (remove_at b N E F A c s w HP.out.1 HP.out.2.1 hsl hfew).mono ?_
    rintro e w1 ⟨vo, md, f, o', rfl, ho', hn, hM, hg⟩
    obtain rfl := ho'.unique HP.out.2.2
    have hln := fun ty => run_len_map hM Try.underlying93 ty
    rw [kvOf_length] at hln
    have H1 := hid hg
    clear hn hM hg ho'
    generalize (restL N s o').length = n at *
    go_wp2
    go_ret2
    exact ⟨none, 0, rfl, SlI.nil, (fun _ _ h => by cases h), H1.out⟩
  · have he : (restL N s o).length = 0 := List.length_eq_zero_iff.2 (by simpa using hr)
    have HE := hid he
    clear hr he
    go_enter Try.func40, Try.ntmps40
    go_wp2_with fail
    go_at_call 73
    refine (remove_at b N E F A c s w HP.out.1 HP.out.2.1 hsl hfew).mono ?_
    rintro e w1 ⟨vo, md, f, o', rfl, ho', hn, hM, hg⟩
    obtain rfl := ho'.unique HP.out.2.2
    have hln := fun ty => run_len_map hM Try.underlying93 ty
    rw [kvOf_length, HE.out] at hln
    obtain ⟨A1, c1, rfl, hi, _, _, hloc⟩ := hn.form
    have H1 := hid (And.intro hi (And.intro hloc hg))
    clear hn hM hg ho' hi hloc
    go_wp2
    go_ret2
    exact ⟨A1, c1, rfl, H1.out.1, fun k off h => (H1.out.2.1 k off h).1, H1.out.2.2⟩
set_option maxRecDepth 100000 in
theorem order_nil (A : Option Addr) (c m : Nat) (w : World) :
    Calls Try.prog 40 #[.pointer none, .slice A m c] w fun e w' => e = .returned (.tuple #[.slice none 0 0, .bool true]) ∧ Grew w w' := by
  go_enter Try.func40, Try.ntmps40
  go_wp2_with fail
  go_at_call 73
  refine (remove_nil A c m w).mono ?_
  rintro e w1 ⟨md, rfl, hM, hg⟩
  have hln := fun ty => run_len_map hM Try.underlying93 ty
  rw [kvOf_length] at hln
  have H1 := hid hg
  clear hM hg
  go_wp2
  go_ret2
  exact ⟨rfl, H1.out⟩
end Go.Proofs.Ytlpkolmaklnffaa
