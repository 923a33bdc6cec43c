/- The walks of the reference's free, Order and Cyclic (graftref13). -/
import Derived.Test.YtlpkolmaklnffaaRefW
import Derived.Test.YtlpkolmaklnffaaOrder
namespace Go.Proofs.Ytlpkolmaklnffaa
open Go.RowKit Go.MapKept

set_option maxRecDepth 100000 in
set_option maxHeartbeats 1000000 in
theorem free_is (b N : Nat) (E : List (Int × Int)) (F : Nat → Prop) (v : Int) (A : Option Addr) (c : Nat) (o : List Int) (w : World) (hG : IsRef w F b N E) (hN : N ≤ 1048576) (ho : SlI w A o) (hol : o.length ≤ 9223372036854775807)
    (r : Bool) (hr : ((verts N).filter (fun x => decide ((x, v) ∈ E))).all (fun u => decide (u ∈ o)) = r) :
    Calls Try.prog 75 #[.pointer (some ⟨b, 0, none⟩), .int .i64 v, .slice A o.length c] w fun e w' => e = .returned (.bool r) ∧ Grew w w' := by
  have HP := hid (And.intro hG (And.intro ho hr))
  clear hG ho hr
  go_enter Try.func75, Try.ntmps75
  have hLN : ((verts N).filter (fun x => decide ((x, v) ∈ E))).length ≤ N := Nat.le_trans (List.length_filter_le _ _) (by simp [verts])
  obtain ⟨L, hL⟩ : ∃ L, (verts N).filter (fun x => decide ((x, v) ∈ E)) = L := ⟨_, rfl⟩
  go_wp2_with fail
  go_at_call 71
  refine (rin_is b N v E F w HP.out.1 hN L hL.symm).mono ?_
  rintro e w1 ⟨A1, c1, rfl, hi1, hg1⟩
  rw [hL] at hLN
  have HR : Hid (L.all (fun u => decide (u ∈ o)) = r) := hid (hL ▸ HP.out.2.2)
  have H1 := hid (And.intro hi1 hg1)
  clear hi1 hg1 hL
  go_wp2_with fail
  go_loopw [8] (fun i wr => ∃ k : Nat, k ≤ L.length ∧ i = .int .i64 k ∧ Hid ((L.take k).all (fun u => decide (u ∈ o)) = true) ∧ Grew w1 wr) (fun i _ => L.length - (intOf i).toNat)
  case atStart => exact ⟨0, Nat.zero_le _, rfl, hid (by simp), Only.refl _ _⟩
  case round =>
    obtain ⟨k, hk, rfl, hall, hO⟩ := hrel
    have HO := hid hO
    have hsl := H1.out.1.grew hO
    clear hO
    by_cases hlt : k < L.length
    · obtain ⟨bl, off, rfl, hcell⟩ := hsl (by omega)
      have h1 := hcell k hlt
      obtain ⟨x, hx⟩ : ∃ x, L[k]? = some x := ⟨_, List.getElem?_eq_getElem hlt⟩
      simp only [hx, Option.getD_some] at h1
      have HX := hid hx
      have hb0 : (k : Int) < (L.length : Int) := by omega
      clear hcell hsl hx
      obtain ⟨q, hq⟩ : ∃ q : Bool, decide (x ∈ o) = q := ⟨_, rfl⟩
      have HQ := hid hq
      clear hq
      cases q
      · have HF : Hid (r = false) := hid (by
          rw [← HR.out, List.all_eq_false]
          exact ⟨x, List.mem_of_getElem? HX.out, by rw [HQ.out]; simp⟩)
        go_wp2_with (go_at_call 74; refine (in13_is A c o x wr _ HQ.out ((HP.out.2.1.grew H1.out.2).grew HO.out) hol).mono ?_; rintro e w2 ⟨rfl, rfl⟩)
        go_ret
        exact ⟨by rw [HF.out]; rfl, Grew.trans H1.out.2 HO.out⟩
      · go_wp2_with (go_at_call 74; refine (in13_is A c o x wr _ HQ.out ((HP.out.2.1.grew H1.out.2).grew HO.out) hol).mono ?_; rintro e w2 ⟨rfl, rfl⟩)
        go_roundw
        case rel =>
          refine ⟨k + 1, by omega, by go_num, hid ?_, HO.out⟩
          rw [List.take_add_one, HX.out]
          simp only [Option.toList_some, List.all_append, hall.out, List.all_cons, HQ.out, List.all_nil, Bool.and_self]
        case measure => simp [intOf]; omega
    · obtain rfl : k = L.length := by omega
      have HF : Hid (r = true) := hid (by
        rw [← HR.out]
        have := hall.out
        rwa [List.take_length] at this)
      clear hsl
      go_wp2
      go_ret
      exact ⟨by rw [HF.out]; rfl, Grew.trans H1.out.2 HO.out⟩
def leftB (s out : List Int) (x : Int) : Bool := !decide (x ∈ s) && !decide (x ∈ out)
def freeB (E : List (Int × Int)) (N : Nat) (s out : List Int) (x : Int) : Bool := ((verts N).filter (fun u => decide ((u, x) ∈ cut E s))).all (fun u => decide (u ∈ out))
def readyB (E : List (Int × Int)) (N : Nat) (s out : List Int) (x : Int) : Bool := leftB s out x && freeB E N s out x
theorem readyB_iff {E : List (Int × Int)} {N : Nat} {s out : List Int} {x : Int} (hE : Valid N E) (hx : 0 ≤ x ∧ x < (N : Int)) : readyB E N s out x = true ↔ Ready E N s out x := by
  unfold readyB leftB freeB Ready
  simp only [Bool.and_eq_true, Bool.not_eq_true', decide_eq_false_iff_not, List.all_eq_true, List.mem_filter, decide_eq_true_eq, mem_cut]
  constructor
  · rintro ⟨⟨h1, h2⟩, h3⟩
    refine ⟨hx, h1, h2, fun u hu => ?_⟩
    by_cases hs : u ∈ s
    · exact .inl hs
    · exact .inr (h3 u ⟨mem_verts.2 (hE _ hu).1, hu, hs, h1⟩)
  · rintro ⟨_, h1, h2, h3⟩
    refine ⟨⟨h1, h2⟩, fun u hu => ?_⟩
    rcases h3 u hu.2.1 with h | h
    · exact absurd h hu.2.2.1
    · exact h
theorem find_least {E : List (Int × Int)} {N : Nat} {s out : List Int} {x : Int} (hE : Valid N E) (h : (verts N).find? (readyB E N s out) = some x) : Least E N s out x := by
  obtain ⟨h1, pa, pb, h2, h3⟩ := List.find?_eq_some_iff_append.1 h
  have hxm : x ∈ verts N := by rw [h2]; simp
  refine ⟨(readyB_iff hE (mem_verts.1 hxm)).1 h1, fun u hu => ?_⟩
  have hum := mem_verts.2 hu.1
  have hub := (readyB_iff hE hu.1).2 hu
  rw [h2] at hum
  rcases List.mem_append.1 hum with hm | hm
  · have := h3 u hm
    rw [hub] at this
    simp at this
  · have hs := verts_sorted N
    rw [h2] at hs
    rcases List.mem_cons.1 hm with rfl | hm
    · exact Int.le_refl _
    · exact Int.le_of_lt ((List.pairwise_cons.1 (List.pairwise_append.1 hs).2.1).1 u hm)
theorem find_none {E : List (Int × Int)} {N : Nat} {s out : List Int} (hE : Valid N E) (h : (verts N).find? (readyB E N s out) = none) (v : Int) : ¬ Ready E N s out v := fun hv => by
  have := List.find?_eq_none.1 h v (mem_verts.2 hv.1)
  exact this ((readyB_iff hE hv.1).2 hv)
theorem any_rest {N : Nat} {s out : List Int} : (verts N).any (leftB s out) = !decide (restL N s out = []) := by
  by_cases h : restL N s out = []
  · simp only [h, decide_true, Bool.not_true, List.any_eq_false]
    intro x hx
    have : x ∉ restL N s out := by rw [h]; simp
    rw [mem_rest] at this
    have hr := mem_verts.1 hx
    unfold leftB
    by_cases h1 : x ∈ s
    · simp [h1]
    · by_cases h2 : x ∈ out
      · simp [h2]
      · exact absurd ⟨hr, h1, h2⟩ this
  · simp only [h, decide_false, Bool.not_false, List.any_eq_true]
    obtain ⟨x, hx⟩ := List.exists_mem_of_ne_nil _ h
    have hm := mem_rest.1 hx
    exact ⟨x, mem_verts.2 hm.1, by simp [leftB, hm.2.1, hm.2.2]⟩
theorem verts_drop {N m : Nat} (h : m < N) : (verts N).drop m = (m : Int) :: (verts N).drop (m + 1) := by
  have hl : m < (verts N).length := by simp [verts]; exact h
  rw [List.drop_eq_getElem_cons hl]
  congr 1
  simp [verts]
set_option maxRecDepth 100000 in
set_option maxHeartbeats 2000000 in
theorem rorder_is (b N : Nat) (E : List (Int × Int)) (F : Nat → Prop) (A : Option Addr) (c : Nat) (s : List Int) (w : World) (hG : IsRef w F b N E) (hs : SlI w A s) (hsl : s.length ≤ 9223372036854775807) (hfew : E.length ≤ 1048576) (hN : N ≤ 1048576) (hE : Valid N E)
    (o : List Int) (ho : IsOrder E N s o) (r : Bool) (hr : decide (restL N s o = []) = r) :
    Calls Try.prog 41 #[.pointer (some ⟨b, 0, none⟩), .slice A s.length c] w fun e w' => ∃ A' c', e = .returned (.tuple #[.slice A' (ordRes r o).length c', .bool r]) ∧ SlI w' A' (ordRes r o) ∧ Grew w w' := by
  have HP := hid (And.intro hG (And.intro hs (And.intro hE (And.intro ho hr))))
  obtain ⟨i0, hi0, hz0, hz1, hz2⟩ := info_parts info_int
  have HI := hid (And.intro hi0 (And.intro hz0 (And.intro hz1 hz2)))
  clear hG hs hE ho hr hi0 hz0 hz1 hz2
  go_enter Try.func41, Try.ntmps41
  go_wp2_with fail
  go_at_call 36
  refine (rwithout_at b N E F A c s w HP.out.1 HP.out.2.1 hsl hfew).mono ?_
  rintro e w1 ⟨bh, rfl, hR1, hg1⟩
  have H1 := hid (And.intro hR1 hg1)
  have hs1 := hg1.size
  clear hR1 hg1
  go_wp2_with fail
  go_loopw [7] (fun ov wr => ∃ (out : List Int), Kahn E N s out ∧ wr.ownsRow w1.heap.size 3 1 ov out.length (out.map (Value.int .i64)) ∧ Only (fun i => w1.heap.size ≤ i) w1 wr) (fun ov _ => N - lenOf ov)
  case atStart => exact ⟨[], .nil, ⟨by simp, .inl ⟨rfl, by simp⟩⟩, Only.refl _ _⟩
  case round =>
    obtain ⟨out, hK, hrow, hO⟩ := hrel
    have hol := hK.length
    have hOs := hO.size
    obtain ⟨Ao, co, rfl, hio⟩ := own_form hrow
    have hRw := H1.out.1.grew (Fresh.grew hO)
    have k0 : wr.cell? ⟨bh, 0, none⟩ = some (.int .i64 N) := by
      obtain ⟨A', c', g⟩ := hRw
      exact cell_of_row _ _ 0 _ _ _ g.blk
    have HH := hid (And.intro hK (And.intro hrow (And.intro hio (And.intro hO hRw))))
    clear hK hrow hio hO hRw
    go_wp2_with fail
    obtain ⟨wo, rfl⟩ : ∃ wo : World, wo = wr := ⟨_, rfl⟩
    go_loopw [8, 9, 10] (fun nv lv iv wr => ∃ (k : Nat) (nx i : Int), k ≤ N ∧ iv = .int .i64 i ∧ Hid (i = (k : Int) - 1) ∧ nv = .int .i64 nx ∧ Hid (nx = (((verts N).drop k).find? (readyB E N s out)).getD (-1)) ∧ lv = .bool (((verts N).drop k).any (leftB s out)) ∧ Grew wo wr) (fun _ _ i _ => (intOf i + 1).toNat)
    case atStart => exact ⟨N, -1, _, Nat.le_refl _, rfl, hid rfl, rfl, hid (by rw [List.drop_of_length_le (by simp [verts])]; rfl), by rw [List.drop_of_length_le (by simp [verts])]; rfl, Only.refl _ _⟩
    case round =>
      obtain ⟨k, nx, i, hk, rfl, hi, rfl, hnx, rfl, hO⟩ := hrel
      have HO := hid hO
      clear hO
      cases k with
      | zero =>
        obtain rfl : i = -1 := by have := hi.out; omega
        have hnx' := hnx.out
        rw [List.drop_zero, any_rest] at *
        cases hf : (verts N).find? (readyB E N s out) with
        | none =>
          rw [hf] at hnx'
          obtain rfl : nx = -1 := hnx'
          have hfin : IsOrder E N s out := ⟨HH.out.1, find_none HP.out.2.2.1 hf⟩
          obtain rfl := hfin.unique HP.out.2.2.2.1
          rw [HP.out.2.2.2.2]
          clear hfin hf hnx hi k0
          cases r
          · go_wp2
            go_ret2
            exact ⟨none, 0, rfl, SlI.nil, Grew.trans H1.out.2 (Grew.trans (Fresh.grew HH.out.2.2.2.1) HO.out)⟩
          · go_wp2
            go_ret2
            exact ⟨Ao, co, rfl, HH.out.2.2.1.grew HO.out, Grew.trans H1.out.2 (Grew.trans (Fresh.grew HH.out.2.2.2.1) HO.out)⟩
        | some x =>
          rw [hf] at hnx'
          obtain rfl : nx = x := hnx'
          have hlst := find_least HP.out.2.2.1 hf
          have hx0 := hlst.1.1
          have hrest : decide (restL N s out = []) = false := by
            have : nx ∈ restL N s out := mem_rest.2 ⟨hx0, hlst.1.2.1, hlst.1.2.2.1⟩
            simp only [decide_eq_false_iff_not]
            intro he
            rw [he] at this
            cases this
          rw [hrest]
          have hk2 := (Kahn.snoc HH.out.1 hlst)
          have hl2 := hk2.length
          rw [List.length_append, List.length_singleton] at hl2
          have HK2 := hid hk2
          have hd : decide (nx < 0) = false := by simp; omega
          clear hf hlst hrest hk2 hnx hi k0
          go_wp2_with (at_builtin; go_loud (refine wpList_append_own_at _ rfl (.tmp 41) (.tmp 43) 29 rfl w1.heap.size 3 i0 _ 1 8 Try.underlying29 HI.out.1 HI.out.2.1 HI.out.2.2.1 HI.out.2.2.2 rfl (by omega) _ out.length (out.map (Value.int .i64)) rfl (own_only HH.out.2.1 (Grew.trans HO.out (Only.alloc (F := fun _ => False) _ _)) (fun _ _ h => h)) _ 1 1 [.int .i64 nx] rfl rfl (new_one _ _ _) (by simp [Value.oneCell']) (by unfold maxLen; omega) (by omega) (by have := HO.out.size; simp; omega) ?_; intro v2 w2 hown2 hgrow2 _ _))
          have k2 : Only (fun i => w1.heap.size ≤ i) (wr.alloc (.cells #[.int .i64 nx] 3)) w2 := Only.of_grownBy hgrow2 (fun i e => .inl (HH.out.2.1.lt i e).1)
          have hO2 : Only (fun i => w1.heap.size ≤ i) w1 w2 := ((HH.out.2.2.2.1.trans HO.out (fun _ _ h => h.elim)).trans (Only.alloc (F := fun i => w1.heap.size ≤ i) _ _) (fun _ _ h => h)).trans k2 (fun _ _ h => h)
          have hown : w2.ownsRow w1.heap.size 3 1 v2 (out.length + 1) ((out ++ [nx]).map (Value.int .i64)) := by simpa using hown2
          obtain ⟨A2, c2, e2, _⟩ := own_form hown
          obtain rfl : v2 = .slice A2 (out.length + 1) c2 := by rw [e2]; simp
          have HF := hid (And.intro hown hO2)
          clear hown2 hgrow2 k2 hO2 hown e2
          go_wp2
          go_roundw
          case rel => exact ⟨out ++ [nx], HK2.out, by simpa using HF.out.1, HF.out.2⟩
          case measure => simp only [lenOf]; omega
      | succ m =>
        obtain rfl : i = (m : Int) := by have := hi.out; omega
        have hm : m < N := by omega
        have hdr := verts_drop hm
        have hb0 : (0 : Int) ≤ (m : Int) := by omega
        obtain ⟨r1, hr1⟩ : ∃ q : Bool, decide ((m : Int) ∈ s) = q := ⟨_, rfl⟩
        obtain ⟨r2, hr2⟩ : ∃ q : Bool, decide ((m : Int) ∈ out) = q := ⟨_, rfl⟩
        obtain ⟨r3, hr3⟩ : ∃ q : Bool, freeB E N s out (m : Int) = q := ⟨_, rfl⟩
        have hlb : leftB s out (m : Int) = (!r1 && !r2) := by unfold leftB; rw [hr1, hr2]
        have hrb : readyB E N s out (m : Int) = (!r1 && !r2 && r3) := by unfold readyB; rw [hlb, hr3]
        have HA : Hid (((verts N).drop m).any (leftB s out) = ((!r1 && !r2) || ((verts N).drop (m + 1)).any (leftB s out))) := hid (by rw [hdr, List.any_cons, hlb])
        have HFD : Hid (((verts N).drop m).find? (readyB E N s out) = if (!r1 && !r2 && r3) = true then some (m : Int) else ((verts N).drop (m + 1)).find? (readyB E N s out)) := hid (by rw [hdr, List.find?_cons, hrb]; cases (!r1 && !r2 && r3) <;> rfl)
        have HR := hid (And.intro hr1 (And.intro hr2 hr3))
        have HNX := hid hnx.out
        clear hdr hr1 hr2 hr3 hlb hrb hi hnx
        generalize ((verts N).drop (m + 1)).any (leftB s out) = lb at *
        have C1 : Hid (∀ W, Grew wo W → Calls Try.prog 74 #[.int .i64 m, .slice A s.length c] W fun e w' => e = .returned (.bool r1) ∧ W = w') := hid fun W hW => in13_is A c s m W r1 HR.out.1 (((HP.out.2.1.grew H1.out.2).grew (Fresh.grew HH.out.2.2.2.1)).grew hW) hsl
        have C2 : Hid (∀ W, Grew wo W → Calls Try.prog 74 #[.int .i64 m, .slice Ao out.length co] W fun e w' => e = .returned (.bool r2) ∧ W = w') := hid fun W hW => in13_is Ao co out m W r2 HR.out.2.1 (HH.out.2.2.1.grew hW) (by omega)
        have c1 := C1.out wr HO.out
        cases r1
        · have HC2 := hid (C2.out wr HO.out)
          cases r2
          · go_wp2_with (go_at_call 74; with_reducible refine c1.mono ?_; clear c1; rintro e w' ⟨rfl, rfl⟩)
            have c2 := HC2.out
            go_wp2_with (go_at_call 74; with_reducible refine c2.mono ?_; clear c2; rintro e w' ⟨rfl, rfl⟩)
            have cF := free_is bh N (cut E s) _ m Ao co out wr (HH.out.2.2.2.2.grew HO.out) hN (HH.out.2.2.1.grew HO.out) (by omega) r3 HR.out.2.2
            cases r3
            · go_wp2_with (go_at_call 75; with_reducible refine cF.mono ?_; clear cF; rintro e w5 ⟨rfl, hg5⟩)
              have H5 := hid hg5
              clear hg5
              go_roundw
              case rel => exact ⟨m, nx, _, by omega, rfl, hid rfl, rfl, hid (by rw [HFD.out]; exact HNX.out), by rw [HA.out]; rfl, Grew.trans HO.out H5.out⟩
              case measure => simp [intOf]
            · go_wp2_with (go_at_call 75; with_reducible refine cF.mono ?_; clear cF; rintro e w5 ⟨rfl, hg5⟩)
              have H5 := hid hg5
              clear hg5
              go_wp2
              go_roundw
              case rel => exact ⟨m, (m : Int), _, by omega, rfl, hid rfl, rfl, hid (by rw [HFD.out]; rfl), by rw [HA.out]; rfl, Grew.trans HO.out H5.out⟩
              case measure => simp [intOf]
          · go_wp2_with (go_at_call 74; with_reducible refine c1.mono ?_; clear c1; rintro e w' ⟨rfl, rfl⟩)
            have c2 := HC2.out
            go_wp2_with (go_at_call 74; with_reducible refine c2.mono ?_; clear c2; rintro e w' ⟨rfl, rfl⟩)
            go_roundw
            case rel => exact ⟨m, nx, _, by omega, rfl, hid rfl, rfl, hid (by rw [HFD.out]; exact HNX.out), by rw [HA.out]; rfl, HO.out⟩
            case measure => simp [intOf]
        · go_wp2_with (go_at_call 74; with_reducible refine c1.mono ?_; clear c1; rintro e w' ⟨rfl, rfl⟩)
          go_roundw
          case rel => exact ⟨m, nx, _, by omega, rfl, hid rfl, rfl, hid (by rw [HFD.out]; exact HNX.out), by rw [HA.out]; rfl, HO.out⟩
          case measure => simp [intOf]
end Go.Proofs.Ytlpkolmaklnffaa
