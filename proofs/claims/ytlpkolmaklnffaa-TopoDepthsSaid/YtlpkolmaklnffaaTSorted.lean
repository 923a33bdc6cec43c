/- The walk of topo.Sorted. -/
import Derived.Test.YtlpkolmaklnffaaOrder
namespace Go.Proofs.Ytlpkolmaklnffaa
open Go.RowKit Go.MapKept

/-- Where each number stood last among the first k. -/
def AtUpto (kv : List (Int × Value)) (xs : List Int) (k : Nat) : Prop :=
  ∀ x, (mget kv x = none ∧ ∀ j, j < k → xs[j]? ≠ some x) ∨ ∃ i : Nat, i < k ∧ xs[i]? = some x ∧ mget kv x = some (.int .i64 i) ∧ ∀ j, i < j → j < k → xs[j]? ≠ some x
theorem AtUpto.zero (xs : List Int) : AtUpto [] xs 0 := fun _ => .inl ⟨rfl, fun _ h => absurd h (Nat.not_lt_zero _)⟩
theorem AtUpto.put {kv : List (Int × Value)} {xs : List Int} {k : Nat} {v : Int} (h : AtUpto kv xs k) (hv : xs[k]? = some v) : AtUpto (mput kv v (.int .i64 k)) xs (k + 1) := fun x => by
  rw [mget_mput]
  by_cases hx : x = v
  · subst hx
    rw [if_pos rfl]
    exact .inr ⟨k, by omega, hv, rfl, fun j h1 h2 => by omega⟩
  · rw [if_neg hx]
    have hk : ∀ j, j = k → xs[j]? ≠ some x := fun j hj e => by
      subst hj
      rw [hv] at e
      exact hx (Option.some.inj e).symm
    rcases h x with ⟨a, b⟩ | ⟨i, a, b, c, d⟩
    · refine .inl ⟨a, fun j hj => ?_⟩
      by_cases hjk : j = k
      · exact hk j hjk
      · exact b j (by omega)
    · refine .inr ⟨i, by omega, b, c, fun j h1 h2 => ?_⟩
      by_cases hjk : j = k
      · exact hk j hjk
      · exact d j h1 (by omega)
/-- The vertices of g, each once, each ahead of its successors. -/
def IsSorted (E : List (Int × Int)) (N : Nat) (xs : List Int) : Prop := xs.length = N ∧ (∀ v ∈ verts N, v ∈ xs) ∧ ∀ e ∈ E, xs.idxOf e.1 < xs.idxOf e.2
instance (E : List (Int × Int)) (N : Nat) (xs : List Int) : Decidable (IsSorted E N xs) := by unfold IsSorted; infer_instance
theorem verts_nodup (N : Nat) : (verts N).Nodup := (verts_sorted N).imp (fun h => Int.ne_of_lt h)
theorem perm_nodup : ∀ {l xs : List Int}, l.Nodup → (∀ v ∈ l, v ∈ xs) → xs.length = l.length → xs.Nodup
  | [], xs, _, _, h2 => by
    obtain rfl := List.eq_nil_of_length_eq_zero (show xs.length = 0 by simpa using h2)
    exact List.nodup_nil
  | a :: r, xs, h, h1, h2 => by
    have ha := h1 a (by simp)
    have hp := List.perm_cons_erase ha
    obtain ⟨g1, g2⟩ := List.nodup_cons.1 h
    have hl : (xs.erase a).length = r.length := by
      have := hp.length_eq
      simp at this h2
      omega
    have hr : ∀ v ∈ r, v ∈ xs.erase a := fun v hv => by
      have := hp.mem_iff.1 (h1 v (by simp [hv]))
      rcases List.mem_cons.1 this with rfl | h
      · exact absurd hv g1
      · exact h
    have ih := perm_nodup g2 hr hl
    have hx : a ∉ xs.erase a := fun hm => by
      have hs : (xs.erase a).length ≤ ((xs.erase a).erase a).length + 1 := by
        rw [List.length_erase_of_mem hm]; omega
      have hr2 : ∀ v ∈ r, v ∈ (xs.erase a).erase a := fun v hv => by
        have hp2 := List.perm_cons_erase hm
        have := hp2.mem_iff.1 (hr v hv)
        rcases List.mem_cons.1 this with rfl | h
        · exact absurd hv g1
        · exact h
      have := g2.length_le_of_subset hr2
      rw [List.length_erase_of_mem hm] at this
      have := List.length_pos_of_mem hm
      omega
    exact hp.nodup_iff.2 (List.nodup_cons.2 ⟨hx, ih⟩)
section
variable {E : List (Int × Int)} {N : Nat} {xs : List Int} {kv : List (Int × Value)}
theorem nodup_all (hl : xs.length = N) (h : ∀ v ∈ verts N, v ∈ xs) : xs.Nodup := perm_nodup (verts_nodup N) h (by simpa [verts] using hl)
theorem idx_of_at (hn : xs.Nodup) {i : Nat} {x : Int} (h : xs[i]? = some x) : xs.idxOf x = i := by
  obtain ⟨h1, h2⟩ := List.getElem?_eq_some_iff.1 h
  subst h2
  exact List.Nodup.idxOf_getElem hn i h1
/-- The test of one edge went well. -/
def EdgeOk (kv : List (Int × Value)) (u x : Int) : Prop := ∀ i j : Nat, mget kv u = some (.int .i64 i) → mget kv x = some (.int .i64 j) → ¬ j < i
theorem sort_missing {v : Int} (hv : v ∈ verts N) (h : ∀ j, j < xs.length → xs[j]? ≠ some v) : ¬ IsSorted E N xs := fun hs => by
  obtain ⟨j, hj⟩ := List.getElem?_of_mem (hs.2.1 v hv)
  exact h j (List.getElem?_eq_some_iff.1 hj).1 hj
theorem sort_wrong {u x : Int} {i j : Nat} (he : (u, x) ∈ E) (hi : xs[i]? = some u) (hj : xs[j]? = some x) (h : j < i) : ¬ IsSorted E N xs := fun hs => by
  have hn := nodup_all hs.1 hs.2.1
  have := hs.2.2 _ he
  rw [idx_of_at hn hi, idx_of_at hn hj] at this
  omega
theorem sort_right (hE : Valid N E) (ha : AtUpto kv xs xs.length) (hl : xs.length = N) (h1 : ∀ v ∈ verts N, mget kv v ≠ none) (h2 : ∀ v ∈ verts N, ∀ x, (v, x) ∈ E → EdgeOk kv v x) : IsSorted E N xs := by
  have hall : ∀ v ∈ verts N, v ∈ xs := fun v hv => by
    rcases ha v with ⟨a, _⟩ | ⟨i, _, b, _⟩
    · exact absurd a (h1 v hv)
    · exact List.mem_of_getElem? b
  refine ⟨hl, hall, fun e he => ?_⟩
  have hn := nodup_all hl hall
  have hb := hE e he
  have m1 := mem_verts.2 hb.1
  have m2 := mem_verts.2 hb.2.1
  rcases ha e.1 with ⟨a, _⟩ | ⟨i, _, b, c, _⟩
  · exact absurd a (h1 _ m1)
  · rcases ha e.2 with ⟨a, _⟩ | ⟨j, _, b', c', _⟩
    · exact absurd a (h1 _ m2)
    · rw [idx_of_at hn b, idx_of_at hn b']
      have h3 := h2 _ m1 _ he i j c c'
      have h4 : i ≠ j := fun hij => by
        subst hij
        rw [b] at b'
        exact hb.2.2 (Option.some.inj b')
      omega
end
theorem at_look {w : World} {md : Nat} {kv : List (Int × Value)} (hM : MapIs w md encI okI kv) {x : Int} (hx : okI x) (o : Option Nat) (ho : mget kv x = o.map (fun i : Nat => Value.int .i64 i)) :
    (Instr.lookup 93 (.map (some md)) (.int .i64 x) true).run Try.prog w = .ok (.tuple #[.int .i64 ((o.getD 0 : Nat) : Int), .bool o.isSome]) w := by
  have h := (hM.lookup keysI Try.underlying93 zeroInt hx).2
  rw [ho] at h
  cases o <;> exact h
set_option maxRecDepth 100000 in
set_option maxHeartbeats 1000000 in
theorem sorted_at (b N : Nat) (E : List (Int × Int)) (F : Nat → Prop) (A : Option Addr) (c : Nat) (xs : List Int) (w : World) (hG : IsGraph w F b N E) (hx : SlI w A xs) (hxo : ∀ x ∈ xs, okI x) (hxl : xs.length ≤ 9223372036854775807) (hfew : E.length ≤ 1048576) :
    Calls Try.prog 45 #[.pointer (some ⟨b, 0, none⟩), .slice A xs.length c] w fun e w' => e = .returned (.bool (decide (IsSorted E N xs))) ∧ Grew w w' := by
  have hN := hG.small.2
  have hmm := @run_makeMap Try.prog
  have HP := hid (And.intro hG (And.intro hx (And.intro hxo hG.2.2)))
  have k0 := hG.n_cell
  clear hG hx hxo
  go_enter Try.func45, Try.ntmps45
  by_cases hne : xs.length = N
  rotate_left
  · have hd : ¬ ((xs.length : Int) = (N : Int)) := by omega
    have HF : Hid (decide (IsSorted E N xs) = false) := hid (by simp; exact fun h => hne h.1)
    go_wp2_with (go_at_call 37; refine (len_at b N _ k0).mono ?_; rintro e w1 ⟨rfl, rfl⟩)
    go_ret
    exact ⟨by rw [HF.out]; rfl, Only.refl _ _⟩
  subst hne
  go_wp2_with (go_at_call 37; refine (len_at b xs.length _ k0).mono ?_; rintro e w1 ⟨rfl, rfl⟩)
  have H0 := hid (And.intro (MapIs.made w encI okI) (Only.alloc (F := fun i => w.heap.size ≤ i) w (.map #[] 0)))
  clear k0 hmm
  generalize w.alloc (.map #[] 0) = w1 at *
  go_loopw [23] (fun i wr => ∃ (k : Nat) (kv : List (Int × Value)), k ≤ xs.length ∧ i = .int .i64 k ∧ MapIs wr w.heap.size encI okI kv ∧ AtUpto kv xs k ∧ kv.length ≤ k ∧ Only (fun i => w.heap.size ≤ i) w wr) (fun i _ => xs.length - (intOf i).toNat)
  case atStart => exact ⟨0, [], Nat.zero_le _, rfl, H0.out.1, AtUpto.zero xs, by simp, H0.out.2⟩
  clear H0
  case round =>
    obtain ⟨k, kv, hk, rfl, hM, hA, hkl, hO⟩ := hrel
    have hsl := HP.out.2.1.grew (Fresh.grew hO)
    have HH := hid (And.intro hM (And.intro hA hO))
    clear hM hA hO
    by_cases hlt : k < xs.length
    · obtain ⟨bl, off, rfl, hcell⟩ := hsl (by omega)
      have h1 := hcell k hlt
      obtain ⟨x, hx⟩ : ∃ x, xs[k]? = some x := ⟨_, List.getElem?_eq_getElem hlt⟩
      simp only [hx, Option.getD_some] at h1
      have hb0 : (k : Int) < (xs.length : Int) := by omega
      have HX := hid (And.intro hx (HP.out.2.2.1 x (List.mem_of_getElem? hx)))
      clear hcell hsl hx
      go_wp2_with (at_mapUpdate; refine wpList_put rfl _ _ _ rfl keysI Try.underlying93 HH.out.1 (by unfold maxLen; omega) rfl HX.out.2 rfl (.int .i64 k) rfl ?_; intro w2 hm2 hg2 hs2)
      have hl2 := mput_length kv x (.int .i64 k)
      have H2 := hid (And.intro hm2 (HH.out.2.2.trans (Only.of_grownBy (F := fun i => w.heap.size ≤ i) hg2 (fun i e => .inl (by cases e; exact Nat.le_refl _))) (fun _ _ h => h)))
      clear hm2 hg2 hs2
      go_wp2
      go_roundw
      case rel => exact ⟨k + 1, _, by omega, by go_num, H2.out.1, HH.out.2.1.put HX.out.1, by omega, H2.out.2⟩
      case measure => simp [intOf]; omega
    · obtain rfl : k = xs.length := by omega
      clear hsl
      have hmlt := HH.out.1.lt
      have k1 := (HP.out.1.grew (Fresh.grew HH.out.2.2)).n_cell
      obtain ⟨wo, rfl⟩ : ∃ wo : World, wo = wr := ⟨_, rfl⟩
      go_wp2_with (go_at_call 37; refine (len_at b xs.length _ k1).mono ?_; rintro e w3 ⟨rfl, rfl⟩)
      clear k1
      go_loopw [34] (fun i wr => ∃ k : Nat, k ≤ xs.length ∧ i = .int .i64 k ∧ (∀ v ∈ (verts xs.length).take k, mget kv v ≠ none ∧ ∀ x, (v, x) ∈ E → EdgeOk kv v x) ∧ Grew wo wr) (fun i _ => xs.length - (intOf i).toNat)
      case atStart => exact ⟨0, Nat.zero_le _, rfl, fun v hv => by simp at hv, Only.refl _ _⟩
      case round =>
        obtain ⟨k, hk, rfl, hdone, hO⟩ := hrel
        have HD := hid (And.intro hdone hO)
        clear hdone hO
        by_cases hlt : k < xs.length
        · have hb0 : (k : Int) < (xs.length : Int) := by omega
          have HOK : Hid (okI (k : Int)) := hid ⟨by omega, by omega⟩
          have hM2 := HH.out.1.only HD.out.2 (fun h => h)
          have hkv : (k : Int) ∈ verts xs.length := mem_verts.2 ⟨by omega, by omega⟩
          rcases HH.out.2.1 (k : Int) with ⟨hno, hmiss⟩ | ⟨i, hi, hix, hat, _⟩
          · have hlk := at_look hM2 HOK.out none hno
            have HF : Hid (decide (IsSorted E xs.length xs) = false) := hid (by simpa using sort_missing hkv hmiss)
            clear hno hmiss hM2
            go_wp2
            go_ret
            exact ⟨by rw [HF.out]; rfl, Grew.trans (Fresh.grew HH.out.2.2) HD.out.2⟩
          · have hlk := at_look hM2 HOK.out (some i) hat
            have HI := hid (And.intro hix (And.intro hat hkv))
            clear hix hat hM2 hkv
            go_wp2_with (go_at_call 26; refine (out_new2 b xs.length k E _ _ ((HP.out.1.grew (Fresh.grew HH.out.2.2)).grew HD.out.2) HOK.out (by omega)).mono ?_; rintro e w5 ⟨A5, c5, rfl, hi5, _, hg5⟩)
            have H5 := hid (And.intro hi5 (Grew.trans HD.out.2 hg5))
            have hol := outL_length E k
            clear hi5 hg5 hlk
            go_loopw [49] (fun i wr => ∃ m : Nat, m ≤ (outL E k).length ∧ i = .int .i64 m ∧ (∀ x ∈ (outL E k).take m, EdgeOk kv k x) ∧ Grew w5 wr) (fun i _ => (outL E k).length - (intOf i).toNat)
            case atStart => exact ⟨0, Nat.zero_le _, rfl, fun v hv => by simp at hv, Only.refl _ _⟩
            case round =>
              obtain ⟨m, hm, rfl, hdone, hO⟩ := hrel
              have hsl := H5.out.1.grew hO
              have hM3 := HH.out.1.only (Grew.trans H5.out.2 hO) (fun h => h)
              have HE := hid (And.intro hdone hO)
              clear hdone hO
              by_cases hlt2 : m < (outL E k).length
              · obtain ⟨bl, off, rfl, hcell⟩ := hsl (by omega)
                have h1 := hcell m hlt2
                obtain ⟨x, hx⟩ : ∃ x, (outL E k)[m]? = some x := ⟨_, List.getElem?_eq_getElem hlt2⟩
                simp only [hx, Option.getD_some] at h1
                have hb1 : (m : Int) < ((outL E k).length : Int) := by omega
                have hkx := mem_outL.1 (List.mem_of_getElem? hx)
                have hxr := (HP.out.2.2.2 _ hkx).2.1
                have HX := hid (And.intro hkx (show okI x from ⟨by omega, by omega⟩))
                have HT : Hid ((outL E k).take (m + 1) = (outL E k).take m ++ [x]) := hid (by rw [List.take_add_one, hx]; rfl)
                clear hcell hsl hx hkx hxr
                have hstep : ∀ m', m' = m + 1 → EdgeOk kv k x → ∀ y ∈ (outL E k).take m', EdgeOk kv k y := fun m' e he y hy => by
                  rw [e, HT.out] at hy
                  rcases List.mem_append.1 hy with h | h
                  · exact HE.out.1 y h
                  · obtain rfl : y = x := by simpa using h
                    exact he
                have HST := hid hstep
                clear hstep
                rcases HH.out.2.1 x with ⟨hno, _⟩ | ⟨j, hj, hjx, hatj, _⟩
                · have hlk := at_look hM3 HX.out.2 none hno
                  have HNO : Hid (EdgeOk kv k x) := hid (fun i j h1 h2 => by rw [hno] at h2; cases h2)
                  clear hno hM3
                  go_wp2
                  go_roundw
                  case rel => exact ⟨m + 1, by omega, by go_num, HST.out _ rfl HNO.out, HE.out.2⟩
                  case measure => simp [intOf]; omega
                · have hlk := at_look hM3 HX.out.2 (some j) hatj
                  have HJ := hid (And.intro hjx hatj)
                  clear hjx hatj hM3
                  by_cases hji : j < i
                  · have hji' : (j : Int) < (i : Int) := by omega
                    have HF : Hid (decide (IsSorted E xs.length xs) = false) := hid (by simpa using sort_wrong HX.out.1 HI.out.1 HJ.out.1 hji)
                    go_wp2
                    go_ret
                    exact ⟨by rw [HF.out]; rfl, Grew.trans (Fresh.grew HH.out.2.2) (Grew.trans H5.out.2 HE.out.2)⟩
                  · have hji' : ¬ (j : Int) < (i : Int) := by omega
                    have HNO : Hid (EdgeOk kv k x) := hid (fun i' j' h1 h2 => by
                      rw [HI.out.2.1] at h1
                      rw [HJ.out.2] at h2
                      simp at h1 h2
                      omega)
                    go_wp2
                    go_roundw
                    case rel => exact ⟨m + 1, by omega, by go_num, HST.out _ rfl HNO.out, HE.out.2⟩
                    case measure => simp [intOf]; omega
              · obtain rfl : m = (outL E k).length := by omega
                have HDN : Hid (∀ v ∈ (verts xs.length).take (k + 1), mget kv v ≠ none ∧ ∀ x, (v, x) ∈ E → EdgeOk kv v x) := hid (fun v hv => by
                  rw [verts_take_succ _ _ hlt] at hv
                  rcases List.mem_append.1 hv with h | h
                  · exact HD.out.1 v h
                  · obtain rfl : v = (k : Int) := by simpa using h
                    refine ⟨by rw [HI.out.2.1]; simp, fun x hx => HE.out.1 x ?_⟩
                    rw [List.take_length]
                    exact mem_outL.2 hx)
                clear hsl hM3
                go_wp2
                go_roundw
                case rel => exact ⟨k + 1, by omega, by go_num, HDN.out, Grew.trans H5.out.2 HE.out.2⟩
                case measure => simp [intOf]; omega
        · obtain rfl : k = xs.length := by omega
          have HF : Hid (decide (IsSorted E xs.length xs) = true) := hid (by
            have hd := HD.out.1
            rw [List.take_of_length_le (by simp [verts])] at hd
            simpa using sort_right HP.out.2.2.2 HH.out.2.1 rfl (fun v hv => (hd v hv).1) (fun v hv => (hd v hv).2))
          go_wp2
          go_ret
          exact ⟨by rw [HF.out]; rfl, Grew.trans (Fresh.grew HH.out.2.2) HD.out.2⟩
end Go.Proofs.Ytlpkolmaklnffaa
