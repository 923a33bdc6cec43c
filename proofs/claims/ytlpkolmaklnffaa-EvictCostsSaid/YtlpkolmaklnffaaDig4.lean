/- The walk of (*digraph.Graph).Reach. -/
import Derived.Test.YtlpkolmaklnffaaDig3
import Derived.Test.YtlpkolmaklnffaaKeysIt
import Derived.Test.YtlpkolmaklnffaaPath
namespace Go.Proofs.Ytlpkolmaklnffaa
open Go.RowKit Go.MapKept

def seenKV (seen : List Int) : List (Int × Value) := seen.map (fun x => (x, .bool true))
theorem seenKV_get (seen : List Int) (x : Int) : mget (seenKV seen) x = if x ∈ seen then some (.bool true) else none := by
  unfold seenKV
  by_cases h : x ∈ seen
  · rw [if_pos h]
    unfold mget
    induction seen with
    | nil => cases h
    | cons y r ih =>
      rw [List.map_cons, List.find?_cons]
      by_cases hy : y = x
      · simp [hy]
      · simp only [hy, decide_false]
        rcases List.mem_cons.1 h with e | h'
        · exact absurd e.symm hy
        · exact ih h'
  · rw [if_neg h]
    refine mget_none.2 (fun p hp e => ?_)
    obtain ⟨y, hy, rfl⟩ := List.mem_map.1 hp
    exact h (e ▸ hy)
theorem seenKV_put {seen : List Int} {x : Int} (h : x ∉ seen) : mput (seenKV seen) x (.bool true) = seenKV (seen ++ [x]) := by
  have hh : mhas (seenKV seen) x = false := by rw [mhas_mget, seenKV_get, if_neg h]; rfl
  rw [mput_new _ hh]
  simp [seenKV]
theorem seenKV_keys (seen : List Int) : (seenKV seen).map (·.1) = seen := by simp [seenKV, Function.comp_def]
theorem own_pop {w : World} {base : Nat} {g m cap : Nat} {xs : List Int} {x : Int} (h : w.ownsRow base 3 1 (.slice (some ⟨g, 0, none⟩) (m + 1) cap) (m + 1) ((xs ++ [x]).map (Value.int .i64))) (hm : xs.length = m) :
    w.ownsRow base 3 1 (.slice (some ⟨g, 0, none⟩) m cap) m (xs.map (Value.int .i64)) ∧ w.cell? ⟨g, m, none⟩ = some (.int .i64 x) ∧ m + 1 ≤ cap := by
  have hcell := h.cells (g := g) rfl m (.int .i64 x) (by simp [← hm])
  rw [add_none, Nat.zero_add] at hcell
  rcases h.2 with ⟨hv, _⟩ | ⟨g', cap', cur, hv, hb, hg, h1, h2, h3, h4⟩
  · cases hv
  · cases hv
    refine ⟨⟨by simp [hm], .inr ⟨g, cap, cur, rfl, hb, hg, by omega, h2, h3, ?_⟩⟩, hcell, h1⟩
    have h5 := congrArg (List.take m) h4
    have e1 : min m ((m + 1) * 1) = m := by omega
    have e2 : List.take m ((xs ++ [x]).map (Value.int .i64)) = xs.map (Value.int .i64) := by
      rw [List.map_append, List.take_append_of_le_length (by simp [hm]), List.take_of_length_le (by simp [hm])]
    rw [List.take_take, e1, e2] at h5
    rw [Nat.mul_one]
    exact h5
def lenOf : Value → Nat | .slice _ n _ => n | _ => 0
def mapSize (w : World) (b : Nat) : Nat := match w.heap[b]? with | some (.map es _) => es.size | _ => 0
theorem MapIs.size {w : World} {b : Nat} {kv : List (Int × Value)} (h : MapIs w b encI okI kv) : mapSize w b = kv.length := by
  obtain ⟨es, c, hb, _, _, he, _⟩ := h
  have := congrArg List.length he
  simp only [mapSize, hb]
  simpa using this
set_option maxRecDepth 100000 in
set_option maxHeartbeats 1000000 in
theorem reach_at (b : Nat) (n v : Int) (E : List (Int × Int)) (F : Nat → Prop) (w : World) (hG : IsGraph w F b n E) (hv : okI v) (hfew : E.length ≤ 1048576) :
    Calls Try.prog 24 #[.pointer (some ⟨b, 0, none⟩), .int .i64 v] w fun e w' => ∃ r xs, e = .returned r ∧ NewInts w w' r xs ∧ IsReach E v xs ∧ Grew w w' := by
  obtain ⟨⟨me, mo, mi, KO, KI, g⟩, hnd, hval⟩ := hG
  have hn0 := g.n0
  have hn1 := g.n1
  have hmm := @run_makeMap Try.prog
  have hgm := g.only (Only.alloc (F := fun _ => False) w (.map #[] 0)) (fun _ _ h => h)
  have hm0 := MapIs.made w encI okI
  have k2 := cell_of_row _ _ 2 _ _ _ hgm.blk
  simp at k2
  have hlk := (hgm.out.lookup keysI Try.underlying83 zeroInts hv).1
  obtain ⟨A0, c0, hA0, hI0⟩ := own_form (hgm.outrow v)
  rw [hA0] at hlk
  replace hlk : (Instr.lookup 83 (.map (some mo)) (.int .i64 v) false).run Try.prog (w.alloc (.map #[] 0)) = .ok (.slice A0 (succ E v).length c0) (w.alloc (.map #[] 0)) := hlk
  have hlen0 := succ_length E v
  have HI0 := hid hI0
  have HM0 := hid hm0
  have HG := hid (And.intro g (And.intro hnd hval))
  have hbig : n.toNat * (E.length + 1) ≤ 1048576 * 1048577 := Nat.mul_le_mul (by omega) (by omega)
  clear hA0 hI0 hm0 hgm g hnd hval
  go_enter Try.func24, Try.ntmps24
  go_wp2_with fail
  go_step3
  go_wp2_with (go_at_call 61; refine (clone_at A0 c0 (succ E v) _ HI0.out (by omega)).mono ?_; rintro e w1 ⟨r1, rfl, hr1, hg1⟩)
  obtain ⟨A1, c1, rfl, _⟩ := own_form hr1
  have HST1 := hid (own_base hr1 (Nat.zero_le _))
  have HRB : Hid (∀ i, (Value.slice A1 (succ E v).length c1).ownBlock = some i → w.heap.size < i) := hid (fun i hi => by have := (hr1.lt i hi).1; simp at this; omega)
  have HO1 : Hid (Only (fun i => w.heap.size ≤ i) w w1) := hid ((Only.alloc _ _).trans hg1 (fun _ _ h => h.elim))
  have HM1 := hid (HM0.out.only hg1 (fun h => h))
  clear hr1 hg1 hlk k2 HI0 HM0 hmm
  go_step3
  go_wp2_with fail
  obtain ⟨i0, hi0, hz0, hz1, hz2⟩ := info_parts info_int
  have HI := hid (And.intro hi0 (And.intro hz0 (And.intro hz1 hz2)))
  clear hi0 hz0 hz1 hz2
  have HGF : Hid (∀ wr, Only (fun i => w.heap.size ≤ i) w wr → GraphAt wr F b n E E E me mo mi KO KI) := hid fun wr hO => HG.out.1.only (Fresh.grew hO) (fun _ _ h => h)
  go_loopw [6] (fun sv wr => ∃ seen st A m c, sv = .slice A m c ∧ Hid (st.length = m) ∧ wr.ownsRow 0 3 1 (.slice A m c) m (st.map (Value.int .i64)) ∧ (∀ i, (Value.slice A m c).ownBlock = some i → w.heap.size < i) ∧
      MapIs wr w.heap.size encI okI (seenKV seen) ∧ Dfs E v seen st ∧ Only (fun i => w.heap.size ≤ i) w wr ∧ (n.toNat - seen.length) * (E.length + 1) + m ≤ n.toNat * (E.length + 1) + E.length)
    (fun sv wr => (n.toNat - mapSize wr w.heap.size) * (E.length + 1) + lenOf sv)
  case atStart => exact ⟨[], succ E v, A1, _, c1, rfl, hid rfl, HST1.out, HRB.out, HM1.out, Dfs.start E v, HO1.out, by simp; omega⟩
  case round =>
    obtain ⟨seen, st, A, m, c, rfl, hlen, hrow, hrb, hM, hD, hO, hms⟩ := hrel
    have gr := HGF.out wr hO
    rcases List.eq_nil_or_concat st with rfl | ⟨st', x, rfl⟩
    · obtain rfl : m = 0 := hlen.out.symm
      have HR := hid (And.intro hrow (And.intro hM (And.intro hD hO)))
      have hseen : seen.length * 8 ≤ 140737488351232 := by
        have h1 := length_le_of_range (n := n.toNat) hD.nd (fun y hy => by have := path_range HG.out.2.2 (hD.path y (.inl hy)); omega)
        omega
      have HSE := hid hseen
      clear hrow hM hD hO gr hseen hms hbig hlen0 hrb hlen
      go_wp2_with (first
        | (go_at_call 66; refine (keys_at (some w.heap.size) wr).mono ?_; rintro e w' ⟨rfl, rfl⟩)
        | (go_at_call 65; refine (sorted_keys_at wr.heap.size w.heap.size (seenKV seen) (by simpa [seenKV] using HSE.out) _ (cell_of_row _ _ 0 _ _ _ (heap_alloc_new wr _)) (HR.out.2.1.only (Only.alloc (F := fun _ => False) wr _) (fun h => h))).mono ?_; rintro e w' ⟨r, rfl, hr, hg⟩))
      rw [Exit.noGoto_ret]
      go_ret
      have hO' := HR.out.2.2.2
      refine ⟨r, _, rfl, hr.from (by have := hO'.size; simp; omega), ⟨?_, fun y => ?_⟩, ?_⟩
      · rw [seenKV_keys]
        refine ((List.pairwise_and_iff.2 ⟨sortL_sorted seen, (sortL_perm seen).nodup_iff.2 HR.out.2.2.1.nd⟩)).imp (fun h => by omega)
      · rw [seenKV_keys, (sortL_perm seen).mem_iff]
        exact HR.out.2.2.1.done y
      · exact Grew.trans (Fresh.grew hO') (Grew.trans (Only.alloc wr _) hg)
    · simp only [List.concat_eq_append] at hrow hD hlen
      obtain ⟨m', rfl⟩ : ∃ m', m = m' + 1 := ⟨st'.length, by have := hlen.out; simp at this; omega⟩
      have hlen' : Hid (st'.length = m') := hid (by have := hlen.out; simp at this; omega)
      obtain ⟨gb, rfl⟩ : ∃ gb, A = some ⟨gb, 0, none⟩ := by
        rcases hrow.2 with ⟨_, h0⟩ | ⟨g', cap', cur, hv, _⟩
        · omega
        · cases hv; exact ⟨_, rfl⟩
      obtain ⟨hrow', hcell, hcap⟩ := own_pop hrow hlen'.out
      have hrg := path_range HG.out.2.2 (hD.path x (.inr (by simp)))
      have hox : okI x := ⟨by omega, by omega⟩
      have hls := (hM.lookup keysI Try.underlying81 zeroBool hox).1
      rw [seenKV_get] at hls
      have hmb : m' + 1 ≤ 1099513724928 := by omega
      have hgb : w.heap.size < gb := hrb gb rfl
      by_cases hx : x ∈ seen
      · rw [if_pos hx] at hls
        replace hls : (Instr.lookup 81 (.map (some w.heap.size)) (.int .i64 x) false).run Try.prog wr = .ok (.bool true) wr := hls
        have HFIN := hid (And.intro hrow' (And.intro hM (And.intro (hD.skip hx) hO)))
        have HMS := hid hms
        clear hrow hrow' hM hD hO hms gr hlen hx hrb hbig
        go_wp2
        go_roundw
        case rel => exact ⟨seen, st', _, _, _, rfl, hlen', HFIN.out.1, fun i hi => by cases hi; exact hgb, HFIN.out.2.1, HFIN.out.2.2.1, HFIN.out.2.2.2, by have := HMS.out; omega⟩
        case measure => simp [lenOf]
      · rw [if_neg hx] at hls
        replace hls : (Instr.lookup 81 (.map (some w.heap.size)) (.int .i64 x) false).run Try.prog wr = .ok (.bool false) wr := hls
        have hD' := hD.visit hx
        have hle : seen.length + 1 ≤ n.toNat := by
          have := length_le_of_range (n := n.toNat) hD'.nd (fun y hy => by have := path_range HG.out.2.2 (hD'.path y (.inl hy)); omega)
          simpa using this
        have hlx := succ_length E x
        have hless := dfs_less (n := n.toNat) (s := seen.length) (t := m') (by omega) hlx
        have HSTEP : Hid (∀ w2, wr.grownBy w2 (some w.heap.size) → MapIs w2 w.heap.size encI okI (mput (seenKV seen) x (.bool true)) → ∃ A3 c3, w2.cell? ⟨b, 2, none⟩ = some (.map (some mo)) ∧
            (Instr.lookup 83 (.map (some mo)) (.int .i64 x) false).run Try.prog w2 = .ok (.slice A3 (succ E x).length c3) w2 ∧ Hid (SlI w2 A3 (succ E x)) ∧
            Hid (w2.ownsRow 0 3 1 (.slice (some ⟨gb, 0, none⟩) m' c) m' (st'.map (Value.int .i64))) ∧ Hid (MapIs w2 w.heap.size encI okI (seenKV (seen ++ [x]))) ∧ Hid (Only (fun i => w.heap.size ≤ i) w w2)) := hid fun w2 hg2 hm2 => by
          have hk : Only (fun i => i = w.heap.size) wr w2 := Only.of_grownBy hg2 (fun i e => by cases e; exact .inl rfl)
          have hO2 : Only (fun i => w.heap.size ≤ i) w w2 := hO.trans hk (fun i hi h => by omega)
          have g2 := HGF.out w2 hO2
          have k2 := cell_of_row _ _ 2 _ _ _ g2.blk
          have hl2 := (g2.out.lookup keysI Try.underlying83 zeroInts hox).1
          obtain ⟨A3, c3, hA3, hI3⟩ := own_form (g2.outrow x)
          rw [hA3] at hl2
          rw [seenKV_put hx] at hm2
          exact ⟨A3, c3, by simpa using k2, hl2, hid hI3, hid (own_only hrow' hk (fun i hi e => by cases hi; exact absurd (show gb = w.heap.size from e) (by omega))), hid hm2, hid hO2⟩
        have HX := hid hx
        have HM := hid hM
        have HROW := hid hrow'
        have HD := hid hD'
        have HOO := hid hO
        have HMS := hid hms
        have HLE := hid hle
        have HLESS := hid hless
        have HBIG := hid hbig
        clear hrow hrow' hM hD hD' hO hms gr hlen hx hrb hbig hle hless
        go_wp2_with (first
          | (at_mapUpdate; refine wpList_put rfl _ _ _ rfl keysI Try.underlying81 HM.out (by have := HLE.out; unfold maxLen; simp [seenKV]; omega) rfl hox rfl (.bool true) rfl ?_; intro w2 hm2 hg2 hs2; obtain ⟨A3, c3, q1, q2, q3, q4, q5, q6⟩ := HSTEP.out w2 hg2 hm2; clear hm2 hg2 hs2)
          | (at_builtin; refine wpList_append_src _ rfl (.tmp 37) (.tmp 43) 29 rfl 0 3 i0 _ 1 8 Try.underlying29 HI.out.1 HI.out.2.1 HI.out.2.2.1 HI.out.2.2.2 rfl (by omega) gb m' c (st'.map (Value.int .i64)) rfl q4.out A3 (succ E x).length c3 ((succ E x).map (Value.int .i64)) rfl (SlI.cells q3.out) (oneCell_ints _) (by unfold maxLen; omega) (by omega) (by simp) ?_; intro g3 c4 w3 hown3 hgrow3 hat3 hlt3))
        have hk3 : Only (fun i => i = gb) w2 w3 := Only.of_grownBy hgrow3 (fun i e => by cases e; exact .inl rfl)
        have hO3 : Only (fun i => w.heap.size ≤ i) w w3 := q6.out.trans hk3 (fun i hi h => by omega)
        have hg3 : w.heap.size < g3 := by
          have h1 := q6.out.size
          have h2 := q5.out.lt
          rcases hat3 with h | h <;> omega
        have hM3 : MapIs w3 w.heap.size encI okI (seenKV (seen ++ [x])) := q5.out.only hk3 (fun e => by omega)
        have HFIN := hid (And.intro hown3 (And.intro hM3 hO3))
        have HG3 := hid hg3
        clear hown3 hgrow3 hat3 hlt3 hk3 hO3 hM3 hg3 q1 q2
        go_wp2
        go_roundw
        case rel =>
          refine ⟨seen ++ [x], st' ++ succ E x, _, _, _, rfl, hid (by have := hlen'.out; simp; omega), by rw [List.map_append]; exact HFIN.out.1, fun i hi => by cases hi; exact HG3.out, HFIN.out.2.1, HD.out, HFIN.out.2.2, ?_⟩
          have h1 := HMS.out
          have h2 := HLESS.out
          simp only [List.length_append, List.length_cons, List.length_nil, Nat.zero_add]
          omega
        case measure =>
          have h2 := HLESS.out
          have e1 := MapIs.size HFIN.out.2.1
          have e2 := MapIs.size HM.out
          simp only [seenKV, List.length_map, List.length_append, List.length_cons, List.length_nil, Nat.zero_add] at e1 e2
          rw [e1, e2]
          simpa [lenOf] using h2
end Go.Proofs.Ytlpkolmaklnffaa
