/- The walk of the law DigraphPaths. -/
import Derived.Test.YtlpkolmaklnffaaHas
import Derived.Test.YtlpkolmaklnffaaReaches
namespace Go.Proofs.Ytlpkolmaklnffaa
open Go.RowKit Go.MapKept

theorem path_cons {E : List (Int × Int)} {v x y : Int} (h : (v, x) ∈ E) (p : Path E x y) : Path E v y := by
  induction p with
  | one e => exact .more (.one h) e
  | more p e ih => exact .more ih e
theorem path_split {E : List (Int × Int)} {v y : Int} : Path E v y ↔ ∃ x, (v, x) ∈ E ∧ (y = x ∨ Path E x y) := by
  refine ⟨fun p => ?_, fun ⟨x, h, k⟩ => ?_⟩
  · induction p with
    | one e => exact ⟨_, e, .inl rfl⟩
    | more p e ih =>
      obtain ⟨x, h, k⟩ := ih
      rcases k with rfl | k
      · exact ⟨_, h, .inr (.one e)⟩
      · exact ⟨_, h, .inr (.more k e)⟩
  · rcases k with rfl | k
    · exact .one h
    · exact path_cons h k
/-- What has been marked behind k of the successors. -/
def Marked (E : List (Int × Int)) (xs : List Int) (bs : List Bool) : Prop := ∀ y : Nat, bget bs y = true ↔ ∃ x ∈ xs, (y : Int) = x ∨ Path E x (y : Int)
def Adds (bs bs' : List Bool) (ys : List Int) : Prop := ∀ y : Nat, bget bs' y = true ↔ bget bs y = true ∨ (y : Int) ∈ ys
theorem Marked.start {E : List (Int × Int)} {N : Nat} : Marked E [] (List.replicate N false) := fun y => by
  unfold bget; rw [List.getElem?_replicate]; split <;> simp
theorem Adds.start {bs : List Bool} : Adds bs bs [] := fun y => by simp
theorem Adds.step {bs bs' : List Bool} {ys : List Int} (h : Adds bs bs' ys) {Y : Nat} (hY : Y < bs'.length) : Adds bs (bs'.set Y true) (ys ++ [(Y : Int)]) := fun y => by
  rw [bget_set _ _ hY, Bool.or_eq_true, h y, decide_eq_true_eq, List.mem_append, List.mem_singleton]
  constructor
  · rintro (rfl | h | h)
    · exact .inr (.inr rfl)
    · exact .inl h
    · exact .inr (.inl h)
  · rintro (h | h | h)
    · exact .inr (.inl h)
    · exact .inr (.inr h)
    · exact .inl (by omega)
theorem Marked.step {E : List (Int × Int)} {xs rs : List Int} {x : Int} {bs bs' : List Bool} (h : Marked E xs bs) (hr : IsReach E x rs) (ha : Adds bs bs' (x :: rs)) : Marked E (xs ++ [x]) bs' := fun y => by
  rw [ha y, h y]
  constructor
  · rintro (⟨z, hz, hp⟩ | hm)
    · exact ⟨z, by simp [hz], hp⟩
    · refine ⟨x, by simp, ?_⟩
      rcases List.mem_cons.1 hm with h1 | h1
      · exact .inl h1
      · exact .inr ((hr.2 _).1 h1)
  · rintro ⟨z, hz, hp⟩
    rcases List.mem_append.1 hz with h1 | h1
    · exact .inl ⟨z, h1, hp⟩
    · obtain rfl : z = x := by simpa using h1
      refine .inr ?_
      rcases hp with h2 | h2
      · simp [h2]
      · exact List.mem_cons_of_mem _ ((hr.2 _).2 h2)
theorem Marked.all {E : List (Int × Int)} {v : Int} {bs : List Bool} (h : Marked E (outL E v) bs) : ∀ x : Nat, bget bs x = true ↔ Path E v (x : Int) := fun y => by
  rw [h y, path_split]
  constructor
  · rintro ⟨x, hx, hp⟩; exact ⟨x, mem_outL.1 hx, hp⟩
  · rintro ⟨x, hx, hp⟩; exact ⟨x, mem_outL.2 hx, hp⟩
theorem own_one (w : World) (b : Nat) (x : Value) (t : TypeId) (h : w.heap[b]? = some (.cells #[x] t (0, 0))) : w.ownsRow b t 1 (.slice (some ⟨b, 0, none⟩) 1 1) 1 [x] :=
  ⟨rfl, .inr ⟨b, 1, _, rfl, Nat.le_refl _, h, Nat.le_refl _, by unfold maxLen; omega, by simp, by simp⟩⟩
theorem out_new (b : Nat) (n v : Int) (E : List (Int × Int)) (F : Nat → Prop) (w : World) (hG : IsGraph w F b n E) (hv : okI v) (hfew : E.length ≤ 1099511627776) :
    Calls Try.prog 26 #[.pointer (some ⟨b, 0, none⟩), .int .i64 v] w fun e w' => ∃ A c, e = .returned (.slice A (outL E v).length c) ∧ SlI w' A (outL E v) ∧ (∀ k off, A = some ⟨k, off, none⟩ → w.heap.size ≤ k) ∧ Grew w w' := by
  refine (out_at b n v E F w hG hv hfew).mono ?_
  rintro e w' ⟨r, rfl, hn, hg⟩
  obtain ⟨A, c, rfl, hi, _, _, hk⟩ := hn.form
  exact ⟨A, c, rfl, hi, fun k off e => (hk k off e).1, hg⟩
set_option maxRecDepth 100000 in
set_option maxHeartbeats 1000000 in
theorem paths_big (n v : Int) (A : Option Addr) (c m : Nat) (w : World) (h : n < 0 ∨ 30 < n ∨ 150 < m) :
    Calls Try.prog 4 #[.int .i64 n, .slice A m c, .int .i64 v] w fun e w' => e = .returned (.bool true) ∧ Grew w w' := by
  go_enter Try.func4, Try.ntmps4
  go_wp2_with (first
    | (go_at_call 21; refine (make_big n A c m w h).mono ?_; rintro e w1 ⟨rfl, rfl⟩)
    | (go_at_call 22; refine (alive_at w).mono ?_; rintro e w2 ⟨rfl, hg⟩))
  go_ret
  exact ⟨rfl, hg⟩
set_option maxRecDepth 100000 in
set_option maxHeartbeats 4000000 in
theorem paths_at (N : Nat) (v : Int) (A : Option Addr) (c : Nat) (l : List (Int × Int)) (w : World) (h1 : N ≤ 30) (hm : l.length ≤ 150) (hl : SlE w A l) (hlo : ∀ e ∈ l, okE e) (hv : okI v) :
    Calls Try.prog 4 #[.int .i64 N, .slice A l.length c, .int .i64 v] w fun e w' => e = .returned (.bool true) ∧ Grew w w' := by
  have HE := hid (addAll_length (N : Int) [] l)
  obtain ⟨i0, hi0, hz0, hz1, hz2⟩ := info_parts info_bool
  have hmk : ∀ W : World, (Instr.makeSlice 33 (.int .i64 (N : Int)) (.int .i64 (N : Int))).run Try.prog W = .ok (.slice (some ⟨W.heap.size, 0, none⟩) N N) (W.alloc (.cells ((List.replicate N false).map Value.bool).toArray 4)) := fun W => by
    have h := run_make (P := Try.prog) W 33 4 i0 (.bool false) Try.underlying33 hi0 hz0 .i64 .i64 (N : Int) (N : Int) (by omega) (Int.le_refl _) (by rw [hz2]; omega) (by omega)
    rw [h, hz1]
    simp only [Int.toNat_natCast, Nat.mul_one]
    congr 4
    apply Array.ext'
    rw [show (Value.bool false).cells = #[.bool false] from rfl, toList_madeCells_one]
    simp
  clear hi0 hz0 hz1 hz2
  obtain ⟨i1, hi1, hz1, hz2, hz3⟩ := info_parts info_int
  have HI := hid (And.intro hi1 (And.intro hz1 (And.intro hz2 hz3)))
  clear hi1 hz1 hz2 hz3
  have HV := hid hv
  clear hv
  go_enter Try.func4, Try.ntmps4
  go_wp2_with (go_at_call 21; refine (make_at N A c l w (by omega) (by omega) hm hl hlo).mono ?_; rintro e w1 ⟨b, b2, rfl, hG, hR, hg⟩)
  generalize hEE : addAll (N : Int) [] l = E at *
  have HB0 : Hid (Bools (w1.alloc (.cells ((List.replicate N false).map Value.bool).toArray 4)) w1.heap.size (List.replicate N false)) := hid (heap_alloc_new w1 _)
  have HW : Hid (w1.alloc (.cells ((List.replicate N false).map Value.bool).toArray 4) = w1.alloc (.cells (Array.replicate N (.bool false)) 4)) := hid (by simp)
  have hlenE : Hid (E.length ≤ 1048576) := hid (by have := HE.out.2; simp at this; omega)
  have hltb := hG.lt
  have H1 := hid (And.intro hG (And.intro hR (And.intro hG.2.2 (And.intro hg hg.size))))
  clear hG hR hg hl hlo hEE
  go_wp2_with (go_at_call 26; refine (out_new b N v E _ _ (H1.out.1.grew (Only.alloc _ _)) HV.out (by have := hlenE.out; omega)).mono ?_; rintro e w2 ⟨A2, c2, rfl, hi2, hk2, hg2⟩)
  have HB2 : Hid (Bools w2 w1.heap.size (List.replicate N false)) := hid ((HW.out ▸ HB0.out).only hg2 (fun h => h))
  have hol := outL_length E v
  have H2 := hid (And.intro hi2 (And.intro (And.intro hk2 hg2.size) hg2))
  clear hi2 hk2 hg2 HB0 HW hmk
  have hne2 : Hid (∀ k off, A2 = some ⟨k, off, none⟩ → ¬ (k = w1.heap.size)) := hid (fun k off e => by have := H2.out.2.1.1 k off e; simp at this; omega)
  generalize hsb : w1.heap.size = sb at *
  have HG2 : Hid (∀ wr, Only (fun i => i = sb) w2 wr → IsGraph wr (fun k => w.heap.size ≤ k ∧ k < sb) b N E) := hid fun wr hO => ((H1.out.1.grew (Only.alloc _ _)).grew H2.out.2.2).only hO (fun i hi h => by omega)
  go_loopw [33] (fun i wr => ∃ (k : Nat) (bs : List Bool), i = .int .i64 k ∧ k ≤ (outL E v).length ∧ Bools wr sb bs ∧ bs.length = N ∧ Marked E ((outL E v).take k) bs ∧ Only (fun i => i = sb) w2 wr) (fun i _ => (outL E v).length - (intOf i).toNat)
  case atStart => exact ⟨0, _, rfl, by omega, HB2.out, by simp, Marked.start, Only.refl _ _⟩
  case round =>
    obtain ⟨k, bs, rfl, hk, hB, hbN, hM, hO⟩ := hrel
    have HB := hid hB
    have HM := hid hM
    have HO := hid hO
    have hsl := H2.out.1.only hO hne2.out
    have hsz := hO.size
    have hsbl : sb < wr.heap.size := (Array.getElem?_eq_some_iff.1 hB).1
    clear hB hM hO HB2
    obtain ⟨wo, rfl⟩ : ∃ wo : World, wo = wr := ⟨_, rfl⟩
    by_cases hlt : k < (outL E v).length
    · obtain ⟨bl, off, rfl, hcell⟩ := hsl (by omega)
      have h1 := hcell k hlt
      obtain ⟨x, hx⟩ : ∃ x, (outL E v)[k]? = some x := ⟨_, List.getElem?_eq_getElem hlt⟩
      simp only [hx, Option.getD_some] at h1
      have hvx := mem_outL.1 (List.mem_of_getElem? hx)
      have hxr := (H1.out.2.2.1 _ hvx).2.1
      have HX := hid hx
      have hb0 : (k : Int) < ((outL E v).length : Int) := by omega
      clear hcell hsl hx hvx
      have hb1 := heap_alloc_new wo (.cells #[.int .i64 x] 3)
      have HB1 := hid hb1
      clear hb1
      go_wp2_with (first
        | (go_at_call 24; refine (reach_ex b N x E _ _ ((HG2.out wo HO.out).grew (Only.alloc _ _)) ⟨by omega, by omega⟩ hlenE.out).mono ?_; rintro e w3 ⟨A3, c3, rs, rfl, hi3, hr3, hx3, hg3⟩
           have hrl : Hid (rs.length ≤ N) := hid (length_le_of_range (hr3.1.imp (fun h => by omega)) (fun y hy => path_range H1.out.2.2.1 ((hr3.2 y).1 hy)))
           have HOW : Hid (w3.ownsRow 0 3 1 (.slice (some ⟨wo.heap.size, 0, none⟩) 1 1) 1 [.int .i64 x]) := hid (own_base (own_one w3 _ _ _ (hg3.heap HB1.out (fun h => h))) (Nat.zero_le _))
           have H3 := hid (And.intro hi3 (And.intro hr3 (And.intro hg3 hg3.size)))
           clear hi3 hr3 hg3)
        | (at_builtin; go_loud (refine wpList_append_src _ rfl (.tmp 38) (.tmp 41) 29 rfl 0 3 i1 _ 1 8 Try.underlying29 HI.out.1 HI.out.2.1 HI.out.2.2.1 HI.out.2.2.2 rfl (by omega) wo.heap.size 1 1 [.int .i64 x] rfl HOW.out A3 rs.length c3 (rs.map (Value.int .i64)) rfl (SlI.cells H3.out.1) (oneCell_ints _) (by unfold maxLen; have := hrl.out; omega) (by have := hrl.out; omega) (by simp) ?_; intro g4 c4 w4 hown4 hgrow4 hat4 hlt4)))
      have hk4 : Only (fun i => i = wo.heap.size) wo w4 := ((Only.alloc (F := fun i => i = wo.heap.size) _ _).trans (H3.out.2.2.1.to) (fun _ _ h => h)).trans (Only.of_grownBy hgrow4 (fun i e => by cases e; exact .inl rfl)) (fun _ _ h => h)
      have hO4 : Only (fun i => i = sb) w2 w4 := HO.out.trans hk4 (fun i hi h => by have := HO.out.size; omega)
      have hB4 : Bools w4 sb bs := HB.out.only hk4 (by omega)
      have hg4 : g4 ≠ sb := by have := H3.out.2.2.2; simp at this; omega
      have hys : SlI w4 (some ⟨g4, 0, none⟩) (x :: rs) := SlI.of_own (n := 1 + rs.length) (c := c4) (base := 0) (e := 3) (by simpa using hown4)
      have H4 := hid (And.intro hO4 (And.intro hB4 (And.intro hg4 hys)))
      clear hown4 hgrow4 hat4 hO4 hB4 hys hk4
      go_loopw [44] (fun i wr => ∃ (j : Nat) (bs' : List Bool), i = .int .i64 j ∧ j ≤ 1 + rs.length ∧ Bools wr sb bs' ∧ bs'.length = N ∧ Adds bs bs' ((x :: rs).take j) ∧ Only (fun i => i = sb) w4 wr) (fun i _ => 1 + rs.length - (intOf i).toNat)
      case atStart => exact ⟨0, bs, rfl, by omega, H4.out.2.1, hbN, Adds.start, Only.refl _ _⟩
      case round =>
        obtain ⟨j, bs', rfl, hj, hB', hbN', hA', hO'⟩ := hrel
        have hfz := fun i => hB'.frozen i
        have hys' := H4.out.2.2.2.only hO' (fun k off e => by cases e; exact hg4)
        have HB' := hid hB'
        have HA' := hid hA'
        have HO' := hid hO'
        have hrl' := hrl.out
        have hlen' := hlenE.out
        by_cases hjl : j < 1 + rs.length
        · obtain ⟨q1, q2, e, hcell⟩ := hys' (by simp)
          cases e
          have h2 := hcell j (by rw [List.length_cons]; omega)
          obtain ⟨y, hy⟩ : ∃ y, (x :: rs)[j]? = some y := ⟨_, List.getElem?_eq_getElem (by rw [List.length_cons]; omega)⟩
          simp only [hy, Option.getD_some, Nat.zero_add] at h2
          have hyr : 0 ≤ y ∧ y < (N : Int) := by
            rcases List.mem_cons.1 (List.mem_of_getElem? hy) with h | h
            · rw [h]; exact hxr
            · exact path_range H1.out.2.2.1 ((H3.out.2.1.2 y).1 h)
          obtain ⟨Y, rfl⟩ := Int.eq_ofNat_of_zero_le hyr.1
          have hY : Y < N := by have := hyr.2; omega
          have d1 : decide ((Y : Int) < 0) = false := by simp
          have d2 : decide ((N : Int) ≤ (Y : Int)) = false := by simp; omega
          have HY := hid hy
          have hb1 : (j : Int) < 1 + (rs.length : Int) := by omega
          have hy0 := hB'.cell (i := Y) (by omega)
          have hfy := hfz Y
          clear hcell hys' hy hyr hB' hA' hO' hfz
          go_wp2
          go_roundw
          case rel =>
            refine ⟨j + 1, bs'.set Y true, by go_num, by omega, HB'.out.set Y true, by simpa using hbN', ?_, HO'.out.trans (Only.setCell (F := fun i => i = sb) _ rfl _) (fun _ _ h => h)⟩
            rw [List.take_add_one, HY.out]
            exact HA'.out.step (by omega)
          case measure => simp [intOf]; omega
        · obtain rfl : j = 1 + rs.length := by omega
          have hb1 : ¬ ((1 + rs.length : Nat) : Int) < 1 + (rs.length : Int) := by omega
          clear hys' hB' hA' hO' hfz
          go_wp2
          go_roundw
          case rel =>
            refine ⟨k + 1, bs', by go_num, by omega, HB'.out, hbN', ?_, H4.out.1.trans HO'.out (fun _ _ h => h)⟩
            rw [List.take_add_one, HX.out]
            have ha := HA'.out
            rw [List.take_of_length_le (by simp; omega)] at ha
            exact HM.out.step H3.out.2.1 ha
          case measure => simp [intOf]; omega
    · obtain rfl : k = (outL E v).length := by omega
      have HBB := hid hbN
      have hM' := HM.out
      rw [List.take_length] at hM'
      have HRF := hid (reach_filter H1.out.2.2.1 hM'.all)
      clear hsl hM'
      obtain ⟨B, hBs⟩ : ∃ B, wo.heap.size = B := ⟨_, rfl⟩
      go_wp2_with fail
      go_loopw [14, 61] (fun xv i wr => ∃ k : Nat, k ≤ N ∧ i = .int .i64 k ∧ wr.ownsRow (sb + 1) 3 1 xv (((verts N).take k).filter (fun x => bget bs x.toNat)).length ((((verts N).take k).filter (fun x => bget bs x.toNat)).map (Value.int .i64)) ∧
         (((verts N).take k).filter (fun x => bget bs x.toNat)).length ≤ k ∧ Bools wr sb bs ∧ Only (fun i => sb < i) wo wr) (fun _ i _ => N - (intOf i).toNat)
      case atStart => exact ⟨0, by omega, rfl, ⟨by simp, .inl ⟨rfl, by simp⟩⟩, by simp, HB.out, Only.refl _ _⟩
      case round =>
        obtain ⟨k, hk, rfl, hrow, hlen, hB, hO⟩ := hrel
        have hOs := hO.size
        by_cases hlt : k < N
        · have hc := hB.cell (i := k) (by omega)
          have htk := verts_take_succ N k hlt
          have hb0 : (k : Int) < (N : Int) := by omega
          generalize hbk : bget bs k = bk at hc
          have HBK := hid hbk
          have HTK := hid htk
          have HR := hid hrow
          have HB' := hid hB
          have HOO := hid hO
          have HL := hid hlen
          clear hbk htk hrow hB hO hlen
          generalize hL : ((verts N).take k).filter (fun x => bget bs x.toNat) = L at *
          cases bk
          · go_wp2
            go_roundw
            case rel =>
              have hfl : ((verts N).take (k + 1)).filter (fun x => bget bs x.toNat) = L := by
                rw [HTK.out, List.filter_append, hL]
                simp [HBK.out]
              exact ⟨k + 1, by omega, by go_num, hfl ▸ HR.out, by rw [hfl]; have := HL.out; omega, HB'.out, HOO.out⟩
            case measure => simp [intOf]; omega
          · go_wp2_with (at_builtin; go_loud (refine wpList_append_own _ rfl (.tmp 68) (.tmp 70) 29 rfl (sb + 1) 3 i1 _ 1 8 Try.underlying29 HI.out.1 HI.out.2.1 HI.out.2.2.1 HI.out.2.2.2 rfl (by omega) _ L.length (L.map (Value.int .i64)) rfl (own_only HR.out (Only.alloc (F := fun _ => False) _ _) (fun _ _ h => h)) _ 1 1 [.int .i64 k] rfl rfl (new_one _ _ _) (by simp [Value.oneCell']) (by unfold maxLen; have := HL.out; omega) (by have := HL.out; omega) (by simp; omega) ?_; intro xv2 w2' hown2 hgrow2 _))
            have hk2 : Only (fun i => sb < i) (wr.alloc (.cells #[.int .i64 (k : Int)] 3)) w2' := Only.of_grownBy hgrow2 (fun i e => .inl (by
              rcases HR.out.2 with ⟨rfl, _⟩ | ⟨gg, cap, cur, rfl, hgg, _⟩
              · replace e : Value.ownBlock (.slice none 0 0) = some i := e
                cases e
              · cases e; exact hgg))
            have hB2 : Bools w2' sb bs := (HB'.out.only (Only.alloc (F := fun _ => False) _ _) (fun h => h)).only hk2 (Nat.lt_irrefl _)
            have hO2 : Only (fun i => sb < i) wo w2' := HOO.out.trans ((Only.alloc (F := fun i => sb < i) wr _).trans hk2 (fun _ _ h => h)) (fun _ _ h => h)
            have HFIN := hid (And.intro hown2 (And.intro hB2 hO2))
            clear hown2 hgrow2 hk2 hB2 hO2
            go_wp2
            go_roundw
            case rel =>
              obtain ⟨a1, a2, a3⟩ := HFIN.out
              have hfl : ((verts N).take (k + 1)).filter (fun x => bget bs x.toNat) = L ++ [(k : Int)] := by
                rw [HTK.out, List.filter_append, hL]
                simp [HBK.out]
              refine ⟨k + 1, by omega, by go_num, ?_, ?_, a2, a3⟩
              · rw [hfl]; simpa using a1
              · rw [hfl]; have := HL.out; simp; omega
            case measure => simp [intOf]; omega
        · obtain rfl : k = N := by omega
          rw [List.take_of_length_le (by simp [verts])] at hrow hlen
          obtain ⟨A7, c7, rfl, hi7⟩ := own_form hrow
          generalize hLL : (verts k).filter (fun x => bget bs x.toNat) = L at *
          have hsw := H1.out.2.2.2.2
          have hGr := hid ((HG2.out wo HO.out).only hO (fun i hi h => by omega))
          have q0 : Only (fun i => w.heap.size ≤ i) w w2 := Grew.to (Grew.trans H1.out.2.2.2.1 (Grew.trans (Only.alloc _ _) H2.out.2.2))
          have hq := hid ((q0.trans HO.out (fun i _ h => by omega)).trans hO (fun i _ h => by omega))
          have H7 := hid hi7
          have hLk : L.length ≤ 9223372036854775807 := by omega
          have HLk := hid hLk
          clear hrow hi7 hB hO q0 hlen hLL hLk hne2
          go_wp2_with (go_at_call 22; refine (alive_at wr).mono ?_; rintro e w5 ⟨rfl, hg5⟩)
          have H5 := hid hg5
          clear hg5
          go_wp2_with (go_at_call 24; refine (reach_is b k v E _ w5 (hGr.out.grew H5.out) HV.out hlenE.out L HRF.out).mono ?_; rintro e w6 ⟨A6, c6, rfl, hi6, hg6⟩)
          have H6 := hid (And.intro hi6 hg6)
          clear hi6 hg6
          go_wp2_with (go_at_call 23; refine (equal_same A6 A7 c6 c7 L w6 H6.out.1 ((H7.out.grew H5.out).grew H6.out.2) HLk.out).mono ?_; rintro e w7 ⟨rfl, hg7⟩)
          go_ret
          exact ⟨rfl, Grew.trans (Fresh.grew hq.out) (Grew.trans H5.out (Grew.trans H6.out.2 hg7))⟩
end Go.Proofs.Ytlpkolmaklnffaa
