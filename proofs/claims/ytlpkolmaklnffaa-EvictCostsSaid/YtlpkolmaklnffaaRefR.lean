/- The reference's Reach. -/
import Derived.Test.YtlpkolmaklnffaaDig3
import Derived.Test.YtlpkolmaklnffaaPath
import Derived.Laws.MakeOwn
import Derived.Laws.OwnMore
import Derived.Maps.AppendAt
namespace Go.Proofs.Ytlpkolmaklnffaa
open Go.RowKit Go.MapKept

theorem info_bool : (Try.prog.info? 4).map (fun i => (i.zero, i.size, i.bytes)) = some (some (.bool false), 1, 1) := by kernel_rfl
def bget (bs : List Bool) (i : Nat) : Bool := bs[i]?.getD false
/-- Block sb is the row of Booleans bs. -/
def Bools (w : World) (sb : Nat) (bs : List Bool) : Prop := w.heap[sb]? = some (.cells (bs.map Value.bool).toArray 4 (0, 0))
theorem Bools.cell {w : World} {sb : Nat} {bs : List Bool} (h : Bools w sb bs) {i : Nat} (hi : i < bs.length) : w.cell? ⟨sb, i, none⟩ = some (.bool (bget bs i)) := by
  have := cell_of_row w sb i _ _ _ h
  rw [this]
  simp [bget, List.getElem?_eq_getElem hi]
theorem Bools.frozen {w : World} {sb : Nat} {bs : List Bool} (h : Bools w sb bs) (i : Nat) : w.frozen? ⟨sb, i, none⟩ = false := by
  unfold Bools at h
  simp [World.frozen?, h]
theorem Bools.only {F : Nat → Prop} {w w' : World} {sb : Nat} {bs : List Bool} (h : Bools w sb bs) (k : Only F w w') (hn : ¬ F sb) : Bools w' sb bs := k.heap h hn
theorem Bools.set {w : World} {sb : Nat} {bs : List Bool} (h : Bools w sb bs) (i : Nat) (x : Bool) : Bools (w.setCell ⟨sb, i, none⟩ (.bool x)) sb (bs.set i x) := by
  unfold Bools at h ⊢
  simp [World.setCell, Array.getElem?_modify, h]
theorem bget_set (bs : List Bool) (i : Nat) (hi : i < bs.length) (j : Nat) : bget (bs.set i true) j = (decide (j = i) || bget bs j) := by
  unfold bget
  rw [List.getElem?_set]
  by_cases h : i = j
  · subst h; simp [hi]
  · have : ¬ j = i := fun e => h e.symm
    simp [h, this]
def isFalse : Value → Bool | .bool false => true | _ => false
def falses (w : World) (sb : Nat) : Nat := match w.heap[sb]? with | some (.cells c _ _) => c.toList.countP isFalse | _ => 0
theorem Bools.falses {w : World} {sb : Nat} {bs : List Bool} (h : Bools w sb bs) : falses w sb = bs.count false := by
  unfold Bools at h
  simp only [Go.Proofs.Ytlpkolmaklnffaa.falses, h]
  rw [List.count, List.countP_map]
  congr 1
  funext x
  cases x <;> rfl
theorem count_set (bs : List Bool) (i : Nat) (hi : i < bs.length) (h : bget bs i = false) : (bs.set i true).count false < bs.count false := by
  induction bs generalizing i with
  | nil => simp at hi
  | cons b r ih =>
    cases i with
    | zero =>
      simp [bget] at h
      subst h
      simp
    | succ i =>
      have h' : bget r i = false := by simpa [bget] using h
      have := ih i (by simpa using hi) h'
      simp only [List.set_cons_succ, List.count_cons]
      omega
/-- What the loop over the edges keeps. -/
def Sound (E : List (Int × Int)) (v : Int) (bs : List Bool) : Prop := ∀ i : Nat, bget bs i = true → Path E v (i : Int)
def ClosedTo (E : List (Int × Int)) (v : Int) (bs : List Bool) (k : Nat) : Prop := ∀ j e, j < k → E[j]? = some e → (e.1 = v ∨ bget bs e.1.toNat = true) → bget bs e.2.toNat = true
theorem Sound.set {E : List (Int × Int)} {v : Int} {bs : List Bool} (h : Sound E v bs) {k U X : Nat} (he : E[k]? = some ((U : Int), (X : Int))) (hX : X < bs.length) (hc : (U : Int) = v ∨ bget bs U = true) : Sound E v (bs.set X true) := fun i hi => by
  rw [bget_set _ _ hX] at hi
  simp only [Bool.or_eq_true, decide_eq_true_eq] at hi
  have hm := List.mem_of_getElem? he
  rcases hi with rfl | hi
  · rcases hc with hc | hc
    · exact .one (hc ▸ hm)
    · exact .more (h U hc) hm
  · exact h i hi
theorem closed_path {E : List (Int × Int)} {v : Int} {bs : List Bool} (hs : Sound E v bs) (hc : ClosedTo E v bs E.length) (x : Nat) : bget bs x = true ↔ Path E v (x : Int) := by
  refine ⟨hs x, fun p => ?_⟩
  have key : ∀ y : Int, Path E v y → bget bs y.toNat = true := by
    intro y p
    induction p with
    | one e =>
      obtain ⟨j, hj⟩ := List.getElem?_of_mem e
      exact hc j _ (List.getElem?_eq_some_iff.1 hj).1 hj (.inl rfl)
    | more p e ih =>
      obtain ⟨j, hj⟩ := List.getElem?_of_mem e
      exact hc j _ (List.getElem?_eq_some_iff.1 hj).1 hj (.inr ih)
  simpa using key _ p
theorem reach_filter {E : List (Int × Int)} {n : Nat} {v : Int} {bs : List Bool} (hE : ∀ e ∈ E, (0 ≤ e.1 ∧ e.1 < (n : Int)) ∧ (0 ≤ e.2 ∧ e.2 < (n : Int)) ∧ e.1 ≠ e.2) (h : ∀ x : Nat, bget bs x = true ↔ Path E v (x : Int)) :
    IsReach E v ((verts n).filter (fun x => bget bs x.toNat)) := by
  refine ⟨(verts_sorted n).filter _, fun x => ?_⟩
  rw [List.mem_filter, mem_verts]
  constructor
  · rintro ⟨⟨h0, _⟩, h2⟩
    have := (h x.toNat).1 h2
    rwa [Int.toNat_of_nonneg h0] at this
  · intro p
    have hr := path_range hE p
    refine ⟨hr, (h x.toNat).2 ?_⟩
    rwa [Int.toNat_of_nonneg hr.1]

abbrev Valid (n : Int) (E : List (Int × Int)) : Prop := ∀ e ∈ E, (0 ≤ e.1 ∧ e.1 < n) ∧ (0 ≤ e.2 ∧ e.2 < n) ∧ e.1 ≠ e.2
def flag : Value → Nat | .bool true => 1 | _ => 0
theorem ClosedTo.zero (E : List (Int × Int)) (v : Int) (bs : List Bool) : ClosedTo E v bs 0 := fun j _ h => absurd h (Nat.not_lt_zero j)
theorem ClosedTo.succ {E : List (Int × Int)} {v : Int} {bs : List Bool} {k : Nat} {U X : Nat} (h : ClosedTo E v bs k) (he : E[k]? = some ((U : Int), (X : Int))) (hc : ((U : Int) = v ∨ bget bs U = true) → bget bs X = true) : ClosedTo E v bs (k + 1) := by
  intro j e hj hje hv
  by_cases hk : j = k
  · subst hk
    rw [he] at hje
    cases hje
    simpa using hc (by simpa using hv)
  · exact h j e (by omega) hje hv
theorem verts_take_succ (N k : Nat) (h : k < N) : (verts N).take (k + 1) = (verts N).take k ++ [(k : Int)] := by
  rw [List.take_add_one]
  simp [verts, h]

theorem new_one (w : World) (x : Value) (t : TypeId) : ∀ j u, [x][j]? = some u → (w.alloc (.cells #[x] t)).cell? ((⟨w.heap.size, 0, none⟩ : Addr).add j) = some u := by
  intro j u h
  rw [add_none, Nat.zero_add]
  match j with
  | 0 =>
    simp at h
    subst h
    exact cell_of_row _ _ 0 _ _ _ (heap_alloc_new w _)
  | j + 1 => simp at h
set_option maxRecDepth 100000 in
set_option maxHeartbeats 2000000 in
theorem rreach_at (b N : Nat) (v : Int) (E : List (Int × Int)) (F : Nat → Prop) (w : World) (hG : IsRef w F b N E) (hN : N ≤ 1048576) (hE : Valid N E) :
    Calls Try.prog 25 #[.pointer (some ⟨b, 0, none⟩), .int .i64 v] w fun e w' => ∃ r xs, e = .returned r ∧ NewInts w w' r xs ∧ IsReach E v xs ∧ Grew w w' := by
  obtain ⟨A', c', g⟩ := hG
  have k0 := cell_of_row _ _ 0 _ _ _ g.blk
  simp at k0
  have hcap := g.cap
  have hcmax := g.cmax
  unfold maxLen at hcmax
  obtain ⟨i0, hi0, hz0, hz1, hz2⟩ := info_parts info_bool
  have hmk : ∀ W : World, (Instr.makeSlice 33 (.int .i64 (N : Int)) (.int .i64 (N : Int))).run Try.prog W = .ok (.slice (some ⟨W.heap.size, 0, none⟩) N N) (W.alloc (.cells ((List.replicate N false).map Value.bool).toArray 4)) := fun W => by
    have h := run_make (P := Try.prog) W 33 4 i0 (.bool false) Try.underlying33 hi0 hz0 .i64 .i64 (N : Int) (N : Int) (by omega) (Int.le_refl _) (by rw [hz2]; omega) (by omega)
    rw [h, hz1]
    simp only [Int.toNat_natCast, Nat.mul_one]
    congr 4
    apply Array.ext'
    rw [show (Value.bool false).cells = #[.bool false] from rfl, toList_madeCells_one]
    simp
  have HB0 : Hid (Bools (w.alloc (.cells ((List.replicate N false).map Value.bool).toArray 4)) w.heap.size (List.replicate N false)) := hid (heap_alloc_new w _)
  have HG := hid (fun (wr : World) (hO : Only (fun i => w.heap.size ≤ i) w wr) => g.only (Fresh.grew hO) (fun _ _ h => h))
  clear hi0 hz0 hz1 hz2 g
  go_enter Try.func25, Try.ntmps25
  go_wp2
  have HSTEP0 : Hid (Sound E v (List.replicate N false)) := hid (fun i hi => by unfold bget at hi; rw [List.getElem?_replicate] at hi; split at hi <;> simp at hi)
  have HV := hid hE
  obtain ⟨i1, hi1, hz1, hz2, hz3⟩ := info_parts info_int
  have HI := hid (And.intro hi1 (And.intro hz1 (And.intro hz2 hz3)))
  clear hE hi1 hz1 hz2 hz3 hmk k0
  go_loopw [6] (fun gv wr => ∃ (gb : Bool) (bs : List Bool), gv = .bool gb ∧ Bools wr w.heap.size bs ∧ bs.length = N ∧ Sound E v bs ∧ (gb = false → ClosedTo E v bs E.length) ∧ Only (fun i => w.heap.size ≤ i) w wr) (fun gv wr => 2 * falses wr w.heap.size + flag gv)
  case atStart => exact ⟨true, _, rfl, by simpa using HB0.out, by simp, HSTEP0.out, (by intro h; cases h), Only.alloc _ _⟩
  case round =>
    obtain ⟨gb, bs, rfl, hB, hbN, hS, hC, hO⟩ := hrel
    have HB := hid hB
    have HS := hid hS
    have HO := hid hO
    have HC := hid hC
    clear hB hS hO hC HSTEP0 HB0
    obtain ⟨wo, rfl⟩ : ∃ wo : World, wo = wr := ⟨_, rfl⟩
    cases gb
    · go_wp2
      go_loopw [9, 10] (fun xv i wr => ∃ k : Nat, k ≤ N ∧ i = .int .i64 k ∧ wr.ownsRow (w.heap.size + 1) 3 1 xv (((verts N).take k).filter (fun x => bget bs x.toNat)).length ((((verts N).take k).filter (fun x => bget bs x.toNat)).map (Value.int .i64)) ∧
         (((verts N).take k).filter (fun x => bget bs x.toNat)).length ≤ k ∧ Bools wr w.heap.size bs ∧ Only (fun i => w.heap.size ≤ i) w wr) (fun _ i _ => N - (intOf i).toNat)
      case atStart => exact ⟨0, by omega, rfl, ⟨by simp, .inl ⟨rfl, by simp⟩⟩, by simp, HB.out, HO.out⟩
      case round =>
        obtain ⟨k, hk, rfl, hrow, hlen, hB, hO⟩ := hrel
        have k1 := cell_of_row _ _ 0 _ _ _ (HG.out wr hO).blk
        simp at k1
        have hO' := HO.out.size
        have hOs := hO.size
        by_cases hlt : k < N
        · have hc := hB.cell (i := k) (by omega)
          have htk := verts_take_succ N k hlt
          have hb0 : (k : Int) < (N : Int) := by omega
          generalize hbk : bget bs k = bk at hc
          have HBK := hid hbk
          have HTK := hid htk
          have HR := hid hrow
          have HB' := hid hB
          have HOO := hid hO
          have HL := hid hlen
          clear hbk htk hrow hB hO hlen
          generalize hL : ((verts N).take k).filter (fun x => bget bs x.toNat) = L at *
          cases bk
          · go_wp2
            go_roundw
            case rel =>
              have hfl : ((verts N).take (k + 1)).filter (fun x => bget bs x.toNat) = L := by
                rw [HTK.out, List.filter_append, hL]
                simp [HBK.out]
              exact ⟨k + 1, by omega, by go_num, hfl ▸ HR.out, by rw [hfl]; have := HL.out; omega, HB'.out, HOO.out⟩
            case measure => simp [intOf]; omega
          · go_wp2_with (at_builtin; go_loud (refine wpList_append_own _ rfl (.tmp 68) (.tmp 70) 29 rfl (w.heap.size + 1) 3 i1 _ 1 8 Try.underlying29 HI.out.1 HI.out.2.1 HI.out.2.2.1 HI.out.2.2.2 rfl (by omega) _ L.length (L.map (Value.int .i64)) rfl (own_only HR.out (Only.alloc (F := fun _ => False) _ _) (fun _ _ h => h)) _ 1 1 [.int .i64 k] rfl rfl (new_one _ _ _) (by simp [Value.oneCell']) (by unfold maxLen; have := HL.out; omega) (by have := HL.out; omega) (by simp; omega) ?_; intro xv2 w2 hown2 hgrow2 _))
            have hk2 : Only (fun i => w.heap.size < i) (wr.alloc (.cells #[.int .i64 (k : Int)] 3)) w2 := Only.of_grownBy hgrow2 (fun i e => .inl (by
              rcases HR.out.2 with ⟨rfl, _⟩ | ⟨gg, cap, cur, rfl, hgg, _⟩
              · replace e : Value.ownBlock (.slice none 0 0) = some i := e
                cases e
              · cases e; exact hgg))
            have hB2 : Bools w2 w.heap.size bs := (HB'.out.only (Only.alloc (F := fun _ => False) _ _) (fun h => h)).only hk2 (Nat.lt_irrefl _)
            have hO2 : Only (fun i => w.heap.size ≤ i) w w2 := HOO.out.trans ((Only.alloc (F := fun i => w.heap.size ≤ i) wr _).trans hk2 (fun _ _ h => Nat.le_of_lt h)) (fun _ _ h => h)
            have HFIN := hid (And.intro hown2 (And.intro hB2 hO2))
            clear hown2 hgrow2 hk2 hB2 hO2
            go_wp2
            go_roundw
            case rel =>
              obtain ⟨a1, a2, a3⟩ := HFIN.out
              have hfl : ((verts N).take (k + 1)).filter (fun x => bget bs x.toNat) = L ++ [(k : Int)] := by
                rw [HTK.out, List.filter_append, hL]
                simp [HBK.out]
              refine ⟨k + 1, by omega, by go_num, ?_, ?_, a2, a3⟩
              · rw [hfl]; simpa using a1
              · rw [hfl]; have := HL.out; simp; omega
            case measure => simp [intOf]; omega
        · obtain rfl : k = N := by omega
          have HFIN := hid (And.intro hrow hO)
          clear hrow hO hlen hB
          go_wp2
          go_ret
          rw [List.take_of_length_le (by simp [verts])] at *
          exact ⟨_, _, rfl, own_base HFIN.out.1 (Nat.le_succ _), reach_filter HV.out (closed_path HS.out (HC.out (by simp))), Fresh.grew HFIN.out.2⟩
    · go_wp2_with fail
      go_loopw [6, 7] (fun gv i wr => ∃ (k : Nat) (g : Bool) (bs' : List Bool), i = .int .i64 k ∧ k ≤ E.length ∧ gv = .bool g ∧ Bools wr w.heap.size bs' ∧ bs'.length = N ∧ Sound E v bs' ∧ Only (fun i => w.heap.size ≤ i) w wr ∧
        (g = false → bs' = bs ∧ ClosedTo E v bs k) ∧ (g = true → bs'.count false < bs.count false)) (fun _ i _ => E.length - (intOf i).toNat)
      case atStart => exact ⟨0, false, bs, rfl, by omega, rfl, HB.out, hbN, HS.out, HO.out, fun _ => ⟨rfl, ClosedTo.zero _ _ _⟩, (by intro h; cases h)⟩
      case round =>
        obtain ⟨k, g, bs', rfl, hk, rfl, hB', hbN', hS', hO', hF, hT⟩ := hrel
        have g1 := HG.out wr hO'
        have k1 := cell_of_row _ _ 1 _ _ _ g1.blk
        simp at k1
        have hsl := g1.sl
        clear g1
        by_cases hlt : k < E.length
        · obtain ⟨bl, off, rfl, hcell⟩ := hsl (by omega)
          obtain ⟨h1, h2⟩ := hcell k hlt
          obtain ⟨⟨u, x⟩, hux⟩ : ∃ p, E[k]? = some p := ⟨E[k], by simp [hlt]⟩
          have hval := HV.out _ (List.mem_of_getElem? hux)
          obtain ⟨U, rfl⟩ := Int.eq_ofNat_of_zero_le hval.1.1
          obtain ⟨X, rfl⟩ := Int.eq_ofNat_of_zero_le hval.2.1.1
          simp only [hux, Option.getD_some] at h1 h2
          have hU : U < N := by have := hval.1.2; omega
          have hX : X < N := by have := hval.2.1.2; omega
          have hb0 : (k : Int) < (E.length : Int) := by omega
          have hB2 : Bools (wr.alloc (.cells #[.int .i64 U, .int .i64 X] 39)) w.heap.size bs' := hB'.only (Only.alloc (F := fun _ => False) _ _) (fun h => h)
          have hu0 := hB2.cell (i := U) (by omega)
          have hx0 := hB2.cell (i := X) (by omega)
          have c0 : (wr.alloc (.cells #[.int .i64 U, .int .i64 X] 39)).cell? ⟨wr.heap.size, 0, none⟩ = some (.int .i64 U) := cell_of_row _ _ 0 _ _ _ (heap_alloc_new wr _)
          have c1 : (wr.alloc (.cells #[.int .i64 U, .int .i64 X] 39)).cell? ⟨wr.heap.size, 1, none⟩ = some (.int .i64 X) := cell_of_row _ _ 1 _ _ _ (heap_alloc_new wr _)
          have hfz := hB2.frozen X
          have HUX := hid hux
          have HB2 := hid hB2
          have HS' := hid hS'
          have HO' := hid hO'
          have HF := hid hF
          have HT := hid hT
          clear hcell hsl hux hval hB2 hB' hS' hO' hF hT
          generalize hbu : bget bs' U = bu at hu0
          generalize hbx : bget bs' X = bx at hx0
          have HBU := hid hbu
          have HBX := hid hbx
          clear hbu hbx
          by_cases hv : (U : Int) = v
          · subst hv
            cases bx
            · go_wp2
              go_roundw
              case rel =>
                refine ⟨k + 1, true, bs'.set X true, by go_num, by omega, rfl, HB2.out.set X true, by simpa using hbN', HS'.out.set HUX.out (by omega) ?_, HO'.out.trans ((Only.alloc (F := fun i => w.heap.size ≤ i) _ _).trans (Only.setCell _ (Nat.le_refl _) _) (fun _ _ h => h)) (fun _ _ h => h), (by intro h; cases h), fun _ => ?_⟩
                · exact .inl rfl
                · have h1 := count_set bs' X (by omega) HBX.out
                  cases g
                  · rw [← (HF.out rfl).1]; exact h1
                  · have := HT.out rfl; omega
              case measure => simp [intOf]; omega
            · go_wp2
              go_roundw
              case rel =>
                refine ⟨k + 1, g, bs', by go_num, by omega, rfl, HB2.out, hbN', HS'.out, HO'.out.trans (Only.alloc (F := fun _ => False) _ _) (fun _ _ h => h.elim), fun h => ⟨(HF.out h).1, ClosedTo.succ (HF.out h).2 HUX.out ?_⟩, HT.out⟩
                rw [← (HF.out h).1]
                exact fun _ => HBX.out
              case measure => simp [intOf]; omega
          · cases bu
            · go_wp2
              go_roundw
              case rel =>
                refine ⟨k + 1, g, bs', by go_num, by omega, rfl, HB2.out, hbN', HS'.out, HO'.out.trans (Only.alloc (F := fun _ => False) _ _) (fun _ _ h => h.elim), fun h => ⟨(HF.out h).1, ClosedTo.succ (HF.out h).2 HUX.out ?_⟩, HT.out⟩
                rw [← (HF.out h).1]
                exact fun hc => by rcases hc with h' | h'; exact absurd h' hv; rw [HBU.out] at h'; cases h'
              case measure => simp [intOf]; omega
            · cases bx
              · go_wp2
                go_roundw
                case rel =>
                  refine ⟨k + 1, true, bs'.set X true, by go_num, by omega, rfl, HB2.out.set X true, by simpa using hbN', HS'.out.set HUX.out (by omega) ?_, HO'.out.trans ((Only.alloc (F := fun i => w.heap.size ≤ i) _ _).trans (Only.setCell _ (Nat.le_refl _) _) (fun _ _ h => h)) (fun _ _ h => h), (by intro h; cases h), fun _ => ?_⟩
                  · exact .inr HBU.out
                  · have h1 := count_set bs' X (by omega) HBX.out
                    cases g
                    · rw [← (HF.out rfl).1]; exact h1
                    · have := HT.out rfl; omega
                case measure => simp [intOf]; omega
              · go_wp2
                go_roundw
                case rel =>
                  refine ⟨k + 1, g, bs', by go_num, by omega, rfl, HB2.out, hbN', HS'.out, HO'.out.trans (Only.alloc (F := fun _ => False) _ _) (fun _ _ h => h.elim), fun h => ⟨(HF.out h).1, ClosedTo.succ (HF.out h).2 HUX.out ?_⟩, HT.out⟩
                  rw [← (HF.out h).1]
                  exact fun _ => HBX.out
                case measure => simp [intOf]; omega
        · obtain rfl : k = E.length := by omega
          have HFIN := hid (And.intro hB' (And.intro hS' (And.intro hO' (And.intro hF hT))))
          clear hB' hS' hO' hF hT hsl
          go_wp2
          go_roundw
          case rel =>
            obtain ⟨a1, a2, a3, a4, a5⟩ := HFIN.out
            exact ⟨g, bs', rfl, a1, hbN', a2, fun h => (a4 h).1 ▸ (a4 h).2, a3⟩
          case measure =>
            obtain ⟨a1, a2, a3, a4, a5⟩ := HFIN.out
            rw [a1.falses, HB.out.falses]
            cases g
            · rw [(a4 rfl).1]; simp [flag]
            · have := a5 rfl; simp [flag]; omega
end Go.Proofs.Ytlpkolmaklnffaa
