/- The walks of the small functions of evict and of its reference: weight, Right, smallest, slices.DeleteFunc at a row of the call's own. -/
import Derived.Test.YtlpkolmaklnffaaEv
import Derived.Test.YtlpkolmaklnffaaIn
import Derived.Test.YtlpkolmaklnffaaShelf2
namespace Go.Proofs.Ytlpkolmaklnffaa
open Go.RowKit Go.MapKept

theorem wgt_at (ws : List Int) {k : Nat} (h : k < ws.length) : wgt ws k = ws[k]?.getD 0 := by
  unfold wgt
  rw [if_pos ⟨by omega, by omega⟩]
  simp
theorem wgt_out {ws : List Int} {v : Int} (h : v < 0 ∨ (ws.length : Int) ≤ v) : wgt ws v = 0 := by
  unfold wgt
  rw [if_neg (by omega)]
set_option maxHeartbeats 400000 in
theorem weight_at (A : Option Addr) (c : Nat) (ws : List Int) (v : Int) (w : World) (hw : SlI w A ws) (h1 : ws.length ≤ 9223372036854775807) :
    Calls Try.prog 81 #[.slice A ws.length c, .int .i64 v] w fun e w' => e = .returned (.int .i64 (wgt ws v)) ∧ w = w' := by
  by_cases h0 : v < 0
  · rw [wgt_out (.inl h0)]
    have hd : decide (v < 0) = true := by simpa using h0
    clear hw
    go_enter Try.func81, Try.ntmps81
    go_wp2
    go_ret
    exact ⟨rfl, rfl⟩
  · have hd : decide (v < 0) = false := by simpa using h0
    by_cases h2 : (ws.length : Int) ≤ v
    · rw [wgt_out (.inr h2)]
      have hd2 : decide ((ws.length : Int) ≤ v) = true := by simpa using h2
      clear hw
      go_enter Try.func81, Try.ntmps81
      go_wp2
      go_ret
      exact ⟨rfl, rfl⟩
    · have hd2 : decide ((ws.length : Int) ≤ v) = false := by simpa using h2
      obtain ⟨k, rfl⟩ : ∃ k : Nat, v = (k : Int) := ⟨v.toNat, by omega⟩
      have hk : k < ws.length := by omega
      rw [wgt_at ws hk]
      obtain ⟨b, off, rfl, hcell⟩ := hw (by omega)
      have hc := hcell k hk
      clear hcell
      generalize ws[k]?.getD 0 = x at *
      go_enter Try.func81, Try.ntmps81
      go_wp2
      go_ret
      exact ⟨rfl, rfl⟩
set_option maxHeartbeats 400000 in
theorem rweight_at (A : Option Addr) (c : Nat) (ws : List Int) (v : Int) (w : World) (hw : SlI w A ws) (h1 : ws.length ≤ 9223372036854775807) :
    Calls Try.prog 83 #[.slice A ws.length c, .int .i64 v] w fun e w' => e = .returned (.int .i64 (wgt ws v)) ∧ w = w' := by
  by_cases h0 : v < 0
  · rw [wgt_out (.inl h0)]
    have hd : decide (v < 0) = true := by simpa using h0
    clear hw
    go_enter Try.func83, Try.ntmps83
    go_wp2
    go_ret
    exact ⟨rfl, rfl⟩
  · have hd : decide (v < 0) = false := by simpa using h0
    by_cases h2 : (ws.length : Int) ≤ v
    · rw [wgt_out (.inr h2)]
      have hd2 : decide ((ws.length : Int) ≤ v) = true := by simpa using h2
      clear hw
      go_enter Try.func83, Try.ntmps83
      go_wp2
      go_ret
      exact ⟨rfl, rfl⟩
    · have hd2 : decide ((ws.length : Int) ≤ v) = false := by simpa using h2
      obtain ⟨k, rfl⟩ : ∃ k : Nat, v = (k : Int) := ⟨v.toNat, by omega⟩
      have hk : k < ws.length := by omega
      rw [wgt_at ws hk]
      obtain ⟨b, off, rfl, hcell⟩ := hw (by omega)
      have hc := hcell k hk
      clear hcell
      generalize ws[k]?.getD 0 = x at *
      go_enter Try.func83, Try.ntmps83
      go_wp2
      go_ret
      exact ⟨rfl, rfl⟩
def wok (x : Int) : Bool := !(decide (x < 0) || decide (1099511627776 < x))
def wrightB (ws : List Int) : Bool := ws.all wok && decide (ws.length ≤ 60)
theorem wright_iff {ws : List Int} : wrightB ws = true ↔ WRight ws := by
  unfold wrightB WRight wok
  rw [Bool.and_eq_true, decide_eq_true_eq, List.all_eq_true]
  simp only [Bool.not_eq_true', Bool.or_eq_false_iff, decide_eq_false_iff_not]
  constructor
  · rintro ⟨h1, h2⟩
    exact ⟨h2, fun x hx => by have := h1 x hx; omega⟩
  · rintro ⟨h1, h2⟩
    exact ⟨fun x hx => by have := h2 x hx; omega, h1⟩
set_option maxHeartbeats 800000 in
theorem right_is (A : Option Addr) (c : Nat) (ws : List Int) (w : World) (hw : SlI w A ws) (h1 : ws.length ≤ 9223372036854775807) (r : Bool) (hr : wrightB ws = r) :
    Calls Try.prog 50 #[.slice A ws.length c] w fun e w' => e = .returned (.bool r) ∧ w = w' := by
  have HP := hid (And.intro hw hr)
  clear hw hr
  go_enter Try.func50, Try.ntmps50
  go_wp2_with fail
  go_loopw [3] (fun i wr => ∃ k : Nat, k ≤ ws.length ∧ i = .int .i64 k ∧ Hid ((ws.take k).all wok = true) ∧ wr = w) (fun i _ => ws.length - (intOf i).toNat)
  case atStart => exact ⟨0, Nat.zero_le _, rfl, hid rfl, rfl⟩
  case round =>
    obtain ⟨k, hk, rfl, hall, rfl⟩ := hrel
    by_cases hlt : k < ws.length
    · have hb0 : (k : Int) < (ws.length : Int) := by omega
      obtain ⟨b, off, rfl, hcell⟩ := HP.out.1 (by omega)
      have hc := hcell k hlt
      obtain ⟨x, hx⟩ : ∃ x, ws[k]? = some x := ⟨_, List.getElem?_eq_getElem hlt⟩
      simp only [hx, Option.getD_some] at hc
      have HX := hid hx
      clear hcell hx
      have no : Hid (wok x = false → r = false) := hid (fun h => by
        rw [← HP.out.2]
        unfold wrightB
        rw [Bool.and_eq_false_iff]
        exact .inl (List.all_eq_false.2 ⟨x, List.mem_of_getElem? HX.out, by rw [h]; simp⟩))
      by_cases h2 : x < 0
      · have hd : decide (x < 0) = true := by simpa using h2
        have HF := hid (no.out (by unfold wok; rw [hd]; rfl))
        go_wp2
        go_ret
        exact ⟨by rw [HF.out]; rfl, rfl⟩
      · have hd : decide (x < 0) = false := by simpa using h2
        by_cases h3 : 1099511627776 < x
        · have hd3 : decide (1099511627776 < x) = true := by simpa using h3
          have HF := hid (no.out (by unfold wok; rw [hd, hd3]; rfl))
          go_wp2
          go_ret
          exact ⟨by rw [HF.out]; rfl, rfl⟩
        · have hd3 : decide (1099511627776 < x) = false := by simpa using h3
          have HF := hid (show wok x = true by unfold wok; rw [hd, hd3]; rfl)
          go_wp2
          go_roundw
          case rel =>
            refine ⟨k + 1, by omega, by go_num, hid ?_, by trivial⟩
            rw [List.take_add_one, HX.out]
            simp only [Option.toList_some, List.all_append, hall.out, List.all_cons, HF.out, List.all_nil, Bool.and_self]
          case measure => simp [intOf]; omega
    · obtain rfl : k = ws.length := by omega
      have HF : Hid (decide ((ws.length : Int) ≤ 60) = r) := hid (by
        have h2 := hall.out
        rw [List.take_length] at h2
        rw [← HP.out.2]
        unfold wrightB
        rw [h2, Bool.true_and]
        congr 1
        rw [eq_iff_iff]
        omega)
      go_wp2
      go_ret
      exact ⟨by rw [HF.out]; rfl, rfl⟩
/-- The first element with the smallest key, under a closure that only reads. -/
theorem smallest_at (g : Nat) (lb : Array Value) (f : Int → Int) (A : Option Addr) (c : Nat) (L : List Int) (w : World) (hL : SlI w A L) (h1 : L.length ≤ 9223372036854775807)
    (eg : ∀ args w, (callFunc g args).run Try.prog w = .ok (.enter g args) w)
    (hf : ∀ x, Calls Try.prog g (#[.int .i64 x] ++ lb) w fun e w' => e = .returned (.int .i64 (f x)) ∧ w = w') :
    Calls Try.prog 94 #[.slice A L.length c, .func (.func g) #[] lb] w fun e w' => e = .returned (.tuple #[.int .i64 ((best f L).getD 0), .bool (decide (0 < L.length))]) ∧ w = w' := by
  have HP := hid (And.intro hL hf)
  clear hL hf
  go_enter Try.func94, Try.ntmps94
  go_wp2_with fail
  go_loopw [6, 11] (fun bv i wr => ∃ k : Nat, k ≤ L.length ∧ i = .int .i64 k ∧ bv = .int .i64 ((best f (L.take k)).getD 0) ∧ wr = w) (fun _ i _ => L.length - (intOf i).toNat)
  case atStart => exact ⟨0, Nat.zero_le _, rfl, rfl, rfl⟩
  case round =>
    obtain ⟨k, hk, rfl, rfl, rfl⟩ := hrel
    by_cases hlt : k < L.length
    · have hb0 : (k : Int) < (L.length : Int) := by omega
      obtain ⟨b, off, rfl, hcell⟩ := HP.out.1 (by omega)
      have hc := hcell k hlt
      obtain ⟨x, hx⟩ : ∃ x, L[k]? = some x := ⟨_, List.getElem?_eq_getElem hlt⟩
      simp only [hx, Option.getD_some] at hc
      have HX : Hid (best f (L.take (k + 1)) = bstep f (best f (L.take k)) x) := hid (by rw [List.take_add_one, hx]; exact best_snoc _ _ _)
      clear hcell hx
      by_cases h0 : k = 0
      · have heq : ((k : Int) == 0) = true := by simp [h0]
        have HX2 : Hid (best f (L.take (k + 1)) = some x) := hid (by rw [HX.out, h0]; rfl)
        clear h0
        go_wp2
        go_roundw
        case rel => exact ⟨k + 1, by omega, by go_num, by rw [HX2.out]; rfl, by trivial⟩
        case measure => simp [intOf]; omega
      · have hne : ((k : Int) == 0) = false := beq_eq_false_iff_ne.2 (by omega)
        obtain ⟨y, hy⟩ : ∃ y, best f (L.take k) = some y := by
          cases hb : best f (L.take k) with
          | none =>
            have := best_none.1 hb
            rw [List.take_eq_nil_iff] at this
            rcases this with h | h
            · omega
            · rw [h] at hlt; simp at hlt
          | some y => exact ⟨y, rfl⟩
        rw [hy] at HX ⊢
        clear hy
        have c1 := HP.out.2 x
        have HC := hid (HP.out.2 y)
        by_cases hl : f x < f y
        · have hd : decide (f x < f y) = true := by simpa using hl
          have HX2 : Hid (best f (L.take (k + 1)) = some x) := hid (by rw [HX.out]; unfold bstep; simp [hl])
          go_wp2_with (go_at_fn g; with_reducible refine c1.mono ?_; clear c1; rintro e w' ⟨rfl, rfl⟩; have c2 := HC.out)
          go_wp2_with (go_at_fn g; with_reducible refine c2.mono ?_; clear c2; rintro e w' ⟨rfl, rfl⟩)
          go_roundw
          case rel => exact ⟨k + 1, by omega, by go_num, by rw [HX2.out]; rfl, by trivial⟩
          case measure => simp [intOf]; omega
        · have hd : decide (f x < f y) = false := by simpa using hl
          have HX2 : Hid (best f (L.take (k + 1)) = some y) := hid (by rw [HX.out]; unfold bstep; simp [hl])
          go_wp2_with (go_at_fn g; with_reducible refine c1.mono ?_; clear c1; rintro e w' ⟨rfl, rfl⟩; have c2 := HC.out)
          go_wp2_with (go_at_fn g; with_reducible refine c2.mono ?_; clear c2; rintro e w' ⟨rfl, rfl⟩)
          go_roundw
          case rel => exact ⟨k + 1, by omega, by go_num, by rw [HX2.out]; rfl, by trivial⟩
          case measure => simp [intOf]; omega
    · obtain rfl : k = L.length := by omega
      rw [List.take_length]
      go_wp2
      go_ret2
      exact ⟨rfl, rfl⟩

/-! ### slices.DeleteFunc -/
theorem indexFunc_nil (f : Value) (c : Nat) (w : World) : Calls Try.prog 86 #[.slice none 0 c, f] w fun e w' => e = .returned (.int .i64 (-1)) ∧ w = w' := by
  go_enter Try.func86, Try.ntmps86
  go_wp2_with fail
  go_loopw [8] (fun i wr => i = .int .i64 0 ∧ wr = w) (fun _ _ => 0)
  case atStart => exact ⟨rfl, rfl⟩
  case round =>
    obtain ⟨rfl, rfl⟩ := hrel
    go_wp2
    go_ret
    exact ⟨rfl, rfl⟩
theorem delete_nil (f : Value) (c : Nat) (w : World) : Calls Try.prog 60 #[.slice none 0 c, f] w fun e w' => e = .returned (.slice none 0 c) ∧ w = w' := by
  go_enter Try.func60, Try.ntmps60
  go_wp2_with (go_at_call 86; refine (indexFunc_nil f c w).mono ?_; rintro e w1 ⟨rfl, rfl⟩)
  go_ret
  exact ⟨rfl, rfl⟩
theorem Only.putRow (F : Nat → Prop) (w : World) (blk off : Nat) (d : Array Int) (hb : F blk) : Only F w (Sort.putRow (Value.int .i64) w blk off d) :=
  ⟨rfl, rfl, rfl, by rw [Sort.size_putRow]; exact Nat.le_refl _, fun k _ hn => by
    show (w.heap.modify blk _)[k]? = _
    rw [Array.getElem?_modify, if_neg (fun e : blk = k => hn (e ▸ hb))]⟩
theorem Only.grow (F : Nat → Prop) (w : World) (os : Array Obj) : Only F w (Sort.grow w os) :=
  ⟨rfl, rfl, rfl, by show w.heap.size ≤ (w.heap ++ os).size; rw [Array.size_append]; omega, fun k hk _ => by
    show (w.heap ++ os)[k]? = _
    rw [Array.getElem?_append_left hk]⟩
theorem Only.ahead (F : Nat → Prop) (w : World) (q : Nat) : Only F w (Sort.ahead w q) := ⟨rfl, rfl, rfl, Nat.le_refl _, fun _ _ _ => rfl⟩
theorem delete_at (g : Nat) (lb : Array Value) (eg : ∀ args w, (callFunc g args).run Try.prog w = .ok (.enter g args) w) (p : Int → Bool) (base : Nat) (v : Value) (xs : List Int) (w : World) (hv : w.ownsRow base 3 1 v xs.length (xs.map (Value.int .i64)))
    (hlen : xs.length ≤ 9223372036854775807)
    (hc : ∀ W x, Only (fun i => v.ownBlock = some i) w W → Calls Try.prog g (#[.int .i64 x] ++ lb) W fun e w' => e = .returned (.bool (p x)) ∧ ∃ q, w' = W.drewN q) :
    Calls Try.prog 60 #[v, .func (.func g) #[] lb] w fun e w' => ∃ A c, e = .returned (.slice A (xs.filter (fun x => !p x)).length c) ∧ SlI w' A (xs.filter (fun x => !p x)) ∧ (∀ k off, A = some ⟨k, off, none⟩ → v.ownBlock = some k) ∧ Only (fun i => v.ownBlock = some i) w w' := by
  rcases hv.2 with ⟨rfl, hz⟩ | ⟨gb, cap, cur, rfl, hb, hg, h1, h2, h3, h4⟩
  · obtain rfl : xs = [] := List.eq_nil_of_length_eq_zero hz
    refine (delete_nil _ 0 w).mono ?_
    rintro e w' ⟨rfl, rfl⟩
    exact ⟨none, 0, rfl, SlI.nil, (fun _ _ h => by cases h), Only.refl _ _⟩
  · have hcells : ∀ j, j < xs.length → w.cell? ⟨gb, 0 + j, none⟩ = some (.int .i64 (xs[j]?.getD 0)) := fun j hj => by
      obtain ⟨b', off', e, hcc⟩ := SlI.of_own hv (by omega)
      cases e
      exact hcc j hj
    have hH : Sort.Holds (Value.int .i64) w gb 0 xs.toArray := fun j hj => by
      have hj' : j < xs.length := by simpa using hj
      refine ⟨?_, ?_⟩
      · rw [hcells j hj', getElem!_pos xs.toArray j hj, List.getElem?_eq_getElem hj']
        simp
      · unfold World.frozen?
        simp [hg]
    have hin : ∀ {W}, Only (fun i => Value.ownBlock (.slice (some ⟨gb, 0, none⟩) xs.length cap) = some i) w W → True := fun _ => trivial
    have hF : (fun i => Value.ownBlock (.slice (some ⟨gb, 0, none⟩) xs.length cap) = some i) gb := rfl
    have h := Go.Proofs.AnyE.slices_DeleteFunc Try.laysDel (Value.int .i64) (fun _ => rfl) p g lb eg 0 Try.zeroValue3 gb 0 cap xs.toArray w
      (fun W x hbl => by
        have := hc W x ⟨hbl.os, hbl.tape, hbl.output, hbl.size, fun k hk _ => hbl.block k hk⟩
        exact this)
      (fun n os dk x hs => by
        have := hc (Go.Proofs.sortWorld (Value.int .i64) w gb 0 n dk os) x (((Only.ahead _ w n).trans (Only.putRow _ _ gb 0 dk hF) (fun _ _ h => h)).trans (Only.grow _ _ os) (fun _ _ h => h))
        exact this)
      hH (by simpa using hlen) (by simpa using h1)
    simp only [List.size_toArray] at h
    change Calls Try.prog 60 _ _ _ at h
    refine h.mono ?_
    clear h
    rintro e w' ⟨rfl, q, rfl⟩
    have hle := List.length_filter_le (fun x => !p x) xs
    refine ⟨_, _, rfl, fun hp => ⟨gb, 0, rfl, fun j hj => ?_⟩, (fun k off e => by cases e; rfl), (Only.ahead _ w q).trans (Only.putRow _ _ gb 0 _ hF) (fun _ _ h => h)⟩
    have := (Sort.holds_putRow (Value.int .i64) (Sort.ahead w q) gb 0 xs.toArray ((xs.filter (fun x => !p x)) ++ List.replicate (xs.length - (xs.filter (fun x => !p x)).length) 0).toArray (Sort.holds_ahead (Value.int .i64) w q gb 0 xs.toArray hH) (by simp; omega) j (by simp; omega)).1
    rw [this, getElem!_pos _ j (by simp; omega)]
    simp [hj]
end Go.Proofs.Ytlpkolmaklnffaa
