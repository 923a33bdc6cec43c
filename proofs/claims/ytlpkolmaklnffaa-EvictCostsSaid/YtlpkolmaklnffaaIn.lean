/- The references' 'in': is a number in a list. -/
import Derived.Test.YtlpkolmaklnffaaDig1
namespace Go.Proofs.Ytlpkolmaklnffaa
open Go.RowKit Go.MapKept
set_option maxHeartbeats 400000 in
theorem in11_at (A : Option Addr) (c : Nat) (xs : List Int) (x : Int) (w : World) (hx : SlI w A xs) (h1 : xs.length ≤ 9223372036854775807) :
    Calls Try.prog 72 #[.int .i64 x, .slice A xs.length c] w fun e w' => e = .returned (.bool (decide (x ∈ xs))) ∧ w = w' := by
  go_enter Try.func72, Try.ntmps72
  go_wp2
  go_loop [5] (fun i => ∃ k : Nat, k ≤ xs.length ∧ i = .int .i64 k ∧ Hid (x ∉ xs.take k)) (fun i => xs.length - (intOf i).toNat)
  case atStart => exact ⟨0, Nat.zero_le _, rfl, hid (by simp)⟩
  case round =>
    obtain ⟨k, hk, rfl, hn⟩ := hrel
    by_cases hlt : k < xs.length
    · obtain ⟨b, off, rfl, hc⟩ := hx (by omega)
      have hck := hc k hlt
      obtain ⟨y, hy⟩ : ∃ y, xs[k]? = some y := ⟨xs[k], by simp [hlt]⟩
      simp only [hy, Option.getD_some] at hck
      have HY := hid hy
      clear hc hx hy
      have hb0 : (k : Int) < (xs.length : Int) := by omega
      by_cases he : y = x
      · subst he
        have e1 : (y == y) = true := by simp
        have HM : Hid (decide (y ∈ xs) = true) := hid (by simpa using List.mem_of_getElem? HY.out)
        go_wp2
        go_ret
        exact ⟨by rw [HM.out]; rfl, rfl⟩
      · have hne : (y == x) = false := by simpa using he
        have HE := hid he
        clear he
        go_wp2
        go_round
        case rel =>
          refine ⟨k + 1, by omega, by go_num, hid ?_⟩
          have ht : xs.take (k + 1) = xs.take k ++ [y] := by rw [List.take_add_one, HY.out]; rfl
          rw [ht]
          simp only [List.mem_append, List.mem_singleton, not_or]
          exact ⟨hn.out, fun e => HE.out e.symm⟩
        case measure => simp [intOf]; omega
    · obtain rfl : k = xs.length := by omega
      have HM : Hid (decide (x ∈ xs) = false) := hid (by have := hn.out; rw [List.take_length] at this; simpa using this)
      clear hx
      go_wp2
      go_ret
      exact ⟨by rw [HM.out]; rfl, rfl⟩
theorem in11_is (A : Option Addr) (c : Nat) (xs : List Int) (x : Int) (w : World) (r : Bool) (h : decide (x ∈ xs) = r) (hx : SlI w A xs) (h1 : xs.length ≤ 9223372036854775807) :
    Calls Try.prog 72 #[.int .i64 x, .slice A xs.length c] w fun e w' => e = .returned (.bool r) ∧ w = w' := h ▸ in11_at A c xs x w hx h1
set_option maxHeartbeats 400000 in
theorem in13_at (A : Option Addr) (c : Nat) (xs : List Int) (x : Int) (w : World) (hx : SlI w A xs) (h1 : xs.length ≤ 9223372036854775807) :
    Calls Try.prog 74 #[.int .i64 x, .slice A xs.length c] w fun e w' => e = .returned (.bool (decide (x ∈ xs))) ∧ w = w' := by
  go_enter Try.func74, Try.ntmps74
  go_wp2
  go_loop [5] (fun i => ∃ k : Nat, k ≤ xs.length ∧ i = .int .i64 k ∧ Hid (x ∉ xs.take k)) (fun i => xs.length - (intOf i).toNat)
  case atStart => exact ⟨0, Nat.zero_le _, rfl, hid (by simp)⟩
  case round =>
    obtain ⟨k, hk, rfl, hn⟩ := hrel
    by_cases hlt : k < xs.length
    · obtain ⟨b, off, rfl, hc⟩ := hx (by omega)
      have hck := hc k hlt
      obtain ⟨y, hy⟩ : ∃ y, xs[k]? = some y := ⟨xs[k], by simp [hlt]⟩
      simp only [hy, Option.getD_some] at hck
      have HY := hid hy
      clear hc hx hy
      have hb0 : (k : Int) < (xs.length : Int) := by omega
      by_cases he : y = x
      · subst he
        have e1 : (y == y) = true := by simp
        have HM : Hid (decide (y ∈ xs) = true) := hid (by simpa using List.mem_of_getElem? HY.out)
        go_wp2
        go_ret
        exact ⟨by rw [HM.out]; rfl, rfl⟩
      · have hne : (y == x) = false := by simpa using he
        have HE := hid he
        clear he
        go_wp2
        go_round
        case rel =>
          refine ⟨k + 1, by omega, by go_num, hid ?_⟩
          have ht : xs.take (k + 1) = xs.take k ++ [y] := by rw [List.take_add_one, HY.out]; rfl
          rw [ht]
          simp only [List.mem_append, List.mem_singleton, not_or]
          exact ⟨hn.out, fun e => HE.out e.symm⟩
        case measure => simp [intOf]; omega
    · obtain rfl : k = xs.length := by omega
      have HM : Hid (decide (x ∈ xs) = false) := hid (by have := hn.out; rw [List.take_length] at this; simpa using this)
      clear hx
      go_wp2
      go_ret
      exact ⟨by rw [HM.out]; rfl, rfl⟩
theorem in13_is (A : Option Addr) (c : Nat) (xs : List Int) (x : Int) (w : World) (r : Bool) (h : decide (x ∈ xs) = r) (hx : SlI w A xs) (h1 : xs.length ≤ 9223372036854775807) :
    Calls Try.prog 74 #[.int .i64 x, .slice A xs.length c] w fun e w' => e = .returned (.bool r) ∧ w = w' := h ▸ in13_at A c xs x w hx h1
set_option maxHeartbeats 400000 in
theorem in14_at (A : Option Addr) (c : Nat) (xs : List Int) (x : Int) (w : World) (hx : SlI w A xs) (h1 : xs.length ≤ 9223372036854775807) :
    Calls Try.prog 82 #[.int .i64 x, .slice A xs.length c] w fun e w' => e = .returned (.bool (decide (x ∈ xs))) ∧ w = w' := by
  go_enter Try.func82, Try.ntmps82
  go_wp2
  go_loop [5] (fun i => ∃ k : Nat, k ≤ xs.length ∧ i = .int .i64 k ∧ Hid (x ∉ xs.take k)) (fun i => xs.length - (intOf i).toNat)
  case atStart => exact ⟨0, Nat.zero_le _, rfl, hid (by simp)⟩
  case round =>
    obtain ⟨k, hk, rfl, hn⟩ := hrel
    by_cases hlt : k < xs.length
    · obtain ⟨b, off, rfl, hc⟩ := hx (by omega)
      have hck := hc k hlt
      obtain ⟨y, hy⟩ : ∃ y, xs[k]? = some y := ⟨xs[k], by simp [hlt]⟩
      simp only [hy, Option.getD_some] at hck
      have HY := hid hy
      clear hc hx hy
      have hb0 : (k : Int) < (xs.length : Int) := by omega
      by_cases he : y = x
      · subst he
        have e1 : (y == y) = true := by simp
        have HM : Hid (decide (y ∈ xs) = true) := hid (by simpa using List.mem_of_getElem? HY.out)
        go_wp2
        go_ret
        exact ⟨by rw [HM.out]; rfl, rfl⟩
      · have hne : (y == x) = false := by simpa using he
        have HE := hid he
        clear he
        go_wp2
        go_round
        case rel =>
          refine ⟨k + 1, by omega, by go_num, hid ?_⟩
          have ht : xs.take (k + 1) = xs.take k ++ [y] := by rw [List.take_add_one, HY.out]; rfl
          rw [ht]
          simp only [List.mem_append, List.mem_singleton, not_or]
          exact ⟨hn.out, fun e => HE.out e.symm⟩
        case measure => simp [intOf]; omega
    · obtain rfl : k = xs.length := by omega
      have HM : Hid (decide (x ∈ xs) = false) := hid (by have := hn.out; rw [List.take_length] at this; simpa using this)
      clear hx
      go_wp2
      go_ret
      exact ⟨by rw [HM.out]; rfl, rfl⟩
theorem in14_is (A : Option Addr) (c : Nat) (xs : List Int) (x : Int) (w : World) (r : Bool) (h : decide (x ∈ xs) = r) (hx : SlI w A xs) (h1 : xs.length ≤ 9223372036854775807) :
    Calls Try.prog 82 #[.int .i64 x, .slice A xs.length c] w fun e w' => e = .returned (.bool r) ∧ w = w' := h ▸ in14_at A c xs x w hx h1
end Go.Proofs.Ytlpkolmaklnffaa
