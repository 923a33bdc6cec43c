/- An index in memory; the walks of Len, sort.Search, after. -/
import Derived.Test.YtgpfhdjedebdfaaIx1
import Derived.Deep.LoopGhost
import Derived.Shelf.Abstract
namespace Go.Proofs.Ytgpfhdjedebdfaa
open Go.RowKit Go.MapKept

abbrev Ent := (Int × Int) × Int
def dE : Ent := ((0, 0), 0)
/-- .. reads as the entries S. -/
def SlT (w : World) (A : Option Addr) (S : List Ent) : Prop :=
  0 < S.length → ∃ b off, A = some ⟨b, off, none⟩ ∧ ∀ j, j < S.length → w.cell? ⟨b, off + j * 3, none⟩ = some (.int .i64 (S[j]?.getD dE).1.1) ∧ w.cell? ⟨b, off + j * 3 + 1, none⟩ = some (.int .i64 (S[j]?.getD dE).1.2) ∧ w.cell? ⟨b, off + j * 3 + 2, none⟩ = some (.int .i64 (S[j]?.getD dE).2)
theorem SlT.only {F : Nat → Prop} {w w' : World} {A : Option Addr} {S : List Ent} (h : SlT w A S) (k : Only F w w') (hn : ∀ b off, A = some ⟨b, off, none⟩ → ¬ F b) : SlT w' A S := fun hp => by
  obtain ⟨b, off, rfl, hc⟩ := h hp
  exact ⟨b, off, rfl, fun j hj => ⟨k.cell (hc j hj).1 (hn b off rfl), k.cell (hc j hj).2.1 (hn b off rfl), k.cell (hc j hj).2.2 (hn b off rfl)⟩⟩
theorem SlT.grew {w w' : World} {A : Option Addr} {S : List Ent} (h : SlT w A S) (k : Grew w w') : SlT w' A S := h.only k (fun _ _ _ hf => hf)
/-- An Index in memory at block p. -/
def IsIdx (w : World) (p : Nat) (S : List Ent) : Prop := ∃ A c, w.heap[p]? = some (.cells #[.slice A S.length c] 52 (0, 0)) ∧ SlT w A S ∧ S.length ≤ 1048576
theorem IsIdx.grew {w w' : World} {p : Nat} {S : List Ent} (h : IsIdx w p S) (k : Grew w w') : IsIdx w' p S := by
  obtain ⟨A, c, h1, h2, h3⟩ := h
  exact ⟨A, c, k.heap h1 (fun h => h), h2.grew k, h3⟩
/-- Ascending, without overlap, each with bytes. -/
def GoodS (S : List Ent) : Prop := S.Pairwise (fun x y => x.1.1 + x.1.2 ≤ y.1.1) ∧ ∀ x ∈ S, VE x.1 ∧ 0 < x.1.2
theorem len_at (p : Nat) (S : List Ent) (w : World) (h : IsIdx w p S) : Calls Try.prog 21 #[.pointer (some ⟨p, 0, none⟩)] w fun e w' => e = .returned (.int .i64 S.length) ∧ w = w' := by
  obtain ⟨A, c, h1, h2, h3⟩ := h
  have k0 := cell_of_one h1
  have HS := hid h2
  clear h1 h2
  go_enter Try.func21, Try.ntmps21
  go_wp2
  go_ret
  exact ⟨rfl, rfl⟩
theorem len_nil (w : World) : Calls Try.prog 21 #[.pointer none] w fun e w' => e = .returned (.int .i64 0) ∧ w = w' := by
  go_enter Try.func21, Try.ntmps21
  go_wp2
  go_ret
  exact ⟨rfl, rfl⟩
/-- k is the first place at which p holds. -/
def IsCut (n : Nat) (p : Nat → Bool) (k : Nat) : Prop := k ≤ n ∧ (∀ t, t < k → p t = false) ∧ (∀ t, k ≤ t → t < n → p t = true)
set_option maxHeartbeats 1000000 in
theorem search_at (g : Nat) (cb : Array Value) (n : Nat) (p : Nat → Bool) (w : World) (hn : n ≤ 1048576) (eg : ∀ args w, (callFunc g args).run Try.prog w = .ok (.enter g args) w)
    (hf : ∀ (W : World) (i : Nat), i < n → Grew w W → Calls Try.prog g (#[.int .i64 i] ++ cb) W fun e w' => e = .returned (.bool (p i)) ∧ Grew W w')
    (hm : ∀ a b, a ≤ b → b < n → p a = true → p b = true) :
    Calls Try.prog 46 #[.int .i64 n, .func (.func g) #[] cb] w fun e w' => ∃ k : Nat, e = .returned (.int .i64 k) ∧ IsCut n p k ∧ Grew w w' := by
  have HF := hid (And.intro hf hm)
  clear hf hm
  go_enter Try.func46, Try.ntmps46
  go_wp2_with fail
  go_loopg [5, 6] (n + 1) (fun gk lv hv wr => ∃ lo hi : Nat, lv = .int .i64 lo ∧ hv = .int .i64 hi ∧ lo ≤ hi ∧ hi ≤ n ∧ hi - lo < gk ∧ Hid ((∀ t, t < lo → p t = false) ∧ (∀ t, hi ≤ t → t < n → p t = true)) ∧ Grew w wr)
  case atStart => exact ⟨0, n, rfl, rfl, Nat.zero_le _, Nat.le_refl _, by omega, hid ⟨fun t h => by omega, fun t h1 h2 => by omega⟩, Only.refl _ _⟩
  case round =>
    obtain ⟨lo, hi, rfl, rfl, h1, h2, h3, HI, hO⟩ := hrel
    have HO := hid hO
    clear hO
    by_cases hlt : lo < hi
    · have hltz : (lo : Int) < (hi : Int) := by omega
      obtain ⟨m, hm⟩ : ∃ m, m = (lo + hi) / 2 := ⟨_, rfl⟩
      have hmz : ((lo : Int) + (hi : Int)) / 2 = (m : Int) := by omega
      have hm1 : lo ≤ m := by omega
      have hm2 : m < hi := by omega
      have HM := hid hm
      have hc := HF.out.1 wr m (by omega) HO.out
      clear hm
      cases hp : p m with
      | false =>
        rw [hp] at hc
        have HP := hid hp
        clear hp
        go_wp2_with (go_at_fn g; refine hc.mono ?_; clear hc; rintro e w1 ⟨rfl, hg1⟩)
        have H1 := hid (Grew.trans HO.out hg1)
        clear hg1
        go_roundg (hi - (m + 1) + 1)
        case measure => omega
        case rel => exact ⟨m + 1, hi, by first | rfl | (rw [hmz]; go_num) | go_num, rfl, by omega, h2, by omega, hid ⟨fun t ht => (by
          cases h : p t with
          | false => rfl
          | true => have := HF.out.2 t m (by omega) (by omega) h; rw [HP.out] at this; cases this), HI.out.2⟩, H1.out⟩
      | true =>
        rw [hp] at hc
        have HP := hid hp
        clear hp
        go_wp2_with (go_at_fn g; refine hc.mono ?_; clear hc; rintro e w1 ⟨rfl, hg1⟩)
        have H1 := hid (Grew.trans HO.out hg1)
        clear hg1
        go_roundg (m - lo + 1)
        case measure => omega
        case rel => exact ⟨lo, m, rfl, by first | rfl | rw [hmz] | go_num, by omega, by omega, by omega, hid ⟨HI.out.1, fun t h4 h5 => HF.out.2 m t h4 h5 HP.out⟩, H1.out⟩
    · obtain rfl : lo = hi := by omega
      go_wp2
      go_ret
      exact ⟨lo, rfl, ⟨h2, HI.out.1, HI.out.2⟩, HO.out⟩
end Go.Proofs.Ytgpfhdjedebdfaa
