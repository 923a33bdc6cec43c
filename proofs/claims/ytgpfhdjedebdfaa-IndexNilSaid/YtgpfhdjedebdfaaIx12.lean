/- The walk of the reference Covered. -/
import Derived.Test.YtgpfhdjedebdfaaIx11
namespace Go.Proofs.Ytgpfhdjedebdfaa
open Go.RowKit Go.MapKept

/-- The sum as the reference adds it. -/
def rc (e : Int × Int) (l : List (Int × Int)) : Int := l.foldl (fun n x => RowKit.wrap64 (n + (ovl x e).2)) 0
theorem rc_snoc (e : Int × Int) (l : List (Int × Int)) (x : Int × Int) : rc e (l ++ [x]) = RowKit.wrap64 (rc e l + (ovl x e).2) := by simp [rc]
set_option maxHeartbeats 2000000 in
theorem rcovered_at (A : Option Addr) (cp : Nat) (l : List (Int × Int)) (c d : Int) (w : World) (hl : SlE w A l) (hv : ∀ e ∈ l, VE e) (hV : VE (c, d)) (hll : l.length ≤ 1048576) :
    Calls Try.prog 19 #[.slice A l.length cp, .agg #[.int .i64 c, .int .i64 d]] w fun e w' => e = .returned (.int .i64 (rc (c, d) l)) ∧ Grew w w' := by
  have HP := hid (And.intro hl (And.intro hv hV))
  have HW : Hid (Grew w (w.alloc (.cells #[.int .i64 c, .int .i64 d] 28)) ∧ (w.alloc (.cells #[.int .i64 c, .int .i64 d] 28)).cell? ⟨w.heap.size, 0, none⟩ = some (.int .i64 c) ∧ (w.alloc (.cells #[.int .i64 c, .int .i64 d] 28)).cell? ⟨w.heap.size, 1, none⟩ = some (.int .i64 d)) := hid ⟨Only.alloc _ _, cells2 _ _ _ _⟩
  clear hl hv hV
  go_enter Try.func19, Try.ntmps19
  go_wp2_with fail
  generalize w.alloc (.cells #[.int .i64 c, .int .i64 d] 28) = W0 at *
  go_loopw [6, 5] (fun i nv wr => ∃ (k : Nat) (n : Int), k ≤ l.length ∧ i = .int .i64 k ∧ nv = .int .i64 n ∧ Hid (n = rc (c, d) (l.take k)) ∧ Grew W0 wr) (fun i _ _ => l.length - (intOf i).toNat)
  case atStart => exact ⟨0, 0, Nat.zero_le _, rfl, rfl, hid rfl, Only.refl _ _⟩
  case round =>
    obtain ⟨k, n, hk, rfl, rfl, hn, hO⟩ := hrel
    have HO := hid hO
    clear hO
    by_cases hlt : k < l.length
    · have hb0 : (k : Int) < (l.length : Int) := by omega
      obtain ⟨bl, o, rfl, hcell⟩ := ((HP.out.1.grew HW.out.1).grew HO.out) (by omega)
      obtain ⟨c1, c2⟩ := hcell k hlt
      obtain ⟨x, hx⟩ : ∃ x, l[k]? = some x := ⟨_, List.getElem?_eq_getElem hlt⟩
      simp only [hx, Option.getD_some] at c1 c2
      have HX := hid hx
      have HV := hid (HP.out.2.1 x (List.mem_of_getElem? hx))
      obtain ⟨a, b⟩ := x
      simp only at c1 c2
      obtain ⟨o1, o2, hov⟩ : ∃ o1 o2 : Int, ovl (a, b) (c, d) = (o1, o2) := ⟨_, _, rfl⟩
      obtain ⟨r, hr⟩ : ∃ r : Int, RowKit.wrap64 (n + o2) = r := ⟨_, rfl⟩
      have hr2 : IntKind.i64.wrap (n + o2) = r := by rw [IntWalk.i64_left]; exact hr
      have HR : Hid (r = rc (c, d) (l.take (k + 1))) := hid (by
        rw [List.take_add_one, HX.out]
        show r = rc (c, d) (l.take k ++ [(a, b)])
        rw [rc_snoc, ← hn.out, hov]
        exact hr.symm)
      have HC : Hid (∀ W, Calls Try.prog 29 #[.agg #[.int .i64 a, .int .i64 b], .agg #[.int .i64 c, .int .i64 d]] W fun e w' => e = .returned (.agg #[.int .i64 o1, .int .i64 o2]) ∧ Grew W w') := hid (fun W => by
        have h := roverlap_at a b c d W HV.out HP.out.2.2
        rw [hov] at h
        exact h)
      have HS : Hid (∀ w', Grew wr w' → w'.cell? ⟨w.heap.size, 0, none⟩ = some (.int .i64 c) ∧ w'.cell? ⟨w.heap.size, 1, none⟩ = some (.int .i64 d) ∧ w'.cell? ⟨bl, o + k * 2, none⟩ = some (.int .i64 a) ∧ w'.cell? ⟨bl, o + k * 2 + 1, none⟩ = some (.int .i64 b)) :=
        hid (fun w' h => ⟨(Grew.trans HO.out h).cell HW.out.2.1 (fun h => h), (Grew.trans HO.out h).cell HW.out.2.2 (fun h => h), h.cell c1 (fun h => h), h.cell c2 (fun h => h)⟩)
      have hfd : ∀ w : World, (Instr.field 28 (.agg #[.int .i64 o1, .int .i64 o2]) 1).run Try.prog w = .ok (.int .i64 o2) w := fun _ => by kernel_rfl
      clear hcell hx hr hov c1 c2
      go_wp2_with fail
      go_region_held3 (fun w' => w'.cell? ⟨w.heap.size, 0, none⟩ = some (.int .i64 c) ∧ w'.cell? ⟨w.heap.size, 1, none⟩ = some (.int .i64 d) ∧ w'.cell? ⟨bl, o + k * 2, none⟩ = some (.int .i64 a) ∧ w'.cell? ⟨bl, o + k * 2 + 1, none⟩ = some (.int .i64 b))
        (first
          | exact HS.out _ (Only.drew _)
          | exact HS.out _ ha)
        (first
          | (go_at_call 29; refine (HC.out _).mono ?_; rintro e wa ⟨rfl, ha0⟩; have ha : Grew wr wa := Grew.trans (Only.drew _) ha0))
      all_goals
        go_wp2
        go_roundw
        case rel => exact ⟨k + 1, r, by omega, by go_num, rfl, HR, Grew.trans HO.out ha⟩
        case measure => simp [intOf]; omega
    · obtain rfl : k = l.length := by omega
      go_wp2
      go_ret
      refine ⟨?_, Grew.trans HW.out.1 HO.out⟩
      have h := hn.out
      rw [List.take_length] at h
      rw [h]
      first | rfl | done
end Go.Proofs.Ytgpfhdjedebdfaa
