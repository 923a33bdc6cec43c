/- What all laws of the index share. -/
import Derived.Test.YtgpfhdjedebdfaaIx19
namespace Go.Proofs.Ytgpfhdjedebdfaa
open Go.RowKit Go.MapKept Go.Shelf Go.Lib

theorem rright_yes (A : Option Addr) (cp : Nat) (l : List (Int × Int)) (w : World) (hl : SlE w A l) (hlo : ∀ e ∈ l, okE e) (hll : l.length ≤ 1048576) (hr : RightL l) :
    Calls Try.prog 9 #[.slice A l.length cp] w fun e w' => e = .returned (.bool true) ∧ Grew w w' :=
  (rright_at A cp l w hl hlo hll).mono fun e w' ⟨r, h1, h2, h3⟩ => by
    obtain rfl := h2.2 hr
    exact ⟨h1, h3⟩
theorem rright_no (A : Option Addr) (cp : Nat) (l : List (Int × Int)) (w : World) (hl : SlE w A l) (hlo : ∀ e ∈ l, okE e) (hll : l.length ≤ 1048576) (hr : ¬ RightL l) :
    Calls Try.prog 9 #[.slice A l.length cp] w fun e w' => e = .returned (.bool false) ∧ Grew w w' :=
  (rright_at A cp l w hl hlo hll).mono fun e w' ⟨r, h1, h2, h3⟩ => by
    cases r with
    | true => exact absurd (h2.1 rfl) hr
    | false => exact ⟨h1, h3⟩
theorem rvalid_res (a b : Int) (w : World) (ha : okI a) (hb : okI b) (r : Bool) (hr : veB (a, b) = r) :
    Calls Try.prog 14 #[.agg #[.int .i64 a, .int .i64 b]] w fun e w' => e = .returned (.bool r) ∧ Grew w w' := by
  rw [← hr]
  exact rvalid_is a b w ha hb
end Go.Proofs.Ytgpfhdjedebdfaa
