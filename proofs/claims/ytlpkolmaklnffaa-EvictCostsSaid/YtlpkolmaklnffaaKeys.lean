/- The two key types of the graph's maps: int, and a struct of two ints. -/
import Derived.Test.YtlpkolmaklnffaaBase
import Derived.Test.YtlpkolmaklnffaaProg
import Derived.DeepKeys4
import Derived.Maps.OwnOps
namespace Go.Proofs.Ytlpkolmaklnffaa
open Go.RowKit Go.MapKept Go.WideMaps
open Go.Maps (Keyed)

def encI (x : Int) : Value := .int .i64 x
def okI (x : Int) : Prop := -9223372036854775808 ≤ x ∧ x ≤ 9223372036854775807
def encE (e : Int × Int) : Value := .agg #[.int .i64 e.1, .int .i64 e.2]
def okE (e : Int × Int) : Prop := okI e.1 ∧ okI e.2
theorem wf_of_okI {x : Int} (h : okI x) : (Lit.int .i64 x).wf = true := WalkArith.wf_i64 h
theorem keysI : Enc Try.prog 3 encI okI :=
  ⟨Maps.int_keyed Try.underlying3, fun h => ⟨_, Maps.keyOf_int_mk Try.underlying3 (wf_of_okI h)⟩, fun h => by unfold encI at h; simpa using h⟩
theorem laidOut : laidOutB Try.prog = true := by kernel_rfl
theorem edge_row : (41 : TypeId) < Try.prog.types.size := of_decide_eq_true (by kernel_rfl)
theorem edge_at : Try.prog.keyTypeAt 2 41 = true := by kernel_rfl
theorem edge_law : KeyLaw Try.prog 41 := by
  refine deep_law_laid laidOut (m := 2) (by omega) edge_row edge_at ?_
  kernel_rfl
theorem edge_type : Try.prog.keyType 41 = true := by kernel_rfl
theorem edge_cells : Try.prog.cellsOf 41 = 2 := by kernel_rfl
theorem int_cells : Try.prog.cellsOf 3 = 1 := by kernel_rfl
theorem types_pos : ∃ m, Try.prog.types.size = m + 1 := by
  have h : (decide (0 < Try.prog.types.size)) = true := by kernel_rfl
  have h' : 0 < Try.prog.types.size := of_decide_eq_true h
  exact ⟨Try.prog.types.size - 1, by omega⟩
theorem edge_lits {e : Int × Int} (h : okE e) (n : Nat) : Try.prog.keyLits (n + 1 + 1) 41 (encE e).cells.toList = some [.int .i64 e.1, .int .i64 e.2] := by
  have h1 := wf_of_okI h.1
  have h2 := wf_of_okI h.2
  simp [Program.keyLits, Try.underlying41, Try.underlying3, edge_cells, int_cells, encE, Value.cells, h1, h2]
theorem edge_formed (e : Int × Int) : (encE e).formed Try.prog 41 = true := by simp [Value.formed, Try.underlying41, edge_cells, encE]
theorem edge_reads {e : Int × Int} (h : okE e) : ∃ l, keyOf Try.prog 41 (encE e) = some l := by
  obtain ⟨m, hm⟩ := types_pos
  have hl := edge_lits h m
  unfold keyOf
  rw [hm, hl, Try.underlying41]
  simp only [edge_type, edge_formed, Bool.and_self, if_true, Option.map_some]
  exact ⟨_, rfl⟩
theorem keysE : Enc Try.prog 41 encE okE :=
  ⟨Keyed.of_law edge_law, edge_reads, fun {x y} h => by
    unfold encE at h
    simp only [Value.agg.injEq, Array.mk.injEq, List.cons.injEq, Value.int.injEq, true_and, and_true] at h
    exact Prod.ext h.1 h.2⟩
end Go.Proofs.Ytlpkolmaklnffaa
