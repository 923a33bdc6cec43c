/-
  No cell of these rows narrows 'for every input' (looked for: loops, veiled, ifaces, maps, wideKeys, modest, calm, conditions, laid).
  DERIVED. THE GIVEN ROWS OF THIS SEAT. 5 by the template 'for every input the law returns true; each argument reads behind the call as it read before'; 0 by the template 'total and deterministic' (their statements: YtcmhplknoglbkaaGreatTotals.lean).
  GIVEN WITH THE SEED: the statements are not yours to turn. If you find one false, say at which input.
  Laid BY PROGRAM, IN A SANDBOX (cutbox-rows.mjs): the forced cells as the released guide's own fill.sh prints them over the translation 48cf884cf8386751… (all of the seat's roots in one cut). By AI agents, Wed Nov 11 2026. No macro, syntax, notation, axiom, sorry.
-/
import Derived.Test.YtcmhplknoglbkaaGreatChecked
import GoSem.Claim
import GoSem.ClaimJoined
import GoSem.ClaimMapViews
import Derived.JoinedTies
import Derived.KernelRfl
namespace Go.Proofs.YtcmhplknoglbkaaGreat
/- THE CELL 'sum', in the pinned program and in every row, IS THE sha256 OF THE DUMP (.gsa) THAT YtcmhplknoglbkaaGreatProg.lean LOADS. Nothing in Lean hashes anything: it is a label: what it is worth is what the hold of that sum in a sandbox is worth. -/
noncomputable def Tryz.pinned : Pinned := { name := "ytcmhplknoglbkaagreat", sum := "48cf884cf83867511b7f7ead349c86868999499dc64d6b451857772d3bea71e1", checked := Tryz.checked }
namespace Rows
def none {H : Type} : Left H := { results := [], args := [] }

/-- 'grafttop.TopStates': WHATEVER THE INPUT: true; the input reads as it did. -/
def topStatesSpec : ChangeSpec := { name := "topStates", fn := fun _ => fun
  | [d1, d2] => { results := [.lit (.bool true)], args := [d1, d2] }
  | _ => none }
def topStatesRow : OpenClaim := { program := "ytcmhplknoglbkaagreat", sum := "48cf884cf83867511b7f7ead349c86868999499dc64d6b451857772d3bea71e1", func := "graft/grafttop.TopStates", spec := "topStates", inPlace := ["internal/bytealg.IndexByte", "internal/bytealg.Index", "slices.overlaps[int]"], unfollowed := true, recurses := true, named := ["internal/bytealg.MaxLen"], plainKeys := false, apart := false }
def TopStatesSaid : Prop := topStatesRow.holds Tryz.pinned (OpenSpec.ofChange topStatesSpec)

/-- ITS FALSE NEIGHBOUR: 'it returns false'. Refute it at one input. -/
def topStatesWrong : ChangeSpec := { name := "topStates", fn := fun _ => fun
  | [d1, d2] => { results := [.lit (.bool false)], args := [d1, d2] }
  | _ => none }
def TopStatesWrongFalsely : Prop := topStatesRow.holds Tryz.pinned (OpenSpec.ofChange topStatesWrong)

/-- 'grafttop.TopConfined': WHATEVER THE INPUT: true; the input reads as it did. -/
def topConfinedSpec : ChangeSpec := { name := "topConfined", fn := fun _ => fun
  | [d1, d2] => { results := [.lit (.bool true)], args := [d1, d2] }
  | _ => none }
def topConfinedRow : OpenClaim := { program := "ytcmhplknoglbkaagreat", sum := "48cf884cf83867511b7f7ead349c86868999499dc64d6b451857772d3bea71e1", func := "graft/grafttop.TopConfined", spec := "topConfined", inPlace := ["internal/bytealg.IndexByte", "internal/bytealg.Index", "slices.overlaps[int]"], unfollowed := true, recurses := true, named := ["internal/bytealg.MaxLen"], plainKeys := false, apart := false }
def TopConfinedSaid : Prop := topConfinedRow.holds Tryz.pinned (OpenSpec.ofChange topConfinedSpec)

/-- ITS FALSE NEIGHBOUR: 'it returns false'. Refute it at one input. -/
def topConfinedWrong : ChangeSpec := { name := "topConfined", fn := fun _ => fun
  | [d1, d2] => { results := [.lit (.bool false)], args := [d1, d2] }
  | _ => none }
def TopConfinedWrongFalsely : Prop := topConfinedRow.holds Tryz.pinned (OpenSpec.ofChange topConfinedWrong)

/-- 'grafttop.TopMemory': WHATEVER THE INPUT: true; the input reads as it did. -/
def topMemorySpec : ChangeSpec := { name := "topMemory", fn := fun _ => fun
  | [d1, d2] => { results := [.lit (.bool true)], args := [d1, d2] }
  | _ => none }
def topMemoryRow : OpenClaim := { program := "ytcmhplknoglbkaagreat", sum := "48cf884cf83867511b7f7ead349c86868999499dc64d6b451857772d3bea71e1", func := "graft/grafttop.TopMemory", spec := "topMemory", inPlace := ["internal/bytealg.IndexByte", "internal/bytealg.Index", "slices.overlaps[int]"], unfollowed := true, recurses := true, named := ["internal/bytealg.MaxLen"], plainKeys := false, apart := false }
def TopMemorySaid : Prop := topMemoryRow.holds Tryz.pinned (OpenSpec.ofChange topMemorySpec)

/-- ITS FALSE NEIGHBOUR: 'it returns false'. Refute it at one input. -/
def topMemoryWrong : ChangeSpec := { name := "topMemory", fn := fun _ => fun
  | [d1, d2] => { results := [.lit (.bool false)], args := [d1, d2] }
  | _ => none }
def TopMemoryWrongFalsely : Prop := topMemoryRow.holds Tryz.pinned (OpenSpec.ofChange topMemoryWrong)

/-- 'grafttop.TopConverts': WHATEVER THE INPUT: true; the input reads as it did. -/
def topConvertsSpec : ChangeSpec := { name := "topConverts", fn := fun _ => fun
  | [d1, d2] => { results := [.lit (.bool true)], args := [d1, d2] }
  | _ => none }
def topConvertsRow : OpenClaim := { program := "ytcmhplknoglbkaagreat", sum := "48cf884cf83867511b7f7ead349c86868999499dc64d6b451857772d3bea71e1", func := "graft/grafttop.TopConverts", spec := "topConverts", inPlace := ["internal/bytealg.IndexByte", "internal/bytealg.Index", "slices.overlaps[int]"], unfollowed := true, recurses := true, named := ["internal/bytealg.MaxLen"], plainKeys := false, apart := false }
def TopConvertsSaid : Prop := topConvertsRow.holds Tryz.pinned (OpenSpec.ofChange topConvertsSpec)

/-- ITS FALSE NEIGHBOUR: 'it returns false'. Refute it at one input. -/
def topConvertsWrong : ChangeSpec := { name := "topConverts", fn := fun _ => fun
  | [d1, d2] => { results := [.lit (.bool false)], args := [d1, d2] }
  | _ => none }
def TopConvertsWrongFalsely : Prop := topConvertsRow.holds Tryz.pinned (OpenSpec.ofChange topConvertsWrong)

/-- 'grafttop.TopConflicts': WHATEVER THE INPUT: true; the input reads as it did. -/
def topConflictsSpec : ChangeSpec := { name := "topConflicts", fn := fun _ => fun
  | [d] => { results := [.lit (.bool true)], args := [d] }
  | _ => none }
def topConflictsRow : OpenClaim := { program := "ytcmhplknoglbkaagreat", sum := "48cf884cf83867511b7f7ead349c86868999499dc64d6b451857772d3bea71e1", func := "graft/grafttop.TopConflicts", spec := "topConflicts", inPlace := ["internal/bytealg.IndexByte", "internal/bytealg.Index", "slices.overlaps[int]"], unfollowed := true, recurses := true, named := ["internal/bytealg.MaxLen"], plainKeys := false, apart := false }
def TopConflictsSaid : Prop := topConflictsRow.holds Tryz.pinned (OpenSpec.ofChange topConflictsSpec)

/-- ITS FALSE NEIGHBOUR: 'it returns false'. Refute it at one input. -/
def topConflictsWrong : ChangeSpec := { name := "topConflicts", fn := fun _ => fun
  | [d] => { results := [.lit (.bool false)], args := [d] }
  | _ => none }
def TopConflictsWrongFalsely : Prop := topConflictsRow.holds Tryz.pinned (OpenSpec.ofChange topConflictsWrong)

/- THE SECOND FORM. 'bulk': how many values and letters a reading holds, each counted each time it is reached (what is shared counts as often as it is met; a slice's spare places count too). A statement '..UptoSaid' is the law's where the arguments, and the package variables that the reading takes, are together of bulk at most 1048576: NARROWER than '..Said'. Prove '..Said' where nothing that the law and all that it calls make is longer than what came in: it says more and counts as full. Else prove '..UptoSaid'. A law counts once. -/
mutual
def uptoBulk {H : Type} : DataW H → Nat
  | .lit (.string bytes) => bytes.length + 1
  | .lit _ => 1
  | .nil => 1
  | .ptr d => uptoBulk d + 1
  | .slice elems spare => uptoBulkAll elems + uptoBulkAll spare + 1
  | .agg parts => uptoBulkAll parts + 1
  | .iface _ d => uptoBulk d + 1
  | .map entries => uptoBulkEntries entries + 1
  | .held _ => 1
def uptoBulkAll {H : Type} : List (DataW H) → Nat
  | [] => 0
  | d :: r => uptoBulk d + uptoBulkAll r
def uptoBulkEntries {H : Type} : List (Lit × DataW H) → Nat
  | [] => 0
  | x :: r => uptoBulkEntry x + uptoBulkEntries r
def uptoBulkEntry {H : Type} : Lit × DataW H → Nat
  | (.string bytes, d) => bytes.length + uptoBulk d + 1
  | (_, d) => uptoBulk d + 1
 end
def uptoSmall : (H : Type) → List (DataW H) → Bool := fun _ ds => decide (uptoBulkAll ds ≤ 1048576)
def OpenSpec.upto (s : _root_.Go.ChangeSpec) : _root_.Go.OpenSpec := { _root_.Go.OpenSpec.ofChange s with cond := some uptoSmall }

/-- 'grafttop.TopStates', WHERE WHAT IT READS IS OF BULK AT MOST 1048576: true; the input reads as it did. -/
def topStatesUptoRow : OpenClaim := { program := "ytcmhplknoglbkaagreat", sum := "48cf884cf83867511b7f7ead349c86868999499dc64d6b451857772d3bea71e1", func := "graft/grafttop.TopStates", spec := "topStates", inPlace := ["internal/bytealg.IndexByte", "internal/bytealg.Index", "slices.overlaps[int]"], unfollowed := true, recurses := true, named := ["internal/bytealg.MaxLen"], plainKeys := false, apart := false, narrowed := true }
def TopStatesUptoSaid : Prop := topStatesUptoRow.holds Tryz.pinned (OpenSpec.upto topStatesSpec)

/-- 'grafttop.TopConfined', WHERE WHAT IT READS IS OF BULK AT MOST 1048576: true; the input reads as it did. -/
def topConfinedUptoRow : OpenClaim := { program := "ytcmhplknoglbkaagreat", sum := "48cf884cf83867511b7f7ead349c86868999499dc64d6b451857772d3bea71e1", func := "graft/grafttop.TopConfined", spec := "topConfined", inPlace := ["internal/bytealg.IndexByte", "internal/bytealg.Index", "slices.overlaps[int]"], unfollowed := true, recurses := true, named := ["internal/bytealg.MaxLen"], plainKeys := false, apart := false, narrowed := true }
def TopConfinedUptoSaid : Prop := topConfinedUptoRow.holds Tryz.pinned (OpenSpec.upto topConfinedSpec)

/-- 'grafttop.TopMemory', WHERE WHAT IT READS IS OF BULK AT MOST 1048576: true; the input reads as it did. -/
def topMemoryUptoRow : OpenClaim := { program := "ytcmhplknoglbkaagreat", sum := "48cf884cf83867511b7f7ead349c86868999499dc64d6b451857772d3bea71e1", func := "graft/grafttop.TopMemory", spec := "topMemory", inPlace := ["internal/bytealg.IndexByte", "internal/bytealg.Index", "slices.overlaps[int]"], unfollowed := true, recurses := true, named := ["internal/bytealg.MaxLen"], plainKeys := false, apart := false, narrowed := true }
def TopMemoryUptoSaid : Prop := topMemoryUptoRow.holds Tryz.pinned (OpenSpec.upto topMemorySpec)

/-- 'grafttop.TopConverts', WHERE WHAT IT READS IS OF BULK AT MOST 1048576: true; the input reads as it did. -/
def topConvertsUptoRow : OpenClaim := { program := "ytcmhplknoglbkaagreat", sum := "48cf884cf83867511b7f7ead349c86868999499dc64d6b451857772d3bea71e1", func := "graft/grafttop.TopConverts", spec := "topConverts", inPlace := ["internal/bytealg.IndexByte", "internal/bytealg.Index", "slices.overlaps[int]"], unfollowed := true, recurses := true, named := ["internal/bytealg.MaxLen"], plainKeys := false, apart := false, narrowed := true }
def TopConvertsUptoSaid : Prop := topConvertsUptoRow.holds Tryz.pinned (OpenSpec.upto topConvertsSpec)

/-- 'grafttop.TopConflicts', WHERE WHAT IT READS IS OF BULK AT MOST 1048576: true; the input reads as it did. -/
def topConflictsUptoRow : OpenClaim := { program := "ytcmhplknoglbkaagreat", sum := "48cf884cf83867511b7f7ead349c86868999499dc64d6b451857772d3bea71e1", func := "graft/grafttop.TopConflicts", spec := "topConflicts", inPlace := ["internal/bytealg.IndexByte", "internal/bytealg.Index", "slices.overlaps[int]"], unfollowed := true, recurses := true, named := ["internal/bytealg.MaxLen"], plainKeys := false, apart := false, narrowed := true }
def TopConflictsUptoSaid : Prop := topConflictsUptoRow.holds Tryz.pinned (OpenSpec.upto topConflictsSpec)

end Rows
end Go.Proofs.YtcmhplknoglbkaaGreat
