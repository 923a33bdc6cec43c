/-
  No cell of these rows narrows 'for every input' (looked for: loops, veiled, ifaces, maps, wideKeys, modest, calm, conditions, laid).
  DERIVED. THE GIVEN ROWS OF THIS SEAT. 18 by the template 'for every input the law returns true; each argument reads behind the call as it read before'; 0 by the template 'total and deterministic' (their statements: YtlpkolmaklnffaaTotals.lean).
  GIVEN WITH THE SEED: the statements are not yours to turn. If you find one false, say at which input.
  Laid BY PROGRAM, IN A SANDBOX (cutbox-rows.mjs): the forced cells as the released guide's own fill.sh prints them over the translation 41838bf00cbaabd2… (all of the seat's roots in one cut). By AI agents, Wed Nov 11 2026. No macro, syntax, notation, axiom, sorry.
-/
import Derived.Test.YtlpkolmaklnffaaChecked
import GoSem.Claim
import GoSem.ClaimJoined
import GoSem.ClaimMapViews
import Derived.JoinedTies
import Derived.KernelRfl
namespace Go.Proofs.Ytlpkolmaklnffaa
/- THE CELL 'sum', in the pinned program and in every row, IS THE sha256 OF THE DUMP (.gsa) THAT YtlpkolmaklnffaaProg.lean LOADS. Nothing in Lean hashes anything: it is a label: what it is worth is what the hold of that sum in a sandbox is worth. -/
noncomputable def Try.pinned : Pinned := { name := "ytlpkolmaklnffaa", sum := "41838bf00cbaabd26f6d62223f5b9265481ded6133d709b6a686285172b226c1", checked := Try.checked }
namespace Rows
def none {H : Type} : Left H := { results := [], args := [] }

/-- 'graftlaw11.DigraphReaches': WHATEVER THE INPUT: true; the input reads as it did. -/
def digraphReachesSpec : ChangeSpec := { name := "digraphReaches", fn := fun _ => fun
  | [d1, d2] => { results := [.lit (.bool true)], args := [d1, d2] }
  | _ => none }
def digraphReachesRow : OpenClaim := { program := "ytlpkolmaklnffaa", sum := "41838bf00cbaabd26f6d62223f5b9265481ded6133d709b6a686285172b226c1", func := "graft/graftlaw11.DigraphReaches", spec := "digraphReaches", unfollowed := true, recurses := true, plainKeys := false, apart := false }
def DigraphReachesSaid : Prop := digraphReachesRow.holds Try.pinned (OpenSpec.ofChange digraphReachesSpec)

/-- ITS FALSE NEIGHBOUR: 'it returns false'. Refute it at one input. -/
def digraphReachesWrong : ChangeSpec := { name := "digraphReaches", fn := fun _ => fun
  | [d1, d2] => { results := [.lit (.bool false)], args := [d1, d2] }
  | _ => none }
def DigraphReachesWrongFalsely : Prop := digraphReachesRow.holds Try.pinned (OpenSpec.ofChange digraphReachesWrong)

/-- 'graftlaw11.DigraphPaths': WHATEVER THE INPUT: true; the input reads as it did. -/
def digraphPathsSpec : ChangeSpec := { name := "digraphPaths", fn := fun _ => fun
  | [d1, d2, d3] => { results := [.lit (.bool true)], args := [d1, d2, d3] }
  | _ => none }
def digraphPathsRow : OpenClaim := { program := "ytlpkolmaklnffaa", sum := "41838bf00cbaabd26f6d62223f5b9265481ded6133d709b6a686285172b226c1", func := "graft/graftlaw11.DigraphPaths", spec := "digraphPaths", unfollowed := true, recurses := true, plainKeys := false, apart := false }
def DigraphPathsSaid : Prop := digraphPathsRow.holds Try.pinned (OpenSpec.ofChange digraphPathsSpec)

/-- ITS FALSE NEIGHBOUR: 'it returns false'. Refute it at one input. -/
def digraphPathsWrong : ChangeSpec := { name := "digraphPaths", fn := fun _ => fun
  | [d1, d2, d3] => { results := [.lit (.bool false)], args := [d1, d2, d3] }
  | _ => none }
def DigraphPathsWrongFalsely : Prop := digraphPathsRow.holds Try.pinned (OpenSpec.ofChange digraphPathsWrong)

/-- 'graftlaw11.DigraphAdds': WHATEVER THE INPUT: true; the input reads as it did. -/
def digraphAddsSpec : ChangeSpec := { name := "digraphAdds", fn := fun _ => fun
  | [d1, d2] => { results := [.lit (.bool true)], args := [d1, d2] }
  | _ => none }
def digraphAddsRow : OpenClaim := { program := "ytlpkolmaklnffaa", sum := "41838bf00cbaabd26f6d62223f5b9265481ded6133d709b6a686285172b226c1", func := "graft/graftlaw11.DigraphAdds", spec := "digraphAdds", unfollowed := true, recurses := true, plainKeys := false, apart := false }
def DigraphAddsSaid : Prop := digraphAddsRow.holds Try.pinned (OpenSpec.ofChange digraphAddsSpec)

/-- ITS FALSE NEIGHBOUR: 'it returns false'. Refute it at one input. -/
def digraphAddsWrong : ChangeSpec := { name := "digraphAdds", fn := fun _ => fun
  | [d1, d2] => { results := [.lit (.bool false)], args := [d1, d2] }
  | _ => none }
def DigraphAddsWrongFalsely : Prop := digraphAddsRow.holds Try.pinned (OpenSpec.ofChange digraphAddsWrong)

/-- 'graftlaw11.DigraphHas': WHATEVER THE INPUT: true; the input reads as it did. -/
def digraphHasSpec : ChangeSpec := { name := "digraphHas", fn := fun _ => fun
  | [d1, d2, d3] => { results := [.lit (.bool true)], args := [d1, d2, d3] }
  | _ => none }
def digraphHasRow : OpenClaim := { program := "ytlpkolmaklnffaa", sum := "41838bf00cbaabd26f6d62223f5b9265481ded6133d709b6a686285172b226c1", func := "graft/graftlaw11.DigraphHas", spec := "digraphHas", unfollowed := true, recurses := true, plainKeys := false, apart := false }
def DigraphHasSaid : Prop := digraphHasRow.holds Try.pinned (OpenSpec.ofChange digraphHasSpec)

/-- ITS FALSE NEIGHBOUR: 'it returns false'. Refute it at one input. -/
def digraphHasWrong : ChangeSpec := { name := "digraphHas", fn := fun _ => fun
  | [d1, d2, d3] => { results := [.lit (.bool false)], args := [d1, d2, d3] }
  | _ => none }
def DigraphHasWrongFalsely : Prop := digraphHasRow.holds Try.pinned (OpenSpec.ofChange digraphHasWrong)

/-- 'graftlaw11.DigraphWithout': WHATEVER THE INPUT: true; the input reads as it did. -/
def digraphWithoutSpec : ChangeSpec := { name := "digraphWithout", fn := fun _ => fun
  | [d1, d2, d3] => { results := [.lit (.bool true)], args := [d1, d2, d3] }
  | _ => none }
def digraphWithoutRow : OpenClaim := { program := "ytlpkolmaklnffaa", sum := "41838bf00cbaabd26f6d62223f5b9265481ded6133d709b6a686285172b226c1", func := "graft/graftlaw11.DigraphWithout", spec := "digraphWithout", unfollowed := true, recurses := true, plainKeys := false, apart := false }
def DigraphWithoutSaid : Prop := digraphWithoutRow.holds Try.pinned (OpenSpec.ofChange digraphWithoutSpec)

/-- ITS FALSE NEIGHBOUR: 'it returns false'. Refute it at one input. -/
def digraphWithoutWrong : ChangeSpec := { name := "digraphWithout", fn := fun _ => fun
  | [d1, d2, d3] => { results := [.lit (.bool false)], args := [d1, d2, d3] }
  | _ => none }
def DigraphWithoutWrongFalsely : Prop := digraphWithoutRow.holds Try.pinned (OpenSpec.ofChange digraphWithoutWrong)

/-- 'graftlaw11.DigraphNil': WHATEVER THE INPUT: true; the input reads as it did. -/
def digraphNilSpec : ChangeSpec := { name := "digraphNil", fn := fun _ => fun
  | [d1, d2] => { results := [.lit (.bool true)], args := [d1, d2] }
  | _ => none }
def digraphNilRow : OpenClaim := { program := "ytlpkolmaklnffaa", sum := "41838bf00cbaabd26f6d62223f5b9265481ded6133d709b6a686285172b226c1", func := "graft/graftlaw11.DigraphNil", spec := "digraphNil", unfollowed := true, recurses := true, plainKeys := false, apart := false }
def DigraphNilSaid : Prop := digraphNilRow.holds Try.pinned (OpenSpec.ofChange digraphNilSpec)

/-- ITS FALSE NEIGHBOUR: 'it returns false'. Refute it at one input. -/
def digraphNilWrong : ChangeSpec := { name := "digraphNil", fn := fun _ => fun
  | [d1, d2] => { results := [.lit (.bool false)], args := [d1, d2] }
  | _ => none }
def DigraphNilWrongFalsely : Prop := digraphNilRow.holds Try.pinned (OpenSpec.ofChange digraphNilWrong)

/-- 'graftlaw13.TopoOrders': WHATEVER THE INPUT: true; the input reads as it did. -/
def topoOrdersSpec : ChangeSpec := { name := "topoOrders", fn := fun _ => fun
  | [d1, d2, d3] => { results := [.lit (.bool true)], args := [d1, d2, d3] }
  | _ => none }
def topoOrdersRow : OpenClaim := { program := "ytlpkolmaklnffaa", sum := "41838bf00cbaabd26f6d62223f5b9265481ded6133d709b6a686285172b226c1", func := "graft/graftlaw13.TopoOrders", spec := "topoOrders", inPlace := ["slices.overlaps[int]"], unfollowed := true, recurses := true, plainKeys := false, apart := false }
def TopoOrdersSaid : Prop := topoOrdersRow.holds Try.pinned (OpenSpec.ofChange topoOrdersSpec)

/-- ITS FALSE NEIGHBOUR: 'it returns false'. Refute it at one input. -/
def topoOrdersWrong : ChangeSpec := { name := "topoOrders", fn := fun _ => fun
  | [d1, d2, d3] => { results := [.lit (.bool false)], args := [d1, d2, d3] }
  | _ => none }
def TopoOrdersWrongFalsely : Prop := topoOrdersRow.holds Try.pinned (OpenSpec.ofChange topoOrdersWrong)

/-- 'graftlaw13.TopoCycles': WHATEVER THE INPUT: true; the input reads as it did. -/
def topoCyclesSpec : ChangeSpec := { name := "topoCycles", fn := fun _ => fun
  | [d1, d2, d3] => { results := [.lit (.bool true)], args := [d1, d2, d3] }
  | _ => none }
def topoCyclesRow : OpenClaim := { program := "ytlpkolmaklnffaa", sum := "41838bf00cbaabd26f6d62223f5b9265481ded6133d709b6a686285172b226c1", func := "graft/graftlaw13.TopoCycles", spec := "topoCycles", inPlace := ["slices.overlaps[int]"], unfollowed := true, recurses := true, plainKeys := false, apart := false }
def TopoCyclesSaid : Prop := topoCyclesRow.holds Try.pinned (OpenSpec.ofChange topoCyclesSpec)

/-- ITS FALSE NEIGHBOUR: 'it returns false'. Refute it at one input. -/
def topoCyclesWrong : ChangeSpec := { name := "topoCycles", fn := fun _ => fun
  | [d1, d2, d3] => { results := [.lit (.bool false)], args := [d1, d2, d3] }
  | _ => none }
def TopoCyclesWrongFalsely : Prop := topoCyclesRow.holds Try.pinned (OpenSpec.ofChange topoCyclesWrong)

/-- 'graftlaw13.TopoSorted': WHATEVER THE INPUT: true; the input reads as it did. -/
def topoSortedSpec : ChangeSpec := { name := "topoSorted", fn := fun _ => fun
  | [d1, d2, d3] => { results := [.lit (.bool true)], args := [d1, d2, d3] }
  | _ => none }
def topoSortedRow : OpenClaim := { program := "ytlpkolmaklnffaa", sum := "41838bf00cbaabd26f6d62223f5b9265481ded6133d709b6a686285172b226c1", func := "graft/graftlaw13.TopoSorted", spec := "topoSorted", inPlace := ["slices.overlaps[int]"], unfollowed := true, recurses := true, plainKeys := false, apart := false }
def TopoSortedSaid : Prop := topoSortedRow.holds Try.pinned (OpenSpec.ofChange topoSortedSpec)

/-- ITS FALSE NEIGHBOUR: 'it returns false'. Refute it at one input. -/
def topoSortedWrong : ChangeSpec := { name := "topoSorted", fn := fun _ => fun
  | [d1, d2, d3] => { results := [.lit (.bool false)], args := [d1, d2, d3] }
  | _ => none }
def TopoSortedWrongFalsely : Prop := topoSortedRow.holds Try.pinned (OpenSpec.ofChange topoSortedWrong)

/-- 'graftlaw13.TopoDepths': WHATEVER THE INPUT: true; the input reads as it did. -/
def topoDepthsSpec : ChangeSpec := { name := "topoDepths", fn := fun _ => fun
  | [d1, d2] => { results := [.lit (.bool true)], args := [d1, d2] }
  | _ => none }
def topoDepthsRow : OpenClaim := { program := "ytlpkolmaklnffaa", sum := "41838bf00cbaabd26f6d62223f5b9265481ded6133d709b6a686285172b226c1", func := "graft/graftlaw13.TopoDepths", spec := "topoDepths", inPlace := ["slices.overlaps[int]"], unfollowed := true, recurses := true, plainKeys := false, apart := false }
def TopoDepthsSaid : Prop := topoDepthsRow.holds Try.pinned (OpenSpec.ofChange topoDepthsSpec)

/-- ITS FALSE NEIGHBOUR: 'it returns false'. Refute it at one input. -/
def topoDepthsWrong : ChangeSpec := { name := "topoDepths", fn := fun _ => fun
  | [d1, d2] => { results := [.lit (.bool false)], args := [d1, d2] }
  | _ => none }
def TopoDepthsWrongFalsely : Prop := topoDepthsRow.holds Try.pinned (OpenSpec.ofChange topoDepthsWrong)

/-- 'graftlaw13.TopoCyclic': WHATEVER THE INPUT: true; the input reads as it did. -/
def topoCyclicSpec : ChangeSpec := { name := "topoCyclic", fn := fun _ => fun
  | [d1, d2, d3] => { results := [.lit (.bool true)], args := [d1, d2, d3] }
  | _ => none }
def topoCyclicRow : OpenClaim := { program := "ytlpkolmaklnffaa", sum := "41838bf00cbaabd26f6d62223f5b9265481ded6133d709b6a686285172b226c1", func := "graft/graftlaw13.TopoCyclic", spec := "topoCyclic", inPlace := ["slices.overlaps[int]"], unfollowed := true, recurses := true, plainKeys := false, apart := false }
def TopoCyclicSaid : Prop := topoCyclicRow.holds Try.pinned (OpenSpec.ofChange topoCyclicSpec)

/-- ITS FALSE NEIGHBOUR: 'it returns false'. Refute it at one input. -/
def topoCyclicWrong : ChangeSpec := { name := "topoCyclic", fn := fun _ => fun
  | [d1, d2, d3] => { results := [.lit (.bool false)], args := [d1, d2, d3] }
  | _ => none }
def TopoCyclicWrongFalsely : Prop := topoCyclicRow.holds Try.pinned (OpenSpec.ofChange topoCyclicWrong)

/-- 'graftlaw13.TopoLoops': WHATEVER THE INPUT: true; the input reads as it did. -/
def topoLoopsSpec : ChangeSpec := { name := "topoLoops", fn := fun _ => fun
  | [d1, d2] => { results := [.lit (.bool true)], args := [d1, d2] }
  | _ => none }
def topoLoopsRow : OpenClaim := { program := "ytlpkolmaklnffaa", sum := "41838bf00cbaabd26f6d62223f5b9265481ded6133d709b6a686285172b226c1", func := "graft/graftlaw13.TopoLoops", spec := "topoLoops", inPlace := ["slices.overlaps[int]"], unfollowed := true, recurses := true, plainKeys := false, apart := false }
def TopoLoopsSaid : Prop := topoLoopsRow.holds Try.pinned (OpenSpec.ofChange topoLoopsSpec)

/-- ITS FALSE NEIGHBOUR: 'it returns false'. Refute it at one input. -/
def topoLoopsWrong : ChangeSpec := { name := "topoLoops", fn := fun _ => fun
  | [d1, d2] => { results := [.lit (.bool false)], args := [d1, d2] }
  | _ => none }
def TopoLoopsWrongFalsely : Prop := topoLoopsRow.holds Try.pinned (OpenSpec.ofChange topoLoopsWrong)

/-- 'graftlaw14.EvictChooses': WHATEVER THE INPUT: true; the input reads as it did. -/
def evictChoosesSpec : ChangeSpec := { name := "evictChooses", fn := fun _ => fun
  | [d1, d2, d3] => { results := [.lit (.bool true)], args := [d1, d2, d3] }
  | _ => none }
def evictChoosesRow : OpenClaim := { program := "ytlpkolmaklnffaa", sum := "41838bf00cbaabd26f6d62223f5b9265481ded6133d709b6a686285172b226c1", func := "graft/graftlaw14.EvictChooses", spec := "evictChooses", inPlace := ["slices.overlaps[int]"], unfollowed := true, recurses := true, plainKeys := false, apart := false }
def EvictChoosesSaid : Prop := evictChoosesRow.holds Try.pinned (OpenSpec.ofChange evictChoosesSpec)

/-- ITS FALSE NEIGHBOUR: 'it returns false'. Refute it at one input. -/
def evictChoosesWrong : ChangeSpec := { name := "evictChooses", fn := fun _ => fun
  | [d1, d2, d3] => { results := [.lit (.bool false)], args := [d1, d2, d3] }
  | _ => none }
def EvictChoosesWrongFalsely : Prop := evictChoosesRow.holds Try.pinned (OpenSpec.ofChange evictChoosesWrong)

/-- 'graftlaw14.EvictBreaks': WHATEVER THE INPUT: true; the input reads as it did. -/
def evictBreaksSpec : ChangeSpec := { name := "evictBreaks", fn := fun _ => fun
  | [d1, d2, d3] => { results := [.lit (.bool true)], args := [d1, d2, d3] }
  | _ => none }
def evictBreaksRow : OpenClaim := { program := "ytlpkolmaklnffaa", sum := "41838bf00cbaabd26f6d62223f5b9265481ded6133d709b6a686285172b226c1", func := "graft/graftlaw14.EvictBreaks", spec := "evictBreaks", inPlace := ["slices.overlaps[int]"], unfollowed := true, recurses := true, plainKeys := false, apart := false }
def EvictBreaksSaid : Prop := evictBreaksRow.holds Try.pinned (OpenSpec.ofChange evictBreaksSpec)

/-- ITS FALSE NEIGHBOUR: 'it returns false'. Refute it at one input. -/
def evictBreaksWrong : ChangeSpec := { name := "evictBreaks", fn := fun _ => fun
  | [d1, d2, d3] => { results := [.lit (.bool false)], args := [d1, d2, d3] }
  | _ => none }
def EvictBreaksWrongFalsely : Prop := evictBreaksRow.holds Try.pinned (OpenSpec.ofChange evictBreaksWrong)

/-- 'graftlaw14.EvictCosts': WHATEVER THE INPUT: true; the input reads as it did. -/
def evictCostsSpec : ChangeSpec := { name := "evictCosts", fn := fun _ => fun
  | [d1, d2, d3] => { results := [.lit (.bool true)], args := [d1, d2, d3] }
  | _ => none }
def evictCostsRow : OpenClaim := { program := "ytlpkolmaklnffaa", sum := "41838bf00cbaabd26f6d62223f5b9265481ded6133d709b6a686285172b226c1", func := "graft/graftlaw14.EvictCosts", spec := "evictCosts", inPlace := ["slices.overlaps[int]"], unfollowed := true, recurses := true, plainKeys := false, apart := false }
def EvictCostsSaid : Prop := evictCostsRow.holds Try.pinned (OpenSpec.ofChange evictCostsSpec)

/-- ITS FALSE NEIGHBOUR: 'it returns false'. Refute it at one input. -/
def evictCostsWrong : ChangeSpec := { name := "evictCosts", fn := fun _ => fun
  | [d1, d2, d3] => { results := [.lit (.bool false)], args := [d1, d2, d3] }
  | _ => none }
def EvictCostsWrongFalsely : Prop := evictCostsRow.holds Try.pinned (OpenSpec.ofChange evictCostsWrong)

/-- 'graftlaw14.EvictNext': WHATEVER THE INPUT: true; the input reads as it did. -/
def evictNextSpec : ChangeSpec := { name := "evictNext", fn := fun _ => fun
  | [d1, d2, d3] => { results := [.lit (.bool true)], args := [d1, d2, d3] }
  | _ => none }
def evictNextRow : OpenClaim := { program := "ytlpkolmaklnffaa", sum := "41838bf00cbaabd26f6d62223f5b9265481ded6133d709b6a686285172b226c1", func := "graft/graftlaw14.EvictNext", spec := "evictNext", inPlace := ["slices.overlaps[int]"], unfollowed := true, recurses := true, plainKeys := false, apart := false }
def EvictNextSaid : Prop := evictNextRow.holds Try.pinned (OpenSpec.ofChange evictNextSpec)

/-- ITS FALSE NEIGHBOUR: 'it returns false'. Refute it at one input. -/
def evictNextWrong : ChangeSpec := { name := "evictNext", fn := fun _ => fun
  | [d1, d2, d3] => { results := [.lit (.bool false)], args := [d1, d2, d3] }
  | _ => none }
def EvictNextWrongFalsely : Prop := evictNextRow.holds Try.pinned (OpenSpec.ofChange evictNextWrong)

/-- 'graftlaw14.EvictNeeds': WHATEVER THE INPUT: true; the input reads as it did. -/
def evictNeedsSpec : ChangeSpec := { name := "evictNeeds", fn := fun _ => fun
  | [d1, d2, d3] => { results := [.lit (.bool true)], args := [d1, d2, d3] }
  | _ => none }
def evictNeedsRow : OpenClaim := { program := "ytlpkolmaklnffaa", sum := "41838bf00cbaabd26f6d62223f5b9265481ded6133d709b6a686285172b226c1", func := "graft/graftlaw14.EvictNeeds", spec := "evictNeeds", inPlace := ["slices.overlaps[int]"], unfollowed := true, recurses := true, plainKeys := false, apart := false }
def EvictNeedsSaid : Prop := evictNeedsRow.holds Try.pinned (OpenSpec.ofChange evictNeedsSpec)

/-- ITS FALSE NEIGHBOUR: 'it returns false'. Refute it at one input. -/
def evictNeedsWrong : ChangeSpec := { name := "evictNeeds", fn := fun _ => fun
  | [d1, d2, d3] => { results := [.lit (.bool false)], args := [d1, d2, d3] }
  | _ => none }
def EvictNeedsWrongFalsely : Prop := evictNeedsRow.holds Try.pinned (OpenSpec.ofChange evictNeedsWrong)

/-- 'graftlaw14.EvictSteps': WHATEVER THE INPUT: true; the input reads as it did. -/
def evictStepsSpec : ChangeSpec := { name := "evictSteps", fn := fun _ => fun
  | [d1, d2, d3] => { results := [.lit (.bool true)], args := [d1, d2, d3] }
  | _ => none }
def evictStepsRow : OpenClaim := { program := "ytlpkolmaklnffaa", sum := "41838bf00cbaabd26f6d62223f5b9265481ded6133d709b6a686285172b226c1", func := "graft/graftlaw14.EvictSteps", spec := "evictSteps", inPlace := ["slices.overlaps[int]"], unfollowed := true, recurses := true, plainKeys := false, apart := false }
def EvictStepsSaid : Prop := evictStepsRow.holds Try.pinned (OpenSpec.ofChange evictStepsSpec)

/-- ITS FALSE NEIGHBOUR: 'it returns false'. Refute it at one input. -/
def evictStepsWrong : ChangeSpec := { name := "evictSteps", fn := fun _ => fun
  | [d1, d2, d3] => { results := [.lit (.bool false)], args := [d1, d2, d3] }
  | _ => none }
def EvictStepsWrongFalsely : Prop := evictStepsRow.holds Try.pinned (OpenSpec.ofChange evictStepsWrong)

/- THE SECOND FORM. 'bulk': how many values and letters a reading holds, each counted each time it is reached (what is shared counts as often as it is met; a slice's spare places count too). A statement '..UptoSaid' is the law's where the arguments, and the package variables that the reading takes, are together of bulk at most 1048576: NARROWER than '..Said'. Prove '..Said' where nothing that the law and all that it calls make is longer than what came in: it says more and counts as full. Else prove '..UptoSaid'. A law counts once. -/
mutual
def uptoBulk {H : Type} : DataW H → Nat
  | .lit (.string bytes) => bytes.length + 1
  | .lit _ => 1
  | .nil => 1
  | .ptr d => uptoBulk d + 1
  | .slice elems spare => uptoBulkAll elems + uptoBulkAll spare + 1
  | .agg parts => uptoBulkAll parts + 1
  | .iface _ d => uptoBulk d + 1
  | .map entries => uptoBulkEntries entries + 1
  | .held _ => 1
def uptoBulkAll {H : Type} : List (DataW H) → Nat
  | [] => 0
  | d :: r => uptoBulk d + uptoBulkAll r
def uptoBulkEntries {H : Type} : List (Lit × DataW H) → Nat
  | [] => 0
  | x :: r => uptoBulkEntry x + uptoBulkEntries r
def uptoBulkEntry {H : Type} : Lit × DataW H → Nat
  | (.string bytes, d) => bytes.length + uptoBulk d + 1
  | (_, d) => uptoBulk d + 1
 end
def uptoSmall : (H : Type) → List (DataW H) → Bool := fun _ ds => decide (uptoBulkAll ds ≤ 1048576)
def OpenSpec.upto (s : _root_.Go.ChangeSpec) : _root_.Go.OpenSpec := { _root_.Go.OpenSpec.ofChange s with cond := some uptoSmall }

/-- 'graftlaw11.DigraphReaches', WHERE WHAT IT READS IS OF BULK AT MOST 1048576: true; the input reads as it did. -/
def digraphReachesUptoRow : OpenClaim := { program := "ytlpkolmaklnffaa", sum := "41838bf00cbaabd26f6d62223f5b9265481ded6133d709b6a686285172b226c1", func := "graft/graftlaw11.DigraphReaches", spec := "digraphReaches", unfollowed := true, recurses := true, plainKeys := false, apart := false, narrowed := true }
def DigraphReachesUptoSaid : Prop := digraphReachesUptoRow.holds Try.pinned (OpenSpec.upto digraphReachesSpec)

/-- 'graftlaw11.DigraphPaths', WHERE WHAT IT READS IS OF BULK AT MOST 1048576: true; the input reads as it did. -/
def digraphPathsUptoRow : OpenClaim := { program := "ytlpkolmaklnffaa", sum := "41838bf00cbaabd26f6d62223f5b9265481ded6133d709b6a686285172b226c1", func := "graft/graftlaw11.DigraphPaths", spec := "digraphPaths", unfollowed := true, recurses := true, plainKeys := false, apart := false, narrowed := true }
def DigraphPathsUptoSaid : Prop := digraphPathsUptoRow.holds Try.pinned (OpenSpec.upto digraphPathsSpec)

/-- 'graftlaw11.DigraphAdds', WHERE WHAT IT READS IS OF BULK AT MOST 1048576: true; the input reads as it did. -/
def digraphAddsUptoRow : OpenClaim := { program := "ytlpkolmaklnffaa", sum := "41838bf00cbaabd26f6d62223f5b9265481ded6133d709b6a686285172b226c1", func := "graft/graftlaw11.DigraphAdds", spec := "digraphAdds", unfollowed := true, recurses := true, plainKeys := false, apart := false, narrowed := true }
def DigraphAddsUptoSaid : Prop := digraphAddsUptoRow.holds Try.pinned (OpenSpec.upto digraphAddsSpec)

/-- 'graftlaw11.DigraphHas', WHERE WHAT IT READS IS OF BULK AT MOST 1048576: true; the input reads as it did. -/
def digraphHasUptoRow : OpenClaim := { program := "ytlpkolmaklnffaa", sum := "41838bf00cbaabd26f6d62223f5b9265481ded6133d709b6a686285172b226c1", func := "graft/graftlaw11.DigraphHas", spec := "digraphHas", unfollowed := true, recurses := true, plainKeys := false, apart := false, narrowed := true }
def DigraphHasUptoSaid : Prop := digraphHasUptoRow.holds Try.pinned (OpenSpec.upto digraphHasSpec)

/-- 'graftlaw11.DigraphWithout', WHERE WHAT IT READS IS OF BULK AT MOST 1048576: true; the input reads as it did. -/
def digraphWithoutUptoRow : OpenClaim := { program := "ytlpkolmaklnffaa", sum := "41838bf00cbaabd26f6d62223f5b9265481ded6133d709b6a686285172b226c1", func := "graft/graftlaw11.DigraphWithout", spec := "digraphWithout", unfollowed := true, recurses := true, plainKeys := false, apart := false, narrowed := true }
def DigraphWithoutUptoSaid : Prop := digraphWithoutUptoRow.holds Try.pinned (OpenSpec.upto digraphWithoutSpec)

/-- 'graftlaw11.DigraphNil', WHERE WHAT IT READS IS OF BULK AT MOST 1048576: true; the input reads as it did. -/
def digraphNilUptoRow : OpenClaim := { program := "ytlpkolmaklnffaa", sum := "41838bf00cbaabd26f6d62223f5b9265481ded6133d709b6a686285172b226c1", func := "graft/graftlaw11.DigraphNil", spec := "digraphNil", unfollowed := true, recurses := true, plainKeys := false, apart := false, narrowed := true }
def DigraphNilUptoSaid : Prop := digraphNilUptoRow.holds Try.pinned (OpenSpec.upto digraphNilSpec)

/-- 'graftlaw13.TopoOrders', WHERE WHAT IT READS IS OF BULK AT MOST 1048576: true; the input reads as it did. -/
def topoOrdersUptoRow : OpenClaim := { program := "ytlpkolmaklnffaa", sum := "41838bf00cbaabd26f6d62223f5b9265481ded6133d709b6a686285172b226c1", func := "graft/graftlaw13.TopoOrders", spec := "topoOrders", inPlace := ["slices.overlaps[int]"], unfollowed := true, recurses := true, plainKeys := false, apart := false, narrowed := true }
def TopoOrdersUptoSaid : Prop := topoOrdersUptoRow.holds Try.pinned (OpenSpec.upto topoOrdersSpec)

/-- 'graftlaw13.TopoCycles', WHERE WHAT IT READS IS OF BULK AT MOST 1048576: true; the input reads as it did. -/
def topoCyclesUptoRow : OpenClaim := { program := "ytlpkolmaklnffaa", sum := "41838bf00cbaabd26f6d62223f5b9265481ded6133d709b6a686285172b226c1", func := "graft/graftlaw13.TopoCycles", spec := "topoCycles", inPlace := ["slices.overlaps[int]"], unfollowed := true, recurses := true, plainKeys := false, apart := false, narrowed := true }
def TopoCyclesUptoSaid : Prop := topoCyclesUptoRow.holds Try.pinned (OpenSpec.upto topoCyclesSpec)

/-- 'graftlaw13.TopoSorted', WHERE WHAT IT READS IS OF BULK AT MOST 1048576: true; the input reads as it did. -/
def topoSortedUptoRow : OpenClaim := { program := "ytlpkolmaklnffaa", sum := "41838bf00cbaabd26f6d62223f5b9265481ded6133d709b6a686285172b226c1", func := "graft/graftlaw13.TopoSorted", spec := "topoSorted", inPlace := ["slices.overlaps[int]"], unfollowed := true, recurses := true, plainKeys := false, apart := false, narrowed := true }
def TopoSortedUptoSaid : Prop := topoSortedUptoRow.holds Try.pinned (OpenSpec.upto topoSortedSpec)

/-- 'graftlaw13.TopoDepths', WHERE WHAT IT READS IS OF BULK AT MOST 1048576: true; the input reads as it did. -/
def topoDepthsUptoRow : OpenClaim := { program := "ytlpkolmaklnffaa", sum := "41838bf00cbaabd26f6d62223f5b9265481ded6133d709b6a686285172b226c1", func := "graft/graftlaw13.TopoDepths", spec := "topoDepths", inPlace := ["slices.overlaps[int]"], unfollowed := true, recurses := true, plainKeys := false, apart := false, narrowed := true }
def TopoDepthsUptoSaid : Prop := topoDepthsUptoRow.holds Try.pinned (OpenSpec.upto topoDepthsSpec)

/-- 'graftlaw13.TopoCyclic', WHERE WHAT IT READS IS OF BULK AT MOST 1048576: true; the input reads as it did. -/
def topoCyclicUptoRow : OpenClaim := { program := "ytlpkolmaklnffaa", sum := "41838bf00cbaabd26f6d62223f5b9265481ded6133d709b6a686285172b226c1", func := "graft/graftlaw13.TopoCyclic", spec := "topoCyclic", inPlace := ["slices.overlaps[int]"], unfollowed := true, recurses := true, plainKeys := false, apart := false, narrowed := true }
def TopoCyclicUptoSaid : Prop := topoCyclicUptoRow.holds Try.pinned (OpenSpec.upto topoCyclicSpec)

/-- 'graftlaw13.TopoLoops', WHERE WHAT IT READS IS OF BULK AT MOST 1048576: true; the input reads as it did. -/
def topoLoopsUptoRow : OpenClaim := { program := "ytlpkolmaklnffaa", sum := "41838bf00cbaabd26f6d62223f5b9265481ded6133d709b6a686285172b226c1", func := "graft/graftlaw13.TopoLoops", spec := "topoLoops", inPlace := ["slices.overlaps[int]"], unfollowed := true, recurses := true, plainKeys := false, apart := false, narrowed := true }
def TopoLoopsUptoSaid : Prop := topoLoopsUptoRow.holds Try.pinned (OpenSpec.upto topoLoopsSpec)

/-- 'graftlaw14.EvictChooses', WHERE WHAT IT READS IS OF BULK AT MOST 1048576: true; the input reads as it did. -/
def evictChoosesUptoRow : OpenClaim := { program := "ytlpkolmaklnffaa", sum := "41838bf00cbaabd26f6d62223f5b9265481ded6133d709b6a686285172b226c1", func := "graft/graftlaw14.EvictChooses", spec := "evictChooses", inPlace := ["slices.overlaps[int]"], unfollowed := true, recurses := true, plainKeys := false, apart := false, narrowed := true }
def EvictChoosesUptoSaid : Prop := evictChoosesUptoRow.holds Try.pinned (OpenSpec.upto evictChoosesSpec)

/-- 'graftlaw14.EvictBreaks', WHERE WHAT IT READS IS OF BULK AT MOST 1048576: true; the input reads as it did. -/
def evictBreaksUptoRow : OpenClaim := { program := "ytlpkolmaklnffaa", sum := "41838bf00cbaabd26f6d62223f5b9265481ded6133d709b6a686285172b226c1", func := "graft/graftlaw14.EvictBreaks", spec := "evictBreaks", inPlace := ["slices.overlaps[int]"], unfollowed := true, recurses := true, plainKeys := false, apart := false, narrowed := true }
def EvictBreaksUptoSaid : Prop := evictBreaksUptoRow.holds Try.pinned (OpenSpec.upto evictBreaksSpec)

/-- 'graftlaw14.EvictCosts', WHERE WHAT IT READS IS OF BULK AT MOST 1048576: true; the input reads as it did. -/
def evictCostsUptoRow : OpenClaim := { program := "ytlpkolmaklnffaa", sum := "41838bf00cbaabd26f6d62223f5b9265481ded6133d709b6a686285172b226c1", func := "graft/graftlaw14.EvictCosts", spec := "evictCosts", inPlace := ["slices.overlaps[int]"], unfollowed := true, recurses := true, plainKeys := false, apart := false, narrowed := true }
def EvictCostsUptoSaid : Prop := evictCostsUptoRow.holds Try.pinned (OpenSpec.upto evictCostsSpec)

/-- 'graftlaw14.EvictNext', WHERE WHAT IT READS IS OF BULK AT MOST 1048576: true; the input reads as it did. -/
def evictNextUptoRow : OpenClaim := { program := "ytlpkolmaklnffaa", sum := "41838bf00cbaabd26f6d62223f5b9265481ded6133d709b6a686285172b226c1", func := "graft/graftlaw14.EvictNext", spec := "evictNext", inPlace := ["slices.overlaps[int]"], unfollowed := true, recurses := true, plainKeys := false, apart := false, narrowed := true }
def EvictNextUptoSaid : Prop := evictNextUptoRow.holds Try.pinned (OpenSpec.upto evictNextSpec)

/-- 'graftlaw14.EvictNeeds', WHERE WHAT IT READS IS OF BULK AT MOST 1048576: true; the input reads as it did. -/
def evictNeedsUptoRow : OpenClaim := { program := "ytlpkolmaklnffaa", sum := "41838bf00cbaabd26f6d62223f5b9265481ded6133d709b6a686285172b226c1", func := "graft/graftlaw14.EvictNeeds", spec := "evictNeeds", inPlace := ["slices.overlaps[int]"], unfollowed := true, recurses := true, plainKeys := false, apart := false, narrowed := true }
def EvictNeedsUptoSaid : Prop := evictNeedsUptoRow.holds Try.pinned (OpenSpec.upto evictNeedsSpec)

/-- 'graftlaw14.EvictSteps', WHERE WHAT IT READS IS OF BULK AT MOST 1048576: true; the input reads as it did. -/
def evictStepsUptoRow : OpenClaim := { program := "ytlpkolmaklnffaa", sum := "41838bf00cbaabd26f6d62223f5b9265481ded6133d709b6a686285172b226c1", func := "graft/graftlaw14.EvictSteps", spec := "evictSteps", inPlace := ["slices.overlaps[int]"], unfollowed := true, recurses := true, plainKeys := false, apart := false, narrowed := true }
def EvictStepsUptoSaid : Prop := evictStepsUptoRow.holds Try.pinned (OpenSpec.upto evictStepsSpec)

end Rows
end Go.Proofs.Ytlpkolmaklnffaa
