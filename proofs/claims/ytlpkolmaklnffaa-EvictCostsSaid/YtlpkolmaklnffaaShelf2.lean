/- Two layings of the kit's shelf at this seat's program: slices.Insert, slices.DeleteFunc (written by the kit's lay-plain). -/
import Derived.Shelf.SlGeneric
import Derived.Ground.Names2Prog
import Derived.Ground.SlgfProg
import Derived.Shelf.Spec.SlicesInsert
import Derived.Shelf.Spec.SlicesInsertGrow
import Derived.Shelf.SlicesE.DeleteFunc
import Derived.Test.YtlpkolmaklnffaaProg
namespace Go.Proofs
open Go.Shelf
def Try.laysIns_ren : Go.Shelf.Ren := ⟨fun | 21 => 92 | 27 => 101 | 28 => 102 | 35 => 114 | 39 => 120 | n => n, fun | 22 => 29 | 3 => 3 | 4 => 4 | 0 => 0 | n => n, fun | n => n⟩
theorem Try.laysIns : Go.Proofs.Lays2.n21 Try.prog Try.laysIns_ren := {
  mixed := by kernel_rfl
  f21 := Try.func92.trans (congrArg some (by kernel_rfl))
  f27 := Try.func101.trans (congrArg some (by kernel_rfl))
  f28 := Try.func102.trans (congrArg some (by kernel_rfl))
  f35 := Try.func114.trans (congrArg some (by kernel_rfl))
  f39 := Try.func120.trans (congrArg some (by kernel_rfl))
  t0 := Try.underlying0
  a0 := Try.isAgg0
  z0 := Try.sizeOf0
  v0 := Try.zeroValue0
  t3 := Try.underlying3
  a3 := Try.isAgg3
  z3 := Try.sizeOf3
  v3 := Try.zeroValue3
  t4 := Try.underlying4
  a4 := Try.isAgg4
  z4 := Try.sizeOf4
  v4 := Try.zeroValue4
  t22 := Try.underlying29
  a22 := Try.isAgg29
  z22 := Try.sizeOf29
  v22 := Try.zeroValue29
  i3 := by kernel_rfl }
def Try.laysDel_ren : Go.Shelf.Ren := ⟨fun | 10 => 60 | 6 => 86 | n => n, fun | 22 => 29 | 23 => 3 | 25 => 78 | 3 => 3 | 4 => 4 | 0 => 0 | n => n, fun | n => n⟩
theorem Try.laysDel : Go.Proofs.SlLaysH.n10 Try.prog Try.laysDel_ren := {
  mixed := by kernel_rfl
  f6 := ⟨Try.f86.name, by decide, Try.func86.trans (congrArg some (by kernel_rfl))⟩
  f10 := ⟨Try.f60.name, by decide, Try.func60.trans (congrArg some (by kernel_rfl))⟩
  t0 := Try.underlying0
  a0 := Try.isAgg0
  z0 := Try.sizeOf0
  v0 := Try.zeroValue0
  t3 := Try.underlying3
  a3 := Try.isAgg3
  z3 := Try.sizeOf3
  v3 := Try.zeroValue3
  t4 := Try.underlying4
  a4 := Try.isAgg4
  z4 := Try.sizeOf4
  v4 := Try.zeroValue4
  t22 := Try.underlying29
  a22 := Try.isAgg29
  z22 := Try.sizeOf29
  v22 := Try.zeroValue29
  a23 := Try.isAgg3
  z23 := Try.sizeOf3
  t25 := Try.underlying78
  a25 := Try.isAgg78
  z25 := Try.sizeOf78
  v25 := Try.zeroValue78 }
end Go.Proofs
