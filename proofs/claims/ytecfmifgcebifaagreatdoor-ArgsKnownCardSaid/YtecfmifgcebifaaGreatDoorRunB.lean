/-
  The fixed example 1 of rubriclaw18.
-/
import Derived.Test.YtecfmifgcebifaaGreatDoorRunA
namespace Go.Proofs.YtecfmifgcebifaaGreatDoor
open Go Go.Abs
set_option maxRecDepth 1000000
theorem is1_run : callF fs 100000 51 [.ptr 1 0, .str [123, 97, 40, 121, 58, 49, 41, 125], .int .i64 (.ofNat 183), .int .i64 (.ofNat 1)] memA = some (.bool true, memA) := by kernel_rfl

end Go.Proofs.YtecfmifgcebifaaGreatDoor
