/-
  The fixed example 4 of rubriclaw18.
-/
import Derived.Test.YtecfmifgcebifaaGreatDoorRunA
namespace Go.Proofs.YtecfmifgcebifaaGreatDoor
open Go Go.Abs
set_option maxRecDepth 1000000
theorem is4_run : callF fs 100000 51 [.ptr 1 0, .str [113, 117, 101, 114, 121, 32, 64, 115, 107, 105, 112, 40, 105, 102, 58, 116, 114, 117, 101, 41, 32, 123, 97, 40, 120, 58, 49, 41, 125], .int .i64 (.ofNat 185), .int .i64 (.ofNat 6)] memA = some (.bool true, memA) := by kernel_rfl

end Go.Proofs.YtecfmifgcebifaaGreatDoor
