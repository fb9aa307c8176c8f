/-
  The fixed example 2 of rubriclaw18.
-/
import Derived.Test.YtecfmifgcebifaaGreatDoorRunA
namespace Go.Proofs.YtecfmifgcebifaaGreatDoor
open Go Go.Abs
set_option maxRecDepth 1000000
theorem is2_run : callF fs 100000 51 [.ptr 1 0, .str [123, 97, 40, 120, 58, 49, 32, 122, 58, 50, 41, 125], .int .i64 (.ofNat 181), .int .i64 (.ofNat 7)] memA = some (.bool true, memA) := by kernel_rfl

end Go.Proofs.YtecfmifgcebifaaGreatDoor
