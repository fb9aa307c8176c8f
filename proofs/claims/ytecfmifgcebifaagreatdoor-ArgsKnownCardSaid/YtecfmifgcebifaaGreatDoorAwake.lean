/-
  The fixed examples of rubriclaw18 hold.
-/
import Derived.Test.YtecfmifgcebifaaGreatDoorRunB
import Derived.Test.YtecfmifgcebifaaGreatDoorRunC
import Derived.Test.YtecfmifgcebifaaGreatDoorRunD
import Derived.Test.YtecfmifgcebifaaGreatDoorRunE
import Derived.Test.YtecfmifgcebifaaGreatDoorAbsD
namespace Go.Proofs.YtecfmifgcebifaaGreatDoor
open Go Go.Abs
set_option maxRecDepth 1000000

theorem fs22 : fs 22 = some (.code c22) := by kernel_rfl

theorem awake_true (args : List AVal) : call fs 22 args emptyM = some (.bool true, emptyM) := by
  have a := call_ofF parse_run
  have b := call_ofF is1_run
  have c := call_ofF is2_run
  have d := call_ofF is3_run
  have e := call_ofF is4_run
  unfold textA at a
  rw [call_body fs22, emptyM_again]
  simp only [exec_seq, exec_region, exec_condE, condE_false, exec_ret, exec_skip, ops_nil, ops_cons, guard_true, opR_some, wanted_none, wanted_some, isB_bool, op_p, op_call, Option.map_some, run_move, run_pick, pickF_true, pickF_false, run_bin, run_extract, extractF_0, extractF_1, extractF_2, extractF_3, ev_tmp, ev_con, putA_some, normalR_some, thenR_normal, evAll_nil, evAll_cons, sealAll_nil, sealAll_cons, seal_str, seal_int, seal_ptr, lget_self, lget_ne, Nat.reduceBEq, bin_int_neq, sameInt_nat, beq_self_eq_true, Bool.not_true, bin_ptr_eql, endB_ret, resA_nil, resA_tmp, Option.bind_some, a, b, c, d, e]
  rfl

end Go.Proofs.YtecfmifgcebifaaGreatDoor
