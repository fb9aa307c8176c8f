/-
  ArgsKnown's run, for every text.
-/
import Derived.Test.YtecfmifgcebifaaGreatDoorAwake
namespace Go.Proofs.YtecfmifgcebifaaGreatDoor
open Go Go.Abs
set_option maxRecDepth 1000000

theorem fs6 : fs 6 = some (.code c6) := by kernel_rfl
theorem fs23 : fs 23 = some (.code c23) := by kernel_rfl
theorem fs24 : fs 24 = some (.code c24) := by kernel_rfl
theorem fs25 : fs 25 = some (.code c25) := by kernel_rfl

def skipT : List Nat := [115, 107, 105, 112]
def includeT : List Nat := [105, 110, 99, 108, 117, 100, 101]

theorem known_skip : callF (tellAt fs 22 (.bool true)) 100000 6 [.str skipT] emptyM = some (.bool true, emptyM) := by kernel_rfl
theorem known_include : callF (tellAt fs 22 (.bool true)) 100000 6 [.str includeT] emptyM = some (.bool true, emptyM) := by kernel_rfl

theorem args_none {s : List Nat} (h1 : (s == [115, 107, 105, 112]) = false) (h2 : (s == [105, 110, 99, 108, 117, 100, 101]) = false) : call fs 23 [.str s] emptyM = some (.tup [.nils, .bool false], emptyM) := by
  rw [call_body fs23, emptyM_again]
  simp only [exec_seq, exec_region, exec_condE, condE_true, exec_ret, ops_nil, ops_cons, guard_true, opR_some, wanted_none, wanted_some, isB_bool, op_p, Option.map_some, run_move, run_pick, pickF_true, run_bin, ev_tmp, ev_con, putA_some, normalR_some, thenR_normal, thenR_ret, lget_self, lget_ne, lget_cons_zero, Nat.reduceBEq, beq_self_eq_true, Bool.not_false, bin_str_neq, str_neq, endB_ret, resA_nil, resA_tmp, Option.bind_some, h1, h2]
  rfl

theorem ref_none {s : List Nat} (h1 : (s == [115, 107, 105, 112]) = false) (h2 : (s == [105, 110, 99, 108, 117, 100, 101]) = false) : call fs 24 [.str s] emptyM = some (.tup [.nils, .bool false], emptyM) := by
  rw [call_body fs24, emptyM_again]
  simp only [exec_seq, exec_region, exec_condE, condE_false, exec_ret, exec_skip, ops_nil, ops_cons, guard_true, opR_some, wanted_none, wanted_some, isB_bool, op_p, Option.map_some, run_move, run_pick, pickF_false, run_bin, ev_tmp, ev_con, putA_some, normalR_some, thenR_normal, lget_self, lget_ne, lget_cons_zero, Nat.reduceBEq, beq_self_eq_true, bin_str_eql, str_eql, endB_ret, resA_nil, resA_tmp, Option.bind_some, h1, h2]
  rfl

theorem same_none : callF fs 100000 25 [.nils, .nils, .bool true] emptyM = some (.bool true, emptyM) := by kernel_rfl

theorem known_long {s : List Nat} (h : 100 < s.length) : call fs 6 [.str s] emptyM = some (.bool true, emptyM) := by
  rw [call_body fs6, emptyM_again]
  have h' : decide (100 < s.length) = true := by simp [h]
  simp only [exec_seq, exec_region, exec_condE, condE_true, exec_ret, ops_nil, ops_cons, guard_true, opR_some, wanted_none, wanted_some, isB_bool, op_p, op_call, Option.map_some, run_move, run_pick, pickF_false, run_bin, run_un, un_not, run_len, len_str, ev_tmp, ev_con, putA_some, normalR_some, thenR_normal, thenR_ret, evAll_nil, sealAll_nil, lget_self, lget_ne, lget_cons_zero, Nat.reduceBEq, bin_int_gtr, ltI_nat, beq_self_eq_true, Bool.not_true, endB_ret, resA_nil, resA_tmp, Option.bind_some, awake_true, h']
  rfl

theorem known_other {s : List Nat} (h1 : (s == [115, 107, 105, 112]) = false) (h2 : (s == [105, 110, 99, 108, 117, 100, 101]) = false) (h : ¬ 100 < s.length) : call fs 6 [.str s] emptyM = some (.bool true, emptyM) := by
  have a := args_none h1 h2
  have b := ref_none h1 h2
  have c := call_ofF same_none
  rw [call_body fs6, emptyM_again]
  have h' : decide (100 < s.length) = false := by simp [h]
  simp only [exec_seq, exec_region, exec_condE, condE_false, exec_ret, exec_skip, ops_nil, ops_cons, guard_true, opR_some, wanted_none, wanted_some, isB_bool, op_p, op_call, Option.map_some, run_move, run_pick, pickF_false, run_bin, run_un, un_not, run_len, len_str, len_nils, run_extract, extractF_0, extractF_1, ev_tmp, ev_con, putA_some, normalR_some, thenR_normal, thenR_exit, evAll_nil, evAll_cons, sealAll_nil, sealAll_cons, seal_str, seal_nils, seal_bool, lget_self, lget_ne, lget_cons_zero, Nat.reduceBEq, bin_int_lss, bin_int_gtr, ltI_nat, beq_self_eq_true, Bool.not_true, bin_bool_neq, endB_ret, resA_nil, resA_tmp, Option.bind_some, awake_true, h', a, b, c, exec_block, exec_loop, blockR_exit, exec_exit, Nat.lt_irrefl, decide_false]
  rfl

/-- ArgsKnown answers true at every text. -/
theorem known_run (s : List Nat) : call fs 6 [.str s] emptyM = some (.bool true, emptyM) := by
  by_cases h : 100 < s.length
  · exact known_long h
  cases h1 : (s == [115, 107, 105, 112]) with
  | true =>
    have := beq_iff_eq.1 h1
    subst this
    exact call_told (told_at awake_true) known_skip
  | false =>
    cases h2 : (s == [105, 110, 99, 108, 117, 100, 101]) with
    | true =>
      have := beq_iff_eq.1 h2
      subst this
      exact call_told (told_at awake_true) known_include
    | false => exact known_other h1 h2 h

end Go.Proofs.YtecfmifgcebifaaGreatDoor
