/-
  Functions of the program in the small form, as a program of ours printed them; that they are the program's is shown beside each.
-/
import Derived.Test.YtecfmifgcebifaaGreatDoorCfg
namespace Go.Proofs.YtecfmifgcebifaaGreatDoor
open Go Go.Abs
set_option maxRecDepth 100000

/-- rubric/rubriclaw18.ArgsKnown -/
def c6 : AFn := ⟨
  .seq (.region [
    ⟨some 2, .p (.move (.con (.bool false))), none⟩])
  (.seq (.seq (.region [
    ⟨some 10, .call 22 [], none⟩,
    ⟨some 11, .p (.un .not (.tmp 10)), none⟩,
    ⟨some 12, .p (.move (.tmp 11)), none⟩,
    ⟨some 13, .p (.move (.tmp 0)), (some (12, false))⟩,
    ⟨some 14, .p (.len true (.tmp 13)), (some (12, false))⟩,
    ⟨some 15, .p (.bin .gtr .no false (.tmp 14) (.con (.int .i64 (.ofNat 100)))), (some (12, false))⟩,
    ⟨some 16, .p (.pick (.tmp 12) (.con (.bool true)) (.tmp 15)), none⟩])
  (.cond (.tmp 16)
    (.seq (.region [
      ⟨some 17, .call 22 [], none⟩,
      ⟨some 2, .p (.move (.tmp 17)), none⟩])
    (.ret))
    (.skip)))
  (.seq (.region [
    ⟨some 19, .p (.move (.tmp 0)), none⟩,
    ⟨some 20, .call 23 [(.tmp 19)], none⟩,
    ⟨some 18, .p (.move (.tmp 20)), none⟩,
    ⟨some 21, .p (.extract (.tmp 18) 0), none⟩,
    ⟨some 22, .p (.extract (.tmp 18) 1), none⟩,
    ⟨some 3, .p (.move (.tmp 21)), none⟩,
    ⟨some 4, .p (.move (.tmp 22)), none⟩])
  (.seq (.region [
    ⟨some 24, .p (.move (.tmp 0)), none⟩,
    ⟨some 25, .call 24 [(.tmp 24)], none⟩,
    ⟨some 23, .p (.move (.tmp 25)), none⟩,
    ⟨some 26, .p (.extract (.tmp 23) 0), none⟩,
    ⟨some 27, .p (.extract (.tmp 23) 1), none⟩,
    ⟨some 5, .p (.move (.tmp 26)), none⟩,
    ⟨some 6, .p (.move (.tmp 27)), none⟩])
  (.seq (.seq (.region [
    ⟨some 28, .p (.move (.tmp 4)), none⟩,
    ⟨some 29, .p (.move (.tmp 6)), none⟩,
    ⟨some 30, .p (.bin .neq .bool false (.tmp 28) (.tmp 29)), none⟩,
    ⟨some 31, .p (.move (.tmp 30)), none⟩,
    ⟨some 32, .p (.move (.tmp 3)), (some (31, false))⟩,
    ⟨some 33, .p (.move (.tmp 5)), (some (31, false))⟩,
    ⟨some 34, .call 25 [(.tmp 32), (.tmp 33), (.con (.bool true))], (some (31, false))⟩,
    ⟨some 35, .p (.un .not (.tmp 34)), (some (31, false))⟩,
    ⟨some 36, .p (.pick (.tmp 31) (.con (.bool true)) (.tmp 35)), none⟩])
  (.cond (.tmp 36)
    (.seq (.region [
      ⟨some 2, .p (.move (.con (.bool false))), none⟩])
    (.ret))
    (.skip)))
  (.seq (.seq (.region [
    ⟨some 37, .p (.move (.tmp 3)), none⟩,
    ⟨some 38, .p (.len false (.tmp 37)), none⟩,
    ⟨some 39, .p (.move (.con (.int .i64 (.ofNat 0)))), none⟩])
  (.block 0
    (.loop
      (.seq (.region [
        ⟨some 40, .p (.bin .lss .no false (.tmp 39) (.tmp 38)), none⟩])
      (.seq (.cond (.tmp 40)
        (.skip)
        (.exit 0))
      (.seq (.block 1
        (.seq (.region [
          ⟨some 41, .p (.move (.tmp 39)), none⟩,
          ⟨some 7, .p (.move (.tmp 41)), none⟩])
        (.region [
          ⟨some 42, .p (.move (.tmp 3)), none⟩,
          ⟨some 43, .p (.move (.tmp 7)), none⟩,
          ⟨some 44, .p (.iaddr 9 (.tmp 42) (.tmp 43)), none⟩,
          ⟨some 45, .p (.faddr 1 (.tmp 44)), none⟩,
          ⟨none, .w (.store 1 (.tmp 45) (.con (.str [63]))), none⟩])))
      (.region [
        ⟨some 46, .p (.bin .add .no false (.tmp 39) (.con (.int .i64 (.ofNat 1)))), none⟩,
        ⟨some 39, .p (.move (.tmp 46)), none⟩])))))))
  (.seq (.region [
    ⟨some 48, .p (.move (.tmp 0)), none⟩,
    ⟨some 49, .call 23 [(.tmp 48)], none⟩,
    ⟨some 47, .p (.move (.tmp 49)), none⟩,
    ⟨some 50, .p (.extract (.tmp 47) 0), none⟩,
    ⟨some 51, .p (.extract (.tmp 47) 1), none⟩,
    ⟨some 8, .p (.move (.tmp 50)), none⟩,
    ⟨some 9, .p (.move (.tmp 51)), none⟩])
  (.seq (.region [
    ⟨some 52, .p (.move (.tmp 8)), none⟩,
    ⟨some 53, .p (.move (.tmp 5)), none⟩,
    ⟨some 54, .call 25 [(.tmp 52), (.tmp 53), (.con (.bool true))], none⟩,
    ⟨some 2, .p (.move (.tmp 54)), none⟩])
  (.ret)))))))),
  [.tmp 2], false⟩
theorem c6_eq : cfn Tryz.prog cfg 6 = some c6 := by kernel_rfl

/-- rubric/schema.Problems -/
def c10 : AFn := ⟨
  .seq (.region [
    ⟨some 2, .p (.move (.con .nils)), none⟩])
  (.seq (.region [
    ⟨some 8, .p (.move (.tmp 0)), none⟩,
    ⟨some 9, .call 27 [(.tmp 8)], none⟩,
    ⟨some 10, .p (.build [.nilp, .nils] [(0, 1, (.tmp 9))]), none⟩,
    ⟨some 11, .w (.box 2 (.tmp 10)), none⟩,
    ⟨some 3, .p (.move (.tmp 11)), none⟩])
  (.seq (.region [
    ⟨some 12, .p (.move (.tmp 3)), none⟩,
    ⟨some 13, .p (.move (.tmp 0)), none⟩,
    ⟨some 14, .p (.len false (.tmp 13)), none⟩,
    ⟨some 15, .p (.bin .leq .no false (.tmp 14) (.con (.int .i64 (.ofNat 60)))), none⟩,
    ⟨some 16, .call 28 [(.tmp 12), (.tmp 15), (.con (.int .i64 (.ofNat 140))), (.con (.int .i64 (.ofNat 0)))], none⟩])
  (.seq (.region [
    ⟨some 17, .p (.move (.tmp 3)), none⟩,
    ⟨some 18, .p (.move (.tmp 3)), none⟩,
    ⟨some 19, .p (.nilck (.tmp 18)), none⟩,
    ⟨some 20, .p (.faddr 0 (.tmp 19)), none⟩,
    ⟨some 21, .r (.load none (.tmp 20)) [], none⟩,
    ⟨some 22, .call 14 [(.tmp 21), (.con (.int .i64 (.ofNat 1)))], none⟩,
    ⟨some 23, .p (.bin .neq .no true (.tmp 22) (.con (.str []))), none⟩,
    ⟨some 24, .call 28 [(.tmp 17), (.tmp 23), (.con (.int .i64 (.ofNat 140))), (.con (.int .i64 (.ofNat 0)))], none⟩])
  (.seq (.seq (.region [
    ⟨some 25, .p (.move (.tmp 0)), none⟩,
    ⟨some 26, .p (.len false (.tmp 25)), none⟩,
    ⟨some 27, .p (.move (.con (.int .i64 (.ofNat 0)))), none⟩])
  (.block 0
    (.loop
      (.seq (.region [
        ⟨some 28, .p (.bin .lss .no false (.tmp 27) (.tmp 26)), none⟩])
      (.seq (.cond (.tmp 28)
        (.skip)
        (.exit 0))
      (.seq (.block 1
        (.seq (.region [
          ⟨some 29, .p (.move (.tmp 27)), none⟩,
          ⟨some 30, .p (.iaddr 7 (.tmp 25) (.tmp 27)), none⟩,
          ⟨some 31, .r (.load (some 7) (.tmp 30)) [], none⟩,
          ⟨some 5, .w (.new [(.int .i64 (.ofNat 0)), (.str []), .nils, .nils, .nils, .nils, (.int .i64 (.ofNat 0))]), none⟩,
          ⟨some 4, .p (.move (.tmp 29)), none⟩,
          ⟨none, .w (.store 7 (.tmp 5) (.tmp 31)), none⟩])
        (.seq (.regionD [
          ⟨some 33, .p (.move (.tmp 3)), none⟩,
          ⟨some 34, .p (.nilck (.tmp 33)), none⟩,
          ⟨some 35, .p (.faddr 0 (.tmp 34)), none⟩,
          ⟨some 36, .r (.load none (.tmp 35)) [], none⟩,
          ⟨some 37, .p (.faddr 1 (.tmp 5)), none⟩,
          ⟨some 38, .r (.load none (.tmp 37)) [], none⟩,
          ⟨some 39, .call 29 [(.tmp 36), (.tmp 38)], none⟩,
          ⟨some 32, .p (.move (.tmp 39)), none⟩,
          ⟨some 40, .p (.extract (.tmp 32) 0), none⟩,
          ⟨some 41, .p (.extract (.tmp 32) 1), none⟩,
          ⟨some 6, .skip, none⟩,
          ⟨some 6, .w (.box 7 (.tmp 40)), none⟩,
          ⟨some 7, .p (.move (.tmp 41)), none⟩])
        (.seq (.regionD [
          ⟨some 42, .p (.move (.tmp 3)), none⟩,
          ⟨some 43, .p (.move (.tmp 7)), none⟩,
          ⟨some 44, .p (.move (.tmp 43)), none⟩,
          ⟨some 45, .p (.move (.tmp 0)), (some (44, true))⟩,
          ⟨some 46, .p (.move (.tmp 4)), (some (44, true))⟩,
          ⟨some 47, .p (.sliceL 7 (.tmp 45) none (some (.tmp 46)) none), (some (44, true))⟩,
          ⟨some 48, .p (.mkfn 31 [] [(.tmp 5)]), (some (44, true))⟩,
          ⟨some 49, .call 30 [(.tmp 47), (.tmp 48)], (some (44, true))⟩,
          ⟨some 50, .p (.un .not (.tmp 49)), (some (44, true))⟩,
          ⟨some 51, .p (.pick (.tmp 44) (.tmp 50) (.con (.bool false))), none⟩,
          ⟨some 52, .p (.faddr 6 (.tmp 5)), none⟩,
          ⟨some 53, .r (.load none (.tmp 52)) [0, 8], none⟩,
          ⟨some 54, .call 28 [(.tmp 42), (.tmp 51), (.con (.int .i64 (.ofNat 141))), (.tmp 53)], none⟩])
        (.seq (.region [
          ⟨some 55, .p (.move (.tmp 3)), none⟩,
          ⟨some 56, .r (.load (some 7) (.tmp 5)) [], none⟩,
          ⟨some 57, .call 32 [(.tmp 55), (.tmp 56)], none⟩])
        (.regionD [
          ⟨some 58, .p (.move (.tmp 3)), none⟩,
          ⟨some 59, .p (.faddr 0 (.tmp 5)), none⟩,
          ⟨some 60, .r (.load none (.tmp 59)) [], none⟩,
          ⟨some 61, .p (.bin .neq .no true (.tmp 60) (.con (.int .i64 (.ofNat 6)))), none⟩,
          ⟨some 62, .p (.move (.tmp 61)), none⟩,
          ⟨some 63, .p (.move (.tmp 3)), (some (62, false))⟩,
          ⟨some 64, .p (.faddr 1 (.tmp 5)), (some (62, false))⟩,
          ⟨some 65, .r (.load none (.tmp 64)) [], (some (62, false))⟩,
          ⟨some 66, .call 33 [(.tmp 63), (.tmp 65)], (some (62, false))⟩,
          ⟨some 67, .p (.un .not (.tmp 66)), (some (62, false))⟩,
          ⟨some 68, .p (.pick (.tmp 62) (.con (.bool true)) (.tmp 67)), none⟩,
          ⟨some 69, .p (.faddr 6 (.tmp 5)), none⟩,
          ⟨some 70, .r (.load none (.tmp 69)) [0, 9], none⟩,
          ⟨some 71, .call 28 [(.tmp 58), (.tmp 68), (.con (.int .i64 (.ofNat 149))), (.tmp 70)], none⟩]))))))
      (.region [
        ⟨some 72, .p (.bin .add .no false (.tmp 27) (.con (.int .i64 (.ofNat 1)))), none⟩,
        ⟨some 27, .p (.move (.tmp 72)), none⟩])))))))
  (.seq (.region [
    ⟨some 73, .p (.move (.tmp 3)), none⟩,
    ⟨some 74, .p (.nilck (.tmp 73)), none⟩,
    ⟨some 75, .p (.faddr 1 (.tmp 74)), none⟩,
    ⟨some 76, .r (.load none (.tmp 75)) [], none⟩,
    ⟨some 77, .p (.buildSl 1 1 [.nils] [(0, 1, (.tmp 76))]), none⟩,
    ⟨some 78, .call 34 [(.tmp 77)], none⟩,
    ⟨some 2, .p (.move (.tmp 78)), none⟩])
  (.ret)))))),
  [.tmp 2], false⟩
theorem c10_eq : cfn Tryz.prog cfg 10 = some c10 := by kernel_rfl

/-- rubric/schema.Parse -/
def c12 : AFn := ⟨
  .seq (.region [
    ⟨some 2, .p (.move (.con .nilp)), none⟩,
    ⟨some 3, .p (.move (.con .nils)), none⟩,
    ⟨some 4, .p (.move (.con (.int .i64 (.ofNat 0)))), none⟩,
    ⟨some 5, .p (.move (.con (.int .i64 (.ofNat 0)))), none⟩])
  (.seq (.region [
    ⟨some 11, .p (.move (.tmp 0)), none⟩,
    ⟨some 12, .call 13 [(.tmp 11)], none⟩,
    ⟨some 10, .p (.move (.tmp 12)), none⟩,
    ⟨some 13, .p (.extract (.tmp 10) 0), none⟩,
    ⟨some 14, .p (.extract (.tmp 10) 1), none⟩,
    ⟨some 15, .p (.extract (.tmp 10) 2), none⟩,
    ⟨some 6, .p (.move (.tmp 13)), none⟩,
    ⟨some 7, .p (.move (.tmp 14)), none⟩,
    ⟨some 8, .p (.move (.tmp 15)), none⟩])
  (.seq (.seq (.region [
    ⟨some 16, .p (.move (.tmp 8)), none⟩,
    ⟨some 17, .p (.bin .neq .no true (.tmp 16) (.con (.int .i64 (.ofNat 0)))), none⟩])
  (.cond (.tmp 17)
    (.seq (.region [
      ⟨some 18, .p (.move (.tmp 7)), none⟩,
      ⟨some 19, .p (.move (.tmp 8)), none⟩,
      ⟨some 2, .p (.move (.con .nilp)), none⟩,
      ⟨some 3, .p (.move (.con .nils)), none⟩,
      ⟨some 4, .p (.move (.tmp 18)), none⟩,
      ⟨some 5, .p (.move (.tmp 19)), none⟩])
    (.ret))
    (.skip)))
  (.seq (.seq (.region [
    ⟨some 20, .p (.move (.tmp 6)), none⟩,
    ⟨some 21, .call 10 [(.tmp 20)], none⟩,
    ⟨some 9, .p (.move (.tmp 21)), none⟩])
  (.seq (.region [
    ⟨some 22, .p (.move (.tmp 9)), none⟩,
    ⟨some 23, .p (.len false (.tmp 22)), none⟩,
    ⟨some 24, .p (.bin .gtr .no false (.tmp 23) (.con (.int .i64 (.ofNat 0)))), none⟩])
  (.cond (.tmp 24)
    (.seq (.region [
      ⟨some 25, .p (.move (.tmp 9)), none⟩,
      ⟨some 2, .p (.move (.con .nilp)), none⟩,
      ⟨some 3, .p (.move (.tmp 25)), none⟩,
      ⟨some 4, .p (.move (.con (.int .i64 (.ofNat 0)))), none⟩,
      ⟨some 5, .p (.move (.con (.int .i64 (.ofNat 50)))), none⟩])
    (.ret))
    (.skip))))
  (.seq (.region [
    ⟨some 26, .p (.move (.tmp 6)), none⟩,
    ⟨some 27, .call 27 [(.tmp 26)], none⟩,
    ⟨some 2, .p (.move (.tmp 27)), none⟩,
    ⟨some 3, .p (.move (.con .nils)), none⟩,
    ⟨some 4, .p (.move (.con (.int .i64 (.ofNat 0)))), none⟩,
    ⟨some 5, .p (.move (.con (.int .i64 (.ofNat 0)))), none⟩])
  (.ret))))),
  [.tmp 2, .tmp 3, .tmp 4, .tmp 5], false⟩
theorem c12_eq : cfn Tryz.prog cfg 12 = some c12 := by kernel_rfl

/-- rubric/sdl.Parse -/
def c13 : AFn := ⟨
  .seq (.region [
    ⟨some 2, .p (.move (.con .nils)), none⟩,
    ⟨some 3, .p (.move (.con (.int .i64 (.ofNat 0)))), none⟩,
    ⟨some 4, .p (.move (.con (.int .i64 (.ofNat 0)))), none⟩])
  (.seq (.region [
    ⟨some 8, .p (.move (.tmp 0)), none⟩,
    ⟨some 9, .call 35 [(.tmp 8)], none⟩,
    ⟨some 10, .p (.build [.nils, (.int .i64 (.ofNat 0)), (.int .i64 (.ofNat 0)), (.int .i64 (.ofNat 0)), (.int .i64 (.ofNat 0))] [(0, 5, (.tmp 9))]), none⟩,
    ⟨some 11, .w (.box 5 (.tmp 10)), none⟩,
    ⟨some 5, .p (.move (.tmp 11)), none⟩])
  (.seq (.region [
    ⟨some 6, .p (.move (.con .nils)), none⟩])
  (.seq (.seq (.region [
    ⟨some 7, .p (.move (.con (.bool true))), none⟩])
  (.block 0
    (.loop
      (.seq (.seq (.region [
        ⟨some 12, .p (.move (.tmp 5)), none⟩,
        ⟨some 13, .p (.nilck (.tmp 12)), none⟩,
        ⟨some 14, .p (.faddr 0 (.tmp 13)), none⟩,
        ⟨some 15, .p (.faddr 4 (.tmp 14)), none⟩,
        ⟨some 16, .r (.load none (.tmp 15)) [], none⟩,
        ⟨some 17, .p (.bin .eql .no true (.tmp 16) (.con (.int .i64 (.ofNat 0)))), none⟩,
        ⟨some 18, .p (.move (.tmp 17)), none⟩,
        ⟨some 19, .p (.move (.tmp 7)), (some (18, true))⟩,
        ⟨some 20, .p (.move (.tmp 19)), (some (18, true))⟩,
        ⟨some 21, .p (.move (.tmp 5)), (some (20, false))⟩,
        ⟨some 22, .p (.nilck (.tmp 21)), (some (20, false))⟩,
        ⟨some 23, .p (.faddr 0 (.tmp 22)), (some (20, false))⟩,
        ⟨some 24, .call 36 [(.tmp 23)], (some (20, false))⟩,
        ⟨some 25, .p (.field 0 none (.tmp 24)), (some (20, false))⟩,
        ⟨some 26, .p (.bin .neq .no true (.tmp 25) (.con (.int .i64 (.ofNat 0)))), (some (20, false))⟩,
        ⟨some 27, .p (.pick (.tmp 20) (.con (.bool true)) (.tmp 26)), (some (18, true))⟩,
        ⟨some 28, .p (.pick (.tmp 18) (.tmp 27) (.con (.bool false))), none⟩])
      (.cond (.tmp 28)
        (.skip)
        (.exit 0)))
      (.seq (.block 1
        (.region [
          ⟨some 29, .p (.move (.tmp 6)), none⟩,
          ⟨some 30, .p (.move (.tmp 5)), none⟩,
          ⟨some 31, .call 37 [(.tmp 30)], none⟩,
          ⟨some 32, .p (.buildSl 7 1 [(.int .i64 (.ofNat 0)), (.str []), .nils, .nils, .nils, .nils, (.int .i64 (.ofNat 0))] [(0, 7, (.tmp 31))]), none⟩,
          ⟨some 33, .w (.append false 7 128 (.tmp 29) (.tmp 32)), none⟩,
          ⟨some 6, .p (.move (.tmp 33)), none⟩]))
      (.region [
        ⟨some 7, .p (.move (.con (.bool false))), none⟩]))))))
  (.seq (.seq (.region [
    ⟨some 34, .p (.move (.tmp 5)), none⟩,
    ⟨some 35, .p (.nilck (.tmp 34)), none⟩,
    ⟨some 36, .p (.faddr 0 (.tmp 35)), none⟩,
    ⟨some 37, .p (.faddr 4 (.tmp 36)), none⟩,
    ⟨some 38, .r (.load none (.tmp 37)) [], none⟩,
    ⟨some 39, .p (.bin .neq .no true (.tmp 38) (.con (.int .i64 (.ofNat 0)))), none⟩])
  (.cond (.tmp 39)
    (.seq (.regionD [
      ⟨some 40, .p (.move (.tmp 5)), none⟩,
      ⟨some 41, .p (.nilck (.tmp 40)), none⟩,
      ⟨some 42, .p (.faddr 0 (.tmp 41)), none⟩,
      ⟨some 43, .p (.faddr 3 (.tmp 42)), none⟩,
      ⟨some 44, .r (.load none (.tmp 43)) [], none⟩,
      ⟨some 45, .p (.move (.tmp 5)), none⟩,
      ⟨some 46, .p (.nilck (.tmp 45)), none⟩,
      ⟨some 47, .p (.faddr 0 (.tmp 46)), none⟩,
      ⟨some 48, .p (.faddr 4 (.tmp 47)), none⟩,
      ⟨some 49, .r (.load none (.tmp 48)) [], none⟩,
      ⟨some 2, .p (.move (.con .nils)), none⟩,
      ⟨some 3, .p (.move (.tmp 44)), none⟩,
      ⟨some 4, .p (.move (.tmp 49)), none⟩])
    (.ret))
    (.skip)))
  (.seq (.region [
    ⟨some 50, .p (.move (.tmp 6)), none⟩,
    ⟨some 2, .p (.move (.tmp 50)), none⟩,
    ⟨some 3, .p (.move (.con (.int .i64 (.ofNat 0)))), none⟩,
    ⟨some 4, .p (.move (.con (.int .i64 (.ofNat 0)))), none⟩])
  (.ret)))))),
  [.tmp 2, .tmp 3, .tmp 4], false⟩
theorem c13_eq : cfn Tryz.prog cfg 13 = some c13 := by kernel_rfl

/-- (*rubric/types.Types).Root -/
def c14 : AFn := ⟨
  .seq (.region [
    ⟨some 4, .p (.move (.con (.str []))), none⟩])
  (.seq (.seq (.region [
    ⟨some 6, .p (.move (.tmp 1)), none⟩,
    ⟨some 7, .p (.bin .lss .no false (.tmp 6) (.con (.int .i64 (.ofNat 1)))), none⟩,
    ⟨some 8, .p (.move (.tmp 7)), none⟩,
    ⟨some 9, .p (.move (.tmp 1)), (some (8, false))⟩,
    ⟨some 10, .p (.bin .gtr .no false (.tmp 9) (.con (.int .i64 (.ofNat 3)))), (some (8, false))⟩,
    ⟨some 11, .p (.pick (.tmp 8) (.con (.bool true)) (.tmp 10)), none⟩])
  (.cond (.tmp 11)
    (.seq (.region [
      ⟨some 4, .p (.move (.con (.str []))), none⟩])
    (.ret))
    (.skip)))
  (.seq (.region [
    ⟨some 12, .p (.buildSl 1 3 [(.str [])] [(0, 1, (.con (.str [81, 117, 101, 114, 121]))), (1, 1, (.con (.str [77, 117, 116, 97, 116, 105, 111, 110]))), (2, 1, (.con (.str [83, 117, 98, 115, 99, 114, 105, 112, 116, 105, 111, 110])))]), none⟩,
    ⟨some 13, .p (.move (.tmp 1)), none⟩,
    ⟨some 14, .p (.bin .sub .no false (.tmp 13) (.con (.int .i64 (.ofNat 1)))), none⟩,
    ⟨some 15, .p (.iaddr 1 (.tmp 12) (.tmp 14)), none⟩,
    ⟨some 16, .r (.load none (.tmp 15)) [], none⟩,
    ⟨some 5, .p (.move (.tmp 16)), none⟩])
  (.seq (.seq (.region [
    ⟨some 17, .p (.move (.tmp 0)), none⟩,
    ⟨some 18, .p (.move (.tmp 5)), none⟩,
    ⟨some 19, .p (.buildSl 1 1 [(.int .i64 (.ofNat 0))] [(0, 1, (.con (.int .i64 (.ofNat 2))))]), none⟩,
    ⟨some 20, .call 38 [(.tmp 17), (.tmp 18), (.tmp 19)], none⟩,
    ⟨some 21, .p (.un .not (.tmp 20)), none⟩])
  (.cond (.tmp 21)
    (.seq (.region [
      ⟨some 4, .p (.move (.con (.str []))), none⟩])
    (.ret))
    (.skip)))
  (.seq (.region [
    ⟨some 22, .p (.move (.tmp 5)), none⟩,
    ⟨some 4, .p (.move (.tmp 22)), none⟩])
  (.ret))))),
  [.tmp 4], false⟩
theorem c14_eq : cfn Tryz.prog cfg 14 = some c14 := by kernel_rfl

/-- (*rubric/types.Types).Input -/
def c16 : AFn := ⟨
  .seq (.region [
    ⟨some 4, .p (.move (.con (.bool false))), none⟩])
  (.seq (.region [
    ⟨some 5, .p (.move (.tmp 0)), none⟩,
    ⟨some 6, .p (.move (.tmp 1)), none⟩,
    ⟨some 7, .call 39 [(.tmp 6)], none⟩,
    ⟨some 8, .p (.buildSl 1 3 [(.int .i64 (.ofNat 0))] [(0, 1, (.con (.int .i64 (.ofNat 1)))), (1, 1, (.con (.int .i64 (.ofNat 5)))), (2, 1, (.con (.int .i64 (.ofNat 6))))]), none⟩,
    ⟨some 9, .call 38 [(.tmp 5), (.tmp 7), (.tmp 8)], none⟩,
    ⟨some 4, .p (.move (.tmp 9)), none⟩])
  (.ret)),
  [.tmp 4], false⟩
theorem c16_eq : cfn Tryz.prog cfg 16 = some c16 := by kernel_rfl

/-- (*rubric/types.Types).Kind -/
def c17 : AFn := ⟨
  .seq (.region [
    ⟨some 4, .p (.move (.con (.int .i64 (.ofNat 0)))), none⟩])
  (.seq (.region [
    ⟨some 5, .p (.move (.tmp 0)), none⟩,
    ⟨some 6, .p (.nilck (.tmp 5)), none⟩,
    ⟨some 7, .p (.faddr 0 (.tmp 6)), none⟩,
    ⟨some 8, .r (.load none (.tmp 7)) [], none⟩,
    ⟨some 9, .p (.move (.tmp 1)), none⟩,
    ⟨some 10, .r (.lookup ⟨9, false, [.str]⟩ (.agg [(.int .i64 (.ofNat 0)), (.str []), .nils, .nils, .nils, .nils, (.int .i64 (.ofNat 0))]) false (.tmp 8) (.tmp 9)) [], none⟩,
    ⟨some 11, .p (.field 0 none (.tmp 10)), none⟩,
    ⟨some 4, .p (.move (.tmp 11)), none⟩])
  (.ret)),
  [.tmp 4], false⟩
theorem c17_eq : cfn Tryz.prog cfg 17 = some c17 := by kernel_rfl

/-- (*rubric/types.Types).Output -/
def c18 : AFn := ⟨
  .seq (.region [
    ⟨some 4, .p (.move (.con (.bool false))), none⟩])
  (.seq (.region [
    ⟨some 5, .p (.move (.tmp 0)), none⟩,
    ⟨some 6, .p (.move (.tmp 1)), none⟩,
    ⟨some 7, .call 39 [(.tmp 6)], none⟩,
    ⟨some 8, .p (.buildSl 1 5 [(.int .i64 (.ofNat 0))] [(0, 1, (.con (.int .i64 (.ofNat 1)))), (1, 1, (.con (.int .i64 (.ofNat 5)))), (2, 1, (.con (.int .i64 (.ofNat 2)))), (3, 1, (.con (.int .i64 (.ofNat 3)))), (4, 1, (.con (.int .i64 (.ofNat 4))))]), none⟩,
    ⟨some 9, .call 38 [(.tmp 5), (.tmp 7), (.tmp 8)], none⟩,
    ⟨some 4, .p (.move (.tmp 9)), none⟩])
  (.ret)),
  [.tmp 4], false⟩
theorem c18_eq : cfn Tryz.prog cfg 18 = some c18 := by kernel_rfl

/-- (*rubric/types.Types).Field -/
def c20 : AFn := ⟨
  .seq (.region [
    ⟨some 5, .w (.box 1 (.tmp 2)), none⟩,
    ⟨some 6, .w (.new [(.str []), .nils, (.str []), (.int .i64 (.ofNat 0))]), none⟩,
    ⟨some 7, .p (.move (.con (.bool false))), none⟩])
  (.seq (.seq (.region [
    ⟨some 11, .r (.load none (.tmp 5)) [], none⟩,
    ⟨some 12, .p (.bin .eql .no true (.tmp 11) (.con (.str [95, 95, 116, 121, 112, 101, 110, 97, 109, 101]))), none⟩,
    ⟨some 13, .p (.move (.tmp 12)), none⟩,
    ⟨some 14, .p (.move (.tmp 0)), (some (13, true))⟩,
    ⟨some 15, .p (.move (.tmp 1)), (some (13, true))⟩,
    ⟨some 16, .call 44 [(.tmp 14), (.tmp 15)], (some (13, true))⟩,
    ⟨some 17, .p (.pick (.tmp 13) (.tmp 16) (.con (.bool false))), none⟩])
  (.cond (.tmp 17)
    (.seq (.region [
      ⟨some 18, .r (.load none (.tmp 5)) [], none⟩,
      ⟨some 19, .p (.build [(.str []), .nils, (.str []), (.int .i64 (.ofNat 0))] [(0, 1, (.tmp 18)), (2, 1, (.con (.str [83, 116, 114, 105, 110, 103, 33])))]), none⟩,
      ⟨none, .w (.store 4 (.tmp 6) (.tmp 19)), none⟩,
      ⟨some 7, .p (.move (.con (.bool true))), none⟩])
    (.ret))
    (.skip)))
  (.seq (.seq (.region [
    ⟨some 20, .p (.move (.tmp 0)), none⟩,
    ⟨some 21, .p (.move (.tmp 1)), none⟩,
    ⟨some 22, .p (.buildSl 1 2 [(.int .i64 (.ofNat 0))] [(0, 1, (.con (.int .i64 (.ofNat 2)))), (1, 1, (.con (.int .i64 (.ofNat 3))))]), none⟩,
    ⟨some 23, .call 38 [(.tmp 20), (.tmp 21), (.tmp 22)], none⟩,
    ⟨some 24, .p (.un .not (.tmp 23)), none⟩])
  (.cond (.tmp 24)
    (.seq (.region [
      ⟨some 25, .p (.build [(.str []), .nils, (.str []), (.int .i64 (.ofNat 0))] []), none⟩,
      ⟨none, .w (.store 4 (.tmp 6) (.tmp 25)), none⟩,
      ⟨some 7, .p (.move (.con (.bool false))), none⟩])
    (.ret))
    (.skip)))
  (.seq (.region [
    ⟨some 26, .p (.move (.tmp 0)), none⟩,
    ⟨some 27, .p (.nilck (.tmp 26)), none⟩,
    ⟨some 28, .p (.faddr 0 (.tmp 27)), none⟩,
    ⟨some 29, .r (.load none (.tmp 28)) [], none⟩,
    ⟨some 30, .p (.move (.tmp 1)), none⟩,
    ⟨some 31, .r (.lookup ⟨9, false, [.str]⟩ (.agg [(.int .i64 (.ofNat 0)), (.str []), .nils, .nils, .nils, .nils, (.int .i64 (.ofNat 0))]) false (.tmp 29) (.tmp 30)) [], none⟩,
    ⟨some 32, .p (.field 3 none (.tmp 31)), none⟩,
    ⟨some 8, .p (.move (.tmp 32)), none⟩])
  (.seq (.region [
    ⟨some 33, .p (.move (.tmp 8)), none⟩,
    ⟨some 34, .p (.mkfn 46 [] [(.tmp 5)]), none⟩,
    ⟨some 35, .call 45 [(.tmp 33), (.tmp 34)], none⟩,
    ⟨some 9, .p (.move (.tmp 35)), none⟩])
  (.seq (.seq (.region [
    ⟨some 36, .p (.move (.tmp 9)), none⟩,
    ⟨some 37, .p (.bin .lss .no false (.tmp 36) (.con (.int .i64 (.ofNat 0)))), none⟩])
  (.cond (.tmp 37)
    (.seq (.region [
      ⟨some 38, .p (.build [(.str []), .nils, (.str []), (.int .i64 (.ofNat 0))] []), none⟩,
      ⟨none, .w (.store 4 (.tmp 6) (.tmp 38)), none⟩,
      ⟨some 7, .p (.move (.con (.bool false))), none⟩])
    (.ret))
    (.skip)))
  (.seq (.region [
    ⟨some 39, .p (.move (.tmp 8)), none⟩,
    ⟨some 40, .p (.move (.tmp 9)), none⟩,
    ⟨some 41, .p (.iaddr 4 (.tmp 39) (.tmp 40)), none⟩,
    ⟨some 42, .r (.load (some 4) (.tmp 41)) [], none⟩,
    ⟨some 10, .w (.new [(.str []), .nils, (.str []), (.int .i64 (.ofNat 0))]), none⟩,
    ⟨none, .w (.store 4 (.tmp 10) (.tmp 42)), none⟩])
  (.seq (.region [
    ⟨some 43, .p (.faddr 1 (.tmp 10)), none⟩,
    ⟨some 44, .r (.load none (.tmp 43)) [], none⟩,
    ⟨some 45, .call 47 [(.tmp 44)], none⟩,
    ⟨some 46, .p (.faddr 1 (.tmp 10)), none⟩,
    ⟨none, .w (.store 1 (.tmp 46) (.tmp 45)), none⟩])
  (.seq (.region [
    ⟨some 47, .r (.load (some 4) (.tmp 10)) [], none⟩,
    ⟨none, .w (.store 4 (.tmp 6) (.tmp 47)), none⟩,
    ⟨some 7, .p (.move (.con (.bool true))), none⟩])
  (.ret))))))))),
  [.cell 6 (some 4), .tmp 7], false⟩
theorem c20_eq : cfn Tryz.prog cfg 20 = some c20 := by kernel_rfl

/-- rubric/rubriclaw18.awake -/
def c22 : AFn := ⟨
  .seq (.region [
    ⟨some 0, .p (.move (.con (.bool false))), none⟩])
  (.seq (.region [
    ⟨some 6, .call 12 [(.con (.str [116, 121, 112, 101, 32, 81, 117, 101, 114, 121, 123, 97, 40, 120, 58, 73, 110, 116, 33, 32, 121, 58, 73, 110, 116, 41, 58, 73, 110, 116, 125]))], none⟩,
    ⟨some 5, .p (.move (.tmp 6)), none⟩,
    ⟨some 7, .p (.extract (.tmp 5) 0), none⟩,
    ⟨some 8, .p (.extract (.tmp 5) 1), none⟩,
    ⟨some 9, .p (.extract (.tmp 5) 2), none⟩,
    ⟨some 10, .p (.extract (.tmp 5) 3), none⟩,
    ⟨some 1, .p (.move (.tmp 7)), none⟩,
    ⟨some 2, .p (.move (.tmp 8)), none⟩,
    ⟨some 3, .p (.move (.tmp 9)), none⟩,
    ⟨some 4, .p (.move (.tmp 10)), none⟩])
  (.seq (.seq (.region [
    ⟨some 11, .p (.move (.tmp 4)), none⟩,
    ⟨some 12, .p (.bin .neq .no true (.tmp 11) (.con (.int .i64 (.ofNat 0)))), none⟩,
    ⟨some 13, .p (.move (.tmp 12)), none⟩,
    ⟨some 14, .p (.move (.tmp 1)), (some (13, false))⟩,
    ⟨some 15, .p (.bin .eql .ptr true (.tmp 14) (.con .nilp)), (some (13, false))⟩,
    ⟨some 16, .p (.pick (.tmp 13) (.con (.bool true)) (.tmp 15)), none⟩])
  (.cond (.tmp 16)
    (.seq (.region [
      ⟨some 0, .p (.move (.con (.bool false))), none⟩])
    (.ret))
    (.skip)))
  (.seq (.region [
    ⟨some 17, .p (.move (.tmp 1)), none⟩,
    ⟨some 18, .call 51 [(.tmp 17), (.con (.str [123, 97, 40, 121, 58, 49, 41, 125])), (.con (.int .i64 (.ofNat 183))), (.con (.int .i64 (.ofNat 1)))], none⟩,
    ⟨some 19, .p (.move (.tmp 18)), none⟩,
    ⟨some 20, .p (.move (.tmp 1)), (some (19, true))⟩,
    ⟨some 21, .call 51 [(.tmp 20), (.con (.str [123, 97, 40, 120, 58, 49, 32, 122, 58, 50, 41, 125])), (.con (.int .i64 (.ofNat 181))), (.con (.int .i64 (.ofNat 7)))], (some (19, true))⟩,
    ⟨some 22, .p (.pick (.tmp 19) (.tmp 21) (.con (.bool false))), none⟩,
    ⟨some 23, .p (.move (.tmp 22)), none⟩,
    ⟨some 24, .p (.move (.tmp 1)), (some (23, true))⟩,
    ⟨some 25, .call 51 [(.tmp 24), (.con (.str [123, 97, 40, 120, 58, 49, 41, 32, 64, 115, 107, 105, 112, 125])), (.con (.int .i64 (.ofNat 183))), (.con (.int .i64 (.ofNat 8)))], (some (23, true))⟩,
    ⟨some 26, .p (.pick (.tmp 23) (.tmp 25) (.con (.bool false))), none⟩,
    ⟨some 27, .p (.move (.tmp 26)), none⟩,
    ⟨some 28, .p (.move (.tmp 1)), (some (27, true))⟩,
    ⟨some 29, .call 51 [(.tmp 28), (.con (.str [113, 117, 101, 114, 121, 32, 64, 115, 107, 105, 112, 40, 105, 102, 58, 116, 114, 117, 101, 41, 32, 123, 97, 40, 120, 58, 49, 41, 125])), (.con (.int .i64 (.ofNat 185))), (.con (.int .i64 (.ofNat 6)))], (some (27, true))⟩,
    ⟨some 30, .p (.pick (.tmp 27) (.tmp 29) (.con (.bool false))), none⟩,
    ⟨some 0, .p (.move (.tmp 30)), none⟩])
  (.ret)))),
  [.tmp 0], false⟩
theorem c22_eq : cfn Tryz.prog cfg 22 = some c22 := by kernel_rfl

/-- rubric/args.Known -/
def c23 : AFn := ⟨
  .seq (.region [
    ⟨some 2, .p (.move (.con .nils)), none⟩,
    ⟨some 3, .p (.move (.con (.bool false))), none⟩])
  (.seq (.seq (.region [
    ⟨some 4, .p (.move (.tmp 0)), none⟩,
    ⟨some 5, .p (.bin .neq .no true (.tmp 4) (.con (.str [115, 107, 105, 112]))), none⟩,
    ⟨some 6, .p (.move (.tmp 5)), none⟩,
    ⟨some 7, .p (.move (.tmp 0)), (some (6, true))⟩,
    ⟨some 8, .p (.bin .neq .no true (.tmp 7) (.con (.str [105, 110, 99, 108, 117, 100, 101]))), (some (6, true))⟩,
    ⟨some 9, .p (.pick (.tmp 6) (.tmp 8) (.con (.bool false))), none⟩])
  (.cond (.tmp 9)
    (.seq (.region [
      ⟨some 2, .p (.move (.con .nils)), none⟩,
      ⟨some 3, .p (.move (.con (.bool false))), none⟩])
    (.ret))
    (.skip)))
  (.seq (.region [
    ⟨some 10, .p (.build [(.str []), (.str []), (.bool false), (.int .i64 (.ofNat 0)), (.str []), .nils, .nils, (.int .i64 (.ofNat 0)), (.int .i64 (.ofNat 0))] [(0, 1, (.con (.str [105, 102]))), (1, 1, (.con (.str [66, 111, 111, 108, 101, 97, 110, 33])))]), none⟩,
    ⟨some 11, .w (.bsl 9 1 [(.str []), (.str []), (.bool false), (.int .i64 (.ofNat 0)), (.str []), .nils, .nils, (.int .i64 (.ofNat 0)), (.int .i64 (.ofNat 0))] [(0, 9, (.tmp 10))]), none⟩,
    ⟨some 2, .p (.move (.tmp 11)), none⟩,
    ⟨some 3, .p (.move (.con (.bool true))), none⟩])
  (.ret))),
  [.tmp 2, .tmp 3], false⟩
theorem c23_eq : cfn Tryz.prog cfg 23 = some c23 := by kernel_rfl

/-- rubric/rubricref18.Known -/
def c24 : AFn := ⟨
  .seq (.region [
    ⟨some 2, .p (.move (.con .nils)), none⟩,
    ⟨some 3, .p (.move (.con (.bool false))), none⟩])
  (.seq (.seq (.region [
    ⟨some 4, .p (.move (.tmp 0)), none⟩,
    ⟨some 5, .p (.bin .eql .no true (.tmp 4) (.con (.str [115, 107, 105, 112]))), none⟩,
    ⟨some 6, .p (.move (.tmp 5)), none⟩,
    ⟨some 7, .p (.move (.tmp 0)), (some (6, false))⟩,
    ⟨some 8, .p (.bin .eql .no true (.tmp 7) (.con (.str [105, 110, 99, 108, 117, 100, 101]))), (some (6, false))⟩,
    ⟨some 9, .p (.pick (.tmp 6) (.con (.bool true)) (.tmp 8)), none⟩])
  (.cond (.tmp 9)
    (.seq (.region [
      ⟨some 10, .p (.build [(.str []), (.str []), (.bool false), (.int .i64 (.ofNat 0)), (.str []), .nils, .nils, (.int .i64 (.ofNat 0)), (.int .i64 (.ofNat 0))] [(0, 1, (.con (.str [105, 102]))), (1, 1, (.con (.str [66, 111, 111, 108, 101, 97, 110, 33])))]), none⟩,
      ⟨some 11, .p (.buildSl 9 1 [(.str []), (.str []), (.bool false), (.int .i64 (.ofNat 0)), (.str []), .nils, .nils, (.int .i64 (.ofNat 0)), (.int .i64 (.ofNat 0))] [(0, 9, (.tmp 10))]), none⟩,
      ⟨some 2, .p (.move (.tmp 11)), none⟩,
      ⟨some 3, .p (.move (.con (.bool true))), none⟩])
    (.ret))
    (.skip)))
  (.seq (.region [
    ⟨some 2, .p (.move (.con .nils)), none⟩,
    ⟨some 3, .p (.move (.con (.bool false))), none⟩])
  (.ret))),
  [.tmp 2, .tmp 3], false⟩
theorem c24_eq : cfn Tryz.prog cfg 24 = some c24 := by kernel_rfl

/-- rubric/rubricref10.SameInputs -/
def c25 : AFn := ⟨
  .seq (.region [
    ⟨some 6, .p (.move (.con (.bool false))), none⟩])
  (.seq (.seq (.region [
    ⟨some 8, .p (.move (.tmp 0)), none⟩,
    ⟨some 9, .p (.len false (.tmp 8)), none⟩,
    ⟨some 10, .p (.move (.tmp 1)), none⟩,
    ⟨some 11, .p (.len false (.tmp 10)), none⟩,
    ⟨some 12, .p (.bin .neq .no false (.tmp 9) (.tmp 11)), none⟩])
  (.cond (.tmp 12)
    (.seq (.region [
      ⟨some 6, .p (.move (.con (.bool false))), none⟩])
    (.ret))
    (.skip)))
  (.seq (.seq (.region [
    ⟨some 13, .p (.move (.tmp 0)), none⟩,
    ⟨some 14, .p (.len false (.tmp 13)), none⟩,
    ⟨some 15, .p (.move (.con (.int .i64 (.ofNat 0)))), none⟩])
  (.block 0
    (.loop
      (.seq (.region [
        ⟨some 16, .p (.bin .lss .no false (.tmp 15) (.tmp 14)), none⟩])
      (.seq (.cond (.tmp 16)
        (.skip)
        (.exit 0))
      (.seq (.block 1
        (.seq (.region [
          ⟨some 17, .p (.move (.tmp 15)), none⟩,
          ⟨some 7, .p (.move (.tmp 17)), none⟩])
        (.seq (.regionD [
          ⟨some 18, .p (.move (.tmp 0)), none⟩,
          ⟨some 19, .p (.move (.tmp 7)), none⟩,
          ⟨some 20, .p (.iaddr 9 (.tmp 18) (.tmp 19)), none⟩,
          ⟨some 21, .p (.faddr 0 (.tmp 20)), none⟩,
          ⟨some 22, .r (.load none (.tmp 21)) [], none⟩,
          ⟨some 23, .p (.move (.tmp 1)), none⟩,
          ⟨some 24, .p (.move (.tmp 7)), none⟩,
          ⟨some 25, .p (.iaddr 9 (.tmp 23) (.tmp 24)), none⟩,
          ⟨some 26, .p (.faddr 0 (.tmp 25)), none⟩,
          ⟨some 27, .r (.load none (.tmp 26)) [], none⟩,
          ⟨some 28, .p (.bin .neq .no false (.tmp 22) (.tmp 27)), none⟩,
          ⟨some 29, .p (.move (.tmp 28)), none⟩,
          ⟨some 30, .p (.move (.tmp 0)), (some (29, false))⟩,
          ⟨some 31, .p (.move (.tmp 7)), (some (29, false))⟩,
          ⟨some 32, .p (.iaddr 9 (.tmp 30) (.tmp 31)), (some (29, false))⟩,
          ⟨some 33, .p (.faddr 1 (.tmp 32)), (some (29, false))⟩,
          ⟨some 34, .r (.load none (.tmp 33)) [], (some (29, false))⟩,
          ⟨some 35, .p (.move (.tmp 1)), (some (29, false))⟩,
          ⟨some 36, .p (.move (.tmp 7)), (some (29, false))⟩,
          ⟨some 37, .p (.iaddr 9 (.tmp 35) (.tmp 36)), (some (29, false))⟩,
          ⟨some 38, .p (.faddr 1 (.tmp 37)), (some (29, false))⟩,
          ⟨some 39, .r (.load none (.tmp 38)) [], (some (29, false))⟩,
          ⟨some 40, .p (.bin .neq .no false (.tmp 34) (.tmp 39)), (some (29, false))⟩,
          ⟨some 41, .p (.pick (.tmp 29) (.con (.bool true)) (.tmp 40)), none⟩,
          ⟨some 42, .p (.move (.tmp 41)), none⟩,
          ⟨some 43, .p (.move (.tmp 0)), (some (42, false))⟩,
          ⟨some 44, .p (.move (.tmp 7)), (some (42, false))⟩,
          ⟨some 45, .p (.iaddr 9 (.tmp 43) (.tmp 44)), (some (42, false))⟩,
          ⟨some 46, .p (.faddr 2 (.tmp 45)), (some (42, false))⟩,
          ⟨some 47, .r (.load none (.tmp 46)) [], (some (42, false))⟩,
          ⟨some 48, .p (.move (.tmp 1)), (some (42, false))⟩,
          ⟨some 49, .p (.move (.tmp 7)), (some (42, false))⟩,
          ⟨some 50, .p (.iaddr 9 (.tmp 48) (.tmp 49)), (some (42, false))⟩,
          ⟨some 51, .p (.faddr 2 (.tmp 50)), (some (42, false))⟩,
          ⟨some 52, .r (.load none (.tmp 51)) [], (some (42, false))⟩,
          ⟨some 53, .p (.bin .neq .bool false (.tmp 47) (.tmp 52)), (some (42, false))⟩,
          ⟨some 54, .p (.pick (.tmp 42) (.con (.bool true)) (.tmp 53)), none⟩,
          ⟨some 55, .p (.move (.tmp 54)), none⟩,
          ⟨some 56, .p (.move (.tmp 2)), (some (55, false))⟩,
          ⟨some 57, .p (.move (.tmp 56)), (some (55, false))⟩,
          ⟨some 58, .p (.move (.tmp 0)), (some (57, true))⟩,
          ⟨some 59, .p (.move (.tmp 7)), (some (57, true))⟩,
          ⟨some 60, .p (.iaddr 9 (.tmp 58) (.tmp 59)), (some (57, true))⟩,
          ⟨some 61, .p (.faddr 8 (.tmp 60)), (some (57, true))⟩,
          ⟨some 62, .r (.load none (.tmp 61)) [], (some (57, true))⟩,
          ⟨some 63, .p (.move (.tmp 1)), (some (57, true))⟩,
          ⟨some 64, .p (.move (.tmp 7)), (some (57, true))⟩,
          ⟨some 65, .p (.iaddr 9 (.tmp 63) (.tmp 64)), (some (57, true))⟩,
          ⟨some 66, .p (.faddr 8 (.tmp 65)), (some (57, true))⟩,
          ⟨some 67, .r (.load none (.tmp 66)) [], (some (57, true))⟩,
          ⟨some 68, .p (.bin .neq .no false (.tmp 62) (.tmp 67)), (some (57, true))⟩,
          ⟨some 69, .p (.pick (.tmp 57) (.tmp 68) (.con (.bool false))), (some (55, false))⟩,
          ⟨some 70, .p (.pick (.tmp 55) (.con (.bool true)) (.tmp 69)), none⟩,
          ⟨some 71, .p (.move (.tmp 70)), none⟩,
          ⟨some 72, .p (.move (.tmp 0)), (some (71, false))⟩,
          ⟨some 73, .p (.move (.tmp 7)), (some (71, false))⟩,
          ⟨some 74, .p (.iaddr 9 (.tmp 72) (.tmp 73)), (some (71, false))⟩,
          ⟨some 75, .p (.faddr 3 (.tmp 74)), (some (71, false))⟩,
          ⟨some 76, .r (.load (some 5) (.tmp 75)) [], (some (71, false))⟩,
          ⟨some 77, .p (.move (.tmp 1)), (some (71, false))⟩,
          ⟨some 78, .p (.move (.tmp 7)), (some (71, false))⟩,
          ⟨some 79, .p (.iaddr 9 (.tmp 77) (.tmp 78)), (some (71, false))⟩,
          ⟨some 80, .p (.faddr 3 (.tmp 79)), (some (71, false))⟩,
          ⟨some 81, .r (.load (some 5) (.tmp 80)) [], (some (71, false))⟩,
          ⟨some 82, .p (.move (.tmp 2)), (some (71, false))⟩,
          ⟨some 83, .call 52 [(.tmp 76), (.tmp 81), (.tmp 82)], (some (71, false))⟩,
          ⟨some 84, .p (.un .not (.tmp 83)), (some (71, false))⟩,
          ⟨some 85, .p (.pick (.tmp 71) (.con (.bool true)) (.tmp 84)), none⟩])
        (.cond (.tmp 85)
          (.seq (.region [
            ⟨some 6, .p (.move (.con (.bool false))), none⟩])
          (.ret))
          (.skip)))))
      (.region [
        ⟨some 86, .p (.bin .add .no false (.tmp 15) (.con (.int .i64 (.ofNat 1)))), none⟩,
        ⟨some 15, .p (.move (.tmp 86)), none⟩])))))))
  (.seq (.region [
    ⟨some 6, .p (.move (.con (.bool true))), none⟩])
  (.ret)))),
  [.tmp 6], false⟩
theorem c25_eq : cfn Tryz.prog cfg 25 = some c25 := by kernel_rfl

/-- rubric/types.New -/
def c27 : AFn := ⟨
  .seq (.region [
    ⟨some 2, .p (.move (.con .nilp)), none⟩])
  (.seq (.region [
    ⟨some 10, .w (.mkmap 9), none⟩,
    ⟨some 11, .p (.build [.nilm, .nils] [(0, 1, (.tmp 10))]), none⟩,
    ⟨some 12, .w (.box 2 (.tmp 11)), none⟩,
    ⟨some 3, .p (.move (.tmp 12)), none⟩])
  (.seq (.seq (.region [
    ⟨some 13, .call 53 [], none⟩,
    ⟨some 14, .p (.len false (.tmp 13)), none⟩,
    ⟨some 15, .p (.move (.con (.int .i64 (.ofNat 0)))), none⟩])
  (.block 0
    (.loop
      (.seq (.region [
        ⟨some 16, .p (.bin .lss .no false (.tmp 15) (.tmp 14)), none⟩])
      (.seq (.cond (.tmp 16)
        (.skip)
        (.exit 0))
      (.seq (.block 1
        (.seq (.region [
          ⟨some 17, .p (.iaddr 1 (.tmp 13) (.tmp 15)), none⟩,
          ⟨some 18, .r (.load none (.tmp 17)) [], none⟩,
          ⟨some 5, .p (.move (.tmp 18)), none⟩])
        (.region [
          ⟨some 19, .p (.move (.tmp 3)), none⟩,
          ⟨some 20, .p (.nilck (.tmp 19)), none⟩,
          ⟨some 21, .p (.faddr 0 (.tmp 20)), none⟩,
          ⟨some 22, .r (.load none (.tmp 21)) [], none⟩,
          ⟨some 23, .p (.move (.tmp 5)), none⟩,
          ⟨some 24, .p (.move (.tmp 5)), none⟩,
          ⟨some 25, .p (.build [(.int .i64 (.ofNat 0)), (.str []), .nils, .nils, .nils, .nils, (.int .i64 (.ofNat 0))] [(0, 1, (.con (.int .i64 (.ofNat 1)))), (1, 1, (.tmp 24))]), none⟩,
          ⟨none, .w (.mapupd ⟨9, false, [.str]⟩ (.tmp 22) (.tmp 23) (.tmp 25)), none⟩])))
      (.region [
        ⟨some 26, .p (.bin .add .no false (.tmp 15) (.con (.int .i64 (.ofNat 1)))), none⟩,
        ⟨some 15, .p (.move (.tmp 26)), none⟩])))))))
  (.seq (.seq (.region [
    ⟨some 27, .p (.move (.tmp 0)), none⟩,
    ⟨some 28, .p (.len false (.tmp 27)), none⟩,
    ⟨some 29, .p (.move (.con (.int .i64 (.ofNat 0)))), none⟩])
  (.block 2
    (.loop
      (.seq (.region [
        ⟨some 30, .p (.bin .lss .no false (.tmp 29) (.tmp 28)), none⟩])
      (.seq (.cond (.tmp 30)
        (.skip)
        (.exit 2))
      (.seq (.block 3
        (.seq (.region [
          ⟨some 31, .p (.iaddr 7 (.tmp 27) (.tmp 29)), none⟩,
          ⟨some 32, .r (.load (some 7) (.tmp 31)) [], none⟩,
          ⟨some 7, .w (.new [(.int .i64 (.ofNat 0)), (.str []), .nils, .nils, .nils, .nils, (.int .i64 (.ofNat 0))]), none⟩,
          ⟨none, .w (.store 7 (.tmp 7) (.tmp 32)), none⟩])
        (.seq (.regionD [
          ⟨some 34, .p (.move (.tmp 3)), none⟩,
          ⟨some 35, .p (.nilck (.tmp 34)), none⟩,
          ⟨some 36, .p (.faddr 0 (.tmp 35)), none⟩,
          ⟨some 37, .r (.load none (.tmp 36)) [0, 11], none⟩,
          ⟨some 38, .p (.faddr 1 (.tmp 7)), none⟩,
          ⟨some 39, .r (.load none (.tmp 38)) [0, 11], none⟩,
          ⟨some 40, .r (.lookup ⟨9, false, [.str]⟩ (.agg [(.int .i64 (.ofNat 0)), (.str []), .nils, .nils, .nils, .nils, (.int .i64 (.ofNat 0))]) true (.tmp 37) (.tmp 39)) [0, 11], none⟩,
          ⟨some 33, .p (.move (.tmp 40)), none⟩,
          ⟨some 41, .p (.extract (.tmp 33) 0), none⟩,
          ⟨some 42, .p (.extract (.tmp 33) 1), none⟩,
          ⟨some 8, .w (.new [(.int .i64 (.ofNat 0)), (.str []), .nils, .nils, .nils, .nils, (.int .i64 (.ofNat 0))]), none⟩,
          ⟨none, .w (.store 7 (.tmp 8) (.tmp 41)), none⟩,
          ⟨some 9, .p (.move (.tmp 42)), none⟩])
        (.seq (.region [
          ⟨some 43, .p (.move (.tmp 9)), none⟩,
          ⟨some 44, .p (.un .not (.tmp 43)), none⟩])
        (.cond (.tmp 44)
          (.seq (.regionD [
            ⟨some 45, .p (.move (.tmp 3)), none⟩,
            ⟨some 46, .p (.nilck (.tmp 45)), none⟩,
            ⟨some 47, .p (.faddr 0 (.tmp 46)), none⟩,
            ⟨some 48, .r (.load none (.tmp 47)) [0, 8], none⟩,
            ⟨some 49, .p (.faddr 1 (.tmp 7)), none⟩,
            ⟨some 50, .r (.load none (.tmp 49)) [0, 8], none⟩,
            ⟨some 51, .r (.load (some 7) (.tmp 7)) [], none⟩,
            ⟨some 52, .call 54 [(.tmp 51)], none⟩,
            ⟨none, .w (.mapupd ⟨9, false, [.str]⟩ (.tmp 48) (.tmp 50) (.tmp 52)), none⟩])
          (.regionD [
            ⟨some 53, .p (.move (.tmp 3)), none⟩,
            ⟨some 54, .p (.move (.tmp 3)), none⟩,
            ⟨some 55, .p (.nilck (.tmp 54)), none⟩,
            ⟨some 56, .p (.faddr 1 (.tmp 55)), none⟩,
            ⟨some 57, .r (.load none (.tmp 56)) [], none⟩,
            ⟨some 58, .p (.faddr 1 (.tmp 7)), none⟩,
            ⟨some 59, .r (.load none (.tmp 58)) [], none⟩,
            ⟨some 60, .p (.buildSl 1 1 [(.str [])] [(0, 1, (.tmp 59))]), none⟩,
            ⟨some 61, .w (.append false 1 16 (.tmp 57) (.tmp 60)), none⟩,
            ⟨some 62, .p (.nilck (.tmp 53)), none⟩,
            ⟨some 63, .p (.faddr 1 (.tmp 62)), none⟩,
            ⟨none, .w (.store 1 (.tmp 63) (.tmp 61)), none⟩]))
          (.skip))))))
      (.region [
        ⟨some 64, .p (.bin .add .no false (.tmp 29) (.con (.int .i64 (.ofNat 1)))), none⟩,
        ⟨some 29, .p (.move (.tmp 64)), none⟩])))))))
  (.seq (.region [
    ⟨some 65, .p (.move (.tmp 3)), none⟩,
    ⟨some 2, .p (.move (.tmp 65)), none⟩])
  (.ret))))),
  [.tmp 2], false⟩
theorem c27_eq : cfn Tryz.prog cfg 27 = some c27 := by kernel_rfl

/-- (*rubric/schema.checker).tell -/
def c28 : AFn := ⟨
  .seq (.region [
    ⟨some 8, .p (.move (.tmp 1)), none⟩,
    ⟨some 9, .p (.un .not (.tmp 8)), none⟩])
  (.cond (.tmp 9)
    (.region [
      ⟨some 10, .p (.move (.tmp 0)), none⟩,
      ⟨some 11, .p (.move (.tmp 0)), none⟩,
      ⟨some 12, .p (.nilck (.tmp 11)), none⟩,
      ⟨some 13, .p (.faddr 1 (.tmp 12)), none⟩,
      ⟨some 14, .r (.load none (.tmp 13)) [], none⟩,
      ⟨some 15, .p (.move (.tmp 2)), none⟩,
      ⟨some 16, .p (.move (.tmp 3)), none⟩,
      ⟨some 17, .p (.build [(.int .i64 (.ofNat 0)), (.int .i64 (.ofNat 0))] [(0, 1, (.tmp 15)), (1, 1, (.tmp 16))]), none⟩,
      ⟨some 18, .p (.buildSl 2 1 [(.int .i64 (.ofNat 0)), (.int .i64 (.ofNat 0))] [(0, 2, (.tmp 17))]), none⟩,
      ⟨some 19, .w (.append false 2 16 (.tmp 14) (.tmp 18)), none⟩,
      ⟨some 20, .p (.nilck (.tmp 10)), none⟩,
      ⟨some 21, .p (.faddr 1 (.tmp 20)), none⟩,
      ⟨none, .w (.store 1 (.tmp 21) (.tmp 19)), none⟩])
    (.skip)),
  [], false⟩
theorem c28_eq : cfn Tryz.prog cfg 28 = some c28 := by kernel_rfl

/-- (*rubric/types.Types).Def -/
def c29 : AFn := ⟨
  .seq (.region [
    ⟨some 4, .w (.new [(.int .i64 (.ofNat 0)), (.str []), .nils, .nils, .nils, .nils, (.int .i64 (.ofNat 0))]), none⟩,
    ⟨some 5, .p (.move (.con (.bool false))), none⟩])
  (.seq (.region [
    ⟨some 9, .p (.move (.tmp 0)), none⟩,
    ⟨some 10, .p (.nilck (.tmp 9)), none⟩,
    ⟨some 11, .p (.faddr 0 (.tmp 10)), none⟩,
    ⟨some 12, .r (.load none (.tmp 11)) [], none⟩,
    ⟨some 13, .p (.move (.tmp 1)), none⟩,
    ⟨some 14, .r (.lookup ⟨9, false, [.str]⟩ (.agg [(.int .i64 (.ofNat 0)), (.str []), .nils, .nils, .nils, .nils, (.int .i64 (.ofNat 0))]) true (.tmp 12) (.tmp 13)) [], none⟩,
    ⟨some 8, .p (.move (.tmp 14)), none⟩,
    ⟨some 15, .p (.extract (.tmp 8) 0), none⟩,
    ⟨some 16, .p (.extract (.tmp 8) 1), none⟩,
    ⟨some 6, .w (.new [(.int .i64 (.ofNat 0)), (.str []), .nils, .nils, .nils, .nils, (.int .i64 (.ofNat 0))]), none⟩,
    ⟨none, .w (.store 7 (.tmp 6) (.tmp 15)), none⟩,
    ⟨some 7, .p (.move (.tmp 16)), none⟩])
  (.seq (.seq (.region [
    ⟨some 17, .p (.move (.tmp 7)), none⟩,
    ⟨some 18, .p (.un .not (.tmp 17)), none⟩,
    ⟨some 19, .p (.move (.tmp 18)), none⟩,
    ⟨some 20, .call 53 [], (some (19, false))⟩,
    ⟨some 21, .p (.move (.tmp 1)), (some (19, false))⟩,
    ⟨some 22, .call 40 [(.tmp 20), (.tmp 21)], (some (19, false))⟩,
    ⟨some 23, .p (.pick (.tmp 19) (.con (.bool true)) (.tmp 22)), none⟩])
  (.cond (.tmp 23)
    (.seq (.region [
      ⟨some 24, .p (.build [(.int .i64 (.ofNat 0)), (.str []), .nils, .nils, .nils, .nils, (.int .i64 (.ofNat 0))] []), none⟩,
      ⟨none, .w (.store 7 (.tmp 4) (.tmp 24)), none⟩,
      ⟨some 5, .p (.move (.con (.bool false))), none⟩])
    (.ret))
    (.skip)))
  (.seq (.region [
    ⟨some 25, .r (.load (some 7) (.tmp 6)) [], none⟩,
    ⟨some 26, .call 54 [(.tmp 25)], none⟩,
    ⟨none, .w (.store 7 (.tmp 4) (.tmp 26)), none⟩,
    ⟨some 5, .p (.move (.con (.bool true))), none⟩])
  (.ret)))),
  [.cell 4 (some 7), .tmp 5], false⟩
theorem c29_eq : cfn Tryz.prog cfg 29 = some c29 := by kernel_rfl

/-- slices.ContainsFunc[[]rubric/api.TypeDef,rubric/api.TypeDef] -/
def c30 : AFn := ⟨
  .seq (.region [
    ⟨some 4, .p (.move (.con (.bool false))), none⟩])
  (.seq (.region [
    ⟨some 5, .p (.move (.tmp 0)), none⟩,
    ⟨some 6, .p (.move (.tmp 1)), none⟩,
    ⟨some 7, .call 55 [(.tmp 5), (.tmp 6)], none⟩,
    ⟨some 8, .p (.bin .geq .no false (.tmp 7) (.con (.int .i64 (.ofNat 0)))), none⟩,
    ⟨some 4, .p (.move (.tmp 8)), none⟩])
  (.ret)),
  [.tmp 4], false⟩
theorem c30_eq : cfn Tryz.prog cfg 30 = some c30 := by kernel_rfl

/-- (*rubric/schema.checker).one -/
def c32 : AFn := ⟨
  .seq (.region [
    ⟨some 3, .w (.box 7 (.tmp 1)), none⟩])
  (.seq (.regionD [
    ⟨some 6, .p (.move (.tmp 0)), none⟩,
    ⟨some 7, .p (.faddr 1 (.tmp 3)), none⟩,
    ⟨some 8, .r (.load none (.tmp 7)) [], none⟩,
    ⟨some 9, .call 56 [(.tmp 8)], none⟩,
    ⟨some 10, .p (.faddr 6 (.tmp 3)), none⟩,
    ⟨some 11, .r (.load none (.tmp 10)) [0, 4], none⟩,
    ⟨some 12, .call 28 [(.tmp 6), (.tmp 9), (.con (.int .i64 (.ofNat 142))), (.tmp 11)], none⟩])
  (.seq (.regionD [
    ⟨some 13, .p (.move (.tmp 0)), none⟩,
    ⟨some 14, .p (.faddr 4 (.tmp 3)), none⟩,
    ⟨some 15, .r (.load none (.tmp 14)) [], none⟩,
    ⟨some 16, .call 57 [(.tmp 15)], none⟩,
    ⟨some 17, .p (.move (.tmp 16)), none⟩,
    ⟨some 18, .p (.faddr 2 (.tmp 3)), (some (17, true))⟩,
    ⟨some 19, .r (.load none (.tmp 18)) [], (some (17, true))⟩,
    ⟨some 20, .call 57 [(.tmp 19)], (some (17, true))⟩,
    ⟨some 21, .p (.pick (.tmp 17) (.tmp 20) (.con (.bool false))), none⟩,
    ⟨some 22, .p (.faddr 6 (.tmp 3)), none⟩,
    ⟨some 23, .r (.load none (.tmp 22)) [0, 4, 8], none⟩,
    ⟨some 24, .call 28 [(.tmp 13), (.tmp 21), (.con (.int .i64 (.ofNat 144))), (.tmp 23)], none⟩])
  (.seq (.region [
    ⟨some 25, .p (.faddr 0 (.tmp 3)), none⟩,
    ⟨some 26, .r (.load none (.tmp 25)) [], none⟩])
  (.block 0
    (.seq (.seq (.region [
      ⟨some 28, .p (.bin .eql .no true (.tmp 26) (.con (.int .i64 (.ofNat 2)))), none⟩,
      ⟨some 27, .p (.move (.tmp 28)), none⟩])
    (.cond (.tmp 27)
      (.skip)
      (.region [
        ⟨some 29, .p (.bin .eql .no true (.tmp 26) (.con (.int .i64 (.ofNat 3)))), none⟩,
        ⟨some 27, .p (.move (.tmp 29)), none⟩])))
    (.cond (.tmp 27)
      (.seq (.region [
        ⟨some 30, .p (.move (.tmp 0)), none⟩,
        ⟨some 31, .p (.faddr 3 (.tmp 3)), none⟩,
        ⟨some 32, .r (.load none (.tmp 31)) [], none⟩,
        ⟨some 33, .p (.len false (.tmp 32)), none⟩,
        ⟨some 34, .p (.bin .gtr .no false (.tmp 33) (.con (.int .i64 (.ofNat 0)))), none⟩,
        ⟨some 35, .p (.faddr 6 (.tmp 3)), none⟩,
        ⟨some 36, .r (.load none (.tmp 35)) [], none⟩,
        ⟨some 37, .call 28 [(.tmp 30), (.tmp 34), (.con (.int .i64 (.ofNat 143))), (.tmp 36)], none⟩])
      (.seq (.region [
        ⟨some 38, .p (.move (.tmp 0)), none⟩,
        ⟨some 39, .p (.faddr 3 (.tmp 3)), none⟩,
        ⟨some 40, .r (.load none (.tmp 39)) [], none⟩,
        ⟨some 41, .call 58 [(.tmp 38), (.tmp 40)], none⟩])
      (.region [
        ⟨some 42, .p (.move (.tmp 0)), none⟩,
        ⟨some 43, .r (.load (some 7) (.tmp 3)) [], none⟩,
        ⟨some 44, .call 59 [(.tmp 42), (.tmp 43)], none⟩])))
      (.seq (.region [
        ⟨some 46, .p (.bin .eql .no true (.tmp 26) (.con (.int .i64 (.ofNat 4)))), none⟩,
        ⟨some 45, .p (.move (.tmp 46)), none⟩])
      (.cond (.tmp 45)
        (.seq (.region [
          ⟨some 47, .p (.move (.tmp 0)), none⟩,
          ⟨some 48, .p (.faddr 4 (.tmp 3)), none⟩,
          ⟨some 49, .r (.load none (.tmp 48)) [], none⟩,
          ⟨some 50, .p (.len false (.tmp 49)), none⟩,
          ⟨some 51, .p (.bin .gtr .no false (.tmp 50) (.con (.int .i64 (.ofNat 0)))), none⟩,
          ⟨some 52, .p (.faddr 6 (.tmp 3)), none⟩,
          ⟨some 53, .r (.load none (.tmp 52)) [], none⟩,
          ⟨some 54, .call 28 [(.tmp 47), (.tmp 51), (.con (.int .i64 (.ofNat 143))), (.tmp 53)], none⟩])
        (.seq (.region [
          ⟨some 55, .p (.faddr 4 (.tmp 3)), none⟩,
          ⟨some 56, .r (.load none (.tmp 55)) [], none⟩,
          ⟨some 57, .p (.len false (.tmp 56)), none⟩,
          ⟨some 58, .p (.move (.con (.int .i64 (.ofNat 0)))), none⟩])
        (.block 1
          (.loop
            (.seq (.region [
              ⟨some 59, .p (.bin .lss .no false (.tmp 58) (.tmp 57)), none⟩])
            (.seq (.cond (.tmp 59)
              (.skip)
              (.exit 1))
            (.seq (.block 2
              (.seq (.region [
                ⟨some 60, .p (.iaddr 1 (.tmp 56) (.tmp 58)), none⟩,
                ⟨some 61, .r (.load none (.tmp 60)) [], none⟩,
                ⟨some 5, .p (.move (.tmp 61)), none⟩])
              (.regionD [
                ⟨some 62, .p (.move (.tmp 0)), none⟩,
                ⟨some 63, .p (.move (.tmp 0)), none⟩,
                ⟨some 64, .p (.nilck (.tmp 63)), none⟩,
                ⟨some 65, .p (.faddr 0 (.tmp 64)), none⟩,
                ⟨some 66, .r (.load none (.tmp 65)) [], none⟩,
                ⟨some 67, .p (.move (.tmp 5)), none⟩,
                ⟨some 68, .call 17 [(.tmp 66), (.tmp 67)], none⟩,
                ⟨some 69, .p (.bin .eql .no true (.tmp 68) (.con (.int .i64 (.ofNat 2)))), none⟩,
                ⟨some 70, .p (.faddr 6 (.tmp 3)), none⟩,
                ⟨some 71, .r (.load none (.tmp 70)) [0, 7], none⟩,
                ⟨some 72, .call 28 [(.tmp 62), (.tmp 69), (.con (.int .i64 (.ofNat 146))), (.tmp 71)], none⟩])))
            (.region [
              ⟨some 73, .p (.bin .add .no false (.tmp 58) (.con (.int .i64 (.ofNat 1)))), none⟩,
              ⟨some 58, .p (.move (.tmp 73)), none⟩]))))))))
        (.seq (.region [
          ⟨some 75, .p (.bin .eql .no true (.tmp 26) (.con (.int .i64 (.ofNat 5)))), none⟩,
          ⟨some 74, .p (.move (.tmp 75)), none⟩])
        (.cond (.tmp 74)
          (.region [
            ⟨some 76, .p (.move (.tmp 0)), none⟩,
            ⟨some 77, .p (.faddr 4 (.tmp 3)), none⟩,
            ⟨some 78, .r (.load none (.tmp 77)) [], none⟩,
            ⟨some 79, .p (.len false (.tmp 78)), none⟩,
            ⟨some 80, .p (.bin .gtr .no false (.tmp 79) (.con (.int .i64 (.ofNat 0)))), none⟩,
            ⟨some 81, .p (.faddr 6 (.tmp 3)), none⟩,
            ⟨some 82, .r (.load none (.tmp 81)) [], none⟩,
            ⟨some 83, .call 28 [(.tmp 76), (.tmp 80), (.con (.int .i64 (.ofNat 143))), (.tmp 82)], none⟩])
          (.seq (.region [
            ⟨some 85, .p (.bin .eql .no true (.tmp 26) (.con (.int .i64 (.ofNat 6)))), none⟩,
            ⟨some 84, .p (.move (.tmp 85)), none⟩])
          (.cond (.tmp 84)
            (.seq (.region [
              ⟨some 86, .p (.move (.tmp 0)), none⟩,
              ⟨some 87, .p (.faddr 5 (.tmp 3)), none⟩,
              ⟨some 88, .r (.load none (.tmp 87)) [], none⟩,
              ⟨some 89, .p (.len false (.tmp 88)), none⟩,
              ⟨some 90, .p (.bin .gtr .no false (.tmp 89) (.con (.int .i64 (.ofNat 0)))), none⟩,
              ⟨some 91, .p (.faddr 6 (.tmp 3)), none⟩,
              ⟨some 92, .r (.load none (.tmp 91)) [], none⟩,
              ⟨some 93, .call 28 [(.tmp 86), (.tmp 90), (.con (.int .i64 (.ofNat 143))), (.tmp 92)], none⟩])
            (.region [
              ⟨some 94, .p (.move (.tmp 0)), none⟩,
              ⟨some 95, .p (.faddr 5 (.tmp 3)), none⟩,
              ⟨some 96, .r (.load none (.tmp 95)) [], none⟩,
              ⟨some 97, .call 60 [(.tmp 94), (.tmp 96)], none⟩]))
            (.skip))))))))))))),
  [], false⟩
theorem c32_eq : cfn Tryz.prog cfg 32 = some c32 := by kernel_rfl

/-- rubric/coerce.Sorted -/
def c34 : AFn := ⟨
  .seq (.region [
    ⟨some 2, .p (.move (.con .nils)), none⟩])
  (.seq (.region [
    ⟨some 4, .p (.move (.tmp 0)), none⟩,
    ⟨some 5, .call 61 [(.tmp 4)], none⟩,
    ⟨some 3, .p (.move (.tmp 5)), none⟩])
  (.seq (.region [
    ⟨some 6, .p (.move (.tmp 3)), none⟩,
    ⟨some 7, .call 62 [(.tmp 6), (.con (.fn 63 [] []))], none⟩])
  (.seq (.region [
    ⟨some 8, .p (.move (.tmp 3)), none⟩,
    ⟨some 9, .call 67 [(.tmp 8)], none⟩,
    ⟨some 10, .call 66 [(.tmp 9)], none⟩,
    ⟨some 2, .p (.move (.tmp 10)), none⟩])
  (.ret)))),
  [.tmp 2], false⟩
theorem c34_eq : cfn Tryz.prog cfg 34 = some c34 := by kernel_rfl

/-- rubric/read.New -/
def c35 : AFn := ⟨
  .seq (.region [
    ⟨some 2, .w (.new [.nils, (.int .i64 (.ofNat 0)), (.int .i64 (.ofNat 0)), (.int .i64 (.ofNat 0)), (.int .i64 (.ofNat 0))]), none⟩])
  (.seq (.region [
    ⟨some 7, .p (.move (.tmp 0)), none⟩,
    ⟨some 8, .call 68 [(.tmp 7)], none⟩,
    ⟨some 6, .p (.move (.tmp 8)), none⟩,
    ⟨some 9, .p (.extract (.tmp 6) 0), none⟩,
    ⟨some 10, .p (.extract (.tmp 6) 1), none⟩,
    ⟨some 11, .p (.extract (.tmp 6) 2), none⟩,
    ⟨some 3, .p (.move (.tmp 9)), none⟩,
    ⟨some 4, .p (.move (.tmp 10)), none⟩,
    ⟨some 5, .p (.move (.tmp 11)), none⟩])
  (.seq (.seq (.region [
    ⟨some 12, .p (.move (.tmp 5)), none⟩,
    ⟨some 13, .p (.bin .neq .no true (.tmp 12) (.con (.int .i64 (.ofNat 0)))), none⟩])
  (.cond (.tmp 13)
    (.seq (.region [
      ⟨some 14, .p (.build [(.int .i64 (.ofNat 0)), (.str []), (.int .i64 (.ofNat 0))] []), none⟩,
      ⟨some 15, .p (.buildSl 3 1 [(.int .i64 (.ofNat 0)), (.str []), (.int .i64 (.ofNat 0))] [(0, 3, (.tmp 14))]), none⟩,
      ⟨some 16, .p (.move (.tmp 4)), none⟩,
      ⟨some 17, .p (.move (.tmp 5)), none⟩,
      ⟨some 18, .p (.build [.nils, (.int .i64 (.ofNat 0)), (.int .i64 (.ofNat 0)), (.int .i64 (.ofNat 0)), (.int .i64 (.ofNat 0))] [(0, 1, (.tmp 15)), (3, 1, (.tmp 16)), (4, 1, (.tmp 17))]), none⟩,
      ⟨none, .w (.store 5 (.tmp 2) (.tmp 18)), none⟩])
    (.ret))
    (.skip)))
  (.seq (.region [
    ⟨some 19, .p (.move (.tmp 3)), none⟩,
    ⟨some 20, .p (.build [.nils, (.int .i64 (.ofNat 0)), (.int .i64 (.ofNat 0)), (.int .i64 (.ofNat 0)), (.int .i64 (.ofNat 0))] [(0, 1, (.tmp 19))]), none⟩,
    ⟨none, .w (.store 5 (.tmp 2) (.tmp 20)), none⟩])
  (.ret)))),
  [.cell 2 (some 5)], false⟩
theorem c35_eq : cfn Tryz.prog cfg 35 = some c35 := by kernel_rfl

/-- (*rubric/read.Reader).Peek -/
def c36 : AFn := ⟨
  .seq (.region [
    ⟨some 2, .w (.new [(.int .i64 (.ofNat 0)), (.str []), (.int .i64 (.ofNat 0))]), none⟩])
  (.seq (.regionD [
    ⟨some 3, .p (.move (.tmp 0)), none⟩,
    ⟨some 4, .p (.nilck (.tmp 3)), none⟩,
    ⟨some 5, .p (.faddr 0 (.tmp 4)), none⟩,
    ⟨some 6, .r (.load none (.tmp 5)) [], none⟩,
    ⟨some 7, .p (.move (.tmp 0)), none⟩,
    ⟨some 8, .p (.nilck (.tmp 7)), none⟩,
    ⟨some 9, .p (.faddr 1 (.tmp 8)), none⟩,
    ⟨some 10, .r (.load none (.tmp 9)) [], none⟩,
    ⟨some 11, .p (.iaddr 3 (.tmp 6) (.tmp 10)), none⟩,
    ⟨some 12, .r (.load (some 3) (.tmp 11)) [], none⟩,
    ⟨none, .w (.store 3 (.tmp 2) (.tmp 12)), none⟩])
  (.ret)),
  [.cell 2 (some 3)], false⟩
theorem c36_eq : cfn Tryz.prog cfg 36 = some c36 := by kernel_rfl

/-- (*rubric/sdl.reader).def -/
def c37 : AFn := ⟨
  .seq (.region [
    ⟨some 1, .w (.box 1 (.tmp 0)), none⟩,
    ⟨some 2, .w (.new [(.int .i64 (.ofNat 0)), (.str []), .nils, .nils, .nils, .nils, (.int .i64 (.ofNat 0))]), none⟩])
  (.seq (.region [
    ⟨some 5, .r (.load none (.tmp 1)) [], none⟩,
    ⟨some 6, .call 69 [(.tmp 5)], none⟩])
  (.seq (.seq (.regionD [
    ⟨some 7, .r (.load none (.tmp 1)) [0, 4], none⟩,
    ⟨some 8, .p (.nilck (.tmp 7)), none⟩,
    ⟨some 9, .p (.faddr 0 (.tmp 8)), none⟩,
    ⟨some 10, .call 71 [], none⟩,
    ⟨some 11, .call 70 [(.tmp 9), (.tmp 10)], none⟩,
    ⟨some 12, .p (.un .not (.tmp 11)), none⟩])
  (.cond (.tmp 12)
    (.region [
      ⟨some 13, .r (.load none (.tmp 1)) [], none⟩,
      ⟨some 14, .p (.nilck (.tmp 13)), none⟩,
      ⟨some 15, .p (.faddr 0 (.tmp 14)), none⟩,
      ⟨some 16, .call 72 [(.tmp 15)], none⟩])
    (.skip)))
  (.seq (.region [
    ⟨some 17, .r (.load none (.tmp 1)) [], none⟩,
    ⟨some 18, .p (.nilck (.tmp 17)), none⟩,
    ⟨some 19, .p (.faddr 0 (.tmp 18)), none⟩,
    ⟨some 20, .call 73 [(.tmp 19)], none⟩,
    ⟨some 3, .w (.new [(.int .i64 (.ofNat 0)), (.str []), (.int .i64 (.ofNat 0))]), none⟩,
    ⟨none, .w (.store 3 (.tmp 3) (.tmp 20)), none⟩])
  (.seq (.regionD [
    ⟨some 21, .call 71 [], none⟩,
    ⟨some 22, .p (.faddr 1 (.tmp 3)), none⟩,
    ⟨some 23, .r (.load none (.tmp 22)) [0, 1], none⟩,
    ⟨some 24, .call 74 [(.tmp 21), (.tmp 23)], none⟩,
    ⟨some 25, .p (.bin .add .no false (.con (.int .i64 (.ofNat 1))) (.tmp 24)), none⟩,
    ⟨some 26, .p (.faddr 2 (.tmp 3)), none⟩,
    ⟨some 27, .r (.load none (.tmp 26)) [0, 1, 4], none⟩,
    ⟨some 28, .p (.build [(.int .i64 (.ofNat 0)), (.str []), .nils, .nils, .nils, .nils, (.int .i64 (.ofNat 0))] [(0, 1, (.tmp 25)), (6, 1, (.tmp 27))]), none⟩,
    ⟨some 4, .skip, none⟩,
    ⟨some 4, .w (.box 7 (.tmp 28)), none⟩])
  (.seq (.region [
    ⟨some 29, .r (.load none (.tmp 1)) [], none⟩,
    ⟨some 30, .p (.nilck (.tmp 29)), none⟩,
    ⟨some 31, .p (.faddr 0 (.tmp 30)), none⟩,
    ⟨some 32, .call 75 [(.tmp 31)], none⟩,
    ⟨some 33, .p (.faddr 1 (.tmp 4)), none⟩,
    ⟨none, .w (.store 1 (.tmp 33) (.tmp 32)), none⟩])
  (.seq (.seq (.region [
    ⟨some 34, .p (.faddr 0 (.tmp 4)), none⟩,
    ⟨some 35, .r (.load none (.tmp 34)) [], none⟩])
  (.block 0
    (.seq (.seq (.region [
      ⟨some 37, .p (.bin .eql .no true (.tmp 35) (.con (.int .i64 (.ofNat 2)))), none⟩,
      ⟨some 36, .p (.move (.tmp 37)), none⟩])
    (.cond (.tmp 36)
      (.skip)
      (.region [
        ⟨some 38, .p (.bin .eql .no true (.tmp 35) (.con (.int .i64 (.ofNat 3)))), none⟩,
        ⟨some 36, .p (.move (.tmp 38)), none⟩])))
    (.cond (.tmp 36)
      (.seq (.seq (.region [
        ⟨some 39, .r (.load none (.tmp 1)) [], none⟩,
        ⟨some 40, .p (.nilck (.tmp 39)), none⟩,
        ⟨some 41, .p (.faddr 0 (.tmp 40)), none⟩,
        ⟨some 42, .p (.buildSl 1 1 [(.str [])] [(0, 1, (.con (.str [105, 109, 112, 108, 101, 109, 101, 110, 116, 115])))]), none⟩,
        ⟨some 43, .call 70 [(.tmp 41), (.tmp 42)], none⟩])
      (.cond (.tmp 43)
        (.seq (.region [
          ⟨some 44, .r (.load none (.tmp 1)) [], none⟩,
          ⟨some 45, .p (.nilck (.tmp 44)), none⟩,
          ⟨some 46, .p (.faddr 0 (.tmp 45)), none⟩,
          ⟨some 47, .call 73 [(.tmp 46)], none⟩])
        (.region [
          ⟨some 48, .r (.load none (.tmp 1)) [], none⟩,
          ⟨some 49, .call 76 [(.tmp 48), (.con (.str [38]))], none⟩,
          ⟨some 50, .p (.faddr 2 (.tmp 4)), none⟩,
          ⟨none, .w (.store 1 (.tmp 50) (.tmp 49)), none⟩]))
        (.skip)))
      (.region [
        ⟨some 51, .r (.load none (.tmp 1)) [], none⟩,
        ⟨some 52, .p (.mkfn 78 [] [(.tmp 4), (.tmp 1)]), none⟩,
        ⟨some 53, .call 77 [(.tmp 51), (.tmp 52)], none⟩]))
      (.seq (.region [
        ⟨some 55, .p (.bin .eql .no true (.tmp 35) (.con (.int .i64 (.ofNat 4)))), none⟩,
        ⟨some 54, .p (.move (.tmp 55)), none⟩])
      (.cond (.tmp 54)
        (.seq (.region [
          ⟨some 56, .r (.load none (.tmp 1)) [], none⟩,
          ⟨some 57, .p (.nilck (.tmp 56)), none⟩,
          ⟨some 58, .p (.faddr 0 (.tmp 57)), none⟩,
          ⟨some 59, .call 80 [(.tmp 58), (.con (.str [61]))], none⟩])
        (.cond (.tmp 59)
          (.region [
            ⟨some 60, .r (.load none (.tmp 1)) [], none⟩,
            ⟨some 61, .call 76 [(.tmp 60), (.con (.str [124]))], none⟩,
            ⟨some 62, .p (.faddr 4 (.tmp 4)), none⟩,
            ⟨none, .w (.store 1 (.tmp 62) (.tmp 61)), none⟩])
          (.skip)))
        (.seq (.region [
          ⟨some 64, .p (.bin .eql .no true (.tmp 35) (.con (.int .i64 (.ofNat 5)))), none⟩,
          ⟨some 63, .p (.move (.tmp 64)), none⟩])
        (.cond (.tmp 63)
          (.region [
            ⟨some 65, .r (.load none (.tmp 1)) [], none⟩,
            ⟨some 66, .p (.mkfn 81 [] [(.tmp 4), (.tmp 1)]), none⟩,
            ⟨some 67, .call 77 [(.tmp 65), (.tmp 66)], none⟩])
          (.seq (.region [
            ⟨some 69, .p (.bin .eql .no true (.tmp 35) (.con (.int .i64 (.ofNat 6)))), none⟩,
            ⟨some 68, .p (.move (.tmp 69)), none⟩])
          (.cond (.tmp 68)
            (.region [
              ⟨some 70, .r (.load none (.tmp 1)) [], none⟩,
              ⟨some 71, .p (.mkfn 83 [] [(.tmp 4), (.tmp 1)]), none⟩,
              ⟨some 72, .call 77 [(.tmp 70), (.tmp 71)], none⟩])
            (.skip)))))))))))
  (.seq (.region [
    ⟨some 73, .r (.load (some 7) (.tmp 4)) [], none⟩,
    ⟨none, .w (.store 7 (.tmp 2) (.tmp 73)), none⟩])
  (.ret)))))))),
  [.cell 2 (some 7)], false⟩
theorem c37_eq : cfn Tryz.prog cfg 37 = some c37 := by kernel_rfl

/-- (*rubric/types.Types).is -/
def c38 : AFn := ⟨
  .seq (.region [
    ⟨some 6, .p (.move (.con (.bool false))), none⟩])
  (.seq (.region [
    ⟨some 8, .p (.move (.tmp 0)), none⟩,
    ⟨some 9, .p (.move (.tmp 1)), none⟩,
    ⟨some 10, .call 17 [(.tmp 8), (.tmp 9)], none⟩,
    ⟨some 7, .p (.move (.tmp 10)), none⟩])
  (.seq (.region [
    ⟨some 11, .p (.move (.tmp 7)), none⟩,
    ⟨some 12, .p (.bin .neq .no true (.tmp 11) (.con (.int .i64 (.ofNat 0)))), none⟩,
    ⟨some 13, .p (.move (.tmp 12)), none⟩,
    ⟨some 14, .p (.move (.tmp 2)), (some (13, true))⟩,
    ⟨some 15, .p (.move (.tmp 7)), (some (13, true))⟩,
    ⟨some 16, .call 85 [(.tmp 14), (.tmp 15)], (some (13, true))⟩,
    ⟨some 17, .p (.pick (.tmp 13) (.tmp 16) (.con (.bool false))), none⟩,
    ⟨some 6, .p (.move (.tmp 17)), none⟩])
  (.ret))),
  [.tmp 6], false⟩
theorem c38_eq : cfn Tryz.prog cfg 38 = some c38 := by kernel_rfl

/-- rubric/value.Base -/
def c39 : AFn := ⟨
  .seq (.region [
    ⟨some 2, .p (.move (.con (.str []))), none⟩])
  (.seq (.region [
    ⟨some 3, .p (.move (.tmp 0)), none⟩,
    ⟨some 4, .call 86 [(.tmp 3), (.con (.str [91, 93, 33]))], none⟩,
    ⟨some 2, .p (.move (.tmp 4)), none⟩])
  (.ret)),
  [.tmp 2], false⟩
theorem c39_eq : cfn Tryz.prog cfg 39 = some c39 := by kernel_rfl

/-- slices.Contains[[]string,string] -/
def c40 : AFn := ⟨
  .seq (.region [
    ⟨some 4, .p (.move (.con (.bool false))), none⟩])
  (.seq (.region [
    ⟨some 5, .p (.move (.tmp 0)), none⟩,
    ⟨some 6, .p (.move (.tmp 1)), none⟩,
    ⟨some 7, .call 74 [(.tmp 5), (.tmp 6)], none⟩,
    ⟨some 8, .p (.bin .geq .no false (.tmp 7) (.con (.int .i64 (.ofNat 0)))), none⟩,
    ⟨some 4, .p (.move (.tmp 8)), none⟩])
  (.ret)),
  [.tmp 4], false⟩
theorem c40_eq : cfn Tryz.prog cfg 40 = some c40 := by kernel_rfl

/-- slices.Sort[[]string,string] -/
def c41 : AFn := ⟨
  .seq (.region [
    ⟨some 3, .p (.move (.tmp 0)), none⟩,
    ⟨some 4, .p (.len false (.tmp 3)), none⟩,
    ⟨some 2, .p (.move (.tmp 4)), none⟩])
  (.region [
    ⟨some 5, .p (.move (.tmp 0)), none⟩,
    ⟨some 6, .p (.move (.tmp 2)), none⟩,
    ⟨some 7, .p (.move (.tmp 2)), none⟩,
    ⟨some 8, .p (.conv (.int .u64) (.tmp 7)), none⟩,
    ⟨some 9, .call 88 [(.tmp 8)], none⟩,
    ⟨some 10, .call 87 [(.tmp 5), (.con (.int .i64 (.ofNat 0))), (.tmp 6), (.tmp 9)], none⟩]),
  [], false⟩
theorem c41_eq : cfn Tryz.prog cfg 41 = some c41 := by kernel_rfl

/-- slices.Compact[[]string,string] -/
def c43 : AFn := ⟨
  .seq (.region [
    ⟨some 2, .p (.move (.con .nils)), none⟩])
  (.seq (.seq (.region [
    ⟨some 6, .p (.move (.tmp 0)), none⟩,
    ⟨some 7, .p (.len false (.tmp 6)), none⟩,
    ⟨some 8, .p (.bin .lss .no false (.tmp 7) (.con (.int .i64 (.ofNat 2)))), none⟩])
  (.cond (.tmp 8)
    (.seq (.region [
      ⟨some 9, .p (.move (.tmp 0)), none⟩,
      ⟨some 2, .p (.move (.tmp 9)), none⟩])
    (.ret))
    (.skip)))
  (.seq (.seq (.region [
    ⟨some 3, .p (.move (.con (.int .i64 (.ofNat 1)))), none⟩])
  (.block 0
    (.loop
      (.seq (.seq (.region [
        ⟨some 10, .p (.move (.tmp 3)), none⟩,
        ⟨some 11, .p (.move (.tmp 0)), none⟩,
        ⟨some 12, .p (.len false (.tmp 11)), none⟩,
        ⟨some 13, .p (.bin .lss .no false (.tmp 10) (.tmp 12)), none⟩])
      (.cond (.tmp 13)
        (.skip)
        (.exit 0)))
      (.seq (.block 1
        (.seq (.regionD [
          ⟨some 16, .p (.move (.tmp 0)), none⟩,
          ⟨some 17, .p (.move (.tmp 3)), none⟩,
          ⟨some 18, .p (.iaddr 1 (.tmp 16) (.tmp 17)), none⟩,
          ⟨some 19, .r (.load none (.tmp 18)) [], none⟩,
          ⟨some 20, .p (.move (.tmp 0)), none⟩,
          ⟨some 21, .p (.move (.tmp 3)), none⟩,
          ⟨some 22, .p (.bin .sub .no false (.tmp 21) (.con (.int .i64 (.ofNat 1)))), none⟩,
          ⟨some 23, .p (.iaddr 1 (.tmp 20) (.tmp 22)), none⟩,
          ⟨some 24, .r (.load none (.tmp 23)) [], none⟩,
          ⟨some 25, .p (.bin .eql .no false (.tmp 19) (.tmp 24)), none⟩])
        (.cond (.tmp 25)
          (.seq (.region [
            ⟨some 26, .p (.move (.tmp 0)), none⟩,
            ⟨some 27, .p (.move (.tmp 3)), none⟩,
            ⟨some 28, .p (.sliceL 1 (.tmp 26) (some (.tmp 27)) none none), none⟩,
            ⟨some 4, .p (.move (.tmp 28)), none⟩])
          (.seq (.seq (.region [
            ⟨some 5, .p (.move (.con (.int .i64 (.ofNat 1)))), none⟩])
          (.block 2
            (.loop
              (.seq (.seq (.region [
                ⟨some 29, .p (.move (.tmp 5)), none⟩,
                ⟨some 30, .p (.move (.tmp 4)), none⟩,
                ⟨some 31, .p (.len false (.tmp 30)), none⟩,
                ⟨some 32, .p (.bin .lss .no false (.tmp 29) (.tmp 31)), none⟩])
              (.cond (.tmp 32)
                (.skip)
                (.exit 2)))
              (.seq (.block 3
                (.seq (.regionD [
                  ⟨some 35, .p (.move (.tmp 4)), none⟩,
                  ⟨some 36, .p (.move (.tmp 5)), none⟩,
                  ⟨some 37, .p (.iaddr 1 (.tmp 35) (.tmp 36)), none⟩,
                  ⟨some 38, .r (.load none (.tmp 37)) [], none⟩,
                  ⟨some 39, .p (.move (.tmp 4)), none⟩,
                  ⟨some 40, .p (.move (.tmp 5)), none⟩,
                  ⟨some 41, .p (.bin .sub .no false (.tmp 40) (.con (.int .i64 (.ofNat 1)))), none⟩,
                  ⟨some 42, .p (.iaddr 1 (.tmp 39) (.tmp 41)), none⟩,
                  ⟨some 43, .r (.load none (.tmp 42)) [], none⟩,
                  ⟨some 44, .p (.bin .neq .no false (.tmp 38) (.tmp 43)), none⟩])
                (.cond (.tmp 44)
                  (.seq (.region [
                    ⟨some 45, .p (.move (.tmp 0)), none⟩,
                    ⟨some 46, .p (.move (.tmp 3)), none⟩,
                    ⟨some 47, .p (.move (.tmp 4)), none⟩,
                    ⟨some 48, .p (.move (.tmp 5)), none⟩,
                    ⟨some 49, .p (.iaddr 1 (.tmp 47) (.tmp 48)), none⟩,
                    ⟨some 50, .r (.load none (.tmp 49)) [], none⟩,
                    ⟨some 51, .p (.iaddr 1 (.tmp 45) (.tmp 46)), none⟩,
                    ⟨none, .w (.store 1 (.tmp 51) (.tmp 50)), none⟩])
                  (.region [
                    ⟨some 52, .p (.move (.tmp 3)), none⟩,
                    ⟨some 53, .p (.bin .add .no false (.tmp 52) (.con (.int .i64 (.ofNat 1)))), none⟩,
                    ⟨some 3, .p (.move (.tmp 53)), none⟩]))
                  (.skip))))
              (.region [
                ⟨some 33, .p (.move (.tmp 5)), none⟩,
                ⟨some 34, .p (.bin .add .no false (.tmp 33) (.con (.int .i64 (.ofNat 1)))), none⟩,
                ⟨some 5, .p (.move (.tmp 34)), none⟩]))))))
          (.seq (.region [
            ⟨some 54, .p (.move (.tmp 0)), none⟩,
            ⟨some 55, .p (.move (.tmp 3)), none⟩,
            ⟨some 56, .p (.sliceL 1 (.tmp 54) (some (.tmp 55)) none none), none⟩,
            ⟨none, .fail, none⟩])
          (.seq (.region [
            ⟨some 57, .p (.move (.tmp 0)), none⟩,
            ⟨some 58, .p (.move (.tmp 3)), none⟩,
            ⟨some 59, .p (.sliceL 1 (.tmp 57) none (some (.tmp 58)) none), none⟩,
            ⟨some 2, .p (.move (.tmp 59)), none⟩])
          (.ret)))))
          (.skip))))
      (.region [
        ⟨some 14, .p (.move (.tmp 3)), none⟩,
        ⟨some 15, .p (.bin .add .no false (.tmp 14) (.con (.int .i64 (.ofNat 1)))), none⟩,
        ⟨some 3, .p (.move (.tmp 15)), none⟩]))))))
  (.seq (.region [
    ⟨some 60, .p (.move (.tmp 0)), none⟩,
    ⟨some 2, .p (.move (.tmp 60)), none⟩])
  (.ret)))),
  [.tmp 2], false⟩
theorem c43_eq : cfn Tryz.prog cfg 43 = some c43 := by kernel_rfl

/-- (*rubric/types.Types).Composite -/
def c44 : AFn := ⟨
  .seq (.region [
    ⟨some 4, .p (.move (.con (.bool false))), none⟩])
  (.seq (.region [
    ⟨some 5, .p (.move (.tmp 0)), none⟩,
    ⟨some 6, .p (.move (.tmp 1)), none⟩,
    ⟨some 7, .p (.buildSl 1 3 [(.int .i64 (.ofNat 0))] [(0, 1, (.con (.int .i64 (.ofNat 2)))), (1, 1, (.con (.int .i64 (.ofNat 3)))), (2, 1, (.con (.int .i64 (.ofNat 4))))]), none⟩,
    ⟨some 8, .call 38 [(.tmp 5), (.tmp 6), (.tmp 7)], none⟩,
    ⟨some 4, .p (.move (.tmp 8)), none⟩])
  (.ret)),
  [.tmp 4], false⟩
theorem c44_eq : cfn Tryz.prog cfg 44 = some c44 := by kernel_rfl

/-- slices.IndexFunc[[]rubric/api.FieldDef,rubric/api.FieldDef] -/
def c45 : AFn := ⟨
  .seq (.region [
    ⟨some 4, .p (.move (.con (.int .i64 (.ofNat 0)))), none⟩])
  (.seq (.seq (.region [
    ⟨some 6, .p (.move (.tmp 0)), none⟩,
    ⟨some 7, .p (.len false (.tmp 6)), none⟩,
    ⟨some 8, .p (.move (.con (.int .i64 (.ofNat 0)))), none⟩])
  (.block 0
    (.loop
      (.seq (.region [
        ⟨some 9, .p (.bin .lss .no false (.tmp 8) (.tmp 7)), none⟩])
      (.seq (.cond (.tmp 9)
        (.skip)
        (.exit 0))
      (.seq (.block 1
        (.seq (.region [
          ⟨some 10, .p (.move (.tmp 8)), none⟩,
          ⟨some 5, .p (.move (.tmp 10)), none⟩])
        (.seq (.region [
          ⟨some 11, .p (.move (.tmp 1)), none⟩,
          ⟨some 12, .p (.move (.tmp 0)), none⟩,
          ⟨some 13, .p (.move (.tmp 5)), none⟩,
          ⟨some 14, .p (.iaddr 4 (.tmp 12) (.tmp 13)), none⟩,
          ⟨some 15, .r (.load (some 4) (.tmp 14)) [], none⟩,
          ⟨some 16, .callv (.tmp 11) [(.tmp 15)], none⟩])
        (.cond (.tmp 16)
          (.seq (.region [
            ⟨some 17, .p (.move (.tmp 5)), none⟩,
            ⟨some 4, .p (.move (.tmp 17)), none⟩])
          (.ret))
          (.skip)))))
      (.region [
        ⟨some 18, .p (.bin .add .no false (.tmp 8) (.con (.int .i64 (.ofNat 1)))), none⟩,
        ⟨some 8, .p (.move (.tmp 18)), none⟩])))))))
  (.seq (.region [
    ⟨some 4, .p (.move (.con (.int .i64 (.negSucc 0)))), none⟩])
  (.ret))),
  [.tmp 4], false⟩
theorem c45_eq : cfn Tryz.prog cfg 45 = some c45 := by kernel_rfl

/-- (*rubric/types.Types).Field$1 -/
def c46 : AFn := ⟨
  .seq (.region [
    ⟨some 2, .w (.box 4 (.tmp 0)), none⟩,
    ⟨some 3, .p (.move (.con (.bool false))), none⟩])
  (.seq (.region [
    ⟨some 4, .p (.faddr 0 (.tmp 2)), none⟩,
    ⟨some 5, .r (.load none (.tmp 4)) [], none⟩,
    ⟨some 6, .r (.load none (.tmp 1)) [], none⟩,
    ⟨some 7, .p (.bin .eql .no false (.tmp 5) (.tmp 6)), none⟩,
    ⟨some 3, .p (.move (.tmp 7)), none⟩])
  (.ret)),
  [.tmp 3], false⟩
theorem c46_eq : cfn Tryz.prog cfg 46 = some c46 := by kernel_rfl

/-- rubric/types.inputs -/
def c47 : AFn := ⟨
  .seq (.region [
    ⟨some 2, .p (.move (.con .nils)), none⟩])
  (.seq (.region [
    ⟨some 4, .p (.move (.tmp 0)), none⟩,
    ⟨some 5, .call 89 [(.tmp 4)], none⟩,
    ⟨some 0, .p (.move (.tmp 5)), none⟩])
  (.seq (.seq (.region [
    ⟨some 6, .p (.move (.tmp 0)), none⟩,
    ⟨some 7, .p (.len false (.tmp 6)), none⟩,
    ⟨some 8, .p (.move (.con (.int .i64 (.ofNat 0)))), none⟩])
  (.block 0
    (.loop
      (.seq (.region [
        ⟨some 9, .p (.bin .lss .no false (.tmp 8) (.tmp 7)), none⟩])
      (.seq (.cond (.tmp 9)
        (.skip)
        (.exit 0))
      (.seq (.block 1
        (.seq (.region [
          ⟨some 10, .p (.move (.tmp 8)), none⟩,
          ⟨some 3, .p (.move (.tmp 10)), none⟩])
        (.region [
          ⟨some 11, .p (.move (.tmp 0)), none⟩,
          ⟨some 12, .p (.move (.tmp 3)), none⟩,
          ⟨some 13, .p (.move (.tmp 0)), none⟩,
          ⟨some 14, .p (.move (.tmp 3)), none⟩,
          ⟨some 15, .p (.iaddr 9 (.tmp 13) (.tmp 14)), none⟩,
          ⟨some 16, .p (.faddr 3 (.tmp 15)), none⟩,
          ⟨some 17, .r (.load (some 5) (.tmp 16)) [], none⟩,
          ⟨some 18, .call 90 [(.tmp 17)], none⟩,
          ⟨some 19, .p (.iaddr 9 (.tmp 11) (.tmp 12)), none⟩,
          ⟨some 20, .p (.faddr 3 (.tmp 19)), none⟩,
          ⟨none, .w (.store 5 (.tmp 20) (.tmp 18)), none⟩])))
      (.region [
        ⟨some 21, .p (.bin .add .no false (.tmp 8) (.con (.int .i64 (.ofNat 1)))), none⟩,
        ⟨some 8, .p (.move (.tmp 21)), none⟩])))))))
  (.seq (.region [
    ⟨some 22, .p (.move (.tmp 0)), none⟩,
    ⟨some 2, .p (.move (.tmp 22)), none⟩])
  (.ret)))),
  [.tmp 2], false⟩
theorem c47_eq : cfn Tryz.prog cfg 47 = some c47 := by kernel_rfl

/-- rubric/value.NonNull -/
def c48 : AFn := ⟨
  .seq (.region [
    ⟨some 2, .p (.move (.con (.bool false))), none⟩])
  (.seq (.region [
    ⟨some 3, .p (.move (.tmp 0)), none⟩,
    ⟨some 4, .call 91 [(.tmp 3), (.con (.str [33]))], none⟩,
    ⟨some 2, .p (.move (.tmp 4)), none⟩])
  (.ret)),
  [.tmp 2], false⟩
theorem c48_eq : cfn Tryz.prog cfg 48 = some c48 := by kernel_rfl

/-- rubric/value.Nullable -/
def c49 : AFn := ⟨
  .seq (.region [
    ⟨some 2, .p (.move (.con (.str []))), none⟩])
  (.seq (.region [
    ⟨some 3, .p (.move (.tmp 0)), none⟩,
    ⟨some 4, .call 92 [(.tmp 3), (.con (.str [33]))], none⟩,
    ⟨some 2, .p (.move (.tmp 4)), none⟩])
  (.ret)),
  [.tmp 2], false⟩
theorem c49_eq : cfn Tryz.prog cfg 49 = some c49 := by kernel_rfl

/-- rubric/value.Item -/
def c50 : AFn := ⟨
  .seq (.region [
    ⟨some 2, .p (.move (.con (.str []))), none⟩,
    ⟨some 3, .p (.move (.con (.bool false))), none⟩])
  (.seq (.region [
    ⟨some 7, .p (.move (.tmp 0)), none⟩,
    ⟨some 8, .call 49 [(.tmp 7)], none⟩,
    ⟨some 9, .call 93 [(.tmp 8), (.con (.str [91]))], none⟩,
    ⟨some 6, .p (.move (.tmp 9)), none⟩,
    ⟨some 10, .p (.extract (.tmp 6) 0), none⟩,
    ⟨some 11, .p (.extract (.tmp 6) 1), none⟩,
    ⟨some 4, .p (.move (.tmp 10)), none⟩,
    ⟨some 5, .p (.move (.tmp 11)), none⟩])
  (.seq (.seq (.region [
    ⟨some 12, .p (.move (.tmp 5)), none⟩,
    ⟨some 13, .p (.un .not (.tmp 12)), none⟩])
  (.cond (.tmp 13)
    (.seq (.region [
      ⟨some 2, .p (.move (.con (.str []))), none⟩,
      ⟨some 3, .p (.move (.con (.bool false))), none⟩])
    (.ret))
    (.skip)))
  (.seq (.region [
    ⟨some 14, .p (.move (.tmp 4)), none⟩,
    ⟨some 15, .call 92 [(.tmp 14), (.con (.str [93]))], none⟩,
    ⟨some 2, .p (.move (.tmp 15)), none⟩,
    ⟨some 3, .p (.move (.con (.bool true))), none⟩])
  (.ret)))),
  [.tmp 2, .tmp 3], false⟩
theorem c50_eq : cfn Tryz.prog cfg 50 = some c50 := by kernel_rfl

/-- rubric/rubriclaw18.is -/
def c51 : AFn := ⟨
  .seq (.region [
    ⟨some 8, .p (.move (.con (.bool false))), none⟩])
  (.seq (.region [
    ⟨some 14, .p (.move (.tmp 1)), none⟩,
    ⟨some 15, .call 94 [(.tmp 14)], none⟩,
    ⟨some 13, .p (.move (.tmp 15)), none⟩,
    ⟨some 16, .p (.extract (.tmp 13) 0), none⟩,
    ⟨some 17, .p (.extract (.tmp 13) 1), none⟩,
    ⟨some 18, .p (.extract (.tmp 13) 2), none⟩,
    ⟨some 9, .w (.new [.nils, .nils]), none⟩,
    ⟨none, .w (.store 2 (.tmp 9) (.tmp 16)), none⟩,
    ⟨some 10, .p (.move (.tmp 17)), none⟩,
    ⟨some 11, .p (.move (.tmp 18)), none⟩])
  (.seq (.region [
    ⟨some 19, .p (.move (.tmp 0)), none⟩,
    ⟨some 20, .r (.load (some 2) (.tmp 9)) [], none⟩,
    ⟨some 21, .call 95 [(.tmp 19), (.tmp 20)], none⟩,
    ⟨some 12, .p (.move (.tmp 21)), none⟩])
  (.seq (.region [
    ⟨some 22, .p (.move (.tmp 11)), none⟩,
    ⟨some 23, .p (.bin .eql .no true (.tmp 22) (.con (.int .i64 (.ofNat 0)))), none⟩,
    ⟨some 24, .p (.move (.tmp 23)), none⟩,
    ⟨some 25, .p (.move (.tmp 12)), (some (24, true))⟩,
    ⟨some 26, .p (.len false (.tmp 25)), (some (24, true))⟩,
    ⟨some 27, .p (.bin .eql .no true (.tmp 26) (.con (.int .i64 (.ofNat 1)))), (some (24, true))⟩,
    ⟨some 28, .p (.pick (.tmp 24) (.tmp 27) (.con (.bool false))), none⟩,
    ⟨some 29, .p (.move (.tmp 28)), none⟩,
    ⟨some 30, .p (.move (.tmp 12)), (some (29, true))⟩,
    ⟨some 31, .p (.iaddr 2 (.tmp 30) (.con (.int .i64 (.ofNat 0)))), (some (29, true))⟩,
    ⟨some 32, .r (.load (some 2) (.tmp 31)) [], (some (29, true))⟩,
    ⟨some 33, .p (.move (.tmp 2)), (some (29, true))⟩,
    ⟨some 34, .p (.move (.tmp 3)), (some (29, true))⟩,
    ⟨some 35, .p (.build [(.int .i64 (.ofNat 0)), (.int .i64 (.ofNat 0))] [(0, 1, (.tmp 33)), (1, 1, (.tmp 34))]), (some (29, true))⟩,
    ⟨some 36, .p (.eqA false [(.int .i64), (.int .i64)] (.tmp 32) (.tmp 35)), (some (29, true))⟩,
    ⟨some 37, .p (.pick (.tmp 29) (.tmp 36) (.con (.bool false))), none⟩,
    ⟨some 8, .p (.move (.tmp 37)), none⟩])
  (.ret)))),
  [.tmp 8], false⟩
theorem c51_eq : cfn Tryz.prog cfg 51 = some c51 := by kernel_rfl

/-- rubric/rubricref08.Same -/
def c52 : AFn := ⟨
  .seq (.region [
    ⟨some 3, .w (.box 5 (.tmp 0)), none⟩,
    ⟨some 4, .w (.box 5 (.tmp 1)), none⟩,
    ⟨some 6, .p (.move (.con (.bool false))), none⟩])
  (.seq (.seq (.region [
    ⟨some 8, .p (.faddr 0 (.tmp 3)), none⟩,
    ⟨some 9, .r (.load none (.tmp 8)) [], none⟩,
    ⟨some 10, .p (.faddr 0 (.tmp 4)), none⟩,
    ⟨some 11, .r (.load none (.tmp 10)) [], none⟩,
    ⟨some 12, .p (.bin .neq .no false (.tmp 9) (.tmp 11)), none⟩,
    ⟨some 13, .p (.move (.tmp 12)), none⟩,
    ⟨some 14, .p (.faddr 1 (.tmp 3)), (some (13, false))⟩,
    ⟨some 15, .r (.load none (.tmp 14)) [], (some (13, false))⟩,
    ⟨some 16, .p (.faddr 1 (.tmp 4)), (some (13, false))⟩,
    ⟨some 17, .r (.load none (.tmp 16)) [], (some (13, false))⟩,
    ⟨some 18, .p (.bin .neq .no false (.tmp 15) (.tmp 17)), (some (13, false))⟩,
    ⟨some 19, .p (.pick (.tmp 13) (.con (.bool true)) (.tmp 18)), none⟩,
    ⟨some 20, .p (.move (.tmp 19)), none⟩,
    ⟨some 21, .p (.faddr 2 (.tmp 3)), (some (20, false))⟩,
    ⟨some 22, .r (.load none (.tmp 21)) [], (some (20, false))⟩,
    ⟨some 23, .p (.len false (.tmp 22)), (some (20, false))⟩,
    ⟨some 24, .p (.faddr 2 (.tmp 4)), (some (20, false))⟩,
    ⟨some 25, .r (.load none (.tmp 24)) [], (some (20, false))⟩,
    ⟨some 26, .p (.len false (.tmp 25)), (some (20, false))⟩,
    ⟨some 27, .p (.bin .neq .no false (.tmp 23) (.tmp 26)), (some (20, false))⟩,
    ⟨some 28, .p (.pick (.tmp 20) (.con (.bool true)) (.tmp 27)), none⟩,
    ⟨some 29, .p (.move (.tmp 28)), none⟩,
    ⟨some 30, .p (.move (.tmp 2)), (some (29, false))⟩,
    ⟨some 31, .p (.move (.tmp 30)), (some (29, false))⟩,
    ⟨some 32, .p (.faddr 4 (.tmp 3)), (some (31, true))⟩,
    ⟨some 33, .r (.load none (.tmp 32)) [], (some (31, true))⟩,
    ⟨some 34, .p (.faddr 4 (.tmp 4)), (some (31, true))⟩,
    ⟨some 35, .r (.load none (.tmp 34)) [], (some (31, true))⟩,
    ⟨some 36, .p (.bin .neq .no false (.tmp 33) (.tmp 35)), (some (31, true))⟩,
    ⟨some 37, .p (.pick (.tmp 31) (.tmp 36) (.con (.bool false))), (some (29, false))⟩,
    ⟨some 38, .p (.pick (.tmp 29) (.con (.bool true)) (.tmp 37)), none⟩])
  (.cond (.tmp 38)
    (.seq (.region [
      ⟨some 6, .p (.move (.con (.bool false))), none⟩])
    (.ret))
    (.skip)))
  (.seq (.seq (.region [
    ⟨some 39, .p (.faddr 2 (.tmp 3)), none⟩,
    ⟨some 40, .r (.load none (.tmp 39)) [], none⟩,
    ⟨some 41, .p (.len false (.tmp 40)), none⟩,
    ⟨some 42, .p (.move (.con (.int .i64 (.ofNat 0)))), none⟩])
  (.block 0
    (.loop
      (.seq (.region [
        ⟨some 43, .p (.bin .lss .no false (.tmp 42) (.tmp 41)), none⟩])
      (.seq (.cond (.tmp 43)
        (.skip)
        (.exit 0))
      (.seq (.block 1
        (.seq (.region [
          ⟨some 44, .p (.move (.tmp 42)), none⟩,
          ⟨some 7, .p (.move (.tmp 44)), none⟩])
        (.seq (.regionD [
          ⟨some 45, .p (.faddr 2 (.tmp 3)), none⟩,
          ⟨some 46, .r (.load none (.tmp 45)) [], none⟩,
          ⟨some 47, .p (.move (.tmp 7)), none⟩,
          ⟨some 48, .p (.iaddr 5 (.tmp 46) (.tmp 47)), none⟩,
          ⟨some 49, .r (.load (some 5) (.tmp 48)) [], none⟩,
          ⟨some 50, .p (.faddr 2 (.tmp 4)), none⟩,
          ⟨some 51, .r (.load none (.tmp 50)) [], none⟩,
          ⟨some 52, .p (.move (.tmp 7)), none⟩,
          ⟨some 53, .p (.iaddr 5 (.tmp 51) (.tmp 52)), none⟩,
          ⟨some 54, .r (.load (some 5) (.tmp 53)) [], none⟩,
          ⟨some 55, .p (.move (.tmp 2)), none⟩,
          ⟨some 56, .call 52 [(.tmp 49), (.tmp 54), (.tmp 55)], none⟩,
          ⟨some 57, .p (.un .not (.tmp 56)), none⟩])
        (.cond (.tmp 57)
          (.seq (.region [
            ⟨some 6, .p (.move (.con (.bool false))), none⟩])
          (.ret))
          (.skip)))))
      (.region [
        ⟨some 58, .p (.bin .add .no false (.tmp 42) (.con (.int .i64 (.ofNat 1)))), none⟩,
        ⟨some 42, .p (.move (.tmp 58)), none⟩])))))))
  (.seq (.region [
    ⟨some 59, .p (.faddr 3 (.tmp 3)), none⟩,
    ⟨some 60, .r (.load none (.tmp 59)) [], none⟩,
    ⟨some 61, .p (.faddr 3 (.tmp 4)), none⟩,
    ⟨some 62, .r (.load none (.tmp 61)) [], none⟩,
    ⟨some 63, .p (.move (.tmp 2)), none⟩,
    ⟨some 64, .call 96 [(.tmp 60), (.tmp 62), (.tmp 63)], none⟩,
    ⟨some 6, .p (.move (.tmp 64)), none⟩])
  (.ret)))),
  [.tmp 6], false⟩
theorem c52_eq : cfn Tryz.prog cfg 52 = some c52 := by kernel_rfl

/-- rubric/types.five -/
def c53 : AFn := ⟨
  .seq (.region [
    ⟨some 0, .p (.move (.con .nils)), none⟩])
  (.seq (.region [
    ⟨some 1, .p (.buildSl 1 5 [(.str [])] [(0, 1, (.con (.str [73, 110, 116]))), (1, 1, (.con (.str [70, 108, 111, 97, 116]))), (2, 1, (.con (.str [83, 116, 114, 105, 110, 103]))), (3, 1, (.con (.str [66, 111, 111, 108, 101, 97, 110]))), (4, 1, (.con (.str [73, 68])))]), none⟩,
    ⟨some 0, .p (.move (.tmp 1)), none⟩])
  (.ret)),
  [.tmp 0], false⟩
theorem c53_eq : cfn Tryz.prog cfg 53 = some c53 := by kernel_rfl

/-- rubric/types.own -/
def c54 : AFn := ⟨
  .seq (.region [
    ⟨some 1, .w (.box 7 (.tmp 0)), none⟩,
    ⟨some 2, .w (.new [(.int .i64 (.ofNat 0)), (.str []), .nils, .nils, .nils, .nils, (.int .i64 (.ofNat 0))]), none⟩])
  (.seq (.regionD [
    ⟨some 4, .p (.faddr 2 (.tmp 1)), none⟩,
    ⟨some 5, .r (.load none (.tmp 4)) [], none⟩,
    ⟨some 6, .call 97 [(.tmp 5)], none⟩,
    ⟨some 7, .p (.faddr 4 (.tmp 1)), none⟩,
    ⟨some 8, .r (.load none (.tmp 7)) [0, 3], none⟩,
    ⟨some 9, .call 97 [(.tmp 8)], none⟩,
    ⟨some 10, .p (.faddr 2 (.tmp 1)), none⟩,
    ⟨none, .w (.store 1 (.tmp 10) (.tmp 6)), none⟩,
    ⟨some 11, .p (.faddr 4 (.tmp 1)), none⟩,
    ⟨none, .w (.store 1 (.tmp 11) (.tmp 9)), none⟩])
  (.seq (.region [
    ⟨some 12, .p (.faddr 5 (.tmp 1)), none⟩,
    ⟨some 13, .r (.load none (.tmp 12)) [], none⟩,
    ⟨some 14, .call 47 [(.tmp 13)], none⟩,
    ⟨some 15, .p (.faddr 5 (.tmp 1)), none⟩,
    ⟨none, .w (.store 1 (.tmp 15) (.tmp 14)), none⟩])
  (.seq (.region [
    ⟨some 16, .p (.faddr 3 (.tmp 1)), none⟩,
    ⟨some 17, .r (.load none (.tmp 16)) [], none⟩,
    ⟨some 18, .call 98 [(.tmp 17)], none⟩,
    ⟨some 19, .p (.faddr 3 (.tmp 1)), none⟩,
    ⟨none, .w (.store 1 (.tmp 19) (.tmp 18)), none⟩])
  (.seq (.seq (.region [
    ⟨some 20, .p (.faddr 3 (.tmp 1)), none⟩,
    ⟨some 21, .r (.load none (.tmp 20)) [], none⟩,
    ⟨some 22, .p (.len false (.tmp 21)), none⟩,
    ⟨some 23, .p (.move (.con (.int .i64 (.ofNat 0)))), none⟩])
  (.block 0
    (.loop
      (.seq (.region [
        ⟨some 24, .p (.bin .lss .no false (.tmp 23) (.tmp 22)), none⟩])
      (.seq (.cond (.tmp 24)
        (.skip)
        (.exit 0))
      (.seq (.block 1
        (.seq (.region [
          ⟨some 25, .p (.move (.tmp 23)), none⟩,
          ⟨some 3, .p (.move (.tmp 25)), none⟩])
        (.regionD [
          ⟨some 26, .p (.faddr 3 (.tmp 1)), none⟩,
          ⟨some 27, .r (.load none (.tmp 26)) [0, 10], none⟩,
          ⟨some 28, .p (.move (.tmp 3)), none⟩,
          ⟨some 29, .p (.faddr 3 (.tmp 1)), none⟩,
          ⟨some 30, .r (.load none (.tmp 29)) [], none⟩,
          ⟨some 31, .p (.move (.tmp 3)), none⟩,
          ⟨some 32, .p (.iaddr 4 (.tmp 30) (.tmp 31)), none⟩,
          ⟨some 33, .p (.faddr 1 (.tmp 32)), none⟩,
          ⟨some 34, .r (.load none (.tmp 33)) [], none⟩,
          ⟨some 35, .call 47 [(.tmp 34)], none⟩,
          ⟨some 36, .p (.iaddr 4 (.tmp 27) (.tmp 28)), none⟩,
          ⟨some 37, .p (.faddr 1 (.tmp 36)), none⟩,
          ⟨none, .w (.store 1 (.tmp 37) (.tmp 35)), none⟩])))
      (.region [
        ⟨some 38, .p (.bin .add .no false (.tmp 23) (.con (.int .i64 (.ofNat 1)))), none⟩,
        ⟨some 23, .p (.move (.tmp 38)), none⟩])))))))
  (.seq (.region [
    ⟨some 39, .r (.load (some 7) (.tmp 1)) [], none⟩,
    ⟨none, .w (.store 7 (.tmp 2) (.tmp 39)), none⟩])
  (.ret)))))),
  [.cell 2 (some 7)], false⟩
theorem c54_eq : cfn Tryz.prog cfg 54 = some c54 := by kernel_rfl

/-- slices.IndexFunc[[]rubric/api.TypeDef,rubric/api.TypeDef] -/
def c55 : AFn := ⟨
  .seq (.region [
    ⟨some 4, .p (.move (.con (.int .i64 (.ofNat 0)))), none⟩])
  (.seq (.seq (.region [
    ⟨some 6, .p (.move (.tmp 0)), none⟩,
    ⟨some 7, .p (.len false (.tmp 6)), none⟩,
    ⟨some 8, .p (.move (.con (.int .i64 (.ofNat 0)))), none⟩])
  (.block 0
    (.loop
      (.seq (.region [
        ⟨some 9, .p (.bin .lss .no false (.tmp 8) (.tmp 7)), none⟩])
      (.seq (.cond (.tmp 9)
        (.skip)
        (.exit 0))
      (.seq (.block 1
        (.seq (.region [
          ⟨some 10, .p (.move (.tmp 8)), none⟩,
          ⟨some 5, .p (.move (.tmp 10)), none⟩])
        (.seq (.region [
          ⟨some 11, .p (.move (.tmp 1)), none⟩,
          ⟨some 12, .p (.move (.tmp 0)), none⟩,
          ⟨some 13, .p (.move (.tmp 5)), none⟩,
          ⟨some 14, .p (.iaddr 7 (.tmp 12) (.tmp 13)), none⟩,
          ⟨some 15, .r (.load (some 7) (.tmp 14)) [], none⟩,
          ⟨some 16, .callv (.tmp 11) [(.tmp 15)], none⟩])
        (.cond (.tmp 16)
          (.seq (.region [
            ⟨some 17, .p (.move (.tmp 5)), none⟩,
            ⟨some 4, .p (.move (.tmp 17)), none⟩])
          (.ret))
          (.skip)))))
      (.region [
        ⟨some 18, .p (.bin .add .no false (.tmp 8) (.con (.int .i64 (.ofNat 1)))), none⟩,
        ⟨some 8, .p (.move (.tmp 18)), none⟩])))))))
  (.seq (.region [
    ⟨some 4, .p (.move (.con (.int .i64 (.negSucc 0)))), none⟩])
  (.ret))),
  [.tmp 4], false⟩
theorem c55_eq : cfn Tryz.prog cfg 55 = some c55 := by kernel_rfl

/-- rubric/schema.own -/
def c56 : AFn := ⟨
  .seq (.region [
    ⟨some 2, .p (.move (.con (.bool false))), none⟩])
  (.seq (.region [
    ⟨some 3, .p (.move (.tmp 0)), none⟩,
    ⟨some 4, .call 99 [(.tmp 3), (.con (.str [95, 95]))], none⟩,
    ⟨some 5, .p (.un .not (.tmp 4)), none⟩,
    ⟨some 2, .p (.move (.tmp 5)), none⟩])
  (.ret)),
  [.tmp 2], false⟩
theorem c56_eq : cfn Tryz.prog cfg 56 = some c56 := by kernel_rfl

/-- rubric/schema.once -/
def c57 : AFn := ⟨
  .seq (.region [
    ⟨some 2, .p (.move (.con (.bool false))), none⟩])
  (.seq (.region [
    ⟨some 4, .p (.move (.tmp 0)), none⟩,
    ⟨some 5, .call 97 [(.tmp 4)], none⟩,
    ⟨some 3, .p (.move (.tmp 5)), none⟩])
  (.seq (.region [
    ⟨some 6, .p (.move (.tmp 3)), none⟩,
    ⟨some 7, .call 41 [(.tmp 6)], none⟩])
  (.seq (.region [
    ⟨some 8, .p (.move (.tmp 3)), none⟩,
    ⟨some 9, .call 43 [(.tmp 8)], none⟩,
    ⟨some 10, .p (.len false (.tmp 9)), none⟩,
    ⟨some 11, .p (.move (.tmp 0)), none⟩,
    ⟨some 12, .p (.len false (.tmp 11)), none⟩,
    ⟨some 13, .p (.bin .eql .no false (.tmp 10) (.tmp 12)), none⟩,
    ⟨some 2, .p (.move (.tmp 13)), none⟩])
  (.ret)))),
  [.tmp 2], false⟩
theorem c57_eq : cfn Tryz.prog cfg 57 = some c57 := by kernel_rfl

/-- (*rubric/schema.checker).fields -/
def c58 : AFn := ⟨
  .seq (.region [
    ⟨some 6, .p (.move (.tmp 1)), none⟩,
    ⟨some 7, .p (.len false (.tmp 6)), none⟩,
    ⟨some 8, .p (.move (.con (.int .i64 (.ofNat 0)))), none⟩])
  (.block 0
    (.loop
      (.seq (.region [
        ⟨some 9, .p (.bin .lss .no false (.tmp 8) (.tmp 7)), none⟩])
      (.seq (.cond (.tmp 9)
        (.skip)
        (.exit 0))
      (.seq (.block 1
        (.seq (.region [
          ⟨some 10, .p (.move (.tmp 8)), none⟩,
          ⟨some 11, .p (.iaddr 4 (.tmp 6) (.tmp 8)), none⟩,
          ⟨some 12, .r (.load (some 4) (.tmp 11)) [], none⟩,
          ⟨some 5, .w (.new [(.str []), .nils, (.str []), (.int .i64 (.ofNat 0))]), none⟩,
          ⟨some 4, .p (.move (.tmp 10)), none⟩,
          ⟨none, .w (.store 4 (.tmp 5) (.tmp 12)), none⟩])
        (.seq (.regionD [
          ⟨some 13, .p (.move (.tmp 0)), none⟩,
          ⟨some 14, .p (.faddr 0 (.tmp 5)), none⟩,
          ⟨some 15, .r (.load none (.tmp 14)) [], none⟩,
          ⟨some 16, .call 56 [(.tmp 15)], none⟩,
          ⟨some 17, .p (.faddr 3 (.tmp 5)), none⟩,
          ⟨some 18, .r (.load none (.tmp 17)) [0, 4], none⟩,
          ⟨some 19, .call 28 [(.tmp 13), (.tmp 16), (.con (.int .i64 (.ofNat 142))), (.tmp 18)], none⟩])
        (.seq (.regionD [
          ⟨some 20, .p (.move (.tmp 0)), none⟩,
          ⟨some 21, .p (.move (.tmp 1)), none⟩,
          ⟨some 22, .p (.move (.tmp 4)), none⟩,
          ⟨some 23, .p (.sliceL 4 (.tmp 21) none (some (.tmp 22)) none), none⟩,
          ⟨some 24, .p (.mkfn 101 [] [(.tmp 5)]), none⟩,
          ⟨some 25, .call 100 [(.tmp 23), (.tmp 24)], none⟩,
          ⟨some 26, .p (.un .not (.tmp 25)), none⟩,
          ⟨some 27, .p (.faddr 3 (.tmp 5)), none⟩,
          ⟨some 28, .r (.load none (.tmp 27)) [0, 6], none⟩,
          ⟨some 29, .call 28 [(.tmp 20), (.tmp 26), (.con (.int .i64 (.ofNat 144))), (.tmp 28)], none⟩])
        (.seq (.regionD [
          ⟨some 30, .p (.move (.tmp 0)), none⟩,
          ⟨some 31, .p (.move (.tmp 0)), none⟩,
          ⟨some 32, .p (.nilck (.tmp 31)), none⟩,
          ⟨some 33, .p (.faddr 0 (.tmp 32)), none⟩,
          ⟨some 34, .r (.load none (.tmp 33)) [], none⟩,
          ⟨some 35, .p (.faddr 2 (.tmp 5)), none⟩,
          ⟨some 36, .r (.load none (.tmp 35)) [], none⟩,
          ⟨some 37, .call 18 [(.tmp 34), (.tmp 36)], none⟩,
          ⟨some 38, .p (.faddr 3 (.tmp 5)), none⟩,
          ⟨some 39, .r (.load none (.tmp 38)) [0, 8], none⟩,
          ⟨some 40, .call 28 [(.tmp 30), (.tmp 37), (.con (.int .i64 (.ofNat 145))), (.tmp 39)], none⟩])
        (.region [
          ⟨some 41, .p (.move (.tmp 0)), none⟩,
          ⟨some 42, .p (.faddr 1 (.tmp 5)), none⟩,
          ⟨some 43, .r (.load none (.tmp 42)) [], none⟩,
          ⟨some 44, .call 60 [(.tmp 41), (.tmp 43)], none⟩]))))))
      (.region [
        ⟨some 45, .p (.bin .add .no false (.tmp 8) (.con (.int .i64 (.ofNat 1)))), none⟩,
        ⟨some 8, .p (.move (.tmp 45)), none⟩])))))),
  [], false⟩
theorem c58_eq : cfn Tryz.prog cfg 58 = some c58 := by kernel_rfl

/-- (*rubric/schema.checker).implements -/
def c59 : AFn := ⟨
  .seq (.region [
    ⟨some 3, .w (.box 7 (.tmp 1)), none⟩])
  (.seq (.region [
    ⟨some 16, .p (.faddr 2 (.tmp 3)), none⟩,
    ⟨some 17, .r (.load none (.tmp 16)) [], none⟩,
    ⟨some 18, .p (.len false (.tmp 17)), none⟩,
    ⟨some 19, .p (.move (.con (.int .i64 (.ofNat 0)))), none⟩])
  (.block 0
    (.loop
      (.seq (.region [
        ⟨some 20, .p (.bin .lss .no false (.tmp 19) (.tmp 18)), none⟩])
      (.seq (.cond (.tmp 20)
        (.skip)
        (.exit 0))
      (.seq (.block 1
        (.seq (.region [
          ⟨some 21, .p (.iaddr 1 (.tmp 17) (.tmp 19)), none⟩,
          ⟨some 22, .r (.load none (.tmp 21)) [], none⟩,
          ⟨some 5, .p (.move (.tmp 22)), none⟩])
        (.seq (.region [
          ⟨some 24, .p (.move (.tmp 0)), none⟩,
          ⟨some 25, .p (.nilck (.tmp 24)), none⟩,
          ⟨some 26, .p (.faddr 0 (.tmp 25)), none⟩,
          ⟨some 27, .r (.load none (.tmp 26)) [], none⟩,
          ⟨some 28, .p (.move (.tmp 5)), none⟩,
          ⟨some 29, .call 29 [(.tmp 27), (.tmp 28)], none⟩,
          ⟨some 23, .p (.move (.tmp 29)), none⟩,
          ⟨some 30, .p (.extract (.tmp 23) 0), none⟩,
          ⟨some 31, .p (.extract (.tmp 23) 1), none⟩,
          ⟨some 6, .w (.new [(.int .i64 (.ofNat 0)), (.str []), .nils, .nils, .nils, .nils, (.int .i64 (.ofNat 0))]), none⟩,
          ⟨none, .w (.store 7 (.tmp 6) (.tmp 30)), none⟩,
          ⟨some 7, .p (.move (.tmp 31)), none⟩])
        (.seq (.region [
          ⟨some 32, .p (.move (.tmp 7)), none⟩,
          ⟨some 33, .p (.move (.tmp 32)), none⟩,
          ⟨some 34, .p (.faddr 0 (.tmp 6)), (some (33, true))⟩,
          ⟨some 35, .r (.load none (.tmp 34)) [], (some (33, true))⟩,
          ⟨some 36, .p (.bin .eql .no true (.tmp 35) (.con (.int .i64 (.ofNat 3)))), (some (33, true))⟩,
          ⟨some 37, .p (.pick (.tmp 33) (.tmp 36) (.con (.bool false))), none⟩,
          ⟨some 7, .p (.move (.tmp 37)), none⟩])
        (.seq (.region [
          ⟨some 38, .p (.move (.tmp 0)), none⟩,
          ⟨some 39, .p (.move (.tmp 7)), none⟩,
          ⟨some 40, .p (.move (.tmp 39)), none⟩,
          ⟨some 41, .p (.move (.tmp 5)), (some (40, true))⟩,
          ⟨some 42, .p (.faddr 1 (.tmp 3)), (some (40, true))⟩,
          ⟨some 43, .r (.load none (.tmp 42)) [], (some (40, true))⟩,
          ⟨some 44, .p (.bin .neq .no false (.tmp 41) (.tmp 43)), (some (40, true))⟩,
          ⟨some 45, .p (.pick (.tmp 40) (.tmp 44) (.con (.bool false))), none⟩,
          ⟨some 46, .p (.faddr 6 (.tmp 3)), none⟩,
          ⟨some 47, .r (.load none (.tmp 46)) [], none⟩,
          ⟨some 48, .call 28 [(.tmp 38), (.tmp 45), (.con (.int .i64 (.ofNat 146))), (.tmp 47)], none⟩])
        (.seq (.seq (.region [
          ⟨some 49, .p (.move (.tmp 7)), none⟩,
          ⟨some 50, .p (.un .not (.tmp 49)), none⟩])
        (.cond (.tmp 50)
          (.exit 1)
          (.skip)))
        (.seq (.seq (.region [
          ⟨some 51, .p (.faddr 3 (.tmp 6)), none⟩,
          ⟨some 52, .r (.load none (.tmp 51)) [], none⟩,
          ⟨some 53, .p (.len false (.tmp 52)), none⟩,
          ⟨some 54, .p (.move (.con (.int .i64 (.ofNat 0)))), none⟩])
        (.block 2
          (.loop
            (.seq (.region [
              ⟨some 55, .p (.bin .lss .no false (.tmp 54) (.tmp 53)), none⟩])
            (.seq (.cond (.tmp 55)
              (.skip)
              (.exit 2))
            (.seq (.block 3
              (.seq (.region [
                ⟨some 56, .p (.iaddr 4 (.tmp 52) (.tmp 54)), none⟩,
                ⟨some 57, .r (.load (some 4) (.tmp 56)) [], none⟩,
                ⟨some 9, .w (.new [(.str []), .nils, (.str []), (.int .i64 (.ofNat 0))]), none⟩,
                ⟨none, .w (.store 4 (.tmp 9) (.tmp 57)), none⟩])
              (.seq (.region [
                ⟨some 59, .p (.faddr 3 (.tmp 6)), none⟩,
                ⟨some 60, .r (.load none (.tmp 59)) [], none⟩,
                ⟨some 61, .p (.faddr 0 (.tmp 9)), none⟩,
                ⟨some 62, .r (.load none (.tmp 61)) [], none⟩,
                ⟨some 63, .call 102 [(.tmp 60), (.tmp 62)], none⟩,
                ⟨some 58, .p (.move (.tmp 63)), none⟩,
                ⟨some 64, .p (.extract (.tmp 58) 0), none⟩,
                ⟨some 65, .p (.extract (.tmp 58) 1), none⟩,
                ⟨some 10, .w (.new [(.str []), .nils, (.str []), (.int .i64 (.ofNat 0))]), none⟩,
                ⟨none, .w (.store 4 (.tmp 10) (.tmp 64)), none⟩,
                ⟨some 11, .p (.move (.tmp 65)), none⟩])
              (.seq (.region [
                ⟨some 67, .p (.faddr 3 (.tmp 3)), none⟩,
                ⟨some 68, .r (.load none (.tmp 67)) [], none⟩,
                ⟨some 69, .p (.faddr 0 (.tmp 9)), none⟩,
                ⟨some 70, .r (.load none (.tmp 69)) [], none⟩,
                ⟨some 71, .call 102 [(.tmp 68), (.tmp 70)], none⟩,
                ⟨some 66, .p (.move (.tmp 71)), none⟩,
                ⟨some 72, .p (.extract (.tmp 66) 0), none⟩,
                ⟨some 73, .p (.extract (.tmp 66) 1), none⟩,
                ⟨some 12, .w (.new [(.str []), .nils, (.str []), (.int .i64 (.ofNat 0))]), none⟩,
                ⟨none, .w (.store 4 (.tmp 12) (.tmp 72)), none⟩,
                ⟨some 13, .p (.move (.tmp 73)), none⟩])
              (.regionD [
                ⟨some 74, .p (.move (.tmp 0)), none⟩,
                ⟨some 75, .p (.move (.tmp 13)), none⟩,
                ⟨some 76, .p (.move (.tmp 75)), none⟩,
                ⟨some 77, .p (.move (.tmp 0)), (some (76, true))⟩,
                ⟨some 78, .r (.load (some 4) (.tmp 12)) [], (some (76, true))⟩,
                ⟨some 79, .r (.load (some 4) (.tmp 10)) [], (some (76, true))⟩,
                ⟨some 80, .call 103 [(.tmp 77), (.tmp 78), (.tmp 79)], (some (76, true))⟩,
                ⟨some 81, .p (.pick (.tmp 76) (.tmp 80) (.con (.bool false))), none⟩,
                ⟨some 82, .p (.faddr 6 (.tmp 3)), none⟩,
                ⟨some 83, .r (.load none (.tmp 82)) [0, 7], none⟩,
                ⟨some 84, .call 28 [(.tmp 74), (.tmp 81), (.con (.int .i64 (.ofNat 147))), (.tmp 83)], none⟩])))))
            (.region [
              ⟨some 85, .p (.bin .add .no false (.tmp 54) (.con (.int .i64 (.ofNat 1)))), none⟩,
              ⟨some 54, .p (.move (.tmp 85)), none⟩])))))))
        (.seq (.region [
          ⟨some 86, .p (.faddr 2 (.tmp 6)), none⟩,
          ⟨some 87, .r (.load none (.tmp 86)) [], none⟩,
          ⟨some 88, .p (.len false (.tmp 87)), none⟩,
          ⟨some 89, .p (.move (.con (.int .i64 (.ofNat 0)))), none⟩])
        (.block 4
          (.loop
            (.seq (.region [
              ⟨some 90, .p (.bin .lss .no false (.tmp 89) (.tmp 88)), none⟩])
            (.seq (.cond (.tmp 90)
              (.skip)
              (.exit 4))
            (.seq (.block 5
              (.seq (.region [
                ⟨some 91, .p (.iaddr 1 (.tmp 87) (.tmp 89)), none⟩,
                ⟨some 92, .r (.load none (.tmp 91)) [], none⟩,
                ⟨some 15, .p (.move (.tmp 92)), none⟩])
              (.regionD [
                ⟨some 93, .p (.move (.tmp 0)), none⟩,
                ⟨some 94, .p (.move (.tmp 0)), none⟩,
                ⟨some 95, .p (.nilck (.tmp 94)), none⟩,
                ⟨some 96, .p (.faddr 0 (.tmp 95)), none⟩,
                ⟨some 97, .r (.load none (.tmp 96)) [], none⟩,
                ⟨some 98, .p (.move (.tmp 15)), none⟩,
                ⟨some 99, .call 17 [(.tmp 97), (.tmp 98)], none⟩,
                ⟨some 100, .p (.bin .neq .no true (.tmp 99) (.con (.int .i64 (.ofNat 3)))), none⟩,
                ⟨some 101, .p (.move (.tmp 100)), none⟩,
                ⟨some 102, .p (.faddr 2 (.tmp 3)), (some (101, false))⟩,
                ⟨some 103, .r (.load none (.tmp 102)) [], (some (101, false))⟩,
                ⟨some 104, .p (.move (.tmp 15)), (some (101, false))⟩,
                ⟨some 105, .call 40 [(.tmp 103), (.tmp 104)], (some (101, false))⟩,
                ⟨some 106, .p (.pick (.tmp 101) (.con (.bool true)) (.tmp 105)), none⟩,
                ⟨some 107, .p (.faddr 6 (.tmp 3)), none⟩,
                ⟨some 108, .r (.load none (.tmp 107)) [0, 7, 13], none⟩,
                ⟨some 109, .call 28 [(.tmp 93), (.tmp 106), (.con (.int .i64 (.ofNat 148))), (.tmp 108)], none⟩])))
            (.region [
              ⟨some 110, .p (.bin .add .no false (.tmp 89) (.con (.int .i64 (.ofNat 1)))), none⟩,
              ⟨some 89, .p (.move (.tmp 110)), none⟩]))))))))))))))
      (.region [
        ⟨some 111, .p (.bin .add .no false (.tmp 19) (.con (.int .i64 (.ofNat 1)))), none⟩,
        ⟨some 19, .p (.move (.tmp 111)), none⟩]))))))),
  [], false⟩
theorem c59_eq : cfn Tryz.prog cfg 59 = some c59 := by kernel_rfl

/-- (*rubric/schema.checker).inputs -/
def c60 : AFn := ⟨
  .seq (.region [
    ⟨some 6, .p (.move (.tmp 1)), none⟩,
    ⟨some 7, .p (.len false (.tmp 6)), none⟩,
    ⟨some 8, .p (.move (.con (.int .i64 (.ofNat 0)))), none⟩])
  (.block 0
    (.loop
      (.seq (.region [
        ⟨some 9, .p (.bin .lss .no false (.tmp 8) (.tmp 7)), none⟩])
      (.seq (.cond (.tmp 9)
        (.skip)
        (.exit 0))
      (.seq (.block 1
        (.seq (.region [
          ⟨some 10, .p (.move (.tmp 8)), none⟩,
          ⟨some 11, .p (.iaddr 9 (.tmp 6) (.tmp 8)), none⟩,
          ⟨some 12, .r (.load (some 9) (.tmp 11)) [], none⟩,
          ⟨some 5, .w (.new [(.str []), (.str []), (.bool false), (.int .i64 (.ofNat 0)), (.str []), .nils, .nils, (.int .i64 (.ofNat 0)), (.int .i64 (.ofNat 0))]), none⟩,
          ⟨some 4, .p (.move (.tmp 10)), none⟩,
          ⟨none, .w (.store 9 (.tmp 5) (.tmp 12)), none⟩])
        (.seq (.regionD [
          ⟨some 13, .p (.move (.tmp 0)), none⟩,
          ⟨some 14, .p (.faddr 0 (.tmp 5)), none⟩,
          ⟨some 15, .r (.load none (.tmp 14)) [], none⟩,
          ⟨some 16, .call 56 [(.tmp 15)], none⟩,
          ⟨some 17, .p (.faddr 8 (.tmp 5)), none⟩,
          ⟨some 18, .r (.load none (.tmp 17)) [0, 4], none⟩,
          ⟨some 19, .call 28 [(.tmp 13), (.tmp 16), (.con (.int .i64 (.ofNat 142))), (.tmp 18)], none⟩])
        (.seq (.regionD [
          ⟨some 20, .p (.move (.tmp 0)), none⟩,
          ⟨some 21, .p (.move (.tmp 1)), none⟩,
          ⟨some 22, .p (.move (.tmp 4)), none⟩,
          ⟨some 23, .p (.sliceL 9 (.tmp 21) none (some (.tmp 22)) none), none⟩,
          ⟨some 24, .p (.mkfn 105 [] [(.tmp 5)]), none⟩,
          ⟨some 25, .call 104 [(.tmp 23), (.tmp 24)], none⟩,
          ⟨some 26, .p (.un .not (.tmp 25)), none⟩,
          ⟨some 27, .p (.faddr 8 (.tmp 5)), none⟩,
          ⟨some 28, .r (.load none (.tmp 27)) [0, 6], none⟩,
          ⟨some 29, .call 28 [(.tmp 20), (.tmp 26), (.con (.int .i64 (.ofNat 144))), (.tmp 28)], none⟩])
        (.seq (.regionD [
          ⟨some 30, .p (.move (.tmp 0)), none⟩,
          ⟨some 31, .p (.move (.tmp 0)), none⟩,
          ⟨some 32, .p (.nilck (.tmp 31)), none⟩,
          ⟨some 33, .p (.faddr 0 (.tmp 32)), none⟩,
          ⟨some 34, .r (.load none (.tmp 33)) [], none⟩,
          ⟨some 35, .p (.faddr 1 (.tmp 5)), none⟩,
          ⟨some 36, .r (.load none (.tmp 35)) [], none⟩,
          ⟨some 37, .call 16 [(.tmp 34), (.tmp 36)], none⟩,
          ⟨some 38, .p (.faddr 8 (.tmp 5)), none⟩,
          ⟨some 39, .r (.load none (.tmp 38)) [0, 8], none⟩,
          ⟨some 40, .call 28 [(.tmp 30), (.tmp 37), (.con (.int .i64 (.ofNat 145))), (.tmp 39)], none⟩])
        (.regionD [
          ⟨some 41, .p (.move (.tmp 0)), none⟩,
          ⟨some 42, .p (.faddr 2 (.tmp 5)), none⟩,
          ⟨some 43, .r (.load none (.tmp 42)) [], none⟩,
          ⟨some 44, .p (.un .not (.tmp 43)), none⟩,
          ⟨some 45, .p (.move (.tmp 44)), none⟩,
          ⟨some 46, .p (.move (.tmp 0)), (some (45, false))⟩,
          ⟨some 47, .p (.nilck (.tmp 46)), (some (45, false))⟩,
          ⟨some 48, .p (.faddr 0 (.tmp 47)), (some (45, false))⟩,
          ⟨some 49, .r (.load none (.tmp 48)) [], (some (45, false))⟩,
          ⟨some 50, .p (.faddr 1 (.tmp 5)), (some (45, false))⟩,
          ⟨some 51, .r (.load none (.tmp 50)) [], (some (45, false))⟩,
          ⟨some 52, .p (.faddr 3 (.tmp 5)), (some (45, false))⟩,
          ⟨some 53, .r (.load (some 5) (.tmp 52)) [], (some (45, false))⟩,
          ⟨some 54, .call 106 [(.tmp 49), (.tmp 51), (.tmp 53)], (some (45, false))⟩,
          ⟨some 55, .p (.pick (.tmp 45) (.con (.bool true)) (.tmp 54)), none⟩,
          ⟨some 56, .p (.faddr 8 (.tmp 5)), none⟩,
          ⟨some 57, .r (.load none (.tmp 56)) [0, 14], none⟩,
          ⟨some 58, .call 28 [(.tmp 41), (.tmp 55), (.con (.int .i64 (.ofNat 150))), (.tmp 57)], none⟩]))))))
      (.region [
        ⟨some 59, .p (.bin .add .no false (.tmp 8) (.con (.int .i64 (.ofNat 1)))), none⟩,
        ⟨some 8, .p (.move (.tmp 59)), none⟩])))))),
  [], false⟩
theorem c60_eq : cfn Tryz.prog cfg 60 = some c60 := by kernel_rfl

/-- slices.Concat[[]rubric/api.Problem,rubric/api.Problem] -/
def c61 : AFn := ⟨
  .seq (.region [
    ⟨some 2, .p (.move (.con .nils)), none⟩])
  (.seq (.region [
    ⟨some 3, .p (.move (.con (.int .i64 (.ofNat 0)))), none⟩])
  (.seq (.seq (.region [
    ⟨some 9, .p (.move (.tmp 0)), none⟩,
    ⟨some 10, .p (.len false (.tmp 9)), none⟩,
    ⟨some 11, .p (.move (.con (.int .i64 (.ofNat 0)))), none⟩])
  (.block 0
    (.loop
      (.seq (.region [
        ⟨some 12, .p (.bin .lss .no false (.tmp 11) (.tmp 10)), none⟩])
      (.seq (.cond (.tmp 12)
        (.skip)
        (.exit 0))
      (.seq (.block 1
        (.seq (.region [
          ⟨some 13, .p (.iaddr 1 (.tmp 9) (.tmp 11)), none⟩,
          ⟨some 14, .r (.load none (.tmp 13)) [], none⟩,
          ⟨some 5, .p (.move (.tmp 14)), none⟩])
        (.seq (.region [
          ⟨some 15, .p (.move (.tmp 3)), none⟩,
          ⟨some 16, .p (.move (.tmp 5)), none⟩,
          ⟨some 17, .p (.len false (.tmp 16)), none⟩,
          ⟨some 18, .p (.bin .add .no false (.tmp 15) (.tmp 17)), none⟩,
          ⟨some 3, .p (.move (.tmp 18)), none⟩])
        (.seq (.region [
          ⟨some 19, .p (.move (.tmp 3)), none⟩,
          ⟨some 20, .p (.bin .lss .no false (.tmp 19) (.con (.int .i64 (.ofNat 0)))), none⟩])
        (.cond (.tmp 20)
          (.region [
            ⟨some 21, .p (.mkif 9 (.con (.str [108, 101, 110, 32, 111, 117, 116, 32, 111, 102, 32, 114, 97, 110, 103, 101]))), none⟩,
            ⟨none, .fail, none⟩])
          (.skip))))))
      (.region [
        ⟨some 22, .p (.bin .add .no false (.tmp 11) (.con (.int .i64 (.ofNat 1)))), none⟩,
        ⟨some 11, .p (.move (.tmp 22)), none⟩])))))))
  (.seq (.region [
    ⟨some 23, .p (.move (.tmp 3)), none⟩,
    ⟨some 24, .call 107 [(.con .nils), (.tmp 23)], none⟩,
    ⟨some 6, .p (.move (.tmp 24)), none⟩])
  (.seq (.seq (.region [
    ⟨some 25, .p (.move (.tmp 0)), none⟩,
    ⟨some 26, .p (.len false (.tmp 25)), none⟩,
    ⟨some 27, .p (.move (.con (.int .i64 (.ofNat 0)))), none⟩])
  (.block 2
    (.loop
      (.seq (.region [
        ⟨some 28, .p (.bin .lss .no false (.tmp 27) (.tmp 26)), none⟩])
      (.seq (.cond (.tmp 28)
        (.skip)
        (.exit 2))
      (.seq (.block 3
        (.seq (.region [
          ⟨some 29, .p (.iaddr 1 (.tmp 25) (.tmp 27)), none⟩,
          ⟨some 30, .r (.load none (.tmp 29)) [], none⟩,
          ⟨some 8, .p (.move (.tmp 30)), none⟩])
        (.region [
          ⟨some 31, .p (.move (.tmp 6)), none⟩,
          ⟨some 32, .p (.move (.tmp 8)), none⟩,
          ⟨some 33, .w (.append false 2 16 (.tmp 31) (.tmp 32)), none⟩,
          ⟨some 6, .p (.move (.tmp 33)), none⟩])))
      (.region [
        ⟨some 34, .p (.bin .add .no false (.tmp 27) (.con (.int .i64 (.ofNat 1)))), none⟩,
        ⟨some 27, .p (.move (.tmp 34)), none⟩])))))))
  (.seq (.region [
    ⟨some 35, .p (.move (.tmp 6)), none⟩,
    ⟨some 2, .p (.move (.tmp 35)), none⟩])
  (.ret)))))),
  [.tmp 2], false⟩
theorem c61_eq : cfn Tryz.prog cfg 61 = some c61 := by kernel_rfl

/-- slices.SortFunc[[]rubric/api.Problem,rubric/api.Problem] -/
def c62 : AFn := ⟨
  .seq (.region [
    ⟨some 5, .p (.move (.tmp 0)), none⟩,
    ⟨some 6, .p (.len false (.tmp 5)), none⟩,
    ⟨some 4, .p (.move (.tmp 6)), none⟩])
  (.region [
    ⟨some 7, .p (.move (.tmp 0)), none⟩,
    ⟨some 8, .p (.move (.tmp 4)), none⟩,
    ⟨some 9, .p (.move (.tmp 4)), none⟩,
    ⟨some 10, .p (.conv (.int .u64) (.tmp 9)), none⟩,
    ⟨some 11, .call 88 [(.tmp 10)], none⟩,
    ⟨some 12, .p (.move (.tmp 1)), none⟩,
    ⟨some 13, .call 108 [(.tmp 7), (.con (.int .i64 (.ofNat 0))), (.tmp 8), (.tmp 11), (.tmp 12)], none⟩]),
  [], false⟩
theorem c62_eq : cfn Tryz.prog cfg 62 = some c62 := by kernel_rfl

/-- slices.Clip[[]rubric/api.Problem,rubric/api.Problem] -/
def c66 : AFn := ⟨
  .seq (.region [
    ⟨some 2, .p (.move (.con .nils)), none⟩])
  (.seq (.region [
    ⟨some 3, .p (.move (.tmp 0)), none⟩,
    ⟨some 4, .p (.move (.tmp 0)), none⟩,
    ⟨some 5, .p (.len false (.tmp 4)), none⟩,
    ⟨some 6, .p (.move (.tmp 0)), none⟩,
    ⟨some 7, .p (.len false (.tmp 6)), none⟩,
    ⟨some 8, .p (.sliceL 2 (.tmp 3) none (some (.tmp 5)) (some (.tmp 7))), none⟩,
    ⟨some 2, .p (.move (.tmp 8)), none⟩])
  (.ret)),
  [.tmp 2], false⟩
theorem c66_eq : cfn Tryz.prog cfg 66 = some c66 := by kernel_rfl

/-- slices.Compact[[]rubric/api.Problem,rubric/api.Problem] -/
def c67 : AFn := ⟨
  .seq (.region [
    ⟨some 2, .p (.move (.con .nils)), none⟩])
  (.seq (.seq (.region [
    ⟨some 6, .p (.move (.tmp 0)), none⟩,
    ⟨some 7, .p (.len false (.tmp 6)), none⟩,
    ⟨some 8, .p (.bin .lss .no false (.tmp 7) (.con (.int .i64 (.ofNat 2)))), none⟩])
  (.cond (.tmp 8)
    (.seq (.region [
      ⟨some 9, .p (.move (.tmp 0)), none⟩,
      ⟨some 2, .p (.move (.tmp 9)), none⟩])
    (.ret))
    (.skip)))
  (.seq (.seq (.region [
    ⟨some 3, .p (.move (.con (.int .i64 (.ofNat 1)))), none⟩])
  (.block 0
    (.loop
      (.seq (.seq (.region [
        ⟨some 10, .p (.move (.tmp 3)), none⟩,
        ⟨some 11, .p (.move (.tmp 0)), none⟩,
        ⟨some 12, .p (.len false (.tmp 11)), none⟩,
        ⟨some 13, .p (.bin .lss .no false (.tmp 10) (.tmp 12)), none⟩])
      (.cond (.tmp 13)
        (.skip)
        (.exit 0)))
      (.seq (.block 1
        (.seq (.regionD [
          ⟨some 16, .p (.move (.tmp 0)), none⟩,
          ⟨some 17, .p (.move (.tmp 3)), none⟩,
          ⟨some 18, .p (.iaddr 2 (.tmp 16) (.tmp 17)), none⟩,
          ⟨some 19, .r (.load (some 2) (.tmp 18)) [], none⟩,
          ⟨some 20, .p (.move (.tmp 0)), none⟩,
          ⟨some 21, .p (.move (.tmp 3)), none⟩,
          ⟨some 22, .p (.bin .sub .no false (.tmp 21) (.con (.int .i64 (.ofNat 1)))), none⟩,
          ⟨some 23, .p (.iaddr 2 (.tmp 20) (.tmp 22)), none⟩,
          ⟨some 24, .r (.load (some 2) (.tmp 23)) [], none⟩,
          ⟨some 25, .p (.eqA false [(.int .i64), (.int .i64)] (.tmp 19) (.tmp 24)), none⟩])
        (.cond (.tmp 25)
          (.seq (.region [
            ⟨some 26, .p (.move (.tmp 0)), none⟩,
            ⟨some 27, .p (.move (.tmp 3)), none⟩,
            ⟨some 28, .p (.sliceL 2 (.tmp 26) (some (.tmp 27)) none none), none⟩,
            ⟨some 4, .p (.move (.tmp 28)), none⟩])
          (.seq (.seq (.region [
            ⟨some 5, .p (.move (.con (.int .i64 (.ofNat 1)))), none⟩])
          (.block 2
            (.loop
              (.seq (.seq (.region [
                ⟨some 29, .p (.move (.tmp 5)), none⟩,
                ⟨some 30, .p (.move (.tmp 4)), none⟩,
                ⟨some 31, .p (.len false (.tmp 30)), none⟩,
                ⟨some 32, .p (.bin .lss .no false (.tmp 29) (.tmp 31)), none⟩])
              (.cond (.tmp 32)
                (.skip)
                (.exit 2)))
              (.seq (.block 3
                (.seq (.regionD [
                  ⟨some 35, .p (.move (.tmp 4)), none⟩,
                  ⟨some 36, .p (.move (.tmp 5)), none⟩,
                  ⟨some 37, .p (.iaddr 2 (.tmp 35) (.tmp 36)), none⟩,
                  ⟨some 38, .r (.load (some 2) (.tmp 37)) [], none⟩,
                  ⟨some 39, .p (.move (.tmp 4)), none⟩,
                  ⟨some 40, .p (.move (.tmp 5)), none⟩,
                  ⟨some 41, .p (.bin .sub .no false (.tmp 40) (.con (.int .i64 (.ofNat 1)))), none⟩,
                  ⟨some 42, .p (.iaddr 2 (.tmp 39) (.tmp 41)), none⟩,
                  ⟨some 43, .r (.load (some 2) (.tmp 42)) [], none⟩,
                  ⟨some 44, .p (.eqA true [(.int .i64), (.int .i64)] (.tmp 38) (.tmp 43)), none⟩])
                (.cond (.tmp 44)
                  (.seq (.region [
                    ⟨some 45, .p (.move (.tmp 0)), none⟩,
                    ⟨some 46, .p (.move (.tmp 3)), none⟩,
                    ⟨some 47, .p (.move (.tmp 4)), none⟩,
                    ⟨some 48, .p (.move (.tmp 5)), none⟩,
                    ⟨some 49, .p (.iaddr 2 (.tmp 47) (.tmp 48)), none⟩,
                    ⟨some 50, .r (.load (some 2) (.tmp 49)) [], none⟩,
                    ⟨some 51, .p (.iaddr 2 (.tmp 45) (.tmp 46)), none⟩,
                    ⟨none, .w (.store 2 (.tmp 51) (.tmp 50)), none⟩])
                  (.region [
                    ⟨some 52, .p (.move (.tmp 3)), none⟩,
                    ⟨some 53, .p (.bin .add .no false (.tmp 52) (.con (.int .i64 (.ofNat 1)))), none⟩,
                    ⟨some 3, .p (.move (.tmp 53)), none⟩]))
                  (.skip))))
              (.region [
                ⟨some 33, .p (.move (.tmp 5)), none⟩,
                ⟨some 34, .p (.bin .add .no false (.tmp 33) (.con (.int .i64 (.ofNat 1)))), none⟩,
                ⟨some 5, .p (.move (.tmp 34)), none⟩]))))))
          (.seq (.region [
            ⟨some 54, .p (.move (.tmp 0)), none⟩,
            ⟨some 55, .p (.move (.tmp 3)), none⟩,
            ⟨some 56, .p (.sliceL 2 (.tmp 54) (some (.tmp 55)) none none), none⟩,
            ⟨none, .fail, none⟩])
          (.seq (.region [
            ⟨some 57, .p (.move (.tmp 0)), none⟩,
            ⟨some 58, .p (.move (.tmp 3)), none⟩,
            ⟨some 59, .p (.sliceL 2 (.tmp 57) none (some (.tmp 58)) none), none⟩,
            ⟨some 2, .p (.move (.tmp 59)), none⟩])
          (.ret)))))
          (.skip))))
      (.region [
        ⟨some 14, .p (.move (.tmp 3)), none⟩,
        ⟨some 15, .p (.bin .add .no false (.tmp 14) (.con (.int .i64 (.ofNat 1)))), none⟩,
        ⟨some 3, .p (.move (.tmp 15)), none⟩]))))))
  (.seq (.region [
    ⟨some 60, .p (.move (.tmp 0)), none⟩,
    ⟨some 2, .p (.move (.tmp 60)), none⟩])
  (.ret)))),
  [.tmp 2], false⟩
theorem c67_eq : cfn Tryz.prog cfg 67 = some c67 := by kernel_rfl

/-- rubric/lex.Lex -/
def c68 : AFn := ⟨
  .seq (.region [
    ⟨some 2, .p (.move (.con .nils)), none⟩,
    ⟨some 3, .p (.move (.con (.int .i64 (.ofNat 0)))), none⟩,
    ⟨some 4, .p (.move (.con (.int .i64 (.ofNat 0)))), none⟩])
  (.seq (.seq (.region [
    ⟨some 9, .p (.move (.tmp 0)), none⟩,
    ⟨some 10, .p (.len true (.tmp 9)), none⟩,
    ⟨some 11, .p (.bin .gtr .no false (.tmp 10) (.con (.int .i64 (.ofNat 4096)))), none⟩])
  (.cond (.tmp 11)
    (.seq (.region [
      ⟨some 2, .p (.move (.con .nils)), none⟩,
      ⟨some 3, .p (.move (.con (.int .i64 (.ofNat 0)))), none⟩,
      ⟨some 4, .p (.move (.con (.int .i64 (.ofNat 5)))), none⟩])
    (.ret))
    (.skip)))
  (.seq (.region [
    ⟨some 12, .p (.move (.tmp 0)), none⟩,
    ⟨some 13, .p (.build [(.str []), (.int .i64 (.ofNat 0))] [(0, 1, (.tmp 12))]), none⟩,
    ⟨some 14, .w (.box 2 (.tmp 13)), none⟩,
    ⟨some 5, .p (.move (.tmp 14)), none⟩])
  (.seq (.region [
    ⟨some 6, .p (.move (.con .nils)), none⟩])
  (.block 0
    (.loop
      (.block 1
        (.seq (.seq (.region [
          ⟨some 15, .p (.move (.tmp 5)), none⟩,
          ⟨some 16, .call 110 [(.tmp 15)], none⟩,
          ⟨some 17, .p (.un .not (.tmp 16)), none⟩])
        (.cond (.tmp 17)
          (.seq (.regionD [
            ⟨some 18, .p (.move (.tmp 5)), none⟩,
            ⟨some 19, .p (.nilck (.tmp 18)), none⟩,
            ⟨some 20, .p (.faddr 1 (.tmp 19)), none⟩,
            ⟨some 21, .r (.load none (.tmp 20)) [], none⟩,
            ⟨some 2, .p (.move (.con .nils)), none⟩,
            ⟨some 3, .p (.move (.tmp 21)), none⟩,
            ⟨some 4, .p (.move (.con (.int .i64 (.ofNat 40)))), none⟩])
          (.ret))
          (.skip)))
        (.seq (.seq (.region [
          ⟨some 22, .p (.move (.tmp 5)), none⟩,
          ⟨some 23, .p (.nilck (.tmp 22)), none⟩,
          ⟨some 24, .p (.faddr 1 (.tmp 23)), none⟩,
          ⟨some 25, .r (.load none (.tmp 24)) [], none⟩,
          ⟨some 26, .p (.move (.tmp 0)), none⟩,
          ⟨some 27, .p (.len true (.tmp 26)), none⟩,
          ⟨some 28, .p (.bin .eql .no false (.tmp 25) (.tmp 27)), none⟩])
        (.cond (.tmp 28)
          (.seq (.region [
            ⟨some 29, .p (.move (.tmp 6)), none⟩,
            ⟨some 30, .p (.move (.tmp 5)), none⟩,
            ⟨some 31, .p (.nilck (.tmp 30)), none⟩,
            ⟨some 32, .p (.faddr 1 (.tmp 31)), none⟩,
            ⟨some 33, .r (.load none (.tmp 32)) [], none⟩,
            ⟨some 34, .p (.build [(.int .i64 (.ofNat 0)), (.str []), (.int .i64 (.ofNat 0))] [(2, 1, (.tmp 33))]), none⟩,
            ⟨some 35, .p (.buildSl 3 1 [(.int .i64 (.ofNat 0)), (.str []), (.int .i64 (.ofNat 0))] [(0, 3, (.tmp 34))]), none⟩,
            ⟨some 36, .w (.append false 3 32 (.tmp 29) (.tmp 35)), none⟩,
            ⟨some 2, .p (.move (.tmp 36)), none⟩,
            ⟨some 3, .p (.move (.con (.int .i64 (.ofNat 0)))), none⟩,
            ⟨some 4, .p (.move (.con (.int .i64 (.ofNat 0)))), none⟩])
          (.ret))
          (.skip)))
        (.seq (.region [
          ⟨some 38, .p (.move (.tmp 5)), none⟩,
          ⟨some 39, .call 111 [(.tmp 38)], none⟩,
          ⟨some 37, .p (.move (.tmp 39)), none⟩,
          ⟨some 40, .p (.extract (.tmp 37) 0), none⟩,
          ⟨some 41, .p (.extract (.tmp 37) 1), none⟩,
          ⟨some 7, .w (.new [(.int .i64 (.ofNat 0)), (.str []), (.int .i64 (.ofNat 0))]), none⟩,
          ⟨none, .w (.store 3 (.tmp 7) (.tmp 40)), none⟩,
          ⟨some 8, .p (.move (.tmp 41)), none⟩])
        (.seq (.block 2
          (.seq (.region [
            ⟨some 43, .p (.move (.tmp 8)), none⟩,
            ⟨some 44, .p (.un .not (.tmp 43)), none⟩,
            ⟨some 42, .p (.move (.tmp 44)), none⟩])
          (.cond (.tmp 42)
            (.seq (.regionD [
              ⟨some 45, .p (.faddr 2 (.tmp 7)), none⟩,
              ⟨some 46, .r (.load none (.tmp 45)) [], none⟩,
              ⟨some 2, .p (.move (.con .nils)), none⟩,
              ⟨some 3, .p (.move (.tmp 46)), none⟩,
              ⟨some 4, .p (.move (.con (.int .i64 (.ofNat 40)))), none⟩])
            (.ret))
            (.seq (.region [
              ⟨some 48, .p (.move (.tmp 6)), none⟩,
              ⟨some 49, .p (.len false (.tmp 48)), none⟩,
              ⟨some 50, .p (.bin .eql .no true (.tmp 49) (.con (.int .i64 (.ofNat 1500)))), none⟩,
              ⟨some 47, .p (.move (.tmp 50)), none⟩])
            (.cond (.tmp 47)
              (.seq (.regionD [
                ⟨some 51, .p (.faddr 2 (.tmp 7)), none⟩,
                ⟨some 52, .r (.load none (.tmp 51)) [], none⟩,
                ⟨some 2, .p (.move (.con .nils)), none⟩,
                ⟨some 3, .p (.move (.tmp 52)), none⟩,
                ⟨some 4, .p (.move (.con (.int .i64 (.ofNat 8)))), none⟩])
              (.ret))
              (.skip))))))
        (.region [
          ⟨some 53, .p (.move (.tmp 6)), none⟩,
          ⟨some 54, .r (.load (some 3) (.tmp 7)) [], none⟩,
          ⟨some 55, .p (.buildSl 3 1 [(.int .i64 (.ofNat 0)), (.str []), (.int .i64 (.ofNat 0))] [(0, 3, (.tmp 54))]), none⟩,
          ⟨some 56, .w (.append false 3 32 (.tmp 53) (.tmp 55)), none⟩,
          ⟨some 6, .p (.move (.tmp 56)), none⟩]))))))))))),
  [.tmp 2, .tmp 3, .tmp 4], false⟩
theorem c68_eq : cfn Tryz.prog cfg 68 = some c68 := by kernel_rfl

/-- (*rubric/sdl.reader).told -/
def c69 : AFn := ⟨
  .seq (.region [
    ⟨some 2, .p (.move (.tmp 0)), none⟩,
    ⟨some 3, .p (.nilck (.tmp 2)), none⟩,
    ⟨some 4, .p (.faddr 0 (.tmp 3)), none⟩,
    ⟨some 5, .call 36 [(.tmp 4)], none⟩,
    ⟨some 6, .p (.field 0 none (.tmp 5)), none⟩,
    ⟨some 7, .p (.bin .eql .no true (.tmp 6) (.con (.int .i64 (.ofNat 4)))), none⟩])
  (.cond (.tmp 7)
    (.region [
      ⟨some 8, .p (.move (.tmp 0)), none⟩,
      ⟨some 9, .p (.nilck (.tmp 8)), none⟩,
      ⟨some 10, .p (.faddr 0 (.tmp 9)), none⟩,
      ⟨some 11, .call 73 [(.tmp 10)], none⟩])
    (.skip)),
  [], false⟩
theorem c69_eq : cfn Tryz.prog cfg 69 = some c69 := by kernel_rfl

/-- (*rubric/read.Reader).Word -/
def c70 : AFn := ⟨
  .seq (.region [
    ⟨some 4, .p (.move (.con (.bool false))), none⟩])
  (.seq (.region [
    ⟨some 8, .p (.move (.tmp 0)), none⟩,
    ⟨some 9, .call 36 [(.tmp 8)], none⟩,
    ⟨some 5, .w (.new [(.int .i64 (.ofNat 0)), (.str []), (.int .i64 (.ofNat 0))]), none⟩,
    ⟨none, .w (.store 3 (.tmp 5) (.tmp 9)), none⟩])
  (.seq (.seq (.region [
    ⟨some 10, .p (.move (.tmp 0)), none⟩,
    ⟨some 11, .p (.nilck (.tmp 10)), none⟩,
    ⟨some 12, .p (.faddr 4 (.tmp 11)), none⟩,
    ⟨some 13, .r (.load none (.tmp 12)) [], none⟩,
    ⟨some 14, .p (.bin .neq .no true (.tmp 13) (.con (.int .i64 (.ofNat 0)))), none⟩,
    ⟨some 15, .p (.move (.tmp 14)), none⟩,
    ⟨some 16, .p (.faddr 0 (.tmp 5)), (some (15, false))⟩,
    ⟨some 17, .r (.load none (.tmp 16)) [], (some (15, false))⟩,
    ⟨some 18, .p (.bin .neq .no true (.tmp 17) (.con (.int .i64 (.ofNat 1)))), (some (15, false))⟩,
    ⟨some 19, .p (.pick (.tmp 15) (.con (.bool true)) (.tmp 18)), none⟩])
  (.cond (.tmp 19)
    (.seq (.region [
      ⟨some 4, .p (.move (.con (.bool false))), none⟩])
    (.ret))
    (.skip)))
  (.seq (.seq (.region [
    ⟨some 20, .p (.move (.tmp 1)), none⟩,
    ⟨some 21, .p (.len false (.tmp 20)), none⟩,
    ⟨some 22, .p (.move (.con (.int .i64 (.ofNat 0)))), none⟩])
  (.block 0
    (.loop
      (.seq (.region [
        ⟨some 23, .p (.bin .lss .no false (.tmp 22) (.tmp 21)), none⟩])
      (.seq (.cond (.tmp 23)
        (.skip)
        (.exit 0))
      (.seq (.block 1
        (.seq (.region [
          ⟨some 24, .p (.iaddr 1 (.tmp 20) (.tmp 22)), none⟩,
          ⟨some 25, .r (.load none (.tmp 24)) [], none⟩,
          ⟨some 7, .p (.move (.tmp 25)), none⟩])
        (.seq (.region [
          ⟨some 26, .p (.faddr 1 (.tmp 5)), none⟩,
          ⟨some 27, .r (.load none (.tmp 26)) [], none⟩,
          ⟨some 28, .p (.move (.tmp 7)), none⟩,
          ⟨some 29, .p (.bin .eql .no false (.tmp 27) (.tmp 28)), none⟩])
        (.cond (.tmp 29)
          (.seq (.region [
            ⟨some 4, .p (.move (.con (.bool true))), none⟩])
          (.ret))
          (.skip)))))
      (.region [
        ⟨some 30, .p (.bin .add .no false (.tmp 22) (.con (.int .i64 (.ofNat 1)))), none⟩,
        ⟨some 22, .p (.move (.tmp 30)), none⟩])))))))
  (.seq (.region [
    ⟨some 31, .p (.move (.tmp 1)), none⟩,
    ⟨some 32, .p (.len false (.tmp 31)), none⟩,
    ⟨some 33, .p (.bin .eql .no true (.tmp 32) (.con (.int .i64 (.ofNat 0)))), none⟩,
    ⟨some 4, .p (.move (.tmp 33)), none⟩])
  (.ret))))),
  [.tmp 4], false⟩
theorem c70_eq : cfn Tryz.prog cfg 70 = some c70 := by kernel_rfl

/-- rubric/sdl.words -/
def c71 : AFn := ⟨
  .seq (.region [
    ⟨some 0, .p (.move (.con .nils)), none⟩])
  (.seq (.region [
    ⟨some 1, .p (.buildSl 1 6 [(.str [])] [(0, 1, (.con (.str [115, 99, 97, 108, 97, 114]))), (1, 1, (.con (.str [116, 121, 112, 101]))), (2, 1, (.con (.str [105, 110, 116, 101, 114, 102, 97, 99, 101]))), (3, 1, (.con (.str [117, 110, 105, 111, 110]))), (4, 1, (.con (.str [101, 110, 117, 109]))), (5, 1, (.con (.str [105, 110, 112, 117, 116])))]), none⟩,
    ⟨some 0, .p (.move (.tmp 1)), none⟩])
  (.ret)),
  [.tmp 0], false⟩
theorem c71_eq : cfn Tryz.prog cfg 71 = some c71 := by kernel_rfl

/-- (*rubric/read.Reader).Next -/
def c73 : AFn := ⟨
  .seq (.region [
    ⟨some 2, .w (.new [(.int .i64 (.ofNat 0)), (.str []), (.int .i64 (.ofNat 0))]), none⟩])
  (.seq (.region [
    ⟨some 4, .p (.move (.tmp 0)), none⟩,
    ⟨some 5, .call 36 [(.tmp 4)], none⟩,
    ⟨some 3, .w (.new [(.int .i64 (.ofNat 0)), (.str []), (.int .i64 (.ofNat 0))]), none⟩,
    ⟨none, .w (.store 3 (.tmp 3) (.tmp 5)), none⟩])
  (.seq (.seq (.region [
    ⟨some 6, .p (.move (.tmp 0)), none⟩,
    ⟨some 7, .p (.nilck (.tmp 6)), none⟩,
    ⟨some 8, .p (.faddr 4 (.tmp 7)), none⟩,
    ⟨some 9, .r (.load none (.tmp 8)) [], none⟩,
    ⟨some 10, .p (.bin .eql .no true (.tmp 9) (.con (.int .i64 (.ofNat 0)))), none⟩,
    ⟨some 11, .p (.move (.tmp 10)), none⟩,
    ⟨some 12, .p (.faddr 0 (.tmp 3)), (some (11, true))⟩,
    ⟨some 13, .r (.load none (.tmp 12)) [], (some (11, true))⟩,
    ⟨some 14, .p (.bin .neq .no true (.tmp 13) (.con (.int .i64 (.ofNat 0)))), (some (11, true))⟩,
    ⟨some 15, .p (.pick (.tmp 11) (.tmp 14) (.con (.bool false))), none⟩])
  (.cond (.tmp 15)
    (.region [
      ⟨some 16, .p (.move (.tmp 0)), none⟩,
      ⟨some 17, .p (.nilck (.tmp 16)), none⟩,
      ⟨some 18, .p (.faddr 1 (.tmp 17)), none⟩,
      ⟨some 19, .r (.load none (.tmp 18)) [], none⟩,
      ⟨some 20, .p (.bin .add .no false (.tmp 19) (.con (.int .i64 (.ofNat 1)))), none⟩,
      ⟨some 21, .p (.nilck (.tmp 16)), none⟩,
      ⟨some 22, .p (.faddr 1 (.tmp 21)), none⟩,
      ⟨none, .w (.store 1 (.tmp 22) (.tmp 20)), none⟩])
    (.skip)))
  (.seq (.region [
    ⟨some 23, .r (.load (some 3) (.tmp 3)) [], none⟩,
    ⟨none, .w (.store 3 (.tmp 2) (.tmp 23)), none⟩])
  (.ret)))),
  [.cell 2 (some 3)], false⟩
theorem c73_eq : cfn Tryz.prog cfg 73 = some c73 := by kernel_rfl

/-- slices.Index[[]string,string] -/
def c74 : AFn := ⟨
  .seq (.region [
    ⟨some 4, .p (.move (.con (.int .i64 (.ofNat 0)))), none⟩])
  (.seq (.seq (.region [
    ⟨some 6, .p (.move (.tmp 0)), none⟩,
    ⟨some 7, .p (.len false (.tmp 6)), none⟩,
    ⟨some 8, .p (.move (.con (.int .i64 (.ofNat 0)))), none⟩])
  (.block 0
    (.loop
      (.seq (.region [
        ⟨some 9, .p (.bin .lss .no false (.tmp 8) (.tmp 7)), none⟩])
      (.seq (.cond (.tmp 9)
        (.skip)
        (.exit 0))
      (.seq (.block 1
        (.seq (.region [
          ⟨some 10, .p (.move (.tmp 8)), none⟩,
          ⟨some 5, .p (.move (.tmp 10)), none⟩])
        (.seq (.region [
          ⟨some 11, .p (.move (.tmp 1)), none⟩,
          ⟨some 12, .p (.move (.tmp 0)), none⟩,
          ⟨some 13, .p (.move (.tmp 5)), none⟩,
          ⟨some 14, .p (.iaddr 1 (.tmp 12) (.tmp 13)), none⟩,
          ⟨some 15, .r (.load none (.tmp 14)) [], none⟩,
          ⟨some 16, .p (.bin .eql .no false (.tmp 11) (.tmp 15)), none⟩])
        (.cond (.tmp 16)
          (.seq (.region [
            ⟨some 17, .p (.move (.tmp 5)), none⟩,
            ⟨some 4, .p (.move (.tmp 17)), none⟩])
          (.ret))
          (.skip)))))
      (.region [
        ⟨some 18, .p (.bin .add .no false (.tmp 8) (.con (.int .i64 (.ofNat 1)))), none⟩,
        ⟨some 8, .p (.move (.tmp 18)), none⟩])))))))
  (.seq (.region [
    ⟨some 4, .p (.move (.con (.int .i64 (.negSucc 0)))), none⟩])
  (.ret))),
  [.tmp 4], false⟩
theorem c74_eq : cfn Tryz.prog cfg 74 = some c74 := by kernel_rfl

/-- (*rubric/read.Reader).Name -/
def c75 : AFn := ⟨
  .seq (.region [
    ⟨some 2, .p (.move (.con (.str []))), none⟩])
  (.seq (.seq (.region [
    ⟨some 3, .p (.move (.tmp 0)), none⟩,
    ⟨some 4, .call 70 [(.tmp 3), (.con .nils)], none⟩,
    ⟨some 5, .p (.un .not (.tmp 4)), none⟩])
  (.cond (.tmp 5)
    (.seq (.region [
      ⟨some 6, .p (.move (.tmp 0)), none⟩,
      ⟨some 7, .call 72 [(.tmp 6)], none⟩])
    (.seq (.region [
      ⟨some 2, .p (.move (.con (.str []))), none⟩])
    (.ret)))
    (.skip)))
  (.seq (.region [
    ⟨some 8, .p (.move (.tmp 0)), none⟩,
    ⟨some 9, .call 73 [(.tmp 8)], none⟩,
    ⟨some 10, .p (.field 1 none (.tmp 9)), none⟩,
    ⟨some 2, .p (.move (.tmp 10)), none⟩])
  (.ret))),
  [.tmp 2], false⟩
theorem c75_eq : cfn Tryz.prog cfg 75 = some c75 := by kernel_rfl

/-- (*rubric/sdl.reader).within -/
def c77 : AFn := ⟨
  .seq (.region [
    ⟨some 4, .p (.move (.tmp 0)), none⟩,
    ⟨some 5, .p (.nilck (.tmp 4)), none⟩,
    ⟨some 6, .p (.faddr 0 (.tmp 5)), none⟩,
    ⟨some 7, .call 80 [(.tmp 6), (.con (.str [123]))], none⟩])
  (.cond (.tmp 7)
    (.seq (.region [
      ⟨some 8, .p (.move (.tmp 0)), none⟩,
      ⟨some 9, .p (.nilck (.tmp 8)), none⟩,
      ⟨some 10, .p (.faddr 0 (.tmp 9)), none⟩,
      ⟨some 11, .p (.move (.tmp 1)), none⟩,
      ⟨some 12, .call 113 [(.tmp 10), (.con (.str [125])), (.con (.bool true)), (.tmp 11)], none⟩])
    (.region [
      ⟨some 13, .p (.move (.tmp 0)), none⟩,
      ⟨some 14, .p (.nilck (.tmp 13)), none⟩,
      ⟨some 15, .p (.faddr 0 (.tmp 14)), none⟩,
      ⟨some 16, .call 114 [(.tmp 15), (.con (.str [125]))], none⟩]))
    (.skip)),
  [], false⟩
theorem c77_eq : cfn Tryz.prog cfg 77 = some c77 := by kernel_rfl

/-- (*rubric/sdl.reader).def$1 -/
def c78 : AFn := ⟨
  .regionD [
    ⟨some 2, .p (.faddr 3 (.tmp 0)), none⟩,
    ⟨some 3, .r (.load none (.tmp 2)) [0, 4], none⟩,
    ⟨some 4, .r (.load none (.tmp 1)) [], none⟩,
    ⟨some 5, .call 79 [(.tmp 4)], none⟩,
    ⟨some 6, .p (.buildSl 4 1 [(.str []), .nils, (.str []), (.int .i64 (.ofNat 0))] [(0, 4, (.tmp 5))]), none⟩,
    ⟨some 7, .w (.append false 4 64 (.tmp 3) (.tmp 6)), none⟩,
    ⟨some 8, .p (.faddr 3 (.tmp 0)), none⟩,
    ⟨none, .w (.store 1 (.tmp 8) (.tmp 7)), none⟩],
  [], false⟩
theorem c78_eq : cfn Tryz.prog cfg 78 = some c78 := by kernel_rfl

/-- (*rubric/sdl.reader).field -/
def c79 : AFn := ⟨
  .seq (.region [
    ⟨some 1, .w (.box 1 (.tmp 0)), none⟩,
    ⟨some 2, .w (.new [(.str []), .nils, (.str []), (.int .i64 (.ofNat 0))]), none⟩])
  (.seq (.region [
    ⟨some 4, .r (.load none (.tmp 1)) [], none⟩,
    ⟨some 5, .call 69 [(.tmp 4)], none⟩])
  (.seq (.region [
    ⟨some 6, .r (.load none (.tmp 1)) [], none⟩,
    ⟨some 7, .p (.nilck (.tmp 6)), none⟩,
    ⟨some 8, .p (.faddr 0 (.tmp 7)), none⟩,
    ⟨some 9, .call 36 [(.tmp 8)], none⟩,
    ⟨some 10, .p (.field 2 none (.tmp 9)), none⟩,
    ⟨some 11, .p (.build [(.str []), .nils, (.str []), (.int .i64 (.ofNat 0))] [(3, 1, (.tmp 10))]), none⟩,
    ⟨some 3, .w (.new [(.str []), .nils, (.str []), (.int .i64 (.ofNat 0))]), none⟩,
    ⟨none, .w (.store 4 (.tmp 3) (.tmp 11)), none⟩])
  (.seq (.region [
    ⟨some 12, .r (.load none (.tmp 1)) [], none⟩,
    ⟨some 13, .p (.nilck (.tmp 12)), none⟩,
    ⟨some 14, .p (.faddr 0 (.tmp 13)), none⟩,
    ⟨some 15, .call 75 [(.tmp 14)], none⟩,
    ⟨some 16, .p (.faddr 0 (.tmp 3)), none⟩,
    ⟨none, .w (.store 1 (.tmp 16) (.tmp 15)), none⟩])
  (.seq (.seq (.region [
    ⟨some 17, .r (.load none (.tmp 1)) [], none⟩,
    ⟨some 18, .p (.nilck (.tmp 17)), none⟩,
    ⟨some 19, .p (.faddr 0 (.tmp 18)), none⟩,
    ⟨some 20, .call 80 [(.tmp 19), (.con (.str [40]))], none⟩])
  (.cond (.tmp 20)
    (.seq (.region [
      ⟨some 21, .r (.load none (.tmp 1)) [], none⟩,
      ⟨some 22, .p (.nilck (.tmp 21)), none⟩,
      ⟨some 23, .p (.faddr 0 (.tmp 22)), none⟩,
      ⟨some 24, .p (.mkfn 115 [] [(.tmp 3), (.tmp 1)]), none⟩,
      ⟨some 25, .call 113 [(.tmp 23), (.con (.str [41])), (.con (.bool true)), (.tmp 24)], none⟩])
    (.region [
      ⟨some 26, .r (.load none (.tmp 1)) [], none⟩,
      ⟨some 27, .p (.nilck (.tmp 26)), none⟩,
      ⟨some 28, .p (.faddr 0 (.tmp 27)), none⟩,
      ⟨some 29, .call 114 [(.tmp 28), (.con (.str [41]))], none⟩]))
    (.skip)))
  (.seq (.region [
    ⟨some 30, .r (.load none (.tmp 1)) [], none⟩,
    ⟨some 31, .p (.nilck (.tmp 30)), none⟩,
    ⟨some 32, .p (.faddr 0 (.tmp 31)), none⟩,
    ⟨some 33, .call 114 [(.tmp 32), (.con (.str [58]))], none⟩])
  (.seq (.region [
    ⟨some 34, .r (.load none (.tmp 1)) [], none⟩,
    ⟨some 35, .p (.nilck (.tmp 34)), none⟩,
    ⟨some 36, .p (.faddr 0 (.tmp 35)), none⟩,
    ⟨some 37, .call 116 [(.tmp 36)], none⟩,
    ⟨some 38, .p (.faddr 2 (.tmp 3)), none⟩,
    ⟨none, .w (.store 1 (.tmp 38) (.tmp 37)), none⟩])
  (.seq (.region [
    ⟨some 39, .r (.load (some 4) (.tmp 3)) [], none⟩,
    ⟨none, .w (.store 4 (.tmp 2) (.tmp 39)), none⟩])
  (.ret)))))))),
  [.cell 2 (some 4)], false⟩
theorem c79_eq : cfn Tryz.prog cfg 79 = some c79 := by kernel_rfl

/-- (*rubric/read.Reader).Take -/
def c80 : AFn := ⟨
  .seq (.region [
    ⟨some 4, .p (.move (.con (.bool false))), none⟩])
  (.seq (.seq (.region [
    ⟨some 5, .p (.move (.tmp 0)), none⟩,
    ⟨some 6, .p (.move (.tmp 1)), none⟩,
    ⟨some 7, .p (.buildSl 1 1 [(.str [])] [(0, 1, (.tmp 6))]), none⟩,
    ⟨some 8, .call 117 [(.tmp 5), (.tmp 7)], none⟩])
  (.cond (.tmp 8)
    (.seq (.region [
      ⟨some 9, .p (.move (.tmp 0)), none⟩,
      ⟨some 10, .call 73 [(.tmp 9)], none⟩])
    (.seq (.region [
      ⟨some 4, .p (.move (.con (.bool true))), none⟩])
    (.ret)))
    (.skip)))
  (.seq (.region [
    ⟨some 4, .p (.move (.con (.bool false))), none⟩])
  (.ret))),
  [.tmp 4], false⟩
theorem c80_eq : cfn Tryz.prog cfg 80 = some c80 := by kernel_rfl

/-- (*rubric/sdl.reader).input -/
def c84 : AFn := ⟨
  .seq (.region [
    ⟨some 2, .w (.new [(.str []), (.str []), (.bool false), (.int .i64 (.ofNat 0)), (.str []), .nils, .nils, (.int .i64 (.ofNat 0)), (.int .i64 (.ofNat 0))]), none⟩])
  (.seq (.region [
    ⟨some 4, .p (.move (.tmp 0)), none⟩,
    ⟨some 5, .call 69 [(.tmp 4)], none⟩])
  (.seq (.region [
    ⟨some 6, .p (.move (.tmp 0)), none⟩,
    ⟨some 7, .p (.nilck (.tmp 6)), none⟩,
    ⟨some 8, .p (.faddr 0 (.tmp 7)), none⟩,
    ⟨some 9, .call 36 [(.tmp 8)], none⟩,
    ⟨some 10, .p (.field 2 none (.tmp 9)), none⟩,
    ⟨some 11, .p (.build [(.str []), (.str []), (.bool false), (.int .i64 (.ofNat 0)), (.str []), .nils, .nils, (.int .i64 (.ofNat 0)), (.int .i64 (.ofNat 0))] [(8, 1, (.tmp 10))]), none⟩,
    ⟨some 3, .w (.new [(.str []), (.str []), (.bool false), (.int .i64 (.ofNat 0)), (.str []), .nils, .nils, (.int .i64 (.ofNat 0)), (.int .i64 (.ofNat 0))]), none⟩,
    ⟨none, .w (.store 9 (.tmp 3) (.tmp 11)), none⟩])
  (.seq (.region [
    ⟨some 12, .p (.move (.tmp 0)), none⟩,
    ⟨some 13, .p (.nilck (.tmp 12)), none⟩,
    ⟨some 14, .p (.faddr 0 (.tmp 13)), none⟩,
    ⟨some 15, .call 75 [(.tmp 14)], none⟩,
    ⟨some 16, .p (.faddr 0 (.tmp 3)), none⟩,
    ⟨none, .w (.store 1 (.tmp 16) (.tmp 15)), none⟩])
  (.seq (.region [
    ⟨some 17, .p (.move (.tmp 0)), none⟩,
    ⟨some 18, .p (.nilck (.tmp 17)), none⟩,
    ⟨some 19, .p (.faddr 0 (.tmp 18)), none⟩,
    ⟨some 20, .call 114 [(.tmp 19), (.con (.str [58]))], none⟩])
  (.seq (.region [
    ⟨some 21, .p (.move (.tmp 0)), none⟩,
    ⟨some 22, .p (.nilck (.tmp 21)), none⟩,
    ⟨some 23, .p (.faddr 0 (.tmp 22)), none⟩,
    ⟨some 24, .call 116 [(.tmp 23)], none⟩,
    ⟨some 25, .p (.faddr 1 (.tmp 3)), none⟩,
    ⟨none, .w (.store 1 (.tmp 25) (.tmp 24)), none⟩])
  (.seq (.seq (.region [
    ⟨some 26, .p (.move (.tmp 0)), none⟩,
    ⟨some 27, .p (.nilck (.tmp 26)), none⟩,
    ⟨some 28, .p (.faddr 0 (.tmp 27)), none⟩,
    ⟨some 29, .call 80 [(.tmp 28), (.con (.str [61]))], none⟩,
    ⟨some 30, .p (.faddr 2 (.tmp 3)), none⟩,
    ⟨none, .w (.store 1 (.tmp 30) (.tmp 29)), none⟩])
  (.seq (.region [
    ⟨some 31, .p (.faddr 2 (.tmp 3)), none⟩,
    ⟨some 32, .r (.load none (.tmp 31)) [], none⟩])
  (.cond (.tmp 32)
    (.region [
      ⟨some 33, .p (.move (.tmp 0)), none⟩,
      ⟨some 34, .p (.nilck (.tmp 33)), none⟩,
      ⟨some 35, .p (.faddr 0 (.tmp 34)), none⟩,
      ⟨some 36, .call 118 [(.tmp 35), (.con (.bool true))], none⟩,
      ⟨some 37, .p (.faddr 3 (.tmp 3)), none⟩,
      ⟨none, .w (.store 5 (.tmp 37) (.tmp 36)), none⟩])
    (.skip))))
  (.seq (.region [
    ⟨some 38, .r (.load (some 9) (.tmp 3)) [], none⟩,
    ⟨none, .w (.store 9 (.tmp 2) (.tmp 38)), none⟩])
  (.ret)))))))),
  [.cell 2 (some 9)], false⟩
theorem c84_eq : cfn Tryz.prog cfg 84 = some c84 := by kernel_rfl

/-- slices.Contains[[]int,int] -/
def c85 : AFn := ⟨
  .seq (.region [
    ⟨some 4, .p (.move (.con (.bool false))), none⟩])
  (.seq (.region [
    ⟨some 5, .p (.move (.tmp 0)), none⟩,
    ⟨some 6, .p (.move (.tmp 1)), none⟩,
    ⟨some 7, .call 119 [(.tmp 5), (.tmp 6)], none⟩,
    ⟨some 8, .p (.bin .geq .no false (.tmp 7) (.con (.int .i64 (.ofNat 0)))), none⟩,
    ⟨some 4, .p (.move (.tmp 8)), none⟩])
  (.ret)),
  [.tmp 4], false⟩
theorem c85_eq : cfn Tryz.prog cfg 85 = some c85 := by kernel_rfl

/-- strings.Trim -/
def c86 : AFn := ⟨
  .seq (.region [
    ⟨some 4, .p (.move (.con (.str []))), none⟩])
  (.seq (.seq (.region [
    ⟨some 7, .p (.move (.tmp 0)), none⟩,
    ⟨some 8, .p (.bin .eql .no true (.tmp 7) (.con (.str []))), none⟩,
    ⟨some 9, .p (.move (.tmp 8)), none⟩,
    ⟨some 10, .p (.move (.tmp 1)), (some (9, false))⟩,
    ⟨some 11, .p (.bin .eql .no true (.tmp 10) (.con (.str []))), (some (9, false))⟩,
    ⟨some 12, .p (.pick (.tmp 9) (.con (.bool true)) (.tmp 11)), none⟩])
  (.cond (.tmp 12)
    (.seq (.region [
      ⟨some 13, .p (.move (.tmp 0)), none⟩,
      ⟨some 4, .p (.move (.tmp 13)), none⟩])
    (.ret))
    (.skip)))
  (.seq (.seq (.region [
    ⟨some 14, .p (.move (.tmp 1)), none⟩,
    ⟨some 15, .p (.len true (.tmp 14)), none⟩,
    ⟨some 16, .p (.bin .eql .no true (.tmp 15) (.con (.int .i64 (.ofNat 1)))), none⟩,
    ⟨some 17, .p (.move (.tmp 16)), none⟩,
    ⟨some 18, .p (.move (.tmp 1)), (some (17, true))⟩,
    ⟨some 19, .p (.indexS (.tmp 18) (.con (.int .i64 (.ofNat 0)))), (some (17, true))⟩,
    ⟨some 20, .p (.bin .lss .no false (.tmp 19) (.con (.int .u8 (.ofNat 128)))), (some (17, true))⟩,
    ⟨some 21, .p (.pick (.tmp 17) (.tmp 20) (.con (.bool false))), none⟩])
  (.cond (.tmp 21)
    (.seq (.regionD [
      ⟨some 22, .p (.move (.tmp 0)), none⟩,
      ⟨some 23, .p (.move (.tmp 1)), none⟩,
      ⟨some 24, .p (.indexS (.tmp 23) (.con (.int .i64 (.ofNat 0)))), none⟩,
      ⟨some 25, .call 121 [(.tmp 22), (.tmp 24)], none⟩,
      ⟨some 26, .p (.move (.tmp 1)), none⟩,
      ⟨some 27, .p (.indexS (.tmp 26) (.con (.int .i64 (.ofNat 0)))), none⟩,
      ⟨some 28, .call 120 [(.tmp 25), (.tmp 27)], none⟩,
      ⟨some 4, .p (.move (.tmp 28)), none⟩])
    (.ret))
    (.skip)))
  (.seq (.seq (.region [
    ⟨some 30, .p (.move (.tmp 1)), none⟩,
    ⟨some 31, .call 122 [(.tmp 30)], none⟩,
    ⟨some 29, .p (.move (.tmp 31)), none⟩,
    ⟨some 32, .p (.extract (.tmp 29) 0), none⟩,
    ⟨some 33, .p (.extract (.tmp 29) 1), none⟩,
    ⟨some 5, .w (.new [(.bool false), (.bool false), (.bool false), (.bool false), (.bool false), (.bool false), (.bool false), (.bool false), (.bool false), (.bool false), (.bool false), (.bool false), (.bool false), (.bool false), (.bool false), (.bool false), (.bool false), (.bool false), (.bool false), (.bool false), (.bool false), (.bool false), (.bool false), (.bool false), (.bool false), (.bool false), (.bool false), (.bool false), (.bool false), (.bool false), (.bool false), (.bool false), (.bool false), (.bool false), (.bool false), (.bool false), (.bool false), (.bool false), (.bool false), (.bool false), (.bool false), (.bool false), (.bool false), (.bool false), (.bool false), (.bool false), (.bool false), (.bool false), (.bool false), (.bool false), (.bool false), (.bool false), (.bool false), (.bool false), (.bool false), (.bool false), (.bool false), (.bool false), (.bool false), (.bool false), (.bool false), (.bool false), (.bool false), (.bool false), (.bool false), (.bool false), (.bool false), (.bool false), (.bool false), (.bool false), (.bool false), (.bool false), (.bool false), (.bool false), (.bool false), (.bool false), (.bool false), (.bool false), (.bool false), (.bool false), (.bool false), (.bool false), (.bool false), (.bool false), (.bool false), (.bool false), (.bool false), (.bool false), (.bool false), (.bool false), (.bool false), (.bool false), (.bool false), (.bool false), (.bool false), (.bool false), (.bool false), (.bool false), (.bool false), (.bool false), (.bool false), (.bool false), (.bool false), (.bool false), (.bool false), (.bool false), (.bool false), (.bool false), (.bool false), (.bool false), (.bool false), (.bool false), (.bool false), (.bool false), (.bool false), (.bool false), (.bool false), (.bool false), (.bool false), (.bool false), (.bool false), (.bool false), (.bool false), (.bool false), (.bool false), (.bool false), (.bool false), (.bool false), (.bool false), (.bool false), (.bool false), (.bool false), (.bool false), (.bool false), (.bool false), (.bool false), (.bool false), (.bool false), (.bool false), (.bool false), (.bool false), (.bool false), (.bool false), (.bool false), (.bool false), (.bool false), (.bool false), (.bool false), (.bool false), (.bool false), (.bool false), (.bool false), (.bool false), (.bool false), (.bool false), (.bool false), (.bool false), (.bool false), (.bool false), (.bool false), (.bool false), (.bool false), (.bool false), (.bool false), (.bool false), (.bool false), (.bool false), (.bool false), (.bool false), (.bool false), (.bool false), (.bool false), (.bool false), (.bool false), (.bool false), (.bool false), (.bool false), (.bool false), (.bool false), (.bool false), (.bool false), (.bool false), (.bool false), (.bool false), (.bool false), (.bool false), (.bool false), (.bool false), (.bool false), (.bool false), (.bool false), (.bool false), (.bool false), (.bool false), (.bool false), (.bool false), (.bool false), (.bool false), (.bool false), (.bool false), (.bool false), (.bool false), (.bool false), (.bool false), (.bool false), (.bool false), (.bool false), (.bool false), (.bool false), (.bool false), (.bool false), (.bool false), (.bool false), (.bool false), (.bool false), (.bool false), (.bool false), (.bool false), (.bool false), (.bool false), (.bool false), (.bool false), (.bool false), (.bool false), (.bool false), (.bool false), (.bool false), (.bool false), (.bool false), (.bool false), (.bool false), (.bool false), (.bool false), (.bool false), (.bool false), (.bool false), (.bool false), (.bool false), (.bool false), (.bool false), (.bool false), (.bool false), (.bool false), (.bool false), (.bool false), (.bool false), (.bool false), (.bool false), (.bool false), (.bool false), (.bool false), (.bool false), (.bool false), (.bool false), (.bool false), (.bool false)]), none⟩,
    ⟨none, .w (.store 256 (.tmp 5) (.tmp 32)), none⟩,
    ⟨some 6, .p (.move (.tmp 33)), none⟩])
  (.seq (.region [
    ⟨some 34, .p (.move (.tmp 6)), none⟩])
  (.cond (.tmp 34)
    (.seq (.region [
      ⟨some 35, .p (.move (.tmp 0)), none⟩,
      ⟨some 36, .call 124 [(.tmp 35), (.tmp 5)], none⟩,
      ⟨some 37, .call 123 [(.tmp 36), (.tmp 5)], none⟩,
      ⟨some 4, .p (.move (.tmp 37)), none⟩])
    (.ret))
    (.skip))))
  (.seq (.region [
    ⟨some 38, .p (.move (.tmp 0)), none⟩,
    ⟨some 39, .p (.move (.tmp 1)), none⟩,
    ⟨some 40, .call 126 [(.tmp 38), (.tmp 39)], none⟩,
    ⟨some 41, .p (.move (.tmp 1)), none⟩,
    ⟨some 42, .call 125 [(.tmp 40), (.tmp 41)], none⟩,
    ⟨some 4, .p (.move (.tmp 42)), none⟩])
  (.ret))))),
  [.tmp 4], false⟩
theorem c86_eq : cfn Tryz.prog cfg 86 = some c86 := by kernel_rfl

/-- slices.pdqsortOrdered[string] -/
def c87 : AFn := ⟨
  .seq (.region [
    ⟨some 8, .p (.move (.con (.bool true))), none⟩])
  (.seq (.region [
    ⟨some 9, .p (.move (.con (.bool true))), none⟩])
  (.block 0
    (.loop
      (.block 1
        (.seq (.region [
          ⟨some 19, .p (.move (.tmp 2)), none⟩,
          ⟨some 20, .p (.move (.tmp 1)), none⟩,
          ⟨some 21, .p (.bin .sub .no false (.tmp 19) (.tmp 20)), none⟩,
          ⟨some 10, .p (.move (.tmp 21)), none⟩])
        (.seq (.seq (.region [
          ⟨some 22, .p (.move (.tmp 10)), none⟩,
          ⟨some 23, .p (.bin .leq .no false (.tmp 22) (.con (.int .i64 (.ofNat 12)))), none⟩])
        (.cond (.tmp 23)
          (.seq (.region [
            ⟨some 24, .p (.move (.tmp 0)), none⟩,
            ⟨some 25, .p (.move (.tmp 1)), none⟩,
            ⟨some 26, .p (.move (.tmp 2)), none⟩,
            ⟨some 27, .call 127 [(.tmp 24), (.tmp 25), (.tmp 26)], none⟩])
          (.ret))
          (.skip)))
        (.seq (.seq (.region [
          ⟨some 28, .p (.move (.tmp 3)), none⟩,
          ⟨some 29, .p (.bin .eql .no true (.tmp 28) (.con (.int .i64 (.ofNat 0)))), none⟩])
        (.cond (.tmp 29)
          (.seq (.region [
            ⟨some 30, .p (.move (.tmp 0)), none⟩,
            ⟨some 31, .p (.move (.tmp 1)), none⟩,
            ⟨some 32, .p (.move (.tmp 2)), none⟩,
            ⟨some 33, .call 128 [(.tmp 30), (.tmp 31), (.tmp 32)], none⟩])
          (.ret))
          (.skip)))
        (.seq (.seq (.region [
          ⟨some 34, .p (.move (.tmp 8)), none⟩,
          ⟨some 35, .p (.un .not (.tmp 34)), none⟩])
        (.cond (.tmp 35)
          (.seq (.region [
            ⟨some 36, .p (.move (.tmp 0)), none⟩,
            ⟨some 37, .p (.move (.tmp 1)), none⟩,
            ⟨some 38, .p (.move (.tmp 2)), none⟩,
            ⟨some 39, .call 129 [(.tmp 36), (.tmp 37), (.tmp 38)], none⟩])
          (.region [
            ⟨some 40, .p (.move (.tmp 3)), none⟩,
            ⟨some 41, .p (.bin .sub .no false (.tmp 40) (.con (.int .i64 (.ofNat 1)))), none⟩,
            ⟨some 3, .p (.move (.tmp 41)), none⟩]))
          (.skip)))
        (.seq (.region [
          ⟨some 43, .p (.move (.tmp 0)), none⟩,
          ⟨some 44, .p (.move (.tmp 1)), none⟩,
          ⟨some 45, .p (.move (.tmp 2)), none⟩,
          ⟨some 46, .call 130 [(.tmp 43), (.tmp 44), (.tmp 45)], none⟩,
          ⟨some 42, .p (.move (.tmp 46)), none⟩,
          ⟨some 47, .p (.extract (.tmp 42) 0), none⟩,
          ⟨some 48, .p (.extract (.tmp 42) 1), none⟩,
          ⟨some 11, .p (.move (.tmp 47)), none⟩,
          ⟨some 12, .p (.move (.tmp 48)), none⟩])
        (.seq (.seq (.region [
          ⟨some 49, .p (.move (.tmp 12)), none⟩,
          ⟨some 50, .p (.bin .eql .no true (.tmp 49) (.con (.int .i64 (.ofNat 2)))), none⟩])
        (.cond (.tmp 50)
          (.seq (.region [
            ⟨some 51, .p (.move (.tmp 0)), none⟩,
            ⟨some 52, .p (.move (.tmp 1)), none⟩,
            ⟨some 53, .p (.move (.tmp 2)), none⟩,
            ⟨some 54, .call 131 [(.tmp 51), (.tmp 52), (.tmp 53)], none⟩])
          (.seq (.region [
            ⟨some 55, .p (.move (.tmp 2)), none⟩,
            ⟨some 56, .p (.bin .sub .no false (.tmp 55) (.con (.int .i64 (.ofNat 1)))), none⟩,
            ⟨some 57, .p (.move (.tmp 11)), none⟩,
            ⟨some 58, .p (.move (.tmp 1)), none⟩,
            ⟨some 59, .p (.bin .sub .no false (.tmp 57) (.tmp 58)), none⟩,
            ⟨some 60, .p (.bin .sub .no false (.tmp 56) (.tmp 59)), none⟩,
            ⟨some 11, .p (.move (.tmp 60)), none⟩])
          (.region [
            ⟨some 12, .p (.move (.con (.int .i64 (.ofNat 1)))), none⟩])))
          (.skip)))
        (.seq (.seq (.region [
          ⟨some 61, .p (.move (.tmp 8)), none⟩,
          ⟨some 62, .p (.move (.tmp 61)), none⟩,
          ⟨some 63, .p (.move (.tmp 9)), (some (62, true))⟩,
          ⟨some 64, .p (.pick (.tmp 62) (.tmp 63) (.con (.bool false))), none⟩,
          ⟨some 65, .p (.move (.tmp 64)), none⟩,
          ⟨some 66, .p (.move (.tmp 12)), (some (65, true))⟩,
          ⟨some 67, .p (.bin .eql .no true (.tmp 66) (.con (.int .i64 (.ofNat 1)))), (some (65, true))⟩,
          ⟨some 68, .p (.pick (.tmp 65) (.tmp 67) (.con (.bool false))), none⟩])
        (.cond (.tmp 68)
          (.seq (.region [
            ⟨some 69, .p (.move (.tmp 0)), none⟩,
            ⟨some 70, .p (.move (.tmp 1)), none⟩,
            ⟨some 71, .p (.move (.tmp 2)), none⟩,
            ⟨some 72, .call 132 [(.tmp 69), (.tmp 70), (.tmp 71)], none⟩])
          (.cond (.tmp 72)
            (.ret)
            (.skip)))
          (.skip)))
        (.seq (.seq (.regionD [
          ⟨some 73, .p (.move (.tmp 1)), none⟩,
          ⟨some 74, .p (.bin .gtr .no false (.tmp 73) (.con (.int .i64 (.ofNat 0)))), none⟩,
          ⟨some 75, .p (.move (.tmp 74)), none⟩,
          ⟨some 76, .p (.move (.tmp 0)), (some (75, true))⟩,
          ⟨some 77, .p (.move (.tmp 1)), (some (75, true))⟩,
          ⟨some 78, .p (.bin .sub .no false (.tmp 77) (.con (.int .i64 (.ofNat 1)))), (some (75, true))⟩,
          ⟨some 79, .p (.iaddr 1 (.tmp 76) (.tmp 78)), (some (75, true))⟩,
          ⟨some 80, .r (.load none (.tmp 79)) [], (some (75, true))⟩,
          ⟨some 81, .p (.move (.tmp 0)), (some (75, true))⟩,
          ⟨some 82, .p (.move (.tmp 11)), (some (75, true))⟩,
          ⟨some 83, .p (.iaddr 1 (.tmp 81) (.tmp 82)), (some (75, true))⟩,
          ⟨some 84, .r (.load none (.tmp 83)) [], (some (75, true))⟩,
          ⟨some 85, .call 133 [(.tmp 80), (.tmp 84)], (some (75, true))⟩,
          ⟨some 86, .p (.un .not (.tmp 85)), (some (75, true))⟩,
          ⟨some 87, .p (.pick (.tmp 75) (.tmp 86) (.con (.bool false))), none⟩])
        (.cond (.tmp 87)
          (.seq (.region [
            ⟨some 88, .p (.move (.tmp 0)), none⟩,
            ⟨some 89, .p (.move (.tmp 1)), none⟩,
            ⟨some 90, .p (.move (.tmp 2)), none⟩,
            ⟨some 91, .p (.move (.tmp 11)), none⟩,
            ⟨some 92, .call 134 [(.tmp 88), (.tmp 89), (.tmp 90), (.tmp 91)], none⟩,
            ⟨some 13, .p (.move (.tmp 92)), none⟩])
          (.seq (.region [
            ⟨some 93, .p (.move (.tmp 13)), none⟩,
            ⟨some 1, .p (.move (.tmp 93)), none⟩])
          (.exit 1)))
          (.skip)))
        (.seq (.region [
          ⟨some 95, .p (.move (.tmp 0)), none⟩,
          ⟨some 96, .p (.move (.tmp 1)), none⟩,
          ⟨some 97, .p (.move (.tmp 2)), none⟩,
          ⟨some 98, .p (.move (.tmp 11)), none⟩,
          ⟨some 99, .call 135 [(.tmp 95), (.tmp 96), (.tmp 97), (.tmp 98)], none⟩,
          ⟨some 94, .p (.move (.tmp 99)), none⟩,
          ⟨some 100, .p (.extract (.tmp 94) 0), none⟩,
          ⟨some 101, .p (.extract (.tmp 94) 1), none⟩,
          ⟨some 14, .p (.move (.tmp 100)), none⟩,
          ⟨some 15, .p (.move (.tmp 101)), none⟩])
        (.seq (.region [
          ⟨some 102, .p (.move (.tmp 15)), none⟩,
          ⟨some 9, .p (.move (.tmp 102)), none⟩])
        (.seq (.region [
          ⟨some 103, .p (.move (.tmp 14)), none⟩,
          ⟨some 104, .p (.move (.tmp 1)), none⟩,
          ⟨some 105, .p (.bin .sub .no false (.tmp 103) (.tmp 104)), none⟩,
          ⟨some 106, .p (.move (.tmp 2)), none⟩,
          ⟨some 107, .p (.move (.tmp 14)), none⟩,
          ⟨some 108, .p (.bin .sub .no false (.tmp 106) (.tmp 107)), none⟩,
          ⟨some 16, .p (.move (.tmp 105)), none⟩,
          ⟨some 17, .p (.move (.tmp 108)), none⟩])
        (.seq (.region [
          ⟨some 109, .p (.move (.tmp 10)), none⟩,
          ⟨some 110, .p (.bin .quo .no false (.tmp 109) (.con (.int .i64 (.ofNat 8)))), none⟩,
          ⟨some 18, .p (.move (.tmp 110)), none⟩])
        (.seq (.region [
          ⟨some 111, .p (.move (.tmp 16)), none⟩,
          ⟨some 112, .p (.move (.tmp 17)), none⟩,
          ⟨some 113, .p (.bin .lss .no false (.tmp 111) (.tmp 112)), none⟩])
        (.cond (.tmp 113)
          (.seq (.region [
            ⟨some 114, .p (.move (.tmp 16)), none⟩,
            ⟨some 115, .p (.move (.tmp 18)), none⟩,
            ⟨some 116, .p (.bin .geq .no false (.tmp 114) (.tmp 115)), none⟩,
            ⟨some 8, .p (.move (.tmp 116)), none⟩])
          (.seq (.region [
            ⟨some 117, .p (.move (.tmp 0)), none⟩,
            ⟨some 118, .p (.move (.tmp 1)), none⟩,
            ⟨some 119, .p (.move (.tmp 14)), none⟩,
            ⟨some 120, .p (.move (.tmp 3)), none⟩,
            ⟨some 121, .call 87 [(.tmp 117), (.tmp 118), (.tmp 119), (.tmp 120)], none⟩])
          (.region [
            ⟨some 122, .p (.move (.tmp 14)), none⟩,
            ⟨some 123, .p (.bin .add .no false (.tmp 122) (.con (.int .i64 (.ofNat 1)))), none⟩,
            ⟨some 1, .p (.move (.tmp 123)), none⟩])))
          (.seq (.region [
            ⟨some 124, .p (.move (.tmp 17)), none⟩,
            ⟨some 125, .p (.move (.tmp 18)), none⟩,
            ⟨some 126, .p (.bin .geq .no false (.tmp 124) (.tmp 125)), none⟩,
            ⟨some 8, .p (.move (.tmp 126)), none⟩])
          (.seq (.region [
            ⟨some 127, .p (.move (.tmp 0)), none⟩,
            ⟨some 128, .p (.move (.tmp 14)), none⟩,
            ⟨some 129, .p (.bin .add .no false (.tmp 128) (.con (.int .i64 (.ofNat 1)))), none⟩,
            ⟨some 130, .p (.move (.tmp 2)), none⟩,
            ⟨some 131, .p (.move (.tmp 3)), none⟩,
            ⟨some 132, .call 87 [(.tmp 127), (.tmp 129), (.tmp 130), (.tmp 131)], none⟩])
          (.region [
            ⟨some 133, .p (.move (.tmp 14)), none⟩,
            ⟨some 2, .p (.move (.tmp 133)), none⟩]))))))))))))))))))))),
  [], false⟩
theorem c87_eq : cfn Tryz.prog cfg 87 = some c87 := by kernel_rfl

/-- math/bits.Len -/
def c88 : AFn := ⟨
  .seq (.region [
    ⟨some 2, .p (.move (.con (.int .i64 (.ofNat 0)))), none⟩])
  (.seq (.cond (.con (.bool false))
    (.seq (.region [
      ⟨some 3, .p (.move (.tmp 0)), none⟩,
      ⟨some 4, .p (.conv (.int .u32) (.tmp 3)), none⟩,
      ⟨some 5, .call 136 [(.tmp 4)], none⟩,
      ⟨some 2, .p (.move (.tmp 5)), none⟩])
    (.ret))
    (.skip))
  (.seq (.region [
    ⟨some 6, .p (.move (.tmp 0)), none⟩,
    ⟨some 7, .call 137 [(.tmp 6)], none⟩,
    ⟨some 2, .p (.move (.tmp 7)), none⟩])
  (.ret))),
  [.tmp 2], false⟩
theorem c88_eq : cfn Tryz.prog cfg 88 = some c88 := by kernel_rfl

end Go.Proofs.YtecfmifgcebifaaGreatDoor
