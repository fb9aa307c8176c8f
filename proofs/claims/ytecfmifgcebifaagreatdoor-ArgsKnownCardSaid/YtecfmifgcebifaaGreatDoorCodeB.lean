/-
  Functions of the program in the small form, as a program of ours printed them; that they are the program's is shown beside each.
-/
import Derived.Test.YtecfmifgcebifaaGreatDoorCfg
namespace Go.Proofs.YtecfmifgcebifaaGreatDoor
open Go Go.Abs
set_option maxRecDepth 100000

/-- slices.Clone[[]rubric/api.InDef,rubric/api.InDef] -/
def c89 : AFn := ⟨
  .seq (.region [
    ⟨some 2, .p (.move (.con .nils)), none⟩])
  (.seq (.seq (.region [
    ⟨some 3, .p (.move (.tmp 0)), none⟩,
    ⟨some 4, .p (.bin .eql .slice true (.tmp 3) (.con .nils)), none⟩])
  (.cond (.tmp 4)
    (.seq (.region [
      ⟨some 2, .p (.move (.con .nils)), none⟩])
    (.ret))
    (.skip)))
  (.seq (.region [
    ⟨some 5, .p (.buildSl 9 0 [(.str []), (.str []), (.bool false), (.int .i64 (.ofNat 0)), (.str []), .nils, .nils, (.int .i64 (.ofNat 0)), (.int .i64 (.ofNat 0))] []), none⟩,
    ⟨some 6, .p (.move (.tmp 0)), none⟩,
    ⟨some 7, .w (.append true 9 128 (.tmp 5) (.tmp 6)), none⟩,
    ⟨some 2, .p (.move (.tmp 7)), none⟩])
  (.ret))),
  [.tmp 2], false⟩
theorem c89_eq : cfn Tryz.prog cfg 89 = some c89 := by kernel_rfl

/-- rubric/types.deep -/
def c90 : AFn := ⟨
  .seq (.region [
    ⟨some 1, .w (.box 5 (.tmp 0)), none⟩,
    ⟨some 2, .w (.new [(.int .i64 (.ofNat 0)), (.str []), .nils, .nils, (.int .i64 (.ofNat 0))]), none⟩])
  (.seq (.regionD [
    ⟨some 5, .p (.faddr 2 (.tmp 1)), none⟩,
    ⟨some 6, .r (.load none (.tmp 5)) [], none⟩,
    ⟨some 7, .call 138 [(.tmp 6)], none⟩,
    ⟨some 8, .p (.faddr 3 (.tmp 1)), none⟩,
    ⟨some 9, .r (.load none (.tmp 8)) [0, 3], none⟩,
    ⟨some 10, .call 139 [(.tmp 9)], none⟩,
    ⟨some 11, .p (.faddr 2 (.tmp 1)), none⟩,
    ⟨none, .w (.store 1 (.tmp 11) (.tmp 7)), none⟩,
    ⟨some 12, .p (.faddr 3 (.tmp 1)), none⟩,
    ⟨none, .w (.store 1 (.tmp 12) (.tmp 10)), none⟩])
  (.seq (.seq (.region [
    ⟨some 13, .p (.faddr 2 (.tmp 1)), none⟩,
    ⟨some 14, .r (.load none (.tmp 13)) [], none⟩,
    ⟨some 15, .p (.len false (.tmp 14)), none⟩,
    ⟨some 16, .p (.move (.con (.int .i64 (.ofNat 0)))), none⟩])
  (.block 0
    (.loop
      (.seq (.region [
        ⟨some 17, .p (.bin .lss .no false (.tmp 16) (.tmp 15)), none⟩])
      (.seq (.cond (.tmp 17)
        (.skip)
        (.exit 0))
      (.seq (.block 1
        (.seq (.region [
          ⟨some 18, .p (.move (.tmp 16)), none⟩,
          ⟨some 3, .p (.move (.tmp 18)), none⟩])
        (.regionD [
          ⟨some 19, .p (.faddr 2 (.tmp 1)), none⟩,
          ⟨some 20, .r (.load none (.tmp 19)) [0, 9], none⟩,
          ⟨some 21, .p (.move (.tmp 3)), none⟩,
          ⟨some 22, .p (.faddr 2 (.tmp 1)), none⟩,
          ⟨some 23, .r (.load none (.tmp 22)) [], none⟩,
          ⟨some 24, .p (.move (.tmp 3)), none⟩,
          ⟨some 25, .p (.iaddr 5 (.tmp 23) (.tmp 24)), none⟩,
          ⟨some 26, .r (.load (some 5) (.tmp 25)) [], none⟩,
          ⟨some 27, .call 90 [(.tmp 26)], none⟩,
          ⟨some 28, .p (.iaddr 5 (.tmp 20) (.tmp 21)), none⟩,
          ⟨none, .w (.store 5 (.tmp 28) (.tmp 27)), none⟩])))
      (.region [
        ⟨some 29, .p (.bin .add .no false (.tmp 16) (.con (.int .i64 (.ofNat 1)))), none⟩,
        ⟨some 16, .p (.move (.tmp 29)), none⟩])))))))
  (.seq (.seq (.region [
    ⟨some 30, .p (.faddr 3 (.tmp 1)), none⟩,
    ⟨some 31, .r (.load none (.tmp 30)) [], none⟩,
    ⟨some 32, .p (.len false (.tmp 31)), none⟩,
    ⟨some 33, .p (.move (.con (.int .i64 (.ofNat 0)))), none⟩])
  (.block 2
    (.loop
      (.seq (.region [
        ⟨some 34, .p (.bin .lss .no false (.tmp 33) (.tmp 32)), none⟩])
      (.seq (.cond (.tmp 34)
        (.skip)
        (.exit 2))
      (.seq (.block 3
        (.seq (.region [
          ⟨some 35, .p (.move (.tmp 33)), none⟩,
          ⟨some 4, .p (.move (.tmp 35)), none⟩])
        (.regionD [
          ⟨some 36, .p (.faddr 3 (.tmp 1)), none⟩,
          ⟨some 37, .r (.load none (.tmp 36)) [0, 10], none⟩,
          ⟨some 38, .p (.move (.tmp 4)), none⟩,
          ⟨some 39, .p (.faddr 3 (.tmp 1)), none⟩,
          ⟨some 40, .r (.load none (.tmp 39)) [], none⟩,
          ⟨some 41, .p (.move (.tmp 4)), none⟩,
          ⟨some 42, .p (.iaddr 7 (.tmp 40) (.tmp 41)), none⟩,
          ⟨some 43, .p (.faddr 1 (.tmp 42)), none⟩,
          ⟨some 44, .r (.load (some 5) (.tmp 43)) [], none⟩,
          ⟨some 45, .call 90 [(.tmp 44)], none⟩,
          ⟨some 46, .p (.iaddr 7 (.tmp 37) (.tmp 38)), none⟩,
          ⟨some 47, .p (.faddr 1 (.tmp 46)), none⟩,
          ⟨none, .w (.store 5 (.tmp 47) (.tmp 45)), none⟩])))
      (.region [
        ⟨some 48, .p (.bin .add .no false (.tmp 33) (.con (.int .i64 (.ofNat 1)))), none⟩,
        ⟨some 33, .p (.move (.tmp 48)), none⟩])))))))
  (.seq (.region [
    ⟨some 49, .r (.load (some 5) (.tmp 1)) [], none⟩,
    ⟨none, .w (.store 5 (.tmp 2) (.tmp 49)), none⟩])
  (.ret))))),
  [.cell 2 (some 5)], false⟩
theorem c90_eq : cfn Tryz.prog cfg 90 = some c90 := by kernel_rfl

/-- strings.HasSuffix -/
def c91 : AFn := ⟨
  .seq (.region [
    ⟨some 4, .p (.move (.con (.bool false))), none⟩])
  (.seq (.region [
    ⟨some 5, .p (.move (.tmp 0)), none⟩,
    ⟨some 6, .p (.move (.tmp 1)), none⟩,
    ⟨some 7, .call 140 [(.tmp 5), (.tmp 6)], none⟩,
    ⟨some 4, .p (.move (.tmp 7)), none⟩])
  (.ret)),
  [.tmp 4], false⟩
theorem c91_eq : cfn Tryz.prog cfg 91 = some c91 := by kernel_rfl

/-- strings.TrimSuffix -/
def c92 : AFn := ⟨
  .seq (.region [
    ⟨some 4, .p (.move (.con (.str []))), none⟩])
  (.seq (.region [
    ⟨some 5, .p (.move (.tmp 0)), none⟩,
    ⟨some 6, .p (.move (.tmp 1)), none⟩,
    ⟨some 7, .call 141 [(.tmp 5), (.tmp 6)], none⟩,
    ⟨some 4, .p (.move (.tmp 7)), none⟩])
  (.ret)),
  [.tmp 4], false⟩
theorem c92_eq : cfn Tryz.prog cfg 92 = some c92 := by kernel_rfl

/-- strings.CutPrefix -/
def c93 : AFn := ⟨
  .seq (.region [
    ⟨some 4, .p (.move (.con (.str []))), none⟩,
    ⟨some 5, .p (.move (.con (.bool false))), none⟩])
  (.seq (.region [
    ⟨some 6, .p (.move (.tmp 0)), none⟩,
    ⟨some 7, .p (.move (.tmp 1)), none⟩,
    ⟨some 8, .call 142 [(.tmp 6), (.tmp 7)], none⟩,
    ⟨some 9, .p (.extract (.tmp 8) 0), none⟩,
    ⟨some 10, .p (.extract (.tmp 8) 1), none⟩,
    ⟨some 4, .p (.move (.tmp 9)), none⟩,
    ⟨some 5, .p (.move (.tmp 10)), none⟩])
  (.ret)),
  [.tmp 4, .tmp 5], false⟩
theorem c93_eq : cfn Tryz.prog cfg 93 = some c93 := by kernel_rfl

/-- rubric/query.Parse -/
def c94 : AFn := ⟨
  .seq (.region [
    ⟨some 2, .w (.new [.nils, .nils]), none⟩,
    ⟨some 3, .p (.move (.con (.int .i64 (.ofNat 0)))), none⟩,
    ⟨some 4, .p (.move (.con (.int .i64 (.ofNat 0)))), none⟩])
  (.seq (.region [
    ⟨some 8, .p (.move (.tmp 0)), none⟩,
    ⟨some 9, .call 35 [(.tmp 8)], none⟩,
    ⟨some 10, .p (.build [.nils, (.int .i64 (.ofNat 0)), (.int .i64 (.ofNat 0)), (.int .i64 (.ofNat 0)), (.int .i64 (.ofNat 0))] [(0, 5, (.tmp 9))]), none⟩,
    ⟨some 11, .w (.box 5 (.tmp 10)), none⟩,
    ⟨some 5, .p (.move (.tmp 11)), none⟩])
  (.seq (.region [
    ⟨some 6, .w (.new [.nils, .nils]), none⟩])
  (.seq (.seq (.region [
    ⟨some 7, .p (.move (.con (.bool true))), none⟩])
  (.block 0
    (.loop
      (.seq (.seq (.region [
        ⟨some 12, .p (.move (.tmp 5)), none⟩,
        ⟨some 13, .p (.nilck (.tmp 12)), none⟩,
        ⟨some 14, .p (.faddr 0 (.tmp 13)), none⟩,
        ⟨some 15, .p (.faddr 4 (.tmp 14)), none⟩,
        ⟨some 16, .r (.load none (.tmp 15)) [], none⟩,
        ⟨some 17, .p (.bin .eql .no true (.tmp 16) (.con (.int .i64 (.ofNat 0)))), none⟩,
        ⟨some 18, .p (.move (.tmp 17)), none⟩,
        ⟨some 19, .p (.move (.tmp 7)), (some (18, true))⟩,
        ⟨some 20, .p (.move (.tmp 19)), (some (18, true))⟩,
        ⟨some 21, .p (.move (.tmp 5)), (some (20, false))⟩,
        ⟨some 22, .p (.nilck (.tmp 21)), (some (20, false))⟩,
        ⟨some 23, .p (.faddr 0 (.tmp 22)), (some (20, false))⟩,
        ⟨some 24, .call 36 [(.tmp 23)], (some (20, false))⟩,
        ⟨some 25, .p (.field 0 none (.tmp 24)), (some (20, false))⟩,
        ⟨some 26, .p (.bin .neq .no true (.tmp 25) (.con (.int .i64 (.ofNat 0)))), (some (20, false))⟩,
        ⟨some 27, .p (.pick (.tmp 20) (.con (.bool true)) (.tmp 26)), (some (18, true))⟩,
        ⟨some 28, .p (.pick (.tmp 18) (.tmp 27) (.con (.bool false))), none⟩])
      (.cond (.tmp 28)
        (.skip)
        (.exit 0)))
      (.seq (.block 1
        (.block 2
          (.seq (.region [
            ⟨some 34, .p (.move (.tmp 5)), none⟩,
            ⟨some 35, .p (.nilck (.tmp 34)), none⟩,
            ⟨some 36, .p (.faddr 0 (.tmp 35)), none⟩,
            ⟨some 37, .p (.buildSl 1 1 [(.str [])] [(0, 1, (.con (.str [102, 114, 97, 103, 109, 101, 110, 116])))]), none⟩,
            ⟨some 38, .call 70 [(.tmp 36), (.tmp 37)], none⟩,
            ⟨some 33, .p (.move (.tmp 38)), none⟩])
          (.cond (.tmp 33)
            (.regionD [
              ⟨some 39, .p (.faddr 1 (.tmp 6)), none⟩,
              ⟨some 40, .r (.load none (.tmp 39)) [0, 4], none⟩,
              ⟨some 41, .p (.move (.tmp 5)), none⟩,
              ⟨some 42, .call 143 [(.tmp 41)], none⟩,
              ⟨some 43, .p (.buildSl 5 1 [(.str []), (.str []), .nils, .nils, (.int .i64 (.ofNat 0))] [(0, 5, (.tmp 42))]), none⟩,
              ⟨some 44, .w (.append false 5 88 (.tmp 40) (.tmp 43)), none⟩,
              ⟨some 45, .p (.faddr 1 (.tmp 6)), none⟩,
              ⟨none, .w (.store 1 (.tmp 45) (.tmp 44)), none⟩])
            (.seq (.regionD [
              ⟨some 47, .p (.move (.tmp 5)), none⟩,
              ⟨some 48, .p (.nilck (.tmp 47)), none⟩,
              ⟨some 49, .p (.faddr 0 (.tmp 48)), none⟩,
              ⟨some 50, .p (.buildSl 1 1 [(.str [])] [(0, 1, (.con (.str [123])))]), none⟩,
              ⟨some 51, .call 117 [(.tmp 49), (.tmp 50)], none⟩,
              ⟨some 52, .p (.move (.tmp 51)), none⟩,
              ⟨some 53, .p (.move (.tmp 5)), (some (52, false))⟩,
              ⟨some 54, .p (.nilck (.tmp 53)), (some (52, false))⟩,
              ⟨some 55, .p (.faddr 0 (.tmp 54)), (some (52, false))⟩,
              ⟨some 56, .call 144 [], (some (52, false))⟩,
              ⟨some 57, .call 70 [(.tmp 55), (.tmp 56)], (some (52, false))⟩,
              ⟨some 58, .p (.pick (.tmp 52) (.con (.bool true)) (.tmp 57)), none⟩,
              ⟨some 46, .p (.move (.tmp 58)), none⟩])
            (.cond (.tmp 46)
              (.regionD [
                ⟨some 59, .p (.faddr 0 (.tmp 6)), none⟩,
                ⟨some 60, .r (.load none (.tmp 59)) [0, 4], none⟩,
                ⟨some 61, .p (.move (.tmp 5)), none⟩,
                ⟨some 62, .call 145 [(.tmp 61)], none⟩,
                ⟨some 63, .p (.buildSl 6 1 [(.int .i64 (.ofNat 0)), (.str []), .nils, .nils, .nils, (.int .i64 (.ofNat 0))] [(0, 6, (.tmp 62))]), none⟩,
                ⟨some 64, .w (.append false 6 104 (.tmp 60) (.tmp 63)), none⟩,
                ⟨some 65, .p (.faddr 0 (.tmp 6)), none⟩,
                ⟨none, .w (.store 1 (.tmp 65) (.tmp 64)), none⟩])
              (.region [
                ⟨some 29, .p (.move (.tmp 5)), none⟩,
                ⟨some 30, .p (.nilck (.tmp 29)), none⟩,
                ⟨some 31, .p (.faddr 0 (.tmp 30)), none⟩,
                ⟨some 32, .call 72 [(.tmp 31)], none⟩])))))))
      (.region [
        ⟨some 7, .p (.move (.con (.bool false))), none⟩]))))))
  (.seq (.seq (.region [
    ⟨some 66, .p (.move (.tmp 5)), none⟩,
    ⟨some 67, .p (.nilck (.tmp 66)), none⟩,
    ⟨some 68, .p (.faddr 0 (.tmp 67)), none⟩,
    ⟨some 69, .p (.faddr 4 (.tmp 68)), none⟩,
    ⟨some 70, .r (.load none (.tmp 69)) [], none⟩,
    ⟨some 71, .p (.bin .neq .no true (.tmp 70) (.con (.int .i64 (.ofNat 0)))), none⟩])
  (.cond (.tmp 71)
    (.seq (.regionD [
      ⟨some 72, .p (.build [.nils, .nils] []), none⟩,
      ⟨some 73, .p (.move (.tmp 5)), none⟩,
      ⟨some 74, .p (.nilck (.tmp 73)), none⟩,
      ⟨some 75, .p (.faddr 0 (.tmp 74)), none⟩,
      ⟨some 76, .p (.faddr 3 (.tmp 75)), none⟩,
      ⟨some 77, .r (.load none (.tmp 76)) [0, 12], none⟩,
      ⟨some 78, .p (.move (.tmp 5)), none⟩,
      ⟨some 79, .p (.nilck (.tmp 78)), none⟩,
      ⟨some 80, .p (.faddr 0 (.tmp 79)), none⟩,
      ⟨some 81, .p (.faddr 4 (.tmp 80)), none⟩,
      ⟨some 82, .r (.load none (.tmp 81)) [0, 12], none⟩,
      ⟨none, .w (.store 2 (.tmp 2) (.tmp 72)), none⟩,
      ⟨some 3, .p (.move (.tmp 77)), none⟩,
      ⟨some 4, .p (.move (.tmp 82)), none⟩])
    (.ret))
    (.skip)))
  (.seq (.region [
    ⟨some 83, .r (.load (some 2) (.tmp 6)) [], none⟩,
    ⟨none, .w (.store 2 (.tmp 2) (.tmp 83)), none⟩,
    ⟨some 3, .p (.move (.con (.int .i64 (.ofNat 0)))), none⟩,
    ⟨some 4, .p (.move (.con (.int .i64 (.ofNat 0)))), none⟩])
  (.ret)))))),
  [.cell 2 (some 2), .tmp 3, .tmp 4], false⟩
theorem c94_eq : cfn Tryz.prog cfg 94 = some c94 := by kernel_rfl

/-- rubric/args.Problems -/
def c95 : AFn := ⟨
  .seq (.region [
    ⟨some 3, .w (.box 2 (.tmp 1)), none⟩,
    ⟨some 4, .p (.move (.con .nils)), none⟩])
  (.seq (.region [
    ⟨some 11, .p (.move (.tmp 0)), none⟩,
    ⟨some 12, .p (.build [.nilp, .nils] [(0, 1, (.tmp 11))]), none⟩,
    ⟨some 13, .w (.box 2 (.tmp 12)), none⟩,
    ⟨some 5, .p (.move (.tmp 13)), none⟩])
  (.seq (.seq (.region [
    ⟨some 14, .p (.faddr 0 (.tmp 3)), none⟩,
    ⟨some 15, .r (.load none (.tmp 14)) [], none⟩,
    ⟨some 16, .p (.len false (.tmp 15)), none⟩,
    ⟨some 17, .p (.move (.con (.int .i64 (.ofNat 0)))), none⟩])
  (.block 0
    (.loop
      (.seq (.region [
        ⟨some 18, .p (.bin .lss .no false (.tmp 17) (.tmp 16)), none⟩])
      (.seq (.cond (.tmp 18)
        (.skip)
        (.exit 0))
      (.seq (.block 1
        (.seq (.region [
          ⟨some 19, .p (.iaddr 6 (.tmp 15) (.tmp 17)), none⟩,
          ⟨some 20, .r (.load (some 6) (.tmp 19)) [], none⟩,
          ⟨some 7, .w (.new [(.int .i64 (.ofNat 0)), (.str []), .nils, .nils, .nils, (.int .i64 (.ofNat 0))]), none⟩,
          ⟨none, .w (.store 6 (.tmp 7) (.tmp 20)), none⟩])
        (.seq (.region [
          ⟨some 21, .p (.move (.tmp 5)), none⟩,
          ⟨some 22, .p (.faddr 3 (.tmp 7)), none⟩,
          ⟨some 23, .r (.load none (.tmp 22)) [], none⟩,
          ⟨some 24, .call 146 [(.tmp 21), (.tmp 23), (.con (.bool false))], none⟩])
        (.regionD [
          ⟨some 25, .p (.move (.tmp 5)), none⟩,
          ⟨some 26, .p (.move (.tmp 0)), none⟩,
          ⟨some 27, .p (.faddr 0 (.tmp 7)), none⟩,
          ⟨some 28, .r (.load none (.tmp 27)) [], none⟩,
          ⟨some 29, .call 14 [(.tmp 26), (.tmp 28)], none⟩,
          ⟨some 30, .p (.faddr 4 (.tmp 7)), none⟩,
          ⟨some 31, .r (.load none (.tmp 30)) [0, 5], none⟩,
          ⟨some 32, .call 147 [(.tmp 25), (.tmp 29), (.tmp 31)], none⟩]))))
      (.region [
        ⟨some 33, .p (.bin .add .no false (.tmp 17) (.con (.int .i64 (.ofNat 1)))), none⟩,
        ⟨some 17, .p (.move (.tmp 33)), none⟩])))))))
  (.seq (.seq (.region [
    ⟨some 34, .p (.faddr 1 (.tmp 3)), none⟩,
    ⟨some 35, .r (.load none (.tmp 34)) [], none⟩,
    ⟨some 36, .p (.len false (.tmp 35)), none⟩,
    ⟨some 37, .p (.move (.con (.int .i64 (.ofNat 0)))), none⟩])
  (.block 2
    (.loop
      (.seq (.region [
        ⟨some 38, .p (.bin .lss .no false (.tmp 37) (.tmp 36)), none⟩])
      (.seq (.cond (.tmp 38)
        (.skip)
        (.exit 2))
      (.seq (.block 3
        (.seq (.region [
          ⟨some 39, .p (.iaddr 5 (.tmp 35) (.tmp 37)), none⟩,
          ⟨some 40, .r (.load (some 5) (.tmp 39)) [], none⟩,
          ⟨some 9, .w (.new [(.str []), (.str []), .nils, .nils, (.int .i64 (.ofNat 0))]), none⟩,
          ⟨none, .w (.store 5 (.tmp 9) (.tmp 40)), none⟩])
        (.seq (.region [
          ⟨some 41, .p (.move (.tmp 5)), none⟩,
          ⟨some 42, .p (.faddr 2 (.tmp 9)), none⟩,
          ⟨some 43, .r (.load none (.tmp 42)) [], none⟩,
          ⟨some 44, .call 146 [(.tmp 41), (.tmp 43), (.con (.bool false))], none⟩])
        (.seq (.region [
          ⟨some 10, .p (.move (.con (.str []))), none⟩])
        (.seq (.seq (.region [
          ⟨some 45, .p (.move (.tmp 0)), none⟩,
          ⟨some 46, .p (.faddr 1 (.tmp 9)), none⟩,
          ⟨some 47, .r (.load none (.tmp 46)) [], none⟩,
          ⟨some 48, .call 44 [(.tmp 45), (.tmp 47)], none⟩])
        (.cond (.tmp 48)
          (.region [
            ⟨some 49, .p (.faddr 1 (.tmp 9)), none⟩,
            ⟨some 50, .r (.load none (.tmp 49)) [], none⟩,
            ⟨some 10, .p (.move (.tmp 50)), none⟩])
          (.skip)))
        (.region [
          ⟨some 51, .p (.move (.tmp 5)), none⟩,
          ⟨some 52, .p (.move (.tmp 10)), none⟩,
          ⟨some 53, .p (.faddr 3 (.tmp 9)), none⟩,
          ⟨some 54, .r (.load none (.tmp 53)) [], none⟩,
          ⟨some 55, .call 147 [(.tmp 51), (.tmp 52), (.tmp 54)], none⟩]))))))
      (.region [
        ⟨some 56, .p (.bin .add .no false (.tmp 37) (.con (.int .i64 (.ofNat 1)))), none⟩,
        ⟨some 37, .p (.move (.tmp 56)), none⟩])))))))
  (.seq (.region [
    ⟨some 57, .p (.move (.tmp 5)), none⟩,
    ⟨some 58, .p (.nilck (.tmp 57)), none⟩,
    ⟨some 59, .p (.faddr 1 (.tmp 58)), none⟩,
    ⟨some 60, .r (.load none (.tmp 59)) [], none⟩,
    ⟨some 61, .p (.buildSl 1 1 [.nils] [(0, 1, (.tmp 60))]), none⟩,
    ⟨some 62, .call 34 [(.tmp 61)], none⟩,
    ⟨some 4, .p (.move (.tmp 62)), none⟩])
  (.ret))))),
  [.tmp 4], false⟩
theorem c95_eq : cfn Tryz.prog cfg 95 = some c95 := by kernel_rfl

/-- rubric/rubricref08.SameArgs -/
def c96 : AFn := ⟨
  .seq (.region [
    ⟨some 6, .p (.move (.con (.bool false))), none⟩])
  (.seq (.seq (.region [
    ⟨some 8, .p (.move (.tmp 0)), none⟩,
    ⟨some 9, .p (.len false (.tmp 8)), none⟩,
    ⟨some 10, .p (.move (.tmp 1)), none⟩,
    ⟨some 11, .p (.len false (.tmp 10)), none⟩,
    ⟨some 12, .p (.bin .neq .no false (.tmp 9) (.tmp 11)), none⟩])
  (.cond (.tmp 12)
    (.seq (.region [
      ⟨some 6, .p (.move (.con (.bool false))), none⟩])
    (.ret))
    (.skip)))
  (.seq (.seq (.region [
    ⟨some 13, .p (.move (.tmp 0)), none⟩,
    ⟨some 14, .p (.len false (.tmp 13)), none⟩,
    ⟨some 15, .p (.move (.con (.int .i64 (.ofNat 0)))), none⟩])
  (.block 0
    (.loop
      (.seq (.region [
        ⟨some 16, .p (.bin .lss .no false (.tmp 15) (.tmp 14)), none⟩])
      (.seq (.cond (.tmp 16)
        (.skip)
        (.exit 0))
      (.seq (.block 1
        (.seq (.region [
          ⟨some 17, .p (.move (.tmp 15)), none⟩,
          ⟨some 7, .p (.move (.tmp 17)), none⟩])
        (.seq (.regionD [
          ⟨some 18, .p (.move (.tmp 0)), none⟩,
          ⟨some 19, .p (.move (.tmp 7)), none⟩,
          ⟨some 20, .p (.iaddr 7 (.tmp 18) (.tmp 19)), none⟩,
          ⟨some 21, .p (.faddr 0 (.tmp 20)), none⟩,
          ⟨some 22, .r (.load none (.tmp 21)) [], none⟩,
          ⟨some 23, .p (.move (.tmp 1)), none⟩,
          ⟨some 24, .p (.move (.tmp 7)), none⟩,
          ⟨some 25, .p (.iaddr 7 (.tmp 23) (.tmp 24)), none⟩,
          ⟨some 26, .p (.faddr 0 (.tmp 25)), none⟩,
          ⟨some 27, .r (.load none (.tmp 26)) [], none⟩,
          ⟨some 28, .p (.bin .neq .no false (.tmp 22) (.tmp 27)), none⟩,
          ⟨some 29, .p (.move (.tmp 28)), none⟩,
          ⟨some 30, .p (.move (.tmp 2)), (some (29, false))⟩,
          ⟨some 31, .p (.move (.tmp 30)), (some (29, false))⟩,
          ⟨some 32, .p (.move (.tmp 0)), (some (31, true))⟩,
          ⟨some 33, .p (.move (.tmp 7)), (some (31, true))⟩,
          ⟨some 34, .p (.iaddr 7 (.tmp 32) (.tmp 33)), (some (31, true))⟩,
          ⟨some 35, .p (.faddr 6 (.tmp 34)), (some (31, true))⟩,
          ⟨some 36, .r (.load none (.tmp 35)) [], (some (31, true))⟩,
          ⟨some 37, .p (.move (.tmp 1)), (some (31, true))⟩,
          ⟨some 38, .p (.move (.tmp 7)), (some (31, true))⟩,
          ⟨some 39, .p (.iaddr 7 (.tmp 37) (.tmp 38)), (some (31, true))⟩,
          ⟨some 40, .p (.faddr 6 (.tmp 39)), (some (31, true))⟩,
          ⟨some 41, .r (.load none (.tmp 40)) [], (some (31, true))⟩,
          ⟨some 42, .p (.bin .neq .no false (.tmp 36) (.tmp 41)), (some (31, true))⟩,
          ⟨some 43, .p (.pick (.tmp 31) (.tmp 42) (.con (.bool false))), (some (29, false))⟩,
          ⟨some 44, .p (.pick (.tmp 29) (.con (.bool true)) (.tmp 43)), none⟩,
          ⟨some 45, .p (.move (.tmp 44)), none⟩,
          ⟨some 46, .p (.move (.tmp 0)), (some (45, false))⟩,
          ⟨some 47, .p (.move (.tmp 7)), (some (45, false))⟩,
          ⟨some 48, .p (.iaddr 7 (.tmp 46) (.tmp 47)), (some (45, false))⟩,
          ⟨some 49, .p (.faddr 1 (.tmp 48)), (some (45, false))⟩,
          ⟨some 50, .r (.load (some 5) (.tmp 49)) [], (some (45, false))⟩,
          ⟨some 51, .p (.move (.tmp 1)), (some (45, false))⟩,
          ⟨some 52, .p (.move (.tmp 7)), (some (45, false))⟩,
          ⟨some 53, .p (.iaddr 7 (.tmp 51) (.tmp 52)), (some (45, false))⟩,
          ⟨some 54, .p (.faddr 1 (.tmp 53)), (some (45, false))⟩,
          ⟨some 55, .r (.load (some 5) (.tmp 54)) [], (some (45, false))⟩,
          ⟨some 56, .p (.move (.tmp 2)), (some (45, false))⟩,
          ⟨some 57, .call 52 [(.tmp 50), (.tmp 55), (.tmp 56)], (some (45, false))⟩,
          ⟨some 58, .p (.un .not (.tmp 57)), (some (45, false))⟩,
          ⟨some 59, .p (.pick (.tmp 45) (.con (.bool true)) (.tmp 58)), none⟩])
        (.cond (.tmp 59)
          (.seq (.region [
            ⟨some 6, .p (.move (.con (.bool false))), none⟩])
          (.ret))
          (.skip)))))
      (.region [
        ⟨some 60, .p (.bin .add .no false (.tmp 15) (.con (.int .i64 (.ofNat 1)))), none⟩,
        ⟨some 15, .p (.move (.tmp 60)), none⟩])))))))
  (.seq (.region [
    ⟨some 6, .p (.move (.con (.bool true))), none⟩])
  (.ret)))),
  [.tmp 6], false⟩
theorem c96_eq : cfn Tryz.prog cfg 96 = some c96 := by kernel_rfl

/-- slices.Clone[[]string,string] -/
def c97 : AFn := ⟨
  .seq (.region [
    ⟨some 2, .p (.move (.con .nils)), none⟩])
  (.seq (.seq (.region [
    ⟨some 3, .p (.move (.tmp 0)), none⟩,
    ⟨some 4, .p (.bin .eql .slice true (.tmp 3) (.con .nils)), none⟩])
  (.cond (.tmp 4)
    (.seq (.region [
      ⟨some 2, .p (.move (.con .nils)), none⟩])
    (.ret))
    (.skip)))
  (.seq (.region [
    ⟨some 5, .p (.buildSl 1 0 [(.str [])] []), none⟩,
    ⟨some 6, .p (.move (.tmp 0)), none⟩,
    ⟨some 7, .w (.append false 1 16 (.tmp 5) (.tmp 6)), none⟩,
    ⟨some 2, .p (.move (.tmp 7)), none⟩])
  (.ret))),
  [.tmp 2], false⟩
theorem c97_eq : cfn Tryz.prog cfg 97 = some c97 := by kernel_rfl

/-- slices.Clone[[]rubric/api.FieldDef,rubric/api.FieldDef] -/
def c98 : AFn := ⟨
  .seq (.region [
    ⟨some 2, .p (.move (.con .nils)), none⟩])
  (.seq (.seq (.region [
    ⟨some 3, .p (.move (.tmp 0)), none⟩,
    ⟨some 4, .p (.bin .eql .slice true (.tmp 3) (.con .nils)), none⟩])
  (.cond (.tmp 4)
    (.seq (.region [
      ⟨some 2, .p (.move (.con .nils)), none⟩])
    (.ret))
    (.skip)))
  (.seq (.region [
    ⟨some 5, .p (.buildSl 4 0 [(.str []), .nils, (.str []), (.int .i64 (.ofNat 0))] []), none⟩,
    ⟨some 6, .p (.move (.tmp 0)), none⟩,
    ⟨some 7, .w (.append true 4 64 (.tmp 5) (.tmp 6)), none⟩,
    ⟨some 2, .p (.move (.tmp 7)), none⟩])
  (.ret))),
  [.tmp 2], false⟩
theorem c98_eq : cfn Tryz.prog cfg 98 = some c98 := by kernel_rfl

/-- strings.HasPrefix -/
def c99 : AFn := ⟨
  .seq (.region [
    ⟨some 4, .p (.move (.con (.bool false))), none⟩])
  (.seq (.region [
    ⟨some 5, .p (.move (.tmp 0)), none⟩,
    ⟨some 6, .p (.move (.tmp 1)), none⟩,
    ⟨some 7, .call 148 [(.tmp 5), (.tmp 6)], none⟩,
    ⟨some 4, .p (.move (.tmp 7)), none⟩])
  (.ret)),
  [.tmp 4], false⟩
theorem c99_eq : cfn Tryz.prog cfg 99 = some c99 := by kernel_rfl

/-- slices.ContainsFunc[[]rubric/api.FieldDef,rubric/api.FieldDef] -/
def c100 : AFn := ⟨
  .seq (.region [
    ⟨some 4, .p (.move (.con (.bool false))), none⟩])
  (.seq (.region [
    ⟨some 5, .p (.move (.tmp 0)), none⟩,
    ⟨some 6, .p (.move (.tmp 1)), none⟩,
    ⟨some 7, .call 45 [(.tmp 5), (.tmp 6)], none⟩,
    ⟨some 8, .p (.bin .geq .no false (.tmp 7) (.con (.int .i64 (.ofNat 0)))), none⟩,
    ⟨some 4, .p (.move (.tmp 8)), none⟩])
  (.ret)),
  [.tmp 4], false⟩
theorem c100_eq : cfn Tryz.prog cfg 100 = some c100 := by kernel_rfl

/-- slices.ContainsFunc[[]rubric/api.InDef,rubric/api.InDef] -/
def c104 : AFn := ⟨
  .seq (.region [
    ⟨some 4, .p (.move (.con (.bool false))), none⟩])
  (.seq (.region [
    ⟨some 5, .p (.move (.tmp 0)), none⟩,
    ⟨some 6, .p (.move (.tmp 1)), none⟩,
    ⟨some 7, .call 151 [(.tmp 5), (.tmp 6)], none⟩,
    ⟨some 8, .p (.bin .geq .no false (.tmp 7) (.con (.int .i64 (.ofNat 0)))), none⟩,
    ⟨some 4, .p (.move (.tmp 8)), none⟩])
  (.ret)),
  [.tmp 4], false⟩
theorem c104_eq : cfn Tryz.prog cfg 104 = some c104 := by kernel_rfl

/-- (*rubric/schema.checker).inputs$1 -/
def c105 : AFn := ⟨
  .seq (.region [
    ⟨some 2, .w (.box 9 (.tmp 0)), none⟩,
    ⟨some 3, .p (.move (.con (.bool false))), none⟩])
  (.seq (.region [
    ⟨some 4, .p (.faddr 0 (.tmp 2)), none⟩,
    ⟨some 5, .r (.load none (.tmp 4)) [], none⟩,
    ⟨some 6, .p (.faddr 0 (.tmp 1)), none⟩,
    ⟨some 7, .r (.load none (.tmp 6)) [], none⟩,
    ⟨some 8, .p (.bin .eql .no false (.tmp 5) (.tmp 7)), none⟩,
    ⟨some 3, .p (.move (.tmp 8)), none⟩])
  (.ret)),
  [.tmp 3], false⟩
theorem c105_eq : cfn Tryz.prog cfg 105 = some c105 := by kernel_rfl

/-- slices.Grow[[]rubric/api.Problem,rubric/api.Problem] -/
def c107 : AFn := ⟨
  .seq (.region [
    ⟨some 4, .p (.move (.con .nils)), none⟩])
  (.seq (.seq (.region [
    ⟨some 5, .p (.move (.tmp 1)), none⟩,
    ⟨some 6, .p (.bin .lss .no false (.tmp 5) (.con (.int .i64 (.ofNat 0)))), none⟩])
  (.cond (.tmp 6)
    (.region [
      ⟨some 7, .p (.mkif 9 (.con (.str [99, 97, 110, 110, 111, 116, 32, 98, 101, 32, 110, 101, 103, 97, 116, 105, 118, 101]))), none⟩,
      ⟨none, .fail, none⟩])
    (.skip)))
  (.seq (.seq (.region [
    ⟨some 8, .p (.move (.tmp 1)), none⟩,
    ⟨some 9, .p (.move (.tmp 0)), none⟩,
    ⟨some 10, .p (.cap (.tmp 9)), none⟩,
    ⟨some 11, .p (.move (.tmp 0)), none⟩,
    ⟨some 12, .p (.len false (.tmp 11)), none⟩,
    ⟨some 13, .p (.bin .sub .no false (.tmp 10) (.tmp 12)), none⟩,
    ⟨some 14, .p (.bin .sub .no false (.tmp 8) (.tmp 13)), none⟩,
    ⟨some 1, .p (.move (.tmp 14)), none⟩])
  (.seq (.region [
    ⟨some 15, .p (.move (.tmp 1)), none⟩,
    ⟨some 16, .p (.bin .gtr .no false (.tmp 15) (.con (.int .i64 (.ofNat 0)))), none⟩])
  (.cond (.tmp 16)
    (.region [
      ⟨some 17, .p (.move (.tmp 0)), none⟩,
      ⟨some 18, .p (.move (.tmp 0)), none⟩,
      ⟨some 19, .p (.cap (.tmp 18)), none⟩,
      ⟨some 20, .p (.sliceL 2 (.tmp 17) none (some (.tmp 19)) none), none⟩,
      ⟨some 21, .p (.move (.tmp 1)), none⟩,
      ⟨some 22, .w (.growz 2 16 (.tmp 20) (.tmp 21)), none⟩,
      ⟨some 23, .p (.move (.tmp 0)), none⟩,
      ⟨some 24, .p (.len false (.tmp 23)), none⟩,
      ⟨some 25, .p (.sliceL 2 (.tmp 22) none (some (.tmp 24)) none), none⟩,
      ⟨some 0, .p (.move (.tmp 25)), none⟩])
    (.skip))))
  (.seq (.region [
    ⟨some 26, .p (.move (.tmp 0)), none⟩,
    ⟨some 4, .p (.move (.tmp 26)), none⟩])
  (.ret)))),
  [.tmp 4], true⟩
theorem c107_eq : cfn Tryz.prog cfg 107 = some c107 := by kernel_rfl

/-- slices.pdqsortCmpFunc[rubric/api.Problem] -/
def c108 : AFn := ⟨
  .seq (.region [
    ⟨some 10, .p (.move (.con (.bool true))), none⟩])
  (.seq (.region [
    ⟨some 11, .p (.move (.con (.bool true))), none⟩])
  (.block 0
    (.loop
      (.block 1
        (.seq (.region [
          ⟨some 21, .p (.move (.tmp 2)), none⟩,
          ⟨some 22, .p (.move (.tmp 1)), none⟩,
          ⟨some 23, .p (.bin .sub .no false (.tmp 21) (.tmp 22)), none⟩,
          ⟨some 12, .p (.move (.tmp 23)), none⟩])
        (.seq (.seq (.region [
          ⟨some 24, .p (.move (.tmp 12)), none⟩,
          ⟨some 25, .p (.bin .leq .no false (.tmp 24) (.con (.int .i64 (.ofNat 12)))), none⟩])
        (.cond (.tmp 25)
          (.seq (.region [
            ⟨some 26, .p (.move (.tmp 0)), none⟩,
            ⟨some 27, .p (.move (.tmp 1)), none⟩,
            ⟨some 28, .p (.move (.tmp 2)), none⟩,
            ⟨some 29, .p (.move (.tmp 4)), none⟩,
            ⟨some 30, .call 154 [(.tmp 26), (.tmp 27), (.tmp 28), (.tmp 29)], none⟩])
          (.ret))
          (.skip)))
        (.seq (.seq (.region [
          ⟨some 31, .p (.move (.tmp 3)), none⟩,
          ⟨some 32, .p (.bin .eql .no true (.tmp 31) (.con (.int .i64 (.ofNat 0)))), none⟩])
        (.cond (.tmp 32)
          (.seq (.region [
            ⟨some 33, .p (.move (.tmp 0)), none⟩,
            ⟨some 34, .p (.move (.tmp 1)), none⟩,
            ⟨some 35, .p (.move (.tmp 2)), none⟩,
            ⟨some 36, .p (.move (.tmp 4)), none⟩,
            ⟨some 37, .call 155 [(.tmp 33), (.tmp 34), (.tmp 35), (.tmp 36)], none⟩])
          (.ret))
          (.skip)))
        (.seq (.seq (.region [
          ⟨some 38, .p (.move (.tmp 10)), none⟩,
          ⟨some 39, .p (.un .not (.tmp 38)), none⟩])
        (.cond (.tmp 39)
          (.seq (.region [
            ⟨some 40, .p (.move (.tmp 0)), none⟩,
            ⟨some 41, .p (.move (.tmp 1)), none⟩,
            ⟨some 42, .p (.move (.tmp 2)), none⟩,
            ⟨some 43, .p (.move (.tmp 4)), none⟩,
            ⟨some 44, .call 156 [(.tmp 40), (.tmp 41), (.tmp 42), (.tmp 43)], none⟩])
          (.region [
            ⟨some 45, .p (.move (.tmp 3)), none⟩,
            ⟨some 46, .p (.bin .sub .no false (.tmp 45) (.con (.int .i64 (.ofNat 1)))), none⟩,
            ⟨some 3, .p (.move (.tmp 46)), none⟩]))
          (.skip)))
        (.seq (.region [
          ⟨some 48, .p (.move (.tmp 0)), none⟩,
          ⟨some 49, .p (.move (.tmp 1)), none⟩,
          ⟨some 50, .p (.move (.tmp 2)), none⟩,
          ⟨some 51, .p (.move (.tmp 4)), none⟩,
          ⟨some 52, .call 157 [(.tmp 48), (.tmp 49), (.tmp 50), (.tmp 51)], none⟩,
          ⟨some 47, .p (.move (.tmp 52)), none⟩,
          ⟨some 53, .p (.extract (.tmp 47) 0), none⟩,
          ⟨some 54, .p (.extract (.tmp 47) 1), none⟩,
          ⟨some 13, .p (.move (.tmp 53)), none⟩,
          ⟨some 14, .p (.move (.tmp 54)), none⟩])
        (.seq (.seq (.region [
          ⟨some 55, .p (.move (.tmp 14)), none⟩,
          ⟨some 56, .p (.bin .eql .no true (.tmp 55) (.con (.int .i64 (.ofNat 2)))), none⟩])
        (.cond (.tmp 56)
          (.seq (.region [
            ⟨some 57, .p (.move (.tmp 0)), none⟩,
            ⟨some 58, .p (.move (.tmp 1)), none⟩,
            ⟨some 59, .p (.move (.tmp 2)), none⟩,
            ⟨some 60, .p (.move (.tmp 4)), none⟩,
            ⟨some 61, .call 158 [(.tmp 57), (.tmp 58), (.tmp 59), (.tmp 60)], none⟩])
          (.seq (.region [
            ⟨some 62, .p (.move (.tmp 2)), none⟩,
            ⟨some 63, .p (.bin .sub .no false (.tmp 62) (.con (.int .i64 (.ofNat 1)))), none⟩,
            ⟨some 64, .p (.move (.tmp 13)), none⟩,
            ⟨some 65, .p (.move (.tmp 1)), none⟩,
            ⟨some 66, .p (.bin .sub .no false (.tmp 64) (.tmp 65)), none⟩,
            ⟨some 67, .p (.bin .sub .no false (.tmp 63) (.tmp 66)), none⟩,
            ⟨some 13, .p (.move (.tmp 67)), none⟩])
          (.region [
            ⟨some 14, .p (.move (.con (.int .i64 (.ofNat 1)))), none⟩])))
          (.skip)))
        (.seq (.seq (.region [
          ⟨some 68, .p (.move (.tmp 10)), none⟩,
          ⟨some 69, .p (.move (.tmp 68)), none⟩,
          ⟨some 70, .p (.move (.tmp 11)), (some (69, true))⟩,
          ⟨some 71, .p (.pick (.tmp 69) (.tmp 70) (.con (.bool false))), none⟩,
          ⟨some 72, .p (.move (.tmp 71)), none⟩,
          ⟨some 73, .p (.move (.tmp 14)), (some (72, true))⟩,
          ⟨some 74, .p (.bin .eql .no true (.tmp 73) (.con (.int .i64 (.ofNat 1)))), (some (72, true))⟩,
          ⟨some 75, .p (.pick (.tmp 72) (.tmp 74) (.con (.bool false))), none⟩])
        (.cond (.tmp 75)
          (.seq (.region [
            ⟨some 76, .p (.move (.tmp 0)), none⟩,
            ⟨some 77, .p (.move (.tmp 1)), none⟩,
            ⟨some 78, .p (.move (.tmp 2)), none⟩,
            ⟨some 79, .p (.move (.tmp 4)), none⟩,
            ⟨some 80, .call 159 [(.tmp 76), (.tmp 77), (.tmp 78), (.tmp 79)], none⟩])
          (.cond (.tmp 80)
            (.ret)
            (.skip)))
          (.skip)))
        (.seq (.seq (.regionD [
          ⟨some 81, .p (.move (.tmp 1)), none⟩,
          ⟨some 82, .p (.bin .gtr .no false (.tmp 81) (.con (.int .i64 (.ofNat 0)))), none⟩,
          ⟨some 83, .p (.move (.tmp 82)), none⟩,
          ⟨some 84, .p (.move (.tmp 4)), (some (83, true))⟩,
          ⟨some 85, .p (.move (.tmp 0)), (some (83, true))⟩,
          ⟨some 86, .p (.move (.tmp 1)), (some (83, true))⟩,
          ⟨some 87, .p (.bin .sub .no false (.tmp 86) (.con (.int .i64 (.ofNat 1)))), (some (83, true))⟩,
          ⟨some 88, .p (.iaddr 2 (.tmp 85) (.tmp 87)), (some (83, true))⟩,
          ⟨some 89, .r (.load (some 2) (.tmp 88)) [], (some (83, true))⟩,
          ⟨some 90, .p (.move (.tmp 0)), (some (83, true))⟩,
          ⟨some 91, .p (.move (.tmp 13)), (some (83, true))⟩,
          ⟨some 92, .p (.iaddr 2 (.tmp 90) (.tmp 91)), (some (83, true))⟩,
          ⟨some 93, .r (.load (some 2) (.tmp 92)) [], (some (83, true))⟩,
          ⟨some 94, .callv (.tmp 84) [(.tmp 89), (.tmp 93)], (some (83, true))⟩,
          ⟨some 95, .p (.bin .lss .no false (.tmp 94) (.con (.int .i64 (.ofNat 0)))), (some (83, true))⟩,
          ⟨some 96, .p (.un .not (.tmp 95)), (some (83, true))⟩,
          ⟨some 97, .p (.pick (.tmp 83) (.tmp 96) (.con (.bool false))), none⟩])
        (.cond (.tmp 97)
          (.seq (.region [
            ⟨some 98, .p (.move (.tmp 0)), none⟩,
            ⟨some 99, .p (.move (.tmp 1)), none⟩,
            ⟨some 100, .p (.move (.tmp 2)), none⟩,
            ⟨some 101, .p (.move (.tmp 13)), none⟩,
            ⟨some 102, .p (.move (.tmp 4)), none⟩,
            ⟨some 103, .call 160 [(.tmp 98), (.tmp 99), (.tmp 100), (.tmp 101), (.tmp 102)], none⟩,
            ⟨some 15, .p (.move (.tmp 103)), none⟩])
          (.seq (.region [
            ⟨some 104, .p (.move (.tmp 15)), none⟩,
            ⟨some 1, .p (.move (.tmp 104)), none⟩])
          (.exit 1)))
          (.skip)))
        (.seq (.region [
          ⟨some 106, .p (.move (.tmp 0)), none⟩,
          ⟨some 107, .p (.move (.tmp 1)), none⟩,
          ⟨some 108, .p (.move (.tmp 2)), none⟩,
          ⟨some 109, .p (.move (.tmp 13)), none⟩,
          ⟨some 110, .p (.move (.tmp 4)), none⟩,
          ⟨some 111, .call 161 [(.tmp 106), (.tmp 107), (.tmp 108), (.tmp 109), (.tmp 110)], none⟩,
          ⟨some 105, .p (.move (.tmp 111)), none⟩,
          ⟨some 112, .p (.extract (.tmp 105) 0), none⟩,
          ⟨some 113, .p (.extract (.tmp 105) 1), none⟩,
          ⟨some 16, .p (.move (.tmp 112)), none⟩,
          ⟨some 17, .p (.move (.tmp 113)), none⟩])
        (.seq (.region [
          ⟨some 114, .p (.move (.tmp 17)), none⟩,
          ⟨some 11, .p (.move (.tmp 114)), none⟩])
        (.seq (.region [
          ⟨some 115, .p (.move (.tmp 16)), none⟩,
          ⟨some 116, .p (.move (.tmp 1)), none⟩,
          ⟨some 117, .p (.bin .sub .no false (.tmp 115) (.tmp 116)), none⟩,
          ⟨some 118, .p (.move (.tmp 2)), none⟩,
          ⟨some 119, .p (.move (.tmp 16)), none⟩,
          ⟨some 120, .p (.bin .sub .no false (.tmp 118) (.tmp 119)), none⟩,
          ⟨some 18, .p (.move (.tmp 117)), none⟩,
          ⟨some 19, .p (.move (.tmp 120)), none⟩])
        (.seq (.region [
          ⟨some 121, .p (.move (.tmp 12)), none⟩,
          ⟨some 122, .p (.bin .quo .no false (.tmp 121) (.con (.int .i64 (.ofNat 8)))), none⟩,
          ⟨some 20, .p (.move (.tmp 122)), none⟩])
        (.seq (.region [
          ⟨some 123, .p (.move (.tmp 18)), none⟩,
          ⟨some 124, .p (.move (.tmp 19)), none⟩,
          ⟨some 125, .p (.bin .lss .no false (.tmp 123) (.tmp 124)), none⟩])
        (.cond (.tmp 125)
          (.seq (.region [
            ⟨some 126, .p (.move (.tmp 18)), none⟩,
            ⟨some 127, .p (.move (.tmp 20)), none⟩,
            ⟨some 128, .p (.bin .geq .no false (.tmp 126) (.tmp 127)), none⟩,
            ⟨some 10, .p (.move (.tmp 128)), none⟩])
          (.seq (.region [
            ⟨some 129, .p (.move (.tmp 0)), none⟩,
            ⟨some 130, .p (.move (.tmp 1)), none⟩,
            ⟨some 131, .p (.move (.tmp 16)), none⟩,
            ⟨some 132, .p (.move (.tmp 3)), none⟩,
            ⟨some 133, .p (.move (.tmp 4)), none⟩,
            ⟨some 134, .call 108 [(.tmp 129), (.tmp 130), (.tmp 131), (.tmp 132), (.tmp 133)], none⟩])
          (.region [
            ⟨some 135, .p (.move (.tmp 16)), none⟩,
            ⟨some 136, .p (.bin .add .no false (.tmp 135) (.con (.int .i64 (.ofNat 1)))), none⟩,
            ⟨some 1, .p (.move (.tmp 136)), none⟩])))
          (.seq (.region [
            ⟨some 137, .p (.move (.tmp 19)), none⟩,
            ⟨some 138, .p (.move (.tmp 20)), none⟩,
            ⟨some 139, .p (.bin .geq .no false (.tmp 137) (.tmp 138)), none⟩,
            ⟨some 10, .p (.move (.tmp 139)), none⟩])
          (.seq (.region [
            ⟨some 140, .p (.move (.tmp 0)), none⟩,
            ⟨some 141, .p (.move (.tmp 16)), none⟩,
            ⟨some 142, .p (.bin .add .no false (.tmp 141) (.con (.int .i64 (.ofNat 1)))), none⟩,
            ⟨some 143, .p (.move (.tmp 2)), none⟩,
            ⟨some 144, .p (.move (.tmp 3)), none⟩,
            ⟨some 145, .p (.move (.tmp 4)), none⟩,
            ⟨some 146, .call 108 [(.tmp 140), (.tmp 142), (.tmp 143), (.tmp 144), (.tmp 145)], none⟩])
          (.region [
            ⟨some 147, .p (.move (.tmp 16)), none⟩,
            ⟨some 2, .p (.move (.tmp 147)), none⟩]))))))))))))))))))))),
  [], false⟩
theorem c108_eq : cfn Tryz.prog cfg 108 = some c108 := by kernel_rfl

/-- (*rubric/lex.scanner).gap -/
def c110 : AFn := ⟨
  .seq (.region [
    ⟨some 2, .p (.move (.con (.bool false))), none⟩])
  (.seq (.block 0
    (.loop
      (.seq (.seq (.regionD [
        ⟨some 6, .p (.move (.tmp 0)), none⟩,
        ⟨some 7, .p (.nilck (.tmp 6)), none⟩,
        ⟨some 8, .p (.faddr 1 (.tmp 7)), none⟩,
        ⟨some 9, .r (.load none (.tmp 8)) [], none⟩,
        ⟨some 10, .p (.move (.tmp 0)), none⟩,
        ⟨some 11, .p (.nilck (.tmp 10)), none⟩,
        ⟨some 12, .p (.faddr 0 (.tmp 11)), none⟩,
        ⟨some 13, .r (.load none (.tmp 12)) [], none⟩,
        ⟨some 14, .p (.len true (.tmp 13)), none⟩,
        ⟨some 15, .p (.bin .lss .no false (.tmp 9) (.tmp 14)), none⟩])
      (.cond (.tmp 15)
        (.skip)
        (.exit 0)))
      (.block 1
        (.seq (.regionD [
          ⟨some 16, .p (.move (.tmp 0)), none⟩,
          ⟨some 17, .p (.nilck (.tmp 16)), none⟩,
          ⟨some 18, .p (.faddr 0 (.tmp 17)), none⟩,
          ⟨some 19, .r (.load none (.tmp 18)) [], none⟩,
          ⟨some 20, .p (.move (.tmp 0)), none⟩,
          ⟨some 21, .p (.nilck (.tmp 20)), none⟩,
          ⟨some 22, .p (.faddr 1 (.tmp 21)), none⟩,
          ⟨some 23, .r (.load none (.tmp 22)) [], none⟩,
          ⟨some 24, .p (.indexS (.tmp 19) (.tmp 23)), none⟩,
          ⟨some 3, .p (.move (.tmp 24)), none⟩])
        (.block 2
          (.seq (.region [
            ⟨some 26, .p (.move (.tmp 3)), none⟩,
            ⟨some 27, .p (.bin .eql .no true (.tmp 26) (.con (.int .u8 (.ofNat 32)))), none⟩,
            ⟨some 28, .p (.move (.tmp 27)), none⟩,
            ⟨some 29, .p (.move (.tmp 3)), (some (28, false))⟩,
            ⟨some 30, .p (.bin .eql .no true (.tmp 29) (.con (.int .u8 (.ofNat 9)))), (some (28, false))⟩,
            ⟨some 31, .p (.pick (.tmp 28) (.con (.bool true)) (.tmp 30)), none⟩,
            ⟨some 32, .p (.move (.tmp 31)), none⟩,
            ⟨some 33, .p (.move (.tmp 3)), (some (32, false))⟩,
            ⟨some 34, .p (.bin .eql .no true (.tmp 33) (.con (.int .u8 (.ofNat 10)))), (some (32, false))⟩,
            ⟨some 35, .p (.pick (.tmp 32) (.con (.bool true)) (.tmp 34)), none⟩,
            ⟨some 36, .p (.move (.tmp 35)), none⟩,
            ⟨some 37, .p (.move (.tmp 3)), (some (36, false))⟩,
            ⟨some 38, .p (.bin .eql .no true (.tmp 37) (.con (.int .u8 (.ofNat 13)))), (some (36, false))⟩,
            ⟨some 39, .p (.pick (.tmp 36) (.con (.bool true)) (.tmp 38)), none⟩,
            ⟨some 40, .p (.move (.tmp 39)), none⟩,
            ⟨some 41, .p (.move (.tmp 3)), (some (40, false))⟩,
            ⟨some 42, .p (.bin .eql .no true (.tmp 41) (.con (.int .u8 (.ofNat 44)))), (some (40, false))⟩,
            ⟨some 43, .p (.pick (.tmp 40) (.con (.bool true)) (.tmp 42)), none⟩,
            ⟨some 25, .p (.move (.tmp 43)), none⟩])
          (.cond (.tmp 25)
            (.region [
              ⟨some 44, .p (.move (.tmp 0)), none⟩,
              ⟨some 45, .p (.nilck (.tmp 44)), none⟩,
              ⟨some 46, .p (.faddr 1 (.tmp 45)), none⟩,
              ⟨some 47, .r (.load none (.tmp 46)) [], none⟩,
              ⟨some 48, .p (.bin .add .no false (.tmp 47) (.con (.int .i64 (.ofNat 1)))), none⟩,
              ⟨some 49, .p (.nilck (.tmp 44)), none⟩,
              ⟨some 50, .p (.faddr 1 (.tmp 49)), none⟩,
              ⟨none, .w (.store 1 (.tmp 50) (.tmp 48)), none⟩])
            (.seq (.region [
              ⟨some 52, .p (.move (.tmp 0)), none⟩,
              ⟨some 53, .p (.nilck (.tmp 52)), none⟩,
              ⟨some 54, .p (.faddr 1 (.tmp 53)), none⟩,
              ⟨some 55, .r (.load none (.tmp 54)) [], none⟩,
              ⟨some 56, .p (.bin .eql .no true (.tmp 55) (.con (.int .i64 (.ofNat 0)))), none⟩,
              ⟨some 57, .p (.move (.tmp 56)), none⟩,
              ⟨some 58, .p (.move (.tmp 0)), (some (57, true))⟩,
              ⟨some 59, .p (.nilck (.tmp 58)), (some (57, true))⟩,
              ⟨some 60, .p (.faddr 0 (.tmp 59)), (some (57, true))⟩,
              ⟨some 61, .r (.load none (.tmp 60)) [], (some (57, true))⟩,
              ⟨some 62, .call 99 [(.tmp 61), (.con (.str [239, 187, 191]))], (some (57, true))⟩,
              ⟨some 63, .p (.pick (.tmp 57) (.tmp 62) (.con (.bool false))), none⟩,
              ⟨some 51, .p (.move (.tmp 63)), none⟩])
            (.cond (.tmp 51)
              (.region [
                ⟨some 64, .p (.move (.tmp 0)), none⟩,
                ⟨some 65, .p (.nilck (.tmp 64)), none⟩,
                ⟨some 66, .p (.faddr 1 (.tmp 65)), none⟩,
                ⟨some 67, .r (.load none (.tmp 66)) [], none⟩,
                ⟨some 68, .p (.bin .add .no false (.tmp 67) (.con (.int .i64 (.ofNat 3)))), none⟩,
                ⟨some 69, .p (.nilck (.tmp 64)), none⟩,
                ⟨some 70, .p (.faddr 1 (.tmp 69)), none⟩,
                ⟨none, .w (.store 1 (.tmp 70) (.tmp 68)), none⟩])
              (.seq (.region [
                ⟨some 72, .p (.move (.tmp 3)), none⟩,
                ⟨some 73, .p (.bin .eql .no true (.tmp 72) (.con (.int .u8 (.ofNat 35)))), none⟩,
                ⟨some 71, .p (.move (.tmp 73)), none⟩])
              (.cond (.tmp 71)
                (.block 3
                  (.loop
                    (.seq (.seq (.regionD [
                      ⟨some 74, .p (.move (.tmp 0)), none⟩,
                      ⟨some 75, .p (.nilck (.tmp 74)), none⟩,
                      ⟨some 76, .p (.faddr 1 (.tmp 75)), none⟩,
                      ⟨some 77, .r (.load none (.tmp 76)) [], none⟩,
                      ⟨some 78, .p (.move (.tmp 0)), none⟩,
                      ⟨some 79, .p (.nilck (.tmp 78)), none⟩,
                      ⟨some 80, .p (.faddr 0 (.tmp 79)), none⟩,
                      ⟨some 81, .r (.load none (.tmp 80)) [], none⟩,
                      ⟨some 82, .p (.len true (.tmp 81)), none⟩,
                      ⟨some 83, .p (.bin .lss .no false (.tmp 77) (.tmp 82)), none⟩,
                      ⟨some 84, .p (.move (.tmp 83)), none⟩,
                      ⟨some 85, .p (.move (.tmp 0)), (some (84, true))⟩,
                      ⟨some 86, .p (.nilck (.tmp 85)), (some (84, true))⟩,
                      ⟨some 87, .p (.faddr 0 (.tmp 86)), (some (84, true))⟩,
                      ⟨some 88, .r (.load none (.tmp 87)) [], (some (84, true))⟩,
                      ⟨some 89, .p (.move (.tmp 0)), (some (84, true))⟩,
                      ⟨some 90, .p (.nilck (.tmp 89)), (some (84, true))⟩,
                      ⟨some 91, .p (.faddr 1 (.tmp 90)), (some (84, true))⟩,
                      ⟨some 92, .r (.load none (.tmp 91)) [], (some (84, true))⟩,
                      ⟨some 93, .p (.indexS (.tmp 88) (.tmp 92)), (some (84, true))⟩,
                      ⟨some 94, .p (.bin .neq .no true (.tmp 93) (.con (.int .u8 (.ofNat 10)))), (some (84, true))⟩,
                      ⟨some 95, .p (.pick (.tmp 84) (.tmp 94) (.con (.bool false))), none⟩,
                      ⟨some 96, .p (.move (.tmp 95)), none⟩,
                      ⟨some 97, .p (.move (.tmp 0)), (some (96, true))⟩,
                      ⟨some 98, .p (.nilck (.tmp 97)), (some (96, true))⟩,
                      ⟨some 99, .p (.faddr 0 (.tmp 98)), (some (96, true))⟩,
                      ⟨some 100, .r (.load none (.tmp 99)) [], (some (96, true))⟩,
                      ⟨some 101, .p (.move (.tmp 0)), (some (96, true))⟩,
                      ⟨some 102, .p (.nilck (.tmp 101)), (some (96, true))⟩,
                      ⟨some 103, .p (.faddr 1 (.tmp 102)), (some (96, true))⟩,
                      ⟨some 104, .r (.load none (.tmp 103)) [], (some (96, true))⟩,
                      ⟨some 105, .p (.indexS (.tmp 100) (.tmp 104)), (some (96, true))⟩,
                      ⟨some 106, .p (.bin .neq .no true (.tmp 105) (.con (.int .u8 (.ofNat 13)))), (some (96, true))⟩,
                      ⟨some 107, .p (.pick (.tmp 96) (.tmp 106) (.con (.bool false))), none⟩])
                    (.cond (.tmp 107)
                      (.skip)
                      (.exit 3)))
                    (.block 4
                      (.seq (.region [
                        ⟨some 109, .p (.move (.tmp 0)), none⟩,
                        ⟨some 110, .call 162 [(.tmp 109)], none⟩,
                        ⟨some 108, .p (.move (.tmp 110)), none⟩,
                        ⟨some 111, .p (.extract (.tmp 108) 0), none⟩,
                        ⟨some 112, .p (.extract (.tmp 108) 1), none⟩,
                        ⟨some 4, .p (.move (.tmp 111)), none⟩,
                        ⟨some 5, .p (.move (.tmp 112)), none⟩])
                      (.seq (.seq (.region [
                        ⟨some 113, .p (.move (.tmp 5)), none⟩,
                        ⟨some 114, .p (.bin .eql .no true (.tmp 113) (.con (.int .i64 (.ofNat 0)))), none⟩,
                        ⟨some 115, .p (.move (.tmp 114)), none⟩,
                        ⟨some 116, .p (.move (.tmp 4)), (some (115, false))⟩,
                        ⟨some 117, .p (.bin .lss .no false (.tmp 116) (.con (.int .i32 (.ofNat 32)))), (some (115, false))⟩,
                        ⟨some 118, .p (.move (.tmp 117)), (some (115, false))⟩,
                        ⟨some 119, .p (.move (.tmp 4)), (some (118, true))⟩,
                        ⟨some 120, .p (.bin .neq .no true (.tmp 119) (.con (.int .i32 (.ofNat 9)))), (some (118, true))⟩,
                        ⟨some 121, .p (.pick (.tmp 118) (.tmp 120) (.con (.bool false))), (some (115, false))⟩,
                        ⟨some 122, .p (.pick (.tmp 115) (.con (.bool true)) (.tmp 121)), none⟩])
                      (.cond (.tmp 122)
                        (.seq (.region [
                          ⟨some 2, .p (.move (.con (.bool false))), none⟩])
                        (.ret))
                        (.skip)))
                      (.region [
                        ⟨some 123, .p (.move (.tmp 0)), none⟩,
                        ⟨some 124, .p (.nilck (.tmp 123)), none⟩,
                        ⟨some 125, .p (.faddr 1 (.tmp 124)), none⟩,
                        ⟨some 126, .r (.load none (.tmp 125)) [], none⟩,
                        ⟨some 127, .p (.move (.tmp 5)), none⟩,
                        ⟨some 128, .p (.bin .add .no false (.tmp 126) (.tmp 127)), none⟩,
                        ⟨some 129, .p (.nilck (.tmp 123)), none⟩,
                        ⟨some 130, .p (.faddr 1 (.tmp 129)), none⟩,
                        ⟨none, .w (.store 1 (.tmp 130) (.tmp 128)), none⟩])))))))
                (.seq (.region [
                  ⟨some 2, .p (.move (.con (.bool true))), none⟩])
                (.ret))))))))))))))
  (.seq (.region [
    ⟨some 2, .p (.move (.con (.bool true))), none⟩])
  (.ret))),
  [.tmp 2], false⟩
theorem c110_eq : cfn Tryz.prog cfg 110 = some c110 := by kernel_rfl

/-- (*rubric/lex.scanner).token -/
def c111 : AFn := ⟨
  .seq (.region [
    ⟨some 2, .w (.new [(.int .i64 (.ofNat 0)), (.str []), (.int .i64 (.ofNat 0))]), none⟩,
    ⟨some 3, .p (.move (.con (.bool false))), none⟩])
  (.seq (.region [
    ⟨some 8, .p (.move (.tmp 0)), none⟩,
    ⟨some 9, .p (.nilck (.tmp 8)), none⟩,
    ⟨some 10, .p (.faddr 1 (.tmp 9)), none⟩,
    ⟨some 11, .r (.load none (.tmp 10)) [], none⟩,
    ⟨some 4, .p (.move (.tmp 11)), none⟩])
  (.seq (.region [
    ⟨some 12, .p (.move (.tmp 4)), none⟩,
    ⟨some 13, .p (.build [(.int .i64 (.ofNat 0)), (.str []), (.int .i64 (.ofNat 0))] [(2, 1, (.tmp 12))]), none⟩,
    ⟨some 5, .w (.new [(.int .i64 (.ofNat 0)), (.str []), (.int .i64 (.ofNat 0))]), none⟩,
    ⟨none, .w (.store 3 (.tmp 5) (.tmp 13)), none⟩])
  (.seq (.region [
    ⟨some 6, .p (.move (.con (.bool true))), none⟩])
  (.seq (.seq (.region [
    ⟨some 14, .p (.move (.tmp 0)), none⟩,
    ⟨some 15, .call 163 [(.tmp 14), (.con (.int .i64 (.ofNat 0)))], none⟩,
    ⟨some 7, .p (.move (.tmp 15)), none⟩])
  (.block 0
    (.seq (.region [
      ⟨some 18, .p (.move (.tmp 7)), none⟩,
      ⟨some 19, .call 164 [(.tmp 18)], none⟩,
      ⟨some 17, .p (.move (.tmp 19)), none⟩])
    (.cond (.tmp 17)
      (.seq (.region [
        ⟨some 20, .p (.faddr 0 (.tmp 5)), none⟩,
        ⟨none, .w (.store 1 (.tmp 20) (.con (.int .i64 (.ofNat 1)))), none⟩])
      (.region [
        ⟨some 21, .p (.move (.tmp 0)), none⟩,
        ⟨some 22, .call 165 [(.tmp 21), (.con (.fn 166 [] []))], none⟩]))
      (.seq (.region [
        ⟨some 24, .p (.move (.tmp 7)), none⟩,
        ⟨some 25, .p (.bin .eql .no true (.tmp 24) (.con (.int .u8 (.ofNat 45)))), none⟩,
        ⟨some 26, .p (.move (.tmp 25)), none⟩,
        ⟨some 27, .p (.move (.tmp 7)), (some (26, false))⟩,
        ⟨some 28, .call 167 [(.tmp 27)], (some (26, false))⟩,
        ⟨some 29, .p (.pick (.tmp 26) (.con (.bool true)) (.tmp 28)), none⟩,
        ⟨some 23, .p (.move (.tmp 29)), none⟩])
      (.cond (.tmp 23)
        (.seq (.region [
          ⟨some 30, .p (.move (.tmp 0)), none⟩,
          ⟨some 31, .call 168 [(.tmp 30)], none⟩,
          ⟨some 32, .p (.faddr 0 (.tmp 5)), none⟩,
          ⟨none, .w (.store 1 (.tmp 32) (.tmp 31)), none⟩])
        (.region [
          ⟨some 33, .p (.faddr 0 (.tmp 5)), none⟩,
          ⟨some 34, .r (.load none (.tmp 33)) [], none⟩,
          ⟨some 35, .p (.bin .gtr .no false (.tmp 34) (.con (.int .i64 (.ofNat 0)))), none⟩,
          ⟨some 6, .p (.move (.tmp 35)), none⟩]))
        (.seq (.region [
          ⟨some 37, .p (.move (.tmp 0)), none⟩,
          ⟨some 38, .p (.nilck (.tmp 37)), none⟩,
          ⟨some 39, .p (.faddr 0 (.tmp 38)), none⟩,
          ⟨some 40, .r (.load none (.tmp 39)) [], none⟩,
          ⟨some 41, .p (.move (.tmp 4)), none⟩,
          ⟨some 42, .p (.sliceS (.tmp 40) (some (.tmp 41)) none), none⟩,
          ⟨some 43, .call 99 [(.tmp 42), (.con (.str [34, 34, 34]))], none⟩,
          ⟨some 36, .p (.move (.tmp 43)), none⟩])
        (.cond (.tmp 36)
          (.seq (.region [
            ⟨some 44, .p (.faddr 0 (.tmp 5)), none⟩,
            ⟨none, .w (.store 1 (.tmp 44) (.con (.int .i64 (.ofNat 4)))), none⟩])
          (.region [
            ⟨some 46, .p (.move (.tmp 0)), none⟩,
            ⟨some 47, .call 169 [(.tmp 46)], none⟩,
            ⟨some 45, .p (.move (.tmp 47)), none⟩,
            ⟨some 48, .p (.extract (.tmp 45) 0), none⟩,
            ⟨some 49, .p (.extract (.tmp 45) 1), none⟩,
            ⟨some 50, .p (.faddr 1 (.tmp 5)), none⟩,
            ⟨none, .w (.store 1 (.tmp 50) (.tmp 48)), none⟩,
            ⟨some 6, .p (.move (.tmp 49)), none⟩]))
          (.seq (.region [
            ⟨some 52, .p (.move (.tmp 7)), none⟩,
            ⟨some 53, .p (.bin .eql .no true (.tmp 52) (.con (.int .u8 (.ofNat 34)))), none⟩,
            ⟨some 51, .p (.move (.tmp 53)), none⟩])
          (.cond (.tmp 51)
            (.seq (.region [
              ⟨some 54, .p (.faddr 0 (.tmp 5)), none⟩,
              ⟨none, .w (.store 1 (.tmp 54) (.con (.int .i64 (.ofNat 4)))), none⟩])
            (.region [
              ⟨some 56, .p (.move (.tmp 0)), none⟩,
              ⟨some 57, .call 170 [(.tmp 56)], none⟩,
              ⟨some 55, .p (.move (.tmp 57)), none⟩,
              ⟨some 58, .p (.extract (.tmp 55) 0), none⟩,
              ⟨some 59, .p (.extract (.tmp 55) 1), none⟩,
              ⟨some 60, .p (.faddr 1 (.tmp 5)), none⟩,
              ⟨none, .w (.store 1 (.tmp 60) (.tmp 58)), none⟩,
              ⟨some 6, .p (.move (.tmp 59)), none⟩]))
            (.seq (.region [
              ⟨some 62, .p (.move (.tmp 0)), none⟩,
              ⟨some 63, .p (.nilck (.tmp 62)), none⟩,
              ⟨some 64, .p (.faddr 0 (.tmp 63)), none⟩,
              ⟨some 65, .r (.load none (.tmp 64)) [], none⟩,
              ⟨some 66, .p (.move (.tmp 4)), none⟩,
              ⟨some 67, .p (.sliceS (.tmp 65) (some (.tmp 66)) none), none⟩,
              ⟨some 68, .call 99 [(.tmp 67), (.con (.str [46, 46, 46]))], none⟩,
              ⟨some 61, .p (.move (.tmp 68)), none⟩])
            (.cond (.tmp 61)
              (.seq (.region [
                ⟨some 69, .p (.faddr 0 (.tmp 5)), none⟩,
                ⟨none, .w (.store 1 (.tmp 69) (.con (.int .i64 (.ofNat 5)))), none⟩])
              (.region [
                ⟨some 70, .p (.move (.tmp 0)), none⟩,
                ⟨some 71, .p (.nilck (.tmp 70)), none⟩,
                ⟨some 72, .p (.faddr 1 (.tmp 71)), none⟩,
                ⟨some 73, .r (.load none (.tmp 72)) [], none⟩,
                ⟨some 74, .p (.bin .add .no false (.tmp 73) (.con (.int .i64 (.ofNat 3)))), none⟩,
                ⟨some 75, .p (.nilck (.tmp 70)), none⟩,
                ⟨some 76, .p (.faddr 1 (.tmp 75)), none⟩,
                ⟨none, .w (.store 1 (.tmp 76) (.tmp 74)), none⟩]))
              (.seq (.region [
                ⟨some 78, .p (.move (.tmp 7)), none⟩,
                ⟨some 79, .p (.bin .neq .no true (.tmp 78) (.con (.int .u8 (.ofNat 0)))), none⟩,
                ⟨some 80, .p (.move (.tmp 79)), none⟩,
                ⟨some 81, .p (.move (.tmp 7)), (some (80, true))⟩,
                ⟨some 82, .call 171 [(.con (.str [33, 36, 38, 40, 41, 58, 61, 64, 91, 93, 123, 124, 125])), (.tmp 81)], (some (80, true))⟩,
                ⟨some 83, .p (.bin .geq .no false (.tmp 82) (.con (.int .i64 (.ofNat 0)))), (some (80, true))⟩,
                ⟨some 84, .p (.pick (.tmp 80) (.tmp 83) (.con (.bool false))), none⟩,
                ⟨some 77, .p (.move (.tmp 84)), none⟩])
              (.cond (.tmp 77)
                (.seq (.region [
                  ⟨some 85, .p (.faddr 0 (.tmp 5)), none⟩,
                  ⟨none, .w (.store 1 (.tmp 85) (.con (.int .i64 (.ofNat 5)))), none⟩])
                (.region [
                  ⟨some 86, .p (.move (.tmp 0)), none⟩,
                  ⟨some 87, .p (.nilck (.tmp 86)), none⟩,
                  ⟨some 88, .p (.faddr 1 (.tmp 87)), none⟩,
                  ⟨some 89, .r (.load none (.tmp 88)) [], none⟩,
                  ⟨some 90, .p (.bin .add .no false (.tmp 89) (.con (.int .i64 (.ofNat 1)))), none⟩,
                  ⟨some 91, .p (.nilck (.tmp 86)), none⟩,
                  ⟨some 92, .p (.faddr 1 (.tmp 91)), none⟩,
                  ⟨none, .w (.store 1 (.tmp 92) (.tmp 90)), none⟩]))
                (.seq (.region [
                  ⟨some 16, .r (.load (some 3) (.tmp 5)) [], none⟩,
                  ⟨none, .w (.store 3 (.tmp 2) (.tmp 16)), none⟩,
                  ⟨some 3, .p (.move (.con (.bool false))), none⟩])
                (.ret))))))))))))))))
  (.seq (.seq (.region [
    ⟨some 93, .p (.move (.tmp 6)), none⟩,
    ⟨some 94, .p (.move (.tmp 93)), none⟩,
    ⟨some 95, .p (.faddr 0 (.tmp 5)), (some (94, true))⟩,
    ⟨some 96, .r (.load none (.tmp 95)) [], (some (94, true))⟩,
    ⟨some 97, .p (.bin .neq .no true (.tmp 96) (.con (.int .i64 (.ofNat 4)))), (some (94, true))⟩,
    ⟨some 98, .p (.pick (.tmp 94) (.tmp 97) (.con (.bool false))), none⟩])
  (.cond (.tmp 98)
    (.regionD [
      ⟨some 99, .p (.move (.tmp 0)), none⟩,
      ⟨some 100, .p (.nilck (.tmp 99)), none⟩,
      ⟨some 101, .p (.faddr 0 (.tmp 100)), none⟩,
      ⟨some 102, .r (.load none (.tmp 101)) [], none⟩,
      ⟨some 103, .p (.move (.tmp 4)), none⟩,
      ⟨some 104, .p (.move (.tmp 0)), none⟩,
      ⟨some 105, .p (.nilck (.tmp 104)), none⟩,
      ⟨some 106, .p (.faddr 1 (.tmp 105)), none⟩,
      ⟨some 107, .r (.load none (.tmp 106)) [], none⟩,
      ⟨some 108, .p (.sliceS (.tmp 102) (some (.tmp 103)) (some (.tmp 107))), none⟩,
      ⟨some 109, .p (.faddr 1 (.tmp 5)), none⟩,
      ⟨none, .w (.store 1 (.tmp 109) (.tmp 108)), none⟩])
    (.skip)))
  (.seq (.region [
    ⟨some 110, .r (.load (some 3) (.tmp 5)) [], none⟩,
    ⟨some 111, .p (.move (.tmp 6)), none⟩,
    ⟨none, .w (.store 3 (.tmp 2) (.tmp 110)), none⟩,
    ⟨some 3, .p (.move (.tmp 111)), none⟩])
  (.ret))))))),
  [.cell 2 (some 3), .tmp 3], false⟩
theorem c111_eq : cfn Tryz.prog cfg 111 = some c111 := by kernel_rfl

/-- (*rubric/read.Reader).Some -/
def c113 : AFn := ⟨
  .seq (.seq (.region [
    ⟨some 8, .p (.move (.tmp 2)), none⟩])
  (.cond (.tmp 8)
    (.region [
      ⟨some 9, .p (.move (.tmp 3)), none⟩,
      ⟨some 10, .callv (.tmp 9) [], none⟩])
    (.skip)))
  (.block 0
    (.loop
      (.seq (.seq (.region [
        ⟨some 11, .p (.move (.tmp 0)), none⟩,
        ⟨some 12, .p (.nilck (.tmp 11)), none⟩,
        ⟨some 13, .p (.faddr 4 (.tmp 12)), none⟩,
        ⟨some 14, .r (.load none (.tmp 13)) [], none⟩,
        ⟨some 15, .p (.bin .eql .no true (.tmp 14) (.con (.int .i64 (.ofNat 0)))), none⟩,
        ⟨some 16, .p (.move (.tmp 15)), none⟩,
        ⟨some 17, .p (.move (.tmp 0)), (some (16, true))⟩,
        ⟨some 18, .p (.move (.tmp 1)), (some (16, true))⟩,
        ⟨some 19, .p (.buildSl 1 1 [(.str [])] [(0, 1, (.tmp 18))]), (some (16, true))⟩,
        ⟨some 20, .call 117 [(.tmp 17), (.tmp 19)], (some (16, true))⟩,
        ⟨some 21, .p (.un .not (.tmp 20)), (some (16, true))⟩,
        ⟨some 22, .p (.pick (.tmp 16) (.tmp 21) (.con (.bool false))), none⟩])
      (.cond (.tmp 22)
        (.skip)
        (.exit 0)))
      (.block 1
        (.region [
          ⟨some 23, .p (.move (.tmp 3)), none⟩,
          ⟨some 24, .callv (.tmp 23) [], none⟩]))))),
  [], false⟩
theorem c113_eq : cfn Tryz.prog cfg 113 = some c113 := by kernel_rfl

/-- (*rubric/read.Reader).Want -/
def c114 : AFn := ⟨
  .seq (.region [
    ⟨some 4, .p (.move (.tmp 0)), none⟩,
    ⟨some 5, .p (.move (.tmp 1)), none⟩,
    ⟨some 6, .call 80 [(.tmp 4), (.tmp 5)], none⟩,
    ⟨some 7, .p (.un .not (.tmp 6)), none⟩])
  (.cond (.tmp 7)
    (.region [
      ⟨some 8, .p (.move (.tmp 0)), none⟩,
      ⟨some 9, .call 72 [(.tmp 8)], none⟩])
    (.skip)),
  [], false⟩
theorem c114_eq : cfn Tryz.prog cfg 114 = some c114 := by kernel_rfl

/-- (*rubric/sdl.reader).field$1 -/
def c115 : AFn := ⟨
  .regionD [
    ⟨some 2, .p (.faddr 1 (.tmp 0)), none⟩,
    ⟨some 3, .r (.load none (.tmp 2)) [0, 4], none⟩,
    ⟨some 4, .r (.load none (.tmp 1)) [], none⟩,
    ⟨some 5, .call 84 [(.tmp 4)], none⟩,
    ⟨some 6, .p (.buildSl 9 1 [(.str []), (.str []), (.bool false), (.int .i64 (.ofNat 0)), (.str []), .nils, .nils, (.int .i64 (.ofNat 0)), (.int .i64 (.ofNat 0))] [(0, 9, (.tmp 5))]), none⟩,
    ⟨some 7, .w (.append false 9 128 (.tmp 3) (.tmp 6)), none⟩,
    ⟨some 8, .p (.faddr 1 (.tmp 0)), none⟩,
    ⟨none, .w (.store 1 (.tmp 8) (.tmp 7)), none⟩],
  [], false⟩
theorem c115_eq : cfn Tryz.prog cfg 115 = some c115 := by kernel_rfl

/-- (*rubric/read.Reader).Type -/
def c116 : AFn := ⟨
  .seq (.region [
    ⟨some 2, .p (.move (.con (.str []))), none⟩])
  (.seq (.region [
    ⟨some 3, .p (.move (.con (.str []))), none⟩])
  (.seq (.seq (.region [
    ⟨some 4, .p (.move (.tmp 0)), none⟩,
    ⟨some 5, .p (.buildSl 1 1 [(.str [])] [(0, 1, (.con (.str [91])))]), none⟩,
    ⟨some 6, .call 117 [(.tmp 4), (.tmp 5)], none⟩])
  (.cond (.tmp 6)
    (.seq (.region [
      ⟨some 7, .p (.move (.tmp 0)), none⟩,
      ⟨some 8, .call 172 [(.tmp 7), (.con (.str [91]))], none⟩])
    (.seq (.region [
      ⟨some 9, .p (.move (.tmp 0)), none⟩,
      ⟨some 10, .call 116 [(.tmp 9)], none⟩,
      ⟨some 11, .p (.bin .add .no false (.con (.str [91])) (.tmp 10)), none⟩,
      ⟨some 12, .p (.bin .add .no false (.tmp 11) (.con (.str [93]))), none⟩,
      ⟨some 3, .p (.move (.tmp 12)), none⟩])
    (.region [
      ⟨some 13, .p (.move (.tmp 0)), none⟩,
      ⟨some 14, .call 173 [(.tmp 13), (.con (.str [93]))], none⟩])))
    (.region [
      ⟨some 15, .p (.move (.tmp 0)), none⟩,
      ⟨some 16, .call 75 [(.tmp 15)], none⟩,
      ⟨some 3, .p (.move (.tmp 16)), none⟩])))
  (.seq (.seq (.region [
    ⟨some 17, .p (.move (.tmp 0)), none⟩,
    ⟨some 18, .call 80 [(.tmp 17), (.con (.str [33]))], none⟩])
  (.cond (.tmp 18)
    (.region [
      ⟨some 19, .p (.move (.tmp 3)), none⟩,
      ⟨some 20, .p (.bin .add .no false (.tmp 19) (.con (.str [33]))), none⟩,
      ⟨some 3, .p (.move (.tmp 20)), none⟩])
    (.skip)))
  (.seq (.region [
    ⟨some 21, .p (.move (.tmp 3)), none⟩,
    ⟨some 2, .p (.move (.tmp 21)), none⟩])
  (.ret))))),
  [.tmp 2], false⟩
theorem c116_eq : cfn Tryz.prog cfg 116 = some c116 := by kernel_rfl

/-- (*rubric/read.Reader).Is -/
def c117 : AFn := ⟨
  .seq (.region [
    ⟨some 4, .p (.move (.con (.bool false))), none⟩])
  (.seq (.region [
    ⟨some 8, .p (.move (.tmp 0)), none⟩,
    ⟨some 9, .call 36 [(.tmp 8)], none⟩,
    ⟨some 5, .w (.new [(.int .i64 (.ofNat 0)), (.str []), (.int .i64 (.ofNat 0))]), none⟩,
    ⟨none, .w (.store 3 (.tmp 5) (.tmp 9)), none⟩])
  (.seq (.seq (.region [
    ⟨some 10, .p (.move (.tmp 1)), none⟩,
    ⟨some 11, .p (.len false (.tmp 10)), none⟩,
    ⟨some 12, .p (.move (.con (.int .i64 (.ofNat 0)))), none⟩])
  (.block 0
    (.loop
      (.seq (.region [
        ⟨some 13, .p (.bin .lss .no false (.tmp 12) (.tmp 11)), none⟩])
      (.seq (.cond (.tmp 13)
        (.skip)
        (.exit 0))
      (.seq (.block 1
        (.seq (.region [
          ⟨some 14, .p (.iaddr 1 (.tmp 10) (.tmp 12)), none⟩,
          ⟨some 15, .r (.load none (.tmp 14)) [], none⟩,
          ⟨some 7, .p (.move (.tmp 15)), none⟩])
        (.seq (.region [
          ⟨some 16, .p (.move (.tmp 0)), none⟩,
          ⟨some 17, .p (.nilck (.tmp 16)), none⟩,
          ⟨some 18, .p (.faddr 4 (.tmp 17)), none⟩,
          ⟨some 19, .r (.load none (.tmp 18)) [], none⟩,
          ⟨some 20, .p (.bin .eql .no true (.tmp 19) (.con (.int .i64 (.ofNat 0)))), none⟩,
          ⟨some 21, .p (.move (.tmp 20)), none⟩,
          ⟨some 22, .p (.faddr 0 (.tmp 5)), (some (21, true))⟩,
          ⟨some 23, .r (.load none (.tmp 22)) [], (some (21, true))⟩,
          ⟨some 24, .p (.bin .eql .no true (.tmp 23) (.con (.int .i64 (.ofNat 5)))), (some (21, true))⟩,
          ⟨some 25, .p (.pick (.tmp 21) (.tmp 24) (.con (.bool false))), none⟩,
          ⟨some 26, .p (.move (.tmp 25)), none⟩,
          ⟨some 27, .p (.faddr 1 (.tmp 5)), (some (26, true))⟩,
          ⟨some 28, .r (.load none (.tmp 27)) [], (some (26, true))⟩,
          ⟨some 29, .p (.move (.tmp 7)), (some (26, true))⟩,
          ⟨some 30, .p (.bin .eql .no false (.tmp 28) (.tmp 29)), (some (26, true))⟩,
          ⟨some 31, .p (.pick (.tmp 26) (.tmp 30) (.con (.bool false))), none⟩])
        (.cond (.tmp 31)
          (.seq (.region [
            ⟨some 4, .p (.move (.con (.bool true))), none⟩])
          (.ret))
          (.skip)))))
      (.region [
        ⟨some 32, .p (.bin .add .no false (.tmp 12) (.con (.int .i64 (.ofNat 1)))), none⟩,
        ⟨some 12, .p (.move (.tmp 32)), none⟩])))))))
  (.seq (.region [
    ⟨some 4, .p (.move (.con (.bool false))), none⟩])
  (.ret)))),
  [.tmp 4], false⟩
theorem c117_eq : cfn Tryz.prog cfg 117 = some c117 := by kernel_rfl

/-- (*rubric/read.Reader).Value -/
def c118 : AFn := ⟨
  .seq (.region [
    ⟨some 2, .w (.box 1 (.tmp 0)), none⟩,
    ⟨some 3, .w (.box 1 (.tmp 1)), none⟩,
    ⟨some 4, .w (.new [(.int .i64 (.ofNat 0)), (.str []), .nils, .nils, (.int .i64 (.ofNat 0))]), none⟩])
  (.seq (.region [
    ⟨some 7, .r (.load none (.tmp 2)) [], none⟩,
    ⟨some 8, .call 36 [(.tmp 7)], none⟩,
    ⟨some 5, .w (.new [(.int .i64 (.ofNat 0)), (.str []), (.int .i64 (.ofNat 0))]), none⟩,
    ⟨none, .w (.store 3 (.tmp 5) (.tmp 8)), none⟩])
  (.seq (.region [
    ⟨some 9, .p (.faddr 2 (.tmp 5)), none⟩,
    ⟨some 10, .r (.load none (.tmp 9)) [], none⟩,
    ⟨some 11, .p (.build [(.int .i64 (.ofNat 0)), (.str []), .nils, .nils, (.int .i64 (.ofNat 0))] [(4, 1, (.tmp 10))]), none⟩,
    ⟨some 6, .w (.new [(.int .i64 (.ofNat 0)), (.str []), .nils, .nils, (.int .i64 (.ofNat 0))]), none⟩,
    ⟨none, .w (.store 5 (.tmp 6) (.tmp 11)), none⟩])
  (.seq (.block 0
    (.seq (.region [
      ⟨some 15, .r (.load none (.tmp 2)) [], none⟩,
      ⟨some 16, .p (.buildSl 1 1 [(.str [])] [(0, 1, (.con (.str [36])))]), none⟩,
      ⟨some 17, .call 117 [(.tmp 15), (.tmp 16)], none⟩,
      ⟨some 14, .p (.move (.tmp 17)), none⟩])
    (.cond (.tmp 14)
      (.seq (.seq (.region [
        ⟨some 18, .r (.load none (.tmp 3)) [], none⟩])
      (.cond (.tmp 18)
        (.region [
          ⟨some 19, .r (.load none (.tmp 2)) [], none⟩,
          ⟨some 20, .call 72 [(.tmp 19)], none⟩])
        (.skip)))
      (.seq (.region [
        ⟨some 21, .r (.load none (.tmp 2)) [], none⟩,
        ⟨some 22, .call 73 [(.tmp 21)], none⟩])
      (.region [
        ⟨some 23, .r (.load none (.tmp 2)) [], none⟩,
        ⟨some 24, .call 75 [(.tmp 23)], none⟩,
        ⟨some 25, .p (.faddr 0 (.tmp 6)), none⟩,
        ⟨none, .w (.store 1 (.tmp 25) (.con (.int .i64 (.ofNat 1)))), none⟩,
        ⟨some 26, .p (.faddr 1 (.tmp 6)), none⟩,
        ⟨none, .w (.store 1 (.tmp 26) (.tmp 24)), none⟩])))
      (.seq (.region [
        ⟨some 28, .r (.load none (.tmp 2)) [], none⟩,
        ⟨some 29, .p (.buildSl 1 1 [(.str [])] [(0, 1, (.con (.str [91])))]), none⟩,
        ⟨some 30, .call 117 [(.tmp 28), (.tmp 29)], none⟩,
        ⟨some 27, .p (.move (.tmp 30)), none⟩])
      (.cond (.tmp 27)
        (.seq (.region [
          ⟨some 31, .p (.faddr 0 (.tmp 6)), none⟩,
          ⟨none, .w (.store 1 (.tmp 31) (.con (.int .i64 (.ofNat 8)))), none⟩])
        (.seq (.region [
          ⟨some 32, .r (.load none (.tmp 2)) [], none⟩,
          ⟨some 33, .call 172 [(.tmp 32), (.con (.str [91]))], none⟩])
        (.seq (.region [
          ⟨some 34, .r (.load none (.tmp 2)) [], none⟩,
          ⟨some 35, .p (.mkfn 174 [] [(.tmp 6), (.tmp 2), (.tmp 3)]), none⟩,
          ⟨some 36, .call 113 [(.tmp 34), (.con (.str [93])), (.con (.bool false)), (.tmp 35)], none⟩])
        (.region [
          ⟨some 37, .r (.load none (.tmp 2)) [], none⟩,
          ⟨some 38, .call 173 [(.tmp 37), (.con (.str [93]))], none⟩]))))
        (.seq (.region [
          ⟨some 40, .r (.load none (.tmp 2)) [], none⟩,
          ⟨some 41, .p (.buildSl 1 1 [(.str [])] [(0, 1, (.con (.str [123])))]), none⟩,
          ⟨some 42, .call 117 [(.tmp 40), (.tmp 41)], none⟩,
          ⟨some 39, .p (.move (.tmp 42)), none⟩])
        (.cond (.tmp 39)
          (.seq (.region [
            ⟨some 43, .p (.faddr 0 (.tmp 6)), none⟩,
            ⟨none, .w (.store 1 (.tmp 43) (.con (.int .i64 (.ofNat 9)))), none⟩])
          (.seq (.region [
            ⟨some 44, .r (.load none (.tmp 2)) [], none⟩,
            ⟨some 45, .call 172 [(.tmp 44), (.con (.str [123]))], none⟩])
          (.seq (.region [
            ⟨some 46, .r (.load none (.tmp 2)) [], none⟩,
            ⟨some 47, .p (.mkfn 175 [] [(.tmp 6), (.tmp 2), (.tmp 3)]), none⟩,
            ⟨some 48, .call 113 [(.tmp 46), (.con (.str [125])), (.con (.bool false)), (.tmp 47)], none⟩])
          (.region [
            ⟨some 49, .r (.load none (.tmp 2)) [], none⟩,
            ⟨some 50, .call 173 [(.tmp 49), (.con (.str [125]))], none⟩]))))
          (.seq (.region [
            ⟨some 52, .p (.faddr 0 (.tmp 5)), none⟩,
            ⟨some 53, .r (.load none (.tmp 52)) [], none⟩,
            ⟨some 54, .p (.bin .eql .no true (.tmp 53) (.con (.int .i64 (.ofNat 2)))), none⟩,
            ⟨some 51, .p (.move (.tmp 54)), none⟩])
          (.cond (.tmp 51)
            (.region [
              ⟨some 55, .r (.load none (.tmp 2)) [], none⟩,
              ⟨some 56, .call 73 [(.tmp 55)], none⟩,
              ⟨some 57, .p (.field 1 none (.tmp 56)), none⟩,
              ⟨some 58, .p (.faddr 0 (.tmp 6)), none⟩,
              ⟨none, .w (.store 1 (.tmp 58) (.con (.int .i64 (.ofNat 2)))), none⟩,
              ⟨some 59, .p (.faddr 1 (.tmp 6)), none⟩,
              ⟨none, .w (.store 1 (.tmp 59) (.tmp 57)), none⟩])
            (.seq (.region [
              ⟨some 61, .p (.faddr 0 (.tmp 5)), none⟩,
              ⟨some 62, .r (.load none (.tmp 61)) [], none⟩,
              ⟨some 63, .p (.bin .eql .no true (.tmp 62) (.con (.int .i64 (.ofNat 3)))), none⟩,
              ⟨some 60, .p (.move (.tmp 63)), none⟩])
            (.cond (.tmp 60)
              (.region [
                ⟨some 64, .r (.load none (.tmp 2)) [], none⟩,
                ⟨some 65, .call 73 [(.tmp 64)], none⟩,
                ⟨some 66, .p (.field 1 none (.tmp 65)), none⟩,
                ⟨some 67, .p (.faddr 0 (.tmp 6)), none⟩,
                ⟨none, .w (.store 1 (.tmp 67) (.con (.int .i64 (.ofNat 3)))), none⟩,
                ⟨some 68, .p (.faddr 1 (.tmp 6)), none⟩,
                ⟨none, .w (.store 1 (.tmp 68) (.tmp 66)), none⟩])
              (.seq (.region [
                ⟨some 70, .p (.faddr 0 (.tmp 5)), none⟩,
                ⟨some 71, .r (.load none (.tmp 70)) [], none⟩,
                ⟨some 72, .p (.bin .eql .no true (.tmp 71) (.con (.int .i64 (.ofNat 4)))), none⟩,
                ⟨some 69, .p (.move (.tmp 72)), none⟩])
              (.cond (.tmp 69)
                (.region [
                  ⟨some 73, .r (.load none (.tmp 2)) [], none⟩,
                  ⟨some 74, .call 73 [(.tmp 73)], none⟩,
                  ⟨some 75, .p (.field 1 none (.tmp 74)), none⟩,
                  ⟨some 76, .p (.faddr 0 (.tmp 6)), none⟩,
                  ⟨none, .w (.store 1 (.tmp 76) (.con (.int .i64 (.ofNat 4)))), none⟩,
                  ⟨some 77, .p (.faddr 1 (.tmp 6)), none⟩,
                  ⟨none, .w (.store 1 (.tmp 77) (.tmp 75)), none⟩])
                (.seq (.region [
                  ⟨some 79, .r (.load none (.tmp 2)) [], none⟩,
                  ⟨some 80, .p (.buildSl 1 1 [(.str [])] [(0, 1, (.con (.str [110, 117, 108, 108])))]), none⟩,
                  ⟨some 81, .call 70 [(.tmp 79), (.tmp 80)], none⟩,
                  ⟨some 78, .p (.move (.tmp 81)), none⟩])
                (.cond (.tmp 78)
                  (.seq (.region [
                    ⟨some 82, .p (.faddr 0 (.tmp 6)), none⟩,
                    ⟨none, .w (.store 1 (.tmp 82) (.con (.int .i64 (.ofNat 6)))), none⟩])
                  (.region [
                    ⟨some 83, .r (.load none (.tmp 2)) [], none⟩,
                    ⟨some 84, .call 73 [(.tmp 83)], none⟩]))
                  (.seq (.region [
                    ⟨some 86, .r (.load none (.tmp 2)) [], none⟩,
                    ⟨some 87, .p (.buildSl 1 2 [(.str [])] [(0, 1, (.con (.str [116, 114, 117, 101]))), (1, 1, (.con (.str [102, 97, 108, 115, 101])))]), none⟩,
                    ⟨some 88, .call 70 [(.tmp 86), (.tmp 87)], none⟩,
                    ⟨some 85, .p (.move (.tmp 88)), none⟩])
                  (.cond (.tmp 85)
                    (.region [
                      ⟨some 89, .r (.load none (.tmp 2)) [], none⟩,
                      ⟨some 90, .call 73 [(.tmp 89)], none⟩,
                      ⟨some 91, .p (.field 1 none (.tmp 90)), none⟩,
                      ⟨some 92, .p (.faddr 0 (.tmp 6)), none⟩,
                      ⟨none, .w (.store 1 (.tmp 92) (.con (.int .i64 (.ofNat 5)))), none⟩,
                      ⟨some 93, .p (.faddr 1 (.tmp 6)), none⟩,
                      ⟨none, .w (.store 1 (.tmp 93) (.tmp 91)), none⟩])
                    (.seq (.region [
                      ⟨some 95, .r (.load none (.tmp 2)) [], none⟩,
                      ⟨some 96, .call 70 [(.tmp 95), (.con .nils)], none⟩,
                      ⟨some 94, .p (.move (.tmp 96)), none⟩])
                    (.cond (.tmp 94)
                      (.region [
                        ⟨some 97, .r (.load none (.tmp 2)) [], none⟩,
                        ⟨some 98, .call 73 [(.tmp 97)], none⟩,
                        ⟨some 99, .p (.field 1 none (.tmp 98)), none⟩,
                        ⟨some 100, .p (.faddr 0 (.tmp 6)), none⟩,
                        ⟨none, .w (.store 1 (.tmp 100) (.con (.int .i64 (.ofNat 7)))), none⟩,
                        ⟨some 101, .p (.faddr 1 (.tmp 6)), none⟩,
                        ⟨none, .w (.store 1 (.tmp 101) (.tmp 99)), none⟩])
                      (.region [
                        ⟨some 12, .r (.load none (.tmp 2)) [], none⟩,
                        ⟨some 13, .call 72 [(.tmp 12)], none⟩]))))))))))))))))))))
  (.seq (.region [
    ⟨some 102, .r (.load (some 5) (.tmp 6)) [], none⟩,
    ⟨none, .w (.store 5 (.tmp 4) (.tmp 102)), none⟩])
  (.ret))))),
  [.cell 4 (some 5)], false⟩
theorem c118_eq : cfn Tryz.prog cfg 118 = some c118 := by kernel_rfl

/-- slices.Index[[]int,int] -/
def c119 : AFn := ⟨
  .seq (.region [
    ⟨some 4, .p (.move (.con (.int .i64 (.ofNat 0)))), none⟩])
  (.seq (.seq (.region [
    ⟨some 6, .p (.move (.tmp 0)), none⟩,
    ⟨some 7, .p (.len false (.tmp 6)), none⟩,
    ⟨some 8, .p (.move (.con (.int .i64 (.ofNat 0)))), none⟩])
  (.block 0
    (.loop
      (.seq (.region [
        ⟨some 9, .p (.bin .lss .no false (.tmp 8) (.tmp 7)), none⟩])
      (.seq (.cond (.tmp 9)
        (.skip)
        (.exit 0))
      (.seq (.block 1
        (.seq (.region [
          ⟨some 10, .p (.move (.tmp 8)), none⟩,
          ⟨some 5, .p (.move (.tmp 10)), none⟩])
        (.seq (.region [
          ⟨some 11, .p (.move (.tmp 1)), none⟩,
          ⟨some 12, .p (.move (.tmp 0)), none⟩,
          ⟨some 13, .p (.move (.tmp 5)), none⟩,
          ⟨some 14, .p (.iaddr 1 (.tmp 12) (.tmp 13)), none⟩,
          ⟨some 15, .r (.load none (.tmp 14)) [], none⟩,
          ⟨some 16, .p (.bin .eql .no false (.tmp 11) (.tmp 15)), none⟩])
        (.cond (.tmp 16)
          (.seq (.region [
            ⟨some 17, .p (.move (.tmp 5)), none⟩,
            ⟨some 4, .p (.move (.tmp 17)), none⟩])
          (.ret))
          (.skip)))))
      (.region [
        ⟨some 18, .p (.bin .add .no false (.tmp 8) (.con (.int .i64 (.ofNat 1)))), none⟩,
        ⟨some 8, .p (.move (.tmp 18)), none⟩])))))))
  (.seq (.region [
    ⟨some 4, .p (.move (.con (.int .i64 (.negSucc 0)))), none⟩])
  (.ret))),
  [.tmp 4], false⟩
theorem c119_eq : cfn Tryz.prog cfg 119 = some c119 := by kernel_rfl

/-- strings.makeASCIISet -/
def c122 : AFn := ⟨
  .seq (.region [
    ⟨some 2, .w (.new [(.bool false), (.bool false), (.bool false), (.bool false), (.bool false), (.bool false), (.bool false), (.bool false), (.bool false), (.bool false), (.bool false), (.bool false), (.bool false), (.bool false), (.bool false), (.bool false), (.bool false), (.bool false), (.bool false), (.bool false), (.bool false), (.bool false), (.bool false), (.bool false), (.bool false), (.bool false), (.bool false), (.bool false), (.bool false), (.bool false), (.bool false), (.bool false), (.bool false), (.bool false), (.bool false), (.bool false), (.bool false), (.bool false), (.bool false), (.bool false), (.bool false), (.bool false), (.bool false), (.bool false), (.bool false), (.bool false), (.bool false), (.bool false), (.bool false), (.bool false), (.bool false), (.bool false), (.bool false), (.bool false), (.bool false), (.bool false), (.bool false), (.bool false), (.bool false), (.bool false), (.bool false), (.bool false), (.bool false), (.bool false), (.bool false), (.bool false), (.bool false), (.bool false), (.bool false), (.bool false), (.bool false), (.bool false), (.bool false), (.bool false), (.bool false), (.bool false), (.bool false), (.bool false), (.bool false), (.bool false), (.bool false), (.bool false), (.bool false), (.bool false), (.bool false), (.bool false), (.bool false), (.bool false), (.bool false), (.bool false), (.bool false), (.bool false), (.bool false), (.bool false), (.bool false), (.bool false), (.bool false), (.bool false), (.bool false), (.bool false), (.bool false), (.bool false), (.bool false), (.bool false), (.bool false), (.bool false), (.bool false), (.bool false), (.bool false), (.bool false), (.bool false), (.bool false), (.bool false), (.bool false), (.bool false), (.bool false), (.bool false), (.bool false), (.bool false), (.bool false), (.bool false), (.bool false), (.bool false), (.bool false), (.bool false), (.bool false), (.bool false), (.bool false), (.bool false), (.bool false), (.bool false), (.bool false), (.bool false), (.bool false), (.bool false), (.bool false), (.bool false), (.bool false), (.bool false), (.bool false), (.bool false), (.bool false), (.bool false), (.bool false), (.bool false), (.bool false), (.bool false), (.bool false), (.bool false), (.bool false), (.bool false), (.bool false), (.bool false), (.bool false), (.bool false), (.bool false), (.bool false), (.bool false), (.bool false), (.bool false), (.bool false), (.bool false), (.bool false), (.bool false), (.bool false), (.bool false), (.bool false), (.bool false), (.bool false), (.bool false), (.bool false), (.bool false), (.bool false), (.bool false), (.bool false), (.bool false), (.bool false), (.bool false), (.bool false), (.bool false), (.bool false), (.bool false), (.bool false), (.bool false), (.bool false), (.bool false), (.bool false), (.bool false), (.bool false), (.bool false), (.bool false), (.bool false), (.bool false), (.bool false), (.bool false), (.bool false), (.bool false), (.bool false), (.bool false), (.bool false), (.bool false), (.bool false), (.bool false), (.bool false), (.bool false), (.bool false), (.bool false), (.bool false), (.bool false), (.bool false), (.bool false), (.bool false), (.bool false), (.bool false), (.bool false), (.bool false), (.bool false), (.bool false), (.bool false), (.bool false), (.bool false), (.bool false), (.bool false), (.bool false), (.bool false), (.bool false), (.bool false), (.bool false), (.bool false), (.bool false), (.bool false), (.bool false), (.bool false), (.bool false), (.bool false), (.bool false), (.bool false), (.bool false), (.bool false), (.bool false), (.bool false), (.bool false), (.bool false), (.bool false), (.bool false), (.bool false), (.bool false), (.bool false), (.bool false), (.bool false), (.bool false), (.bool false), (.bool false), (.bool false), (.bool false), (.bool false)]), none⟩,
    ⟨some 3, .p (.move (.con (.bool false))), none⟩])
  (.seq (.seq (.region [
    ⟨some 4, .p (.move (.con (.int .i64 (.ofNat 0)))), none⟩])
  (.block 0
    (.loop
      (.seq (.seq (.region [
        ⟨some 6, .p (.move (.tmp 4)), none⟩,
        ⟨some 7, .p (.move (.tmp 0)), none⟩,
        ⟨some 8, .p (.len true (.tmp 7)), none⟩,
        ⟨some 9, .p (.bin .lss .no false (.tmp 6) (.tmp 8)), none⟩])
      (.cond (.tmp 9)
        (.skip)
        (.exit 0)))
      (.seq (.block 1
        (.seq (.region [
          ⟨some 12, .p (.move (.tmp 0)), none⟩,
          ⟨some 13, .p (.move (.tmp 4)), none⟩,
          ⟨some 14, .p (.indexS (.tmp 12) (.tmp 13)), none⟩,
          ⟨some 5, .p (.move (.tmp 14)), none⟩])
        (.seq (.seq (.region [
          ⟨some 15, .p (.move (.tmp 5)), none⟩,
          ⟨some 16, .p (.bin .geq .no false (.tmp 15) (.con (.int .u8 (.ofNat 128)))), none⟩])
        (.cond (.tmp 16)
          (.seq (.region [
            ⟨some 17, .r (.load (some 256) (.tmp 2)) [], none⟩,
            ⟨none, .w (.store 256 (.tmp 2) (.tmp 17)), none⟩,
            ⟨some 3, .p (.move (.con (.bool false))), none⟩])
          (.ret))
          (.skip)))
        (.region [
          ⟨some 18, .p (.move (.tmp 5)), none⟩,
          ⟨some 19, .p (.iaddrA 256 1 (.tmp 2) (.tmp 18)), none⟩,
          ⟨none, .w (.store 1 (.tmp 19) (.con (.bool true))), none⟩]))))
      (.region [
        ⟨some 10, .p (.move (.tmp 4)), none⟩,
        ⟨some 11, .p (.bin .add .no false (.tmp 10) (.con (.int .i64 (.ofNat 1)))), none⟩,
        ⟨some 4, .p (.move (.tmp 11)), none⟩]))))))
  (.seq (.region [
    ⟨some 20, .r (.load (some 256) (.tmp 2)) [], none⟩,
    ⟨none, .w (.store 256 (.tmp 2) (.tmp 20)), none⟩,
    ⟨some 3, .p (.move (.con (.bool true))), none⟩])
  (.ret))),
  [.cell 2 (some 256), .tmp 3], false⟩
theorem c122_eq : cfn Tryz.prog cfg 122 = some c122 := by kernel_rfl

/-- strings.trimLeftASCII -/
def c123 : AFn := ⟨
  .seq (.region [
    ⟨some 4, .p (.move (.con (.str []))), none⟩])
  (.seq (.block 0
    (.loop
      (.seq (.seq (.region [
        ⟨some 5, .p (.move (.tmp 0)), none⟩,
        ⟨some 6, .p (.len true (.tmp 5)), none⟩,
        ⟨some 7, .p (.bin .gtr .no false (.tmp 6) (.con (.int .i64 (.ofNat 0)))), none⟩])
      (.cond (.tmp 7)
        (.skip)
        (.exit 0)))
      (.block 1
        (.seq (.seq (.region [
          ⟨some 8, .p (.move (.tmp 1)), none⟩,
          ⟨some 9, .p (.move (.tmp 0)), none⟩,
          ⟨some 10, .p (.indexS (.tmp 9) (.con (.int .i64 (.ofNat 0)))), none⟩,
          ⟨some 11, .call 177 [(.tmp 8), (.tmp 10)], none⟩,
          ⟨some 12, .p (.un .not (.tmp 11)), none⟩])
        (.cond (.tmp 12)
          (.exit 0)
          (.skip)))
        (.region [
          ⟨some 13, .p (.move (.tmp 0)), none⟩,
          ⟨some 14, .p (.sliceS (.tmp 13) (some (.con (.int .i64 (.ofNat 1)))) none), none⟩,
          ⟨some 0, .p (.move (.tmp 14)), none⟩]))))))
  (.seq (.region [
    ⟨some 15, .p (.move (.tmp 0)), none⟩,
    ⟨some 4, .p (.move (.tmp 15)), none⟩])
  (.ret))),
  [.tmp 4], false⟩
theorem c123_eq : cfn Tryz.prog cfg 123 = some c123 := by kernel_rfl

/-- strings.trimRightASCII -/
def c124 : AFn := ⟨
  .seq (.region [
    ⟨some 4, .p (.move (.con (.str []))), none⟩])
  (.seq (.block 0
    (.loop
      (.seq (.seq (.region [
        ⟨some 5, .p (.move (.tmp 0)), none⟩,
        ⟨some 6, .p (.len true (.tmp 5)), none⟩,
        ⟨some 7, .p (.bin .gtr .no false (.tmp 6) (.con (.int .i64 (.ofNat 0)))), none⟩])
      (.cond (.tmp 7)
        (.skip)
        (.exit 0)))
      (.block 1
        (.seq (.seq (.region [
          ⟨some 8, .p (.move (.tmp 1)), none⟩,
          ⟨some 9, .p (.move (.tmp 0)), none⟩,
          ⟨some 10, .p (.move (.tmp 0)), none⟩,
          ⟨some 11, .p (.len true (.tmp 10)), none⟩,
          ⟨some 12, .p (.bin .sub .no false (.tmp 11) (.con (.int .i64 (.ofNat 1)))), none⟩,
          ⟨some 13, .p (.indexS (.tmp 9) (.tmp 12)), none⟩,
          ⟨some 14, .call 177 [(.tmp 8), (.tmp 13)], none⟩,
          ⟨some 15, .p (.un .not (.tmp 14)), none⟩])
        (.cond (.tmp 15)
          (.exit 0)
          (.skip)))
        (.region [
          ⟨some 16, .p (.move (.tmp 0)), none⟩,
          ⟨some 17, .p (.move (.tmp 0)), none⟩,
          ⟨some 18, .p (.len true (.tmp 17)), none⟩,
          ⟨some 19, .p (.bin .sub .no false (.tmp 18) (.con (.int .i64 (.ofNat 1)))), none⟩,
          ⟨some 20, .p (.sliceS (.tmp 16) none (some (.tmp 19))), none⟩,
          ⟨some 0, .p (.move (.tmp 20)), none⟩]))))))
  (.seq (.region [
    ⟨some 21, .p (.move (.tmp 0)), none⟩,
    ⟨some 4, .p (.move (.tmp 21)), none⟩])
  (.ret))),
  [.tmp 4], false⟩
theorem c124_eq : cfn Tryz.prog cfg 124 = some c124 := by kernel_rfl

/-- slices.insertionSortOrdered[string] -/
def c127 : AFn := ⟨
  .seq (.region [
    ⟨some 8, .p (.move (.tmp 1)), none⟩,
    ⟨some 9, .p (.bin .add .no false (.tmp 8) (.con (.int .i64 (.ofNat 1)))), none⟩,
    ⟨some 6, .p (.move (.tmp 9)), none⟩])
  (.block 0
    (.loop
      (.seq (.seq (.region [
        ⟨some 10, .p (.move (.tmp 6)), none⟩,
        ⟨some 11, .p (.move (.tmp 2)), none⟩,
        ⟨some 12, .p (.bin .lss .no false (.tmp 10) (.tmp 11)), none⟩])
      (.cond (.tmp 12)
        (.skip)
        (.exit 0)))
      (.seq (.block 1
        (.seq (.region [
          ⟨some 15, .p (.move (.tmp 6)), none⟩,
          ⟨some 7, .p (.move (.tmp 15)), none⟩])
        (.block 2
          (.loop
            (.seq (.seq (.regionD [
              ⟨some 16, .p (.move (.tmp 7)), none⟩,
              ⟨some 17, .p (.move (.tmp 1)), none⟩,
              ⟨some 18, .p (.bin .gtr .no false (.tmp 16) (.tmp 17)), none⟩,
              ⟨some 19, .p (.move (.tmp 18)), none⟩,
              ⟨some 20, .p (.move (.tmp 0)), (some (19, true))⟩,
              ⟨some 21, .p (.move (.tmp 7)), (some (19, true))⟩,
              ⟨some 22, .p (.iaddr 1 (.tmp 20) (.tmp 21)), (some (19, true))⟩,
              ⟨some 23, .r (.load none (.tmp 22)) [], (some (19, true))⟩,
              ⟨some 24, .p (.move (.tmp 0)), (some (19, true))⟩,
              ⟨some 25, .p (.move (.tmp 7)), (some (19, true))⟩,
              ⟨some 26, .p (.bin .sub .no false (.tmp 25) (.con (.int .i64 (.ofNat 1)))), (some (19, true))⟩,
              ⟨some 27, .p (.iaddr 1 (.tmp 24) (.tmp 26)), (some (19, true))⟩,
              ⟨some 28, .r (.load none (.tmp 27)) [], (some (19, true))⟩,
              ⟨some 29, .call 133 [(.tmp 23), (.tmp 28)], (some (19, true))⟩,
              ⟨some 30, .p (.pick (.tmp 19) (.tmp 29) (.con (.bool false))), none⟩])
            (.cond (.tmp 30)
              (.skip)
              (.exit 2)))
            (.seq (.block 3
              (.regionD [
                ⟨some 33, .p (.move (.tmp 0)), none⟩,
                ⟨some 34, .p (.move (.tmp 7)), none⟩,
                ⟨some 35, .p (.move (.tmp 0)), none⟩,
                ⟨some 36, .p (.move (.tmp 7)), none⟩,
                ⟨some 37, .p (.bin .sub .no false (.tmp 36) (.con (.int .i64 (.ofNat 1)))), none⟩,
                ⟨some 38, .p (.move (.tmp 0)), none⟩,
                ⟨some 39, .p (.move (.tmp 7)), none⟩,
                ⟨some 40, .p (.bin .sub .no false (.tmp 39) (.con (.int .i64 (.ofNat 1)))), none⟩,
                ⟨some 41, .p (.iaddr 1 (.tmp 38) (.tmp 40)), none⟩,
                ⟨some 42, .r (.load none (.tmp 41)) [], none⟩,
                ⟨some 43, .p (.move (.tmp 0)), none⟩,
                ⟨some 44, .p (.move (.tmp 7)), none⟩,
                ⟨some 45, .p (.iaddr 1 (.tmp 43) (.tmp 44)), none⟩,
                ⟨some 46, .r (.load none (.tmp 45)) [], none⟩,
                ⟨some 47, .p (.iaddr 1 (.tmp 33) (.tmp 34)), none⟩,
                ⟨none, .w (.store 1 (.tmp 47) (.tmp 42)), none⟩,
                ⟨some 48, .p (.iaddr 1 (.tmp 35) (.tmp 37)), none⟩,
                ⟨none, .w (.store 1 (.tmp 48) (.tmp 46)), none⟩]))
            (.region [
              ⟨some 31, .p (.move (.tmp 7)), none⟩,
              ⟨some 32, .p (.bin .sub .no false (.tmp 31) (.con (.int .i64 (.ofNat 1)))), none⟩,
              ⟨some 7, .p (.move (.tmp 32)), none⟩])))))))
      (.region [
        ⟨some 13, .p (.move (.tmp 6)), none⟩,
        ⟨some 14, .p (.bin .add .no false (.tmp 13) (.con (.int .i64 (.ofNat 1)))), none⟩,
        ⟨some 6, .p (.move (.tmp 14)), none⟩]))))),
  [], false⟩
theorem c127_eq : cfn Tryz.prog cfg 127 = some c127 := by kernel_rfl

/-- math/bits.Len64 -/
def c137 : AFn := ⟨
  .seq (.region [
    ⟨some 2, .p (.move (.con (.int .i64 (.ofNat 0)))), none⟩])
  (.seq (.seq (.region [
    ⟨some 3, .p (.move (.tmp 0)), none⟩,
    ⟨some 4, .p (.bin .geq .no false (.tmp 3) (.con (.int .u64 (.ofNat 4294967296)))), none⟩])
  (.cond (.tmp 4)
    (.seq (.region [
      ⟨some 5, .p (.move (.tmp 0)), none⟩,
      ⟨some 6, .p (.bin .shr .no false (.tmp 5) (.con (.int .u64 (.ofNat 32)))), none⟩,
      ⟨some 0, .p (.move (.tmp 6)), none⟩])
    (.region [
      ⟨some 2, .p (.move (.con (.int .i64 (.ofNat 32)))), none⟩]))
    (.skip)))
  (.seq (.seq (.region [
    ⟨some 7, .p (.move (.tmp 0)), none⟩,
    ⟨some 8, .p (.bin .geq .no false (.tmp 7) (.con (.int .u64 (.ofNat 65536)))), none⟩])
  (.cond (.tmp 8)
    (.seq (.region [
      ⟨some 9, .p (.move (.tmp 0)), none⟩,
      ⟨some 10, .p (.bin .shr .no false (.tmp 9) (.con (.int .u64 (.ofNat 16)))), none⟩,
      ⟨some 0, .p (.move (.tmp 10)), none⟩])
    (.region [
      ⟨some 11, .p (.move (.tmp 2)), none⟩,
      ⟨some 12, .p (.bin .add .no false (.tmp 11) (.con (.int .i64 (.ofNat 16)))), none⟩,
      ⟨some 2, .p (.move (.tmp 12)), none⟩]))
    (.skip)))
  (.seq (.seq (.region [
    ⟨some 13, .p (.move (.tmp 0)), none⟩,
    ⟨some 14, .p (.bin .geq .no false (.tmp 13) (.con (.int .u64 (.ofNat 256)))), none⟩])
  (.cond (.tmp 14)
    (.seq (.region [
      ⟨some 15, .p (.move (.tmp 0)), none⟩,
      ⟨some 16, .p (.bin .shr .no false (.tmp 15) (.con (.int .u64 (.ofNat 8)))), none⟩,
      ⟨some 0, .p (.move (.tmp 16)), none⟩])
    (.region [
      ⟨some 17, .p (.move (.tmp 2)), none⟩,
      ⟨some 18, .p (.bin .add .no false (.tmp 17) (.con (.int .i64 (.ofNat 8)))), none⟩,
      ⟨some 2, .p (.move (.tmp 18)), none⟩]))
    (.skip)))
  (.seq (.region [
    ⟨some 19, .p (.move (.tmp 2)), none⟩,
    ⟨some 20, .p (.move (.tmp 0)), none⟩,
    ⟨some 21, .p (.conv (.int .u8) (.tmp 20)), none⟩,
    ⟨some 22, .p (.indexS (.con (.str [0, 1, 2, 2, 3, 3, 3, 3, 4, 4, 4, 4, 4, 4, 4, 4, 5, 5, 5, 5, 5, 5, 5, 5, 5, 5, 5, 5, 5, 5, 5, 5, 6, 6, 6, 6, 6, 6, 6, 6, 6, 6, 6, 6, 6, 6, 6, 6, 6, 6, 6, 6, 6, 6, 6, 6, 6, 6, 6, 6, 6, 6, 6, 6, 7, 7, 7, 7, 7, 7, 7, 7, 7, 7, 7, 7, 7, 7, 7, 7, 7, 7, 7, 7, 7, 7, 7, 7, 7, 7, 7, 7, 7, 7, 7, 7, 7, 7, 7, 7, 7, 7, 7, 7, 7, 7, 7, 7, 7, 7, 7, 7, 7, 7, 7, 7, 7, 7, 7, 7, 7, 7, 7, 7, 7, 7, 7, 7, 8, 8, 8, 8, 8, 8, 8, 8, 8, 8, 8, 8, 8, 8, 8, 8, 8, 8, 8, 8, 8, 8, 8, 8, 8, 8, 8, 8, 8, 8, 8, 8, 8, 8, 8, 8, 8, 8, 8, 8, 8, 8, 8, 8, 8, 8, 8, 8, 8, 8, 8, 8, 8, 8, 8, 8, 8, 8, 8, 8, 8, 8, 8, 8, 8, 8, 8, 8, 8, 8, 8, 8, 8, 8, 8, 8, 8, 8, 8, 8, 8, 8, 8, 8, 8, 8, 8, 8, 8, 8, 8, 8, 8, 8, 8, 8, 8, 8, 8, 8, 8, 8, 8, 8, 8, 8, 8, 8, 8, 8, 8, 8, 8, 8, 8, 8, 8, 8, 8, 8, 8, 8, 8, 8, 8, 8, 8, 8])) (.tmp 21)), none⟩,
    ⟨some 23, .p (.conv (.int .i64) (.tmp 22)), none⟩,
    ⟨some 24, .p (.bin .add .no false (.tmp 19) (.tmp 23)), none⟩,
    ⟨some 2, .p (.move (.tmp 24)), none⟩])
  (.ret))))),
  [.tmp 2], false⟩
theorem c137_eq : cfn Tryz.prog cfg 137 = some c137 := by kernel_rfl

/-- slices.Clone[[]rubric/api.Value,rubric/api.Value] -/
def c138 : AFn := ⟨
  .seq (.region [
    ⟨some 2, .p (.move (.con .nils)), none⟩])
  (.seq (.seq (.region [
    ⟨some 3, .p (.move (.tmp 0)), none⟩,
    ⟨some 4, .p (.bin .eql .slice true (.tmp 3) (.con .nils)), none⟩])
  (.cond (.tmp 4)
    (.seq (.region [
      ⟨some 2, .p (.move (.con .nils)), none⟩])
    (.ret))
    (.skip)))
  (.seq (.region [
    ⟨some 5, .p (.buildSl 5 0 [(.int .i64 (.ofNat 0)), (.str []), .nils, .nils, (.int .i64 (.ofNat 0))] []), none⟩,
    ⟨some 6, .p (.move (.tmp 0)), none⟩,
    ⟨some 7, .w (.append true 5 80 (.tmp 5) (.tmp 6)), none⟩,
    ⟨some 2, .p (.move (.tmp 7)), none⟩])
  (.ret))),
  [.tmp 2], false⟩
theorem c138_eq : cfn Tryz.prog cfg 138 = some c138 := by kernel_rfl

/-- slices.Clone[[]rubric/api.Arg,rubric/api.Arg] -/
def c139 : AFn := ⟨
  .seq (.region [
    ⟨some 2, .p (.move (.con .nils)), none⟩])
  (.seq (.seq (.region [
    ⟨some 3, .p (.move (.tmp 0)), none⟩,
    ⟨some 4, .p (.bin .eql .slice true (.tmp 3) (.con .nils)), none⟩])
  (.cond (.tmp 4)
    (.seq (.region [
      ⟨some 2, .p (.move (.con .nils)), none⟩])
    (.ret))
    (.skip)))
  (.seq (.region [
    ⟨some 5, .p (.buildSl 7 0 [(.str []), (.int .i64 (.ofNat 0)), (.str []), .nils, .nils, (.int .i64 (.ofNat 0)), (.int .i64 (.ofNat 0))] []), none⟩,
    ⟨some 6, .p (.move (.tmp 0)), none⟩,
    ⟨some 7, .w (.append true 7 104 (.tmp 5) (.tmp 6)), none⟩,
    ⟨some 2, .p (.move (.tmp 7)), none⟩])
  (.ret))),
  [.tmp 2], false⟩
theorem c139_eq : cfn Tryz.prog cfg 139 = some c139 := by kernel_rfl

/-- internal/stringslite.HasSuffix -/
def c140 : AFn := ⟨
  .seq (.region [
    ⟨some 4, .p (.move (.con (.bool false))), none⟩])
  (.seq (.region [
    ⟨some 5, .p (.move (.tmp 0)), none⟩,
    ⟨some 6, .p (.len true (.tmp 5)), none⟩,
    ⟨some 7, .p (.move (.tmp 1)), none⟩,
    ⟨some 8, .p (.len true (.tmp 7)), none⟩,
    ⟨some 9, .p (.bin .geq .no false (.tmp 6) (.tmp 8)), none⟩,
    ⟨some 10, .p (.move (.tmp 9)), none⟩,
    ⟨some 11, .p (.move (.tmp 0)), (some (10, true))⟩,
    ⟨some 12, .p (.move (.tmp 0)), (some (10, true))⟩,
    ⟨some 13, .p (.len true (.tmp 12)), (some (10, true))⟩,
    ⟨some 14, .p (.move (.tmp 1)), (some (10, true))⟩,
    ⟨some 15, .p (.len true (.tmp 14)), (some (10, true))⟩,
    ⟨some 16, .p (.bin .sub .no false (.tmp 13) (.tmp 15)), (some (10, true))⟩,
    ⟨some 17, .p (.sliceS (.tmp 11) (some (.tmp 16)) none), (some (10, true))⟩,
    ⟨some 18, .p (.move (.tmp 1)), (some (10, true))⟩,
    ⟨some 19, .p (.bin .eql .no false (.tmp 17) (.tmp 18)), (some (10, true))⟩,
    ⟨some 20, .p (.pick (.tmp 10) (.tmp 19) (.con (.bool false))), none⟩,
    ⟨some 4, .p (.move (.tmp 20)), none⟩])
  (.ret)),
  [.tmp 4], false⟩
theorem c140_eq : cfn Tryz.prog cfg 140 = some c140 := by kernel_rfl

/-- internal/stringslite.TrimSuffix -/
def c141 : AFn := ⟨
  .seq (.region [
    ⟨some 4, .p (.move (.con (.str []))), none⟩])
  (.seq (.seq (.region [
    ⟨some 5, .p (.move (.tmp 0)), none⟩,
    ⟨some 6, .p (.move (.tmp 1)), none⟩,
    ⟨some 7, .call 140 [(.tmp 5), (.tmp 6)], none⟩])
  (.cond (.tmp 7)
    (.seq (.region [
      ⟨some 8, .p (.move (.tmp 0)), none⟩,
      ⟨some 9, .p (.move (.tmp 0)), none⟩,
      ⟨some 10, .p (.len true (.tmp 9)), none⟩,
      ⟨some 11, .p (.move (.tmp 1)), none⟩,
      ⟨some 12, .p (.len true (.tmp 11)), none⟩,
      ⟨some 13, .p (.bin .sub .no false (.tmp 10) (.tmp 12)), none⟩,
      ⟨some 14, .p (.sliceS (.tmp 8) none (some (.tmp 13))), none⟩,
      ⟨some 4, .p (.move (.tmp 14)), none⟩])
    (.ret))
    (.skip)))
  (.seq (.region [
    ⟨some 15, .p (.move (.tmp 0)), none⟩,
    ⟨some 4, .p (.move (.tmp 15)), none⟩])
  (.ret))),
  [.tmp 4], false⟩
theorem c141_eq : cfn Tryz.prog cfg 141 = some c141 := by kernel_rfl

/-- internal/stringslite.CutPrefix -/
def c142 : AFn := ⟨
  .seq (.region [
    ⟨some 4, .p (.move (.con (.str []))), none⟩,
    ⟨some 5, .p (.move (.con (.bool false))), none⟩])
  (.seq (.seq (.region [
    ⟨some 6, .p (.move (.tmp 0)), none⟩,
    ⟨some 7, .p (.move (.tmp 1)), none⟩,
    ⟨some 8, .call 148 [(.tmp 6), (.tmp 7)], none⟩,
    ⟨some 9, .p (.un .not (.tmp 8)), none⟩])
  (.cond (.tmp 9)
    (.seq (.region [
      ⟨some 10, .p (.move (.tmp 0)), none⟩,
      ⟨some 4, .p (.move (.tmp 10)), none⟩,
      ⟨some 5, .p (.move (.con (.bool false))), none⟩])
    (.ret))
    (.skip)))
  (.seq (.region [
    ⟨some 11, .p (.move (.tmp 0)), none⟩,
    ⟨some 12, .p (.move (.tmp 1)), none⟩,
    ⟨some 13, .p (.len true (.tmp 12)), none⟩,
    ⟨some 14, .p (.sliceS (.tmp 11) (some (.tmp 13)) none), none⟩,
    ⟨some 4, .p (.move (.tmp 14)), none⟩,
    ⟨some 5, .p (.move (.con (.bool true))), none⟩])
  (.ret))),
  [.tmp 4, .tmp 5], false⟩
theorem c142_eq : cfn Tryz.prog cfg 142 = some c142 := by kernel_rfl

/-- rubric/query.kinds -/
def c144 : AFn := ⟨
  .seq (.region [
    ⟨some 0, .p (.move (.con .nils)), none⟩])
  (.seq (.region [
    ⟨some 1, .p (.buildSl 1 3 [(.str [])] [(0, 1, (.con (.str [113, 117, 101, 114, 121]))), (1, 1, (.con (.str [109, 117, 116, 97, 116, 105, 111, 110]))), (2, 1, (.con (.str [115, 117, 98, 115, 99, 114, 105, 112, 116, 105, 111, 110])))]), none⟩,
    ⟨some 0, .p (.move (.tmp 1)), none⟩])
  (.ret)),
  [.tmp 0], false⟩
theorem c144_eq : cfn Tryz.prog cfg 144 = some c144 := by kernel_rfl

/-- (*rubric/query.reader).op -/
def c145 : AFn := ⟨
  .seq (.region [
    ⟨some 1, .w (.box 1 (.tmp 0)), none⟩,
    ⟨some 2, .w (.new [(.int .i64 (.ofNat 0)), (.str []), .nils, .nils, .nils, (.int .i64 (.ofNat 0))]), none⟩])
  (.seq (.region [
    ⟨some 4, .r (.load none (.tmp 1)) [], none⟩,
    ⟨some 5, .p (.nilck (.tmp 4)), none⟩,
    ⟨some 6, .p (.faddr 0 (.tmp 5)), none⟩,
    ⟨some 7, .call 36 [(.tmp 6)], none⟩,
    ⟨some 8, .p (.field 2 none (.tmp 7)), none⟩,
    ⟨some 9, .p (.build [(.int .i64 (.ofNat 0)), (.str []), .nils, .nils, .nils, (.int .i64 (.ofNat 0))] [(0, 1, (.con (.int .i64 (.ofNat 1)))), (5, 1, (.tmp 8))]), none⟩,
    ⟨some 3, .w (.new [(.int .i64 (.ofNat 0)), (.str []), .nils, .nils, .nils, (.int .i64 (.ofNat 0))]), none⟩,
    ⟨none, .w (.store 6 (.tmp 3) (.tmp 9)), none⟩])
  (.seq (.seq (.region [
    ⟨some 10, .r (.load none (.tmp 1)) [], none⟩,
    ⟨some 11, .p (.nilck (.tmp 10)), none⟩,
    ⟨some 12, .p (.faddr 0 (.tmp 11)), none⟩,
    ⟨some 13, .p (.buildSl 1 1 [(.str [])] [(0, 1, (.con (.str [123])))]), none⟩,
    ⟨some 14, .call 117 [(.tmp 12), (.tmp 13)], none⟩])
  (.cond (.tmp 14)
    (.seq (.region [
      ⟨some 15, .r (.load none (.tmp 1)) [], none⟩,
      ⟨some 16, .call 189 [(.tmp 15)], none⟩,
      ⟨some 17, .p (.faddr 4 (.tmp 3)), none⟩,
      ⟨none, .w (.store 1 (.tmp 17) (.tmp 16)), none⟩])
    (.seq (.region [
      ⟨some 18, .r (.load (some 6) (.tmp 3)) [], none⟩,
      ⟨none, .w (.store 6 (.tmp 2) (.tmp 18)), none⟩])
    (.ret)))
    (.skip)))
  (.seq (.regionD [
    ⟨some 19, .call 144 [], none⟩,
    ⟨some 20, .r (.load none (.tmp 1)) [0, 1], none⟩,
    ⟨some 21, .p (.nilck (.tmp 20)), none⟩,
    ⟨some 22, .p (.faddr 0 (.tmp 21)), none⟩,
    ⟨some 23, .call 73 [(.tmp 22)], none⟩,
    ⟨some 24, .p (.field 1 none (.tmp 23)), none⟩,
    ⟨some 25, .call 74 [(.tmp 19), (.tmp 24)], none⟩,
    ⟨some 26, .p (.bin .add .no false (.con (.int .i64 (.ofNat 1))) (.tmp 25)), none⟩,
    ⟨some 27, .p (.faddr 0 (.tmp 3)), none⟩,
    ⟨none, .w (.store 1 (.tmp 27) (.tmp 26)), none⟩])
  (.seq (.seq (.region [
    ⟨some 28, .r (.load none (.tmp 1)) [], none⟩,
    ⟨some 29, .p (.nilck (.tmp 28)), none⟩,
    ⟨some 30, .p (.faddr 0 (.tmp 29)), none⟩,
    ⟨some 31, .call 70 [(.tmp 30), (.con .nils)], none⟩])
  (.cond (.tmp 31)
    (.region [
      ⟨some 32, .r (.load none (.tmp 1)) [], none⟩,
      ⟨some 33, .p (.nilck (.tmp 32)), none⟩,
      ⟨some 34, .p (.faddr 0 (.tmp 33)), none⟩,
      ⟨some 35, .call 75 [(.tmp 34)], none⟩,
      ⟨some 36, .p (.faddr 1 (.tmp 3)), none⟩,
      ⟨none, .w (.store 1 (.tmp 36) (.tmp 35)), none⟩])
    (.skip)))
  (.seq (.seq (.region [
    ⟨some 37, .r (.load none (.tmp 1)) [], none⟩,
    ⟨some 38, .p (.nilck (.tmp 37)), none⟩,
    ⟨some 39, .p (.faddr 0 (.tmp 38)), none⟩,
    ⟨some 40, .call 80 [(.tmp 39), (.con (.str [40]))], none⟩])
  (.cond (.tmp 40)
    (.seq (.region [
      ⟨some 41, .r (.load none (.tmp 1)) [], none⟩,
      ⟨some 42, .p (.nilck (.tmp 41)), none⟩,
      ⟨some 43, .p (.faddr 0 (.tmp 42)), none⟩,
      ⟨some 44, .p (.mkfn 190 [] [(.tmp 3), (.tmp 1)]), none⟩,
      ⟨some 45, .call 113 [(.tmp 43), (.con (.str [41])), (.con (.bool true)), (.tmp 44)], none⟩])
    (.region [
      ⟨some 46, .r (.load none (.tmp 1)) [], none⟩,
      ⟨some 47, .p (.nilck (.tmp 46)), none⟩,
      ⟨some 48, .p (.faddr 0 (.tmp 47)), none⟩,
      ⟨some 49, .call 114 [(.tmp 48), (.con (.str [41]))], none⟩]))
    (.skip)))
  (.seq (.region [
    ⟨some 50, .r (.load none (.tmp 1)) [], none⟩,
    ⟨some 51, .call 188 [(.tmp 50)], none⟩,
    ⟨some 52, .p (.faddr 3 (.tmp 3)), none⟩,
    ⟨none, .w (.store 1 (.tmp 52) (.tmp 51)), none⟩])
  (.seq (.region [
    ⟨some 53, .r (.load none (.tmp 1)) [], none⟩,
    ⟨some 54, .call 189 [(.tmp 53)], none⟩,
    ⟨some 55, .p (.faddr 4 (.tmp 3)), none⟩,
    ⟨none, .w (.store 1 (.tmp 55) (.tmp 54)), none⟩])
  (.seq (.region [
    ⟨some 56, .r (.load (some 6) (.tmp 3)) [], none⟩,
    ⟨none, .w (.store 6 (.tmp 2) (.tmp 56)), none⟩])
  (.ret))))))))),
  [.cell 2 (some 6)], false⟩
theorem c145_eq : cfn Tryz.prog cfg 145 = some c145 := by kernel_rfl

/-- (*rubric/args.checker).dirs -/
def c146 : AFn := ⟨
  .seq (.region [
    ⟨some 10, .p (.move (.tmp 1)), none⟩,
    ⟨some 11, .p (.len false (.tmp 10)), none⟩,
    ⟨some 12, .p (.move (.con (.int .i64 (.ofNat 0)))), none⟩])
  (.block 0
    (.loop
      (.seq (.region [
        ⟨some 13, .p (.bin .lss .no false (.tmp 12) (.tmp 11)), none⟩])
      (.seq (.cond (.tmp 13)
        (.skip)
        (.exit 0))
      (.seq (.block 1
        (.seq (.region [
          ⟨some 14, .p (.move (.tmp 12)), none⟩,
          ⟨some 15, .p (.iaddr 3 (.tmp 10) (.tmp 12)), none⟩,
          ⟨some 16, .r (.load (some 3) (.tmp 15)) [], none⟩,
          ⟨some 7, .w (.new [(.str []), .nils, (.int .i64 (.ofNat 0))]), none⟩,
          ⟨some 6, .p (.move (.tmp 14)), none⟩,
          ⟨none, .w (.store 3 (.tmp 7) (.tmp 16)), none⟩])
        (.seq (.regionD [
          ⟨some 17, .p (.move (.tmp 0)), none⟩,
          ⟨some 18, .p (.move (.tmp 1)), none⟩,
          ⟨some 19, .p (.move (.tmp 6)), none⟩,
          ⟨some 20, .p (.sliceL 3 (.tmp 18) none (some (.tmp 19)) none), none⟩,
          ⟨some 21, .p (.mkfn 194 [] [(.tmp 7)]), none⟩,
          ⟨some 22, .call 193 [(.tmp 20), (.tmp 21)], none⟩,
          ⟨some 23, .p (.un .not (.tmp 22)), none⟩,
          ⟨some 24, .p (.faddr 2 (.tmp 7)), none⟩,
          ⟨some 25, .r (.load none (.tmp 24)) [0, 6], none⟩,
          ⟨some 26, .p (.buildSl 1 1 [(.int .i64 (.ofNat 0))] [(0, 1, (.tmp 25))]), none⟩,
          ⟨some 27, .call 192 [(.tmp 17), (.tmp 23), (.con (.int .i64 (.ofNat 186))), (.tmp 26)], none⟩])
        (.seq (.region [
          ⟨some 29, .p (.faddr 0 (.tmp 7)), none⟩,
          ⟨some 30, .r (.load none (.tmp 29)) [], none⟩,
          ⟨some 31, .call 23 [(.tmp 30)], none⟩,
          ⟨some 28, .p (.move (.tmp 31)), none⟩,
          ⟨some 32, .p (.extract (.tmp 28) 0), none⟩,
          ⟨some 33, .p (.extract (.tmp 28) 1), none⟩,
          ⟨some 8, .p (.move (.tmp 32)), none⟩,
          ⟨some 9, .p (.move (.tmp 33)), none⟩])
        (.seq (.region [
          ⟨some 34, .p (.move (.tmp 0)), none⟩,
          ⟨some 35, .p (.move (.tmp 9)), none⟩,
          ⟨some 36, .p (.faddr 2 (.tmp 7)), none⟩,
          ⟨some 37, .r (.load none (.tmp 36)) [], none⟩,
          ⟨some 38, .p (.buildSl 1 1 [(.int .i64 (.ofNat 0))] [(0, 1, (.tmp 37))]), none⟩,
          ⟨some 39, .call 192 [(.tmp 34), (.tmp 35), (.con (.int .i64 (.ofNat 184))), (.tmp 38)], none⟩])
        (.seq (.seq (.region [
          ⟨some 40, .p (.move (.tmp 9)), none⟩,
          ⟨some 41, .p (.un .not (.tmp 40)), none⟩])
        (.cond (.tmp 41)
          (.seq (.region [
            ⟨some 42, .p (.move (.tmp 0)), none⟩,
            ⟨some 43, .p (.faddr 1 (.tmp 7)), none⟩,
            ⟨some 44, .r (.load none (.tmp 43)) [], none⟩,
            ⟨some 45, .call 195 [(.tmp 42), (.tmp 44)], none⟩])
          (.exit 1))
          (.skip)))
        (.seq (.region [
          ⟨some 46, .p (.move (.tmp 0)), none⟩,
          ⟨some 47, .p (.move (.tmp 2)), none⟩,
          ⟨some 48, .p (.faddr 2 (.tmp 7)), none⟩,
          ⟨some 49, .r (.load none (.tmp 48)) [], none⟩,
          ⟨some 50, .p (.buildSl 1 1 [(.int .i64 (.ofNat 0))] [(0, 1, (.tmp 49))]), none⟩,
          ⟨some 51, .call 192 [(.tmp 46), (.tmp 47), (.con (.int .i64 (.ofNat 185))), (.tmp 50)], none⟩])
        (.region [
          ⟨some 52, .p (.move (.tmp 0)), none⟩,
          ⟨some 53, .p (.faddr 2 (.tmp 7)), none⟩,
          ⟨some 54, .r (.load none (.tmp 53)) [], none⟩,
          ⟨some 55, .p (.move (.tmp 8)), none⟩,
          ⟨some 56, .p (.faddr 1 (.tmp 7)), none⟩,
          ⟨some 57, .r (.load none (.tmp 56)) [], none⟩,
          ⟨some 58, .call 196 [(.tmp 52), (.tmp 54), (.tmp 55), (.tmp 57)], none⟩]))))))))
      (.region [
        ⟨some 59, .p (.bin .add .no false (.tmp 12) (.con (.int .i64 (.ofNat 1)))), none⟩,
        ⟨some 12, .p (.move (.tmp 59)), none⟩])))))),
  [], false⟩
theorem c146_eq : cfn Tryz.prog cfg 146 = some c146 := by kernel_rfl

/-- (*rubric/args.checker).sels -/
def c147 : AFn := ⟨
  .seq (.region [
    ⟨some 10, .p (.move (.tmp 2)), none⟩,
    ⟨some 11, .p (.len false (.tmp 10)), none⟩,
    ⟨some 12, .p (.move (.con (.int .i64 (.ofNat 0)))), none⟩])
  (.block 0
    (.loop
      (.seq (.region [
        ⟨some 13, .p (.bin .lss .no false (.tmp 12) (.tmp 11)), none⟩])
      (.seq (.cond (.tmp 13)
        (.skip)
        (.exit 0))
      (.seq (.block 1
        (.seq (.region [
          ⟨some 14, .p (.iaddr 7 (.tmp 10) (.tmp 12)), none⟩,
          ⟨some 15, .r (.load (some 7) (.tmp 14)) [], none⟩,
          ⟨some 7, .w (.new [(.int .i64 (.ofNat 0)), (.str []), (.str []), .nils, .nils, .nils, (.int .i64 (.ofNat 0))]), none⟩,
          ⟨none, .w (.store 7 (.tmp 7) (.tmp 15)), none⟩])
        (.seq (.region [
          ⟨some 16, .p (.move (.tmp 0)), none⟩,
          ⟨some 17, .p (.faddr 4 (.tmp 7)), none⟩,
          ⟨some 18, .r (.load none (.tmp 17)) [], none⟩,
          ⟨some 19, .call 146 [(.tmp 16), (.tmp 18), (.con (.bool true))], none⟩])
        (.seq (.seq (.region [
          ⟨some 20, .p (.faddr 0 (.tmp 7)), none⟩,
          ⟨some 21, .r (.load none (.tmp 20)) [], none⟩,
          ⟨some 22, .p (.bin .eql .no true (.tmp 21) (.con (.int .i64 (.ofNat 1)))), none⟩])
        (.cond (.tmp 22)
          (.seq (.regionD [
            ⟨some 24, .p (.move (.tmp 0)), none⟩,
            ⟨some 25, .p (.nilck (.tmp 24)), none⟩,
            ⟨some 26, .p (.faddr 0 (.tmp 25)), none⟩,
            ⟨some 27, .r (.load none (.tmp 26)) [], none⟩,
            ⟨some 28, .p (.move (.tmp 1)), none⟩,
            ⟨some 29, .p (.faddr 2 (.tmp 7)), none⟩,
            ⟨some 30, .r (.load none (.tmp 29)) [], none⟩,
            ⟨some 31, .call 20 [(.tmp 27), (.tmp 28), (.tmp 30)], none⟩,
            ⟨some 23, .p (.move (.tmp 31)), none⟩,
            ⟨some 32, .p (.extract (.tmp 23) 0), none⟩,
            ⟨some 33, .p (.extract (.tmp 23) 1), none⟩,
            ⟨some 8, .skip, none⟩,
            ⟨some 8, .w (.box 4 (.tmp 32)), none⟩,
            ⟨some 9, .p (.move (.tmp 33)), none⟩])
          (.seq (.region [
            ⟨some 34, .p (.move (.tmp 9)), none⟩])
          (.cond (.tmp 34)
            (.region [
              ⟨some 35, .p (.move (.tmp 0)), none⟩,
              ⟨some 36, .p (.faddr 6 (.tmp 7)), none⟩,
              ⟨some 37, .r (.load none (.tmp 36)) [], none⟩,
              ⟨some 38, .p (.faddr 1 (.tmp 8)), none⟩,
              ⟨some 39, .r (.load none (.tmp 38)) [], none⟩,
              ⟨some 40, .p (.faddr 3 (.tmp 7)), none⟩,
              ⟨some 41, .r (.load none (.tmp 40)) [], none⟩,
              ⟨some 42, .call 196 [(.tmp 35), (.tmp 37), (.tmp 39), (.tmp 41)], none⟩])
            (.region [
              ⟨some 43, .p (.move (.tmp 0)), none⟩,
              ⟨some 44, .p (.faddr 3 (.tmp 7)), none⟩,
              ⟨some 45, .r (.load none (.tmp 44)) [], none⟩,
              ⟨some 46, .call 195 [(.tmp 43), (.tmp 45)], none⟩]))))
          (.skip)))
        (.regionD [
          ⟨some 47, .p (.move (.tmp 0)), none⟩,
          ⟨some 48, .p (.move (.tmp 0)), none⟩,
          ⟨some 49, .p (.nilck (.tmp 48)), none⟩,
          ⟨some 50, .p (.faddr 0 (.tmp 49)), none⟩,
          ⟨some 51, .r (.load none (.tmp 50)) [], none⟩,
          ⟨some 52, .p (.move (.tmp 1)), none⟩,
          ⟨some 53, .r (.load (some 7) (.tmp 7)) [], none⟩,
          ⟨some 54, .call 197 [(.tmp 51), (.tmp 52), (.tmp 53)], none⟩,
          ⟨some 55, .p (.faddr 5 (.tmp 7)), none⟩,
          ⟨some 56, .r (.load none (.tmp 55)) [0, 8], none⟩,
          ⟨some 57, .call 147 [(.tmp 47), (.tmp 54), (.tmp 56)], none⟩])))))
      (.region [
        ⟨some 58, .p (.bin .add .no false (.tmp 12) (.con (.int .i64 (.ofNat 1)))), none⟩,
        ⟨some 12, .p (.move (.tmp 58)), none⟩])))))),
  [], false⟩
theorem c147_eq : cfn Tryz.prog cfg 147 = some c147 := by kernel_rfl

/-- internal/stringslite.HasPrefix -/
def c148 : AFn := ⟨
  .seq (.region [
    ⟨some 4, .p (.move (.con (.bool false))), none⟩])
  (.seq (.region [
    ⟨some 5, .p (.move (.tmp 0)), none⟩,
    ⟨some 6, .p (.len true (.tmp 5)), none⟩,
    ⟨some 7, .p (.move (.tmp 1)), none⟩,
    ⟨some 8, .p (.len true (.tmp 7)), none⟩,
    ⟨some 9, .p (.bin .geq .no false (.tmp 6) (.tmp 8)), none⟩,
    ⟨some 10, .p (.move (.tmp 9)), none⟩,
    ⟨some 11, .p (.move (.tmp 0)), (some (10, true))⟩,
    ⟨some 12, .p (.move (.tmp 1)), (some (10, true))⟩,
    ⟨some 13, .p (.len true (.tmp 12)), (some (10, true))⟩,
    ⟨some 14, .p (.sliceS (.tmp 11) none (some (.tmp 13))), (some (10, true))⟩,
    ⟨some 15, .p (.move (.tmp 1)), (some (10, true))⟩,
    ⟨some 16, .p (.bin .eql .no false (.tmp 14) (.tmp 15)), (some (10, true))⟩,
    ⟨some 17, .p (.pick (.tmp 10) (.tmp 16) (.con (.bool false))), none⟩,
    ⟨some 4, .p (.move (.tmp 17)), none⟩])
  (.ret)),
  [.tmp 4], false⟩
theorem c148_eq : cfn Tryz.prog cfg 148 = some c148 := by kernel_rfl

/-- slices.IndexFunc[[]rubric/api.InDef,rubric/api.InDef] -/
def c151 : AFn := ⟨
  .seq (.region [
    ⟨some 4, .p (.move (.con (.int .i64 (.ofNat 0)))), none⟩])
  (.seq (.seq (.region [
    ⟨some 6, .p (.move (.tmp 0)), none⟩,
    ⟨some 7, .p (.len false (.tmp 6)), none⟩,
    ⟨some 8, .p (.move (.con (.int .i64 (.ofNat 0)))), none⟩])
  (.block 0
    (.loop
      (.seq (.region [
        ⟨some 9, .p (.bin .lss .no false (.tmp 8) (.tmp 7)), none⟩])
      (.seq (.cond (.tmp 9)
        (.skip)
        (.exit 0))
      (.seq (.block 1
        (.seq (.region [
          ⟨some 10, .p (.move (.tmp 8)), none⟩,
          ⟨some 5, .p (.move (.tmp 10)), none⟩])
        (.seq (.region [
          ⟨some 11, .p (.move (.tmp 1)), none⟩,
          ⟨some 12, .p (.move (.tmp 0)), none⟩,
          ⟨some 13, .p (.move (.tmp 5)), none⟩,
          ⟨some 14, .p (.iaddr 9 (.tmp 12) (.tmp 13)), none⟩,
          ⟨some 15, .r (.load (some 9) (.tmp 14)) [], none⟩,
          ⟨some 16, .callv (.tmp 11) [(.tmp 15)], none⟩])
        (.cond (.tmp 16)
          (.seq (.region [
            ⟨some 17, .p (.move (.tmp 5)), none⟩,
            ⟨some 4, .p (.move (.tmp 17)), none⟩])
          (.ret))
          (.skip)))))
      (.region [
        ⟨some 18, .p (.bin .add .no false (.tmp 8) (.con (.int .i64 (.ofNat 1)))), none⟩,
        ⟨some 8, .p (.move (.tmp 18)), none⟩])))))))
  (.seq (.region [
    ⟨some 4, .p (.move (.con (.int .i64 (.negSucc 0)))), none⟩])
  (.ret))),
  [.tmp 4], false⟩
theorem c151_eq : cfn Tryz.prog cfg 151 = some c151 := by kernel_rfl

/-- rubric/coerce.Problems -/
def c153 : AFn := ⟨
  .seq (.region [
    ⟨some 5, .w (.box 5 (.tmp 2)), none⟩,
    ⟨some 6, .p (.move (.con .nils)), none⟩])
  (.seq (.region [
    ⟨some 8, .p (.move (.tmp 0)), none⟩,
    ⟨some 9, .p (.build [.nilp, .nils] [(0, 1, (.tmp 8))]), none⟩,
    ⟨some 10, .w (.box 2 (.tmp 9)), none⟩,
    ⟨some 7, .p (.move (.tmp 10)), none⟩])
  (.seq (.region [
    ⟨some 11, .p (.move (.tmp 7)), none⟩,
    ⟨some 12, .p (.move (.tmp 1)), none⟩,
    ⟨some 13, .r (.load (some 5) (.tmp 5)) [], none⟩,
    ⟨some 14, .call 198 [(.tmp 11), (.tmp 12), (.tmp 13)], none⟩])
  (.seq (.region [
    ⟨some 15, .p (.move (.tmp 7)), none⟩,
    ⟨some 16, .r (.load (some 5) (.tmp 5)) [], none⟩,
    ⟨some 17, .call 199 [(.tmp 15), (.tmp 16)], none⟩])
  (.seq (.region [
    ⟨some 18, .p (.move (.tmp 7)), none⟩,
    ⟨some 19, .p (.nilck (.tmp 18)), none⟩,
    ⟨some 20, .p (.faddr 1 (.tmp 19)), none⟩,
    ⟨some 21, .r (.load none (.tmp 20)) [], none⟩,
    ⟨some 22, .p (.buildSl 1 1 [.nils] [(0, 1, (.tmp 21))]), none⟩,
    ⟨some 23, .call 34 [(.tmp 22)], none⟩,
    ⟨some 6, .p (.move (.tmp 23)), none⟩])
  (.ret))))),
  [.tmp 6], false⟩
theorem c153_eq : cfn Tryz.prog cfg 153 = some c153 := by kernel_rfl

/-- slices.insertionSortCmpFunc[rubric/api.Problem] -/
def c154 : AFn := ⟨
  .seq (.region [
    ⟨some 10, .p (.move (.tmp 1)), none⟩,
    ⟨some 11, .p (.bin .add .no false (.tmp 10) (.con (.int .i64 (.ofNat 1)))), none⟩,
    ⟨some 8, .p (.move (.tmp 11)), none⟩])
  (.block 0
    (.loop
      (.seq (.seq (.region [
        ⟨some 12, .p (.move (.tmp 8)), none⟩,
        ⟨some 13, .p (.move (.tmp 2)), none⟩,
        ⟨some 14, .p (.bin .lss .no false (.tmp 12) (.tmp 13)), none⟩])
      (.cond (.tmp 14)
        (.skip)
        (.exit 0)))
      (.seq (.block 1
        (.seq (.region [
          ⟨some 17, .p (.move (.tmp 8)), none⟩,
          ⟨some 9, .p (.move (.tmp 17)), none⟩])
        (.block 2
          (.loop
            (.seq (.seq (.regionD [
              ⟨some 18, .p (.move (.tmp 9)), none⟩,
              ⟨some 19, .p (.move (.tmp 1)), none⟩,
              ⟨some 20, .p (.bin .gtr .no false (.tmp 18) (.tmp 19)), none⟩,
              ⟨some 21, .p (.move (.tmp 20)), none⟩,
              ⟨some 22, .p (.move (.tmp 3)), (some (21, true))⟩,
              ⟨some 23, .p (.move (.tmp 0)), (some (21, true))⟩,
              ⟨some 24, .p (.move (.tmp 9)), (some (21, true))⟩,
              ⟨some 25, .p (.iaddr 2 (.tmp 23) (.tmp 24)), (some (21, true))⟩,
              ⟨some 26, .r (.load (some 2) (.tmp 25)) [], (some (21, true))⟩,
              ⟨some 27, .p (.move (.tmp 0)), (some (21, true))⟩,
              ⟨some 28, .p (.move (.tmp 9)), (some (21, true))⟩,
              ⟨some 29, .p (.bin .sub .no false (.tmp 28) (.con (.int .i64 (.ofNat 1)))), (some (21, true))⟩,
              ⟨some 30, .p (.iaddr 2 (.tmp 27) (.tmp 29)), (some (21, true))⟩,
              ⟨some 31, .r (.load (some 2) (.tmp 30)) [], (some (21, true))⟩,
              ⟨some 32, .callv (.tmp 22) [(.tmp 26), (.tmp 31)], (some (21, true))⟩,
              ⟨some 33, .p (.bin .lss .no false (.tmp 32) (.con (.int .i64 (.ofNat 0)))), (some (21, true))⟩,
              ⟨some 34, .p (.pick (.tmp 21) (.tmp 33) (.con (.bool false))), none⟩])
            (.cond (.tmp 34)
              (.skip)
              (.exit 2)))
            (.seq (.block 3
              (.regionD [
                ⟨some 37, .p (.move (.tmp 0)), none⟩,
                ⟨some 38, .p (.move (.tmp 9)), none⟩,
                ⟨some 39, .p (.move (.tmp 0)), none⟩,
                ⟨some 40, .p (.move (.tmp 9)), none⟩,
                ⟨some 41, .p (.bin .sub .no false (.tmp 40) (.con (.int .i64 (.ofNat 1)))), none⟩,
                ⟨some 42, .p (.move (.tmp 0)), none⟩,
                ⟨some 43, .p (.move (.tmp 9)), none⟩,
                ⟨some 44, .p (.bin .sub .no false (.tmp 43) (.con (.int .i64 (.ofNat 1)))), none⟩,
                ⟨some 45, .p (.iaddr 2 (.tmp 42) (.tmp 44)), none⟩,
                ⟨some 46, .r (.load (some 2) (.tmp 45)) [], none⟩,
                ⟨some 47, .p (.move (.tmp 0)), none⟩,
                ⟨some 48, .p (.move (.tmp 9)), none⟩,
                ⟨some 49, .p (.iaddr 2 (.tmp 47) (.tmp 48)), none⟩,
                ⟨some 50, .r (.load (some 2) (.tmp 49)) [], none⟩,
                ⟨some 51, .p (.iaddr 2 (.tmp 37) (.tmp 38)), none⟩,
                ⟨none, .w (.store 2 (.tmp 51) (.tmp 46)), none⟩,
                ⟨some 52, .p (.iaddr 2 (.tmp 39) (.tmp 41)), none⟩,
                ⟨none, .w (.store 2 (.tmp 52) (.tmp 50)), none⟩]))
            (.region [
              ⟨some 35, .p (.move (.tmp 9)), none⟩,
              ⟨some 36, .p (.bin .sub .no false (.tmp 35) (.con (.int .i64 (.ofNat 1)))), none⟩,
              ⟨some 9, .p (.move (.tmp 36)), none⟩])))))))
      (.region [
        ⟨some 15, .p (.move (.tmp 8)), none⟩,
        ⟨some 16, .p (.bin .add .no false (.tmp 15) (.con (.int .i64 (.ofNat 1)))), none⟩,
        ⟨some 8, .p (.move (.tmp 16)), none⟩]))))),
  [], false⟩
theorem c154_eq : cfn Tryz.prog cfg 154 = some c154 := by kernel_rfl

/-- (*rubric/lex.scanner).peek -/
def c163 : AFn := ⟨
  .seq (.region [
    ⟨some 4, .p (.move (.con (.int .u8 (.ofNat 0)))), none⟩])
  (.seq (.seq (.regionD [
    ⟨some 5, .p (.move (.tmp 0)), none⟩,
    ⟨some 6, .p (.nilck (.tmp 5)), none⟩,
    ⟨some 7, .p (.faddr 1 (.tmp 6)), none⟩,
    ⟨some 8, .r (.load none (.tmp 7)) [], none⟩,
    ⟨some 9, .p (.move (.tmp 1)), none⟩,
    ⟨some 10, .p (.bin .add .no false (.tmp 8) (.tmp 9)), none⟩,
    ⟨some 11, .p (.move (.tmp 0)), none⟩,
    ⟨some 12, .p (.nilck (.tmp 11)), none⟩,
    ⟨some 13, .p (.faddr 0 (.tmp 12)), none⟩,
    ⟨some 14, .r (.load none (.tmp 13)) [], none⟩,
    ⟨some 15, .p (.len true (.tmp 14)), none⟩,
    ⟨some 16, .p (.bin .lss .no false (.tmp 10) (.tmp 15)), none⟩])
  (.cond (.tmp 16)
    (.seq (.regionD [
      ⟨some 17, .p (.move (.tmp 0)), none⟩,
      ⟨some 18, .p (.nilck (.tmp 17)), none⟩,
      ⟨some 19, .p (.faddr 0 (.tmp 18)), none⟩,
      ⟨some 20, .r (.load none (.tmp 19)) [], none⟩,
      ⟨some 21, .p (.move (.tmp 0)), none⟩,
      ⟨some 22, .p (.nilck (.tmp 21)), none⟩,
      ⟨some 23, .p (.faddr 1 (.tmp 22)), none⟩,
      ⟨some 24, .r (.load none (.tmp 23)) [], none⟩,
      ⟨some 25, .p (.move (.tmp 1)), none⟩,
      ⟨some 26, .p (.bin .add .no false (.tmp 24) (.tmp 25)), none⟩,
      ⟨some 27, .p (.indexS (.tmp 20) (.tmp 26)), none⟩,
      ⟨some 4, .p (.move (.tmp 27)), none⟩])
    (.ret))
    (.skip)))
  (.seq (.region [
    ⟨some 4, .p (.move (.con (.int .u8 (.ofNat 0)))), none⟩])
  (.ret))),
  [.tmp 4], false⟩
theorem c163_eq : cfn Tryz.prog cfg 163 = some c163 := by kernel_rfl

/-- rubric/lex.letter -/
def c164 : AFn := ⟨
  .seq (.region [
    ⟨some 2, .p (.move (.con (.bool false))), none⟩])
  (.seq (.region [
    ⟨some 3, .p (.move (.tmp 0)), none⟩,
    ⟨some 4, .p (.bin .eql .no true (.tmp 3) (.con (.int .u8 (.ofNat 95)))), none⟩,
    ⟨some 5, .p (.move (.tmp 4)), none⟩,
    ⟨some 6, .p (.move (.tmp 0)), (some (5, false))⟩,
    ⟨some 7, .p (.bin .or .no false (.tmp 6) (.con (.int .u8 (.ofNat 32)))), (some (5, false))⟩,
    ⟨some 8, .p (.bin .geq .no false (.tmp 7) (.con (.int .u8 (.ofNat 97)))), (some (5, false))⟩,
    ⟨some 9, .p (.move (.tmp 8)), (some (5, false))⟩,
    ⟨some 10, .p (.move (.tmp 0)), (some (9, true))⟩,
    ⟨some 11, .p (.bin .or .no false (.tmp 10) (.con (.int .u8 (.ofNat 32)))), (some (9, true))⟩,
    ⟨some 12, .p (.bin .leq .no false (.tmp 11) (.con (.int .u8 (.ofNat 122)))), (some (9, true))⟩,
    ⟨some 13, .p (.pick (.tmp 9) (.tmp 12) (.con (.bool false))), (some (5, false))⟩,
    ⟨some 14, .p (.pick (.tmp 5) (.con (.bool true)) (.tmp 13)), none⟩,
    ⟨some 2, .p (.move (.tmp 14)), none⟩])
  (.ret)),
  [.tmp 2], false⟩
theorem c164_eq : cfn Tryz.prog cfg 164 = some c164 := by kernel_rfl

/-- (*rubric/lex.scanner).while -/
def c165 : AFn := ⟨
  .seq (.region [
    ⟨some 4, .p (.move (.con (.int .i64 (.ofNat 0)))), none⟩])
  (.seq (.region [
    ⟨some 6, .p (.move (.tmp 0)), none⟩,
    ⟨some 7, .p (.nilck (.tmp 6)), none⟩,
    ⟨some 8, .p (.faddr 1 (.tmp 7)), none⟩,
    ⟨some 9, .r (.load none (.tmp 8)) [], none⟩,
    ⟨some 5, .p (.move (.tmp 9)), none⟩])
  (.seq (.block 0
    (.loop
      (.seq (.seq (.regionD [
        ⟨some 10, .p (.move (.tmp 0)), none⟩,
        ⟨some 11, .p (.nilck (.tmp 10)), none⟩,
        ⟨some 12, .p (.faddr 1 (.tmp 11)), none⟩,
        ⟨some 13, .r (.load none (.tmp 12)) [], none⟩,
        ⟨some 14, .p (.move (.tmp 0)), none⟩,
        ⟨some 15, .p (.nilck (.tmp 14)), none⟩,
        ⟨some 16, .p (.faddr 0 (.tmp 15)), none⟩,
        ⟨some 17, .r (.load none (.tmp 16)) [], none⟩,
        ⟨some 18, .p (.len true (.tmp 17)), none⟩,
        ⟨some 19, .p (.bin .lss .no false (.tmp 13) (.tmp 18)), none⟩,
        ⟨some 20, .p (.move (.tmp 19)), none⟩,
        ⟨some 21, .p (.move (.tmp 1)), (some (20, true))⟩,
        ⟨some 22, .p (.move (.tmp 0)), (some (20, true))⟩,
        ⟨some 23, .p (.nilck (.tmp 22)), (some (20, true))⟩,
        ⟨some 24, .p (.faddr 0 (.tmp 23)), (some (20, true))⟩,
        ⟨some 25, .r (.load none (.tmp 24)) [], (some (20, true))⟩,
        ⟨some 26, .p (.move (.tmp 0)), (some (20, true))⟩,
        ⟨some 27, .p (.nilck (.tmp 26)), (some (20, true))⟩,
        ⟨some 28, .p (.faddr 1 (.tmp 27)), (some (20, true))⟩,
        ⟨some 29, .r (.load none (.tmp 28)) [], (some (20, true))⟩,
        ⟨some 30, .p (.indexS (.tmp 25) (.tmp 29)), (some (20, true))⟩,
        ⟨some 31, .callv (.tmp 21) [(.tmp 30)], (some (20, true))⟩,
        ⟨some 32, .p (.pick (.tmp 20) (.tmp 31) (.con (.bool false))), none⟩])
      (.cond (.tmp 32)
        (.skip)
        (.exit 0)))
      (.block 1
        (.region [
          ⟨some 33, .p (.move (.tmp 0)), none⟩,
          ⟨some 34, .p (.nilck (.tmp 33)), none⟩,
          ⟨some 35, .p (.faddr 1 (.tmp 34)), none⟩,
          ⟨some 36, .r (.load none (.tmp 35)) [], none⟩,
          ⟨some 37, .p (.bin .add .no false (.tmp 36) (.con (.int .i64 (.ofNat 1)))), none⟩,
          ⟨some 38, .p (.nilck (.tmp 33)), none⟩,
          ⟨some 39, .p (.faddr 1 (.tmp 38)), none⟩,
          ⟨none, .w (.store 1 (.tmp 39) (.tmp 37)), none⟩])))))
  (.seq (.region [
    ⟨some 40, .p (.move (.tmp 0)), none⟩,
    ⟨some 41, .p (.nilck (.tmp 40)), none⟩,
    ⟨some 42, .p (.faddr 1 (.tmp 41)), none⟩,
    ⟨some 43, .r (.load none (.tmp 42)) [], none⟩,
    ⟨some 44, .p (.move (.tmp 5)), none⟩,
    ⟨some 45, .p (.bin .sub .no false (.tmp 43) (.tmp 44)), none⟩,
    ⟨some 4, .p (.move (.tmp 45)), none⟩])
  (.ret)))),
  [.tmp 4], false⟩
theorem c165_eq : cfn Tryz.prog cfg 165 = some c165 := by kernel_rfl

/-- (*rubric/lex.scanner).token$1 -/
def c166 : AFn := ⟨
  .seq (.region [
    ⟨some 2, .p (.move (.con (.bool false))), none⟩])
  (.seq (.region [
    ⟨some 3, .p (.move (.tmp 0)), none⟩,
    ⟨some 4, .call 164 [(.tmp 3)], none⟩,
    ⟨some 5, .p (.move (.tmp 4)), none⟩,
    ⟨some 6, .p (.move (.tmp 0)), (some (5, false))⟩,
    ⟨some 7, .call 167 [(.tmp 6)], (some (5, false))⟩,
    ⟨some 8, .p (.pick (.tmp 5) (.con (.bool true)) (.tmp 7)), none⟩,
    ⟨some 2, .p (.move (.tmp 8)), none⟩])
  (.ret)),
  [.tmp 2], false⟩
theorem c166_eq : cfn Tryz.prog cfg 166 = some c166 := by kernel_rfl

/-- rubric/lex.digit -/
def c167 : AFn := ⟨
  .seq (.region [
    ⟨some 2, .p (.move (.con (.bool false))), none⟩])
  (.seq (.region [
    ⟨some 3, .p (.move (.tmp 0)), none⟩,
    ⟨some 4, .p (.bin .geq .no false (.tmp 3) (.con (.int .u8 (.ofNat 48)))), none⟩,
    ⟨some 5, .p (.move (.tmp 4)), none⟩,
    ⟨some 6, .p (.move (.tmp 0)), (some (5, true))⟩,
    ⟨some 7, .p (.bin .leq .no false (.tmp 6) (.con (.int .u8 (.ofNat 57)))), (some (5, true))⟩,
    ⟨some 8, .p (.pick (.tmp 5) (.tmp 7) (.con (.bool false))), none⟩,
    ⟨some 2, .p (.move (.tmp 8)), none⟩])
  (.ret)),
  [.tmp 2], false⟩
theorem c167_eq : cfn Tryz.prog cfg 167 = some c167 := by kernel_rfl

/-- (*rubric/lex.scanner).number -/
def c168 : AFn := ⟨
  .seq (.region [
    ⟨some 2, .p (.move (.con (.int .i64 (.ofNat 0)))), none⟩])
  (.seq (.region [
    ⟨some 3, .p (.move (.con (.int .i64 (.ofNat 2)))), none⟩])
  (.seq (.seq (.region [
    ⟨some 8, .p (.move (.tmp 0)), none⟩,
    ⟨some 9, .call 163 [(.tmp 8), (.con (.int .i64 (.ofNat 0)))], none⟩,
    ⟨some 10, .p (.bin .eql .no true (.tmp 9) (.con (.int .u8 (.ofNat 45)))), none⟩])
  (.cond (.tmp 10)
    (.region [
      ⟨some 11, .p (.move (.tmp 0)), none⟩,
      ⟨some 12, .p (.nilck (.tmp 11)), none⟩,
      ⟨some 13, .p (.faddr 1 (.tmp 12)), none⟩,
      ⟨some 14, .r (.load none (.tmp 13)) [], none⟩,
      ⟨some 15, .p (.bin .add .no false (.tmp 14) (.con (.int .i64 (.ofNat 1)))), none⟩,
      ⟨some 16, .p (.nilck (.tmp 11)), none⟩,
      ⟨some 17, .p (.faddr 1 (.tmp 16)), none⟩,
      ⟨none, .w (.store 1 (.tmp 17) (.tmp 15)), none⟩])
    (.skip)))
  (.seq (.region [
    ⟨some 18, .p (.move (.tmp 0)), none⟩,
    ⟨some 19, .call 163 [(.tmp 18), (.con (.int .i64 (.ofNat 0)))], none⟩,
    ⟨some 20, .p (.bin .eql .no true (.tmp 19) (.con (.int .u8 (.ofNat 48)))), none⟩,
    ⟨some 4, .p (.move (.tmp 20)), none⟩])
  (.seq (.seq (.region [
    ⟨some 21, .p (.move (.tmp 0)), none⟩,
    ⟨some 22, .call 165 [(.tmp 21), (.con (.fn 167 [] []))], none⟩,
    ⟨some 5, .p (.move (.tmp 22)), none⟩])
  (.seq (.region [
    ⟨some 23, .p (.move (.tmp 5)), none⟩,
    ⟨some 24, .p (.bin .eql .no true (.tmp 23) (.con (.int .i64 (.ofNat 0)))), none⟩,
    ⟨some 25, .p (.move (.tmp 24)), none⟩,
    ⟨some 26, .p (.move (.tmp 4)), (some (25, false))⟩,
    ⟨some 27, .p (.move (.tmp 26)), (some (25, false))⟩,
    ⟨some 28, .p (.move (.tmp 5)), (some (27, true))⟩,
    ⟨some 29, .p (.bin .gtr .no false (.tmp 28) (.con (.int .i64 (.ofNat 1)))), (some (27, true))⟩,
    ⟨some 30, .p (.pick (.tmp 27) (.tmp 29) (.con (.bool false))), (some (25, false))⟩,
    ⟨some 31, .p (.pick (.tmp 25) (.con (.bool true)) (.tmp 30)), none⟩])
  (.cond (.tmp 31)
    (.seq (.region [
      ⟨some 2, .p (.move (.con (.int .i64 (.ofNat 0)))), none⟩])
    (.ret))
    (.skip))))
  (.seq (.seq (.region [
    ⟨some 32, .p (.move (.tmp 0)), none⟩,
    ⟨some 33, .call 163 [(.tmp 32), (.con (.int .i64 (.ofNat 0)))], none⟩,
    ⟨some 34, .p (.bin .eql .no true (.tmp 33) (.con (.int .u8 (.ofNat 46)))), none⟩])
  (.cond (.tmp 34)
    (.seq (.region [
      ⟨some 35, .p (.move (.tmp 0)), none⟩,
      ⟨some 36, .p (.nilck (.tmp 35)), none⟩,
      ⟨some 37, .p (.faddr 1 (.tmp 36)), none⟩,
      ⟨some 38, .r (.load none (.tmp 37)) [], none⟩,
      ⟨some 39, .p (.bin .add .no false (.tmp 38) (.con (.int .i64 (.ofNat 1)))), none⟩,
      ⟨some 40, .p (.nilck (.tmp 35)), none⟩,
      ⟨some 41, .p (.faddr 1 (.tmp 40)), none⟩,
      ⟨none, .w (.store 1 (.tmp 41) (.tmp 39)), none⟩])
    (.seq (.region [
      ⟨some 3, .p (.move (.con (.int .i64 (.ofNat 3)))), none⟩])
    (.seq (.region [
      ⟨some 42, .p (.move (.tmp 0)), none⟩,
      ⟨some 43, .call 165 [(.tmp 42), (.con (.fn 167 [] []))], none⟩,
      ⟨some 44, .p (.bin .eql .no true (.tmp 43) (.con (.int .i64 (.ofNat 0)))), none⟩])
    (.cond (.tmp 44)
      (.seq (.region [
        ⟨some 2, .p (.move (.con (.int .i64 (.ofNat 0)))), none⟩])
      (.ret))
      (.skip)))))
    (.skip)))
  (.seq (.seq (.region [
    ⟨some 45, .p (.move (.tmp 0)), none⟩,
    ⟨some 46, .call 163 [(.tmp 45), (.con (.int .i64 (.ofNat 0)))], none⟩,
    ⟨some 47, .p (.bin .or .no false (.tmp 46) (.con (.int .u8 (.ofNat 32)))), none⟩,
    ⟨some 48, .p (.bin .eql .no true (.tmp 47) (.con (.int .u8 (.ofNat 101)))), none⟩])
  (.cond (.tmp 48)
    (.seq (.region [
      ⟨some 49, .p (.move (.tmp 0)), none⟩,
      ⟨some 50, .p (.nilck (.tmp 49)), none⟩,
      ⟨some 51, .p (.faddr 1 (.tmp 50)), none⟩,
      ⟨some 52, .r (.load none (.tmp 51)) [], none⟩,
      ⟨some 53, .p (.bin .add .no false (.tmp 52) (.con (.int .i64 (.ofNat 1)))), none⟩,
      ⟨some 54, .p (.nilck (.tmp 49)), none⟩,
      ⟨some 55, .p (.faddr 1 (.tmp 54)), none⟩,
      ⟨none, .w (.store 1 (.tmp 55) (.tmp 53)), none⟩])
    (.seq (.region [
      ⟨some 3, .p (.move (.con (.int .i64 (.ofNat 3)))), none⟩])
    (.seq (.seq (.region [
      ⟨some 56, .p (.move (.tmp 0)), none⟩,
      ⟨some 57, .call 163 [(.tmp 56), (.con (.int .i64 (.ofNat 0)))], none⟩,
      ⟨some 6, .p (.move (.tmp 57)), none⟩])
    (.seq (.region [
      ⟨some 58, .p (.move (.tmp 6)), none⟩,
      ⟨some 59, .p (.bin .eql .no true (.tmp 58) (.con (.int .u8 (.ofNat 43)))), none⟩,
      ⟨some 60, .p (.move (.tmp 59)), none⟩,
      ⟨some 61, .p (.move (.tmp 6)), (some (60, false))⟩,
      ⟨some 62, .p (.bin .eql .no true (.tmp 61) (.con (.int .u8 (.ofNat 45)))), (some (60, false))⟩,
      ⟨some 63, .p (.pick (.tmp 60) (.con (.bool true)) (.tmp 62)), none⟩])
    (.cond (.tmp 63)
      (.region [
        ⟨some 64, .p (.move (.tmp 0)), none⟩,
        ⟨some 65, .p (.nilck (.tmp 64)), none⟩,
        ⟨some 66, .p (.faddr 1 (.tmp 65)), none⟩,
        ⟨some 67, .r (.load none (.tmp 66)) [], none⟩,
        ⟨some 68, .p (.bin .add .no false (.tmp 67) (.con (.int .i64 (.ofNat 1)))), none⟩,
        ⟨some 69, .p (.nilck (.tmp 64)), none⟩,
        ⟨some 70, .p (.faddr 1 (.tmp 69)), none⟩,
        ⟨none, .w (.store 1 (.tmp 70) (.tmp 68)), none⟩])
      (.skip))))
    (.seq (.region [
      ⟨some 71, .p (.move (.tmp 0)), none⟩,
      ⟨some 72, .call 165 [(.tmp 71), (.con (.fn 167 [] []))], none⟩,
      ⟨some 73, .p (.bin .eql .no true (.tmp 72) (.con (.int .i64 (.ofNat 0)))), none⟩])
    (.cond (.tmp 73)
      (.seq (.region [
        ⟨some 2, .p (.move (.con (.int .i64 (.ofNat 0)))), none⟩])
      (.ret))
      (.skip))))))
    (.skip)))
  (.seq (.seq (.region [
    ⟨some 74, .p (.move (.tmp 0)), none⟩,
    ⟨some 75, .call 163 [(.tmp 74), (.con (.int .i64 (.ofNat 0)))], none⟩,
    ⟨some 7, .p (.move (.tmp 75)), none⟩])
  (.seq (.region [
    ⟨some 76, .p (.move (.tmp 7)), none⟩,
    ⟨some 77, .p (.bin .eql .no true (.tmp 76) (.con (.int .u8 (.ofNat 46)))), none⟩,
    ⟨some 78, .p (.move (.tmp 77)), none⟩,
    ⟨some 79, .p (.move (.tmp 7)), (some (78, false))⟩,
    ⟨some 80, .call 164 [(.tmp 79)], (some (78, false))⟩,
    ⟨some 81, .p (.pick (.tmp 78) (.con (.bool true)) (.tmp 80)), none⟩,
    ⟨some 82, .p (.move (.tmp 81)), none⟩,
    ⟨some 83, .p (.move (.tmp 7)), (some (82, false))⟩,
    ⟨some 84, .call 167 [(.tmp 83)], (some (82, false))⟩,
    ⟨some 85, .p (.pick (.tmp 82) (.con (.bool true)) (.tmp 84)), none⟩])
  (.cond (.tmp 85)
    (.seq (.region [
      ⟨some 2, .p (.move (.con (.int .i64 (.ofNat 0)))), none⟩])
    (.ret))
    (.skip))))
  (.seq (.region [
    ⟨some 86, .p (.move (.tmp 3)), none⟩,
    ⟨some 2, .p (.move (.tmp 86)), none⟩])
  (.ret))))))))),
  [.tmp 2], false⟩
theorem c168_eq : cfn Tryz.prog cfg 168 = some c168 := by kernel_rfl

/-- strings.IndexByte -/
def c171 : AFn := ⟨
  .seq (.region [
    ⟨some 4, .p (.move (.con (.int .i64 (.ofNat 0)))), none⟩])
  (.seq (.region [
    ⟨some 5, .p (.move (.tmp 0)), none⟩,
    ⟨some 6, .p (.move (.tmp 1)), none⟩,
    ⟨some 7, .call 209 [(.tmp 5), (.tmp 6)], none⟩,
    ⟨some 4, .p (.move (.tmp 7)), none⟩])
  (.ret)),
  [.tmp 4], false⟩
theorem c171_eq : cfn Tryz.prog cfg 171 = some c171 := by kernel_rfl

/-- (*rubric/read.Reader).Down -/
def c172 : AFn := ⟨
  .seq (.seq (.region [
    ⟨some 4, .p (.move (.tmp 0)), none⟩,
    ⟨some 5, .p (.move (.tmp 1)), none⟩,
    ⟨some 6, .p (.buildSl 1 1 [(.str [])] [(0, 1, (.tmp 5))]), none⟩,
    ⟨some 7, .call 117 [(.tmp 4), (.tmp 6)], none⟩,
    ⟨some 8, .p (.move (.tmp 7)), none⟩,
    ⟨some 9, .p (.move (.tmp 0)), (some (8, true))⟩,
    ⟨some 10, .p (.nilck (.tmp 9)), (some (8, true))⟩,
    ⟨some 11, .p (.faddr 2 (.tmp 10)), (some (8, true))⟩,
    ⟨some 12, .r (.load none (.tmp 11)) [], (some (8, true))⟩,
    ⟨some 13, .p (.bin .eql .no true (.tmp 12) (.con (.int .i64 (.ofNat 16)))), (some (8, true))⟩,
    ⟨some 14, .p (.pick (.tmp 8) (.tmp 13) (.con (.bool false))), none⟩])
  (.cond (.tmp 14)
    (.region [
      ⟨some 15, .p (.move (.tmp 0)), none⟩,
      ⟨some 16, .call 112 [(.tmp 15), (.con (.int .i64 (.ofNat 42)))], none⟩])
    (.skip)))
  (.seq (.region [
    ⟨some 17, .p (.move (.tmp 0)), none⟩,
    ⟨some 18, .p (.move (.tmp 1)), none⟩,
    ⟨some 19, .call 114 [(.tmp 17), (.tmp 18)], none⟩])
  (.region [
    ⟨some 20, .p (.move (.tmp 0)), none⟩,
    ⟨some 21, .p (.nilck (.tmp 20)), none⟩,
    ⟨some 22, .p (.faddr 2 (.tmp 21)), none⟩,
    ⟨some 23, .r (.load none (.tmp 22)) [], none⟩,
    ⟨some 24, .p (.bin .add .no false (.tmp 23) (.con (.int .i64 (.ofNat 1)))), none⟩,
    ⟨some 25, .p (.nilck (.tmp 20)), none⟩,
    ⟨some 26, .p (.faddr 2 (.tmp 25)), none⟩,
    ⟨none, .w (.store 1 (.tmp 26) (.tmp 24)), none⟩])),
  [], false⟩
theorem c172_eq : cfn Tryz.prog cfg 172 = some c172 := by kernel_rfl

/-- (*rubric/read.Reader).Up -/
def c173 : AFn := ⟨
  .seq (.region [
    ⟨some 4, .p (.move (.tmp 0)), none⟩,
    ⟨some 5, .p (.move (.tmp 1)), none⟩,
    ⟨some 6, .call 114 [(.tmp 4), (.tmp 5)], none⟩])
  (.region [
    ⟨some 7, .p (.move (.tmp 0)), none⟩,
    ⟨some 8, .p (.nilck (.tmp 7)), none⟩,
    ⟨some 9, .p (.faddr 2 (.tmp 8)), none⟩,
    ⟨some 10, .r (.load none (.tmp 9)) [], none⟩,
    ⟨some 11, .p (.bin .sub .no false (.tmp 10) (.con (.int .i64 (.ofNat 1)))), none⟩,
    ⟨some 12, .p (.nilck (.tmp 7)), none⟩,
    ⟨some 13, .p (.faddr 2 (.tmp 12)), none⟩,
    ⟨none, .w (.store 1 (.tmp 13) (.tmp 11)), none⟩]),
  [], false⟩
theorem c173_eq : cfn Tryz.prog cfg 173 = some c173 := by kernel_rfl

/-- (*rubric/read.Reader).Arg -/
def c176 : AFn := ⟨
  .seq (.region [
    ⟨some 4, .w (.new [(.str []), (.int .i64 (.ofNat 0)), (.str []), .nils, .nils, (.int .i64 (.ofNat 0)), (.int .i64 (.ofNat 0))]), none⟩])
  (.seq (.region [
    ⟨some 6, .p (.move (.tmp 0)), none⟩,
    ⟨some 7, .call 36 [(.tmp 6)], none⟩,
    ⟨some 8, .p (.field 2 none (.tmp 7)), none⟩,
    ⟨some 9, .p (.move (.tmp 0)), none⟩,
    ⟨some 10, .call 75 [(.tmp 9)], none⟩,
    ⟨some 11, .p (.build [(.str []), (.int .i64 (.ofNat 0)), (.str []), .nils, .nils, (.int .i64 (.ofNat 0)), (.int .i64 (.ofNat 0))] [(6, 1, (.tmp 8)), (0, 1, (.tmp 10))]), none⟩,
    ⟨some 5, .w (.new [(.str []), (.int .i64 (.ofNat 0)), (.str []), .nils, .nils, (.int .i64 (.ofNat 0)), (.int .i64 (.ofNat 0))]), none⟩,
    ⟨none, .w (.store 7 (.tmp 5) (.tmp 11)), none⟩])
  (.seq (.region [
    ⟨some 12, .p (.move (.tmp 0)), none⟩,
    ⟨some 13, .call 114 [(.tmp 12), (.con (.str [58]))], none⟩])
  (.seq (.region [
    ⟨some 14, .p (.move (.tmp 0)), none⟩,
    ⟨some 15, .p (.move (.tmp 1)), none⟩,
    ⟨some 16, .call 118 [(.tmp 14), (.tmp 15)], none⟩,
    ⟨some 17, .p (.faddr 1 (.tmp 5)), none⟩,
    ⟨none, .w (.store 5 (.tmp 17) (.tmp 16)), none⟩])
  (.seq (.region [
    ⟨some 18, .r (.load (some 7) (.tmp 5)) [], none⟩,
    ⟨none, .w (.store 7 (.tmp 4) (.tmp 18)), none⟩])
  (.ret))))),
  [.cell 4 (some 7)], false⟩
theorem c176_eq : cfn Tryz.prog cfg 176 = some c176 := by kernel_rfl

/-- (*strings.asciiSet).contains -/
def c177 : AFn := ⟨
  .seq (.region [
    ⟨some 4, .p (.move (.con (.bool false))), none⟩])
  (.seq (.region [
    ⟨some 5, .p (.move (.tmp 0)), none⟩,
    ⟨some 6, .p (.move (.tmp 1)), none⟩,
    ⟨some 7, .p (.nilck (.tmp 5)), none⟩,
    ⟨some 8, .p (.iaddrA 256 1 (.tmp 7) (.tmp 6)), none⟩,
    ⟨some 9, .r (.load none (.tmp 8)) [], none⟩,
    ⟨some 4, .p (.move (.tmp 9)), none⟩])
  (.ret)),
  [.tmp 4], false⟩
theorem c177_eq : cfn Tryz.prog cfg 177 = some c177 := by kernel_rfl

/-- (*rubric/query.reader).dirs -/
def c188 : AFn := ⟨
  .seq (.region [
    ⟨some 2, .p (.move (.con .nils)), none⟩])
  (.seq (.region [
    ⟨some 3, .p (.move (.con .nils)), none⟩])
  (.seq (.block 0
    (.loop
      (.seq (.seq (.region [
        ⟨some 5, .p (.move (.tmp 0)), none⟩,
        ⟨some 6, .p (.nilck (.tmp 5)), none⟩,
        ⟨some 7, .p (.faddr 0 (.tmp 6)), none⟩,
        ⟨some 8, .p (.buildSl 1 1 [(.str [])] [(0, 1, (.con (.str [64])))]), none⟩,
        ⟨some 9, .call 117 [(.tmp 7), (.tmp 8)], none⟩])
      (.cond (.tmp 9)
        (.skip)
        (.exit 0)))
      (.block 1
        (.seq (.region [
          ⟨some 10, .p (.move (.tmp 0)), none⟩,
          ⟨some 11, .p (.nilck (.tmp 10)), none⟩,
          ⟨some 12, .p (.faddr 0 (.tmp 11)), none⟩,
          ⟨some 13, .call 73 [(.tmp 12)], none⟩,
          ⟨some 14, .p (.field 2 none (.tmp 13)), none⟩,
          ⟨some 15, .p (.build [(.str []), .nils, (.int .i64 (.ofNat 0))] [(2, 1, (.tmp 14))]), none⟩,
          ⟨some 4, .w (.new [(.str []), .nils, (.int .i64 (.ofNat 0))]), none⟩,
          ⟨none, .w (.store 3 (.tmp 4) (.tmp 15)), none⟩])
        (.seq (.region [
          ⟨some 16, .p (.move (.tmp 0)), none⟩,
          ⟨some 17, .p (.nilck (.tmp 16)), none⟩,
          ⟨some 18, .p (.faddr 0 (.tmp 17)), none⟩,
          ⟨some 19, .call 75 [(.tmp 18)], none⟩,
          ⟨some 20, .p (.faddr 0 (.tmp 4)), none⟩,
          ⟨none, .w (.store 1 (.tmp 20) (.tmp 19)), none⟩])
        (.seq (.region [
          ⟨some 21, .p (.move (.tmp 0)), none⟩,
          ⟨some 22, .p (.nilck (.tmp 21)), none⟩,
          ⟨some 23, .p (.faddr 0 (.tmp 22)), none⟩,
          ⟨some 24, .call 214 [(.tmp 23), (.con (.bool false))], none⟩,
          ⟨some 25, .p (.faddr 1 (.tmp 4)), none⟩,
          ⟨none, .w (.store 1 (.tmp 25) (.tmp 24)), none⟩])
        (.region [
          ⟨some 26, .p (.move (.tmp 3)), none⟩,
          ⟨some 27, .r (.load (some 3) (.tmp 4)) [], none⟩,
          ⟨some 28, .p (.buildSl 3 1 [(.str []), .nils, (.int .i64 (.ofNat 0))] [(0, 3, (.tmp 27))]), none⟩,
          ⟨some 29, .w (.append false 3 48 (.tmp 26) (.tmp 28)), none⟩,
          ⟨some 3, .p (.move (.tmp 29)), none⟩]))))))))
  (.seq (.region [
    ⟨some 30, .p (.move (.tmp 3)), none⟩,
    ⟨some 2, .p (.move (.tmp 30)), none⟩])
  (.ret)))),
  [.tmp 2], false⟩
theorem c188_eq : cfn Tryz.prog cfg 188 = some c188 := by kernel_rfl

/-- (*rubric/query.reader).sels -/
def c189 : AFn := ⟨
  .seq (.region [
    ⟨some 1, .w (.box 1 (.tmp 0)), none⟩,
    ⟨some 2, .p (.move (.con .nils)), none⟩])
  (.seq (.region [
    ⟨some 3, .w (.new [.nils]), none⟩])
  (.seq (.region [
    ⟨some 4, .r (.load none (.tmp 1)) [], none⟩,
    ⟨some 5, .p (.nilck (.tmp 4)), none⟩,
    ⟨some 6, .p (.faddr 0 (.tmp 5)), none⟩,
    ⟨some 7, .call 172 [(.tmp 6), (.con (.str [123]))], none⟩])
  (.seq (.region [
    ⟨some 8, .r (.load none (.tmp 1)) [], none⟩,
    ⟨some 9, .p (.nilck (.tmp 8)), none⟩,
    ⟨some 10, .p (.faddr 0 (.tmp 9)), none⟩,
    ⟨some 11, .p (.mkfn 215 [] [(.tmp 3), (.tmp 1)]), none⟩,
    ⟨some 12, .call 113 [(.tmp 10), (.con (.str [125])), (.con (.bool true)), (.tmp 11)], none⟩])
  (.seq (.region [
    ⟨some 13, .r (.load none (.tmp 1)) [], none⟩,
    ⟨some 14, .p (.nilck (.tmp 13)), none⟩,
    ⟨some 15, .p (.faddr 0 (.tmp 14)), none⟩,
    ⟨some 16, .call 173 [(.tmp 15), (.con (.str [125]))], none⟩])
  (.seq (.region [
    ⟨some 17, .r (.load none (.tmp 3)) [], none⟩,
    ⟨some 2, .p (.move (.tmp 17)), none⟩])
  (.ret)))))),
  [.tmp 2], false⟩
theorem c189_eq : cfn Tryz.prog cfg 189 = some c189 := by kernel_rfl

/-- (*rubric/args.checker).tell -/
def c192 : AFn := ⟨
  .seq (.region [
    ⟨some 10, .p (.move (.tmp 3)), none⟩,
    ⟨some 11, .p (.len false (.tmp 10)), none⟩,
    ⟨some 12, .p (.move (.con (.int .i64 (.ofNat 0)))), none⟩])
  (.block 0
    (.loop
      (.seq (.region [
        ⟨some 13, .p (.bin .lss .no false (.tmp 12) (.tmp 11)), none⟩])
      (.seq (.cond (.tmp 13)
        (.skip)
        (.exit 0))
      (.seq (.block 1
        (.seq (.region [
          ⟨some 14, .p (.iaddr 1 (.tmp 10) (.tmp 12)), none⟩,
          ⟨some 15, .r (.load none (.tmp 14)) [], none⟩,
          ⟨some 9, .p (.move (.tmp 15)), none⟩])
        (.seq (.region [
          ⟨some 16, .p (.move (.tmp 1)), none⟩,
          ⟨some 17, .p (.un .not (.tmp 16)), none⟩])
        (.cond (.tmp 17)
          (.region [
            ⟨some 18, .p (.move (.tmp 0)), none⟩,
            ⟨some 19, .p (.move (.tmp 0)), none⟩,
            ⟨some 20, .p (.nilck (.tmp 19)), none⟩,
            ⟨some 21, .p (.faddr 1 (.tmp 20)), none⟩,
            ⟨some 22, .r (.load none (.tmp 21)) [], none⟩,
            ⟨some 23, .p (.move (.tmp 2)), none⟩,
            ⟨some 24, .p (.move (.tmp 9)), none⟩,
            ⟨some 25, .p (.build [(.int .i64 (.ofNat 0)), (.int .i64 (.ofNat 0))] [(0, 1, (.tmp 23)), (1, 1, (.tmp 24))]), none⟩,
            ⟨some 26, .p (.buildSl 2 1 [(.int .i64 (.ofNat 0)), (.int .i64 (.ofNat 0))] [(0, 2, (.tmp 25))]), none⟩,
            ⟨some 27, .w (.append false 2 16 (.tmp 22) (.tmp 26)), none⟩,
            ⟨some 28, .p (.nilck (.tmp 18)), none⟩,
            ⟨some 29, .p (.faddr 1 (.tmp 28)), none⟩,
            ⟨none, .w (.store 1 (.tmp 29) (.tmp 27)), none⟩])
          (.skip)))))
      (.region [
        ⟨some 30, .p (.bin .add .no false (.tmp 12) (.con (.int .i64 (.ofNat 1)))), none⟩,
        ⟨some 12, .p (.move (.tmp 30)), none⟩])))))),
  [], false⟩
theorem c192_eq : cfn Tryz.prog cfg 192 = some c192 := by kernel_rfl

/-- slices.ContainsFunc[[]rubric/api.Dir,rubric/api.Dir] -/
def c193 : AFn := ⟨
  .seq (.region [
    ⟨some 4, .p (.move (.con (.bool false))), none⟩])
  (.seq (.region [
    ⟨some 5, .p (.move (.tmp 0)), none⟩,
    ⟨some 6, .p (.move (.tmp 1)), none⟩,
    ⟨some 7, .call 217 [(.tmp 5), (.tmp 6)], none⟩,
    ⟨some 8, .p (.bin .geq .no false (.tmp 7) (.con (.int .i64 (.ofNat 0)))), none⟩,
    ⟨some 4, .p (.move (.tmp 8)), none⟩])
  (.ret)),
  [.tmp 4], false⟩
theorem c193_eq : cfn Tryz.prog cfg 193 = some c193 := by kernel_rfl

/-- (*rubric/args.checker).given -/
def c195 : AFn := ⟨
  .seq (.region [
    ⟨some 6, .p (.move (.tmp 1)), none⟩,
    ⟨some 7, .p (.len false (.tmp 6)), none⟩,
    ⟨some 8, .p (.move (.con (.int .i64 (.ofNat 0)))), none⟩])
  (.block 0
    (.loop
      (.seq (.region [
        ⟨some 9, .p (.bin .lss .no false (.tmp 8) (.tmp 7)), none⟩])
      (.seq (.cond (.tmp 9)
        (.skip)
        (.exit 0))
      (.seq (.block 1
        (.seq (.region [
          ⟨some 10, .p (.move (.tmp 8)), none⟩,
          ⟨some 11, .p (.iaddr 7 (.tmp 6) (.tmp 8)), none⟩,
          ⟨some 12, .r (.load (some 7) (.tmp 11)) [], none⟩,
          ⟨some 5, .w (.new [(.str []), (.int .i64 (.ofNat 0)), (.str []), .nils, .nils, (.int .i64 (.ofNat 0)), (.int .i64 (.ofNat 0))]), none⟩,
          ⟨some 4, .p (.move (.tmp 10)), none⟩,
          ⟨none, .w (.store 7 (.tmp 5) (.tmp 12)), none⟩])
        (.seq (.regionD [
          ⟨some 13, .p (.move (.tmp 0)), none⟩,
          ⟨some 14, .p (.move (.tmp 1)), none⟩,
          ⟨some 15, .p (.move (.tmp 4)), none⟩,
          ⟨some 16, .p (.sliceL 7 (.tmp 14) none (some (.tmp 15)) none), none⟩,
          ⟨some 17, .p (.mkfn 219 [] [(.tmp 5)]), none⟩,
          ⟨some 18, .call 218 [(.tmp 16), (.tmp 17)], none⟩,
          ⟨some 19, .p (.un .not (.tmp 18)), none⟩,
          ⟨some 20, .p (.faddr 6 (.tmp 5)), none⟩,
          ⟨some 21, .r (.load none (.tmp 20)) [0, 6], none⟩,
          ⟨some 22, .p (.buildSl 1 1 [(.int .i64 (.ofNat 0))] [(0, 1, (.tmp 21))]), none⟩,
          ⟨some 23, .call 192 [(.tmp 13), (.tmp 19), (.con (.int .i64 (.ofNat 182))), (.tmp 22)], none⟩])
        (.regionD [
          ⟨some 24, .p (.move (.tmp 0)), none⟩,
          ⟨some 25, .p (.move (.tmp 0)), none⟩,
          ⟨some 26, .p (.nilck (.tmp 25)), none⟩,
          ⟨some 27, .p (.faddr 1 (.tmp 26)), none⟩,
          ⟨some 28, .r (.load none (.tmp 27)) [0, 12], none⟩,
          ⟨some 29, .p (.move (.tmp 0)), none⟩,
          ⟨some 30, .p (.nilck (.tmp 29)), none⟩,
          ⟨some 31, .p (.faddr 0 (.tmp 30)), none⟩,
          ⟨some 32, .r (.load none (.tmp 31)) [], none⟩,
          ⟨some 33, .p (.faddr 1 (.tmp 5)), none⟩,
          ⟨some 34, .r (.load (some 5) (.tmp 33)) [], none⟩,
          ⟨some 35, .call 153 [(.tmp 32), (.con (.str [])), (.tmp 34)], none⟩,
          ⟨some 36, .w (.append false 2 16 (.tmp 28) (.tmp 35)), none⟩,
          ⟨some 37, .p (.nilck (.tmp 24)), none⟩,
          ⟨some 38, .p (.faddr 1 (.tmp 37)), none⟩,
          ⟨none, .w (.store 1 (.tmp 38) (.tmp 36)), none⟩]))))
      (.region [
        ⟨some 39, .p (.bin .add .no false (.tmp 8) (.con (.int .i64 (.ofNat 1)))), none⟩,
        ⟨some 8, .p (.move (.tmp 39)), none⟩])))))),
  [], false⟩
theorem c195_eq : cfn Tryz.prog cfg 195 = some c195 := by kernel_rfl

/-- (*rubric/args.checker).asked -/
def c196 : AFn := ⟨
  .seq (.region [
    ⟨some 13, .p (.move (.tmp 0)), none⟩,
    ⟨some 14, .p (.move (.tmp 3)), none⟩,
    ⟨some 15, .call 195 [(.tmp 13), (.tmp 14)], none⟩])
  (.seq (.seq (.region [
    ⟨some 16, .p (.move (.tmp 3)), none⟩,
    ⟨some 17, .p (.len false (.tmp 16)), none⟩,
    ⟨some 18, .p (.move (.con (.int .i64 (.ofNat 0)))), none⟩])
  (.block 0
    (.loop
      (.seq (.region [
        ⟨some 19, .p (.bin .lss .no false (.tmp 18) (.tmp 17)), none⟩])
      (.seq (.cond (.tmp 19)
        (.skip)
        (.exit 0))
      (.seq (.block 1
        (.seq (.region [
          ⟨some 20, .p (.iaddr 7 (.tmp 16) (.tmp 18)), none⟩,
          ⟨some 21, .r (.load (some 7) (.tmp 20)) [], none⟩,
          ⟨some 9, .w (.new [(.str []), (.int .i64 (.ofNat 0)), (.str []), .nils, .nils, (.int .i64 (.ofNat 0)), (.int .i64 (.ofNat 0))]), none⟩,
          ⟨none, .w (.store 7 (.tmp 9) (.tmp 21)), none⟩])
        (.seq (.region [
          ⟨some 22, .p (.move (.tmp 2)), none⟩,
          ⟨some 23, .p (.mkfn 220 [] [(.tmp 9)]), none⟩,
          ⟨some 24, .call 151 [(.tmp 22), (.tmp 23)], none⟩,
          ⟨some 10, .p (.move (.tmp 24)), none⟩])
        (.seq (.region [
          ⟨some 25, .p (.move (.tmp 0)), none⟩,
          ⟨some 26, .p (.move (.tmp 10)), none⟩,
          ⟨some 27, .p (.bin .geq .no false (.tmp 26) (.con (.int .i64 (.ofNat 0)))), none⟩,
          ⟨some 28, .p (.faddr 6 (.tmp 9)), none⟩,
          ⟨some 29, .r (.load none (.tmp 28)) [], none⟩,
          ⟨some 30, .p (.buildSl 1 1 [(.int .i64 (.ofNat 0))] [(0, 1, (.tmp 29))]), none⟩,
          ⟨some 31, .call 192 [(.tmp 25), (.tmp 27), (.con (.int .i64 (.ofNat 181))), (.tmp 30)], none⟩])
        (.seq (.region [
          ⟨some 32, .p (.move (.tmp 10)), none⟩,
          ⟨some 33, .p (.bin .geq .no false (.tmp 32) (.con (.int .i64 (.ofNat 0)))), none⟩])
        (.cond (.tmp 33)
          (.regionD [
            ⟨some 34, .p (.move (.tmp 0)), none⟩,
            ⟨some 35, .p (.move (.tmp 0)), none⟩,
            ⟨some 36, .p (.nilck (.tmp 35)), none⟩,
            ⟨some 37, .p (.faddr 1 (.tmp 36)), none⟩,
            ⟨some 38, .r (.load none (.tmp 37)) [0, 17], none⟩,
            ⟨some 39, .p (.move (.tmp 0)), none⟩,
            ⟨some 40, .p (.nilck (.tmp 39)), none⟩,
            ⟨some 41, .p (.faddr 0 (.tmp 40)), none⟩,
            ⟨some 42, .r (.load none (.tmp 41)) [], none⟩,
            ⟨some 43, .p (.move (.tmp 2)), none⟩,
            ⟨some 44, .p (.move (.tmp 10)), none⟩,
            ⟨some 45, .p (.iaddr 9 (.tmp 43) (.tmp 44)), none⟩,
            ⟨some 46, .p (.faddr 1 (.tmp 45)), none⟩,
            ⟨some 47, .r (.load none (.tmp 46)) [], none⟩,
            ⟨some 48, .p (.faddr 1 (.tmp 9)), none⟩,
            ⟨some 49, .r (.load (some 5) (.tmp 48)) [], none⟩,
            ⟨some 50, .call 153 [(.tmp 42), (.tmp 47), (.tmp 49)], none⟩,
            ⟨some 51, .w (.append false 2 16 (.tmp 38) (.tmp 50)), none⟩,
            ⟨some 52, .p (.nilck (.tmp 34)), none⟩,
            ⟨some 53, .p (.faddr 1 (.tmp 52)), none⟩,
            ⟨none, .w (.store 1 (.tmp 53) (.tmp 51)), none⟩])
          (.skip)))))))
      (.region [
        ⟨some 54, .p (.bin .add .no false (.tmp 18) (.con (.int .i64 (.ofNat 1)))), none⟩,
        ⟨some 18, .p (.move (.tmp 54)), none⟩])))))))
  (.seq (.region [
    ⟨some 55, .p (.move (.tmp 2)), none⟩,
    ⟨some 56, .p (.len false (.tmp 55)), none⟩,
    ⟨some 57, .p (.move (.con (.int .i64 (.ofNat 0)))), none⟩])
  (.block 2
    (.loop
      (.seq (.region [
        ⟨some 58, .p (.bin .lss .no false (.tmp 57) (.tmp 56)), none⟩])
      (.seq (.cond (.tmp 58)
        (.skip)
        (.exit 2))
      (.seq (.block 3
        (.seq (.region [
          ⟨some 59, .p (.iaddr 9 (.tmp 55) (.tmp 57)), none⟩,
          ⟨some 60, .r (.load (some 9) (.tmp 59)) [], none⟩,
          ⟨some 12, .w (.new [(.str []), (.str []), (.bool false), (.int .i64 (.ofNat 0)), (.str []), .nils, .nils, (.int .i64 (.ofNat 0)), (.int .i64 (.ofNat 0))]), none⟩,
          ⟨none, .w (.store 9 (.tmp 12) (.tmp 60)), none⟩])
        (.region [
          ⟨some 61, .p (.move (.tmp 0)), none⟩,
          ⟨some 62, .p (.faddr 1 (.tmp 12)), none⟩,
          ⟨some 63, .r (.load none (.tmp 62)) [], none⟩,
          ⟨some 64, .call 48 [(.tmp 63)], none⟩,
          ⟨some 65, .p (.un .not (.tmp 64)), none⟩,
          ⟨some 66, .p (.move (.tmp 65)), none⟩,
          ⟨some 67, .p (.faddr 2 (.tmp 12)), (some (66, false))⟩,
          ⟨some 68, .r (.load none (.tmp 67)) [], (some (66, false))⟩,
          ⟨some 69, .p (.pick (.tmp 66) (.con (.bool true)) (.tmp 68)), none⟩,
          ⟨some 70, .p (.move (.tmp 69)), none⟩,
          ⟨some 71, .p (.move (.tmp 3)), (some (70, false))⟩,
          ⟨some 72, .p (.mkfn 221 [] [(.tmp 12)]), (some (70, false))⟩,
          ⟨some 73, .call 218 [(.tmp 71), (.tmp 72)], (some (70, false))⟩,
          ⟨some 74, .p (.pick (.tmp 70) (.con (.bool true)) (.tmp 73)), none⟩,
          ⟨some 75, .p (.move (.tmp 1)), none⟩,
          ⟨some 76, .p (.buildSl 1 1 [(.int .i64 (.ofNat 0))] [(0, 1, (.tmp 75))]), none⟩,
          ⟨some 77, .call 192 [(.tmp 61), (.tmp 74), (.con (.int .i64 (.ofNat 183))), (.tmp 76)], none⟩])))
      (.region [
        ⟨some 78, .p (.bin .add .no false (.tmp 57) (.con (.int .i64 (.ofNat 1)))), none⟩,
        ⟨some 57, .p (.move (.tmp 78)), none⟩])))))))),
  [], false⟩
theorem c196_eq : cfn Tryz.prog cfg 196 = some c196 := by kernel_rfl

/-- rubric/fields.On -/
def c197 : AFn := ⟨
  .seq (.region [
    ⟨some 5, .w (.box 7 (.tmp 2)), none⟩,
    ⟨some 6, .p (.move (.con (.str []))), none⟩])
  (.seq (.region [
    ⟨some 7, .p (.move (.con (.str []))), none⟩])
  (.seq (.block 0
    (.seq (.region [
      ⟨some 11, .p (.faddr 0 (.tmp 5)), none⟩,
      ⟨some 12, .r (.load none (.tmp 11)) [], none⟩,
      ⟨some 13, .p (.bin .eql .no true (.tmp 12) (.con (.int .i64 (.ofNat 1)))), none⟩,
      ⟨some 10, .p (.move (.tmp 13)), none⟩])
    (.cond (.tmp 10)
      (.seq (.region [
        ⟨some 15, .p (.move (.tmp 0)), none⟩,
        ⟨some 16, .p (.move (.tmp 1)), none⟩,
        ⟨some 17, .p (.faddr 2 (.tmp 5)), none⟩,
        ⟨some 18, .r (.load none (.tmp 17)) [], none⟩,
        ⟨some 19, .call 20 [(.tmp 15), (.tmp 16), (.tmp 18)], none⟩,
        ⟨some 14, .p (.move (.tmp 19)), none⟩,
        ⟨some 20, .p (.extract (.tmp 14) 0), none⟩,
        ⟨some 21, .p (.extract (.tmp 14) 1), none⟩,
        ⟨some 8, .w (.new [(.str []), .nils, (.str []), (.int .i64 (.ofNat 0))]), none⟩,
        ⟨none, .w (.store 4 (.tmp 8) (.tmp 20)), none⟩,
        ⟨some 9, .p (.move (.tmp 21)), none⟩])
      (.region [
        ⟨some 22, .p (.faddr 2 (.tmp 8)), none⟩,
        ⟨some 23, .r (.load none (.tmp 22)) [], none⟩,
        ⟨some 24, .call 39 [(.tmp 23)], none⟩,
        ⟨some 7, .p (.move (.tmp 24)), none⟩]))
      (.seq (.region [
        ⟨some 26, .p (.faddr 0 (.tmp 5)), none⟩,
        ⟨some 27, .r (.load none (.tmp 26)) [], none⟩,
        ⟨some 28, .p (.bin .eql .no true (.tmp 27) (.con (.int .i64 (.ofNat 3)))), none⟩,
        ⟨some 29, .p (.move (.tmp 28)), none⟩,
        ⟨some 30, .p (.faddr 2 (.tmp 5)), (some (29, true))⟩,
        ⟨some 31, .r (.load none (.tmp 30)) [], (some (29, true))⟩,
        ⟨some 32, .p (.bin .neq .no true (.tmp 31) (.con (.str []))), (some (29, true))⟩,
        ⟨some 33, .p (.pick (.tmp 29) (.tmp 32) (.con (.bool false))), none⟩,
        ⟨some 25, .p (.move (.tmp 33)), none⟩])
      (.cond (.tmp 25)
        (.region [
          ⟨some 34, .p (.faddr 2 (.tmp 5)), none⟩,
          ⟨some 35, .r (.load none (.tmp 34)) [], none⟩,
          ⟨some 7, .p (.move (.tmp 35)), none⟩])
        (.seq (.region [
          ⟨some 37, .p (.faddr 0 (.tmp 5)), none⟩,
          ⟨some 38, .r (.load none (.tmp 37)) [], none⟩,
          ⟨some 39, .p (.bin .eql .no true (.tmp 38) (.con (.int .i64 (.ofNat 3)))), none⟩,
          ⟨some 36, .p (.move (.tmp 39)), none⟩])
        (.cond (.tmp 36)
          (.region [
            ⟨some 40, .p (.move (.tmp 1)), none⟩,
            ⟨some 7, .p (.move (.tmp 40)), none⟩])
          (.skip))))))))
  (.seq (.seq (.region [
    ⟨some 41, .p (.move (.tmp 0)), none⟩,
    ⟨some 42, .p (.move (.tmp 7)), none⟩,
    ⟨some 43, .call 44 [(.tmp 41), (.tmp 42)], none⟩,
    ⟨some 44, .p (.un .not (.tmp 43)), none⟩])
  (.cond (.tmp 44)
    (.seq (.region [
      ⟨some 6, .p (.move (.con (.str []))), none⟩])
    (.ret))
    (.skip)))
  (.seq (.region [
    ⟨some 45, .p (.move (.tmp 7)), none⟩,
    ⟨some 6, .p (.move (.tmp 45)), none⟩])
  (.ret))))),
  [.tmp 6], false⟩
theorem c197_eq : cfn Tryz.prog cfg 197 = some c197 := by kernel_rfl

end Go.Proofs.YtecfmifgcebifaaGreatDoor
