/-
  Functions of the program in the small form, as a program of ours printed them; that they are the program's is shown beside each.
-/
import Derived.Test.YtecfmifgcebifaaGreatDoorCfg
namespace Go.Proofs.YtecfmifgcebifaaGreatDoor
open Go Go.Abs
set_option maxRecDepth 100000

/-- (*rubric/coerce.looker).value -/
def c198 : AFn := ⟨
  .seq (.region [
    ⟨some 5, .w (.box 5 (.tmp 2)), none⟩])
  (.seq (.seq (.region [
    ⟨some 12, .p (.faddr 0 (.tmp 5)), none⟩,
    ⟨some 13, .r (.load none (.tmp 12)) [], none⟩,
    ⟨some 14, .p (.bin .eql .no true (.tmp 13) (.con (.int .i64 (.ofNat 1)))), none⟩])
  (.cond (.tmp 14)
    (.ret)
    (.skip)))
  (.seq (.seq (.region [
    ⟨some 15, .p (.faddr 0 (.tmp 5)), none⟩,
    ⟨some 16, .r (.load none (.tmp 15)) [], none⟩,
    ⟨some 17, .p (.bin .eql .no true (.tmp 16) (.con (.int .i64 (.ofNat 6)))), none⟩])
  (.cond (.tmp 17)
    (.seq (.seq (.region [
      ⟨some 18, .p (.move (.tmp 1)), none⟩,
      ⟨some 19, .call 48 [(.tmp 18)], none⟩])
    (.cond (.tmp 19)
      (.region [
        ⟨some 20, .p (.move (.tmp 0)), none⟩,
        ⟨some 21, .p (.faddr 4 (.tmp 5)), none⟩,
        ⟨some 22, .r (.load none (.tmp 21)) [], none⟩,
        ⟨some 23, .call 222 [(.tmp 20), (.con (.int .i64 (.ofNat 130))), (.tmp 22)], none⟩])
      (.skip)))
    (.ret))
    (.skip)))
  (.seq (.region [
    ⟨some 24, .p (.move (.tmp 1)), none⟩,
    ⟨some 25, .call 49 [(.tmp 24)], none⟩,
    ⟨some 1, .p (.move (.tmp 25)), none⟩])
  (.seq (.seq (.region [
    ⟨some 27, .p (.move (.tmp 1)), none⟩,
    ⟨some 28, .call 50 [(.tmp 27)], none⟩,
    ⟨some 26, .p (.move (.tmp 28)), none⟩,
    ⟨some 29, .p (.extract (.tmp 26) 0), none⟩,
    ⟨some 30, .p (.extract (.tmp 26) 1), none⟩,
    ⟨some 6, .p (.move (.tmp 29)), none⟩,
    ⟨some 7, .p (.move (.tmp 30)), none⟩])
  (.seq (.region [
    ⟨some 31, .p (.move (.tmp 7)), none⟩])
  (.cond (.tmp 31)
    (.seq (.seq (.region [
      ⟨some 32, .p (.faddr 0 (.tmp 5)), none⟩,
      ⟨some 33, .r (.load none (.tmp 32)) [], none⟩,
      ⟨some 34, .p (.bin .neq .no true (.tmp 33) (.con (.int .i64 (.ofNat 8)))), none⟩])
    (.cond (.tmp 34)
      (.region [
        ⟨some 35, .p (.move (.tmp 0)), none⟩,
        ⟨some 36, .p (.move (.tmp 6)), none⟩,
        ⟨some 37, .r (.load (some 5) (.tmp 5)) [], none⟩,
        ⟨some 38, .call 198 [(.tmp 35), (.tmp 36), (.tmp 37)], none⟩])
      (.skip)))
    (.seq (.seq (.region [
      ⟨some 39, .p (.faddr 2 (.tmp 5)), none⟩,
      ⟨some 40, .r (.load none (.tmp 39)) [], none⟩,
      ⟨some 41, .p (.len false (.tmp 40)), none⟩,
      ⟨some 42, .p (.move (.con (.int .i64 (.ofNat 0)))), none⟩])
    (.block 0
      (.loop
        (.seq (.region [
          ⟨some 43, .p (.bin .lss .no false (.tmp 42) (.tmp 41)), none⟩])
        (.seq (.cond (.tmp 43)
          (.skip)
          (.exit 0))
        (.seq (.block 1
          (.seq (.region [
            ⟨some 44, .p (.iaddr 5 (.tmp 40) (.tmp 42)), none⟩,
            ⟨some 45, .r (.load (some 5) (.tmp 44)) [], none⟩,
            ⟨some 9, .w (.new [(.int .i64 (.ofNat 0)), (.str []), .nils, .nils, (.int .i64 (.ofNat 0))]), none⟩,
            ⟨none, .w (.store 5 (.tmp 9) (.tmp 45)), none⟩])
          (.seq (.region [
            ⟨some 46, .p (.faddr 0 (.tmp 5)), none⟩,
            ⟨some 47, .r (.load none (.tmp 46)) [], none⟩,
            ⟨some 48, .p (.bin .eql .no true (.tmp 47) (.con (.int .i64 (.ofNat 8)))), none⟩])
          (.cond (.tmp 48)
            (.region [
              ⟨some 49, .p (.move (.tmp 0)), none⟩,
              ⟨some 50, .p (.move (.tmp 6)), none⟩,
              ⟨some 51, .r (.load (some 5) (.tmp 9)) [], none⟩,
              ⟨some 52, .call 198 [(.tmp 49), (.tmp 50), (.tmp 51)], none⟩])
            (.skip)))))
        (.region [
          ⟨some 53, .p (.bin .add .no false (.tmp 42) (.con (.int .i64 (.ofNat 1)))), none⟩,
          ⟨some 42, .p (.move (.tmp 53)), none⟩])))))))
    (.ret)))
    (.skip))))
  (.seq (.region [
    ⟨some 54, .p (.move (.tmp 0)), none⟩,
    ⟨some 55, .p (.nilck (.tmp 54)), none⟩,
    ⟨some 56, .p (.faddr 0 (.tmp 55)), none⟩,
    ⟨some 57, .r (.load none (.tmp 56)) [], none⟩,
    ⟨some 58, .p (.move (.tmp 1)), none⟩,
    ⟨some 59, .call 17 [(.tmp 57), (.tmp 58)], none⟩])
  (.block 2
    (.seq (.region [
      ⟨some 61, .p (.bin .eql .no true (.tmp 59) (.con (.int .i64 (.ofNat 1)))), none⟩,
      ⟨some 60, .p (.move (.tmp 61)), none⟩])
    (.cond (.tmp 60)
      (.seq (.region [
        ⟨some 62, .p (.move (.tmp 1)), none⟩,
        ⟨some 63, .r (.load (some 5) (.tmp 5)) [], none⟩,
        ⟨some 64, .call 223 [(.tmp 62), (.tmp 63)], none⟩,
        ⟨some 65, .p (.un .not (.tmp 64)), none⟩])
      (.cond (.tmp 65)
        (.region [
          ⟨some 66, .p (.move (.tmp 0)), none⟩,
          ⟨some 67, .p (.faddr 4 (.tmp 5)), none⟩,
          ⟨some 68, .r (.load none (.tmp 67)) [], none⟩,
          ⟨some 69, .call 222 [(.tmp 66), (.con (.int .i64 (.ofNat 130))), (.tmp 68)], none⟩])
        (.skip)))
      (.seq (.region [
        ⟨some 71, .p (.bin .eql .no true (.tmp 59) (.con (.int .i64 (.ofNat 5)))), none⟩,
        ⟨some 70, .p (.move (.tmp 71)), none⟩])
      (.cond (.tmp 70)
        (.seq (.region [
          ⟨some 73, .p (.move (.tmp 0)), none⟩,
          ⟨some 74, .p (.nilck (.tmp 73)), none⟩,
          ⟨some 75, .p (.faddr 0 (.tmp 74)), none⟩,
          ⟨some 76, .r (.load none (.tmp 75)) [], none⟩,
          ⟨some 77, .p (.move (.tmp 1)), none⟩,
          ⟨some 78, .call 29 [(.tmp 76), (.tmp 77)], none⟩,
          ⟨some 72, .p (.move (.tmp 78)), none⟩,
          ⟨some 79, .p (.extract (.tmp 72) 0), none⟩,
          ⟨some 80, .p (.extract (.tmp 72) 1), none⟩,
          ⟨some 10, .w (.new [(.int .i64 (.ofNat 0)), (.str []), .nils, .nils, .nils, .nils, (.int .i64 (.ofNat 0))]), none⟩,
          ⟨none, .w (.store 7 (.tmp 10) (.tmp 79)), none⟩,
          ⟨some 11, .p (.move (.tmp 80)), none⟩])
        (.seq (.region [
          ⟨some 81, .p (.faddr 0 (.tmp 5)), none⟩,
          ⟨some 82, .r (.load none (.tmp 81)) [], none⟩,
          ⟨some 83, .p (.bin .neq .no true (.tmp 82) (.con (.int .i64 (.ofNat 7)))), none⟩,
          ⟨some 84, .p (.move (.tmp 83)), none⟩,
          ⟨some 85, .p (.faddr 4 (.tmp 10)), (some (84, false))⟩,
          ⟨some 86, .r (.load none (.tmp 85)) [], (some (84, false))⟩,
          ⟨some 87, .p (.faddr 1 (.tmp 5)), (some (84, false))⟩,
          ⟨some 88, .r (.load none (.tmp 87)) [], (some (84, false))⟩,
          ⟨some 89, .call 40 [(.tmp 86), (.tmp 88)], (some (84, false))⟩,
          ⟨some 90, .p (.un .not (.tmp 89)), (some (84, false))⟩,
          ⟨some 91, .p (.pick (.tmp 84) (.con (.bool true)) (.tmp 90)), none⟩])
        (.cond (.tmp 91)
          (.region [
            ⟨some 92, .p (.move (.tmp 0)), none⟩,
            ⟨some 93, .p (.faddr 4 (.tmp 5)), none⟩,
            ⟨some 94, .r (.load none (.tmp 93)) [], none⟩,
            ⟨some 95, .call 222 [(.tmp 92), (.con (.int .i64 (.ofNat 130))), (.tmp 94)], none⟩])
          (.skip))))
        (.seq (.region [
          ⟨some 97, .p (.bin .eql .no true (.tmp 59) (.con (.int .i64 (.ofNat 6)))), none⟩,
          ⟨some 96, .p (.move (.tmp 97)), none⟩])
        (.cond (.tmp 96)
          (.region [
            ⟨some 98, .p (.move (.tmp 0)), none⟩,
            ⟨some 99, .p (.move (.tmp 1)), none⟩,
            ⟨some 100, .r (.load (some 5) (.tmp 5)) [], none⟩,
            ⟨some 101, .call 224 [(.tmp 98), (.tmp 99), (.tmp 100)], none⟩])
          (.skip))))))))))))),
  [], false⟩
theorem c198_eq : cfn Tryz.prog cfg 198 = some c198 := by kernel_rfl

/-- (*rubric/coerce.looker).doubles -/
def c199 : AFn := ⟨
  .seq (.region [
    ⟨some 3, .w (.box 5 (.tmp 1)), none⟩])
  (.seq (.region [
    ⟨some 9, .w (.mkmap 9), none⟩,
    ⟨some 4, .p (.move (.tmp 9)), none⟩])
  (.seq (.seq (.region [
    ⟨some 10, .p (.faddr 3 (.tmp 3)), none⟩,
    ⟨some 11, .r (.load none (.tmp 10)) [], none⟩,
    ⟨some 12, .p (.len false (.tmp 11)), none⟩,
    ⟨some 13, .p (.move (.con (.int .i64 (.ofNat 0)))), none⟩])
  (.block 0
    (.loop
      (.seq (.region [
        ⟨some 14, .p (.bin .lss .no false (.tmp 13) (.tmp 12)), none⟩])
      (.seq (.cond (.tmp 14)
        (.skip)
        (.exit 0))
      (.seq (.block 1
        (.seq (.region [
          ⟨some 15, .p (.iaddr 7 (.tmp 11) (.tmp 13)), none⟩,
          ⟨some 16, .r (.load (some 7) (.tmp 15)) [], none⟩,
          ⟨some 6, .w (.new [(.str []), (.int .i64 (.ofNat 0)), (.str []), .nils, .nils, (.int .i64 (.ofNat 0)), (.int .i64 (.ofNat 0))]), none⟩,
          ⟨none, .w (.store 7 (.tmp 6) (.tmp 16)), none⟩])
        (.seq (.seq (.region [
          ⟨some 17, .p (.move (.tmp 4)), none⟩,
          ⟨some 18, .p (.faddr 0 (.tmp 6)), none⟩,
          ⟨some 19, .r (.load none (.tmp 18)) [], none⟩,
          ⟨some 20, .r (.lookup ⟨9, false, [.str]⟩ (.int .i64 (.ofNat 0)) false (.tmp 17) (.tmp 19)) [], none⟩,
          ⟨some 21, .p (.bin .add .no false (.tmp 20) (.con (.int .i64 (.ofNat 1)))), none⟩,
          ⟨none, .w (.mapupd ⟨9, false, [.str]⟩ (.tmp 17) (.tmp 19) (.tmp 21)), none⟩])
        (.seq (.region [
          ⟨some 22, .p (.move (.tmp 4)), none⟩,
          ⟨some 23, .p (.faddr 0 (.tmp 6)), none⟩,
          ⟨some 24, .r (.load none (.tmp 23)) [], none⟩,
          ⟨some 25, .r (.lookup ⟨9, false, [.str]⟩ (.int .i64 (.ofNat 0)) false (.tmp 22) (.tmp 24)) [], none⟩,
          ⟨some 26, .p (.bin .gtr .no false (.tmp 25) (.con (.int .i64 (.ofNat 1)))), none⟩])
        (.cond (.tmp 26)
          (.region [
            ⟨some 27, .p (.move (.tmp 0)), none⟩,
            ⟨some 28, .p (.faddr 6 (.tmp 6)), none⟩,
            ⟨some 29, .r (.load none (.tmp 28)) [], none⟩,
            ⟨some 30, .call 222 [(.tmp 27), (.con (.int .i64 (.ofNat 131))), (.tmp 29)], none⟩])
          (.skip))))
        (.region [
          ⟨some 31, .p (.move (.tmp 0)), none⟩,
          ⟨some 32, .p (.faddr 1 (.tmp 6)), none⟩,
          ⟨some 33, .r (.load (some 5) (.tmp 32)) [], none⟩,
          ⟨some 34, .call 199 [(.tmp 31), (.tmp 33)], none⟩]))))
      (.region [
        ⟨some 35, .p (.bin .add .no false (.tmp 13) (.con (.int .i64 (.ofNat 1)))), none⟩,
        ⟨some 13, .p (.move (.tmp 35)), none⟩])))))))
  (.seq (.region [
    ⟨some 36, .p (.faddr 2 (.tmp 3)), none⟩,
    ⟨some 37, .r (.load none (.tmp 36)) [], none⟩,
    ⟨some 38, .p (.len false (.tmp 37)), none⟩,
    ⟨some 39, .p (.move (.con (.int .i64 (.ofNat 0)))), none⟩])
  (.block 2
    (.loop
      (.seq (.region [
        ⟨some 40, .p (.bin .lss .no false (.tmp 39) (.tmp 38)), none⟩])
      (.seq (.cond (.tmp 40)
        (.skip)
        (.exit 2))
      (.seq (.block 3
        (.seq (.region [
          ⟨some 41, .p (.iaddr 5 (.tmp 37) (.tmp 39)), none⟩,
          ⟨some 42, .r (.load (some 5) (.tmp 41)) [], none⟩,
          ⟨some 8, .w (.new [(.int .i64 (.ofNat 0)), (.str []), .nils, .nils, (.int .i64 (.ofNat 0))]), none⟩,
          ⟨none, .w (.store 5 (.tmp 8) (.tmp 42)), none⟩])
        (.region [
          ⟨some 43, .p (.move (.tmp 0)), none⟩,
          ⟨some 44, .r (.load (some 5) (.tmp 8)) [], none⟩,
          ⟨some 45, .call 199 [(.tmp 43), (.tmp 44)], none⟩])))
      (.region [
        ⟨some 46, .p (.bin .add .no false (.tmp 39) (.con (.int .i64 (.ofNat 1)))), none⟩,
        ⟨some 39, .p (.move (.tmp 46)), none⟩]))))))))),
  [], false⟩
theorem c199_eq : cfn Tryz.prog cfg 199 = some c199 := by kernel_rfl

/-- internal/stringslite.IndexByte -/
def c209 : AFn := ⟨
  .seq (.region [
    ⟨some 4, .p (.move (.con (.int .i64 (.ofNat 0)))), none⟩])
  (.seq (.region [
    ⟨some 5, .p (.move (.tmp 0)), none⟩,
    ⟨some 6, .p (.move (.tmp 1)), none⟩,
    ⟨some 7, .call 232 [(.tmp 5), (.tmp 6)], none⟩,
    ⟨some 4, .p (.move (.tmp 7)), none⟩])
  (.ret)),
  [.tmp 4], false⟩
theorem c209_eq : cfn Tryz.prog cfg 209 = some c209 := by kernel_rfl

/-- (*rubric/read.Reader).Args -/
def c214 : AFn := ⟨
  .seq (.region [
    ⟨some 2, .w (.box 1 (.tmp 0)), none⟩,
    ⟨some 3, .w (.box 1 (.tmp 1)), none⟩,
    ⟨some 4, .p (.move (.con .nils)), none⟩])
  (.seq (.region [
    ⟨some 5, .w (.new [.nils]), none⟩])
  (.seq (.seq (.region [
    ⟨some 6, .r (.load none (.tmp 2)) [], none⟩,
    ⟨some 7, .call 80 [(.tmp 6), (.con (.str [40]))], none⟩])
  (.cond (.tmp 7)
    (.seq (.region [
      ⟨some 8, .r (.load none (.tmp 2)) [], none⟩,
      ⟨some 9, .p (.mkfn 236 [] [(.tmp 5), (.tmp 2), (.tmp 3)]), none⟩,
      ⟨some 10, .call 113 [(.tmp 8), (.con (.str [41])), (.con (.bool true)), (.tmp 9)], none⟩])
    (.region [
      ⟨some 11, .r (.load none (.tmp 2)) [], none⟩,
      ⟨some 12, .call 114 [(.tmp 11), (.con (.str [41]))], none⟩]))
    (.skip)))
  (.seq (.region [
    ⟨some 13, .r (.load none (.tmp 5)) [], none⟩,
    ⟨some 4, .p (.move (.tmp 13)), none⟩])
  (.ret)))),
  [.tmp 4], false⟩
theorem c214_eq : cfn Tryz.prog cfg 214 = some c214 := by kernel_rfl

/-- (*rubric/query.reader).sels$1 -/
def c215 : AFn := ⟨
  .seq (.regionD [
    ⟨some 2, .r (.load none (.tmp 0)) [0, 3], none⟩,
    ⟨some 3, .r (.load none (.tmp 1)) [], none⟩,
    ⟨some 4, .call 216 [(.tmp 3)], none⟩,
    ⟨some 5, .p (.len false (.tmp 2)), none⟩,
    ⟨some 6, .p (.buildSl 7 1 [(.int .i64 (.ofNat 0)), (.str []), (.str []), .nils, .nils, .nils, (.int .i64 (.ofNat 0))] [(0, 7, (.con (.agg [(.int .i64 (.ofNat 0)), (.str []), (.str []), .nils, .nils, .nils, (.int .i64 (.ofNat 0))])))]), none⟩])
  (.region [
    ⟨some 7, .w (.push 7 120 (.tmp 2) (.tmp 6) (.tmp 4) (.tmp 5)), none⟩,
    ⟨none, .w (.store 1 (.tmp 0) (.tmp 7)), none⟩,
    ⟨some 7, .skip, none⟩,
    ⟨some 8, .skip, none⟩]),
  [], false⟩
theorem c215_eq : cfn Tryz.prog cfg 215 = some c215 := by kernel_rfl

/-- (*rubric/query.reader).sel -/
def c216 : AFn := ⟨
  .seq (.region [
    ⟨some 2, .w (.new [(.int .i64 (.ofNat 0)), (.str []), (.str []), .nils, .nils, .nils, (.int .i64 (.ofNat 0))]), none⟩])
  (.seq (.region [
    ⟨some 4, .p (.move (.tmp 0)), none⟩,
    ⟨some 5, .p (.nilck (.tmp 4)), none⟩,
    ⟨some 6, .p (.faddr 0 (.tmp 5)), none⟩,
    ⟨some 7, .call 36 [(.tmp 6)], none⟩,
    ⟨some 8, .p (.field 2 none (.tmp 7)), none⟩,
    ⟨some 9, .p (.build [(.int .i64 (.ofNat 0)), (.str []), (.str []), .nils, .nils, .nils, (.int .i64 (.ofNat 0))] [(6, 1, (.tmp 8))]), none⟩,
    ⟨some 3, .w (.new [(.int .i64 (.ofNat 0)), (.str []), (.str []), .nils, .nils, .nils, (.int .i64 (.ofNat 0))]), none⟩,
    ⟨none, .w (.store 7 (.tmp 3) (.tmp 9)), none⟩])
  (.seq (.seq (.region [
    ⟨some 10, .p (.move (.tmp 0)), none⟩,
    ⟨some 11, .p (.nilck (.tmp 10)), none⟩,
    ⟨some 12, .p (.faddr 0 (.tmp 11)), none⟩,
    ⟨some 13, .call 80 [(.tmp 12), (.con (.str [46, 46, 46]))], none⟩,
    ⟨some 14, .p (.un .not (.tmp 13)), none⟩])
  (.cond (.tmp 14)
    (.seq (.region [
      ⟨some 15, .p (.move (.tmp 0)), none⟩,
      ⟨some 16, .r (.load (some 7) (.tmp 3)) [], none⟩,
      ⟨some 17, .call 237 [(.tmp 15), (.tmp 16)], none⟩,
      ⟨none, .w (.store 7 (.tmp 2) (.tmp 17)), none⟩])
    (.ret))
    (.skip)))
  (.seq (.seq (.region [
    ⟨some 18, .p (.move (.tmp 0)), none⟩,
    ⟨some 19, .p (.nilck (.tmp 18)), none⟩,
    ⟨some 20, .p (.faddr 0 (.tmp 19)), none⟩,
    ⟨some 21, .call 70 [(.tmp 20), (.con .nils)], none⟩,
    ⟨some 22, .p (.move (.tmp 21)), none⟩,
    ⟨some 23, .p (.move (.tmp 0)), (some (22, true))⟩,
    ⟨some 24, .p (.nilck (.tmp 23)), (some (22, true))⟩,
    ⟨some 25, .p (.faddr 0 (.tmp 24)), (some (22, true))⟩,
    ⟨some 26, .p (.buildSl 1 1 [(.str [])] [(0, 1, (.con (.str [111, 110])))]), (some (22, true))⟩,
    ⟨some 27, .call 70 [(.tmp 25), (.tmp 26)], (some (22, true))⟩,
    ⟨some 28, .p (.un .not (.tmp 27)), (some (22, true))⟩,
    ⟨some 29, .p (.pick (.tmp 22) (.tmp 28) (.con (.bool false))), none⟩])
  (.cond (.tmp 29)
    (.seq (.region [
      ⟨some 30, .p (.move (.tmp 0)), none⟩,
      ⟨some 31, .p (.nilck (.tmp 30)), none⟩,
      ⟨some 32, .p (.faddr 0 (.tmp 31)), none⟩,
      ⟨some 33, .call 75 [(.tmp 32)], none⟩,
      ⟨some 34, .p (.faddr 0 (.tmp 3)), none⟩,
      ⟨none, .w (.store 1 (.tmp 34) (.con (.int .i64 (.ofNat 2)))), none⟩,
      ⟨some 35, .p (.faddr 2 (.tmp 3)), none⟩,
      ⟨none, .w (.store 1 (.tmp 35) (.tmp 33)), none⟩])
    (.seq (.region [
      ⟨some 36, .p (.move (.tmp 0)), none⟩,
      ⟨some 37, .call 188 [(.tmp 36)], none⟩,
      ⟨some 38, .p (.faddr 4 (.tmp 3)), none⟩,
      ⟨none, .w (.store 1 (.tmp 38) (.tmp 37)), none⟩])
    (.seq (.region [
      ⟨some 39, .r (.load (some 7) (.tmp 3)) [], none⟩,
      ⟨none, .w (.store 7 (.tmp 2) (.tmp 39)), none⟩])
    (.ret))))
    (.skip)))
  (.seq (.region [
    ⟨some 40, .p (.faddr 0 (.tmp 3)), none⟩,
    ⟨none, .w (.store 1 (.tmp 40) (.con (.int .i64 (.ofNat 3)))), none⟩])
  (.seq (.seq (.region [
    ⟨some 41, .p (.move (.tmp 0)), none⟩,
    ⟨some 42, .p (.nilck (.tmp 41)), none⟩,
    ⟨some 43, .p (.faddr 0 (.tmp 42)), none⟩,
    ⟨some 44, .p (.buildSl 1 1 [(.str [])] [(0, 1, (.con (.str [111, 110])))]), none⟩,
    ⟨some 45, .call 70 [(.tmp 43), (.tmp 44)], none⟩])
  (.cond (.tmp 45)
    (.seq (.region [
      ⟨some 46, .p (.move (.tmp 0)), none⟩,
      ⟨some 47, .p (.nilck (.tmp 46)), none⟩,
      ⟨some 48, .p (.faddr 0 (.tmp 47)), none⟩,
      ⟨some 49, .call 73 [(.tmp 48)], none⟩])
    (.region [
      ⟨some 50, .p (.move (.tmp 0)), none⟩,
      ⟨some 51, .p (.nilck (.tmp 50)), none⟩,
      ⟨some 52, .p (.faddr 0 (.tmp 51)), none⟩,
      ⟨some 53, .call 75 [(.tmp 52)], none⟩,
      ⟨some 54, .p (.faddr 2 (.tmp 3)), none⟩,
      ⟨none, .w (.store 1 (.tmp 54) (.tmp 53)), none⟩]))
    (.skip)))
  (.seq (.region [
    ⟨some 55, .p (.move (.tmp 0)), none⟩,
    ⟨some 56, .call 188 [(.tmp 55)], none⟩,
    ⟨some 57, .p (.faddr 4 (.tmp 3)), none⟩,
    ⟨none, .w (.store 1 (.tmp 57) (.tmp 56)), none⟩])
  (.seq (.region [
    ⟨some 58, .p (.move (.tmp 0)), none⟩,
    ⟨some 59, .call 189 [(.tmp 58)], none⟩,
    ⟨some 60, .p (.faddr 5 (.tmp 3)), none⟩,
    ⟨none, .w (.store 1 (.tmp 60) (.tmp 59)), none⟩])
  (.seq (.region [
    ⟨some 61, .r (.load (some 7) (.tmp 3)) [], none⟩,
    ⟨none, .w (.store 7 (.tmp 2) (.tmp 61)), none⟩])
  (.ret))))))))),
  [.cell 2 (some 7)], false⟩
theorem c216_eq : cfn Tryz.prog cfg 216 = some c216 := by kernel_rfl

/-- slices.IndexFunc[[]rubric/api.Dir,rubric/api.Dir] -/
def c217 : AFn := ⟨
  .seq (.region [
    ⟨some 4, .p (.move (.con (.int .i64 (.ofNat 0)))), none⟩])
  (.seq (.seq (.region [
    ⟨some 6, .p (.move (.tmp 0)), none⟩,
    ⟨some 7, .p (.len false (.tmp 6)), none⟩,
    ⟨some 8, .p (.move (.con (.int .i64 (.ofNat 0)))), none⟩])
  (.block 0
    (.loop
      (.seq (.region [
        ⟨some 9, .p (.bin .lss .no false (.tmp 8) (.tmp 7)), none⟩])
      (.seq (.cond (.tmp 9)
        (.skip)
        (.exit 0))
      (.seq (.block 1
        (.seq (.region [
          ⟨some 10, .p (.move (.tmp 8)), none⟩,
          ⟨some 5, .p (.move (.tmp 10)), none⟩])
        (.seq (.region [
          ⟨some 11, .p (.move (.tmp 1)), none⟩,
          ⟨some 12, .p (.move (.tmp 0)), none⟩,
          ⟨some 13, .p (.move (.tmp 5)), none⟩,
          ⟨some 14, .p (.iaddr 3 (.tmp 12) (.tmp 13)), none⟩,
          ⟨some 15, .r (.load (some 3) (.tmp 14)) [], none⟩,
          ⟨some 16, .callv (.tmp 11) [(.tmp 15)], none⟩])
        (.cond (.tmp 16)
          (.seq (.region [
            ⟨some 17, .p (.move (.tmp 5)), none⟩,
            ⟨some 4, .p (.move (.tmp 17)), none⟩])
          (.ret))
          (.skip)))))
      (.region [
        ⟨some 18, .p (.bin .add .no false (.tmp 8) (.con (.int .i64 (.ofNat 1)))), none⟩,
        ⟨some 8, .p (.move (.tmp 18)), none⟩])))))))
  (.seq (.region [
    ⟨some 4, .p (.move (.con (.int .i64 (.negSucc 0)))), none⟩])
  (.ret))),
  [.tmp 4], false⟩
theorem c217_eq : cfn Tryz.prog cfg 217 = some c217 := by kernel_rfl

/-- slices.ContainsFunc[[]rubric/api.Arg,rubric/api.Arg] -/
def c218 : AFn := ⟨
  .seq (.region [
    ⟨some 4, .p (.move (.con (.bool false))), none⟩])
  (.seq (.region [
    ⟨some 5, .p (.move (.tmp 0)), none⟩,
    ⟨some 6, .p (.move (.tmp 1)), none⟩,
    ⟨some 7, .call 238 [(.tmp 5), (.tmp 6)], none⟩,
    ⟨some 8, .p (.bin .geq .no false (.tmp 7) (.con (.int .i64 (.ofNat 0)))), none⟩,
    ⟨some 4, .p (.move (.tmp 8)), none⟩])
  (.ret)),
  [.tmp 4], false⟩
theorem c218_eq : cfn Tryz.prog cfg 218 = some c218 := by kernel_rfl

/-- (*rubric/args.checker).given$1 -/
def c219 : AFn := ⟨
  .seq (.region [
    ⟨some 2, .w (.box 7 (.tmp 0)), none⟩,
    ⟨some 3, .p (.move (.con (.bool false))), none⟩])
  (.seq (.region [
    ⟨some 4, .p (.faddr 0 (.tmp 2)), none⟩,
    ⟨some 5, .r (.load none (.tmp 4)) [], none⟩,
    ⟨some 6, .p (.faddr 0 (.tmp 1)), none⟩,
    ⟨some 7, .r (.load none (.tmp 6)) [], none⟩,
    ⟨some 8, .p (.bin .eql .no false (.tmp 5) (.tmp 7)), none⟩,
    ⟨some 3, .p (.move (.tmp 8)), none⟩])
  (.ret)),
  [.tmp 3], false⟩
theorem c219_eq : cfn Tryz.prog cfg 219 = some c219 := by kernel_rfl

/-- (*rubric/args.checker).asked$1 -/
def c220 : AFn := ⟨
  .seq (.region [
    ⟨some 2, .w (.box 9 (.tmp 0)), none⟩,
    ⟨some 3, .p (.move (.con (.bool false))), none⟩])
  (.seq (.region [
    ⟨some 4, .p (.faddr 0 (.tmp 2)), none⟩,
    ⟨some 5, .r (.load none (.tmp 4)) [], none⟩,
    ⟨some 6, .p (.faddr 0 (.tmp 1)), none⟩,
    ⟨some 7, .r (.load none (.tmp 6)) [], none⟩,
    ⟨some 8, .p (.bin .eql .no false (.tmp 5) (.tmp 7)), none⟩,
    ⟨some 3, .p (.move (.tmp 8)), none⟩])
  (.ret)),
  [.tmp 3], false⟩
theorem c220_eq : cfn Tryz.prog cfg 220 = some c220 := by kernel_rfl

/-- (*rubric/args.checker).asked$2 -/
def c221 : AFn := ⟨
  .seq (.region [
    ⟨some 2, .w (.box 7 (.tmp 0)), none⟩,
    ⟨some 3, .p (.move (.con (.bool false))), none⟩])
  (.seq (.region [
    ⟨some 4, .p (.faddr 0 (.tmp 2)), none⟩,
    ⟨some 5, .r (.load none (.tmp 4)) [], none⟩,
    ⟨some 6, .p (.faddr 0 (.tmp 1)), none⟩,
    ⟨some 7, .r (.load none (.tmp 6)) [], none⟩,
    ⟨some 8, .p (.bin .eql .no false (.tmp 5) (.tmp 7)), none⟩,
    ⟨some 3, .p (.move (.tmp 8)), none⟩])
  (.ret)),
  [.tmp 3], false⟩
theorem c221_eq : cfn Tryz.prog cfg 221 = some c221 := by kernel_rfl

/-- rubric/coerce.scalar -/
def c223 : AFn := ⟨
  .seq (.region [
    ⟨some 3, .w (.box 5 (.tmp 1)), none⟩,
    ⟨some 4, .p (.move (.con (.bool false))), none⟩])
  (.seq (.seq (.region [
    ⟨some 7, .p (.move (.tmp 0)), none⟩])
  (.block 0
    (.seq (.region [
      ⟨some 9, .p (.bin .eql .no true (.tmp 7) (.con (.str [73, 110, 116]))), none⟩,
      ⟨some 8, .p (.move (.tmp 9)), none⟩])
    (.cond (.tmp 8)
      (.seq (.region [
        ⟨some 11, .p (.faddr 1 (.tmp 3)), none⟩,
        ⟨some 12, .r (.load none (.tmp 11)) [], none⟩,
        ⟨some 13, .call 239 [(.tmp 12), (.con (.int .i64 (.ofNat 10))), (.con (.int .i64 (.ofNat 32)))], none⟩,
        ⟨some 10, .p (.move (.tmp 13)), none⟩,
        ⟨some 14, .p (.extract (.tmp 10) 0), none⟩,
        ⟨some 15, .p (.extract (.tmp 10) 1), none⟩,
        ⟨some 5, .p (.move (.tmp 14)), none⟩,
        ⟨some 6, .p (.move (.tmp 15)), none⟩])
      (.seq (.region [
        ⟨some 16, .p (.faddr 0 (.tmp 3)), none⟩,
        ⟨some 17, .r (.load none (.tmp 16)) [], none⟩,
        ⟨some 18, .p (.bin .eql .no true (.tmp 17) (.con (.int .i64 (.ofNat 2)))), none⟩,
        ⟨some 19, .p (.move (.tmp 18)), none⟩,
        ⟨some 20, .p (.move (.tmp 6)), (some (19, true))⟩,
        ⟨some 21, .p (.bin .eql .iface true (.tmp 20) (.con .nili)), (some (19, true))⟩,
        ⟨some 22, .p (.pick (.tmp 19) (.tmp 21) (.con (.bool false))), none⟩,
        ⟨some 4, .p (.move (.tmp 22)), none⟩])
      (.ret)))
      (.seq (.region [
        ⟨some 24, .p (.bin .eql .no true (.tmp 7) (.con (.str [70, 108, 111, 97, 116]))), none⟩,
        ⟨some 23, .p (.move (.tmp 24)), none⟩])
      (.cond (.tmp 23)
        (.seq (.region [
          ⟨some 25, .p (.faddr 0 (.tmp 3)), none⟩,
          ⟨some 26, .r (.load none (.tmp 25)) [], none⟩,
          ⟨some 27, .p (.bin .eql .no true (.tmp 26) (.con (.int .i64 (.ofNat 2)))), none⟩,
          ⟨some 28, .p (.move (.tmp 27)), none⟩,
          ⟨some 29, .p (.faddr 0 (.tmp 3)), (some (28, false))⟩,
          ⟨some 30, .r (.load none (.tmp 29)) [], (some (28, false))⟩,
          ⟨some 31, .p (.bin .eql .no true (.tmp 30) (.con (.int .i64 (.ofNat 3)))), (some (28, false))⟩,
          ⟨some 32, .p (.pick (.tmp 28) (.con (.bool true)) (.tmp 31)), none⟩,
          ⟨some 4, .p (.move (.tmp 32)), none⟩])
        (.ret))
        (.seq (.region [
          ⟨some 34, .p (.bin .eql .no true (.tmp 7) (.con (.str [83, 116, 114, 105, 110, 103]))), none⟩,
          ⟨some 33, .p (.move (.tmp 34)), none⟩])
        (.cond (.tmp 33)
          (.seq (.region [
            ⟨some 35, .p (.faddr 0 (.tmp 3)), none⟩,
            ⟨some 36, .r (.load none (.tmp 35)) [], none⟩,
            ⟨some 37, .p (.bin .eql .no true (.tmp 36) (.con (.int .i64 (.ofNat 4)))), none⟩,
            ⟨some 4, .p (.move (.tmp 37)), none⟩])
          (.ret))
          (.seq (.region [
            ⟨some 39, .p (.bin .eql .no true (.tmp 7) (.con (.str [66, 111, 111, 108, 101, 97, 110]))), none⟩,
            ⟨some 38, .p (.move (.tmp 39)), none⟩])
          (.cond (.tmp 38)
            (.seq (.region [
              ⟨some 40, .p (.faddr 0 (.tmp 3)), none⟩,
              ⟨some 41, .r (.load none (.tmp 40)) [], none⟩,
              ⟨some 42, .p (.bin .eql .no true (.tmp 41) (.con (.int .i64 (.ofNat 5)))), none⟩,
              ⟨some 4, .p (.move (.tmp 42)), none⟩])
            (.ret))
            (.seq (.region [
              ⟨some 44, .p (.bin .eql .no true (.tmp 7) (.con (.str [73, 68]))), none⟩,
              ⟨some 43, .p (.move (.tmp 44)), none⟩])
            (.cond (.tmp 43)
              (.seq (.region [
                ⟨some 45, .p (.faddr 0 (.tmp 3)), none⟩,
                ⟨some 46, .r (.load none (.tmp 45)) [], none⟩,
                ⟨some 47, .p (.bin .eql .no true (.tmp 46) (.con (.int .i64 (.ofNat 2)))), none⟩,
                ⟨some 48, .p (.move (.tmp 47)), none⟩,
                ⟨some 49, .p (.faddr 0 (.tmp 3)), (some (48, false))⟩,
                ⟨some 50, .r (.load none (.tmp 49)) [], (some (48, false))⟩,
                ⟨some 51, .p (.bin .eql .no true (.tmp 50) (.con (.int .i64 (.ofNat 4)))), (some (48, false))⟩,
                ⟨some 52, .p (.pick (.tmp 48) (.con (.bool true)) (.tmp 51)), none⟩,
                ⟨some 4, .p (.move (.tmp 52)), none⟩])
              (.ret))
              (.skip)))))))))))))
  (.seq (.region [
    ⟨some 4, .p (.move (.con (.bool true))), none⟩])
  (.ret))),
  [.tmp 4], false⟩
theorem c223_eq : cfn Tryz.prog cfg 223 = some c223 := by kernel_rfl

/-- (*rubric/read.Reader).Args$1 -/
def c236 : AFn := ⟨
  .seq (.regionD [
    ⟨some 3, .r (.load none (.tmp 0)) [0, 4], none⟩,
    ⟨some 4, .r (.load none (.tmp 1)) [], none⟩,
    ⟨some 5, .r (.load none (.tmp 2)) [], none⟩,
    ⟨some 6, .call 176 [(.tmp 4), (.tmp 5)], none⟩,
    ⟨some 7, .p (.len false (.tmp 3)), none⟩,
    ⟨some 8, .p (.buildSl 7 1 [(.str []), (.int .i64 (.ofNat 0)), (.str []), .nils, .nils, (.int .i64 (.ofNat 0)), (.int .i64 (.ofNat 0))] [(0, 7, (.con (.agg [(.str []), (.int .i64 (.ofNat 0)), (.str []), .nils, .nils, (.int .i64 (.ofNat 0)), (.int .i64 (.ofNat 0))])))]), none⟩])
  (.region [
    ⟨some 9, .w (.push 7 104 (.tmp 3) (.tmp 8) (.tmp 6) (.tmp 7)), none⟩,
    ⟨none, .w (.store 1 (.tmp 0) (.tmp 9)), none⟩,
    ⟨some 9, .skip, none⟩,
    ⟨some 10, .skip, none⟩]),
  [], false⟩
theorem c236_eq : cfn Tryz.prog cfg 236 = some c236 := by kernel_rfl

/-- (*rubric/query.reader).field -/
def c237 : AFn := ⟨
  .seq (.region [
    ⟨some 3, .w (.box 7 (.tmp 1)), none⟩,
    ⟨some 4, .w (.new [(.int .i64 (.ofNat 0)), (.str []), (.str []), .nils, .nils, .nils, (.int .i64 (.ofNat 0))]), none⟩])
  (.seq (.region [
    ⟨some 5, .p (.move (.tmp 0)), none⟩,
    ⟨some 6, .p (.nilck (.tmp 5)), none⟩,
    ⟨some 7, .p (.faddr 0 (.tmp 6)), none⟩,
    ⟨some 8, .call 75 [(.tmp 7)], none⟩,
    ⟨some 9, .p (.faddr 0 (.tmp 3)), none⟩,
    ⟨none, .w (.store 1 (.tmp 9) (.con (.int .i64 (.ofNat 1)))), none⟩,
    ⟨some 10, .p (.faddr 2 (.tmp 3)), none⟩,
    ⟨none, .w (.store 1 (.tmp 10) (.tmp 8)), none⟩])
  (.seq (.seq (.region [
    ⟨some 11, .p (.move (.tmp 0)), none⟩,
    ⟨some 12, .p (.nilck (.tmp 11)), none⟩,
    ⟨some 13, .p (.faddr 0 (.tmp 12)), none⟩,
    ⟨some 14, .call 80 [(.tmp 13), (.con (.str [58]))], none⟩])
  (.cond (.tmp 14)
    (.regionD [
      ⟨some 15, .p (.faddr 2 (.tmp 3)), none⟩,
      ⟨some 16, .r (.load none (.tmp 15)) [0, 6], none⟩,
      ⟨some 17, .p (.move (.tmp 0)), none⟩,
      ⟨some 18, .p (.nilck (.tmp 17)), none⟩,
      ⟨some 19, .p (.faddr 0 (.tmp 18)), none⟩,
      ⟨some 20, .call 75 [(.tmp 19)], none⟩,
      ⟨some 21, .p (.faddr 1 (.tmp 3)), none⟩,
      ⟨none, .w (.store 1 (.tmp 21) (.tmp 16)), none⟩,
      ⟨some 22, .p (.faddr 2 (.tmp 3)), none⟩,
      ⟨none, .w (.store 1 (.tmp 22) (.tmp 20)), none⟩])
    (.skip)))
  (.seq (.region [
    ⟨some 23, .p (.move (.tmp 0)), none⟩,
    ⟨some 24, .p (.nilck (.tmp 23)), none⟩,
    ⟨some 25, .p (.faddr 0 (.tmp 24)), none⟩,
    ⟨some 26, .call 214 [(.tmp 25), (.con (.bool false))], none⟩,
    ⟨some 27, .p (.faddr 3 (.tmp 3)), none⟩,
    ⟨none, .w (.store 1 (.tmp 27) (.tmp 26)), none⟩])
  (.seq (.region [
    ⟨some 28, .p (.move (.tmp 0)), none⟩,
    ⟨some 29, .call 188 [(.tmp 28)], none⟩,
    ⟨some 30, .p (.faddr 4 (.tmp 3)), none⟩,
    ⟨none, .w (.store 1 (.tmp 30) (.tmp 29)), none⟩])
  (.seq (.seq (.region [
    ⟨some 31, .p (.move (.tmp 0)), none⟩,
    ⟨some 32, .p (.nilck (.tmp 31)), none⟩,
    ⟨some 33, .p (.faddr 0 (.tmp 32)), none⟩,
    ⟨some 34, .p (.buildSl 1 1 [(.str [])] [(0, 1, (.con (.str [123])))]), none⟩,
    ⟨some 35, .call 117 [(.tmp 33), (.tmp 34)], none⟩])
  (.cond (.tmp 35)
    (.region [
      ⟨some 36, .p (.move (.tmp 0)), none⟩,
      ⟨some 37, .call 189 [(.tmp 36)], none⟩,
      ⟨some 38, .p (.faddr 5 (.tmp 3)), none⟩,
      ⟨none, .w (.store 1 (.tmp 38) (.tmp 37)), none⟩])
    (.skip)))
  (.seq (.region [
    ⟨some 39, .r (.load (some 7) (.tmp 3)) [], none⟩,
    ⟨none, .w (.store 7 (.tmp 4) (.tmp 39)), none⟩])
  (.ret))))))),
  [.cell 4 (some 7)], false⟩
theorem c237_eq : cfn Tryz.prog cfg 237 = some c237 := by kernel_rfl

/-- slices.IndexFunc[[]rubric/api.Arg,rubric/api.Arg] -/
def c238 : AFn := ⟨
  .seq (.region [
    ⟨some 4, .p (.move (.con (.int .i64 (.ofNat 0)))), none⟩])
  (.seq (.seq (.region [
    ⟨some 6, .p (.move (.tmp 0)), none⟩,
    ⟨some 7, .p (.len false (.tmp 6)), none⟩,
    ⟨some 8, .p (.move (.con (.int .i64 (.ofNat 0)))), none⟩])
  (.block 0
    (.loop
      (.seq (.region [
        ⟨some 9, .p (.bin .lss .no false (.tmp 8) (.tmp 7)), none⟩])
      (.seq (.cond (.tmp 9)
        (.skip)
        (.exit 0))
      (.seq (.block 1
        (.seq (.region [
          ⟨some 10, .p (.move (.tmp 8)), none⟩,
          ⟨some 5, .p (.move (.tmp 10)), none⟩])
        (.seq (.region [
          ⟨some 11, .p (.move (.tmp 1)), none⟩,
          ⟨some 12, .p (.move (.tmp 0)), none⟩,
          ⟨some 13, .p (.move (.tmp 5)), none⟩,
          ⟨some 14, .p (.iaddr 7 (.tmp 12) (.tmp 13)), none⟩,
          ⟨some 15, .r (.load (some 7) (.tmp 14)) [], none⟩,
          ⟨some 16, .callv (.tmp 11) [(.tmp 15)], none⟩])
        (.cond (.tmp 16)
          (.seq (.region [
            ⟨some 17, .p (.move (.tmp 5)), none⟩,
            ⟨some 4, .p (.move (.tmp 17)), none⟩])
          (.ret))
          (.skip)))))
      (.region [
        ⟨some 18, .p (.bin .add .no false (.tmp 8) (.con (.int .i64 (.ofNat 1)))), none⟩,
        ⟨some 8, .p (.move (.tmp 18)), none⟩])))))))
  (.seq (.region [
    ⟨some 4, .p (.move (.con (.int .i64 (.negSucc 0)))), none⟩])
  (.ret))),
  [.tmp 4], false⟩
theorem c238_eq : cfn Tryz.prog cfg 238 = some c238 := by kernel_rfl

/-- strconv.ParseInt -/
def c239 : AFn := ⟨
  .seq (.region [
    ⟨some 6, .p (.move (.con (.int .i64 (.ofNat 0)))), none⟩,
    ⟨some 7, .p (.move (.con .nili)), none⟩])
  (.seq (.region [
    ⟨some 10, .p (.move (.tmp 0)), none⟩,
    ⟨some 11, .p (.move (.tmp 1)), none⟩,
    ⟨some 12, .p (.move (.tmp 2)), none⟩,
    ⟨some 13, .call 249 [(.tmp 10), (.tmp 11), (.tmp 12)], none⟩,
    ⟨some 9, .p (.move (.tmp 13)), none⟩,
    ⟨some 14, .p (.extract (.tmp 9) 0), none⟩,
    ⟨some 15, .p (.extract (.tmp 9) 1), none⟩,
    ⟨some 8, .p (.move (.tmp 14)), none⟩,
    ⟨some 7, .p (.move (.tmp 15)), none⟩])
  (.seq (.seq (.region [
    ⟨some 16, .p (.move (.tmp 7)), none⟩,
    ⟨some 17, .p (.bin .neq .iface true (.tmp 16) (.con .nili)), none⟩])
  (.cond (.tmp 17)
    (.seq (.region [
      ⟨some 18, .p (.move (.tmp 8)), none⟩,
      ⟨some 19, .p (.move (.tmp 0)), none⟩,
      ⟨some 20, .p (.move (.tmp 1)), none⟩,
      ⟨some 21, .p (.move (.tmp 2)), none⟩,
      ⟨some 22, .p (.move (.tmp 7)), none⟩,
      ⟨some 23, .call 250 [(.con (.str [80, 97, 114, 115, 101, 73, 110, 116])), (.tmp 19), (.tmp 20), (.tmp 21), (.tmp 22)], none⟩,
      ⟨some 6, .p (.move (.tmp 18)), none⟩,
      ⟨some 7, .p (.move (.tmp 23)), none⟩])
    (.ret))
    (.skip)))
  (.seq (.region [
    ⟨some 24, .p (.move (.tmp 8)), none⟩,
    ⟨some 6, .p (.move (.tmp 24)), none⟩,
    ⟨some 7, .p (.move (.con .nili)), none⟩])
  (.ret)))),
  [.tmp 6, .tmp 7], false⟩
theorem c239_eq : cfn Tryz.prog cfg 239 = some c239 := by kernel_rfl

/-- internal/strconv.ParseInt -/
def c249 : AFn := ⟨
  .seq (.region [
    ⟨some 6, .p (.move (.con (.int .i64 (.ofNat 0)))), none⟩,
    ⟨some 7, .p (.move (.con .nili)), none⟩])
  (.seq (.seq (.region [
    ⟨some 12, .p (.move (.tmp 0)), none⟩,
    ⟨some 13, .p (.bin .eql .no true (.tmp 12) (.con (.str []))), none⟩])
  (.cond (.tmp 13)
    (.seq (.region [
      ⟨some 14, .p (.mkif 286 (.con (.int .i64 (.ofNat 2)))), none⟩,
      ⟨some 6, .p (.move (.con (.int .i64 (.ofNat 0)))), none⟩,
      ⟨some 7, .p (.move (.tmp 14)), none⟩])
    (.ret))
    (.skip)))
  (.seq (.region [
    ⟨some 8, .p (.move (.con (.bool false))), none⟩])
  (.seq (.seq (.region [
    ⟨some 15, .p (.move (.tmp 0)), none⟩,
    ⟨some 16, .p (.indexS (.tmp 15) (.con (.int .i64 (.ofNat 0)))), none⟩])
  (.block 0
    (.seq (.region [
      ⟨some 18, .p (.bin .eql .no true (.tmp 16) (.con (.int .u8 (.ofNat 43)))), none⟩,
      ⟨some 17, .p (.move (.tmp 18)), none⟩])
    (.cond (.tmp 17)
      (.region [
        ⟨some 19, .p (.move (.tmp 0)), none⟩,
        ⟨some 20, .p (.sliceS (.tmp 19) (some (.con (.int .i64 (.ofNat 1)))) none), none⟩,
        ⟨some 0, .p (.move (.tmp 20)), none⟩])
      (.seq (.region [
        ⟨some 22, .p (.bin .eql .no true (.tmp 16) (.con (.int .u8 (.ofNat 45)))), none⟩,
        ⟨some 21, .p (.move (.tmp 22)), none⟩])
      (.cond (.tmp 21)
        (.seq (.region [
          ⟨some 23, .p (.move (.tmp 0)), none⟩,
          ⟨some 24, .p (.sliceS (.tmp 23) (some (.con (.int .i64 (.ofNat 1)))) none), none⟩,
          ⟨some 0, .p (.move (.tmp 24)), none⟩])
        (.region [
          ⟨some 8, .p (.move (.con (.bool true))), none⟩]))
        (.skip)))))))
  (.seq (.region [
    ⟨some 9, .p (.move (.con (.int .u64 (.ofNat 0)))), none⟩])
  (.seq (.region [
    ⟨some 26, .p (.move (.tmp 0)), none⟩,
    ⟨some 27, .p (.move (.tmp 1)), none⟩,
    ⟨some 28, .p (.move (.tmp 2)), none⟩,
    ⟨some 29, .call 255 [(.tmp 26), (.tmp 27), (.tmp 28)], none⟩,
    ⟨some 25, .p (.move (.tmp 29)), none⟩,
    ⟨some 30, .p (.extract (.tmp 25) 0), none⟩,
    ⟨some 31, .p (.extract (.tmp 25) 1), none⟩,
    ⟨some 9, .p (.move (.tmp 30)), none⟩,
    ⟨some 7, .p (.move (.tmp 31)), none⟩])
  (.seq (.seq (.region [
    ⟨some 32, .p (.move (.tmp 7)), none⟩,
    ⟨some 33, .p (.bin .neq .iface true (.tmp 32) (.con .nili)), none⟩,
    ⟨some 34, .p (.move (.tmp 33)), none⟩,
    ⟨some 35, .p (.move (.tmp 7)), (some (34, true))⟩,
    ⟨some 36, .p (.mkif 286 (.con (.int .i64 (.ofNat 1)))), (some (34, true))⟩,
    ⟨some 37, .p (.bin .neq .iface false (.tmp 35) (.tmp 36)), (some (34, true))⟩,
    ⟨some 38, .p (.pick (.tmp 34) (.tmp 37) (.con (.bool false))), none⟩])
  (.cond (.tmp 38)
    (.seq (.region [
      ⟨some 39, .p (.move (.tmp 7)), none⟩,
      ⟨some 6, .p (.move (.con (.int .i64 (.ofNat 0)))), none⟩,
      ⟨some 7, .p (.move (.tmp 39)), none⟩])
    (.ret))
    (.skip)))
  (.seq (.seq (.region [
    ⟨some 40, .p (.move (.tmp 2)), none⟩,
    ⟨some 41, .p (.bin .eql .no true (.tmp 40) (.con (.int .i64 (.ofNat 0)))), none⟩])
  (.cond (.tmp 41)
    (.region [
      ⟨some 2, .p (.move (.con (.int .i64 (.ofNat 64)))), none⟩])
    (.skip)))
  (.seq (.region [
    ⟨some 42, .p (.move (.tmp 2)), none⟩,
    ⟨some 43, .p (.bin .sub .no false (.tmp 42) (.con (.int .i64 (.ofNat 1)))), none⟩,
    ⟨some 44, .p (.conv (.int .u64) (.tmp 43)), none⟩,
    ⟨some 45, .p (.bin .shl .no false (.con (.int .u64 (.ofNat 1))) (.tmp 44)), none⟩,
    ⟨some 10, .p (.move (.tmp 45)), none⟩])
  (.seq (.seq (.region [
    ⟨some 46, .p (.move (.tmp 8)), none⟩,
    ⟨some 47, .p (.un .not (.tmp 46)), none⟩,
    ⟨some 48, .p (.move (.tmp 47)), none⟩,
    ⟨some 49, .p (.move (.tmp 9)), (some (48, true))⟩,
    ⟨some 50, .p (.move (.tmp 10)), (some (48, true))⟩,
    ⟨some 51, .p (.bin .geq .no false (.tmp 49) (.tmp 50)), (some (48, true))⟩,
    ⟨some 52, .p (.pick (.tmp 48) (.tmp 51) (.con (.bool false))), none⟩])
  (.cond (.tmp 52)
    (.seq (.region [
      ⟨some 53, .p (.move (.tmp 10)), none⟩,
      ⟨some 54, .p (.bin .sub .no false (.tmp 53) (.con (.int .u64 (.ofNat 1)))), none⟩,
      ⟨some 55, .p (.conv (.int .i64) (.tmp 54)), none⟩,
      ⟨some 56, .p (.mkif 286 (.con (.int .i64 (.ofNat 1)))), none⟩,
      ⟨some 6, .p (.move (.tmp 55)), none⟩,
      ⟨some 7, .p (.move (.tmp 56)), none⟩])
    (.ret))
    (.skip)))
  (.seq (.seq (.region [
    ⟨some 57, .p (.move (.tmp 8)), none⟩,
    ⟨some 58, .p (.move (.tmp 57)), none⟩,
    ⟨some 59, .p (.move (.tmp 9)), (some (58, true))⟩,
    ⟨some 60, .p (.move (.tmp 10)), (some (58, true))⟩,
    ⟨some 61, .p (.bin .gtr .no false (.tmp 59) (.tmp 60)), (some (58, true))⟩,
    ⟨some 62, .p (.pick (.tmp 58) (.tmp 61) (.con (.bool false))), none⟩])
  (.cond (.tmp 62)
    (.seq (.region [
      ⟨some 63, .p (.move (.tmp 10)), none⟩,
      ⟨some 64, .p (.conv (.int .i64) (.tmp 63)), none⟩,
      ⟨some 65, .p (.un .neg (.tmp 64)), none⟩,
      ⟨some 66, .p (.mkif 286 (.con (.int .i64 (.ofNat 1)))), none⟩,
      ⟨some 6, .p (.move (.tmp 65)), none⟩,
      ⟨some 7, .p (.move (.tmp 66)), none⟩])
    (.ret))
    (.skip)))
  (.seq (.region [
    ⟨some 67, .p (.move (.tmp 9)), none⟩,
    ⟨some 68, .p (.conv (.int .i64) (.tmp 67)), none⟩,
    ⟨some 11, .p (.move (.tmp 68)), none⟩])
  (.seq (.seq (.region [
    ⟨some 69, .p (.move (.tmp 8)), none⟩])
  (.cond (.tmp 69)
    (.region [
      ⟨some 70, .p (.move (.tmp 11)), none⟩,
      ⟨some 71, .p (.un .neg (.tmp 70)), none⟩,
      ⟨some 11, .p (.move (.tmp 71)), none⟩])
    (.skip)))
  (.seq (.region [
    ⟨some 72, .p (.move (.tmp 11)), none⟩,
    ⟨some 6, .p (.move (.tmp 72)), none⟩,
    ⟨some 7, .p (.move (.con .nili)), none⟩])
  (.ret)))))))))))))),
  [.tmp 6, .tmp 7], false⟩
theorem c249_eq : cfn Tryz.prog cfg 249 = some c249 := by kernel_rfl

/-- internal/strconv.ParseUint -/
def c255 : AFn := ⟨
  .seq (.region [
    ⟨some 6, .p (.move (.con (.int .u64 (.ofNat 0)))), none⟩,
    ⟨some 7, .p (.move (.con .nili)), none⟩])
  (.seq (.seq (.region [
    ⟨some 18, .p (.move (.tmp 0)), none⟩,
    ⟨some 19, .p (.bin .eql .no true (.tmp 18) (.con (.str []))), none⟩])
  (.cond (.tmp 19)
    (.seq (.region [
      ⟨some 20, .p (.mkif 286 (.con (.int .i64 (.ofNat 2)))), none⟩,
      ⟨some 6, .p (.move (.con (.int .u64 (.ofNat 0)))), none⟩,
      ⟨some 7, .p (.move (.tmp 20)), none⟩])
    (.ret))
    (.skip)))
  (.seq (.region [
    ⟨some 21, .p (.move (.tmp 1)), none⟩,
    ⟨some 22, .p (.bin .eql .no true (.tmp 21) (.con (.int .i64 (.ofNat 0)))), none⟩,
    ⟨some 8, .p (.move (.tmp 22)), none⟩])
  (.seq (.region [
    ⟨some 23, .p (.move (.tmp 0)), none⟩,
    ⟨some 9, .p (.move (.tmp 23)), none⟩])
  (.seq (.block 0
    (.seq (.region [
      ⟨some 26, .p (.move (.tmp 1)), none⟩,
      ⟨some 27, .p (.bin .leq .no false (.con (.int .i64 (.ofNat 2))) (.tmp 26)), none⟩,
      ⟨some 28, .p (.move (.tmp 27)), none⟩,
      ⟨some 29, .p (.move (.tmp 1)), (some (28, true))⟩,
      ⟨some 30, .p (.bin .leq .no false (.tmp 29) (.con (.int .i64 (.ofNat 36)))), (some (28, true))⟩,
      ⟨some 31, .p (.pick (.tmp 28) (.tmp 30) (.con (.bool false))), none⟩,
      ⟨some 25, .p (.move (.tmp 31)), none⟩])
    (.cond (.tmp 25)
      (.skip)
      (.seq (.region [
        ⟨some 33, .p (.move (.tmp 1)), none⟩,
        ⟨some 34, .p (.bin .eql .no true (.tmp 33) (.con (.int .i64 (.ofNat 0)))), none⟩,
        ⟨some 32, .p (.move (.tmp 34)), none⟩])
      (.cond (.tmp 32)
        (.seq (.region [
          ⟨some 1, .p (.move (.con (.int .i64 (.ofNat 10)))), none⟩])
        (.seq (.region [
          ⟨some 35, .p (.move (.tmp 0)), none⟩,
          ⟨some 36, .p (.indexS (.tmp 35) (.con (.int .i64 (.ofNat 0)))), none⟩,
          ⟨some 37, .p (.bin .eql .no true (.tmp 36) (.con (.int .u8 (.ofNat 48)))), none⟩])
        (.cond (.tmp 37)
          (.block 1
            (.seq (.region [
              ⟨some 41, .p (.move (.tmp 0)), none⟩,
              ⟨some 42, .p (.len true (.tmp 41)), none⟩,
              ⟨some 43, .p (.bin .geq .no false (.tmp 42) (.con (.int .i64 (.ofNat 3)))), none⟩,
              ⟨some 44, .p (.move (.tmp 43)), none⟩,
              ⟨some 45, .p (.move (.tmp 0)), (some (44, true))⟩,
              ⟨some 46, .p (.indexS (.tmp 45) (.con (.int .i64 (.ofNat 1)))), (some (44, true))⟩,
              ⟨some 47, .call 264 [(.tmp 46)], (some (44, true))⟩,
              ⟨some 48, .p (.bin .eql .no true (.tmp 47) (.con (.int .u8 (.ofNat 98)))), (some (44, true))⟩,
              ⟨some 49, .p (.pick (.tmp 44) (.tmp 48) (.con (.bool false))), none⟩,
              ⟨some 40, .p (.move (.tmp 49)), none⟩])
            (.cond (.tmp 40)
              (.seq (.region [
                ⟨some 1, .p (.move (.con (.int .i64 (.ofNat 2)))), none⟩])
              (.region [
                ⟨some 50, .p (.move (.tmp 0)), none⟩,
                ⟨some 51, .p (.sliceS (.tmp 50) (some (.con (.int .i64 (.ofNat 2)))) none), none⟩,
                ⟨some 0, .p (.move (.tmp 51)), none⟩]))
              (.seq (.region [
                ⟨some 53, .p (.move (.tmp 0)), none⟩,
                ⟨some 54, .p (.len true (.tmp 53)), none⟩,
                ⟨some 55, .p (.bin .geq .no false (.tmp 54) (.con (.int .i64 (.ofNat 3)))), none⟩,
                ⟨some 56, .p (.move (.tmp 55)), none⟩,
                ⟨some 57, .p (.move (.tmp 0)), (some (56, true))⟩,
                ⟨some 58, .p (.indexS (.tmp 57) (.con (.int .i64 (.ofNat 1)))), (some (56, true))⟩,
                ⟨some 59, .call 264 [(.tmp 58)], (some (56, true))⟩,
                ⟨some 60, .p (.bin .eql .no true (.tmp 59) (.con (.int .u8 (.ofNat 111)))), (some (56, true))⟩,
                ⟨some 61, .p (.pick (.tmp 56) (.tmp 60) (.con (.bool false))), none⟩,
                ⟨some 52, .p (.move (.tmp 61)), none⟩])
              (.cond (.tmp 52)
                (.seq (.region [
                  ⟨some 1, .p (.move (.con (.int .i64 (.ofNat 8)))), none⟩])
                (.region [
                  ⟨some 62, .p (.move (.tmp 0)), none⟩,
                  ⟨some 63, .p (.sliceS (.tmp 62) (some (.con (.int .i64 (.ofNat 2)))) none), none⟩,
                  ⟨some 0, .p (.move (.tmp 63)), none⟩]))
                (.seq (.region [
                  ⟨some 65, .p (.move (.tmp 0)), none⟩,
                  ⟨some 66, .p (.len true (.tmp 65)), none⟩,
                  ⟨some 67, .p (.bin .geq .no false (.tmp 66) (.con (.int .i64 (.ofNat 3)))), none⟩,
                  ⟨some 68, .p (.move (.tmp 67)), none⟩,
                  ⟨some 69, .p (.move (.tmp 0)), (some (68, true))⟩,
                  ⟨some 70, .p (.indexS (.tmp 69) (.con (.int .i64 (.ofNat 1)))), (some (68, true))⟩,
                  ⟨some 71, .call 264 [(.tmp 70)], (some (68, true))⟩,
                  ⟨some 72, .p (.bin .eql .no true (.tmp 71) (.con (.int .u8 (.ofNat 120)))), (some (68, true))⟩,
                  ⟨some 73, .p (.pick (.tmp 68) (.tmp 72) (.con (.bool false))), none⟩,
                  ⟨some 64, .p (.move (.tmp 73)), none⟩])
                (.cond (.tmp 64)
                  (.seq (.region [
                    ⟨some 1, .p (.move (.con (.int .i64 (.ofNat 16)))), none⟩])
                  (.region [
                    ⟨some 74, .p (.move (.tmp 0)), none⟩,
                    ⟨some 75, .p (.sliceS (.tmp 74) (some (.con (.int .i64 (.ofNat 2)))) none), none⟩,
                    ⟨some 0, .p (.move (.tmp 75)), none⟩]))
                  (.seq (.region [
                    ⟨some 1, .p (.move (.con (.int .i64 (.ofNat 8)))), none⟩])
                  (.region [
                    ⟨some 38, .p (.move (.tmp 0)), none⟩,
                    ⟨some 39, .p (.sliceS (.tmp 38) (some (.con (.int .i64 (.ofNat 1)))) none), none⟩,
                    ⟨some 0, .p (.move (.tmp 39)), none⟩])))))))))
          (.skip))))
        (.seq (.region [
          ⟨some 24, .p (.mkif 286 (.con (.int .i64 (.ofNat 3)))), none⟩,
          ⟨some 6, .p (.move (.con (.int .u64 (.ofNat 0)))), none⟩,
          ⟨some 7, .p (.move (.tmp 24)), none⟩])
        (.ret)))))))
  (.seq (.seq (.region [
    ⟨some 76, .p (.move (.tmp 2)), none⟩,
    ⟨some 77, .p (.bin .eql .no true (.tmp 76) (.con (.int .i64 (.ofNat 0)))), none⟩])
  (.cond (.tmp 77)
    (.region [
      ⟨some 2, .p (.move (.con (.int .i64 (.ofNat 64)))), none⟩])
    (.seq (.region [
      ⟨some 78, .p (.move (.tmp 2)), none⟩,
      ⟨some 79, .p (.bin .lss .no false (.tmp 78) (.con (.int .i64 (.ofNat 0)))), none⟩,
      ⟨some 80, .p (.move (.tmp 79)), none⟩,
      ⟨some 81, .p (.move (.tmp 2)), (some (80, false))⟩,
      ⟨some 82, .p (.bin .gtr .no false (.tmp 81) (.con (.int .i64 (.ofNat 64)))), (some (80, false))⟩,
      ⟨some 83, .p (.pick (.tmp 80) (.con (.bool true)) (.tmp 82)), none⟩])
    (.cond (.tmp 83)
      (.seq (.region [
        ⟨some 84, .p (.mkif 286 (.con (.int .i64 (.ofNat 4)))), none⟩,
        ⟨some 6, .p (.move (.con (.int .u64 (.ofNat 0)))), none⟩,
        ⟨some 7, .p (.move (.tmp 84)), none⟩])
      (.ret))
      (.skip)))))
  (.seq (.region [
    ⟨some 10, .p (.move (.con (.int .u64 (.ofNat 0)))), none⟩])
  (.seq (.seq (.region [
    ⟨some 85, .p (.move (.tmp 1)), none⟩])
  (.block 2
    (.seq (.region [
      ⟨some 91, .p (.bin .eql .no true (.tmp 85) (.con (.int .i64 (.ofNat 10)))), none⟩,
      ⟨some 90, .p (.move (.tmp 91)), none⟩])
    (.cond (.tmp 90)
      (.region [
        ⟨some 10, .p (.move (.con (.int .u64 (.ofNat 1844674407370955162)))), none⟩])
      (.seq (.region [
        ⟨some 93, .p (.bin .eql .no true (.tmp 85) (.con (.int .i64 (.ofNat 16)))), none⟩,
        ⟨some 92, .p (.move (.tmp 93)), none⟩])
      (.cond (.tmp 92)
        (.region [
          ⟨some 10, .p (.move (.con (.int .u64 (.ofNat 1152921504606846976)))), none⟩])
        (.region [
          ⟨some 86, .p (.move (.tmp 1)), none⟩,
          ⟨some 87, .p (.conv (.int .u64) (.tmp 86)), none⟩,
          ⟨some 88, .p (.bin .quo .no false (.con (.int .u64 (.ofNat 18446744073709551615))) (.tmp 87)), none⟩,
          ⟨some 89, .p (.bin .add .no false (.tmp 88) (.con (.int .u64 (.ofNat 1)))), none⟩,
          ⟨some 10, .p (.move (.tmp 89)), none⟩])))))))
  (.seq (.region [
    ⟨some 94, .p (.move (.tmp 2)), none⟩,
    ⟨some 95, .p (.conv (.int .u64) (.tmp 94)), none⟩,
    ⟨some 96, .p (.bin .shl .no false (.con (.int .u64 (.ofNat 1))) (.tmp 95)), none⟩,
    ⟨some 97, .p (.bin .sub .no false (.tmp 96) (.con (.int .u64 (.ofNat 1)))), none⟩,
    ⟨some 11, .p (.move (.tmp 97)), none⟩])
  (.seq (.region [
    ⟨some 12, .p (.move (.con (.bool false))), none⟩])
  (.seq (.region [
    ⟨some 13, .p (.move (.con (.int .u64 (.ofNat 0)))), none⟩])
  (.seq (.seq (.region [
    ⟨some 98, .p (.move (.tmp 0)), none⟩,
    ⟨some 99, .p (.conv .bytes (.tmp 98)), none⟩,
    ⟨some 100, .p (.len false (.tmp 99)), none⟩,
    ⟨some 101, .p (.move (.con (.int .i64 (.ofNat 0)))), none⟩])
  (.block 3
    (.loop
      (.seq (.region [
        ⟨some 102, .p (.bin .lss .no false (.tmp 101) (.tmp 100)), none⟩])
      (.seq (.cond (.tmp 102)
        (.skip)
        (.exit 3))
      (.seq (.block 4
        (.seq (.region [
          ⟨some 103, .p (.iaddr 1 (.tmp 99) (.tmp 101)), none⟩,
          ⟨some 104, .r (.load none (.tmp 103)) [], none⟩,
          ⟨some 15, .p (.move (.tmp 104)), none⟩])
        (.seq (.region [
          ⟨some 16, .p (.move (.con (.int .u8 (.ofNat 0)))), none⟩])
        (.seq (.block 5
          (.seq (.region [
            ⟨some 107, .p (.move (.tmp 15)), none⟩,
            ⟨some 108, .p (.bin .eql .no true (.tmp 107) (.con (.int .u8 (.ofNat 95)))), none⟩,
            ⟨some 109, .p (.move (.tmp 108)), none⟩,
            ⟨some 110, .p (.move (.tmp 8)), (some (109, true))⟩,
            ⟨some 111, .p (.pick (.tmp 109) (.tmp 110) (.con (.bool false))), none⟩,
            ⟨some 106, .p (.move (.tmp 111)), none⟩])
          (.cond (.tmp 106)
            (.seq (.region [
              ⟨some 12, .p (.move (.con (.bool true))), none⟩])
            (.exit 4))
            (.seq (.region [
              ⟨some 113, .p (.move (.tmp 15)), none⟩,
              ⟨some 114, .p (.bin .leq .no false (.con (.int .u8 (.ofNat 48))) (.tmp 113)), none⟩,
              ⟨some 115, .p (.move (.tmp 114)), none⟩,
              ⟨some 116, .p (.move (.tmp 15)), (some (115, true))⟩,
              ⟨some 117, .p (.bin .leq .no false (.tmp 116) (.con (.int .u8 (.ofNat 57)))), (some (115, true))⟩,
              ⟨some 118, .p (.pick (.tmp 115) (.tmp 117) (.con (.bool false))), none⟩,
              ⟨some 112, .p (.move (.tmp 118)), none⟩])
            (.cond (.tmp 112)
              (.region [
                ⟨some 119, .p (.move (.tmp 15)), none⟩,
                ⟨some 120, .p (.bin .sub .no false (.tmp 119) (.con (.int .u8 (.ofNat 48)))), none⟩,
                ⟨some 16, .p (.move (.tmp 120)), none⟩])
              (.seq (.region [
                ⟨some 122, .p (.move (.tmp 15)), none⟩,
                ⟨some 123, .call 264 [(.tmp 122)], none⟩,
                ⟨some 124, .p (.bin .leq .no false (.con (.int .u8 (.ofNat 97))) (.tmp 123)), none⟩,
                ⟨some 125, .p (.move (.tmp 124)), none⟩,
                ⟨some 126, .p (.move (.tmp 15)), (some (125, true))⟩,
                ⟨some 127, .call 264 [(.tmp 126)], (some (125, true))⟩,
                ⟨some 128, .p (.bin .leq .no false (.tmp 127) (.con (.int .u8 (.ofNat 122)))), (some (125, true))⟩,
                ⟨some 129, .p (.pick (.tmp 125) (.tmp 128) (.con (.bool false))), none⟩,
                ⟨some 121, .p (.move (.tmp 129)), none⟩])
              (.cond (.tmp 121)
                (.region [
                  ⟨some 130, .p (.move (.tmp 15)), none⟩,
                  ⟨some 131, .call 264 [(.tmp 130)], none⟩,
                  ⟨some 132, .p (.bin .sub .no false (.tmp 131) (.con (.int .u8 (.ofNat 97)))), none⟩,
                  ⟨some 133, .p (.bin .add .no false (.tmp 132) (.con (.int .u8 (.ofNat 10)))), none⟩,
                  ⟨some 16, .p (.move (.tmp 133)), none⟩])
                (.seq (.region [
                  ⟨some 105, .p (.mkif 286 (.con (.int .i64 (.ofNat 2)))), none⟩,
                  ⟨some 6, .p (.move (.con (.int .u64 (.ofNat 0)))), none⟩,
                  ⟨some 7, .p (.move (.tmp 105)), none⟩])
                (.ret)))))))))
        (.seq (.seq (.region [
          ⟨some 134, .p (.move (.tmp 16)), none⟩,
          ⟨some 135, .p (.move (.tmp 1)), none⟩,
          ⟨some 136, .p (.conv (.int .u8) (.tmp 135)), none⟩,
          ⟨some 137, .p (.bin .geq .no false (.tmp 134) (.tmp 136)), none⟩])
        (.cond (.tmp 137)
          (.seq (.region [
            ⟨some 138, .p (.mkif 286 (.con (.int .i64 (.ofNat 2)))), none⟩,
            ⟨some 6, .p (.move (.con (.int .u64 (.ofNat 0)))), none⟩,
            ⟨some 7, .p (.move (.tmp 138)), none⟩])
          (.ret))
          (.skip)))
        (.seq (.seq (.region [
          ⟨some 139, .p (.move (.tmp 13)), none⟩,
          ⟨some 140, .p (.move (.tmp 10)), none⟩,
          ⟨some 141, .p (.bin .geq .no false (.tmp 139) (.tmp 140)), none⟩])
        (.cond (.tmp 141)
          (.seq (.region [
            ⟨some 142, .p (.move (.tmp 11)), none⟩,
            ⟨some 143, .p (.mkif 286 (.con (.int .i64 (.ofNat 1)))), none⟩,
            ⟨some 6, .p (.move (.tmp 142)), none⟩,
            ⟨some 7, .p (.move (.tmp 143)), none⟩])
          (.ret))
          (.skip)))
        (.seq (.region [
          ⟨some 144, .p (.move (.tmp 13)), none⟩,
          ⟨some 145, .p (.move (.tmp 1)), none⟩,
          ⟨some 146, .p (.conv (.int .u64) (.tmp 145)), none⟩,
          ⟨some 147, .p (.bin .mul .no false (.tmp 144) (.tmp 146)), none⟩,
          ⟨some 13, .p (.move (.tmp 147)), none⟩])
        (.seq (.region [
          ⟨some 148, .p (.move (.tmp 13)), none⟩,
          ⟨some 149, .p (.move (.tmp 16)), none⟩,
          ⟨some 150, .p (.conv (.int .u64) (.tmp 149)), none⟩,
          ⟨some 151, .p (.bin .add .no false (.tmp 148) (.tmp 150)), none⟩,
          ⟨some 17, .p (.move (.tmp 151)), none⟩])
        (.seq (.seq (.region [
          ⟨some 152, .p (.move (.tmp 17)), none⟩,
          ⟨some 153, .p (.move (.tmp 13)), none⟩,
          ⟨some 154, .p (.bin .lss .no false (.tmp 152) (.tmp 153)), none⟩,
          ⟨some 155, .p (.move (.tmp 154)), none⟩,
          ⟨some 156, .p (.move (.tmp 17)), (some (155, false))⟩,
          ⟨some 157, .p (.move (.tmp 11)), (some (155, false))⟩,
          ⟨some 158, .p (.bin .gtr .no false (.tmp 156) (.tmp 157)), (some (155, false))⟩,
          ⟨some 159, .p (.pick (.tmp 155) (.con (.bool true)) (.tmp 158)), none⟩])
        (.cond (.tmp 159)
          (.seq (.region [
            ⟨some 160, .p (.move (.tmp 11)), none⟩,
            ⟨some 161, .p (.mkif 286 (.con (.int .i64 (.ofNat 1)))), none⟩,
            ⟨some 6, .p (.move (.tmp 160)), none⟩,
            ⟨some 7, .p (.move (.tmp 161)), none⟩])
          (.ret))
          (.skip)))
        (.region [
          ⟨some 162, .p (.move (.tmp 17)), none⟩,
          ⟨some 13, .p (.move (.tmp 162)), none⟩]))))))))))
      (.region [
        ⟨some 163, .p (.bin .add .no false (.tmp 101) (.con (.int .i64 (.ofNat 1)))), none⟩,
        ⟨some 101, .p (.move (.tmp 163)), none⟩])))))))
  (.seq (.seq (.region [
    ⟨some 164, .p (.move (.tmp 12)), none⟩,
    ⟨some 165, .p (.move (.tmp 164)), none⟩,
    ⟨some 166, .p (.move (.tmp 9)), (some (165, true))⟩,
    ⟨some 167, .call 265 [(.tmp 166)], (some (165, true))⟩,
    ⟨some 168, .p (.un .not (.tmp 167)), (some (165, true))⟩,
    ⟨some 169, .p (.pick (.tmp 165) (.tmp 168) (.con (.bool false))), none⟩])
  (.cond (.tmp 169)
    (.seq (.region [
      ⟨some 170, .p (.mkif 286 (.con (.int .i64 (.ofNat 2)))), none⟩,
      ⟨some 6, .p (.move (.con (.int .u64 (.ofNat 0)))), none⟩,
      ⟨some 7, .p (.move (.tmp 170)), none⟩])
    (.ret))
    (.skip)))
  (.seq (.region [
    ⟨some 171, .p (.move (.tmp 13)), none⟩,
    ⟨some 6, .p (.move (.tmp 171)), none⟩,
    ⟨some 7, .p (.move (.con .nili)), none⟩])
  (.ret)))))))))))))),
  [.tmp 6, .tmp 7], false⟩
theorem c255_eq : cfn Tryz.prog cfg 255 = some c255 := by kernel_rfl

end Go.Proofs.YtecfmifgcebifaaGreatDoor
