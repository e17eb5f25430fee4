/- The compiled functions of the seat, as told by the evaluator's compiler; written by a program of this session, wip/eng/px.lean. It bears no condition. -/
import Derived.Test.YtjheedfobmlalaaE19
import Derived.Test.YtjheedfobmlalaaChecked
namespace Go.Proofs.Ytjheedfobmlalaa.E
set_option linter.unusedVariables false
/-- bollard/bollardlaw10.GapsAll (117) -/
def x3b : XC := (.seq (.region [⟨(some 6), (.mv (.c (.b false))), none, 0, []⟩])
  (.seq (.region [⟨(some 16), (.call (.c (.fn (.func 9) [] [])) []), none, 0, []⟩, ⟨(some 7), (.mv (.t 16)), none, 1, []⟩])
  (.seq (.region [⟨(some 17), (.mv (.t 1)), none, 0, []⟩, ⟨(some 18), (.bin .and (.t 17) (.c (.i .i64 127))), none, 1, []⟩, ⟨(some 8), (.mv (.t 18)), none, 2, []⟩])
  (.seq (.region [⟨(some 19), (.mv (.t 0)), none, 0, []⟩, ⟨(some 20), (.call (.c (.fn (.func 10) [] [])) [(.t 19)]), none, 1, []⟩, ⟨(some 9), (.mv (.t 20)), none, 2, []⟩])
  (.seq (.region [⟨(some 10), (.mv (.c (.i .i64 0))), none, 0, []⟩])
  (.seq (.region [⟨(some 11), (.mv (.c (.sl none 0 0 0))), none, 0, []⟩])
  (.seq (.seq (.region [⟨(some 12), (.mv (.c (.i .i64 0))), none, 0, []⟩])
  (.block 0 (.loop (.seq (.seq (.region [⟨(some 21), (.mv (.t 12)), none, 0, []⟩, ⟨(some 22), (.mv (.t 8)), none, 1, []⟩, ⟨(some 23), (.bin .lss (.t 21) (.t 22)), none, 2, []⟩])
  (.cond (.t 23) .skip (.exit 0)))
  (.seq (.block 1 (.region [⟨(some 26), (.mv (.t 11)), none, 0, []⟩, ⟨(some 27), (.mv (.t 0)), none, 1, []⟩, ⟨(some 28), (.mv (.t 12)), none, 2, []⟩, ⟨(some 29), (.cint .u32 (.t 28)), none, 3, []⟩, ⟨(some 30), (.bin .add (.t 27) (.t 29)), none, 4, []⟩, ⟨(some 31), (.bslice [(.i .u32 0)] [(0, 1, (.t 30))] 1), none, 5, []⟩, ⟨(some 32), (.append 1 4 (.t 26) (.t 31)), none, 6, []⟩, ⟨(some 11), (.mv (.t 32)), none, 7, []⟩]))
  (.region [⟨(some 24), (.mv (.t 12)), none, 0, []⟩, ⟨(some 25), (.bin .add (.t 24) (.c (.i .i64 1))), none, 1, []⟩, ⟨(some 12), (.mv (.t 25)), none, 2, []⟩]))))))
  (.seq (.seq (.region [⟨(some 13), (.mv (.c (.i .i64 0))), none, 0, []⟩])
  (.block 2 (.loop (.seq (.seq (.region [⟨(some 33), (.mv (.t 11)), none, 0, []⟩, ⟨(some 34), (.lenx (.t 33)), none, 1, []⟩, ⟨(some 35), (.bin .gtr (.t 34) (.c (.i .i64 0))), none, 2, []⟩])
  (.cond (.t 35) .skip (.exit 2)))
  (.seq (.block 3 (.seq (.region [⟨(some 14), (.mv (.c (.i .i64 0))), none, 0, []⟩])
  (.seq (.seq (.region [⟨(some 38), (.mv (.t 13)), none, 0, []⟩, ⟨(some 39), (.mv (.t 2)), none, 1, []⟩, ⟨(some 40), (.lenx (.t 39)), none, 2, []⟩, ⟨(some 41), (.bin .lss (.t 38) (.t 40)), none, 3, []⟩])
  (.cond (.t 41) (.region [⟨(some 42), (.mv (.t 2)), none, 0, []⟩, ⟨(some 43), (.mv (.t 13)), none, 1, []⟩, ⟨(some 44), (.isl 1 (.t 42) (.t 43)), none, 2, []⟩, ⟨(some 45), (.load false 1 (.t 44)), none, 3, []⟩, ⟨(some 46), (.bin .and (.t 45) (.c (.i .i64 65535))), none, 4, []⟩, ⟨(some 47), (.mv (.t 11)), none, 5, []⟩, ⟨(some 48), (.lenx (.t 47)), none, 6, []⟩, ⟨(some 49), (.bin .rem (.t 46) (.t 48)), none, 7, []⟩, ⟨(some 14), (.mv (.t 49)), none, 8, []⟩]) .skip))
  (.seq (.region [⟨(some 50), (.mv (.t 11)), none, 0, []⟩, ⟨(some 51), (.mv (.t 14)), none, 1, []⟩, ⟨(some 52), (.isl 1 (.t 50) (.t 51)), none, 2, []⟩, ⟨(some 53), (.load false 1 (.t 52)), none, 3, []⟩, ⟨(some 15), (.mv (.t 53)), none, 4, []⟩])
  (.seq (.seq (.region [⟨(some 54), (.mv (.t 9)), none, 0, []⟩, ⟨(some 55), (.mv (.t 15)), none, 1, []⟩, ⟨(some 56), (.call (.c (.fn (.func 11) [] [])) [(.t 54), (.t 55)]), none, 2, []⟩, ⟨(some 57), (.bin .neq (.t 56) (.c (.i .i64 0))), none, 3, []⟩, ⟨(some 58), (.mv (.t 57)), none, 4, []⟩, ⟨(some 59), (.mv (.t 9)), (some (58, false)), 5, []⟩, ⟨(some 60), (.mv (.t 15)), (some (58, false)), 6, []⟩, ⟨(some 61), (.call (.c (.fn (.func 11) [] [])) [(.t 59), (.t 60)]), (some (58, false)), 7, []⟩, ⟨(some 62), (.bin .neq (.t 61) (.c (.i .i64 1))), (some (58, false)), 8, []⟩, ⟨(some 63), (.pick (.t 58) (.c (.b true)) (.t 62)), none, 9, []⟩, ⟨(some 64), (.mv (.t 63)), none, 10, []⟩, ⟨(some 65), (.mv (.t 9)), (some (64, false)), 11, []⟩, ⟨(some 66), (.mv (.t 15)), (some (64, false)), 12, []⟩, ⟨(some 67), (.call (.c (.fn (.func 12) [] [])) [(.t 65), (.t 66)]), (some (64, false)), 13, []⟩, ⟨(some 68), (.unx .not (.t 67)), (some (64, false)), 14, []⟩, ⟨(some 69), (.pick (.t 64) (.c (.b true)) (.t 68)), none, 15, []⟩])
  (.cond (.t 69) (.seq (.region [⟨(some 6), (.mv (.c (.b false))), none, 0, []⟩])
  .ret) .skip))
  (.seq (.region [⟨(some 70), (.mv (.t 10)), none, 0, []⟩, ⟨(some 71), (.bin .add (.t 70) (.c (.i .i64 1))), none, 1, []⟩, ⟨(some 10), (.mv (.t 71)), none, 2, []⟩])
  (.draw [⟨(some 73), (.mv (.t 11)), none, 1, []⟩, ⟨(some 74), (.mv (.t 14)), none, 2, []⟩, ⟨(some 75), (.slsl 1 (.t 73) none (some (.t 74)) none), none, 3, [1, 2]⟩, ⟨(some 77), (.mv (.t 11)), none, 5, []⟩, ⟨(some 78), (.mv (.t 14)), none, 6, []⟩, ⟨(some 79), (.bin .add (.t 78) (.c (.i .i64 1))), none, 7, [6]⟩, ⟨(some 80), (.slsl 1 (.t 77) (some (.t 79)) none none), none, 8, [5, 6, 7]⟩, ⟨(some 72), (.bslice [] [] 0), none, 0, []⟩, ⟨(some 76), (.append 1 4 (.t 72) (.t 75)), none, 4, [0, 1, 2, 3]⟩, ⟨(some 81), (.append 1 4 (.t 76) (.t 80)), none, 9, [0, 1, 2, 3, 4, 5, 6, 7, 8]⟩, ⟨(some 11), (.mv (.t 81)), none, 10, [0, 1, 2, 3, 4, 5, 6, 7, 8, 9]⟩])))))))
  (.region [⟨(some 36), (.mv (.t 13)), none, 0, []⟩, ⟨(some 37), (.bin .add (.t 36) (.c (.i .i64 1))), none, 1, []⟩, ⟨(some 13), (.mv (.t 37)), none, 2, []⟩]))))))
  (.seq (.region [⟨(some 82), (.mv (.t 7)), none, 0, []⟩, ⟨(some 83), (.mv (.t 82)), none, 1, []⟩, ⟨(some 84), (.mv (.t 10)), (some (83, true)), 2, []⟩, ⟨(some 85), (.mv (.t 8)), (some (83, true)), 3, []⟩, ⟨(some 86), (.bin .eql (.t 84) (.t 85)), (some (83, true)), 4, []⟩, ⟨(some 87), (.pick (.t 83) (.t 86) (.c (.b false))), none, 5, []⟩, ⟨(some 88), (.mv (.t 87)), none, 6, []⟩, ⟨(some 89), (.mv (.t 9)), (some (88, true)), 7, []⟩, ⟨(some 90), (.call (.c (.fn (.func 13) [] [])) [(.t 89)]), (some (88, true)), 8, []⟩, ⟨(some 91), (.mv (.t 0)), (some (88, true)), 9, []⟩, ⟨(some 92), (.mv (.t 8)), (some (88, true)), 10, []⟩, ⟨(some 93), (.cint .u32 (.t 92)), (some (88, true)), 11, []⟩, ⟨(some 94), (.bin .add (.t 91) (.t 93)), (some (88, true)), 12, []⟩, ⟨(some 95), (.bin .sub (.t 94) (.c (.i .u32 1))), (some (88, true)), 13, []⟩, ⟨(some 96), (.bin .eql (.t 90) (.t 95)), (some (88, true)), 14, []⟩, ⟨(some 97), (.pick (.t 88) (.t 96) (.c (.b false))), none, 15, []⟩, ⟨(some 98), (.mv (.t 97)), none, 16, []⟩, ⟨(some 99), (.mv (.t 9)), (some (98, true)), 17, []⟩, ⟨(some 100), (.call (.c (.fn (.func 14) [] [])) [(.t 99)]), (some (98, true)), 18, []⟩, ⟨(some 101), (.bin .eql (.t 100) (.c (.i .i64 0))), (some (98, true)), 19, []⟩, ⟨(some 102), (.pick (.t 98) (.t 101) (.c (.b false))), none, 20, []⟩, ⟨(some 103), (.mv (.t 102)), none, 21, []⟩, ⟨(some 104), (.mv (.t 9)), (some (103, true)), 22, []⟩, ⟨(some 105), (.call (.c (.fn (.func 15) [] [])) [(.t 104)]), (some (103, true)), 23, []⟩, ⟨(some 106), (.lenx (.t 105)), (some (103, true)), 24, []⟩, ⟨(some 107), (.bin .eql (.t 106) (.c (.i .i64 0))), (some (103, true)), 25, []⟩, ⟨(some 108), (.pick (.t 103) (.t 107) (.c (.b false))), none, 26, []⟩, ⟨(some 109), (.mv (.t 108)), none, 27, []⟩, ⟨(some 110), (.mv (.t 9)), (some (109, true)), 28, []⟩, ⟨(some 111), (.call (.c (.fn (.func 16) [] [])) [(.t 110)]), (some (109, true)), 29, []⟩, ⟨(some 112), (.lenx (.t 111)), (some (109, true)), 30, []⟩, ⟨(some 113), (.mv (.t 8)), (some (109, true)), 31, []⟩, ⟨(some 114), (.mnmx false [(.t 113), (.c (.i .i64 64))]), (some (109, true)), 32, []⟩, ⟨(some 115), (.bin .eql (.t 112) (.t 114)), (some (109, true)), 33, []⟩, ⟨(some 116), (.pick (.t 109) (.t 115) (.c (.b false))), none, 34, []⟩, ⟨(some 6), (.mv (.t 116)), none, 35, []⟩])
  .ret)))))))))
def x3 : XFun := ⟨x3b, [(.t 6)]⟩
theorem x3_ok : compF Try.prog 3 = some x3 := by kernel_rfl
/-- bollard/bollardlaw10.GapsOnce (101) -/
def x4b : XC := (.seq (.region [⟨(some 6), (.mv (.c (.b false))), none, 0, []⟩])
  (.seq (.region [⟨(some 15), (.call (.c (.fn (.func 9) [] [])) []), none, 0, []⟩, ⟨(some 7), (.mv (.t 15)), none, 1, []⟩])
  (.seq (.seq (.region [⟨(some 16), (.mv (.t 1)), none, 0, []⟩, ⟨(some 17), (.lenx (.t 16)), none, 1, []⟩, ⟨(some 18), (.bin .gtr (.t 17) (.c (.i .i64 100))), none, 2, []⟩])
  (.cond (.t 18) (.seq (.region [⟨(some 19), (.mv (.t 7)), none, 0, []⟩, ⟨(some 6), (.mv (.t 19)), none, 1, []⟩])
  .ret) .skip))
  (.seq (.region [⟨(some 20), (.mv (.t 0)), none, 0, []⟩, ⟨(some 21), (.call (.c (.fn (.func 10) [] [])) [(.t 20)]), none, 1, []⟩, ⟨(some 8), (.mv (.t 21)), none, 2, []⟩])
  (.seq (.seq (.region [⟨(some 9), (.mv (.c (.i .i64 0))), none, 0, []⟩])
  (.block 0 (.loop (.seq (.seq (.region [⟨(some 22), (.mv (.t 9)), none, 0, []⟩, ⟨(some 23), (.mv (.t 1)), none, 1, []⟩, ⟨(some 24), (.lenx (.t 23)), none, 2, []⟩, ⟨(some 25), (.bin .lss (.t 22) (.t 24)), none, 3, []⟩])
  (.cond (.t 25) .skip (.exit 0)))
  (.seq (.block 1 (.region [⟨(some 28), (.mv (.t 8)), none, 0, []⟩, ⟨(some 29), (.mv (.t 0)), none, 1, []⟩, ⟨(some 30), (.mv (.t 1)), none, 2, []⟩, ⟨(some 31), (.mv (.t 9)), none, 3, []⟩, ⟨(some 32), (.isl 2 (.t 30) (.t 31)), none, 4, []⟩, ⟨(some 33), (.fadd 1 (.t 32)), none, 5, []⟩, ⟨(some 34), (.load false 1 (.t 33)), none, 6, []⟩, ⟨(some 35), (.bin .add (.t 29) (.t 34)), none, 7, []⟩, ⟨(some 36), (.call (.c (.fn (.func 11) [] [])) [(.t 28), (.t 35)]), none, 8, []⟩]))
  (.region [⟨(some 26), (.mv (.t 9)), none, 0, []⟩, ⟨(some 27), (.bin .add (.t 26) (.c (.i .i64 1))), none, 1, []⟩, ⟨(some 9), (.mv (.t 27)), none, 2, []⟩]))))))
  (.seq (.region [⟨(some 37), (.mv (.t 8)), none, 0, []⟩, ⟨(some 38), (.mv (.t 2)), none, 1, []⟩, ⟨(some 39), (.call (.c (.fn (.func 12) [] [])) [(.t 37), (.t 38)]), none, 2, []⟩, ⟨(some 10), (.mv (.t 39)), none, 3, []⟩])
  (.seq (.region [⟨(some 40), (.mv (.t 8)), none, 0, []⟩, ⟨(some 41), (.call (.c (.fn (.func 13) [] [])) [(.t 40)]), none, 1, []⟩, ⟨(some 11), (.mv (.t 41)), none, 2, []⟩])
  (.seq (.region [⟨(some 42), (.mv (.t 8)), none, 0, []⟩, ⟨(some 43), (.call (.c (.fn (.func 14) [] [])) [(.t 42)]), none, 1, []⟩, ⟨(some 12), (.mv (.t 43)), none, 2, []⟩])
  (.seq (.region [⟨(some 44), (.mv (.t 8)), none, 0, []⟩, ⟨(some 45), (.mv (.t 2)), none, 1, []⟩, ⟨(some 46), (.call (.c (.fn (.func 11) [] [])) [(.t 44), (.t 45)]), none, 2, []⟩, ⟨(some 13), (.mv (.t 46)), none, 3, []⟩])
  (.seq (.region [⟨(some 47), (.mv (.t 8)), none, 0, []⟩, ⟨(some 48), (.mv (.t 2)), none, 1, []⟩, ⟨(some 49), (.call (.c (.fn (.func 11) [] [])) [(.t 47), (.t 48)]), none, 2, []⟩, ⟨(some 14), (.mv (.t 49)), none, 3, []⟩])
  (.seq (.seq (.region [⟨(some 50), (.mv (.t 13)), none, 0, []⟩, ⟨(some 51), (.bin .eql (.t 50) (.c (.i .i64 2))), none, 1, []⟩])
  (.cond (.t 51) (.seq (.region [⟨(some 52), (.mv (.t 7)), none, 0, []⟩, ⟨(some 53), (.mv (.t 52)), none, 1, []⟩, ⟨(some 54), (.mv (.t 14)), (some (53, true)), 2, []⟩, ⟨(some 55), (.bin .eql (.t 54) (.c (.i .i64 2))), (some (53, true)), 3, []⟩, ⟨(some 56), (.pick (.t 53) (.t 55) (.c (.b false))), none, 4, []⟩, ⟨(some 57), (.mv (.t 56)), none, 5, []⟩, ⟨(some 58), (.mv (.t 10)), (some (57, true)), 6, []⟩, ⟨(some 59), (.unx .not (.t 58)), (some (57, true)), 7, []⟩, ⟨(some 60), (.pick (.t 57) (.t 59) (.c (.b false))), none, 8, []⟩, ⟨(some 61), (.mv (.t 60)), none, 9, []⟩, ⟨(some 62), (.mv (.t 8)), (some (61, true)), 10, []⟩, ⟨(some 63), (.mv (.t 2)), (some (61, true)), 11, []⟩, ⟨(some 64), (.call (.c (.fn (.func 12) [] [])) [(.t 62), (.t 63)]), (some (61, true)), 12, []⟩, ⟨(some 65), (.unx .not (.t 64)), (some (61, true)), 13, []⟩, ⟨(some 66), (.pick (.t 61) (.t 65) (.c (.b false))), none, 14, []⟩, ⟨(some 67), (.mv (.t 66)), none, 15, []⟩, ⟨(some 68), (.mv (.t 8)), (some (67, true)), 16, []⟩, ⟨(some 69), (.call (.c (.fn (.func 13) [] [])) [(.t 68)]), (some (67, true)), 17, []⟩, ⟨(some 70), (.mv (.t 11)), (some (67, true)), 18, []⟩, ⟨(some 71), (.bin .eql (.t 69) (.t 70)), (some (67, true)), 19, []⟩, ⟨(some 72), (.pick (.t 67) (.t 71) (.c (.b false))), none, 20, []⟩, ⟨(some 73), (.mv (.t 72)), none, 21, []⟩, ⟨(some 74), (.mv (.t 8)), (some (73, true)), 22, []⟩, ⟨(some 75), (.call (.c (.fn (.func 14) [] [])) [(.t 74)]), (some (73, true)), 23, []⟩, ⟨(some 76), (.mv (.t 12)), (some (73, true)), 24, []⟩, ⟨(some 77), (.bin .eql (.t 75) (.t 76)), (some (73, true)), 25, []⟩, ⟨(some 78), (.pick (.t 73) (.t 77) (.c (.b false))), none, 26, []⟩, ⟨(some 79), (.mv (.t 78)), none, 27, []⟩, ⟨(some 80), (.mv (.t 11)), (some (79, true)), 28, []⟩, ⟨(some 81), (.mv (.t 2)), (some (79, true)), 29, []⟩, ⟨(some 82), (.call (.c (.fn (.func 17) [] [])) [(.t 80), (.t 81)]), (some (79, true)), 30, []⟩, ⟨(some 83), (.bin .gtr (.t 82) (.c (.i .u32 1024))), (some (79, true)), 31, []⟩, ⟨(some 84), (.pick (.t 79) (.t 83) (.c (.b false))), none, 32, []⟩, ⟨(some 6), (.mv (.t 84)), none, 33, []⟩])
  .ret) .skip))
  (.seq (.region [⟨(some 85), (.mv (.t 7)), none, 0, []⟩, ⟨(some 86), (.mv (.t 85)), none, 1, []⟩, ⟨(some 87), (.mv (.t 13)), (some (86, true)), 2, []⟩, ⟨(some 88), (.bin .eql (.t 87) (.c (.i .i64 1))), (some (86, true)), 3, []⟩, ⟨(some 89), (.mv (.t 10)), (some (86, true)), 4, []⟩, ⟨(some 90), (.beq false (.t 88) (.t 89)), (some (86, true)), 5, []⟩, ⟨(some 91), (.pick (.t 86) (.t 90) (.c (.b false))), none, 6, []⟩, ⟨(some 92), (.mv (.t 91)), none, 7, []⟩, ⟨(some 93), (.mv (.t 14)), (some (92, true)), 8, []⟩, ⟨(some 94), (.bin .eql (.t 93) (.c (.i .i64 1))), (some (92, true)), 9, []⟩, ⟨(some 95), (.pick (.t 92) (.t 94) (.c (.b false))), none, 10, []⟩, ⟨(some 96), (.mv (.t 95)), none, 11, []⟩, ⟨(some 97), (.mv (.t 8)), (some (96, true)), 12, []⟩, ⟨(some 98), (.mv (.t 2)), (some (96, true)), 13, []⟩, ⟨(some 99), (.call (.c (.fn (.func 12) [] [])) [(.t 97), (.t 98)]), (some (96, true)), 14, []⟩, ⟨(some 100), (.pick (.t 96) (.t 99) (.c (.b false))), none, 15, []⟩, ⟨(some 6), (.mv (.t 100)), none, 16, []⟩])
  .ret))))))))))))
def x4 : XFun := ⟨x4b, [(.t 6)]⟩
theorem x4_ok : compF Try.prog 4 = some x4 := by kernel_rfl
/-- bollard/bollardlaw10.GapsPlays (103) -/
def x5b : XC := (.seq (.region [⟨(some 4), (.mv (.c (.b false))), none, 0, []⟩])
  (.seq (.region [⟨(some 10), (.call (.c (.fn (.func 9) [] [])) []), none, 0, []⟩, ⟨(some 5), (.mv (.t 10)), none, 1, []⟩])
  (.seq (.seq (.region [⟨(some 11), (.mv (.t 1)), none, 0, []⟩, ⟨(some 12), (.lenx (.t 11)), none, 1, []⟩, ⟨(some 13), (.bin .gtr (.t 12) (.c (.i .i64 100))), none, 2, []⟩])
  (.cond (.t 13) (.seq (.region [⟨(some 14), (.mv (.t 5)), none, 0, []⟩, ⟨(some 4), (.mv (.t 14)), none, 1, []⟩])
  .ret) .skip))
  (.seq (.region [⟨(some 15), (.mv (.t 0)), none, 0, []⟩, ⟨(some 16), (.call (.c (.fn (.func 10) [] [])) [(.t 15)]), none, 1, []⟩, ⟨(some 6), (.mv (.t 16)), none, 2, []⟩])
  (.seq (.region [⟨(some 17), (.mv (.t 0)), none, 0, []⟩, ⟨(some 18), (.call (.c (.fn (.func 18) [] [])) [(.t 17)]), none, 1, []⟩, ⟨(some 7), (.mv (.t 18)), none, 2, []⟩])
  (.seq (.seq (.region [⟨(some 8), (.mv (.c (.i .i64 0))), none, 0, []⟩])
  (.block 0 (.loop (.seq (.seq (.region [⟨(some 19), (.mv (.t 8)), none, 0, []⟩, ⟨(some 20), (.mv (.t 1)), none, 1, []⟩, ⟨(some 21), (.lenx (.t 20)), none, 2, []⟩, ⟨(some 22), (.bin .lss (.t 19) (.t 21)), none, 3, []⟩])
  (.cond (.t 22) .skip (.exit 0)))
  (.seq (.block 1 (.seq (.region [⟨(some 25), (.mv (.t 0)), none, 0, []⟩, ⟨(some 26), (.mv (.t 1)), none, 1, []⟩, ⟨(some 27), (.mv (.t 8)), none, 2, []⟩, ⟨(some 28), (.isl 2 (.t 26) (.t 27)), none, 3, []⟩, ⟨(some 29), (.fadd 1 (.t 28)), none, 4, []⟩, ⟨(some 30), (.load false 1 (.t 29)), none, 5, []⟩, ⟨(some 31), (.bin .add (.t 25) (.t 30)), none, 6, []⟩, ⟨(some 9), (.mv (.t 31)), none, 7, []⟩])
  (.seq (.seq (.region [⟨(some 32), (.mv (.t 1)), none, 0, []⟩, ⟨(some 33), (.mv (.t 8)), none, 1, []⟩, ⟨(some 34), (.isl 2 (.t 32) (.t 33)), none, 2, []⟩, ⟨(some 35), (.fadd 0 (.t 34)), none, 3, []⟩, ⟨(some 36), (.load false 1 (.t 35)), none, 4, []⟩])
  (.block 2 (.seq (.region [⟨(some 44), (.bin .eql (.t 36) (.c (.i .i64 0))), none, 0, []⟩, ⟨(some 43), (.mv (.t 44)), none, 1, []⟩])
  (.cond (.t 43) (.seq (.region [⟨(some 45), (.mv (.t 6)), none, 0, []⟩, ⟨(some 46), (.mv (.t 9)), none, 1, []⟩, ⟨(some 47), (.call (.c (.fn (.func 11) [] [])) [(.t 45), (.t 46)]), none, 2, []⟩, ⟨(some 48), (.mv (.t 7)), none, 3, []⟩, ⟨(some 49), (.mv (.t 9)), none, 4, []⟩, ⟨(some 50), (.call (.c (.fn (.func 19) [] [])) [(.t 48), (.t 49)]), none, 5, []⟩, ⟨(some 51), (.bin .neq (.t 47) (.t 50)), none, 6, []⟩])
  (.cond (.t 51) (.seq (.region [⟨(some 4), (.mv (.c (.b false))), none, 0, []⟩])
  .ret) .skip)) (.seq (.region [⟨(some 53), (.bin .eql (.t 36) (.c (.i .i64 1))), none, 0, []⟩, ⟨(some 52), (.mv (.t 53)), none, 1, []⟩])
  (.cond (.t 52) (.seq (.region [⟨(some 54), (.mv (.t 6)), none, 0, []⟩, ⟨(some 55), (.mv (.t 9)), none, 1, []⟩, ⟨(some 56), (.call (.c (.fn (.func 20) [] [])) [(.t 54), (.t 55)]), none, 2, []⟩])
  (.region [⟨(some 57), (.mv (.t 7)), none, 0, []⟩, ⟨(some 58), (.mv (.t 9)), none, 1, []⟩, ⟨(some 59), (.call (.c (.fn (.func 21) [] [])) [(.t 57), (.t 58)]), none, 2, []⟩])) (.seq (.region [⟨(some 37), (.mv (.t 6)), none, 0, []⟩, ⟨(some 38), (.call (.c (.fn (.func 16) [] [])) [(.t 37)]), none, 1, []⟩, ⟨(some 39), (.mv (.t 7)), none, 2, []⟩, ⟨(some 40), (.call (.c (.fn (.func 23) [] [])) [(.t 39)]), none, 3, []⟩, ⟨(some 41), (.call (.c (.fn (.func 22) [] [])) [(.t 38), (.t 40)]), none, 4, []⟩, ⟨(some 42), (.unx .not (.t 41)), none, 5, []⟩])
  (.cond (.t 42) (.seq (.region [⟨(some 4), (.mv (.c (.b false))), none, 0, []⟩])
  .ret) .skip))))))))
  (.seq (.draw [⟨(some 60), (.mv (.t 6)), none, 0, []⟩, ⟨(some 62), (.mv (.t 7)), none, 2, []⟩, ⟨(some 63), (.nilc (.t 62)), none, 3, [2]⟩, ⟨(some 64), (.fadd 0 (.t 63)), none, 4, [2, 3]⟩, ⟨(some 65), (.load false 1 (.t 64)), none, 5, [2, 3, 4]⟩, ⟨(some 61), (.call (.c (.fn (.func 13) [] [])) [(.t 60)]), none, 1, [0]⟩, ⟨(some 66), (.bin .neq (.t 61) (.t 65)), none, 6, [0, 1, 2, 3, 4, 5]⟩, ⟨(some 67), (.mv (.t 66)), none, 7, [0, 1, 2, 3, 4, 5, 6]⟩, ⟨(some 68), (.mv (.t 6)), (some (67, false)), 8, [0, 1, 2, 3, 4, 5, 6, 7]⟩, ⟨(some 70), (.mv (.t 7)), (some (67, false)), 10, [0, 1, 2, 3, 4, 5, 6, 7]⟩, ⟨(some 69), (.call (.c (.fn (.func 14) [] [])) [(.t 68)]), (some (67, false)), 9, [0, 1, 2, 3, 4, 5, 6, 7, 8]⟩, ⟨(some 71), (.call (.c (.fn (.func 24) [] [])) [(.t 70)]), (some (67, false)), 11, [0, 1, 2, 3, 4, 5, 6, 7, 8, 9, 10]⟩, ⟨(some 72), (.bin .neq (.t 69) (.t 71)), (some (67, false)), 12, [0, 1, 2, 3, 4, 5, 6, 7, 8, 9, 10, 11]⟩, ⟨(some 73), (.pick (.t 67) (.c (.b true)) (.t 72)), none, 13, [0, 1, 2, 3, 4, 5, 6, 7, 8, 9, 10, 11, 12]⟩, ⟨(some 74), (.mv (.t 73)), none, 14, [0, 1, 2, 3, 4, 5, 6, 7, 8, 9, 10, 11, 12, 13]⟩, ⟨(some 75), (.mv (.t 6)), (some (74, false)), 15, [0, 1, 2, 3, 4, 5, 6, 7, 8, 9, 10, 11, 12, 13, 14]⟩, ⟨(some 77), (.mv (.t 7)), (some (74, false)), 17, [0, 1, 2, 3, 4, 5, 6, 7, 8, 9, 10, 11, 12, 13, 14]⟩, ⟨(some 76), (.call (.c (.fn (.func 15) [] [])) [(.t 75)]), (some (74, false)), 16, [0, 1, 2, 3, 4, 5, 6, 7, 8, 9, 10, 11, 12, 13, 14, 15]⟩, ⟨(some 78), (.call (.c (.fn (.func 26) [] [])) [(.t 77)]), (some (74, false)), 18, [0, 1, 2, 3, 4, 5, 6, 7, 8, 9, 10, 11, 12, 13, 14, 15, 16, 17]⟩, ⟨(some 79), (.call (.c (.fn (.func 25) [] [])) [(.t 76), (.t 78)]), (some (74, false)), 19, [0, 1, 2, 3, 4, 5, 6, 7, 8, 9, 10, 11, 12, 13, 14, 15, 16, 17, 18]⟩, ⟨(some 80), (.unx .not (.t 79)), (some (74, false)), 20, [0, 1, 2, 3, 4, 5, 6, 7, 8, 9, 10, 11, 12, 13, 14, 15, 16, 17, 18, 19]⟩, ⟨(some 81), (.pick (.t 74) (.c (.b true)) (.t 80)), none, 21, [0, 1, 2, 3, 4, 5, 6, 7, 8, 9, 10, 11, 12, 13, 14, 15, 16, 17, 18, 19, 20]⟩, ⟨(some 82), (.mv (.t 81)), none, 22, [0, 1, 2, 3, 4, 5, 6, 7, 8, 9, 10, 11, 12, 13, 14, 15, 16, 17, 18, 19, 20, 21]⟩, ⟨(some 83), (.mv (.t 6)), (some (82, false)), 23, [0, 1, 2, 3, 4, 5, 6, 7, 8, 9, 10, 11, 12, 13, 14, 15, 16, 17, 18, 19, 20, 21, 22]⟩, ⟨(some 84), (.mv (.t 9)), (some (82, false)), 24, [0, 1, 2, 3, 4, 5, 6, 7, 8, 9, 10, 11, 12, 13, 14, 15, 16, 17, 18, 19, 20, 21, 22]⟩, ⟨(some 86), (.mv (.t 7)), (some (82, false)), 26, [0, 1, 2, 3, 4, 5, 6, 7, 8, 9, 10, 11, 12, 13, 14, 15, 16, 17, 18, 19, 20, 21, 22]⟩, ⟨(some 87), (.mv (.t 9)), (some (82, false)), 27, [0, 1, 2, 3, 4, 5, 6, 7, 8, 9, 10, 11, 12, 13, 14, 15, 16, 17, 18, 19, 20, 21, 22]⟩, ⟨(some 85), (.call (.c (.fn (.func 12) [] [])) [(.t 83), (.t 84)]), (some (82, false)), 25, [0, 1, 2, 3, 4, 5, 6, 7, 8, 9, 10, 11, 12, 13, 14, 15, 16, 17, 18, 19, 20, 21, 22, 23, 24]⟩, ⟨(some 88), (.call (.c (.fn (.func 27) [] [])) [(.t 86), (.t 87)]), (some (82, false)), 28, [0, 1, 2, 3, 4, 5, 6, 7, 8, 9, 10, 11, 12, 13, 14, 15, 16, 17, 18, 19, 20, 21, 22, 23, 24, 25, 26, 27]⟩, ⟨(some 89), (.beq true (.t 85) (.t 88)), (some (82, false)), 29, [0, 1, 2, 3, 4, 5, 6, 7, 8, 9, 10, 11, 12, 13, 14, 15, 16, 17, 18, 19, 20, 21, 22, 23, 24, 25, 26, 27, 28]⟩, ⟨(some 90), (.pick (.t 82) (.c (.b true)) (.t 89)), none, 30, [0, 1, 2, 3, 4, 5, 6, 7, 8, 9, 10, 11, 12, 13, 14, 15, 16, 17, 18, 19, 20, 21, 22, 23, 24, 25, 26, 27, 28, 29]⟩, ⟨(some 91), (.mv (.t 90)), none, 31, [0, 1, 2, 3, 4, 5, 6, 7, 8, 9, 10, 11, 12, 13, 14, 15, 16, 17, 18, 19, 20, 21, 22, 23, 24, 25, 26, 27, 28, 29, 30]⟩, ⟨(some 92), (.mv (.t 6)), (some (91, false)), 32, [0, 1, 2, 3, 4, 5, 6, 7, 8, 9, 10, 11, 12, 13, 14, 15, 16, 17, 18, 19, 20, 21, 22, 23, 24, 25, 26, 27, 28, 29, 30, 31]⟩, ⟨(some 93), (.mv (.t 9)), (some (91, false)), 33, [0, 1, 2, 3, 4, 5, 6, 7, 8, 9, 10, 11, 12, 13, 14, 15, 16, 17, 18, 19, 20, 21, 22, 23, 24, 25, 26, 27, 28, 29, 30, 31]⟩, ⟨(some 94), (.bin .add (.t 93) (.c (.i .u32 1))), (some (91, false)), 34, [0, 1, 2, 3, 4, 5, 6, 7, 8, 9, 10, 11, 12, 13, 14, 15, 16, 17, 18, 19, 20, 21, 22, 23, 24, 25, 26, 27, 28, 29, 30, 31, 33]⟩, ⟨(some 96), (.mv (.t 7)), (some (91, false)), 36, [0, 1, 2, 3, 4, 5, 6, 7, 8, 9, 10, 11, 12, 13, 14, 15, 16, 17, 18, 19, 20, 21, 22, 23, 24, 25, 26, 27, 28, 29, 30, 31]⟩, ⟨(some 97), (.mv (.t 9)), (some (91, false)), 37, [0, 1, 2, 3, 4, 5, 6, 7, 8, 9, 10, 11, 12, 13, 14, 15, 16, 17, 18, 19, 20, 21, 22, 23, 24, 25, 26, 27, 28, 29, 30, 31]⟩, ⟨(some 98), (.bin .add (.t 97) (.c (.i .u32 1))), (some (91, false)), 38, [0, 1, 2, 3, 4, 5, 6, 7, 8, 9, 10, 11, 12, 13, 14, 15, 16, 17, 18, 19, 20, 21, 22, 23, 24, 25, 26, 27, 28, 29, 30, 31, 37]⟩, ⟨(some 95), (.call (.c (.fn (.func 12) [] [])) [(.t 92), (.t 94)]), (some (91, false)), 35, [0, 1, 2, 3, 4, 5, 6, 7, 8, 9, 10, 11, 12, 13, 14, 15, 16, 17, 18, 19, 20, 21, 22, 23, 24, 25, 26, 27, 28, 29, 30, 31, 32, 33, 34]⟩, ⟨(some 99), (.call (.c (.fn (.func 27) [] [])) [(.t 96), (.t 98)]), (some (91, false)), 39, [0, 1, 2, 3, 4, 5, 6, 7, 8, 9, 10, 11, 12, 13, 14, 15, 16, 17, 18, 19, 20, 21, 22, 23, 24, 25, 26, 27, 28, 29, 30, 31, 32, 33, 34, 35, 36, 37, 38]⟩, ⟨(some 100), (.beq true (.t 95) (.t 99)), (some (91, false)), 40, [0, 1, 2, 3, 4, 5, 6, 7, 8, 9, 10, 11, 12, 13, 14, 15, 16, 17, 18, 19, 20, 21, 22, 23, 24, 25, 26, 27, 28, 29, 30, 31, 32, 33, 34, 35, 36, 37, 38, 39]⟩, ⟨(some 101), (.pick (.t 91) (.c (.b true)) (.t 100)), none, 41, [0, 1, 2, 3, 4, 5, 6, 7, 8, 9, 10, 11, 12, 13, 14, 15, 16, 17, 18, 19, 20, 21, 22, 23, 24, 25, 26, 27, 28, 29, 30, 31, 32, 33, 34, 35, 36, 37, 38, 39, 40]⟩])
  (.cond (.t 101) (.seq (.region [⟨(some 4), (.mv (.c (.b false))), none, 0, []⟩])
  .ret) .skip)))))
  (.region [⟨(some 23), (.mv (.t 8)), none, 0, []⟩, ⟨(some 24), (.bin .add (.t 23) (.c (.i .i64 1))), none, 1, []⟩, ⟨(some 8), (.mv (.t 24)), none, 2, []⟩]))))))
  (.seq (.region [⟨(some 102), (.mv (.t 5)), none, 0, []⟩, ⟨(some 4), (.mv (.t 102)), none, 1, []⟩])
  .ret)))))))
def x5 : XFun := ⟨x5b, [(.t 4)]⟩
theorem x5_ok : compF Try.prog 5 = some x5 := by kernel_rfl
/-- bollard/bollardlaw10.GapsNone (44) -/
def x6b : XC := (.seq (.region [⟨(some 2), (.mv (.c (.b false))), none, 0, []⟩])
  (.seq (.region [⟨(some 5), (.call (.c (.fn (.func 9) [] [])) []), none, 0, []⟩, ⟨(some 3), (.mv (.t 5)), none, 1, []⟩])
  (.seq (.region [⟨(some 4), (.mv (.c (.p none))), none, 0, []⟩])
  (.seq (.region [⟨(some 6), (.mv (.t 4)), none, 0, []⟩, ⟨(some 7), (.mv (.t 0)), none, 1, []⟩, ⟨(some 8), (.call (.c (.fn (.func 20) [] [])) [(.t 6), (.t 7)]), none, 2, []⟩])
  (.seq (.region [⟨(some 9), (.mv (.t 3)), none, 0, []⟩, ⟨(some 10), (.mv (.t 9)), none, 1, []⟩, ⟨(some 11), (.mv (.t 4)), (some (10, true)), 2, []⟩, ⟨(some 12), (.mv (.t 0)), (some (10, true)), 3, []⟩, ⟨(some 13), (.call (.c (.fn (.func 11) [] [])) [(.t 11), (.t 12)]), (some (10, true)), 4, []⟩, ⟨(some 14), (.bin .eql (.t 13) (.c (.i .i64 2))), (some (10, true)), 5, []⟩, ⟨(some 15), (.pick (.t 10) (.t 14) (.c (.b false))), none, 6, []⟩, ⟨(some 16), (.mv (.t 15)), none, 7, []⟩, ⟨(some 17), (.mv (.t 4)), (some (16, true)), 8, []⟩, ⟨(some 18), (.mv (.t 0)), (some (16, true)), 9, []⟩, ⟨(some 19), (.call (.c (.fn (.func 12) [] [])) [(.t 17), (.t 18)]), (some (16, true)), 10, []⟩, ⟨(some 20), (.unx .not (.t 19)), (some (16, true)), 11, []⟩, ⟨(some 21), (.pick (.t 16) (.t 20) (.c (.b false))), none, 12, []⟩, ⟨(some 22), (.mv (.t 21)), none, 13, []⟩, ⟨(some 23), (.mv (.t 4)), (some (22, true)), 14, []⟩, ⟨(some 24), (.call (.c (.fn (.func 13) [] [])) [(.t 23)]), (some (22, true)), 15, []⟩, ⟨(some 25), (.bin .eql (.t 24) (.c (.i .u32 0))), (some (22, true)), 16, []⟩, ⟨(some 26), (.pick (.t 22) (.t 25) (.c (.b false))), none, 17, []⟩, ⟨(some 27), (.mv (.t 26)), none, 18, []⟩, ⟨(some 28), (.mv (.t 4)), (some (27, true)), 19, []⟩, ⟨(some 29), (.call (.c (.fn (.func 15) [] [])) [(.t 28)]), (some (27, true)), 20, []⟩, ⟨(some 30), (.lenx (.t 29)), (some (27, true)), 21, []⟩, ⟨(some 31), (.bin .eql (.t 30) (.c (.i .i64 0))), (some (27, true)), 22, []⟩, ⟨(some 32), (.pick (.t 27) (.t 31) (.c (.b false))), none, 23, []⟩, ⟨(some 33), (.mv (.t 32)), none, 24, []⟩, ⟨(some 34), (.mv (.t 4)), (some (33, true)), 25, []⟩, ⟨(some 35), (.call (.c (.fn (.func 16) [] [])) [(.t 34)]), (some (33, true)), 26, []⟩, ⟨(some 36), (.lenx (.t 35)), (some (33, true)), 27, []⟩, ⟨(some 37), (.bin .eql (.t 36) (.c (.i .i64 0))), (some (33, true)), 28, []⟩, ⟨(some 38), (.pick (.t 33) (.t 37) (.c (.b false))), none, 29, []⟩, ⟨(some 39), (.mv (.t 38)), none, 30, []⟩, ⟨(some 40), (.mv (.t 4)), (some (39, true)), 31, []⟩, ⟨(some 41), (.call (.c (.fn (.func 14) [] [])) [(.t 40)]), (some (39, true)), 32, []⟩, ⟨(some 42), (.bin .eql (.t 41) (.c (.i .i64 0))), (some (39, true)), 33, []⟩, ⟨(some 43), (.pick (.t 39) (.t 42) (.c (.b false))), none, 34, []⟩, ⟨(some 2), (.mv (.t 43)), none, 35, []⟩])
  .ret)))))
def x6 : XFun := ⟨x6b, [(.t 2)]⟩
theorem x6_ok : compF Try.prog 6 = some x6 := by kernel_rfl
/-- bollard/bollardlaw10.GapsForward (86) -/
def x7b : XC := (.seq (.region [⟨(some 8), (.mv (.c (.b false))), none, 0, []⟩])
  (.seq (.region [⟨(some 16), (.call (.c (.fn (.func 9) [] [])) []), none, 0, []⟩, ⟨(some 9), (.mv (.t 16)), none, 1, []⟩])
  (.seq (.seq (.region [⟨(some 17), (.mv (.t 1)), none, 0, []⟩, ⟨(some 18), (.lenx (.t 17)), none, 1, []⟩, ⟨(some 19), (.bin .gtr (.t 18) (.c (.i .i64 100))), none, 2, []⟩])
  (.cond (.t 19) (.seq (.region [⟨(some 20), (.mv (.t 9)), none, 0, []⟩, ⟨(some 8), (.mv (.t 20)), none, 1, []⟩])
  .ret) .skip))
  (.seq (.region [⟨(some 21), (.mv (.t 0)), none, 0, []⟩, ⟨(some 22), (.call (.c (.fn (.func 10) [] [])) [(.t 21)]), none, 1, []⟩, ⟨(some 10), (.mv (.t 22)), none, 2, []⟩])
  (.seq (.seq (.region [⟨(some 11), (.mv (.c (.i .i64 0))), none, 0, []⟩])
  (.block 0 (.loop (.seq (.seq (.region [⟨(some 23), (.mv (.t 11)), none, 0, []⟩, ⟨(some 24), (.mv (.t 1)), none, 1, []⟩, ⟨(some 25), (.lenx (.t 24)), none, 2, []⟩, ⟨(some 26), (.bin .lss (.t 23) (.t 25)), none, 3, []⟩])
  (.cond (.t 26) .skip (.exit 0)))
  (.seq (.block 1 (.region [⟨(some 29), (.mv (.t 10)), none, 0, []⟩, ⟨(some 30), (.mv (.t 0)), none, 1, []⟩, ⟨(some 31), (.mv (.t 1)), none, 2, []⟩, ⟨(some 32), (.mv (.t 11)), none, 3, []⟩, ⟨(some 33), (.isl 2 (.t 31) (.t 32)), none, 4, []⟩, ⟨(some 34), (.fadd 1 (.t 33)), none, 5, []⟩, ⟨(some 35), (.load false 1 (.t 34)), none, 6, []⟩, ⟨(some 36), (.bin .add (.t 30) (.t 35)), none, 7, []⟩, ⟨(some 37), (.call (.c (.fn (.func 11) [] [])) [(.t 29), (.t 36)]), none, 8, []⟩]))
  (.region [⟨(some 27), (.mv (.t 11)), none, 0, []⟩, ⟨(some 28), (.bin .add (.t 27) (.c (.i .i64 1))), none, 1, []⟩, ⟨(some 11), (.mv (.t 28)), none, 2, []⟩]))))))
  (.seq (.region [⟨(some 38), (.mv (.t 10)), none, 0, []⟩, ⟨(some 39), (.call (.c (.fn (.func 13) [] [])) [(.t 38)]), none, 1, []⟩, ⟨(some 12), (.mv (.t 39)), none, 2, []⟩])
  (.seq (.region [⟨(some 40), (.mv (.t 2)), none, 0, []⟩, ⟨(some 41), (.bin .and (.t 40) (.c (.i .u32 1073741823))), none, 1, []⟩, ⟨(some 13), (.mv (.t 41)), none, 2, []⟩])
  (.seq (.region [⟨(some 42), (.mv (.t 12)), none, 0, []⟩, ⟨(some 43), (.mv (.t 3)), none, 1, []⟩, ⟨(some 44), (.bin .and (.t 43) (.c (.i .u32 1073741823))), none, 2, []⟩, ⟨(some 45), (.bin .add (.t 42) (.t 44)), none, 3, []⟩, ⟨(some 14), (.mv (.t 45)), none, 4, []⟩])
  (.seq (.region [⟨(some 46), (.mv (.t 10)), none, 0, []⟩, ⟨(some 47), (.mv (.t 14)), none, 1, []⟩, ⟨(some 48), (.call (.c (.fn (.func 12) [] [])) [(.t 46), (.t 47)]), none, 2, []⟩, ⟨(some 15), (.mv (.t 48)), none, 3, []⟩])
  (.seq (.region [⟨(some 49), (.mv (.t 10)), none, 0, []⟩, ⟨(some 50), (.mv (.t 12)), none, 1, []⟩, ⟨(some 51), (.mv (.t 13)), none, 2, []⟩, ⟨(some 52), (.bin .add (.t 50) (.t 51)), none, 3, []⟩, ⟨(some 53), (.call (.c (.fn (.func 20) [] [])) [(.t 49), (.t 52)]), none, 4, []⟩])
  (.seq (.region [⟨(some 54), (.mv (.t 9)), none, 0, []⟩, ⟨(some 55), (.mv (.t 54)), none, 1, []⟩, ⟨(some 56), (.mv (.t 10)), (some (55, true)), 2, []⟩, ⟨(some 57), (.mv (.t 12)), (some (55, true)), 3, []⟩, ⟨(some 58), (.mv (.t 13)), (some (55, true)), 4, []⟩, ⟨(some 59), (.bin .add (.t 57) (.t 58)), (some (55, true)), 5, []⟩, ⟨(some 60), (.call (.c (.fn (.func 12) [] [])) [(.t 56), (.t 59)]), (some (55, true)), 6, []⟩, ⟨(some 61), (.pick (.t 55) (.t 60) (.c (.b false))), none, 7, []⟩, ⟨(some 62), (.mv (.t 61)), none, 8, []⟩, ⟨(some 63), (.mv (.t 12)), (some (62, true)), 9, []⟩, ⟨(some 64), (.mv (.t 10)), (some (62, true)), 10, []⟩, ⟨(some 65), (.call (.c (.fn (.func 13) [] [])) [(.t 64)]), (some (62, true)), 11, []⟩, ⟨(some 66), (.call (.c (.fn (.func 17) [] [])) [(.t 63), (.t 65)]), (some (62, true)), 12, []⟩, ⟨(some 67), (.mv (.t 13)), (some (62, true)), 13, []⟩, ⟨(some 68), (.bin .geq (.t 66) (.t 67)), (some (62, true)), 14, []⟩, ⟨(some 69), (.pick (.t 62) (.t 68) (.c (.b false))), none, 15, []⟩, ⟨(some 70), (.mv (.t 69)), none, 16, []⟩, ⟨(some 71), (.mv (.t 15)), (some (70, true)), 17, []⟩, ⟨(some 72), (.unx .not (.t 71)), (some (70, true)), 18, []⟩, ⟨(some 73), (.mv (.t 72)), (some (70, true)), 19, []⟩, ⟨(some 74), (.mv (.t 10)), (some (73, false)), 20, []⟩, ⟨(some 75), (.mv (.t 14)), (some (73, false)), 21, []⟩, ⟨(some 76), (.call (.c (.fn (.func 12) [] [])) [(.t 74), (.t 75)]), (some (73, false)), 22, []⟩, ⟨(some 77), (.pick (.t 73) (.c (.b true)) (.t 76)), (some (70, true)), 23, []⟩, ⟨(some 78), (.pick (.t 70) (.t 77) (.c (.b false))), none, 24, []⟩, ⟨(some 79), (.mv (.t 78)), none, 25, []⟩, ⟨(some 80), (.mv (.t 10)), (some (79, true)), 26, []⟩, ⟨(some 81), (.call (.c (.fn (.func 14) [] [])) [(.t 80)]), (some (79, true)), 27, []⟩, ⟨(some 82), (.mv (.t 1)), (some (79, true)), 28, []⟩, ⟨(some 83), (.lenx (.t 82)), (some (79, true)), 29, []⟩, ⟨(some 84), (.bin .leq (.t 81) (.t 83)), (some (79, true)), 30, []⟩, ⟨(some 85), (.pick (.t 79) (.t 84) (.c (.b false))), none, 31, []⟩, ⟨(some 8), (.mv (.t 85)), none, 32, []⟩])
  .ret)))))))))))
def x7 : XFun := ⟨x7b, [(.t 8)]⟩
theorem x7_ok : compF Try.prog 7 = some x7 := by kernel_rfl
/-- bollard/bollardlaw10.GapsFloor (92) -/
def x8b : XC := (.seq (.region [⟨(some 4), (.mv (.c (.b false))), none, 0, []⟩])
  (.seq (.region [⟨(some 12), (.call (.c (.fn (.func 9) [] [])) []), none, 0, []⟩, ⟨(some 5), (.mv (.t 12)), none, 1, []⟩])
  (.seq (.seq (.region [⟨(some 13), (.mv (.t 1)), none, 0, []⟩, ⟨(some 14), (.lenx (.t 13)), none, 1, []⟩, ⟨(some 15), (.bin .gtr (.t 14) (.c (.i .i64 200))), none, 2, []⟩])
  (.cond (.t 15) (.seq (.region [⟨(some 16), (.mv (.t 5)), none, 0, []⟩, ⟨(some 4), (.mv (.t 16)), none, 1, []⟩])
  .ret) .skip))
  (.seq (.region [⟨(some 17), (.mv (.t 0)), none, 0, []⟩, ⟨(some 18), (.call (.c (.fn (.func 10) [] [])) [(.t 17)]), none, 1, []⟩, ⟨(some 6), (.mv (.t 18)), none, 2, []⟩])
  (.seq (.seq (.region [⟨(some 7), (.mv (.c (.i .i64 0))), none, 0, []⟩])
  (.block 0 (.loop (.seq (.seq (.region [⟨(some 19), (.mv (.t 7)), none, 0, []⟩, ⟨(some 20), (.mv (.t 1)), none, 1, []⟩, ⟨(some 21), (.lenx (.t 20)), none, 2, []⟩, ⟨(some 22), (.bin .lss (.t 19) (.t 21)), none, 3, []⟩])
  (.cond (.t 22) .skip (.exit 0)))
  (.seq (.block 1 (.seq (.region [⟨(some 25), (.mv (.t 6)), none, 0, []⟩, ⟨(some 26), (.call (.c (.fn (.func 13) [] [])) [(.t 25)]), none, 1, []⟩, ⟨(some 8), (.mv (.t 26)), none, 2, []⟩])
  (.seq (.seq (.region [⟨(some 27), (.mv (.t 1)), none, 0, []⟩, ⟨(some 28), (.mv (.t 7)), none, 1, []⟩, ⟨(some 29), (.isl 2 (.t 27) (.t 28)), none, 2, []⟩, ⟨(some 30), (.fadd 0 (.t 29)), none, 3, []⟩, ⟨(some 31), (.load false 1 (.t 30)), none, 4, []⟩, ⟨(some 32), (.bin .eql (.t 31) (.c (.i .i64 1))), none, 5, []⟩])
  (.cond (.t 32) (.region [⟨(some 33), (.mv (.t 6)), none, 0, []⟩, ⟨(some 34), (.mv (.t 0)), none, 1, []⟩, ⟨(some 35), (.mv (.t 1)), none, 2, []⟩, ⟨(some 36), (.mv (.t 7)), none, 3, []⟩, ⟨(some 37), (.isl 2 (.t 35) (.t 36)), none, 4, []⟩, ⟨(some 38), (.fadd 1 (.t 37)), none, 5, []⟩, ⟨(some 39), (.load false 1 (.t 38)), none, 6, []⟩, ⟨(some 40), (.bin .add (.t 34) (.t 39)), none, 7, []⟩, ⟨(some 41), (.call (.c (.fn (.func 20) [] [])) [(.t 33), (.t 40)]), none, 8, []⟩]) (.region [⟨(some 42), (.mv (.t 6)), none, 0, []⟩, ⟨(some 43), (.mv (.t 0)), none, 1, []⟩, ⟨(some 44), (.mv (.t 1)), none, 2, []⟩, ⟨(some 45), (.mv (.t 7)), none, 3, []⟩, ⟨(some 46), (.isl 2 (.t 44) (.t 45)), none, 4, []⟩, ⟨(some 47), (.fadd 1 (.t 46)), none, 5, []⟩, ⟨(some 48), (.load false 1 (.t 47)), none, 6, []⟩, ⟨(some 49), (.bin .add (.t 43) (.t 48)), none, 7, []⟩, ⟨(some 50), (.call (.c (.fn (.func 11) [] [])) [(.t 42), (.t 49)]), none, 8, []⟩])))
  (.seq (.seq (.region [⟨(some 51), (.mv (.t 6)), none, 0, []⟩, ⟨(some 52), (.call (.c (.fn (.func 13) [] [])) [(.t 51)]), none, 1, []⟩, ⟨(some 53), (.mv (.t 8)), none, 2, []⟩, ⟨(some 54), (.call (.c (.fn (.func 28) [] [])) [(.t 52), (.t 53)]), none, 3, []⟩])
  (.cond (.t 54) (.seq (.region [⟨(some 4), (.mv (.c (.b false))), none, 0, []⟩])
  .ret) .skip))
  (.seq (.region [⟨(some 55), (.mv (.t 6)), none, 0, []⟩, ⟨(some 56), (.call (.c (.fn (.func 15) [] [])) [(.t 55)]), none, 1, []⟩, ⟨(some 9), (.mv (.t 56)), none, 2, []⟩])
  (.seq (.region [⟨(some 10), (.mv (.c (.i .i64 0))), none, 0, []⟩])
  (.seq (.region [⟨(some 11), (.mv (.c (.i .i64 0))), none, 0, []⟩])
  (.block 2 (.loop (.seq (.seq (.region [⟨(some 57), (.mv (.t 11)), none, 0, []⟩, ⟨(some 58), (.mv (.t 9)), none, 1, []⟩, ⟨(some 59), (.lenx (.t 58)), none, 2, []⟩, ⟨(some 60), (.bin .lss (.t 57) (.t 59)), none, 3, []⟩])
  (.cond (.t 60) .skip (.exit 2)))
  (.seq (.block 3 (.seq (.seq (.draw [⟨(some 63), (.mv (.t 9)), none, 0, []⟩, ⟨(some 64), (.mv (.t 11)), none, 1, []⟩, ⟨(some 65), (.isl 2 (.t 63) (.t 64)), none, 2, [0, 1]⟩, ⟨(some 66), (.fadd 0 (.t 65)), none, 3, [0, 1, 2]⟩, ⟨(some 69), (.mv (.t 10)), none, 6, []⟩, ⟨(some 70), (.bin .add (.t 69) (.c (.i .i64 2))), none, 7, [6]⟩, ⟨(some 67), (.load false 1 (.t 66)), none, 4, [0, 1, 2, 3]⟩, ⟨(some 68), (.cint .i64 (.t 67)), none, 5, [0, 1, 2, 3, 4]⟩, ⟨(some 71), (.bin .lss (.t 68) (.t 70)), none, 8, [0, 1, 2, 3, 4, 5, 6, 7]⟩, ⟨(some 72), (.mv (.t 71)), none, 9, [0, 1, 2, 3, 4, 5, 6, 7, 8]⟩, ⟨(some 73), (.mv (.t 9)), (some (72, false)), 10, [0, 1, 2, 3, 4, 5, 6, 7, 8, 9]⟩, ⟨(some 74), (.mv (.t 11)), (some (72, false)), 11, [0, 1, 2, 3, 4, 5, 6, 7, 8, 9]⟩, ⟨(some 75), (.isl 2 (.t 73) (.t 74)), (some (72, false)), 12, [0, 1, 2, 3, 4, 5, 6, 7, 8, 9, 10, 11]⟩, ⟨(some 76), (.fadd 1 (.t 75)), (some (72, false)), 13, [0, 1, 2, 3, 4, 5, 6, 7, 8, 9, 10, 11, 12]⟩, ⟨(some 78), (.mv (.t 9)), (some (72, false)), 15, [0, 1, 2, 3, 4, 5, 6, 7, 8, 9]⟩, ⟨(some 79), (.mv (.t 11)), (some (72, false)), 16, [0, 1, 2, 3, 4, 5, 6, 7, 8, 9]⟩, ⟨(some 80), (.isl 2 (.t 78) (.t 79)), (some (72, false)), 17, [0, 1, 2, 3, 4, 5, 6, 7, 8, 9, 15, 16]⟩, ⟨(some 81), (.fadd 0 (.t 80)), (some (72, false)), 18, [0, 1, 2, 3, 4, 5, 6, 7, 8, 9, 15, 16, 17]⟩, ⟨(some 77), (.load false 1 (.t 76)), (some (72, false)), 14, [0, 1, 2, 3, 4, 5, 6, 7, 8, 9, 10, 11, 12, 13]⟩, ⟨(some 82), (.load false 1 (.t 81)), (some (72, false)), 19, [0, 1, 2, 3, 4, 5, 6, 7, 8, 9, 15, 16, 17, 18]⟩, ⟨(some 83), (.bin .lss (.t 77) (.t 82)), (some (72, false)), 20, [0, 1, 2, 3, 4, 5, 6, 7, 8, 9, 10, 11, 12, 13, 14, 15, 16, 17, 18, 19]⟩, ⟨(some 84), (.pick (.t 72) (.c (.b true)) (.t 83)), none, 21, [0, 1, 2, 3, 4, 5, 6, 7, 8, 9, 10, 11, 12, 13, 14, 15, 16, 17, 18, 19, 20]⟩])
  (.cond (.t 84) (.seq (.region [⟨(some 4), (.mv (.c (.b false))), none, 0, []⟩])
  .ret) .skip))
  (.region [⟨(some 85), (.mv (.t 9)), none, 0, []⟩, ⟨(some 86), (.mv (.t 11)), none, 1, []⟩, ⟨(some 87), (.isl 2 (.t 85) (.t 86)), none, 2, []⟩, ⟨(some 88), (.fadd 1 (.t 87)), none, 3, []⟩, ⟨(some 89), (.load false 1 (.t 88)), none, 4, []⟩, ⟨(some 90), (.cint .i64 (.t 89)), none, 5, []⟩, ⟨(some 10), (.mv (.t 90)), none, 6, []⟩])))
  (.region [⟨(some 61), (.mv (.t 11)), none, 0, []⟩, ⟨(some 62), (.bin .add (.t 61) (.c (.i .i64 1))), none, 1, []⟩, ⟨(some 11), (.mv (.t 62)), none, 2, []⟩]))))))))))))
  (.region [⟨(some 23), (.mv (.t 7)), none, 0, []⟩, ⟨(some 24), (.bin .add (.t 23) (.c (.i .i64 1))), none, 1, []⟩, ⟨(some 7), (.mv (.t 24)), none, 2, []⟩]))))))
  (.seq (.region [⟨(some 91), (.mv (.t 5)), none, 0, []⟩, ⟨(some 4), (.mv (.t 91)), none, 1, []⟩])
  .ret))))))
def x8 : XFun := ⟨x8b, [(.t 4)]⟩
theorem x8_ok : compF Try.prog 8 = some x8 := by kernel_rfl
/-- bollard/bollardlaw10.awake (66) -/
def x9b : XC := (.seq (.region [⟨(some 0), (.mv (.c (.b false))), none, 0, []⟩])
  (.seq (.region [⟨(some 6), (.call (.c (.fn (.func 10) [] [])) [(.c (.i .u32 10))]), none, 0, []⟩, ⟨(some 1), (.mv (.t 6)), none, 1, []⟩])
  (.seq (.region [⟨(some 7), (.mv (.t 1)), none, 0, []⟩, ⟨(some 8), (.call (.c (.fn (.func 11) [] [])) [(.t 7), (.c (.i .u32 12))]), none, 1, []⟩, ⟨(some 2), (.mv (.t 8)), none, 2, []⟩])
  (.seq (.region [⟨(some 9), (.mv (.t 1)), none, 0, []⟩, ⟨(some 10), (.call (.c (.fn (.func 11) [] [])) [(.t 9), (.c (.i .u32 13))]), none, 1, []⟩, ⟨(some 3), (.mv (.t 10)), none, 2, []⟩])
  (.seq (.region [⟨(some 11), (.mv (.t 1)), none, 0, []⟩, ⟨(some 12), (.call (.c (.fn (.func 11) [] [])) [(.t 11), (.c (.i .u32 10))]), none, 1, []⟩, ⟨(some 4), (.mv (.t 12)), none, 2, []⟩])
  (.seq (.region [⟨(some 13), (.mv (.t 1)), none, 0, []⟩, ⟨(some 14), (.call (.c (.fn (.func 15) [] [])) [(.t 13)]), none, 1, []⟩, ⟨(some 5), (.mv (.t 14)), none, 2, []⟩])
  (.seq (.region [⟨(some 15), (.mv (.t 1)), none, 0, []⟩, ⟨(some 16), (.nilq 0 true (.t 15)), none, 1, []⟩, ⟨(some 17), (.mv (.t 16)), none, 2, []⟩, ⟨(some 18), (.mv (.t 2)), (some (17, true)), 3, []⟩, ⟨(some 19), (.bin .eql (.t 18) (.c (.i .i64 0))), (some (17, true)), 4, []⟩, ⟨(some 20), (.pick (.t 17) (.t 19) (.c (.b false))), none, 5, []⟩, ⟨(some 21), (.mv (.t 20)), none, 6, []⟩, ⟨(some 22), (.mv (.t 3)), (some (21, true)), 7, []⟩, ⟨(some 23), (.bin .eql (.t 22) (.c (.i .i64 0))), (some (21, true)), 8, []⟩, ⟨(some 24), (.pick (.t 21) (.t 23) (.c (.b false))), none, 9, []⟩, ⟨(some 25), (.mv (.t 24)), none, 10, []⟩, ⟨(some 26), (.mv (.t 4)), (some (25, true)), 11, []⟩, ⟨(some 27), (.bin .eql (.t 26) (.c (.i .i64 0))), (some (25, true)), 12, []⟩, ⟨(some 28), (.pick (.t 25) (.t 27) (.c (.b false))), none, 13, []⟩, ⟨(some 29), (.mv (.t 28)), none, 14, []⟩, ⟨(some 30), (.mv (.t 1)), (some (29, true)), 15, []⟩, ⟨(some 31), (.call (.c (.fn (.func 13) [] [])) [(.t 30)]), (some (29, true)), 16, []⟩, ⟨(some 32), (.bin .eql (.t 31) (.c (.i .u32 10))), (some (29, true)), 17, []⟩, ⟨(some 33), (.pick (.t 29) (.t 32) (.c (.b false))), none, 18, []⟩, ⟨(some 34), (.mv (.t 33)), none, 19, []⟩, ⟨(some 35), (.mv (.t 5)), (some (34, true)), 20, []⟩, ⟨(some 36), (.build [(.i .u16 0), (.i .u16 0)] [(0, 1, (.c (.i .u16 2))), (1, 1, (.c (.i .u16 3)))]), (some (34, true)), 21, []⟩, ⟨(some 37), (.bslice [(.i .u16 0), (.i .u16 0)] [(0, 2, (.t 36))] 1), (some (34, true)), 22, []⟩, ⟨(some 38), (.call (.c (.fn (.func 25) [] [])) [(.t 35), (.t 37)]), (some (34, true)), 23, []⟩, ⟨(some 39), (.pick (.t 34) (.t 38) (.c (.b false))), none, 24, []⟩, ⟨(some 40), (.mv (.t 39)), none, 25, []⟩, ⟨(some 41), (.mv (.t 1)), (some (40, true)), 26, []⟩, ⟨(some 42), (.call (.c (.fn (.func 11) [] [])) [(.t 41), (.c (.i .u32 11))]), (some (40, true)), 27, []⟩, ⟨(some 43), (.bin .eql (.t 42) (.c (.i .i64 0))), (some (40, true)), 28, []⟩, ⟨(some 44), (.pick (.t 40) (.t 43) (.c (.b false))), none, 29, []⟩, ⟨(some 45), (.mv (.t 44)), none, 30, []⟩, ⟨(some 46), (.mv (.t 1)), (some (45, true)), 31, []⟩, ⟨(some 47), (.call (.c (.fn (.func 13) [] [])) [(.t 46)]), (some (45, true)), 32, []⟩, ⟨(some 48), (.bin .eql (.t 47) (.c (.i .u32 13))), (some (45, true)), 33, []⟩, ⟨(some 49), (.pick (.t 45) (.t 48) (.c (.b false))), none, 34, []⟩, ⟨(some 50), (.mv (.t 49)), none, 35, []⟩, ⟨(some 51), (.mv (.t 1)), (some (50, true)), 36, []⟩, ⟨(some 52), (.call (.c (.fn (.func 11) [] [])) [(.t 51), (.c (.i .u32 12))]), (some (50, true)), 37, []⟩, ⟨(some 53), (.bin .eql (.t 52) (.c (.i .i64 1))), (some (50, true)), 38, []⟩, ⟨(some 54), (.pick (.t 50) (.t 53) (.c (.b false))), none, 39, []⟩, ⟨(some 55), (.mv (.t 54)), none, 40, []⟩, ⟨(some 56), (.mv (.t 1)), (some (55, true)), 41, []⟩, ⟨(some 57), (.call (.c (.fn (.func 16) [] [])) [(.t 56)]), (some (55, true)), 42, []⟩, ⟨(some 58), (.bslice [(.i .u32 0)] [(0, 1, (.c (.i .u32 12)))] 1), (some (55, true)), 43, []⟩, ⟨(some 59), (.call (.c (.fn (.func 22) [] [])) [(.t 57), (.t 58)]), (some (55, true)), 44, []⟩, ⟨(some 60), (.pick (.t 55) (.t 59) (.c (.b false))), none, 45, []⟩, ⟨(some 61), (.mv (.t 60)), none, 46, []⟩, ⟨(some 62), (.mv (.t 1)), (some (61, true)), 47, []⟩, ⟨(some 63), (.call (.c (.fn (.func 14) [] [])) [(.t 62)]), (some (61, true)), 48, []⟩, ⟨(some 64), (.bin .eql (.t 63) (.c (.i .i64 0))), (some (61, true)), 49, []⟩, ⟨(some 65), (.pick (.t 61) (.t 64) (.c (.b false))), none, 50, []⟩, ⟨(some 0), (.mv (.t 65)), none, 51, []⟩])
  .ret)))))))
def x9 : XFun := ⟨x9b, [(.t 0)]⟩
theorem x9_ok : compF Try.prog 9 = some x9 := by kernel_rfl
/-- bollard/gaps.New (8) -/
def x10b : XC := (.seq (.region [⟨(some 2), (.mv (.c (.p none))), none, 0, []⟩])
  (.seq (.region [⟨(some 3), (.mv (.t 0)), none, 0, []⟩, ⟨(some 4), (.bin .sub (.t 3) (.c (.i .u32 1))), none, 1, []⟩, ⟨(some 5), .mkmap, none, 2, []⟩, ⟨(some 6), (.build [(.i .u32 0), (.m none), (.sl none 0 0 0)] [(0, 1, (.t 4)), (1, 1, (.t 5))]), none, 3, []⟩, ⟨(some 7), (.box (.t 6)), none, 4, []⟩, ⟨(some 2), (.mv (.t 7)), none, 5, []⟩])
  .ret))
def x10 : XFun := ⟨x10b, [(.t 2)]⟩
theorem x10_ok : compF Try.prog 10 = some x10 := by kernel_rfl
/-- (*bollard/gaps.Set).Add (43) -/
def x11b : XC := (.seq (.region [⟨(some 4), (.mv (.c (.i .i64 0))), none, 0, []⟩])
  (.seq (.block 0 (.seq (.region [⟨(some 6), (.mv (.t 0)), none, 0, []⟩, ⟨(some 7), (.nilq 0 false (.t 6)), none, 1, []⟩, ⟨(some 5), (.mv (.t 7)), none, 2, []⟩])
  (.cond (.t 5) (.seq (.region [⟨(some 4), (.mv (.c (.i .i64 2))), none, 0, []⟩])
  .ret) (.seq (.region [⟨(some 9), (.mv (.t 0)), none, 0, []⟩, ⟨(some 10), (.mv (.t 1)), none, 1, []⟩, ⟨(some 11), (.call (.c (.fn (.func 12) [] [])) [(.t 9), (.t 10)]), none, 2, []⟩, ⟨(some 8), (.mv (.t 11)), none, 3, []⟩])
  (.cond (.t 8) (.seq (.seq (.region [⟨(some 12), (.mv (.t 0)), none, 0, []⟩, ⟨(some 13), (.nilc (.t 12)), none, 1, []⟩, ⟨(some 14), (.fadd 2 (.t 13)), none, 2, []⟩, ⟨(some 15), (.load false 1 (.t 14)), none, 3, []⟩, ⟨(some 16), (.lenx (.t 15)), none, 4, []⟩, ⟨(some 17), (.bin .lss (.t 16) (.c (.i .i64 64))), none, 5, []⟩])
  (.cond (.t 17) (.region [⟨(some 18), (.mv (.t 0)), none, 0, []⟩, ⟨(some 19), (.mv (.t 0)), none, 1, []⟩, ⟨(some 20), (.nilc (.t 19)), none, 2, []⟩, ⟨(some 21), (.fadd 2 (.t 20)), none, 3, []⟩, ⟨(some 22), (.load false 1 (.t 21)), none, 4, []⟩, ⟨(some 23), (.mv (.t 1)), none, 5, []⟩, ⟨(some 24), (.bslice [(.i .u32 0)] [(0, 1, (.t 23))] 1), none, 6, []⟩, ⟨(some 25), (.append 1 4 (.t 22) (.t 24)), none, 7, []⟩, ⟨(some 26), (.nilc (.t 18)), none, 8, []⟩, ⟨(some 27), (.fadd 2 (.t 26)), none, 9, []⟩, ⟨none, (.store 1 (.t 27) (.t 25)), none, 10, []⟩]) .skip))
  (.seq (.region [⟨(some 4), (.mv (.c (.i .i64 1))), none, 0, []⟩])
  .ret)) (.seq (.region [⟨(some 29), (.mv (.t 0)), none, 0, []⟩, ⟨(some 30), (.nilc (.t 29)), none, 1, []⟩, ⟨(some 31), (.fadd 0 (.t 30)), none, 2, []⟩, ⟨(some 32), (.load false 1 (.t 31)), none, 3, []⟩, ⟨(some 33), (.mv (.t 1)), none, 4, []⟩, ⟨(some 34), (.call (.c (.fn (.func 17) [] [])) [(.t 32), (.t 33)]), none, 5, []⟩, ⟨(some 35), (.bin .gtr (.t 34) (.c (.i .u32 1024))), none, 6, []⟩, ⟨(some 28), (.mv (.t 35)), none, 7, []⟩])
  (.cond (.t 28) (.seq (.region [⟨(some 4), (.mv (.c (.i .i64 2))), none, 0, []⟩])
  .ret) .skip)))))))
  (.seq (.region [⟨(some 36), (.mv (.t 0)), none, 0, []⟩, ⟨(some 37), (.nilc (.t 36)), none, 1, []⟩, ⟨(some 38), (.fadd 1 (.t 37)), none, 2, []⟩, ⟨(some 39), (.load false 1 (.t 38)), none, 3, []⟩, ⟨(some 40), (.mv (.t 1)), none, 4, []⟩, ⟨none, (.mput 0 (.t 39) (.t 40) (.c (.b true))), none, 5, []⟩])
  (.seq (.region [⟨(some 41), (.mv (.t 0)), none, 0, []⟩, ⟨(some 42), (.call (.c (.fn (.func 29) [] [])) [(.t 41)]), none, 1, []⟩])
  (.seq (.region [⟨(some 4), (.mv (.c (.i .i64 0))), none, 0, []⟩])
  .ret)))))
def x11 : XFun := ⟨x11b, [(.t 4)]⟩
theorem x11_ok : compF Try.prog 11 = some x11 := by kernel_rfl
/-- (*bollard/gaps.Set).Has (20) -/
def x12b : XC := (.seq (.region [⟨(some 4), (.mv (.c (.b false))), none, 0, []⟩])
  (.seq (.region [⟨(some 5), (.mv (.t 0)), none, 0, []⟩, ⟨(some 6), (.nilq 0 true (.t 5)), none, 1, []⟩, ⟨(some 7), (.mv (.t 6)), none, 2, []⟩, ⟨(some 8), (.mv (.t 0)), (some (7, true)), 3, []⟩, ⟨(some 9), (.mv (.t 1)), (some (7, true)), 4, []⟩, ⟨(some 10), (.call (.c (.fn (.func 30) [] [])) [(.t 8), (.t 9)]), (some (7, true)), 5, []⟩, ⟨(some 11), (.mv (.t 10)), (some (7, true)), 6, []⟩, ⟨(some 12), (.mv (.t 0)), (some (11, false)), 7, []⟩, ⟨(some 13), (.nilc (.t 12)), (some (11, false)), 8, []⟩, ⟨(some 14), (.fadd 1 (.t 13)), (some (11, false)), 9, []⟩, ⟨(some 15), (.load false 1 (.t 14)), (some (11, false)), 10, []⟩, ⟨(some 16), (.mv (.t 1)), (some (11, false)), 11, []⟩, ⟨(some 17), (.lookup 0 (.b false) (.t 15) (.t 16) false), (some (11, false)), 12, []⟩, ⟨(some 18), (.pick (.t 11) (.c (.b true)) (.t 17)), (some (7, true)), 13, []⟩, ⟨(some 19), (.pick (.t 7) (.t 18) (.c (.b false))), none, 14, []⟩, ⟨(some 4), (.mv (.t 19)), none, 15, []⟩])
  .ret))
def x12 : XFun := ⟨x12b, [(.t 4)]⟩
theorem x12_ok : compF Try.prog 12 = some x12 := by kernel_rfl
/-- (*bollard/gaps.Set).Cum (9) -/
def x13b : XC := (.seq (.region [⟨(some 2), (.mv (.c (.i .u32 0))), none, 0, []⟩])
  (.seq (.seq (.region [⟨(some 3), (.mv (.t 0)), none, 0, []⟩, ⟨(some 4), (.nilq 0 false (.t 3)), none, 1, []⟩])
  (.cond (.t 4) (.seq (.region [⟨(some 2), (.mv (.c (.i .u32 0))), none, 0, []⟩])
  .ret) .skip))
  (.seq (.region [⟨(some 5), (.mv (.t 0)), none, 0, []⟩, ⟨(some 6), (.nilc (.t 5)), none, 1, []⟩, ⟨(some 7), (.fadd 0 (.t 6)), none, 2, []⟩, ⟨(some 8), (.load false 1 (.t 7)), none, 3, []⟩, ⟨(some 2), (.mv (.t 8)), none, 4, []⟩])
  .ret)))
def x13 : XFun := ⟨x13b, [(.t 2)]⟩
theorem x13_ok : compF Try.prog 13 = some x13 := by kernel_rfl
/-- (*bollard/gaps.Set).Len (10) -/
def x14b : XC := (.seq (.region [⟨(some 2), (.mv (.c (.i .i64 0))), none, 0, []⟩])
  (.seq (.seq (.region [⟨(some 3), (.mv (.t 0)), none, 0, []⟩, ⟨(some 4), (.nilq 0 false (.t 3)), none, 1, []⟩])
  (.cond (.t 4) (.seq (.region [⟨(some 2), (.mv (.c (.i .i64 0))), none, 0, []⟩])
  .ret) .skip))
  (.seq (.region [⟨(some 5), (.mv (.t 0)), none, 0, []⟩, ⟨(some 6), (.nilc (.t 5)), none, 1, []⟩, ⟨(some 7), (.fadd 1 (.t 6)), none, 2, []⟩, ⟨(some 8), (.load false 1 (.t 7)), none, 3, []⟩, ⟨(some 9), (.lenm (.t 8)), none, 4, []⟩, ⟨(some 2), (.mv (.t 9)), none, 5, []⟩])
  .ret)))
def x14 : XFun := ⟨x14b, [(.t 2)]⟩
theorem x14_ok : compF Try.prog 14 = some x14 := by kernel_rfl
/-- (*bollard/gaps.Set).Blocks (75) -/
def x15b : XC := (.seq (.region [⟨(some 2), (.mv (.c (.sl none 0 0 0))), none, 0, []⟩])
  (.seq (.seq (.region [⟨(some 9), (.mv (.t 0)), none, 0, []⟩, ⟨(some 10), (.nilq 0 false (.t 9)), none, 1, []⟩])
  (.cond (.t 10) (.seq (.region [⟨(some 2), (.mv (.c (.sl none 0 0 0))), none, 0, []⟩])
  .ret) .skip))
  (.seq (.region [⟨(some 3), (.mv (.c (.sl none 0 0 0))), none, 0, []⟩])
  (.seq (.seq (.region [⟨(some 11), (.mv (.t 0)), none, 0, []⟩, ⟨(some 12), (.nilc (.t 11)), none, 1, []⟩, ⟨(some 13), (.fadd 1 (.t 12)), none, 2, []⟩, ⟨(some 14), (.load false 1 (.t 13)), none, 3, []⟩, ⟨(some 15), .bad, none, 4, []⟩])
  (.block 0 (.loop (.seq (.region [⟨(some 16), .bad, none, 0, []⟩, ⟨(some 17), (.ext (.t 16) 0), none, 1, []⟩])
  (.seq (.cond (.t 17) .skip (.exit 0))
  (.block 1 (.seq (.region [⟨(some 18), .bad, none, 0, []⟩, ⟨(some 19), (.ext (.t 18) 0), none, 1, []⟩, ⟨(some 4), (.mv (.t 19)), none, 2, []⟩])
  (.region [⟨(some 20), (.mv (.t 3)), none, 0, []⟩, ⟨(some 21), (.mv (.t 0)), none, 1, []⟩, ⟨(some 22), (.nilc (.t 21)), none, 2, []⟩, ⟨(some 23), (.fadd 0 (.t 22)), none, 3, []⟩, ⟨(some 24), (.load false 1 (.t 23)), none, 4, []⟩, ⟨(some 25), (.mv (.t 4)), none, 5, []⟩, ⟨(some 26), (.call (.c (.fn (.func 17) [] [])) [(.t 24), (.t 25)]), none, 6, []⟩, ⟨(some 27), (.bslice [(.i .u32 0)] [(0, 1, (.t 26))] 1), none, 7, []⟩, ⟨(some 28), (.append 1 4 (.t 20) (.t 27)), none, 8, []⟩, ⟨(some 3), (.mv (.t 28)), none, 9, []⟩]))))))))
  (.seq (.region [⟨(some 29), (.mv (.t 3)), none, 0, []⟩, ⟨(some 30), (.call (.c (.fn (.func 31) [] [])) [(.t 29)]), none, 1, []⟩])
  (.seq (.region [⟨(some 5), (.mv (.c (.sl none 0 0 0))), none, 0, []⟩])
  (.seq (.seq (.region [⟨(some 31), (.mv (.t 3)), none, 0, []⟩, ⟨(some 32), (.lenx (.t 31)), none, 1, []⟩, ⟨(some 33), (.mv (.c (.i .i64 0))), none, 2, []⟩])
  (.block 2 (.loop (.seq (.region [⟨(some 34), (.bin .lss (.t 33) (.t 32)), none, 0, []⟩])
  (.seq (.cond (.t 34) .skip (.exit 2))
  (.seq (.block 3 (.seq (.region [⟨(some 35), (.isl 1 (.t 31) (.t 33)), none, 0, []⟩, ⟨(some 36), (.load false 1 (.t 35)), none, 1, []⟩, ⟨(some 7), (.mv (.t 36)), none, 2, []⟩])
  (.seq (.seq (.region [⟨(some 37), (.mv (.t 5)), none, 0, []⟩, ⟨(some 38), (.lenx (.t 37)), none, 1, []⟩, ⟨(some 39), (.bin .sub (.t 38) (.c (.i .i64 1))), none, 2, []⟩, ⟨(some 8), (.mv (.t 39)), none, 3, []⟩])
  (.seq (.region [⟨(some 40), (.mv (.t 8)), none, 0, []⟩, ⟨(some 41), (.bin .geq (.t 40) (.c (.i .i64 0))), none, 1, []⟩, ⟨(some 42), (.mv (.t 41)), none, 2, []⟩, ⟨(some 43), (.mv (.t 5)), (some (42, true)), 3, []⟩, ⟨(some 44), (.mv (.t 8)), (some (42, true)), 4, []⟩, ⟨(some 45), (.isl 2 (.t 43) (.t 44)), (some (42, true)), 5, []⟩, ⟨(some 46), (.fadd 1 (.t 45)), (some (42, true)), 6, []⟩, ⟨(some 47), (.load false 1 (.t 46)), (some (42, true)), 7, []⟩, ⟨(some 48), (.cint .u32 (.t 47)), (some (42, true)), 8, []⟩, ⟨(some 49), (.bin .add (.t 48) (.c (.i .u32 1))), (some (42, true)), 9, []⟩, ⟨(some 50), (.mv (.t 7)), (some (42, true)), 10, []⟩, ⟨(some 51), (.bin .eql (.t 49) (.t 50)), (some (42, true)), 11, []⟩, ⟨(some 52), (.pick (.t 42) (.t 51) (.c (.b false))), none, 12, []⟩])
  (.cond (.t 52) (.seq (.region [⟨(some 53), (.mv (.t 5)), none, 0, []⟩, ⟨(some 54), (.mv (.t 8)), none, 1, []⟩, ⟨(some 55), (.isl 2 (.t 53) (.t 54)), none, 2, []⟩, ⟨(some 56), (.fadd 1 (.t 55)), none, 3, []⟩, ⟨(some 57), (.load false 1 (.t 56)), none, 4, []⟩, ⟨(some 58), (.bin .add (.t 57) (.c (.i .u16 1))), none, 5, []⟩, ⟨(some 59), (.isl 2 (.t 53) (.t 54)), none, 6, []⟩, ⟨(some 60), (.fadd 1 (.t 59)), none, 7, []⟩, ⟨none, (.store 1 (.t 60) (.t 58)), none, 8, []⟩])
  (.exit 3)) .skip)))
  (.region [⟨(some 61), (.mv (.t 5)), none, 0, []⟩, ⟨(some 62), (.mv (.t 7)), none, 1, []⟩, ⟨(some 63), (.cint .u16 (.t 62)), none, 2, []⟩, ⟨(some 64), (.mv (.t 7)), none, 3, []⟩, ⟨(some 65), (.cint .u16 (.t 64)), none, 4, []⟩, ⟨(some 66), (.build [(.i .u16 0), (.i .u16 0)] [(0, 1, (.t 63)), (1, 1, (.t 65))]), none, 5, []⟩, ⟨(some 67), (.bslice [(.i .u16 0), (.i .u16 0)] [(0, 2, (.t 66))] 1), none, 6, []⟩, ⟨(some 68), (.append 2 4 (.t 61) (.t 67)), none, 7, []⟩, ⟨(some 5), (.mv (.t 68)), none, 8, []⟩]))))
  (.region [⟨(some 69), (.bin .add (.t 33) (.c (.i .i64 1))), none, 0, []⟩, ⟨(some 33), (.mv (.t 69)), none, 1, []⟩])))))))
  (.seq (.region [⟨(some 70), (.mv (.t 5)), none, 0, []⟩, ⟨(some 71), (.mv (.t 5)), none, 1, []⟩, ⟨(some 72), (.lenx (.t 71)), none, 2, []⟩, ⟨(some 73), (.mnmx false [(.t 72), (.c (.i .i64 64))]), none, 3, []⟩, ⟨(some 74), (.slsl 2 (.t 70) none (some (.t 73)) none), none, 4, []⟩, ⟨(some 2), (.mv (.t 74)), none, 5, []⟩])
  .ret))))))))
def x15 : XFun := ⟨x15b, [(.t 2)]⟩
theorem x15_ok : compF Try.prog 15 = some x15 := by kernel_rfl
/-- (*bollard/gaps.Set).Dups (14) -/
def x16b : XC := (.seq (.region [⟨(some 2), (.mv (.c (.sl none 0 0 0))), none, 0, []⟩])
  (.seq (.seq (.region [⟨(some 4), (.mv (.t 0)), none, 0, []⟩, ⟨(some 5), (.nilq 0 false (.t 4)), none, 1, []⟩])
  (.cond (.t 5) (.seq (.region [⟨(some 2), (.mv (.c (.sl none 0 0 0))), none, 0, []⟩])
  .ret) .skip))
  (.seq (.region [⟨(some 6), (.mv (.t 0)), none, 0, []⟩, ⟨(some 7), (.nilc (.t 6)), none, 1, []⟩, ⟨(some 8), (.fadd 2 (.t 7)), none, 2, []⟩, ⟨(some 9), (.load false 1 (.t 8)), none, 3, []⟩, ⟨(some 3), (.mv (.t 9)), none, 4, []⟩])
  (.seq (.region [⟨(some 10), (.mv (.t 0)), none, 0, []⟩, ⟨(some 11), (.nilc (.t 10)), none, 1, []⟩, ⟨(some 12), (.fadd 2 (.t 11)), none, 2, []⟩, ⟨none, (.store 1 (.t 12) (.c (.sl none 0 0 0))), none, 3, []⟩])
  (.seq (.region [⟨(some 13), (.mv (.t 3)), none, 0, []⟩, ⟨(some 2), (.mv (.t 13)), none, 1, []⟩])
  .ret)))))
def x16 : XFun := ⟨x16b, [(.t 2)]⟩
theorem x16_ok : compF Try.prog 16 = some x16 := by kernel_rfl
/-- bollard/serial.Dist (8) -/
def x17b : XC := (.seq (.region [⟨(some 4), (.mv (.c (.i .u32 0))), none, 0, []⟩])
  (.seq (.region [⟨(some 5), (.mv (.t 1)), none, 0, []⟩, ⟨(some 6), (.mv (.t 0)), none, 1, []⟩, ⟨(some 7), (.bin .sub (.t 5) (.t 6)), none, 2, []⟩, ⟨(some 4), (.mv (.t 7)), none, 3, []⟩])
  .ret))
def x17 : XFun := ⟨x17b, [(.t 4)]⟩
theorem x17_ok : compF Try.prog 17 = some x17 := by kernel_rfl
/-- bollard/bollardref10.New (8) -/
def x18b : XC := (.seq (.region [⟨(some 2), (.mv (.c (.p none))), none, 0, []⟩])
  (.seq (.region [⟨(some 3), (.mv (.t 0)), none, 0, []⟩, ⟨(some 4), (.bin .sub (.t 3) (.c (.i .u32 1))), none, 1, []⟩, ⟨(some 5), (.mkslice [(.b false)] 1 (.c (.i .i64 1024)) (.c (.i .i64 1024))), none, 2, []⟩, ⟨(some 6), (.build [(.i .u32 0), (.sl none 0 0 0), (.sl none 0 0 0)] [(0, 1, (.t 4)), (1, 1, (.t 5))]), none, 3, []⟩, ⟨(some 7), (.box (.t 6)), none, 4, []⟩, ⟨(some 2), (.mv (.t 7)), none, 5, []⟩])
  .ret))
def x18 : XFun := ⟨x18b, [(.t 2)]⟩
theorem x18_ok : compF Try.prog 18 = some x18 := by kernel_rfl
/-- (*bollard/bollardref10.Set).Add (43) -/
def x19b : XC := (.seq (.region [⟨(some 4), (.mv (.c (.i .i64 0))), none, 0, []⟩])
  (.seq (.seq (.region [⟨(some 6), (.mv (.t 0)), none, 0, []⟩, ⟨(some 7), (.mv (.t 1)), none, 1, []⟩, ⟨(some 8), (.call (.c (.fn (.func 27) [] [])) [(.t 6), (.t 7)]), none, 2, []⟩])
  (.cond (.t 8) (.seq (.seq (.region [⟨(some 9), (.mv (.t 0)), none, 0, []⟩, ⟨(some 10), (.nilc (.t 9)), none, 1, []⟩, ⟨(some 11), (.fadd 2 (.t 10)), none, 2, []⟩, ⟨(some 12), (.load false 1 (.t 11)), none, 3, []⟩, ⟨(some 13), (.lenx (.t 12)), none, 4, []⟩, ⟨(some 14), (.bin .lss (.t 13) (.c (.i .i64 64))), none, 5, []⟩])
  (.cond (.t 14) (.region [⟨(some 15), (.mv (.t 0)), none, 0, []⟩, ⟨(some 16), (.mv (.t 0)), none, 1, []⟩, ⟨(some 17), (.nilc (.t 16)), none, 2, []⟩, ⟨(some 18), (.fadd 2 (.t 17)), none, 3, []⟩, ⟨(some 19), (.load false 1 (.t 18)), none, 4, []⟩, ⟨(some 20), (.mv (.t 1)), none, 5, []⟩, ⟨(some 21), (.bslice [(.i .u32 0)] [(0, 1, (.t 20))] 1), none, 6, []⟩, ⟨(some 22), (.append 1 4 (.t 19) (.t 21)), none, 7, []⟩, ⟨(some 23), (.nilc (.t 15)), none, 8, []⟩, ⟨(some 24), (.fadd 2 (.t 23)), none, 9, []⟩, ⟨none, (.store 1 (.t 24) (.t 22)), none, 10, []⟩]) .skip))
  (.seq (.region [⟨(some 4), (.mv (.c (.i .i64 1))), none, 0, []⟩])
  .ret)) .skip))
  (.seq (.region [⟨(some 25), (.mv (.t 0)), none, 0, []⟩, ⟨(some 26), (.nilc (.t 25)), none, 1, []⟩, ⟨(some 27), (.fadd 0 (.t 26)), none, 2, []⟩, ⟨(some 28), (.load false 1 (.t 27)), none, 3, []⟩, ⟨(some 29), (.mv (.t 1)), none, 4, []⟩, ⟨(some 30), (.call (.c (.fn (.func 32) [] [])) [(.t 28), (.t 29)]), none, 5, []⟩, ⟨(some 31), (.cint .i64 (.t 30)), none, 6, []⟩, ⟨(some 5), (.mv (.t 31)), none, 7, []⟩])
  (.seq (.seq (.region [⟨(some 32), (.mv (.t 5)), none, 0, []⟩, ⟨(some 33), (.bin .gtr (.t 32) (.c (.i .i64 1024))), none, 1, []⟩])
  (.cond (.t 33) (.seq (.region [⟨(some 4), (.mv (.c (.i .i64 2))), none, 0, []⟩])
  .ret) .skip))
  (.seq (.region [⟨(some 34), (.mv (.t 0)), none, 0, []⟩, ⟨(some 35), (.nilc (.t 34)), none, 1, []⟩, ⟨(some 36), (.fadd 1 (.t 35)), none, 2, []⟩, ⟨(some 37), (.load false 1 (.t 36)), none, 3, []⟩, ⟨(some 38), (.mv (.t 5)), none, 4, []⟩, ⟨(some 39), (.bin .sub (.t 38) (.c (.i .i64 1))), none, 5, []⟩, ⟨(some 40), (.isl 1 (.t 37) (.t 39)), none, 6, []⟩, ⟨none, (.store 1 (.t 40) (.c (.b true))), none, 7, []⟩])
  (.seq (.region [⟨(some 41), (.mv (.t 0)), none, 0, []⟩, ⟨(some 42), (.call (.c (.fn (.func 33) [] [])) [(.t 41)]), none, 1, []⟩])
  (.seq (.region [⟨(some 4), (.mv (.c (.i .i64 0))), none, 0, []⟩])
  .ret)))))))
def x19 : XFun := ⟨x19b, [(.t 4)]⟩
theorem x19_ok : compF Try.prog 19 = some x19 := by kernel_rfl
/-- (*bollard/gaps.Set).Forward (23) -/
def x20b : XC := (.seq (.region [⟨(some 2), (.box (.t 0)), none, 0, []⟩])
  (.seq (.seq (.region [⟨(some 4), (.load false 1 (.t 2)), none, 0, []⟩, ⟨(some 5), (.nilq 0 false (.t 4)), none, 1, []⟩, ⟨(some 6), (.mv (.t 5)), none, 2, []⟩, ⟨(some 7), (.load false 1 (.t 2)), (some (6, false)), 3, []⟩, ⟨(some 8), (.mv (.t 1)), (some (6, false)), 4, []⟩, ⟨(some 9), (.call (.c (.fn (.func 30) [] [])) [(.t 7), (.t 8)]), (some (6, false)), 5, []⟩, ⟨(some 10), (.pick (.t 6) (.c (.b true)) (.t 9)), none, 6, []⟩])
  (.cond (.t 10) .ret .skip))
  (.seq (.region [⟨(some 11), (.load false 1 (.t 2)), none, 0, []⟩, ⟨(some 12), (.mv (.t 1)), none, 1, []⟩, ⟨(some 13), (.nilc (.t 11)), none, 2, []⟩, ⟨(some 14), (.fadd 0 (.t 13)), none, 3, []⟩, ⟨none, (.store 1 (.t 14) (.t 12)), none, 4, []⟩])
  (.seq (.region [⟨(some 15), (.load false 1 (.t 2)), none, 0, []⟩, ⟨(some 16), (.nilc (.t 15)), none, 1, []⟩, ⟨(some 17), (.fadd 1 (.t 16)), none, 2, []⟩, ⟨(some 18), (.load false 1 (.t 17)), none, 3, []⟩, ⟨(some 19), (.mkf (.func 35) [] [(.t 2)]), none, 4, []⟩, ⟨(some 20), (.call (.c (.fn (.func 34) [] [])) [(.t 18), (.t 19)]), none, 5, []⟩])
  (.region [⟨(some 21), (.load false 1 (.t 2)), none, 0, []⟩, ⟨(some 22), (.call (.c (.fn (.func 29) [] [])) [(.t 21)]), none, 1, []⟩])))))
def x20 : XFun := ⟨x20b, []⟩
theorem x20_ok : compF Try.prog 20 = some x20 := by kernel_rfl
/-- (*bollard/bollardref10.Set).Forward (48) -/
def x21b : XC := (.seq (.region [⟨(some 7), (.mv (.t 0)), none, 0, []⟩, ⟨(some 8), (.nilc (.t 7)), none, 1, []⟩, ⟨(some 9), (.fadd 0 (.t 8)), none, 2, []⟩, ⟨(some 10), (.load false 1 (.t 9)), none, 3, []⟩, ⟨(some 11), (.mv (.t 1)), none, 4, []⟩, ⟨(some 12), (.call (.c (.fn (.func 32) [] [])) [(.t 10), (.t 11)]), none, 5, []⟩, ⟨(some 13), (.cint .i64 (.t 12)), none, 6, []⟩, ⟨(some 4), (.mv (.t 13)), none, 7, []⟩])
  (.seq (.seq (.region [⟨(some 14), (.mv (.t 4)), none, 0, []⟩, ⟨(some 15), (.bin .eql (.t 14) (.c (.i .i64 0))), none, 1, []⟩, ⟨(some 16), (.mv (.t 15)), none, 2, []⟩, ⟨(some 17), (.mv (.t 4)), (some (16, false)), 3, []⟩, ⟨(some 18), (.bin .geq (.t 17) (.c (.i .i64 2147483648))), (some (16, false)), 4, []⟩, ⟨(some 19), (.pick (.t 16) (.c (.b true)) (.t 18)), none, 5, []⟩])
  (.cond (.t 19) .ret .skip))
  (.seq (.region [⟨(some 20), (.mkslice [(.b false)] 1 (.c (.i .i64 1024)) (.c (.i .i64 1024))), none, 0, []⟩, ⟨(some 5), (.mv (.t 20)), none, 1, []⟩])
  (.seq (.seq (.region [⟨(some 21), (.mv (.t 4)), none, 0, []⟩, ⟨(some 6), (.mv (.t 21)), none, 1, []⟩])
  (.block 0 (.loop (.seq (.seq (.region [⟨(some 22), (.mv (.t 6)), none, 0, []⟩, ⟨(some 23), (.bin .lss (.t 22) (.c (.i .i64 1024))), none, 1, []⟩])
  (.cond (.t 23) .skip (.exit 0)))
  (.seq (.block 1 (.region [⟨(some 26), (.mv (.t 5)), none, 0, []⟩, ⟨(some 27), (.mv (.t 6)), none, 1, []⟩, ⟨(some 28), (.mv (.t 4)), none, 2, []⟩, ⟨(some 29), (.bin .sub (.t 27) (.t 28)), none, 3, []⟩, ⟨(some 30), (.mv (.t 0)), none, 4, []⟩, ⟨(some 31), (.nilc (.t 30)), none, 5, []⟩, ⟨(some 32), (.fadd 1 (.t 31)), none, 6, []⟩, ⟨(some 33), (.load false 1 (.t 32)), none, 7, []⟩, ⟨(some 34), (.mv (.t 6)), none, 8, []⟩, ⟨(some 35), (.isl 1 (.t 33) (.t 34)), none, 9, []⟩, ⟨(some 36), (.load false 1 (.t 35)), none, 10, []⟩, ⟨(some 37), (.isl 1 (.t 26) (.t 29)), none, 11, []⟩, ⟨none, (.store 1 (.t 37) (.t 36)), none, 12, []⟩]))
  (.region [⟨(some 24), (.mv (.t 6)), none, 0, []⟩, ⟨(some 25), (.bin .add (.t 24) (.c (.i .i64 1))), none, 1, []⟩, ⟨(some 6), (.mv (.t 25)), none, 2, []⟩]))))))
  (.seq (.region [⟨(some 38), (.mv (.t 0)), none, 0, []⟩, ⟨(some 39), (.mv (.t 5)), none, 1, []⟩, ⟨(some 40), (.nilc (.t 38)), none, 2, []⟩, ⟨(some 41), (.fadd 1 (.t 40)), none, 3, []⟩, ⟨none, (.store 1 (.t 41) (.t 39)), none, 4, []⟩])
  (.seq (.region [⟨(some 42), (.mv (.t 0)), none, 0, []⟩, ⟨(some 43), (.mv (.t 1)), none, 1, []⟩, ⟨(some 44), (.nilc (.t 42)), none, 2, []⟩, ⟨(some 45), (.fadd 0 (.t 44)), none, 3, []⟩, ⟨none, (.store 1 (.t 45) (.t 43)), none, 4, []⟩])
  (.region [⟨(some 46), (.mv (.t 0)), none, 0, []⟩, ⟨(some 47), (.call (.c (.fn (.func 33) [] [])) [(.t 46)]), none, 1, []⟩])))))))
def x21 : XFun := ⟨x21b, []⟩
theorem x21_ok : compF Try.prog 21 = some x21 := by kernel_rfl
/-- bollard/bollardlaw10.numbers (26) -/
def x22b : XC := (.seq (.region [⟨(some 4), (.mv (.c (.b false))), none, 0, []⟩])
  (.seq (.seq (.region [⟨(some 6), (.mv (.t 0)), none, 0, []⟩, ⟨(some 7), (.lenx (.t 6)), none, 1, []⟩, ⟨(some 8), (.mv (.t 1)), none, 2, []⟩, ⟨(some 9), (.lenx (.t 8)), none, 3, []⟩, ⟨(some 10), (.bin .neq (.t 7) (.t 9)), none, 4, []⟩])
  (.cond (.t 10) (.seq (.region [⟨(some 4), (.mv (.c (.b false))), none, 0, []⟩])
  .ret) .skip))
  (.seq (.seq (.region [⟨(some 5), (.mv (.c (.i .i64 0))), none, 0, []⟩])
  (.block 0 (.loop (.seq (.seq (.region [⟨(some 11), (.mv (.t 5)), none, 0, []⟩, ⟨(some 12), (.mv (.t 0)), none, 1, []⟩, ⟨(some 13), (.lenx (.t 12)), none, 2, []⟩, ⟨(some 14), (.bin .lss (.t 11) (.t 13)), none, 3, []⟩])
  (.cond (.t 14) .skip (.exit 0)))
  (.seq (.block 1 (.seq (.draw [⟨(some 17), (.mv (.t 0)), none, 0, []⟩, ⟨(some 18), (.mv (.t 5)), none, 1, []⟩, ⟨(some 19), (.isl 1 (.t 17) (.t 18)), none, 2, [0, 1]⟩, ⟨(some 21), (.mv (.t 1)), none, 4, []⟩, ⟨(some 22), (.mv (.t 5)), none, 5, []⟩, ⟨(some 23), (.isl 1 (.t 21) (.t 22)), none, 6, [4, 5]⟩, ⟨(some 20), (.load false 1 (.t 19)), none, 3, [0, 1, 2]⟩, ⟨(some 24), (.load false 1 (.t 23)), none, 7, [4, 5, 6]⟩, ⟨(some 25), (.bin .neq (.t 20) (.t 24)), none, 8, [0, 1, 2, 3, 4, 5, 6, 7]⟩])
  (.cond (.t 25) (.seq (.region [⟨(some 4), (.mv (.c (.b false))), none, 0, []⟩])
  .ret) .skip)))
  (.region [⟨(some 15), (.mv (.t 5)), none, 0, []⟩, ⟨(some 16), (.bin .add (.t 15) (.c (.i .i64 1))), none, 1, []⟩, ⟨(some 5), (.mv (.t 16)), none, 2, []⟩]))))))
  (.seq (.region [⟨(some 4), (.mv (.c (.b true))), none, 0, []⟩])
  .ret))))
def x22 : XFun := ⟨x22b, [(.t 4)]⟩
theorem x22_ok : compF Try.prog 22 = some x22 := by kernel_rfl
/-- (*bollard/bollardref10.Set).Dups (12) -/
def x23b : XC := (.seq (.region [⟨(some 2), (.mv (.c (.sl none 0 0 0))), none, 0, []⟩])
  (.seq (.region [⟨(some 4), (.mv (.t 0)), none, 0, []⟩, ⟨(some 5), (.nilc (.t 4)), none, 1, []⟩, ⟨(some 6), (.fadd 2 (.t 5)), none, 2, []⟩, ⟨(some 7), (.load false 1 (.t 6)), none, 3, []⟩, ⟨(some 3), (.mv (.t 7)), none, 4, []⟩])
  (.seq (.region [⟨(some 8), (.mv (.t 0)), none, 0, []⟩, ⟨(some 9), (.nilc (.t 8)), none, 1, []⟩, ⟨(some 10), (.fadd 2 (.t 9)), none, 2, []⟩, ⟨none, (.store 1 (.t 10) (.c (.sl none 0 0 0))), none, 3, []⟩])
  (.seq (.region [⟨(some 11), (.mv (.t 3)), none, 0, []⟩, ⟨(some 2), (.mv (.t 11)), none, 1, []⟩])
  .ret))))
def x23 : XFun := ⟨x23b, [(.t 2)]⟩
theorem x23_ok : compF Try.prog 23 = some x23 := by kernel_rfl
/-- (*bollard/bollardref10.Set).Len (19) -/
def x24b : XC := (.seq (.region [⟨(some 2), (.mv (.c (.i .i64 0))), none, 0, []⟩])
  (.seq (.region [⟨(some 3), (.mv (.c (.i .i64 0))), none, 0, []⟩])
  (.seq (.seq (.region [⟨(some 4), (.mv (.c (.i .i64 0))), none, 0, []⟩])
  (.block 0 (.loop (.seq (.seq (.region [⟨(some 5), (.mv (.t 4)), none, 0, []⟩, ⟨(some 6), (.bin .lss (.t 5) (.c (.i .i64 1024))), none, 1, []⟩])
  (.cond (.t 6) .skip (.exit 0)))
  (.seq (.block 1 (.seq (.region [⟨(some 9), (.mv (.t 0)), none, 0, []⟩, ⟨(some 10), (.nilc (.t 9)), none, 1, []⟩, ⟨(some 11), (.fadd 1 (.t 10)), none, 2, []⟩, ⟨(some 12), (.load false 1 (.t 11)), none, 3, []⟩, ⟨(some 13), (.mv (.t 4)), none, 4, []⟩, ⟨(some 14), (.isl 1 (.t 12) (.t 13)), none, 5, []⟩, ⟨(some 15), (.load false 1 (.t 14)), none, 6, []⟩])
  (.cond (.t 15) (.region [⟨(some 16), (.mv (.t 3)), none, 0, []⟩, ⟨(some 17), (.bin .add (.t 16) (.c (.i .i64 1))), none, 1, []⟩, ⟨(some 3), (.mv (.t 17)), none, 2, []⟩]) .skip)))
  (.region [⟨(some 7), (.mv (.t 4)), none, 0, []⟩, ⟨(some 8), (.bin .add (.t 7) (.c (.i .i64 1))), none, 1, []⟩, ⟨(some 4), (.mv (.t 8)), none, 2, []⟩]))))))
  (.seq (.region [⟨(some 18), (.mv (.t 3)), none, 0, []⟩, ⟨(some 2), (.mv (.t 18)), none, 1, []⟩])
  .ret))))
def x24 : XFun := ⟨x24b, [(.t 2)]⟩
theorem x24_ok : compF Try.prog 24 = some x24 := by kernel_rfl
/-- bollard/bollardlaw10.blocks (41) -/
def x25b : XC := (.seq (.region [⟨(some 4), (.mv (.c (.b false))), none, 0, []⟩])
  (.seq (.seq (.region [⟨(some 6), (.mv (.t 0)), none, 0, []⟩, ⟨(some 7), (.lenx (.t 6)), none, 1, []⟩, ⟨(some 8), (.mv (.t 1)), none, 2, []⟩, ⟨(some 9), (.lenx (.t 8)), none, 3, []⟩, ⟨(some 10), (.bin .neq (.t 7) (.t 9)), none, 4, []⟩])
  (.cond (.t 10) (.seq (.region [⟨(some 4), (.mv (.c (.b false))), none, 0, []⟩])
  .ret) .skip))
  (.seq (.seq (.region [⟨(some 5), (.mv (.c (.i .i64 0))), none, 0, []⟩])
  (.block 0 (.loop (.seq (.seq (.region [⟨(some 11), (.mv (.t 5)), none, 0, []⟩, ⟨(some 12), (.mv (.t 0)), none, 1, []⟩, ⟨(some 13), (.lenx (.t 12)), none, 2, []⟩, ⟨(some 14), (.bin .lss (.t 11) (.t 13)), none, 3, []⟩])
  (.cond (.t 14) .skip (.exit 0)))
  (.seq (.block 1 (.seq (.draw [⟨(some 17), (.mv (.t 0)), none, 0, []⟩, ⟨(some 18), (.mv (.t 5)), none, 1, []⟩, ⟨(some 19), (.isl 2 (.t 17) (.t 18)), none, 2, [0, 1]⟩, ⟨(some 20), (.fadd 0 (.t 19)), none, 3, [0, 1, 2]⟩, ⟨(some 22), (.mv (.t 1)), none, 5, []⟩, ⟨(some 23), (.mv (.t 5)), none, 6, []⟩, ⟨(some 24), (.isl 2 (.t 22) (.t 23)), none, 7, [5, 6]⟩, ⟨(some 25), (.fadd 0 (.t 24)), none, 8, [5, 6, 7]⟩, ⟨(some 21), (.load false 1 (.t 20)), none, 4, [0, 1, 2, 3]⟩, ⟨(some 26), (.load false 1 (.t 25)), none, 9, [5, 6, 7, 8]⟩, ⟨(some 27), (.bin .neq (.t 21) (.t 26)), none, 10, [0, 1, 2, 3, 4, 5, 6, 7, 8, 9]⟩, ⟨(some 28), (.mv (.t 27)), none, 11, [0, 1, 2, 3, 4, 5, 6, 7, 8, 9, 10]⟩, ⟨(some 29), (.mv (.t 0)), (some (28, false)), 12, [0, 1, 2, 3, 4, 5, 6, 7, 8, 9, 10, 11]⟩, ⟨(some 30), (.mv (.t 5)), (some (28, false)), 13, [0, 1, 2, 3, 4, 5, 6, 7, 8, 9, 10, 11]⟩, ⟨(some 31), (.isl 2 (.t 29) (.t 30)), (some (28, false)), 14, [0, 1, 2, 3, 4, 5, 6, 7, 8, 9, 10, 11, 12, 13]⟩, ⟨(some 32), (.fadd 1 (.t 31)), (some (28, false)), 15, [0, 1, 2, 3, 4, 5, 6, 7, 8, 9, 10, 11, 12, 13, 14]⟩, ⟨(some 34), (.mv (.t 1)), (some (28, false)), 17, [0, 1, 2, 3, 4, 5, 6, 7, 8, 9, 10, 11]⟩, ⟨(some 35), (.mv (.t 5)), (some (28, false)), 18, [0, 1, 2, 3, 4, 5, 6, 7, 8, 9, 10, 11]⟩, ⟨(some 36), (.isl 2 (.t 34) (.t 35)), (some (28, false)), 19, [0, 1, 2, 3, 4, 5, 6, 7, 8, 9, 10, 11, 17, 18]⟩, ⟨(some 37), (.fadd 1 (.t 36)), (some (28, false)), 20, [0, 1, 2, 3, 4, 5, 6, 7, 8, 9, 10, 11, 17, 18, 19]⟩, ⟨(some 33), (.load false 1 (.t 32)), (some (28, false)), 16, [0, 1, 2, 3, 4, 5, 6, 7, 8, 9, 10, 11, 12, 13, 14, 15]⟩, ⟨(some 38), (.load false 1 (.t 37)), (some (28, false)), 21, [0, 1, 2, 3, 4, 5, 6, 7, 8, 9, 10, 11, 17, 18, 19, 20]⟩, ⟨(some 39), (.bin .neq (.t 33) (.t 38)), (some (28, false)), 22, [0, 1, 2, 3, 4, 5, 6, 7, 8, 9, 10, 11, 12, 13, 14, 15, 16, 17, 18, 19, 20, 21]⟩, ⟨(some 40), (.pick (.t 28) (.c (.b true)) (.t 39)), none, 23, [0, 1, 2, 3, 4, 5, 6, 7, 8, 9, 10, 11, 12, 13, 14, 15, 16, 17, 18, 19, 20, 21, 22]⟩])
  (.cond (.t 40) (.seq (.region [⟨(some 4), (.mv (.c (.b false))), none, 0, []⟩])
  .ret) .skip)))
  (.region [⟨(some 15), (.mv (.t 5)), none, 0, []⟩, ⟨(some 16), (.bin .add (.t 15) (.c (.i .i64 1))), none, 1, []⟩, ⟨(some 5), (.mv (.t 16)), none, 2, []⟩]))))))
  (.seq (.region [⟨(some 4), (.mv (.c (.b true))), none, 0, []⟩])
  .ret))))
def x25 : XFun := ⟨x25b, [(.t 4)]⟩
theorem x25_ok : compF Try.prog 25 = some x25 := by kernel_rfl
/-- (*bollard/bollardref10.Set).Blocks (51) -/
def x26b : XC := (.seq (.region [⟨(some 2), (.mv (.c (.sl none 0 0 0))), none, 0, []⟩])
  (.seq (.region [⟨(some 3), (.mv (.c (.sl none 0 0 0))), none, 0, []⟩])
  (.seq (.seq (.region [⟨(some 4), (.mv (.c (.i .i64 0))), none, 0, []⟩])
  (.block 0 (.loop (.seq (.seq (.region [⟨(some 6), (.mv (.t 4)), none, 0, []⟩, ⟨(some 7), (.bin .lss (.t 6) (.c (.i .i64 1024))), none, 1, []⟩, ⟨(some 8), (.mv (.t 7)), none, 2, []⟩, ⟨(some 9), (.mv (.t 3)), (some (8, true)), 3, []⟩, ⟨(some 10), (.lenx (.t 9)), (some (8, true)), 4, []⟩, ⟨(some 11), (.bin .lss (.t 10) (.c (.i .i64 64))), (some (8, true)), 5, []⟩, ⟨(some 12), (.pick (.t 8) (.t 11) (.c (.b false))), none, 6, []⟩])
  (.cond (.t 12) .skip (.exit 0)))
  (.seq (.block 1 (.seq (.seq (.region [⟨(some 15), (.mv (.t 0)), none, 0, []⟩, ⟨(some 16), (.nilc (.t 15)), none, 1, []⟩, ⟨(some 17), (.fadd 1 (.t 16)), none, 2, []⟩, ⟨(some 18), (.load false 1 (.t 17)), none, 3, []⟩, ⟨(some 19), (.mv (.t 4)), none, 4, []⟩, ⟨(some 20), (.isl 1 (.t 18) (.t 19)), none, 5, []⟩, ⟨(some 21), (.load false 1 (.t 20)), none, 6, []⟩, ⟨(some 22), (.unx .not (.t 21)), none, 7, []⟩])
  (.cond (.t 22) (.exit 1) .skip))
  (.seq (.region [⟨(some 23), (.mv (.t 4)), none, 0, []⟩, ⟨(some 5), (.mv (.t 23)), none, 1, []⟩])
  (.seq (.block 2 (.loop (.seq (.seq (.region [⟨(some 24), (.mv (.t 5)), none, 0, []⟩, ⟨(some 25), (.bin .add (.t 24) (.c (.i .i64 1))), none, 1, []⟩, ⟨(some 26), (.bin .lss (.t 25) (.c (.i .i64 1024))), none, 2, []⟩, ⟨(some 27), (.mv (.t 26)), none, 3, []⟩, ⟨(some 28), (.mv (.t 0)), (some (27, true)), 4, []⟩, ⟨(some 29), (.nilc (.t 28)), (some (27, true)), 5, []⟩, ⟨(some 30), (.fadd 1 (.t 29)), (some (27, true)), 6, []⟩, ⟨(some 31), (.load false 1 (.t 30)), (some (27, true)), 7, []⟩, ⟨(some 32), (.mv (.t 5)), (some (27, true)), 8, []⟩, ⟨(some 33), (.bin .add (.t 32) (.c (.i .i64 1))), (some (27, true)), 9, []⟩, ⟨(some 34), (.isl 1 (.t 31) (.t 33)), (some (27, true)), 10, []⟩, ⟨(some 35), (.load false 1 (.t 34)), (some (27, true)), 11, []⟩, ⟨(some 36), (.pick (.t 27) (.t 35) (.c (.b false))), none, 12, []⟩])
  (.cond (.t 36) .skip (.exit 2)))
  (.block 3 (.region [⟨(some 37), (.mv (.t 5)), none, 0, []⟩, ⟨(some 38), (.bin .add (.t 37) (.c (.i .i64 1))), none, 1, []⟩, ⟨(some 5), (.mv (.t 38)), none, 2, []⟩])))))
  (.seq (.region [⟨(some 39), (.mv (.t 3)), none, 0, []⟩, ⟨(some 40), (.mv (.t 4)), none, 1, []⟩, ⟨(some 41), (.bin .add (.t 40) (.c (.i .i64 1))), none, 2, []⟩, ⟨(some 42), (.cint .u16 (.t 41)), none, 3, []⟩, ⟨(some 43), (.mv (.t 5)), none, 4, []⟩, ⟨(some 44), (.bin .add (.t 43) (.c (.i .i64 1))), none, 5, []⟩, ⟨(some 45), (.cint .u16 (.t 44)), none, 6, []⟩, ⟨(some 46), (.build [(.i .u16 0), (.i .u16 0)] [(0, 1, (.t 42)), (1, 1, (.t 45))]), none, 7, []⟩, ⟨(some 47), (.bslice [(.i .u16 0), (.i .u16 0)] [(0, 2, (.t 46))] 1), none, 8, []⟩, ⟨(some 48), (.append 2 4 (.t 39) (.t 47)), none, 9, []⟩, ⟨(some 3), (.mv (.t 48)), none, 10, []⟩])
  (.region [⟨(some 49), (.mv (.t 5)), none, 0, []⟩, ⟨(some 4), (.mv (.t 49)), none, 1, []⟩]))))))
  (.region [⟨(some 13), (.mv (.t 4)), none, 0, []⟩, ⟨(some 14), (.bin .add (.t 13) (.c (.i .i64 1))), none, 1, []⟩, ⟨(some 4), (.mv (.t 14)), none, 2, []⟩]))))))
  (.seq (.region [⟨(some 50), (.mv (.t 3)), none, 0, []⟩, ⟨(some 2), (.mv (.t 50)), none, 1, []⟩])
  .ret))))
def x26 : XFun := ⟨x26b, [(.t 2)]⟩
theorem x26_ok : compF Try.prog 26 = some x26 := by kernel_rfl
/-- (*bollard/bollardref10.Set).Has (33) -/
def x27b : XC := (.seq (.region [⟨(some 4), (.mv (.c (.b false))), none, 0, []⟩])
  (.seq (.region [⟨(some 6), (.mv (.t 0)), none, 0, []⟩, ⟨(some 7), (.nilc (.t 6)), none, 1, []⟩, ⟨(some 8), (.fadd 0 (.t 7)), none, 2, []⟩, ⟨(some 9), (.load false 1 (.t 8)), none, 3, []⟩, ⟨(some 10), (.mv (.t 1)), none, 4, []⟩, ⟨(some 11), (.call (.c (.fn (.func 32) [] [])) [(.t 9), (.t 10)]), none, 5, []⟩, ⟨(some 12), (.cint .i64 (.t 11)), none, 6, []⟩, ⟨(some 5), (.mv (.t 12)), none, 7, []⟩])
  (.seq (.region [⟨(some 13), (.mv (.t 5)), none, 0, []⟩, ⟨(some 14), (.bin .eql (.t 13) (.c (.i .i64 0))), none, 1, []⟩, ⟨(some 15), (.mv (.t 14)), none, 2, []⟩, ⟨(some 16), (.mv (.t 5)), (some (15, false)), 3, []⟩, ⟨(some 17), (.bin .geq (.t 16) (.c (.i .i64 2147483648))), (some (15, false)), 4, []⟩, ⟨(some 18), (.pick (.t 15) (.c (.b true)) (.t 17)), none, 5, []⟩, ⟨(some 19), (.mv (.t 18)), none, 6, []⟩, ⟨(some 20), (.mv (.t 5)), (some (19, false)), 7, []⟩, ⟨(some 21), (.bin .leq (.t 20) (.c (.i .i64 1024))), (some (19, false)), 8, []⟩, ⟨(some 22), (.mv (.t 21)), (some (19, false)), 9, []⟩, ⟨(some 23), (.mv (.t 0)), (some (22, true)), 10, []⟩, ⟨(some 24), (.nilc (.t 23)), (some (22, true)), 11, []⟩, ⟨(some 25), (.fadd 1 (.t 24)), (some (22, true)), 12, []⟩, ⟨(some 26), (.load false 1 (.t 25)), (some (22, true)), 13, []⟩, ⟨(some 27), (.mv (.t 5)), (some (22, true)), 14, []⟩, ⟨(some 28), (.bin .sub (.t 27) (.c (.i .i64 1))), (some (22, true)), 15, []⟩, ⟨(some 29), (.isl 1 (.t 26) (.t 28)), (some (22, true)), 16, []⟩, ⟨(some 30), (.load false 1 (.t 29)), (some (22, true)), 17, []⟩, ⟨(some 31), (.pick (.t 22) (.t 30) (.c (.b false))), (some (19, false)), 18, []⟩, ⟨(some 32), (.pick (.t 19) (.c (.b true)) (.t 31)), none, 19, []⟩, ⟨(some 4), (.mv (.t 32)), none, 20, []⟩])
  .ret)))
def x27 : XFun := ⟨x27b, [(.t 4)]⟩
theorem x27_ok : compF Try.prog 27 = some x27 := by kernel_rfl
/-- bollard/serial.Less (8) -/
def x28b : XC := (.seq (.region [⟨(some 4), (.mv (.c (.b false))), none, 0, []⟩])
  (.seq (.region [⟨(some 5), (.mv (.t 0)), none, 0, []⟩, ⟨(some 6), (.mv (.t 1)), none, 1, []⟩, ⟨(some 7), (.call (.c (.fn (.func 36) [] [])) [(.t 5), (.t 6)]), none, 2, []⟩, ⟨(some 4), (.mv (.t 7)), none, 3, []⟩])
  .ret))
def x28 : XFun := ⟨x28b, [(.t 4)]⟩
theorem x28_ok : compF Try.prog 28 = some x28 := by kernel_rfl
/-- (*bollard/gaps.Set).climb (28) -/
def x29b : XC := (.loop (.seq (.seq (.draw [⟨(some 2), (.mv (.t 0)), none, 0, []⟩, ⟨(some 3), (.nilc (.t 2)), none, 1, [0]⟩, ⟨(some 4), (.fadd 1 (.t 3)), none, 2, [0, 1]⟩, ⟨(some 6), (.mv (.t 0)), none, 4, []⟩, ⟨(some 7), (.nilc (.t 6)), none, 5, [4]⟩, ⟨(some 8), (.fadd 0 (.t 7)), none, 6, [4, 5]⟩, ⟨(some 5), (.load false 1 (.t 4)), none, 3, [0, 1, 2]⟩, ⟨(some 9), (.load false 1 (.t 8)), none, 7, [4, 5, 6]⟩, ⟨(some 10), (.bin .add (.t 9) (.c (.i .u32 1))), none, 8, [4, 5, 6, 7]⟩, ⟨(some 11), (.lookup 0 (.b false) (.t 5) (.t 10) false), none, 9, [0, 1, 2, 3, 4, 5, 6, 7, 8]⟩, ⟨(some 12), (.unx .not (.t 11)), none, 10, [0, 1, 2, 3, 4, 5, 6, 7, 8, 9]⟩])
  (.cond (.t 12) .ret .skip))
  (.seq (.region [⟨(some 13), (.mv (.t 0)), none, 0, []⟩, ⟨(some 14), (.nilc (.t 13)), none, 1, []⟩, ⟨(some 15), (.fadd 0 (.t 14)), none, 2, []⟩, ⟨(some 16), (.load false 1 (.t 15)), none, 3, []⟩, ⟨(some 17), (.bin .add (.t 16) (.c (.i .u32 1))), none, 4, []⟩, ⟨(some 18), (.nilc (.t 13)), none, 5, []⟩, ⟨(some 19), (.fadd 0 (.t 18)), none, 6, []⟩, ⟨none, (.store 1 (.t 19) (.t 17)), none, 7, []⟩])
  (.seq (.draw [⟨(some 20), (.mv (.t 0)), none, 0, []⟩, ⟨(some 21), (.nilc (.t 20)), none, 1, [0]⟩, ⟨(some 22), (.fadd 1 (.t 21)), none, 2, [0, 1]⟩, ⟨(some 24), (.mv (.t 0)), none, 4, []⟩, ⟨(some 25), (.nilc (.t 24)), none, 5, [4]⟩, ⟨(some 26), (.fadd 0 (.t 25)), none, 6, [4, 5]⟩, ⟨(some 23), (.load false 1 (.t 22)), none, 3, [0, 1, 2]⟩, ⟨(some 27), (.load false 1 (.t 26)), none, 7, [4, 5, 6]⟩, ⟨none, (.del 0 (.t 23) (.t 27)), none, 8, [0, 1, 2, 3, 4, 5, 6, 7]⟩])
  .skip))))
def x29 : XFun := ⟨x29b, []⟩
theorem x29_ok : compF Try.prog 29 = some x29 := by kernel_rfl
/-- (*bollard/gaps.Set).below (18) -/
def x30b : XC := (.seq (.region [⟨(some 4), (.mv (.c (.b false))), none, 0, []⟩])
  (.seq (.region [⟨(some 6), (.mv (.t 0)), none, 0, []⟩, ⟨(some 7), (.nilc (.t 6)), none, 1, []⟩, ⟨(some 8), (.fadd 0 (.t 7)), none, 2, []⟩, ⟨(some 9), (.load false 1 (.t 8)), none, 3, []⟩, ⟨(some 10), (.mv (.t 1)), none, 4, []⟩, ⟨(some 11), (.call (.c (.fn (.func 17) [] [])) [(.t 9), (.t 10)]), none, 5, []⟩, ⟨(some 5), (.mv (.t 11)), none, 6, []⟩])
  (.seq (.region [⟨(some 12), (.mv (.t 5)), none, 0, []⟩, ⟨(some 13), (.bin .eql (.t 12) (.c (.i .u32 0))), none, 1, []⟩, ⟨(some 14), (.mv (.t 13)), none, 2, []⟩, ⟨(some 15), (.mv (.t 5)), (some (14, false)), 3, []⟩, ⟨(some 16), (.bin .geq (.t 15) (.c (.i .u32 2147483648))), (some (14, false)), 4, []⟩, ⟨(some 17), (.pick (.t 14) (.c (.b true)) (.t 16)), none, 5, []⟩, ⟨(some 4), (.mv (.t 17)), none, 6, []⟩])
  .ret)))
def x30 : XFun := ⟨x30b, [(.t 4)]⟩
theorem x30_ok : compF Try.prog 30 = some x30 := by kernel_rfl
/-- slices.Sort[[]uint32,uint32] (11) -/
def x31b : XC := (.seq (.region [⟨(some 3), (.mv (.t 0)), none, 0, []⟩, ⟨(some 4), (.lenx (.t 3)), none, 1, []⟩, ⟨(some 2), (.mv (.t 4)), none, 2, []⟩])
  (.region [⟨(some 5), (.mv (.t 0)), none, 0, []⟩, ⟨(some 6), (.mv (.t 2)), none, 1, []⟩, ⟨(some 7), (.mv (.t 2)), none, 2, []⟩, ⟨(some 8), (.cint .u64 (.t 7)), none, 3, []⟩, ⟨(some 9), (.call (.c (.fn (.func 38) [] [])) [(.t 8)]), none, 4, []⟩, ⟨(some 10), (.call (.c (.fn (.func 37) [] [])) [(.t 5), (.c (.i .i64 0)), (.t 6), (.t 9)]), none, 5, []⟩]))
def x31 : XFun := ⟨x31b, []⟩
theorem x31_ok : compF Try.prog 31 = some x31 := by kernel_rfl
/-- bollard/bollardref02.Dist (11) -/
def x32b : XC := (.seq (.region [⟨(some 4), (.mv (.c (.i .u32 0))), none, 0, []⟩])
  (.seq (.region [⟨(some 5), (.mv (.t 0)), none, 0, []⟩, ⟨(some 6), (.cint .i64 (.t 5)), none, 1, []⟩, ⟨(some 7), (.mv (.t 1)), none, 2, []⟩, ⟨(some 8), (.cint .i64 (.t 7)), none, 3, []⟩, ⟨(some 9), (.call (.c (.fn (.func 39) [] [])) [(.t 6), (.t 8), (.c (.i .i64 4294967296))]), none, 4, []⟩, ⟨(some 10), (.cint .u32 (.t 9)), none, 5, []⟩, ⟨(some 4), (.mv (.t 10)), none, 6, []⟩])
  .ret))
def x32 : XFun := ⟨x32b, [(.t 4)]⟩
theorem x32_ok : compF Try.prog 32 = some x32 := by kernel_rfl
/-- (*bollard/bollardref10.Set).climb (25) -/
def x33b : XC := (.block 0 (.loop (.seq (.seq (.region [⟨(some 2), (.mv (.t 0)), none, 0, []⟩, ⟨(some 3), (.nilc (.t 2)), none, 1, []⟩, ⟨(some 4), (.fadd 1 (.t 3)), none, 2, []⟩, ⟨(some 5), (.load false 1 (.t 4)), none, 3, []⟩, ⟨(some 6), (.isl 1 (.t 5) (.c (.i .i64 0))), none, 4, []⟩, ⟨(some 7), (.load false 1 (.t 6)), none, 5, []⟩])
  (.cond (.t 7) .skip (.exit 0)))
  (.block 1 (.seq (.region [⟨(some 8), (.mv (.t 0)), none, 0, []⟩, ⟨(some 9), (.mv (.t 0)), none, 1, []⟩, ⟨(some 10), (.nilc (.t 9)), none, 2, []⟩, ⟨(some 11), (.fadd 1 (.t 10)), none, 3, []⟩, ⟨(some 12), (.load false 1 (.t 11)), none, 4, []⟩, ⟨(some 13), (.slsl 1 (.t 12) (some (.c (.i .i64 1))) none none), none, 5, []⟩, ⟨(some 14), (.bslice [(.b false)] [(0, 1, (.c (.b false)))] 1), none, 6, []⟩, ⟨(some 15), (.append 1 1 (.t 13) (.t 14)), none, 7, []⟩, ⟨(some 16), (.nilc (.t 8)), none, 8, []⟩, ⟨(some 17), (.fadd 1 (.t 16)), none, 9, []⟩, ⟨none, (.store 1 (.t 17) (.t 15)), none, 10, []⟩])
  (.region [⟨(some 18), (.mv (.t 0)), none, 0, []⟩, ⟨(some 19), (.nilc (.t 18)), none, 1, []⟩, ⟨(some 20), (.fadd 0 (.t 19)), none, 2, []⟩, ⟨(some 21), (.load false 1 (.t 20)), none, 3, []⟩, ⟨(some 22), (.bin .add (.t 21) (.c (.i .u32 1))), none, 4, []⟩, ⟨(some 23), (.nilc (.t 18)), none, 5, []⟩, ⟨(some 24), (.fadd 0 (.t 23)), none, 6, []⟩, ⟨none, (.store 1 (.t 24) (.t 22)), none, 7, []⟩]))))))
def x33 : XFun := ⟨x33b, []⟩
theorem x33_ok : compF Try.prog 33 = some x33 := by kernel_rfl
/-- maps.DeleteFunc[map[uint32]bool,uint32,bool] (19) -/
def x34b : XC := (.seq (.region [⟨(some 6), (.mv (.t 0)), none, 0, []⟩, ⟨(some 7), .bad, none, 1, []⟩])
  (.block 0 (.loop (.seq (.region [⟨(some 8), .bad, none, 0, []⟩, ⟨(some 9), (.ext (.t 8) 0), none, 1, []⟩])
  (.seq (.cond (.t 9) .skip (.exit 0))
  (.block 1 (.seq (.region [⟨(some 10), .bad, none, 0, []⟩, ⟨(some 11), (.ext (.t 10) 0), none, 1, []⟩, ⟨(some 12), (.ext (.t 10) 1), none, 2, []⟩, ⟨(some 4), (.mv (.t 11)), none, 3, []⟩, ⟨(some 5), (.mv (.t 12)), none, 4, []⟩])
  (.seq (.region [⟨(some 13), (.mv (.t 1)), none, 0, []⟩, ⟨(some 14), (.mv (.t 4)), none, 1, []⟩, ⟨(some 15), (.mv (.t 5)), none, 2, []⟩, ⟨(some 16), (.call (.t 13) [(.t 14), (.t 15)]), none, 3, []⟩])
  (.cond (.t 16) (.region [⟨(some 17), (.mv (.t 0)), none, 0, []⟩, ⟨(some 18), (.mv (.t 4)), none, 1, []⟩, ⟨none, (.del 0 (.t 17) (.t 18)), none, 2, []⟩]) .skip)))))))))
def x34 : XFun := ⟨x34b, []⟩
theorem x34_ok : compF Try.prog 34 = some x34 := by kernel_rfl
/-- (*bollard/gaps.Set).Forward$1 (9) -/
def x35b : XC := (.seq (.region [⟨(some 5), (.mv (.c (.b false))), none, 0, []⟩])
  (.seq (.region [⟨(some 6), (.load false 1 (.t 2)), none, 0, []⟩, ⟨(some 7), (.mv (.t 0)), none, 1, []⟩, ⟨(some 8), (.call (.c (.fn (.func 30) [] [])) [(.t 6), (.t 7)]), none, 2, []⟩, ⟨(some 5), (.mv (.t 8)), none, 3, []⟩])
  .ret))
def x35 : XFun := ⟨x35b, [(.t 5)]⟩
theorem x35_ok : compF Try.prog 35 = some x35 := by kernel_rfl
/-- bollard/serial.less[uint32] (18) -/
def x36b : XC := (.seq (.region [⟨(some 4), (.mv (.c (.b false))), none, 0, []⟩])
  (.seq (.region [⟨(some 6), (.mv (.t 1)), none, 0, []⟩, ⟨(some 7), (.mv (.t 0)), none, 1, []⟩, ⟨(some 8), (.bin .sub (.t 6) (.t 7)), none, 2, []⟩, ⟨(some 5), (.mv (.t 8)), none, 3, []⟩])
  (.seq (.region [⟨(some 9), (.mv (.t 5)), none, 0, []⟩, ⟨(some 10), (.bin .neq (.t 9) (.c (.i .u32 0))), none, 1, []⟩, ⟨(some 11), (.mv (.t 10)), none, 2, []⟩, ⟨(some 12), (.mv (.t 5)), (some (11, true)), 3, []⟩, ⟨(some 13), (.cint .u32 (.c (.i .i64 0))), (some (11, true)), 4, []⟩, ⟨(some 14), (.unx .xor (.t 13)), (some (11, true)), 5, []⟩, ⟨(some 15), (.bin .shr (.t 14) (.c (.i .u64 1))), (some (11, true)), 6, []⟩, ⟨(some 16), (.bin .leq (.t 12) (.t 15)), (some (11, true)), 7, []⟩, ⟨(some 17), (.pick (.t 11) (.t 16) (.c (.b false))), none, 8, []⟩, ⟨(some 4), (.mv (.t 17)), none, 9, []⟩])
  .ret)))
def x36 : XFun := ⟨x36b, [(.t 4)]⟩
theorem x36_ok : compF Try.prog 36 = some x36 := by kernel_rfl
/-- slices.pdqsortOrdered[uint32] (134) -/
def x37b : XC := (.seq (.region [⟨(some 8), (.mv (.c (.b true))), none, 0, []⟩])
  (.seq (.region [⟨(some 9), (.mv (.c (.b true))), none, 0, []⟩])
  (.block 0 (.loop (.block 1 (.seq (.region [⟨(some 19), (.mv (.t 2)), none, 0, []⟩, ⟨(some 20), (.mv (.t 1)), none, 1, []⟩, ⟨(some 21), (.bin .sub (.t 19) (.t 20)), none, 2, []⟩, ⟨(some 10), (.mv (.t 21)), none, 3, []⟩])
  (.seq (.seq (.region [⟨(some 22), (.mv (.t 10)), none, 0, []⟩, ⟨(some 23), (.bin .leq (.t 22) (.c (.i .i64 12))), none, 1, []⟩])
  (.cond (.t 23) (.seq (.region [⟨(some 24), (.mv (.t 0)), none, 0, []⟩, ⟨(some 25), (.mv (.t 1)), none, 1, []⟩, ⟨(some 26), (.mv (.t 2)), none, 2, []⟩, ⟨(some 27), (.call (.c (.fn (.func 40) [] [])) [(.t 24), (.t 25), (.t 26)]), none, 3, []⟩])
  .ret) .skip))
  (.seq (.seq (.region [⟨(some 28), (.mv (.t 3)), none, 0, []⟩, ⟨(some 29), (.bin .eql (.t 28) (.c (.i .i64 0))), none, 1, []⟩])
  (.cond (.t 29) (.seq (.region [⟨(some 30), (.mv (.t 0)), none, 0, []⟩, ⟨(some 31), (.mv (.t 1)), none, 1, []⟩, ⟨(some 32), (.mv (.t 2)), none, 2, []⟩, ⟨(some 33), (.call (.c (.fn (.func 41) [] [])) [(.t 30), (.t 31), (.t 32)]), none, 3, []⟩])
  .ret) .skip))
  (.seq (.seq (.region [⟨(some 34), (.mv (.t 8)), none, 0, []⟩, ⟨(some 35), (.unx .not (.t 34)), none, 1, []⟩])
  (.cond (.t 35) (.seq (.region [⟨(some 36), (.mv (.t 0)), none, 0, []⟩, ⟨(some 37), (.mv (.t 1)), none, 1, []⟩, ⟨(some 38), (.mv (.t 2)), none, 2, []⟩, ⟨(some 39), (.call (.c (.fn (.func 42) [] [])) [(.t 36), (.t 37), (.t 38)]), none, 3, []⟩])
  (.region [⟨(some 40), (.mv (.t 3)), none, 0, []⟩, ⟨(some 41), (.bin .sub (.t 40) (.c (.i .i64 1))), none, 1, []⟩, ⟨(some 3), (.mv (.t 41)), none, 2, []⟩])) .skip))
  (.seq (.region [⟨(some 43), (.mv (.t 0)), none, 0, []⟩, ⟨(some 44), (.mv (.t 1)), none, 1, []⟩, ⟨(some 45), (.mv (.t 2)), none, 2, []⟩, ⟨(some 46), (.call (.c (.fn (.func 43) [] [])) [(.t 43), (.t 44), (.t 45)]), none, 3, []⟩, ⟨(some 42), (.mv (.t 46)), none, 4, []⟩, ⟨(some 47), (.ext (.t 42) 0), none, 5, []⟩, ⟨(some 48), (.ext (.t 42) 1), none, 6, []⟩, ⟨(some 11), (.mv (.t 47)), none, 7, []⟩, ⟨(some 12), (.mv (.t 48)), none, 8, []⟩])
  (.seq (.seq (.region [⟨(some 49), (.mv (.t 12)), none, 0, []⟩, ⟨(some 50), (.bin .eql (.t 49) (.c (.i .i64 2))), none, 1, []⟩])
  (.cond (.t 50) (.seq (.region [⟨(some 51), (.mv (.t 0)), none, 0, []⟩, ⟨(some 52), (.mv (.t 1)), none, 1, []⟩, ⟨(some 53), (.mv (.t 2)), none, 2, []⟩, ⟨(some 54), (.call (.c (.fn (.func 44) [] [])) [(.t 51), (.t 52), (.t 53)]), none, 3, []⟩])
  (.seq (.region [⟨(some 55), (.mv (.t 2)), none, 0, []⟩, ⟨(some 56), (.bin .sub (.t 55) (.c (.i .i64 1))), none, 1, []⟩, ⟨(some 57), (.mv (.t 11)), none, 2, []⟩, ⟨(some 58), (.mv (.t 1)), none, 3, []⟩, ⟨(some 59), (.bin .sub (.t 57) (.t 58)), none, 4, []⟩, ⟨(some 60), (.bin .sub (.t 56) (.t 59)), none, 5, []⟩, ⟨(some 11), (.mv (.t 60)), none, 6, []⟩])
  (.region [⟨(some 12), (.mv (.c (.i .i64 1))), none, 0, []⟩]))) .skip))
  (.seq (.seq (.region [⟨(some 61), (.mv (.t 8)), none, 0, []⟩, ⟨(some 62), (.mv (.t 61)), none, 1, []⟩, ⟨(some 63), (.mv (.t 9)), (some (62, true)), 2, []⟩, ⟨(some 64), (.pick (.t 62) (.t 63) (.c (.b false))), none, 3, []⟩, ⟨(some 65), (.mv (.t 64)), none, 4, []⟩, ⟨(some 66), (.mv (.t 12)), (some (65, true)), 5, []⟩, ⟨(some 67), (.bin .eql (.t 66) (.c (.i .i64 1))), (some (65, true)), 6, []⟩, ⟨(some 68), (.pick (.t 65) (.t 67) (.c (.b false))), none, 7, []⟩])
  (.cond (.t 68) (.seq (.region [⟨(some 69), (.mv (.t 0)), none, 0, []⟩, ⟨(some 70), (.mv (.t 1)), none, 1, []⟩, ⟨(some 71), (.mv (.t 2)), none, 2, []⟩, ⟨(some 72), (.call (.c (.fn (.func 45) [] [])) [(.t 69), (.t 70), (.t 71)]), none, 3, []⟩])
  (.cond (.t 72) .ret .skip)) .skip))
  (.seq (.seq (.draw [⟨(some 73), (.mv (.t 1)), none, 0, []⟩, ⟨(some 74), (.bin .gtr (.t 73) (.c (.i .i64 0))), none, 1, [0]⟩, ⟨(some 75), (.mv (.t 74)), none, 2, [0, 1]⟩, ⟨(some 76), (.mv (.t 0)), (some (75, true)), 3, [0, 1, 2]⟩, ⟨(some 77), (.mv (.t 1)), (some (75, true)), 4, [0, 1, 2]⟩, ⟨(some 78), (.bin .sub (.t 77) (.c (.i .i64 1))), (some (75, true)), 5, [0, 1, 2, 4]⟩, ⟨(some 79), (.isl 1 (.t 76) (.t 78)), (some (75, true)), 6, [0, 1, 2, 3, 4, 5]⟩, ⟨(some 81), (.mv (.t 0)), (some (75, true)), 8, [0, 1, 2]⟩, ⟨(some 82), (.mv (.t 11)), (some (75, true)), 9, [0, 1, 2]⟩, ⟨(some 83), (.isl 1 (.t 81) (.t 82)), (some (75, true)), 10, [0, 1, 2, 8, 9]⟩, ⟨(some 80), (.load false 1 (.t 79)), (some (75, true)), 7, [0, 1, 2, 3, 4, 5, 6]⟩, ⟨(some 84), (.load false 1 (.t 83)), (some (75, true)), 11, [0, 1, 2, 8, 9, 10]⟩, ⟨(some 85), (.call (.c (.fn (.func 46) [] [])) [(.t 80), (.t 84)]), (some (75, true)), 12, [0, 1, 2, 3, 4, 5, 6, 7, 8, 9, 10, 11]⟩, ⟨(some 86), (.unx .not (.t 85)), (some (75, true)), 13, [0, 1, 2, 3, 4, 5, 6, 7, 8, 9, 10, 11, 12]⟩, ⟨(some 87), (.pick (.t 75) (.t 86) (.c (.b false))), none, 14, [0, 1, 2, 3, 4, 5, 6, 7, 8, 9, 10, 11, 12, 13]⟩])
  (.cond (.t 87) (.seq (.region [⟨(some 88), (.mv (.t 0)), none, 0, []⟩, ⟨(some 89), (.mv (.t 1)), none, 1, []⟩, ⟨(some 90), (.mv (.t 2)), none, 2, []⟩, ⟨(some 91), (.mv (.t 11)), none, 3, []⟩, ⟨(some 92), (.call (.c (.fn (.func 47) [] [])) [(.t 88), (.t 89), (.t 90), (.t 91)]), none, 4, []⟩, ⟨(some 13), (.mv (.t 92)), none, 5, []⟩])
  (.seq (.region [⟨(some 93), (.mv (.t 13)), none, 0, []⟩, ⟨(some 1), (.mv (.t 93)), none, 1, []⟩])
  (.exit 1))) .skip))
  (.seq (.region [⟨(some 95), (.mv (.t 0)), none, 0, []⟩, ⟨(some 96), (.mv (.t 1)), none, 1, []⟩, ⟨(some 97), (.mv (.t 2)), none, 2, []⟩, ⟨(some 98), (.mv (.t 11)), none, 3, []⟩, ⟨(some 99), (.call (.c (.fn (.func 48) [] [])) [(.t 95), (.t 96), (.t 97), (.t 98)]), none, 4, []⟩, ⟨(some 94), (.mv (.t 99)), none, 5, []⟩, ⟨(some 100), (.ext (.t 94) 0), none, 6, []⟩, ⟨(some 101), (.ext (.t 94) 1), none, 7, []⟩, ⟨(some 14), (.mv (.t 100)), none, 8, []⟩, ⟨(some 15), (.mv (.t 101)), none, 9, []⟩])
  (.seq (.region [⟨(some 102), (.mv (.t 15)), none, 0, []⟩, ⟨(some 9), (.mv (.t 102)), none, 1, []⟩])
  (.seq (.region [⟨(some 103), (.mv (.t 14)), none, 0, []⟩, ⟨(some 104), (.mv (.t 1)), none, 1, []⟩, ⟨(some 105), (.bin .sub (.t 103) (.t 104)), none, 2, []⟩, ⟨(some 106), (.mv (.t 2)), none, 3, []⟩, ⟨(some 107), (.mv (.t 14)), none, 4, []⟩, ⟨(some 108), (.bin .sub (.t 106) (.t 107)), none, 5, []⟩, ⟨(some 16), (.mv (.t 105)), none, 6, []⟩, ⟨(some 17), (.mv (.t 108)), none, 7, []⟩])
  (.seq (.region [⟨(some 109), (.mv (.t 10)), none, 0, []⟩, ⟨(some 110), (.bin .quo (.t 109) (.c (.i .i64 8))), none, 1, []⟩, ⟨(some 18), (.mv (.t 110)), none, 2, []⟩])
  (.seq (.region [⟨(some 111), (.mv (.t 16)), none, 0, []⟩, ⟨(some 112), (.mv (.t 17)), none, 1, []⟩, ⟨(some 113), (.bin .lss (.t 111) (.t 112)), none, 2, []⟩])
  (.cond (.t 113) (.seq (.region [⟨(some 114), (.mv (.t 16)), none, 0, []⟩, ⟨(some 115), (.mv (.t 18)), none, 1, []⟩, ⟨(some 116), (.bin .geq (.t 114) (.t 115)), none, 2, []⟩, ⟨(some 8), (.mv (.t 116)), none, 3, []⟩])
  (.seq (.region [⟨(some 117), (.mv (.t 0)), none, 0, []⟩, ⟨(some 118), (.mv (.t 1)), none, 1, []⟩, ⟨(some 119), (.mv (.t 14)), none, 2, []⟩, ⟨(some 120), (.mv (.t 3)), none, 3, []⟩, ⟨(some 121), (.call (.c (.fn (.func 37) [] [])) [(.t 117), (.t 118), (.t 119), (.t 120)]), none, 4, []⟩])
  (.region [⟨(some 122), (.mv (.t 14)), none, 0, []⟩, ⟨(some 123), (.bin .add (.t 122) (.c (.i .i64 1))), none, 1, []⟩, ⟨(some 1), (.mv (.t 123)), none, 2, []⟩]))) (.seq (.region [⟨(some 124), (.mv (.t 17)), none, 0, []⟩, ⟨(some 125), (.mv (.t 18)), none, 1, []⟩, ⟨(some 126), (.bin .geq (.t 124) (.t 125)), none, 2, []⟩, ⟨(some 8), (.mv (.t 126)), none, 3, []⟩])
  (.seq (.region [⟨(some 127), (.mv (.t 0)), none, 0, []⟩, ⟨(some 128), (.mv (.t 14)), none, 1, []⟩, ⟨(some 129), (.bin .add (.t 128) (.c (.i .i64 1))), none, 2, []⟩, ⟨(some 130), (.mv (.t 2)), none, 3, []⟩, ⟨(some 131), (.mv (.t 3)), none, 4, []⟩, ⟨(some 132), (.call (.c (.fn (.func 37) [] [])) [(.t 127), (.t 129), (.t 130), (.t 131)]), none, 5, []⟩])
  (.region [⟨(some 133), (.mv (.t 14)), none, 0, []⟩, ⟨(some 2), (.mv (.t 133)), none, 1, []⟩]))))))))))))))))))))))
def x37 : XFun := ⟨x37b, []⟩
theorem x37_ok : compF Try.prog 37 = some x37 := by kernel_rfl
/-- math/bits.Len (8) -/
def x38b : XC := (.seq (.region [⟨(some 2), (.mv (.c (.i .i64 0))), none, 0, []⟩])
  (.seq (.cond (.c (.b false)) (.seq (.region [⟨(some 3), (.mv (.t 0)), none, 0, []⟩, ⟨(some 4), (.cint .u32 (.t 3)), none, 1, []⟩, ⟨(some 5), (.call (.c (.fn (.func 49) [] [])) [(.t 4)]), none, 2, []⟩, ⟨(some 2), (.mv (.t 5)), none, 3, []⟩])
  .ret) .skip)
  (.seq (.region [⟨(some 6), (.mv (.t 0)), none, 0, []⟩, ⟨(some 7), (.call (.c (.fn (.func 50) [] [])) [(.t 6)]), none, 1, []⟩, ⟨(some 2), (.mv (.t 7)), none, 2, []⟩])
  .ret)))
def x38 : XFun := ⟨x38b, [(.t 2)]⟩
theorem x38_ok : compF Try.prog 38 = some x38 := by kernel_rfl
/-- bollard/bollardref02.steps (18) -/
def x39b : XC := (.seq (.region [⟨(some 6), (.mv (.c (.i .i64 0))), none, 0, []⟩])
  (.seq (.seq (.region [⟨(some 7), (.mv (.t 1)), none, 0, []⟩, ⟨(some 8), (.mv (.t 0)), none, 1, []⟩, ⟨(some 9), (.bin .geq (.t 7) (.t 8)), none, 2, []⟩])
  (.cond (.t 9) (.seq (.region [⟨(some 10), (.mv (.t 1)), none, 0, []⟩, ⟨(some 11), (.mv (.t 0)), none, 1, []⟩, ⟨(some 12), (.bin .sub (.t 10) (.t 11)), none, 2, []⟩, ⟨(some 6), (.mv (.t 12)), none, 3, []⟩])
  .ret) .skip))
  (.seq (.region [⟨(some 13), (.mv (.t 1)), none, 0, []⟩, ⟨(some 14), (.mv (.t 2)), none, 1, []⟩, ⟨(some 15), (.bin .add (.t 13) (.t 14)), none, 2, []⟩, ⟨(some 16), (.mv (.t 0)), none, 3, []⟩, ⟨(some 17), (.bin .sub (.t 15) (.t 16)), none, 4, []⟩, ⟨(some 6), (.mv (.t 17)), none, 5, []⟩])
  .ret)))
def x39 : XFun := ⟨x39b, [(.t 6)]⟩
theorem x39_ok : compF Try.prog 39 = some x39 := by kernel_rfl
/-- slices.insertionSortOrdered[uint32] (49) -/
def x40b : XC := (.seq (.region [⟨(some 8), (.mv (.t 1)), none, 0, []⟩, ⟨(some 9), (.bin .add (.t 8) (.c (.i .i64 1))), none, 1, []⟩, ⟨(some 6), (.mv (.t 9)), none, 2, []⟩])
  (.block 0 (.loop (.seq (.seq (.region [⟨(some 10), (.mv (.t 6)), none, 0, []⟩, ⟨(some 11), (.mv (.t 2)), none, 1, []⟩, ⟨(some 12), (.bin .lss (.t 10) (.t 11)), none, 2, []⟩])
  (.cond (.t 12) .skip (.exit 0)))
  (.seq (.block 1 (.seq (.region [⟨(some 15), (.mv (.t 6)), none, 0, []⟩, ⟨(some 7), (.mv (.t 15)), none, 1, []⟩])
  (.block 2 (.loop (.seq (.seq (.draw [⟨(some 16), (.mv (.t 7)), none, 0, []⟩, ⟨(some 17), (.mv (.t 1)), none, 1, []⟩, ⟨(some 18), (.bin .gtr (.t 16) (.t 17)), none, 2, [0, 1]⟩, ⟨(some 19), (.mv (.t 18)), none, 3, [0, 1, 2]⟩, ⟨(some 20), (.mv (.t 0)), (some (19, true)), 4, [0, 1, 2, 3]⟩, ⟨(some 21), (.mv (.t 7)), (some (19, true)), 5, [0, 1, 2, 3]⟩, ⟨(some 22), (.isl 1 (.t 20) (.t 21)), (some (19, true)), 6, [0, 1, 2, 3, 4, 5]⟩, ⟨(some 24), (.mv (.t 0)), (some (19, true)), 8, [0, 1, 2, 3]⟩, ⟨(some 25), (.mv (.t 7)), (some (19, true)), 9, [0, 1, 2, 3]⟩, ⟨(some 26), (.bin .sub (.t 25) (.c (.i .i64 1))), (some (19, true)), 10, [0, 1, 2, 3, 9]⟩, ⟨(some 27), (.isl 1 (.t 24) (.t 26)), (some (19, true)), 11, [0, 1, 2, 3, 8, 9, 10]⟩, ⟨(some 23), (.load false 1 (.t 22)), (some (19, true)), 7, [0, 1, 2, 3, 4, 5, 6]⟩, ⟨(some 28), (.load false 1 (.t 27)), (some (19, true)), 12, [0, 1, 2, 3, 8, 9, 10, 11]⟩, ⟨(some 29), (.call (.c (.fn (.func 46) [] [])) [(.t 23), (.t 28)]), (some (19, true)), 13, [0, 1, 2, 3, 4, 5, 6, 7, 8, 9, 10, 11, 12]⟩, ⟨(some 30), (.pick (.t 19) (.t 29) (.c (.b false))), none, 14, [0, 1, 2, 3, 4, 5, 6, 7, 8, 9, 10, 11, 12, 13]⟩])
  (.cond (.t 30) .skip (.exit 2)))
  (.seq (.block 3 (.draw [⟨(some 33), (.mv (.t 0)), none, 0, []⟩, ⟨(some 34), (.mv (.t 7)), none, 1, []⟩, ⟨(some 35), (.mv (.t 0)), none, 2, []⟩, ⟨(some 36), (.mv (.t 7)), none, 3, []⟩, ⟨(some 37), (.bin .sub (.t 36) (.c (.i .i64 1))), none, 4, [3]⟩, ⟨(some 38), (.mv (.t 0)), none, 5, []⟩, ⟨(some 39), (.mv (.t 7)), none, 6, []⟩, ⟨(some 40), (.bin .sub (.t 39) (.c (.i .i64 1))), none, 7, [6]⟩, ⟨(some 41), (.isl 1 (.t 38) (.t 40)), none, 8, [5, 6, 7]⟩, ⟨(some 43), (.mv (.t 0)), none, 10, []⟩, ⟨(some 44), (.mv (.t 7)), none, 11, []⟩, ⟨(some 45), (.isl 1 (.t 43) (.t 44)), none, 12, [10, 11]⟩, ⟨(some 42), (.load false 1 (.t 41)), none, 9, [5, 6, 7, 8]⟩, ⟨(some 46), (.load false 1 (.t 45)), none, 13, [10, 11, 12]⟩, ⟨(some 47), (.isl 1 (.t 33) (.t 34)), none, 14, [0, 1, 5, 6, 7, 8, 9, 10, 11, 12, 13]⟩, ⟨none, (.store 1 (.t 47) (.t 42)), none, 15, [0, 1, 5, 6, 7, 8, 9, 10, 11, 12, 13, 14]⟩, ⟨(some 48), (.isl 1 (.t 35) (.t 37)), none, 16, [0, 1, 2, 3, 4, 5, 6, 7, 8, 9, 10, 11, 12, 13, 14, 15]⟩, ⟨none, (.store 1 (.t 48) (.t 46)), none, 17, [0, 1, 2, 3, 4, 5, 6, 7, 8, 9, 10, 11, 12, 13, 14, 15, 16]⟩]))
  (.region [⟨(some 31), (.mv (.t 7)), none, 0, []⟩, ⟨(some 32), (.bin .sub (.t 31) (.c (.i .i64 1))), none, 1, []⟩, ⟨(some 7), (.mv (.t 32)), none, 2, []⟩])))))))
  (.region [⟨(some 13), (.mv (.t 6)), none, 0, []⟩, ⟨(some 14), (.bin .add (.t 13) (.c (.i .i64 1))), none, 1, []⟩, ⟨(some 6), (.mv (.t 14)), none, 2, []⟩]))))))
def x40 : XFun := ⟨x40b, []⟩
theorem x40_ok : compF Try.prog 40 = some x40 := by kernel_rfl
/-- slices.heapSortOrdered[uint32] (56) -/
def x41b : XC := (.seq (.region [⟨(some 11), (.mv (.t 1)), none, 0, []⟩, ⟨(some 6), (.mv (.t 11)), none, 1, []⟩])
  (.seq (.region [⟨(some 7), (.mv (.c (.i .i64 0))), none, 0, []⟩])
  (.seq (.region [⟨(some 12), (.mv (.t 2)), none, 0, []⟩, ⟨(some 13), (.mv (.t 1)), none, 1, []⟩, ⟨(some 14), (.bin .sub (.t 12) (.t 13)), none, 2, []⟩, ⟨(some 8), (.mv (.t 14)), none, 3, []⟩])
  (.seq (.seq (.region [⟨(some 15), (.mv (.t 8)), none, 0, []⟩, ⟨(some 16), (.bin .sub (.t 15) (.c (.i .i64 1))), none, 1, []⟩, ⟨(some 17), (.bin .quo (.t 16) (.c (.i .i64 2))), none, 2, []⟩, ⟨(some 9), (.mv (.t 17)), none, 3, []⟩])
  (.block 0 (.loop (.seq (.seq (.region [⟨(some 18), (.mv (.t 9)), none, 0, []⟩, ⟨(some 19), (.bin .geq (.t 18) (.c (.i .i64 0))), none, 1, []⟩])
  (.cond (.t 19) .skip (.exit 0)))
  (.seq (.block 1 (.region [⟨(some 22), (.mv (.t 0)), none, 0, []⟩, ⟨(some 23), (.mv (.t 9)), none, 1, []⟩, ⟨(some 24), (.mv (.t 8)), none, 2, []⟩, ⟨(some 25), (.mv (.t 6)), none, 3, []⟩, ⟨(some 26), (.call (.c (.fn (.func 51) [] [])) [(.t 22), (.t 23), (.t 24), (.t 25)]), none, 4, []⟩]))
  (.region [⟨(some 20), (.mv (.t 9)), none, 0, []⟩, ⟨(some 21), (.bin .sub (.t 20) (.c (.i .i64 1))), none, 1, []⟩, ⟨(some 9), (.mv (.t 21)), none, 2, []⟩]))))))
  (.seq (.region [⟨(some 27), (.mv (.t 8)), none, 0, []⟩, ⟨(some 28), (.bin .sub (.t 27) (.c (.i .i64 1))), none, 1, []⟩, ⟨(some 10), (.mv (.t 28)), none, 2, []⟩])
  (.block 2 (.loop (.seq (.seq (.region [⟨(some 29), (.mv (.t 10)), none, 0, []⟩, ⟨(some 30), (.bin .geq (.t 29) (.c (.i .i64 0))), none, 1, []⟩])
  (.cond (.t 30) .skip (.exit 2)))
  (.seq (.block 3 (.seq (.draw [⟨(some 33), (.mv (.t 0)), none, 0, []⟩, ⟨(some 34), (.mv (.t 6)), none, 1, []⟩, ⟨(some 35), (.mv (.t 0)), none, 2, []⟩, ⟨(some 36), (.mv (.t 6)), none, 3, []⟩, ⟨(some 37), (.mv (.t 10)), none, 4, []⟩, ⟨(some 38), (.bin .add (.t 36) (.t 37)), none, 5, [3, 4]⟩, ⟨(some 39), (.mv (.t 0)), none, 6, []⟩, ⟨(some 40), (.mv (.t 6)), none, 7, []⟩, ⟨(some 41), (.mv (.t 10)), none, 8, []⟩, ⟨(some 42), (.bin .add (.t 40) (.t 41)), none, 9, [7, 8]⟩, ⟨(some 43), (.isl 1 (.t 39) (.t 42)), none, 10, [6, 7, 8, 9]⟩, ⟨(some 45), (.mv (.t 0)), none, 12, []⟩, ⟨(some 46), (.mv (.t 6)), none, 13, []⟩, ⟨(some 47), (.isl 1 (.t 45) (.t 46)), none, 14, [12, 13]⟩, ⟨(some 44), (.load false 1 (.t 43)), none, 11, [6, 7, 8, 9, 10]⟩, ⟨(some 48), (.load false 1 (.t 47)), none, 15, [12, 13, 14]⟩, ⟨(some 49), (.isl 1 (.t 33) (.t 34)), none, 16, [0, 1, 6, 7, 8, 9, 10, 11, 12, 13, 14, 15]⟩, ⟨none, (.store 1 (.t 49) (.t 44)), none, 17, [0, 1, 6, 7, 8, 9, 10, 11, 12, 13, 14, 15, 16]⟩, ⟨(some 50), (.isl 1 (.t 35) (.t 38)), none, 18, [0, 1, 2, 3, 4, 5, 6, 7, 8, 9, 10, 11, 12, 13, 14, 15, 16, 17]⟩, ⟨none, (.store 1 (.t 50) (.t 48)), none, 19, [0, 1, 2, 3, 4, 5, 6, 7, 8, 9, 10, 11, 12, 13, 14, 15, 16, 17, 18]⟩])
  (.region [⟨(some 51), (.mv (.t 0)), none, 0, []⟩, ⟨(some 52), (.mv (.t 7)), none, 1, []⟩, ⟨(some 53), (.mv (.t 10)), none, 2, []⟩, ⟨(some 54), (.mv (.t 6)), none, 3, []⟩, ⟨(some 55), (.call (.c (.fn (.func 51) [] [])) [(.t 51), (.t 52), (.t 53), (.t 54)]), none, 4, []⟩])))
  (.region [⟨(some 31), (.mv (.t 10)), none, 0, []⟩, ⟨(some 32), (.bin .sub (.t 31) (.c (.i .i64 1))), none, 1, []⟩, ⟨(some 10), (.mv (.t 32)), none, 2, []⟩]))))))))))
def x41 : XFun := ⟨x41b, []⟩
theorem x41_ok : compF Try.prog 41 = some x41 := by kernel_rfl
/-- slices.breakPatternsOrdered[uint32] (65) -/
def x42b : XC := (.seq (.region [⟨(some 11), (.mv (.t 2)), none, 0, []⟩, ⟨(some 12), (.mv (.t 1)), none, 1, []⟩, ⟨(some 13), (.bin .sub (.t 11) (.t 12)), none, 2, []⟩, ⟨(some 6), (.mv (.t 13)), none, 3, []⟩])
  (.seq (.region [⟨(some 14), (.mv (.t 6)), none, 0, []⟩, ⟨(some 15), (.bin .geq (.t 14) (.c (.i .i64 8))), none, 1, []⟩])
  (.cond (.t 15) (.seq (.region [⟨(some 16), (.mv (.t 6)), none, 0, []⟩, ⟨(some 17), (.cint .u64 (.t 16)), none, 1, []⟩, ⟨(some 7), (.alloc [(.i .u64 0)]), none, 2, []⟩, ⟨none, (.store 1 (.t 7) (.t 17)), none, 3, []⟩])
  (.seq (.region [⟨(some 18), (.mv (.t 6)), none, 0, []⟩, ⟨(some 19), (.call (.c (.fn (.func 52) [] [])) [(.t 18)]), none, 1, []⟩, ⟨(some 8), (.mv (.t 19)), none, 2, []⟩])
  (.seq (.region [⟨(some 20), (.mv (.t 1)), none, 0, []⟩, ⟨(some 21), (.mv (.t 6)), none, 1, []⟩, ⟨(some 22), (.bin .quo (.t 21) (.c (.i .i64 4))), none, 2, []⟩, ⟨(some 23), (.bin .mul (.t 22) (.c (.i .i64 2))), none, 3, []⟩, ⟨(some 24), (.bin .add (.t 20) (.t 23)), none, 4, []⟩, ⟨(some 25), (.bin .sub (.t 24) (.c (.i .i64 1))), none, 5, []⟩, ⟨(some 9), (.mv (.t 25)), none, 6, []⟩])
  (.block 0 (.loop (.seq (.seq (.region [⟨(some 26), (.mv (.t 9)), none, 0, []⟩, ⟨(some 27), (.mv (.t 1)), none, 1, []⟩, ⟨(some 28), (.mv (.t 6)), none, 2, []⟩, ⟨(some 29), (.bin .quo (.t 28) (.c (.i .i64 4))), none, 3, []⟩, ⟨(some 30), (.bin .mul (.t 29) (.c (.i .i64 2))), none, 4, []⟩, ⟨(some 31), (.bin .add (.t 27) (.t 30)), none, 5, []⟩, ⟨(some 32), (.bin .add (.t 31) (.c (.i .i64 1))), none, 6, []⟩, ⟨(some 33), (.bin .leq (.t 26) (.t 32)), none, 7, []⟩])
  (.cond (.t 33) .skip (.exit 0)))
  (.seq (.block 1 (.seq (.region [⟨(some 36), (.call (.c (.fn (.func 53) [] [])) [(.t 7)]), none, 0, []⟩, ⟨(some 37), (.mv (.t 8)), none, 1, []⟩, ⟨(some 38), (.bin .sub (.t 37) (.c (.i .u64 1))), none, 2, []⟩, ⟨(some 39), (.bin .and (.t 36) (.t 38)), none, 3, []⟩, ⟨(some 40), (.cint .i64 (.t 39)), none, 4, []⟩, ⟨(some 10), (.mv (.t 40)), none, 5, []⟩])
  (.seq (.seq (.region [⟨(some 41), (.mv (.t 10)), none, 0, []⟩, ⟨(some 42), (.mv (.t 6)), none, 1, []⟩, ⟨(some 43), (.bin .geq (.t 41) (.t 42)), none, 2, []⟩])
  (.cond (.t 43) (.region [⟨(some 44), (.mv (.t 10)), none, 0, []⟩, ⟨(some 45), (.mv (.t 6)), none, 1, []⟩, ⟨(some 46), (.bin .sub (.t 44) (.t 45)), none, 2, []⟩, ⟨(some 10), (.mv (.t 46)), none, 3, []⟩]) .skip))
  (.draw [⟨(some 47), (.mv (.t 0)), none, 0, []⟩, ⟨(some 48), (.mv (.t 9)), none, 1, []⟩, ⟨(some 49), (.mv (.t 0)), none, 2, []⟩, ⟨(some 50), (.mv (.t 1)), none, 3, []⟩, ⟨(some 51), (.mv (.t 10)), none, 4, []⟩, ⟨(some 52), (.bin .add (.t 50) (.t 51)), none, 5, [3, 4]⟩, ⟨(some 53), (.mv (.t 0)), none, 6, []⟩, ⟨(some 54), (.mv (.t 1)), none, 7, []⟩, ⟨(some 55), (.mv (.t 10)), none, 8, []⟩, ⟨(some 56), (.bin .add (.t 54) (.t 55)), none, 9, [7, 8]⟩, ⟨(some 57), (.isl 1 (.t 53) (.t 56)), none, 10, [6, 7, 8, 9]⟩, ⟨(some 59), (.mv (.t 0)), none, 12, []⟩, ⟨(some 60), (.mv (.t 9)), none, 13, []⟩, ⟨(some 61), (.isl 1 (.t 59) (.t 60)), none, 14, [12, 13]⟩, ⟨(some 58), (.load false 1 (.t 57)), none, 11, [6, 7, 8, 9, 10]⟩, ⟨(some 62), (.load false 1 (.t 61)), none, 15, [12, 13, 14]⟩, ⟨(some 63), (.isl 1 (.t 47) (.t 48)), none, 16, [0, 1, 6, 7, 8, 9, 10, 11, 12, 13, 14, 15]⟩, ⟨none, (.store 1 (.t 63) (.t 58)), none, 17, [0, 1, 6, 7, 8, 9, 10, 11, 12, 13, 14, 15, 16]⟩, ⟨(some 64), (.isl 1 (.t 49) (.t 52)), none, 18, [0, 1, 2, 3, 4, 5, 6, 7, 8, 9, 10, 11, 12, 13, 14, 15, 16, 17]⟩, ⟨none, (.store 1 (.t 64) (.t 62)), none, 19, [0, 1, 2, 3, 4, 5, 6, 7, 8, 9, 10, 11, 12, 13, 14, 15, 16, 17, 18]⟩]))))
  (.region [⟨(some 34), (.mv (.t 9)), none, 0, []⟩, ⟨(some 35), (.bin .add (.t 34) (.c (.i .i64 1))), none, 1, []⟩, ⟨(some 9), (.mv (.t 35)), none, 2, []⟩])))))))) .skip)))
def x42 : XFun := ⟨x42b, []⟩
theorem x42_ok : compF Try.prog 42 = some x42 := by kernel_rfl
/-- slices.choosePivotOrdered[uint32] (57) -/
def x43b : XC := (.seq (.region [⟨(some 6), (.mv (.c (.i .i64 0))), none, 0, []⟩, ⟨(some 7), (.mv (.c (.i .i64 0))), none, 1, []⟩])
  (.seq (.region [⟨(some 13), (.mv (.t 2)), none, 0, []⟩, ⟨(some 14), (.mv (.t 1)), none, 1, []⟩, ⟨(some 15), (.bin .sub (.t 13) (.t 14)), none, 2, []⟩, ⟨(some 8), (.mv (.t 15)), none, 3, []⟩])
  (.seq (.region [⟨(some 9), (.alloc [(.i .i64 0)]), none, 0, []⟩])
  (.seq (.region [⟨(some 16), (.mv (.t 1)), none, 0, []⟩, ⟨(some 17), (.mv (.t 8)), none, 1, []⟩, ⟨(some 18), (.bin .quo (.t 17) (.c (.i .i64 4))), none, 2, []⟩, ⟨(some 19), (.bin .mul (.t 18) (.c (.i .i64 1))), none, 3, []⟩, ⟨(some 20), (.bin .add (.t 16) (.t 19)), none, 4, []⟩, ⟨(some 10), (.mv (.t 20)), none, 5, []⟩])
  (.seq (.region [⟨(some 21), (.mv (.t 1)), none, 0, []⟩, ⟨(some 22), (.mv (.t 8)), none, 1, []⟩, ⟨(some 23), (.bin .quo (.t 22) (.c (.i .i64 4))), none, 2, []⟩, ⟨(some 24), (.bin .mul (.t 23) (.c (.i .i64 2))), none, 3, []⟩, ⟨(some 25), (.bin .add (.t 21) (.t 24)), none, 4, []⟩, ⟨(some 11), (.mv (.t 25)), none, 5, []⟩])
  (.seq (.region [⟨(some 26), (.mv (.t 1)), none, 0, []⟩, ⟨(some 27), (.mv (.t 8)), none, 1, []⟩, ⟨(some 28), (.bin .quo (.t 27) (.c (.i .i64 4))), none, 2, []⟩, ⟨(some 29), (.bin .mul (.t 28) (.c (.i .i64 3))), none, 3, []⟩, ⟨(some 30), (.bin .add (.t 26) (.t 29)), none, 4, []⟩, ⟨(some 12), (.mv (.t 30)), none, 5, []⟩])
  (.seq (.seq (.region [⟨(some 31), (.mv (.t 8)), none, 0, []⟩, ⟨(some 32), (.bin .geq (.t 31) (.c (.i .i64 8))), none, 1, []⟩])
  (.cond (.t 32) (.seq (.seq (.region [⟨(some 33), (.mv (.t 8)), none, 0, []⟩, ⟨(some 34), (.bin .geq (.t 33) (.c (.i .i64 50))), none, 1, []⟩])
  (.cond (.t 34) (.seq (.region [⟨(some 35), (.mv (.t 0)), none, 0, []⟩, ⟨(some 36), (.mv (.t 10)), none, 1, []⟩, ⟨(some 37), (.call (.c (.fn (.func 54) [] [])) [(.t 35), (.t 36), (.t 9)]), none, 2, []⟩, ⟨(some 10), (.mv (.t 37)), none, 3, []⟩])
  (.seq (.region [⟨(some 38), (.mv (.t 0)), none, 0, []⟩, ⟨(some 39), (.mv (.t 11)), none, 1, []⟩, ⟨(some 40), (.call (.c (.fn (.func 54) [] [])) [(.t 38), (.t 39), (.t 9)]), none, 2, []⟩, ⟨(some 11), (.mv (.t 40)), none, 3, []⟩])
  (.region [⟨(some 41), (.mv (.t 0)), none, 0, []⟩, ⟨(some 42), (.mv (.t 12)), none, 1, []⟩, ⟨(some 43), (.call (.c (.fn (.func 54) [] [])) [(.t 41), (.t 42), (.t 9)]), none, 2, []⟩, ⟨(some 12), (.mv (.t 43)), none, 3, []⟩]))) .skip))
  (.region [⟨(some 44), (.mv (.t 0)), none, 0, []⟩, ⟨(some 45), (.mv (.t 10)), none, 1, []⟩, ⟨(some 46), (.mv (.t 11)), none, 2, []⟩, ⟨(some 47), (.mv (.t 12)), none, 3, []⟩, ⟨(some 48), (.call (.c (.fn (.func 55) [] [])) [(.t 44), (.t 45), (.t 46), (.t 47), (.t 9)]), none, 4, []⟩, ⟨(some 11), (.mv (.t 48)), none, 5, []⟩])) .skip))
  (.seq (.region [⟨(some 49), (.load false 1 (.t 9)), none, 0, []⟩])
  (.block 0 (.seq (.region [⟨(some 52), (.bin .eql (.t 49) (.c (.i .i64 0))), none, 0, []⟩, ⟨(some 51), (.mv (.t 52)), none, 1, []⟩])
  (.cond (.t 51) (.seq (.region [⟨(some 53), (.mv (.t 11)), none, 0, []⟩, ⟨(some 6), (.mv (.t 53)), none, 1, []⟩, ⟨(some 7), (.mv (.c (.i .i64 1))), none, 2, []⟩])
  .ret) (.seq (.region [⟨(some 55), (.bin .eql (.t 49) (.c (.i .i64 12))), none, 0, []⟩, ⟨(some 54), (.mv (.t 55)), none, 1, []⟩])
  (.cond (.t 54) (.seq (.region [⟨(some 56), (.mv (.t 11)), none, 0, []⟩, ⟨(some 6), (.mv (.t 56)), none, 1, []⟩, ⟨(some 7), (.mv (.c (.i .i64 2))), none, 2, []⟩])
  .ret) (.seq (.region [⟨(some 50), (.mv (.t 11)), none, 0, []⟩, ⟨(some 6), (.mv (.t 50)), none, 1, []⟩, ⟨(some 7), (.mv (.c (.i .i64 0))), none, 2, []⟩])
  .ret))))))))))))))
def x43 : XFun := ⟨x43b, [(.t 6), (.t 7)]⟩
theorem x43_ok : compF Try.prog 43 = some x43 := by kernel_rfl
/-- slices.reverseRangeOrdered[uint32] (32) -/
def x44b : XC := (.seq (.region [⟨(some 8), (.mv (.t 1)), none, 0, []⟩, ⟨(some 6), (.mv (.t 8)), none, 1, []⟩])
  (.seq (.region [⟨(some 9), (.mv (.t 2)), none, 0, []⟩, ⟨(some 10), (.bin .sub (.t 9) (.c (.i .i64 1))), none, 1, []⟩, ⟨(some 7), (.mv (.t 10)), none, 2, []⟩])
  (.block 0 (.loop (.seq (.seq (.region [⟨(some 11), (.mv (.t 6)), none, 0, []⟩, ⟨(some 12), (.mv (.t 7)), none, 1, []⟩, ⟨(some 13), (.bin .lss (.t 11) (.t 12)), none, 2, []⟩])
  (.cond (.t 13) .skip (.exit 0)))
  (.block 1 (.seq (.draw [⟨(some 14), (.mv (.t 0)), none, 0, []⟩, ⟨(some 15), (.mv (.t 6)), none, 1, []⟩, ⟨(some 16), (.mv (.t 0)), none, 2, []⟩, ⟨(some 17), (.mv (.t 7)), none, 3, []⟩, ⟨(some 18), (.mv (.t 0)), none, 4, []⟩, ⟨(some 19), (.mv (.t 7)), none, 5, []⟩, ⟨(some 20), (.isl 1 (.t 18) (.t 19)), none, 6, [4, 5]⟩, ⟨(some 22), (.mv (.t 0)), none, 8, []⟩, ⟨(some 23), (.mv (.t 6)), none, 9, []⟩, ⟨(some 24), (.isl 1 (.t 22) (.t 23)), none, 10, [8, 9]⟩, ⟨(some 21), (.load false 1 (.t 20)), none, 7, [4, 5, 6]⟩, ⟨(some 25), (.load false 1 (.t 24)), none, 11, [8, 9, 10]⟩, ⟨(some 26), (.isl 1 (.t 14) (.t 15)), none, 12, [0, 1, 4, 5, 6, 7, 8, 9, 10, 11]⟩, ⟨none, (.store 1 (.t 26) (.t 21)), none, 13, [0, 1, 4, 5, 6, 7, 8, 9, 10, 11, 12]⟩, ⟨(some 27), (.isl 1 (.t 16) (.t 17)), none, 14, [0, 1, 2, 3, 4, 5, 6, 7, 8, 9, 10, 11, 12, 13]⟩, ⟨none, (.store 1 (.t 27) (.t 25)), none, 15, [0, 1, 2, 3, 4, 5, 6, 7, 8, 9, 10, 11, 12, 13, 14]⟩])
  (.seq (.region [⟨(some 28), (.mv (.t 6)), none, 0, []⟩, ⟨(some 29), (.bin .add (.t 28) (.c (.i .i64 1))), none, 1, []⟩, ⟨(some 6), (.mv (.t 29)), none, 2, []⟩])
  (.region [⟨(some 30), (.mv (.t 7)), none, 0, []⟩, ⟨(some 31), (.bin .sub (.t 30) (.c (.i .i64 1))), none, 1, []⟩, ⟨(some 7), (.mv (.t 31)), none, 2, []⟩])))))))))
def x44 : XFun := ⟨x44b, []⟩
theorem x44_ok : compF Try.prog 44 = some x44 := by kernel_rfl
/-- slices.partialInsertionSortOrdered[uint32] (133) -/
def x45b : XC := (.seq (.region [⟨(some 6), (.mv (.c (.b false))), none, 0, []⟩])
  (.seq (.region [⟨(some 11), (.mv (.t 1)), none, 0, []⟩, ⟨(some 12), (.bin .add (.t 11) (.c (.i .i64 1))), none, 1, []⟩, ⟨(some 7), (.mv (.t 12)), none, 2, []⟩])
  (.seq (.seq (.region [⟨(some 8), (.mv (.c (.i .i64 0))), none, 0, []⟩])
  (.block 0 (.loop (.seq (.seq (.region [⟨(some 13), (.mv (.t 8)), none, 0, []⟩, ⟨(some 14), (.bin .lss (.t 13) (.c (.i .i64 5))), none, 1, []⟩])
  (.cond (.t 14) .skip (.exit 0)))
  (.seq (.block 1 (.seq (.block 2 (.loop (.seq (.seq (.draw [⟨(some 17), (.mv (.t 7)), none, 0, []⟩, ⟨(some 18), (.mv (.t 2)), none, 1, []⟩, ⟨(some 19), (.bin .lss (.t 17) (.t 18)), none, 2, [0, 1]⟩, ⟨(some 20), (.mv (.t 19)), none, 3, [0, 1, 2]⟩, ⟨(some 21), (.mv (.t 0)), (some (20, true)), 4, [0, 1, 2, 3]⟩, ⟨(some 22), (.mv (.t 7)), (some (20, true)), 5, [0, 1, 2, 3]⟩, ⟨(some 23), (.isl 1 (.t 21) (.t 22)), (some (20, true)), 6, [0, 1, 2, 3, 4, 5]⟩, ⟨(some 25), (.mv (.t 0)), (some (20, true)), 8, [0, 1, 2, 3]⟩, ⟨(some 26), (.mv (.t 7)), (some (20, true)), 9, [0, 1, 2, 3]⟩, ⟨(some 27), (.bin .sub (.t 26) (.c (.i .i64 1))), (some (20, true)), 10, [0, 1, 2, 3, 9]⟩, ⟨(some 28), (.isl 1 (.t 25) (.t 27)), (some (20, true)), 11, [0, 1, 2, 3, 8, 9, 10]⟩, ⟨(some 24), (.load false 1 (.t 23)), (some (20, true)), 7, [0, 1, 2, 3, 4, 5, 6]⟩, ⟨(some 29), (.load false 1 (.t 28)), (some (20, true)), 12, [0, 1, 2, 3, 8, 9, 10, 11]⟩, ⟨(some 30), (.call (.c (.fn (.func 46) [] [])) [(.t 24), (.t 29)]), (some (20, true)), 13, [0, 1, 2, 3, 4, 5, 6, 7, 8, 9, 10, 11, 12]⟩, ⟨(some 31), (.unx .not (.t 30)), (some (20, true)), 14, [0, 1, 2, 3, 4, 5, 6, 7, 8, 9, 10, 11, 12, 13]⟩, ⟨(some 32), (.pick (.t 20) (.t 31) (.c (.b false))), none, 15, [0, 1, 2, 3, 4, 5, 6, 7, 8, 9, 10, 11, 12, 13, 14]⟩])
  (.cond (.t 32) .skip (.exit 2)))
  (.block 3 (.region [⟨(some 33), (.mv (.t 7)), none, 0, []⟩, ⟨(some 34), (.bin .add (.t 33) (.c (.i .i64 1))), none, 1, []⟩, ⟨(some 7), (.mv (.t 34)), none, 2, []⟩])))))
  (.seq (.seq (.region [⟨(some 35), (.mv (.t 7)), none, 0, []⟩, ⟨(some 36), (.mv (.t 2)), none, 1, []⟩, ⟨(some 37), (.bin .eql (.t 35) (.t 36)), none, 2, []⟩])
  (.cond (.t 37) (.seq (.region [⟨(some 6), (.mv (.c (.b true))), none, 0, []⟩])
  .ret) .skip))
  (.seq (.seq (.region [⟨(some 38), (.mv (.t 2)), none, 0, []⟩, ⟨(some 39), (.mv (.t 1)), none, 1, []⟩, ⟨(some 40), (.bin .sub (.t 38) (.t 39)), none, 2, []⟩, ⟨(some 41), (.bin .lss (.t 40) (.c (.i .i64 50))), none, 3, []⟩])
  (.cond (.t 41) (.seq (.region [⟨(some 6), (.mv (.c (.b false))), none, 0, []⟩])
  .ret) .skip))
  (.seq (.draw [⟨(some 42), (.mv (.t 0)), none, 0, []⟩, ⟨(some 43), (.mv (.t 7)), none, 1, []⟩, ⟨(some 44), (.mv (.t 0)), none, 2, []⟩, ⟨(some 45), (.mv (.t 7)), none, 3, []⟩, ⟨(some 46), (.bin .sub (.t 45) (.c (.i .i64 1))), none, 4, [3]⟩, ⟨(some 47), (.mv (.t 0)), none, 5, []⟩, ⟨(some 48), (.mv (.t 7)), none, 6, []⟩, ⟨(some 49), (.bin .sub (.t 48) (.c (.i .i64 1))), none, 7, [6]⟩, ⟨(some 50), (.isl 1 (.t 47) (.t 49)), none, 8, [5, 6, 7]⟩, ⟨(some 52), (.mv (.t 0)), none, 10, []⟩, ⟨(some 53), (.mv (.t 7)), none, 11, []⟩, ⟨(some 54), (.isl 1 (.t 52) (.t 53)), none, 12, [10, 11]⟩, ⟨(some 51), (.load false 1 (.t 50)), none, 9, [5, 6, 7, 8]⟩, ⟨(some 55), (.load false 1 (.t 54)), none, 13, [10, 11, 12]⟩, ⟨(some 56), (.isl 1 (.t 42) (.t 43)), none, 14, [0, 1, 5, 6, 7, 8, 9, 10, 11, 12, 13]⟩, ⟨none, (.store 1 (.t 56) (.t 51)), none, 15, [0, 1, 5, 6, 7, 8, 9, 10, 11, 12, 13, 14]⟩, ⟨(some 57), (.isl 1 (.t 44) (.t 46)), none, 16, [0, 1, 2, 3, 4, 5, 6, 7, 8, 9, 10, 11, 12, 13, 14, 15]⟩, ⟨none, (.store 1 (.t 57) (.t 55)), none, 17, [0, 1, 2, 3, 4, 5, 6, 7, 8, 9, 10, 11, 12, 13, 14, 15, 16]⟩])
  (.seq (.seq (.region [⟨(some 58), (.mv (.t 7)), none, 0, []⟩, ⟨(some 59), (.mv (.t 1)), none, 1, []⟩, ⟨(some 60), (.bin .sub (.t 58) (.t 59)), none, 2, []⟩, ⟨(some 61), (.bin .geq (.t 60) (.c (.i .i64 2))), none, 3, []⟩])
  (.cond (.t 61) (.seq (.region [⟨(some 62), (.mv (.t 7)), none, 0, []⟩, ⟨(some 63), (.bin .sub (.t 62) (.c (.i .i64 1))), none, 1, []⟩, ⟨(some 9), (.mv (.t 63)), none, 2, []⟩])
  (.block 4 (.loop (.seq (.seq (.region [⟨(some 64), (.mv (.t 9)), none, 0, []⟩, ⟨(some 65), (.bin .geq (.t 64) (.c (.i .i64 1))), none, 1, []⟩])
  (.cond (.t 65) .skip (.exit 4)))
  (.seq (.block 5 (.seq (.seq (.draw [⟨(some 68), (.mv (.t 0)), none, 0, []⟩, ⟨(some 69), (.mv (.t 9)), none, 1, []⟩, ⟨(some 70), (.isl 1 (.t 68) (.t 69)), none, 2, [0, 1]⟩, ⟨(some 72), (.mv (.t 0)), none, 4, []⟩, ⟨(some 73), (.mv (.t 9)), none, 5, []⟩, ⟨(some 74), (.bin .sub (.t 73) (.c (.i .i64 1))), none, 6, [5]⟩, ⟨(some 75), (.isl 1 (.t 72) (.t 74)), none, 7, [4, 5, 6]⟩, ⟨(some 71), (.load false 1 (.t 70)), none, 3, [0, 1, 2]⟩, ⟨(some 76), (.load false 1 (.t 75)), none, 8, [4, 5, 6, 7]⟩, ⟨(some 77), (.call (.c (.fn (.func 46) [] [])) [(.t 71), (.t 76)]), none, 9, [0, 1, 2, 3, 4, 5, 6, 7, 8]⟩, ⟨(some 78), (.unx .not (.t 77)), none, 10, [0, 1, 2, 3, 4, 5, 6, 7, 8, 9]⟩])
  (.cond (.t 78) (.exit 4) .skip))
  (.draw [⟨(some 79), (.mv (.t 0)), none, 0, []⟩, ⟨(some 80), (.mv (.t 9)), none, 1, []⟩, ⟨(some 81), (.mv (.t 0)), none, 2, []⟩, ⟨(some 82), (.mv (.t 9)), none, 3, []⟩, ⟨(some 83), (.bin .sub (.t 82) (.c (.i .i64 1))), none, 4, [3]⟩, ⟨(some 84), (.mv (.t 0)), none, 5, []⟩, ⟨(some 85), (.mv (.t 9)), none, 6, []⟩, ⟨(some 86), (.bin .sub (.t 85) (.c (.i .i64 1))), none, 7, [6]⟩, ⟨(some 87), (.isl 1 (.t 84) (.t 86)), none, 8, [5, 6, 7]⟩, ⟨(some 89), (.mv (.t 0)), none, 10, []⟩, ⟨(some 90), (.mv (.t 9)), none, 11, []⟩, ⟨(some 91), (.isl 1 (.t 89) (.t 90)), none, 12, [10, 11]⟩, ⟨(some 88), (.load false 1 (.t 87)), none, 9, [5, 6, 7, 8]⟩, ⟨(some 92), (.load false 1 (.t 91)), none, 13, [10, 11, 12]⟩, ⟨(some 93), (.isl 1 (.t 79) (.t 80)), none, 14, [0, 1, 5, 6, 7, 8, 9, 10, 11, 12, 13]⟩, ⟨none, (.store 1 (.t 93) (.t 88)), none, 15, [0, 1, 5, 6, 7, 8, 9, 10, 11, 12, 13, 14]⟩, ⟨(some 94), (.isl 1 (.t 81) (.t 83)), none, 16, [0, 1, 2, 3, 4, 5, 6, 7, 8, 9, 10, 11, 12, 13, 14, 15]⟩, ⟨none, (.store 1 (.t 94) (.t 92)), none, 17, [0, 1, 2, 3, 4, 5, 6, 7, 8, 9, 10, 11, 12, 13, 14, 15, 16]⟩])))
  (.region [⟨(some 66), (.mv (.t 9)), none, 0, []⟩, ⟨(some 67), (.bin .sub (.t 66) (.c (.i .i64 1))), none, 1, []⟩, ⟨(some 9), (.mv (.t 67)), none, 2, []⟩])))))) .skip))
  (.seq (.region [⟨(some 95), (.mv (.t 2)), none, 0, []⟩, ⟨(some 96), (.mv (.t 7)), none, 1, []⟩, ⟨(some 97), (.bin .sub (.t 95) (.t 96)), none, 2, []⟩, ⟨(some 98), (.bin .geq (.t 97) (.c (.i .i64 2))), none, 3, []⟩])
  (.cond (.t 98) (.seq (.region [⟨(some 99), (.mv (.t 7)), none, 0, []⟩, ⟨(some 100), (.bin .add (.t 99) (.c (.i .i64 1))), none, 1, []⟩, ⟨(some 10), (.mv (.t 100)), none, 2, []⟩])
  (.block 6 (.loop (.seq (.seq (.region [⟨(some 101), (.mv (.t 10)), none, 0, []⟩, ⟨(some 102), (.mv (.t 2)), none, 1, []⟩, ⟨(some 103), (.bin .lss (.t 101) (.t 102)), none, 2, []⟩])
  (.cond (.t 103) .skip (.exit 6)))
  (.seq (.block 7 (.seq (.seq (.draw [⟨(some 106), (.mv (.t 0)), none, 0, []⟩, ⟨(some 107), (.mv (.t 10)), none, 1, []⟩, ⟨(some 108), (.isl 1 (.t 106) (.t 107)), none, 2, [0, 1]⟩, ⟨(some 110), (.mv (.t 0)), none, 4, []⟩, ⟨(some 111), (.mv (.t 10)), none, 5, []⟩, ⟨(some 112), (.bin .sub (.t 111) (.c (.i .i64 1))), none, 6, [5]⟩, ⟨(some 113), (.isl 1 (.t 110) (.t 112)), none, 7, [4, 5, 6]⟩, ⟨(some 109), (.load false 1 (.t 108)), none, 3, [0, 1, 2]⟩, ⟨(some 114), (.load false 1 (.t 113)), none, 8, [4, 5, 6, 7]⟩, ⟨(some 115), (.call (.c (.fn (.func 46) [] [])) [(.t 109), (.t 114)]), none, 9, [0, 1, 2, 3, 4, 5, 6, 7, 8]⟩, ⟨(some 116), (.unx .not (.t 115)), none, 10, [0, 1, 2, 3, 4, 5, 6, 7, 8, 9]⟩])
  (.cond (.t 116) (.exit 6) .skip))
  (.draw [⟨(some 117), (.mv (.t 0)), none, 0, []⟩, ⟨(some 118), (.mv (.t 10)), none, 1, []⟩, ⟨(some 119), (.mv (.t 0)), none, 2, []⟩, ⟨(some 120), (.mv (.t 10)), none, 3, []⟩, ⟨(some 121), (.bin .sub (.t 120) (.c (.i .i64 1))), none, 4, [3]⟩, ⟨(some 122), (.mv (.t 0)), none, 5, []⟩, ⟨(some 123), (.mv (.t 10)), none, 6, []⟩, ⟨(some 124), (.bin .sub (.t 123) (.c (.i .i64 1))), none, 7, [6]⟩, ⟨(some 125), (.isl 1 (.t 122) (.t 124)), none, 8, [5, 6, 7]⟩, ⟨(some 127), (.mv (.t 0)), none, 10, []⟩, ⟨(some 128), (.mv (.t 10)), none, 11, []⟩, ⟨(some 129), (.isl 1 (.t 127) (.t 128)), none, 12, [10, 11]⟩, ⟨(some 126), (.load false 1 (.t 125)), none, 9, [5, 6, 7, 8]⟩, ⟨(some 130), (.load false 1 (.t 129)), none, 13, [10, 11, 12]⟩, ⟨(some 131), (.isl 1 (.t 117) (.t 118)), none, 14, [0, 1, 5, 6, 7, 8, 9, 10, 11, 12, 13]⟩, ⟨none, (.store 1 (.t 131) (.t 126)), none, 15, [0, 1, 5, 6, 7, 8, 9, 10, 11, 12, 13, 14]⟩, ⟨(some 132), (.isl 1 (.t 119) (.t 121)), none, 16, [0, 1, 2, 3, 4, 5, 6, 7, 8, 9, 10, 11, 12, 13, 14, 15]⟩, ⟨none, (.store 1 (.t 132) (.t 130)), none, 17, [0, 1, 2, 3, 4, 5, 6, 7, 8, 9, 10, 11, 12, 13, 14, 15, 16]⟩])))
  (.region [⟨(some 104), (.mv (.t 10)), none, 0, []⟩, ⟨(some 105), (.bin .add (.t 104) (.c (.i .i64 1))), none, 1, []⟩, ⟨(some 10), (.mv (.t 105)), none, 2, []⟩])))))) .skip))))))))
  (.region [⟨(some 15), (.mv (.t 8)), none, 0, []⟩, ⟨(some 16), (.bin .add (.t 15) (.c (.i .i64 1))), none, 1, []⟩, ⟨(some 8), (.mv (.t 16)), none, 2, []⟩]))))))
  (.seq (.region [⟨(some 6), (.mv (.c (.b false))), none, 0, []⟩])
  .ret))))
def x45 : XFun := ⟨x45b, [(.t 6)]⟩
theorem x45_ok : compF Try.prog 45 = some x45 := by kernel_rfl
/-- cmp.Less[uint32] (17) -/
def x46b : XC := (.seq (.region [⟨(some 4), (.mv (.c (.b false))), none, 0, []⟩])
  (.seq (.region [⟨(some 5), (.mv (.t 0)), none, 0, []⟩, ⟨(some 6), (.call (.c (.fn (.func 56) [] [])) [(.t 5)]), none, 1, []⟩, ⟨(some 7), (.mv (.t 6)), none, 2, []⟩, ⟨(some 8), (.mv (.t 1)), (some (7, true)), 3, []⟩, ⟨(some 9), (.call (.c (.fn (.func 56) [] [])) [(.t 8)]), (some (7, true)), 4, []⟩, ⟨(some 10), (.unx .not (.t 9)), (some (7, true)), 5, []⟩, ⟨(some 11), (.pick (.t 7) (.t 10) (.c (.b false))), none, 6, []⟩, ⟨(some 12), (.mv (.t 11)), none, 7, []⟩, ⟨(some 13), (.mv (.t 0)), (some (12, false)), 8, []⟩, ⟨(some 14), (.mv (.t 1)), (some (12, false)), 9, []⟩, ⟨(some 15), (.bin .lss (.t 13) (.t 14)), (some (12, false)), 10, []⟩, ⟨(some 16), (.pick (.t 12) (.c (.b true)) (.t 15)), none, 11, []⟩, ⟨(some 4), (.mv (.t 16)), none, 12, []⟩])
  .ret))
def x46 : XFun := ⟨x46b, [(.t 4)]⟩
theorem x46_ok : compF Try.prog 46 = some x46 := by kernel_rfl
/-- slices.partitionEqualOrdered[uint32] (84) -/
def x47b : XC := (.seq (.region [⟨(some 8), (.mv (.c (.i .i64 0))), none, 0, []⟩])
  (.seq (.draw [⟨(some 11), (.mv (.t 0)), none, 0, []⟩, ⟨(some 12), (.mv (.t 1)), none, 1, []⟩, ⟨(some 13), (.mv (.t 0)), none, 2, []⟩, ⟨(some 14), (.mv (.t 3)), none, 3, []⟩, ⟨(some 15), (.mv (.t 0)), none, 4, []⟩, ⟨(some 16), (.mv (.t 3)), none, 5, []⟩, ⟨(some 17), (.isl 1 (.t 15) (.t 16)), none, 6, [4, 5]⟩, ⟨(some 19), (.mv (.t 0)), none, 8, []⟩, ⟨(some 20), (.mv (.t 1)), none, 9, []⟩, ⟨(some 21), (.isl 1 (.t 19) (.t 20)), none, 10, [8, 9]⟩, ⟨(some 18), (.load false 1 (.t 17)), none, 7, [4, 5, 6]⟩, ⟨(some 22), (.load false 1 (.t 21)), none, 11, [8, 9, 10]⟩, ⟨(some 23), (.isl 1 (.t 11) (.t 12)), none, 12, [0, 1, 4, 5, 6, 7, 8, 9, 10, 11]⟩, ⟨none, (.store 1 (.t 23) (.t 18)), none, 13, [0, 1, 4, 5, 6, 7, 8, 9, 10, 11, 12]⟩, ⟨(some 24), (.isl 1 (.t 13) (.t 14)), none, 14, [0, 1, 2, 3, 4, 5, 6, 7, 8, 9, 10, 11, 12, 13]⟩, ⟨none, (.store 1 (.t 24) (.t 22)), none, 15, [0, 1, 2, 3, 4, 5, 6, 7, 8, 9, 10, 11, 12, 13, 14]⟩])
  (.seq (.region [⟨(some 25), (.mv (.t 1)), none, 0, []⟩, ⟨(some 26), (.bin .add (.t 25) (.c (.i .i64 1))), none, 1, []⟩, ⟨(some 27), (.mv (.t 2)), none, 2, []⟩, ⟨(some 28), (.bin .sub (.t 27) (.c (.i .i64 1))), none, 3, []⟩, ⟨(some 9), (.mv (.t 26)), none, 4, []⟩, ⟨(some 10), (.mv (.t 28)), none, 5, []⟩])
  (.seq (.block 0 (.loop (.block 1 (.seq (.block 2 (.loop (.seq (.seq (.draw [⟨(some 29), (.mv (.t 9)), none, 0, []⟩, ⟨(some 30), (.mv (.t 10)), none, 1, []⟩, ⟨(some 31), (.bin .leq (.t 29) (.t 30)), none, 2, [0, 1]⟩, ⟨(some 32), (.mv (.t 31)), none, 3, [0, 1, 2]⟩, ⟨(some 33), (.mv (.t 0)), (some (32, true)), 4, [0, 1, 2, 3]⟩, ⟨(some 34), (.mv (.t 1)), (some (32, true)), 5, [0, 1, 2, 3]⟩, ⟨(some 35), (.isl 1 (.t 33) (.t 34)), (some (32, true)), 6, [0, 1, 2, 3, 4, 5]⟩, ⟨(some 37), (.mv (.t 0)), (some (32, true)), 8, [0, 1, 2, 3]⟩, ⟨(some 38), (.mv (.t 9)), (some (32, true)), 9, [0, 1, 2, 3]⟩, ⟨(some 39), (.isl 1 (.t 37) (.t 38)), (some (32, true)), 10, [0, 1, 2, 3, 8, 9]⟩, ⟨(some 36), (.load false 1 (.t 35)), (some (32, true)), 7, [0, 1, 2, 3, 4, 5, 6]⟩, ⟨(some 40), (.load false 1 (.t 39)), (some (32, true)), 11, [0, 1, 2, 3, 8, 9, 10]⟩, ⟨(some 41), (.call (.c (.fn (.func 46) [] [])) [(.t 36), (.t 40)]), (some (32, true)), 12, [0, 1, 2, 3, 4, 5, 6, 7, 8, 9, 10, 11]⟩, ⟨(some 42), (.unx .not (.t 41)), (some (32, true)), 13, [0, 1, 2, 3, 4, 5, 6, 7, 8, 9, 10, 11, 12]⟩, ⟨(some 43), (.pick (.t 32) (.t 42) (.c (.b false))), none, 14, [0, 1, 2, 3, 4, 5, 6, 7, 8, 9, 10, 11, 12, 13]⟩])
  (.cond (.t 43) .skip (.exit 2)))
  (.block 3 (.region [⟨(some 44), (.mv (.t 9)), none, 0, []⟩, ⟨(some 45), (.bin .add (.t 44) (.c (.i .i64 1))), none, 1, []⟩, ⟨(some 9), (.mv (.t 45)), none, 2, []⟩])))))
  (.seq (.block 4 (.loop (.seq (.seq (.draw [⟨(some 46), (.mv (.t 9)), none, 0, []⟩, ⟨(some 47), (.mv (.t 10)), none, 1, []⟩, ⟨(some 48), (.bin .leq (.t 46) (.t 47)), none, 2, [0, 1]⟩, ⟨(some 49), (.mv (.t 48)), none, 3, [0, 1, 2]⟩, ⟨(some 50), (.mv (.t 0)), (some (49, true)), 4, [0, 1, 2, 3]⟩, ⟨(some 51), (.mv (.t 1)), (some (49, true)), 5, [0, 1, 2, 3]⟩, ⟨(some 52), (.isl 1 (.t 50) (.t 51)), (some (49, true)), 6, [0, 1, 2, 3, 4, 5]⟩, ⟨(some 54), (.mv (.t 0)), (some (49, true)), 8, [0, 1, 2, 3]⟩, ⟨(some 55), (.mv (.t 10)), (some (49, true)), 9, [0, 1, 2, 3]⟩, ⟨(some 56), (.isl 1 (.t 54) (.t 55)), (some (49, true)), 10, [0, 1, 2, 3, 8, 9]⟩, ⟨(some 53), (.load false 1 (.t 52)), (some (49, true)), 7, [0, 1, 2, 3, 4, 5, 6]⟩, ⟨(some 57), (.load false 1 (.t 56)), (some (49, true)), 11, [0, 1, 2, 3, 8, 9, 10]⟩, ⟨(some 58), (.call (.c (.fn (.func 46) [] [])) [(.t 53), (.t 57)]), (some (49, true)), 12, [0, 1, 2, 3, 4, 5, 6, 7, 8, 9, 10, 11]⟩, ⟨(some 59), (.pick (.t 49) (.t 58) (.c (.b false))), none, 13, [0, 1, 2, 3, 4, 5, 6, 7, 8, 9, 10, 11, 12]⟩])
  (.cond (.t 59) .skip (.exit 4)))
  (.block 5 (.region [⟨(some 60), (.mv (.t 10)), none, 0, []⟩, ⟨(some 61), (.bin .sub (.t 60) (.c (.i .i64 1))), none, 1, []⟩, ⟨(some 10), (.mv (.t 61)), none, 2, []⟩])))))
  (.seq (.seq (.region [⟨(some 62), (.mv (.t 9)), none, 0, []⟩, ⟨(some 63), (.mv (.t 10)), none, 1, []⟩, ⟨(some 64), (.bin .gtr (.t 62) (.t 63)), none, 2, []⟩])
  (.cond (.t 64) (.exit 0) .skip))
  (.seq (.draw [⟨(some 65), (.mv (.t 0)), none, 0, []⟩, ⟨(some 66), (.mv (.t 9)), none, 1, []⟩, ⟨(some 67), (.mv (.t 0)), none, 2, []⟩, ⟨(some 68), (.mv (.t 10)), none, 3, []⟩, ⟨(some 69), (.mv (.t 0)), none, 4, []⟩, ⟨(some 70), (.mv (.t 10)), none, 5, []⟩, ⟨(some 71), (.isl 1 (.t 69) (.t 70)), none, 6, [4, 5]⟩, ⟨(some 73), (.mv (.t 0)), none, 8, []⟩, ⟨(some 74), (.mv (.t 9)), none, 9, []⟩, ⟨(some 75), (.isl 1 (.t 73) (.t 74)), none, 10, [8, 9]⟩, ⟨(some 72), (.load false 1 (.t 71)), none, 7, [4, 5, 6]⟩, ⟨(some 76), (.load false 1 (.t 75)), none, 11, [8, 9, 10]⟩, ⟨(some 77), (.isl 1 (.t 65) (.t 66)), none, 12, [0, 1, 4, 5, 6, 7, 8, 9, 10, 11]⟩, ⟨none, (.store 1 (.t 77) (.t 72)), none, 13, [0, 1, 4, 5, 6, 7, 8, 9, 10, 11, 12]⟩, ⟨(some 78), (.isl 1 (.t 67) (.t 68)), none, 14, [0, 1, 2, 3, 4, 5, 6, 7, 8, 9, 10, 11, 12, 13]⟩, ⟨none, (.store 1 (.t 78) (.t 76)), none, 15, [0, 1, 2, 3, 4, 5, 6, 7, 8, 9, 10, 11, 12, 13, 14]⟩])
  (.seq (.region [⟨(some 79), (.mv (.t 9)), none, 0, []⟩, ⟨(some 80), (.bin .add (.t 79) (.c (.i .i64 1))), none, 1, []⟩, ⟨(some 9), (.mv (.t 80)), none, 2, []⟩])
  (.region [⟨(some 81), (.mv (.t 10)), none, 0, []⟩, ⟨(some 82), (.bin .sub (.t 81) (.c (.i .i64 1))), none, 1, []⟩, ⟨(some 10), (.mv (.t 82)), none, 2, []⟩])))))))))
  (.seq (.region [⟨(some 83), (.mv (.t 9)), none, 0, []⟩, ⟨(some 8), (.mv (.t 83)), none, 1, []⟩])
  .ret)))))
def x47 : XFun := ⟨x47b, [(.t 8)]⟩
theorem x47_ok : compF Try.prog 47 = some x47 := by kernel_rfl
/-- slices.partitionOrdered[uint32] (168) -/
def x48b : XC := (.seq (.region [⟨(some 8), (.mv (.c (.i .i64 0))), none, 0, []⟩, ⟨(some 9), (.mv (.c (.b false))), none, 1, []⟩])
  (.seq (.draw [⟨(some 12), (.mv (.t 0)), none, 0, []⟩, ⟨(some 13), (.mv (.t 1)), none, 1, []⟩, ⟨(some 14), (.mv (.t 0)), none, 2, []⟩, ⟨(some 15), (.mv (.t 3)), none, 3, []⟩, ⟨(some 16), (.mv (.t 0)), none, 4, []⟩, ⟨(some 17), (.mv (.t 3)), none, 5, []⟩, ⟨(some 18), (.isl 1 (.t 16) (.t 17)), none, 6, [4, 5]⟩, ⟨(some 20), (.mv (.t 0)), none, 8, []⟩, ⟨(some 21), (.mv (.t 1)), none, 9, []⟩, ⟨(some 22), (.isl 1 (.t 20) (.t 21)), none, 10, [8, 9]⟩, ⟨(some 19), (.load false 1 (.t 18)), none, 7, [4, 5, 6]⟩, ⟨(some 23), (.load false 1 (.t 22)), none, 11, [8, 9, 10]⟩, ⟨(some 24), (.isl 1 (.t 12) (.t 13)), none, 12, [0, 1, 4, 5, 6, 7, 8, 9, 10, 11]⟩, ⟨none, (.store 1 (.t 24) (.t 19)), none, 13, [0, 1, 4, 5, 6, 7, 8, 9, 10, 11, 12]⟩, ⟨(some 25), (.isl 1 (.t 14) (.t 15)), none, 14, [0, 1, 2, 3, 4, 5, 6, 7, 8, 9, 10, 11, 12, 13]⟩, ⟨none, (.store 1 (.t 25) (.t 23)), none, 15, [0, 1, 2, 3, 4, 5, 6, 7, 8, 9, 10, 11, 12, 13, 14]⟩])
  (.seq (.region [⟨(some 26), (.mv (.t 1)), none, 0, []⟩, ⟨(some 27), (.bin .add (.t 26) (.c (.i .i64 1))), none, 1, []⟩, ⟨(some 28), (.mv (.t 2)), none, 2, []⟩, ⟨(some 29), (.bin .sub (.t 28) (.c (.i .i64 1))), none, 3, []⟩, ⟨(some 10), (.mv (.t 27)), none, 4, []⟩, ⟨(some 11), (.mv (.t 29)), none, 5, []⟩])
  (.seq (.block 0 (.loop (.seq (.seq (.draw [⟨(some 30), (.mv (.t 10)), none, 0, []⟩, ⟨(some 31), (.mv (.t 11)), none, 1, []⟩, ⟨(some 32), (.bin .leq (.t 30) (.t 31)), none, 2, [0, 1]⟩, ⟨(some 33), (.mv (.t 32)), none, 3, [0, 1, 2]⟩, ⟨(some 34), (.mv (.t 0)), (some (33, true)), 4, [0, 1, 2, 3]⟩, ⟨(some 35), (.mv (.t 10)), (some (33, true)), 5, [0, 1, 2, 3]⟩, ⟨(some 36), (.isl 1 (.t 34) (.t 35)), (some (33, true)), 6, [0, 1, 2, 3, 4, 5]⟩, ⟨(some 38), (.mv (.t 0)), (some (33, true)), 8, [0, 1, 2, 3]⟩, ⟨(some 39), (.mv (.t 1)), (some (33, true)), 9, [0, 1, 2, 3]⟩, ⟨(some 40), (.isl 1 (.t 38) (.t 39)), (some (33, true)), 10, [0, 1, 2, 3, 8, 9]⟩, ⟨(some 37), (.load false 1 (.t 36)), (some (33, true)), 7, [0, 1, 2, 3, 4, 5, 6]⟩, ⟨(some 41), (.load false 1 (.t 40)), (some (33, true)), 11, [0, 1, 2, 3, 8, 9, 10]⟩, ⟨(some 42), (.call (.c (.fn (.func 46) [] [])) [(.t 37), (.t 41)]), (some (33, true)), 12, [0, 1, 2, 3, 4, 5, 6, 7, 8, 9, 10, 11]⟩, ⟨(some 43), (.pick (.t 33) (.t 42) (.c (.b false))), none, 13, [0, 1, 2, 3, 4, 5, 6, 7, 8, 9, 10, 11, 12]⟩])
  (.cond (.t 43) .skip (.exit 0)))
  (.block 1 (.region [⟨(some 44), (.mv (.t 10)), none, 0, []⟩, ⟨(some 45), (.bin .add (.t 44) (.c (.i .i64 1))), none, 1, []⟩, ⟨(some 10), (.mv (.t 45)), none, 2, []⟩])))))
  (.seq (.block 2 (.loop (.seq (.seq (.draw [⟨(some 46), (.mv (.t 10)), none, 0, []⟩, ⟨(some 47), (.mv (.t 11)), none, 1, []⟩, ⟨(some 48), (.bin .leq (.t 46) (.t 47)), none, 2, [0, 1]⟩, ⟨(some 49), (.mv (.t 48)), none, 3, [0, 1, 2]⟩, ⟨(some 50), (.mv (.t 0)), (some (49, true)), 4, [0, 1, 2, 3]⟩, ⟨(some 51), (.mv (.t 11)), (some (49, true)), 5, [0, 1, 2, 3]⟩, ⟨(some 52), (.isl 1 (.t 50) (.t 51)), (some (49, true)), 6, [0, 1, 2, 3, 4, 5]⟩, ⟨(some 54), (.mv (.t 0)), (some (49, true)), 8, [0, 1, 2, 3]⟩, ⟨(some 55), (.mv (.t 1)), (some (49, true)), 9, [0, 1, 2, 3]⟩, ⟨(some 56), (.isl 1 (.t 54) (.t 55)), (some (49, true)), 10, [0, 1, 2, 3, 8, 9]⟩, ⟨(some 53), (.load false 1 (.t 52)), (some (49, true)), 7, [0, 1, 2, 3, 4, 5, 6]⟩, ⟨(some 57), (.load false 1 (.t 56)), (some (49, true)), 11, [0, 1, 2, 3, 8, 9, 10]⟩, ⟨(some 58), (.call (.c (.fn (.func 46) [] [])) [(.t 53), (.t 57)]), (some (49, true)), 12, [0, 1, 2, 3, 4, 5, 6, 7, 8, 9, 10, 11]⟩, ⟨(some 59), (.unx .not (.t 58)), (some (49, true)), 13, [0, 1, 2, 3, 4, 5, 6, 7, 8, 9, 10, 11, 12]⟩, ⟨(some 60), (.pick (.t 49) (.t 59) (.c (.b false))), none, 14, [0, 1, 2, 3, 4, 5, 6, 7, 8, 9, 10, 11, 12, 13]⟩])
  (.cond (.t 60) .skip (.exit 2)))
  (.block 3 (.region [⟨(some 61), (.mv (.t 11)), none, 0, []⟩, ⟨(some 62), (.bin .sub (.t 61) (.c (.i .i64 1))), none, 1, []⟩, ⟨(some 11), (.mv (.t 62)), none, 2, []⟩])))))
  (.seq (.seq (.region [⟨(some 63), (.mv (.t 10)), none, 0, []⟩, ⟨(some 64), (.mv (.t 11)), none, 1, []⟩, ⟨(some 65), (.bin .gtr (.t 63) (.t 64)), none, 2, []⟩])
  (.cond (.t 65) (.seq (.draw [⟨(some 66), (.mv (.t 0)), none, 0, []⟩, ⟨(some 67), (.mv (.t 11)), none, 1, []⟩, ⟨(some 68), (.mv (.t 0)), none, 2, []⟩, ⟨(some 69), (.mv (.t 1)), none, 3, []⟩, ⟨(some 70), (.mv (.t 0)), none, 4, []⟩, ⟨(some 71), (.mv (.t 1)), none, 5, []⟩, ⟨(some 72), (.isl 1 (.t 70) (.t 71)), none, 6, [4, 5]⟩, ⟨(some 74), (.mv (.t 0)), none, 8, []⟩, ⟨(some 75), (.mv (.t 11)), none, 9, []⟩, ⟨(some 76), (.isl 1 (.t 74) (.t 75)), none, 10, [8, 9]⟩, ⟨(some 73), (.load false 1 (.t 72)), none, 7, [4, 5, 6]⟩, ⟨(some 77), (.load false 1 (.t 76)), none, 11, [8, 9, 10]⟩, ⟨(some 78), (.isl 1 (.t 66) (.t 67)), none, 12, [0, 1, 4, 5, 6, 7, 8, 9, 10, 11]⟩, ⟨none, (.store 1 (.t 78) (.t 73)), none, 13, [0, 1, 4, 5, 6, 7, 8, 9, 10, 11, 12]⟩, ⟨(some 79), (.isl 1 (.t 68) (.t 69)), none, 14, [0, 1, 2, 3, 4, 5, 6, 7, 8, 9, 10, 11, 12, 13]⟩, ⟨none, (.store 1 (.t 79) (.t 77)), none, 15, [0, 1, 2, 3, 4, 5, 6, 7, 8, 9, 10, 11, 12, 13, 14]⟩])
  (.seq (.region [⟨(some 80), (.mv (.t 11)), none, 0, []⟩, ⟨(some 8), (.mv (.t 80)), none, 1, []⟩, ⟨(some 9), (.mv (.c (.b true))), none, 2, []⟩])
  .ret)) .skip))
  (.seq (.draw [⟨(some 81), (.mv (.t 0)), none, 0, []⟩, ⟨(some 82), (.mv (.t 10)), none, 1, []⟩, ⟨(some 83), (.mv (.t 0)), none, 2, []⟩, ⟨(some 84), (.mv (.t 11)), none, 3, []⟩, ⟨(some 85), (.mv (.t 0)), none, 4, []⟩, ⟨(some 86), (.mv (.t 11)), none, 5, []⟩, ⟨(some 87), (.isl 1 (.t 85) (.t 86)), none, 6, [4, 5]⟩, ⟨(some 89), (.mv (.t 0)), none, 8, []⟩, ⟨(some 90), (.mv (.t 10)), none, 9, []⟩, ⟨(some 91), (.isl 1 (.t 89) (.t 90)), none, 10, [8, 9]⟩, ⟨(some 88), (.load false 1 (.t 87)), none, 7, [4, 5, 6]⟩, ⟨(some 92), (.load false 1 (.t 91)), none, 11, [8, 9, 10]⟩, ⟨(some 93), (.isl 1 (.t 81) (.t 82)), none, 12, [0, 1, 4, 5, 6, 7, 8, 9, 10, 11]⟩, ⟨none, (.store 1 (.t 93) (.t 88)), none, 13, [0, 1, 4, 5, 6, 7, 8, 9, 10, 11, 12]⟩, ⟨(some 94), (.isl 1 (.t 83) (.t 84)), none, 14, [0, 1, 2, 3, 4, 5, 6, 7, 8, 9, 10, 11, 12, 13]⟩, ⟨none, (.store 1 (.t 94) (.t 92)), none, 15, [0, 1, 2, 3, 4, 5, 6, 7, 8, 9, 10, 11, 12, 13, 14]⟩])
  (.seq (.region [⟨(some 95), (.mv (.t 10)), none, 0, []⟩, ⟨(some 96), (.bin .add (.t 95) (.c (.i .i64 1))), none, 1, []⟩, ⟨(some 10), (.mv (.t 96)), none, 2, []⟩])
  (.seq (.region [⟨(some 97), (.mv (.t 11)), none, 0, []⟩, ⟨(some 98), (.bin .sub (.t 97) (.c (.i .i64 1))), none, 1, []⟩, ⟨(some 11), (.mv (.t 98)), none, 2, []⟩])
  (.seq (.block 4 (.loop (.block 5 (.seq (.block 6 (.loop (.seq (.seq (.draw [⟨(some 99), (.mv (.t 10)), none, 0, []⟩, ⟨(some 100), (.mv (.t 11)), none, 1, []⟩, ⟨(some 101), (.bin .leq (.t 99) (.t 100)), none, 2, [0, 1]⟩, ⟨(some 102), (.mv (.t 101)), none, 3, [0, 1, 2]⟩, ⟨(some 103), (.mv (.t 0)), (some (102, true)), 4, [0, 1, 2, 3]⟩, ⟨(some 104), (.mv (.t 10)), (some (102, true)), 5, [0, 1, 2, 3]⟩, ⟨(some 105), (.isl 1 (.t 103) (.t 104)), (some (102, true)), 6, [0, 1, 2, 3, 4, 5]⟩, ⟨(some 107), (.mv (.t 0)), (some (102, true)), 8, [0, 1, 2, 3]⟩, ⟨(some 108), (.mv (.t 1)), (some (102, true)), 9, [0, 1, 2, 3]⟩, ⟨(some 109), (.isl 1 (.t 107) (.t 108)), (some (102, true)), 10, [0, 1, 2, 3, 8, 9]⟩, ⟨(some 106), (.load false 1 (.t 105)), (some (102, true)), 7, [0, 1, 2, 3, 4, 5, 6]⟩, ⟨(some 110), (.load false 1 (.t 109)), (some (102, true)), 11, [0, 1, 2, 3, 8, 9, 10]⟩, ⟨(some 111), (.call (.c (.fn (.func 46) [] [])) [(.t 106), (.t 110)]), (some (102, true)), 12, [0, 1, 2, 3, 4, 5, 6, 7, 8, 9, 10, 11]⟩, ⟨(some 112), (.pick (.t 102) (.t 111) (.c (.b false))), none, 13, [0, 1, 2, 3, 4, 5, 6, 7, 8, 9, 10, 11, 12]⟩])
  (.cond (.t 112) .skip (.exit 6)))
  (.block 7 (.region [⟨(some 113), (.mv (.t 10)), none, 0, []⟩, ⟨(some 114), (.bin .add (.t 113) (.c (.i .i64 1))), none, 1, []⟩, ⟨(some 10), (.mv (.t 114)), none, 2, []⟩])))))
  (.seq (.block 8 (.loop (.seq (.seq (.draw [⟨(some 115), (.mv (.t 10)), none, 0, []⟩, ⟨(some 116), (.mv (.t 11)), none, 1, []⟩, ⟨(some 117), (.bin .leq (.t 115) (.t 116)), none, 2, [0, 1]⟩, ⟨(some 118), (.mv (.t 117)), none, 3, [0, 1, 2]⟩, ⟨(some 119), (.mv (.t 0)), (some (118, true)), 4, [0, 1, 2, 3]⟩, ⟨(some 120), (.mv (.t 11)), (some (118, true)), 5, [0, 1, 2, 3]⟩, ⟨(some 121), (.isl 1 (.t 119) (.t 120)), (some (118, true)), 6, [0, 1, 2, 3, 4, 5]⟩, ⟨(some 123), (.mv (.t 0)), (some (118, true)), 8, [0, 1, 2, 3]⟩, ⟨(some 124), (.mv (.t 1)), (some (118, true)), 9, [0, 1, 2, 3]⟩, ⟨(some 125), (.isl 1 (.t 123) (.t 124)), (some (118, true)), 10, [0, 1, 2, 3, 8, 9]⟩, ⟨(some 122), (.load false 1 (.t 121)), (some (118, true)), 7, [0, 1, 2, 3, 4, 5, 6]⟩, ⟨(some 126), (.load false 1 (.t 125)), (some (118, true)), 11, [0, 1, 2, 3, 8, 9, 10]⟩, ⟨(some 127), (.call (.c (.fn (.func 46) [] [])) [(.t 122), (.t 126)]), (some (118, true)), 12, [0, 1, 2, 3, 4, 5, 6, 7, 8, 9, 10, 11]⟩, ⟨(some 128), (.unx .not (.t 127)), (some (118, true)), 13, [0, 1, 2, 3, 4, 5, 6, 7, 8, 9, 10, 11, 12]⟩, ⟨(some 129), (.pick (.t 118) (.t 128) (.c (.b false))), none, 14, [0, 1, 2, 3, 4, 5, 6, 7, 8, 9, 10, 11, 12, 13]⟩])
  (.cond (.t 129) .skip (.exit 8)))
  (.block 9 (.region [⟨(some 130), (.mv (.t 11)), none, 0, []⟩, ⟨(some 131), (.bin .sub (.t 130) (.c (.i .i64 1))), none, 1, []⟩, ⟨(some 11), (.mv (.t 131)), none, 2, []⟩])))))
  (.seq (.seq (.region [⟨(some 132), (.mv (.t 10)), none, 0, []⟩, ⟨(some 133), (.mv (.t 11)), none, 1, []⟩, ⟨(some 134), (.bin .gtr (.t 132) (.t 133)), none, 2, []⟩])
  (.cond (.t 134) (.exit 4) .skip))
  (.seq (.draw [⟨(some 135), (.mv (.t 0)), none, 0, []⟩, ⟨(some 136), (.mv (.t 10)), none, 1, []⟩, ⟨(some 137), (.mv (.t 0)), none, 2, []⟩, ⟨(some 138), (.mv (.t 11)), none, 3, []⟩, ⟨(some 139), (.mv (.t 0)), none, 4, []⟩, ⟨(some 140), (.mv (.t 11)), none, 5, []⟩, ⟨(some 141), (.isl 1 (.t 139) (.t 140)), none, 6, [4, 5]⟩, ⟨(some 143), (.mv (.t 0)), none, 8, []⟩, ⟨(some 144), (.mv (.t 10)), none, 9, []⟩, ⟨(some 145), (.isl 1 (.t 143) (.t 144)), none, 10, [8, 9]⟩, ⟨(some 142), (.load false 1 (.t 141)), none, 7, [4, 5, 6]⟩, ⟨(some 146), (.load false 1 (.t 145)), none, 11, [8, 9, 10]⟩, ⟨(some 147), (.isl 1 (.t 135) (.t 136)), none, 12, [0, 1, 4, 5, 6, 7, 8, 9, 10, 11]⟩, ⟨none, (.store 1 (.t 147) (.t 142)), none, 13, [0, 1, 4, 5, 6, 7, 8, 9, 10, 11, 12]⟩, ⟨(some 148), (.isl 1 (.t 137) (.t 138)), none, 14, [0, 1, 2, 3, 4, 5, 6, 7, 8, 9, 10, 11, 12, 13]⟩, ⟨none, (.store 1 (.t 148) (.t 146)), none, 15, [0, 1, 2, 3, 4, 5, 6, 7, 8, 9, 10, 11, 12, 13, 14]⟩])
  (.seq (.region [⟨(some 149), (.mv (.t 10)), none, 0, []⟩, ⟨(some 150), (.bin .add (.t 149) (.c (.i .i64 1))), none, 1, []⟩, ⟨(some 10), (.mv (.t 150)), none, 2, []⟩])
  (.region [⟨(some 151), (.mv (.t 11)), none, 0, []⟩, ⟨(some 152), (.bin .sub (.t 151) (.c (.i .i64 1))), none, 1, []⟩, ⟨(some 11), (.mv (.t 152)), none, 2, []⟩])))))))))
  (.seq (.draw [⟨(some 153), (.mv (.t 0)), none, 0, []⟩, ⟨(some 154), (.mv (.t 11)), none, 1, []⟩, ⟨(some 155), (.mv (.t 0)), none, 2, []⟩, ⟨(some 156), (.mv (.t 1)), none, 3, []⟩, ⟨(some 157), (.mv (.t 0)), none, 4, []⟩, ⟨(some 158), (.mv (.t 1)), none, 5, []⟩, ⟨(some 159), (.isl 1 (.t 157) (.t 158)), none, 6, [4, 5]⟩, ⟨(some 161), (.mv (.t 0)), none, 8, []⟩, ⟨(some 162), (.mv (.t 11)), none, 9, []⟩, ⟨(some 163), (.isl 1 (.t 161) (.t 162)), none, 10, [8, 9]⟩, ⟨(some 160), (.load false 1 (.t 159)), none, 7, [4, 5, 6]⟩, ⟨(some 164), (.load false 1 (.t 163)), none, 11, [8, 9, 10]⟩, ⟨(some 165), (.isl 1 (.t 153) (.t 154)), none, 12, [0, 1, 4, 5, 6, 7, 8, 9, 10, 11]⟩, ⟨none, (.store 1 (.t 165) (.t 160)), none, 13, [0, 1, 4, 5, 6, 7, 8, 9, 10, 11, 12]⟩, ⟨(some 166), (.isl 1 (.t 155) (.t 156)), none, 14, [0, 1, 2, 3, 4, 5, 6, 7, 8, 9, 10, 11, 12, 13]⟩, ⟨none, (.store 1 (.t 166) (.t 164)), none, 15, [0, 1, 2, 3, 4, 5, 6, 7, 8, 9, 10, 11, 12, 13, 14]⟩])
  (.seq (.region [⟨(some 167), (.mv (.t 11)), none, 0, []⟩, ⟨(some 8), (.mv (.t 167)), none, 1, []⟩, ⟨(some 9), (.mv (.c (.b false))), none, 2, []⟩])
  .ret))))))))))))
def x48 : XFun := ⟨x48b, [(.t 8), (.t 9)]⟩
theorem x48_ok : compF Try.prog 48 = some x48 := by kernel_rfl
/-- math/bits.Len32 (19) -/
def x49b : XC := (.seq (.region [⟨(some 2), (.mv (.c (.i .i64 0))), none, 0, []⟩])
  (.seq (.seq (.region [⟨(some 3), (.mv (.t 0)), none, 0, []⟩, ⟨(some 4), (.bin .geq (.t 3) (.c (.i .u32 65536))), none, 1, []⟩])
  (.cond (.t 4) (.seq (.region [⟨(some 5), (.mv (.t 0)), none, 0, []⟩, ⟨(some 6), (.bin .shr (.t 5) (.c (.i .u64 16))), none, 1, []⟩, ⟨(some 0), (.mv (.t 6)), none, 2, []⟩])
  (.region [⟨(some 2), (.mv (.c (.i .i64 16))), none, 0, []⟩])) .skip))
  (.seq (.seq (.region [⟨(some 7), (.mv (.t 0)), none, 0, []⟩, ⟨(some 8), (.bin .geq (.t 7) (.c (.i .u32 256))), none, 1, []⟩])
  (.cond (.t 8) (.seq (.region [⟨(some 9), (.mv (.t 0)), none, 0, []⟩, ⟨(some 10), (.bin .shr (.t 9) (.c (.i .u64 8))), none, 1, []⟩, ⟨(some 0), (.mv (.t 10)), none, 2, []⟩])
  (.region [⟨(some 11), (.mv (.t 2)), none, 0, []⟩, ⟨(some 12), (.bin .add (.t 11) (.c (.i .i64 8))), none, 1, []⟩, ⟨(some 2), (.mv (.t 12)), none, 2, []⟩])) .skip))
  (.seq (.region [⟨(some 13), (.mv (.t 2)), none, 0, []⟩, ⟨(some 14), (.mv (.t 0)), none, 1, []⟩, ⟨(some 15), (.cint .u8 (.t 14)), none, 2, []⟩, ⟨(some 16), (.idxs (.c (.s ⟨#[0, 1, 2, 2, 3, 3, 3, 3, 4, 4, 4, 4, 4, 4, 4, 4, 5, 5, 5, 5, 5, 5, 5, 5, 5, 5, 5, 5, 5, 5, 5, 5, 6, 6, 6, 6, 6, 6, 6, 6, 6, 6, 6, 6, 6, 6, 6, 6, 6, 6, 6, 6, 6, 6, 6, 6, 6, 6, 6, 6, 6, 6, 6, 6, 7, 7, 7, 7, 7, 7, 7, 7, 7, 7, 7, 7, 7, 7, 7, 7, 7, 7, 7, 7, 7, 7, 7, 7, 7, 7, 7, 7, 7, 7, 7, 7, 7, 7, 7, 7, 7, 7, 7, 7, 7, 7, 7, 7, 7, 7, 7, 7, 7, 7, 7, 7, 7, 7, 7, 7, 7, 7, 7, 7, 7, 7, 7, 7, 8, 8, 8, 8, 8, 8, 8, 8, 8, 8, 8, 8, 8, 8, 8, 8, 8, 8, 8, 8, 8, 8, 8, 8, 8, 8, 8, 8, 8, 8, 8, 8, 8, 8, 8, 8, 8, 8, 8, 8, 8, 8, 8, 8, 8, 8, 8, 8, 8, 8, 8, 8, 8, 8, 8, 8, 8, 8, 8, 8, 8, 8, 8, 8, 8, 8, 8, 8, 8, 8, 8, 8, 8, 8, 8, 8, 8, 8, 8, 8, 8, 8, 8, 8, 8, 8, 8, 8, 8, 8, 8, 8, 8, 8, 8, 8, 8, 8, 8, 8, 8, 8, 8, 8, 8, 8, 8, 8, 8, 8, 8, 8, 8, 8, 8, 8, 8, 8, 8, 8, 8, 8, 8, 8, 8, 8, 8, 8]⟩)) (.t 15)), none, 3, []⟩, ⟨(some 17), (.cint .i64 (.t 16)), none, 4, []⟩, ⟨(some 18), (.bin .add (.t 13) (.t 17)), none, 5, []⟩, ⟨(some 2), (.mv (.t 18)), none, 6, []⟩])
  .ret))))
def x49 : XFun := ⟨x49b, [(.t 2)]⟩
theorem x49_ok : compF Try.prog 49 = some x49 := by kernel_rfl
/-- math/bits.Len64 (25) -/
def x50b : XC := (.seq (.region [⟨(some 2), (.mv (.c (.i .i64 0))), none, 0, []⟩])
  (.seq (.seq (.region [⟨(some 3), (.mv (.t 0)), none, 0, []⟩, ⟨(some 4), (.bin .geq (.t 3) (.c (.i .u64 4294967296))), none, 1, []⟩])
  (.cond (.t 4) (.seq (.region [⟨(some 5), (.mv (.t 0)), none, 0, []⟩, ⟨(some 6), (.bin .shr (.t 5) (.c (.i .u64 32))), none, 1, []⟩, ⟨(some 0), (.mv (.t 6)), none, 2, []⟩])
  (.region [⟨(some 2), (.mv (.c (.i .i64 32))), none, 0, []⟩])) .skip))
  (.seq (.seq (.region [⟨(some 7), (.mv (.t 0)), none, 0, []⟩, ⟨(some 8), (.bin .geq (.t 7) (.c (.i .u64 65536))), none, 1, []⟩])
  (.cond (.t 8) (.seq (.region [⟨(some 9), (.mv (.t 0)), none, 0, []⟩, ⟨(some 10), (.bin .shr (.t 9) (.c (.i .u64 16))), none, 1, []⟩, ⟨(some 0), (.mv (.t 10)), none, 2, []⟩])
  (.region [⟨(some 11), (.mv (.t 2)), none, 0, []⟩, ⟨(some 12), (.bin .add (.t 11) (.c (.i .i64 16))), none, 1, []⟩, ⟨(some 2), (.mv (.t 12)), none, 2, []⟩])) .skip))
  (.seq (.seq (.region [⟨(some 13), (.mv (.t 0)), none, 0, []⟩, ⟨(some 14), (.bin .geq (.t 13) (.c (.i .u64 256))), none, 1, []⟩])
  (.cond (.t 14) (.seq (.region [⟨(some 15), (.mv (.t 0)), none, 0, []⟩, ⟨(some 16), (.bin .shr (.t 15) (.c (.i .u64 8))), none, 1, []⟩, ⟨(some 0), (.mv (.t 16)), none, 2, []⟩])
  (.region [⟨(some 17), (.mv (.t 2)), none, 0, []⟩, ⟨(some 18), (.bin .add (.t 17) (.c (.i .i64 8))), none, 1, []⟩, ⟨(some 2), (.mv (.t 18)), none, 2, []⟩])) .skip))
  (.seq (.region [⟨(some 19), (.mv (.t 2)), none, 0, []⟩, ⟨(some 20), (.mv (.t 0)), none, 1, []⟩, ⟨(some 21), (.cint .u8 (.t 20)), none, 2, []⟩, ⟨(some 22), (.idxs (.c (.s ⟨#[0, 1, 2, 2, 3, 3, 3, 3, 4, 4, 4, 4, 4, 4, 4, 4, 5, 5, 5, 5, 5, 5, 5, 5, 5, 5, 5, 5, 5, 5, 5, 5, 6, 6, 6, 6, 6, 6, 6, 6, 6, 6, 6, 6, 6, 6, 6, 6, 6, 6, 6, 6, 6, 6, 6, 6, 6, 6, 6, 6, 6, 6, 6, 6, 7, 7, 7, 7, 7, 7, 7, 7, 7, 7, 7, 7, 7, 7, 7, 7, 7, 7, 7, 7, 7, 7, 7, 7, 7, 7, 7, 7, 7, 7, 7, 7, 7, 7, 7, 7, 7, 7, 7, 7, 7, 7, 7, 7, 7, 7, 7, 7, 7, 7, 7, 7, 7, 7, 7, 7, 7, 7, 7, 7, 7, 7, 7, 7, 8, 8, 8, 8, 8, 8, 8, 8, 8, 8, 8, 8, 8, 8, 8, 8, 8, 8, 8, 8, 8, 8, 8, 8, 8, 8, 8, 8, 8, 8, 8, 8, 8, 8, 8, 8, 8, 8, 8, 8, 8, 8, 8, 8, 8, 8, 8, 8, 8, 8, 8, 8, 8, 8, 8, 8, 8, 8, 8, 8, 8, 8, 8, 8, 8, 8, 8, 8, 8, 8, 8, 8, 8, 8, 8, 8, 8, 8, 8, 8, 8, 8, 8, 8, 8, 8, 8, 8, 8, 8, 8, 8, 8, 8, 8, 8, 8, 8, 8, 8, 8, 8, 8, 8, 8, 8, 8, 8, 8, 8, 8, 8, 8, 8, 8, 8, 8, 8, 8, 8, 8, 8, 8, 8, 8, 8, 8, 8]⟩)) (.t 21)), none, 3, []⟩, ⟨(some 23), (.cint .i64 (.t 22)), none, 4, []⟩, ⟨(some 24), (.bin .add (.t 19) (.t 23)), none, 5, []⟩, ⟨(some 2), (.mv (.t 24)), none, 6, []⟩])
  .ret)))))
def x50 : XFun := ⟨x50b, [(.t 2)]⟩
theorem x50_ok : compF Try.prog 50 = some x50 := by kernel_rfl
/-- slices.siftDownOrdered[uint32] (76) -/
def x51b : XC := (.seq (.region [⟨(some 10), (.mv (.t 1)), none, 0, []⟩, ⟨(some 8), (.mv (.t 10)), none, 1, []⟩])
  (.block 0 (.loop (.block 1 (.seq (.region [⟨(some 11), (.mv (.t 8)), none, 0, []⟩, ⟨(some 12), (.bin .mul (.c (.i .i64 2)) (.t 11)), none, 1, []⟩, ⟨(some 13), (.bin .add (.t 12) (.c (.i .i64 1))), none, 2, []⟩, ⟨(some 9), (.mv (.t 13)), none, 3, []⟩])
  (.seq (.seq (.region [⟨(some 14), (.mv (.t 9)), none, 0, []⟩, ⟨(some 15), (.mv (.t 2)), none, 1, []⟩, ⟨(some 16), (.bin .geq (.t 14) (.t 15)), none, 2, []⟩])
  (.cond (.t 16) (.exit 0) .skip))
  (.seq (.seq (.draw [⟨(some 17), (.mv (.t 9)), none, 0, []⟩, ⟨(some 18), (.bin .add (.t 17) (.c (.i .i64 1))), none, 1, [0]⟩, ⟨(some 19), (.mv (.t 2)), none, 2, []⟩, ⟨(some 20), (.bin .lss (.t 18) (.t 19)), none, 3, [0, 1, 2]⟩, ⟨(some 21), (.mv (.t 20)), none, 4, [0, 1, 2, 3]⟩, ⟨(some 22), (.mv (.t 0)), (some (21, true)), 5, [0, 1, 2, 3, 4]⟩, ⟨(some 23), (.mv (.t 3)), (some (21, true)), 6, [0, 1, 2, 3, 4]⟩, ⟨(some 24), (.mv (.t 9)), (some (21, true)), 7, [0, 1, 2, 3, 4]⟩, ⟨(some 25), (.bin .add (.t 23) (.t 24)), (some (21, true)), 8, [0, 1, 2, 3, 4, 6, 7]⟩, ⟨(some 26), (.isl 1 (.t 22) (.t 25)), (some (21, true)), 9, [0, 1, 2, 3, 4, 5, 6, 7, 8]⟩, ⟨(some 28), (.mv (.t 0)), (some (21, true)), 11, [0, 1, 2, 3, 4]⟩, ⟨(some 29), (.mv (.t 3)), (some (21, true)), 12, [0, 1, 2, 3, 4]⟩, ⟨(some 30), (.mv (.t 9)), (some (21, true)), 13, [0, 1, 2, 3, 4]⟩, ⟨(some 31), (.bin .add (.t 29) (.t 30)), (some (21, true)), 14, [0, 1, 2, 3, 4, 12, 13]⟩, ⟨(some 32), (.bin .add (.t 31) (.c (.i .i64 1))), (some (21, true)), 15, [0, 1, 2, 3, 4, 12, 13, 14]⟩, ⟨(some 33), (.isl 1 (.t 28) (.t 32)), (some (21, true)), 16, [0, 1, 2, 3, 4, 11, 12, 13, 14, 15]⟩, ⟨(some 27), (.load false 1 (.t 26)), (some (21, true)), 10, [0, 1, 2, 3, 4, 5, 6, 7, 8, 9]⟩, ⟨(some 34), (.load false 1 (.t 33)), (some (21, true)), 17, [0, 1, 2, 3, 4, 11, 12, 13, 14, 15, 16]⟩, ⟨(some 35), (.call (.c (.fn (.func 46) [] [])) [(.t 27), (.t 34)]), (some (21, true)), 18, [0, 1, 2, 3, 4, 5, 6, 7, 8, 9, 10, 11, 12, 13, 14, 15, 16, 17]⟩, ⟨(some 36), (.pick (.t 21) (.t 35) (.c (.b false))), none, 19, [0, 1, 2, 3, 4, 5, 6, 7, 8, 9, 10, 11, 12, 13, 14, 15, 16, 17, 18]⟩])
  (.cond (.t 36) (.region [⟨(some 37), (.mv (.t 9)), none, 0, []⟩, ⟨(some 38), (.bin .add (.t 37) (.c (.i .i64 1))), none, 1, []⟩, ⟨(some 9), (.mv (.t 38)), none, 2, []⟩]) .skip))
  (.seq (.seq (.draw [⟨(some 39), (.mv (.t 0)), none, 0, []⟩, ⟨(some 40), (.mv (.t 3)), none, 1, []⟩, ⟨(some 41), (.mv (.t 8)), none, 2, []⟩, ⟨(some 42), (.bin .add (.t 40) (.t 41)), none, 3, [1, 2]⟩, ⟨(some 43), (.isl 1 (.t 39) (.t 42)), none, 4, [0, 1, 2, 3]⟩, ⟨(some 45), (.mv (.t 0)), none, 6, []⟩, ⟨(some 46), (.mv (.t 3)), none, 7, []⟩, ⟨(some 47), (.mv (.t 9)), none, 8, []⟩, ⟨(some 48), (.bin .add (.t 46) (.t 47)), none, 9, [7, 8]⟩, ⟨(some 49), (.isl 1 (.t 45) (.t 48)), none, 10, [6, 7, 8, 9]⟩, ⟨(some 44), (.load false 1 (.t 43)), none, 5, [0, 1, 2, 3, 4]⟩, ⟨(some 50), (.load false 1 (.t 49)), none, 11, [6, 7, 8, 9, 10]⟩, ⟨(some 51), (.call (.c (.fn (.func 46) [] [])) [(.t 44), (.t 50)]), none, 12, [0, 1, 2, 3, 4, 5, 6, 7, 8, 9, 10, 11]⟩, ⟨(some 52), (.unx .not (.t 51)), none, 13, [0, 1, 2, 3, 4, 5, 6, 7, 8, 9, 10, 11, 12]⟩])
  (.cond (.t 52) .ret .skip))
  (.seq (.draw [⟨(some 53), (.mv (.t 0)), none, 0, []⟩, ⟨(some 54), (.mv (.t 3)), none, 1, []⟩, ⟨(some 55), (.mv (.t 8)), none, 2, []⟩, ⟨(some 56), (.bin .add (.t 54) (.t 55)), none, 3, [1, 2]⟩, ⟨(some 57), (.mv (.t 0)), none, 4, []⟩, ⟨(some 58), (.mv (.t 3)), none, 5, []⟩, ⟨(some 59), (.mv (.t 9)), none, 6, []⟩, ⟨(some 60), (.bin .add (.t 58) (.t 59)), none, 7, [5, 6]⟩, ⟨(some 61), (.mv (.t 0)), none, 8, []⟩, ⟨(some 62), (.mv (.t 3)), none, 9, []⟩, ⟨(some 63), (.mv (.t 9)), none, 10, []⟩, ⟨(some 64), (.bin .add (.t 62) (.t 63)), none, 11, [9, 10]⟩, ⟨(some 65), (.isl 1 (.t 61) (.t 64)), none, 12, [8, 9, 10, 11]⟩, ⟨(some 67), (.mv (.t 0)), none, 14, []⟩, ⟨(some 68), (.mv (.t 3)), none, 15, []⟩, ⟨(some 69), (.mv (.t 8)), none, 16, []⟩, ⟨(some 70), (.bin .add (.t 68) (.t 69)), none, 17, [15, 16]⟩, ⟨(some 71), (.isl 1 (.t 67) (.t 70)), none, 18, [14, 15, 16, 17]⟩, ⟨(some 66), (.load false 1 (.t 65)), none, 13, [8, 9, 10, 11, 12]⟩, ⟨(some 72), (.load false 1 (.t 71)), none, 19, [14, 15, 16, 17, 18]⟩, ⟨(some 73), (.isl 1 (.t 53) (.t 56)), none, 20, [0, 1, 2, 3, 8, 9, 10, 11, 12, 13, 14, 15, 16, 17, 18, 19]⟩, ⟨none, (.store 1 (.t 73) (.t 66)), none, 21, [0, 1, 2, 3, 8, 9, 10, 11, 12, 13, 14, 15, 16, 17, 18, 19, 20]⟩, ⟨(some 74), (.isl 1 (.t 57) (.t 60)), none, 22, [0, 1, 2, 3, 4, 5, 6, 7, 8, 9, 10, 11, 12, 13, 14, 15, 16, 17, 18, 19, 20, 21]⟩, ⟨none, (.store 1 (.t 74) (.t 72)), none, 23, [0, 1, 2, 3, 4, 5, 6, 7, 8, 9, 10, 11, 12, 13, 14, 15, 16, 17, 18, 19, 20, 21, 22]⟩])
  (.region [⟨(some 75), (.mv (.t 9)), none, 0, []⟩, ⟨(some 8), (.mv (.t 75)), none, 1, []⟩]))))))))))
def x51 : XFun := ⟨x51b, []⟩
theorem x51_ok : compF Try.prog 51 = some x51 := by kernel_rfl
/-- slices.nextPowerOfTwo (7) -/
def x52b : XC := (.seq (.region [⟨(some 2), (.mv (.c (.i .u64 0))), none, 0, []⟩])
  (.seq (.region [⟨(some 3), (.mv (.t 0)), none, 0, []⟩, ⟨(some 4), (.cint .u64 (.t 3)), none, 1, []⟩, ⟨(some 5), (.call (.c (.fn (.func 38) [] [])) [(.t 4)]), none, 2, []⟩, ⟨(some 6), (.bin .shl (.c (.i .u64 1)) (.t 5)), none, 3, []⟩, ⟨(some 2), (.mv (.t 6)), none, 4, []⟩])
  .ret))
def x52 : XFun := ⟨x52b, [(.t 2)]⟩
theorem x52_ok : compF Try.prog 52 = some x52 := by kernel_rfl
/-- (*slices.xorshift).Next (33) -/
def x53b : XC := (.seq (.region [⟨(some 2), (.mv (.c (.i .u64 0))), none, 0, []⟩])
  (.seq (.draw [⟨(some 3), (.mv (.t 0)), none, 0, []⟩, ⟨(some 4), (.nilc (.t 3)), none, 1, [0]⟩, ⟨(some 6), (.mv (.t 0)), none, 3, []⟩, ⟨(some 7), (.nilc (.t 6)), none, 4, [3]⟩, ⟨(some 5), (.load false 1 (.t 4)), none, 2, [0, 1]⟩, ⟨(some 8), (.load false 1 (.t 7)), none, 5, [3, 4]⟩, ⟨(some 9), (.bin .shl (.t 8) (.c (.i .u64 13))), none, 6, [3, 4, 5]⟩, ⟨(some 10), (.bin .xor (.t 5) (.t 9)), none, 7, [0, 1, 2, 3, 4, 5, 6]⟩, ⟨(some 11), (.nilc (.t 3)), none, 8, [0, 1, 2, 3, 4, 5, 6, 7]⟩, ⟨none, (.store 1 (.t 11) (.t 10)), none, 9, [0, 1, 2, 3, 4, 5, 6, 7, 8]⟩])
  (.seq (.draw [⟨(some 12), (.mv (.t 0)), none, 0, []⟩, ⟨(some 13), (.nilc (.t 12)), none, 1, [0]⟩, ⟨(some 15), (.mv (.t 0)), none, 3, []⟩, ⟨(some 16), (.nilc (.t 15)), none, 4, [3]⟩, ⟨(some 14), (.load false 1 (.t 13)), none, 2, [0, 1]⟩, ⟨(some 17), (.load false 1 (.t 16)), none, 5, [3, 4]⟩, ⟨(some 18), (.bin .shr (.t 17) (.c (.i .u64 7))), none, 6, [3, 4, 5]⟩, ⟨(some 19), (.bin .xor (.t 14) (.t 18)), none, 7, [0, 1, 2, 3, 4, 5, 6]⟩, ⟨(some 20), (.nilc (.t 12)), none, 8, [0, 1, 2, 3, 4, 5, 6, 7]⟩, ⟨none, (.store 1 (.t 20) (.t 19)), none, 9, [0, 1, 2, 3, 4, 5, 6, 7, 8]⟩])
  (.seq (.draw [⟨(some 21), (.mv (.t 0)), none, 0, []⟩, ⟨(some 22), (.nilc (.t 21)), none, 1, [0]⟩, ⟨(some 24), (.mv (.t 0)), none, 3, []⟩, ⟨(some 25), (.nilc (.t 24)), none, 4, [3]⟩, ⟨(some 23), (.load false 1 (.t 22)), none, 2, [0, 1]⟩, ⟨(some 26), (.load false 1 (.t 25)), none, 5, [3, 4]⟩, ⟨(some 27), (.bin .shl (.t 26) (.c (.i .u64 17))), none, 6, [3, 4, 5]⟩, ⟨(some 28), (.bin .xor (.t 23) (.t 27)), none, 7, [0, 1, 2, 3, 4, 5, 6]⟩, ⟨(some 29), (.nilc (.t 21)), none, 8, [0, 1, 2, 3, 4, 5, 6, 7]⟩, ⟨none, (.store 1 (.t 29) (.t 28)), none, 9, [0, 1, 2, 3, 4, 5, 6, 7, 8]⟩])
  (.seq (.region [⟨(some 30), (.mv (.t 0)), none, 0, []⟩, ⟨(some 31), (.nilc (.t 30)), none, 1, []⟩, ⟨(some 32), (.load false 1 (.t 31)), none, 2, []⟩, ⟨(some 2), (.mv (.t 32)), none, 3, []⟩])
  .ret)))))
def x53 : XFun := ⟨x53b, [(.t 2)]⟩
theorem x53_ok : compF Try.prog 53 = some x53 := by kernel_rfl
/-- slices.medianAdjacentOrdered[uint32] (15) -/
def x54b : XC := (.seq (.region [⟨(some 6), (.mv (.c (.i .i64 0))), none, 0, []⟩])
  (.seq (.region [⟨(some 7), (.mv (.t 0)), none, 0, []⟩, ⟨(some 8), (.mv (.t 1)), none, 1, []⟩, ⟨(some 9), (.bin .sub (.t 8) (.c (.i .i64 1))), none, 2, []⟩, ⟨(some 10), (.mv (.t 1)), none, 3, []⟩, ⟨(some 11), (.mv (.t 1)), none, 4, []⟩, ⟨(some 12), (.bin .add (.t 11) (.c (.i .i64 1))), none, 5, []⟩, ⟨(some 13), (.mv (.t 2)), none, 6, []⟩, ⟨(some 14), (.call (.c (.fn (.func 55) [] [])) [(.t 7), (.t 9), (.t 10), (.t 12), (.t 13)]), none, 7, []⟩, ⟨(some 6), (.mv (.t 14)), none, 8, []⟩])
  .ret))
def x54 : XFun := ⟨x54b, [(.t 6)]⟩
theorem x54_ok : compF Try.prog 54 = some x54 := by kernel_rfl
/-- slices.medianOrdered[uint32] (36) -/
def x55b : XC := (.seq (.region [⟨(some 10), (.mv (.c (.i .i64 0))), none, 0, []⟩])
  (.seq (.region [⟨(some 12), (.mv (.t 0)), none, 0, []⟩, ⟨(some 13), (.mv (.t 1)), none, 1, []⟩, ⟨(some 14), (.mv (.t 2)), none, 2, []⟩, ⟨(some 15), (.mv (.t 4)), none, 3, []⟩, ⟨(some 16), (.call (.c (.fn (.func 57) [] [])) [(.t 12), (.t 13), (.t 14), (.t 15)]), none, 4, []⟩, ⟨(some 11), (.mv (.t 16)), none, 5, []⟩, ⟨(some 17), (.ext (.t 11) 0), none, 6, []⟩, ⟨(some 18), (.ext (.t 11) 1), none, 7, []⟩, ⟨(some 1), (.mv (.t 17)), none, 8, []⟩, ⟨(some 2), (.mv (.t 18)), none, 9, []⟩])
  (.seq (.region [⟨(some 20), (.mv (.t 0)), none, 0, []⟩, ⟨(some 21), (.mv (.t 2)), none, 1, []⟩, ⟨(some 22), (.mv (.t 3)), none, 2, []⟩, ⟨(some 23), (.mv (.t 4)), none, 3, []⟩, ⟨(some 24), (.call (.c (.fn (.func 57) [] [])) [(.t 20), (.t 21), (.t 22), (.t 23)]), none, 4, []⟩, ⟨(some 19), (.mv (.t 24)), none, 5, []⟩, ⟨(some 25), (.ext (.t 19) 0), none, 6, []⟩, ⟨(some 26), (.ext (.t 19) 1), none, 7, []⟩, ⟨(some 2), (.mv (.t 25)), none, 8, []⟩, ⟨(some 3), (.mv (.t 26)), none, 9, []⟩])
  (.seq (.region [⟨(some 28), (.mv (.t 0)), none, 0, []⟩, ⟨(some 29), (.mv (.t 1)), none, 1, []⟩, ⟨(some 30), (.mv (.t 2)), none, 2, []⟩, ⟨(some 31), (.mv (.t 4)), none, 3, []⟩, ⟨(some 32), (.call (.c (.fn (.func 57) [] [])) [(.t 28), (.t 29), (.t 30), (.t 31)]), none, 4, []⟩, ⟨(some 27), (.mv (.t 32)), none, 5, []⟩, ⟨(some 33), (.ext (.t 27) 0), none, 6, []⟩, ⟨(some 34), (.ext (.t 27) 1), none, 7, []⟩, ⟨(some 1), (.mv (.t 33)), none, 8, []⟩, ⟨(some 2), (.mv (.t 34)), none, 9, []⟩])
  (.seq (.region [⟨(some 35), (.mv (.t 2)), none, 0, []⟩, ⟨(some 10), (.mv (.t 35)), none, 1, []⟩])
  .ret)))))
def x55 : XFun := ⟨x55b, [(.t 10)]⟩
theorem x55_ok : compF Try.prog 55 = some x55 := by kernel_rfl
/-- cmp.isNaN[uint32] (6) -/
def x56b : XC := (.seq (.region [⟨(some 2), (.mv (.c (.b false))), none, 0, []⟩])
  (.seq (.region [⟨(some 3), (.mv (.t 0)), none, 0, []⟩, ⟨(some 4), (.mv (.t 0)), none, 1, []⟩, ⟨(some 5), (.bin .neq (.t 3) (.t 4)), none, 2, []⟩, ⟨(some 2), (.mv (.t 5)), none, 3, []⟩])
  .ret))
def x56 : XFun := ⟨x56b, [(.t 2)]⟩
theorem x56_ok : compF Try.prog 56 = some x56 := by kernel_rfl
/-- slices.order2Ordered[uint32] (28) -/
def x57b : XC := (.seq (.region [⟨(some 8), (.mv (.c (.i .i64 0))), none, 0, []⟩, ⟨(some 9), (.mv (.c (.i .i64 0))), none, 1, []⟩])
  (.seq (.seq (.draw [⟨(some 10), (.mv (.t 0)), none, 0, []⟩, ⟨(some 11), (.mv (.t 2)), none, 1, []⟩, ⟨(some 12), (.isl 1 (.t 10) (.t 11)), none, 2, [0, 1]⟩, ⟨(some 14), (.mv (.t 0)), none, 4, []⟩, ⟨(some 15), (.mv (.t 1)), none, 5, []⟩, ⟨(some 16), (.isl 1 (.t 14) (.t 15)), none, 6, [4, 5]⟩, ⟨(some 13), (.load false 1 (.t 12)), none, 3, [0, 1, 2]⟩, ⟨(some 17), (.load false 1 (.t 16)), none, 7, [4, 5, 6]⟩, ⟨(some 18), (.call (.c (.fn (.func 46) [] [])) [(.t 13), (.t 17)]), none, 8, [0, 1, 2, 3, 4, 5, 6, 7]⟩])
  (.cond (.t 18) (.seq (.region [⟨(some 19), (.mv (.t 3)), none, 0, []⟩, ⟨(some 20), (.nilc (.t 19)), none, 1, []⟩, ⟨(some 21), (.load false 1 (.t 20)), none, 2, []⟩, ⟨(some 22), (.bin .add (.t 21) (.c (.i .i64 1))), none, 3, []⟩, ⟨(some 23), (.nilc (.t 19)), none, 4, []⟩, ⟨none, (.store 1 (.t 23) (.t 22)), none, 5, []⟩])
  (.seq (.region [⟨(some 24), (.mv (.t 2)), none, 0, []⟩, ⟨(some 25), (.mv (.t 1)), none, 1, []⟩, ⟨(some 8), (.mv (.t 24)), none, 2, []⟩, ⟨(some 9), (.mv (.t 25)), none, 3, []⟩])
  .ret)) .skip))
  (.seq (.region [⟨(some 26), (.mv (.t 1)), none, 0, []⟩, ⟨(some 27), (.mv (.t 2)), none, 1, []⟩, ⟨(some 8), (.mv (.t 26)), none, 2, []⟩, ⟨(some 9), (.mv (.t 27)), none, 3, []⟩])
  .ret)))
def x57 : XFun := ⟨x57b, [(.t 8), (.t 9)]⟩
theorem x57_ok : compF Try.prog 57 = some x57 := by kernel_rfl
def tab : Nat → Option XFun := fun g => match g with
  | 3 => some x3
  | 4 => some x4
  | 5 => some x5
  | 6 => some x6
  | 7 => some x7
  | 8 => some x8
  | 9 => some x9
  | 10 => some x10
  | 11 => some x11
  | 12 => some x12
  | 13 => some x13
  | 14 => some x14
  | 15 => some x15
  | 16 => some x16
  | 17 => some x17
  | 18 => some x18
  | 19 => some x19
  | 20 => some x20
  | 21 => some x21
  | 22 => some x22
  | 23 => some x23
  | 24 => some x24
  | 25 => some x25
  | 26 => some x26
  | 27 => some x27
  | 28 => some x28
  | 29 => some x29
  | 30 => some x30
  | 31 => some x31
  | 32 => some x32
  | 33 => some x33
  | 34 => some x34
  | 35 => some x35
  | 36 => some x36
  | 37 => some x37
  | 38 => some x38
  | 39 => some x39
  | 40 => some x40
  | 41 => some x41
  | 42 => some x42
  | 43 => some x43
  | 44 => some x44
  | 45 => some x45
  | 46 => some x46
  | 47 => some x47
  | 48 => some x48
  | 49 => some x49
  | 50 => some x50
  | 51 => some x51
  | 52 => some x52
  | 53 => some x53
  | 54 => some x54
  | 55 => some x55
  | 56 => some x56
  | 57 => some x57
  | _ => none
theorem tab_ok : TabOK Try.prog tab := by
  intro g F h
  unfold tab at h
  split at h
  · cases h; exact x3_ok
  · cases h; exact x4_ok
  · cases h; exact x5_ok
  · cases h; exact x6_ok
  · cases h; exact x7_ok
  · cases h; exact x8_ok
  · cases h; exact x9_ok
  · cases h; exact x10_ok
  · cases h; exact x11_ok
  · cases h; exact x12_ok
  · cases h; exact x13_ok
  · cases h; exact x14_ok
  · cases h; exact x15_ok
  · cases h; exact x16_ok
  · cases h; exact x17_ok
  · cases h; exact x18_ok
  · cases h; exact x19_ok
  · cases h; exact x20_ok
  · cases h; exact x21_ok
  · cases h; exact x22_ok
  · cases h; exact x23_ok
  · cases h; exact x24_ok
  · cases h; exact x25_ok
  · cases h; exact x26_ok
  · cases h; exact x27_ok
  · cases h; exact x28_ok
  · cases h; exact x29_ok
  · cases h; exact x30_ok
  · cases h; exact x31_ok
  · cases h; exact x32_ok
  · cases h; exact x33_ok
  · cases h; exact x34_ok
  · cases h; exact x35_ok
  · cases h; exact x36_ok
  · cases h; exact x37_ok
  · cases h; exact x38_ok
  · cases h; exact x39_ok
  · cases h; exact x40_ok
  · cases h; exact x41_ok
  · cases h; exact x42_ok
  · cases h; exact x43_ok
  · cases h; exact x44_ok
  · cases h; exact x45_ok
  · cases h; exact x46_ok
  · cases h; exact x47_ok
  · cases h; exact x48_ok
  · cases h; exact x49_ok
  · cases h; exact x50_ok
  · cases h; exact x51_ok
  · cases h; exact x52_ok
  · cases h; exact x53_ok
  · cases h; exact x54_ok
  · cases h; exact x55_ok
  · cases h; exact x56_ok
  · cases h; exact x57_ok
  · cases h
end Go.Proofs.Ytjheedfobmlalaa.E
