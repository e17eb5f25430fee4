/- The compiled functions of the seat, as told by the evaluator's compiler; written by a program of this session, wip/eng/px.lean. It bears no condition. -/
import Derived.Test.YtipcacpaadgagaaE19
import Derived.Test.YtipcacpaadgagaaChecked
namespace Go.Proofs.Ytipcacpaadgagaa.E
set_option linter.unusedVariables false
/-- bollard/bollardlaw15.SendqTwice (136) -/
def x3b : XC := (.seq (.region [⟨(some 10), (.mv (.c (.b false))), none, 0, []⟩])
  (.seq (.region [⟨(some 23), (.call (.c (.fn (.func 10) [] [])) []), none, 0, []⟩, ⟨(some 11), (.mv (.t 23)), none, 1, []⟩])
  (.seq (.seq (.region [⟨(some 24), (.mv (.t 3)), none, 0, []⟩, ⟨(some 25), (.lenx (.t 24)), none, 1, []⟩, ⟨(some 26), (.bin .gtr (.t 25) (.c (.i .i64 20))), none, 2, []⟩])
  (.cond (.t 26) (.seq (.region [⟨(some 27), (.mv (.t 11)), none, 0, []⟩, ⟨(some 10), (.mv (.t 27)), none, 1, []⟩])
  .ret) .skip))
  (.seq (.region [⟨(some 28), (.mv (.t 1)), none, 0, []⟩, ⟨(some 29), (.bin .and (.t 28) (.c (.i .i64 31))), none, 1, []⟩, ⟨(some 12), (.mv (.t 29)), none, 2, []⟩])
  (.seq (.region [⟨(some 30), (.mv (.t 0)), none, 0, []⟩, ⟨(some 31), (.call (.c (.fn (.func 11) [] [])) [(.t 30)]), none, 1, []⟩, ⟨(some 13), (.mv (.t 31)), none, 2, []⟩])
  (.seq (.seq (.region [⟨(some 14), (.mv (.c (.i .i64 0))), none, 0, []⟩])
  (.block 0 (.loop (.seq (.seq (.region [⟨(some 32), (.mv (.t 14)), none, 0, []⟩, ⟨(some 33), (.mv (.t 12)), none, 1, []⟩, ⟨(some 34), (.bin .lss (.t 32) (.t 33)), none, 2, []⟩])
  (.cond (.t 34) .skip (.exit 0)))
  (.seq (.block 1 (.seq (.region [⟨(some 37), (.mv (.t 13)), none, 0, []⟩, ⟨(some 38), (.call (.c (.fn (.func 13) [] [])) [(.c (.i .i64 3))]), none, 1, []⟩, ⟨(some 39), (.bslice [(.i .u8 0), (.i .u8 0), (.i .u32 0), (.i .u32 0), (.i .u16 0), (.i .u16 0), (.i .u32 0), (.sl none 0 0 0), (.sl none 0 0 0), (.sl none 0 0 0), (.sl none 0 0 0), (.sl none 0 0 0)] [(0, 12, (.t 38))] 1), none, 2, []⟩, ⟨(some 40), (.call (.c (.fn (.func 12) [] [])) [(.t 37), (.t 39), (.c (.i .i64 (-1))), (.c (.i .i64 (-1)))]), none, 3, []⟩, ⟨(some 41), (.bin .neq (.t 40) (.c (.i .i64 0))), none, 4, []⟩])
  (.cond (.t 41) (.seq (.region [⟨(some 10), (.mv (.c (.b false))), none, 0, []⟩])
  .ret) .skip)))
  (.region [⟨(some 35), (.mv (.t 14)), none, 0, []⟩, ⟨(some 36), (.bin .add (.t 35) (.c (.i .i64 1))), none, 1, []⟩, ⟨(some 14), (.mv (.t 36)), none, 2, []⟩]))))))
  (.seq (.region [⟨(some 42), (.mv (.t 13)), none, 0, []⟩, ⟨(some 43), (.call (.c (.fn (.func 14) [] [])) [(.t 42), (.c (.i .i64 0)), (.c (.i .i64 1048576))]), none, 1, []⟩])
  (.seq (.region [⟨(some 44), (.mv (.t 0)), none, 0, []⟩, ⟨(some 45), (.bin .sub (.t 44) (.c (.i .u32 1))), none, 1, []⟩, ⟨(some 46), (.mv (.t 2)), none, 2, []⟩, ⟨(some 47), (.bin .and (.t 46) (.c (.i .i64 65535))), none, 3, []⟩, ⟨(some 48), (.mv (.t 12)), none, 4, []⟩, ⟨(some 49), (.bin .add (.t 48) (.c (.i .i64 1))), none, 5, []⟩, ⟨(some 50), (.bin .rem (.t 47) (.t 49)), none, 6, []⟩, ⟨(some 51), (.cint .u32 (.t 50)), none, 7, []⟩, ⟨(some 52), (.bin .add (.t 45) (.t 51)), none, 8, []⟩, ⟨(some 15), (.mv (.t 52)), none, 9, []⟩])
  (.seq (.region [⟨(some 54), (.mv (.t 13)), none, 0, []⟩, ⟨(some 55), (.mv (.t 15)), none, 1, []⟩, ⟨(some 56), (.mv (.t 3)), none, 2, []⟩, ⟨(some 57), (.mv (.t 4)), none, 3, []⟩, ⟨(some 58), (.call (.c (.fn (.func 16) [] [])) [(.t 57)]), none, 4, []⟩, ⟨(some 59), (.call (.c (.fn (.func 15) [] [])) [(.t 54), (.t 55), (.t 56), (.t 58)]), none, 5, []⟩, ⟨(some 53), (.mv (.t 59)), none, 6, []⟩, ⟨(some 60), (.ext (.t 53) 0), none, 7, []⟩, ⟨(some 61), (.ext (.t 53) 1), none, 8, []⟩, ⟨(some 16), (.alloc [(.i .i64 0), (.i .i64 0), (.b false), (.b false)]), none, 9, []⟩, ⟨none, (.store 4 (.t 16) (.t 60)), none, 10, []⟩, ⟨(some 17), (.mv (.t 61)), none, 11, []⟩])
  (.seq (.region [⟨(some 62), (.mv (.t 13)), none, 0, []⟩, ⟨(some 63), (.call (.c (.fn (.func 17) [] [])) [(.t 62)]), none, 1, []⟩, ⟨(some 18), (.mv (.t 63)), none, 2, []⟩])
  (.seq (.region [⟨(some 64), (.mv (.t 13)), none, 0, []⟩, ⟨(some 65), (.call (.c (.fn (.func 18) [] [])) [(.t 64)]), none, 1, []⟩, ⟨(some 19), (.mv (.t 65)), none, 2, []⟩])
  (.seq (.region [⟨(some 66), (.mv (.t 13)), none, 0, []⟩, ⟨(some 67), (.call (.c (.fn (.func 19) [] [])) [(.t 66)]), none, 1, []⟩, ⟨(some 20), (.mv (.t 67)), none, 2, []⟩])
  (.seq (.region [⟨(some 69), (.mv (.t 13)), none, 0, []⟩, ⟨(some 70), (.mv (.t 15)), none, 1, []⟩, ⟨(some 71), (.mv (.t 3)), none, 2, []⟩, ⟨(some 72), (.mv (.t 4)), none, 3, []⟩, ⟨(some 73), (.call (.c (.fn (.func 16) [] [])) [(.t 72)]), none, 4, []⟩, ⟨(some 74), (.call (.c (.fn (.func 15) [] [])) [(.t 69), (.t 70), (.t 71), (.t 73)]), none, 5, []⟩, ⟨(some 68), (.mv (.t 74)), none, 6, []⟩, ⟨(some 75), (.ext (.t 68) 0), none, 7, []⟩, ⟨(some 76), (.ext (.t 68) 1), none, 8, []⟩, ⟨(some 21), (.alloc [(.i .i64 0), (.i .i64 0), (.b false), (.b false)]), none, 9, []⟩, ⟨none, (.store 4 (.t 21) (.t 75)), none, 10, []⟩, ⟨(some 22), (.mv (.t 76)), none, 11, []⟩])
  (.seq (.region [⟨(some 77), (.mv (.t 11)), none, 0, []⟩, ⟨(some 78), (.mv (.t 77)), none, 1, []⟩, ⟨(some 79), (.mv (.t 17)), (some (78, true)), 2, []⟩, ⟨(some 80), (.pick (.t 78) (.t 79) (.c (.b false))), none, 3, []⟩, ⟨(some 81), (.mv (.t 80)), none, 4, []⟩, ⟨(some 82), (.mv (.t 22)), (some (81, true)), 5, []⟩, ⟨(some 83), (.pick (.t 81) (.t 82) (.c (.b false))), none, 6, []⟩, ⟨(some 84), (.mv (.t 83)), none, 7, []⟩, ⟨(some 85), (.mv (.t 18)), (some (84, true)), 8, []⟩, ⟨(some 86), (.mv (.t 15)), (some (84, true)), 9, []⟩, ⟨(some 87), (.bin .eql (.t 85) (.t 86)), (some (84, true)), 10, []⟩, ⟨(some 88), (.pick (.t 84) (.t 87) (.c (.b false))), none, 11, []⟩, ⟨(some 89), (.mv (.t 88)), none, 12, []⟩, ⟨(some 90), (.mv (.t 13)), (some (89, true)), 13, []⟩, ⟨(some 91), (.call (.c (.fn (.func 17) [] [])) [(.t 90)]), (some (89, true)), 14, []⟩, ⟨(some 92), (.mv (.t 15)), (some (89, true)), 15, []⟩, ⟨(some 93), (.bin .eql (.t 91) (.t 92)), (some (89, true)), 16, []⟩, ⟨(some 94), (.pick (.t 89) (.t 93) (.c (.b false))), none, 17, []⟩, ⟨(some 95), (.mv (.t 94)), none, 18, []⟩, ⟨(some 96), (.mv (.t 13)), (some (95, true)), 19, []⟩, ⟨(some 97), (.call (.c (.fn (.func 18) [] [])) [(.t 96)]), (some (95, true)), 20, []⟩, ⟨(some 98), (.mv (.t 19)), (some (95, true)), 21, []⟩, ⟨(some 99), (.bin .eql (.t 97) (.t 98)), (some (95, true)), 22, []⟩, ⟨(some 100), (.pick (.t 95) (.t 99) (.c (.b false))), none, 23, []⟩, ⟨(some 101), (.mv (.t 100)), none, 24, []⟩, ⟨(some 102), (.fadd 0 (.t 21)), (some (101, true)), 25, []⟩, ⟨(some 103), (.load false 1 (.t 102)), (some (101, true)), 26, []⟩, ⟨(some 104), (.bin .eql (.t 103) (.c (.i .i64 0))), (some (101, true)), 27, []⟩, ⟨(some 105), (.pick (.t 101) (.t 104) (.c (.b false))), none, 28, []⟩, ⟨(some 106), (.mv (.t 105)), none, 29, []⟩, ⟨(some 107), (.fadd 3 (.t 21)), (some (106, true)), 30, []⟩, ⟨(some 108), (.load false 1 (.t 107)), (some (106, true)), 31, []⟩, ⟨(some 109), (.unx .not (.t 108)), (some (106, true)), 32, []⟩, ⟨(some 110), (.pick (.t 106) (.t 109) (.c (.b false))), none, 33, []⟩, ⟨(some 111), (.mv (.t 110)), none, 34, []⟩, ⟨(some 112), (.fadd 1 (.t 21)), (some (111, true)), 35, []⟩, ⟨(some 113), (.load false 1 (.t 112)), (some (111, true)), 36, []⟩, ⟨(some 114), (.bin .eql (.t 113) (.c (.i .i64 (-1)))), (some (111, true)), 37, []⟩, ⟨(some 115), (.pick (.t 111) (.t 114) (.c (.b false))), none, 38, []⟩, ⟨(some 116), (.mv (.t 115)), none, 39, []⟩, ⟨(some 117), (.fadd 2 (.t 21)), (some (116, true)), 40, []⟩, ⟨(some 118), (.load false 1 (.t 117)), (some (116, true)), 41, []⟩, ⟨(some 119), (.unx .not (.t 118)), (some (116, true)), 42, []⟩, ⟨(some 120), (.pick (.t 116) (.t 119) (.c (.b false))), none, 43, []⟩, ⟨(some 121), (.mv (.t 120)), none, 44, []⟩, ⟨(some 122), (.mv (.t 13)), (some (121, true)), 45, []⟩, ⟨(some 123), (.call (.c (.fn (.func 19) [] [])) [(.t 122)]), (some (121, true)), 46, []⟩, ⟨(some 124), (.mv (.t 20)), (some (121, true)), 47, []⟩, ⟨(some 125), (.bin .eql (.t 123) (.t 124)), (some (121, true)), 48, []⟩, ⟨(some 126), (.pick (.t 121) (.t 125) (.c (.b false))), none, 49, []⟩, ⟨(some 127), (.mv (.t 126)), none, 50, []⟩, ⟨(some 128), (.fadd 0 (.t 16)), (some (127, true)), 51, []⟩, ⟨(some 129), (.load false 1 (.t 128)), (some (127, true)), 52, []⟩, ⟨(some 130), (.mv (.t 20)), (some (127, true)), 53, []⟩, ⟨(some 131), (.bin .add (.t 129) (.t 130)), (some (127, true)), 54, []⟩, ⟨(some 132), (.mv (.t 12)), (some (127, true)), 55, []⟩, ⟨(some 133), (.bin .mul (.c (.i .i64 3)) (.t 132)), (some (127, true)), 56, []⟩, ⟨(some 134), (.bin .eql (.t 131) (.t 133)), (some (127, true)), 57, []⟩, ⟨(some 135), (.pick (.t 127) (.t 134) (.c (.b false))), none, 58, []⟩, ⟨(some 10), (.mv (.t 135)), none, 59, []⟩])
  .ret))))))))))))))
def x3 : XFun := ⟨x3b, [(.t 10)]⟩
theorem x3_ok : compF Try.prog 3 = some x3 := by kernel_rfl
/-- bollard/bollardlaw15.SendqRoom (118) -/
def x4b : XC := (.seq (.region [⟨(some 6), (.mv (.c (.b false))), none, 0, []⟩])
  (.seq (.region [⟨(some 16), (.call (.c (.fn (.func 10) [] [])) []), none, 0, []⟩, ⟨(some 7), (.mv (.t 16)), none, 1, []⟩])
  (.seq (.seq (.region [⟨(some 17), (.mv (.t 1)), none, 0, []⟩, ⟨(some 18), (.lenx (.t 17)), none, 1, []⟩, ⟨(some 19), (.bin .gtr (.t 18) (.c (.i .i64 100))), none, 2, []⟩])
  (.cond (.t 19) (.seq (.region [⟨(some 20), (.mv (.t 7)), none, 0, []⟩, ⟨(some 6), (.mv (.t 20)), none, 1, []⟩])
  .ret) .skip))
  (.seq (.region [⟨(some 21), (.mv (.t 0)), none, 0, []⟩, ⟨(some 22), (.call (.c (.fn (.func 11) [] [])) [(.t 21)]), none, 1, []⟩, ⟨(some 8), (.mv (.t 22)), none, 2, []⟩])
  (.seq (.region [⟨(some 9), (.mv (.c (.i .i64 0))), none, 0, []⟩])
  (.seq (.seq (.region [⟨(some 10), (.mv (.c (.i .i64 0))), none, 0, []⟩])
  (.block 0 (.loop (.seq (.seq (.region [⟨(some 23), (.mv (.t 10)), none, 0, []⟩, ⟨(some 24), (.mv (.t 1)), none, 1, []⟩, ⟨(some 25), (.lenx (.t 24)), none, 2, []⟩, ⟨(some 26), (.bin .lss (.t 23) (.t 25)), none, 3, []⟩])
  (.cond (.t 26) .skip (.exit 0)))
  (.seq (.block 1 (.seq (.region [⟨(some 29), (.mv (.t 1)), none, 0, []⟩, ⟨(some 30), (.mv (.t 10)), none, 1, []⟩, ⟨(some 31), (.isl 1 (.t 29) (.t 30)), none, 2, []⟩, ⟨(some 32), (.load false 1 (.t 31)), none, 3, []⟩, ⟨(some 33), (.bin .and (.t 32) (.c (.i .i64 1023))), none, 4, []⟩, ⟨(some 34), (.bin .add (.c (.i .i64 1)) (.t 33)), none, 5, []⟩, ⟨(some 11), (.mv (.t 34)), none, 6, []⟩])
  (.seq (.seq (.region [⟨(some 35), (.mv (.t 8)), none, 0, []⟩, ⟨(some 36), (.mv (.t 11)), none, 1, []⟩, ⟨(some 37), (.call (.c (.fn (.func 13) [] [])) [(.t 36)]), none, 2, []⟩, ⟨(some 38), (.bslice [(.i .u8 0), (.i .u8 0), (.i .u32 0), (.i .u32 0), (.i .u16 0), (.i .u16 0), (.i .u32 0), (.sl none 0 0 0), (.sl none 0 0 0), (.sl none 0 0 0), (.sl none 0 0 0), (.sl none 0 0 0)] [(0, 12, (.t 37))] 1), none, 3, []⟩, ⟨(some 39), (.call (.c (.fn (.func 12) [] [])) [(.t 35), (.t 38), (.c (.i .i64 (-1))), (.c (.i .i64 (-1)))]), none, 4, []⟩, ⟨(some 40), (.bin .neq (.t 39) (.c (.i .i64 0))), none, 5, []⟩])
  (.cond (.t 40) (.seq (.region [⟨(some 6), (.mv (.c (.b false))), none, 0, []⟩])
  .ret) .skip))
  (.region [⟨(some 41), (.mv (.t 9)), none, 0, []⟩, ⟨(some 42), (.mv (.t 11)), none, 1, []⟩, ⟨(some 43), (.bin .add (.t 41) (.t 42)), none, 2, []⟩, ⟨(some 9), (.mv (.t 43)), none, 3, []⟩]))))
  (.region [⟨(some 27), (.mv (.t 10)), none, 0, []⟩, ⟨(some 28), (.bin .add (.t 27) (.c (.i .i64 1))), none, 1, []⟩, ⟨(some 10), (.mv (.t 28)), none, 2, []⟩]))))))
  (.seq (.region [⟨(some 44), (.mv (.t 8)), none, 0, []⟩, ⟨(some 45), (.mv (.t 2)), none, 1, []⟩, ⟨(some 46), (.call (.c (.fn (.func 14) [] [])) [(.t 44), (.c (.i .i64 7)), (.t 45)]), none, 2, []⟩, ⟨(some 12), (.mv (.t 46)), none, 3, []⟩])
  (.seq (.region [⟨(some 13), (.mv (.c (.i .i64 0))), none, 0, []⟩])
  (.seq (.seq (.region [⟨(some 14), (.mv (.c (.i .i64 0))), none, 0, []⟩])
  (.block 2 (.loop (.seq (.seq (.region [⟨(some 47), (.mv (.t 14)), none, 0, []⟩, ⟨(some 48), (.mv (.t 12)), none, 1, []⟩, ⟨(some 49), (.lenx (.t 48)), none, 2, []⟩, ⟨(some 50), (.bin .lss (.t 47) (.t 49)), none, 3, []⟩])
  (.cond (.t 50) .skip (.exit 2)))
  (.seq (.block 3 (.seq (.seq (.region [⟨(some 53), (.mv (.t 12)), none, 0, []⟩, ⟨(some 54), (.mv (.t 14)), none, 1, []⟩, ⟨(some 55), (.isl 12 (.t 53) (.t 54)), none, 2, []⟩, ⟨(some 56), (.fadd 2 (.t 55)), none, 3, []⟩, ⟨(some 57), (.load false 1 (.t 56)), none, 4, []⟩, ⟨(some 58), (.mv (.t 0)), none, 5, []⟩, ⟨(some 59), (.mv (.t 14)), none, 6, []⟩, ⟨(some 60), (.cint .u32 (.t 59)), none, 7, []⟩, ⟨(some 61), (.bin .add (.t 58) (.t 60)), none, 8, []⟩, ⟨(some 62), (.bin .neq (.t 57) (.t 61)), none, 9, []⟩])
  (.cond (.t 62) (.seq (.region [⟨(some 6), (.mv (.c (.b false))), none, 0, []⟩])
  .ret) .skip))
  (.region [⟨(some 63), (.mv (.t 13)), none, 0, []⟩, ⟨(some 64), (.mv (.t 12)), none, 1, []⟩, ⟨(some 65), (.mv (.t 14)), none, 2, []⟩, ⟨(some 66), (.isl 12 (.t 64) (.t 65)), none, 3, []⟩, ⟨(some 67), (.fadd 11 (.t 66)), none, 4, []⟩, ⟨(some 68), (.load false 1 (.t 67)), none, 5, []⟩, ⟨(some 69), (.lenx (.t 68)), none, 6, []⟩, ⟨(some 70), (.bin .add (.t 63) (.t 69)), none, 7, []⟩, ⟨(some 13), (.mv (.t 70)), none, 8, []⟩])))
  (.region [⟨(some 51), (.mv (.t 14)), none, 0, []⟩, ⟨(some 52), (.bin .add (.t 51) (.c (.i .i64 1))), none, 1, []⟩, ⟨(some 14), (.mv (.t 52)), none, 2, []⟩]))))))
  (.seq (.region [⟨(some 15), (.mv (.c (.i .i64 0))), none, 0, []⟩])
  (.seq (.seq (.region [⟨(some 71), (.mv (.t 12)), none, 0, []⟩, ⟨(some 72), (.lenx (.t 71)), none, 1, []⟩, ⟨(some 73), (.mv (.t 1)), none, 2, []⟩, ⟨(some 74), (.lenx (.t 73)), none, 3, []⟩, ⟨(some 75), (.bin .lss (.t 72) (.t 74)), none, 4, []⟩])
  (.cond (.t 75) (.region [⟨(some 76), (.mv (.t 1)), none, 0, []⟩, ⟨(some 77), (.mv (.t 12)), none, 1, []⟩, ⟨(some 78), (.lenx (.t 77)), none, 2, []⟩, ⟨(some 79), (.isl 1 (.t 76) (.t 78)), none, 3, []⟩, ⟨(some 80), (.load false 1 (.t 79)), none, 4, []⟩, ⟨(some 81), (.bin .and (.t 80) (.c (.i .i64 1023))), none, 5, []⟩, ⟨(some 82), (.bin .add (.c (.i .i64 1)) (.t 81)), none, 6, []⟩, ⟨(some 15), (.mv (.t 82)), none, 7, []⟩]) .skip))
  (.seq (.region [⟨(some 83), (.mv (.t 7)), none, 0, []⟩, ⟨(some 84), (.mv (.t 83)), none, 1, []⟩, ⟨(some 85), (.mv (.t 13)), (some (84, true)), 2, []⟩, ⟨(some 86), (.mv (.t 2)), (some (84, true)), 3, []⟩, ⟨(some 87), (.bin .leq (.t 85) (.t 86)), (some (84, true)), 4, []⟩, ⟨(some 88), (.mv (.t 87)), (some (84, true)), 5, []⟩, ⟨(some 89), (.mv (.t 13)), (some (88, false)), 6, []⟩, ⟨(some 90), (.bin .eql (.t 89) (.c (.i .i64 0))), (some (88, false)), 7, []⟩, ⟨(some 91), (.pick (.t 88) (.c (.b true)) (.t 90)), (some (84, true)), 8, []⟩, ⟨(some 92), (.pick (.t 84) (.t 91) (.c (.b false))), none, 9, []⟩, ⟨(some 93), (.mv (.t 92)), none, 10, []⟩, ⟨(some 94), (.mv (.t 8)), (some (93, true)), 11, []⟩, ⟨(some 95), (.call (.c (.fn (.func 19) [] [])) [(.t 94)]), (some (93, true)), 12, []⟩, ⟨(some 96), (.mv (.t 13)), (some (93, true)), 13, []⟩, ⟨(some 97), (.bin .eql (.t 95) (.t 96)), (some (93, true)), 14, []⟩, ⟨(some 98), (.pick (.t 93) (.t 97) (.c (.b false))), none, 15, []⟩, ⟨(some 99), (.mv (.t 98)), none, 16, []⟩, ⟨(some 100), (.mv (.t 8)), (some (99, true)), 17, []⟩, ⟨(some 101), (.call (.c (.fn (.func 20) [] [])) [(.t 100)]), (some (99, true)), 18, []⟩, ⟨(some 102), (.mv (.t 9)), (some (99, true)), 19, []⟩, ⟨(some 103), (.mv (.t 13)), (some (99, true)), 20, []⟩, ⟨(some 104), (.bin .sub (.t 102) (.t 103)), (some (99, true)), 21, []⟩, ⟨(some 105), (.bin .eql (.t 101) (.t 104)), (some (99, true)), 22, []⟩, ⟨(some 106), (.pick (.t 99) (.t 105) (.c (.b false))), none, 23, []⟩, ⟨(some 107), (.mv (.t 106)), none, 24, []⟩, ⟨(some 108), (.mv (.t 15)), (some (107, true)), 25, []⟩, ⟨(some 109), (.bin .eql (.t 108) (.c (.i .i64 0))), (some (107, true)), 26, []⟩, ⟨(some 110), (.mv (.t 109)), (some (107, true)), 27, []⟩, ⟨(some 111), (.mv (.t 13)), (some (110, false)), 28, []⟩, ⟨(some 112), (.mv (.t 15)), (some (110, false)), 29, []⟩, ⟨(some 113), (.bin .add (.t 111) (.t 112)), (some (110, false)), 30, []⟩, ⟨(some 114), (.mv (.t 2)), (some (110, false)), 31, []⟩, ⟨(some 115), (.bin .gtr (.t 113) (.t 114)), (some (110, false)), 32, []⟩, ⟨(some 116), (.pick (.t 110) (.c (.b true)) (.t 115)), (some (107, true)), 33, []⟩, ⟨(some 117), (.pick (.t 107) (.t 116) (.c (.b false))), none, 34, []⟩, ⟨(some 6), (.mv (.t 117)), none, 35, []⟩])
  .ret))))))))))))
def x4 : XFun := ⟨x4b, [(.t 6)]⟩
theorem x4_ok : compF Try.prog 4 = some x4 := by kernel_rfl
/-- bollard/bollardlaw15.SendqAll (134) -/
def x5b : XC := (.seq (.region [⟨(some 6), (.mv (.c (.b false))), none, 0, []⟩])
  (.seq (.region [⟨(some 20), (.call (.c (.fn (.func 10) [] [])) []), none, 0, []⟩, ⟨(some 7), (.mv (.t 20)), none, 1, []⟩])
  (.seq (.seq (.region [⟨(some 21), (.mv (.t 2)), none, 0, []⟩, ⟨(some 22), (.lenx (.t 21)), none, 1, []⟩, ⟨(some 23), (.bin .gtr (.t 22) (.c (.i .i64 300))), none, 2, []⟩])
  (.cond (.t 23) (.seq (.region [⟨(some 24), (.mv (.t 7)), none, 0, []⟩, ⟨(some 6), (.mv (.t 24)), none, 1, []⟩])
  .ret) .skip))
  (.seq (.region [⟨(some 25), (.mv (.t 1)), none, 0, []⟩, ⟨(some 26), (.bin .and (.t 25) (.c (.i .i64 31))), none, 1, []⟩, ⟨(some 8), (.mv (.t 26)), none, 2, []⟩])
  (.seq (.region [⟨(some 27), (.mv (.t 0)), none, 0, []⟩, ⟨(some 28), (.call (.c (.fn (.func 11) [] [])) [(.t 27)]), none, 1, []⟩, ⟨(some 9), (.mv (.t 28)), none, 2, []⟩])
  (.seq (.seq (.region [⟨(some 10), (.mv (.c (.i .i64 0))), none, 0, []⟩])
  (.block 0 (.loop (.seq (.seq (.region [⟨(some 29), (.mv (.t 10)), none, 0, []⟩, ⟨(some 30), (.mv (.t 8)), none, 1, []⟩, ⟨(some 31), (.bin .lss (.t 29) (.t 30)), none, 2, []⟩])
  (.cond (.t 31) .skip (.exit 0)))
  (.seq (.block 1 (.seq (.region [⟨(some 34), (.mv (.t 9)), none, 0, []⟩, ⟨(some 35), (.mv (.t 10)), none, 1, []⟩, ⟨(some 36), (.bin .add (.c (.i .i64 1)) (.t 35)), none, 2, []⟩, ⟨(some 37), (.call (.c (.fn (.func 13) [] [])) [(.t 36)]), none, 3, []⟩, ⟨(some 38), (.bslice [(.i .u8 0), (.i .u8 0), (.i .u32 0), (.i .u32 0), (.i .u16 0), (.i .u16 0), (.i .u32 0), (.sl none 0 0 0), (.sl none 0 0 0), (.sl none 0 0 0), (.sl none 0 0 0), (.sl none 0 0 0)] [(0, 12, (.t 37))] 1), none, 4, []⟩, ⟨(some 39), (.call (.c (.fn (.func 12) [] [])) [(.t 34), (.t 38), (.c (.i .i64 (-1))), (.c (.i .i64 (-1)))]), none, 5, []⟩, ⟨(some 40), (.bin .neq (.t 39) (.c (.i .i64 0))), none, 6, []⟩])
  (.cond (.t 40) (.seq (.region [⟨(some 6), (.mv (.c (.b false))), none, 0, []⟩])
  .ret) .skip)))
  (.region [⟨(some 32), (.mv (.t 10)), none, 0, []⟩, ⟨(some 33), (.bin .add (.t 32) (.c (.i .i64 1))), none, 1, []⟩, ⟨(some 10), (.mv (.t 33)), none, 2, []⟩]))))))
  (.seq (.region [⟨(some 41), (.mv (.t 8)), none, 0, []⟩, ⟨(some 42), (.mkslice [(.b false)] 1 (.t 41) (.t 41)), none, 1, []⟩, ⟨(some 11), (.mv (.t 42)), none, 2, []⟩])
  (.seq (.region [⟨(some 12), (.mv (.c (.i .i64 0))), none, 0, []⟩])
  (.seq (.seq (.region [⟨(some 13), (.mv (.c (.i .i64 0))), none, 0, []⟩])
  (.block 2 (.loop (.seq (.seq (.region [⟨(some 43), (.mv (.t 9)), none, 0, []⟩, ⟨(some 44), (.call (.c (.fn (.func 18) [] [])) [(.t 43)]), none, 1, []⟩, ⟨(some 45), (.bin .gtr (.t 44) (.c (.i .i64 0))), none, 2, []⟩])
  (.cond (.t 45) .skip (.exit 2)))
  (.seq (.block 3 (.seq (.seq (.region [⟨(some 48), (.mv (.t 13)), none, 0, []⟩, ⟨(some 49), (.bin .gtr (.t 48) (.c (.i .i64 400))), none, 1, []⟩])
  (.cond (.t 49) (.seq (.region [⟨(some 6), (.mv (.c (.b false))), none, 0, []⟩])
  .ret) .skip))
  (.seq (.region [⟨(some 50), (.mv (.t 9)), none, 0, []⟩, ⟨(some 51), (.mv (.t 13)), none, 1, []⟩, ⟨(some 52), (.call (.c (.fn (.func 14) [] [])) [(.t 50), (.t 51), (.c (.i .i64 1073741824))]), none, 2, []⟩, ⟨(some 14), (.mv (.t 52)), none, 3, []⟩])
  (.seq (.seq (.region [⟨(some 15), (.mv (.c (.i .i64 0))), none, 0, []⟩])
  (.block 4 (.loop (.seq (.seq (.region [⟨(some 53), (.mv (.t 15)), none, 0, []⟩, ⟨(some 54), (.mv (.t 14)), none, 1, []⟩, ⟨(some 55), (.lenx (.t 54)), none, 2, []⟩, ⟨(some 56), (.bin .lss (.t 53) (.t 55)), none, 3, []⟩])
  (.cond (.t 56) .skip (.exit 4)))
  (.seq (.block 5 (.seq (.region [⟨(some 59), (.mv (.t 12)), none, 0, []⟩, ⟨(some 60), (.bin .add (.t 59) (.c (.i .i64 1))), none, 1, []⟩, ⟨(some 12), (.mv (.t 60)), none, 2, []⟩])
  (.seq (.region [⟨(some 61), (.mv (.t 0)), none, 0, []⟩, ⟨(some 62), (.mv (.t 14)), none, 1, []⟩, ⟨(some 63), (.mv (.t 15)), none, 2, []⟩, ⟨(some 64), (.isl 12 (.t 62) (.t 63)), none, 3, []⟩, ⟨(some 65), (.fadd 2 (.t 64)), none, 4, []⟩, ⟨(some 66), (.load false 1 (.t 65)), none, 5, []⟩, ⟨(some 67), (.call (.c (.fn (.func 21) [] [])) [(.t 61), (.t 66)]), none, 6, []⟩, ⟨(some 68), (.cint .i64 (.t 67)), none, 7, []⟩, ⟨(some 16), (.mv (.t 68)), none, 8, []⟩])
  (.seq (.seq (.region [⟨(some 69), (.mv (.t 16)), none, 0, []⟩, ⟨(some 70), (.mv (.t 8)), none, 1, []⟩, ⟨(some 71), (.bin .geq (.t 69) (.t 70)), none, 2, []⟩])
  (.cond (.t 71) (.seq (.region [⟨(some 6), (.mv (.c (.b false))), none, 0, []⟩])
  .ret) .skip))
  (.seq (.region [⟨(some 72), (.mv (.t 12)), none, 0, []⟩, ⟨(some 73), (.mv (.t 2)), none, 1, []⟩, ⟨(some 74), (.lenx (.t 73)), none, 2, []⟩, ⟨(some 75), (.bin .gtr (.t 72) (.t 74)), none, 3, []⟩, ⟨(some 76), (.mv (.t 75)), none, 4, []⟩, ⟨(some 77), (.mv (.t 2)), (some (76, false)), 5, []⟩, ⟨(some 78), (.mv (.t 12)), (some (76, false)), 6, []⟩, ⟨(some 79), (.bin .sub (.t 78) (.c (.i .i64 1))), (some (76, false)), 7, []⟩, ⟨(some 80), (.isl 1 (.t 77) (.t 79)), (some (76, false)), 8, []⟩, ⟨(some 81), (.load false 1 (.t 80)), (some (76, false)), 9, []⟩, ⟨(some 82), (.unx .not (.t 81)), (some (76, false)), 10, []⟩, ⟨(some 83), (.pick (.t 76) (.c (.b true)) (.t 82)), none, 11, []⟩])
  (.cond (.t 83) (.region [⟨(some 84), (.mv (.t 11)), none, 0, []⟩, ⟨(some 85), (.mv (.t 16)), none, 1, []⟩, ⟨(some 86), (.isl 1 (.t 84) (.t 85)), none, 2, []⟩, ⟨none, (.store 1 (.t 86) (.c (.b true))), none, 3, []⟩]) .skip))))))
  (.region [⟨(some 57), (.mv (.t 15)), none, 0, []⟩, ⟨(some 58), (.bin .add (.t 57) (.c (.i .i64 1))), none, 1, []⟩, ⟨(some 15), (.mv (.t 58)), none, 2, []⟩]))))))
  (.seq (.region [⟨(some 17), (.mv (.c (.i .i64 0))), none, 0, []⟩])
  (.seq (.block 6 (.loop (.seq (.seq (.region [⟨(some 87), (.mv (.t 17)), none, 0, []⟩, ⟨(some 88), (.mv (.t 8)), none, 1, []⟩, ⟨(some 89), (.bin .lss (.t 87) (.t 88)), none, 2, []⟩, ⟨(some 90), (.mv (.t 89)), none, 3, []⟩, ⟨(some 91), (.mv (.t 11)), (some (90, true)), 4, []⟩, ⟨(some 92), (.mv (.t 17)), (some (90, true)), 5, []⟩, ⟨(some 93), (.isl 1 (.t 91) (.t 92)), (some (90, true)), 6, []⟩, ⟨(some 94), (.load false 1 (.t 93)), (some (90, true)), 7, []⟩, ⟨(some 95), (.pick (.t 90) (.t 94) (.c (.b false))), none, 8, []⟩])
  (.cond (.t 95) .skip (.exit 6)))
  (.block 7 (.region [⟨(some 96), (.mv (.t 17)), none, 0, []⟩, ⟨(some 97), (.bin .add (.t 96) (.c (.i .i64 1))), none, 1, []⟩, ⟨(some 17), (.mv (.t 97)), none, 2, []⟩])))))
  (.seq (.seq (.region [⟨(some 99), (.mv (.t 9)), none, 0, []⟩, ⟨(some 100), (.mv (.t 0)), none, 1, []⟩, ⟨(some 101), (.mv (.t 17)), none, 2, []⟩, ⟨(some 102), (.cint .u32 (.t 101)), none, 3, []⟩, ⟨(some 103), (.bin .add (.t 100) (.t 102)), none, 4, []⟩, ⟨(some 104), (.bin .sub (.t 103) (.c (.i .u32 1))), none, 5, []⟩, ⟨(some 105), (.mv (.t 13)), none, 6, []⟩, ⟨(some 106), (.call (.c (.fn (.func 15) [] [])) [(.t 99), (.t 104), (.c (.sl none 0 0 0)), (.t 105)]), none, 7, []⟩, ⟨(some 98), (.mv (.t 106)), none, 8, []⟩, ⟨(some 107), (.ext (.t 98) 0), none, 9, []⟩, ⟨(some 108), (.ext (.t 98) 1), none, 10, []⟩, ⟨(some 18), (.alloc [(.i .i64 0), (.i .i64 0), (.b false), (.b false)]), none, 11, []⟩, ⟨none, (.store 4 (.t 18) (.t 107)), none, 12, []⟩, ⟨(some 19), (.mv (.t 108)), none, 13, []⟩])
  (.seq (.region [⟨(some 109), (.mv (.t 19)), none, 0, []⟩, ⟨(some 110), (.unx .not (.t 109)), none, 1, []⟩])
  (.cond (.t 110) (.seq (.region [⟨(some 6), (.mv (.c (.b false))), none, 0, []⟩])
  .ret) .skip)))
  (.region [⟨(some 111), (.mv (.t 9)), none, 0, []⟩, ⟨(some 112), (.call (.c (.fn (.func 22) [] [])) [(.t 111)]), none, 1, []⟩]))))))))
  (.region [⟨(some 46), (.mv (.t 13)), none, 0, []⟩, ⟨(some 47), (.bin .add (.t 46) (.c (.i .i64 1))), none, 1, []⟩, ⟨(some 13), (.mv (.t 47)), none, 2, []⟩]))))))
  (.seq (.region [⟨(some 113), (.mv (.t 7)), none, 0, []⟩, ⟨(some 114), (.mv (.t 113)), none, 1, []⟩, ⟨(some 115), (.mv (.t 9)), (some (114, true)), 2, []⟩, ⟨(some 116), (.call (.c (.fn (.func 19) [] [])) [(.t 115)]), (some (114, true)), 3, []⟩, ⟨(some 117), (.bin .eql (.t 116) (.c (.i .i64 0))), (some (114, true)), 4, []⟩, ⟨(some 118), (.pick (.t 114) (.t 117) (.c (.b false))), none, 5, []⟩, ⟨(some 119), (.mv (.t 118)), none, 6, []⟩, ⟨(some 120), (.mv (.t 9)), (some (119, true)), 7, []⟩, ⟨(some 121), (.call (.c (.fn (.func 20) [] [])) [(.t 120)]), (some (119, true)), 8, []⟩, ⟨(some 122), (.bin .eql (.t 121) (.c (.i .i64 0))), (some (119, true)), 9, []⟩, ⟨(some 123), (.pick (.t 119) (.t 122) (.c (.b false))), none, 10, []⟩, ⟨(some 124), (.mv (.t 123)), none, 11, []⟩, ⟨(some 125), (.mv (.t 9)), (some (124, true)), 12, []⟩, ⟨(some 126), (.call (.c (.fn (.func 17) [] [])) [(.t 125)]), (some (124, true)), 13, []⟩, ⟨(some 127), (.mv (.t 0)), (some (124, true)), 14, []⟩, ⟨(some 128), (.mv (.t 8)), (some (124, true)), 15, []⟩, ⟨(some 129), (.cint .u32 (.t 128)), (some (124, true)), 16, []⟩, ⟨(some 130), (.bin .add (.t 127) (.t 129)), (some (124, true)), 17, []⟩, ⟨(some 131), (.bin .sub (.t 130) (.c (.i .u32 1))), (some (124, true)), 18, []⟩, ⟨(some 132), (.bin .eql (.t 126) (.t 131)), (some (124, true)), 19, []⟩, ⟨(some 133), (.pick (.t 124) (.t 132) (.c (.b false))), none, 20, []⟩, ⟨(some 6), (.mv (.t 133)), none, 21, []⟩])
  .ret))))))))))
def x5 : XFun := ⟨x5b, [(.t 6)]⟩
theorem x5_ok : compF Try.prog 5 = some x5 := by kernel_rfl
/-- bollard/bollardlaw15.SendqFloor (190) -/
def x6b : XC := (.seq (.region [⟨(some 4), (.mv (.c (.b false))), none, 0, []⟩])
  (.seq (.region [⟨(some 16), (.call (.c (.fn (.func 10) [] [])) []), none, 0, []⟩, ⟨(some 5), (.mv (.t 16)), none, 1, []⟩])
  (.seq (.seq (.region [⟨(some 17), (.mv (.t 1)), none, 0, []⟩, ⟨(some 18), (.call (.c (.fn (.func 23) [] [])) [(.t 17)]), none, 1, []⟩, ⟨(some 19), (.unx .not (.t 18)), none, 2, []⟩])
  (.cond (.t 19) (.seq (.region [⟨(some 20), (.mv (.t 5)), none, 0, []⟩, ⟨(some 4), (.mv (.t 20)), none, 1, []⟩])
  .ret) .skip))
  (.seq (.region [⟨(some 21), (.mv (.t 0)), none, 0, []⟩, ⟨(some 22), (.call (.c (.fn (.func 11) [] [])) [(.t 21)]), none, 1, []⟩, ⟨(some 6), (.mv (.t 22)), none, 2, []⟩])
  (.seq (.seq (.region [⟨(some 7), (.mv (.c (.i .i64 0))), none, 0, []⟩])
  (.block 0 (.loop (.seq (.seq (.region [⟨(some 23), (.mv (.t 7)), none, 0, []⟩, ⟨(some 24), (.mv (.t 1)), none, 1, []⟩, ⟨(some 25), (.lenx (.t 24)), none, 2, []⟩, ⟨(some 26), (.bin .lss (.t 23) (.t 25)), none, 3, []⟩])
  (.cond (.t 26) .skip (.exit 0)))
  (.seq (.block 1 (.seq (.region [⟨(some 29), (.mv (.t 6)), none, 0, []⟩, ⟨(some 30), (.call (.c (.fn (.func 17) [] [])) [(.t 29)]), none, 1, []⟩, ⟨(some 8), (.mv (.t 30)), none, 2, []⟩])
  (.seq (.region [⟨(some 31), (.mv (.t 6)), none, 0, []⟩, ⟨(some 32), (.call (.c (.fn (.func 18) [] [])) [(.t 31)]), none, 1, []⟩, ⟨(some 9), (.mv (.t 32)), none, 2, []⟩])
  (.seq (.seq (.region [⟨(some 33), (.mv (.t 1)), none, 0, []⟩, ⟨(some 34), (.mv (.t 7)), none, 1, []⟩, ⟨(some 35), (.isl 6 (.t 33) (.t 34)), none, 2, []⟩, ⟨(some 36), (.fadd 0 (.t 35)), none, 3, []⟩, ⟨(some 37), (.load false 1 (.t 36)), none, 4, []⟩])
  (.block 2 (.seq (.region [⟨(some 47), (.bin .eql (.t 37) (.c (.i .i64 0))), none, 0, []⟩, ⟨(some 46), (.mv (.t 47)), none, 1, []⟩])
  (.cond (.t 46) (.seq (.draw [⟨(some 48), (.mv (.t 6)), none, 0, []⟩, ⟨(some 49), (.mv (.t 1)), none, 1, []⟩, ⟨(some 50), (.mv (.t 7)), none, 2, []⟩, ⟨(some 51), (.isl 6 (.t 49) (.t 50)), none, 3, [1, 2]⟩, ⟨(some 52), (.fadd 3 (.t 51)), none, 4, [1, 2, 3]⟩, ⟨(some 54), (.mv (.t 1)), none, 6, []⟩, ⟨(some 55), (.mv (.t 7)), none, 7, []⟩, ⟨(some 56), (.isl 6 (.t 54) (.t 55)), none, 8, [6, 7]⟩, ⟨(some 57), (.fadd 1 (.t 56)), none, 9, [6, 7, 8]⟩, ⟨(some 59), (.mv (.t 1)), none, 11, []⟩, ⟨(some 60), (.mv (.t 7)), none, 12, []⟩, ⟨(some 61), (.isl 6 (.t 59) (.t 60)), none, 13, [11, 12]⟩, ⟨(some 62), (.fadd 2 (.t 61)), none, 14, [11, 12, 13]⟩, ⟨(some 53), (.load false 1 (.t 52)), none, 5, [1, 2, 3, 4]⟩, ⟨(some 58), (.load false 1 (.t 57)), none, 10, [6, 7, 8, 9]⟩, ⟨(some 63), (.load false 1 (.t 62)), none, 15, [11, 12, 13, 14]⟩, ⟨(some 64), (.call (.c (.fn (.func 12) [] [])) [(.t 48), (.t 53), (.t 58), (.t 63)]), none, 16, [0, 1, 2, 3, 4, 5, 6, 7, 8, 9, 10, 11, 12, 13, 14, 15]⟩])
  (.region [⟨(some 65), (.mv (.t 6)), none, 0, []⟩, ⟨(some 66), (.call (.c (.fn (.func 18) [] [])) [(.t 65)]), none, 1, []⟩, ⟨(some 9), (.mv (.t 66)), none, 2, []⟩])) (.seq (.region [⟨(some 68), (.bin .eql (.t 37) (.c (.i .i64 1))), none, 0, []⟩, ⟨(some 67), (.mv (.t 68)), none, 1, []⟩])
  (.cond (.t 67) (.seq (.draw [⟨(some 69), (.mv (.t 6)), none, 0, []⟩, ⟨(some 70), (.mv (.t 1)), none, 1, []⟩, ⟨(some 71), (.mv (.t 7)), none, 2, []⟩, ⟨(some 72), (.isl 6 (.t 70) (.t 71)), none, 3, [1, 2]⟩, ⟨(some 73), (.fadd 1 (.t 72)), none, 4, [1, 2, 3]⟩, ⟨(some 76), (.mv (.t 1)), none, 7, []⟩, ⟨(some 77), (.mv (.t 7)), none, 8, []⟩, ⟨(some 78), (.isl 6 (.t 76) (.t 77)), none, 9, [7, 8]⟩, ⟨(some 79), (.fadd 2 (.t 78)), none, 10, [7, 8, 9]⟩, ⟨(some 74), (.load false 1 (.t 73)), none, 5, [1, 2, 3, 4]⟩, ⟨(some 80), (.load false 1 (.t 79)), none, 11, [7, 8, 9, 10]⟩, ⟨(some 75), (.call (.c (.fn (.func 16) [] [])) [(.t 74)]), none, 6, [1, 2, 3, 4, 5]⟩, ⟨(some 81), (.call (.c (.fn (.func 14) [] [])) [(.t 69), (.t 75), (.t 80)]), none, 12, [0, 1, 2, 3, 4, 5, 6, 7, 8, 9, 10, 11]⟩, ⟨(some 10), (.mv (.t 81)), none, 13, [0, 1, 2, 3, 4, 5, 6, 7, 8, 9, 10, 11, 12]⟩])
  (.seq (.region [⟨(some 11), (.mv (.c (.i .i64 0))), none, 0, []⟩])
  (.block 3 (.loop (.seq (.seq (.region [⟨(some 82), (.mv (.t 11)), none, 0, []⟩, ⟨(some 83), (.mv (.t 10)), none, 1, []⟩, ⟨(some 84), (.lenx (.t 83)), none, 2, []⟩, ⟨(some 85), (.bin .lss (.t 82) (.t 84)), none, 3, []⟩])
  (.cond (.t 85) .skip (.exit 3)))
  (.seq (.block 4 (.seq (.region [⟨(some 89), (.mv (.t 6)), none, 0, []⟩, ⟨(some 90), (.mv (.t 10)), none, 1, []⟩, ⟨(some 91), (.mv (.t 11)), none, 2, []⟩, ⟨(some 92), (.isl 12 (.t 90) (.t 91)), none, 3, []⟩, ⟨(some 93), (.fadd 2 (.t 92)), none, 4, []⟩, ⟨(some 94), (.load false 1 (.t 93)), none, 5, []⟩, ⟨(some 95), (.call (.c (.fn (.func 24) [] [])) [(.t 89), (.t 94)]), none, 6, []⟩, ⟨(some 88), (.mv (.t 95)), none, 7, []⟩, ⟨(some 96), (.ext (.t 88) 0), none, 8, []⟩, ⟨(some 97), (.ext (.t 88) 1), none, 9, []⟩, ⟨(some 12), (.mv (.t 96)), none, 10, []⟩, ⟨(some 13), (.mv (.t 97)), none, 11, []⟩])
  (.seq (.region [⟨(some 98), (.mv (.t 8)), none, 0, []⟩, ⟨(some 99), (.mv (.t 10)), none, 1, []⟩, ⟨(some 100), (.mv (.t 11)), none, 2, []⟩, ⟨(some 101), (.isl 12 (.t 99) (.t 100)), none, 3, []⟩, ⟨(some 102), (.fadd 2 (.t 101)), none, 4, []⟩, ⟨(some 103), (.load false 1 (.t 102)), none, 5, []⟩, ⟨(some 104), (.call (.c (.fn (.func 25) [] [])) [(.t 98), (.t 103)]), none, 6, []⟩, ⟨(some 105), (.unx .not (.t 104)), none, 7, []⟩, ⟨(some 106), (.mv (.t 105)), none, 8, []⟩, ⟨(some 107), (.mv (.t 13)), (some (106, false)), 9, []⟩, ⟨(some 108), (.unx .not (.t 107)), (some (106, false)), 10, []⟩, ⟨(some 109), (.pick (.t 106) (.c (.b true)) (.t 108)), none, 11, []⟩, ⟨(some 110), (.mv (.t 109)), none, 12, []⟩, ⟨(some 111), (.mv (.t 12)), (some (110, false)), 13, []⟩, ⟨(some 112), (.bin .neq (.t 111) (.c (.i .i64 1))), (some (110, false)), 14, []⟩, ⟨(some 113), (.pick (.t 110) (.c (.b true)) (.t 112)), none, 15, []⟩])
  (.cond (.t 113) (.seq (.region [⟨(some 4), (.mv (.c (.b false))), none, 0, []⟩])
  .ret) .skip))))
  (.region [⟨(some 86), (.mv (.t 11)), none, 0, []⟩, ⟨(some 87), (.bin .add (.t 86) (.c (.i .i64 1))), none, 1, []⟩, ⟨(some 11), (.mv (.t 87)), none, 2, []⟩]))))))) (.seq (.region [⟨(some 115), (.bin .eql (.t 37) (.c (.i .i64 2))), none, 0, []⟩, ⟨(some 114), (.mv (.t 115)), none, 1, []⟩])
  (.cond (.t 114) (.seq (.draw [⟨(some 117), (.mv (.t 6)), none, 0, []⟩, ⟨(some 118), (.mv (.t 0)), none, 1, []⟩, ⟨(some 119), (.mv (.t 1)), none, 2, []⟩, ⟨(some 120), (.mv (.t 7)), none, 3, []⟩, ⟨(some 121), (.isl 6 (.t 119) (.t 120)), none, 4, [2, 3]⟩, ⟨(some 122), (.fadd 4 (.t 121)), none, 5, [2, 3, 4]⟩, ⟨(some 125), (.mv (.t 1)), none, 8, []⟩, ⟨(some 126), (.mv (.t 7)), none, 9, []⟩, ⟨(some 127), (.isl 6 (.t 125) (.t 126)), none, 10, [8, 9]⟩, ⟨(some 128), (.fadd 5 (.t 127)), none, 11, [8, 9, 10]⟩, ⟨(some 130), (.mv (.t 1)), none, 13, []⟩, ⟨(some 131), (.mv (.t 7)), none, 14, []⟩, ⟨(some 132), (.isl 6 (.t 130) (.t 131)), none, 15, [13, 14]⟩, ⟨(some 133), (.fadd 1 (.t 132)), none, 16, [13, 14, 15]⟩, ⟨(some 123), (.load false 1 (.t 122)), none, 6, [2, 3, 4, 5]⟩, ⟨(some 124), (.bin .add (.t 118) (.t 123)), none, 7, [1, 2, 3, 4, 5, 6]⟩, ⟨(some 129), (.load false 1 (.t 128)), none, 12, [8, 9, 10, 11]⟩, ⟨(some 134), (.load false 1 (.t 133)), none, 17, [13, 14, 15, 16]⟩, ⟨(some 135), (.call (.c (.fn (.func 16) [] [])) [(.t 134)]), none, 18, [13, 14, 15, 16, 17]⟩, ⟨(some 136), (.call (.c (.fn (.func 15) [] [])) [(.t 117), (.t 124), (.t 129), (.t 135)]), none, 19, [0, 1, 2, 3, 4, 5, 6, 7, 8, 9, 10, 11, 12, 13, 14, 15, 16, 17, 18]⟩, ⟨(some 116), (.mv (.t 136)), none, 20, [0, 1, 2, 3, 4, 5, 6, 7, 8, 9, 10, 11, 12, 13, 14, 15, 16, 17, 18, 19]⟩, ⟨(some 137), (.ext (.t 116) 0), none, 21, [0, 1, 2, 3, 4, 5, 6, 7, 8, 9, 10, 11, 12, 13, 14, 15, 16, 17, 18, 19, 20]⟩, ⟨(some 138), (.ext (.t 116) 1), none, 22, [0, 1, 2, 3, 4, 5, 6, 7, 8, 9, 10, 11, 12, 13, 14, 15, 16, 17, 18, 19, 20]⟩, ⟨(some 14), (.alloc [(.i .i64 0), (.i .i64 0), (.b false), (.b false)]), none, 23, []⟩, ⟨none, (.store 4 (.t 14) (.t 137)), none, 24, [0, 1, 2, 3, 4, 5, 6, 7, 8, 9, 10, 11, 12, 13, 14, 15, 16, 17, 18, 19, 20, 21, 23]⟩, ⟨(some 15), (.mv (.t 138)), none, 25, [0, 1, 2, 3, 4, 5, 6, 7, 8, 9, 10, 11, 12, 13, 14, 15, 16, 17, 18, 19, 20, 21, 22, 23, 24]⟩])
  (.seq (.draw [⟨(some 139), (.mv (.t 15)), none, 0, []⟩, ⟨(some 140), (.unx .not (.t 139)), none, 1, [0]⟩, ⟨(some 141), (.mv (.t 140)), none, 2, [0, 1]⟩, ⟨(some 142), (.fadd 0 (.t 14)), (some (141, true)), 3, [0, 1, 2]⟩, ⟨(some 143), (.load false 1 (.t 142)), (some (141, true)), 4, [0, 1, 2, 3]⟩, ⟨(some 144), (.bin .neq (.t 143) (.c (.i .i64 0))), (some (141, true)), 5, [0, 1, 2, 3, 4]⟩, ⟨(some 145), (.mv (.t 144)), (some (141, true)), 6, [0, 1, 2, 3, 4, 5]⟩, ⟨(some 146), (.fadd 3 (.t 14)), (some (145, false)), 7, [0, 1, 2, 3, 4, 5, 6]⟩, ⟨(some 147), (.load false 1 (.t 146)), (some (145, false)), 8, [0, 1, 2, 3, 4, 5, 6, 7]⟩, ⟨(some 148), (.pick (.t 145) (.c (.b true)) (.t 147)), (some (141, true)), 9, [0, 1, 2, 3, 4, 5, 6, 7, 8]⟩, ⟨(some 149), (.pick (.t 141) (.t 148) (.c (.b false))), none, 10, [0, 1, 2, 3, 4, 5, 6, 7, 8, 9]⟩, ⟨(some 150), (.mv (.t 149)), none, 11, [0, 1, 2, 3, 4, 5, 6, 7, 8, 9, 10]⟩, ⟨(some 151), (.mv (.t 15)), (some (150, false)), 12, [0, 1, 2, 3, 4, 5, 6, 7, 8, 9, 10, 11]⟩, ⟨(some 152), (.mv (.t 151)), (some (150, false)), 13, [0, 1, 2, 3, 4, 5, 6, 7, 8, 9, 10, 11, 12]⟩, ⟨(some 153), (.mv (.t 6)), (some (152, true)), 14, [0, 1, 2, 3, 4, 5, 6, 7, 8, 9, 10, 11, 12, 13]⟩, ⟨(some 155), (.mv (.t 0)), (some (152, true)), 16, [0, 1, 2, 3, 4, 5, 6, 7, 8, 9, 10, 11, 12, 13]⟩, ⟨(some 156), (.mv (.t 1)), (some (152, true)), 17, [0, 1, 2, 3, 4, 5, 6, 7, 8, 9, 10, 11, 12, 13]⟩, ⟨(some 157), (.mv (.t 7)), (some (152, true)), 18, [0, 1, 2, 3, 4, 5, 6, 7, 8, 9, 10, 11, 12, 13]⟩, ⟨(some 158), (.isl 6 (.t 156) (.t 157)), (some (152, true)), 19, [0, 1, 2, 3, 4, 5, 6, 7, 8, 9, 10, 11, 12, 13, 17, 18]⟩, ⟨(some 159), (.fadd 4 (.t 158)), (some (152, true)), 20, [0, 1, 2, 3, 4, 5, 6, 7, 8, 9, 10, 11, 12, 13, 17, 18, 19]⟩, ⟨(some 160), (.load false 1 (.t 159)), (some (152, true)), 21, [0, 1, 2, 3, 4, 5, 6, 7, 8, 9, 10, 11, 12, 13, 17, 18, 19, 20]⟩, ⟨(some 161), (.bin .add (.t 155) (.t 160)), (some (152, true)), 22, [0, 1, 2, 3, 4, 5, 6, 7, 8, 9, 10, 11, 12, 13, 16, 17, 18, 19, 20, 21]⟩, ⟨(some 154), (.call (.c (.fn (.func 17) [] [])) [(.t 153)]), (some (152, true)), 15, [0, 1, 2, 3, 4, 5, 6, 7, 8, 9, 10, 11, 12, 13, 14]⟩, ⟨(some 162), (.bin .neq (.t 154) (.t 161)), (some (152, true)), 23, [0, 1, 2, 3, 4, 5, 6, 7, 8, 9, 10, 11, 12, 13, 14, 15, 16, 17, 18, 19, 20, 21, 22]⟩, ⟨(some 163), (.pick (.t 152) (.t 162) (.c (.b false))), (some (150, false)), 24, [0, 1, 2, 3, 4, 5, 6, 7, 8, 9, 10, 11, 12, 13, 14, 15, 16, 17, 18, 19, 20, 21, 22, 23]⟩, ⟨(some 164), (.pick (.t 150) (.c (.b true)) (.t 163)), none, 25, [0, 1, 2, 3, 4, 5, 6, 7, 8, 9, 10, 11, 12, 13, 14, 15, 16, 17, 18, 19, 20, 21, 22, 23, 24]⟩])
  (.cond (.t 164) (.seq (.region [⟨(some 4), (.mv (.c (.b false))), none, 0, []⟩])
  .ret) .skip))) (.seq (.region [⟨(some 166), (.bin .eql (.t 37) (.c (.i .i64 3))), none, 0, []⟩, ⟨(some 165), (.mv (.t 166)), none, 1, []⟩])
  (.cond (.t 165) (.region [⟨(some 167), (.mv (.t 6)), none, 0, []⟩, ⟨(some 168), (.call (.c (.fn (.func 22) [] [])) [(.t 167)]), none, 1, []⟩]) (.region [⟨(some 38), (.mv (.t 6)), none, 0, []⟩, ⟨(some 39), (.mv (.t 1)), none, 1, []⟩, ⟨(some 40), (.mv (.t 7)), none, 2, []⟩, ⟨(some 41), (.isl 6 (.t 39) (.t 40)), none, 3, []⟩, ⟨(some 42), (.fadd 1 (.t 41)), none, 4, []⟩, ⟨(some 43), (.load false 1 (.t 42)), none, 5, []⟩, ⟨(some 44), (.call (.c (.fn (.func 16) [] [])) [(.t 43)]), none, 6, []⟩, ⟨(some 45), (.call (.c (.fn (.func 26) [] [])) [(.t 38), (.t 44)]), none, 7, []⟩])))))))))))
  (.seq (.region [⟨(some 169), (.mv (.t 8)), none, 0, []⟩, ⟨(some 170), (.mv (.t 6)), none, 1, []⟩, ⟨(some 171), (.call (.c (.fn (.func 17) [] [])) [(.t 170)]), none, 2, []⟩, ⟨(some 172), (.call (.c (.fn (.func 21) [] [])) [(.t 169), (.t 171)]), none, 3, []⟩, ⟨(some 173), (.cint .i64 (.t 172)), none, 4, []⟩, ⟨(some 174), (.mv (.t 9)), none, 5, []⟩, ⟨(some 175), (.mv (.t 6)), none, 6, []⟩, ⟨(some 176), (.call (.c (.fn (.func 18) [] [])) [(.t 175)]), none, 7, []⟩, ⟨(some 177), (.bin .sub (.t 174) (.t 176)), none, 8, []⟩, ⟨(some 178), (.bin .neq (.t 173) (.t 177)), none, 9, []⟩, ⟨(some 179), (.mv (.t 178)), none, 10, []⟩, ⟨(some 180), (.mv (.t 6)), (some (179, false)), 11, []⟩, ⟨(some 181), (.call (.c (.fn (.func 19) [] [])) [(.t 180)]), (some (179, false)), 12, []⟩, ⟨(some 182), (.bin .lss (.t 181) (.c (.i .i64 0))), (some (179, false)), 13, []⟩, ⟨(some 183), (.pick (.t 179) (.c (.b true)) (.t 182)), none, 14, []⟩, ⟨(some 184), (.mv (.t 183)), none, 15, []⟩, ⟨(some 185), (.mv (.t 6)), (some (184, false)), 16, []⟩, ⟨(some 186), (.call (.c (.fn (.func 20) [] [])) [(.t 185)]), (some (184, false)), 17, []⟩, ⟨(some 187), (.bin .lss (.t 186) (.c (.i .i64 0))), (some (184, false)), 18, []⟩, ⟨(some 188), (.pick (.t 184) (.c (.b true)) (.t 187)), none, 19, []⟩])
  (.cond (.t 188) (.seq (.region [⟨(some 4), (.mv (.c (.b false))), none, 0, []⟩])
  .ret) .skip))))))
  (.region [⟨(some 27), (.mv (.t 7)), none, 0, []⟩, ⟨(some 28), (.bin .add (.t 27) (.c (.i .i64 1))), none, 1, []⟩, ⟨(some 7), (.mv (.t 28)), none, 2, []⟩]))))))
  (.seq (.region [⟨(some 189), (.mv (.t 5)), none, 0, []⟩, ⟨(some 4), (.mv (.t 189)), none, 1, []⟩])
  .ret))))))
def x6 : XFun := ⟨x6b, [(.t 4)]⟩
theorem x6_ok : compF Try.prog 6 = some x6 := by kernel_rfl
/-- bollard/bollardlaw15.SendqGives (148) -/
def x7b : XC := (.seq (.region [⟨(some 12), (.mv (.c (.b false))), none, 0, []⟩])
  (.seq (.region [⟨(some 28), (.call (.c (.fn (.func 10) [] [])) []), none, 0, []⟩, ⟨(some 13), (.mv (.t 28)), none, 1, []⟩])
  (.seq (.region [⟨(some 29), (.mv (.t 1)), none, 0, []⟩, ⟨(some 30), (.bin .and (.t 29) (.c (.i .i64 15))), none, 1, []⟩, ⟨(some 31), (.bin .add (.c (.i .i64 1)) (.t 30)), none, 2, []⟩, ⟨(some 14), (.mv (.t 31)), none, 3, []⟩])
  (.seq (.region [⟨(some 32), (.mv (.t 5)), none, 0, []⟩, ⟨(some 33), (.bin .and (.t 32) (.c (.i .i64 65535))), none, 1, []⟩, ⟨(some 15), (.mv (.t 33)), none, 2, []⟩])
  (.seq (.region [⟨(some 34), (.mv (.t 0)), none, 0, []⟩, ⟨(some 35), (.call (.c (.fn (.func 11) [] [])) [(.t 34)]), none, 1, []⟩, ⟨(some 16), (.mv (.t 35)), none, 2, []⟩])
  (.seq (.region [⟨(some 17), (.mv (.c (.sl none 0 0 0))), none, 0, []⟩])
  (.seq (.seq (.region [⟨(some 18), (.mv (.c (.i .i64 0))), none, 0, []⟩])
  (.block 0 (.loop (.seq (.seq (.region [⟨(some 36), (.mv (.t 18)), none, 0, []⟩, ⟨(some 37), (.mv (.t 14)), none, 1, []⟩, ⟨(some 38), (.bin .lss (.t 36) (.t 37)), none, 2, []⟩])
  (.cond (.t 38) .skip (.exit 0)))
  (.seq (.block 1 (.seq (.region [⟨(some 41), (.mv (.t 2)), none, 0, []⟩, ⟨(some 42), (.mv (.t 3)), none, 1, []⟩, ⟨(some 43), (.bslice [(.i .u8 0)] [(0, 1, (.c (.i .u8 7)))] 1), none, 2, []⟩, ⟨(some 44), (.build [(.i .u8 0), (.i .u8 0), (.i .u32 0), (.i .u32 0), (.i .u16 0), (.i .u16 0), (.i .u32 0), (.sl none 0 0 0), (.sl none 0 0 0), (.sl none 0 0 0), (.sl none 0 0 0), (.sl none 0 0 0)] [(0, 1, (.c (.i .u8 0))), (4, 1, (.t 41)), (5, 1, (.t 42)), (11, 1, (.t 43))]), none, 3, []⟩, ⟨(some 19), (.alloc [(.i .u8 0), (.i .u8 0), (.i .u32 0), (.i .u32 0), (.i .u16 0), (.i .u16 0), (.i .u32 0), (.sl none 0 0 0), (.sl none 0 0 0), (.sl none 0 0 0), (.sl none 0 0 0), (.sl none 0 0 0)]), none, 4, []⟩, ⟨none, (.store 12 (.t 19) (.t 44)), none, 5, []⟩])
  (.seq (.seq (.region [⟨(some 45), (.mv (.t 4)), none, 0, []⟩])
  (.cond (.t 45) (.region [⟨(some 46), (.fadd 1 (.t 19)), none, 0, []⟩, ⟨none, (.store 1 (.t 46) (.c (.i .u8 4))), none, 1, []⟩]) .skip))
  (.region [⟨(some 47), (.mv (.t 17)), none, 0, []⟩, ⟨(some 48), (.load true 12 (.t 19)), none, 1, []⟩, ⟨(some 49), (.bslice [(.i .u8 0), (.i .u8 0), (.i .u32 0), (.i .u32 0), (.i .u16 0), (.i .u16 0), (.i .u32 0), (.sl none 0 0 0), (.sl none 0 0 0), (.sl none 0 0 0), (.sl none 0 0 0), (.sl none 0 0 0)] [(0, 12, (.t 48))] 1), none, 2, []⟩, ⟨(some 50), (.append 12 144 (.t 47) (.t 49)), none, 3, []⟩, ⟨(some 17), (.mv (.t 50)), none, 4, []⟩]))))
  (.region [⟨(some 39), (.mv (.t 18)), none, 0, []⟩, ⟨(some 40), (.bin .add (.t 39) (.c (.i .i64 1))), none, 1, []⟩, ⟨(some 18), (.mv (.t 40)), none, 2, []⟩]))))))
  (.seq (.region [⟨(some 51), (.mv (.t 16)), none, 0, []⟩, ⟨(some 52), (.mv (.t 17)), none, 1, []⟩, ⟨(some 53), (.mv (.t 15)), none, 2, []⟩, ⟨(some 54), (.call (.c (.fn (.func 12) [] [])) [(.t 51), (.t 52), (.t 53), (.c (.i .i64 (-1)))]), none, 3, []⟩, ⟨(some 20), (.mv (.t 54)), none, 4, []⟩])
  (.seq (.region [⟨(some 55), (.mv (.t 16)), none, 0, []⟩, ⟨(some 56), (.call (.c (.fn (.func 13) [] [])) [(.c (.i .i64 5))]), none, 1, []⟩, ⟨(some 57), (.bslice [(.i .u8 0), (.i .u8 0), (.i .u32 0), (.i .u32 0), (.i .u16 0), (.i .u16 0), (.i .u32 0), (.sl none 0 0 0), (.sl none 0 0 0), (.sl none 0 0 0), (.sl none 0 0 0), (.sl none 0 0 0)] [(0, 12, (.t 56))] 1), none, 2, []⟩, ⟨(some 58), (.call (.c (.fn (.func 12) [] [])) [(.t 55), (.t 57), (.c (.i .i64 (-1))), (.c (.i .i64 (-1)))]), none, 3, []⟩, ⟨(some 21), (.mv (.t 58)), none, 4, []⟩])
  (.seq (.region [⟨(some 59), (.mv (.t 16)), none, 0, []⟩, ⟨(some 60), (.mv (.t 15)), none, 1, []⟩, ⟨(some 61), (.call (.c (.fn (.func 26) [] [])) [(.t 59), (.t 60)]), none, 2, []⟩, ⟨(some 22), (.mv (.t 61)), none, 3, []⟩])
  (.seq (.region [⟨(some 62), (.mv (.t 16)), none, 0, []⟩, ⟨(some 63), (.mv (.t 15)), none, 1, []⟩, ⟨(some 64), (.bin .add (.t 63) (.c (.i .i64 1))), none, 2, []⟩, ⟨(some 65), (.call (.c (.fn (.func 26) [] [])) [(.t 62), (.t 64)]), none, 3, []⟩, ⟨(some 23), (.mv (.t 65)), none, 4, []⟩])
  (.seq (.region [⟨(some 67), (.mv (.t 16)), none, 0, []⟩, ⟨(some 68), (.call (.c (.fn (.func 27) [] [])) [(.t 67)]), none, 1, []⟩, ⟨(some 66), (.mv (.t 68)), none, 2, []⟩, ⟨(some 69), (.ext (.t 66) 0), none, 3, []⟩, ⟨(some 70), (.ext (.t 66) 1), none, 4, []⟩, ⟨(some 71), (.ext (.t 66) 2), none, 5, []⟩, ⟨(some 24), (.mv (.t 69)), none, 6, []⟩, ⟨(some 25), (.mv (.t 70)), none, 7, []⟩, ⟨(some 26), (.mv (.t 71)), none, 8, []⟩])
  (.seq (.region [⟨(some 72), (.mv (.t 16)), none, 0, []⟩, ⟨(some 73), (.mv (.t 15)), none, 1, []⟩, ⟨(some 74), (.bin .add (.t 73) (.c (.i .i64 2))), none, 2, []⟩, ⟨(some 75), (.call (.c (.fn (.func 14) [] [])) [(.t 72), (.t 74), (.c (.i .i64 1000))]), none, 3, []⟩, ⟨(some 27), (.mv (.t 75)), none, 4, []⟩])
  (.seq (.seq (.region [⟨(some 76), (.mv (.t 20)), none, 0, []⟩, ⟨(some 77), (.bin .neq (.t 76) (.c (.i .i64 0))), none, 1, []⟩, ⟨(some 78), (.mv (.t 77)), none, 2, []⟩, ⟨(some 79), (.mv (.t 21)), (some (78, false)), 3, []⟩, ⟨(some 80), (.bin .neq (.t 79) (.c (.i .i64 0))), (some (78, false)), 4, []⟩, ⟨(some 81), (.pick (.t 78) (.c (.b true)) (.t 80)), none, 5, []⟩, ⟨(some 82), (.mv (.t 81)), none, 6, []⟩, ⟨(some 83), (.mv (.t 22)), (some (82, false)), 7, []⟩, ⟨(some 84), (.bin .neq (.t 83) (.c (.i .i64 0))), (some (82, false)), 8, []⟩, ⟨(some 85), (.pick (.t 82) (.c (.b true)) (.t 84)), none, 9, []⟩, ⟨(some 86), (.mv (.t 85)), none, 10, []⟩, ⟨(some 87), (.mv (.t 23)), (some (86, false)), 11, []⟩, ⟨(some 88), (.bin .neq (.t 87) (.c (.i .i64 1))), (some (86, false)), 12, []⟩, ⟨(some 89), (.pick (.t 86) (.c (.b true)) (.t 88)), none, 13, []⟩, ⟨(some 90), (.mv (.t 89)), none, 14, []⟩, ⟨(some 91), (.mv (.t 26)), (some (90, false)), 15, []⟩, ⟨(some 92), (.unx .not (.t 91)), (some (90, false)), 16, []⟩, ⟨(some 93), (.pick (.t 90) (.c (.b true)) (.t 92)), none, 17, []⟩, ⟨(some 94), (.mv (.t 93)), none, 18, []⟩, ⟨(some 95), (.mv (.t 24)), (some (94, false)), 19, []⟩, ⟨(some 96), (.mv (.t 0)), (some (94, false)), 20, []⟩, ⟨(some 97), (.mv (.t 14)), (some (94, false)), 21, []⟩, ⟨(some 98), (.cint .u32 (.t 97)), (some (94, false)), 22, []⟩, ⟨(some 99), (.bin .add (.t 96) (.t 98)), (some (94, false)), 23, []⟩, ⟨(some 100), (.bin .sub (.t 99) (.c (.i .u32 1))), (some (94, false)), 24, []⟩, ⟨(some 101), (.bin .neq (.t 95) (.t 100)), (some (94, false)), 25, []⟩, ⟨(some 102), (.pick (.t 94) (.c (.b true)) (.t 101)), none, 26, []⟩, ⟨(some 103), (.mv (.t 102)), none, 27, []⟩, ⟨(some 104), (.mv (.t 27)), (some (103, false)), 28, []⟩, ⟨(some 105), (.lenx (.t 104)), (some (103, false)), 29, []⟩, ⟨(some 106), (.bin .neq (.t 105) (.c (.i .i64 1))), (some (103, false)), 30, []⟩, ⟨(some 107), (.pick (.t 103) (.c (.b true)) (.t 106)), none, 31, []⟩, ⟨(some 108), (.mv (.t 107)), none, 32, []⟩, ⟨(some 109), (.mv (.t 27)), (some (108, false)), 33, []⟩, ⟨(some 110), (.isl 12 (.t 109) (.c (.i .i64 0))), (some (108, false)), 34, []⟩, ⟨(some 111), (.fadd 2 (.t 110)), (some (108, false)), 35, []⟩, ⟨(some 112), (.load false 1 (.t 111)), (some (108, false)), 36, []⟩, ⟨(some 113), (.mv (.t 0)), (some (108, false)), 37, []⟩, ⟨(some 114), (.mv (.t 14)), (some (108, false)), 38, []⟩, ⟨(some 115), (.cint .u32 (.t 114)), (some (108, false)), 39, []⟩, ⟨(some 116), (.bin .add (.t 113) (.t 115)), (some (108, false)), 40, []⟩, ⟨(some 117), (.bin .neq (.t 112) (.t 116)), (some (108, false)), 41, []⟩, ⟨(some 118), (.pick (.t 108) (.c (.b true)) (.t 117)), none, 42, []⟩])
  (.cond (.t 118) (.seq (.region [⟨(some 12), (.mv (.c (.b false))), none, 0, []⟩])
  .ret) .skip))
  (.seq (.seq (.region [⟨(some 119), (.mv (.t 4)), none, 0, []⟩])
  (.cond (.t 119) (.seq (.region [⟨(some 120), (.mv (.t 13)), none, 0, []⟩, ⟨(some 121), (.mv (.t 120)), none, 1, []⟩, ⟨(some 122), (.mv (.t 25)), (some (121, true)), 2, []⟩, ⟨(some 123), (.lenx (.t 122)), (some (121, true)), 3, []⟩, ⟨(some 124), (.bin .eql (.t 123) (.c (.i .i64 0))), (some (121, true)), 4, []⟩, ⟨(some 125), (.pick (.t 121) (.t 124) (.c (.b false))), none, 5, []⟩, ⟨(some 12), (.mv (.t 125)), none, 6, []⟩])
  .ret) .skip))
  (.seq (.region [⟨(some 126), (.mv (.t 13)), none, 0, []⟩, ⟨(some 127), (.mv (.t 126)), none, 1, []⟩, ⟨(some 128), (.mv (.t 25)), (some (127, true)), 2, []⟩, ⟨(some 129), (.lenx (.t 128)), (some (127, true)), 3, []⟩, ⟨(some 130), (.bin .eql (.t 129) (.c (.i .i64 1))), (some (127, true)), 4, []⟩, ⟨(some 131), (.pick (.t 127) (.t 130) (.c (.b false))), none, 5, []⟩, ⟨(some 132), (.mv (.t 131)), none, 6, []⟩, ⟨(some 133), (.mv (.t 25)), (some (132, true)), 7, []⟩, ⟨(some 134), (.isl 2 (.t 133) (.c (.i .i64 0))), (some (132, true)), 8, []⟩, ⟨(some 135), (.fadd 0 (.t 134)), (some (132, true)), 9, []⟩, ⟨(some 136), (.load false 1 (.t 135)), (some (132, true)), 10, []⟩, ⟨(some 137), (.mv (.t 2)), (some (132, true)), 11, []⟩, ⟨(some 138), (.bin .eql (.t 136) (.t 137)), (some (132, true)), 12, []⟩, ⟨(some 139), (.pick (.t 132) (.t 138) (.c (.b false))), none, 13, []⟩, ⟨(some 140), (.mv (.t 139)), none, 14, []⟩, ⟨(some 141), (.mv (.t 25)), (some (140, true)), 15, []⟩, ⟨(some 142), (.isl 2 (.t 141) (.c (.i .i64 0))), (some (140, true)), 16, []⟩, ⟨(some 143), (.fadd 1 (.t 142)), (some (140, true)), 17, []⟩, ⟨(some 144), (.load false 1 (.t 143)), (some (140, true)), 18, []⟩, ⟨(some 145), (.mv (.t 3)), (some (140, true)), 19, []⟩, ⟨(some 146), (.bin .eql (.t 144) (.t 145)), (some (140, true)), 20, []⟩, ⟨(some 147), (.pick (.t 140) (.t 146) (.c (.b false))), none, 21, []⟩, ⟨(some 12), (.mv (.t 147)), none, 22, []⟩])
  .ret))))))))))))))))
def x7 : XFun := ⟨x7b, [(.t 12)]⟩
theorem x7_ok : compF Try.prog 7 = some x7 := by kernel_rfl
/-- bollard/bollardlaw15.SendqPlays (47) -/
def x8b : XC := (.seq (.region [⟨(some 4), (.mv (.c (.b false))), none, 0, []⟩])
  (.seq (.region [⟨(some 9), (.call (.c (.fn (.func 10) [] [])) []), none, 0, []⟩, ⟨(some 5), (.mv (.t 9)), none, 1, []⟩])
  (.seq (.seq (.region [⟨(some 10), (.mv (.t 1)), none, 0, []⟩, ⟨(some 11), (.call (.c (.fn (.func 23) [] [])) [(.t 10)]), none, 1, []⟩, ⟨(some 12), (.unx .not (.t 11)), none, 2, []⟩])
  (.cond (.t 12) (.seq (.region [⟨(some 13), (.mv (.t 5)), none, 0, []⟩, ⟨(some 4), (.mv (.t 13)), none, 1, []⟩])
  .ret) .skip))
  (.seq (.region [⟨(some 14), (.mv (.t 0)), none, 0, []⟩, ⟨(some 15), (.call (.c (.fn (.func 11) [] [])) [(.t 14)]), none, 1, []⟩, ⟨(some 6), (.mv (.t 15)), none, 2, []⟩])
  (.seq (.region [⟨(some 16), (.mv (.t 0)), none, 0, []⟩, ⟨(some 17), (.call (.c (.fn (.func 28) [] [])) [(.t 16)]), none, 1, []⟩, ⟨(some 7), (.mv (.t 17)), none, 2, []⟩])
  (.seq (.seq (.region [⟨(some 8), (.mv (.c (.i .i64 0))), none, 0, []⟩])
  (.block 0 (.loop (.seq (.seq (.region [⟨(some 18), (.mv (.t 8)), none, 0, []⟩, ⟨(some 19), (.mv (.t 1)), none, 1, []⟩, ⟨(some 20), (.lenx (.t 19)), none, 2, []⟩, ⟨(some 21), (.bin .lss (.t 18) (.t 20)), none, 3, []⟩])
  (.cond (.t 21) .skip (.exit 0)))
  (.seq (.block 1 (.seq (.region [⟨(some 24), (.mv (.t 6)), none, 0, []⟩, ⟨(some 25), (.mv (.t 7)), none, 1, []⟩, ⟨(some 26), (.mv (.t 1)), none, 2, []⟩, ⟨(some 27), (.mv (.t 8)), none, 3, []⟩, ⟨(some 28), (.isl 6 (.t 26) (.t 27)), none, 4, []⟩, ⟨(some 29), (.load true 6 (.t 28)), none, 5, []⟩, ⟨(some 30), (.mv (.t 0)), none, 6, []⟩, ⟨(some 31), (.call (.c (.fn (.func 29) [] [])) [(.t 24), (.t 25), (.t 29), (.t 30)]), none, 7, []⟩, ⟨(some 32), (.unx .not (.t 31)), none, 8, []⟩, ⟨(some 33), (.mv (.t 32)), none, 9, []⟩, ⟨(some 34), (.mv (.t 6)), (some (33, false)), 10, []⟩, ⟨(some 35), (.mv (.t 7)), (some (33, false)), 11, []⟩, ⟨(some 36), (.mv (.t 0)), (some (33, false)), 12, []⟩, ⟨(some 37), (.mv (.t 1)), (some (33, false)), 13, []⟩, ⟨(some 38), (.mv (.t 8)), (some (33, false)), 14, []⟩, ⟨(some 39), (.isl 6 (.t 37) (.t 38)), (some (33, false)), 15, []⟩, ⟨(some 40), (.fadd 4 (.t 39)), (some (33, false)), 16, []⟩, ⟨(some 41), (.load false 1 (.t 40)), (some (33, false)), 17, []⟩, ⟨(some 42), (.bin .add (.t 36) (.t 41)), (some (33, false)), 18, []⟩, ⟨(some 43), (.call (.c (.fn (.func 30) [] [])) [(.t 34), (.t 35), (.t 42)]), (some (33, false)), 19, []⟩, ⟨(some 44), (.unx .not (.t 43)), (some (33, false)), 20, []⟩, ⟨(some 45), (.pick (.t 33) (.c (.b true)) (.t 44)), none, 21, []⟩])
  (.cond (.t 45) (.seq (.region [⟨(some 4), (.mv (.c (.b false))), none, 0, []⟩])
  .ret) .skip)))
  (.region [⟨(some 22), (.mv (.t 8)), none, 0, []⟩, ⟨(some 23), (.bin .add (.t 22) (.c (.i .i64 1))), none, 1, []⟩, ⟨(some 8), (.mv (.t 23)), none, 2, []⟩]))))))
  (.seq (.region [⟨(some 46), (.mv (.t 5)), none, 0, []⟩, ⟨(some 4), (.mv (.t 46)), none, 1, []⟩])
  .ret)))))))
def x8 : XFun := ⟨x8b, [(.t 4)]⟩
theorem x8_ok : compF Try.prog 8 = some x8 := by kernel_rfl
/-- bollard/bollardlaw15.awake (73) -/
def x10b : XC := (.seq (.region [⟨(some 0), (.mv (.c (.b false))), none, 0, []⟩])
  (.seq (.region [⟨(some 6), (.call (.c (.fn (.func 11) [] [])) [(.c (.i .u32 5))]), none, 0, []⟩, ⟨(some 1), (.mv (.t 6)), none, 1, []⟩])
  (.seq (.region [⟨(some 7), (.mv (.t 1)), none, 0, []⟩, ⟨(some 8), (.call (.c (.fn (.func 13) [] [])) [(.c (.i .i64 10))]), none, 1, []⟩, ⟨(some 9), (.call (.c (.fn (.func 13) [] [])) [(.c (.i .i64 10))]), none, 2, []⟩, ⟨(some 10), (.call (.c (.fn (.func 13) [] [])) [(.c (.i .i64 10))]), none, 3, []⟩, ⟨(some 11), (.bslice [(.i .u8 0), (.i .u8 0), (.i .u32 0), (.i .u32 0), (.i .u16 0), (.i .u16 0), (.i .u32 0), (.sl none 0 0 0), (.sl none 0 0 0), (.sl none 0 0 0), (.sl none 0 0 0), (.sl none 0 0 0), (.i .u8 0), (.i .u8 0), (.i .u32 0), (.i .u32 0), (.i .u16 0), (.i .u16 0), (.i .u32 0), (.sl none 0 0 0), (.sl none 0 0 0), (.sl none 0 0 0), (.sl none 0 0 0), (.sl none 0 0 0), (.i .u8 0), (.i .u8 0), (.i .u32 0), (.i .u32 0), (.i .u16 0), (.i .u16 0), (.i .u32 0), (.sl none 0 0 0), (.sl none 0 0 0), (.sl none 0 0 0), (.sl none 0 0 0), (.sl none 0 0 0)] [(0, 12, (.t 8)), (12, 12, (.t 9)), (24, 12, (.t 10))] 3), none, 4, []⟩, ⟨(some 12), (.call (.c (.fn (.func 12) [] [])) [(.t 7), (.t 11), (.c (.i .i64 (-1))), (.c (.i .i64 (-1)))]), none, 5, []⟩, ⟨(some 2), (.mv (.t 12)), none, 6, []⟩])
  (.seq (.region [⟨(some 13), (.mv (.t 1)), none, 0, []⟩, ⟨(some 14), (.call (.c (.fn (.func 14) [] [])) [(.t 13), (.c (.i .i64 0)), (.c (.i .i64 25))]), none, 1, []⟩, ⟨(some 3), (.mv (.t 14)), none, 2, []⟩])
  (.seq (.region [⟨(some 16), (.mv (.t 1)), none, 0, []⟩, ⟨(some 17), (.call (.c (.fn (.func 15) [] [])) [(.t 16), (.c (.i .u32 5)), (.c (.sl none 0 0 0)), (.c (.i .i64 40))]), none, 1, []⟩, ⟨(some 15), (.mv (.t 17)), none, 2, []⟩, ⟨(some 18), (.ext (.t 15) 0), none, 3, []⟩, ⟨(some 19), (.ext (.t 15) 1), none, 4, []⟩, ⟨(some 4), (.alloc [(.i .i64 0), (.i .i64 0), (.b false), (.b false)]), none, 5, []⟩, ⟨none, (.store 4 (.t 4) (.t 18)), none, 6, []⟩, ⟨(some 5), (.mv (.t 19)), none, 7, []⟩])
  (.seq (.region [⟨(some 20), (.mv (.t 2)), none, 0, []⟩, ⟨(some 21), (.bin .eql (.t 20) (.c (.i .i64 0))), none, 1, []⟩, ⟨(some 22), (.mv (.t 21)), none, 2, []⟩, ⟨(some 23), (.mv (.t 3)), (some (22, true)), 3, []⟩, ⟨(some 24), (.lenx (.t 23)), (some (22, true)), 4, []⟩, ⟨(some 25), (.bin .eql (.t 24) (.c (.i .i64 2))), (some (22, true)), 5, []⟩, ⟨(some 26), (.pick (.t 22) (.t 25) (.c (.b false))), none, 6, []⟩, ⟨(some 27), (.mv (.t 26)), none, 7, []⟩, ⟨(some 28), (.mv (.t 3)), (some (27, true)), 8, []⟩, ⟨(some 29), (.isl 12 (.t 28) (.c (.i .i64 0))), (some (27, true)), 9, []⟩, ⟨(some 30), (.fadd 2 (.t 29)), (some (27, true)), 10, []⟩, ⟨(some 31), (.load false 1 (.t 30)), (some (27, true)), 11, []⟩, ⟨(some 32), (.bin .eql (.t 31) (.c (.i .u32 5))), (some (27, true)), 12, []⟩, ⟨(some 33), (.pick (.t 27) (.t 32) (.c (.b false))), none, 13, []⟩, ⟨(some 34), (.mv (.t 33)), none, 14, []⟩, ⟨(some 35), (.mv (.t 3)), (some (34, true)), 15, []⟩, ⟨(some 36), (.isl 12 (.t 35) (.c (.i .i64 1))), (some (34, true)), 16, []⟩, ⟨(some 37), (.fadd 2 (.t 36)), (some (34, true)), 17, []⟩, ⟨(some 38), (.load false 1 (.t 37)), (some (34, true)), 18, []⟩, ⟨(some 39), (.bin .eql (.t 38) (.c (.i .u32 6))), (some (34, true)), 19, []⟩, ⟨(some 40), (.pick (.t 34) (.t 39) (.c (.b false))), none, 20, []⟩, ⟨(some 41), (.mv (.t 40)), none, 21, []⟩, ⟨(some 42), (.mv (.t 5)), (some (41, true)), 22, []⟩, ⟨(some 43), (.pick (.t 41) (.t 42) (.c (.b false))), none, 23, []⟩, ⟨(some 44), (.mv (.t 43)), none, 24, []⟩, ⟨(some 45), (.fadd 0 (.t 4)), (some (44, true)), 25, []⟩, ⟨(some 46), (.load false 1 (.t 45)), (some (44, true)), 26, []⟩, ⟨(some 47), (.bin .eql (.t 46) (.c (.i .i64 10))), (some (44, true)), 27, []⟩, ⟨(some 48), (.pick (.t 44) (.t 47) (.c (.b false))), none, 28, []⟩, ⟨(some 49), (.mv (.t 48)), none, 29, []⟩, ⟨(some 50), (.fadd 1 (.t 4)), (some (49, true)), 30, []⟩, ⟨(some 51), (.load false 1 (.t 50)), (some (49, true)), 31, []⟩, ⟨(some 52), (.bin .eql (.t 51) (.c (.i .i64 40))), (some (49, true)), 32, []⟩, ⟨(some 53), (.pick (.t 49) (.t 52) (.c (.b false))), none, 33, []⟩, ⟨(some 54), (.mv (.t 53)), none, 34, []⟩, ⟨(some 55), (.fadd 3 (.t 4)), (some (54, true)), 35, []⟩, ⟨(some 56), (.load false 1 (.t 55)), (some (54, true)), 36, []⟩, ⟨(some 57), (.pick (.t 54) (.t 56) (.c (.b false))), none, 37, []⟩, ⟨(some 58), (.mv (.t 57)), none, 38, []⟩, ⟨(some 59), (.fadd 2 (.t 4)), (some (58, true)), 39, []⟩, ⟨(some 60), (.load false 1 (.t 59)), (some (58, true)), 40, []⟩, ⟨(some 61), (.unx .not (.t 60)), (some (58, true)), 41, []⟩, ⟨(some 62), (.pick (.t 58) (.t 61) (.c (.b false))), none, 42, []⟩, ⟨(some 63), (.mv (.t 62)), none, 43, []⟩, ⟨(some 64), (.mv (.t 1)), (some (63, true)), 44, []⟩, ⟨(some 65), (.call (.c (.fn (.func 17) [] [])) [(.t 64)]), (some (63, true)), 45, []⟩, ⟨(some 66), (.bin .eql (.t 65) (.c (.i .u32 5))), (some (63, true)), 46, []⟩, ⟨(some 67), (.pick (.t 63) (.t 66) (.c (.b false))), none, 47, []⟩, ⟨(some 68), (.mv (.t 67)), none, 48, []⟩, ⟨(some 69), (.mv (.t 1)), (some (68, true)), 49, []⟩, ⟨(some 70), (.call (.c (.fn (.func 18) [] [])) [(.t 69)]), (some (68, true)), 50, []⟩, ⟨(some 71), (.bin .eql (.t 70) (.c (.i .i64 2))), (some (68, true)), 51, []⟩, ⟨(some 72), (.pick (.t 68) (.t 71) (.c (.b false))), none, 52, []⟩, ⟨(some 0), (.mv (.t 72)), none, 53, []⟩])
  .ret))))))
def x10 : XFun := ⟨x10b, [(.t 0)]⟩
theorem x10_ok : compF Try.prog 10 = some x10 := by kernel_rfl
/-- bollard/sendq.New (6) -/
def x11b : XC := (.seq (.region [⟨(some 2), (.mv (.c (.p none))), none, 0, []⟩])
  (.seq (.region [⟨(some 3), (.mv (.t 0)), none, 0, []⟩, ⟨(some 4), (.build [(.sl none 0 0 0), (.i .u32 0)] [(1, 1, (.t 3))]), none, 1, []⟩, ⟨(some 5), (.box (.t 4)), none, 2, []⟩, ⟨(some 2), (.mv (.t 5)), none, 3, []⟩])
  .ret))
def x11 : XFun := ⟨x11b, [(.t 2)]⟩
theorem x11_ok : compF Try.prog 11 = some x11 := by kernel_rfl
/-- (*bollard/sendq.Queue).Push (74) -/
def x12b : XC := (.seq (.region [⟨(some 8), (.mv (.c (.i .i64 0))), none, 0, []⟩])
  (.seq (.block 0 (.seq (.region [⟨(some 13), (.mv (.t 0)), none, 0, []⟩, ⟨(some 14), (.nilq 0 false (.t 13)), none, 1, []⟩, ⟨(some 15), (.mv (.t 14)), none, 2, []⟩, ⟨(some 16), (.mv (.t 1)), (some (15, false)), 3, []⟩, ⟨(some 17), (.lenx (.t 16)), (some (15, false)), 4, []⟩, ⟨(some 18), (.bin .eql (.t 17) (.c (.i .i64 0))), (some (15, false)), 5, []⟩, ⟨(some 19), (.pick (.t 15) (.c (.b true)) (.t 18)), none, 6, []⟩, ⟨(some 20), (.mv (.t 19)), none, 7, []⟩, ⟨(some 21), (.mv (.t 1)), (some (20, false)), 8, []⟩, ⟨(some 22), (.call (.c (.fn (.func 32) [] [])) [(.t 21), (.c (.fn (.func 33) [] []))]), (some (20, false)), 9, []⟩, ⟨(some 23), (.pick (.t 20) (.c (.b true)) (.t 22)), none, 10, []⟩, ⟨(some 12), (.mv (.t 23)), none, 11, []⟩])
  (.cond (.t 12) (.seq (.region [⟨(some 8), (.mv (.c (.i .i64 1))), none, 0, []⟩])
  .ret) (.seq (.region [⟨(some 25), (.mv (.t 0)), none, 0, []⟩, ⟨(some 26), (.nilc (.t 25)), none, 1, []⟩, ⟨(some 27), (.fadd 0 (.t 26)), none, 2, []⟩, ⟨(some 28), (.load false 1 (.t 27)), none, 3, []⟩, ⟨(some 29), (.lenx (.t 28)), none, 4, []⟩, ⟨(some 30), (.mv (.t 1)), none, 5, []⟩, ⟨(some 31), (.lenx (.t 30)), none, 6, []⟩, ⟨(some 32), (.bin .add (.t 29) (.t 31)), none, 7, []⟩, ⟨(some 33), (.bin .gtr (.t 32) (.c (.i .i64 1024))), none, 8, []⟩, ⟨(some 24), (.mv (.t 33)), none, 9, []⟩])
  (.cond (.t 24) (.seq (.region [⟨(some 8), (.mv (.c (.i .i64 9))), none, 0, []⟩])
  .ret) .skip)))))
  (.seq (.region [⟨(some 34), (.mv (.t 2)), none, 0, []⟩, ⟨(some 35), (.mv (.t 3)), none, 1, []⟩, ⟨(some 36), (.build [(.i .i64 0), (.i .i64 0), (.b false)] [(0, 1, (.t 34)), (1, 1, (.t 35))]), none, 2, []⟩, ⟨(some 37), (.box (.t 36)), none, 3, []⟩, ⟨(some 9), (.mv (.t 37)), none, 4, []⟩])
  (.seq (.seq (.region [⟨(some 38), (.mv (.t 1)), none, 0, []⟩, ⟨(some 39), (.lenx (.t 38)), none, 1, []⟩, ⟨(some 40), (.mv (.c (.i .i64 0))), none, 2, []⟩])
  (.block 1 (.loop (.seq (.region [⟨(some 41), (.bin .lss (.t 40) (.t 39)), none, 0, []⟩])
  (.seq (.cond (.t 41) .skip (.exit 1))
  (.seq (.block 2 (.seq (.region [⟨(some 42), (.isl 12 (.t 38) (.t 40)), none, 0, []⟩, ⟨(some 43), (.load true 12 (.t 42)), none, 1, []⟩, ⟨(some 11), (.alloc [(.i .u8 0), (.i .u8 0), (.i .u32 0), (.i .u32 0), (.i .u16 0), (.i .u16 0), (.i .u32 0), (.sl none 0 0 0), (.sl none 0 0 0), (.sl none 0 0 0), (.sl none 0 0 0), (.sl none 0 0 0)]), none, 2, []⟩, ⟨none, (.store 12 (.t 11) (.t 43)), none, 3, []⟩])
  (.seq (.draw [⟨(some 44), (.mv (.t 0)), none, 0, []⟩, ⟨(some 45), (.nilc (.t 44)), none, 1, [0]⟩, ⟨(some 46), (.fadd 1 (.t 45)), none, 2, [0, 1]⟩, ⟨(some 48), (.fadd 11 (.t 11)), none, 4, []⟩, ⟨(some 47), (.load false 1 (.t 46)), none, 3, [0, 1, 2]⟩, ⟨(some 49), (.load false 1 (.t 48)), none, 5, [4]⟩, ⟨(some 51), (.fadd 2 (.t 11)), none, 7, [0, 1, 2, 3, 4, 5]⟩, ⟨(some 50), (.call (.c (.fn (.func 34) [] [])) [(.t 49)]), none, 6, [4, 5]⟩, ⟨none, (.store 1 (.t 51) (.t 47)), none, 8, [0, 1, 2, 3, 4, 5, 6, 7]⟩, ⟨(some 52), (.fadd 11 (.t 11)), none, 9, [0, 1, 2, 3, 4, 5, 6, 7, 8]⟩, ⟨none, (.store 1 (.t 52) (.t 50)), none, 10, [0, 1, 2, 3, 4, 5, 6, 7, 8, 9]⟩])
  (.seq (.region [⟨(some 53), (.mv (.t 0)), none, 0, []⟩, ⟨(some 54), (.nilc (.t 53)), none, 1, []⟩, ⟨(some 55), (.fadd 1 (.t 54)), none, 2, []⟩, ⟨(some 56), (.load false 1 (.t 55)), none, 3, []⟩, ⟨(some 57), (.bin .add (.t 56) (.c (.i .u32 1))), none, 4, []⟩, ⟨(some 58), (.nilc (.t 53)), none, 5, []⟩, ⟨(some 59), (.fadd 1 (.t 58)), none, 6, []⟩, ⟨none, (.store 1 (.t 59) (.t 57)), none, 7, []⟩])
  (.draw [⟨(some 60), (.mv (.t 0)), none, 0, []⟩, ⟨(some 61), (.mv (.t 0)), none, 1, []⟩, ⟨(some 62), (.nilc (.t 61)), none, 2, [1]⟩, ⟨(some 63), (.fadd 0 (.t 62)), none, 3, [1, 2]⟩, ⟨(some 66), (.mv (.t 9)), none, 6, []⟩, ⟨(some 64), (.load false 1 (.t 63)), none, 4, [1, 2, 3]⟩, ⟨(some 65), (.load true 12 (.t 11)), none, 5, []⟩, ⟨(some 67), (.build [(.i .u8 0), (.i .u8 0), (.i .u32 0), (.i .u32 0), (.i .u16 0), (.i .u16 0), (.i .u32 0), (.sl none 0 0 0), (.sl none 0 0 0), (.sl none 0 0 0), (.sl none 0 0 0), (.sl none 0 0 0), (.p none), (.i .i64 0), (.i .i64 0), (.i .i64 0), (.i .i64 0)] [(0, 12, (.t 65)), (12, 1, (.t 66))]), none, 7, [5, 6]⟩, ⟨(some 68), (.box (.t 67)), none, 8, [5, 6, 7]⟩, ⟨(some 69), (.bslice [(.p none)] [(0, 1, (.t 68))] 1), none, 9, [5, 6, 7, 8]⟩, ⟨(some 70), (.append 1 8 (.t 64) (.t 69)), none, 10, [1, 2, 3, 4, 5, 6, 7, 8, 9]⟩, ⟨(some 71), (.nilc (.t 60)), none, 11, [0, 1, 2, 3, 4, 5, 6, 7, 8, 9, 10]⟩, ⟨(some 72), (.fadd 0 (.t 71)), none, 12, [0, 1, 2, 3, 4, 5, 6, 7, 8, 9, 10, 11]⟩, ⟨none, (.store 1 (.t 72) (.t 70)), none, 13, [0, 1, 2, 3, 4, 5, 6, 7, 8, 9, 10, 11, 12]⟩])))))
  (.region [⟨(some 73), (.bin .add (.t 40) (.c (.i .i64 1))), none, 0, []⟩, ⟨(some 40), (.mv (.t 73)), none, 1, []⟩])))))))
  (.seq (.region [⟨(some 8), (.mv (.c (.i .i64 0))), none, 0, []⟩])
  .ret)))))
def x12 : XFun := ⟨x12b, [(.t 8)]⟩
theorem x12_ok : compF Try.prog 12 = some x12 := by kernel_rfl
/-- bollard/bollardlaw15.piece (6) -/
def x13b : XC := (.seq (.region [⟨(some 2), (.alloc [(.i .u8 0), (.i .u8 0), (.i .u32 0), (.i .u32 0), (.i .u16 0), (.i .u16 0), (.i .u32 0), (.sl none 0 0 0), (.sl none 0 0 0), (.sl none 0 0 0), (.sl none 0 0 0), (.sl none 0 0 0)]), none, 0, []⟩])
  (.seq (.region [⟨(some 3), (.mv (.t 0)), none, 0, []⟩, ⟨(some 4), (.mkslice [(.i .u8 0)] 1 (.t 3) (.t 3)), none, 1, []⟩, ⟨(some 5), (.build [(.i .u8 0), (.i .u8 0), (.i .u32 0), (.i .u32 0), (.i .u16 0), (.i .u16 0), (.i .u32 0), (.sl none 0 0 0), (.sl none 0 0 0), (.sl none 0 0 0), (.sl none 0 0 0), (.sl none 0 0 0)] [(0, 1, (.c (.i .u8 0))), (1, 1, (.c (.i .u8 3))), (11, 1, (.t 4))]), none, 2, []⟩, ⟨none, (.store 12 (.t 2) (.t 5)), none, 3, []⟩])
  .ret))
def x13 : XFun := ⟨x13b, [(.cell 2 true 12)]⟩
theorem x13_ok : compF Try.prog 13 = some x13 := by kernel_rfl
/-- (*bollard/sendq.Queue).Take (63) -/
def x14b : XC := (.seq (.region [⟨(some 4), (.box (.t 1)), none, 0, []⟩, ⟨(some 5), (.box (.t 2)), none, 1, []⟩, ⟨(some 6), (.alloc [(.sl none 0 0 0)]), none, 2, []⟩])
  (.seq (.region [⟨(some 7), (.alloc [(.sl none 0 0 0)]), none, 0, []⟩])
  (.seq (.seq (.region [⟨(some 12), (.bslice [(.i .i64 0), (.i .i64 0)] [(0, 1, (.c (.i .i64 2))), (1, 1, (.c (.i .i64 0)))] 2), none, 0, []⟩, ⟨(some 13), (.lenx (.t 12)), none, 1, []⟩, ⟨(some 14), (.mv (.c (.i .i64 0))), none, 2, []⟩])
  (.block 0 (.loop (.seq (.region [⟨(some 15), (.bin .lss (.t 14) (.t 13)), none, 0, []⟩])
  (.seq (.cond (.t 15) .skip (.exit 0))
  (.seq (.block 1 (.seq (.region [⟨(some 16), (.isl 1 (.t 12) (.t 14)), none, 0, []⟩, ⟨(some 17), (.load false 1 (.t 16)), none, 1, []⟩, ⟨(some 9), (.mv (.t 17)), none, 2, []⟩])
  (.seq (.region [⟨(some 18), (.mv (.t 0)), none, 0, []⟩, ⟨(some 19), (.mv (.t 9)), none, 1, []⟩, ⟨(some 20), (.bslice [(.i .i64 0)] [(0, 1, (.t 19))] 1), none, 2, []⟩, ⟨(some 21), (.call (.c (.fn (.func 35) [] [])) [(.t 18), (.t 20)]), none, 3, []⟩])
  (.block 2 (.rangeFn (.t 21) [22] (.region [⟨(some 10), (.mv (.t 22)), none, 0, []⟩]) (.block 3 (.seq (.seq (.draw [⟨(some 23), (.mv (.t 10)), none, 0, []⟩, ⟨(some 25), (.load false 1 (.t 5)), none, 2, []⟩, ⟨(some 24), (.call (.c (.fn (.func 36) [] [])) [(.t 23)]), none, 1, [0]⟩, ⟨(some 26), (.bin .gtr (.t 24) (.t 25)), none, 3, [0, 1, 2]⟩])
  (.cond (.t 26) (.seq (.region [⟨(some 27), (.load false 1 (.t 7)), none, 0, []⟩, ⟨none, (.store 1 (.t 6) (.t 27)), none, 1, []⟩])
  .ret) .skip))
  (.seq (.draw [⟨(some 29), (.mv (.t 10)), none, 1, []⟩, ⟨(some 28), (.load false 1 (.t 5)), none, 0, []⟩, ⟨(some 30), (.call (.c (.fn (.func 36) [] [])) [(.t 29)]), none, 2, [1]⟩, ⟨(some 31), (.bin .sub (.t 28) (.t 30)), none, 3, [0, 1, 2]⟩, ⟨none, (.store 1 (.t 5) (.t 31)), none, 4, [0, 1, 2, 3]⟩])
  (.seq (.draw [⟨(some 32), (.mv (.t 10)), none, 0, []⟩, ⟨(some 33), (.mv (.t 10)), none, 1, []⟩, ⟨(some 34), (.mv (.t 10)), none, 2, []⟩, ⟨(some 36), (.nilc (.t 32)), none, 4, [0]⟩, ⟨(some 37), (.fadd 13 (.t 36)), none, 5, [0, 4]⟩, ⟨(some 35), (.load false 1 (.t 4)), none, 3, []⟩, ⟨none, (.store 1 (.t 37) (.c (.i .i64 1))), none, 6, [0, 4, 5]⟩, ⟨(some 38), (.nilc (.t 33)), none, 7, [0, 1, 3, 4, 5, 6]⟩, ⟨(some 39), (.fadd 15 (.t 38)), none, 8, [0, 1, 3, 4, 5, 6, 7]⟩, ⟨none, (.store 1 (.t 39) (.t 35)), none, 9, [0, 1, 3, 4, 5, 6, 7, 8]⟩, ⟨(some 40), (.nilc (.t 34)), none, 10, [0, 1, 2, 3, 4, 5, 6, 7, 8, 9]⟩, ⟨(some 41), (.fadd 16 (.t 40)), none, 11, [0, 1, 2, 3, 4, 5, 6, 7, 8, 9, 10]⟩, ⟨none, (.store 1 (.t 41) (.c (.i .i64 0))), none, 12, [0, 1, 2, 3, 4, 5, 6, 7, 8, 9, 10, 11]⟩])
  (.seq (.region [⟨(some 42), (.mv (.t 10)), none, 0, []⟩, ⟨(some 43), (.nilc (.t 42)), none, 1, []⟩, ⟨(some 44), (.fadd 14 (.t 43)), none, 2, []⟩, ⟨(some 45), (.load false 1 (.t 44)), none, 3, []⟩, ⟨(some 46), (.bin .add (.t 45) (.c (.i .i64 1))), none, 4, []⟩, ⟨(some 47), (.nilc (.t 42)), none, 5, []⟩, ⟨(some 48), (.fadd 14 (.t 47)), none, 6, []⟩, ⟨none, (.store 1 (.t 48) (.t 46)), none, 7, []⟩])
  (.seq (.region [⟨(some 49), (.mv (.t 10)), none, 0, []⟩, ⟨(some 50), (.nilc (.t 49)), none, 1, []⟩, ⟨(some 51), (.fadd 0 (.t 50)), none, 2, []⟩, ⟨(some 52), (.load true 12 (.t 51)), none, 3, []⟩, ⟨(some 11), (.alloc [(.i .u8 0), (.i .u8 0), (.i .u32 0), (.i .u32 0), (.i .u16 0), (.i .u16 0), (.i .u32 0), (.sl none 0 0 0), (.sl none 0 0 0), (.sl none 0 0 0), (.sl none 0 0 0), (.sl none 0 0 0)]), none, 4, []⟩, ⟨none, (.store 12 (.t 11) (.t 52)), none, 5, []⟩])
  (.seq (.region [⟨(some 53), (.fadd 11 (.t 11)), none, 0, []⟩, ⟨(some 54), (.load false 1 (.t 53)), none, 1, []⟩, ⟨(some 55), (.call (.c (.fn (.func 34) [] [])) [(.t 54)]), none, 2, []⟩, ⟨(some 56), (.fadd 11 (.t 11)), none, 3, []⟩, ⟨none, (.store 1 (.t 56) (.t 55)), none, 4, []⟩])
  (.region [⟨(some 57), (.load false 1 (.t 7)), none, 0, []⟩, ⟨(some 58), (.load true 12 (.t 11)), none, 1, []⟩, ⟨(some 59), (.bslice [(.i .u8 0), (.i .u8 0), (.i .u32 0), (.i .u32 0), (.i .u16 0), (.i .u16 0), (.i .u32 0), (.sl none 0 0 0), (.sl none 0 0 0), (.sl none 0 0 0), (.sl none 0 0 0), (.sl none 0 0 0)] [(0, 12, (.t 58))] 1), none, 2, []⟩, ⟨(some 60), (.append 12 144 (.t 57) (.t 59)), none, 3, []⟩, ⟨none, (.store 1 (.t 7) (.t 60)), none, 4, []⟩])))))))))))))
  (.region [⟨(some 61), (.bin .add (.t 14) (.c (.i .i64 1))), none, 0, []⟩, ⟨(some 14), (.mv (.t 61)), none, 1, []⟩])))))))
  (.seq (.region [⟨(some 62), (.load false 1 (.t 7)), none, 0, []⟩, ⟨none, (.store 1 (.t 6) (.t 62)), none, 1, []⟩])
  .ret))))
def x14 : XFun := ⟨x14b, [(.cell 6 false 1)]⟩
theorem x14_ok : compF Try.prog 14 = some x14 := by kernel_rfl
/-- (*bollard/sendq.Queue).Ack (48) -/
def x15b : XC := (.seq (.region [⟨(some 8), (.alloc [(.i .i64 0), (.i .i64 0), (.b false), (.b false)]), none, 0, []⟩, ⟨(some 9), (.mv (.c (.b false))), none, 1, []⟩])
  (.seq (.region [⟨(some 16), (.mv (.t 0)), none, 0, []⟩, ⟨(some 17), (.mv (.t 1)), none, 1, []⟩, ⟨(some 18), (.call (.c (.fn (.func 37) [] [])) [(.t 16), (.t 17)]), none, 2, []⟩, ⟨(some 15), (.mv (.t 18)), none, 3, []⟩, ⟨(some 19), (.ext (.t 15) 0), none, 4, []⟩, ⟨(some 20), (.ext (.t 15) 1), none, 5, []⟩, ⟨(some 10), (.mv (.t 19)), none, 6, []⟩, ⟨(some 11), (.mv (.t 20)), none, 7, []⟩])
  (.seq (.seq (.region [⟨(some 21), (.mv (.t 11)), none, 0, []⟩, ⟨(some 22), (.unx .not (.t 21)), none, 1, []⟩])
  (.cond (.t 22) (.seq (.region [⟨(some 23), (.build [(.i .i64 0), (.i .i64 0), (.b false), (.b false)] []), none, 0, []⟩, ⟨none, (.store 4 (.t 8) (.t 23)), none, 1, []⟩, ⟨(some 9), (.mv (.c (.b false))), none, 2, []⟩])
  .ret) .skip))
  (.seq (.region [⟨(some 24), (.mv (.t 0)), none, 0, []⟩, ⟨(some 25), (.mv (.t 10)), none, 1, []⟩, ⟨(some 26), (.mv (.t 3)), none, 2, []⟩, ⟨(some 27), (.call (.c (.fn (.func 38) [] [])) [(.t 24), (.t 25), (.t 26)]), none, 3, []⟩, ⟨(some 12), (.alloc [(.i .i64 0), (.i .i64 0), (.b false), (.b false)]), none, 4, []⟩, ⟨none, (.store 4 (.t 12) (.t 27)), none, 5, []⟩])
  (.seq (.region [⟨(some 29), (.mv (.t 0)), none, 0, []⟩, ⟨(some 30), (.mv (.t 2)), none, 1, []⟩, ⟨(some 31), (.call (.c (.fn (.func 39) [] [])) [(.t 29), (.t 30)]), none, 2, []⟩, ⟨(some 28), (.mv (.t 31)), none, 3, []⟩, ⟨(some 32), (.ext (.t 28) 0), none, 4, []⟩, ⟨(some 33), (.ext (.t 28) 1), none, 5, []⟩, ⟨(some 13), (.mv (.t 32)), none, 6, []⟩, ⟨(some 14), (.mv (.t 33)), none, 7, []⟩])
  (.seq (.region [⟨(some 34), (.fadd 0 (.t 12)), none, 0, []⟩, ⟨(some 35), (.load false 1 (.t 34)), none, 1, []⟩, ⟨(some 36), (.mv (.t 13)), none, 2, []⟩, ⟨(some 37), (.bin .add (.t 35) (.t 36)), none, 3, []⟩, ⟨(some 38), (.fadd 0 (.t 12)), none, 4, []⟩, ⟨none, (.store 1 (.t 38) (.t 37)), none, 5, []⟩])
  (.seq (.region [⟨(some 39), (.mv (.t 0)), none, 0, []⟩, ⟨(some 40), (.nilc (.t 39)), none, 1, []⟩, ⟨(some 41), (.fadd 0 (.t 40)), none, 2, []⟩, ⟨(some 42), (.load false 1 (.t 41)), none, 3, []⟩, ⟨(some 43), (.mv (.t 14)), none, 4, []⟩, ⟨(some 44), (.slsl 1 (.t 42) none (some (.t 43)) none), none, 5, []⟩, ⟨(some 45), (.call (.c (.fn (.func 40) [] [])) [(.t 44)]), none, 6, []⟩, ⟨(some 46), (.fadd 2 (.t 12)), none, 7, []⟩, ⟨none, (.store 1 (.t 46) (.t 45)), none, 8, []⟩])
  (.seq (.region [⟨(some 47), (.load true 4 (.t 12)), none, 0, []⟩, ⟨none, (.store 4 (.t 8) (.t 47)), none, 1, []⟩, ⟨(some 9), (.mv (.c (.b true))), none, 2, []⟩])
  .ret))))))))
def x15 : XFun := ⟨x15b, [(.cell 8 true 4), (.t 9)]⟩
theorem x15_ok : compF Try.prog 15 = some x15 := by kernel_rfl
/-- bollard/bollardlaw15.bounded (5) -/
def x16b : XC := (.seq (.region [⟨(some 2), (.mv (.c (.i .i64 0))), none, 0, []⟩])
  (.seq (.region [⟨(some 3), (.mv (.t 0)), none, 0, []⟩, ⟨(some 4), (.bin .and (.t 3) (.c (.i .i64 1099511627775))), none, 1, []⟩, ⟨(some 2), (.mv (.t 4)), none, 2, []⟩])
  .ret))
def x16 : XFun := ⟨x16b, [(.t 2)]⟩
theorem x16_ok : compF Try.prog 16 = some x16 := by kernel_rfl
/-- (*bollard/sendq.Queue).Floor (17) -/
def x17b : XC := (.seq (.region [⟨(some 2), (.mv (.c (.i .u32 0))), none, 0, []⟩])
  (.seq (.seq (.region [⟨(some 3), (.mv (.t 0)), none, 0, []⟩, ⟨(some 4), (.nilq 0 false (.t 3)), none, 1, []⟩])
  (.cond (.t 4) (.seq (.region [⟨(some 2), (.mv (.c (.i .u32 0))), none, 0, []⟩])
  .ret) .skip))
  (.seq (.draw [⟨(some 5), (.mv (.t 0)), none, 0, []⟩, ⟨(some 6), (.nilc (.t 5)), none, 1, [0]⟩, ⟨(some 7), (.fadd 1 (.t 6)), none, 2, [0, 1]⟩, ⟨(some 9), (.mv (.t 0)), none, 4, []⟩, ⟨(some 10), (.nilc (.t 9)), none, 5, [4]⟩, ⟨(some 11), (.fadd 0 (.t 10)), none, 6, [4, 5]⟩, ⟨(some 8), (.load false 1 (.t 7)), none, 3, [0, 1, 2]⟩, ⟨(some 12), (.load false 1 (.t 11)), none, 7, [4, 5, 6]⟩, ⟨(some 13), (.lenx (.t 12)), none, 8, [4, 5, 6, 7]⟩, ⟨(some 14), (.cint .u32 (.t 13)), none, 9, [4, 5, 6, 7, 8]⟩, ⟨(some 15), (.bin .sub (.t 8) (.t 14)), none, 10, [0, 1, 2, 3, 4, 5, 6, 7, 8, 9]⟩, ⟨(some 16), (.bin .sub (.t 15) (.c (.i .u32 1))), none, 11, [0, 1, 2, 3, 4, 5, 6, 7, 8, 9, 10]⟩, ⟨(some 2), (.mv (.t 16)), none, 12, [0, 1, 2, 3, 4, 5, 6, 7, 8, 9, 10, 11]⟩])
  .ret)))
def x17 : XFun := ⟨x17b, [(.t 2)]⟩
theorem x17_ok : compF Try.prog 17 = some x17 := by kernel_rfl
/-- (*bollard/sendq.Queue).Len (10) -/
def x18b : XC := (.seq (.region [⟨(some 2), (.mv (.c (.i .i64 0))), none, 0, []⟩])
  (.seq (.seq (.region [⟨(some 3), (.mv (.t 0)), none, 0, []⟩, ⟨(some 4), (.nilq 0 false (.t 3)), none, 1, []⟩])
  (.cond (.t 4) (.seq (.region [⟨(some 2), (.mv (.c (.i .i64 0))), none, 0, []⟩])
  .ret) .skip))
  (.seq (.region [⟨(some 5), (.mv (.t 0)), none, 0, []⟩, ⟨(some 6), (.nilc (.t 5)), none, 1, []⟩, ⟨(some 7), (.fadd 0 (.t 6)), none, 2, []⟩, ⟨(some 8), (.load false 1 (.t 7)), none, 3, []⟩, ⟨(some 9), (.lenx (.t 8)), none, 4, []⟩, ⟨(some 2), (.mv (.t 9)), none, 5, []⟩])
  .ret)))
def x18 : XFun := ⟨x18b, [(.t 2)]⟩
theorem x18_ok : compF Try.prog 18 = some x18 := by kernel_rfl
/-- (*bollard/sendq.Queue).Flying (6) -/
def x19b : XC := (.seq (.region [⟨(some 2), (.mv (.c (.i .i64 0))), none, 0, []⟩])
  (.seq (.region [⟨(some 3), (.mv (.t 0)), none, 0, []⟩, ⟨(some 4), (.bslice [(.i .i64 0)] [(0, 1, (.c (.i .i64 1)))] 1), none, 1, []⟩, ⟨(some 5), (.call (.c (.fn (.func 41) [] [])) [(.t 3), (.t 4)]), none, 2, []⟩, ⟨(some 2), (.mv (.t 5)), none, 3, []⟩])
  .ret))
def x19 : XFun := ⟨x19b, [(.t 2)]⟩
theorem x19_ok : compF Try.prog 19 = some x19 := by kernel_rfl
/-- (*bollard/sendq.Queue).Left (6) -/
def x20b : XC := (.seq (.region [⟨(some 2), (.mv (.c (.i .i64 0))), none, 0, []⟩])
  (.seq (.region [⟨(some 3), (.mv (.t 0)), none, 0, []⟩, ⟨(some 4), (.bslice [(.i .i64 0), (.i .i64 0)] [(0, 1, (.c (.i .i64 0))), (1, 1, (.c (.i .i64 2)))] 2), none, 1, []⟩, ⟨(some 5), (.call (.c (.fn (.func 41) [] [])) [(.t 3), (.t 4)]), none, 2, []⟩, ⟨(some 2), (.mv (.t 5)), none, 3, []⟩])
  .ret))
def x20 : XFun := ⟨x20b, [(.t 2)]⟩
theorem x20_ok : compF Try.prog 20 = some x20 := by kernel_rfl
/-- bollard/serial.Dist (8) -/
def x21b : XC := (.seq (.region [⟨(some 4), (.mv (.c (.i .u32 0))), none, 0, []⟩])
  (.seq (.region [⟨(some 5), (.mv (.t 1)), none, 0, []⟩, ⟨(some 6), (.mv (.t 0)), none, 1, []⟩, ⟨(some 7), (.bin .sub (.t 5) (.t 6)), none, 2, []⟩, ⟨(some 4), (.mv (.t 7)), none, 3, []⟩])
  .ret))
def x21 : XFun := ⟨x21b, [(.t 4)]⟩
theorem x21_ok : compF Try.prog 21 = some x21 := by kernel_rfl
/-- (*bollard/sendq.Queue).Timeout (15) -/
def x22b : XC := (.seq (.region [⟨(some 2), (.mv (.c (.i .i64 0))), none, 0, []⟩])
  (.seq (.region [⟨(some 3), (.alloc [(.i .i64 0)]), none, 0, []⟩, ⟨none, (.store 1 (.t 3) (.c (.i .i64 0))), none, 1, []⟩])
  (.seq (.seq (.region [⟨(some 5), (.mv (.t 0)), none, 0, []⟩, ⟨(some 6), (.bslice [(.i .i64 0)] [(0, 1, (.c (.i .i64 1)))] 1), none, 1, []⟩, ⟨(some 7), (.call (.c (.fn (.func 35) [] [])) [(.t 5), (.t 6)]), none, 2, []⟩])
  (.block 0 (.rangeFn (.t 7) [8] (.region [⟨(some 4), (.mv (.t 8)), none, 0, []⟩]) (.block 1 (.seq (.region [⟨(some 9), (.mv (.t 4)), none, 0, []⟩, ⟨(some 10), (.nilc (.t 9)), none, 1, []⟩, ⟨(some 11), (.fadd 13 (.t 10)), none, 2, []⟩, ⟨none, (.store 1 (.t 11) (.c (.i .i64 2))), none, 3, []⟩])
  (.region [⟨(some 12), (.load false 1 (.t 3)), none, 0, []⟩, ⟨(some 13), (.bin .add (.t 12) (.c (.i .i64 1))), none, 1, []⟩, ⟨none, (.store 1 (.t 3) (.t 13)), none, 2, []⟩]))))))
  (.seq (.region [⟨(some 14), (.load false 1 (.t 3)), none, 0, []⟩, ⟨(some 2), (.mv (.t 14)), none, 1, []⟩])
  .ret))))
def x22 : XFun := ⟨x22b, [(.t 2)]⟩
theorem x22_ok : compF Try.prog 22 = some x22 := by kernel_rfl
/-- bollard/bollardlaw15.few (97) -/
def x23b : XC := (.seq (.region [⟨(some 2), (.mv (.c (.b false))), none, 0, []⟩])
  (.seq (.seq (.region [⟨(some 5), (.mv (.t 0)), none, 0, []⟩, ⟨(some 6), (.lenx (.t 5)), none, 1, []⟩, ⟨(some 7), (.bin .gtr (.t 6) (.c (.i .i64 40))), none, 2, []⟩])
  (.cond (.t 7) (.seq (.region [⟨(some 2), (.mv (.c (.b false))), none, 0, []⟩])
  .ret) .skip))
  (.seq (.seq (.region [⟨(some 3), (.mv (.c (.i .i64 0))), none, 0, []⟩])
  (.block 0 (.loop (.seq (.seq (.region [⟨(some 8), (.mv (.t 3)), none, 0, []⟩, ⟨(some 9), (.mv (.t 0)), none, 1, []⟩, ⟨(some 10), (.lenx (.t 9)), none, 2, []⟩, ⟨(some 11), (.bin .lss (.t 8) (.t 10)), none, 3, []⟩])
  (.cond (.t 11) .skip (.exit 0)))
  (.seq (.block 1 (.seq (.seq (.region [⟨(some 14), (.mv (.t 0)), none, 0, []⟩, ⟨(some 15), (.mv (.t 3)), none, 1, []⟩, ⟨(some 16), (.isl 6 (.t 14) (.t 15)), none, 2, []⟩, ⟨(some 17), (.fadd 3 (.t 16)), none, 3, []⟩, ⟨(some 18), (.load false 1 (.t 17)), none, 4, []⟩, ⟨(some 19), (.lenx (.t 18)), none, 5, []⟩, ⟨(some 20), (.bin .gtr (.t 19) (.c (.i .i64 10))), none, 6, []⟩, ⟨(some 21), (.mv (.t 20)), none, 7, []⟩, ⟨(some 22), (.mv (.t 0)), (some (21, false)), 8, []⟩, ⟨(some 23), (.mv (.t 3)), (some (21, false)), 9, []⟩, ⟨(some 24), (.isl 6 (.t 22) (.t 23)), (some (21, false)), 10, []⟩, ⟨(some 25), (.fadd 5 (.t 24)), (some (21, false)), 11, []⟩, ⟨(some 26), (.load false 1 (.t 25)), (some (21, false)), 12, []⟩, ⟨(some 27), (.lenx (.t 26)), (some (21, false)), 13, []⟩, ⟨(some 28), (.bin .gtr (.t 27) (.c (.i .i64 20))), (some (21, false)), 14, []⟩, ⟨(some 29), (.pick (.t 21) (.c (.b true)) (.t 28)), none, 15, []⟩])
  (.cond (.t 29) (.seq (.region [⟨(some 2), (.mv (.c (.b false))), none, 0, []⟩])
  .ret) .skip))
  (.seq (.region [⟨(some 4), (.mv (.c (.i .i64 0))), none, 0, []⟩])
  (.block 2 (.loop (.seq (.seq (.region [⟨(some 30), (.mv (.t 4)), none, 0, []⟩, ⟨(some 31), (.mv (.t 0)), none, 1, []⟩, ⟨(some 32), (.mv (.t 3)), none, 2, []⟩, ⟨(some 33), (.isl 6 (.t 31) (.t 32)), none, 3, []⟩, ⟨(some 34), (.fadd 3 (.t 33)), none, 4, []⟩, ⟨(some 35), (.load false 1 (.t 34)), none, 5, []⟩, ⟨(some 36), (.lenx (.t 35)), none, 6, []⟩, ⟨(some 37), (.bin .lss (.t 30) (.t 36)), none, 7, []⟩])
  (.cond (.t 37) .skip (.exit 2)))
  (.seq (.block 3 (.seq (.draw [⟨(some 40), (.mv (.t 0)), none, 0, []⟩, ⟨(some 41), (.mv (.t 3)), none, 1, []⟩, ⟨(some 42), (.isl 6 (.t 40) (.t 41)), none, 2, [0, 1]⟩, ⟨(some 43), (.fadd 3 (.t 42)), none, 3, [0, 1, 2]⟩, ⟨(some 45), (.mv (.t 4)), none, 5, []⟩, ⟨(some 44), (.load false 1 (.t 43)), none, 4, [0, 1, 2, 3]⟩, ⟨(some 46), (.isl 12 (.t 44) (.t 45)), none, 6, [0, 1, 2, 3, 4, 5]⟩, ⟨(some 47), (.fadd 11 (.t 46)), none, 7, [0, 1, 2, 3, 4, 5, 6]⟩, ⟨(some 48), (.load false 1 (.t 47)), none, 8, [0, 1, 2, 3, 4, 5, 6, 7]⟩, ⟨(some 49), (.lenx (.t 48)), none, 9, [0, 1, 2, 3, 4, 5, 6, 7, 8]⟩, ⟨(some 50), (.bin .gtr (.t 49) (.c (.i .i64 1200))), none, 10, [0, 1, 2, 3, 4, 5, 6, 7, 8, 9]⟩, ⟨(some 51), (.mv (.t 50)), none, 11, [0, 1, 2, 3, 4, 5, 6, 7, 8, 9, 10]⟩, ⟨(some 52), (.mv (.t 0)), (some (51, false)), 12, [0, 1, 2, 3, 4, 5, 6, 7, 8, 9, 10, 11]⟩, ⟨(some 53), (.mv (.t 3)), (some (51, false)), 13, [0, 1, 2, 3, 4, 5, 6, 7, 8, 9, 10, 11]⟩, ⟨(some 54), (.isl 6 (.t 52) (.t 53)), (some (51, false)), 14, [0, 1, 2, 3, 4, 5, 6, 7, 8, 9, 10, 11, 12, 13]⟩, ⟨(some 55), (.fadd 3 (.t 54)), (some (51, false)), 15, [0, 1, 2, 3, 4, 5, 6, 7, 8, 9, 10, 11, 12, 13, 14]⟩, ⟨(some 57), (.mv (.t 4)), (some (51, false)), 17, [0, 1, 2, 3, 4, 5, 6, 7, 8, 9, 10, 11]⟩, ⟨(some 62), (.mv (.t 0)), (some (51, false)), 22, [0, 1, 2, 3, 4, 5, 6, 7, 8, 9, 10, 11]⟩, ⟨(some 63), (.mv (.t 3)), (some (51, false)), 23, [0, 1, 2, 3, 4, 5, 6, 7, 8, 9, 10, 11]⟩, ⟨(some 64), (.isl 6 (.t 62) (.t 63)), (some (51, false)), 24, [0, 1, 2, 3, 4, 5, 6, 7, 8, 9, 10, 11, 22, 23]⟩, ⟨(some 65), (.fadd 3 (.t 64)), (some (51, false)), 25, [0, 1, 2, 3, 4, 5, 6, 7, 8, 9, 10, 11, 22, 23, 24]⟩, ⟨(some 67), (.mv (.t 4)), (some (51, false)), 27, [0, 1, 2, 3, 4, 5, 6, 7, 8, 9, 10, 11]⟩, ⟨(some 73), (.mv (.t 0)), (some (51, false)), 33, [0, 1, 2, 3, 4, 5, 6, 7, 8, 9, 10, 11]⟩, ⟨(some 74), (.mv (.t 3)), (some (51, false)), 34, [0, 1, 2, 3, 4, 5, 6, 7, 8, 9, 10, 11]⟩, ⟨(some 75), (.isl 6 (.t 73) (.t 74)), (some (51, false)), 35, [0, 1, 2, 3, 4, 5, 6, 7, 8, 9, 10, 11, 33, 34]⟩, ⟨(some 76), (.fadd 3 (.t 75)), (some (51, false)), 36, [0, 1, 2, 3, 4, 5, 6, 7, 8, 9, 10, 11, 33, 34, 35]⟩, ⟨(some 78), (.mv (.t 4)), (some (51, false)), 38, [0, 1, 2, 3, 4, 5, 6, 7, 8, 9, 10, 11]⟩, ⟨(some 84), (.mv (.t 0)), (some (51, false)), 44, [0, 1, 2, 3, 4, 5, 6, 7, 8, 9, 10, 11]⟩, ⟨(some 85), (.mv (.t 3)), (some (51, false)), 45, [0, 1, 2, 3, 4, 5, 6, 7, 8, 9, 10, 11]⟩, ⟨(some 86), (.isl 6 (.t 84) (.t 85)), (some (51, false)), 46, [0, 1, 2, 3, 4, 5, 6, 7, 8, 9, 10, 11, 44, 45]⟩, ⟨(some 87), (.fadd 3 (.t 86)), (some (51, false)), 47, [0, 1, 2, 3, 4, 5, 6, 7, 8, 9, 10, 11, 44, 45, 46]⟩, ⟨(some 89), (.mv (.t 4)), (some (51, false)), 49, [0, 1, 2, 3, 4, 5, 6, 7, 8, 9, 10, 11]⟩, ⟨(some 56), (.load false 1 (.t 55)), (some (51, false)), 16, [0, 1, 2, 3, 4, 5, 6, 7, 8, 9, 10, 11, 12, 13, 14, 15]⟩, ⟨(some 58), (.isl 12 (.t 56) (.t 57)), (some (51, false)), 18, [0, 1, 2, 3, 4, 5, 6, 7, 8, 9, 10, 11, 12, 13, 14, 15, 16, 17]⟩, ⟨(some 59), (.fadd 10 (.t 58)), (some (51, false)), 19, [0, 1, 2, 3, 4, 5, 6, 7, 8, 9, 10, 11, 12, 13, 14, 15, 16, 17, 18]⟩, ⟨(some 60), (.load false 1 (.t 59)), (some (51, false)), 20, [0, 1, 2, 3, 4, 5, 6, 7, 8, 9, 10, 11, 12, 13, 14, 15, 16, 17, 18, 19]⟩, ⟨(some 61), (.lenx (.t 60)), (some (51, false)), 21, [0, 1, 2, 3, 4, 5, 6, 7, 8, 9, 10, 11, 12, 13, 14, 15, 16, 17, 18, 19, 20]⟩, ⟨(some 66), (.load false 1 (.t 65)), (some (51, false)), 26, [0, 1, 2, 3, 4, 5, 6, 7, 8, 9, 10, 11, 22, 23, 24, 25]⟩, ⟨(some 68), (.isl 12 (.t 66) (.t 67)), (some (51, false)), 28, [0, 1, 2, 3, 4, 5, 6, 7, 8, 9, 10, 11, 22, 23, 24, 25, 26, 27]⟩, ⟨(some 69), (.fadd 7 (.t 68)), (some (51, false)), 29, [0, 1, 2, 3, 4, 5, 6, 7, 8, 9, 10, 11, 22, 23, 24, 25, 26, 27, 28]⟩, ⟨(some 70), (.load false 1 (.t 69)), (some (51, false)), 30, [0, 1, 2, 3, 4, 5, 6, 7, 8, 9, 10, 11, 22, 23, 24, 25, 26, 27, 28, 29]⟩, ⟨(some 71), (.lenx (.t 70)), (some (51, false)), 31, [0, 1, 2, 3, 4, 5, 6, 7, 8, 9, 10, 11, 22, 23, 24, 25, 26, 27, 28, 29, 30]⟩, ⟨(some 72), (.bin .add (.t 61) (.t 71)), (some (51, false)), 32, [0, 1, 2, 3, 4, 5, 6, 7, 8, 9, 10, 11, 12, 13, 14, 15, 16, 17, 18, 19, 20, 21, 22, 23, 24, 25, 26, 27, 28, 29, 30, 31]⟩, ⟨(some 77), (.load false 1 (.t 76)), (some (51, false)), 37, [0, 1, 2, 3, 4, 5, 6, 7, 8, 9, 10, 11, 33, 34, 35, 36]⟩, ⟨(some 79), (.isl 12 (.t 77) (.t 78)), (some (51, false)), 39, [0, 1, 2, 3, 4, 5, 6, 7, 8, 9, 10, 11, 33, 34, 35, 36, 37, 38]⟩, ⟨(some 80), (.fadd 8 (.t 79)), (some (51, false)), 40, [0, 1, 2, 3, 4, 5, 6, 7, 8, 9, 10, 11, 33, 34, 35, 36, 37, 38, 39]⟩, ⟨(some 81), (.load false 1 (.t 80)), (some (51, false)), 41, [0, 1, 2, 3, 4, 5, 6, 7, 8, 9, 10, 11, 33, 34, 35, 36, 37, 38, 39, 40]⟩, ⟨(some 82), (.lenx (.t 81)), (some (51, false)), 42, [0, 1, 2, 3, 4, 5, 6, 7, 8, 9, 10, 11, 33, 34, 35, 36, 37, 38, 39, 40, 41]⟩, ⟨(some 83), (.bin .add (.t 72) (.t 82)), (some (51, false)), 43, [0, 1, 2, 3, 4, 5, 6, 7, 8, 9, 10, 11, 12, 13, 14, 15, 16, 17, 18, 19, 20, 21, 22, 23, 24, 25, 26, 27, 28, 29, 30, 31, 32, 33, 34, 35, 36, 37, 38, 39, 40, 41, 42]⟩, ⟨(some 88), (.load false 1 (.t 87)), (some (51, false)), 48, [0, 1, 2, 3, 4, 5, 6, 7, 8, 9, 10, 11, 44, 45, 46, 47]⟩, ⟨(some 90), (.isl 12 (.t 88) (.t 89)), (some (51, false)), 50, [0, 1, 2, 3, 4, 5, 6, 7, 8, 9, 10, 11, 44, 45, 46, 47, 48, 49]⟩, ⟨(some 91), (.fadd 9 (.t 90)), (some (51, false)), 51, [0, 1, 2, 3, 4, 5, 6, 7, 8, 9, 10, 11, 44, 45, 46, 47, 48, 49, 50]⟩, ⟨(some 92), (.load false 1 (.t 91)), (some (51, false)), 52, [0, 1, 2, 3, 4, 5, 6, 7, 8, 9, 10, 11, 44, 45, 46, 47, 48, 49, 50, 51]⟩, ⟨(some 93), (.lenx (.t 92)), (some (51, false)), 53, [0, 1, 2, 3, 4, 5, 6, 7, 8, 9, 10, 11, 44, 45, 46, 47, 48, 49, 50, 51, 52]⟩, ⟨(some 94), (.bin .add (.t 83) (.t 93)), (some (51, false)), 54, [0, 1, 2, 3, 4, 5, 6, 7, 8, 9, 10, 11, 12, 13, 14, 15, 16, 17, 18, 19, 20, 21, 22, 23, 24, 25, 26, 27, 28, 29, 30, 31, 32, 33, 34, 35, 36, 37, 38, 39, 40, 41, 42, 43, 44, 45, 46, 47, 48, 49, 50, 51, 52, 53]⟩, ⟨(some 95), (.bin .gtr (.t 94) (.c (.i .i64 20))), (some (51, false)), 55, [0, 1, 2, 3, 4, 5, 6, 7, 8, 9, 10, 11, 12, 13, 14, 15, 16, 17, 18, 19, 20, 21, 22, 23, 24, 25, 26, 27, 28, 29, 30, 31, 32, 33, 34, 35, 36, 37, 38, 39, 40, 41, 42, 43, 44, 45, 46, 47, 48, 49, 50, 51, 52, 53, 54]⟩, ⟨(some 96), (.pick (.t 51) (.c (.b true)) (.t 95)), none, 56, [0, 1, 2, 3, 4, 5, 6, 7, 8, 9, 10, 11, 12, 13, 14, 15, 16, 17, 18, 19, 20, 21, 22, 23, 24, 25, 26, 27, 28, 29, 30, 31, 32, 33, 34, 35, 36, 37, 38, 39, 40, 41, 42, 43, 44, 45, 46, 47, 48, 49, 50, 51, 52, 53, 54, 55]⟩])
  (.cond (.t 96) (.seq (.region [⟨(some 2), (.mv (.c (.b false))), none, 0, []⟩])
  .ret) .skip)))
  (.region [⟨(some 38), (.mv (.t 4)), none, 0, []⟩, ⟨(some 39), (.bin .add (.t 38) (.c (.i .i64 1))), none, 1, []⟩, ⟨(some 4), (.mv (.t 39)), none, 2, []⟩]))))))))
  (.region [⟨(some 12), (.mv (.t 3)), none, 0, []⟩, ⟨(some 13), (.bin .add (.t 12) (.c (.i .i64 1))), none, 1, []⟩, ⟨(some 3), (.mv (.t 13)), none, 2, []⟩]))))))
  (.seq (.region [⟨(some 2), (.mv (.c (.b true))), none, 0, []⟩])
  .ret))))
def x23 : XFun := ⟨x23b, [(.t 2)]⟩
theorem x23_ok : compF Try.prog 23 = some x23 := by kernel_rfl
/-- (*bollard/sendq.Queue).State (31) -/
def x24b : XC := (.seq (.region [⟨(some 4), (.mv (.c (.i .i64 0))), none, 0, []⟩, ⟨(some 5), (.mv (.c (.b false))), none, 1, []⟩])
  (.seq (.region [⟨(some 7), (.mv (.t 0)), none, 0, []⟩, ⟨(some 8), (.call (.c (.fn (.func 17) [] [])) [(.t 7)]), none, 1, []⟩, ⟨(some 9), (.mv (.t 1)), none, 2, []⟩, ⟨(some 10), (.call (.c (.fn (.func 21) [] [])) [(.t 8), (.t 9)]), none, 3, []⟩, ⟨(some 11), (.cint .i64 (.t 10)), none, 4, []⟩, ⟨(some 6), (.mv (.t 11)), none, 5, []⟩])
  (.seq (.seq (.region [⟨(some 12), (.mv (.t 6)), none, 0, []⟩, ⟨(some 13), (.bin .lss (.t 12) (.c (.i .i64 1))), none, 1, []⟩, ⟨(some 14), (.mv (.t 13)), none, 2, []⟩, ⟨(some 15), (.mv (.t 6)), (some (14, false)), 3, []⟩, ⟨(some 16), (.mv (.t 0)), (some (14, false)), 4, []⟩, ⟨(some 17), (.call (.c (.fn (.func 18) [] [])) [(.t 16)]), (some (14, false)), 5, []⟩, ⟨(some 18), (.bin .gtr (.t 15) (.t 17)), (some (14, false)), 6, []⟩, ⟨(some 19), (.pick (.t 14) (.c (.b true)) (.t 18)), none, 7, []⟩])
  (.cond (.t 19) (.seq (.region [⟨(some 4), (.mv (.c (.i .i64 0))), none, 0, []⟩, ⟨(some 5), (.mv (.c (.b false))), none, 1, []⟩])
  .ret) .skip))
  (.seq (.region [⟨(some 20), (.mv (.t 0)), none, 0, []⟩, ⟨(some 21), (.nilc (.t 20)), none, 1, []⟩, ⟨(some 22), (.fadd 0 (.t 21)), none, 2, []⟩, ⟨(some 23), (.load false 1 (.t 22)), none, 3, []⟩, ⟨(some 24), (.mv (.t 6)), none, 4, []⟩, ⟨(some 25), (.bin .sub (.t 24) (.c (.i .i64 1))), none, 5, []⟩, ⟨(some 26), (.isl 1 (.t 23) (.t 25)), none, 6, []⟩, ⟨(some 27), (.load false 1 (.t 26)), none, 7, []⟩, ⟨(some 28), (.nilc (.t 27)), none, 8, []⟩, ⟨(some 29), (.fadd 13 (.t 28)), none, 9, []⟩, ⟨(some 30), (.load false 1 (.t 29)), none, 10, []⟩, ⟨(some 4), (.mv (.t 30)), none, 11, []⟩, ⟨(some 5), (.mv (.c (.b true))), none, 12, []⟩])
  .ret))))
def x24 : XFun := ⟨x24b, [(.t 4), (.t 5)]⟩
theorem x24_ok : compF Try.prog 24 = some x24 := by kernel_rfl
/-- bollard/serial.Less (8) -/
def x25b : XC := (.seq (.region [⟨(some 4), (.mv (.c (.b false))), none, 0, []⟩])
  (.seq (.region [⟨(some 5), (.mv (.t 0)), none, 0, []⟩, ⟨(some 6), (.mv (.t 1)), none, 1, []⟩, ⟨(some 7), (.call (.c (.fn (.func 42) [] [])) [(.t 5), (.t 6)]), none, 2, []⟩, ⟨(some 4), (.mv (.t 7)), none, 3, []⟩])
  .ret))
def x25 : XFun := ⟨x25b, [(.t 4)]⟩
theorem x25_ok : compF Try.prog 25 = some x25 := by kernel_rfl
/-- (*bollard/sendq.Queue).Expire (68) -/
def x26b : XC := (.seq (.region [⟨(some 3), (.box (.t 1)), none, 0, []⟩, ⟨(some 4), (.mv (.c (.i .i64 0))), none, 1, []⟩])
  (.seq (.region [⟨(some 5), (.alloc [(.i .i64 0)]), none, 0, []⟩, ⟨none, (.store 1 (.t 5) (.c (.i .i64 0))), none, 1, []⟩])
  (.seq (.region [⟨(some 10), .mkmap, none, 0, []⟩, ⟨(some 6), (.alloc [(.m none)]), none, 1, []⟩, ⟨none, (.store 1 (.t 6) (.t 10)), none, 2, []⟩])
  (.seq (.seq (.region [⟨(some 11), (.mv (.t 0)), none, 0, []⟩, ⟨(some 12), (.bslice [(.i .i64 0), (.i .i64 0), (.i .i64 0)] [(0, 1, (.c (.i .i64 0))), (1, 1, (.c (.i .i64 1))), (2, 1, (.c (.i .i64 2)))] 3), none, 1, []⟩, ⟨(some 13), (.call (.c (.fn (.func 35) [] [])) [(.t 11), (.t 12)]), none, 2, []⟩])
  (.block 0 (.rangeFn (.t 13) [14] (.region [⟨(some 7), (.mv (.t 14)), none, 0, []⟩]) (.block 1 (.draw [⟨(some 16), (.mv (.t 7)), none, 1, []⟩, ⟨(some 17), (.nilc (.t 16)), none, 2, [1]⟩, ⟨(some 18), (.fadd 12 (.t 17)), none, 3, [1, 2]⟩, ⟨(some 15), (.load false 1 (.t 6)), none, 0, []⟩, ⟨(some 19), (.load false 1 (.t 18)), none, 4, [1, 2, 3]⟩, ⟨none, (.mput 3 (.t 15) (.t 19) (.c (.b true))), none, 5, [0, 1, 2, 3, 4]⟩])))))
  (.seq (.seq (.region [⟨(some 20), (.mv (.t 0)), none, 0, []⟩, ⟨(some 21), (.bslice [(.i .i64 0), (.i .i64 0), (.i .i64 0), (.i .i64 0)] [(0, 1, (.c (.i .i64 0))), (1, 1, (.c (.i .i64 1))), (2, 1, (.c (.i .i64 2))), (3, 1, (.c (.i .i64 3)))] 4), none, 1, []⟩, ⟨(some 22), (.call (.c (.fn (.func 35) [] [])) [(.t 20), (.t 21)]), none, 2, []⟩])
  (.block 2 (.rangeFn (.t 22) [23] (.region [⟨(some 8), (.mv (.t 23)), none, 0, []⟩]) (.block 3 (.seq (.draw [⟨(some 25), (.mv (.t 8)), none, 1, []⟩, ⟨(some 26), (.nilc (.t 25)), none, 2, [1]⟩, ⟨(some 27), (.fadd 12 (.t 26)), none, 3, [1, 2]⟩, ⟨(some 24), (.load false 1 (.t 6)), none, 0, []⟩, ⟨(some 28), (.load false 1 (.t 27)), none, 4, [1, 2, 3]⟩, ⟨(some 29), (.lookup 3 (.b false) (.t 24) (.t 28) false), none, 5, [0, 1, 2, 3, 4]⟩, ⟨(some 30), (.mv (.t 29)), none, 6, [0, 1, 2, 3, 4, 5]⟩, ⟨(some 31), (.mv (.t 8)), (some (30, true)), 7, [0, 1, 2, 3, 4, 5, 6]⟩, ⟨(some 32), (.nilc (.t 31)), (some (30, true)), 8, [0, 1, 2, 3, 4, 5, 6, 7]⟩, ⟨(some 33), (.fadd 12 (.t 32)), (some (30, true)), 9, [0, 1, 2, 3, 4, 5, 6, 7, 8]⟩, ⟨(some 34), (.load false 1 (.t 33)), (some (30, true)), 10, [0, 1, 2, 3, 4, 5, 6, 7, 8, 9]⟩, ⟨(some 35), (.nilc (.t 34)), (some (30, true)), 11, [0, 1, 2, 3, 4, 5, 6, 7, 8, 9, 10]⟩, ⟨(some 36), (.fadd 2 (.t 35)), (some (30, true)), 12, [0, 1, 2, 3, 4, 5, 6, 7, 8, 9, 10, 11]⟩, ⟨(some 37), (.load false 1 (.t 36)), (some (30, true)), 13, [0, 1, 2, 3, 4, 5, 6, 7, 8, 9, 10, 11, 12]⟩, ⟨(some 38), (.unx .not (.t 37)), (some (30, true)), 14, [0, 1, 2, 3, 4, 5, 6, 7, 8, 9, 10, 11, 12, 13]⟩, ⟨(some 39), (.pick (.t 30) (.t 38) (.c (.b false))), none, 15, [0, 1, 2, 3, 4, 5, 6, 7, 8, 9, 10, 11, 12, 13, 14]⟩, ⟨(some 40), (.mv (.t 39)), none, 16, [0, 1, 2, 3, 4, 5, 6, 7, 8, 9, 10, 11, 12, 13, 14, 15]⟩, ⟨(some 41), (.mv (.t 8)), (some (40, true)), 17, [0, 1, 2, 3, 4, 5, 6, 7, 8, 9, 10, 11, 12, 13, 14, 15, 16]⟩, ⟨(some 42), (.load false 1 (.t 3)), (some (40, true)), 18, [0, 1, 2, 3, 4, 5, 6, 7, 8, 9, 10, 11, 12, 13, 14, 15, 16]⟩, ⟨(some 43), (.call (.c (.fn (.func 43) [] [])) [(.t 41), (.t 42)]), (some (40, true)), 19, [0, 1, 2, 3, 4, 5, 6, 7, 8, 9, 10, 11, 12, 13, 14, 15, 16, 17, 18]⟩, ⟨(some 44), (.pick (.t 40) (.t 43) (.c (.b false))), none, 20, [0, 1, 2, 3, 4, 5, 6, 7, 8, 9, 10, 11, 12, 13, 14, 15, 16, 17, 18, 19]⟩])
  (.cond (.t 44) (.seq (.region [⟨(some 45), (.mv (.t 8)), none, 0, []⟩, ⟨(some 46), (.nilc (.t 45)), none, 1, []⟩, ⟨(some 47), (.fadd 12 (.t 46)), none, 2, []⟩, ⟨(some 48), (.load false 1 (.t 47)), none, 3, []⟩, ⟨(some 49), (.nilc (.t 48)), none, 4, []⟩, ⟨(some 50), (.fadd 2 (.t 49)), none, 5, []⟩, ⟨none, (.store 1 (.t 50) (.c (.b true))), none, 6, []⟩])
  (.region [⟨(some 51), (.load false 1 (.t 5)), none, 0, []⟩, ⟨(some 52), (.bin .add (.t 51) (.c (.i .i64 1))), none, 1, []⟩, ⟨none, (.store 1 (.t 5) (.t 52)), none, 2, []⟩])) .skip))))))
  (.seq (.seq (.region [⟨(some 53), (.mv (.t 0)), none, 0, []⟩, ⟨(some 54), (.bslice [(.i .i64 0), (.i .i64 0), (.i .i64 0), (.i .i64 0)] [(0, 1, (.c (.i .i64 0))), (1, 1, (.c (.i .i64 1))), (2, 1, (.c (.i .i64 2))), (3, 1, (.c (.i .i64 3)))] 4), none, 1, []⟩, ⟨(some 55), (.call (.c (.fn (.func 35) [] [])) [(.t 53), (.t 54)]), none, 2, []⟩])
  (.block 4 (.rangeFn (.t 55) [56] (.region [⟨(some 9), (.mv (.t 56)), none, 0, []⟩]) (.block 5 (.seq (.region [⟨(some 57), (.mv (.t 9)), none, 0, []⟩, ⟨(some 58), (.nilc (.t 57)), none, 1, []⟩, ⟨(some 59), (.fadd 12 (.t 58)), none, 2, []⟩, ⟨(some 60), (.load false 1 (.t 59)), none, 3, []⟩, ⟨(some 61), (.nilc (.t 60)), none, 4, []⟩, ⟨(some 62), (.fadd 2 (.t 61)), none, 5, []⟩, ⟨(some 63), (.load false 1 (.t 62)), none, 6, []⟩])
  (.cond (.t 63) (.region [⟨(some 64), (.mv (.t 9)), none, 0, []⟩, ⟨(some 65), (.nilc (.t 64)), none, 1, []⟩, ⟨(some 66), (.fadd 13 (.t 65)), none, 2, []⟩, ⟨none, (.store 1 (.t 66) (.c (.i .i64 4))), none, 3, []⟩]) .skip))))))
  (.seq (.region [⟨(some 67), (.load false 1 (.t 5)), none, 0, []⟩, ⟨(some 4), (.mv (.t 67)), none, 1, []⟩])
  .ret)))))))
def x26 : XFun := ⟨x26b, [(.t 4)]⟩
theorem x26_ok : compF Try.prog 26 = some x26 := by kernel_rfl
/-- (*bollard/sendq.Queue).Forward (96) -/
def x27b : XC := (.seq (.region [⟨(some 2), (.mv (.c (.i .u32 0))), none, 0, []⟩, ⟨(some 3), (.mv (.c (.sl none 0 0 0))), none, 1, []⟩, ⟨(some 4), (.mv (.c (.b false))), none, 2, []⟩])
  (.seq (.region [⟨(some 5), (.mv (.c (.i .i64 0))), none, 0, []⟩])
  (.seq (.seq (.region [⟨(some 13), (.mv (.t 0)), none, 0, []⟩, ⟨(some 14), (.call (.c (.fn (.func 44) [] [])) [(.t 13)]), none, 1, []⟩, ⟨(some 15), (.lenx (.t 14)), none, 2, []⟩, ⟨(some 16), (.mv (.c (.i .i64 0))), none, 3, []⟩])
  (.block 0 (.loop (.seq (.region [⟨(some 17), (.bin .lss (.t 16) (.t 15)), none, 0, []⟩])
  (.seq (.cond (.t 17) .skip (.exit 0))
  (.seq (.block 1 (.seq (.region [⟨(some 18), (.mv (.t 16)), none, 0, []⟩, ⟨(some 19), (.isl 1 (.t 14) (.t 16)), none, 1, []⟩, ⟨(some 20), (.load false 1 (.t 19)), none, 2, []⟩, ⟨(some 6), (.mv (.t 18)), none, 3, []⟩, ⟨(some 7), (.mv (.t 20)), none, 4, []⟩])
  (.seq (.region [⟨(some 21), (.mv (.t 7)), none, 0, []⟩, ⟨(some 22), (.nilc (.t 21)), none, 1, []⟩, ⟨(some 23), (.fadd 13 (.t 22)), none, 2, []⟩, ⟨(some 24), (.load false 1 (.t 23)), none, 3, []⟩, ⟨(some 25), (.bin .eql (.t 24) (.c (.i .i64 4))), none, 4, []⟩])
  (.cond (.t 25) (.region [⟨(some 26), (.mv (.t 6)), none, 0, []⟩, ⟨(some 27), (.bin .add (.t 26) (.c (.i .i64 1))), none, 1, []⟩, ⟨(some 5), (.mv (.t 27)), none, 2, []⟩]) .skip))))
  (.region [⟨(some 28), (.bin .add (.t 16) (.c (.i .i64 1))), none, 0, []⟩, ⟨(some 16), (.mv (.t 28)), none, 1, []⟩])))))))
  (.seq (.seq (.region [⟨(some 29), (.mv (.t 5)), none, 0, []⟩, ⟨(some 30), (.bin .eql (.t 29) (.c (.i .i64 0))), none, 1, []⟩])
  (.cond (.t 30) (.seq (.region [⟨(some 31), (.mv (.t 0)), none, 0, []⟩, ⟨(some 32), (.call (.c (.fn (.func 17) [] [])) [(.t 31)]), none, 1, []⟩, ⟨(some 2), (.mv (.t 32)), none, 2, []⟩, ⟨(some 3), (.mv (.c (.sl none 0 0 0))), none, 3, []⟩, ⟨(some 4), (.mv (.c (.b false))), none, 4, []⟩])
  .ret) .skip))
  (.seq (.region [⟨(some 8), (.mv (.c (.sl none 0 0 0))), none, 0, []⟩])
  (.seq (.seq (.region [⟨(some 33), (.mv (.t 0)), none, 0, []⟩, ⟨(some 34), (.nilc (.t 33)), none, 1, []⟩, ⟨(some 35), (.fadd 0 (.t 34)), none, 2, []⟩, ⟨(some 36), (.load false 1 (.t 35)), none, 3, []⟩, ⟨(some 37), (.mv (.t 5)), none, 4, []⟩, ⟨(some 38), (.slsl 1 (.t 36) none (some (.t 37)) none), none, 5, []⟩, ⟨(some 39), (.lenx (.t 38)), none, 6, []⟩, ⟨(some 40), (.mv (.c (.i .i64 0))), none, 7, []⟩])
  (.block 2 (.loop (.seq (.region [⟨(some 41), (.bin .lss (.t 40) (.t 39)), none, 0, []⟩])
  (.seq (.cond (.t 41) .skip (.exit 2))
  (.seq (.block 3 (.seq (.region [⟨(some 42), (.isl 1 (.t 38) (.t 40)), none, 0, []⟩, ⟨(some 43), (.load false 1 (.t 42)), none, 1, []⟩, ⟨(some 10), (.mv (.t 43)), none, 2, []⟩])
  (.seq (.seq (.region [⟨(some 44), (.mv (.t 10)), none, 0, []⟩, ⟨(some 45), (.nilc (.t 44)), none, 1, []⟩, ⟨(some 46), (.fadd 13 (.t 45)), none, 2, []⟩, ⟨(some 47), (.load false 1 (.t 46)), none, 3, []⟩, ⟨(some 48), (.bin .eql (.t 47) (.c (.i .i64 3))), none, 4, []⟩, ⟨(some 49), (.mv (.t 48)), none, 5, []⟩, ⟨(some 50), (.mv (.t 10)), (some (49, false)), 6, []⟩, ⟨(some 51), (.nilc (.t 50)), (some (49, false)), 7, []⟩, ⟨(some 52), (.fadd 0 (.t 51)), (some (49, false)), 8, []⟩, ⟨(some 53), (.fadd 1 (.t 52)), (some (49, false)), 9, []⟩, ⟨(some 54), (.load false 1 (.t 53)), (some (49, false)), 10, []⟩, ⟨(some 55), (.bin .and (.t 54) (.c (.i .u8 4))), (some (49, false)), 11, []⟩, ⟨(some 56), (.bin .neq (.t 55) (.c (.i .u8 0))), (some (49, false)), 12, []⟩, ⟨(some 57), (.pick (.t 49) (.c (.b true)) (.t 56)), none, 13, []⟩])
  (.cond (.t 57) (.exit 3) .skip))
  (.seq (.draw [⟨(some 58), (.mv (.t 10)), none, 0, []⟩, ⟨(some 59), (.nilc (.t 58)), none, 1, [0]⟩, ⟨(some 60), (.fadd 0 (.t 59)), none, 2, [0, 1]⟩, ⟨(some 61), (.fadd 4 (.t 60)), none, 3, [0, 1, 2]⟩, ⟨(some 63), (.mv (.t 10)), none, 5, []⟩, ⟨(some 64), (.nilc (.t 63)), none, 6, [5]⟩, ⟨(some 65), (.fadd 0 (.t 64)), none, 7, [5, 6]⟩, ⟨(some 66), (.fadd 5 (.t 65)), none, 8, [5, 6, 7]⟩, ⟨(some 62), (.load false 1 (.t 61)), none, 4, [0, 1, 2, 3]⟩, ⟨(some 67), (.load false 1 (.t 66)), none, 9, [5, 6, 7, 8]⟩, ⟨(some 68), (.build [(.i .u16 0), (.i .u16 0)] [(0, 1, (.t 62)), (1, 1, (.t 67))]), none, 10, [0, 1, 2, 3, 4, 5, 6, 7, 8, 9]⟩, ⟨(some 11), (.alloc [(.i .u16 0), (.i .u16 0)]), none, 11, []⟩, ⟨none, (.store 2 (.t 11) (.t 68)), none, 12, [0, 1, 2, 3, 4, 5, 6, 7, 8, 9, 10, 11]⟩])
  (.seq (.seq (.region [⟨(some 69), (.mv (.t 8)), none, 0, []⟩, ⟨(some 70), (.mkf (.func 46) [] [(.t 11)]), none, 1, []⟩, ⟨(some 71), (.call (.c (.fn (.func 45) [] [])) [(.t 69), (.t 70)]), none, 2, []⟩, ⟨(some 12), (.mv (.t 71)), none, 3, []⟩])
  (.seq (.region [⟨(some 72), (.mv (.t 12)), none, 0, []⟩, ⟨(some 73), (.bin .geq (.t 72) (.c (.i .i64 0))), none, 1, []⟩])
  (.cond (.t 73) (.seq (.region [⟨(some 74), (.mv (.t 8)), none, 0, []⟩, ⟨(some 75), (.mv (.t 12)), none, 1, []⟩, ⟨(some 76), (.load true 2 (.t 11)), none, 2, []⟩, ⟨(some 77), (.isl 2 (.t 74) (.t 75)), none, 3, []⟩, ⟨none, (.store 2 (.t 77) (.t 76)), none, 4, []⟩])
  (.exit 3)) .skip)))
  (.region [⟨(some 78), (.mv (.t 8)), none, 0, []⟩, ⟨(some 79), (.load true 2 (.t 11)), none, 1, []⟩, ⟨(some 80), (.bslice [(.i .u16 0), (.i .u16 0)] [(0, 2, (.t 79))] 1), none, 2, []⟩, ⟨(some 81), (.append 2 4 (.t 78) (.t 80)), none, 3, []⟩, ⟨(some 8), (.mv (.t 81)), none, 4, []⟩]))))))
  (.region [⟨(some 82), (.bin .add (.t 40) (.c (.i .i64 1))), none, 0, []⟩, ⟨(some 40), (.mv (.t 82)), none, 1, []⟩])))))))
  (.seq (.region [⟨(some 83), (.mv (.t 0)), none, 0, []⟩, ⟨(some 84), (.nilc (.t 83)), none, 1, []⟩, ⟨(some 85), (.fadd 0 (.t 84)), none, 2, []⟩, ⟨(some 86), (.load false 1 (.t 85)), none, 3, []⟩, ⟨(some 87), (.mv (.t 5)), none, 4, []⟩, ⟨(some 88), (.bin .sub (.t 87) (.c (.i .i64 1))), none, 5, []⟩, ⟨(some 89), (.isl 1 (.t 86) (.t 88)), none, 6, []⟩, ⟨(some 90), (.load false 1 (.t 89)), none, 7, []⟩, ⟨(some 91), (.nilc (.t 90)), none, 8, []⟩, ⟨(some 92), (.fadd 0 (.t 91)), none, 9, []⟩, ⟨(some 93), (.fadd 2 (.t 92)), none, 10, []⟩, ⟨(some 94), (.load false 1 (.t 93)), none, 11, []⟩, ⟨(some 95), (.mv (.t 8)), none, 12, []⟩, ⟨(some 2), (.mv (.t 94)), none, 13, []⟩, ⟨(some 3), (.mv (.t 95)), none, 14, []⟩, ⟨(some 4), (.mv (.c (.b true))), none, 15, []⟩])
  .ret)))))))
def x27 : XFun := ⟨x27b, [(.t 2), (.t 3), (.t 4)]⟩
theorem x27_ok : compF Try.prog 27 = some x27 := by kernel_rfl
/-- bollard/bollardref15.New (6) -/
def x28b : XC := (.seq (.region [⟨(some 2), (.mv (.c (.p none))), none, 0, []⟩])
  (.seq (.region [⟨(some 3), (.mv (.t 0)), none, 0, []⟩, ⟨(some 4), (.build [(.sl none 0 0 0), (.i .u32 0), (.i .i64 0)] [(1, 1, (.t 3))]), none, 1, []⟩, ⟨(some 5), (.box (.t 4)), none, 2, []⟩, ⟨(some 2), (.mv (.t 5)), none, 3, []⟩])
  .ret))
def x28 : XFun := ⟨x28b, [(.t 2)]⟩
theorem x28_ok : compF Try.prog 28 = some x28 := by kernel_rfl
/-- bollard/bollardlaw15.step (132) -/
def x29b : XC := (.seq (.region [⟨(some 6), (.box (.t 2)), none, 0, []⟩, ⟨(some 8), (.mv (.c (.b false))), none, 1, []⟩])
  (.seq (.seq (.region [⟨(some 16), (.fadd 0 (.t 6)), none, 0, []⟩, ⟨(some 17), (.load false 1 (.t 16)), none, 1, []⟩])
  (.block 0 (.seq (.region [⟨(some 19), (.bin .eql (.t 17) (.c (.i .i64 0))), none, 0, []⟩, ⟨(some 18), (.mv (.t 19)), none, 1, []⟩])
  (.cond (.t 18) (.seq (.draw [⟨(some 20), (.mv (.t 0)), none, 0, []⟩, ⟨(some 21), (.fadd 3 (.t 6)), none, 1, []⟩, ⟨(some 23), (.fadd 1 (.t 6)), none, 3, []⟩, ⟨(some 25), (.fadd 2 (.t 6)), none, 5, []⟩, ⟨(some 28), (.mv (.t 1)), none, 8, []⟩, ⟨(some 29), (.fadd 3 (.t 6)), none, 9, []⟩, ⟨(some 31), (.fadd 1 (.t 6)), none, 11, []⟩, ⟨(some 33), (.fadd 2 (.t 6)), none, 13, []⟩, ⟨(some 22), (.load false 1 (.t 21)), none, 2, [1]⟩, ⟨(some 24), (.load false 1 (.t 23)), none, 4, [3]⟩, ⟨(some 26), (.load false 1 (.t 25)), none, 6, [5]⟩, ⟨(some 30), (.load false 1 (.t 29)), none, 10, [9]⟩, ⟨(some 32), (.load false 1 (.t 31)), none, 12, [11]⟩, ⟨(some 34), (.load false 1 (.t 33)), none, 14, [13]⟩, ⟨(some 27), (.call (.c (.fn (.func 12) [] [])) [(.t 20), (.t 22), (.t 24), (.t 26)]), none, 7, [0, 1, 2, 3, 4, 5, 6]⟩, ⟨(some 35), (.call (.c (.fn (.func 47) [] [])) [(.t 28), (.t 30), (.t 32), (.t 34)]), none, 15, [0, 1, 2, 3, 4, 5, 6, 7, 8, 9, 10, 11, 12, 13, 14]⟩, ⟨(some 36), (.bin .eql (.t 27) (.t 35)), none, 16, [0, 1, 2, 3, 4, 5, 6, 7, 8, 9, 10, 11, 12, 13, 14, 15]⟩, ⟨(some 8), (.mv (.t 36)), none, 17, [0, 1, 2, 3, 4, 5, 6, 7, 8, 9, 10, 11, 12, 13, 14, 15, 16]⟩])
  .ret) (.seq (.region [⟨(some 38), (.bin .eql (.t 17) (.c (.i .i64 1))), none, 0, []⟩, ⟨(some 37), (.mv (.t 38)), none, 1, []⟩])
  (.cond (.t 37) (.seq (.draw [⟨(some 39), (.mv (.t 0)), none, 0, []⟩, ⟨(some 40), (.fadd 1 (.t 6)), none, 1, []⟩, ⟨(some 43), (.fadd 2 (.t 6)), none, 4, []⟩, ⟨(some 46), (.mv (.t 1)), none, 7, []⟩, ⟨(some 47), (.fadd 1 (.t 6)), none, 8, []⟩, ⟨(some 50), (.fadd 2 (.t 6)), none, 11, []⟩, ⟨(some 41), (.load false 1 (.t 40)), none, 2, [1]⟩, ⟨(some 44), (.load false 1 (.t 43)), none, 5, [4]⟩, ⟨(some 48), (.load false 1 (.t 47)), none, 9, [8]⟩, ⟨(some 51), (.load false 1 (.t 50)), none, 12, [11]⟩, ⟨(some 42), (.call (.c (.fn (.func 16) [] [])) [(.t 41)]), none, 3, [1, 2]⟩, ⟨(some 45), (.call (.c (.fn (.func 14) [] [])) [(.t 39), (.t 42), (.t 44)]), none, 6, [0, 1, 2, 3, 4, 5]⟩, ⟨(some 49), (.call (.c (.fn (.func 16) [] [])) [(.t 48)]), none, 10, [0, 1, 2, 3, 4, 5, 6, 8, 9]⟩, ⟨(some 52), (.call (.c (.fn (.func 49) [] [])) [(.t 46), (.t 49), (.t 51)]), none, 13, [0, 1, 2, 3, 4, 5, 6, 7, 8, 9, 10, 11, 12]⟩, ⟨(some 53), (.call (.c (.fn (.func 48) [] [])) [(.t 45), (.t 52)]), none, 14, [0, 1, 2, 3, 4, 5, 6, 7, 8, 9, 10, 11, 12, 13]⟩, ⟨(some 8), (.mv (.t 53)), none, 15, [0, 1, 2, 3, 4, 5, 6, 7, 8, 9, 10, 11, 12, 13, 14]⟩])
  .ret) (.seq (.region [⟨(some 55), (.bin .eql (.t 17) (.c (.i .i64 2))), none, 0, []⟩, ⟨(some 54), (.mv (.t 55)), none, 1, []⟩])
  (.cond (.t 54) (.seq (.draw [⟨(some 57), (.mv (.t 0)), none, 0, []⟩, ⟨(some 58), (.mv (.t 3)), none, 1, []⟩, ⟨(some 59), (.fadd 4 (.t 6)), none, 2, []⟩, ⟨(some 62), (.fadd 5 (.t 6)), none, 5, []⟩, ⟨(some 64), (.fadd 1 (.t 6)), none, 7, []⟩, ⟨(some 60), (.load false 1 (.t 59)), none, 3, [2]⟩, ⟨(some 61), (.bin .add (.t 58) (.t 60)), none, 4, [1, 2, 3]⟩, ⟨(some 63), (.load false 1 (.t 62)), none, 6, [5]⟩, ⟨(some 65), (.load false 1 (.t 64)), none, 8, [7]⟩, ⟨(some 66), (.call (.c (.fn (.func 16) [] [])) [(.t 65)]), none, 9, [7, 8]⟩, ⟨(some 67), (.call (.c (.fn (.func 15) [] [])) [(.t 57), (.t 61), (.t 63), (.t 66)]), none, 10, [0, 1, 2, 3, 4, 5, 6, 7, 8, 9]⟩, ⟨(some 56), (.mv (.t 67)), none, 11, [0, 1, 2, 3, 4, 5, 6, 7, 8, 9, 10]⟩, ⟨(some 68), (.ext (.t 56) 0), none, 12, [0, 1, 2, 3, 4, 5, 6, 7, 8, 9, 10, 11]⟩, ⟨(some 69), (.ext (.t 56) 1), none, 13, [0, 1, 2, 3, 4, 5, 6, 7, 8, 9, 10, 11]⟩, ⟨(some 9), (.alloc [(.i .i64 0), (.i .i64 0), (.b false), (.b false)]), none, 14, []⟩, ⟨none, (.store 4 (.t 9) (.t 68)), none, 15, [0, 1, 2, 3, 4, 5, 6, 7, 8, 9, 10, 11, 12, 14]⟩, ⟨(some 10), (.mv (.t 69)), none, 16, [0, 1, 2, 3, 4, 5, 6, 7, 8, 9, 10, 11, 12, 13, 14, 15]⟩])
  (.seq (.draw [⟨(some 71), (.mv (.t 1)), none, 0, []⟩, ⟨(some 72), (.mv (.t 3)), none, 1, []⟩, ⟨(some 73), (.fadd 4 (.t 6)), none, 2, []⟩, ⟨(some 76), (.fadd 5 (.t 6)), none, 5, []⟩, ⟨(some 78), (.fadd 1 (.t 6)), none, 7, []⟩, ⟨(some 74), (.load false 1 (.t 73)), none, 3, [2]⟩, ⟨(some 75), (.bin .add (.t 72) (.t 74)), none, 4, [1, 2, 3]⟩, ⟨(some 77), (.load false 1 (.t 76)), none, 6, [5]⟩, ⟨(some 79), (.load false 1 (.t 78)), none, 8, [7]⟩, ⟨(some 80), (.call (.c (.fn (.func 16) [] [])) [(.t 79)]), none, 9, [7, 8]⟩, ⟨(some 81), (.call (.c (.fn (.func 50) [] [])) [(.t 71), (.t 75), (.t 77), (.t 80)]), none, 10, [0, 1, 2, 3, 4, 5, 6, 7, 8, 9]⟩, ⟨(some 70), (.mv (.t 81)), none, 11, [0, 1, 2, 3, 4, 5, 6, 7, 8, 9, 10]⟩, ⟨(some 82), (.ext (.t 70) 0), none, 12, [0, 1, 2, 3, 4, 5, 6, 7, 8, 9, 10, 11]⟩, ⟨(some 83), (.ext (.t 70) 1), none, 13, [0, 1, 2, 3, 4, 5, 6, 7, 8, 9, 10, 11]⟩, ⟨(some 84), (.ext (.t 70) 2), none, 14, [0, 1, 2, 3, 4, 5, 6, 7, 8, 9, 10, 11]⟩, ⟨(some 85), (.ext (.t 70) 3), none, 15, [0, 1, 2, 3, 4, 5, 6, 7, 8, 9, 10, 11]⟩, ⟨(some 86), (.ext (.t 70) 4), none, 16, [0, 1, 2, 3, 4, 5, 6, 7, 8, 9, 10, 11]⟩, ⟨(some 11), (.mv (.t 82)), none, 17, [0, 1, 2, 3, 4, 5, 6, 7, 8, 9, 10, 11, 12]⟩, ⟨(some 12), (.mv (.t 83)), none, 18, [0, 1, 2, 3, 4, 5, 6, 7, 8, 9, 10, 11, 12, 13, 17]⟩, ⟨(some 13), (.mv (.t 84)), none, 19, [0, 1, 2, 3, 4, 5, 6, 7, 8, 9, 10, 11, 12, 13, 14, 17, 18]⟩, ⟨(some 14), (.mv (.t 85)), none, 20, [0, 1, 2, 3, 4, 5, 6, 7, 8, 9, 10, 11, 12, 13, 14, 15, 17, 18, 19]⟩, ⟨(some 15), (.mv (.t 86)), none, 21, [0, 1, 2, 3, 4, 5, 6, 7, 8, 9, 10, 11, 12, 13, 14, 15, 16, 17, 18, 19, 20]⟩])
  (.seq (.region [⟨(some 87), (.fadd 0 (.t 9)), none, 0, []⟩, ⟨(some 88), (.load false 1 (.t 87)), none, 1, []⟩, ⟨(some 89), (.mv (.t 11)), none, 2, []⟩, ⟨(some 90), (.bin .eql (.t 88) (.t 89)), none, 3, []⟩, ⟨(some 91), (.mv (.t 90)), none, 4, []⟩, ⟨(some 92), (.fadd 1 (.t 9)), (some (91, true)), 5, []⟩, ⟨(some 93), (.load false 1 (.t 92)), (some (91, true)), 6, []⟩, ⟨(some 94), (.mv (.t 12)), (some (91, true)), 7, []⟩, ⟨(some 95), (.bin .eql (.t 93) (.t 94)), (some (91, true)), 8, []⟩, ⟨(some 96), (.pick (.t 91) (.t 95) (.c (.b false))), none, 9, []⟩, ⟨(some 97), (.mv (.t 96)), none, 10, []⟩, ⟨(some 98), (.fadd 2 (.t 9)), (some (97, true)), 11, []⟩, ⟨(some 99), (.load false 1 (.t 98)), (some (97, true)), 12, []⟩, ⟨(some 100), (.mv (.t 13)), (some (97, true)), 13, []⟩, ⟨(some 101), (.beq false (.t 99) (.t 100)), (some (97, true)), 14, []⟩, ⟨(some 102), (.pick (.t 97) (.t 101) (.c (.b false))), none, 15, []⟩, ⟨(some 103), (.mv (.t 102)), none, 16, []⟩, ⟨(some 104), (.fadd 3 (.t 9)), (some (103, true)), 17, []⟩, ⟨(some 105), (.load false 1 (.t 104)), (some (103, true)), 18, []⟩, ⟨(some 106), (.mv (.t 14)), (some (103, true)), 19, []⟩, ⟨(some 107), (.beq false (.t 105) (.t 106)), (some (103, true)), 20, []⟩, ⟨(some 108), (.pick (.t 103) (.t 107) (.c (.b false))), none, 21, []⟩, ⟨(some 109), (.mv (.t 108)), none, 22, []⟩, ⟨(some 110), (.mv (.t 10)), (some (109, true)), 23, []⟩, ⟨(some 111), (.mv (.t 15)), (some (109, true)), 24, []⟩, ⟨(some 112), (.beq false (.t 110) (.t 111)), (some (109, true)), 25, []⟩, ⟨(some 113), (.pick (.t 109) (.t 112) (.c (.b false))), none, 26, []⟩, ⟨(some 8), (.mv (.t 113)), none, 27, []⟩])
  .ret))) (.seq (.region [⟨(some 115), (.bin .eql (.t 17) (.c (.i .i64 3))), none, 0, []⟩, ⟨(some 114), (.mv (.t 115)), none, 1, []⟩])
  (.cond (.t 114) (.seq (.region [⟨(some 116), (.mv (.t 0)), none, 0, []⟩, ⟨(some 117), (.call (.c (.fn (.func 22) [] [])) [(.t 116)]), none, 1, []⟩, ⟨(some 118), (.mv (.t 1)), none, 2, []⟩, ⟨(some 119), (.call (.c (.fn (.func 51) [] [])) [(.t 118)]), none, 3, []⟩, ⟨(some 120), (.bin .eql (.t 117) (.t 119)), none, 4, []⟩, ⟨(some 8), (.mv (.t 120)), none, 5, []⟩])
  .ret) .skip))))))))))
  (.seq (.draw [⟨(some 121), (.mv (.t 0)), none, 0, []⟩, ⟨(some 122), (.fadd 1 (.t 6)), none, 1, []⟩, ⟨(some 126), (.mv (.t 1)), none, 5, []⟩, ⟨(some 127), (.fadd 1 (.t 6)), none, 6, []⟩, ⟨(some 123), (.load false 1 (.t 122)), none, 2, [1]⟩, ⟨(some 128), (.load false 1 (.t 127)), none, 7, [6]⟩, ⟨(some 124), (.call (.c (.fn (.func 16) [] [])) [(.t 123)]), none, 3, [1, 2]⟩, ⟨(some 125), (.call (.c (.fn (.func 26) [] [])) [(.t 121), (.t 124)]), none, 4, [0, 1, 2, 3]⟩, ⟨(some 129), (.call (.c (.fn (.func 16) [] [])) [(.t 128)]), none, 8, [0, 1, 2, 3, 4, 6, 7]⟩, ⟨(some 130), (.call (.c (.fn (.func 52) [] [])) [(.t 126), (.t 129)]), none, 9, [0, 1, 2, 3, 4, 5, 6, 7, 8]⟩, ⟨(some 131), (.bin .eql (.t 125) (.t 130)), none, 10, [0, 1, 2, 3, 4, 5, 6, 7, 8, 9]⟩, ⟨(some 8), (.mv (.t 131)), none, 11, [0, 1, 2, 3, 4, 5, 6, 7, 8, 9, 10]⟩])
  .ret)))
def x29 : XFun := ⟨x29b, [(.t 8)]⟩
theorem x29_ok : compF Try.prog 29 = some x29 := by kernel_rfl
/-- bollard/bollardlaw15.alike (104) -/
def x30b : XC := (.seq (.region [⟨(some 6), (.mv (.c (.b false))), none, 0, []⟩])
  (.seq (.region [⟨(some 18), (.mv (.t 0)), none, 0, []⟩, ⟨(some 19), (.call (.c (.fn (.func 27) [] [])) [(.t 18)]), none, 1, []⟩, ⟨(some 17), (.mv (.t 19)), none, 2, []⟩, ⟨(some 20), (.ext (.t 17) 0), none, 3, []⟩, ⟨(some 21), (.ext (.t 17) 1), none, 4, []⟩, ⟨(some 22), (.ext (.t 17) 2), none, 5, []⟩, ⟨(some 7), (.mv (.t 20)), none, 6, []⟩, ⟨(some 8), (.mv (.t 21)), none, 7, []⟩, ⟨(some 9), (.mv (.t 22)), none, 8, []⟩])
  (.seq (.region [⟨(some 24), (.mv (.t 1)), none, 0, []⟩, ⟨(some 25), (.call (.c (.fn (.func 53) [] [])) [(.t 24)]), none, 1, []⟩, ⟨(some 23), (.mv (.t 25)), none, 2, []⟩, ⟨(some 26), (.ext (.t 23) 0), none, 3, []⟩, ⟨(some 27), (.ext (.t 23) 1), none, 4, []⟩, ⟨(some 28), (.ext (.t 23) 2), none, 5, []⟩, ⟨(some 10), (.mv (.t 26)), none, 6, []⟩, ⟨(some 11), (.mv (.t 27)), none, 7, []⟩, ⟨(some 12), (.mv (.t 28)), none, 8, []⟩])
  (.seq (.region [⟨(some 30), (.mv (.t 0)), none, 0, []⟩, ⟨(some 31), (.mv (.t 2)), none, 1, []⟩, ⟨(some 32), (.call (.c (.fn (.func 24) [] [])) [(.t 30), (.t 31)]), none, 2, []⟩, ⟨(some 29), (.mv (.t 32)), none, 3, []⟩, ⟨(some 33), (.ext (.t 29) 0), none, 4, []⟩, ⟨(some 34), (.ext (.t 29) 1), none, 5, []⟩, ⟨(some 13), (.mv (.t 33)), none, 6, []⟩, ⟨(some 14), (.mv (.t 34)), none, 7, []⟩])
  (.seq (.region [⟨(some 36), (.mv (.t 1)), none, 0, []⟩, ⟨(some 37), (.mv (.t 2)), none, 1, []⟩, ⟨(some 38), (.call (.c (.fn (.func 54) [] [])) [(.t 36), (.t 37)]), none, 2, []⟩, ⟨(some 35), (.mv (.t 38)), none, 3, []⟩, ⟨(some 39), (.ext (.t 35) 0), none, 4, []⟩, ⟨(some 40), (.ext (.t 35) 1), none, 5, []⟩, ⟨(some 15), (.mv (.t 39)), none, 6, []⟩, ⟨(some 16), (.mv (.t 40)), none, 7, []⟩])
  (.seq (.draw [⟨(some 41), (.mv (.t 7)), none, 0, []⟩, ⟨(some 42), (.mv (.t 10)), none, 1, []⟩, ⟨(some 43), (.bin .eql (.t 41) (.t 42)), none, 2, [0, 1]⟩, ⟨(some 44), (.mv (.t 43)), none, 3, [0, 1, 2]⟩, ⟨(some 45), (.mv (.t 8)), (some (44, true)), 4, [0, 1, 2, 3]⟩, ⟨(some 46), (.mv (.t 11)), (some (44, true)), 5, [0, 1, 2, 3]⟩, ⟨(some 47), (.call (.c (.fn (.func 55) [] [])) [(.t 45), (.t 46)]), (some (44, true)), 6, [0, 1, 2, 3, 4, 5]⟩, ⟨(some 48), (.pick (.t 44) (.t 47) (.c (.b false))), none, 7, [0, 1, 2, 3, 4, 5, 6]⟩, ⟨(some 49), (.mv (.t 48)), none, 8, [0, 1, 2, 3, 4, 5, 6, 7]⟩, ⟨(some 50), (.mv (.t 9)), (some (49, true)), 9, [0, 1, 2, 3, 4, 5, 6, 7, 8]⟩, ⟨(some 51), (.mv (.t 12)), (some (49, true)), 10, [0, 1, 2, 3, 4, 5, 6, 7, 8]⟩, ⟨(some 52), (.beq false (.t 50) (.t 51)), (some (49, true)), 11, [0, 1, 2, 3, 4, 5, 6, 7, 8, 9, 10]⟩, ⟨(some 53), (.pick (.t 49) (.t 52) (.c (.b false))), none, 12, [0, 1, 2, 3, 4, 5, 6, 7, 8, 9, 10, 11]⟩, ⟨(some 54), (.mv (.t 53)), none, 13, [0, 1, 2, 3, 4, 5, 6, 7, 8, 9, 10, 11, 12]⟩, ⟨(some 55), (.mv (.t 13)), (some (54, true)), 14, [0, 1, 2, 3, 4, 5, 6, 7, 8, 9, 10, 11, 12, 13]⟩, ⟨(some 56), (.mv (.t 15)), (some (54, true)), 15, [0, 1, 2, 3, 4, 5, 6, 7, 8, 9, 10, 11, 12, 13]⟩, ⟨(some 57), (.bin .eql (.t 55) (.t 56)), (some (54, true)), 16, [0, 1, 2, 3, 4, 5, 6, 7, 8, 9, 10, 11, 12, 13, 14, 15]⟩, ⟨(some 58), (.pick (.t 54) (.t 57) (.c (.b false))), none, 17, [0, 1, 2, 3, 4, 5, 6, 7, 8, 9, 10, 11, 12, 13, 14, 15, 16]⟩, ⟨(some 59), (.mv (.t 58)), none, 18, [0, 1, 2, 3, 4, 5, 6, 7, 8, 9, 10, 11, 12, 13, 14, 15, 16, 17]⟩, ⟨(some 60), (.mv (.t 14)), (some (59, true)), 19, [0, 1, 2, 3, 4, 5, 6, 7, 8, 9, 10, 11, 12, 13, 14, 15, 16, 17, 18]⟩, ⟨(some 61), (.mv (.t 16)), (some (59, true)), 20, [0, 1, 2, 3, 4, 5, 6, 7, 8, 9, 10, 11, 12, 13, 14, 15, 16, 17, 18]⟩, ⟨(some 62), (.beq false (.t 60) (.t 61)), (some (59, true)), 21, [0, 1, 2, 3, 4, 5, 6, 7, 8, 9, 10, 11, 12, 13, 14, 15, 16, 17, 18, 19, 20]⟩, ⟨(some 63), (.pick (.t 59) (.t 62) (.c (.b false))), none, 22, [0, 1, 2, 3, 4, 5, 6, 7, 8, 9, 10, 11, 12, 13, 14, 15, 16, 17, 18, 19, 20, 21]⟩, ⟨(some 64), (.mv (.t 63)), none, 23, [0, 1, 2, 3, 4, 5, 6, 7, 8, 9, 10, 11, 12, 13, 14, 15, 16, 17, 18, 19, 20, 21, 22]⟩, ⟨(some 65), (.mv (.t 0)), (some (64, true)), 24, [0, 1, 2, 3, 4, 5, 6, 7, 8, 9, 10, 11, 12, 13, 14, 15, 16, 17, 18, 19, 20, 21, 22, 23]⟩, ⟨(some 67), (.mv (.t 1)), (some (64, true)), 26, [0, 1, 2, 3, 4, 5, 6, 7, 8, 9, 10, 11, 12, 13, 14, 15, 16, 17, 18, 19, 20, 21, 22, 23]⟩, ⟨(some 66), (.call (.c (.fn (.func 17) [] [])) [(.t 65)]), (some (64, true)), 25, [0, 1, 2, 3, 4, 5, 6, 7, 8, 9, 10, 11, 12, 13, 14, 15, 16, 17, 18, 19, 20, 21, 22, 23, 24]⟩, ⟨(some 68), (.call (.c (.fn (.func 56) [] [])) [(.t 67)]), (some (64, true)), 27, [0, 1, 2, 3, 4, 5, 6, 7, 8, 9, 10, 11, 12, 13, 14, 15, 16, 17, 18, 19, 20, 21, 22, 23, 24, 25, 26]⟩, ⟨(some 69), (.bin .eql (.t 66) (.t 68)), (some (64, true)), 28, [0, 1, 2, 3, 4, 5, 6, 7, 8, 9, 10, 11, 12, 13, 14, 15, 16, 17, 18, 19, 20, 21, 22, 23, 24, 25, 26, 27]⟩, ⟨(some 70), (.pick (.t 64) (.t 69) (.c (.b false))), none, 29, [0, 1, 2, 3, 4, 5, 6, 7, 8, 9, 10, 11, 12, 13, 14, 15, 16, 17, 18, 19, 20, 21, 22, 23, 24, 25, 26, 27, 28]⟩, ⟨(some 71), (.mv (.t 70)), none, 30, [0, 1, 2, 3, 4, 5, 6, 7, 8, 9, 10, 11, 12, 13, 14, 15, 16, 17, 18, 19, 20, 21, 22, 23, 24, 25, 26, 27, 28, 29]⟩, ⟨(some 72), (.mv (.t 0)), (some (71, true)), 31, [0, 1, 2, 3, 4, 5, 6, 7, 8, 9, 10, 11, 12, 13, 14, 15, 16, 17, 18, 19, 20, 21, 22, 23, 24, 25, 26, 27, 28, 29, 30]⟩, ⟨(some 74), (.mv (.t 1)), (some (71, true)), 33, [0, 1, 2, 3, 4, 5, 6, 7, 8, 9, 10, 11, 12, 13, 14, 15, 16, 17, 18, 19, 20, 21, 22, 23, 24, 25, 26, 27, 28, 29, 30]⟩, ⟨(some 75), (.nilc (.t 74)), (some (71, true)), 34, [0, 1, 2, 3, 4, 5, 6, 7, 8, 9, 10, 11, 12, 13, 14, 15, 16, 17, 18, 19, 20, 21, 22, 23, 24, 25, 26, 27, 28, 29, 30, 33]⟩, ⟨(some 76), (.fadd 1 (.t 75)), (some (71, true)), 35, [0, 1, 2, 3, 4, 5, 6, 7, 8, 9, 10, 11, 12, 13, 14, 15, 16, 17, 18, 19, 20, 21, 22, 23, 24, 25, 26, 27, 28, 29, 30, 33, 34]⟩, ⟨(some 77), (.load false 1 (.t 76)), (some (71, true)), 36, [0, 1, 2, 3, 4, 5, 6, 7, 8, 9, 10, 11, 12, 13, 14, 15, 16, 17, 18, 19, 20, 21, 22, 23, 24, 25, 26, 27, 28, 29, 30, 33, 34, 35]⟩, ⟨(some 73), (.call (.c (.fn (.func 31) [] [])) [(.t 72)]), (some (71, true)), 32, [0, 1, 2, 3, 4, 5, 6, 7, 8, 9, 10, 11, 12, 13, 14, 15, 16, 17, 18, 19, 20, 21, 22, 23, 24, 25, 26, 27, 28, 29, 30, 31]⟩, ⟨(some 78), (.bin .eql (.t 73) (.t 77)), (some (71, true)), 37, [0, 1, 2, 3, 4, 5, 6, 7, 8, 9, 10, 11, 12, 13, 14, 15, 16, 17, 18, 19, 20, 21, 22, 23, 24, 25, 26, 27, 28, 29, 30, 31, 32, 33, 34, 35, 36]⟩, ⟨(some 79), (.pick (.t 71) (.t 78) (.c (.b false))), none, 38, [0, 1, 2, 3, 4, 5, 6, 7, 8, 9, 10, 11, 12, 13, 14, 15, 16, 17, 18, 19, 20, 21, 22, 23, 24, 25, 26, 27, 28, 29, 30, 31, 32, 33, 34, 35, 36, 37]⟩, ⟨(some 80), (.mv (.t 79)), none, 39, [0, 1, 2, 3, 4, 5, 6, 7, 8, 9, 10, 11, 12, 13, 14, 15, 16, 17, 18, 19, 20, 21, 22, 23, 24, 25, 26, 27, 28, 29, 30, 31, 32, 33, 34, 35, 36, 37, 38]⟩, ⟨(some 81), (.mv (.t 0)), (some (80, true)), 40, [0, 1, 2, 3, 4, 5, 6, 7, 8, 9, 10, 11, 12, 13, 14, 15, 16, 17, 18, 19, 20, 21, 22, 23, 24, 25, 26, 27, 28, 29, 30, 31, 32, 33, 34, 35, 36, 37, 38, 39]⟩, ⟨(some 83), (.mv (.t 1)), (some (80, true)), 42, [0, 1, 2, 3, 4, 5, 6, 7, 8, 9, 10, 11, 12, 13, 14, 15, 16, 17, 18, 19, 20, 21, 22, 23, 24, 25, 26, 27, 28, 29, 30, 31, 32, 33, 34, 35, 36, 37, 38, 39]⟩, ⟨(some 84), (.nilc (.t 83)), (some (80, true)), 43, [0, 1, 2, 3, 4, 5, 6, 7, 8, 9, 10, 11, 12, 13, 14, 15, 16, 17, 18, 19, 20, 21, 22, 23, 24, 25, 26, 27, 28, 29, 30, 31, 32, 33, 34, 35, 36, 37, 38, 39, 42]⟩, ⟨(some 85), (.fadd 0 (.t 84)), (some (80, true)), 44, [0, 1, 2, 3, 4, 5, 6, 7, 8, 9, 10, 11, 12, 13, 14, 15, 16, 17, 18, 19, 20, 21, 22, 23, 24, 25, 26, 27, 28, 29, 30, 31, 32, 33, 34, 35, 36, 37, 38, 39, 42, 43]⟩, ⟨(some 86), (.load false 1 (.t 85)), (some (80, true)), 45, [0, 1, 2, 3, 4, 5, 6, 7, 8, 9, 10, 11, 12, 13, 14, 15, 16, 17, 18, 19, 20, 21, 22, 23, 24, 25, 26, 27, 28, 29, 30, 31, 32, 33, 34, 35, 36, 37, 38, 39, 42, 43, 44]⟩, ⟨(some 87), (.lenx (.t 86)), (some (80, true)), 46, [0, 1, 2, 3, 4, 5, 6, 7, 8, 9, 10, 11, 12, 13, 14, 15, 16, 17, 18, 19, 20, 21, 22, 23, 24, 25, 26, 27, 28, 29, 30, 31, 32, 33, 34, 35, 36, 37, 38, 39, 42, 43, 44, 45]⟩, ⟨(some 82), (.call (.c (.fn (.func 18) [] [])) [(.t 81)]), (some (80, true)), 41, [0, 1, 2, 3, 4, 5, 6, 7, 8, 9, 10, 11, 12, 13, 14, 15, 16, 17, 18, 19, 20, 21, 22, 23, 24, 25, 26, 27, 28, 29, 30, 31, 32, 33, 34, 35, 36, 37, 38, 39, 40]⟩, ⟨(some 88), (.bin .eql (.t 82) (.t 87)), (some (80, true)), 47, [0, 1, 2, 3, 4, 5, 6, 7, 8, 9, 10, 11, 12, 13, 14, 15, 16, 17, 18, 19, 20, 21, 22, 23, 24, 25, 26, 27, 28, 29, 30, 31, 32, 33, 34, 35, 36, 37, 38, 39, 40, 41, 42, 43, 44, 45, 46]⟩, ⟨(some 89), (.pick (.t 80) (.t 88) (.c (.b false))), none, 48, [0, 1, 2, 3, 4, 5, 6, 7, 8, 9, 10, 11, 12, 13, 14, 15, 16, 17, 18, 19, 20, 21, 22, 23, 24, 25, 26, 27, 28, 29, 30, 31, 32, 33, 34, 35, 36, 37, 38, 39, 40, 41, 42, 43, 44, 45, 46, 47]⟩, ⟨(some 90), (.mv (.t 89)), none, 49, [0, 1, 2, 3, 4, 5, 6, 7, 8, 9, 10, 11, 12, 13, 14, 15, 16, 17, 18, 19, 20, 21, 22, 23, 24, 25, 26, 27, 28, 29, 30, 31, 32, 33, 34, 35, 36, 37, 38, 39, 40, 41, 42, 43, 44, 45, 46, 47, 48]⟩, ⟨(some 91), (.mv (.t 0)), (some (90, true)), 50, [0, 1, 2, 3, 4, 5, 6, 7, 8, 9, 10, 11, 12, 13, 14, 15, 16, 17, 18, 19, 20, 21, 22, 23, 24, 25, 26, 27, 28, 29, 30, 31, 32, 33, 34, 35, 36, 37, 38, 39, 40, 41, 42, 43, 44, 45, 46, 47, 48, 49]⟩, ⟨(some 93), (.mv (.t 1)), (some (90, true)), 52, [0, 1, 2, 3, 4, 5, 6, 7, 8, 9, 10, 11, 12, 13, 14, 15, 16, 17, 18, 19, 20, 21, 22, 23, 24, 25, 26, 27, 28, 29, 30, 31, 32, 33, 34, 35, 36, 37, 38, 39, 40, 41, 42, 43, 44, 45, 46, 47, 48, 49]⟩, ⟨(some 92), (.call (.c (.fn (.func 19) [] [])) [(.t 91)]), (some (90, true)), 51, [0, 1, 2, 3, 4, 5, 6, 7, 8, 9, 10, 11, 12, 13, 14, 15, 16, 17, 18, 19, 20, 21, 22, 23, 24, 25, 26, 27, 28, 29, 30, 31, 32, 33, 34, 35, 36, 37, 38, 39, 40, 41, 42, 43, 44, 45, 46, 47, 48, 49, 50]⟩, ⟨(some 94), (.call (.c (.fn (.func 57) [] [])) [(.t 93), (.c (.i .i64 1)), (.c (.i .i64 1))]), (some (90, true)), 53, [0, 1, 2, 3, 4, 5, 6, 7, 8, 9, 10, 11, 12, 13, 14, 15, 16, 17, 18, 19, 20, 21, 22, 23, 24, 25, 26, 27, 28, 29, 30, 31, 32, 33, 34, 35, 36, 37, 38, 39, 40, 41, 42, 43, 44, 45, 46, 47, 48, 49, 50, 51, 52]⟩, ⟨(some 95), (.bin .eql (.t 92) (.t 94)), (some (90, true)), 54, [0, 1, 2, 3, 4, 5, 6, 7, 8, 9, 10, 11, 12, 13, 14, 15, 16, 17, 18, 19, 20, 21, 22, 23, 24, 25, 26, 27, 28, 29, 30, 31, 32, 33, 34, 35, 36, 37, 38, 39, 40, 41, 42, 43, 44, 45, 46, 47, 48, 49, 50, 51, 52, 53]⟩, ⟨(some 96), (.pick (.t 90) (.t 95) (.c (.b false))), none, 55, [0, 1, 2, 3, 4, 5, 6, 7, 8, 9, 10, 11, 12, 13, 14, 15, 16, 17, 18, 19, 20, 21, 22, 23, 24, 25, 26, 27, 28, 29, 30, 31, 32, 33, 34, 35, 36, 37, 38, 39, 40, 41, 42, 43, 44, 45, 46, 47, 48, 49, 50, 51, 52, 53, 54]⟩, ⟨(some 97), (.mv (.t 96)), none, 56, [0, 1, 2, 3, 4, 5, 6, 7, 8, 9, 10, 11, 12, 13, 14, 15, 16, 17, 18, 19, 20, 21, 22, 23, 24, 25, 26, 27, 28, 29, 30, 31, 32, 33, 34, 35, 36, 37, 38, 39, 40, 41, 42, 43, 44, 45, 46, 47, 48, 49, 50, 51, 52, 53, 54, 55]⟩, ⟨(some 98), (.mv (.t 0)), (some (97, true)), 57, [0, 1, 2, 3, 4, 5, 6, 7, 8, 9, 10, 11, 12, 13, 14, 15, 16, 17, 18, 19, 20, 21, 22, 23, 24, 25, 26, 27, 28, 29, 30, 31, 32, 33, 34, 35, 36, 37, 38, 39, 40, 41, 42, 43, 44, 45, 46, 47, 48, 49, 50, 51, 52, 53, 54, 55, 56]⟩, ⟨(some 100), (.mv (.t 1)), (some (97, true)), 59, [0, 1, 2, 3, 4, 5, 6, 7, 8, 9, 10, 11, 12, 13, 14, 15, 16, 17, 18, 19, 20, 21, 22, 23, 24, 25, 26, 27, 28, 29, 30, 31, 32, 33, 34, 35, 36, 37, 38, 39, 40, 41, 42, 43, 44, 45, 46, 47, 48, 49, 50, 51, 52, 53, 54, 55, 56]⟩, ⟨(some 99), (.call (.c (.fn (.func 20) [] [])) [(.t 98)]), (some (97, true)), 58, [0, 1, 2, 3, 4, 5, 6, 7, 8, 9, 10, 11, 12, 13, 14, 15, 16, 17, 18, 19, 20, 21, 22, 23, 24, 25, 26, 27, 28, 29, 30, 31, 32, 33, 34, 35, 36, 37, 38, 39, 40, 41, 42, 43, 44, 45, 46, 47, 48, 49, 50, 51, 52, 53, 54, 55, 56, 57]⟩, ⟨(some 101), (.call (.c (.fn (.func 57) [] [])) [(.t 100), (.c (.i .i64 0)), (.c (.i .i64 2))]), (some (97, true)), 60, [0, 1, 2, 3, 4, 5, 6, 7, 8, 9, 10, 11, 12, 13, 14, 15, 16, 17, 18, 19, 20, 21, 22, 23, 24, 25, 26, 27, 28, 29, 30, 31, 32, 33, 34, 35, 36, 37, 38, 39, 40, 41, 42, 43, 44, 45, 46, 47, 48, 49, 50, 51, 52, 53, 54, 55, 56, 57, 58, 59]⟩, ⟨(some 102), (.bin .eql (.t 99) (.t 101)), (some (97, true)), 61, [0, 1, 2, 3, 4, 5, 6, 7, 8, 9, 10, 11, 12, 13, 14, 15, 16, 17, 18, 19, 20, 21, 22, 23, 24, 25, 26, 27, 28, 29, 30, 31, 32, 33, 34, 35, 36, 37, 38, 39, 40, 41, 42, 43, 44, 45, 46, 47, 48, 49, 50, 51, 52, 53, 54, 55, 56, 57, 58, 59, 60]⟩, ⟨(some 103), (.pick (.t 97) (.t 102) (.c (.b false))), none, 62, [0, 1, 2, 3, 4, 5, 6, 7, 8, 9, 10, 11, 12, 13, 14, 15, 16, 17, 18, 19, 20, 21, 22, 23, 24, 25, 26, 27, 28, 29, 30, 31, 32, 33, 34, 35, 36, 37, 38, 39, 40, 41, 42, 43, 44, 45, 46, 47, 48, 49, 50, 51, 52, 53, 54, 55, 56, 57, 58, 59, 60, 61]⟩, ⟨(some 6), (.mv (.t 103)), none, 63, [0, 1, 2, 3, 4, 5, 6, 7, 8, 9, 10, 11, 12, 13, 14, 15, 16, 17, 18, 19, 20, 21, 22, 23, 24, 25, 26, 27, 28, 29, 30, 31, 32, 33, 34, 35, 36, 37, 38, 39, 40, 41, 42, 43, 44, 45, 46, 47, 48, 49, 50, 51, 52, 53, 54, 55, 56, 57, 58, 59, 60, 61, 62]⟩])
  .ret))))))
def x30 : XFun := ⟨x30b, [(.t 6)]⟩
theorem x30_ok : compF Try.prog 30 = some x30 := by kernel_rfl
/-- (*bollard/sendq.Queue).Next (9) -/
def x31b : XC := (.seq (.region [⟨(some 2), (.mv (.c (.i .u32 0))), none, 0, []⟩])
  (.seq (.seq (.region [⟨(some 3), (.mv (.t 0)), none, 0, []⟩, ⟨(some 4), (.nilq 0 false (.t 3)), none, 1, []⟩])
  (.cond (.t 4) (.seq (.region [⟨(some 2), (.mv (.c (.i .u32 0))), none, 0, []⟩])
  .ret) .skip))
  (.seq (.region [⟨(some 5), (.mv (.t 0)), none, 0, []⟩, ⟨(some 6), (.nilc (.t 5)), none, 1, []⟩, ⟨(some 7), (.fadd 1 (.t 6)), none, 2, []⟩, ⟨(some 8), (.load false 1 (.t 7)), none, 3, []⟩, ⟨(some 2), (.mv (.t 8)), none, 4, []⟩])
  .ret)))
def x31 : XFun := ⟨x31b, [(.t 2)]⟩
theorem x31_ok : compF Try.prog 31 = some x31 := by kernel_rfl
/-- slices.ContainsFunc[[]bollard/api.Chunk,bollard/api.Chunk] (9) -/
def x32b : XC := (.seq (.region [⟨(some 4), (.mv (.c (.b false))), none, 0, []⟩])
  (.seq (.region [⟨(some 5), (.mv (.t 0)), none, 0, []⟩, ⟨(some 6), (.mv (.t 1)), none, 1, []⟩, ⟨(some 7), (.call (.c (.fn (.func 58) [] [])) [(.t 5), (.t 6)]), none, 2, []⟩, ⟨(some 8), (.bin .geq (.t 7) (.c (.i .i64 0))), none, 3, []⟩, ⟨(some 4), (.mv (.t 8)), none, 4, []⟩])
  .ret))
def x32 : XFun := ⟨x32b, [(.t 4)]⟩
theorem x32_ok : compF Try.prog 32 = some x32 := by kernel_rfl
/-- bollard/sendq.noData (12) -/
def x33b : XC := (.seq (.region [⟨(some 1), (.box (.t 0)), none, 0, []⟩, ⟨(some 2), (.mv (.c (.b false))), none, 1, []⟩])
  (.seq (.region [⟨(some 3), (.fadd 0 (.t 1)), none, 0, []⟩, ⟨(some 4), (.load false 1 (.t 3)), none, 1, []⟩, ⟨(some 5), (.bin .neq (.t 4) (.c (.i .u8 0))), none, 2, []⟩, ⟨(some 6), (.mv (.t 5)), none, 3, []⟩, ⟨(some 7), (.fadd 11 (.t 1)), (some (6, false)), 4, []⟩, ⟨(some 8), (.load false 1 (.t 7)), (some (6, false)), 5, []⟩, ⟨(some 9), (.lenx (.t 8)), (some (6, false)), 6, []⟩, ⟨(some 10), (.bin .eql (.t 9) (.c (.i .i64 0))), (some (6, false)), 7, []⟩, ⟨(some 11), (.pick (.t 6) (.c (.b true)) (.t 10)), none, 8, []⟩, ⟨(some 2), (.mv (.t 11)), none, 9, []⟩])
  .ret))
def x33 : XFun := ⟨x33b, [(.t 2)]⟩
theorem x33_ok : compF Try.prog 33 = some x33 := by kernel_rfl
/-- slices.Clone[[]byte,byte] (8) -/
def x34b : XC := (.seq (.region [⟨(some 2), (.mv (.c (.sl none 0 0 0))), none, 0, []⟩])
  (.seq (.seq (.region [⟨(some 3), (.mv (.t 0)), none, 0, []⟩, ⟨(some 4), (.nilq 1 false (.t 3)), none, 1, []⟩])
  (.cond (.t 4) (.seq (.region [⟨(some 2), (.mv (.c (.sl none 0 0 0))), none, 0, []⟩])
  .ret) .skip))
  (.seq (.region [⟨(some 5), (.bslice [] [] 0), none, 0, []⟩, ⟨(some 6), (.mv (.t 0)), none, 1, []⟩, ⟨(some 7), (.append 1 1 (.t 5) (.t 6)), none, 2, []⟩, ⟨(some 2), (.mv (.t 7)), none, 3, []⟩])
  .ret)))
def x34 : XFun := ⟨x34b, [(.t 2)]⟩
theorem x34_ok : compF Try.prog 34 = some x34 := by kernel_rfl
/-- (*bollard/sendq.Queue).in (6) -/
def x35b : XC := (.seq (.region [⟨(some 2), (.box (.t 0)), none, 0, []⟩, ⟨(some 3), (.box (.t 1)), none, 1, []⟩, ⟨(some 4), (.mv (.c .nf)), none, 2, []⟩])
  (.seq (.region [⟨(some 5), (.mkf (.func 59) [] [(.t 2), (.t 3)]), none, 0, []⟩, ⟨(some 4), (.mv (.t 5)), none, 1, []⟩])
  .ret))
def x35 : XFun := ⟨x35b, [(.t 4)]⟩
theorem x35_ok : compF Try.prog 35 = some x35 := by kernel_rfl
/-- (*bollard/sendq.entry).size (9) -/
def x36b : XC := (.seq (.region [⟨(some 2), (.mv (.c (.i .i64 0))), none, 0, []⟩])
  (.seq (.region [⟨(some 3), (.mv (.t 0)), none, 0, []⟩, ⟨(some 4), (.nilc (.t 3)), none, 1, []⟩, ⟨(some 5), (.fadd 0 (.t 4)), none, 2, []⟩, ⟨(some 6), (.fadd 11 (.t 5)), none, 3, []⟩, ⟨(some 7), (.load false 1 (.t 6)), none, 4, []⟩, ⟨(some 8), (.lenx (.t 7)), none, 5, []⟩, ⟨(some 2), (.mv (.t 8)), none, 6, []⟩])
  .ret))
def x36 : XFun := ⟨x36b, [(.t 2)]⟩
theorem x36_ok : compF Try.prog 36 = some x36 := by kernel_rfl
/-- (*bollard/sendq.Queue).reached (32) -/
def x37b : XC := (.seq (.region [⟨(some 4), (.mv (.c (.i .i64 0))), none, 0, []⟩, ⟨(some 5), (.mv (.c (.b false))), none, 1, []⟩])
  (.seq (.region [⟨(some 7), (.mv (.t 0)), none, 0, []⟩, ⟨(some 8), (.call (.c (.fn (.func 17) [] [])) [(.t 7)]), none, 1, []⟩, ⟨(some 9), (.mv (.t 1)), none, 2, []⟩, ⟨(some 10), (.call (.c (.fn (.func 21) [] [])) [(.t 8), (.t 9)]), none, 3, []⟩, ⟨(some 11), (.cint .i64 (.t 10)), none, 4, []⟩, ⟨(some 6), (.mv (.t 11)), none, 5, []⟩])
  (.seq (.seq (.region [⟨(some 12), (.mv (.t 0)), none, 0, []⟩, ⟨(some 13), (.nilq 0 false (.t 12)), none, 1, []⟩, ⟨(some 14), (.mv (.t 13)), none, 2, []⟩, ⟨(some 15), (.mv (.t 6)), (some (14, false)), 3, []⟩, ⟨(some 16), (.mv (.t 0)), (some (14, false)), 4, []⟩, ⟨(some 17), (.nilc (.t 16)), (some (14, false)), 5, []⟩, ⟨(some 18), (.fadd 0 (.t 17)), (some (14, false)), 6, []⟩, ⟨(some 19), (.load false 1 (.t 18)), (some (14, false)), 7, []⟩, ⟨(some 20), (.lenx (.t 19)), (some (14, false)), 8, []⟩, ⟨(some 21), (.bin .gtr (.t 15) (.t 20)), (some (14, false)), 9, []⟩, ⟨(some 22), (.pick (.t 14) (.c (.b true)) (.t 21)), none, 10, []⟩])
  (.cond (.t 22) (.seq (.region [⟨(some 4), (.mv (.c (.i .i64 0))), none, 0, []⟩, ⟨(some 5), (.mv (.c (.b false))), none, 1, []⟩])
  .ret) .skip))
  (.seq (.region [⟨(some 23), (.mv (.t 6)), none, 0, []⟩, ⟨(some 24), (.mv (.t 0)), none, 1, []⟩, ⟨(some 25), (.nilc (.t 24)), none, 2, []⟩, ⟨(some 26), (.fadd 0 (.t 25)), none, 3, []⟩, ⟨(some 27), (.load false 1 (.t 26)), none, 4, []⟩, ⟨(some 28), (.mv (.t 6)), none, 5, []⟩, ⟨(some 29), (.slsl 1 (.t 27) none (some (.t 28)) none), none, 6, []⟩, ⟨(some 30), (.call (.c (.fn (.func 61) [] [])) [(.t 29), (.c (.fn (.func 62) [] []))]), none, 7, []⟩, ⟨(some 31), (.unx .not (.t 30)), none, 8, []⟩, ⟨(some 4), (.mv (.t 23)), none, 9, []⟩, ⟨(some 5), (.mv (.t 31)), none, 10, []⟩])
  .ret))))
def x37 : XFun := ⟨x37b, [(.t 4), (.t 5)]⟩
theorem x37_ok : compF Try.prog 37 = some x37 := by kernel_rfl
/-- (*bollard/sendq.Queue).drop (66) -/
def x38b : XC := (.seq (.region [⟨(some 6), (.alloc [(.i .i64 0), (.i .i64 0), (.b false), (.b false)]), none, 0, []⟩])
  (.seq (.region [⟨(some 10), (.mv (.t 1)), none, 0, []⟩, ⟨(some 11), (.bin .gtr (.t 10) (.c (.i .i64 0))), none, 1, []⟩, ⟨(some 12), (.build [(.i .i64 0), (.i .i64 0), (.b false), (.b false)] [(1, 1, (.c (.i .i64 (-1)))), (3, 1, (.t 11))]), none, 2, []⟩, ⟨(some 7), (.alloc [(.i .i64 0), (.i .i64 0), (.b false), (.b false)]), none, 3, []⟩, ⟨none, (.store 4 (.t 7) (.t 12)), none, 4, []⟩])
  (.seq (.seq (.region [⟨(some 13), (.mv (.t 0)), none, 0, []⟩, ⟨(some 14), (.nilc (.t 13)), none, 1, []⟩, ⟨(some 15), (.fadd 0 (.t 14)), none, 2, []⟩, ⟨(some 16), (.load false 1 (.t 15)), none, 3, []⟩, ⟨(some 17), (.mv (.t 1)), none, 4, []⟩, ⟨(some 18), (.slsl 1 (.t 16) none (some (.t 17)) none), none, 5, []⟩, ⟨(some 19), (.lenx (.t 18)), none, 6, []⟩, ⟨(some 20), (.mv (.c (.i .i64 0))), none, 7, []⟩])
  (.block 0 (.loop (.seq (.region [⟨(some 21), (.bin .lss (.t 20) (.t 19)), none, 0, []⟩])
  (.seq (.cond (.t 21) .skip (.exit 0))
  (.seq (.block 1 (.seq (.region [⟨(some 22), (.isl 1 (.t 18) (.t 20)), none, 0, []⟩, ⟨(some 23), (.load false 1 (.t 22)), none, 1, []⟩, ⟨(some 9), (.mv (.t 23)), none, 2, []⟩])
  (.seq (.seq (.region [⟨(some 24), (.mv (.t 9)), none, 0, []⟩, ⟨(some 25), (.nilc (.t 24)), none, 1, []⟩, ⟨(some 26), (.fadd 13 (.t 25)), none, 2, []⟩, ⟨(some 27), (.load false 1 (.t 26)), none, 3, []⟩, ⟨(some 28), (.bin .eql (.t 27) (.c (.i .i64 3))), none, 4, []⟩, ⟨(some 29), (.mv (.t 28)), none, 5, []⟩, ⟨(some 30), (.mv (.t 9)), (some (29, false)), 6, []⟩, ⟨(some 31), (.nilc (.t 30)), (some (29, false)), 7, []⟩, ⟨(some 32), (.fadd 13 (.t 31)), (some (29, false)), 8, []⟩, ⟨(some 33), (.load false 1 (.t 32)), (some (29, false)), 9, []⟩, ⟨(some 34), (.bin .eql (.t 33) (.c (.i .i64 4))), (some (29, false)), 10, []⟩, ⟨(some 35), (.pick (.t 29) (.c (.b true)) (.t 34)), none, 11, []⟩])
  (.cond (.t 35) (.exit 1) .skip))
  (.seq (.draw [⟨(some 36), (.fadd 0 (.t 7)), none, 0, []⟩, ⟨(some 38), (.mv (.t 9)), none, 2, []⟩, ⟨(some 37), (.load false 1 (.t 36)), none, 1, [0]⟩, ⟨(some 39), (.call (.c (.fn (.func 36) [] [])) [(.t 38)]), none, 3, [2]⟩, ⟨(some 40), (.bin .add (.t 37) (.t 39)), none, 4, [0, 1, 2, 3]⟩, ⟨(some 41), (.fadd 0 (.t 7)), none, 5, [0, 1, 2, 3, 4]⟩, ⟨none, (.store 1 (.t 41) (.t 40)), none, 6, [0, 1, 2, 3, 4, 5]⟩])
  (.seq (.region [⟨(some 42), (.mv (.t 9)), none, 0, []⟩, ⟨(some 43), (.nilc (.t 42)), none, 1, []⟩, ⟨(some 44), (.fadd 14 (.t 43)), none, 2, []⟩, ⟨(some 45), (.load false 1 (.t 44)), none, 3, []⟩, ⟨(some 46), (.bin .eql (.t 45) (.c (.i .i64 1))), none, 4, []⟩])
  (.cond (.t 46) (.region [⟨(some 47), (.mv (.t 2)), none, 0, []⟩, ⟨(some 48), (.mv (.t 9)), none, 1, []⟩, ⟨(some 49), (.nilc (.t 48)), none, 2, []⟩, ⟨(some 50), (.fadd 15 (.t 49)), none, 3, []⟩, ⟨(some 51), (.load false 1 (.t 50)), none, 4, []⟩, ⟨(some 52), (.bin .sub (.t 47) (.t 51)), none, 5, []⟩, ⟨(some 53), (.fadd 1 (.t 7)), none, 6, []⟩, ⟨none, (.store 1 (.t 53) (.t 52)), none, 7, []⟩]) .skip))))))
  (.region [⟨(some 54), (.bin .add (.t 20) (.c (.i .i64 1))), none, 0, []⟩, ⟨(some 20), (.mv (.t 54)), none, 1, []⟩])))))))
  (.seq (.region [⟨(some 55), (.mv (.t 0)), none, 0, []⟩, ⟨(some 56), (.mv (.t 0)), none, 1, []⟩, ⟨(some 57), (.nilc (.t 56)), none, 2, []⟩, ⟨(some 58), (.fadd 0 (.t 57)), none, 3, []⟩, ⟨(some 59), (.load false 1 (.t 58)), none, 4, []⟩, ⟨(some 60), (.mv (.t 1)), none, 5, []⟩, ⟨(some 61), (.slsl 1 (.t 59) (some (.t 60)) none none), none, 6, []⟩, ⟨(some 62), (.call (.c (.fn (.func 63) [] [])) [(.t 61)]), none, 7, []⟩, ⟨(some 63), (.nilc (.t 55)), none, 8, []⟩, ⟨(some 64), (.fadd 0 (.t 63)), none, 9, []⟩, ⟨none, (.store 1 (.t 64) (.t 62)), none, 10, []⟩])
  (.seq (.region [⟨(some 65), (.load true 4 (.t 7)), none, 0, []⟩, ⟨none, (.store 4 (.t 6) (.t 65)), none, 1, []⟩])
  .ret)))))
def x38 : XFun := ⟨x38b, [(.cell 6 true 4)]⟩
theorem x38_ok : compF Try.prog 38 = some x38 := by kernel_rfl
/-- (*bollard/sendq.Queue).mark (68) -/
def x39b : XC := (.seq (.region [⟨(some 4), (.mv (.c (.i .i64 0))), none, 0, []⟩, ⟨(some 5), (.mv (.c (.i .i64 0))), none, 1, []⟩])
  (.seq (.region [⟨(some 6), (.mv (.c (.i .i64 0))), none, 0, []⟩, ⟨(some 7), (.mv (.c (.i .i64 0))), none, 1, []⟩])
  (.seq (.seq (.region [⟨(some 11), (.mv (.t 0)), none, 0, []⟩, ⟨(some 12), (.nilc (.t 11)), none, 1, []⟩, ⟨(some 13), (.fadd 0 (.t 12)), none, 2, []⟩, ⟨(some 14), (.load false 1 (.t 13)), none, 3, []⟩, ⟨(some 15), (.lenx (.t 14)), none, 4, []⟩, ⟨(some 16), (.mv (.c (.i .i64 0))), none, 5, []⟩])
  (.block 0 (.loop (.seq (.region [⟨(some 17), (.bin .lss (.t 16) (.t 15)), none, 0, []⟩])
  (.seq (.cond (.t 17) .skip (.exit 0))
  (.seq (.block 1 (.seq (.region [⟨(some 18), (.mv (.t 16)), none, 0, []⟩, ⟨(some 19), (.isl 1 (.t 14) (.t 16)), none, 1, []⟩, ⟨(some 20), (.load false 1 (.t 19)), none, 2, []⟩, ⟨(some 8), (.mv (.t 18)), none, 3, []⟩, ⟨(some 9), (.mv (.t 20)), none, 4, []⟩])
  (.seq (.region [⟨(some 21), (.mv (.t 1)), none, 0, []⟩, ⟨(some 22), (.mv (.t 8)), none, 1, []⟩, ⟨(some 23), (.bin .add (.t 22) (.c (.i .i64 1))), none, 2, []⟩, ⟨(some 24), (.call (.c (.fn (.func 64) [] [])) [(.t 21), (.t 23)]), none, 3, []⟩, ⟨(some 10), (.mv (.t 24)), none, 4, []⟩])
  (.block 2 (.seq (.region [⟨(some 26), (.mv (.t 10)), none, 0, []⟩, ⟨(some 27), (.mv (.t 26)), none, 1, []⟩, ⟨(some 28), (.mv (.t 9)), (some (27, true)), 2, []⟩, ⟨(some 29), (.nilc (.t 28)), (some (27, true)), 3, []⟩, ⟨(some 30), (.fadd 13 (.t 29)), (some (27, true)), 4, []⟩, ⟨(some 31), (.load false 1 (.t 30)), (some (27, true)), 5, []⟩, ⟨(some 32), (.bin .eql (.t 31) (.c (.i .i64 1))), (some (27, true)), 6, []⟩, ⟨(some 33), (.mv (.t 32)), (some (27, true)), 7, []⟩, ⟨(some 34), (.mv (.t 9)), (some (33, false)), 8, []⟩, ⟨(some 35), (.nilc (.t 34)), (some (33, false)), 9, []⟩, ⟨(some 36), (.fadd 13 (.t 35)), (some (33, false)), 10, []⟩, ⟨(some 37), (.load false 1 (.t 36)), (some (33, false)), 11, []⟩, ⟨(some 38), (.bin .eql (.t 37) (.c (.i .i64 2))), (some (33, false)), 12, []⟩, ⟨(some 39), (.pick (.t 33) (.c (.b true)) (.t 38)), (some (27, true)), 13, []⟩, ⟨(some 40), (.pick (.t 27) (.t 39) (.c (.b false))), none, 14, []⟩, ⟨(some 25), (.mv (.t 40)), none, 15, []⟩])
  (.cond (.t 25) (.seq (.region [⟨(some 41), (.mv (.t 9)), none, 0, []⟩, ⟨(some 42), (.nilc (.t 41)), none, 1, []⟩, ⟨(some 43), (.fadd 13 (.t 42)), none, 2, []⟩, ⟨none, (.store 1 (.t 43) (.c (.i .i64 3))), none, 3, []⟩])
  (.seq (.region [⟨(some 44), (.mv (.t 6)), none, 0, []⟩, ⟨(some 45), (.mv (.t 9)), none, 1, []⟩, ⟨(some 46), (.call (.c (.fn (.func 36) [] [])) [(.t 45)]), none, 2, []⟩, ⟨(some 47), (.bin .add (.t 44) (.t 46)), none, 3, []⟩, ⟨(some 6), (.mv (.t 47)), none, 4, []⟩])
  (.region [⟨(some 48), (.mv (.t 8)), none, 0, []⟩, ⟨(some 7), (.mv (.t 48)), none, 1, []⟩]))) (.seq (.region [⟨(some 50), (.mv (.t 10)), none, 0, []⟩, ⟨(some 51), (.unx .not (.t 50)), none, 1, []⟩, ⟨(some 52), (.mv (.t 51)), none, 2, []⟩, ⟨(some 53), (.mv (.t 9)), (some (52, true)), 3, []⟩, ⟨(some 54), (.nilc (.t 53)), (some (52, true)), 4, []⟩, ⟨(some 55), (.fadd 13 (.t 54)), (some (52, true)), 5, []⟩, ⟨(some 56), (.load false 1 (.t 55)), (some (52, true)), 6, []⟩, ⟨(some 57), (.bin .eql (.t 56) (.c (.i .i64 3))), (some (52, true)), 7, []⟩, ⟨(some 58), (.pick (.t 52) (.t 57) (.c (.b false))), none, 8, []⟩, ⟨(some 49), (.mv (.t 58)), none, 9, []⟩])
  (.cond (.t 49) (.region [⟨(some 59), (.mv (.t 9)), none, 0, []⟩, ⟨(some 60), (.mv (.t 9)), none, 1, []⟩, ⟨(some 61), (.nilc (.t 59)), none, 2, []⟩, ⟨(some 62), (.fadd 13 (.t 61)), none, 3, []⟩, ⟨none, (.store 1 (.t 62) (.c (.i .i64 1))), none, 4, []⟩, ⟨(some 63), (.nilc (.t 60)), none, 5, []⟩, ⟨(some 64), (.fadd 16 (.t 63)), none, 6, []⟩, ⟨none, (.store 1 (.t 64) (.c (.i .i64 0))), none, 7, []⟩]) .skip))))))))
  (.region [⟨(some 65), (.bin .add (.t 16) (.c (.i .i64 1))), none, 0, []⟩, ⟨(some 16), (.mv (.t 65)), none, 1, []⟩])))))))
  (.seq (.region [⟨(some 66), (.mv (.t 6)), none, 0, []⟩, ⟨(some 67), (.mv (.t 7)), none, 1, []⟩, ⟨(some 4), (.mv (.t 66)), none, 2, []⟩, ⟨(some 5), (.mv (.t 67)), none, 3, []⟩])
  .ret))))
def x39 : XFun := ⟨x39b, [(.t 4), (.t 5)]⟩
theorem x39_ok : compF Try.prog 39 = some x39 := by kernel_rfl
/-- bollard/sendq.miss (34) -/
def x40b : XC := (.seq (.region [⟨(some 2), (.mv (.c (.b false))), none, 0, []⟩])
  (.seq (.region [⟨(some 3), (.mv (.c (.b false))), none, 0, []⟩])
  (.seq (.seq (.region [⟨(some 6), (.mv (.t 0)), none, 0, []⟩, ⟨(some 7), (.lenx (.t 6)), none, 1, []⟩, ⟨(some 8), (.mv (.c (.i .i64 0))), none, 2, []⟩])
  (.block 0 (.loop (.seq (.region [⟨(some 9), (.bin .lss (.t 8) (.t 7)), none, 0, []⟩])
  (.seq (.cond (.t 9) .skip (.exit 0))
  (.seq (.block 1 (.seq (.region [⟨(some 10), (.isl 1 (.t 6) (.t 8)), none, 0, []⟩, ⟨(some 11), (.load false 1 (.t 10)), none, 1, []⟩, ⟨(some 5), (.mv (.t 11)), none, 2, []⟩])
  (.seq (.seq (.region [⟨(some 12), (.mv (.t 5)), none, 0, []⟩, ⟨(some 13), (.nilc (.t 12)), none, 1, []⟩, ⟨(some 14), (.fadd 13 (.t 13)), none, 2, []⟩, ⟨(some 15), (.load false 1 (.t 14)), none, 3, []⟩, ⟨(some 16), (.bin .neq (.t 15) (.c (.i .i64 1))), none, 4, []⟩])
  (.cond (.t 16) (.exit 1) .skip))
  (.seq (.region [⟨(some 17), (.mv (.t 5)), none, 0, []⟩, ⟨(some 18), (.nilc (.t 17)), none, 1, []⟩, ⟨(some 19), (.fadd 16 (.t 18)), none, 2, []⟩, ⟨(some 20), (.load false 1 (.t 19)), none, 3, []⟩, ⟨(some 21), (.bin .add (.t 20) (.c (.i .i64 1))), none, 4, []⟩, ⟨(some 22), (.nilc (.t 17)), none, 5, []⟩, ⟨(some 23), (.fadd 16 (.t 22)), none, 6, []⟩, ⟨none, (.store 1 (.t 23) (.t 21)), none, 7, []⟩])
  (.seq (.region [⟨(some 24), (.mv (.t 5)), none, 0, []⟩, ⟨(some 25), (.nilc (.t 24)), none, 1, []⟩, ⟨(some 26), (.fadd 16 (.t 25)), none, 2, []⟩, ⟨(some 27), (.load false 1 (.t 26)), none, 3, []⟩, ⟨(some 28), (.bin .geq (.t 27) (.c (.i .i64 3))), none, 4, []⟩])
  (.cond (.t 28) (.seq (.region [⟨(some 29), (.mv (.t 5)), none, 0, []⟩, ⟨(some 30), (.nilc (.t 29)), none, 1, []⟩, ⟨(some 31), (.fadd 13 (.t 30)), none, 2, []⟩, ⟨none, (.store 1 (.t 31) (.c (.i .i64 2))), none, 3, []⟩])
  (.region [⟨(some 3), (.mv (.c (.b true))), none, 0, []⟩])) .skip))))))
  (.region [⟨(some 32), (.bin .add (.t 8) (.c (.i .i64 1))), none, 0, []⟩, ⟨(some 8), (.mv (.t 32)), none, 1, []⟩])))))))
  (.seq (.region [⟨(some 33), (.mv (.t 3)), none, 0, []⟩, ⟨(some 2), (.mv (.t 33)), none, 1, []⟩])
  .ret))))
def x40 : XFun := ⟨x40b, [(.t 2)]⟩
theorem x40_ok : compF Try.prog 40 = some x40 := by kernel_rfl
/-- (*bollard/sendq.Queue).octets (9) -/
def x41b : XC := (.seq (.region [⟨(some 4), (.mv (.c (.i .i64 0))), none, 0, []⟩])
  (.seq (.region [⟨(some 5), (.mv (.t 0)), none, 0, []⟩, ⟨(some 6), (.mv (.t 1)), none, 1, []⟩, ⟨(some 7), (.call (.c (.fn (.func 35) [] [])) [(.t 5), (.t 6)]), none, 2, []⟩, ⟨(some 8), (.call (.c (.fn (.func 65) [] [])) [(.t 7), (.c (.fn (.func 36) [] []))]), none, 3, []⟩, ⟨(some 4), (.mv (.t 8)), none, 4, []⟩])
  .ret))
def x41 : XFun := ⟨x41b, [(.t 4)]⟩
theorem x41_ok : compF Try.prog 41 = some x41 := by kernel_rfl
/-- bollard/serial.less[uint32] (18) -/
def x42b : XC := (.seq (.region [⟨(some 4), (.mv (.c (.b false))), none, 0, []⟩])
  (.seq (.region [⟨(some 6), (.mv (.t 1)), none, 0, []⟩, ⟨(some 7), (.mv (.t 0)), none, 1, []⟩, ⟨(some 8), (.bin .sub (.t 6) (.t 7)), none, 2, []⟩, ⟨(some 5), (.mv (.t 8)), none, 3, []⟩])
  (.seq (.region [⟨(some 9), (.mv (.t 5)), none, 0, []⟩, ⟨(some 10), (.bin .neq (.t 9) (.c (.i .u32 0))), none, 1, []⟩, ⟨(some 11), (.mv (.t 10)), none, 2, []⟩, ⟨(some 12), (.mv (.t 5)), (some (11, true)), 3, []⟩, ⟨(some 13), (.cint .u32 (.c (.i .i64 0))), (some (11, true)), 4, []⟩, ⟨(some 14), (.unx .xor (.t 13)), (some (11, true)), 5, []⟩, ⟨(some 15), (.bin .shr (.t 14) (.c (.i .u64 1))), (some (11, true)), 6, []⟩, ⟨(some 16), (.bin .leq (.t 12) (.t 15)), (some (11, true)), 7, []⟩, ⟨(some 17), (.pick (.t 11) (.t 16) (.c (.b false))), none, 8, []⟩, ⟨(some 4), (.mv (.t 17)), none, 9, []⟩])
  .ret)))
def x42 : XFun := ⟨x42b, [(.t 4)]⟩
theorem x42_ok : compF Try.prog 42 = some x42 := by kernel_rfl
/-- (*bollard/sendq.entry).over (59) -/
def x43b : XC := (.seq (.region [⟨(some 4), (.mv (.c (.b false))), none, 0, []⟩])
  (.seq (.region [⟨(some 7), (.mv (.t 0)), none, 0, []⟩, ⟨(some 8), (.nilc (.t 7)), none, 1, []⟩, ⟨(some 9), (.fadd 12 (.t 8)), none, 2, []⟩, ⟨(some 10), (.load false 1 (.t 9)), none, 3, []⟩, ⟨(some 11), (.nilc (.t 10)), none, 4, []⟩, ⟨(some 12), (.fadd 0 (.t 11)), none, 5, []⟩, ⟨(some 13), (.load false 1 (.t 12)), none, 6, []⟩, ⟨(some 14), (.bin .geq (.t 13) (.c (.i .i64 0))), none, 7, []⟩, ⟨(some 15), (.mv (.t 14)), none, 8, []⟩, ⟨(some 16), (.mv (.t 0)), (some (15, true)), 9, []⟩, ⟨(some 17), (.nilc (.t 16)), (some (15, true)), 10, []⟩, ⟨(some 18), (.fadd 12 (.t 17)), (some (15, true)), 11, []⟩, ⟨(some 19), (.load false 1 (.t 18)), (some (15, true)), 12, []⟩, ⟨(some 20), (.nilc (.t 19)), (some (15, true)), 13, []⟩, ⟨(some 21), (.fadd 0 (.t 20)), (some (15, true)), 14, []⟩, ⟨(some 22), (.load false 1 (.t 21)), (some (15, true)), 15, []⟩, ⟨(some 23), (.mv (.t 1)), (some (15, true)), 16, []⟩, ⟨(some 24), (.bin .lss (.t 22) (.t 23)), (some (15, true)), 17, []⟩, ⟨(some 25), (.pick (.t 15) (.t 24) (.c (.b false))), none, 18, []⟩, ⟨(some 5), (.mv (.t 25)), none, 19, []⟩])
  (.seq (.draw [⟨(some 26), (.mv (.t 0)), none, 0, []⟩, ⟨(some 27), (.nilc (.t 26)), none, 1, [0]⟩, ⟨(some 28), (.fadd 12 (.t 27)), none, 2, [0, 1]⟩, ⟨(some 29), (.load false 1 (.t 28)), none, 3, [0, 1, 2]⟩, ⟨(some 30), (.nilc (.t 29)), none, 4, [0, 1, 2, 3]⟩, ⟨(some 31), (.fadd 1 (.t 30)), none, 5, [0, 1, 2, 3, 4]⟩, ⟨(some 32), (.load false 1 (.t 31)), none, 6, [0, 1, 2, 3, 4, 5]⟩, ⟨(some 33), (.bin .geq (.t 32) (.c (.i .i64 0))), none, 7, [0, 1, 2, 3, 4, 5, 6]⟩, ⟨(some 34), (.mv (.t 33)), none, 8, [0, 1, 2, 3, 4, 5, 6, 7]⟩, ⟨(some 35), (.mv (.t 0)), (some (34, true)), 9, [0, 1, 2, 3, 4, 5, 6, 7, 8]⟩, ⟨(some 36), (.nilc (.t 35)), (some (34, true)), 10, [0, 1, 2, 3, 4, 5, 6, 7, 8, 9]⟩, ⟨(some 37), (.fadd 13 (.t 36)), (some (34, true)), 11, [0, 1, 2, 3, 4, 5, 6, 7, 8, 9, 10]⟩, ⟨(some 38), (.load false 1 (.t 37)), (some (34, true)), 12, [0, 1, 2, 3, 4, 5, 6, 7, 8, 9, 10, 11]⟩, ⟨(some 39), (.bin .eql (.t 38) (.c (.i .i64 2))), (some (34, true)), 13, [0, 1, 2, 3, 4, 5, 6, 7, 8, 9, 10, 11, 12]⟩, ⟨(some 40), (.pick (.t 34) (.t 39) (.c (.b false))), none, 14, [0, 1, 2, 3, 4, 5, 6, 7, 8, 9, 10, 11, 12, 13]⟩, ⟨(some 41), (.mv (.t 40)), none, 15, [0, 1, 2, 3, 4, 5, 6, 7, 8, 9, 10, 11, 12, 13, 14]⟩, ⟨(some 42), (.mv (.t 0)), (some (41, true)), 16, [0, 1, 2, 3, 4, 5, 6, 7, 8, 9, 10, 11, 12, 13, 14, 15]⟩, ⟨(some 43), (.nilc (.t 42)), (some (41, true)), 17, [0, 1, 2, 3, 4, 5, 6, 7, 8, 9, 10, 11, 12, 13, 14, 15, 16]⟩, ⟨(some 44), (.fadd 14 (.t 43)), (some (41, true)), 18, [0, 1, 2, 3, 4, 5, 6, 7, 8, 9, 10, 11, 12, 13, 14, 15, 16, 17]⟩, ⟨(some 46), (.mv (.t 0)), (some (41, true)), 20, [0, 1, 2, 3, 4, 5, 6, 7, 8, 9, 10, 11, 12, 13, 14, 15]⟩, ⟨(some 47), (.nilc (.t 46)), (some (41, true)), 21, [0, 1, 2, 3, 4, 5, 6, 7, 8, 9, 10, 11, 12, 13, 14, 15, 20]⟩, ⟨(some 48), (.fadd 12 (.t 47)), (some (41, true)), 22, [0, 1, 2, 3, 4, 5, 6, 7, 8, 9, 10, 11, 12, 13, 14, 15, 20, 21]⟩, ⟨(some 45), (.load false 1 (.t 44)), (some (41, true)), 19, [0, 1, 2, 3, 4, 5, 6, 7, 8, 9, 10, 11, 12, 13, 14, 15, 16, 17, 18]⟩, ⟨(some 49), (.load false 1 (.t 48)), (some (41, true)), 23, [0, 1, 2, 3, 4, 5, 6, 7, 8, 9, 10, 11, 12, 13, 14, 15, 20, 21, 22]⟩, ⟨(some 50), (.nilc (.t 49)), (some (41, true)), 24, [0, 1, 2, 3, 4, 5, 6, 7, 8, 9, 10, 11, 12, 13, 14, 15, 20, 21, 22, 23]⟩, ⟨(some 51), (.fadd 1 (.t 50)), (some (41, true)), 25, [0, 1, 2, 3, 4, 5, 6, 7, 8, 9, 10, 11, 12, 13, 14, 15, 20, 21, 22, 23, 24]⟩, ⟨(some 52), (.load false 1 (.t 51)), (some (41, true)), 26, [0, 1, 2, 3, 4, 5, 6, 7, 8, 9, 10, 11, 12, 13, 14, 15, 20, 21, 22, 23, 24, 25]⟩, ⟨(some 53), (.bin .gtr (.t 45) (.t 52)), (some (41, true)), 27, [0, 1, 2, 3, 4, 5, 6, 7, 8, 9, 10, 11, 12, 13, 14, 15, 16, 17, 18, 19, 20, 21, 22, 23, 24, 25, 26]⟩, ⟨(some 54), (.pick (.t 41) (.t 53) (.c (.b false))), none, 28, [0, 1, 2, 3, 4, 5, 6, 7, 8, 9, 10, 11, 12, 13, 14, 15, 16, 17, 18, 19, 20, 21, 22, 23, 24, 25, 26, 27]⟩, ⟨(some 6), (.mv (.t 54)), none, 29, [0, 1, 2, 3, 4, 5, 6, 7, 8, 9, 10, 11, 12, 13, 14, 15, 16, 17, 18, 19, 20, 21, 22, 23, 24, 25, 26, 27, 28]⟩])
  (.seq (.region [⟨(some 55), (.mv (.t 5)), none, 0, []⟩, ⟨(some 56), (.mv (.t 55)), none, 1, []⟩, ⟨(some 57), (.mv (.t 6)), (some (56, false)), 2, []⟩, ⟨(some 58), (.pick (.t 56) (.c (.b true)) (.t 57)), none, 3, []⟩, ⟨(some 4), (.mv (.t 58)), none, 4, []⟩])
  .ret))))
def x43 : XFun := ⟨x43b, [(.t 4)]⟩
theorem x43_ok : compF Try.prog 43 = some x43 := by kernel_rfl
/-- (*bollard/sendq.Queue).done (23) -/
def x44b : XC := (.seq (.region [⟨(some 2), (.mv (.c (.sl none 0 0 0))), none, 0, []⟩])
  (.seq (.seq (.region [⟨(some 4), (.mv (.t 0)), none, 0, []⟩, ⟨(some 5), (.nilq 0 false (.t 4)), none, 1, []⟩])
  (.cond (.t 5) (.seq (.region [⟨(some 2), (.mv (.c (.sl none 0 0 0))), none, 0, []⟩])
  .ret) .skip))
  (.seq (.region [⟨(some 6), (.mv (.t 0)), none, 0, []⟩, ⟨(some 7), (.nilc (.t 6)), none, 1, []⟩, ⟨(some 8), (.fadd 0 (.t 7)), none, 2, []⟩, ⟨(some 9), (.load false 1 (.t 8)), none, 3, []⟩, ⟨(some 10), (.call (.c (.fn (.func 66) [] [])) [(.t 9), (.c (.fn (.func 67) [] []))]), none, 4, []⟩, ⟨(some 3), (.mv (.t 10)), none, 5, []⟩])
  (.seq (.seq (.region [⟨(some 11), (.mv (.t 3)), none, 0, []⟩, ⟨(some 12), (.bin .lss (.t 11) (.c (.i .i64 0))), none, 1, []⟩])
  (.cond (.t 12) (.seq (.region [⟨(some 13), (.mv (.t 0)), none, 0, []⟩, ⟨(some 14), (.nilc (.t 13)), none, 1, []⟩, ⟨(some 15), (.fadd 0 (.t 14)), none, 2, []⟩, ⟨(some 16), (.load false 1 (.t 15)), none, 3, []⟩, ⟨(some 2), (.mv (.t 16)), none, 4, []⟩])
  .ret) .skip))
  (.seq (.region [⟨(some 17), (.mv (.t 0)), none, 0, []⟩, ⟨(some 18), (.nilc (.t 17)), none, 1, []⟩, ⟨(some 19), (.fadd 0 (.t 18)), none, 2, []⟩, ⟨(some 20), (.load false 1 (.t 19)), none, 3, []⟩, ⟨(some 21), (.mv (.t 3)), none, 4, []⟩, ⟨(some 22), (.slsl 1 (.t 20) none (some (.t 21)) none), none, 5, []⟩, ⟨(some 2), (.mv (.t 22)), none, 6, []⟩])
  .ret)))))
def x44 : XFun := ⟨x44b, [(.t 2)]⟩
theorem x44_ok : compF Try.prog 44 = some x44 := by kernel_rfl
/-- slices.IndexFunc[[]bollard/api.Skip,bollard/api.Skip] (19) -/
def x45b : XC := (.seq (.region [⟨(some 4), (.mv (.c (.i .i64 0))), none, 0, []⟩])
  (.seq (.seq (.region [⟨(some 6), (.mv (.t 0)), none, 0, []⟩, ⟨(some 7), (.lenx (.t 6)), none, 1, []⟩, ⟨(some 8), (.mv (.c (.i .i64 0))), none, 2, []⟩])
  (.block 0 (.loop (.seq (.region [⟨(some 9), (.bin .lss (.t 8) (.t 7)), none, 0, []⟩])
  (.seq (.cond (.t 9) .skip (.exit 0))
  (.seq (.block 1 (.seq (.region [⟨(some 10), (.mv (.t 8)), none, 0, []⟩, ⟨(some 5), (.mv (.t 10)), none, 1, []⟩])
  (.seq (.region [⟨(some 11), (.mv (.t 1)), none, 0, []⟩, ⟨(some 12), (.mv (.t 0)), none, 1, []⟩, ⟨(some 13), (.mv (.t 5)), none, 2, []⟩, ⟨(some 14), (.isl 2 (.t 12) (.t 13)), none, 3, []⟩, ⟨(some 15), (.load true 2 (.t 14)), none, 4, []⟩, ⟨(some 16), (.call (.t 11) [(.t 15)]), none, 5, []⟩])
  (.cond (.t 16) (.seq (.region [⟨(some 17), (.mv (.t 5)), none, 0, []⟩, ⟨(some 4), (.mv (.t 17)), none, 1, []⟩])
  .ret) .skip))))
  (.region [⟨(some 18), (.bin .add (.t 8) (.c (.i .i64 1))), none, 0, []⟩, ⟨(some 8), (.mv (.t 18)), none, 1, []⟩])))))))
  (.seq (.region [⟨(some 4), (.mv (.c (.i .i64 (-1)))), none, 0, []⟩])
  .ret)))
def x45 : XFun := ⟨x45b, [(.t 4)]⟩
theorem x45_ok : compF Try.prog 45 = some x45 := by kernel_rfl
/-- (*bollard/sendq.Queue).Forward$1 (9) -/
def x46b : XC := (.seq (.region [⟨(some 2), (.box (.t 0)), none, 0, []⟩, ⟨(some 3), (.mv (.c (.b false))), none, 1, []⟩])
  (.seq (.region [⟨(some 4), (.fadd 0 (.t 2)), none, 0, []⟩, ⟨(some 5), (.load false 1 (.t 4)), none, 1, []⟩, ⟨(some 6), (.fadd 0 (.t 1)), none, 2, []⟩, ⟨(some 7), (.load false 1 (.t 6)), none, 3, []⟩, ⟨(some 8), (.bin .eql (.t 5) (.t 7)), none, 4, []⟩, ⟨(some 3), (.mv (.t 8)), none, 5, []⟩])
  .ret))
def x46 : XFun := ⟨x46b, [(.t 3)]⟩
theorem x46_ok : compF Try.prog 46 = some x46 := by kernel_rfl
/-- (*bollard/bollardref15.Queue).Push (91) -/
def x47b : XC := (.seq (.region [⟨(some 8), (.mv (.c (.i .i64 0))), none, 0, []⟩])
  (.seq (.seq (.region [⟨(some 12), (.mv (.t 1)), none, 0, []⟩, ⟨(some 13), (.lenx (.t 12)), none, 1, []⟩, ⟨(some 14), (.bin .eql (.t 13) (.c (.i .i64 0))), none, 2, []⟩])
  (.cond (.t 14) (.seq (.region [⟨(some 8), (.mv (.c (.i .i64 1))), none, 0, []⟩])
  .ret) .skip))
  (.seq (.seq (.region [⟨(some 9), (.mv (.c (.i .i64 0))), none, 0, []⟩])
  (.block 0 (.loop (.seq (.seq (.region [⟨(some 15), (.mv (.t 9)), none, 0, []⟩, ⟨(some 16), (.mv (.t 1)), none, 1, []⟩, ⟨(some 17), (.lenx (.t 16)), none, 2, []⟩, ⟨(some 18), (.bin .lss (.t 15) (.t 17)), none, 3, []⟩])
  (.cond (.t 18) .skip (.exit 0)))
  (.seq (.block 1 (.seq (.region [⟨(some 21), (.mv (.t 1)), none, 0, []⟩, ⟨(some 22), (.mv (.t 9)), none, 1, []⟩, ⟨(some 23), (.isl 12 (.t 21) (.t 22)), none, 2, []⟩, ⟨(some 24), (.fadd 0 (.t 23)), none, 3, []⟩, ⟨(some 25), (.load false 1 (.t 24)), none, 4, []⟩, ⟨(some 26), (.bin .neq (.t 25) (.c (.i .u8 0))), none, 5, []⟩, ⟨(some 27), (.mv (.t 26)), none, 6, []⟩, ⟨(some 28), (.mv (.t 1)), (some (27, false)), 7, []⟩, ⟨(some 29), (.mv (.t 9)), (some (27, false)), 8, []⟩, ⟨(some 30), (.isl 12 (.t 28) (.t 29)), (some (27, false)), 9, []⟩, ⟨(some 31), (.fadd 11 (.t 30)), (some (27, false)), 10, []⟩, ⟨(some 32), (.load false 1 (.t 31)), (some (27, false)), 11, []⟩, ⟨(some 33), (.lenx (.t 32)), (some (27, false)), 12, []⟩, ⟨(some 34), (.bin .eql (.t 33) (.c (.i .i64 0))), (some (27, false)), 13, []⟩, ⟨(some 35), (.pick (.t 27) (.c (.b true)) (.t 34)), none, 14, []⟩])
  (.cond (.t 35) (.seq (.region [⟨(some 8), (.mv (.c (.i .i64 1))), none, 0, []⟩])
  .ret) .skip)))
  (.region [⟨(some 19), (.mv (.t 9)), none, 0, []⟩, ⟨(some 20), (.bin .add (.t 19) (.c (.i .i64 1))), none, 1, []⟩, ⟨(some 9), (.mv (.t 20)), none, 2, []⟩]))))))
  (.seq (.seq (.region [⟨(some 36), (.mv (.t 0)), none, 0, []⟩, ⟨(some 37), (.nilc (.t 36)), none, 1, []⟩, ⟨(some 38), (.fadd 0 (.t 37)), none, 2, []⟩, ⟨(some 39), (.load false 1 (.t 38)), none, 3, []⟩, ⟨(some 40), (.lenx (.t 39)), none, 4, []⟩, ⟨(some 41), (.mv (.t 1)), none, 5, []⟩, ⟨(some 42), (.lenx (.t 41)), none, 6, []⟩, ⟨(some 43), (.bin .add (.t 40) (.t 42)), none, 7, []⟩, ⟨(some 44), (.bin .gtr (.t 43) (.c (.i .i64 1024))), none, 8, []⟩])
  (.cond (.t 44) (.seq (.region [⟨(some 8), (.mv (.c (.i .i64 9))), none, 0, []⟩])
  .ret) .skip))
  (.seq (.seq (.region [⟨(some 10), (.mv (.c (.i .i64 0))), none, 0, []⟩])
  (.block 2 (.loop (.seq (.seq (.region [⟨(some 45), (.mv (.t 10)), none, 0, []⟩, ⟨(some 46), (.mv (.t 1)), none, 1, []⟩, ⟨(some 47), (.lenx (.t 46)), none, 2, []⟩, ⟨(some 48), (.bin .lss (.t 45) (.t 47)), none, 3, []⟩])
  (.cond (.t 48) .skip (.exit 2)))
  (.seq (.block 3 (.seq (.region [⟨(some 51), (.mv (.t 1)), none, 0, []⟩, ⟨(some 52), (.mv (.t 10)), none, 1, []⟩, ⟨(some 53), (.isl 12 (.t 51) (.t 52)), none, 2, []⟩, ⟨(some 54), (.load true 12 (.t 53)), none, 3, []⟩, ⟨(some 11), (.alloc [(.i .u8 0), (.i .u8 0), (.i .u32 0), (.i .u32 0), (.i .u16 0), (.i .u16 0), (.i .u32 0), (.sl none 0 0 0), (.sl none 0 0 0), (.sl none 0 0 0), (.sl none 0 0 0), (.sl none 0 0 0)]), none, 4, []⟩, ⟨none, (.store 12 (.t 11) (.t 54)), none, 5, []⟩])
  (.seq (.region [⟨(some 55), (.mv (.t 0)), none, 0, []⟩, ⟨(some 56), (.nilc (.t 55)), none, 1, []⟩, ⟨(some 57), (.fadd 1 (.t 56)), none, 2, []⟩, ⟨(some 58), (.load false 1 (.t 57)), none, 3, []⟩, ⟨(some 59), (.fadd 2 (.t 11)), none, 4, []⟩, ⟨none, (.store 1 (.t 59) (.t 58)), none, 5, []⟩])
  (.seq (.region [⟨(some 60), (.mv (.t 0)), none, 0, []⟩, ⟨(some 61), (.nilc (.t 60)), none, 1, []⟩, ⟨(some 62), (.fadd 1 (.t 61)), none, 2, []⟩, ⟨(some 63), (.load false 1 (.t 62)), none, 3, []⟩, ⟨(some 64), (.bin .add (.t 63) (.c (.i .u32 1))), none, 4, []⟩, ⟨(some 65), (.nilc (.t 60)), none, 5, []⟩, ⟨(some 66), (.fadd 1 (.t 65)), none, 6, []⟩, ⟨none, (.store 1 (.t 66) (.t 64)), none, 7, []⟩])
  (.draw [⟨(some 67), (.mv (.t 0)), none, 0, []⟩, ⟨(some 68), (.mv (.t 0)), none, 1, []⟩, ⟨(some 69), (.nilc (.t 68)), none, 2, [1]⟩, ⟨(some 70), (.fadd 0 (.t 69)), none, 3, [1, 2]⟩, ⟨(some 73), (.mv (.t 0)), none, 6, []⟩, ⟨(some 74), (.nilc (.t 73)), none, 7, [6]⟩, ⟨(some 75), (.fadd 2 (.t 74)), none, 8, [6, 7]⟩, ⟨(some 77), (.mv (.t 2)), none, 10, []⟩, ⟨(some 78), (.mv (.t 3)), none, 11, []⟩, ⟨(some 71), (.load false 1 (.t 70)), none, 4, [1, 2, 3]⟩, ⟨(some 72), (.load true 12 (.t 11)), none, 5, []⟩, ⟨(some 76), (.load false 1 (.t 75)), none, 9, [6, 7, 8]⟩, ⟨(some 79), (.build [(.i .u8 0), (.i .u8 0), (.i .u32 0), (.i .u32 0), (.i .u16 0), (.i .u16 0), (.i .u32 0), (.sl none 0 0 0), (.sl none 0 0 0), (.sl none 0 0 0), (.sl none 0 0 0), (.sl none 0 0 0), (.i .i64 0), (.i .i64 0), (.i .i64 0), (.i .i64 0), (.i .i64 0), (.i .i64 0), (.i .i64 0)] [(0, 12, (.t 72)), (12, 1, (.t 76)), (17, 1, (.t 77)), (18, 1, (.t 78))]), none, 12, [5, 6, 7, 8, 9, 10, 11]⟩, ⟨(some 80), (.bslice [(.i .u8 0), (.i .u8 0), (.i .u32 0), (.i .u32 0), (.i .u16 0), (.i .u16 0), (.i .u32 0), (.sl none 0 0 0), (.sl none 0 0 0), (.sl none 0 0 0), (.sl none 0 0 0), (.sl none 0 0 0), (.i .i64 0), (.i .i64 0), (.i .i64 0), (.i .i64 0), (.i .i64 0), (.i .i64 0), (.i .i64 0)] [(0, 19, (.t 79))] 1), none, 13, [5, 6, 7, 8, 9, 10, 11, 12]⟩, ⟨(some 81), (.append 19 200 (.t 71) (.t 80)), none, 14, [1, 2, 3, 4, 5, 6, 7, 8, 9, 10, 11, 12, 13]⟩, ⟨(some 82), (.nilc (.t 67)), none, 15, [0, 1, 2, 3, 4, 5, 6, 7, 8, 9, 10, 11, 12, 13, 14]⟩, ⟨(some 83), (.fadd 0 (.t 82)), none, 16, [0, 1, 2, 3, 4, 5, 6, 7, 8, 9, 10, 11, 12, 13, 14, 15]⟩, ⟨none, (.store 1 (.t 83) (.t 81)), none, 17, [0, 1, 2, 3, 4, 5, 6, 7, 8, 9, 10, 11, 12, 13, 14, 15, 16]⟩])))))
  (.region [⟨(some 49), (.mv (.t 10)), none, 0, []⟩, ⟨(some 50), (.bin .add (.t 49) (.c (.i .i64 1))), none, 1, []⟩, ⟨(some 10), (.mv (.t 50)), none, 2, []⟩]))))))
  (.seq (.region [⟨(some 84), (.mv (.t 0)), none, 0, []⟩, ⟨(some 85), (.nilc (.t 84)), none, 1, []⟩, ⟨(some 86), (.fadd 2 (.t 85)), none, 2, []⟩, ⟨(some 87), (.load false 1 (.t 86)), none, 3, []⟩, ⟨(some 88), (.bin .add (.t 87) (.c (.i .i64 1))), none, 4, []⟩, ⟨(some 89), (.nilc (.t 84)), none, 5, []⟩, ⟨(some 90), (.fadd 2 (.t 89)), none, 6, []⟩, ⟨none, (.store 1 (.t 90) (.t 88)), none, 7, []⟩])
  (.seq (.region [⟨(some 8), (.mv (.c (.i .i64 0))), none, 0, []⟩])
  .ret)))))))
def x47 : XFun := ⟨x47b, [(.t 8)]⟩
theorem x47_ok : compF Try.prog 47 = some x47 := by kernel_rfl
/-- bollard/bollardref08.SameChunks (27) -/
def x48b : XC := (.seq (.region [⟨(some 4), (.mv (.c (.b false))), none, 0, []⟩])
  (.seq (.seq (.region [⟨(some 6), (.mv (.t 0)), none, 0, []⟩, ⟨(some 7), (.lenx (.t 6)), none, 1, []⟩, ⟨(some 8), (.mv (.t 1)), none, 2, []⟩, ⟨(some 9), (.lenx (.t 8)), none, 3, []⟩, ⟨(some 10), (.bin .neq (.t 7) (.t 9)), none, 4, []⟩])
  (.cond (.t 10) (.seq (.region [⟨(some 4), (.mv (.c (.b false))), none, 0, []⟩])
  .ret) .skip))
  (.seq (.seq (.region [⟨(some 5), (.mv (.c (.i .i64 0))), none, 0, []⟩])
  (.block 0 (.loop (.seq (.seq (.region [⟨(some 11), (.mv (.t 5)), none, 0, []⟩, ⟨(some 12), (.mv (.t 0)), none, 1, []⟩, ⟨(some 13), (.lenx (.t 12)), none, 2, []⟩, ⟨(some 14), (.bin .lss (.t 11) (.t 13)), none, 3, []⟩])
  (.cond (.t 14) .skip (.exit 0)))
  (.seq (.block 1 (.seq (.draw [⟨(some 17), (.mv (.t 0)), none, 0, []⟩, ⟨(some 18), (.mv (.t 5)), none, 1, []⟩, ⟨(some 19), (.isl 12 (.t 17) (.t 18)), none, 2, [0, 1]⟩, ⟨(some 21), (.mv (.t 1)), none, 4, []⟩, ⟨(some 22), (.mv (.t 5)), none, 5, []⟩, ⟨(some 23), (.isl 12 (.t 21) (.t 22)), none, 6, [4, 5]⟩, ⟨(some 20), (.load true 12 (.t 19)), none, 3, [0, 1, 2]⟩, ⟨(some 24), (.load true 12 (.t 23)), none, 7, [4, 5, 6]⟩, ⟨(some 25), (.call (.c (.fn (.func 68) [] [])) [(.t 20), (.t 24)]), none, 8, [0, 1, 2, 3, 4, 5, 6, 7]⟩, ⟨(some 26), (.unx .not (.t 25)), none, 9, [0, 1, 2, 3, 4, 5, 6, 7, 8]⟩])
  (.cond (.t 26) (.seq (.region [⟨(some 4), (.mv (.c (.b false))), none, 0, []⟩])
  .ret) .skip)))
  (.region [⟨(some 15), (.mv (.t 5)), none, 0, []⟩, ⟨(some 16), (.bin .add (.t 15) (.c (.i .i64 1))), none, 1, []⟩, ⟨(some 5), (.mv (.t 16)), none, 2, []⟩]))))))
  (.seq (.region [⟨(some 4), (.mv (.c (.b true))), none, 0, []⟩])
  .ret))))
def x48 : XFun := ⟨x48b, [(.t 4)]⟩
theorem x48_ok : compF Try.prog 48 = some x48 := by kernel_rfl
/-- (*bollard/bollardref15.Queue).Take (28) -/
def x49b : XC := (.seq (.region [⟨(some 6), (.mv (.c (.sl none 0 0 0))), none, 0, []⟩])
  (.seq (.region [⟨(some 10), (.mv (.t 0)), none, 0, []⟩, ⟨(some 11), (.mv (.t 1)), none, 1, []⟩, ⟨(some 12), (.mv (.t 2)), none, 2, []⟩, ⟨(some 13), (.call (.c (.fn (.func 69) [] [])) [(.t 10), (.c (.sl none 0 0 0)), (.c (.i .i64 2)), (.t 11), (.t 12)]), none, 3, []⟩, ⟨(some 9), (.mv (.t 13)), none, 4, []⟩, ⟨(some 14), (.ext (.t 9) 0), none, 5, []⟩, ⟨(some 15), (.ext (.t 9) 1), none, 6, []⟩, ⟨(some 16), (.ext (.t 9) 2), none, 7, []⟩, ⟨(some 7), (.mv (.t 14)), none, 8, []⟩, ⟨(some 2), (.mv (.t 15)), none, 9, []⟩, ⟨(some 8), (.mv (.t 16)), none, 10, []⟩])
  (.seq (.seq (.region [⟨(some 17), (.mv (.t 8)), none, 0, []⟩])
  (.cond (.t 17) (.region [⟨(some 19), (.mv (.t 0)), none, 0, []⟩, ⟨(some 20), (.mv (.t 7)), none, 1, []⟩, ⟨(some 21), (.mv (.t 1)), none, 2, []⟩, ⟨(some 22), (.mv (.t 2)), none, 3, []⟩, ⟨(some 23), (.call (.c (.fn (.func 69) [] [])) [(.t 19), (.t 20), (.c (.i .i64 0)), (.t 21), (.t 22)]), none, 4, []⟩, ⟨(some 18), (.mv (.t 23)), none, 5, []⟩, ⟨(some 24), (.ext (.t 18) 0), none, 6, []⟩, ⟨(some 25), (.ext (.t 18) 1), none, 7, []⟩, ⟨(some 26), (.ext (.t 18) 2), none, 8, []⟩, ⟨(some 7), (.mv (.t 24)), none, 9, []⟩]) .skip))
  (.seq (.region [⟨(some 27), (.mv (.t 7)), none, 0, []⟩, ⟨(some 6), (.mv (.t 27)), none, 1, []⟩])
  .ret))))
def x49 : XFun := ⟨x49b, [(.t 6)]⟩
theorem x49_ok : compF Try.prog 49 = some x49 := by kernel_rfl
/-- (*bollard/bollardref15.Queue).Ack (219) -/
def x50b : XC := (.seq (.region [⟨(some 8), (.mv (.c (.i .i64 0))), none, 0, []⟩, ⟨(some 9), (.mv (.c (.i .i64 0))), none, 1, []⟩, ⟨(some 10), (.mv (.c (.b false))), none, 2, []⟩, ⟨(some 11), (.mv (.c (.b false))), none, 3, []⟩, ⟨(some 12), (.mv (.c (.b false))), none, 4, []⟩])
  (.seq (.region [⟨(some 27), (.mv (.t 0)), none, 0, []⟩, ⟨(some 28), (.mv (.t 1)), none, 1, []⟩, ⟨(some 29), (.call (.c (.fn (.func 70) [] [])) [(.t 27), (.t 28)]), none, 2, []⟩, ⟨(some 26), (.mv (.t 29)), none, 3, []⟩, ⟨(some 30), (.ext (.t 26) 0), none, 4, []⟩, ⟨(some 31), (.ext (.t 26) 1), none, 5, []⟩, ⟨(some 13), (.mv (.t 30)), none, 6, []⟩, ⟨(some 14), (.mv (.t 31)), none, 7, []⟩])
  (.seq (.seq (.region [⟨(some 32), (.mv (.t 14)), none, 0, []⟩, ⟨(some 33), (.unx .not (.t 32)), none, 1, []⟩])
  (.cond (.t 33) (.seq (.region [⟨(some 8), (.mv (.c (.i .i64 0))), none, 0, []⟩, ⟨(some 9), (.mv (.c (.i .i64 0))), none, 1, []⟩, ⟨(some 10), (.mv (.c (.b false))), none, 2, []⟩, ⟨(some 11), (.mv (.c (.b false))), none, 3, []⟩, ⟨(some 12), (.mv (.c (.b false))), none, 4, []⟩])
  .ret) .skip))
  (.seq (.region [⟨(some 15), (.mv (.c (.i .i64 0))), none, 0, []⟩])
  (.seq (.region [⟨(some 16), (.mv (.c (.i .i64 (-1)))), none, 0, []⟩])
  (.seq (.seq (.region [⟨(some 17), (.mv (.c (.i .i64 0))), none, 0, []⟩])
  (.block 0 (.loop (.seq (.seq (.region [⟨(some 34), (.mv (.t 17)), none, 0, []⟩, ⟨(some 35), (.mv (.t 13)), none, 1, []⟩, ⟨(some 36), (.bin .lss (.t 34) (.t 35)), none, 2, []⟩])
  (.cond (.t 36) .skip (.exit 0)))
  (.seq (.block 1 (.seq (.region [⟨(some 39), (.mv (.t 0)), none, 0, []⟩, ⟨(some 40), (.nilc (.t 39)), none, 1, []⟩, ⟨(some 41), (.fadd 0 (.t 40)), none, 2, []⟩, ⟨(some 42), (.load false 1 (.t 41)), none, 3, []⟩, ⟨(some 43), (.mv (.t 17)), none, 4, []⟩, ⟨(some 44), (.isl 19 (.t 42) (.t 43)), none, 5, []⟩, ⟨(some 45), (.load true 19 (.t 44)), none, 6, []⟩, ⟨(some 18), (.alloc [(.i .u8 0), (.i .u8 0), (.i .u32 0), (.i .u32 0), (.i .u16 0), (.i .u16 0), (.i .u32 0), (.sl none 0 0 0), (.sl none 0 0 0), (.sl none 0 0 0), (.sl none 0 0 0), (.sl none 0 0 0), (.i .i64 0), (.i .i64 0), (.i .i64 0), (.i .i64 0), (.i .i64 0), (.i .i64 0), (.i .i64 0)]), none, 7, []⟩, ⟨none, (.store 19 (.t 18) (.t 45)), none, 8, []⟩])
  (.seq (.region [⟨(some 46), (.fadd 13 (.t 18)), none, 0, []⟩, ⟨(some 47), (.load false 1 (.t 46)), none, 1, []⟩, ⟨(some 48), (.bin .neq (.t 47) (.c (.i .i64 3))), none, 2, []⟩, ⟨(some 49), (.mv (.t 48)), none, 3, []⟩, ⟨(some 50), (.fadd 13 (.t 18)), (some (49, true)), 4, []⟩, ⟨(some 51), (.load false 1 (.t 50)), (some (49, true)), 5, []⟩, ⟨(some 52), (.bin .neq (.t 51) (.c (.i .i64 4))), (some (49, true)), 6, []⟩, ⟨(some 53), (.pick (.t 49) (.t 52) (.c (.b false))), none, 7, []⟩])
  (.cond (.t 53) (.seq (.region [⟨(some 54), (.mv (.t 15)), none, 0, []⟩, ⟨(some 55), (.fadd 0 (.t 18)), none, 1, []⟩, ⟨(some 56), (.fadd 11 (.t 55)), none, 2, []⟩, ⟨(some 57), (.load false 1 (.t 56)), none, 3, []⟩, ⟨(some 58), (.lenx (.t 57)), none, 4, []⟩, ⟨(some 59), (.bin .add (.t 54) (.t 58)), none, 5, []⟩, ⟨(some 15), (.mv (.t 59)), none, 6, []⟩])
  (.seq (.region [⟨(some 60), (.fadd 14 (.t 18)), none, 0, []⟩, ⟨(some 61), (.load false 1 (.t 60)), none, 1, []⟩, ⟨(some 62), (.bin .eql (.t 61) (.c (.i .i64 1))), none, 2, []⟩])
  (.cond (.t 62) (.region [⟨(some 63), (.mv (.t 3)), none, 0, []⟩, ⟨(some 64), (.fadd 15 (.t 18)), none, 1, []⟩, ⟨(some 65), (.load false 1 (.t 64)), none, 2, []⟩, ⟨(some 66), (.bin .sub (.t 63) (.t 65)), none, 3, []⟩, ⟨(some 16), (.mv (.t 66)), none, 4, []⟩]) .skip))) .skip))))
  (.region [⟨(some 37), (.mv (.t 17)), none, 0, []⟩, ⟨(some 38), (.bin .add (.t 37) (.c (.i .i64 1))), none, 1, []⟩, ⟨(some 17), (.mv (.t 38)), none, 2, []⟩]))))))
  (.seq (.region [⟨(some 67), (.mv (.t 0)), none, 0, []⟩, ⟨(some 68), (.bslice [] [] 0), none, 1, []⟩, ⟨(some 69), (.mv (.t 0)), none, 2, []⟩, ⟨(some 70), (.nilc (.t 69)), none, 3, []⟩, ⟨(some 71), (.fadd 0 (.t 70)), none, 4, []⟩, ⟨(some 72), (.load false 1 (.t 71)), none, 5, []⟩, ⟨(some 73), (.mv (.t 13)), none, 6, []⟩, ⟨(some 74), (.slsl 19 (.t 72) (some (.t 73)) none none), none, 7, []⟩, ⟨(some 75), (.append 19 200 (.t 68) (.t 74)), none, 8, []⟩, ⟨(some 76), (.nilc (.t 67)), none, 9, []⟩, ⟨(some 77), (.fadd 0 (.t 76)), none, 10, []⟩, ⟨none, (.store 1 (.t 77) (.t 75)), none, 11, []⟩])
  (.seq (.region [⟨(some 19), (.mv (.c (.i .i64 (-1)))), none, 0, []⟩])
  (.seq (.seq (.region [⟨(some 20), (.mv (.c (.i .i64 0))), none, 0, []⟩])
  (.block 2 (.loop (.seq (.seq (.region [⟨(some 78), (.mv (.t 20)), none, 0, []⟩, ⟨(some 79), (.mv (.t 0)), none, 1, []⟩, ⟨(some 80), (.nilc (.t 79)), none, 2, []⟩, ⟨(some 81), (.fadd 0 (.t 80)), none, 3, []⟩, ⟨(some 82), (.load false 1 (.t 81)), none, 4, []⟩, ⟨(some 83), (.lenx (.t 82)), none, 5, []⟩, ⟨(some 84), (.bin .lss (.t 78) (.t 83)), none, 6, []⟩])
  (.cond (.t 84) .skip (.exit 2)))
  (.seq (.block 3 (.seq (.region [⟨(some 21), (.mv (.c (.b false))), none, 0, []⟩])
  (.seq (.seq (.region [⟨(some 22), (.mv (.c (.i .i64 0))), none, 0, []⟩])
  (.block 4 (.loop (.seq (.seq (.region [⟨(some 87), (.mv (.t 22)), none, 0, []⟩, ⟨(some 88), (.mv (.t 2)), none, 1, []⟩, ⟨(some 89), (.lenx (.t 88)), none, 2, []⟩, ⟨(some 90), (.bin .lss (.t 87) (.t 89)), none, 3, []⟩])
  (.cond (.t 90) .skip (.exit 4)))
  (.seq (.block 5 (.region [⟨(some 93), (.mv (.t 21)), none, 0, []⟩, ⟨(some 94), (.mv (.t 93)), none, 1, []⟩, ⟨(some 95), (.mv (.t 2)), (some (94, false)), 2, []⟩, ⟨(some 96), (.mv (.t 22)), (some (94, false)), 3, []⟩, ⟨(some 97), (.isl 2 (.t 95) (.t 96)), (some (94, false)), 4, []⟩, ⟨(some 98), (.fadd 0 (.t 97)), (some (94, false)), 5, []⟩, ⟨(some 99), (.load false 1 (.t 98)), (some (94, false)), 6, []⟩, ⟨(some 100), (.cint .i64 (.t 99)), (some (94, false)), 7, []⟩, ⟨(some 101), (.mv (.t 20)), (some (94, false)), 8, []⟩, ⟨(some 102), (.bin .add (.t 101) (.c (.i .i64 1))), (some (94, false)), 9, []⟩, ⟨(some 103), (.bin .leq (.t 100) (.t 102)), (some (94, false)), 10, []⟩, ⟨(some 104), (.mv (.t 103)), (some (94, false)), 11, []⟩, ⟨(some 105), (.mv (.t 20)), (some (104, true)), 12, []⟩, ⟨(some 106), (.bin .add (.t 105) (.c (.i .i64 1))), (some (104, true)), 13, []⟩, ⟨(some 107), (.mv (.t 2)), (some (104, true)), 14, []⟩, ⟨(some 108), (.mv (.t 22)), (some (104, true)), 15, []⟩, ⟨(some 109), (.isl 2 (.t 107) (.t 108)), (some (104, true)), 16, []⟩, ⟨(some 110), (.fadd 1 (.t 109)), (some (104, true)), 17, []⟩, ⟨(some 111), (.load false 1 (.t 110)), (some (104, true)), 18, []⟩, ⟨(some 112), (.cint .i64 (.t 111)), (some (104, true)), 19, []⟩, ⟨(some 113), (.bin .leq (.t 106) (.t 112)), (some (104, true)), 20, []⟩, ⟨(some 114), (.pick (.t 104) (.t 113) (.c (.b false))), (some (94, false)), 21, []⟩, ⟨(some 115), (.pick (.t 94) (.c (.b true)) (.t 114)), none, 22, []⟩, ⟨(some 21), (.mv (.t 115)), none, 23, []⟩]))
  (.region [⟨(some 91), (.mv (.t 22)), none, 0, []⟩, ⟨(some 92), (.bin .add (.t 91) (.c (.i .i64 1))), none, 1, []⟩, ⟨(some 22), (.mv (.t 92)), none, 2, []⟩]))))))
  (.seq (.region [⟨(some 116), (.mv (.t 0)), none, 0, []⟩, ⟨(some 117), (.nilc (.t 116)), none, 1, []⟩, ⟨(some 118), (.fadd 0 (.t 117)), none, 2, []⟩, ⟨(some 119), (.load false 1 (.t 118)), none, 3, []⟩, ⟨(some 120), (.mv (.t 20)), none, 4, []⟩, ⟨(some 121), (.isl 19 (.t 119) (.t 120)), none, 5, []⟩, ⟨(some 122), (.fadd 13 (.t 121)), none, 6, []⟩, ⟨(some 123), (.load false 1 (.t 122)), none, 7, []⟩, ⟨(some 23), (.mv (.t 123)), none, 8, []⟩])
  (.seq (.seq (.region [⟨(some 124), (.mv (.t 21)), none, 0, []⟩, ⟨(some 125), (.mv (.t 124)), none, 1, []⟩, ⟨(some 126), (.mv (.t 23)), (some (125, true)), 2, []⟩, ⟨(some 127), (.bin .eql (.t 126) (.c (.i .i64 1))), (some (125, true)), 3, []⟩, ⟨(some 128), (.mv (.t 127)), (some (125, true)), 4, []⟩, ⟨(some 129), (.mv (.t 23)), (some (128, false)), 5, []⟩, ⟨(some 130), (.bin .eql (.t 129) (.c (.i .i64 2))), (some (128, false)), 6, []⟩, ⟨(some 131), (.pick (.t 128) (.c (.b true)) (.t 130)), (some (125, true)), 7, []⟩, ⟨(some 132), (.pick (.t 125) (.t 131) (.c (.b false))), none, 8, []⟩])
  (.cond (.t 132) (.seq (.region [⟨(some 133), (.mv (.t 0)), none, 0, []⟩, ⟨(some 134), (.nilc (.t 133)), none, 1, []⟩, ⟨(some 135), (.fadd 0 (.t 134)), none, 2, []⟩, ⟨(some 136), (.load false 1 (.t 135)), none, 3, []⟩, ⟨(some 137), (.mv (.t 20)), none, 4, []⟩, ⟨(some 138), (.isl 19 (.t 136) (.t 137)), none, 5, []⟩, ⟨(some 139), (.fadd 13 (.t 138)), none, 6, []⟩, ⟨none, (.store 1 (.t 139) (.c (.i .i64 3))), none, 7, []⟩])
  (.seq (.region [⟨(some 140), (.mv (.t 15)), none, 0, []⟩, ⟨(some 141), (.mv (.t 0)), none, 1, []⟩, ⟨(some 142), (.nilc (.t 141)), none, 2, []⟩, ⟨(some 143), (.fadd 0 (.t 142)), none, 3, []⟩, ⟨(some 144), (.load false 1 (.t 143)), none, 4, []⟩, ⟨(some 145), (.mv (.t 20)), none, 5, []⟩, ⟨(some 146), (.isl 19 (.t 144) (.t 145)), none, 6, []⟩, ⟨(some 147), (.fadd 0 (.t 146)), none, 7, []⟩, ⟨(some 148), (.fadd 11 (.t 147)), none, 8, []⟩, ⟨(some 149), (.load false 1 (.t 148)), none, 9, []⟩, ⟨(some 150), (.lenx (.t 149)), none, 10, []⟩, ⟨(some 151), (.bin .add (.t 140) (.t 150)), none, 11, []⟩, ⟨(some 15), (.mv (.t 151)), none, 12, []⟩])
  (.region [⟨(some 152), (.mv (.t 20)), none, 0, []⟩, ⟨(some 19), (.mv (.t 152)), none, 1, []⟩]))) .skip))
  (.seq (.region [⟨(some 153), (.mv (.t 21)), none, 0, []⟩, ⟨(some 154), (.unx .not (.t 153)), none, 1, []⟩, ⟨(some 155), (.mv (.t 154)), none, 2, []⟩, ⟨(some 156), (.mv (.t 23)), (some (155, true)), 3, []⟩, ⟨(some 157), (.bin .eql (.t 156) (.c (.i .i64 3))), (some (155, true)), 4, []⟩, ⟨(some 158), (.pick (.t 155) (.t 157) (.c (.b false))), none, 5, []⟩])
  (.cond (.t 158) (.seq (.region [⟨(some 159), (.mv (.t 0)), none, 0, []⟩, ⟨(some 160), (.nilc (.t 159)), none, 1, []⟩, ⟨(some 161), (.fadd 0 (.t 160)), none, 2, []⟩, ⟨(some 162), (.load false 1 (.t 161)), none, 3, []⟩, ⟨(some 163), (.mv (.t 20)), none, 4, []⟩, ⟨(some 164), (.isl 19 (.t 162) (.t 163)), none, 5, []⟩, ⟨(some 165), (.fadd 13 (.t 164)), none, 6, []⟩, ⟨none, (.store 1 (.t 165) (.c (.i .i64 1))), none, 7, []⟩])
  (.region [⟨(some 166), (.mv (.t 0)), none, 0, []⟩, ⟨(some 167), (.nilc (.t 166)), none, 1, []⟩, ⟨(some 168), (.fadd 0 (.t 167)), none, 2, []⟩, ⟨(some 169), (.load false 1 (.t 168)), none, 3, []⟩, ⟨(some 170), (.mv (.t 20)), none, 4, []⟩, ⟨(some 171), (.isl 19 (.t 169) (.t 170)), none, 5, []⟩, ⟨(some 172), (.fadd 16 (.t 171)), none, 6, []⟩, ⟨none, (.store 1 (.t 172) (.c (.i .i64 0))), none, 7, []⟩])) .skip)))))))
  (.region [⟨(some 85), (.mv (.t 20)), none, 0, []⟩, ⟨(some 86), (.bin .add (.t 85) (.c (.i .i64 1))), none, 1, []⟩, ⟨(some 20), (.mv (.t 86)), none, 2, []⟩]))))))
  (.seq (.region [⟨(some 24), (.mv (.c (.b false))), none, 0, []⟩])
  (.seq (.seq (.region [⟨(some 25), (.mv (.c (.i .i64 0))), none, 0, []⟩])
  (.block 6 (.loop (.seq (.seq (.region [⟨(some 173), (.mv (.t 25)), none, 0, []⟩, ⟨(some 174), (.mv (.t 19)), none, 1, []⟩, ⟨(some 175), (.bin .lss (.t 173) (.t 174)), none, 2, []⟩])
  (.cond (.t 175) .skip (.exit 6)))
  (.seq (.block 7 (.seq (.seq (.region [⟨(some 178), (.mv (.t 0)), none, 0, []⟩, ⟨(some 179), (.nilc (.t 178)), none, 1, []⟩, ⟨(some 180), (.fadd 0 (.t 179)), none, 2, []⟩, ⟨(some 181), (.load false 1 (.t 180)), none, 3, []⟩, ⟨(some 182), (.mv (.t 25)), none, 4, []⟩, ⟨(some 183), (.isl 19 (.t 181) (.t 182)), none, 5, []⟩, ⟨(some 184), (.fadd 13 (.t 183)), none, 6, []⟩, ⟨(some 185), (.load false 1 (.t 184)), none, 7, []⟩, ⟨(some 186), (.bin .neq (.t 185) (.c (.i .i64 1))), none, 8, []⟩])
  (.cond (.t 186) (.exit 7) .skip))
  (.seq (.region [⟨(some 187), (.mv (.t 0)), none, 0, []⟩, ⟨(some 188), (.nilc (.t 187)), none, 1, []⟩, ⟨(some 189), (.fadd 0 (.t 188)), none, 2, []⟩, ⟨(some 190), (.load false 1 (.t 189)), none, 3, []⟩, ⟨(some 191), (.mv (.t 25)), none, 4, []⟩, ⟨(some 192), (.isl 19 (.t 190) (.t 191)), none, 5, []⟩, ⟨(some 193), (.fadd 16 (.t 192)), none, 6, []⟩, ⟨(some 194), (.load false 1 (.t 193)), none, 7, []⟩, ⟨(some 195), (.bin .add (.t 194) (.c (.i .i64 1))), none, 8, []⟩, ⟨(some 196), (.isl 19 (.t 190) (.t 191)), none, 9, []⟩, ⟨(some 197), (.fadd 16 (.t 196)), none, 10, []⟩, ⟨none, (.store 1 (.t 197) (.t 195)), none, 11, []⟩])
  (.seq (.region [⟨(some 198), (.mv (.t 0)), none, 0, []⟩, ⟨(some 199), (.nilc (.t 198)), none, 1, []⟩, ⟨(some 200), (.fadd 0 (.t 199)), none, 2, []⟩, ⟨(some 201), (.load false 1 (.t 200)), none, 3, []⟩, ⟨(some 202), (.mv (.t 25)), none, 4, []⟩, ⟨(some 203), (.isl 19 (.t 201) (.t 202)), none, 5, []⟩, ⟨(some 204), (.fadd 16 (.t 203)), none, 6, []⟩, ⟨(some 205), (.load false 1 (.t 204)), none, 7, []⟩, ⟨(some 206), (.bin .geq (.t 205) (.c (.i .i64 3))), none, 8, []⟩])
  (.cond (.t 206) (.seq (.region [⟨(some 207), (.mv (.t 0)), none, 0, []⟩, ⟨(some 208), (.nilc (.t 207)), none, 1, []⟩, ⟨(some 209), (.fadd 0 (.t 208)), none, 2, []⟩, ⟨(some 210), (.load false 1 (.t 209)), none, 3, []⟩, ⟨(some 211), (.mv (.t 25)), none, 4, []⟩, ⟨(some 212), (.isl 19 (.t 210) (.t 211)), none, 5, []⟩, ⟨(some 213), (.fadd 13 (.t 212)), none, 6, []⟩, ⟨none, (.store 1 (.t 213) (.c (.i .i64 2))), none, 7, []⟩])
  (.region [⟨(some 24), (.mv (.c (.b true))), none, 0, []⟩])) .skip)))))
  (.region [⟨(some 176), (.mv (.t 25)), none, 0, []⟩, ⟨(some 177), (.bin .add (.t 176) (.c (.i .i64 1))), none, 1, []⟩, ⟨(some 25), (.mv (.t 177)), none, 2, []⟩]))))))
  (.seq (.region [⟨(some 214), (.mv (.t 15)), none, 0, []⟩, ⟨(some 215), (.mv (.t 16)), none, 1, []⟩, ⟨(some 216), (.mv (.t 24)), none, 2, []⟩, ⟨(some 217), (.mv (.t 13)), none, 3, []⟩, ⟨(some 218), (.bin .gtr (.t 217) (.c (.i .i64 0))), none, 4, []⟩, ⟨(some 8), (.mv (.t 214)), none, 5, []⟩, ⟨(some 9), (.mv (.t 215)), none, 6, []⟩, ⟨(some 10), (.mv (.t 216)), none, 7, []⟩, ⟨(some 11), (.mv (.t 218)), none, 8, []⟩, ⟨(some 12), (.mv (.c (.b true))), none, 9, []⟩])
  .ret))))))))))))
def x50 : XFun := ⟨x50b, [(.t 8), (.t 9), (.t 10), (.t 11), (.t 12)]⟩
theorem x50_ok : compF Try.prog 50 = some x50 := by kernel_rfl
/-- (*bollard/bollardref15.Queue).Timeout (33) -/
def x51b : XC := (.seq (.region [⟨(some 2), (.mv (.c (.i .i64 0))), none, 0, []⟩])
  (.seq (.region [⟨(some 3), (.mv (.c (.i .i64 0))), none, 0, []⟩])
  (.seq (.seq (.region [⟨(some 4), (.mv (.c (.i .i64 0))), none, 0, []⟩])
  (.block 0 (.loop (.seq (.seq (.region [⟨(some 5), (.mv (.t 4)), none, 0, []⟩, ⟨(some 6), (.mv (.t 0)), none, 1, []⟩, ⟨(some 7), (.nilc (.t 6)), none, 2, []⟩, ⟨(some 8), (.fadd 0 (.t 7)), none, 3, []⟩, ⟨(some 9), (.load false 1 (.t 8)), none, 4, []⟩, ⟨(some 10), (.lenx (.t 9)), none, 5, []⟩, ⟨(some 11), (.bin .lss (.t 5) (.t 10)), none, 6, []⟩])
  (.cond (.t 11) .skip (.exit 0)))
  (.seq (.block 1 (.seq (.region [⟨(some 14), (.mv (.t 0)), none, 0, []⟩, ⟨(some 15), (.nilc (.t 14)), none, 1, []⟩, ⟨(some 16), (.fadd 0 (.t 15)), none, 2, []⟩, ⟨(some 17), (.load false 1 (.t 16)), none, 3, []⟩, ⟨(some 18), (.mv (.t 4)), none, 4, []⟩, ⟨(some 19), (.isl 19 (.t 17) (.t 18)), none, 5, []⟩, ⟨(some 20), (.fadd 13 (.t 19)), none, 6, []⟩, ⟨(some 21), (.load false 1 (.t 20)), none, 7, []⟩, ⟨(some 22), (.bin .eql (.t 21) (.c (.i .i64 1))), none, 8, []⟩])
  (.cond (.t 22) (.seq (.region [⟨(some 23), (.mv (.t 0)), none, 0, []⟩, ⟨(some 24), (.nilc (.t 23)), none, 1, []⟩, ⟨(some 25), (.fadd 0 (.t 24)), none, 2, []⟩, ⟨(some 26), (.load false 1 (.t 25)), none, 3, []⟩, ⟨(some 27), (.mv (.t 4)), none, 4, []⟩, ⟨(some 28), (.isl 19 (.t 26) (.t 27)), none, 5, []⟩, ⟨(some 29), (.fadd 13 (.t 28)), none, 6, []⟩, ⟨none, (.store 1 (.t 29) (.c (.i .i64 2))), none, 7, []⟩])
  (.region [⟨(some 30), (.mv (.t 3)), none, 0, []⟩, ⟨(some 31), (.bin .add (.t 30) (.c (.i .i64 1))), none, 1, []⟩, ⟨(some 3), (.mv (.t 31)), none, 2, []⟩])) .skip)))
  (.region [⟨(some 12), (.mv (.t 4)), none, 0, []⟩, ⟨(some 13), (.bin .add (.t 12) (.c (.i .i64 1))), none, 1, []⟩, ⟨(some 4), (.mv (.t 13)), none, 2, []⟩]))))))
  (.seq (.region [⟨(some 32), (.mv (.t 3)), none, 0, []⟩, ⟨(some 2), (.mv (.t 32)), none, 1, []⟩])
  .ret))))
def x51 : XFun := ⟨x51b, [(.t 2)]⟩
theorem x51_ok : compF Try.prog 51 = some x51 := by kernel_rfl
/-- (*bollard/bollardref15.Queue).Expire (67) -/
def x52b : XC := (.seq (.region [⟨(some 4), (.mv (.c (.i .i64 0))), none, 0, []⟩])
  (.seq (.region [⟨(some 5), (.mv (.c (.i .i64 0))), none, 0, []⟩])
  (.seq (.seq (.region [⟨(some 6), (.mv (.c (.i .i64 0))), none, 0, []⟩])
  (.block 0 (.loop (.seq (.seq (.region [⟨(some 9), (.mv (.t 6)), none, 0, []⟩, ⟨(some 10), (.mv (.t 0)), none, 1, []⟩, ⟨(some 11), (.nilc (.t 10)), none, 2, []⟩, ⟨(some 12), (.fadd 0 (.t 11)), none, 3, []⟩, ⟨(some 13), (.load false 1 (.t 12)), none, 4, []⟩, ⟨(some 14), (.lenx (.t 13)), none, 5, []⟩, ⟨(some 15), (.bin .lss (.t 9) (.t 14)), none, 6, []⟩])
  (.cond (.t 15) .skip (.exit 0)))
  (.seq (.block 1 (.seq (.seq (.region [⟨(some 18), (.mv (.t 0)), none, 0, []⟩, ⟨(some 19), (.mv (.t 0)), none, 1, []⟩, ⟨(some 20), (.nilc (.t 19)), none, 2, []⟩, ⟨(some 21), (.fadd 0 (.t 20)), none, 3, []⟩, ⟨(some 22), (.load false 1 (.t 21)), none, 4, []⟩, ⟨(some 23), (.mv (.t 6)), none, 5, []⟩, ⟨(some 24), (.isl 19 (.t 22) (.t 23)), none, 6, []⟩, ⟨(some 25), (.fadd 12 (.t 24)), none, 7, []⟩, ⟨(some 26), (.load false 1 (.t 25)), none, 8, []⟩, ⟨(some 27), (.mv (.t 1)), none, 9, []⟩, ⟨(some 28), (.call (.c (.fn (.func 71) [] [])) [(.t 18), (.t 26), (.t 27)]), none, 10, []⟩, ⟨(some 29), (.unx .not (.t 28)), none, 11, []⟩])
  (.cond (.t 29) (.exit 1) .skip))
  (.seq (.region [⟨(some 30), (.mv (.t 5)), none, 0, []⟩, ⟨(some 31), (.bin .add (.t 30) (.c (.i .i64 1))), none, 1, []⟩, ⟨(some 5), (.mv (.t 31)), none, 2, []⟩])
  (.seq (.region [⟨(some 32), (.mv (.t 0)), none, 0, []⟩, ⟨(some 33), (.nilc (.t 32)), none, 1, []⟩, ⟨(some 34), (.fadd 0 (.t 33)), none, 2, []⟩, ⟨(some 35), (.load false 1 (.t 34)), none, 3, []⟩, ⟨(some 36), (.mv (.t 6)), none, 4, []⟩, ⟨(some 37), (.isl 19 (.t 35) (.t 36)), none, 5, []⟩, ⟨(some 38), (.fadd 12 (.t 37)), none, 6, []⟩, ⟨(some 39), (.load false 1 (.t 38)), none, 7, []⟩, ⟨(some 7), (.mv (.t 39)), none, 8, []⟩])
  (.seq (.region [⟨(some 8), (.mv (.c (.i .i64 0))), none, 0, []⟩])
  (.block 2 (.loop (.seq (.seq (.region [⟨(some 40), (.mv (.t 8)), none, 0, []⟩, ⟨(some 41), (.mv (.t 0)), none, 1, []⟩, ⟨(some 42), (.nilc (.t 41)), none, 2, []⟩, ⟨(some 43), (.fadd 0 (.t 42)), none, 3, []⟩, ⟨(some 44), (.load false 1 (.t 43)), none, 4, []⟩, ⟨(some 45), (.lenx (.t 44)), none, 5, []⟩, ⟨(some 46), (.bin .lss (.t 40) (.t 45)), none, 6, []⟩])
  (.cond (.t 46) .skip (.exit 2)))
  (.seq (.block 3 (.seq (.region [⟨(some 49), (.mv (.t 0)), none, 0, []⟩, ⟨(some 50), (.nilc (.t 49)), none, 1, []⟩, ⟨(some 51), (.fadd 0 (.t 50)), none, 2, []⟩, ⟨(some 52), (.load false 1 (.t 51)), none, 3, []⟩, ⟨(some 53), (.mv (.t 8)), none, 4, []⟩, ⟨(some 54), (.isl 19 (.t 52) (.t 53)), none, 5, []⟩, ⟨(some 55), (.fadd 12 (.t 54)), none, 6, []⟩, ⟨(some 56), (.load false 1 (.t 55)), none, 7, []⟩, ⟨(some 57), (.mv (.t 7)), none, 8, []⟩, ⟨(some 58), (.bin .eql (.t 56) (.t 57)), none, 9, []⟩])
  (.cond (.t 58) (.region [⟨(some 59), (.mv (.t 0)), none, 0, []⟩, ⟨(some 60), (.nilc (.t 59)), none, 1, []⟩, ⟨(some 61), (.fadd 0 (.t 60)), none, 2, []⟩, ⟨(some 62), (.load false 1 (.t 61)), none, 3, []⟩, ⟨(some 63), (.mv (.t 8)), none, 4, []⟩, ⟨(some 64), (.isl 19 (.t 62) (.t 63)), none, 5, []⟩, ⟨(some 65), (.fadd 13 (.t 64)), none, 6, []⟩, ⟨none, (.store 1 (.t 65) (.c (.i .i64 4))), none, 7, []⟩]) .skip)))
  (.region [⟨(some 47), (.mv (.t 8)), none, 0, []⟩, ⟨(some 48), (.bin .add (.t 47) (.c (.i .i64 1))), none, 1, []⟩, ⟨(some 8), (.mv (.t 48)), none, 2, []⟩]))))))))))
  (.region [⟨(some 16), (.mv (.t 6)), none, 0, []⟩, ⟨(some 17), (.bin .add (.t 16) (.c (.i .i64 1))), none, 1, []⟩, ⟨(some 6), (.mv (.t 17)), none, 2, []⟩]))))))
  (.seq (.region [⟨(some 66), (.mv (.t 5)), none, 0, []⟩, ⟨(some 4), (.mv (.t 66)), none, 1, []⟩])
  .ret))))
def x52 : XFun := ⟨x52b, [(.t 4)]⟩
theorem x52_ok : compF Try.prog 52 = some x52 := by kernel_rfl
/-- (*bollard/bollardref15.Queue).Forward (116) -/
def x53b : XC := (.seq (.region [⟨(some 2), (.mv (.c (.i .u32 0))), none, 0, []⟩, ⟨(some 3), (.mv (.c (.sl none 0 0 0))), none, 1, []⟩, ⟨(some 4), (.mv (.c (.b false))), none, 2, []⟩])
  (.seq (.region [⟨(some 5), (.mv (.c (.i .i64 (-1)))), none, 0, []⟩])
  (.seq (.seq (.region [⟨(some 6), (.mv (.c (.i .i64 0))), none, 0, []⟩])
  (.block 0 (.loop (.seq (.seq (.region [⟨(some 11), (.mv (.t 6)), none, 0, []⟩, ⟨(some 12), (.mv (.t 0)), none, 1, []⟩, ⟨(some 13), (.nilc (.t 12)), none, 2, []⟩, ⟨(some 14), (.fadd 0 (.t 13)), none, 3, []⟩, ⟨(some 15), (.load false 1 (.t 14)), none, 4, []⟩, ⟨(some 16), (.lenx (.t 15)), none, 5, []⟩, ⟨(some 17), (.bin .lss (.t 11) (.t 16)), none, 6, []⟩, ⟨(some 18), (.mv (.t 17)), none, 7, []⟩, ⟨(some 19), (.mv (.t 0)), (some (18, true)), 8, []⟩, ⟨(some 20), (.nilc (.t 19)), (some (18, true)), 9, []⟩, ⟨(some 21), (.fadd 0 (.t 20)), (some (18, true)), 10, []⟩, ⟨(some 22), (.load false 1 (.t 21)), (some (18, true)), 11, []⟩, ⟨(some 23), (.mv (.t 6)), (some (18, true)), 12, []⟩, ⟨(some 24), (.isl 19 (.t 22) (.t 23)), (some (18, true)), 13, []⟩, ⟨(some 25), (.fadd 13 (.t 24)), (some (18, true)), 14, []⟩, ⟨(some 26), (.load false 1 (.t 25)), (some (18, true)), 15, []⟩, ⟨(some 27), (.bin .geq (.t 26) (.c (.i .i64 3))), (some (18, true)), 16, []⟩, ⟨(some 28), (.pick (.t 18) (.t 27) (.c (.b false))), none, 17, []⟩])
  (.cond (.t 28) .skip (.exit 0)))
  (.seq (.block 1 (.seq (.region [⟨(some 31), (.mv (.t 0)), none, 0, []⟩, ⟨(some 32), (.nilc (.t 31)), none, 1, []⟩, ⟨(some 33), (.fadd 0 (.t 32)), none, 2, []⟩, ⟨(some 34), (.load false 1 (.t 33)), none, 3, []⟩, ⟨(some 35), (.mv (.t 6)), none, 4, []⟩, ⟨(some 36), (.isl 19 (.t 34) (.t 35)), none, 5, []⟩, ⟨(some 37), (.fadd 13 (.t 36)), none, 6, []⟩, ⟨(some 38), (.load false 1 (.t 37)), none, 7, []⟩, ⟨(some 39), (.bin .eql (.t 38) (.c (.i .i64 4))), none, 8, []⟩])
  (.cond (.t 39) (.region [⟨(some 40), (.mv (.t 6)), none, 0, []⟩, ⟨(some 5), (.mv (.t 40)), none, 1, []⟩]) .skip)))
  (.region [⟨(some 29), (.mv (.t 6)), none, 0, []⟩, ⟨(some 30), (.bin .add (.t 29) (.c (.i .i64 1))), none, 1, []⟩, ⟨(some 6), (.mv (.t 30)), none, 2, []⟩]))))))
  (.seq (.seq (.region [⟨(some 41), (.mv (.t 5)), none, 0, []⟩, ⟨(some 42), (.bin .lss (.t 41) (.c (.i .i64 0))), none, 1, []⟩])
  (.cond (.t 42) (.seq (.region [⟨(some 43), (.mv (.t 0)), none, 0, []⟩, ⟨(some 44), (.call (.c (.fn (.func 56) [] [])) [(.t 43)]), none, 1, []⟩, ⟨(some 2), (.mv (.t 44)), none, 2, []⟩, ⟨(some 3), (.mv (.c (.sl none 0 0 0))), none, 3, []⟩, ⟨(some 4), (.mv (.c (.b false))), none, 4, []⟩])
  .ret) .skip))
  (.seq (.region [⟨(some 7), (.mv (.c (.sl none 0 0 0))), none, 0, []⟩])
  (.seq (.seq (.region [⟨(some 8), (.mv (.c (.i .i64 0))), none, 0, []⟩])
  (.block 2 (.loop (.seq (.seq (.region [⟨(some 45), (.mv (.t 8)), none, 0, []⟩, ⟨(some 46), (.mv (.t 5)), none, 1, []⟩, ⟨(some 47), (.bin .leq (.t 45) (.t 46)), none, 2, []⟩])
  (.cond (.t 47) .skip (.exit 2)))
  (.seq (.block 3 (.seq (.region [⟨(some 50), (.mv (.t 0)), none, 0, []⟩, ⟨(some 51), (.nilc (.t 50)), none, 1, []⟩, ⟨(some 52), (.fadd 0 (.t 51)), none, 2, []⟩, ⟨(some 53), (.load false 1 (.t 52)), none, 3, []⟩, ⟨(some 54), (.mv (.t 8)), none, 4, []⟩, ⟨(some 55), (.isl 19 (.t 53) (.t 54)), none, 5, []⟩, ⟨(some 56), (.fadd 0 (.t 55)), none, 6, []⟩, ⟨(some 57), (.load true 12 (.t 56)), none, 7, []⟩, ⟨(some 9), (.alloc [(.i .u8 0), (.i .u8 0), (.i .u32 0), (.i .u32 0), (.i .u16 0), (.i .u16 0), (.i .u32 0), (.sl none 0 0 0), (.sl none 0 0 0), (.sl none 0 0 0), (.sl none 0 0 0), (.sl none 0 0 0)]), none, 8, []⟩, ⟨none, (.store 12 (.t 9) (.t 57)), none, 9, []⟩])
  (.seq (.seq (.region [⟨(some 58), (.mv (.t 0)), none, 0, []⟩, ⟨(some 59), (.nilc (.t 58)), none, 1, []⟩, ⟨(some 60), (.fadd 0 (.t 59)), none, 2, []⟩, ⟨(some 61), (.load false 1 (.t 60)), none, 3, []⟩, ⟨(some 62), (.mv (.t 8)), none, 4, []⟩, ⟨(some 63), (.isl 19 (.t 61) (.t 62)), none, 5, []⟩, ⟨(some 64), (.fadd 13 (.t 63)), none, 6, []⟩, ⟨(some 65), (.load false 1 (.t 64)), none, 7, []⟩, ⟨(some 66), (.bin .neq (.t 65) (.c (.i .i64 4))), none, 8, []⟩, ⟨(some 67), (.mv (.t 66)), none, 9, []⟩, ⟨(some 68), (.fadd 1 (.t 9)), (some (67, false)), 10, []⟩, ⟨(some 69), (.load false 1 (.t 68)), (some (67, false)), 11, []⟩, ⟨(some 70), (.bin .quo (.t 69) (.c (.i .u8 4))), (some (67, false)), 12, []⟩, ⟨(some 71), (.bin .rem (.t 70) (.c (.i .u8 2))), (some (67, false)), 13, []⟩, ⟨(some 72), (.bin .eql (.t 71) (.c (.i .u8 1))), (some (67, false)), 14, []⟩, ⟨(some 73), (.pick (.t 67) (.c (.b true)) (.t 72)), none, 15, []⟩])
  (.cond (.t 73) (.exit 3) .skip))
  (.seq (.region [⟨(some 10), (.mv (.c (.i .i64 0))), none, 0, []⟩])
  (.seq (.block 4 (.loop (.seq (.seq (.draw [⟨(some 74), (.mv (.t 10)), none, 0, []⟩, ⟨(some 75), (.mv (.t 7)), none, 1, []⟩, ⟨(some 76), (.lenx (.t 75)), none, 2, [1]⟩, ⟨(some 77), (.bin .lss (.t 74) (.t 76)), none, 3, [0, 1, 2]⟩, ⟨(some 78), (.mv (.t 77)), none, 4, [0, 1, 2, 3]⟩, ⟨(some 79), (.mv (.t 7)), (some (78, true)), 5, [0, 1, 2, 3, 4]⟩, ⟨(some 80), (.mv (.t 10)), (some (78, true)), 6, [0, 1, 2, 3, 4]⟩, ⟨(some 81), (.isl 2 (.t 79) (.t 80)), (some (78, true)), 7, [0, 1, 2, 3, 4, 5, 6]⟩, ⟨(some 82), (.fadd 0 (.t 81)), (some (78, true)), 8, [0, 1, 2, 3, 4, 5, 6, 7]⟩, ⟨(some 84), (.fadd 4 (.t 9)), (some (78, true)), 10, [0, 1, 2, 3, 4]⟩, ⟨(some 83), (.load false 1 (.t 82)), (some (78, true)), 9, [0, 1, 2, 3, 4, 5, 6, 7, 8]⟩, ⟨(some 85), (.load false 1 (.t 84)), (some (78, true)), 11, [0, 1, 2, 3, 4, 10]⟩, ⟨(some 86), (.bin .neq (.t 83) (.t 85)), (some (78, true)), 12, [0, 1, 2, 3, 4, 5, 6, 7, 8, 9, 10, 11]⟩, ⟨(some 87), (.pick (.t 78) (.t 86) (.c (.b false))), none, 13, [0, 1, 2, 3, 4, 5, 6, 7, 8, 9, 10, 11, 12]⟩])
  (.cond (.t 87) .skip (.exit 4)))
  (.block 5 (.region [⟨(some 88), (.mv (.t 10)), none, 0, []⟩, ⟨(some 89), (.bin .add (.t 88) (.c (.i .i64 1))), none, 1, []⟩, ⟨(some 10), (.mv (.t 89)), none, 2, []⟩])))))
  (.seq (.seq (.region [⟨(some 90), (.mv (.t 10)), none, 0, []⟩, ⟨(some 91), (.mv (.t 7)), none, 1, []⟩, ⟨(some 92), (.lenx (.t 91)), none, 2, []⟩, ⟨(some 93), (.bin .eql (.t 90) (.t 92)), none, 3, []⟩])
  (.cond (.t 93) (.region [⟨(some 94), (.mv (.t 7)), none, 0, []⟩, ⟨(some 95), (.fadd 4 (.t 9)), none, 1, []⟩, ⟨(some 96), (.load false 1 (.t 95)), none, 2, []⟩, ⟨(some 97), (.build [(.i .u16 0), (.i .u16 0)] [(0, 1, (.t 96))]), none, 3, []⟩, ⟨(some 98), (.bslice [(.i .u16 0), (.i .u16 0)] [(0, 2, (.t 97))] 1), none, 4, []⟩, ⟨(some 99), (.append 2 4 (.t 94) (.t 98)), none, 5, []⟩, ⟨(some 7), (.mv (.t 99)), none, 6, []⟩]) .skip))
  (.region [⟨(some 100), (.mv (.t 7)), none, 0, []⟩, ⟨(some 101), (.mv (.t 10)), none, 1, []⟩, ⟨(some 102), (.fadd 5 (.t 9)), none, 2, []⟩, ⟨(some 103), (.load false 1 (.t 102)), none, 3, []⟩, ⟨(some 104), (.isl 2 (.t 100) (.t 101)), none, 4, []⟩, ⟨(some 105), (.fadd 1 (.t 104)), none, 5, []⟩, ⟨none, (.store 1 (.t 105) (.t 103)), none, 6, []⟩])))))))
  (.region [⟨(some 48), (.mv (.t 8)), none, 0, []⟩, ⟨(some 49), (.bin .add (.t 48) (.c (.i .i64 1))), none, 1, []⟩, ⟨(some 8), (.mv (.t 49)), none, 2, []⟩]))))))
  (.seq (.region [⟨(some 106), (.mv (.t 0)), none, 0, []⟩, ⟨(some 107), (.nilc (.t 106)), none, 1, []⟩, ⟨(some 108), (.fadd 0 (.t 107)), none, 2, []⟩, ⟨(some 109), (.load false 1 (.t 108)), none, 3, []⟩, ⟨(some 110), (.mv (.t 5)), none, 4, []⟩, ⟨(some 111), (.isl 19 (.t 109) (.t 110)), none, 5, []⟩, ⟨(some 112), (.fadd 0 (.t 111)), none, 6, []⟩, ⟨(some 113), (.fadd 2 (.t 112)), none, 7, []⟩, ⟨(some 114), (.load false 1 (.t 113)), none, 8, []⟩, ⟨(some 115), (.mv (.t 7)), none, 9, []⟩, ⟨(some 2), (.mv (.t 114)), none, 10, []⟩, ⟨(some 3), (.mv (.t 115)), none, 11, []⟩, ⟨(some 4), (.mv (.c (.b true))), none, 12, []⟩])
  .ret)))))))
def x53 : XFun := ⟨x53b, [(.t 2), (.t 3), (.t 4)]⟩
theorem x53_ok : compF Try.prog 53 = some x53 := by kernel_rfl
/-- (*bollard/bollardref15.Queue).State (35) -/
def x54b : XC := (.seq (.region [⟨(some 4), (.mv (.c (.i .i64 0))), none, 0, []⟩, ⟨(some 5), (.mv (.c (.b false))), none, 1, []⟩])
  (.seq (.seq (.region [⟨(some 6), (.mv (.c (.i .i64 0))), none, 0, []⟩])
  (.block 0 (.loop (.seq (.seq (.region [⟨(some 7), (.mv (.t 6)), none, 0, []⟩, ⟨(some 8), (.mv (.t 0)), none, 1, []⟩, ⟨(some 9), (.nilc (.t 8)), none, 2, []⟩, ⟨(some 10), (.fadd 0 (.t 9)), none, 3, []⟩, ⟨(some 11), (.load false 1 (.t 10)), none, 4, []⟩, ⟨(some 12), (.lenx (.t 11)), none, 5, []⟩, ⟨(some 13), (.bin .lss (.t 7) (.t 12)), none, 6, []⟩])
  (.cond (.t 13) .skip (.exit 0)))
  (.seq (.block 1 (.seq (.region [⟨(some 16), (.mv (.t 0)), none, 0, []⟩, ⟨(some 17), (.nilc (.t 16)), none, 1, []⟩, ⟨(some 18), (.fadd 0 (.t 17)), none, 2, []⟩, ⟨(some 19), (.load false 1 (.t 18)), none, 3, []⟩, ⟨(some 20), (.mv (.t 6)), none, 4, []⟩, ⟨(some 21), (.isl 19 (.t 19) (.t 20)), none, 5, []⟩, ⟨(some 22), (.fadd 0 (.t 21)), none, 6, []⟩, ⟨(some 23), (.fadd 2 (.t 22)), none, 7, []⟩, ⟨(some 24), (.load false 1 (.t 23)), none, 8, []⟩, ⟨(some 25), (.mv (.t 1)), none, 9, []⟩, ⟨(some 26), (.bin .eql (.t 24) (.t 25)), none, 10, []⟩])
  (.cond (.t 26) (.seq (.region [⟨(some 27), (.mv (.t 0)), none, 0, []⟩, ⟨(some 28), (.nilc (.t 27)), none, 1, []⟩, ⟨(some 29), (.fadd 0 (.t 28)), none, 2, []⟩, ⟨(some 30), (.load false 1 (.t 29)), none, 3, []⟩, ⟨(some 31), (.mv (.t 6)), none, 4, []⟩, ⟨(some 32), (.isl 19 (.t 30) (.t 31)), none, 5, []⟩, ⟨(some 33), (.fadd 13 (.t 32)), none, 6, []⟩, ⟨(some 34), (.load false 1 (.t 33)), none, 7, []⟩, ⟨(some 4), (.mv (.t 34)), none, 8, []⟩, ⟨(some 5), (.mv (.c (.b true))), none, 9, []⟩])
  .ret) .skip)))
  (.region [⟨(some 14), (.mv (.t 6)), none, 0, []⟩, ⟨(some 15), (.bin .add (.t 14) (.c (.i .i64 1))), none, 1, []⟩, ⟨(some 6), (.mv (.t 15)), none, 2, []⟩]))))))
  (.seq (.region [⟨(some 4), (.mv (.c (.i .i64 0))), none, 0, []⟩, ⟨(some 5), (.mv (.c (.b false))), none, 1, []⟩])
  .ret)))
def x54 : XFun := ⟨x54b, [(.t 4), (.t 5)]⟩
theorem x54_ok : compF Try.prog 54 = some x54 := by kernel_rfl
/-- bollard/bollardlaw15.sameSkips (41) -/
def x55b : XC := (.seq (.region [⟨(some 4), (.mv (.c (.b false))), none, 0, []⟩])
  (.seq (.seq (.region [⟨(some 6), (.mv (.t 0)), none, 0, []⟩, ⟨(some 7), (.lenx (.t 6)), none, 1, []⟩, ⟨(some 8), (.mv (.t 1)), none, 2, []⟩, ⟨(some 9), (.lenx (.t 8)), none, 3, []⟩, ⟨(some 10), (.bin .neq (.t 7) (.t 9)), none, 4, []⟩])
  (.cond (.t 10) (.seq (.region [⟨(some 4), (.mv (.c (.b false))), none, 0, []⟩])
  .ret) .skip))
  (.seq (.seq (.region [⟨(some 5), (.mv (.c (.i .i64 0))), none, 0, []⟩])
  (.block 0 (.loop (.seq (.seq (.region [⟨(some 11), (.mv (.t 5)), none, 0, []⟩, ⟨(some 12), (.mv (.t 0)), none, 1, []⟩, ⟨(some 13), (.lenx (.t 12)), none, 2, []⟩, ⟨(some 14), (.bin .lss (.t 11) (.t 13)), none, 3, []⟩])
  (.cond (.t 14) .skip (.exit 0)))
  (.seq (.block 1 (.seq (.draw [⟨(some 17), (.mv (.t 0)), none, 0, []⟩, ⟨(some 18), (.mv (.t 5)), none, 1, []⟩, ⟨(some 19), (.isl 2 (.t 17) (.t 18)), none, 2, [0, 1]⟩, ⟨(some 20), (.fadd 0 (.t 19)), none, 3, [0, 1, 2]⟩, ⟨(some 22), (.mv (.t 1)), none, 5, []⟩, ⟨(some 23), (.mv (.t 5)), none, 6, []⟩, ⟨(some 24), (.isl 2 (.t 22) (.t 23)), none, 7, [5, 6]⟩, ⟨(some 25), (.fadd 0 (.t 24)), none, 8, [5, 6, 7]⟩, ⟨(some 21), (.load false 1 (.t 20)), none, 4, [0, 1, 2, 3]⟩, ⟨(some 26), (.load false 1 (.t 25)), none, 9, [5, 6, 7, 8]⟩, ⟨(some 27), (.bin .neq (.t 21) (.t 26)), none, 10, [0, 1, 2, 3, 4, 5, 6, 7, 8, 9]⟩, ⟨(some 28), (.mv (.t 27)), none, 11, [0, 1, 2, 3, 4, 5, 6, 7, 8, 9, 10]⟩, ⟨(some 29), (.mv (.t 0)), (some (28, false)), 12, [0, 1, 2, 3, 4, 5, 6, 7, 8, 9, 10, 11]⟩, ⟨(some 30), (.mv (.t 5)), (some (28, false)), 13, [0, 1, 2, 3, 4, 5, 6, 7, 8, 9, 10, 11]⟩, ⟨(some 31), (.isl 2 (.t 29) (.t 30)), (some (28, false)), 14, [0, 1, 2, 3, 4, 5, 6, 7, 8, 9, 10, 11, 12, 13]⟩, ⟨(some 32), (.fadd 1 (.t 31)), (some (28, false)), 15, [0, 1, 2, 3, 4, 5, 6, 7, 8, 9, 10, 11, 12, 13, 14]⟩, ⟨(some 34), (.mv (.t 1)), (some (28, false)), 17, [0, 1, 2, 3, 4, 5, 6, 7, 8, 9, 10, 11]⟩, ⟨(some 35), (.mv (.t 5)), (some (28, false)), 18, [0, 1, 2, 3, 4, 5, 6, 7, 8, 9, 10, 11]⟩, ⟨(some 36), (.isl 2 (.t 34) (.t 35)), (some (28, false)), 19, [0, 1, 2, 3, 4, 5, 6, 7, 8, 9, 10, 11, 17, 18]⟩, ⟨(some 37), (.fadd 1 (.t 36)), (some (28, false)), 20, [0, 1, 2, 3, 4, 5, 6, 7, 8, 9, 10, 11, 17, 18, 19]⟩, ⟨(some 33), (.load false 1 (.t 32)), (some (28, false)), 16, [0, 1, 2, 3, 4, 5, 6, 7, 8, 9, 10, 11, 12, 13, 14, 15]⟩, ⟨(some 38), (.load false 1 (.t 37)), (some (28, false)), 21, [0, 1, 2, 3, 4, 5, 6, 7, 8, 9, 10, 11, 17, 18, 19, 20]⟩, ⟨(some 39), (.bin .neq (.t 33) (.t 38)), (some (28, false)), 22, [0, 1, 2, 3, 4, 5, 6, 7, 8, 9, 10, 11, 12, 13, 14, 15, 16, 17, 18, 19, 20, 21]⟩, ⟨(some 40), (.pick (.t 28) (.c (.b true)) (.t 39)), none, 23, [0, 1, 2, 3, 4, 5, 6, 7, 8, 9, 10, 11, 12, 13, 14, 15, 16, 17, 18, 19, 20, 21, 22]⟩])
  (.cond (.t 40) (.seq (.region [⟨(some 4), (.mv (.c (.b false))), none, 0, []⟩])
  .ret) .skip)))
  (.region [⟨(some 15), (.mv (.t 5)), none, 0, []⟩, ⟨(some 16), (.bin .add (.t 15) (.c (.i .i64 1))), none, 1, []⟩, ⟨(some 5), (.mv (.t 16)), none, 2, []⟩]))))))
  (.seq (.region [⟨(some 4), (.mv (.c (.b true))), none, 0, []⟩])
  .ret))))
def x55 : XFun := ⟨x55b, [(.t 4)]⟩
theorem x55_ok : compF Try.prog 55 = some x55 := by kernel_rfl
/-- (*bollard/bollardref15.Queue).Floor (15) -/
def x56b : XC := (.seq (.region [⟨(some 2), (.mv (.c (.i .u32 0))), none, 0, []⟩])
  (.seq (.draw [⟨(some 3), (.mv (.t 0)), none, 0, []⟩, ⟨(some 4), (.nilc (.t 3)), none, 1, [0]⟩, ⟨(some 5), (.fadd 1 (.t 4)), none, 2, [0, 1]⟩, ⟨(some 7), (.mv (.t 0)), none, 4, []⟩, ⟨(some 8), (.nilc (.t 7)), none, 5, [4]⟩, ⟨(some 9), (.fadd 0 (.t 8)), none, 6, [4, 5]⟩, ⟨(some 6), (.load false 1 (.t 5)), none, 3, [0, 1, 2]⟩, ⟨(some 10), (.load false 1 (.t 9)), none, 7, [4, 5, 6]⟩, ⟨(some 11), (.lenx (.t 10)), none, 8, [4, 5, 6, 7]⟩, ⟨(some 12), (.cint .u32 (.t 11)), none, 9, [4, 5, 6, 7, 8]⟩, ⟨(some 13), (.bin .sub (.t 6) (.t 12)), none, 10, [0, 1, 2, 3, 4, 5, 6, 7, 8, 9]⟩, ⟨(some 14), (.bin .sub (.t 13) (.c (.i .u32 1))), none, 11, [0, 1, 2, 3, 4, 5, 6, 7, 8, 9, 10]⟩, ⟨(some 2), (.mv (.t 14)), none, 12, [0, 1, 2, 3, 4, 5, 6, 7, 8, 9, 10, 11]⟩])
  .ret))
def x56 : XFun := ⟨x56b, [(.t 2)]⟩
theorem x56_ok : compF Try.prog 56 = some x56 := by kernel_rfl
/-- (*bollard/bollardref15.Queue).Octets (53) -/
def x57b : XC := (.seq (.region [⟨(some 6), (.mv (.c (.i .i64 0))), none, 0, []⟩])
  (.seq (.region [⟨(some 7), (.mv (.c (.i .i64 0))), none, 0, []⟩])
  (.seq (.seq (.region [⟨(some 8), (.mv (.c (.i .i64 0))), none, 0, []⟩])
  (.block 0 (.loop (.seq (.seq (.region [⟨(some 9), (.mv (.t 8)), none, 0, []⟩, ⟨(some 10), (.mv (.t 0)), none, 1, []⟩, ⟨(some 11), (.nilc (.t 10)), none, 2, []⟩, ⟨(some 12), (.fadd 0 (.t 11)), none, 3, []⟩, ⟨(some 13), (.load false 1 (.t 12)), none, 4, []⟩, ⟨(some 14), (.lenx (.t 13)), none, 5, []⟩, ⟨(some 15), (.bin .lss (.t 9) (.t 14)), none, 6, []⟩])
  (.cond (.t 15) .skip (.exit 0)))
  (.seq (.block 1 (.seq (.region [⟨(some 18), (.mv (.t 0)), none, 0, []⟩, ⟨(some 19), (.nilc (.t 18)), none, 1, []⟩, ⟨(some 20), (.fadd 0 (.t 19)), none, 2, []⟩, ⟨(some 21), (.load false 1 (.t 20)), none, 3, []⟩, ⟨(some 22), (.mv (.t 8)), none, 4, []⟩, ⟨(some 23), (.isl 19 (.t 21) (.t 22)), none, 5, []⟩, ⟨(some 24), (.fadd 13 (.t 23)), none, 6, []⟩, ⟨(some 25), (.load false 1 (.t 24)), none, 7, []⟩, ⟨(some 26), (.mv (.t 1)), none, 8, []⟩, ⟨(some 27), (.bin .eql (.t 25) (.t 26)), none, 9, []⟩, ⟨(some 28), (.mv (.t 27)), none, 10, []⟩, ⟨(some 29), (.mv (.t 0)), (some (28, false)), 11, []⟩, ⟨(some 30), (.nilc (.t 29)), (some (28, false)), 12, []⟩, ⟨(some 31), (.fadd 0 (.t 30)), (some (28, false)), 13, []⟩, ⟨(some 32), (.load false 1 (.t 31)), (some (28, false)), 14, []⟩, ⟨(some 33), (.mv (.t 8)), (some (28, false)), 15, []⟩, ⟨(some 34), (.isl 19 (.t 32) (.t 33)), (some (28, false)), 16, []⟩, ⟨(some 35), (.fadd 13 (.t 34)), (some (28, false)), 17, []⟩, ⟨(some 36), (.load false 1 (.t 35)), (some (28, false)), 18, []⟩, ⟨(some 37), (.mv (.t 2)), (some (28, false)), 19, []⟩, ⟨(some 38), (.bin .eql (.t 36) (.t 37)), (some (28, false)), 20, []⟩, ⟨(some 39), (.pick (.t 28) (.c (.b true)) (.t 38)), none, 21, []⟩])
  (.cond (.t 39) (.region [⟨(some 40), (.mv (.t 7)), none, 0, []⟩, ⟨(some 41), (.mv (.t 0)), none, 1, []⟩, ⟨(some 42), (.nilc (.t 41)), none, 2, []⟩, ⟨(some 43), (.fadd 0 (.t 42)), none, 3, []⟩, ⟨(some 44), (.load false 1 (.t 43)), none, 4, []⟩, ⟨(some 45), (.mv (.t 8)), none, 5, []⟩, ⟨(some 46), (.isl 19 (.t 44) (.t 45)), none, 6, []⟩, ⟨(some 47), (.fadd 0 (.t 46)), none, 7, []⟩, ⟨(some 48), (.fadd 11 (.t 47)), none, 8, []⟩, ⟨(some 49), (.load false 1 (.t 48)), none, 9, []⟩, ⟨(some 50), (.lenx (.t 49)), none, 10, []⟩, ⟨(some 51), (.bin .add (.t 40) (.t 50)), none, 11, []⟩, ⟨(some 7), (.mv (.t 51)), none, 12, []⟩]) .skip)))
  (.region [⟨(some 16), (.mv (.t 8)), none, 0, []⟩, ⟨(some 17), (.bin .add (.t 16) (.c (.i .i64 1))), none, 1, []⟩, ⟨(some 8), (.mv (.t 17)), none, 2, []⟩]))))))
  (.seq (.region [⟨(some 52), (.mv (.t 7)), none, 0, []⟩, ⟨(some 6), (.mv (.t 52)), none, 1, []⟩])
  .ret))))
def x57 : XFun := ⟨x57b, [(.t 6)]⟩
theorem x57_ok : compF Try.prog 57 = some x57 := by kernel_rfl
/-- slices.IndexFunc[[]bollard/api.Chunk,bollard/api.Chunk] (19) -/
def x58b : XC := (.seq (.region [⟨(some 4), (.mv (.c (.i .i64 0))), none, 0, []⟩])
  (.seq (.seq (.region [⟨(some 6), (.mv (.t 0)), none, 0, []⟩, ⟨(some 7), (.lenx (.t 6)), none, 1, []⟩, ⟨(some 8), (.mv (.c (.i .i64 0))), none, 2, []⟩])
  (.block 0 (.loop (.seq (.region [⟨(some 9), (.bin .lss (.t 8) (.t 7)), none, 0, []⟩])
  (.seq (.cond (.t 9) .skip (.exit 0))
  (.seq (.block 1 (.seq (.region [⟨(some 10), (.mv (.t 8)), none, 0, []⟩, ⟨(some 5), (.mv (.t 10)), none, 1, []⟩])
  (.seq (.region [⟨(some 11), (.mv (.t 1)), none, 0, []⟩, ⟨(some 12), (.mv (.t 0)), none, 1, []⟩, ⟨(some 13), (.mv (.t 5)), none, 2, []⟩, ⟨(some 14), (.isl 12 (.t 12) (.t 13)), none, 3, []⟩, ⟨(some 15), (.load true 12 (.t 14)), none, 4, []⟩, ⟨(some 16), (.call (.t 11) [(.t 15)]), none, 5, []⟩])
  (.cond (.t 16) (.seq (.region [⟨(some 17), (.mv (.t 5)), none, 0, []⟩, ⟨(some 4), (.mv (.t 17)), none, 1, []⟩])
  .ret) .skip))))
  (.region [⟨(some 18), (.bin .add (.t 8) (.c (.i .i64 1))), none, 0, []⟩, ⟨(some 8), (.mv (.t 18)), none, 1, []⟩])))))))
  (.seq (.region [⟨(some 4), (.mv (.c (.i .i64 (-1)))), none, 0, []⟩])
  .ret)))
def x58 : XFun := ⟨x58b, [(.t 4)]⟩
theorem x58_ok : compF Try.prog 58 = some x58 := by kernel_rfl
/-- (*bollard/sendq.Queue).in$1 (30) -/
def x59b : XC := (.seq (.seq (.region [⟨(some 6), (.load false 1 (.t 1)), none, 0, []⟩, ⟨(some 7), (.nilq 0 false (.t 6)), none, 1, []⟩])
  (.cond (.t 7) .ret .skip))
  (.seq (.region [⟨(some 8), (.load false 1 (.t 1)), none, 0, []⟩, ⟨(some 9), (.nilc (.t 8)), none, 1, []⟩, ⟨(some 10), (.fadd 0 (.t 9)), none, 2, []⟩, ⟨(some 11), (.load false 1 (.t 10)), none, 3, []⟩, ⟨(some 12), (.lenx (.t 11)), none, 4, []⟩, ⟨(some 13), (.mv (.c (.i .i64 0))), none, 5, []⟩])
  (.block 0 (.loop (.seq (.region [⟨(some 14), (.bin .lss (.t 13) (.t 12)), none, 0, []⟩])
  (.seq (.cond (.t 14) .skip (.exit 0))
  (.seq (.block 1 (.seq (.region [⟨(some 15), (.isl 1 (.t 11) (.t 13)), none, 0, []⟩, ⟨(some 16), (.load false 1 (.t 15)), none, 1, []⟩, ⟨(some 5), (.mv (.t 16)), none, 2, []⟩])
  (.seq (.draw [⟨(some 18), (.mv (.t 5)), none, 1, []⟩, ⟨(some 19), (.nilc (.t 18)), none, 2, [1]⟩, ⟨(some 20), (.fadd 13 (.t 19)), none, 3, [1, 2]⟩, ⟨(some 17), (.load false 1 (.t 2)), none, 0, []⟩, ⟨(some 21), (.load false 1 (.t 20)), none, 4, [1, 2, 3]⟩, ⟨(some 22), (.call (.c (.fn (.func 60) [] [])) [(.t 17), (.t 21)]), none, 5, [0, 1, 2, 3, 4]⟩, ⟨(some 23), (.mv (.t 22)), none, 6, [0, 1, 2, 3, 4, 5]⟩, ⟨(some 24), (.mv (.t 0)), (some (23, true)), 7, [0, 1, 2, 3, 4, 5, 6]⟩, ⟨(some 25), (.mv (.t 5)), (some (23, true)), 8, [0, 1, 2, 3, 4, 5, 6]⟩, ⟨(some 26), (.call (.t 24) [(.t 25)]), (some (23, true)), 9, [0, 1, 2, 3, 4, 5, 6, 7, 8]⟩, ⟨(some 27), (.unx .not (.t 26)), (some (23, true)), 10, [0, 1, 2, 3, 4, 5, 6, 7, 8, 9]⟩, ⟨(some 28), (.pick (.t 23) (.t 27) (.c (.b false))), none, 11, [0, 1, 2, 3, 4, 5, 6, 7, 8, 9, 10]⟩])
  (.cond (.t 28) .ret .skip))))
  (.region [⟨(some 29), (.bin .add (.t 13) (.c (.i .i64 1))), none, 0, []⟩, ⟨(some 13), (.mv (.t 29)), none, 1, []⟩]))))))))
def x59 : XFun := ⟨x59b, []⟩
theorem x59_ok : compF Try.prog 59 = some x59 := by kernel_rfl
/-- slices.Contains[[]int,int] (9) -/
def x60b : XC := (.seq (.region [⟨(some 4), (.mv (.c (.b false))), none, 0, []⟩])
  (.seq (.region [⟨(some 5), (.mv (.t 0)), none, 0, []⟩, ⟨(some 6), (.mv (.t 1)), none, 1, []⟩, ⟨(some 7), (.call (.c (.fn (.func 72) [] [])) [(.t 5), (.t 6)]), none, 2, []⟩, ⟨(some 8), (.bin .geq (.t 7) (.c (.i .i64 0))), none, 3, []⟩, ⟨(some 4), (.mv (.t 8)), none, 4, []⟩])
  .ret))
def x60 : XFun := ⟨x60b, [(.t 4)]⟩
theorem x60_ok : compF Try.prog 60 = some x60 := by kernel_rfl
/-- slices.ContainsFunc[[]*bollard/sendq.entry,*bollard/sendq.entry] (9) -/
def x61b : XC := (.seq (.region [⟨(some 4), (.mv (.c (.b false))), none, 0, []⟩])
  (.seq (.region [⟨(some 5), (.mv (.t 0)), none, 0, []⟩, ⟨(some 6), (.mv (.t 1)), none, 1, []⟩, ⟨(some 7), (.call (.c (.fn (.func 66) [] [])) [(.t 5), (.t 6)]), none, 2, []⟩, ⟨(some 8), (.bin .geq (.t 7) (.c (.i .i64 0))), none, 3, []⟩, ⟨(some 4), (.mv (.t 8)), none, 4, []⟩])
  .ret))
def x61 : XFun := ⟨x61b, [(.t 4)]⟩
theorem x61_ok : compF Try.prog 61 = some x61 := by kernel_rfl
/-- (*bollard/sendq.Queue).reached$1 (8) -/
def x62b : XC := (.seq (.region [⟨(some 2), (.mv (.c (.b false))), none, 0, []⟩])
  (.seq (.region [⟨(some 3), (.mv (.t 0)), none, 0, []⟩, ⟨(some 4), (.nilc (.t 3)), none, 1, []⟩, ⟨(some 5), (.fadd 13 (.t 4)), none, 2, []⟩, ⟨(some 6), (.load false 1 (.t 5)), none, 3, []⟩, ⟨(some 7), (.bin .eql (.t 6) (.c (.i .i64 0))), none, 4, []⟩, ⟨(some 2), (.mv (.t 7)), none, 5, []⟩])
  .ret))
def x62 : XFun := ⟨x62b, [(.t 2)]⟩
theorem x62_ok : compF Try.prog 62 = some x62 := by kernel_rfl
/-- slices.Clone[[]*bollard/sendq.entry,*bollard/sendq.entry] (8) -/
def x63b : XC := (.seq (.region [⟨(some 2), (.mv (.c (.sl none 0 0 0))), none, 0, []⟩])
  (.seq (.seq (.region [⟨(some 3), (.mv (.t 0)), none, 0, []⟩, ⟨(some 4), (.nilq 1 false (.t 3)), none, 1, []⟩])
  (.cond (.t 4) (.seq (.region [⟨(some 2), (.mv (.c (.sl none 0 0 0))), none, 0, []⟩])
  .ret) .skip))
  (.seq (.region [⟨(some 5), (.bslice [] [] 0), none, 0, []⟩, ⟨(some 6), (.mv (.t 0)), none, 1, []⟩, ⟨(some 7), (.append 1 8 (.t 5) (.t 6)), none, 2, []⟩, ⟨(some 2), (.mv (.t 7)), none, 3, []⟩])
  .ret)))
def x63 : XFun := ⟨x63b, [(.t 2)]⟩
theorem x63_ok : compF Try.prog 63 = some x63 := by kernel_rfl
/-- bollard/sendq.covered (8) -/
def x64b : XC := (.seq (.region [⟨(some 3), (.box (.t 1)), none, 0, []⟩, ⟨(some 4), (.mv (.c (.b false))), none, 1, []⟩])
  (.seq (.region [⟨(some 5), (.mv (.t 0)), none, 0, []⟩, ⟨(some 6), (.mkf (.func 74) [] [(.t 3)]), none, 1, []⟩, ⟨(some 7), (.call (.c (.fn (.func 73) [] [])) [(.t 5), (.t 6)]), none, 2, []⟩, ⟨(some 4), (.mv (.t 7)), none, 3, []⟩])
  .ret))
def x64 : XFun := ⟨x64b, [(.t 4)]⟩
theorem x64_ok : compF Try.prog 64 = some x64 := by kernel_rfl
/-- bollard/sendq.total (15) -/
def x65b : XC := (.seq (.region [⟨(some 3), (.box (.t 1)), none, 0, []⟩, ⟨(some 4), (.mv (.c (.i .i64 0))), none, 1, []⟩])
  (.seq (.region [⟨(some 5), (.alloc [(.i .i64 0)]), none, 0, []⟩, ⟨none, (.store 1 (.t 5) (.c (.i .i64 0))), none, 1, []⟩])
  (.seq (.seq (.region [⟨(some 7), (.mv (.t 0)), none, 0, []⟩])
  (.block 0 (.rangeFn (.t 7) [8] (.region [⟨(some 6), (.mv (.t 8)), none, 0, []⟩]) (.block 1 (.draw [⟨(some 11), (.mv (.t 6)), none, 2, []⟩, ⟨(some 9), (.load false 1 (.t 5)), none, 0, []⟩, ⟨(some 10), (.load false 1 (.t 3)), none, 1, []⟩, ⟨(some 12), (.call (.t 10) [(.t 11)]), none, 3, [1, 2]⟩, ⟨(some 13), (.bin .add (.t 9) (.t 12)), none, 4, [0, 1, 2, 3]⟩, ⟨none, (.store 1 (.t 5) (.t 13)), none, 5, [0, 1, 2, 3, 4]⟩])))))
  (.seq (.region [⟨(some 14), (.load false 1 (.t 5)), none, 0, []⟩, ⟨(some 4), (.mv (.t 14)), none, 1, []⟩])
  .ret))))
def x65 : XFun := ⟨x65b, [(.t 4)]⟩
theorem x65_ok : compF Try.prog 65 = some x65 := by kernel_rfl
/-- slices.IndexFunc[[]*bollard/sendq.entry,*bollard/sendq.entry] (19) -/
def x66b : XC := (.seq (.region [⟨(some 4), (.mv (.c (.i .i64 0))), none, 0, []⟩])
  (.seq (.seq (.region [⟨(some 6), (.mv (.t 0)), none, 0, []⟩, ⟨(some 7), (.lenx (.t 6)), none, 1, []⟩, ⟨(some 8), (.mv (.c (.i .i64 0))), none, 2, []⟩])
  (.block 0 (.loop (.seq (.region [⟨(some 9), (.bin .lss (.t 8) (.t 7)), none, 0, []⟩])
  (.seq (.cond (.t 9) .skip (.exit 0))
  (.seq (.block 1 (.seq (.region [⟨(some 10), (.mv (.t 8)), none, 0, []⟩, ⟨(some 5), (.mv (.t 10)), none, 1, []⟩])
  (.seq (.region [⟨(some 11), (.mv (.t 1)), none, 0, []⟩, ⟨(some 12), (.mv (.t 0)), none, 1, []⟩, ⟨(some 13), (.mv (.t 5)), none, 2, []⟩, ⟨(some 14), (.isl 1 (.t 12) (.t 13)), none, 3, []⟩, ⟨(some 15), (.load false 1 (.t 14)), none, 4, []⟩, ⟨(some 16), (.call (.t 11) [(.t 15)]), none, 5, []⟩])
  (.cond (.t 16) (.seq (.region [⟨(some 17), (.mv (.t 5)), none, 0, []⟩, ⟨(some 4), (.mv (.t 17)), none, 1, []⟩])
  .ret) .skip))))
  (.region [⟨(some 18), (.bin .add (.t 8) (.c (.i .i64 1))), none, 0, []⟩, ⟨(some 8), (.mv (.t 18)), none, 1, []⟩])))))))
  (.seq (.region [⟨(some 4), (.mv (.c (.i .i64 (-1)))), none, 0, []⟩])
  .ret)))
def x66 : XFun := ⟨x66b, [(.t 4)]⟩
theorem x66_ok : compF Try.prog 66 = some x66 := by kernel_rfl
/-- (*bollard/sendq.Queue).done$1 (8) -/
def x67b : XC := (.seq (.region [⟨(some 2), (.mv (.c (.b false))), none, 0, []⟩])
  (.seq (.region [⟨(some 3), (.mv (.t 0)), none, 0, []⟩, ⟨(some 4), (.nilc (.t 3)), none, 1, []⟩, ⟨(some 5), (.fadd 13 (.t 4)), none, 2, []⟩, ⟨(some 6), (.load false 1 (.t 5)), none, 3, []⟩, ⟨(some 7), (.bin .lss (.t 6) (.c (.i .i64 3))), none, 4, []⟩, ⟨(some 2), (.mv (.t 7)), none, 5, []⟩])
  .ret))
def x67 : XFun := ⟨x67b, [(.t 2)]⟩
theorem x67_ok : compF Try.prog 67 = some x67 := by kernel_rfl
/-- bollard/bollardref07.Same (187) -/
def x68b : XC := (.seq (.region [⟨(some 2), (.box (.t 0)), none, 0, []⟩, ⟨(some 3), (.box (.t 1)), none, 1, []⟩, ⟨(some 4), (.mv (.c (.b false))), none, 2, []⟩])
  (.seq (.seq (.region [⟨(some 8), (.fadd 0 (.t 2)), none, 0, []⟩, ⟨(some 9), (.load false 1 (.t 8)), none, 1, []⟩, ⟨(some 10), (.fadd 0 (.t 3)), none, 2, []⟩, ⟨(some 11), (.load false 1 (.t 10)), none, 3, []⟩, ⟨(some 12), (.bin .neq (.t 9) (.t 11)), none, 4, []⟩, ⟨(some 13), (.mv (.t 12)), none, 5, []⟩, ⟨(some 14), (.fadd 1 (.t 2)), (some (13, false)), 6, []⟩, ⟨(some 15), (.load false 1 (.t 14)), (some (13, false)), 7, []⟩, ⟨(some 16), (.fadd 1 (.t 3)), (some (13, false)), 8, []⟩, ⟨(some 17), (.load false 1 (.t 16)), (some (13, false)), 9, []⟩, ⟨(some 18), (.bin .neq (.t 15) (.t 17)), (some (13, false)), 10, []⟩, ⟨(some 19), (.pick (.t 13) (.c (.b true)) (.t 18)), none, 11, []⟩, ⟨(some 20), (.mv (.t 19)), none, 12, []⟩, ⟨(some 21), (.fadd 2 (.t 2)), (some (20, false)), 13, []⟩, ⟨(some 22), (.load false 1 (.t 21)), (some (20, false)), 14, []⟩, ⟨(some 23), (.fadd 2 (.t 3)), (some (20, false)), 15, []⟩, ⟨(some 24), (.load false 1 (.t 23)), (some (20, false)), 16, []⟩, ⟨(some 25), (.bin .neq (.t 22) (.t 24)), (some (20, false)), 17, []⟩, ⟨(some 26), (.pick (.t 20) (.c (.b true)) (.t 25)), none, 18, []⟩, ⟨(some 27), (.mv (.t 26)), none, 19, []⟩, ⟨(some 28), (.fadd 3 (.t 2)), (some (27, false)), 20, []⟩, ⟨(some 29), (.load false 1 (.t 28)), (some (27, false)), 21, []⟩, ⟨(some 30), (.fadd 3 (.t 3)), (some (27, false)), 22, []⟩, ⟨(some 31), (.load false 1 (.t 30)), (some (27, false)), 23, []⟩, ⟨(some 32), (.bin .neq (.t 29) (.t 31)), (some (27, false)), 24, []⟩, ⟨(some 33), (.pick (.t 27) (.c (.b true)) (.t 32)), none, 25, []⟩, ⟨(some 34), (.mv (.t 33)), none, 26, []⟩, ⟨(some 35), (.fadd 4 (.t 2)), (some (34, false)), 27, []⟩, ⟨(some 36), (.load false 1 (.t 35)), (some (34, false)), 28, []⟩, ⟨(some 37), (.fadd 4 (.t 3)), (some (34, false)), 29, []⟩, ⟨(some 38), (.load false 1 (.t 37)), (some (34, false)), 30, []⟩, ⟨(some 39), (.bin .neq (.t 36) (.t 38)), (some (34, false)), 31, []⟩, ⟨(some 40), (.pick (.t 34) (.c (.b true)) (.t 39)), none, 32, []⟩, ⟨(some 41), (.mv (.t 40)), none, 33, []⟩, ⟨(some 42), (.fadd 5 (.t 2)), (some (41, false)), 34, []⟩, ⟨(some 43), (.load false 1 (.t 42)), (some (41, false)), 35, []⟩, ⟨(some 44), (.fadd 5 (.t 3)), (some (41, false)), 36, []⟩, ⟨(some 45), (.load false 1 (.t 44)), (some (41, false)), 37, []⟩, ⟨(some 46), (.bin .neq (.t 43) (.t 45)), (some (41, false)), 38, []⟩, ⟨(some 47), (.pick (.t 41) (.c (.b true)) (.t 46)), none, 39, []⟩, ⟨(some 48), (.mv (.t 47)), none, 40, []⟩, ⟨(some 49), (.fadd 6 (.t 2)), (some (48, false)), 41, []⟩, ⟨(some 50), (.load false 1 (.t 49)), (some (48, false)), 42, []⟩, ⟨(some 51), (.fadd 6 (.t 3)), (some (48, false)), 43, []⟩, ⟨(some 52), (.load false 1 (.t 51)), (some (48, false)), 44, []⟩, ⟨(some 53), (.bin .neq (.t 50) (.t 52)), (some (48, false)), 45, []⟩, ⟨(some 54), (.pick (.t 48) (.c (.b true)) (.t 53)), none, 46, []⟩, ⟨(some 55), (.mv (.t 54)), none, 47, []⟩, ⟨(some 56), (.fadd 11 (.t 2)), (some (55, false)), 48, []⟩, ⟨(some 57), (.load false 1 (.t 56)), (some (55, false)), 49, []⟩, ⟨(some 58), (.cb2s (.t 57)), (some (55, false)), 50, []⟩, ⟨(some 59), (.fadd 11 (.t 3)), (some (55, false)), 51, []⟩, ⟨(some 60), (.load false 1 (.t 59)), (some (55, false)), 52, []⟩, ⟨(some 61), (.cb2s (.t 60)), (some (55, false)), 53, []⟩, ⟨(some 62), (.bin .neq (.t 58) (.t 61)), (some (55, false)), 54, []⟩, ⟨(some 63), (.pick (.t 55) (.c (.b true)) (.t 62)), none, 55, []⟩, ⟨(some 64), (.mv (.t 63)), none, 56, []⟩, ⟨(some 65), (.fadd 10 (.t 2)), (some (64, false)), 57, []⟩, ⟨(some 66), (.load false 1 (.t 65)), (some (64, false)), 58, []⟩, ⟨(some 67), (.fadd 10 (.t 3)), (some (64, false)), 59, []⟩, ⟨(some 68), (.load false 1 (.t 67)), (some (64, false)), 60, []⟩, ⟨(some 69), (.call (.c (.fn (.func 75) [] [])) [(.t 66), (.t 68)]), (some (64, false)), 61, []⟩, ⟨(some 70), (.unx .not (.t 69)), (some (64, false)), 62, []⟩, ⟨(some 71), (.pick (.t 64) (.c (.b true)) (.t 70)), none, 63, []⟩, ⟨(some 72), (.mv (.t 71)), none, 64, []⟩, ⟨(some 73), (.fadd 7 (.t 2)), (some (72, false)), 65, []⟩, ⟨(some 74), (.load false 1 (.t 73)), (some (72, false)), 66, []⟩, ⟨(some 75), (.lenx (.t 74)), (some (72, false)), 67, []⟩, ⟨(some 76), (.fadd 7 (.t 3)), (some (72, false)), 68, []⟩, ⟨(some 77), (.load false 1 (.t 76)), (some (72, false)), 69, []⟩, ⟨(some 78), (.lenx (.t 77)), (some (72, false)), 70, []⟩, ⟨(some 79), (.bin .neq (.t 75) (.t 78)), (some (72, false)), 71, []⟩, ⟨(some 80), (.pick (.t 72) (.c (.b true)) (.t 79)), none, 72, []⟩, ⟨(some 81), (.mv (.t 80)), none, 73, []⟩, ⟨(some 82), (.fadd 8 (.t 2)), (some (81, false)), 74, []⟩, ⟨(some 83), (.load false 1 (.t 82)), (some (81, false)), 75, []⟩, ⟨(some 84), (.lenx (.t 83)), (some (81, false)), 76, []⟩, ⟨(some 85), (.fadd 8 (.t 3)), (some (81, false)), 77, []⟩, ⟨(some 86), (.load false 1 (.t 85)), (some (81, false)), 78, []⟩, ⟨(some 87), (.lenx (.t 86)), (some (81, false)), 79, []⟩, ⟨(some 88), (.bin .neq (.t 84) (.t 87)), (some (81, false)), 80, []⟩, ⟨(some 89), (.pick (.t 81) (.c (.b true)) (.t 88)), none, 81, []⟩, ⟨(some 90), (.mv (.t 89)), none, 82, []⟩, ⟨(some 91), (.fadd 9 (.t 2)), (some (90, false)), 83, []⟩, ⟨(some 92), (.load false 1 (.t 91)), (some (90, false)), 84, []⟩, ⟨(some 93), (.lenx (.t 92)), (some (90, false)), 85, []⟩, ⟨(some 94), (.fadd 9 (.t 3)), (some (90, false)), 86, []⟩, ⟨(some 95), (.load false 1 (.t 94)), (some (90, false)), 87, []⟩, ⟨(some 96), (.lenx (.t 95)), (some (90, false)), 88, []⟩, ⟨(some 97), (.bin .neq (.t 93) (.t 96)), (some (90, false)), 89, []⟩, ⟨(some 98), (.pick (.t 90) (.c (.b true)) (.t 97)), none, 90, []⟩])
  (.cond (.t 98) (.seq (.region [⟨(some 4), (.mv (.c (.b false))), none, 0, []⟩])
  .ret) .skip))
  (.seq (.seq (.region [⟨(some 5), (.mv (.c (.i .i64 0))), none, 0, []⟩])
  (.block 0 (.loop (.seq (.seq (.region [⟨(some 99), (.mv (.t 5)), none, 0, []⟩, ⟨(some 100), (.fadd 7 (.t 2)), none, 1, []⟩, ⟨(some 101), (.load false 1 (.t 100)), none, 2, []⟩, ⟨(some 102), (.lenx (.t 101)), none, 3, []⟩, ⟨(some 103), (.bin .lss (.t 99) (.t 102)), none, 4, []⟩])
  (.cond (.t 103) .skip (.exit 0)))
  (.seq (.block 1 (.seq (.draw [⟨(some 106), (.fadd 7 (.t 2)), none, 0, []⟩, ⟨(some 108), (.mv (.t 5)), none, 2, []⟩, ⟨(some 112), (.fadd 7 (.t 3)), none, 6, []⟩, ⟨(some 114), (.mv (.t 5)), none, 8, []⟩, ⟨(some 107), (.load false 1 (.t 106)), none, 1, [0]⟩, ⟨(some 109), (.isl 2 (.t 107) (.t 108)), none, 3, [0, 1, 2]⟩, ⟨(some 110), (.fadd 0 (.t 109)), none, 4, [0, 1, 2, 3]⟩, ⟨(some 111), (.load false 1 (.t 110)), none, 5, [0, 1, 2, 3, 4]⟩, ⟨(some 113), (.load false 1 (.t 112)), none, 7, [6]⟩, ⟨(some 115), (.isl 2 (.t 113) (.t 114)), none, 9, [6, 7, 8]⟩, ⟨(some 116), (.fadd 0 (.t 115)), none, 10, [6, 7, 8, 9]⟩, ⟨(some 117), (.load false 1 (.t 116)), none, 11, [6, 7, 8, 9, 10]⟩, ⟨(some 118), (.bin .neq (.t 111) (.t 117)), none, 12, [0, 1, 2, 3, 4, 5, 6, 7, 8, 9, 10, 11]⟩, ⟨(some 119), (.mv (.t 118)), none, 13, [0, 1, 2, 3, 4, 5, 6, 7, 8, 9, 10, 11, 12]⟩, ⟨(some 120), (.fadd 7 (.t 2)), (some (119, false)), 14, [0, 1, 2, 3, 4, 5, 6, 7, 8, 9, 10, 11, 12, 13]⟩, ⟨(some 122), (.mv (.t 5)), (some (119, false)), 16, [0, 1, 2, 3, 4, 5, 6, 7, 8, 9, 10, 11, 12, 13]⟩, ⟨(some 126), (.fadd 7 (.t 3)), (some (119, false)), 20, [0, 1, 2, 3, 4, 5, 6, 7, 8, 9, 10, 11, 12, 13]⟩, ⟨(some 128), (.mv (.t 5)), (some (119, false)), 22, [0, 1, 2, 3, 4, 5, 6, 7, 8, 9, 10, 11, 12, 13]⟩, ⟨(some 121), (.load false 1 (.t 120)), (some (119, false)), 15, [0, 1, 2, 3, 4, 5, 6, 7, 8, 9, 10, 11, 12, 13, 14]⟩, ⟨(some 123), (.isl 2 (.t 121) (.t 122)), (some (119, false)), 17, [0, 1, 2, 3, 4, 5, 6, 7, 8, 9, 10, 11, 12, 13, 14, 15, 16]⟩, ⟨(some 124), (.fadd 1 (.t 123)), (some (119, false)), 18, [0, 1, 2, 3, 4, 5, 6, 7, 8, 9, 10, 11, 12, 13, 14, 15, 16, 17]⟩, ⟨(some 125), (.load false 1 (.t 124)), (some (119, false)), 19, [0, 1, 2, 3, 4, 5, 6, 7, 8, 9, 10, 11, 12, 13, 14, 15, 16, 17, 18]⟩, ⟨(some 127), (.load false 1 (.t 126)), (some (119, false)), 21, [0, 1, 2, 3, 4, 5, 6, 7, 8, 9, 10, 11, 12, 13, 20]⟩, ⟨(some 129), (.isl 2 (.t 127) (.t 128)), (some (119, false)), 23, [0, 1, 2, 3, 4, 5, 6, 7, 8, 9, 10, 11, 12, 13, 20, 21, 22]⟩, ⟨(some 130), (.fadd 1 (.t 129)), (some (119, false)), 24, [0, 1, 2, 3, 4, 5, 6, 7, 8, 9, 10, 11, 12, 13, 20, 21, 22, 23]⟩, ⟨(some 131), (.load false 1 (.t 130)), (some (119, false)), 25, [0, 1, 2, 3, 4, 5, 6, 7, 8, 9, 10, 11, 12, 13, 20, 21, 22, 23, 24]⟩, ⟨(some 132), (.bin .neq (.t 125) (.t 131)), (some (119, false)), 26, [0, 1, 2, 3, 4, 5, 6, 7, 8, 9, 10, 11, 12, 13, 14, 15, 16, 17, 18, 19, 20, 21, 22, 23, 24, 25]⟩, ⟨(some 133), (.pick (.t 119) (.c (.b true)) (.t 132)), none, 27, [0, 1, 2, 3, 4, 5, 6, 7, 8, 9, 10, 11, 12, 13, 14, 15, 16, 17, 18, 19, 20, 21, 22, 23, 24, 25, 26]⟩])
  (.cond (.t 133) (.seq (.region [⟨(some 4), (.mv (.c (.b false))), none, 0, []⟩])
  .ret) .skip)))
  (.region [⟨(some 104), (.mv (.t 5)), none, 0, []⟩, ⟨(some 105), (.bin .add (.t 104) (.c (.i .i64 1))), none, 1, []⟩, ⟨(some 5), (.mv (.t 105)), none, 2, []⟩]))))))
  (.seq (.seq (.region [⟨(some 6), (.mv (.c (.i .i64 0))), none, 0, []⟩])
  (.block 2 (.loop (.seq (.seq (.region [⟨(some 134), (.mv (.t 6)), none, 0, []⟩, ⟨(some 135), (.fadd 8 (.t 2)), none, 1, []⟩, ⟨(some 136), (.load false 1 (.t 135)), none, 2, []⟩, ⟨(some 137), (.lenx (.t 136)), none, 3, []⟩, ⟨(some 138), (.bin .lss (.t 134) (.t 137)), none, 4, []⟩])
  (.cond (.t 138) .skip (.exit 2)))
  (.seq (.block 3 (.seq (.draw [⟨(some 141), (.fadd 8 (.t 2)), none, 0, []⟩, ⟨(some 143), (.mv (.t 6)), none, 2, []⟩, ⟨(some 146), (.fadd 8 (.t 3)), none, 5, []⟩, ⟨(some 148), (.mv (.t 6)), none, 7, []⟩, ⟨(some 142), (.load false 1 (.t 141)), none, 1, [0]⟩, ⟨(some 144), (.isl 1 (.t 142) (.t 143)), none, 3, [0, 1, 2]⟩, ⟨(some 145), (.load false 1 (.t 144)), none, 4, [0, 1, 2, 3]⟩, ⟨(some 147), (.load false 1 (.t 146)), none, 6, [5]⟩, ⟨(some 149), (.isl 1 (.t 147) (.t 148)), none, 8, [5, 6, 7]⟩, ⟨(some 150), (.load false 1 (.t 149)), none, 9, [5, 6, 7, 8]⟩, ⟨(some 151), (.bin .neq (.t 145) (.t 150)), none, 10, [0, 1, 2, 3, 4, 5, 6, 7, 8, 9]⟩])
  (.cond (.t 151) (.seq (.region [⟨(some 4), (.mv (.c (.b false))), none, 0, []⟩])
  .ret) .skip)))
  (.region [⟨(some 139), (.mv (.t 6)), none, 0, []⟩, ⟨(some 140), (.bin .add (.t 139) (.c (.i .i64 1))), none, 1, []⟩, ⟨(some 6), (.mv (.t 140)), none, 2, []⟩]))))))
  (.seq (.seq (.region [⟨(some 7), (.mv (.c (.i .i64 0))), none, 0, []⟩])
  (.block 4 (.loop (.seq (.seq (.region [⟨(some 152), (.mv (.t 7)), none, 0, []⟩, ⟨(some 153), (.fadd 9 (.t 2)), none, 1, []⟩, ⟨(some 154), (.load false 1 (.t 153)), none, 2, []⟩, ⟨(some 155), (.lenx (.t 154)), none, 3, []⟩, ⟨(some 156), (.bin .lss (.t 152) (.t 155)), none, 4, []⟩])
  (.cond (.t 156) .skip (.exit 4)))
  (.seq (.block 5 (.seq (.draw [⟨(some 159), (.fadd 9 (.t 2)), none, 0, []⟩, ⟨(some 161), (.mv (.t 7)), none, 2, []⟩, ⟨(some 165), (.fadd 9 (.t 3)), none, 6, []⟩, ⟨(some 167), (.mv (.t 7)), none, 8, []⟩, ⟨(some 160), (.load false 1 (.t 159)), none, 1, [0]⟩, ⟨(some 162), (.isl 2 (.t 160) (.t 161)), none, 3, [0, 1, 2]⟩, ⟨(some 163), (.fadd 0 (.t 162)), none, 4, [0, 1, 2, 3]⟩, ⟨(some 164), (.load false 1 (.t 163)), none, 5, [0, 1, 2, 3, 4]⟩, ⟨(some 166), (.load false 1 (.t 165)), none, 7, [6]⟩, ⟨(some 168), (.isl 2 (.t 166) (.t 167)), none, 9, [6, 7, 8]⟩, ⟨(some 169), (.fadd 0 (.t 168)), none, 10, [6, 7, 8, 9]⟩, ⟨(some 170), (.load false 1 (.t 169)), none, 11, [6, 7, 8, 9, 10]⟩, ⟨(some 171), (.bin .neq (.t 164) (.t 170)), none, 12, [0, 1, 2, 3, 4, 5, 6, 7, 8, 9, 10, 11]⟩, ⟨(some 172), (.mv (.t 171)), none, 13, [0, 1, 2, 3, 4, 5, 6, 7, 8, 9, 10, 11, 12]⟩, ⟨(some 173), (.fadd 9 (.t 2)), (some (172, false)), 14, [0, 1, 2, 3, 4, 5, 6, 7, 8, 9, 10, 11, 12, 13]⟩, ⟨(some 175), (.mv (.t 7)), (some (172, false)), 16, [0, 1, 2, 3, 4, 5, 6, 7, 8, 9, 10, 11, 12, 13]⟩, ⟨(some 179), (.fadd 9 (.t 3)), (some (172, false)), 20, [0, 1, 2, 3, 4, 5, 6, 7, 8, 9, 10, 11, 12, 13]⟩, ⟨(some 181), (.mv (.t 7)), (some (172, false)), 22, [0, 1, 2, 3, 4, 5, 6, 7, 8, 9, 10, 11, 12, 13]⟩, ⟨(some 174), (.load false 1 (.t 173)), (some (172, false)), 15, [0, 1, 2, 3, 4, 5, 6, 7, 8, 9, 10, 11, 12, 13, 14]⟩, ⟨(some 176), (.isl 2 (.t 174) (.t 175)), (some (172, false)), 17, [0, 1, 2, 3, 4, 5, 6, 7, 8, 9, 10, 11, 12, 13, 14, 15, 16]⟩, ⟨(some 177), (.fadd 1 (.t 176)), (some (172, false)), 18, [0, 1, 2, 3, 4, 5, 6, 7, 8, 9, 10, 11, 12, 13, 14, 15, 16, 17]⟩, ⟨(some 178), (.load false 1 (.t 177)), (some (172, false)), 19, [0, 1, 2, 3, 4, 5, 6, 7, 8, 9, 10, 11, 12, 13, 14, 15, 16, 17, 18]⟩, ⟨(some 180), (.load false 1 (.t 179)), (some (172, false)), 21, [0, 1, 2, 3, 4, 5, 6, 7, 8, 9, 10, 11, 12, 13, 20]⟩, ⟨(some 182), (.isl 2 (.t 180) (.t 181)), (some (172, false)), 23, [0, 1, 2, 3, 4, 5, 6, 7, 8, 9, 10, 11, 12, 13, 20, 21, 22]⟩, ⟨(some 183), (.fadd 1 (.t 182)), (some (172, false)), 24, [0, 1, 2, 3, 4, 5, 6, 7, 8, 9, 10, 11, 12, 13, 20, 21, 22, 23]⟩, ⟨(some 184), (.load false 1 (.t 183)), (some (172, false)), 25, [0, 1, 2, 3, 4, 5, 6, 7, 8, 9, 10, 11, 12, 13, 20, 21, 22, 23, 24]⟩, ⟨(some 185), (.bin .neq (.t 178) (.t 184)), (some (172, false)), 26, [0, 1, 2, 3, 4, 5, 6, 7, 8, 9, 10, 11, 12, 13, 14, 15, 16, 17, 18, 19, 20, 21, 22, 23, 24, 25]⟩, ⟨(some 186), (.pick (.t 172) (.c (.b true)) (.t 185)), none, 27, [0, 1, 2, 3, 4, 5, 6, 7, 8, 9, 10, 11, 12, 13, 14, 15, 16, 17, 18, 19, 20, 21, 22, 23, 24, 25, 26]⟩])
  (.cond (.t 186) (.seq (.region [⟨(some 4), (.mv (.c (.b false))), none, 0, []⟩])
  .ret) .skip)))
  (.region [⟨(some 157), (.mv (.t 7)), none, 0, []⟩, ⟨(some 158), (.bin .add (.t 157) (.c (.i .i64 1))), none, 1, []⟩, ⟨(some 7), (.mv (.t 158)), none, 2, []⟩]))))))
  (.seq (.region [⟨(some 4), (.mv (.c (.b true))), none, 0, []⟩])
  .ret))))))
def x68 : XFun := ⟨x68b, [(.t 4)]⟩
theorem x68_ok : compF Try.prog 68 = some x68 := by kernel_rfl
/-- (*bollard/bollardref15.Queue).send (105) -/
def x69b : XC := (.seq (.region [⟨(some 10), (.mv (.c (.sl none 0 0 0))), none, 0, []⟩, ⟨(some 11), (.mv (.c (.i .i64 0))), none, 1, []⟩, ⟨(some 12), (.mv (.c (.b false))), none, 2, []⟩])
  (.seq (.seq (.region [⟨(some 13), (.mv (.c (.i .i64 0))), none, 0, []⟩])
  (.block 0 (.loop (.seq (.seq (.region [⟨(some 14), (.mv (.t 13)), none, 0, []⟩, ⟨(some 15), (.mv (.t 0)), none, 1, []⟩, ⟨(some 16), (.nilc (.t 15)), none, 2, []⟩, ⟨(some 17), (.fadd 0 (.t 16)), none, 3, []⟩, ⟨(some 18), (.load false 1 (.t 17)), none, 4, []⟩, ⟨(some 19), (.lenx (.t 18)), none, 5, []⟩, ⟨(some 20), (.bin .lss (.t 14) (.t 19)), none, 6, []⟩])
  (.cond (.t 20) .skip (.exit 0)))
  (.seq (.block 1 (.seq (.seq (.region [⟨(some 23), (.mv (.t 0)), none, 0, []⟩, ⟨(some 24), (.nilc (.t 23)), none, 1, []⟩, ⟨(some 25), (.fadd 0 (.t 24)), none, 2, []⟩, ⟨(some 26), (.load false 1 (.t 25)), none, 3, []⟩, ⟨(some 27), (.mv (.t 13)), none, 4, []⟩, ⟨(some 28), (.isl 19 (.t 26) (.t 27)), none, 5, []⟩, ⟨(some 29), (.fadd 13 (.t 28)), none, 6, []⟩, ⟨(some 30), (.load false 1 (.t 29)), none, 7, []⟩, ⟨(some 31), (.mv (.t 2)), none, 8, []⟩, ⟨(some 32), (.bin .neq (.t 30) (.t 31)), none, 9, []⟩])
  (.cond (.t 32) (.exit 1) .skip))
  (.seq (.seq (.region [⟨(some 33), (.mv (.t 0)), none, 0, []⟩, ⟨(some 34), (.nilc (.t 33)), none, 1, []⟩, ⟨(some 35), (.fadd 0 (.t 34)), none, 2, []⟩, ⟨(some 36), (.load false 1 (.t 35)), none, 3, []⟩, ⟨(some 37), (.mv (.t 13)), none, 4, []⟩, ⟨(some 38), (.isl 19 (.t 36) (.t 37)), none, 5, []⟩, ⟨(some 39), (.fadd 0 (.t 38)), none, 6, []⟩, ⟨(some 40), (.fadd 11 (.t 39)), none, 7, []⟩, ⟨(some 41), (.load false 1 (.t 40)), none, 8, []⟩, ⟨(some 42), (.lenx (.t 41)), none, 9, []⟩, ⟨(some 43), (.mv (.t 4)), none, 10, []⟩, ⟨(some 44), (.bin .gtr (.t 42) (.t 43)), none, 11, []⟩])
  (.cond (.t 44) (.seq (.region [⟨(some 45), (.mv (.t 1)), none, 0, []⟩, ⟨(some 46), (.mv (.t 4)), none, 1, []⟩, ⟨(some 10), (.mv (.t 45)), none, 2, []⟩, ⟨(some 11), (.mv (.t 46)), none, 3, []⟩, ⟨(some 12), (.mv (.c (.b false))), none, 4, []⟩])
  .ret) .skip))
  (.seq (.region [⟨(some 47), (.mv (.t 4)), none, 0, []⟩, ⟨(some 48), (.mv (.t 0)), none, 1, []⟩, ⟨(some 49), (.nilc (.t 48)), none, 2, []⟩, ⟨(some 50), (.fadd 0 (.t 49)), none, 3, []⟩, ⟨(some 51), (.load false 1 (.t 50)), none, 4, []⟩, ⟨(some 52), (.mv (.t 13)), none, 5, []⟩, ⟨(some 53), (.isl 19 (.t 51) (.t 52)), none, 6, []⟩, ⟨(some 54), (.fadd 0 (.t 53)), none, 7, []⟩, ⟨(some 55), (.fadd 11 (.t 54)), none, 8, []⟩, ⟨(some 56), (.load false 1 (.t 55)), none, 9, []⟩, ⟨(some 57), (.lenx (.t 56)), none, 10, []⟩, ⟨(some 58), (.bin .sub (.t 47) (.t 57)), none, 11, []⟩, ⟨(some 4), (.mv (.t 58)), none, 12, []⟩])
  (.seq (.region [⟨(some 59), (.mv (.t 1)), none, 0, []⟩, ⟨(some 60), (.mv (.t 0)), none, 1, []⟩, ⟨(some 61), (.nilc (.t 60)), none, 2, []⟩, ⟨(some 62), (.fadd 0 (.t 61)), none, 3, []⟩, ⟨(some 63), (.load false 1 (.t 62)), none, 4, []⟩, ⟨(some 64), (.mv (.t 13)), none, 5, []⟩, ⟨(some 65), (.isl 19 (.t 63) (.t 64)), none, 6, []⟩, ⟨(some 66), (.fadd 0 (.t 65)), none, 7, []⟩, ⟨(some 67), (.load true 12 (.t 66)), none, 8, []⟩, ⟨(some 68), (.bslice [(.i .u8 0), (.i .u8 0), (.i .u32 0), (.i .u32 0), (.i .u16 0), (.i .u16 0), (.i .u32 0), (.sl none 0 0 0), (.sl none 0 0 0), (.sl none 0 0 0), (.sl none 0 0 0), (.sl none 0 0 0)] [(0, 12, (.t 67))] 1), none, 9, []⟩, ⟨(some 69), (.append 12 144 (.t 59) (.t 68)), none, 10, []⟩, ⟨(some 1), (.mv (.t 69)), none, 11, []⟩])
  (.seq (.region [⟨(some 70), (.mv (.t 0)), none, 0, []⟩, ⟨(some 71), (.nilc (.t 70)), none, 1, []⟩, ⟨(some 72), (.fadd 0 (.t 71)), none, 2, []⟩, ⟨(some 73), (.load false 1 (.t 72)), none, 3, []⟩, ⟨(some 74), (.mv (.t 13)), none, 4, []⟩, ⟨(some 75), (.isl 19 (.t 73) (.t 74)), none, 5, []⟩, ⟨(some 76), (.fadd 13 (.t 75)), none, 6, []⟩, ⟨none, (.store 1 (.t 76) (.c (.i .i64 1))), none, 7, []⟩])
  (.seq (.region [⟨(some 77), (.mv (.t 0)), none, 0, []⟩, ⟨(some 78), (.nilc (.t 77)), none, 1, []⟩, ⟨(some 79), (.fadd 0 (.t 78)), none, 2, []⟩, ⟨(some 80), (.load false 1 (.t 79)), none, 3, []⟩, ⟨(some 81), (.mv (.t 13)), none, 4, []⟩, ⟨(some 82), (.isl 19 (.t 80) (.t 81)), none, 5, []⟩, ⟨(some 83), (.fadd 14 (.t 82)), none, 6, []⟩, ⟨(some 84), (.load false 1 (.t 83)), none, 7, []⟩, ⟨(some 85), (.bin .add (.t 84) (.c (.i .i64 1))), none, 8, []⟩, ⟨(some 86), (.isl 19 (.t 80) (.t 81)), none, 9, []⟩, ⟨(some 87), (.fadd 14 (.t 86)), none, 10, []⟩, ⟨none, (.store 1 (.t 87) (.t 85)), none, 11, []⟩])
  (.seq (.region [⟨(some 88), (.mv (.t 0)), none, 0, []⟩, ⟨(some 89), (.nilc (.t 88)), none, 1, []⟩, ⟨(some 90), (.fadd 0 (.t 89)), none, 2, []⟩, ⟨(some 91), (.load false 1 (.t 90)), none, 3, []⟩, ⟨(some 92), (.mv (.t 13)), none, 4, []⟩, ⟨(some 93), (.mv (.t 3)), none, 5, []⟩, ⟨(some 94), (.isl 19 (.t 91) (.t 92)), none, 6, []⟩, ⟨(some 95), (.fadd 15 (.t 94)), none, 7, []⟩, ⟨none, (.store 1 (.t 95) (.t 93)), none, 8, []⟩])
  (.region [⟨(some 96), (.mv (.t 0)), none, 0, []⟩, ⟨(some 97), (.nilc (.t 96)), none, 1, []⟩, ⟨(some 98), (.fadd 0 (.t 97)), none, 2, []⟩, ⟨(some 99), (.load false 1 (.t 98)), none, 3, []⟩, ⟨(some 100), (.mv (.t 13)), none, 4, []⟩, ⟨(some 101), (.isl 19 (.t 99) (.t 100)), none, 5, []⟩, ⟨(some 102), (.fadd 16 (.t 101)), none, 6, []⟩, ⟨none, (.store 1 (.t 102) (.c (.i .i64 0))), none, 7, []⟩])))))))))
  (.region [⟨(some 21), (.mv (.t 13)), none, 0, []⟩, ⟨(some 22), (.bin .add (.t 21) (.c (.i .i64 1))), none, 1, []⟩, ⟨(some 13), (.mv (.t 22)), none, 2, []⟩]))))))
  (.seq (.region [⟨(some 103), (.mv (.t 1)), none, 0, []⟩, ⟨(some 104), (.mv (.t 4)), none, 1, []⟩, ⟨(some 10), (.mv (.t 103)), none, 2, []⟩, ⟨(some 11), (.mv (.t 104)), none, 3, []⟩, ⟨(some 12), (.mv (.c (.b true))), none, 4, []⟩])
  .ret)))
def x69 : XFun := ⟨x69b, [(.t 10), (.t 11), (.t 12)]⟩
theorem x69_ok : compF Try.prog 69 = some x69 := by kernel_rfl
/-- (*bollard/bollardref15.Queue).may (35) -/
def x70b : XC := (.seq (.region [⟨(some 4), (.mv (.c (.i .i64 0))), none, 0, []⟩, ⟨(some 5), (.mv (.c (.b false))), none, 1, []⟩])
  (.seq (.region [⟨(some 8), (.mv (.t 0)), none, 0, []⟩, ⟨(some 9), (.call (.c (.fn (.func 56) [] [])) [(.t 8)]), none, 1, []⟩, ⟨(some 10), (.mv (.t 1)), none, 2, []⟩, ⟨(some 11), (.call (.c (.fn (.func 76) [] [])) [(.t 9), (.t 10)]), none, 3, []⟩, ⟨(some 12), (.cint .i64 (.t 11)), none, 4, []⟩, ⟨(some 6), (.mv (.t 12)), none, 5, []⟩])
  (.seq (.seq (.region [⟨(some 13), (.mv (.t 6)), none, 0, []⟩, ⟨(some 14), (.mv (.t 0)), none, 1, []⟩, ⟨(some 15), (.nilc (.t 14)), none, 2, []⟩, ⟨(some 16), (.fadd 0 (.t 15)), none, 3, []⟩, ⟨(some 17), (.load false 1 (.t 16)), none, 4, []⟩, ⟨(some 18), (.lenx (.t 17)), none, 5, []⟩, ⟨(some 19), (.bin .gtr (.t 13) (.t 18)), none, 6, []⟩])
  (.cond (.t 19) (.seq (.region [⟨(some 4), (.mv (.c (.i .i64 0))), none, 0, []⟩, ⟨(some 5), (.mv (.c (.b false))), none, 1, []⟩])
  .ret) .skip))
  (.seq (.seq (.region [⟨(some 7), (.mv (.c (.i .i64 0))), none, 0, []⟩])
  (.block 0 (.loop (.seq (.seq (.region [⟨(some 20), (.mv (.t 7)), none, 0, []⟩, ⟨(some 21), (.mv (.t 6)), none, 1, []⟩, ⟨(some 22), (.bin .lss (.t 20) (.t 21)), none, 2, []⟩])
  (.cond (.t 22) .skip (.exit 0)))
  (.seq (.block 1 (.seq (.region [⟨(some 25), (.mv (.t 0)), none, 0, []⟩, ⟨(some 26), (.nilc (.t 25)), none, 1, []⟩, ⟨(some 27), (.fadd 0 (.t 26)), none, 2, []⟩, ⟨(some 28), (.load false 1 (.t 27)), none, 3, []⟩, ⟨(some 29), (.mv (.t 7)), none, 4, []⟩, ⟨(some 30), (.isl 19 (.t 28) (.t 29)), none, 5, []⟩, ⟨(some 31), (.fadd 13 (.t 30)), none, 6, []⟩, ⟨(some 32), (.load false 1 (.t 31)), none, 7, []⟩, ⟨(some 33), (.bin .eql (.t 32) (.c (.i .i64 0))), none, 8, []⟩])
  (.cond (.t 33) (.seq (.region [⟨(some 4), (.mv (.c (.i .i64 0))), none, 0, []⟩, ⟨(some 5), (.mv (.c (.b false))), none, 1, []⟩])
  .ret) .skip)))
  (.region [⟨(some 23), (.mv (.t 7)), none, 0, []⟩, ⟨(some 24), (.bin .add (.t 23) (.c (.i .i64 1))), none, 1, []⟩, ⟨(some 7), (.mv (.t 24)), none, 2, []⟩]))))))
  (.seq (.region [⟨(some 34), (.mv (.t 6)), none, 0, []⟩, ⟨(some 4), (.mv (.t 34)), none, 1, []⟩, ⟨(some 5), (.mv (.c (.b true))), none, 2, []⟩])
  .ret)))))
def x70 : XFun := ⟨x70b, [(.t 4), (.t 5)]⟩
theorem x70_ok : compF Try.prog 70 = some x70 := by kernel_rfl
/-- (*bollard/bollardref15.Queue).over (70) -/
def x71b : XC := (.seq (.region [⟨(some 6), (.mv (.c (.b false))), none, 0, []⟩])
  (.seq (.region [⟨(some 7), (.mv (.c (.b false))), none, 0, []⟩])
  (.seq (.region [⟨(some 8), (.mv (.c (.b false))), none, 0, []⟩])
  (.seq (.seq (.region [⟨(some 9), (.mv (.c (.i .i64 0))), none, 0, []⟩])
  (.block 0 (.loop (.seq (.seq (.region [⟨(some 11), (.mv (.t 9)), none, 0, []⟩, ⟨(some 12), (.mv (.t 0)), none, 1, []⟩, ⟨(some 13), (.nilc (.t 12)), none, 2, []⟩, ⟨(some 14), (.fadd 0 (.t 13)), none, 3, []⟩, ⟨(some 15), (.load false 1 (.t 14)), none, 4, []⟩, ⟨(some 16), (.lenx (.t 15)), none, 5, []⟩, ⟨(some 17), (.bin .lss (.t 11) (.t 16)), none, 6, []⟩])
  (.cond (.t 17) .skip (.exit 0)))
  (.seq (.block 1 (.seq (.region [⟨(some 20), (.mv (.t 0)), none, 0, []⟩, ⟨(some 21), (.nilc (.t 20)), none, 1, []⟩, ⟨(some 22), (.fadd 0 (.t 21)), none, 2, []⟩, ⟨(some 23), (.load false 1 (.t 22)), none, 3, []⟩, ⟨(some 24), (.mv (.t 9)), none, 4, []⟩, ⟨(some 25), (.isl 19 (.t 23) (.t 24)), none, 5, []⟩, ⟨(some 26), (.load true 19 (.t 25)), none, 6, []⟩, ⟨(some 10), (.alloc [(.i .u8 0), (.i .u8 0), (.i .u32 0), (.i .u32 0), (.i .u16 0), (.i .u16 0), (.i .u32 0), (.sl none 0 0 0), (.sl none 0 0 0), (.sl none 0 0 0), (.sl none 0 0 0), (.sl none 0 0 0), (.i .i64 0), (.i .i64 0), (.i .i64 0), (.i .i64 0), (.i .i64 0), (.i .i64 0), (.i .i64 0)]), none, 7, []⟩, ⟨none, (.store 19 (.t 10) (.t 26)), none, 8, []⟩])
  (.seq (.seq (.region [⟨(some 27), (.fadd 12 (.t 10)), none, 0, []⟩, ⟨(some 28), (.load false 1 (.t 27)), none, 1, []⟩, ⟨(some 29), (.mv (.t 1)), none, 2, []⟩, ⟨(some 30), (.bin .neq (.t 28) (.t 29)), none, 3, []⟩])
  (.cond (.t 30) (.exit 1) .skip))
  (.seq (.region [⟨(some 31), (.mv (.t 7)), none, 0, []⟩, ⟨(some 32), (.mv (.t 31)), none, 1, []⟩, ⟨(some 33), (.fadd 13 (.t 10)), (some (32, false)), 2, []⟩, ⟨(some 34), (.load false 1 (.t 33)), (some (32, false)), 3, []⟩, ⟨(some 35), (.bin .lss (.t 34) (.c (.i .i64 3))), (some (32, false)), 4, []⟩, ⟨(some 36), (.pick (.t 32) (.c (.b true)) (.t 35)), none, 5, []⟩, ⟨(some 7), (.mv (.t 36)), none, 6, []⟩])
  (.region [⟨(some 37), (.mv (.t 8)), none, 0, []⟩, ⟨(some 38), (.mv (.t 37)), none, 1, []⟩, ⟨(some 39), (.fadd 17 (.t 10)), (some (38, false)), 2, []⟩, ⟨(some 40), (.load false 1 (.t 39)), (some (38, false)), 3, []⟩, ⟨(some 41), (.bin .geq (.t 40) (.c (.i .i64 0))), (some (38, false)), 4, []⟩, ⟨(some 42), (.mv (.t 41)), (some (38, false)), 5, []⟩, ⟨(some 43), (.fadd 17 (.t 10)), (some (42, true)), 6, []⟩, ⟨(some 44), (.load false 1 (.t 43)), (some (42, true)), 7, []⟩, ⟨(some 45), (.mv (.t 2)), (some (42, true)), 8, []⟩, ⟨(some 46), (.bin .lss (.t 44) (.t 45)), (some (42, true)), 9, []⟩, ⟨(some 47), (.pick (.t 42) (.t 46) (.c (.b false))), (some (38, false)), 10, []⟩, ⟨(some 48), (.pick (.t 38) (.c (.b true)) (.t 47)), none, 11, []⟩, ⟨(some 49), (.mv (.t 48)), none, 12, []⟩, ⟨(some 50), (.fadd 18 (.t 10)), (some (49, false)), 13, []⟩, ⟨(some 51), (.load false 1 (.t 50)), (some (49, false)), 14, []⟩, ⟨(some 52), (.bin .geq (.t 51) (.c (.i .i64 0))), (some (49, false)), 15, []⟩, ⟨(some 53), (.mv (.t 52)), (some (49, false)), 16, []⟩, ⟨(some 54), (.fadd 13 (.t 10)), (some (53, true)), 17, []⟩, ⟨(some 55), (.load false 1 (.t 54)), (some (53, true)), 18, []⟩, ⟨(some 56), (.bin .eql (.t 55) (.c (.i .i64 2))), (some (53, true)), 19, []⟩, ⟨(some 57), (.pick (.t 53) (.t 56) (.c (.b false))), (some (49, false)), 20, []⟩, ⟨(some 58), (.mv (.t 57)), (some (49, false)), 21, []⟩, ⟨(some 59), (.fadd 14 (.t 10)), (some (58, true)), 22, []⟩, ⟨(some 60), (.load false 1 (.t 59)), (some (58, true)), 23, []⟩, ⟨(some 61), (.fadd 18 (.t 10)), (some (58, true)), 24, []⟩, ⟨(some 62), (.load false 1 (.t 61)), (some (58, true)), 25, []⟩, ⟨(some 63), (.bin .gtr (.t 60) (.t 62)), (some (58, true)), 26, []⟩, ⟨(some 64), (.pick (.t 58) (.t 63) (.c (.b false))), (some (49, false)), 27, []⟩, ⟨(some 65), (.pick (.t 49) (.c (.b true)) (.t 64)), none, 28, []⟩, ⟨(some 8), (.mv (.t 65)), none, 29, []⟩])))))
  (.region [⟨(some 18), (.mv (.t 9)), none, 0, []⟩, ⟨(some 19), (.bin .add (.t 18) (.c (.i .i64 1))), none, 1, []⟩, ⟨(some 9), (.mv (.t 19)), none, 2, []⟩]))))))
  (.seq (.region [⟨(some 66), (.mv (.t 7)), none, 0, []⟩, ⟨(some 67), (.mv (.t 66)), none, 1, []⟩, ⟨(some 68), (.mv (.t 8)), (some (67, true)), 2, []⟩, ⟨(some 69), (.pick (.t 67) (.t 68) (.c (.b false))), none, 3, []⟩, ⟨(some 6), (.mv (.t 69)), none, 4, []⟩])
  .ret)))))
def x71 : XFun := ⟨x71b, [(.t 6)]⟩
theorem x71_ok : compF Try.prog 71 = some x71 := by kernel_rfl
/-- slices.Index[[]int,int] (19) -/
def x72b : XC := (.seq (.region [⟨(some 4), (.mv (.c (.i .i64 0))), none, 0, []⟩])
  (.seq (.seq (.region [⟨(some 6), (.mv (.t 0)), none, 0, []⟩, ⟨(some 7), (.lenx (.t 6)), none, 1, []⟩, ⟨(some 8), (.mv (.c (.i .i64 0))), none, 2, []⟩])
  (.block 0 (.loop (.seq (.region [⟨(some 9), (.bin .lss (.t 8) (.t 7)), none, 0, []⟩])
  (.seq (.cond (.t 9) .skip (.exit 0))
  (.seq (.block 1 (.seq (.region [⟨(some 10), (.mv (.t 8)), none, 0, []⟩, ⟨(some 5), (.mv (.t 10)), none, 1, []⟩])
  (.seq (.region [⟨(some 11), (.mv (.t 1)), none, 0, []⟩, ⟨(some 12), (.mv (.t 0)), none, 1, []⟩, ⟨(some 13), (.mv (.t 5)), none, 2, []⟩, ⟨(some 14), (.isl 1 (.t 12) (.t 13)), none, 3, []⟩, ⟨(some 15), (.load false 1 (.t 14)), none, 4, []⟩, ⟨(some 16), (.bin .eql (.t 11) (.t 15)), none, 5, []⟩])
  (.cond (.t 16) (.seq (.region [⟨(some 17), (.mv (.t 5)), none, 0, []⟩, ⟨(some 4), (.mv (.t 17)), none, 1, []⟩])
  .ret) .skip))))
  (.region [⟨(some 18), (.bin .add (.t 8) (.c (.i .i64 1))), none, 0, []⟩, ⟨(some 8), (.mv (.t 18)), none, 1, []⟩])))))))
  (.seq (.region [⟨(some 4), (.mv (.c (.i .i64 (-1)))), none, 0, []⟩])
  .ret)))
def x72 : XFun := ⟨x72b, [(.t 4)]⟩
theorem x72_ok : compF Try.prog 72 = some x72 := by kernel_rfl
/-- slices.ContainsFunc[[]bollard/api.Block,bollard/api.Block] (9) -/
def x73b : XC := (.seq (.region [⟨(some 4), (.mv (.c (.b false))), none, 0, []⟩])
  (.seq (.region [⟨(some 5), (.mv (.t 0)), none, 0, []⟩, ⟨(some 6), (.mv (.t 1)), none, 1, []⟩, ⟨(some 7), (.call (.c (.fn (.func 77) [] [])) [(.t 5), (.t 6)]), none, 2, []⟩, ⟨(some 8), (.bin .geq (.t 7) (.c (.i .i64 0))), none, 3, []⟩, ⟨(some 4), (.mv (.t 8)), none, 4, []⟩])
  .ret))
def x73 : XFun := ⟨x73b, [(.t 4)]⟩
theorem x73_ok : compF Try.prog 73 = some x73 := by kernel_rfl
/-- bollard/sendq.covered$1 (16) -/
def x74b : XC := (.seq (.region [⟨(some 2), (.box (.t 0)), none, 0, []⟩, ⟨(some 3), (.mv (.c (.b false))), none, 1, []⟩])
  (.seq (.region [⟨(some 4), (.fadd 0 (.t 2)), none, 0, []⟩, ⟨(some 5), (.load false 1 (.t 4)), none, 1, []⟩, ⟨(some 6), (.cint .i64 (.t 5)), none, 2, []⟩, ⟨(some 7), (.load false 1 (.t 1)), none, 3, []⟩, ⟨(some 8), (.bin .leq (.t 6) (.t 7)), none, 4, []⟩, ⟨(some 9), (.mv (.t 8)), none, 5, []⟩, ⟨(some 10), (.load false 1 (.t 1)), (some (9, true)), 6, []⟩, ⟨(some 11), (.fadd 1 (.t 2)), (some (9, true)), 7, []⟩, ⟨(some 12), (.load false 1 (.t 11)), (some (9, true)), 8, []⟩, ⟨(some 13), (.cint .i64 (.t 12)), (some (9, true)), 9, []⟩, ⟨(some 14), (.bin .leq (.t 10) (.t 13)), (some (9, true)), 10, []⟩, ⟨(some 15), (.pick (.t 9) (.t 14) (.c (.b false))), none, 11, []⟩, ⟨(some 3), (.mv (.t 15)), none, 12, []⟩])
  .ret))
def x74 : XFun := ⟨x74b, [(.t 3)]⟩
theorem x74_ok : compF Try.prog 74 = some x74 := by kernel_rfl
/-- bollard/bollardref06.Same (43) -/
def x75b : XC := (.seq (.region [⟨(some 4), (.mv (.c (.b false))), none, 0, []⟩])
  (.seq (.seq (.region [⟨(some 6), (.mv (.t 0)), none, 0, []⟩, ⟨(some 7), (.lenx (.t 6)), none, 1, []⟩, ⟨(some 8), (.mv (.t 1)), none, 2, []⟩, ⟨(some 9), (.lenx (.t 8)), none, 3, []⟩, ⟨(some 10), (.bin .neq (.t 7) (.t 9)), none, 4, []⟩])
  (.cond (.t 10) (.seq (.region [⟨(some 4), (.mv (.c (.b false))), none, 0, []⟩])
  .ret) .skip))
  (.seq (.seq (.region [⟨(some 5), (.mv (.c (.i .i64 0))), none, 0, []⟩])
  (.block 0 (.loop (.seq (.seq (.region [⟨(some 11), (.mv (.t 5)), none, 0, []⟩, ⟨(some 12), (.mv (.t 0)), none, 1, []⟩, ⟨(some 13), (.lenx (.t 12)), none, 2, []⟩, ⟨(some 14), (.bin .lss (.t 11) (.t 13)), none, 3, []⟩])
  (.cond (.t 14) .skip (.exit 0)))
  (.seq (.block 1 (.seq (.draw [⟨(some 17), (.mv (.t 0)), none, 0, []⟩, ⟨(some 18), (.mv (.t 5)), none, 1, []⟩, ⟨(some 19), (.isl 2 (.t 17) (.t 18)), none, 2, [0, 1]⟩, ⟨(some 20), (.fadd 0 (.t 19)), none, 3, [0, 1, 2]⟩, ⟨(some 22), (.mv (.t 1)), none, 5, []⟩, ⟨(some 23), (.mv (.t 5)), none, 6, []⟩, ⟨(some 24), (.isl 2 (.t 22) (.t 23)), none, 7, [5, 6]⟩, ⟨(some 25), (.fadd 0 (.t 24)), none, 8, [5, 6, 7]⟩, ⟨(some 21), (.load false 1 (.t 20)), none, 4, [0, 1, 2, 3]⟩, ⟨(some 26), (.load false 1 (.t 25)), none, 9, [5, 6, 7, 8]⟩, ⟨(some 27), (.bin .neq (.t 21) (.t 26)), none, 10, [0, 1, 2, 3, 4, 5, 6, 7, 8, 9]⟩, ⟨(some 28), (.mv (.t 27)), none, 11, [0, 1, 2, 3, 4, 5, 6, 7, 8, 9, 10]⟩, ⟨(some 29), (.mv (.t 0)), (some (28, false)), 12, [0, 1, 2, 3, 4, 5, 6, 7, 8, 9, 10, 11]⟩, ⟨(some 30), (.mv (.t 5)), (some (28, false)), 13, [0, 1, 2, 3, 4, 5, 6, 7, 8, 9, 10, 11]⟩, ⟨(some 31), (.isl 2 (.t 29) (.t 30)), (some (28, false)), 14, [0, 1, 2, 3, 4, 5, 6, 7, 8, 9, 10, 11, 12, 13]⟩, ⟨(some 32), (.fadd 1 (.t 31)), (some (28, false)), 15, [0, 1, 2, 3, 4, 5, 6, 7, 8, 9, 10, 11, 12, 13, 14]⟩, ⟨(some 35), (.mv (.t 1)), (some (28, false)), 18, [0, 1, 2, 3, 4, 5, 6, 7, 8, 9, 10, 11]⟩, ⟨(some 36), (.mv (.t 5)), (some (28, false)), 19, [0, 1, 2, 3, 4, 5, 6, 7, 8, 9, 10, 11]⟩, ⟨(some 37), (.isl 2 (.t 35) (.t 36)), (some (28, false)), 20, [0, 1, 2, 3, 4, 5, 6, 7, 8, 9, 10, 11, 18, 19]⟩, ⟨(some 38), (.fadd 1 (.t 37)), (some (28, false)), 21, [0, 1, 2, 3, 4, 5, 6, 7, 8, 9, 10, 11, 18, 19, 20]⟩, ⟨(some 33), (.load false 1 (.t 32)), (some (28, false)), 16, [0, 1, 2, 3, 4, 5, 6, 7, 8, 9, 10, 11, 12, 13, 14, 15]⟩, ⟨(some 34), (.cb2s (.t 33)), (some (28, false)), 17, [0, 1, 2, 3, 4, 5, 6, 7, 8, 9, 10, 11, 12, 13, 14, 15, 16]⟩, ⟨(some 39), (.load false 1 (.t 38)), (some (28, false)), 22, [0, 1, 2, 3, 4, 5, 6, 7, 8, 9, 10, 11, 18, 19, 20, 21]⟩, ⟨(some 40), (.cb2s (.t 39)), (some (28, false)), 23, [0, 1, 2, 3, 4, 5, 6, 7, 8, 9, 10, 11, 18, 19, 20, 21, 22]⟩, ⟨(some 41), (.bin .neq (.t 34) (.t 40)), (some (28, false)), 24, [0, 1, 2, 3, 4, 5, 6, 7, 8, 9, 10, 11, 12, 13, 14, 15, 16, 17, 18, 19, 20, 21, 22, 23]⟩, ⟨(some 42), (.pick (.t 28) (.c (.b true)) (.t 41)), none, 25, [0, 1, 2, 3, 4, 5, 6, 7, 8, 9, 10, 11, 12, 13, 14, 15, 16, 17, 18, 19, 20, 21, 22, 23, 24]⟩])
  (.cond (.t 42) (.seq (.region [⟨(some 4), (.mv (.c (.b false))), none, 0, []⟩])
  .ret) .skip)))
  (.region [⟨(some 15), (.mv (.t 5)), none, 0, []⟩, ⟨(some 16), (.bin .add (.t 15) (.c (.i .i64 1))), none, 1, []⟩, ⟨(some 5), (.mv (.t 16)), none, 2, []⟩]))))))
  (.seq (.region [⟨(some 4), (.mv (.c (.b true))), none, 0, []⟩])
  .ret))))
def x75 : XFun := ⟨x75b, [(.t 4)]⟩
theorem x75_ok : compF Try.prog 75 = some x75 := by kernel_rfl
/-- bollard/bollardref02.Dist (11) -/
def x76b : XC := (.seq (.region [⟨(some 4), (.mv (.c (.i .u32 0))), none, 0, []⟩])
  (.seq (.region [⟨(some 5), (.mv (.t 0)), none, 0, []⟩, ⟨(some 6), (.cint .i64 (.t 5)), none, 1, []⟩, ⟨(some 7), (.mv (.t 1)), none, 2, []⟩, ⟨(some 8), (.cint .i64 (.t 7)), none, 3, []⟩, ⟨(some 9), (.call (.c (.fn (.func 78) [] [])) [(.t 6), (.t 8), (.c (.i .i64 4294967296))]), none, 4, []⟩, ⟨(some 10), (.cint .u32 (.t 9)), none, 5, []⟩, ⟨(some 4), (.mv (.t 10)), none, 6, []⟩])
  .ret))
def x76 : XFun := ⟨x76b, [(.t 4)]⟩
theorem x76_ok : compF Try.prog 76 = some x76 := by kernel_rfl
/-- slices.IndexFunc[[]bollard/api.Block,bollard/api.Block] (19) -/
def x77b : XC := (.seq (.region [⟨(some 4), (.mv (.c (.i .i64 0))), none, 0, []⟩])
  (.seq (.seq (.region [⟨(some 6), (.mv (.t 0)), none, 0, []⟩, ⟨(some 7), (.lenx (.t 6)), none, 1, []⟩, ⟨(some 8), (.mv (.c (.i .i64 0))), none, 2, []⟩])
  (.block 0 (.loop (.seq (.region [⟨(some 9), (.bin .lss (.t 8) (.t 7)), none, 0, []⟩])
  (.seq (.cond (.t 9) .skip (.exit 0))
  (.seq (.block 1 (.seq (.region [⟨(some 10), (.mv (.t 8)), none, 0, []⟩, ⟨(some 5), (.mv (.t 10)), none, 1, []⟩])
  (.seq (.region [⟨(some 11), (.mv (.t 1)), none, 0, []⟩, ⟨(some 12), (.mv (.t 0)), none, 1, []⟩, ⟨(some 13), (.mv (.t 5)), none, 2, []⟩, ⟨(some 14), (.isl 2 (.t 12) (.t 13)), none, 3, []⟩, ⟨(some 15), (.load true 2 (.t 14)), none, 4, []⟩, ⟨(some 16), (.call (.t 11) [(.t 15)]), none, 5, []⟩])
  (.cond (.t 16) (.seq (.region [⟨(some 17), (.mv (.t 5)), none, 0, []⟩, ⟨(some 4), (.mv (.t 17)), none, 1, []⟩])
  .ret) .skip))))
  (.region [⟨(some 18), (.bin .add (.t 8) (.c (.i .i64 1))), none, 0, []⟩, ⟨(some 8), (.mv (.t 18)), none, 1, []⟩])))))))
  (.seq (.region [⟨(some 4), (.mv (.c (.i .i64 (-1)))), none, 0, []⟩])
  .ret)))
def x77 : XFun := ⟨x77b, [(.t 4)]⟩
theorem x77_ok : compF Try.prog 77 = some x77 := by kernel_rfl
/-- bollard/bollardref02.steps (18) -/
def x78b : XC := (.seq (.region [⟨(some 6), (.mv (.c (.i .i64 0))), none, 0, []⟩])
  (.seq (.seq (.region [⟨(some 7), (.mv (.t 1)), none, 0, []⟩, ⟨(some 8), (.mv (.t 0)), none, 1, []⟩, ⟨(some 9), (.bin .geq (.t 7) (.t 8)), none, 2, []⟩])
  (.cond (.t 9) (.seq (.region [⟨(some 10), (.mv (.t 1)), none, 0, []⟩, ⟨(some 11), (.mv (.t 0)), none, 1, []⟩, ⟨(some 12), (.bin .sub (.t 10) (.t 11)), none, 2, []⟩, ⟨(some 6), (.mv (.t 12)), none, 3, []⟩])
  .ret) .skip))
  (.seq (.region [⟨(some 13), (.mv (.t 1)), none, 0, []⟩, ⟨(some 14), (.mv (.t 2)), none, 1, []⟩, ⟨(some 15), (.bin .add (.t 13) (.t 14)), none, 2, []⟩, ⟨(some 16), (.mv (.t 0)), none, 3, []⟩, ⟨(some 17), (.bin .sub (.t 15) (.t 16)), none, 4, []⟩, ⟨(some 6), (.mv (.t 17)), none, 5, []⟩])
  .ret)))
def x78 : XFun := ⟨x78b, [(.t 6)]⟩
theorem x78_ok : compF Try.prog 78 = some x78 := by kernel_rfl
def tab : Nat → Option XFun := fun g => match g with
  | 3 => some x3
  | 4 => some x4
  | 5 => some x5
  | 6 => some x6
  | 7 => some x7
  | 8 => some x8
  | 10 => some x10
  | 11 => some x11
  | 12 => some x12
  | 13 => some x13
  | 14 => some x14
  | 15 => some x15
  | 16 => some x16
  | 17 => some x17
  | 18 => some x18
  | 19 => some x19
  | 20 => some x20
  | 21 => some x21
  | 22 => some x22
  | 23 => some x23
  | 24 => some x24
  | 25 => some x25
  | 26 => some x26
  | 27 => some x27
  | 28 => some x28
  | 29 => some x29
  | 30 => some x30
  | 31 => some x31
  | 32 => some x32
  | 33 => some x33
  | 34 => some x34
  | 35 => some x35
  | 36 => some x36
  | 37 => some x37
  | 38 => some x38
  | 39 => some x39
  | 40 => some x40
  | 41 => some x41
  | 42 => some x42
  | 43 => some x43
  | 44 => some x44
  | 45 => some x45
  | 46 => some x46
  | 47 => some x47
  | 48 => some x48
  | 49 => some x49
  | 50 => some x50
  | 51 => some x51
  | 52 => some x52
  | 53 => some x53
  | 54 => some x54
  | 55 => some x55
  | 56 => some x56
  | 57 => some x57
  | 58 => some x58
  | 59 => some x59
  | 60 => some x60
  | 61 => some x61
  | 62 => some x62
  | 63 => some x63
  | 64 => some x64
  | 65 => some x65
  | 66 => some x66
  | 67 => some x67
  | 68 => some x68
  | 69 => some x69
  | 70 => some x70
  | 71 => some x71
  | 72 => some x72
  | 73 => some x73
  | 74 => some x74
  | 75 => some x75
  | 76 => some x76
  | 77 => some x77
  | 78 => some x78
  | _ => none
theorem tab_ok : TabOK Try.prog tab := by
  intro g F h
  unfold tab at h
  split at h
  · cases h; exact x3_ok
  · cases h; exact x4_ok
  · cases h; exact x5_ok
  · cases h; exact x6_ok
  · cases h; exact x7_ok
  · cases h; exact x8_ok
  · cases h; exact x10_ok
  · cases h; exact x11_ok
  · cases h; exact x12_ok
  · cases h; exact x13_ok
  · cases h; exact x14_ok
  · cases h; exact x15_ok
  · cases h; exact x16_ok
  · cases h; exact x17_ok
  · cases h; exact x18_ok
  · cases h; exact x19_ok
  · cases h; exact x20_ok
  · cases h; exact x21_ok
  · cases h; exact x22_ok
  · cases h; exact x23_ok
  · cases h; exact x24_ok
  · cases h; exact x25_ok
  · cases h; exact x26_ok
  · cases h; exact x27_ok
  · cases h; exact x28_ok
  · cases h; exact x29_ok
  · cases h; exact x30_ok
  · cases h; exact x31_ok
  · cases h; exact x32_ok
  · cases h; exact x33_ok
  · cases h; exact x34_ok
  · cases h; exact x35_ok
  · cases h; exact x36_ok
  · cases h; exact x37_ok
  · cases h; exact x38_ok
  · cases h; exact x39_ok
  · cases h; exact x40_ok
  · cases h; exact x41_ok
  · cases h; exact x42_ok
  · cases h; exact x43_ok
  · cases h; exact x44_ok
  · cases h; exact x45_ok
  · cases h; exact x46_ok
  · cases h; exact x47_ok
  · cases h; exact x48_ok
  · cases h; exact x49_ok
  · cases h; exact x50_ok
  · cases h; exact x51_ok
  · cases h; exact x52_ok
  · cases h; exact x53_ok
  · cases h; exact x54_ok
  · cases h; exact x55_ok
  · cases h; exact x56_ok
  · cases h; exact x57_ok
  · cases h; exact x58_ok
  · cases h; exact x59_ok
  · cases h; exact x60_ok
  · cases h; exact x61_ok
  · cases h; exact x62_ok
  · cases h; exact x63_ok
  · cases h; exact x64_ok
  · cases h; exact x65_ok
  · cases h; exact x66_ok
  · cases h; exact x67_ok
  · cases h; exact x68_ok
  · cases h; exact x69_ok
  · cases h; exact x70_ok
  · cases h; exact x71_ok
  · cases h; exact x72_ok
  · cases h; exact x73_ok
  · cases h; exact x74_ok
  · cases h; exact x75_ok
  · cases h; exact x76_ok
  · cases h; exact x77_ok
  · cases h; exact x78_ok
  · cases h
end Go.Proofs.Ytipcacpaadgagaa.E
