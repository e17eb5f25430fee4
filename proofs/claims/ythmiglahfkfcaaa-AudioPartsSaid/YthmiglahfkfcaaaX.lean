/- The compiled functions of the seat, as told by the evaluator's compiler; written by a program of this session, wip/eng/px.lean. It bears no condition. -/
import Derived.Test.YthmiglahfkfcaaaE19
import Derived.Test.YthmiglahfkfcaaaChecked
namespace Go.Proofs.Ythmiglahfkfcaaa.E
set_option linter.unusedVariables false
/-- bollard/bollardlaw20.AudioMany (104) -/
def x3b : XC := (.seq (.region [⟨(some 6), (.mv (.c (.b false))), none, 0, []⟩])
  (.seq (.region [⟨(some 16), (.call (.c (.fn (.func 8) [] [])) []), none, 0, []⟩, ⟨(some 7), (.mv (.t 16)), none, 1, []⟩])
  (.seq (.region [⟨(some 17), (.mv (.t 2)), none, 0, []⟩, ⟨(some 18), (.bin .and (.t 17) (.c (.i .i64 15))), none, 1, []⟩, ⟨(some 19), (.bin .add (.c (.i .i64 1)) (.t 18)), none, 2, []⟩, ⟨(some 8), (.mv (.t 19)), none, 3, []⟩])
  (.seq (.region [⟨(some 20), (.call (.c (.fn (.func 9) [] [])) [(.c (.i .i64 3)), (.c (.i .i64 64))]), none, 0, []⟩, ⟨(some 9), (.mv (.t 20)), none, 1, []⟩])
  (.seq (.seq (.region [⟨(some 10), (.mv (.c (.i .i64 0))), none, 0, []⟩])
  (.block 0 (.loop (.seq (.seq (.region [⟨(some 21), (.mv (.t 10)), none, 0, []⟩, ⟨(some 22), (.bin .lss (.t 21) (.c (.i .i64 3))), none, 1, []⟩])
  (.cond (.t 22) .skip (.exit 0)))
  (.seq (.block 1 (.seq (.region [⟨(some 25), (.mv (.t 9)), none, 0, []⟩, ⟨(some 26), (.mv (.t 10)), none, 1, []⟩, ⟨(some 27), (.call (.c (.fn (.func 10) [] [])) [(.t 25), (.t 26)]), none, 2, []⟩, ⟨(some 28), (.bin .neq (.t 27) (.c (.i .i64 0))), none, 3, []⟩])
  (.cond (.t 28) (.seq (.region [⟨(some 6), (.mv (.c (.b false))), none, 0, []⟩])
  .ret) .skip)))
  (.region [⟨(some 23), (.mv (.t 10)), none, 0, []⟩, ⟨(some 24), (.bin .add (.t 23) (.c (.i .i64 1))), none, 1, []⟩, ⟨(some 10), (.mv (.t 24)), none, 2, []⟩]))))))
  (.seq (.seq (.region [⟨(some 11), (.mv (.c (.i .i64 0))), none, 0, []⟩])
  (.block 2 (.loop (.seq (.seq (.region [⟨(some 29), (.mv (.t 11)), none, 0, []⟩, ⟨(some 30), (.mv (.t 8)), none, 1, []⟩, ⟨(some 31), (.bin .lss (.t 29) (.t 30)), none, 2, []⟩])
  (.cond (.t 31) .skip (.exit 2)))
  (.seq (.block 3 (.seq (.region [⟨(some 34), (.mv (.t 9)), none, 0, []⟩, ⟨(some 35), (.mv (.t 0)), none, 1, []⟩, ⟨(some 36), (.mv (.t 11)), none, 2, []⟩, ⟨(some 37), (.cint .u16 (.t 36)), none, 3, []⟩, ⟨(some 38), (.bin .add (.t 35) (.t 37)), none, 4, []⟩, ⟨(some 39), (.build [(.b false), (.i .u8 0), (.i .u16 0), (.i .u32 0), (.i .u32 0), (.sl none 0 0 0)] [(2, 1, (.t 38)), (4, 1, (.c (.i .u32 9)))]), none, 5, []⟩, ⟨(some 40), (.call (.c (.fn (.func 11) [] [])) [(.t 34), (.c (.i .i64 0)), (.t 39)]), none, 6, []⟩])
  (.region [⟨(some 41), (.mv (.t 9)), none, 0, []⟩, ⟨(some 42), (.mv (.t 1)), none, 1, []⟩, ⟨(some 43), (.mv (.t 11)), none, 2, []⟩, ⟨(some 44), (.bin .mul (.c (.i .i64 2)) (.t 43)), none, 3, []⟩, ⟨(some 45), (.cint .u16 (.t 44)), none, 4, []⟩, ⟨(some 46), (.bin .add (.t 42) (.t 45)), none, 5, []⟩, ⟨(some 47), (.build [(.b false), (.i .u8 0), (.i .u16 0), (.i .u32 0), (.i .u32 0), (.sl none 0 0 0)] [(2, 1, (.t 46)), (4, 1, (.c (.i .u32 9)))]), none, 6, []⟩, ⟨(some 48), (.call (.c (.fn (.func 11) [] [])) [(.t 41), (.c (.i .i64 1)), (.t 47)]), none, 7, []⟩])))
  (.region [⟨(some 32), (.mv (.t 11)), none, 0, []⟩, ⟨(some 33), (.bin .add (.t 32) (.c (.i .i64 1))), none, 1, []⟩, ⟨(some 11), (.mv (.t 33)), none, 2, []⟩]))))))
  (.seq (.region [⟨(some 12), (.mv (.c (.i .i64 0))), none, 0, []⟩])
  (.seq (.region [⟨(some 13), (.mv (.c (.i .i64 0))), none, 0, []⟩])
  (.seq (.block 4 (.loop (.block 5 (.seq (.region [⟨(some 50), (.mv (.t 9)), none, 0, []⟩, ⟨(some 51), (.call (.c (.fn (.func 12) [] [])) [(.t 50), (.c (.i .i64 2))]), none, 1, []⟩, ⟨(some 49), (.mv (.t 51)), none, 2, []⟩, ⟨(some 52), (.ext (.t 49) 0), none, 3, []⟩, ⟨(some 53), (.ext (.t 49) 1), none, 4, []⟩, ⟨(some 14), (.alloc [(.b false), (.i .u8 0), (.i .u16 0), (.i .u32 0), (.i .u32 0), (.sl none 0 0 0)]), none, 5, []⟩, ⟨none, (.store 6 (.t 14) (.t 52)), none, 6, []⟩, ⟨(some 15), (.mv (.t 53)), none, 7, []⟩])
  (.seq (.seq (.region [⟨(some 54), (.mv (.t 15)), none, 0, []⟩, ⟨(some 55), (.unx .not (.t 54)), none, 1, []⟩])
  (.cond (.t 55) (.exit 4) .skip))
  (.seq (.region [⟨(some 56), (.fadd 4 (.t 14)), none, 0, []⟩, ⟨(some 57), (.load false 1 (.t 56)), none, 1, []⟩, ⟨(some 58), (.bin .eql (.t 57) (.c (.i .u32 1))), none, 2, []⟩, ⟨(some 59), (.mv (.t 58)), none, 3, []⟩, ⟨(some 60), (.fadd 2 (.t 14)), (some (59, true)), 4, []⟩, ⟨(some 61), (.load false 1 (.t 60)), (some (59, true)), 5, []⟩, ⟨(some 62), (.cint .i64 (.t 61)), (some (59, true)), 6, []⟩, ⟨(some 63), (.mv (.t 12)), (some (59, true)), 7, []⟩, ⟨(some 64), (.bin .eql (.t 62) (.t 63)), (some (59, true)), 8, []⟩, ⟨(some 65), (.pick (.t 59) (.t 64) (.c (.b false))), none, 9, []⟩])
  (.cond (.t 65) (.region [⟨(some 66), (.mv (.t 12)), none, 0, []⟩, ⟨(some 67), (.bin .add (.t 66) (.c (.i .i64 1))), none, 1, []⟩, ⟨(some 12), (.mv (.t 67)), none, 2, []⟩]) (.seq (.region [⟨(some 68), (.fadd 4 (.t 14)), none, 0, []⟩, ⟨(some 69), (.load false 1 (.t 68)), none, 1, []⟩, ⟨(some 70), (.bin .eql (.t 69) (.c (.i .u32 2))), none, 2, []⟩, ⟨(some 71), (.mv (.t 70)), none, 3, []⟩, ⟨(some 72), (.fadd 2 (.t 14)), (some (71, true)), 4, []⟩, ⟨(some 73), (.load false 1 (.t 72)), (some (71, true)), 5, []⟩, ⟨(some 74), (.cint .i64 (.t 73)), (some (71, true)), 6, []⟩, ⟨(some 75), (.mv (.t 13)), (some (71, true)), 7, []⟩, ⟨(some 76), (.bin .mul (.c (.i .i64 2)) (.t 75)), (some (71, true)), 8, []⟩, ⟨(some 77), (.bin .eql (.t 74) (.t 76)), (some (71, true)), 9, []⟩, ⟨(some 78), (.pick (.t 71) (.t 77) (.c (.b false))), none, 10, []⟩])
  (.cond (.t 78) (.region [⟨(some 79), (.mv (.t 13)), none, 0, []⟩, ⟨(some 80), (.bin .add (.t 79) (.c (.i .i64 1))), none, 1, []⟩, ⟨(some 13), (.mv (.t 80)), none, 2, []⟩]) (.seq (.region [⟨(some 6), (.mv (.c (.b false))), none, 0, []⟩])
  .ret))))))))))
  (.seq (.region [⟨(some 81), (.mv (.t 7)), none, 0, []⟩, ⟨(some 82), (.mv (.t 81)), none, 1, []⟩, ⟨(some 83), (.mv (.t 12)), (some (82, true)), 2, []⟩, ⟨(some 84), (.mv (.t 8)), (some (82, true)), 3, []⟩, ⟨(some 85), (.bin .eql (.t 83) (.t 84)), (some (82, true)), 4, []⟩, ⟨(some 86), (.pick (.t 82) (.t 85) (.c (.b false))), none, 5, []⟩, ⟨(some 87), (.mv (.t 86)), none, 6, []⟩, ⟨(some 88), (.mv (.t 13)), (some (87, true)), 7, []⟩, ⟨(some 89), (.mv (.t 8)), (some (87, true)), 8, []⟩, ⟨(some 90), (.bin .eql (.t 88) (.t 89)), (some (87, true)), 9, []⟩, ⟨(some 91), (.pick (.t 87) (.t 90) (.c (.b false))), none, 10, []⟩, ⟨(some 92), (.mv (.t 91)), none, 11, []⟩, ⟨(some 93), (.mv (.t 9)), (some (92, true)), 12, []⟩, ⟨(some 94), (.call (.c (.fn (.func 13) [] [])) [(.t 93), (.c (.i .i64 0))]), (some (92, true)), 13, []⟩, ⟨(some 95), (.mv (.t 8)), (some (92, true)), 14, []⟩, ⟨(some 96), (.bin .eql (.t 94) (.t 95)), (some (92, true)), 15, []⟩, ⟨(some 97), (.pick (.t 92) (.t 96) (.c (.b false))), none, 16, []⟩, ⟨(some 98), (.mv (.t 97)), none, 17, []⟩, ⟨(some 99), (.mv (.t 9)), (some (98, true)), 18, []⟩, ⟨(some 100), (.call (.c (.fn (.func 13) [] [])) [(.t 99), (.c (.i .i64 1))]), (some (98, true)), 19, []⟩, ⟨(some 101), (.mv (.t 8)), (some (98, true)), 20, []⟩, ⟨(some 102), (.bin .eql (.t 100) (.t 101)), (some (98, true)), 21, []⟩, ⟨(some 103), (.pick (.t 98) (.t 102) (.c (.b false))), none, 22, []⟩, ⟨(some 6), (.mv (.t 103)), none, 23, []⟩])
  .ret))))))))))
def x3 : XFun := ⟨x3b, [(.t 6)]⟩
theorem x3_ok : compF Try.prog 3 = some x3 := by kernel_rfl
/-- bollard/bollardlaw20.AudioParts (167) -/
def x4b : XC := (.seq (.region [⟨(some 8), (.mv (.c (.b false))), none, 0, []⟩])
  (.seq (.region [⟨(some 19), (.call (.c (.fn (.func 8) [] [])) []), none, 0, []⟩, ⟨(some 9), (.mv (.t 19)), none, 1, []⟩])
  (.seq (.seq (.region [⟨(some 20), (.mv (.t 2)), none, 0, []⟩, ⟨(some 21), (.lenx (.t 20)), none, 1, []⟩, ⟨(some 22), (.bin .gtr (.t 21) (.c (.i .i64 100))), none, 2, []⟩, ⟨(some 23), (.mv (.t 22)), none, 3, []⟩, ⟨(some 24), (.mv (.t 3)), (some (23, false)), 4, []⟩, ⟨(some 25), (.lenx (.t 24)), (some (23, false)), 5, []⟩, ⟨(some 26), (.bin .gtr (.t 25) (.c (.i .i64 200))), (some (23, false)), 6, []⟩, ⟨(some 27), (.pick (.t 23) (.c (.b true)) (.t 26)), none, 7, []⟩])
  (.cond (.t 27) (.seq (.region [⟨(some 28), (.mv (.t 9)), none, 0, []⟩, ⟨(some 8), (.mv (.t 28)), none, 1, []⟩])
  .ret) .skip))
  (.seq (.region [⟨(some 29), (.mv (.t 0)), none, 0, []⟩, ⟨(some 30), (.call (.c (.fn (.func 9) [] [])) [(.c (.i .i64 2)), (.t 29)]), none, 1, []⟩, ⟨(some 10), (.mv (.t 30)), none, 2, []⟩])
  (.seq (.seq (.region [⟨(some 31), (.mv (.t 10)), none, 0, []⟩, ⟨(some 32), (.call (.c (.fn (.func 10) [] [])) [(.t 31), (.c (.i .i64 0))]), none, 1, []⟩, ⟨(some 33), (.bin .neq (.t 32) (.c (.i .i64 0))), none, 2, []⟩, ⟨(some 34), (.mv (.t 33)), none, 3, []⟩, ⟨(some 35), (.mv (.t 10)), (some (34, false)), 4, []⟩, ⟨(some 36), (.call (.c (.fn (.func 10) [] [])) [(.t 35), (.c (.i .i64 1))]), (some (34, false)), 5, []⟩, ⟨(some 37), (.bin .neq (.t 36) (.c (.i .i64 0))), (some (34, false)), 6, []⟩, ⟨(some 38), (.pick (.t 34) (.c (.b true)) (.t 37)), none, 7, []⟩])
  (.cond (.t 38) (.seq (.region [⟨(some 8), (.mv (.c (.b false))), none, 0, []⟩])
  .ret) .skip))
  (.seq (.region [⟨(some 11), (.mv (.c (.i .i64 0))), none, 0, []⟩])
  (.seq (.region [⟨(some 12), (.mv (.c (.i .u16 0))), none, 0, []⟩])
  (.seq (.seq (.region [⟨(some 13), (.mv (.c (.i .i64 0))), none, 0, []⟩])
  (.block 0 (.loop (.seq (.seq (.region [⟨(some 39), (.mv (.t 13)), none, 0, []⟩, ⟨(some 40), (.mv (.t 2)), none, 1, []⟩, ⟨(some 41), (.lenx (.t 40)), none, 2, []⟩, ⟨(some 42), (.bin .lss (.t 39) (.t 41)), none, 3, []⟩])
  (.cond (.t 42) .skip (.exit 0)))
  (.seq (.block 1 (.seq (.seq (.region [⟨(some 45), (.mv (.t 13)), none, 0, []⟩, ⟨(some 46), (.bin .eql (.t 45) (.c (.i .i64 0))), none, 1, []⟩])
  (.cond (.t 46) (.region [⟨(some 47), (.mv (.t 2)), none, 0, []⟩, ⟨(some 48), (.isl 1 (.t 47) (.c (.i .i64 0))), none, 1, []⟩, ⟨(some 49), (.load false 1 (.t 48)), none, 2, []⟩, ⟨(some 12), (.mv (.t 49)), none, 3, []⟩]) .skip))
  (.seq (.region [⟨(some 50), (.mv (.t 10)), none, 0, []⟩, ⟨(some 51), (.mv (.t 13)), none, 1, []⟩, ⟨(some 52), (.bin .rem (.t 51) (.c (.i .i64 2))), none, 2, []⟩, ⟨(some 53), (.bin .eql (.t 52) (.c (.i .i64 0))), none, 3, []⟩, ⟨(some 54), (.mv (.t 2)), none, 4, []⟩, ⟨(some 55), (.mv (.t 13)), none, 5, []⟩, ⟨(some 56), (.isl 1 (.t 54) (.t 55)), none, 6, []⟩, ⟨(some 57), (.load false 1 (.t 56)), none, 7, []⟩, ⟨(some 58), (.mv (.t 13)), none, 8, []⟩, ⟨(some 59), (.cint .u32 (.t 58)), none, 9, []⟩, ⟨(some 60), (.mv (.t 1)), none, 10, []⟩, ⟨(some 61), (.mv (.t 13)), none, 11, []⟩, ⟨(some 62), (.cint .u8 (.t 61)), none, 12, []⟩, ⟨(some 63), (.mv (.t 13)), none, 13, []⟩, ⟨(some 64), (.bin .shr (.t 63) (.c (.i .u64 8))), none, 14, []⟩, ⟨(some 65), (.cint .u8 (.t 64)), none, 15, []⟩, ⟨(some 66), (.bslice [(.i .u8 0), (.i .u8 0)] [(0, 1, (.t 62)), (1, 1, (.t 65))] 2), none, 16, []⟩, ⟨(some 67), (.build [(.b false), (.i .u8 0), (.i .u16 0), (.i .u32 0), (.i .u32 0), (.sl none 0 0 0)] [(0, 1, (.t 53)), (1, 1, (.c (.i .u8 5))), (2, 1, (.t 57)), (3, 1, (.t 59)), (4, 1, (.t 60)), (5, 1, (.t 66))]), none, 17, []⟩, ⟨(some 68), (.call (.c (.fn (.func 11) [] [])) [(.t 50), (.c (.i .i64 0)), (.t 67)]), none, 18, []⟩])
  (.seq (.region [⟨(some 14), (.mv (.c (.i .i64 0))), none, 0, []⟩])
  (.seq (.seq (.region [⟨(some 69), (.mv (.t 13)), none, 0, []⟩, ⟨(some 70), (.mv (.t 3)), none, 1, []⟩, ⟨(some 71), (.lenx (.t 70)), none, 2, []⟩, ⟨(some 72), (.bin .lss (.t 69) (.t 71)), none, 3, []⟩])
  (.cond (.t 72) (.region [⟨(some 73), (.mv (.t 3)), none, 0, []⟩, ⟨(some 74), (.mv (.t 13)), none, 1, []⟩, ⟨(some 75), (.isl 1 (.t 73) (.t 74)), none, 2, []⟩, ⟨(some 76), (.load false 1 (.t 75)), none, 3, []⟩, ⟨(some 77), (.bin .and (.t 76) (.c (.i .i64 3))), none, 4, []⟩, ⟨(some 14), (.mv (.t 77)), none, 5, []⟩]) .skip))
  (.seq (.region [⟨(some 15), (.mv (.c (.i .i64 0))), none, 0, []⟩])
  (.block 2 (.loop (.seq (.seq (.region [⟨(some 78), (.mv (.t 15)), none, 0, []⟩, ⟨(some 79), (.mv (.t 14)), none, 1, []⟩, ⟨(some 80), (.bin .lss (.t 78) (.t 79)), none, 2, []⟩, ⟨(some 81), (.mv (.t 80)), none, 3, []⟩, ⟨(some 82), (.mv (.t 13)), (some (81, false)), 4, []⟩, ⟨(some 83), (.mv (.t 2)), (some (81, false)), 5, []⟩, ⟨(some 84), (.lenx (.t 83)), (some (81, false)), 6, []⟩, ⟨(some 85), (.bin .sub (.t 84) (.c (.i .i64 1))), (some (81, false)), 7, []⟩, ⟨(some 86), (.bin .eql (.t 82) (.t 85)), (some (81, false)), 8, []⟩, ⟨(some 87), (.pick (.t 81) (.c (.b true)) (.t 86)), none, 9, []⟩])
  (.cond (.t 87) .skip (.exit 2)))
  (.seq (.block 3 (.seq (.region [⟨(some 91), (.mv (.t 10)), none, 0, []⟩, ⟨(some 92), (.call (.c (.fn (.func 12) [] [])) [(.t 91), (.c (.i .i64 1))]), none, 1, []⟩, ⟨(some 90), (.mv (.t 92)), none, 2, []⟩, ⟨(some 93), (.ext (.t 90) 0), none, 3, []⟩, ⟨(some 94), (.ext (.t 90) 1), none, 4, []⟩, ⟨(some 16), (.alloc [(.b false), (.i .u8 0), (.i .u16 0), (.i .u32 0), (.i .u32 0), (.sl none 0 0 0)]), none, 5, []⟩, ⟨none, (.store 6 (.t 16) (.t 93)), none, 6, []⟩, ⟨(some 17), (.mv (.t 94)), none, 7, []⟩])
  (.seq (.seq (.region [⟨(some 95), (.mv (.t 17)), none, 0, []⟩, ⟨(some 96), (.unx .not (.t 95)), none, 1, []⟩])
  (.cond (.t 96) (.exit 2) .skip))
  (.seq (.region [⟨(some 97), (.fadd 3 (.t 16)), none, 0, []⟩, ⟨(some 98), (.load false 1 (.t 97)), none, 1, []⟩, ⟨(some 99), (.cint .i64 (.t 98)), none, 2, []⟩, ⟨(some 18), (.mv (.t 99)), none, 3, []⟩])
  (.seq (.seq (.draw [⟨(some 100), (.mv (.t 18)), none, 0, []⟩, ⟨(some 101), (.mv (.t 11)), none, 1, []⟩, ⟨(some 102), (.bin .lss (.t 100) (.t 101)), none, 2, [0, 1]⟩, ⟨(some 103), (.mv (.t 102)), none, 3, [0, 1, 2]⟩, ⟨(some 104), (.mv (.t 18)), (some (103, false)), 4, [0, 1, 2, 3]⟩, ⟨(some 105), (.mv (.t 13)), (some (103, false)), 5, [0, 1, 2, 3]⟩, ⟨(some 106), (.bin .gtr (.t 104) (.t 105)), (some (103, false)), 6, [0, 1, 2, 3, 4, 5]⟩, ⟨(some 107), (.pick (.t 103) (.c (.b true)) (.t 106)), none, 7, [0, 1, 2, 3, 4, 5, 6]⟩, ⟨(some 108), (.mv (.t 107)), none, 8, [0, 1, 2, 3, 4, 5, 6, 7]⟩, ⟨(some 109), (.fadd 1 (.t 16)), (some (108, false)), 9, [0, 1, 2, 3, 4, 5, 6, 7, 8]⟩, ⟨(some 110), (.load false 1 (.t 109)), (some (108, false)), 10, [0, 1, 2, 3, 4, 5, 6, 7, 8, 9]⟩, ⟨(some 111), (.bin .neq (.t 110) (.c (.i .u8 5))), (some (108, false)), 11, [0, 1, 2, 3, 4, 5, 6, 7, 8, 9, 10]⟩, ⟨(some 112), (.pick (.t 108) (.c (.b true)) (.t 111)), none, 12, [0, 1, 2, 3, 4, 5, 6, 7, 8, 9, 10, 11]⟩, ⟨(some 113), (.mv (.t 112)), none, 13, [0, 1, 2, 3, 4, 5, 6, 7, 8, 9, 10, 11, 12]⟩, ⟨(some 114), (.fadd 0 (.t 16)), (some (113, false)), 14, [0, 1, 2, 3, 4, 5, 6, 7, 8, 9, 10, 11, 12, 13]⟩, ⟨(some 116), (.mv (.t 18)), (some (113, false)), 16, [0, 1, 2, 3, 4, 5, 6, 7, 8, 9, 10, 11, 12, 13]⟩, ⟨(some 117), (.bin .rem (.t 116) (.c (.i .i64 2))), (some (113, false)), 17, [0, 1, 2, 3, 4, 5, 6, 7, 8, 9, 10, 11, 12, 13, 16]⟩, ⟨(some 118), (.bin .eql (.t 117) (.c (.i .i64 0))), (some (113, false)), 18, [0, 1, 2, 3, 4, 5, 6, 7, 8, 9, 10, 11, 12, 13, 16, 17]⟩, ⟨(some 115), (.load false 1 (.t 114)), (some (113, false)), 15, [0, 1, 2, 3, 4, 5, 6, 7, 8, 9, 10, 11, 12, 13, 14]⟩, ⟨(some 119), (.beq true (.t 115) (.t 118)), (some (113, false)), 19, [0, 1, 2, 3, 4, 5, 6, 7, 8, 9, 10, 11, 12, 13, 14, 15, 16, 17, 18]⟩, ⟨(some 120), (.pick (.t 113) (.c (.b true)) (.t 119)), none, 20, [0, 1, 2, 3, 4, 5, 6, 7, 8, 9, 10, 11, 12, 13, 14, 15, 16, 17, 18, 19]⟩, ⟨(some 121), (.mv (.t 120)), none, 21, [0, 1, 2, 3, 4, 5, 6, 7, 8, 9, 10, 11, 12, 13, 14, 15, 16, 17, 18, 19, 20]⟩, ⟨(some 122), (.fadd 4 (.t 16)), (some (121, false)), 22, [0, 1, 2, 3, 4, 5, 6, 7, 8, 9, 10, 11, 12, 13, 14, 15, 16, 17, 18, 19, 20, 21]⟩, ⟨(some 123), (.load false 1 (.t 122)), (some (121, false)), 23, [0, 1, 2, 3, 4, 5, 6, 7, 8, 9, 10, 11, 12, 13, 14, 15, 16, 17, 18, 19, 20, 21, 22]⟩, ⟨(some 124), (.bin .neq (.t 123) (.c (.i .u32 1))), (some (121, false)), 24, [0, 1, 2, 3, 4, 5, 6, 7, 8, 9, 10, 11, 12, 13, 14, 15, 16, 17, 18, 19, 20, 21, 22, 23]⟩, ⟨(some 125), (.pick (.t 121) (.c (.b true)) (.t 124)), none, 25, [0, 1, 2, 3, 4, 5, 6, 7, 8, 9, 10, 11, 12, 13, 14, 15, 16, 17, 18, 19, 20, 21, 22, 23, 24]⟩, ⟨(some 126), (.mv (.t 125)), none, 26, [0, 1, 2, 3, 4, 5, 6, 7, 8, 9, 10, 11, 12, 13, 14, 15, 16, 17, 18, 19, 20, 21, 22, 23, 24, 25]⟩, ⟨(some 127), (.fadd 5 (.t 16)), (some (126, false)), 27, [0, 1, 2, 3, 4, 5, 6, 7, 8, 9, 10, 11, 12, 13, 14, 15, 16, 17, 18, 19, 20, 21, 22, 23, 24, 25, 26]⟩, ⟨(some 129), (.mv (.t 18)), (some (126, false)), 29, [0, 1, 2, 3, 4, 5, 6, 7, 8, 9, 10, 11, 12, 13, 14, 15, 16, 17, 18, 19, 20, 21, 22, 23, 24, 25, 26]⟩, ⟨(some 130), (.cint .u8 (.t 129)), (some (126, false)), 30, [0, 1, 2, 3, 4, 5, 6, 7, 8, 9, 10, 11, 12, 13, 14, 15, 16, 17, 18, 19, 20, 21, 22, 23, 24, 25, 26, 29]⟩, ⟨(some 131), (.mv (.t 18)), (some (126, false)), 31, [0, 1, 2, 3, 4, 5, 6, 7, 8, 9, 10, 11, 12, 13, 14, 15, 16, 17, 18, 19, 20, 21, 22, 23, 24, 25, 26]⟩, ⟨(some 132), (.bin .shr (.t 131) (.c (.i .u64 8))), (some (126, false)), 32, [0, 1, 2, 3, 4, 5, 6, 7, 8, 9, 10, 11, 12, 13, 14, 15, 16, 17, 18, 19, 20, 21, 22, 23, 24, 25, 26, 31]⟩, ⟨(some 133), (.cint .u8 (.t 132)), (some (126, false)), 33, [0, 1, 2, 3, 4, 5, 6, 7, 8, 9, 10, 11, 12, 13, 14, 15, 16, 17, 18, 19, 20, 21, 22, 23, 24, 25, 26, 31, 32]⟩, ⟨(some 128), (.load false 1 (.t 127)), (some (126, false)), 28, [0, 1, 2, 3, 4, 5, 6, 7, 8, 9, 10, 11, 12, 13, 14, 15, 16, 17, 18, 19, 20, 21, 22, 23, 24, 25, 26, 27]⟩, ⟨(some 134), (.bslice [(.i .u8 0), (.i .u8 0)] [(0, 1, (.t 130)), (1, 1, (.t 133))] 2), (some (126, false)), 34, [0, 1, 2, 3, 4, 5, 6, 7, 8, 9, 10, 11, 12, 13, 14, 15, 16, 17, 18, 19, 20, 21, 22, 23, 24, 25, 26, 29, 30, 31, 32, 33]⟩, ⟨(some 135), (.call (.c (.fn (.func 14) [] [])) [(.t 128), (.t 134)]), (some (126, false)), 35, [0, 1, 2, 3, 4, 5, 6, 7, 8, 9, 10, 11, 12, 13, 14, 15, 16, 17, 18, 19, 20, 21, 22, 23, 24, 25, 26, 27, 28, 29, 30, 31, 32, 33, 34]⟩, ⟨(some 136), (.unx .not (.t 135)), (some (126, false)), 36, [0, 1, 2, 3, 4, 5, 6, 7, 8, 9, 10, 11, 12, 13, 14, 15, 16, 17, 18, 19, 20, 21, 22, 23, 24, 25, 26, 27, 28, 29, 30, 31, 32, 33, 34, 35]⟩, ⟨(some 137), (.pick (.t 126) (.c (.b true)) (.t 136)), none, 37, [0, 1, 2, 3, 4, 5, 6, 7, 8, 9, 10, 11, 12, 13, 14, 15, 16, 17, 18, 19, 20, 21, 22, 23, 24, 25, 26, 27, 28, 29, 30, 31, 32, 33, 34, 35, 36]⟩, ⟨(some 138), (.mv (.t 137)), none, 38, [0, 1, 2, 3, 4, 5, 6, 7, 8, 9, 10, 11, 12, 13, 14, 15, 16, 17, 18, 19, 20, 21, 22, 23, 24, 25, 26, 27, 28, 29, 30, 31, 32, 33, 34, 35, 36, 37]⟩, ⟨(some 139), (.fadd 2 (.t 16)), (some (138, false)), 39, [0, 1, 2, 3, 4, 5, 6, 7, 8, 9, 10, 11, 12, 13, 14, 15, 16, 17, 18, 19, 20, 21, 22, 23, 24, 25, 26, 27, 28, 29, 30, 31, 32, 33, 34, 35, 36, 37, 38]⟩, ⟨(some 141), (.mv (.t 2)), (some (138, false)), 41, [0, 1, 2, 3, 4, 5, 6, 7, 8, 9, 10, 11, 12, 13, 14, 15, 16, 17, 18, 19, 20, 21, 22, 23, 24, 25, 26, 27, 28, 29, 30, 31, 32, 33, 34, 35, 36, 37, 38]⟩, ⟨(some 142), (.mv (.t 18)), (some (138, false)), 42, [0, 1, 2, 3, 4, 5, 6, 7, 8, 9, 10, 11, 12, 13, 14, 15, 16, 17, 18, 19, 20, 21, 22, 23, 24, 25, 26, 27, 28, 29, 30, 31, 32, 33, 34, 35, 36, 37, 38]⟩, ⟨(some 143), (.isl 1 (.t 141) (.t 142)), (some (138, false)), 43, [0, 1, 2, 3, 4, 5, 6, 7, 8, 9, 10, 11, 12, 13, 14, 15, 16, 17, 18, 19, 20, 21, 22, 23, 24, 25, 26, 27, 28, 29, 30, 31, 32, 33, 34, 35, 36, 37, 38, 41, 42]⟩, ⟨(some 145), (.mv (.t 12)), (some (138, false)), 45, [0, 1, 2, 3, 4, 5, 6, 7, 8, 9, 10, 11, 12, 13, 14, 15, 16, 17, 18, 19, 20, 21, 22, 23, 24, 25, 26, 27, 28, 29, 30, 31, 32, 33, 34, 35, 36, 37, 38]⟩, ⟨(some 140), (.load false 1 (.t 139)), (some (138, false)), 40, [0, 1, 2, 3, 4, 5, 6, 7, 8, 9, 10, 11, 12, 13, 14, 15, 16, 17, 18, 19, 20, 21, 22, 23, 24, 25, 26, 27, 28, 29, 30, 31, 32, 33, 34, 35, 36, 37, 38, 39]⟩, ⟨(some 144), (.load false 1 (.t 143)), (some (138, false)), 44, [0, 1, 2, 3, 4, 5, 6, 7, 8, 9, 10, 11, 12, 13, 14, 15, 16, 17, 18, 19, 20, 21, 22, 23, 24, 25, 26, 27, 28, 29, 30, 31, 32, 33, 34, 35, 36, 37, 38, 41, 42, 43]⟩, ⟨(some 146), (.bin .sub (.t 144) (.t 145)), (some (138, false)), 46, [0, 1, 2, 3, 4, 5, 6, 7, 8, 9, 10, 11, 12, 13, 14, 15, 16, 17, 18, 19, 20, 21, 22, 23, 24, 25, 26, 27, 28, 29, 30, 31, 32, 33, 34, 35, 36, 37, 38, 41, 42, 43, 44, 45]⟩, ⟨(some 147), (.bin .neq (.t 140) (.t 146)), (some (138, false)), 47, [0, 1, 2, 3, 4, 5, 6, 7, 8, 9, 10, 11, 12, 13, 14, 15, 16, 17, 18, 19, 20, 21, 22, 23, 24, 25, 26, 27, 28, 29, 30, 31, 32, 33, 34, 35, 36, 37, 38, 39, 40, 41, 42, 43, 44, 45, 46]⟩, ⟨(some 148), (.pick (.t 138) (.c (.b true)) (.t 147)), none, 48, [0, 1, 2, 3, 4, 5, 6, 7, 8, 9, 10, 11, 12, 13, 14, 15, 16, 17, 18, 19, 20, 21, 22, 23, 24, 25, 26, 27, 28, 29, 30, 31, 32, 33, 34, 35, 36, 37, 38, 39, 40, 41, 42, 43, 44, 45, 46, 47]⟩])
  (.cond (.t 148) (.seq (.region [⟨(some 8), (.mv (.c (.b false))), none, 0, []⟩])
  .ret) .skip))
  (.region [⟨(some 149), (.mv (.t 18)), none, 0, []⟩, ⟨(some 150), (.bin .add (.t 149) (.c (.i .i64 1))), none, 1, []⟩, ⟨(some 11), (.mv (.t 150)), none, 2, []⟩]))))))
  (.region [⟨(some 88), (.mv (.t 15)), none, 0, []⟩, ⟨(some 89), (.bin .add (.t 88) (.c (.i .i64 1))), none, 1, []⟩, ⟨(some 15), (.mv (.t 89)), none, 2, []⟩])))))))))))
  (.region [⟨(some 43), (.mv (.t 13)), none, 0, []⟩, ⟨(some 44), (.bin .add (.t 43) (.c (.i .i64 1))), none, 1, []⟩, ⟨(some 13), (.mv (.t 44)), none, 2, []⟩]))))))
  (.seq (.region [⟨(some 151), (.mv (.t 9)), none, 0, []⟩, ⟨(some 152), (.mv (.t 151)), none, 1, []⟩, ⟨(some 153), (.mv (.t 10)), (some (152, true)), 2, []⟩, ⟨(some 154), (.call (.c (.fn (.func 13) [] [])) [(.t 153), (.c (.i .i64 1))]), (some (152, true)), 3, []⟩, ⟨(some 155), (.bin .eql (.t 154) (.c (.i .i64 0))), (some (152, true)), 4, []⟩, ⟨(some 156), (.pick (.t 152) (.t 155) (.c (.b false))), none, 5, []⟩, ⟨(some 157), (.mv (.t 156)), none, 6, []⟩, ⟨(some 158), (.mv (.t 10)), (some (157, true)), 7, []⟩, ⟨(some 159), (.call (.c (.fn (.func 13) [] [])) [(.t 158), (.c (.i .i64 0))]), (some (157, true)), 8, []⟩, ⟨(some 160), (.bin .eql (.t 159) (.c (.i .i64 0))), (some (157, true)), 9, []⟩, ⟨(some 161), (.pick (.t 157) (.t 160) (.c (.b false))), none, 10, []⟩, ⟨(some 162), (.mv (.t 161)), none, 11, []⟩, ⟨(some 163), (.mv (.t 10)), (some (162, true)), 12, []⟩, ⟨(some 164), (.call (.c (.fn (.func 15) [] [])) [(.t 163), (.c (.i .i64 0))]), (some (162, true)), 13, []⟩, ⟨(some 165), (.bin .eql (.t 164) (.c (.i .i64 0))), (some (162, true)), 14, []⟩, ⟨(some 166), (.pick (.t 162) (.t 165) (.c (.b false))), none, 15, []⟩, ⟨(some 8), (.mv (.t 166)), none, 16, []⟩])
  .ret)))))))))
def x4 : XFun := ⟨x4b, [(.t 8)]⟩
theorem x4_ok : compF Try.prog 4 = some x4 := by kernel_rfl
/-- bollard/bollardlaw20.AudioNone (118) -/
def x5b : XC := (.seq (.region [⟨(some 3), (.box (.t 1)), none, 0, []⟩, ⟨(some 4), (.mv (.c (.b false))), none, 1, []⟩])
  (.seq (.region [⟨(some 18), (.call (.c (.fn (.func 8) [] [])) []), none, 0, []⟩, ⟨(some 5), (.mv (.t 18)), none, 1, []⟩])
  (.seq (.seq (.region [⟨(some 19), (.fadd 5 (.t 3)), none, 0, []⟩, ⟨(some 20), (.load false 1 (.t 19)), none, 1, []⟩, ⟨(some 21), (.lenx (.t 20)), none, 2, []⟩, ⟨(some 22), (.bin .gtr (.t 21) (.c (.i .i64 1500))), none, 3, []⟩])
  (.cond (.t 22) (.seq (.region [⟨(some 23), (.mv (.t 5)), none, 0, []⟩, ⟨(some 4), (.mv (.t 23)), none, 1, []⟩])
  .ret) .skip))
  (.seq (.region [⟨(some 6), (.mv (.c (.p none))), none, 0, []⟩])
  (.seq (.region [⟨(some 25), (.mv (.t 6)), none, 0, []⟩, ⟨(some 26), (.mv (.t 0)), none, 1, []⟩, ⟨(some 27), (.load true 6 (.t 3)), none, 2, []⟩, ⟨(some 28), (.call (.c (.fn (.func 11) [] [])) [(.t 25), (.t 26), (.t 27)]), none, 3, []⟩, ⟨(some 24), (.mv (.t 28)), none, 4, []⟩, ⟨(some 29), (.ext (.t 24) 0), none, 5, []⟩, ⟨(some 30), (.ext (.t 24) 1), none, 6, []⟩, ⟨(some 7), (.mv (.t 29)), none, 7, []⟩, ⟨(some 8), (.mv (.t 30)), none, 8, []⟩])
  (.seq (.region [⟨(some 32), (.mv (.t 6)), none, 0, []⟩, ⟨(some 33), (.mv (.t 0)), none, 1, []⟩, ⟨(some 34), (.call (.c (.fn (.func 12) [] [])) [(.t 32), (.t 33)]), none, 2, []⟩, ⟨(some 31), (.mv (.t 34)), none, 3, []⟩, ⟨(some 35), (.ext (.t 31) 0), none, 4, []⟩, ⟨(some 36), (.ext (.t 31) 1), none, 5, []⟩, ⟨(some 9), (.alloc [(.b false), (.i .u8 0), (.i .u16 0), (.i .u32 0), (.i .u32 0), (.sl none 0 0 0)]), none, 6, []⟩, ⟨none, (.store 6 (.t 9) (.t 35)), none, 7, []⟩, ⟨(some 10), (.mv (.t 36)), none, 8, []⟩])
  (.seq (.region [⟨(some 37), (.call (.c (.fn (.func 9) [] [])) [(.c (.i .i64 3)), (.c (.i .i64 4))]), none, 0, []⟩, ⟨(some 11), (.mv (.t 37)), none, 1, []⟩])
  (.seq (.seq (.region [⟨(some 12), (.mv (.c (.i .i64 0))), none, 0, []⟩])
  (.block 0 (.loop (.seq (.seq (.region [⟨(some 38), (.mv (.t 12)), none, 0, []⟩, ⟨(some 39), (.bin .lss (.t 38) (.c (.i .i64 3))), none, 1, []⟩])
  (.cond (.t 39) .skip (.exit 0)))
  (.seq (.block 1 (.region [⟨(some 42), (.mv (.t 11)), none, 0, []⟩, ⟨(some 43), (.mv (.t 12)), none, 1, []⟩, ⟨(some 44), (.call (.c (.fn (.func 10) [] [])) [(.t 42), (.t 43)]), none, 2, []⟩]))
  (.region [⟨(some 40), (.mv (.t 12)), none, 0, []⟩, ⟨(some 41), (.bin .add (.t 40) (.c (.i .i64 1))), none, 1, []⟩, ⟨(some 12), (.mv (.t 41)), none, 2, []⟩]))))))
  (.seq (.region [⟨(some 45), (.bslice [(.i .u8 0)] [(0, 1, (.c (.i .u8 7)))] 1), none, 0, []⟩, ⟨(some 13), (.mv (.t 45)), none, 1, []⟩])
  (.seq (.region [⟨(some 46), (.mv (.t 11)), none, 0, []⟩, ⟨(some 47), (.mv (.t 13)), none, 1, []⟩, ⟨(some 48), (.build [(.b false), (.i .u8 0), (.i .u16 0), (.i .u32 0), (.i .u32 0), (.sl none 0 0 0)] [(5, 1, (.t 47))]), none, 2, []⟩, ⟨(some 49), (.call (.c (.fn (.func 11) [] [])) [(.t 46), (.c (.i .i64 0)), (.t 48)]), none, 3, []⟩])
  (.seq (.region [⟨(some 50), (.mv (.t 13)), none, 0, []⟩, ⟨(some 51), (.isl 1 (.t 50) (.c (.i .i64 0))), none, 1, []⟩, ⟨none, (.store 1 (.t 51) (.c (.i .u8 8))), none, 2, []⟩])
  (.seq (.region [⟨(some 53), (.mv (.t 11)), none, 0, []⟩, ⟨(some 54), (.call (.c (.fn (.func 12) [] [])) [(.t 53), (.c (.i .i64 1))]), none, 1, []⟩, ⟨(some 52), (.mv (.t 54)), none, 2, []⟩, ⟨(some 55), (.ext (.t 52) 0), none, 3, []⟩, ⟨(some 56), (.ext (.t 52) 1), none, 4, []⟩, ⟨(some 14), (.alloc [(.b false), (.i .u8 0), (.i .u16 0), (.i .u32 0), (.i .u32 0), (.sl none 0 0 0)]), none, 5, []⟩, ⟨none, (.store 6 (.t 14) (.t 55)), none, 6, []⟩, ⟨(some 15), (.mv (.t 56)), none, 7, []⟩])
  (.seq (.seq (.region [⟨(some 57), (.mv (.t 15)), none, 0, []⟩, ⟨(some 58), (.unx .not (.t 57)), none, 1, []⟩, ⟨(some 59), (.mv (.t 58)), none, 2, []⟩, ⟨(some 60), (.fadd 5 (.t 14)), (some (59, false)), 3, []⟩, ⟨(some 61), (.load false 1 (.t 60)), (some (59, false)), 4, []⟩, ⟨(some 62), (.bslice [(.i .u8 0)] [(0, 1, (.c (.i .u8 7)))] 1), (some (59, false)), 5, []⟩, ⟨(some 63), (.call (.c (.fn (.func 14) [] [])) [(.t 61), (.t 62)]), (some (59, false)), 6, []⟩, ⟨(some 64), (.unx .not (.t 63)), (some (59, false)), 7, []⟩, ⟨(some 65), (.pick (.t 59) (.c (.b true)) (.t 64)), none, 8, []⟩])
  (.cond (.t 65) (.seq (.region [⟨(some 4), (.mv (.c (.b false))), none, 0, []⟩])
  .ret) .skip))
  (.seq (.region [⟨(some 66), (.fadd 5 (.t 14)), none, 0, []⟩, ⟨(some 67), (.load false 1 (.t 66)), none, 1, []⟩, ⟨(some 68), (.isl 1 (.t 67) (.c (.i .i64 0))), none, 2, []⟩, ⟨none, (.store 1 (.t 68) (.c (.i .u8 9))), none, 3, []⟩])
  (.seq (.region [⟨(some 70), (.mv (.t 11)), none, 0, []⟩, ⟨(some 71), (.call (.c (.fn (.func 12) [] [])) [(.t 70), (.c (.i .i64 2))]), none, 1, []⟩, ⟨(some 69), (.mv (.t 71)), none, 2, []⟩, ⟨(some 72), (.ext (.t 69) 0), none, 3, []⟩, ⟨(some 73), (.ext (.t 69) 1), none, 4, []⟩, ⟨(some 16), (.alloc [(.b false), (.i .u8 0), (.i .u16 0), (.i .u32 0), (.i .u32 0), (.sl none 0 0 0)]), none, 5, []⟩, ⟨none, (.store 6 (.t 16) (.t 72)), none, 6, []⟩, ⟨(some 17), (.mv (.t 73)), none, 7, []⟩])
  (.seq (.region [⟨(some 74), (.mv (.t 5)), none, 0, []⟩, ⟨(some 75), (.mv (.t 74)), none, 1, []⟩, ⟨(some 76), (.mv (.t 7)), (some (75, true)), 2, []⟩, ⟨(some 77), (.bin .eql (.t 76) (.c (.i .i64 0))), (some (75, true)), 3, []⟩, ⟨(some 78), (.pick (.t 75) (.t 77) (.c (.b false))), none, 4, []⟩, ⟨(some 79), (.mv (.t 78)), none, 5, []⟩, ⟨(some 80), (.mv (.t 8)), (some (79, true)), 6, []⟩, ⟨(some 81), (.bin .eql (.t 80) (.c (.i .i64 1))), (some (79, true)), 7, []⟩, ⟨(some 82), (.pick (.t 79) (.t 81) (.c (.b false))), none, 8, []⟩, ⟨(some 83), (.mv (.t 82)), none, 9, []⟩, ⟨(some 84), (.mv (.t 10)), (some (83, true)), 10, []⟩, ⟨(some 85), (.unx .not (.t 84)), (some (83, true)), 11, []⟩, ⟨(some 86), (.pick (.t 83) (.t 85) (.c (.b false))), none, 12, []⟩, ⟨(some 87), (.mv (.t 86)), none, 13, []⟩, ⟨(some 88), (.mv (.t 6)), (some (87, true)), 14, []⟩, ⟨(some 89), (.mv (.t 0)), (some (87, true)), 15, []⟩, ⟨(some 90), (.call (.c (.fn (.func 10) [] [])) [(.t 88), (.t 89)]), (some (87, true)), 16, []⟩, ⟨(some 91), (.bin .eql (.t 90) (.c (.i .i64 1))), (some (87, true)), 17, []⟩, ⟨(some 92), (.pick (.t 87) (.t 91) (.c (.b false))), none, 18, []⟩, ⟨(some 93), (.mv (.t 92)), none, 19, []⟩, ⟨(some 94), (.mv (.t 6)), (some (93, true)), 20, []⟩, ⟨(some 95), (.mv (.t 0)), (some (93, true)), 21, []⟩, ⟨(some 96), (.call (.c (.fn (.func 16) [] [])) [(.t 94), (.t 95)]), (some (93, true)), 22, []⟩, ⟨(some 97), (.bin .eql (.t 96) (.c (.i .i64 1))), (some (93, true)), 23, []⟩, ⟨(some 98), (.pick (.t 93) (.t 97) (.c (.b false))), none, 24, []⟩, ⟨(some 99), (.mv (.t 98)), none, 25, []⟩, ⟨(some 100), (.mv (.t 6)), (some (99, true)), 26, []⟩, ⟨(some 101), (.mv (.t 0)), (some (99, true)), 27, []⟩, ⟨(some 102), (.call (.c (.fn (.func 15) [] [])) [(.t 100), (.t 101)]), (some (99, true)), 28, []⟩, ⟨(some 103), (.mv (.t 6)), (some (99, true)), 29, []⟩, ⟨(some 104), (.mv (.t 0)), (some (99, true)), 30, []⟩, ⟨(some 105), (.call (.c (.fn (.func 13) [] [])) [(.t 103), (.t 104)]), (some (99, true)), 31, []⟩, ⟨(some 106), (.bin .add (.t 102) (.t 105)), (some (99, true)), 32, []⟩, ⟨(some 107), (.bin .eql (.t 106) (.c (.i .i64 0))), (some (99, true)), 33, []⟩, ⟨(some 108), (.pick (.t 99) (.t 107) (.c (.b false))), none, 34, []⟩, ⟨(some 109), (.mv (.t 108)), none, 35, []⟩, ⟨(some 110), (.mv (.t 17)), (some (109, true)), 36, []⟩, ⟨(some 111), (.pick (.t 109) (.t 110) (.c (.b false))), none, 37, []⟩, ⟨(some 112), (.mv (.t 111)), none, 38, []⟩, ⟨(some 113), (.fadd 5 (.t 16)), (some (112, true)), 39, []⟩, ⟨(some 114), (.load false 1 (.t 113)), (some (112, true)), 40, []⟩, ⟨(some 115), (.bslice [(.i .u8 0)] [(0, 1, (.c (.i .u8 7)))] 1), (some (112, true)), 41, []⟩, ⟨(some 116), (.call (.c (.fn (.func 14) [] [])) [(.t 114), (.t 115)]), (some (112, true)), 42, []⟩, ⟨(some 117), (.pick (.t 112) (.t 116) (.c (.b false))), none, 43, []⟩, ⟨(some 4), (.mv (.t 117)), none, 44, []⟩])
  .ret))))))))))))))))
def x5 : XFun := ⟨x5b, [(.t 4)]⟩
theorem x5_ok : compF Try.prog 5 = some x5 := by kernel_rfl
/-- bollard/bollardlaw20.AudioCodes (82) -/
def x6b : XC := (.seq (.region [⟨(some 2), (.box (.t 0)), none, 0, []⟩, ⟨(some 4), (.mv (.c (.b false))), none, 1, []⟩])
  (.seq (.region [⟨(some 14), (.call (.c (.fn (.func 8) [] [])) []), none, 0, []⟩, ⟨(some 5), (.mv (.t 14)), none, 1, []⟩])
  (.seq (.seq (.region [⟨(some 15), (.fadd 5 (.t 2)), none, 0, []⟩, ⟨(some 16), (.load false 1 (.t 15)), none, 1, []⟩, ⟨(some 17), (.lenx (.t 16)), none, 2, []⟩, ⟨(some 18), (.bin .gtr (.t 17) (.c (.i .i64 1500))), none, 3, []⟩, ⟨(some 19), (.mv (.t 18)), none, 4, []⟩, ⟨(some 20), (.mv (.t 1)), (some (19, false)), 5, []⟩, ⟨(some 21), (.lenx (.t 20)), (some (19, false)), 6, []⟩, ⟨(some 22), (.bin .gtr (.t 21) (.c (.i .i64 1500))), (some (19, false)), 7, []⟩, ⟨(some 23), (.pick (.t 19) (.c (.b true)) (.t 22)), none, 8, []⟩])
  (.cond (.t 23) (.seq (.region [⟨(some 24), (.mv (.t 5)), none, 0, []⟩, ⟨(some 4), (.mv (.t 24)), none, 1, []⟩])
  .ret) .skip))
  (.seq (.region [⟨(some 26), (.load true 6 (.t 2)), none, 0, []⟩, ⟨(some 27), (.call (.c (.fn (.func 17) [] [])) [(.t 26)]), none, 1, []⟩, ⟨(some 25), (.mv (.t 27)), none, 2, []⟩, ⟨(some 28), (.ext (.t 25) 0), none, 3, []⟩, ⟨(some 29), (.ext (.t 25) 1), none, 4, []⟩, ⟨(some 6), (.mv (.t 28)), none, 5, []⟩, ⟨(some 7), (.mv (.t 29)), none, 6, []⟩])
  (.seq (.region [⟨(some 31), (.load true 6 (.t 2)), none, 0, []⟩, ⟨(some 32), (.call (.c (.fn (.func 19) [] [])) [(.t 31)]), none, 1, []⟩, ⟨(some 33), (.call (.c (.fn (.func 18) [] [])) [(.t 32)]), none, 2, []⟩, ⟨(some 30), (.mv (.t 33)), none, 3, []⟩, ⟨(some 34), (.ext (.t 30) 0), none, 4, []⟩, ⟨(some 35), (.ext (.t 30) 1), none, 5, []⟩, ⟨(some 8), (.mv (.t 34)), none, 6, []⟩, ⟨(some 9), (.mv (.t 35)), none, 7, []⟩])
  (.seq (.region [⟨(some 37), (.mv (.t 1)), none, 0, []⟩, ⟨(some 38), (.call (.c (.fn (.func 20) [] [])) [(.t 37)]), none, 1, []⟩, ⟨(some 36), (.mv (.t 38)), none, 2, []⟩, ⟨(some 39), (.ext (.t 36) 0), none, 3, []⟩, ⟨(some 40), (.ext (.t 36) 1), none, 4, []⟩, ⟨(some 10), (.alloc [(.b false), (.i .u8 0), (.i .u16 0), (.i .u32 0), (.i .u32 0), (.sl none 0 0 0)]), none, 5, []⟩, ⟨none, (.store 6 (.t 10) (.t 39)), none, 6, []⟩, ⟨(some 11), (.mv (.t 40)), none, 7, []⟩])
  (.seq (.region [⟨(some 42), (.mv (.t 1)), none, 0, []⟩, ⟨(some 43), (.call (.c (.fn (.func 21) [] [])) [(.t 42)]), none, 1, []⟩, ⟨(some 41), (.mv (.t 43)), none, 2, []⟩, ⟨(some 44), (.ext (.t 41) 0), none, 3, []⟩, ⟨(some 45), (.ext (.t 41) 1), none, 4, []⟩, ⟨(some 12), (.alloc [(.b false), (.i .u8 0), (.i .u16 0), (.i .u32 0), (.i .u32 0), (.sl none 0 0 0)]), none, 5, []⟩, ⟨none, (.store 6 (.t 12) (.t 44)), none, 6, []⟩, ⟨(some 13), (.mv (.t 45)), none, 7, []⟩])
  (.seq (.region [⟨(some 46), (.mv (.t 5)), none, 0, []⟩, ⟨(some 47), (.mv (.t 46)), none, 1, []⟩, ⟨(some 48), (.mv (.t 7)), (some (47, true)), 2, []⟩, ⟨(some 49), (.mv (.t 9)), (some (47, true)), 3, []⟩, ⟨(some 50), (.bin .eql (.t 48) (.t 49)), (some (47, true)), 4, []⟩, ⟨(some 51), (.pick (.t 47) (.t 50) (.c (.b false))), none, 5, []⟩, ⟨(some 52), (.mv (.t 51)), none, 6, []⟩, ⟨(some 53), (.mv (.t 6)), (some (52, true)), 7, []⟩, ⟨(some 54), (.mv (.t 8)), (some (52, true)), 8, []⟩, ⟨(some 55), (.call (.c (.fn (.func 14) [] [])) [(.t 53), (.t 54)]), (some (52, true)), 9, []⟩, ⟨(some 56), (.pick (.t 52) (.t 55) (.c (.b false))), none, 10, []⟩, ⟨(some 57), (.mv (.t 56)), none, 11, []⟩, ⟨(some 58), (.mv (.t 11)), (some (57, true)), 12, []⟩, ⟨(some 59), (.mv (.t 13)), (some (57, true)), 13, []⟩, ⟨(some 60), (.bin .eql (.t 58) (.t 59)), (some (57, true)), 14, []⟩, ⟨(some 61), (.pick (.t 57) (.t 60) (.c (.b false))), none, 15, []⟩, ⟨(some 62), (.mv (.t 61)), none, 16, []⟩, ⟨(some 63), (.load true 6 (.t 10)), (some (62, true)), 17, []⟩, ⟨(some 64), (.load true 6 (.t 12)), (some (62, true)), 18, []⟩, ⟨(some 65), (.call (.c (.fn (.func 22) [] [])) [(.t 63), (.t 64)]), (some (62, true)), 19, []⟩, ⟨(some 66), (.pick (.t 62) (.t 65) (.c (.b false))), none, 20, []⟩, ⟨(some 67), (.mv (.t 66)), none, 21, []⟩, ⟨(some 68), (.mv (.t 1)), (some (67, true)), 22, []⟩, ⟨(some 69), (.call (.c (.fn (.func 23) [] [])) [(.t 68)]), (some (67, true)), 23, []⟩, ⟨(some 70), (.mv (.t 1)), (some (67, true)), 24, []⟩, ⟨(some 71), (.lenx (.t 70)), (some (67, true)), 25, []⟩, ⟨(some 72), (.bin .gtr (.t 71) (.c (.i .i64 0))), (some (67, true)), 26, []⟩, ⟨(some 73), (.mv (.t 72)), (some (67, true)), 27, []⟩, ⟨(some 74), (.mv (.t 1)), (some (73, true)), 28, []⟩, ⟨(some 75), (.isl 1 (.t 74) (.c (.i .i64 0))), (some (73, true)), 29, []⟩, ⟨(some 76), (.load false 1 (.t 75)), (some (73, true)), 30, []⟩, ⟨(some 77), (.bin .quo (.t 76) (.c (.i .u8 64))), (some (73, true)), 31, []⟩, ⟨(some 78), (.bin .eql (.t 77) (.c (.i .u8 2))), (some (73, true)), 32, []⟩, ⟨(some 79), (.pick (.t 73) (.t 78) (.c (.b false))), (some (67, true)), 33, []⟩, ⟨(some 80), (.beq false (.t 69) (.t 79)), (some (67, true)), 34, []⟩, ⟨(some 81), (.pick (.t 67) (.t 80) (.c (.b false))), none, 35, []⟩, ⟨(some 4), (.mv (.t 81)), none, 36, []⟩])
  .ret))))))))
def x6 : XFun := ⟨x6b, [(.t 4)]⟩
theorem x6_ok : compF Try.prog 6 = some x6 := by kernel_rfl
/-- bollard/bollardlaw20.AudioBack (95) -/
def x7b : XC := (.seq (.region [⟨(some 2), (.box (.t 0)), none, 0, []⟩, ⟨(some 4), (.mv (.c (.b false))), none, 1, []⟩])
  (.seq (.region [⟨(some 14), (.call (.c (.fn (.func 8) [] [])) []), none, 0, []⟩, ⟨(some 5), (.mv (.t 14)), none, 1, []⟩])
  (.seq (.seq (.region [⟨(some 15), (.fadd 5 (.t 2)), none, 0, []⟩, ⟨(some 16), (.load false 1 (.t 15)), none, 1, []⟩, ⟨(some 17), (.lenx (.t 16)), none, 2, []⟩, ⟨(some 18), (.bin .gtr (.t 17) (.c (.i .i64 1500))), none, 3, []⟩, ⟨(some 19), (.mv (.t 18)), none, 4, []⟩, ⟨(some 20), (.mv (.t 1)), (some (19, false)), 5, []⟩, ⟨(some 21), (.lenx (.t 20)), (some (19, false)), 6, []⟩, ⟨(some 22), (.bin .gtr (.t 21) (.c (.i .i64 1500))), (some (19, false)), 7, []⟩, ⟨(some 23), (.pick (.t 19) (.c (.b true)) (.t 22)), none, 8, []⟩])
  (.cond (.t 23) (.seq (.region [⟨(some 24), (.mv (.t 5)), none, 0, []⟩, ⟨(some 4), (.mv (.t 24)), none, 1, []⟩])
  .ret) .skip))
  (.seq (.region [⟨(some 26), (.load true 6 (.t 2)), none, 0, []⟩, ⟨(some 27), (.call (.c (.fn (.func 17) [] [])) [(.t 26)]), none, 1, []⟩, ⟨(some 25), (.mv (.t 27)), none, 2, []⟩, ⟨(some 28), (.ext (.t 25) 0), none, 3, []⟩, ⟨(some 29), (.ext (.t 25) 1), none, 4, []⟩, ⟨(some 6), (.mv (.t 28)), none, 5, []⟩, ⟨(some 7), (.mv (.t 29)), none, 6, []⟩])
  (.seq (.region [⟨(some 31), (.mv (.t 6)), none, 0, []⟩, ⟨(some 32), (.call (.c (.fn (.func 20) [] [])) [(.t 31)]), none, 1, []⟩, ⟨(some 30), (.mv (.t 32)), none, 2, []⟩, ⟨(some 33), (.ext (.t 30) 0), none, 3, []⟩, ⟨(some 34), (.ext (.t 30) 1), none, 4, []⟩, ⟨(some 8), (.alloc [(.b false), (.i .u8 0), (.i .u16 0), (.i .u32 0), (.i .u32 0), (.sl none 0 0 0)]), none, 5, []⟩, ⟨none, (.store 6 (.t 8) (.t 33)), none, 6, []⟩, ⟨(some 9), (.mv (.t 34)), none, 7, []⟩])
  (.seq (.seq (.draw [⟨(some 35), (.mv (.t 7)), none, 0, []⟩, ⟨(some 36), (.bin .eql (.t 35) (.c (.i .i64 0))), none, 1, [0]⟩, ⟨(some 37), (.mv (.t 36)), none, 2, [0, 1]⟩, ⟨(some 38), (.mv (.t 9)), (some (37, true)), 3, [0, 1, 2]⟩, ⟨(some 39), (.bin .neq (.t 38) (.c (.i .i64 0))), (some (37, true)), 4, [0, 1, 2, 3]⟩, ⟨(some 40), (.mv (.t 39)), (some (37, true)), 5, [0, 1, 2, 3, 4]⟩, ⟨(some 41), (.load true 6 (.t 8)), (some (40, false)), 6, [0, 1, 2, 3, 4, 5]⟩, ⟨(some 42), (.load true 6 (.t 2)), (some (40, false)), 7, [0, 1, 2, 3, 4, 5]⟩, ⟨(some 43), (.call (.c (.fn (.func 19) [] [])) [(.t 42)]), (some (40, false)), 8, [0, 1, 2, 3, 4, 5, 7]⟩, ⟨(some 44), (.call (.c (.fn (.func 22) [] [])) [(.t 41), (.t 43)]), (some (40, false)), 9, [0, 1, 2, 3, 4, 5, 6, 7, 8]⟩, ⟨(some 45), (.unx .not (.t 44)), (some (40, false)), 10, [0, 1, 2, 3, 4, 5, 6, 7, 8, 9]⟩, ⟨(some 46), (.pick (.t 40) (.c (.b true)) (.t 45)), (some (37, true)), 11, [0, 1, 2, 3, 4, 5, 6, 7, 8, 9, 10]⟩, ⟨(some 47), (.mv (.t 46)), (some (37, true)), 12, [0, 1, 2, 3, 4, 5, 6, 7, 8, 9, 10, 11]⟩, ⟨(some 48), (.mv (.t 6)), (some (47, false)), 13, [0, 1, 2, 3, 4, 5, 6, 7, 8, 9, 10, 11, 12]⟩, ⟨(some 49), (.call (.c (.fn (.func 23) [] [])) [(.t 48)]), (some (47, false)), 14, [0, 1, 2, 3, 4, 5, 6, 7, 8, 9, 10, 11, 12, 13]⟩, ⟨(some 50), (.unx .not (.t 49)), (some (47, false)), 15, [0, 1, 2, 3, 4, 5, 6, 7, 8, 9, 10, 11, 12, 13, 14]⟩, ⟨(some 51), (.pick (.t 47) (.c (.b true)) (.t 50)), (some (37, true)), 16, [0, 1, 2, 3, 4, 5, 6, 7, 8, 9, 10, 11, 12, 13, 14, 15]⟩, ⟨(some 52), (.mv (.t 51)), (some (37, true)), 17, [0, 1, 2, 3, 4, 5, 6, 7, 8, 9, 10, 11, 12, 13, 14, 15, 16]⟩, ⟨(some 53), (.mv (.t 6)), (some (52, false)), 18, [0, 1, 2, 3, 4, 5, 6, 7, 8, 9, 10, 11, 12, 13, 14, 15, 16, 17]⟩, ⟨(some 54), (.lenx (.t 53)), (some (52, false)), 19, [0, 1, 2, 3, 4, 5, 6, 7, 8, 9, 10, 11, 12, 13, 14, 15, 16, 17, 18]⟩, ⟨(some 55), (.fadd 5 (.t 2)), (some (52, false)), 20, [0, 1, 2, 3, 4, 5, 6, 7, 8, 9, 10, 11, 12, 13, 14, 15, 16, 17]⟩, ⟨(some 56), (.load false 1 (.t 55)), (some (52, false)), 21, [0, 1, 2, 3, 4, 5, 6, 7, 8, 9, 10, 11, 12, 13, 14, 15, 16, 17, 20]⟩, ⟨(some 57), (.lenx (.t 56)), (some (52, false)), 22, [0, 1, 2, 3, 4, 5, 6, 7, 8, 9, 10, 11, 12, 13, 14, 15, 16, 17, 20, 21]⟩, ⟨(some 58), (.bin .add (.c (.i .i64 12)) (.t 57)), (some (52, false)), 23, [0, 1, 2, 3, 4, 5, 6, 7, 8, 9, 10, 11, 12, 13, 14, 15, 16, 17, 20, 21, 22]⟩, ⟨(some 59), (.bin .neq (.t 54) (.t 58)), (some (52, false)), 24, [0, 1, 2, 3, 4, 5, 6, 7, 8, 9, 10, 11, 12, 13, 14, 15, 16, 17, 18, 19, 20, 21, 22, 23]⟩, ⟨(some 60), (.pick (.t 52) (.c (.b true)) (.t 59)), (some (37, true)), 25, [0, 1, 2, 3, 4, 5, 6, 7, 8, 9, 10, 11, 12, 13, 14, 15, 16, 17, 18, 19, 20, 21, 22, 23, 24]⟩, ⟨(some 61), (.pick (.t 37) (.t 60) (.c (.b false))), none, 26, [0, 1, 2, 3, 4, 5, 6, 7, 8, 9, 10, 11, 12, 13, 14, 15, 16, 17, 18, 19, 20, 21, 22, 23, 24, 25]⟩])
  (.cond (.t 61) (.seq (.region [⟨(some 4), (.mv (.c (.b false))), none, 0, []⟩])
  .ret) .skip))
  (.seq (.region [⟨(some 63), (.mv (.t 1)), none, 0, []⟩, ⟨(some 64), (.call (.c (.fn (.func 20) [] [])) [(.t 63)]), none, 1, []⟩, ⟨(some 62), (.mv (.t 64)), none, 2, []⟩, ⟨(some 65), (.ext (.t 62) 0), none, 3, []⟩, ⟨(some 66), (.ext (.t 62) 1), none, 4, []⟩, ⟨(some 10), (.alloc [(.b false), (.i .u8 0), (.i .u16 0), (.i .u32 0), (.i .u32 0), (.sl none 0 0 0)]), none, 5, []⟩, ⟨none, (.store 6 (.t 10) (.t 65)), none, 6, []⟩, ⟨(some 11), (.mv (.t 66)), none, 7, []⟩])
  (.seq (.region [⟨(some 68), (.load true 6 (.t 10)), none, 0, []⟩, ⟨(some 69), (.call (.c (.fn (.func 17) [] [])) [(.t 68)]), none, 1, []⟩, ⟨(some 67), (.mv (.t 69)), none, 2, []⟩, ⟨(some 70), (.ext (.t 67) 0), none, 3, []⟩, ⟨(some 71), (.ext (.t 67) 1), none, 4, []⟩, ⟨(some 12), (.mv (.t 70)), none, 5, []⟩, ⟨(some 13), (.mv (.t 71)), none, 6, []⟩])
  (.seq (.region [⟨(some 72), (.mv (.t 5)), none, 0, []⟩, ⟨(some 73), (.mv (.t 72)), none, 1, []⟩, ⟨(some 74), (.mv (.t 7)), (some (73, true)), 2, []⟩, ⟨(some 75), (.bin .eql (.t 74) (.c (.i .i64 0))), (some (73, true)), 3, []⟩, ⟨(some 76), (.mv (.t 75)), (some (73, true)), 4, []⟩, ⟨(some 77), (.mv (.t 6)), (some (76, false)), 5, []⟩, ⟨(some 78), (.lenx (.t 77)), (some (76, false)), 6, []⟩, ⟨(some 79), (.bin .eql (.t 78) (.c (.i .i64 0))), (some (76, false)), 7, []⟩, ⟨(some 80), (.pick (.t 76) (.c (.b true)) (.t 79)), (some (73, true)), 8, []⟩, ⟨(some 81), (.pick (.t 73) (.t 80) (.c (.b false))), none, 9, []⟩, ⟨(some 82), (.mv (.t 81)), none, 10, []⟩, ⟨(some 83), (.mv (.t 11)), (some (82, true)), 11, []⟩, ⟨(some 84), (.bin .neq (.t 83) (.c (.i .i64 0))), (some (82, true)), 12, []⟩, ⟨(some 85), (.mv (.t 84)), (some (82, true)), 13, []⟩, ⟨(some 86), (.mv (.t 13)), (some (85, false)), 14, []⟩, ⟨(some 87), (.bin .eql (.t 86) (.c (.i .i64 0))), (some (85, false)), 15, []⟩, ⟨(some 88), (.mv (.t 87)), (some (85, false)), 16, []⟩, ⟨(some 89), (.mv (.t 12)), (some (88, true)), 17, []⟩, ⟨(some 90), (.mv (.t 1)), (some (88, true)), 18, []⟩, ⟨(some 91), (.call (.c (.fn (.func 14) [] [])) [(.t 89), (.t 90)]), (some (88, true)), 19, []⟩, ⟨(some 92), (.pick (.t 88) (.t 91) (.c (.b false))), (some (85, false)), 20, []⟩, ⟨(some 93), (.pick (.t 85) (.c (.b true)) (.t 92)), (some (82, true)), 21, []⟩, ⟨(some 94), (.pick (.t 82) (.t 93) (.c (.b false))), none, 22, []⟩, ⟨(some 4), (.mv (.t 94)), none, 23, []⟩])
  .ret)))))))))
def x7 : XFun := ⟨x7b, [(.t 4)]⟩
theorem x7_ok : compF Try.prog 7 = some x7 := by kernel_rfl
/-- bollard/bollardlaw20.awake (91) -/
def x8b : XC := (.seq (.region [⟨(some 0), (.mv (.c (.b false))), none, 0, []⟩])
  (.seq (.region [⟨(some 12), (.call (.c (.fn (.func 9) [] [])) [(.c (.i .i64 2)), (.c (.i .i64 4))]), none, 0, []⟩, ⟨(some 1), (.mv (.t 12)), none, 1, []⟩])
  (.seq (.region [⟨(some 13), (.mv (.t 1)), none, 0, []⟩, ⟨(some 14), (.call (.c (.fn (.func 10) [] [])) [(.t 13), (.c (.i .i64 0))]), none, 1, []⟩, ⟨(some 2), (.mv (.t 14)), none, 2, []⟩])
  (.seq (.region [⟨(some 15), (.mv (.t 1)), none, 0, []⟩, ⟨(some 16), (.call (.c (.fn (.func 10) [] [])) [(.t 15), (.c (.i .i64 1))]), none, 1, []⟩, ⟨(some 3), (.mv (.t 16)), none, 2, []⟩])
  (.seq (.region [⟨(some 18), (.mv (.t 1)), none, 0, []⟩, ⟨(some 19), (.bslice [(.i .u8 0)] [(0, 1, (.c (.i .u8 1)))] 1), none, 1, []⟩, ⟨(some 20), (.build [(.b false), (.i .u8 0), (.i .u16 0), (.i .u32 0), (.i .u32 0), (.sl none 0 0 0)] [(2, 1, (.c (.i .u16 700))), (4, 1, (.c (.i .u32 9))), (5, 1, (.t 19))]), none, 2, []⟩, ⟨(some 21), (.call (.c (.fn (.func 11) [] [])) [(.t 18), (.c (.i .i64 0)), (.t 20)]), none, 3, []⟩, ⟨(some 17), (.mv (.t 21)), none, 4, []⟩, ⟨(some 22), (.ext (.t 17) 0), none, 5, []⟩, ⟨(some 23), (.ext (.t 17) 1), none, 6, []⟩, ⟨(some 4), (.mv (.t 22)), none, 7, []⟩, ⟨(some 5), (.mv (.t 23)), none, 8, []⟩])
  (.seq (.region [⟨(some 25), (.mv (.t 1)), none, 0, []⟩, ⟨(some 26), (.bslice [(.i .u8 0)] [(0, 1, (.c (.i .u8 2)))] 1), none, 1, []⟩, ⟨(some 27), (.build [(.b false), (.i .u8 0), (.i .u16 0), (.i .u32 0), (.i .u32 0), (.sl none 0 0 0)] [(2, 1, (.c (.i .u16 703))), (4, 1, (.c (.i .u32 9))), (5, 1, (.t 26))]), none, 2, []⟩, ⟨(some 28), (.call (.c (.fn (.func 11) [] [])) [(.t 25), (.c (.i .i64 0)), (.t 27)]), none, 3, []⟩, ⟨(some 24), (.mv (.t 28)), none, 4, []⟩, ⟨(some 29), (.ext (.t 24) 0), none, 5, []⟩, ⟨(some 30), (.ext (.t 24) 1), none, 6, []⟩, ⟨(some 6), (.mv (.t 29)), none, 7, []⟩, ⟨(some 7), (.mv (.t 30)), none, 8, []⟩])
  (.seq (.region [⟨(some 32), (.mv (.t 1)), none, 0, []⟩, ⟨(some 33), (.call (.c (.fn (.func 12) [] [])) [(.t 32), (.c (.i .i64 1))]), none, 1, []⟩, ⟨(some 31), (.mv (.t 33)), none, 2, []⟩, ⟨(some 34), (.ext (.t 31) 0), none, 3, []⟩, ⟨(some 35), (.ext (.t 31) 1), none, 4, []⟩, ⟨(some 8), (.alloc [(.b false), (.i .u8 0), (.i .u16 0), (.i .u32 0), (.i .u32 0), (.sl none 0 0 0)]), none, 5, []⟩, ⟨none, (.store 6 (.t 8) (.t 34)), none, 6, []⟩, ⟨(some 9), (.mv (.t 35)), none, 7, []⟩])
  (.seq (.region [⟨(some 37), (.mv (.t 1)), none, 0, []⟩, ⟨(some 38), (.call (.c (.fn (.func 12) [] [])) [(.t 37), (.c (.i .i64 1))]), none, 1, []⟩, ⟨(some 36), (.mv (.t 38)), none, 2, []⟩, ⟨(some 39), (.ext (.t 36) 0), none, 3, []⟩, ⟨(some 40), (.ext (.t 36) 1), none, 4, []⟩, ⟨(some 10), (.alloc [(.b false), (.i .u8 0), (.i .u16 0), (.i .u32 0), (.i .u32 0), (.sl none 0 0 0)]), none, 5, []⟩, ⟨none, (.store 6 (.t 10) (.t 39)), none, 6, []⟩, ⟨(some 11), (.mv (.t 40)), none, 7, []⟩])
  (.seq (.region [⟨(some 41), (.mv (.t 2)), none, 0, []⟩, ⟨(some 42), (.bin .eql (.t 41) (.c (.i .i64 0))), none, 1, []⟩, ⟨(some 43), (.mv (.t 42)), none, 2, []⟩, ⟨(some 44), (.mv (.t 3)), (some (43, true)), 3, []⟩, ⟨(some 45), (.bin .eql (.t 44) (.c (.i .i64 0))), (some (43, true)), 4, []⟩, ⟨(some 46), (.pick (.t 43) (.t 45) (.c (.b false))), none, 5, []⟩, ⟨(some 47), (.mv (.t 46)), none, 6, []⟩, ⟨(some 48), (.mv (.t 4)), (some (47, true)), 7, []⟩, ⟨(some 49), (.bin .eql (.t 48) (.c (.i .i64 1))), (some (47, true)), 8, []⟩, ⟨(some 50), (.pick (.t 47) (.t 49) (.c (.b false))), none, 9, []⟩, ⟨(some 51), (.mv (.t 50)), none, 10, []⟩, ⟨(some 52), (.mv (.t 6)), (some (51, true)), 11, []⟩, ⟨(some 53), (.bin .eql (.t 52) (.c (.i .i64 1))), (some (51, true)), 12, []⟩, ⟨(some 54), (.pick (.t 51) (.t 53) (.c (.b false))), none, 13, []⟩, ⟨(some 55), (.mv (.t 54)), none, 14, []⟩, ⟨(some 56), (.mv (.t 9)), (some (55, true)), 15, []⟩, ⟨(some 57), (.pick (.t 55) (.t 56) (.c (.b false))), none, 16, []⟩, ⟨(some 58), (.mv (.t 57)), none, 17, []⟩, ⟨(some 59), (.mv (.t 11)), (some (58, true)), 18, []⟩, ⟨(some 60), (.pick (.t 58) (.t 59) (.c (.b false))), none, 19, []⟩, ⟨(some 61), (.mv (.t 60)), none, 20, []⟩, ⟨(some 62), (.fadd 2 (.t 8)), (some (61, true)), 21, []⟩, ⟨(some 63), (.load false 1 (.t 62)), (some (61, true)), 22, []⟩, ⟨(some 64), (.bin .eql (.t 63) (.c (.i .u16 0))), (some (61, true)), 23, []⟩, ⟨(some 65), (.pick (.t 61) (.t 64) (.c (.b false))), none, 24, []⟩, ⟨(some 66), (.mv (.t 65)), none, 25, []⟩, ⟨(some 67), (.fadd 2 (.t 10)), (some (66, true)), 26, []⟩, ⟨(some 68), (.load false 1 (.t 67)), (some (66, true)), 27, []⟩, ⟨(some 69), (.bin .eql (.t 68) (.c (.i .u16 3))), (some (66, true)), 28, []⟩, ⟨(some 70), (.pick (.t 66) (.t 69) (.c (.b false))), none, 29, []⟩, ⟨(some 71), (.mv (.t 70)), none, 30, []⟩, ⟨(some 72), (.fadd 4 (.t 10)), (some (71, true)), 31, []⟩, ⟨(some 73), (.load false 1 (.t 72)), (some (71, true)), 32, []⟩, ⟨(some 74), (.bin .eql (.t 73) (.c (.i .u32 1))), (some (71, true)), 33, []⟩, ⟨(some 75), (.pick (.t 71) (.t 74) (.c (.b false))), none, 34, []⟩, ⟨(some 76), (.mv (.t 75)), none, 35, []⟩, ⟨(some 77), (.fadd 5 (.t 10)), (some (76, true)), 36, []⟩, ⟨(some 78), (.load false 1 (.t 77)), (some (76, true)), 37, []⟩, ⟨(some 79), (.bslice [(.i .u8 0)] [(0, 1, (.c (.i .u8 2)))] 1), (some (76, true)), 38, []⟩, ⟨(some 80), (.call (.c (.fn (.func 14) [] [])) [(.t 78), (.t 79)]), (some (76, true)), 39, []⟩, ⟨(some 81), (.pick (.t 76) (.t 80) (.c (.b false))), none, 40, []⟩, ⟨(some 82), (.mv (.t 81)), none, 41, []⟩, ⟨(some 83), (.bslice [(.i .u8 0)] [(0, 1, (.c (.i .u8 128)))] 1), (some (82, true)), 42, []⟩, ⟨(some 84), (.call (.c (.fn (.func 23) [] [])) [(.t 83)]), (some (82, true)), 43, []⟩, ⟨(some 85), (.pick (.t 82) (.t 84) (.c (.b false))), none, 44, []⟩, ⟨(some 86), (.mv (.t 85)), none, 45, []⟩, ⟨(some 87), (.bslice [(.i .u8 0)] [(0, 1, (.c (.i .u8 0)))] 1), (some (86, true)), 46, []⟩, ⟨(some 88), (.call (.c (.fn (.func 23) [] [])) [(.t 87)]), (some (86, true)), 47, []⟩, ⟨(some 89), (.unx .not (.t 88)), (some (86, true)), 48, []⟩, ⟨(some 90), (.pick (.t 86) (.t 89) (.c (.b false))), none, 49, []⟩, ⟨(some 0), (.mv (.t 90)), none, 50, []⟩])
  .ret)))))))))
def x8 : XFun := ⟨x8b, [(.t 0)]⟩
theorem x8_ok : compF Try.prog 8 = some x8 := by kernel_rfl
/-- bollard/audio.New (12) -/
def x9b : XC := (.seq (.region [⟨(some 4), (.mv (.c (.p none))), none, 0, []⟩])
  (.seq (.draw [⟨(some 5), (.mv (.t 0)), none, 0, []⟩, ⟨(some 8), (.mv (.t 1)), none, 3, []⟩, ⟨(some 6), (.call (.c (.fn (.func 24) [] [])) [(.t 5), (.c (.i .i64 16))]), none, 1, [0]⟩, ⟨(some 9), (.call (.c (.fn (.func 24) [] [])) [(.t 8), (.c (.i .i64 64))]), none, 4, [0, 1, 3]⟩, ⟨(some 7), (.mkslice [(.b false), (.b false), (.i .u32 0), (.i .u16 0), (.i .u16 0), (.b false), (.i .u32 0), (.i .u16 0), (.i .u16 0), (.b false), (.i .u32 0), (.i .u16 0), (.i .u16 0), (.b false), (.i .u32 0), (.i .u16 0), (.i .u16 0), (.b false), (.i .u32 0), (.i .u16 0), (.i .u16 0), (.b false), (.i .u32 0), (.i .u16 0), (.i .u16 0), (.b false), (.i .u32 0), (.i .u16 0), (.i .u16 0), (.b false), (.i .u32 0), (.i .u16 0), (.i .u16 0), (.b false), (.i .u32 0), (.i .u16 0), (.i .u16 0), (.b false), (.i .u32 0), (.i .u16 0), (.i .u16 0), (.b false), (.i .u32 0), (.i .u16 0), (.i .u16 0), (.b false), (.i .u32 0), (.i .u16 0), (.i .u16 0), (.b false), (.i .u32 0), (.i .u16 0), (.i .u16 0), (.b false), (.i .u32 0), (.i .u16 0), (.i .u16 0), (.b false), (.i .u32 0), (.i .u16 0), (.i .u16 0), (.b false), (.i .u32 0), (.i .u16 0), (.i .u16 0), (.sl none 0 0 0), (.i .i64 0)] 232 (.t 6) (.t 6)), none, 2, [0, 1]⟩, ⟨(some 10), (.build [(.sl none 0 0 0), (.i .i64 0)] [(0, 1, (.t 7)), (1, 1, (.t 9))]), none, 5, [0, 1, 2, 3, 4]⟩, ⟨(some 11), (.box (.t 10)), none, 6, [0, 1, 2, 3, 4, 5]⟩, ⟨(some 4), (.mv (.t 11)), none, 7, [0, 1, 2, 3, 4, 5, 6]⟩])
  .ret))
def x9 : XFun := ⟨x9b, [(.t 4)]⟩
theorem x9_ok : compF Try.prog 9 = some x9 := by kernel_rfl
/-- (*bollard/audio.Forwarder).Listen (20) -/
def x10b : XC := (.seq (.region [⟨(some 4), (.mv (.c (.i .i64 0))), none, 0, []⟩])
  (.seq (.region [⟨(some 6), (.mv (.t 0)), none, 0, []⟩, ⟨(some 7), (.mv (.t 1)), none, 1, []⟩, ⟨(some 8), (.call (.c (.fn (.func 25) [] [])) [(.t 6), (.t 7)]), none, 2, []⟩, ⟨(some 5), (.mv (.t 8)), none, 3, []⟩])
  (.seq (.block 0 (.seq (.region [⟨(some 10), (.mv (.t 5)), none, 0, []⟩, ⟨(some 11), (.nilq 0 false (.t 10)), none, 1, []⟩, ⟨(some 9), (.mv (.t 11)), none, 2, []⟩])
  (.cond (.t 9) (.seq (.region [⟨(some 4), (.mv (.c (.i .i64 1))), none, 0, []⟩])
  .ret) (.seq (.region [⟨(some 13), (.mv (.t 5)), none, 0, []⟩, ⟨(some 14), (.nilc (.t 13)), none, 1, []⟩, ⟨(some 15), (.fadd 0 (.t 14)), none, 2, []⟩, ⟨(some 16), (.load false 1 (.t 15)), none, 3, []⟩, ⟨(some 12), (.mv (.t 16)), none, 4, []⟩])
  (.cond (.t 12) (.seq (.region [⟨(some 4), (.mv (.c (.i .i64 8))), none, 0, []⟩])
  .ret) .skip)))))
  (.seq (.region [⟨(some 17), (.mv (.t 5)), none, 0, []⟩, ⟨(some 18), (.build [(.b false), (.b false), (.i .u32 0), (.i .u16 0), (.i .u16 0), (.b false), (.i .u32 0), (.i .u16 0), (.i .u16 0), (.b false), (.i .u32 0), (.i .u16 0), (.i .u16 0), (.b false), (.i .u32 0), (.i .u16 0), (.i .u16 0), (.b false), (.i .u32 0), (.i .u16 0), (.i .u16 0), (.b false), (.i .u32 0), (.i .u16 0), (.i .u16 0), (.b false), (.i .u32 0), (.i .u16 0), (.i .u16 0), (.b false), (.i .u32 0), (.i .u16 0), (.i .u16 0), (.b false), (.i .u32 0), (.i .u16 0), (.i .u16 0), (.b false), (.i .u32 0), (.i .u16 0), (.i .u16 0), (.b false), (.i .u32 0), (.i .u16 0), (.i .u16 0), (.b false), (.i .u32 0), (.i .u16 0), (.i .u16 0), (.b false), (.i .u32 0), (.i .u16 0), (.i .u16 0), (.b false), (.i .u32 0), (.i .u16 0), (.i .u16 0), (.b false), (.i .u32 0), (.i .u16 0), (.i .u16 0), (.b false), (.i .u32 0), (.i .u16 0), (.i .u16 0), (.sl none 0 0 0), (.i .i64 0)] [(0, 1, (.c (.b true)))]), none, 1, []⟩, ⟨(some 19), (.nilc (.t 17)), none, 2, []⟩, ⟨none, (.store 67 (.t 19) (.t 18)), none, 3, []⟩])
  (.seq (.region [⟨(some 4), (.mv (.c (.i .i64 0))), none, 0, []⟩])
  .ret)))))
def x10 : XFun := ⟨x10b, [(.t 4)]⟩
theorem x10_ok : compF Try.prog 10 = some x10 := by kernel_rfl
/-- (*bollard/audio.Forwarder).Hear (63) -/
def x11b : XC := (.seq (.region [⟨(some 5), (.box (.t 2)), none, 0, []⟩, ⟨(some 6), (.mv (.c (.i .i64 0))), none, 1, []⟩, ⟨(some 7), (.mv (.c (.i .i64 0))), none, 2, []⟩])
  (.seq (.region [⟨(some 13), (.mv (.t 0)), none, 0, []⟩, ⟨(some 14), (.mv (.t 1)), none, 1, []⟩, ⟨(some 15), (.call (.c (.fn (.func 25) [] [])) [(.t 13), (.t 14)]), none, 2, []⟩, ⟨(some 8), (.mv (.t 15)), none, 3, []⟩])
  (.seq (.seq (.region [⟨(some 16), (.mv (.t 8)), none, 0, []⟩, ⟨(some 17), (.nilq 0 false (.t 16)), none, 1, []⟩])
  (.cond (.t 17) (.seq (.region [⟨(some 6), (.mv (.c (.i .i64 0))), none, 0, []⟩, ⟨(some 7), (.mv (.c (.i .i64 1))), none, 1, []⟩])
  .ret) .skip))
  (.seq (.seq (.region [⟨(some 18), (.load true 6 (.t 5)), none, 0, []⟩, ⟨(some 19), (.call (.c (.fn (.func 26) [] [])) [(.t 18)]), none, 1, []⟩, ⟨(some 9), (.mv (.t 19)), none, 2, []⟩])
  (.seq (.region [⟨(some 20), (.mv (.t 9)), none, 0, []⟩, ⟨(some 21), (.bin .neq (.t 20) (.c (.i .i64 0))), none, 1, []⟩])
  (.cond (.t 21) (.seq (.region [⟨(some 22), (.mv (.t 9)), none, 0, []⟩, ⟨(some 6), (.mv (.c (.i .i64 0))), none, 1, []⟩, ⟨(some 7), (.mv (.t 22)), none, 2, []⟩])
  .ret) .skip)))
  (.seq (.seq (.region [⟨(some 23), (.mv (.t 8)), none, 0, []⟩, ⟨(some 24), (.nilc (.t 23)), none, 1, []⟩, ⟨(some 25), (.fadd 0 (.t 24)), none, 2, []⟩, ⟨(some 26), (.load false 1 (.t 25)), none, 3, []⟩, ⟨(some 27), (.unx .not (.t 26)), none, 4, []⟩])
  (.cond (.t 27) (.seq (.region [⟨(some 6), (.mv (.c (.i .i64 0))), none, 0, []⟩, ⟨(some 7), (.mv (.c (.i .i64 11))), none, 1, []⟩])
  .ret) .skip))
  (.seq (.region [⟨(some 10), (.mv (.c (.i .i64 0))), none, 0, []⟩])
  (.seq (.region [⟨(some 28), (.fadd 5 (.t 5)), none, 0, []⟩, ⟨(some 29), (.load false 1 (.t 28)), none, 1, []⟩, ⟨(some 11), (.mv (.t 29)), none, 2, []⟩])
  (.seq (.seq (.region [⟨(some 30), (.mv (.t 0)), none, 0, []⟩, ⟨(some 31), (.nilc (.t 30)), none, 1, []⟩, ⟨(some 32), (.fadd 0 (.t 31)), none, 2, []⟩, ⟨(some 33), (.load false 1 (.t 32)), none, 3, []⟩, ⟨(some 34), (.lenx (.t 33)), none, 4, []⟩, ⟨(some 35), (.mv (.c (.i .i64 0))), none, 5, []⟩])
  (.block 0 (.loop (.seq (.region [⟨(some 36), (.bin .lss (.t 35) (.t 34)), none, 0, []⟩])
  (.seq (.cond (.t 36) .skip (.exit 0))
  (.seq (.block 1 (.seq (.region [⟨(some 37), (.mv (.t 35)), none, 0, []⟩, ⟨(some 12), (.mv (.t 37)), none, 1, []⟩])
  (.seq (.region [⟨(some 38), (.mv (.t 11)), none, 0, []⟩, ⟨(some 39), (.call (.c (.fn (.func 27) [] [])) [(.t 38)]), none, 1, []⟩, ⟨(some 40), (.fadd 5 (.t 5)), none, 2, []⟩, ⟨none, (.store 1 (.t 40) (.t 39)), none, 3, []⟩])
  (.seq (.draw [⟨(some 41), (.mv (.t 12)), none, 0, []⟩, ⟨(some 42), (.mv (.t 1)), none, 1, []⟩, ⟨(some 43), (.bin .neq (.t 41) (.t 42)), none, 2, [0, 1]⟩, ⟨(some 44), (.mv (.t 43)), none, 3, [0, 1, 2]⟩, ⟨(some 45), (.mv (.t 0)), (some (44, true)), 4, [0, 1, 2, 3]⟩, ⟨(some 46), (.nilc (.t 45)), (some (44, true)), 5, [0, 1, 2, 3, 4]⟩, ⟨(some 47), (.fadd 0 (.t 46)), (some (44, true)), 6, [0, 1, 2, 3, 4, 5]⟩, ⟨(some 49), (.mv (.t 12)), (some (44, true)), 8, [0, 1, 2, 3]⟩, ⟨(some 51), (.mv (.t 1)), (some (44, true)), 10, [0, 1, 2, 3]⟩, ⟨(some 53), (.mv (.t 0)), (some (44, true)), 12, [0, 1, 2, 3]⟩, ⟨(some 54), (.nilc (.t 53)), (some (44, true)), 13, [0, 1, 2, 3, 12]⟩, ⟨(some 55), (.fadd 1 (.t 54)), (some (44, true)), 14, [0, 1, 2, 3, 12, 13]⟩, ⟨(some 48), (.load false 1 (.t 47)), (some (44, true)), 7, [0, 1, 2, 3, 4, 5, 6]⟩, ⟨(some 50), (.isl 67 (.t 48) (.t 49)), (some (44, true)), 9, [0, 1, 2, 3, 4, 5, 6, 7, 8]⟩, ⟨(some 52), (.load true 6 (.t 5)), (some (44, true)), 11, [0, 1, 2, 3]⟩, ⟨(some 56), (.load false 1 (.t 55)), (some (44, true)), 15, [0, 1, 2, 3, 12, 13, 14]⟩, ⟨(some 57), (.call (.c (.fn (.func 28) [] [])) [(.t 50), (.t 51), (.t 52), (.t 56)]), (some (44, true)), 16, [0, 1, 2, 3, 4, 5, 6, 7, 8, 9, 10, 11, 12, 13, 14, 15]⟩, ⟨(some 58), (.pick (.t 44) (.t 57) (.c (.b false))), none, 17, [0, 1, 2, 3, 4, 5, 6, 7, 8, 9, 10, 11, 12, 13, 14, 15, 16]⟩])
  (.cond (.t 58) (.region [⟨(some 59), (.mv (.t 10)), none, 0, []⟩, ⟨(some 60), (.bin .add (.t 59) (.c (.i .i64 1))), none, 1, []⟩, ⟨(some 10), (.mv (.t 60)), none, 2, []⟩]) .skip)))))
  (.region [⟨(some 61), (.bin .add (.t 35) (.c (.i .i64 1))), none, 0, []⟩, ⟨(some 35), (.mv (.t 61)), none, 1, []⟩])))))))
  (.seq (.region [⟨(some 62), (.mv (.t 10)), none, 0, []⟩, ⟨(some 6), (.mv (.t 62)), none, 1, []⟩, ⟨(some 7), (.mv (.c (.i .i64 0))), none, 2, []⟩])
  .ret)))))))))
def x11 : XFun := ⟨x11b, [(.t 6), (.t 7)]⟩
theorem x11_ok : compF Try.prog 11 = some x11 := by kernel_rfl
/-- (*bollard/audio.Forwarder).Pull (37) -/
def x12b : XC := (.seq (.region [⟨(some 4), (.alloc [(.b false), (.i .u8 0), (.i .u16 0), (.i .u32 0), (.i .u32 0), (.sl none 0 0 0)]), none, 0, []⟩, ⟨(some 5), (.mv (.c (.b false))), none, 1, []⟩])
  (.seq (.region [⟨(some 8), (.mv (.t 0)), none, 0, []⟩, ⟨(some 9), (.mv (.t 1)), none, 1, []⟩, ⟨(some 10), (.call (.c (.fn (.func 25) [] [])) [(.t 8), (.t 9)]), none, 2, []⟩, ⟨(some 6), (.mv (.t 10)), none, 3, []⟩])
  (.seq (.seq (.region [⟨(some 11), (.mv (.t 6)), none, 0, []⟩, ⟨(some 12), (.nilq 0 false (.t 11)), none, 1, []⟩, ⟨(some 13), (.mv (.t 12)), none, 2, []⟩, ⟨(some 14), (.mv (.t 6)), (some (13, false)), 3, []⟩, ⟨(some 15), (.nilc (.t 14)), (some (13, false)), 4, []⟩, ⟨(some 16), (.fadd 65 (.t 15)), (some (13, false)), 5, []⟩, ⟨(some 17), (.load false 1 (.t 16)), (some (13, false)), 6, []⟩, ⟨(some 18), (.lenx (.t 17)), (some (13, false)), 7, []⟩, ⟨(some 19), (.bin .eql (.t 18) (.c (.i .i64 0))), (some (13, false)), 8, []⟩, ⟨(some 20), (.pick (.t 13) (.c (.b true)) (.t 19)), none, 9, []⟩])
  (.cond (.t 20) (.seq (.region [⟨(some 21), (.build [(.b false), (.i .u8 0), (.i .u16 0), (.i .u32 0), (.i .u32 0), (.sl none 0 0 0)] []), none, 0, []⟩, ⟨none, (.store 6 (.t 4) (.t 21)), none, 1, []⟩, ⟨(some 5), (.mv (.c (.b false))), none, 2, []⟩])
  .ret) .skip))
  (.seq (.region [⟨(some 22), (.mv (.t 6)), none, 0, []⟩, ⟨(some 23), (.nilc (.t 22)), none, 1, []⟩, ⟨(some 24), (.fadd 65 (.t 23)), none, 2, []⟩, ⟨(some 25), (.load false 1 (.t 24)), none, 3, []⟩, ⟨(some 26), (.isl 6 (.t 25) (.c (.i .i64 0))), none, 4, []⟩, ⟨(some 27), (.load true 6 (.t 26)), none, 5, []⟩, ⟨(some 7), (.alloc [(.b false), (.i .u8 0), (.i .u16 0), (.i .u32 0), (.i .u32 0), (.sl none 0 0 0)]), none, 6, []⟩, ⟨none, (.store 6 (.t 7) (.t 27)), none, 7, []⟩])
  (.seq (.region [⟨(some 28), (.mv (.t 6)), none, 0, []⟩, ⟨(some 29), (.mv (.t 6)), none, 1, []⟩, ⟨(some 30), (.nilc (.t 29)), none, 2, []⟩, ⟨(some 31), (.fadd 65 (.t 30)), none, 3, []⟩, ⟨(some 32), (.load false 1 (.t 31)), none, 4, []⟩, ⟨(some 33), (.call (.c (.fn (.func 29) [] [])) [(.t 32), (.c (.i .i64 0)), (.c (.i .i64 1))]), none, 5, []⟩, ⟨(some 34), (.nilc (.t 28)), none, 6, []⟩, ⟨(some 35), (.fadd 65 (.t 34)), none, 7, []⟩, ⟨none, (.store 1 (.t 35) (.t 33)), none, 8, []⟩])
  (.seq (.region [⟨(some 36), (.load true 6 (.t 7)), none, 0, []⟩, ⟨none, (.store 6 (.t 4) (.t 36)), none, 1, []⟩, ⟨(some 5), (.mv (.c (.b true))), none, 2, []⟩])
  .ret))))))
def x12 : XFun := ⟨x12b, [(.cell 4 true 6), (.t 5)]⟩
theorem x12_ok : compF Try.prog 12 = some x12 := by kernel_rfl
/-- (*bollard/audio.Forwarder).Waiting (16) -/
def x13b : XC := (.seq (.region [⟨(some 4), (.mv (.c (.i .i64 0))), none, 0, []⟩])
  (.seq (.seq (.region [⟨(some 6), (.mv (.t 0)), none, 0, []⟩, ⟨(some 7), (.mv (.t 1)), none, 1, []⟩, ⟨(some 8), (.call (.c (.fn (.func 25) [] [])) [(.t 6), (.t 7)]), none, 2, []⟩, ⟨(some 5), (.mv (.t 8)), none, 3, []⟩])
  (.seq (.region [⟨(some 9), (.mv (.t 5)), none, 0, []⟩, ⟨(some 10), (.nilq 0 true (.t 9)), none, 1, []⟩])
  (.cond (.t 10) (.seq (.region [⟨(some 11), (.mv (.t 5)), none, 0, []⟩, ⟨(some 12), (.nilc (.t 11)), none, 1, []⟩, ⟨(some 13), (.fadd 65 (.t 12)), none, 2, []⟩, ⟨(some 14), (.load false 1 (.t 13)), none, 3, []⟩, ⟨(some 15), (.lenx (.t 14)), none, 4, []⟩, ⟨(some 4), (.mv (.t 15)), none, 5, []⟩])
  .ret) .skip)))
  (.seq (.region [⟨(some 4), (.mv (.c (.i .i64 0))), none, 0, []⟩])
  .ret)))
def x13 : XFun := ⟨x13b, [(.t 4)]⟩
theorem x13_ok : compF Try.prog 13 = some x13 := by kernel_rfl
/-- bollard/bollardlaw20.same (10) -/
def x14b : XC := (.seq (.region [⟨(some 4), (.mv (.c (.b false))), none, 0, []⟩])
  (.seq (.region [⟨(some 5), (.mv (.t 0)), none, 0, []⟩, ⟨(some 6), (.cb2s (.t 5)), none, 1, []⟩, ⟨(some 7), (.mv (.t 1)), none, 2, []⟩, ⟨(some 8), (.cb2s (.t 7)), none, 3, []⟩, ⟨(some 9), (.bin .eql (.t 6) (.t 8)), none, 4, []⟩, ⟨(some 4), (.mv (.t 9)), none, 5, []⟩])
  .ret))
def x14 : XFun := ⟨x14b, [(.t 4)]⟩
theorem x14_ok : compF Try.prog 14 = some x14 := by kernel_rfl
/-- (*bollard/audio.Forwarder).Lost (15) -/
def x15b : XC := (.seq (.region [⟨(some 4), (.mv (.c (.i .i64 0))), none, 0, []⟩])
  (.seq (.seq (.region [⟨(some 6), (.mv (.t 0)), none, 0, []⟩, ⟨(some 7), (.mv (.t 1)), none, 1, []⟩, ⟨(some 8), (.call (.c (.fn (.func 25) [] [])) [(.t 6), (.t 7)]), none, 2, []⟩, ⟨(some 5), (.mv (.t 8)), none, 3, []⟩])
  (.seq (.region [⟨(some 9), (.mv (.t 5)), none, 0, []⟩, ⟨(some 10), (.nilq 0 true (.t 9)), none, 1, []⟩])
  (.cond (.t 10) (.seq (.region [⟨(some 11), (.mv (.t 5)), none, 0, []⟩, ⟨(some 12), (.nilc (.t 11)), none, 1, []⟩, ⟨(some 13), (.fadd 66 (.t 12)), none, 2, []⟩, ⟨(some 14), (.load false 1 (.t 13)), none, 3, []⟩, ⟨(some 4), (.mv (.t 14)), none, 4, []⟩])
  .ret) .skip)))
  (.seq (.region [⟨(some 4), (.mv (.c (.i .i64 0))), none, 0, []⟩])
  .ret)))
def x15 : XFun := ⟨x15b, [(.t 4)]⟩
theorem x15_ok : compF Try.prog 15 = some x15 := by kernel_rfl
/-- (*bollard/audio.Forwarder).Quiet (21) -/
def x16b : XC := (.seq (.region [⟨(some 4), (.mv (.c (.i .i64 0))), none, 0, []⟩])
  (.seq (.region [⟨(some 6), (.mv (.t 0)), none, 0, []⟩, ⟨(some 7), (.mv (.t 1)), none, 1, []⟩, ⟨(some 8), (.call (.c (.fn (.func 25) [] [])) [(.t 6), (.t 7)]), none, 2, []⟩, ⟨(some 5), (.mv (.t 8)), none, 3, []⟩])
  (.seq (.block 0 (.seq (.region [⟨(some 10), (.mv (.t 5)), none, 0, []⟩, ⟨(some 11), (.nilq 0 false (.t 10)), none, 1, []⟩, ⟨(some 9), (.mv (.t 11)), none, 2, []⟩])
  (.cond (.t 9) (.seq (.region [⟨(some 4), (.mv (.c (.i .i64 1))), none, 0, []⟩])
  .ret) (.seq (.region [⟨(some 13), (.mv (.t 5)), none, 0, []⟩, ⟨(some 14), (.nilc (.t 13)), none, 1, []⟩, ⟨(some 15), (.fadd 0 (.t 14)), none, 2, []⟩, ⟨(some 16), (.load false 1 (.t 15)), none, 3, []⟩, ⟨(some 17), (.unx .not (.t 16)), none, 4, []⟩, ⟨(some 12), (.mv (.t 17)), none, 5, []⟩])
  (.cond (.t 12) (.seq (.region [⟨(some 4), (.mv (.c (.i .i64 11))), none, 0, []⟩])
  .ret) .skip)))))
  (.seq (.region [⟨(some 18), (.mv (.t 5)), none, 0, []⟩, ⟨(some 19), (.build [(.b false), (.b false), (.i .u32 0), (.i .u16 0), (.i .u16 0), (.b false), (.i .u32 0), (.i .u16 0), (.i .u16 0), (.b false), (.i .u32 0), (.i .u16 0), (.i .u16 0), (.b false), (.i .u32 0), (.i .u16 0), (.i .u16 0), (.b false), (.i .u32 0), (.i .u16 0), (.i .u16 0), (.b false), (.i .u32 0), (.i .u16 0), (.i .u16 0), (.b false), (.i .u32 0), (.i .u16 0), (.i .u16 0), (.b false), (.i .u32 0), (.i .u16 0), (.i .u16 0), (.b false), (.i .u32 0), (.i .u16 0), (.i .u16 0), (.b false), (.i .u32 0), (.i .u16 0), (.i .u16 0), (.b false), (.i .u32 0), (.i .u16 0), (.i .u16 0), (.b false), (.i .u32 0), (.i .u16 0), (.i .u16 0), (.b false), (.i .u32 0), (.i .u16 0), (.i .u16 0), (.b false), (.i .u32 0), (.i .u16 0), (.i .u16 0), (.b false), (.i .u32 0), (.i .u16 0), (.i .u16 0), (.b false), (.i .u32 0), (.i .u16 0), (.i .u16 0), (.sl none 0 0 0), (.i .i64 0)] []), none, 1, []⟩, ⟨(some 20), (.nilc (.t 18)), none, 2, []⟩, ⟨none, (.store 67 (.t 20) (.t 19)), none, 3, []⟩])
  (.seq (.region [⟨(some 4), (.mv (.c (.i .i64 0))), none, 0, []⟩])
  .ret)))))
def x16 : XFun := ⟨x16b, [(.t 4)]⟩
theorem x16_ok : compF Try.prog 16 = some x16 := by kernel_rfl
/-- bollard/audio.Encode (33) -/
def x17b : XC := (.seq (.region [⟨(some 1), (.box (.t 0)), none, 0, []⟩, ⟨(some 2), (.mv (.c (.sl none 0 0 0))), none, 1, []⟩, ⟨(some 3), (.mv (.c (.i .i64 0))), none, 2, []⟩])
  (.seq (.seq (.region [⟨(some 6), (.load true 6 (.t 1)), none, 0, []⟩, ⟨(some 7), (.call (.c (.fn (.func 26) [] [])) [(.t 6)]), none, 1, []⟩, ⟨(some 4), (.mv (.t 7)), none, 2, []⟩])
  (.seq (.region [⟨(some 8), (.mv (.t 4)), none, 0, []⟩, ⟨(some 9), (.bin .neq (.t 8) (.c (.i .i64 0))), none, 1, []⟩])
  (.cond (.t 9) (.seq (.region [⟨(some 10), (.mv (.t 4)), none, 0, []⟩, ⟨(some 2), (.mv (.c (.sl none 0 0 0))), none, 1, []⟩, ⟨(some 3), (.mv (.t 10)), none, 2, []⟩])
  .ret) .skip)))
  (.seq (.seq (.region [⟨(some 11), (.fadd 0 (.t 1)), none, 0, []⟩, ⟨(some 12), (.load false 1 (.t 11)), none, 1, []⟩])
  (.cond (.t 12) (.region [⟨(some 13), (.fadd 1 (.t 1)), none, 0, []⟩, ⟨(some 14), (.load false 1 (.t 13)), none, 1, []⟩, ⟨(some 15), (.bin .or (.t 14) (.c (.i .u8 128))), none, 2, []⟩, ⟨(some 16), (.fadd 1 (.t 1)), none, 3, []⟩, ⟨none, (.store 1 (.t 16) (.t 15)), none, 4, []⟩]) .skip))
  (.seq (.region [⟨(some 17), (.fadd 1 (.t 1)), none, 0, []⟩, ⟨(some 18), (.load false 1 (.t 17)), none, 1, []⟩, ⟨(some 19), (.bslice [(.i .u8 0), (.i .u8 0)] [(0, 1, (.c (.i .u8 128))), (1, 1, (.t 18))] 2), none, 2, []⟩, ⟨(some 20), (.fadd 2 (.t 1)), none, 3, []⟩, ⟨(some 21), (.load false 1 (.t 20)), none, 4, []⟩, ⟨(some 22), (.call (.c (.fn (.func 30) [] [])) [(.t 19), (.t 21)]), none, 5, []⟩, ⟨(some 5), (.mv (.t 22)), none, 6, []⟩])
  (.seq (.draw [⟨(some 23), (.mv (.t 5)), none, 0, []⟩, ⟨(some 24), (.fadd 3 (.t 1)), none, 1, []⟩, ⟨(some 27), (.fadd 4 (.t 1)), none, 4, []⟩, ⟨(some 30), (.fadd 5 (.t 1)), none, 7, []⟩, ⟨(some 25), (.load false 1 (.t 24)), none, 2, [1]⟩, ⟨(some 28), (.load false 1 (.t 27)), none, 5, [4]⟩, ⟨(some 31), (.load false 1 (.t 30)), none, 8, [7]⟩, ⟨(some 26), (.call (.c (.fn (.func 31) [] [])) [(.t 23), (.t 25)]), none, 3, [0, 1, 2]⟩, ⟨(some 29), (.call (.c (.fn (.func 31) [] [])) [(.t 26), (.t 28)]), none, 6, [0, 1, 2, 3, 4, 5]⟩, ⟨(some 32), (.append 1 1 (.t 29) (.t 31)), none, 9, [0, 1, 2, 3, 4, 5, 6, 7, 8]⟩, ⟨(some 2), (.mv (.t 32)), none, 10, [0, 1, 2, 3, 4, 5, 6, 7, 8, 9]⟩, ⟨(some 3), (.mv (.c (.i .i64 0))), none, 11, [0, 1, 2, 3, 4, 5, 6, 7, 8, 9, 10]⟩])
  .ret)))))
def x17 : XFun := ⟨x17b, [(.t 2), (.t 3)]⟩
theorem x17_ok : compF Try.prog 17 = some x17 := by kernel_rfl
/-- bollard/bollardref20.Encode (36) -/
def x18b : XC := (.seq (.region [⟨(some 1), (.box (.t 0)), none, 0, []⟩, ⟨(some 2), (.mv (.c (.sl none 0 0 0))), none, 1, []⟩, ⟨(some 3), (.mv (.c (.i .i64 0))), none, 2, []⟩])
  (.seq (.seq (.region [⟨(some 6), (.fadd 1 (.t 1)), none, 0, []⟩, ⟨(some 7), (.load false 1 (.t 6)), none, 1, []⟩, ⟨(some 8), (.bin .gtr (.t 7) (.c (.i .u8 127))), none, 2, []⟩])
  (.cond (.t 8) (.seq (.region [⟨(some 2), (.mv (.c (.sl none 0 0 0))), none, 0, []⟩, ⟨(some 3), (.mv (.c (.i .i64 1))), none, 1, []⟩])
  .ret) .skip))
  (.seq (.seq (.region [⟨(some 9), (.fadd 5 (.t 1)), none, 0, []⟩, ⟨(some 10), (.load false 1 (.t 9)), none, 1, []⟩, ⟨(some 11), (.lenx (.t 10)), none, 2, []⟩, ⟨(some 12), (.bin .gtr (.t 11) (.c (.i .i64 1188))), none, 3, []⟩])
  (.cond (.t 12) (.seq (.region [⟨(some 2), (.mv (.c (.sl none 0 0 0))), none, 0, []⟩, ⟨(some 3), (.mv (.c (.i .i64 10))), none, 1, []⟩])
  .ret) .skip))
  (.seq (.region [⟨(some 13), (.fadd 1 (.t 1)), none, 0, []⟩, ⟨(some 14), (.load false 1 (.t 13)), none, 1, []⟩, ⟨(some 4), (.mv (.t 14)), none, 2, []⟩])
  (.seq (.seq (.region [⟨(some 15), (.fadd 0 (.t 1)), none, 0, []⟩, ⟨(some 16), (.load false 1 (.t 15)), none, 1, []⟩])
  (.cond (.t 16) (.region [⟨(some 17), (.mv (.t 4)), none, 0, []⟩, ⟨(some 18), (.bin .add (.t 17) (.c (.i .u8 128))), none, 1, []⟩, ⟨(some 4), (.mv (.t 18)), none, 2, []⟩]) .skip))
  (.seq (.region [⟨(some 19), (.mv (.t 4)), none, 0, []⟩, ⟨(some 20), (.bslice [(.i .u8 0), (.i .u8 0)] [(0, 1, (.c (.i .u8 128))), (1, 1, (.t 19))] 2), none, 1, []⟩, ⟨(some 21), (.fadd 2 (.t 1)), none, 2, []⟩, ⟨(some 22), (.load false 1 (.t 21)), none, 3, []⟩, ⟨(some 23), (.cint .u32 (.t 22)), none, 4, []⟩, ⟨(some 24), (.call (.c (.fn (.func 32) [] [])) [(.t 20), (.t 23), (.c (.i .i64 2))]), none, 5, []⟩, ⟨(some 5), (.mv (.t 24)), none, 6, []⟩])
  (.seq (.draw [⟨(some 25), (.mv (.t 5)), none, 0, []⟩, ⟨(some 26), (.fadd 3 (.t 1)), none, 1, []⟩, ⟨(some 29), (.fadd 4 (.t 1)), none, 4, []⟩, ⟨(some 27), (.load false 1 (.t 26)), none, 2, [1]⟩, ⟨(some 30), (.load false 1 (.t 29)), none, 5, [4]⟩, ⟨(some 28), (.call (.c (.fn (.func 32) [] [])) [(.t 25), (.t 27), (.c (.i .i64 4))]), none, 3, [0, 1, 2]⟩, ⟨(some 31), (.call (.c (.fn (.func 32) [] [])) [(.t 28), (.t 30), (.c (.i .i64 4))]), none, 6, [0, 1, 2, 3, 4, 5]⟩, ⟨(some 5), (.mv (.t 31)), none, 7, [0, 1, 2, 3, 4, 5, 6]⟩])
  (.seq (.region [⟨(some 32), (.mv (.t 5)), none, 0, []⟩, ⟨(some 33), (.fadd 5 (.t 1)), none, 1, []⟩, ⟨(some 34), (.load false 1 (.t 33)), none, 2, []⟩, ⟨(some 35), (.append 1 1 (.t 32) (.t 34)), none, 3, []⟩, ⟨(some 2), (.mv (.t 35)), none, 4, []⟩, ⟨(some 3), (.mv (.c (.i .i64 0))), none, 5, []⟩])
  .ret))))))))
def x18 : XFun := ⟨x18b, [(.t 2), (.t 3)]⟩
theorem x18_ok : compF Try.prog 18 = some x18 := by kernel_rfl
/-- bollard/bollardlaw20.theirs (16) -/
def x19b : XC := (.seq (.region [⟨(some 1), (.box (.t 0)), none, 0, []⟩, ⟨(some 2), (.alloc [(.b false), (.i .u8 0), (.i .u16 0), (.i .u32 0), (.i .u32 0), (.sl none 0 0 0)]), none, 1, []⟩])
  (.seq (.region [⟨(some 3), (.fadd 0 (.t 1)), none, 0, []⟩, ⟨(some 4), (.load false 1 (.t 3)), none, 1, []⟩, ⟨(some 5), (.fadd 1 (.t 1)), none, 2, []⟩, ⟨(some 6), (.load false 1 (.t 5)), none, 3, []⟩, ⟨(some 7), (.fadd 2 (.t 1)), none, 4, []⟩, ⟨(some 8), (.load false 1 (.t 7)), none, 5, []⟩, ⟨(some 9), (.fadd 3 (.t 1)), none, 6, []⟩, ⟨(some 10), (.load false 1 (.t 9)), none, 7, []⟩, ⟨(some 11), (.fadd 4 (.t 1)), none, 8, []⟩, ⟨(some 12), (.load false 1 (.t 11)), none, 9, []⟩, ⟨(some 13), (.fadd 5 (.t 1)), none, 10, []⟩, ⟨(some 14), (.load false 1 (.t 13)), none, 11, []⟩, ⟨(some 15), (.build [(.b false), (.i .u8 0), (.i .u16 0), (.i .u32 0), (.i .u32 0), (.sl none 0 0 0)] [(0, 1, (.t 4)), (1, 1, (.t 6)), (2, 1, (.t 8)), (3, 1, (.t 10)), (4, 1, (.t 12)), (5, 1, (.t 14))]), none, 12, []⟩, ⟨none, (.store 6 (.t 2) (.t 15)), none, 13, []⟩])
  .ret))
def x19 : XFun := ⟨x19b, [(.cell 2 true 6)]⟩
theorem x19_ok : compF Try.prog 19 = some x19 := by kernel_rfl
/-- bollard/audio.Decode (65) -/
def x20b : XC := (.seq (.region [⟨(some 2), (.alloc [(.b false), (.i .u8 0), (.i .u16 0), (.i .u32 0), (.i .u32 0), (.sl none 0 0 0)]), none, 0, []⟩, ⟨(some 3), (.mv (.c (.i .i64 0))), none, 1, []⟩])
  (.seq (.block 0 (.seq (.region [⟨(some 9), (.mv (.t 0)), none, 0, []⟩, ⟨(some 10), (.lenx (.t 9)), none, 1, []⟩, ⟨(some 11), (.bin .gtr (.t 10) (.c (.i .i64 1200))), none, 2, []⟩, ⟨(some 8), (.mv (.t 11)), none, 3, []⟩])
  (.cond (.t 8) (.seq (.region [⟨(some 12), (.build [(.b false), (.i .u8 0), (.i .u16 0), (.i .u32 0), (.i .u32 0), (.sl none 0 0 0)] []), none, 0, []⟩, ⟨none, (.store 6 (.t 2) (.t 12)), none, 1, []⟩, ⟨(some 3), (.mv (.c (.i .i64 10))), none, 2, []⟩])
  .ret) (.seq (.region [⟨(some 14), (.mv (.t 0)), none, 0, []⟩, ⟨(some 15), (.lenx (.t 14)), none, 1, []⟩, ⟨(some 16), (.bin .lss (.t 15) (.c (.i .i64 12))), none, 2, []⟩, ⟨(some 13), (.mv (.t 16)), none, 3, []⟩])
  (.cond (.t 13) (.seq (.region [⟨(some 17), (.build [(.b false), (.i .u8 0), (.i .u16 0), (.i .u32 0), (.i .u32 0), (.sl none 0 0 0)] []), none, 0, []⟩, ⟨none, (.store 6 (.t 2) (.t 17)), none, 1, []⟩, ⟨(some 3), (.mv (.c (.i .i64 2))), none, 2, []⟩])
  .ret) (.seq (.region [⟨(some 19), (.mv (.t 0)), none, 0, []⟩, ⟨(some 20), (.isl 1 (.t 19) (.c (.i .i64 0))), none, 1, []⟩, ⟨(some 21), (.load false 1 (.t 20)), none, 2, []⟩, ⟨(some 22), (.bin .neq (.t 21) (.c (.i .u8 128))), none, 3, []⟩, ⟨(some 18), (.mv (.t 22)), none, 4, []⟩])
  (.cond (.t 18) (.seq (.region [⟨(some 23), (.build [(.b false), (.i .u8 0), (.i .u16 0), (.i .u32 0), (.i .u32 0), (.sl none 0 0 0)] []), none, 0, []⟩, ⟨none, (.store 6 (.t 2) (.t 23)), none, 1, []⟩, ⟨(some 3), (.mv (.c (.i .i64 3))), none, 2, []⟩])
  .ret) .skip)))))))
  (.seq (.region [⟨(some 24), (.mv (.t 0)), none, 0, []⟩, ⟨(some 25), (.slsl 1 (.t 24) (some (.c (.i .i64 1))) none none), none, 1, []⟩, ⟨(some 26), (.call (.c (.fn (.func 33) [] [])) [(.t 25)]), none, 2, []⟩, ⟨(some 4), (.mv (.t 26)), none, 3, []⟩])
  (.seq (.region [⟨(some 28), (.mv (.t 4)), none, 0, []⟩, ⟨(some 29), (.call (.c (.fn (.func 34) [] [])) [(.t 28)]), none, 1, []⟩, ⟨(some 27), (.mv (.t 29)), none, 2, []⟩, ⟨(some 30), (.ext (.t 27) 0), none, 3, []⟩, ⟨(some 31), (.ext (.t 27) 1), none, 4, []⟩, ⟨(some 5), (.mv (.t 30)), none, 5, []⟩, ⟨(some 6), (.mv (.t 31)), none, 6, []⟩])
  (.seq (.region [⟨(some 32), (.mv (.t 5)), none, 0, []⟩, ⟨(some 33), (.bin .and (.t 32) (.c (.i .u8 128))), none, 1, []⟩, ⟨(some 34), (.bin .neq (.t 33) (.c (.i .u8 0))), none, 2, []⟩, ⟨(some 35), (.mv (.t 5)), none, 3, []⟩, ⟨(some 36), (.bin .andNot (.t 35) (.c (.i .u8 128))), none, 4, []⟩, ⟨(some 37), (.build [(.b false), (.i .u8 0), (.i .u16 0), (.i .u32 0), (.i .u32 0), (.sl none 0 0 0)] [(0, 1, (.t 34)), (1, 1, (.t 36))]), none, 5, []⟩, ⟨(some 7), (.alloc [(.b false), (.i .u8 0), (.i .u16 0), (.i .u32 0), (.i .u32 0), (.sl none 0 0 0)]), none, 6, []⟩, ⟨none, (.store 6 (.t 7) (.t 37)), none, 7, []⟩])
  (.seq (.region [⟨(some 39), (.mv (.t 4)), none, 0, []⟩, ⟨(some 40), (.call (.c (.fn (.func 35) [] [])) [(.t 39)]), none, 1, []⟩, ⟨(some 38), (.mv (.t 40)), none, 2, []⟩, ⟨(some 41), (.ext (.t 38) 0), none, 3, []⟩, ⟨(some 42), (.ext (.t 38) 1), none, 4, []⟩, ⟨(some 43), (.fadd 2 (.t 7)), none, 5, []⟩, ⟨none, (.store 1 (.t 43) (.t 41)), none, 6, []⟩])
  (.seq (.region [⟨(some 45), (.mv (.t 4)), none, 0, []⟩, ⟨(some 46), (.call (.c (.fn (.func 36) [] [])) [(.t 45)]), none, 1, []⟩, ⟨(some 44), (.mv (.t 46)), none, 2, []⟩, ⟨(some 47), (.ext (.t 44) 0), none, 3, []⟩, ⟨(some 48), (.ext (.t 44) 1), none, 4, []⟩, ⟨(some 49), (.fadd 3 (.t 7)), none, 5, []⟩, ⟨none, (.store 1 (.t 49) (.t 47)), none, 6, []⟩])
  (.seq (.region [⟨(some 51), (.mv (.t 4)), none, 0, []⟩, ⟨(some 52), (.call (.c (.fn (.func 36) [] [])) [(.t 51)]), none, 1, []⟩, ⟨(some 50), (.mv (.t 52)), none, 2, []⟩, ⟨(some 53), (.ext (.t 50) 0), none, 3, []⟩, ⟨(some 54), (.ext (.t 50) 1), none, 4, []⟩, ⟨(some 55), (.fadd 4 (.t 7)), none, 5, []⟩, ⟨none, (.store 1 (.t 55) (.t 53)), none, 6, []⟩])
  (.seq (.region [⟨(some 57), (.mv (.t 4)), none, 0, []⟩, ⟨(some 58), (.mv (.t 4)), none, 1, []⟩, ⟨(some 59), (.call (.c (.fn (.func 38) [] [])) [(.t 58)]), none, 2, []⟩, ⟨(some 60), (.call (.c (.fn (.func 37) [] [])) [(.t 57), (.t 59)]), none, 3, []⟩, ⟨(some 56), (.mv (.t 60)), none, 4, []⟩, ⟨(some 61), (.ext (.t 56) 0), none, 5, []⟩, ⟨(some 62), (.ext (.t 56) 1), none, 6, []⟩, ⟨(some 63), (.fadd 5 (.t 7)), none, 7, []⟩, ⟨none, (.store 1 (.t 63) (.t 61)), none, 8, []⟩])
  (.seq (.region [⟨(some 64), (.load true 6 (.t 7)), none, 0, []⟩, ⟨none, (.store 6 (.t 2) (.t 64)), none, 1, []⟩, ⟨(some 3), (.mv (.c (.i .i64 0))), none, 2, []⟩])
  .ret))))))))))
def x20 : XFun := ⟨x20b, [(.cell 2 true 6), (.t 3)]⟩
theorem x20_ok : compF Try.prog 20 = some x20 := by kernel_rfl
/-- bollard/bollardref20.Decode (62) -/
def x21b : XC := (.seq (.region [⟨(some 2), (.alloc [(.b false), (.i .u8 0), (.i .u16 0), (.i .u32 0), (.i .u32 0), (.sl none 0 0 0)]), none, 0, []⟩, ⟨(some 3), (.mv (.c (.i .i64 0))), none, 1, []⟩])
  (.seq (.seq (.region [⟨(some 13), (.mv (.t 0)), none, 0, []⟩, ⟨(some 14), (.lenx (.t 13)), none, 1, []⟩, ⟨(some 15), (.bin .gtr (.t 14) (.c (.i .i64 1200))), none, 2, []⟩])
  (.cond (.t 15) (.seq (.region [⟨(some 16), (.build [(.b false), (.i .u8 0), (.i .u16 0), (.i .u32 0), (.i .u32 0), (.sl none 0 0 0)] []), none, 0, []⟩, ⟨none, (.store 6 (.t 2) (.t 16)), none, 1, []⟩, ⟨(some 3), (.mv (.c (.i .i64 10))), none, 2, []⟩])
  .ret) .skip))
  (.seq (.seq (.region [⟨(some 17), (.mv (.t 0)), none, 0, []⟩, ⟨(some 18), (.lenx (.t 17)), none, 1, []⟩, ⟨(some 19), (.bin .lss (.t 18) (.c (.i .i64 12))), none, 2, []⟩])
  (.cond (.t 19) (.seq (.region [⟨(some 20), (.build [(.b false), (.i .u8 0), (.i .u16 0), (.i .u32 0), (.i .u32 0), (.sl none 0 0 0)] []), none, 0, []⟩, ⟨none, (.store 6 (.t 2) (.t 20)), none, 1, []⟩, ⟨(some 3), (.mv (.c (.i .i64 2))), none, 2, []⟩])
  .ret) .skip))
  (.seq (.seq (.region [⟨(some 21), (.mv (.t 0)), none, 0, []⟩, ⟨(some 22), (.isl 1 (.t 21) (.c (.i .i64 0))), none, 1, []⟩, ⟨(some 23), (.load false 1 (.t 22)), none, 2, []⟩, ⟨(some 24), (.bin .neq (.t 23) (.c (.i .u8 128))), none, 3, []⟩])
  (.cond (.t 24) (.seq (.region [⟨(some 25), (.build [(.b false), (.i .u8 0), (.i .u16 0), (.i .u32 0), (.i .u32 0), (.sl none 0 0 0)] []), none, 0, []⟩, ⟨none, (.store 6 (.t 2) (.t 25)), none, 1, []⟩, ⟨(some 3), (.mv (.c (.i .i64 3))), none, 2, []⟩])
  .ret) .skip))
  (.seq (.region [⟨(some 27), (.mv (.t 0)), none, 0, []⟩, ⟨(some 28), (.slsl 1 (.t 27) (some (.c (.i .i64 2))) none none), none, 1, []⟩, ⟨(some 29), (.call (.c (.fn (.func 39) [] [])) [(.t 28), (.c (.i .i64 2))]), none, 2, []⟩, ⟨(some 26), (.mv (.t 29)), none, 3, []⟩, ⟨(some 30), (.ext (.t 26) 0), none, 4, []⟩, ⟨(some 31), (.ext (.t 26) 1), none, 5, []⟩, ⟨(some 32), (.ext (.t 26) 2), none, 6, []⟩, ⟨(some 4), (.mv (.t 30)), none, 7, []⟩, ⟨(some 5), (.mv (.t 31)), none, 8, []⟩, ⟨(some 6), (.mv (.t 32)), none, 9, []⟩])
  (.seq (.region [⟨(some 34), (.mv (.t 0)), none, 0, []⟩, ⟨(some 35), (.slsl 1 (.t 34) (some (.c (.i .i64 4))) none none), none, 1, []⟩, ⟨(some 36), (.call (.c (.fn (.func 39) [] [])) [(.t 35), (.c (.i .i64 4))]), none, 2, []⟩, ⟨(some 33), (.mv (.t 36)), none, 3, []⟩, ⟨(some 37), (.ext (.t 33) 0), none, 4, []⟩, ⟨(some 38), (.ext (.t 33) 1), none, 5, []⟩, ⟨(some 39), (.ext (.t 33) 2), none, 6, []⟩, ⟨(some 7), (.mv (.t 37)), none, 7, []⟩, ⟨(some 8), (.mv (.t 38)), none, 8, []⟩, ⟨(some 9), (.mv (.t 39)), none, 9, []⟩])
  (.seq (.region [⟨(some 41), (.mv (.t 0)), none, 0, []⟩, ⟨(some 42), (.slsl 1 (.t 41) (some (.c (.i .i64 8))) none none), none, 1, []⟩, ⟨(some 43), (.call (.c (.fn (.func 39) [] [])) [(.t 42), (.c (.i .i64 4))]), none, 2, []⟩, ⟨(some 40), (.mv (.t 43)), none, 3, []⟩, ⟨(some 44), (.ext (.t 40) 0), none, 4, []⟩, ⟨(some 45), (.ext (.t 40) 1), none, 5, []⟩, ⟨(some 46), (.ext (.t 40) 2), none, 6, []⟩, ⟨(some 10), (.mv (.t 44)), none, 7, []⟩, ⟨(some 11), (.mv (.t 45)), none, 8, []⟩, ⟨(some 12), (.mv (.t 46)), none, 9, []⟩])
  (.seq (.draw [⟨(some 47), (.mv (.t 0)), none, 0, []⟩, ⟨(some 48), (.isl 1 (.t 47) (.c (.i .i64 1))), none, 1, [0]⟩, ⟨(some 51), (.mv (.t 0)), none, 4, []⟩, ⟨(some 52), (.isl 1 (.t 51) (.c (.i .i64 1))), none, 5, [4]⟩, ⟨(some 55), (.mv (.t 4)), none, 8, []⟩, ⟨(some 56), (.cint .u16 (.t 55)), none, 9, [8]⟩, ⟨(some 57), (.mv (.t 7)), none, 10, []⟩, ⟨(some 58), (.mv (.t 10)), none, 11, []⟩, ⟨(some 59), (.mv (.t 0)), none, 12, []⟩, ⟨(some 60), (.slsl 1 (.t 59) (some (.c (.i .i64 12))) none none), none, 13, [12]⟩, ⟨(some 49), (.load false 1 (.t 48)), none, 2, [0, 1]⟩, ⟨(some 50), (.bin .geq (.t 49) (.c (.i .u8 128))), none, 3, [0, 1, 2]⟩, ⟨(some 53), (.load false 1 (.t 52)), none, 6, [4, 5]⟩, ⟨(some 54), (.bin .rem (.t 53) (.c (.i .u8 128))), none, 7, [4, 5, 6]⟩, ⟨(some 61), (.build [(.b false), (.i .u8 0), (.i .u16 0), (.i .u32 0), (.i .u32 0), (.sl none 0 0 0)] [(0, 1, (.t 50)), (1, 1, (.t 54)), (2, 1, (.t 56)), (3, 1, (.t 57)), (4, 1, (.t 58)), (5, 1, (.t 60))]), none, 14, [0, 1, 2, 3, 4, 5, 6, 7, 8, 9, 10, 11, 12, 13]⟩, ⟨none, (.store 6 (.t 2) (.t 61)), none, 15, [0, 1, 2, 3, 4, 5, 6, 7, 8, 9, 10, 11, 12, 13, 14]⟩, ⟨(some 3), (.mv (.c (.i .i64 0))), none, 16, [0, 1, 2, 3, 4, 5, 6, 7, 8, 9, 10, 11, 12, 13, 14, 15]⟩])
  .ret))))))))
def x21 : XFun := ⟨x21b, [(.cell 2 true 6), (.t 3)]⟩
theorem x21_ok : compF Try.prog 21 = some x21 := by kernel_rfl
/-- bollard/bollardlaw20.alike (45) -/
def x22b : XC := (.seq (.region [⟨(some 2), (.box (.t 0)), none, 0, []⟩, ⟨(some 3), (.box (.t 1)), none, 1, []⟩, ⟨(some 4), (.mv (.c (.b false))), none, 2, []⟩])
  (.seq (.region [⟨(some 5), (.fadd 0 (.t 2)), none, 0, []⟩, ⟨(some 6), (.load false 1 (.t 5)), none, 1, []⟩, ⟨(some 7), (.fadd 0 (.t 3)), none, 2, []⟩, ⟨(some 8), (.load false 1 (.t 7)), none, 3, []⟩, ⟨(some 9), (.beq false (.t 6) (.t 8)), none, 4, []⟩, ⟨(some 10), (.mv (.t 9)), none, 5, []⟩, ⟨(some 11), (.fadd 1 (.t 2)), (some (10, true)), 6, []⟩, ⟨(some 12), (.load false 1 (.t 11)), (some (10, true)), 7, []⟩, ⟨(some 13), (.fadd 1 (.t 3)), (some (10, true)), 8, []⟩, ⟨(some 14), (.load false 1 (.t 13)), (some (10, true)), 9, []⟩, ⟨(some 15), (.bin .eql (.t 12) (.t 14)), (some (10, true)), 10, []⟩, ⟨(some 16), (.pick (.t 10) (.t 15) (.c (.b false))), none, 11, []⟩, ⟨(some 17), (.mv (.t 16)), none, 12, []⟩, ⟨(some 18), (.fadd 2 (.t 2)), (some (17, true)), 13, []⟩, ⟨(some 19), (.load false 1 (.t 18)), (some (17, true)), 14, []⟩, ⟨(some 20), (.fadd 2 (.t 3)), (some (17, true)), 15, []⟩, ⟨(some 21), (.load false 1 (.t 20)), (some (17, true)), 16, []⟩, ⟨(some 22), (.bin .eql (.t 19) (.t 21)), (some (17, true)), 17, []⟩, ⟨(some 23), (.pick (.t 17) (.t 22) (.c (.b false))), none, 18, []⟩, ⟨(some 24), (.mv (.t 23)), none, 19, []⟩, ⟨(some 25), (.fadd 3 (.t 2)), (some (24, true)), 20, []⟩, ⟨(some 26), (.load false 1 (.t 25)), (some (24, true)), 21, []⟩, ⟨(some 27), (.fadd 3 (.t 3)), (some (24, true)), 22, []⟩, ⟨(some 28), (.load false 1 (.t 27)), (some (24, true)), 23, []⟩, ⟨(some 29), (.bin .eql (.t 26) (.t 28)), (some (24, true)), 24, []⟩, ⟨(some 30), (.pick (.t 24) (.t 29) (.c (.b false))), none, 25, []⟩, ⟨(some 31), (.mv (.t 30)), none, 26, []⟩, ⟨(some 32), (.fadd 4 (.t 2)), (some (31, true)), 27, []⟩, ⟨(some 33), (.load false 1 (.t 32)), (some (31, true)), 28, []⟩, ⟨(some 34), (.fadd 4 (.t 3)), (some (31, true)), 29, []⟩, ⟨(some 35), (.load false 1 (.t 34)), (some (31, true)), 30, []⟩, ⟨(some 36), (.bin .eql (.t 33) (.t 35)), (some (31, true)), 31, []⟩, ⟨(some 37), (.pick (.t 31) (.t 36) (.c (.b false))), none, 32, []⟩, ⟨(some 38), (.mv (.t 37)), none, 33, []⟩, ⟨(some 39), (.fadd 5 (.t 2)), (some (38, true)), 34, []⟩, ⟨(some 40), (.load false 1 (.t 39)), (some (38, true)), 35, []⟩, ⟨(some 41), (.fadd 5 (.t 3)), (some (38, true)), 36, []⟩, ⟨(some 42), (.load false 1 (.t 41)), (some (38, true)), 37, []⟩, ⟨(some 43), (.call (.c (.fn (.func 14) [] [])) [(.t 40), (.t 42)]), (some (38, true)), 38, []⟩, ⟨(some 44), (.pick (.t 38) (.t 43) (.c (.b false))), none, 39, []⟩, ⟨(some 4), (.mv (.t 44)), none, 40, []⟩])
  .ret))
def x22 : XFun := ⟨x22b, [(.t 4)]⟩
theorem x22_ok : compF Try.prog 22 = some x22 := by kernel_rfl
/-- bollard/audio.Is (18) -/
def x23b : XC := (.seq (.region [⟨(some 2), (.mv (.c (.b false))), none, 0, []⟩])
  (.seq (.region [⟨(some 3), (.mv (.t 0)), none, 0, []⟩, ⟨(some 4), (.lenx (.t 3)), none, 1, []⟩, ⟨(some 5), (.bin .gtr (.t 4) (.c (.i .i64 0))), none, 2, []⟩, ⟨(some 6), (.mv (.t 5)), none, 3, []⟩, ⟨(some 7), (.mv (.t 0)), (some (6, true)), 4, []⟩, ⟨(some 8), (.isl 1 (.t 7) (.c (.i .i64 0))), (some (6, true)), 5, []⟩, ⟨(some 9), (.load false 1 (.t 8)), (some (6, true)), 6, []⟩, ⟨(some 10), (.bin .geq (.t 9) (.c (.i .u8 128))), (some (6, true)), 7, []⟩, ⟨(some 11), (.pick (.t 6) (.t 10) (.c (.b false))), none, 8, []⟩, ⟨(some 12), (.mv (.t 11)), none, 9, []⟩, ⟨(some 13), (.mv (.t 0)), (some (12, true)), 10, []⟩, ⟨(some 14), (.isl 1 (.t 13) (.c (.i .i64 0))), (some (12, true)), 11, []⟩, ⟨(some 15), (.load false 1 (.t 14)), (some (12, true)), 12, []⟩, ⟨(some 16), (.bin .leq (.t 15) (.c (.i .u8 191))), (some (12, true)), 13, []⟩, ⟨(some 17), (.pick (.t 12) (.t 16) (.c (.b false))), none, 14, []⟩, ⟨(some 2), (.mv (.t 17)), none, 15, []⟩])
  .ret))
def x23 : XFun := ⟨x23b, [(.t 2)]⟩
theorem x23_ok : compF Try.prog 23 = some x23 := by kernel_rfl
/-- bollard/audio.clamp (14) -/
def x24b : XC := (.seq (.region [⟨(some 4), (.mv (.c (.i .i64 0))), none, 0, []⟩])
  (.seq (.seq (.region [⟨(some 5), (.mv (.t 0)), none, 0, []⟩, ⟨(some 6), (.bin .lss (.t 5) (.c (.i .i64 1))), none, 1, []⟩, ⟨(some 7), (.mv (.t 6)), none, 2, []⟩, ⟨(some 8), (.mv (.t 0)), (some (7, false)), 3, []⟩, ⟨(some 9), (.mv (.t 1)), (some (7, false)), 4, []⟩, ⟨(some 10), (.bin .gtr (.t 8) (.t 9)), (some (7, false)), 5, []⟩, ⟨(some 11), (.pick (.t 7) (.c (.b true)) (.t 10)), none, 6, []⟩])
  (.cond (.t 11) (.seq (.region [⟨(some 12), (.mv (.t 1)), none, 0, []⟩, ⟨(some 4), (.mv (.t 12)), none, 1, []⟩])
  .ret) .skip))
  (.seq (.region [⟨(some 13), (.mv (.t 0)), none, 0, []⟩, ⟨(some 4), (.mv (.t 13)), none, 1, []⟩])
  .ret)))
def x24 : XFun := ⟨x24b, [(.t 4)]⟩
theorem x24_ok : compF Try.prog 24 = some x24 := by kernel_rfl
/-- (*bollard/audio.Forwarder).at (26) -/
def x25b : XC := (.seq (.region [⟨(some 4), (.mv (.c (.p none))), none, 0, []⟩])
  (.seq (.seq (.region [⟨(some 5), (.mv (.t 0)), none, 0, []⟩, ⟨(some 6), (.nilq 0 false (.t 5)), none, 1, []⟩, ⟨(some 7), (.mv (.t 6)), none, 2, []⟩, ⟨(some 8), (.mv (.t 1)), (some (7, false)), 3, []⟩, ⟨(some 9), (.bin .lss (.t 8) (.c (.i .i64 0))), (some (7, false)), 4, []⟩, ⟨(some 10), (.pick (.t 7) (.c (.b true)) (.t 9)), none, 5, []⟩, ⟨(some 11), (.mv (.t 10)), none, 6, []⟩, ⟨(some 12), (.mv (.t 1)), (some (11, false)), 7, []⟩, ⟨(some 13), (.mv (.t 0)), (some (11, false)), 8, []⟩, ⟨(some 14), (.nilc (.t 13)), (some (11, false)), 9, []⟩, ⟨(some 15), (.fadd 0 (.t 14)), (some (11, false)), 10, []⟩, ⟨(some 16), (.load false 1 (.t 15)), (some (11, false)), 11, []⟩, ⟨(some 17), (.lenx (.t 16)), (some (11, false)), 12, []⟩, ⟨(some 18), (.bin .geq (.t 12) (.t 17)), (some (11, false)), 13, []⟩, ⟨(some 19), (.pick (.t 11) (.c (.b true)) (.t 18)), none, 14, []⟩])
  (.cond (.t 19) (.seq (.region [⟨(some 4), (.mv (.c (.p none))), none, 0, []⟩])
  .ret) .skip))
  (.seq (.region [⟨(some 20), (.mv (.t 0)), none, 0, []⟩, ⟨(some 21), (.nilc (.t 20)), none, 1, []⟩, ⟨(some 22), (.fadd 0 (.t 21)), none, 2, []⟩, ⟨(some 23), (.load false 1 (.t 22)), none, 3, []⟩, ⟨(some 24), (.mv (.t 1)), none, 4, []⟩, ⟨(some 25), (.isl 67 (.t 23) (.t 24)), none, 5, []⟩, ⟨(some 4), (.mv (.t 25)), none, 6, []⟩])
  .ret)))
def x25 : XFun := ⟨x25b, [(.t 4)]⟩
theorem x25_ok : compF Try.prog 25 = some x25 := by kernel_rfl
/-- (bollard/audio.Packet).right (12) -/
def x26b : XC := (.seq (.region [⟨(some 1), (.box (.t 0)), none, 0, []⟩, ⟨(some 2), (.mv (.c (.i .i64 0))), none, 1, []⟩])
  (.seq (.block 0 (.seq (.region [⟨(some 4), (.fadd 1 (.t 1)), none, 0, []⟩, ⟨(some 5), (.load false 1 (.t 4)), none, 1, []⟩, ⟨(some 6), (.bin .gtr (.t 5) (.c (.i .u8 127))), none, 2, []⟩, ⟨(some 3), (.mv (.t 6)), none, 3, []⟩])
  (.cond (.t 3) (.seq (.region [⟨(some 2), (.mv (.c (.i .i64 1))), none, 0, []⟩])
  .ret) (.seq (.region [⟨(some 8), (.fadd 5 (.t 1)), none, 0, []⟩, ⟨(some 9), (.load false 1 (.t 8)), none, 1, []⟩, ⟨(some 10), (.lenx (.t 9)), none, 2, []⟩, ⟨(some 11), (.bin .gtr (.t 10) (.c (.i .i64 1188))), none, 3, []⟩, ⟨(some 7), (.mv (.t 11)), none, 4, []⟩])
  (.cond (.t 7) (.seq (.region [⟨(some 2), (.mv (.c (.i .i64 10))), none, 0, []⟩])
  .ret) .skip)))))
  (.seq (.region [⟨(some 2), (.mv (.c (.i .i64 0))), none, 0, []⟩])
  .ret)))
def x26 : XFun := ⟨x26b, [(.t 2)]⟩
theorem x26_ok : compF Try.prog 26 = some x26 := by kernel_rfl
/-- slices.Clone[[]byte,byte] (8) -/
def x27b : XC := (.seq (.region [⟨(some 2), (.mv (.c (.sl none 0 0 0))), none, 0, []⟩])
  (.seq (.seq (.region [⟨(some 3), (.mv (.t 0)), none, 0, []⟩, ⟨(some 4), (.nilq 1 false (.t 3)), none, 1, []⟩])
  (.cond (.t 4) (.seq (.region [⟨(some 2), (.mv (.c (.sl none 0 0 0))), none, 0, []⟩])
  .ret) .skip))
  (.seq (.region [⟨(some 5), (.bslice [] [] 0), none, 0, []⟩, ⟨(some 6), (.mv (.t 0)), none, 1, []⟩, ⟨(some 7), (.append 1 1 (.t 5) (.t 6)), none, 2, []⟩, ⟨(some 2), (.mv (.t 7)), none, 3, []⟩])
  .ret)))
def x27 : XFun := ⟨x27b, [(.t 2)]⟩
theorem x27_ok : compF Try.prog 27 = some x27 := by kernel_rfl
/-- (*bollard/audio.listener).hand (71) -/
def x28b : XC := (.seq (.region [⟨(some 6), (.box (.t 2)), none, 0, []⟩, ⟨(some 8), (.mv (.c (.b false))), none, 1, []⟩])
  (.seq (.draw [⟨(some 12), (.mv (.t 0)), none, 0, []⟩, ⟨(some 13), (.mv (.t 1)), none, 1, []⟩, ⟨(some 14), (.nilc (.t 12)), none, 2, [0]⟩, ⟨(some 15), (.fadd 1 (.t 14)), none, 3, [0, 2]⟩, ⟨(some 16), (.iarr 16 4 (.t 15) (.t 13)), none, 4, [0, 1, 2, 3]⟩, ⟨(some 17), (.load true 6 (.t 6)), none, 5, []⟩, ⟨(some 18), (.call (.c (.fn (.func 40) [] [])) [(.t 16), (.t 17)]), none, 6, [0, 1, 2, 3, 4, 5]⟩, ⟨(some 11), (.mv (.t 18)), none, 7, [0, 1, 2, 3, 4, 5, 6]⟩, ⟨(some 19), (.ext (.t 11) 0), none, 8, [0, 1, 2, 3, 4, 5, 6, 7]⟩, ⟨(some 20), (.ext (.t 11) 1), none, 9, [0, 1, 2, 3, 4, 5, 6, 7]⟩, ⟨(some 9), (.mv (.t 19)), none, 10, [0, 1, 2, 3, 4, 5, 6, 7, 8]⟩, ⟨(some 10), (.mv (.t 20)), none, 11, [0, 1, 2, 3, 4, 5, 6, 7, 8, 9, 10]⟩])
  (.seq (.seq (.region [⟨(some 21), (.mv (.t 0)), none, 0, []⟩, ⟨(some 22), (.nilc (.t 21)), none, 1, []⟩, ⟨(some 23), (.fadd 0 (.t 22)), none, 2, []⟩, ⟨(some 24), (.load false 1 (.t 23)), none, 3, []⟩, ⟨(some 25), (.unx .not (.t 24)), none, 4, []⟩, ⟨(some 26), (.mv (.t 25)), none, 5, []⟩, ⟨(some 27), (.mv (.t 10)), (some (26, false)), 6, []⟩, ⟨(some 28), (.unx .not (.t 27)), (some (26, false)), 7, []⟩, ⟨(some 29), (.pick (.t 26) (.c (.b true)) (.t 28)), none, 8, []⟩])
  (.cond (.t 29) (.seq (.region [⟨(some 8), (.mv (.c (.b false))), none, 0, []⟩])
  .ret) .skip))
  (.seq (.draw [⟨(some 30), (.mv (.t 0)), none, 0, []⟩, ⟨(some 31), (.mv (.t 1)), none, 1, []⟩, ⟨(some 32), (.fadd 4 (.t 6)), none, 2, []⟩, ⟨(some 34), (.fadd 2 (.t 6)), none, 4, []⟩, ⟨(some 36), (.mv (.t 9)), none, 6, []⟩, ⟨(some 38), (.nilc (.t 30)), none, 8, [0]⟩, ⟨(some 39), (.fadd 1 (.t 38)), none, 9, [0, 8]⟩, ⟨(some 33), (.load false 1 (.t 32)), none, 3, [2]⟩, ⟨(some 35), (.load false 1 (.t 34)), none, 5, [4]⟩, ⟨(some 37), (.build [(.b false), (.i .u32 0), (.i .u16 0), (.i .u16 0)] [(0, 1, (.c (.b true))), (1, 1, (.t 33)), (2, 1, (.t 35)), (3, 1, (.t 36))]), none, 7, [2, 3, 4, 5, 6]⟩, ⟨(some 40), (.iarr 16 4 (.t 39) (.t 31)), none, 10, [0, 1, 2, 3, 4, 5, 6, 7, 8, 9]⟩, ⟨none, (.store 4 (.t 40) (.t 37)), none, 11, [0, 1, 2, 3, 4, 5, 6, 7, 8, 9, 10]⟩])
  (.seq (.seq (.region [⟨(some 41), (.mv (.t 0)), none, 0, []⟩, ⟨(some 42), (.nilc (.t 41)), none, 1, []⟩, ⟨(some 43), (.fadd 65 (.t 42)), none, 2, []⟩, ⟨(some 44), (.load false 1 (.t 43)), none, 3, []⟩, ⟨(some 45), (.lenx (.t 44)), none, 4, []⟩, ⟨(some 46), (.mv (.t 3)), none, 5, []⟩, ⟨(some 47), (.bin .geq (.t 45) (.t 46)), none, 6, []⟩])
  (.cond (.t 47) (.seq (.region [⟨(some 48), (.mv (.t 0)), none, 0, []⟩, ⟨(some 49), (.nilc (.t 48)), none, 1, []⟩, ⟨(some 50), (.fadd 66 (.t 49)), none, 2, []⟩, ⟨(some 51), (.load false 1 (.t 50)), none, 3, []⟩, ⟨(some 52), (.bin .add (.t 51) (.c (.i .i64 1))), none, 4, []⟩, ⟨(some 53), (.nilc (.t 48)), none, 5, []⟩, ⟨(some 54), (.fadd 66 (.t 53)), none, 6, []⟩, ⟨none, (.store 1 (.t 54) (.t 52)), none, 7, []⟩])
  (.seq (.region [⟨(some 8), (.mv (.c (.b false))), none, 0, []⟩])
  .ret)) .skip))
  (.seq (.region [⟨(some 55), (.mv (.t 9)), none, 0, []⟩, ⟨(some 56), (.mv (.t 1)), none, 1, []⟩, ⟨(some 57), (.cint .u32 (.t 56)), none, 2, []⟩, ⟨(some 58), (.bin .add (.t 57) (.c (.i .u32 1))), none, 3, []⟩, ⟨(some 59), (.fadd 2 (.t 6)), none, 4, []⟩, ⟨none, (.store 1 (.t 59) (.t 55)), none, 5, []⟩, ⟨(some 60), (.fadd 4 (.t 6)), none, 6, []⟩, ⟨none, (.store 1 (.t 60) (.t 58)), none, 7, []⟩])
  (.seq (.draw [⟨(some 61), (.mv (.t 0)), none, 0, []⟩, ⟨(some 62), (.mv (.t 0)), none, 1, []⟩, ⟨(some 63), (.nilc (.t 62)), none, 2, [1]⟩, ⟨(some 64), (.fadd 65 (.t 63)), none, 3, [1, 2]⟩, ⟨(some 65), (.load false 1 (.t 64)), none, 4, [1, 2, 3]⟩, ⟨(some 66), (.load true 6 (.t 6)), none, 5, []⟩, ⟨(some 67), (.bslice [(.b false), (.i .u8 0), (.i .u16 0), (.i .u32 0), (.i .u32 0), (.sl none 0 0 0)] [(0, 6, (.t 66))] 1), none, 6, [5]⟩, ⟨(some 68), (.append 6 40 (.t 65) (.t 67)), none, 7, [1, 2, 3, 4, 5, 6]⟩, ⟨(some 69), (.nilc (.t 61)), none, 8, [0, 1, 2, 3, 4, 5, 6, 7]⟩, ⟨(some 70), (.fadd 65 (.t 69)), none, 9, [0, 1, 2, 3, 4, 5, 6, 7, 8]⟩, ⟨none, (.store 1 (.t 70) (.t 68)), none, 10, [0, 1, 2, 3, 4, 5, 6, 7, 8, 9]⟩])
  (.seq (.region [⟨(some 8), (.mv (.c (.b true))), none, 0, []⟩])
  .ret))))))))
def x28 : XFun := ⟨x28b, [(.t 8)]⟩
theorem x28_ok : compF Try.prog 28 = some x28 := by kernel_rfl
/-- slices.Delete[[]bollard/audio.Packet,bollard/audio.Packet] (33) -/
def x29b : XC := (.seq (.region [⟨(some 6), (.mv (.c (.sl none 0 0 0))), none, 0, []⟩])
  (.seq (.region [⟨(some 8), (.mv (.t 0)), none, 0, []⟩, ⟨(some 9), (.mv (.t 1)), none, 1, []⟩, ⟨(some 10), (.mv (.t 2)), none, 2, []⟩, ⟨(some 11), (.mv (.t 0)), none, 3, []⟩, ⟨(some 12), (.lenx (.t 11)), none, 4, []⟩, ⟨(some 13), (.slsl 6 (.t 8) (some (.t 9)) (some (.t 10)) (some (.t 12))), none, 5, []⟩])
  (.seq (.seq (.region [⟨(some 14), (.mv (.t 1)), none, 0, []⟩, ⟨(some 15), (.mv (.t 2)), none, 1, []⟩, ⟨(some 16), (.bin .eql (.t 14) (.t 15)), none, 2, []⟩])
  (.cond (.t 16) (.seq (.region [⟨(some 17), (.mv (.t 0)), none, 0, []⟩, ⟨(some 6), (.mv (.t 17)), none, 1, []⟩])
  .ret) .skip))
  (.seq (.region [⟨(some 18), (.mv (.t 0)), none, 0, []⟩, ⟨(some 19), (.lenx (.t 18)), none, 1, []⟩, ⟨(some 7), (.mv (.t 19)), none, 2, []⟩])
  (.seq (.draw [⟨(some 20), (.mv (.t 0)), none, 0, []⟩, ⟨(some 21), (.mv (.t 1)), none, 1, []⟩, ⟨(some 22), (.slsl 6 (.t 20) none (some (.t 21)) none), none, 2, [0, 1]⟩, ⟨(some 23), (.mv (.t 0)), none, 3, []⟩, ⟨(some 24), (.mv (.t 2)), none, 4, []⟩, ⟨(some 25), (.slsl 6 (.t 23) (some (.t 24)) none none), none, 5, [3, 4]⟩, ⟨(some 26), (.append 6 40 (.t 22) (.t 25)), none, 6, [0, 1, 2, 3, 4, 5]⟩, ⟨(some 0), (.mv (.t 26)), none, 7, [0, 1, 2, 3, 4, 5, 6]⟩])
  (.seq (.region [⟨(some 27), (.mv (.t 0)), none, 0, []⟩, ⟨(some 28), (.mv (.t 0)), none, 1, []⟩, ⟨(some 29), (.lenx (.t 28)), none, 2, []⟩, ⟨(some 30), (.mv (.t 7)), none, 3, []⟩, ⟨(some 31), (.slsl 6 (.t 27) (some (.t 29)) (some (.t 30)) none), none, 4, []⟩, ⟨none, (.clrs [(.b false), (.i .u8 0), (.i .u16 0), (.i .u32 0), (.i .u32 0), (.sl none 0 0 0)] (.t 31)), none, 5, []⟩])
  (.seq (.region [⟨(some 32), (.mv (.t 0)), none, 0, []⟩, ⟨(some 6), (.mv (.t 32)), none, 1, []⟩])
  .ret)))))))
def x29 : XFun := ⟨x29b, [(.t 6)]⟩
theorem x29_ok : compF Try.prog 29 = some x29 := by kernel_rfl
/-- bollard/octet.Put16 (13) -/
def x30b : XC := (.seq (.region [⟨(some 4), (.mv (.c (.sl none 0 0 0))), none, 0, []⟩])
  (.seq (.region [⟨(some 5), (.mv (.t 0)), none, 0, []⟩, ⟨(some 6), (.mv (.t 1)), none, 1, []⟩, ⟨(some 7), (.bin .shr (.t 6) (.c (.i .u64 8))), none, 2, []⟩, ⟨(some 8), (.cint .u8 (.t 7)), none, 3, []⟩, ⟨(some 9), (.mv (.t 1)), none, 4, []⟩, ⟨(some 10), (.cint .u8 (.t 9)), none, 5, []⟩, ⟨(some 11), (.bslice [(.i .u8 0), (.i .u8 0)] [(0, 1, (.t 8)), (1, 1, (.t 10))] 2), none, 6, []⟩, ⟨(some 12), (.call (.c (.fn (.func 41) [] [])) [(.t 5), (.t 11)]), none, 7, []⟩, ⟨(some 4), (.mv (.t 12)), none, 8, []⟩])
  .ret))
def x30 : XFun := ⟨x30b, [(.t 4)]⟩
theorem x30_ok : compF Try.prog 30 = some x30 := by kernel_rfl
/-- bollard/octet.Put32 (19) -/
def x31b : XC := (.seq (.region [⟨(some 4), (.mv (.c (.sl none 0 0 0))), none, 0, []⟩])
  (.seq (.region [⟨(some 5), (.mv (.t 0)), none, 0, []⟩, ⟨(some 6), (.mv (.t 1)), none, 1, []⟩, ⟨(some 7), (.bin .shr (.t 6) (.c (.i .u64 24))), none, 2, []⟩, ⟨(some 8), (.cint .u8 (.t 7)), none, 3, []⟩, ⟨(some 9), (.mv (.t 1)), none, 4, []⟩, ⟨(some 10), (.bin .shr (.t 9) (.c (.i .u64 16))), none, 5, []⟩, ⟨(some 11), (.cint .u8 (.t 10)), none, 6, []⟩, ⟨(some 12), (.mv (.t 1)), none, 7, []⟩, ⟨(some 13), (.bin .shr (.t 12) (.c (.i .u64 8))), none, 8, []⟩, ⟨(some 14), (.cint .u8 (.t 13)), none, 9, []⟩, ⟨(some 15), (.mv (.t 1)), none, 10, []⟩, ⟨(some 16), (.cint .u8 (.t 15)), none, 11, []⟩, ⟨(some 17), (.bslice [(.i .u8 0), (.i .u8 0), (.i .u8 0), (.i .u8 0)] [(0, 1, (.t 8)), (1, 1, (.t 11)), (2, 1, (.t 14)), (3, 1, (.t 16))] 4), none, 12, []⟩, ⟨(some 18), (.call (.c (.fn (.func 41) [] [])) [(.t 5), (.t 17)]), none, 13, []⟩, ⟨(some 4), (.mv (.t 18)), none, 14, []⟩])
  .ret))
def x31 : XFun := ⟨x31b, [(.t 4)]⟩
theorem x31_ok : compF Try.prog 31 = some x31 := by kernel_rfl
/-- bollard/bollardref01.Put (28) -/
def x32b : XC := (.seq (.region [⟨(some 6), (.mv (.c (.sl none 0 0 0))), none, 0, []⟩])
  (.seq (.region [⟨(some 7), (.mv (.c (.sl none 0 0 0))), none, 0, []⟩])
  (.seq (.region [⟨(some 9), (.mv (.t 7)), none, 0, []⟩, ⟨(some 10), (.mv (.t 0)), none, 1, []⟩, ⟨(some 11), (.append 1 1 (.t 9) (.t 10)), none, 2, []⟩, ⟨(some 7), (.mv (.t 11)), none, 3, []⟩])
  (.seq (.seq (.region [⟨(some 12), (.mv (.t 2)), none, 0, []⟩, ⟨(some 13), (.bin .sub (.t 12) (.c (.i .i64 1))), none, 1, []⟩, ⟨(some 8), (.mv (.t 13)), none, 2, []⟩])
  (.block 0 (.loop (.seq (.seq (.region [⟨(some 14), (.mv (.t 8)), none, 0, []⟩, ⟨(some 15), (.bin .geq (.t 14) (.c (.i .i64 0))), none, 1, []⟩])
  (.cond (.t 15) .skip (.exit 0)))
  (.seq (.block 1 (.region [⟨(some 18), (.mv (.t 7)), none, 0, []⟩, ⟨(some 19), (.mv (.t 1)), none, 1, []⟩, ⟨(some 20), (.mv (.t 8)), none, 2, []⟩, ⟨(some 21), (.bin .mul (.c (.i .i64 8)) (.t 20)), none, 3, []⟩, ⟨(some 22), (.cint .u64 (.t 21)), none, 4, []⟩, ⟨(some 23), (.bin .shr (.t 19) (.t 22)), none, 5, []⟩, ⟨(some 24), (.cint .u8 (.t 23)), none, 6, []⟩, ⟨(some 25), (.bslice [(.i .u8 0)] [(0, 1, (.t 24))] 1), none, 7, []⟩, ⟨(some 26), (.append 1 1 (.t 18) (.t 25)), none, 8, []⟩, ⟨(some 7), (.mv (.t 26)), none, 9, []⟩]))
  (.region [⟨(some 16), (.mv (.t 8)), none, 0, []⟩, ⟨(some 17), (.bin .sub (.t 16) (.c (.i .i64 1))), none, 1, []⟩, ⟨(some 8), (.mv (.t 17)), none, 2, []⟩]))))))
  (.seq (.region [⟨(some 27), (.mv (.t 7)), none, 0, []⟩, ⟨(some 6), (.mv (.t 27)), none, 1, []⟩])
  .ret)))))
def x32 : XFun := ⟨x32b, [(.t 6)]⟩
theorem x32_ok : compF Try.prog 32 = some x32 := by kernel_rfl
/-- bollard/octet.New (7) -/
def x33b : XC := (.seq (.region [⟨(some 2), (.mv (.c (.p none))), none, 0, []⟩])
  (.seq (.region [⟨(some 3), (.mv (.t 0)), none, 0, []⟩, ⟨(some 4), (.call (.c (.fn (.func 27) [] [])) [(.t 3)]), none, 1, []⟩, ⟨(some 5), (.build [(.sl none 0 0 0)] [(0, 1, (.t 4))]), none, 2, []⟩, ⟨(some 6), (.box (.t 5)), none, 3, []⟩, ⟨(some 2), (.mv (.t 6)), none, 4, []⟩])
  .ret))
def x33 : XFun := ⟨x33b, [(.t 2)]⟩
theorem x33_ok : compF Try.prog 33 = some x33 := by kernel_rfl
/-- (*bollard/octet.Reader).Get8 (17) -/
def x34b : XC := (.seq (.region [⟨(some 2), (.mv (.c (.i .u8 0))), none, 0, []⟩, ⟨(some 3), (.mv (.c (.i .i64 0))), none, 1, []⟩])
  (.seq (.region [⟨(some 7), (.mv (.t 0)), none, 0, []⟩, ⟨(some 8), (.call (.c (.fn (.func 42) [] [])) [(.t 7), (.c (.i .i64 1))]), none, 1, []⟩, ⟨(some 6), (.mv (.t 8)), none, 2, []⟩, ⟨(some 9), (.ext (.t 6) 0), none, 3, []⟩, ⟨(some 10), (.ext (.t 6) 1), none, 4, []⟩, ⟨(some 4), (.mv (.t 9)), none, 5, []⟩, ⟨(some 5), (.mv (.t 10)), none, 6, []⟩])
  (.seq (.seq (.region [⟨(some 11), (.mv (.t 5)), none, 0, []⟩, ⟨(some 12), (.bin .neq (.t 11) (.c (.i .i64 0))), none, 1, []⟩])
  (.cond (.t 12) (.seq (.region [⟨(some 13), (.mv (.t 5)), none, 0, []⟩, ⟨(some 2), (.mv (.c (.i .u8 0))), none, 1, []⟩, ⟨(some 3), (.mv (.t 13)), none, 2, []⟩])
  .ret) .skip))
  (.seq (.region [⟨(some 14), (.mv (.t 4)), none, 0, []⟩, ⟨(some 15), (.isl 1 (.t 14) (.c (.i .i64 0))), none, 1, []⟩, ⟨(some 16), (.load false 1 (.t 15)), none, 2, []⟩, ⟨(some 2), (.mv (.t 16)), none, 3, []⟩, ⟨(some 3), (.mv (.c (.i .i64 0))), none, 4, []⟩])
  .ret))))
def x34 : XFun := ⟨x34b, [(.t 2), (.t 3)]⟩
theorem x34_ok : compF Try.prog 34 = some x34 := by kernel_rfl
/-- (*bollard/octet.Reader).Get16 (24) -/
def x35b : XC := (.seq (.region [⟨(some 2), (.mv (.c (.i .u16 0))), none, 0, []⟩, ⟨(some 3), (.mv (.c (.i .i64 0))), none, 1, []⟩])
  (.seq (.region [⟨(some 7), (.mv (.t 0)), none, 0, []⟩, ⟨(some 8), (.call (.c (.fn (.func 42) [] [])) [(.t 7), (.c (.i .i64 2))]), none, 1, []⟩, ⟨(some 6), (.mv (.t 8)), none, 2, []⟩, ⟨(some 9), (.ext (.t 6) 0), none, 3, []⟩, ⟨(some 10), (.ext (.t 6) 1), none, 4, []⟩, ⟨(some 4), (.mv (.t 9)), none, 5, []⟩, ⟨(some 5), (.mv (.t 10)), none, 6, []⟩])
  (.seq (.seq (.region [⟨(some 11), (.mv (.t 5)), none, 0, []⟩, ⟨(some 12), (.bin .neq (.t 11) (.c (.i .i64 0))), none, 1, []⟩])
  (.cond (.t 12) (.seq (.region [⟨(some 13), (.mv (.t 5)), none, 0, []⟩, ⟨(some 2), (.mv (.c (.i .u16 0))), none, 1, []⟩, ⟨(some 3), (.mv (.t 13)), none, 2, []⟩])
  .ret) .skip))
  (.seq (.draw [⟨(some 14), (.mv (.t 4)), none, 0, []⟩, ⟨(some 15), (.isl 1 (.t 14) (.c (.i .i64 0))), none, 1, [0]⟩, ⟨(some 19), (.mv (.t 4)), none, 5, []⟩, ⟨(some 20), (.isl 1 (.t 19) (.c (.i .i64 1))), none, 6, [5]⟩, ⟨(some 16), (.load false 1 (.t 15)), none, 2, [0, 1]⟩, ⟨(some 17), (.cint .u16 (.t 16)), none, 3, [0, 1, 2]⟩, ⟨(some 18), (.bin .shl (.t 17) (.c (.i .u64 8))), none, 4, [0, 1, 2, 3]⟩, ⟨(some 21), (.load false 1 (.t 20)), none, 7, [5, 6]⟩, ⟨(some 22), (.cint .u16 (.t 21)), none, 8, [5, 6, 7]⟩, ⟨(some 23), (.bin .or (.t 18) (.t 22)), none, 9, [0, 1, 2, 3, 4, 5, 6, 7, 8]⟩, ⟨(some 2), (.mv (.t 23)), none, 10, [0, 1, 2, 3, 4, 5, 6, 7, 8, 9]⟩, ⟨(some 3), (.mv (.c (.i .i64 0))), none, 11, [0, 1, 2, 3, 4, 5, 6, 7, 8, 9, 10]⟩])
  .ret))))
def x35 : XFun := ⟨x35b, [(.t 2), (.t 3)]⟩
theorem x35_ok : compF Try.prog 35 = some x35 := by kernel_rfl
/-- (*bollard/octet.Reader).Get32 (36) -/
def x36b : XC := (.seq (.region [⟨(some 2), (.mv (.c (.i .u32 0))), none, 0, []⟩, ⟨(some 3), (.mv (.c (.i .i64 0))), none, 1, []⟩])
  (.seq (.region [⟨(some 7), (.mv (.t 0)), none, 0, []⟩, ⟨(some 8), (.call (.c (.fn (.func 42) [] [])) [(.t 7), (.c (.i .i64 4))]), none, 1, []⟩, ⟨(some 6), (.mv (.t 8)), none, 2, []⟩, ⟨(some 9), (.ext (.t 6) 0), none, 3, []⟩, ⟨(some 10), (.ext (.t 6) 1), none, 4, []⟩, ⟨(some 4), (.mv (.t 9)), none, 5, []⟩, ⟨(some 5), (.mv (.t 10)), none, 6, []⟩])
  (.seq (.seq (.region [⟨(some 11), (.mv (.t 5)), none, 0, []⟩, ⟨(some 12), (.bin .neq (.t 11) (.c (.i .i64 0))), none, 1, []⟩])
  (.cond (.t 12) (.seq (.region [⟨(some 13), (.mv (.t 5)), none, 0, []⟩, ⟨(some 2), (.mv (.c (.i .u32 0))), none, 1, []⟩, ⟨(some 3), (.mv (.t 13)), none, 2, []⟩])
  .ret) .skip))
  (.seq (.draw [⟨(some 14), (.mv (.t 4)), none, 0, []⟩, ⟨(some 15), (.isl 1 (.t 14) (.c (.i .i64 0))), none, 1, [0]⟩, ⟨(some 19), (.mv (.t 4)), none, 5, []⟩, ⟨(some 20), (.isl 1 (.t 19) (.c (.i .i64 1))), none, 6, [5]⟩, ⟨(some 25), (.mv (.t 4)), none, 11, []⟩, ⟨(some 26), (.isl 1 (.t 25) (.c (.i .i64 2))), none, 12, [11]⟩, ⟨(some 31), (.mv (.t 4)), none, 17, []⟩, ⟨(some 32), (.isl 1 (.t 31) (.c (.i .i64 3))), none, 18, [17]⟩, ⟨(some 16), (.load false 1 (.t 15)), none, 2, [0, 1]⟩, ⟨(some 17), (.cint .u32 (.t 16)), none, 3, [0, 1, 2]⟩, ⟨(some 18), (.bin .shl (.t 17) (.c (.i .u64 24))), none, 4, [0, 1, 2, 3]⟩, ⟨(some 21), (.load false 1 (.t 20)), none, 7, [5, 6]⟩, ⟨(some 22), (.cint .u32 (.t 21)), none, 8, [5, 6, 7]⟩, ⟨(some 23), (.bin .shl (.t 22) (.c (.i .u64 16))), none, 9, [5, 6, 7, 8]⟩, ⟨(some 24), (.bin .or (.t 18) (.t 23)), none, 10, [0, 1, 2, 3, 4, 5, 6, 7, 8, 9]⟩, ⟨(some 27), (.load false 1 (.t 26)), none, 13, [11, 12]⟩, ⟨(some 28), (.cint .u32 (.t 27)), none, 14, [11, 12, 13]⟩, ⟨(some 29), (.bin .shl (.t 28) (.c (.i .u64 8))), none, 15, [11, 12, 13, 14]⟩, ⟨(some 30), (.bin .or (.t 24) (.t 29)), none, 16, [0, 1, 2, 3, 4, 5, 6, 7, 8, 9, 10, 11, 12, 13, 14, 15]⟩, ⟨(some 33), (.load false 1 (.t 32)), none, 19, [17, 18]⟩, ⟨(some 34), (.cint .u32 (.t 33)), none, 20, [17, 18, 19]⟩, ⟨(some 35), (.bin .or (.t 30) (.t 34)), none, 21, [0, 1, 2, 3, 4, 5, 6, 7, 8, 9, 10, 11, 12, 13, 14, 15, 16, 17, 18, 19, 20]⟩, ⟨(some 2), (.mv (.t 35)), none, 22, [0, 1, 2, 3, 4, 5, 6, 7, 8, 9, 10, 11, 12, 13, 14, 15, 16, 17, 18, 19, 20, 21]⟩, ⟨(some 3), (.mv (.c (.i .i64 0))), none, 23, [0, 1, 2, 3, 4, 5, 6, 7, 8, 9, 10, 11, 12, 13, 14, 15, 16, 17, 18, 19, 20, 21, 22]⟩])
  .ret))))
def x36 : XFun := ⟨x36b, [(.t 2), (.t 3)]⟩
theorem x36_ok : compF Try.prog 36 = some x36 := by kernel_rfl
/-- (*bollard/octet.Reader).Bytes (17) -/
def x37b : XC := (.seq (.region [⟨(some 4), (.mv (.c (.sl none 0 0 0))), none, 0, []⟩, ⟨(some 5), (.mv (.c (.i .i64 0))), none, 1, []⟩])
  (.seq (.region [⟨(some 9), (.mv (.t 0)), none, 0, []⟩, ⟨(some 10), (.mv (.t 1)), none, 1, []⟩, ⟨(some 11), (.call (.c (.fn (.func 42) [] [])) [(.t 9), (.t 10)]), none, 2, []⟩, ⟨(some 8), (.mv (.t 11)), none, 3, []⟩, ⟨(some 12), (.ext (.t 8) 0), none, 4, []⟩, ⟨(some 13), (.ext (.t 8) 1), none, 5, []⟩, ⟨(some 6), (.mv (.t 12)), none, 6, []⟩, ⟨(some 7), (.mv (.t 13)), none, 7, []⟩])
  (.seq (.region [⟨(some 14), (.mv (.t 6)), none, 0, []⟩, ⟨(some 15), (.call (.c (.fn (.func 27) [] [])) [(.t 14)]), none, 1, []⟩, ⟨(some 16), (.mv (.t 7)), none, 2, []⟩, ⟨(some 4), (.mv (.t 15)), none, 3, []⟩, ⟨(some 5), (.mv (.t 16)), none, 4, []⟩])
  .ret)))
def x37 : XFun := ⟨x37b, [(.t 4), (.t 5)]⟩
theorem x37_ok : compF Try.prog 37 = some x37 := by kernel_rfl
/-- (*bollard/octet.Reader).Left (10) -/
def x38b : XC := (.seq (.region [⟨(some 2), (.mv (.c (.i .i64 0))), none, 0, []⟩])
  (.seq (.seq (.region [⟨(some 3), (.mv (.t 0)), none, 0, []⟩, ⟨(some 4), (.nilq 0 false (.t 3)), none, 1, []⟩])
  (.cond (.t 4) (.seq (.region [⟨(some 2), (.mv (.c (.i .i64 0))), none, 0, []⟩])
  .ret) .skip))
  (.seq (.region [⟨(some 5), (.mv (.t 0)), none, 0, []⟩, ⟨(some 6), (.nilc (.t 5)), none, 1, []⟩, ⟨(some 7), (.fadd 0 (.t 6)), none, 2, []⟩, ⟨(some 8), (.load false 1 (.t 7)), none, 3, []⟩, ⟨(some 9), (.lenx (.t 8)), none, 4, []⟩, ⟨(some 2), (.mv (.t 9)), none, 5, []⟩])
  .ret)))
def x38 : XFun := ⟨x38b, [(.t 2)]⟩
theorem x38_ok : compF Try.prog 38 = some x38 := by kernel_rfl
/-- bollard/bollardref01.Get (31) -/
def x39b : XC := (.seq (.region [⟨(some 4), (.mv (.c (.i .u32 0))), none, 0, []⟩, ⟨(some 5), (.mv (.c (.sl none 0 0 0))), none, 1, []⟩, ⟨(some 6), (.mv (.c (.i .i64 0))), none, 2, []⟩])
  (.seq (.seq (.region [⟨(some 9), (.mv (.t 0)), none, 0, []⟩, ⟨(some 10), (.lenx (.t 9)), none, 1, []⟩, ⟨(some 11), (.mv (.t 1)), none, 2, []⟩, ⟨(some 12), (.bin .lss (.t 10) (.t 11)), none, 3, []⟩])
  (.cond (.t 12) (.seq (.region [⟨(some 13), (.mv (.t 0)), none, 0, []⟩, ⟨(some 4), (.mv (.c (.i .u32 0))), none, 1, []⟩, ⟨(some 5), (.mv (.t 13)), none, 2, []⟩, ⟨(some 6), (.mv (.c (.i .i64 2))), none, 3, []⟩])
  .ret) .skip))
  (.seq (.region [⟨(some 7), (.mv (.c (.i .u32 0))), none, 0, []⟩])
  (.seq (.seq (.region [⟨(some 8), (.mv (.c (.i .i64 0))), none, 0, []⟩])
  (.block 0 (.loop (.seq (.seq (.region [⟨(some 14), (.mv (.t 8)), none, 0, []⟩, ⟨(some 15), (.mv (.t 1)), none, 1, []⟩, ⟨(some 16), (.bin .lss (.t 14) (.t 15)), none, 2, []⟩])
  (.cond (.t 16) .skip (.exit 0)))
  (.seq (.block 1 (.region [⟨(some 19), (.mv (.t 7)), none, 0, []⟩, ⟨(some 20), (.bin .shl (.t 19) (.c (.i .u64 8))), none, 1, []⟩, ⟨(some 21), (.mv (.t 0)), none, 2, []⟩, ⟨(some 22), (.mv (.t 8)), none, 3, []⟩, ⟨(some 23), (.isl 1 (.t 21) (.t 22)), none, 4, []⟩, ⟨(some 24), (.load false 1 (.t 23)), none, 5, []⟩, ⟨(some 25), (.cint .u32 (.t 24)), none, 6, []⟩, ⟨(some 26), (.bin .or (.t 20) (.t 25)), none, 7, []⟩, ⟨(some 7), (.mv (.t 26)), none, 8, []⟩]))
  (.region [⟨(some 17), (.mv (.t 8)), none, 0, []⟩, ⟨(some 18), (.bin .add (.t 17) (.c (.i .i64 1))), none, 1, []⟩, ⟨(some 8), (.mv (.t 18)), none, 2, []⟩]))))))
  (.seq (.draw [⟨(some 27), (.mv (.t 7)), none, 0, []⟩, ⟨(some 28), (.mv (.t 0)), none, 1, []⟩, ⟨(some 29), (.mv (.t 1)), none, 2, []⟩, ⟨(some 30), (.slsl 1 (.t 28) (some (.t 29)) none none), none, 3, [1, 2]⟩, ⟨(some 4), (.mv (.t 27)), none, 4, [0]⟩, ⟨(some 5), (.mv (.t 30)), none, 5, [0, 1, 2, 3, 4]⟩, ⟨(some 6), (.mv (.c (.i .i64 0))), none, 6, [0, 1, 2, 3, 4, 5]⟩])
  .ret)))))
def x39 : XFun := ⟨x39b, [(.t 4), (.t 5), (.t 6)]⟩
theorem x39_ok : compF Try.prog 39 = some x39 := by kernel_rfl
/-- (*bollard/audio.speaker).next (44) -/
def x40b : XC := (.seq (.region [⟨(some 3), (.box (.t 1)), none, 0, []⟩, ⟨(some 4), (.mv (.c (.i .u16 0))), none, 1, []⟩, ⟨(some 5), (.mv (.c (.b false))), none, 2, []⟩])
  (.seq (.block 0 (.seq (.region [⟨(some 7), (.mv (.t 0)), none, 0, []⟩, ⟨(some 8), (.nilc (.t 7)), none, 1, []⟩, ⟨(some 9), (.fadd 0 (.t 8)), none, 2, []⟩, ⟨(some 10), (.load false 1 (.t 9)), none, 3, []⟩, ⟨(some 11), (.unx .not (.t 10)), none, 4, []⟩, ⟨(some 6), (.mv (.t 11)), none, 5, []⟩])
  (.cond (.t 6) (.seq (.region [⟨(some 4), (.mv (.c (.i .u16 0))), none, 0, []⟩, ⟨(some 5), (.mv (.c (.b true))), none, 1, []⟩])
  .ret) (.seq (.draw [⟨(some 13), (.mv (.t 0)), none, 0, []⟩, ⟨(some 14), (.nilc (.t 13)), none, 1, [0]⟩, ⟨(some 15), (.fadd 1 (.t 14)), none, 2, [0, 1]⟩, ⟨(some 17), (.fadd 4 (.t 3)), none, 4, []⟩, ⟨(some 16), (.load false 1 (.t 15)), none, 3, [0, 1, 2]⟩, ⟨(some 18), (.load false 1 (.t 17)), none, 5, [4]⟩, ⟨(some 19), (.bin .neq (.t 16) (.t 18)), none, 6, [0, 1, 2, 3, 4, 5]⟩, ⟨(some 12), (.mv (.t 19)), none, 7, [0, 1, 2, 3, 4, 5, 6]⟩])
  (.cond (.t 12) (.seq (.region [⟨(some 20), (.mv (.t 0)), none, 0, []⟩, ⟨(some 21), (.nilc (.t 20)), none, 1, []⟩, ⟨(some 22), (.fadd 3 (.t 21)), none, 2, []⟩, ⟨(some 23), (.load false 1 (.t 22)), none, 3, []⟩, ⟨(some 24), (.bin .add (.t 23) (.c (.i .u16 1))), none, 4, []⟩, ⟨(some 4), (.mv (.t 24)), none, 5, []⟩, ⟨(some 5), (.mv (.c (.b true))), none, 6, []⟩])
  .ret) .skip)))))
  (.seq (.draw [⟨(some 25), (.mv (.t 0)), none, 0, []⟩, ⟨(some 26), (.nilc (.t 25)), none, 1, [0]⟩, ⟨(some 27), (.fadd 3 (.t 26)), none, 2, [0, 1]⟩, ⟨(some 29), (.fadd 2 (.t 3)), none, 4, []⟩, ⟨(some 32), (.mv (.t 0)), none, 7, []⟩, ⟨(some 33), (.nilc (.t 32)), none, 8, [7]⟩, ⟨(some 34), (.fadd 2 (.t 33)), none, 9, [7, 8]⟩, ⟨(some 37), (.mv (.t 0)), none, 12, []⟩, ⟨(some 38), (.nilc (.t 37)), none, 13, [12]⟩, ⟨(some 39), (.fadd 2 (.t 38)), none, 14, [12, 13]⟩, ⟨(some 41), (.fadd 2 (.t 3)), none, 16, []⟩, ⟨(some 28), (.load false 1 (.t 27)), none, 3, [0, 1, 2]⟩, ⟨(some 30), (.load false 1 (.t 29)), none, 5, [4]⟩, ⟨(some 31), (.bin .add (.t 28) (.t 30)), none, 6, [0, 1, 2, 3, 4, 5]⟩, ⟨(some 35), (.load false 1 (.t 34)), none, 10, [7, 8, 9]⟩, ⟨(some 36), (.bin .sub (.t 31) (.t 35)), none, 11, [0, 1, 2, 3, 4, 5, 6, 7, 8, 9, 10]⟩, ⟨(some 40), (.load false 1 (.t 39)), none, 15, [12, 13, 14]⟩, ⟨(some 42), (.load false 1 (.t 41)), none, 17, [16]⟩, ⟨(some 43), (.call (.c (.fn (.func 43) [] [])) [(.t 40), (.t 42)]), none, 18, [12, 13, 14, 15, 16, 17]⟩, ⟨(some 4), (.mv (.t 36)), none, 19, [0, 1, 2, 3, 4, 5, 6, 7, 8, 9, 10, 11, 12, 13, 14, 15, 16, 17, 18]⟩, ⟨(some 5), (.mv (.t 43)), none, 20, [0, 1, 2, 3, 4, 5, 6, 7, 8, 9, 10, 11, 12, 13, 14, 15, 16, 17, 18, 19]⟩])
  .ret)))
def x40 : XFun := ⟨x40b, [(.t 4), (.t 5)]⟩
theorem x40_ok : compF Try.prog 40 = some x40 := by kernel_rfl
/-- bollard/octet.with (20) -/
def x41b : XC := (.seq (.region [⟨(some 4), (.mv (.c (.sl none 0 0 0))), none, 0, []⟩])
  (.seq (.region [⟨(some 6), (.mv (.t 0)), none, 0, []⟩, ⟨(some 7), (.lenx (.t 6)), none, 1, []⟩, ⟨(some 8), (.mv (.t 0)), none, 2, []⟩, ⟨(some 9), (.lenx (.t 8)), none, 3, []⟩, ⟨(some 10), (.mv (.t 1)), none, 4, []⟩, ⟨(some 11), (.lenx (.t 10)), none, 5, []⟩, ⟨(some 12), (.bin .add (.t 9) (.t 11)), none, 6, []⟩, ⟨(some 13), (.mkslice [(.i .u8 0)] 1 (.t 7) (.t 12)), none, 7, []⟩, ⟨(some 5), (.mv (.t 13)), none, 8, []⟩])
  (.seq (.region [⟨(some 14), (.mv (.t 5)), none, 0, []⟩, ⟨(some 15), (.mv (.t 0)), none, 1, []⟩, ⟨(some 16), (.copy 1 (.t 14) (.t 15)), none, 2, []⟩])
  (.seq (.region [⟨(some 17), (.mv (.t 5)), none, 0, []⟩, ⟨(some 18), (.mv (.t 1)), none, 1, []⟩, ⟨(some 19), (.append 1 1 (.t 17) (.t 18)), none, 2, []⟩, ⟨(some 4), (.mv (.t 19)), none, 3, []⟩])
  .ret))))
def x41 : XFun := ⟨x41b, [(.t 4)]⟩
theorem x41_ok : compF Try.prog 41 = some x41 := by kernel_rfl
/-- (*bollard/octet.Reader).take (39) -/
def x42b : XC := (.seq (.region [⟨(some 4), (.mv (.c (.sl none 0 0 0))), none, 0, []⟩, ⟨(some 5), (.mv (.c (.i .i64 0))), none, 1, []⟩])
  (.seq (.block 0 (.seq (.region [⟨(some 8), (.mv (.t 0)), none, 0, []⟩, ⟨(some 9), (.nilq 0 false (.t 8)), none, 1, []⟩, ⟨(some 10), (.mv (.t 9)), none, 2, []⟩, ⟨(some 11), (.mv (.t 1)), (some (10, false)), 3, []⟩, ⟨(some 12), (.bin .lss (.t 11) (.c (.i .i64 0))), (some (10, false)), 4, []⟩, ⟨(some 13), (.pick (.t 10) (.c (.b true)) (.t 12)), none, 5, []⟩, ⟨(some 7), (.mv (.t 13)), none, 6, []⟩])
  (.cond (.t 7) (.seq (.region [⟨(some 4), (.mv (.c (.sl none 0 0 0))), none, 0, []⟩, ⟨(some 5), (.mv (.c (.i .i64 1))), none, 1, []⟩])
  .ret) (.seq (.region [⟨(some 15), (.mv (.t 1)), none, 0, []⟩, ⟨(some 16), (.mv (.t 0)), none, 1, []⟩, ⟨(some 17), (.nilc (.t 16)), none, 2, []⟩, ⟨(some 18), (.fadd 0 (.t 17)), none, 3, []⟩, ⟨(some 19), (.load false 1 (.t 18)), none, 4, []⟩, ⟨(some 20), (.lenx (.t 19)), none, 5, []⟩, ⟨(some 21), (.bin .gtr (.t 15) (.t 20)), none, 6, []⟩, ⟨(some 14), (.mv (.t 21)), none, 7, []⟩])
  (.cond (.t 14) (.seq (.region [⟨(some 4), (.mv (.c (.sl none 0 0 0))), none, 0, []⟩, ⟨(some 5), (.mv (.c (.i .i64 2))), none, 1, []⟩])
  .ret) .skip)))))
  (.seq (.region [⟨(some 22), (.mv (.t 0)), none, 0, []⟩, ⟨(some 23), (.nilc (.t 22)), none, 1, []⟩, ⟨(some 24), (.fadd 0 (.t 23)), none, 2, []⟩, ⟨(some 25), (.load false 1 (.t 24)), none, 3, []⟩, ⟨(some 26), (.mv (.t 1)), none, 4, []⟩, ⟨(some 27), (.mv (.t 1)), none, 5, []⟩, ⟨(some 28), (.slsl 1 (.t 25) none (some (.t 26)) (some (.t 27))), none, 6, []⟩, ⟨(some 6), (.mv (.t 28)), none, 7, []⟩])
  (.seq (.region [⟨(some 29), (.mv (.t 0)), none, 0, []⟩, ⟨(some 30), (.mv (.t 0)), none, 1, []⟩, ⟨(some 31), (.nilc (.t 30)), none, 2, []⟩, ⟨(some 32), (.fadd 0 (.t 31)), none, 3, []⟩, ⟨(some 33), (.load false 1 (.t 32)), none, 4, []⟩, ⟨(some 34), (.mv (.t 1)), none, 5, []⟩, ⟨(some 35), (.slsl 1 (.t 33) (some (.t 34)) none none), none, 6, []⟩, ⟨(some 36), (.nilc (.t 29)), none, 7, []⟩, ⟨(some 37), (.fadd 0 (.t 36)), none, 8, []⟩, ⟨none, (.store 1 (.t 37) (.t 35)), none, 9, []⟩])
  (.seq (.region [⟨(some 38), (.mv (.t 6)), none, 0, []⟩, ⟨(some 4), (.mv (.t 38)), none, 1, []⟩, ⟨(some 5), (.mv (.c (.i .i64 0))), none, 2, []⟩])
  .ret)))))
def x42 : XFun := ⟨x42b, [(.t 4), (.t 5)]⟩
theorem x42_ok : compF Try.prog 42 = some x42 := by kernel_rfl
/-- bollard/serial.Less16 (8) -/
def x43b : XC := (.seq (.region [⟨(some 4), (.mv (.c (.b false))), none, 0, []⟩])
  (.seq (.region [⟨(some 5), (.mv (.t 0)), none, 0, []⟩, ⟨(some 6), (.mv (.t 1)), none, 1, []⟩, ⟨(some 7), (.call (.c (.fn (.func 44) [] [])) [(.t 5), (.t 6)]), none, 2, []⟩, ⟨(some 4), (.mv (.t 7)), none, 3, []⟩])
  .ret))
def x43 : XFun := ⟨x43b, [(.t 4)]⟩
theorem x43_ok : compF Try.prog 43 = some x43 := by kernel_rfl
/-- bollard/serial.less[uint16] (18) -/
def x44b : XC := (.seq (.region [⟨(some 4), (.mv (.c (.b false))), none, 0, []⟩])
  (.seq (.region [⟨(some 6), (.mv (.t 1)), none, 0, []⟩, ⟨(some 7), (.mv (.t 0)), none, 1, []⟩, ⟨(some 8), (.bin .sub (.t 6) (.t 7)), none, 2, []⟩, ⟨(some 5), (.mv (.t 8)), none, 3, []⟩])
  (.seq (.region [⟨(some 9), (.mv (.t 5)), none, 0, []⟩, ⟨(some 10), (.bin .neq (.t 9) (.c (.i .u16 0))), none, 1, []⟩, ⟨(some 11), (.mv (.t 10)), none, 2, []⟩, ⟨(some 12), (.mv (.t 5)), (some (11, true)), 3, []⟩, ⟨(some 13), (.cint .u16 (.c (.i .i64 0))), (some (11, true)), 4, []⟩, ⟨(some 14), (.unx .xor (.t 13)), (some (11, true)), 5, []⟩, ⟨(some 15), (.bin .shr (.t 14) (.c (.i .u64 1))), (some (11, true)), 6, []⟩, ⟨(some 16), (.bin .leq (.t 12) (.t 15)), (some (11, true)), 7, []⟩, ⟨(some 17), (.pick (.t 11) (.t 16) (.c (.b false))), none, 8, []⟩, ⟨(some 4), (.mv (.t 17)), none, 9, []⟩])
  .ret)))
def x44 : XFun := ⟨x44b, [(.t 4)]⟩
theorem x44_ok : compF Try.prog 44 = some x44 := by kernel_rfl
def tab : Nat → Option XFun := fun g => match g with
  | 3 => some x3
  | 4 => some x4
  | 5 => some x5
  | 6 => some x6
  | 7 => some x7
  | 8 => some x8
  | 9 => some x9
  | 10 => some x10
  | 11 => some x11
  | 12 => some x12
  | 13 => some x13
  | 14 => some x14
  | 15 => some x15
  | 16 => some x16
  | 17 => some x17
  | 18 => some x18
  | 19 => some x19
  | 20 => some x20
  | 21 => some x21
  | 22 => some x22
  | 23 => some x23
  | 24 => some x24
  | 25 => some x25
  | 26 => some x26
  | 27 => some x27
  | 28 => some x28
  | 29 => some x29
  | 30 => some x30
  | 31 => some x31
  | 32 => some x32
  | 33 => some x33
  | 34 => some x34
  | 35 => some x35
  | 36 => some x36
  | 37 => some x37
  | 38 => some x38
  | 39 => some x39
  | 40 => some x40
  | 41 => some x41
  | 42 => some x42
  | 43 => some x43
  | 44 => some x44
  | _ => none
theorem tab_ok : TabOK Try.prog tab := by
  intro g F h
  unfold tab at h
  split at h
  · cases h; exact x3_ok
  · cases h; exact x4_ok
  · cases h; exact x5_ok
  · cases h; exact x6_ok
  · cases h; exact x7_ok
  · cases h; exact x8_ok
  · cases h; exact x9_ok
  · cases h; exact x10_ok
  · cases h; exact x11_ok
  · cases h; exact x12_ok
  · cases h; exact x13_ok
  · cases h; exact x14_ok
  · cases h; exact x15_ok
  · cases h; exact x16_ok
  · cases h; exact x17_ok
  · cases h; exact x18_ok
  · cases h; exact x19_ok
  · cases h; exact x20_ok
  · cases h; exact x21_ok
  · cases h; exact x22_ok
  · cases h; exact x23_ok
  · cases h; exact x24_ok
  · cases h; exact x25_ok
  · cases h; exact x26_ok
  · cases h; exact x27_ok
  · cases h; exact x28_ok
  · cases h; exact x29_ok
  · cases h; exact x30_ok
  · cases h; exact x31_ok
  · cases h; exact x32_ok
  · cases h; exact x33_ok
  · cases h; exact x34_ok
  · cases h; exact x35_ok
  · cases h; exact x36_ok
  · cases h; exact x37_ok
  · cases h; exact x38_ok
  · cases h; exact x39_ok
  · cases h; exact x40_ok
  · cases h; exact x41_ok
  · cases h; exact x42_ok
  · cases h; exact x43_ok
  · cases h; exact x44_ok
  · cases h
end Go.Proofs.Ythmiglahfkfcaaa.E
