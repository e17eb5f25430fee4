/- The compiled functions of the seat, as told by the evaluator's compiler; written by a program of this session, wip/eng/px.lean. It bears no condition. -/
import Derived.Test.YteapgimihapefaaE19
import Derived.Test.YteapgimihapefaaChecked
namespace Go.Proofs.Yteapgimihapefaa.E
set_option linter.unusedVariables false
/-- bollard/bollardlaw09.CookieEncodes (39) -/
def x3b : XC := (.seq (.region [⟨(some 3), (.box (.t 1)), none, 0, []⟩, ⟨(some 4), (.mv (.c (.b false))), none, 1, []⟩])
  (.seq (.region [⟨(some 10), (.call (.c (.fn (.func 9) [] [])) []), none, 0, []⟩, ⟨(some 5), (.mv (.t 10)), none, 1, []⟩])
  (.seq (.seq (.region [⟨(some 11), (.mv (.t 0)), none, 0, []⟩, ⟨(some 12), (.lenx (.t 11)), none, 1, []⟩, ⟨(some 13), (.bin .gtr (.t 12) (.c (.i .i64 300))), none, 2, []⟩])
  (.cond (.t 13) (.seq (.region [⟨(some 14), (.mv (.t 5)), none, 0, []⟩, ⟨(some 4), (.mv (.t 14)), none, 1, []⟩])
  .ret) .skip))
  (.seq (.region [⟨(some 16), (.mv (.t 0)), none, 0, []⟩, ⟨(some 17), (.load true 11 (.t 3)), none, 1, []⟩, ⟨(some 18), (.call (.c (.fn (.func 10) [] [])) [(.t 16), (.t 17)]), none, 2, []⟩, ⟨(some 15), (.mv (.t 18)), none, 3, []⟩, ⟨(some 19), (.ext (.t 15) 0), none, 4, []⟩, ⟨(some 20), (.ext (.t 15) 1), none, 5, []⟩, ⟨(some 6), (.mv (.t 19)), none, 6, []⟩, ⟨(some 7), (.mv (.t 20)), none, 7, []⟩])
  (.seq (.region [⟨(some 22), (.mv (.t 0)), none, 0, []⟩, ⟨(some 23), (.load true 11 (.t 3)), none, 1, []⟩, ⟨(some 24), (.call (.c (.fn (.func 12) [] [])) [(.t 23)]), none, 2, []⟩, ⟨(some 25), (.call (.c (.fn (.func 11) [] [])) [(.t 22), (.t 24)]), none, 3, []⟩, ⟨(some 21), (.mv (.t 25)), none, 4, []⟩, ⟨(some 26), (.ext (.t 21) 0), none, 5, []⟩, ⟨(some 27), (.ext (.t 21) 1), none, 6, []⟩, ⟨(some 8), (.mv (.t 26)), none, 7, []⟩, ⟨(some 9), (.mv (.t 27)), none, 8, []⟩])
  (.seq (.region [⟨(some 28), (.mv (.t 5)), none, 0, []⟩, ⟨(some 29), (.mv (.t 28)), none, 1, []⟩, ⟨(some 30), (.mv (.t 7)), (some (29, true)), 2, []⟩, ⟨(some 31), (.mv (.t 9)), (some (29, true)), 3, []⟩, ⟨(some 32), (.beq false (.t 30) (.t 31)), (some (29, true)), 4, []⟩, ⟨(some 33), (.pick (.t 29) (.t 32) (.c (.b false))), none, 5, []⟩, ⟨(some 34), (.mv (.t 33)), none, 6, []⟩, ⟨(some 35), (.mv (.t 6)), (some (34, true)), 7, []⟩, ⟨(some 36), (.mv (.t 8)), (some (34, true)), 8, []⟩, ⟨(some 37), (.call (.c (.fn (.func 13) [] [])) [(.t 35), (.t 36)]), (some (34, true)), 9, []⟩, ⟨(some 38), (.pick (.t 34) (.t 37) (.c (.b false))), none, 10, []⟩, ⟨(some 4), (.mv (.t 38)), none, 11, []⟩])
  .ret))))))
def x3 : XFun := ⟨x3b, [(.t 4)]⟩
theorem x3_ok : compF Try.prog 3 = some x3 := by kernel_rfl
/-- bollard/bollardlaw09.CookieDecodes (73) -/
def x4b : XC := (.seq (.region [⟨(some 6), (.mv (.c (.b false))), none, 0, []⟩])
  (.seq (.region [⟨(some 16), (.call (.c (.fn (.func 9) [] [])) []), none, 0, []⟩, ⟨(some 7), (.mv (.t 16)), none, 1, []⟩])
  (.seq (.seq (.region [⟨(some 17), (.mv (.t 0)), none, 0, []⟩, ⟨(some 18), (.lenx (.t 17)), none, 1, []⟩, ⟨(some 19), (.bin .gtr (.t 18) (.c (.i .i64 300))), none, 2, []⟩, ⟨(some 20), (.mv (.t 19)), none, 3, []⟩, ⟨(some 21), (.mv (.t 1)), (some (20, false)), 4, []⟩, ⟨(some 22), (.lenx (.t 21)), (some (20, false)), 5, []⟩, ⟨(some 23), (.bin .gtr (.t 22) (.c (.i .i64 300))), (some (20, false)), 6, []⟩, ⟨(some 24), (.pick (.t 20) (.c (.b true)) (.t 23)), none, 7, []⟩])
  (.cond (.t 24) (.seq (.region [⟨(some 25), (.mv (.t 7)), none, 0, []⟩, ⟨(some 6), (.mv (.t 25)), none, 1, []⟩])
  .ret) .skip))
  (.seq (.region [⟨(some 27), (.mv (.t 0)), none, 0, []⟩, ⟨(some 28), (.mv (.t 1)), none, 1, []⟩, ⟨(some 29), (.call (.c (.fn (.func 14) [] [])) [(.t 27), (.t 28)]), none, 2, []⟩, ⟨(some 26), (.mv (.t 29)), none, 3, []⟩, ⟨(some 30), (.ext (.t 26) 0), none, 4, []⟩, ⟨(some 31), (.ext (.t 26) 1), none, 5, []⟩, ⟨(some 8), (.alloc [(.i .i64 0), (.i .i64 0), (.i .u32 0), (.i .u32 0), (.i .u32 0), (.i .u32 0), (.i .u32 0), (.i .u16 0), (.i .u16 0), (.i .u32 0), (.i .u32 0)]), none, 6, []⟩, ⟨none, (.store 11 (.t 8) (.t 30)), none, 7, []⟩, ⟨(some 9), (.mv (.t 31)), none, 8, []⟩])
  (.seq (.region [⟨(some 33), (.mv (.t 0)), none, 0, []⟩, ⟨(some 34), (.mv (.t 1)), none, 1, []⟩, ⟨(some 35), (.call (.c (.fn (.func 15) [] [])) [(.t 33), (.t 34)]), none, 2, []⟩, ⟨(some 32), (.mv (.t 35)), none, 3, []⟩, ⟨(some 36), (.ext (.t 32) 0), none, 4, []⟩, ⟨(some 37), (.ext (.t 32) 1), none, 5, []⟩, ⟨(some 10), (.alloc [(.i .i64 0), (.i .i64 0), (.i .i64 0), (.i .i64 0), (.i .i64 0), (.i .i64 0), (.i .i64 0), (.i .i64 0), (.i .i64 0), (.i .i64 0), (.i .i64 0)]), none, 6, []⟩, ⟨none, (.store 11 (.t 10) (.t 36)), none, 7, []⟩, ⟨(some 11), (.mv (.t 37)), none, 8, []⟩])
  (.seq (.region [⟨(some 39), (.mv (.t 0)), none, 0, []⟩, ⟨(some 40), (.mv (.t 1)), none, 1, []⟩, ⟨(some 41), (.mv (.t 2)), none, 2, []⟩, ⟨(some 42), (.call (.c (.fn (.func 16) [] [])) [(.t 39), (.t 40), (.t 41)]), none, 3, []⟩, ⟨(some 38), (.mv (.t 42)), none, 4, []⟩, ⟨(some 43), (.ext (.t 38) 0), none, 5, []⟩, ⟨(some 44), (.ext (.t 38) 1), none, 6, []⟩, ⟨(some 12), (.alloc [(.i .i64 0), (.i .i64 0), (.i .u32 0), (.i .u32 0), (.i .u32 0), (.i .u32 0), (.i .u32 0), (.i .u16 0), (.i .u16 0), (.i .u32 0), (.i .u32 0)]), none, 7, []⟩, ⟨none, (.store 11 (.t 12) (.t 43)), none, 8, []⟩, ⟨(some 13), (.mv (.t 44)), none, 9, []⟩])
  (.seq (.region [⟨(some 46), (.mv (.t 0)), none, 0, []⟩, ⟨(some 47), (.mv (.t 1)), none, 1, []⟩, ⟨(some 48), (.mv (.t 2)), none, 2, []⟩, ⟨(some 49), (.call (.c (.fn (.func 17) [] [])) [(.t 46), (.t 47), (.t 48)]), none, 3, []⟩, ⟨(some 45), (.mv (.t 49)), none, 4, []⟩, ⟨(some 50), (.ext (.t 45) 0), none, 5, []⟩, ⟨(some 51), (.ext (.t 45) 1), none, 6, []⟩, ⟨(some 14), (.alloc [(.i .i64 0), (.i .i64 0), (.i .i64 0), (.i .i64 0), (.i .i64 0), (.i .i64 0), (.i .i64 0), (.i .i64 0), (.i .i64 0), (.i .i64 0), (.i .i64 0)]), none, 7, []⟩, ⟨none, (.store 11 (.t 14) (.t 50)), none, 8, []⟩, ⟨(some 15), (.mv (.t 51)), none, 9, []⟩])
  (.seq (.region [⟨(some 52), (.mv (.t 7)), none, 0, []⟩, ⟨(some 53), (.mv (.t 52)), none, 1, []⟩, ⟨(some 54), (.mv (.t 9)), (some (53, true)), 2, []⟩, ⟨(some 55), (.mv (.t 11)), (some (53, true)), 3, []⟩, ⟨(some 56), (.bin .eql (.t 54) (.t 55)), (some (53, true)), 4, []⟩, ⟨(some 57), (.pick (.t 53) (.t 56) (.c (.b false))), none, 5, []⟩, ⟨(some 58), (.mv (.t 57)), none, 6, []⟩, ⟨(some 59), (.load true 11 (.t 8)), (some (58, true)), 7, []⟩, ⟨(some 60), (.load true 11 (.t 10)), (some (58, true)), 8, []⟩, ⟨(some 61), (.call (.c (.fn (.func 18) [] [])) [(.t 59), (.t 60)]), (some (58, true)), 9, []⟩, ⟨(some 62), (.pick (.t 58) (.t 61) (.c (.b false))), none, 10, []⟩, ⟨(some 63), (.mv (.t 62)), none, 11, []⟩, ⟨(some 64), (.mv (.t 13)), (some (63, true)), 12, []⟩, ⟨(some 65), (.mv (.t 15)), (some (63, true)), 13, []⟩, ⟨(some 66), (.bin .eql (.t 64) (.t 65)), (some (63, true)), 14, []⟩, ⟨(some 67), (.pick (.t 63) (.t 66) (.c (.b false))), none, 15, []⟩, ⟨(some 68), (.mv (.t 67)), none, 16, []⟩, ⟨(some 69), (.load true 11 (.t 12)), (some (68, true)), 17, []⟩, ⟨(some 70), (.load true 11 (.t 14)), (some (68, true)), 18, []⟩, ⟨(some 71), (.call (.c (.fn (.func 18) [] [])) [(.t 69), (.t 70)]), (some (68, true)), 19, []⟩, ⟨(some 72), (.pick (.t 68) (.t 71) (.c (.b false))), none, 20, []⟩, ⟨(some 6), (.mv (.t 72)), none, 21, []⟩])
  .ret))))))))
def x4 : XFun := ⟨x4b, [(.t 6)]⟩
theorem x4_ok : compF Try.prog 4 = some x4 := by kernel_rfl
/-- bollard/bollardlaw09.CookieBack (110) -/
def x5b : XC := (.seq (.region [⟨(some 4), (.box (.t 1)), none, 0, []⟩, ⟨(some 6), (.mv (.c (.b false))), none, 1, []⟩])
  (.seq (.region [⟨(some 15), (.call (.c (.fn (.func 9) [] [])) []), none, 0, []⟩, ⟨(some 7), (.mv (.t 15)), none, 1, []⟩])
  (.seq (.region [⟨(some 17), (.mv (.t 0)), none, 0, []⟩, ⟨(some 18), (.load true 11 (.t 4)), none, 1, []⟩, ⟨(some 19), (.call (.c (.fn (.func 10) [] [])) [(.t 17), (.t 18)]), none, 2, []⟩, ⟨(some 16), (.mv (.t 19)), none, 3, []⟩, ⟨(some 20), (.ext (.t 16) 0), none, 4, []⟩, ⟨(some 21), (.ext (.t 16) 1), none, 5, []⟩, ⟨(some 8), (.mv (.t 20)), none, 6, []⟩, ⟨(some 9), (.mv (.t 21)), none, 7, []⟩])
  (.seq (.seq (.region [⟨(some 22), (.mv (.t 9)), none, 0, []⟩, ⟨(some 23), (.unx .not (.t 22)), none, 1, []⟩])
  (.cond (.t 23) (.seq (.region [⟨(some 24), (.mv (.t 7)), none, 0, []⟩, ⟨(some 25), (.mv (.t 24)), none, 1, []⟩, ⟨(some 26), (.mv (.t 8)), (some (25, true)), 2, []⟩, ⟨(some 27), (.lenx (.t 26)), (some (25, true)), 3, []⟩, ⟨(some 28), (.bin .eql (.t 27) (.c (.i .i64 0))), (some (25, true)), 4, []⟩, ⟨(some 29), (.pick (.t 25) (.t 28) (.c (.b false))), none, 5, []⟩, ⟨(some 30), (.mv (.t 29)), none, 6, []⟩, ⟨(some 31), (.mv (.t 0)), (some (30, true)), 7, []⟩, ⟨(some 32), (.lenx (.t 31)), (some (30, true)), 8, []⟩, ⟨(some 33), (.bin .neq (.t 32) (.c (.i .i64 16))), (some (30, true)), 9, []⟩, ⟨(some 34), (.mv (.t 33)), (some (30, true)), 10, []⟩, ⟨(some 35), (.fadd 0 (.t 4)), (some (34, false)), 11, []⟩, ⟨(some 36), (.load false 1 (.t 35)), (some (34, false)), 12, []⟩, ⟨(some 37), (.bin .lss (.t 36) (.c (.i .i64 0))), (some (34, false)), 13, []⟩, ⟨(some 38), (.pick (.t 34) (.c (.b true)) (.t 37)), (some (30, true)), 14, []⟩, ⟨(some 39), (.mv (.t 38)), (some (30, true)), 15, []⟩, ⟨(some 40), (.fadd 1 (.t 4)), (some (39, false)), 16, []⟩, ⟨(some 41), (.load false 1 (.t 40)), (some (39, false)), 17, []⟩, ⟨(some 42), (.bin .lss (.t 41) (.c (.i .i64 0))), (some (39, false)), 18, []⟩, ⟨(some 43), (.pick (.t 39) (.c (.b true)) (.t 42)), (some (30, true)), 19, []⟩, ⟨(some 44), (.mv (.t 43)), (some (30, true)), 20, []⟩, ⟨(some 45), (.fadd 0 (.t 4)), (some (44, false)), 21, []⟩, ⟨(some 46), (.load false 1 (.t 45)), (some (44, false)), 22, []⟩, ⟨(some 47), (.bin .gtr (.t 46) (.c (.i .i64 281474976710656))), (some (44, false)), 23, []⟩, ⟨(some 48), (.pick (.t 44) (.c (.b true)) (.t 47)), (some (30, true)), 24, []⟩, ⟨(some 49), (.mv (.t 48)), (some (30, true)), 25, []⟩, ⟨(some 50), (.fadd 1 (.t 4)), (some (49, false)), 26, []⟩, ⟨(some 51), (.load false 1 (.t 50)), (some (49, false)), 27, []⟩, ⟨(some 52), (.bin .gtr (.t 51) (.c (.i .i64 281474976710656))), (some (49, false)), 28, []⟩, ⟨(some 53), (.pick (.t 49) (.c (.b true)) (.t 52)), (some (30, true)), 29, []⟩, ⟨(some 54), (.pick (.t 30) (.t 53) (.c (.b false))), none, 30, []⟩, ⟨(some 6), (.mv (.t 54)), none, 31, []⟩])
  .ret) .skip))
  (.seq (.region [⟨(some 56), (.mv (.t 0)), none, 0, []⟩, ⟨(some 57), (.mv (.t 8)), none, 1, []⟩, ⟨(some 58), (.call (.c (.fn (.func 14) [] [])) [(.t 56), (.t 57)]), none, 2, []⟩, ⟨(some 55), (.mv (.t 58)), none, 3, []⟩, ⟨(some 59), (.ext (.t 55) 0), none, 4, []⟩, ⟨(some 60), (.ext (.t 55) 1), none, 5, []⟩, ⟨(some 10), (.alloc [(.i .i64 0), (.i .i64 0), (.i .u32 0), (.i .u32 0), (.i .u32 0), (.i .u32 0), (.i .u32 0), (.i .u16 0), (.i .u16 0), (.i .u32 0), (.i .u32 0)]), none, 6, []⟩, ⟨none, (.store 11 (.t 10) (.t 59)), none, 7, []⟩, ⟨(some 11), (.mv (.t 60)), none, 8, []⟩])
  (.seq (.region [⟨(some 62), (.mv (.t 0)), none, 0, []⟩, ⟨(some 63), (.mv (.t 8)), none, 1, []⟩, ⟨(some 64), (.mv (.t 2)), none, 2, []⟩, ⟨(some 65), (.call (.c (.fn (.func 16) [] [])) [(.t 62), (.t 63), (.t 64)]), none, 3, []⟩, ⟨(some 61), (.mv (.t 65)), none, 4, []⟩, ⟨(some 66), (.ext (.t 61) 0), none, 5, []⟩, ⟨(some 67), (.ext (.t 61) 1), none, 6, []⟩, ⟨(some 12), (.alloc [(.i .i64 0), (.i .i64 0), (.i .u32 0), (.i .u32 0), (.i .u32 0), (.i .u32 0), (.i .u32 0), (.i .u16 0), (.i .u16 0), (.i .u32 0), (.i .u32 0)]), none, 7, []⟩, ⟨none, (.store 11 (.t 12) (.t 66)), none, 8, []⟩, ⟨(some 13), (.mv (.t 67)), none, 9, []⟩])
  (.seq (.region [⟨(some 68), (.mv (.t 2)), none, 0, []⟩, ⟨(some 69), (.fadd 0 (.t 4)), none, 1, []⟩, ⟨(some 70), (.load false 1 (.t 69)), none, 2, []⟩, ⟨(some 71), (.bin .geq (.t 68) (.t 70)), none, 3, []⟩, ⟨(some 72), (.mv (.t 71)), none, 4, []⟩, ⟨(some 73), (.mv (.t 2)), (some (72, true)), 5, []⟩, ⟨(some 74), (.fadd 0 (.t 4)), (some (72, true)), 6, []⟩, ⟨(some 75), (.load false 1 (.t 74)), (some (72, true)), 7, []⟩, ⟨(some 76), (.fadd 1 (.t 4)), (some (72, true)), 8, []⟩, ⟨(some 77), (.load false 1 (.t 76)), (some (72, true)), 9, []⟩, ⟨(some 78), (.bin .add (.t 75) (.t 77)), (some (72, true)), 10, []⟩, ⟨(some 79), (.bin .leq (.t 73) (.t 78)), (some (72, true)), 11, []⟩, ⟨(some 80), (.pick (.t 72) (.t 79) (.c (.b false))), none, 12, []⟩, ⟨(some 14), (.mv (.t 80)), none, 13, []⟩])
  (.seq (.draw [⟨(some 81), (.mv (.t 7)), none, 0, []⟩, ⟨(some 82), (.mv (.t 81)), none, 1, [0]⟩, ⟨(some 83), (.mv (.t 8)), (some (82, true)), 2, [0, 1]⟩, ⟨(some 84), (.lenx (.t 83)), (some (82, true)), 3, [0, 1, 2]⟩, ⟨(some 85), (.bin .eql (.t 84) (.c (.i .i64 60))), (some (82, true)), 4, [0, 1, 2, 3]⟩, ⟨(some 86), (.pick (.t 82) (.t 85) (.c (.b false))), none, 5, [0, 1, 2, 3, 4]⟩, ⟨(some 87), (.mv (.t 86)), none, 6, [0, 1, 2, 3, 4, 5]⟩, ⟨(some 88), (.mv (.t 11)), (some (87, true)), 7, [0, 1, 2, 3, 4, 5, 6]⟩, ⟨(some 89), (.bin .eql (.t 88) (.c (.i .i64 0))), (some (87, true)), 8, [0, 1, 2, 3, 4, 5, 6, 7]⟩, ⟨(some 90), (.pick (.t 87) (.t 89) (.c (.b false))), none, 9, [0, 1, 2, 3, 4, 5, 6, 7, 8]⟩, ⟨(some 91), (.mv (.t 90)), none, 10, [0, 1, 2, 3, 4, 5, 6, 7, 8, 9]⟩, ⟨(some 92), (.load true 11 (.t 4)), (some (91, true)), 11, [0, 1, 2, 3, 4, 5, 6, 7, 8, 9, 10]⟩, ⟨(some 93), (.load true 11 (.t 10)), (some (91, true)), 12, [0, 1, 2, 3, 4, 5, 6, 7, 8, 9, 10]⟩, ⟨(some 94), (.call (.c (.fn (.func 12) [] [])) [(.t 93)]), (some (91, true)), 13, [0, 1, 2, 3, 4, 5, 6, 7, 8, 9, 10, 12]⟩, ⟨(some 95), (.call (.c (.fn (.func 18) [] [])) [(.t 92), (.t 94)]), (some (91, true)), 14, [0, 1, 2, 3, 4, 5, 6, 7, 8, 9, 10, 11, 12, 13]⟩, ⟨(some 96), (.pick (.t 91) (.t 95) (.c (.b false))), none, 15, [0, 1, 2, 3, 4, 5, 6, 7, 8, 9, 10, 11, 12, 13, 14]⟩, ⟨(some 97), (.mv (.t 96)), none, 16, [0, 1, 2, 3, 4, 5, 6, 7, 8, 9, 10, 11, 12, 13, 14, 15]⟩, ⟨(some 98), (.mv (.t 13)), (some (97, true)), 17, [0, 1, 2, 3, 4, 5, 6, 7, 8, 9, 10, 11, 12, 13, 14, 15, 16]⟩, ⟨(some 99), (.bin .eql (.t 98) (.c (.i .i64 0))), (some (97, true)), 18, [0, 1, 2, 3, 4, 5, 6, 7, 8, 9, 10, 11, 12, 13, 14, 15, 16, 17]⟩, ⟨(some 100), (.mv (.t 14)), (some (97, true)), 19, [0, 1, 2, 3, 4, 5, 6, 7, 8, 9, 10, 11, 12, 13, 14, 15, 16]⟩, ⟨(some 101), (.beq false (.t 99) (.t 100)), (some (97, true)), 20, [0, 1, 2, 3, 4, 5, 6, 7, 8, 9, 10, 11, 12, 13, 14, 15, 16, 17, 18, 19]⟩, ⟨(some 102), (.pick (.t 97) (.t 101) (.c (.b false))), none, 21, [0, 1, 2, 3, 4, 5, 6, 7, 8, 9, 10, 11, 12, 13, 14, 15, 16, 17, 18, 19, 20]⟩, ⟨(some 103), (.mv (.t 102)), none, 22, [0, 1, 2, 3, 4, 5, 6, 7, 8, 9, 10, 11, 12, 13, 14, 15, 16, 17, 18, 19, 20, 21]⟩, ⟨(some 104), (.mv (.t 14)), (some (103, true)), 23, [0, 1, 2, 3, 4, 5, 6, 7, 8, 9, 10, 11, 12, 13, 14, 15, 16, 17, 18, 19, 20, 21, 22]⟩, ⟨(some 105), (.mv (.t 104)), (some (103, true)), 24, [0, 1, 2, 3, 4, 5, 6, 7, 8, 9, 10, 11, 12, 13, 14, 15, 16, 17, 18, 19, 20, 21, 22, 23]⟩, ⟨(some 106), (.mv (.t 13)), (some (105, false)), 25, [0, 1, 2, 3, 4, 5, 6, 7, 8, 9, 10, 11, 12, 13, 14, 15, 16, 17, 18, 19, 20, 21, 22, 23, 24]⟩, ⟨(some 107), (.bin .eql (.t 106) (.c (.i .i64 7))), (some (105, false)), 26, [0, 1, 2, 3, 4, 5, 6, 7, 8, 9, 10, 11, 12, 13, 14, 15, 16, 17, 18, 19, 20, 21, 22, 23, 24, 25]⟩, ⟨(some 108), (.pick (.t 105) (.c (.b true)) (.t 107)), (some (103, true)), 27, [0, 1, 2, 3, 4, 5, 6, 7, 8, 9, 10, 11, 12, 13, 14, 15, 16, 17, 18, 19, 20, 21, 22, 23, 24, 25, 26]⟩, ⟨(some 109), (.pick (.t 103) (.t 108) (.c (.b false))), none, 28, [0, 1, 2, 3, 4, 5, 6, 7, 8, 9, 10, 11, 12, 13, 14, 15, 16, 17, 18, 19, 20, 21, 22, 23, 24, 25, 26, 27]⟩, ⟨(some 6), (.mv (.t 109)), none, 29, [0, 1, 2, 3, 4, 5, 6, 7, 8, 9, 10, 11, 12, 13, 14, 15, 16, 17, 18, 19, 20, 21, 22, 23, 24, 25, 26, 27, 28]⟩])
  .ret))))))))
def x5 : XFun := ⟨x5b, [(.t 6)]⟩
theorem x5_ok : compF Try.prog 5 = some x5 := by kernel_rfl
/-- bollard/bollardlaw09.CookieOnly (49) -/
def x6b : XC := (.seq (.region [⟨(some 4), (.mv (.c (.b false))), none, 0, []⟩])
  (.seq (.region [⟨(some 10), (.call (.c (.fn (.func 9) [] [])) []), none, 0, []⟩, ⟨(some 5), (.mv (.t 10)), none, 1, []⟩])
  (.seq (.seq (.region [⟨(some 11), (.mv (.t 0)), none, 0, []⟩, ⟨(some 12), (.lenx (.t 11)), none, 1, []⟩, ⟨(some 13), (.bin .gtr (.t 12) (.c (.i .i64 300))), none, 2, []⟩, ⟨(some 14), (.mv (.t 13)), none, 3, []⟩, ⟨(some 15), (.mv (.t 1)), (some (14, false)), 4, []⟩, ⟨(some 16), (.lenx (.t 15)), (some (14, false)), 5, []⟩, ⟨(some 17), (.bin .gtr (.t 16) (.c (.i .i64 300))), (some (14, false)), 6, []⟩, ⟨(some 18), (.pick (.t 14) (.c (.b true)) (.t 17)), none, 7, []⟩])
  (.cond (.t 18) (.seq (.region [⟨(some 19), (.mv (.t 5)), none, 0, []⟩, ⟨(some 4), (.mv (.t 19)), none, 1, []⟩])
  .ret) .skip))
  (.seq (.region [⟨(some 21), (.mv (.t 0)), none, 0, []⟩, ⟨(some 22), (.mv (.t 1)), none, 1, []⟩, ⟨(some 23), (.call (.c (.fn (.func 14) [] [])) [(.t 21), (.t 22)]), none, 2, []⟩, ⟨(some 20), (.mv (.t 23)), none, 3, []⟩, ⟨(some 24), (.ext (.t 20) 0), none, 4, []⟩, ⟨(some 25), (.ext (.t 20) 1), none, 5, []⟩, ⟨(some 6), (.alloc [(.i .i64 0), (.i .i64 0), (.i .u32 0), (.i .u32 0), (.i .u32 0), (.i .u32 0), (.i .u32 0), (.i .u16 0), (.i .u16 0), (.i .u32 0), (.i .u32 0)]), none, 6, []⟩, ⟨none, (.store 11 (.t 6) (.t 24)), none, 7, []⟩, ⟨(some 7), (.mv (.t 25)), none, 8, []⟩])
  (.seq (.seq (.region [⟨(some 26), (.mv (.t 7)), none, 0, []⟩, ⟨(some 27), (.bin .neq (.t 26) (.c (.i .i64 0))), none, 1, []⟩])
  (.cond (.t 27) (.seq (.region [⟨(some 28), (.mv (.t 5)), none, 0, []⟩, ⟨(some 29), (.mv (.t 28)), none, 1, []⟩, ⟨(some 30), (.load true 11 (.t 6)), (some (29, true)), 2, []⟩, ⟨(some 31), (.build [(.i .i64 0), (.i .i64 0), (.i .i64 0), (.i .i64 0), (.i .i64 0), (.i .i64 0), (.i .i64 0), (.i .i64 0), (.i .i64 0), (.i .i64 0), (.i .i64 0)] []), (some (29, true)), 3, []⟩, ⟨(some 32), (.call (.c (.fn (.func 18) [] [])) [(.t 30), (.t 31)]), (some (29, true)), 4, []⟩, ⟨(some 33), (.pick (.t 29) (.t 32) (.c (.b false))), none, 5, []⟩, ⟨(some 4), (.mv (.t 33)), none, 6, []⟩])
  .ret) .skip))
  (.seq (.region [⟨(some 35), (.mv (.t 0)), none, 0, []⟩, ⟨(some 36), (.load true 11 (.t 6)), none, 1, []⟩, ⟨(some 37), (.call (.c (.fn (.func 10) [] [])) [(.t 35), (.t 36)]), none, 2, []⟩, ⟨(some 34), (.mv (.t 37)), none, 3, []⟩, ⟨(some 38), (.ext (.t 34) 0), none, 4, []⟩, ⟨(some 39), (.ext (.t 34) 1), none, 5, []⟩, ⟨(some 8), (.mv (.t 38)), none, 6, []⟩, ⟨(some 9), (.mv (.t 39)), none, 7, []⟩])
  (.seq (.region [⟨(some 40), (.mv (.t 5)), none, 0, []⟩, ⟨(some 41), (.mv (.t 40)), none, 1, []⟩, ⟨(some 42), (.mv (.t 9)), (some (41, true)), 2, []⟩, ⟨(some 43), (.pick (.t 41) (.t 42) (.c (.b false))), none, 3, []⟩, ⟨(some 44), (.mv (.t 43)), none, 4, []⟩, ⟨(some 45), (.mv (.t 1)), (some (44, true)), 5, []⟩, ⟨(some 46), (.mv (.t 8)), (some (44, true)), 6, []⟩, ⟨(some 47), (.call (.c (.fn (.func 13) [] [])) [(.t 45), (.t 46)]), (some (44, true)), 7, []⟩, ⟨(some 48), (.pick (.t 44) (.t 47) (.c (.b false))), none, 8, []⟩, ⟨(some 4), (.mv (.t 48)), none, 9, []⟩])
  .ret)))))))
def x6 : XFun := ⟨x6b, [(.t 4)]⟩
theorem x6_ok : compF Try.prog 6 = some x6 := by kernel_rfl
/-- bollard/bollardlaw09.CookieCodes (105) -/
def x7b : XC := (.seq (.region [⟨(some 3), (.box (.t 0)), none, 0, []⟩, ⟨(some 6), (.mv (.c (.b false))), none, 1, []⟩])
  (.seq (.region [⟨(some 18), (.call (.c (.fn (.func 9) [] [])) []), none, 0, []⟩, ⟨(some 7), (.mv (.t 18)), none, 1, []⟩])
  (.seq (.draw [⟨(some 21), (.load true 11 (.t 3)), none, 1, []⟩, ⟨(some 20), (.call (.c (.fn (.func 19) [] [])) []), none, 0, []⟩, ⟨(some 22), (.call (.c (.fn (.func 10) [] [])) [(.t 20), (.t 21)]), none, 2, [0, 1]⟩, ⟨(some 19), (.mv (.t 22)), none, 3, [0, 1, 2]⟩, ⟨(some 23), (.ext (.t 19) 0), none, 4, [0, 1, 2, 3]⟩, ⟨(some 24), (.ext (.t 19) 1), none, 5, [0, 1, 2, 3]⟩, ⟨(some 8), (.mv (.t 23)), none, 6, [0, 1, 2, 3, 4]⟩, ⟨(some 9), (.mv (.t 24)), none, 7, [0, 1, 2, 3, 4, 5, 6]⟩])
  (.seq (.seq (.region [⟨(some 25), (.mv (.t 9)), none, 0, []⟩, ⟨(some 26), (.unx .not (.t 25)), none, 1, []⟩, ⟨(some 27), (.mv (.t 26)), none, 2, []⟩, ⟨(some 28), (.mv (.t 8)), (some (27, false)), 3, []⟩, ⟨(some 29), (.lenx (.t 28)), (some (27, false)), 4, []⟩, ⟨(some 30), (.bin .neq (.t 29) (.c (.i .i64 60))), (some (27, false)), 5, []⟩, ⟨(some 31), (.pick (.t 27) (.c (.b true)) (.t 30)), none, 6, []⟩])
  (.cond (.t 31) (.seq (.region [⟨(some 32), (.mv (.t 7)), none, 0, []⟩, ⟨(some 33), (.mv (.t 32)), none, 1, []⟩, ⟨(some 34), (.mv (.t 9)), (some (33, true)), 2, []⟩, ⟨(some 35), (.unx .not (.t 34)), (some (33, true)), 3, []⟩, ⟨(some 36), (.pick (.t 33) (.t 35) (.c (.b false))), none, 4, []⟩, ⟨(some 6), (.mv (.t 36)), none, 5, []⟩])
  .ret) .skip))
  (.seq (.region [⟨(some 37), (.bslice [] [] 0), none, 0, []⟩, ⟨(some 38), (.mv (.t 8)), none, 1, []⟩, ⟨(some 39), (.append 1 1 (.t 37) (.t 38)), none, 2, []⟩, ⟨(some 10), (.mv (.t 39)), none, 3, []⟩])
  (.seq (.region [⟨(some 40), (.mv (.t 1)), none, 0, []⟩, ⟨(some 41), (.bin .and (.t 40) (.c (.i .i64 7))), none, 1, []⟩, ⟨(some 11), (.mv (.t 41)), none, 2, []⟩])
  (.seq (.region [⟨(some 42), (.mv (.t 10)), none, 0, []⟩, ⟨(some 43), (.mv (.t 11)), none, 1, []⟩, ⟨(some 44), (.bin .add (.c (.i .i64 48)) (.t 43)), none, 2, []⟩, ⟨(some 45), (.mv (.t 10)), none, 3, []⟩, ⟨(some 46), (.mv (.t 11)), none, 4, []⟩, ⟨(some 47), (.bin .add (.c (.i .i64 48)) (.t 46)), none, 5, []⟩, ⟨(some 48), (.isl 1 (.t 45) (.t 47)), none, 6, []⟩, ⟨(some 49), (.load false 1 (.t 48)), none, 7, []⟩, ⟨(some 50), (.mv (.t 2)), none, 8, []⟩, ⟨(some 51), (.bin .xor (.t 49) (.t 50)), none, 9, []⟩, ⟨(some 52), (.isl 1 (.t 42) (.t 44)), none, 10, []⟩, ⟨none, (.store 1 (.t 52) (.t 51)), none, 11, []⟩])
  (.seq (.region [⟨(some 54), (.call (.c (.fn (.func 19) [] [])) []), none, 0, []⟩, ⟨(some 55), (.mv (.t 10)), none, 1, []⟩, ⟨(some 56), (.call (.c (.fn (.func 14) [] [])) [(.t 54), (.t 55)]), none, 2, []⟩, ⟨(some 53), (.mv (.t 56)), none, 3, []⟩, ⟨(some 57), (.ext (.t 53) 0), none, 4, []⟩, ⟨(some 58), (.ext (.t 53) 1), none, 5, []⟩, ⟨(some 12), (.alloc [(.i .i64 0), (.i .i64 0), (.i .u32 0), (.i .u32 0), (.i .u32 0), (.i .u32 0), (.i .u32 0), (.i .u16 0), (.i .u16 0), (.i .u32 0), (.i .u32 0)]), none, 6, []⟩, ⟨none, (.store 11 (.t 12) (.t 57)), none, 7, []⟩, ⟨(some 13), (.mv (.t 58)), none, 8, []⟩])
  (.seq (.draw [⟨(some 61), (.mv (.t 8)), none, 1, []⟩, ⟨(some 62), (.mv (.t 1)), none, 2, []⟩, ⟨(some 63), (.bin .and (.t 62) (.c (.i .i64 65535))), none, 3, [2]⟩, ⟨(some 64), (.bin .rem (.t 63) (.c (.i .i64 60))), none, 4, [2, 3]⟩, ⟨(some 65), (.slsl 1 (.t 61) none (some (.t 64)) none), none, 5, [1, 2, 3, 4]⟩, ⟨(some 60), (.call (.c (.fn (.func 19) [] [])) []), none, 0, []⟩, ⟨(some 66), (.call (.c (.fn (.func 14) [] [])) [(.t 60), (.t 65)]), none, 6, [0, 1, 2, 3, 4, 5]⟩, ⟨(some 59), (.mv (.t 66)), none, 7, [0, 1, 2, 3, 4, 5, 6]⟩, ⟨(some 67), (.ext (.t 59) 0), none, 8, [0, 1, 2, 3, 4, 5, 6, 7]⟩, ⟨(some 68), (.ext (.t 59) 1), none, 9, [0, 1, 2, 3, 4, 5, 6, 7]⟩, ⟨(some 14), (.alloc [(.i .i64 0), (.i .i64 0), (.i .u32 0), (.i .u32 0), (.i .u32 0), (.i .u32 0), (.i .u32 0), (.i .u16 0), (.i .u16 0), (.i .u32 0), (.i .u32 0)]), none, 10, []⟩, ⟨none, (.store 11 (.t 14) (.t 67)), none, 11, [0, 1, 2, 3, 4, 5, 6, 7, 8, 10]⟩, ⟨(some 15), (.mv (.t 68)), none, 12, [0, 1, 2, 3, 4, 5, 6, 7, 8, 9, 10, 11]⟩])
  (.seq (.region [⟨(some 70), (.call (.c (.fn (.func 19) [] [])) []), none, 0, []⟩, ⟨(some 71), (.bslice [] [] 0), none, 1, []⟩, ⟨(some 72), (.mv (.t 8)), none, 2, []⟩, ⟨(some 73), (.append 1 1 (.t 71) (.t 72)), none, 3, []⟩, ⟨(some 74), (.mv (.t 2)), none, 4, []⟩, ⟨(some 75), (.bslice [(.i .u8 0)] [(0, 1, (.t 74))] 1), none, 5, []⟩, ⟨(some 76), (.append 1 1 (.t 73) (.t 75)), none, 6, []⟩, ⟨(some 77), (.call (.c (.fn (.func 14) [] [])) [(.t 70), (.t 76)]), none, 7, []⟩, ⟨(some 69), (.mv (.t 77)), none, 8, []⟩, ⟨(some 78), (.ext (.t 69) 0), none, 9, []⟩, ⟨(some 79), (.ext (.t 69) 1), none, 10, []⟩, ⟨(some 16), (.alloc [(.i .i64 0), (.i .i64 0), (.i .u32 0), (.i .u32 0), (.i .u32 0), (.i .u32 0), (.i .u32 0), (.i .u16 0), (.i .u16 0), (.i .u32 0), (.i .u32 0)]), none, 11, []⟩, ⟨none, (.store 11 (.t 16) (.t 78)), none, 12, []⟩, ⟨(some 17), (.mv (.t 79)), none, 13, []⟩])
  (.seq (.region [⟨(some 80), (.mv (.t 7)), none, 0, []⟩, ⟨(some 81), (.mv (.t 80)), none, 1, []⟩, ⟨(some 82), (.mv (.t 2)), (some (81, true)), 2, []⟩, ⟨(some 83), (.bin .eql (.t 82) (.c (.i .u8 0))), (some (81, true)), 3, []⟩, ⟨(some 84), (.mv (.t 83)), (some (81, true)), 4, []⟩, ⟨(some 85), (.mv (.t 13)), (some (84, true)), 5, []⟩, ⟨(some 86), (.bin .eql (.t 85) (.c (.i .i64 0))), (some (84, true)), 6, []⟩, ⟨(some 87), (.pick (.t 84) (.t 86) (.c (.b false))), (some (81, true)), 7, []⟩, ⟨(some 88), (.mv (.t 87)), (some (81, true)), 8, []⟩, ⟨(some 89), (.mv (.t 2)), (some (88, false)), 9, []⟩, ⟨(some 90), (.bin .neq (.t 89) (.c (.i .u8 0))), (some (88, false)), 10, []⟩, ⟨(some 91), (.mv (.t 90)), (some (88, false)), 11, []⟩, ⟨(some 92), (.mv (.t 13)), (some (91, true)), 12, []⟩, ⟨(some 93), (.bin .eql (.t 92) (.c (.i .i64 6))), (some (91, true)), 13, []⟩, ⟨(some 94), (.pick (.t 91) (.t 93) (.c (.b false))), (some (88, false)), 14, []⟩, ⟨(some 95), (.pick (.t 88) (.c (.b true)) (.t 94)), (some (81, true)), 15, []⟩, ⟨(some 96), (.pick (.t 81) (.t 95) (.c (.b false))), none, 16, []⟩, ⟨(some 97), (.mv (.t 96)), none, 17, []⟩, ⟨(some 98), (.mv (.t 15)), (some (97, true)), 18, []⟩, ⟨(some 99), (.bin .eql (.t 98) (.c (.i .i64 2))), (some (97, true)), 19, []⟩, ⟨(some 100), (.pick (.t 97) (.t 99) (.c (.b false))), none, 20, []⟩, ⟨(some 101), (.mv (.t 100)), none, 21, []⟩, ⟨(some 102), (.mv (.t 17)), (some (101, true)), 22, []⟩, ⟨(some 103), (.bin .eql (.t 102) (.c (.i .i64 3))), (some (101, true)), 23, []⟩, ⟨(some 104), (.pick (.t 101) (.t 103) (.c (.b false))), none, 24, []⟩, ⟨(some 6), (.mv (.t 104)), none, 25, []⟩])
  .ret)))))))))))
def x7 : XFun := ⟨x7b, [(.t 6)]⟩
theorem x7_ok : compF Try.prog 7 = some x7 := by kernel_rfl
/-- bollard/bollardlaw09.CookieKeys (107) -/
def x8b : XC := (.seq (.region [⟨(some 4), (.box (.t 1)), none, 0, []⟩, ⟨(some 6), (.mv (.c (.b false))), none, 1, []⟩])
  (.seq (.region [⟨(some 16), (.call (.c (.fn (.func 9) [] [])) []), none, 0, []⟩, ⟨(some 7), (.mv (.t 16)), none, 1, []⟩])
  (.seq (.seq (.region [⟨(some 17), (.mv (.t 0)), none, 0, []⟩, ⟨(some 18), (.lenx (.t 17)), none, 1, []⟩, ⟨(some 19), (.bin .neq (.t 18) (.c (.i .i64 16))), none, 2, []⟩])
  (.cond (.t 19) (.seq (.region [⟨(some 20), (.mv (.t 7)), none, 0, []⟩, ⟨(some 6), (.mv (.t 20)), none, 1, []⟩])
  .ret) .skip))
  (.seq (.region [⟨(some 21), (.bslice [] [] 0), none, 0, []⟩, ⟨(some 22), (.mv (.t 0)), none, 1, []⟩, ⟨(some 23), (.append 1 1 (.t 21) (.t 22)), none, 2, []⟩, ⟨(some 8), (.mv (.t 23)), none, 3, []⟩])
  (.seq (.region [⟨(some 24), (.mv (.t 2)), none, 0, []⟩, ⟨(some 25), (.bin .and (.t 24) (.c (.i .i64 127))), none, 1, []⟩, ⟨(some 9), (.mv (.t 25)), none, 2, []⟩])
  (.seq (.region [⟨(some 26), (.mv (.t 8)), none, 0, []⟩, ⟨(some 27), (.mv (.t 9)), none, 1, []⟩, ⟨(some 28), (.bin .quo (.t 27) (.c (.i .i64 8))), none, 2, []⟩, ⟨(some 29), (.mv (.t 8)), none, 3, []⟩, ⟨(some 30), (.mv (.t 9)), none, 4, []⟩, ⟨(some 31), (.bin .quo (.t 30) (.c (.i .i64 8))), none, 5, []⟩, ⟨(some 32), (.isl 1 (.t 29) (.t 31)), none, 6, []⟩, ⟨(some 33), (.load false 1 (.t 32)), none, 7, []⟩, ⟨(some 34), (.mv (.t 9)), none, 8, []⟩, ⟨(some 35), (.bin .rem (.t 34) (.c (.i .i64 8))), none, 9, []⟩, ⟨(some 36), (.cint .u64 (.t 35)), none, 10, []⟩, ⟨(some 37), (.bin .shl (.c (.i .u8 1)) (.t 36)), none, 11, []⟩, ⟨(some 38), (.bin .xor (.t 33) (.t 37)), none, 12, []⟩, ⟨(some 39), (.isl 1 (.t 26) (.t 28)), none, 13, []⟩, ⟨none, (.store 1 (.t 39) (.t 38)), none, 14, []⟩])
  (.seq (.region [⟨(some 41), (.mv (.t 0)), none, 0, []⟩, ⟨(some 42), (.load true 11 (.t 4)), none, 1, []⟩, ⟨(some 43), (.call (.c (.fn (.func 10) [] [])) [(.t 41), (.t 42)]), none, 2, []⟩, ⟨(some 40), (.mv (.t 43)), none, 3, []⟩, ⟨(some 44), (.ext (.t 40) 0), none, 4, []⟩, ⟨(some 45), (.ext (.t 40) 1), none, 5, []⟩, ⟨(some 10), (.mv (.t 44)), none, 6, []⟩, ⟨(some 11), (.mv (.t 45)), none, 7, []⟩])
  (.seq (.region [⟨(some 47), (.mv (.t 8)), none, 0, []⟩, ⟨(some 48), (.load true 11 (.t 4)), none, 1, []⟩, ⟨(some 49), (.call (.c (.fn (.func 10) [] [])) [(.t 47), (.t 48)]), none, 2, []⟩, ⟨(some 46), (.mv (.t 49)), none, 3, []⟩, ⟨(some 50), (.ext (.t 46) 0), none, 4, []⟩, ⟨(some 51), (.ext (.t 46) 1), none, 5, []⟩, ⟨(some 12), (.mv (.t 50)), none, 6, []⟩, ⟨(some 13), (.mv (.t 51)), none, 7, []⟩])
  (.seq (.seq (.region [⟨(some 52), (.mv (.t 11)), none, 0, []⟩, ⟨(some 53), (.unx .not (.t 52)), none, 1, []⟩, ⟨(some 54), (.mv (.t 53)), none, 2, []⟩, ⟨(some 55), (.mv (.t 13)), (some (54, false)), 3, []⟩, ⟨(some 56), (.unx .not (.t 55)), (some (54, false)), 4, []⟩, ⟨(some 57), (.pick (.t 54) (.c (.b true)) (.t 56)), none, 5, []⟩, ⟨(some 58), (.mv (.t 57)), none, 6, []⟩, ⟨(some 59), (.mv (.t 10)), (some (58, false)), 7, []⟩, ⟨(some 60), (.lenx (.t 59)), (some (58, false)), 8, []⟩, ⟨(some 61), (.bin .neq (.t 60) (.c (.i .i64 60))), (some (58, false)), 9, []⟩, ⟨(some 62), (.pick (.t 58) (.c (.b true)) (.t 61)), none, 10, []⟩, ⟨(some 63), (.mv (.t 62)), none, 11, []⟩, ⟨(some 64), (.mv (.t 12)), (some (63, false)), 12, []⟩, ⟨(some 65), (.lenx (.t 64)), (some (63, false)), 13, []⟩, ⟨(some 66), (.bin .neq (.t 65) (.c (.i .i64 60))), (some (63, false)), 14, []⟩, ⟨(some 67), (.pick (.t 63) (.c (.b true)) (.t 66)), none, 15, []⟩])
  (.cond (.t 67) (.seq (.region [⟨(some 68), (.mv (.t 7)), none, 0, []⟩, ⟨(some 69), (.mv (.t 68)), none, 1, []⟩, ⟨(some 70), (.mv (.t 11)), (some (69, true)), 2, []⟩, ⟨(some 71), (.mv (.t 13)), (some (69, true)), 3, []⟩, ⟨(some 72), (.beq false (.t 70) (.t 71)), (some (69, true)), 4, []⟩, ⟨(some 73), (.pick (.t 69) (.t 72) (.c (.b false))), none, 5, []⟩, ⟨(some 74), (.mv (.t 73)), none, 6, []⟩, ⟨(some 75), (.mv (.t 11)), (some (74, true)), 7, []⟩, ⟨(some 76), (.unx .not (.t 75)), (some (74, true)), 8, []⟩, ⟨(some 77), (.pick (.t 74) (.t 76) (.c (.b false))), none, 9, []⟩, ⟨(some 6), (.mv (.t 77)), none, 10, []⟩])
  .ret) .skip))
  (.seq (.region [⟨(some 79), (.mv (.t 0)), none, 0, []⟩, ⟨(some 80), (.mv (.t 12)), none, 1, []⟩, ⟨(some 81), (.call (.c (.fn (.func 14) [] [])) [(.t 79), (.t 80)]), none, 2, []⟩, ⟨(some 78), (.mv (.t 81)), none, 3, []⟩, ⟨(some 82), (.ext (.t 78) 0), none, 4, []⟩, ⟨(some 83), (.ext (.t 78) 1), none, 5, []⟩, ⟨(some 14), (.alloc [(.i .i64 0), (.i .i64 0), (.i .u32 0), (.i .u32 0), (.i .u32 0), (.i .u32 0), (.i .u32 0), (.i .u16 0), (.i .u16 0), (.i .u32 0), (.i .u32 0)]), none, 6, []⟩, ⟨none, (.store 11 (.t 14) (.t 82)), none, 7, []⟩, ⟨(some 15), (.mv (.t 83)), none, 8, []⟩])
  (.seq (.draw [⟨(some 84), (.mv (.t 7)), none, 0, []⟩, ⟨(some 85), (.mv (.t 84)), none, 1, [0]⟩, ⟨(some 86), (.mv (.t 10)), (some (85, true)), 2, [0, 1]⟩, ⟨(some 87), (.slsl 1 (.t 86) none (some (.c (.i .i64 48))) none), (some (85, true)), 3, [0, 1, 2]⟩, ⟨(some 88), (.mv (.t 12)), (some (85, true)), 4, [0, 1]⟩, ⟨(some 89), (.slsl 1 (.t 88) none (some (.c (.i .i64 48))) none), (some (85, true)), 5, [0, 1, 4]⟩, ⟨(some 90), (.call (.c (.fn (.func 13) [] [])) [(.t 87), (.t 89)]), (some (85, true)), 6, [0, 1, 2, 3, 4, 5]⟩, ⟨(some 91), (.pick (.t 85) (.t 90) (.c (.b false))), none, 7, [0, 1, 2, 3, 4, 5, 6]⟩, ⟨(some 92), (.mv (.t 91)), none, 8, [0, 1, 2, 3, 4, 5, 6, 7]⟩, ⟨(some 93), (.mv (.t 10)), (some (92, true)), 9, [0, 1, 2, 3, 4, 5, 6, 7, 8]⟩, ⟨(some 94), (.slsl 1 (.t 93) (some (.c (.i .i64 56))) none none), (some (92, true)), 10, [0, 1, 2, 3, 4, 5, 6, 7, 8, 9]⟩, ⟨(some 95), (.mv (.t 12)), (some (92, true)), 11, [0, 1, 2, 3, 4, 5, 6, 7, 8]⟩, ⟨(some 96), (.slsl 1 (.t 95) (some (.c (.i .i64 56))) none none), (some (92, true)), 12, [0, 1, 2, 3, 4, 5, 6, 7, 8, 11]⟩, ⟨(some 97), (.call (.c (.fn (.func 13) [] [])) [(.t 94), (.t 96)]), (some (92, true)), 13, [0, 1, 2, 3, 4, 5, 6, 7, 8, 9, 10, 11, 12]⟩, ⟨(some 98), (.pick (.t 92) (.t 97) (.c (.b false))), none, 14, [0, 1, 2, 3, 4, 5, 6, 7, 8, 9, 10, 11, 12, 13]⟩, ⟨(some 99), (.mv (.t 98)), none, 15, [0, 1, 2, 3, 4, 5, 6, 7, 8, 9, 10, 11, 12, 13, 14]⟩, ⟨(some 100), (.mv (.t 15)), (some (99, true)), 16, [0, 1, 2, 3, 4, 5, 6, 7, 8, 9, 10, 11, 12, 13, 14, 15]⟩, ⟨(some 101), (.bin .eql (.t 100) (.c (.i .i64 0))), (some (99, true)), 17, [0, 1, 2, 3, 4, 5, 6, 7, 8, 9, 10, 11, 12, 13, 14, 15, 16]⟩, ⟨(some 102), (.mv (.t 10)), (some (99, true)), 18, [0, 1, 2, 3, 4, 5, 6, 7, 8, 9, 10, 11, 12, 13, 14, 15]⟩, ⟨(some 103), (.mv (.t 12)), (some (99, true)), 19, [0, 1, 2, 3, 4, 5, 6, 7, 8, 9, 10, 11, 12, 13, 14, 15]⟩, ⟨(some 104), (.call (.c (.fn (.func 13) [] [])) [(.t 102), (.t 103)]), (some (99, true)), 20, [0, 1, 2, 3, 4, 5, 6, 7, 8, 9, 10, 11, 12, 13, 14, 15, 18, 19]⟩, ⟨(some 105), (.beq false (.t 101) (.t 104)), (some (99, true)), 21, [0, 1, 2, 3, 4, 5, 6, 7, 8, 9, 10, 11, 12, 13, 14, 15, 16, 17, 18, 19, 20]⟩, ⟨(some 106), (.pick (.t 99) (.t 105) (.c (.b false))), none, 22, [0, 1, 2, 3, 4, 5, 6, 7, 8, 9, 10, 11, 12, 13, 14, 15, 16, 17, 18, 19, 20, 21]⟩, ⟨(some 6), (.mv (.t 106)), none, 23, [0, 1, 2, 3, 4, 5, 6, 7, 8, 9, 10, 11, 12, 13, 14, 15, 16, 17, 18, 19, 20, 21, 22]⟩])
  .ret)))))))))))
def x8 : XFun := ⟨x8b, [(.t 6)]⟩
theorem x8_ok : compF Try.prog 8 = some x8 := by kernel_rfl
/-- bollard/bollardlaw09.awake (56) -/
def x9b : XC := (.seq (.region [⟨(some 0), (.mv (.c (.b false))), none, 0, []⟩])
  (.seq (.region [⟨(some 8), (.build [(.i .i64 0), (.i .i64 0), (.i .u32 0), (.i .u32 0), (.i .u32 0), (.i .u32 0), (.i .u32 0), (.i .u16 0), (.i .u16 0), (.i .u32 0), (.i .u32 0)] [(0, 1, (.c (.i .i64 5))), (1, 1, (.c (.i .i64 10))), (2, 1, (.c (.i .u32 7))), (8, 1, (.c (.i .u16 3)))]), none, 0, []⟩, ⟨(some 1), (.alloc [(.i .i64 0), (.i .i64 0), (.i .u32 0), (.i .u32 0), (.i .u32 0), (.i .u32 0), (.i .u32 0), (.i .u16 0), (.i .u16 0), (.i .u32 0), (.i .u32 0)]), none, 1, []⟩, ⟨none, (.store 11 (.t 1) (.t 8)), none, 2, []⟩])
  (.seq (.draw [⟨(some 11), (.load true 11 (.t 1)), none, 1, []⟩, ⟨(some 10), (.call (.c (.fn (.func 19) [] [])) []), none, 0, []⟩, ⟨(some 12), (.call (.c (.fn (.func 10) [] [])) [(.t 10), (.t 11)]), none, 2, [0, 1]⟩, ⟨(some 9), (.mv (.t 12)), none, 3, [0, 1, 2]⟩, ⟨(some 13), (.ext (.t 9) 0), none, 4, [0, 1, 2, 3]⟩, ⟨(some 14), (.ext (.t 9) 1), none, 5, [0, 1, 2, 3]⟩, ⟨(some 2), (.mv (.t 13)), none, 6, [0, 1, 2, 3, 4]⟩, ⟨(some 3), (.mv (.t 14)), none, 7, [0, 1, 2, 3, 4, 5, 6]⟩])
  (.seq (.region [⟨(some 16), (.call (.c (.fn (.func 19) [] [])) []), none, 0, []⟩, ⟨(some 17), (.mv (.t 2)), none, 1, []⟩, ⟨(some 18), (.call (.c (.fn (.func 16) [] [])) [(.t 16), (.t 17), (.c (.i .i64 15))]), none, 2, []⟩, ⟨(some 15), (.mv (.t 18)), none, 3, []⟩, ⟨(some 19), (.ext (.t 15) 0), none, 4, []⟩, ⟨(some 20), (.ext (.t 15) 1), none, 5, []⟩, ⟨(some 4), (.alloc [(.i .i64 0), (.i .i64 0), (.i .u32 0), (.i .u32 0), (.i .u32 0), (.i .u32 0), (.i .u32 0), (.i .u16 0), (.i .u16 0), (.i .u32 0), (.i .u32 0)]), none, 6, []⟩, ⟨none, (.store 11 (.t 4) (.t 19)), none, 7, []⟩, ⟨(some 5), (.mv (.t 20)), none, 8, []⟩])
  (.seq (.region [⟨(some 22), (.call (.c (.fn (.func 19) [] [])) []), none, 0, []⟩, ⟨(some 23), (.mv (.t 2)), none, 1, []⟩, ⟨(some 24), (.call (.c (.fn (.func 16) [] [])) [(.t 22), (.t 23), (.c (.i .i64 16))]), none, 2, []⟩, ⟨(some 21), (.mv (.t 24)), none, 3, []⟩, ⟨(some 25), (.ext (.t 21) 0), none, 4, []⟩, ⟨(some 26), (.ext (.t 21) 1), none, 5, []⟩, ⟨(some 6), (.alloc [(.i .i64 0), (.i .i64 0), (.i .u32 0), (.i .u32 0), (.i .u32 0), (.i .u32 0), (.i .u32 0), (.i .u16 0), (.i .u16 0), (.i .u32 0), (.i .u32 0)]), none, 6, []⟩, ⟨none, (.store 11 (.t 6) (.t 25)), none, 7, []⟩, ⟨(some 7), (.mv (.t 26)), none, 8, []⟩])
  (.seq (.region [⟨(some 27), (.mv (.t 3)), none, 0, []⟩, ⟨(some 28), (.mv (.t 27)), none, 1, []⟩, ⟨(some 29), (.mv (.t 2)), (some (28, true)), 2, []⟩, ⟨(some 30), (.lenx (.t 29)), (some (28, true)), 3, []⟩, ⟨(some 31), (.bin .eql (.t 30) (.c (.i .i64 60))), (some (28, true)), 4, []⟩, ⟨(some 32), (.pick (.t 28) (.t 31) (.c (.b false))), none, 5, []⟩, ⟨(some 33), (.mv (.t 32)), none, 6, []⟩, ⟨(some 34), (.mv (.t 5)), (some (33, true)), 7, []⟩, ⟨(some 35), (.bin .eql (.t 34) (.c (.i .i64 0))), (some (33, true)), 8, []⟩, ⟨(some 36), (.pick (.t 33) (.t 35) (.c (.b false))), none, 9, []⟩, ⟨(some 37), (.mv (.t 36)), none, 10, []⟩, ⟨(some 38), (.fadd 2 (.t 4)), (some (37, true)), 11, []⟩, ⟨(some 39), (.load false 1 (.t 38)), (some (37, true)), 12, []⟩, ⟨(some 40), (.bin .eql (.t 39) (.c (.i .u32 7))), (some (37, true)), 13, []⟩, ⟨(some 41), (.pick (.t 37) (.t 40) (.c (.b false))), none, 14, []⟩, ⟨(some 42), (.mv (.t 41)), none, 15, []⟩, ⟨(some 43), (.fadd 8 (.t 4)), (some (42, true)), 16, []⟩, ⟨(some 44), (.load false 1 (.t 43)), (some (42, true)), 17, []⟩, ⟨(some 45), (.bin .eql (.t 44) (.c (.i .u16 3))), (some (42, true)), 18, []⟩, ⟨(some 46), (.pick (.t 42) (.t 45) (.c (.b false))), none, 19, []⟩, ⟨(some 47), (.mv (.t 46)), none, 20, []⟩, ⟨(some 48), (.fadd 0 (.t 4)), (some (47, true)), 21, []⟩, ⟨(some 49), (.load false 1 (.t 48)), (some (47, true)), 22, []⟩, ⟨(some 50), (.bin .eql (.t 49) (.c (.i .i64 5))), (some (47, true)), 23, []⟩, ⟨(some 51), (.pick (.t 47) (.t 50) (.c (.b false))), none, 24, []⟩, ⟨(some 52), (.mv (.t 51)), none, 25, []⟩, ⟨(some 53), (.mv (.t 7)), (some (52, true)), 26, []⟩, ⟨(some 54), (.bin .eql (.t 53) (.c (.i .i64 7))), (some (52, true)), 27, []⟩, ⟨(some 55), (.pick (.t 52) (.t 54) (.c (.b false))), none, 28, []⟩, ⟨(some 0), (.mv (.t 55)), none, 29, []⟩])
  .ret))))))
def x9 : XFun := ⟨x9b, [(.t 0)]⟩
theorem x9_ok : compF Try.prog 9 = some x9 := by kernel_rfl
/-- bollard/cookie.Encode (38) -/
def x10b : XC := (.seq (.region [⟨(some 3), (.box (.t 1)), none, 0, []⟩, ⟨(some 4), (.mv (.c (.sl none 0 0 0))), none, 1, []⟩, ⟨(some 5), (.mv (.c (.b false))), none, 2, []⟩])
  (.seq (.seq (.region [⟨(some 10), (.mv (.t 0)), none, 0, []⟩, ⟨(some 11), (.lenx (.t 10)), none, 1, []⟩, ⟨(some 12), (.bin .neq (.t 11) (.c (.i .i64 16))), none, 2, []⟩, ⟨(some 13), (.mv (.t 12)), none, 3, []⟩, ⟨(some 14), (.load true 11 (.t 3)), (some (13, false)), 4, []⟩, ⟨(some 15), (.call (.c (.fn (.func 20) [] [])) [(.t 14)]), (some (13, false)), 5, []⟩, ⟨(some 16), (.unx .not (.t 15)), (some (13, false)), 6, []⟩, ⟨(some 17), (.pick (.t 13) (.c (.b true)) (.t 16)), none, 7, []⟩])
  (.cond (.t 17) (.seq (.region [⟨(some 4), (.mv (.c (.sl none 0 0 0))), none, 0, []⟩, ⟨(some 5), (.mv (.c (.b false))), none, 1, []⟩])
  .ret) .skip))
  (.seq (.region [⟨(some 6), (.alloc [(.sl none 0 0 0)]), none, 0, []⟩])
  (.seq (.seq (.region [⟨(some 18), (.call (.c (.fn (.func 21) [] [])) [(.t 3)]), none, 0, []⟩])
  (.block 0 (.rangeFn (.t 18) [19] (.region [⟨(some 7), (.mv (.t 19)), none, 0, []⟩]) (.block 1 (.region [⟨(some 20), (.load false 1 (.t 6)), none, 0, []⟩, ⟨(some 21), (.mv (.t 7)), none, 1, []⟩, ⟨(some 22), (.call (.c (.fn (.func 22) [] [])) [(.t 20), (.t 21)]), none, 2, []⟩, ⟨none, (.store 1 (.t 6) (.t 22)), none, 3, []⟩])))))
  (.seq (.region [⟨(some 24), (.mv (.t 0)), none, 0, []⟩, ⟨(some 25), (.load false 1 (.t 6)), none, 1, []⟩, ⟨(some 26), (.call (.c (.fn (.func 23) [] [])) [(.t 24), (.t 25)]), none, 2, []⟩, ⟨(some 23), (.mv (.t 26)), none, 3, []⟩, ⟨(some 27), (.ext (.t 23) 0), none, 4, []⟩, ⟨(some 28), (.ext (.t 23) 1), none, 5, []⟩, ⟨(some 8), (.mv (.t 27)), none, 6, []⟩, ⟨(some 9), (.mv (.t 28)), none, 7, []⟩])
  (.seq (.region [⟨(some 29), (.load false 1 (.t 6)), none, 0, []⟩, ⟨(some 30), (.mv (.t 8)), none, 1, []⟩, ⟨(some 31), (.bin .shr (.t 30) (.c (.i .u64 32))), none, 2, []⟩, ⟨(some 32), (.cint .u32 (.t 31)), none, 3, []⟩, ⟨(some 33), (.call (.c (.fn (.func 22) [] [])) [(.t 29), (.t 32)]), none, 4, []⟩, ⟨(some 34), (.mv (.t 8)), none, 5, []⟩, ⟨(some 35), (.cint .u32 (.t 34)), none, 6, []⟩, ⟨(some 36), (.call (.c (.fn (.func 22) [] [])) [(.t 33), (.t 35)]), none, 7, []⟩, ⟨(some 37), (.append 1 1 (.t 36) (.c (.s ⟨#[66, 79, 76, 49]⟩))), none, 8, []⟩, ⟨(some 4), (.mv (.t 37)), none, 9, []⟩, ⟨(some 5), (.mv (.c (.b true))), none, 10, []⟩])
  .ret))))))
def x10 : XFun := ⟨x10b, [(.t 4), (.t 5)]⟩
theorem x10_ok : compF Try.prog 10 = some x10 := by kernel_rfl
/-- bollard/bollardref09.Encode (51) -/
def x11b : XC := (.seq (.region [⟨(some 3), (.box (.t 1)), none, 0, []⟩, ⟨(some 4), (.mv (.c (.sl none 0 0 0))), none, 1, []⟩, ⟨(some 5), (.mv (.c (.b false))), none, 2, []⟩])
  (.seq (.seq (.region [⟨(some 9), (.mv (.t 0)), none, 0, []⟩, ⟨(some 10), (.lenx (.t 9)), none, 1, []⟩, ⟨(some 11), (.bin .neq (.t 10) (.c (.i .i64 16))), none, 2, []⟩, ⟨(some 12), (.mv (.t 11)), none, 3, []⟩, ⟨(some 13), (.iarr 11 1 (.t 3) (.c (.i .i64 0))), (some (12, false)), 4, []⟩, ⟨(some 14), (.load false 1 (.t 13)), (some (12, false)), 5, []⟩, ⟨(some 15), (.bin .lss (.t 14) (.c (.i .i64 0))), (some (12, false)), 6, []⟩, ⟨(some 16), (.pick (.t 12) (.c (.b true)) (.t 15)), none, 7, []⟩, ⟨(some 17), (.mv (.t 16)), none, 8, []⟩, ⟨(some 18), (.iarr 11 1 (.t 3) (.c (.i .i64 0))), (some (17, false)), 9, []⟩, ⟨(some 19), (.load false 1 (.t 18)), (some (17, false)), 10, []⟩, ⟨(some 20), (.bin .gtr (.t 19) (.c (.i .i64 281474976710656))), (some (17, false)), 11, []⟩, ⟨(some 21), (.pick (.t 17) (.c (.b true)) (.t 20)), none, 12, []⟩, ⟨(some 22), (.mv (.t 21)), none, 13, []⟩, ⟨(some 23), (.iarr 11 1 (.t 3) (.c (.i .i64 1))), (some (22, false)), 14, []⟩, ⟨(some 24), (.load false 1 (.t 23)), (some (22, false)), 15, []⟩, ⟨(some 25), (.bin .lss (.t 24) (.c (.i .i64 0))), (some (22, false)), 16, []⟩, ⟨(some 26), (.pick (.t 22) (.c (.b true)) (.t 25)), none, 17, []⟩, ⟨(some 27), (.mv (.t 26)), none, 18, []⟩, ⟨(some 28), (.iarr 11 1 (.t 3) (.c (.i .i64 1))), (some (27, false)), 19, []⟩, ⟨(some 29), (.load false 1 (.t 28)), (some (27, false)), 20, []⟩, ⟨(some 30), (.bin .gtr (.t 29) (.c (.i .i64 281474976710656))), (some (27, false)), 21, []⟩, ⟨(some 31), (.pick (.t 27) (.c (.b true)) (.t 30)), none, 22, []⟩])
  (.cond (.t 31) (.seq (.region [⟨(some 4), (.mv (.c (.sl none 0 0 0))), none, 0, []⟩, ⟨(some 5), (.mv (.c (.b false))), none, 1, []⟩])
  .ret) .skip))
  (.seq (.region [⟨(some 6), (.mv (.c (.sl none 0 0 0))), none, 0, []⟩])
  (.seq (.region [⟨(some 32), (.call (.c (.fn (.func 24) [] [])) []), none, 0, []⟩, ⟨(some 7), (.mv (.t 32)), none, 1, []⟩])
  (.seq (.seq (.region [⟨(some 8), (.mv (.c (.i .i64 0))), none, 0, []⟩])
  (.block 0 (.loop (.seq (.seq (.region [⟨(some 33), (.mv (.t 8)), none, 0, []⟩, ⟨(some 34), (.mv (.t 7)), none, 1, []⟩, ⟨(some 35), (.lenx (.t 34)), none, 2, []⟩, ⟨(some 36), (.bin .lss (.t 33) (.t 35)), none, 3, []⟩])
  (.cond (.t 36) .skip (.exit 0)))
  (.seq (.block 1 (.draw [⟨(some 39), (.mv (.t 6)), none, 0, []⟩, ⟨(some 40), (.mv (.t 8)), none, 1, []⟩, ⟨(some 41), (.iarr 11 1 (.t 3) (.t 40)), none, 2, [1]⟩, ⟨(some 43), (.mv (.t 7)), none, 4, []⟩, ⟨(some 44), (.mv (.t 8)), none, 5, []⟩, ⟨(some 45), (.isl 1 (.t 43) (.t 44)), none, 6, [4, 5]⟩, ⟨(some 42), (.load false 1 (.t 41)), none, 3, [1, 2]⟩, ⟨(some 46), (.load false 1 (.t 45)), none, 7, [4, 5, 6]⟩, ⟨(some 47), (.call (.c (.fn (.func 25) [] [])) [(.t 39), (.t 42), (.t 46)]), none, 8, [0, 1, 2, 3, 4, 5, 6, 7]⟩, ⟨(some 6), (.mv (.t 47)), none, 9, [0, 1, 2, 3, 4, 5, 6, 7, 8]⟩]))
  (.region [⟨(some 37), (.mv (.t 8)), none, 0, []⟩, ⟨(some 38), (.bin .add (.t 37) (.c (.i .i64 1))), none, 1, []⟩, ⟨(some 8), (.mv (.t 38)), none, 2, []⟩]))))))
  (.seq (.region [⟨(some 48), (.mv (.t 0)), none, 0, []⟩, ⟨(some 49), (.mv (.t 6)), none, 1, []⟩, ⟨(some 50), (.call (.c (.fn (.func 26) [] [])) [(.t 48), (.t 49)]), none, 2, []⟩, ⟨(some 4), (.mv (.t 50)), none, 3, []⟩, ⟨(some 5), (.mv (.c (.b true))), none, 4, []⟩])
  .ret))))))
def x11 : XFun := ⟨x11b, [(.t 4), (.t 5)]⟩
theorem x11_ok : compF Try.prog 11 = some x11 := by kernel_rfl
/-- bollard/bollardlaw09.theirs (37) -/
def x12b : XC := (.seq (.region [⟨(some 1), (.box (.t 0)), none, 0, []⟩, ⟨(some 2), (.alloc [(.i .i64 0), (.i .i64 0), (.i .i64 0), (.i .i64 0), (.i .i64 0), (.i .i64 0), (.i .i64 0), (.i .i64 0), (.i .i64 0), (.i .i64 0), (.i .i64 0)]), none, 1, []⟩])
  (.seq (.region [⟨(some 3), (.fadd 0 (.t 1)), none, 0, []⟩, ⟨(some 4), (.load false 1 (.t 3)), none, 1, []⟩, ⟨(some 5), (.fadd 1 (.t 1)), none, 2, []⟩, ⟨(some 6), (.load false 1 (.t 5)), none, 3, []⟩, ⟨(some 7), (.fadd 2 (.t 1)), none, 4, []⟩, ⟨(some 8), (.load false 1 (.t 7)), none, 5, []⟩, ⟨(some 9), (.cint .i64 (.t 8)), none, 6, []⟩, ⟨(some 10), (.fadd 3 (.t 1)), none, 7, []⟩, ⟨(some 11), (.load false 1 (.t 10)), none, 8, []⟩, ⟨(some 12), (.cint .i64 (.t 11)), none, 9, []⟩, ⟨(some 13), (.fadd 4 (.t 1)), none, 10, []⟩, ⟨(some 14), (.load false 1 (.t 13)), none, 11, []⟩, ⟨(some 15), (.cint .i64 (.t 14)), none, 12, []⟩, ⟨(some 16), (.fadd 5 (.t 1)), none, 13, []⟩, ⟨(some 17), (.load false 1 (.t 16)), none, 14, []⟩, ⟨(some 18), (.cint .i64 (.t 17)), none, 15, []⟩, ⟨(some 19), (.fadd 6 (.t 1)), none, 16, []⟩, ⟨(some 20), (.load false 1 (.t 19)), none, 17, []⟩, ⟨(some 21), (.cint .i64 (.t 20)), none, 18, []⟩, ⟨(some 22), (.fadd 9 (.t 1)), none, 19, []⟩, ⟨(some 23), (.iarr 2 1 (.t 22) (.c (.i .i64 0))), none, 20, []⟩, ⟨(some 24), (.load false 1 (.t 23)), none, 21, []⟩, ⟨(some 25), (.cint .i64 (.t 24)), none, 22, []⟩, ⟨(some 26), (.fadd 9 (.t 1)), none, 23, []⟩, ⟨(some 27), (.iarr 2 1 (.t 26) (.c (.i .i64 1))), none, 24, []⟩, ⟨(some 28), (.load false 1 (.t 27)), none, 25, []⟩, ⟨(some 29), (.cint .i64 (.t 28)), none, 26, []⟩, ⟨(some 30), (.fadd 7 (.t 1)), none, 27, []⟩, ⟨(some 31), (.load false 1 (.t 30)), none, 28, []⟩, ⟨(some 32), (.cint .i64 (.t 31)), none, 29, []⟩, ⟨(some 33), (.fadd 8 (.t 1)), none, 30, []⟩, ⟨(some 34), (.load false 1 (.t 33)), none, 31, []⟩, ⟨(some 35), (.cint .i64 (.t 34)), none, 32, []⟩, ⟨(some 36), (.build [(.i .i64 0), (.i .i64 0), (.i .i64 0), (.i .i64 0), (.i .i64 0), (.i .i64 0), (.i .i64 0), (.i .i64 0), (.i .i64 0), (.i .i64 0), (.i .i64 0)] [(0, 1, (.t 4)), (1, 1, (.t 6)), (2, 1, (.t 9)), (3, 1, (.t 12)), (4, 1, (.t 15)), (5, 1, (.t 18)), (6, 1, (.t 21)), (7, 1, (.t 25)), (8, 1, (.t 29)), (9, 1, (.t 32)), (10, 1, (.t 35))]), none, 33, []⟩, ⟨none, (.store 11 (.t 2) (.t 36)), none, 34, []⟩])
  .ret))
def x12 : XFun := ⟨x12b, [(.cell 2 true 11)]⟩
theorem x12_ok : compF Try.prog 12 = some x12 := by kernel_rfl
/-- bollard/bollardlaw09.same (10) -/
def x13b : XC := (.seq (.region [⟨(some 4), (.mv (.c (.b false))), none, 0, []⟩])
  (.seq (.region [⟨(some 5), (.mv (.t 0)), none, 0, []⟩, ⟨(some 6), (.cb2s (.t 5)), none, 1, []⟩, ⟨(some 7), (.mv (.t 1)), none, 2, []⟩, ⟨(some 8), (.cb2s (.t 7)), none, 3, []⟩, ⟨(some 9), (.bin .eql (.t 6) (.t 8)), none, 4, []⟩, ⟨(some 4), (.mv (.t 9)), none, 5, []⟩])
  .ret))
def x13 : XFun := ⟨x13b, [(.t 4)]⟩
theorem x13_ok : compF Try.prog 13 = some x13 := by kernel_rfl
/-- bollard/cookie.Decode (107) -/
def x14b : XC := (.seq (.region [⟨(some 4), (.alloc [(.i .i64 0), (.i .i64 0), (.i .u32 0), (.i .u32 0), (.i .u32 0), (.i .u32 0), (.i .u32 0), (.i .u16 0), (.i .u16 0), (.i .u32 0), (.i .u32 0)]), none, 0, []⟩, ⟨(some 5), (.mv (.c (.i .i64 0))), none, 1, []⟩])
  (.seq (.block 0 (.seq (.region [⟨(some 15), (.mv (.t 0)), none, 0, []⟩, ⟨(some 16), (.lenx (.t 15)), none, 1, []⟩, ⟨(some 17), (.bin .neq (.t 16) (.c (.i .i64 16))), none, 2, []⟩, ⟨(some 14), (.mv (.t 17)), none, 3, []⟩])
  (.cond (.t 14) (.seq (.region [⟨(some 18), (.build [(.i .i64 0), (.i .i64 0), (.i .u32 0), (.i .u32 0), (.i .u32 0), (.i .u32 0), (.i .u32 0), (.i .u16 0), (.i .u16 0), (.i .u32 0), (.i .u32 0)] []), none, 0, []⟩, ⟨none, (.store 11 (.t 4) (.t 18)), none, 1, []⟩, ⟨(some 5), (.mv (.c (.i .i64 1))), none, 2, []⟩])
  .ret) (.seq (.region [⟨(some 20), (.mv (.t 1)), none, 0, []⟩, ⟨(some 21), (.lenx (.t 20)), none, 1, []⟩, ⟨(some 22), (.bin .lss (.t 21) (.c (.i .i64 60))), none, 2, []⟩, ⟨(some 19), (.mv (.t 22)), none, 3, []⟩])
  (.cond (.t 19) (.seq (.region [⟨(some 23), (.build [(.i .i64 0), (.i .i64 0), (.i .u32 0), (.i .u32 0), (.i .u32 0), (.i .u32 0), (.i .u32 0), (.i .u16 0), (.i .u16 0), (.i .u32 0), (.i .u32 0)] []), none, 0, []⟩, ⟨none, (.store 11 (.t 4) (.t 23)), none, 1, []⟩, ⟨(some 5), (.mv (.c (.i .i64 2))), none, 2, []⟩])
  .ret) (.seq (.region [⟨(some 25), (.mv (.t 1)), none, 0, []⟩, ⟨(some 26), (.lenx (.t 25)), none, 1, []⟩, ⟨(some 27), (.bin .gtr (.t 26) (.c (.i .i64 60))), none, 2, []⟩, ⟨(some 28), (.mv (.t 27)), none, 3, []⟩, ⟨(some 29), (.mv (.t 1)), (some (28, false)), 4, []⟩, ⟨(some 30), (.slsl 1 (.t 29) (some (.c (.i .i64 56))) none none), (some (28, false)), 5, []⟩, ⟨(some 31), (.cb2s (.t 30)), (some (28, false)), 6, []⟩, ⟨(some 32), (.bin .neq (.t 31) (.c (.s ⟨#[66, 79, 76, 49]⟩))), (some (28, false)), 7, []⟩, ⟨(some 33), (.pick (.t 28) (.c (.b true)) (.t 32)), none, 8, []⟩, ⟨(some 24), (.mv (.t 33)), none, 9, []⟩])
  (.cond (.t 24) (.seq (.region [⟨(some 34), (.build [(.i .i64 0), (.i .i64 0), (.i .u32 0), (.i .u32 0), (.i .u32 0), (.i .u32 0), (.i .u32 0), (.i .u16 0), (.i .u16 0), (.i .u32 0), (.i .u32 0)] []), none, 0, []⟩, ⟨none, (.store 11 (.t 4) (.t 34)), none, 1, []⟩, ⟨(some 5), (.mv (.c (.i .i64 3))), none, 2, []⟩])
  .ret) .skip)))))))
  (.seq (.seq (.region [⟨(some 36), (.mv (.t 0)), none, 0, []⟩, ⟨(some 37), (.mv (.t 1)), none, 1, []⟩, ⟨(some 38), (.slsl 1 (.t 37) none (some (.c (.i .i64 48))) none), none, 2, []⟩, ⟨(some 39), (.call (.c (.fn (.func 23) [] [])) [(.t 36), (.t 38)]), none, 3, []⟩, ⟨(some 35), (.mv (.t 39)), none, 4, []⟩, ⟨(some 40), (.ext (.t 35) 0), none, 5, []⟩, ⟨(some 41), (.ext (.t 35) 1), none, 6, []⟩, ⟨(some 6), (.mv (.t 40)), none, 7, []⟩, ⟨(some 7), (.mv (.t 41)), none, 8, []⟩])
  (.seq (.region [⟨(some 42), (.mv (.t 6)), none, 0, []⟩, ⟨(some 43), (.mv (.t 1)), none, 1, []⟩, ⟨(some 44), (.slsl 1 (.t 43) (some (.c (.i .i64 48))) none none), none, 2, []⟩, ⟨(some 45), (.call (.c (.fn (.func 27) [] [])) [(.t 44)]), none, 3, []⟩, ⟨(some 46), (.bin .neq (.t 42) (.t 45)), none, 4, []⟩])
  (.cond (.t 46) (.seq (.region [⟨(some 47), (.build [(.i .i64 0), (.i .i64 0), (.i .u32 0), (.i .u32 0), (.i .u32 0), (.i .u32 0), (.i .u32 0), (.i .u16 0), (.i .u16 0), (.i .u32 0), (.i .u32 0)] []), none, 0, []⟩, ⟨none, (.store 11 (.t 4) (.t 47)), none, 1, []⟩, ⟨(some 5), (.mv (.c (.i .i64 6))), none, 2, []⟩])
  .ret) .skip)))
  (.seq (.region [⟨(some 8), (.alloc [(.i .i64 0), (.i .i64 0), (.i .u32 0), (.i .u32 0), (.i .u32 0), (.i .u32 0), (.i .u32 0), (.i .u16 0), (.i .u16 0), (.i .u32 0), (.i .u32 0)]), none, 0, []⟩])
  (.seq (.region [⟨(some 9), (.mv (.c (.b false))), none, 0, []⟩, ⟨(some 10), (.mv (.c (.b false))), none, 1, []⟩])
  (.seq (.region [⟨(some 49), (.mv (.t 1)), none, 0, []⟩, ⟨(some 50), (.call (.c (.fn (.func 28) [] [])) [(.t 49)]), none, 1, []⟩, ⟨(some 48), (.mv (.t 50)), none, 2, []⟩, ⟨(some 51), (.ext (.t 48) 0), none, 3, []⟩, ⟨(some 52), (.ext (.t 48) 1), none, 4, []⟩, ⟨(some 53), (.fadd 0 (.t 8)), none, 5, []⟩, ⟨none, (.store 1 (.t 53) (.t 51)), none, 6, []⟩, ⟨(some 9), (.mv (.t 52)), none, 7, []⟩])
  (.seq (.region [⟨(some 55), (.mv (.t 1)), none, 0, []⟩, ⟨(some 56), (.slsl 1 (.t 55) (some (.c (.i .i64 8))) none none), none, 1, []⟩, ⟨(some 57), (.call (.c (.fn (.func 28) [] [])) [(.t 56)]), none, 2, []⟩, ⟨(some 54), (.mv (.t 57)), none, 3, []⟩, ⟨(some 58), (.ext (.t 54) 0), none, 4, []⟩, ⟨(some 59), (.ext (.t 54) 1), none, 5, []⟩, ⟨(some 60), (.fadd 1 (.t 8)), none, 6, []⟩, ⟨none, (.store 1 (.t 60) (.t 58)), none, 7, []⟩, ⟨(some 10), (.mv (.t 59)), none, 8, []⟩])
  (.seq (.seq (.region [⟨(some 61), (.mv (.t 9)), none, 0, []⟩, ⟨(some 62), (.unx .not (.t 61)), none, 1, []⟩, ⟨(some 63), (.mv (.t 62)), none, 2, []⟩, ⟨(some 64), (.mv (.t 10)), (some (63, false)), 3, []⟩, ⟨(some 65), (.unx .not (.t 64)), (some (63, false)), 4, []⟩, ⟨(some 66), (.pick (.t 63) (.c (.b true)) (.t 65)), none, 5, []⟩])
  (.cond (.t 66) (.seq (.region [⟨(some 67), (.build [(.i .i64 0), (.i .i64 0), (.i .u32 0), (.i .u32 0), (.i .u32 0), (.i .u32 0), (.i .u32 0), (.i .u16 0), (.i .u16 0), (.i .u32 0), (.i .u32 0)] []), none, 0, []⟩, ⟨none, (.store 11 (.t 4) (.t 67)), none, 1, []⟩, ⟨(some 5), (.mv (.c (.i .i64 3))), none, 2, []⟩])
  .ret) .skip))
  (.seq (.region [⟨(some 68), (.mv (.t 1)), none, 0, []⟩, ⟨(some 69), (.slsl 1 (.t 68) (some (.c (.i .i64 16))) none none), none, 1, []⟩, ⟨(some 70), (.call (.c (.fn (.func 29) [] [])) [(.t 69)]), none, 2, []⟩, ⟨(some 11), (.mv (.t 70)), none, 3, []⟩])
  (.seq (.seq (.region [⟨(some 71), (.fadd 2 (.t 8)), none, 0, []⟩, ⟨(some 72), (.fadd 3 (.t 8)), none, 1, []⟩, ⟨(some 73), (.fadd 4 (.t 8)), none, 2, []⟩, ⟨(some 74), (.fadd 5 (.t 8)), none, 3, []⟩, ⟨(some 75), (.fadd 6 (.t 8)), none, 4, []⟩, ⟨(some 76), (.fadd 9 (.t 8)), none, 5, []⟩, ⟨(some 77), (.iarr 2 1 (.t 76) (.c (.i .i64 0))), none, 6, []⟩, ⟨(some 78), (.fadd 9 (.t 8)), none, 7, []⟩, ⟨(some 79), (.iarr 2 1 (.t 78) (.c (.i .i64 1))), none, 8, []⟩, ⟨(some 80), (.bslice [(.p none), (.p none), (.p none), (.p none), (.p none), (.p none), (.p none)] [(0, 1, (.t 71)), (1, 1, (.t 72)), (2, 1, (.t 73)), (3, 1, (.t 74)), (4, 1, (.t 75)), (5, 1, (.t 77)), (6, 1, (.t 79))] 7), none, 9, []⟩, ⟨(some 81), (.lenx (.t 80)), none, 10, []⟩, ⟨(some 82), (.mv (.c (.i .i64 0))), none, 11, []⟩])
  (.block 1 (.loop (.seq (.region [⟨(some 83), (.bin .lss (.t 82) (.t 81)), none, 0, []⟩])
  (.seq (.cond (.t 83) .skip (.exit 1))
  (.seq (.block 2 (.seq (.region [⟨(some 84), (.isl 1 (.t 80) (.t 82)), none, 0, []⟩, ⟨(some 85), (.load false 1 (.t 84)), none, 1, []⟩, ⟨(some 13), (.mv (.t 85)), none, 2, []⟩])
  (.region [⟨(some 87), (.mv (.t 13)), none, 0, []⟩, ⟨(some 88), (.mv (.t 11)), none, 1, []⟩, ⟨(some 89), (.call (.c (.fn (.func 30) [] [])) [(.t 88)]), none, 2, []⟩, ⟨(some 86), (.mv (.t 89)), none, 3, []⟩, ⟨(some 90), (.ext (.t 86) 0), none, 4, []⟩, ⟨(some 91), (.ext (.t 86) 1), none, 5, []⟩, ⟨(some 92), (.nilc (.t 87)), none, 6, []⟩, ⟨none, (.store 1 (.t 92) (.t 90)), none, 7, []⟩])))
  (.region [⟨(some 93), (.bin .add (.t 82) (.c (.i .i64 1))), none, 0, []⟩, ⟨(some 82), (.mv (.t 93)), none, 1, []⟩])))))))
  (.seq (.region [⟨(some 95), (.mv (.t 11)), none, 0, []⟩, ⟨(some 96), (.call (.c (.fn (.func 31) [] [])) [(.t 95)]), none, 1, []⟩, ⟨(some 94), (.mv (.t 96)), none, 2, []⟩, ⟨(some 97), (.ext (.t 94) 0), none, 3, []⟩, ⟨(some 98), (.ext (.t 94) 1), none, 4, []⟩, ⟨(some 99), (.fadd 7 (.t 8)), none, 5, []⟩, ⟨none, (.store 1 (.t 99) (.t 97)), none, 6, []⟩])
  (.seq (.region [⟨(some 101), (.mv (.t 11)), none, 0, []⟩, ⟨(some 102), (.call (.c (.fn (.func 31) [] [])) [(.t 101)]), none, 1, []⟩, ⟨(some 100), (.mv (.t 102)), none, 2, []⟩, ⟨(some 103), (.ext (.t 100) 0), none, 3, []⟩, ⟨(some 104), (.ext (.t 100) 1), none, 4, []⟩, ⟨(some 105), (.fadd 8 (.t 8)), none, 5, []⟩, ⟨none, (.store 1 (.t 105) (.t 103)), none, 6, []⟩])
  (.seq (.region [⟨(some 106), (.load true 11 (.t 8)), none, 0, []⟩, ⟨none, (.store 11 (.t 4) (.t 106)), none, 1, []⟩, ⟨(some 5), (.mv (.c (.i .i64 0))), none, 2, []⟩])
  .ret)))))))))))))
def x14 : XFun := ⟨x14b, [(.cell 4 true 11), (.t 5)]⟩
theorem x14_ok : compF Try.prog 14 = some x14 := by kernel_rfl
/-- bollard/bollardref09.Decode (85) -/
def x15b : XC := (.seq (.region [⟨(some 4), (.alloc [(.i .i64 0), (.i .i64 0), (.i .i64 0), (.i .i64 0), (.i .i64 0), (.i .i64 0), (.i .i64 0), (.i .i64 0), (.i .i64 0), (.i .i64 0), (.i .i64 0)]), none, 0, []⟩, ⟨(some 5), (.mv (.c (.i .i64 0))), none, 1, []⟩])
  (.seq (.seq (.region [⟨(some 11), (.mv (.t 0)), none, 0, []⟩, ⟨(some 12), (.lenx (.t 11)), none, 1, []⟩, ⟨(some 13), (.bin .neq (.t 12) (.c (.i .i64 16))), none, 2, []⟩])
  (.cond (.t 13) (.seq (.region [⟨(some 14), (.build [(.i .i64 0), (.i .i64 0), (.i .i64 0), (.i .i64 0), (.i .i64 0), (.i .i64 0), (.i .i64 0), (.i .i64 0), (.i .i64 0), (.i .i64 0), (.i .i64 0)] []), none, 0, []⟩, ⟨none, (.store 11 (.t 4) (.t 14)), none, 1, []⟩, ⟨(some 5), (.mv (.c (.i .i64 1))), none, 2, []⟩])
  .ret) .skip))
  (.seq (.seq (.region [⟨(some 15), (.mv (.t 1)), none, 0, []⟩, ⟨(some 16), (.lenx (.t 15)), none, 1, []⟩, ⟨(some 17), (.bin .lss (.t 16) (.c (.i .i64 60))), none, 2, []⟩])
  (.cond (.t 17) (.seq (.region [⟨(some 18), (.build [(.i .i64 0), (.i .i64 0), (.i .i64 0), (.i .i64 0), (.i .i64 0), (.i .i64 0), (.i .i64 0), (.i .i64 0), (.i .i64 0), (.i .i64 0), (.i .i64 0)] []), none, 0, []⟩, ⟨none, (.store 11 (.t 4) (.t 18)), none, 1, []⟩, ⟨(some 5), (.mv (.c (.i .i64 2))), none, 2, []⟩])
  .ret) .skip))
  (.seq (.seq (.region [⟨(some 19), (.mv (.t 1)), none, 0, []⟩, ⟨(some 20), (.lenx (.t 19)), none, 1, []⟩, ⟨(some 21), (.bin .gtr (.t 20) (.c (.i .i64 60))), none, 2, []⟩, ⟨(some 22), (.mv (.t 21)), none, 3, []⟩, ⟨(some 23), (.mv (.t 1)), (some (22, false)), 4, []⟩, ⟨(some 24), (.slsl 1 (.t 23) (some (.c (.i .i64 56))) none none), (some (22, false)), 5, []⟩, ⟨(some 25), (.cb2s (.t 24)), (some (22, false)), 6, []⟩, ⟨(some 26), (.bin .neq (.t 25) (.c (.s ⟨#[66, 79, 76, 49]⟩))), (some (22, false)), 7, []⟩, ⟨(some 27), (.pick (.t 22) (.c (.b true)) (.t 26)), none, 8, []⟩])
  (.cond (.t 27) (.seq (.region [⟨(some 28), (.build [(.i .i64 0), (.i .i64 0), (.i .i64 0), (.i .i64 0), (.i .i64 0), (.i .i64 0), (.i .i64 0), (.i .i64 0), (.i .i64 0), (.i .i64 0), (.i .i64 0)] []), none, 0, []⟩, ⟨none, (.store 11 (.t 4) (.t 28)), none, 1, []⟩, ⟨(some 5), (.mv (.c (.i .i64 3))), none, 2, []⟩])
  .ret) .skip))
  (.seq (.seq (.draw [⟨(some 29), (.mv (.t 0)), none, 0, []⟩, ⟨(some 31), (.mv (.t 1)), none, 2, []⟩, ⟨(some 32), (.slsl 1 (.t 31) none (some (.c (.i .i64 48))) none), none, 3, [2]⟩, ⟨(some 36), (.mv (.t 1)), none, 7, []⟩, ⟨(some 37), (.cb2s (.t 36)), none, 8, [7]⟩, ⟨(some 30), (.bslice [] [] 0), none, 1, []⟩, ⟨(some 33), (.append 1 1 (.t 30) (.t 32)), none, 4, [1, 2, 3]⟩, ⟨(some 34), (.call (.c (.fn (.func 26) [] [])) [(.t 29), (.t 33)]), none, 5, [0, 1, 2, 3, 4]⟩, ⟨(some 35), (.cb2s (.t 34)), none, 6, [0, 1, 2, 3, 4, 5]⟩, ⟨(some 38), (.bin .neq (.t 35) (.t 37)), none, 9, [0, 1, 2, 3, 4, 5, 6, 7, 8]⟩])
  (.cond (.t 38) (.seq (.region [⟨(some 39), (.build [(.i .i64 0), (.i .i64 0), (.i .i64 0), (.i .i64 0), (.i .i64 0), (.i .i64 0), (.i .i64 0), (.i .i64 0), (.i .i64 0), (.i .i64 0), (.i .i64 0)] []), none, 0, []⟩, ⟨none, (.store 11 (.t 4) (.t 39)), none, 1, []⟩, ⟨(some 5), (.mv (.c (.i .i64 6))), none, 2, []⟩])
  .ret) .skip))
  (.seq (.region [⟨(some 40), (.build [(.i .i64 0), (.i .i64 0), (.i .i64 0), (.i .i64 0), (.i .i64 0), (.i .i64 0), (.i .i64 0), (.i .i64 0), (.i .i64 0), (.i .i64 0), (.i .i64 0)] []), none, 0, []⟩, ⟨(some 6), (.alloc [(.i .i64 0), (.i .i64 0), (.i .i64 0), (.i .i64 0), (.i .i64 0), (.i .i64 0), (.i .i64 0), (.i .i64 0), (.i .i64 0), (.i .i64 0), (.i .i64 0)]), none, 1, []⟩, ⟨none, (.store 11 (.t 6) (.t 40)), none, 2, []⟩])
  (.seq (.region [⟨(some 41), (.call (.c (.fn (.func 24) [] [])) []), none, 0, []⟩, ⟨(some 7), (.mv (.t 41)), none, 1, []⟩])
  (.seq (.region [⟨(some 8), (.mv (.c (.i .i64 0))), none, 0, []⟩])
  (.seq (.seq (.region [⟨(some 9), (.mv (.c (.i .i64 0))), none, 0, []⟩])
  (.block 0 (.loop (.seq (.seq (.region [⟨(some 42), (.mv (.t 9)), none, 0, []⟩, ⟨(some 43), (.mv (.t 7)), none, 1, []⟩, ⟨(some 44), (.lenx (.t 43)), none, 2, []⟩, ⟨(some 45), (.bin .lss (.t 42) (.t 44)), none, 3, []⟩])
  (.cond (.t 45) .skip (.exit 0)))
  (.seq (.block 1 (.seq (.region [⟨(some 10), (.mv (.c (.i .i64 0))), none, 0, []⟩])
  (.block 2 (.loop (.seq (.seq (.region [⟨(some 48), (.mv (.t 10)), none, 0, []⟩, ⟨(some 49), (.mv (.t 7)), none, 1, []⟩, ⟨(some 50), (.mv (.t 9)), none, 2, []⟩, ⟨(some 51), (.isl 1 (.t 49) (.t 50)), none, 3, []⟩, ⟨(some 52), (.load false 1 (.t 51)), none, 4, []⟩, ⟨(some 53), (.bin .lss (.t 48) (.t 52)), none, 5, []⟩])
  (.cond (.t 53) .skip (.exit 2)))
  (.seq (.block 3 (.seq (.seq (.region [⟨(some 56), (.mv (.t 9)), none, 0, []⟩, ⟨(some 57), (.iarr 11 1 (.t 6) (.t 56)), none, 1, []⟩, ⟨(some 58), (.load false 1 (.t 57)), none, 2, []⟩, ⟨(some 59), (.bin .gtr (.t 58) (.c (.i .i64 18014398509481984))), none, 3, []⟩])
  (.cond (.t 59) (.seq (.region [⟨(some 60), (.build [(.i .i64 0), (.i .i64 0), (.i .i64 0), (.i .i64 0), (.i .i64 0), (.i .i64 0), (.i .i64 0), (.i .i64 0), (.i .i64 0), (.i .i64 0), (.i .i64 0)] []), none, 0, []⟩, ⟨none, (.store 11 (.t 4) (.t 60)), none, 1, []⟩, ⟨(some 5), (.mv (.c (.i .i64 3))), none, 2, []⟩])
  .ret) .skip))
  (.seq (.draw [⟨(some 61), (.mv (.t 9)), none, 0, []⟩, ⟨(some 62), (.mv (.t 9)), none, 1, []⟩, ⟨(some 63), (.iarr 11 1 (.t 6) (.t 62)), none, 2, [1]⟩, ⟨(some 66), (.mv (.t 1)), none, 5, []⟩, ⟨(some 67), (.mv (.t 8)), none, 6, []⟩, ⟨(some 68), (.isl 1 (.t 66) (.t 67)), none, 7, [5, 6]⟩, ⟨(some 64), (.load false 1 (.t 63)), none, 3, [1, 2]⟩, ⟨(some 65), (.bin .mul (.t 64) (.c (.i .i64 256))), none, 4, [1, 2, 3]⟩, ⟨(some 69), (.load false 1 (.t 68)), none, 8, [5, 6, 7]⟩, ⟨(some 70), (.cint .i64 (.t 69)), none, 9, [5, 6, 7, 8]⟩, ⟨(some 71), (.bin .add (.t 65) (.t 70)), none, 10, [1, 2, 3, 4, 5, 6, 7, 8, 9]⟩, ⟨(some 72), (.iarr 11 1 (.t 6) (.t 61)), none, 11, [0, 1, 2, 3, 4, 5, 6, 7, 8, 9, 10]⟩, ⟨none, (.store 1 (.t 72) (.t 71)), none, 12, [0, 1, 2, 3, 4, 5, 6, 7, 8, 9, 10, 11]⟩])
  (.region [⟨(some 73), (.mv (.t 8)), none, 0, []⟩, ⟨(some 74), (.bin .add (.t 73) (.c (.i .i64 1))), none, 1, []⟩, ⟨(some 8), (.mv (.t 74)), none, 2, []⟩]))))
  (.region [⟨(some 54), (.mv (.t 10)), none, 0, []⟩, ⟨(some 55), (.bin .add (.t 54) (.c (.i .i64 1))), none, 1, []⟩, ⟨(some 10), (.mv (.t 55)), none, 2, []⟩])))))))
  (.region [⟨(some 46), (.mv (.t 9)), none, 0, []⟩, ⟨(some 47), (.bin .add (.t 46) (.c (.i .i64 1))), none, 1, []⟩, ⟨(some 9), (.mv (.t 47)), none, 2, []⟩]))))))
  (.seq (.seq (.region [⟨(some 75), (.iarr 11 1 (.t 6) (.c (.i .i64 0))), none, 0, []⟩, ⟨(some 76), (.load false 1 (.t 75)), none, 1, []⟩, ⟨(some 77), (.bin .gtr (.t 76) (.c (.i .i64 281474976710656))), none, 2, []⟩, ⟨(some 78), (.mv (.t 77)), none, 3, []⟩, ⟨(some 79), (.iarr 11 1 (.t 6) (.c (.i .i64 1))), (some (78, false)), 4, []⟩, ⟨(some 80), (.load false 1 (.t 79)), (some (78, false)), 5, []⟩, ⟨(some 81), (.bin .gtr (.t 80) (.c (.i .i64 281474976710656))), (some (78, false)), 6, []⟩, ⟨(some 82), (.pick (.t 78) (.c (.b true)) (.t 81)), none, 7, []⟩])
  (.cond (.t 82) (.seq (.region [⟨(some 83), (.build [(.i .i64 0), (.i .i64 0), (.i .i64 0), (.i .i64 0), (.i .i64 0), (.i .i64 0), (.i .i64 0), (.i .i64 0), (.i .i64 0), (.i .i64 0), (.i .i64 0)] []), none, 0, []⟩, ⟨none, (.store 11 (.t 4) (.t 83)), none, 1, []⟩, ⟨(some 5), (.mv (.c (.i .i64 3))), none, 2, []⟩])
  .ret) .skip))
  (.seq (.region [⟨(some 84), (.load true 11 (.t 6)), none, 0, []⟩, ⟨none, (.store 11 (.t 4) (.t 84)), none, 1, []⟩, ⟨(some 5), (.mv (.c (.i .i64 0))), none, 2, []⟩])
  .ret)))))))))))
def x15 : XFun := ⟨x15b, [(.cell 4 true 11), (.t 5)]⟩
theorem x15_ok : compF Try.prog 15 = some x15 := by kernel_rfl
/-- bollard/cookie.Check (37) -/
def x16b : XC := (.seq (.region [⟨(some 6), (.alloc [(.i .i64 0), (.i .i64 0), (.i .u32 0), (.i .u32 0), (.i .u32 0), (.i .u32 0), (.i .u32 0), (.i .u16 0), (.i .u16 0), (.i .u32 0), (.i .u32 0)]), none, 0, []⟩, ⟨(some 7), (.mv (.c (.i .i64 0))), none, 1, []⟩])
  (.seq (.region [⟨(some 11), (.mv (.t 0)), none, 0, []⟩, ⟨(some 12), (.mv (.t 1)), none, 1, []⟩, ⟨(some 13), (.call (.c (.fn (.func 14) [] [])) [(.t 11), (.t 12)]), none, 2, []⟩, ⟨(some 10), (.mv (.t 13)), none, 3, []⟩, ⟨(some 14), (.ext (.t 10) 0), none, 4, []⟩, ⟨(some 15), (.ext (.t 10) 1), none, 5, []⟩, ⟨(some 8), (.alloc [(.i .i64 0), (.i .i64 0), (.i .u32 0), (.i .u32 0), (.i .u32 0), (.i .u32 0), (.i .u32 0), (.i .u16 0), (.i .u16 0), (.i .u32 0), (.i .u32 0)]), none, 6, []⟩, ⟨none, (.store 11 (.t 8) (.t 14)), none, 7, []⟩, ⟨(some 9), (.mv (.t 15)), none, 8, []⟩])
  (.seq (.block 0 (.seq (.region [⟨(some 17), (.mv (.t 9)), none, 0, []⟩, ⟨(some 18), (.bin .neq (.t 17) (.c (.i .i64 0))), none, 1, []⟩, ⟨(some 16), (.mv (.t 18)), none, 2, []⟩])
  (.cond (.t 16) (.seq (.region [⟨(some 19), (.build [(.i .i64 0), (.i .i64 0), (.i .u32 0), (.i .u32 0), (.i .u32 0), (.i .u32 0), (.i .u32 0), (.i .u16 0), (.i .u16 0), (.i .u32 0), (.i .u32 0)] []), none, 0, []⟩, ⟨(some 20), (.mv (.t 9)), none, 1, []⟩, ⟨none, (.store 11 (.t 6) (.t 19)), none, 2, []⟩, ⟨(some 7), (.mv (.t 20)), none, 3, []⟩])
  .ret) (.seq (.region [⟨(some 22), (.mv (.t 2)), none, 0, []⟩, ⟨(some 23), (.fadd 0 (.t 8)), none, 1, []⟩, ⟨(some 24), (.load false 1 (.t 23)), none, 2, []⟩, ⟨(some 25), (.bin .lss (.t 22) (.t 24)), none, 3, []⟩, ⟨(some 26), (.mv (.t 25)), none, 4, []⟩, ⟨(some 27), (.mv (.t 2)), (some (26, false)), 5, []⟩, ⟨(some 28), (.fadd 0 (.t 8)), (some (26, false)), 6, []⟩, ⟨(some 29), (.load false 1 (.t 28)), (some (26, false)), 7, []⟩, ⟨(some 30), (.fadd 1 (.t 8)), (some (26, false)), 8, []⟩, ⟨(some 31), (.load false 1 (.t 30)), (some (26, false)), 9, []⟩, ⟨(some 32), (.bin .add (.t 29) (.t 31)), (some (26, false)), 10, []⟩, ⟨(some 33), (.bin .gtr (.t 27) (.t 32)), (some (26, false)), 11, []⟩, ⟨(some 34), (.pick (.t 26) (.c (.b true)) (.t 33)), none, 12, []⟩, ⟨(some 21), (.mv (.t 34)), none, 13, []⟩])
  (.cond (.t 21) (.seq (.region [⟨(some 35), (.build [(.i .i64 0), (.i .i64 0), (.i .u32 0), (.i .u32 0), (.i .u32 0), (.i .u32 0), (.i .u32 0), (.i .u16 0), (.i .u16 0), (.i .u32 0), (.i .u32 0)] []), none, 0, []⟩, ⟨none, (.store 11 (.t 6) (.t 35)), none, 1, []⟩, ⟨(some 7), (.mv (.c (.i .i64 7))), none, 2, []⟩])
  .ret) .skip)))))
  (.seq (.region [⟨(some 36), (.load true 11 (.t 8)), none, 0, []⟩, ⟨none, (.store 11 (.t 6) (.t 36)), none, 1, []⟩, ⟨(some 7), (.mv (.c (.i .i64 0))), none, 2, []⟩])
  .ret))))
def x16 : XFun := ⟨x16b, [(.cell 6 true 11), (.t 7)]⟩
theorem x16_ok : compF Try.prog 16 = some x16 := by kernel_rfl
/-- bollard/bollardref09.Check (35) -/
def x17b : XC := (.seq (.region [⟨(some 6), (.alloc [(.i .i64 0), (.i .i64 0), (.i .i64 0), (.i .i64 0), (.i .i64 0), (.i .i64 0), (.i .i64 0), (.i .i64 0), (.i .i64 0), (.i .i64 0), (.i .i64 0)]), none, 0, []⟩, ⟨(some 7), (.mv (.c (.i .i64 0))), none, 1, []⟩])
  (.seq (.region [⟨(some 11), (.mv (.t 0)), none, 0, []⟩, ⟨(some 12), (.mv (.t 1)), none, 1, []⟩, ⟨(some 13), (.call (.c (.fn (.func 15) [] [])) [(.t 11), (.t 12)]), none, 2, []⟩, ⟨(some 10), (.mv (.t 13)), none, 3, []⟩, ⟨(some 14), (.ext (.t 10) 0), none, 4, []⟩, ⟨(some 15), (.ext (.t 10) 1), none, 5, []⟩, ⟨(some 8), (.alloc [(.i .i64 0), (.i .i64 0), (.i .i64 0), (.i .i64 0), (.i .i64 0), (.i .i64 0), (.i .i64 0), (.i .i64 0), (.i .i64 0), (.i .i64 0), (.i .i64 0)]), none, 6, []⟩, ⟨none, (.store 11 (.t 8) (.t 14)), none, 7, []⟩, ⟨(some 9), (.mv (.t 15)), none, 8, []⟩])
  (.seq (.seq (.region [⟨(some 16), (.mv (.t 9)), none, 0, []⟩, ⟨(some 17), (.bin .neq (.t 16) (.c (.i .i64 0))), none, 1, []⟩])
  (.cond (.t 17) (.seq (.region [⟨(some 18), (.build [(.i .i64 0), (.i .i64 0), (.i .i64 0), (.i .i64 0), (.i .i64 0), (.i .i64 0), (.i .i64 0), (.i .i64 0), (.i .i64 0), (.i .i64 0), (.i .i64 0)] []), none, 0, []⟩, ⟨(some 19), (.mv (.t 9)), none, 1, []⟩, ⟨none, (.store 11 (.t 6) (.t 18)), none, 2, []⟩, ⟨(some 7), (.mv (.t 19)), none, 3, []⟩])
  .ret) .skip))
  (.seq (.seq (.region [⟨(some 20), (.mv (.t 2)), none, 0, []⟩, ⟨(some 21), (.iarr 11 1 (.t 8) (.c (.i .i64 0))), none, 1, []⟩, ⟨(some 22), (.load false 1 (.t 21)), none, 2, []⟩, ⟨(some 23), (.bin .lss (.t 20) (.t 22)), none, 3, []⟩, ⟨(some 24), (.mv (.t 23)), none, 4, []⟩, ⟨(some 25), (.mv (.t 2)), (some (24, false)), 5, []⟩, ⟨(some 26), (.iarr 11 1 (.t 8) (.c (.i .i64 0))), (some (24, false)), 6, []⟩, ⟨(some 27), (.load false 1 (.t 26)), (some (24, false)), 7, []⟩, ⟨(some 28), (.iarr 11 1 (.t 8) (.c (.i .i64 1))), (some (24, false)), 8, []⟩, ⟨(some 29), (.load false 1 (.t 28)), (some (24, false)), 9, []⟩, ⟨(some 30), (.bin .add (.t 27) (.t 29)), (some (24, false)), 10, []⟩, ⟨(some 31), (.bin .gtr (.t 25) (.t 30)), (some (24, false)), 11, []⟩, ⟨(some 32), (.pick (.t 24) (.c (.b true)) (.t 31)), none, 12, []⟩])
  (.cond (.t 32) (.seq (.region [⟨(some 33), (.build [(.i .i64 0), (.i .i64 0), (.i .i64 0), (.i .i64 0), (.i .i64 0), (.i .i64 0), (.i .i64 0), (.i .i64 0), (.i .i64 0), (.i .i64 0), (.i .i64 0)] []), none, 0, []⟩, ⟨none, (.store 11 (.t 6) (.t 33)), none, 1, []⟩, ⟨(some 7), (.mv (.c (.i .i64 7))), none, 2, []⟩])
  .ret) .skip))
  (.seq (.region [⟨(some 34), (.load true 11 (.t 8)), none, 0, []⟩, ⟨none, (.store 11 (.t 6) (.t 34)), none, 1, []⟩, ⟨(some 7), (.mv (.c (.i .i64 0))), none, 2, []⟩])
  .ret)))))
def x17 : XFun := ⟨x17b, [(.cell 6 true 11), (.t 7)]⟩
theorem x17_ok : compF Try.prog 17 = some x17 := by kernel_rfl
/-- bollard/bollardlaw09.alike (20) -/
def x18b : XC := (.seq (.region [⟨(some 2), (.box (.t 0)), none, 0, []⟩, ⟨(some 3), (.box (.t 1)), none, 1, []⟩, ⟨(some 4), (.mv (.c (.b false))), none, 2, []⟩])
  (.seq (.region [⟨(some 7), (.load true 11 (.t 2)), none, 0, []⟩, ⟨(some 8), (.call (.c (.fn (.func 12) [] [])) [(.t 7)]), none, 1, []⟩, ⟨(some 5), (.alloc [(.i .i64 0), (.i .i64 0), (.i .i64 0), (.i .i64 0), (.i .i64 0), (.i .i64 0), (.i .i64 0), (.i .i64 0), (.i .i64 0), (.i .i64 0), (.i .i64 0)]), none, 2, []⟩, ⟨none, (.store 11 (.t 5) (.t 8)), none, 3, []⟩])
  (.seq (.seq (.region [⟨(some 6), (.mv (.c (.i .i64 0))), none, 0, []⟩])
  (.block 0 (.loop (.seq (.seq (.region [⟨(some 9), (.mv (.t 6)), none, 0, []⟩, ⟨(some 10), (.bin .lss (.t 9) (.c (.i .i64 11))), none, 1, []⟩])
  (.cond (.t 10) .skip (.exit 0)))
  (.seq (.block 1 (.seq (.draw [⟨(some 13), (.mv (.t 6)), none, 0, []⟩, ⟨(some 14), (.iarr 11 1 (.t 5) (.t 13)), none, 1, [0]⟩, ⟨(some 16), (.mv (.t 6)), none, 3, []⟩, ⟨(some 17), (.iarr 11 1 (.t 3) (.t 16)), none, 4, [3]⟩, ⟨(some 15), (.load false 1 (.t 14)), none, 2, [0, 1]⟩, ⟨(some 18), (.load false 1 (.t 17)), none, 5, [3, 4]⟩, ⟨(some 19), (.bin .neq (.t 15) (.t 18)), none, 6, [0, 1, 2, 3, 4, 5]⟩])
  (.cond (.t 19) (.seq (.region [⟨(some 4), (.mv (.c (.b false))), none, 0, []⟩])
  .ret) .skip)))
  (.region [⟨(some 11), (.mv (.t 6)), none, 0, []⟩, ⟨(some 12), (.bin .add (.t 11) (.c (.i .i64 1))), none, 1, []⟩, ⟨(some 6), (.mv (.t 12)), none, 2, []⟩]))))))
  (.seq (.region [⟨(some 4), (.mv (.c (.b true))), none, 0, []⟩])
  .ret))))
def x18 : XFun := ⟨x18b, [(.t 4)]⟩
theorem x18_ok : compF Try.prog 18 = some x18 := by kernel_rfl
/-- bollard/bollardlaw09.key (13) -/
def x19b : XC := (.seq (.region [⟨(some 0), (.mv (.c (.sl none 0 0 0))), none, 0, []⟩])
  (.seq (.region [⟨(some 1), (.mv (.c (.sl none 0 0 0))), none, 0, []⟩])
  (.seq (.seq (.region [⟨(some 2), (.mv (.c (.i .i64 0))), none, 0, []⟩])
  (.block 0 (.loop (.seq (.seq (.region [⟨(some 3), (.mv (.t 2)), none, 0, []⟩, ⟨(some 4), (.bin .lss (.t 3) (.c (.i .i64 16))), none, 1, []⟩])
  (.cond (.t 4) .skip (.exit 0)))
  (.seq (.block 1 (.region [⟨(some 7), (.mv (.t 1)), none, 0, []⟩, ⟨(some 8), (.mv (.t 2)), none, 1, []⟩, ⟨(some 9), (.cint .u8 (.t 8)), none, 2, []⟩, ⟨(some 10), (.bslice [(.i .u8 0)] [(0, 1, (.t 9))] 1), none, 3, []⟩, ⟨(some 11), (.append 1 1 (.t 7) (.t 10)), none, 4, []⟩, ⟨(some 1), (.mv (.t 11)), none, 5, []⟩]))
  (.region [⟨(some 5), (.mv (.t 2)), none, 0, []⟩, ⟨(some 6), (.bin .add (.t 5) (.c (.i .i64 1))), none, 1, []⟩, ⟨(some 2), (.mv (.t 6)), none, 2, []⟩]))))))
  (.seq (.region [⟨(some 12), (.mv (.t 1)), none, 0, []⟩, ⟨(some 0), (.mv (.t 12)), none, 1, []⟩])
  .ret))))
def x19 : XFun := ⟨x19b, [(.t 0)]⟩
theorem x19_ok : compF Try.prog 19 = some x19 := by kernel_rfl
/-- (bollard/cookie.State).right (21) -/
def x20b : XC := (.seq (.region [⟨(some 1), (.box (.t 0)), none, 0, []⟩, ⟨(some 2), (.mv (.c (.b false))), none, 1, []⟩])
  (.seq (.region [⟨(some 3), (.fadd 0 (.t 1)), none, 0, []⟩, ⟨(some 4), (.load false 1 (.t 3)), none, 1, []⟩, ⟨(some 5), (.bin .geq (.t 4) (.c (.i .i64 0))), none, 2, []⟩, ⟨(some 6), (.mv (.t 5)), none, 3, []⟩, ⟨(some 7), (.fadd 0 (.t 1)), (some (6, true)), 4, []⟩, ⟨(some 8), (.load false 1 (.t 7)), (some (6, true)), 5, []⟩, ⟨(some 9), (.bin .leq (.t 8) (.c (.i .i64 281474976710656))), (some (6, true)), 6, []⟩, ⟨(some 10), (.pick (.t 6) (.t 9) (.c (.b false))), none, 7, []⟩, ⟨(some 11), (.mv (.t 10)), none, 8, []⟩, ⟨(some 12), (.fadd 1 (.t 1)), (some (11, true)), 9, []⟩, ⟨(some 13), (.load false 1 (.t 12)), (some (11, true)), 10, []⟩, ⟨(some 14), (.bin .geq (.t 13) (.c (.i .i64 0))), (some (11, true)), 11, []⟩, ⟨(some 15), (.pick (.t 11) (.t 14) (.c (.b false))), none, 12, []⟩, ⟨(some 16), (.mv (.t 15)), none, 13, []⟩, ⟨(some 17), (.fadd 1 (.t 1)), (some (16, true)), 14, []⟩, ⟨(some 18), (.load false 1 (.t 17)), (some (16, true)), 15, []⟩, ⟨(some 19), (.bin .leq (.t 18) (.c (.i .i64 281474976710656))), (some (16, true)), 16, []⟩, ⟨(some 20), (.pick (.t 16) (.t 19) (.c (.b false))), none, 17, []⟩, ⟨(some 2), (.mv (.t 20)), none, 18, []⟩])
  .ret))
def x20 : XFun := ⟨x20b, [(.t 2)]⟩
theorem x20_ok : compF Try.prog 20 = some x20 := by kernel_rfl
/-- (*bollard/cookie.State).words (4) -/
def x21b : XC := (.seq (.region [⟨(some 1), (.box (.t 0)), none, 0, []⟩, ⟨(some 2), (.mv (.c .nf)), none, 1, []⟩])
  (.seq (.region [⟨(some 3), (.mkf (.func 32) [] [(.t 1)]), none, 0, []⟩, ⟨(some 2), (.mv (.t 3)), none, 1, []⟩])
  .ret))
def x21 : XFun := ⟨x21b, [(.t 2)]⟩
theorem x21_ok : compF Try.prog 21 = some x21 := by kernel_rfl
/-- bollard/octet.Put32 (19) -/
def x22b : XC := (.seq (.region [⟨(some 4), (.mv (.c (.sl none 0 0 0))), none, 0, []⟩])
  (.seq (.region [⟨(some 5), (.mv (.t 0)), none, 0, []⟩, ⟨(some 6), (.mv (.t 1)), none, 1, []⟩, ⟨(some 7), (.bin .shr (.t 6) (.c (.i .u64 24))), none, 2, []⟩, ⟨(some 8), (.cint .u8 (.t 7)), none, 3, []⟩, ⟨(some 9), (.mv (.t 1)), none, 4, []⟩, ⟨(some 10), (.bin .shr (.t 9) (.c (.i .u64 16))), none, 5, []⟩, ⟨(some 11), (.cint .u8 (.t 10)), none, 6, []⟩, ⟨(some 12), (.mv (.t 1)), none, 7, []⟩, ⟨(some 13), (.bin .shr (.t 12) (.c (.i .u64 8))), none, 8, []⟩, ⟨(some 14), (.cint .u8 (.t 13)), none, 9, []⟩, ⟨(some 15), (.mv (.t 1)), none, 10, []⟩, ⟨(some 16), (.cint .u8 (.t 15)), none, 11, []⟩, ⟨(some 17), (.bslice [(.i .u8 0), (.i .u8 0), (.i .u8 0), (.i .u8 0)] [(0, 1, (.t 8)), (1, 1, (.t 11)), (2, 1, (.t 14)), (3, 1, (.t 16))] 4), none, 12, []⟩, ⟨(some 18), (.call (.c (.fn (.func 33) [] [])) [(.t 5), (.t 17)]), none, 13, []⟩, ⟨(some 4), (.mv (.t 18)), none, 14, []⟩])
  .ret))
def x22 : XFun := ⟨x22b, [(.t 4)]⟩
theorem x22_ok : compF Try.prog 22 = some x22 := by kernel_rfl
/-- bollard/sip.Code (80) -/
def x23b : XC := (.seq (.region [⟨(some 4), (.mv (.c (.i .u64 0))), none, 0, []⟩, ⟨(some 5), (.mv (.c (.b false))), none, 1, []⟩])
  (.seq (.seq (.region [⟨(some 12), (.mv (.t 0)), none, 0, []⟩, ⟨(some 13), (.lenx (.t 12)), none, 1, []⟩, ⟨(some 14), (.bin .neq (.t 13) (.c (.i .i64 16))), none, 2, []⟩])
  (.cond (.t 14) (.seq (.region [⟨(some 4), (.mv (.c (.i .u64 0))), none, 0, []⟩, ⟨(some 5), (.mv (.c (.b false))), none, 1, []⟩])
  .ret) .skip))
  (.seq (.draw [⟨(some 15), (.mv (.t 0)), none, 0, []⟩, ⟨(some 17), (.mv (.t 0)), none, 2, []⟩, ⟨(some 18), (.slsl 1 (.t 17) (some (.c (.i .i64 8))) none none), none, 3, [2]⟩, ⟨(some 16), (.call (.c (.fn (.func 34) [] [])) [(.t 15)]), none, 1, [0]⟩, ⟨(some 19), (.call (.c (.fn (.func 34) [] [])) [(.t 18)]), none, 4, [0, 1, 2, 3]⟩, ⟨(some 6), (.mv (.t 16)), none, 5, [0, 1, 2, 3, 4]⟩, ⟨(some 7), (.mv (.t 19)), none, 6, [0, 1, 2, 3, 4, 5]⟩])
  (.seq (.region [⟨(some 20), (.mv (.t 6)), none, 0, []⟩, ⟨(some 21), (.bin .xor (.t 20) (.c (.i .u64 8317987319222330741))), none, 1, []⟩, ⟨(some 22), (.mv (.t 7)), none, 2, []⟩, ⟨(some 23), (.bin .xor (.t 22) (.c (.i .u64 7237128888997146477))), none, 3, []⟩, ⟨(some 24), (.mv (.t 6)), none, 4, []⟩, ⟨(some 25), (.bin .xor (.t 24) (.c (.i .u64 7816392313619706465))), none, 5, []⟩, ⟨(some 26), (.mv (.t 7)), none, 6, []⟩, ⟨(some 27), (.bin .xor (.t 26) (.c (.i .u64 8387220255154660723))), none, 7, []⟩, ⟨(some 28), (.build [(.i .u64 0), (.i .u64 0), (.i .u64 0), (.i .u64 0)] [(0, 1, (.t 21)), (1, 1, (.t 23)), (2, 1, (.t 25)), (3, 1, (.t 27))]), none, 8, []⟩, ⟨(some 8), (.alloc [(.i .u64 0), (.i .u64 0), (.i .u64 0), (.i .u64 0)]), none, 9, []⟩, ⟨none, (.store 4 (.t 8) (.t 28)), none, 10, []⟩])
  (.seq (.region [⟨(some 29), (.mv (.t 1)), none, 0, []⟩, ⟨(some 30), (.lenx (.t 29)), none, 1, []⟩, ⟨(some 31), (.cint .u64 (.t 30)), none, 2, []⟩, ⟨(some 32), (.bin .shl (.t 31) (.c (.i .u64 56))), none, 3, []⟩, ⟨(some 9), (.mv (.t 32)), none, 4, []⟩])
  (.seq (.block 0 (.loop (.seq (.seq (.region [⟨(some 33), (.mv (.t 1)), none, 0, []⟩, ⟨(some 34), (.lenx (.t 33)), none, 1, []⟩, ⟨(some 35), (.bin .geq (.t 34) (.c (.i .i64 8))), none, 2, []⟩])
  (.cond (.t 35) .skip (.exit 0)))
  (.seq (.block 1 (.draw [⟨(some 39), (.mv (.t 1)), none, 1, []⟩, ⟨(some 38), (.load true 4 (.t 8)), none, 0, []⟩, ⟨(some 40), (.call (.c (.fn (.func 34) [] [])) [(.t 39)]), none, 2, [1]⟩, ⟨(some 41), (.call (.c (.fn (.func 35) [] [])) [(.t 38), (.t 40)]), none, 3, [0, 1, 2]⟩, ⟨none, (.store 4 (.t 8) (.t 41)), none, 4, [0, 1, 2, 3]⟩]))
  (.region [⟨(some 36), (.mv (.t 1)), none, 0, []⟩, ⟨(some 37), (.slsl 1 (.t 36) (some (.c (.i .i64 8))) none none), none, 1, []⟩, ⟨(some 1), (.mv (.t 37)), none, 2, []⟩])))))
  (.seq (.seq (.region [⟨(some 42), (.mv (.t 1)), none, 0, []⟩, ⟨(some 43), (.lenx (.t 42)), none, 1, []⟩, ⟨(some 44), (.mv (.c (.i .i64 0))), none, 2, []⟩])
  (.block 2 (.loop (.seq (.region [⟨(some 45), (.bin .lss (.t 44) (.t 43)), none, 0, []⟩])
  (.seq (.cond (.t 45) .skip (.exit 2))
  (.seq (.block 3 (.seq (.region [⟨(some 46), (.mv (.t 44)), none, 0, []⟩, ⟨(some 47), (.isl 1 (.t 42) (.t 44)), none, 1, []⟩, ⟨(some 48), (.load false 1 (.t 47)), none, 2, []⟩, ⟨(some 10), (.mv (.t 46)), none, 3, []⟩, ⟨(some 11), (.mv (.t 48)), none, 4, []⟩])
  (.region [⟨(some 49), (.mv (.t 9)), none, 0, []⟩, ⟨(some 50), (.mv (.t 11)), none, 1, []⟩, ⟨(some 51), (.cint .u64 (.t 50)), none, 2, []⟩, ⟨(some 52), (.mv (.t 10)), none, 3, []⟩, ⟨(some 53), (.bin .mul (.c (.i .i64 8)) (.t 52)), none, 4, []⟩, ⟨(some 54), (.bin .shl (.t 51) (.t 53)), none, 5, []⟩, ⟨(some 55), (.bin .or (.t 49) (.t 54)), none, 6, []⟩, ⟨(some 9), (.mv (.t 55)), none, 7, []⟩])))
  (.region [⟨(some 56), (.bin .add (.t 44) (.c (.i .i64 1))), none, 0, []⟩, ⟨(some 44), (.mv (.t 56)), none, 1, []⟩])))))))
  (.seq (.region [⟨(some 57), (.load true 4 (.t 8)), none, 0, []⟩, ⟨(some 58), (.mv (.t 9)), none, 1, []⟩, ⟨(some 59), (.call (.c (.fn (.func 35) [] [])) [(.t 57), (.t 58)]), none, 2, []⟩, ⟨none, (.store 4 (.t 8) (.t 59)), none, 3, []⟩])
  (.seq (.region [⟨(some 60), (.iarr 4 1 (.t 8) (.c (.i .i64 2))), none, 0, []⟩, ⟨(some 61), (.load false 1 (.t 60)), none, 1, []⟩, ⟨(some 62), (.bin .xor (.t 61) (.c (.i .u64 255))), none, 2, []⟩, ⟨(some 63), (.iarr 4 1 (.t 8) (.c (.i .i64 2))), none, 3, []⟩, ⟨none, (.store 1 (.t 63) (.t 62)), none, 4, []⟩])
  (.seq (.region [⟨(some 64), (.load true 4 (.t 8)), none, 0, []⟩, ⟨(some 65), (.call (.c (.fn (.func 36) [] [])) [(.t 64)]), none, 1, []⟩, ⟨(some 66), (.call (.c (.fn (.func 36) [] [])) [(.t 65)]), none, 2, []⟩, ⟨(some 67), (.call (.c (.fn (.func 36) [] [])) [(.t 66)]), none, 3, []⟩, ⟨(some 68), (.call (.c (.fn (.func 36) [] [])) [(.t 67)]), none, 4, []⟩, ⟨none, (.store 4 (.t 8) (.t 68)), none, 5, []⟩])
  (.seq (.region [⟨(some 69), (.iarr 4 1 (.t 8) (.c (.i .i64 0))), none, 0, []⟩, ⟨(some 70), (.load false 1 (.t 69)), none, 1, []⟩, ⟨(some 71), (.iarr 4 1 (.t 8) (.c (.i .i64 1))), none, 2, []⟩, ⟨(some 72), (.load false 1 (.t 71)), none, 3, []⟩, ⟨(some 73), (.bin .xor (.t 70) (.t 72)), none, 4, []⟩, ⟨(some 74), (.iarr 4 1 (.t 8) (.c (.i .i64 2))), none, 5, []⟩, ⟨(some 75), (.load false 1 (.t 74)), none, 6, []⟩, ⟨(some 76), (.bin .xor (.t 73) (.t 75)), none, 7, []⟩, ⟨(some 77), (.iarr 4 1 (.t 8) (.c (.i .i64 3))), none, 8, []⟩, ⟨(some 78), (.load false 1 (.t 77)), none, 9, []⟩, ⟨(some 79), (.bin .xor (.t 76) (.t 78)), none, 10, []⟩, ⟨(some 4), (.mv (.t 79)), none, 11, []⟩, ⟨(some 5), (.mv (.c (.b true))), none, 12, []⟩])
  .ret)))))))))))
def x23 : XFun := ⟨x23b, [(.t 4), (.t 5)]⟩
theorem x23_ok : compF Try.prog 23 = some x23 := by kernel_rfl
/-- bollard/bollardref09.widths (2) -/
def x24b : XC := (.seq (.region [⟨(some 0), (.mv (.c (.sl none 0 0 0))), none, 0, []⟩])
  (.seq (.region [⟨(some 1), (.bslice [(.i .i64 0), (.i .i64 0), (.i .i64 0), (.i .i64 0), (.i .i64 0), (.i .i64 0), (.i .i64 0), (.i .i64 0), (.i .i64 0), (.i .i64 0), (.i .i64 0)] [(0, 1, (.c (.i .i64 8))), (1, 1, (.c (.i .i64 8))), (2, 1, (.c (.i .i64 4))), (3, 1, (.c (.i .i64 4))), (4, 1, (.c (.i .i64 4))), (5, 1, (.c (.i .i64 4))), (6, 1, (.c (.i .i64 4))), (7, 1, (.c (.i .i64 4))), (8, 1, (.c (.i .i64 4))), (9, 1, (.c (.i .i64 2))), (10, 1, (.c (.i .i64 2)))] 11), none, 0, []⟩, ⟨(some 0), (.mv (.t 1)), none, 1, []⟩])
  .ret))
def x24 : XFun := ⟨x24b, [(.t 0)]⟩
theorem x24_ok : compF Try.prog 24 = some x24 := by kernel_rfl
/-- bollard/bollardref09.put (22) -/
def x25b : XC := (.seq (.region [⟨(some 6), (.mv (.c (.sl none 0 0 0))), none, 0, []⟩])
  (.seq (.seq (.region [⟨(some 7), (.mv (.t 2)), none, 0, []⟩, ⟨(some 8), (.bin .eql (.t 7) (.c (.i .i64 8))), none, 1, []⟩])
  (.cond (.t 8) (.seq (.region [⟨(some 9), (.mv (.t 0)), none, 0, []⟩, ⟨(some 10), (.mv (.t 1)), none, 1, []⟩, ⟨(some 11), (.bin .shr (.t 10) (.c (.i .u64 32))), none, 2, []⟩, ⟨(some 12), (.cint .u32 (.t 11)), none, 3, []⟩, ⟨(some 13), (.call (.c (.fn (.func 37) [] [])) [(.t 9), (.t 12), (.c (.i .i64 4))]), none, 4, []⟩, ⟨(some 14), (.mv (.t 1)), none, 5, []⟩, ⟨(some 15), (.cint .u32 (.t 14)), none, 6, []⟩, ⟨(some 16), (.call (.c (.fn (.func 37) [] [])) [(.t 13), (.t 15), (.c (.i .i64 4))]), none, 7, []⟩, ⟨(some 6), (.mv (.t 16)), none, 8, []⟩])
  .ret) .skip))
  (.seq (.region [⟨(some 17), (.mv (.t 0)), none, 0, []⟩, ⟨(some 18), (.mv (.t 1)), none, 1, []⟩, ⟨(some 19), (.cint .u32 (.t 18)), none, 2, []⟩, ⟨(some 20), (.mv (.t 2)), none, 3, []⟩, ⟨(some 21), (.call (.c (.fn (.func 37) [] [])) [(.t 17), (.t 19), (.t 20)]), none, 4, []⟩, ⟨(some 6), (.mv (.t 21)), none, 5, []⟩])
  .ret)))
def x25 : XFun := ⟨x25b, [(.t 6)]⟩
theorem x25_ok : compF Try.prog 25 = some x25 := by kernel_rfl
/-- bollard/bollardref09.coded (18) -/
def x26b : XC := (.seq (.region [⟨(some 4), (.mv (.c (.sl none 0 0 0))), none, 0, []⟩])
  (.seq (.region [⟨(some 8), (.mv (.t 0)), none, 0, []⟩, ⟨(some 9), (.mv (.t 1)), none, 1, []⟩, ⟨(some 10), (.call (.c (.fn (.func 38) [] [])) [(.t 8), (.t 9)]), none, 2, []⟩, ⟨(some 7), (.mv (.t 10)), none, 3, []⟩, ⟨(some 11), (.ext (.t 7) 0), none, 4, []⟩, ⟨(some 12), (.ext (.t 7) 1), none, 5, []⟩, ⟨(some 5), (.mv (.t 11)), none, 6, []⟩, ⟨(some 6), (.mv (.t 12)), none, 7, []⟩])
  (.seq (.region [⟨(some 13), (.mv (.t 1)), none, 0, []⟩, ⟨(some 14), (.mv (.t 5)), none, 1, []⟩, ⟨(some 15), (.cint .i64 (.t 14)), none, 2, []⟩, ⟨(some 16), (.call (.c (.fn (.func 25) [] [])) [(.t 13), (.t 15), (.c (.i .i64 8))]), none, 3, []⟩, ⟨(some 17), (.append 1 1 (.t 16) (.c (.s ⟨#[66, 79, 76, 49]⟩))), none, 4, []⟩, ⟨(some 4), (.mv (.t 17)), none, 5, []⟩])
  .ret)))
def x26 : XFun := ⟨x26b, [(.t 4)]⟩
theorem x26_ok : compF Try.prog 26 = some x26 := by kernel_rfl
/-- bollard/cookie.long (20) -/
def x27b : XC := (.seq (.region [⟨(some 2), (.mv (.c (.i .u64 0))), none, 0, []⟩])
  (.seq (.region [⟨(some 3), (.mv (.c (.i .u64 0))), none, 0, []⟩])
  (.seq (.seq (.region [⟨(some 6), (.mv (.t 0)), none, 0, []⟩, ⟨(some 7), (.slsl 1 (.t 6) none (some (.c (.i .i64 8))) none), none, 1, []⟩, ⟨(some 8), (.lenx (.t 7)), none, 2, []⟩, ⟨(some 9), (.mv (.c (.i .i64 0))), none, 3, []⟩])
  (.block 0 (.loop (.seq (.region [⟨(some 10), (.bin .lss (.t 9) (.t 8)), none, 0, []⟩])
  (.seq (.cond (.t 10) .skip (.exit 0))
  (.seq (.block 1 (.seq (.region [⟨(some 11), (.isl 1 (.t 7) (.t 9)), none, 0, []⟩, ⟨(some 12), (.load false 1 (.t 11)), none, 1, []⟩, ⟨(some 5), (.mv (.t 12)), none, 2, []⟩])
  (.region [⟨(some 13), (.mv (.t 3)), none, 0, []⟩, ⟨(some 14), (.bin .shl (.t 13) (.c (.i .u64 8))), none, 1, []⟩, ⟨(some 15), (.mv (.t 5)), none, 2, []⟩, ⟨(some 16), (.cint .u64 (.t 15)), none, 3, []⟩, ⟨(some 17), (.bin .or (.t 14) (.t 16)), none, 4, []⟩, ⟨(some 3), (.mv (.t 17)), none, 5, []⟩])))
  (.region [⟨(some 18), (.bin .add (.t 9) (.c (.i .i64 1))), none, 0, []⟩, ⟨(some 9), (.mv (.t 18)), none, 1, []⟩])))))))
  (.seq (.region [⟨(some 19), (.mv (.t 3)), none, 0, []⟩, ⟨(some 2), (.mv (.t 19)), none, 1, []⟩])
  .ret))))
def x27 : XFun := ⟨x27b, [(.t 2)]⟩
theorem x27_ok : compF Try.prog 27 = some x27 := by kernel_rfl
/-- bollard/cookie.time (11) -/
def x28b : XC := (.seq (.region [⟨(some 2), (.mv (.c (.i .i64 0))), none, 0, []⟩, ⟨(some 3), (.mv (.c (.b false))), none, 1, []⟩])
  (.seq (.region [⟨(some 5), (.mv (.t 0)), none, 0, []⟩, ⟨(some 6), (.call (.c (.fn (.func 27) [] [])) [(.t 5)]), none, 1, []⟩, ⟨(some 4), (.mv (.t 6)), none, 2, []⟩])
  (.seq (.region [⟨(some 7), (.mv (.t 4)), none, 0, []⟩, ⟨(some 8), (.cint .i64 (.t 7)), none, 1, []⟩, ⟨(some 9), (.mv (.t 4)), none, 2, []⟩, ⟨(some 10), (.bin .leq (.t 9) (.c (.i .u64 281474976710656))), none, 3, []⟩, ⟨(some 2), (.mv (.t 8)), none, 4, []⟩, ⟨(some 3), (.mv (.t 10)), none, 5, []⟩])
  .ret)))
def x28 : XFun := ⟨x28b, [(.t 2), (.t 3)]⟩
theorem x28_ok : compF Try.prog 28 = some x28 := by kernel_rfl
/-- bollard/octet.New (7) -/
def x29b : XC := (.seq (.region [⟨(some 2), (.mv (.c (.p none))), none, 0, []⟩])
  (.seq (.region [⟨(some 3), (.mv (.t 0)), none, 0, []⟩, ⟨(some 4), (.call (.c (.fn (.func 39) [] [])) [(.t 3)]), none, 1, []⟩, ⟨(some 5), (.build [(.sl none 0 0 0)] [(0, 1, (.t 4))]), none, 2, []⟩, ⟨(some 6), (.box (.t 5)), none, 3, []⟩, ⟨(some 2), (.mv (.t 6)), none, 4, []⟩])
  .ret))
def x29 : XFun := ⟨x29b, [(.t 2)]⟩
theorem x29_ok : compF Try.prog 29 = some x29 := by kernel_rfl
/-- (*bollard/octet.Reader).Get32 (36) -/
def x30b : XC := (.seq (.region [⟨(some 2), (.mv (.c (.i .u32 0))), none, 0, []⟩, ⟨(some 3), (.mv (.c (.i .i64 0))), none, 1, []⟩])
  (.seq (.region [⟨(some 7), (.mv (.t 0)), none, 0, []⟩, ⟨(some 8), (.call (.c (.fn (.func 40) [] [])) [(.t 7), (.c (.i .i64 4))]), none, 1, []⟩, ⟨(some 6), (.mv (.t 8)), none, 2, []⟩, ⟨(some 9), (.ext (.t 6) 0), none, 3, []⟩, ⟨(some 10), (.ext (.t 6) 1), none, 4, []⟩, ⟨(some 4), (.mv (.t 9)), none, 5, []⟩, ⟨(some 5), (.mv (.t 10)), none, 6, []⟩])
  (.seq (.seq (.region [⟨(some 11), (.mv (.t 5)), none, 0, []⟩, ⟨(some 12), (.bin .neq (.t 11) (.c (.i .i64 0))), none, 1, []⟩])
  (.cond (.t 12) (.seq (.region [⟨(some 13), (.mv (.t 5)), none, 0, []⟩, ⟨(some 2), (.mv (.c (.i .u32 0))), none, 1, []⟩, ⟨(some 3), (.mv (.t 13)), none, 2, []⟩])
  .ret) .skip))
  (.seq (.draw [⟨(some 14), (.mv (.t 4)), none, 0, []⟩, ⟨(some 15), (.isl 1 (.t 14) (.c (.i .i64 0))), none, 1, [0]⟩, ⟨(some 19), (.mv (.t 4)), none, 5, []⟩, ⟨(some 20), (.isl 1 (.t 19) (.c (.i .i64 1))), none, 6, [5]⟩, ⟨(some 25), (.mv (.t 4)), none, 11, []⟩, ⟨(some 26), (.isl 1 (.t 25) (.c (.i .i64 2))), none, 12, [11]⟩, ⟨(some 31), (.mv (.t 4)), none, 17, []⟩, ⟨(some 32), (.isl 1 (.t 31) (.c (.i .i64 3))), none, 18, [17]⟩, ⟨(some 16), (.load false 1 (.t 15)), none, 2, [0, 1]⟩, ⟨(some 17), (.cint .u32 (.t 16)), none, 3, [0, 1, 2]⟩, ⟨(some 18), (.bin .shl (.t 17) (.c (.i .u64 24))), none, 4, [0, 1, 2, 3]⟩, ⟨(some 21), (.load false 1 (.t 20)), none, 7, [5, 6]⟩, ⟨(some 22), (.cint .u32 (.t 21)), none, 8, [5, 6, 7]⟩, ⟨(some 23), (.bin .shl (.t 22) (.c (.i .u64 16))), none, 9, [5, 6, 7, 8]⟩, ⟨(some 24), (.bin .or (.t 18) (.t 23)), none, 10, [0, 1, 2, 3, 4, 5, 6, 7, 8, 9]⟩, ⟨(some 27), (.load false 1 (.t 26)), none, 13, [11, 12]⟩, ⟨(some 28), (.cint .u32 (.t 27)), none, 14, [11, 12, 13]⟩, ⟨(some 29), (.bin .shl (.t 28) (.c (.i .u64 8))), none, 15, [11, 12, 13, 14]⟩, ⟨(some 30), (.bin .or (.t 24) (.t 29)), none, 16, [0, 1, 2, 3, 4, 5, 6, 7, 8, 9, 10, 11, 12, 13, 14, 15]⟩, ⟨(some 33), (.load false 1 (.t 32)), none, 19, [17, 18]⟩, ⟨(some 34), (.cint .u32 (.t 33)), none, 20, [17, 18, 19]⟩, ⟨(some 35), (.bin .or (.t 30) (.t 34)), none, 21, [0, 1, 2, 3, 4, 5, 6, 7, 8, 9, 10, 11, 12, 13, 14, 15, 16, 17, 18, 19, 20]⟩, ⟨(some 2), (.mv (.t 35)), none, 22, [0, 1, 2, 3, 4, 5, 6, 7, 8, 9, 10, 11, 12, 13, 14, 15, 16, 17, 18, 19, 20, 21]⟩, ⟨(some 3), (.mv (.c (.i .i64 0))), none, 23, [0, 1, 2, 3, 4, 5, 6, 7, 8, 9, 10, 11, 12, 13, 14, 15, 16, 17, 18, 19, 20, 21, 22]⟩])
  .ret))))
def x30 : XFun := ⟨x30b, [(.t 2), (.t 3)]⟩
theorem x30_ok : compF Try.prog 30 = some x30 := by kernel_rfl
/-- (*bollard/octet.Reader).Get16 (24) -/
def x31b : XC := (.seq (.region [⟨(some 2), (.mv (.c (.i .u16 0))), none, 0, []⟩, ⟨(some 3), (.mv (.c (.i .i64 0))), none, 1, []⟩])
  (.seq (.region [⟨(some 7), (.mv (.t 0)), none, 0, []⟩, ⟨(some 8), (.call (.c (.fn (.func 40) [] [])) [(.t 7), (.c (.i .i64 2))]), none, 1, []⟩, ⟨(some 6), (.mv (.t 8)), none, 2, []⟩, ⟨(some 9), (.ext (.t 6) 0), none, 3, []⟩, ⟨(some 10), (.ext (.t 6) 1), none, 4, []⟩, ⟨(some 4), (.mv (.t 9)), none, 5, []⟩, ⟨(some 5), (.mv (.t 10)), none, 6, []⟩])
  (.seq (.seq (.region [⟨(some 11), (.mv (.t 5)), none, 0, []⟩, ⟨(some 12), (.bin .neq (.t 11) (.c (.i .i64 0))), none, 1, []⟩])
  (.cond (.t 12) (.seq (.region [⟨(some 13), (.mv (.t 5)), none, 0, []⟩, ⟨(some 2), (.mv (.c (.i .u16 0))), none, 1, []⟩, ⟨(some 3), (.mv (.t 13)), none, 2, []⟩])
  .ret) .skip))
  (.seq (.draw [⟨(some 14), (.mv (.t 4)), none, 0, []⟩, ⟨(some 15), (.isl 1 (.t 14) (.c (.i .i64 0))), none, 1, [0]⟩, ⟨(some 19), (.mv (.t 4)), none, 5, []⟩, ⟨(some 20), (.isl 1 (.t 19) (.c (.i .i64 1))), none, 6, [5]⟩, ⟨(some 16), (.load false 1 (.t 15)), none, 2, [0, 1]⟩, ⟨(some 17), (.cint .u16 (.t 16)), none, 3, [0, 1, 2]⟩, ⟨(some 18), (.bin .shl (.t 17) (.c (.i .u64 8))), none, 4, [0, 1, 2, 3]⟩, ⟨(some 21), (.load false 1 (.t 20)), none, 7, [5, 6]⟩, ⟨(some 22), (.cint .u16 (.t 21)), none, 8, [5, 6, 7]⟩, ⟨(some 23), (.bin .or (.t 18) (.t 22)), none, 9, [0, 1, 2, 3, 4, 5, 6, 7, 8]⟩, ⟨(some 2), (.mv (.t 23)), none, 10, [0, 1, 2, 3, 4, 5, 6, 7, 8, 9]⟩, ⟨(some 3), (.mv (.c (.i .i64 0))), none, 11, [0, 1, 2, 3, 4, 5, 6, 7, 8, 9, 10]⟩])
  .ret))))
def x31 : XFun := ⟨x31b, [(.t 2), (.t 3)]⟩
theorem x31_ok : compF Try.prog 31 = some x31 := by kernel_rfl
/-- (*bollard/cookie.State).words$1 (84) -/
def x32b : XC := (.seq (.draw [⟨(some 6), (.load false 1 (.t 1)), none, 0, []⟩, ⟨(some 7), (.nilc (.t 6)), none, 1, [0]⟩, ⟨(some 8), (.fadd 0 (.t 7)), none, 2, [0, 1]⟩, ⟨(some 9), (.load false 1 (.t 8)), none, 3, [0, 1, 2]⟩, ⟨(some 10), (.bin .shr (.t 9) (.c (.i .u64 32))), none, 4, [0, 1, 2, 3]⟩, ⟨(some 11), (.cint .u32 (.t 10)), none, 5, [0, 1, 2, 3, 4]⟩, ⟨(some 12), (.load false 1 (.t 1)), none, 6, []⟩, ⟨(some 13), (.nilc (.t 12)), none, 7, [6]⟩, ⟨(some 14), (.fadd 0 (.t 13)), none, 8, [6, 7]⟩, ⟨(some 15), (.load false 1 (.t 14)), none, 9, [6, 7, 8]⟩, ⟨(some 16), (.cint .u32 (.t 15)), none, 10, [6, 7, 8, 9]⟩, ⟨(some 17), (.load false 1 (.t 1)), none, 11, []⟩, ⟨(some 18), (.nilc (.t 17)), none, 12, [11]⟩, ⟨(some 19), (.fadd 1 (.t 18)), none, 13, [11, 12]⟩, ⟨(some 20), (.load false 1 (.t 19)), none, 14, [11, 12, 13]⟩, ⟨(some 21), (.bin .shr (.t 20) (.c (.i .u64 32))), none, 15, [11, 12, 13, 14]⟩, ⟨(some 22), (.cint .u32 (.t 21)), none, 16, [11, 12, 13, 14, 15]⟩, ⟨(some 23), (.load false 1 (.t 1)), none, 17, []⟩, ⟨(some 24), (.nilc (.t 23)), none, 18, [17]⟩, ⟨(some 25), (.fadd 1 (.t 24)), none, 19, [17, 18]⟩, ⟨(some 26), (.load false 1 (.t 25)), none, 20, [17, 18, 19]⟩, ⟨(some 27), (.cint .u32 (.t 26)), none, 21, [17, 18, 19, 20]⟩, ⟨(some 28), (.bslice [(.i .u32 0), (.i .u32 0), (.i .u32 0), (.i .u32 0)] [(0, 1, (.t 11)), (1, 1, (.t 16)), (2, 1, (.t 22)), (3, 1, (.t 27))] 4), none, 22, [0, 1, 2, 3, 4, 5, 6, 7, 8, 9, 10, 11, 12, 13, 14, 15, 16, 17, 18, 19, 20, 21]⟩, ⟨(some 3), (.mv (.t 28)), none, 23, [0, 1, 2, 3, 4, 5, 6, 7, 8, 9, 10, 11, 12, 13, 14, 15, 16, 17, 18, 19, 20, 21, 22]⟩])
  (.seq (.draw [⟨(some 29), (.mv (.t 3)), none, 0, []⟩, ⟨(some 75), (.mv (.c (.i .i64 0))), none, 46, []⟩, ⟨(some 30), (.load false 1 (.t 1)), none, 1, []⟩, ⟨(some 31), (.nilc (.t 30)), none, 2, [1]⟩, ⟨(some 32), (.fadd 2 (.t 31)), none, 3, [1, 2]⟩, ⟨(some 33), (.load false 1 (.t 32)), none, 4, [1, 2, 3]⟩, ⟨(some 34), (.load false 1 (.t 1)), none, 5, []⟩, ⟨(some 35), (.nilc (.t 34)), none, 6, [5]⟩, ⟨(some 36), (.fadd 3 (.t 35)), none, 7, [5, 6]⟩, ⟨(some 37), (.load false 1 (.t 36)), none, 8, [5, 6, 7]⟩, ⟨(some 38), (.load false 1 (.t 1)), none, 9, []⟩, ⟨(some 39), (.nilc (.t 38)), none, 10, [9]⟩, ⟨(some 40), (.fadd 4 (.t 39)), none, 11, [9, 10]⟩, ⟨(some 41), (.load false 1 (.t 40)), none, 12, [9, 10, 11]⟩, ⟨(some 42), (.load false 1 (.t 1)), none, 13, []⟩, ⟨(some 43), (.nilc (.t 42)), none, 14, [13]⟩, ⟨(some 44), (.fadd 5 (.t 43)), none, 15, [13, 14]⟩, ⟨(some 45), (.load false 1 (.t 44)), none, 16, [13, 14, 15]⟩, ⟨(some 46), (.load false 1 (.t 1)), none, 17, []⟩, ⟨(some 47), (.nilc (.t 46)), none, 18, [17]⟩, ⟨(some 48), (.fadd 6 (.t 47)), none, 19, [17, 18]⟩, ⟨(some 49), (.load false 1 (.t 48)), none, 20, [17, 18, 19]⟩, ⟨(some 50), (.load false 1 (.t 1)), none, 21, []⟩, ⟨(some 51), (.nilc (.t 50)), none, 22, [21]⟩, ⟨(some 52), (.fadd 9 (.t 51)), none, 23, [21, 22]⟩, ⟨(some 53), (.iarr 2 1 (.t 52) (.c (.i .i64 0))), none, 24, [21, 22, 23]⟩, ⟨(some 54), (.load false 1 (.t 53)), none, 25, [21, 22, 23, 24]⟩, ⟨(some 55), (.load false 1 (.t 1)), none, 26, []⟩, ⟨(some 56), (.nilc (.t 55)), none, 27, [26]⟩, ⟨(some 57), (.fadd 9 (.t 56)), none, 28, [26, 27]⟩, ⟨(some 58), (.iarr 2 1 (.t 57) (.c (.i .i64 1))), none, 29, [26, 27, 28]⟩, ⟨(some 59), (.load false 1 (.t 58)), none, 30, [26, 27, 28, 29]⟩, ⟨(some 60), (.load false 1 (.t 1)), none, 31, []⟩, ⟨(some 61), (.nilc (.t 60)), none, 32, [31]⟩, ⟨(some 62), (.fadd 7 (.t 61)), none, 33, [31, 32]⟩, ⟨(some 63), (.load false 1 (.t 62)), none, 34, [31, 32, 33]⟩, ⟨(some 64), (.cint .u32 (.t 63)), none, 35, [31, 32, 33, 34]⟩, ⟨(some 65), (.bin .shl (.t 64) (.c (.i .u64 16))), none, 36, [31, 32, 33, 34, 35]⟩, ⟨(some 66), (.load false 1 (.t 1)), none, 37, []⟩, ⟨(some 67), (.nilc (.t 66)), none, 38, [37]⟩, ⟨(some 68), (.fadd 8 (.t 67)), none, 39, [37, 38]⟩, ⟨(some 69), (.load false 1 (.t 68)), none, 40, [37, 38, 39]⟩, ⟨(some 70), (.cint .u32 (.t 69)), none, 41, [37, 38, 39, 40]⟩, ⟨(some 71), (.bin .or (.t 65) (.t 70)), none, 42, [31, 32, 33, 34, 35, 36, 37, 38, 39, 40, 41]⟩, ⟨(some 72), (.bslice [(.i .u32 0), (.i .u32 0), (.i .u32 0), (.i .u32 0), (.i .u32 0), (.i .u32 0), (.i .u32 0), (.i .u32 0)] [(0, 1, (.t 33)), (1, 1, (.t 37)), (2, 1, (.t 41)), (3, 1, (.t 45)), (4, 1, (.t 49)), (5, 1, (.t 54)), (6, 1, (.t 59)), (7, 1, (.t 71))] 8), none, 43, [1, 2, 3, 4, 5, 6, 7, 8, 9, 10, 11, 12, 13, 14, 15, 16, 17, 18, 19, 20, 21, 22, 23, 24, 25, 26, 27, 28, 29, 30, 31, 32, 33, 34, 35, 36, 37, 38, 39, 40, 41, 42]⟩, ⟨(some 73), (.append 1 4 (.t 29) (.t 72)), none, 44, [0, 1, 2, 3, 4, 5, 6, 7, 8, 9, 10, 11, 12, 13, 14, 15, 16, 17, 18, 19, 20, 21, 22, 23, 24, 25, 26, 27, 28, 29, 30, 31, 32, 33, 34, 35, 36, 37, 38, 39, 40, 41, 42, 43]⟩, ⟨(some 74), (.lenx (.t 73)), none, 45, [0, 1, 2, 3, 4, 5, 6, 7, 8, 9, 10, 11, 12, 13, 14, 15, 16, 17, 18, 19, 20, 21, 22, 23, 24, 25, 26, 27, 28, 29, 30, 31, 32, 33, 34, 35, 36, 37, 38, 39, 40, 41, 42, 43, 44]⟩])
  (.block 0 (.loop (.seq (.region [⟨(some 76), (.bin .lss (.t 75) (.t 74)), none, 0, []⟩])
  (.seq (.cond (.t 76) .skip (.exit 0))
  (.seq (.block 1 (.seq (.region [⟨(some 77), (.isl 1 (.t 73) (.t 75)), none, 0, []⟩, ⟨(some 78), (.load false 1 (.t 77)), none, 1, []⟩, ⟨(some 5), (.mv (.t 78)), none, 2, []⟩])
  (.seq (.region [⟨(some 79), (.mv (.t 0)), none, 0, []⟩, ⟨(some 80), (.mv (.t 5)), none, 1, []⟩, ⟨(some 81), (.call (.t 79) [(.t 80)]), none, 2, []⟩, ⟨(some 82), (.unx .not (.t 81)), none, 3, []⟩])
  (.cond (.t 82) .ret .skip))))
  (.region [⟨(some 83), (.bin .add (.t 75) (.c (.i .i64 1))), none, 0, []⟩, ⟨(some 75), (.mv (.t 83)), none, 1, []⟩]))))))))
def x32 : XFun := ⟨x32b, []⟩
theorem x32_ok : compF Try.prog 32 = some x32 := by kernel_rfl
/-- bollard/octet.with (20) -/
def x33b : XC := (.seq (.region [⟨(some 4), (.mv (.c (.sl none 0 0 0))), none, 0, []⟩])
  (.seq (.region [⟨(some 6), (.mv (.t 0)), none, 0, []⟩, ⟨(some 7), (.lenx (.t 6)), none, 1, []⟩, ⟨(some 8), (.mv (.t 0)), none, 2, []⟩, ⟨(some 9), (.lenx (.t 8)), none, 3, []⟩, ⟨(some 10), (.mv (.t 1)), none, 4, []⟩, ⟨(some 11), (.lenx (.t 10)), none, 5, []⟩, ⟨(some 12), (.bin .add (.t 9) (.t 11)), none, 6, []⟩, ⟨(some 13), (.mkslice [(.i .u8 0)] 1 (.t 7) (.t 12)), none, 7, []⟩, ⟨(some 5), (.mv (.t 13)), none, 8, []⟩])
  (.seq (.region [⟨(some 14), (.mv (.t 5)), none, 0, []⟩, ⟨(some 15), (.mv (.t 0)), none, 1, []⟩, ⟨(some 16), (.copy 1 (.t 14) (.t 15)), none, 2, []⟩])
  (.seq (.region [⟨(some 17), (.mv (.t 5)), none, 0, []⟩, ⟨(some 18), (.mv (.t 1)), none, 1, []⟩, ⟨(some 19), (.append 1 1 (.t 17) (.t 18)), none, 2, []⟩, ⟨(some 4), (.mv (.t 19)), none, 3, []⟩])
  .ret))))
def x33 : XFun := ⟨x33b, [(.t 4)]⟩
theorem x33_ok : compF Try.prog 33 = some x33 := by kernel_rfl
/-- bollard/sip.low (23) -/
def x34b : XC := (.seq (.region [⟨(some 2), (.mv (.c (.i .u64 0))), none, 0, []⟩])
  (.seq (.region [⟨(some 3), (.mv (.c (.i .u64 0))), none, 0, []⟩])
  (.seq (.seq (.region [⟨(some 6), (.mv (.t 0)), none, 0, []⟩, ⟨(some 7), (.slsl 1 (.t 6) none (some (.c (.i .i64 8))) none), none, 1, []⟩, ⟨(some 8), (.lenx (.t 7)), none, 2, []⟩, ⟨(some 9), (.mv (.c (.i .i64 0))), none, 3, []⟩])
  (.block 0 (.loop (.seq (.region [⟨(some 10), (.bin .lss (.t 9) (.t 8)), none, 0, []⟩])
  (.seq (.cond (.t 10) .skip (.exit 0))
  (.seq (.block 1 (.seq (.region [⟨(some 11), (.mv (.t 9)), none, 0, []⟩, ⟨(some 12), (.isl 1 (.t 7) (.t 9)), none, 1, []⟩, ⟨(some 13), (.load false 1 (.t 12)), none, 2, []⟩, ⟨(some 4), (.mv (.t 11)), none, 3, []⟩, ⟨(some 5), (.mv (.t 13)), none, 4, []⟩])
  (.region [⟨(some 14), (.mv (.t 3)), none, 0, []⟩, ⟨(some 15), (.mv (.t 5)), none, 1, []⟩, ⟨(some 16), (.cint .u64 (.t 15)), none, 2, []⟩, ⟨(some 17), (.mv (.t 4)), none, 3, []⟩, ⟨(some 18), (.bin .mul (.c (.i .i64 8)) (.t 17)), none, 4, []⟩, ⟨(some 19), (.bin .shl (.t 16) (.t 18)), none, 5, []⟩, ⟨(some 20), (.bin .or (.t 14) (.t 19)), none, 6, []⟩, ⟨(some 3), (.mv (.t 20)), none, 7, []⟩])))
  (.region [⟨(some 21), (.bin .add (.t 9) (.c (.i .i64 1))), none, 0, []⟩, ⟨(some 9), (.mv (.t 21)), none, 1, []⟩])))))))
  (.seq (.region [⟨(some 22), (.mv (.t 3)), none, 0, []⟩, ⟨(some 2), (.mv (.t 22)), none, 1, []⟩])
  .ret))))
def x34 : XFun := ⟨x34b, [(.t 2)]⟩
theorem x34_ok : compF Try.prog 34 = some x34 := by kernel_rfl
/-- bollard/sip.take (19) -/
def x35b : XC := (.seq (.region [⟨(some 2), (.box (.t 0)), none, 0, []⟩, ⟨(some 4), (.alloc [(.i .u64 0), (.i .u64 0), (.i .u64 0), (.i .u64 0)]), none, 1, []⟩])
  (.seq (.region [⟨(some 5), (.iarr 4 1 (.t 2) (.c (.i .i64 3))), none, 0, []⟩, ⟨(some 6), (.load false 1 (.t 5)), none, 1, []⟩, ⟨(some 7), (.mv (.t 1)), none, 2, []⟩, ⟨(some 8), (.bin .xor (.t 6) (.t 7)), none, 3, []⟩, ⟨(some 9), (.iarr 4 1 (.t 2) (.c (.i .i64 3))), none, 4, []⟩, ⟨none, (.store 1 (.t 9) (.t 8)), none, 5, []⟩])
  (.seq (.region [⟨(some 10), (.load true 4 (.t 2)), none, 0, []⟩, ⟨(some 11), (.call (.c (.fn (.func 36) [] [])) [(.t 10)]), none, 1, []⟩, ⟨(some 12), (.call (.c (.fn (.func 36) [] [])) [(.t 11)]), none, 2, []⟩, ⟨none, (.store 4 (.t 2) (.t 12)), none, 3, []⟩])
  (.seq (.region [⟨(some 13), (.iarr 4 1 (.t 2) (.c (.i .i64 0))), none, 0, []⟩, ⟨(some 14), (.load false 1 (.t 13)), none, 1, []⟩, ⟨(some 15), (.mv (.t 1)), none, 2, []⟩, ⟨(some 16), (.bin .xor (.t 14) (.t 15)), none, 3, []⟩, ⟨(some 17), (.iarr 4 1 (.t 2) (.c (.i .i64 0))), none, 4, []⟩, ⟨none, (.store 1 (.t 17) (.t 16)), none, 5, []⟩])
  (.seq (.region [⟨(some 18), (.load true 4 (.t 2)), none, 0, []⟩, ⟨none, (.store 4 (.t 4) (.t 18)), none, 1, []⟩])
  .ret)))))
def x35 : XFun := ⟨x35b, [(.cell 4 true 4)]⟩
theorem x35_ok : compF Try.prog 35 = some x35 := by kernel_rfl
/-- bollard/sip.Round (61) -/
def x36b : XC := (.seq (.region [⟨(some 1), (.box (.t 0)), none, 0, []⟩, ⟨(some 2), (.alloc [(.i .u64 0), (.i .u64 0), (.i .u64 0), (.i .u64 0)]), none, 1, []⟩])
  (.seq (.region [⟨(some 3), (.iarr 4 1 (.t 1) (.c (.i .i64 0))), none, 0, []⟩, ⟨(some 4), (.load false 1 (.t 3)), none, 1, []⟩, ⟨(some 5), (.iarr 4 1 (.t 1) (.c (.i .i64 1))), none, 2, []⟩, ⟨(some 6), (.load false 1 (.t 5)), none, 3, []⟩, ⟨(some 7), (.bin .add (.t 4) (.t 6)), none, 4, []⟩, ⟨(some 8), (.iarr 4 1 (.t 1) (.c (.i .i64 0))), none, 5, []⟩, ⟨none, (.store 1 (.t 8) (.t 7)), none, 6, []⟩])
  (.seq (.region [⟨(some 9), (.iarr 4 1 (.t 1) (.c (.i .i64 2))), none, 0, []⟩, ⟨(some 10), (.load false 1 (.t 9)), none, 1, []⟩, ⟨(some 11), (.iarr 4 1 (.t 1) (.c (.i .i64 3))), none, 2, []⟩, ⟨(some 12), (.load false 1 (.t 11)), none, 3, []⟩, ⟨(some 13), (.bin .add (.t 10) (.t 12)), none, 4, []⟩, ⟨(some 14), (.iarr 4 1 (.t 1) (.c (.i .i64 2))), none, 5, []⟩, ⟨none, (.store 1 (.t 14) (.t 13)), none, 6, []⟩])
  (.seq (.draw [⟨(some 15), (.iarr 4 1 (.t 1) (.c (.i .i64 1))), none, 0, []⟩, ⟨(some 18), (.iarr 4 1 (.t 1) (.c (.i .i64 0))), none, 3, []⟩, ⟨(some 16), (.load false 1 (.t 15)), none, 1, [0]⟩, ⟨(some 19), (.load false 1 (.t 18)), none, 4, [3]⟩, ⟨(some 17), (.call (.c (.fn (.func 41) [] [])) [(.t 16), (.c (.i .i64 13))]), none, 2, [0, 1]⟩, ⟨(some 20), (.bin .xor (.t 17) (.t 19)), none, 5, [0, 1, 2, 3, 4]⟩, ⟨(some 21), (.iarr 4 1 (.t 1) (.c (.i .i64 1))), none, 6, [0, 1, 2, 3, 4, 5]⟩, ⟨none, (.store 1 (.t 21) (.t 20)), none, 7, [0, 1, 2, 3, 4, 5, 6]⟩])
  (.seq (.draw [⟨(some 22), (.iarr 4 1 (.t 1) (.c (.i .i64 3))), none, 0, []⟩, ⟨(some 25), (.iarr 4 1 (.t 1) (.c (.i .i64 2))), none, 3, []⟩, ⟨(some 23), (.load false 1 (.t 22)), none, 1, [0]⟩, ⟨(some 26), (.load false 1 (.t 25)), none, 4, [3]⟩, ⟨(some 24), (.call (.c (.fn (.func 41) [] [])) [(.t 23), (.c (.i .i64 16))]), none, 2, [0, 1]⟩, ⟨(some 27), (.bin .xor (.t 24) (.t 26)), none, 5, [0, 1, 2, 3, 4]⟩, ⟨(some 28), (.iarr 4 1 (.t 1) (.c (.i .i64 3))), none, 6, [0, 1, 2, 3, 4, 5]⟩, ⟨none, (.store 1 (.t 28) (.t 27)), none, 7, [0, 1, 2, 3, 4, 5, 6]⟩])
  (.seq (.draw [⟨(some 29), (.iarr 4 1 (.t 1) (.c (.i .i64 0))), none, 0, []⟩, ⟨(some 32), (.iarr 4 1 (.t 1) (.c (.i .i64 3))), none, 3, []⟩, ⟨(some 30), (.load false 1 (.t 29)), none, 1, [0]⟩, ⟨(some 33), (.load false 1 (.t 32)), none, 4, [3]⟩, ⟨(some 31), (.call (.c (.fn (.func 41) [] [])) [(.t 30), (.c (.i .i64 32))]), none, 2, [0, 1]⟩, ⟨(some 34), (.bin .add (.t 31) (.t 33)), none, 5, [0, 1, 2, 3, 4]⟩, ⟨(some 35), (.iarr 4 1 (.t 1) (.c (.i .i64 0))), none, 6, [0, 1, 2, 3, 4, 5]⟩, ⟨none, (.store 1 (.t 35) (.t 34)), none, 7, [0, 1, 2, 3, 4, 5, 6]⟩])
  (.seq (.region [⟨(some 36), (.iarr 4 1 (.t 1) (.c (.i .i64 2))), none, 0, []⟩, ⟨(some 37), (.load false 1 (.t 36)), none, 1, []⟩, ⟨(some 38), (.iarr 4 1 (.t 1) (.c (.i .i64 1))), none, 2, []⟩, ⟨(some 39), (.load false 1 (.t 38)), none, 3, []⟩, ⟨(some 40), (.bin .add (.t 37) (.t 39)), none, 4, []⟩, ⟨(some 41), (.iarr 4 1 (.t 1) (.c (.i .i64 2))), none, 5, []⟩, ⟨none, (.store 1 (.t 41) (.t 40)), none, 6, []⟩])
  (.seq (.draw [⟨(some 42), (.iarr 4 1 (.t 1) (.c (.i .i64 3))), none, 0, []⟩, ⟨(some 45), (.iarr 4 1 (.t 1) (.c (.i .i64 0))), none, 3, []⟩, ⟨(some 43), (.load false 1 (.t 42)), none, 1, [0]⟩, ⟨(some 46), (.load false 1 (.t 45)), none, 4, [3]⟩, ⟨(some 44), (.call (.c (.fn (.func 41) [] [])) [(.t 43), (.c (.i .i64 21))]), none, 2, [0, 1]⟩, ⟨(some 47), (.bin .xor (.t 44) (.t 46)), none, 5, [0, 1, 2, 3, 4]⟩, ⟨(some 48), (.iarr 4 1 (.t 1) (.c (.i .i64 3))), none, 6, [0, 1, 2, 3, 4, 5]⟩, ⟨none, (.store 1 (.t 48) (.t 47)), none, 7, [0, 1, 2, 3, 4, 5, 6]⟩])
  (.seq (.draw [⟨(some 49), (.iarr 4 1 (.t 1) (.c (.i .i64 1))), none, 0, []⟩, ⟨(some 52), (.iarr 4 1 (.t 1) (.c (.i .i64 2))), none, 3, []⟩, ⟨(some 50), (.load false 1 (.t 49)), none, 1, [0]⟩, ⟨(some 53), (.load false 1 (.t 52)), none, 4, [3]⟩, ⟨(some 51), (.call (.c (.fn (.func 41) [] [])) [(.t 50), (.c (.i .i64 17))]), none, 2, [0, 1]⟩, ⟨(some 54), (.bin .xor (.t 51) (.t 53)), none, 5, [0, 1, 2, 3, 4]⟩, ⟨(some 55), (.iarr 4 1 (.t 1) (.c (.i .i64 1))), none, 6, [0, 1, 2, 3, 4, 5]⟩, ⟨none, (.store 1 (.t 55) (.t 54)), none, 7, [0, 1, 2, 3, 4, 5, 6]⟩])
  (.seq (.region [⟨(some 56), (.iarr 4 1 (.t 1) (.c (.i .i64 2))), none, 0, []⟩, ⟨(some 57), (.load false 1 (.t 56)), none, 1, []⟩, ⟨(some 58), (.call (.c (.fn (.func 41) [] [])) [(.t 57), (.c (.i .i64 32))]), none, 2, []⟩, ⟨(some 59), (.iarr 4 1 (.t 1) (.c (.i .i64 2))), none, 3, []⟩, ⟨none, (.store 1 (.t 59) (.t 58)), none, 4, []⟩])
  (.seq (.region [⟨(some 60), (.load true 4 (.t 1)), none, 0, []⟩, ⟨none, (.store 4 (.t 2) (.t 60)), none, 1, []⟩])
  .ret)))))))))))
def x36 : XFun := ⟨x36b, [(.cell 2 true 4)]⟩
theorem x36_ok : compF Try.prog 36 = some x36 := by kernel_rfl
/-- bollard/bollardref01.Put (28) -/
def x37b : XC := (.seq (.region [⟨(some 6), (.mv (.c (.sl none 0 0 0))), none, 0, []⟩])
  (.seq (.region [⟨(some 7), (.mv (.c (.sl none 0 0 0))), none, 0, []⟩])
  (.seq (.region [⟨(some 9), (.mv (.t 7)), none, 0, []⟩, ⟨(some 10), (.mv (.t 0)), none, 1, []⟩, ⟨(some 11), (.append 1 1 (.t 9) (.t 10)), none, 2, []⟩, ⟨(some 7), (.mv (.t 11)), none, 3, []⟩])
  (.seq (.seq (.region [⟨(some 12), (.mv (.t 2)), none, 0, []⟩, ⟨(some 13), (.bin .sub (.t 12) (.c (.i .i64 1))), none, 1, []⟩, ⟨(some 8), (.mv (.t 13)), none, 2, []⟩])
  (.block 0 (.loop (.seq (.seq (.region [⟨(some 14), (.mv (.t 8)), none, 0, []⟩, ⟨(some 15), (.bin .geq (.t 14) (.c (.i .i64 0))), none, 1, []⟩])
  (.cond (.t 15) .skip (.exit 0)))
  (.seq (.block 1 (.region [⟨(some 18), (.mv (.t 7)), none, 0, []⟩, ⟨(some 19), (.mv (.t 1)), none, 1, []⟩, ⟨(some 20), (.mv (.t 8)), none, 2, []⟩, ⟨(some 21), (.bin .mul (.c (.i .i64 8)) (.t 20)), none, 3, []⟩, ⟨(some 22), (.cint .u64 (.t 21)), none, 4, []⟩, ⟨(some 23), (.bin .shr (.t 19) (.t 22)), none, 5, []⟩, ⟨(some 24), (.cint .u8 (.t 23)), none, 6, []⟩, ⟨(some 25), (.bslice [(.i .u8 0)] [(0, 1, (.t 24))] 1), none, 7, []⟩, ⟨(some 26), (.append 1 1 (.t 18) (.t 25)), none, 8, []⟩, ⟨(some 7), (.mv (.t 26)), none, 9, []⟩]))
  (.region [⟨(some 16), (.mv (.t 8)), none, 0, []⟩, ⟨(some 17), (.bin .sub (.t 16) (.c (.i .i64 1))), none, 1, []⟩, ⟨(some 8), (.mv (.t 17)), none, 2, []⟩]))))))
  (.seq (.region [⟨(some 27), (.mv (.t 7)), none, 0, []⟩, ⟨(some 6), (.mv (.t 27)), none, 1, []⟩])
  .ret)))))
def x37 : XFun := ⟨x37b, [(.t 6)]⟩
theorem x37_ok : compF Try.prog 37 = some x37 := by kernel_rfl
/-- bollard/bollardref04.Code (95) -/
def x38b : XC := (.seq (.region [⟨(some 4), (.mv (.c (.i .u64 0))), none, 0, []⟩, ⟨(some 5), (.mv (.c (.b false))), none, 1, []⟩])
  (.seq (.seq (.region [⟨(some 15), (.mv (.t 0)), none, 0, []⟩, ⟨(some 16), (.lenx (.t 15)), none, 1, []⟩, ⟨(some 17), (.bin .neq (.t 16) (.c (.i .i64 16))), none, 2, []⟩])
  (.cond (.t 17) (.seq (.region [⟨(some 4), (.mv (.c (.i .u64 0))), none, 0, []⟩, ⟨(some 5), (.mv (.c (.b false))), none, 1, []⟩])
  .ret) .skip))
  (.seq (.region [⟨(some 18), (.mv (.t 0)), none, 0, []⟩, ⟨(some 19), (.slsl 1 (.t 18) none (some (.c (.i .i64 8))) none), none, 1, []⟩, ⟨(some 20), (.call (.c (.fn (.func 42) [] [])) [(.t 19)]), none, 2, []⟩, ⟨(some 6), (.mv (.t 20)), none, 3, []⟩])
  (.seq (.region [⟨(some 21), (.mv (.t 0)), none, 0, []⟩, ⟨(some 22), (.slsl 1 (.t 21) (some (.c (.i .i64 8))) none none), none, 1, []⟩, ⟨(some 23), (.call (.c (.fn (.func 42) [] [])) [(.t 22)]), none, 2, []⟩, ⟨(some 7), (.mv (.t 23)), none, 3, []⟩])
  (.seq (.region [⟨(some 24), (.mv (.t 6)), none, 0, []⟩, ⟨(some 25), (.bin .xor (.t 24) (.c (.i .u64 8317987319222330741))), none, 1, []⟩, ⟨(some 8), (.mv (.t 25)), none, 2, []⟩])
  (.seq (.region [⟨(some 26), (.mv (.t 7)), none, 0, []⟩, ⟨(some 27), (.bin .xor (.t 26) (.c (.i .u64 7237128888997146477))), none, 1, []⟩, ⟨(some 9), (.mv (.t 27)), none, 2, []⟩])
  (.seq (.region [⟨(some 28), (.mv (.t 6)), none, 0, []⟩, ⟨(some 29), (.bin .xor (.t 28) (.c (.i .u64 7816392313619706465))), none, 1, []⟩, ⟨(some 10), (.mv (.t 29)), none, 2, []⟩])
  (.seq (.region [⟨(some 30), (.mv (.t 7)), none, 0, []⟩, ⟨(some 31), (.bin .xor (.t 30) (.c (.i .u64 8387220255154660723))), none, 1, []⟩, ⟨(some 11), (.mv (.t 31)), none, 2, []⟩])
  (.seq (.region [⟨(some 32), (.mv (.t 1)), none, 0, []⟩, ⟨(some 33), (.call (.c (.fn (.func 43) [] [])) [(.t 32)]), none, 1, []⟩, ⟨(some 12), (.mv (.t 33)), none, 2, []⟩])
  (.seq (.seq (.region [⟨(some 13), (.mv (.c (.i .i64 0))), none, 0, []⟩])
  (.block 0 (.loop (.seq (.seq (.region [⟨(some 34), (.mv (.t 13)), none, 0, []⟩, ⟨(some 35), (.mv (.t 12)), none, 1, []⟩, ⟨(some 36), (.lenx (.t 35)), none, 2, []⟩, ⟨(some 37), (.bin .lss (.t 34) (.t 36)), none, 3, []⟩])
  (.cond (.t 37) .skip (.exit 0)))
  (.seq (.block 1 (.seq (.region [⟨(some 40), (.mv (.t 11)), none, 0, []⟩, ⟨(some 41), (.mv (.t 12)), none, 1, []⟩, ⟨(some 42), (.mv (.t 13)), none, 2, []⟩, ⟨(some 43), (.isl 1 (.t 41) (.t 42)), none, 3, []⟩, ⟨(some 44), (.load false 1 (.t 43)), none, 4, []⟩, ⟨(some 45), (.bin .xor (.t 40) (.t 44)), none, 5, []⟩, ⟨(some 11), (.mv (.t 45)), none, 6, []⟩])
  (.seq (.region [⟨(some 47), (.mv (.t 8)), none, 0, []⟩, ⟨(some 48), (.mv (.t 9)), none, 1, []⟩, ⟨(some 49), (.mv (.t 10)), none, 2, []⟩, ⟨(some 50), (.mv (.t 11)), none, 3, []⟩, ⟨(some 51), (.call (.c (.fn (.func 44) [] [])) [(.t 47), (.t 48), (.t 49), (.t 50)]), none, 4, []⟩, ⟨(some 46), (.mv (.t 51)), none, 5, []⟩, ⟨(some 52), (.ext (.t 46) 0), none, 6, []⟩, ⟨(some 53), (.ext (.t 46) 1), none, 7, []⟩, ⟨(some 54), (.ext (.t 46) 2), none, 8, []⟩, ⟨(some 55), (.ext (.t 46) 3), none, 9, []⟩, ⟨(some 8), (.mv (.t 52)), none, 10, []⟩, ⟨(some 9), (.mv (.t 53)), none, 11, []⟩, ⟨(some 10), (.mv (.t 54)), none, 12, []⟩, ⟨(some 11), (.mv (.t 55)), none, 13, []⟩])
  (.seq (.region [⟨(some 57), (.mv (.t 8)), none, 0, []⟩, ⟨(some 58), (.mv (.t 9)), none, 1, []⟩, ⟨(some 59), (.mv (.t 10)), none, 2, []⟩, ⟨(some 60), (.mv (.t 11)), none, 3, []⟩, ⟨(some 61), (.call (.c (.fn (.func 44) [] [])) [(.t 57), (.t 58), (.t 59), (.t 60)]), none, 4, []⟩, ⟨(some 56), (.mv (.t 61)), none, 5, []⟩, ⟨(some 62), (.ext (.t 56) 0), none, 6, []⟩, ⟨(some 63), (.ext (.t 56) 1), none, 7, []⟩, ⟨(some 64), (.ext (.t 56) 2), none, 8, []⟩, ⟨(some 65), (.ext (.t 56) 3), none, 9, []⟩, ⟨(some 8), (.mv (.t 62)), none, 10, []⟩, ⟨(some 9), (.mv (.t 63)), none, 11, []⟩, ⟨(some 10), (.mv (.t 64)), none, 12, []⟩, ⟨(some 11), (.mv (.t 65)), none, 13, []⟩])
  (.region [⟨(some 66), (.mv (.t 8)), none, 0, []⟩, ⟨(some 67), (.mv (.t 12)), none, 1, []⟩, ⟨(some 68), (.mv (.t 13)), none, 2, []⟩, ⟨(some 69), (.isl 1 (.t 67) (.t 68)), none, 3, []⟩, ⟨(some 70), (.load false 1 (.t 69)), none, 4, []⟩, ⟨(some 71), (.bin .xor (.t 66) (.t 70)), none, 5, []⟩, ⟨(some 8), (.mv (.t 71)), none, 6, []⟩])))))
  (.region [⟨(some 38), (.mv (.t 13)), none, 0, []⟩, ⟨(some 39), (.bin .add (.t 38) (.c (.i .i64 1))), none, 1, []⟩, ⟨(some 13), (.mv (.t 39)), none, 2, []⟩]))))))
  (.seq (.region [⟨(some 72), (.mv (.t 10)), none, 0, []⟩, ⟨(some 73), (.bin .xor (.t 72) (.c (.i .u64 255))), none, 1, []⟩, ⟨(some 10), (.mv (.t 73)), none, 2, []⟩])
  (.seq (.seq (.region [⟨(some 14), (.mv (.c (.i .i64 0))), none, 0, []⟩])
  (.block 2 (.loop (.seq (.seq (.region [⟨(some 74), (.mv (.t 14)), none, 0, []⟩, ⟨(some 75), (.bin .lss (.t 74) (.c (.i .i64 4))), none, 1, []⟩])
  (.cond (.t 75) .skip (.exit 2)))
  (.seq (.block 3 (.region [⟨(some 79), (.mv (.t 8)), none, 0, []⟩, ⟨(some 80), (.mv (.t 9)), none, 1, []⟩, ⟨(some 81), (.mv (.t 10)), none, 2, []⟩, ⟨(some 82), (.mv (.t 11)), none, 3, []⟩, ⟨(some 83), (.call (.c (.fn (.func 44) [] [])) [(.t 79), (.t 80), (.t 81), (.t 82)]), none, 4, []⟩, ⟨(some 78), (.mv (.t 83)), none, 5, []⟩, ⟨(some 84), (.ext (.t 78) 0), none, 6, []⟩, ⟨(some 85), (.ext (.t 78) 1), none, 7, []⟩, ⟨(some 86), (.ext (.t 78) 2), none, 8, []⟩, ⟨(some 87), (.ext (.t 78) 3), none, 9, []⟩, ⟨(some 8), (.mv (.t 84)), none, 10, []⟩, ⟨(some 9), (.mv (.t 85)), none, 11, []⟩, ⟨(some 10), (.mv (.t 86)), none, 12, []⟩, ⟨(some 11), (.mv (.t 87)), none, 13, []⟩]))
  (.region [⟨(some 76), (.mv (.t 14)), none, 0, []⟩, ⟨(some 77), (.bin .add (.t 76) (.c (.i .i64 1))), none, 1, []⟩, ⟨(some 14), (.mv (.t 77)), none, 2, []⟩]))))))
  (.seq (.region [⟨(some 88), (.mv (.t 8)), none, 0, []⟩, ⟨(some 89), (.mv (.t 9)), none, 1, []⟩, ⟨(some 90), (.bin .xor (.t 88) (.t 89)), none, 2, []⟩, ⟨(some 91), (.mv (.t 10)), none, 3, []⟩, ⟨(some 92), (.bin .xor (.t 90) (.t 91)), none, 4, []⟩, ⟨(some 93), (.mv (.t 11)), none, 5, []⟩, ⟨(some 94), (.bin .xor (.t 92) (.t 93)), none, 6, []⟩, ⟨(some 4), (.mv (.t 94)), none, 7, []⟩, ⟨(some 5), (.mv (.c (.b true))), none, 8, []⟩])
  .ret)))))))))))))
def x38 : XFun := ⟨x38b, [(.t 4), (.t 5)]⟩
theorem x38_ok : compF Try.prog 38 = some x38 := by kernel_rfl
/-- slices.Clone[[]byte,byte] (8) -/
def x39b : XC := (.seq (.region [⟨(some 2), (.mv (.c (.sl none 0 0 0))), none, 0, []⟩])
  (.seq (.seq (.region [⟨(some 3), (.mv (.t 0)), none, 0, []⟩, ⟨(some 4), (.nilq 1 false (.t 3)), none, 1, []⟩])
  (.cond (.t 4) (.seq (.region [⟨(some 2), (.mv (.c (.sl none 0 0 0))), none, 0, []⟩])
  .ret) .skip))
  (.seq (.region [⟨(some 5), (.bslice [] [] 0), none, 0, []⟩, ⟨(some 6), (.mv (.t 0)), none, 1, []⟩, ⟨(some 7), (.append 1 1 (.t 5) (.t 6)), none, 2, []⟩, ⟨(some 2), (.mv (.t 7)), none, 3, []⟩])
  .ret)))
def x39 : XFun := ⟨x39b, [(.t 2)]⟩
theorem x39_ok : compF Try.prog 39 = some x39 := by kernel_rfl
/-- (*bollard/octet.Reader).take (39) -/
def x40b : XC := (.seq (.region [⟨(some 4), (.mv (.c (.sl none 0 0 0))), none, 0, []⟩, ⟨(some 5), (.mv (.c (.i .i64 0))), none, 1, []⟩])
  (.seq (.block 0 (.seq (.region [⟨(some 8), (.mv (.t 0)), none, 0, []⟩, ⟨(some 9), (.nilq 0 false (.t 8)), none, 1, []⟩, ⟨(some 10), (.mv (.t 9)), none, 2, []⟩, ⟨(some 11), (.mv (.t 1)), (some (10, false)), 3, []⟩, ⟨(some 12), (.bin .lss (.t 11) (.c (.i .i64 0))), (some (10, false)), 4, []⟩, ⟨(some 13), (.pick (.t 10) (.c (.b true)) (.t 12)), none, 5, []⟩, ⟨(some 7), (.mv (.t 13)), none, 6, []⟩])
  (.cond (.t 7) (.seq (.region [⟨(some 4), (.mv (.c (.sl none 0 0 0))), none, 0, []⟩, ⟨(some 5), (.mv (.c (.i .i64 1))), none, 1, []⟩])
  .ret) (.seq (.region [⟨(some 15), (.mv (.t 1)), none, 0, []⟩, ⟨(some 16), (.mv (.t 0)), none, 1, []⟩, ⟨(some 17), (.nilc (.t 16)), none, 2, []⟩, ⟨(some 18), (.fadd 0 (.t 17)), none, 3, []⟩, ⟨(some 19), (.load false 1 (.t 18)), none, 4, []⟩, ⟨(some 20), (.lenx (.t 19)), none, 5, []⟩, ⟨(some 21), (.bin .gtr (.t 15) (.t 20)), none, 6, []⟩, ⟨(some 14), (.mv (.t 21)), none, 7, []⟩])
  (.cond (.t 14) (.seq (.region [⟨(some 4), (.mv (.c (.sl none 0 0 0))), none, 0, []⟩, ⟨(some 5), (.mv (.c (.i .i64 2))), none, 1, []⟩])
  .ret) .skip)))))
  (.seq (.region [⟨(some 22), (.mv (.t 0)), none, 0, []⟩, ⟨(some 23), (.nilc (.t 22)), none, 1, []⟩, ⟨(some 24), (.fadd 0 (.t 23)), none, 2, []⟩, ⟨(some 25), (.load false 1 (.t 24)), none, 3, []⟩, ⟨(some 26), (.mv (.t 1)), none, 4, []⟩, ⟨(some 27), (.mv (.t 1)), none, 5, []⟩, ⟨(some 28), (.slsl 1 (.t 25) none (some (.t 26)) (some (.t 27))), none, 6, []⟩, ⟨(some 6), (.mv (.t 28)), none, 7, []⟩])
  (.seq (.region [⟨(some 29), (.mv (.t 0)), none, 0, []⟩, ⟨(some 30), (.mv (.t 0)), none, 1, []⟩, ⟨(some 31), (.nilc (.t 30)), none, 2, []⟩, ⟨(some 32), (.fadd 0 (.t 31)), none, 3, []⟩, ⟨(some 33), (.load false 1 (.t 32)), none, 4, []⟩, ⟨(some 34), (.mv (.t 1)), none, 5, []⟩, ⟨(some 35), (.slsl 1 (.t 33) (some (.t 34)) none none), none, 6, []⟩, ⟨(some 36), (.nilc (.t 29)), none, 7, []⟩, ⟨(some 37), (.fadd 0 (.t 36)), none, 8, []⟩, ⟨none, (.store 1 (.t 37) (.t 35)), none, 9, []⟩])
  (.seq (.region [⟨(some 38), (.mv (.t 6)), none, 0, []⟩, ⟨(some 4), (.mv (.t 38)), none, 1, []⟩, ⟨(some 5), (.mv (.c (.i .i64 0))), none, 2, []⟩])
  .ret)))))
def x40 : XFun := ⟨x40b, [(.t 4), (.t 5)]⟩
theorem x40_ok : compF Try.prog 40 = some x40 := by kernel_rfl
/-- math/bits.RotateLeft64 (17) -/
def x41b : XC := (.seq (.region [⟨(some 4), (.mv (.c (.i .u64 0))), none, 0, []⟩])
  (.seq (.region [⟨(some 6), (.mv (.t 1)), none, 0, []⟩, ⟨(some 7), (.cint .u64 (.t 6)), none, 1, []⟩, ⟨(some 8), (.bin .and (.t 7) (.c (.i .u64 63))), none, 2, []⟩, ⟨(some 5), (.mv (.t 8)), none, 3, []⟩])
  (.seq (.region [⟨(some 9), (.mv (.t 0)), none, 0, []⟩, ⟨(some 10), (.mv (.t 5)), none, 1, []⟩, ⟨(some 11), (.bin .shl (.t 9) (.t 10)), none, 2, []⟩, ⟨(some 12), (.mv (.t 0)), none, 3, []⟩, ⟨(some 13), (.mv (.t 5)), none, 4, []⟩, ⟨(some 14), (.bin .sub (.c (.i .u64 64)) (.t 13)), none, 5, []⟩, ⟨(some 15), (.bin .shr (.t 12) (.t 14)), none, 6, []⟩, ⟨(some 16), (.bin .or (.t 11) (.t 15)), none, 7, []⟩, ⟨(some 4), (.mv (.t 16)), none, 8, []⟩])
  .ret)))
def x41 : XFun := ⟨x41b, [(.t 4)]⟩
theorem x41_ok : compF Try.prog 41 = some x41 := by kernel_rfl
/-- bollard/bollardref04.number (21) -/
def x42b : XC := (.seq (.region [⟨(some 2), (.mv (.c (.i .u64 0))), none, 0, []⟩])
  (.seq (.region [⟨(some 3), (.mv (.c (.i .u64 0))), none, 0, []⟩])
  (.seq (.seq (.region [⟨(some 5), (.mv (.t 0)), none, 0, []⟩, ⟨(some 6), (.lenx (.t 5)), none, 1, []⟩, ⟨(some 7), (.bin .sub (.t 6) (.c (.i .i64 1))), none, 2, []⟩, ⟨(some 4), (.mv (.t 7)), none, 3, []⟩])
  (.block 0 (.loop (.seq (.seq (.region [⟨(some 8), (.mv (.t 4)), none, 0, []⟩, ⟨(some 9), (.bin .geq (.t 8) (.c (.i .i64 0))), none, 1, []⟩])
  (.cond (.t 9) .skip (.exit 0)))
  (.seq (.block 1 (.region [⟨(some 12), (.mv (.t 3)), none, 0, []⟩, ⟨(some 13), (.bin .mul (.t 12) (.c (.i .u64 256))), none, 1, []⟩, ⟨(some 14), (.mv (.t 0)), none, 2, []⟩, ⟨(some 15), (.mv (.t 4)), none, 3, []⟩, ⟨(some 16), (.isl 1 (.t 14) (.t 15)), none, 4, []⟩, ⟨(some 17), (.load false 1 (.t 16)), none, 5, []⟩, ⟨(some 18), (.cint .u64 (.t 17)), none, 6, []⟩, ⟨(some 19), (.bin .add (.t 13) (.t 18)), none, 7, []⟩, ⟨(some 3), (.mv (.t 19)), none, 8, []⟩]))
  (.region [⟨(some 10), (.mv (.t 4)), none, 0, []⟩, ⟨(some 11), (.bin .sub (.t 10) (.c (.i .i64 1))), none, 1, []⟩, ⟨(some 4), (.mv (.t 11)), none, 2, []⟩]))))))
  (.seq (.region [⟨(some 20), (.mv (.t 3)), none, 0, []⟩, ⟨(some 2), (.mv (.t 20)), none, 1, []⟩])
  .ret))))
def x42 : XFun := ⟨x42b, [(.t 2)]⟩
theorem x42_ok : compF Try.prog 42 = some x42 := by kernel_rfl
/-- bollard/bollardref04.Words (39) -/
def x43b : XC := (.seq (.region [⟨(some 2), (.mv (.c (.sl none 0 0 0))), none, 0, []⟩])
  (.seq (.region [⟨(some 3), (.mv (.c (.sl none 0 0 0))), none, 0, []⟩])
  (.seq (.region [⟨(some 6), (.mv (.t 0)), none, 0, []⟩, ⟨(some 7), (.lenx (.t 6)), none, 1, []⟩, ⟨(some 8), (.bin .quo (.t 7) (.c (.i .i64 8))), none, 2, []⟩, ⟨(some 4), (.mv (.t 8)), none, 3, []⟩])
  (.seq (.seq (.region [⟨(some 5), (.mv (.c (.i .i64 0))), none, 0, []⟩])
  (.block 0 (.loop (.seq (.seq (.region [⟨(some 9), (.mv (.t 5)), none, 0, []⟩, ⟨(some 10), (.mv (.t 4)), none, 1, []⟩, ⟨(some 11), (.bin .lss (.t 9) (.t 10)), none, 2, []⟩])
  (.cond (.t 11) .skip (.exit 0)))
  (.seq (.block 1 (.region [⟨(some 14), (.mv (.t 3)), none, 0, []⟩, ⟨(some 15), (.mv (.t 0)), none, 1, []⟩, ⟨(some 16), (.mv (.t 5)), none, 2, []⟩, ⟨(some 17), (.bin .mul (.c (.i .i64 8)) (.t 16)), none, 3, []⟩, ⟨(some 18), (.mv (.t 5)), none, 4, []⟩, ⟨(some 19), (.bin .mul (.c (.i .i64 8)) (.t 18)), none, 5, []⟩, ⟨(some 20), (.bin .add (.t 19) (.c (.i .i64 8))), none, 6, []⟩, ⟨(some 21), (.slsl 1 (.t 15) (some (.t 17)) (some (.t 20)) none), none, 7, []⟩, ⟨(some 22), (.call (.c (.fn (.func 42) [] [])) [(.t 21)]), none, 8, []⟩, ⟨(some 23), (.bslice [(.i .u64 0)] [(0, 1, (.t 22))] 1), none, 9, []⟩, ⟨(some 24), (.append 1 8 (.t 14) (.t 23)), none, 10, []⟩, ⟨(some 3), (.mv (.t 24)), none, 11, []⟩]))
  (.region [⟨(some 12), (.mv (.t 5)), none, 0, []⟩, ⟨(some 13), (.bin .add (.t 12) (.c (.i .i64 1))), none, 1, []⟩, ⟨(some 5), (.mv (.t 13)), none, 2, []⟩]))))))
  (.seq (.region [⟨(some 25), (.mv (.t 3)), none, 0, []⟩, ⟨(some 26), (.mv (.t 0)), none, 1, []⟩, ⟨(some 27), (.mv (.t 4)), none, 2, []⟩, ⟨(some 28), (.bin .mul (.c (.i .i64 8)) (.t 27)), none, 3, []⟩, ⟨(some 29), (.slsl 1 (.t 26) (some (.t 28)) none none), none, 4, []⟩, ⟨(some 30), (.call (.c (.fn (.func 42) [] [])) [(.t 29)]), none, 5, []⟩, ⟨(some 31), (.mv (.t 0)), none, 6, []⟩, ⟨(some 32), (.lenx (.t 31)), none, 7, []⟩, ⟨(some 33), (.bin .rem (.t 32) (.c (.i .i64 256))), none, 8, []⟩, ⟨(some 34), (.cint .u64 (.t 33)), none, 9, []⟩, ⟨(some 35), (.bin .shl (.t 34) (.c (.i .u64 56))), none, 10, []⟩, ⟨(some 36), (.bin .add (.t 30) (.t 35)), none, 11, []⟩, ⟨(some 37), (.bslice [(.i .u64 0)] [(0, 1, (.t 36))] 1), none, 12, []⟩, ⟨(some 38), (.append 1 8 (.t 25) (.t 37)), none, 13, []⟩, ⟨(some 2), (.mv (.t 38)), none, 14, []⟩])
  .ret)))))
def x43 : XFun := ⟨x43b, [(.t 2)]⟩
theorem x43_ok : compF Try.prog 43 = some x43 := by kernel_rfl
/-- bollard/bollardref04.Round (52) -/
def x44b : XC := (.seq (.region [⟨(some 8), (.mv (.c (.i .u64 0))), none, 0, []⟩, ⟨(some 9), (.mv (.c (.i .u64 0))), none, 1, []⟩, ⟨(some 10), (.mv (.c (.i .u64 0))), none, 2, []⟩, ⟨(some 11), (.mv (.c (.i .u64 0))), none, 3, []⟩])
  (.seq (.region [⟨(some 12), (.mv (.t 0)), none, 0, []⟩, ⟨(some 13), (.mv (.t 1)), none, 1, []⟩, ⟨(some 14), (.bin .add (.t 12) (.t 13)), none, 2, []⟩, ⟨(some 0), (.mv (.t 14)), none, 3, []⟩])
  (.seq (.region [⟨(some 15), (.mv (.t 1)), none, 0, []⟩, ⟨(some 16), (.call (.c (.fn (.func 45) [] [])) [(.t 15), (.c (.i .i64 13))]), none, 1, []⟩, ⟨(some 1), (.mv (.t 16)), none, 2, []⟩])
  (.seq (.region [⟨(some 17), (.mv (.t 1)), none, 0, []⟩, ⟨(some 18), (.mv (.t 0)), none, 1, []⟩, ⟨(some 19), (.bin .xor (.t 17) (.t 18)), none, 2, []⟩, ⟨(some 1), (.mv (.t 19)), none, 3, []⟩])
  (.seq (.region [⟨(some 20), (.mv (.t 0)), none, 0, []⟩, ⟨(some 21), (.call (.c (.fn (.func 45) [] [])) [(.t 20), (.c (.i .i64 32))]), none, 1, []⟩, ⟨(some 0), (.mv (.t 21)), none, 2, []⟩])
  (.seq (.region [⟨(some 22), (.mv (.t 2)), none, 0, []⟩, ⟨(some 23), (.mv (.t 3)), none, 1, []⟩, ⟨(some 24), (.bin .add (.t 22) (.t 23)), none, 2, []⟩, ⟨(some 2), (.mv (.t 24)), none, 3, []⟩])
  (.seq (.region [⟨(some 25), (.mv (.t 3)), none, 0, []⟩, ⟨(some 26), (.call (.c (.fn (.func 45) [] [])) [(.t 25), (.c (.i .i64 16))]), none, 1, []⟩, ⟨(some 3), (.mv (.t 26)), none, 2, []⟩])
  (.seq (.region [⟨(some 27), (.mv (.t 3)), none, 0, []⟩, ⟨(some 28), (.mv (.t 2)), none, 1, []⟩, ⟨(some 29), (.bin .xor (.t 27) (.t 28)), none, 2, []⟩, ⟨(some 3), (.mv (.t 29)), none, 3, []⟩])
  (.seq (.region [⟨(some 30), (.mv (.t 0)), none, 0, []⟩, ⟨(some 31), (.mv (.t 3)), none, 1, []⟩, ⟨(some 32), (.bin .add (.t 30) (.t 31)), none, 2, []⟩, ⟨(some 0), (.mv (.t 32)), none, 3, []⟩])
  (.seq (.region [⟨(some 33), (.mv (.t 3)), none, 0, []⟩, ⟨(some 34), (.call (.c (.fn (.func 45) [] [])) [(.t 33), (.c (.i .i64 21))]), none, 1, []⟩, ⟨(some 3), (.mv (.t 34)), none, 2, []⟩])
  (.seq (.region [⟨(some 35), (.mv (.t 3)), none, 0, []⟩, ⟨(some 36), (.mv (.t 0)), none, 1, []⟩, ⟨(some 37), (.bin .xor (.t 35) (.t 36)), none, 2, []⟩, ⟨(some 3), (.mv (.t 37)), none, 3, []⟩])
  (.seq (.region [⟨(some 38), (.mv (.t 2)), none, 0, []⟩, ⟨(some 39), (.mv (.t 1)), none, 1, []⟩, ⟨(some 40), (.bin .add (.t 38) (.t 39)), none, 2, []⟩, ⟨(some 2), (.mv (.t 40)), none, 3, []⟩])
  (.seq (.region [⟨(some 41), (.mv (.t 1)), none, 0, []⟩, ⟨(some 42), (.call (.c (.fn (.func 45) [] [])) [(.t 41), (.c (.i .i64 17))]), none, 1, []⟩, ⟨(some 1), (.mv (.t 42)), none, 2, []⟩])
  (.seq (.region [⟨(some 43), (.mv (.t 1)), none, 0, []⟩, ⟨(some 44), (.mv (.t 2)), none, 1, []⟩, ⟨(some 45), (.bin .xor (.t 43) (.t 44)), none, 2, []⟩, ⟨(some 1), (.mv (.t 45)), none, 3, []⟩])
  (.seq (.region [⟨(some 46), (.mv (.t 2)), none, 0, []⟩, ⟨(some 47), (.call (.c (.fn (.func 45) [] [])) [(.t 46), (.c (.i .i64 32))]), none, 1, []⟩, ⟨(some 2), (.mv (.t 47)), none, 2, []⟩])
  (.seq (.region [⟨(some 48), (.mv (.t 0)), none, 0, []⟩, ⟨(some 49), (.mv (.t 1)), none, 1, []⟩, ⟨(some 50), (.mv (.t 2)), none, 2, []⟩, ⟨(some 51), (.mv (.t 3)), none, 3, []⟩, ⟨(some 8), (.mv (.t 48)), none, 4, []⟩, ⟨(some 9), (.mv (.t 49)), none, 5, []⟩, ⟨(some 10), (.mv (.t 50)), none, 6, []⟩, ⟨(some 11), (.mv (.t 51)), none, 7, []⟩])
  .ret))))))))))))))))
def x44 : XFun := ⟨x44b, [(.t 8), (.t 9), (.t 10), (.t 11)]⟩
theorem x44_ok : compF Try.prog 44 = some x44 := by kernel_rfl
/-- bollard/bollardref04.rotl (15) -/
def x45b : XC := (.seq (.region [⟨(some 4), (.mv (.c (.i .u64 0))), none, 0, []⟩])
  (.seq (.region [⟨(some 5), (.mv (.t 0)), none, 0, []⟩, ⟨(some 6), (.mv (.t 1)), none, 1, []⟩, ⟨(some 7), (.cint .u64 (.t 6)), none, 2, []⟩, ⟨(some 8), (.bin .shl (.t 5) (.t 7)), none, 3, []⟩, ⟨(some 9), (.mv (.t 0)), none, 4, []⟩, ⟨(some 10), (.mv (.t 1)), none, 5, []⟩, ⟨(some 11), (.bin .sub (.c (.i .i64 64)) (.t 10)), none, 6, []⟩, ⟨(some 12), (.cint .u64 (.t 11)), none, 7, []⟩, ⟨(some 13), (.bin .shr (.t 9) (.t 12)), none, 8, []⟩, ⟨(some 14), (.bin .or (.t 8) (.t 13)), none, 9, []⟩, ⟨(some 4), (.mv (.t 14)), none, 10, []⟩])
  .ret))
def x45 : XFun := ⟨x45b, [(.t 4)]⟩
theorem x45_ok : compF Try.prog 45 = some x45 := by kernel_rfl
def tab : Nat → Option XFun := fun g => match g with
  | 3 => some x3
  | 4 => some x4
  | 5 => some x5
  | 6 => some x6
  | 7 => some x7
  | 8 => some x8
  | 9 => some x9
  | 10 => some x10
  | 11 => some x11
  | 12 => some x12
  | 13 => some x13
  | 14 => some x14
  | 15 => some x15
  | 16 => some x16
  | 17 => some x17
  | 18 => some x18
  | 19 => some x19
  | 20 => some x20
  | 21 => some x21
  | 22 => some x22
  | 23 => some x23
  | 24 => some x24
  | 25 => some x25
  | 26 => some x26
  | 27 => some x27
  | 28 => some x28
  | 29 => some x29
  | 30 => some x30
  | 31 => some x31
  | 32 => some x32
  | 33 => some x33
  | 34 => some x34
  | 35 => some x35
  | 36 => some x36
  | 37 => some x37
  | 38 => some x38
  | 39 => some x39
  | 40 => some x40
  | 41 => some x41
  | 42 => some x42
  | 43 => some x43
  | 44 => some x44
  | 45 => some x45
  | _ => none
theorem tab_ok : TabOK Try.prog tab := by
  intro g F h
  unfold tab at h
  split at h
  · cases h; exact x3_ok
  · cases h; exact x4_ok
  · cases h; exact x5_ok
  · cases h; exact x6_ok
  · cases h; exact x7_ok
  · cases h; exact x8_ok
  · cases h; exact x9_ok
  · cases h; exact x10_ok
  · cases h; exact x11_ok
  · cases h; exact x12_ok
  · cases h; exact x13_ok
  · cases h; exact x14_ok
  · cases h; exact x15_ok
  · cases h; exact x16_ok
  · cases h; exact x17_ok
  · cases h; exact x18_ok
  · cases h; exact x19_ok
  · cases h; exact x20_ok
  · cases h; exact x21_ok
  · cases h; exact x22_ok
  · cases h; exact x23_ok
  · cases h; exact x24_ok
  · cases h; exact x25_ok
  · cases h; exact x26_ok
  · cases h; exact x27_ok
  · cases h; exact x28_ok
  · cases h; exact x29_ok
  · cases h; exact x30_ok
  · cases h; exact x31_ok
  · cases h; exact x32_ok
  · cases h; exact x33_ok
  · cases h; exact x34_ok
  · cases h; exact x35_ok
  · cases h; exact x36_ok
  · cases h; exact x37_ok
  · cases h; exact x38_ok
  · cases h; exact x39_ok
  · cases h; exact x40_ok
  · cases h; exact x41_ok
  · cases h; exact x42_ok
  · cases h; exact x43_ok
  · cases h; exact x44_ok
  · cases h; exact x45_ok
  · cases h
end Go.Proofs.Yteapgimihapefaa.E
