/- The compiled functions of the seat, as told by the evaluator's compiler; written by a program of this session, wip/eng/px.lean. It bears no condition. -/
import Derived.Test.YtfhbdddjclodhaaDoorE19
import Derived.Test.YtfhbdddjclodhaaDoorChecked
namespace Go.Proofs.YtfhbdddjclodhaaDoor.E
set_option linter.unusedVariables false
/-- bollard/bollardlaw18.DcepEncodes (42) -/
def x3b : XC := (.seq (.region [⟨(some 1), (.box (.t 0)), none, 0, []⟩, ⟨(some 2), (.mv (.c (.b false))), none, 1, []⟩])
  (.seq (.region [⟨(some 8), (.call (.c (.fn (.func 11) [] [])) []), none, 0, []⟩, ⟨(some 3), (.mv (.t 8)), none, 1, []⟩])
  (.seq (.seq (.region [⟨(some 9), (.fadd 3 (.t 1)), none, 0, []⟩, ⟨(some 10), (.load false 1 (.t 9)), none, 1, []⟩, ⟨(some 11), (.lens (.t 10)), none, 2, []⟩, ⟨(some 12), (.bin .gtr (.t 11) (.c (.i .i64 1000))), none, 3, []⟩, ⟨(some 13), (.mv (.t 12)), none, 4, []⟩, ⟨(some 14), (.fadd 4 (.t 1)), (some (13, false)), 5, []⟩, ⟨(some 15), (.load false 1 (.t 14)), (some (13, false)), 6, []⟩, ⟨(some 16), (.lens (.t 15)), (some (13, false)), 7, []⟩, ⟨(some 17), (.bin .gtr (.t 16) (.c (.i .i64 1000))), (some (13, false)), 8, []⟩, ⟨(some 18), (.pick (.t 13) (.c (.b true)) (.t 17)), none, 9, []⟩])
  (.cond (.t 18) (.seq (.region [⟨(some 19), (.mv (.t 3)), none, 0, []⟩, ⟨(some 2), (.mv (.t 19)), none, 1, []⟩])
  .ret) .skip))
  (.seq (.region [⟨(some 21), (.load true 5 (.t 1)), none, 0, []⟩, ⟨(some 22), (.call (.c (.fn (.func 12) [] [])) [(.t 21)]), none, 1, []⟩, ⟨(some 20), (.mv (.t 22)), none, 2, []⟩, ⟨(some 23), (.ext (.t 20) 0), none, 3, []⟩, ⟨(some 24), (.ext (.t 20) 1), none, 4, []⟩, ⟨(some 4), (.mv (.t 23)), none, 5, []⟩, ⟨(some 5), (.mv (.t 24)), none, 6, []⟩])
  (.seq (.region [⟨(some 26), (.load true 5 (.t 1)), none, 0, []⟩, ⟨(some 27), (.call (.c (.fn (.func 14) [] [])) [(.t 26)]), none, 1, []⟩, ⟨(some 28), (.call (.c (.fn (.func 13) [] [])) [(.t 27)]), none, 2, []⟩, ⟨(some 25), (.mv (.t 28)), none, 3, []⟩, ⟨(some 29), (.ext (.t 25) 0), none, 4, []⟩, ⟨(some 30), (.ext (.t 25) 1), none, 5, []⟩, ⟨(some 6), (.mv (.t 29)), none, 6, []⟩, ⟨(some 7), (.mv (.t 30)), none, 7, []⟩])
  (.seq (.region [⟨(some 31), (.mv (.t 3)), none, 0, []⟩, ⟨(some 32), (.mv (.t 31)), none, 1, []⟩, ⟨(some 33), (.mv (.t 5)), (some (32, true)), 2, []⟩, ⟨(some 34), (.mv (.t 7)), (some (32, true)), 3, []⟩, ⟨(some 35), (.bin .eql (.t 33) (.t 34)), (some (32, true)), 4, []⟩, ⟨(some 36), (.pick (.t 32) (.t 35) (.c (.b false))), none, 5, []⟩, ⟨(some 37), (.mv (.t 36)), none, 6, []⟩, ⟨(some 38), (.mv (.t 4)), (some (37, true)), 7, []⟩, ⟨(some 39), (.mv (.t 6)), (some (37, true)), 8, []⟩, ⟨(some 40), (.call (.c (.fn (.func 15) [] [])) [(.t 38), (.t 39)]), (some (37, true)), 9, []⟩, ⟨(some 41), (.pick (.t 37) (.t 40) (.c (.b false))), none, 10, []⟩, ⟨(some 2), (.mv (.t 41)), none, 11, []⟩])
  .ret))))))
def x3 : XFun := ⟨x3b, [(.t 2)]⟩
theorem x3_ok : compF Tryd.prog 3 = some x3 := by kernel_rfl
/-- bollard/bollardlaw18.DcepDecodes (34) -/
def x4b : XC := (.seq (.region [⟨(some 2), (.mv (.c (.b false))), none, 0, []⟩])
  (.seq (.region [⟨(some 8), (.call (.c (.fn (.func 11) [] [])) []), none, 0, []⟩, ⟨(some 3), (.mv (.t 8)), none, 1, []⟩])
  (.seq (.seq (.region [⟨(some 9), (.mv (.t 0)), none, 0, []⟩, ⟨(some 10), (.lenx (.t 9)), none, 1, []⟩, ⟨(some 11), (.bin .gtr (.t 10) (.c (.i .i64 1000))), none, 2, []⟩])
  (.cond (.t 11) (.seq (.region [⟨(some 12), (.mv (.t 3)), none, 0, []⟩, ⟨(some 2), (.mv (.t 12)), none, 1, []⟩])
  .ret) .skip))
  (.seq (.region [⟨(some 14), (.mv (.t 0)), none, 0, []⟩, ⟨(some 15), (.call (.c (.fn (.func 16) [] [])) [(.t 14)]), none, 1, []⟩, ⟨(some 13), (.mv (.t 15)), none, 2, []⟩, ⟨(some 16), (.ext (.t 13) 0), none, 3, []⟩, ⟨(some 17), (.ext (.t 13) 1), none, 4, []⟩, ⟨(some 4), (.alloc [(.i .u8 0), (.i .u16 0), (.i .u32 0), (.s ⟨#[]⟩), (.s ⟨#[]⟩)]), none, 5, []⟩, ⟨none, (.store 5 (.t 4) (.t 16)), none, 6, []⟩, ⟨(some 5), (.mv (.t 17)), none, 7, []⟩])
  (.seq (.region [⟨(some 19), (.mv (.t 0)), none, 0, []⟩, ⟨(some 20), (.call (.c (.fn (.func 17) [] [])) [(.t 19)]), none, 1, []⟩, ⟨(some 18), (.mv (.t 20)), none, 2, []⟩, ⟨(some 21), (.ext (.t 18) 0), none, 3, []⟩, ⟨(some 22), (.ext (.t 18) 1), none, 4, []⟩, ⟨(some 6), (.alloc [(.i .u8 0), (.i .u16 0), (.i .u32 0), (.s ⟨#[]⟩), (.s ⟨#[]⟩)]), none, 5, []⟩, ⟨none, (.store 5 (.t 6) (.t 21)), none, 6, []⟩, ⟨(some 7), (.mv (.t 22)), none, 7, []⟩])
  (.seq (.region [⟨(some 23), (.mv (.t 3)), none, 0, []⟩, ⟨(some 24), (.mv (.t 23)), none, 1, []⟩, ⟨(some 25), (.mv (.t 5)), (some (24, true)), 2, []⟩, ⟨(some 26), (.mv (.t 7)), (some (24, true)), 3, []⟩, ⟨(some 27), (.bin .eql (.t 25) (.t 26)), (some (24, true)), 4, []⟩, ⟨(some 28), (.pick (.t 24) (.t 27) (.c (.b false))), none, 5, []⟩, ⟨(some 29), (.mv (.t 28)), none, 6, []⟩, ⟨(some 30), (.load true 5 (.t 4)), (some (29, true)), 7, []⟩, ⟨(some 31), (.load true 5 (.t 6)), (some (29, true)), 8, []⟩, ⟨(some 32), (.call (.c (.fn (.func 18) [] [])) [(.t 30), (.t 31)]), (some (29, true)), 9, []⟩, ⟨(some 33), (.pick (.t 29) (.t 32) (.c (.b false))), none, 10, []⟩, ⟨(some 2), (.mv (.t 33)), none, 11, []⟩])
  .ret))))))
def x4 : XFun := ⟨x4b, [(.t 2)]⟩
theorem x4_ok : compF Tryd.prog 4 = some x4 := by kernel_rfl
/-- bollard/bollardlaw18.DcepBack (87) -/
def x5b : XC := (.seq (.region [⟨(some 2), (.box (.t 0)), none, 0, []⟩, ⟨(some 4), (.mv (.c (.b false))), none, 1, []⟩])
  (.seq (.region [⟨(some 14), (.call (.c (.fn (.func 11) [] [])) []), none, 0, []⟩, ⟨(some 5), (.mv (.t 14)), none, 1, []⟩])
  (.seq (.seq (.region [⟨(some 15), (.fadd 3 (.t 2)), none, 0, []⟩, ⟨(some 16), (.load false 1 (.t 15)), none, 1, []⟩, ⟨(some 17), (.lens (.t 16)), none, 2, []⟩, ⟨(some 18), (.bin .gtr (.t 17) (.c (.i .i64 1000))), none, 3, []⟩, ⟨(some 19), (.mv (.t 18)), none, 4, []⟩, ⟨(some 20), (.fadd 4 (.t 2)), (some (19, false)), 5, []⟩, ⟨(some 21), (.load false 1 (.t 20)), (some (19, false)), 6, []⟩, ⟨(some 22), (.lens (.t 21)), (some (19, false)), 7, []⟩, ⟨(some 23), (.bin .gtr (.t 22) (.c (.i .i64 1000))), (some (19, false)), 8, []⟩, ⟨(some 24), (.pick (.t 19) (.c (.b true)) (.t 23)), none, 9, []⟩, ⟨(some 25), (.mv (.t 24)), none, 10, []⟩, ⟨(some 26), (.mv (.t 1)), (some (25, false)), 11, []⟩, ⟨(some 27), (.lenx (.t 26)), (some (25, false)), 12, []⟩, ⟨(some 28), (.bin .gtr (.t 27) (.c (.i .i64 1000))), (some (25, false)), 13, []⟩, ⟨(some 29), (.pick (.t 25) (.c (.b true)) (.t 28)), none, 14, []⟩])
  (.cond (.t 29) (.seq (.region [⟨(some 30), (.mv (.t 5)), none, 0, []⟩, ⟨(some 4), (.mv (.t 30)), none, 1, []⟩])
  .ret) .skip))
  (.seq (.region [⟨(some 32), (.load true 5 (.t 2)), none, 0, []⟩, ⟨(some 33), (.call (.c (.fn (.func 12) [] [])) [(.t 32)]), none, 1, []⟩, ⟨(some 31), (.mv (.t 33)), none, 2, []⟩, ⟨(some 34), (.ext (.t 31) 0), none, 3, []⟩, ⟨(some 35), (.ext (.t 31) 1), none, 4, []⟩, ⟨(some 6), (.mv (.t 34)), none, 5, []⟩, ⟨(some 7), (.mv (.t 35)), none, 6, []⟩])
  (.seq (.region [⟨(some 37), (.mv (.t 6)), none, 0, []⟩, ⟨(some 38), (.call (.c (.fn (.func 16) [] [])) [(.t 37)]), none, 1, []⟩, ⟨(some 36), (.mv (.t 38)), none, 2, []⟩, ⟨(some 39), (.ext (.t 36) 0), none, 3, []⟩, ⟨(some 40), (.ext (.t 36) 1), none, 4, []⟩, ⟨(some 8), (.alloc [(.i .u8 0), (.i .u16 0), (.i .u32 0), (.s ⟨#[]⟩), (.s ⟨#[]⟩)]), none, 5, []⟩, ⟨none, (.store 5 (.t 8) (.t 39)), none, 6, []⟩, ⟨(some 9), (.mv (.t 40)), none, 7, []⟩])
  (.seq (.seq (.draw [⟨(some 41), (.mv (.t 7)), none, 0, []⟩, ⟨(some 42), (.bin .eql (.t 41) (.c (.i .i64 0))), none, 1, [0]⟩, ⟨(some 43), (.mv (.t 42)), none, 2, [0, 1]⟩, ⟨(some 44), (.mv (.t 9)), (some (43, true)), 3, [0, 1, 2]⟩, ⟨(some 45), (.bin .neq (.t 44) (.c (.i .i64 0))), (some (43, true)), 4, [0, 1, 2, 3]⟩, ⟨(some 46), (.mv (.t 45)), (some (43, true)), 5, [0, 1, 2, 3, 4]⟩, ⟨(some 47), (.load true 5 (.t 8)), (some (46, false)), 6, [0, 1, 2, 3, 4, 5]⟩, ⟨(some 48), (.load true 5 (.t 2)), (some (46, false)), 7, [0, 1, 2, 3, 4, 5]⟩, ⟨(some 49), (.call (.c (.fn (.func 14) [] [])) [(.t 48)]), (some (46, false)), 8, [0, 1, 2, 3, 4, 5, 7]⟩, ⟨(some 50), (.call (.c (.fn (.func 18) [] [])) [(.t 47), (.t 49)]), (some (46, false)), 9, [0, 1, 2, 3, 4, 5, 6, 7, 8]⟩, ⟨(some 51), (.unx .not (.t 50)), (some (46, false)), 10, [0, 1, 2, 3, 4, 5, 6, 7, 8, 9]⟩, ⟨(some 52), (.pick (.t 46) (.c (.b true)) (.t 51)), (some (43, true)), 11, [0, 1, 2, 3, 4, 5, 6, 7, 8, 9, 10]⟩, ⟨(some 53), (.pick (.t 43) (.t 52) (.c (.b false))), none, 12, [0, 1, 2, 3, 4, 5, 6, 7, 8, 9, 10, 11]⟩])
  (.cond (.t 53) (.seq (.region [⟨(some 4), (.mv (.c (.b false))), none, 0, []⟩])
  .ret) .skip))
  (.seq (.region [⟨(some 55), (.mv (.t 1)), none, 0, []⟩, ⟨(some 56), (.call (.c (.fn (.func 16) [] [])) [(.t 55)]), none, 1, []⟩, ⟨(some 54), (.mv (.t 56)), none, 2, []⟩, ⟨(some 57), (.ext (.t 54) 0), none, 3, []⟩, ⟨(some 58), (.ext (.t 54) 1), none, 4, []⟩, ⟨(some 10), (.alloc [(.i .u8 0), (.i .u16 0), (.i .u32 0), (.s ⟨#[]⟩), (.s ⟨#[]⟩)]), none, 5, []⟩, ⟨none, (.store 5 (.t 10) (.t 57)), none, 6, []⟩, ⟨(some 11), (.mv (.t 58)), none, 7, []⟩])
  (.seq (.region [⟨(some 60), (.load true 5 (.t 10)), none, 0, []⟩, ⟨(some 61), (.call (.c (.fn (.func 12) [] [])) [(.t 60)]), none, 1, []⟩, ⟨(some 59), (.mv (.t 61)), none, 2, []⟩, ⟨(some 62), (.ext (.t 59) 0), none, 3, []⟩, ⟨(some 63), (.ext (.t 59) 1), none, 4, []⟩, ⟨(some 12), (.mv (.t 62)), none, 5, []⟩, ⟨(some 13), (.mv (.t 63)), none, 6, []⟩])
  (.seq (.region [⟨(some 64), (.mv (.t 5)), none, 0, []⟩, ⟨(some 65), (.mv (.t 64)), none, 1, []⟩, ⟨(some 66), (.mv (.t 7)), (some (65, true)), 2, []⟩, ⟨(some 67), (.bin .eql (.t 66) (.c (.i .i64 0))), (some (65, true)), 3, []⟩, ⟨(some 68), (.mv (.t 67)), (some (65, true)), 4, []⟩, ⟨(some 69), (.mv (.t 6)), (some (68, false)), 5, []⟩, ⟨(some 70), (.lenx (.t 69)), (some (68, false)), 6, []⟩, ⟨(some 71), (.bin .eql (.t 70) (.c (.i .i64 0))), (some (68, false)), 7, []⟩, ⟨(some 72), (.pick (.t 68) (.c (.b true)) (.t 71)), (some (65, true)), 8, []⟩, ⟨(some 73), (.pick (.t 65) (.t 72) (.c (.b false))), none, 9, []⟩, ⟨(some 74), (.mv (.t 73)), none, 10, []⟩, ⟨(some 75), (.mv (.t 11)), (some (74, true)), 11, []⟩, ⟨(some 76), (.bin .neq (.t 75) (.c (.i .i64 0))), (some (74, true)), 12, []⟩, ⟨(some 77), (.mv (.t 76)), (some (74, true)), 13, []⟩, ⟨(some 78), (.mv (.t 13)), (some (77, false)), 14, []⟩, ⟨(some 79), (.bin .eql (.t 78) (.c (.i .i64 0))), (some (77, false)), 15, []⟩, ⟨(some 80), (.mv (.t 79)), (some (77, false)), 16, []⟩, ⟨(some 81), (.mv (.t 12)), (some (80, true)), 17, []⟩, ⟨(some 82), (.mv (.t 1)), (some (80, true)), 18, []⟩, ⟨(some 83), (.call (.c (.fn (.func 15) [] [])) [(.t 81), (.t 82)]), (some (80, true)), 19, []⟩, ⟨(some 84), (.pick (.t 80) (.t 83) (.c (.b false))), (some (77, false)), 20, []⟩, ⟨(some 85), (.pick (.t 77) (.c (.b true)) (.t 84)), (some (74, true)), 21, []⟩, ⟨(some 86), (.pick (.t 74) (.t 85) (.c (.b false))), none, 22, []⟩, ⟨(some 4), (.mv (.t 86)), none, 23, []⟩])
  .ret)))))))))
def x5 : XFun := ⟨x5b, [(.t 4)]⟩
theorem x5_ok : compF Tryd.prog 5 = some x5 := by kernel_rfl
/-- bollard/bollardlaw18.DcepWraps (98) -/
def x6b : XC := (.seq (.region [⟨(some 6), (.mv (.c (.b false))), none, 0, []⟩])
  (.seq (.region [⟨(some 20), (.call (.c (.fn (.func 11) [] [])) []), none, 0, []⟩, ⟨(some 7), (.mv (.t 20)), none, 1, []⟩])
  (.seq (.seq (.region [⟨(some 21), (.mv (.t 1)), none, 0, []⟩, ⟨(some 22), (.lenx (.t 21)), none, 1, []⟩, ⟨(some 23), (.bin .gtr (.t 22) (.c (.i .i64 1000))), none, 2, []⟩])
  (.cond (.t 23) (.seq (.region [⟨(some 24), (.mv (.t 7)), none, 0, []⟩, ⟨(some 6), (.mv (.t 24)), none, 1, []⟩])
  .ret) .skip))
  (.seq (.region [⟨(some 26), (.mv (.t 0)), none, 0, []⟩, ⟨(some 27), (.mv (.t 1)), none, 1, []⟩, ⟨(some 28), (.call (.c (.fn (.func 19) [] [])) [(.t 26), (.t 27)]), none, 2, []⟩, ⟨(some 25), (.mv (.t 28)), none, 3, []⟩, ⟨(some 29), (.ext (.t 25) 0), none, 4, []⟩, ⟨(some 30), (.ext (.t 25) 1), none, 5, []⟩, ⟨(some 8), (.mv (.t 29)), none, 6, []⟩, ⟨(some 9), (.mv (.t 30)), none, 7, []⟩])
  (.seq (.region [⟨(some 32), (.mv (.t 8)), none, 0, []⟩, ⟨(some 33), (.mv (.t 9)), none, 1, []⟩, ⟨(some 34), (.call (.c (.fn (.func 20) [] [])) [(.t 32), (.t 33)]), none, 2, []⟩, ⟨(some 31), (.mv (.t 34)), none, 3, []⟩, ⟨(some 35), (.ext (.t 31) 0), none, 4, []⟩, ⟨(some 36), (.ext (.t 31) 1), none, 5, []⟩, ⟨(some 37), (.ext (.t 31) 2), none, 6, []⟩, ⟨(some 10), (.mv (.t 35)), none, 7, []⟩, ⟨(some 11), (.mv (.t 36)), none, 8, []⟩, ⟨(some 12), (.mv (.t 37)), none, 9, []⟩])
  (.seq (.region [⟨(some 39), (.mv (.t 2)), none, 0, []⟩, ⟨(some 40), (.mv (.t 1)), none, 1, []⟩, ⟨(some 41), (.call (.c (.fn (.func 20) [] [])) [(.t 39), (.t 40)]), none, 2, []⟩, ⟨(some 38), (.mv (.t 41)), none, 3, []⟩, ⟨(some 42), (.ext (.t 38) 0), none, 4, []⟩, ⟨(some 43), (.ext (.t 38) 1), none, 5, []⟩, ⟨(some 44), (.ext (.t 38) 2), none, 6, []⟩, ⟨(some 13), (.mv (.t 42)), none, 7, []⟩, ⟨(some 14), (.mv (.t 43)), none, 8, []⟩, ⟨(some 15), (.mv (.t 44)), none, 9, []⟩])
  (.seq (.region [⟨(some 46), (.mv (.t 2)), none, 0, []⟩, ⟨(some 47), (.mv (.t 1)), none, 1, []⟩, ⟨(some 48), (.call (.c (.fn (.func 21) [] [])) [(.t 46), (.t 47)]), none, 2, []⟩, ⟨(some 45), (.mv (.t 48)), none, 3, []⟩, ⟨(some 49), (.ext (.t 45) 0), none, 4, []⟩, ⟨(some 50), (.ext (.t 45) 1), none, 5, []⟩, ⟨(some 51), (.ext (.t 45) 2), none, 6, []⟩, ⟨(some 16), (.mv (.t 49)), none, 7, []⟩, ⟨(some 17), (.mv (.t 50)), none, 8, []⟩, ⟨(some 18), (.mv (.t 51)), none, 9, []⟩])
  (.seq (.region [⟨(some 19), (.mv (.c (.i .u32 53))), none, 0, []⟩])
  (.seq (.seq (.region [⟨(some 52), (.mv (.t 0)), none, 0, []⟩])
  (.cond (.t 52) (.region [⟨(some 19), (.mv (.c (.i .u32 51))), none, 0, []⟩]) .skip))
  (.seq (.seq (.region [⟨(some 53), (.mv (.t 1)), none, 0, []⟩, ⟨(some 54), (.lenx (.t 53)), none, 1, []⟩, ⟨(some 55), (.bin .eql (.t 54) (.c (.i .i64 0))), none, 2, []⟩])
  (.cond (.t 55) (.seq (.region [⟨(some 56), (.mv (.t 19)), none, 0, []⟩, ⟨(some 57), (.bin .add (.t 56) (.c (.i .u32 4))), none, 1, []⟩, ⟨(some 19), (.mv (.t 57)), none, 2, []⟩])
  (.seq (.region [⟨(some 58), (.mv (.t 0)), none, 0, []⟩])
  (.cond (.t 58) (.region [⟨(some 19), (.mv (.c (.i .u32 56))), none, 0, []⟩]) .skip))) .skip))
  (.seq (.region [⟨(some 59), (.mv (.t 7)), none, 0, []⟩, ⟨(some 60), (.mv (.t 59)), none, 1, []⟩, ⟨(some 61), (.mv (.t 8)), (some (60, true)), 2, []⟩, ⟨(some 62), (.mv (.t 19)), (some (60, true)), 3, []⟩, ⟨(some 63), (.bin .eql (.t 61) (.t 62)), (some (60, true)), 4, []⟩, ⟨(some 64), (.pick (.t 60) (.t 63) (.c (.b false))), none, 5, []⟩, ⟨(some 65), (.mv (.t 64)), none, 6, []⟩, ⟨(some 66), (.mv (.t 9)), (some (65, true)), 7, []⟩, ⟨(some 67), (.lenx (.t 66)), (some (65, true)), 8, []⟩, ⟨(some 68), (.bin .gtr (.t 67) (.c (.i .i64 0))), (some (65, true)), 9, []⟩, ⟨(some 69), (.pick (.t 65) (.t 68) (.c (.b false))), none, 10, []⟩, ⟨(some 70), (.mv (.t 69)), none, 11, []⟩, ⟨(some 71), (.mv (.t 10)), (some (70, true)), 12, []⟩, ⟨(some 72), (.mv (.t 0)), (some (70, true)), 13, []⟩, ⟨(some 73), (.beq false (.t 71) (.t 72)), (some (70, true)), 14, []⟩, ⟨(some 74), (.pick (.t 70) (.t 73) (.c (.b false))), none, 15, []⟩, ⟨(some 75), (.mv (.t 74)), none, 16, []⟩, ⟨(some 76), (.mv (.t 11)), (some (75, true)), 17, []⟩, ⟨(some 77), (.mv (.t 1)), (some (75, true)), 18, []⟩, ⟨(some 78), (.call (.c (.fn (.func 15) [] [])) [(.t 76), (.t 77)]), (some (75, true)), 19, []⟩, ⟨(some 79), (.pick (.t 75) (.t 78) (.c (.b false))), none, 20, []⟩, ⟨(some 80), (.mv (.t 79)), none, 21, []⟩, ⟨(some 81), (.mv (.t 12)), (some (80, true)), 22, []⟩, ⟨(some 82), (.pick (.t 80) (.t 81) (.c (.b false))), none, 23, []⟩, ⟨(some 83), (.mv (.t 82)), none, 24, []⟩, ⟨(some 84), (.mv (.t 13)), (some (83, true)), 25, []⟩, ⟨(some 85), (.mv (.t 16)), (some (83, true)), 26, []⟩, ⟨(some 86), (.beq false (.t 84) (.t 85)), (some (83, true)), 27, []⟩, ⟨(some 87), (.pick (.t 83) (.t 86) (.c (.b false))), none, 28, []⟩, ⟨(some 88), (.mv (.t 87)), none, 29, []⟩, ⟨(some 89), (.mv (.t 14)), (some (88, true)), 30, []⟩, ⟨(some 90), (.mv (.t 17)), (some (88, true)), 31, []⟩, ⟨(some 91), (.call (.c (.fn (.func 15) [] [])) [(.t 89), (.t 90)]), (some (88, true)), 32, []⟩, ⟨(some 92), (.pick (.t 88) (.t 91) (.c (.b false))), none, 33, []⟩, ⟨(some 93), (.mv (.t 92)), none, 34, []⟩, ⟨(some 94), (.mv (.t 15)), (some (93, true)), 35, []⟩, ⟨(some 95), (.mv (.t 18)), (some (93, true)), 36, []⟩, ⟨(some 96), (.beq false (.t 94) (.t 95)), (some (93, true)), 37, []⟩, ⟨(some 97), (.pick (.t 93) (.t 96) (.c (.b false))), none, 38, []⟩, ⟨(some 6), (.mv (.t 97)), none, 39, []⟩])
  .ret)))))))))))
def x6 : XFun := ⟨x6b, [(.t 6)]⟩
theorem x6_ok : compF Tryd.prog 6 = some x6 := by kernel_rfl
/-- bollard/bollardlaw18.DcepFull (137) -/
def x7b : XC := (.seq (.region [⟨(some 6), (.mv (.c (.b false))), none, 0, []⟩])
  (.seq (.region [⟨(some 27), (.call (.c (.fn (.func 11) [] [])) []), none, 0, []⟩, ⟨(some 7), (.mv (.t 27)), none, 1, []⟩])
  (.seq (.region [⟨(some 28), (.mv (.t 1)), none, 0, []⟩, ⟨(some 29), (.bin .and (.t 28) (.c (.i .i64 30))), none, 1, []⟩, ⟨(some 30), (.bin .add (.c (.i .i64 2)) (.t 29)), none, 2, []⟩, ⟨(some 8), (.mv (.t 30)), none, 3, []⟩])
  (.seq (.region [⟨(some 31), (.mv (.t 0)), none, 0, []⟩, ⟨(some 32), (.mv (.t 8)), none, 1, []⟩, ⟨(some 33), (.call (.c (.fn (.func 22) [] [])) [(.t 31), (.t 32)]), none, 2, []⟩, ⟨(some 9), (.mv (.t 33)), none, 3, []⟩])
  (.seq (.region [⟨(some 10), (.mv (.c (.sl none 0 0 0))), none, 0, []⟩])
  (.seq (.seq (.region [⟨(some 11), (.mv (.c (.i .i64 0))), none, 0, []⟩])
  (.block 0 (.loop (.seq (.seq (.region [⟨(some 34), (.mv (.t 11)), none, 0, []⟩, ⟨(some 35), (.mv (.t 8)), none, 1, []⟩, ⟨(some 36), (.bin .lss (.t 34) (.t 35)), none, 2, []⟩])
  (.cond (.t 36) .skip (.exit 0)))
  (.seq (.block 1 (.seq (.seq (.region [⟨(some 39), (.mv (.t 11)), none, 0, []⟩, ⟨(some 40), (.bin .rem (.t 39) (.c (.i .i64 2))), none, 1, []⟩, ⟨(some 41), (.bin .eql (.t 40) (.c (.i .i64 0))), none, 2, []⟩, ⟨(some 42), (.mv (.t 0)), none, 3, []⟩, ⟨(some 43), (.beq true (.t 41) (.t 42)), none, 4, []⟩])
  (.cond (.t 43) (.exit 1) .skip))
  (.seq (.region [⟨(some 45), (.mv (.t 9)), none, 0, []⟩, ⟨(some 46), (.build [(.i .u8 0), (.i .u16 0), (.i .u32 0), (.s ⟨#[]⟩), (.s ⟨#[]⟩)] [(3, 1, (.c (.s ⟨#[120]⟩)))]), none, 1, []⟩, ⟨(some 47), (.call (.c (.fn (.func 23) [] [])) [(.t 45), (.t 46)]), none, 2, []⟩, ⟨(some 44), (.mv (.t 47)), none, 3, []⟩, ⟨(some 48), (.ext (.t 44) 0), none, 4, []⟩, ⟨(some 49), (.ext (.t 44) 1), none, 5, []⟩, ⟨(some 50), (.ext (.t 44) 2), none, 6, []⟩, ⟨(some 12), (.mv (.t 48)), none, 7, []⟩, ⟨(some 13), (.mv (.t 49)), none, 8, []⟩, ⟨(some 14), (.mv (.t 50)), none, 9, []⟩])
  (.seq (.seq (.region [⟨(some 51), (.mv (.t 14)), none, 0, []⟩, ⟨(some 52), (.bin .neq (.t 51) (.c (.i .i64 0))), none, 1, []⟩, ⟨(some 53), (.mv (.t 52)), none, 2, []⟩, ⟨(some 54), (.mv (.t 12)), (some (53, false)), 3, []⟩, ⟨(some 55), (.cint .i64 (.t 54)), (some (53, false)), 4, []⟩, ⟨(some 56), (.mv (.t 11)), (some (53, false)), 5, []⟩, ⟨(some 57), (.bin .neq (.t 55) (.t 56)), (some (53, false)), 6, []⟩, ⟨(some 58), (.pick (.t 53) (.c (.b true)) (.t 57)), none, 7, []⟩])
  (.cond (.t 58) (.seq (.region [⟨(some 6), (.mv (.c (.b false))), none, 0, []⟩])
  .ret) .skip))
  (.region [⟨(some 59), (.mv (.t 10)), none, 0, []⟩, ⟨(some 60), (.mv (.t 12)), none, 1, []⟩, ⟨(some 61), (.bslice [(.i .u16 0)] [(0, 1, (.t 60))] 1), none, 2, []⟩, ⟨(some 62), (.append 1 2 (.t 59) (.t 61)), none, 3, []⟩, ⟨(some 10), (.mv (.t 62)), none, 4, []⟩])))))
  (.region [⟨(some 37), (.mv (.t 11)), none, 0, []⟩, ⟨(some 38), (.bin .add (.t 37) (.c (.i .i64 1))), none, 1, []⟩, ⟨(some 11), (.mv (.t 38)), none, 2, []⟩]))))))
  (.seq (.region [⟨(some 64), (.mv (.t 9)), none, 0, []⟩, ⟨(some 65), (.build [(.i .u8 0), (.i .u16 0), (.i .u32 0), (.s ⟨#[]⟩), (.s ⟨#[]⟩)] []), none, 1, []⟩, ⟨(some 66), (.call (.c (.fn (.func 23) [] [])) [(.t 64), (.t 65)]), none, 2, []⟩, ⟨(some 63), (.mv (.t 66)), none, 3, []⟩, ⟨(some 67), (.ext (.t 63) 0), none, 4, []⟩, ⟨(some 68), (.ext (.t 63) 1), none, 5, []⟩, ⟨(some 69), (.ext (.t 63) 2), none, 6, []⟩, ⟨(some 15), (.mv (.t 67)), none, 7, []⟩, ⟨(some 16), (.mv (.t 68)), none, 8, []⟩, ⟨(some 17), (.mv (.t 69)), none, 9, []⟩])
  (.seq (.seq (.region [⟨(some 70), (.mv (.t 17)), none, 0, []⟩, ⟨(some 71), (.bin .neq (.t 70) (.c (.i .i64 9))), none, 1, []⟩, ⟨(some 72), (.mv (.t 71)), none, 2, []⟩, ⟨(some 73), (.mv (.t 10)), (some (72, false)), 3, []⟩, ⟨(some 74), (.lenx (.t 73)), (some (72, false)), 4, []⟩, ⟨(some 75), (.bin .eql (.t 74) (.c (.i .i64 0))), (some (72, false)), 5, []⟩, ⟨(some 76), (.pick (.t 72) (.c (.b true)) (.t 75)), none, 6, []⟩])
  (.cond (.t 76) (.seq (.region [⟨(some 6), (.mv (.c (.b false))), none, 0, []⟩])
  .ret) .skip))
  (.seq (.region [⟨(some 77), (.mv (.t 10)), none, 0, []⟩, ⟨(some 78), (.mv (.t 2)), none, 1, []⟩, ⟨(some 79), (.bin .and (.t 78) (.c (.i .i64 65535))), none, 2, []⟩, ⟨(some 80), (.mv (.t 10)), none, 3, []⟩, ⟨(some 81), (.lenx (.t 80)), none, 4, []⟩, ⟨(some 82), (.bin .rem (.t 79) (.t 81)), none, 5, []⟩, ⟨(some 83), (.isl 1 (.t 77) (.t 82)), none, 6, []⟩, ⟨(some 84), (.load false 1 (.t 83)), none, 7, []⟩, ⟨(some 18), (.mv (.t 84)), none, 8, []⟩])
  (.seq (.region [⟨(some 85), (.mv (.t 9)), none, 0, []⟩, ⟨(some 86), (.mv (.t 18)), none, 1, []⟩, ⟨(some 87), (.call (.c (.fn (.func 24) [] [])) [(.t 85), (.t 86)]), none, 2, []⟩, ⟨(some 19), (.mv (.t 87)), none, 3, []⟩])
  (.seq (.region [⟨(some 89), (.mv (.t 9)), none, 0, []⟩, ⟨(some 90), (.build [(.i .u8 0), (.i .u16 0), (.i .u32 0), (.s ⟨#[]⟩), (.s ⟨#[]⟩)] []), none, 1, []⟩, ⟨(some 91), (.call (.c (.fn (.func 23) [] [])) [(.t 89), (.t 90)]), none, 2, []⟩, ⟨(some 88), (.mv (.t 91)), none, 3, []⟩, ⟨(some 92), (.ext (.t 88) 0), none, 4, []⟩, ⟨(some 93), (.ext (.t 88) 1), none, 5, []⟩, ⟨(some 94), (.ext (.t 88) 2), none, 6, []⟩, ⟨(some 20), (.mv (.t 92)), none, 7, []⟩, ⟨(some 21), (.mv (.t 93)), none, 8, []⟩, ⟨(some 22), (.mv (.t 94)), none, 9, []⟩])
  (.seq (.region [⟨(some 95), (.mv (.t 9)), none, 0, []⟩, ⟨(some 96), (.mv (.t 18)), none, 1, []⟩, ⟨(some 97), (.call (.c (.fn (.func 25) [] [])) [(.t 95), (.t 96)]), none, 2, []⟩])
  (.seq (.region [⟨(some 98), (.mv (.t 9)), none, 0, []⟩, ⟨(some 99), (.mv (.t 18)), none, 1, []⟩, ⟨(some 100), (.call (.c (.fn (.func 26) [] [])) [(.t 98), (.t 99)]), none, 2, []⟩, ⟨(some 23), (.mv (.t 100)), none, 3, []⟩])
  (.seq (.region [⟨(some 102), (.mv (.t 9)), none, 0, []⟩, ⟨(some 103), (.build [(.i .u8 0), (.i .u16 0), (.i .u32 0), (.s ⟨#[]⟩), (.s ⟨#[]⟩)] [(3, 1, (.c (.s ⟨#[121]⟩)))]), none, 1, []⟩, ⟨(some 104), (.call (.c (.fn (.func 23) [] [])) [(.t 102), (.t 103)]), none, 2, []⟩, ⟨(some 101), (.mv (.t 104)), none, 3, []⟩, ⟨(some 105), (.ext (.t 101) 0), none, 4, []⟩, ⟨(some 106), (.ext (.t 101) 1), none, 5, []⟩, ⟨(some 107), (.ext (.t 101) 2), none, 6, []⟩, ⟨(some 24), (.mv (.t 105)), none, 7, []⟩, ⟨(some 25), (.mv (.t 106)), none, 8, []⟩, ⟨(some 26), (.mv (.t 107)), none, 9, []⟩])
  (.seq (.region [⟨(some 108), (.mv (.t 7)), none, 0, []⟩, ⟨(some 109), (.mv (.t 108)), none, 1, []⟩, ⟨(some 110), (.mv (.t 19)), (some (109, true)), 2, []⟩, ⟨(some 111), (.bin .eql (.t 110) (.c (.i .i64 0))), (some (109, true)), 3, []⟩, ⟨(some 112), (.pick (.t 109) (.t 111) (.c (.b false))), none, 4, []⟩, ⟨(some 113), (.mv (.t 112)), none, 5, []⟩, ⟨(some 114), (.mv (.t 22)), (some (113, true)), 6, []⟩, ⟨(some 115), (.bin .eql (.t 114) (.c (.i .i64 9))), (some (113, true)), 7, []⟩, ⟨(some 116), (.pick (.t 113) (.t 115) (.c (.b false))), none, 8, []⟩, ⟨(some 117), (.mv (.t 116)), none, 9, []⟩, ⟨(some 118), (.mv (.t 23)), (some (117, true)), 10, []⟩, ⟨(some 119), (.unx .not (.t 118)), (some (117, true)), 11, []⟩, ⟨(some 120), (.pick (.t 117) (.t 119) (.c (.b false))), none, 12, []⟩, ⟨(some 121), (.mv (.t 120)), none, 13, []⟩, ⟨(some 122), (.mv (.t 26)), (some (121, true)), 14, []⟩, ⟨(some 123), (.bin .eql (.t 122) (.c (.i .i64 0))), (some (121, true)), 15, []⟩, ⟨(some 124), (.pick (.t 121) (.t 123) (.c (.b false))), none, 16, []⟩, ⟨(some 125), (.mv (.t 124)), none, 17, []⟩, ⟨(some 126), (.mv (.t 24)), (some (125, true)), 18, []⟩, ⟨(some 127), (.mv (.t 18)), (some (125, true)), 19, []⟩, ⟨(some 128), (.bin .eql (.t 126) (.t 127)), (some (125, true)), 20, []⟩, ⟨(some 129), (.pick (.t 125) (.t 128) (.c (.b false))), none, 21, []⟩, ⟨(some 130), (.mv (.t 129)), none, 22, []⟩, ⟨(some 131), (.mv (.t 9)), (some (130, true)), 23, []⟩, ⟨(some 132), (.mv (.t 18)), (some (130, true)), 24, []⟩, ⟨(some 133), (.call (.c (.fn (.func 27) [] [])) [(.t 131), (.t 132)]), (some (130, true)), 25, []⟩, ⟨(some 134), (.fld false 3 1 (.t 133)), (some (130, true)), 26, []⟩, ⟨(some 135), (.bin .eql (.t 134) (.c (.s ⟨#[121]⟩))), (some (130, true)), 27, []⟩, ⟨(some 136), (.pick (.t 130) (.t 135) (.c (.b false))), none, 28, []⟩, ⟨(some 6), (.mv (.t 136)), none, 29, []⟩])
  .ret)))))))))))))))
def x7 : XFun := ⟨x7b, [(.t 6)]⟩
theorem x7_ok : compF Tryd.prog 7 = some x7 := by kernel_rfl
/-- bollard/bollardlaw18.DcepApart (170) -/
def x8b : XC := (.seq (.region [⟨(some 4), (.mv (.c (.b false))), none, 0, []⟩])
  (.seq (.region [⟨(some 22), (.call (.c (.fn (.func 11) [] [])) []), none, 0, []⟩, ⟨(some 5), (.mv (.t 22)), none, 1, []⟩])
  (.seq (.seq (.region [⟨(some 23), (.mv (.t 0)), none, 0, []⟩, ⟨(some 24), (.lenx (.t 23)), none, 1, []⟩, ⟨(some 25), (.bin .gtr (.t 24) (.c (.i .i64 60))), none, 2, []⟩])
  (.cond (.t 25) (.seq (.region [⟨(some 26), (.mv (.t 5)), none, 0, []⟩, ⟨(some 4), (.mv (.t 26)), none, 1, []⟩])
  .ret) .skip))
  (.seq (.region [⟨(some 27), (.call (.c (.fn (.func 22) [] [])) [(.c (.b true)), (.c (.i .i64 64))]), none, 0, []⟩, ⟨(some 6), (.mv (.t 27)), none, 1, []⟩])
  (.seq (.region [⟨(some 28), (.call (.c (.fn (.func 22) [] [])) [(.c (.b false)), (.c (.i .i64 64))]), none, 0, []⟩, ⟨(some 7), (.mv (.t 28)), none, 1, []⟩])
  (.seq (.region [⟨(some 8), (.mv (.c (.sl none 0 0 0))), none, 0, []⟩])
  (.seq (.region [⟨(some 9), (.mv (.c (.sl none 0 0 0))), none, 0, []⟩])
  (.seq (.seq (.region [⟨(some 10), (.mv (.c (.i .i64 0))), none, 0, []⟩])
  (.block 0 (.loop (.seq (.seq (.region [⟨(some 29), (.mv (.t 10)), none, 0, []⟩, ⟨(some 30), (.mv (.t 0)), none, 1, []⟩, ⟨(some 31), (.lenx (.t 30)), none, 2, []⟩, ⟨(some 32), (.bin .lss (.t 29) (.t 31)), none, 3, []⟩])
  (.cond (.t 32) .skip (.exit 0)))
  (.seq (.block 1 (.seq (.seq (.region [⟨(some 35), (.mv (.t 0)), none, 0, []⟩, ⟨(some 36), (.mv (.t 10)), none, 1, []⟩, ⟨(some 37), (.isl 5 (.t 35) (.t 36)), none, 2, []⟩, ⟨(some 38), (.fadd 3 (.t 37)), none, 3, []⟩, ⟨(some 39), (.load false 1 (.t 38)), none, 4, []⟩, ⟨(some 40), (.lens (.t 39)), none, 5, []⟩, ⟨(some 41), (.bin .gtr (.t 40) (.c (.i .i64 300))), none, 6, []⟩, ⟨(some 42), (.mv (.t 41)), none, 7, []⟩, ⟨(some 43), (.mv (.t 0)), (some (42, false)), 8, []⟩, ⟨(some 44), (.mv (.t 10)), (some (42, false)), 9, []⟩, ⟨(some 45), (.isl 5 (.t 43) (.t 44)), (some (42, false)), 10, []⟩, ⟨(some 46), (.fadd 4 (.t 45)), (some (42, false)), 11, []⟩, ⟨(some 47), (.load false 1 (.t 46)), (some (42, false)), 12, []⟩, ⟨(some 48), (.lens (.t 47)), (some (42, false)), 13, []⟩, ⟨(some 49), (.bin .gtr (.t 48) (.c (.i .i64 300))), (some (42, false)), 14, []⟩, ⟨(some 50), (.pick (.t 42) (.c (.b true)) (.t 49)), none, 15, []⟩])
  (.cond (.t 50) (.seq (.region [⟨(some 51), (.mv (.t 5)), none, 0, []⟩, ⟨(some 4), (.mv (.t 51)), none, 1, []⟩])
  .ret) .skip))
  (.seq (.region [⟨(some 52), (.mv (.t 10)), none, 0, []⟩, ⟨(some 53), (.mv (.t 1)), none, 1, []⟩, ⟨(some 54), (.lenx (.t 53)), none, 2, []⟩, ⟨(some 55), (.bin .lss (.t 52) (.t 54)), none, 3, []⟩, ⟨(some 56), (.mv (.t 55)), none, 4, []⟩, ⟨(some 57), (.mv (.t 1)), (some (56, true)), 5, []⟩, ⟨(some 58), (.mv (.t 10)), (some (56, true)), 6, []⟩, ⟨(some 59), (.isl 1 (.t 57) (.t 58)), (some (56, true)), 7, []⟩, ⟨(some 60), (.load false 1 (.t 59)), (some (56, true)), 8, []⟩, ⟨(some 61), (.pick (.t 56) (.t 60) (.c (.b false))), none, 9, []⟩, ⟨(some 11), (.mv (.t 61)), none, 10, []⟩])
  (.seq (.region [⟨(some 12), (.mv (.c (.i .u16 0))), none, 0, []⟩])
  (.seq (.region [⟨(some 13), (.mv (.c (.sl none 0 0 0))), none, 0, []⟩])
  (.seq (.region [⟨(some 14), (.mv (.c (.i .i64 0))), none, 0, []⟩])
  (.seq (.seq (.region [⟨(some 62), (.mv (.t 11)), none, 0, []⟩])
  (.cond (.t 62) (.region [⟨(some 64), (.mv (.t 6)), none, 0, []⟩, ⟨(some 65), (.mv (.t 0)), none, 1, []⟩, ⟨(some 66), (.mv (.t 10)), none, 2, []⟩, ⟨(some 67), (.isl 5 (.t 65) (.t 66)), none, 3, []⟩, ⟨(some 68), (.load true 5 (.t 67)), none, 4, []⟩, ⟨(some 69), (.call (.c (.fn (.func 23) [] [])) [(.t 64), (.t 68)]), none, 5, []⟩, ⟨(some 63), (.mv (.t 69)), none, 6, []⟩, ⟨(some 70), (.ext (.t 63) 0), none, 7, []⟩, ⟨(some 71), (.ext (.t 63) 1), none, 8, []⟩, ⟨(some 72), (.ext (.t 63) 2), none, 9, []⟩, ⟨(some 12), (.mv (.t 70)), none, 10, []⟩, ⟨(some 13), (.mv (.t 71)), none, 11, []⟩, ⟨(some 14), (.mv (.t 72)), none, 12, []⟩]) (.region [⟨(some 74), (.mv (.t 7)), none, 0, []⟩, ⟨(some 75), (.mv (.t 0)), none, 1, []⟩, ⟨(some 76), (.mv (.t 10)), none, 2, []⟩, ⟨(some 77), (.isl 5 (.t 75) (.t 76)), none, 3, []⟩, ⟨(some 78), (.load true 5 (.t 77)), none, 4, []⟩, ⟨(some 79), (.call (.c (.fn (.func 23) [] [])) [(.t 74), (.t 78)]), none, 5, []⟩, ⟨(some 73), (.mv (.t 79)), none, 6, []⟩, ⟨(some 80), (.ext (.t 73) 0), none, 7, []⟩, ⟨(some 81), (.ext (.t 73) 1), none, 8, []⟩, ⟨(some 82), (.ext (.t 73) 2), none, 9, []⟩, ⟨(some 12), (.mv (.t 80)), none, 10, []⟩, ⟨(some 13), (.mv (.t 81)), none, 11, []⟩, ⟨(some 14), (.mv (.t 82)), none, 12, []⟩])))
  (.seq (.seq (.region [⟨(some 83), (.mv (.t 14)), none, 0, []⟩, ⟨(some 84), (.bin .neq (.t 83) (.c (.i .i64 0))), none, 1, []⟩])
  (.cond (.t 84) (.exit 1) .skip))
  (.seq (.seq (.region [⟨(some 85), (.mv (.t 12)), none, 0, []⟩, ⟨(some 86), (.bin .rem (.t 85) (.c (.i .u16 2))), none, 1, []⟩, ⟨(some 87), (.bin .eql (.t 86) (.c (.i .u16 0))), none, 2, []⟩, ⟨(some 88), (.mv (.t 11)), none, 3, []⟩, ⟨(some 89), (.beq true (.t 87) (.t 88)), none, 4, []⟩])
  (.cond (.t 89) (.seq (.region [⟨(some 4), (.mv (.c (.b false))), none, 0, []⟩])
  .ret) .skip))
  (.seq (.region [⟨(some 90), (.mv (.t 12)), none, 0, []⟩, ⟨(some 91), (.mv (.t 13)), none, 1, []⟩, ⟨(some 92), (.build [(.i .u16 0), (.b false), (.i .u32 0), (.sl none 0 0 0)] [(0, 1, (.t 90)), (2, 1, (.c (.i .u32 50))), (3, 1, (.t 91))]), none, 2, []⟩, ⟨(some 15), (.alloc [(.i .u16 0), (.b false), (.i .u32 0), (.sl none 0 0 0)]), none, 3, []⟩, ⟨none, (.store 4 (.t 15) (.t 92)), none, 4, []⟩])
  (.seq (.region [⟨(some 93), (.mv (.t 11)), none, 0, []⟩])
  (.cond (.t 93) (.region [⟨(some 94), (.mv (.t 9)), none, 0, []⟩, ⟨(some 95), (.load true 4 (.t 15)), none, 1, []⟩, ⟨(some 96), (.bslice [(.i .u16 0), (.b false), (.i .u32 0), (.sl none 0 0 0)] [(0, 4, (.t 95))] 1), none, 2, []⟩, ⟨(some 97), (.append 4 32 (.t 94) (.t 96)), none, 3, []⟩, ⟨(some 9), (.mv (.t 97)), none, 4, []⟩]) (.region [⟨(some 98), (.mv (.t 8)), none, 0, []⟩, ⟨(some 99), (.load true 4 (.t 15)), none, 1, []⟩, ⟨(some 100), (.bslice [(.i .u16 0), (.b false), (.i .u32 0), (.sl none 0 0 0)] [(0, 4, (.t 99))] 1), none, 2, []⟩, ⟨(some 101), (.append 4 32 (.t 98) (.t 100)), none, 3, []⟩, ⟨(some 8), (.mv (.t 101)), none, 4, []⟩])))))))))))))
  (.region [⟨(some 33), (.mv (.t 10)), none, 0, []⟩, ⟨(some 34), (.bin .add (.t 33) (.c (.i .i64 1))), none, 1, []⟩, ⟨(some 10), (.mv (.t 34)), none, 2, []⟩]))))))
  (.seq (.seq (.region [⟨(some 16), (.mv (.c (.i .i64 0))), none, 0, []⟩])
  (.block 2 (.loop (.seq (.seq (.region [⟨(some 102), (.mv (.t 16)), none, 0, []⟩, ⟨(some 103), (.bin .lss (.t 102) (.c (.i .i64 2))), none, 1, []⟩])
  (.cond (.t 103) .skip (.exit 2)))
  (.seq (.block 3 (.seq (.region [⟨(some 107), (.mv (.t 7)), none, 0, []⟩, ⟨(some 108), (.mv (.t 9)), none, 1, []⟩, ⟨(some 109), (.call (.c (.fn (.func 28) [] [])) [(.t 107), (.t 108)]), none, 2, []⟩, ⟨(some 106), (.mv (.t 109)), none, 3, []⟩, ⟨(some 110), (.ext (.t 106) 0), none, 4, []⟩, ⟨(some 111), (.ext (.t 106) 1), none, 5, []⟩, ⟨(some 17), (.mv (.t 110)), none, 6, []⟩, ⟨(some 18), (.mv (.t 111)), none, 7, []⟩])
  (.seq (.region [⟨(some 113), (.mv (.t 6)), none, 0, []⟩, ⟨(some 114), (.mv (.t 8)), none, 1, []⟩, ⟨(some 115), (.call (.c (.fn (.func 28) [] [])) [(.t 113), (.t 114)]), none, 2, []⟩, ⟨(some 112), (.mv (.t 115)), none, 3, []⟩, ⟨(some 116), (.ext (.t 112) 0), none, 4, []⟩, ⟨(some 117), (.ext (.t 112) 1), none, 5, []⟩, ⟨(some 19), (.mv (.t 116)), none, 6, []⟩, ⟨(some 20), (.mv (.t 117)), none, 7, []⟩])
  (.seq (.seq (.region [⟨(some 118), (.mv (.t 18)), none, 0, []⟩, ⟨(some 119), (.unx .not (.t 118)), none, 1, []⟩, ⟨(some 120), (.mv (.t 119)), none, 2, []⟩, ⟨(some 121), (.mv (.t 20)), (some (120, false)), 3, []⟩, ⟨(some 122), (.unx .not (.t 121)), (some (120, false)), 4, []⟩, ⟨(some 123), (.pick (.t 120) (.c (.b true)) (.t 122)), none, 5, []⟩])
  (.cond (.t 123) (.seq (.region [⟨(some 4), (.mv (.c (.b false))), none, 0, []⟩])
  .ret) .skip))
  (.seq (.region [⟨(some 124), (.mv (.t 17)), none, 0, []⟩, ⟨(some 8), (.mv (.t 124)), none, 1, []⟩])
  (.region [⟨(some 125), (.mv (.t 19)), none, 0, []⟩, ⟨(some 9), (.mv (.t 125)), none, 1, []⟩]))))))
  (.region [⟨(some 104), (.mv (.t 16)), none, 0, []⟩, ⟨(some 105), (.bin .add (.t 104) (.c (.i .i64 1))), none, 1, []⟩, ⟨(some 16), (.mv (.t 105)), none, 2, []⟩]))))))
  (.seq (.seq (.region [⟨(some 21), (.mv (.c (.i .i64 0))), none, 0, []⟩])
  (.block 4 (.loop (.seq (.seq (.region [⟨(some 126), (.mv (.t 21)), none, 0, []⟩, ⟨(some 127), (.bin .lss (.t 126) (.c (.i .i64 64))), none, 1, []⟩])
  (.cond (.t 127) .skip (.exit 4)))
  (.seq (.block 5 (.seq (.region [⟨(some 130), (.mv (.t 6)), none, 0, []⟩, ⟨(some 131), (.mv (.t 21)), none, 1, []⟩, ⟨(some 132), (.cint .u16 (.t 131)), none, 2, []⟩, ⟨(some 133), (.call (.c (.fn (.func 29) [] [])) [(.t 130), (.t 132)]), none, 3, []⟩, ⟨(some 134), (.mv (.t 7)), none, 4, []⟩, ⟨(some 135), (.mv (.t 21)), none, 5, []⟩, ⟨(some 136), (.cint .u16 (.t 135)), none, 6, []⟩, ⟨(some 137), (.call (.c (.fn (.func 29) [] [])) [(.t 134), (.t 136)]), none, 7, []⟩, ⟨(some 138), (.bin .neq (.t 133) (.t 137)), none, 8, []⟩, ⟨(some 139), (.mv (.t 138)), none, 9, []⟩, ⟨(some 140), (.mv (.t 6)), (some (139, false)), 10, []⟩, ⟨(some 141), (.mv (.t 21)), (some (139, false)), 11, []⟩, ⟨(some 142), (.cint .u16 (.t 141)), (some (139, false)), 12, []⟩, ⟨(some 143), (.call (.c (.fn (.func 29) [] [])) [(.t 140), (.t 142)]), (some (139, false)), 13, []⟩, ⟨(some 144), (.bin .eql (.t 143) (.c (.i .i64 1))), (some (139, false)), 14, []⟩, ⟨(some 145), (.pick (.t 139) (.c (.b true)) (.t 144)), none, 15, []⟩, ⟨(some 146), (.mv (.t 145)), none, 16, []⟩, ⟨(some 147), (.mv (.t 6)), (some (146, false)), 17, []⟩, ⟨(some 148), (.mv (.t 21)), (some (146, false)), 18, []⟩, ⟨(some 149), (.cint .u16 (.t 148)), (some (146, false)), 19, []⟩, ⟨(some 150), (.call (.c (.fn (.func 27) [] [])) [(.t 147), (.t 149)]), (some (146, false)), 20, []⟩, ⟨(some 151), (.mv (.t 7)), (some (146, false)), 21, []⟩, ⟨(some 152), (.mv (.t 21)), (some (146, false)), 22, []⟩, ⟨(some 153), (.cint .u16 (.t 152)), (some (146, false)), 23, []⟩, ⟨(some 154), (.call (.c (.fn (.func 27) [] [])) [(.t 151), (.t 153)]), (some (146, false)), 24, []⟩, ⟨(some 155), (.call (.c (.fn (.func 14) [] [])) [(.t 154)]), (some (146, false)), 25, []⟩, ⟨(some 156), (.call (.c (.fn (.func 18) [] [])) [(.t 150), (.t 155)]), (some (146, false)), 26, []⟩, ⟨(some 157), (.unx .not (.t 156)), (some (146, false)), 27, []⟩, ⟨(some 158), (.pick (.t 146) (.c (.b true)) (.t 157)), none, 28, []⟩])
  (.cond (.t 158) (.seq (.region [⟨(some 4), (.mv (.c (.b false))), none, 0, []⟩])
  .ret) .skip)))
  (.region [⟨(some 128), (.mv (.t 21)), none, 0, []⟩, ⟨(some 129), (.bin .add (.t 128) (.c (.i .i64 1))), none, 1, []⟩, ⟨(some 21), (.mv (.t 129)), none, 2, []⟩]))))))
  (.seq (.region [⟨(some 159), (.mv (.t 5)), none, 0, []⟩, ⟨(some 160), (.mv (.t 159)), none, 1, []⟩, ⟨(some 161), (.mv (.t 8)), (some (160, true)), 2, []⟩, ⟨(some 162), (.lenx (.t 161)), (some (160, true)), 3, []⟩, ⟨(some 163), (.bin .eql (.t 162) (.c (.i .i64 0))), (some (160, true)), 4, []⟩, ⟨(some 164), (.pick (.t 160) (.t 163) (.c (.b false))), none, 5, []⟩, ⟨(some 165), (.mv (.t 164)), none, 6, []⟩, ⟨(some 166), (.mv (.t 9)), (some (165, true)), 7, []⟩, ⟨(some 167), (.lenx (.t 166)), (some (165, true)), 8, []⟩, ⟨(some 168), (.bin .eql (.t 167) (.c (.i .i64 0))), (some (165, true)), 9, []⟩, ⟨(some 169), (.pick (.t 165) (.t 168) (.c (.b false))), none, 10, []⟩, ⟨(some 4), (.mv (.t 169)), none, 11, []⟩])
  .ret)))))))))))
def x8 : XFun := ⟨x8b, [(.t 4)]⟩
theorem x8_ok : compF Tryd.prog 8 = some x8 := by kernel_rfl
/-- bollard/bollardlaw18.DcepPlays (127) -/
def x9b : XC := (.seq (.region [⟨(some 6), (.mv (.c (.b false))), none, 0, []⟩])
  (.seq (.region [⟨(some 17), (.call (.c (.fn (.func 11) [] [])) []), none, 0, []⟩, ⟨(some 7), (.mv (.t 17)), none, 1, []⟩])
  (.seq (.seq (.region [⟨(some 18), (.mv (.t 2)), none, 0, []⟩, ⟨(some 19), (.lenx (.t 18)), none, 1, []⟩, ⟨(some 20), (.bin .gtr (.t 19) (.c (.i .i64 60))), none, 2, []⟩])
  (.cond (.t 20) (.seq (.region [⟨(some 21), (.mv (.t 7)), none, 0, []⟩, ⟨(some 6), (.mv (.t 21)), none, 1, []⟩])
  .ret) .skip))
  (.seq (.region [⟨(some 22), (.mv (.t 0)), none, 0, []⟩, ⟨(some 23), (.mv (.t 1)), none, 1, []⟩, ⟨(some 24), (.call (.c (.fn (.func 22) [] [])) [(.t 22), (.t 23)]), none, 2, []⟩, ⟨(some 8), (.mv (.t 24)), none, 3, []⟩])
  (.seq (.region [⟨(some 25), (.mv (.t 0)), none, 0, []⟩, ⟨(some 26), (.mv (.t 1)), none, 1, []⟩, ⟨(some 27), (.call (.c (.fn (.func 30) [] [])) [(.t 25), (.t 26)]), none, 2, []⟩, ⟨(some 9), (.mv (.t 27)), none, 3, []⟩])
  (.seq (.seq (.region [⟨(some 10), (.mv (.c (.i .i64 0))), none, 0, []⟩])
  (.block 0 (.loop (.seq (.seq (.region [⟨(some 28), (.mv (.t 10)), none, 0, []⟩, ⟨(some 29), (.mv (.t 2)), none, 1, []⟩, ⟨(some 30), (.lenx (.t 29)), none, 2, []⟩, ⟨(some 31), (.bin .lss (.t 28) (.t 30)), none, 3, []⟩])
  (.cond (.t 31) .skip (.exit 0)))
  (.seq (.block 1 (.seq (.seq (.region [⟨(some 34), (.mv (.t 2)), none, 0, []⟩, ⟨(some 35), (.mv (.t 10)), none, 1, []⟩, ⟨(some 36), (.isl 11 (.t 34) (.t 35)), none, 2, []⟩, ⟨(some 37), (.fadd 6 (.t 36)), none, 3, []⟩, ⟨(some 38), (.fadd 3 (.t 37)), none, 4, []⟩, ⟨(some 39), (.load false 1 (.t 38)), none, 5, []⟩, ⟨(some 40), (.lenx (.t 39)), none, 6, []⟩, ⟨(some 41), (.bin .gtr (.t 40) (.c (.i .i64 600))), none, 7, []⟩, ⟨(some 42), (.mv (.t 41)), none, 8, []⟩, ⟨(some 43), (.mv (.t 2)), (some (42, false)), 9, []⟩, ⟨(some 44), (.mv (.t 10)), (some (42, false)), 10, []⟩, ⟨(some 45), (.isl 11 (.t 43) (.t 44)), (some (42, false)), 11, []⟩, ⟨(some 46), (.fadd 1 (.t 45)), (some (42, false)), 12, []⟩, ⟨(some 47), (.fadd 3 (.t 46)), (some (42, false)), 13, []⟩, ⟨(some 48), (.load false 1 (.t 47)), (some (42, false)), 14, []⟩, ⟨(some 49), (.lens (.t 48)), (some (42, false)), 15, []⟩, ⟨(some 50), (.bin .gtr (.t 49) (.c (.i .i64 600))), (some (42, false)), 16, []⟩, ⟨(some 51), (.pick (.t 42) (.c (.b true)) (.t 50)), none, 17, []⟩, ⟨(some 52), (.mv (.t 51)), none, 18, []⟩, ⟨(some 53), (.mv (.t 2)), (some (52, false)), 19, []⟩, ⟨(some 54), (.mv (.t 10)), (some (52, false)), 20, []⟩, ⟨(some 55), (.isl 11 (.t 53) (.t 54)), (some (52, false)), 21, []⟩, ⟨(some 56), (.fadd 1 (.t 55)), (some (52, false)), 22, []⟩, ⟨(some 57), (.fadd 4 (.t 56)), (some (52, false)), 23, []⟩, ⟨(some 58), (.load false 1 (.t 57)), (some (52, false)), 24, []⟩, ⟨(some 59), (.lens (.t 58)), (some (52, false)), 25, []⟩, ⟨(some 60), (.bin .gtr (.t 59) (.c (.i .i64 600))), (some (52, false)), 26, []⟩, ⟨(some 61), (.pick (.t 52) (.c (.b true)) (.t 60)), none, 27, []⟩])
  (.cond (.t 61) (.seq (.region [⟨(some 62), (.mv (.t 7)), none, 0, []⟩, ⟨(some 6), (.mv (.t 62)), none, 1, []⟩])
  .ret) .skip))
  (.seq (.seq (.region [⟨(some 63), (.mv (.t 8)), none, 0, []⟩, ⟨(some 64), (.mv (.t 9)), none, 1, []⟩, ⟨(some 65), (.mv (.t 2)), none, 2, []⟩, ⟨(some 66), (.mv (.t 10)), none, 3, []⟩, ⟨(some 67), (.isl 11 (.t 65) (.t 66)), none, 4, []⟩, ⟨(some 68), (.load true 11 (.t 67)), none, 5, []⟩, ⟨(some 69), (.call (.c (.fn (.func 31) [] [])) [(.t 63), (.t 64), (.t 68)]), none, 6, []⟩, ⟨(some 70), (.unx .not (.t 69)), none, 7, []⟩])
  (.cond (.t 70) (.seq (.region [⟨(some 6), (.mv (.c (.b false))), none, 0, []⟩])
  .ret) .skip))
  (.seq (.seq (.region [⟨(some 11), (.mv (.c (.i .i64 0))), none, 0, []⟩])
  (.block 2 (.loop (.seq (.seq (.region [⟨(some 71), (.mv (.t 11)), none, 0, []⟩, ⟨(some 72), (.bin .lss (.t 71) (.c (.i .i64 6))), none, 1, []⟩])
  (.cond (.t 72) .skip (.exit 2)))
  (.seq (.block 3 (.seq (.region [⟨(some 75), (.mv (.t 9)), none, 0, []⟩, ⟨(some 76), (.mv (.t 11)), none, 1, []⟩, ⟨(some 77), (.cint .u16 (.t 76)), none, 2, []⟩, ⟨(some 78), (.call (.c (.fn (.func 32) [] [])) [(.t 75), (.t 77)]), none, 3, []⟩, ⟨(some 12), (.alloc [(.i .i64 0), (.i .u8 0), (.i .u16 0), (.i .u32 0), (.s ⟨#[]⟩), (.s ⟨#[]⟩), (.b false), (.b false)]), none, 4, []⟩, ⟨none, (.store 8 (.t 12) (.t 78)), none, 5, []⟩])
  (.seq (.draw [⟨(some 79), (.mv (.t 8)), none, 0, []⟩, ⟨(some 80), (.mv (.t 11)), none, 1, []⟩, ⟨(some 81), (.cint .u16 (.t 80)), none, 2, [1]⟩, ⟨(some 83), (.fadd 0 (.t 12)), none, 4, []⟩, ⟨(some 84), (.load false 1 (.t 83)), none, 5, [4]⟩, ⟨(some 82), (.call (.c (.fn (.func 29) [] [])) [(.t 79), (.t 81)]), none, 3, [0, 1, 2]⟩, ⟨(some 85), (.bin .neq (.t 82) (.t 84)), none, 6, [0, 1, 2, 3, 4, 5]⟩, ⟨(some 86), (.mv (.t 85)), none, 7, [0, 1, 2, 3, 4, 5, 6]⟩, ⟨(some 87), (.mv (.t 8)), (some (86, false)), 8, [0, 1, 2, 3, 4, 5, 6, 7]⟩, ⟨(some 88), (.mv (.t 11)), (some (86, false)), 9, [0, 1, 2, 3, 4, 5, 6, 7]⟩, ⟨(some 89), (.cint .u16 (.t 88)), (some (86, false)), 10, [0, 1, 2, 3, 4, 5, 6, 7, 9]⟩, ⟨(some 91), (.fadd 1 (.t 12)), (some (86, false)), 12, [0, 1, 2, 3, 4, 5, 6, 7]⟩, ⟨(some 92), (.load true 5 (.t 91)), (some (86, false)), 13, [0, 1, 2, 3, 4, 5, 6, 7, 12]⟩, ⟨(some 90), (.call (.c (.fn (.func 27) [] [])) [(.t 87), (.t 89)]), (some (86, false)), 11, [0, 1, 2, 3, 4, 5, 6, 7, 8, 9, 10]⟩, ⟨(some 93), (.call (.c (.fn (.func 18) [] [])) [(.t 90), (.t 92)]), (some (86, false)), 14, [0, 1, 2, 3, 4, 5, 6, 7, 8, 9, 10, 11, 12, 13]⟩, ⟨(some 94), (.unx .not (.t 93)), (some (86, false)), 15, [0, 1, 2, 3, 4, 5, 6, 7, 8, 9, 10, 11, 12, 13, 14]⟩, ⟨(some 95), (.pick (.t 86) (.c (.b true)) (.t 94)), none, 16, [0, 1, 2, 3, 4, 5, 6, 7, 8, 9, 10, 11, 12, 13, 14, 15]⟩])
  (.cond (.t 95) (.seq (.region [⟨(some 6), (.mv (.c (.b false))), none, 0, []⟩])
  .ret) .skip))))
  (.region [⟨(some 73), (.mv (.t 11)), none, 0, []⟩, ⟨(some 74), (.bin .add (.t 73) (.c (.i .i64 1))), none, 1, []⟩, ⟨(some 11), (.mv (.t 74)), none, 2, []⟩]))))))
  (.seq (.region [⟨(some 97), (.mv (.t 8)), none, 0, []⟩, ⟨(some 98), (.mv (.t 2)), none, 1, []⟩, ⟨(some 99), (.mv (.t 10)), none, 2, []⟩, ⟨(some 100), (.isl 11 (.t 98) (.t 99)), none, 3, []⟩, ⟨(some 101), (.fadd 1 (.t 100)), none, 4, []⟩, ⟨(some 102), (.fadd 3 (.t 101)), none, 5, []⟩, ⟨(some 103), (.load false 1 (.t 102)), none, 6, []⟩, ⟨(some 104), (.call (.c (.fn (.func 33) [] [])) [(.t 97), (.t 103)]), none, 7, []⟩, ⟨(some 96), (.mv (.t 104)), none, 8, []⟩, ⟨(some 105), (.ext (.t 96) 0), none, 9, []⟩, ⟨(some 106), (.ext (.t 96) 1), none, 10, []⟩, ⟨(some 13), (.mv (.t 105)), none, 11, []⟩, ⟨(some 14), (.mv (.t 106)), none, 12, []⟩])
  (.seq (.region [⟨(some 108), (.mv (.t 9)), none, 0, []⟩, ⟨(some 109), (.mv (.t 2)), none, 1, []⟩, ⟨(some 110), (.mv (.t 10)), none, 2, []⟩, ⟨(some 111), (.isl 11 (.t 109) (.t 110)), none, 3, []⟩, ⟨(some 112), (.fadd 1 (.t 111)), none, 4, []⟩, ⟨(some 113), (.fadd 3 (.t 112)), none, 5, []⟩, ⟨(some 114), (.load false 1 (.t 113)), none, 6, []⟩, ⟨(some 115), (.call (.c (.fn (.func 34) [] [])) [(.t 108), (.t 114)]), none, 7, []⟩, ⟨(some 107), (.mv (.t 115)), none, 8, []⟩, ⟨(some 116), (.ext (.t 107) 0), none, 9, []⟩, ⟨(some 117), (.ext (.t 107) 1), none, 10, []⟩, ⟨(some 15), (.mv (.t 116)), none, 11, []⟩, ⟨(some 16), (.mv (.t 117)), none, 12, []⟩])
  (.seq (.region [⟨(some 118), (.mv (.t 13)), none, 0, []⟩, ⟨(some 119), (.mv (.t 15)), none, 1, []⟩, ⟨(some 120), (.bin .neq (.t 118) (.t 119)), none, 2, []⟩, ⟨(some 121), (.mv (.t 120)), none, 3, []⟩, ⟨(some 122), (.mv (.t 14)), (some (121, false)), 4, []⟩, ⟨(some 123), (.mv (.t 16)), (some (121, false)), 5, []⟩, ⟨(some 124), (.beq true (.t 122) (.t 123)), (some (121, false)), 6, []⟩, ⟨(some 125), (.pick (.t 121) (.c (.b true)) (.t 124)), none, 7, []⟩])
  (.cond (.t 125) (.seq (.region [⟨(some 6), (.mv (.c (.b false))), none, 0, []⟩])
  .ret) .skip))))))))
  (.region [⟨(some 32), (.mv (.t 10)), none, 0, []⟩, ⟨(some 33), (.bin .add (.t 32) (.c (.i .i64 1))), none, 1, []⟩, ⟨(some 10), (.mv (.t 33)), none, 2, []⟩]))))))
  (.seq (.region [⟨(some 126), (.mv (.t 7)), none, 0, []⟩, ⟨(some 6), (.mv (.t 126)), none, 1, []⟩])
  .ret)))))))
def x9 : XFun := ⟨x9b, [(.t 6)]⟩
theorem x9_ok : compF Tryd.prog 9 = some x9 := by kernel_rfl
/-- bollard/bollardlaw18.DcepNone (113) -/
def x10b : XC := (.seq (.region [⟨(some 2), (.box (.t 0)), none, 0, []⟩, ⟨(some 3), (.box (.t 1)), none, 1, []⟩, ⟨(some 4), (.mv (.c (.b false))), none, 2, []⟩])
  (.seq (.region [⟨(some 15), (.call (.c (.fn (.func 11) [] [])) []), none, 0, []⟩, ⟨(some 5), (.mv (.t 15)), none, 1, []⟩])
  (.seq (.seq (.region [⟨(some 16), (.fadd 3 (.t 2)), none, 0, []⟩, ⟨(some 17), (.load false 1 (.t 16)), none, 1, []⟩, ⟨(some 18), (.lens (.t 17)), none, 2, []⟩, ⟨(some 19), (.bin .gtr (.t 18) (.c (.i .i64 1000))), none, 3, []⟩, ⟨(some 20), (.mv (.t 19)), none, 4, []⟩, ⟨(some 21), (.fadd 4 (.t 2)), (some (20, false)), 5, []⟩, ⟨(some 22), (.load false 1 (.t 21)), (some (20, false)), 6, []⟩, ⟨(some 23), (.lens (.t 22)), (some (20, false)), 7, []⟩, ⟨(some 24), (.bin .gtr (.t 23) (.c (.i .i64 1000))), (some (20, false)), 8, []⟩, ⟨(some 25), (.pick (.t 20) (.c (.b true)) (.t 24)), none, 9, []⟩, ⟨(some 26), (.mv (.t 25)), none, 10, []⟩, ⟨(some 27), (.fadd 3 (.t 3)), (some (26, false)), 11, []⟩, ⟨(some 28), (.load false 1 (.t 27)), (some (26, false)), 12, []⟩, ⟨(some 29), (.lenx (.t 28)), (some (26, false)), 13, []⟩, ⟨(some 30), (.bin .gtr (.t 29) (.c (.i .i64 1000))), (some (26, false)), 14, []⟩, ⟨(some 31), (.pick (.t 26) (.c (.b true)) (.t 30)), none, 15, []⟩])
  (.cond (.t 31) (.seq (.region [⟨(some 32), (.mv (.t 5)), none, 0, []⟩, ⟨(some 4), (.mv (.t 32)), none, 1, []⟩])
  .ret) .skip))
  (.seq (.region [⟨(some 6), (.mv (.c (.p none))), none, 0, []⟩])
  (.seq (.region [⟨(some 34), (.mv (.t 6)), none, 0, []⟩, ⟨(some 35), (.load true 5 (.t 2)), none, 1, []⟩, ⟨(some 36), (.call (.c (.fn (.func 23) [] [])) [(.t 34), (.t 35)]), none, 2, []⟩, ⟨(some 33), (.mv (.t 36)), none, 3, []⟩, ⟨(some 37), (.ext (.t 33) 0), none, 4, []⟩, ⟨(some 38), (.ext (.t 33) 1), none, 5, []⟩, ⟨(some 39), (.ext (.t 33) 2), none, 6, []⟩, ⟨(some 7), (.mv (.t 37)), none, 7, []⟩, ⟨(some 8), (.mv (.t 38)), none, 8, []⟩, ⟨(some 9), (.mv (.t 39)), none, 9, []⟩])
  (.seq (.region [⟨(some 41), (.mv (.t 6)), none, 0, []⟩, ⟨(some 42), (.load true 4 (.t 3)), none, 1, []⟩, ⟨(some 43), (.call (.c (.fn (.func 35) [] [])) [(.t 41), (.t 42)]), none, 2, []⟩, ⟨(some 40), (.mv (.t 43)), none, 3, []⟩, ⟨(some 44), (.ext (.t 40) 0), none, 4, []⟩, ⟨(some 45), (.ext (.t 40) 1), none, 5, []⟩, ⟨(some 46), (.ext (.t 40) 2), none, 6, []⟩, ⟨(some 10), (.alloc [(.i .i64 0), (.i .u16 0), (.i .u8 0), (.i .u16 0), (.i .u32 0), (.s ⟨#[]⟩), (.s ⟨#[]⟩), (.b false), (.sl none 0 0 0)]), none, 7, []⟩, ⟨none, (.store 9 (.t 10) (.t 44)), none, 8, []⟩, ⟨(some 11), (.mv (.t 45)), none, 9, []⟩, ⟨(some 12), (.mv (.t 46)), none, 10, []⟩])
  (.seq (.region [⟨(some 47), (.mv (.t 6)), none, 0, []⟩, ⟨(some 48), (.fadd 0 (.t 3)), none, 1, []⟩, ⟨(some 49), (.load false 1 (.t 48)), none, 2, []⟩, ⟨(some 50), (.call (.c (.fn (.func 25) [] [])) [(.t 47), (.t 49)]), none, 3, []⟩])
  (.seq (.region [⟨(some 52), (.mv (.t 6)), none, 0, []⟩, ⟨(some 53), (.fadd 3 (.t 2)), none, 1, []⟩, ⟨(some 54), (.load false 1 (.t 53)), none, 2, []⟩, ⟨(some 55), (.call (.c (.fn (.func 33) [] [])) [(.t 52), (.t 54)]), none, 3, []⟩, ⟨(some 51), (.mv (.t 55)), none, 4, []⟩, ⟨(some 56), (.ext (.t 51) 0), none, 5, []⟩, ⟨(some 57), (.ext (.t 51) 1), none, 6, []⟩, ⟨(some 13), (.mv (.t 56)), none, 7, []⟩, ⟨(some 14), (.mv (.t 57)), none, 8, []⟩])
  (.seq (.region [⟨(some 58), (.mv (.t 5)), none, 0, []⟩, ⟨(some 59), (.mv (.t 58)), none, 1, []⟩, ⟨(some 60), (.mv (.t 8)), (some (59, true)), 2, []⟩, ⟨(some 61), (.lenx (.t 60)), (some (59, true)), 3, []⟩, ⟨(some 62), (.mv (.t 11)), (some (59, true)), 4, []⟩, ⟨(some 63), (.lenx (.t 62)), (some (59, true)), 5, []⟩, ⟨(some 64), (.bin .add (.t 61) (.t 63)), (some (59, true)), 6, []⟩, ⟨(some 65), (.bin .eql (.t 64) (.c (.i .i64 0))), (some (59, true)), 7, []⟩, ⟨(some 66), (.pick (.t 59) (.t 65) (.c (.b false))), none, 8, []⟩, ⟨(some 67), (.mv (.t 66)), none, 9, []⟩, ⟨(some 68), (.mv (.t 9)), (some (67, true)), 10, []⟩, ⟨(some 69), (.bin .eql (.t 68) (.c (.i .i64 1))), (some (67, true)), 11, []⟩, ⟨(some 70), (.pick (.t 67) (.t 69) (.c (.b false))), none, 12, []⟩, ⟨(some 71), (.mv (.t 70)), none, 13, []⟩, ⟨(some 72), (.mv (.t 12)), (some (71, true)), 14, []⟩, ⟨(some 73), (.bin .eql (.t 72) (.c (.i .i64 1))), (some (71, true)), 15, []⟩, ⟨(some 74), (.pick (.t 71) (.t 73) (.c (.b false))), none, 16, []⟩, ⟨(some 75), (.mv (.t 74)), none, 17, []⟩, ⟨(some 76), (.fadd 0 (.t 10)), (some (75, true)), 18, []⟩, ⟨(some 77), (.load false 1 (.t 76)), (some (75, true)), 19, []⟩, ⟨(some 78), (.bin .eql (.t 77) (.c (.i .i64 0))), (some (75, true)), 20, []⟩, ⟨(some 79), (.pick (.t 75) (.t 78) (.c (.b false))), none, 21, []⟩, ⟨(some 80), (.mv (.t 79)), none, 22, []⟩, ⟨(some 81), (.mv (.t 6)), (some (80, true)), 23, []⟩, ⟨(some 82), (.fadd 0 (.t 3)), (some (80, true)), 24, []⟩, ⟨(some 83), (.load false 1 (.t 82)), (some (80, true)), 25, []⟩, ⟨(some 84), (.call (.c (.fn (.func 24) [] [])) [(.t 81), (.t 83)]), (some (80, true)), 26, []⟩, ⟨(some 85), (.bin .eql (.t 84) (.c (.i .i64 11))), (some (80, true)), 27, []⟩, ⟨(some 86), (.pick (.t 80) (.t 85) (.c (.b false))), none, 28, []⟩, ⟨(some 87), (.mv (.t 86)), none, 29, []⟩, ⟨(some 88), (.mv (.t 6)), (some (87, true)), 30, []⟩, ⟨(some 89), (.fadd 0 (.t 3)), (some (87, true)), 31, []⟩, ⟨(some 90), (.load false 1 (.t 89)), (some (87, true)), 32, []⟩, ⟨(some 91), (.call (.c (.fn (.func 26) [] [])) [(.t 88), (.t 90)]), (some (87, true)), 33, []⟩, ⟨(some 92), (.unx .not (.t 91)), (some (87, true)), 34, []⟩, ⟨(some 93), (.pick (.t 87) (.t 92) (.c (.b false))), none, 35, []⟩, ⟨(some 94), (.mv (.t 93)), none, 36, []⟩, ⟨(some 95), (.mv (.t 6)), (some (94, true)), 37, []⟩, ⟨(some 96), (.fadd 0 (.t 3)), (some (94, true)), 38, []⟩, ⟨(some 97), (.load false 1 (.t 96)), (some (94, true)), 39, []⟩, ⟨(some 98), (.call (.c (.fn (.func 29) [] [])) [(.t 95), (.t 97)]), (some (94, true)), 40, []⟩, ⟨(some 99), (.bin .eql (.t 98) (.c (.i .i64 0))), (some (94, true)), 41, []⟩, ⟨(some 100), (.pick (.t 94) (.t 99) (.c (.b false))), none, 42, []⟩, ⟨(some 101), (.mv (.t 100)), none, 43, []⟩, ⟨(some 102), (.mv (.t 14)), (some (101, true)), 44, []⟩, ⟨(some 103), (.unx .not (.t 102)), (some (101, true)), 45, []⟩, ⟨(some 104), (.pick (.t 101) (.t 103) (.c (.b false))), none, 46, []⟩, ⟨(some 105), (.mv (.t 104)), none, 47, []⟩, ⟨(some 106), (.mv (.t 6)), (some (105, true)), 48, []⟩, ⟨(some 107), (.fadd 0 (.t 3)), (some (105, true)), 49, []⟩, ⟨(some 108), (.load false 1 (.t 107)), (some (105, true)), 50, []⟩, ⟨(some 109), (.call (.c (.fn (.func 27) [] [])) [(.t 106), (.t 108)]), (some (105, true)), 51, []⟩, ⟨(some 110), (.build [(.i .u8 0), (.i .u16 0), (.i .u32 0), (.s ⟨#[]⟩), (.s ⟨#[]⟩)] []), (some (105, true)), 52, []⟩, ⟨(some 111), (.call (.c (.fn (.func 18) [] [])) [(.t 109), (.t 110)]), (some (105, true)), 53, []⟩, ⟨(some 112), (.pick (.t 105) (.t 111) (.c (.b false))), none, 54, []⟩, ⟨(some 4), (.mv (.t 112)), none, 55, []⟩])
  .ret)))))))))
def x10 : XFun := ⟨x10b, [(.t 4)]⟩
theorem x10_ok : compF Tryd.prog 10 = some x10 := by kernel_rfl
/-- bollard/bollardlaw18.awake (97) -/
def x11b : XC := (.seq (.region [⟨(some 0), (.mv (.c (.b false))), none, 0, []⟩])
  (.seq (.region [⟨(some 15), (.build [(.i .u8 0), (.i .u16 0), (.i .u32 0), (.s ⟨#[]⟩), (.s ⟨#[]⟩)] [(3, 1, (.c (.s ⟨#[97]⟩)))]), none, 0, []⟩, ⟨(some 16), (.call (.c (.fn (.func 12) [] [])) [(.t 15)]), none, 1, []⟩, ⟨(some 14), (.mv (.t 16)), none, 2, []⟩, ⟨(some 17), (.ext (.t 14) 0), none, 3, []⟩, ⟨(some 18), (.ext (.t 14) 1), none, 4, []⟩, ⟨(some 1), (.mv (.t 17)), none, 5, []⟩, ⟨(some 2), (.mv (.t 18)), none, 6, []⟩])
  (.seq (.region [⟨(some 20), (.mv (.t 1)), none, 0, []⟩, ⟨(some 21), (.call (.c (.fn (.func 16) [] [])) [(.t 20)]), none, 1, []⟩, ⟨(some 19), (.mv (.t 21)), none, 2, []⟩, ⟨(some 22), (.ext (.t 19) 0), none, 3, []⟩, ⟨(some 23), (.ext (.t 19) 1), none, 4, []⟩, ⟨(some 3), (.alloc [(.i .u8 0), (.i .u16 0), (.i .u32 0), (.s ⟨#[]⟩), (.s ⟨#[]⟩)]), none, 5, []⟩, ⟨none, (.store 5 (.t 3) (.t 22)), none, 6, []⟩, ⟨(some 4), (.mv (.t 23)), none, 7, []⟩])
  (.seq (.region [⟨(some 25), (.call (.c (.fn (.func 19) [] [])) [(.c (.b true)), (.c (.sl none 0 0 0))]), none, 0, []⟩, ⟨(some 24), (.mv (.t 25)), none, 1, []⟩, ⟨(some 26), (.ext (.t 24) 0), none, 2, []⟩, ⟨(some 27), (.ext (.t 24) 1), none, 3, []⟩, ⟨(some 5), (.mv (.t 26)), none, 4, []⟩, ⟨(some 6), (.mv (.t 27)), none, 5, []⟩])
  (.seq (.region [⟨(some 29), (.bslice [(.i .u8 0)] [(0, 1, (.c (.i .u8 7)))] 1), none, 0, []⟩, ⟨(some 30), (.call (.c (.fn (.func 20) [] [])) [(.c (.i .u32 53)), (.t 29)]), none, 1, []⟩, ⟨(some 28), (.mv (.t 30)), none, 2, []⟩, ⟨(some 31), (.ext (.t 28) 0), none, 3, []⟩, ⟨(some 32), (.ext (.t 28) 1), none, 4, []⟩, ⟨(some 33), (.ext (.t 28) 2), none, 5, []⟩, ⟨(some 7), (.mv (.t 31)), none, 6, []⟩, ⟨(some 8), (.mv (.t 32)), none, 7, []⟩, ⟨(some 9), (.mv (.t 33)), none, 8, []⟩])
  (.seq (.region [⟨(some 34), (.call (.c (.fn (.func 22) [] [])) [(.c (.b true)), (.c (.i .i64 4))]), none, 0, []⟩, ⟨(some 10), (.mv (.t 34)), none, 1, []⟩])
  (.seq (.region [⟨(some 36), (.mv (.t 10)), none, 0, []⟩, ⟨(some 37), (.build [(.i .u8 0), (.i .u16 0), (.i .u32 0), (.s ⟨#[]⟩), (.s ⟨#[]⟩)] [(3, 1, (.c (.s ⟨#[120]⟩)))]), none, 1, []⟩, ⟨(some 38), (.call (.c (.fn (.func 23) [] [])) [(.t 36), (.t 37)]), none, 2, []⟩, ⟨(some 35), (.mv (.t 38)), none, 3, []⟩, ⟨(some 39), (.ext (.t 35) 0), none, 4, []⟩, ⟨(some 40), (.ext (.t 35) 1), none, 5, []⟩, ⟨(some 41), (.ext (.t 35) 2), none, 6, []⟩, ⟨(some 11), (.mv (.t 39)), none, 7, []⟩, ⟨(some 12), (.mv (.t 40)), none, 8, []⟩, ⟨(some 13), (.mv (.t 41)), none, 9, []⟩])
  (.seq (.region [⟨(some 42), (.mv (.t 2)), none, 0, []⟩, ⟨(some 43), (.bin .eql (.t 42) (.c (.i .i64 0))), none, 1, []⟩, ⟨(some 44), (.mv (.t 43)), none, 2, []⟩, ⟨(some 45), (.mv (.t 1)), (some (44, true)), 3, []⟩, ⟨(some 46), (.bslice [(.i .u8 0), (.i .u8 0), (.i .u8 0), (.i .u8 0), (.i .u8 0), (.i .u8 0), (.i .u8 0), (.i .u8 0), (.i .u8 0), (.i .u8 0), (.i .u8 0), (.i .u8 0), (.i .u8 0)] [(0, 1, (.c (.i .u8 3))), (1, 1, (.c (.i .u8 0))), (2, 1, (.c (.i .u8 0))), (3, 1, (.c (.i .u8 0))), (4, 1, (.c (.i .u8 0))), (5, 1, (.c (.i .u8 0))), (6, 1, (.c (.i .u8 0))), (7, 1, (.c (.i .u8 0))), (8, 1, (.c (.i .u8 0))), (9, 1, (.c (.i .u8 1))), (10, 1, (.c (.i .u8 0))), (11, 1, (.c (.i .u8 0))), (12, 1, (.c (.i .u8 97)))] 13), (some (44, true)), 4, []⟩, ⟨(some 47), (.call (.c (.fn (.func 15) [] [])) [(.t 45), (.t 46)]), (some (44, true)), 5, []⟩, ⟨(some 48), (.pick (.t 44) (.t 47) (.c (.b false))), none, 6, []⟩, ⟨(some 49), (.mv (.t 48)), none, 7, []⟩, ⟨(some 50), (.mv (.t 4)), (some (49, true)), 8, []⟩, ⟨(some 51), (.bin .eql (.t 50) (.c (.i .i64 0))), (some (49, true)), 9, []⟩, ⟨(some 52), (.pick (.t 49) (.t 51) (.c (.b false))), none, 10, []⟩, ⟨(some 53), (.mv (.t 52)), none, 11, []⟩, ⟨(some 54), (.fadd 3 (.t 3)), (some (53, true)), 12, []⟩, ⟨(some 55), (.load false 1 (.t 54)), (some (53, true)), 13, []⟩, ⟨(some 56), (.bin .eql (.t 55) (.c (.s ⟨#[97]⟩))), (some (53, true)), 14, []⟩, ⟨(some 57), (.pick (.t 53) (.t 56) (.c (.b false))), none, 15, []⟩, ⟨(some 58), (.mv (.t 57)), none, 16, []⟩, ⟨(some 59), (.mv (.t 5)), (some (58, true)), 17, []⟩, ⟨(some 60), (.bin .eql (.t 59) (.c (.i .u32 56))), (some (58, true)), 18, []⟩, ⟨(some 61), (.pick (.t 58) (.t 60) (.c (.b false))), none, 19, []⟩, ⟨(some 62), (.mv (.t 61)), none, 20, []⟩, ⟨(some 63), (.mv (.t 6)), (some (62, true)), 21, []⟩, ⟨(some 64), (.bslice [(.i .u8 0)] [(0, 1, (.c (.i .u8 0)))] 1), (some (62, true)), 22, []⟩, ⟨(some 65), (.call (.c (.fn (.func 15) [] [])) [(.t 63), (.t 64)]), (some (62, true)), 23, []⟩, ⟨(some 66), (.pick (.t 62) (.t 65) (.c (.b false))), none, 24, []⟩, ⟨(some 67), (.mv (.t 66)), none, 25, []⟩, ⟨(some 68), (.mv (.t 7)), (some (67, true)), 26, []⟩, ⟨(some 69), (.unx .not (.t 68)), (some (67, true)), 27, []⟩, ⟨(some 70), (.pick (.t 67) (.t 69) (.c (.b false))), none, 28, []⟩, ⟨(some 71), (.mv (.t 70)), none, 29, []⟩, ⟨(some 72), (.mv (.t 8)), (some (71, true)), 30, []⟩, ⟨(some 73), (.bslice [(.i .u8 0)] [(0, 1, (.c (.i .u8 7)))] 1), (some (71, true)), 31, []⟩, ⟨(some 74), (.call (.c (.fn (.func 15) [] [])) [(.t 72), (.t 73)]), (some (71, true)), 32, []⟩, ⟨(some 75), (.pick (.t 71) (.t 74) (.c (.b false))), none, 33, []⟩, ⟨(some 76), (.mv (.t 75)), none, 34, []⟩, ⟨(some 77), (.mv (.t 9)), (some (76, true)), 35, []⟩, ⟨(some 78), (.pick (.t 76) (.t 77) (.c (.b false))), none, 36, []⟩, ⟨(some 79), (.mv (.t 78)), none, 37, []⟩, ⟨(some 80), (.mv (.t 11)), (some (79, true)), 38, []⟩, ⟨(some 81), (.bin .eql (.t 80) (.c (.i .u16 0))), (some (79, true)), 39, []⟩, ⟨(some 82), (.pick (.t 79) (.t 81) (.c (.b false))), none, 40, []⟩, ⟨(some 83), (.mv (.t 82)), none, 41, []⟩, ⟨(some 84), (.mv (.t 12)), (some (83, true)), 42, []⟩, ⟨(some 85), (.lenx (.t 84)), (some (83, true)), 43, []⟩, ⟨(some 86), (.bin .eql (.t 85) (.c (.i .i64 13))), (some (83, true)), 44, []⟩, ⟨(some 87), (.pick (.t 83) (.t 86) (.c (.b false))), none, 45, []⟩, ⟨(some 88), (.mv (.t 87)), none, 46, []⟩, ⟨(some 89), (.mv (.t 13)), (some (88, true)), 47, []⟩, ⟨(some 90), (.bin .eql (.t 89) (.c (.i .i64 0))), (some (88, true)), 48, []⟩, ⟨(some 91), (.pick (.t 88) (.t 90) (.c (.b false))), none, 49, []⟩, ⟨(some 92), (.mv (.t 91)), none, 50, []⟩, ⟨(some 93), (.mv (.t 10)), (some (92, true)), 51, []⟩, ⟨(some 94), (.call (.c (.fn (.func 29) [] [])) [(.t 93), (.c (.i .u16 0))]), (some (92, true)), 52, []⟩, ⟨(some 95), (.bin .eql (.t 94) (.c (.i .i64 1))), (some (92, true)), 53, []⟩, ⟨(some 96), (.pick (.t 92) (.t 95) (.c (.b false))), none, 54, []⟩, ⟨(some 0), (.mv (.t 96)), none, 55, []⟩])
  .ret))))))))
def x11 : XFun := ⟨x11b, [(.t 0)]⟩
theorem x11_ok : compF Tryd.prog 11 = some x11 := by kernel_rfl
/-- bollard/dcep.Encode (47) -/
def x12b : XC := (.seq (.region [⟨(some 1), (.box (.t 0)), none, 0, []⟩, ⟨(some 2), (.mv (.c (.sl none 0 0 0))), none, 1, []⟩, ⟨(some 3), (.mv (.c (.i .i64 0))), none, 2, []⟩])
  (.seq (.block 0 (.seq (.region [⟨(some 6), (.load true 5 (.t 1)), none, 0, []⟩, ⟨(some 7), (.call (.c (.fn (.func 36) [] [])) [(.t 6)]), none, 1, []⟩, ⟨(some 8), (.unx .not (.t 7)), none, 2, []⟩, ⟨(some 5), (.mv (.t 8)), none, 3, []⟩])
  (.cond (.t 5) (.seq (.region [⟨(some 2), (.mv (.c (.sl none 0 0 0))), none, 0, []⟩, ⟨(some 3), (.mv (.c (.i .i64 1))), none, 1, []⟩])
  .ret) (.seq (.region [⟨(some 10), (.fadd 3 (.t 1)), none, 0, []⟩, ⟨(some 11), (.load false 1 (.t 10)), none, 1, []⟩, ⟨(some 12), (.lens (.t 11)), none, 2, []⟩, ⟨(some 13), (.bin .gtr (.t 12) (.c (.i .i64 256))), none, 3, []⟩, ⟨(some 14), (.mv (.t 13)), none, 4, []⟩, ⟨(some 15), (.fadd 4 (.t 1)), (some (14, false)), 5, []⟩, ⟨(some 16), (.load false 1 (.t 15)), (some (14, false)), 6, []⟩, ⟨(some 17), (.lens (.t 16)), (some (14, false)), 7, []⟩, ⟨(some 18), (.bin .gtr (.t 17) (.c (.i .i64 256))), (some (14, false)), 8, []⟩, ⟨(some 19), (.pick (.t 14) (.c (.b true)) (.t 18)), none, 9, []⟩, ⟨(some 9), (.mv (.t 19)), none, 10, []⟩])
  (.cond (.t 9) (.seq (.region [⟨(some 2), (.mv (.c (.sl none 0 0 0))), none, 0, []⟩, ⟨(some 3), (.mv (.c (.i .i64 10))), none, 1, []⟩])
  .ret) .skip)))))
  (.seq (.draw [⟨(some 20), (.fadd 0 (.t 1)), none, 0, []⟩, ⟨(some 23), (.fadd 1 (.t 1)), none, 3, []⟩, ⟨(some 26), (.fadd 2 (.t 1)), none, 6, []⟩, ⟨(some 21), (.load false 1 (.t 20)), none, 1, [0]⟩, ⟨(some 24), (.load false 1 (.t 23)), none, 4, [3]⟩, ⟨(some 27), (.load false 1 (.t 26)), none, 7, [6]⟩, ⟨(some 22), (.bslice [(.i .u8 0), (.i .u8 0)] [(0, 1, (.c (.i .u8 3))), (1, 1, (.t 21))] 2), none, 2, [0, 1]⟩, ⟨(some 25), (.call (.c (.fn (.func 38) [] [])) [(.t 22), (.t 24)]), none, 5, [0, 1, 2, 3, 4]⟩, ⟨(some 28), (.call (.c (.fn (.func 37) [] [])) [(.t 25), (.t 27)]), none, 8, [0, 1, 2, 3, 4, 5, 6, 7]⟩, ⟨(some 4), (.mv (.t 28)), none, 9, [0, 1, 2, 3, 4, 5, 6, 7, 8]⟩])
  (.seq (.draw [⟨(some 29), (.mv (.t 4)), none, 0, []⟩, ⟨(some 30), (.fadd 3 (.t 1)), none, 1, []⟩, ⟨(some 35), (.fadd 4 (.t 1)), none, 6, []⟩, ⟨(some 31), (.load false 1 (.t 30)), none, 2, [1]⟩, ⟨(some 32), (.lens (.t 31)), none, 3, [1, 2]⟩, ⟨(some 33), (.cint .u16 (.t 32)), none, 4, [1, 2, 3]⟩, ⟨(some 36), (.load false 1 (.t 35)), none, 7, [6]⟩, ⟨(some 37), (.lens (.t 36)), none, 8, [6, 7]⟩, ⟨(some 38), (.cint .u16 (.t 37)), none, 9, [6, 7, 8]⟩, ⟨(some 34), (.call (.c (.fn (.func 38) [] [])) [(.t 29), (.t 33)]), none, 5, [0, 1, 2, 3, 4]⟩, ⟨(some 39), (.call (.c (.fn (.func 38) [] [])) [(.t 34), (.t 38)]), none, 10, [0, 1, 2, 3, 4, 5, 6, 7, 8, 9]⟩, ⟨(some 4), (.mv (.t 39)), none, 11, [0, 1, 2, 3, 4, 5, 6, 7, 8, 9, 10]⟩])
  (.seq (.draw [⟨(some 40), (.mv (.t 4)), none, 0, []⟩, ⟨(some 41), (.fadd 3 (.t 1)), none, 1, []⟩, ⟨(some 44), (.fadd 4 (.t 1)), none, 4, []⟩, ⟨(some 42), (.load false 1 (.t 41)), none, 2, [1]⟩, ⟨(some 45), (.load false 1 (.t 44)), none, 5, [4]⟩, ⟨(some 43), (.append 1 1 (.t 40) (.t 42)), none, 3, [0, 1, 2]⟩, ⟨(some 46), (.append 1 1 (.t 43) (.t 45)), none, 6, [0, 1, 2, 3, 4, 5]⟩, ⟨(some 2), (.mv (.t 46)), none, 7, [0, 1, 2, 3, 4, 5, 6]⟩, ⟨(some 3), (.mv (.c (.i .i64 0))), none, 8, [0, 1, 2, 3, 4, 5, 6, 7]⟩])
  .ret)))))
def x12 : XFun := ⟨x12b, [(.t 2), (.t 3)]⟩
theorem x12_ok : compF Tryd.prog 12 = some x12 := by kernel_rfl
/-- bollard/bollardref18.Encode (48) -/
def x13b : XC := (.seq (.region [⟨(some 1), (.box (.t 0)), none, 0, []⟩, ⟨(some 2), (.mv (.c (.sl none 0 0 0))), none, 1, []⟩, ⟨(some 3), (.mv (.c (.i .i64 0))), none, 2, []⟩])
  (.seq (.seq (.region [⟨(some 5), (.load true 5 (.t 1)), none, 0, []⟩, ⟨(some 6), (.call (.c (.fn (.func 39) [] [])) [(.t 5)]), none, 1, []⟩, ⟨(some 7), (.unx .not (.t 6)), none, 2, []⟩])
  (.cond (.t 7) (.seq (.region [⟨(some 2), (.mv (.c (.sl none 0 0 0))), none, 0, []⟩, ⟨(some 3), (.mv (.c (.i .i64 1))), none, 1, []⟩])
  .ret) .skip))
  (.seq (.seq (.region [⟨(some 8), (.fadd 3 (.t 1)), none, 0, []⟩, ⟨(some 9), (.load false 1 (.t 8)), none, 1, []⟩, ⟨(some 10), (.lens (.t 9)), none, 2, []⟩, ⟨(some 11), (.bin .gtr (.t 10) (.c (.i .i64 256))), none, 3, []⟩, ⟨(some 12), (.mv (.t 11)), none, 4, []⟩, ⟨(some 13), (.fadd 4 (.t 1)), (some (12, false)), 5, []⟩, ⟨(some 14), (.load false 1 (.t 13)), (some (12, false)), 6, []⟩, ⟨(some 15), (.lens (.t 14)), (some (12, false)), 7, []⟩, ⟨(some 16), (.bin .gtr (.t 15) (.c (.i .i64 256))), (some (12, false)), 8, []⟩, ⟨(some 17), (.pick (.t 12) (.c (.b true)) (.t 16)), none, 9, []⟩])
  (.cond (.t 17) (.seq (.region [⟨(some 2), (.mv (.c (.sl none 0 0 0))), none, 0, []⟩, ⟨(some 3), (.mv (.c (.i .i64 10))), none, 1, []⟩])
  .ret) .skip))
  (.seq (.region [⟨(some 18), (.fadd 0 (.t 1)), none, 0, []⟩, ⟨(some 19), (.load false 1 (.t 18)), none, 1, []⟩, ⟨(some 20), (.bslice [(.i .u8 0), (.i .u8 0)] [(0, 1, (.c (.i .u8 3))), (1, 1, (.t 19))] 2), none, 2, []⟩, ⟨(some 21), (.fadd 1 (.t 1)), none, 3, []⟩, ⟨(some 22), (.load false 1 (.t 21)), none, 4, []⟩, ⟨(some 23), (.cint .u32 (.t 22)), none, 5, []⟩, ⟨(some 24), (.call (.c (.fn (.func 40) [] [])) [(.t 20), (.t 23), (.c (.i .i64 2))]), none, 6, []⟩, ⟨(some 4), (.mv (.t 24)), none, 7, []⟩])
  (.seq (.region [⟨(some 25), (.mv (.t 4)), none, 0, []⟩, ⟨(some 26), (.fadd 2 (.t 1)), none, 1, []⟩, ⟨(some 27), (.load false 1 (.t 26)), none, 2, []⟩, ⟨(some 28), (.call (.c (.fn (.func 40) [] [])) [(.t 25), (.t 27), (.c (.i .i64 4))]), none, 3, []⟩, ⟨(some 4), (.mv (.t 28)), none, 4, []⟩])
  (.seq (.draw [⟨(some 29), (.mv (.t 4)), none, 0, []⟩, ⟨(some 30), (.fadd 3 (.t 1)), none, 1, []⟩, ⟨(some 35), (.fadd 4 (.t 1)), none, 6, []⟩, ⟨(some 31), (.load false 1 (.t 30)), none, 2, [1]⟩, ⟨(some 32), (.lens (.t 31)), none, 3, [1, 2]⟩, ⟨(some 33), (.cint .u32 (.t 32)), none, 4, [1, 2, 3]⟩, ⟨(some 36), (.load false 1 (.t 35)), none, 7, [6]⟩, ⟨(some 37), (.lens (.t 36)), none, 8, [6, 7]⟩, ⟨(some 38), (.cint .u32 (.t 37)), none, 9, [6, 7, 8]⟩, ⟨(some 34), (.call (.c (.fn (.func 40) [] [])) [(.t 29), (.t 33), (.c (.i .i64 2))]), none, 5, [0, 1, 2, 3, 4]⟩, ⟨(some 39), (.call (.c (.fn (.func 40) [] [])) [(.t 34), (.t 38), (.c (.i .i64 2))]), none, 10, [0, 1, 2, 3, 4, 5, 6, 7, 8, 9]⟩, ⟨(some 4), (.mv (.t 39)), none, 11, [0, 1, 2, 3, 4, 5, 6, 7, 8, 9, 10]⟩])
  (.seq (.region [⟨(some 40), (.mv (.t 4)), none, 0, []⟩, ⟨(some 41), (.fadd 3 (.t 1)), none, 1, []⟩, ⟨(some 42), (.load false 1 (.t 41)), none, 2, []⟩, ⟨(some 43), (.append 1 1 (.t 40) (.t 42)), none, 3, []⟩, ⟨(some 4), (.mv (.t 43)), none, 4, []⟩])
  (.seq (.region [⟨(some 44), (.mv (.t 4)), none, 0, []⟩, ⟨(some 45), (.fadd 4 (.t 1)), none, 1, []⟩, ⟨(some 46), (.load false 1 (.t 45)), none, 2, []⟩, ⟨(some 47), (.append 1 1 (.t 44) (.t 46)), none, 3, []⟩, ⟨(some 2), (.mv (.t 47)), none, 4, []⟩, ⟨(some 3), (.mv (.c (.i .i64 0))), none, 5, []⟩])
  .ret))))))))
def x13 : XFun := ⟨x13b, [(.t 2), (.t 3)]⟩
theorem x13_ok : compF Tryd.prog 13 = some x13 := by kernel_rfl
/-- bollard/bollardlaw18.theirs (14) -/
def x14b : XC := (.seq (.region [⟨(some 1), (.box (.t 0)), none, 0, []⟩, ⟨(some 2), (.alloc [(.i .u8 0), (.i .u16 0), (.i .u32 0), (.s ⟨#[]⟩), (.s ⟨#[]⟩)]), none, 1, []⟩])
  (.seq (.region [⟨(some 3), (.fadd 0 (.t 1)), none, 0, []⟩, ⟨(some 4), (.load false 1 (.t 3)), none, 1, []⟩, ⟨(some 5), (.fadd 1 (.t 1)), none, 2, []⟩, ⟨(some 6), (.load false 1 (.t 5)), none, 3, []⟩, ⟨(some 7), (.fadd 2 (.t 1)), none, 4, []⟩, ⟨(some 8), (.load false 1 (.t 7)), none, 5, []⟩, ⟨(some 9), (.fadd 3 (.t 1)), none, 6, []⟩, ⟨(some 10), (.load false 1 (.t 9)), none, 7, []⟩, ⟨(some 11), (.fadd 4 (.t 1)), none, 8, []⟩, ⟨(some 12), (.load false 1 (.t 11)), none, 9, []⟩, ⟨(some 13), (.build [(.i .u8 0), (.i .u16 0), (.i .u32 0), (.s ⟨#[]⟩), (.s ⟨#[]⟩)] [(0, 1, (.t 4)), (1, 1, (.t 6)), (2, 1, (.t 8)), (3, 1, (.t 10)), (4, 1, (.t 12))]), none, 10, []⟩, ⟨none, (.store 5 (.t 2) (.t 13)), none, 11, []⟩])
  .ret))
def x14 : XFun := ⟨x14b, [(.cell 2 true 5)]⟩
theorem x14_ok : compF Tryd.prog 14 = some x14 := by kernel_rfl
/-- bollard/bollardlaw18.same (10) -/
def x15b : XC := (.seq (.region [⟨(some 4), (.mv (.c (.b false))), none, 0, []⟩])
  (.seq (.region [⟨(some 5), (.mv (.t 0)), none, 0, []⟩, ⟨(some 6), (.cb2s (.t 5)), none, 1, []⟩, ⟨(some 7), (.mv (.t 1)), none, 2, []⟩, ⟨(some 8), (.cb2s (.t 7)), none, 3, []⟩, ⟨(some 9), (.bin .eql (.t 6) (.t 8)), none, 4, []⟩, ⟨(some 4), (.mv (.t 9)), none, 5, []⟩])
  .ret))
def x15 : XFun := ⟨x15b, [(.t 4)]⟩
theorem x15_ok : compF Tryd.prog 15 = some x15 := by kernel_rfl
/-- bollard/dcep.Decode (106) -/
def x16b : XC := (.seq (.region [⟨(some 2), (.alloc [(.i .u8 0), (.i .u16 0), (.i .u32 0), (.s ⟨#[]⟩), (.s ⟨#[]⟩)]), none, 0, []⟩, ⟨(some 3), (.mv (.c (.i .i64 0))), none, 1, []⟩])
  (.seq (.block 0 (.seq (.region [⟨(some 14), (.mv (.t 0)), none, 0, []⟩, ⟨(some 15), (.lenx (.t 14)), none, 1, []⟩, ⟨(some 16), (.bin .gtr (.t 15) (.c (.i .i64 0))), none, 2, []⟩, ⟨(some 17), (.mv (.t 16)), none, 3, []⟩, ⟨(some 18), (.mv (.t 0)), (some (17, true)), 4, []⟩, ⟨(some 19), (.isl 1 (.t 18) (.c (.i .i64 0))), (some (17, true)), 5, []⟩, ⟨(some 20), (.load false 1 (.t 19)), (some (17, true)), 6, []⟩, ⟨(some 21), (.bin .neq (.t 20) (.c (.i .u8 3))), (some (17, true)), 7, []⟩, ⟨(some 22), (.pick (.t 17) (.t 21) (.c (.b false))), none, 8, []⟩, ⟨(some 13), (.mv (.t 22)), none, 9, []⟩])
  (.cond (.t 13) (.seq (.region [⟨(some 23), (.build [(.i .u8 0), (.i .u16 0), (.i .u32 0), (.s ⟨#[]⟩), (.s ⟨#[]⟩)] []), none, 0, []⟩, ⟨none, (.store 5 (.t 2) (.t 23)), none, 1, []⟩, ⟨(some 3), (.mv (.c (.i .i64 3))), none, 2, []⟩])
  .ret) (.seq (.region [⟨(some 25), (.mv (.t 0)), none, 0, []⟩, ⟨(some 26), (.lenx (.t 25)), none, 1, []⟩, ⟨(some 27), (.bin .lss (.t 26) (.c (.i .i64 12))), none, 2, []⟩, ⟨(some 24), (.mv (.t 27)), none, 3, []⟩])
  (.cond (.t 24) (.seq (.region [⟨(some 28), (.build [(.i .u8 0), (.i .u16 0), (.i .u32 0), (.s ⟨#[]⟩), (.s ⟨#[]⟩)] []), none, 0, []⟩, ⟨none, (.store 5 (.t 2) (.t 28)), none, 1, []⟩, ⟨(some 3), (.mv (.c (.i .i64 2))), none, 2, []⟩])
  .ret) .skip)))))
  (.seq (.region [⟨(some 29), (.mv (.t 0)), none, 0, []⟩, ⟨(some 30), (.slsl 1 (.t 29) (some (.c (.i .i64 1))) none none), none, 1, []⟩, ⟨(some 31), (.call (.c (.fn (.func 41) [] [])) [(.t 30)]), none, 2, []⟩, ⟨(some 4), (.mv (.t 31)), none, 3, []⟩])
  (.seq (.region [⟨(some 5), (.alloc [(.i .u8 0), (.i .u16 0), (.i .u32 0), (.s ⟨#[]⟩), (.s ⟨#[]⟩)]), none, 0, []⟩])
  (.seq (.region [⟨(some 33), (.mv (.t 4)), none, 0, []⟩, ⟨(some 34), (.call (.c (.fn (.func 42) [] [])) [(.t 33)]), none, 1, []⟩, ⟨(some 32), (.mv (.t 34)), none, 2, []⟩, ⟨(some 35), (.ext (.t 32) 0), none, 3, []⟩, ⟨(some 36), (.ext (.t 32) 1), none, 4, []⟩, ⟨(some 37), (.fadd 0 (.t 5)), none, 5, []⟩, ⟨none, (.store 1 (.t 37) (.t 35)), none, 6, []⟩])
  (.seq (.region [⟨(some 39), (.mv (.t 4)), none, 0, []⟩, ⟨(some 40), (.call (.c (.fn (.func 43) [] [])) [(.t 39)]), none, 1, []⟩, ⟨(some 38), (.mv (.t 40)), none, 2, []⟩, ⟨(some 41), (.ext (.t 38) 0), none, 3, []⟩, ⟨(some 42), (.ext (.t 38) 1), none, 4, []⟩, ⟨(some 43), (.fadd 1 (.t 5)), none, 5, []⟩, ⟨none, (.store 1 (.t 43) (.t 41)), none, 6, []⟩])
  (.seq (.region [⟨(some 45), (.mv (.t 4)), none, 0, []⟩, ⟨(some 46), (.call (.c (.fn (.func 44) [] [])) [(.t 45)]), none, 1, []⟩, ⟨(some 44), (.mv (.t 46)), none, 2, []⟩, ⟨(some 47), (.ext (.t 44) 0), none, 3, []⟩, ⟨(some 48), (.ext (.t 44) 1), none, 4, []⟩, ⟨(some 49), (.fadd 2 (.t 5)), none, 5, []⟩, ⟨none, (.store 1 (.t 49) (.t 47)), none, 6, []⟩])
  (.seq (.region [⟨(some 51), (.mv (.t 4)), none, 0, []⟩, ⟨(some 52), (.call (.c (.fn (.func 43) [] [])) [(.t 51)]), none, 1, []⟩, ⟨(some 50), (.mv (.t 52)), none, 2, []⟩, ⟨(some 53), (.ext (.t 50) 0), none, 3, []⟩, ⟨(some 54), (.ext (.t 50) 1), none, 4, []⟩, ⟨(some 6), (.mv (.t 53)), none, 5, []⟩, ⟨(some 7), (.mv (.t 54)), none, 6, []⟩])
  (.seq (.region [⟨(some 56), (.mv (.t 4)), none, 0, []⟩, ⟨(some 57), (.call (.c (.fn (.func 43) [] [])) [(.t 56)]), none, 1, []⟩, ⟨(some 55), (.mv (.t 57)), none, 2, []⟩, ⟨(some 58), (.ext (.t 55) 0), none, 3, []⟩, ⟨(some 59), (.ext (.t 55) 1), none, 4, []⟩, ⟨(some 8), (.mv (.t 58)), none, 5, []⟩, ⟨(some 9), (.mv (.t 59)), none, 6, []⟩])
  (.seq (.seq (.region [⟨(some 60), (.mv (.t 6)), none, 0, []⟩, ⟨(some 61), (.bin .gtr (.t 60) (.c (.i .u16 256))), none, 1, []⟩, ⟨(some 62), (.mv (.t 61)), none, 2, []⟩, ⟨(some 63), (.mv (.t 8)), (some (62, false)), 3, []⟩, ⟨(some 64), (.bin .gtr (.t 63) (.c (.i .u16 256))), (some (62, false)), 4, []⟩, ⟨(some 65), (.pick (.t 62) (.c (.b true)) (.t 64)), none, 5, []⟩])
  (.cond (.t 65) (.seq (.region [⟨(some 66), (.build [(.i .u8 0), (.i .u16 0), (.i .u32 0), (.s ⟨#[]⟩), (.s ⟨#[]⟩)] []), none, 0, []⟩, ⟨none, (.store 5 (.t 2) (.t 66)), none, 1, []⟩, ⟨(some 3), (.mv (.c (.i .i64 10))), none, 2, []⟩])
  .ret) .skip))
  (.seq (.region [⟨(some 68), (.mv (.t 4)), none, 0, []⟩, ⟨(some 69), (.mv (.t 6)), none, 1, []⟩, ⟨(some 70), (.cint .i64 (.t 69)), none, 2, []⟩, ⟨(some 71), (.call (.c (.fn (.func 45) [] [])) [(.t 68), (.t 70)]), none, 3, []⟩, ⟨(some 67), (.mv (.t 71)), none, 4, []⟩, ⟨(some 72), (.ext (.t 67) 0), none, 5, []⟩, ⟨(some 73), (.ext (.t 67) 1), none, 6, []⟩, ⟨(some 10), (.mv (.t 72)), none, 7, []⟩, ⟨(some 11), (.mv (.t 73)), none, 8, []⟩])
  (.seq (.seq (.region [⟨(some 74), (.mv (.t 11)), none, 0, []⟩, ⟨(some 75), (.bin .neq (.t 74) (.c (.i .i64 0))), none, 1, []⟩])
  (.cond (.t 75) (.seq (.region [⟨(some 76), (.build [(.i .u8 0), (.i .u16 0), (.i .u32 0), (.s ⟨#[]⟩), (.s ⟨#[]⟩)] []), none, 0, []⟩, ⟨(some 77), (.mv (.t 11)), none, 1, []⟩, ⟨none, (.store 5 (.t 2) (.t 76)), none, 2, []⟩, ⟨(some 3), (.mv (.t 77)), none, 3, []⟩])
  .ret) .skip))
  (.seq (.region [⟨(some 79), (.mv (.t 4)), none, 0, []⟩, ⟨(some 80), (.mv (.t 8)), none, 1, []⟩, ⟨(some 81), (.cint .i64 (.t 80)), none, 2, []⟩, ⟨(some 82), (.call (.c (.fn (.func 45) [] [])) [(.t 79), (.t 81)]), none, 3, []⟩, ⟨(some 78), (.mv (.t 82)), none, 4, []⟩, ⟨(some 83), (.ext (.t 78) 0), none, 5, []⟩, ⟨(some 84), (.ext (.t 78) 1), none, 6, []⟩, ⟨(some 12), (.mv (.t 83)), none, 7, []⟩, ⟨(some 11), (.mv (.t 84)), none, 8, []⟩])
  (.seq (.seq (.region [⟨(some 85), (.mv (.t 11)), none, 0, []⟩, ⟨(some 86), (.bin .neq (.t 85) (.c (.i .i64 0))), none, 1, []⟩])
  (.cond (.t 86) (.seq (.region [⟨(some 87), (.build [(.i .u8 0), (.i .u16 0), (.i .u32 0), (.s ⟨#[]⟩), (.s ⟨#[]⟩)] []), none, 0, []⟩, ⟨(some 88), (.mv (.t 11)), none, 1, []⟩, ⟨none, (.store 5 (.t 2) (.t 87)), none, 2, []⟩, ⟨(some 3), (.mv (.t 88)), none, 3, []⟩])
  .ret) .skip))
  (.seq (.draw [⟨(some 89), (.mv (.t 10)), none, 0, []⟩, ⟨(some 91), (.mv (.t 12)), none, 2, []⟩, ⟨(some 90), (.cb2s (.t 89)), none, 1, [0]⟩, ⟨(some 93), (.fadd 3 (.t 5)), none, 4, [0, 1]⟩, ⟨(some 92), (.cb2s (.t 91)), none, 3, [2]⟩, ⟨none, (.store 1 (.t 93) (.t 90)), none, 5, [0, 1, 4]⟩, ⟨(some 94), (.fadd 4 (.t 5)), none, 6, [0, 1, 2, 3, 4, 5]⟩, ⟨none, (.store 1 (.t 94) (.t 92)), none, 7, [0, 1, 2, 3, 4, 5, 6]⟩])
  (.seq (.block 1 (.seq (.region [⟨(some 96), (.mv (.t 4)), none, 0, []⟩, ⟨(some 97), (.call (.c (.fn (.func 46) [] [])) [(.t 96)]), none, 1, []⟩, ⟨(some 98), (.bin .gtr (.t 97) (.c (.i .i64 0))), none, 2, []⟩, ⟨(some 95), (.mv (.t 98)), none, 3, []⟩])
  (.cond (.t 95) (.seq (.region [⟨(some 99), (.build [(.i .u8 0), (.i .u16 0), (.i .u32 0), (.s ⟨#[]⟩), (.s ⟨#[]⟩)] []), none, 0, []⟩, ⟨none, (.store 5 (.t 2) (.t 99)), none, 1, []⟩, ⟨(some 3), (.mv (.c (.i .i64 3))), none, 2, []⟩])
  .ret) (.seq (.region [⟨(some 101), (.load true 5 (.t 5)), none, 0, []⟩, ⟨(some 102), (.call (.c (.fn (.func 36) [] [])) [(.t 101)]), none, 1, []⟩, ⟨(some 103), (.unx .not (.t 102)), none, 2, []⟩, ⟨(some 100), (.mv (.t 103)), none, 3, []⟩])
  (.cond (.t 100) (.seq (.region [⟨(some 104), (.build [(.i .u8 0), (.i .u16 0), (.i .u32 0), (.s ⟨#[]⟩), (.s ⟨#[]⟩)] []), none, 0, []⟩, ⟨none, (.store 5 (.t 2) (.t 104)), none, 1, []⟩, ⟨(some 3), (.mv (.c (.i .i64 1))), none, 2, []⟩])
  .ret) .skip)))))
  (.seq (.region [⟨(some 105), (.load true 5 (.t 5)), none, 0, []⟩, ⟨none, (.store 5 (.t 2) (.t 105)), none, 1, []⟩, ⟨(some 3), (.mv (.c (.i .i64 0))), none, 2, []⟩])
  .ret)))))))))))))))))
def x16 : XFun := ⟨x16b, [(.cell 2 true 5), (.t 3)]⟩
theorem x16_ok : compF Tryd.prog 16 = some x16 := by kernel_rfl
/-- bollard/bollardref18.Decode (108) -/
def x17b : XC := (.seq (.region [⟨(some 2), (.alloc [(.i .u8 0), (.i .u16 0), (.i .u32 0), (.s ⟨#[]⟩), (.s ⟨#[]⟩)]), none, 0, []⟩, ⟨(some 3), (.mv (.c (.i .i64 0))), none, 1, []⟩])
  (.seq (.seq (.region [⟨(some 18), (.mv (.t 0)), none, 0, []⟩, ⟨(some 19), (.lenx (.t 18)), none, 1, []⟩, ⟨(some 20), (.bin .gtr (.t 19) (.c (.i .i64 0))), none, 2, []⟩, ⟨(some 21), (.mv (.t 20)), none, 3, []⟩, ⟨(some 22), (.mv (.t 0)), (some (21, true)), 4, []⟩, ⟨(some 23), (.isl 1 (.t 22) (.c (.i .i64 0))), (some (21, true)), 5, []⟩, ⟨(some 24), (.load false 1 (.t 23)), (some (21, true)), 6, []⟩, ⟨(some 25), (.bin .neq (.t 24) (.c (.i .u8 3))), (some (21, true)), 7, []⟩, ⟨(some 26), (.pick (.t 21) (.t 25) (.c (.b false))), none, 8, []⟩])
  (.cond (.t 26) (.seq (.region [⟨(some 27), (.build [(.i .u8 0), (.i .u16 0), (.i .u32 0), (.s ⟨#[]⟩), (.s ⟨#[]⟩)] []), none, 0, []⟩, ⟨none, (.store 5 (.t 2) (.t 27)), none, 1, []⟩, ⟨(some 3), (.mv (.c (.i .i64 3))), none, 2, []⟩])
  .ret) .skip))
  (.seq (.seq (.region [⟨(some 28), (.mv (.t 0)), none, 0, []⟩, ⟨(some 29), (.lenx (.t 28)), none, 1, []⟩, ⟨(some 30), (.bin .lss (.t 29) (.c (.i .i64 12))), none, 2, []⟩])
  (.cond (.t 30) (.seq (.region [⟨(some 31), (.build [(.i .u8 0), (.i .u16 0), (.i .u32 0), (.s ⟨#[]⟩), (.s ⟨#[]⟩)] []), none, 0, []⟩, ⟨none, (.store 5 (.t 2) (.t 31)), none, 1, []⟩, ⟨(some 3), (.mv (.c (.i .i64 2))), none, 2, []⟩])
  .ret) .skip))
  (.seq (.region [⟨(some 33), (.mv (.t 0)), none, 0, []⟩, ⟨(some 34), (.slsl 1 (.t 33) (some (.c (.i .i64 2))) none none), none, 1, []⟩, ⟨(some 35), (.call (.c (.fn (.func 47) [] [])) [(.t 34), (.c (.i .i64 2))]), none, 2, []⟩, ⟨(some 32), (.mv (.t 35)), none, 3, []⟩, ⟨(some 36), (.ext (.t 32) 0), none, 4, []⟩, ⟨(some 37), (.ext (.t 32) 1), none, 5, []⟩, ⟨(some 38), (.ext (.t 32) 2), none, 6, []⟩, ⟨(some 4), (.mv (.t 36)), none, 7, []⟩, ⟨(some 5), (.mv (.t 37)), none, 8, []⟩, ⟨(some 6), (.mv (.t 38)), none, 9, []⟩])
  (.seq (.region [⟨(some 40), (.mv (.t 0)), none, 0, []⟩, ⟨(some 41), (.slsl 1 (.t 40) (some (.c (.i .i64 4))) none none), none, 1, []⟩, ⟨(some 42), (.call (.c (.fn (.func 47) [] [])) [(.t 41), (.c (.i .i64 4))]), none, 2, []⟩, ⟨(some 39), (.mv (.t 42)), none, 3, []⟩, ⟨(some 43), (.ext (.t 39) 0), none, 4, []⟩, ⟨(some 44), (.ext (.t 39) 1), none, 5, []⟩, ⟨(some 45), (.ext (.t 39) 2), none, 6, []⟩, ⟨(some 7), (.mv (.t 43)), none, 7, []⟩, ⟨(some 8), (.mv (.t 44)), none, 8, []⟩, ⟨(some 9), (.mv (.t 45)), none, 9, []⟩])
  (.seq (.region [⟨(some 47), (.mv (.t 0)), none, 0, []⟩, ⟨(some 48), (.slsl 1 (.t 47) (some (.c (.i .i64 8))) none none), none, 1, []⟩, ⟨(some 49), (.call (.c (.fn (.func 47) [] [])) [(.t 48), (.c (.i .i64 2))]), none, 2, []⟩, ⟨(some 46), (.mv (.t 49)), none, 3, []⟩, ⟨(some 50), (.ext (.t 46) 0), none, 4, []⟩, ⟨(some 51), (.ext (.t 46) 1), none, 5, []⟩, ⟨(some 52), (.ext (.t 46) 2), none, 6, []⟩, ⟨(some 10), (.mv (.t 50)), none, 7, []⟩, ⟨(some 11), (.mv (.t 51)), none, 8, []⟩, ⟨(some 12), (.mv (.t 52)), none, 9, []⟩])
  (.seq (.region [⟨(some 54), (.mv (.t 0)), none, 0, []⟩, ⟨(some 55), (.slsl 1 (.t 54) (some (.c (.i .i64 10))) none none), none, 1, []⟩, ⟨(some 56), (.call (.c (.fn (.func 47) [] [])) [(.t 55), (.c (.i .i64 2))]), none, 2, []⟩, ⟨(some 53), (.mv (.t 56)), none, 3, []⟩, ⟨(some 57), (.ext (.t 53) 0), none, 4, []⟩, ⟨(some 58), (.ext (.t 53) 1), none, 5, []⟩, ⟨(some 59), (.ext (.t 53) 2), none, 6, []⟩, ⟨(some 13), (.mv (.t 57)), none, 7, []⟩, ⟨(some 14), (.mv (.t 58)), none, 8, []⟩, ⟨(some 15), (.mv (.t 59)), none, 9, []⟩])
  (.seq (.seq (.region [⟨(some 60), (.mv (.t 10)), none, 0, []⟩, ⟨(some 61), (.bin .gtr (.t 60) (.c (.i .u32 256))), none, 1, []⟩, ⟨(some 62), (.mv (.t 61)), none, 2, []⟩, ⟨(some 63), (.mv (.t 13)), (some (62, false)), 3, []⟩, ⟨(some 64), (.bin .gtr (.t 63) (.c (.i .u32 256))), (some (62, false)), 4, []⟩, ⟨(some 65), (.pick (.t 62) (.c (.b true)) (.t 64)), none, 5, []⟩])
  (.cond (.t 65) (.seq (.region [⟨(some 66), (.build [(.i .u8 0), (.i .u16 0), (.i .u32 0), (.s ⟨#[]⟩), (.s ⟨#[]⟩)] []), none, 0, []⟩, ⟨none, (.store 5 (.t 2) (.t 66)), none, 1, []⟩, ⟨(some 3), (.mv (.c (.i .i64 10))), none, 2, []⟩])
  .ret) .skip))
  (.seq (.region [⟨(some 67), (.mv (.t 10)), none, 0, []⟩, ⟨(some 68), (.cint .i64 (.t 67)), none, 1, []⟩, ⟨(some 69), (.bin .add (.c (.i .i64 12)) (.t 68)), none, 2, []⟩, ⟨(some 70), (.mv (.t 13)), none, 3, []⟩, ⟨(some 71), (.cint .i64 (.t 70)), none, 4, []⟩, ⟨(some 72), (.bin .add (.t 69) (.t 71)), none, 5, []⟩, ⟨(some 16), (.mv (.t 72)), none, 6, []⟩])
  (.seq (.seq (.region [⟨(some 73), (.mv (.t 0)), none, 0, []⟩, ⟨(some 74), (.lenx (.t 73)), none, 1, []⟩, ⟨(some 75), (.mv (.t 16)), none, 2, []⟩, ⟨(some 76), (.bin .lss (.t 74) (.t 75)), none, 3, []⟩])
  (.cond (.t 76) (.seq (.region [⟨(some 77), (.build [(.i .u8 0), (.i .u16 0), (.i .u32 0), (.s ⟨#[]⟩), (.s ⟨#[]⟩)] []), none, 0, []⟩, ⟨none, (.store 5 (.t 2) (.t 77)), none, 1, []⟩, ⟨(some 3), (.mv (.c (.i .i64 2))), none, 2, []⟩])
  .ret) .skip))
  (.seq (.seq (.region [⟨(some 78), (.mv (.t 0)), none, 0, []⟩, ⟨(some 79), (.lenx (.t 78)), none, 1, []⟩, ⟨(some 80), (.mv (.t 16)), none, 2, []⟩, ⟨(some 81), (.bin .gtr (.t 79) (.t 80)), none, 3, []⟩])
  (.cond (.t 81) (.seq (.region [⟨(some 82), (.build [(.i .u8 0), (.i .u16 0), (.i .u32 0), (.s ⟨#[]⟩), (.s ⟨#[]⟩)] []), none, 0, []⟩, ⟨none, (.store 5 (.t 2) (.t 82)), none, 1, []⟩, ⟨(some 3), (.mv (.c (.i .i64 3))), none, 2, []⟩])
  .ret) .skip))
  (.seq (.draw [⟨(some 83), (.mv (.t 0)), none, 0, []⟩, ⟨(some 84), (.isl 1 (.t 83) (.c (.i .i64 1))), none, 1, [0]⟩, ⟨(some 86), (.mv (.t 4)), none, 3, []⟩, ⟨(some 87), (.cint .u16 (.t 86)), none, 4, [3]⟩, ⟨(some 88), (.mv (.t 7)), none, 5, []⟩, ⟨(some 89), (.mv (.t 0)), none, 6, []⟩, ⟨(some 90), (.mv (.t 10)), none, 7, []⟩, ⟨(some 91), (.cint .i64 (.t 90)), none, 8, [7]⟩, ⟨(some 92), (.bin .add (.c (.i .i64 12)) (.t 91)), none, 9, [7, 8]⟩, ⟨(some 93), (.slsl 1 (.t 89) (some (.c (.i .i64 12))) (some (.t 92)) none), none, 10, [6, 7, 8, 9]⟩, ⟨(some 95), (.mv (.t 0)), none, 12, []⟩, ⟨(some 96), (.mv (.t 10)), none, 13, []⟩, ⟨(some 97), (.cint .i64 (.t 96)), none, 14, [13]⟩, ⟨(some 98), (.bin .add (.c (.i .i64 12)) (.t 97)), none, 15, [13, 14]⟩, ⟨(some 99), (.mv (.t 16)), none, 16, []⟩, ⟨(some 100), (.slsl 1 (.t 95) (some (.t 98)) (some (.t 99)) none), none, 17, [12, 13, 14, 15, 16]⟩, ⟨(some 85), (.load false 1 (.t 84)), none, 2, [0, 1]⟩, ⟨(some 94), (.cb2s (.t 93)), none, 11, [6, 7, 8, 9, 10]⟩, ⟨(some 101), (.cb2s (.t 100)), none, 18, [12, 13, 14, 15, 16, 17]⟩, ⟨(some 102), (.build [(.i .u8 0), (.i .u16 0), (.i .u32 0), (.s ⟨#[]⟩), (.s ⟨#[]⟩)] [(0, 1, (.t 85)), (1, 1, (.t 87)), (2, 1, (.t 88)), (3, 1, (.t 94)), (4, 1, (.t 101))]), none, 19, [0, 1, 2, 3, 4, 5, 6, 7, 8, 9, 10, 11, 12, 13, 14, 15, 16, 17, 18]⟩, ⟨(some 17), (.alloc [(.i .u8 0), (.i .u16 0), (.i .u32 0), (.s ⟨#[]⟩), (.s ⟨#[]⟩)]), none, 20, []⟩, ⟨none, (.store 5 (.t 17) (.t 102)), none, 21, [0, 1, 2, 3, 4, 5, 6, 7, 8, 9, 10, 11, 12, 13, 14, 15, 16, 17, 18, 19, 20]⟩])
  (.seq (.seq (.region [⟨(some 103), (.load true 5 (.t 17)), none, 0, []⟩, ⟨(some 104), (.call (.c (.fn (.func 39) [] [])) [(.t 103)]), none, 1, []⟩, ⟨(some 105), (.unx .not (.t 104)), none, 2, []⟩])
  (.cond (.t 105) (.seq (.region [⟨(some 106), (.build [(.i .u8 0), (.i .u16 0), (.i .u32 0), (.s ⟨#[]⟩), (.s ⟨#[]⟩)] []), none, 0, []⟩, ⟨none, (.store 5 (.t 2) (.t 106)), none, 1, []⟩, ⟨(some 3), (.mv (.c (.i .i64 1))), none, 2, []⟩])
  .ret) .skip))
  (.seq (.region [⟨(some 107), (.load true 5 (.t 17)), none, 0, []⟩, ⟨none, (.store 5 (.t 2) (.t 107)), none, 1, []⟩, ⟨(some 3), (.mv (.c (.i .i64 0))), none, 2, []⟩])
  .ret))))))))))))))
def x17 : XFun := ⟨x17b, [(.cell 2 true 5), (.t 3)]⟩
theorem x17_ok : compF Tryd.prog 17 = some x17 := by kernel_rfl
/-- bollard/bollardlaw18.alike (38) -/
def x18b : XC := (.seq (.region [⟨(some 2), (.box (.t 0)), none, 0, []⟩, ⟨(some 3), (.box (.t 1)), none, 1, []⟩, ⟨(some 4), (.mv (.c (.b false))), none, 2, []⟩])
  (.seq (.region [⟨(some 5), (.fadd 0 (.t 2)), none, 0, []⟩, ⟨(some 6), (.load false 1 (.t 5)), none, 1, []⟩, ⟨(some 7), (.fadd 0 (.t 3)), none, 2, []⟩, ⟨(some 8), (.load false 1 (.t 7)), none, 3, []⟩, ⟨(some 9), (.bin .eql (.t 6) (.t 8)), none, 4, []⟩, ⟨(some 10), (.mv (.t 9)), none, 5, []⟩, ⟨(some 11), (.fadd 1 (.t 2)), (some (10, true)), 6, []⟩, ⟨(some 12), (.load false 1 (.t 11)), (some (10, true)), 7, []⟩, ⟨(some 13), (.fadd 1 (.t 3)), (some (10, true)), 8, []⟩, ⟨(some 14), (.load false 1 (.t 13)), (some (10, true)), 9, []⟩, ⟨(some 15), (.bin .eql (.t 12) (.t 14)), (some (10, true)), 10, []⟩, ⟨(some 16), (.pick (.t 10) (.t 15) (.c (.b false))), none, 11, []⟩, ⟨(some 17), (.mv (.t 16)), none, 12, []⟩, ⟨(some 18), (.fadd 2 (.t 2)), (some (17, true)), 13, []⟩, ⟨(some 19), (.load false 1 (.t 18)), (some (17, true)), 14, []⟩, ⟨(some 20), (.fadd 2 (.t 3)), (some (17, true)), 15, []⟩, ⟨(some 21), (.load false 1 (.t 20)), (some (17, true)), 16, []⟩, ⟨(some 22), (.bin .eql (.t 19) (.t 21)), (some (17, true)), 17, []⟩, ⟨(some 23), (.pick (.t 17) (.t 22) (.c (.b false))), none, 18, []⟩, ⟨(some 24), (.mv (.t 23)), none, 19, []⟩, ⟨(some 25), (.fadd 3 (.t 2)), (some (24, true)), 20, []⟩, ⟨(some 26), (.load false 1 (.t 25)), (some (24, true)), 21, []⟩, ⟨(some 27), (.fadd 3 (.t 3)), (some (24, true)), 22, []⟩, ⟨(some 28), (.load false 1 (.t 27)), (some (24, true)), 23, []⟩, ⟨(some 29), (.bin .eql (.t 26) (.t 28)), (some (24, true)), 24, []⟩, ⟨(some 30), (.pick (.t 24) (.t 29) (.c (.b false))), none, 25, []⟩, ⟨(some 31), (.mv (.t 30)), none, 26, []⟩, ⟨(some 32), (.fadd 4 (.t 2)), (some (31, true)), 27, []⟩, ⟨(some 33), (.load false 1 (.t 32)), (some (31, true)), 28, []⟩, ⟨(some 34), (.fadd 4 (.t 3)), (some (31, true)), 29, []⟩, ⟨(some 35), (.load false 1 (.t 34)), (some (31, true)), 30, []⟩, ⟨(some 36), (.bin .eql (.t 33) (.t 35)), (some (31, true)), 31, []⟩, ⟨(some 37), (.pick (.t 31) (.t 36) (.c (.b false))), none, 32, []⟩, ⟨(some 4), (.mv (.t 37)), none, 33, []⟩])
  .ret))
def x18 : XFun := ⟨x18b, [(.t 4)]⟩
theorem x18_ok : compF Tryd.prog 18 = some x18 := by kernel_rfl
/-- bollard/dcep.Wrap (17) -/
def x19b : XC := (.seq (.region [⟨(some 4), (.mv (.c (.i .u32 0))), none, 0, []⟩, ⟨(some 5), (.mv (.c (.sl none 0 0 0))), none, 1, []⟩])
  (.seq (.region [⟨(some 6), (.mv (.c (.i .u32 53))), none, 0, []⟩, ⟨(some 7), (.mv (.c (.i .u32 57))), none, 1, []⟩])
  (.seq (.seq (.region [⟨(some 8), (.mv (.t 0)), none, 0, []⟩])
  (.cond (.t 8) (.region [⟨(some 6), (.mv (.c (.i .u32 51))), none, 0, []⟩, ⟨(some 7), (.mv (.c (.i .u32 56))), none, 1, []⟩]) .skip))
  (.seq (.seq (.region [⟨(some 9), (.mv (.t 1)), none, 0, []⟩, ⟨(some 10), (.lenx (.t 9)), none, 1, []⟩, ⟨(some 11), (.bin .eql (.t 10) (.c (.i .i64 0))), none, 2, []⟩])
  (.cond (.t 11) (.seq (.region [⟨(some 12), (.mv (.t 7)), none, 0, []⟩, ⟨(some 13), (.bslice [(.i .u8 0)] [(0, 1, (.c (.i .u8 0)))] 1), none, 1, []⟩, ⟨(some 4), (.mv (.t 12)), none, 2, []⟩, ⟨(some 5), (.mv (.t 13)), none, 3, []⟩])
  .ret) .skip))
  (.seq (.region [⟨(some 14), (.mv (.t 6)), none, 0, []⟩, ⟨(some 15), (.mv (.t 1)), none, 1, []⟩, ⟨(some 16), (.call (.c (.fn (.func 48) [] [])) [(.t 15)]), none, 2, []⟩, ⟨(some 4), (.mv (.t 14)), none, 3, []⟩, ⟨(some 5), (.mv (.t 16)), none, 4, []⟩])
  .ret)))))
def x19 : XFun := ⟨x19b, [(.t 4), (.t 5)]⟩
theorem x19_ok : compF Tryd.prog 19 = some x19 := by kernel_rfl
/-- bollard/dcep.Unwrap (23) -/
def x20b : XC := (.seq (.region [⟨(some 4), (.mv (.c (.b false))), none, 0, []⟩, ⟨(some 5), (.mv (.c (.sl none 0 0 0))), none, 1, []⟩, ⟨(some 6), (.mv (.c (.b false))), none, 2, []⟩])
  (.seq (.seq (.region [⟨(some 7), (.mv (.t 0)), none, 0, []⟩])
  (.block 0 (.seq (.seq (.region [⟨(some 9), (.bin .eql (.t 7) (.c (.i .u32 56))), none, 0, []⟩, ⟨(some 8), (.mv (.t 9)), none, 1, []⟩])
  (.cond (.t 8) .skip (.region [⟨(some 10), (.bin .eql (.t 7) (.c (.i .u32 57))), none, 0, []⟩, ⟨(some 8), (.mv (.t 10)), none, 1, []⟩])))
  (.cond (.t 8) (.seq (.region [⟨(some 11), (.mv (.t 0)), none, 0, []⟩, ⟨(some 12), (.bin .eql (.t 11) (.c (.i .u32 56))), none, 1, []⟩, ⟨(some 4), (.mv (.t 12)), none, 2, []⟩, ⟨(some 5), (.mv (.c (.sl none 0 0 0))), none, 3, []⟩, ⟨(some 6), (.mv (.c (.b true))), none, 4, []⟩])
  .ret) (.seq (.seq (.region [⟨(some 14), (.bin .eql (.t 7) (.c (.i .u32 51))), none, 0, []⟩, ⟨(some 13), (.mv (.t 14)), none, 1, []⟩])
  (.cond (.t 13) .skip (.region [⟨(some 15), (.bin .eql (.t 7) (.c (.i .u32 53))), none, 0, []⟩, ⟨(some 13), (.mv (.t 15)), none, 1, []⟩])))
  (.cond (.t 13) (.seq (.region [⟨(some 16), (.mv (.t 1)), none, 0, []⟩, ⟨(some 17), (.lenx (.t 16)), none, 1, []⟩, ⟨(some 18), (.bin .gtr (.t 17) (.c (.i .i64 0))), none, 2, []⟩])
  (.cond (.t 18) (.seq (.region [⟨(some 19), (.mv (.t 0)), none, 0, []⟩, ⟨(some 20), (.bin .eql (.t 19) (.c (.i .u32 51))), none, 1, []⟩, ⟨(some 21), (.mv (.t 1)), none, 2, []⟩, ⟨(some 22), (.call (.c (.fn (.func 48) [] [])) [(.t 21)]), none, 3, []⟩, ⟨(some 4), (.mv (.t 20)), none, 4, []⟩, ⟨(some 5), (.mv (.t 22)), none, 5, []⟩, ⟨(some 6), (.mv (.c (.b true))), none, 6, []⟩])
  .ret) .skip)) .skip))))))
  (.seq (.region [⟨(some 4), (.mv (.c (.b false))), none, 0, []⟩, ⟨(some 5), (.mv (.c (.sl none 0 0 0))), none, 1, []⟩, ⟨(some 6), (.mv (.c (.b false))), none, 2, []⟩])
  .ret)))
def x20 : XFun := ⟨x20b, [(.t 4), (.t 5), (.t 6)]⟩
theorem x20_ok : compF Tryd.prog 20 = some x20 := by kernel_rfl
/-- bollard/bollardref18.Unwrap (22) -/
def x21b : XC := (.seq (.region [⟨(some 4), (.mv (.c (.b false))), none, 0, []⟩, ⟨(some 5), (.mv (.c (.sl none 0 0 0))), none, 1, []⟩, ⟨(some 6), (.mv (.c (.b false))), none, 2, []⟩])
  (.seq (.seq (.region [⟨(some 7), (.mv (.t 0)), none, 0, []⟩])
  (.block 0 (.seq (.seq (.region [⟨(some 9), (.bin .eql (.t 7) (.c (.i .u32 51))), none, 0, []⟩, ⟨(some 8), (.mv (.t 9)), none, 1, []⟩])
  (.cond (.t 8) .skip (.region [⟨(some 10), (.bin .eql (.t 7) (.c (.i .u32 53))), none, 0, []⟩, ⟨(some 8), (.mv (.t 10)), none, 1, []⟩])))
  (.cond (.t 8) (.seq (.region [⟨(some 11), (.mv (.t 1)), none, 0, []⟩, ⟨(some 12), (.lenx (.t 11)), none, 1, []⟩, ⟨(some 13), (.bin .gtr (.t 12) (.c (.i .i64 0))), none, 2, []⟩])
  (.cond (.t 13) (.seq (.region [⟨(some 14), (.mv (.t 0)), none, 0, []⟩, ⟨(some 15), (.bin .eql (.t 14) (.c (.i .u32 51))), none, 1, []⟩, ⟨(some 16), (.mv (.t 1)), none, 2, []⟩, ⟨(some 4), (.mv (.t 15)), none, 3, []⟩, ⟨(some 5), (.mv (.t 16)), none, 4, []⟩, ⟨(some 6), (.mv (.c (.b true))), none, 5, []⟩])
  .ret) .skip)) (.seq (.seq (.region [⟨(some 18), (.bin .eql (.t 7) (.c (.i .u32 56))), none, 0, []⟩, ⟨(some 17), (.mv (.t 18)), none, 1, []⟩])
  (.cond (.t 17) .skip (.region [⟨(some 19), (.bin .eql (.t 7) (.c (.i .u32 57))), none, 0, []⟩, ⟨(some 17), (.mv (.t 19)), none, 1, []⟩])))
  (.cond (.t 17) (.seq (.region [⟨(some 20), (.mv (.t 0)), none, 0, []⟩, ⟨(some 21), (.bin .eql (.t 20) (.c (.i .u32 56))), none, 1, []⟩, ⟨(some 4), (.mv (.t 21)), none, 2, []⟩, ⟨(some 5), (.mv (.c (.sl none 0 0 0))), none, 3, []⟩, ⟨(some 6), (.mv (.c (.b true))), none, 4, []⟩])
  .ret) .skip))))))
  (.seq (.region [⟨(some 4), (.mv (.c (.b false))), none, 0, []⟩, ⟨(some 5), (.mv (.c (.sl none 0 0 0))), none, 1, []⟩, ⟨(some 6), (.mv (.c (.b false))), none, 2, []⟩])
  .ret)))
def x21 : XFun := ⟨x21b, [(.t 4), (.t 5), (.t 6)]⟩
theorem x21_ok : compF Tryd.prog 21 = some x21 := by kernel_rfl
/-- bollard/dcep.New (16) -/
def x22b : XC := (.seq (.region [⟨(some 4), (.mv (.c (.p none))), none, 0, []⟩])
  (.seq (.seq (.region [⟨(some 5), (.mv (.t 1)), none, 0, []⟩, ⟨(some 6), (.bin .lss (.t 5) (.c (.i .i64 1))), none, 1, []⟩, ⟨(some 7), (.mv (.t 6)), none, 2, []⟩, ⟨(some 8), (.mv (.t 1)), (some (7, false)), 3, []⟩, ⟨(some 9), (.bin .gtr (.t 8) (.c (.i .i64 64))), (some (7, false)), 4, []⟩, ⟨(some 10), (.pick (.t 7) (.c (.b true)) (.t 9)), none, 5, []⟩])
  (.cond (.t 10) (.region [⟨(some 1), (.mv (.c (.i .i64 64))), none, 0, []⟩]) .skip))
  (.seq (.region [⟨(some 11), (.mv (.t 1)), none, 0, []⟩, ⟨(some 12), (.mkslice [(.i .i64 0), (.i .u8 0), (.i .u16 0), (.i .u32 0), (.s ⟨#[]⟩), (.s ⟨#[]⟩), (.b false), (.b false)] 56 (.t 11) (.t 11)), none, 1, []⟩, ⟨(some 13), (.mv (.t 0)), none, 2, []⟩, ⟨(some 14), (.build [(.sl none 0 0 0), (.b false)] [(0, 1, (.t 12)), (1, 1, (.t 13))]), none, 3, []⟩, ⟨(some 15), (.box (.t 14)), none, 4, []⟩, ⟨(some 4), (.mv (.t 15)), none, 5, []⟩])
  .ret)))
def x22 : XFun := ⟨x22b, [(.t 4)]⟩
theorem x22_ok : compF Tryd.prog 22 = some x22 := by kernel_rfl
/-- (*bollard/dcep.Table).Ask (54) -/
def x23b : XC := (.seq (.region [⟨(some 3), (.box (.t 1)), none, 0, []⟩, ⟨(some 4), (.mv (.c (.i .u16 0))), none, 1, []⟩, ⟨(some 5), (.mv (.c (.sl none 0 0 0))), none, 2, []⟩, ⟨(some 6), (.mv (.c (.i .i64 0))), none, 3, []⟩])
  (.seq (.seq (.region [⟨(some 10), (.mv (.t 0)), none, 0, []⟩, ⟨(some 11), (.nilq 0 false (.t 10)), none, 1, []⟩])
  (.cond (.t 11) (.seq (.region [⟨(some 4), (.mv (.c (.i .u16 0))), none, 0, []⟩, ⟨(some 5), (.mv (.c (.sl none 0 0 0))), none, 1, []⟩, ⟨(some 6), (.mv (.c (.i .i64 1))), none, 2, []⟩])
  .ret) .skip))
  (.seq (.region [⟨(some 13), (.load true 5 (.t 3)), none, 0, []⟩, ⟨(some 14), (.call (.c (.fn (.func 12) [] [])) [(.t 13)]), none, 1, []⟩, ⟨(some 12), (.mv (.t 14)), none, 2, []⟩, ⟨(some 15), (.ext (.t 12) 0), none, 3, []⟩, ⟨(some 16), (.ext (.t 12) 1), none, 4, []⟩, ⟨(some 7), (.mv (.t 15)), none, 5, []⟩, ⟨(some 8), (.mv (.t 16)), none, 6, []⟩])
  (.seq (.seq (.region [⟨(some 17), (.mv (.t 8)), none, 0, []⟩, ⟨(some 18), (.bin .neq (.t 17) (.c (.i .i64 0))), none, 1, []⟩])
  (.cond (.t 18) (.seq (.region [⟨(some 19), (.mv (.t 8)), none, 0, []⟩, ⟨(some 4), (.mv (.c (.i .u16 0))), none, 1, []⟩, ⟨(some 5), (.mv (.c (.sl none 0 0 0))), none, 2, []⟩, ⟨(some 6), (.mv (.t 19)), none, 3, []⟩])
  .ret) .skip))
  (.seq (.seq (.region [⟨(some 20), (.mv (.t 0)), none, 0, []⟩, ⟨(some 21), (.nilc (.t 20)), none, 1, []⟩, ⟨(some 22), (.fadd 0 (.t 21)), none, 2, []⟩, ⟨(some 23), (.load false 1 (.t 22)), none, 3, []⟩, ⟨(some 24), (.lenx (.t 23)), none, 4, []⟩, ⟨(some 25), (.mv (.c (.i .i64 0))), none, 5, []⟩])
  (.block 0 (.loop (.seq (.region [⟨(some 26), (.bin .lss (.t 25) (.t 24)), none, 0, []⟩])
  (.seq (.cond (.t 26) .skip (.exit 0))
  (.seq (.block 1 (.seq (.region [⟨(some 27), (.mv (.t 25)), none, 0, []⟩, ⟨(some 9), (.mv (.t 27)), none, 1, []⟩])
  (.seq (.region [⟨(some 28), (.mv (.t 0)), none, 0, []⟩, ⟨(some 29), (.mv (.t 9)), none, 1, []⟩, ⟨(some 30), (.call (.c (.fn (.func 49) [] [])) [(.t 28), (.t 29)]), none, 2, []⟩, ⟨(some 31), (.mv (.t 30)), none, 3, []⟩, ⟨(some 32), (.mv (.t 0)), (some (31, true)), 4, []⟩, ⟨(some 33), (.nilc (.t 32)), (some (31, true)), 5, []⟩, ⟨(some 34), (.fadd 0 (.t 33)), (some (31, true)), 6, []⟩, ⟨(some 35), (.load false 1 (.t 34)), (some (31, true)), 7, []⟩, ⟨(some 36), (.mv (.t 9)), (some (31, true)), 8, []⟩, ⟨(some 37), (.isl 8 (.t 35) (.t 36)), (some (31, true)), 9, []⟩, ⟨(some 38), (.fadd 0 (.t 37)), (some (31, true)), 10, []⟩, ⟨(some 39), (.load false 1 (.t 38)), (some (31, true)), 11, []⟩, ⟨(some 40), (.bin .eql (.t 39) (.c (.i .i64 0))), (some (31, true)), 12, []⟩, ⟨(some 41), (.pick (.t 31) (.t 40) (.c (.b false))), none, 13, []⟩])
  (.cond (.t 41) (.seq (.draw [⟨(some 42), (.mv (.t 0)), none, 0, []⟩, ⟨(some 43), (.nilc (.t 42)), none, 1, [0]⟩, ⟨(some 44), (.fadd 0 (.t 43)), none, 2, [0, 1]⟩, ⟨(some 46), (.mv (.t 9)), none, 4, []⟩, ⟨(some 45), (.load false 1 (.t 44)), none, 3, [0, 1, 2]⟩, ⟨(some 47), (.load true 5 (.t 3)), none, 5, []⟩, ⟨(some 48), (.build [(.i .i64 0), (.i .u8 0), (.i .u16 0), (.i .u32 0), (.s ⟨#[]⟩), (.s ⟨#[]⟩), (.b false), (.b false)] [(0, 1, (.c (.i .i64 1))), (1, 5, (.t 47))]), none, 6, [5]⟩, ⟨(some 49), (.isl 8 (.t 45) (.t 46)), none, 7, [0, 1, 2, 3, 4, 5, 6]⟩, ⟨none, (.store 8 (.t 49) (.t 48)), none, 8, [0, 1, 2, 3, 4, 5, 6, 7]⟩])
  (.seq (.region [⟨(some 50), (.mv (.t 9)), none, 0, []⟩, ⟨(some 51), (.cint .u16 (.t 50)), none, 1, []⟩, ⟨(some 52), (.mv (.t 7)), none, 2, []⟩, ⟨(some 4), (.mv (.t 51)), none, 3, []⟩, ⟨(some 5), (.mv (.t 52)), none, 4, []⟩, ⟨(some 6), (.mv (.c (.i .i64 0))), none, 5, []⟩])
  .ret)) .skip))))
  (.region [⟨(some 53), (.bin .add (.t 25) (.c (.i .i64 1))), none, 0, []⟩, ⟨(some 25), (.mv (.t 53)), none, 1, []⟩])))))))
  (.seq (.region [⟨(some 4), (.mv (.c (.i .u16 0))), none, 0, []⟩, ⟨(some 5), (.mv (.c (.sl none 0 0 0))), none, 1, []⟩, ⟨(some 6), (.mv (.c (.i .i64 9))), none, 2, []⟩])
  .ret))))))
def x23 : XFun := ⟨x23b, [(.t 4), (.t 5), (.t 6)]⟩
theorem x23_ok : compF Tryd.prog 23 = some x23 := by kernel_rfl
/-- (*bollard/dcep.Table).Close (18) -/
def x24b : XC := (.seq (.region [⟨(some 4), (.mv (.c (.i .i64 0))), none, 0, []⟩])
  (.seq (.region [⟨(some 6), (.mv (.t 0)), none, 0, []⟩, ⟨(some 7), (.mv (.t 1)), none, 1, []⟩, ⟨(some 8), (.call (.c (.fn (.func 50) [] [])) [(.t 6), (.t 7)]), none, 2, []⟩, ⟨(some 5), (.mv (.t 8)), none, 3, []⟩])
  (.seq (.seq (.region [⟨(some 9), (.mv (.t 5)), none, 0, []⟩, ⟨(some 10), (.nilq 0 false (.t 9)), none, 1, []⟩, ⟨(some 11), (.mv (.t 10)), none, 2, []⟩, ⟨(some 12), (.mv (.t 5)), (some (11, false)), 3, []⟩, ⟨(some 13), (.call (.c (.fn (.func 51) [] [])) [(.t 12)]), (some (11, false)), 4, []⟩, ⟨(some 14), (.unx .not (.t 13)), (some (11, false)), 5, []⟩, ⟨(some 15), (.pick (.t 11) (.c (.b true)) (.t 14)), none, 6, []⟩])
  (.cond (.t 15) (.seq (.region [⟨(some 4), (.mv (.c (.i .i64 11))), none, 0, []⟩])
  .ret) .skip))
  (.seq (.region [⟨(some 16), (.mv (.t 5)), none, 0, []⟩, ⟨(some 17), (.call (.c (.fn (.func 52) [] [])) [(.t 16), (.c (.b false)), (.c (.b false))]), none, 1, []⟩])
  (.seq (.region [⟨(some 4), (.mv (.c (.i .i64 0))), none, 0, []⟩])
  .ret)))))
def x24 : XFun := ⟨x24b, [(.t 4)]⟩
theorem x24_ok : compF Tryd.prog 24 = some x24 := by kernel_rfl
/-- (*bollard/dcep.Table).Freed (19) -/
def x25b : XC := (.seq (.region [⟨(some 5), (.mv (.t 0)), none, 0, []⟩, ⟨(some 6), (.mv (.t 1)), none, 1, []⟩, ⟨(some 7), (.call (.c (.fn (.func 50) [] [])) [(.t 5), (.t 6)]), none, 2, []⟩, ⟨(some 4), (.mv (.t 7)), none, 3, []⟩])
  (.seq (.region [⟨(some 8), (.mv (.t 4)), none, 0, []⟩, ⟨(some 9), (.nilq 0 true (.t 8)), none, 1, []⟩, ⟨(some 10), (.mv (.t 9)), none, 2, []⟩, ⟨(some 11), (.mv (.t 4)), (some (10, true)), 3, []⟩, ⟨(some 12), (.nilc (.t 11)), (some (10, true)), 4, []⟩, ⟨(some 13), (.fadd 0 (.t 12)), (some (10, true)), 5, []⟩, ⟨(some 14), (.load false 1 (.t 13)), (some (10, true)), 6, []⟩, ⟨(some 15), (.bin .eql (.t 14) (.c (.i .i64 3))), (some (10, true)), 7, []⟩, ⟨(some 16), (.pick (.t 10) (.t 15) (.c (.b false))), none, 8, []⟩])
  (.cond (.t 16) (.region [⟨(some 17), (.mv (.t 4)), none, 0, []⟩, ⟨(some 18), (.call (.c (.fn (.func 52) [] [])) [(.t 17), (.c (.b true)), (.c (.b false))]), none, 1, []⟩]) .skip)))
def x25 : XFun := ⟨x25b, []⟩
theorem x25_ok : compF Tryd.prog 25 = some x25 := by kernel_rfl
/-- (*bollard/dcep.Table).Gone (24) -/
def x26b : XC := (.seq (.region [⟨(some 4), (.mv (.c (.b false))), none, 0, []⟩])
  (.seq (.region [⟨(some 7), (.mv (.t 0)), none, 0, []⟩, ⟨(some 8), (.mv (.t 1)), none, 1, []⟩, ⟨(some 9), (.call (.c (.fn (.func 50) [] [])) [(.t 7), (.t 8)]), none, 2, []⟩, ⟨(some 5), (.mv (.t 9)), none, 3, []⟩])
  (.seq (.seq (.region [⟨(some 10), (.mv (.t 5)), none, 0, []⟩, ⟨(some 11), (.nilq 0 false (.t 10)), none, 1, []⟩, ⟨(some 12), (.mv (.t 11)), none, 2, []⟩, ⟨(some 13), (.mv (.t 5)), (some (12, false)), 3, []⟩, ⟨(some 14), (.nilc (.t 13)), (some (12, false)), 4, []⟩, ⟨(some 15), (.fadd 0 (.t 14)), (some (12, false)), 5, []⟩, ⟨(some 16), (.load false 1 (.t 15)), (some (12, false)), 6, []⟩, ⟨(some 17), (.bin .eql (.t 16) (.c (.i .i64 0))), (some (12, false)), 7, []⟩, ⟨(some 18), (.pick (.t 12) (.c (.b true)) (.t 17)), none, 8, []⟩])
  (.cond (.t 18) (.seq (.region [⟨(some 4), (.mv (.c (.b false))), none, 0, []⟩])
  .ret) .skip))
  (.seq (.region [⟨(some 19), (.mv (.t 5)), none, 0, []⟩, ⟨(some 20), (.call (.c (.fn (.func 51) [] [])) [(.t 19)]), none, 1, []⟩, ⟨(some 6), (.mv (.t 20)), none, 2, []⟩])
  (.seq (.region [⟨(some 21), (.mv (.t 5)), none, 0, []⟩, ⟨(some 22), (.call (.c (.fn (.func 52) [] [])) [(.t 21), (.c (.b false)), (.c (.b true))]), none, 1, []⟩])
  (.seq (.region [⟨(some 23), (.mv (.t 6)), none, 0, []⟩, ⟨(some 4), (.mv (.t 23)), none, 1, []⟩])
  .ret))))))
def x26 : XFun := ⟨x26b, [(.t 4)]⟩
theorem x26_ok : compF Tryd.prog 26 = some x26 := by kernel_rfl
/-- (*bollard/dcep.Table).Opening (16) -/
def x27b : XC := (.seq (.region [⟨(some 4), (.alloc [(.i .u8 0), (.i .u16 0), (.i .u32 0), (.s ⟨#[]⟩), (.s ⟨#[]⟩)]), none, 0, []⟩])
  (.seq (.seq (.region [⟨(some 6), (.mv (.t 0)), none, 0, []⟩, ⟨(some 7), (.mv (.t 1)), none, 1, []⟩, ⟨(some 8), (.call (.c (.fn (.func 50) [] [])) [(.t 6), (.t 7)]), none, 2, []⟩, ⟨(some 5), (.mv (.t 8)), none, 3, []⟩])
  (.seq (.region [⟨(some 9), (.mv (.t 5)), none, 0, []⟩, ⟨(some 10), (.nilq 0 true (.t 9)), none, 1, []⟩])
  (.cond (.t 10) (.seq (.region [⟨(some 11), (.mv (.t 5)), none, 0, []⟩, ⟨(some 12), (.nilc (.t 11)), none, 1, []⟩, ⟨(some 13), (.fadd 1 (.t 12)), none, 2, []⟩, ⟨(some 14), (.load true 5 (.t 13)), none, 3, []⟩, ⟨none, (.store 5 (.t 4) (.t 14)), none, 4, []⟩])
  .ret) .skip)))
  (.seq (.region [⟨(some 15), (.build [(.i .u8 0), (.i .u16 0), (.i .u32 0), (.s ⟨#[]⟩), (.s ⟨#[]⟩)] []), none, 0, []⟩, ⟨none, (.store 5 (.t 4) (.t 15)), none, 1, []⟩])
  .ret)))
def x27 : XFun := ⟨x27b, [(.cell 4 true 5)]⟩
theorem x27_ok : compF Tryd.prog 27 = some x27 := by kernel_rfl
/-- bollard/bollardlaw18.pass (53) -/
def x28b : XC := (.seq (.region [⟨(some 4), (.mv (.c (.sl none 0 0 0))), none, 0, []⟩, ⟨(some 5), (.mv (.c (.b false))), none, 1, []⟩])
  (.seq (.region [⟨(some 6), (.mv (.c (.sl none 0 0 0))), none, 0, []⟩])
  (.seq (.seq (.region [⟨(some 7), (.mv (.c (.i .i64 0))), none, 0, []⟩])
  (.block 0 (.loop (.seq (.seq (.region [⟨(some 11), (.mv (.t 7)), none, 0, []⟩, ⟨(some 12), (.mv (.t 1)), none, 1, []⟩, ⟨(some 13), (.lenx (.t 12)), none, 2, []⟩, ⟨(some 14), (.bin .lss (.t 11) (.t 13)), none, 3, []⟩])
  (.cond (.t 14) .skip (.exit 0)))
  (.seq (.block 1 (.seq (.region [⟨(some 18), (.mv (.t 0)), none, 0, []⟩, ⟨(some 19), (.mv (.t 1)), none, 1, []⟩, ⟨(some 20), (.mv (.t 7)), none, 2, []⟩, ⟨(some 21), (.isl 4 (.t 19) (.t 20)), none, 3, []⟩, ⟨(some 22), (.load true 4 (.t 21)), none, 4, []⟩, ⟨(some 23), (.call (.c (.fn (.func 35) [] [])) [(.t 18), (.t 22)]), none, 5, []⟩, ⟨(some 17), (.mv (.t 23)), none, 6, []⟩, ⟨(some 24), (.ext (.t 17) 0), none, 7, []⟩, ⟨(some 25), (.ext (.t 17) 1), none, 8, []⟩, ⟨(some 26), (.ext (.t 17) 2), none, 9, []⟩, ⟨(some 8), (.alloc [(.i .i64 0), (.i .u16 0), (.i .u8 0), (.i .u16 0), (.i .u32 0), (.s ⟨#[]⟩), (.s ⟨#[]⟩), (.b false), (.sl none 0 0 0)]), none, 10, []⟩, ⟨none, (.store 9 (.t 8) (.t 24)), none, 11, []⟩, ⟨(some 9), (.mv (.t 25)), none, 12, []⟩, ⟨(some 10), (.mv (.t 26)), none, 13, []⟩])
  (.seq (.seq (.draw [⟨(some 27), (.mv (.t 10)), none, 0, []⟩, ⟨(some 28), (.bin .neq (.t 27) (.c (.i .i64 0))), none, 1, [0]⟩, ⟨(some 29), (.mv (.t 28)), none, 2, [0, 1]⟩, ⟨(some 30), (.fadd 1 (.t 8)), (some (29, false)), 3, [0, 1, 2]⟩, ⟨(some 32), (.mv (.t 1)), (some (29, false)), 5, [0, 1, 2]⟩, ⟨(some 33), (.mv (.t 7)), (some (29, false)), 6, [0, 1, 2]⟩, ⟨(some 34), (.isl 4 (.t 32) (.t 33)), (some (29, false)), 7, [0, 1, 2, 5, 6]⟩, ⟨(some 35), (.fadd 0 (.t 34)), (some (29, false)), 8, [0, 1, 2, 5, 6, 7]⟩, ⟨(some 31), (.load false 1 (.t 30)), (some (29, false)), 4, [0, 1, 2, 3]⟩, ⟨(some 36), (.load false 1 (.t 35)), (some (29, false)), 9, [0, 1, 2, 5, 6, 7, 8]⟩, ⟨(some 37), (.bin .neq (.t 31) (.t 36)), (some (29, false)), 10, [0, 1, 2, 3, 4, 5, 6, 7, 8, 9]⟩, ⟨(some 38), (.pick (.t 29) (.c (.b true)) (.t 37)), none, 11, [0, 1, 2, 3, 4, 5, 6, 7, 8, 9, 10]⟩])
  (.cond (.t 38) (.seq (.region [⟨(some 4), (.mv (.c (.sl none 0 0 0))), none, 0, []⟩, ⟨(some 5), (.mv (.c (.b false))), none, 1, []⟩])
  .ret) .skip))
  (.seq (.region [⟨(some 39), (.mv (.t 9)), none, 0, []⟩, ⟨(some 40), (.lenx (.t 39)), none, 1, []⟩, ⟨(some 41), (.bin .gtr (.t 40) (.c (.i .i64 0))), none, 2, []⟩])
  (.cond (.t 41) (.region [⟨(some 42), (.mv (.t 6)), none, 0, []⟩, ⟨(some 43), (.mv (.t 1)), none, 1, []⟩, ⟨(some 44), (.mv (.t 7)), none, 2, []⟩, ⟨(some 45), (.isl 4 (.t 43) (.t 44)), none, 3, []⟩, ⟨(some 46), (.fadd 0 (.t 45)), none, 4, []⟩, ⟨(some 47), (.load false 1 (.t 46)), none, 5, []⟩, ⟨(some 48), (.mv (.t 9)), none, 6, []⟩, ⟨(some 49), (.build [(.i .u16 0), (.b false), (.i .u32 0), (.sl none 0 0 0)] [(0, 1, (.t 47)), (2, 1, (.c (.i .u32 50))), (3, 1, (.t 48))]), none, 7, []⟩, ⟨(some 50), (.bslice [(.i .u16 0), (.b false), (.i .u32 0), (.sl none 0 0 0)] [(0, 4, (.t 49))] 1), none, 8, []⟩, ⟨(some 51), (.append 4 32 (.t 42) (.t 50)), none, 9, []⟩, ⟨(some 6), (.mv (.t 51)), none, 10, []⟩]) .skip)))))
  (.region [⟨(some 15), (.mv (.t 7)), none, 0, []⟩, ⟨(some 16), (.bin .add (.t 15) (.c (.i .i64 1))), none, 1, []⟩, ⟨(some 7), (.mv (.t 16)), none, 2, []⟩]))))))
  (.seq (.region [⟨(some 52), (.mv (.t 6)), none, 0, []⟩, ⟨(some 4), (.mv (.t 52)), none, 1, []⟩, ⟨(some 5), (.mv (.c (.b true))), none, 2, []⟩])
  .ret))))
def x28 : XFun := ⟨x28b, [(.t 4), (.t 5)]⟩
theorem x28_ok : compF Tryd.prog 28 = some x28 := by kernel_rfl
/-- (*bollard/dcep.Table).State (15) -/
def x29b : XC := (.seq (.region [⟨(some 4), (.mv (.c (.i .i64 0))), none, 0, []⟩])
  (.seq (.seq (.region [⟨(some 6), (.mv (.t 0)), none, 0, []⟩, ⟨(some 7), (.mv (.t 1)), none, 1, []⟩, ⟨(some 8), (.call (.c (.fn (.func 50) [] [])) [(.t 6), (.t 7)]), none, 2, []⟩, ⟨(some 5), (.mv (.t 8)), none, 3, []⟩])
  (.seq (.region [⟨(some 9), (.mv (.t 5)), none, 0, []⟩, ⟨(some 10), (.nilq 0 true (.t 9)), none, 1, []⟩])
  (.cond (.t 10) (.seq (.region [⟨(some 11), (.mv (.t 5)), none, 0, []⟩, ⟨(some 12), (.nilc (.t 11)), none, 1, []⟩, ⟨(some 13), (.fadd 0 (.t 12)), none, 2, []⟩, ⟨(some 14), (.load false 1 (.t 13)), none, 3, []⟩, ⟨(some 4), (.mv (.t 14)), none, 4, []⟩])
  .ret) .skip)))
  (.seq (.region [⟨(some 4), (.mv (.c (.i .i64 0))), none, 0, []⟩])
  .ret)))
def x29 : XFun := ⟨x29b, [(.t 4)]⟩
theorem x29_ok : compF Tryd.prog 29 = some x29 := by kernel_rfl
/-- bollard/bollardref18.New (16) -/
def x30b : XC := (.seq (.region [⟨(some 4), (.mv (.c (.p none))), none, 0, []⟩])
  (.seq (.seq (.region [⟨(some 5), (.mv (.t 1)), none, 0, []⟩, ⟨(some 6), (.bin .lss (.t 5) (.c (.i .i64 1))), none, 1, []⟩, ⟨(some 7), (.mv (.t 6)), none, 2, []⟩, ⟨(some 8), (.mv (.t 1)), (some (7, false)), 3, []⟩, ⟨(some 9), (.bin .gtr (.t 8) (.c (.i .i64 64))), (some (7, false)), 4, []⟩, ⟨(some 10), (.pick (.t 7) (.c (.b true)) (.t 9)), none, 5, []⟩])
  (.cond (.t 10) (.region [⟨(some 1), (.mv (.c (.i .i64 64))), none, 0, []⟩]) .skip))
  (.seq (.region [⟨(some 11), (.mv (.t 1)), none, 0, []⟩, ⟨(some 12), (.mkslice [(.i .i64 0), (.i .u8 0), (.i .u16 0), (.i .u32 0), (.s ⟨#[]⟩), (.s ⟨#[]⟩), (.b false), (.b false)] 56 (.t 11) (.t 11)), none, 1, []⟩, ⟨(some 13), (.mv (.t 0)), none, 2, []⟩, ⟨(some 14), (.build [(.sl none 0 0 0), (.b false)] [(0, 1, (.t 12)), (1, 1, (.t 13))]), none, 3, []⟩, ⟨(some 15), (.box (.t 14)), none, 4, []⟩, ⟨(some 4), (.mv (.t 15)), none, 5, []⟩])
  .ret)))
def x30 : XFun := ⟨x30b, [(.t 4)]⟩
theorem x30_ok : compF Tryd.prog 30 = some x30 := by kernel_rfl
/-- bollard/bollardlaw18.step (144) -/
def x31b : XC := (.seq (.region [⟨(some 5), (.box (.t 2)), none, 0, []⟩, ⟨(some 6), (.mv (.c (.b false))), none, 1, []⟩])
  (.seq (.seq (.region [⟨(some 19), (.fadd 0 (.t 5)), none, 0, []⟩, ⟨(some 20), (.load false 1 (.t 19)), none, 1, []⟩])
  (.block 0 (.seq (.region [⟨(some 22), (.bin .eql (.t 20) (.c (.i .i64 0))), none, 0, []⟩, ⟨(some 21), (.mv (.t 22)), none, 1, []⟩])
  (.cond (.t 21) (.seq (.region [⟨(some 24), (.mv (.t 0)), none, 0, []⟩, ⟨(some 25), (.fadd 1 (.t 5)), none, 1, []⟩, ⟨(some 26), (.load true 5 (.t 25)), none, 2, []⟩, ⟨(some 27), (.call (.c (.fn (.func 23) [] [])) [(.t 24), (.t 26)]), none, 3, []⟩, ⟨(some 23), (.mv (.t 27)), none, 4, []⟩, ⟨(some 28), (.ext (.t 23) 0), none, 5, []⟩, ⟨(some 29), (.ext (.t 23) 1), none, 6, []⟩, ⟨(some 30), (.ext (.t 23) 2), none, 7, []⟩, ⟨(some 7), (.mv (.t 28)), none, 8, []⟩, ⟨(some 8), (.mv (.t 29)), none, 9, []⟩, ⟨(some 9), (.mv (.t 30)), none, 10, []⟩])
  (.seq (.region [⟨(some 32), (.mv (.t 1)), none, 0, []⟩, ⟨(some 33), (.fadd 1 (.t 5)), none, 1, []⟩, ⟨(some 34), (.load true 5 (.t 33)), none, 2, []⟩, ⟨(some 35), (.call (.c (.fn (.func 14) [] [])) [(.t 34)]), none, 3, []⟩, ⟨(some 36), (.call (.c (.fn (.func 53) [] [])) [(.t 32), (.t 35)]), none, 4, []⟩, ⟨(some 31), (.mv (.t 36)), none, 5, []⟩, ⟨(some 37), (.ext (.t 31) 0), none, 6, []⟩, ⟨(some 38), (.ext (.t 31) 1), none, 7, []⟩, ⟨(some 39), (.ext (.t 31) 2), none, 8, []⟩, ⟨(some 10), (.mv (.t 37)), none, 9, []⟩, ⟨(some 11), (.mv (.t 38)), none, 10, []⟩, ⟨(some 12), (.mv (.t 39)), none, 11, []⟩])
  (.seq (.region [⟨(some 40), (.mv (.t 7)), none, 0, []⟩, ⟨(some 41), (.mv (.t 10)), none, 1, []⟩, ⟨(some 42), (.bin .eql (.t 40) (.t 41)), none, 2, []⟩, ⟨(some 43), (.mv (.t 42)), none, 3, []⟩, ⟨(some 44), (.mv (.t 8)), (some (43, true)), 4, []⟩, ⟨(some 45), (.mv (.t 11)), (some (43, true)), 5, []⟩, ⟨(some 46), (.call (.c (.fn (.func 15) [] [])) [(.t 44), (.t 45)]), (some (43, true)), 6, []⟩, ⟨(some 47), (.pick (.t 43) (.t 46) (.c (.b false))), none, 7, []⟩, ⟨(some 48), (.mv (.t 47)), none, 8, []⟩, ⟨(some 49), (.mv (.t 9)), (some (48, true)), 9, []⟩, ⟨(some 50), (.mv (.t 12)), (some (48, true)), 10, []⟩, ⟨(some 51), (.bin .eql (.t 49) (.t 50)), (some (48, true)), 11, []⟩, ⟨(some 52), (.pick (.t 48) (.t 51) (.c (.b false))), none, 12, []⟩, ⟨(some 6), (.mv (.t 52)), none, 13, []⟩])
  .ret))) (.seq (.region [⟨(some 54), (.bin .eql (.t 20) (.c (.i .i64 1))), none, 0, []⟩, ⟨(some 53), (.mv (.t 54)), none, 1, []⟩])
  (.cond (.t 53) (.seq (.region [⟨(some 56), (.mv (.t 0)), none, 0, []⟩, ⟨(some 57), (.fadd 6 (.t 5)), none, 1, []⟩, ⟨(some 58), (.load true 4 (.t 57)), none, 2, []⟩, ⟨(some 59), (.call (.c (.fn (.func 35) [] [])) [(.t 56), (.t 58)]), none, 3, []⟩, ⟨(some 55), (.mv (.t 59)), none, 4, []⟩, ⟨(some 60), (.ext (.t 55) 0), none, 5, []⟩, ⟨(some 61), (.ext (.t 55) 1), none, 6, []⟩, ⟨(some 62), (.ext (.t 55) 2), none, 7, []⟩, ⟨(some 13), (.alloc [(.i .i64 0), (.i .u16 0), (.i .u8 0), (.i .u16 0), (.i .u32 0), (.s ⟨#[]⟩), (.s ⟨#[]⟩), (.b false), (.sl none 0 0 0)]), none, 8, []⟩, ⟨none, (.store 9 (.t 13) (.t 60)), none, 9, []⟩, ⟨(some 14), (.mv (.t 61)), none, 10, []⟩, ⟨(some 15), (.mv (.t 62)), none, 11, []⟩])
  (.seq (.region [⟨(some 64), (.mv (.t 1)), none, 0, []⟩, ⟨(some 65), (.fadd 6 (.t 5)), none, 1, []⟩, ⟨(some 66), (.load true 4 (.t 65)), none, 2, []⟩, ⟨(some 67), (.call (.c (.fn (.func 54) [] [])) [(.t 64), (.t 66)]), none, 3, []⟩, ⟨(some 63), (.mv (.t 67)), none, 4, []⟩, ⟨(some 68), (.ext (.t 63) 0), none, 5, []⟩, ⟨(some 69), (.ext (.t 63) 1), none, 6, []⟩, ⟨(some 70), (.ext (.t 63) 2), none, 7, []⟩, ⟨(some 16), (.alloc [(.i .i64 0), (.i .u16 0), (.i .u8 0), (.i .u16 0), (.i .u32 0), (.s ⟨#[]⟩), (.s ⟨#[]⟩), (.b false), (.sl none 0 0 0)]), none, 8, []⟩, ⟨none, (.store 9 (.t 16) (.t 68)), none, 9, []⟩, ⟨(some 17), (.mv (.t 69)), none, 10, []⟩, ⟨(some 18), (.mv (.t 70)), none, 11, []⟩])
  (.seq (.region [⟨(some 71), (.fadd 0 (.t 13)), none, 0, []⟩, ⟨(some 72), (.load false 1 (.t 71)), none, 1, []⟩, ⟨(some 73), (.fadd 0 (.t 16)), none, 2, []⟩, ⟨(some 74), (.load false 1 (.t 73)), none, 3, []⟩, ⟨(some 75), (.bin .eql (.t 72) (.t 74)), none, 4, []⟩, ⟨(some 76), (.mv (.t 75)), none, 5, []⟩, ⟨(some 77), (.fadd 1 (.t 13)), (some (76, true)), 6, []⟩, ⟨(some 78), (.load false 1 (.t 77)), (some (76, true)), 7, []⟩, ⟨(some 79), (.fadd 1 (.t 16)), (some (76, true)), 8, []⟩, ⟨(some 80), (.load false 1 (.t 79)), (some (76, true)), 9, []⟩, ⟨(some 81), (.bin .eql (.t 78) (.t 80)), (some (76, true)), 10, []⟩, ⟨(some 82), (.pick (.t 76) (.t 81) (.c (.b false))), none, 11, []⟩, ⟨(some 83), (.mv (.t 82)), none, 12, []⟩, ⟨(some 84), (.fadd 2 (.t 13)), (some (83, true)), 13, []⟩, ⟨(some 85), (.load true 5 (.t 84)), (some (83, true)), 14, []⟩, ⟨(some 86), (.fadd 2 (.t 16)), (some (83, true)), 15, []⟩, ⟨(some 87), (.load true 5 (.t 86)), (some (83, true)), 16, []⟩, ⟨(some 88), (.call (.c (.fn (.func 18) [] [])) [(.t 85), (.t 87)]), (some (83, true)), 17, []⟩, ⟨(some 89), (.pick (.t 83) (.t 88) (.c (.b false))), none, 18, []⟩, ⟨(some 90), (.mv (.t 89)), none, 19, []⟩, ⟨(some 91), (.fadd 7 (.t 13)), (some (90, true)), 20, []⟩, ⟨(some 92), (.load false 1 (.t 91)), (some (90, true)), 21, []⟩, ⟨(some 93), (.fadd 7 (.t 16)), (some (90, true)), 22, []⟩, ⟨(some 94), (.load false 1 (.t 93)), (some (90, true)), 23, []⟩, ⟨(some 95), (.beq false (.t 92) (.t 94)), (some (90, true)), 24, []⟩, ⟨(some 96), (.pick (.t 90) (.t 95) (.c (.b false))), none, 25, []⟩, ⟨(some 97), (.mv (.t 96)), none, 26, []⟩, ⟨(some 98), (.fadd 8 (.t 13)), (some (97, true)), 27, []⟩, ⟨(some 99), (.load false 1 (.t 98)), (some (97, true)), 28, []⟩, ⟨(some 100), (.fadd 8 (.t 16)), (some (97, true)), 29, []⟩, ⟨(some 101), (.load false 1 (.t 100)), (some (97, true)), 30, []⟩, ⟨(some 102), (.call (.c (.fn (.func 15) [] [])) [(.t 99), (.t 101)]), (some (97, true)), 31, []⟩, ⟨(some 103), (.pick (.t 97) (.t 102) (.c (.b false))), none, 32, []⟩, ⟨(some 104), (.mv (.t 103)), none, 33, []⟩, ⟨(some 105), (.mv (.t 14)), (some (104, true)), 34, []⟩, ⟨(some 106), (.mv (.t 17)), (some (104, true)), 35, []⟩, ⟨(some 107), (.call (.c (.fn (.func 15) [] [])) [(.t 105), (.t 106)]), (some (104, true)), 36, []⟩, ⟨(some 108), (.pick (.t 104) (.t 107) (.c (.b false))), none, 37, []⟩, ⟨(some 109), (.mv (.t 108)), none, 38, []⟩, ⟨(some 110), (.mv (.t 15)), (some (109, true)), 39, []⟩, ⟨(some 111), (.mv (.t 18)), (some (109, true)), 40, []⟩, ⟨(some 112), (.bin .eql (.t 110) (.t 111)), (some (109, true)), 41, []⟩, ⟨(some 113), (.pick (.t 109) (.t 112) (.c (.b false))), none, 42, []⟩, ⟨(some 6), (.mv (.t 113)), none, 43, []⟩])
  .ret))) (.seq (.region [⟨(some 115), (.bin .eql (.t 20) (.c (.i .i64 2))), none, 0, []⟩, ⟨(some 114), (.mv (.t 115)), none, 1, []⟩])
  (.cond (.t 114) (.seq (.draw [⟨(some 116), (.mv (.t 0)), none, 0, []⟩, ⟨(some 117), (.fadd 10 (.t 5)), none, 1, []⟩, ⟨(some 120), (.mv (.t 1)), none, 4, []⟩, ⟨(some 121), (.fadd 10 (.t 5)), none, 5, []⟩, ⟨(some 118), (.load false 1 (.t 117)), none, 2, [1]⟩, ⟨(some 122), (.load false 1 (.t 121)), none, 6, [5]⟩, ⟨(some 119), (.call (.c (.fn (.func 24) [] [])) [(.t 116), (.t 118)]), none, 3, [0, 1, 2]⟩, ⟨(some 123), (.call (.c (.fn (.func 55) [] [])) [(.t 120), (.t 122)]), none, 7, [0, 1, 2, 3, 4, 5, 6]⟩, ⟨(some 124), (.bin .eql (.t 119) (.t 123)), none, 8, [0, 1, 2, 3, 4, 5, 6, 7]⟩, ⟨(some 6), (.mv (.t 124)), none, 9, [0, 1, 2, 3, 4, 5, 6, 7, 8]⟩])
  .ret) (.seq (.region [⟨(some 126), (.bin .eql (.t 20) (.c (.i .i64 3))), none, 0, []⟩, ⟨(some 125), (.mv (.t 126)), none, 1, []⟩])
  (.cond (.t 125) (.seq (.draw [⟨(some 127), (.mv (.t 0)), none, 0, []⟩, ⟨(some 128), (.fadd 10 (.t 5)), none, 1, []⟩, ⟨(some 131), (.mv (.t 1)), none, 4, []⟩, ⟨(some 132), (.fadd 10 (.t 5)), none, 5, []⟩, ⟨(some 129), (.load false 1 (.t 128)), none, 2, [1]⟩, ⟨(some 133), (.load false 1 (.t 132)), none, 6, [5]⟩, ⟨(some 130), (.call (.c (.fn (.func 26) [] [])) [(.t 127), (.t 129)]), none, 3, [0, 1, 2]⟩, ⟨(some 134), (.call (.c (.fn (.func 56) [] [])) [(.t 131), (.t 133)]), none, 7, [0, 1, 2, 3, 4, 5, 6]⟩, ⟨(some 135), (.beq false (.t 130) (.t 134)), none, 8, [0, 1, 2, 3, 4, 5, 6, 7]⟩, ⟨(some 6), (.mv (.t 135)), none, 9, [0, 1, 2, 3, 4, 5, 6, 7, 8]⟩])
  .ret) .skip))))))))))
  (.seq (.region [⟨(some 136), (.mv (.t 0)), none, 0, []⟩, ⟨(some 137), (.fadd 10 (.t 5)), none, 1, []⟩, ⟨(some 138), (.load false 1 (.t 137)), none, 2, []⟩, ⟨(some 139), (.call (.c (.fn (.func 25) [] [])) [(.t 136), (.t 138)]), none, 3, []⟩])
  (.seq (.region [⟨(some 140), (.mv (.t 1)), none, 0, []⟩, ⟨(some 141), (.fadd 10 (.t 5)), none, 1, []⟩, ⟨(some 142), (.load false 1 (.t 141)), none, 2, []⟩, ⟨(some 143), (.call (.c (.fn (.func 57) [] [])) [(.t 140), (.t 142)]), none, 3, []⟩])
  (.seq (.region [⟨(some 6), (.mv (.c (.b true))), none, 0, []⟩])
  .ret)))))
def x31 : XFun := ⟨x31b, [(.t 6)]⟩
theorem x31_ok : compF Tryd.prog 31 = some x31 := by kernel_rfl
/-- (*bollard/bollardref18.Table).Of (22) -/
def x32b : XC := (.seq (.region [⟨(some 4), (.alloc [(.i .i64 0), (.i .u8 0), (.i .u16 0), (.i .u32 0), (.s ⟨#[]⟩), (.s ⟨#[]⟩), (.b false), (.b false)]), none, 0, []⟩])
  (.seq (.seq (.region [⟨(some 5), (.mv (.t 1)), none, 0, []⟩, ⟨(some 6), (.cint .i64 (.t 5)), none, 1, []⟩, ⟨(some 7), (.mv (.t 0)), none, 2, []⟩, ⟨(some 8), (.nilc (.t 7)), none, 3, []⟩, ⟨(some 9), (.fadd 0 (.t 8)), none, 4, []⟩, ⟨(some 10), (.load false 1 (.t 9)), none, 5, []⟩, ⟨(some 11), (.lenx (.t 10)), none, 6, []⟩, ⟨(some 12), (.bin .geq (.t 6) (.t 11)), none, 7, []⟩])
  (.cond (.t 12) (.seq (.region [⟨(some 13), (.build [(.i .i64 0), (.i .u8 0), (.i .u16 0), (.i .u32 0), (.s ⟨#[]⟩), (.s ⟨#[]⟩), (.b false), (.b false)] []), none, 0, []⟩, ⟨none, (.store 8 (.t 4) (.t 13)), none, 1, []⟩])
  .ret) .skip))
  (.seq (.region [⟨(some 14), (.mv (.t 0)), none, 0, []⟩, ⟨(some 15), (.nilc (.t 14)), none, 1, []⟩, ⟨(some 16), (.fadd 0 (.t 15)), none, 2, []⟩, ⟨(some 17), (.load false 1 (.t 16)), none, 3, []⟩, ⟨(some 18), (.mv (.t 1)), none, 4, []⟩, ⟨(some 19), (.cint .i64 (.t 18)), none, 5, []⟩, ⟨(some 20), (.isl 8 (.t 17) (.t 19)), none, 6, []⟩, ⟨(some 21), (.load true 8 (.t 20)), none, 7, []⟩, ⟨none, (.store 8 (.t 4) (.t 21)), none, 8, []⟩])
  .ret)))
def x32 : XFun := ⟨x32b, [(.cell 4 true 8)]⟩
theorem x32_ok : compF Tryd.prog 32 = some x32 := by kernel_rfl
/-- (*bollard/dcep.Table).Find (20) -/
def x33b : XC := (.seq (.region [⟨(some 3), (.box (.t 1)), none, 0, []⟩, ⟨(some 4), (.mv (.c (.i .u16 0))), none, 1, []⟩, ⟨(some 5), (.mv (.c (.b false))), none, 2, []⟩])
  (.seq (.seq (.region [⟨(some 7), (.mv (.t 0)), none, 0, []⟩, ⟨(some 8), (.nilq 0 false (.t 7)), none, 1, []⟩])
  (.cond (.t 8) (.seq (.region [⟨(some 4), (.mv (.c (.i .u16 0))), none, 0, []⟩, ⟨(some 5), (.mv (.c (.b false))), none, 1, []⟩])
  .ret) .skip))
  (.seq (.region [⟨(some 9), (.mv (.t 0)), none, 0, []⟩, ⟨(some 10), (.nilc (.t 9)), none, 1, []⟩, ⟨(some 11), (.fadd 0 (.t 10)), none, 2, []⟩, ⟨(some 12), (.load false 1 (.t 11)), none, 3, []⟩, ⟨(some 13), (.mkf (.func 59) [] [(.t 3)]), none, 4, []⟩, ⟨(some 14), (.call (.c (.fn (.func 58) [] [])) [(.t 12), (.t 13)]), none, 5, []⟩, ⟨(some 6), (.mv (.t 14)), none, 6, []⟩])
  (.seq (.region [⟨(some 15), (.mv (.t 6)), none, 0, []⟩, ⟨(some 16), (.mnmx true [(.t 15), (.c (.i .i64 0))]), none, 1, []⟩, ⟨(some 17), (.cint .u16 (.t 16)), none, 2, []⟩, ⟨(some 18), (.mv (.t 6)), none, 3, []⟩, ⟨(some 19), (.bin .geq (.t 18) (.c (.i .i64 0))), none, 4, []⟩, ⟨(some 4), (.mv (.t 17)), none, 5, []⟩, ⟨(some 5), (.mv (.t 19)), none, 6, []⟩])
  .ret))))
def x33 : XFun := ⟨x33b, [(.t 4), (.t 5)]⟩
theorem x33_ok : compF Tryd.prog 33 = some x33 := by kernel_rfl
/-- (*bollard/bollardref18.Table).Find (51) -/
def x34b : XC := (.seq (.region [⟨(some 4), (.mv (.c (.i .u16 0))), none, 0, []⟩, ⟨(some 5), (.mv (.c (.b false))), none, 1, []⟩])
  (.seq (.seq (.region [⟨(some 6), (.mv (.c (.i .i64 0))), none, 0, []⟩])
  (.block 0 (.loop (.seq (.seq (.region [⟨(some 7), (.mv (.t 6)), none, 0, []⟩, ⟨(some 8), (.mv (.t 0)), none, 1, []⟩, ⟨(some 9), (.nilc (.t 8)), none, 2, []⟩, ⟨(some 10), (.fadd 0 (.t 9)), none, 3, []⟩, ⟨(some 11), (.load false 1 (.t 10)), none, 4, []⟩, ⟨(some 12), (.lenx (.t 11)), none, 5, []⟩, ⟨(some 13), (.bin .lss (.t 7) (.t 12)), none, 6, []⟩])
  (.cond (.t 13) .skip (.exit 0)))
  (.seq (.block 1 (.seq (.region [⟨(some 16), (.mv (.t 0)), none, 0, []⟩, ⟨(some 17), (.nilc (.t 16)), none, 1, []⟩, ⟨(some 18), (.fadd 0 (.t 17)), none, 2, []⟩, ⟨(some 19), (.load false 1 (.t 18)), none, 3, []⟩, ⟨(some 20), (.mv (.t 6)), none, 4, []⟩, ⟨(some 21), (.isl 8 (.t 19) (.t 20)), none, 5, []⟩, ⟨(some 22), (.fadd 0 (.t 21)), none, 6, []⟩, ⟨(some 23), (.load false 1 (.t 22)), none, 7, []⟩, ⟨(some 24), (.bin .eql (.t 23) (.c (.i .i64 1))), none, 8, []⟩, ⟨(some 25), (.mv (.t 24)), none, 9, []⟩, ⟨(some 26), (.mv (.t 0)), (some (25, false)), 10, []⟩, ⟨(some 27), (.nilc (.t 26)), (some (25, false)), 11, []⟩, ⟨(some 28), (.fadd 0 (.t 27)), (some (25, false)), 12, []⟩, ⟨(some 29), (.load false 1 (.t 28)), (some (25, false)), 13, []⟩, ⟨(some 30), (.mv (.t 6)), (some (25, false)), 14, []⟩, ⟨(some 31), (.isl 8 (.t 29) (.t 30)), (some (25, false)), 15, []⟩, ⟨(some 32), (.fadd 0 (.t 31)), (some (25, false)), 16, []⟩, ⟨(some 33), (.load false 1 (.t 32)), (some (25, false)), 17, []⟩, ⟨(some 34), (.bin .eql (.t 33) (.c (.i .i64 2))), (some (25, false)), 18, []⟩, ⟨(some 35), (.pick (.t 25) (.c (.b true)) (.t 34)), none, 19, []⟩, ⟨(some 36), (.mv (.t 35)), none, 20, []⟩, ⟨(some 37), (.mv (.t 0)), (some (36, true)), 21, []⟩, ⟨(some 38), (.nilc (.t 37)), (some (36, true)), 22, []⟩, ⟨(some 39), (.fadd 0 (.t 38)), (some (36, true)), 23, []⟩, ⟨(some 40), (.load false 1 (.t 39)), (some (36, true)), 24, []⟩, ⟨(some 41), (.mv (.t 6)), (some (36, true)), 25, []⟩, ⟨(some 42), (.isl 8 (.t 40) (.t 41)), (some (36, true)), 26, []⟩, ⟨(some 43), (.fadd 1 (.t 42)), (some (36, true)), 27, []⟩, ⟨(some 44), (.fadd 3 (.t 43)), (some (36, true)), 28, []⟩, ⟨(some 45), (.load false 1 (.t 44)), (some (36, true)), 29, []⟩, ⟨(some 46), (.mv (.t 1)), (some (36, true)), 30, []⟩, ⟨(some 47), (.bin .eql (.t 45) (.t 46)), (some (36, true)), 31, []⟩, ⟨(some 48), (.pick (.t 36) (.t 47) (.c (.b false))), none, 32, []⟩])
  (.cond (.t 48) (.seq (.region [⟨(some 49), (.mv (.t 6)), none, 0, []⟩, ⟨(some 50), (.cint .u16 (.t 49)), none, 1, []⟩, ⟨(some 4), (.mv (.t 50)), none, 2, []⟩, ⟨(some 5), (.mv (.c (.b true))), none, 3, []⟩])
  .ret) .skip)))
  (.region [⟨(some 14), (.mv (.t 6)), none, 0, []⟩, ⟨(some 15), (.bin .add (.t 14) (.c (.i .i64 1))), none, 1, []⟩, ⟨(some 6), (.mv (.t 15)), none, 2, []⟩]))))))
  (.seq (.region [⟨(some 4), (.mv (.c (.i .u16 0))), none, 0, []⟩, ⟨(some 5), (.mv (.c (.b false))), none, 1, []⟩])
  .ret)))
def x34 : XFun := ⟨x34b, [(.t 4), (.t 5)]⟩
theorem x34_ok : compF Tryd.prog 34 = some x34 := by kernel_rfl
/-- (*bollard/dcep.Table).Hear (83) -/
def x35b : XC := (.seq (.region [⟨(some 3), (.box (.t 1)), none, 0, []⟩, ⟨(some 4), (.alloc [(.i .i64 0), (.i .u16 0), (.i .u8 0), (.i .u16 0), (.i .u32 0), (.s ⟨#[]⟩), (.s ⟨#[]⟩), (.b false), (.sl none 0 0 0)]), none, 1, []⟩, ⟨(some 5), (.mv (.c (.sl none 0 0 0))), none, 2, []⟩, ⟨(some 6), (.mv (.c (.i .i64 0))), none, 3, []⟩])
  (.seq (.region [⟨(some 13), (.mv (.t 0)), none, 0, []⟩, ⟨(some 14), (.fadd 0 (.t 3)), none, 1, []⟩, ⟨(some 15), (.load false 1 (.t 14)), none, 2, []⟩, ⟨(some 16), (.call (.c (.fn (.func 50) [] [])) [(.t 13), (.t 15)]), none, 3, []⟩, ⟨(some 7), (.mv (.t 16)), none, 4, []⟩])
  (.seq (.block 0 (.seq (.region [⟨(some 18), (.mv (.t 7)), none, 0, []⟩, ⟨(some 19), (.nilq 0 false (.t 18)), none, 1, []⟩, ⟨(some 17), (.mv (.t 19)), none, 2, []⟩])
  (.cond (.t 17) (.seq (.region [⟨(some 20), (.build [(.i .i64 0), (.i .u16 0), (.i .u8 0), (.i .u16 0), (.i .u32 0), (.s ⟨#[]⟩), (.s ⟨#[]⟩), (.b false), (.sl none 0 0 0)] []), none, 0, []⟩, ⟨none, (.store 9 (.t 4) (.t 20)), none, 1, []⟩, ⟨(some 5), (.mv (.c (.sl none 0 0 0))), none, 2, []⟩, ⟨(some 6), (.mv (.c (.i .i64 1))), none, 3, []⟩])
  .ret) (.seq (.region [⟨(some 22), (.fadd 2 (.t 3)), none, 0, []⟩, ⟨(some 23), (.load false 1 (.t 22)), none, 1, []⟩, ⟨(some 24), (.bin .eql (.t 23) (.c (.i .u32 50))), none, 2, []⟩, ⟨(some 25), (.mv (.t 24)), none, 3, []⟩, ⟨(some 26), (.fadd 3 (.t 3)), (some (25, true)), 4, []⟩, ⟨(some 27), (.load false 1 (.t 26)), (some (25, true)), 5, []⟩, ⟨(some 28), (.bslice [(.i .u8 0)] [(0, 1, (.c (.i .u8 2)))] 1), (some (25, true)), 6, []⟩, ⟨(some 29), (.call (.c (.fn (.func 60) [] [])) [(.t 27), (.t 28)]), (some (25, true)), 7, []⟩, ⟨(some 30), (.pick (.t 25) (.t 29) (.c (.b false))), none, 8, []⟩, ⟨(some 21), (.mv (.t 30)), none, 9, []⟩])
  (.cond (.t 21) (.seq (.region [⟨(some 32), (.mv (.t 7)), none, 0, []⟩, ⟨(some 33), (.fadd 0 (.t 3)), none, 1, []⟩, ⟨(some 34), (.load false 1 (.t 33)), none, 2, []⟩, ⟨(some 35), (.call (.c (.fn (.func 61) [] [])) [(.t 32), (.t 34)]), none, 3, []⟩, ⟨(some 31), (.mv (.t 35)), none, 4, []⟩, ⟨(some 36), (.ext (.t 31) 0), none, 5, []⟩, ⟨(some 37), (.ext (.t 31) 1), none, 6, []⟩, ⟨(some 8), (.alloc [(.i .i64 0), (.i .u16 0), (.i .u8 0), (.i .u16 0), (.i .u32 0), (.s ⟨#[]⟩), (.s ⟨#[]⟩), (.b false), (.sl none 0 0 0)]), none, 7, []⟩, ⟨none, (.store 9 (.t 8) (.t 36)), none, 8, []⟩, ⟨(some 9), (.mv (.t 37)), none, 9, []⟩])
  (.seq (.region [⟨(some 38), (.load true 9 (.t 8)), none, 0, []⟩, ⟨(some 39), (.mv (.t 9)), none, 1, []⟩, ⟨none, (.store 9 (.t 4) (.t 38)), none, 2, []⟩, ⟨(some 5), (.mv (.c (.sl none 0 0 0))), none, 3, []⟩, ⟨(some 6), (.mv (.t 39)), none, 4, []⟩])
  .ret)) (.seq (.region [⟨(some 41), (.fadd 2 (.t 3)), none, 0, []⟩, ⟨(some 42), (.load false 1 (.t 41)), none, 1, []⟩, ⟨(some 43), (.bin .eql (.t 42) (.c (.i .u32 50))), none, 2, []⟩, ⟨(some 40), (.mv (.t 43)), none, 3, []⟩])
  (.cond (.t 40) (.seq (.region [⟨(some 44), (.mv (.t 0)), none, 0, []⟩, ⟨(some 45), (.load true 4 (.t 3)), none, 1, []⟩, ⟨(some 46), (.mv (.t 7)), none, 2, []⟩, ⟨(some 47), (.call (.c (.fn (.func 62) [] [])) [(.t 44), (.t 45), (.t 46)]), none, 3, []⟩, ⟨(some 48), (.ext (.t 47) 0), none, 4, []⟩, ⟨(some 49), (.ext (.t 47) 1), none, 5, []⟩, ⟨(some 50), (.ext (.t 47) 2), none, 6, []⟩, ⟨none, (.store 9 (.t 4) (.t 48)), none, 7, []⟩, ⟨(some 5), (.mv (.t 49)), none, 8, []⟩, ⟨(some 6), (.mv (.t 50)), none, 9, []⟩])
  .ret) (.seq (.region [⟨(some 52), (.mv (.t 7)), none, 0, []⟩, ⟨(some 53), (.nilc (.t 52)), none, 1, []⟩, ⟨(some 54), (.fadd 0 (.t 53)), none, 2, []⟩, ⟨(some 55), (.load false 1 (.t 54)), none, 3, []⟩, ⟨(some 56), (.bin .eql (.t 55) (.c (.i .i64 0))), none, 4, []⟩, ⟨(some 51), (.mv (.t 56)), none, 5, []⟩])
  (.cond (.t 51) (.seq (.region [⟨(some 57), (.build [(.i .i64 0), (.i .u16 0), (.i .u8 0), (.i .u16 0), (.i .u32 0), (.s ⟨#[]⟩), (.s ⟨#[]⟩), (.b false), (.sl none 0 0 0)] []), none, 0, []⟩, ⟨none, (.store 9 (.t 4) (.t 57)), none, 1, []⟩, ⟨(some 5), (.mv (.c (.sl none 0 0 0))), none, 2, []⟩, ⟨(some 6), (.mv (.c (.i .i64 11))), none, 3, []⟩])
  .ret) .skip)))))))))
  (.seq (.region [⟨(some 59), (.fadd 2 (.t 3)), none, 0, []⟩, ⟨(some 60), (.load false 1 (.t 59)), none, 1, []⟩, ⟨(some 61), (.fadd 3 (.t 3)), none, 2, []⟩, ⟨(some 62), (.load false 1 (.t 61)), none, 3, []⟩, ⟨(some 63), (.call (.c (.fn (.func 20) [] [])) [(.t 60), (.t 62)]), none, 4, []⟩, ⟨(some 58), (.mv (.t 63)), none, 5, []⟩, ⟨(some 64), (.ext (.t 58) 0), none, 6, []⟩, ⟨(some 65), (.ext (.t 58) 1), none, 7, []⟩, ⟨(some 66), (.ext (.t 58) 2), none, 8, []⟩, ⟨(some 10), (.mv (.t 64)), none, 9, []⟩, ⟨(some 11), (.mv (.t 65)), none, 10, []⟩, ⟨(some 12), (.mv (.t 66)), none, 11, []⟩])
  (.seq (.block 1 (.seq (.region [⟨(some 68), (.mv (.t 12)), none, 0, []⟩, ⟨(some 69), (.unx .not (.t 68)), none, 1, []⟩, ⟨(some 67), (.mv (.t 69)), none, 2, []⟩])
  (.cond (.t 67) (.seq (.region [⟨(some 70), (.build [(.i .i64 0), (.i .u16 0), (.i .u8 0), (.i .u16 0), (.i .u32 0), (.s ⟨#[]⟩), (.s ⟨#[]⟩), (.b false), (.sl none 0 0 0)] []), none, 0, []⟩, ⟨none, (.store 9 (.t 4) (.t 70)), none, 1, []⟩, ⟨(some 5), (.mv (.c (.sl none 0 0 0))), none, 2, []⟩, ⟨(some 6), (.mv (.c (.i .i64 3))), none, 3, []⟩])
  .ret) (.seq (.region [⟨(some 72), (.mv (.t 7)), none, 0, []⟩, ⟨(some 73), (.nilc (.t 72)), none, 1, []⟩, ⟨(some 74), (.fadd 0 (.t 73)), none, 2, []⟩, ⟨(some 75), (.load false 1 (.t 74)), none, 3, []⟩, ⟨(some 76), (.bin .eql (.t 75) (.c (.i .i64 3))), none, 4, []⟩, ⟨(some 71), (.mv (.t 76)), none, 5, []⟩])
  (.cond (.t 71) (.seq (.region [⟨(some 77), (.build [(.i .i64 0), (.i .u16 0), (.i .u8 0), (.i .u16 0), (.i .u32 0), (.s ⟨#[]⟩), (.s ⟨#[]⟩), (.b false), (.sl none 0 0 0)] []), none, 0, []⟩, ⟨none, (.store 9 (.t 4) (.t 77)), none, 1, []⟩, ⟨(some 5), (.mv (.c (.sl none 0 0 0))), none, 2, []⟩, ⟨(some 6), (.mv (.c (.i .i64 0))), none, 3, []⟩])
  .ret) .skip)))))
  (.seq (.region [⟨(some 78), (.fadd 0 (.t 3)), none, 0, []⟩, ⟨(some 79), (.load false 1 (.t 78)), none, 1, []⟩, ⟨(some 80), (.mv (.t 10)), none, 2, []⟩, ⟨(some 81), (.mv (.t 11)), none, 3, []⟩, ⟨(some 82), (.build [(.i .i64 0), (.i .u16 0), (.i .u8 0), (.i .u16 0), (.i .u32 0), (.s ⟨#[]⟩), (.s ⟨#[]⟩), (.b false), (.sl none 0 0 0)] [(0, 1, (.c (.i .i64 3))), (1, 1, (.t 79)), (7, 1, (.t 80)), (8, 1, (.t 81))]), none, 4, []⟩, ⟨none, (.store 9 (.t 4) (.t 82)), none, 5, []⟩, ⟨(some 5), (.mv (.c (.sl none 0 0 0))), none, 6, []⟩, ⟨(some 6), (.mv (.c (.i .i64 0))), none, 7, []⟩])
  .ret))))))
def x35 : XFun := ⟨x35b, [(.cell 4 true 9), (.t 5), (.t 6)]⟩
theorem x35_ok : compF Tryd.prog 35 = some x35 := by kernel_rfl
/-- (bollard/dcep.Opening).right (17) -/
def x36b : XC := (.seq (.region [⟨(some 1), (.box (.t 0)), none, 0, []⟩, ⟨(some 2), (.mv (.c (.b false))), none, 1, []⟩])
  (.seq (.region [⟨(some 3), (.fadd 0 (.t 1)), none, 0, []⟩, ⟨(some 4), (.load false 1 (.t 3)), none, 1, []⟩, ⟨(some 5), (.bin .andNot (.t 4) (.c (.i .u8 128))), none, 2, []⟩, ⟨(some 6), (.bin .leq (.t 5) (.c (.i .u8 2))), none, 3, []⟩, ⟨(some 7), (.mv (.t 6)), none, 4, []⟩, ⟨(some 8), (.fadd 3 (.t 1)), (some (7, true)), 5, []⟩, ⟨(some 9), (.load false 1 (.t 8)), (some (7, true)), 6, []⟩, ⟨(some 10), (.call (.c (.fn (.func 63) [] [])) [(.t 9)]), (some (7, true)), 7, []⟩, ⟨(some 11), (.pick (.t 7) (.t 10) (.c (.b false))), none, 8, []⟩, ⟨(some 12), (.mv (.t 11)), none, 9, []⟩, ⟨(some 13), (.fadd 4 (.t 1)), (some (12, true)), 10, []⟩, ⟨(some 14), (.load false 1 (.t 13)), (some (12, true)), 11, []⟩, ⟨(some 15), (.call (.c (.fn (.func 63) [] [])) [(.t 14)]), (some (12, true)), 12, []⟩, ⟨(some 16), (.pick (.t 12) (.t 15) (.c (.b false))), none, 13, []⟩, ⟨(some 2), (.mv (.t 16)), none, 14, []⟩])
  .ret))
def x36 : XFun := ⟨x36b, [(.t 2)]⟩
theorem x36_ok : compF Tryd.prog 36 = some x36 := by kernel_rfl
/-- bollard/octet.Put32 (19) -/
def x37b : XC := (.seq (.region [⟨(some 4), (.mv (.c (.sl none 0 0 0))), none, 0, []⟩])
  (.seq (.region [⟨(some 5), (.mv (.t 0)), none, 0, []⟩, ⟨(some 6), (.mv (.t 1)), none, 1, []⟩, ⟨(some 7), (.bin .shr (.t 6) (.c (.i .u64 24))), none, 2, []⟩, ⟨(some 8), (.cint .u8 (.t 7)), none, 3, []⟩, ⟨(some 9), (.mv (.t 1)), none, 4, []⟩, ⟨(some 10), (.bin .shr (.t 9) (.c (.i .u64 16))), none, 5, []⟩, ⟨(some 11), (.cint .u8 (.t 10)), none, 6, []⟩, ⟨(some 12), (.mv (.t 1)), none, 7, []⟩, ⟨(some 13), (.bin .shr (.t 12) (.c (.i .u64 8))), none, 8, []⟩, ⟨(some 14), (.cint .u8 (.t 13)), none, 9, []⟩, ⟨(some 15), (.mv (.t 1)), none, 10, []⟩, ⟨(some 16), (.cint .u8 (.t 15)), none, 11, []⟩, ⟨(some 17), (.bslice [(.i .u8 0), (.i .u8 0), (.i .u8 0), (.i .u8 0)] [(0, 1, (.t 8)), (1, 1, (.t 11)), (2, 1, (.t 14)), (3, 1, (.t 16))] 4), none, 12, []⟩, ⟨(some 18), (.call (.c (.fn (.func 64) [] [])) [(.t 5), (.t 17)]), none, 13, []⟩, ⟨(some 4), (.mv (.t 18)), none, 14, []⟩])
  .ret))
def x37 : XFun := ⟨x37b, [(.t 4)]⟩
theorem x37_ok : compF Tryd.prog 37 = some x37 := by kernel_rfl
/-- bollard/octet.Put16 (13) -/
def x38b : XC := (.seq (.region [⟨(some 4), (.mv (.c (.sl none 0 0 0))), none, 0, []⟩])
  (.seq (.region [⟨(some 5), (.mv (.t 0)), none, 0, []⟩, ⟨(some 6), (.mv (.t 1)), none, 1, []⟩, ⟨(some 7), (.bin .shr (.t 6) (.c (.i .u64 8))), none, 2, []⟩, ⟨(some 8), (.cint .u8 (.t 7)), none, 3, []⟩, ⟨(some 9), (.mv (.t 1)), none, 4, []⟩, ⟨(some 10), (.cint .u8 (.t 9)), none, 5, []⟩, ⟨(some 11), (.bslice [(.i .u8 0), (.i .u8 0)] [(0, 1, (.t 8)), (1, 1, (.t 10))] 2), none, 6, []⟩, ⟨(some 12), (.call (.c (.fn (.func 64) [] [])) [(.t 5), (.t 11)]), none, 7, []⟩, ⟨(some 4), (.mv (.t 12)), none, 8, []⟩])
  .ret))
def x38 : XFun := ⟨x38b, [(.t 4)]⟩
theorem x38_ok : compF Tryd.prog 38 = some x38 := by kernel_rfl
/-- bollard/bollardref18.may (19) -/
def x39b : XC := (.seq (.region [⟨(some 1), (.box (.t 0)), none, 0, []⟩, ⟨(some 2), (.mv (.c (.b false))), none, 1, []⟩])
  (.seq (.region [⟨(some 4), (.fadd 0 (.t 1)), none, 0, []⟩, ⟨(some 5), (.load false 1 (.t 4)), none, 1, []⟩, ⟨(some 6), (.bin .rem (.t 5) (.c (.i .u8 128))), none, 2, []⟩, ⟨(some 3), (.mv (.t 6)), none, 3, []⟩])
  (.seq (.region [⟨(some 7), (.mv (.t 3)), none, 0, []⟩, ⟨(some 8), (.bin .leq (.t 7) (.c (.i .u8 2))), none, 1, []⟩, ⟨(some 9), (.mv (.t 8)), none, 2, []⟩, ⟨(some 10), (.fadd 3 (.t 1)), (some (9, true)), 3, []⟩, ⟨(some 11), (.load false 1 (.t 10)), (some (9, true)), 4, []⟩, ⟨(some 12), (.call (.c (.fn (.func 65) [] [])) [(.t 11)]), (some (9, true)), 5, []⟩, ⟨(some 13), (.pick (.t 9) (.t 12) (.c (.b false))), none, 6, []⟩, ⟨(some 14), (.mv (.t 13)), none, 7, []⟩, ⟨(some 15), (.fadd 4 (.t 1)), (some (14, true)), 8, []⟩, ⟨(some 16), (.load false 1 (.t 15)), (some (14, true)), 9, []⟩, ⟨(some 17), (.call (.c (.fn (.func 65) [] [])) [(.t 16)]), (some (14, true)), 10, []⟩, ⟨(some 18), (.pick (.t 14) (.t 17) (.c (.b false))), none, 11, []⟩, ⟨(some 2), (.mv (.t 18)), none, 12, []⟩])
  .ret)))
def x39 : XFun := ⟨x39b, [(.t 2)]⟩
theorem x39_ok : compF Tryd.prog 39 = some x39 := by kernel_rfl
/-- bollard/bollardref01.Put (28) -/
def x40b : XC := (.seq (.region [⟨(some 6), (.mv (.c (.sl none 0 0 0))), none, 0, []⟩])
  (.seq (.region [⟨(some 7), (.mv (.c (.sl none 0 0 0))), none, 0, []⟩])
  (.seq (.region [⟨(some 9), (.mv (.t 7)), none, 0, []⟩, ⟨(some 10), (.mv (.t 0)), none, 1, []⟩, ⟨(some 11), (.append 1 1 (.t 9) (.t 10)), none, 2, []⟩, ⟨(some 7), (.mv (.t 11)), none, 3, []⟩])
  (.seq (.seq (.region [⟨(some 12), (.mv (.t 2)), none, 0, []⟩, ⟨(some 13), (.bin .sub (.t 12) (.c (.i .i64 1))), none, 1, []⟩, ⟨(some 8), (.mv (.t 13)), none, 2, []⟩])
  (.block 0 (.loop (.seq (.seq (.region [⟨(some 14), (.mv (.t 8)), none, 0, []⟩, ⟨(some 15), (.bin .geq (.t 14) (.c (.i .i64 0))), none, 1, []⟩])
  (.cond (.t 15) .skip (.exit 0)))
  (.seq (.block 1 (.region [⟨(some 18), (.mv (.t 7)), none, 0, []⟩, ⟨(some 19), (.mv (.t 1)), none, 1, []⟩, ⟨(some 20), (.mv (.t 8)), none, 2, []⟩, ⟨(some 21), (.bin .mul (.c (.i .i64 8)) (.t 20)), none, 3, []⟩, ⟨(some 22), (.cint .u64 (.t 21)), none, 4, []⟩, ⟨(some 23), (.bin .shr (.t 19) (.t 22)), none, 5, []⟩, ⟨(some 24), (.cint .u8 (.t 23)), none, 6, []⟩, ⟨(some 25), (.bslice [(.i .u8 0)] [(0, 1, (.t 24))] 1), none, 7, []⟩, ⟨(some 26), (.append 1 1 (.t 18) (.t 25)), none, 8, []⟩, ⟨(some 7), (.mv (.t 26)), none, 9, []⟩]))
  (.region [⟨(some 16), (.mv (.t 8)), none, 0, []⟩, ⟨(some 17), (.bin .sub (.t 16) (.c (.i .i64 1))), none, 1, []⟩, ⟨(some 8), (.mv (.t 17)), none, 2, []⟩]))))))
  (.seq (.region [⟨(some 27), (.mv (.t 7)), none, 0, []⟩, ⟨(some 6), (.mv (.t 27)), none, 1, []⟩])
  .ret)))))
def x40 : XFun := ⟨x40b, [(.t 6)]⟩
theorem x40_ok : compF Tryd.prog 40 = some x40 := by kernel_rfl
/-- bollard/octet.New (7) -/
def x41b : XC := (.seq (.region [⟨(some 2), (.mv (.c (.p none))), none, 0, []⟩])
  (.seq (.region [⟨(some 3), (.mv (.t 0)), none, 0, []⟩, ⟨(some 4), (.call (.c (.fn (.func 48) [] [])) [(.t 3)]), none, 1, []⟩, ⟨(some 5), (.build [(.sl none 0 0 0)] [(0, 1, (.t 4))]), none, 2, []⟩, ⟨(some 6), (.box (.t 5)), none, 3, []⟩, ⟨(some 2), (.mv (.t 6)), none, 4, []⟩])
  .ret))
def x41 : XFun := ⟨x41b, [(.t 2)]⟩
theorem x41_ok : compF Tryd.prog 41 = some x41 := by kernel_rfl
/-- (*bollard/octet.Reader).Get8 (17) -/
def x42b : XC := (.seq (.region [⟨(some 2), (.mv (.c (.i .u8 0))), none, 0, []⟩, ⟨(some 3), (.mv (.c (.i .i64 0))), none, 1, []⟩])
  (.seq (.region [⟨(some 7), (.mv (.t 0)), none, 0, []⟩, ⟨(some 8), (.call (.c (.fn (.func 66) [] [])) [(.t 7), (.c (.i .i64 1))]), none, 1, []⟩, ⟨(some 6), (.mv (.t 8)), none, 2, []⟩, ⟨(some 9), (.ext (.t 6) 0), none, 3, []⟩, ⟨(some 10), (.ext (.t 6) 1), none, 4, []⟩, ⟨(some 4), (.mv (.t 9)), none, 5, []⟩, ⟨(some 5), (.mv (.t 10)), none, 6, []⟩])
  (.seq (.seq (.region [⟨(some 11), (.mv (.t 5)), none, 0, []⟩, ⟨(some 12), (.bin .neq (.t 11) (.c (.i .i64 0))), none, 1, []⟩])
  (.cond (.t 12) (.seq (.region [⟨(some 13), (.mv (.t 5)), none, 0, []⟩, ⟨(some 2), (.mv (.c (.i .u8 0))), none, 1, []⟩, ⟨(some 3), (.mv (.t 13)), none, 2, []⟩])
  .ret) .skip))
  (.seq (.region [⟨(some 14), (.mv (.t 4)), none, 0, []⟩, ⟨(some 15), (.isl 1 (.t 14) (.c (.i .i64 0))), none, 1, []⟩, ⟨(some 16), (.load false 1 (.t 15)), none, 2, []⟩, ⟨(some 2), (.mv (.t 16)), none, 3, []⟩, ⟨(some 3), (.mv (.c (.i .i64 0))), none, 4, []⟩])
  .ret))))
def x42 : XFun := ⟨x42b, [(.t 2), (.t 3)]⟩
theorem x42_ok : compF Tryd.prog 42 = some x42 := by kernel_rfl
/-- (*bollard/octet.Reader).Get16 (24) -/
def x43b : XC := (.seq (.region [⟨(some 2), (.mv (.c (.i .u16 0))), none, 0, []⟩, ⟨(some 3), (.mv (.c (.i .i64 0))), none, 1, []⟩])
  (.seq (.region [⟨(some 7), (.mv (.t 0)), none, 0, []⟩, ⟨(some 8), (.call (.c (.fn (.func 66) [] [])) [(.t 7), (.c (.i .i64 2))]), none, 1, []⟩, ⟨(some 6), (.mv (.t 8)), none, 2, []⟩, ⟨(some 9), (.ext (.t 6) 0), none, 3, []⟩, ⟨(some 10), (.ext (.t 6) 1), none, 4, []⟩, ⟨(some 4), (.mv (.t 9)), none, 5, []⟩, ⟨(some 5), (.mv (.t 10)), none, 6, []⟩])
  (.seq (.seq (.region [⟨(some 11), (.mv (.t 5)), none, 0, []⟩, ⟨(some 12), (.bin .neq (.t 11) (.c (.i .i64 0))), none, 1, []⟩])
  (.cond (.t 12) (.seq (.region [⟨(some 13), (.mv (.t 5)), none, 0, []⟩, ⟨(some 2), (.mv (.c (.i .u16 0))), none, 1, []⟩, ⟨(some 3), (.mv (.t 13)), none, 2, []⟩])
  .ret) .skip))
  (.seq (.draw [⟨(some 14), (.mv (.t 4)), none, 0, []⟩, ⟨(some 15), (.isl 1 (.t 14) (.c (.i .i64 0))), none, 1, [0]⟩, ⟨(some 19), (.mv (.t 4)), none, 5, []⟩, ⟨(some 20), (.isl 1 (.t 19) (.c (.i .i64 1))), none, 6, [5]⟩, ⟨(some 16), (.load false 1 (.t 15)), none, 2, [0, 1]⟩, ⟨(some 17), (.cint .u16 (.t 16)), none, 3, [0, 1, 2]⟩, ⟨(some 18), (.bin .shl (.t 17) (.c (.i .u64 8))), none, 4, [0, 1, 2, 3]⟩, ⟨(some 21), (.load false 1 (.t 20)), none, 7, [5, 6]⟩, ⟨(some 22), (.cint .u16 (.t 21)), none, 8, [5, 6, 7]⟩, ⟨(some 23), (.bin .or (.t 18) (.t 22)), none, 9, [0, 1, 2, 3, 4, 5, 6, 7, 8]⟩, ⟨(some 2), (.mv (.t 23)), none, 10, [0, 1, 2, 3, 4, 5, 6, 7, 8, 9]⟩, ⟨(some 3), (.mv (.c (.i .i64 0))), none, 11, [0, 1, 2, 3, 4, 5, 6, 7, 8, 9, 10]⟩])
  .ret))))
def x43 : XFun := ⟨x43b, [(.t 2), (.t 3)]⟩
theorem x43_ok : compF Tryd.prog 43 = some x43 := by kernel_rfl
/-- (*bollard/octet.Reader).Get32 (36) -/
def x44b : XC := (.seq (.region [⟨(some 2), (.mv (.c (.i .u32 0))), none, 0, []⟩, ⟨(some 3), (.mv (.c (.i .i64 0))), none, 1, []⟩])
  (.seq (.region [⟨(some 7), (.mv (.t 0)), none, 0, []⟩, ⟨(some 8), (.call (.c (.fn (.func 66) [] [])) [(.t 7), (.c (.i .i64 4))]), none, 1, []⟩, ⟨(some 6), (.mv (.t 8)), none, 2, []⟩, ⟨(some 9), (.ext (.t 6) 0), none, 3, []⟩, ⟨(some 10), (.ext (.t 6) 1), none, 4, []⟩, ⟨(some 4), (.mv (.t 9)), none, 5, []⟩, ⟨(some 5), (.mv (.t 10)), none, 6, []⟩])
  (.seq (.seq (.region [⟨(some 11), (.mv (.t 5)), none, 0, []⟩, ⟨(some 12), (.bin .neq (.t 11) (.c (.i .i64 0))), none, 1, []⟩])
  (.cond (.t 12) (.seq (.region [⟨(some 13), (.mv (.t 5)), none, 0, []⟩, ⟨(some 2), (.mv (.c (.i .u32 0))), none, 1, []⟩, ⟨(some 3), (.mv (.t 13)), none, 2, []⟩])
  .ret) .skip))
  (.seq (.draw [⟨(some 14), (.mv (.t 4)), none, 0, []⟩, ⟨(some 15), (.isl 1 (.t 14) (.c (.i .i64 0))), none, 1, [0]⟩, ⟨(some 19), (.mv (.t 4)), none, 5, []⟩, ⟨(some 20), (.isl 1 (.t 19) (.c (.i .i64 1))), none, 6, [5]⟩, ⟨(some 25), (.mv (.t 4)), none, 11, []⟩, ⟨(some 26), (.isl 1 (.t 25) (.c (.i .i64 2))), none, 12, [11]⟩, ⟨(some 31), (.mv (.t 4)), none, 17, []⟩, ⟨(some 32), (.isl 1 (.t 31) (.c (.i .i64 3))), none, 18, [17]⟩, ⟨(some 16), (.load false 1 (.t 15)), none, 2, [0, 1]⟩, ⟨(some 17), (.cint .u32 (.t 16)), none, 3, [0, 1, 2]⟩, ⟨(some 18), (.bin .shl (.t 17) (.c (.i .u64 24))), none, 4, [0, 1, 2, 3]⟩, ⟨(some 21), (.load false 1 (.t 20)), none, 7, [5, 6]⟩, ⟨(some 22), (.cint .u32 (.t 21)), none, 8, [5, 6, 7]⟩, ⟨(some 23), (.bin .shl (.t 22) (.c (.i .u64 16))), none, 9, [5, 6, 7, 8]⟩, ⟨(some 24), (.bin .or (.t 18) (.t 23)), none, 10, [0, 1, 2, 3, 4, 5, 6, 7, 8, 9]⟩, ⟨(some 27), (.load false 1 (.t 26)), none, 13, [11, 12]⟩, ⟨(some 28), (.cint .u32 (.t 27)), none, 14, [11, 12, 13]⟩, ⟨(some 29), (.bin .shl (.t 28) (.c (.i .u64 8))), none, 15, [11, 12, 13, 14]⟩, ⟨(some 30), (.bin .or (.t 24) (.t 29)), none, 16, [0, 1, 2, 3, 4, 5, 6, 7, 8, 9, 10, 11, 12, 13, 14, 15]⟩, ⟨(some 33), (.load false 1 (.t 32)), none, 19, [17, 18]⟩, ⟨(some 34), (.cint .u32 (.t 33)), none, 20, [17, 18, 19]⟩, ⟨(some 35), (.bin .or (.t 30) (.t 34)), none, 21, [0, 1, 2, 3, 4, 5, 6, 7, 8, 9, 10, 11, 12, 13, 14, 15, 16, 17, 18, 19, 20]⟩, ⟨(some 2), (.mv (.t 35)), none, 22, [0, 1, 2, 3, 4, 5, 6, 7, 8, 9, 10, 11, 12, 13, 14, 15, 16, 17, 18, 19, 20, 21]⟩, ⟨(some 3), (.mv (.c (.i .i64 0))), none, 23, [0, 1, 2, 3, 4, 5, 6, 7, 8, 9, 10, 11, 12, 13, 14, 15, 16, 17, 18, 19, 20, 21, 22]⟩])
  .ret))))
def x44 : XFun := ⟨x44b, [(.t 2), (.t 3)]⟩
theorem x44_ok : compF Tryd.prog 44 = some x44 := by kernel_rfl
/-- (*bollard/octet.Reader).Bytes (17) -/
def x45b : XC := (.seq (.region [⟨(some 4), (.mv (.c (.sl none 0 0 0))), none, 0, []⟩, ⟨(some 5), (.mv (.c (.i .i64 0))), none, 1, []⟩])
  (.seq (.region [⟨(some 9), (.mv (.t 0)), none, 0, []⟩, ⟨(some 10), (.mv (.t 1)), none, 1, []⟩, ⟨(some 11), (.call (.c (.fn (.func 66) [] [])) [(.t 9), (.t 10)]), none, 2, []⟩, ⟨(some 8), (.mv (.t 11)), none, 3, []⟩, ⟨(some 12), (.ext (.t 8) 0), none, 4, []⟩, ⟨(some 13), (.ext (.t 8) 1), none, 5, []⟩, ⟨(some 6), (.mv (.t 12)), none, 6, []⟩, ⟨(some 7), (.mv (.t 13)), none, 7, []⟩])
  (.seq (.region [⟨(some 14), (.mv (.t 6)), none, 0, []⟩, ⟨(some 15), (.call (.c (.fn (.func 48) [] [])) [(.t 14)]), none, 1, []⟩, ⟨(some 16), (.mv (.t 7)), none, 2, []⟩, ⟨(some 4), (.mv (.t 15)), none, 3, []⟩, ⟨(some 5), (.mv (.t 16)), none, 4, []⟩])
  .ret)))
def x45 : XFun := ⟨x45b, [(.t 4), (.t 5)]⟩
theorem x45_ok : compF Tryd.prog 45 = some x45 := by kernel_rfl
/-- (*bollard/octet.Reader).Left (10) -/
def x46b : XC := (.seq (.region [⟨(some 2), (.mv (.c (.i .i64 0))), none, 0, []⟩])
  (.seq (.seq (.region [⟨(some 3), (.mv (.t 0)), none, 0, []⟩, ⟨(some 4), (.nilq 0 false (.t 3)), none, 1, []⟩])
  (.cond (.t 4) (.seq (.region [⟨(some 2), (.mv (.c (.i .i64 0))), none, 0, []⟩])
  .ret) .skip))
  (.seq (.region [⟨(some 5), (.mv (.t 0)), none, 0, []⟩, ⟨(some 6), (.nilc (.t 5)), none, 1, []⟩, ⟨(some 7), (.fadd 0 (.t 6)), none, 2, []⟩, ⟨(some 8), (.load false 1 (.t 7)), none, 3, []⟩, ⟨(some 9), (.lenx (.t 8)), none, 4, []⟩, ⟨(some 2), (.mv (.t 9)), none, 5, []⟩])
  .ret)))
def x46 : XFun := ⟨x46b, [(.t 2)]⟩
theorem x46_ok : compF Tryd.prog 46 = some x46 := by kernel_rfl
/-- bollard/bollardref01.Get (31) -/
def x47b : XC := (.seq (.region [⟨(some 4), (.mv (.c (.i .u32 0))), none, 0, []⟩, ⟨(some 5), (.mv (.c (.sl none 0 0 0))), none, 1, []⟩, ⟨(some 6), (.mv (.c (.i .i64 0))), none, 2, []⟩])
  (.seq (.seq (.region [⟨(some 9), (.mv (.t 0)), none, 0, []⟩, ⟨(some 10), (.lenx (.t 9)), none, 1, []⟩, ⟨(some 11), (.mv (.t 1)), none, 2, []⟩, ⟨(some 12), (.bin .lss (.t 10) (.t 11)), none, 3, []⟩])
  (.cond (.t 12) (.seq (.region [⟨(some 13), (.mv (.t 0)), none, 0, []⟩, ⟨(some 4), (.mv (.c (.i .u32 0))), none, 1, []⟩, ⟨(some 5), (.mv (.t 13)), none, 2, []⟩, ⟨(some 6), (.mv (.c (.i .i64 2))), none, 3, []⟩])
  .ret) .skip))
  (.seq (.region [⟨(some 7), (.mv (.c (.i .u32 0))), none, 0, []⟩])
  (.seq (.seq (.region [⟨(some 8), (.mv (.c (.i .i64 0))), none, 0, []⟩])
  (.block 0 (.loop (.seq (.seq (.region [⟨(some 14), (.mv (.t 8)), none, 0, []⟩, ⟨(some 15), (.mv (.t 1)), none, 1, []⟩, ⟨(some 16), (.bin .lss (.t 14) (.t 15)), none, 2, []⟩])
  (.cond (.t 16) .skip (.exit 0)))
  (.seq (.block 1 (.region [⟨(some 19), (.mv (.t 7)), none, 0, []⟩, ⟨(some 20), (.bin .shl (.t 19) (.c (.i .u64 8))), none, 1, []⟩, ⟨(some 21), (.mv (.t 0)), none, 2, []⟩, ⟨(some 22), (.mv (.t 8)), none, 3, []⟩, ⟨(some 23), (.isl 1 (.t 21) (.t 22)), none, 4, []⟩, ⟨(some 24), (.load false 1 (.t 23)), none, 5, []⟩, ⟨(some 25), (.cint .u32 (.t 24)), none, 6, []⟩, ⟨(some 26), (.bin .or (.t 20) (.t 25)), none, 7, []⟩, ⟨(some 7), (.mv (.t 26)), none, 8, []⟩]))
  (.region [⟨(some 17), (.mv (.t 8)), none, 0, []⟩, ⟨(some 18), (.bin .add (.t 17) (.c (.i .i64 1))), none, 1, []⟩, ⟨(some 8), (.mv (.t 18)), none, 2, []⟩]))))))
  (.seq (.draw [⟨(some 27), (.mv (.t 7)), none, 0, []⟩, ⟨(some 28), (.mv (.t 0)), none, 1, []⟩, ⟨(some 29), (.mv (.t 1)), none, 2, []⟩, ⟨(some 30), (.slsl 1 (.t 28) (some (.t 29)) none none), none, 3, [1, 2]⟩, ⟨(some 4), (.mv (.t 27)), none, 4, [0]⟩, ⟨(some 5), (.mv (.t 30)), none, 5, [0, 1, 2, 3, 4]⟩, ⟨(some 6), (.mv (.c (.i .i64 0))), none, 6, [0, 1, 2, 3, 4, 5]⟩])
  .ret)))))
def x47 : XFun := ⟨x47b, [(.t 4), (.t 5), (.t 6)]⟩
theorem x47_ok : compF Tryd.prog 47 = some x47 := by kernel_rfl
/-- slices.Clone[[]byte,byte] (8) -/
def x48b : XC := (.seq (.region [⟨(some 2), (.mv (.c (.sl none 0 0 0))), none, 0, []⟩])
  (.seq (.seq (.region [⟨(some 3), (.mv (.t 0)), none, 0, []⟩, ⟨(some 4), (.nilq 1 false (.t 3)), none, 1, []⟩])
  (.cond (.t 4) (.seq (.region [⟨(some 2), (.mv (.c (.sl none 0 0 0))), none, 0, []⟩])
  .ret) .skip))
  (.seq (.region [⟨(some 5), (.bslice [] [] 0), none, 0, []⟩, ⟨(some 6), (.mv (.t 0)), none, 1, []⟩, ⟨(some 7), (.append 1 1 (.t 5) (.t 6)), none, 2, []⟩, ⟨(some 2), (.mv (.t 7)), none, 3, []⟩])
  .ret)))
def x48 : XFun := ⟨x48b, [(.t 2)]⟩
theorem x48_ok : compF Tryd.prog 48 = some x48 := by kernel_rfl
/-- (*bollard/dcep.Table).own (13) -/
def x49b : XC := (.seq (.region [⟨(some 4), (.mv (.c (.b false))), none, 0, []⟩])
  (.seq (.region [⟨(some 5), (.mv (.t 1)), none, 0, []⟩, ⟨(some 6), (.bin .and (.t 5) (.c (.i .i64 1))), none, 1, []⟩, ⟨(some 7), (.bin .eql (.t 6) (.c (.i .i64 0))), none, 2, []⟩, ⟨(some 8), (.mv (.t 0)), none, 3, []⟩, ⟨(some 9), (.nilc (.t 8)), none, 4, []⟩, ⟨(some 10), (.fadd 1 (.t 9)), none, 5, []⟩, ⟨(some 11), (.load false 1 (.t 10)), none, 6, []⟩, ⟨(some 12), (.beq false (.t 7) (.t 11)), none, 7, []⟩, ⟨(some 4), (.mv (.t 12)), none, 8, []⟩])
  .ret))
def x49 : XFun := ⟨x49b, [(.t 4)]⟩
theorem x49_ok : compF Tryd.prog 49 = some x49 := by kernel_rfl
/-- (*bollard/dcep.Table).at (23) -/
def x50b : XC := (.seq (.region [⟨(some 4), (.mv (.c (.p none))), none, 0, []⟩])
  (.seq (.seq (.region [⟨(some 5), (.mv (.t 0)), none, 0, []⟩, ⟨(some 6), (.nilq 0 false (.t 5)), none, 1, []⟩, ⟨(some 7), (.mv (.t 6)), none, 2, []⟩, ⟨(some 8), (.mv (.t 1)), (some (7, false)), 3, []⟩, ⟨(some 9), (.cint .i64 (.t 8)), (some (7, false)), 4, []⟩, ⟨(some 10), (.mv (.t 0)), (some (7, false)), 5, []⟩, ⟨(some 11), (.nilc (.t 10)), (some (7, false)), 6, []⟩, ⟨(some 12), (.fadd 0 (.t 11)), (some (7, false)), 7, []⟩, ⟨(some 13), (.load false 1 (.t 12)), (some (7, false)), 8, []⟩, ⟨(some 14), (.lenx (.t 13)), (some (7, false)), 9, []⟩, ⟨(some 15), (.bin .geq (.t 9) (.t 14)), (some (7, false)), 10, []⟩, ⟨(some 16), (.pick (.t 7) (.c (.b true)) (.t 15)), none, 11, []⟩])
  (.cond (.t 16) (.seq (.region [⟨(some 4), (.mv (.c (.p none))), none, 0, []⟩])
  .ret) .skip))
  (.seq (.region [⟨(some 17), (.mv (.t 0)), none, 0, []⟩, ⟨(some 18), (.nilc (.t 17)), none, 1, []⟩, ⟨(some 19), (.fadd 0 (.t 18)), none, 2, []⟩, ⟨(some 20), (.load false 1 (.t 19)), none, 3, []⟩, ⟨(some 21), (.mv (.t 1)), none, 4, []⟩, ⟨(some 22), (.isl 8 (.t 20) (.t 21)), none, 5, []⟩, ⟨(some 4), (.mv (.t 22)), none, 6, []⟩])
  .ret)))
def x50 : XFun := ⟨x50b, [(.t 4)]⟩
theorem x50_ok : compF Tryd.prog 50 = some x50 := by kernel_rfl
/-- (*bollard/dcep.channel).lives (15) -/
def x51b : XC := (.seq (.region [⟨(some 2), (.mv (.c (.b false))), none, 0, []⟩])
  (.seq (.region [⟨(some 3), (.mv (.t 0)), none, 0, []⟩, ⟨(some 4), (.nilc (.t 3)), none, 1, []⟩, ⟨(some 5), (.fadd 0 (.t 4)), none, 2, []⟩, ⟨(some 6), (.load false 1 (.t 5)), none, 3, []⟩, ⟨(some 7), (.bin .eql (.t 6) (.c (.i .i64 1))), none, 4, []⟩, ⟨(some 8), (.mv (.t 7)), none, 5, []⟩, ⟨(some 9), (.mv (.t 0)), (some (8, false)), 6, []⟩, ⟨(some 10), (.nilc (.t 9)), (some (8, false)), 7, []⟩, ⟨(some 11), (.fadd 0 (.t 10)), (some (8, false)), 8, []⟩, ⟨(some 12), (.load false 1 (.t 11)), (some (8, false)), 9, []⟩, ⟨(some 13), (.bin .eql (.t 12) (.c (.i .i64 2))), (some (8, false)), 10, []⟩, ⟨(some 14), (.pick (.t 8) (.c (.b true)) (.t 13)), none, 11, []⟩, ⟨(some 2), (.mv (.t 14)), none, 12, []⟩])
  .ret))
def x51 : XFun := ⟨x51b, [(.t 2)]⟩
theorem x51_ok : compF Tryd.prog 51 = some x51 := by kernel_rfl
/-- (*bollard/dcep.channel).close (42) -/
def x52b : XC := (.seq (.region [⟨(some 6), (.mv (.t 0)), none, 0, []⟩, ⟨(some 7), (.nilc (.t 6)), none, 1, []⟩, ⟨(some 8), (.fadd 0 (.t 7)), none, 2, []⟩, ⟨none, (.store 1 (.t 8) (.c (.i .i64 3))), none, 3, []⟩])
  (.seq (.draw [⟨(some 9), (.mv (.t 0)), none, 0, []⟩, ⟨(some 10), (.mv (.t 0)), none, 1, []⟩, ⟨(some 11), (.mv (.t 0)), none, 2, []⟩, ⟨(some 12), (.nilc (.t 11)), none, 3, [2]⟩, ⟨(some 13), (.fadd 6 (.t 12)), none, 4, [2, 3]⟩, ⟨(some 18), (.mv (.t 0)), none, 9, []⟩, ⟨(some 19), (.nilc (.t 18)), none, 10, [9]⟩, ⟨(some 20), (.fadd 7 (.t 19)), none, 11, [9, 10]⟩, ⟨(some 14), (.load false 1 (.t 13)), none, 5, [2, 3, 4]⟩, ⟨(some 15), (.mv (.t 14)), none, 6, [2, 3, 4, 5]⟩, ⟨(some 16), (.mv (.t 1)), (some (15, false)), 7, [2, 3, 4, 5, 6]⟩, ⟨(some 17), (.pick (.t 15) (.c (.b true)) (.t 16)), none, 8, [2, 3, 4, 5, 6, 7]⟩, ⟨(some 21), (.load false 1 (.t 20)), none, 12, [9, 10, 11]⟩, ⟨(some 22), (.mv (.t 21)), none, 13, [2, 3, 4, 5, 6, 9, 10, 11, 12]⟩, ⟨(some 23), (.mv (.t 2)), (some (22, false)), 14, [2, 3, 4, 5, 6, 9, 10, 11, 12, 13]⟩, ⟨(some 24), (.pick (.t 22) (.c (.b true)) (.t 23)), none, 15, [2, 3, 4, 5, 6, 9, 10, 11, 12, 13, 14]⟩, ⟨(some 25), (.nilc (.t 9)), none, 16, [0, 2, 3, 4, 5, 6, 7, 8, 9, 10, 11, 12]⟩, ⟨(some 26), (.fadd 6 (.t 25)), none, 17, [0, 2, 3, 4, 5, 6, 7, 8, 9, 10, 11, 12, 16]⟩, ⟨none, (.store 1 (.t 26) (.t 17)), none, 18, [0, 2, 3, 4, 5, 6, 7, 8, 9, 10, 11, 12, 13, 16, 17]⟩, ⟨(some 27), (.nilc (.t 10)), none, 19, [0, 1, 2, 3, 4, 5, 6, 7, 8, 9, 10, 11, 12, 13, 14, 15, 16, 17, 18]⟩, ⟨(some 28), (.fadd 7 (.t 27)), none, 20, [0, 1, 2, 3, 4, 5, 6, 7, 8, 9, 10, 11, 12, 13, 14, 15, 16, 17, 18, 19]⟩, ⟨none, (.store 1 (.t 28) (.t 24)), none, 21, [0, 1, 2, 3, 4, 5, 6, 7, 8, 9, 10, 11, 12, 13, 14, 15, 16, 17, 18, 19, 20]⟩])
  (.seq (.region [⟨(some 29), (.mv (.t 0)), none, 0, []⟩, ⟨(some 30), (.nilc (.t 29)), none, 1, []⟩, ⟨(some 31), (.fadd 6 (.t 30)), none, 2, []⟩, ⟨(some 32), (.load false 1 (.t 31)), none, 3, []⟩, ⟨(some 33), (.mv (.t 32)), none, 4, []⟩, ⟨(some 34), (.mv (.t 0)), (some (33, true)), 5, []⟩, ⟨(some 35), (.nilc (.t 34)), (some (33, true)), 6, []⟩, ⟨(some 36), (.fadd 7 (.t 35)), (some (33, true)), 7, []⟩, ⟨(some 37), (.load false 1 (.t 36)), (some (33, true)), 8, []⟩, ⟨(some 38), (.pick (.t 33) (.t 37) (.c (.b false))), none, 9, []⟩])
  (.cond (.t 38) (.region [⟨(some 39), (.mv (.t 0)), none, 0, []⟩, ⟨(some 40), (.build [(.i .i64 0), (.i .u8 0), (.i .u16 0), (.i .u32 0), (.s ⟨#[]⟩), (.s ⟨#[]⟩), (.b false), (.b false)] []), none, 1, []⟩, ⟨(some 41), (.nilc (.t 39)), none, 2, []⟩, ⟨none, (.store 8 (.t 41) (.t 40)), none, 3, []⟩]) .skip))))
def x52 : XFun := ⟨x52b, []⟩
theorem x52_ok : compF Tryd.prog 52 = some x52 := by kernel_rfl
/-- (*bollard/bollardref18.Table).Ask (52) -/
def x53b : XC := (.seq (.region [⟨(some 3), (.box (.t 1)), none, 0, []⟩, ⟨(some 4), (.mv (.c (.i .u16 0))), none, 1, []⟩, ⟨(some 5), (.mv (.c (.sl none 0 0 0))), none, 2, []⟩, ⟨(some 6), (.mv (.c (.i .i64 0))), none, 3, []⟩])
  (.seq (.region [⟨(some 11), (.load true 5 (.t 3)), none, 0, []⟩, ⟨(some 12), (.call (.c (.fn (.func 13) [] [])) [(.t 11)]), none, 1, []⟩, ⟨(some 10), (.mv (.t 12)), none, 2, []⟩, ⟨(some 13), (.ext (.t 10) 0), none, 3, []⟩, ⟨(some 14), (.ext (.t 10) 1), none, 4, []⟩, ⟨(some 7), (.mv (.t 13)), none, 5, []⟩, ⟨(some 8), (.mv (.t 14)), none, 6, []⟩])
  (.seq (.seq (.region [⟨(some 15), (.mv (.t 8)), none, 0, []⟩, ⟨(some 16), (.bin .neq (.t 15) (.c (.i .i64 0))), none, 1, []⟩])
  (.cond (.t 16) (.seq (.region [⟨(some 17), (.mv (.t 8)), none, 0, []⟩, ⟨(some 4), (.mv (.c (.i .u16 0))), none, 1, []⟩, ⟨(some 5), (.mv (.c (.sl none 0 0 0))), none, 2, []⟩, ⟨(some 6), (.mv (.t 17)), none, 3, []⟩])
  .ret) .skip))
  (.seq (.seq (.region [⟨(some 9), (.mv (.c (.i .i64 0))), none, 0, []⟩])
  (.block 0 (.loop (.seq (.seq (.region [⟨(some 18), (.mv (.t 9)), none, 0, []⟩, ⟨(some 19), (.mv (.t 0)), none, 1, []⟩, ⟨(some 20), (.nilc (.t 19)), none, 2, []⟩, ⟨(some 21), (.fadd 0 (.t 20)), none, 3, []⟩, ⟨(some 22), (.load false 1 (.t 21)), none, 4, []⟩, ⟨(some 23), (.lenx (.t 22)), none, 5, []⟩, ⟨(some 24), (.bin .lss (.t 18) (.t 23)), none, 6, []⟩])
  (.cond (.t 24) .skip (.exit 0)))
  (.seq (.block 1 (.seq (.region [⟨(some 27), (.mv (.t 0)), none, 0, []⟩, ⟨(some 28), (.mv (.t 9)), none, 1, []⟩, ⟨(some 29), (.call (.c (.fn (.func 67) [] [])) [(.t 27), (.t 28)]), none, 2, []⟩, ⟨(some 30), (.mv (.t 29)), none, 3, []⟩, ⟨(some 31), (.mv (.t 0)), (some (30, true)), 4, []⟩, ⟨(some 32), (.nilc (.t 31)), (some (30, true)), 5, []⟩, ⟨(some 33), (.fadd 0 (.t 32)), (some (30, true)), 6, []⟩, ⟨(some 34), (.load false 1 (.t 33)), (some (30, true)), 7, []⟩, ⟨(some 35), (.mv (.t 9)), (some (30, true)), 8, []⟩, ⟨(some 36), (.isl 8 (.t 34) (.t 35)), (some (30, true)), 9, []⟩, ⟨(some 37), (.fadd 0 (.t 36)), (some (30, true)), 10, []⟩, ⟨(some 38), (.load false 1 (.t 37)), (some (30, true)), 11, []⟩, ⟨(some 39), (.bin .eql (.t 38) (.c (.i .i64 0))), (some (30, true)), 12, []⟩, ⟨(some 40), (.pick (.t 30) (.t 39) (.c (.b false))), none, 13, []⟩])
  (.cond (.t 40) (.seq (.draw [⟨(some 41), (.mv (.t 0)), none, 0, []⟩, ⟨(some 42), (.nilc (.t 41)), none, 1, [0]⟩, ⟨(some 43), (.fadd 0 (.t 42)), none, 2, [0, 1]⟩, ⟨(some 45), (.mv (.t 9)), none, 4, []⟩, ⟨(some 44), (.load false 1 (.t 43)), none, 3, [0, 1, 2]⟩, ⟨(some 46), (.load true 5 (.t 3)), none, 5, []⟩, ⟨(some 47), (.build [(.i .i64 0), (.i .u8 0), (.i .u16 0), (.i .u32 0), (.s ⟨#[]⟩), (.s ⟨#[]⟩), (.b false), (.b false)] [(0, 1, (.c (.i .i64 1))), (1, 5, (.t 46))]), none, 6, [5]⟩, ⟨(some 48), (.isl 8 (.t 44) (.t 45)), none, 7, [0, 1, 2, 3, 4, 5, 6]⟩, ⟨none, (.store 8 (.t 48) (.t 47)), none, 8, [0, 1, 2, 3, 4, 5, 6, 7]⟩])
  (.seq (.region [⟨(some 49), (.mv (.t 9)), none, 0, []⟩, ⟨(some 50), (.cint .u16 (.t 49)), none, 1, []⟩, ⟨(some 51), (.mv (.t 7)), none, 2, []⟩, ⟨(some 4), (.mv (.t 50)), none, 3, []⟩, ⟨(some 5), (.mv (.t 51)), none, 4, []⟩, ⟨(some 6), (.mv (.c (.i .i64 0))), none, 5, []⟩])
  .ret)) .skip)))
  (.region [⟨(some 25), (.mv (.t 9)), none, 0, []⟩, ⟨(some 26), (.bin .add (.t 25) (.c (.i .i64 1))), none, 1, []⟩, ⟨(some 9), (.mv (.t 26)), none, 2, []⟩]))))))
  (.seq (.region [⟨(some 4), (.mv (.c (.i .u16 0))), none, 0, []⟩, ⟨(some 5), (.mv (.c (.sl none 0 0 0))), none, 1, []⟩, ⟨(some 6), (.mv (.c (.i .i64 9))), none, 2, []⟩])
  .ret)))))
def x53 : XFun := ⟨x53b, [(.t 4), (.t 5), (.t 6)]⟩
theorem x53_ok : compF Tryd.prog 53 = some x53 := by kernel_rfl
/-- (*bollard/bollardref18.Table).Hear (64) -/
def x54b : XC := (.seq (.region [⟨(some 3), (.box (.t 1)), none, 0, []⟩, ⟨(some 4), (.alloc [(.i .i64 0), (.i .u16 0), (.i .u8 0), (.i .u16 0), (.i .u32 0), (.s ⟨#[]⟩), (.s ⟨#[]⟩), (.b false), (.sl none 0 0 0)]), none, 1, []⟩, ⟨(some 5), (.mv (.c (.sl none 0 0 0))), none, 2, []⟩, ⟨(some 6), (.mv (.c (.i .i64 0))), none, 3, []⟩])
  (.seq (.seq (.draw [⟨(some 11), (.fadd 0 (.t 3)), none, 0, []⟩, ⟨(some 14), (.mv (.t 0)), none, 3, []⟩, ⟨(some 15), (.nilc (.t 14)), none, 4, [3]⟩, ⟨(some 16), (.fadd 0 (.t 15)), none, 5, [3, 4]⟩, ⟨(some 12), (.load false 1 (.t 11)), none, 1, [0]⟩, ⟨(some 13), (.cint .i64 (.t 12)), none, 2, [0, 1]⟩, ⟨(some 17), (.load false 1 (.t 16)), none, 6, [3, 4, 5]⟩, ⟨(some 18), (.lenx (.t 17)), none, 7, [3, 4, 5, 6]⟩, ⟨(some 19), (.bin .geq (.t 13) (.t 18)), none, 8, [0, 1, 2, 3, 4, 5, 6, 7]⟩])
  (.cond (.t 19) (.seq (.region [⟨(some 20), (.build [(.i .i64 0), (.i .u16 0), (.i .u8 0), (.i .u16 0), (.i .u32 0), (.s ⟨#[]⟩), (.s ⟨#[]⟩), (.b false), (.sl none 0 0 0)] []), none, 0, []⟩, ⟨none, (.store 9 (.t 4) (.t 20)), none, 1, []⟩, ⟨(some 5), (.mv (.c (.sl none 0 0 0))), none, 2, []⟩, ⟨(some 6), (.mv (.c (.i .i64 1))), none, 3, []⟩])
  .ret) .skip))
  (.seq (.seq (.region [⟨(some 21), (.fadd 2 (.t 3)), none, 0, []⟩, ⟨(some 22), (.load false 1 (.t 21)), none, 1, []⟩, ⟨(some 23), (.bin .eql (.t 22) (.c (.i .u32 50))), none, 2, []⟩])
  (.cond (.t 23) (.seq (.region [⟨(some 24), (.mv (.t 0)), none, 0, []⟩, ⟨(some 25), (.load true 4 (.t 3)), none, 1, []⟩, ⟨(some 26), (.call (.c (.fn (.func 68) [] [])) [(.t 24), (.t 25)]), none, 2, []⟩, ⟨(some 27), (.ext (.t 26) 0), none, 3, []⟩, ⟨(some 28), (.ext (.t 26) 1), none, 4, []⟩, ⟨(some 29), (.ext (.t 26) 2), none, 5, []⟩, ⟨none, (.store 9 (.t 4) (.t 27)), none, 6, []⟩, ⟨(some 5), (.mv (.t 28)), none, 7, []⟩, ⟨(some 6), (.mv (.t 29)), none, 8, []⟩])
  .ret) .skip))
  (.seq (.draw [⟨(some 30), (.mv (.t 0)), none, 0, []⟩, ⟨(some 31), (.nilc (.t 30)), none, 1, [0]⟩, ⟨(some 32), (.fadd 0 (.t 31)), none, 2, [0, 1]⟩, ⟨(some 34), (.fadd 0 (.t 3)), none, 4, []⟩, ⟨(some 33), (.load false 1 (.t 32)), none, 3, [0, 1, 2]⟩, ⟨(some 35), (.load false 1 (.t 34)), none, 5, [4]⟩, ⟨(some 36), (.cint .i64 (.t 35)), none, 6, [4, 5]⟩, ⟨(some 37), (.isl 8 (.t 33) (.t 36)), none, 7, [0, 1, 2, 3, 4, 5, 6]⟩, ⟨(some 38), (.load true 8 (.t 37)), none, 8, [0, 1, 2, 3, 4, 5, 6, 7]⟩, ⟨(some 7), (.alloc [(.i .i64 0), (.i .u8 0), (.i .u16 0), (.i .u32 0), (.s ⟨#[]⟩), (.s ⟨#[]⟩), (.b false), (.b false)]), none, 9, []⟩, ⟨none, (.store 8 (.t 7) (.t 38)), none, 10, [0, 1, 2, 3, 4, 5, 6, 7, 8, 9]⟩])
  (.seq (.seq (.region [⟨(some 39), (.fadd 0 (.t 7)), none, 0, []⟩, ⟨(some 40), (.load false 1 (.t 39)), none, 1, []⟩, ⟨(some 41), (.bin .eql (.t 40) (.c (.i .i64 0))), none, 2, []⟩])
  (.cond (.t 41) (.seq (.region [⟨(some 42), (.build [(.i .i64 0), (.i .u16 0), (.i .u8 0), (.i .u16 0), (.i .u32 0), (.s ⟨#[]⟩), (.s ⟨#[]⟩), (.b false), (.sl none 0 0 0)] []), none, 0, []⟩, ⟨none, (.store 9 (.t 4) (.t 42)), none, 1, []⟩, ⟨(some 5), (.mv (.c (.sl none 0 0 0))), none, 2, []⟩, ⟨(some 6), (.mv (.c (.i .i64 11))), none, 3, []⟩])
  .ret) .skip))
  (.seq (.region [⟨(some 44), (.fadd 2 (.t 3)), none, 0, []⟩, ⟨(some 45), (.load false 1 (.t 44)), none, 1, []⟩, ⟨(some 46), (.fadd 3 (.t 3)), none, 2, []⟩, ⟨(some 47), (.load false 1 (.t 46)), none, 3, []⟩, ⟨(some 48), (.call (.c (.fn (.func 21) [] [])) [(.t 45), (.t 47)]), none, 4, []⟩, ⟨(some 43), (.mv (.t 48)), none, 5, []⟩, ⟨(some 49), (.ext (.t 43) 0), none, 6, []⟩, ⟨(some 50), (.ext (.t 43) 1), none, 7, []⟩, ⟨(some 51), (.ext (.t 43) 2), none, 8, []⟩, ⟨(some 8), (.mv (.t 49)), none, 9, []⟩, ⟨(some 9), (.mv (.t 50)), none, 10, []⟩, ⟨(some 10), (.mv (.t 51)), none, 11, []⟩])
  (.seq (.seq (.region [⟨(some 52), (.mv (.t 10)), none, 0, []⟩, ⟨(some 53), (.unx .not (.t 52)), none, 1, []⟩])
  (.cond (.t 53) (.seq (.region [⟨(some 54), (.build [(.i .i64 0), (.i .u16 0), (.i .u8 0), (.i .u16 0), (.i .u32 0), (.s ⟨#[]⟩), (.s ⟨#[]⟩), (.b false), (.sl none 0 0 0)] []), none, 0, []⟩, ⟨none, (.store 9 (.t 4) (.t 54)), none, 1, []⟩, ⟨(some 5), (.mv (.c (.sl none 0 0 0))), none, 2, []⟩, ⟨(some 6), (.mv (.c (.i .i64 3))), none, 3, []⟩])
  .ret) .skip))
  (.seq (.seq (.region [⟨(some 55), (.fadd 0 (.t 7)), none, 0, []⟩, ⟨(some 56), (.load false 1 (.t 55)), none, 1, []⟩, ⟨(some 57), (.bin .eql (.t 56) (.c (.i .i64 3))), none, 2, []⟩])
  (.cond (.t 57) (.seq (.region [⟨(some 58), (.build [(.i .i64 0), (.i .u16 0), (.i .u8 0), (.i .u16 0), (.i .u32 0), (.s ⟨#[]⟩), (.s ⟨#[]⟩), (.b false), (.sl none 0 0 0)] []), none, 0, []⟩, ⟨none, (.store 9 (.t 4) (.t 58)), none, 1, []⟩, ⟨(some 5), (.mv (.c (.sl none 0 0 0))), none, 2, []⟩, ⟨(some 6), (.mv (.c (.i .i64 0))), none, 3, []⟩])
  .ret) .skip))
  (.seq (.region [⟨(some 59), (.fadd 0 (.t 3)), none, 0, []⟩, ⟨(some 60), (.load false 1 (.t 59)), none, 1, []⟩, ⟨(some 61), (.mv (.t 8)), none, 2, []⟩, ⟨(some 62), (.mv (.t 9)), none, 3, []⟩, ⟨(some 63), (.build [(.i .i64 0), (.i .u16 0), (.i .u8 0), (.i .u16 0), (.i .u32 0), (.s ⟨#[]⟩), (.s ⟨#[]⟩), (.b false), (.sl none 0 0 0)] [(0, 1, (.c (.i .i64 3))), (1, 1, (.t 60)), (7, 1, (.t 61)), (8, 1, (.t 62))]), none, 4, []⟩, ⟨none, (.store 9 (.t 4) (.t 63)), none, 5, []⟩, ⟨(some 5), (.mv (.c (.sl none 0 0 0))), none, 6, []⟩, ⟨(some 6), (.mv (.c (.i .i64 0))), none, 7, []⟩])
  .ret)))))))))
def x54 : XFun := ⟨x54b, [(.cell 4 true 9), (.t 5), (.t 6)]⟩
theorem x54_ok : compF Tryd.prog 54 = some x54 := by kernel_rfl
/-- (*bollard/bollardref18.Table).Close (44) -/
def x55b : XC := (.seq (.region [⟨(some 4), (.mv (.c (.i .i64 0))), none, 0, []⟩])
  (.seq (.region [⟨(some 6), (.mv (.t 1)), none, 0, []⟩, ⟨(some 7), (.cint .i64 (.t 6)), none, 1, []⟩, ⟨(some 5), (.mv (.t 7)), none, 2, []⟩])
  (.seq (.seq (.region [⟨(some 8), (.mv (.t 5)), none, 0, []⟩, ⟨(some 9), (.mv (.t 0)), none, 1, []⟩, ⟨(some 10), (.nilc (.t 9)), none, 2, []⟩, ⟨(some 11), (.fadd 0 (.t 10)), none, 3, []⟩, ⟨(some 12), (.load false 1 (.t 11)), none, 4, []⟩, ⟨(some 13), (.lenx (.t 12)), none, 5, []⟩, ⟨(some 14), (.bin .geq (.t 8) (.t 13)), none, 6, []⟩, ⟨(some 15), (.mv (.t 14)), none, 7, []⟩, ⟨(some 16), (.mv (.t 0)), (some (15, false)), 8, []⟩, ⟨(some 17), (.nilc (.t 16)), (some (15, false)), 9, []⟩, ⟨(some 18), (.fadd 0 (.t 17)), (some (15, false)), 10, []⟩, ⟨(some 19), (.load false 1 (.t 18)), (some (15, false)), 11, []⟩, ⟨(some 20), (.mv (.t 5)), (some (15, false)), 12, []⟩, ⟨(some 21), (.isl 8 (.t 19) (.t 20)), (some (15, false)), 13, []⟩, ⟨(some 22), (.fadd 0 (.t 21)), (some (15, false)), 14, []⟩, ⟨(some 23), (.load false 1 (.t 22)), (some (15, false)), 15, []⟩, ⟨(some 24), (.bin .neq (.t 23) (.c (.i .i64 1))), (some (15, false)), 16, []⟩, ⟨(some 25), (.mv (.t 24)), (some (15, false)), 17, []⟩, ⟨(some 26), (.mv (.t 0)), (some (25, true)), 18, []⟩, ⟨(some 27), (.nilc (.t 26)), (some (25, true)), 19, []⟩, ⟨(some 28), (.fadd 0 (.t 27)), (some (25, true)), 20, []⟩, ⟨(some 29), (.load false 1 (.t 28)), (some (25, true)), 21, []⟩, ⟨(some 30), (.mv (.t 5)), (some (25, true)), 22, []⟩, ⟨(some 31), (.isl 8 (.t 29) (.t 30)), (some (25, true)), 23, []⟩, ⟨(some 32), (.fadd 0 (.t 31)), (some (25, true)), 24, []⟩, ⟨(some 33), (.load false 1 (.t 32)), (some (25, true)), 25, []⟩, ⟨(some 34), (.bin .neq (.t 33) (.c (.i .i64 2))), (some (25, true)), 26, []⟩, ⟨(some 35), (.pick (.t 25) (.t 34) (.c (.b false))), (some (15, false)), 27, []⟩, ⟨(some 36), (.pick (.t 15) (.c (.b true)) (.t 35)), none, 28, []⟩])
  (.cond (.t 36) (.seq (.region [⟨(some 4), (.mv (.c (.i .i64 11))), none, 0, []⟩])
  .ret) .skip))
  (.seq (.region [⟨(some 37), (.mv (.t 0)), none, 0, []⟩, ⟨(some 38), (.nilc (.t 37)), none, 1, []⟩, ⟨(some 39), (.fadd 0 (.t 38)), none, 2, []⟩, ⟨(some 40), (.load false 1 (.t 39)), none, 3, []⟩, ⟨(some 41), (.mv (.t 5)), none, 4, []⟩, ⟨(some 42), (.isl 8 (.t 40) (.t 41)), none, 5, []⟩, ⟨(some 43), (.fadd 0 (.t 42)), none, 6, []⟩, ⟨none, (.store 1 (.t 43) (.c (.i .i64 3))), none, 7, []⟩])
  (.seq (.region [⟨(some 4), (.mv (.c (.i .i64 0))), none, 0, []⟩])
  .ret)))))
def x55 : XFun := ⟨x55b, [(.t 4)]⟩
theorem x55_ok : compF Tryd.prog 55 = some x55 := by kernel_rfl
/-- (*bollard/bollardref18.Table).Gone (54) -/
def x56b : XC := (.seq (.region [⟨(some 4), (.mv (.c (.b false))), none, 0, []⟩])
  (.seq (.region [⟨(some 7), (.mv (.t 1)), none, 0, []⟩, ⟨(some 8), (.cint .i64 (.t 7)), none, 1, []⟩, ⟨(some 5), (.mv (.t 8)), none, 2, []⟩])
  (.seq (.seq (.region [⟨(some 9), (.mv (.t 5)), none, 0, []⟩, ⟨(some 10), (.mv (.t 0)), none, 1, []⟩, ⟨(some 11), (.nilc (.t 10)), none, 2, []⟩, ⟨(some 12), (.fadd 0 (.t 11)), none, 3, []⟩, ⟨(some 13), (.load false 1 (.t 12)), none, 4, []⟩, ⟨(some 14), (.lenx (.t 13)), none, 5, []⟩, ⟨(some 15), (.bin .geq (.t 9) (.t 14)), none, 6, []⟩, ⟨(some 16), (.mv (.t 15)), none, 7, []⟩, ⟨(some 17), (.mv (.t 0)), (some (16, false)), 8, []⟩, ⟨(some 18), (.nilc (.t 17)), (some (16, false)), 9, []⟩, ⟨(some 19), (.fadd 0 (.t 18)), (some (16, false)), 10, []⟩, ⟨(some 20), (.load false 1 (.t 19)), (some (16, false)), 11, []⟩, ⟨(some 21), (.mv (.t 5)), (some (16, false)), 12, []⟩, ⟨(some 22), (.isl 8 (.t 20) (.t 21)), (some (16, false)), 13, []⟩, ⟨(some 23), (.fadd 0 (.t 22)), (some (16, false)), 14, []⟩, ⟨(some 24), (.load false 1 (.t 23)), (some (16, false)), 15, []⟩, ⟨(some 25), (.bin .eql (.t 24) (.c (.i .i64 0))), (some (16, false)), 16, []⟩, ⟨(some 26), (.pick (.t 16) (.c (.b true)) (.t 25)), none, 17, []⟩])
  (.cond (.t 26) (.seq (.region [⟨(some 4), (.mv (.c (.b false))), none, 0, []⟩])
  .ret) .skip))
  (.seq (.region [⟨(some 27), (.mv (.t 0)), none, 0, []⟩, ⟨(some 28), (.nilc (.t 27)), none, 1, []⟩, ⟨(some 29), (.fadd 0 (.t 28)), none, 2, []⟩, ⟨(some 30), (.load false 1 (.t 29)), none, 3, []⟩, ⟨(some 31), (.mv (.t 5)), none, 4, []⟩, ⟨(some 32), (.isl 8 (.t 30) (.t 31)), none, 5, []⟩, ⟨(some 33), (.fadd 0 (.t 32)), none, 6, []⟩, ⟨(some 34), (.load false 1 (.t 33)), none, 7, []⟩, ⟨(some 35), (.bin .neq (.t 34) (.c (.i .i64 3))), none, 8, []⟩, ⟨(some 6), (.mv (.t 35)), none, 9, []⟩])
  (.seq (.region [⟨(some 36), (.mv (.t 0)), none, 0, []⟩, ⟨(some 37), (.nilc (.t 36)), none, 1, []⟩, ⟨(some 38), (.fadd 0 (.t 37)), none, 2, []⟩, ⟨(some 39), (.load false 1 (.t 38)), none, 3, []⟩, ⟨(some 40), (.mv (.t 5)), none, 4, []⟩, ⟨(some 41), (.isl 8 (.t 39) (.t 40)), none, 5, []⟩, ⟨(some 42), (.fadd 0 (.t 41)), none, 6, []⟩, ⟨none, (.store 1 (.t 42) (.c (.i .i64 3))), none, 7, []⟩])
  (.seq (.region [⟨(some 43), (.mv (.t 0)), none, 0, []⟩, ⟨(some 44), (.nilc (.t 43)), none, 1, []⟩, ⟨(some 45), (.fadd 0 (.t 44)), none, 2, []⟩, ⟨(some 46), (.load false 1 (.t 45)), none, 3, []⟩, ⟨(some 47), (.mv (.t 5)), none, 4, []⟩, ⟨(some 48), (.isl 8 (.t 46) (.t 47)), none, 5, []⟩, ⟨(some 49), (.fadd 7 (.t 48)), none, 6, []⟩, ⟨none, (.store 1 (.t 49) (.c (.b true))), none, 7, []⟩])
  (.seq (.region [⟨(some 50), (.mv (.t 0)), none, 0, []⟩, ⟨(some 51), (.mv (.t 5)), none, 1, []⟩, ⟨(some 52), (.call (.c (.fn (.func 69) [] [])) [(.t 50), (.t 51)]), none, 2, []⟩])
  (.seq (.region [⟨(some 53), (.mv (.t 6)), none, 0, []⟩, ⟨(some 4), (.mv (.t 53)), none, 1, []⟩])
  .ret))))))))
def x56 : XFun := ⟨x56b, [(.t 4)]⟩
theorem x56_ok : compF Tryd.prog 56 = some x56 := by kernel_rfl
/-- (*bollard/bollardref18.Table).Freed (35) -/
def x57b : XC := (.seq (.region [⟨(some 5), (.mv (.t 1)), none, 0, []⟩, ⟨(some 6), (.cint .i64 (.t 5)), none, 1, []⟩, ⟨(some 4), (.mv (.t 6)), none, 2, []⟩])
  (.seq (.region [⟨(some 7), (.mv (.t 4)), none, 0, []⟩, ⟨(some 8), (.mv (.t 0)), none, 1, []⟩, ⟨(some 9), (.nilc (.t 8)), none, 2, []⟩, ⟨(some 10), (.fadd 0 (.t 9)), none, 3, []⟩, ⟨(some 11), (.load false 1 (.t 10)), none, 4, []⟩, ⟨(some 12), (.lenx (.t 11)), none, 5, []⟩, ⟨(some 13), (.bin .lss (.t 7) (.t 12)), none, 6, []⟩, ⟨(some 14), (.mv (.t 13)), none, 7, []⟩, ⟨(some 15), (.mv (.t 0)), (some (14, true)), 8, []⟩, ⟨(some 16), (.nilc (.t 15)), (some (14, true)), 9, []⟩, ⟨(some 17), (.fadd 0 (.t 16)), (some (14, true)), 10, []⟩, ⟨(some 18), (.load false 1 (.t 17)), (some (14, true)), 11, []⟩, ⟨(some 19), (.mv (.t 4)), (some (14, true)), 12, []⟩, ⟨(some 20), (.isl 8 (.t 18) (.t 19)), (some (14, true)), 13, []⟩, ⟨(some 21), (.fadd 0 (.t 20)), (some (14, true)), 14, []⟩, ⟨(some 22), (.load false 1 (.t 21)), (some (14, true)), 15, []⟩, ⟨(some 23), (.bin .eql (.t 22) (.c (.i .i64 3))), (some (14, true)), 16, []⟩, ⟨(some 24), (.pick (.t 14) (.t 23) (.c (.b false))), none, 17, []⟩])
  (.cond (.t 24) (.seq (.region [⟨(some 25), (.mv (.t 0)), none, 0, []⟩, ⟨(some 26), (.nilc (.t 25)), none, 1, []⟩, ⟨(some 27), (.fadd 0 (.t 26)), none, 2, []⟩, ⟨(some 28), (.load false 1 (.t 27)), none, 3, []⟩, ⟨(some 29), (.mv (.t 4)), none, 4, []⟩, ⟨(some 30), (.isl 8 (.t 28) (.t 29)), none, 5, []⟩, ⟨(some 31), (.fadd 6 (.t 30)), none, 6, []⟩, ⟨none, (.store 1 (.t 31) (.c (.b true))), none, 7, []⟩])
  (.region [⟨(some 32), (.mv (.t 0)), none, 0, []⟩, ⟨(some 33), (.mv (.t 4)), none, 1, []⟩, ⟨(some 34), (.call (.c (.fn (.func 69) [] [])) [(.t 32), (.t 33)]), none, 2, []⟩])) .skip)))
def x57 : XFun := ⟨x57b, []⟩
theorem x57_ok : compF Tryd.prog 57 = some x57 := by kernel_rfl
/-- slices.IndexFunc[[]bollard/dcep.channel,bollard/dcep.channel] (19) -/
def x58b : XC := (.seq (.region [⟨(some 4), (.mv (.c (.i .i64 0))), none, 0, []⟩])
  (.seq (.seq (.region [⟨(some 6), (.mv (.t 0)), none, 0, []⟩, ⟨(some 7), (.lenx (.t 6)), none, 1, []⟩, ⟨(some 8), (.mv (.c (.i .i64 0))), none, 2, []⟩])
  (.block 0 (.loop (.seq (.region [⟨(some 9), (.bin .lss (.t 8) (.t 7)), none, 0, []⟩])
  (.seq (.cond (.t 9) .skip (.exit 0))
  (.seq (.block 1 (.seq (.region [⟨(some 10), (.mv (.t 8)), none, 0, []⟩, ⟨(some 5), (.mv (.t 10)), none, 1, []⟩])
  (.seq (.region [⟨(some 11), (.mv (.t 1)), none, 0, []⟩, ⟨(some 12), (.mv (.t 0)), none, 1, []⟩, ⟨(some 13), (.mv (.t 5)), none, 2, []⟩, ⟨(some 14), (.isl 8 (.t 12) (.t 13)), none, 3, []⟩, ⟨(some 15), (.load true 8 (.t 14)), none, 4, []⟩, ⟨(some 16), (.call (.t 11) [(.t 15)]), none, 5, []⟩])
  (.cond (.t 16) (.seq (.region [⟨(some 17), (.mv (.t 5)), none, 0, []⟩, ⟨(some 4), (.mv (.t 17)), none, 1, []⟩])
  .ret) .skip))))
  (.region [⟨(some 18), (.bin .add (.t 8) (.c (.i .i64 1))), none, 0, []⟩, ⟨(some 8), (.mv (.t 18)), none, 1, []⟩])))))))
  (.seq (.region [⟨(some 4), (.mv (.c (.i .i64 (-1)))), none, 0, []⟩])
  .ret)))
def x58 : XFun := ⟨x58b, [(.t 4)]⟩
theorem x58_ok : compF Tryd.prog 58 = some x58 := by kernel_rfl
/-- (*bollard/dcep.Table).Find$1 (12) -/
def x59b : XC := (.seq (.region [⟨(some 2), (.box (.t 0)), none, 0, []⟩, ⟨(some 3), (.mv (.c (.b false))), none, 1, []⟩])
  (.seq (.region [⟨(some 4), (.call (.c (.fn (.func 51) [] [])) [(.t 2)]), none, 0, []⟩, ⟨(some 5), (.mv (.t 4)), none, 1, []⟩, ⟨(some 6), (.fadd 1 (.t 2)), (some (5, true)), 2, []⟩, ⟨(some 7), (.fadd 3 (.t 6)), (some (5, true)), 3, []⟩, ⟨(some 8), (.load false 1 (.t 7)), (some (5, true)), 4, []⟩, ⟨(some 9), (.load false 1 (.t 1)), (some (5, true)), 5, []⟩, ⟨(some 10), (.bin .eql (.t 8) (.t 9)), (some (5, true)), 6, []⟩, ⟨(some 11), (.pick (.t 5) (.t 10) (.c (.b false))), none, 7, []⟩, ⟨(some 3), (.mv (.t 11)), none, 8, []⟩])
  .ret))
def x59 : XFun := ⟨x59b, [(.t 3)]⟩
theorem x59_ok : compF Tryd.prog 59 = some x59 := by kernel_rfl
/-- slices.Equal[[]byte,byte] (26) -/
def x60b : XC := (.seq (.region [⟨(some 4), (.mv (.c (.b false))), none, 0, []⟩])
  (.seq (.seq (.region [⟨(some 6), (.mv (.t 0)), none, 0, []⟩, ⟨(some 7), (.lenx (.t 6)), none, 1, []⟩, ⟨(some 8), (.mv (.t 1)), none, 2, []⟩, ⟨(some 9), (.lenx (.t 8)), none, 3, []⟩, ⟨(some 10), (.bin .neq (.t 7) (.t 9)), none, 4, []⟩])
  (.cond (.t 10) (.seq (.region [⟨(some 4), (.mv (.c (.b false))), none, 0, []⟩])
  .ret) .skip))
  (.seq (.seq (.region [⟨(some 11), (.mv (.t 0)), none, 0, []⟩, ⟨(some 12), (.lenx (.t 11)), none, 1, []⟩, ⟨(some 13), (.mv (.c (.i .i64 0))), none, 2, []⟩])
  (.block 0 (.loop (.seq (.region [⟨(some 14), (.bin .lss (.t 13) (.t 12)), none, 0, []⟩])
  (.seq (.cond (.t 14) .skip (.exit 0))
  (.seq (.block 1 (.seq (.region [⟨(some 15), (.mv (.t 13)), none, 0, []⟩, ⟨(some 5), (.mv (.t 15)), none, 1, []⟩])
  (.seq (.draw [⟨(some 16), (.mv (.t 0)), none, 0, []⟩, ⟨(some 17), (.mv (.t 5)), none, 1, []⟩, ⟨(some 18), (.isl 1 (.t 16) (.t 17)), none, 2, [0, 1]⟩, ⟨(some 20), (.mv (.t 1)), none, 4, []⟩, ⟨(some 21), (.mv (.t 5)), none, 5, []⟩, ⟨(some 22), (.isl 1 (.t 20) (.t 21)), none, 6, [4, 5]⟩, ⟨(some 19), (.load false 1 (.t 18)), none, 3, [0, 1, 2]⟩, ⟨(some 23), (.load false 1 (.t 22)), none, 7, [4, 5, 6]⟩, ⟨(some 24), (.bin .neq (.t 19) (.t 23)), none, 8, [0, 1, 2, 3, 4, 5, 6, 7]⟩])
  (.cond (.t 24) (.seq (.region [⟨(some 4), (.mv (.c (.b false))), none, 0, []⟩])
  .ret) .skip))))
  (.region [⟨(some 25), (.bin .add (.t 13) (.c (.i .i64 1))), none, 0, []⟩, ⟨(some 13), (.mv (.t 25)), none, 1, []⟩])))))))
  (.seq (.region [⟨(some 4), (.mv (.c (.b true))), none, 0, []⟩])
  .ret))))
def x60 : XFun := ⟨x60b, [(.t 4)]⟩
theorem x60_ok : compF Tryd.prog 60 = some x60 := by kernel_rfl
/-- (*bollard/dcep.channel).acked (25) -/
def x61b : XC := (.seq (.region [⟨(some 4), (.alloc [(.i .i64 0), (.i .u16 0), (.i .u8 0), (.i .u16 0), (.i .u32 0), (.s ⟨#[]⟩), (.s ⟨#[]⟩), (.b false), (.sl none 0 0 0)]), none, 0, []⟩, ⟨(some 5), (.mv (.c (.i .i64 0))), none, 1, []⟩])
  (.seq (.seq (.region [⟨(some 6), (.mv (.t 0)), none, 0, []⟩, ⟨(some 7), (.nilc (.t 6)), none, 1, []⟩, ⟨(some 8), (.fadd 0 (.t 7)), none, 2, []⟩, ⟨(some 9), (.load false 1 (.t 8)), none, 3, []⟩])
  (.block 0 (.seq (.region [⟨(some 11), (.bin .eql (.t 9) (.c (.i .i64 0))), none, 0, []⟩, ⟨(some 10), (.mv (.t 11)), none, 1, []⟩])
  (.cond (.t 10) (.seq (.region [⟨(some 12), (.build [(.i .i64 0), (.i .u16 0), (.i .u8 0), (.i .u16 0), (.i .u32 0), (.s ⟨#[]⟩), (.s ⟨#[]⟩), (.b false), (.sl none 0 0 0)] []), none, 0, []⟩, ⟨none, (.store 9 (.t 4) (.t 12)), none, 1, []⟩, ⟨(some 5), (.mv (.c (.i .i64 8))), none, 2, []⟩])
  .ret) (.seq (.region [⟨(some 14), (.bin .eql (.t 9) (.c (.i .i64 1))), none, 0, []⟩, ⟨(some 13), (.mv (.t 14)), none, 1, []⟩])
  (.cond (.t 13) (.seq (.region [⟨(some 15), (.mv (.t 0)), none, 0, []⟩, ⟨(some 16), (.nilc (.t 15)), none, 1, []⟩, ⟨(some 17), (.fadd 0 (.t 16)), none, 2, []⟩, ⟨none, (.store 1 (.t 17) (.c (.i .i64 2))), none, 3, []⟩])
  (.seq (.region [⟨(some 18), (.mv (.t 1)), none, 0, []⟩, ⟨(some 19), (.mv (.t 0)), none, 1, []⟩, ⟨(some 20), (.nilc (.t 19)), none, 2, []⟩, ⟨(some 21), (.fadd 1 (.t 20)), none, 3, []⟩, ⟨(some 22), (.load true 5 (.t 21)), none, 4, []⟩, ⟨(some 23), (.build [(.i .i64 0), (.i .u16 0), (.i .u8 0), (.i .u16 0), (.i .u32 0), (.s ⟨#[]⟩), (.s ⟨#[]⟩), (.b false), (.sl none 0 0 0)] [(0, 1, (.c (.i .i64 2))), (1, 1, (.t 18)), (2, 5, (.t 22))]), none, 5, []⟩, ⟨none, (.store 9 (.t 4) (.t 23)), none, 6, []⟩, ⟨(some 5), (.mv (.c (.i .i64 0))), none, 7, []⟩])
  .ret)) .skip))))))
  (.seq (.region [⟨(some 24), (.build [(.i .i64 0), (.i .u16 0), (.i .u8 0), (.i .u16 0), (.i .u32 0), (.s ⟨#[]⟩), (.s ⟨#[]⟩), (.b false), (.sl none 0 0 0)] []), none, 0, []⟩, ⟨none, (.store 9 (.t 4) (.t 24)), none, 1, []⟩, ⟨(some 5), (.mv (.c (.i .i64 0))), none, 2, []⟩])
  .ret)))
def x61 : XFun := ⟨x61b, [(.cell 4 true 9), (.t 5)]⟩
theorem x61_ok : compF Tryd.prog 61 = some x61 := by kernel_rfl
/-- (*bollard/dcep.Table).opened (45) -/
def x62b : XC := (.seq (.region [⟨(some 4), (.box (.t 1)), none, 0, []⟩, ⟨(some 6), (.alloc [(.i .i64 0), (.i .u16 0), (.i .u8 0), (.i .u16 0), (.i .u32 0), (.s ⟨#[]⟩), (.s ⟨#[]⟩), (.b false), (.sl none 0 0 0)]), none, 1, []⟩, ⟨(some 7), (.mv (.c (.sl none 0 0 0))), none, 2, []⟩, ⟨(some 8), (.mv (.c (.i .i64 0))), none, 3, []⟩])
  (.seq (.region [⟨(some 12), (.fadd 3 (.t 4)), none, 0, []⟩, ⟨(some 13), (.load false 1 (.t 12)), none, 1, []⟩, ⟨(some 14), (.call (.c (.fn (.func 16) [] [])) [(.t 13)]), none, 2, []⟩, ⟨(some 11), (.mv (.t 14)), none, 3, []⟩, ⟨(some 15), (.ext (.t 11) 0), none, 4, []⟩, ⟨(some 16), (.ext (.t 11) 1), none, 5, []⟩, ⟨(some 9), (.alloc [(.i .u8 0), (.i .u16 0), (.i .u32 0), (.s ⟨#[]⟩), (.s ⟨#[]⟩)]), none, 6, []⟩, ⟨none, (.store 5 (.t 9) (.t 15)), none, 7, []⟩, ⟨(some 10), (.mv (.t 16)), none, 8, []⟩])
  (.seq (.block 0 (.seq (.region [⟨(some 18), (.mv (.t 10)), none, 0, []⟩, ⟨(some 19), (.bin .neq (.t 18) (.c (.i .i64 0))), none, 1, []⟩, ⟨(some 17), (.mv (.t 19)), none, 2, []⟩])
  (.cond (.t 17) (.seq (.region [⟨(some 20), (.build [(.i .i64 0), (.i .u16 0), (.i .u8 0), (.i .u16 0), (.i .u32 0), (.s ⟨#[]⟩), (.s ⟨#[]⟩), (.b false), (.sl none 0 0 0)] []), none, 0, []⟩, ⟨(some 21), (.mv (.t 10)), none, 1, []⟩, ⟨none, (.store 9 (.t 6) (.t 20)), none, 2, []⟩, ⟨(some 7), (.mv (.c (.sl none 0 0 0))), none, 3, []⟩, ⟨(some 8), (.mv (.t 21)), none, 4, []⟩])
  .ret) (.seq (.region [⟨(some 23), (.mv (.t 2)), none, 0, []⟩, ⟨(some 24), (.nilc (.t 23)), none, 1, []⟩, ⟨(some 25), (.fadd 0 (.t 24)), none, 2, []⟩, ⟨(some 26), (.load false 1 (.t 25)), none, 3, []⟩, ⟨(some 27), (.bin .neq (.t 26) (.c (.i .i64 0))), none, 4, []⟩, ⟨(some 28), (.mv (.t 27)), none, 5, []⟩, ⟨(some 29), (.mv (.t 0)), (some (28, false)), 6, []⟩, ⟨(some 30), (.fadd 0 (.t 4)), (some (28, false)), 7, []⟩, ⟨(some 31), (.load false 1 (.t 30)), (some (28, false)), 8, []⟩, ⟨(some 32), (.cint .i64 (.t 31)), (some (28, false)), 9, []⟩, ⟨(some 33), (.call (.c (.fn (.func 49) [] [])) [(.t 29), (.t 32)]), (some (28, false)), 10, []⟩, ⟨(some 34), (.pick (.t 28) (.c (.b true)) (.t 33)), none, 11, []⟩, ⟨(some 22), (.mv (.t 34)), none, 12, []⟩])
  (.cond (.t 22) (.seq (.region [⟨(some 35), (.build [(.i .i64 0), (.i .u16 0), (.i .u8 0), (.i .u16 0), (.i .u32 0), (.s ⟨#[]⟩), (.s ⟨#[]⟩), (.b false), (.sl none 0 0 0)] []), none, 0, []⟩, ⟨none, (.store 9 (.t 6) (.t 35)), none, 1, []⟩, ⟨(some 7), (.mv (.c (.sl none 0 0 0))), none, 2, []⟩, ⟨(some 8), (.mv (.c (.i .i64 8))), none, 3, []⟩])
  .ret) .skip)))))
  (.seq (.region [⟨(some 36), (.mv (.t 2)), none, 0, []⟩, ⟨(some 37), (.load true 5 (.t 9)), none, 1, []⟩, ⟨(some 38), (.build [(.i .i64 0), (.i .u8 0), (.i .u16 0), (.i .u32 0), (.s ⟨#[]⟩), (.s ⟨#[]⟩), (.b false), (.b false)] [(0, 1, (.c (.i .i64 2))), (1, 5, (.t 37))]), none, 2, []⟩, ⟨(some 39), (.nilc (.t 36)), none, 3, []⟩, ⟨none, (.store 8 (.t 39) (.t 38)), none, 4, []⟩])
  (.seq (.region [⟨(some 40), (.fadd 0 (.t 4)), none, 0, []⟩, ⟨(some 41), (.load false 1 (.t 40)), none, 1, []⟩, ⟨(some 42), (.load true 5 (.t 9)), none, 2, []⟩, ⟨(some 43), (.build [(.i .i64 0), (.i .u16 0), (.i .u8 0), (.i .u16 0), (.i .u32 0), (.s ⟨#[]⟩), (.s ⟨#[]⟩), (.b false), (.sl none 0 0 0)] [(0, 1, (.c (.i .i64 1))), (1, 1, (.t 41)), (2, 5, (.t 42))]), none, 3, []⟩, ⟨(some 44), (.bslice [(.i .u8 0)] [(0, 1, (.c (.i .u8 2)))] 1), none, 4, []⟩, ⟨none, (.store 9 (.t 6) (.t 43)), none, 5, []⟩, ⟨(some 7), (.mv (.t 44)), none, 6, []⟩, ⟨(some 8), (.mv (.c (.i .i64 0))), none, 7, []⟩])
  .ret)))))
def x62 : XFun := ⟨x62b, [(.cell 6 true 9), (.t 7), (.t 8)]⟩
theorem x62_ok : compF Tryd.prog 62 = some x62 := by kernel_rfl
/-- unicode/utf8.ValidString (169) -/
def x63b : XC := (.seq (.region [⟨(some 2), (.mv (.c (.b false))), none, 0, []⟩])
  (.seq (.block 0 (.loop (.seq (.seq (.region [⟨(some 7), (.mv (.t 0)), none, 0, []⟩, ⟨(some 8), (.lens (.t 7)), none, 1, []⟩, ⟨(some 9), (.bin .gtr (.t 8) (.c (.i .i64 0))), none, 2, []⟩])
  (.cond (.t 9) .skip (.exit 0)))
  (.block 1 (.seq (.region [⟨(some 10), (.mv (.t 0)), none, 0, []⟩, ⟨(some 11), (.idxs (.t 10) (.c (.i .i64 0))), none, 1, []⟩, ⟨(some 3), (.mv (.t 11)), none, 2, []⟩])
  (.seq (.seq (.region [⟨(some 12), (.mv (.t 3)), none, 0, []⟩, ⟨(some 13), (.bin .lss (.t 12) (.c (.i .u8 128))), none, 1, []⟩])
  (.cond (.t 13) (.seq (.region [⟨(some 14), (.mv (.t 0)), none, 0, []⟩, ⟨(some 15), (.slstr (.t 14) (some (.c (.i .i64 1))) none), none, 1, []⟩, ⟨(some 0), (.mv (.t 15)), none, 2, []⟩])
  (.seq (.seq (.region [⟨(some 16), (.mv (.t 0)), none, 0, []⟩, ⟨(some 17), (.lens (.t 16)), none, 1, []⟩, ⟨(some 18), (.bin .gtr (.t 17) (.c (.i .i64 8))), none, 2, []⟩, ⟨(some 19), (.mv (.t 18)), none, 3, []⟩, ⟨(some 20), (.mv (.t 0)), (some (19, true)), 4, []⟩, ⟨(some 21), (.call (.c (.fn (.func 70) [] [])) [(.t 20)]), (some (19, true)), 5, []⟩, ⟨(some 22), (.bin .and (.t 21) (.c (.i .u64 9259542123273814144))), (some (19, true)), 6, []⟩, ⟨(some 23), (.bin .eql (.t 22) (.c (.i .u64 0))), (some (19, true)), 7, []⟩, ⟨(some 24), (.pick (.t 19) (.t 23) (.c (.b false))), none, 8, []⟩])
  (.cond (.t 24) (.seq (.region [⟨(some 25), (.mv (.t 0)), none, 0, []⟩, ⟨(some 26), (.slstr (.t 25) (some (.c (.i .i64 8))) none), none, 1, []⟩, ⟨(some 0), (.mv (.t 26)), none, 2, []⟩])
  (.seq (.draw [⟨(some 27), (.mv (.t 0)), none, 0, []⟩, ⟨(some 28), (.lens (.t 27)), none, 1, [0]⟩, ⟨(some 29), (.bin .gtr (.t 28) (.c (.i .i64 16))), none, 2, [0, 1]⟩, ⟨(some 30), (.mv (.t 29)), none, 3, [0, 1, 2]⟩, ⟨(some 31), (.mv (.t 0)), (some (30, true)), 4, [0, 1, 2, 3]⟩, ⟨(some 33), (.mv (.t 0)), (some (30, true)), 6, [0, 1, 2, 3]⟩, ⟨(some 34), (.slstr (.t 33) (some (.c (.i .i64 8))) none), (some (30, true)), 7, [0, 1, 2, 3, 6]⟩, ⟨(some 32), (.call (.c (.fn (.func 70) [] [])) [(.t 31)]), (some (30, true)), 5, [0, 1, 2, 3, 4]⟩, ⟨(some 35), (.call (.c (.fn (.func 70) [] [])) [(.t 34)]), (some (30, true)), 8, [0, 1, 2, 3, 4, 5, 6, 7]⟩, ⟨(some 36), (.bin .or (.t 32) (.t 35)), (some (30, true)), 9, [0, 1, 2, 3, 4, 5, 6, 7, 8]⟩, ⟨(some 37), (.bin .and (.t 36) (.c (.i .u64 9259542123273814144))), (some (30, true)), 10, [0, 1, 2, 3, 4, 5, 6, 7, 8, 9]⟩, ⟨(some 38), (.bin .eql (.t 37) (.c (.i .u64 0))), (some (30, true)), 11, [0, 1, 2, 3, 4, 5, 6, 7, 8, 9, 10]⟩, ⟨(some 39), (.pick (.t 30) (.t 38) (.c (.b false))), none, 12, [0, 1, 2, 3, 4, 5, 6, 7, 8, 9, 10, 11]⟩])
  (.cond (.t 39) (.seq (.region [⟨(some 40), (.mv (.t 0)), none, 0, []⟩, ⟨(some 41), (.slstr (.t 40) (some (.c (.i .i64 16))) none), none, 1, []⟩, ⟨(some 0), (.mv (.t 41)), none, 2, []⟩])
  (.block 2 (.loop (.seq (.seq (.draw [⟨(some 42), (.mv (.t 0)), none, 0, []⟩, ⟨(some 43), (.lens (.t 42)), none, 1, [0]⟩, ⟨(some 44), (.bin .gtr (.t 43) (.c (.i .i64 32))), none, 2, [0, 1]⟩, ⟨(some 45), (.mv (.t 44)), none, 3, [0, 1, 2]⟩, ⟨(some 46), (.mv (.t 0)), (some (45, true)), 4, [0, 1, 2, 3]⟩, ⟨(some 48), (.mv (.t 0)), (some (45, true)), 6, [0, 1, 2, 3]⟩, ⟨(some 49), (.slstr (.t 48) (some (.c (.i .i64 8))) none), (some (45, true)), 7, [0, 1, 2, 3, 6]⟩, ⟨(some 52), (.mv (.t 0)), (some (45, true)), 10, [0, 1, 2, 3]⟩, ⟨(some 53), (.slstr (.t 52) (some (.c (.i .i64 16))) none), (some (45, true)), 11, [0, 1, 2, 3, 10]⟩, ⟨(some 55), (.mv (.t 0)), (some (45, true)), 13, [0, 1, 2, 3]⟩, ⟨(some 56), (.slstr (.t 55) (some (.c (.i .i64 24))) none), (some (45, true)), 14, [0, 1, 2, 3, 13]⟩, ⟨(some 47), (.call (.c (.fn (.func 70) [] [])) [(.t 46)]), (some (45, true)), 5, [0, 1, 2, 3, 4]⟩, ⟨(some 50), (.call (.c (.fn (.func 70) [] [])) [(.t 49)]), (some (45, true)), 8, [0, 1, 2, 3, 4, 5, 6, 7]⟩, ⟨(some 51), (.bin .or (.t 47) (.t 50)), (some (45, true)), 9, [0, 1, 2, 3, 4, 5, 6, 7, 8]⟩, ⟨(some 54), (.call (.c (.fn (.func 70) [] [])) [(.t 53)]), (some (45, true)), 12, [0, 1, 2, 3, 4, 5, 6, 7, 8, 10, 11]⟩, ⟨(some 57), (.call (.c (.fn (.func 70) [] [])) [(.t 56)]), (some (45, true)), 15, [0, 1, 2, 3, 4, 5, 6, 7, 8, 10, 11, 12, 13, 14]⟩, ⟨(some 58), (.bin .or (.t 54) (.t 57)), (some (45, true)), 16, [0, 1, 2, 3, 4, 5, 6, 7, 8, 10, 11, 12, 13, 14, 15]⟩, ⟨(some 59), (.bin .or (.t 51) (.t 58)), (some (45, true)), 17, [0, 1, 2, 3, 4, 5, 6, 7, 8, 9, 10, 11, 12, 13, 14, 15, 16]⟩, ⟨(some 60), (.bin .and (.t 59) (.c (.i .u64 9259542123273814144))), (some (45, true)), 18, [0, 1, 2, 3, 4, 5, 6, 7, 8, 9, 10, 11, 12, 13, 14, 15, 16, 17]⟩, ⟨(some 61), (.bin .eql (.t 60) (.c (.i .u64 0))), (some (45, true)), 19, [0, 1, 2, 3, 4, 5, 6, 7, 8, 9, 10, 11, 12, 13, 14, 15, 16, 17, 18]⟩, ⟨(some 62), (.pick (.t 45) (.t 61) (.c (.b false))), none, 20, [0, 1, 2, 3, 4, 5, 6, 7, 8, 9, 10, 11, 12, 13, 14, 15, 16, 17, 18, 19]⟩])
  (.cond (.t 62) .skip (.exit 2)))
  (.block 3 (.region [⟨(some 63), (.mv (.t 0)), none, 0, []⟩, ⟨(some 64), (.slstr (.t 63) (some (.c (.i .i64 32))) none), none, 1, []⟩, ⟨(some 0), (.mv (.t 64)), none, 2, []⟩])))))) .skip))) .skip))
  (.exit 1))) .skip))
  (.seq (.region [⟨(some 65), (.mv (.t 3)), none, 0, []⟩, ⟨(some 66), (.iarr 256 1 (.c (.p (some (0, 0)))) (.t 65)), none, 1, []⟩, ⟨(some 67), (.load false 1 (.t 66)), none, 2, []⟩, ⟨(some 4), (.mv (.t 67)), none, 3, []⟩])
  (.seq (.region [⟨(some 68), (.mv (.t 4)), none, 0, []⟩, ⟨(some 69), (.bin .and (.t 68) (.c (.i .u8 7))), none, 1, []⟩, ⟨(some 70), (.cint .i64 (.t 69)), none, 2, []⟩, ⟨(some 5), (.mv (.t 70)), none, 3, []⟩])
  (.seq (.region [⟨(some 71), (.mv (.t 4)), none, 0, []⟩, ⟨(some 72), (.bin .shr (.t 71) (.c (.i .u64 4))), none, 1, []⟩, ⟨(some 73), (.iarr 16 2 (.c (.p (some (1, 0)))) (.t 72)), none, 2, []⟩, ⟨(some 74), (.load true 2 (.t 73)), none, 3, []⟩, ⟨(some 6), (.alloc [(.i .u8 0), (.i .u8 0)]), none, 4, []⟩, ⟨none, (.store 2 (.t 6) (.t 74)), none, 5, []⟩])
  (.seq (.region [⟨(some 75), (.mv (.t 5)), none, 0, []⟩])
  (.block 4 (.seq (.region [⟨(some 77), (.bin .eql (.t 75) (.c (.i .i64 2))), none, 0, []⟩, ⟨(some 76), (.mv (.t 77)), none, 1, []⟩])
  (.cond (.t 76) (.seq (.seq (.draw [⟨(some 78), (.mv (.t 0)), none, 0, []⟩, ⟨(some 79), (.lens (.t 78)), none, 1, [0]⟩, ⟨(some 80), (.bin .lss (.t 79) (.c (.i .i64 2))), none, 2, [0, 1]⟩, ⟨(some 81), (.mv (.t 80)), none, 3, [0, 1, 2]⟩, ⟨(some 82), (.mv (.t 0)), (some (81, false)), 4, [0, 1, 2, 3]⟩, ⟨(some 83), (.idxs (.t 82) (.c (.i .i64 1))), (some (81, false)), 5, [0, 1, 2, 3, 4]⟩, ⟨(some 84), (.fadd 0 (.t 6)), (some (81, false)), 6, [0, 1, 2, 3]⟩, ⟨(some 85), (.load false 1 (.t 84)), (some (81, false)), 7, [0, 1, 2, 3, 6]⟩, ⟨(some 86), (.bin .lss (.t 83) (.t 85)), (some (81, false)), 8, [0, 1, 2, 3, 4, 5, 6, 7]⟩, ⟨(some 87), (.pick (.t 81) (.c (.b true)) (.t 86)), none, 9, [0, 1, 2, 3, 4, 5, 6, 7, 8]⟩, ⟨(some 88), (.mv (.t 87)), none, 10, [0, 1, 2, 3, 4, 5, 6, 7, 8, 9]⟩, ⟨(some 89), (.fadd 1 (.t 6)), (some (88, false)), 11, [0, 1, 2, 3, 4, 5, 6, 7, 8, 9, 10]⟩, ⟨(some 91), (.mv (.t 0)), (some (88, false)), 13, [0, 1, 2, 3, 4, 5, 6, 7, 8, 9, 10]⟩, ⟨(some 92), (.idxs (.t 91) (.c (.i .i64 1))), (some (88, false)), 14, [0, 1, 2, 3, 4, 5, 6, 7, 8, 9, 10, 13]⟩, ⟨(some 90), (.load false 1 (.t 89)), (some (88, false)), 12, [0, 1, 2, 3, 4, 5, 6, 7, 8, 9, 10, 11]⟩, ⟨(some 93), (.bin .lss (.t 90) (.t 92)), (some (88, false)), 15, [0, 1, 2, 3, 4, 5, 6, 7, 8, 9, 10, 11, 12, 13, 14]⟩, ⟨(some 94), (.pick (.t 88) (.c (.b true)) (.t 93)), none, 16, [0, 1, 2, 3, 4, 5, 6, 7, 8, 9, 10, 11, 12, 13, 14, 15]⟩])
  (.cond (.t 94) (.seq (.region [⟨(some 2), (.mv (.c (.b false))), none, 0, []⟩])
  .ret) .skip))
  (.region [⟨(some 95), (.mv (.t 0)), none, 0, []⟩, ⟨(some 96), (.slstr (.t 95) (some (.c (.i .i64 2))) none), none, 1, []⟩, ⟨(some 0), (.mv (.t 96)), none, 2, []⟩])) (.seq (.region [⟨(some 98), (.bin .eql (.t 75) (.c (.i .i64 3))), none, 0, []⟩, ⟨(some 97), (.mv (.t 98)), none, 1, []⟩])
  (.cond (.t 97) (.seq (.seq (.draw [⟨(some 99), (.mv (.t 0)), none, 0, []⟩, ⟨(some 100), (.lens (.t 99)), none, 1, [0]⟩, ⟨(some 101), (.bin .lss (.t 100) (.c (.i .i64 3))), none, 2, [0, 1]⟩, ⟨(some 102), (.mv (.t 101)), none, 3, [0, 1, 2]⟩, ⟨(some 103), (.mv (.t 0)), (some (102, false)), 4, [0, 1, 2, 3]⟩, ⟨(some 104), (.idxs (.t 103) (.c (.i .i64 1))), (some (102, false)), 5, [0, 1, 2, 3, 4]⟩, ⟨(some 105), (.fadd 0 (.t 6)), (some (102, false)), 6, [0, 1, 2, 3]⟩, ⟨(some 106), (.load false 1 (.t 105)), (some (102, false)), 7, [0, 1, 2, 3, 6]⟩, ⟨(some 107), (.bin .lss (.t 104) (.t 106)), (some (102, false)), 8, [0, 1, 2, 3, 4, 5, 6, 7]⟩, ⟨(some 108), (.pick (.t 102) (.c (.b true)) (.t 107)), none, 9, [0, 1, 2, 3, 4, 5, 6, 7, 8]⟩, ⟨(some 109), (.mv (.t 108)), none, 10, [0, 1, 2, 3, 4, 5, 6, 7, 8, 9]⟩, ⟨(some 110), (.fadd 1 (.t 6)), (some (109, false)), 11, [0, 1, 2, 3, 4, 5, 6, 7, 8, 9, 10]⟩, ⟨(some 112), (.mv (.t 0)), (some (109, false)), 13, [0, 1, 2, 3, 4, 5, 6, 7, 8, 9, 10]⟩, ⟨(some 113), (.idxs (.t 112) (.c (.i .i64 1))), (some (109, false)), 14, [0, 1, 2, 3, 4, 5, 6, 7, 8, 9, 10, 13]⟩, ⟨(some 111), (.load false 1 (.t 110)), (some (109, false)), 12, [0, 1, 2, 3, 4, 5, 6, 7, 8, 9, 10, 11]⟩, ⟨(some 114), (.bin .lss (.t 111) (.t 113)), (some (109, false)), 15, [0, 1, 2, 3, 4, 5, 6, 7, 8, 9, 10, 11, 12, 13, 14]⟩, ⟨(some 115), (.pick (.t 109) (.c (.b true)) (.t 114)), none, 16, [0, 1, 2, 3, 4, 5, 6, 7, 8, 9, 10, 11, 12, 13, 14, 15]⟩, ⟨(some 116), (.mv (.t 115)), none, 17, [0, 1, 2, 3, 4, 5, 6, 7, 8, 9, 10, 11, 12, 13, 14, 15, 16]⟩, ⟨(some 117), (.mv (.t 0)), (some (116, false)), 18, [0, 1, 2, 3, 4, 5, 6, 7, 8, 9, 10, 11, 12, 13, 14, 15, 16, 17]⟩, ⟨(some 118), (.idxs (.t 117) (.c (.i .i64 2))), (some (116, false)), 19, [0, 1, 2, 3, 4, 5, 6, 7, 8, 9, 10, 11, 12, 13, 14, 15, 16, 17, 18]⟩, ⟨(some 119), (.bin .lss (.t 118) (.c (.i .u8 128))), (some (116, false)), 20, [0, 1, 2, 3, 4, 5, 6, 7, 8, 9, 10, 11, 12, 13, 14, 15, 16, 17, 18, 19]⟩, ⟨(some 120), (.pick (.t 116) (.c (.b true)) (.t 119)), none, 21, [0, 1, 2, 3, 4, 5, 6, 7, 8, 9, 10, 11, 12, 13, 14, 15, 16, 17, 18, 19, 20]⟩, ⟨(some 121), (.mv (.t 120)), none, 22, [0, 1, 2, 3, 4, 5, 6, 7, 8, 9, 10, 11, 12, 13, 14, 15, 16, 17, 18, 19, 20, 21]⟩, ⟨(some 122), (.mv (.t 0)), (some (121, false)), 23, [0, 1, 2, 3, 4, 5, 6, 7, 8, 9, 10, 11, 12, 13, 14, 15, 16, 17, 18, 19, 20, 21, 22]⟩, ⟨(some 123), (.idxs (.t 122) (.c (.i .i64 2))), (some (121, false)), 24, [0, 1, 2, 3, 4, 5, 6, 7, 8, 9, 10, 11, 12, 13, 14, 15, 16, 17, 18, 19, 20, 21, 22, 23]⟩, ⟨(some 124), (.bin .lss (.c (.i .u8 191)) (.t 123)), (some (121, false)), 25, [0, 1, 2, 3, 4, 5, 6, 7, 8, 9, 10, 11, 12, 13, 14, 15, 16, 17, 18, 19, 20, 21, 22, 23, 24]⟩, ⟨(some 125), (.pick (.t 121) (.c (.b true)) (.t 124)), none, 26, [0, 1, 2, 3, 4, 5, 6, 7, 8, 9, 10, 11, 12, 13, 14, 15, 16, 17, 18, 19, 20, 21, 22, 23, 24, 25]⟩])
  (.cond (.t 125) (.seq (.region [⟨(some 2), (.mv (.c (.b false))), none, 0, []⟩])
  .ret) .skip))
  (.region [⟨(some 126), (.mv (.t 0)), none, 0, []⟩, ⟨(some 127), (.slstr (.t 126) (some (.c (.i .i64 3))) none), none, 1, []⟩, ⟨(some 0), (.mv (.t 127)), none, 2, []⟩])) (.seq (.region [⟨(some 129), (.bin .eql (.t 75) (.c (.i .i64 4))), none, 0, []⟩, ⟨(some 128), (.mv (.t 129)), none, 1, []⟩])
  (.cond (.t 128) (.seq (.seq (.draw [⟨(some 130), (.mv (.t 0)), none, 0, []⟩, ⟨(some 131), (.lens (.t 130)), none, 1, [0]⟩, ⟨(some 132), (.bin .lss (.t 131) (.c (.i .i64 4))), none, 2, [0, 1]⟩, ⟨(some 133), (.mv (.t 132)), none, 3, [0, 1, 2]⟩, ⟨(some 134), (.mv (.t 0)), (some (133, false)), 4, [0, 1, 2, 3]⟩, ⟨(some 135), (.idxs (.t 134) (.c (.i .i64 1))), (some (133, false)), 5, [0, 1, 2, 3, 4]⟩, ⟨(some 136), (.fadd 0 (.t 6)), (some (133, false)), 6, [0, 1, 2, 3]⟩, ⟨(some 137), (.load false 1 (.t 136)), (some (133, false)), 7, [0, 1, 2, 3, 6]⟩, ⟨(some 138), (.bin .lss (.t 135) (.t 137)), (some (133, false)), 8, [0, 1, 2, 3, 4, 5, 6, 7]⟩, ⟨(some 139), (.pick (.t 133) (.c (.b true)) (.t 138)), none, 9, [0, 1, 2, 3, 4, 5, 6, 7, 8]⟩, ⟨(some 140), (.mv (.t 139)), none, 10, [0, 1, 2, 3, 4, 5, 6, 7, 8, 9]⟩, ⟨(some 141), (.fadd 1 (.t 6)), (some (140, false)), 11, [0, 1, 2, 3, 4, 5, 6, 7, 8, 9, 10]⟩, ⟨(some 143), (.mv (.t 0)), (some (140, false)), 13, [0, 1, 2, 3, 4, 5, 6, 7, 8, 9, 10]⟩, ⟨(some 144), (.idxs (.t 143) (.c (.i .i64 1))), (some (140, false)), 14, [0, 1, 2, 3, 4, 5, 6, 7, 8, 9, 10, 13]⟩, ⟨(some 142), (.load false 1 (.t 141)), (some (140, false)), 12, [0, 1, 2, 3, 4, 5, 6, 7, 8, 9, 10, 11]⟩, ⟨(some 145), (.bin .lss (.t 142) (.t 144)), (some (140, false)), 15, [0, 1, 2, 3, 4, 5, 6, 7, 8, 9, 10, 11, 12, 13, 14]⟩, ⟨(some 146), (.pick (.t 140) (.c (.b true)) (.t 145)), none, 16, [0, 1, 2, 3, 4, 5, 6, 7, 8, 9, 10, 11, 12, 13, 14, 15]⟩, ⟨(some 147), (.mv (.t 146)), none, 17, [0, 1, 2, 3, 4, 5, 6, 7, 8, 9, 10, 11, 12, 13, 14, 15, 16]⟩, ⟨(some 148), (.mv (.t 0)), (some (147, false)), 18, [0, 1, 2, 3, 4, 5, 6, 7, 8, 9, 10, 11, 12, 13, 14, 15, 16, 17]⟩, ⟨(some 149), (.idxs (.t 148) (.c (.i .i64 2))), (some (147, false)), 19, [0, 1, 2, 3, 4, 5, 6, 7, 8, 9, 10, 11, 12, 13, 14, 15, 16, 17, 18]⟩, ⟨(some 150), (.bin .lss (.t 149) (.c (.i .u8 128))), (some (147, false)), 20, [0, 1, 2, 3, 4, 5, 6, 7, 8, 9, 10, 11, 12, 13, 14, 15, 16, 17, 18, 19]⟩, ⟨(some 151), (.pick (.t 147) (.c (.b true)) (.t 150)), none, 21, [0, 1, 2, 3, 4, 5, 6, 7, 8, 9, 10, 11, 12, 13, 14, 15, 16, 17, 18, 19, 20]⟩, ⟨(some 152), (.mv (.t 151)), none, 22, [0, 1, 2, 3, 4, 5, 6, 7, 8, 9, 10, 11, 12, 13, 14, 15, 16, 17, 18, 19, 20, 21]⟩, ⟨(some 153), (.mv (.t 0)), (some (152, false)), 23, [0, 1, 2, 3, 4, 5, 6, 7, 8, 9, 10, 11, 12, 13, 14, 15, 16, 17, 18, 19, 20, 21, 22]⟩, ⟨(some 154), (.idxs (.t 153) (.c (.i .i64 2))), (some (152, false)), 24, [0, 1, 2, 3, 4, 5, 6, 7, 8, 9, 10, 11, 12, 13, 14, 15, 16, 17, 18, 19, 20, 21, 22, 23]⟩, ⟨(some 155), (.bin .lss (.c (.i .u8 191)) (.t 154)), (some (152, false)), 25, [0, 1, 2, 3, 4, 5, 6, 7, 8, 9, 10, 11, 12, 13, 14, 15, 16, 17, 18, 19, 20, 21, 22, 23, 24]⟩, ⟨(some 156), (.pick (.t 152) (.c (.b true)) (.t 155)), none, 26, [0, 1, 2, 3, 4, 5, 6, 7, 8, 9, 10, 11, 12, 13, 14, 15, 16, 17, 18, 19, 20, 21, 22, 23, 24, 25]⟩, ⟨(some 157), (.mv (.t 156)), none, 27, [0, 1, 2, 3, 4, 5, 6, 7, 8, 9, 10, 11, 12, 13, 14, 15, 16, 17, 18, 19, 20, 21, 22, 23, 24, 25, 26]⟩, ⟨(some 158), (.mv (.t 0)), (some (157, false)), 28, [0, 1, 2, 3, 4, 5, 6, 7, 8, 9, 10, 11, 12, 13, 14, 15, 16, 17, 18, 19, 20, 21, 22, 23, 24, 25, 26, 27]⟩, ⟨(some 159), (.idxs (.t 158) (.c (.i .i64 3))), (some (157, false)), 29, [0, 1, 2, 3, 4, 5, 6, 7, 8, 9, 10, 11, 12, 13, 14, 15, 16, 17, 18, 19, 20, 21, 22, 23, 24, 25, 26, 27, 28]⟩, ⟨(some 160), (.bin .lss (.t 159) (.c (.i .u8 128))), (some (157, false)), 30, [0, 1, 2, 3, 4, 5, 6, 7, 8, 9, 10, 11, 12, 13, 14, 15, 16, 17, 18, 19, 20, 21, 22, 23, 24, 25, 26, 27, 28, 29]⟩, ⟨(some 161), (.pick (.t 157) (.c (.b true)) (.t 160)), none, 31, [0, 1, 2, 3, 4, 5, 6, 7, 8, 9, 10, 11, 12, 13, 14, 15, 16, 17, 18, 19, 20, 21, 22, 23, 24, 25, 26, 27, 28, 29, 30]⟩, ⟨(some 162), (.mv (.t 161)), none, 32, [0, 1, 2, 3, 4, 5, 6, 7, 8, 9, 10, 11, 12, 13, 14, 15, 16, 17, 18, 19, 20, 21, 22, 23, 24, 25, 26, 27, 28, 29, 30, 31]⟩, ⟨(some 163), (.mv (.t 0)), (some (162, false)), 33, [0, 1, 2, 3, 4, 5, 6, 7, 8, 9, 10, 11, 12, 13, 14, 15, 16, 17, 18, 19, 20, 21, 22, 23, 24, 25, 26, 27, 28, 29, 30, 31, 32]⟩, ⟨(some 164), (.idxs (.t 163) (.c (.i .i64 3))), (some (162, false)), 34, [0, 1, 2, 3, 4, 5, 6, 7, 8, 9, 10, 11, 12, 13, 14, 15, 16, 17, 18, 19, 20, 21, 22, 23, 24, 25, 26, 27, 28, 29, 30, 31, 32, 33]⟩, ⟨(some 165), (.bin .lss (.c (.i .u8 191)) (.t 164)), (some (162, false)), 35, [0, 1, 2, 3, 4, 5, 6, 7, 8, 9, 10, 11, 12, 13, 14, 15, 16, 17, 18, 19, 20, 21, 22, 23, 24, 25, 26, 27, 28, 29, 30, 31, 32, 33, 34]⟩, ⟨(some 166), (.pick (.t 162) (.c (.b true)) (.t 165)), none, 36, [0, 1, 2, 3, 4, 5, 6, 7, 8, 9, 10, 11, 12, 13, 14, 15, 16, 17, 18, 19, 20, 21, 22, 23, 24, 25, 26, 27, 28, 29, 30, 31, 32, 33, 34, 35]⟩])
  (.cond (.t 166) (.seq (.region [⟨(some 2), (.mv (.c (.b false))), none, 0, []⟩])
  .ret) .skip))
  (.region [⟨(some 167), (.mv (.t 0)), none, 0, []⟩, ⟨(some 168), (.slstr (.t 167) (some (.c (.i .i64 4))) none), none, 1, []⟩, ⟨(some 0), (.mv (.t 168)), none, 2, []⟩])) (.seq (.region [⟨(some 2), (.mv (.c (.b false))), none, 0, []⟩])
  .ret))))))))))))))))))
  (.seq (.region [⟨(some 2), (.mv (.c (.b true))), none, 0, []⟩])
  .ret)))
def x63 : XFun := ⟨x63b, [(.t 2)]⟩
theorem x63_ok : compF Tryd.prog 63 = some x63 := by kernel_rfl
/-- bollard/octet.with (20) -/
def x64b : XC := (.seq (.region [⟨(some 4), (.mv (.c (.sl none 0 0 0))), none, 0, []⟩])
  (.seq (.region [⟨(some 6), (.mv (.t 0)), none, 0, []⟩, ⟨(some 7), (.lenx (.t 6)), none, 1, []⟩, ⟨(some 8), (.mv (.t 0)), none, 2, []⟩, ⟨(some 9), (.lenx (.t 8)), none, 3, []⟩, ⟨(some 10), (.mv (.t 1)), none, 4, []⟩, ⟨(some 11), (.lenx (.t 10)), none, 5, []⟩, ⟨(some 12), (.bin .add (.t 9) (.t 11)), none, 6, []⟩, ⟨(some 13), (.mkslice [(.i .u8 0)] 1 (.t 7) (.t 12)), none, 7, []⟩, ⟨(some 5), (.mv (.t 13)), none, 8, []⟩])
  (.seq (.region [⟨(some 14), (.mv (.t 5)), none, 0, []⟩, ⟨(some 15), (.mv (.t 0)), none, 1, []⟩, ⟨(some 16), (.copy 1 (.t 14) (.t 15)), none, 2, []⟩])
  (.seq (.region [⟨(some 17), (.mv (.t 5)), none, 0, []⟩, ⟨(some 18), (.mv (.t 1)), none, 1, []⟩, ⟨(some 19), (.append 1 1 (.t 17) (.t 18)), none, 2, []⟩, ⟨(some 4), (.mv (.t 19)), none, 3, []⟩])
  .ret))))
def x64 : XFun := ⟨x64b, [(.t 4)]⟩
theorem x64_ok : compF Tryd.prog 64 = some x64 := by kernel_rfl
/-- bollard/bollardref18.valid (14) -/
def x65b : XC := (.seq (.region [⟨(some 2), (.mv (.c (.b false))), none, 0, []⟩])
  (.seq (.block 0 (.loop (.seq (.seq (.region [⟨(some 4), (.mv (.t 0)), none, 0, []⟩, ⟨(some 5), (.lens (.t 4)), none, 1, []⟩, ⟨(some 6), (.bin .gtr (.t 5) (.c (.i .i64 0))), none, 2, []⟩])
  (.cond (.t 6) .skip (.exit 0)))
  (.block 1 (.seq (.region [⟨(some 7), (.mv (.t 0)), none, 0, []⟩, ⟨(some 8), (.call (.c (.fn (.func 71) [] [])) [(.t 7)]), none, 1, []⟩, ⟨(some 3), (.mv (.t 8)), none, 2, []⟩])
  (.seq (.seq (.region [⟨(some 9), (.mv (.t 3)), none, 0, []⟩, ⟨(some 10), (.bin .eql (.t 9) (.c (.i .i64 0))), none, 1, []⟩])
  (.cond (.t 10) (.seq (.region [⟨(some 2), (.mv (.c (.b false))), none, 0, []⟩])
  .ret) .skip))
  (.region [⟨(some 11), (.mv (.t 0)), none, 0, []⟩, ⟨(some 12), (.mv (.t 3)), none, 1, []⟩, ⟨(some 13), (.slstr (.t 11) (some (.t 12)) none), none, 2, []⟩, ⟨(some 0), (.mv (.t 13)), none, 3, []⟩])))))))
  (.seq (.region [⟨(some 2), (.mv (.c (.b true))), none, 0, []⟩])
  .ret)))
def x65 : XFun := ⟨x65b, [(.t 2)]⟩
theorem x65_ok : compF Tryd.prog 65 = some x65 := by kernel_rfl
/-- (*bollard/octet.Reader).take (39) -/
def x66b : XC := (.seq (.region [⟨(some 4), (.mv (.c (.sl none 0 0 0))), none, 0, []⟩, ⟨(some 5), (.mv (.c (.i .i64 0))), none, 1, []⟩])
  (.seq (.block 0 (.seq (.region [⟨(some 8), (.mv (.t 0)), none, 0, []⟩, ⟨(some 9), (.nilq 0 false (.t 8)), none, 1, []⟩, ⟨(some 10), (.mv (.t 9)), none, 2, []⟩, ⟨(some 11), (.mv (.t 1)), (some (10, false)), 3, []⟩, ⟨(some 12), (.bin .lss (.t 11) (.c (.i .i64 0))), (some (10, false)), 4, []⟩, ⟨(some 13), (.pick (.t 10) (.c (.b true)) (.t 12)), none, 5, []⟩, ⟨(some 7), (.mv (.t 13)), none, 6, []⟩])
  (.cond (.t 7) (.seq (.region [⟨(some 4), (.mv (.c (.sl none 0 0 0))), none, 0, []⟩, ⟨(some 5), (.mv (.c (.i .i64 1))), none, 1, []⟩])
  .ret) (.seq (.region [⟨(some 15), (.mv (.t 1)), none, 0, []⟩, ⟨(some 16), (.mv (.t 0)), none, 1, []⟩, ⟨(some 17), (.nilc (.t 16)), none, 2, []⟩, ⟨(some 18), (.fadd 0 (.t 17)), none, 3, []⟩, ⟨(some 19), (.load false 1 (.t 18)), none, 4, []⟩, ⟨(some 20), (.lenx (.t 19)), none, 5, []⟩, ⟨(some 21), (.bin .gtr (.t 15) (.t 20)), none, 6, []⟩, ⟨(some 14), (.mv (.t 21)), none, 7, []⟩])
  (.cond (.t 14) (.seq (.region [⟨(some 4), (.mv (.c (.sl none 0 0 0))), none, 0, []⟩, ⟨(some 5), (.mv (.c (.i .i64 2))), none, 1, []⟩])
  .ret) .skip)))))
  (.seq (.region [⟨(some 22), (.mv (.t 0)), none, 0, []⟩, ⟨(some 23), (.nilc (.t 22)), none, 1, []⟩, ⟨(some 24), (.fadd 0 (.t 23)), none, 2, []⟩, ⟨(some 25), (.load false 1 (.t 24)), none, 3, []⟩, ⟨(some 26), (.mv (.t 1)), none, 4, []⟩, ⟨(some 27), (.mv (.t 1)), none, 5, []⟩, ⟨(some 28), (.slsl 1 (.t 25) none (some (.t 26)) (some (.t 27))), none, 6, []⟩, ⟨(some 6), (.mv (.t 28)), none, 7, []⟩])
  (.seq (.region [⟨(some 29), (.mv (.t 0)), none, 0, []⟩, ⟨(some 30), (.mv (.t 0)), none, 1, []⟩, ⟨(some 31), (.nilc (.t 30)), none, 2, []⟩, ⟨(some 32), (.fadd 0 (.t 31)), none, 3, []⟩, ⟨(some 33), (.load false 1 (.t 32)), none, 4, []⟩, ⟨(some 34), (.mv (.t 1)), none, 5, []⟩, ⟨(some 35), (.slsl 1 (.t 33) (some (.t 34)) none none), none, 6, []⟩, ⟨(some 36), (.nilc (.t 29)), none, 7, []⟩, ⟨(some 37), (.fadd 0 (.t 36)), none, 8, []⟩, ⟨none, (.store 1 (.t 37) (.t 35)), none, 9, []⟩])
  (.seq (.region [⟨(some 38), (.mv (.t 6)), none, 0, []⟩, ⟨(some 4), (.mv (.t 38)), none, 1, []⟩, ⟨(some 5), (.mv (.c (.i .i64 0))), none, 2, []⟩])
  .ret)))))
def x66 : XFun := ⟨x66b, [(.t 4), (.t 5)]⟩
theorem x66_ok : compF Tryd.prog 66 = some x66 := by kernel_rfl
/-- (*bollard/bollardref18.Table).own (13) -/
def x67b : XC := (.seq (.region [⟨(some 4), (.mv (.c (.b false))), none, 0, []⟩])
  (.seq (.region [⟨(some 5), (.mv (.t 1)), none, 0, []⟩, ⟨(some 6), (.bin .rem (.t 5) (.c (.i .i64 2))), none, 1, []⟩, ⟨(some 7), (.bin .eql (.t 6) (.c (.i .i64 0))), none, 2, []⟩, ⟨(some 8), (.mv (.t 0)), none, 3, []⟩, ⟨(some 9), (.nilc (.t 8)), none, 4, []⟩, ⟨(some 10), (.fadd 1 (.t 9)), none, 5, []⟩, ⟨(some 11), (.load false 1 (.t 10)), none, 6, []⟩, ⟨(some 12), (.beq false (.t 7) (.t 11)), none, 7, []⟩, ⟨(some 4), (.mv (.t 12)), none, 8, []⟩])
  .ret))
def x67 : XFun := ⟨x67b, [(.t 4)]⟩
theorem x67_ok : compF Tryd.prog 67 = some x67 := by kernel_rfl
/-- (*bollard/bollardref18.Table).opening (94) -/
def x68b : XC := (.seq (.region [⟨(some 3), (.box (.t 1)), none, 0, []⟩, ⟨(some 4), (.alloc [(.i .i64 0), (.i .u16 0), (.i .u8 0), (.i .u16 0), (.i .u32 0), (.s ⟨#[]⟩), (.s ⟨#[]⟩), (.b false), (.sl none 0 0 0)]), none, 1, []⟩, ⟨(some 5), (.mv (.c (.sl none 0 0 0))), none, 2, []⟩, ⟨(some 6), (.mv (.c (.i .i64 0))), none, 3, []⟩])
  (.seq (.region [⟨(some 10), (.fadd 0 (.t 3)), none, 0, []⟩, ⟨(some 11), (.load false 1 (.t 10)), none, 1, []⟩, ⟨(some 12), (.cint .i64 (.t 11)), none, 2, []⟩, ⟨(some 7), (.mv (.t 12)), none, 3, []⟩])
  (.seq (.seq (.region [⟨(some 13), (.fadd 3 (.t 3)), none, 0, []⟩, ⟨(some 14), (.load false 1 (.t 13)), none, 1, []⟩, ⟨(some 15), (.lenx (.t 14)), none, 2, []⟩, ⟨(some 16), (.bin .eql (.t 15) (.c (.i .i64 1))), none, 3, []⟩, ⟨(some 17), (.mv (.t 16)), none, 4, []⟩, ⟨(some 18), (.fadd 3 (.t 3)), (some (17, true)), 5, []⟩, ⟨(some 19), (.load false 1 (.t 18)), (some (17, true)), 6, []⟩, ⟨(some 20), (.isl 1 (.t 19) (.c (.i .i64 0))), (some (17, true)), 7, []⟩, ⟨(some 21), (.load false 1 (.t 20)), (some (17, true)), 8, []⟩, ⟨(some 22), (.bin .eql (.t 21) (.c (.i .u8 2))), (some (17, true)), 9, []⟩, ⟨(some 23), (.pick (.t 17) (.t 22) (.c (.b false))), none, 10, []⟩])
  (.cond (.t 23) (.seq (.seq (.region [⟨(some 24), (.mv (.t 0)), none, 0, []⟩, ⟨(some 25), (.nilc (.t 24)), none, 1, []⟩, ⟨(some 26), (.fadd 0 (.t 25)), none, 2, []⟩, ⟨(some 27), (.load false 1 (.t 26)), none, 3, []⟩, ⟨(some 28), (.mv (.t 7)), none, 4, []⟩, ⟨(some 29), (.isl 8 (.t 27) (.t 28)), none, 5, []⟩, ⟨(some 30), (.fadd 0 (.t 29)), none, 6, []⟩, ⟨(some 31), (.load false 1 (.t 30)), none, 7, []⟩])
  (.block 0 (.seq (.region [⟨(some 33), (.bin .eql (.t 31) (.c (.i .i64 0))), none, 0, []⟩, ⟨(some 32), (.mv (.t 33)), none, 1, []⟩])
  (.cond (.t 32) (.seq (.region [⟨(some 34), (.build [(.i .i64 0), (.i .u16 0), (.i .u8 0), (.i .u16 0), (.i .u32 0), (.s ⟨#[]⟩), (.s ⟨#[]⟩), (.b false), (.sl none 0 0 0)] []), none, 0, []⟩, ⟨none, (.store 9 (.t 4) (.t 34)), none, 1, []⟩, ⟨(some 5), (.mv (.c (.sl none 0 0 0))), none, 2, []⟩, ⟨(some 6), (.mv (.c (.i .i64 8))), none, 3, []⟩])
  .ret) (.seq (.region [⟨(some 36), (.bin .eql (.t 31) (.c (.i .i64 1))), none, 0, []⟩, ⟨(some 35), (.mv (.t 36)), none, 1, []⟩])
  (.cond (.t 35) (.seq (.region [⟨(some 37), (.mv (.t 0)), none, 0, []⟩, ⟨(some 38), (.nilc (.t 37)), none, 1, []⟩, ⟨(some 39), (.fadd 0 (.t 38)), none, 2, []⟩, ⟨(some 40), (.load false 1 (.t 39)), none, 3, []⟩, ⟨(some 41), (.mv (.t 7)), none, 4, []⟩, ⟨(some 42), (.isl 8 (.t 40) (.t 41)), none, 5, []⟩, ⟨(some 43), (.fadd 0 (.t 42)), none, 6, []⟩, ⟨none, (.store 1 (.t 43) (.c (.i .i64 2))), none, 7, []⟩])
  (.seq (.draw [⟨(some 44), (.fadd 0 (.t 3)), none, 0, []⟩, ⟨(some 46), (.mv (.t 0)), none, 2, []⟩, ⟨(some 47), (.nilc (.t 46)), none, 3, [2]⟩, ⟨(some 48), (.fadd 0 (.t 47)), none, 4, [2, 3]⟩, ⟨(some 50), (.mv (.t 7)), none, 6, []⟩, ⟨(some 45), (.load false 1 (.t 44)), none, 1, [0]⟩, ⟨(some 49), (.load false 1 (.t 48)), none, 5, [2, 3, 4]⟩, ⟨(some 51), (.isl 8 (.t 49) (.t 50)), none, 7, [2, 3, 4, 5, 6]⟩, ⟨(some 52), (.fadd 1 (.t 51)), none, 8, [2, 3, 4, 5, 6, 7]⟩, ⟨(some 53), (.load true 5 (.t 52)), none, 9, [2, 3, 4, 5, 6, 7, 8]⟩, ⟨(some 54), (.build [(.i .i64 0), (.i .u16 0), (.i .u8 0), (.i .u16 0), (.i .u32 0), (.s ⟨#[]⟩), (.s ⟨#[]⟩), (.b false), (.sl none 0 0 0)] [(0, 1, (.c (.i .i64 2))), (1, 1, (.t 45)), (2, 5, (.t 53))]), none, 10, [0, 1, 2, 3, 4, 5, 6, 7, 8, 9]⟩, ⟨none, (.store 9 (.t 4) (.t 54)), none, 11, [0, 1, 2, 3, 4, 5, 6, 7, 8, 9, 10]⟩, ⟨(some 5), (.mv (.c (.sl none 0 0 0))), none, 12, [0, 1, 2, 3, 4, 5, 6, 7, 8, 9, 10, 11]⟩, ⟨(some 6), (.mv (.c (.i .i64 0))), none, 13, [0, 1, 2, 3, 4, 5, 6, 7, 8, 9, 10, 11, 12]⟩])
  .ret)) .skip))))))
  (.seq (.region [⟨(some 55), (.build [(.i .i64 0), (.i .u16 0), (.i .u8 0), (.i .u16 0), (.i .u32 0), (.s ⟨#[]⟩), (.s ⟨#[]⟩), (.b false), (.sl none 0 0 0)] []), none, 0, []⟩, ⟨none, (.store 9 (.t 4) (.t 55)), none, 1, []⟩, ⟨(some 5), (.mv (.c (.sl none 0 0 0))), none, 2, []⟩, ⟨(some 6), (.mv (.c (.i .i64 0))), none, 3, []⟩])
  .ret)) .skip))
  (.seq (.region [⟨(some 57), (.fadd 3 (.t 3)), none, 0, []⟩, ⟨(some 58), (.load false 1 (.t 57)), none, 1, []⟩, ⟨(some 59), (.call (.c (.fn (.func 17) [] [])) [(.t 58)]), none, 2, []⟩, ⟨(some 56), (.mv (.t 59)), none, 3, []⟩, ⟨(some 60), (.ext (.t 56) 0), none, 4, []⟩, ⟨(some 61), (.ext (.t 56) 1), none, 5, []⟩, ⟨(some 8), (.alloc [(.i .u8 0), (.i .u16 0), (.i .u32 0), (.s ⟨#[]⟩), (.s ⟨#[]⟩)]), none, 6, []⟩, ⟨none, (.store 5 (.t 8) (.t 60)), none, 7, []⟩, ⟨(some 9), (.mv (.t 61)), none, 8, []⟩])
  (.seq (.seq (.region [⟨(some 62), (.mv (.t 9)), none, 0, []⟩, ⟨(some 63), (.bin .neq (.t 62) (.c (.i .i64 0))), none, 1, []⟩])
  (.cond (.t 63) (.seq (.region [⟨(some 64), (.build [(.i .i64 0), (.i .u16 0), (.i .u8 0), (.i .u16 0), (.i .u32 0), (.s ⟨#[]⟩), (.s ⟨#[]⟩), (.b false), (.sl none 0 0 0)] []), none, 0, []⟩, ⟨(some 65), (.mv (.t 9)), none, 1, []⟩, ⟨none, (.store 9 (.t 4) (.t 64)), none, 2, []⟩, ⟨(some 5), (.mv (.c (.sl none 0 0 0))), none, 3, []⟩, ⟨(some 6), (.mv (.t 65)), none, 4, []⟩])
  .ret) .skip))
  (.seq (.seq (.region [⟨(some 66), (.mv (.t 0)), none, 0, []⟩, ⟨(some 67), (.nilc (.t 66)), none, 1, []⟩, ⟨(some 68), (.fadd 0 (.t 67)), none, 2, []⟩, ⟨(some 69), (.load false 1 (.t 68)), none, 3, []⟩, ⟨(some 70), (.mv (.t 7)), none, 4, []⟩, ⟨(some 71), (.isl 8 (.t 69) (.t 70)), none, 5, []⟩, ⟨(some 72), (.fadd 0 (.t 71)), none, 6, []⟩, ⟨(some 73), (.load false 1 (.t 72)), none, 7, []⟩, ⟨(some 74), (.bin .neq (.t 73) (.c (.i .i64 0))), none, 8, []⟩, ⟨(some 75), (.mv (.t 74)), none, 9, []⟩, ⟨(some 76), (.mv (.t 0)), (some (75, false)), 10, []⟩, ⟨(some 77), (.mv (.t 7)), (some (75, false)), 11, []⟩, ⟨(some 78), (.call (.c (.fn (.func 67) [] [])) [(.t 76), (.t 77)]), (some (75, false)), 12, []⟩, ⟨(some 79), (.pick (.t 75) (.c (.b true)) (.t 78)), none, 13, []⟩])
  (.cond (.t 79) (.seq (.region [⟨(some 80), (.build [(.i .i64 0), (.i .u16 0), (.i .u8 0), (.i .u16 0), (.i .u32 0), (.s ⟨#[]⟩), (.s ⟨#[]⟩), (.b false), (.sl none 0 0 0)] []), none, 0, []⟩, ⟨none, (.store 9 (.t 4) (.t 80)), none, 1, []⟩, ⟨(some 5), (.mv (.c (.sl none 0 0 0))), none, 2, []⟩, ⟨(some 6), (.mv (.c (.i .i64 8))), none, 3, []⟩])
  .ret) .skip))
  (.seq (.draw [⟨(some 81), (.mv (.t 0)), none, 0, []⟩, ⟨(some 82), (.nilc (.t 81)), none, 1, [0]⟩, ⟨(some 83), (.fadd 0 (.t 82)), none, 2, [0, 1]⟩, ⟨(some 85), (.mv (.t 7)), none, 4, []⟩, ⟨(some 84), (.load false 1 (.t 83)), none, 3, [0, 1, 2]⟩, ⟨(some 86), (.load true 5 (.t 8)), none, 5, []⟩, ⟨(some 87), (.build [(.i .i64 0), (.i .u8 0), (.i .u16 0), (.i .u32 0), (.s ⟨#[]⟩), (.s ⟨#[]⟩), (.b false), (.b false)] [(0, 1, (.c (.i .i64 2))), (1, 5, (.t 86))]), none, 6, [5]⟩, ⟨(some 88), (.isl 8 (.t 84) (.t 85)), none, 7, [0, 1, 2, 3, 4, 5, 6]⟩, ⟨none, (.store 8 (.t 88) (.t 87)), none, 8, [0, 1, 2, 3, 4, 5, 6, 7]⟩])
  (.seq (.region [⟨(some 89), (.fadd 0 (.t 3)), none, 0, []⟩, ⟨(some 90), (.load false 1 (.t 89)), none, 1, []⟩, ⟨(some 91), (.load true 5 (.t 8)), none, 2, []⟩, ⟨(some 92), (.build [(.i .i64 0), (.i .u16 0), (.i .u8 0), (.i .u16 0), (.i .u32 0), (.s ⟨#[]⟩), (.s ⟨#[]⟩), (.b false), (.sl none 0 0 0)] [(0, 1, (.c (.i .i64 1))), (1, 1, (.t 90)), (2, 5, (.t 91))]), none, 3, []⟩, ⟨(some 93), (.bslice [(.i .u8 0)] [(0, 1, (.c (.i .u8 2)))] 1), none, 4, []⟩, ⟨none, (.store 9 (.t 4) (.t 92)), none, 5, []⟩, ⟨(some 5), (.mv (.t 93)), none, 6, []⟩, ⟨(some 6), (.mv (.c (.i .i64 0))), none, 7, []⟩])
  .ret))))))))
def x68 : XFun := ⟨x68b, [(.cell 4 true 9), (.t 5), (.t 6)]⟩
theorem x68_ok : compF Tryd.prog 68 = some x68 := by kernel_rfl
/-- (*bollard/bollardref18.Table).free (29) -/
def x69b : XC := (.seq (.region [⟨(some 4), (.mv (.t 0)), none, 0, []⟩, ⟨(some 5), (.nilc (.t 4)), none, 1, []⟩, ⟨(some 6), (.fadd 0 (.t 5)), none, 2, []⟩, ⟨(some 7), (.load false 1 (.t 6)), none, 3, []⟩, ⟨(some 8), (.mv (.t 1)), none, 4, []⟩, ⟨(some 9), (.isl 8 (.t 7) (.t 8)), none, 5, []⟩, ⟨(some 10), (.fadd 6 (.t 9)), none, 6, []⟩, ⟨(some 11), (.load false 1 (.t 10)), none, 7, []⟩, ⟨(some 12), (.mv (.t 11)), none, 8, []⟩, ⟨(some 13), (.mv (.t 0)), (some (12, true)), 9, []⟩, ⟨(some 14), (.nilc (.t 13)), (some (12, true)), 10, []⟩, ⟨(some 15), (.fadd 0 (.t 14)), (some (12, true)), 11, []⟩, ⟨(some 16), (.load false 1 (.t 15)), (some (12, true)), 12, []⟩, ⟨(some 17), (.mv (.t 1)), (some (12, true)), 13, []⟩, ⟨(some 18), (.isl 8 (.t 16) (.t 17)), (some (12, true)), 14, []⟩, ⟨(some 19), (.fadd 7 (.t 18)), (some (12, true)), 15, []⟩, ⟨(some 20), (.load false 1 (.t 19)), (some (12, true)), 16, []⟩, ⟨(some 21), (.pick (.t 12) (.t 20) (.c (.b false))), none, 17, []⟩])
  (.cond (.t 21) (.region [⟨(some 22), (.mv (.t 0)), none, 0, []⟩, ⟨(some 23), (.nilc (.t 22)), none, 1, []⟩, ⟨(some 24), (.fadd 0 (.t 23)), none, 2, []⟩, ⟨(some 25), (.load false 1 (.t 24)), none, 3, []⟩, ⟨(some 26), (.mv (.t 1)), none, 4, []⟩, ⟨(some 27), (.build [(.i .i64 0), (.i .u8 0), (.i .u16 0), (.i .u32 0), (.s ⟨#[]⟩), (.s ⟨#[]⟩), (.b false), (.b false)] []), none, 5, []⟩, ⟨(some 28), (.isl 8 (.t 25) (.t 26)), none, 6, []⟩, ⟨none, (.store 8 (.t 28) (.t 27)), none, 7, []⟩]) .skip))
def x69 : XFun := ⟨x69b, []⟩
theorem x69_ok : compF Tryd.prog 69 = some x69 := by kernel_rfl
/-- unicode/utf8.word[string] (59) -/
def x70b : XC := (.seq (.region [⟨(some 2), (.mv (.c (.i .u64 0))), none, 0, []⟩])
  (.seq (.cond (.c (.b false)) (.seq (.draw [⟨(some 3), (.mv (.t 0)), none, 0, []⟩, ⟨(some 4), (.idxs (.t 3) (.c (.i .i64 0))), none, 1, [0]⟩, ⟨(some 5), (.cint .u64 (.t 4)), none, 2, [0, 1]⟩, ⟨(some 6), (.mv (.t 0)), none, 3, []⟩, ⟨(some 7), (.idxs (.t 6) (.c (.i .i64 1))), none, 4, [3]⟩, ⟨(some 8), (.cint .u64 (.t 7)), none, 5, [3, 4]⟩, ⟨(some 9), (.bin .shl (.t 8) (.c (.i .u64 8))), none, 6, [3, 4, 5]⟩, ⟨(some 10), (.bin .or (.t 5) (.t 9)), none, 7, [0, 1, 2, 3, 4, 5, 6]⟩, ⟨(some 11), (.mv (.t 0)), none, 8, []⟩, ⟨(some 12), (.idxs (.t 11) (.c (.i .i64 2))), none, 9, [8]⟩, ⟨(some 13), (.cint .u64 (.t 12)), none, 10, [8, 9]⟩, ⟨(some 14), (.bin .shl (.t 13) (.c (.i .u64 16))), none, 11, [8, 9, 10]⟩, ⟨(some 15), (.bin .or (.t 10) (.t 14)), none, 12, [0, 1, 2, 3, 4, 5, 6, 7, 8, 9, 10, 11]⟩, ⟨(some 16), (.mv (.t 0)), none, 13, []⟩, ⟨(some 17), (.idxs (.t 16) (.c (.i .i64 3))), none, 14, [13]⟩, ⟨(some 18), (.cint .u64 (.t 17)), none, 15, [13, 14]⟩, ⟨(some 19), (.bin .shl (.t 18) (.c (.i .u64 24))), none, 16, [13, 14, 15]⟩, ⟨(some 20), (.bin .or (.t 15) (.t 19)), none, 17, [0, 1, 2, 3, 4, 5, 6, 7, 8, 9, 10, 11, 12, 13, 14, 15, 16]⟩, ⟨(some 2), (.mv (.t 20)), none, 18, [0, 1, 2, 3, 4, 5, 6, 7, 8, 9, 10, 11, 12, 13, 14, 15, 16, 17]⟩])
  .ret) .skip)
  (.seq (.draw [⟨(some 21), (.mv (.t 0)), none, 0, []⟩, ⟨(some 22), (.idxs (.t 21) (.c (.i .i64 0))), none, 1, [0]⟩, ⟨(some 23), (.cint .u64 (.t 22)), none, 2, [0, 1]⟩, ⟨(some 24), (.mv (.t 0)), none, 3, []⟩, ⟨(some 25), (.idxs (.t 24) (.c (.i .i64 1))), none, 4, [3]⟩, ⟨(some 26), (.cint .u64 (.t 25)), none, 5, [3, 4]⟩, ⟨(some 27), (.bin .shl (.t 26) (.c (.i .u64 8))), none, 6, [3, 4, 5]⟩, ⟨(some 28), (.bin .or (.t 23) (.t 27)), none, 7, [0, 1, 2, 3, 4, 5, 6]⟩, ⟨(some 29), (.mv (.t 0)), none, 8, []⟩, ⟨(some 30), (.idxs (.t 29) (.c (.i .i64 2))), none, 9, [8]⟩, ⟨(some 31), (.cint .u64 (.t 30)), none, 10, [8, 9]⟩, ⟨(some 32), (.bin .shl (.t 31) (.c (.i .u64 16))), none, 11, [8, 9, 10]⟩, ⟨(some 33), (.bin .or (.t 28) (.t 32)), none, 12, [0, 1, 2, 3, 4, 5, 6, 7, 8, 9, 10, 11]⟩, ⟨(some 34), (.mv (.t 0)), none, 13, []⟩, ⟨(some 35), (.idxs (.t 34) (.c (.i .i64 3))), none, 14, [13]⟩, ⟨(some 36), (.cint .u64 (.t 35)), none, 15, [13, 14]⟩, ⟨(some 37), (.bin .shl (.t 36) (.c (.i .u64 24))), none, 16, [13, 14, 15]⟩, ⟨(some 38), (.bin .or (.t 33) (.t 37)), none, 17, [0, 1, 2, 3, 4, 5, 6, 7, 8, 9, 10, 11, 12, 13, 14, 15, 16]⟩, ⟨(some 39), (.mv (.t 0)), none, 18, []⟩, ⟨(some 40), (.idxs (.t 39) (.c (.i .i64 4))), none, 19, [18]⟩, ⟨(some 41), (.cint .u64 (.t 40)), none, 20, [18, 19]⟩, ⟨(some 42), (.bin .shl (.t 41) (.c (.i .u64 32))), none, 21, [18, 19, 20]⟩, ⟨(some 43), (.bin .or (.t 38) (.t 42)), none, 22, [0, 1, 2, 3, 4, 5, 6, 7, 8, 9, 10, 11, 12, 13, 14, 15, 16, 17, 18, 19, 20, 21]⟩, ⟨(some 44), (.mv (.t 0)), none, 23, []⟩, ⟨(some 45), (.idxs (.t 44) (.c (.i .i64 5))), none, 24, [23]⟩, ⟨(some 46), (.cint .u64 (.t 45)), none, 25, [23, 24]⟩, ⟨(some 47), (.bin .shl (.t 46) (.c (.i .u64 40))), none, 26, [23, 24, 25]⟩, ⟨(some 48), (.bin .or (.t 43) (.t 47)), none, 27, [0, 1, 2, 3, 4, 5, 6, 7, 8, 9, 10, 11, 12, 13, 14, 15, 16, 17, 18, 19, 20, 21, 22, 23, 24, 25, 26]⟩, ⟨(some 49), (.mv (.t 0)), none, 28, []⟩, ⟨(some 50), (.idxs (.t 49) (.c (.i .i64 6))), none, 29, [28]⟩, ⟨(some 51), (.cint .u64 (.t 50)), none, 30, [28, 29]⟩, ⟨(some 52), (.bin .shl (.t 51) (.c (.i .u64 48))), none, 31, [28, 29, 30]⟩, ⟨(some 53), (.bin .or (.t 48) (.t 52)), none, 32, [0, 1, 2, 3, 4, 5, 6, 7, 8, 9, 10, 11, 12, 13, 14, 15, 16, 17, 18, 19, 20, 21, 22, 23, 24, 25, 26, 27, 28, 29, 30, 31]⟩, ⟨(some 54), (.mv (.t 0)), none, 33, []⟩, ⟨(some 55), (.idxs (.t 54) (.c (.i .i64 7))), none, 34, [33]⟩, ⟨(some 56), (.cint .u64 (.t 55)), none, 35, [33, 34]⟩, ⟨(some 57), (.bin .shl (.t 56) (.c (.i .u64 56))), none, 36, [33, 34, 35]⟩, ⟨(some 58), (.bin .or (.t 53) (.t 57)), none, 37, [0, 1, 2, 3, 4, 5, 6, 7, 8, 9, 10, 11, 12, 13, 14, 15, 16, 17, 18, 19, 20, 21, 22, 23, 24, 25, 26, 27, 28, 29, 30, 31, 32, 33, 34, 35, 36]⟩, ⟨(some 2), (.mv (.t 58)), none, 38, [0, 1, 2, 3, 4, 5, 6, 7, 8, 9, 10, 11, 12, 13, 14, 15, 16, 17, 18, 19, 20, 21, 22, 23, 24, 25, 26, 27, 28, 29, 30, 31, 32, 33, 34, 35, 36, 37]⟩])
  .ret)))
def x70 : XFun := ⟨x70b, [(.t 2)]⟩
theorem x70_ok : compF Tryd.prog 70 = some x70 := by kernel_rfl
/-- bollard/bollardref18.one (64) -/
def x71b : XC := (.seq (.region [⟨(some 2), (.mv (.c (.i .i64 0))), none, 0, []⟩])
  (.seq (.block 0 (.seq (.region [⟨(some 4), (.mv (.t 0)), none, 0, []⟩, ⟨(some 5), (.call (.c (.fn (.func 72) [] [])) [(.t 4), (.c (.i .i64 0)), (.c (.i .u8 0)), (.c (.i .u8 127))]), none, 1, []⟩, ⟨(some 3), (.mv (.t 5)), none, 2, []⟩])
  (.cond (.t 3) (.seq (.region [⟨(some 2), (.mv (.c (.i .i64 1))), none, 0, []⟩])
  .ret) (.seq (.region [⟨(some 7), (.mv (.t 0)), none, 0, []⟩, ⟨(some 8), (.call (.c (.fn (.func 72) [] [])) [(.t 7), (.c (.i .i64 0)), (.c (.i .u8 194)), (.c (.i .u8 223))]), none, 1, []⟩, ⟨(some 9), (.mv (.t 8)), none, 2, []⟩, ⟨(some 10), (.mv (.t 0)), (some (9, true)), 3, []⟩, ⟨(some 11), (.call (.c (.fn (.func 72) [] [])) [(.t 10), (.c (.i .i64 1)), (.c (.i .u8 128)), (.c (.i .u8 191))]), (some (9, true)), 4, []⟩, ⟨(some 12), (.pick (.t 9) (.t 11) (.c (.b false))), none, 5, []⟩, ⟨(some 6), (.mv (.t 12)), none, 6, []⟩])
  (.cond (.t 6) (.seq (.region [⟨(some 2), (.mv (.c (.i .i64 2))), none, 0, []⟩])
  .ret) (.seq (.region [⟨(some 14), (.mv (.t 0)), none, 0, []⟩, ⟨(some 15), (.call (.c (.fn (.func 72) [] [])) [(.t 14), (.c (.i .i64 2)), (.c (.i .u8 128)), (.c (.i .u8 191))]), none, 1, []⟩, ⟨(some 16), (.unx .not (.t 15)), none, 2, []⟩, ⟨(some 13), (.mv (.t 16)), none, 3, []⟩])
  (.cond (.t 13) (.seq (.region [⟨(some 2), (.mv (.c (.i .i64 0))), none, 0, []⟩])
  .ret) (.seq (.seq (.region [⟨(some 18), (.mv (.t 0)), none, 0, []⟩, ⟨(some 19), (.call (.c (.fn (.func 72) [] [])) [(.t 18), (.c (.i .i64 0)), (.c (.i .u8 224)), (.c (.i .u8 224))]), none, 1, []⟩, ⟨(some 20), (.mv (.t 19)), none, 2, []⟩, ⟨(some 21), (.mv (.t 0)), (some (20, true)), 3, []⟩, ⟨(some 22), (.call (.c (.fn (.func 72) [] [])) [(.t 21), (.c (.i .i64 1)), (.c (.i .u8 160)), (.c (.i .u8 191))]), (some (20, true)), 4, []⟩, ⟨(some 23), (.pick (.t 20) (.t 22) (.c (.b false))), none, 5, []⟩, ⟨(some 17), (.mv (.t 23)), none, 6, []⟩])
  (.cond (.t 17) .skip (.region [⟨(some 24), (.mv (.t 0)), none, 0, []⟩, ⟨(some 25), (.call (.c (.fn (.func 72) [] [])) [(.t 24), (.c (.i .i64 0)), (.c (.i .u8 237)), (.c (.i .u8 237))]), none, 1, []⟩, ⟨(some 26), (.mv (.t 25)), none, 2, []⟩, ⟨(some 27), (.mv (.t 0)), (some (26, true)), 3, []⟩, ⟨(some 28), (.call (.c (.fn (.func 72) [] [])) [(.t 27), (.c (.i .i64 1)), (.c (.i .u8 128)), (.c (.i .u8 159))]), (some (26, true)), 4, []⟩, ⟨(some 29), (.pick (.t 26) (.t 28) (.c (.b false))), none, 5, []⟩, ⟨(some 17), (.mv (.t 29)), none, 6, []⟩])))
  (.cond (.t 17) (.seq (.region [⟨(some 2), (.mv (.c (.i .i64 3))), none, 0, []⟩])
  .ret) (.seq (.region [⟨(some 31), (.mv (.t 0)), none, 0, []⟩, ⟨(some 32), (.call (.c (.fn (.func 72) [] [])) [(.t 31), (.c (.i .i64 0)), (.c (.i .u8 225)), (.c (.i .u8 236))]), none, 1, []⟩, ⟨(some 33), (.mv (.t 32)), none, 2, []⟩, ⟨(some 34), (.mv (.t 0)), (some (33, false)), 3, []⟩, ⟨(some 35), (.call (.c (.fn (.func 72) [] [])) [(.t 34), (.c (.i .i64 0)), (.c (.i .u8 238)), (.c (.i .u8 239))]), (some (33, false)), 4, []⟩, ⟨(some 36), (.pick (.t 33) (.c (.b true)) (.t 35)), none, 5, []⟩, ⟨(some 37), (.mv (.t 36)), none, 6, []⟩, ⟨(some 38), (.mv (.t 0)), (some (37, true)), 7, []⟩, ⟨(some 39), (.call (.c (.fn (.func 72) [] [])) [(.t 38), (.c (.i .i64 1)), (.c (.i .u8 128)), (.c (.i .u8 191))]), (some (37, true)), 8, []⟩, ⟨(some 40), (.pick (.t 37) (.t 39) (.c (.b false))), none, 9, []⟩, ⟨(some 30), (.mv (.t 40)), none, 10, []⟩])
  (.cond (.t 30) (.seq (.region [⟨(some 2), (.mv (.c (.i .i64 3))), none, 0, []⟩])
  .ret) (.seq (.region [⟨(some 42), (.mv (.t 0)), none, 0, []⟩, ⟨(some 43), (.call (.c (.fn (.func 72) [] [])) [(.t 42), (.c (.i .i64 3)), (.c (.i .u8 128)), (.c (.i .u8 191))]), none, 1, []⟩, ⟨(some 44), (.unx .not (.t 43)), none, 2, []⟩, ⟨(some 41), (.mv (.t 44)), none, 3, []⟩])
  (.cond (.t 41) (.seq (.region [⟨(some 2), (.mv (.c (.i .i64 0))), none, 0, []⟩])
  .ret) (.seq (.seq (.region [⟨(some 46), (.mv (.t 0)), none, 0, []⟩, ⟨(some 47), (.call (.c (.fn (.func 72) [] [])) [(.t 46), (.c (.i .i64 0)), (.c (.i .u8 240)), (.c (.i .u8 240))]), none, 1, []⟩, ⟨(some 48), (.mv (.t 47)), none, 2, []⟩, ⟨(some 49), (.mv (.t 0)), (some (48, true)), 3, []⟩, ⟨(some 50), (.call (.c (.fn (.func 72) [] [])) [(.t 49), (.c (.i .i64 1)), (.c (.i .u8 144)), (.c (.i .u8 191))]), (some (48, true)), 4, []⟩, ⟨(some 51), (.pick (.t 48) (.t 50) (.c (.b false))), none, 5, []⟩, ⟨(some 45), (.mv (.t 51)), none, 6, []⟩])
  (.cond (.t 45) .skip (.seq (.region [⟨(some 52), (.mv (.t 0)), none, 0, []⟩, ⟨(some 53), (.call (.c (.fn (.func 72) [] [])) [(.t 52), (.c (.i .i64 0)), (.c (.i .u8 241)), (.c (.i .u8 243))]), none, 1, []⟩, ⟨(some 54), (.mv (.t 53)), none, 2, []⟩, ⟨(some 55), (.mv (.t 0)), (some (54, true)), 3, []⟩, ⟨(some 56), (.call (.c (.fn (.func 72) [] [])) [(.t 55), (.c (.i .i64 1)), (.c (.i .u8 128)), (.c (.i .u8 191))]), (some (54, true)), 4, []⟩, ⟨(some 57), (.pick (.t 54) (.t 56) (.c (.b false))), none, 5, []⟩, ⟨(some 45), (.mv (.t 57)), none, 6, []⟩])
  (.cond (.t 45) .skip (.region [⟨(some 58), (.mv (.t 0)), none, 0, []⟩, ⟨(some 59), (.call (.c (.fn (.func 72) [] [])) [(.t 58), (.c (.i .i64 0)), (.c (.i .u8 244)), (.c (.i .u8 244))]), none, 1, []⟩, ⟨(some 60), (.mv (.t 59)), none, 2, []⟩, ⟨(some 61), (.mv (.t 0)), (some (60, true)), 3, []⟩, ⟨(some 62), (.call (.c (.fn (.func 72) [] [])) [(.t 61), (.c (.i .i64 1)), (.c (.i .u8 128)), (.c (.i .u8 143))]), (some (60, true)), 4, []⟩, ⟨(some 63), (.pick (.t 60) (.t 62) (.c (.b false))), none, 5, []⟩, ⟨(some 45), (.mv (.t 63)), none, 6, []⟩])))))
  (.cond (.t 45) (.seq (.region [⟨(some 2), (.mv (.c (.i .i64 4))), none, 0, []⟩])
  .ret) .skip)))))))))))))))
  (.seq (.region [⟨(some 2), (.mv (.c (.i .i64 0))), none, 0, []⟩])
  .ret)))
def x71 : XFun := ⟨x71b, [(.t 2)]⟩
theorem x71_ok : compF Tryd.prog 71 = some x71 := by kernel_rfl
/-- bollard/bollardref18.between (27) -/
def x72b : XC := (.seq (.region [⟨(some 8), (.mv (.c (.b false))), none, 0, []⟩])
  (.seq (.region [⟨(some 9), (.mv (.t 1)), none, 0, []⟩, ⟨(some 10), (.mv (.t 0)), none, 1, []⟩, ⟨(some 11), (.lens (.t 10)), none, 2, []⟩, ⟨(some 12), (.bin .lss (.t 9) (.t 11)), none, 3, []⟩, ⟨(some 13), (.mv (.t 12)), none, 4, []⟩, ⟨(some 14), (.mv (.t 0)), (some (13, true)), 5, []⟩, ⟨(some 15), (.mv (.t 1)), (some (13, true)), 6, []⟩, ⟨(some 16), (.idxs (.t 14) (.t 15)), (some (13, true)), 7, []⟩, ⟨(some 17), (.mv (.t 2)), (some (13, true)), 8, []⟩, ⟨(some 18), (.bin .geq (.t 16) (.t 17)), (some (13, true)), 9, []⟩, ⟨(some 19), (.pick (.t 13) (.t 18) (.c (.b false))), none, 10, []⟩, ⟨(some 20), (.mv (.t 19)), none, 11, []⟩, ⟨(some 21), (.mv (.t 0)), (some (20, true)), 12, []⟩, ⟨(some 22), (.mv (.t 1)), (some (20, true)), 13, []⟩, ⟨(some 23), (.idxs (.t 21) (.t 22)), (some (20, true)), 14, []⟩, ⟨(some 24), (.mv (.t 3)), (some (20, true)), 15, []⟩, ⟨(some 25), (.bin .leq (.t 23) (.t 24)), (some (20, true)), 16, []⟩, ⟨(some 26), (.pick (.t 20) (.t 25) (.c (.b false))), none, 17, []⟩, ⟨(some 8), (.mv (.t 26)), none, 18, []⟩])
  .ret))
def x72 : XFun := ⟨x72b, [(.t 8)]⟩
theorem x72_ok : compF Tryd.prog 72 = some x72 := by kernel_rfl
def tab : Nat → Option XFun := fun g => match g with
  | 3 => some x3
  | 4 => some x4
  | 5 => some x5
  | 6 => some x6
  | 7 => some x7
  | 8 => some x8
  | 9 => some x9
  | 10 => some x10
  | 11 => some x11
  | 12 => some x12
  | 13 => some x13
  | 14 => some x14
  | 15 => some x15
  | 16 => some x16
  | 17 => some x17
  | 18 => some x18
  | 19 => some x19
  | 20 => some x20
  | 21 => some x21
  | 22 => some x22
  | 23 => some x23
  | 24 => some x24
  | 25 => some x25
  | 26 => some x26
  | 27 => some x27
  | 28 => some x28
  | 29 => some x29
  | 30 => some x30
  | 31 => some x31
  | 32 => some x32
  | 33 => some x33
  | 34 => some x34
  | 35 => some x35
  | 36 => some x36
  | 37 => some x37
  | 38 => some x38
  | 39 => some x39
  | 40 => some x40
  | 41 => some x41
  | 42 => some x42
  | 43 => some x43
  | 44 => some x44
  | 45 => some x45
  | 46 => some x46
  | 47 => some x47
  | 48 => some x48
  | 49 => some x49
  | 50 => some x50
  | 51 => some x51
  | 52 => some x52
  | 53 => some x53
  | 54 => some x54
  | 55 => some x55
  | 56 => some x56
  | 57 => some x57
  | 58 => some x58
  | 59 => some x59
  | 60 => some x60
  | 61 => some x61
  | 62 => some x62
  | 63 => some x63
  | 64 => some x64
  | 65 => some x65
  | 66 => some x66
  | 67 => some x67
  | 68 => some x68
  | 69 => some x69
  | 70 => some x70
  | 71 => some x71
  | 72 => some x72
  | _ => none
theorem tab_ok : TabOK Tryd.prog tab := by
  intro g F h
  unfold tab at h
  split at h
  · cases h; exact x3_ok
  · cases h; exact x4_ok
  · cases h; exact x5_ok
  · cases h; exact x6_ok
  · cases h; exact x7_ok
  · cases h; exact x8_ok
  · cases h; exact x9_ok
  · cases h; exact x10_ok
  · cases h; exact x11_ok
  · cases h; exact x12_ok
  · cases h; exact x13_ok
  · cases h; exact x14_ok
  · cases h; exact x15_ok
  · cases h; exact x16_ok
  · cases h; exact x17_ok
  · cases h; exact x18_ok
  · cases h; exact x19_ok
  · cases h; exact x20_ok
  · cases h; exact x21_ok
  · cases h; exact x22_ok
  · cases h; exact x23_ok
  · cases h; exact x24_ok
  · cases h; exact x25_ok
  · cases h; exact x26_ok
  · cases h; exact x27_ok
  · cases h; exact x28_ok
  · cases h; exact x29_ok
  · cases h; exact x30_ok
  · cases h; exact x31_ok
  · cases h; exact x32_ok
  · cases h; exact x33_ok
  · cases h; exact x34_ok
  · cases h; exact x35_ok
  · cases h; exact x36_ok
  · cases h; exact x37_ok
  · cases h; exact x38_ok
  · cases h; exact x39_ok
  · cases h; exact x40_ok
  · cases h; exact x41_ok
  · cases h; exact x42_ok
  · cases h; exact x43_ok
  · cases h; exact x44_ok
  · cases h; exact x45_ok
  · cases h; exact x46_ok
  · cases h; exact x47_ok
  · cases h; exact x48_ok
  · cases h; exact x49_ok
  · cases h; exact x50_ok
  · cases h; exact x51_ok
  · cases h; exact x52_ok
  · cases h; exact x53_ok
  · cases h; exact x54_ok
  · cases h; exact x55_ok
  · cases h; exact x56_ok
  · cases h; exact x57_ok
  · cases h; exact x58_ok
  · cases h; exact x59_ok
  · cases h; exact x60_ok
  · cases h; exact x61_ok
  · cases h; exact x62_ok
  · cases h; exact x63_ok
  · cases h; exact x64_ok
  · cases h; exact x65_ok
  · cases h; exact x66_ok
  · cases h; exact x67_ok
  · cases h; exact x68_ok
  · cases h; exact x69_ok
  · cases h; exact x70_ok
  · cases h; exact x71_ok
  · cases h; exact x72_ok
  · cases h
end Go.Proofs.YtfhbdddjclodhaaDoor.E
