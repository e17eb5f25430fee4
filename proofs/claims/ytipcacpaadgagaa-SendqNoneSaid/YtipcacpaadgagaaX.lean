/- The compiled functions of the seat, as told by the evaluator's compiler; written by a program of this session, wip/eng/px.lean. It bears no condition. -/
import Derived.Test.YtipcacpaadgagaaE19
import Derived.Test.YtipcacpaadgagaaChecked
namespace Go.Proofs.Ytipcacpaadgagaa.E
set_option linter.unusedVariables false
/-- bollard/bollardlaw15.SendqNone (172) -/
def x9b : XC := (.seq (.region [⟨(some 6), (.mv (.c (.b false))), none, 0, []⟩])
  (.seq (.region [⟨(some 20), (.call (.c (.fn (.func 10) [] [])) []), none, 0, []⟩, ⟨(some 7), (.mv (.t 20)), none, 1, []⟩])
  (.seq (.seq (.region [⟨(some 21), (.mv (.t 0)), none, 0, []⟩, ⟨(some 22), (.lenx (.t 21)), none, 1, []⟩, ⟨(some 23), (.bin .gtr (.t 22) (.c (.i .i64 50))), none, 2, []⟩])
  (.cond (.t 23) (.seq (.region [⟨(some 24), (.mv (.t 7)), none, 0, []⟩, ⟨(some 6), (.mv (.t 24)), none, 1, []⟩])
  .ret) .skip))
  (.seq (.region [⟨(some 8), (.mv (.c (.p none))), none, 0, []⟩])
  (.seq (.region [⟨(some 26), (.mv (.t 8)), none, 0, []⟩, ⟨(some 27), (.mv (.t 2)), none, 1, []⟩, ⟨(some 28), (.mv (.t 1)), none, 2, []⟩, ⟨(some 29), (.call (.c (.fn (.func 15) [] [])) [(.t 26), (.t 27), (.c (.sl none 0 0 0)), (.t 28)]), none, 3, []⟩, ⟨(some 25), (.mv (.t 29)), none, 4, []⟩, ⟨(some 30), (.ext (.t 25) 0), none, 5, []⟩, ⟨(some 31), (.ext (.t 25) 1), none, 6, []⟩, ⟨(some 9), (.alloc [(.i .i64 0), (.i .i64 0), (.b false), (.b false)]), none, 7, []⟩, ⟨none, (.store 4 (.t 9) (.t 30)), none, 8, []⟩, ⟨(some 10), (.mv (.t 31)), none, 9, []⟩])
  (.seq (.region [⟨(some 33), (.mv (.t 8)), none, 0, []⟩, ⟨(some 34), (.call (.c (.fn (.func 27) [] [])) [(.t 33)]), none, 1, []⟩, ⟨(some 32), (.mv (.t 34)), none, 2, []⟩, ⟨(some 35), (.ext (.t 32) 0), none, 3, []⟩, ⟨(some 36), (.ext (.t 32) 1), none, 4, []⟩, ⟨(some 37), (.ext (.t 32) 2), none, 5, []⟩, ⟨(some 11), (.mv (.t 35)), none, 6, []⟩, ⟨(some 12), (.mv (.t 36)), none, 7, []⟩, ⟨(some 13), (.mv (.t 37)), none, 8, []⟩])
  (.seq (.region [⟨(some 39), (.mv (.t 8)), none, 0, []⟩, ⟨(some 40), (.mv (.t 2)), none, 1, []⟩, ⟨(some 41), (.call (.c (.fn (.func 24) [] [])) [(.t 39), (.t 40)]), none, 2, []⟩, ⟨(some 38), (.mv (.t 41)), none, 3, []⟩, ⟨(some 42), (.ext (.t 38) 0), none, 4, []⟩, ⟨(some 43), (.ext (.t 38) 1), none, 5, []⟩, ⟨(some 14), (.mv (.t 42)), none, 6, []⟩, ⟨(some 15), (.mv (.t 43)), none, 7, []⟩])
  (.seq (.region [⟨(some 44), (.call (.c (.fn (.func 11) [] [])) [(.c (.i .u32 1))]), none, 0, []⟩, ⟨(some 16), (.mv (.t 44)), none, 1, []⟩])
  (.seq (.region [⟨(some 45), (.call (.c (.fn (.func 13) [] [])) [(.c (.i .i64 1))]), none, 0, []⟩, ⟨(some 17), (.alloc [(.i .u8 0), (.i .u8 0), (.i .u32 0), (.i .u32 0), (.i .u16 0), (.i .u16 0), (.i .u32 0), (.sl none 0 0 0), (.sl none 0 0 0), (.sl none 0 0 0), (.sl none 0 0 0), (.sl none 0 0 0)]), none, 1, []⟩, ⟨none, (.store 12 (.t 17) (.t 45)), none, 2, []⟩])
  (.seq (.region [⟨(some 46), (.mv (.t 16)), none, 0, []⟩, ⟨(some 47), (.load true 12 (.t 17)), none, 1, []⟩, ⟨(some 48), (.bslice [(.i .u8 0), (.i .u8 0), (.i .u32 0), (.i .u32 0), (.i .u16 0), (.i .u16 0), (.i .u32 0), (.sl none 0 0 0), (.sl none 0 0 0), (.sl none 0 0 0), (.sl none 0 0 0), (.sl none 0 0 0)] [(0, 12, (.t 47))] 1), none, 2, []⟩, ⟨(some 49), (.call (.c (.fn (.func 12) [] [])) [(.t 46), (.t 48), (.c (.i .i64 (-1))), (.c (.i .i64 (-1)))]), none, 3, []⟩])
  (.seq (.region [⟨(some 50), (.fadd 11 (.t 17)), none, 0, []⟩, ⟨(some 51), (.load false 1 (.t 50)), none, 1, []⟩, ⟨(some 52), (.isl 1 (.t 51) (.c (.i .i64 0))), none, 2, []⟩, ⟨none, (.store 1 (.t 52) (.c (.i .u8 9))), none, 3, []⟩])
  (.seq (.region [⟨(some 53), (.mv (.t 16)), none, 0, []⟩, ⟨(some 54), (.call (.c (.fn (.func 14) [] [])) [(.t 53), (.c (.i .i64 0)), (.c (.i .i64 10))]), none, 1, []⟩, ⟨(some 18), (.mv (.t 54)), none, 2, []⟩])
  (.seq (.seq (.region [⟨(some 55), (.mv (.t 18)), none, 0, []⟩, ⟨(some 56), (.lenx (.t 55)), none, 1, []⟩, ⟨(some 57), (.bin .neq (.t 56) (.c (.i .i64 1))), none, 2, []⟩, ⟨(some 58), (.mv (.t 57)), none, 3, []⟩, ⟨(some 59), (.mv (.t 18)), (some (58, false)), 4, []⟩, ⟨(some 60), (.isl 12 (.t 59) (.c (.i .i64 0))), (some (58, false)), 5, []⟩, ⟨(some 61), (.fadd 11 (.t 60)), (some (58, false)), 6, []⟩, ⟨(some 62), (.load false 1 (.t 61)), (some (58, false)), 7, []⟩, ⟨(some 63), (.lenx (.t 62)), (some (58, false)), 8, []⟩, ⟨(some 64), (.bin .neq (.t 63) (.c (.i .i64 1))), (some (58, false)), 9, []⟩, ⟨(some 65), (.pick (.t 58) (.c (.b true)) (.t 64)), none, 10, []⟩, ⟨(some 66), (.mv (.t 65)), none, 11, []⟩, ⟨(some 67), (.mv (.t 18)), (some (66, false)), 12, []⟩, ⟨(some 68), (.isl 12 (.t 67) (.c (.i .i64 0))), (some (66, false)), 13, []⟩, ⟨(some 69), (.fadd 11 (.t 68)), (some (66, false)), 14, []⟩, ⟨(some 70), (.load false 1 (.t 69)), (some (66, false)), 15, []⟩, ⟨(some 71), (.isl 1 (.t 70) (.c (.i .i64 0))), (some (66, false)), 16, []⟩, ⟨(some 72), (.load false 1 (.t 71)), (some (66, false)), 17, []⟩, ⟨(some 73), (.bin .neq (.t 72) (.c (.i .u8 0))), (some (66, false)), 18, []⟩, ⟨(some 74), (.pick (.t 66) (.c (.b true)) (.t 73)), none, 19, []⟩])
  (.cond (.t 74) (.seq (.region [⟨(some 6), (.mv (.c (.b false))), none, 0, []⟩])
  .ret) .skip))
  (.seq (.region [⟨(some 75), (.mv (.t 18)), none, 0, []⟩, ⟨(some 76), (.isl 12 (.t 75) (.c (.i .i64 0))), none, 1, []⟩, ⟨(some 77), (.fadd 11 (.t 76)), none, 2, []⟩, ⟨(some 78), (.load false 1 (.t 77)), none, 3, []⟩, ⟨(some 79), (.isl 1 (.t 78) (.c (.i .i64 0))), none, 4, []⟩, ⟨none, (.store 1 (.t 79) (.c (.i .u8 8))), none, 5, []⟩])
  (.seq (.region [⟨(some 80), (.mv (.t 16)), none, 0, []⟩, ⟨(some 81), (.call (.c (.fn (.func 22) [] [])) [(.t 80)]), none, 1, []⟩])
  (.seq (.region [⟨(some 82), (.mv (.t 16)), none, 0, []⟩, ⟨(some 83), (.call (.c (.fn (.func 14) [] [])) [(.t 82), (.c (.i .i64 0)), (.c (.i .i64 10))]), none, 1, []⟩, ⟨(some 19), (.mv (.t 83)), none, 2, []⟩])
  (.seq (.region [⟨(some 84), (.mv (.t 7)), none, 0, []⟩, ⟨(some 85), (.mv (.t 84)), none, 1, []⟩, ⟨(some 86), (.mv (.t 8)), (some (85, true)), 2, []⟩, ⟨(some 87), (.mv (.t 0)), (some (85, true)), 3, []⟩, ⟨(some 88), (.mv (.t 1)), (some (85, true)), 4, []⟩, ⟨(some 89), (.mv (.t 1)), (some (85, true)), 5, []⟩, ⟨(some 90), (.call (.c (.fn (.func 12) [] [])) [(.t 86), (.t 87), (.t 88), (.t 89)]), (some (85, true)), 6, []⟩, ⟨(some 91), (.bin .eql (.t 90) (.c (.i .i64 1))), (some (85, true)), 7, []⟩, ⟨(some 92), (.pick (.t 85) (.t 91) (.c (.b false))), none, 8, []⟩, ⟨(some 93), (.mv (.t 92)), none, 9, []⟩, ⟨(some 94), (.mv (.t 8)), (some (93, true)), 10, []⟩, ⟨(some 95), (.mv (.t 1)), (some (93, true)), 11, []⟩, ⟨(some 96), (.mv (.t 1)), (some (93, true)), 12, []⟩, ⟨(some 97), (.call (.c (.fn (.func 14) [] [])) [(.t 94), (.t 95), (.t 96)]), (some (93, true)), 13, []⟩, ⟨(some 98), (.lenx (.t 97)), (some (93, true)), 14, []⟩, ⟨(some 99), (.bin .eql (.t 98) (.c (.i .i64 0))), (some (93, true)), 15, []⟩, ⟨(some 100), (.pick (.t 93) (.t 99) (.c (.b false))), none, 16, []⟩, ⟨(some 101), (.mv (.t 100)), none, 17, []⟩, ⟨(some 102), (.mv (.t 10)), (some (101, true)), 18, []⟩, ⟨(some 103), (.unx .not (.t 102)), (some (101, true)), 19, []⟩, ⟨(some 104), (.pick (.t 101) (.t 103) (.c (.b false))), none, 20, []⟩, ⟨(some 105), (.mv (.t 104)), none, 21, []⟩, ⟨(some 106), (.mv (.t 8)), (some (105, true)), 22, []⟩, ⟨(some 107), (.call (.c (.fn (.func 22) [] [])) [(.t 106)]), (some (105, true)), 23, []⟩, ⟨(some 108), (.bin .eql (.t 107) (.c (.i .i64 0))), (some (105, true)), 24, []⟩, ⟨(some 109), (.pick (.t 105) (.t 108) (.c (.b false))), none, 25, []⟩, ⟨(some 110), (.mv (.t 109)), none, 26, []⟩, ⟨(some 111), (.mv (.t 8)), (some (110, true)), 27, []⟩, ⟨(some 112), (.mv (.t 1)), (some (110, true)), 28, []⟩, ⟨(some 113), (.call (.c (.fn (.func 26) [] [])) [(.t 111), (.t 112)]), (some (110, true)), 29, []⟩, ⟨(some 114), (.bin .eql (.t 113) (.c (.i .i64 0))), (some (110, true)), 30, []⟩, ⟨(some 115), (.pick (.t 110) (.t 114) (.c (.b false))), none, 31, []⟩, ⟨(some 116), (.mv (.t 115)), none, 32, []⟩, ⟨(some 117), (.mv (.t 13)), (some (116, true)), 33, []⟩, ⟨(some 118), (.unx .not (.t 117)), (some (116, true)), 34, []⟩, ⟨(some 119), (.pick (.t 116) (.t 118) (.c (.b false))), none, 35, []⟩, ⟨(some 120), (.mv (.t 119)), none, 36, []⟩, ⟨(some 121), (.mv (.t 12)), (some (120, true)), 37, []⟩, ⟨(some 122), (.lenx (.t 121)), (some (120, true)), 38, []⟩, ⟨(some 123), (.bin .eql (.t 122) (.c (.i .i64 0))), (some (120, true)), 39, []⟩, ⟨(some 124), (.pick (.t 120) (.t 123) (.c (.b false))), none, 40, []⟩, ⟨(some 125), (.mv (.t 124)), none, 41, []⟩, ⟨(some 126), (.mv (.t 15)), (some (125, true)), 42, []⟩, ⟨(some 127), (.unx .not (.t 126)), (some (125, true)), 43, []⟩, ⟨(some 128), (.pick (.t 125) (.t 127) (.c (.b false))), none, 44, []⟩, ⟨(some 129), (.mv (.t 128)), none, 45, []⟩, ⟨(some 130), (.mv (.t 8)), (some (129, true)), 46, []⟩, ⟨(some 131), (.call (.c (.fn (.func 17) [] [])) [(.t 130)]), (some (129, true)), 47, []⟩, ⟨(some 132), (.bin .eql (.t 131) (.c (.i .u32 0))), (some (129, true)), 48, []⟩, ⟨(some 133), (.pick (.t 129) (.t 132) (.c (.b false))), none, 49, []⟩, ⟨(some 134), (.mv (.t 133)), none, 50, []⟩, ⟨(some 135), (.mv (.t 8)), (some (134, true)), 51, []⟩, ⟨(some 136), (.call (.c (.fn (.func 31) [] [])) [(.t 135)]), (some (134, true)), 52, []⟩, ⟨(some 137), (.bin .eql (.t 136) (.c (.i .u32 0))), (some (134, true)), 53, []⟩, ⟨(some 138), (.pick (.t 134) (.t 137) (.c (.b false))), none, 54, []⟩, ⟨(some 139), (.mv (.t 138)), none, 55, []⟩, ⟨(some 140), (.mv (.t 8)), (some (139, true)), 56, []⟩, ⟨(some 141), (.call (.c (.fn (.func 19) [] [])) [(.t 140)]), (some (139, true)), 57, []⟩, ⟨(some 142), (.mv (.t 8)), (some (139, true)), 58, []⟩, ⟨(some 143), (.call (.c (.fn (.func 20) [] [])) [(.t 142)]), (some (139, true)), 59, []⟩, ⟨(some 144), (.bin .add (.t 141) (.t 143)), (some (139, true)), 60, []⟩, ⟨(some 145), (.mv (.t 8)), (some (139, true)), 61, []⟩, ⟨(some 146), (.call (.c (.fn (.func 18) [] [])) [(.t 145)]), (some (139, true)), 62, []⟩, ⟨(some 147), (.bin .add (.t 144) (.t 146)), (some (139, true)), 63, []⟩, ⟨(some 148), (.bin .eql (.t 147) (.c (.i .i64 0))), (some (139, true)), 64, []⟩, ⟨(some 149), (.pick (.t 139) (.t 148) (.c (.b false))), none, 65, []⟩, ⟨(some 150), (.mv (.t 149)), none, 66, []⟩, ⟨(some 151), (.mv (.t 19)), (some (150, true)), 67, []⟩, ⟨(some 152), (.lenx (.t 151)), (some (150, true)), 68, []⟩, ⟨(some 153), (.bin .eql (.t 152) (.c (.i .i64 1))), (some (150, true)), 69, []⟩, ⟨(some 154), (.pick (.t 150) (.t 153) (.c (.b false))), none, 70, []⟩, ⟨(some 155), (.mv (.t 154)), none, 71, []⟩, ⟨(some 156), (.mv (.t 19)), (some (155, true)), 72, []⟩, ⟨(some 157), (.isl 12 (.t 156) (.c (.i .i64 0))), (some (155, true)), 73, []⟩, ⟨(some 158), (.fadd 11 (.t 157)), (some (155, true)), 74, []⟩, ⟨(some 159), (.load false 1 (.t 158)), (some (155, true)), 75, []⟩, ⟨(some 160), (.lenx (.t 159)), (some (155, true)), 76, []⟩, ⟨(some 161), (.bin .eql (.t 160) (.c (.i .i64 1))), (some (155, true)), 77, []⟩, ⟨(some 162), (.pick (.t 155) (.t 161) (.c (.b false))), none, 78, []⟩, ⟨(some 163), (.mv (.t 162)), none, 79, []⟩, ⟨(some 164), (.mv (.t 19)), (some (163, true)), 80, []⟩, ⟨(some 165), (.isl 12 (.t 164) (.c (.i .i64 0))), (some (163, true)), 81, []⟩, ⟨(some 166), (.fadd 11 (.t 165)), (some (163, true)), 82, []⟩, ⟨(some 167), (.load false 1 (.t 166)), (some (163, true)), 83, []⟩, ⟨(some 168), (.isl 1 (.t 167) (.c (.i .i64 0))), (some (163, true)), 84, []⟩, ⟨(some 169), (.load false 1 (.t 168)), (some (163, true)), 85, []⟩, ⟨(some 170), (.bin .eql (.t 169) (.c (.i .u8 0))), (some (163, true)), 86, []⟩, ⟨(some 171), (.pick (.t 163) (.t 170) (.c (.b false))), none, 87, []⟩, ⟨(some 6), (.mv (.t 171)), none, 88, []⟩])
  .ret)))))))))))))))))
def x9 : XFun := ⟨x9b, [(.t 6)]⟩
theorem x9_ok : compF Try.prog 9 = some x9 := by kernel_rfl
/-- bollard/bollardlaw15.awake (73) -/
def x10b : XC := (.seq (.region [⟨(some 0), (.mv (.c (.b false))), none, 0, []⟩])
  (.seq (.region [⟨(some 6), (.call (.c (.fn (.func 11) [] [])) [(.c (.i .u32 5))]), none, 0, []⟩, ⟨(some 1), (.mv (.t 6)), none, 1, []⟩])
  (.seq (.region [⟨(some 7), (.mv (.t 1)), none, 0, []⟩, ⟨(some 8), (.call (.c (.fn (.func 13) [] [])) [(.c (.i .i64 10))]), none, 1, []⟩, ⟨(some 9), (.call (.c (.fn (.func 13) [] [])) [(.c (.i .i64 10))]), none, 2, []⟩, ⟨(some 10), (.call (.c (.fn (.func 13) [] [])) [(.c (.i .i64 10))]), none, 3, []⟩, ⟨(some 11), (.bslice [(.i .u8 0), (.i .u8 0), (.i .u32 0), (.i .u32 0), (.i .u16 0), (.i .u16 0), (.i .u32 0), (.sl none 0 0 0), (.sl none 0 0 0), (.sl none 0 0 0), (.sl none 0 0 0), (.sl none 0 0 0), (.i .u8 0), (.i .u8 0), (.i .u32 0), (.i .u32 0), (.i .u16 0), (.i .u16 0), (.i .u32 0), (.sl none 0 0 0), (.sl none 0 0 0), (.sl none 0 0 0), (.sl none 0 0 0), (.sl none 0 0 0), (.i .u8 0), (.i .u8 0), (.i .u32 0), (.i .u32 0), (.i .u16 0), (.i .u16 0), (.i .u32 0), (.sl none 0 0 0), (.sl none 0 0 0), (.sl none 0 0 0), (.sl none 0 0 0), (.sl none 0 0 0)] [(0, 12, (.t 8)), (12, 12, (.t 9)), (24, 12, (.t 10))] 3), none, 4, []⟩, ⟨(some 12), (.call (.c (.fn (.func 12) [] [])) [(.t 7), (.t 11), (.c (.i .i64 (-1))), (.c (.i .i64 (-1)))]), none, 5, []⟩, ⟨(some 2), (.mv (.t 12)), none, 6, []⟩])
  (.seq (.region [⟨(some 13), (.mv (.t 1)), none, 0, []⟩, ⟨(some 14), (.call (.c (.fn (.func 14) [] [])) [(.t 13), (.c (.i .i64 0)), (.c (.i .i64 25))]), none, 1, []⟩, ⟨(some 3), (.mv (.t 14)), none, 2, []⟩])
  (.seq (.region [⟨(some 16), (.mv (.t 1)), none, 0, []⟩, ⟨(some 17), (.call (.c (.fn (.func 15) [] [])) [(.t 16), (.c (.i .u32 5)), (.c (.sl none 0 0 0)), (.c (.i .i64 40))]), none, 1, []⟩, ⟨(some 15), (.mv (.t 17)), none, 2, []⟩, ⟨(some 18), (.ext (.t 15) 0), none, 3, []⟩, ⟨(some 19), (.ext (.t 15) 1), none, 4, []⟩, ⟨(some 4), (.alloc [(.i .i64 0), (.i .i64 0), (.b false), (.b false)]), none, 5, []⟩, ⟨none, (.store 4 (.t 4) (.t 18)), none, 6, []⟩, ⟨(some 5), (.mv (.t 19)), none, 7, []⟩])
  (.seq (.region [⟨(some 20), (.mv (.t 2)), none, 0, []⟩, ⟨(some 21), (.bin .eql (.t 20) (.c (.i .i64 0))), none, 1, []⟩, ⟨(some 22), (.mv (.t 21)), none, 2, []⟩, ⟨(some 23), (.mv (.t 3)), (some (22, true)), 3, []⟩, ⟨(some 24), (.lenx (.t 23)), (some (22, true)), 4, []⟩, ⟨(some 25), (.bin .eql (.t 24) (.c (.i .i64 2))), (some (22, true)), 5, []⟩, ⟨(some 26), (.pick (.t 22) (.t 25) (.c (.b false))), none, 6, []⟩, ⟨(some 27), (.mv (.t 26)), none, 7, []⟩, ⟨(some 28), (.mv (.t 3)), (some (27, true)), 8, []⟩, ⟨(some 29), (.isl 12 (.t 28) (.c (.i .i64 0))), (some (27, true)), 9, []⟩, ⟨(some 30), (.fadd 2 (.t 29)), (some (27, true)), 10, []⟩, ⟨(some 31), (.load false 1 (.t 30)), (some (27, true)), 11, []⟩, ⟨(some 32), (.bin .eql (.t 31) (.c (.i .u32 5))), (some (27, true)), 12, []⟩, ⟨(some 33), (.pick (.t 27) (.t 32) (.c (.b false))), none, 13, []⟩, ⟨(some 34), (.mv (.t 33)), none, 14, []⟩, ⟨(some 35), (.mv (.t 3)), (some (34, true)), 15, []⟩, ⟨(some 36), (.isl 12 (.t 35) (.c (.i .i64 1))), (some (34, true)), 16, []⟩, ⟨(some 37), (.fadd 2 (.t 36)), (some (34, true)), 17, []⟩, ⟨(some 38), (.load false 1 (.t 37)), (some (34, true)), 18, []⟩, ⟨(some 39), (.bin .eql (.t 38) (.c (.i .u32 6))), (some (34, true)), 19, []⟩, ⟨(some 40), (.pick (.t 34) (.t 39) (.c (.b false))), none, 20, []⟩, ⟨(some 41), (.mv (.t 40)), none, 21, []⟩, ⟨(some 42), (.mv (.t 5)), (some (41, true)), 22, []⟩, ⟨(some 43), (.pick (.t 41) (.t 42) (.c (.b false))), none, 23, []⟩, ⟨(some 44), (.mv (.t 43)), none, 24, []⟩, ⟨(some 45), (.fadd 0 (.t 4)), (some (44, true)), 25, []⟩, ⟨(some 46), (.load false 1 (.t 45)), (some (44, true)), 26, []⟩, ⟨(some 47), (.bin .eql (.t 46) (.c (.i .i64 10))), (some (44, true)), 27, []⟩, ⟨(some 48), (.pick (.t 44) (.t 47) (.c (.b false))), none, 28, []⟩, ⟨(some 49), (.mv (.t 48)), none, 29, []⟩, ⟨(some 50), (.fadd 1 (.t 4)), (some (49, true)), 30, []⟩, ⟨(some 51), (.load false 1 (.t 50)), (some (49, true)), 31, []⟩, ⟨(some 52), (.bin .eql (.t 51) (.c (.i .i64 40))), (some (49, true)), 32, []⟩, ⟨(some 53), (.pick (.t 49) (.t 52) (.c (.b false))), none, 33, []⟩, ⟨(some 54), (.mv (.t 53)), none, 34, []⟩, ⟨(some 55), (.fadd 3 (.t 4)), (some (54, true)), 35, []⟩, ⟨(some 56), (.load false 1 (.t 55)), (some (54, true)), 36, []⟩, ⟨(some 57), (.pick (.t 54) (.t 56) (.c (.b false))), none, 37, []⟩, ⟨(some 58), (.mv (.t 57)), none, 38, []⟩, ⟨(some 59), (.fadd 2 (.t 4)), (some (58, true)), 39, []⟩, ⟨(some 60), (.load false 1 (.t 59)), (some (58, true)), 40, []⟩, ⟨(some 61), (.unx .not (.t 60)), (some (58, true)), 41, []⟩, ⟨(some 62), (.pick (.t 58) (.t 61) (.c (.b false))), none, 42, []⟩, ⟨(some 63), (.mv (.t 62)), none, 43, []⟩, ⟨(some 64), (.mv (.t 1)), (some (63, true)), 44, []⟩, ⟨(some 65), (.call (.c (.fn (.func 17) [] [])) [(.t 64)]), (some (63, true)), 45, []⟩, ⟨(some 66), (.bin .eql (.t 65) (.c (.i .u32 5))), (some (63, true)), 46, []⟩, ⟨(some 67), (.pick (.t 63) (.t 66) (.c (.b false))), none, 47, []⟩, ⟨(some 68), (.mv (.t 67)), none, 48, []⟩, ⟨(some 69), (.mv (.t 1)), (some (68, true)), 49, []⟩, ⟨(some 70), (.call (.c (.fn (.func 18) [] [])) [(.t 69)]), (some (68, true)), 50, []⟩, ⟨(some 71), (.bin .eql (.t 70) (.c (.i .i64 2))), (some (68, true)), 51, []⟩, ⟨(some 72), (.pick (.t 68) (.t 71) (.c (.b false))), none, 52, []⟩, ⟨(some 0), (.mv (.t 72)), none, 53, []⟩])
  .ret))))))
def x10 : XFun := ⟨x10b, [(.t 0)]⟩
theorem x10_ok : compF Try.prog 10 = some x10 := by kernel_rfl
/-- bollard/sendq.New (6) -/
def x11b : XC := (.seq (.region [⟨(some 2), (.mv (.c (.p none))), none, 0, []⟩])
  (.seq (.region [⟨(some 3), (.mv (.t 0)), none, 0, []⟩, ⟨(some 4), (.build [(.sl none 0 0 0), (.i .u32 0)] [(1, 1, (.t 3))]), none, 1, []⟩, ⟨(some 5), (.box (.t 4)), none, 2, []⟩, ⟨(some 2), (.mv (.t 5)), none, 3, []⟩])
  .ret))
def x11 : XFun := ⟨x11b, [(.t 2)]⟩
theorem x11_ok : compF Try.prog 11 = some x11 := by kernel_rfl
/-- (*bollard/sendq.Queue).Push (74) -/
def x12b : XC := (.seq (.region [⟨(some 8), (.mv (.c (.i .i64 0))), none, 0, []⟩])
  (.seq (.block 0 (.seq (.region [⟨(some 13), (.mv (.t 0)), none, 0, []⟩, ⟨(some 14), (.nilq 0 false (.t 13)), none, 1, []⟩, ⟨(some 15), (.mv (.t 14)), none, 2, []⟩, ⟨(some 16), (.mv (.t 1)), (some (15, false)), 3, []⟩, ⟨(some 17), (.lenx (.t 16)), (some (15, false)), 4, []⟩, ⟨(some 18), (.bin .eql (.t 17) (.c (.i .i64 0))), (some (15, false)), 5, []⟩, ⟨(some 19), (.pick (.t 15) (.c (.b true)) (.t 18)), none, 6, []⟩, ⟨(some 20), (.mv (.t 19)), none, 7, []⟩, ⟨(some 21), (.mv (.t 1)), (some (20, false)), 8, []⟩, ⟨(some 22), (.call (.c (.fn (.func 32) [] [])) [(.t 21), (.c (.fn (.func 33) [] []))]), (some (20, false)), 9, []⟩, ⟨(some 23), (.pick (.t 20) (.c (.b true)) (.t 22)), none, 10, []⟩, ⟨(some 12), (.mv (.t 23)), none, 11, []⟩])
  (.cond (.t 12) (.seq (.region [⟨(some 8), (.mv (.c (.i .i64 1))), none, 0, []⟩])
  .ret) (.seq (.region [⟨(some 25), (.mv (.t 0)), none, 0, []⟩, ⟨(some 26), (.nilc (.t 25)), none, 1, []⟩, ⟨(some 27), (.fadd 0 (.t 26)), none, 2, []⟩, ⟨(some 28), (.load false 1 (.t 27)), none, 3, []⟩, ⟨(some 29), (.lenx (.t 28)), none, 4, []⟩, ⟨(some 30), (.mv (.t 1)), none, 5, []⟩, ⟨(some 31), (.lenx (.t 30)), none, 6, []⟩, ⟨(some 32), (.bin .add (.t 29) (.t 31)), none, 7, []⟩, ⟨(some 33), (.bin .gtr (.t 32) (.c (.i .i64 1024))), none, 8, []⟩, ⟨(some 24), (.mv (.t 33)), none, 9, []⟩])
  (.cond (.t 24) (.seq (.region [⟨(some 8), (.mv (.c (.i .i64 9))), none, 0, []⟩])
  .ret) .skip)))))
  (.seq (.region [⟨(some 34), (.mv (.t 2)), none, 0, []⟩, ⟨(some 35), (.mv (.t 3)), none, 1, []⟩, ⟨(some 36), (.build [(.i .i64 0), (.i .i64 0), (.b false)] [(0, 1, (.t 34)), (1, 1, (.t 35))]), none, 2, []⟩, ⟨(some 37), (.box (.t 36)), none, 3, []⟩, ⟨(some 9), (.mv (.t 37)), none, 4, []⟩])
  (.seq (.seq (.region [⟨(some 38), (.mv (.t 1)), none, 0, []⟩, ⟨(some 39), (.lenx (.t 38)), none, 1, []⟩, ⟨(some 40), (.mv (.c (.i .i64 0))), none, 2, []⟩])
  (.block 1 (.loop (.seq (.region [⟨(some 41), (.bin .lss (.t 40) (.t 39)), none, 0, []⟩])
  (.seq (.cond (.t 41) .skip (.exit 1))
  (.seq (.block 2 (.seq (.region [⟨(some 42), (.isl 12 (.t 38) (.t 40)), none, 0, []⟩, ⟨(some 43), (.load true 12 (.t 42)), none, 1, []⟩, ⟨(some 11), (.alloc [(.i .u8 0), (.i .u8 0), (.i .u32 0), (.i .u32 0), (.i .u16 0), (.i .u16 0), (.i .u32 0), (.sl none 0 0 0), (.sl none 0 0 0), (.sl none 0 0 0), (.sl none 0 0 0), (.sl none 0 0 0)]), none, 2, []⟩, ⟨none, (.store 12 (.t 11) (.t 43)), none, 3, []⟩])
  (.seq (.draw [⟨(some 44), (.mv (.t 0)), none, 0, []⟩, ⟨(some 45), (.nilc (.t 44)), none, 1, [0]⟩, ⟨(some 46), (.fadd 1 (.t 45)), none, 2, [0, 1]⟩, ⟨(some 48), (.fadd 11 (.t 11)), none, 4, []⟩, ⟨(some 47), (.load false 1 (.t 46)), none, 3, [0, 1, 2]⟩, ⟨(some 49), (.load false 1 (.t 48)), none, 5, [4]⟩, ⟨(some 51), (.fadd 2 (.t 11)), none, 7, [0, 1, 2, 3, 4, 5]⟩, ⟨(some 50), (.call (.c (.fn (.func 34) [] [])) [(.t 49)]), none, 6, [4, 5]⟩, ⟨none, (.store 1 (.t 51) (.t 47)), none, 8, [0, 1, 2, 3, 4, 5, 6, 7]⟩, ⟨(some 52), (.fadd 11 (.t 11)), none, 9, [0, 1, 2, 3, 4, 5, 6, 7, 8]⟩, ⟨none, (.store 1 (.t 52) (.t 50)), none, 10, [0, 1, 2, 3, 4, 5, 6, 7, 8, 9]⟩])
  (.seq (.region [⟨(some 53), (.mv (.t 0)), none, 0, []⟩, ⟨(some 54), (.nilc (.t 53)), none, 1, []⟩, ⟨(some 55), (.fadd 1 (.t 54)), none, 2, []⟩, ⟨(some 56), (.load false 1 (.t 55)), none, 3, []⟩, ⟨(some 57), (.bin .add (.t 56) (.c (.i .u32 1))), none, 4, []⟩, ⟨(some 58), (.nilc (.t 53)), none, 5, []⟩, ⟨(some 59), (.fadd 1 (.t 58)), none, 6, []⟩, ⟨none, (.store 1 (.t 59) (.t 57)), none, 7, []⟩])
  (.draw [⟨(some 60), (.mv (.t 0)), none, 0, []⟩, ⟨(some 61), (.mv (.t 0)), none, 1, []⟩, ⟨(some 62), (.nilc (.t 61)), none, 2, [1]⟩, ⟨(some 63), (.fadd 0 (.t 62)), none, 3, [1, 2]⟩, ⟨(some 66), (.mv (.t 9)), none, 6, []⟩, ⟨(some 64), (.load false 1 (.t 63)), none, 4, [1, 2, 3]⟩, ⟨(some 65), (.load true 12 (.t 11)), none, 5, []⟩, ⟨(some 67), (.build [(.i .u8 0), (.i .u8 0), (.i .u32 0), (.i .u32 0), (.i .u16 0), (.i .u16 0), (.i .u32 0), (.sl none 0 0 0), (.sl none 0 0 0), (.sl none 0 0 0), (.sl none 0 0 0), (.sl none 0 0 0), (.p none), (.i .i64 0), (.i .i64 0), (.i .i64 0), (.i .i64 0)] [(0, 12, (.t 65)), (12, 1, (.t 66))]), none, 7, [5, 6]⟩, ⟨(some 68), (.box (.t 67)), none, 8, [5, 6, 7]⟩, ⟨(some 69), (.bslice [(.p none)] [(0, 1, (.t 68))] 1), none, 9, [5, 6, 7, 8]⟩, ⟨(some 70), (.append 1 8 (.t 64) (.t 69)), none, 10, [1, 2, 3, 4, 5, 6, 7, 8, 9]⟩, ⟨(some 71), (.nilc (.t 60)), none, 11, [0, 1, 2, 3, 4, 5, 6, 7, 8, 9, 10]⟩, ⟨(some 72), (.fadd 0 (.t 71)), none, 12, [0, 1, 2, 3, 4, 5, 6, 7, 8, 9, 10, 11]⟩, ⟨none, (.store 1 (.t 72) (.t 70)), none, 13, [0, 1, 2, 3, 4, 5, 6, 7, 8, 9, 10, 11, 12]⟩])))))
  (.region [⟨(some 73), (.bin .add (.t 40) (.c (.i .i64 1))), none, 0, []⟩, ⟨(some 40), (.mv (.t 73)), none, 1, []⟩])))))))
  (.seq (.region [⟨(some 8), (.mv (.c (.i .i64 0))), none, 0, []⟩])
  .ret)))))
def x12 : XFun := ⟨x12b, [(.t 8)]⟩
theorem x12_ok : compF Try.prog 12 = some x12 := by kernel_rfl
/-- bollard/bollardlaw15.piece (6) -/
def x13b : XC := (.seq (.region [⟨(some 2), (.alloc [(.i .u8 0), (.i .u8 0), (.i .u32 0), (.i .u32 0), (.i .u16 0), (.i .u16 0), (.i .u32 0), (.sl none 0 0 0), (.sl none 0 0 0), (.sl none 0 0 0), (.sl none 0 0 0), (.sl none 0 0 0)]), none, 0, []⟩])
  (.seq (.region [⟨(some 3), (.mv (.t 0)), none, 0, []⟩, ⟨(some 4), (.mkslice [(.i .u8 0)] 1 (.t 3) (.t 3)), none, 1, []⟩, ⟨(some 5), (.build [(.i .u8 0), (.i .u8 0), (.i .u32 0), (.i .u32 0), (.i .u16 0), (.i .u16 0), (.i .u32 0), (.sl none 0 0 0), (.sl none 0 0 0), (.sl none 0 0 0), (.sl none 0 0 0), (.sl none 0 0 0)] [(0, 1, (.c (.i .u8 0))), (1, 1, (.c (.i .u8 3))), (11, 1, (.t 4))]), none, 2, []⟩, ⟨none, (.store 12 (.t 2) (.t 5)), none, 3, []⟩])
  .ret))
def x13 : XFun := ⟨x13b, [(.cell 2 true 12)]⟩
theorem x13_ok : compF Try.prog 13 = some x13 := by kernel_rfl
/-- (*bollard/sendq.Queue).Take (63) -/
def x14b : XC := (.seq (.region [⟨(some 4), (.box (.t 1)), none, 0, []⟩, ⟨(some 5), (.box (.t 2)), none, 1, []⟩, ⟨(some 6), (.alloc [(.sl none 0 0 0)]), none, 2, []⟩])
  (.seq (.region [⟨(some 7), (.alloc [(.sl none 0 0 0)]), none, 0, []⟩])
  (.seq (.seq (.region [⟨(some 12), (.bslice [(.i .i64 0), (.i .i64 0)] [(0, 1, (.c (.i .i64 2))), (1, 1, (.c (.i .i64 0)))] 2), none, 0, []⟩, ⟨(some 13), (.lenx (.t 12)), none, 1, []⟩, ⟨(some 14), (.mv (.c (.i .i64 0))), none, 2, []⟩])
  (.block 0 (.loop (.seq (.region [⟨(some 15), (.bin .lss (.t 14) (.t 13)), none, 0, []⟩])
  (.seq (.cond (.t 15) .skip (.exit 0))
  (.seq (.block 1 (.seq (.region [⟨(some 16), (.isl 1 (.t 12) (.t 14)), none, 0, []⟩, ⟨(some 17), (.load false 1 (.t 16)), none, 1, []⟩, ⟨(some 9), (.mv (.t 17)), none, 2, []⟩])
  (.seq (.region [⟨(some 18), (.mv (.t 0)), none, 0, []⟩, ⟨(some 19), (.mv (.t 9)), none, 1, []⟩, ⟨(some 20), (.bslice [(.i .i64 0)] [(0, 1, (.t 19))] 1), none, 2, []⟩, ⟨(some 21), (.call (.c (.fn (.func 35) [] [])) [(.t 18), (.t 20)]), none, 3, []⟩])
  (.block 2 (.rangeFn (.t 21) [22] (.region [⟨(some 10), (.mv (.t 22)), none, 0, []⟩]) (.block 3 (.seq (.seq (.draw [⟨(some 23), (.mv (.t 10)), none, 0, []⟩, ⟨(some 25), (.load false 1 (.t 5)), none, 2, []⟩, ⟨(some 24), (.call (.c (.fn (.func 36) [] [])) [(.t 23)]), none, 1, [0]⟩, ⟨(some 26), (.bin .gtr (.t 24) (.t 25)), none, 3, [0, 1, 2]⟩])
  (.cond (.t 26) (.seq (.region [⟨(some 27), (.load false 1 (.t 7)), none, 0, []⟩, ⟨none, (.store 1 (.t 6) (.t 27)), none, 1, []⟩])
  .ret) .skip))
  (.seq (.draw [⟨(some 29), (.mv (.t 10)), none, 1, []⟩, ⟨(some 28), (.load false 1 (.t 5)), none, 0, []⟩, ⟨(some 30), (.call (.c (.fn (.func 36) [] [])) [(.t 29)]), none, 2, [1]⟩, ⟨(some 31), (.bin .sub (.t 28) (.t 30)), none, 3, [0, 1, 2]⟩, ⟨none, (.store 1 (.t 5) (.t 31)), none, 4, [0, 1, 2, 3]⟩])
  (.seq (.draw [⟨(some 32), (.mv (.t 10)), none, 0, []⟩, ⟨(some 33), (.mv (.t 10)), none, 1, []⟩, ⟨(some 34), (.mv (.t 10)), none, 2, []⟩, ⟨(some 36), (.nilc (.t 32)), none, 4, [0]⟩, ⟨(some 37), (.fadd 13 (.t 36)), none, 5, [0, 4]⟩, ⟨(some 35), (.load false 1 (.t 4)), none, 3, []⟩, ⟨none, (.store 1 (.t 37) (.c (.i .i64 1))), none, 6, [0, 4, 5]⟩, ⟨(some 38), (.nilc (.t 33)), none, 7, [0, 1, 3, 4, 5, 6]⟩, ⟨(some 39), (.fadd 15 (.t 38)), none, 8, [0, 1, 3, 4, 5, 6, 7]⟩, ⟨none, (.store 1 (.t 39) (.t 35)), none, 9, [0, 1, 3, 4, 5, 6, 7, 8]⟩, ⟨(some 40), (.nilc (.t 34)), none, 10, [0, 1, 2, 3, 4, 5, 6, 7, 8, 9]⟩, ⟨(some 41), (.fadd 16 (.t 40)), none, 11, [0, 1, 2, 3, 4, 5, 6, 7, 8, 9, 10]⟩, ⟨none, (.store 1 (.t 41) (.c (.i .i64 0))), none, 12, [0, 1, 2, 3, 4, 5, 6, 7, 8, 9, 10, 11]⟩])
  (.seq (.region [⟨(some 42), (.mv (.t 10)), none, 0, []⟩, ⟨(some 43), (.nilc (.t 42)), none, 1, []⟩, ⟨(some 44), (.fadd 14 (.t 43)), none, 2, []⟩, ⟨(some 45), (.load false 1 (.t 44)), none, 3, []⟩, ⟨(some 46), (.bin .add (.t 45) (.c (.i .i64 1))), none, 4, []⟩, ⟨(some 47), (.nilc (.t 42)), none, 5, []⟩, ⟨(some 48), (.fadd 14 (.t 47)), none, 6, []⟩, ⟨none, (.store 1 (.t 48) (.t 46)), none, 7, []⟩])
  (.seq (.region [⟨(some 49), (.mv (.t 10)), none, 0, []⟩, ⟨(some 50), (.nilc (.t 49)), none, 1, []⟩, ⟨(some 51), (.fadd 0 (.t 50)), none, 2, []⟩, ⟨(some 52), (.load true 12 (.t 51)), none, 3, []⟩, ⟨(some 11), (.alloc [(.i .u8 0), (.i .u8 0), (.i .u32 0), (.i .u32 0), (.i .u16 0), (.i .u16 0), (.i .u32 0), (.sl none 0 0 0), (.sl none 0 0 0), (.sl none 0 0 0), (.sl none 0 0 0), (.sl none 0 0 0)]), none, 4, []⟩, ⟨none, (.store 12 (.t 11) (.t 52)), none, 5, []⟩])
  (.seq (.region [⟨(some 53), (.fadd 11 (.t 11)), none, 0, []⟩, ⟨(some 54), (.load false 1 (.t 53)), none, 1, []⟩, ⟨(some 55), (.call (.c (.fn (.func 34) [] [])) [(.t 54)]), none, 2, []⟩, ⟨(some 56), (.fadd 11 (.t 11)), none, 3, []⟩, ⟨none, (.store 1 (.t 56) (.t 55)), none, 4, []⟩])
  (.region [⟨(some 57), (.load false 1 (.t 7)), none, 0, []⟩, ⟨(some 58), (.load true 12 (.t 11)), none, 1, []⟩, ⟨(some 59), (.bslice [(.i .u8 0), (.i .u8 0), (.i .u32 0), (.i .u32 0), (.i .u16 0), (.i .u16 0), (.i .u32 0), (.sl none 0 0 0), (.sl none 0 0 0), (.sl none 0 0 0), (.sl none 0 0 0), (.sl none 0 0 0)] [(0, 12, (.t 58))] 1), none, 2, []⟩, ⟨(some 60), (.append 12 144 (.t 57) (.t 59)), none, 3, []⟩, ⟨none, (.store 1 (.t 7) (.t 60)), none, 4, []⟩])))))))))))))
  (.region [⟨(some 61), (.bin .add (.t 14) (.c (.i .i64 1))), none, 0, []⟩, ⟨(some 14), (.mv (.t 61)), none, 1, []⟩])))))))
  (.seq (.region [⟨(some 62), (.load false 1 (.t 7)), none, 0, []⟩, ⟨none, (.store 1 (.t 6) (.t 62)), none, 1, []⟩])
  .ret))))
def x14 : XFun := ⟨x14b, [(.cell 6 false 1)]⟩
theorem x14_ok : compF Try.prog 14 = some x14 := by kernel_rfl
/-- (*bollard/sendq.Queue).Ack (48) -/
def x15b : XC := (.seq (.region [⟨(some 8), (.alloc [(.i .i64 0), (.i .i64 0), (.b false), (.b false)]), none, 0, []⟩, ⟨(some 9), (.mv (.c (.b false))), none, 1, []⟩])
  (.seq (.region [⟨(some 16), (.mv (.t 0)), none, 0, []⟩, ⟨(some 17), (.mv (.t 1)), none, 1, []⟩, ⟨(some 18), (.call (.c (.fn (.func 37) [] [])) [(.t 16), (.t 17)]), none, 2, []⟩, ⟨(some 15), (.mv (.t 18)), none, 3, []⟩, ⟨(some 19), (.ext (.t 15) 0), none, 4, []⟩, ⟨(some 20), (.ext (.t 15) 1), none, 5, []⟩, ⟨(some 10), (.mv (.t 19)), none, 6, []⟩, ⟨(some 11), (.mv (.t 20)), none, 7, []⟩])
  (.seq (.seq (.region [⟨(some 21), (.mv (.t 11)), none, 0, []⟩, ⟨(some 22), (.unx .not (.t 21)), none, 1, []⟩])
  (.cond (.t 22) (.seq (.region [⟨(some 23), (.build [(.i .i64 0), (.i .i64 0), (.b false), (.b false)] []), none, 0, []⟩, ⟨none, (.store 4 (.t 8) (.t 23)), none, 1, []⟩, ⟨(some 9), (.mv (.c (.b false))), none, 2, []⟩])
  .ret) .skip))
  (.seq (.region [⟨(some 24), (.mv (.t 0)), none, 0, []⟩, ⟨(some 25), (.mv (.t 10)), none, 1, []⟩, ⟨(some 26), (.mv (.t 3)), none, 2, []⟩, ⟨(some 27), (.call (.c (.fn (.func 38) [] [])) [(.t 24), (.t 25), (.t 26)]), none, 3, []⟩, ⟨(some 12), (.alloc [(.i .i64 0), (.i .i64 0), (.b false), (.b false)]), none, 4, []⟩, ⟨none, (.store 4 (.t 12) (.t 27)), none, 5, []⟩])
  (.seq (.region [⟨(some 29), (.mv (.t 0)), none, 0, []⟩, ⟨(some 30), (.mv (.t 2)), none, 1, []⟩, ⟨(some 31), (.call (.c (.fn (.func 39) [] [])) [(.t 29), (.t 30)]), none, 2, []⟩, ⟨(some 28), (.mv (.t 31)), none, 3, []⟩, ⟨(some 32), (.ext (.t 28) 0), none, 4, []⟩, ⟨(some 33), (.ext (.t 28) 1), none, 5, []⟩, ⟨(some 13), (.mv (.t 32)), none, 6, []⟩, ⟨(some 14), (.mv (.t 33)), none, 7, []⟩])
  (.seq (.region [⟨(some 34), (.fadd 0 (.t 12)), none, 0, []⟩, ⟨(some 35), (.load false 1 (.t 34)), none, 1, []⟩, ⟨(some 36), (.mv (.t 13)), none, 2, []⟩, ⟨(some 37), (.bin .add (.t 35) (.t 36)), none, 3, []⟩, ⟨(some 38), (.fadd 0 (.t 12)), none, 4, []⟩, ⟨none, (.store 1 (.t 38) (.t 37)), none, 5, []⟩])
  (.seq (.region [⟨(some 39), (.mv (.t 0)), none, 0, []⟩, ⟨(some 40), (.nilc (.t 39)), none, 1, []⟩, ⟨(some 41), (.fadd 0 (.t 40)), none, 2, []⟩, ⟨(some 42), (.load false 1 (.t 41)), none, 3, []⟩, ⟨(some 43), (.mv (.t 14)), none, 4, []⟩, ⟨(some 44), (.slsl 1 (.t 42) none (some (.t 43)) none), none, 5, []⟩, ⟨(some 45), (.call (.c (.fn (.func 40) [] [])) [(.t 44)]), none, 6, []⟩, ⟨(some 46), (.fadd 2 (.t 12)), none, 7, []⟩, ⟨none, (.store 1 (.t 46) (.t 45)), none, 8, []⟩])
  (.seq (.region [⟨(some 47), (.load true 4 (.t 12)), none, 0, []⟩, ⟨none, (.store 4 (.t 8) (.t 47)), none, 1, []⟩, ⟨(some 9), (.mv (.c (.b true))), none, 2, []⟩])
  .ret))))))))
def x15 : XFun := ⟨x15b, [(.cell 8 true 4), (.t 9)]⟩
theorem x15_ok : compF Try.prog 15 = some x15 := by kernel_rfl
/-- (*bollard/sendq.Queue).Floor (17) -/
def x17b : XC := (.seq (.region [⟨(some 2), (.mv (.c (.i .u32 0))), none, 0, []⟩])
  (.seq (.seq (.region [⟨(some 3), (.mv (.t 0)), none, 0, []⟩, ⟨(some 4), (.nilq 0 false (.t 3)), none, 1, []⟩])
  (.cond (.t 4) (.seq (.region [⟨(some 2), (.mv (.c (.i .u32 0))), none, 0, []⟩])
  .ret) .skip))
  (.seq (.draw [⟨(some 5), (.mv (.t 0)), none, 0, []⟩, ⟨(some 6), (.nilc (.t 5)), none, 1, [0]⟩, ⟨(some 7), (.fadd 1 (.t 6)), none, 2, [0, 1]⟩, ⟨(some 9), (.mv (.t 0)), none, 4, []⟩, ⟨(some 10), (.nilc (.t 9)), none, 5, [4]⟩, ⟨(some 11), (.fadd 0 (.t 10)), none, 6, [4, 5]⟩, ⟨(some 8), (.load false 1 (.t 7)), none, 3, [0, 1, 2]⟩, ⟨(some 12), (.load false 1 (.t 11)), none, 7, [4, 5, 6]⟩, ⟨(some 13), (.lenx (.t 12)), none, 8, [4, 5, 6, 7]⟩, ⟨(some 14), (.cint .u32 (.t 13)), none, 9, [4, 5, 6, 7, 8]⟩, ⟨(some 15), (.bin .sub (.t 8) (.t 14)), none, 10, [0, 1, 2, 3, 4, 5, 6, 7, 8, 9]⟩, ⟨(some 16), (.bin .sub (.t 15) (.c (.i .u32 1))), none, 11, [0, 1, 2, 3, 4, 5, 6, 7, 8, 9, 10]⟩, ⟨(some 2), (.mv (.t 16)), none, 12, [0, 1, 2, 3, 4, 5, 6, 7, 8, 9, 10, 11]⟩])
  .ret)))
def x17 : XFun := ⟨x17b, [(.t 2)]⟩
theorem x17_ok : compF Try.prog 17 = some x17 := by kernel_rfl
/-- (*bollard/sendq.Queue).Len (10) -/
def x18b : XC := (.seq (.region [⟨(some 2), (.mv (.c (.i .i64 0))), none, 0, []⟩])
  (.seq (.seq (.region [⟨(some 3), (.mv (.t 0)), none, 0, []⟩, ⟨(some 4), (.nilq 0 false (.t 3)), none, 1, []⟩])
  (.cond (.t 4) (.seq (.region [⟨(some 2), (.mv (.c (.i .i64 0))), none, 0, []⟩])
  .ret) .skip))
  (.seq (.region [⟨(some 5), (.mv (.t 0)), none, 0, []⟩, ⟨(some 6), (.nilc (.t 5)), none, 1, []⟩, ⟨(some 7), (.fadd 0 (.t 6)), none, 2, []⟩, ⟨(some 8), (.load false 1 (.t 7)), none, 3, []⟩, ⟨(some 9), (.lenx (.t 8)), none, 4, []⟩, ⟨(some 2), (.mv (.t 9)), none, 5, []⟩])
  .ret)))
def x18 : XFun := ⟨x18b, [(.t 2)]⟩
theorem x18_ok : compF Try.prog 18 = some x18 := by kernel_rfl
/-- (*bollard/sendq.Queue).Flying (6) -/
def x19b : XC := (.seq (.region [⟨(some 2), (.mv (.c (.i .i64 0))), none, 0, []⟩])
  (.seq (.region [⟨(some 3), (.mv (.t 0)), none, 0, []⟩, ⟨(some 4), (.bslice [(.i .i64 0)] [(0, 1, (.c (.i .i64 1)))] 1), none, 1, []⟩, ⟨(some 5), (.call (.c (.fn (.func 41) [] [])) [(.t 3), (.t 4)]), none, 2, []⟩, ⟨(some 2), (.mv (.t 5)), none, 3, []⟩])
  .ret))
def x19 : XFun := ⟨x19b, [(.t 2)]⟩
theorem x19_ok : compF Try.prog 19 = some x19 := by kernel_rfl
/-- (*bollard/sendq.Queue).Left (6) -/
def x20b : XC := (.seq (.region [⟨(some 2), (.mv (.c (.i .i64 0))), none, 0, []⟩])
  (.seq (.region [⟨(some 3), (.mv (.t 0)), none, 0, []⟩, ⟨(some 4), (.bslice [(.i .i64 0), (.i .i64 0)] [(0, 1, (.c (.i .i64 0))), (1, 1, (.c (.i .i64 2)))] 2), none, 1, []⟩, ⟨(some 5), (.call (.c (.fn (.func 41) [] [])) [(.t 3), (.t 4)]), none, 2, []⟩, ⟨(some 2), (.mv (.t 5)), none, 3, []⟩])
  .ret))
def x20 : XFun := ⟨x20b, [(.t 2)]⟩
theorem x20_ok : compF Try.prog 20 = some x20 := by kernel_rfl
/-- bollard/serial.Dist (8) -/
def x21b : XC := (.seq (.region [⟨(some 4), (.mv (.c (.i .u32 0))), none, 0, []⟩])
  (.seq (.region [⟨(some 5), (.mv (.t 1)), none, 0, []⟩, ⟨(some 6), (.mv (.t 0)), none, 1, []⟩, ⟨(some 7), (.bin .sub (.t 5) (.t 6)), none, 2, []⟩, ⟨(some 4), (.mv (.t 7)), none, 3, []⟩])
  .ret))
def x21 : XFun := ⟨x21b, [(.t 4)]⟩
theorem x21_ok : compF Try.prog 21 = some x21 := by kernel_rfl
/-- (*bollard/sendq.Queue).Timeout (15) -/
def x22b : XC := (.seq (.region [⟨(some 2), (.mv (.c (.i .i64 0))), none, 0, []⟩])
  (.seq (.region [⟨(some 3), (.alloc [(.i .i64 0)]), none, 0, []⟩, ⟨none, (.store 1 (.t 3) (.c (.i .i64 0))), none, 1, []⟩])
  (.seq (.seq (.region [⟨(some 5), (.mv (.t 0)), none, 0, []⟩, ⟨(some 6), (.bslice [(.i .i64 0)] [(0, 1, (.c (.i .i64 1)))] 1), none, 1, []⟩, ⟨(some 7), (.call (.c (.fn (.func 35) [] [])) [(.t 5), (.t 6)]), none, 2, []⟩])
  (.block 0 (.rangeFn (.t 7) [8] (.region [⟨(some 4), (.mv (.t 8)), none, 0, []⟩]) (.block 1 (.seq (.region [⟨(some 9), (.mv (.t 4)), none, 0, []⟩, ⟨(some 10), (.nilc (.t 9)), none, 1, []⟩, ⟨(some 11), (.fadd 13 (.t 10)), none, 2, []⟩, ⟨none, (.store 1 (.t 11) (.c (.i .i64 2))), none, 3, []⟩])
  (.region [⟨(some 12), (.load false 1 (.t 3)), none, 0, []⟩, ⟨(some 13), (.bin .add (.t 12) (.c (.i .i64 1))), none, 1, []⟩, ⟨none, (.store 1 (.t 3) (.t 13)), none, 2, []⟩]))))))
  (.seq (.region [⟨(some 14), (.load false 1 (.t 3)), none, 0, []⟩, ⟨(some 2), (.mv (.t 14)), none, 1, []⟩])
  .ret))))
def x22 : XFun := ⟨x22b, [(.t 2)]⟩
theorem x22_ok : compF Try.prog 22 = some x22 := by kernel_rfl
/-- (*bollard/sendq.Queue).State (31) -/
def x24b : XC := (.seq (.region [⟨(some 4), (.mv (.c (.i .i64 0))), none, 0, []⟩, ⟨(some 5), (.mv (.c (.b false))), none, 1, []⟩])
  (.seq (.region [⟨(some 7), (.mv (.t 0)), none, 0, []⟩, ⟨(some 8), (.call (.c (.fn (.func 17) [] [])) [(.t 7)]), none, 1, []⟩, ⟨(some 9), (.mv (.t 1)), none, 2, []⟩, ⟨(some 10), (.call (.c (.fn (.func 21) [] [])) [(.t 8), (.t 9)]), none, 3, []⟩, ⟨(some 11), (.cint .i64 (.t 10)), none, 4, []⟩, ⟨(some 6), (.mv (.t 11)), none, 5, []⟩])
  (.seq (.seq (.region [⟨(some 12), (.mv (.t 6)), none, 0, []⟩, ⟨(some 13), (.bin .lss (.t 12) (.c (.i .i64 1))), none, 1, []⟩, ⟨(some 14), (.mv (.t 13)), none, 2, []⟩, ⟨(some 15), (.mv (.t 6)), (some (14, false)), 3, []⟩, ⟨(some 16), (.mv (.t 0)), (some (14, false)), 4, []⟩, ⟨(some 17), (.call (.c (.fn (.func 18) [] [])) [(.t 16)]), (some (14, false)), 5, []⟩, ⟨(some 18), (.bin .gtr (.t 15) (.t 17)), (some (14, false)), 6, []⟩, ⟨(some 19), (.pick (.t 14) (.c (.b true)) (.t 18)), none, 7, []⟩])
  (.cond (.t 19) (.seq (.region [⟨(some 4), (.mv (.c (.i .i64 0))), none, 0, []⟩, ⟨(some 5), (.mv (.c (.b false))), none, 1, []⟩])
  .ret) .skip))
  (.seq (.region [⟨(some 20), (.mv (.t 0)), none, 0, []⟩, ⟨(some 21), (.nilc (.t 20)), none, 1, []⟩, ⟨(some 22), (.fadd 0 (.t 21)), none, 2, []⟩, ⟨(some 23), (.load false 1 (.t 22)), none, 3, []⟩, ⟨(some 24), (.mv (.t 6)), none, 4, []⟩, ⟨(some 25), (.bin .sub (.t 24) (.c (.i .i64 1))), none, 5, []⟩, ⟨(some 26), (.isl 1 (.t 23) (.t 25)), none, 6, []⟩, ⟨(some 27), (.load false 1 (.t 26)), none, 7, []⟩, ⟨(some 28), (.nilc (.t 27)), none, 8, []⟩, ⟨(some 29), (.fadd 13 (.t 28)), none, 9, []⟩, ⟨(some 30), (.load false 1 (.t 29)), none, 10, []⟩, ⟨(some 4), (.mv (.t 30)), none, 11, []⟩, ⟨(some 5), (.mv (.c (.b true))), none, 12, []⟩])
  .ret))))
def x24 : XFun := ⟨x24b, [(.t 4), (.t 5)]⟩
theorem x24_ok : compF Try.prog 24 = some x24 := by kernel_rfl
/-- (*bollard/sendq.Queue).Expire (68) -/
def x26b : XC := (.seq (.region [⟨(some 3), (.box (.t 1)), none, 0, []⟩, ⟨(some 4), (.mv (.c (.i .i64 0))), none, 1, []⟩])
  (.seq (.region [⟨(some 5), (.alloc [(.i .i64 0)]), none, 0, []⟩, ⟨none, (.store 1 (.t 5) (.c (.i .i64 0))), none, 1, []⟩])
  (.seq (.region [⟨(some 10), .mkmap, none, 0, []⟩, ⟨(some 6), (.alloc [(.m none)]), none, 1, []⟩, ⟨none, (.store 1 (.t 6) (.t 10)), none, 2, []⟩])
  (.seq (.seq (.region [⟨(some 11), (.mv (.t 0)), none, 0, []⟩, ⟨(some 12), (.bslice [(.i .i64 0), (.i .i64 0), (.i .i64 0)] [(0, 1, (.c (.i .i64 0))), (1, 1, (.c (.i .i64 1))), (2, 1, (.c (.i .i64 2)))] 3), none, 1, []⟩, ⟨(some 13), (.call (.c (.fn (.func 35) [] [])) [(.t 11), (.t 12)]), none, 2, []⟩])
  (.block 0 (.rangeFn (.t 13) [14] (.region [⟨(some 7), (.mv (.t 14)), none, 0, []⟩]) (.block 1 (.draw [⟨(some 16), (.mv (.t 7)), none, 1, []⟩, ⟨(some 17), (.nilc (.t 16)), none, 2, [1]⟩, ⟨(some 18), (.fadd 12 (.t 17)), none, 3, [1, 2]⟩, ⟨(some 15), (.load false 1 (.t 6)), none, 0, []⟩, ⟨(some 19), (.load false 1 (.t 18)), none, 4, [1, 2, 3]⟩, ⟨none, .bad, none, 5, [0, 1, 2, 3, 4]⟩])))))
  (.seq (.seq (.region [⟨(some 20), (.mv (.t 0)), none, 0, []⟩, ⟨(some 21), (.bslice [(.i .i64 0), (.i .i64 0), (.i .i64 0), (.i .i64 0)] [(0, 1, (.c (.i .i64 0))), (1, 1, (.c (.i .i64 1))), (2, 1, (.c (.i .i64 2))), (3, 1, (.c (.i .i64 3)))] 4), none, 1, []⟩, ⟨(some 22), (.call (.c (.fn (.func 35) [] [])) [(.t 20), (.t 21)]), none, 2, []⟩])
  (.block 2 (.rangeFn (.t 22) [23] (.region [⟨(some 8), (.mv (.t 23)), none, 0, []⟩]) (.block 3 (.seq (.draw [⟨(some 25), (.mv (.t 8)), none, 1, []⟩, ⟨(some 26), (.nilc (.t 25)), none, 2, [1]⟩, ⟨(some 27), (.fadd 12 (.t 26)), none, 3, [1, 2]⟩, ⟨(some 24), (.load false 1 (.t 6)), none, 0, []⟩, ⟨(some 28), (.load false 1 (.t 27)), none, 4, [1, 2, 3]⟩, ⟨(some 29), .bad, none, 5, [0, 1, 2, 3, 4]⟩, ⟨(some 30), (.mv (.t 29)), none, 6, [0, 1, 2, 3, 4, 5]⟩, ⟨(some 31), (.mv (.t 8)), (some (30, true)), 7, [0, 1, 2, 3, 4, 5, 6]⟩, ⟨(some 32), (.nilc (.t 31)), (some (30, true)), 8, [0, 1, 2, 3, 4, 5, 6, 7]⟩, ⟨(some 33), (.fadd 12 (.t 32)), (some (30, true)), 9, [0, 1, 2, 3, 4, 5, 6, 7, 8]⟩, ⟨(some 34), (.load false 1 (.t 33)), (some (30, true)), 10, [0, 1, 2, 3, 4, 5, 6, 7, 8, 9]⟩, ⟨(some 35), (.nilc (.t 34)), (some (30, true)), 11, [0, 1, 2, 3, 4, 5, 6, 7, 8, 9, 10]⟩, ⟨(some 36), (.fadd 2 (.t 35)), (some (30, true)), 12, [0, 1, 2, 3, 4, 5, 6, 7, 8, 9, 10, 11]⟩, ⟨(some 37), (.load false 1 (.t 36)), (some (30, true)), 13, [0, 1, 2, 3, 4, 5, 6, 7, 8, 9, 10, 11, 12]⟩, ⟨(some 38), (.unx .not (.t 37)), (some (30, true)), 14, [0, 1, 2, 3, 4, 5, 6, 7, 8, 9, 10, 11, 12, 13]⟩, ⟨(some 39), (.pick (.t 30) (.t 38) (.c (.b false))), none, 15, [0, 1, 2, 3, 4, 5, 6, 7, 8, 9, 10, 11, 12, 13, 14]⟩, ⟨(some 40), (.mv (.t 39)), none, 16, [0, 1, 2, 3, 4, 5, 6, 7, 8, 9, 10, 11, 12, 13, 14, 15]⟩, ⟨(some 41), (.mv (.t 8)), (some (40, true)), 17, [0, 1, 2, 3, 4, 5, 6, 7, 8, 9, 10, 11, 12, 13, 14, 15, 16]⟩, ⟨(some 42), (.load false 1 (.t 3)), (some (40, true)), 18, [0, 1, 2, 3, 4, 5, 6, 7, 8, 9, 10, 11, 12, 13, 14, 15, 16]⟩, ⟨(some 43), (.call (.c (.fn (.func 43) [] [])) [(.t 41), (.t 42)]), (some (40, true)), 19, [0, 1, 2, 3, 4, 5, 6, 7, 8, 9, 10, 11, 12, 13, 14, 15, 16, 17, 18]⟩, ⟨(some 44), (.pick (.t 40) (.t 43) (.c (.b false))), none, 20, [0, 1, 2, 3, 4, 5, 6, 7, 8, 9, 10, 11, 12, 13, 14, 15, 16, 17, 18, 19]⟩])
  (.cond (.t 44) (.seq (.region [⟨(some 45), (.mv (.t 8)), none, 0, []⟩, ⟨(some 46), (.nilc (.t 45)), none, 1, []⟩, ⟨(some 47), (.fadd 12 (.t 46)), none, 2, []⟩, ⟨(some 48), (.load false 1 (.t 47)), none, 3, []⟩, ⟨(some 49), (.nilc (.t 48)), none, 4, []⟩, ⟨(some 50), (.fadd 2 (.t 49)), none, 5, []⟩, ⟨none, (.store 1 (.t 50) (.c (.b true))), none, 6, []⟩])
  (.region [⟨(some 51), (.load false 1 (.t 5)), none, 0, []⟩, ⟨(some 52), (.bin .add (.t 51) (.c (.i .i64 1))), none, 1, []⟩, ⟨none, (.store 1 (.t 5) (.t 52)), none, 2, []⟩])) .skip))))))
  (.seq (.seq (.region [⟨(some 53), (.mv (.t 0)), none, 0, []⟩, ⟨(some 54), (.bslice [(.i .i64 0), (.i .i64 0), (.i .i64 0), (.i .i64 0)] [(0, 1, (.c (.i .i64 0))), (1, 1, (.c (.i .i64 1))), (2, 1, (.c (.i .i64 2))), (3, 1, (.c (.i .i64 3)))] 4), none, 1, []⟩, ⟨(some 55), (.call (.c (.fn (.func 35) [] [])) [(.t 53), (.t 54)]), none, 2, []⟩])
  (.block 4 (.rangeFn (.t 55) [56] (.region [⟨(some 9), (.mv (.t 56)), none, 0, []⟩]) (.block 5 (.seq (.region [⟨(some 57), (.mv (.t 9)), none, 0, []⟩, ⟨(some 58), (.nilc (.t 57)), none, 1, []⟩, ⟨(some 59), (.fadd 12 (.t 58)), none, 2, []⟩, ⟨(some 60), (.load false 1 (.t 59)), none, 3, []⟩, ⟨(some 61), (.nilc (.t 60)), none, 4, []⟩, ⟨(some 62), (.fadd 2 (.t 61)), none, 5, []⟩, ⟨(some 63), (.load false 1 (.t 62)), none, 6, []⟩])
  (.cond (.t 63) (.region [⟨(some 64), (.mv (.t 9)), none, 0, []⟩, ⟨(some 65), (.nilc (.t 64)), none, 1, []⟩, ⟨(some 66), (.fadd 13 (.t 65)), none, 2, []⟩, ⟨none, (.store 1 (.t 66) (.c (.i .i64 4))), none, 3, []⟩]) .skip))))))
  (.seq (.region [⟨(some 67), (.load false 1 (.t 5)), none, 0, []⟩, ⟨(some 4), (.mv (.t 67)), none, 1, []⟩])
  .ret)))))))
def x26 : XFun := ⟨x26b, [(.t 4)]⟩
theorem x26_ok : compF Try.prog 26 = some x26 := by kernel_rfl
/-- (*bollard/sendq.Queue).Forward (96) -/
def x27b : XC := (.seq (.region [⟨(some 2), (.mv (.c (.i .u32 0))), none, 0, []⟩, ⟨(some 3), (.mv (.c (.sl none 0 0 0))), none, 1, []⟩, ⟨(some 4), (.mv (.c (.b false))), none, 2, []⟩])
  (.seq (.region [⟨(some 5), (.mv (.c (.i .i64 0))), none, 0, []⟩])
  (.seq (.seq (.region [⟨(some 13), (.mv (.t 0)), none, 0, []⟩, ⟨(some 14), (.call (.c (.fn (.func 44) [] [])) [(.t 13)]), none, 1, []⟩, ⟨(some 15), (.lenx (.t 14)), none, 2, []⟩, ⟨(some 16), (.mv (.c (.i .i64 0))), none, 3, []⟩])
  (.block 0 (.loop (.seq (.region [⟨(some 17), (.bin .lss (.t 16) (.t 15)), none, 0, []⟩])
  (.seq (.cond (.t 17) .skip (.exit 0))
  (.seq (.block 1 (.seq (.region [⟨(some 18), (.mv (.t 16)), none, 0, []⟩, ⟨(some 19), (.isl 1 (.t 14) (.t 16)), none, 1, []⟩, ⟨(some 20), (.load false 1 (.t 19)), none, 2, []⟩, ⟨(some 6), (.mv (.t 18)), none, 3, []⟩, ⟨(some 7), (.mv (.t 20)), none, 4, []⟩])
  (.seq (.region [⟨(some 21), (.mv (.t 7)), none, 0, []⟩, ⟨(some 22), (.nilc (.t 21)), none, 1, []⟩, ⟨(some 23), (.fadd 13 (.t 22)), none, 2, []⟩, ⟨(some 24), (.load false 1 (.t 23)), none, 3, []⟩, ⟨(some 25), (.bin .eql (.t 24) (.c (.i .i64 4))), none, 4, []⟩])
  (.cond (.t 25) (.region [⟨(some 26), (.mv (.t 6)), none, 0, []⟩, ⟨(some 27), (.bin .add (.t 26) (.c (.i .i64 1))), none, 1, []⟩, ⟨(some 5), (.mv (.t 27)), none, 2, []⟩]) .skip))))
  (.region [⟨(some 28), (.bin .add (.t 16) (.c (.i .i64 1))), none, 0, []⟩, ⟨(some 16), (.mv (.t 28)), none, 1, []⟩])))))))
  (.seq (.seq (.region [⟨(some 29), (.mv (.t 5)), none, 0, []⟩, ⟨(some 30), (.bin .eql (.t 29) (.c (.i .i64 0))), none, 1, []⟩])
  (.cond (.t 30) (.seq (.region [⟨(some 31), (.mv (.t 0)), none, 0, []⟩, ⟨(some 32), (.call (.c (.fn (.func 17) [] [])) [(.t 31)]), none, 1, []⟩, ⟨(some 2), (.mv (.t 32)), none, 2, []⟩, ⟨(some 3), (.mv (.c (.sl none 0 0 0))), none, 3, []⟩, ⟨(some 4), (.mv (.c (.b false))), none, 4, []⟩])
  .ret) .skip))
  (.seq (.region [⟨(some 8), (.mv (.c (.sl none 0 0 0))), none, 0, []⟩])
  (.seq (.seq (.region [⟨(some 33), (.mv (.t 0)), none, 0, []⟩, ⟨(some 34), (.nilc (.t 33)), none, 1, []⟩, ⟨(some 35), (.fadd 0 (.t 34)), none, 2, []⟩, ⟨(some 36), (.load false 1 (.t 35)), none, 3, []⟩, ⟨(some 37), (.mv (.t 5)), none, 4, []⟩, ⟨(some 38), (.slsl 1 (.t 36) none (some (.t 37)) none), none, 5, []⟩, ⟨(some 39), (.lenx (.t 38)), none, 6, []⟩, ⟨(some 40), (.mv (.c (.i .i64 0))), none, 7, []⟩])
  (.block 2 (.loop (.seq (.region [⟨(some 41), (.bin .lss (.t 40) (.t 39)), none, 0, []⟩])
  (.seq (.cond (.t 41) .skip (.exit 2))
  (.seq (.block 3 (.seq (.region [⟨(some 42), (.isl 1 (.t 38) (.t 40)), none, 0, []⟩, ⟨(some 43), (.load false 1 (.t 42)), none, 1, []⟩, ⟨(some 10), (.mv (.t 43)), none, 2, []⟩])
  (.seq (.seq (.region [⟨(some 44), (.mv (.t 10)), none, 0, []⟩, ⟨(some 45), (.nilc (.t 44)), none, 1, []⟩, ⟨(some 46), (.fadd 13 (.t 45)), none, 2, []⟩, ⟨(some 47), (.load false 1 (.t 46)), none, 3, []⟩, ⟨(some 48), (.bin .eql (.t 47) (.c (.i .i64 3))), none, 4, []⟩, ⟨(some 49), (.mv (.t 48)), none, 5, []⟩, ⟨(some 50), (.mv (.t 10)), (some (49, false)), 6, []⟩, ⟨(some 51), (.nilc (.t 50)), (some (49, false)), 7, []⟩, ⟨(some 52), (.fadd 0 (.t 51)), (some (49, false)), 8, []⟩, ⟨(some 53), (.fadd 1 (.t 52)), (some (49, false)), 9, []⟩, ⟨(some 54), (.load false 1 (.t 53)), (some (49, false)), 10, []⟩, ⟨(some 55), (.bin .and (.t 54) (.c (.i .u8 4))), (some (49, false)), 11, []⟩, ⟨(some 56), (.bin .neq (.t 55) (.c (.i .u8 0))), (some (49, false)), 12, []⟩, ⟨(some 57), (.pick (.t 49) (.c (.b true)) (.t 56)), none, 13, []⟩])
  (.cond (.t 57) (.exit 3) .skip))
  (.seq (.draw [⟨(some 58), (.mv (.t 10)), none, 0, []⟩, ⟨(some 59), (.nilc (.t 58)), none, 1, [0]⟩, ⟨(some 60), (.fadd 0 (.t 59)), none, 2, [0, 1]⟩, ⟨(some 61), (.fadd 4 (.t 60)), none, 3, [0, 1, 2]⟩, ⟨(some 63), (.mv (.t 10)), none, 5, []⟩, ⟨(some 64), (.nilc (.t 63)), none, 6, [5]⟩, ⟨(some 65), (.fadd 0 (.t 64)), none, 7, [5, 6]⟩, ⟨(some 66), (.fadd 5 (.t 65)), none, 8, [5, 6, 7]⟩, ⟨(some 62), (.load false 1 (.t 61)), none, 4, [0, 1, 2, 3]⟩, ⟨(some 67), (.load false 1 (.t 66)), none, 9, [5, 6, 7, 8]⟩, ⟨(some 68), (.build [(.i .u16 0), (.i .u16 0)] [(0, 1, (.t 62)), (1, 1, (.t 67))]), none, 10, [0, 1, 2, 3, 4, 5, 6, 7, 8, 9]⟩, ⟨(some 11), (.alloc [(.i .u16 0), (.i .u16 0)]), none, 11, []⟩, ⟨none, (.store 2 (.t 11) (.t 68)), none, 12, [0, 1, 2, 3, 4, 5, 6, 7, 8, 9, 10, 11]⟩])
  (.seq (.seq (.region [⟨(some 69), (.mv (.t 8)), none, 0, []⟩, ⟨(some 70), (.mkf (.func 46) [] [(.t 11)]), none, 1, []⟩, ⟨(some 71), (.call (.c (.fn (.func 45) [] [])) [(.t 69), (.t 70)]), none, 2, []⟩, ⟨(some 12), (.mv (.t 71)), none, 3, []⟩])
  (.seq (.region [⟨(some 72), (.mv (.t 12)), none, 0, []⟩, ⟨(some 73), (.bin .geq (.t 72) (.c (.i .i64 0))), none, 1, []⟩])
  (.cond (.t 73) (.seq (.region [⟨(some 74), (.mv (.t 8)), none, 0, []⟩, ⟨(some 75), (.mv (.t 12)), none, 1, []⟩, ⟨(some 76), (.load true 2 (.t 11)), none, 2, []⟩, ⟨(some 77), (.isl 2 (.t 74) (.t 75)), none, 3, []⟩, ⟨none, (.store 2 (.t 77) (.t 76)), none, 4, []⟩])
  (.exit 3)) .skip)))
  (.region [⟨(some 78), (.mv (.t 8)), none, 0, []⟩, ⟨(some 79), (.load true 2 (.t 11)), none, 1, []⟩, ⟨(some 80), (.bslice [(.i .u16 0), (.i .u16 0)] [(0, 2, (.t 79))] 1), none, 2, []⟩, ⟨(some 81), (.append 2 4 (.t 78) (.t 80)), none, 3, []⟩, ⟨(some 8), (.mv (.t 81)), none, 4, []⟩]))))))
  (.region [⟨(some 82), (.bin .add (.t 40) (.c (.i .i64 1))), none, 0, []⟩, ⟨(some 40), (.mv (.t 82)), none, 1, []⟩])))))))
  (.seq (.region [⟨(some 83), (.mv (.t 0)), none, 0, []⟩, ⟨(some 84), (.nilc (.t 83)), none, 1, []⟩, ⟨(some 85), (.fadd 0 (.t 84)), none, 2, []⟩, ⟨(some 86), (.load false 1 (.t 85)), none, 3, []⟩, ⟨(some 87), (.mv (.t 5)), none, 4, []⟩, ⟨(some 88), (.bin .sub (.t 87) (.c (.i .i64 1))), none, 5, []⟩, ⟨(some 89), (.isl 1 (.t 86) (.t 88)), none, 6, []⟩, ⟨(some 90), (.load false 1 (.t 89)), none, 7, []⟩, ⟨(some 91), (.nilc (.t 90)), none, 8, []⟩, ⟨(some 92), (.fadd 0 (.t 91)), none, 9, []⟩, ⟨(some 93), (.fadd 2 (.t 92)), none, 10, []⟩, ⟨(some 94), (.load false 1 (.t 93)), none, 11, []⟩, ⟨(some 95), (.mv (.t 8)), none, 12, []⟩, ⟨(some 2), (.mv (.t 94)), none, 13, []⟩, ⟨(some 3), (.mv (.t 95)), none, 14, []⟩, ⟨(some 4), (.mv (.c (.b true))), none, 15, []⟩])
  .ret)))))))
def x27 : XFun := ⟨x27b, [(.t 2), (.t 3), (.t 4)]⟩
theorem x27_ok : compF Try.prog 27 = some x27 := by kernel_rfl
/-- (*bollard/sendq.Queue).Next (9) -/
def x31b : XC := (.seq (.region [⟨(some 2), (.mv (.c (.i .u32 0))), none, 0, []⟩])
  (.seq (.seq (.region [⟨(some 3), (.mv (.t 0)), none, 0, []⟩, ⟨(some 4), (.nilq 0 false (.t 3)), none, 1, []⟩])
  (.cond (.t 4) (.seq (.region [⟨(some 2), (.mv (.c (.i .u32 0))), none, 0, []⟩])
  .ret) .skip))
  (.seq (.region [⟨(some 5), (.mv (.t 0)), none, 0, []⟩, ⟨(some 6), (.nilc (.t 5)), none, 1, []⟩, ⟨(some 7), (.fadd 1 (.t 6)), none, 2, []⟩, ⟨(some 8), (.load false 1 (.t 7)), none, 3, []⟩, ⟨(some 2), (.mv (.t 8)), none, 4, []⟩])
  .ret)))
def x31 : XFun := ⟨x31b, [(.t 2)]⟩
theorem x31_ok : compF Try.prog 31 = some x31 := by kernel_rfl
/-- slices.ContainsFunc[[]bollard/api.Chunk,bollard/api.Chunk] (9) -/
def x32b : XC := (.seq (.region [⟨(some 4), (.mv (.c (.b false))), none, 0, []⟩])
  (.seq (.region [⟨(some 5), (.mv (.t 0)), none, 0, []⟩, ⟨(some 6), (.mv (.t 1)), none, 1, []⟩, ⟨(some 7), (.call (.c (.fn (.func 58) [] [])) [(.t 5), (.t 6)]), none, 2, []⟩, ⟨(some 8), (.bin .geq (.t 7) (.c (.i .i64 0))), none, 3, []⟩, ⟨(some 4), (.mv (.t 8)), none, 4, []⟩])
  .ret))
def x32 : XFun := ⟨x32b, [(.t 4)]⟩
theorem x32_ok : compF Try.prog 32 = some x32 := by kernel_rfl
/-- bollard/sendq.noData (12) -/
def x33b : XC := (.seq (.region [⟨(some 1), (.box (.t 0)), none, 0, []⟩, ⟨(some 2), (.mv (.c (.b false))), none, 1, []⟩])
  (.seq (.region [⟨(some 3), (.fadd 0 (.t 1)), none, 0, []⟩, ⟨(some 4), (.load false 1 (.t 3)), none, 1, []⟩, ⟨(some 5), (.bin .neq (.t 4) (.c (.i .u8 0))), none, 2, []⟩, ⟨(some 6), (.mv (.t 5)), none, 3, []⟩, ⟨(some 7), (.fadd 11 (.t 1)), (some (6, false)), 4, []⟩, ⟨(some 8), (.load false 1 (.t 7)), (some (6, false)), 5, []⟩, ⟨(some 9), (.lenx (.t 8)), (some (6, false)), 6, []⟩, ⟨(some 10), (.bin .eql (.t 9) (.c (.i .i64 0))), (some (6, false)), 7, []⟩, ⟨(some 11), (.pick (.t 6) (.c (.b true)) (.t 10)), none, 8, []⟩, ⟨(some 2), (.mv (.t 11)), none, 9, []⟩])
  .ret))
def x33 : XFun := ⟨x33b, [(.t 2)]⟩
theorem x33_ok : compF Try.prog 33 = some x33 := by kernel_rfl
/-- slices.Clone[[]byte,byte] (8) -/
def x34b : XC := (.seq (.region [⟨(some 2), (.mv (.c (.sl none 0 0 0))), none, 0, []⟩])
  (.seq (.seq (.region [⟨(some 3), (.mv (.t 0)), none, 0, []⟩, ⟨(some 4), (.nilq 1 false (.t 3)), none, 1, []⟩])
  (.cond (.t 4) (.seq (.region [⟨(some 2), (.mv (.c (.sl none 0 0 0))), none, 0, []⟩])
  .ret) .skip))
  (.seq (.region [⟨(some 5), (.bslice [] [] 0), none, 0, []⟩, ⟨(some 6), (.mv (.t 0)), none, 1, []⟩, ⟨(some 7), (.append 1 1 (.t 5) (.t 6)), none, 2, []⟩, ⟨(some 2), (.mv (.t 7)), none, 3, []⟩])
  .ret)))
def x34 : XFun := ⟨x34b, [(.t 2)]⟩
theorem x34_ok : compF Try.prog 34 = some x34 := by kernel_rfl
/-- (*bollard/sendq.Queue).in (6) -/
def x35b : XC := (.seq (.region [⟨(some 2), (.box (.t 0)), none, 0, []⟩, ⟨(some 3), (.box (.t 1)), none, 1, []⟩, ⟨(some 4), (.mv (.c .nf)), none, 2, []⟩])
  (.seq (.region [⟨(some 5), (.mkf (.func 59) [] [(.t 2), (.t 3)]), none, 0, []⟩, ⟨(some 4), (.mv (.t 5)), none, 1, []⟩])
  .ret))
def x35 : XFun := ⟨x35b, [(.t 4)]⟩
theorem x35_ok : compF Try.prog 35 = some x35 := by kernel_rfl
/-- (*bollard/sendq.entry).size (9) -/
def x36b : XC := (.seq (.region [⟨(some 2), (.mv (.c (.i .i64 0))), none, 0, []⟩])
  (.seq (.region [⟨(some 3), (.mv (.t 0)), none, 0, []⟩, ⟨(some 4), (.nilc (.t 3)), none, 1, []⟩, ⟨(some 5), (.fadd 0 (.t 4)), none, 2, []⟩, ⟨(some 6), (.fadd 11 (.t 5)), none, 3, []⟩, ⟨(some 7), (.load false 1 (.t 6)), none, 4, []⟩, ⟨(some 8), (.lenx (.t 7)), none, 5, []⟩, ⟨(some 2), (.mv (.t 8)), none, 6, []⟩])
  .ret))
def x36 : XFun := ⟨x36b, [(.t 2)]⟩
theorem x36_ok : compF Try.prog 36 = some x36 := by kernel_rfl
/-- (*bollard/sendq.Queue).reached (32) -/
def x37b : XC := (.seq (.region [⟨(some 4), (.mv (.c (.i .i64 0))), none, 0, []⟩, ⟨(some 5), (.mv (.c (.b false))), none, 1, []⟩])
  (.seq (.region [⟨(some 7), (.mv (.t 0)), none, 0, []⟩, ⟨(some 8), (.call (.c (.fn (.func 17) [] [])) [(.t 7)]), none, 1, []⟩, ⟨(some 9), (.mv (.t 1)), none, 2, []⟩, ⟨(some 10), (.call (.c (.fn (.func 21) [] [])) [(.t 8), (.t 9)]), none, 3, []⟩, ⟨(some 11), (.cint .i64 (.t 10)), none, 4, []⟩, ⟨(some 6), (.mv (.t 11)), none, 5, []⟩])
  (.seq (.seq (.region [⟨(some 12), (.mv (.t 0)), none, 0, []⟩, ⟨(some 13), (.nilq 0 false (.t 12)), none, 1, []⟩, ⟨(some 14), (.mv (.t 13)), none, 2, []⟩, ⟨(some 15), (.mv (.t 6)), (some (14, false)), 3, []⟩, ⟨(some 16), (.mv (.t 0)), (some (14, false)), 4, []⟩, ⟨(some 17), (.nilc (.t 16)), (some (14, false)), 5, []⟩, ⟨(some 18), (.fadd 0 (.t 17)), (some (14, false)), 6, []⟩, ⟨(some 19), (.load false 1 (.t 18)), (some (14, false)), 7, []⟩, ⟨(some 20), (.lenx (.t 19)), (some (14, false)), 8, []⟩, ⟨(some 21), (.bin .gtr (.t 15) (.t 20)), (some (14, false)), 9, []⟩, ⟨(some 22), (.pick (.t 14) (.c (.b true)) (.t 21)), none, 10, []⟩])
  (.cond (.t 22) (.seq (.region [⟨(some 4), (.mv (.c (.i .i64 0))), none, 0, []⟩, ⟨(some 5), (.mv (.c (.b false))), none, 1, []⟩])
  .ret) .skip))
  (.seq (.region [⟨(some 23), (.mv (.t 6)), none, 0, []⟩, ⟨(some 24), (.mv (.t 0)), none, 1, []⟩, ⟨(some 25), (.nilc (.t 24)), none, 2, []⟩, ⟨(some 26), (.fadd 0 (.t 25)), none, 3, []⟩, ⟨(some 27), (.load false 1 (.t 26)), none, 4, []⟩, ⟨(some 28), (.mv (.t 6)), none, 5, []⟩, ⟨(some 29), (.slsl 1 (.t 27) none (some (.t 28)) none), none, 6, []⟩, ⟨(some 30), (.call (.c (.fn (.func 61) [] [])) [(.t 29), (.c (.fn (.func 62) [] []))]), none, 7, []⟩, ⟨(some 31), (.unx .not (.t 30)), none, 8, []⟩, ⟨(some 4), (.mv (.t 23)), none, 9, []⟩, ⟨(some 5), (.mv (.t 31)), none, 10, []⟩])
  .ret))))
def x37 : XFun := ⟨x37b, [(.t 4), (.t 5)]⟩
theorem x37_ok : compF Try.prog 37 = some x37 := by kernel_rfl
/-- (*bollard/sendq.Queue).drop (66) -/
def x38b : XC := (.seq (.region [⟨(some 6), (.alloc [(.i .i64 0), (.i .i64 0), (.b false), (.b false)]), none, 0, []⟩])
  (.seq (.region [⟨(some 10), (.mv (.t 1)), none, 0, []⟩, ⟨(some 11), (.bin .gtr (.t 10) (.c (.i .i64 0))), none, 1, []⟩, ⟨(some 12), (.build [(.i .i64 0), (.i .i64 0), (.b false), (.b false)] [(1, 1, (.c (.i .i64 (-1)))), (3, 1, (.t 11))]), none, 2, []⟩, ⟨(some 7), (.alloc [(.i .i64 0), (.i .i64 0), (.b false), (.b false)]), none, 3, []⟩, ⟨none, (.store 4 (.t 7) (.t 12)), none, 4, []⟩])
  (.seq (.seq (.region [⟨(some 13), (.mv (.t 0)), none, 0, []⟩, ⟨(some 14), (.nilc (.t 13)), none, 1, []⟩, ⟨(some 15), (.fadd 0 (.t 14)), none, 2, []⟩, ⟨(some 16), (.load false 1 (.t 15)), none, 3, []⟩, ⟨(some 17), (.mv (.t 1)), none, 4, []⟩, ⟨(some 18), (.slsl 1 (.t 16) none (some (.t 17)) none), none, 5, []⟩, ⟨(some 19), (.lenx (.t 18)), none, 6, []⟩, ⟨(some 20), (.mv (.c (.i .i64 0))), none, 7, []⟩])
  (.block 0 (.loop (.seq (.region [⟨(some 21), (.bin .lss (.t 20) (.t 19)), none, 0, []⟩])
  (.seq (.cond (.t 21) .skip (.exit 0))
  (.seq (.block 1 (.seq (.region [⟨(some 22), (.isl 1 (.t 18) (.t 20)), none, 0, []⟩, ⟨(some 23), (.load false 1 (.t 22)), none, 1, []⟩, ⟨(some 9), (.mv (.t 23)), none, 2, []⟩])
  (.seq (.seq (.region [⟨(some 24), (.mv (.t 9)), none, 0, []⟩, ⟨(some 25), (.nilc (.t 24)), none, 1, []⟩, ⟨(some 26), (.fadd 13 (.t 25)), none, 2, []⟩, ⟨(some 27), (.load false 1 (.t 26)), none, 3, []⟩, ⟨(some 28), (.bin .eql (.t 27) (.c (.i .i64 3))), none, 4, []⟩, ⟨(some 29), (.mv (.t 28)), none, 5, []⟩, ⟨(some 30), (.mv (.t 9)), (some (29, false)), 6, []⟩, ⟨(some 31), (.nilc (.t 30)), (some (29, false)), 7, []⟩, ⟨(some 32), (.fadd 13 (.t 31)), (some (29, false)), 8, []⟩, ⟨(some 33), (.load false 1 (.t 32)), (some (29, false)), 9, []⟩, ⟨(some 34), (.bin .eql (.t 33) (.c (.i .i64 4))), (some (29, false)), 10, []⟩, ⟨(some 35), (.pick (.t 29) (.c (.b true)) (.t 34)), none, 11, []⟩])
  (.cond (.t 35) (.exit 1) .skip))
  (.seq (.draw [⟨(some 36), (.fadd 0 (.t 7)), none, 0, []⟩, ⟨(some 38), (.mv (.t 9)), none, 2, []⟩, ⟨(some 37), (.load false 1 (.t 36)), none, 1, [0]⟩, ⟨(some 39), (.call (.c (.fn (.func 36) [] [])) [(.t 38)]), none, 3, [2]⟩, ⟨(some 40), (.bin .add (.t 37) (.t 39)), none, 4, [0, 1, 2, 3]⟩, ⟨(some 41), (.fadd 0 (.t 7)), none, 5, [0, 1, 2, 3, 4]⟩, ⟨none, (.store 1 (.t 41) (.t 40)), none, 6, [0, 1, 2, 3, 4, 5]⟩])
  (.seq (.region [⟨(some 42), (.mv (.t 9)), none, 0, []⟩, ⟨(some 43), (.nilc (.t 42)), none, 1, []⟩, ⟨(some 44), (.fadd 14 (.t 43)), none, 2, []⟩, ⟨(some 45), (.load false 1 (.t 44)), none, 3, []⟩, ⟨(some 46), (.bin .eql (.t 45) (.c (.i .i64 1))), none, 4, []⟩])
  (.cond (.t 46) (.region [⟨(some 47), (.mv (.t 2)), none, 0, []⟩, ⟨(some 48), (.mv (.t 9)), none, 1, []⟩, ⟨(some 49), (.nilc (.t 48)), none, 2, []⟩, ⟨(some 50), (.fadd 15 (.t 49)), none, 3, []⟩, ⟨(some 51), (.load false 1 (.t 50)), none, 4, []⟩, ⟨(some 52), (.bin .sub (.t 47) (.t 51)), none, 5, []⟩, ⟨(some 53), (.fadd 1 (.t 7)), none, 6, []⟩, ⟨none, (.store 1 (.t 53) (.t 52)), none, 7, []⟩]) .skip))))))
  (.region [⟨(some 54), (.bin .add (.t 20) (.c (.i .i64 1))), none, 0, []⟩, ⟨(some 20), (.mv (.t 54)), none, 1, []⟩])))))))
  (.seq (.region [⟨(some 55), (.mv (.t 0)), none, 0, []⟩, ⟨(some 56), (.mv (.t 0)), none, 1, []⟩, ⟨(some 57), (.nilc (.t 56)), none, 2, []⟩, ⟨(some 58), (.fadd 0 (.t 57)), none, 3, []⟩, ⟨(some 59), (.load false 1 (.t 58)), none, 4, []⟩, ⟨(some 60), (.mv (.t 1)), none, 5, []⟩, ⟨(some 61), (.slsl 1 (.t 59) (some (.t 60)) none none), none, 6, []⟩, ⟨(some 62), (.call (.c (.fn (.func 63) [] [])) [(.t 61)]), none, 7, []⟩, ⟨(some 63), (.nilc (.t 55)), none, 8, []⟩, ⟨(some 64), (.fadd 0 (.t 63)), none, 9, []⟩, ⟨none, (.store 1 (.t 64) (.t 62)), none, 10, []⟩])
  (.seq (.region [⟨(some 65), (.load true 4 (.t 7)), none, 0, []⟩, ⟨none, (.store 4 (.t 6) (.t 65)), none, 1, []⟩])
  .ret)))))
def x38 : XFun := ⟨x38b, [(.cell 6 true 4)]⟩
theorem x38_ok : compF Try.prog 38 = some x38 := by kernel_rfl
/-- (*bollard/sendq.Queue).mark (68) -/
def x39b : XC := (.seq (.region [⟨(some 4), (.mv (.c (.i .i64 0))), none, 0, []⟩, ⟨(some 5), (.mv (.c (.i .i64 0))), none, 1, []⟩])
  (.seq (.region [⟨(some 6), (.mv (.c (.i .i64 0))), none, 0, []⟩, ⟨(some 7), (.mv (.c (.i .i64 0))), none, 1, []⟩])
  (.seq (.seq (.region [⟨(some 11), (.mv (.t 0)), none, 0, []⟩, ⟨(some 12), (.nilc (.t 11)), none, 1, []⟩, ⟨(some 13), (.fadd 0 (.t 12)), none, 2, []⟩, ⟨(some 14), (.load false 1 (.t 13)), none, 3, []⟩, ⟨(some 15), (.lenx (.t 14)), none, 4, []⟩, ⟨(some 16), (.mv (.c (.i .i64 0))), none, 5, []⟩])
  (.block 0 (.loop (.seq (.region [⟨(some 17), (.bin .lss (.t 16) (.t 15)), none, 0, []⟩])
  (.seq (.cond (.t 17) .skip (.exit 0))
  (.seq (.block 1 (.seq (.region [⟨(some 18), (.mv (.t 16)), none, 0, []⟩, ⟨(some 19), (.isl 1 (.t 14) (.t 16)), none, 1, []⟩, ⟨(some 20), (.load false 1 (.t 19)), none, 2, []⟩, ⟨(some 8), (.mv (.t 18)), none, 3, []⟩, ⟨(some 9), (.mv (.t 20)), none, 4, []⟩])
  (.seq (.region [⟨(some 21), (.mv (.t 1)), none, 0, []⟩, ⟨(some 22), (.mv (.t 8)), none, 1, []⟩, ⟨(some 23), (.bin .add (.t 22) (.c (.i .i64 1))), none, 2, []⟩, ⟨(some 24), (.call (.c (.fn (.func 64) [] [])) [(.t 21), (.t 23)]), none, 3, []⟩, ⟨(some 10), (.mv (.t 24)), none, 4, []⟩])
  (.block 2 (.seq (.region [⟨(some 26), (.mv (.t 10)), none, 0, []⟩, ⟨(some 27), (.mv (.t 26)), none, 1, []⟩, ⟨(some 28), (.mv (.t 9)), (some (27, true)), 2, []⟩, ⟨(some 29), (.nilc (.t 28)), (some (27, true)), 3, []⟩, ⟨(some 30), (.fadd 13 (.t 29)), (some (27, true)), 4, []⟩, ⟨(some 31), (.load false 1 (.t 30)), (some (27, true)), 5, []⟩, ⟨(some 32), (.bin .eql (.t 31) (.c (.i .i64 1))), (some (27, true)), 6, []⟩, ⟨(some 33), (.mv (.t 32)), (some (27, true)), 7, []⟩, ⟨(some 34), (.mv (.t 9)), (some (33, false)), 8, []⟩, ⟨(some 35), (.nilc (.t 34)), (some (33, false)), 9, []⟩, ⟨(some 36), (.fadd 13 (.t 35)), (some (33, false)), 10, []⟩, ⟨(some 37), (.load false 1 (.t 36)), (some (33, false)), 11, []⟩, ⟨(some 38), (.bin .eql (.t 37) (.c (.i .i64 2))), (some (33, false)), 12, []⟩, ⟨(some 39), (.pick (.t 33) (.c (.b true)) (.t 38)), (some (27, true)), 13, []⟩, ⟨(some 40), (.pick (.t 27) (.t 39) (.c (.b false))), none, 14, []⟩, ⟨(some 25), (.mv (.t 40)), none, 15, []⟩])
  (.cond (.t 25) (.seq (.region [⟨(some 41), (.mv (.t 9)), none, 0, []⟩, ⟨(some 42), (.nilc (.t 41)), none, 1, []⟩, ⟨(some 43), (.fadd 13 (.t 42)), none, 2, []⟩, ⟨none, (.store 1 (.t 43) (.c (.i .i64 3))), none, 3, []⟩])
  (.seq (.region [⟨(some 44), (.mv (.t 6)), none, 0, []⟩, ⟨(some 45), (.mv (.t 9)), none, 1, []⟩, ⟨(some 46), (.call (.c (.fn (.func 36) [] [])) [(.t 45)]), none, 2, []⟩, ⟨(some 47), (.bin .add (.t 44) (.t 46)), none, 3, []⟩, ⟨(some 6), (.mv (.t 47)), none, 4, []⟩])
  (.region [⟨(some 48), (.mv (.t 8)), none, 0, []⟩, ⟨(some 7), (.mv (.t 48)), none, 1, []⟩]))) (.seq (.region [⟨(some 50), (.mv (.t 10)), none, 0, []⟩, ⟨(some 51), (.unx .not (.t 50)), none, 1, []⟩, ⟨(some 52), (.mv (.t 51)), none, 2, []⟩, ⟨(some 53), (.mv (.t 9)), (some (52, true)), 3, []⟩, ⟨(some 54), (.nilc (.t 53)), (some (52, true)), 4, []⟩, ⟨(some 55), (.fadd 13 (.t 54)), (some (52, true)), 5, []⟩, ⟨(some 56), (.load false 1 (.t 55)), (some (52, true)), 6, []⟩, ⟨(some 57), (.bin .eql (.t 56) (.c (.i .i64 3))), (some (52, true)), 7, []⟩, ⟨(some 58), (.pick (.t 52) (.t 57) (.c (.b false))), none, 8, []⟩, ⟨(some 49), (.mv (.t 58)), none, 9, []⟩])
  (.cond (.t 49) (.region [⟨(some 59), (.mv (.t 9)), none, 0, []⟩, ⟨(some 60), (.mv (.t 9)), none, 1, []⟩, ⟨(some 61), (.nilc (.t 59)), none, 2, []⟩, ⟨(some 62), (.fadd 13 (.t 61)), none, 3, []⟩, ⟨none, (.store 1 (.t 62) (.c (.i .i64 1))), none, 4, []⟩, ⟨(some 63), (.nilc (.t 60)), none, 5, []⟩, ⟨(some 64), (.fadd 16 (.t 63)), none, 6, []⟩, ⟨none, (.store 1 (.t 64) (.c (.i .i64 0))), none, 7, []⟩]) .skip))))))))
  (.region [⟨(some 65), (.bin .add (.t 16) (.c (.i .i64 1))), none, 0, []⟩, ⟨(some 16), (.mv (.t 65)), none, 1, []⟩])))))))
  (.seq (.region [⟨(some 66), (.mv (.t 6)), none, 0, []⟩, ⟨(some 67), (.mv (.t 7)), none, 1, []⟩, ⟨(some 4), (.mv (.t 66)), none, 2, []⟩, ⟨(some 5), (.mv (.t 67)), none, 3, []⟩])
  .ret))))
def x39 : XFun := ⟨x39b, [(.t 4), (.t 5)]⟩
theorem x39_ok : compF Try.prog 39 = some x39 := by kernel_rfl
/-- bollard/sendq.miss (34) -/
def x40b : XC := (.seq (.region [⟨(some 2), (.mv (.c (.b false))), none, 0, []⟩])
  (.seq (.region [⟨(some 3), (.mv (.c (.b false))), none, 0, []⟩])
  (.seq (.seq (.region [⟨(some 6), (.mv (.t 0)), none, 0, []⟩, ⟨(some 7), (.lenx (.t 6)), none, 1, []⟩, ⟨(some 8), (.mv (.c (.i .i64 0))), none, 2, []⟩])
  (.block 0 (.loop (.seq (.region [⟨(some 9), (.bin .lss (.t 8) (.t 7)), none, 0, []⟩])
  (.seq (.cond (.t 9) .skip (.exit 0))
  (.seq (.block 1 (.seq (.region [⟨(some 10), (.isl 1 (.t 6) (.t 8)), none, 0, []⟩, ⟨(some 11), (.load false 1 (.t 10)), none, 1, []⟩, ⟨(some 5), (.mv (.t 11)), none, 2, []⟩])
  (.seq (.seq (.region [⟨(some 12), (.mv (.t 5)), none, 0, []⟩, ⟨(some 13), (.nilc (.t 12)), none, 1, []⟩, ⟨(some 14), (.fadd 13 (.t 13)), none, 2, []⟩, ⟨(some 15), (.load false 1 (.t 14)), none, 3, []⟩, ⟨(some 16), (.bin .neq (.t 15) (.c (.i .i64 1))), none, 4, []⟩])
  (.cond (.t 16) (.exit 1) .skip))
  (.seq (.region [⟨(some 17), (.mv (.t 5)), none, 0, []⟩, ⟨(some 18), (.nilc (.t 17)), none, 1, []⟩, ⟨(some 19), (.fadd 16 (.t 18)), none, 2, []⟩, ⟨(some 20), (.load false 1 (.t 19)), none, 3, []⟩, ⟨(some 21), (.bin .add (.t 20) (.c (.i .i64 1))), none, 4, []⟩, ⟨(some 22), (.nilc (.t 17)), none, 5, []⟩, ⟨(some 23), (.fadd 16 (.t 22)), none, 6, []⟩, ⟨none, (.store 1 (.t 23) (.t 21)), none, 7, []⟩])
  (.seq (.region [⟨(some 24), (.mv (.t 5)), none, 0, []⟩, ⟨(some 25), (.nilc (.t 24)), none, 1, []⟩, ⟨(some 26), (.fadd 16 (.t 25)), none, 2, []⟩, ⟨(some 27), (.load false 1 (.t 26)), none, 3, []⟩, ⟨(some 28), (.bin .geq (.t 27) (.c (.i .i64 3))), none, 4, []⟩])
  (.cond (.t 28) (.seq (.region [⟨(some 29), (.mv (.t 5)), none, 0, []⟩, ⟨(some 30), (.nilc (.t 29)), none, 1, []⟩, ⟨(some 31), (.fadd 13 (.t 30)), none, 2, []⟩, ⟨none, (.store 1 (.t 31) (.c (.i .i64 2))), none, 3, []⟩])
  (.region [⟨(some 3), (.mv (.c (.b true))), none, 0, []⟩])) .skip))))))
  (.region [⟨(some 32), (.bin .add (.t 8) (.c (.i .i64 1))), none, 0, []⟩, ⟨(some 8), (.mv (.t 32)), none, 1, []⟩])))))))
  (.seq (.region [⟨(some 33), (.mv (.t 3)), none, 0, []⟩, ⟨(some 2), (.mv (.t 33)), none, 1, []⟩])
  .ret))))
def x40 : XFun := ⟨x40b, [(.t 2)]⟩
theorem x40_ok : compF Try.prog 40 = some x40 := by kernel_rfl
/-- (*bollard/sendq.Queue).octets (9) -/
def x41b : XC := (.seq (.region [⟨(some 4), (.mv (.c (.i .i64 0))), none, 0, []⟩])
  (.seq (.region [⟨(some 5), (.mv (.t 0)), none, 0, []⟩, ⟨(some 6), (.mv (.t 1)), none, 1, []⟩, ⟨(some 7), (.call (.c (.fn (.func 35) [] [])) [(.t 5), (.t 6)]), none, 2, []⟩, ⟨(some 8), (.call (.c (.fn (.func 65) [] [])) [(.t 7), (.c (.fn (.func 36) [] []))]), none, 3, []⟩, ⟨(some 4), (.mv (.t 8)), none, 4, []⟩])
  .ret))
def x41 : XFun := ⟨x41b, [(.t 4)]⟩
theorem x41_ok : compF Try.prog 41 = some x41 := by kernel_rfl
/-- (*bollard/sendq.entry).over (59) -/
def x43b : XC := (.seq (.region [⟨(some 4), (.mv (.c (.b false))), none, 0, []⟩])
  (.seq (.region [⟨(some 7), (.mv (.t 0)), none, 0, []⟩, ⟨(some 8), (.nilc (.t 7)), none, 1, []⟩, ⟨(some 9), (.fadd 12 (.t 8)), none, 2, []⟩, ⟨(some 10), (.load false 1 (.t 9)), none, 3, []⟩, ⟨(some 11), (.nilc (.t 10)), none, 4, []⟩, ⟨(some 12), (.fadd 0 (.t 11)), none, 5, []⟩, ⟨(some 13), (.load false 1 (.t 12)), none, 6, []⟩, ⟨(some 14), (.bin .geq (.t 13) (.c (.i .i64 0))), none, 7, []⟩, ⟨(some 15), (.mv (.t 14)), none, 8, []⟩, ⟨(some 16), (.mv (.t 0)), (some (15, true)), 9, []⟩, ⟨(some 17), (.nilc (.t 16)), (some (15, true)), 10, []⟩, ⟨(some 18), (.fadd 12 (.t 17)), (some (15, true)), 11, []⟩, ⟨(some 19), (.load false 1 (.t 18)), (some (15, true)), 12, []⟩, ⟨(some 20), (.nilc (.t 19)), (some (15, true)), 13, []⟩, ⟨(some 21), (.fadd 0 (.t 20)), (some (15, true)), 14, []⟩, ⟨(some 22), (.load false 1 (.t 21)), (some (15, true)), 15, []⟩, ⟨(some 23), (.mv (.t 1)), (some (15, true)), 16, []⟩, ⟨(some 24), (.bin .lss (.t 22) (.t 23)), (some (15, true)), 17, []⟩, ⟨(some 25), (.pick (.t 15) (.t 24) (.c (.b false))), none, 18, []⟩, ⟨(some 5), (.mv (.t 25)), none, 19, []⟩])
  (.seq (.draw [⟨(some 26), (.mv (.t 0)), none, 0, []⟩, ⟨(some 27), (.nilc (.t 26)), none, 1, [0]⟩, ⟨(some 28), (.fadd 12 (.t 27)), none, 2, [0, 1]⟩, ⟨(some 29), (.load false 1 (.t 28)), none, 3, [0, 1, 2]⟩, ⟨(some 30), (.nilc (.t 29)), none, 4, [0, 1, 2, 3]⟩, ⟨(some 31), (.fadd 1 (.t 30)), none, 5, [0, 1, 2, 3, 4]⟩, ⟨(some 32), (.load false 1 (.t 31)), none, 6, [0, 1, 2, 3, 4, 5]⟩, ⟨(some 33), (.bin .geq (.t 32) (.c (.i .i64 0))), none, 7, [0, 1, 2, 3, 4, 5, 6]⟩, ⟨(some 34), (.mv (.t 33)), none, 8, [0, 1, 2, 3, 4, 5, 6, 7]⟩, ⟨(some 35), (.mv (.t 0)), (some (34, true)), 9, [0, 1, 2, 3, 4, 5, 6, 7, 8]⟩, ⟨(some 36), (.nilc (.t 35)), (some (34, true)), 10, [0, 1, 2, 3, 4, 5, 6, 7, 8, 9]⟩, ⟨(some 37), (.fadd 13 (.t 36)), (some (34, true)), 11, [0, 1, 2, 3, 4, 5, 6, 7, 8, 9, 10]⟩, ⟨(some 38), (.load false 1 (.t 37)), (some (34, true)), 12, [0, 1, 2, 3, 4, 5, 6, 7, 8, 9, 10, 11]⟩, ⟨(some 39), (.bin .eql (.t 38) (.c (.i .i64 2))), (some (34, true)), 13, [0, 1, 2, 3, 4, 5, 6, 7, 8, 9, 10, 11, 12]⟩, ⟨(some 40), (.pick (.t 34) (.t 39) (.c (.b false))), none, 14, [0, 1, 2, 3, 4, 5, 6, 7, 8, 9, 10, 11, 12, 13]⟩, ⟨(some 41), (.mv (.t 40)), none, 15, [0, 1, 2, 3, 4, 5, 6, 7, 8, 9, 10, 11, 12, 13, 14]⟩, ⟨(some 42), (.mv (.t 0)), (some (41, true)), 16, [0, 1, 2, 3, 4, 5, 6, 7, 8, 9, 10, 11, 12, 13, 14, 15]⟩, ⟨(some 43), (.nilc (.t 42)), (some (41, true)), 17, [0, 1, 2, 3, 4, 5, 6, 7, 8, 9, 10, 11, 12, 13, 14, 15, 16]⟩, ⟨(some 44), (.fadd 14 (.t 43)), (some (41, true)), 18, [0, 1, 2, 3, 4, 5, 6, 7, 8, 9, 10, 11, 12, 13, 14, 15, 16, 17]⟩, ⟨(some 46), (.mv (.t 0)), (some (41, true)), 20, [0, 1, 2, 3, 4, 5, 6, 7, 8, 9, 10, 11, 12, 13, 14, 15]⟩, ⟨(some 47), (.nilc (.t 46)), (some (41, true)), 21, [0, 1, 2, 3, 4, 5, 6, 7, 8, 9, 10, 11, 12, 13, 14, 15, 20]⟩, ⟨(some 48), (.fadd 12 (.t 47)), (some (41, true)), 22, [0, 1, 2, 3, 4, 5, 6, 7, 8, 9, 10, 11, 12, 13, 14, 15, 20, 21]⟩, ⟨(some 45), (.load false 1 (.t 44)), (some (41, true)), 19, [0, 1, 2, 3, 4, 5, 6, 7, 8, 9, 10, 11, 12, 13, 14, 15, 16, 17, 18]⟩, ⟨(some 49), (.load false 1 (.t 48)), (some (41, true)), 23, [0, 1, 2, 3, 4, 5, 6, 7, 8, 9, 10, 11, 12, 13, 14, 15, 20, 21, 22]⟩, ⟨(some 50), (.nilc (.t 49)), (some (41, true)), 24, [0, 1, 2, 3, 4, 5, 6, 7, 8, 9, 10, 11, 12, 13, 14, 15, 20, 21, 22, 23]⟩, ⟨(some 51), (.fadd 1 (.t 50)), (some (41, true)), 25, [0, 1, 2, 3, 4, 5, 6, 7, 8, 9, 10, 11, 12, 13, 14, 15, 20, 21, 22, 23, 24]⟩, ⟨(some 52), (.load false 1 (.t 51)), (some (41, true)), 26, [0, 1, 2, 3, 4, 5, 6, 7, 8, 9, 10, 11, 12, 13, 14, 15, 20, 21, 22, 23, 24, 25]⟩, ⟨(some 53), (.bin .gtr (.t 45) (.t 52)), (some (41, true)), 27, [0, 1, 2, 3, 4, 5, 6, 7, 8, 9, 10, 11, 12, 13, 14, 15, 16, 17, 18, 19, 20, 21, 22, 23, 24, 25, 26]⟩, ⟨(some 54), (.pick (.t 41) (.t 53) (.c (.b false))), none, 28, [0, 1, 2, 3, 4, 5, 6, 7, 8, 9, 10, 11, 12, 13, 14, 15, 16, 17, 18, 19, 20, 21, 22, 23, 24, 25, 26, 27]⟩, ⟨(some 6), (.mv (.t 54)), none, 29, [0, 1, 2, 3, 4, 5, 6, 7, 8, 9, 10, 11, 12, 13, 14, 15, 16, 17, 18, 19, 20, 21, 22, 23, 24, 25, 26, 27, 28]⟩])
  (.seq (.region [⟨(some 55), (.mv (.t 5)), none, 0, []⟩, ⟨(some 56), (.mv (.t 55)), none, 1, []⟩, ⟨(some 57), (.mv (.t 6)), (some (56, false)), 2, []⟩, ⟨(some 58), (.pick (.t 56) (.c (.b true)) (.t 57)), none, 3, []⟩, ⟨(some 4), (.mv (.t 58)), none, 4, []⟩])
  .ret))))
def x43 : XFun := ⟨x43b, [(.t 4)]⟩
theorem x43_ok : compF Try.prog 43 = some x43 := by kernel_rfl
/-- (*bollard/sendq.Queue).done (23) -/
def x44b : XC := (.seq (.region [⟨(some 2), (.mv (.c (.sl none 0 0 0))), none, 0, []⟩])
  (.seq (.seq (.region [⟨(some 4), (.mv (.t 0)), none, 0, []⟩, ⟨(some 5), (.nilq 0 false (.t 4)), none, 1, []⟩])
  (.cond (.t 5) (.seq (.region [⟨(some 2), (.mv (.c (.sl none 0 0 0))), none, 0, []⟩])
  .ret) .skip))
  (.seq (.region [⟨(some 6), (.mv (.t 0)), none, 0, []⟩, ⟨(some 7), (.nilc (.t 6)), none, 1, []⟩, ⟨(some 8), (.fadd 0 (.t 7)), none, 2, []⟩, ⟨(some 9), (.load false 1 (.t 8)), none, 3, []⟩, ⟨(some 10), (.call (.c (.fn (.func 66) [] [])) [(.t 9), (.c (.fn (.func 67) [] []))]), none, 4, []⟩, ⟨(some 3), (.mv (.t 10)), none, 5, []⟩])
  (.seq (.seq (.region [⟨(some 11), (.mv (.t 3)), none, 0, []⟩, ⟨(some 12), (.bin .lss (.t 11) (.c (.i .i64 0))), none, 1, []⟩])
  (.cond (.t 12) (.seq (.region [⟨(some 13), (.mv (.t 0)), none, 0, []⟩, ⟨(some 14), (.nilc (.t 13)), none, 1, []⟩, ⟨(some 15), (.fadd 0 (.t 14)), none, 2, []⟩, ⟨(some 16), (.load false 1 (.t 15)), none, 3, []⟩, ⟨(some 2), (.mv (.t 16)), none, 4, []⟩])
  .ret) .skip))
  (.seq (.region [⟨(some 17), (.mv (.t 0)), none, 0, []⟩, ⟨(some 18), (.nilc (.t 17)), none, 1, []⟩, ⟨(some 19), (.fadd 0 (.t 18)), none, 2, []⟩, ⟨(some 20), (.load false 1 (.t 19)), none, 3, []⟩, ⟨(some 21), (.mv (.t 3)), none, 4, []⟩, ⟨(some 22), (.slsl 1 (.t 20) none (some (.t 21)) none), none, 5, []⟩, ⟨(some 2), (.mv (.t 22)), none, 6, []⟩])
  .ret)))))
def x44 : XFun := ⟨x44b, [(.t 2)]⟩
theorem x44_ok : compF Try.prog 44 = some x44 := by kernel_rfl
/-- slices.IndexFunc[[]bollard/api.Skip,bollard/api.Skip] (19) -/
def x45b : XC := (.seq (.region [⟨(some 4), (.mv (.c (.i .i64 0))), none, 0, []⟩])
  (.seq (.seq (.region [⟨(some 6), (.mv (.t 0)), none, 0, []⟩, ⟨(some 7), (.lenx (.t 6)), none, 1, []⟩, ⟨(some 8), (.mv (.c (.i .i64 0))), none, 2, []⟩])
  (.block 0 (.loop (.seq (.region [⟨(some 9), (.bin .lss (.t 8) (.t 7)), none, 0, []⟩])
  (.seq (.cond (.t 9) .skip (.exit 0))
  (.seq (.block 1 (.seq (.region [⟨(some 10), (.mv (.t 8)), none, 0, []⟩, ⟨(some 5), (.mv (.t 10)), none, 1, []⟩])
  (.seq (.region [⟨(some 11), (.mv (.t 1)), none, 0, []⟩, ⟨(some 12), (.mv (.t 0)), none, 1, []⟩, ⟨(some 13), (.mv (.t 5)), none, 2, []⟩, ⟨(some 14), (.isl 2 (.t 12) (.t 13)), none, 3, []⟩, ⟨(some 15), (.load true 2 (.t 14)), none, 4, []⟩, ⟨(some 16), (.call (.t 11) [(.t 15)]), none, 5, []⟩])
  (.cond (.t 16) (.seq (.region [⟨(some 17), (.mv (.t 5)), none, 0, []⟩, ⟨(some 4), (.mv (.t 17)), none, 1, []⟩])
  .ret) .skip))))
  (.region [⟨(some 18), (.bin .add (.t 8) (.c (.i .i64 1))), none, 0, []⟩, ⟨(some 8), (.mv (.t 18)), none, 1, []⟩])))))))
  (.seq (.region [⟨(some 4), (.mv (.c (.i .i64 (-1)))), none, 0, []⟩])
  .ret)))
def x45 : XFun := ⟨x45b, [(.t 4)]⟩
theorem x45_ok : compF Try.prog 45 = some x45 := by kernel_rfl
/-- (*bollard/sendq.Queue).Forward$1 (9) -/
def x46b : XC := (.seq (.region [⟨(some 2), (.box (.t 0)), none, 0, []⟩, ⟨(some 3), (.mv (.c (.b false))), none, 1, []⟩])
  (.seq (.region [⟨(some 4), (.fadd 0 (.t 2)), none, 0, []⟩, ⟨(some 5), (.load false 1 (.t 4)), none, 1, []⟩, ⟨(some 6), (.fadd 0 (.t 1)), none, 2, []⟩, ⟨(some 7), (.load false 1 (.t 6)), none, 3, []⟩, ⟨(some 8), (.bin .eql (.t 5) (.t 7)), none, 4, []⟩, ⟨(some 3), (.mv (.t 8)), none, 5, []⟩])
  .ret))
def x46 : XFun := ⟨x46b, [(.t 3)]⟩
theorem x46_ok : compF Try.prog 46 = some x46 := by kernel_rfl
/-- slices.IndexFunc[[]bollard/api.Chunk,bollard/api.Chunk] (19) -/
def x58b : XC := (.seq (.region [⟨(some 4), (.mv (.c (.i .i64 0))), none, 0, []⟩])
  (.seq (.seq (.region [⟨(some 6), (.mv (.t 0)), none, 0, []⟩, ⟨(some 7), (.lenx (.t 6)), none, 1, []⟩, ⟨(some 8), (.mv (.c (.i .i64 0))), none, 2, []⟩])
  (.block 0 (.loop (.seq (.region [⟨(some 9), (.bin .lss (.t 8) (.t 7)), none, 0, []⟩])
  (.seq (.cond (.t 9) .skip (.exit 0))
  (.seq (.block 1 (.seq (.region [⟨(some 10), (.mv (.t 8)), none, 0, []⟩, ⟨(some 5), (.mv (.t 10)), none, 1, []⟩])
  (.seq (.region [⟨(some 11), (.mv (.t 1)), none, 0, []⟩, ⟨(some 12), (.mv (.t 0)), none, 1, []⟩, ⟨(some 13), (.mv (.t 5)), none, 2, []⟩, ⟨(some 14), (.isl 12 (.t 12) (.t 13)), none, 3, []⟩, ⟨(some 15), (.load true 12 (.t 14)), none, 4, []⟩, ⟨(some 16), (.call (.t 11) [(.t 15)]), none, 5, []⟩])
  (.cond (.t 16) (.seq (.region [⟨(some 17), (.mv (.t 5)), none, 0, []⟩, ⟨(some 4), (.mv (.t 17)), none, 1, []⟩])
  .ret) .skip))))
  (.region [⟨(some 18), (.bin .add (.t 8) (.c (.i .i64 1))), none, 0, []⟩, ⟨(some 8), (.mv (.t 18)), none, 1, []⟩])))))))
  (.seq (.region [⟨(some 4), (.mv (.c (.i .i64 (-1)))), none, 0, []⟩])
  .ret)))
def x58 : XFun := ⟨x58b, [(.t 4)]⟩
theorem x58_ok : compF Try.prog 58 = some x58 := by kernel_rfl
/-- (*bollard/sendq.Queue).in$1 (30) -/
def x59b : XC := (.seq (.seq (.region [⟨(some 6), (.load false 1 (.t 1)), none, 0, []⟩, ⟨(some 7), (.nilq 0 false (.t 6)), none, 1, []⟩])
  (.cond (.t 7) .ret .skip))
  (.seq (.region [⟨(some 8), (.load false 1 (.t 1)), none, 0, []⟩, ⟨(some 9), (.nilc (.t 8)), none, 1, []⟩, ⟨(some 10), (.fadd 0 (.t 9)), none, 2, []⟩, ⟨(some 11), (.load false 1 (.t 10)), none, 3, []⟩, ⟨(some 12), (.lenx (.t 11)), none, 4, []⟩, ⟨(some 13), (.mv (.c (.i .i64 0))), none, 5, []⟩])
  (.block 0 (.loop (.seq (.region [⟨(some 14), (.bin .lss (.t 13) (.t 12)), none, 0, []⟩])
  (.seq (.cond (.t 14) .skip (.exit 0))
  (.seq (.block 1 (.seq (.region [⟨(some 15), (.isl 1 (.t 11) (.t 13)), none, 0, []⟩, ⟨(some 16), (.load false 1 (.t 15)), none, 1, []⟩, ⟨(some 5), (.mv (.t 16)), none, 2, []⟩])
  (.seq (.draw [⟨(some 18), (.mv (.t 5)), none, 1, []⟩, ⟨(some 19), (.nilc (.t 18)), none, 2, [1]⟩, ⟨(some 20), (.fadd 13 (.t 19)), none, 3, [1, 2]⟩, ⟨(some 17), (.load false 1 (.t 2)), none, 0, []⟩, ⟨(some 21), (.load false 1 (.t 20)), none, 4, [1, 2, 3]⟩, ⟨(some 22), (.call (.c (.fn (.func 60) [] [])) [(.t 17), (.t 21)]), none, 5, [0, 1, 2, 3, 4]⟩, ⟨(some 23), (.mv (.t 22)), none, 6, [0, 1, 2, 3, 4, 5]⟩, ⟨(some 24), (.mv (.t 0)), (some (23, true)), 7, [0, 1, 2, 3, 4, 5, 6]⟩, ⟨(some 25), (.mv (.t 5)), (some (23, true)), 8, [0, 1, 2, 3, 4, 5, 6]⟩, ⟨(some 26), (.call (.t 24) [(.t 25)]), (some (23, true)), 9, [0, 1, 2, 3, 4, 5, 6, 7, 8]⟩, ⟨(some 27), (.unx .not (.t 26)), (some (23, true)), 10, [0, 1, 2, 3, 4, 5, 6, 7, 8, 9]⟩, ⟨(some 28), (.pick (.t 23) (.t 27) (.c (.b false))), none, 11, [0, 1, 2, 3, 4, 5, 6, 7, 8, 9, 10]⟩])
  (.cond (.t 28) .ret .skip))))
  (.region [⟨(some 29), (.bin .add (.t 13) (.c (.i .i64 1))), none, 0, []⟩, ⟨(some 13), (.mv (.t 29)), none, 1, []⟩]))))))))
def x59 : XFun := ⟨x59b, []⟩
theorem x59_ok : compF Try.prog 59 = some x59 := by kernel_rfl
/-- slices.Contains[[]int,int] (9) -/
def x60b : XC := (.seq (.region [⟨(some 4), (.mv (.c (.b false))), none, 0, []⟩])
  (.seq (.region [⟨(some 5), (.mv (.t 0)), none, 0, []⟩, ⟨(some 6), (.mv (.t 1)), none, 1, []⟩, ⟨(some 7), (.call (.c (.fn (.func 72) [] [])) [(.t 5), (.t 6)]), none, 2, []⟩, ⟨(some 8), (.bin .geq (.t 7) (.c (.i .i64 0))), none, 3, []⟩, ⟨(some 4), (.mv (.t 8)), none, 4, []⟩])
  .ret))
def x60 : XFun := ⟨x60b, [(.t 4)]⟩
theorem x60_ok : compF Try.prog 60 = some x60 := by kernel_rfl
/-- slices.ContainsFunc[[]*bollard/sendq.entry,*bollard/sendq.entry] (9) -/
def x61b : XC := (.seq (.region [⟨(some 4), (.mv (.c (.b false))), none, 0, []⟩])
  (.seq (.region [⟨(some 5), (.mv (.t 0)), none, 0, []⟩, ⟨(some 6), (.mv (.t 1)), none, 1, []⟩, ⟨(some 7), (.call (.c (.fn (.func 66) [] [])) [(.t 5), (.t 6)]), none, 2, []⟩, ⟨(some 8), (.bin .geq (.t 7) (.c (.i .i64 0))), none, 3, []⟩, ⟨(some 4), (.mv (.t 8)), none, 4, []⟩])
  .ret))
def x61 : XFun := ⟨x61b, [(.t 4)]⟩
theorem x61_ok : compF Try.prog 61 = some x61 := by kernel_rfl
/-- (*bollard/sendq.Queue).reached$1 (8) -/
def x62b : XC := (.seq (.region [⟨(some 2), (.mv (.c (.b false))), none, 0, []⟩])
  (.seq (.region [⟨(some 3), (.mv (.t 0)), none, 0, []⟩, ⟨(some 4), (.nilc (.t 3)), none, 1, []⟩, ⟨(some 5), (.fadd 13 (.t 4)), none, 2, []⟩, ⟨(some 6), (.load false 1 (.t 5)), none, 3, []⟩, ⟨(some 7), (.bin .eql (.t 6) (.c (.i .i64 0))), none, 4, []⟩, ⟨(some 2), (.mv (.t 7)), none, 5, []⟩])
  .ret))
def x62 : XFun := ⟨x62b, [(.t 2)]⟩
theorem x62_ok : compF Try.prog 62 = some x62 := by kernel_rfl
/-- slices.Clone[[]*bollard/sendq.entry,*bollard/sendq.entry] (8) -/
def x63b : XC := (.seq (.region [⟨(some 2), (.mv (.c (.sl none 0 0 0))), none, 0, []⟩])
  (.seq (.seq (.region [⟨(some 3), (.mv (.t 0)), none, 0, []⟩, ⟨(some 4), (.nilq 1 false (.t 3)), none, 1, []⟩])
  (.cond (.t 4) (.seq (.region [⟨(some 2), (.mv (.c (.sl none 0 0 0))), none, 0, []⟩])
  .ret) .skip))
  (.seq (.region [⟨(some 5), (.bslice [] [] 0), none, 0, []⟩, ⟨(some 6), (.mv (.t 0)), none, 1, []⟩, ⟨(some 7), (.append 1 8 (.t 5) (.t 6)), none, 2, []⟩, ⟨(some 2), (.mv (.t 7)), none, 3, []⟩])
  .ret)))
def x63 : XFun := ⟨x63b, [(.t 2)]⟩
theorem x63_ok : compF Try.prog 63 = some x63 := by kernel_rfl
/-- bollard/sendq.covered (8) -/
def x64b : XC := (.seq (.region [⟨(some 3), (.box (.t 1)), none, 0, []⟩, ⟨(some 4), (.mv (.c (.b false))), none, 1, []⟩])
  (.seq (.region [⟨(some 5), (.mv (.t 0)), none, 0, []⟩, ⟨(some 6), (.mkf (.func 74) [] [(.t 3)]), none, 1, []⟩, ⟨(some 7), (.call (.c (.fn (.func 73) [] [])) [(.t 5), (.t 6)]), none, 2, []⟩, ⟨(some 4), (.mv (.t 7)), none, 3, []⟩])
  .ret))
def x64 : XFun := ⟨x64b, [(.t 4)]⟩
theorem x64_ok : compF Try.prog 64 = some x64 := by kernel_rfl
/-- bollard/sendq.total (15) -/
def x65b : XC := (.seq (.region [⟨(some 3), (.box (.t 1)), none, 0, []⟩, ⟨(some 4), (.mv (.c (.i .i64 0))), none, 1, []⟩])
  (.seq (.region [⟨(some 5), (.alloc [(.i .i64 0)]), none, 0, []⟩, ⟨none, (.store 1 (.t 5) (.c (.i .i64 0))), none, 1, []⟩])
  (.seq (.seq (.region [⟨(some 7), (.mv (.t 0)), none, 0, []⟩])
  (.block 0 (.rangeFn (.t 7) [8] (.region [⟨(some 6), (.mv (.t 8)), none, 0, []⟩]) (.block 1 (.draw [⟨(some 11), (.mv (.t 6)), none, 2, []⟩, ⟨(some 9), (.load false 1 (.t 5)), none, 0, []⟩, ⟨(some 10), (.load false 1 (.t 3)), none, 1, []⟩, ⟨(some 12), (.call (.t 10) [(.t 11)]), none, 3, [1, 2]⟩, ⟨(some 13), (.bin .add (.t 9) (.t 12)), none, 4, [0, 1, 2, 3]⟩, ⟨none, (.store 1 (.t 5) (.t 13)), none, 5, [0, 1, 2, 3, 4]⟩])))))
  (.seq (.region [⟨(some 14), (.load false 1 (.t 5)), none, 0, []⟩, ⟨(some 4), (.mv (.t 14)), none, 1, []⟩])
  .ret))))
def x65 : XFun := ⟨x65b, [(.t 4)]⟩
theorem x65_ok : compF Try.prog 65 = some x65 := by kernel_rfl
/-- slices.IndexFunc[[]*bollard/sendq.entry,*bollard/sendq.entry] (19) -/
def x66b : XC := (.seq (.region [⟨(some 4), (.mv (.c (.i .i64 0))), none, 0, []⟩])
  (.seq (.seq (.region [⟨(some 6), (.mv (.t 0)), none, 0, []⟩, ⟨(some 7), (.lenx (.t 6)), none, 1, []⟩, ⟨(some 8), (.mv (.c (.i .i64 0))), none, 2, []⟩])
  (.block 0 (.loop (.seq (.region [⟨(some 9), (.bin .lss (.t 8) (.t 7)), none, 0, []⟩])
  (.seq (.cond (.t 9) .skip (.exit 0))
  (.seq (.block 1 (.seq (.region [⟨(some 10), (.mv (.t 8)), none, 0, []⟩, ⟨(some 5), (.mv (.t 10)), none, 1, []⟩])
  (.seq (.region [⟨(some 11), (.mv (.t 1)), none, 0, []⟩, ⟨(some 12), (.mv (.t 0)), none, 1, []⟩, ⟨(some 13), (.mv (.t 5)), none, 2, []⟩, ⟨(some 14), (.isl 1 (.t 12) (.t 13)), none, 3, []⟩, ⟨(some 15), (.load false 1 (.t 14)), none, 4, []⟩, ⟨(some 16), (.call (.t 11) [(.t 15)]), none, 5, []⟩])
  (.cond (.t 16) (.seq (.region [⟨(some 17), (.mv (.t 5)), none, 0, []⟩, ⟨(some 4), (.mv (.t 17)), none, 1, []⟩])
  .ret) .skip))))
  (.region [⟨(some 18), (.bin .add (.t 8) (.c (.i .i64 1))), none, 0, []⟩, ⟨(some 8), (.mv (.t 18)), none, 1, []⟩])))))))
  (.seq (.region [⟨(some 4), (.mv (.c (.i .i64 (-1)))), none, 0, []⟩])
  .ret)))
def x66 : XFun := ⟨x66b, [(.t 4)]⟩
theorem x66_ok : compF Try.prog 66 = some x66 := by kernel_rfl
/-- (*bollard/sendq.Queue).done$1 (8) -/
def x67b : XC := (.seq (.region [⟨(some 2), (.mv (.c (.b false))), none, 0, []⟩])
  (.seq (.region [⟨(some 3), (.mv (.t 0)), none, 0, []⟩, ⟨(some 4), (.nilc (.t 3)), none, 1, []⟩, ⟨(some 5), (.fadd 13 (.t 4)), none, 2, []⟩, ⟨(some 6), (.load false 1 (.t 5)), none, 3, []⟩, ⟨(some 7), (.bin .lss (.t 6) (.c (.i .i64 3))), none, 4, []⟩, ⟨(some 2), (.mv (.t 7)), none, 5, []⟩])
  .ret))
def x67 : XFun := ⟨x67b, [(.t 2)]⟩
theorem x67_ok : compF Try.prog 67 = some x67 := by kernel_rfl
/-- slices.Index[[]int,int] (19) -/
def x72b : XC := (.seq (.region [⟨(some 4), (.mv (.c (.i .i64 0))), none, 0, []⟩])
  (.seq (.seq (.region [⟨(some 6), (.mv (.t 0)), none, 0, []⟩, ⟨(some 7), (.lenx (.t 6)), none, 1, []⟩, ⟨(some 8), (.mv (.c (.i .i64 0))), none, 2, []⟩])
  (.block 0 (.loop (.seq (.region [⟨(some 9), (.bin .lss (.t 8) (.t 7)), none, 0, []⟩])
  (.seq (.cond (.t 9) .skip (.exit 0))
  (.seq (.block 1 (.seq (.region [⟨(some 10), (.mv (.t 8)), none, 0, []⟩, ⟨(some 5), (.mv (.t 10)), none, 1, []⟩])
  (.seq (.region [⟨(some 11), (.mv (.t 1)), none, 0, []⟩, ⟨(some 12), (.mv (.t 0)), none, 1, []⟩, ⟨(some 13), (.mv (.t 5)), none, 2, []⟩, ⟨(some 14), (.isl 1 (.t 12) (.t 13)), none, 3, []⟩, ⟨(some 15), (.load false 1 (.t 14)), none, 4, []⟩, ⟨(some 16), (.bin .eql (.t 11) (.t 15)), none, 5, []⟩])
  (.cond (.t 16) (.seq (.region [⟨(some 17), (.mv (.t 5)), none, 0, []⟩, ⟨(some 4), (.mv (.t 17)), none, 1, []⟩])
  .ret) .skip))))
  (.region [⟨(some 18), (.bin .add (.t 8) (.c (.i .i64 1))), none, 0, []⟩, ⟨(some 8), (.mv (.t 18)), none, 1, []⟩])))))))
  (.seq (.region [⟨(some 4), (.mv (.c (.i .i64 (-1)))), none, 0, []⟩])
  .ret)))
def x72 : XFun := ⟨x72b, [(.t 4)]⟩
theorem x72_ok : compF Try.prog 72 = some x72 := by kernel_rfl
/-- slices.ContainsFunc[[]bollard/api.Block,bollard/api.Block] (9) -/
def x73b : XC := (.seq (.region [⟨(some 4), (.mv (.c (.b false))), none, 0, []⟩])
  (.seq (.region [⟨(some 5), (.mv (.t 0)), none, 0, []⟩, ⟨(some 6), (.mv (.t 1)), none, 1, []⟩, ⟨(some 7), (.call (.c (.fn (.func 77) [] [])) [(.t 5), (.t 6)]), none, 2, []⟩, ⟨(some 8), (.bin .geq (.t 7) (.c (.i .i64 0))), none, 3, []⟩, ⟨(some 4), (.mv (.t 8)), none, 4, []⟩])
  .ret))
def x73 : XFun := ⟨x73b, [(.t 4)]⟩
theorem x73_ok : compF Try.prog 73 = some x73 := by kernel_rfl
/-- bollard/sendq.covered$1 (16) -/
def x74b : XC := (.seq (.region [⟨(some 2), (.box (.t 0)), none, 0, []⟩, ⟨(some 3), (.mv (.c (.b false))), none, 1, []⟩])
  (.seq (.region [⟨(some 4), (.fadd 0 (.t 2)), none, 0, []⟩, ⟨(some 5), (.load false 1 (.t 4)), none, 1, []⟩, ⟨(some 6), (.cint .i64 (.t 5)), none, 2, []⟩, ⟨(some 7), (.load false 1 (.t 1)), none, 3, []⟩, ⟨(some 8), (.bin .leq (.t 6) (.t 7)), none, 4, []⟩, ⟨(some 9), (.mv (.t 8)), none, 5, []⟩, ⟨(some 10), (.load false 1 (.t 1)), (some (9, true)), 6, []⟩, ⟨(some 11), (.fadd 1 (.t 2)), (some (9, true)), 7, []⟩, ⟨(some 12), (.load false 1 (.t 11)), (some (9, true)), 8, []⟩, ⟨(some 13), (.cint .i64 (.t 12)), (some (9, true)), 9, []⟩, ⟨(some 14), (.bin .leq (.t 10) (.t 13)), (some (9, true)), 10, []⟩, ⟨(some 15), (.pick (.t 9) (.t 14) (.c (.b false))), none, 11, []⟩, ⟨(some 3), (.mv (.t 15)), none, 12, []⟩])
  .ret))
def x74 : XFun := ⟨x74b, [(.t 3)]⟩
theorem x74_ok : compF Try.prog 74 = some x74 := by kernel_rfl
/-- slices.IndexFunc[[]bollard/api.Block,bollard/api.Block] (19) -/
def x77b : XC := (.seq (.region [⟨(some 4), (.mv (.c (.i .i64 0))), none, 0, []⟩])
  (.seq (.seq (.region [⟨(some 6), (.mv (.t 0)), none, 0, []⟩, ⟨(some 7), (.lenx (.t 6)), none, 1, []⟩, ⟨(some 8), (.mv (.c (.i .i64 0))), none, 2, []⟩])
  (.block 0 (.loop (.seq (.region [⟨(some 9), (.bin .lss (.t 8) (.t 7)), none, 0, []⟩])
  (.seq (.cond (.t 9) .skip (.exit 0))
  (.seq (.block 1 (.seq (.region [⟨(some 10), (.mv (.t 8)), none, 0, []⟩, ⟨(some 5), (.mv (.t 10)), none, 1, []⟩])
  (.seq (.region [⟨(some 11), (.mv (.t 1)), none, 0, []⟩, ⟨(some 12), (.mv (.t 0)), none, 1, []⟩, ⟨(some 13), (.mv (.t 5)), none, 2, []⟩, ⟨(some 14), (.isl 2 (.t 12) (.t 13)), none, 3, []⟩, ⟨(some 15), (.load true 2 (.t 14)), none, 4, []⟩, ⟨(some 16), (.call (.t 11) [(.t 15)]), none, 5, []⟩])
  (.cond (.t 16) (.seq (.region [⟨(some 17), (.mv (.t 5)), none, 0, []⟩, ⟨(some 4), (.mv (.t 17)), none, 1, []⟩])
  .ret) .skip))))
  (.region [⟨(some 18), (.bin .add (.t 8) (.c (.i .i64 1))), none, 0, []⟩, ⟨(some 8), (.mv (.t 18)), none, 1, []⟩])))))))
  (.seq (.region [⟨(some 4), (.mv (.c (.i .i64 (-1)))), none, 0, []⟩])
  .ret)))
def x77 : XFun := ⟨x77b, [(.t 4)]⟩
theorem x77_ok : compF Try.prog 77 = some x77 := by kernel_rfl
def tab : Nat → Option XFun := fun g => match g with
  | 9 => some x9
  | 10 => some x10
  | 11 => some x11
  | 12 => some x12
  | 13 => some x13
  | 14 => some x14
  | 15 => some x15
  | 17 => some x17
  | 18 => some x18
  | 19 => some x19
  | 20 => some x20
  | 21 => some x21
  | 22 => some x22
  | 24 => some x24
  | 26 => some x26
  | 27 => some x27
  | 31 => some x31
  | 32 => some x32
  | 33 => some x33
  | 34 => some x34
  | 35 => some x35
  | 36 => some x36
  | 37 => some x37
  | 38 => some x38
  | 39 => some x39
  | 40 => some x40
  | 41 => some x41
  | 43 => some x43
  | 44 => some x44
  | 45 => some x45
  | 46 => some x46
  | 58 => some x58
  | 59 => some x59
  | 60 => some x60
  | 61 => some x61
  | 62 => some x62
  | 63 => some x63
  | 64 => some x64
  | 65 => some x65
  | 66 => some x66
  | 67 => some x67
  | 72 => some x72
  | 73 => some x73
  | 74 => some x74
  | 77 => some x77
  | _ => none
theorem tab_ok : TabOK Try.prog tab := by
  intro g F h
  unfold tab at h
  split at h
  · cases h; exact x9_ok
  · cases h; exact x10_ok
  · cases h; exact x11_ok
  · cases h; exact x12_ok
  · cases h; exact x13_ok
  · cases h; exact x14_ok
  · cases h; exact x15_ok
  · cases h; exact x17_ok
  · cases h; exact x18_ok
  · cases h; exact x19_ok
  · cases h; exact x20_ok
  · cases h; exact x21_ok
  · cases h; exact x22_ok
  · cases h; exact x24_ok
  · cases h; exact x26_ok
  · cases h; exact x27_ok
  · cases h; exact x31_ok
  · cases h; exact x32_ok
  · cases h; exact x33_ok
  · cases h; exact x34_ok
  · cases h; exact x35_ok
  · cases h; exact x36_ok
  · cases h; exact x37_ok
  · cases h; exact x38_ok
  · cases h; exact x39_ok
  · cases h; exact x40_ok
  · cases h; exact x41_ok
  · cases h; exact x43_ok
  · cases h; exact x44_ok
  · cases h; exact x45_ok
  · cases h; exact x46_ok
  · cases h; exact x58_ok
  · cases h; exact x59_ok
  · cases h; exact x60_ok
  · cases h; exact x61_ok
  · cases h; exact x62_ok
  · cases h; exact x63_ok
  · cases h; exact x64_ok
  · cases h; exact x65_ok
  · cases h; exact x66_ok
  · cases h; exact x67_ok
  · cases h; exact x72_ok
  · cases h; exact x73_ok
  · cases h; exact x74_ok
  · cases h; exact x77_ok
  · cases h
end Go.Proofs.Ytipcacpaadgagaa.E
