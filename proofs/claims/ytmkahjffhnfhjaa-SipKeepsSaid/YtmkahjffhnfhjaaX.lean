/- The compiled functions of the seat, as told by the evaluator's compiler; written by a program of this session, wip/eng/px.lean. It bears no condition. -/
import Derived.Test.YtmkahjffhnfhjaaE19
import Derived.Test.YtmkahjffhnfhjaaChecked
namespace Go.Proofs.Ytmkahjffhnfhjaa.E
set_option linter.unusedVariables false
/-- bollard/bollardlaw04.SipRounds (57) -/
def x3b : XC := (.seq (.region [⟨(some 8), (.mv (.c (.b false))), none, 0, []⟩])
  (.seq (.region [⟨(some 15), (.call (.c (.fn (.func 7) [] [])) []), none, 0, []⟩, ⟨(some 9), (.mv (.t 15)), none, 1, []⟩])
  (.seq (.region [⟨(some 16), (.mv (.t 0)), none, 0, []⟩, ⟨(some 17), (.mv (.t 1)), none, 1, []⟩, ⟨(some 18), (.mv (.t 2)), none, 2, []⟩, ⟨(some 19), (.mv (.t 3)), none, 3, []⟩, ⟨(some 20), (.build [(.i .u64 0), (.i .u64 0), (.i .u64 0), (.i .u64 0)] [(0, 1, (.t 16)), (1, 1, (.t 17)), (2, 1, (.t 18)), (3, 1, (.t 19))]), none, 4, []⟩, ⟨(some 21), (.call (.c (.fn (.func 8) [] [])) [(.t 20)]), none, 5, []⟩, ⟨(some 10), (.alloc [(.i .u64 0), (.i .u64 0), (.i .u64 0), (.i .u64 0)]), none, 6, []⟩, ⟨none, (.store 4 (.t 10) (.t 21)), none, 7, []⟩])
  (.seq (.region [⟨(some 23), (.mv (.t 0)), none, 0, []⟩, ⟨(some 24), (.mv (.t 1)), none, 1, []⟩, ⟨(some 25), (.mv (.t 2)), none, 2, []⟩, ⟨(some 26), (.mv (.t 3)), none, 3, []⟩, ⟨(some 27), (.call (.c (.fn (.func 9) [] [])) [(.t 23), (.t 24), (.t 25), (.t 26)]), none, 4, []⟩, ⟨(some 22), (.mv (.t 27)), none, 5, []⟩, ⟨(some 28), (.ext (.t 22) 0), none, 6, []⟩, ⟨(some 29), (.ext (.t 22) 1), none, 7, []⟩, ⟨(some 30), (.ext (.t 22) 2), none, 8, []⟩, ⟨(some 31), (.ext (.t 22) 3), none, 9, []⟩, ⟨(some 11), (.mv (.t 28)), none, 10, []⟩, ⟨(some 12), (.mv (.t 29)), none, 11, []⟩, ⟨(some 13), (.mv (.t 30)), none, 12, []⟩, ⟨(some 14), (.mv (.t 31)), none, 13, []⟩])
  (.seq (.region [⟨(some 32), (.mv (.t 9)), none, 0, []⟩, ⟨(some 33), (.mv (.t 32)), none, 1, []⟩, ⟨(some 34), (.iarr 4 1 (.t 10) (.c (.i .i64 0))), (some (33, true)), 2, []⟩, ⟨(some 35), (.load false 1 (.t 34)), (some (33, true)), 3, []⟩, ⟨(some 36), (.mv (.t 11)), (some (33, true)), 4, []⟩, ⟨(some 37), (.bin .eql (.t 35) (.t 36)), (some (33, true)), 5, []⟩, ⟨(some 38), (.pick (.t 33) (.t 37) (.c (.b false))), none, 6, []⟩, ⟨(some 39), (.mv (.t 38)), none, 7, []⟩, ⟨(some 40), (.iarr 4 1 (.t 10) (.c (.i .i64 1))), (some (39, true)), 8, []⟩, ⟨(some 41), (.load false 1 (.t 40)), (some (39, true)), 9, []⟩, ⟨(some 42), (.mv (.t 12)), (some (39, true)), 10, []⟩, ⟨(some 43), (.bin .eql (.t 41) (.t 42)), (some (39, true)), 11, []⟩, ⟨(some 44), (.pick (.t 39) (.t 43) (.c (.b false))), none, 12, []⟩, ⟨(some 45), (.mv (.t 44)), none, 13, []⟩, ⟨(some 46), (.iarr 4 1 (.t 10) (.c (.i .i64 2))), (some (45, true)), 14, []⟩, ⟨(some 47), (.load false 1 (.t 46)), (some (45, true)), 15, []⟩, ⟨(some 48), (.mv (.t 13)), (some (45, true)), 16, []⟩, ⟨(some 49), (.bin .eql (.t 47) (.t 48)), (some (45, true)), 17, []⟩, ⟨(some 50), (.pick (.t 45) (.t 49) (.c (.b false))), none, 18, []⟩, ⟨(some 51), (.mv (.t 50)), none, 19, []⟩, ⟨(some 52), (.iarr 4 1 (.t 10) (.c (.i .i64 3))), (some (51, true)), 20, []⟩, ⟨(some 53), (.load false 1 (.t 52)), (some (51, true)), 21, []⟩, ⟨(some 54), (.mv (.t 14)), (some (51, true)), 22, []⟩, ⟨(some 55), (.bin .eql (.t 53) (.t 54)), (some (51, true)), 23, []⟩, ⟨(some 56), (.pick (.t 51) (.t 55) (.c (.b false))), none, 24, []⟩, ⟨(some 8), (.mv (.t 56)), none, 25, []⟩])
  .ret)))))
def x3 : XFun := ⟨x3b, [(.t 8)]⟩
theorem x3_ok : compF Try.prog 3 = some x3 := by kernel_rfl
/-- bollard/bollardlaw04.SipCodes (43) -/
def x4b : XC := (.seq (.region [⟨(some 4), (.mv (.c (.b false))), none, 0, []⟩])
  (.seq (.region [⟨(some 10), (.call (.c (.fn (.func 7) [] [])) []), none, 0, []⟩, ⟨(some 5), (.mv (.t 10)), none, 1, []⟩])
  (.seq (.seq (.region [⟨(some 11), (.mv (.t 1)), none, 0, []⟩, ⟨(some 12), (.lenx (.t 11)), none, 1, []⟩, ⟨(some 13), (.bin .gtr (.t 12) (.c (.i .i64 3000))), none, 2, []⟩, ⟨(some 14), (.mv (.t 13)), none, 3, []⟩, ⟨(some 15), (.mv (.t 0)), (some (14, false)), 4, []⟩, ⟨(some 16), (.lenx (.t 15)), (some (14, false)), 5, []⟩, ⟨(some 17), (.bin .gtr (.t 16) (.c (.i .i64 300))), (some (14, false)), 6, []⟩, ⟨(some 18), (.pick (.t 14) (.c (.b true)) (.t 17)), none, 7, []⟩])
  (.cond (.t 18) (.seq (.region [⟨(some 19), (.mv (.t 5)), none, 0, []⟩, ⟨(some 4), (.mv (.t 19)), none, 1, []⟩])
  .ret) .skip))
  (.seq (.region [⟨(some 21), (.mv (.t 0)), none, 0, []⟩, ⟨(some 22), (.mv (.t 1)), none, 1, []⟩, ⟨(some 23), (.call (.c (.fn (.func 10) [] [])) [(.t 21), (.t 22)]), none, 2, []⟩, ⟨(some 20), (.mv (.t 23)), none, 3, []⟩, ⟨(some 24), (.ext (.t 20) 0), none, 4, []⟩, ⟨(some 25), (.ext (.t 20) 1), none, 5, []⟩, ⟨(some 6), (.mv (.t 24)), none, 6, []⟩, ⟨(some 7), (.mv (.t 25)), none, 7, []⟩])
  (.seq (.region [⟨(some 27), (.mv (.t 0)), none, 0, []⟩, ⟨(some 28), (.mv (.t 1)), none, 1, []⟩, ⟨(some 29), (.call (.c (.fn (.func 11) [] [])) [(.t 27), (.t 28)]), none, 2, []⟩, ⟨(some 26), (.mv (.t 29)), none, 3, []⟩, ⟨(some 30), (.ext (.t 26) 0), none, 4, []⟩, ⟨(some 31), (.ext (.t 26) 1), none, 5, []⟩, ⟨(some 8), (.mv (.t 30)), none, 6, []⟩, ⟨(some 9), (.mv (.t 31)), none, 7, []⟩])
  (.seq (.region [⟨(some 32), (.mv (.t 5)), none, 0, []⟩, ⟨(some 33), (.mv (.t 32)), none, 1, []⟩, ⟨(some 34), (.mv (.t 6)), (some (33, true)), 2, []⟩, ⟨(some 35), (.mv (.t 8)), (some (33, true)), 3, []⟩, ⟨(some 36), (.bin .eql (.t 34) (.t 35)), (some (33, true)), 4, []⟩, ⟨(some 37), (.pick (.t 33) (.t 36) (.c (.b false))), none, 5, []⟩, ⟨(some 38), (.mv (.t 37)), none, 6, []⟩, ⟨(some 39), (.mv (.t 7)), (some (38, true)), 7, []⟩, ⟨(some 40), (.mv (.t 9)), (some (38, true)), 8, []⟩, ⟨(some 41), (.beq false (.t 39) (.t 40)), (some (38, true)), 9, []⟩, ⟨(some 42), (.pick (.t 38) (.t 41) (.c (.b false))), none, 10, []⟩, ⟨(some 4), (.mv (.t 42)), none, 11, []⟩])
  .ret))))))
def x4 : XFun := ⟨x4b, [(.t 4)]⟩
theorem x4_ok : compF Try.prog 4 = some x4 := by kernel_rfl
/-- bollard/bollardlaw04.SipKeeps (91) -/
def x5b : XC := (.seq (.region [⟨(some 6), (.mv (.c (.b false))), none, 0, []⟩])
  (.seq (.region [⟨(some 15), (.call (.c (.fn (.func 7) [] [])) []), none, 0, []⟩, ⟨(some 7), (.mv (.t 15)), none, 1, []⟩])
  (.seq (.seq (.region [⟨(some 16), (.mv (.t 1)), none, 0, []⟩, ⟨(some 17), (.lenx (.t 16)), none, 1, []⟩, ⟨(some 18), (.bin .gtr (.t 17) (.c (.i .i64 1000))), none, 2, []⟩, ⟨(some 19), (.mv (.t 18)), none, 3, []⟩, ⟨(some 20), (.mv (.t 2)), (some (19, false)), 4, []⟩, ⟨(some 21), (.lenx (.t 20)), (some (19, false)), 5, []⟩, ⟨(some 22), (.bin .gtr (.t 21) (.c (.i .i64 1000))), (some (19, false)), 6, []⟩, ⟨(some 23), (.pick (.t 19) (.c (.b true)) (.t 22)), none, 7, []⟩, ⟨(some 24), (.mv (.t 23)), none, 8, []⟩, ⟨(some 25), (.mv (.t 0)), (some (24, false)), 9, []⟩, ⟨(some 26), (.lenx (.t 25)), (some (24, false)), 10, []⟩, ⟨(some 27), (.bin .gtr (.t 26) (.c (.i .i64 300))), (some (24, false)), 11, []⟩, ⟨(some 28), (.pick (.t 24) (.c (.b true)) (.t 27)), none, 12, []⟩])
  (.cond (.t 28) (.seq (.region [⟨(some 29), (.mv (.t 7)), none, 0, []⟩, ⟨(some 6), (.mv (.t 29)), none, 1, []⟩])
  .ret) .skip))
  (.seq (.region [⟨(some 30), (.bslice [] [] 0), none, 0, []⟩, ⟨(some 31), (.mv (.t 1)), none, 1, []⟩, ⟨(some 32), (.append 1 1 (.t 30) (.t 31)), none, 2, []⟩, ⟨(some 33), (.mv (.t 2)), none, 3, []⟩, ⟨(some 34), (.append 1 1 (.t 32) (.t 33)), none, 4, []⟩, ⟨(some 8), (.mv (.t 34)), none, 5, []⟩])
  (.seq (.region [⟨(some 35), (.mv (.t 8)), none, 0, []⟩, ⟨(some 36), (.cb2s (.t 35)), none, 1, []⟩, ⟨(some 9), (.mv (.t 36)), none, 2, []⟩])
  (.seq (.region [⟨(some 37), (.mv (.t 0)), none, 0, []⟩, ⟨(some 38), (.cb2s (.t 37)), none, 1, []⟩, ⟨(some 10), (.mv (.t 38)), none, 2, []⟩])
  (.seq (.region [⟨(some 40), (.mv (.t 0)), none, 0, []⟩, ⟨(some 41), (.mv (.t 8)), none, 1, []⟩, ⟨(some 42), (.mv (.t 1)), none, 2, []⟩, ⟨(some 43), (.lenx (.t 42)), none, 3, []⟩, ⟨(some 44), (.slsl 1 (.t 41) (some (.t 43)) none none), none, 4, []⟩, ⟨(some 45), (.call (.c (.fn (.func 10) [] [])) [(.t 40), (.t 44)]), none, 5, []⟩, ⟨(some 39), (.mv (.t 45)), none, 6, []⟩, ⟨(some 46), (.ext (.t 39) 0), none, 7, []⟩, ⟨(some 47), (.ext (.t 39) 1), none, 8, []⟩, ⟨(some 11), (.mv (.t 46)), none, 9, []⟩, ⟨(some 12), (.mv (.t 47)), none, 10, []⟩])
  (.seq (.region [⟨(some 49), (.mv (.t 0)), none, 0, []⟩, ⟨(some 50), (.mv (.t 2)), none, 1, []⟩, ⟨(some 51), (.call (.c (.fn (.func 10) [] [])) [(.t 49), (.t 50)]), none, 2, []⟩, ⟨(some 48), (.mv (.t 51)), none, 3, []⟩, ⟨(some 52), (.ext (.t 48) 0), none, 4, []⟩, ⟨(some 53), (.ext (.t 48) 1), none, 5, []⟩, ⟨(some 13), (.mv (.t 52)), none, 6, []⟩, ⟨(some 14), (.mv (.t 53)), none, 7, []⟩])
  (.seq (.region [⟨(some 54), (.mv (.t 7)), none, 0, []⟩, ⟨(some 55), (.mv (.t 54)), none, 1, []⟩, ⟨(some 56), (.mv (.t 11)), (some (55, true)), 2, []⟩, ⟨(some 57), (.mv (.t 13)), (some (55, true)), 3, []⟩, ⟨(some 58), (.bin .eql (.t 56) (.t 57)), (some (55, true)), 4, []⟩, ⟨(some 59), (.pick (.t 55) (.t 58) (.c (.b false))), none, 5, []⟩, ⟨(some 60), (.mv (.t 59)), none, 6, []⟩, ⟨(some 61), (.mv (.t 12)), (some (60, true)), 7, []⟩, ⟨(some 62), (.mv (.t 14)), (some (60, true)), 8, []⟩, ⟨(some 63), (.beq false (.t 61) (.t 62)), (some (60, true)), 9, []⟩, ⟨(some 64), (.pick (.t 60) (.t 63) (.c (.b false))), none, 10, []⟩, ⟨(some 65), (.mv (.t 64)), none, 11, []⟩, ⟨(some 66), (.mv (.t 12)), (some (65, true)), 12, []⟩, ⟨(some 67), (.mv (.t 0)), (some (65, true)), 13, []⟩, ⟨(some 68), (.lenx (.t 67)), (some (65, true)), 14, []⟩, ⟨(some 69), (.bin .eql (.t 68) (.c (.i .i64 16))), (some (65, true)), 15, []⟩, ⟨(some 70), (.beq false (.t 66) (.t 69)), (some (65, true)), 16, []⟩, ⟨(some 71), (.pick (.t 65) (.t 70) (.c (.b false))), none, 17, []⟩, ⟨(some 72), (.mv (.t 71)), none, 18, []⟩, ⟨(some 73), (.mv (.t 8)), (some (72, true)), 19, []⟩, ⟨(some 74), (.cb2s (.t 73)), (some (72, true)), 20, []⟩, ⟨(some 75), (.mv (.t 9)), (some (72, true)), 21, []⟩, ⟨(some 76), (.bin .eql (.t 74) (.t 75)), (some (72, true)), 22, []⟩, ⟨(some 77), (.pick (.t 72) (.t 76) (.c (.b false))), none, 23, []⟩, ⟨(some 78), (.mv (.t 77)), none, 24, []⟩, ⟨(some 79), (.mv (.t 0)), (some (78, true)), 25, []⟩, ⟨(some 80), (.cb2s (.t 79)), (some (78, true)), 26, []⟩, ⟨(some 81), (.mv (.t 10)), (some (78, true)), 27, []⟩, ⟨(some 82), (.bin .eql (.t 80) (.t 81)), (some (78, true)), 28, []⟩, ⟨(some 83), (.pick (.t 78) (.t 82) (.c (.b false))), none, 29, []⟩, ⟨(some 84), (.mv (.t 83)), none, 30, []⟩, ⟨(some 85), (.mv (.t 12)), (some (84, true)), 31, []⟩, ⟨(some 86), (.mv (.t 85)), (some (84, true)), 32, []⟩, ⟨(some 87), (.mv (.t 11)), (some (86, false)), 33, []⟩, ⟨(some 88), (.bin .eql (.t 87) (.c (.i .u64 0))), (some (86, false)), 34, []⟩, ⟨(some 89), (.pick (.t 86) (.c (.b true)) (.t 88)), (some (84, true)), 35, []⟩, ⟨(some 90), (.pick (.t 84) (.t 89) (.c (.b false))), none, 36, []⟩, ⟨(some 6), (.mv (.t 90)), none, 37, []⟩])
  .ret)))))))))
def x5 : XFun := ⟨x5b, [(.t 6)]⟩
theorem x5_ok : compF Try.prog 5 = some x5 := by kernel_rfl
/-- bollard/bollardlaw04.SipUnturns (105) -/
def x6b : XC := (.seq (.region [⟨(some 8), (.mv (.c (.b false))), none, 0, []⟩])
  (.seq (.region [⟨(some 15), (.call (.c (.fn (.func 7) [] [])) []), none, 0, []⟩, ⟨(some 9), (.mv (.t 15)), none, 1, []⟩])
  (.seq (.region [⟨(some 16), (.mv (.t 0)), none, 0, []⟩, ⟨(some 17), (.mv (.t 1)), none, 1, []⟩, ⟨(some 18), (.mv (.t 2)), none, 2, []⟩, ⟨(some 19), (.mv (.t 3)), none, 3, []⟩, ⟨(some 20), (.build [(.i .u64 0), (.i .u64 0), (.i .u64 0), (.i .u64 0)] [(0, 1, (.t 16)), (1, 1, (.t 17)), (2, 1, (.t 18)), (3, 1, (.t 19))]), none, 4, []⟩, ⟨(some 21), (.call (.c (.fn (.func 8) [] [])) [(.t 20)]), none, 5, []⟩, ⟨(some 10), (.alloc [(.i .u64 0), (.i .u64 0), (.i .u64 0), (.i .u64 0)]), none, 6, []⟩, ⟨none, (.store 4 (.t 10) (.t 21)), none, 7, []⟩])
  (.seq (.region [⟨(some 22), (.iarr 4 1 (.t 10) (.c (.i .i64 0))), none, 0, []⟩, ⟨(some 23), (.load false 1 (.t 22)), none, 1, []⟩, ⟨(some 11), (.mv (.t 23)), none, 2, []⟩])
  (.seq (.region [⟨(some 24), (.iarr 4 1 (.t 10) (.c (.i .i64 1))), none, 0, []⟩, ⟨(some 25), (.load false 1 (.t 24)), none, 1, []⟩, ⟨(some 12), (.mv (.t 25)), none, 2, []⟩])
  (.seq (.region [⟨(some 26), (.iarr 4 1 (.t 10) (.c (.i .i64 2))), none, 0, []⟩, ⟨(some 27), (.load false 1 (.t 26)), none, 1, []⟩, ⟨(some 28), (.bin .shr (.t 27) (.c (.i .u64 32))), none, 2, []⟩, ⟨(some 29), (.iarr 4 1 (.t 10) (.c (.i .i64 2))), none, 3, []⟩, ⟨(some 30), (.load false 1 (.t 29)), none, 4, []⟩, ⟨(some 31), (.bin .shl (.t 30) (.c (.i .u64 32))), none, 5, []⟩, ⟨(some 32), (.bin .or (.t 28) (.t 31)), none, 6, []⟩, ⟨(some 13), (.mv (.t 32)), none, 7, []⟩])
  (.seq (.region [⟨(some 33), (.iarr 4 1 (.t 10) (.c (.i .i64 3))), none, 0, []⟩, ⟨(some 34), (.load false 1 (.t 33)), none, 1, []⟩, ⟨(some 14), (.mv (.t 34)), none, 2, []⟩])
  (.seq (.region [⟨(some 35), (.mv (.t 12)), none, 0, []⟩, ⟨(some 36), (.mv (.t 13)), none, 1, []⟩, ⟨(some 37), (.bin .xor (.t 35) (.t 36)), none, 2, []⟩, ⟨(some 12), (.mv (.t 37)), none, 3, []⟩])
  (.seq (.region [⟨(some 38), (.mv (.t 12)), none, 0, []⟩, ⟨(some 39), (.bin .shr (.t 38) (.c (.i .u64 17))), none, 1, []⟩, ⟨(some 40), (.mv (.t 12)), none, 2, []⟩, ⟨(some 41), (.bin .shl (.t 40) (.c (.i .u64 47))), none, 3, []⟩, ⟨(some 42), (.bin .or (.t 39) (.t 41)), none, 4, []⟩, ⟨(some 12), (.mv (.t 42)), none, 5, []⟩])
  (.seq (.region [⟨(some 43), (.mv (.t 13)), none, 0, []⟩, ⟨(some 44), (.mv (.t 12)), none, 1, []⟩, ⟨(some 45), (.bin .sub (.t 43) (.t 44)), none, 2, []⟩, ⟨(some 13), (.mv (.t 45)), none, 3, []⟩])
  (.seq (.region [⟨(some 46), (.mv (.t 14)), none, 0, []⟩, ⟨(some 47), (.mv (.t 11)), none, 1, []⟩, ⟨(some 48), (.bin .xor (.t 46) (.t 47)), none, 2, []⟩, ⟨(some 14), (.mv (.t 48)), none, 3, []⟩])
  (.seq (.region [⟨(some 49), (.mv (.t 14)), none, 0, []⟩, ⟨(some 50), (.bin .shr (.t 49) (.c (.i .u64 21))), none, 1, []⟩, ⟨(some 51), (.mv (.t 14)), none, 2, []⟩, ⟨(some 52), (.bin .shl (.t 51) (.c (.i .u64 43))), none, 3, []⟩, ⟨(some 53), (.bin .or (.t 50) (.t 52)), none, 4, []⟩, ⟨(some 14), (.mv (.t 53)), none, 5, []⟩])
  (.seq (.region [⟨(some 54), (.mv (.t 11)), none, 0, []⟩, ⟨(some 55), (.mv (.t 14)), none, 1, []⟩, ⟨(some 56), (.bin .sub (.t 54) (.t 55)), none, 2, []⟩, ⟨(some 11), (.mv (.t 56)), none, 3, []⟩])
  (.seq (.region [⟨(some 57), (.mv (.t 14)), none, 0, []⟩, ⟨(some 58), (.mv (.t 13)), none, 1, []⟩, ⟨(some 59), (.bin .xor (.t 57) (.t 58)), none, 2, []⟩, ⟨(some 14), (.mv (.t 59)), none, 3, []⟩])
  (.seq (.region [⟨(some 60), (.mv (.t 14)), none, 0, []⟩, ⟨(some 61), (.bin .shr (.t 60) (.c (.i .u64 16))), none, 1, []⟩, ⟨(some 62), (.mv (.t 14)), none, 2, []⟩, ⟨(some 63), (.bin .shl (.t 62) (.c (.i .u64 48))), none, 3, []⟩, ⟨(some 64), (.bin .or (.t 61) (.t 63)), none, 4, []⟩, ⟨(some 14), (.mv (.t 64)), none, 5, []⟩])
  (.seq (.region [⟨(some 65), (.mv (.t 13)), none, 0, []⟩, ⟨(some 66), (.mv (.t 14)), none, 1, []⟩, ⟨(some 67), (.bin .sub (.t 65) (.t 66)), none, 2, []⟩, ⟨(some 13), (.mv (.t 67)), none, 3, []⟩])
  (.seq (.region [⟨(some 68), (.mv (.t 11)), none, 0, []⟩, ⟨(some 69), (.bin .shr (.t 68) (.c (.i .u64 32))), none, 1, []⟩, ⟨(some 70), (.mv (.t 11)), none, 2, []⟩, ⟨(some 71), (.bin .shl (.t 70) (.c (.i .u64 32))), none, 3, []⟩, ⟨(some 72), (.bin .or (.t 69) (.t 71)), none, 4, []⟩, ⟨(some 11), (.mv (.t 72)), none, 5, []⟩])
  (.seq (.region [⟨(some 73), (.mv (.t 12)), none, 0, []⟩, ⟨(some 74), (.mv (.t 11)), none, 1, []⟩, ⟨(some 75), (.bin .xor (.t 73) (.t 74)), none, 2, []⟩, ⟨(some 12), (.mv (.t 75)), none, 3, []⟩])
  (.seq (.region [⟨(some 76), (.mv (.t 12)), none, 0, []⟩, ⟨(some 77), (.bin .shr (.t 76) (.c (.i .u64 13))), none, 1, []⟩, ⟨(some 78), (.mv (.t 12)), none, 2, []⟩, ⟨(some 79), (.bin .shl (.t 78) (.c (.i .u64 51))), none, 3, []⟩, ⟨(some 80), (.bin .or (.t 77) (.t 79)), none, 4, []⟩, ⟨(some 12), (.mv (.t 80)), none, 5, []⟩])
  (.seq (.region [⟨(some 81), (.mv (.t 11)), none, 0, []⟩, ⟨(some 82), (.mv (.t 12)), none, 1, []⟩, ⟨(some 83), (.bin .sub (.t 81) (.t 82)), none, 2, []⟩, ⟨(some 11), (.mv (.t 83)), none, 3, []⟩])
  (.seq (.region [⟨(some 84), (.mv (.t 9)), none, 0, []⟩, ⟨(some 85), (.mv (.t 84)), none, 1, []⟩, ⟨(some 86), (.mv (.t 11)), (some (85, true)), 2, []⟩, ⟨(some 87), (.mv (.t 0)), (some (85, true)), 3, []⟩, ⟨(some 88), (.bin .eql (.t 86) (.t 87)), (some (85, true)), 4, []⟩, ⟨(some 89), (.pick (.t 85) (.t 88) (.c (.b false))), none, 5, []⟩, ⟨(some 90), (.mv (.t 89)), none, 6, []⟩, ⟨(some 91), (.mv (.t 12)), (some (90, true)), 7, []⟩, ⟨(some 92), (.mv (.t 1)), (some (90, true)), 8, []⟩, ⟨(some 93), (.bin .eql (.t 91) (.t 92)), (some (90, true)), 9, []⟩, ⟨(some 94), (.pick (.t 90) (.t 93) (.c (.b false))), none, 10, []⟩, ⟨(some 95), (.mv (.t 94)), none, 11, []⟩, ⟨(some 96), (.mv (.t 13)), (some (95, true)), 12, []⟩, ⟨(some 97), (.mv (.t 2)), (some (95, true)), 13, []⟩, ⟨(some 98), (.bin .eql (.t 96) (.t 97)), (some (95, true)), 14, []⟩, ⟨(some 99), (.pick (.t 95) (.t 98) (.c (.b false))), none, 15, []⟩, ⟨(some 100), (.mv (.t 99)), none, 16, []⟩, ⟨(some 101), (.mv (.t 14)), (some (100, true)), 17, []⟩, ⟨(some 102), (.mv (.t 3)), (some (100, true)), 18, []⟩, ⟨(some 103), (.bin .eql (.t 101) (.t 102)), (some (100, true)), 19, []⟩, ⟨(some 104), (.pick (.t 100) (.t 103) (.c (.b false))), none, 20, []⟩, ⟨(some 8), (.mv (.t 104)), none, 21, []⟩])
  .ret)))))))))))))))))))))
def x6 : XFun := ⟨x6b, [(.t 8)]⟩
theorem x6_ok : compF Try.prog 6 = some x6 := by kernel_rfl
/-- bollard/bollardlaw04.awake (31) -/
def x7b : XC := (.seq (.region [⟨(some 0), (.mv (.c (.b false))), none, 0, []⟩])
  (.seq (.region [⟨(some 6), (.call (.c (.fn (.func 12) [] [])) [(.c (.i .i64 16))]), none, 0, []⟩, ⟨(some 7), (.call (.c (.fn (.func 12) [] [])) [(.c (.i .i64 15))]), none, 1, []⟩, ⟨(some 8), (.call (.c (.fn (.func 10) [] [])) [(.t 6), (.t 7)]), none, 2, []⟩, ⟨(some 5), (.mv (.t 8)), none, 3, []⟩, ⟨(some 9), (.ext (.t 5) 0), none, 4, []⟩, ⟨(some 10), (.ext (.t 5) 1), none, 5, []⟩, ⟨(some 1), (.mv (.t 9)), none, 6, []⟩, ⟨(some 2), (.mv (.t 10)), none, 7, []⟩])
  (.seq (.region [⟨(some 12), (.call (.c (.fn (.func 12) [] [])) [(.c (.i .i64 15))]), none, 0, []⟩, ⟨(some 13), (.call (.c (.fn (.func 10) [] [])) [(.t 12), (.c (.sl none 0 0 0))]), none, 1, []⟩, ⟨(some 11), (.mv (.t 13)), none, 2, []⟩, ⟨(some 14), (.ext (.t 11) 0), none, 3, []⟩, ⟨(some 15), (.ext (.t 11) 1), none, 4, []⟩, ⟨(some 3), (.mv (.t 14)), none, 5, []⟩, ⟨(some 4), (.mv (.t 15)), none, 6, []⟩])
  (.seq (.region [⟨(some 16), (.mv (.t 2)), none, 0, []⟩, ⟨(some 17), (.mv (.t 16)), none, 1, []⟩, ⟨(some 18), (.mv (.t 1)), (some (17, true)), 2, []⟩, ⟨(some 19), (.bin .eql (.t 18) (.c (.i .u64 11613035633349379557))), (some (17, true)), 3, []⟩, ⟨(some 20), (.pick (.t 17) (.t 19) (.c (.b false))), none, 4, []⟩, ⟨(some 21), (.mv (.t 20)), none, 5, []⟩, ⟨(some 22), (.mv (.t 4)), (some (21, true)), 6, []⟩, ⟨(some 23), (.unx .not (.t 22)), (some (21, true)), 7, []⟩, ⟨(some 24), (.pick (.t 21) (.t 23) (.c (.b false))), none, 8, []⟩, ⟨(some 25), (.mv (.t 24)), none, 9, []⟩, ⟨(some 26), (.build [(.i .u64 0), (.i .u64 0), (.i .u64 0), (.i .u64 0)] []), (some (25, true)), 10, []⟩, ⟨(some 27), (.call (.c (.fn (.func 8) [] [])) [(.t 26)]), (some (25, true)), 11, []⟩, ⟨(some 28), (.build [(.i .u64 0), (.i .u64 0), (.i .u64 0), (.i .u64 0)] []), (some (25, true)), 12, []⟩, ⟨(some 29), (.eqagg false 0 4 (.t 27) (.t 28)), (some (25, true)), 13, []⟩, ⟨(some 30), (.pick (.t 25) (.t 29) (.c (.b false))), none, 14, []⟩, ⟨(some 0), (.mv (.t 30)), none, 15, []⟩])
  .ret))))
def x7 : XFun := ⟨x7b, [(.t 0)]⟩
theorem x7_ok : compF Try.prog 7 = some x7 := by kernel_rfl
/-- bollard/sip.Round (61) -/
def x8b : XC := (.seq (.region [⟨(some 1), (.box (.t 0)), none, 0, []⟩, ⟨(some 2), (.alloc [(.i .u64 0), (.i .u64 0), (.i .u64 0), (.i .u64 0)]), none, 1, []⟩])
  (.seq (.region [⟨(some 3), (.iarr 4 1 (.t 1) (.c (.i .i64 0))), none, 0, []⟩, ⟨(some 4), (.load false 1 (.t 3)), none, 1, []⟩, ⟨(some 5), (.iarr 4 1 (.t 1) (.c (.i .i64 1))), none, 2, []⟩, ⟨(some 6), (.load false 1 (.t 5)), none, 3, []⟩, ⟨(some 7), (.bin .add (.t 4) (.t 6)), none, 4, []⟩, ⟨(some 8), (.iarr 4 1 (.t 1) (.c (.i .i64 0))), none, 5, []⟩, ⟨none, (.store 1 (.t 8) (.t 7)), none, 6, []⟩])
  (.seq (.region [⟨(some 9), (.iarr 4 1 (.t 1) (.c (.i .i64 2))), none, 0, []⟩, ⟨(some 10), (.load false 1 (.t 9)), none, 1, []⟩, ⟨(some 11), (.iarr 4 1 (.t 1) (.c (.i .i64 3))), none, 2, []⟩, ⟨(some 12), (.load false 1 (.t 11)), none, 3, []⟩, ⟨(some 13), (.bin .add (.t 10) (.t 12)), none, 4, []⟩, ⟨(some 14), (.iarr 4 1 (.t 1) (.c (.i .i64 2))), none, 5, []⟩, ⟨none, (.store 1 (.t 14) (.t 13)), none, 6, []⟩])
  (.seq (.draw [⟨(some 15), (.iarr 4 1 (.t 1) (.c (.i .i64 1))), none, 0, []⟩, ⟨(some 18), (.iarr 4 1 (.t 1) (.c (.i .i64 0))), none, 3, []⟩, ⟨(some 16), (.load false 1 (.t 15)), none, 1, [0]⟩, ⟨(some 19), (.load false 1 (.t 18)), none, 4, [3]⟩, ⟨(some 17), (.call (.c (.fn (.func 13) [] [])) [(.t 16), (.c (.i .i64 13))]), none, 2, [0, 1]⟩, ⟨(some 20), (.bin .xor (.t 17) (.t 19)), none, 5, [0, 1, 2, 3, 4]⟩, ⟨(some 21), (.iarr 4 1 (.t 1) (.c (.i .i64 1))), none, 6, [0, 1, 2, 3, 4, 5]⟩, ⟨none, (.store 1 (.t 21) (.t 20)), none, 7, [0, 1, 2, 3, 4, 5, 6]⟩])
  (.seq (.draw [⟨(some 22), (.iarr 4 1 (.t 1) (.c (.i .i64 3))), none, 0, []⟩, ⟨(some 25), (.iarr 4 1 (.t 1) (.c (.i .i64 2))), none, 3, []⟩, ⟨(some 23), (.load false 1 (.t 22)), none, 1, [0]⟩, ⟨(some 26), (.load false 1 (.t 25)), none, 4, [3]⟩, ⟨(some 24), (.call (.c (.fn (.func 13) [] [])) [(.t 23), (.c (.i .i64 16))]), none, 2, [0, 1]⟩, ⟨(some 27), (.bin .xor (.t 24) (.t 26)), none, 5, [0, 1, 2, 3, 4]⟩, ⟨(some 28), (.iarr 4 1 (.t 1) (.c (.i .i64 3))), none, 6, [0, 1, 2, 3, 4, 5]⟩, ⟨none, (.store 1 (.t 28) (.t 27)), none, 7, [0, 1, 2, 3, 4, 5, 6]⟩])
  (.seq (.draw [⟨(some 29), (.iarr 4 1 (.t 1) (.c (.i .i64 0))), none, 0, []⟩, ⟨(some 32), (.iarr 4 1 (.t 1) (.c (.i .i64 3))), none, 3, []⟩, ⟨(some 30), (.load false 1 (.t 29)), none, 1, [0]⟩, ⟨(some 33), (.load false 1 (.t 32)), none, 4, [3]⟩, ⟨(some 31), (.call (.c (.fn (.func 13) [] [])) [(.t 30), (.c (.i .i64 32))]), none, 2, [0, 1]⟩, ⟨(some 34), (.bin .add (.t 31) (.t 33)), none, 5, [0, 1, 2, 3, 4]⟩, ⟨(some 35), (.iarr 4 1 (.t 1) (.c (.i .i64 0))), none, 6, [0, 1, 2, 3, 4, 5]⟩, ⟨none, (.store 1 (.t 35) (.t 34)), none, 7, [0, 1, 2, 3, 4, 5, 6]⟩])
  (.seq (.region [⟨(some 36), (.iarr 4 1 (.t 1) (.c (.i .i64 2))), none, 0, []⟩, ⟨(some 37), (.load false 1 (.t 36)), none, 1, []⟩, ⟨(some 38), (.iarr 4 1 (.t 1) (.c (.i .i64 1))), none, 2, []⟩, ⟨(some 39), (.load false 1 (.t 38)), none, 3, []⟩, ⟨(some 40), (.bin .add (.t 37) (.t 39)), none, 4, []⟩, ⟨(some 41), (.iarr 4 1 (.t 1) (.c (.i .i64 2))), none, 5, []⟩, ⟨none, (.store 1 (.t 41) (.t 40)), none, 6, []⟩])
  (.seq (.draw [⟨(some 42), (.iarr 4 1 (.t 1) (.c (.i .i64 3))), none, 0, []⟩, ⟨(some 45), (.iarr 4 1 (.t 1) (.c (.i .i64 0))), none, 3, []⟩, ⟨(some 43), (.load false 1 (.t 42)), none, 1, [0]⟩, ⟨(some 46), (.load false 1 (.t 45)), none, 4, [3]⟩, ⟨(some 44), (.call (.c (.fn (.func 13) [] [])) [(.t 43), (.c (.i .i64 21))]), none, 2, [0, 1]⟩, ⟨(some 47), (.bin .xor (.t 44) (.t 46)), none, 5, [0, 1, 2, 3, 4]⟩, ⟨(some 48), (.iarr 4 1 (.t 1) (.c (.i .i64 3))), none, 6, [0, 1, 2, 3, 4, 5]⟩, ⟨none, (.store 1 (.t 48) (.t 47)), none, 7, [0, 1, 2, 3, 4, 5, 6]⟩])
  (.seq (.draw [⟨(some 49), (.iarr 4 1 (.t 1) (.c (.i .i64 1))), none, 0, []⟩, ⟨(some 52), (.iarr 4 1 (.t 1) (.c (.i .i64 2))), none, 3, []⟩, ⟨(some 50), (.load false 1 (.t 49)), none, 1, [0]⟩, ⟨(some 53), (.load false 1 (.t 52)), none, 4, [3]⟩, ⟨(some 51), (.call (.c (.fn (.func 13) [] [])) [(.t 50), (.c (.i .i64 17))]), none, 2, [0, 1]⟩, ⟨(some 54), (.bin .xor (.t 51) (.t 53)), none, 5, [0, 1, 2, 3, 4]⟩, ⟨(some 55), (.iarr 4 1 (.t 1) (.c (.i .i64 1))), none, 6, [0, 1, 2, 3, 4, 5]⟩, ⟨none, (.store 1 (.t 55) (.t 54)), none, 7, [0, 1, 2, 3, 4, 5, 6]⟩])
  (.seq (.region [⟨(some 56), (.iarr 4 1 (.t 1) (.c (.i .i64 2))), none, 0, []⟩, ⟨(some 57), (.load false 1 (.t 56)), none, 1, []⟩, ⟨(some 58), (.call (.c (.fn (.func 13) [] [])) [(.t 57), (.c (.i .i64 32))]), none, 2, []⟩, ⟨(some 59), (.iarr 4 1 (.t 1) (.c (.i .i64 2))), none, 3, []⟩, ⟨none, (.store 1 (.t 59) (.t 58)), none, 4, []⟩])
  (.seq (.region [⟨(some 60), (.load true 4 (.t 1)), none, 0, []⟩, ⟨none, (.store 4 (.t 2) (.t 60)), none, 1, []⟩])
  .ret)))))))))))
def x8 : XFun := ⟨x8b, [(.cell 2 true 4)]⟩
theorem x8_ok : compF Try.prog 8 = some x8 := by kernel_rfl
/-- bollard/bollardref04.Round (52) -/
def x9b : XC := (.seq (.region [⟨(some 8), (.mv (.c (.i .u64 0))), none, 0, []⟩, ⟨(some 9), (.mv (.c (.i .u64 0))), none, 1, []⟩, ⟨(some 10), (.mv (.c (.i .u64 0))), none, 2, []⟩, ⟨(some 11), (.mv (.c (.i .u64 0))), none, 3, []⟩])
  (.seq (.region [⟨(some 12), (.mv (.t 0)), none, 0, []⟩, ⟨(some 13), (.mv (.t 1)), none, 1, []⟩, ⟨(some 14), (.bin .add (.t 12) (.t 13)), none, 2, []⟩, ⟨(some 0), (.mv (.t 14)), none, 3, []⟩])
  (.seq (.region [⟨(some 15), (.mv (.t 1)), none, 0, []⟩, ⟨(some 16), (.call (.c (.fn (.func 14) [] [])) [(.t 15), (.c (.i .i64 13))]), none, 1, []⟩, ⟨(some 1), (.mv (.t 16)), none, 2, []⟩])
  (.seq (.region [⟨(some 17), (.mv (.t 1)), none, 0, []⟩, ⟨(some 18), (.mv (.t 0)), none, 1, []⟩, ⟨(some 19), (.bin .xor (.t 17) (.t 18)), none, 2, []⟩, ⟨(some 1), (.mv (.t 19)), none, 3, []⟩])
  (.seq (.region [⟨(some 20), (.mv (.t 0)), none, 0, []⟩, ⟨(some 21), (.call (.c (.fn (.func 14) [] [])) [(.t 20), (.c (.i .i64 32))]), none, 1, []⟩, ⟨(some 0), (.mv (.t 21)), none, 2, []⟩])
  (.seq (.region [⟨(some 22), (.mv (.t 2)), none, 0, []⟩, ⟨(some 23), (.mv (.t 3)), none, 1, []⟩, ⟨(some 24), (.bin .add (.t 22) (.t 23)), none, 2, []⟩, ⟨(some 2), (.mv (.t 24)), none, 3, []⟩])
  (.seq (.region [⟨(some 25), (.mv (.t 3)), none, 0, []⟩, ⟨(some 26), (.call (.c (.fn (.func 14) [] [])) [(.t 25), (.c (.i .i64 16))]), none, 1, []⟩, ⟨(some 3), (.mv (.t 26)), none, 2, []⟩])
  (.seq (.region [⟨(some 27), (.mv (.t 3)), none, 0, []⟩, ⟨(some 28), (.mv (.t 2)), none, 1, []⟩, ⟨(some 29), (.bin .xor (.t 27) (.t 28)), none, 2, []⟩, ⟨(some 3), (.mv (.t 29)), none, 3, []⟩])
  (.seq (.region [⟨(some 30), (.mv (.t 0)), none, 0, []⟩, ⟨(some 31), (.mv (.t 3)), none, 1, []⟩, ⟨(some 32), (.bin .add (.t 30) (.t 31)), none, 2, []⟩, ⟨(some 0), (.mv (.t 32)), none, 3, []⟩])
  (.seq (.region [⟨(some 33), (.mv (.t 3)), none, 0, []⟩, ⟨(some 34), (.call (.c (.fn (.func 14) [] [])) [(.t 33), (.c (.i .i64 21))]), none, 1, []⟩, ⟨(some 3), (.mv (.t 34)), none, 2, []⟩])
  (.seq (.region [⟨(some 35), (.mv (.t 3)), none, 0, []⟩, ⟨(some 36), (.mv (.t 0)), none, 1, []⟩, ⟨(some 37), (.bin .xor (.t 35) (.t 36)), none, 2, []⟩, ⟨(some 3), (.mv (.t 37)), none, 3, []⟩])
  (.seq (.region [⟨(some 38), (.mv (.t 2)), none, 0, []⟩, ⟨(some 39), (.mv (.t 1)), none, 1, []⟩, ⟨(some 40), (.bin .add (.t 38) (.t 39)), none, 2, []⟩, ⟨(some 2), (.mv (.t 40)), none, 3, []⟩])
  (.seq (.region [⟨(some 41), (.mv (.t 1)), none, 0, []⟩, ⟨(some 42), (.call (.c (.fn (.func 14) [] [])) [(.t 41), (.c (.i .i64 17))]), none, 1, []⟩, ⟨(some 1), (.mv (.t 42)), none, 2, []⟩])
  (.seq (.region [⟨(some 43), (.mv (.t 1)), none, 0, []⟩, ⟨(some 44), (.mv (.t 2)), none, 1, []⟩, ⟨(some 45), (.bin .xor (.t 43) (.t 44)), none, 2, []⟩, ⟨(some 1), (.mv (.t 45)), none, 3, []⟩])
  (.seq (.region [⟨(some 46), (.mv (.t 2)), none, 0, []⟩, ⟨(some 47), (.call (.c (.fn (.func 14) [] [])) [(.t 46), (.c (.i .i64 32))]), none, 1, []⟩, ⟨(some 2), (.mv (.t 47)), none, 2, []⟩])
  (.seq (.region [⟨(some 48), (.mv (.t 0)), none, 0, []⟩, ⟨(some 49), (.mv (.t 1)), none, 1, []⟩, ⟨(some 50), (.mv (.t 2)), none, 2, []⟩, ⟨(some 51), (.mv (.t 3)), none, 3, []⟩, ⟨(some 8), (.mv (.t 48)), none, 4, []⟩, ⟨(some 9), (.mv (.t 49)), none, 5, []⟩, ⟨(some 10), (.mv (.t 50)), none, 6, []⟩, ⟨(some 11), (.mv (.t 51)), none, 7, []⟩])
  .ret))))))))))))))))
def x9 : XFun := ⟨x9b, [(.t 8), (.t 9), (.t 10), (.t 11)]⟩
theorem x9_ok : compF Try.prog 9 = some x9 := by kernel_rfl
/-- bollard/sip.Code (80) -/
def x10b : XC := (.seq (.region [⟨(some 4), (.mv (.c (.i .u64 0))), none, 0, []⟩, ⟨(some 5), (.mv (.c (.b false))), none, 1, []⟩])
  (.seq (.seq (.region [⟨(some 12), (.mv (.t 0)), none, 0, []⟩, ⟨(some 13), (.lenx (.t 12)), none, 1, []⟩, ⟨(some 14), (.bin .neq (.t 13) (.c (.i .i64 16))), none, 2, []⟩])
  (.cond (.t 14) (.seq (.region [⟨(some 4), (.mv (.c (.i .u64 0))), none, 0, []⟩, ⟨(some 5), (.mv (.c (.b false))), none, 1, []⟩])
  .ret) .skip))
  (.seq (.draw [⟨(some 15), (.mv (.t 0)), none, 0, []⟩, ⟨(some 17), (.mv (.t 0)), none, 2, []⟩, ⟨(some 18), (.slsl 1 (.t 17) (some (.c (.i .i64 8))) none none), none, 3, [2]⟩, ⟨(some 16), (.call (.c (.fn (.func 15) [] [])) [(.t 15)]), none, 1, [0]⟩, ⟨(some 19), (.call (.c (.fn (.func 15) [] [])) [(.t 18)]), none, 4, [0, 1, 2, 3]⟩, ⟨(some 6), (.mv (.t 16)), none, 5, [0, 1, 2, 3, 4]⟩, ⟨(some 7), (.mv (.t 19)), none, 6, [0, 1, 2, 3, 4, 5]⟩])
  (.seq (.region [⟨(some 20), (.mv (.t 6)), none, 0, []⟩, ⟨(some 21), (.bin .xor (.t 20) (.c (.i .u64 8317987319222330741))), none, 1, []⟩, ⟨(some 22), (.mv (.t 7)), none, 2, []⟩, ⟨(some 23), (.bin .xor (.t 22) (.c (.i .u64 7237128888997146477))), none, 3, []⟩, ⟨(some 24), (.mv (.t 6)), none, 4, []⟩, ⟨(some 25), (.bin .xor (.t 24) (.c (.i .u64 7816392313619706465))), none, 5, []⟩, ⟨(some 26), (.mv (.t 7)), none, 6, []⟩, ⟨(some 27), (.bin .xor (.t 26) (.c (.i .u64 8387220255154660723))), none, 7, []⟩, ⟨(some 28), (.build [(.i .u64 0), (.i .u64 0), (.i .u64 0), (.i .u64 0)] [(0, 1, (.t 21)), (1, 1, (.t 23)), (2, 1, (.t 25)), (3, 1, (.t 27))]), none, 8, []⟩, ⟨(some 8), (.alloc [(.i .u64 0), (.i .u64 0), (.i .u64 0), (.i .u64 0)]), none, 9, []⟩, ⟨none, (.store 4 (.t 8) (.t 28)), none, 10, []⟩])
  (.seq (.region [⟨(some 29), (.mv (.t 1)), none, 0, []⟩, ⟨(some 30), (.lenx (.t 29)), none, 1, []⟩, ⟨(some 31), (.cint .u64 (.t 30)), none, 2, []⟩, ⟨(some 32), (.bin .shl (.t 31) (.c (.i .u64 56))), none, 3, []⟩, ⟨(some 9), (.mv (.t 32)), none, 4, []⟩])
  (.seq (.block 0 (.loop (.seq (.seq (.region [⟨(some 33), (.mv (.t 1)), none, 0, []⟩, ⟨(some 34), (.lenx (.t 33)), none, 1, []⟩, ⟨(some 35), (.bin .geq (.t 34) (.c (.i .i64 8))), none, 2, []⟩])
  (.cond (.t 35) .skip (.exit 0)))
  (.seq (.block 1 (.draw [⟨(some 39), (.mv (.t 1)), none, 1, []⟩, ⟨(some 38), (.load true 4 (.t 8)), none, 0, []⟩, ⟨(some 40), (.call (.c (.fn (.func 15) [] [])) [(.t 39)]), none, 2, [1]⟩, ⟨(some 41), (.call (.c (.fn (.func 16) [] [])) [(.t 38), (.t 40)]), none, 3, [0, 1, 2]⟩, ⟨none, (.store 4 (.t 8) (.t 41)), none, 4, [0, 1, 2, 3]⟩]))
  (.region [⟨(some 36), (.mv (.t 1)), none, 0, []⟩, ⟨(some 37), (.slsl 1 (.t 36) (some (.c (.i .i64 8))) none none), none, 1, []⟩, ⟨(some 1), (.mv (.t 37)), none, 2, []⟩])))))
  (.seq (.seq (.region [⟨(some 42), (.mv (.t 1)), none, 0, []⟩, ⟨(some 43), (.lenx (.t 42)), none, 1, []⟩, ⟨(some 44), (.mv (.c (.i .i64 0))), none, 2, []⟩])
  (.block 2 (.loop (.seq (.region [⟨(some 45), (.bin .lss (.t 44) (.t 43)), none, 0, []⟩])
  (.seq (.cond (.t 45) .skip (.exit 2))
  (.seq (.block 3 (.seq (.region [⟨(some 46), (.mv (.t 44)), none, 0, []⟩, ⟨(some 47), (.isl 1 (.t 42) (.t 44)), none, 1, []⟩, ⟨(some 48), (.load false 1 (.t 47)), none, 2, []⟩, ⟨(some 10), (.mv (.t 46)), none, 3, []⟩, ⟨(some 11), (.mv (.t 48)), none, 4, []⟩])
  (.region [⟨(some 49), (.mv (.t 9)), none, 0, []⟩, ⟨(some 50), (.mv (.t 11)), none, 1, []⟩, ⟨(some 51), (.cint .u64 (.t 50)), none, 2, []⟩, ⟨(some 52), (.mv (.t 10)), none, 3, []⟩, ⟨(some 53), (.bin .mul (.c (.i .i64 8)) (.t 52)), none, 4, []⟩, ⟨(some 54), (.bin .shl (.t 51) (.t 53)), none, 5, []⟩, ⟨(some 55), (.bin .or (.t 49) (.t 54)), none, 6, []⟩, ⟨(some 9), (.mv (.t 55)), none, 7, []⟩])))
  (.region [⟨(some 56), (.bin .add (.t 44) (.c (.i .i64 1))), none, 0, []⟩, ⟨(some 44), (.mv (.t 56)), none, 1, []⟩])))))))
  (.seq (.region [⟨(some 57), (.load true 4 (.t 8)), none, 0, []⟩, ⟨(some 58), (.mv (.t 9)), none, 1, []⟩, ⟨(some 59), (.call (.c (.fn (.func 16) [] [])) [(.t 57), (.t 58)]), none, 2, []⟩, ⟨none, (.store 4 (.t 8) (.t 59)), none, 3, []⟩])
  (.seq (.region [⟨(some 60), (.iarr 4 1 (.t 8) (.c (.i .i64 2))), none, 0, []⟩, ⟨(some 61), (.load false 1 (.t 60)), none, 1, []⟩, ⟨(some 62), (.bin .xor (.t 61) (.c (.i .u64 255))), none, 2, []⟩, ⟨(some 63), (.iarr 4 1 (.t 8) (.c (.i .i64 2))), none, 3, []⟩, ⟨none, (.store 1 (.t 63) (.t 62)), none, 4, []⟩])
  (.seq (.region [⟨(some 64), (.load true 4 (.t 8)), none, 0, []⟩, ⟨(some 65), (.call (.c (.fn (.func 8) [] [])) [(.t 64)]), none, 1, []⟩, ⟨(some 66), (.call (.c (.fn (.func 8) [] [])) [(.t 65)]), none, 2, []⟩, ⟨(some 67), (.call (.c (.fn (.func 8) [] [])) [(.t 66)]), none, 3, []⟩, ⟨(some 68), (.call (.c (.fn (.func 8) [] [])) [(.t 67)]), none, 4, []⟩, ⟨none, (.store 4 (.t 8) (.t 68)), none, 5, []⟩])
  (.seq (.region [⟨(some 69), (.iarr 4 1 (.t 8) (.c (.i .i64 0))), none, 0, []⟩, ⟨(some 70), (.load false 1 (.t 69)), none, 1, []⟩, ⟨(some 71), (.iarr 4 1 (.t 8) (.c (.i .i64 1))), none, 2, []⟩, ⟨(some 72), (.load false 1 (.t 71)), none, 3, []⟩, ⟨(some 73), (.bin .xor (.t 70) (.t 72)), none, 4, []⟩, ⟨(some 74), (.iarr 4 1 (.t 8) (.c (.i .i64 2))), none, 5, []⟩, ⟨(some 75), (.load false 1 (.t 74)), none, 6, []⟩, ⟨(some 76), (.bin .xor (.t 73) (.t 75)), none, 7, []⟩, ⟨(some 77), (.iarr 4 1 (.t 8) (.c (.i .i64 3))), none, 8, []⟩, ⟨(some 78), (.load false 1 (.t 77)), none, 9, []⟩, ⟨(some 79), (.bin .xor (.t 76) (.t 78)), none, 10, []⟩, ⟨(some 4), (.mv (.t 79)), none, 11, []⟩, ⟨(some 5), (.mv (.c (.b true))), none, 12, []⟩])
  .ret)))))))))))
def x10 : XFun := ⟨x10b, [(.t 4), (.t 5)]⟩
theorem x10_ok : compF Try.prog 10 = some x10 := by kernel_rfl
/-- bollard/bollardref04.Code (95) -/
def x11b : XC := (.seq (.region [⟨(some 4), (.mv (.c (.i .u64 0))), none, 0, []⟩, ⟨(some 5), (.mv (.c (.b false))), none, 1, []⟩])
  (.seq (.seq (.region [⟨(some 15), (.mv (.t 0)), none, 0, []⟩, ⟨(some 16), (.lenx (.t 15)), none, 1, []⟩, ⟨(some 17), (.bin .neq (.t 16) (.c (.i .i64 16))), none, 2, []⟩])
  (.cond (.t 17) (.seq (.region [⟨(some 4), (.mv (.c (.i .u64 0))), none, 0, []⟩, ⟨(some 5), (.mv (.c (.b false))), none, 1, []⟩])
  .ret) .skip))
  (.seq (.region [⟨(some 18), (.mv (.t 0)), none, 0, []⟩, ⟨(some 19), (.slsl 1 (.t 18) none (some (.c (.i .i64 8))) none), none, 1, []⟩, ⟨(some 20), (.call (.c (.fn (.func 17) [] [])) [(.t 19)]), none, 2, []⟩, ⟨(some 6), (.mv (.t 20)), none, 3, []⟩])
  (.seq (.region [⟨(some 21), (.mv (.t 0)), none, 0, []⟩, ⟨(some 22), (.slsl 1 (.t 21) (some (.c (.i .i64 8))) none none), none, 1, []⟩, ⟨(some 23), (.call (.c (.fn (.func 17) [] [])) [(.t 22)]), none, 2, []⟩, ⟨(some 7), (.mv (.t 23)), none, 3, []⟩])
  (.seq (.region [⟨(some 24), (.mv (.t 6)), none, 0, []⟩, ⟨(some 25), (.bin .xor (.t 24) (.c (.i .u64 8317987319222330741))), none, 1, []⟩, ⟨(some 8), (.mv (.t 25)), none, 2, []⟩])
  (.seq (.region [⟨(some 26), (.mv (.t 7)), none, 0, []⟩, ⟨(some 27), (.bin .xor (.t 26) (.c (.i .u64 7237128888997146477))), none, 1, []⟩, ⟨(some 9), (.mv (.t 27)), none, 2, []⟩])
  (.seq (.region [⟨(some 28), (.mv (.t 6)), none, 0, []⟩, ⟨(some 29), (.bin .xor (.t 28) (.c (.i .u64 7816392313619706465))), none, 1, []⟩, ⟨(some 10), (.mv (.t 29)), none, 2, []⟩])
  (.seq (.region [⟨(some 30), (.mv (.t 7)), none, 0, []⟩, ⟨(some 31), (.bin .xor (.t 30) (.c (.i .u64 8387220255154660723))), none, 1, []⟩, ⟨(some 11), (.mv (.t 31)), none, 2, []⟩])
  (.seq (.region [⟨(some 32), (.mv (.t 1)), none, 0, []⟩, ⟨(some 33), (.call (.c (.fn (.func 18) [] [])) [(.t 32)]), none, 1, []⟩, ⟨(some 12), (.mv (.t 33)), none, 2, []⟩])
  (.seq (.seq (.region [⟨(some 13), (.mv (.c (.i .i64 0))), none, 0, []⟩])
  (.block 0 (.loop (.seq (.seq (.region [⟨(some 34), (.mv (.t 13)), none, 0, []⟩, ⟨(some 35), (.mv (.t 12)), none, 1, []⟩, ⟨(some 36), (.lenx (.t 35)), none, 2, []⟩, ⟨(some 37), (.bin .lss (.t 34) (.t 36)), none, 3, []⟩])
  (.cond (.t 37) .skip (.exit 0)))
  (.seq (.block 1 (.seq (.region [⟨(some 40), (.mv (.t 11)), none, 0, []⟩, ⟨(some 41), (.mv (.t 12)), none, 1, []⟩, ⟨(some 42), (.mv (.t 13)), none, 2, []⟩, ⟨(some 43), (.isl 1 (.t 41) (.t 42)), none, 3, []⟩, ⟨(some 44), (.load false 1 (.t 43)), none, 4, []⟩, ⟨(some 45), (.bin .xor (.t 40) (.t 44)), none, 5, []⟩, ⟨(some 11), (.mv (.t 45)), none, 6, []⟩])
  (.seq (.region [⟨(some 47), (.mv (.t 8)), none, 0, []⟩, ⟨(some 48), (.mv (.t 9)), none, 1, []⟩, ⟨(some 49), (.mv (.t 10)), none, 2, []⟩, ⟨(some 50), (.mv (.t 11)), none, 3, []⟩, ⟨(some 51), (.call (.c (.fn (.func 9) [] [])) [(.t 47), (.t 48), (.t 49), (.t 50)]), none, 4, []⟩, ⟨(some 46), (.mv (.t 51)), none, 5, []⟩, ⟨(some 52), (.ext (.t 46) 0), none, 6, []⟩, ⟨(some 53), (.ext (.t 46) 1), none, 7, []⟩, ⟨(some 54), (.ext (.t 46) 2), none, 8, []⟩, ⟨(some 55), (.ext (.t 46) 3), none, 9, []⟩, ⟨(some 8), (.mv (.t 52)), none, 10, []⟩, ⟨(some 9), (.mv (.t 53)), none, 11, []⟩, ⟨(some 10), (.mv (.t 54)), none, 12, []⟩, ⟨(some 11), (.mv (.t 55)), none, 13, []⟩])
  (.seq (.region [⟨(some 57), (.mv (.t 8)), none, 0, []⟩, ⟨(some 58), (.mv (.t 9)), none, 1, []⟩, ⟨(some 59), (.mv (.t 10)), none, 2, []⟩, ⟨(some 60), (.mv (.t 11)), none, 3, []⟩, ⟨(some 61), (.call (.c (.fn (.func 9) [] [])) [(.t 57), (.t 58), (.t 59), (.t 60)]), none, 4, []⟩, ⟨(some 56), (.mv (.t 61)), none, 5, []⟩, ⟨(some 62), (.ext (.t 56) 0), none, 6, []⟩, ⟨(some 63), (.ext (.t 56) 1), none, 7, []⟩, ⟨(some 64), (.ext (.t 56) 2), none, 8, []⟩, ⟨(some 65), (.ext (.t 56) 3), none, 9, []⟩, ⟨(some 8), (.mv (.t 62)), none, 10, []⟩, ⟨(some 9), (.mv (.t 63)), none, 11, []⟩, ⟨(some 10), (.mv (.t 64)), none, 12, []⟩, ⟨(some 11), (.mv (.t 65)), none, 13, []⟩])
  (.region [⟨(some 66), (.mv (.t 8)), none, 0, []⟩, ⟨(some 67), (.mv (.t 12)), none, 1, []⟩, ⟨(some 68), (.mv (.t 13)), none, 2, []⟩, ⟨(some 69), (.isl 1 (.t 67) (.t 68)), none, 3, []⟩, ⟨(some 70), (.load false 1 (.t 69)), none, 4, []⟩, ⟨(some 71), (.bin .xor (.t 66) (.t 70)), none, 5, []⟩, ⟨(some 8), (.mv (.t 71)), none, 6, []⟩])))))
  (.region [⟨(some 38), (.mv (.t 13)), none, 0, []⟩, ⟨(some 39), (.bin .add (.t 38) (.c (.i .i64 1))), none, 1, []⟩, ⟨(some 13), (.mv (.t 39)), none, 2, []⟩]))))))
  (.seq (.region [⟨(some 72), (.mv (.t 10)), none, 0, []⟩, ⟨(some 73), (.bin .xor (.t 72) (.c (.i .u64 255))), none, 1, []⟩, ⟨(some 10), (.mv (.t 73)), none, 2, []⟩])
  (.seq (.seq (.region [⟨(some 14), (.mv (.c (.i .i64 0))), none, 0, []⟩])
  (.block 2 (.loop (.seq (.seq (.region [⟨(some 74), (.mv (.t 14)), none, 0, []⟩, ⟨(some 75), (.bin .lss (.t 74) (.c (.i .i64 4))), none, 1, []⟩])
  (.cond (.t 75) .skip (.exit 2)))
  (.seq (.block 3 (.region [⟨(some 79), (.mv (.t 8)), none, 0, []⟩, ⟨(some 80), (.mv (.t 9)), none, 1, []⟩, ⟨(some 81), (.mv (.t 10)), none, 2, []⟩, ⟨(some 82), (.mv (.t 11)), none, 3, []⟩, ⟨(some 83), (.call (.c (.fn (.func 9) [] [])) [(.t 79), (.t 80), (.t 81), (.t 82)]), none, 4, []⟩, ⟨(some 78), (.mv (.t 83)), none, 5, []⟩, ⟨(some 84), (.ext (.t 78) 0), none, 6, []⟩, ⟨(some 85), (.ext (.t 78) 1), none, 7, []⟩, ⟨(some 86), (.ext (.t 78) 2), none, 8, []⟩, ⟨(some 87), (.ext (.t 78) 3), none, 9, []⟩, ⟨(some 8), (.mv (.t 84)), none, 10, []⟩, ⟨(some 9), (.mv (.t 85)), none, 11, []⟩, ⟨(some 10), (.mv (.t 86)), none, 12, []⟩, ⟨(some 11), (.mv (.t 87)), none, 13, []⟩]))
  (.region [⟨(some 76), (.mv (.t 14)), none, 0, []⟩, ⟨(some 77), (.bin .add (.t 76) (.c (.i .i64 1))), none, 1, []⟩, ⟨(some 14), (.mv (.t 77)), none, 2, []⟩]))))))
  (.seq (.region [⟨(some 88), (.mv (.t 8)), none, 0, []⟩, ⟨(some 89), (.mv (.t 9)), none, 1, []⟩, ⟨(some 90), (.bin .xor (.t 88) (.t 89)), none, 2, []⟩, ⟨(some 91), (.mv (.t 10)), none, 3, []⟩, ⟨(some 92), (.bin .xor (.t 90) (.t 91)), none, 4, []⟩, ⟨(some 93), (.mv (.t 11)), none, 5, []⟩, ⟨(some 94), (.bin .xor (.t 92) (.t 93)), none, 6, []⟩, ⟨(some 4), (.mv (.t 94)), none, 7, []⟩, ⟨(some 5), (.mv (.c (.b true))), none, 8, []⟩])
  .ret)))))))))))))
def x11 : XFun := ⟨x11b, [(.t 4), (.t 5)]⟩
theorem x11_ok : compF Try.prog 11 = some x11 := by kernel_rfl
/-- bollard/bollardlaw04.counted (16) -/
def x12b : XC := (.seq (.region [⟨(some 2), (.mv (.c (.sl none 0 0 0))), none, 0, []⟩])
  (.seq (.region [⟨(some 3), (.mv (.c (.sl none 0 0 0))), none, 0, []⟩])
  (.seq (.seq (.region [⟨(some 4), (.mv (.c (.i .i64 0))), none, 0, []⟩])
  (.block 0 (.loop (.seq (.seq (.region [⟨(some 5), (.mv (.t 4)), none, 0, []⟩, ⟨(some 6), (.mv (.t 0)), none, 1, []⟩, ⟨(some 7), (.bin .lss (.t 5) (.t 6)), none, 2, []⟩])
  (.cond (.t 7) .skip (.exit 0)))
  (.seq (.block 1 (.region [⟨(some 10), (.mv (.t 3)), none, 0, []⟩, ⟨(some 11), (.mv (.t 4)), none, 1, []⟩, ⟨(some 12), (.cint .u8 (.t 11)), none, 2, []⟩, ⟨(some 13), (.bslice [(.i .u8 0)] [(0, 1, (.t 12))] 1), none, 3, []⟩, ⟨(some 14), (.append 1 1 (.t 10) (.t 13)), none, 4, []⟩, ⟨(some 3), (.mv (.t 14)), none, 5, []⟩]))
  (.region [⟨(some 8), (.mv (.t 4)), none, 0, []⟩, ⟨(some 9), (.bin .add (.t 8) (.c (.i .i64 1))), none, 1, []⟩, ⟨(some 4), (.mv (.t 9)), none, 2, []⟩]))))))
  (.seq (.region [⟨(some 15), (.mv (.t 3)), none, 0, []⟩, ⟨(some 2), (.mv (.t 15)), none, 1, []⟩])
  .ret))))
def x12 : XFun := ⟨x12b, [(.t 2)]⟩
theorem x12_ok : compF Try.prog 12 = some x12 := by kernel_rfl
/-- math/bits.RotateLeft64 (17) -/
def x13b : XC := (.seq (.region [⟨(some 4), (.mv (.c (.i .u64 0))), none, 0, []⟩])
  (.seq (.region [⟨(some 6), (.mv (.t 1)), none, 0, []⟩, ⟨(some 7), (.cint .u64 (.t 6)), none, 1, []⟩, ⟨(some 8), (.bin .and (.t 7) (.c (.i .u64 63))), none, 2, []⟩, ⟨(some 5), (.mv (.t 8)), none, 3, []⟩])
  (.seq (.region [⟨(some 9), (.mv (.t 0)), none, 0, []⟩, ⟨(some 10), (.mv (.t 5)), none, 1, []⟩, ⟨(some 11), (.bin .shl (.t 9) (.t 10)), none, 2, []⟩, ⟨(some 12), (.mv (.t 0)), none, 3, []⟩, ⟨(some 13), (.mv (.t 5)), none, 4, []⟩, ⟨(some 14), (.bin .sub (.c (.i .u64 64)) (.t 13)), none, 5, []⟩, ⟨(some 15), (.bin .shr (.t 12) (.t 14)), none, 6, []⟩, ⟨(some 16), (.bin .or (.t 11) (.t 15)), none, 7, []⟩, ⟨(some 4), (.mv (.t 16)), none, 8, []⟩])
  .ret)))
def x13 : XFun := ⟨x13b, [(.t 4)]⟩
theorem x13_ok : compF Try.prog 13 = some x13 := by kernel_rfl
/-- bollard/bollardref04.rotl (15) -/
def x14b : XC := (.seq (.region [⟨(some 4), (.mv (.c (.i .u64 0))), none, 0, []⟩])
  (.seq (.region [⟨(some 5), (.mv (.t 0)), none, 0, []⟩, ⟨(some 6), (.mv (.t 1)), none, 1, []⟩, ⟨(some 7), (.cint .u64 (.t 6)), none, 2, []⟩, ⟨(some 8), (.bin .shl (.t 5) (.t 7)), none, 3, []⟩, ⟨(some 9), (.mv (.t 0)), none, 4, []⟩, ⟨(some 10), (.mv (.t 1)), none, 5, []⟩, ⟨(some 11), (.bin .sub (.c (.i .i64 64)) (.t 10)), none, 6, []⟩, ⟨(some 12), (.cint .u64 (.t 11)), none, 7, []⟩, ⟨(some 13), (.bin .shr (.t 9) (.t 12)), none, 8, []⟩, ⟨(some 14), (.bin .or (.t 8) (.t 13)), none, 9, []⟩, ⟨(some 4), (.mv (.t 14)), none, 10, []⟩])
  .ret))
def x14 : XFun := ⟨x14b, [(.t 4)]⟩
theorem x14_ok : compF Try.prog 14 = some x14 := by kernel_rfl
/-- bollard/sip.low (23) -/
def x15b : XC := (.seq (.region [⟨(some 2), (.mv (.c (.i .u64 0))), none, 0, []⟩])
  (.seq (.region [⟨(some 3), (.mv (.c (.i .u64 0))), none, 0, []⟩])
  (.seq (.seq (.region [⟨(some 6), (.mv (.t 0)), none, 0, []⟩, ⟨(some 7), (.slsl 1 (.t 6) none (some (.c (.i .i64 8))) none), none, 1, []⟩, ⟨(some 8), (.lenx (.t 7)), none, 2, []⟩, ⟨(some 9), (.mv (.c (.i .i64 0))), none, 3, []⟩])
  (.block 0 (.loop (.seq (.region [⟨(some 10), (.bin .lss (.t 9) (.t 8)), none, 0, []⟩])
  (.seq (.cond (.t 10) .skip (.exit 0))
  (.seq (.block 1 (.seq (.region [⟨(some 11), (.mv (.t 9)), none, 0, []⟩, ⟨(some 12), (.isl 1 (.t 7) (.t 9)), none, 1, []⟩, ⟨(some 13), (.load false 1 (.t 12)), none, 2, []⟩, ⟨(some 4), (.mv (.t 11)), none, 3, []⟩, ⟨(some 5), (.mv (.t 13)), none, 4, []⟩])
  (.region [⟨(some 14), (.mv (.t 3)), none, 0, []⟩, ⟨(some 15), (.mv (.t 5)), none, 1, []⟩, ⟨(some 16), (.cint .u64 (.t 15)), none, 2, []⟩, ⟨(some 17), (.mv (.t 4)), none, 3, []⟩, ⟨(some 18), (.bin .mul (.c (.i .i64 8)) (.t 17)), none, 4, []⟩, ⟨(some 19), (.bin .shl (.t 16) (.t 18)), none, 5, []⟩, ⟨(some 20), (.bin .or (.t 14) (.t 19)), none, 6, []⟩, ⟨(some 3), (.mv (.t 20)), none, 7, []⟩])))
  (.region [⟨(some 21), (.bin .add (.t 9) (.c (.i .i64 1))), none, 0, []⟩, ⟨(some 9), (.mv (.t 21)), none, 1, []⟩])))))))
  (.seq (.region [⟨(some 22), (.mv (.t 3)), none, 0, []⟩, ⟨(some 2), (.mv (.t 22)), none, 1, []⟩])
  .ret))))
def x15 : XFun := ⟨x15b, [(.t 2)]⟩
theorem x15_ok : compF Try.prog 15 = some x15 := by kernel_rfl
/-- bollard/sip.take (19) -/
def x16b : XC := (.seq (.region [⟨(some 2), (.box (.t 0)), none, 0, []⟩, ⟨(some 4), (.alloc [(.i .u64 0), (.i .u64 0), (.i .u64 0), (.i .u64 0)]), none, 1, []⟩])
  (.seq (.region [⟨(some 5), (.iarr 4 1 (.t 2) (.c (.i .i64 3))), none, 0, []⟩, ⟨(some 6), (.load false 1 (.t 5)), none, 1, []⟩, ⟨(some 7), (.mv (.t 1)), none, 2, []⟩, ⟨(some 8), (.bin .xor (.t 6) (.t 7)), none, 3, []⟩, ⟨(some 9), (.iarr 4 1 (.t 2) (.c (.i .i64 3))), none, 4, []⟩, ⟨none, (.store 1 (.t 9) (.t 8)), none, 5, []⟩])
  (.seq (.region [⟨(some 10), (.load true 4 (.t 2)), none, 0, []⟩, ⟨(some 11), (.call (.c (.fn (.func 8) [] [])) [(.t 10)]), none, 1, []⟩, ⟨(some 12), (.call (.c (.fn (.func 8) [] [])) [(.t 11)]), none, 2, []⟩, ⟨none, (.store 4 (.t 2) (.t 12)), none, 3, []⟩])
  (.seq (.region [⟨(some 13), (.iarr 4 1 (.t 2) (.c (.i .i64 0))), none, 0, []⟩, ⟨(some 14), (.load false 1 (.t 13)), none, 1, []⟩, ⟨(some 15), (.mv (.t 1)), none, 2, []⟩, ⟨(some 16), (.bin .xor (.t 14) (.t 15)), none, 3, []⟩, ⟨(some 17), (.iarr 4 1 (.t 2) (.c (.i .i64 0))), none, 4, []⟩, ⟨none, (.store 1 (.t 17) (.t 16)), none, 5, []⟩])
  (.seq (.region [⟨(some 18), (.load true 4 (.t 2)), none, 0, []⟩, ⟨none, (.store 4 (.t 4) (.t 18)), none, 1, []⟩])
  .ret)))))
def x16 : XFun := ⟨x16b, [(.cell 4 true 4)]⟩
theorem x16_ok : compF Try.prog 16 = some x16 := by kernel_rfl
/-- bollard/bollardref04.number (21) -/
def x17b : XC := (.seq (.region [⟨(some 2), (.mv (.c (.i .u64 0))), none, 0, []⟩])
  (.seq (.region [⟨(some 3), (.mv (.c (.i .u64 0))), none, 0, []⟩])
  (.seq (.seq (.region [⟨(some 5), (.mv (.t 0)), none, 0, []⟩, ⟨(some 6), (.lenx (.t 5)), none, 1, []⟩, ⟨(some 7), (.bin .sub (.t 6) (.c (.i .i64 1))), none, 2, []⟩, ⟨(some 4), (.mv (.t 7)), none, 3, []⟩])
  (.block 0 (.loop (.seq (.seq (.region [⟨(some 8), (.mv (.t 4)), none, 0, []⟩, ⟨(some 9), (.bin .geq (.t 8) (.c (.i .i64 0))), none, 1, []⟩])
  (.cond (.t 9) .skip (.exit 0)))
  (.seq (.block 1 (.region [⟨(some 12), (.mv (.t 3)), none, 0, []⟩, ⟨(some 13), (.bin .mul (.t 12) (.c (.i .u64 256))), none, 1, []⟩, ⟨(some 14), (.mv (.t 0)), none, 2, []⟩, ⟨(some 15), (.mv (.t 4)), none, 3, []⟩, ⟨(some 16), (.isl 1 (.t 14) (.t 15)), none, 4, []⟩, ⟨(some 17), (.load false 1 (.t 16)), none, 5, []⟩, ⟨(some 18), (.cint .u64 (.t 17)), none, 6, []⟩, ⟨(some 19), (.bin .add (.t 13) (.t 18)), none, 7, []⟩, ⟨(some 3), (.mv (.t 19)), none, 8, []⟩]))
  (.region [⟨(some 10), (.mv (.t 4)), none, 0, []⟩, ⟨(some 11), (.bin .sub (.t 10) (.c (.i .i64 1))), none, 1, []⟩, ⟨(some 4), (.mv (.t 11)), none, 2, []⟩]))))))
  (.seq (.region [⟨(some 20), (.mv (.t 3)), none, 0, []⟩, ⟨(some 2), (.mv (.t 20)), none, 1, []⟩])
  .ret))))
def x17 : XFun := ⟨x17b, [(.t 2)]⟩
theorem x17_ok : compF Try.prog 17 = some x17 := by kernel_rfl
/-- bollard/bollardref04.Words (39) -/
def x18b : XC := (.seq (.region [⟨(some 2), (.mv (.c (.sl none 0 0 0))), none, 0, []⟩])
  (.seq (.region [⟨(some 3), (.mv (.c (.sl none 0 0 0))), none, 0, []⟩])
  (.seq (.region [⟨(some 6), (.mv (.t 0)), none, 0, []⟩, ⟨(some 7), (.lenx (.t 6)), none, 1, []⟩, ⟨(some 8), (.bin .quo (.t 7) (.c (.i .i64 8))), none, 2, []⟩, ⟨(some 4), (.mv (.t 8)), none, 3, []⟩])
  (.seq (.seq (.region [⟨(some 5), (.mv (.c (.i .i64 0))), none, 0, []⟩])
  (.block 0 (.loop (.seq (.seq (.region [⟨(some 9), (.mv (.t 5)), none, 0, []⟩, ⟨(some 10), (.mv (.t 4)), none, 1, []⟩, ⟨(some 11), (.bin .lss (.t 9) (.t 10)), none, 2, []⟩])
  (.cond (.t 11) .skip (.exit 0)))
  (.seq (.block 1 (.region [⟨(some 14), (.mv (.t 3)), none, 0, []⟩, ⟨(some 15), (.mv (.t 0)), none, 1, []⟩, ⟨(some 16), (.mv (.t 5)), none, 2, []⟩, ⟨(some 17), (.bin .mul (.c (.i .i64 8)) (.t 16)), none, 3, []⟩, ⟨(some 18), (.mv (.t 5)), none, 4, []⟩, ⟨(some 19), (.bin .mul (.c (.i .i64 8)) (.t 18)), none, 5, []⟩, ⟨(some 20), (.bin .add (.t 19) (.c (.i .i64 8))), none, 6, []⟩, ⟨(some 21), (.slsl 1 (.t 15) (some (.t 17)) (some (.t 20)) none), none, 7, []⟩, ⟨(some 22), (.call (.c (.fn (.func 17) [] [])) [(.t 21)]), none, 8, []⟩, ⟨(some 23), (.bslice [(.i .u64 0)] [(0, 1, (.t 22))] 1), none, 9, []⟩, ⟨(some 24), (.append 1 8 (.t 14) (.t 23)), none, 10, []⟩, ⟨(some 3), (.mv (.t 24)), none, 11, []⟩]))
  (.region [⟨(some 12), (.mv (.t 5)), none, 0, []⟩, ⟨(some 13), (.bin .add (.t 12) (.c (.i .i64 1))), none, 1, []⟩, ⟨(some 5), (.mv (.t 13)), none, 2, []⟩]))))))
  (.seq (.region [⟨(some 25), (.mv (.t 3)), none, 0, []⟩, ⟨(some 26), (.mv (.t 0)), none, 1, []⟩, ⟨(some 27), (.mv (.t 4)), none, 2, []⟩, ⟨(some 28), (.bin .mul (.c (.i .i64 8)) (.t 27)), none, 3, []⟩, ⟨(some 29), (.slsl 1 (.t 26) (some (.t 28)) none none), none, 4, []⟩, ⟨(some 30), (.call (.c (.fn (.func 17) [] [])) [(.t 29)]), none, 5, []⟩, ⟨(some 31), (.mv (.t 0)), none, 6, []⟩, ⟨(some 32), (.lenx (.t 31)), none, 7, []⟩, ⟨(some 33), (.bin .rem (.t 32) (.c (.i .i64 256))), none, 8, []⟩, ⟨(some 34), (.cint .u64 (.t 33)), none, 9, []⟩, ⟨(some 35), (.bin .shl (.t 34) (.c (.i .u64 56))), none, 10, []⟩, ⟨(some 36), (.bin .add (.t 30) (.t 35)), none, 11, []⟩, ⟨(some 37), (.bslice [(.i .u64 0)] [(0, 1, (.t 36))] 1), none, 12, []⟩, ⟨(some 38), (.append 1 8 (.t 25) (.t 37)), none, 13, []⟩, ⟨(some 2), (.mv (.t 38)), none, 14, []⟩])
  .ret)))))
def x18 : XFun := ⟨x18b, [(.t 2)]⟩
theorem x18_ok : compF Try.prog 18 = some x18 := by kernel_rfl
def tab : Nat → Option XFun := fun g => match g with
  | 3 => some x3
  | 4 => some x4
  | 5 => some x5
  | 6 => some x6
  | 7 => some x7
  | 8 => some x8
  | 9 => some x9
  | 10 => some x10
  | 11 => some x11
  | 12 => some x12
  | 13 => some x13
  | 14 => some x14
  | 15 => some x15
  | 16 => some x16
  | 17 => some x17
  | 18 => some x18
  | _ => none
theorem tab_ok : TabOK Try.prog tab := by
  intro g F h
  unfold tab at h
  split at h
  · cases h; exact x3_ok
  · cases h; exact x4_ok
  · cases h; exact x5_ok
  · cases h; exact x6_ok
  · cases h; exact x7_ok
  · cases h; exact x8_ok
  · cases h; exact x9_ok
  · cases h; exact x10_ok
  · cases h; exact x11_ok
  · cases h; exact x12_ok
  · cases h; exact x13_ok
  · cases h; exact x14_ok
  · cases h; exact x15_ok
  · cases h; exact x16_ok
  · cases h; exact x17_ok
  · cases h; exact x18_ok
  · cases h
end Go.Proofs.Ytmkahjffhnfhjaa.E
