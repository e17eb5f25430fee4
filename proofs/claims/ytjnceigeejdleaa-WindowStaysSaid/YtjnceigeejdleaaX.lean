/- The compiled functions of the seat, as told by the evaluator's compiler; written by a program of this session, wip/eng/px.lean. It bears no condition. -/
import Derived.Test.YtjnceigeejdleaaE19
import Derived.Test.YtjnceigeejdleaaChecked
namespace Go.Proofs.Ytjnceigeejdleaa.E
set_option linter.unusedVariables false
/-- bollard/bollardlaw12.WindowStays (78) -/
def x3b : XC := (.seq (.region [⟨(some 4), (.mv (.c (.b false))), none, 0, []⟩])
  (.seq (.region [⟨(some 9), (.call (.c (.fn (.func 7) [] [])) []), none, 0, []⟩, ⟨(some 5), (.mv (.t 9)), none, 1, []⟩])
  (.seq (.seq (.region [⟨(some 10), (.mv (.t 1)), none, 0, []⟩, ⟨(some 11), (.lenx (.t 10)), none, 1, []⟩, ⟨(some 12), (.bin .gtr (.t 11) (.c (.i .i64 2000))), none, 2, []⟩])
  (.cond (.t 12) (.seq (.region [⟨(some 13), (.mv (.t 5)), none, 0, []⟩, ⟨(some 4), (.mv (.t 13)), none, 1, []⟩])
  .ret) .skip))
  (.seq (.region [⟨(some 14), (.mv (.t 0)), none, 0, []⟩, ⟨(some 15), (.call (.c (.fn (.func 8) [] [])) [(.t 14)]), none, 1, []⟩, ⟨(some 6), (.alloc [(.i .i64 0), (.i .i64 0), (.i .i64 0), (.i .i64 0), (.b false), (.i .u32 0)]), none, 2, []⟩, ⟨none, (.store 6 (.t 6) (.t 15)), none, 3, []⟩])
  (.seq (.region [⟨(some 16), (.fadd 3 (.t 6)), none, 0, []⟩, ⟨(some 17), (.load false 1 (.t 16)), none, 1, []⟩, ⟨(some 7), (.mv (.t 17)), none, 2, []⟩])
  (.seq (.seq (.region [⟨(some 8), (.mv (.c (.i .i64 0))), none, 0, []⟩])
  (.block 0 (.loop (.seq (.seq (.region [⟨(some 18), (.mv (.t 8)), none, 0, []⟩, ⟨(some 19), (.mv (.t 1)), none, 1, []⟩, ⟨(some 20), (.lenx (.t 19)), none, 2, []⟩, ⟨(some 21), (.bin .lss (.t 18) (.t 20)), none, 3, []⟩])
  (.cond (.t 21) .skip (.exit 0)))
  (.seq (.block 1 (.seq (.seq (.region [⟨(some 24), (.mv (.t 1)), none, 0, []⟩, ⟨(some 25), (.mv (.t 8)), none, 1, []⟩, ⟨(some 26), (.isl 4 (.t 24) (.t 25)), none, 2, []⟩, ⟨(some 27), (.fadd 0 (.t 26)), none, 3, []⟩, ⟨(some 28), (.load false 1 (.t 27)), none, 4, []⟩])
  (.block 2 (.seq (.region [⟨(some 32), (.bin .eql (.t 28) (.c (.i .i64 0))), none, 0, []⟩, ⟨(some 31), (.mv (.t 32)), none, 1, []⟩])
  (.cond (.t 31) (.draw [⟨(some 34), (.mv (.t 1)), none, 1, []⟩, ⟨(some 35), (.mv (.t 8)), none, 2, []⟩, ⟨(some 36), (.isl 4 (.t 34) (.t 35)), none, 3, [1, 2]⟩, ⟨(some 37), (.fadd 1 (.t 36)), none, 4, [1, 2, 3]⟩, ⟨(some 39), (.mv (.t 1)), none, 6, []⟩, ⟨(some 40), (.mv (.t 8)), none, 7, []⟩, ⟨(some 41), (.isl 4 (.t 39) (.t 40)), none, 8, [6, 7]⟩, ⟨(some 42), (.fadd 2 (.t 41)), none, 9, [6, 7, 8]⟩, ⟨(some 44), (.mv (.t 1)), none, 11, []⟩, ⟨(some 45), (.mv (.t 8)), none, 12, []⟩, ⟨(some 46), (.isl 4 (.t 44) (.t 45)), none, 13, [11, 12]⟩, ⟨(some 47), (.fadd 3 (.t 46)), none, 14, [11, 12, 13]⟩, ⟨(some 33), (.load true 6 (.t 6)), none, 0, []⟩, ⟨(some 38), (.load false 1 (.t 37)), none, 5, [1, 2, 3, 4]⟩, ⟨(some 43), (.load false 1 (.t 42)), none, 10, [6, 7, 8, 9]⟩, ⟨(some 48), (.load false 1 (.t 47)), none, 15, [11, 12, 13, 14]⟩, ⟨(some 49), (.call (.c (.fn (.func 9) [] [])) [(.t 33), (.t 38), (.t 43), (.t 48)]), none, 16, [0, 1, 2, 3, 4, 5, 6, 7, 8, 9, 10, 11, 12, 13, 14, 15]⟩, ⟨none, (.store 6 (.t 6) (.t 49)), none, 17, [0, 1, 2, 3, 4, 5, 6, 7, 8, 9, 10, 11, 12, 13, 14, 15, 16]⟩]) (.seq (.region [⟨(some 51), (.bin .eql (.t 28) (.c (.i .i64 1))), none, 0, []⟩, ⟨(some 50), (.mv (.t 51)), none, 1, []⟩])
  (.cond (.t 50) (.draw [⟨(some 53), (.mv (.t 1)), none, 1, []⟩, ⟨(some 54), (.mv (.t 8)), none, 2, []⟩, ⟨(some 55), (.isl 4 (.t 53) (.t 54)), none, 3, [1, 2]⟩, ⟨(some 56), (.fadd 3 (.t 55)), none, 4, [1, 2, 3]⟩, ⟨(some 52), (.load true 6 (.t 6)), none, 0, []⟩, ⟨(some 57), (.load false 1 (.t 56)), none, 5, [1, 2, 3, 4]⟩, ⟨(some 58), (.call (.c (.fn (.func 10) [] [])) [(.t 52), (.t 57)]), none, 6, [0, 1, 2, 3, 4, 5]⟩, ⟨none, (.store 6 (.t 6) (.t 58)), none, 7, [0, 1, 2, 3, 4, 5, 6]⟩]) (.region [⟨(some 29), (.load true 6 (.t 6)), none, 0, []⟩, ⟨(some 30), (.call (.c (.fn (.func 11) [] [])) [(.t 29)]), none, 1, []⟩, ⟨none, (.store 6 (.t 6) (.t 30)), none, 2, []⟩])))))))
  (.seq (.region [⟨(some 59), (.fadd 3 (.t 6)), none, 0, []⟩, ⟨(some 60), (.load false 1 (.t 59)), none, 1, []⟩, ⟨(some 61), (.mv (.t 7)), none, 2, []⟩, ⟨(some 62), (.bin .neq (.t 60) (.t 61)), none, 3, []⟩, ⟨(some 63), (.mv (.t 62)), none, 4, []⟩, ⟨(some 64), (.load true 6 (.t 6)), (some (63, false)), 5, []⟩, ⟨(some 65), (.call (.c (.fn (.func 13) [] [])) [(.t 64)]), (some (63, false)), 6, []⟩, ⟨(some 66), (.call (.c (.fn (.func 12) [] [])) [(.t 65)]), (some (63, false)), 7, []⟩, ⟨(some 67), (.unx .not (.t 66)), (some (63, false)), 8, []⟩, ⟨(some 68), (.pick (.t 63) (.c (.b true)) (.t 67)), none, 9, []⟩])
  (.cond (.t 68) (.seq (.region [⟨(some 4), (.mv (.c (.b false))), none, 0, []⟩])
  .ret) .skip))))
  (.region [⟨(some 22), (.mv (.t 8)), none, 0, []⟩, ⟨(some 23), (.bin .add (.t 22) (.c (.i .i64 1))), none, 1, []⟩, ⟨(some 8), (.mv (.t 23)), none, 2, []⟩]))))))
  (.seq (.region [⟨(some 69), (.mv (.t 5)), none, 0, []⟩, ⟨(some 70), (.mv (.t 69)), none, 1, []⟩, ⟨(some 71), (.mv (.t 7)), (some (70, true)), 2, []⟩, ⟨(some 72), (.bin .geq (.t 71) (.c (.i .i64 1))), (some (70, true)), 3, []⟩, ⟨(some 73), (.pick (.t 70) (.t 72) (.c (.b false))), none, 4, []⟩, ⟨(some 74), (.mv (.t 73)), none, 5, []⟩, ⟨(some 75), (.mv (.t 7)), (some (74, true)), 6, []⟩, ⟨(some 76), (.bin .leq (.t 75) (.c (.i .i64 65536))), (some (74, true)), 7, []⟩, ⟨(some 77), (.pick (.t 74) (.t 76) (.c (.b false))), none, 8, []⟩, ⟨(some 4), (.mv (.t 77)), none, 9, []⟩])
  .ret)))))))
def x3 : XFun := ⟨x3b, [(.t 4)]⟩
theorem x3_ok : compF Try.prog 3 = some x3 := by kernel_rfl
/-- bollard/bollardlaw12.awake (25) -/
def x7b : XC := (.seq (.region [⟨(some 0), (.mv (.c (.b false))), none, 0, []⟩])
  (.seq (.region [⟨(some 3), (.call (.c (.fn (.func 8) [] [])) [(.c (.i .i64 1200))]), none, 0, []⟩, ⟨(some 4), (.call (.c (.fn (.func 9) [] [])) [(.t 3), (.c (.i .i64 1200)), (.c (.b true)), (.c (.i .u32 5))]), none, 1, []⟩, ⟨(some 1), (.alloc [(.i .i64 0), (.i .i64 0), (.i .i64 0), (.i .i64 0), (.b false), (.i .u32 0)]), none, 2, []⟩, ⟨none, (.store 6 (.t 1) (.t 4)), none, 3, []⟩])
  (.seq (.region [⟨(some 5), (.load true 6 (.t 1)), none, 0, []⟩, ⟨(some 6), (.call (.c (.fn (.func 11) [] [])) [(.t 5)]), none, 1, []⟩, ⟨(some 2), (.alloc [(.i .i64 0), (.i .i64 0), (.i .i64 0), (.i .i64 0), (.b false), (.i .u32 0)]), none, 2, []⟩, ⟨none, (.store 6 (.t 2) (.t 6)), none, 3, []⟩])
  (.seq (.region [⟨(some 7), (.call (.c (.fn (.func 8) [] [])) [(.c (.i .i64 1200))]), none, 0, []⟩, ⟨(some 8), (.fld false 0 1 (.t 7)), none, 1, []⟩, ⟨(some 9), (.bin .eql (.t 8) (.c (.i .i64 3600))), none, 2, []⟩, ⟨(some 10), (.mv (.t 9)), none, 3, []⟩, ⟨(some 11), (.fadd 0 (.t 1)), (some (10, true)), 4, []⟩, ⟨(some 12), (.load false 1 (.t 11)), (some (10, true)), 5, []⟩, ⟨(some 13), (.bin .eql (.t 12) (.c (.i .i64 4800))), (some (10, true)), 6, []⟩, ⟨(some 14), (.pick (.t 10) (.t 13) (.c (.b false))), none, 7, []⟩, ⟨(some 15), (.mv (.t 14)), none, 8, []⟩, ⟨(some 16), (.fadd 0 (.t 2)), (some (15, true)), 9, []⟩, ⟨(some 17), (.load false 1 (.t 16)), (some (15, true)), 10, []⟩, ⟨(some 18), (.bin .eql (.t 17) (.c (.i .i64 1200))), (some (15, true)), 11, []⟩, ⟨(some 19), (.pick (.t 15) (.t 18) (.c (.b false))), none, 12, []⟩, ⟨(some 20), (.mv (.t 19)), none, 13, []⟩, ⟨(some 21), (.fadd 1 (.t 2)), (some (20, true)), 14, []⟩, ⟨(some 22), (.load false 1 (.t 21)), (some (20, true)), 15, []⟩, ⟨(some 23), (.bin .eql (.t 22) (.c (.i .i64 4800))), (some (20, true)), 16, []⟩, ⟨(some 24), (.pick (.t 20) (.t 23) (.c (.b false))), none, 17, []⟩, ⟨(some 0), (.mv (.t 24)), none, 18, []⟩])
  .ret))))
def x7 : XFun := ⟨x7b, [(.t 0)]⟩
theorem x7_ok : compF Try.prog 7 = some x7 := by kernel_rfl
/-- bollard/window.Start (10) -/
def x8b : XC := (.seq (.region [⟨(some 2), (.alloc [(.i .i64 0), (.i .i64 0), (.i .i64 0), (.i .i64 0), (.b false), (.i .u32 0)]), none, 0, []⟩])
  (.seq (.seq (.region [⟨(some 3), (.mv (.t 0)), none, 0, []⟩, ⟨(some 4), (.call (.c (.fn (.func 16) [] [])) [(.c (.i .i64 1)), (.t 3), (.c (.i .i64 65536))]), none, 1, []⟩, ⟨(some 5), (.unx .not (.t 4)), none, 2, []⟩])
  (.cond (.t 5) (.region [⟨(some 0), (.mv (.c (.i .i64 1200))), none, 0, []⟩]) .skip))
  (.seq (.region [⟨(some 6), (.mv (.t 0)), none, 0, []⟩, ⟨(some 7), (.bin .mul (.c (.i .i64 3)) (.t 6)), none, 1, []⟩, ⟨(some 8), (.mv (.t 0)), none, 2, []⟩, ⟨(some 9), (.build [(.i .i64 0), (.i .i64 0), (.i .i64 0), (.i .i64 0), (.b false), (.i .u32 0)] [(0, 1, (.t 7)), (1, 1, (.c (.i .i64 1073741824))), (3, 1, (.t 8))]), none, 3, []⟩, ⟨none, (.store 6 (.t 2) (.t 9)), none, 4, []⟩])
  .ret)))
def x8 : XFun := ⟨x8b, [(.cell 2 true 6)]⟩
theorem x8_ok : compF Try.prog 8 = some x8 := by kernel_rfl
/-- bollard/window.Acked (42) -/
def x9b : XC := (.seq (.region [⟨(some 4), (.box (.t 0)), none, 0, []⟩, ⟨(some 8), (.alloc [(.i .i64 0), (.i .i64 0), (.i .i64 0), (.i .i64 0), (.b false), (.i .u32 0)]), none, 1, []⟩])
  (.seq (.block 0 (.seq (.region [⟨(some 10), (.load true 6 (.t 4)), none, 0, []⟩, ⟨(some 11), (.call (.c (.fn (.func 17) [] [])) [(.t 10)]), none, 1, []⟩, ⟨(some 12), (.unx .not (.t 11)), none, 2, []⟩, ⟨(some 13), (.mv (.t 12)), none, 3, []⟩, ⟨(some 14), (.mv (.t 1)), (some (13, false)), 4, []⟩, ⟨(some 15), (.call (.c (.fn (.func 16) [] [])) [(.c (.i .i64 0)), (.t 14), (.c (.i .i64 1073741824))]), (some (13, false)), 5, []⟩, ⟨(some 16), (.unx .not (.t 15)), (some (13, false)), 6, []⟩, ⟨(some 17), (.pick (.t 13) (.c (.b true)) (.t 16)), none, 7, []⟩, ⟨(some 9), (.mv (.t 17)), none, 8, []⟩])
  (.cond (.t 9) .skip (.seq (.region [⟨(some 19), (.fadd 4 (.t 4)), none, 0, []⟩, ⟨(some 20), (.load false 1 (.t 19)), none, 1, []⟩, ⟨(some 18), (.mv (.t 20)), none, 2, []⟩])
  (.cond (.t 18) (.region [⟨(some 21), (.fadd 5 (.t 4)), none, 0, []⟩, ⟨(some 22), (.load false 1 (.t 21)), none, 1, []⟩, ⟨(some 23), (.mv (.t 3)), none, 2, []⟩, ⟨(some 24), (.bin .neq (.t 22) (.t 23)), none, 3, []⟩, ⟨(some 25), (.mv (.t 24)), none, 4, []⟩, ⟨(some 26), (.fadd 5 (.t 4)), (some (25, true)), 5, []⟩, ⟨(some 27), (.load false 1 (.t 26)), (some (25, true)), 6, []⟩, ⟨(some 28), (.mv (.t 3)), (some (25, true)), 7, []⟩, ⟨(some 29), (.call (.c (.fn (.func 18) [] [])) [(.t 27), (.t 28)]), (some (25, true)), 8, []⟩, ⟨(some 30), (.unx .not (.t 29)), (some (25, true)), 9, []⟩, ⟨(some 31), (.pick (.t 25) (.t 30) (.c (.b false))), none, 10, []⟩, ⟨(some 32), (.fadd 4 (.t 4)), none, 11, []⟩, ⟨none, (.store 1 (.t 32) (.t 31)), none, 12, []⟩]) (.seq (.region [⟨(some 34), (.mv (.t 1)), none, 0, []⟩, ⟨(some 35), (.bin .gtr (.t 34) (.c (.i .i64 0))), none, 1, []⟩, ⟨(some 36), (.mv (.t 35)), none, 2, []⟩, ⟨(some 37), (.mv (.t 2)), (some (36, true)), 3, []⟩, ⟨(some 38), (.pick (.t 36) (.t 37) (.c (.b false))), none, 4, []⟩, ⟨(some 33), (.mv (.t 38)), none, 5, []⟩])
  (.cond (.t 33) (.region [⟨(some 39), (.mv (.t 1)), none, 0, []⟩, ⟨(some 40), (.call (.c (.fn (.func 19) [] [])) [(.t 4), (.t 39)]), none, 1, []⟩]) .skip)))))))
  (.seq (.region [⟨(some 41), (.load true 6 (.t 4)), none, 0, []⟩, ⟨none, (.store 6 (.t 8) (.t 41)), none, 1, []⟩])
  .ret)))
def x9 : XFun := ⟨x9b, [(.cell 8 true 6)]⟩
theorem x9_ok : compF Try.prog 9 = some x9 := by kernel_rfl
/-- bollard/window.Lost (20) -/
def x10b : XC := (.seq (.region [⟨(some 2), (.box (.t 0)), none, 0, []⟩, ⟨(some 4), (.alloc [(.i .i64 0), (.i .i64 0), (.i .i64 0), (.i .i64 0), (.b false), (.i .u32 0)]), none, 1, []⟩])
  (.seq (.seq (.region [⟨(some 5), (.load true 6 (.t 2)), none, 0, []⟩, ⟨(some 6), (.call (.c (.fn (.func 17) [] [])) [(.t 5)]), none, 1, []⟩, ⟨(some 7), (.unx .not (.t 6)), none, 2, []⟩, ⟨(some 8), (.mv (.t 7)), none, 3, []⟩, ⟨(some 9), (.fadd 4 (.t 2)), (some (8, false)), 4, []⟩, ⟨(some 10), (.load false 1 (.t 9)), (some (8, false)), 5, []⟩, ⟨(some 11), (.pick (.t 8) (.c (.b true)) (.t 10)), none, 6, []⟩])
  (.cond (.t 11) (.seq (.region [⟨(some 12), (.load true 6 (.t 2)), none, 0, []⟩, ⟨none, (.store 6 (.t 4) (.t 12)), none, 1, []⟩])
  .ret) .skip))
  (.seq (.region [⟨(some 13), (.load true 6 (.t 2)), none, 0, []⟩, ⟨(some 14), (.call (.c (.fn (.func 20) [] [])) [(.t 13)]), none, 1, []⟩, ⟨(some 15), (.call (.t 14) [(.c (.fn (.func 21) [] []))]), none, 2, []⟩, ⟨none, (.store 6 (.t 2) (.t 15)), none, 3, []⟩])
  (.seq (.region [⟨(some 16), (.mv (.t 1)), none, 0, []⟩, ⟨(some 17), (.fadd 4 (.t 2)), none, 1, []⟩, ⟨none, (.store 1 (.t 17) (.c (.b true))), none, 2, []⟩, ⟨(some 18), (.fadd 5 (.t 2)), none, 3, []⟩, ⟨none, (.store 1 (.t 18) (.t 16)), none, 4, []⟩])
  (.seq (.region [⟨(some 19), (.load true 6 (.t 2)), none, 0, []⟩, ⟨none, (.store 6 (.t 4) (.t 19)), none, 1, []⟩])
  .ret)))))
def x10 : XFun := ⟨x10b, [(.cell 4 true 6)]⟩
theorem x10_ok : compF Try.prog 10 = some x10 := by kernel_rfl
/-- bollard/window.Timeout (11) -/
def x11b : XC := (.seq (.region [⟨(some 1), (.box (.t 0)), none, 0, []⟩, ⟨(some 2), (.alloc [(.i .i64 0), (.i .i64 0), (.i .i64 0), (.i .i64 0), (.b false), (.i .u32 0)]), none, 1, []⟩])
  (.seq (.seq (.region [⟨(some 3), (.load true 6 (.t 1)), none, 0, []⟩, ⟨(some 4), (.call (.c (.fn (.func 17) [] [])) [(.t 3)]), none, 1, []⟩, ⟨(some 5), (.unx .not (.t 4)), none, 2, []⟩])
  (.cond (.t 5) (.seq (.region [⟨(some 6), (.load true 6 (.t 1)), none, 0, []⟩, ⟨none, (.store 6 (.t 2) (.t 6)), none, 1, []⟩])
  .ret) .skip))
  (.seq (.region [⟨(some 7), (.load true 6 (.t 1)), none, 0, []⟩, ⟨(some 8), (.call (.c (.fn (.func 20) [] [])) [(.t 7)]), none, 1, []⟩, ⟨(some 9), (.mkf (.func 22) [] [(.t 1)]), none, 2, []⟩, ⟨(some 10), (.call (.t 8) [(.t 9)]), none, 3, []⟩, ⟨none, (.store 6 (.t 2) (.t 10)), none, 4, []⟩])
  .ret)))
def x11 : XFun := ⟨x11b, [(.cell 2 true 6)]⟩
theorem x11_ok : compF Try.prog 11 = some x11 := by kernel_rfl
/-- bollard/bollardref12.May (43) -/
def x12b : XC := (.seq (.region [⟨(some 1), (.box (.t 0)), none, 0, []⟩, ⟨(some 2), (.mv (.c (.b false))), none, 1, []⟩])
  (.seq (.region [⟨(some 3), (.fadd 3 (.t 1)), none, 0, []⟩, ⟨(some 4), (.load false 1 (.t 3)), none, 1, []⟩, ⟨(some 5), (.bin .geq (.t 4) (.c (.i .i64 1))), none, 2, []⟩, ⟨(some 6), (.mv (.t 5)), none, 3, []⟩, ⟨(some 7), (.fadd 3 (.t 1)), (some (6, true)), 4, []⟩, ⟨(some 8), (.load false 1 (.t 7)), (some (6, true)), 5, []⟩, ⟨(some 9), (.bin .leq (.t 8) (.c (.i .i64 65536))), (some (6, true)), 6, []⟩, ⟨(some 10), (.pick (.t 6) (.t 9) (.c (.b false))), none, 7, []⟩, ⟨(some 11), (.mv (.t 10)), none, 8, []⟩, ⟨(some 12), (.fadd 0 (.t 1)), (some (11, true)), 9, []⟩, ⟨(some 13), (.load false 1 (.t 12)), (some (11, true)), 10, []⟩, ⟨(some 14), (.fadd 3 (.t 1)), (some (11, true)), 11, []⟩, ⟨(some 15), (.load false 1 (.t 14)), (some (11, true)), 12, []⟩, ⟨(some 16), (.bin .geq (.t 13) (.t 15)), (some (11, true)), 13, []⟩, ⟨(some 17), (.pick (.t 11) (.t 16) (.c (.b false))), none, 14, []⟩, ⟨(some 18), (.mv (.t 17)), none, 15, []⟩, ⟨(some 19), (.fadd 0 (.t 1)), (some (18, true)), 16, []⟩, ⟨(some 20), (.load false 1 (.t 19)), (some (18, true)), 17, []⟩, ⟨(some 21), (.bin .leq (.t 20) (.c (.i .i64 1073741824))), (some (18, true)), 18, []⟩, ⟨(some 22), (.pick (.t 18) (.t 21) (.c (.b false))), none, 19, []⟩, ⟨(some 23), (.mv (.t 22)), none, 20, []⟩, ⟨(some 24), (.fadd 1 (.t 1)), (some (23, true)), 21, []⟩, ⟨(some 25), (.load false 1 (.t 24)), (some (23, true)), 22, []⟩, ⟨(some 26), (.bin .geq (.t 25) (.c (.i .i64 0))), (some (23, true)), 23, []⟩, ⟨(some 27), (.pick (.t 23) (.t 26) (.c (.b false))), none, 24, []⟩, ⟨(some 28), (.mv (.t 27)), none, 25, []⟩, ⟨(some 29), (.fadd 1 (.t 1)), (some (28, true)), 26, []⟩, ⟨(some 30), (.load false 1 (.t 29)), (some (28, true)), 27, []⟩, ⟨(some 31), (.bin .leq (.t 30) (.c (.i .i64 1073741824))), (some (28, true)), 28, []⟩, ⟨(some 32), (.pick (.t 28) (.t 31) (.c (.b false))), none, 29, []⟩, ⟨(some 33), (.mv (.t 32)), none, 30, []⟩, ⟨(some 34), (.fadd 2 (.t 1)), (some (33, true)), 31, []⟩, ⟨(some 35), (.load false 1 (.t 34)), (some (33, true)), 32, []⟩, ⟨(some 36), (.bin .geq (.t 35) (.c (.i .i64 0))), (some (33, true)), 33, []⟩, ⟨(some 37), (.pick (.t 33) (.t 36) (.c (.b false))), none, 34, []⟩, ⟨(some 38), (.mv (.t 37)), none, 35, []⟩, ⟨(some 39), (.fadd 2 (.t 1)), (some (38, true)), 36, []⟩, ⟨(some 40), (.load false 1 (.t 39)), (some (38, true)), 37, []⟩, ⟨(some 41), (.bin .leq (.t 40) (.c (.i .i64 1073741824))), (some (38, true)), 38, []⟩, ⟨(some 42), (.pick (.t 38) (.t 41) (.c (.b false))), none, 39, []⟩, ⟨(some 2), (.mv (.t 42)), none, 40, []⟩])
  .ret))
def x12 : XFun := ⟨x12b, [(.t 2)]⟩
theorem x12_ok : compF Try.prog 12 = some x12 := by kernel_rfl
/-- bollard/bollardlaw12.theirs (16) -/
def x13b : XC := (.seq (.region [⟨(some 1), (.box (.t 0)), none, 0, []⟩, ⟨(some 2), (.alloc [(.i .i64 0), (.i .i64 0), (.i .i64 0), (.i .i64 0), (.b false), (.i .u32 0)]), none, 1, []⟩])
  (.seq (.region [⟨(some 3), (.fadd 0 (.t 1)), none, 0, []⟩, ⟨(some 4), (.load false 1 (.t 3)), none, 1, []⟩, ⟨(some 5), (.fadd 1 (.t 1)), none, 2, []⟩, ⟨(some 6), (.load false 1 (.t 5)), none, 3, []⟩, ⟨(some 7), (.fadd 2 (.t 1)), none, 4, []⟩, ⟨(some 8), (.load false 1 (.t 7)), none, 5, []⟩, ⟨(some 9), (.fadd 3 (.t 1)), none, 6, []⟩, ⟨(some 10), (.load false 1 (.t 9)), none, 7, []⟩, ⟨(some 11), (.fadd 4 (.t 1)), none, 8, []⟩, ⟨(some 12), (.load false 1 (.t 11)), none, 9, []⟩, ⟨(some 13), (.fadd 5 (.t 1)), none, 10, []⟩, ⟨(some 14), (.load false 1 (.t 13)), none, 11, []⟩, ⟨(some 15), (.build [(.i .i64 0), (.i .i64 0), (.i .i64 0), (.i .i64 0), (.b false), (.i .u32 0)] [(0, 1, (.t 4)), (1, 1, (.t 6)), (2, 1, (.t 8)), (3, 1, (.t 10)), (4, 1, (.t 12)), (5, 1, (.t 14))]), none, 12, []⟩, ⟨none, (.store 6 (.t 2) (.t 15)), none, 13, []⟩])
  .ret))
def x13 : XFun := ⟨x13b, [(.cell 2 true 6)]⟩
theorem x13_ok : compF Try.prog 13 = some x13 := by kernel_rfl
/-- bollard/window.between (15) -/
def x16b : XC := (.seq (.region [⟨(some 6), (.mv (.c (.b false))), none, 0, []⟩])
  (.seq (.region [⟨(some 7), (.mv (.t 0)), none, 0, []⟩, ⟨(some 8), (.mv (.t 1)), none, 1, []⟩, ⟨(some 9), (.bin .leq (.t 7) (.t 8)), none, 2, []⟩, ⟨(some 10), (.mv (.t 9)), none, 3, []⟩, ⟨(some 11), (.mv (.t 1)), (some (10, true)), 4, []⟩, ⟨(some 12), (.mv (.t 2)), (some (10, true)), 5, []⟩, ⟨(some 13), (.bin .leq (.t 11) (.t 12)), (some (10, true)), 6, []⟩, ⟨(some 14), (.pick (.t 10) (.t 13) (.c (.b false))), none, 7, []⟩, ⟨(some 6), (.mv (.t 14)), none, 8, []⟩])
  .ret))
def x16 : XFun := ⟨x16b, [(.t 6)]⟩
theorem x16_ok : compF Try.prog 16 = some x16 := by kernel_rfl
/-- (bollard/window.State).may (23) -/
def x17b : XC := (.seq (.region [⟨(some 1), (.box (.t 0)), none, 0, []⟩, ⟨(some 2), (.mv (.c (.b false))), none, 1, []⟩])
  (.seq (.region [⟨(some 3), (.fadd 3 (.t 1)), none, 0, []⟩, ⟨(some 4), (.load false 1 (.t 3)), none, 1, []⟩, ⟨(some 5), (.call (.c (.fn (.func 16) [] [])) [(.c (.i .i64 1)), (.t 4), (.c (.i .i64 65536))]), none, 2, []⟩, ⟨(some 6), (.mv (.t 5)), none, 3, []⟩, ⟨(some 7), (.fadd 3 (.t 1)), (some (6, true)), 4, []⟩, ⟨(some 8), (.load false 1 (.t 7)), (some (6, true)), 5, []⟩, ⟨(some 9), (.fadd 0 (.t 1)), (some (6, true)), 6, []⟩, ⟨(some 10), (.load false 1 (.t 9)), (some (6, true)), 7, []⟩, ⟨(some 11), (.call (.c (.fn (.func 16) [] [])) [(.t 8), (.t 10), (.c (.i .i64 1073741824))]), (some (6, true)), 8, []⟩, ⟨(some 12), (.pick (.t 6) (.t 11) (.c (.b false))), none, 9, []⟩, ⟨(some 13), (.mv (.t 12)), none, 10, []⟩, ⟨(some 14), (.fadd 1 (.t 1)), (some (13, true)), 11, []⟩, ⟨(some 15), (.load false 1 (.t 14)), (some (13, true)), 12, []⟩, ⟨(some 16), (.call (.c (.fn (.func 16) [] [])) [(.c (.i .i64 0)), (.t 15), (.c (.i .i64 1073741824))]), (some (13, true)), 13, []⟩, ⟨(some 17), (.pick (.t 13) (.t 16) (.c (.b false))), none, 14, []⟩, ⟨(some 18), (.mv (.t 17)), none, 15, []⟩, ⟨(some 19), (.fadd 2 (.t 1)), (some (18, true)), 16, []⟩, ⟨(some 20), (.load false 1 (.t 19)), (some (18, true)), 17, []⟩, ⟨(some 21), (.call (.c (.fn (.func 16) [] [])) [(.c (.i .i64 0)), (.t 20), (.c (.i .i64 1073741824))]), (some (18, true)), 18, []⟩, ⟨(some 22), (.pick (.t 18) (.t 21) (.c (.b false))), none, 19, []⟩, ⟨(some 2), (.mv (.t 22)), none, 20, []⟩])
  .ret))
def x17 : XFun := ⟨x17b, [(.t 2)]⟩
theorem x17_ok : compF Try.prog 17 = some x17 := by kernel_rfl
/-- bollard/serial.Less (8) -/
def x18b : XC := (.seq (.region [⟨(some 4), (.mv (.c (.b false))), none, 0, []⟩])
  (.seq (.region [⟨(some 5), (.mv (.t 0)), none, 0, []⟩, ⟨(some 6), (.mv (.t 1)), none, 1, []⟩, ⟨(some 7), (.call (.c (.fn (.func 23) [] [])) [(.t 5), (.t 6)]), none, 2, []⟩, ⟨(some 4), (.mv (.t 7)), none, 3, []⟩])
  .ret))
def x18 : XFun := ⟨x18b, [(.t 4)]⟩
theorem x18_ok : compF Try.prog 18 = some x18 := by kernel_rfl
/-- (*bollard/window.State).grow (71) -/
def x19b : XC := (.seq (.seq (.draw [⟨(some 4), (.mv (.t 0)), none, 0, []⟩, ⟨(some 5), (.nilc (.t 4)), none, 1, [0]⟩, ⟨(some 6), (.fadd 0 (.t 5)), none, 2, [0, 1]⟩, ⟨(some 8), (.mv (.t 0)), none, 4, []⟩, ⟨(some 9), (.nilc (.t 8)), none, 5, [4]⟩, ⟨(some 10), (.fadd 1 (.t 9)), none, 6, [4, 5]⟩, ⟨(some 7), (.load false 1 (.t 6)), none, 3, [0, 1, 2]⟩, ⟨(some 11), (.load false 1 (.t 10)), none, 7, [4, 5, 6]⟩, ⟨(some 12), (.bin .leq (.t 7) (.t 11)), none, 8, [0, 1, 2, 3, 4, 5, 6, 7]⟩])
  (.cond (.t 12) (.seq (.draw [⟨(some 13), (.mv (.t 0)), none, 0, []⟩, ⟨(some 14), (.mv (.t 0)), none, 1, []⟩, ⟨(some 15), (.nilc (.t 14)), none, 2, [1]⟩, ⟨(some 16), (.fadd 0 (.t 15)), none, 3, [1, 2]⟩, ⟨(some 18), (.mv (.t 1)), none, 5, []⟩, ⟨(some 19), (.mv (.t 0)), none, 6, []⟩, ⟨(some 20), (.nilc (.t 19)), none, 7, [6]⟩, ⟨(some 21), (.fadd 3 (.t 20)), none, 8, [6, 7]⟩, ⟨(some 17), (.load false 1 (.t 16)), none, 4, [1, 2, 3]⟩, ⟨(some 22), (.load false 1 (.t 21)), none, 9, [6, 7, 8]⟩, ⟨(some 23), (.mnmx false [(.t 18), (.t 22)]), none, 10, [5, 6, 7, 8, 9]⟩, ⟨(some 24), (.bin .add (.t 17) (.t 23)), none, 11, [1, 2, 3, 4, 5, 6, 7, 8, 9, 10]⟩, ⟨(some 25), (.mnmx false [(.c (.i .i64 1073741824)), (.t 24)]), none, 12, [1, 2, 3, 4, 5, 6, 7, 8, 9, 10, 11]⟩, ⟨(some 26), (.nilc (.t 13)), none, 13, [0, 1, 2, 3, 4, 5, 6, 7, 8, 9, 10, 11, 12]⟩, ⟨(some 27), (.fadd 0 (.t 26)), none, 14, [0, 1, 2, 3, 4, 5, 6, 7, 8, 9, 10, 11, 12, 13]⟩, ⟨none, (.store 1 (.t 27) (.t 25)), none, 15, [0, 1, 2, 3, 4, 5, 6, 7, 8, 9, 10, 11, 12, 13, 14]⟩])
  .ret) .skip))
  (.seq (.region [⟨(some 28), (.mv (.t 0)), none, 0, []⟩, ⟨(some 29), (.mv (.t 0)), none, 1, []⟩, ⟨(some 30), (.nilc (.t 29)), none, 2, []⟩, ⟨(some 31), (.fadd 2 (.t 30)), none, 3, []⟩, ⟨(some 32), (.load false 1 (.t 31)), none, 4, []⟩, ⟨(some 33), (.mv (.t 1)), none, 5, []⟩, ⟨(some 34), (.bin .add (.t 32) (.t 33)), none, 6, []⟩, ⟨(some 35), (.mnmx false [(.c (.i .i64 1073741824)), (.t 34)]), none, 7, []⟩, ⟨(some 36), (.nilc (.t 28)), none, 8, []⟩, ⟨(some 37), (.fadd 2 (.t 36)), none, 9, []⟩, ⟨none, (.store 1 (.t 37) (.t 35)), none, 10, []⟩])
  (.seq (.draw [⟨(some 38), (.mv (.t 0)), none, 0, []⟩, ⟨(some 39), (.nilc (.t 38)), none, 1, [0]⟩, ⟨(some 40), (.fadd 2 (.t 39)), none, 2, [0, 1]⟩, ⟨(some 42), (.mv (.t 0)), none, 4, []⟩, ⟨(some 43), (.nilc (.t 42)), none, 5, [4]⟩, ⟨(some 44), (.fadd 0 (.t 43)), none, 6, [4, 5]⟩, ⟨(some 41), (.load false 1 (.t 40)), none, 3, [0, 1, 2]⟩, ⟨(some 45), (.load false 1 (.t 44)), none, 7, [4, 5, 6]⟩, ⟨(some 46), (.bin .geq (.t 41) (.t 45)), none, 8, [0, 1, 2, 3, 4, 5, 6, 7]⟩])
  (.cond (.t 46) (.seq (.draw [⟨(some 47), (.mv (.t 0)), none, 0, []⟩, ⟨(some 48), (.nilc (.t 47)), none, 1, [0]⟩, ⟨(some 49), (.fadd 2 (.t 48)), none, 2, [0, 1]⟩, ⟨(some 51), (.mv (.t 0)), none, 4, []⟩, ⟨(some 52), (.nilc (.t 51)), none, 5, [4]⟩, ⟨(some 53), (.fadd 0 (.t 52)), none, 6, [4, 5]⟩, ⟨(some 50), (.load false 1 (.t 49)), none, 3, [0, 1, 2]⟩, ⟨(some 54), (.load false 1 (.t 53)), none, 7, [4, 5, 6]⟩, ⟨(some 55), (.bin .sub (.t 50) (.t 54)), none, 8, [0, 1, 2, 3, 4, 5, 6, 7]⟩, ⟨(some 56), (.nilc (.t 47)), none, 9, [0, 1, 2, 3, 4, 5, 6, 7, 8]⟩, ⟨(some 57), (.fadd 2 (.t 56)), none, 10, [0, 1, 2, 3, 4, 5, 6, 7, 8, 9]⟩, ⟨none, (.store 1 (.t 57) (.t 55)), none, 11, [0, 1, 2, 3, 4, 5, 6, 7, 8, 9, 10]⟩])
  (.draw [⟨(some 58), (.mv (.t 0)), none, 0, []⟩, ⟨(some 59), (.mv (.t 0)), none, 1, []⟩, ⟨(some 60), (.nilc (.t 59)), none, 2, [1]⟩, ⟨(some 61), (.fadd 0 (.t 60)), none, 3, [1, 2]⟩, ⟨(some 63), (.mv (.t 0)), none, 5, []⟩, ⟨(some 64), (.nilc (.t 63)), none, 6, [5]⟩, ⟨(some 65), (.fadd 3 (.t 64)), none, 7, [5, 6]⟩, ⟨(some 62), (.load false 1 (.t 61)), none, 4, [1, 2, 3]⟩, ⟨(some 66), (.load false 1 (.t 65)), none, 8, [5, 6, 7]⟩, ⟨(some 67), (.bin .add (.t 62) (.t 66)), none, 9, [1, 2, 3, 4, 5, 6, 7, 8]⟩, ⟨(some 68), (.mnmx false [(.c (.i .i64 1073741824)), (.t 67)]), none, 10, [1, 2, 3, 4, 5, 6, 7, 8, 9]⟩, ⟨(some 69), (.nilc (.t 58)), none, 11, [0, 1, 2, 3, 4, 5, 6, 7, 8, 9, 10]⟩, ⟨(some 70), (.fadd 0 (.t 69)), none, 12, [0, 1, 2, 3, 4, 5, 6, 7, 8, 9, 10, 11]⟩, ⟨none, (.store 1 (.t 70) (.t 68)), none, 13, [0, 1, 2, 3, 4, 5, 6, 7, 8, 9, 10, 11, 12]⟩])) .skip))))
def x19 : XFun := ⟨x19b, []⟩
theorem x19_ok : compF Try.prog 19 = some x19 := by kernel_rfl
/-- bollard/window.halved (13) -/
def x20b : XC := (.seq (.region [⟨(some 1), (.box (.t 0)), none, 0, []⟩, ⟨(some 2), (.mv (.c .nf)), none, 1, []⟩])
  (.seq (.region [⟨(some 4), (.fadd 0 (.t 1)), none, 0, []⟩, ⟨(some 5), (.load false 1 (.t 4)), none, 1, []⟩, ⟨(some 6), (.bin .quo (.t 5) (.c (.i .i64 2))), none, 2, []⟩, ⟨(some 7), (.fadd 3 (.t 1)), none, 3, []⟩, ⟨(some 8), (.load false 1 (.t 7)), none, 4, []⟩, ⟨(some 9), (.bin .mul (.c (.i .i64 4)) (.t 8)), none, 5, []⟩, ⟨(some 10), (.mnmx true [(.t 6), (.t 9)]), none, 6, []⟩, ⟨(some 11), (.mnmx false [(.c (.i .i64 1073741824)), (.t 10)]), none, 7, []⟩, ⟨(some 3), (.alloc [(.i .i64 0)]), none, 8, []⟩, ⟨none, (.store 1 (.t 3) (.t 11)), none, 9, []⟩])
  (.seq (.region [⟨(some 12), (.mkf (.func 24) [] [(.t 3), (.t 1)]), none, 0, []⟩, ⟨(some 2), (.mv (.t 12)), none, 1, []⟩])
  .ret)))
def x20 : XFun := ⟨x20b, [(.t 2)]⟩
theorem x20_ok : compF Try.prog 20 = some x20 := by kernel_rfl
/-- bollard/window.Lost$1 (4) -/
def x21b : XC := (.seq (.region [⟨(some 2), (.mv (.c (.i .i64 0))), none, 0, []⟩])
  (.seq (.region [⟨(some 3), (.mv (.t 0)), none, 0, []⟩, ⟨(some 2), (.mv (.t 3)), none, 1, []⟩])
  .ret))
def x21 : XFun := ⟨x21b, [(.t 2)]⟩
theorem x21_ok : compF Try.prog 21 = some x21 := by kernel_rfl
/-- bollard/window.Timeout$1 (6) -/
def x22b : XC := (.seq (.region [⟨(some 3), (.mv (.c (.i .i64 0))), none, 0, []⟩])
  (.seq (.region [⟨(some 4), (.fadd 3 (.t 1)), none, 0, []⟩, ⟨(some 5), (.load false 1 (.t 4)), none, 1, []⟩, ⟨(some 3), (.mv (.t 5)), none, 2, []⟩])
  .ret))
def x22 : XFun := ⟨x22b, [(.t 3)]⟩
theorem x22_ok : compF Try.prog 22 = some x22 := by kernel_rfl
/-- bollard/serial.less[uint32] (18) -/
def x23b : XC := (.seq (.region [⟨(some 4), (.mv (.c (.b false))), none, 0, []⟩])
  (.seq (.region [⟨(some 6), (.mv (.t 1)), none, 0, []⟩, ⟨(some 7), (.mv (.t 0)), none, 1, []⟩, ⟨(some 8), (.bin .sub (.t 6) (.t 7)), none, 2, []⟩, ⟨(some 5), (.mv (.t 8)), none, 3, []⟩])
  (.seq (.region [⟨(some 9), (.mv (.t 5)), none, 0, []⟩, ⟨(some 10), (.bin .neq (.t 9) (.c (.i .u32 0))), none, 1, []⟩, ⟨(some 11), (.mv (.t 10)), none, 2, []⟩, ⟨(some 12), (.mv (.t 5)), (some (11, true)), 3, []⟩, ⟨(some 13), (.cint .u32 (.c (.i .i64 0))), (some (11, true)), 4, []⟩, ⟨(some 14), (.unx .xor (.t 13)), (some (11, true)), 5, []⟩, ⟨(some 15), (.bin .shr (.t 14) (.c (.i .u64 1))), (some (11, true)), 6, []⟩, ⟨(some 16), (.bin .leq (.t 12) (.t 15)), (some (11, true)), 7, []⟩, ⟨(some 17), (.pick (.t 11) (.t 16) (.c (.b false))), none, 8, []⟩, ⟨(some 4), (.mv (.t 17)), none, 9, []⟩])
  .ret)))
def x23 : XFun := ⟨x23b, [(.t 4)]⟩
theorem x23_ok : compF Try.prog 23 = some x23 := by kernel_rfl
/-- bollard/window.halved$1 (12) -/
def x24b : XC := (.seq (.region [⟨(some 4), (.alloc [(.i .i64 0), (.i .i64 0), (.i .i64 0), (.i .i64 0), (.b false), (.i .u32 0)]), none, 0, []⟩])
  (.seq (.draw [⟨(some 5), (.mv (.t 0)), none, 0, []⟩, ⟨(some 9), (.fadd 3 (.t 2)), none, 4, []⟩, ⟨(some 6), (.load false 1 (.t 1)), none, 1, []⟩, ⟨(some 8), (.load false 1 (.t 1)), none, 3, []⟩, ⟨(some 10), (.load false 1 (.t 9)), none, 5, [4]⟩, ⟨(some 7), (.call (.t 5) [(.t 6)]), none, 2, [0, 1]⟩, ⟨(some 11), (.build [(.i .i64 0), (.i .i64 0), (.i .i64 0), (.i .i64 0), (.b false), (.i .u32 0)] [(0, 1, (.t 7)), (1, 1, (.t 8)), (3, 1, (.t 10))]), none, 6, [0, 1, 2, 3, 4, 5]⟩, ⟨none, (.store 6 (.t 4) (.t 11)), none, 7, [0, 1, 2, 3, 4, 5, 6]⟩])
  .ret))
def x24 : XFun := ⟨x24b, [(.cell 4 true 6)]⟩
theorem x24_ok : compF Try.prog 24 = some x24 := by kernel_rfl
def tab : Nat → Option XFun := fun g => match g with
  | 3 => some x3
  | 7 => some x7
  | 8 => some x8
  | 9 => some x9
  | 10 => some x10
  | 11 => some x11
  | 12 => some x12
  | 13 => some x13
  | 16 => some x16
  | 17 => some x17
  | 18 => some x18
  | 19 => some x19
  | 20 => some x20
  | 21 => some x21
  | 22 => some x22
  | 23 => some x23
  | 24 => some x24
  | _ => none
theorem tab_ok : TabOK Try.prog tab := by
  intro g F h
  unfold tab at h
  split at h
  · cases h; exact x3_ok
  · cases h; exact x7_ok
  · cases h; exact x8_ok
  · cases h; exact x9_ok
  · cases h; exact x10_ok
  · cases h; exact x11_ok
  · cases h; exact x12_ok
  · cases h; exact x13_ok
  · cases h; exact x16_ok
  · cases h; exact x17_ok
  · cases h; exact x18_ok
  · cases h; exact x19_ok
  · cases h; exact x20_ok
  · cases h; exact x21_ok
  · cases h; exact x22_ok
  · cases h; exact x23_ok
  · cases h; exact x24_ok
  · cases h
end Go.Proofs.Ytjnceigeejdleaa.E
