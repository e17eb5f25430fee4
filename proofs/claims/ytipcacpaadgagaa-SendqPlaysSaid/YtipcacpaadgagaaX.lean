/- The compiled functions of the seat, as told by the evaluator's compiler; written by a program of this session, wip/eng/px.lean. It bears no condition. -/
import Derived.Test.YtipcacpaadgagaaE19
import Derived.Test.YtipcacpaadgagaaE0
import Derived.Test.YtipcacpaadgagaaChecked
namespace Go.Proofs.Ytipcacpaadgagaa.E
abbrev zAA : List AV := [(.i .u8 0), (.i .u8 0), (.i .u32 0), (.i .u32 0), (.i .u16 0), (.i .u16 0), (.i .u32 0), (.sl none 0 0 0), (.sl none 0 0 0), (.sl none 0 0 0), (.sl none 0 0 0), (.sl none 0 0 0)]
abbrev zAB : List AV := [(.i .u8 0), (.i .u8 0), (.i .u32 0), (.i .u32 0), (.i .u16 0), (.i .u16 0), (.i .u32 0), (.sl none 0 0 0), (.sl none 0 0 0), (.sl none 0 0 0), (.sl none 0 0 0), (.sl none 0 0 0), (.i .i64 0), (.i .i64 0), (.i .i64 0), (.i .i64 0), (.i .i64 0), (.i .i64 0), (.i .i64 0)]
abbrev zAC : AV := (.sl none 0 0 0)
abbrev zAD : List AV := [(.i .i64 0), (.i .i64 0), (.b false), (.b false)]

set_option linter.unusedVariables false
/-- bollard/bollardlaw15.SendqPlays (47) -/
def x8b : XC := (.seq (.region [po 4 (.mv (.c (.b false))) 0])
  (.seq (.region [po 9 (.call (.c (.fn (.func 10) [] [])) []) 0, pm 5 9 1])
  (.seq (.seq (.region [pm 10 1 0, po 11 (.call (.c (.fn (.func 23) [] [])) [(.t 10)]) 1, po 12 (.unx .not (.t 11)) 2])
  (.cond (.t 12) (.seq (.region [pm 13 5 0, pm 4 13 1])
  .ret) .skip))
  (.seq (.region [pm 14 0 0, po 15 (.call (.c (.fn (.func 11) [] [])) [(.t 14)]) 1, pm 6 15 2])
  (.seq (.region [pm 16 0 0, po 17 (.call (.c (.fn (.func 28) [] [])) [(.t 16)]) 1, pm 7 17 2])
  (.seq (.seq (.region [po 8 (.mv (.c (.i .i64 0))) 0])
  (.block 0 (.loop (.seq (.seq (.region [pm 18 8 0, pm 19 1 1, po 20 (.lenx (.t 19)) 2, po 21 (.bin .lss (.t 18) (.t 20)) 3])
  (.cond (.t 21) .skip (.exit 0)))
  (.seq (.block 1 (.seq (.region [pm 24 6 0, pm 25 7 1, pm 26 1 2, pm 27 8 3, po 28 (.isl 6 (.t 26) (.t 27)) 4, po 29 (.load true 6 (.t 28)) 5, pm 30 0 6, po 31 (.call (.c (.fn (.func 29) [] [])) [(.t 24), (.t 25), (.t 29), (.t 30)]) 7, po 32 (.unx .not (.t 31)) 8, pm 33 32 9, pg 34 (.mv (.t 6)) 33 false 10, pg 35 (.mv (.t 7)) 33 false 11, pg 36 (.mv (.t 0)) 33 false 12, pg 37 (.mv (.t 1)) 33 false 13, pg 38 (.mv (.t 8)) 33 false 14, pg 39 (.isl 6 (.t 37) (.t 38)) 33 false 15, pg 40 (.fadd 4 (.t 39)) 33 false 16, pg 41 (.load false 1 (.t 40)) 33 false 17, pg 42 (.bin .add (.t 36) (.t 41)) 33 false 18, pg 43 (.call (.c (.fn (.func 30) [] [])) [(.t 34), (.t 35), (.t 42)]) 33 false 19, pg 44 (.unx .not (.t 43)) 33 false 20, po 45 (.pick (.t 33) (.c (.b true)) (.t 44)) 21])
  (.cond (.t 45) (.seq (.region [po 4 (.mv (.c (.b false))) 0])
  .ret) .skip)))
  (.region [pm 22 8 0, po 23 (.bin .add (.t 22) (.c (.i .i64 1))) 1, pm 8 23 2]))))))
  (.seq (.region [pm 46 5 0, pm 4 46 1])
  .ret)))))))
def x8 : XFun := ⟨x8b, [(.t 4)]⟩
theorem x8_ok : compF Try.prog 8 = some x8 := by kernel_rfl
/-- bollard/bollardlaw15.awake (73) -/
def x10b : XC := (.seq (.region [po 0 (.mv (.c (.b false))) 0])
  (.seq (.region [po 6 (.call (.c (.fn (.func 11) [] [])) [(.c (.i .u32 5))]) 0, pm 1 6 1])
  (.seq (.region [pm 7 1 0, po 8 (.call (.c (.fn (.func 13) [] [])) [(.c (.i .i64 10))]) 1, po 9 (.call (.c (.fn (.func 13) [] [])) [(.c (.i .i64 10))]) 2, po 10 (.call (.c (.fn (.func 13) [] [])) [(.c (.i .i64 10))]) 3, po 11 (.bslice [(.i .u8 0), (.i .u8 0), (.i .u32 0), (.i .u32 0), (.i .u16 0), (.i .u16 0), (.i .u32 0), zAC , zAC , zAC , zAC , zAC , (.i .u8 0), (.i .u8 0), (.i .u32 0), (.i .u32 0), (.i .u16 0), (.i .u16 0), (.i .u32 0), zAC , zAC , zAC , zAC , zAC , (.i .u8 0), (.i .u8 0), (.i .u32 0), (.i .u32 0), (.i .u16 0), (.i .u16 0), (.i .u32 0), zAC , zAC , zAC , zAC , zAC ] [(0, 12, (.t 8)), (12, 12, (.t 9)), (24, 12, (.t 10))] 3) 4, po 12 (.call (.c (.fn (.func 12) [] [])) [(.t 7), (.t 11), (.c (.i .i64 (-1))), (.c (.i .i64 (-1)))]) 5, pm 2 12 6])
  (.seq (.region [pm 13 1 0, po 14 (.call (.c (.fn (.func 14) [] [])) [(.t 13), (.c (.i .i64 0)), (.c (.i .i64 25))]) 1, pm 3 14 2])
  (.seq (.region [pm 16 1 0, po 17 (.call (.c (.fn (.func 15) [] [])) [(.t 16), (.c (.i .u32 5)), (.c zAC ), (.c (.i .i64 40))]) 1, pm 15 17 2, po 18 (.ext (.t 15) 0) 3, po 19 (.ext (.t 15) 1) 4, po 4 (.alloc zAD ) 5, ⟨none, (.store 4 (.t 4) (.t 18)), none, 6, []⟩, pm 5 19 7])
  (.seq (.region [pm 20 2 0, po 21 (.bin .eql (.t 20) (.c (.i .i64 0))) 1, pm 22 21 2, pg 23 (.mv (.t 3)) 22 true 3, pg 24 (.lenx (.t 23)) 22 true 4, pg 25 (.bin .eql (.t 24) (.c (.i .i64 2))) 22 true 5, po 26 (.pick (.t 22) (.t 25) (.c (.b false))) 6, pm 27 26 7, pg 28 (.mv (.t 3)) 27 true 8, pg 29 (.isl 12 (.t 28) (.c (.i .i64 0))) 27 true 9, pg 30 (.fadd 2 (.t 29)) 27 true 10, pg 31 (.load false 1 (.t 30)) 27 true 11, pg 32 (.bin .eql (.t 31) (.c (.i .u32 5))) 27 true 12, po 33 (.pick (.t 27) (.t 32) (.c (.b false))) 13, pm 34 33 14, pg 35 (.mv (.t 3)) 34 true 15, pg 36 (.isl 12 (.t 35) (.c (.i .i64 1))) 34 true 16, pg 37 (.fadd 2 (.t 36)) 34 true 17, pg 38 (.load false 1 (.t 37)) 34 true 18, pg 39 (.bin .eql (.t 38) (.c (.i .u32 6))) 34 true 19, po 40 (.pick (.t 34) (.t 39) (.c (.b false))) 20, pm 41 40 21, pg 42 (.mv (.t 5)) 41 true 22, po 43 (.pick (.t 41) (.t 42) (.c (.b false))) 23, pm 44 43 24, pg 45 (.fadd 0 (.t 4)) 44 true 25, pg 46 (.load false 1 (.t 45)) 44 true 26, pg 47 (.bin .eql (.t 46) (.c (.i .i64 10))) 44 true 27, po 48 (.pick (.t 44) (.t 47) (.c (.b false))) 28, pm 49 48 29, pg 50 (.fadd 1 (.t 4)) 49 true 30, pg 51 (.load false 1 (.t 50)) 49 true 31, pg 52 (.bin .eql (.t 51) (.c (.i .i64 40))) 49 true 32, po 53 (.pick (.t 49) (.t 52) (.c (.b false))) 33, pm 54 53 34, pg 55 (.fadd 3 (.t 4)) 54 true 35, pg 56 (.load false 1 (.t 55)) 54 true 36, po 57 (.pick (.t 54) (.t 56) (.c (.b false))) 37, pm 58 57 38, pg 59 (.fadd 2 (.t 4)) 58 true 39, pg 60 (.load false 1 (.t 59)) 58 true 40, pg 61 (.unx .not (.t 60)) 58 true 41, po 62 (.pick (.t 58) (.t 61) (.c (.b false))) 42, pm 63 62 43, pg 64 (.mv (.t 1)) 63 true 44, pg 65 (.call (.c (.fn (.func 17) [] [])) [(.t 64)]) 63 true 45, pg 66 (.bin .eql (.t 65) (.c (.i .u32 5))) 63 true 46, po 67 (.pick (.t 63) (.t 66) (.c (.b false))) 47, pm 68 67 48, pg 69 (.mv (.t 1)) 68 true 49, pg 70 (.call (.c (.fn (.func 18) [] [])) [(.t 69)]) 68 true 50, pg 71 (.bin .eql (.t 70) (.c (.i .i64 2))) 68 true 51, po 72 (.pick (.t 68) (.t 71) (.c (.b false))) 52, pm 0 72 53])
  .ret))))))
def x10 : XFun := ⟨x10b, [(.t 0)]⟩
theorem x10_ok : compF Try.prog 10 = some x10 := by kernel_rfl
/-- bollard/sendq.New (6) -/
def x11b : XC := (.seq (.region [po 2 (.mv (.c (.p none))) 0])
  (.seq (.region [pm 3 0 0, po 4 (.build [zAC , (.i .u32 0)] [(1, 1, (.t 3))]) 1, po 5 (.box (.t 4)) 2, pm 2 5 3])
  .ret))
def x11 : XFun := ⟨x11b, [(.t 2)]⟩
theorem x11_ok : compF Try.prog 11 = some x11 := by kernel_rfl
/-- (*bollard/sendq.Queue).Push (74) -/
def x12b : XC := (.seq (.region [po 8 (.mv (.c (.i .i64 0))) 0])
  (.seq (.block 0 (.seq (.region [pm 13 0 0, po 14 (.nilq 0 false (.t 13)) 1, pm 15 14 2, pg 16 (.mv (.t 1)) 15 false 3, pg 17 (.lenx (.t 16)) 15 false 4, pg 18 (.bin .eql (.t 17) (.c (.i .i64 0))) 15 false 5, po 19 (.pick (.t 15) (.c (.b true)) (.t 18)) 6, pm 20 19 7, pg 21 (.mv (.t 1)) 20 false 8, pg 22 (.call (.c (.fn (.func 32) [] [])) [(.t 21), (.c (.fn (.func 33) [] []))]) 20 false 9, po 23 (.pick (.t 20) (.c (.b true)) (.t 22)) 10, pm 12 23 11])
  (.cond (.t 12) (.seq (.region [po 8 (.mv (.c (.i .i64 1))) 0])
  .ret) (.seq (.region [pm 25 0 0, po 26 (.nilc (.t 25)) 1, po 27 (.fadd 0 (.t 26)) 2, po 28 (.load false 1 (.t 27)) 3, po 29 (.lenx (.t 28)) 4, pm 30 1 5, po 31 (.lenx (.t 30)) 6, po 32 (.bin .add (.t 29) (.t 31)) 7, po 33 (.bin .gtr (.t 32) (.c (.i .i64 1024))) 8, pm 24 33 9])
  (.cond (.t 24) (.seq (.region [po 8 (.mv (.c (.i .i64 9))) 0])
  .ret) .skip)))))
  (.seq (.region [pm 34 2 0, pm 35 3 1, po 36 (.build [(.i .i64 0), (.i .i64 0), (.b false)] [(0, 1, (.t 34)), (1, 1, (.t 35))]) 2, po 37 (.box (.t 36)) 3, pm 9 37 4])
  (.seq (.seq (.region [pm 38 1 0, po 39 (.lenx (.t 38)) 1, po 40 (.mv (.c (.i .i64 0))) 2])
  (.block 1 (.loop (.seq (.region [po 41 (.bin .lss (.t 40) (.t 39)) 0])
  (.seq (.cond (.t 41) .skip (.exit 1))
  (.seq (.block 2 (.seq (.region [po 42 (.isl 12 (.t 38) (.t 40)) 0, po 43 (.load true 12 (.t 42)) 1, po 11 (.alloc zAA ) 2, ⟨none, (.store 12 (.t 11) (.t 43)), none, 3, []⟩])
  (.seq (.draw [pm 44 0 0, ⟨(some 45), (.nilc (.t 44)), none, 1, [0]⟩, ⟨(some 46), (.fadd 1 (.t 45)), none, 2, [0, 1]⟩, po 48 (.fadd 11 (.t 11)) 4, ⟨(some 47), (.load false 1 (.t 46)), none, 3, [0, 1, 2]⟩, ⟨(some 49), (.load false 1 (.t 48)), none, 5, [4]⟩, ⟨(some 51), (.fadd 2 (.t 11)), none, 7, [0, 1, 2, 3, 4, 5]⟩, ⟨(some 50), (.call (.c (.fn (.func 34) [] [])) [(.t 49)]), none, 6, [4, 5]⟩, ⟨none, (.store 1 (.t 51) (.t 47)), none, 8, [0, 1, 2, 3, 4, 5, 6, 7]⟩, ⟨(some 52), (.fadd 11 (.t 11)), none, 9, [0, 1, 2, 3, 4, 5, 6, 7, 8]⟩, ⟨none, (.store 1 (.t 52) (.t 50)), none, 10, [0, 1, 2, 3, 4, 5, 6, 7, 8, 9]⟩])
  (.seq (.region [pm 53 0 0, po 54 (.nilc (.t 53)) 1, po 55 (.fadd 1 (.t 54)) 2, po 56 (.load false 1 (.t 55)) 3, po 57 (.bin .add (.t 56) (.c (.i .u32 1))) 4, po 58 (.nilc (.t 53)) 5, po 59 (.fadd 1 (.t 58)) 6, ⟨none, (.store 1 (.t 59) (.t 57)), none, 7, []⟩])
  (.draw [pm 60 0 0, pm 61 0 1, ⟨(some 62), (.nilc (.t 61)), none, 2, [1]⟩, ⟨(some 63), (.fadd 0 (.t 62)), none, 3, [1, 2]⟩, pm 66 9 6, ⟨(some 64), (.load false 1 (.t 63)), none, 4, [1, 2, 3]⟩, po 65 (.load true 12 (.t 11)) 5, ⟨(some 67), (.build [(.i .u8 0), (.i .u8 0), (.i .u32 0), (.i .u32 0), (.i .u16 0), (.i .u16 0), (.i .u32 0), zAC , zAC , zAC , zAC , zAC , (.p none), (.i .i64 0), (.i .i64 0), (.i .i64 0), (.i .i64 0)] [(0, 12, (.t 65)), (12, 1, (.t 66))]), none, 7, [5, 6]⟩, ⟨(some 68), (.box (.t 67)), none, 8, [5, 6, 7]⟩, ⟨(some 69), (.bslice [(.p none)] [(0, 1, (.t 68))] 1), none, 9, [5, 6, 7, 8]⟩, ⟨(some 70), (.append 1 8 (.t 64) (.t 69)), none, 10, [1, 2, 3, 4, 5, 6, 7, 8, 9]⟩, ⟨(some 71), (.nilc (.t 60)), none, 11, [0, 1, 2, 3, 4, 5, 6, 7, 8, 9, 10]⟩, ⟨(some 72), (.fadd 0 (.t 71)), none, 12, [0, 1, 2, 3, 4, 5, 6, 7, 8, 9, 10, 11]⟩, ⟨none, (.store 1 (.t 72) (.t 70)), none, 13, [0, 1, 2, 3, 4, 5, 6, 7, 8, 9, 10, 11, 12]⟩])))))
  (.region [po 73 (.bin .add (.t 40) (.c (.i .i64 1))) 0, pm 40 73 1])))))))
  (.seq (.region [po 8 (.mv (.c (.i .i64 0))) 0])
  .ret)))))
def x12 : XFun := ⟨x12b, [(.t 8)]⟩
theorem x12_ok : compF Try.prog 12 = some x12 := by kernel_rfl
/-- bollard/bollardlaw15.piece (6) -/
def x13b : XC := (.seq (.region [po 2 (.alloc zAA ) 0])
  (.seq (.region [pm 3 0 0, po 4 (.mkslice [(.i .u8 0)] 1 (.t 3) (.t 3)) 1, po 5 (.build zAA  [(0, 1, (.c (.i .u8 0))), (1, 1, (.c (.i .u8 3))), (11, 1, (.t 4))]) 2, ⟨none, (.store 12 (.t 2) (.t 5)), none, 3, []⟩])
  .ret))
def x13 : XFun := ⟨x13b, [(.cell 2 true 12)]⟩
theorem x13_ok : compF Try.prog 13 = some x13 := by kernel_rfl
/-- (*bollard/sendq.Queue).Take (63) -/
def x14b : XC := (.seq (.region [po 4 (.box (.t 1)) 0, po 5 (.box (.t 2)) 1, po 6 (.alloc [zAC ]) 2])
  (.seq (.region [po 7 (.alloc [zAC ]) 0])
  (.seq (.seq (.region [po 12 (.bslice [(.i .i64 0), (.i .i64 0)] [(0, 1, (.c (.i .i64 2))), (1, 1, (.c (.i .i64 0)))] 2) 0, po 13 (.lenx (.t 12)) 1, po 14 (.mv (.c (.i .i64 0))) 2])
  (.block 0 (.loop (.seq (.region [po 15 (.bin .lss (.t 14) (.t 13)) 0])
  (.seq (.cond (.t 15) .skip (.exit 0))
  (.seq (.block 1 (.seq (.region [po 16 (.isl 1 (.t 12) (.t 14)) 0, po 17 (.load false 1 (.t 16)) 1, pm 9 17 2])
  (.seq (.region [pm 18 0 0, pm 19 9 1, po 20 (.bslice [(.i .i64 0)] [(0, 1, (.t 19))] 1) 2, po 21 (.call (.c (.fn (.func 35) [] [])) [(.t 18), (.t 20)]) 3])
  (.block 2 (.rangeFn (.t 21) [22] (.region [pm 10 22 0]) (.block 3 (.seq (.seq (.draw [pm 23 10 0, po 25 (.load false 1 (.t 5)) 2, ⟨(some 24), (.call (.c (.fn (.func 36) [] [])) [(.t 23)]), none, 1, [0]⟩, ⟨(some 26), (.bin .gtr (.t 24) (.t 25)), none, 3, [0, 1, 2]⟩])
  (.cond (.t 26) (.seq (.region [po 27 (.load false 1 (.t 7)) 0, ⟨none, (.store 1 (.t 6) (.t 27)), none, 1, []⟩])
  .ret) .skip))
  (.seq (.draw [pm 29 10 1, po 28 (.load false 1 (.t 5)) 0, ⟨(some 30), (.call (.c (.fn (.func 36) [] [])) [(.t 29)]), none, 2, [1]⟩, ⟨(some 31), (.bin .sub (.t 28) (.t 30)), none, 3, [0, 1, 2]⟩, ⟨none, (.store 1 (.t 5) (.t 31)), none, 4, [0, 1, 2, 3]⟩])
  (.seq (.draw [pm 32 10 0, pm 33 10 1, pm 34 10 2, ⟨(some 36), (.nilc (.t 32)), none, 4, [0]⟩, ⟨(some 37), (.fadd 13 (.t 36)), none, 5, [0, 4]⟩, po 35 (.load false 1 (.t 4)) 3, ⟨none, (.store 1 (.t 37) (.c (.i .i64 1))), none, 6, [0, 4, 5]⟩, ⟨(some 38), (.nilc (.t 33)), none, 7, [0, 1, 3, 4, 5, 6]⟩, ⟨(some 39), (.fadd 15 (.t 38)), none, 8, [0, 1, 3, 4, 5, 6, 7]⟩, ⟨none, (.store 1 (.t 39) (.t 35)), none, 9, [0, 1, 3, 4, 5, 6, 7, 8]⟩, ⟨(some 40), (.nilc (.t 34)), none, 10, [0, 1, 2, 3, 4, 5, 6, 7, 8, 9]⟩, ⟨(some 41), (.fadd 16 (.t 40)), none, 11, [0, 1, 2, 3, 4, 5, 6, 7, 8, 9, 10]⟩, ⟨none, (.store 1 (.t 41) (.c (.i .i64 0))), none, 12, [0, 1, 2, 3, 4, 5, 6, 7, 8, 9, 10, 11]⟩])
  (.seq (.region [pm 42 10 0, po 43 (.nilc (.t 42)) 1, po 44 (.fadd 14 (.t 43)) 2, po 45 (.load false 1 (.t 44)) 3, po 46 (.bin .add (.t 45) (.c (.i .i64 1))) 4, po 47 (.nilc (.t 42)) 5, po 48 (.fadd 14 (.t 47)) 6, ⟨none, (.store 1 (.t 48) (.t 46)), none, 7, []⟩])
  (.seq (.region [pm 49 10 0, po 50 (.nilc (.t 49)) 1, po 51 (.fadd 0 (.t 50)) 2, po 52 (.load true 12 (.t 51)) 3, po 11 (.alloc zAA ) 4, ⟨none, (.store 12 (.t 11) (.t 52)), none, 5, []⟩])
  (.seq (.region [po 53 (.fadd 11 (.t 11)) 0, po 54 (.load false 1 (.t 53)) 1, po 55 (.call (.c (.fn (.func 34) [] [])) [(.t 54)]) 2, po 56 (.fadd 11 (.t 11)) 3, ⟨none, (.store 1 (.t 56) (.t 55)), none, 4, []⟩])
  (.region [po 57 (.load false 1 (.t 7)) 0, po 58 (.load true 12 (.t 11)) 1, po 59 (.bslice zAA  [(0, 12, (.t 58))] 1) 2, po 60 (.append 12 144 (.t 57) (.t 59)) 3, ⟨none, (.store 1 (.t 7) (.t 60)), none, 4, []⟩])))))))))))))
  (.region [po 61 (.bin .add (.t 14) (.c (.i .i64 1))) 0, pm 14 61 1])))))))
  (.seq (.region [po 62 (.load false 1 (.t 7)) 0, ⟨none, (.store 1 (.t 6) (.t 62)), none, 1, []⟩])
  .ret))))
def x14 : XFun := ⟨x14b, [(.cell 6 false 1)]⟩
theorem x14_ok : compF Try.prog 14 = some x14 := by kernel_rfl
/-- (*bollard/sendq.Queue).Ack (48) -/
def x15b : XC := (.seq (.region [po 8 (.alloc zAD ) 0, po 9 (.mv (.c (.b false))) 1])
  (.seq (.region [pm 16 0 0, pm 17 1 1, po 18 (.call (.c (.fn (.func 37) [] [])) [(.t 16), (.t 17)]) 2, pm 15 18 3, po 19 (.ext (.t 15) 0) 4, po 20 (.ext (.t 15) 1) 5, pm 10 19 6, pm 11 20 7])
  (.seq (.seq (.region [pm 21 11 0, po 22 (.unx .not (.t 21)) 1])
  (.cond (.t 22) (.seq (.region [po 23 (.build zAD  []) 0, ⟨none, (.store 4 (.t 8) (.t 23)), none, 1, []⟩, po 9 (.mv (.c (.b false))) 2])
  .ret) .skip))
  (.seq (.region [pm 24 0 0, pm 25 10 1, pm 26 3 2, po 27 (.call (.c (.fn (.func 38) [] [])) [(.t 24), (.t 25), (.t 26)]) 3, po 12 (.alloc zAD ) 4, ⟨none, (.store 4 (.t 12) (.t 27)), none, 5, []⟩])
  (.seq (.region [pm 29 0 0, pm 30 2 1, po 31 (.call (.c (.fn (.func 39) [] [])) [(.t 29), (.t 30)]) 2, pm 28 31 3, po 32 (.ext (.t 28) 0) 4, po 33 (.ext (.t 28) 1) 5, pm 13 32 6, pm 14 33 7])
  (.seq (.region [po 34 (.fadd 0 (.t 12)) 0, po 35 (.load false 1 (.t 34)) 1, pm 36 13 2, po 37 (.bin .add (.t 35) (.t 36)) 3, po 38 (.fadd 0 (.t 12)) 4, ⟨none, (.store 1 (.t 38) (.t 37)), none, 5, []⟩])
  (.seq (.region [pm 39 0 0, po 40 (.nilc (.t 39)) 1, po 41 (.fadd 0 (.t 40)) 2, po 42 (.load false 1 (.t 41)) 3, pm 43 14 4, po 44 (.slsl 1 (.t 42) none (some (.t 43)) none) 5, po 45 (.call (.c (.fn (.func 40) [] [])) [(.t 44)]) 6, po 46 (.fadd 2 (.t 12)) 7, ⟨none, (.store 1 (.t 46) (.t 45)), none, 8, []⟩])
  (.seq (.region [po 47 (.load true 4 (.t 12)) 0, ⟨none, (.store 4 (.t 8) (.t 47)), none, 1, []⟩, po 9 (.mv (.c (.b true))) 2])
  .ret))))))))
def x15 : XFun := ⟨x15b, [(.cell 8 true 4), (.t 9)]⟩
theorem x15_ok : compF Try.prog 15 = some x15 := by kernel_rfl
/-- bollard/bollardlaw15.bounded (5) -/
def x16b : XC := (.seq (.region [po 2 (.mv (.c (.i .i64 0))) 0])
  (.seq (.region [pm 3 0 0, po 4 (.bin .and (.t 3) (.c (.i .i64 1099511627775))) 1, pm 2 4 2])
  .ret))
def x16 : XFun := ⟨x16b, [(.t 2)]⟩
theorem x16_ok : compF Try.prog 16 = some x16 := by kernel_rfl
/-- (*bollard/sendq.Queue).Floor (17) -/
def x17b : XC := (.seq (.region [po 2 (.mv (.c (.i .u32 0))) 0])
  (.seq (.seq (.region [pm 3 0 0, po 4 (.nilq 0 false (.t 3)) 1])
  (.cond (.t 4) (.seq (.region [po 2 (.mv (.c (.i .u32 0))) 0])
  .ret) .skip))
  (.seq (.draw [pm 5 0 0, ⟨(some 6), (.nilc (.t 5)), none, 1, [0]⟩, ⟨(some 7), (.fadd 1 (.t 6)), none, 2, [0, 1]⟩, pm 9 0 4, ⟨(some 10), (.nilc (.t 9)), none, 5, [4]⟩, ⟨(some 11), (.fadd 0 (.t 10)), none, 6, [4, 5]⟩, ⟨(some 8), (.load false 1 (.t 7)), none, 3, [0, 1, 2]⟩, ⟨(some 12), (.load false 1 (.t 11)), none, 7, [4, 5, 6]⟩, ⟨(some 13), (.lenx (.t 12)), none, 8, [4, 5, 6, 7]⟩, ⟨(some 14), (.cint .u32 (.t 13)), none, 9, [4, 5, 6, 7, 8]⟩, ⟨(some 15), (.bin .sub (.t 8) (.t 14)), none, 10, [0, 1, 2, 3, 4, 5, 6, 7, 8, 9]⟩, ⟨(some 16), (.bin .sub (.t 15) (.c (.i .u32 1))), none, 11, [0, 1, 2, 3, 4, 5, 6, 7, 8, 9, 10]⟩, ⟨(some 2), (.mv (.t 16)), none, 12, [0, 1, 2, 3, 4, 5, 6, 7, 8, 9, 10, 11]⟩])
  .ret)))
def x17 : XFun := ⟨x17b, [(.t 2)]⟩
theorem x17_ok : compF Try.prog 17 = some x17 := by kernel_rfl
/-- (*bollard/sendq.Queue).Len (10) -/
def x18b : XC := (.seq (.region [po 2 (.mv (.c (.i .i64 0))) 0])
  (.seq (.seq (.region [pm 3 0 0, po 4 (.nilq 0 false (.t 3)) 1])
  (.cond (.t 4) (.seq (.region [po 2 (.mv (.c (.i .i64 0))) 0])
  .ret) .skip))
  (.seq (.region [pm 5 0 0, po 6 (.nilc (.t 5)) 1, po 7 (.fadd 0 (.t 6)) 2, po 8 (.load false 1 (.t 7)) 3, po 9 (.lenx (.t 8)) 4, pm 2 9 5])
  .ret)))
def x18 : XFun := ⟨x18b, [(.t 2)]⟩
theorem x18_ok : compF Try.prog 18 = some x18 := by kernel_rfl
/-- (*bollard/sendq.Queue).Flying (6) -/
def x19b : XC := (.seq (.region [po 2 (.mv (.c (.i .i64 0))) 0])
  (.seq (.region [pm 3 0 0, po 4 (.bslice [(.i .i64 0)] [(0, 1, (.c (.i .i64 1)))] 1) 1, po 5 (.call (.c (.fn (.func 41) [] [])) [(.t 3), (.t 4)]) 2, pm 2 5 3])
  .ret))
def x19 : XFun := ⟨x19b, [(.t 2)]⟩
theorem x19_ok : compF Try.prog 19 = some x19 := by kernel_rfl
/-- (*bollard/sendq.Queue).Left (6) -/
def x20b : XC := (.seq (.region [po 2 (.mv (.c (.i .i64 0))) 0])
  (.seq (.region [pm 3 0 0, po 4 (.bslice [(.i .i64 0), (.i .i64 0)] [(0, 1, (.c (.i .i64 0))), (1, 1, (.c (.i .i64 2)))] 2) 1, po 5 (.call (.c (.fn (.func 41) [] [])) [(.t 3), (.t 4)]) 2, pm 2 5 3])
  .ret))
def x20 : XFun := ⟨x20b, [(.t 2)]⟩
theorem x20_ok : compF Try.prog 20 = some x20 := by kernel_rfl
/-- bollard/serial.Dist (8) -/
def x21b : XC := (.seq (.region [po 4 (.mv (.c (.i .u32 0))) 0])
  (.seq (.region [pm 5 1 0, pm 6 0 1, po 7 (.bin .sub (.t 5) (.t 6)) 2, pm 4 7 3])
  .ret))
def x21 : XFun := ⟨x21b, [(.t 4)]⟩
theorem x21_ok : compF Try.prog 21 = some x21 := by kernel_rfl
/-- (*bollard/sendq.Queue).Timeout (15) -/
def x22b : XC := (.seq (.region [po 2 (.mv (.c (.i .i64 0))) 0])
  (.seq (.region [po 3 (.alloc [(.i .i64 0)]) 0, ⟨none, (.store 1 (.t 3) (.c (.i .i64 0))), none, 1, []⟩])
  (.seq (.seq (.region [pm 5 0 0, po 6 (.bslice [(.i .i64 0)] [(0, 1, (.c (.i .i64 1)))] 1) 1, po 7 (.call (.c (.fn (.func 35) [] [])) [(.t 5), (.t 6)]) 2])
  (.block 0 (.rangeFn (.t 7) [8] (.region [pm 4 8 0]) (.block 1 (.seq (.region [pm 9 4 0, po 10 (.nilc (.t 9)) 1, po 11 (.fadd 13 (.t 10)) 2, ⟨none, (.store 1 (.t 11) (.c (.i .i64 2))), none, 3, []⟩])
  (.region [po 12 (.load false 1 (.t 3)) 0, po 13 (.bin .add (.t 12) (.c (.i .i64 1))) 1, ⟨none, (.store 1 (.t 3) (.t 13)), none, 2, []⟩]))))))
  (.seq (.region [po 14 (.load false 1 (.t 3)) 0, pm 2 14 1])
  .ret))))
def x22 : XFun := ⟨x22b, [(.t 2)]⟩
theorem x22_ok : compF Try.prog 22 = some x22 := by kernel_rfl
/-- bollard/bollardlaw15.few (97) -/
def x23b : XC := (.seq (.region [po 2 (.mv (.c (.b false))) 0])
  (.seq (.seq (.region [pm 5 0 0, po 6 (.lenx (.t 5)) 1, po 7 (.bin .gtr (.t 6) (.c (.i .i64 40))) 2])
  (.cond (.t 7) (.seq (.region [po 2 (.mv (.c (.b false))) 0])
  .ret) .skip))
  (.seq (.seq (.region [po 3 (.mv (.c (.i .i64 0))) 0])
  (.block 0 (.loop (.seq (.seq (.region [pm 8 3 0, pm 9 0 1, po 10 (.lenx (.t 9)) 2, po 11 (.bin .lss (.t 8) (.t 10)) 3])
  (.cond (.t 11) .skip (.exit 0)))
  (.seq (.block 1 (.seq (.seq (.region [pm 14 0 0, pm 15 3 1, po 16 (.isl 6 (.t 14) (.t 15)) 2, po 17 (.fadd 3 (.t 16)) 3, po 18 (.load false 1 (.t 17)) 4, po 19 (.lenx (.t 18)) 5, po 20 (.bin .gtr (.t 19) (.c (.i .i64 10))) 6, pm 21 20 7, pg 22 (.mv (.t 0)) 21 false 8, pg 23 (.mv (.t 3)) 21 false 9, pg 24 (.isl 6 (.t 22) (.t 23)) 21 false 10, pg 25 (.fadd 5 (.t 24)) 21 false 11, pg 26 (.load false 1 (.t 25)) 21 false 12, pg 27 (.lenx (.t 26)) 21 false 13, pg 28 (.bin .gtr (.t 27) (.c (.i .i64 20))) 21 false 14, po 29 (.pick (.t 21) (.c (.b true)) (.t 28)) 15])
  (.cond (.t 29) (.seq (.region [po 2 (.mv (.c (.b false))) 0])
  .ret) .skip))
  (.seq (.region [po 4 (.mv (.c (.i .i64 0))) 0])
  (.block 2 (.loop (.seq (.seq (.region [pm 30 4 0, pm 31 0 1, pm 32 3 2, po 33 (.isl 6 (.t 31) (.t 32)) 3, po 34 (.fadd 3 (.t 33)) 4, po 35 (.load false 1 (.t 34)) 5, po 36 (.lenx (.t 35)) 6, po 37 (.bin .lss (.t 30) (.t 36)) 7])
  (.cond (.t 37) .skip (.exit 2)))
  (.seq (.block 3 (.seq (.draw [pm 40 0 0, pm 41 3 1, ⟨(some 42), (.isl 6 (.t 40) (.t 41)), none, 2, [0, 1]⟩, ⟨(some 43), (.fadd 3 (.t 42)), none, 3, [0, 1, 2]⟩, pm 45 4 5, ⟨(some 44), (.load false 1 (.t 43)), none, 4, [0, 1, 2, 3]⟩, ⟨(some 46), (.isl 12 (.t 44) (.t 45)), none, 6, [0, 1, 2, 3, 4, 5]⟩, ⟨(some 47), (.fadd 11 (.t 46)), none, 7, [0, 1, 2, 3, 4, 5, 6]⟩, ⟨(some 48), (.load false 1 (.t 47)), none, 8, [0, 1, 2, 3, 4, 5, 6, 7]⟩, ⟨(some 49), (.lenx (.t 48)), none, 9, [0, 1, 2, 3, 4, 5, 6, 7, 8]⟩, ⟨(some 50), (.bin .gtr (.t 49) (.c (.i .i64 1200))), none, 10, [0, 1, 2, 3, 4, 5, 6, 7, 8, 9]⟩, ⟨(some 51), (.mv (.t 50)), none, 11, [0, 1, 2, 3, 4, 5, 6, 7, 8, 9, 10]⟩, ⟨(some 52), (.mv (.t 0)), (some (51, false)), 12, [0, 1, 2, 3, 4, 5, 6, 7, 8, 9, 10, 11]⟩, ⟨(some 53), (.mv (.t 3)), (some (51, false)), 13, [0, 1, 2, 3, 4, 5, 6, 7, 8, 9, 10, 11]⟩, ⟨(some 54), (.isl 6 (.t 52) (.t 53)), (some (51, false)), 14, [0, 1, 2, 3, 4, 5, 6, 7, 8, 9, 10, 11, 12, 13]⟩, ⟨(some 55), (.fadd 3 (.t 54)), (some (51, false)), 15, [0, 1, 2, 3, 4, 5, 6, 7, 8, 9, 10, 11, 12, 13, 14]⟩, ⟨(some 57), (.mv (.t 4)), (some (51, false)), 17, [0, 1, 2, 3, 4, 5, 6, 7, 8, 9, 10, 11]⟩, ⟨(some 62), (.mv (.t 0)), (some (51, false)), 22, [0, 1, 2, 3, 4, 5, 6, 7, 8, 9, 10, 11]⟩, ⟨(some 63), (.mv (.t 3)), (some (51, false)), 23, [0, 1, 2, 3, 4, 5, 6, 7, 8, 9, 10, 11]⟩, ⟨(some 64), (.isl 6 (.t 62) (.t 63)), (some (51, false)), 24, [0, 1, 2, 3, 4, 5, 6, 7, 8, 9, 10, 11, 22, 23]⟩, ⟨(some 65), (.fadd 3 (.t 64)), (some (51, false)), 25, [0, 1, 2, 3, 4, 5, 6, 7, 8, 9, 10, 11, 22, 23, 24]⟩, ⟨(some 67), (.mv (.t 4)), (some (51, false)), 27, [0, 1, 2, 3, 4, 5, 6, 7, 8, 9, 10, 11]⟩, ⟨(some 73), (.mv (.t 0)), (some (51, false)), 33, [0, 1, 2, 3, 4, 5, 6, 7, 8, 9, 10, 11]⟩, ⟨(some 74), (.mv (.t 3)), (some (51, false)), 34, [0, 1, 2, 3, 4, 5, 6, 7, 8, 9, 10, 11]⟩, ⟨(some 75), (.isl 6 (.t 73) (.t 74)), (some (51, false)), 35, [0, 1, 2, 3, 4, 5, 6, 7, 8, 9, 10, 11, 33, 34]⟩, ⟨(some 76), (.fadd 3 (.t 75)), (some (51, false)), 36, [0, 1, 2, 3, 4, 5, 6, 7, 8, 9, 10, 11, 33, 34, 35]⟩, ⟨(some 78), (.mv (.t 4)), (some (51, false)), 38, [0, 1, 2, 3, 4, 5, 6, 7, 8, 9, 10, 11]⟩, ⟨(some 84), (.mv (.t 0)), (some (51, false)), 44, [0, 1, 2, 3, 4, 5, 6, 7, 8, 9, 10, 11]⟩, ⟨(some 85), (.mv (.t 3)), (some (51, false)), 45, [0, 1, 2, 3, 4, 5, 6, 7, 8, 9, 10, 11]⟩, ⟨(some 86), (.isl 6 (.t 84) (.t 85)), (some (51, false)), 46, [0, 1, 2, 3, 4, 5, 6, 7, 8, 9, 10, 11, 44, 45]⟩, ⟨(some 87), (.fadd 3 (.t 86)), (some (51, false)), 47, [0, 1, 2, 3, 4, 5, 6, 7, 8, 9, 10, 11, 44, 45, 46]⟩, ⟨(some 89), (.mv (.t 4)), (some (51, false)), 49, [0, 1, 2, 3, 4, 5, 6, 7, 8, 9, 10, 11]⟩, ⟨(some 56), (.load false 1 (.t 55)), (some (51, false)), 16, [0, 1, 2, 3, 4, 5, 6, 7, 8, 9, 10, 11, 12, 13, 14, 15]⟩, ⟨(some 58), (.isl 12 (.t 56) (.t 57)), (some (51, false)), 18, [0, 1, 2, 3, 4, 5, 6, 7, 8, 9, 10, 11, 12, 13, 14, 15, 16, 17]⟩, ⟨(some 59), (.fadd 10 (.t 58)), (some (51, false)), 19, [0, 1, 2, 3, 4, 5, 6, 7, 8, 9, 10, 11, 12, 13, 14, 15, 16, 17, 18]⟩, ⟨(some 60), (.load false 1 (.t 59)), (some (51, false)), 20, [0, 1, 2, 3, 4, 5, 6, 7, 8, 9, 10, 11, 12, 13, 14, 15, 16, 17, 18, 19]⟩, ⟨(some 61), (.lenx (.t 60)), (some (51, false)), 21, [0, 1, 2, 3, 4, 5, 6, 7, 8, 9, 10, 11, 12, 13, 14, 15, 16, 17, 18, 19, 20]⟩, ⟨(some 66), (.load false 1 (.t 65)), (some (51, false)), 26, [0, 1, 2, 3, 4, 5, 6, 7, 8, 9, 10, 11, 22, 23, 24, 25]⟩, ⟨(some 68), (.isl 12 (.t 66) (.t 67)), (some (51, false)), 28, [0, 1, 2, 3, 4, 5, 6, 7, 8, 9, 10, 11, 22, 23, 24, 25, 26, 27]⟩, ⟨(some 69), (.fadd 7 (.t 68)), (some (51, false)), 29, [0, 1, 2, 3, 4, 5, 6, 7, 8, 9, 10, 11, 22, 23, 24, 25, 26, 27, 28]⟩, ⟨(some 70), (.load false 1 (.t 69)), (some (51, false)), 30, [0, 1, 2, 3, 4, 5, 6, 7, 8, 9, 10, 11, 22, 23, 24, 25, 26, 27, 28, 29]⟩, ⟨(some 71), (.lenx (.t 70)), (some (51, false)), 31, [0, 1, 2, 3, 4, 5, 6, 7, 8, 9, 10, 11, 22, 23, 24, 25, 26, 27, 28, 29, 30]⟩, ⟨(some 72), (.bin .add (.t 61) (.t 71)), (some (51, false)), 32, [0, 1, 2, 3, 4, 5, 6, 7, 8, 9, 10, 11, 12, 13, 14, 15, 16, 17, 18, 19, 20, 21, 22, 23, 24, 25, 26, 27, 28, 29, 30, 31]⟩, ⟨(some 77), (.load false 1 (.t 76)), (some (51, false)), 37, [0, 1, 2, 3, 4, 5, 6, 7, 8, 9, 10, 11, 33, 34, 35, 36]⟩, ⟨(some 79), (.isl 12 (.t 77) (.t 78)), (some (51, false)), 39, [0, 1, 2, 3, 4, 5, 6, 7, 8, 9, 10, 11, 33, 34, 35, 36, 37, 38]⟩, ⟨(some 80), (.fadd 8 (.t 79)), (some (51, false)), 40, [0, 1, 2, 3, 4, 5, 6, 7, 8, 9, 10, 11, 33, 34, 35, 36, 37, 38, 39]⟩, ⟨(some 81), (.load false 1 (.t 80)), (some (51, false)), 41, [0, 1, 2, 3, 4, 5, 6, 7, 8, 9, 10, 11, 33, 34, 35, 36, 37, 38, 39, 40]⟩, ⟨(some 82), (.lenx (.t 81)), (some (51, false)), 42, [0, 1, 2, 3, 4, 5, 6, 7, 8, 9, 10, 11, 33, 34, 35, 36, 37, 38, 39, 40, 41]⟩, ⟨(some 83), (.bin .add (.t 72) (.t 82)), (some (51, false)), 43, [0, 1, 2, 3, 4, 5, 6, 7, 8, 9, 10, 11, 12, 13, 14, 15, 16, 17, 18, 19, 20, 21, 22, 23, 24, 25, 26, 27, 28, 29, 30, 31, 32, 33, 34, 35, 36, 37, 38, 39, 40, 41, 42]⟩, ⟨(some 88), (.load false 1 (.t 87)), (some (51, false)), 48, [0, 1, 2, 3, 4, 5, 6, 7, 8, 9, 10, 11, 44, 45, 46, 47]⟩, ⟨(some 90), (.isl 12 (.t 88) (.t 89)), (some (51, false)), 50, [0, 1, 2, 3, 4, 5, 6, 7, 8, 9, 10, 11, 44, 45, 46, 47, 48, 49]⟩, ⟨(some 91), (.fadd 9 (.t 90)), (some (51, false)), 51, [0, 1, 2, 3, 4, 5, 6, 7, 8, 9, 10, 11, 44, 45, 46, 47, 48, 49, 50]⟩, ⟨(some 92), (.load false 1 (.t 91)), (some (51, false)), 52, [0, 1, 2, 3, 4, 5, 6, 7, 8, 9, 10, 11, 44, 45, 46, 47, 48, 49, 50, 51]⟩, ⟨(some 93), (.lenx (.t 92)), (some (51, false)), 53, [0, 1, 2, 3, 4, 5, 6, 7, 8, 9, 10, 11, 44, 45, 46, 47, 48, 49, 50, 51, 52]⟩, ⟨(some 94), (.bin .add (.t 83) (.t 93)), (some (51, false)), 54, [0, 1, 2, 3, 4, 5, 6, 7, 8, 9, 10, 11, 12, 13, 14, 15, 16, 17, 18, 19, 20, 21, 22, 23, 24, 25, 26, 27, 28, 29, 30, 31, 32, 33, 34, 35, 36, 37, 38, 39, 40, 41, 42, 43, 44, 45, 46, 47, 48, 49, 50, 51, 52, 53]⟩, ⟨(some 95), (.bin .gtr (.t 94) (.c (.i .i64 20))), (some (51, false)), 55, [0, 1, 2, 3, 4, 5, 6, 7, 8, 9, 10, 11, 12, 13, 14, 15, 16, 17, 18, 19, 20, 21, 22, 23, 24, 25, 26, 27, 28, 29, 30, 31, 32, 33, 34, 35, 36, 37, 38, 39, 40, 41, 42, 43, 44, 45, 46, 47, 48, 49, 50, 51, 52, 53, 54]⟩, ⟨(some 96), (.pick (.t 51) (.c (.b true)) (.t 95)), none, 56, [0, 1, 2, 3, 4, 5, 6, 7, 8, 9, 10, 11, 12, 13, 14, 15, 16, 17, 18, 19, 20, 21, 22, 23, 24, 25, 26, 27, 28, 29, 30, 31, 32, 33, 34, 35, 36, 37, 38, 39, 40, 41, 42, 43, 44, 45, 46, 47, 48, 49, 50, 51, 52, 53, 54, 55]⟩])
  (.cond (.t 96) (.seq (.region [po 2 (.mv (.c (.b false))) 0])
  .ret) .skip)))
  (.region [pm 38 4 0, po 39 (.bin .add (.t 38) (.c (.i .i64 1))) 1, pm 4 39 2]))))))))
  (.region [pm 12 3 0, po 13 (.bin .add (.t 12) (.c (.i .i64 1))) 1, pm 3 13 2]))))))
  (.seq (.region [po 2 (.mv (.c (.b true))) 0])
  .ret))))
def x23 : XFun := ⟨x23b, [(.t 2)]⟩
theorem x23_ok : compF Try.prog 23 = some x23 := by kernel_rfl
/-- (*bollard/sendq.Queue).State (31) -/
def x24b : XC := (.seq (.region [po 4 (.mv (.c (.i .i64 0))) 0, po 5 (.mv (.c (.b false))) 1])
  (.seq (.region [pm 7 0 0, po 8 (.call (.c (.fn (.func 17) [] [])) [(.t 7)]) 1, pm 9 1 2, po 10 (.call (.c (.fn (.func 21) [] [])) [(.t 8), (.t 9)]) 3, po 11 (.cint .i64 (.t 10)) 4, pm 6 11 5])
  (.seq (.seq (.region [pm 12 6 0, po 13 (.bin .lss (.t 12) (.c (.i .i64 1))) 1, pm 14 13 2, pg 15 (.mv (.t 6)) 14 false 3, pg 16 (.mv (.t 0)) 14 false 4, pg 17 (.call (.c (.fn (.func 18) [] [])) [(.t 16)]) 14 false 5, pg 18 (.bin .gtr (.t 15) (.t 17)) 14 false 6, po 19 (.pick (.t 14) (.c (.b true)) (.t 18)) 7])
  (.cond (.t 19) (.seq (.region [po 4 (.mv (.c (.i .i64 0))) 0, po 5 (.mv (.c (.b false))) 1])
  .ret) .skip))
  (.seq (.region [pm 20 0 0, po 21 (.nilc (.t 20)) 1, po 22 (.fadd 0 (.t 21)) 2, po 23 (.load false 1 (.t 22)) 3, pm 24 6 4, po 25 (.bin .sub (.t 24) (.c (.i .i64 1))) 5, po 26 (.isl 1 (.t 23) (.t 25)) 6, po 27 (.load false 1 (.t 26)) 7, po 28 (.nilc (.t 27)) 8, po 29 (.fadd 13 (.t 28)) 9, po 30 (.load false 1 (.t 29)) 10, pm 4 30 11, po 5 (.mv (.c (.b true))) 12])
  .ret))))
def x24 : XFun := ⟨x24b, [(.t 4), (.t 5)]⟩
theorem x24_ok : compF Try.prog 24 = some x24 := by kernel_rfl
/-- (*bollard/sendq.Queue).Expire (68) -/
def x26b : XC := (.seq (.region [po 3 (.box (.t 1)) 0, po 4 (.mv (.c (.i .i64 0))) 1])
  (.seq (.region [po 5 (.alloc [(.i .i64 0)]) 0, ⟨none, (.store 1 (.t 5) (.c (.i .i64 0))), none, 1, []⟩])
  (.seq (.region [⟨(some 10), .mkmap, none, 0, []⟩, po 6 (.alloc [(.m none)]) 1, ⟨none, (.store 1 (.t 6) (.t 10)), none, 2, []⟩])
  (.seq (.seq (.region [pm 11 0 0, po 12 (.bslice [(.i .i64 0), (.i .i64 0), (.i .i64 0)] [(0, 1, (.c (.i .i64 0))), (1, 1, (.c (.i .i64 1))), (2, 1, (.c (.i .i64 2)))] 3) 1, po 13 (.call (.c (.fn (.func 35) [] [])) [(.t 11), (.t 12)]) 2])
  (.block 0 (.rangeFn (.t 13) [14] (.region [pm 7 14 0]) (.block 1 (.draw [pm 16 7 1, ⟨(some 17), (.nilc (.t 16)), none, 2, [1]⟩, ⟨(some 18), (.fadd 12 (.t 17)), none, 3, [1, 2]⟩, po 15 (.load false 1 (.t 6)) 0, ⟨(some 19), (.load false 1 (.t 18)), none, 4, [1, 2, 3]⟩, ⟨none, (.mput 3 (.t 15) (.t 19) (.c (.b true))), none, 5, [0, 1, 2, 3, 4]⟩])))))
  (.seq (.seq (.region [pm 20 0 0, po 21 (.bslice [(.i .i64 0), (.i .i64 0), (.i .i64 0), (.i .i64 0)] [(0, 1, (.c (.i .i64 0))), (1, 1, (.c (.i .i64 1))), (2, 1, (.c (.i .i64 2))), (3, 1, (.c (.i .i64 3)))] 4) 1, po 22 (.call (.c (.fn (.func 35) [] [])) [(.t 20), (.t 21)]) 2])
  (.block 2 (.rangeFn (.t 22) [23] (.region [pm 8 23 0]) (.block 3 (.seq (.draw [pm 25 8 1, ⟨(some 26), (.nilc (.t 25)), none, 2, [1]⟩, ⟨(some 27), (.fadd 12 (.t 26)), none, 3, [1, 2]⟩, po 24 (.load false 1 (.t 6)) 0, ⟨(some 28), (.load false 1 (.t 27)), none, 4, [1, 2, 3]⟩, ⟨(some 29), (.lookup 3 (.b false) (.t 24) (.t 28) false), none, 5, [0, 1, 2, 3, 4]⟩, ⟨(some 30), (.mv (.t 29)), none, 6, [0, 1, 2, 3, 4, 5]⟩, ⟨(some 31), (.mv (.t 8)), (some (30, true)), 7, [0, 1, 2, 3, 4, 5, 6]⟩, ⟨(some 32), (.nilc (.t 31)), (some (30, true)), 8, [0, 1, 2, 3, 4, 5, 6, 7]⟩, ⟨(some 33), (.fadd 12 (.t 32)), (some (30, true)), 9, [0, 1, 2, 3, 4, 5, 6, 7, 8]⟩, ⟨(some 34), (.load false 1 (.t 33)), (some (30, true)), 10, [0, 1, 2, 3, 4, 5, 6, 7, 8, 9]⟩, ⟨(some 35), (.nilc (.t 34)), (some (30, true)), 11, [0, 1, 2, 3, 4, 5, 6, 7, 8, 9, 10]⟩, ⟨(some 36), (.fadd 2 (.t 35)), (some (30, true)), 12, [0, 1, 2, 3, 4, 5, 6, 7, 8, 9, 10, 11]⟩, ⟨(some 37), (.load false 1 (.t 36)), (some (30, true)), 13, [0, 1, 2, 3, 4, 5, 6, 7, 8, 9, 10, 11, 12]⟩, ⟨(some 38), (.unx .not (.t 37)), (some (30, true)), 14, [0, 1, 2, 3, 4, 5, 6, 7, 8, 9, 10, 11, 12, 13]⟩, ⟨(some 39), (.pick (.t 30) (.t 38) (.c (.b false))), none, 15, [0, 1, 2, 3, 4, 5, 6, 7, 8, 9, 10, 11, 12, 13, 14]⟩, ⟨(some 40), (.mv (.t 39)), none, 16, [0, 1, 2, 3, 4, 5, 6, 7, 8, 9, 10, 11, 12, 13, 14, 15]⟩, ⟨(some 41), (.mv (.t 8)), (some (40, true)), 17, [0, 1, 2, 3, 4, 5, 6, 7, 8, 9, 10, 11, 12, 13, 14, 15, 16]⟩, ⟨(some 42), (.load false 1 (.t 3)), (some (40, true)), 18, [0, 1, 2, 3, 4, 5, 6, 7, 8, 9, 10, 11, 12, 13, 14, 15, 16]⟩, ⟨(some 43), (.call (.c (.fn (.func 43) [] [])) [(.t 41), (.t 42)]), (some (40, true)), 19, [0, 1, 2, 3, 4, 5, 6, 7, 8, 9, 10, 11, 12, 13, 14, 15, 16, 17, 18]⟩, ⟨(some 44), (.pick (.t 40) (.t 43) (.c (.b false))), none, 20, [0, 1, 2, 3, 4, 5, 6, 7, 8, 9, 10, 11, 12, 13, 14, 15, 16, 17, 18, 19]⟩])
  (.cond (.t 44) (.seq (.region [pm 45 8 0, po 46 (.nilc (.t 45)) 1, po 47 (.fadd 12 (.t 46)) 2, po 48 (.load false 1 (.t 47)) 3, po 49 (.nilc (.t 48)) 4, po 50 (.fadd 2 (.t 49)) 5, ⟨none, (.store 1 (.t 50) (.c (.b true))), none, 6, []⟩])
  (.region [po 51 (.load false 1 (.t 5)) 0, po 52 (.bin .add (.t 51) (.c (.i .i64 1))) 1, ⟨none, (.store 1 (.t 5) (.t 52)), none, 2, []⟩])) .skip))))))
  (.seq (.seq (.region [pm 53 0 0, po 54 (.bslice [(.i .i64 0), (.i .i64 0), (.i .i64 0), (.i .i64 0)] [(0, 1, (.c (.i .i64 0))), (1, 1, (.c (.i .i64 1))), (2, 1, (.c (.i .i64 2))), (3, 1, (.c (.i .i64 3)))] 4) 1, po 55 (.call (.c (.fn (.func 35) [] [])) [(.t 53), (.t 54)]) 2])
  (.block 4 (.rangeFn (.t 55) [56] (.region [pm 9 56 0]) (.block 5 (.seq (.region [pm 57 9 0, po 58 (.nilc (.t 57)) 1, po 59 (.fadd 12 (.t 58)) 2, po 60 (.load false 1 (.t 59)) 3, po 61 (.nilc (.t 60)) 4, po 62 (.fadd 2 (.t 61)) 5, po 63 (.load false 1 (.t 62)) 6])
  (.cond (.t 63) (.region [pm 64 9 0, po 65 (.nilc (.t 64)) 1, po 66 (.fadd 13 (.t 65)) 2, ⟨none, (.store 1 (.t 66) (.c (.i .i64 4))), none, 3, []⟩]) .skip))))))
  (.seq (.region [po 67 (.load false 1 (.t 5)) 0, pm 4 67 1])
  .ret)))))))
def x26 : XFun := ⟨x26b, [(.t 4)]⟩
theorem x26_ok : compF Try.prog 26 = some x26 := by kernel_rfl
/-- (*bollard/sendq.Queue).Forward (96) -/
def x27b : XC := (.seq (.region [po 2 (.mv (.c (.i .u32 0))) 0, po 3 (.mv (.c zAC )) 1, po 4 (.mv (.c (.b false))) 2])
  (.seq (.region [po 5 (.mv (.c (.i .i64 0))) 0])
  (.seq (.seq (.region [pm 13 0 0, po 14 (.call (.c (.fn (.func 44) [] [])) [(.t 13)]) 1, po 15 (.lenx (.t 14)) 2, po 16 (.mv (.c (.i .i64 0))) 3])
  (.block 0 (.loop (.seq (.region [po 17 (.bin .lss (.t 16) (.t 15)) 0])
  (.seq (.cond (.t 17) .skip (.exit 0))
  (.seq (.block 1 (.seq (.region [pm 18 16 0, po 19 (.isl 1 (.t 14) (.t 16)) 1, po 20 (.load false 1 (.t 19)) 2, pm 6 18 3, pm 7 20 4])
  (.seq (.region [pm 21 7 0, po 22 (.nilc (.t 21)) 1, po 23 (.fadd 13 (.t 22)) 2, po 24 (.load false 1 (.t 23)) 3, po 25 (.bin .eql (.t 24) (.c (.i .i64 4))) 4])
  (.cond (.t 25) (.region [pm 26 6 0, po 27 (.bin .add (.t 26) (.c (.i .i64 1))) 1, pm 5 27 2]) .skip))))
  (.region [po 28 (.bin .add (.t 16) (.c (.i .i64 1))) 0, pm 16 28 1])))))))
  (.seq (.seq (.region [pm 29 5 0, po 30 (.bin .eql (.t 29) (.c (.i .i64 0))) 1])
  (.cond (.t 30) (.seq (.region [pm 31 0 0, po 32 (.call (.c (.fn (.func 17) [] [])) [(.t 31)]) 1, pm 2 32 2, po 3 (.mv (.c zAC )) 3, po 4 (.mv (.c (.b false))) 4])
  .ret) .skip))
  (.seq (.region [po 8 (.mv (.c zAC )) 0])
  (.seq (.seq (.region [pm 33 0 0, po 34 (.nilc (.t 33)) 1, po 35 (.fadd 0 (.t 34)) 2, po 36 (.load false 1 (.t 35)) 3, pm 37 5 4, po 38 (.slsl 1 (.t 36) none (some (.t 37)) none) 5, po 39 (.lenx (.t 38)) 6, po 40 (.mv (.c (.i .i64 0))) 7])
  (.block 2 (.loop (.seq (.region [po 41 (.bin .lss (.t 40) (.t 39)) 0])
  (.seq (.cond (.t 41) .skip (.exit 2))
  (.seq (.block 3 (.seq (.region [po 42 (.isl 1 (.t 38) (.t 40)) 0, po 43 (.load false 1 (.t 42)) 1, pm 10 43 2])
  (.seq (.seq (.region [pm 44 10 0, po 45 (.nilc (.t 44)) 1, po 46 (.fadd 13 (.t 45)) 2, po 47 (.load false 1 (.t 46)) 3, po 48 (.bin .eql (.t 47) (.c (.i .i64 3))) 4, pm 49 48 5, pg 50 (.mv (.t 10)) 49 false 6, pg 51 (.nilc (.t 50)) 49 false 7, pg 52 (.fadd 0 (.t 51)) 49 false 8, pg 53 (.fadd 1 (.t 52)) 49 false 9, pg 54 (.load false 1 (.t 53)) 49 false 10, pg 55 (.bin .and (.t 54) (.c (.i .u8 4))) 49 false 11, pg 56 (.bin .neq (.t 55) (.c (.i .u8 0))) 49 false 12, po 57 (.pick (.t 49) (.c (.b true)) (.t 56)) 13])
  (.cond (.t 57) (.exit 3) .skip))
  (.seq (.draw [pm 58 10 0, ⟨(some 59), (.nilc (.t 58)), none, 1, [0]⟩, ⟨(some 60), (.fadd 0 (.t 59)), none, 2, [0, 1]⟩, ⟨(some 61), (.fadd 4 (.t 60)), none, 3, [0, 1, 2]⟩, pm 63 10 5, ⟨(some 64), (.nilc (.t 63)), none, 6, [5]⟩, ⟨(some 65), (.fadd 0 (.t 64)), none, 7, [5, 6]⟩, ⟨(some 66), (.fadd 5 (.t 65)), none, 8, [5, 6, 7]⟩, ⟨(some 62), (.load false 1 (.t 61)), none, 4, [0, 1, 2, 3]⟩, ⟨(some 67), (.load false 1 (.t 66)), none, 9, [5, 6, 7, 8]⟩, ⟨(some 68), (.build [(.i .u16 0), (.i .u16 0)] [(0, 1, (.t 62)), (1, 1, (.t 67))]), none, 10, [0, 1, 2, 3, 4, 5, 6, 7, 8, 9]⟩, po 11 (.alloc [(.i .u16 0), (.i .u16 0)]) 11, ⟨none, (.store 2 (.t 11) (.t 68)), none, 12, [0, 1, 2, 3, 4, 5, 6, 7, 8, 9, 10, 11]⟩])
  (.seq (.seq (.region [pm 69 8 0, po 70 (.mkf (.func 46) [] [(.t 11)]) 1, po 71 (.call (.c (.fn (.func 45) [] [])) [(.t 69), (.t 70)]) 2, pm 12 71 3])
  (.seq (.region [pm 72 12 0, po 73 (.bin .geq (.t 72) (.c (.i .i64 0))) 1])
  (.cond (.t 73) (.seq (.region [pm 74 8 0, pm 75 12 1, po 76 (.load true 2 (.t 11)) 2, po 77 (.isl 2 (.t 74) (.t 75)) 3, ⟨none, (.store 2 (.t 77) (.t 76)), none, 4, []⟩])
  (.exit 3)) .skip)))
  (.region [pm 78 8 0, po 79 (.load true 2 (.t 11)) 1, po 80 (.bslice [(.i .u16 0), (.i .u16 0)] [(0, 2, (.t 79))] 1) 2, po 81 (.append 2 4 (.t 78) (.t 80)) 3, pm 8 81 4]))))))
  (.region [po 82 (.bin .add (.t 40) (.c (.i .i64 1))) 0, pm 40 82 1])))))))
  (.seq (.region [pm 83 0 0, po 84 (.nilc (.t 83)) 1, po 85 (.fadd 0 (.t 84)) 2, po 86 (.load false 1 (.t 85)) 3, pm 87 5 4, po 88 (.bin .sub (.t 87) (.c (.i .i64 1))) 5, po 89 (.isl 1 (.t 86) (.t 88)) 6, po 90 (.load false 1 (.t 89)) 7, po 91 (.nilc (.t 90)) 8, po 92 (.fadd 0 (.t 91)) 9, po 93 (.fadd 2 (.t 92)) 10, po 94 (.load false 1 (.t 93)) 11, pm 95 8 12, pm 2 94 13, pm 3 95 14, po 4 (.mv (.c (.b true))) 15])
  .ret)))))))
def x27 : XFun := ⟨x27b, [(.t 2), (.t 3), (.t 4)]⟩
theorem x27_ok : compF Try.prog 27 = some x27 := by kernel_rfl
/-- bollard/bollardref15.New (6) -/
def x28b : XC := (.seq (.region [po 2 (.mv (.c (.p none))) 0])
  (.seq (.region [pm 3 0 0, po 4 (.build [zAC , (.i .u32 0), (.i .i64 0)] [(1, 1, (.t 3))]) 1, po 5 (.box (.t 4)) 2, pm 2 5 3])
  .ret))
def x28 : XFun := ⟨x28b, [(.t 2)]⟩
theorem x28_ok : compF Try.prog 28 = some x28 := by kernel_rfl
/-- bollard/bollardlaw15.step (132) -/
def x29b : XC := (.seq (.region [po 6 (.box (.t 2)) 0, po 8 (.mv (.c (.b false))) 1])
  (.seq (.seq (.region [po 16 (.fadd 0 (.t 6)) 0, po 17 (.load false 1 (.t 16)) 1])
  (.block 0 (.seq (.region [po 19 (.bin .eql (.t 17) (.c (.i .i64 0))) 0, pm 18 19 1])
  (.cond (.t 18) (.seq (.draw [pm 20 0 0, po 21 (.fadd 3 (.t 6)) 1, po 23 (.fadd 1 (.t 6)) 3, po 25 (.fadd 2 (.t 6)) 5, pm 28 1 8, po 29 (.fadd 3 (.t 6)) 9, po 31 (.fadd 1 (.t 6)) 11, po 33 (.fadd 2 (.t 6)) 13, ⟨(some 22), (.load false 1 (.t 21)), none, 2, [1]⟩, ⟨(some 24), (.load false 1 (.t 23)), none, 4, [3]⟩, ⟨(some 26), (.load false 1 (.t 25)), none, 6, [5]⟩, ⟨(some 30), (.load false 1 (.t 29)), none, 10, [9]⟩, ⟨(some 32), (.load false 1 (.t 31)), none, 12, [11]⟩, ⟨(some 34), (.load false 1 (.t 33)), none, 14, [13]⟩, ⟨(some 27), (.call (.c (.fn (.func 12) [] [])) [(.t 20), (.t 22), (.t 24), (.t 26)]), none, 7, [0, 1, 2, 3, 4, 5, 6]⟩, ⟨(some 35), (.call (.c (.fn (.func 47) [] [])) [(.t 28), (.t 30), (.t 32), (.t 34)]), none, 15, [0, 1, 2, 3, 4, 5, 6, 7, 8, 9, 10, 11, 12, 13, 14]⟩, ⟨(some 36), (.bin .eql (.t 27) (.t 35)), none, 16, [0, 1, 2, 3, 4, 5, 6, 7, 8, 9, 10, 11, 12, 13, 14, 15]⟩, ⟨(some 8), (.mv (.t 36)), none, 17, [0, 1, 2, 3, 4, 5, 6, 7, 8, 9, 10, 11, 12, 13, 14, 15, 16]⟩])
  .ret) (.seq (.region [po 38 (.bin .eql (.t 17) (.c (.i .i64 1))) 0, pm 37 38 1])
  (.cond (.t 37) (.seq (.draw [pm 39 0 0, po 40 (.fadd 1 (.t 6)) 1, po 43 (.fadd 2 (.t 6)) 4, pm 46 1 7, po 47 (.fadd 1 (.t 6)) 8, po 50 (.fadd 2 (.t 6)) 11, ⟨(some 41), (.load false 1 (.t 40)), none, 2, [1]⟩, ⟨(some 44), (.load false 1 (.t 43)), none, 5, [4]⟩, ⟨(some 48), (.load false 1 (.t 47)), none, 9, [8]⟩, ⟨(some 51), (.load false 1 (.t 50)), none, 12, [11]⟩, ⟨(some 42), (.call (.c (.fn (.func 16) [] [])) [(.t 41)]), none, 3, [1, 2]⟩, ⟨(some 45), (.call (.c (.fn (.func 14) [] [])) [(.t 39), (.t 42), (.t 44)]), none, 6, [0, 1, 2, 3, 4, 5]⟩, ⟨(some 49), (.call (.c (.fn (.func 16) [] [])) [(.t 48)]), none, 10, [0, 1, 2, 3, 4, 5, 6, 8, 9]⟩, ⟨(some 52), (.call (.c (.fn (.func 49) [] [])) [(.t 46), (.t 49), (.t 51)]), none, 13, [0, 1, 2, 3, 4, 5, 6, 7, 8, 9, 10, 11, 12]⟩, ⟨(some 53), (.call (.c (.fn (.func 48) [] [])) [(.t 45), (.t 52)]), none, 14, [0, 1, 2, 3, 4, 5, 6, 7, 8, 9, 10, 11, 12, 13]⟩, ⟨(some 8), (.mv (.t 53)), none, 15, [0, 1, 2, 3, 4, 5, 6, 7, 8, 9, 10, 11, 12, 13, 14]⟩])
  .ret) (.seq (.region [po 55 (.bin .eql (.t 17) (.c (.i .i64 2))) 0, pm 54 55 1])
  (.cond (.t 54) (.seq (.draw [pm 57 0 0, pm 58 3 1, po 59 (.fadd 4 (.t 6)) 2, po 62 (.fadd 5 (.t 6)) 5, po 64 (.fadd 1 (.t 6)) 7, ⟨(some 60), (.load false 1 (.t 59)), none, 3, [2]⟩, ⟨(some 61), (.bin .add (.t 58) (.t 60)), none, 4, [1, 2, 3]⟩, ⟨(some 63), (.load false 1 (.t 62)), none, 6, [5]⟩, ⟨(some 65), (.load false 1 (.t 64)), none, 8, [7]⟩, ⟨(some 66), (.call (.c (.fn (.func 16) [] [])) [(.t 65)]), none, 9, [7, 8]⟩, ⟨(some 67), (.call (.c (.fn (.func 15) [] [])) [(.t 57), (.t 61), (.t 63), (.t 66)]), none, 10, [0, 1, 2, 3, 4, 5, 6, 7, 8, 9]⟩, ⟨(some 56), (.mv (.t 67)), none, 11, [0, 1, 2, 3, 4, 5, 6, 7, 8, 9, 10]⟩, ⟨(some 68), (.ext (.t 56) 0), none, 12, [0, 1, 2, 3, 4, 5, 6, 7, 8, 9, 10, 11]⟩, ⟨(some 69), (.ext (.t 56) 1), none, 13, [0, 1, 2, 3, 4, 5, 6, 7, 8, 9, 10, 11]⟩, po 9 (.alloc zAD ) 14, ⟨none, (.store 4 (.t 9) (.t 68)), none, 15, [0, 1, 2, 3, 4, 5, 6, 7, 8, 9, 10, 11, 12, 14]⟩, ⟨(some 10), (.mv (.t 69)), none, 16, [0, 1, 2, 3, 4, 5, 6, 7, 8, 9, 10, 11, 12, 13, 14, 15]⟩])
  (.seq (.draw [pm 71 1 0, pm 72 3 1, po 73 (.fadd 4 (.t 6)) 2, po 76 (.fadd 5 (.t 6)) 5, po 78 (.fadd 1 (.t 6)) 7, ⟨(some 74), (.load false 1 (.t 73)), none, 3, [2]⟩, ⟨(some 75), (.bin .add (.t 72) (.t 74)), none, 4, [1, 2, 3]⟩, ⟨(some 77), (.load false 1 (.t 76)), none, 6, [5]⟩, ⟨(some 79), (.load false 1 (.t 78)), none, 8, [7]⟩, ⟨(some 80), (.call (.c (.fn (.func 16) [] [])) [(.t 79)]), none, 9, [7, 8]⟩, ⟨(some 81), (.call (.c (.fn (.func 50) [] [])) [(.t 71), (.t 75), (.t 77), (.t 80)]), none, 10, [0, 1, 2, 3, 4, 5, 6, 7, 8, 9]⟩, ⟨(some 70), (.mv (.t 81)), none, 11, [0, 1, 2, 3, 4, 5, 6, 7, 8, 9, 10]⟩, ⟨(some 82), (.ext (.t 70) 0), none, 12, [0, 1, 2, 3, 4, 5, 6, 7, 8, 9, 10, 11]⟩, ⟨(some 83), (.ext (.t 70) 1), none, 13, [0, 1, 2, 3, 4, 5, 6, 7, 8, 9, 10, 11]⟩, ⟨(some 84), (.ext (.t 70) 2), none, 14, [0, 1, 2, 3, 4, 5, 6, 7, 8, 9, 10, 11]⟩, ⟨(some 85), (.ext (.t 70) 3), none, 15, [0, 1, 2, 3, 4, 5, 6, 7, 8, 9, 10, 11]⟩, ⟨(some 86), (.ext (.t 70) 4), none, 16, [0, 1, 2, 3, 4, 5, 6, 7, 8, 9, 10, 11]⟩, ⟨(some 11), (.mv (.t 82)), none, 17, [0, 1, 2, 3, 4, 5, 6, 7, 8, 9, 10, 11, 12]⟩, ⟨(some 12), (.mv (.t 83)), none, 18, [0, 1, 2, 3, 4, 5, 6, 7, 8, 9, 10, 11, 12, 13, 17]⟩, ⟨(some 13), (.mv (.t 84)), none, 19, [0, 1, 2, 3, 4, 5, 6, 7, 8, 9, 10, 11, 12, 13, 14, 17, 18]⟩, ⟨(some 14), (.mv (.t 85)), none, 20, [0, 1, 2, 3, 4, 5, 6, 7, 8, 9, 10, 11, 12, 13, 14, 15, 17, 18, 19]⟩, ⟨(some 15), (.mv (.t 86)), none, 21, [0, 1, 2, 3, 4, 5, 6, 7, 8, 9, 10, 11, 12, 13, 14, 15, 16, 17, 18, 19, 20]⟩])
  (.seq (.region [po 87 (.fadd 0 (.t 9)) 0, po 88 (.load false 1 (.t 87)) 1, pm 89 11 2, po 90 (.bin .eql (.t 88) (.t 89)) 3, pm 91 90 4, pg 92 (.fadd 1 (.t 9)) 91 true 5, pg 93 (.load false 1 (.t 92)) 91 true 6, pg 94 (.mv (.t 12)) 91 true 7, pg 95 (.bin .eql (.t 93) (.t 94)) 91 true 8, po 96 (.pick (.t 91) (.t 95) (.c (.b false))) 9, pm 97 96 10, pg 98 (.fadd 2 (.t 9)) 97 true 11, pg 99 (.load false 1 (.t 98)) 97 true 12, pg 100 (.mv (.t 13)) 97 true 13, pg 101 (.beq false (.t 99) (.t 100)) 97 true 14, po 102 (.pick (.t 97) (.t 101) (.c (.b false))) 15, pm 103 102 16, pg 104 (.fadd 3 (.t 9)) 103 true 17, pg 105 (.load false 1 (.t 104)) 103 true 18, pg 106 (.mv (.t 14)) 103 true 19, pg 107 (.beq false (.t 105) (.t 106)) 103 true 20, po 108 (.pick (.t 103) (.t 107) (.c (.b false))) 21, pm 109 108 22, pg 110 (.mv (.t 10)) 109 true 23, pg 111 (.mv (.t 15)) 109 true 24, pg 112 (.beq false (.t 110) (.t 111)) 109 true 25, po 113 (.pick (.t 109) (.t 112) (.c (.b false))) 26, pm 8 113 27])
  .ret))) (.seq (.region [po 115 (.bin .eql (.t 17) (.c (.i .i64 3))) 0, pm 114 115 1])
  (.cond (.t 114) (.seq (.region [pm 116 0 0, po 117 (.call (.c (.fn (.func 22) [] [])) [(.t 116)]) 1, pm 118 1 2, po 119 (.call (.c (.fn (.func 51) [] [])) [(.t 118)]) 3, po 120 (.bin .eql (.t 117) (.t 119)) 4, pm 8 120 5])
  .ret) .skip))))))))))
  (.seq (.draw [pm 121 0 0, po 122 (.fadd 1 (.t 6)) 1, pm 126 1 5, po 127 (.fadd 1 (.t 6)) 6, ⟨(some 123), (.load false 1 (.t 122)), none, 2, [1]⟩, ⟨(some 128), (.load false 1 (.t 127)), none, 7, [6]⟩, ⟨(some 124), (.call (.c (.fn (.func 16) [] [])) [(.t 123)]), none, 3, [1, 2]⟩, ⟨(some 125), (.call (.c (.fn (.func 26) [] [])) [(.t 121), (.t 124)]), none, 4, [0, 1, 2, 3]⟩, ⟨(some 129), (.call (.c (.fn (.func 16) [] [])) [(.t 128)]), none, 8, [0, 1, 2, 3, 4, 6, 7]⟩, ⟨(some 130), (.call (.c (.fn (.func 52) [] [])) [(.t 126), (.t 129)]), none, 9, [0, 1, 2, 3, 4, 5, 6, 7, 8]⟩, ⟨(some 131), (.bin .eql (.t 125) (.t 130)), none, 10, [0, 1, 2, 3, 4, 5, 6, 7, 8, 9]⟩, ⟨(some 8), (.mv (.t 131)), none, 11, [0, 1, 2, 3, 4, 5, 6, 7, 8, 9, 10]⟩])
  .ret)))
def x29 : XFun := ⟨x29b, [(.t 8)]⟩
theorem x29_ok : compF Try.prog 29 = some x29 := by kernel_rfl
/-- bollard/bollardlaw15.alike (104) -/
def x30b : XC := (.seq (.region [po 6 (.mv (.c (.b false))) 0])
  (.seq (.region [pm 18 0 0, po 19 (.call (.c (.fn (.func 27) [] [])) [(.t 18)]) 1, pm 17 19 2, po 20 (.ext (.t 17) 0) 3, po 21 (.ext (.t 17) 1) 4, po 22 (.ext (.t 17) 2) 5, pm 7 20 6, pm 8 21 7, pm 9 22 8])
  (.seq (.region [pm 24 1 0, po 25 (.call (.c (.fn (.func 53) [] [])) [(.t 24)]) 1, pm 23 25 2, po 26 (.ext (.t 23) 0) 3, po 27 (.ext (.t 23) 1) 4, po 28 (.ext (.t 23) 2) 5, pm 10 26 6, pm 11 27 7, pm 12 28 8])
  (.seq (.region [pm 30 0 0, pm 31 2 1, po 32 (.call (.c (.fn (.func 24) [] [])) [(.t 30), (.t 31)]) 2, pm 29 32 3, po 33 (.ext (.t 29) 0) 4, po 34 (.ext (.t 29) 1) 5, pm 13 33 6, pm 14 34 7])
  (.seq (.region [pm 36 1 0, pm 37 2 1, po 38 (.call (.c (.fn (.func 54) [] [])) [(.t 36), (.t 37)]) 2, pm 35 38 3, po 39 (.ext (.t 35) 0) 4, po 40 (.ext (.t 35) 1) 5, pm 15 39 6, pm 16 40 7])
  (.seq (.draw [pm 41 7 0, pm 42 10 1, ⟨(some 43), (.bin .eql (.t 41) (.t 42)), none, 2, [0, 1]⟩, ⟨(some 44), (.mv (.t 43)), none, 3, [0, 1, 2]⟩, ⟨(some 45), (.mv (.t 8)), (some (44, true)), 4, [0, 1, 2, 3]⟩, ⟨(some 46), (.mv (.t 11)), (some (44, true)), 5, [0, 1, 2, 3]⟩, ⟨(some 47), (.call (.c (.fn (.func 55) [] [])) [(.t 45), (.t 46)]), (some (44, true)), 6, [0, 1, 2, 3, 4, 5]⟩, ⟨(some 48), (.pick (.t 44) (.t 47) (.c (.b false))), none, 7, [0, 1, 2, 3, 4, 5, 6]⟩, ⟨(some 49), (.mv (.t 48)), none, 8, [0, 1, 2, 3, 4, 5, 6, 7]⟩, ⟨(some 50), (.mv (.t 9)), (some (49, true)), 9, [0, 1, 2, 3, 4, 5, 6, 7, 8]⟩, ⟨(some 51), (.mv (.t 12)), (some (49, true)), 10, [0, 1, 2, 3, 4, 5, 6, 7, 8]⟩, ⟨(some 52), (.beq false (.t 50) (.t 51)), (some (49, true)), 11, [0, 1, 2, 3, 4, 5, 6, 7, 8, 9, 10]⟩, ⟨(some 53), (.pick (.t 49) (.t 52) (.c (.b false))), none, 12, [0, 1, 2, 3, 4, 5, 6, 7, 8, 9, 10, 11]⟩, ⟨(some 54), (.mv (.t 53)), none, 13, [0, 1, 2, 3, 4, 5, 6, 7, 8, 9, 10, 11, 12]⟩, ⟨(some 55), (.mv (.t 13)), (some (54, true)), 14, [0, 1, 2, 3, 4, 5, 6, 7, 8, 9, 10, 11, 12, 13]⟩, ⟨(some 56), (.mv (.t 15)), (some (54, true)), 15, [0, 1, 2, 3, 4, 5, 6, 7, 8, 9, 10, 11, 12, 13]⟩, ⟨(some 57), (.bin .eql (.t 55) (.t 56)), (some (54, true)), 16, [0, 1, 2, 3, 4, 5, 6, 7, 8, 9, 10, 11, 12, 13, 14, 15]⟩, ⟨(some 58), (.pick (.t 54) (.t 57) (.c (.b false))), none, 17, [0, 1, 2, 3, 4, 5, 6, 7, 8, 9, 10, 11, 12, 13, 14, 15, 16]⟩, ⟨(some 59), (.mv (.t 58)), none, 18, [0, 1, 2, 3, 4, 5, 6, 7, 8, 9, 10, 11, 12, 13, 14, 15, 16, 17]⟩, ⟨(some 60), (.mv (.t 14)), (some (59, true)), 19, [0, 1, 2, 3, 4, 5, 6, 7, 8, 9, 10, 11, 12, 13, 14, 15, 16, 17, 18]⟩, ⟨(some 61), (.mv (.t 16)), (some (59, true)), 20, [0, 1, 2, 3, 4, 5, 6, 7, 8, 9, 10, 11, 12, 13, 14, 15, 16, 17, 18]⟩, ⟨(some 62), (.beq false (.t 60) (.t 61)), (some (59, true)), 21, [0, 1, 2, 3, 4, 5, 6, 7, 8, 9, 10, 11, 12, 13, 14, 15, 16, 17, 18, 19, 20]⟩, ⟨(some 63), (.pick (.t 59) (.t 62) (.c (.b false))), none, 22, [0, 1, 2, 3, 4, 5, 6, 7, 8, 9, 10, 11, 12, 13, 14, 15, 16, 17, 18, 19, 20, 21]⟩, ⟨(some 64), (.mv (.t 63)), none, 23, [0, 1, 2, 3, 4, 5, 6, 7, 8, 9, 10, 11, 12, 13, 14, 15, 16, 17, 18, 19, 20, 21, 22]⟩, ⟨(some 65), (.mv (.t 0)), (some (64, true)), 24, [0, 1, 2, 3, 4, 5, 6, 7, 8, 9, 10, 11, 12, 13, 14, 15, 16, 17, 18, 19, 20, 21, 22, 23]⟩, ⟨(some 67), (.mv (.t 1)), (some (64, true)), 26, [0, 1, 2, 3, 4, 5, 6, 7, 8, 9, 10, 11, 12, 13, 14, 15, 16, 17, 18, 19, 20, 21, 22, 23]⟩, ⟨(some 66), (.call (.c (.fn (.func 17) [] [])) [(.t 65)]), (some (64, true)), 25, [0, 1, 2, 3, 4, 5, 6, 7, 8, 9, 10, 11, 12, 13, 14, 15, 16, 17, 18, 19, 20, 21, 22, 23, 24]⟩, ⟨(some 68), (.call (.c (.fn (.func 56) [] [])) [(.t 67)]), (some (64, true)), 27, [0, 1, 2, 3, 4, 5, 6, 7, 8, 9, 10, 11, 12, 13, 14, 15, 16, 17, 18, 19, 20, 21, 22, 23, 24, 25, 26]⟩, ⟨(some 69), (.bin .eql (.t 66) (.t 68)), (some (64, true)), 28, [0, 1, 2, 3, 4, 5, 6, 7, 8, 9, 10, 11, 12, 13, 14, 15, 16, 17, 18, 19, 20, 21, 22, 23, 24, 25, 26, 27]⟩, ⟨(some 70), (.pick (.t 64) (.t 69) (.c (.b false))), none, 29, [0, 1, 2, 3, 4, 5, 6, 7, 8, 9, 10, 11, 12, 13, 14, 15, 16, 17, 18, 19, 20, 21, 22, 23, 24, 25, 26, 27, 28]⟩, ⟨(some 71), (.mv (.t 70)), none, 30, [0, 1, 2, 3, 4, 5, 6, 7, 8, 9, 10, 11, 12, 13, 14, 15, 16, 17, 18, 19, 20, 21, 22, 23, 24, 25, 26, 27, 28, 29]⟩, ⟨(some 72), (.mv (.t 0)), (some (71, true)), 31, [0, 1, 2, 3, 4, 5, 6, 7, 8, 9, 10, 11, 12, 13, 14, 15, 16, 17, 18, 19, 20, 21, 22, 23, 24, 25, 26, 27, 28, 29, 30]⟩, ⟨(some 74), (.mv (.t 1)), (some (71, true)), 33, [0, 1, 2, 3, 4, 5, 6, 7, 8, 9, 10, 11, 12, 13, 14, 15, 16, 17, 18, 19, 20, 21, 22, 23, 24, 25, 26, 27, 28, 29, 30]⟩, ⟨(some 75), (.nilc (.t 74)), (some (71, true)), 34, [0, 1, 2, 3, 4, 5, 6, 7, 8, 9, 10, 11, 12, 13, 14, 15, 16, 17, 18, 19, 20, 21, 22, 23, 24, 25, 26, 27, 28, 29, 30, 33]⟩, ⟨(some 76), (.fadd 1 (.t 75)), (some (71, true)), 35, [0, 1, 2, 3, 4, 5, 6, 7, 8, 9, 10, 11, 12, 13, 14, 15, 16, 17, 18, 19, 20, 21, 22, 23, 24, 25, 26, 27, 28, 29, 30, 33, 34]⟩, ⟨(some 77), (.load false 1 (.t 76)), (some (71, true)), 36, [0, 1, 2, 3, 4, 5, 6, 7, 8, 9, 10, 11, 12, 13, 14, 15, 16, 17, 18, 19, 20, 21, 22, 23, 24, 25, 26, 27, 28, 29, 30, 33, 34, 35]⟩, ⟨(some 73), (.call (.c (.fn (.func 31) [] [])) [(.t 72)]), (some (71, true)), 32, [0, 1, 2, 3, 4, 5, 6, 7, 8, 9, 10, 11, 12, 13, 14, 15, 16, 17, 18, 19, 20, 21, 22, 23, 24, 25, 26, 27, 28, 29, 30, 31]⟩, ⟨(some 78), (.bin .eql (.t 73) (.t 77)), (some (71, true)), 37, [0, 1, 2, 3, 4, 5, 6, 7, 8, 9, 10, 11, 12, 13, 14, 15, 16, 17, 18, 19, 20, 21, 22, 23, 24, 25, 26, 27, 28, 29, 30, 31, 32, 33, 34, 35, 36]⟩, ⟨(some 79), (.pick (.t 71) (.t 78) (.c (.b false))), none, 38, [0, 1, 2, 3, 4, 5, 6, 7, 8, 9, 10, 11, 12, 13, 14, 15, 16, 17, 18, 19, 20, 21, 22, 23, 24, 25, 26, 27, 28, 29, 30, 31, 32, 33, 34, 35, 36, 37]⟩, ⟨(some 80), (.mv (.t 79)), none, 39, [0, 1, 2, 3, 4, 5, 6, 7, 8, 9, 10, 11, 12, 13, 14, 15, 16, 17, 18, 19, 20, 21, 22, 23, 24, 25, 26, 27, 28, 29, 30, 31, 32, 33, 34, 35, 36, 37, 38]⟩, ⟨(some 81), (.mv (.t 0)), (some (80, true)), 40, [0, 1, 2, 3, 4, 5, 6, 7, 8, 9, 10, 11, 12, 13, 14, 15, 16, 17, 18, 19, 20, 21, 22, 23, 24, 25, 26, 27, 28, 29, 30, 31, 32, 33, 34, 35, 36, 37, 38, 39]⟩, ⟨(some 83), (.mv (.t 1)), (some (80, true)), 42, [0, 1, 2, 3, 4, 5, 6, 7, 8, 9, 10, 11, 12, 13, 14, 15, 16, 17, 18, 19, 20, 21, 22, 23, 24, 25, 26, 27, 28, 29, 30, 31, 32, 33, 34, 35, 36, 37, 38, 39]⟩, ⟨(some 84), (.nilc (.t 83)), (some (80, true)), 43, [0, 1, 2, 3, 4, 5, 6, 7, 8, 9, 10, 11, 12, 13, 14, 15, 16, 17, 18, 19, 20, 21, 22, 23, 24, 25, 26, 27, 28, 29, 30, 31, 32, 33, 34, 35, 36, 37, 38, 39, 42]⟩, ⟨(some 85), (.fadd 0 (.t 84)), (some (80, true)), 44, [0, 1, 2, 3, 4, 5, 6, 7, 8, 9, 10, 11, 12, 13, 14, 15, 16, 17, 18, 19, 20, 21, 22, 23, 24, 25, 26, 27, 28, 29, 30, 31, 32, 33, 34, 35, 36, 37, 38, 39, 42, 43]⟩, ⟨(some 86), (.load false 1 (.t 85)), (some (80, true)), 45, [0, 1, 2, 3, 4, 5, 6, 7, 8, 9, 10, 11, 12, 13, 14, 15, 16, 17, 18, 19, 20, 21, 22, 23, 24, 25, 26, 27, 28, 29, 30, 31, 32, 33, 34, 35, 36, 37, 38, 39, 42, 43, 44]⟩, ⟨(some 87), (.lenx (.t 86)), (some (80, true)), 46, [0, 1, 2, 3, 4, 5, 6, 7, 8, 9, 10, 11, 12, 13, 14, 15, 16, 17, 18, 19, 20, 21, 22, 23, 24, 25, 26, 27, 28, 29, 30, 31, 32, 33, 34, 35, 36, 37, 38, 39, 42, 43, 44, 45]⟩, ⟨(some 82), (.call (.c (.fn (.func 18) [] [])) [(.t 81)]), (some (80, true)), 41, [0, 1, 2, 3, 4, 5, 6, 7, 8, 9, 10, 11, 12, 13, 14, 15, 16, 17, 18, 19, 20, 21, 22, 23, 24, 25, 26, 27, 28, 29, 30, 31, 32, 33, 34, 35, 36, 37, 38, 39, 40]⟩, ⟨(some 88), (.bin .eql (.t 82) (.t 87)), (some (80, true)), 47, [0, 1, 2, 3, 4, 5, 6, 7, 8, 9, 10, 11, 12, 13, 14, 15, 16, 17, 18, 19, 20, 21, 22, 23, 24, 25, 26, 27, 28, 29, 30, 31, 32, 33, 34, 35, 36, 37, 38, 39, 40, 41, 42, 43, 44, 45, 46]⟩, ⟨(some 89), (.pick (.t 80) (.t 88) (.c (.b false))), none, 48, [0, 1, 2, 3, 4, 5, 6, 7, 8, 9, 10, 11, 12, 13, 14, 15, 16, 17, 18, 19, 20, 21, 22, 23, 24, 25, 26, 27, 28, 29, 30, 31, 32, 33, 34, 35, 36, 37, 38, 39, 40, 41, 42, 43, 44, 45, 46, 47]⟩, ⟨(some 90), (.mv (.t 89)), none, 49, [0, 1, 2, 3, 4, 5, 6, 7, 8, 9, 10, 11, 12, 13, 14, 15, 16, 17, 18, 19, 20, 21, 22, 23, 24, 25, 26, 27, 28, 29, 30, 31, 32, 33, 34, 35, 36, 37, 38, 39, 40, 41, 42, 43, 44, 45, 46, 47, 48]⟩, ⟨(some 91), (.mv (.t 0)), (some (90, true)), 50, [0, 1, 2, 3, 4, 5, 6, 7, 8, 9, 10, 11, 12, 13, 14, 15, 16, 17, 18, 19, 20, 21, 22, 23, 24, 25, 26, 27, 28, 29, 30, 31, 32, 33, 34, 35, 36, 37, 38, 39, 40, 41, 42, 43, 44, 45, 46, 47, 48, 49]⟩, ⟨(some 93), (.mv (.t 1)), (some (90, true)), 52, [0, 1, 2, 3, 4, 5, 6, 7, 8, 9, 10, 11, 12, 13, 14, 15, 16, 17, 18, 19, 20, 21, 22, 23, 24, 25, 26, 27, 28, 29, 30, 31, 32, 33, 34, 35, 36, 37, 38, 39, 40, 41, 42, 43, 44, 45, 46, 47, 48, 49]⟩, ⟨(some 92), (.call (.c (.fn (.func 19) [] [])) [(.t 91)]), (some (90, true)), 51, [0, 1, 2, 3, 4, 5, 6, 7, 8, 9, 10, 11, 12, 13, 14, 15, 16, 17, 18, 19, 20, 21, 22, 23, 24, 25, 26, 27, 28, 29, 30, 31, 32, 33, 34, 35, 36, 37, 38, 39, 40, 41, 42, 43, 44, 45, 46, 47, 48, 49, 50]⟩, ⟨(some 94), (.call (.c (.fn (.func 57) [] [])) [(.t 93), (.c (.i .i64 1)), (.c (.i .i64 1))]), (some (90, true)), 53, [0, 1, 2, 3, 4, 5, 6, 7, 8, 9, 10, 11, 12, 13, 14, 15, 16, 17, 18, 19, 20, 21, 22, 23, 24, 25, 26, 27, 28, 29, 30, 31, 32, 33, 34, 35, 36, 37, 38, 39, 40, 41, 42, 43, 44, 45, 46, 47, 48, 49, 50, 51, 52]⟩, ⟨(some 95), (.bin .eql (.t 92) (.t 94)), (some (90, true)), 54, [0, 1, 2, 3, 4, 5, 6, 7, 8, 9, 10, 11, 12, 13, 14, 15, 16, 17, 18, 19, 20, 21, 22, 23, 24, 25, 26, 27, 28, 29, 30, 31, 32, 33, 34, 35, 36, 37, 38, 39, 40, 41, 42, 43, 44, 45, 46, 47, 48, 49, 50, 51, 52, 53]⟩, ⟨(some 96), (.pick (.t 90) (.t 95) (.c (.b false))), none, 55, [0, 1, 2, 3, 4, 5, 6, 7, 8, 9, 10, 11, 12, 13, 14, 15, 16, 17, 18, 19, 20, 21, 22, 23, 24, 25, 26, 27, 28, 29, 30, 31, 32, 33, 34, 35, 36, 37, 38, 39, 40, 41, 42, 43, 44, 45, 46, 47, 48, 49, 50, 51, 52, 53, 54]⟩, ⟨(some 97), (.mv (.t 96)), none, 56, [0, 1, 2, 3, 4, 5, 6, 7, 8, 9, 10, 11, 12, 13, 14, 15, 16, 17, 18, 19, 20, 21, 22, 23, 24, 25, 26, 27, 28, 29, 30, 31, 32, 33, 34, 35, 36, 37, 38, 39, 40, 41, 42, 43, 44, 45, 46, 47, 48, 49, 50, 51, 52, 53, 54, 55]⟩, ⟨(some 98), (.mv (.t 0)), (some (97, true)), 57, [0, 1, 2, 3, 4, 5, 6, 7, 8, 9, 10, 11, 12, 13, 14, 15, 16, 17, 18, 19, 20, 21, 22, 23, 24, 25, 26, 27, 28, 29, 30, 31, 32, 33, 34, 35, 36, 37, 38, 39, 40, 41, 42, 43, 44, 45, 46, 47, 48, 49, 50, 51, 52, 53, 54, 55, 56]⟩, ⟨(some 100), (.mv (.t 1)), (some (97, true)), 59, [0, 1, 2, 3, 4, 5, 6, 7, 8, 9, 10, 11, 12, 13, 14, 15, 16, 17, 18, 19, 20, 21, 22, 23, 24, 25, 26, 27, 28, 29, 30, 31, 32, 33, 34, 35, 36, 37, 38, 39, 40, 41, 42, 43, 44, 45, 46, 47, 48, 49, 50, 51, 52, 53, 54, 55, 56]⟩, ⟨(some 99), (.call (.c (.fn (.func 20) [] [])) [(.t 98)]), (some (97, true)), 58, [0, 1, 2, 3, 4, 5, 6, 7, 8, 9, 10, 11, 12, 13, 14, 15, 16, 17, 18, 19, 20, 21, 22, 23, 24, 25, 26, 27, 28, 29, 30, 31, 32, 33, 34, 35, 36, 37, 38, 39, 40, 41, 42, 43, 44, 45, 46, 47, 48, 49, 50, 51, 52, 53, 54, 55, 56, 57]⟩, ⟨(some 101), (.call (.c (.fn (.func 57) [] [])) [(.t 100), (.c (.i .i64 0)), (.c (.i .i64 2))]), (some (97, true)), 60, [0, 1, 2, 3, 4, 5, 6, 7, 8, 9, 10, 11, 12, 13, 14, 15, 16, 17, 18, 19, 20, 21, 22, 23, 24, 25, 26, 27, 28, 29, 30, 31, 32, 33, 34, 35, 36, 37, 38, 39, 40, 41, 42, 43, 44, 45, 46, 47, 48, 49, 50, 51, 52, 53, 54, 55, 56, 57, 58, 59]⟩, ⟨(some 102), (.bin .eql (.t 99) (.t 101)), (some (97, true)), 61, [0, 1, 2, 3, 4, 5, 6, 7, 8, 9, 10, 11, 12, 13, 14, 15, 16, 17, 18, 19, 20, 21, 22, 23, 24, 25, 26, 27, 28, 29, 30, 31, 32, 33, 34, 35, 36, 37, 38, 39, 40, 41, 42, 43, 44, 45, 46, 47, 48, 49, 50, 51, 52, 53, 54, 55, 56, 57, 58, 59, 60]⟩, ⟨(some 103), (.pick (.t 97) (.t 102) (.c (.b false))), none, 62, [0, 1, 2, 3, 4, 5, 6, 7, 8, 9, 10, 11, 12, 13, 14, 15, 16, 17, 18, 19, 20, 21, 22, 23, 24, 25, 26, 27, 28, 29, 30, 31, 32, 33, 34, 35, 36, 37, 38, 39, 40, 41, 42, 43, 44, 45, 46, 47, 48, 49, 50, 51, 52, 53, 54, 55, 56, 57, 58, 59, 60, 61]⟩, ⟨(some 6), (.mv (.t 103)), none, 63, [0, 1, 2, 3, 4, 5, 6, 7, 8, 9, 10, 11, 12, 13, 14, 15, 16, 17, 18, 19, 20, 21, 22, 23, 24, 25, 26, 27, 28, 29, 30, 31, 32, 33, 34, 35, 36, 37, 38, 39, 40, 41, 42, 43, 44, 45, 46, 47, 48, 49, 50, 51, 52, 53, 54, 55, 56, 57, 58, 59, 60, 61, 62]⟩])
  .ret))))))
def x30 : XFun := ⟨x30b, [(.t 6)]⟩
theorem x30_ok : compF Try.prog 30 = some x30 := by kernel_rfl
/-- (*bollard/sendq.Queue).Next (9) -/
def x31b : XC := (.seq (.region [po 2 (.mv (.c (.i .u32 0))) 0])
  (.seq (.seq (.region [pm 3 0 0, po 4 (.nilq 0 false (.t 3)) 1])
  (.cond (.t 4) (.seq (.region [po 2 (.mv (.c (.i .u32 0))) 0])
  .ret) .skip))
  (.seq (.region [pm 5 0 0, po 6 (.nilc (.t 5)) 1, po 7 (.fadd 1 (.t 6)) 2, po 8 (.load false 1 (.t 7)) 3, pm 2 8 4])
  .ret)))
def x31 : XFun := ⟨x31b, [(.t 2)]⟩
theorem x31_ok : compF Try.prog 31 = some x31 := by kernel_rfl
/-- slices.ContainsFunc[[]bollard/api.Chunk,bollard/api.Chunk] (9) -/
def x32b : XC := (.seq (.region [po 4 (.mv (.c (.b false))) 0])
  (.seq (.region [pm 5 0 0, pm 6 1 1, po 7 (.call (.c (.fn (.func 58) [] [])) [(.t 5), (.t 6)]) 2, po 8 (.bin .geq (.t 7) (.c (.i .i64 0))) 3, pm 4 8 4])
  .ret))
def x32 : XFun := ⟨x32b, [(.t 4)]⟩
theorem x32_ok : compF Try.prog 32 = some x32 := by kernel_rfl
/-- bollard/sendq.noData (12) -/
def x33b : XC := (.seq (.region [po 1 (.box (.t 0)) 0, po 2 (.mv (.c (.b false))) 1])
  (.seq (.region [po 3 (.fadd 0 (.t 1)) 0, po 4 (.load false 1 (.t 3)) 1, po 5 (.bin .neq (.t 4) (.c (.i .u8 0))) 2, pm 6 5 3, pg 7 (.fadd 11 (.t 1)) 6 false 4, pg 8 (.load false 1 (.t 7)) 6 false 5, pg 9 (.lenx (.t 8)) 6 false 6, pg 10 (.bin .eql (.t 9) (.c (.i .i64 0))) 6 false 7, po 11 (.pick (.t 6) (.c (.b true)) (.t 10)) 8, pm 2 11 9])
  .ret))
def x33 : XFun := ⟨x33b, [(.t 2)]⟩
theorem x33_ok : compF Try.prog 33 = some x33 := by kernel_rfl
/-- slices.Clone[[]byte,byte] (8) -/
def x34b : XC := (.seq (.region [po 2 (.mv (.c zAC )) 0])
  (.seq (.seq (.region [pm 3 0 0, po 4 (.nilq 1 false (.t 3)) 1])
  (.cond (.t 4) (.seq (.region [po 2 (.mv (.c zAC )) 0])
  .ret) .skip))
  (.seq (.region [po 5 (.bslice [] [] 0) 0, pm 6 0 1, po 7 (.append 1 1 (.t 5) (.t 6)) 2, pm 2 7 3])
  .ret)))
def x34 : XFun := ⟨x34b, [(.t 2)]⟩
theorem x34_ok : compF Try.prog 34 = some x34 := by kernel_rfl
/-- (*bollard/sendq.Queue).in (6) -/
def x35b : XC := (.seq (.region [po 2 (.box (.t 0)) 0, po 3 (.box (.t 1)) 1, po 4 (.mv (.c .nf)) 2])
  (.seq (.region [po 5 (.mkf (.func 59) [] [(.t 2), (.t 3)]) 0, pm 4 5 1])
  .ret))
def x35 : XFun := ⟨x35b, [(.t 4)]⟩
theorem x35_ok : compF Try.prog 35 = some x35 := by kernel_rfl
/-- (*bollard/sendq.entry).size (9) -/
def x36b : XC := (.seq (.region [po 2 (.mv (.c (.i .i64 0))) 0])
  (.seq (.region [pm 3 0 0, po 4 (.nilc (.t 3)) 1, po 5 (.fadd 0 (.t 4)) 2, po 6 (.fadd 11 (.t 5)) 3, po 7 (.load false 1 (.t 6)) 4, po 8 (.lenx (.t 7)) 5, pm 2 8 6])
  .ret))
def x36 : XFun := ⟨x36b, [(.t 2)]⟩
theorem x36_ok : compF Try.prog 36 = some x36 := by kernel_rfl
/-- (*bollard/sendq.Queue).reached (32) -/
def x37b : XC := (.seq (.region [po 4 (.mv (.c (.i .i64 0))) 0, po 5 (.mv (.c (.b false))) 1])
  (.seq (.region [pm 7 0 0, po 8 (.call (.c (.fn (.func 17) [] [])) [(.t 7)]) 1, pm 9 1 2, po 10 (.call (.c (.fn (.func 21) [] [])) [(.t 8), (.t 9)]) 3, po 11 (.cint .i64 (.t 10)) 4, pm 6 11 5])
  (.seq (.seq (.region [pm 12 0 0, po 13 (.nilq 0 false (.t 12)) 1, pm 14 13 2, pg 15 (.mv (.t 6)) 14 false 3, pg 16 (.mv (.t 0)) 14 false 4, pg 17 (.nilc (.t 16)) 14 false 5, pg 18 (.fadd 0 (.t 17)) 14 false 6, pg 19 (.load false 1 (.t 18)) 14 false 7, pg 20 (.lenx (.t 19)) 14 false 8, pg 21 (.bin .gtr (.t 15) (.t 20)) 14 false 9, po 22 (.pick (.t 14) (.c (.b true)) (.t 21)) 10])
  (.cond (.t 22) (.seq (.region [po 4 (.mv (.c (.i .i64 0))) 0, po 5 (.mv (.c (.b false))) 1])
  .ret) .skip))
  (.seq (.region [pm 23 6 0, pm 24 0 1, po 25 (.nilc (.t 24)) 2, po 26 (.fadd 0 (.t 25)) 3, po 27 (.load false 1 (.t 26)) 4, pm 28 6 5, po 29 (.slsl 1 (.t 27) none (some (.t 28)) none) 6, po 30 (.call (.c (.fn (.func 61) [] [])) [(.t 29), (.c (.fn (.func 62) [] []))]) 7, po 31 (.unx .not (.t 30)) 8, pm 4 23 9, pm 5 31 10])
  .ret))))
def x37 : XFun := ⟨x37b, [(.t 4), (.t 5)]⟩
theorem x37_ok : compF Try.prog 37 = some x37 := by kernel_rfl
/-- (*bollard/sendq.Queue).drop (66) -/
def x38b : XC := (.seq (.region [po 6 (.alloc zAD ) 0])
  (.seq (.region [pm 10 1 0, po 11 (.bin .gtr (.t 10) (.c (.i .i64 0))) 1, ⟨(some 12), (.build zAD  [(1, 1, (.c (.i .i64 (-1)))), (3, 1, (.t 11))]), none, 2, []⟩, po 7 (.alloc zAD ) 3, ⟨none, (.store 4 (.t 7) (.t 12)), none, 4, []⟩])
  (.seq (.seq (.region [pm 13 0 0, po 14 (.nilc (.t 13)) 1, po 15 (.fadd 0 (.t 14)) 2, po 16 (.load false 1 (.t 15)) 3, pm 17 1 4, po 18 (.slsl 1 (.t 16) none (some (.t 17)) none) 5, po 19 (.lenx (.t 18)) 6, po 20 (.mv (.c (.i .i64 0))) 7])
  (.block 0 (.loop (.seq (.region [po 21 (.bin .lss (.t 20) (.t 19)) 0])
  (.seq (.cond (.t 21) .skip (.exit 0))
  (.seq (.block 1 (.seq (.region [po 22 (.isl 1 (.t 18) (.t 20)) 0, po 23 (.load false 1 (.t 22)) 1, pm 9 23 2])
  (.seq (.seq (.region [pm 24 9 0, po 25 (.nilc (.t 24)) 1, po 26 (.fadd 13 (.t 25)) 2, po 27 (.load false 1 (.t 26)) 3, po 28 (.bin .eql (.t 27) (.c (.i .i64 3))) 4, pm 29 28 5, pg 30 (.mv (.t 9)) 29 false 6, pg 31 (.nilc (.t 30)) 29 false 7, pg 32 (.fadd 13 (.t 31)) 29 false 8, pg 33 (.load false 1 (.t 32)) 29 false 9, pg 34 (.bin .eql (.t 33) (.c (.i .i64 4))) 29 false 10, po 35 (.pick (.t 29) (.c (.b true)) (.t 34)) 11])
  (.cond (.t 35) (.exit 1) .skip))
  (.seq (.draw [po 36 (.fadd 0 (.t 7)) 0, pm 38 9 2, ⟨(some 37), (.load false 1 (.t 36)), none, 1, [0]⟩, ⟨(some 39), (.call (.c (.fn (.func 36) [] [])) [(.t 38)]), none, 3, [2]⟩, ⟨(some 40), (.bin .add (.t 37) (.t 39)), none, 4, [0, 1, 2, 3]⟩, ⟨(some 41), (.fadd 0 (.t 7)), none, 5, [0, 1, 2, 3, 4]⟩, ⟨none, (.store 1 (.t 41) (.t 40)), none, 6, [0, 1, 2, 3, 4, 5]⟩])
  (.seq (.region [pm 42 9 0, po 43 (.nilc (.t 42)) 1, po 44 (.fadd 14 (.t 43)) 2, po 45 (.load false 1 (.t 44)) 3, po 46 (.bin .eql (.t 45) (.c (.i .i64 1))) 4])
  (.cond (.t 46) (.region [pm 47 2 0, pm 48 9 1, po 49 (.nilc (.t 48)) 2, po 50 (.fadd 15 (.t 49)) 3, po 51 (.load false 1 (.t 50)) 4, po 52 (.bin .sub (.t 47) (.t 51)) 5, po 53 (.fadd 1 (.t 7)) 6, ⟨none, (.store 1 (.t 53) (.t 52)), none, 7, []⟩]) .skip))))))
  (.region [po 54 (.bin .add (.t 20) (.c (.i .i64 1))) 0, pm 20 54 1])))))))
  (.seq (.region [pm 55 0 0, pm 56 0 1, po 57 (.nilc (.t 56)) 2, po 58 (.fadd 0 (.t 57)) 3, po 59 (.load false 1 (.t 58)) 4, pm 60 1 5, po 61 (.slsl 1 (.t 59) (some (.t 60)) none none) 6, po 62 (.call (.c (.fn (.func 63) [] [])) [(.t 61)]) 7, po 63 (.nilc (.t 55)) 8, po 64 (.fadd 0 (.t 63)) 9, ⟨none, (.store 1 (.t 64) (.t 62)), none, 10, []⟩])
  (.seq (.region [po 65 (.load true 4 (.t 7)) 0, ⟨none, (.store 4 (.t 6) (.t 65)), none, 1, []⟩])
  .ret)))))
def x38 : XFun := ⟨x38b, [(.cell 6 true 4)]⟩
theorem x38_ok : compF Try.prog 38 = some x38 := by kernel_rfl
/-- (*bollard/sendq.Queue).mark (68) -/
def x39b : XC := (.seq (.region [po 4 (.mv (.c (.i .i64 0))) 0, po 5 (.mv (.c (.i .i64 0))) 1])
  (.seq (.region [po 6 (.mv (.c (.i .i64 0))) 0, po 7 (.mv (.c (.i .i64 0))) 1])
  (.seq (.seq (.region [pm 11 0 0, po 12 (.nilc (.t 11)) 1, po 13 (.fadd 0 (.t 12)) 2, po 14 (.load false 1 (.t 13)) 3, po 15 (.lenx (.t 14)) 4, po 16 (.mv (.c (.i .i64 0))) 5])
  (.block 0 (.loop (.seq (.region [po 17 (.bin .lss (.t 16) (.t 15)) 0])
  (.seq (.cond (.t 17) .skip (.exit 0))
  (.seq (.block 1 (.seq (.region [pm 18 16 0, po 19 (.isl 1 (.t 14) (.t 16)) 1, po 20 (.load false 1 (.t 19)) 2, pm 8 18 3, pm 9 20 4])
  (.seq (.region [pm 21 1 0, pm 22 8 1, po 23 (.bin .add (.t 22) (.c (.i .i64 1))) 2, po 24 (.call (.c (.fn (.func 64) [] [])) [(.t 21), (.t 23)]) 3, pm 10 24 4])
  (.block 2 (.seq (.region [pm 26 10 0, pm 27 26 1, pg 28 (.mv (.t 9)) 27 true 2, pg 29 (.nilc (.t 28)) 27 true 3, pg 30 (.fadd 13 (.t 29)) 27 true 4, pg 31 (.load false 1 (.t 30)) 27 true 5, pg 32 (.bin .eql (.t 31) (.c (.i .i64 1))) 27 true 6, pg 33 (.mv (.t 32)) 27 true 7, pg 34 (.mv (.t 9)) 33 false 8, pg 35 (.nilc (.t 34)) 33 false 9, pg 36 (.fadd 13 (.t 35)) 33 false 10, pg 37 (.load false 1 (.t 36)) 33 false 11, pg 38 (.bin .eql (.t 37) (.c (.i .i64 2))) 33 false 12, pg 39 (.pick (.t 33) (.c (.b true)) (.t 38)) 27 true 13, po 40 (.pick (.t 27) (.t 39) (.c (.b false))) 14, pm 25 40 15])
  (.cond (.t 25) (.seq (.region [pm 41 9 0, po 42 (.nilc (.t 41)) 1, po 43 (.fadd 13 (.t 42)) 2, ⟨none, (.store 1 (.t 43) (.c (.i .i64 3))), none, 3, []⟩])
  (.seq (.region [pm 44 6 0, pm 45 9 1, po 46 (.call (.c (.fn (.func 36) [] [])) [(.t 45)]) 2, po 47 (.bin .add (.t 44) (.t 46)) 3, pm 6 47 4])
  (.region [pm 48 8 0, pm 7 48 1]))) (.seq (.region [pm 50 10 0, po 51 (.unx .not (.t 50)) 1, pm 52 51 2, pg 53 (.mv (.t 9)) 52 true 3, pg 54 (.nilc (.t 53)) 52 true 4, pg 55 (.fadd 13 (.t 54)) 52 true 5, pg 56 (.load false 1 (.t 55)) 52 true 6, pg 57 (.bin .eql (.t 56) (.c (.i .i64 3))) 52 true 7, po 58 (.pick (.t 52) (.t 57) (.c (.b false))) 8, pm 49 58 9])
  (.cond (.t 49) (.region [pm 59 9 0, pm 60 9 1, po 61 (.nilc (.t 59)) 2, po 62 (.fadd 13 (.t 61)) 3, ⟨none, (.store 1 (.t 62) (.c (.i .i64 1))), none, 4, []⟩, po 63 (.nilc (.t 60)) 5, po 64 (.fadd 16 (.t 63)) 6, ⟨none, (.store 1 (.t 64) (.c (.i .i64 0))), none, 7, []⟩]) .skip))))))))
  (.region [po 65 (.bin .add (.t 16) (.c (.i .i64 1))) 0, pm 16 65 1])))))))
  (.seq (.region [pm 66 6 0, pm 67 7 1, pm 4 66 2, pm 5 67 3])
  .ret))))
def x39 : XFun := ⟨x39b, [(.t 4), (.t 5)]⟩
theorem x39_ok : compF Try.prog 39 = some x39 := by kernel_rfl
/-- bollard/sendq.miss (34) -/
def x40b : XC := (.seq (.region [po 2 (.mv (.c (.b false))) 0])
  (.seq (.region [po 3 (.mv (.c (.b false))) 0])
  (.seq (.seq (.region [pm 6 0 0, po 7 (.lenx (.t 6)) 1, po 8 (.mv (.c (.i .i64 0))) 2])
  (.block 0 (.loop (.seq (.region [po 9 (.bin .lss (.t 8) (.t 7)) 0])
  (.seq (.cond (.t 9) .skip (.exit 0))
  (.seq (.block 1 (.seq (.region [po 10 (.isl 1 (.t 6) (.t 8)) 0, po 11 (.load false 1 (.t 10)) 1, pm 5 11 2])
  (.seq (.seq (.region [pm 12 5 0, po 13 (.nilc (.t 12)) 1, po 14 (.fadd 13 (.t 13)) 2, po 15 (.load false 1 (.t 14)) 3, po 16 (.bin .neq (.t 15) (.c (.i .i64 1))) 4])
  (.cond (.t 16) (.exit 1) .skip))
  (.seq (.region [pm 17 5 0, po 18 (.nilc (.t 17)) 1, po 19 (.fadd 16 (.t 18)) 2, po 20 (.load false 1 (.t 19)) 3, po 21 (.bin .add (.t 20) (.c (.i .i64 1))) 4, po 22 (.nilc (.t 17)) 5, po 23 (.fadd 16 (.t 22)) 6, ⟨none, (.store 1 (.t 23) (.t 21)), none, 7, []⟩])
  (.seq (.region [pm 24 5 0, po 25 (.nilc (.t 24)) 1, po 26 (.fadd 16 (.t 25)) 2, po 27 (.load false 1 (.t 26)) 3, po 28 (.bin .geq (.t 27) (.c (.i .i64 3))) 4])
  (.cond (.t 28) (.seq (.region [pm 29 5 0, po 30 (.nilc (.t 29)) 1, po 31 (.fadd 13 (.t 30)) 2, ⟨none, (.store 1 (.t 31) (.c (.i .i64 2))), none, 3, []⟩])
  (.region [po 3 (.mv (.c (.b true))) 0])) .skip))))))
  (.region [po 32 (.bin .add (.t 8) (.c (.i .i64 1))) 0, pm 8 32 1])))))))
  (.seq (.region [pm 33 3 0, pm 2 33 1])
  .ret))))
def x40 : XFun := ⟨x40b, [(.t 2)]⟩
theorem x40_ok : compF Try.prog 40 = some x40 := by kernel_rfl
/-- (*bollard/sendq.Queue).octets (9) -/
def x41b : XC := (.seq (.region [po 4 (.mv (.c (.i .i64 0))) 0])
  (.seq (.region [pm 5 0 0, pm 6 1 1, po 7 (.call (.c (.fn (.func 35) [] [])) [(.t 5), (.t 6)]) 2, po 8 (.call (.c (.fn (.func 65) [] [])) [(.t 7), (.c (.fn (.func 36) [] []))]) 3, pm 4 8 4])
  .ret))
def x41 : XFun := ⟨x41b, [(.t 4)]⟩
theorem x41_ok : compF Try.prog 41 = some x41 := by kernel_rfl
/-- (*bollard/sendq.entry).over (59) -/
def x43b : XC := (.seq (.region [po 4 (.mv (.c (.b false))) 0])
  (.seq (.region [pm 7 0 0, po 8 (.nilc (.t 7)) 1, po 9 (.fadd 12 (.t 8)) 2, po 10 (.load false 1 (.t 9)) 3, po 11 (.nilc (.t 10)) 4, po 12 (.fadd 0 (.t 11)) 5, po 13 (.load false 1 (.t 12)) 6, po 14 (.bin .geq (.t 13) (.c (.i .i64 0))) 7, pm 15 14 8, pg 16 (.mv (.t 0)) 15 true 9, pg 17 (.nilc (.t 16)) 15 true 10, pg 18 (.fadd 12 (.t 17)) 15 true 11, pg 19 (.load false 1 (.t 18)) 15 true 12, pg 20 (.nilc (.t 19)) 15 true 13, pg 21 (.fadd 0 (.t 20)) 15 true 14, pg 22 (.load false 1 (.t 21)) 15 true 15, pg 23 (.mv (.t 1)) 15 true 16, pg 24 (.bin .lss (.t 22) (.t 23)) 15 true 17, po 25 (.pick (.t 15) (.t 24) (.c (.b false))) 18, pm 5 25 19])
  (.seq (.draw [pm 26 0 0, ⟨(some 27), (.nilc (.t 26)), none, 1, [0]⟩, ⟨(some 28), (.fadd 12 (.t 27)), none, 2, [0, 1]⟩, ⟨(some 29), (.load false 1 (.t 28)), none, 3, [0, 1, 2]⟩, ⟨(some 30), (.nilc (.t 29)), none, 4, [0, 1, 2, 3]⟩, ⟨(some 31), (.fadd 1 (.t 30)), none, 5, [0, 1, 2, 3, 4]⟩, ⟨(some 32), (.load false 1 (.t 31)), none, 6, [0, 1, 2, 3, 4, 5]⟩, ⟨(some 33), (.bin .geq (.t 32) (.c (.i .i64 0))), none, 7, [0, 1, 2, 3, 4, 5, 6]⟩, ⟨(some 34), (.mv (.t 33)), none, 8, [0, 1, 2, 3, 4, 5, 6, 7]⟩, ⟨(some 35), (.mv (.t 0)), (some (34, true)), 9, [0, 1, 2, 3, 4, 5, 6, 7, 8]⟩, ⟨(some 36), (.nilc (.t 35)), (some (34, true)), 10, [0, 1, 2, 3, 4, 5, 6, 7, 8, 9]⟩, ⟨(some 37), (.fadd 13 (.t 36)), (some (34, true)), 11, [0, 1, 2, 3, 4, 5, 6, 7, 8, 9, 10]⟩, ⟨(some 38), (.load false 1 (.t 37)), (some (34, true)), 12, [0, 1, 2, 3, 4, 5, 6, 7, 8, 9, 10, 11]⟩, ⟨(some 39), (.bin .eql (.t 38) (.c (.i .i64 2))), (some (34, true)), 13, [0, 1, 2, 3, 4, 5, 6, 7, 8, 9, 10, 11, 12]⟩, ⟨(some 40), (.pick (.t 34) (.t 39) (.c (.b false))), none, 14, [0, 1, 2, 3, 4, 5, 6, 7, 8, 9, 10, 11, 12, 13]⟩, ⟨(some 41), (.mv (.t 40)), none, 15, [0, 1, 2, 3, 4, 5, 6, 7, 8, 9, 10, 11, 12, 13, 14]⟩, ⟨(some 42), (.mv (.t 0)), (some (41, true)), 16, [0, 1, 2, 3, 4, 5, 6, 7, 8, 9, 10, 11, 12, 13, 14, 15]⟩, ⟨(some 43), (.nilc (.t 42)), (some (41, true)), 17, [0, 1, 2, 3, 4, 5, 6, 7, 8, 9, 10, 11, 12, 13, 14, 15, 16]⟩, ⟨(some 44), (.fadd 14 (.t 43)), (some (41, true)), 18, [0, 1, 2, 3, 4, 5, 6, 7, 8, 9, 10, 11, 12, 13, 14, 15, 16, 17]⟩, ⟨(some 46), (.mv (.t 0)), (some (41, true)), 20, [0, 1, 2, 3, 4, 5, 6, 7, 8, 9, 10, 11, 12, 13, 14, 15]⟩, ⟨(some 47), (.nilc (.t 46)), (some (41, true)), 21, [0, 1, 2, 3, 4, 5, 6, 7, 8, 9, 10, 11, 12, 13, 14, 15, 20]⟩, ⟨(some 48), (.fadd 12 (.t 47)), (some (41, true)), 22, [0, 1, 2, 3, 4, 5, 6, 7, 8, 9, 10, 11, 12, 13, 14, 15, 20, 21]⟩, ⟨(some 45), (.load false 1 (.t 44)), (some (41, true)), 19, [0, 1, 2, 3, 4, 5, 6, 7, 8, 9, 10, 11, 12, 13, 14, 15, 16, 17, 18]⟩, ⟨(some 49), (.load false 1 (.t 48)), (some (41, true)), 23, [0, 1, 2, 3, 4, 5, 6, 7, 8, 9, 10, 11, 12, 13, 14, 15, 20, 21, 22]⟩, ⟨(some 50), (.nilc (.t 49)), (some (41, true)), 24, [0, 1, 2, 3, 4, 5, 6, 7, 8, 9, 10, 11, 12, 13, 14, 15, 20, 21, 22, 23]⟩, ⟨(some 51), (.fadd 1 (.t 50)), (some (41, true)), 25, [0, 1, 2, 3, 4, 5, 6, 7, 8, 9, 10, 11, 12, 13, 14, 15, 20, 21, 22, 23, 24]⟩, ⟨(some 52), (.load false 1 (.t 51)), (some (41, true)), 26, [0, 1, 2, 3, 4, 5, 6, 7, 8, 9, 10, 11, 12, 13, 14, 15, 20, 21, 22, 23, 24, 25]⟩, ⟨(some 53), (.bin .gtr (.t 45) (.t 52)), (some (41, true)), 27, [0, 1, 2, 3, 4, 5, 6, 7, 8, 9, 10, 11, 12, 13, 14, 15, 16, 17, 18, 19, 20, 21, 22, 23, 24, 25, 26]⟩, ⟨(some 54), (.pick (.t 41) (.t 53) (.c (.b false))), none, 28, [0, 1, 2, 3, 4, 5, 6, 7, 8, 9, 10, 11, 12, 13, 14, 15, 16, 17, 18, 19, 20, 21, 22, 23, 24, 25, 26, 27]⟩, ⟨(some 6), (.mv (.t 54)), none, 29, [0, 1, 2, 3, 4, 5, 6, 7, 8, 9, 10, 11, 12, 13, 14, 15, 16, 17, 18, 19, 20, 21, 22, 23, 24, 25, 26, 27, 28]⟩])
  (.seq (.region [pm 55 5 0, pm 56 55 1, pg 57 (.mv (.t 6)) 56 false 2, po 58 (.pick (.t 56) (.c (.b true)) (.t 57)) 3, pm 4 58 4])
  .ret))))
def x43 : XFun := ⟨x43b, [(.t 4)]⟩
theorem x43_ok : compF Try.prog 43 = some x43 := by kernel_rfl
/-- (*bollard/sendq.Queue).done (23) -/
def x44b : XC := (.seq (.region [po 2 (.mv (.c zAC )) 0])
  (.seq (.seq (.region [pm 4 0 0, po 5 (.nilq 0 false (.t 4)) 1])
  (.cond (.t 5) (.seq (.region [po 2 (.mv (.c zAC )) 0])
  .ret) .skip))
  (.seq (.region [pm 6 0 0, po 7 (.nilc (.t 6)) 1, po 8 (.fadd 0 (.t 7)) 2, po 9 (.load false 1 (.t 8)) 3, po 10 (.call (.c (.fn (.func 66) [] [])) [(.t 9), (.c (.fn (.func 67) [] []))]) 4, pm 3 10 5])
  (.seq (.seq (.region [pm 11 3 0, po 12 (.bin .lss (.t 11) (.c (.i .i64 0))) 1])
  (.cond (.t 12) (.seq (.region [pm 13 0 0, po 14 (.nilc (.t 13)) 1, po 15 (.fadd 0 (.t 14)) 2, po 16 (.load false 1 (.t 15)) 3, pm 2 16 4])
  .ret) .skip))
  (.seq (.region [pm 17 0 0, po 18 (.nilc (.t 17)) 1, po 19 (.fadd 0 (.t 18)) 2, po 20 (.load false 1 (.t 19)) 3, pm 21 3 4, po 22 (.slsl 1 (.t 20) none (some (.t 21)) none) 5, pm 2 22 6])
  .ret)))))
def x44 : XFun := ⟨x44b, [(.t 2)]⟩
theorem x44_ok : compF Try.prog 44 = some x44 := by kernel_rfl
/-- slices.IndexFunc[[]bollard/api.Skip,bollard/api.Skip] (19) -/
def x45b : XC := (.seq (.region [po 4 (.mv (.c (.i .i64 0))) 0])
  (.seq (.seq (.region [pm 6 0 0, po 7 (.lenx (.t 6)) 1, po 8 (.mv (.c (.i .i64 0))) 2])
  (.block 0 (.loop (.seq (.region [po 9 (.bin .lss (.t 8) (.t 7)) 0])
  (.seq (.cond (.t 9) .skip (.exit 0))
  (.seq (.block 1 (.seq (.region [pm 10 8 0, pm 5 10 1])
  (.seq (.region [pm 11 1 0, pm 12 0 1, pm 13 5 2, po 14 (.isl 2 (.t 12) (.t 13)) 3, po 15 (.load true 2 (.t 14)) 4, po 16 (.call (.t 11) [(.t 15)]) 5])
  (.cond (.t 16) (.seq (.region [pm 17 5 0, pm 4 17 1])
  .ret) .skip))))
  (.region [po 18 (.bin .add (.t 8) (.c (.i .i64 1))) 0, pm 8 18 1])))))))
  (.seq (.region [po 4 (.mv (.c (.i .i64 (-1)))) 0])
  .ret)))
def x45 : XFun := ⟨x45b, [(.t 4)]⟩
theorem x45_ok : compF Try.prog 45 = some x45 := by kernel_rfl
/-- (*bollard/sendq.Queue).Forward$1 (9) -/
def x46b : XC := (.seq (.region [po 2 (.box (.t 0)) 0, po 3 (.mv (.c (.b false))) 1])
  (.seq (.region [po 4 (.fadd 0 (.t 2)) 0, po 5 (.load false 1 (.t 4)) 1, po 6 (.fadd 0 (.t 1)) 2, po 7 (.load false 1 (.t 6)) 3, po 8 (.bin .eql (.t 5) (.t 7)) 4, pm 3 8 5])
  .ret))
def x46 : XFun := ⟨x46b, [(.t 3)]⟩
theorem x46_ok : compF Try.prog 46 = some x46 := by kernel_rfl
/-- (*bollard/bollardref15.Queue).Push (91) -/
def x47b : XC := (.seq (.region [po 8 (.mv (.c (.i .i64 0))) 0])
  (.seq (.seq (.region [pm 12 1 0, po 13 (.lenx (.t 12)) 1, po 14 (.bin .eql (.t 13) (.c (.i .i64 0))) 2])
  (.cond (.t 14) (.seq (.region [po 8 (.mv (.c (.i .i64 1))) 0])
  .ret) .skip))
  (.seq (.seq (.region [po 9 (.mv (.c (.i .i64 0))) 0])
  (.block 0 (.loop (.seq (.seq (.region [pm 15 9 0, pm 16 1 1, po 17 (.lenx (.t 16)) 2, po 18 (.bin .lss (.t 15) (.t 17)) 3])
  (.cond (.t 18) .skip (.exit 0)))
  (.seq (.block 1 (.seq (.region [pm 21 1 0, pm 22 9 1, po 23 (.isl 12 (.t 21) (.t 22)) 2, po 24 (.fadd 0 (.t 23)) 3, po 25 (.load false 1 (.t 24)) 4, po 26 (.bin .neq (.t 25) (.c (.i .u8 0))) 5, pm 27 26 6, pg 28 (.mv (.t 1)) 27 false 7, pg 29 (.mv (.t 9)) 27 false 8, pg 30 (.isl 12 (.t 28) (.t 29)) 27 false 9, pg 31 (.fadd 11 (.t 30)) 27 false 10, pg 32 (.load false 1 (.t 31)) 27 false 11, pg 33 (.lenx (.t 32)) 27 false 12, pg 34 (.bin .eql (.t 33) (.c (.i .i64 0))) 27 false 13, po 35 (.pick (.t 27) (.c (.b true)) (.t 34)) 14])
  (.cond (.t 35) (.seq (.region [po 8 (.mv (.c (.i .i64 1))) 0])
  .ret) .skip)))
  (.region [pm 19 9 0, po 20 (.bin .add (.t 19) (.c (.i .i64 1))) 1, pm 9 20 2]))))))
  (.seq (.seq (.region [pm 36 0 0, po 37 (.nilc (.t 36)) 1, po 38 (.fadd 0 (.t 37)) 2, po 39 (.load false 1 (.t 38)) 3, po 40 (.lenx (.t 39)) 4, pm 41 1 5, po 42 (.lenx (.t 41)) 6, po 43 (.bin .add (.t 40) (.t 42)) 7, po 44 (.bin .gtr (.t 43) (.c (.i .i64 1024))) 8])
  (.cond (.t 44) (.seq (.region [po 8 (.mv (.c (.i .i64 9))) 0])
  .ret) .skip))
  (.seq (.seq (.region [po 10 (.mv (.c (.i .i64 0))) 0])
  (.block 2 (.loop (.seq (.seq (.region [pm 45 10 0, pm 46 1 1, po 47 (.lenx (.t 46)) 2, po 48 (.bin .lss (.t 45) (.t 47)) 3])
  (.cond (.t 48) .skip (.exit 2)))
  (.seq (.block 3 (.seq (.region [pm 51 1 0, pm 52 10 1, po 53 (.isl 12 (.t 51) (.t 52)) 2, po 54 (.load true 12 (.t 53)) 3, po 11 (.alloc zAA ) 4, ⟨none, (.store 12 (.t 11) (.t 54)), none, 5, []⟩])
  (.seq (.region [pm 55 0 0, po 56 (.nilc (.t 55)) 1, po 57 (.fadd 1 (.t 56)) 2, po 58 (.load false 1 (.t 57)) 3, po 59 (.fadd 2 (.t 11)) 4, ⟨none, (.store 1 (.t 59) (.t 58)), none, 5, []⟩])
  (.seq (.region [pm 60 0 0, po 61 (.nilc (.t 60)) 1, po 62 (.fadd 1 (.t 61)) 2, po 63 (.load false 1 (.t 62)) 3, po 64 (.bin .add (.t 63) (.c (.i .u32 1))) 4, po 65 (.nilc (.t 60)) 5, po 66 (.fadd 1 (.t 65)) 6, ⟨none, (.store 1 (.t 66) (.t 64)), none, 7, []⟩])
  (.draw [pm 67 0 0, pm 68 0 1, ⟨(some 69), (.nilc (.t 68)), none, 2, [1]⟩, ⟨(some 70), (.fadd 0 (.t 69)), none, 3, [1, 2]⟩, pm 73 0 6, ⟨(some 74), (.nilc (.t 73)), none, 7, [6]⟩, ⟨(some 75), (.fadd 2 (.t 74)), none, 8, [6, 7]⟩, pm 77 2 10, pm 78 3 11, ⟨(some 71), (.load false 1 (.t 70)), none, 4, [1, 2, 3]⟩, po 72 (.load true 12 (.t 11)) 5, ⟨(some 76), (.load false 1 (.t 75)), none, 9, [6, 7, 8]⟩, ⟨(some 79), (.build zAB  [(0, 12, (.t 72)), (12, 1, (.t 76)), (17, 1, (.t 77)), (18, 1, (.t 78))]), none, 12, [5, 6, 7, 8, 9, 10, 11]⟩, ⟨(some 80), (.bslice zAB  [(0, 19, (.t 79))] 1), none, 13, [5, 6, 7, 8, 9, 10, 11, 12]⟩, ⟨(some 81), (.append 19 200 (.t 71) (.t 80)), none, 14, [1, 2, 3, 4, 5, 6, 7, 8, 9, 10, 11, 12, 13]⟩, ⟨(some 82), (.nilc (.t 67)), none, 15, [0, 1, 2, 3, 4, 5, 6, 7, 8, 9, 10, 11, 12, 13, 14]⟩, ⟨(some 83), (.fadd 0 (.t 82)), none, 16, [0, 1, 2, 3, 4, 5, 6, 7, 8, 9, 10, 11, 12, 13, 14, 15]⟩, ⟨none, (.store 1 (.t 83) (.t 81)), none, 17, [0, 1, 2, 3, 4, 5, 6, 7, 8, 9, 10, 11, 12, 13, 14, 15, 16]⟩])))))
  (.region [pm 49 10 0, po 50 (.bin .add (.t 49) (.c (.i .i64 1))) 1, pm 10 50 2]))))))
  (.seq (.region [pm 84 0 0, po 85 (.nilc (.t 84)) 1, po 86 (.fadd 2 (.t 85)) 2, po 87 (.load false 1 (.t 86)) 3, po 88 (.bin .add (.t 87) (.c (.i .i64 1))) 4, po 89 (.nilc (.t 84)) 5, po 90 (.fadd 2 (.t 89)) 6, ⟨none, (.store 1 (.t 90) (.t 88)), none, 7, []⟩])
  (.seq (.region [po 8 (.mv (.c (.i .i64 0))) 0])
  .ret)))))))
def x47 : XFun := ⟨x47b, [(.t 8)]⟩
theorem x47_ok : compF Try.prog 47 = some x47 := by kernel_rfl
/-- bollard/bollardref08.SameChunks (27) -/
def x48b : XC := (.seq (.region [po 4 (.mv (.c (.b false))) 0])
  (.seq (.seq (.region [pm 6 0 0, po 7 (.lenx (.t 6)) 1, pm 8 1 2, po 9 (.lenx (.t 8)) 3, po 10 (.bin .neq (.t 7) (.t 9)) 4])
  (.cond (.t 10) (.seq (.region [po 4 (.mv (.c (.b false))) 0])
  .ret) .skip))
  (.seq (.seq (.region [po 5 (.mv (.c (.i .i64 0))) 0])
  (.block 0 (.loop (.seq (.seq (.region [pm 11 5 0, pm 12 0 1, po 13 (.lenx (.t 12)) 2, po 14 (.bin .lss (.t 11) (.t 13)) 3])
  (.cond (.t 14) .skip (.exit 0)))
  (.seq (.block 1 (.seq (.draw [pm 17 0 0, pm 18 5 1, ⟨(some 19), (.isl 12 (.t 17) (.t 18)), none, 2, [0, 1]⟩, pm 21 1 4, pm 22 5 5, ⟨(some 23), (.isl 12 (.t 21) (.t 22)), none, 6, [4, 5]⟩, ⟨(some 20), (.load true 12 (.t 19)), none, 3, [0, 1, 2]⟩, ⟨(some 24), (.load true 12 (.t 23)), none, 7, [4, 5, 6]⟩, ⟨(some 25), (.call (.c (.fn (.func 68) [] [])) [(.t 20), (.t 24)]), none, 8, [0, 1, 2, 3, 4, 5, 6, 7]⟩, ⟨(some 26), (.unx .not (.t 25)), none, 9, [0, 1, 2, 3, 4, 5, 6, 7, 8]⟩])
  (.cond (.t 26) (.seq (.region [po 4 (.mv (.c (.b false))) 0])
  .ret) .skip)))
  (.region [pm 15 5 0, po 16 (.bin .add (.t 15) (.c (.i .i64 1))) 1, pm 5 16 2]))))))
  (.seq (.region [po 4 (.mv (.c (.b true))) 0])
  .ret))))
def x48 : XFun := ⟨x48b, [(.t 4)]⟩
theorem x48_ok : compF Try.prog 48 = some x48 := by kernel_rfl
/-- (*bollard/bollardref15.Queue).Take (28) -/
def x49b : XC := (.seq (.region [po 6 (.mv (.c zAC )) 0])
  (.seq (.region [pm 10 0 0, pm 11 1 1, pm 12 2 2, po 13 (.call (.c (.fn (.func 69) [] [])) [(.t 10), (.c zAC ), (.c (.i .i64 2)), (.t 11), (.t 12)]) 3, pm 9 13 4, po 14 (.ext (.t 9) 0) 5, po 15 (.ext (.t 9) 1) 6, po 16 (.ext (.t 9) 2) 7, pm 7 14 8, pm 2 15 9, pm 8 16 10])
  (.seq (.seq (.region [pm 17 8 0])
  (.cond (.t 17) (.region [pm 19 0 0, pm 20 7 1, pm 21 1 2, pm 22 2 3, po 23 (.call (.c (.fn (.func 69) [] [])) [(.t 19), (.t 20), (.c (.i .i64 0)), (.t 21), (.t 22)]) 4, pm 18 23 5, po 24 (.ext (.t 18) 0) 6, po 25 (.ext (.t 18) 1) 7, po 26 (.ext (.t 18) 2) 8, pm 7 24 9]) .skip))
  (.seq (.region [pm 27 7 0, pm 6 27 1])
  .ret))))
def x49 : XFun := ⟨x49b, [(.t 6)]⟩
theorem x49_ok : compF Try.prog 49 = some x49 := by kernel_rfl
/-- (*bollard/bollardref15.Queue).Ack (219) -/
def x50b : XC := (.seq (.region [po 8 (.mv (.c (.i .i64 0))) 0, po 9 (.mv (.c (.i .i64 0))) 1, po 10 (.mv (.c (.b false))) 2, po 11 (.mv (.c (.b false))) 3, po 12 (.mv (.c (.b false))) 4])
  (.seq (.region [pm 27 0 0, pm 28 1 1, po 29 (.call (.c (.fn (.func 70) [] [])) [(.t 27), (.t 28)]) 2, pm 26 29 3, po 30 (.ext (.t 26) 0) 4, po 31 (.ext (.t 26) 1) 5, pm 13 30 6, pm 14 31 7])
  (.seq (.seq (.region [pm 32 14 0, po 33 (.unx .not (.t 32)) 1])
  (.cond (.t 33) (.seq (.region [po 8 (.mv (.c (.i .i64 0))) 0, po 9 (.mv (.c (.i .i64 0))) 1, po 10 (.mv (.c (.b false))) 2, po 11 (.mv (.c (.b false))) 3, po 12 (.mv (.c (.b false))) 4])
  .ret) .skip))
  (.seq (.region [po 15 (.mv (.c (.i .i64 0))) 0])
  (.seq (.region [po 16 (.mv (.c (.i .i64 (-1)))) 0])
  (.seq (.seq (.region [po 17 (.mv (.c (.i .i64 0))) 0])
  (.block 0 (.loop (.seq (.seq (.region [pm 34 17 0, pm 35 13 1, po 36 (.bin .lss (.t 34) (.t 35)) 2])
  (.cond (.t 36) .skip (.exit 0)))
  (.seq (.block 1 (.seq (.region [pm 39 0 0, po 40 (.nilc (.t 39)) 1, po 41 (.fadd 0 (.t 40)) 2, po 42 (.load false 1 (.t 41)) 3, pm 43 17 4, po 44 (.isl 19 (.t 42) (.t 43)) 5, po 45 (.load true 19 (.t 44)) 6, po 18 (.alloc zAB ) 7, ⟨none, (.store 19 (.t 18) (.t 45)), none, 8, []⟩])
  (.seq (.region [po 46 (.fadd 13 (.t 18)) 0, po 47 (.load false 1 (.t 46)) 1, po 48 (.bin .neq (.t 47) (.c (.i .i64 3))) 2, pm 49 48 3, pg 50 (.fadd 13 (.t 18)) 49 true 4, pg 51 (.load false 1 (.t 50)) 49 true 5, pg 52 (.bin .neq (.t 51) (.c (.i .i64 4))) 49 true 6, po 53 (.pick (.t 49) (.t 52) (.c (.b false))) 7])
  (.cond (.t 53) (.seq (.region [pm 54 15 0, po 55 (.fadd 0 (.t 18)) 1, po 56 (.fadd 11 (.t 55)) 2, po 57 (.load false 1 (.t 56)) 3, po 58 (.lenx (.t 57)) 4, po 59 (.bin .add (.t 54) (.t 58)) 5, pm 15 59 6])
  (.seq (.region [po 60 (.fadd 14 (.t 18)) 0, po 61 (.load false 1 (.t 60)) 1, po 62 (.bin .eql (.t 61) (.c (.i .i64 1))) 2])
  (.cond (.t 62) (.region [pm 63 3 0, po 64 (.fadd 15 (.t 18)) 1, po 65 (.load false 1 (.t 64)) 2, po 66 (.bin .sub (.t 63) (.t 65)) 3, pm 16 66 4]) .skip))) .skip))))
  (.region [pm 37 17 0, po 38 (.bin .add (.t 37) (.c (.i .i64 1))) 1, pm 17 38 2]))))))
  (.seq (.region [pm 67 0 0, po 68 (.bslice [] [] 0) 1, pm 69 0 2, po 70 (.nilc (.t 69)) 3, po 71 (.fadd 0 (.t 70)) 4, po 72 (.load false 1 (.t 71)) 5, pm 73 13 6, po 74 (.slsl 19 (.t 72) (some (.t 73)) none none) 7, po 75 (.append 19 200 (.t 68) (.t 74)) 8, po 76 (.nilc (.t 67)) 9, po 77 (.fadd 0 (.t 76)) 10, ⟨none, (.store 1 (.t 77) (.t 75)), none, 11, []⟩])
  (.seq (.region [po 19 (.mv (.c (.i .i64 (-1)))) 0])
  (.seq (.seq (.region [po 20 (.mv (.c (.i .i64 0))) 0])
  (.block 2 (.loop (.seq (.seq (.region [pm 78 20 0, pm 79 0 1, po 80 (.nilc (.t 79)) 2, po 81 (.fadd 0 (.t 80)) 3, po 82 (.load false 1 (.t 81)) 4, po 83 (.lenx (.t 82)) 5, po 84 (.bin .lss (.t 78) (.t 83)) 6])
  (.cond (.t 84) .skip (.exit 2)))
  (.seq (.block 3 (.seq (.region [po 21 (.mv (.c (.b false))) 0])
  (.seq (.seq (.region [po 22 (.mv (.c (.i .i64 0))) 0])
  (.block 4 (.loop (.seq (.seq (.region [pm 87 22 0, pm 88 2 1, po 89 (.lenx (.t 88)) 2, po 90 (.bin .lss (.t 87) (.t 89)) 3])
  (.cond (.t 90) .skip (.exit 4)))
  (.seq (.block 5 (.region [pm 93 21 0, pm 94 93 1, pg 95 (.mv (.t 2)) 94 false 2, pg 96 (.mv (.t 22)) 94 false 3, pg 97 (.isl 2 (.t 95) (.t 96)) 94 false 4, pg 98 (.fadd 0 (.t 97)) 94 false 5, pg 99 (.load false 1 (.t 98)) 94 false 6, pg 100 (.cint .i64 (.t 99)) 94 false 7, pg 101 (.mv (.t 20)) 94 false 8, pg 102 (.bin .add (.t 101) (.c (.i .i64 1))) 94 false 9, pg 103 (.bin .leq (.t 100) (.t 102)) 94 false 10, pg 104 (.mv (.t 103)) 94 false 11, pg 105 (.mv (.t 20)) 104 true 12, pg 106 (.bin .add (.t 105) (.c (.i .i64 1))) 104 true 13, pg 107 (.mv (.t 2)) 104 true 14, pg 108 (.mv (.t 22)) 104 true 15, pg 109 (.isl 2 (.t 107) (.t 108)) 104 true 16, pg 110 (.fadd 1 (.t 109)) 104 true 17, pg 111 (.load false 1 (.t 110)) 104 true 18, pg 112 (.cint .i64 (.t 111)) 104 true 19, pg 113 (.bin .leq (.t 106) (.t 112)) 104 true 20, pg 114 (.pick (.t 104) (.t 113) (.c (.b false))) 94 false 21, po 115 (.pick (.t 94) (.c (.b true)) (.t 114)) 22, pm 21 115 23]))
  (.region [pm 91 22 0, po 92 (.bin .add (.t 91) (.c (.i .i64 1))) 1, pm 22 92 2]))))))
  (.seq (.region [pm 116 0 0, po 117 (.nilc (.t 116)) 1, po 118 (.fadd 0 (.t 117)) 2, po 119 (.load false 1 (.t 118)) 3, pm 120 20 4, po 121 (.isl 19 (.t 119) (.t 120)) 5, po 122 (.fadd 13 (.t 121)) 6, po 123 (.load false 1 (.t 122)) 7, pm 23 123 8])
  (.seq (.seq (.region [pm 124 21 0, pm 125 124 1, pg 126 (.mv (.t 23)) 125 true 2, pg 127 (.bin .eql (.t 126) (.c (.i .i64 1))) 125 true 3, pg 128 (.mv (.t 127)) 125 true 4, pg 129 (.mv (.t 23)) 128 false 5, pg 130 (.bin .eql (.t 129) (.c (.i .i64 2))) 128 false 6, pg 131 (.pick (.t 128) (.c (.b true)) (.t 130)) 125 true 7, po 132 (.pick (.t 125) (.t 131) (.c (.b false))) 8])
  (.cond (.t 132) (.seq (.region [pm 133 0 0, po 134 (.nilc (.t 133)) 1, po 135 (.fadd 0 (.t 134)) 2, po 136 (.load false 1 (.t 135)) 3, pm 137 20 4, po 138 (.isl 19 (.t 136) (.t 137)) 5, po 139 (.fadd 13 (.t 138)) 6, ⟨none, (.store 1 (.t 139) (.c (.i .i64 3))), none, 7, []⟩])
  (.seq (.region [pm 140 15 0, pm 141 0 1, po 142 (.nilc (.t 141)) 2, po 143 (.fadd 0 (.t 142)) 3, po 144 (.load false 1 (.t 143)) 4, pm 145 20 5, po 146 (.isl 19 (.t 144) (.t 145)) 6, po 147 (.fadd 0 (.t 146)) 7, po 148 (.fadd 11 (.t 147)) 8, po 149 (.load false 1 (.t 148)) 9, po 150 (.lenx (.t 149)) 10, po 151 (.bin .add (.t 140) (.t 150)) 11, pm 15 151 12])
  (.region [pm 152 20 0, pm 19 152 1]))) .skip))
  (.seq (.region [pm 153 21 0, po 154 (.unx .not (.t 153)) 1, pm 155 154 2, pg 156 (.mv (.t 23)) 155 true 3, pg 157 (.bin .eql (.t 156) (.c (.i .i64 3))) 155 true 4, po 158 (.pick (.t 155) (.t 157) (.c (.b false))) 5])
  (.cond (.t 158) (.seq (.region [pm 159 0 0, po 160 (.nilc (.t 159)) 1, po 161 (.fadd 0 (.t 160)) 2, po 162 (.load false 1 (.t 161)) 3, pm 163 20 4, po 164 (.isl 19 (.t 162) (.t 163)) 5, po 165 (.fadd 13 (.t 164)) 6, ⟨none, (.store 1 (.t 165) (.c (.i .i64 1))), none, 7, []⟩])
  (.region [pm 166 0 0, po 167 (.nilc (.t 166)) 1, po 168 (.fadd 0 (.t 167)) 2, po 169 (.load false 1 (.t 168)) 3, pm 170 20 4, po 171 (.isl 19 (.t 169) (.t 170)) 5, po 172 (.fadd 16 (.t 171)) 6, ⟨none, (.store 1 (.t 172) (.c (.i .i64 0))), none, 7, []⟩])) .skip)))))))
  (.region [pm 85 20 0, po 86 (.bin .add (.t 85) (.c (.i .i64 1))) 1, pm 20 86 2]))))))
  (.seq (.region [po 24 (.mv (.c (.b false))) 0])
  (.seq (.seq (.region [po 25 (.mv (.c (.i .i64 0))) 0])
  (.block 6 (.loop (.seq (.seq (.region [pm 173 25 0, pm 174 19 1, po 175 (.bin .lss (.t 173) (.t 174)) 2])
  (.cond (.t 175) .skip (.exit 6)))
  (.seq (.block 7 (.seq (.seq (.region [pm 178 0 0, po 179 (.nilc (.t 178)) 1, po 180 (.fadd 0 (.t 179)) 2, po 181 (.load false 1 (.t 180)) 3, pm 182 25 4, po 183 (.isl 19 (.t 181) (.t 182)) 5, po 184 (.fadd 13 (.t 183)) 6, po 185 (.load false 1 (.t 184)) 7, po 186 (.bin .neq (.t 185) (.c (.i .i64 1))) 8])
  (.cond (.t 186) (.exit 7) .skip))
  (.seq (.region [pm 187 0 0, po 188 (.nilc (.t 187)) 1, po 189 (.fadd 0 (.t 188)) 2, po 190 (.load false 1 (.t 189)) 3, pm 191 25 4, po 192 (.isl 19 (.t 190) (.t 191)) 5, po 193 (.fadd 16 (.t 192)) 6, po 194 (.load false 1 (.t 193)) 7, po 195 (.bin .add (.t 194) (.c (.i .i64 1))) 8, po 196 (.isl 19 (.t 190) (.t 191)) 9, po 197 (.fadd 16 (.t 196)) 10, ⟨none, (.store 1 (.t 197) (.t 195)), none, 11, []⟩])
  (.seq (.region [pm 198 0 0, po 199 (.nilc (.t 198)) 1, po 200 (.fadd 0 (.t 199)) 2, po 201 (.load false 1 (.t 200)) 3, pm 202 25 4, po 203 (.isl 19 (.t 201) (.t 202)) 5, po 204 (.fadd 16 (.t 203)) 6, po 205 (.load false 1 (.t 204)) 7, po 206 (.bin .geq (.t 205) (.c (.i .i64 3))) 8])
  (.cond (.t 206) (.seq (.region [pm 207 0 0, po 208 (.nilc (.t 207)) 1, po 209 (.fadd 0 (.t 208)) 2, po 210 (.load false 1 (.t 209)) 3, pm 211 25 4, po 212 (.isl 19 (.t 210) (.t 211)) 5, po 213 (.fadd 13 (.t 212)) 6, ⟨none, (.store 1 (.t 213) (.c (.i .i64 2))), none, 7, []⟩])
  (.region [po 24 (.mv (.c (.b true))) 0])) .skip)))))
  (.region [pm 176 25 0, po 177 (.bin .add (.t 176) (.c (.i .i64 1))) 1, pm 25 177 2]))))))
  (.seq (.region [pm 214 15 0, pm 215 16 1, pm 216 24 2, pm 217 13 3, po 218 (.bin .gtr (.t 217) (.c (.i .i64 0))) 4, pm 8 214 5, pm 9 215 6, pm 10 216 7, pm 11 218 8, po 12 (.mv (.c (.b true))) 9])
  .ret))))))))))))
def x50 : XFun := ⟨x50b, [(.t 8), (.t 9), (.t 10), (.t 11), (.t 12)]⟩
theorem x50_ok : compF Try.prog 50 = some x50 := by kernel_rfl
/-- (*bollard/bollardref15.Queue).Timeout (33) -/
def x51b : XC := (.seq (.region [po 2 (.mv (.c (.i .i64 0))) 0])
  (.seq (.region [po 3 (.mv (.c (.i .i64 0))) 0])
  (.seq (.seq (.region [po 4 (.mv (.c (.i .i64 0))) 0])
  (.block 0 (.loop (.seq (.seq (.region [pm 5 4 0, pm 6 0 1, po 7 (.nilc (.t 6)) 2, po 8 (.fadd 0 (.t 7)) 3, po 9 (.load false 1 (.t 8)) 4, po 10 (.lenx (.t 9)) 5, po 11 (.bin .lss (.t 5) (.t 10)) 6])
  (.cond (.t 11) .skip (.exit 0)))
  (.seq (.block 1 (.seq (.region [pm 14 0 0, po 15 (.nilc (.t 14)) 1, po 16 (.fadd 0 (.t 15)) 2, po 17 (.load false 1 (.t 16)) 3, pm 18 4 4, po 19 (.isl 19 (.t 17) (.t 18)) 5, po 20 (.fadd 13 (.t 19)) 6, po 21 (.load false 1 (.t 20)) 7, po 22 (.bin .eql (.t 21) (.c (.i .i64 1))) 8])
  (.cond (.t 22) (.seq (.region [pm 23 0 0, po 24 (.nilc (.t 23)) 1, po 25 (.fadd 0 (.t 24)) 2, po 26 (.load false 1 (.t 25)) 3, pm 27 4 4, po 28 (.isl 19 (.t 26) (.t 27)) 5, po 29 (.fadd 13 (.t 28)) 6, ⟨none, (.store 1 (.t 29) (.c (.i .i64 2))), none, 7, []⟩])
  (.region [pm 30 3 0, po 31 (.bin .add (.t 30) (.c (.i .i64 1))) 1, pm 3 31 2])) .skip)))
  (.region [pm 12 4 0, po 13 (.bin .add (.t 12) (.c (.i .i64 1))) 1, pm 4 13 2]))))))
  (.seq (.region [pm 32 3 0, pm 2 32 1])
  .ret))))
def x51 : XFun := ⟨x51b, [(.t 2)]⟩
theorem x51_ok : compF Try.prog 51 = some x51 := by kernel_rfl
/-- (*bollard/bollardref15.Queue).Expire (67) -/
def x52b : XC := (.seq (.region [po 4 (.mv (.c (.i .i64 0))) 0])
  (.seq (.region [po 5 (.mv (.c (.i .i64 0))) 0])
  (.seq (.seq (.region [po 6 (.mv (.c (.i .i64 0))) 0])
  (.block 0 (.loop (.seq (.seq (.region [pm 9 6 0, pm 10 0 1, po 11 (.nilc (.t 10)) 2, po 12 (.fadd 0 (.t 11)) 3, po 13 (.load false 1 (.t 12)) 4, po 14 (.lenx (.t 13)) 5, po 15 (.bin .lss (.t 9) (.t 14)) 6])
  (.cond (.t 15) .skip (.exit 0)))
  (.seq (.block 1 (.seq (.seq (.region [pm 18 0 0, pm 19 0 1, po 20 (.nilc (.t 19)) 2, po 21 (.fadd 0 (.t 20)) 3, po 22 (.load false 1 (.t 21)) 4, pm 23 6 5, po 24 (.isl 19 (.t 22) (.t 23)) 6, po 25 (.fadd 12 (.t 24)) 7, po 26 (.load false 1 (.t 25)) 8, pm 27 1 9, po 28 (.call (.c (.fn (.func 71) [] [])) [(.t 18), (.t 26), (.t 27)]) 10, po 29 (.unx .not (.t 28)) 11])
  (.cond (.t 29) (.exit 1) .skip))
  (.seq (.region [pm 30 5 0, po 31 (.bin .add (.t 30) (.c (.i .i64 1))) 1, pm 5 31 2])
  (.seq (.region [pm 32 0 0, po 33 (.nilc (.t 32)) 1, po 34 (.fadd 0 (.t 33)) 2, po 35 (.load false 1 (.t 34)) 3, pm 36 6 4, po 37 (.isl 19 (.t 35) (.t 36)) 5, po 38 (.fadd 12 (.t 37)) 6, po 39 (.load false 1 (.t 38)) 7, pm 7 39 8])
  (.seq (.region [po 8 (.mv (.c (.i .i64 0))) 0])
  (.block 2 (.loop (.seq (.seq (.region [pm 40 8 0, pm 41 0 1, po 42 (.nilc (.t 41)) 2, po 43 (.fadd 0 (.t 42)) 3, po 44 (.load false 1 (.t 43)) 4, po 45 (.lenx (.t 44)) 5, po 46 (.bin .lss (.t 40) (.t 45)) 6])
  (.cond (.t 46) .skip (.exit 2)))
  (.seq (.block 3 (.seq (.region [pm 49 0 0, po 50 (.nilc (.t 49)) 1, po 51 (.fadd 0 (.t 50)) 2, po 52 (.load false 1 (.t 51)) 3, pm 53 8 4, po 54 (.isl 19 (.t 52) (.t 53)) 5, po 55 (.fadd 12 (.t 54)) 6, po 56 (.load false 1 (.t 55)) 7, pm 57 7 8, po 58 (.bin .eql (.t 56) (.t 57)) 9])
  (.cond (.t 58) (.region [pm 59 0 0, po 60 (.nilc (.t 59)) 1, po 61 (.fadd 0 (.t 60)) 2, po 62 (.load false 1 (.t 61)) 3, pm 63 8 4, po 64 (.isl 19 (.t 62) (.t 63)) 5, po 65 (.fadd 13 (.t 64)) 6, ⟨none, (.store 1 (.t 65) (.c (.i .i64 4))), none, 7, []⟩]) .skip)))
  (.region [pm 47 8 0, po 48 (.bin .add (.t 47) (.c (.i .i64 1))) 1, pm 8 48 2]))))))))))
  (.region [pm 16 6 0, po 17 (.bin .add (.t 16) (.c (.i .i64 1))) 1, pm 6 17 2]))))))
  (.seq (.region [pm 66 5 0, pm 4 66 1])
  .ret))))
def x52 : XFun := ⟨x52b, [(.t 4)]⟩
theorem x52_ok : compF Try.prog 52 = some x52 := by kernel_rfl
/-- (*bollard/bollardref15.Queue).Forward (116) -/
def x53b : XC := (.seq (.region [po 2 (.mv (.c (.i .u32 0))) 0, po 3 (.mv (.c zAC )) 1, po 4 (.mv (.c (.b false))) 2])
  (.seq (.region [po 5 (.mv (.c (.i .i64 (-1)))) 0])
  (.seq (.seq (.region [po 6 (.mv (.c (.i .i64 0))) 0])
  (.block 0 (.loop (.seq (.seq (.region [pm 11 6 0, pm 12 0 1, po 13 (.nilc (.t 12)) 2, po 14 (.fadd 0 (.t 13)) 3, po 15 (.load false 1 (.t 14)) 4, po 16 (.lenx (.t 15)) 5, po 17 (.bin .lss (.t 11) (.t 16)) 6, pm 18 17 7, pg 19 (.mv (.t 0)) 18 true 8, pg 20 (.nilc (.t 19)) 18 true 9, pg 21 (.fadd 0 (.t 20)) 18 true 10, pg 22 (.load false 1 (.t 21)) 18 true 11, pg 23 (.mv (.t 6)) 18 true 12, pg 24 (.isl 19 (.t 22) (.t 23)) 18 true 13, pg 25 (.fadd 13 (.t 24)) 18 true 14, pg 26 (.load false 1 (.t 25)) 18 true 15, pg 27 (.bin .geq (.t 26) (.c (.i .i64 3))) 18 true 16, po 28 (.pick (.t 18) (.t 27) (.c (.b false))) 17])
  (.cond (.t 28) .skip (.exit 0)))
  (.seq (.block 1 (.seq (.region [pm 31 0 0, po 32 (.nilc (.t 31)) 1, po 33 (.fadd 0 (.t 32)) 2, po 34 (.load false 1 (.t 33)) 3, pm 35 6 4, po 36 (.isl 19 (.t 34) (.t 35)) 5, po 37 (.fadd 13 (.t 36)) 6, po 38 (.load false 1 (.t 37)) 7, po 39 (.bin .eql (.t 38) (.c (.i .i64 4))) 8])
  (.cond (.t 39) (.region [pm 40 6 0, pm 5 40 1]) .skip)))
  (.region [pm 29 6 0, po 30 (.bin .add (.t 29) (.c (.i .i64 1))) 1, pm 6 30 2]))))))
  (.seq (.seq (.region [pm 41 5 0, po 42 (.bin .lss (.t 41) (.c (.i .i64 0))) 1])
  (.cond (.t 42) (.seq (.region [pm 43 0 0, po 44 (.call (.c (.fn (.func 56) [] [])) [(.t 43)]) 1, pm 2 44 2, po 3 (.mv (.c zAC )) 3, po 4 (.mv (.c (.b false))) 4])
  .ret) .skip))
  (.seq (.region [po 7 (.mv (.c zAC )) 0])
  (.seq (.seq (.region [po 8 (.mv (.c (.i .i64 0))) 0])
  (.block 2 (.loop (.seq (.seq (.region [pm 45 8 0, pm 46 5 1, po 47 (.bin .leq (.t 45) (.t 46)) 2])
  (.cond (.t 47) .skip (.exit 2)))
  (.seq (.block 3 (.seq (.region [pm 50 0 0, po 51 (.nilc (.t 50)) 1, po 52 (.fadd 0 (.t 51)) 2, po 53 (.load false 1 (.t 52)) 3, pm 54 8 4, po 55 (.isl 19 (.t 53) (.t 54)) 5, po 56 (.fadd 0 (.t 55)) 6, po 57 (.load true 12 (.t 56)) 7, po 9 (.alloc zAA ) 8, ⟨none, (.store 12 (.t 9) (.t 57)), none, 9, []⟩])
  (.seq (.seq (.region [pm 58 0 0, po 59 (.nilc (.t 58)) 1, po 60 (.fadd 0 (.t 59)) 2, po 61 (.load false 1 (.t 60)) 3, pm 62 8 4, po 63 (.isl 19 (.t 61) (.t 62)) 5, po 64 (.fadd 13 (.t 63)) 6, po 65 (.load false 1 (.t 64)) 7, po 66 (.bin .neq (.t 65) (.c (.i .i64 4))) 8, pm 67 66 9, pg 68 (.fadd 1 (.t 9)) 67 false 10, pg 69 (.load false 1 (.t 68)) 67 false 11, pg 70 (.bin .quo (.t 69) (.c (.i .u8 4))) 67 false 12, pg 71 (.bin .rem (.t 70) (.c (.i .u8 2))) 67 false 13, pg 72 (.bin .eql (.t 71) (.c (.i .u8 1))) 67 false 14, po 73 (.pick (.t 67) (.c (.b true)) (.t 72)) 15])
  (.cond (.t 73) (.exit 3) .skip))
  (.seq (.region [po 10 (.mv (.c (.i .i64 0))) 0])
  (.seq (.block 4 (.loop (.seq (.seq (.draw [pm 74 10 0, pm 75 7 1, ⟨(some 76), (.lenx (.t 75)), none, 2, [1]⟩, ⟨(some 77), (.bin .lss (.t 74) (.t 76)), none, 3, [0, 1, 2]⟩, ⟨(some 78), (.mv (.t 77)), none, 4, [0, 1, 2, 3]⟩, ⟨(some 79), (.mv (.t 7)), (some (78, true)), 5, [0, 1, 2, 3, 4]⟩, ⟨(some 80), (.mv (.t 10)), (some (78, true)), 6, [0, 1, 2, 3, 4]⟩, ⟨(some 81), (.isl 2 (.t 79) (.t 80)), (some (78, true)), 7, [0, 1, 2, 3, 4, 5, 6]⟩, ⟨(some 82), (.fadd 0 (.t 81)), (some (78, true)), 8, [0, 1, 2, 3, 4, 5, 6, 7]⟩, ⟨(some 84), (.fadd 4 (.t 9)), (some (78, true)), 10, [0, 1, 2, 3, 4]⟩, ⟨(some 83), (.load false 1 (.t 82)), (some (78, true)), 9, [0, 1, 2, 3, 4, 5, 6, 7, 8]⟩, ⟨(some 85), (.load false 1 (.t 84)), (some (78, true)), 11, [0, 1, 2, 3, 4, 10]⟩, ⟨(some 86), (.bin .neq (.t 83) (.t 85)), (some (78, true)), 12, [0, 1, 2, 3, 4, 5, 6, 7, 8, 9, 10, 11]⟩, ⟨(some 87), (.pick (.t 78) (.t 86) (.c (.b false))), none, 13, [0, 1, 2, 3, 4, 5, 6, 7, 8, 9, 10, 11, 12]⟩])
  (.cond (.t 87) .skip (.exit 4)))
  (.block 5 (.region [pm 88 10 0, po 89 (.bin .add (.t 88) (.c (.i .i64 1))) 1, pm 10 89 2])))))
  (.seq (.seq (.region [pm 90 10 0, pm 91 7 1, po 92 (.lenx (.t 91)) 2, po 93 (.bin .eql (.t 90) (.t 92)) 3])
  (.cond (.t 93) (.region [pm 94 7 0, po 95 (.fadd 4 (.t 9)) 1, po 96 (.load false 1 (.t 95)) 2, po 97 (.build [(.i .u16 0), (.i .u16 0)] [(0, 1, (.t 96))]) 3, po 98 (.bslice [(.i .u16 0), (.i .u16 0)] [(0, 2, (.t 97))] 1) 4, po 99 (.append 2 4 (.t 94) (.t 98)) 5, pm 7 99 6]) .skip))
  (.region [pm 100 7 0, pm 101 10 1, po 102 (.fadd 5 (.t 9)) 2, po 103 (.load false 1 (.t 102)) 3, po 104 (.isl 2 (.t 100) (.t 101)) 4, po 105 (.fadd 1 (.t 104)) 5, ⟨none, (.store 1 (.t 105) (.t 103)), none, 6, []⟩])))))))
  (.region [pm 48 8 0, po 49 (.bin .add (.t 48) (.c (.i .i64 1))) 1, pm 8 49 2]))))))
  (.seq (.region [pm 106 0 0, po 107 (.nilc (.t 106)) 1, po 108 (.fadd 0 (.t 107)) 2, po 109 (.load false 1 (.t 108)) 3, pm 110 5 4, po 111 (.isl 19 (.t 109) (.t 110)) 5, po 112 (.fadd 0 (.t 111)) 6, po 113 (.fadd 2 (.t 112)) 7, po 114 (.load false 1 (.t 113)) 8, pm 115 7 9, pm 2 114 10, pm 3 115 11, po 4 (.mv (.c (.b true))) 12])
  .ret)))))))
def x53 : XFun := ⟨x53b, [(.t 2), (.t 3), (.t 4)]⟩
theorem x53_ok : compF Try.prog 53 = some x53 := by kernel_rfl
/-- (*bollard/bollardref15.Queue).State (35) -/
def x54b : XC := (.seq (.region [po 4 (.mv (.c (.i .i64 0))) 0, po 5 (.mv (.c (.b false))) 1])
  (.seq (.seq (.region [po 6 (.mv (.c (.i .i64 0))) 0])
  (.block 0 (.loop (.seq (.seq (.region [pm 7 6 0, pm 8 0 1, po 9 (.nilc (.t 8)) 2, po 10 (.fadd 0 (.t 9)) 3, po 11 (.load false 1 (.t 10)) 4, po 12 (.lenx (.t 11)) 5, po 13 (.bin .lss (.t 7) (.t 12)) 6])
  (.cond (.t 13) .skip (.exit 0)))
  (.seq (.block 1 (.seq (.region [pm 16 0 0, po 17 (.nilc (.t 16)) 1, po 18 (.fadd 0 (.t 17)) 2, po 19 (.load false 1 (.t 18)) 3, pm 20 6 4, po 21 (.isl 19 (.t 19) (.t 20)) 5, po 22 (.fadd 0 (.t 21)) 6, po 23 (.fadd 2 (.t 22)) 7, po 24 (.load false 1 (.t 23)) 8, pm 25 1 9, po 26 (.bin .eql (.t 24) (.t 25)) 10])
  (.cond (.t 26) (.seq (.region [pm 27 0 0, po 28 (.nilc (.t 27)) 1, po 29 (.fadd 0 (.t 28)) 2, po 30 (.load false 1 (.t 29)) 3, pm 31 6 4, po 32 (.isl 19 (.t 30) (.t 31)) 5, po 33 (.fadd 13 (.t 32)) 6, po 34 (.load false 1 (.t 33)) 7, pm 4 34 8, po 5 (.mv (.c (.b true))) 9])
  .ret) .skip)))
  (.region [pm 14 6 0, po 15 (.bin .add (.t 14) (.c (.i .i64 1))) 1, pm 6 15 2]))))))
  (.seq (.region [po 4 (.mv (.c (.i .i64 0))) 0, po 5 (.mv (.c (.b false))) 1])
  .ret)))
def x54 : XFun := ⟨x54b, [(.t 4), (.t 5)]⟩
theorem x54_ok : compF Try.prog 54 = some x54 := by kernel_rfl
/-- bollard/bollardlaw15.sameSkips (41) -/
def x55b : XC := (.seq (.region [po 4 (.mv (.c (.b false))) 0])
  (.seq (.seq (.region [pm 6 0 0, po 7 (.lenx (.t 6)) 1, pm 8 1 2, po 9 (.lenx (.t 8)) 3, po 10 (.bin .neq (.t 7) (.t 9)) 4])
  (.cond (.t 10) (.seq (.region [po 4 (.mv (.c (.b false))) 0])
  .ret) .skip))
  (.seq (.seq (.region [po 5 (.mv (.c (.i .i64 0))) 0])
  (.block 0 (.loop (.seq (.seq (.region [pm 11 5 0, pm 12 0 1, po 13 (.lenx (.t 12)) 2, po 14 (.bin .lss (.t 11) (.t 13)) 3])
  (.cond (.t 14) .skip (.exit 0)))
  (.seq (.block 1 (.seq (.draw [pm 17 0 0, pm 18 5 1, ⟨(some 19), (.isl 2 (.t 17) (.t 18)), none, 2, [0, 1]⟩, ⟨(some 20), (.fadd 0 (.t 19)), none, 3, [0, 1, 2]⟩, pm 22 1 5, pm 23 5 6, ⟨(some 24), (.isl 2 (.t 22) (.t 23)), none, 7, [5, 6]⟩, ⟨(some 25), (.fadd 0 (.t 24)), none, 8, [5, 6, 7]⟩, ⟨(some 21), (.load false 1 (.t 20)), none, 4, [0, 1, 2, 3]⟩, ⟨(some 26), (.load false 1 (.t 25)), none, 9, [5, 6, 7, 8]⟩, ⟨(some 27), (.bin .neq (.t 21) (.t 26)), none, 10, [0, 1, 2, 3, 4, 5, 6, 7, 8, 9]⟩, ⟨(some 28), (.mv (.t 27)), none, 11, [0, 1, 2, 3, 4, 5, 6, 7, 8, 9, 10]⟩, ⟨(some 29), (.mv (.t 0)), (some (28, false)), 12, [0, 1, 2, 3, 4, 5, 6, 7, 8, 9, 10, 11]⟩, ⟨(some 30), (.mv (.t 5)), (some (28, false)), 13, [0, 1, 2, 3, 4, 5, 6, 7, 8, 9, 10, 11]⟩, ⟨(some 31), (.isl 2 (.t 29) (.t 30)), (some (28, false)), 14, [0, 1, 2, 3, 4, 5, 6, 7, 8, 9, 10, 11, 12, 13]⟩, ⟨(some 32), (.fadd 1 (.t 31)), (some (28, false)), 15, [0, 1, 2, 3, 4, 5, 6, 7, 8, 9, 10, 11, 12, 13, 14]⟩, ⟨(some 34), (.mv (.t 1)), (some (28, false)), 17, [0, 1, 2, 3, 4, 5, 6, 7, 8, 9, 10, 11]⟩, ⟨(some 35), (.mv (.t 5)), (some (28, false)), 18, [0, 1, 2, 3, 4, 5, 6, 7, 8, 9, 10, 11]⟩, ⟨(some 36), (.isl 2 (.t 34) (.t 35)), (some (28, false)), 19, [0, 1, 2, 3, 4, 5, 6, 7, 8, 9, 10, 11, 17, 18]⟩, ⟨(some 37), (.fadd 1 (.t 36)), (some (28, false)), 20, [0, 1, 2, 3, 4, 5, 6, 7, 8, 9, 10, 11, 17, 18, 19]⟩, ⟨(some 33), (.load false 1 (.t 32)), (some (28, false)), 16, [0, 1, 2, 3, 4, 5, 6, 7, 8, 9, 10, 11, 12, 13, 14, 15]⟩, ⟨(some 38), (.load false 1 (.t 37)), (some (28, false)), 21, [0, 1, 2, 3, 4, 5, 6, 7, 8, 9, 10, 11, 17, 18, 19, 20]⟩, ⟨(some 39), (.bin .neq (.t 33) (.t 38)), (some (28, false)), 22, [0, 1, 2, 3, 4, 5, 6, 7, 8, 9, 10, 11, 12, 13, 14, 15, 16, 17, 18, 19, 20, 21]⟩, ⟨(some 40), (.pick (.t 28) (.c (.b true)) (.t 39)), none, 23, [0, 1, 2, 3, 4, 5, 6, 7, 8, 9, 10, 11, 12, 13, 14, 15, 16, 17, 18, 19, 20, 21, 22]⟩])
  (.cond (.t 40) (.seq (.region [po 4 (.mv (.c (.b false))) 0])
  .ret) .skip)))
  (.region [pm 15 5 0, po 16 (.bin .add (.t 15) (.c (.i .i64 1))) 1, pm 5 16 2]))))))
  (.seq (.region [po 4 (.mv (.c (.b true))) 0])
  .ret))))
def x55 : XFun := ⟨x55b, [(.t 4)]⟩
theorem x55_ok : compF Try.prog 55 = some x55 := by kernel_rfl
/-- (*bollard/bollardref15.Queue).Floor (15) -/
def x56b : XC := (.seq (.region [po 2 (.mv (.c (.i .u32 0))) 0])
  (.seq (.draw [pm 3 0 0, ⟨(some 4), (.nilc (.t 3)), none, 1, [0]⟩, ⟨(some 5), (.fadd 1 (.t 4)), none, 2, [0, 1]⟩, pm 7 0 4, ⟨(some 8), (.nilc (.t 7)), none, 5, [4]⟩, ⟨(some 9), (.fadd 0 (.t 8)), none, 6, [4, 5]⟩, ⟨(some 6), (.load false 1 (.t 5)), none, 3, [0, 1, 2]⟩, ⟨(some 10), (.load false 1 (.t 9)), none, 7, [4, 5, 6]⟩, ⟨(some 11), (.lenx (.t 10)), none, 8, [4, 5, 6, 7]⟩, ⟨(some 12), (.cint .u32 (.t 11)), none, 9, [4, 5, 6, 7, 8]⟩, ⟨(some 13), (.bin .sub (.t 6) (.t 12)), none, 10, [0, 1, 2, 3, 4, 5, 6, 7, 8, 9]⟩, ⟨(some 14), (.bin .sub (.t 13) (.c (.i .u32 1))), none, 11, [0, 1, 2, 3, 4, 5, 6, 7, 8, 9, 10]⟩, ⟨(some 2), (.mv (.t 14)), none, 12, [0, 1, 2, 3, 4, 5, 6, 7, 8, 9, 10, 11]⟩])
  .ret))
def x56 : XFun := ⟨x56b, [(.t 2)]⟩
theorem x56_ok : compF Try.prog 56 = some x56 := by kernel_rfl
/-- (*bollard/bollardref15.Queue).Octets (53) -/
def x57b : XC := (.seq (.region [po 6 (.mv (.c (.i .i64 0))) 0])
  (.seq (.region [po 7 (.mv (.c (.i .i64 0))) 0])
  (.seq (.seq (.region [po 8 (.mv (.c (.i .i64 0))) 0])
  (.block 0 (.loop (.seq (.seq (.region [pm 9 8 0, pm 10 0 1, po 11 (.nilc (.t 10)) 2, po 12 (.fadd 0 (.t 11)) 3, po 13 (.load false 1 (.t 12)) 4, po 14 (.lenx (.t 13)) 5, po 15 (.bin .lss (.t 9) (.t 14)) 6])
  (.cond (.t 15) .skip (.exit 0)))
  (.seq (.block 1 (.seq (.region [pm 18 0 0, po 19 (.nilc (.t 18)) 1, po 20 (.fadd 0 (.t 19)) 2, po 21 (.load false 1 (.t 20)) 3, pm 22 8 4, po 23 (.isl 19 (.t 21) (.t 22)) 5, po 24 (.fadd 13 (.t 23)) 6, po 25 (.load false 1 (.t 24)) 7, pm 26 1 8, po 27 (.bin .eql (.t 25) (.t 26)) 9, pm 28 27 10, pg 29 (.mv (.t 0)) 28 false 11, pg 30 (.nilc (.t 29)) 28 false 12, pg 31 (.fadd 0 (.t 30)) 28 false 13, pg 32 (.load false 1 (.t 31)) 28 false 14, pg 33 (.mv (.t 8)) 28 false 15, pg 34 (.isl 19 (.t 32) (.t 33)) 28 false 16, pg 35 (.fadd 13 (.t 34)) 28 false 17, pg 36 (.load false 1 (.t 35)) 28 false 18, pg 37 (.mv (.t 2)) 28 false 19, pg 38 (.bin .eql (.t 36) (.t 37)) 28 false 20, po 39 (.pick (.t 28) (.c (.b true)) (.t 38)) 21])
  (.cond (.t 39) (.region [pm 40 7 0, pm 41 0 1, po 42 (.nilc (.t 41)) 2, po 43 (.fadd 0 (.t 42)) 3, po 44 (.load false 1 (.t 43)) 4, pm 45 8 5, po 46 (.isl 19 (.t 44) (.t 45)) 6, po 47 (.fadd 0 (.t 46)) 7, po 48 (.fadd 11 (.t 47)) 8, po 49 (.load false 1 (.t 48)) 9, po 50 (.lenx (.t 49)) 10, po 51 (.bin .add (.t 40) (.t 50)) 11, pm 7 51 12]) .skip)))
  (.region [pm 16 8 0, po 17 (.bin .add (.t 16) (.c (.i .i64 1))) 1, pm 8 17 2]))))))
  (.seq (.region [pm 52 7 0, pm 6 52 1])
  .ret))))
def x57 : XFun := ⟨x57b, [(.t 6)]⟩
theorem x57_ok : compF Try.prog 57 = some x57 := by kernel_rfl
/-- slices.IndexFunc[[]bollard/api.Chunk,bollard/api.Chunk] (19) -/
def x58b : XC := (.seq (.region [po 4 (.mv (.c (.i .i64 0))) 0])
  (.seq (.seq (.region [pm 6 0 0, po 7 (.lenx (.t 6)) 1, po 8 (.mv (.c (.i .i64 0))) 2])
  (.block 0 (.loop (.seq (.region [po 9 (.bin .lss (.t 8) (.t 7)) 0])
  (.seq (.cond (.t 9) .skip (.exit 0))
  (.seq (.block 1 (.seq (.region [pm 10 8 0, pm 5 10 1])
  (.seq (.region [pm 11 1 0, pm 12 0 1, pm 13 5 2, po 14 (.isl 12 (.t 12) (.t 13)) 3, po 15 (.load true 12 (.t 14)) 4, po 16 (.call (.t 11) [(.t 15)]) 5])
  (.cond (.t 16) (.seq (.region [pm 17 5 0, pm 4 17 1])
  .ret) .skip))))
  (.region [po 18 (.bin .add (.t 8) (.c (.i .i64 1))) 0, pm 8 18 1])))))))
  (.seq (.region [po 4 (.mv (.c (.i .i64 (-1)))) 0])
  .ret)))
def x58 : XFun := ⟨x58b, [(.t 4)]⟩
theorem x58_ok : compF Try.prog 58 = some x58 := by kernel_rfl
/-- (*bollard/sendq.Queue).in$1 (30) -/
def x59b : XC := (.seq (.seq (.region [po 6 (.load false 1 (.t 1)) 0, po 7 (.nilq 0 false (.t 6)) 1])
  (.cond (.t 7) .ret .skip))
  (.seq (.region [po 8 (.load false 1 (.t 1)) 0, po 9 (.nilc (.t 8)) 1, po 10 (.fadd 0 (.t 9)) 2, po 11 (.load false 1 (.t 10)) 3, po 12 (.lenx (.t 11)) 4, po 13 (.mv (.c (.i .i64 0))) 5])
  (.block 0 (.loop (.seq (.region [po 14 (.bin .lss (.t 13) (.t 12)) 0])
  (.seq (.cond (.t 14) .skip (.exit 0))
  (.seq (.block 1 (.seq (.region [po 15 (.isl 1 (.t 11) (.t 13)) 0, po 16 (.load false 1 (.t 15)) 1, pm 5 16 2])
  (.seq (.draw [pm 18 5 1, ⟨(some 19), (.nilc (.t 18)), none, 2, [1]⟩, ⟨(some 20), (.fadd 13 (.t 19)), none, 3, [1, 2]⟩, po 17 (.load false 1 (.t 2)) 0, ⟨(some 21), (.load false 1 (.t 20)), none, 4, [1, 2, 3]⟩, ⟨(some 22), (.call (.c (.fn (.func 60) [] [])) [(.t 17), (.t 21)]), none, 5, [0, 1, 2, 3, 4]⟩, ⟨(some 23), (.mv (.t 22)), none, 6, [0, 1, 2, 3, 4, 5]⟩, ⟨(some 24), (.mv (.t 0)), (some (23, true)), 7, [0, 1, 2, 3, 4, 5, 6]⟩, ⟨(some 25), (.mv (.t 5)), (some (23, true)), 8, [0, 1, 2, 3, 4, 5, 6]⟩, ⟨(some 26), (.call (.t 24) [(.t 25)]), (some (23, true)), 9, [0, 1, 2, 3, 4, 5, 6, 7, 8]⟩, ⟨(some 27), (.unx .not (.t 26)), (some (23, true)), 10, [0, 1, 2, 3, 4, 5, 6, 7, 8, 9]⟩, ⟨(some 28), (.pick (.t 23) (.t 27) (.c (.b false))), none, 11, [0, 1, 2, 3, 4, 5, 6, 7, 8, 9, 10]⟩])
  (.cond (.t 28) .ret .skip))))
  (.region [po 29 (.bin .add (.t 13) (.c (.i .i64 1))) 0, pm 13 29 1]))))))))
def x59 : XFun := ⟨x59b, []⟩
theorem x59_ok : compF Try.prog 59 = some x59 := by kernel_rfl
/-- slices.Contains[[]int,int] (9) -/
def x60b : XC := (.seq (.region [po 4 (.mv (.c (.b false))) 0])
  (.seq (.region [pm 5 0 0, pm 6 1 1, po 7 (.call (.c (.fn (.func 72) [] [])) [(.t 5), (.t 6)]) 2, po 8 (.bin .geq (.t 7) (.c (.i .i64 0))) 3, pm 4 8 4])
  .ret))
def x60 : XFun := ⟨x60b, [(.t 4)]⟩
theorem x60_ok : compF Try.prog 60 = some x60 := by kernel_rfl
/-- slices.ContainsFunc[[]*bollard/sendq.entry,*bollard/sendq.entry] (9) -/
def x61b : XC := (.seq (.region [po 4 (.mv (.c (.b false))) 0])
  (.seq (.region [pm 5 0 0, pm 6 1 1, po 7 (.call (.c (.fn (.func 66) [] [])) [(.t 5), (.t 6)]) 2, po 8 (.bin .geq (.t 7) (.c (.i .i64 0))) 3, pm 4 8 4])
  .ret))
def x61 : XFun := ⟨x61b, [(.t 4)]⟩
theorem x61_ok : compF Try.prog 61 = some x61 := by kernel_rfl
/-- (*bollard/sendq.Queue).reached$1 (8) -/
def x62b : XC := (.seq (.region [po 2 (.mv (.c (.b false))) 0])
  (.seq (.region [pm 3 0 0, po 4 (.nilc (.t 3)) 1, po 5 (.fadd 13 (.t 4)) 2, po 6 (.load false 1 (.t 5)) 3, po 7 (.bin .eql (.t 6) (.c (.i .i64 0))) 4, pm 2 7 5])
  .ret))
def x62 : XFun := ⟨x62b, [(.t 2)]⟩
theorem x62_ok : compF Try.prog 62 = some x62 := by kernel_rfl
/-- slices.Clone[[]*bollard/sendq.entry,*bollard/sendq.entry] (8) -/
def x63b : XC := (.seq (.region [po 2 (.mv (.c zAC )) 0])
  (.seq (.seq (.region [pm 3 0 0, po 4 (.nilq 1 false (.t 3)) 1])
  (.cond (.t 4) (.seq (.region [po 2 (.mv (.c zAC )) 0])
  .ret) .skip))
  (.seq (.region [po 5 (.bslice [] [] 0) 0, pm 6 0 1, po 7 (.append 1 8 (.t 5) (.t 6)) 2, pm 2 7 3])
  .ret)))
def x63 : XFun := ⟨x63b, [(.t 2)]⟩
theorem x63_ok : compF Try.prog 63 = some x63 := by kernel_rfl
/-- bollard/sendq.covered (8) -/
def x64b : XC := (.seq (.region [po 3 (.box (.t 1)) 0, po 4 (.mv (.c (.b false))) 1])
  (.seq (.region [pm 5 0 0, po 6 (.mkf (.func 74) [] [(.t 3)]) 1, po 7 (.call (.c (.fn (.func 73) [] [])) [(.t 5), (.t 6)]) 2, pm 4 7 3])
  .ret))
def x64 : XFun := ⟨x64b, [(.t 4)]⟩
theorem x64_ok : compF Try.prog 64 = some x64 := by kernel_rfl
/-- bollard/sendq.total (15) -/
def x65b : XC := (.seq (.region [po 3 (.box (.t 1)) 0, po 4 (.mv (.c (.i .i64 0))) 1])
  (.seq (.region [po 5 (.alloc [(.i .i64 0)]) 0, ⟨none, (.store 1 (.t 5) (.c (.i .i64 0))), none, 1, []⟩])
  (.seq (.seq (.region [pm 7 0 0])
  (.block 0 (.rangeFn (.t 7) [8] (.region [pm 6 8 0]) (.block 1 (.draw [pm 11 6 2, po 9 (.load false 1 (.t 5)) 0, po 10 (.load false 1 (.t 3)) 1, ⟨(some 12), (.call (.t 10) [(.t 11)]), none, 3, [1, 2]⟩, ⟨(some 13), (.bin .add (.t 9) (.t 12)), none, 4, [0, 1, 2, 3]⟩, ⟨none, (.store 1 (.t 5) (.t 13)), none, 5, [0, 1, 2, 3, 4]⟩])))))
  (.seq (.region [po 14 (.load false 1 (.t 5)) 0, pm 4 14 1])
  .ret))))
def x65 : XFun := ⟨x65b, [(.t 4)]⟩
theorem x65_ok : compF Try.prog 65 = some x65 := by kernel_rfl
/-- slices.IndexFunc[[]*bollard/sendq.entry,*bollard/sendq.entry] (19) -/
def x66b : XC := (.seq (.region [po 4 (.mv (.c (.i .i64 0))) 0])
  (.seq (.seq (.region [pm 6 0 0, po 7 (.lenx (.t 6)) 1, po 8 (.mv (.c (.i .i64 0))) 2])
  (.block 0 (.loop (.seq (.region [po 9 (.bin .lss (.t 8) (.t 7)) 0])
  (.seq (.cond (.t 9) .skip (.exit 0))
  (.seq (.block 1 (.seq (.region [pm 10 8 0, pm 5 10 1])
  (.seq (.region [pm 11 1 0, pm 12 0 1, pm 13 5 2, po 14 (.isl 1 (.t 12) (.t 13)) 3, po 15 (.load false 1 (.t 14)) 4, po 16 (.call (.t 11) [(.t 15)]) 5])
  (.cond (.t 16) (.seq (.region [pm 17 5 0, pm 4 17 1])
  .ret) .skip))))
  (.region [po 18 (.bin .add (.t 8) (.c (.i .i64 1))) 0, pm 8 18 1])))))))
  (.seq (.region [po 4 (.mv (.c (.i .i64 (-1)))) 0])
  .ret)))
def x66 : XFun := ⟨x66b, [(.t 4)]⟩
theorem x66_ok : compF Try.prog 66 = some x66 := by kernel_rfl
/-- (*bollard/sendq.Queue).done$1 (8) -/
def x67b : XC := (.seq (.region [po 2 (.mv (.c (.b false))) 0])
  (.seq (.region [pm 3 0 0, po 4 (.nilc (.t 3)) 1, po 5 (.fadd 13 (.t 4)) 2, po 6 (.load false 1 (.t 5)) 3, po 7 (.bin .lss (.t 6) (.c (.i .i64 3))) 4, pm 2 7 5])
  .ret))
def x67 : XFun := ⟨x67b, [(.t 2)]⟩
theorem x67_ok : compF Try.prog 67 = some x67 := by kernel_rfl
/-- bollard/bollardref07.Same (187) -/
def x68b : XC := (.seq (.region [po 2 (.box (.t 0)) 0, po 3 (.box (.t 1)) 1, po 4 (.mv (.c (.b false))) 2])
  (.seq (.seq (.region [po 8 (.fadd 0 (.t 2)) 0, po 9 (.load false 1 (.t 8)) 1, po 10 (.fadd 0 (.t 3)) 2, po 11 (.load false 1 (.t 10)) 3, po 12 (.bin .neq (.t 9) (.t 11)) 4, pm 13 12 5, pg 14 (.fadd 1 (.t 2)) 13 false 6, pg 15 (.load false 1 (.t 14)) 13 false 7, pg 16 (.fadd 1 (.t 3)) 13 false 8, pg 17 (.load false 1 (.t 16)) 13 false 9, pg 18 (.bin .neq (.t 15) (.t 17)) 13 false 10, po 19 (.pick (.t 13) (.c (.b true)) (.t 18)) 11, pm 20 19 12, pg 21 (.fadd 2 (.t 2)) 20 false 13, pg 22 (.load false 1 (.t 21)) 20 false 14, pg 23 (.fadd 2 (.t 3)) 20 false 15, pg 24 (.load false 1 (.t 23)) 20 false 16, pg 25 (.bin .neq (.t 22) (.t 24)) 20 false 17, po 26 (.pick (.t 20) (.c (.b true)) (.t 25)) 18, pm 27 26 19, pg 28 (.fadd 3 (.t 2)) 27 false 20, pg 29 (.load false 1 (.t 28)) 27 false 21, pg 30 (.fadd 3 (.t 3)) 27 false 22, pg 31 (.load false 1 (.t 30)) 27 false 23, pg 32 (.bin .neq (.t 29) (.t 31)) 27 false 24, po 33 (.pick (.t 27) (.c (.b true)) (.t 32)) 25, pm 34 33 26, pg 35 (.fadd 4 (.t 2)) 34 false 27, pg 36 (.load false 1 (.t 35)) 34 false 28, pg 37 (.fadd 4 (.t 3)) 34 false 29, pg 38 (.load false 1 (.t 37)) 34 false 30, pg 39 (.bin .neq (.t 36) (.t 38)) 34 false 31, po 40 (.pick (.t 34) (.c (.b true)) (.t 39)) 32, pm 41 40 33, pg 42 (.fadd 5 (.t 2)) 41 false 34, pg 43 (.load false 1 (.t 42)) 41 false 35, pg 44 (.fadd 5 (.t 3)) 41 false 36, pg 45 (.load false 1 (.t 44)) 41 false 37, pg 46 (.bin .neq (.t 43) (.t 45)) 41 false 38, po 47 (.pick (.t 41) (.c (.b true)) (.t 46)) 39, pm 48 47 40, pg 49 (.fadd 6 (.t 2)) 48 false 41, pg 50 (.load false 1 (.t 49)) 48 false 42, pg 51 (.fadd 6 (.t 3)) 48 false 43, pg 52 (.load false 1 (.t 51)) 48 false 44, pg 53 (.bin .neq (.t 50) (.t 52)) 48 false 45, po 54 (.pick (.t 48) (.c (.b true)) (.t 53)) 46, pm 55 54 47, pg 56 (.fadd 11 (.t 2)) 55 false 48, pg 57 (.load false 1 (.t 56)) 55 false 49, pg 58 (.cb2s (.t 57)) 55 false 50, pg 59 (.fadd 11 (.t 3)) 55 false 51, pg 60 (.load false 1 (.t 59)) 55 false 52, pg 61 (.cb2s (.t 60)) 55 false 53, pg 62 (.bin .neq (.t 58) (.t 61)) 55 false 54, po 63 (.pick (.t 55) (.c (.b true)) (.t 62)) 55, pm 64 63 56, pg 65 (.fadd 10 (.t 2)) 64 false 57, pg 66 (.load false 1 (.t 65)) 64 false 58, pg 67 (.fadd 10 (.t 3)) 64 false 59, pg 68 (.load false 1 (.t 67)) 64 false 60, pg 69 (.call (.c (.fn (.func 75) [] [])) [(.t 66), (.t 68)]) 64 false 61, pg 70 (.unx .not (.t 69)) 64 false 62, po 71 (.pick (.t 64) (.c (.b true)) (.t 70)) 63, pm 72 71 64, pg 73 (.fadd 7 (.t 2)) 72 false 65, pg 74 (.load false 1 (.t 73)) 72 false 66, pg 75 (.lenx (.t 74)) 72 false 67, pg 76 (.fadd 7 (.t 3)) 72 false 68, pg 77 (.load false 1 (.t 76)) 72 false 69, pg 78 (.lenx (.t 77)) 72 false 70, pg 79 (.bin .neq (.t 75) (.t 78)) 72 false 71, po 80 (.pick (.t 72) (.c (.b true)) (.t 79)) 72, pm 81 80 73, pg 82 (.fadd 8 (.t 2)) 81 false 74, pg 83 (.load false 1 (.t 82)) 81 false 75, pg 84 (.lenx (.t 83)) 81 false 76, pg 85 (.fadd 8 (.t 3)) 81 false 77, pg 86 (.load false 1 (.t 85)) 81 false 78, pg 87 (.lenx (.t 86)) 81 false 79, pg 88 (.bin .neq (.t 84) (.t 87)) 81 false 80, po 89 (.pick (.t 81) (.c (.b true)) (.t 88)) 81, pm 90 89 82, pg 91 (.fadd 9 (.t 2)) 90 false 83, pg 92 (.load false 1 (.t 91)) 90 false 84, pg 93 (.lenx (.t 92)) 90 false 85, pg 94 (.fadd 9 (.t 3)) 90 false 86, pg 95 (.load false 1 (.t 94)) 90 false 87, pg 96 (.lenx (.t 95)) 90 false 88, pg 97 (.bin .neq (.t 93) (.t 96)) 90 false 89, po 98 (.pick (.t 90) (.c (.b true)) (.t 97)) 90])
  (.cond (.t 98) (.seq (.region [po 4 (.mv (.c (.b false))) 0])
  .ret) .skip))
  (.seq (.seq (.region [po 5 (.mv (.c (.i .i64 0))) 0])
  (.block 0 (.loop (.seq (.seq (.region [pm 99 5 0, po 100 (.fadd 7 (.t 2)) 1, po 101 (.load false 1 (.t 100)) 2, po 102 (.lenx (.t 101)) 3, po 103 (.bin .lss (.t 99) (.t 102)) 4])
  (.cond (.t 103) .skip (.exit 0)))
  (.seq (.block 1 (.seq (.draw [po 106 (.fadd 7 (.t 2)) 0, pm 108 5 2, po 112 (.fadd 7 (.t 3)) 6, pm 114 5 8, ⟨(some 107), (.load false 1 (.t 106)), none, 1, [0]⟩, ⟨(some 109), (.isl 2 (.t 107) (.t 108)), none, 3, [0, 1, 2]⟩, ⟨(some 110), (.fadd 0 (.t 109)), none, 4, [0, 1, 2, 3]⟩, ⟨(some 111), (.load false 1 (.t 110)), none, 5, [0, 1, 2, 3, 4]⟩, ⟨(some 113), (.load false 1 (.t 112)), none, 7, [6]⟩, ⟨(some 115), (.isl 2 (.t 113) (.t 114)), none, 9, [6, 7, 8]⟩, ⟨(some 116), (.fadd 0 (.t 115)), none, 10, [6, 7, 8, 9]⟩, ⟨(some 117), (.load false 1 (.t 116)), none, 11, [6, 7, 8, 9, 10]⟩, ⟨(some 118), (.bin .neq (.t 111) (.t 117)), none, 12, [0, 1, 2, 3, 4, 5, 6, 7, 8, 9, 10, 11]⟩, ⟨(some 119), (.mv (.t 118)), none, 13, [0, 1, 2, 3, 4, 5, 6, 7, 8, 9, 10, 11, 12]⟩, ⟨(some 120), (.fadd 7 (.t 2)), (some (119, false)), 14, [0, 1, 2, 3, 4, 5, 6, 7, 8, 9, 10, 11, 12, 13]⟩, ⟨(some 122), (.mv (.t 5)), (some (119, false)), 16, [0, 1, 2, 3, 4, 5, 6, 7, 8, 9, 10, 11, 12, 13]⟩, ⟨(some 126), (.fadd 7 (.t 3)), (some (119, false)), 20, [0, 1, 2, 3, 4, 5, 6, 7, 8, 9, 10, 11, 12, 13]⟩, ⟨(some 128), (.mv (.t 5)), (some (119, false)), 22, [0, 1, 2, 3, 4, 5, 6, 7, 8, 9, 10, 11, 12, 13]⟩, ⟨(some 121), (.load false 1 (.t 120)), (some (119, false)), 15, [0, 1, 2, 3, 4, 5, 6, 7, 8, 9, 10, 11, 12, 13, 14]⟩, ⟨(some 123), (.isl 2 (.t 121) (.t 122)), (some (119, false)), 17, [0, 1, 2, 3, 4, 5, 6, 7, 8, 9, 10, 11, 12, 13, 14, 15, 16]⟩, ⟨(some 124), (.fadd 1 (.t 123)), (some (119, false)), 18, [0, 1, 2, 3, 4, 5, 6, 7, 8, 9, 10, 11, 12, 13, 14, 15, 16, 17]⟩, ⟨(some 125), (.load false 1 (.t 124)), (some (119, false)), 19, [0, 1, 2, 3, 4, 5, 6, 7, 8, 9, 10, 11, 12, 13, 14, 15, 16, 17, 18]⟩, ⟨(some 127), (.load false 1 (.t 126)), (some (119, false)), 21, [0, 1, 2, 3, 4, 5, 6, 7, 8, 9, 10, 11, 12, 13, 20]⟩, ⟨(some 129), (.isl 2 (.t 127) (.t 128)), (some (119, false)), 23, [0, 1, 2, 3, 4, 5, 6, 7, 8, 9, 10, 11, 12, 13, 20, 21, 22]⟩, ⟨(some 130), (.fadd 1 (.t 129)), (some (119, false)), 24, [0, 1, 2, 3, 4, 5, 6, 7, 8, 9, 10, 11, 12, 13, 20, 21, 22, 23]⟩, ⟨(some 131), (.load false 1 (.t 130)), (some (119, false)), 25, [0, 1, 2, 3, 4, 5, 6, 7, 8, 9, 10, 11, 12, 13, 20, 21, 22, 23, 24]⟩, ⟨(some 132), (.bin .neq (.t 125) (.t 131)), (some (119, false)), 26, [0, 1, 2, 3, 4, 5, 6, 7, 8, 9, 10, 11, 12, 13, 14, 15, 16, 17, 18, 19, 20, 21, 22, 23, 24, 25]⟩, ⟨(some 133), (.pick (.t 119) (.c (.b true)) (.t 132)), none, 27, [0, 1, 2, 3, 4, 5, 6, 7, 8, 9, 10, 11, 12, 13, 14, 15, 16, 17, 18, 19, 20, 21, 22, 23, 24, 25, 26]⟩])
  (.cond (.t 133) (.seq (.region [po 4 (.mv (.c (.b false))) 0])
  .ret) .skip)))
  (.region [pm 104 5 0, po 105 (.bin .add (.t 104) (.c (.i .i64 1))) 1, pm 5 105 2]))))))
  (.seq (.seq (.region [po 6 (.mv (.c (.i .i64 0))) 0])
  (.block 2 (.loop (.seq (.seq (.region [pm 134 6 0, po 135 (.fadd 8 (.t 2)) 1, po 136 (.load false 1 (.t 135)) 2, po 137 (.lenx (.t 136)) 3, po 138 (.bin .lss (.t 134) (.t 137)) 4])
  (.cond (.t 138) .skip (.exit 2)))
  (.seq (.block 3 (.seq (.draw [po 141 (.fadd 8 (.t 2)) 0, pm 143 6 2, po 146 (.fadd 8 (.t 3)) 5, pm 148 6 7, ⟨(some 142), (.load false 1 (.t 141)), none, 1, [0]⟩, ⟨(some 144), (.isl 1 (.t 142) (.t 143)), none, 3, [0, 1, 2]⟩, ⟨(some 145), (.load false 1 (.t 144)), none, 4, [0, 1, 2, 3]⟩, ⟨(some 147), (.load false 1 (.t 146)), none, 6, [5]⟩, ⟨(some 149), (.isl 1 (.t 147) (.t 148)), none, 8, [5, 6, 7]⟩, ⟨(some 150), (.load false 1 (.t 149)), none, 9, [5, 6, 7, 8]⟩, ⟨(some 151), (.bin .neq (.t 145) (.t 150)), none, 10, [0, 1, 2, 3, 4, 5, 6, 7, 8, 9]⟩])
  (.cond (.t 151) (.seq (.region [po 4 (.mv (.c (.b false))) 0])
  .ret) .skip)))
  (.region [pm 139 6 0, po 140 (.bin .add (.t 139) (.c (.i .i64 1))) 1, pm 6 140 2]))))))
  (.seq (.seq (.region [po 7 (.mv (.c (.i .i64 0))) 0])
  (.block 4 (.loop (.seq (.seq (.region [pm 152 7 0, po 153 (.fadd 9 (.t 2)) 1, po 154 (.load false 1 (.t 153)) 2, po 155 (.lenx (.t 154)) 3, po 156 (.bin .lss (.t 152) (.t 155)) 4])
  (.cond (.t 156) .skip (.exit 4)))
  (.seq (.block 5 (.seq (.draw [po 159 (.fadd 9 (.t 2)) 0, pm 161 7 2, po 165 (.fadd 9 (.t 3)) 6, pm 167 7 8, ⟨(some 160), (.load false 1 (.t 159)), none, 1, [0]⟩, ⟨(some 162), (.isl 2 (.t 160) (.t 161)), none, 3, [0, 1, 2]⟩, ⟨(some 163), (.fadd 0 (.t 162)), none, 4, [0, 1, 2, 3]⟩, ⟨(some 164), (.load false 1 (.t 163)), none, 5, [0, 1, 2, 3, 4]⟩, ⟨(some 166), (.load false 1 (.t 165)), none, 7, [6]⟩, ⟨(some 168), (.isl 2 (.t 166) (.t 167)), none, 9, [6, 7, 8]⟩, ⟨(some 169), (.fadd 0 (.t 168)), none, 10, [6, 7, 8, 9]⟩, ⟨(some 170), (.load false 1 (.t 169)), none, 11, [6, 7, 8, 9, 10]⟩, ⟨(some 171), (.bin .neq (.t 164) (.t 170)), none, 12, [0, 1, 2, 3, 4, 5, 6, 7, 8, 9, 10, 11]⟩, ⟨(some 172), (.mv (.t 171)), none, 13, [0, 1, 2, 3, 4, 5, 6, 7, 8, 9, 10, 11, 12]⟩, ⟨(some 173), (.fadd 9 (.t 2)), (some (172, false)), 14, [0, 1, 2, 3, 4, 5, 6, 7, 8, 9, 10, 11, 12, 13]⟩, ⟨(some 175), (.mv (.t 7)), (some (172, false)), 16, [0, 1, 2, 3, 4, 5, 6, 7, 8, 9, 10, 11, 12, 13]⟩, ⟨(some 179), (.fadd 9 (.t 3)), (some (172, false)), 20, [0, 1, 2, 3, 4, 5, 6, 7, 8, 9, 10, 11, 12, 13]⟩, ⟨(some 181), (.mv (.t 7)), (some (172, false)), 22, [0, 1, 2, 3, 4, 5, 6, 7, 8, 9, 10, 11, 12, 13]⟩, ⟨(some 174), (.load false 1 (.t 173)), (some (172, false)), 15, [0, 1, 2, 3, 4, 5, 6, 7, 8, 9, 10, 11, 12, 13, 14]⟩, ⟨(some 176), (.isl 2 (.t 174) (.t 175)), (some (172, false)), 17, [0, 1, 2, 3, 4, 5, 6, 7, 8, 9, 10, 11, 12, 13, 14, 15, 16]⟩, ⟨(some 177), (.fadd 1 (.t 176)), (some (172, false)), 18, [0, 1, 2, 3, 4, 5, 6, 7, 8, 9, 10, 11, 12, 13, 14, 15, 16, 17]⟩, ⟨(some 178), (.load false 1 (.t 177)), (some (172, false)), 19, [0, 1, 2, 3, 4, 5, 6, 7, 8, 9, 10, 11, 12, 13, 14, 15, 16, 17, 18]⟩, ⟨(some 180), (.load false 1 (.t 179)), (some (172, false)), 21, [0, 1, 2, 3, 4, 5, 6, 7, 8, 9, 10, 11, 12, 13, 20]⟩, ⟨(some 182), (.isl 2 (.t 180) (.t 181)), (some (172, false)), 23, [0, 1, 2, 3, 4, 5, 6, 7, 8, 9, 10, 11, 12, 13, 20, 21, 22]⟩, ⟨(some 183), (.fadd 1 (.t 182)), (some (172, false)), 24, [0, 1, 2, 3, 4, 5, 6, 7, 8, 9, 10, 11, 12, 13, 20, 21, 22, 23]⟩, ⟨(some 184), (.load false 1 (.t 183)), (some (172, false)), 25, [0, 1, 2, 3, 4, 5, 6, 7, 8, 9, 10, 11, 12, 13, 20, 21, 22, 23, 24]⟩, ⟨(some 185), (.bin .neq (.t 178) (.t 184)), (some (172, false)), 26, [0, 1, 2, 3, 4, 5, 6, 7, 8, 9, 10, 11, 12, 13, 14, 15, 16, 17, 18, 19, 20, 21, 22, 23, 24, 25]⟩, ⟨(some 186), (.pick (.t 172) (.c (.b true)) (.t 185)), none, 27, [0, 1, 2, 3, 4, 5, 6, 7, 8, 9, 10, 11, 12, 13, 14, 15, 16, 17, 18, 19, 20, 21, 22, 23, 24, 25, 26]⟩])
  (.cond (.t 186) (.seq (.region [po 4 (.mv (.c (.b false))) 0])
  .ret) .skip)))
  (.region [pm 157 7 0, po 158 (.bin .add (.t 157) (.c (.i .i64 1))) 1, pm 7 158 2]))))))
  (.seq (.region [po 4 (.mv (.c (.b true))) 0])
  .ret))))))
def x68 : XFun := ⟨x68b, [(.t 4)]⟩
theorem x68_ok : compF Try.prog 68 = some x68 := by kernel_rfl
/-- (*bollard/bollardref15.Queue).send (105) -/
def x69b : XC := (.seq (.region [po 10 (.mv (.c zAC )) 0, po 11 (.mv (.c (.i .i64 0))) 1, po 12 (.mv (.c (.b false))) 2])
  (.seq (.seq (.region [po 13 (.mv (.c (.i .i64 0))) 0])
  (.block 0 (.loop (.seq (.seq (.region [pm 14 13 0, pm 15 0 1, po 16 (.nilc (.t 15)) 2, po 17 (.fadd 0 (.t 16)) 3, po 18 (.load false 1 (.t 17)) 4, po 19 (.lenx (.t 18)) 5, po 20 (.bin .lss (.t 14) (.t 19)) 6])
  (.cond (.t 20) .skip (.exit 0)))
  (.seq (.block 1 (.seq (.seq (.region [pm 23 0 0, po 24 (.nilc (.t 23)) 1, po 25 (.fadd 0 (.t 24)) 2, po 26 (.load false 1 (.t 25)) 3, pm 27 13 4, po 28 (.isl 19 (.t 26) (.t 27)) 5, po 29 (.fadd 13 (.t 28)) 6, po 30 (.load false 1 (.t 29)) 7, pm 31 2 8, po 32 (.bin .neq (.t 30) (.t 31)) 9])
  (.cond (.t 32) (.exit 1) .skip))
  (.seq (.seq (.region [pm 33 0 0, po 34 (.nilc (.t 33)) 1, po 35 (.fadd 0 (.t 34)) 2, po 36 (.load false 1 (.t 35)) 3, pm 37 13 4, po 38 (.isl 19 (.t 36) (.t 37)) 5, po 39 (.fadd 0 (.t 38)) 6, po 40 (.fadd 11 (.t 39)) 7, po 41 (.load false 1 (.t 40)) 8, po 42 (.lenx (.t 41)) 9, pm 43 4 10, po 44 (.bin .gtr (.t 42) (.t 43)) 11])
  (.cond (.t 44) (.seq (.region [pm 45 1 0, pm 46 4 1, pm 10 45 2, pm 11 46 3, po 12 (.mv (.c (.b false))) 4])
  .ret) .skip))
  (.seq (.region [pm 47 4 0, pm 48 0 1, po 49 (.nilc (.t 48)) 2, po 50 (.fadd 0 (.t 49)) 3, po 51 (.load false 1 (.t 50)) 4, pm 52 13 5, po 53 (.isl 19 (.t 51) (.t 52)) 6, po 54 (.fadd 0 (.t 53)) 7, po 55 (.fadd 11 (.t 54)) 8, po 56 (.load false 1 (.t 55)) 9, po 57 (.lenx (.t 56)) 10, po 58 (.bin .sub (.t 47) (.t 57)) 11, pm 4 58 12])
  (.seq (.region [pm 59 1 0, pm 60 0 1, po 61 (.nilc (.t 60)) 2, po 62 (.fadd 0 (.t 61)) 3, po 63 (.load false 1 (.t 62)) 4, pm 64 13 5, po 65 (.isl 19 (.t 63) (.t 64)) 6, po 66 (.fadd 0 (.t 65)) 7, po 67 (.load true 12 (.t 66)) 8, po 68 (.bslice zAA  [(0, 12, (.t 67))] 1) 9, po 69 (.append 12 144 (.t 59) (.t 68)) 10, pm 1 69 11])
  (.seq (.region [pm 70 0 0, po 71 (.nilc (.t 70)) 1, po 72 (.fadd 0 (.t 71)) 2, po 73 (.load false 1 (.t 72)) 3, pm 74 13 4, po 75 (.isl 19 (.t 73) (.t 74)) 5, po 76 (.fadd 13 (.t 75)) 6, ⟨none, (.store 1 (.t 76) (.c (.i .i64 1))), none, 7, []⟩])
  (.seq (.region [pm 77 0 0, po 78 (.nilc (.t 77)) 1, po 79 (.fadd 0 (.t 78)) 2, po 80 (.load false 1 (.t 79)) 3, pm 81 13 4, po 82 (.isl 19 (.t 80) (.t 81)) 5, po 83 (.fadd 14 (.t 82)) 6, po 84 (.load false 1 (.t 83)) 7, po 85 (.bin .add (.t 84) (.c (.i .i64 1))) 8, po 86 (.isl 19 (.t 80) (.t 81)) 9, po 87 (.fadd 14 (.t 86)) 10, ⟨none, (.store 1 (.t 87) (.t 85)), none, 11, []⟩])
  (.seq (.region [pm 88 0 0, po 89 (.nilc (.t 88)) 1, po 90 (.fadd 0 (.t 89)) 2, po 91 (.load false 1 (.t 90)) 3, pm 92 13 4, pm 93 3 5, po 94 (.isl 19 (.t 91) (.t 92)) 6, po 95 (.fadd 15 (.t 94)) 7, ⟨none, (.store 1 (.t 95) (.t 93)), none, 8, []⟩])
  (.region [pm 96 0 0, po 97 (.nilc (.t 96)) 1, po 98 (.fadd 0 (.t 97)) 2, po 99 (.load false 1 (.t 98)) 3, pm 100 13 4, po 101 (.isl 19 (.t 99) (.t 100)) 5, po 102 (.fadd 16 (.t 101)) 6, ⟨none, (.store 1 (.t 102) (.c (.i .i64 0))), none, 7, []⟩])))))))))
  (.region [pm 21 13 0, po 22 (.bin .add (.t 21) (.c (.i .i64 1))) 1, pm 13 22 2]))))))
  (.seq (.region [pm 103 1 0, pm 104 4 1, pm 10 103 2, pm 11 104 3, po 12 (.mv (.c (.b true))) 4])
  .ret)))
def x69 : XFun := ⟨x69b, [(.t 10), (.t 11), (.t 12)]⟩
theorem x69_ok : compF Try.prog 69 = some x69 := by kernel_rfl
/-- (*bollard/bollardref15.Queue).may (35) -/
def x70b : XC := (.seq (.region [po 4 (.mv (.c (.i .i64 0))) 0, po 5 (.mv (.c (.b false))) 1])
  (.seq (.region [pm 8 0 0, po 9 (.call (.c (.fn (.func 56) [] [])) [(.t 8)]) 1, pm 10 1 2, po 11 (.call (.c (.fn (.func 76) [] [])) [(.t 9), (.t 10)]) 3, po 12 (.cint .i64 (.t 11)) 4, pm 6 12 5])
  (.seq (.seq (.region [pm 13 6 0, pm 14 0 1, po 15 (.nilc (.t 14)) 2, po 16 (.fadd 0 (.t 15)) 3, po 17 (.load false 1 (.t 16)) 4, po 18 (.lenx (.t 17)) 5, po 19 (.bin .gtr (.t 13) (.t 18)) 6])
  (.cond (.t 19) (.seq (.region [po 4 (.mv (.c (.i .i64 0))) 0, po 5 (.mv (.c (.b false))) 1])
  .ret) .skip))
  (.seq (.seq (.region [po 7 (.mv (.c (.i .i64 0))) 0])
  (.block 0 (.loop (.seq (.seq (.region [pm 20 7 0, pm 21 6 1, po 22 (.bin .lss (.t 20) (.t 21)) 2])
  (.cond (.t 22) .skip (.exit 0)))
  (.seq (.block 1 (.seq (.region [pm 25 0 0, po 26 (.nilc (.t 25)) 1, po 27 (.fadd 0 (.t 26)) 2, po 28 (.load false 1 (.t 27)) 3, pm 29 7 4, po 30 (.isl 19 (.t 28) (.t 29)) 5, po 31 (.fadd 13 (.t 30)) 6, po 32 (.load false 1 (.t 31)) 7, po 33 (.bin .eql (.t 32) (.c (.i .i64 0))) 8])
  (.cond (.t 33) (.seq (.region [po 4 (.mv (.c (.i .i64 0))) 0, po 5 (.mv (.c (.b false))) 1])
  .ret) .skip)))
  (.region [pm 23 7 0, po 24 (.bin .add (.t 23) (.c (.i .i64 1))) 1, pm 7 24 2]))))))
  (.seq (.region [pm 34 6 0, pm 4 34 1, po 5 (.mv (.c (.b true))) 2])
  .ret)))))
def x70 : XFun := ⟨x70b, [(.t 4), (.t 5)]⟩
theorem x70_ok : compF Try.prog 70 = some x70 := by kernel_rfl
/-- (*bollard/bollardref15.Queue).over (70) -/
def x71b : XC := (.seq (.region [po 6 (.mv (.c (.b false))) 0])
  (.seq (.region [po 7 (.mv (.c (.b false))) 0])
  (.seq (.region [po 8 (.mv (.c (.b false))) 0])
  (.seq (.seq (.region [po 9 (.mv (.c (.i .i64 0))) 0])
  (.block 0 (.loop (.seq (.seq (.region [pm 11 9 0, pm 12 0 1, po 13 (.nilc (.t 12)) 2, po 14 (.fadd 0 (.t 13)) 3, po 15 (.load false 1 (.t 14)) 4, po 16 (.lenx (.t 15)) 5, po 17 (.bin .lss (.t 11) (.t 16)) 6])
  (.cond (.t 17) .skip (.exit 0)))
  (.seq (.block 1 (.seq (.region [pm 20 0 0, po 21 (.nilc (.t 20)) 1, po 22 (.fadd 0 (.t 21)) 2, po 23 (.load false 1 (.t 22)) 3, pm 24 9 4, po 25 (.isl 19 (.t 23) (.t 24)) 5, po 26 (.load true 19 (.t 25)) 6, po 10 (.alloc zAB ) 7, ⟨none, (.store 19 (.t 10) (.t 26)), none, 8, []⟩])
  (.seq (.seq (.region [po 27 (.fadd 12 (.t 10)) 0, po 28 (.load false 1 (.t 27)) 1, pm 29 1 2, po 30 (.bin .neq (.t 28) (.t 29)) 3])
  (.cond (.t 30) (.exit 1) .skip))
  (.seq (.region [pm 31 7 0, pm 32 31 1, pg 33 (.fadd 13 (.t 10)) 32 false 2, pg 34 (.load false 1 (.t 33)) 32 false 3, pg 35 (.bin .lss (.t 34) (.c (.i .i64 3))) 32 false 4, po 36 (.pick (.t 32) (.c (.b true)) (.t 35)) 5, pm 7 36 6])
  (.region [pm 37 8 0, pm 38 37 1, pg 39 (.fadd 17 (.t 10)) 38 false 2, pg 40 (.load false 1 (.t 39)) 38 false 3, pg 41 (.bin .geq (.t 40) (.c (.i .i64 0))) 38 false 4, pg 42 (.mv (.t 41)) 38 false 5, pg 43 (.fadd 17 (.t 10)) 42 true 6, pg 44 (.load false 1 (.t 43)) 42 true 7, pg 45 (.mv (.t 2)) 42 true 8, pg 46 (.bin .lss (.t 44) (.t 45)) 42 true 9, pg 47 (.pick (.t 42) (.t 46) (.c (.b false))) 38 false 10, po 48 (.pick (.t 38) (.c (.b true)) (.t 47)) 11, pm 49 48 12, pg 50 (.fadd 18 (.t 10)) 49 false 13, pg 51 (.load false 1 (.t 50)) 49 false 14, pg 52 (.bin .geq (.t 51) (.c (.i .i64 0))) 49 false 15, pg 53 (.mv (.t 52)) 49 false 16, pg 54 (.fadd 13 (.t 10)) 53 true 17, pg 55 (.load false 1 (.t 54)) 53 true 18, pg 56 (.bin .eql (.t 55) (.c (.i .i64 2))) 53 true 19, pg 57 (.pick (.t 53) (.t 56) (.c (.b false))) 49 false 20, pg 58 (.mv (.t 57)) 49 false 21, pg 59 (.fadd 14 (.t 10)) 58 true 22, pg 60 (.load false 1 (.t 59)) 58 true 23, pg 61 (.fadd 18 (.t 10)) 58 true 24, pg 62 (.load false 1 (.t 61)) 58 true 25, pg 63 (.bin .gtr (.t 60) (.t 62)) 58 true 26, pg 64 (.pick (.t 58) (.t 63) (.c (.b false))) 49 false 27, po 65 (.pick (.t 49) (.c (.b true)) (.t 64)) 28, pm 8 65 29])))))
  (.region [pm 18 9 0, po 19 (.bin .add (.t 18) (.c (.i .i64 1))) 1, pm 9 19 2]))))))
  (.seq (.region [pm 66 7 0, pm 67 66 1, pg 68 (.mv (.t 8)) 67 true 2, po 69 (.pick (.t 67) (.t 68) (.c (.b false))) 3, pm 6 69 4])
  .ret)))))
def x71 : XFun := ⟨x71b, [(.t 6)]⟩
theorem x71_ok : compF Try.prog 71 = some x71 := by kernel_rfl
/-- slices.Index[[]int,int] (19) -/
def x72b : XC := (.seq (.region [po 4 (.mv (.c (.i .i64 0))) 0])
  (.seq (.seq (.region [pm 6 0 0, po 7 (.lenx (.t 6)) 1, po 8 (.mv (.c (.i .i64 0))) 2])
  (.block 0 (.loop (.seq (.region [po 9 (.bin .lss (.t 8) (.t 7)) 0])
  (.seq (.cond (.t 9) .skip (.exit 0))
  (.seq (.block 1 (.seq (.region [pm 10 8 0, pm 5 10 1])
  (.seq (.region [pm 11 1 0, pm 12 0 1, pm 13 5 2, po 14 (.isl 1 (.t 12) (.t 13)) 3, po 15 (.load false 1 (.t 14)) 4, po 16 (.bin .eql (.t 11) (.t 15)) 5])
  (.cond (.t 16) (.seq (.region [pm 17 5 0, pm 4 17 1])
  .ret) .skip))))
  (.region [po 18 (.bin .add (.t 8) (.c (.i .i64 1))) 0, pm 8 18 1])))))))
  (.seq (.region [po 4 (.mv (.c (.i .i64 (-1)))) 0])
  .ret)))
def x72 : XFun := ⟨x72b, [(.t 4)]⟩
theorem x72_ok : compF Try.prog 72 = some x72 := by kernel_rfl
/-- slices.ContainsFunc[[]bollard/api.Block,bollard/api.Block] (9) -/
def x73b : XC := (.seq (.region [po 4 (.mv (.c (.b false))) 0])
  (.seq (.region [pm 5 0 0, pm 6 1 1, po 7 (.call (.c (.fn (.func 77) [] [])) [(.t 5), (.t 6)]) 2, po 8 (.bin .geq (.t 7) (.c (.i .i64 0))) 3, pm 4 8 4])
  .ret))
def x73 : XFun := ⟨x73b, [(.t 4)]⟩
theorem x73_ok : compF Try.prog 73 = some x73 := by kernel_rfl
/-- bollard/sendq.covered$1 (16) -/
def x74b : XC := (.seq (.region [po 2 (.box (.t 0)) 0, po 3 (.mv (.c (.b false))) 1])
  (.seq (.region [po 4 (.fadd 0 (.t 2)) 0, po 5 (.load false 1 (.t 4)) 1, po 6 (.cint .i64 (.t 5)) 2, po 7 (.load false 1 (.t 1)) 3, po 8 (.bin .leq (.t 6) (.t 7)) 4, pm 9 8 5, pg 10 (.load false 1 (.t 1)) 9 true 6, pg 11 (.fadd 1 (.t 2)) 9 true 7, pg 12 (.load false 1 (.t 11)) 9 true 8, pg 13 (.cint .i64 (.t 12)) 9 true 9, pg 14 (.bin .leq (.t 10) (.t 13)) 9 true 10, po 15 (.pick (.t 9) (.t 14) (.c (.b false))) 11, pm 3 15 12])
  .ret))
def x74 : XFun := ⟨x74b, [(.t 3)]⟩
theorem x74_ok : compF Try.prog 74 = some x74 := by kernel_rfl
/-- bollard/bollardref06.Same (43) -/
def x75b : XC := (.seq (.region [po 4 (.mv (.c (.b false))) 0])
  (.seq (.seq (.region [pm 6 0 0, po 7 (.lenx (.t 6)) 1, pm 8 1 2, po 9 (.lenx (.t 8)) 3, po 10 (.bin .neq (.t 7) (.t 9)) 4])
  (.cond (.t 10) (.seq (.region [po 4 (.mv (.c (.b false))) 0])
  .ret) .skip))
  (.seq (.seq (.region [po 5 (.mv (.c (.i .i64 0))) 0])
  (.block 0 (.loop (.seq (.seq (.region [pm 11 5 0, pm 12 0 1, po 13 (.lenx (.t 12)) 2, po 14 (.bin .lss (.t 11) (.t 13)) 3])
  (.cond (.t 14) .skip (.exit 0)))
  (.seq (.block 1 (.seq (.draw [pm 17 0 0, pm 18 5 1, ⟨(some 19), (.isl 2 (.t 17) (.t 18)), none, 2, [0, 1]⟩, ⟨(some 20), (.fadd 0 (.t 19)), none, 3, [0, 1, 2]⟩, pm 22 1 5, pm 23 5 6, ⟨(some 24), (.isl 2 (.t 22) (.t 23)), none, 7, [5, 6]⟩, ⟨(some 25), (.fadd 0 (.t 24)), none, 8, [5, 6, 7]⟩, ⟨(some 21), (.load false 1 (.t 20)), none, 4, [0, 1, 2, 3]⟩, ⟨(some 26), (.load false 1 (.t 25)), none, 9, [5, 6, 7, 8]⟩, ⟨(some 27), (.bin .neq (.t 21) (.t 26)), none, 10, [0, 1, 2, 3, 4, 5, 6, 7, 8, 9]⟩, ⟨(some 28), (.mv (.t 27)), none, 11, [0, 1, 2, 3, 4, 5, 6, 7, 8, 9, 10]⟩, ⟨(some 29), (.mv (.t 0)), (some (28, false)), 12, [0, 1, 2, 3, 4, 5, 6, 7, 8, 9, 10, 11]⟩, ⟨(some 30), (.mv (.t 5)), (some (28, false)), 13, [0, 1, 2, 3, 4, 5, 6, 7, 8, 9, 10, 11]⟩, ⟨(some 31), (.isl 2 (.t 29) (.t 30)), (some (28, false)), 14, [0, 1, 2, 3, 4, 5, 6, 7, 8, 9, 10, 11, 12, 13]⟩, ⟨(some 32), (.fadd 1 (.t 31)), (some (28, false)), 15, [0, 1, 2, 3, 4, 5, 6, 7, 8, 9, 10, 11, 12, 13, 14]⟩, ⟨(some 35), (.mv (.t 1)), (some (28, false)), 18, [0, 1, 2, 3, 4, 5, 6, 7, 8, 9, 10, 11]⟩, ⟨(some 36), (.mv (.t 5)), (some (28, false)), 19, [0, 1, 2, 3, 4, 5, 6, 7, 8, 9, 10, 11]⟩, ⟨(some 37), (.isl 2 (.t 35) (.t 36)), (some (28, false)), 20, [0, 1, 2, 3, 4, 5, 6, 7, 8, 9, 10, 11, 18, 19]⟩, ⟨(some 38), (.fadd 1 (.t 37)), (some (28, false)), 21, [0, 1, 2, 3, 4, 5, 6, 7, 8, 9, 10, 11, 18, 19, 20]⟩, ⟨(some 33), (.load false 1 (.t 32)), (some (28, false)), 16, [0, 1, 2, 3, 4, 5, 6, 7, 8, 9, 10, 11, 12, 13, 14, 15]⟩, ⟨(some 34), (.cb2s (.t 33)), (some (28, false)), 17, [0, 1, 2, 3, 4, 5, 6, 7, 8, 9, 10, 11, 12, 13, 14, 15, 16]⟩, ⟨(some 39), (.load false 1 (.t 38)), (some (28, false)), 22, [0, 1, 2, 3, 4, 5, 6, 7, 8, 9, 10, 11, 18, 19, 20, 21]⟩, ⟨(some 40), (.cb2s (.t 39)), (some (28, false)), 23, [0, 1, 2, 3, 4, 5, 6, 7, 8, 9, 10, 11, 18, 19, 20, 21, 22]⟩, ⟨(some 41), (.bin .neq (.t 34) (.t 40)), (some (28, false)), 24, [0, 1, 2, 3, 4, 5, 6, 7, 8, 9, 10, 11, 12, 13, 14, 15, 16, 17, 18, 19, 20, 21, 22, 23]⟩, ⟨(some 42), (.pick (.t 28) (.c (.b true)) (.t 41)), none, 25, [0, 1, 2, 3, 4, 5, 6, 7, 8, 9, 10, 11, 12, 13, 14, 15, 16, 17, 18, 19, 20, 21, 22, 23, 24]⟩])
  (.cond (.t 42) (.seq (.region [po 4 (.mv (.c (.b false))) 0])
  .ret) .skip)))
  (.region [pm 15 5 0, po 16 (.bin .add (.t 15) (.c (.i .i64 1))) 1, pm 5 16 2]))))))
  (.seq (.region [po 4 (.mv (.c (.b true))) 0])
  .ret))))
def x75 : XFun := ⟨x75b, [(.t 4)]⟩
theorem x75_ok : compF Try.prog 75 = some x75 := by kernel_rfl
/-- bollard/bollardref02.Dist (11) -/
def x76b : XC := (.seq (.region [po 4 (.mv (.c (.i .u32 0))) 0])
  (.seq (.region [pm 5 0 0, po 6 (.cint .i64 (.t 5)) 1, pm 7 1 2, po 8 (.cint .i64 (.t 7)) 3, po 9 (.call (.c (.fn (.func 78) [] [])) [(.t 6), (.t 8), (.c (.i .i64 4294967296))]) 4, po 10 (.cint .u32 (.t 9)) 5, pm 4 10 6])
  .ret))
def x76 : XFun := ⟨x76b, [(.t 4)]⟩
theorem x76_ok : compF Try.prog 76 = some x76 := by kernel_rfl
/-- slices.IndexFunc[[]bollard/api.Block,bollard/api.Block] (19) -/
def x77b : XC := (.seq (.region [po 4 (.mv (.c (.i .i64 0))) 0])
  (.seq (.seq (.region [pm 6 0 0, po 7 (.lenx (.t 6)) 1, po 8 (.mv (.c (.i .i64 0))) 2])
  (.block 0 (.loop (.seq (.region [po 9 (.bin .lss (.t 8) (.t 7)) 0])
  (.seq (.cond (.t 9) .skip (.exit 0))
  (.seq (.block 1 (.seq (.region [pm 10 8 0, pm 5 10 1])
  (.seq (.region [pm 11 1 0, pm 12 0 1, pm 13 5 2, po 14 (.isl 2 (.t 12) (.t 13)) 3, po 15 (.load true 2 (.t 14)) 4, po 16 (.call (.t 11) [(.t 15)]) 5])
  (.cond (.t 16) (.seq (.region [pm 17 5 0, pm 4 17 1])
  .ret) .skip))))
  (.region [po 18 (.bin .add (.t 8) (.c (.i .i64 1))) 0, pm 8 18 1])))))))
  (.seq (.region [po 4 (.mv (.c (.i .i64 (-1)))) 0])
  .ret)))
def x77 : XFun := ⟨x77b, [(.t 4)]⟩
theorem x77_ok : compF Try.prog 77 = some x77 := by kernel_rfl
/-- bollard/bollardref02.steps (18) -/
def x78b : XC := (.seq (.region [po 6 (.mv (.c (.i .i64 0))) 0])
  (.seq (.seq (.region [pm 7 1 0, pm 8 0 1, po 9 (.bin .geq (.t 7) (.t 8)) 2])
  (.cond (.t 9) (.seq (.region [pm 10 1 0, pm 11 0 1, po 12 (.bin .sub (.t 10) (.t 11)) 2, pm 6 12 3])
  .ret) .skip))
  (.seq (.region [pm 13 1 0, pm 14 2 1, po 15 (.bin .add (.t 13) (.t 14)) 2, pm 16 0 3, po 17 (.bin .sub (.t 15) (.t 16)) 4, pm 6 17 5])
  .ret)))
def x78 : XFun := ⟨x78b, [(.t 6)]⟩
theorem x78_ok : compF Try.prog 78 = some x78 := by kernel_rfl
def tab : Nat → Option XFun := fun g => match g with
  | 8 => some x8
  | 10 => some x10
  | 11 => some x11
  | 12 => some x12
  | 13 => some x13
  | 14 => some x14
  | 15 => some x15
  | 16 => some x16
  | 17 => some x17
  | 18 => some x18
  | 19 => some x19
  | 20 => some x20
  | 21 => some x21
  | 22 => some x22
  | 23 => some x23
  | 24 => some x24
  | 26 => some x26
  | 27 => some x27
  | 28 => some x28
  | 29 => some x29
  | 30 => some x30
  | 31 => some x31
  | 32 => some x32
  | 33 => some x33
  | 34 => some x34
  | 35 => some x35
  | 36 => some x36
  | 37 => some x37
  | 38 => some x38
  | 39 => some x39
  | 40 => some x40
  | 41 => some x41
  | 43 => some x43
  | 44 => some x44
  | 45 => some x45
  | 46 => some x46
  | 47 => some x47
  | 48 => some x48
  | 49 => some x49
  | 50 => some x50
  | 51 => some x51
  | 52 => some x52
  | 53 => some x53
  | 54 => some x54
  | 55 => some x55
  | 56 => some x56
  | 57 => some x57
  | 58 => some x58
  | 59 => some x59
  | 60 => some x60
  | 61 => some x61
  | 62 => some x62
  | 63 => some x63
  | 64 => some x64
  | 65 => some x65
  | 66 => some x66
  | 67 => some x67
  | 68 => some x68
  | 69 => some x69
  | 70 => some x70
  | 71 => some x71
  | 72 => some x72
  | 73 => some x73
  | 74 => some x74
  | 75 => some x75
  | 76 => some x76
  | 77 => some x77
  | 78 => some x78
  | _ => none
theorem tab_ok : TabOK Try.prog tab := by
  intro g F h
  unfold tab at h
  split at h
  · cases h; exact x8_ok
  · cases h; exact x10_ok
  · cases h; exact x11_ok
  · cases h; exact x12_ok
  · cases h; exact x13_ok
  · cases h; exact x14_ok
  · cases h; exact x15_ok
  · cases h; exact x16_ok
  · cases h; exact x17_ok
  · cases h; exact x18_ok
  · cases h; exact x19_ok
  · cases h; exact x20_ok
  · cases h; exact x21_ok
  · cases h; exact x22_ok
  · cases h; exact x23_ok
  · cases h; exact x24_ok
  · cases h; exact x26_ok
  · cases h; exact x27_ok
  · cases h; exact x28_ok
  · cases h; exact x29_ok
  · cases h; exact x30_ok
  · cases h; exact x31_ok
  · cases h; exact x32_ok
  · cases h; exact x33_ok
  · cases h; exact x34_ok
  · cases h; exact x35_ok
  · cases h; exact x36_ok
  · cases h; exact x37_ok
  · cases h; exact x38_ok
  · cases h; exact x39_ok
  · cases h; exact x40_ok
  · cases h; exact x41_ok
  · cases h; exact x43_ok
  · cases h; exact x44_ok
  · cases h; exact x45_ok
  · cases h; exact x46_ok
  · cases h; exact x47_ok
  · cases h; exact x48_ok
  · cases h; exact x49_ok
  · cases h; exact x50_ok
  · cases h; exact x51_ok
  · cases h; exact x52_ok
  · cases h; exact x53_ok
  · cases h; exact x54_ok
  · cases h; exact x55_ok
  · cases h; exact x56_ok
  · cases h; exact x57_ok
  · cases h; exact x58_ok
  · cases h; exact x59_ok
  · cases h; exact x60_ok
  · cases h; exact x61_ok
  · cases h; exact x62_ok
  · cases h; exact x63_ok
  · cases h; exact x64_ok
  · cases h; exact x65_ok
  · cases h; exact x66_ok
  · cases h; exact x67_ok
  · cases h; exact x68_ok
  · cases h; exact x69_ok
  · cases h; exact x70_ok
  · cases h; exact x71_ok
  · cases h; exact x72_ok
  · cases h; exact x73_ok
  · cases h; exact x74_ok
  · cases h; exact x75_ok
  · cases h; exact x76_ok
  · cases h; exact x77_ok
  · cases h; exact x78_ok
  · cases h
end Go.Proofs.Ytipcacpaadgagaa.E
