/- The compiled functions of the seat, as told by the evaluator's compiler; written by a program of this session, wip/eng/px.lean. It bears no condition. -/
import Derived.Test.YtfhbdddjclodhaaDoorE0
import Derived.Test.YtfhbdddjclodhaaDoorE19
import Derived.Test.YtfhbdddjclodhaaDoorChecked
namespace Go.Proofs.YtfhbdddjclodhaaDoor.E
abbrev zAA : List AV := [(.i .i64 0), (.i .u16 0), (.i .u8 0), (.i .u16 0), (.i .u32 0), (.s ⟨#[]⟩), (.s ⟨#[]⟩), (.b false), (.sl none 0 0 0)]
abbrev zAB : List AV := [(.i .u8 0), (.i .u16 0), (.i .u32 0), (.s ⟨#[]⟩), (.s ⟨#[]⟩)]
abbrev zAC : List AV := [(.i .i64 0), (.i .u8 0), (.i .u16 0), (.i .u32 0), (.s ⟨#[]⟩), (.s ⟨#[]⟩), (.b false), (.b false)]
abbrev zAD : AV := (.sl none 0 0 0)

set_option linter.unusedVariables false
/-- bollard/bollardlaw18.DcepEncodes (42) -/
def x3b : XC := (.seq (.region [po 1 (.box (.t 0)) 0, po 2 (.mv (.c (.b false))) 1])
  (.seq (.region [po 8 (.call (.c (.fn (.func 11) [] [])) []) 0, pm 3 8 1])
  (.seq (.seq (.region [po 9 (.fadd 3 (.t 1)) 0, po 10 (.load false 1 (.t 9)) 1, po 11 (.lens (.t 10)) 2, po 12 (.bin .gtr (.t 11) (.c (.i .i64 1000))) 3, pm 13 12 4, pg 14 (.fadd 4 (.t 1)) 13 false 5, pg 15 (.load false 1 (.t 14)) 13 false 6, pg 16 (.lens (.t 15)) 13 false 7, pg 17 (.bin .gtr (.t 16) (.c (.i .i64 1000))) 13 false 8, po 18 (.pick (.t 13) (.c (.b true)) (.t 17)) 9])
  (.cond (.t 18) (.seq (.region [pm 19 3 0, pm 2 19 1])
  .ret) .skip))
  (.seq (.region [po 21 (.load true 5 (.t 1)) 0, po 22 (.call (.c (.fn (.func 12) [] [])) [(.t 21)]) 1, pm 20 22 2, po 23 (.ext (.t 20) 0) 3, po 24 (.ext (.t 20) 1) 4, pm 4 23 5, pm 5 24 6])
  (.seq (.region [po 26 (.load true 5 (.t 1)) 0, po 27 (.call (.c (.fn (.func 14) [] [])) [(.t 26)]) 1, po 28 (.call (.c (.fn (.func 13) [] [])) [(.t 27)]) 2, pm 25 28 3, po 29 (.ext (.t 25) 0) 4, po 30 (.ext (.t 25) 1) 5, pm 6 29 6, pm 7 30 7])
  (.seq (.region [pm 31 3 0, pm 32 31 1, pg 33 (.mv (.t 5)) 32 true 2, pg 34 (.mv (.t 7)) 32 true 3, pg 35 (.bin .eql (.t 33) (.t 34)) 32 true 4, po 36 (.pick (.t 32) (.t 35) (.c (.b false))) 5, pm 37 36 6, pg 38 (.mv (.t 4)) 37 true 7, pg 39 (.mv (.t 6)) 37 true 8, pg 40 (.call (.c (.fn (.func 15) [] [])) [(.t 38), (.t 39)]) 37 true 9, po 41 (.pick (.t 37) (.t 40) (.c (.b false))) 10, pm 2 41 11])
  .ret))))))
def x3 : XFun := ⟨x3b, [(.t 2)]⟩
theorem x3_ok : compF Tryd.prog 3 = some x3 := by kernel_rfl
/-- bollard/bollardlaw18.DcepDecodes (34) -/
def x4b : XC := (.seq (.region [po 2 (.mv (.c (.b false))) 0])
  (.seq (.region [po 8 (.call (.c (.fn (.func 11) [] [])) []) 0, pm 3 8 1])
  (.seq (.seq (.region [pm 9 0 0, po 10 (.lenx (.t 9)) 1, po 11 (.bin .gtr (.t 10) (.c (.i .i64 1000))) 2])
  (.cond (.t 11) (.seq (.region [pm 12 3 0, pm 2 12 1])
  .ret) .skip))
  (.seq (.region [pm 14 0 0, po 15 (.call (.c (.fn (.func 16) [] [])) [(.t 14)]) 1, pm 13 15 2, po 16 (.ext (.t 13) 0) 3, po 17 (.ext (.t 13) 1) 4, ⟨(some 4), (.alloc zAB ), none, 5, []⟩, ⟨none, (.store 5 (.t 4) (.t 16)), none, 6, []⟩, pm 5 17 7])
  (.seq (.region [pm 19 0 0, po 20 (.call (.c (.fn (.func 17) [] [])) [(.t 19)]) 1, pm 18 20 2, po 21 (.ext (.t 18) 0) 3, po 22 (.ext (.t 18) 1) 4, ⟨(some 6), (.alloc zAB ), none, 5, []⟩, ⟨none, (.store 5 (.t 6) (.t 21)), none, 6, []⟩, pm 7 22 7])
  (.seq (.region [pm 23 3 0, pm 24 23 1, pg 25 (.mv (.t 5)) 24 true 2, pg 26 (.mv (.t 7)) 24 true 3, pg 27 (.bin .eql (.t 25) (.t 26)) 24 true 4, po 28 (.pick (.t 24) (.t 27) (.c (.b false))) 5, pm 29 28 6, pg 30 (.load true 5 (.t 4)) 29 true 7, pg 31 (.load true 5 (.t 6)) 29 true 8, pg 32 (.call (.c (.fn (.func 18) [] [])) [(.t 30), (.t 31)]) 29 true 9, po 33 (.pick (.t 29) (.t 32) (.c (.b false))) 10, pm 2 33 11])
  .ret))))))
def x4 : XFun := ⟨x4b, [(.t 2)]⟩
theorem x4_ok : compF Tryd.prog 4 = some x4 := by kernel_rfl
/-- bollard/bollardlaw18.DcepBack (87) -/
def x5b : XC := (.seq (.region [po 2 (.box (.t 0)) 0, po 4 (.mv (.c (.b false))) 1])
  (.seq (.region [po 14 (.call (.c (.fn (.func 11) [] [])) []) 0, pm 5 14 1])
  (.seq (.seq (.region [po 15 (.fadd 3 (.t 2)) 0, po 16 (.load false 1 (.t 15)) 1, po 17 (.lens (.t 16)) 2, po 18 (.bin .gtr (.t 17) (.c (.i .i64 1000))) 3, pm 19 18 4, pg 20 (.fadd 4 (.t 2)) 19 false 5, pg 21 (.load false 1 (.t 20)) 19 false 6, pg 22 (.lens (.t 21)) 19 false 7, pg 23 (.bin .gtr (.t 22) (.c (.i .i64 1000))) 19 false 8, po 24 (.pick (.t 19) (.c (.b true)) (.t 23)) 9, pm 25 24 10, pg 26 (.mv (.t 1)) 25 false 11, pg 27 (.lenx (.t 26)) 25 false 12, pg 28 (.bin .gtr (.t 27) (.c (.i .i64 1000))) 25 false 13, po 29 (.pick (.t 25) (.c (.b true)) (.t 28)) 14])
  (.cond (.t 29) (.seq (.region [pm 30 5 0, pm 4 30 1])
  .ret) .skip))
  (.seq (.region [po 32 (.load true 5 (.t 2)) 0, po 33 (.call (.c (.fn (.func 12) [] [])) [(.t 32)]) 1, pm 31 33 2, po 34 (.ext (.t 31) 0) 3, po 35 (.ext (.t 31) 1) 4, pm 6 34 5, pm 7 35 6])
  (.seq (.region [pm 37 6 0, po 38 (.call (.c (.fn (.func 16) [] [])) [(.t 37)]) 1, pm 36 38 2, po 39 (.ext (.t 36) 0) 3, po 40 (.ext (.t 36) 1) 4, ⟨(some 8), (.alloc zAB ), none, 5, []⟩, ⟨none, (.store 5 (.t 8) (.t 39)), none, 6, []⟩, pm 9 40 7])
  (.seq (.seq (.draw [pm 41 7 0, ⟨(some 42), (.bin .eql (.t 41) (.c (.i .i64 0))), none, 1, [0]⟩, ⟨(some 43), (.mv (.t 42)), none, 2, [0, 1]⟩, ⟨(some 44), (.mv (.t 9)), (some (43, true)), 3, [0, 1, 2]⟩, ⟨(some 45), (.bin .neq (.t 44) (.c (.i .i64 0))), (some (43, true)), 4, [0, 1, 2, 3]⟩, ⟨(some 46), (.mv (.t 45)), (some (43, true)), 5, [0, 1, 2, 3, 4]⟩, ⟨(some 47), (.load true 5 (.t 8)), (some (46, false)), 6, [0, 1, 2, 3, 4, 5]⟩, ⟨(some 48), (.load true 5 (.t 2)), (some (46, false)), 7, [0, 1, 2, 3, 4, 5]⟩, ⟨(some 49), (.call (.c (.fn (.func 14) [] [])) [(.t 48)]), (some (46, false)), 8, [0, 1, 2, 3, 4, 5, 7]⟩, ⟨(some 50), (.call (.c (.fn (.func 18) [] [])) [(.t 47), (.t 49)]), (some (46, false)), 9, [0, 1, 2, 3, 4, 5, 6, 7, 8]⟩, ⟨(some 51), (.unx .not (.t 50)), (some (46, false)), 10, [0, 1, 2, 3, 4, 5, 6, 7, 8, 9]⟩, ⟨(some 52), (.pick (.t 46) (.c (.b true)) (.t 51)), (some (43, true)), 11, [0, 1, 2, 3, 4, 5, 6, 7, 8, 9, 10]⟩, ⟨(some 53), (.pick (.t 43) (.t 52) (.c (.b false))), none, 12, [0, 1, 2, 3, 4, 5, 6, 7, 8, 9, 10, 11]⟩])
  (.cond (.t 53) (.seq (.region [po 4 (.mv (.c (.b false))) 0])
  .ret) .skip))
  (.seq (.region [pm 55 1 0, po 56 (.call (.c (.fn (.func 16) [] [])) [(.t 55)]) 1, pm 54 56 2, po 57 (.ext (.t 54) 0) 3, po 58 (.ext (.t 54) 1) 4, ⟨(some 10), (.alloc zAB ), none, 5, []⟩, ⟨none, (.store 5 (.t 10) (.t 57)), none, 6, []⟩, pm 11 58 7])
  (.seq (.region [po 60 (.load true 5 (.t 10)) 0, po 61 (.call (.c (.fn (.func 12) [] [])) [(.t 60)]) 1, pm 59 61 2, po 62 (.ext (.t 59) 0) 3, po 63 (.ext (.t 59) 1) 4, pm 12 62 5, pm 13 63 6])
  (.seq (.region [pm 64 5 0, pm 65 64 1, pg 66 (.mv (.t 7)) 65 true 2, pg 67 (.bin .eql (.t 66) (.c (.i .i64 0))) 65 true 3, pg 68 (.mv (.t 67)) 65 true 4, pg 69 (.mv (.t 6)) 68 false 5, pg 70 (.lenx (.t 69)) 68 false 6, pg 71 (.bin .eql (.t 70) (.c (.i .i64 0))) 68 false 7, pg 72 (.pick (.t 68) (.c (.b true)) (.t 71)) 65 true 8, po 73 (.pick (.t 65) (.t 72) (.c (.b false))) 9, pm 74 73 10, pg 75 (.mv (.t 11)) 74 true 11, pg 76 (.bin .neq (.t 75) (.c (.i .i64 0))) 74 true 12, pg 77 (.mv (.t 76)) 74 true 13, pg 78 (.mv (.t 13)) 77 false 14, pg 79 (.bin .eql (.t 78) (.c (.i .i64 0))) 77 false 15, pg 80 (.mv (.t 79)) 77 false 16, pg 81 (.mv (.t 12)) 80 true 17, pg 82 (.mv (.t 1)) 80 true 18, pg 83 (.call (.c (.fn (.func 15) [] [])) [(.t 81), (.t 82)]) 80 true 19, pg 84 (.pick (.t 80) (.t 83) (.c (.b false))) 77 false 20, pg 85 (.pick (.t 77) (.c (.b true)) (.t 84)) 74 true 21, po 86 (.pick (.t 74) (.t 85) (.c (.b false))) 22, pm 4 86 23])
  .ret)))))))))
def x5 : XFun := ⟨x5b, [(.t 4)]⟩
theorem x5_ok : compF Tryd.prog 5 = some x5 := by kernel_rfl
/-- bollard/bollardlaw18.DcepWraps (98) -/
def x6b : XC := (.seq (.region [po 6 (.mv (.c (.b false))) 0])
  (.seq (.region [po 20 (.call (.c (.fn (.func 11) [] [])) []) 0, pm 7 20 1])
  (.seq (.seq (.region [pm 21 1 0, po 22 (.lenx (.t 21)) 1, po 23 (.bin .gtr (.t 22) (.c (.i .i64 1000))) 2])
  (.cond (.t 23) (.seq (.region [pm 24 7 0, pm 6 24 1])
  .ret) .skip))
  (.seq (.region [pm 26 0 0, pm 27 1 1, po 28 (.call (.c (.fn (.func 19) [] [])) [(.t 26), (.t 27)]) 2, pm 25 28 3, po 29 (.ext (.t 25) 0) 4, po 30 (.ext (.t 25) 1) 5, pm 8 29 6, pm 9 30 7])
  (.seq (.region [pm 32 8 0, pm 33 9 1, po 34 (.call (.c (.fn (.func 20) [] [])) [(.t 32), (.t 33)]) 2, pm 31 34 3, po 35 (.ext (.t 31) 0) 4, po 36 (.ext (.t 31) 1) 5, po 37 (.ext (.t 31) 2) 6, pm 10 35 7, pm 11 36 8, pm 12 37 9])
  (.seq (.region [pm 39 2 0, pm 40 1 1, po 41 (.call (.c (.fn (.func 20) [] [])) [(.t 39), (.t 40)]) 2, pm 38 41 3, po 42 (.ext (.t 38) 0) 4, po 43 (.ext (.t 38) 1) 5, po 44 (.ext (.t 38) 2) 6, pm 13 42 7, pm 14 43 8, pm 15 44 9])
  (.seq (.region [pm 46 2 0, pm 47 1 1, po 48 (.call (.c (.fn (.func 21) [] [])) [(.t 46), (.t 47)]) 2, pm 45 48 3, po 49 (.ext (.t 45) 0) 4, po 50 (.ext (.t 45) 1) 5, po 51 (.ext (.t 45) 2) 6, pm 16 49 7, pm 17 50 8, pm 18 51 9])
  (.seq (.region [po 19 (.mv (.c (.i .u32 53))) 0])
  (.seq (.seq (.region [pm 52 0 0])
  (.cond (.t 52) (.region [po 19 (.mv (.c (.i .u32 51))) 0]) .skip))
  (.seq (.seq (.region [pm 53 1 0, po 54 (.lenx (.t 53)) 1, po 55 (.bin .eql (.t 54) (.c (.i .i64 0))) 2])
  (.cond (.t 55) (.seq (.region [pm 56 19 0, po 57 (.bin .add (.t 56) (.c (.i .u32 4))) 1, pm 19 57 2])
  (.seq (.region [pm 58 0 0])
  (.cond (.t 58) (.region [po 19 (.mv (.c (.i .u32 56))) 0]) .skip))) .skip))
  (.seq (.region [pm 59 7 0, pm 60 59 1, pg 61 (.mv (.t 8)) 60 true 2, pg 62 (.mv (.t 19)) 60 true 3, pg 63 (.bin .eql (.t 61) (.t 62)) 60 true 4, po 64 (.pick (.t 60) (.t 63) (.c (.b false))) 5, pm 65 64 6, pg 66 (.mv (.t 9)) 65 true 7, pg 67 (.lenx (.t 66)) 65 true 8, pg 68 (.bin .gtr (.t 67) (.c (.i .i64 0))) 65 true 9, po 69 (.pick (.t 65) (.t 68) (.c (.b false))) 10, pm 70 69 11, pg 71 (.mv (.t 10)) 70 true 12, pg 72 (.mv (.t 0)) 70 true 13, pg 73 (.beq false (.t 71) (.t 72)) 70 true 14, po 74 (.pick (.t 70) (.t 73) (.c (.b false))) 15, pm 75 74 16, pg 76 (.mv (.t 11)) 75 true 17, pg 77 (.mv (.t 1)) 75 true 18, pg 78 (.call (.c (.fn (.func 15) [] [])) [(.t 76), (.t 77)]) 75 true 19, po 79 (.pick (.t 75) (.t 78) (.c (.b false))) 20, pm 80 79 21, pg 81 (.mv (.t 12)) 80 true 22, po 82 (.pick (.t 80) (.t 81) (.c (.b false))) 23, pm 83 82 24, pg 84 (.mv (.t 13)) 83 true 25, pg 85 (.mv (.t 16)) 83 true 26, pg 86 (.beq false (.t 84) (.t 85)) 83 true 27, po 87 (.pick (.t 83) (.t 86) (.c (.b false))) 28, pm 88 87 29, pg 89 (.mv (.t 14)) 88 true 30, pg 90 (.mv (.t 17)) 88 true 31, pg 91 (.call (.c (.fn (.func 15) [] [])) [(.t 89), (.t 90)]) 88 true 32, po 92 (.pick (.t 88) (.t 91) (.c (.b false))) 33, pm 93 92 34, pg 94 (.mv (.t 15)) 93 true 35, pg 95 (.mv (.t 18)) 93 true 36, pg 96 (.beq false (.t 94) (.t 95)) 93 true 37, po 97 (.pick (.t 93) (.t 96) (.c (.b false))) 38, pm 6 97 39])
  .ret)))))))))))
def x6 : XFun := ⟨x6b, [(.t 6)]⟩
theorem x6_ok : compF Tryd.prog 6 = some x6 := by kernel_rfl
/-- bollard/bollardlaw18.DcepFull (137) -/
def x7b : XC := (.seq (.region [po 6 (.mv (.c (.b false))) 0])
  (.seq (.region [po 27 (.call (.c (.fn (.func 11) [] [])) []) 0, pm 7 27 1])
  (.seq (.region [pm 28 1 0, po 29 (.bin .and (.t 28) (.c (.i .i64 30))) 1, po 30 (.bin .add (.c (.i .i64 2)) (.t 29)) 2, pm 8 30 3])
  (.seq (.region [pm 31 0 0, pm 32 8 1, po 33 (.call (.c (.fn (.func 22) [] [])) [(.t 31), (.t 32)]) 2, pm 9 33 3])
  (.seq (.region [po 10 (.mv (.c zAD )) 0])
  (.seq (.seq (.region [po 11 (.mv (.c (.i .i64 0))) 0])
  (.block 0 (.loop (.seq (.seq (.region [pm 34 11 0, pm 35 8 1, po 36 (.bin .lss (.t 34) (.t 35)) 2])
  (.cond (.t 36) .skip (.exit 0)))
  (.seq (.block 1 (.seq (.seq (.region [pm 39 11 0, po 40 (.bin .rem (.t 39) (.c (.i .i64 2))) 1, po 41 (.bin .eql (.t 40) (.c (.i .i64 0))) 2, pm 42 0 3, po 43 (.beq true (.t 41) (.t 42)) 4])
  (.cond (.t 43) (.exit 1) .skip))
  (.seq (.region [pm 45 9 0, ⟨(some 46), (.build zAB  [(3, 1, (.c (.s ⟨#[120]⟩)))]), none, 1, []⟩, po 47 (.call (.c (.fn (.func 23) [] [])) [(.t 45), (.t 46)]) 2, pm 44 47 3, po 48 (.ext (.t 44) 0) 4, po 49 (.ext (.t 44) 1) 5, po 50 (.ext (.t 44) 2) 6, pm 12 48 7, pm 13 49 8, pm 14 50 9])
  (.seq (.seq (.region [pm 51 14 0, po 52 (.bin .neq (.t 51) (.c (.i .i64 0))) 1, pm 53 52 2, pg 54 (.mv (.t 12)) 53 false 3, pg 55 (.cint .i64 (.t 54)) 53 false 4, pg 56 (.mv (.t 11)) 53 false 5, pg 57 (.bin .neq (.t 55) (.t 56)) 53 false 6, po 58 (.pick (.t 53) (.c (.b true)) (.t 57)) 7])
  (.cond (.t 58) (.seq (.region [po 6 (.mv (.c (.b false))) 0])
  .ret) .skip))
  (.region [pm 59 10 0, pm 60 12 1, po 61 (.bslice [(.i .u16 0)] [(0, 1, (.t 60))] 1) 2, po 62 (.append 1 2 (.t 59) (.t 61)) 3, pm 10 62 4])))))
  (.region [pm 37 11 0, po 38 (.bin .add (.t 37) (.c (.i .i64 1))) 1, pm 11 38 2]))))))
  (.seq (.region [pm 64 9 0, ⟨(some 65), (.build zAB  []), none, 1, []⟩, po 66 (.call (.c (.fn (.func 23) [] [])) [(.t 64), (.t 65)]) 2, pm 63 66 3, po 67 (.ext (.t 63) 0) 4, po 68 (.ext (.t 63) 1) 5, po 69 (.ext (.t 63) 2) 6, pm 15 67 7, pm 16 68 8, pm 17 69 9])
  (.seq (.seq (.region [pm 70 17 0, po 71 (.bin .neq (.t 70) (.c (.i .i64 9))) 1, pm 72 71 2, pg 73 (.mv (.t 10)) 72 false 3, pg 74 (.lenx (.t 73)) 72 false 4, pg 75 (.bin .eql (.t 74) (.c (.i .i64 0))) 72 false 5, po 76 (.pick (.t 72) (.c (.b true)) (.t 75)) 6])
  (.cond (.t 76) (.seq (.region [po 6 (.mv (.c (.b false))) 0])
  .ret) .skip))
  (.seq (.region [pm 77 10 0, pm 78 2 1, po 79 (.bin .and (.t 78) (.c (.i .i64 65535))) 2, pm 80 10 3, po 81 (.lenx (.t 80)) 4, po 82 (.bin .rem (.t 79) (.t 81)) 5, po 83 (.isl 1 (.t 77) (.t 82)) 6, po 84 (.load false 1 (.t 83)) 7, pm 18 84 8])
  (.seq (.region [pm 85 9 0, pm 86 18 1, po 87 (.call (.c (.fn (.func 24) [] [])) [(.t 85), (.t 86)]) 2, pm 19 87 3])
  (.seq (.region [pm 89 9 0, ⟨(some 90), (.build zAB  []), none, 1, []⟩, po 91 (.call (.c (.fn (.func 23) [] [])) [(.t 89), (.t 90)]) 2, pm 88 91 3, po 92 (.ext (.t 88) 0) 4, po 93 (.ext (.t 88) 1) 5, po 94 (.ext (.t 88) 2) 6, pm 20 92 7, pm 21 93 8, pm 22 94 9])
  (.seq (.region [pm 95 9 0, pm 96 18 1, po 97 (.call (.c (.fn (.func 25) [] [])) [(.t 95), (.t 96)]) 2])
  (.seq (.region [pm 98 9 0, pm 99 18 1, po 100 (.call (.c (.fn (.func 26) [] [])) [(.t 98), (.t 99)]) 2, pm 23 100 3])
  (.seq (.region [pm 102 9 0, ⟨(some 103), (.build zAB  [(3, 1, (.c (.s ⟨#[121]⟩)))]), none, 1, []⟩, po 104 (.call (.c (.fn (.func 23) [] [])) [(.t 102), (.t 103)]) 2, pm 101 104 3, po 105 (.ext (.t 101) 0) 4, po 106 (.ext (.t 101) 1) 5, po 107 (.ext (.t 101) 2) 6, pm 24 105 7, pm 25 106 8, pm 26 107 9])
  (.seq (.region [pm 108 7 0, pm 109 108 1, pg 110 (.mv (.t 19)) 109 true 2, pg 111 (.bin .eql (.t 110) (.c (.i .i64 0))) 109 true 3, po 112 (.pick (.t 109) (.t 111) (.c (.b false))) 4, pm 113 112 5, pg 114 (.mv (.t 22)) 113 true 6, pg 115 (.bin .eql (.t 114) (.c (.i .i64 9))) 113 true 7, po 116 (.pick (.t 113) (.t 115) (.c (.b false))) 8, pm 117 116 9, pg 118 (.mv (.t 23)) 117 true 10, pg 119 (.unx .not (.t 118)) 117 true 11, po 120 (.pick (.t 117) (.t 119) (.c (.b false))) 12, pm 121 120 13, pg 122 (.mv (.t 26)) 121 true 14, pg 123 (.bin .eql (.t 122) (.c (.i .i64 0))) 121 true 15, po 124 (.pick (.t 121) (.t 123) (.c (.b false))) 16, pm 125 124 17, pg 126 (.mv (.t 24)) 125 true 18, pg 127 (.mv (.t 18)) 125 true 19, pg 128 (.bin .eql (.t 126) (.t 127)) 125 true 20, po 129 (.pick (.t 125) (.t 128) (.c (.b false))) 21, pm 130 129 22, pg 131 (.mv (.t 9)) 130 true 23, pg 132 (.mv (.t 18)) 130 true 24, pg 133 (.call (.c (.fn (.func 27) [] [])) [(.t 131), (.t 132)]) 130 true 25, pg 134 (.fld false 3 1 (.t 133)) 130 true 26, ⟨(some 135), (.bin .eql (.t 134) (.c (.s ⟨#[121]⟩))), (some (130, true)), 27, []⟩, po 136 (.pick (.t 130) (.t 135) (.c (.b false))) 28, pm 6 136 29])
  .ret)))))))))))))))
def x7 : XFun := ⟨x7b, [(.t 6)]⟩
theorem x7_ok : compF Tryd.prog 7 = some x7 := by kernel_rfl
/-- bollard/bollardlaw18.DcepApart (170) -/
def x8b : XC := (.seq (.region [po 4 (.mv (.c (.b false))) 0])
  (.seq (.region [po 22 (.call (.c (.fn (.func 11) [] [])) []) 0, pm 5 22 1])
  (.seq (.seq (.region [pm 23 0 0, po 24 (.lenx (.t 23)) 1, po 25 (.bin .gtr (.t 24) (.c (.i .i64 60))) 2])
  (.cond (.t 25) (.seq (.region [pm 26 5 0, pm 4 26 1])
  .ret) .skip))
  (.seq (.region [po 27 (.call (.c (.fn (.func 22) [] [])) [(.c (.b true)), (.c (.i .i64 64))]) 0, pm 6 27 1])
  (.seq (.region [po 28 (.call (.c (.fn (.func 22) [] [])) [(.c (.b false)), (.c (.i .i64 64))]) 0, pm 7 28 1])
  (.seq (.region [po 8 (.mv (.c zAD )) 0])
  (.seq (.region [po 9 (.mv (.c zAD )) 0])
  (.seq (.seq (.region [po 10 (.mv (.c (.i .i64 0))) 0])
  (.block 0 (.loop (.seq (.seq (.region [pm 29 10 0, pm 30 0 1, po 31 (.lenx (.t 30)) 2, po 32 (.bin .lss (.t 29) (.t 31)) 3])
  (.cond (.t 32) .skip (.exit 0)))
  (.seq (.block 1 (.seq (.seq (.region [pm 35 0 0, pm 36 10 1, po 37 (.isl 5 (.t 35) (.t 36)) 2, po 38 (.fadd 3 (.t 37)) 3, po 39 (.load false 1 (.t 38)) 4, po 40 (.lens (.t 39)) 5, po 41 (.bin .gtr (.t 40) (.c (.i .i64 300))) 6, pm 42 41 7, pg 43 (.mv (.t 0)) 42 false 8, pg 44 (.mv (.t 10)) 42 false 9, pg 45 (.isl 5 (.t 43) (.t 44)) 42 false 10, pg 46 (.fadd 4 (.t 45)) 42 false 11, pg 47 (.load false 1 (.t 46)) 42 false 12, pg 48 (.lens (.t 47)) 42 false 13, pg 49 (.bin .gtr (.t 48) (.c (.i .i64 300))) 42 false 14, po 50 (.pick (.t 42) (.c (.b true)) (.t 49)) 15])
  (.cond (.t 50) (.seq (.region [pm 51 5 0, pm 4 51 1])
  .ret) .skip))
  (.seq (.region [pm 52 10 0, pm 53 1 1, po 54 (.lenx (.t 53)) 2, po 55 (.bin .lss (.t 52) (.t 54)) 3, pm 56 55 4, pg 57 (.mv (.t 1)) 56 true 5, pg 58 (.mv (.t 10)) 56 true 6, pg 59 (.isl 1 (.t 57) (.t 58)) 56 true 7, pg 60 (.load false 1 (.t 59)) 56 true 8, po 61 (.pick (.t 56) (.t 60) (.c (.b false))) 9, pm 11 61 10])
  (.seq (.region [po 12 (.mv (.c (.i .u16 0))) 0])
  (.seq (.region [po 13 (.mv (.c zAD )) 0])
  (.seq (.region [po 14 (.mv (.c (.i .i64 0))) 0])
  (.seq (.seq (.region [pm 62 11 0])
  (.cond (.t 62) (.region [pm 64 6 0, pm 65 0 1, pm 66 10 2, po 67 (.isl 5 (.t 65) (.t 66)) 3, po 68 (.load true 5 (.t 67)) 4, po 69 (.call (.c (.fn (.func 23) [] [])) [(.t 64), (.t 68)]) 5, pm 63 69 6, po 70 (.ext (.t 63) 0) 7, po 71 (.ext (.t 63) 1) 8, po 72 (.ext (.t 63) 2) 9, pm 12 70 10, pm 13 71 11, pm 14 72 12]) (.region [pm 74 7 0, pm 75 0 1, pm 76 10 2, po 77 (.isl 5 (.t 75) (.t 76)) 3, po 78 (.load true 5 (.t 77)) 4, po 79 (.call (.c (.fn (.func 23) [] [])) [(.t 74), (.t 78)]) 5, pm 73 79 6, po 80 (.ext (.t 73) 0) 7, po 81 (.ext (.t 73) 1) 8, po 82 (.ext (.t 73) 2) 9, pm 12 80 10, pm 13 81 11, pm 14 82 12])))
  (.seq (.seq (.region [pm 83 14 0, po 84 (.bin .neq (.t 83) (.c (.i .i64 0))) 1])
  (.cond (.t 84) (.exit 1) .skip))
  (.seq (.seq (.region [pm 85 12 0, po 86 (.bin .rem (.t 85) (.c (.i .u16 2))) 1, po 87 (.bin .eql (.t 86) (.c (.i .u16 0))) 2, pm 88 11 3, po 89 (.beq true (.t 87) (.t 88)) 4])
  (.cond (.t 89) (.seq (.region [po 4 (.mv (.c (.b false))) 0])
  .ret) .skip))
  (.seq (.region [pm 90 12 0, pm 91 13 1, po 92 (.build [(.i .u16 0), (.b false), (.i .u32 0), zAD ] [(0, 1, (.t 90)), (2, 1, (.c (.i .u32 50))), (3, 1, (.t 91))]) 2, po 15 (.alloc [(.i .u16 0), (.b false), (.i .u32 0), zAD ]) 3, ⟨none, (.store 4 (.t 15) (.t 92)), none, 4, []⟩])
  (.seq (.region [pm 93 11 0])
  (.cond (.t 93) (.region [pm 94 9 0, po 95 (.load true 4 (.t 15)) 1, po 96 (.bslice [(.i .u16 0), (.b false), (.i .u32 0), zAD ] [(0, 4, (.t 95))] 1) 2, po 97 (.append 4 32 (.t 94) (.t 96)) 3, pm 9 97 4]) (.region [pm 98 8 0, po 99 (.load true 4 (.t 15)) 1, po 100 (.bslice [(.i .u16 0), (.b false), (.i .u32 0), zAD ] [(0, 4, (.t 99))] 1) 2, po 101 (.append 4 32 (.t 98) (.t 100)) 3, pm 8 101 4])))))))))))))
  (.region [pm 33 10 0, po 34 (.bin .add (.t 33) (.c (.i .i64 1))) 1, pm 10 34 2]))))))
  (.seq (.seq (.region [po 16 (.mv (.c (.i .i64 0))) 0])
  (.block 2 (.loop (.seq (.seq (.region [pm 102 16 0, po 103 (.bin .lss (.t 102) (.c (.i .i64 2))) 1])
  (.cond (.t 103) .skip (.exit 2)))
  (.seq (.block 3 (.seq (.region [pm 107 7 0, pm 108 9 1, po 109 (.call (.c (.fn (.func 28) [] [])) [(.t 107), (.t 108)]) 2, pm 106 109 3, po 110 (.ext (.t 106) 0) 4, po 111 (.ext (.t 106) 1) 5, pm 17 110 6, pm 18 111 7])
  (.seq (.region [pm 113 6 0, pm 114 8 1, po 115 (.call (.c (.fn (.func 28) [] [])) [(.t 113), (.t 114)]) 2, pm 112 115 3, po 116 (.ext (.t 112) 0) 4, po 117 (.ext (.t 112) 1) 5, pm 19 116 6, pm 20 117 7])
  (.seq (.seq (.region [pm 118 18 0, po 119 (.unx .not (.t 118)) 1, pm 120 119 2, pg 121 (.mv (.t 20)) 120 false 3, pg 122 (.unx .not (.t 121)) 120 false 4, po 123 (.pick (.t 120) (.c (.b true)) (.t 122)) 5])
  (.cond (.t 123) (.seq (.region [po 4 (.mv (.c (.b false))) 0])
  .ret) .skip))
  (.seq (.region [pm 124 17 0, pm 8 124 1])
  (.region [pm 125 19 0, pm 9 125 1]))))))
  (.region [pm 104 16 0, po 105 (.bin .add (.t 104) (.c (.i .i64 1))) 1, pm 16 105 2]))))))
  (.seq (.seq (.region [po 21 (.mv (.c (.i .i64 0))) 0])
  (.block 4 (.loop (.seq (.seq (.region [pm 126 21 0, po 127 (.bin .lss (.t 126) (.c (.i .i64 64))) 1])
  (.cond (.t 127) .skip (.exit 4)))
  (.seq (.block 5 (.seq (.region [pm 130 6 0, pm 131 21 1, po 132 (.cint .u16 (.t 131)) 2, po 133 (.call (.c (.fn (.func 29) [] [])) [(.t 130), (.t 132)]) 3, pm 134 7 4, pm 135 21 5, po 136 (.cint .u16 (.t 135)) 6, po 137 (.call (.c (.fn (.func 29) [] [])) [(.t 134), (.t 136)]) 7, po 138 (.bin .neq (.t 133) (.t 137)) 8, pm 139 138 9, pg 140 (.mv (.t 6)) 139 false 10, pg 141 (.mv (.t 21)) 139 false 11, pg 142 (.cint .u16 (.t 141)) 139 false 12, pg 143 (.call (.c (.fn (.func 29) [] [])) [(.t 140), (.t 142)]) 139 false 13, pg 144 (.bin .eql (.t 143) (.c (.i .i64 1))) 139 false 14, po 145 (.pick (.t 139) (.c (.b true)) (.t 144)) 15, pm 146 145 16, pg 147 (.mv (.t 6)) 146 false 17, pg 148 (.mv (.t 21)) 146 false 18, pg 149 (.cint .u16 (.t 148)) 146 false 19, pg 150 (.call (.c (.fn (.func 27) [] [])) [(.t 147), (.t 149)]) 146 false 20, pg 151 (.mv (.t 7)) 146 false 21, pg 152 (.mv (.t 21)) 146 false 22, pg 153 (.cint .u16 (.t 152)) 146 false 23, pg 154 (.call (.c (.fn (.func 27) [] [])) [(.t 151), (.t 153)]) 146 false 24, pg 155 (.call (.c (.fn (.func 14) [] [])) [(.t 154)]) 146 false 25, pg 156 (.call (.c (.fn (.func 18) [] [])) [(.t 150), (.t 155)]) 146 false 26, pg 157 (.unx .not (.t 156)) 146 false 27, po 158 (.pick (.t 146) (.c (.b true)) (.t 157)) 28])
  (.cond (.t 158) (.seq (.region [po 4 (.mv (.c (.b false))) 0])
  .ret) .skip)))
  (.region [pm 128 21 0, po 129 (.bin .add (.t 128) (.c (.i .i64 1))) 1, pm 21 129 2]))))))
  (.seq (.region [pm 159 5 0, pm 160 159 1, pg 161 (.mv (.t 8)) 160 true 2, pg 162 (.lenx (.t 161)) 160 true 3, pg 163 (.bin .eql (.t 162) (.c (.i .i64 0))) 160 true 4, po 164 (.pick (.t 160) (.t 163) (.c (.b false))) 5, pm 165 164 6, pg 166 (.mv (.t 9)) 165 true 7, pg 167 (.lenx (.t 166)) 165 true 8, pg 168 (.bin .eql (.t 167) (.c (.i .i64 0))) 165 true 9, po 169 (.pick (.t 165) (.t 168) (.c (.b false))) 10, pm 4 169 11])
  .ret)))))))))))
def x8 : XFun := ⟨x8b, [(.t 4)]⟩
theorem x8_ok : compF Tryd.prog 8 = some x8 := by kernel_rfl
/-- bollard/bollardlaw18.DcepPlays (127) -/
def x9b : XC := (.seq (.region [po 6 (.mv (.c (.b false))) 0])
  (.seq (.region [po 17 (.call (.c (.fn (.func 11) [] [])) []) 0, pm 7 17 1])
  (.seq (.seq (.region [pm 18 2 0, po 19 (.lenx (.t 18)) 1, po 20 (.bin .gtr (.t 19) (.c (.i .i64 60))) 2])
  (.cond (.t 20) (.seq (.region [pm 21 7 0, pm 6 21 1])
  .ret) .skip))
  (.seq (.region [pm 22 0 0, pm 23 1 1, po 24 (.call (.c (.fn (.func 22) [] [])) [(.t 22), (.t 23)]) 2, pm 8 24 3])
  (.seq (.region [pm 25 0 0, pm 26 1 1, po 27 (.call (.c (.fn (.func 30) [] [])) [(.t 25), (.t 26)]) 2, pm 9 27 3])
  (.seq (.seq (.region [po 10 (.mv (.c (.i .i64 0))) 0])
  (.block 0 (.loop (.seq (.seq (.region [pm 28 10 0, pm 29 2 1, po 30 (.lenx (.t 29)) 2, po 31 (.bin .lss (.t 28) (.t 30)) 3])
  (.cond (.t 31) .skip (.exit 0)))
  (.seq (.block 1 (.seq (.seq (.region [pm 34 2 0, pm 35 10 1, po 36 (.isl 11 (.t 34) (.t 35)) 2, po 37 (.fadd 6 (.t 36)) 3, po 38 (.fadd 3 (.t 37)) 4, po 39 (.load false 1 (.t 38)) 5, po 40 (.lenx (.t 39)) 6, po 41 (.bin .gtr (.t 40) (.c (.i .i64 600))) 7, pm 42 41 8, pg 43 (.mv (.t 2)) 42 false 9, pg 44 (.mv (.t 10)) 42 false 10, pg 45 (.isl 11 (.t 43) (.t 44)) 42 false 11, pg 46 (.fadd 1 (.t 45)) 42 false 12, pg 47 (.fadd 3 (.t 46)) 42 false 13, pg 48 (.load false 1 (.t 47)) 42 false 14, pg 49 (.lens (.t 48)) 42 false 15, pg 50 (.bin .gtr (.t 49) (.c (.i .i64 600))) 42 false 16, po 51 (.pick (.t 42) (.c (.b true)) (.t 50)) 17, pm 52 51 18, pg 53 (.mv (.t 2)) 52 false 19, pg 54 (.mv (.t 10)) 52 false 20, pg 55 (.isl 11 (.t 53) (.t 54)) 52 false 21, pg 56 (.fadd 1 (.t 55)) 52 false 22, pg 57 (.fadd 4 (.t 56)) 52 false 23, pg 58 (.load false 1 (.t 57)) 52 false 24, pg 59 (.lens (.t 58)) 52 false 25, pg 60 (.bin .gtr (.t 59) (.c (.i .i64 600))) 52 false 26, po 61 (.pick (.t 52) (.c (.b true)) (.t 60)) 27])
  (.cond (.t 61) (.seq (.region [pm 62 7 0, pm 6 62 1])
  .ret) .skip))
  (.seq (.seq (.region [pm 63 8 0, pm 64 9 1, pm 65 2 2, pm 66 10 3, po 67 (.isl 11 (.t 65) (.t 66)) 4, po 68 (.load true 11 (.t 67)) 5, po 69 (.call (.c (.fn (.func 31) [] [])) [(.t 63), (.t 64), (.t 68)]) 6, po 70 (.unx .not (.t 69)) 7])
  (.cond (.t 70) (.seq (.region [po 6 (.mv (.c (.b false))) 0])
  .ret) .skip))
  (.seq (.seq (.region [po 11 (.mv (.c (.i .i64 0))) 0])
  (.block 2 (.loop (.seq (.seq (.region [pm 71 11 0, po 72 (.bin .lss (.t 71) (.c (.i .i64 6))) 1])
  (.cond (.t 72) .skip (.exit 2)))
  (.seq (.block 3 (.seq (.region [pm 75 9 0, pm 76 11 1, po 77 (.cint .u16 (.t 76)) 2, po 78 (.call (.c (.fn (.func 32) [] [])) [(.t 75), (.t 77)]) 3, ⟨(some 12), (.alloc zAC ), none, 4, []⟩, ⟨none, (.store 8 (.t 12) (.t 78)), none, 5, []⟩])
  (.seq (.draw [pm 79 8 0, pm 80 11 1, ⟨(some 81), (.cint .u16 (.t 80)), none, 2, [1]⟩, po 83 (.fadd 0 (.t 12)) 4, ⟨(some 84), (.load false 1 (.t 83)), none, 5, [4]⟩, ⟨(some 82), (.call (.c (.fn (.func 29) [] [])) [(.t 79), (.t 81)]), none, 3, [0, 1, 2]⟩, ⟨(some 85), (.bin .neq (.t 82) (.t 84)), none, 6, [0, 1, 2, 3, 4, 5]⟩, ⟨(some 86), (.mv (.t 85)), none, 7, [0, 1, 2, 3, 4, 5, 6]⟩, ⟨(some 87), (.mv (.t 8)), (some (86, false)), 8, [0, 1, 2, 3, 4, 5, 6, 7]⟩, ⟨(some 88), (.mv (.t 11)), (some (86, false)), 9, [0, 1, 2, 3, 4, 5, 6, 7]⟩, ⟨(some 89), (.cint .u16 (.t 88)), (some (86, false)), 10, [0, 1, 2, 3, 4, 5, 6, 7, 9]⟩, ⟨(some 91), (.fadd 1 (.t 12)), (some (86, false)), 12, [0, 1, 2, 3, 4, 5, 6, 7]⟩, ⟨(some 92), (.load true 5 (.t 91)), (some (86, false)), 13, [0, 1, 2, 3, 4, 5, 6, 7, 12]⟩, ⟨(some 90), (.call (.c (.fn (.func 27) [] [])) [(.t 87), (.t 89)]), (some (86, false)), 11, [0, 1, 2, 3, 4, 5, 6, 7, 8, 9, 10]⟩, ⟨(some 93), (.call (.c (.fn (.func 18) [] [])) [(.t 90), (.t 92)]), (some (86, false)), 14, [0, 1, 2, 3, 4, 5, 6, 7, 8, 9, 10, 11, 12, 13]⟩, ⟨(some 94), (.unx .not (.t 93)), (some (86, false)), 15, [0, 1, 2, 3, 4, 5, 6, 7, 8, 9, 10, 11, 12, 13, 14]⟩, ⟨(some 95), (.pick (.t 86) (.c (.b true)) (.t 94)), none, 16, [0, 1, 2, 3, 4, 5, 6, 7, 8, 9, 10, 11, 12, 13, 14, 15]⟩])
  (.cond (.t 95) (.seq (.region [po 6 (.mv (.c (.b false))) 0])
  .ret) .skip))))
  (.region [pm 73 11 0, po 74 (.bin .add (.t 73) (.c (.i .i64 1))) 1, pm 11 74 2]))))))
  (.seq (.region [pm 97 8 0, pm 98 2 1, pm 99 10 2, po 100 (.isl 11 (.t 98) (.t 99)) 3, po 101 (.fadd 1 (.t 100)) 4, po 102 (.fadd 3 (.t 101)) 5, po 103 (.load false 1 (.t 102)) 6, po 104 (.call (.c (.fn (.func 33) [] [])) [(.t 97), (.t 103)]) 7, pm 96 104 8, po 105 (.ext (.t 96) 0) 9, po 106 (.ext (.t 96) 1) 10, pm 13 105 11, pm 14 106 12])
  (.seq (.region [pm 108 9 0, pm 109 2 1, pm 110 10 2, po 111 (.isl 11 (.t 109) (.t 110)) 3, po 112 (.fadd 1 (.t 111)) 4, po 113 (.fadd 3 (.t 112)) 5, po 114 (.load false 1 (.t 113)) 6, po 115 (.call (.c (.fn (.func 34) [] [])) [(.t 108), (.t 114)]) 7, pm 107 115 8, po 116 (.ext (.t 107) 0) 9, po 117 (.ext (.t 107) 1) 10, pm 15 116 11, pm 16 117 12])
  (.seq (.region [pm 118 13 0, pm 119 15 1, po 120 (.bin .neq (.t 118) (.t 119)) 2, pm 121 120 3, pg 122 (.mv (.t 14)) 121 false 4, pg 123 (.mv (.t 16)) 121 false 5, pg 124 (.beq true (.t 122) (.t 123)) 121 false 6, po 125 (.pick (.t 121) (.c (.b true)) (.t 124)) 7])
  (.cond (.t 125) (.seq (.region [po 6 (.mv (.c (.b false))) 0])
  .ret) .skip))))))))
  (.region [pm 32 10 0, po 33 (.bin .add (.t 32) (.c (.i .i64 1))) 1, pm 10 33 2]))))))
  (.seq (.region [pm 126 7 0, pm 6 126 1])
  .ret)))))))
def x9 : XFun := ⟨x9b, [(.t 6)]⟩
theorem x9_ok : compF Tryd.prog 9 = some x9 := by kernel_rfl
/-- bollard/bollardlaw18.DcepNone (113) -/
def x10b : XC := (.seq (.region [po 2 (.box (.t 0)) 0, po 3 (.box (.t 1)) 1, po 4 (.mv (.c (.b false))) 2])
  (.seq (.region [po 15 (.call (.c (.fn (.func 11) [] [])) []) 0, pm 5 15 1])
  (.seq (.seq (.region [po 16 (.fadd 3 (.t 2)) 0, po 17 (.load false 1 (.t 16)) 1, po 18 (.lens (.t 17)) 2, po 19 (.bin .gtr (.t 18) (.c (.i .i64 1000))) 3, pm 20 19 4, pg 21 (.fadd 4 (.t 2)) 20 false 5, pg 22 (.load false 1 (.t 21)) 20 false 6, pg 23 (.lens (.t 22)) 20 false 7, pg 24 (.bin .gtr (.t 23) (.c (.i .i64 1000))) 20 false 8, po 25 (.pick (.t 20) (.c (.b true)) (.t 24)) 9, pm 26 25 10, pg 27 (.fadd 3 (.t 3)) 26 false 11, pg 28 (.load false 1 (.t 27)) 26 false 12, pg 29 (.lenx (.t 28)) 26 false 13, pg 30 (.bin .gtr (.t 29) (.c (.i .i64 1000))) 26 false 14, po 31 (.pick (.t 26) (.c (.b true)) (.t 30)) 15])
  (.cond (.t 31) (.seq (.region [pm 32 5 0, pm 4 32 1])
  .ret) .skip))
  (.seq (.region [po 6 (.mv (.c (.p none))) 0])
  (.seq (.region [pm 34 6 0, po 35 (.load true 5 (.t 2)) 1, po 36 (.call (.c (.fn (.func 23) [] [])) [(.t 34), (.t 35)]) 2, pm 33 36 3, po 37 (.ext (.t 33) 0) 4, po 38 (.ext (.t 33) 1) 5, po 39 (.ext (.t 33) 2) 6, pm 7 37 7, pm 8 38 8, pm 9 39 9])
  (.seq (.region [pm 41 6 0, po 42 (.load true 4 (.t 3)) 1, po 43 (.call (.c (.fn (.func 35) [] [])) [(.t 41), (.t 42)]) 2, pm 40 43 3, po 44 (.ext (.t 40) 0) 4, po 45 (.ext (.t 40) 1) 5, po 46 (.ext (.t 40) 2) 6, ⟨(some 10), (.alloc zAA ), none, 7, []⟩, ⟨none, (.store 9 (.t 10) (.t 44)), none, 8, []⟩, pm 11 45 9, pm 12 46 10])
  (.seq (.region [pm 47 6 0, po 48 (.fadd 0 (.t 3)) 1, po 49 (.load false 1 (.t 48)) 2, po 50 (.call (.c (.fn (.func 25) [] [])) [(.t 47), (.t 49)]) 3])
  (.seq (.region [pm 52 6 0, po 53 (.fadd 3 (.t 2)) 1, po 54 (.load false 1 (.t 53)) 2, po 55 (.call (.c (.fn (.func 33) [] [])) [(.t 52), (.t 54)]) 3, pm 51 55 4, po 56 (.ext (.t 51) 0) 5, po 57 (.ext (.t 51) 1) 6, pm 13 56 7, pm 14 57 8])
  (.seq (.region [pm 58 5 0, pm 59 58 1, pg 60 (.mv (.t 8)) 59 true 2, pg 61 (.lenx (.t 60)) 59 true 3, pg 62 (.mv (.t 11)) 59 true 4, pg 63 (.lenx (.t 62)) 59 true 5, pg 64 (.bin .add (.t 61) (.t 63)) 59 true 6, pg 65 (.bin .eql (.t 64) (.c (.i .i64 0))) 59 true 7, po 66 (.pick (.t 59) (.t 65) (.c (.b false))) 8, pm 67 66 9, pg 68 (.mv (.t 9)) 67 true 10, pg 69 (.bin .eql (.t 68) (.c (.i .i64 1))) 67 true 11, po 70 (.pick (.t 67) (.t 69) (.c (.b false))) 12, pm 71 70 13, pg 72 (.mv (.t 12)) 71 true 14, pg 73 (.bin .eql (.t 72) (.c (.i .i64 1))) 71 true 15, po 74 (.pick (.t 71) (.t 73) (.c (.b false))) 16, pm 75 74 17, pg 76 (.fadd 0 (.t 10)) 75 true 18, pg 77 (.load false 1 (.t 76)) 75 true 19, pg 78 (.bin .eql (.t 77) (.c (.i .i64 0))) 75 true 20, po 79 (.pick (.t 75) (.t 78) (.c (.b false))) 21, pm 80 79 22, pg 81 (.mv (.t 6)) 80 true 23, pg 82 (.fadd 0 (.t 3)) 80 true 24, pg 83 (.load false 1 (.t 82)) 80 true 25, pg 84 (.call (.c (.fn (.func 24) [] [])) [(.t 81), (.t 83)]) 80 true 26, pg 85 (.bin .eql (.t 84) (.c (.i .i64 11))) 80 true 27, po 86 (.pick (.t 80) (.t 85) (.c (.b false))) 28, pm 87 86 29, pg 88 (.mv (.t 6)) 87 true 30, pg 89 (.fadd 0 (.t 3)) 87 true 31, pg 90 (.load false 1 (.t 89)) 87 true 32, pg 91 (.call (.c (.fn (.func 26) [] [])) [(.t 88), (.t 90)]) 87 true 33, pg 92 (.unx .not (.t 91)) 87 true 34, po 93 (.pick (.t 87) (.t 92) (.c (.b false))) 35, pm 94 93 36, pg 95 (.mv (.t 6)) 94 true 37, pg 96 (.fadd 0 (.t 3)) 94 true 38, pg 97 (.load false 1 (.t 96)) 94 true 39, pg 98 (.call (.c (.fn (.func 29) [] [])) [(.t 95), (.t 97)]) 94 true 40, pg 99 (.bin .eql (.t 98) (.c (.i .i64 0))) 94 true 41, po 100 (.pick (.t 94) (.t 99) (.c (.b false))) 42, pm 101 100 43, pg 102 (.mv (.t 14)) 101 true 44, pg 103 (.unx .not (.t 102)) 101 true 45, po 104 (.pick (.t 101) (.t 103) (.c (.b false))) 46, pm 105 104 47, pg 106 (.mv (.t 6)) 105 true 48, pg 107 (.fadd 0 (.t 3)) 105 true 49, pg 108 (.load false 1 (.t 107)) 105 true 50, pg 109 (.call (.c (.fn (.func 27) [] [])) [(.t 106), (.t 108)]) 105 true 51, ⟨(some 110), (.build zAB  []), (some (105, true)), 52, []⟩, pg 111 (.call (.c (.fn (.func 18) [] [])) [(.t 109), (.t 110)]) 105 true 53, po 112 (.pick (.t 105) (.t 111) (.c (.b false))) 54, pm 4 112 55])
  .ret)))))))))
def x10 : XFun := ⟨x10b, [(.t 4)]⟩
theorem x10_ok : compF Tryd.prog 10 = some x10 := by kernel_rfl
/-- bollard/bollardlaw18.awake (97) -/
def x11b : XC := (.seq (.region [po 0 (.mv (.c (.b false))) 0])
  (.seq (.region [⟨(some 15), (.build zAB  [(3, 1, (.c (.s ⟨#[97]⟩)))]), none, 0, []⟩, po 16 (.call (.c (.fn (.func 12) [] [])) [(.t 15)]) 1, pm 14 16 2, po 17 (.ext (.t 14) 0) 3, po 18 (.ext (.t 14) 1) 4, pm 1 17 5, pm 2 18 6])
  (.seq (.region [pm 20 1 0, po 21 (.call (.c (.fn (.func 16) [] [])) [(.t 20)]) 1, pm 19 21 2, po 22 (.ext (.t 19) 0) 3, po 23 (.ext (.t 19) 1) 4, ⟨(some 3), (.alloc zAB ), none, 5, []⟩, ⟨none, (.store 5 (.t 3) (.t 22)), none, 6, []⟩, pm 4 23 7])
  (.seq (.region [po 25 (.call (.c (.fn (.func 19) [] [])) [(.c (.b true)), (.c zAD )]) 0, pm 24 25 1, po 26 (.ext (.t 24) 0) 2, po 27 (.ext (.t 24) 1) 3, pm 5 26 4, pm 6 27 5])
  (.seq (.region [po 29 (.bslice [(.i .u8 0)] [(0, 1, (.c (.i .u8 7)))] 1) 0, po 30 (.call (.c (.fn (.func 20) [] [])) [(.c (.i .u32 53)), (.t 29)]) 1, pm 28 30 2, po 31 (.ext (.t 28) 0) 3, po 32 (.ext (.t 28) 1) 4, po 33 (.ext (.t 28) 2) 5, pm 7 31 6, pm 8 32 7, pm 9 33 8])
  (.seq (.region [po 34 (.call (.c (.fn (.func 22) [] [])) [(.c (.b true)), (.c (.i .i64 4))]) 0, pm 10 34 1])
  (.seq (.region [pm 36 10 0, ⟨(some 37), (.build zAB  [(3, 1, (.c (.s ⟨#[120]⟩)))]), none, 1, []⟩, po 38 (.call (.c (.fn (.func 23) [] [])) [(.t 36), (.t 37)]) 2, pm 35 38 3, po 39 (.ext (.t 35) 0) 4, po 40 (.ext (.t 35) 1) 5, po 41 (.ext (.t 35) 2) 6, pm 11 39 7, pm 12 40 8, pm 13 41 9])
  (.seq (.region [pm 42 2 0, po 43 (.bin .eql (.t 42) (.c (.i .i64 0))) 1, pm 44 43 2, pg 45 (.mv (.t 1)) 44 true 3, pg 46 (.bslice [(.i .u8 0), (.i .u8 0), (.i .u8 0), (.i .u8 0), (.i .u8 0), (.i .u8 0), (.i .u8 0), (.i .u8 0), (.i .u8 0), (.i .u8 0), (.i .u8 0), (.i .u8 0), (.i .u8 0)] [(0, 1, (.c (.i .u8 3))), (1, 1, (.c (.i .u8 0))), (2, 1, (.c (.i .u8 0))), (3, 1, (.c (.i .u8 0))), (4, 1, (.c (.i .u8 0))), (5, 1, (.c (.i .u8 0))), (6, 1, (.c (.i .u8 0))), (7, 1, (.c (.i .u8 0))), (8, 1, (.c (.i .u8 0))), (9, 1, (.c (.i .u8 1))), (10, 1, (.c (.i .u8 0))), (11, 1, (.c (.i .u8 0))), (12, 1, (.c (.i .u8 97)))] 13) 44 true 4, pg 47 (.call (.c (.fn (.func 15) [] [])) [(.t 45), (.t 46)]) 44 true 5, po 48 (.pick (.t 44) (.t 47) (.c (.b false))) 6, pm 49 48 7, pg 50 (.mv (.t 4)) 49 true 8, pg 51 (.bin .eql (.t 50) (.c (.i .i64 0))) 49 true 9, po 52 (.pick (.t 49) (.t 51) (.c (.b false))) 10, pm 53 52 11, pg 54 (.fadd 3 (.t 3)) 53 true 12, pg 55 (.load false 1 (.t 54)) 53 true 13, ⟨(some 56), (.bin .eql (.t 55) (.c (.s ⟨#[97]⟩))), (some (53, true)), 14, []⟩, po 57 (.pick (.t 53) (.t 56) (.c (.b false))) 15, pm 58 57 16, pg 59 (.mv (.t 5)) 58 true 17, pg 60 (.bin .eql (.t 59) (.c (.i .u32 56))) 58 true 18, po 61 (.pick (.t 58) (.t 60) (.c (.b false))) 19, pm 62 61 20, pg 63 (.mv (.t 6)) 62 true 21, pg 64 (.bslice [(.i .u8 0)] [(0, 1, (.c (.i .u8 0)))] 1) 62 true 22, pg 65 (.call (.c (.fn (.func 15) [] [])) [(.t 63), (.t 64)]) 62 true 23, po 66 (.pick (.t 62) (.t 65) (.c (.b false))) 24, pm 67 66 25, pg 68 (.mv (.t 7)) 67 true 26, pg 69 (.unx .not (.t 68)) 67 true 27, po 70 (.pick (.t 67) (.t 69) (.c (.b false))) 28, pm 71 70 29, pg 72 (.mv (.t 8)) 71 true 30, pg 73 (.bslice [(.i .u8 0)] [(0, 1, (.c (.i .u8 7)))] 1) 71 true 31, pg 74 (.call (.c (.fn (.func 15) [] [])) [(.t 72), (.t 73)]) 71 true 32, po 75 (.pick (.t 71) (.t 74) (.c (.b false))) 33, pm 76 75 34, pg 77 (.mv (.t 9)) 76 true 35, po 78 (.pick (.t 76) (.t 77) (.c (.b false))) 36, pm 79 78 37, pg 80 (.mv (.t 11)) 79 true 38, pg 81 (.bin .eql (.t 80) (.c (.i .u16 0))) 79 true 39, po 82 (.pick (.t 79) (.t 81) (.c (.b false))) 40, pm 83 82 41, pg 84 (.mv (.t 12)) 83 true 42, pg 85 (.lenx (.t 84)) 83 true 43, pg 86 (.bin .eql (.t 85) (.c (.i .i64 13))) 83 true 44, po 87 (.pick (.t 83) (.t 86) (.c (.b false))) 45, pm 88 87 46, pg 89 (.mv (.t 13)) 88 true 47, pg 90 (.bin .eql (.t 89) (.c (.i .i64 0))) 88 true 48, po 91 (.pick (.t 88) (.t 90) (.c (.b false))) 49, pm 92 91 50, pg 93 (.mv (.t 10)) 92 true 51, pg 94 (.call (.c (.fn (.func 29) [] [])) [(.t 93), (.c (.i .u16 0))]) 92 true 52, pg 95 (.bin .eql (.t 94) (.c (.i .i64 1))) 92 true 53, po 96 (.pick (.t 92) (.t 95) (.c (.b false))) 54, pm 0 96 55])
  .ret))))))))
def x11 : XFun := ⟨x11b, [(.t 0)]⟩
theorem x11_ok : compF Tryd.prog 11 = some x11 := by kernel_rfl
/-- bollard/dcep.Encode (47) -/
def x12b : XC := (.seq (.region [po 1 (.box (.t 0)) 0, po 2 (.mv (.c zAD )) 1, po 3 (.mv (.c (.i .i64 0))) 2])
  (.seq (.block 0 (.seq (.region [po 6 (.load true 5 (.t 1)) 0, po 7 (.call (.c (.fn (.func 36) [] [])) [(.t 6)]) 1, po 8 (.unx .not (.t 7)) 2, pm 5 8 3])
  (.cond (.t 5) (.seq (.region [po 2 (.mv (.c zAD )) 0, po 3 (.mv (.c (.i .i64 1))) 1])
  .ret) (.seq (.region [po 10 (.fadd 3 (.t 1)) 0, po 11 (.load false 1 (.t 10)) 1, po 12 (.lens (.t 11)) 2, po 13 (.bin .gtr (.t 12) (.c (.i .i64 256))) 3, pm 14 13 4, pg 15 (.fadd 4 (.t 1)) 14 false 5, pg 16 (.load false 1 (.t 15)) 14 false 6, pg 17 (.lens (.t 16)) 14 false 7, pg 18 (.bin .gtr (.t 17) (.c (.i .i64 256))) 14 false 8, po 19 (.pick (.t 14) (.c (.b true)) (.t 18)) 9, pm 9 19 10])
  (.cond (.t 9) (.seq (.region [po 2 (.mv (.c zAD )) 0, po 3 (.mv (.c (.i .i64 10))) 1])
  .ret) .skip)))))
  (.seq (.draw [po 20 (.fadd 0 (.t 1)) 0, po 23 (.fadd 1 (.t 1)) 3, po 26 (.fadd 2 (.t 1)) 6, ⟨(some 21), (.load false 1 (.t 20)), none, 1, [0]⟩, ⟨(some 24), (.load false 1 (.t 23)), none, 4, [3]⟩, ⟨(some 27), (.load false 1 (.t 26)), none, 7, [6]⟩, ⟨(some 22), (.bslice [(.i .u8 0), (.i .u8 0)] [(0, 1, (.c (.i .u8 3))), (1, 1, (.t 21))] 2), none, 2, [0, 1]⟩, ⟨(some 25), (.call (.c (.fn (.func 38) [] [])) [(.t 22), (.t 24)]), none, 5, [0, 1, 2, 3, 4]⟩, ⟨(some 28), (.call (.c (.fn (.func 37) [] [])) [(.t 25), (.t 27)]), none, 8, [0, 1, 2, 3, 4, 5, 6, 7]⟩, ⟨(some 4), (.mv (.t 28)), none, 9, [0, 1, 2, 3, 4, 5, 6, 7, 8]⟩])
  (.seq (.draw [pm 29 4 0, po 30 (.fadd 3 (.t 1)) 1, po 35 (.fadd 4 (.t 1)) 6, ⟨(some 31), (.load false 1 (.t 30)), none, 2, [1]⟩, ⟨(some 32), (.lens (.t 31)), none, 3, [1, 2]⟩, ⟨(some 33), (.cint .u16 (.t 32)), none, 4, [1, 2, 3]⟩, ⟨(some 36), (.load false 1 (.t 35)), none, 7, [6]⟩, ⟨(some 37), (.lens (.t 36)), none, 8, [6, 7]⟩, ⟨(some 38), (.cint .u16 (.t 37)), none, 9, [6, 7, 8]⟩, ⟨(some 34), (.call (.c (.fn (.func 38) [] [])) [(.t 29), (.t 33)]), none, 5, [0, 1, 2, 3, 4]⟩, ⟨(some 39), (.call (.c (.fn (.func 38) [] [])) [(.t 34), (.t 38)]), none, 10, [0, 1, 2, 3, 4, 5, 6, 7, 8, 9]⟩, ⟨(some 4), (.mv (.t 39)), none, 11, [0, 1, 2, 3, 4, 5, 6, 7, 8, 9, 10]⟩])
  (.seq (.draw [pm 40 4 0, po 41 (.fadd 3 (.t 1)) 1, po 44 (.fadd 4 (.t 1)) 4, ⟨(some 42), (.load false 1 (.t 41)), none, 2, [1]⟩, ⟨(some 45), (.load false 1 (.t 44)), none, 5, [4]⟩, ⟨(some 43), (.append 1 1 (.t 40) (.t 42)), none, 3, [0, 1, 2]⟩, ⟨(some 46), (.append 1 1 (.t 43) (.t 45)), none, 6, [0, 1, 2, 3, 4, 5]⟩, ⟨(some 2), (.mv (.t 46)), none, 7, [0, 1, 2, 3, 4, 5, 6]⟩, ⟨(some 3), (.mv (.c (.i .i64 0))), none, 8, [0, 1, 2, 3, 4, 5, 6, 7]⟩])
  .ret)))))
def x12 : XFun := ⟨x12b, [(.t 2), (.t 3)]⟩
theorem x12_ok : compF Tryd.prog 12 = some x12 := by kernel_rfl
/-- bollard/bollardref18.Encode (48) -/
def x13b : XC := (.seq (.region [po 1 (.box (.t 0)) 0, po 2 (.mv (.c zAD )) 1, po 3 (.mv (.c (.i .i64 0))) 2])
  (.seq (.seq (.region [po 5 (.load true 5 (.t 1)) 0, po 6 (.call (.c (.fn (.func 39) [] [])) [(.t 5)]) 1, po 7 (.unx .not (.t 6)) 2])
  (.cond (.t 7) (.seq (.region [po 2 (.mv (.c zAD )) 0, po 3 (.mv (.c (.i .i64 1))) 1])
  .ret) .skip))
  (.seq (.seq (.region [po 8 (.fadd 3 (.t 1)) 0, po 9 (.load false 1 (.t 8)) 1, po 10 (.lens (.t 9)) 2, po 11 (.bin .gtr (.t 10) (.c (.i .i64 256))) 3, pm 12 11 4, pg 13 (.fadd 4 (.t 1)) 12 false 5, pg 14 (.load false 1 (.t 13)) 12 false 6, pg 15 (.lens (.t 14)) 12 false 7, pg 16 (.bin .gtr (.t 15) (.c (.i .i64 256))) 12 false 8, po 17 (.pick (.t 12) (.c (.b true)) (.t 16)) 9])
  (.cond (.t 17) (.seq (.region [po 2 (.mv (.c zAD )) 0, po 3 (.mv (.c (.i .i64 10))) 1])
  .ret) .skip))
  (.seq (.region [po 18 (.fadd 0 (.t 1)) 0, po 19 (.load false 1 (.t 18)) 1, po 20 (.bslice [(.i .u8 0), (.i .u8 0)] [(0, 1, (.c (.i .u8 3))), (1, 1, (.t 19))] 2) 2, po 21 (.fadd 1 (.t 1)) 3, po 22 (.load false 1 (.t 21)) 4, po 23 (.cint .u32 (.t 22)) 5, po 24 (.call (.c (.fn (.func 40) [] [])) [(.t 20), (.t 23), (.c (.i .i64 2))]) 6, pm 4 24 7])
  (.seq (.region [pm 25 4 0, po 26 (.fadd 2 (.t 1)) 1, po 27 (.load false 1 (.t 26)) 2, po 28 (.call (.c (.fn (.func 40) [] [])) [(.t 25), (.t 27), (.c (.i .i64 4))]) 3, pm 4 28 4])
  (.seq (.draw [pm 29 4 0, po 30 (.fadd 3 (.t 1)) 1, po 35 (.fadd 4 (.t 1)) 6, ⟨(some 31), (.load false 1 (.t 30)), none, 2, [1]⟩, ⟨(some 32), (.lens (.t 31)), none, 3, [1, 2]⟩, ⟨(some 33), (.cint .u32 (.t 32)), none, 4, [1, 2, 3]⟩, ⟨(some 36), (.load false 1 (.t 35)), none, 7, [6]⟩, ⟨(some 37), (.lens (.t 36)), none, 8, [6, 7]⟩, ⟨(some 38), (.cint .u32 (.t 37)), none, 9, [6, 7, 8]⟩, ⟨(some 34), (.call (.c (.fn (.func 40) [] [])) [(.t 29), (.t 33), (.c (.i .i64 2))]), none, 5, [0, 1, 2, 3, 4]⟩, ⟨(some 39), (.call (.c (.fn (.func 40) [] [])) [(.t 34), (.t 38), (.c (.i .i64 2))]), none, 10, [0, 1, 2, 3, 4, 5, 6, 7, 8, 9]⟩, ⟨(some 4), (.mv (.t 39)), none, 11, [0, 1, 2, 3, 4, 5, 6, 7, 8, 9, 10]⟩])
  (.seq (.region [pm 40 4 0, po 41 (.fadd 3 (.t 1)) 1, po 42 (.load false 1 (.t 41)) 2, po 43 (.append 1 1 (.t 40) (.t 42)) 3, pm 4 43 4])
  (.seq (.region [pm 44 4 0, po 45 (.fadd 4 (.t 1)) 1, po 46 (.load false 1 (.t 45)) 2, po 47 (.append 1 1 (.t 44) (.t 46)) 3, pm 2 47 4, po 3 (.mv (.c (.i .i64 0))) 5])
  .ret))))))))
def x13 : XFun := ⟨x13b, [(.t 2), (.t 3)]⟩
theorem x13_ok : compF Tryd.prog 13 = some x13 := by kernel_rfl
/-- bollard/bollardlaw18.theirs (14) -/
def x14b : XC := (.seq (.region [po 1 (.box (.t 0)) 0, ⟨(some 2), (.alloc zAB ), none, 1, []⟩])
  (.seq (.region [po 3 (.fadd 0 (.t 1)) 0, po 4 (.load false 1 (.t 3)) 1, po 5 (.fadd 1 (.t 1)) 2, po 6 (.load false 1 (.t 5)) 3, po 7 (.fadd 2 (.t 1)) 4, po 8 (.load false 1 (.t 7)) 5, po 9 (.fadd 3 (.t 1)) 6, po 10 (.load false 1 (.t 9)) 7, po 11 (.fadd 4 (.t 1)) 8, po 12 (.load false 1 (.t 11)) 9, ⟨(some 13), (.build zAB  [(0, 1, (.t 4)), (1, 1, (.t 6)), (2, 1, (.t 8)), (3, 1, (.t 10)), (4, 1, (.t 12))]), none, 10, []⟩, ⟨none, (.store 5 (.t 2) (.t 13)), none, 11, []⟩])
  .ret))
def x14 : XFun := ⟨x14b, [(.cell 2 true 5)]⟩
theorem x14_ok : compF Tryd.prog 14 = some x14 := by kernel_rfl
/-- bollard/bollardlaw18.same (10) -/
def x15b : XC := (.seq (.region [po 4 (.mv (.c (.b false))) 0])
  (.seq (.region [pm 5 0 0, po 6 (.cb2s (.t 5)) 1, pm 7 1 2, po 8 (.cb2s (.t 7)) 3, po 9 (.bin .eql (.t 6) (.t 8)) 4, pm 4 9 5])
  .ret))
def x15 : XFun := ⟨x15b, [(.t 4)]⟩
theorem x15_ok : compF Tryd.prog 15 = some x15 := by kernel_rfl
/-- bollard/dcep.Decode (106) -/
def x16b : XC := (.seq (.region [⟨(some 2), (.alloc zAB ), none, 0, []⟩, po 3 (.mv (.c (.i .i64 0))) 1])
  (.seq (.block 0 (.seq (.region [pm 14 0 0, po 15 (.lenx (.t 14)) 1, po 16 (.bin .gtr (.t 15) (.c (.i .i64 0))) 2, pm 17 16 3, pg 18 (.mv (.t 0)) 17 true 4, pg 19 (.isl 1 (.t 18) (.c (.i .i64 0))) 17 true 5, pg 20 (.load false 1 (.t 19)) 17 true 6, pg 21 (.bin .neq (.t 20) (.c (.i .u8 3))) 17 true 7, po 22 (.pick (.t 17) (.t 21) (.c (.b false))) 8, pm 13 22 9])
  (.cond (.t 13) (.seq (.region [⟨(some 23), (.build zAB  []), none, 0, []⟩, ⟨none, (.store 5 (.t 2) (.t 23)), none, 1, []⟩, po 3 (.mv (.c (.i .i64 3))) 2])
  .ret) (.seq (.region [pm 25 0 0, po 26 (.lenx (.t 25)) 1, po 27 (.bin .lss (.t 26) (.c (.i .i64 12))) 2, pm 24 27 3])
  (.cond (.t 24) (.seq (.region [⟨(some 28), (.build zAB  []), none, 0, []⟩, ⟨none, (.store 5 (.t 2) (.t 28)), none, 1, []⟩, po 3 (.mv (.c (.i .i64 2))) 2])
  .ret) .skip)))))
  (.seq (.region [pm 29 0 0, po 30 (.slsl 1 (.t 29) (some (.c (.i .i64 1))) none none) 1, po 31 (.call (.c (.fn (.func 41) [] [])) [(.t 30)]) 2, pm 4 31 3])
  (.seq (.region [⟨(some 5), (.alloc zAB ), none, 0, []⟩])
  (.seq (.region [pm 33 4 0, po 34 (.call (.c (.fn (.func 42) [] [])) [(.t 33)]) 1, pm 32 34 2, po 35 (.ext (.t 32) 0) 3, po 36 (.ext (.t 32) 1) 4, po 37 (.fadd 0 (.t 5)) 5, ⟨none, (.store 1 (.t 37) (.t 35)), none, 6, []⟩])
  (.seq (.region [pm 39 4 0, po 40 (.call (.c (.fn (.func 43) [] [])) [(.t 39)]) 1, pm 38 40 2, po 41 (.ext (.t 38) 0) 3, po 42 (.ext (.t 38) 1) 4, po 43 (.fadd 1 (.t 5)) 5, ⟨none, (.store 1 (.t 43) (.t 41)), none, 6, []⟩])
  (.seq (.region [pm 45 4 0, po 46 (.call (.c (.fn (.func 44) [] [])) [(.t 45)]) 1, pm 44 46 2, po 47 (.ext (.t 44) 0) 3, po 48 (.ext (.t 44) 1) 4, po 49 (.fadd 2 (.t 5)) 5, ⟨none, (.store 1 (.t 49) (.t 47)), none, 6, []⟩])
  (.seq (.region [pm 51 4 0, po 52 (.call (.c (.fn (.func 43) [] [])) [(.t 51)]) 1, pm 50 52 2, po 53 (.ext (.t 50) 0) 3, po 54 (.ext (.t 50) 1) 4, pm 6 53 5, pm 7 54 6])
  (.seq (.region [pm 56 4 0, po 57 (.call (.c (.fn (.func 43) [] [])) [(.t 56)]) 1, pm 55 57 2, po 58 (.ext (.t 55) 0) 3, po 59 (.ext (.t 55) 1) 4, pm 8 58 5, pm 9 59 6])
  (.seq (.seq (.region [pm 60 6 0, po 61 (.bin .gtr (.t 60) (.c (.i .u16 256))) 1, pm 62 61 2, pg 63 (.mv (.t 8)) 62 false 3, pg 64 (.bin .gtr (.t 63) (.c (.i .u16 256))) 62 false 4, po 65 (.pick (.t 62) (.c (.b true)) (.t 64)) 5])
  (.cond (.t 65) (.seq (.region [⟨(some 66), (.build zAB  []), none, 0, []⟩, ⟨none, (.store 5 (.t 2) (.t 66)), none, 1, []⟩, po 3 (.mv (.c (.i .i64 10))) 2])
  .ret) .skip))
  (.seq (.region [pm 68 4 0, pm 69 6 1, po 70 (.cint .i64 (.t 69)) 2, po 71 (.call (.c (.fn (.func 45) [] [])) [(.t 68), (.t 70)]) 3, pm 67 71 4, po 72 (.ext (.t 67) 0) 5, po 73 (.ext (.t 67) 1) 6, pm 10 72 7, pm 11 73 8])
  (.seq (.seq (.region [pm 74 11 0, po 75 (.bin .neq (.t 74) (.c (.i .i64 0))) 1])
  (.cond (.t 75) (.seq (.region [⟨(some 76), (.build zAB  []), none, 0, []⟩, pm 77 11 1, ⟨none, (.store 5 (.t 2) (.t 76)), none, 2, []⟩, pm 3 77 3])
  .ret) .skip))
  (.seq (.region [pm 79 4 0, pm 80 8 1, po 81 (.cint .i64 (.t 80)) 2, po 82 (.call (.c (.fn (.func 45) [] [])) [(.t 79), (.t 81)]) 3, pm 78 82 4, po 83 (.ext (.t 78) 0) 5, po 84 (.ext (.t 78) 1) 6, pm 12 83 7, pm 11 84 8])
  (.seq (.seq (.region [pm 85 11 0, po 86 (.bin .neq (.t 85) (.c (.i .i64 0))) 1])
  (.cond (.t 86) (.seq (.region [⟨(some 87), (.build zAB  []), none, 0, []⟩, pm 88 11 1, ⟨none, (.store 5 (.t 2) (.t 87)), none, 2, []⟩, pm 3 88 3])
  .ret) .skip))
  (.seq (.draw [pm 89 10 0, pm 91 12 2, ⟨(some 90), (.cb2s (.t 89)), none, 1, [0]⟩, ⟨(some 93), (.fadd 3 (.t 5)), none, 4, [0, 1]⟩, ⟨(some 92), (.cb2s (.t 91)), none, 3, [2]⟩, ⟨none, (.store 1 (.t 93) (.t 90)), none, 5, [0, 1, 4]⟩, ⟨(some 94), (.fadd 4 (.t 5)), none, 6, [0, 1, 2, 3, 4, 5]⟩, ⟨none, (.store 1 (.t 94) (.t 92)), none, 7, [0, 1, 2, 3, 4, 5, 6]⟩])
  (.seq (.block 1 (.seq (.region [pm 96 4 0, po 97 (.call (.c (.fn (.func 46) [] [])) [(.t 96)]) 1, po 98 (.bin .gtr (.t 97) (.c (.i .i64 0))) 2, pm 95 98 3])
  (.cond (.t 95) (.seq (.region [⟨(some 99), (.build zAB  []), none, 0, []⟩, ⟨none, (.store 5 (.t 2) (.t 99)), none, 1, []⟩, po 3 (.mv (.c (.i .i64 3))) 2])
  .ret) (.seq (.region [po 101 (.load true 5 (.t 5)) 0, po 102 (.call (.c (.fn (.func 36) [] [])) [(.t 101)]) 1, po 103 (.unx .not (.t 102)) 2, pm 100 103 3])
  (.cond (.t 100) (.seq (.region [⟨(some 104), (.build zAB  []), none, 0, []⟩, ⟨none, (.store 5 (.t 2) (.t 104)), none, 1, []⟩, po 3 (.mv (.c (.i .i64 1))) 2])
  .ret) .skip)))))
  (.seq (.region [po 105 (.load true 5 (.t 5)) 0, ⟨none, (.store 5 (.t 2) (.t 105)), none, 1, []⟩, po 3 (.mv (.c (.i .i64 0))) 2])
  .ret)))))))))))))))))
def x16 : XFun := ⟨x16b, [(.cell 2 true 5), (.t 3)]⟩
theorem x16_ok : compF Tryd.prog 16 = some x16 := by kernel_rfl
/-- bollard/bollardref18.Decode (108) -/
def x17b : XC := (.seq (.region [⟨(some 2), (.alloc zAB ), none, 0, []⟩, po 3 (.mv (.c (.i .i64 0))) 1])
  (.seq (.seq (.region [pm 18 0 0, po 19 (.lenx (.t 18)) 1, po 20 (.bin .gtr (.t 19) (.c (.i .i64 0))) 2, pm 21 20 3, pg 22 (.mv (.t 0)) 21 true 4, pg 23 (.isl 1 (.t 22) (.c (.i .i64 0))) 21 true 5, pg 24 (.load false 1 (.t 23)) 21 true 6, pg 25 (.bin .neq (.t 24) (.c (.i .u8 3))) 21 true 7, po 26 (.pick (.t 21) (.t 25) (.c (.b false))) 8])
  (.cond (.t 26) (.seq (.region [⟨(some 27), (.build zAB  []), none, 0, []⟩, ⟨none, (.store 5 (.t 2) (.t 27)), none, 1, []⟩, po 3 (.mv (.c (.i .i64 3))) 2])
  .ret) .skip))
  (.seq (.seq (.region [pm 28 0 0, po 29 (.lenx (.t 28)) 1, po 30 (.bin .lss (.t 29) (.c (.i .i64 12))) 2])
  (.cond (.t 30) (.seq (.region [⟨(some 31), (.build zAB  []), none, 0, []⟩, ⟨none, (.store 5 (.t 2) (.t 31)), none, 1, []⟩, po 3 (.mv (.c (.i .i64 2))) 2])
  .ret) .skip))
  (.seq (.region [pm 33 0 0, po 34 (.slsl 1 (.t 33) (some (.c (.i .i64 2))) none none) 1, po 35 (.call (.c (.fn (.func 47) [] [])) [(.t 34), (.c (.i .i64 2))]) 2, pm 32 35 3, po 36 (.ext (.t 32) 0) 4, po 37 (.ext (.t 32) 1) 5, po 38 (.ext (.t 32) 2) 6, pm 4 36 7, pm 5 37 8, pm 6 38 9])
  (.seq (.region [pm 40 0 0, po 41 (.slsl 1 (.t 40) (some (.c (.i .i64 4))) none none) 1, po 42 (.call (.c (.fn (.func 47) [] [])) [(.t 41), (.c (.i .i64 4))]) 2, pm 39 42 3, po 43 (.ext (.t 39) 0) 4, po 44 (.ext (.t 39) 1) 5, po 45 (.ext (.t 39) 2) 6, pm 7 43 7, pm 8 44 8, pm 9 45 9])
  (.seq (.region [pm 47 0 0, po 48 (.slsl 1 (.t 47) (some (.c (.i .i64 8))) none none) 1, po 49 (.call (.c (.fn (.func 47) [] [])) [(.t 48), (.c (.i .i64 2))]) 2, pm 46 49 3, po 50 (.ext (.t 46) 0) 4, po 51 (.ext (.t 46) 1) 5, po 52 (.ext (.t 46) 2) 6, pm 10 50 7, pm 11 51 8, pm 12 52 9])
  (.seq (.region [pm 54 0 0, po 55 (.slsl 1 (.t 54) (some (.c (.i .i64 10))) none none) 1, po 56 (.call (.c (.fn (.func 47) [] [])) [(.t 55), (.c (.i .i64 2))]) 2, pm 53 56 3, po 57 (.ext (.t 53) 0) 4, po 58 (.ext (.t 53) 1) 5, po 59 (.ext (.t 53) 2) 6, pm 13 57 7, pm 14 58 8, pm 15 59 9])
  (.seq (.seq (.region [pm 60 10 0, po 61 (.bin .gtr (.t 60) (.c (.i .u32 256))) 1, pm 62 61 2, pg 63 (.mv (.t 13)) 62 false 3, pg 64 (.bin .gtr (.t 63) (.c (.i .u32 256))) 62 false 4, po 65 (.pick (.t 62) (.c (.b true)) (.t 64)) 5])
  (.cond (.t 65) (.seq (.region [⟨(some 66), (.build zAB  []), none, 0, []⟩, ⟨none, (.store 5 (.t 2) (.t 66)), none, 1, []⟩, po 3 (.mv (.c (.i .i64 10))) 2])
  .ret) .skip))
  (.seq (.region [pm 67 10 0, po 68 (.cint .i64 (.t 67)) 1, po 69 (.bin .add (.c (.i .i64 12)) (.t 68)) 2, pm 70 13 3, po 71 (.cint .i64 (.t 70)) 4, po 72 (.bin .add (.t 69) (.t 71)) 5, pm 16 72 6])
  (.seq (.seq (.region [pm 73 0 0, po 74 (.lenx (.t 73)) 1, pm 75 16 2, po 76 (.bin .lss (.t 74) (.t 75)) 3])
  (.cond (.t 76) (.seq (.region [⟨(some 77), (.build zAB  []), none, 0, []⟩, ⟨none, (.store 5 (.t 2) (.t 77)), none, 1, []⟩, po 3 (.mv (.c (.i .i64 2))) 2])
  .ret) .skip))
  (.seq (.seq (.region [pm 78 0 0, po 79 (.lenx (.t 78)) 1, pm 80 16 2, po 81 (.bin .gtr (.t 79) (.t 80)) 3])
  (.cond (.t 81) (.seq (.region [⟨(some 82), (.build zAB  []), none, 0, []⟩, ⟨none, (.store 5 (.t 2) (.t 82)), none, 1, []⟩, po 3 (.mv (.c (.i .i64 3))) 2])
  .ret) .skip))
  (.seq (.draw [pm 83 0 0, ⟨(some 84), (.isl 1 (.t 83) (.c (.i .i64 1))), none, 1, [0]⟩, pm 86 4 3, ⟨(some 87), (.cint .u16 (.t 86)), none, 4, [3]⟩, pm 88 7 5, pm 89 0 6, pm 90 10 7, ⟨(some 91), (.cint .i64 (.t 90)), none, 8, [7]⟩, ⟨(some 92), (.bin .add (.c (.i .i64 12)) (.t 91)), none, 9, [7, 8]⟩, ⟨(some 93), (.slsl 1 (.t 89) (some (.c (.i .i64 12))) (some (.t 92)) none), none, 10, [6, 7, 8, 9]⟩, pm 95 0 12, pm 96 10 13, ⟨(some 97), (.cint .i64 (.t 96)), none, 14, [13]⟩, ⟨(some 98), (.bin .add (.c (.i .i64 12)) (.t 97)), none, 15, [13, 14]⟩, pm 99 16 16, ⟨(some 100), (.slsl 1 (.t 95) (some (.t 98)) (some (.t 99)) none), none, 17, [12, 13, 14, 15, 16]⟩, ⟨(some 85), (.load false 1 (.t 84)), none, 2, [0, 1]⟩, ⟨(some 94), (.cb2s (.t 93)), none, 11, [6, 7, 8, 9, 10]⟩, ⟨(some 101), (.cb2s (.t 100)), none, 18, [12, 13, 14, 15, 16, 17]⟩, ⟨(some 102), (.build zAB  [(0, 1, (.t 85)), (1, 1, (.t 87)), (2, 1, (.t 88)), (3, 1, (.t 94)), (4, 1, (.t 101))]), none, 19, [0, 1, 2, 3, 4, 5, 6, 7, 8, 9, 10, 11, 12, 13, 14, 15, 16, 17, 18]⟩, ⟨(some 17), (.alloc zAB ), none, 20, []⟩, ⟨none, (.store 5 (.t 17) (.t 102)), none, 21, [0, 1, 2, 3, 4, 5, 6, 7, 8, 9, 10, 11, 12, 13, 14, 15, 16, 17, 18, 19, 20]⟩])
  (.seq (.seq (.region [po 103 (.load true 5 (.t 17)) 0, po 104 (.call (.c (.fn (.func 39) [] [])) [(.t 103)]) 1, po 105 (.unx .not (.t 104)) 2])
  (.cond (.t 105) (.seq (.region [⟨(some 106), (.build zAB  []), none, 0, []⟩, ⟨none, (.store 5 (.t 2) (.t 106)), none, 1, []⟩, po 3 (.mv (.c (.i .i64 1))) 2])
  .ret) .skip))
  (.seq (.region [po 107 (.load true 5 (.t 17)) 0, ⟨none, (.store 5 (.t 2) (.t 107)), none, 1, []⟩, po 3 (.mv (.c (.i .i64 0))) 2])
  .ret))))))))))))))
def x17 : XFun := ⟨x17b, [(.cell 2 true 5), (.t 3)]⟩
theorem x17_ok : compF Tryd.prog 17 = some x17 := by kernel_rfl
/-- bollard/bollardlaw18.alike (38) -/
def x18b : XC := (.seq (.region [po 2 (.box (.t 0)) 0, po 3 (.box (.t 1)) 1, po 4 (.mv (.c (.b false))) 2])
  (.seq (.region [po 5 (.fadd 0 (.t 2)) 0, po 6 (.load false 1 (.t 5)) 1, po 7 (.fadd 0 (.t 3)) 2, po 8 (.load false 1 (.t 7)) 3, po 9 (.bin .eql (.t 6) (.t 8)) 4, pm 10 9 5, pg 11 (.fadd 1 (.t 2)) 10 true 6, pg 12 (.load false 1 (.t 11)) 10 true 7, pg 13 (.fadd 1 (.t 3)) 10 true 8, pg 14 (.load false 1 (.t 13)) 10 true 9, pg 15 (.bin .eql (.t 12) (.t 14)) 10 true 10, po 16 (.pick (.t 10) (.t 15) (.c (.b false))) 11, pm 17 16 12, pg 18 (.fadd 2 (.t 2)) 17 true 13, pg 19 (.load false 1 (.t 18)) 17 true 14, pg 20 (.fadd 2 (.t 3)) 17 true 15, pg 21 (.load false 1 (.t 20)) 17 true 16, pg 22 (.bin .eql (.t 19) (.t 21)) 17 true 17, po 23 (.pick (.t 17) (.t 22) (.c (.b false))) 18, pm 24 23 19, pg 25 (.fadd 3 (.t 2)) 24 true 20, pg 26 (.load false 1 (.t 25)) 24 true 21, pg 27 (.fadd 3 (.t 3)) 24 true 22, pg 28 (.load false 1 (.t 27)) 24 true 23, pg 29 (.bin .eql (.t 26) (.t 28)) 24 true 24, po 30 (.pick (.t 24) (.t 29) (.c (.b false))) 25, pm 31 30 26, pg 32 (.fadd 4 (.t 2)) 31 true 27, pg 33 (.load false 1 (.t 32)) 31 true 28, pg 34 (.fadd 4 (.t 3)) 31 true 29, pg 35 (.load false 1 (.t 34)) 31 true 30, pg 36 (.bin .eql (.t 33) (.t 35)) 31 true 31, po 37 (.pick (.t 31) (.t 36) (.c (.b false))) 32, pm 4 37 33])
  .ret))
def x18 : XFun := ⟨x18b, [(.t 4)]⟩
theorem x18_ok : compF Tryd.prog 18 = some x18 := by kernel_rfl
/-- bollard/dcep.Wrap (17) -/
def x19b : XC := (.seq (.region [po 4 (.mv (.c (.i .u32 0))) 0, po 5 (.mv (.c zAD )) 1])
  (.seq (.region [po 6 (.mv (.c (.i .u32 53))) 0, po 7 (.mv (.c (.i .u32 57))) 1])
  (.seq (.seq (.region [pm 8 0 0])
  (.cond (.t 8) (.region [po 6 (.mv (.c (.i .u32 51))) 0, po 7 (.mv (.c (.i .u32 56))) 1]) .skip))
  (.seq (.seq (.region [pm 9 1 0, po 10 (.lenx (.t 9)) 1, po 11 (.bin .eql (.t 10) (.c (.i .i64 0))) 2])
  (.cond (.t 11) (.seq (.region [pm 12 7 0, po 13 (.bslice [(.i .u8 0)] [(0, 1, (.c (.i .u8 0)))] 1) 1, pm 4 12 2, pm 5 13 3])
  .ret) .skip))
  (.seq (.region [pm 14 6 0, pm 15 1 1, po 16 (.call (.c (.fn (.func 48) [] [])) [(.t 15)]) 2, pm 4 14 3, pm 5 16 4])
  .ret)))))
def x19 : XFun := ⟨x19b, [(.t 4), (.t 5)]⟩
theorem x19_ok : compF Tryd.prog 19 = some x19 := by kernel_rfl
/-- bollard/dcep.Unwrap (23) -/
def x20b : XC := (.seq (.region [po 4 (.mv (.c (.b false))) 0, po 5 (.mv (.c zAD )) 1, po 6 (.mv (.c (.b false))) 2])
  (.seq (.seq (.region [pm 7 0 0])
  (.block 0 (.seq (.seq (.region [po 9 (.bin .eql (.t 7) (.c (.i .u32 56))) 0, pm 8 9 1])
  (.cond (.t 8) .skip (.region [po 10 (.bin .eql (.t 7) (.c (.i .u32 57))) 0, pm 8 10 1])))
  (.cond (.t 8) (.seq (.region [pm 11 0 0, po 12 (.bin .eql (.t 11) (.c (.i .u32 56))) 1, pm 4 12 2, po 5 (.mv (.c zAD )) 3, po 6 (.mv (.c (.b true))) 4])
  .ret) (.seq (.seq (.region [po 14 (.bin .eql (.t 7) (.c (.i .u32 51))) 0, pm 13 14 1])
  (.cond (.t 13) .skip (.region [po 15 (.bin .eql (.t 7) (.c (.i .u32 53))) 0, pm 13 15 1])))
  (.cond (.t 13) (.seq (.region [pm 16 1 0, po 17 (.lenx (.t 16)) 1, po 18 (.bin .gtr (.t 17) (.c (.i .i64 0))) 2])
  (.cond (.t 18) (.seq (.region [pm 19 0 0, po 20 (.bin .eql (.t 19) (.c (.i .u32 51))) 1, pm 21 1 2, po 22 (.call (.c (.fn (.func 48) [] [])) [(.t 21)]) 3, pm 4 20 4, pm 5 22 5, po 6 (.mv (.c (.b true))) 6])
  .ret) .skip)) .skip))))))
  (.seq (.region [po 4 (.mv (.c (.b false))) 0, po 5 (.mv (.c zAD )) 1, po 6 (.mv (.c (.b false))) 2])
  .ret)))
def x20 : XFun := ⟨x20b, [(.t 4), (.t 5), (.t 6)]⟩
theorem x20_ok : compF Tryd.prog 20 = some x20 := by kernel_rfl
/-- bollard/bollardref18.Unwrap (22) -/
def x21b : XC := (.seq (.region [po 4 (.mv (.c (.b false))) 0, po 5 (.mv (.c zAD )) 1, po 6 (.mv (.c (.b false))) 2])
  (.seq (.seq (.region [pm 7 0 0])
  (.block 0 (.seq (.seq (.region [po 9 (.bin .eql (.t 7) (.c (.i .u32 51))) 0, pm 8 9 1])
  (.cond (.t 8) .skip (.region [po 10 (.bin .eql (.t 7) (.c (.i .u32 53))) 0, pm 8 10 1])))
  (.cond (.t 8) (.seq (.region [pm 11 1 0, po 12 (.lenx (.t 11)) 1, po 13 (.bin .gtr (.t 12) (.c (.i .i64 0))) 2])
  (.cond (.t 13) (.seq (.region [pm 14 0 0, po 15 (.bin .eql (.t 14) (.c (.i .u32 51))) 1, pm 16 1 2, pm 4 15 3, pm 5 16 4, po 6 (.mv (.c (.b true))) 5])
  .ret) .skip)) (.seq (.seq (.region [po 18 (.bin .eql (.t 7) (.c (.i .u32 56))) 0, pm 17 18 1])
  (.cond (.t 17) .skip (.region [po 19 (.bin .eql (.t 7) (.c (.i .u32 57))) 0, pm 17 19 1])))
  (.cond (.t 17) (.seq (.region [pm 20 0 0, po 21 (.bin .eql (.t 20) (.c (.i .u32 56))) 1, pm 4 21 2, po 5 (.mv (.c zAD )) 3, po 6 (.mv (.c (.b true))) 4])
  .ret) .skip))))))
  (.seq (.region [po 4 (.mv (.c (.b false))) 0, po 5 (.mv (.c zAD )) 1, po 6 (.mv (.c (.b false))) 2])
  .ret)))
def x21 : XFun := ⟨x21b, [(.t 4), (.t 5), (.t 6)]⟩
theorem x21_ok : compF Tryd.prog 21 = some x21 := by kernel_rfl
/-- bollard/dcep.New (16) -/
def x22b : XC := (.seq (.region [po 4 (.mv (.c (.p none))) 0])
  (.seq (.seq (.region [pm 5 1 0, po 6 (.bin .lss (.t 5) (.c (.i .i64 1))) 1, pm 7 6 2, pg 8 (.mv (.t 1)) 7 false 3, pg 9 (.bin .gtr (.t 8) (.c (.i .i64 64))) 7 false 4, po 10 (.pick (.t 7) (.c (.b true)) (.t 9)) 5])
  (.cond (.t 10) (.region [po 1 (.mv (.c (.i .i64 64))) 0]) .skip))
  (.seq (.region [pm 11 1 0, ⟨(some 12), (.mkslice zAC  56 (.t 11) (.t 11)), none, 1, []⟩, pm 13 0 2, po 14 (.build [zAD , (.b false)] [(0, 1, (.t 12)), (1, 1, (.t 13))]) 3, po 15 (.box (.t 14)) 4, pm 4 15 5])
  .ret)))
def x22 : XFun := ⟨x22b, [(.t 4)]⟩
theorem x22_ok : compF Tryd.prog 22 = some x22 := by kernel_rfl
/-- (*bollard/dcep.Table).Ask (54) -/
def x23b : XC := (.seq (.region [po 3 (.box (.t 1)) 0, po 4 (.mv (.c (.i .u16 0))) 1, po 5 (.mv (.c zAD )) 2, po 6 (.mv (.c (.i .i64 0))) 3])
  (.seq (.seq (.region [pm 10 0 0, po 11 (.nilq 0 false (.t 10)) 1])
  (.cond (.t 11) (.seq (.region [po 4 (.mv (.c (.i .u16 0))) 0, po 5 (.mv (.c zAD )) 1, po 6 (.mv (.c (.i .i64 1))) 2])
  .ret) .skip))
  (.seq (.region [po 13 (.load true 5 (.t 3)) 0, po 14 (.call (.c (.fn (.func 12) [] [])) [(.t 13)]) 1, pm 12 14 2, po 15 (.ext (.t 12) 0) 3, po 16 (.ext (.t 12) 1) 4, pm 7 15 5, pm 8 16 6])
  (.seq (.seq (.region [pm 17 8 0, po 18 (.bin .neq (.t 17) (.c (.i .i64 0))) 1])
  (.cond (.t 18) (.seq (.region [pm 19 8 0, po 4 (.mv (.c (.i .u16 0))) 1, po 5 (.mv (.c zAD )) 2, pm 6 19 3])
  .ret) .skip))
  (.seq (.seq (.region [pm 20 0 0, po 21 (.nilc (.t 20)) 1, po 22 (.fadd 0 (.t 21)) 2, po 23 (.load false 1 (.t 22)) 3, po 24 (.lenx (.t 23)) 4, po 25 (.mv (.c (.i .i64 0))) 5])
  (.block 0 (.loop (.seq (.region [po 26 (.bin .lss (.t 25) (.t 24)) 0])
  (.seq (.cond (.t 26) .skip (.exit 0))
  (.seq (.block 1 (.seq (.region [pm 27 25 0, pm 9 27 1])
  (.seq (.region [pm 28 0 0, pm 29 9 1, po 30 (.call (.c (.fn (.func 49) [] [])) [(.t 28), (.t 29)]) 2, pm 31 30 3, pg 32 (.mv (.t 0)) 31 true 4, pg 33 (.nilc (.t 32)) 31 true 5, pg 34 (.fadd 0 (.t 33)) 31 true 6, pg 35 (.load false 1 (.t 34)) 31 true 7, pg 36 (.mv (.t 9)) 31 true 8, pg 37 (.isl 8 (.t 35) (.t 36)) 31 true 9, pg 38 (.fadd 0 (.t 37)) 31 true 10, pg 39 (.load false 1 (.t 38)) 31 true 11, pg 40 (.bin .eql (.t 39) (.c (.i .i64 0))) 31 true 12, po 41 (.pick (.t 31) (.t 40) (.c (.b false))) 13])
  (.cond (.t 41) (.seq (.draw [pm 42 0 0, ⟨(some 43), (.nilc (.t 42)), none, 1, [0]⟩, ⟨(some 44), (.fadd 0 (.t 43)), none, 2, [0, 1]⟩, pm 46 9 4, ⟨(some 45), (.load false 1 (.t 44)), none, 3, [0, 1, 2]⟩, po 47 (.load true 5 (.t 3)) 5, ⟨(some 48), (.build zAC  [(0, 1, (.c (.i .i64 1))), (1, 5, (.t 47))]), none, 6, [5]⟩, ⟨(some 49), (.isl 8 (.t 45) (.t 46)), none, 7, [0, 1, 2, 3, 4, 5, 6]⟩, ⟨none, (.store 8 (.t 49) (.t 48)), none, 8, [0, 1, 2, 3, 4, 5, 6, 7]⟩])
  (.seq (.region [pm 50 9 0, po 51 (.cint .u16 (.t 50)) 1, pm 52 7 2, pm 4 51 3, pm 5 52 4, po 6 (.mv (.c (.i .i64 0))) 5])
  .ret)) .skip))))
  (.region [po 53 (.bin .add (.t 25) (.c (.i .i64 1))) 0, pm 25 53 1])))))))
  (.seq (.region [po 4 (.mv (.c (.i .u16 0))) 0, po 5 (.mv (.c zAD )) 1, po 6 (.mv (.c (.i .i64 9))) 2])
  .ret))))))
def x23 : XFun := ⟨x23b, [(.t 4), (.t 5), (.t 6)]⟩
theorem x23_ok : compF Tryd.prog 23 = some x23 := by kernel_rfl
/-- (*bollard/dcep.Table).Close (18) -/
def x24b : XC := (.seq (.region [po 4 (.mv (.c (.i .i64 0))) 0])
  (.seq (.region [pm 6 0 0, pm 7 1 1, po 8 (.call (.c (.fn (.func 50) [] [])) [(.t 6), (.t 7)]) 2, pm 5 8 3])
  (.seq (.seq (.region [pm 9 5 0, po 10 (.nilq 0 false (.t 9)) 1, pm 11 10 2, pg 12 (.mv (.t 5)) 11 false 3, pg 13 (.call (.c (.fn (.func 51) [] [])) [(.t 12)]) 11 false 4, pg 14 (.unx .not (.t 13)) 11 false 5, po 15 (.pick (.t 11) (.c (.b true)) (.t 14)) 6])
  (.cond (.t 15) (.seq (.region [po 4 (.mv (.c (.i .i64 11))) 0])
  .ret) .skip))
  (.seq (.region [pm 16 5 0, po 17 (.call (.c (.fn (.func 52) [] [])) [(.t 16), (.c (.b false)), (.c (.b false))]) 1])
  (.seq (.region [po 4 (.mv (.c (.i .i64 0))) 0])
  .ret)))))
def x24 : XFun := ⟨x24b, [(.t 4)]⟩
theorem x24_ok : compF Tryd.prog 24 = some x24 := by kernel_rfl
/-- (*bollard/dcep.Table).Freed (19) -/
def x25b : XC := (.seq (.region [pm 5 0 0, pm 6 1 1, po 7 (.call (.c (.fn (.func 50) [] [])) [(.t 5), (.t 6)]) 2, pm 4 7 3])
  (.seq (.region [pm 8 4 0, po 9 (.nilq 0 true (.t 8)) 1, pm 10 9 2, pg 11 (.mv (.t 4)) 10 true 3, pg 12 (.nilc (.t 11)) 10 true 4, pg 13 (.fadd 0 (.t 12)) 10 true 5, pg 14 (.load false 1 (.t 13)) 10 true 6, pg 15 (.bin .eql (.t 14) (.c (.i .i64 3))) 10 true 7, po 16 (.pick (.t 10) (.t 15) (.c (.b false))) 8])
  (.cond (.t 16) (.region [pm 17 4 0, po 18 (.call (.c (.fn (.func 52) [] [])) [(.t 17), (.c (.b true)), (.c (.b false))]) 1]) .skip)))
def x25 : XFun := ⟨x25b, []⟩
theorem x25_ok : compF Tryd.prog 25 = some x25 := by kernel_rfl
/-- (*bollard/dcep.Table).Gone (24) -/
def x26b : XC := (.seq (.region [po 4 (.mv (.c (.b false))) 0])
  (.seq (.region [pm 7 0 0, pm 8 1 1, po 9 (.call (.c (.fn (.func 50) [] [])) [(.t 7), (.t 8)]) 2, pm 5 9 3])
  (.seq (.seq (.region [pm 10 5 0, po 11 (.nilq 0 false (.t 10)) 1, pm 12 11 2, pg 13 (.mv (.t 5)) 12 false 3, pg 14 (.nilc (.t 13)) 12 false 4, pg 15 (.fadd 0 (.t 14)) 12 false 5, pg 16 (.load false 1 (.t 15)) 12 false 6, pg 17 (.bin .eql (.t 16) (.c (.i .i64 0))) 12 false 7, po 18 (.pick (.t 12) (.c (.b true)) (.t 17)) 8])
  (.cond (.t 18) (.seq (.region [po 4 (.mv (.c (.b false))) 0])
  .ret) .skip))
  (.seq (.region [pm 19 5 0, po 20 (.call (.c (.fn (.func 51) [] [])) [(.t 19)]) 1, pm 6 20 2])
  (.seq (.region [pm 21 5 0, po 22 (.call (.c (.fn (.func 52) [] [])) [(.t 21), (.c (.b false)), (.c (.b true))]) 1])
  (.seq (.region [pm 23 6 0, pm 4 23 1])
  .ret))))))
def x26 : XFun := ⟨x26b, [(.t 4)]⟩
theorem x26_ok : compF Tryd.prog 26 = some x26 := by kernel_rfl
/-- (*bollard/dcep.Table).Opening (16) -/
def x27b : XC := (.seq (.region [⟨(some 4), (.alloc zAB ), none, 0, []⟩])
  (.seq (.seq (.region [pm 6 0 0, pm 7 1 1, po 8 (.call (.c (.fn (.func 50) [] [])) [(.t 6), (.t 7)]) 2, pm 5 8 3])
  (.seq (.region [pm 9 5 0, po 10 (.nilq 0 true (.t 9)) 1])
  (.cond (.t 10) (.seq (.region [pm 11 5 0, po 12 (.nilc (.t 11)) 1, po 13 (.fadd 1 (.t 12)) 2, po 14 (.load true 5 (.t 13)) 3, ⟨none, (.store 5 (.t 4) (.t 14)), none, 4, []⟩])
  .ret) .skip)))
  (.seq (.region [⟨(some 15), (.build zAB  []), none, 0, []⟩, ⟨none, (.store 5 (.t 4) (.t 15)), none, 1, []⟩])
  .ret)))
def x27 : XFun := ⟨x27b, [(.cell 4 true 5)]⟩
theorem x27_ok : compF Tryd.prog 27 = some x27 := by kernel_rfl
/-- bollard/bollardlaw18.pass (53) -/
def x28b : XC := (.seq (.region [po 4 (.mv (.c zAD )) 0, po 5 (.mv (.c (.b false))) 1])
  (.seq (.region [po 6 (.mv (.c zAD )) 0])
  (.seq (.seq (.region [po 7 (.mv (.c (.i .i64 0))) 0])
  (.block 0 (.loop (.seq (.seq (.region [pm 11 7 0, pm 12 1 1, po 13 (.lenx (.t 12)) 2, po 14 (.bin .lss (.t 11) (.t 13)) 3])
  (.cond (.t 14) .skip (.exit 0)))
  (.seq (.block 1 (.seq (.region [pm 18 0 0, pm 19 1 1, pm 20 7 2, po 21 (.isl 4 (.t 19) (.t 20)) 3, po 22 (.load true 4 (.t 21)) 4, po 23 (.call (.c (.fn (.func 35) [] [])) [(.t 18), (.t 22)]) 5, pm 17 23 6, po 24 (.ext (.t 17) 0) 7, po 25 (.ext (.t 17) 1) 8, po 26 (.ext (.t 17) 2) 9, ⟨(some 8), (.alloc zAA ), none, 10, []⟩, ⟨none, (.store 9 (.t 8) (.t 24)), none, 11, []⟩, pm 9 25 12, pm 10 26 13])
  (.seq (.seq (.draw [pm 27 10 0, ⟨(some 28), (.bin .neq (.t 27) (.c (.i .i64 0))), none, 1, [0]⟩, ⟨(some 29), (.mv (.t 28)), none, 2, [0, 1]⟩, ⟨(some 30), (.fadd 1 (.t 8)), (some (29, false)), 3, [0, 1, 2]⟩, ⟨(some 32), (.mv (.t 1)), (some (29, false)), 5, [0, 1, 2]⟩, ⟨(some 33), (.mv (.t 7)), (some (29, false)), 6, [0, 1, 2]⟩, ⟨(some 34), (.isl 4 (.t 32) (.t 33)), (some (29, false)), 7, [0, 1, 2, 5, 6]⟩, ⟨(some 35), (.fadd 0 (.t 34)), (some (29, false)), 8, [0, 1, 2, 5, 6, 7]⟩, ⟨(some 31), (.load false 1 (.t 30)), (some (29, false)), 4, [0, 1, 2, 3]⟩, ⟨(some 36), (.load false 1 (.t 35)), (some (29, false)), 9, [0, 1, 2, 5, 6, 7, 8]⟩, ⟨(some 37), (.bin .neq (.t 31) (.t 36)), (some (29, false)), 10, [0, 1, 2, 3, 4, 5, 6, 7, 8, 9]⟩, ⟨(some 38), (.pick (.t 29) (.c (.b true)) (.t 37)), none, 11, [0, 1, 2, 3, 4, 5, 6, 7, 8, 9, 10]⟩])
  (.cond (.t 38) (.seq (.region [po 4 (.mv (.c zAD )) 0, po 5 (.mv (.c (.b false))) 1])
  .ret) .skip))
  (.seq (.region [pm 39 9 0, po 40 (.lenx (.t 39)) 1, po 41 (.bin .gtr (.t 40) (.c (.i .i64 0))) 2])
  (.cond (.t 41) (.region [pm 42 6 0, pm 43 1 1, pm 44 7 2, po 45 (.isl 4 (.t 43) (.t 44)) 3, po 46 (.fadd 0 (.t 45)) 4, po 47 (.load false 1 (.t 46)) 5, pm 48 9 6, po 49 (.build [(.i .u16 0), (.b false), (.i .u32 0), zAD ] [(0, 1, (.t 47)), (2, 1, (.c (.i .u32 50))), (3, 1, (.t 48))]) 7, po 50 (.bslice [(.i .u16 0), (.b false), (.i .u32 0), zAD ] [(0, 4, (.t 49))] 1) 8, po 51 (.append 4 32 (.t 42) (.t 50)) 9, pm 6 51 10]) .skip)))))
  (.region [pm 15 7 0, po 16 (.bin .add (.t 15) (.c (.i .i64 1))) 1, pm 7 16 2]))))))
  (.seq (.region [pm 52 6 0, pm 4 52 1, po 5 (.mv (.c (.b true))) 2])
  .ret))))
def x28 : XFun := ⟨x28b, [(.t 4), (.t 5)]⟩
theorem x28_ok : compF Tryd.prog 28 = some x28 := by kernel_rfl
/-- (*bollard/dcep.Table).State (15) -/
def x29b : XC := (.seq (.region [po 4 (.mv (.c (.i .i64 0))) 0])
  (.seq (.seq (.region [pm 6 0 0, pm 7 1 1, po 8 (.call (.c (.fn (.func 50) [] [])) [(.t 6), (.t 7)]) 2, pm 5 8 3])
  (.seq (.region [pm 9 5 0, po 10 (.nilq 0 true (.t 9)) 1])
  (.cond (.t 10) (.seq (.region [pm 11 5 0, po 12 (.nilc (.t 11)) 1, po 13 (.fadd 0 (.t 12)) 2, po 14 (.load false 1 (.t 13)) 3, pm 4 14 4])
  .ret) .skip)))
  (.seq (.region [po 4 (.mv (.c (.i .i64 0))) 0])
  .ret)))
def x29 : XFun := ⟨x29b, [(.t 4)]⟩
theorem x29_ok : compF Tryd.prog 29 = some x29 := by kernel_rfl
/-- bollard/bollardref18.New (16) -/
def x30b : XC := (.seq (.region [po 4 (.mv (.c (.p none))) 0])
  (.seq (.seq (.region [pm 5 1 0, po 6 (.bin .lss (.t 5) (.c (.i .i64 1))) 1, pm 7 6 2, pg 8 (.mv (.t 1)) 7 false 3, pg 9 (.bin .gtr (.t 8) (.c (.i .i64 64))) 7 false 4, po 10 (.pick (.t 7) (.c (.b true)) (.t 9)) 5])
  (.cond (.t 10) (.region [po 1 (.mv (.c (.i .i64 64))) 0]) .skip))
  (.seq (.region [pm 11 1 0, ⟨(some 12), (.mkslice zAC  56 (.t 11) (.t 11)), none, 1, []⟩, pm 13 0 2, po 14 (.build [zAD , (.b false)] [(0, 1, (.t 12)), (1, 1, (.t 13))]) 3, po 15 (.box (.t 14)) 4, pm 4 15 5])
  .ret)))
def x30 : XFun := ⟨x30b, [(.t 4)]⟩
theorem x30_ok : compF Tryd.prog 30 = some x30 := by kernel_rfl
/-- bollard/bollardlaw18.step (144) -/
def x31b : XC := (.seq (.region [po 5 (.box (.t 2)) 0, po 6 (.mv (.c (.b false))) 1])
  (.seq (.seq (.region [po 19 (.fadd 0 (.t 5)) 0, po 20 (.load false 1 (.t 19)) 1])
  (.block 0 (.seq (.region [po 22 (.bin .eql (.t 20) (.c (.i .i64 0))) 0, pm 21 22 1])
  (.cond (.t 21) (.seq (.region [pm 24 0 0, po 25 (.fadd 1 (.t 5)) 1, po 26 (.load true 5 (.t 25)) 2, po 27 (.call (.c (.fn (.func 23) [] [])) [(.t 24), (.t 26)]) 3, pm 23 27 4, po 28 (.ext (.t 23) 0) 5, po 29 (.ext (.t 23) 1) 6, po 30 (.ext (.t 23) 2) 7, pm 7 28 8, pm 8 29 9, pm 9 30 10])
  (.seq (.region [pm 32 1 0, po 33 (.fadd 1 (.t 5)) 1, po 34 (.load true 5 (.t 33)) 2, po 35 (.call (.c (.fn (.func 14) [] [])) [(.t 34)]) 3, po 36 (.call (.c (.fn (.func 53) [] [])) [(.t 32), (.t 35)]) 4, pm 31 36 5, po 37 (.ext (.t 31) 0) 6, po 38 (.ext (.t 31) 1) 7, po 39 (.ext (.t 31) 2) 8, pm 10 37 9, pm 11 38 10, pm 12 39 11])
  (.seq (.region [pm 40 7 0, pm 41 10 1, po 42 (.bin .eql (.t 40) (.t 41)) 2, pm 43 42 3, pg 44 (.mv (.t 8)) 43 true 4, pg 45 (.mv (.t 11)) 43 true 5, pg 46 (.call (.c (.fn (.func 15) [] [])) [(.t 44), (.t 45)]) 43 true 6, po 47 (.pick (.t 43) (.t 46) (.c (.b false))) 7, pm 48 47 8, pg 49 (.mv (.t 9)) 48 true 9, pg 50 (.mv (.t 12)) 48 true 10, pg 51 (.bin .eql (.t 49) (.t 50)) 48 true 11, po 52 (.pick (.t 48) (.t 51) (.c (.b false))) 12, pm 6 52 13])
  .ret))) (.seq (.region [po 54 (.bin .eql (.t 20) (.c (.i .i64 1))) 0, pm 53 54 1])
  (.cond (.t 53) (.seq (.region [pm 56 0 0, po 57 (.fadd 6 (.t 5)) 1, po 58 (.load true 4 (.t 57)) 2, po 59 (.call (.c (.fn (.func 35) [] [])) [(.t 56), (.t 58)]) 3, pm 55 59 4, po 60 (.ext (.t 55) 0) 5, po 61 (.ext (.t 55) 1) 6, po 62 (.ext (.t 55) 2) 7, ⟨(some 13), (.alloc zAA ), none, 8, []⟩, ⟨none, (.store 9 (.t 13) (.t 60)), none, 9, []⟩, pm 14 61 10, pm 15 62 11])
  (.seq (.region [pm 64 1 0, po 65 (.fadd 6 (.t 5)) 1, po 66 (.load true 4 (.t 65)) 2, po 67 (.call (.c (.fn (.func 54) [] [])) [(.t 64), (.t 66)]) 3, pm 63 67 4, po 68 (.ext (.t 63) 0) 5, po 69 (.ext (.t 63) 1) 6, po 70 (.ext (.t 63) 2) 7, ⟨(some 16), (.alloc zAA ), none, 8, []⟩, ⟨none, (.store 9 (.t 16) (.t 68)), none, 9, []⟩, pm 17 69 10, pm 18 70 11])
  (.seq (.region [po 71 (.fadd 0 (.t 13)) 0, po 72 (.load false 1 (.t 71)) 1, po 73 (.fadd 0 (.t 16)) 2, po 74 (.load false 1 (.t 73)) 3, po 75 (.bin .eql (.t 72) (.t 74)) 4, pm 76 75 5, pg 77 (.fadd 1 (.t 13)) 76 true 6, pg 78 (.load false 1 (.t 77)) 76 true 7, pg 79 (.fadd 1 (.t 16)) 76 true 8, pg 80 (.load false 1 (.t 79)) 76 true 9, pg 81 (.bin .eql (.t 78) (.t 80)) 76 true 10, po 82 (.pick (.t 76) (.t 81) (.c (.b false))) 11, pm 83 82 12, pg 84 (.fadd 2 (.t 13)) 83 true 13, pg 85 (.load true 5 (.t 84)) 83 true 14, pg 86 (.fadd 2 (.t 16)) 83 true 15, pg 87 (.load true 5 (.t 86)) 83 true 16, pg 88 (.call (.c (.fn (.func 18) [] [])) [(.t 85), (.t 87)]) 83 true 17, po 89 (.pick (.t 83) (.t 88) (.c (.b false))) 18, pm 90 89 19, pg 91 (.fadd 7 (.t 13)) 90 true 20, pg 92 (.load false 1 (.t 91)) 90 true 21, pg 93 (.fadd 7 (.t 16)) 90 true 22, pg 94 (.load false 1 (.t 93)) 90 true 23, pg 95 (.beq false (.t 92) (.t 94)) 90 true 24, po 96 (.pick (.t 90) (.t 95) (.c (.b false))) 25, pm 97 96 26, pg 98 (.fadd 8 (.t 13)) 97 true 27, pg 99 (.load false 1 (.t 98)) 97 true 28, pg 100 (.fadd 8 (.t 16)) 97 true 29, pg 101 (.load false 1 (.t 100)) 97 true 30, pg 102 (.call (.c (.fn (.func 15) [] [])) [(.t 99), (.t 101)]) 97 true 31, po 103 (.pick (.t 97) (.t 102) (.c (.b false))) 32, pm 104 103 33, pg 105 (.mv (.t 14)) 104 true 34, pg 106 (.mv (.t 17)) 104 true 35, pg 107 (.call (.c (.fn (.func 15) [] [])) [(.t 105), (.t 106)]) 104 true 36, po 108 (.pick (.t 104) (.t 107) (.c (.b false))) 37, pm 109 108 38, pg 110 (.mv (.t 15)) 109 true 39, pg 111 (.mv (.t 18)) 109 true 40, pg 112 (.bin .eql (.t 110) (.t 111)) 109 true 41, po 113 (.pick (.t 109) (.t 112) (.c (.b false))) 42, pm 6 113 43])
  .ret))) (.seq (.region [po 115 (.bin .eql (.t 20) (.c (.i .i64 2))) 0, pm 114 115 1])
  (.cond (.t 114) (.seq (.draw [pm 116 0 0, po 117 (.fadd 10 (.t 5)) 1, pm 120 1 4, po 121 (.fadd 10 (.t 5)) 5, ⟨(some 118), (.load false 1 (.t 117)), none, 2, [1]⟩, ⟨(some 122), (.load false 1 (.t 121)), none, 6, [5]⟩, ⟨(some 119), (.call (.c (.fn (.func 24) [] [])) [(.t 116), (.t 118)]), none, 3, [0, 1, 2]⟩, ⟨(some 123), (.call (.c (.fn (.func 55) [] [])) [(.t 120), (.t 122)]), none, 7, [0, 1, 2, 3, 4, 5, 6]⟩, ⟨(some 124), (.bin .eql (.t 119) (.t 123)), none, 8, [0, 1, 2, 3, 4, 5, 6, 7]⟩, ⟨(some 6), (.mv (.t 124)), none, 9, [0, 1, 2, 3, 4, 5, 6, 7, 8]⟩])
  .ret) (.seq (.region [po 126 (.bin .eql (.t 20) (.c (.i .i64 3))) 0, pm 125 126 1])
  (.cond (.t 125) (.seq (.draw [pm 127 0 0, po 128 (.fadd 10 (.t 5)) 1, pm 131 1 4, po 132 (.fadd 10 (.t 5)) 5, ⟨(some 129), (.load false 1 (.t 128)), none, 2, [1]⟩, ⟨(some 133), (.load false 1 (.t 132)), none, 6, [5]⟩, ⟨(some 130), (.call (.c (.fn (.func 26) [] [])) [(.t 127), (.t 129)]), none, 3, [0, 1, 2]⟩, ⟨(some 134), (.call (.c (.fn (.func 56) [] [])) [(.t 131), (.t 133)]), none, 7, [0, 1, 2, 3, 4, 5, 6]⟩, ⟨(some 135), (.beq false (.t 130) (.t 134)), none, 8, [0, 1, 2, 3, 4, 5, 6, 7]⟩, ⟨(some 6), (.mv (.t 135)), none, 9, [0, 1, 2, 3, 4, 5, 6, 7, 8]⟩])
  .ret) .skip))))))))))
  (.seq (.region [pm 136 0 0, po 137 (.fadd 10 (.t 5)) 1, po 138 (.load false 1 (.t 137)) 2, po 139 (.call (.c (.fn (.func 25) [] [])) [(.t 136), (.t 138)]) 3])
  (.seq (.region [pm 140 1 0, po 141 (.fadd 10 (.t 5)) 1, po 142 (.load false 1 (.t 141)) 2, po 143 (.call (.c (.fn (.func 57) [] [])) [(.t 140), (.t 142)]) 3])
  (.seq (.region [po 6 (.mv (.c (.b true))) 0])
  .ret)))))
def x31 : XFun := ⟨x31b, [(.t 6)]⟩
theorem x31_ok : compF Tryd.prog 31 = some x31 := by kernel_rfl
/-- (*bollard/bollardref18.Table).Of (22) -/
def x32b : XC := (.seq (.region [⟨(some 4), (.alloc zAC ), none, 0, []⟩])
  (.seq (.seq (.region [pm 5 1 0, po 6 (.cint .i64 (.t 5)) 1, pm 7 0 2, po 8 (.nilc (.t 7)) 3, po 9 (.fadd 0 (.t 8)) 4, po 10 (.load false 1 (.t 9)) 5, po 11 (.lenx (.t 10)) 6, po 12 (.bin .geq (.t 6) (.t 11)) 7])
  (.cond (.t 12) (.seq (.region [⟨(some 13), (.build zAC  []), none, 0, []⟩, ⟨none, (.store 8 (.t 4) (.t 13)), none, 1, []⟩])
  .ret) .skip))
  (.seq (.region [pm 14 0 0, po 15 (.nilc (.t 14)) 1, po 16 (.fadd 0 (.t 15)) 2, po 17 (.load false 1 (.t 16)) 3, pm 18 1 4, po 19 (.cint .i64 (.t 18)) 5, po 20 (.isl 8 (.t 17) (.t 19)) 6, po 21 (.load true 8 (.t 20)) 7, ⟨none, (.store 8 (.t 4) (.t 21)), none, 8, []⟩])
  .ret)))
def x32 : XFun := ⟨x32b, [(.cell 4 true 8)]⟩
theorem x32_ok : compF Tryd.prog 32 = some x32 := by kernel_rfl
/-- (*bollard/dcep.Table).Find (20) -/
def x33b : XC := (.seq (.region [po 3 (.box (.t 1)) 0, po 4 (.mv (.c (.i .u16 0))) 1, po 5 (.mv (.c (.b false))) 2])
  (.seq (.seq (.region [pm 7 0 0, po 8 (.nilq 0 false (.t 7)) 1])
  (.cond (.t 8) (.seq (.region [po 4 (.mv (.c (.i .u16 0))) 0, po 5 (.mv (.c (.b false))) 1])
  .ret) .skip))
  (.seq (.region [pm 9 0 0, po 10 (.nilc (.t 9)) 1, po 11 (.fadd 0 (.t 10)) 2, po 12 (.load false 1 (.t 11)) 3, po 13 (.mkf (.func 59) [] [(.t 3)]) 4, po 14 (.call (.c (.fn (.func 58) [] [])) [(.t 12), (.t 13)]) 5, pm 6 14 6])
  (.seq (.region [pm 15 6 0, po 16 (.mnmx true [(.t 15), (.c (.i .i64 0))]) 1, po 17 (.cint .u16 (.t 16)) 2, pm 18 6 3, po 19 (.bin .geq (.t 18) (.c (.i .i64 0))) 4, pm 4 17 5, pm 5 19 6])
  .ret))))
def x33 : XFun := ⟨x33b, [(.t 4), (.t 5)]⟩
theorem x33_ok : compF Tryd.prog 33 = some x33 := by kernel_rfl
/-- (*bollard/bollardref18.Table).Find (51) -/
def x34b : XC := (.seq (.region [po 4 (.mv (.c (.i .u16 0))) 0, po 5 (.mv (.c (.b false))) 1])
  (.seq (.seq (.region [po 6 (.mv (.c (.i .i64 0))) 0])
  (.block 0 (.loop (.seq (.seq (.region [pm 7 6 0, pm 8 0 1, po 9 (.nilc (.t 8)) 2, po 10 (.fadd 0 (.t 9)) 3, po 11 (.load false 1 (.t 10)) 4, po 12 (.lenx (.t 11)) 5, po 13 (.bin .lss (.t 7) (.t 12)) 6])
  (.cond (.t 13) .skip (.exit 0)))
  (.seq (.block 1 (.seq (.region [pm 16 0 0, po 17 (.nilc (.t 16)) 1, po 18 (.fadd 0 (.t 17)) 2, po 19 (.load false 1 (.t 18)) 3, pm 20 6 4, po 21 (.isl 8 (.t 19) (.t 20)) 5, po 22 (.fadd 0 (.t 21)) 6, po 23 (.load false 1 (.t 22)) 7, po 24 (.bin .eql (.t 23) (.c (.i .i64 1))) 8, pm 25 24 9, pg 26 (.mv (.t 0)) 25 false 10, pg 27 (.nilc (.t 26)) 25 false 11, pg 28 (.fadd 0 (.t 27)) 25 false 12, pg 29 (.load false 1 (.t 28)) 25 false 13, pg 30 (.mv (.t 6)) 25 false 14, pg 31 (.isl 8 (.t 29) (.t 30)) 25 false 15, pg 32 (.fadd 0 (.t 31)) 25 false 16, pg 33 (.load false 1 (.t 32)) 25 false 17, pg 34 (.bin .eql (.t 33) (.c (.i .i64 2))) 25 false 18, po 35 (.pick (.t 25) (.c (.b true)) (.t 34)) 19, pm 36 35 20, pg 37 (.mv (.t 0)) 36 true 21, pg 38 (.nilc (.t 37)) 36 true 22, pg 39 (.fadd 0 (.t 38)) 36 true 23, pg 40 (.load false 1 (.t 39)) 36 true 24, pg 41 (.mv (.t 6)) 36 true 25, pg 42 (.isl 8 (.t 40) (.t 41)) 36 true 26, pg 43 (.fadd 1 (.t 42)) 36 true 27, pg 44 (.fadd 3 (.t 43)) 36 true 28, pg 45 (.load false 1 (.t 44)) 36 true 29, pg 46 (.mv (.t 1)) 36 true 30, pg 47 (.bin .eql (.t 45) (.t 46)) 36 true 31, po 48 (.pick (.t 36) (.t 47) (.c (.b false))) 32])
  (.cond (.t 48) (.seq (.region [pm 49 6 0, po 50 (.cint .u16 (.t 49)) 1, pm 4 50 2, po 5 (.mv (.c (.b true))) 3])
  .ret) .skip)))
  (.region [pm 14 6 0, po 15 (.bin .add (.t 14) (.c (.i .i64 1))) 1, pm 6 15 2]))))))
  (.seq (.region [po 4 (.mv (.c (.i .u16 0))) 0, po 5 (.mv (.c (.b false))) 1])
  .ret)))
def x34 : XFun := ⟨x34b, [(.t 4), (.t 5)]⟩
theorem x34_ok : compF Tryd.prog 34 = some x34 := by kernel_rfl
/-- (*bollard/dcep.Table).Hear (83) -/
def x35b : XC := (.seq (.region [po 3 (.box (.t 1)) 0, ⟨(some 4), (.alloc zAA ), none, 1, []⟩, po 5 (.mv (.c zAD )) 2, po 6 (.mv (.c (.i .i64 0))) 3])
  (.seq (.region [pm 13 0 0, po 14 (.fadd 0 (.t 3)) 1, po 15 (.load false 1 (.t 14)) 2, po 16 (.call (.c (.fn (.func 50) [] [])) [(.t 13), (.t 15)]) 3, pm 7 16 4])
  (.seq (.block 0 (.seq (.region [pm 18 7 0, po 19 (.nilq 0 false (.t 18)) 1, pm 17 19 2])
  (.cond (.t 17) (.seq (.region [⟨(some 20), (.build zAA  []), none, 0, []⟩, ⟨none, (.store 9 (.t 4) (.t 20)), none, 1, []⟩, po 5 (.mv (.c zAD )) 2, po 6 (.mv (.c (.i .i64 1))) 3])
  .ret) (.seq (.region [po 22 (.fadd 2 (.t 3)) 0, po 23 (.load false 1 (.t 22)) 1, po 24 (.bin .eql (.t 23) (.c (.i .u32 50))) 2, pm 25 24 3, pg 26 (.fadd 3 (.t 3)) 25 true 4, pg 27 (.load false 1 (.t 26)) 25 true 5, pg 28 (.bslice [(.i .u8 0)] [(0, 1, (.c (.i .u8 2)))] 1) 25 true 6, pg 29 (.call (.c (.fn (.func 60) [] [])) [(.t 27), (.t 28)]) 25 true 7, po 30 (.pick (.t 25) (.t 29) (.c (.b false))) 8, pm 21 30 9])
  (.cond (.t 21) (.seq (.region [pm 32 7 0, po 33 (.fadd 0 (.t 3)) 1, po 34 (.load false 1 (.t 33)) 2, po 35 (.call (.c (.fn (.func 61) [] [])) [(.t 32), (.t 34)]) 3, pm 31 35 4, po 36 (.ext (.t 31) 0) 5, po 37 (.ext (.t 31) 1) 6, ⟨(some 8), (.alloc zAA ), none, 7, []⟩, ⟨none, (.store 9 (.t 8) (.t 36)), none, 8, []⟩, pm 9 37 9])
  (.seq (.region [po 38 (.load true 9 (.t 8)) 0, pm 39 9 1, ⟨none, (.store 9 (.t 4) (.t 38)), none, 2, []⟩, po 5 (.mv (.c zAD )) 3, pm 6 39 4])
  .ret)) (.seq (.region [po 41 (.fadd 2 (.t 3)) 0, po 42 (.load false 1 (.t 41)) 1, po 43 (.bin .eql (.t 42) (.c (.i .u32 50))) 2, pm 40 43 3])
  (.cond (.t 40) (.seq (.region [pm 44 0 0, po 45 (.load true 4 (.t 3)) 1, pm 46 7 2, po 47 (.call (.c (.fn (.func 62) [] [])) [(.t 44), (.t 45), (.t 46)]) 3, po 48 (.ext (.t 47) 0) 4, po 49 (.ext (.t 47) 1) 5, po 50 (.ext (.t 47) 2) 6, ⟨none, (.store 9 (.t 4) (.t 48)), none, 7, []⟩, pm 5 49 8, pm 6 50 9])
  .ret) (.seq (.region [pm 52 7 0, po 53 (.nilc (.t 52)) 1, po 54 (.fadd 0 (.t 53)) 2, po 55 (.load false 1 (.t 54)) 3, po 56 (.bin .eql (.t 55) (.c (.i .i64 0))) 4, pm 51 56 5])
  (.cond (.t 51) (.seq (.region [⟨(some 57), (.build zAA  []), none, 0, []⟩, ⟨none, (.store 9 (.t 4) (.t 57)), none, 1, []⟩, po 5 (.mv (.c zAD )) 2, po 6 (.mv (.c (.i .i64 11))) 3])
  .ret) .skip)))))))))
  (.seq (.region [po 59 (.fadd 2 (.t 3)) 0, po 60 (.load false 1 (.t 59)) 1, po 61 (.fadd 3 (.t 3)) 2, po 62 (.load false 1 (.t 61)) 3, po 63 (.call (.c (.fn (.func 20) [] [])) [(.t 60), (.t 62)]) 4, pm 58 63 5, po 64 (.ext (.t 58) 0) 6, po 65 (.ext (.t 58) 1) 7, po 66 (.ext (.t 58) 2) 8, pm 10 64 9, pm 11 65 10, pm 12 66 11])
  (.seq (.block 1 (.seq (.region [pm 68 12 0, po 69 (.unx .not (.t 68)) 1, pm 67 69 2])
  (.cond (.t 67) (.seq (.region [⟨(some 70), (.build zAA  []), none, 0, []⟩, ⟨none, (.store 9 (.t 4) (.t 70)), none, 1, []⟩, po 5 (.mv (.c zAD )) 2, po 6 (.mv (.c (.i .i64 3))) 3])
  .ret) (.seq (.region [pm 72 7 0, po 73 (.nilc (.t 72)) 1, po 74 (.fadd 0 (.t 73)) 2, po 75 (.load false 1 (.t 74)) 3, po 76 (.bin .eql (.t 75) (.c (.i .i64 3))) 4, pm 71 76 5])
  (.cond (.t 71) (.seq (.region [⟨(some 77), (.build zAA  []), none, 0, []⟩, ⟨none, (.store 9 (.t 4) (.t 77)), none, 1, []⟩, po 5 (.mv (.c zAD )) 2, po 6 (.mv (.c (.i .i64 0))) 3])
  .ret) .skip)))))
  (.seq (.region [po 78 (.fadd 0 (.t 3)) 0, po 79 (.load false 1 (.t 78)) 1, pm 80 10 2, pm 81 11 3, ⟨(some 82), (.build zAA  [(0, 1, (.c (.i .i64 3))), (1, 1, (.t 79)), (7, 1, (.t 80)), (8, 1, (.t 81))]), none, 4, []⟩, ⟨none, (.store 9 (.t 4) (.t 82)), none, 5, []⟩, po 5 (.mv (.c zAD )) 6, po 6 (.mv (.c (.i .i64 0))) 7])
  .ret))))))
def x35 : XFun := ⟨x35b, [(.cell 4 true 9), (.t 5), (.t 6)]⟩
theorem x35_ok : compF Tryd.prog 35 = some x35 := by kernel_rfl
/-- (bollard/dcep.Opening).right (17) -/
def x36b : XC := (.seq (.region [po 1 (.box (.t 0)) 0, po 2 (.mv (.c (.b false))) 1])
  (.seq (.region [po 3 (.fadd 0 (.t 1)) 0, po 4 (.load false 1 (.t 3)) 1, po 5 (.bin .andNot (.t 4) (.c (.i .u8 128))) 2, po 6 (.bin .leq (.t 5) (.c (.i .u8 2))) 3, pm 7 6 4, pg 8 (.fadd 3 (.t 1)) 7 true 5, pg 9 (.load false 1 (.t 8)) 7 true 6, pg 10 (.call (.c (.fn (.func 63) [] [])) [(.t 9)]) 7 true 7, po 11 (.pick (.t 7) (.t 10) (.c (.b false))) 8, pm 12 11 9, pg 13 (.fadd 4 (.t 1)) 12 true 10, pg 14 (.load false 1 (.t 13)) 12 true 11, pg 15 (.call (.c (.fn (.func 63) [] [])) [(.t 14)]) 12 true 12, po 16 (.pick (.t 12) (.t 15) (.c (.b false))) 13, pm 2 16 14])
  .ret))
def x36 : XFun := ⟨x36b, [(.t 2)]⟩
theorem x36_ok : compF Tryd.prog 36 = some x36 := by kernel_rfl
/-- bollard/octet.Put32 (19) -/
def x37b : XC := (.seq (.region [po 4 (.mv (.c zAD )) 0])
  (.seq (.region [pm 5 0 0, pm 6 1 1, po 7 (.bin .shr (.t 6) (.c (.i .u64 24))) 2, po 8 (.cint .u8 (.t 7)) 3, pm 9 1 4, po 10 (.bin .shr (.t 9) (.c (.i .u64 16))) 5, po 11 (.cint .u8 (.t 10)) 6, pm 12 1 7, po 13 (.bin .shr (.t 12) (.c (.i .u64 8))) 8, po 14 (.cint .u8 (.t 13)) 9, pm 15 1 10, po 16 (.cint .u8 (.t 15)) 11, po 17 (.bslice [(.i .u8 0), (.i .u8 0), (.i .u8 0), (.i .u8 0)] [(0, 1, (.t 8)), (1, 1, (.t 11)), (2, 1, (.t 14)), (3, 1, (.t 16))] 4) 12, po 18 (.call (.c (.fn (.func 64) [] [])) [(.t 5), (.t 17)]) 13, pm 4 18 14])
  .ret))
def x37 : XFun := ⟨x37b, [(.t 4)]⟩
theorem x37_ok : compF Tryd.prog 37 = some x37 := by kernel_rfl
/-- bollard/octet.Put16 (13) -/
def x38b : XC := (.seq (.region [po 4 (.mv (.c zAD )) 0])
  (.seq (.region [pm 5 0 0, pm 6 1 1, po 7 (.bin .shr (.t 6) (.c (.i .u64 8))) 2, po 8 (.cint .u8 (.t 7)) 3, pm 9 1 4, po 10 (.cint .u8 (.t 9)) 5, po 11 (.bslice [(.i .u8 0), (.i .u8 0)] [(0, 1, (.t 8)), (1, 1, (.t 10))] 2) 6, po 12 (.call (.c (.fn (.func 64) [] [])) [(.t 5), (.t 11)]) 7, pm 4 12 8])
  .ret))
def x38 : XFun := ⟨x38b, [(.t 4)]⟩
theorem x38_ok : compF Tryd.prog 38 = some x38 := by kernel_rfl
/-- bollard/bollardref18.may (19) -/
def x39b : XC := (.seq (.region [po 1 (.box (.t 0)) 0, po 2 (.mv (.c (.b false))) 1])
  (.seq (.region [po 4 (.fadd 0 (.t 1)) 0, po 5 (.load false 1 (.t 4)) 1, po 6 (.bin .rem (.t 5) (.c (.i .u8 128))) 2, pm 3 6 3])
  (.seq (.region [pm 7 3 0, po 8 (.bin .leq (.t 7) (.c (.i .u8 2))) 1, pm 9 8 2, pg 10 (.fadd 3 (.t 1)) 9 true 3, pg 11 (.load false 1 (.t 10)) 9 true 4, pg 12 (.call (.c (.fn (.func 65) [] [])) [(.t 11)]) 9 true 5, po 13 (.pick (.t 9) (.t 12) (.c (.b false))) 6, pm 14 13 7, pg 15 (.fadd 4 (.t 1)) 14 true 8, pg 16 (.load false 1 (.t 15)) 14 true 9, pg 17 (.call (.c (.fn (.func 65) [] [])) [(.t 16)]) 14 true 10, po 18 (.pick (.t 14) (.t 17) (.c (.b false))) 11, pm 2 18 12])
  .ret)))
def x39 : XFun := ⟨x39b, [(.t 2)]⟩
theorem x39_ok : compF Tryd.prog 39 = some x39 := by kernel_rfl
/-- bollard/bollardref01.Put (28) -/
def x40b : XC := (.seq (.region [po 6 (.mv (.c zAD )) 0])
  (.seq (.region [po 7 (.mv (.c zAD )) 0])
  (.seq (.region [pm 9 7 0, pm 10 0 1, po 11 (.append 1 1 (.t 9) (.t 10)) 2, pm 7 11 3])
  (.seq (.seq (.region [pm 12 2 0, po 13 (.bin .sub (.t 12) (.c (.i .i64 1))) 1, pm 8 13 2])
  (.block 0 (.loop (.seq (.seq (.region [pm 14 8 0, po 15 (.bin .geq (.t 14) (.c (.i .i64 0))) 1])
  (.cond (.t 15) .skip (.exit 0)))
  (.seq (.block 1 (.region [pm 18 7 0, pm 19 1 1, pm 20 8 2, po 21 (.bin .mul (.c (.i .i64 8)) (.t 20)) 3, po 22 (.cint .u64 (.t 21)) 4, po 23 (.bin .shr (.t 19) (.t 22)) 5, po 24 (.cint .u8 (.t 23)) 6, po 25 (.bslice [(.i .u8 0)] [(0, 1, (.t 24))] 1) 7, po 26 (.append 1 1 (.t 18) (.t 25)) 8, pm 7 26 9]))
  (.region [pm 16 8 0, po 17 (.bin .sub (.t 16) (.c (.i .i64 1))) 1, pm 8 17 2]))))))
  (.seq (.region [pm 27 7 0, pm 6 27 1])
  .ret)))))
def x40 : XFun := ⟨x40b, [(.t 6)]⟩
theorem x40_ok : compF Tryd.prog 40 = some x40 := by kernel_rfl
/-- bollard/octet.New (7) -/
def x41b : XC := (.seq (.region [po 2 (.mv (.c (.p none))) 0])
  (.seq (.region [pm 3 0 0, po 4 (.call (.c (.fn (.func 48) [] [])) [(.t 3)]) 1, po 5 (.build [zAD ] [(0, 1, (.t 4))]) 2, po 6 (.box (.t 5)) 3, pm 2 6 4])
  .ret))
def x41 : XFun := ⟨x41b, [(.t 2)]⟩
theorem x41_ok : compF Tryd.prog 41 = some x41 := by kernel_rfl
/-- (*bollard/octet.Reader).Get8 (17) -/
def x42b : XC := (.seq (.region [po 2 (.mv (.c (.i .u8 0))) 0, po 3 (.mv (.c (.i .i64 0))) 1])
  (.seq (.region [pm 7 0 0, po 8 (.call (.c (.fn (.func 66) [] [])) [(.t 7), (.c (.i .i64 1))]) 1, pm 6 8 2, po 9 (.ext (.t 6) 0) 3, po 10 (.ext (.t 6) 1) 4, pm 4 9 5, pm 5 10 6])
  (.seq (.seq (.region [pm 11 5 0, po 12 (.bin .neq (.t 11) (.c (.i .i64 0))) 1])
  (.cond (.t 12) (.seq (.region [pm 13 5 0, po 2 (.mv (.c (.i .u8 0))) 1, pm 3 13 2])
  .ret) .skip))
  (.seq (.region [pm 14 4 0, po 15 (.isl 1 (.t 14) (.c (.i .i64 0))) 1, po 16 (.load false 1 (.t 15)) 2, pm 2 16 3, po 3 (.mv (.c (.i .i64 0))) 4])
  .ret))))
def x42 : XFun := ⟨x42b, [(.t 2), (.t 3)]⟩
theorem x42_ok : compF Tryd.prog 42 = some x42 := by kernel_rfl
/-- (*bollard/octet.Reader).Get16 (24) -/
def x43b : XC := (.seq (.region [po 2 (.mv (.c (.i .u16 0))) 0, po 3 (.mv (.c (.i .i64 0))) 1])
  (.seq (.region [pm 7 0 0, po 8 (.call (.c (.fn (.func 66) [] [])) [(.t 7), (.c (.i .i64 2))]) 1, pm 6 8 2, po 9 (.ext (.t 6) 0) 3, po 10 (.ext (.t 6) 1) 4, pm 4 9 5, pm 5 10 6])
  (.seq (.seq (.region [pm 11 5 0, po 12 (.bin .neq (.t 11) (.c (.i .i64 0))) 1])
  (.cond (.t 12) (.seq (.region [pm 13 5 0, po 2 (.mv (.c (.i .u16 0))) 1, pm 3 13 2])
  .ret) .skip))
  (.seq (.draw [pm 14 4 0, ⟨(some 15), (.isl 1 (.t 14) (.c (.i .i64 0))), none, 1, [0]⟩, pm 19 4 5, ⟨(some 20), (.isl 1 (.t 19) (.c (.i .i64 1))), none, 6, [5]⟩, ⟨(some 16), (.load false 1 (.t 15)), none, 2, [0, 1]⟩, ⟨(some 17), (.cint .u16 (.t 16)), none, 3, [0, 1, 2]⟩, ⟨(some 18), (.bin .shl (.t 17) (.c (.i .u64 8))), none, 4, [0, 1, 2, 3]⟩, ⟨(some 21), (.load false 1 (.t 20)), none, 7, [5, 6]⟩, ⟨(some 22), (.cint .u16 (.t 21)), none, 8, [5, 6, 7]⟩, ⟨(some 23), (.bin .or (.t 18) (.t 22)), none, 9, [0, 1, 2, 3, 4, 5, 6, 7, 8]⟩, ⟨(some 2), (.mv (.t 23)), none, 10, [0, 1, 2, 3, 4, 5, 6, 7, 8, 9]⟩, ⟨(some 3), (.mv (.c (.i .i64 0))), none, 11, [0, 1, 2, 3, 4, 5, 6, 7, 8, 9, 10]⟩])
  .ret))))
def x43 : XFun := ⟨x43b, [(.t 2), (.t 3)]⟩
theorem x43_ok : compF Tryd.prog 43 = some x43 := by kernel_rfl
/-- (*bollard/octet.Reader).Get32 (36) -/
def x44b : XC := (.seq (.region [po 2 (.mv (.c (.i .u32 0))) 0, po 3 (.mv (.c (.i .i64 0))) 1])
  (.seq (.region [pm 7 0 0, po 8 (.call (.c (.fn (.func 66) [] [])) [(.t 7), (.c (.i .i64 4))]) 1, pm 6 8 2, po 9 (.ext (.t 6) 0) 3, po 10 (.ext (.t 6) 1) 4, pm 4 9 5, pm 5 10 6])
  (.seq (.seq (.region [pm 11 5 0, po 12 (.bin .neq (.t 11) (.c (.i .i64 0))) 1])
  (.cond (.t 12) (.seq (.region [pm 13 5 0, po 2 (.mv (.c (.i .u32 0))) 1, pm 3 13 2])
  .ret) .skip))
  (.seq (.draw [pm 14 4 0, ⟨(some 15), (.isl 1 (.t 14) (.c (.i .i64 0))), none, 1, [0]⟩, pm 19 4 5, ⟨(some 20), (.isl 1 (.t 19) (.c (.i .i64 1))), none, 6, [5]⟩, pm 25 4 11, ⟨(some 26), (.isl 1 (.t 25) (.c (.i .i64 2))), none, 12, [11]⟩, pm 31 4 17, ⟨(some 32), (.isl 1 (.t 31) (.c (.i .i64 3))), none, 18, [17]⟩, ⟨(some 16), (.load false 1 (.t 15)), none, 2, [0, 1]⟩, ⟨(some 17), (.cint .u32 (.t 16)), none, 3, [0, 1, 2]⟩, ⟨(some 18), (.bin .shl (.t 17) (.c (.i .u64 24))), none, 4, [0, 1, 2, 3]⟩, ⟨(some 21), (.load false 1 (.t 20)), none, 7, [5, 6]⟩, ⟨(some 22), (.cint .u32 (.t 21)), none, 8, [5, 6, 7]⟩, ⟨(some 23), (.bin .shl (.t 22) (.c (.i .u64 16))), none, 9, [5, 6, 7, 8]⟩, ⟨(some 24), (.bin .or (.t 18) (.t 23)), none, 10, [0, 1, 2, 3, 4, 5, 6, 7, 8, 9]⟩, ⟨(some 27), (.load false 1 (.t 26)), none, 13, [11, 12]⟩, ⟨(some 28), (.cint .u32 (.t 27)), none, 14, [11, 12, 13]⟩, ⟨(some 29), (.bin .shl (.t 28) (.c (.i .u64 8))), none, 15, [11, 12, 13, 14]⟩, ⟨(some 30), (.bin .or (.t 24) (.t 29)), none, 16, [0, 1, 2, 3, 4, 5, 6, 7, 8, 9, 10, 11, 12, 13, 14, 15]⟩, ⟨(some 33), (.load false 1 (.t 32)), none, 19, [17, 18]⟩, ⟨(some 34), (.cint .u32 (.t 33)), none, 20, [17, 18, 19]⟩, ⟨(some 35), (.bin .or (.t 30) (.t 34)), none, 21, [0, 1, 2, 3, 4, 5, 6, 7, 8, 9, 10, 11, 12, 13, 14, 15, 16, 17, 18, 19, 20]⟩, ⟨(some 2), (.mv (.t 35)), none, 22, [0, 1, 2, 3, 4, 5, 6, 7, 8, 9, 10, 11, 12, 13, 14, 15, 16, 17, 18, 19, 20, 21]⟩, ⟨(some 3), (.mv (.c (.i .i64 0))), none, 23, [0, 1, 2, 3, 4, 5, 6, 7, 8, 9, 10, 11, 12, 13, 14, 15, 16, 17, 18, 19, 20, 21, 22]⟩])
  .ret))))
def x44 : XFun := ⟨x44b, [(.t 2), (.t 3)]⟩
theorem x44_ok : compF Tryd.prog 44 = some x44 := by kernel_rfl
/-- (*bollard/octet.Reader).Bytes (17) -/
def x45b : XC := (.seq (.region [po 4 (.mv (.c zAD )) 0, po 5 (.mv (.c (.i .i64 0))) 1])
  (.seq (.region [pm 9 0 0, pm 10 1 1, po 11 (.call (.c (.fn (.func 66) [] [])) [(.t 9), (.t 10)]) 2, pm 8 11 3, po 12 (.ext (.t 8) 0) 4, po 13 (.ext (.t 8) 1) 5, pm 6 12 6, pm 7 13 7])
  (.seq (.region [pm 14 6 0, po 15 (.call (.c (.fn (.func 48) [] [])) [(.t 14)]) 1, pm 16 7 2, pm 4 15 3, pm 5 16 4])
  .ret)))
def x45 : XFun := ⟨x45b, [(.t 4), (.t 5)]⟩
theorem x45_ok : compF Tryd.prog 45 = some x45 := by kernel_rfl
/-- (*bollard/octet.Reader).Left (10) -/
def x46b : XC := (.seq (.region [po 2 (.mv (.c (.i .i64 0))) 0])
  (.seq (.seq (.region [pm 3 0 0, po 4 (.nilq 0 false (.t 3)) 1])
  (.cond (.t 4) (.seq (.region [po 2 (.mv (.c (.i .i64 0))) 0])
  .ret) .skip))
  (.seq (.region [pm 5 0 0, po 6 (.nilc (.t 5)) 1, po 7 (.fadd 0 (.t 6)) 2, po 8 (.load false 1 (.t 7)) 3, po 9 (.lenx (.t 8)) 4, pm 2 9 5])
  .ret)))
def x46 : XFun := ⟨x46b, [(.t 2)]⟩
theorem x46_ok : compF Tryd.prog 46 = some x46 := by kernel_rfl
/-- bollard/bollardref01.Get (31) -/
def x47b : XC := (.seq (.region [po 4 (.mv (.c (.i .u32 0))) 0, po 5 (.mv (.c zAD )) 1, po 6 (.mv (.c (.i .i64 0))) 2])
  (.seq (.seq (.region [pm 9 0 0, po 10 (.lenx (.t 9)) 1, pm 11 1 2, po 12 (.bin .lss (.t 10) (.t 11)) 3])
  (.cond (.t 12) (.seq (.region [pm 13 0 0, po 4 (.mv (.c (.i .u32 0))) 1, pm 5 13 2, po 6 (.mv (.c (.i .i64 2))) 3])
  .ret) .skip))
  (.seq (.region [po 7 (.mv (.c (.i .u32 0))) 0])
  (.seq (.seq (.region [po 8 (.mv (.c (.i .i64 0))) 0])
  (.block 0 (.loop (.seq (.seq (.region [pm 14 8 0, pm 15 1 1, po 16 (.bin .lss (.t 14) (.t 15)) 2])
  (.cond (.t 16) .skip (.exit 0)))
  (.seq (.block 1 (.region [pm 19 7 0, po 20 (.bin .shl (.t 19) (.c (.i .u64 8))) 1, pm 21 0 2, pm 22 8 3, po 23 (.isl 1 (.t 21) (.t 22)) 4, po 24 (.load false 1 (.t 23)) 5, po 25 (.cint .u32 (.t 24)) 6, po 26 (.bin .or (.t 20) (.t 25)) 7, pm 7 26 8]))
  (.region [pm 17 8 0, po 18 (.bin .add (.t 17) (.c (.i .i64 1))) 1, pm 8 18 2]))))))
  (.seq (.draw [pm 27 7 0, pm 28 0 1, pm 29 1 2, ⟨(some 30), (.slsl 1 (.t 28) (some (.t 29)) none none), none, 3, [1, 2]⟩, ⟨(some 4), (.mv (.t 27)), none, 4, [0]⟩, ⟨(some 5), (.mv (.t 30)), none, 5, [0, 1, 2, 3, 4]⟩, ⟨(some 6), (.mv (.c (.i .i64 0))), none, 6, [0, 1, 2, 3, 4, 5]⟩])
  .ret)))))
def x47 : XFun := ⟨x47b, [(.t 4), (.t 5), (.t 6)]⟩
theorem x47_ok : compF Tryd.prog 47 = some x47 := by kernel_rfl
/-- slices.Clone[[]byte,byte] (8) -/
def x48b : XC := (.seq (.region [po 2 (.mv (.c zAD )) 0])
  (.seq (.seq (.region [pm 3 0 0, po 4 (.nilq 1 false (.t 3)) 1])
  (.cond (.t 4) (.seq (.region [po 2 (.mv (.c zAD )) 0])
  .ret) .skip))
  (.seq (.region [po 5 (.bslice [] [] 0) 0, pm 6 0 1, po 7 (.append 1 1 (.t 5) (.t 6)) 2, pm 2 7 3])
  .ret)))
def x48 : XFun := ⟨x48b, [(.t 2)]⟩
theorem x48_ok : compF Tryd.prog 48 = some x48 := by kernel_rfl
/-- (*bollard/dcep.Table).own (13) -/
def x49b : XC := (.seq (.region [po 4 (.mv (.c (.b false))) 0])
  (.seq (.region [pm 5 1 0, po 6 (.bin .and (.t 5) (.c (.i .i64 1))) 1, po 7 (.bin .eql (.t 6) (.c (.i .i64 0))) 2, pm 8 0 3, po 9 (.nilc (.t 8)) 4, po 10 (.fadd 1 (.t 9)) 5, po 11 (.load false 1 (.t 10)) 6, po 12 (.beq false (.t 7) (.t 11)) 7, pm 4 12 8])
  .ret))
def x49 : XFun := ⟨x49b, [(.t 4)]⟩
theorem x49_ok : compF Tryd.prog 49 = some x49 := by kernel_rfl
/-- (*bollard/dcep.Table).at (23) -/
def x50b : XC := (.seq (.region [po 4 (.mv (.c (.p none))) 0])
  (.seq (.seq (.region [pm 5 0 0, po 6 (.nilq 0 false (.t 5)) 1, pm 7 6 2, pg 8 (.mv (.t 1)) 7 false 3, pg 9 (.cint .i64 (.t 8)) 7 false 4, pg 10 (.mv (.t 0)) 7 false 5, pg 11 (.nilc (.t 10)) 7 false 6, pg 12 (.fadd 0 (.t 11)) 7 false 7, pg 13 (.load false 1 (.t 12)) 7 false 8, pg 14 (.lenx (.t 13)) 7 false 9, pg 15 (.bin .geq (.t 9) (.t 14)) 7 false 10, po 16 (.pick (.t 7) (.c (.b true)) (.t 15)) 11])
  (.cond (.t 16) (.seq (.region [po 4 (.mv (.c (.p none))) 0])
  .ret) .skip))
  (.seq (.region [pm 17 0 0, po 18 (.nilc (.t 17)) 1, po 19 (.fadd 0 (.t 18)) 2, po 20 (.load false 1 (.t 19)) 3, pm 21 1 4, po 22 (.isl 8 (.t 20) (.t 21)) 5, pm 4 22 6])
  .ret)))
def x50 : XFun := ⟨x50b, [(.t 4)]⟩
theorem x50_ok : compF Tryd.prog 50 = some x50 := by kernel_rfl
/-- (*bollard/dcep.channel).lives (15) -/
def x51b : XC := (.seq (.region [po 2 (.mv (.c (.b false))) 0])
  (.seq (.region [pm 3 0 0, po 4 (.nilc (.t 3)) 1, po 5 (.fadd 0 (.t 4)) 2, po 6 (.load false 1 (.t 5)) 3, po 7 (.bin .eql (.t 6) (.c (.i .i64 1))) 4, pm 8 7 5, pg 9 (.mv (.t 0)) 8 false 6, pg 10 (.nilc (.t 9)) 8 false 7, pg 11 (.fadd 0 (.t 10)) 8 false 8, pg 12 (.load false 1 (.t 11)) 8 false 9, pg 13 (.bin .eql (.t 12) (.c (.i .i64 2))) 8 false 10, po 14 (.pick (.t 8) (.c (.b true)) (.t 13)) 11, pm 2 14 12])
  .ret))
def x51 : XFun := ⟨x51b, [(.t 2)]⟩
theorem x51_ok : compF Tryd.prog 51 = some x51 := by kernel_rfl
/-- (*bollard/dcep.channel).close (42) -/
def x52b : XC := (.seq (.region [pm 6 0 0, po 7 (.nilc (.t 6)) 1, po 8 (.fadd 0 (.t 7)) 2, ⟨none, (.store 1 (.t 8) (.c (.i .i64 3))), none, 3, []⟩])
  (.seq (.draw [pm 9 0 0, pm 10 0 1, pm 11 0 2, ⟨(some 12), (.nilc (.t 11)), none, 3, [2]⟩, ⟨(some 13), (.fadd 6 (.t 12)), none, 4, [2, 3]⟩, pm 18 0 9, ⟨(some 19), (.nilc (.t 18)), none, 10, [9]⟩, ⟨(some 20), (.fadd 7 (.t 19)), none, 11, [9, 10]⟩, ⟨(some 14), (.load false 1 (.t 13)), none, 5, [2, 3, 4]⟩, ⟨(some 15), (.mv (.t 14)), none, 6, [2, 3, 4, 5]⟩, ⟨(some 16), (.mv (.t 1)), (some (15, false)), 7, [2, 3, 4, 5, 6]⟩, ⟨(some 17), (.pick (.t 15) (.c (.b true)) (.t 16)), none, 8, [2, 3, 4, 5, 6, 7]⟩, ⟨(some 21), (.load false 1 (.t 20)), none, 12, [9, 10, 11]⟩, ⟨(some 22), (.mv (.t 21)), none, 13, [2, 3, 4, 5, 6, 9, 10, 11, 12]⟩, ⟨(some 23), (.mv (.t 2)), (some (22, false)), 14, [2, 3, 4, 5, 6, 9, 10, 11, 12, 13]⟩, ⟨(some 24), (.pick (.t 22) (.c (.b true)) (.t 23)), none, 15, [2, 3, 4, 5, 6, 9, 10, 11, 12, 13, 14]⟩, ⟨(some 25), (.nilc (.t 9)), none, 16, [0, 2, 3, 4, 5, 6, 7, 8, 9, 10, 11, 12]⟩, ⟨(some 26), (.fadd 6 (.t 25)), none, 17, [0, 2, 3, 4, 5, 6, 7, 8, 9, 10, 11, 12, 16]⟩, ⟨none, (.store 1 (.t 26) (.t 17)), none, 18, [0, 2, 3, 4, 5, 6, 7, 8, 9, 10, 11, 12, 13, 16, 17]⟩, ⟨(some 27), (.nilc (.t 10)), none, 19, [0, 1, 2, 3, 4, 5, 6, 7, 8, 9, 10, 11, 12, 13, 14, 15, 16, 17, 18]⟩, ⟨(some 28), (.fadd 7 (.t 27)), none, 20, [0, 1, 2, 3, 4, 5, 6, 7, 8, 9, 10, 11, 12, 13, 14, 15, 16, 17, 18, 19]⟩, ⟨none, (.store 1 (.t 28) (.t 24)), none, 21, [0, 1, 2, 3, 4, 5, 6, 7, 8, 9, 10, 11, 12, 13, 14, 15, 16, 17, 18, 19, 20]⟩])
  (.seq (.region [pm 29 0 0, po 30 (.nilc (.t 29)) 1, po 31 (.fadd 6 (.t 30)) 2, po 32 (.load false 1 (.t 31)) 3, pm 33 32 4, pg 34 (.mv (.t 0)) 33 true 5, pg 35 (.nilc (.t 34)) 33 true 6, pg 36 (.fadd 7 (.t 35)) 33 true 7, pg 37 (.load false 1 (.t 36)) 33 true 8, po 38 (.pick (.t 33) (.t 37) (.c (.b false))) 9])
  (.cond (.t 38) (.region [pm 39 0 0, ⟨(some 40), (.build zAC  []), none, 1, []⟩, po 41 (.nilc (.t 39)) 2, ⟨none, (.store 8 (.t 41) (.t 40)), none, 3, []⟩]) .skip))))
def x52 : XFun := ⟨x52b, []⟩
theorem x52_ok : compF Tryd.prog 52 = some x52 := by kernel_rfl
/-- (*bollard/bollardref18.Table).Ask (52) -/
def x53b : XC := (.seq (.region [po 3 (.box (.t 1)) 0, po 4 (.mv (.c (.i .u16 0))) 1, po 5 (.mv (.c zAD )) 2, po 6 (.mv (.c (.i .i64 0))) 3])
  (.seq (.region [po 11 (.load true 5 (.t 3)) 0, po 12 (.call (.c (.fn (.func 13) [] [])) [(.t 11)]) 1, pm 10 12 2, po 13 (.ext (.t 10) 0) 3, po 14 (.ext (.t 10) 1) 4, pm 7 13 5, pm 8 14 6])
  (.seq (.seq (.region [pm 15 8 0, po 16 (.bin .neq (.t 15) (.c (.i .i64 0))) 1])
  (.cond (.t 16) (.seq (.region [pm 17 8 0, po 4 (.mv (.c (.i .u16 0))) 1, po 5 (.mv (.c zAD )) 2, pm 6 17 3])
  .ret) .skip))
  (.seq (.seq (.region [po 9 (.mv (.c (.i .i64 0))) 0])
  (.block 0 (.loop (.seq (.seq (.region [pm 18 9 0, pm 19 0 1, po 20 (.nilc (.t 19)) 2, po 21 (.fadd 0 (.t 20)) 3, po 22 (.load false 1 (.t 21)) 4, po 23 (.lenx (.t 22)) 5, po 24 (.bin .lss (.t 18) (.t 23)) 6])
  (.cond (.t 24) .skip (.exit 0)))
  (.seq (.block 1 (.seq (.region [pm 27 0 0, pm 28 9 1, po 29 (.call (.c (.fn (.func 67) [] [])) [(.t 27), (.t 28)]) 2, pm 30 29 3, pg 31 (.mv (.t 0)) 30 true 4, pg 32 (.nilc (.t 31)) 30 true 5, pg 33 (.fadd 0 (.t 32)) 30 true 6, pg 34 (.load false 1 (.t 33)) 30 true 7, pg 35 (.mv (.t 9)) 30 true 8, pg 36 (.isl 8 (.t 34) (.t 35)) 30 true 9, pg 37 (.fadd 0 (.t 36)) 30 true 10, pg 38 (.load false 1 (.t 37)) 30 true 11, pg 39 (.bin .eql (.t 38) (.c (.i .i64 0))) 30 true 12, po 40 (.pick (.t 30) (.t 39) (.c (.b false))) 13])
  (.cond (.t 40) (.seq (.draw [pm 41 0 0, ⟨(some 42), (.nilc (.t 41)), none, 1, [0]⟩, ⟨(some 43), (.fadd 0 (.t 42)), none, 2, [0, 1]⟩, pm 45 9 4, ⟨(some 44), (.load false 1 (.t 43)), none, 3, [0, 1, 2]⟩, po 46 (.load true 5 (.t 3)) 5, ⟨(some 47), (.build zAC  [(0, 1, (.c (.i .i64 1))), (1, 5, (.t 46))]), none, 6, [5]⟩, ⟨(some 48), (.isl 8 (.t 44) (.t 45)), none, 7, [0, 1, 2, 3, 4, 5, 6]⟩, ⟨none, (.store 8 (.t 48) (.t 47)), none, 8, [0, 1, 2, 3, 4, 5, 6, 7]⟩])
  (.seq (.region [pm 49 9 0, po 50 (.cint .u16 (.t 49)) 1, pm 51 7 2, pm 4 50 3, pm 5 51 4, po 6 (.mv (.c (.i .i64 0))) 5])
  .ret)) .skip)))
  (.region [pm 25 9 0, po 26 (.bin .add (.t 25) (.c (.i .i64 1))) 1, pm 9 26 2]))))))
  (.seq (.region [po 4 (.mv (.c (.i .u16 0))) 0, po 5 (.mv (.c zAD )) 1, po 6 (.mv (.c (.i .i64 9))) 2])
  .ret)))))
def x53 : XFun := ⟨x53b, [(.t 4), (.t 5), (.t 6)]⟩
theorem x53_ok : compF Tryd.prog 53 = some x53 := by kernel_rfl
/-- (*bollard/bollardref18.Table).Hear (64) -/
def x54b : XC := (.seq (.region [po 3 (.box (.t 1)) 0, ⟨(some 4), (.alloc zAA ), none, 1, []⟩, po 5 (.mv (.c zAD )) 2, po 6 (.mv (.c (.i .i64 0))) 3])
  (.seq (.seq (.draw [po 11 (.fadd 0 (.t 3)) 0, pm 14 0 3, ⟨(some 15), (.nilc (.t 14)), none, 4, [3]⟩, ⟨(some 16), (.fadd 0 (.t 15)), none, 5, [3, 4]⟩, ⟨(some 12), (.load false 1 (.t 11)), none, 1, [0]⟩, ⟨(some 13), (.cint .i64 (.t 12)), none, 2, [0, 1]⟩, ⟨(some 17), (.load false 1 (.t 16)), none, 6, [3, 4, 5]⟩, ⟨(some 18), (.lenx (.t 17)), none, 7, [3, 4, 5, 6]⟩, ⟨(some 19), (.bin .geq (.t 13) (.t 18)), none, 8, [0, 1, 2, 3, 4, 5, 6, 7]⟩])
  (.cond (.t 19) (.seq (.region [⟨(some 20), (.build zAA  []), none, 0, []⟩, ⟨none, (.store 9 (.t 4) (.t 20)), none, 1, []⟩, po 5 (.mv (.c zAD )) 2, po 6 (.mv (.c (.i .i64 1))) 3])
  .ret) .skip))
  (.seq (.seq (.region [po 21 (.fadd 2 (.t 3)) 0, po 22 (.load false 1 (.t 21)) 1, po 23 (.bin .eql (.t 22) (.c (.i .u32 50))) 2])
  (.cond (.t 23) (.seq (.region [pm 24 0 0, po 25 (.load true 4 (.t 3)) 1, po 26 (.call (.c (.fn (.func 68) [] [])) [(.t 24), (.t 25)]) 2, po 27 (.ext (.t 26) 0) 3, po 28 (.ext (.t 26) 1) 4, po 29 (.ext (.t 26) 2) 5, ⟨none, (.store 9 (.t 4) (.t 27)), none, 6, []⟩, pm 5 28 7, pm 6 29 8])
  .ret) .skip))
  (.seq (.draw [pm 30 0 0, ⟨(some 31), (.nilc (.t 30)), none, 1, [0]⟩, ⟨(some 32), (.fadd 0 (.t 31)), none, 2, [0, 1]⟩, po 34 (.fadd 0 (.t 3)) 4, ⟨(some 33), (.load false 1 (.t 32)), none, 3, [0, 1, 2]⟩, ⟨(some 35), (.load false 1 (.t 34)), none, 5, [4]⟩, ⟨(some 36), (.cint .i64 (.t 35)), none, 6, [4, 5]⟩, ⟨(some 37), (.isl 8 (.t 33) (.t 36)), none, 7, [0, 1, 2, 3, 4, 5, 6]⟩, ⟨(some 38), (.load true 8 (.t 37)), none, 8, [0, 1, 2, 3, 4, 5, 6, 7]⟩, ⟨(some 7), (.alloc zAC ), none, 9, []⟩, ⟨none, (.store 8 (.t 7) (.t 38)), none, 10, [0, 1, 2, 3, 4, 5, 6, 7, 8, 9]⟩])
  (.seq (.seq (.region [po 39 (.fadd 0 (.t 7)) 0, po 40 (.load false 1 (.t 39)) 1, po 41 (.bin .eql (.t 40) (.c (.i .i64 0))) 2])
  (.cond (.t 41) (.seq (.region [⟨(some 42), (.build zAA  []), none, 0, []⟩, ⟨none, (.store 9 (.t 4) (.t 42)), none, 1, []⟩, po 5 (.mv (.c zAD )) 2, po 6 (.mv (.c (.i .i64 11))) 3])
  .ret) .skip))
  (.seq (.region [po 44 (.fadd 2 (.t 3)) 0, po 45 (.load false 1 (.t 44)) 1, po 46 (.fadd 3 (.t 3)) 2, po 47 (.load false 1 (.t 46)) 3, po 48 (.call (.c (.fn (.func 21) [] [])) [(.t 45), (.t 47)]) 4, pm 43 48 5, po 49 (.ext (.t 43) 0) 6, po 50 (.ext (.t 43) 1) 7, po 51 (.ext (.t 43) 2) 8, pm 8 49 9, pm 9 50 10, pm 10 51 11])
  (.seq (.seq (.region [pm 52 10 0, po 53 (.unx .not (.t 52)) 1])
  (.cond (.t 53) (.seq (.region [⟨(some 54), (.build zAA  []), none, 0, []⟩, ⟨none, (.store 9 (.t 4) (.t 54)), none, 1, []⟩, po 5 (.mv (.c zAD )) 2, po 6 (.mv (.c (.i .i64 3))) 3])
  .ret) .skip))
  (.seq (.seq (.region [po 55 (.fadd 0 (.t 7)) 0, po 56 (.load false 1 (.t 55)) 1, po 57 (.bin .eql (.t 56) (.c (.i .i64 3))) 2])
  (.cond (.t 57) (.seq (.region [⟨(some 58), (.build zAA  []), none, 0, []⟩, ⟨none, (.store 9 (.t 4) (.t 58)), none, 1, []⟩, po 5 (.mv (.c zAD )) 2, po 6 (.mv (.c (.i .i64 0))) 3])
  .ret) .skip))
  (.seq (.region [po 59 (.fadd 0 (.t 3)) 0, po 60 (.load false 1 (.t 59)) 1, pm 61 8 2, pm 62 9 3, ⟨(some 63), (.build zAA  [(0, 1, (.c (.i .i64 3))), (1, 1, (.t 60)), (7, 1, (.t 61)), (8, 1, (.t 62))]), none, 4, []⟩, ⟨none, (.store 9 (.t 4) (.t 63)), none, 5, []⟩, po 5 (.mv (.c zAD )) 6, po 6 (.mv (.c (.i .i64 0))) 7])
  .ret)))))))))
def x54 : XFun := ⟨x54b, [(.cell 4 true 9), (.t 5), (.t 6)]⟩
theorem x54_ok : compF Tryd.prog 54 = some x54 := by kernel_rfl
/-- (*bollard/bollardref18.Table).Close (44) -/
def x55b : XC := (.seq (.region [po 4 (.mv (.c (.i .i64 0))) 0])
  (.seq (.region [pm 6 1 0, po 7 (.cint .i64 (.t 6)) 1, pm 5 7 2])
  (.seq (.seq (.region [pm 8 5 0, pm 9 0 1, po 10 (.nilc (.t 9)) 2, po 11 (.fadd 0 (.t 10)) 3, po 12 (.load false 1 (.t 11)) 4, po 13 (.lenx (.t 12)) 5, po 14 (.bin .geq (.t 8) (.t 13)) 6, pm 15 14 7, pg 16 (.mv (.t 0)) 15 false 8, pg 17 (.nilc (.t 16)) 15 false 9, pg 18 (.fadd 0 (.t 17)) 15 false 10, pg 19 (.load false 1 (.t 18)) 15 false 11, pg 20 (.mv (.t 5)) 15 false 12, pg 21 (.isl 8 (.t 19) (.t 20)) 15 false 13, pg 22 (.fadd 0 (.t 21)) 15 false 14, pg 23 (.load false 1 (.t 22)) 15 false 15, pg 24 (.bin .neq (.t 23) (.c (.i .i64 1))) 15 false 16, pg 25 (.mv (.t 24)) 15 false 17, pg 26 (.mv (.t 0)) 25 true 18, pg 27 (.nilc (.t 26)) 25 true 19, pg 28 (.fadd 0 (.t 27)) 25 true 20, pg 29 (.load false 1 (.t 28)) 25 true 21, pg 30 (.mv (.t 5)) 25 true 22, pg 31 (.isl 8 (.t 29) (.t 30)) 25 true 23, pg 32 (.fadd 0 (.t 31)) 25 true 24, pg 33 (.load false 1 (.t 32)) 25 true 25, pg 34 (.bin .neq (.t 33) (.c (.i .i64 2))) 25 true 26, pg 35 (.pick (.t 25) (.t 34) (.c (.b false))) 15 false 27, po 36 (.pick (.t 15) (.c (.b true)) (.t 35)) 28])
  (.cond (.t 36) (.seq (.region [po 4 (.mv (.c (.i .i64 11))) 0])
  .ret) .skip))
  (.seq (.region [pm 37 0 0, po 38 (.nilc (.t 37)) 1, po 39 (.fadd 0 (.t 38)) 2, po 40 (.load false 1 (.t 39)) 3, pm 41 5 4, po 42 (.isl 8 (.t 40) (.t 41)) 5, po 43 (.fadd 0 (.t 42)) 6, ⟨none, (.store 1 (.t 43) (.c (.i .i64 3))), none, 7, []⟩])
  (.seq (.region [po 4 (.mv (.c (.i .i64 0))) 0])
  .ret)))))
def x55 : XFun := ⟨x55b, [(.t 4)]⟩
theorem x55_ok : compF Tryd.prog 55 = some x55 := by kernel_rfl
/-- (*bollard/bollardref18.Table).Gone (54) -/
def x56b : XC := (.seq (.region [po 4 (.mv (.c (.b false))) 0])
  (.seq (.region [pm 7 1 0, po 8 (.cint .i64 (.t 7)) 1, pm 5 8 2])
  (.seq (.seq (.region [pm 9 5 0, pm 10 0 1, po 11 (.nilc (.t 10)) 2, po 12 (.fadd 0 (.t 11)) 3, po 13 (.load false 1 (.t 12)) 4, po 14 (.lenx (.t 13)) 5, po 15 (.bin .geq (.t 9) (.t 14)) 6, pm 16 15 7, pg 17 (.mv (.t 0)) 16 false 8, pg 18 (.nilc (.t 17)) 16 false 9, pg 19 (.fadd 0 (.t 18)) 16 false 10, pg 20 (.load false 1 (.t 19)) 16 false 11, pg 21 (.mv (.t 5)) 16 false 12, pg 22 (.isl 8 (.t 20) (.t 21)) 16 false 13, pg 23 (.fadd 0 (.t 22)) 16 false 14, pg 24 (.load false 1 (.t 23)) 16 false 15, pg 25 (.bin .eql (.t 24) (.c (.i .i64 0))) 16 false 16, po 26 (.pick (.t 16) (.c (.b true)) (.t 25)) 17])
  (.cond (.t 26) (.seq (.region [po 4 (.mv (.c (.b false))) 0])
  .ret) .skip))
  (.seq (.region [pm 27 0 0, po 28 (.nilc (.t 27)) 1, po 29 (.fadd 0 (.t 28)) 2, po 30 (.load false 1 (.t 29)) 3, pm 31 5 4, po 32 (.isl 8 (.t 30) (.t 31)) 5, po 33 (.fadd 0 (.t 32)) 6, po 34 (.load false 1 (.t 33)) 7, po 35 (.bin .neq (.t 34) (.c (.i .i64 3))) 8, pm 6 35 9])
  (.seq (.region [pm 36 0 0, po 37 (.nilc (.t 36)) 1, po 38 (.fadd 0 (.t 37)) 2, po 39 (.load false 1 (.t 38)) 3, pm 40 5 4, po 41 (.isl 8 (.t 39) (.t 40)) 5, po 42 (.fadd 0 (.t 41)) 6, ⟨none, (.store 1 (.t 42) (.c (.i .i64 3))), none, 7, []⟩])
  (.seq (.region [pm 43 0 0, po 44 (.nilc (.t 43)) 1, po 45 (.fadd 0 (.t 44)) 2, po 46 (.load false 1 (.t 45)) 3, pm 47 5 4, po 48 (.isl 8 (.t 46) (.t 47)) 5, po 49 (.fadd 7 (.t 48)) 6, ⟨none, (.store 1 (.t 49) (.c (.b true))), none, 7, []⟩])
  (.seq (.region [pm 50 0 0, pm 51 5 1, po 52 (.call (.c (.fn (.func 69) [] [])) [(.t 50), (.t 51)]) 2])
  (.seq (.region [pm 53 6 0, pm 4 53 1])
  .ret))))))))
def x56 : XFun := ⟨x56b, [(.t 4)]⟩
theorem x56_ok : compF Tryd.prog 56 = some x56 := by kernel_rfl
/-- (*bollard/bollardref18.Table).Freed (35) -/
def x57b : XC := (.seq (.region [pm 5 1 0, po 6 (.cint .i64 (.t 5)) 1, pm 4 6 2])
  (.seq (.region [pm 7 4 0, pm 8 0 1, po 9 (.nilc (.t 8)) 2, po 10 (.fadd 0 (.t 9)) 3, po 11 (.load false 1 (.t 10)) 4, po 12 (.lenx (.t 11)) 5, po 13 (.bin .lss (.t 7) (.t 12)) 6, pm 14 13 7, pg 15 (.mv (.t 0)) 14 true 8, pg 16 (.nilc (.t 15)) 14 true 9, pg 17 (.fadd 0 (.t 16)) 14 true 10, pg 18 (.load false 1 (.t 17)) 14 true 11, pg 19 (.mv (.t 4)) 14 true 12, pg 20 (.isl 8 (.t 18) (.t 19)) 14 true 13, pg 21 (.fadd 0 (.t 20)) 14 true 14, pg 22 (.load false 1 (.t 21)) 14 true 15, pg 23 (.bin .eql (.t 22) (.c (.i .i64 3))) 14 true 16, po 24 (.pick (.t 14) (.t 23) (.c (.b false))) 17])
  (.cond (.t 24) (.seq (.region [pm 25 0 0, po 26 (.nilc (.t 25)) 1, po 27 (.fadd 0 (.t 26)) 2, po 28 (.load false 1 (.t 27)) 3, pm 29 4 4, po 30 (.isl 8 (.t 28) (.t 29)) 5, po 31 (.fadd 6 (.t 30)) 6, ⟨none, (.store 1 (.t 31) (.c (.b true))), none, 7, []⟩])
  (.region [pm 32 0 0, pm 33 4 1, po 34 (.call (.c (.fn (.func 69) [] [])) [(.t 32), (.t 33)]) 2])) .skip)))
def x57 : XFun := ⟨x57b, []⟩
theorem x57_ok : compF Tryd.prog 57 = some x57 := by kernel_rfl
/-- slices.IndexFunc[[]bollard/dcep.channel,bollard/dcep.channel] (19) -/
def x58b : XC := (.seq (.region [po 4 (.mv (.c (.i .i64 0))) 0])
  (.seq (.seq (.region [pm 6 0 0, po 7 (.lenx (.t 6)) 1, po 8 (.mv (.c (.i .i64 0))) 2])
  (.block 0 (.loop (.seq (.region [po 9 (.bin .lss (.t 8) (.t 7)) 0])
  (.seq (.cond (.t 9) .skip (.exit 0))
  (.seq (.block 1 (.seq (.region [pm 10 8 0, pm 5 10 1])
  (.seq (.region [pm 11 1 0, pm 12 0 1, pm 13 5 2, po 14 (.isl 8 (.t 12) (.t 13)) 3, po 15 (.load true 8 (.t 14)) 4, po 16 (.call (.t 11) [(.t 15)]) 5])
  (.cond (.t 16) (.seq (.region [pm 17 5 0, pm 4 17 1])
  .ret) .skip))))
  (.region [po 18 (.bin .add (.t 8) (.c (.i .i64 1))) 0, pm 8 18 1])))))))
  (.seq (.region [po 4 (.mv (.c (.i .i64 (-1)))) 0])
  .ret)))
def x58 : XFun := ⟨x58b, [(.t 4)]⟩
theorem x58_ok : compF Tryd.prog 58 = some x58 := by kernel_rfl
/-- (*bollard/dcep.Table).Find$1 (12) -/
def x59b : XC := (.seq (.region [po 2 (.box (.t 0)) 0, po 3 (.mv (.c (.b false))) 1])
  (.seq (.region [po 4 (.call (.c (.fn (.func 51) [] [])) [(.t 2)]) 0, pm 5 4 1, pg 6 (.fadd 1 (.t 2)) 5 true 2, pg 7 (.fadd 3 (.t 6)) 5 true 3, pg 8 (.load false 1 (.t 7)) 5 true 4, pg 9 (.load false 1 (.t 1)) 5 true 5, pg 10 (.bin .eql (.t 8) (.t 9)) 5 true 6, po 11 (.pick (.t 5) (.t 10) (.c (.b false))) 7, pm 3 11 8])
  .ret))
def x59 : XFun := ⟨x59b, [(.t 3)]⟩
theorem x59_ok : compF Tryd.prog 59 = some x59 := by kernel_rfl
/-- slices.Equal[[]byte,byte] (26) -/
def x60b : XC := (.seq (.region [po 4 (.mv (.c (.b false))) 0])
  (.seq (.seq (.region [pm 6 0 0, po 7 (.lenx (.t 6)) 1, pm 8 1 2, po 9 (.lenx (.t 8)) 3, po 10 (.bin .neq (.t 7) (.t 9)) 4])
  (.cond (.t 10) (.seq (.region [po 4 (.mv (.c (.b false))) 0])
  .ret) .skip))
  (.seq (.seq (.region [pm 11 0 0, po 12 (.lenx (.t 11)) 1, po 13 (.mv (.c (.i .i64 0))) 2])
  (.block 0 (.loop (.seq (.region [po 14 (.bin .lss (.t 13) (.t 12)) 0])
  (.seq (.cond (.t 14) .skip (.exit 0))
  (.seq (.block 1 (.seq (.region [pm 15 13 0, pm 5 15 1])
  (.seq (.draw [pm 16 0 0, pm 17 5 1, ⟨(some 18), (.isl 1 (.t 16) (.t 17)), none, 2, [0, 1]⟩, pm 20 1 4, pm 21 5 5, ⟨(some 22), (.isl 1 (.t 20) (.t 21)), none, 6, [4, 5]⟩, ⟨(some 19), (.load false 1 (.t 18)), none, 3, [0, 1, 2]⟩, ⟨(some 23), (.load false 1 (.t 22)), none, 7, [4, 5, 6]⟩, ⟨(some 24), (.bin .neq (.t 19) (.t 23)), none, 8, [0, 1, 2, 3, 4, 5, 6, 7]⟩])
  (.cond (.t 24) (.seq (.region [po 4 (.mv (.c (.b false))) 0])
  .ret) .skip))))
  (.region [po 25 (.bin .add (.t 13) (.c (.i .i64 1))) 0, pm 13 25 1])))))))
  (.seq (.region [po 4 (.mv (.c (.b true))) 0])
  .ret))))
def x60 : XFun := ⟨x60b, [(.t 4)]⟩
theorem x60_ok : compF Tryd.prog 60 = some x60 := by kernel_rfl
/-- (*bollard/dcep.channel).acked (25) -/
def x61b : XC := (.seq (.region [⟨(some 4), (.alloc zAA ), none, 0, []⟩, po 5 (.mv (.c (.i .i64 0))) 1])
  (.seq (.seq (.region [pm 6 0 0, po 7 (.nilc (.t 6)) 1, po 8 (.fadd 0 (.t 7)) 2, po 9 (.load false 1 (.t 8)) 3])
  (.block 0 (.seq (.region [po 11 (.bin .eql (.t 9) (.c (.i .i64 0))) 0, pm 10 11 1])
  (.cond (.t 10) (.seq (.region [⟨(some 12), (.build zAA  []), none, 0, []⟩, ⟨none, (.store 9 (.t 4) (.t 12)), none, 1, []⟩, po 5 (.mv (.c (.i .i64 8))) 2])
  .ret) (.seq (.region [po 14 (.bin .eql (.t 9) (.c (.i .i64 1))) 0, pm 13 14 1])
  (.cond (.t 13) (.seq (.region [pm 15 0 0, po 16 (.nilc (.t 15)) 1, po 17 (.fadd 0 (.t 16)) 2, ⟨none, (.store 1 (.t 17) (.c (.i .i64 2))), none, 3, []⟩])
  (.seq (.region [pm 18 1 0, pm 19 0 1, po 20 (.nilc (.t 19)) 2, po 21 (.fadd 1 (.t 20)) 3, po 22 (.load true 5 (.t 21)) 4, ⟨(some 23), (.build zAA  [(0, 1, (.c (.i .i64 2))), (1, 1, (.t 18)), (2, 5, (.t 22))]), none, 5, []⟩, ⟨none, (.store 9 (.t 4) (.t 23)), none, 6, []⟩, po 5 (.mv (.c (.i .i64 0))) 7])
  .ret)) .skip))))))
  (.seq (.region [⟨(some 24), (.build zAA  []), none, 0, []⟩, ⟨none, (.store 9 (.t 4) (.t 24)), none, 1, []⟩, po 5 (.mv (.c (.i .i64 0))) 2])
  .ret)))
def x61 : XFun := ⟨x61b, [(.cell 4 true 9), (.t 5)]⟩
theorem x61_ok : compF Tryd.prog 61 = some x61 := by kernel_rfl
/-- (*bollard/dcep.Table).opened (45) -/
def x62b : XC := (.seq (.region [po 4 (.box (.t 1)) 0, ⟨(some 6), (.alloc zAA ), none, 1, []⟩, po 7 (.mv (.c zAD )) 2, po 8 (.mv (.c (.i .i64 0))) 3])
  (.seq (.region [po 12 (.fadd 3 (.t 4)) 0, po 13 (.load false 1 (.t 12)) 1, po 14 (.call (.c (.fn (.func 16) [] [])) [(.t 13)]) 2, pm 11 14 3, po 15 (.ext (.t 11) 0) 4, po 16 (.ext (.t 11) 1) 5, ⟨(some 9), (.alloc zAB ), none, 6, []⟩, ⟨none, (.store 5 (.t 9) (.t 15)), none, 7, []⟩, pm 10 16 8])
  (.seq (.block 0 (.seq (.region [pm 18 10 0, po 19 (.bin .neq (.t 18) (.c (.i .i64 0))) 1, pm 17 19 2])
  (.cond (.t 17) (.seq (.region [⟨(some 20), (.build zAA  []), none, 0, []⟩, pm 21 10 1, ⟨none, (.store 9 (.t 6) (.t 20)), none, 2, []⟩, po 7 (.mv (.c zAD )) 3, pm 8 21 4])
  .ret) (.seq (.region [pm 23 2 0, po 24 (.nilc (.t 23)) 1, po 25 (.fadd 0 (.t 24)) 2, po 26 (.load false 1 (.t 25)) 3, po 27 (.bin .neq (.t 26) (.c (.i .i64 0))) 4, pm 28 27 5, pg 29 (.mv (.t 0)) 28 false 6, pg 30 (.fadd 0 (.t 4)) 28 false 7, pg 31 (.load false 1 (.t 30)) 28 false 8, pg 32 (.cint .i64 (.t 31)) 28 false 9, pg 33 (.call (.c (.fn (.func 49) [] [])) [(.t 29), (.t 32)]) 28 false 10, po 34 (.pick (.t 28) (.c (.b true)) (.t 33)) 11, pm 22 34 12])
  (.cond (.t 22) (.seq (.region [⟨(some 35), (.build zAA  []), none, 0, []⟩, ⟨none, (.store 9 (.t 6) (.t 35)), none, 1, []⟩, po 7 (.mv (.c zAD )) 2, po 8 (.mv (.c (.i .i64 8))) 3])
  .ret) .skip)))))
  (.seq (.region [pm 36 2 0, po 37 (.load true 5 (.t 9)) 1, ⟨(some 38), (.build zAC  [(0, 1, (.c (.i .i64 2))), (1, 5, (.t 37))]), none, 2, []⟩, po 39 (.nilc (.t 36)) 3, ⟨none, (.store 8 (.t 39) (.t 38)), none, 4, []⟩])
  (.seq (.region [po 40 (.fadd 0 (.t 4)) 0, po 41 (.load false 1 (.t 40)) 1, po 42 (.load true 5 (.t 9)) 2, ⟨(some 43), (.build zAA  [(0, 1, (.c (.i .i64 1))), (1, 1, (.t 41)), (2, 5, (.t 42))]), none, 3, []⟩, po 44 (.bslice [(.i .u8 0)] [(0, 1, (.c (.i .u8 2)))] 1) 4, ⟨none, (.store 9 (.t 6) (.t 43)), none, 5, []⟩, pm 7 44 6, po 8 (.mv (.c (.i .i64 0))) 7])
  .ret)))))
def x62 : XFun := ⟨x62b, [(.cell 6 true 9), (.t 7), (.t 8)]⟩
theorem x62_ok : compF Tryd.prog 62 = some x62 := by kernel_rfl
/-- unicode/utf8.ValidString (169) -/
def x63b : XC := (.seq (.region [po 2 (.mv (.c (.b false))) 0])
  (.seq (.block 0 (.loop (.seq (.seq (.region [pm 7 0 0, po 8 (.lens (.t 7)) 1, po 9 (.bin .gtr (.t 8) (.c (.i .i64 0))) 2])
  (.cond (.t 9) .skip (.exit 0)))
  (.block 1 (.seq (.region [pm 10 0 0, po 11 (.idxs (.t 10) (.c (.i .i64 0))) 1, pm 3 11 2])
  (.seq (.seq (.region [pm 12 3 0, po 13 (.bin .lss (.t 12) (.c (.i .u8 128))) 1])
  (.cond (.t 13) (.seq (.region [pm 14 0 0, po 15 (.slstr (.t 14) (some (.c (.i .i64 1))) none) 1, pm 0 15 2])
  (.seq (.seq (.region [pm 16 0 0, po 17 (.lens (.t 16)) 1, po 18 (.bin .gtr (.t 17) (.c (.i .i64 8))) 2, pm 19 18 3, pg 20 (.mv (.t 0)) 19 true 4, pg 21 (.call (.c (.fn (.func 70) [] [])) [(.t 20)]) 19 true 5, pg 22 (.bin .and (.t 21) (.c (.i .u64 9259542123273814144))) 19 true 6, pg 23 (.bin .eql (.t 22) (.c (.i .u64 0))) 19 true 7, po 24 (.pick (.t 19) (.t 23) (.c (.b false))) 8])
  (.cond (.t 24) (.seq (.region [pm 25 0 0, po 26 (.slstr (.t 25) (some (.c (.i .i64 8))) none) 1, pm 0 26 2])
  (.seq (.draw [pm 27 0 0, ⟨(some 28), (.lens (.t 27)), none, 1, [0]⟩, ⟨(some 29), (.bin .gtr (.t 28) (.c (.i .i64 16))), none, 2, [0, 1]⟩, ⟨(some 30), (.mv (.t 29)), none, 3, [0, 1, 2]⟩, ⟨(some 31), (.mv (.t 0)), (some (30, true)), 4, [0, 1, 2, 3]⟩, ⟨(some 33), (.mv (.t 0)), (some (30, true)), 6, [0, 1, 2, 3]⟩, ⟨(some 34), (.slstr (.t 33) (some (.c (.i .i64 8))) none), (some (30, true)), 7, [0, 1, 2, 3, 6]⟩, ⟨(some 32), (.call (.c (.fn (.func 70) [] [])) [(.t 31)]), (some (30, true)), 5, [0, 1, 2, 3, 4]⟩, ⟨(some 35), (.call (.c (.fn (.func 70) [] [])) [(.t 34)]), (some (30, true)), 8, [0, 1, 2, 3, 4, 5, 6, 7]⟩, ⟨(some 36), (.bin .or (.t 32) (.t 35)), (some (30, true)), 9, [0, 1, 2, 3, 4, 5, 6, 7, 8]⟩, ⟨(some 37), (.bin .and (.t 36) (.c (.i .u64 9259542123273814144))), (some (30, true)), 10, [0, 1, 2, 3, 4, 5, 6, 7, 8, 9]⟩, ⟨(some 38), (.bin .eql (.t 37) (.c (.i .u64 0))), (some (30, true)), 11, [0, 1, 2, 3, 4, 5, 6, 7, 8, 9, 10]⟩, ⟨(some 39), (.pick (.t 30) (.t 38) (.c (.b false))), none, 12, [0, 1, 2, 3, 4, 5, 6, 7, 8, 9, 10, 11]⟩])
  (.cond (.t 39) (.seq (.region [pm 40 0 0, po 41 (.slstr (.t 40) (some (.c (.i .i64 16))) none) 1, pm 0 41 2])
  (.block 2 (.loop (.seq (.seq (.draw [pm 42 0 0, ⟨(some 43), (.lens (.t 42)), none, 1, [0]⟩, ⟨(some 44), (.bin .gtr (.t 43) (.c (.i .i64 32))), none, 2, [0, 1]⟩, ⟨(some 45), (.mv (.t 44)), none, 3, [0, 1, 2]⟩, ⟨(some 46), (.mv (.t 0)), (some (45, true)), 4, [0, 1, 2, 3]⟩, ⟨(some 48), (.mv (.t 0)), (some (45, true)), 6, [0, 1, 2, 3]⟩, ⟨(some 49), (.slstr (.t 48) (some (.c (.i .i64 8))) none), (some (45, true)), 7, [0, 1, 2, 3, 6]⟩, ⟨(some 52), (.mv (.t 0)), (some (45, true)), 10, [0, 1, 2, 3]⟩, ⟨(some 53), (.slstr (.t 52) (some (.c (.i .i64 16))) none), (some (45, true)), 11, [0, 1, 2, 3, 10]⟩, ⟨(some 55), (.mv (.t 0)), (some (45, true)), 13, [0, 1, 2, 3]⟩, ⟨(some 56), (.slstr (.t 55) (some (.c (.i .i64 24))) none), (some (45, true)), 14, [0, 1, 2, 3, 13]⟩, ⟨(some 47), (.call (.c (.fn (.func 70) [] [])) [(.t 46)]), (some (45, true)), 5, [0, 1, 2, 3, 4]⟩, ⟨(some 50), (.call (.c (.fn (.func 70) [] [])) [(.t 49)]), (some (45, true)), 8, [0, 1, 2, 3, 4, 5, 6, 7]⟩, ⟨(some 51), (.bin .or (.t 47) (.t 50)), (some (45, true)), 9, [0, 1, 2, 3, 4, 5, 6, 7, 8]⟩, ⟨(some 54), (.call (.c (.fn (.func 70) [] [])) [(.t 53)]), (some (45, true)), 12, [0, 1, 2, 3, 4, 5, 6, 7, 8, 10, 11]⟩, ⟨(some 57), (.call (.c (.fn (.func 70) [] [])) [(.t 56)]), (some (45, true)), 15, [0, 1, 2, 3, 4, 5, 6, 7, 8, 10, 11, 12, 13, 14]⟩, ⟨(some 58), (.bin .or (.t 54) (.t 57)), (some (45, true)), 16, [0, 1, 2, 3, 4, 5, 6, 7, 8, 10, 11, 12, 13, 14, 15]⟩, ⟨(some 59), (.bin .or (.t 51) (.t 58)), (some (45, true)), 17, [0, 1, 2, 3, 4, 5, 6, 7, 8, 9, 10, 11, 12, 13, 14, 15, 16]⟩, ⟨(some 60), (.bin .and (.t 59) (.c (.i .u64 9259542123273814144))), (some (45, true)), 18, [0, 1, 2, 3, 4, 5, 6, 7, 8, 9, 10, 11, 12, 13, 14, 15, 16, 17]⟩, ⟨(some 61), (.bin .eql (.t 60) (.c (.i .u64 0))), (some (45, true)), 19, [0, 1, 2, 3, 4, 5, 6, 7, 8, 9, 10, 11, 12, 13, 14, 15, 16, 17, 18]⟩, ⟨(some 62), (.pick (.t 45) (.t 61) (.c (.b false))), none, 20, [0, 1, 2, 3, 4, 5, 6, 7, 8, 9, 10, 11, 12, 13, 14, 15, 16, 17, 18, 19]⟩])
  (.cond (.t 62) .skip (.exit 2)))
  (.block 3 (.region [pm 63 0 0, po 64 (.slstr (.t 63) (some (.c (.i .i64 32))) none) 1, pm 0 64 2])))))) .skip))) .skip))
  (.exit 1))) .skip))
  (.seq (.region [pm 65 3 0, ⟨(some 66), (.iarr 256 1 (.c (.p (some (0, 0)))) (.t 65)), none, 1, []⟩, po 67 (.load false 1 (.t 66)) 2, pm 4 67 3])
  (.seq (.region [pm 68 4 0, po 69 (.bin .and (.t 68) (.c (.i .u8 7))) 1, po 70 (.cint .i64 (.t 69)) 2, pm 5 70 3])
  (.seq (.region [pm 71 4 0, po 72 (.bin .shr (.t 71) (.c (.i .u64 4))) 1, ⟨(some 73), (.iarr 16 2 (.c (.p (some (1, 0)))) (.t 72)), none, 2, []⟩, po 74 (.load true 2 (.t 73)) 3, po 6 (.alloc [(.i .u8 0), (.i .u8 0)]) 4, ⟨none, (.store 2 (.t 6) (.t 74)), none, 5, []⟩])
  (.seq (.region [pm 75 5 0])
  (.block 4 (.seq (.region [po 77 (.bin .eql (.t 75) (.c (.i .i64 2))) 0, pm 76 77 1])
  (.cond (.t 76) (.seq (.seq (.draw [pm 78 0 0, ⟨(some 79), (.lens (.t 78)), none, 1, [0]⟩, ⟨(some 80), (.bin .lss (.t 79) (.c (.i .i64 2))), none, 2, [0, 1]⟩, ⟨(some 81), (.mv (.t 80)), none, 3, [0, 1, 2]⟩, ⟨(some 82), (.mv (.t 0)), (some (81, false)), 4, [0, 1, 2, 3]⟩, ⟨(some 83), (.idxs (.t 82) (.c (.i .i64 1))), (some (81, false)), 5, [0, 1, 2, 3, 4]⟩, ⟨(some 84), (.fadd 0 (.t 6)), (some (81, false)), 6, [0, 1, 2, 3]⟩, ⟨(some 85), (.load false 1 (.t 84)), (some (81, false)), 7, [0, 1, 2, 3, 6]⟩, ⟨(some 86), (.bin .lss (.t 83) (.t 85)), (some (81, false)), 8, [0, 1, 2, 3, 4, 5, 6, 7]⟩, ⟨(some 87), (.pick (.t 81) (.c (.b true)) (.t 86)), none, 9, [0, 1, 2, 3, 4, 5, 6, 7, 8]⟩, ⟨(some 88), (.mv (.t 87)), none, 10, [0, 1, 2, 3, 4, 5, 6, 7, 8, 9]⟩, ⟨(some 89), (.fadd 1 (.t 6)), (some (88, false)), 11, [0, 1, 2, 3, 4, 5, 6, 7, 8, 9, 10]⟩, ⟨(some 91), (.mv (.t 0)), (some (88, false)), 13, [0, 1, 2, 3, 4, 5, 6, 7, 8, 9, 10]⟩, ⟨(some 92), (.idxs (.t 91) (.c (.i .i64 1))), (some (88, false)), 14, [0, 1, 2, 3, 4, 5, 6, 7, 8, 9, 10, 13]⟩, ⟨(some 90), (.load false 1 (.t 89)), (some (88, false)), 12, [0, 1, 2, 3, 4, 5, 6, 7, 8, 9, 10, 11]⟩, ⟨(some 93), (.bin .lss (.t 90) (.t 92)), (some (88, false)), 15, [0, 1, 2, 3, 4, 5, 6, 7, 8, 9, 10, 11, 12, 13, 14]⟩, ⟨(some 94), (.pick (.t 88) (.c (.b true)) (.t 93)), none, 16, [0, 1, 2, 3, 4, 5, 6, 7, 8, 9, 10, 11, 12, 13, 14, 15]⟩])
  (.cond (.t 94) (.seq (.region [po 2 (.mv (.c (.b false))) 0])
  .ret) .skip))
  (.region [pm 95 0 0, po 96 (.slstr (.t 95) (some (.c (.i .i64 2))) none) 1, pm 0 96 2])) (.seq (.region [po 98 (.bin .eql (.t 75) (.c (.i .i64 3))) 0, pm 97 98 1])
  (.cond (.t 97) (.seq (.seq (.draw [pm 99 0 0, ⟨(some 100), (.lens (.t 99)), none, 1, [0]⟩, ⟨(some 101), (.bin .lss (.t 100) (.c (.i .i64 3))), none, 2, [0, 1]⟩, ⟨(some 102), (.mv (.t 101)), none, 3, [0, 1, 2]⟩, ⟨(some 103), (.mv (.t 0)), (some (102, false)), 4, [0, 1, 2, 3]⟩, ⟨(some 104), (.idxs (.t 103) (.c (.i .i64 1))), (some (102, false)), 5, [0, 1, 2, 3, 4]⟩, ⟨(some 105), (.fadd 0 (.t 6)), (some (102, false)), 6, [0, 1, 2, 3]⟩, ⟨(some 106), (.load false 1 (.t 105)), (some (102, false)), 7, [0, 1, 2, 3, 6]⟩, ⟨(some 107), (.bin .lss (.t 104) (.t 106)), (some (102, false)), 8, [0, 1, 2, 3, 4, 5, 6, 7]⟩, ⟨(some 108), (.pick (.t 102) (.c (.b true)) (.t 107)), none, 9, [0, 1, 2, 3, 4, 5, 6, 7, 8]⟩, ⟨(some 109), (.mv (.t 108)), none, 10, [0, 1, 2, 3, 4, 5, 6, 7, 8, 9]⟩, ⟨(some 110), (.fadd 1 (.t 6)), (some (109, false)), 11, [0, 1, 2, 3, 4, 5, 6, 7, 8, 9, 10]⟩, ⟨(some 112), (.mv (.t 0)), (some (109, false)), 13, [0, 1, 2, 3, 4, 5, 6, 7, 8, 9, 10]⟩, ⟨(some 113), (.idxs (.t 112) (.c (.i .i64 1))), (some (109, false)), 14, [0, 1, 2, 3, 4, 5, 6, 7, 8, 9, 10, 13]⟩, ⟨(some 111), (.load false 1 (.t 110)), (some (109, false)), 12, [0, 1, 2, 3, 4, 5, 6, 7, 8, 9, 10, 11]⟩, ⟨(some 114), (.bin .lss (.t 111) (.t 113)), (some (109, false)), 15, [0, 1, 2, 3, 4, 5, 6, 7, 8, 9, 10, 11, 12, 13, 14]⟩, ⟨(some 115), (.pick (.t 109) (.c (.b true)) (.t 114)), none, 16, [0, 1, 2, 3, 4, 5, 6, 7, 8, 9, 10, 11, 12, 13, 14, 15]⟩, ⟨(some 116), (.mv (.t 115)), none, 17, [0, 1, 2, 3, 4, 5, 6, 7, 8, 9, 10, 11, 12, 13, 14, 15, 16]⟩, ⟨(some 117), (.mv (.t 0)), (some (116, false)), 18, [0, 1, 2, 3, 4, 5, 6, 7, 8, 9, 10, 11, 12, 13, 14, 15, 16, 17]⟩, ⟨(some 118), (.idxs (.t 117) (.c (.i .i64 2))), (some (116, false)), 19, [0, 1, 2, 3, 4, 5, 6, 7, 8, 9, 10, 11, 12, 13, 14, 15, 16, 17, 18]⟩, ⟨(some 119), (.bin .lss (.t 118) (.c (.i .u8 128))), (some (116, false)), 20, [0, 1, 2, 3, 4, 5, 6, 7, 8, 9, 10, 11, 12, 13, 14, 15, 16, 17, 18, 19]⟩, ⟨(some 120), (.pick (.t 116) (.c (.b true)) (.t 119)), none, 21, [0, 1, 2, 3, 4, 5, 6, 7, 8, 9, 10, 11, 12, 13, 14, 15, 16, 17, 18, 19, 20]⟩, ⟨(some 121), (.mv (.t 120)), none, 22, [0, 1, 2, 3, 4, 5, 6, 7, 8, 9, 10, 11, 12, 13, 14, 15, 16, 17, 18, 19, 20, 21]⟩, ⟨(some 122), (.mv (.t 0)), (some (121, false)), 23, [0, 1, 2, 3, 4, 5, 6, 7, 8, 9, 10, 11, 12, 13, 14, 15, 16, 17, 18, 19, 20, 21, 22]⟩, ⟨(some 123), (.idxs (.t 122) (.c (.i .i64 2))), (some (121, false)), 24, [0, 1, 2, 3, 4, 5, 6, 7, 8, 9, 10, 11, 12, 13, 14, 15, 16, 17, 18, 19, 20, 21, 22, 23]⟩, ⟨(some 124), (.bin .lss (.c (.i .u8 191)) (.t 123)), (some (121, false)), 25, [0, 1, 2, 3, 4, 5, 6, 7, 8, 9, 10, 11, 12, 13, 14, 15, 16, 17, 18, 19, 20, 21, 22, 23, 24]⟩, ⟨(some 125), (.pick (.t 121) (.c (.b true)) (.t 124)), none, 26, [0, 1, 2, 3, 4, 5, 6, 7, 8, 9, 10, 11, 12, 13, 14, 15, 16, 17, 18, 19, 20, 21, 22, 23, 24, 25]⟩])
  (.cond (.t 125) (.seq (.region [po 2 (.mv (.c (.b false))) 0])
  .ret) .skip))
  (.region [pm 126 0 0, po 127 (.slstr (.t 126) (some (.c (.i .i64 3))) none) 1, pm 0 127 2])) (.seq (.region [po 129 (.bin .eql (.t 75) (.c (.i .i64 4))) 0, pm 128 129 1])
  (.cond (.t 128) (.seq (.seq (.draw [pm 130 0 0, ⟨(some 131), (.lens (.t 130)), none, 1, [0]⟩, ⟨(some 132), (.bin .lss (.t 131) (.c (.i .i64 4))), none, 2, [0, 1]⟩, ⟨(some 133), (.mv (.t 132)), none, 3, [0, 1, 2]⟩, ⟨(some 134), (.mv (.t 0)), (some (133, false)), 4, [0, 1, 2, 3]⟩, ⟨(some 135), (.idxs (.t 134) (.c (.i .i64 1))), (some (133, false)), 5, [0, 1, 2, 3, 4]⟩, ⟨(some 136), (.fadd 0 (.t 6)), (some (133, false)), 6, [0, 1, 2, 3]⟩, ⟨(some 137), (.load false 1 (.t 136)), (some (133, false)), 7, [0, 1, 2, 3, 6]⟩, ⟨(some 138), (.bin .lss (.t 135) (.t 137)), (some (133, false)), 8, [0, 1, 2, 3, 4, 5, 6, 7]⟩, ⟨(some 139), (.pick (.t 133) (.c (.b true)) (.t 138)), none, 9, [0, 1, 2, 3, 4, 5, 6, 7, 8]⟩, ⟨(some 140), (.mv (.t 139)), none, 10, [0, 1, 2, 3, 4, 5, 6, 7, 8, 9]⟩, ⟨(some 141), (.fadd 1 (.t 6)), (some (140, false)), 11, [0, 1, 2, 3, 4, 5, 6, 7, 8, 9, 10]⟩, ⟨(some 143), (.mv (.t 0)), (some (140, false)), 13, [0, 1, 2, 3, 4, 5, 6, 7, 8, 9, 10]⟩, ⟨(some 144), (.idxs (.t 143) (.c (.i .i64 1))), (some (140, false)), 14, [0, 1, 2, 3, 4, 5, 6, 7, 8, 9, 10, 13]⟩, ⟨(some 142), (.load false 1 (.t 141)), (some (140, false)), 12, [0, 1, 2, 3, 4, 5, 6, 7, 8, 9, 10, 11]⟩, ⟨(some 145), (.bin .lss (.t 142) (.t 144)), (some (140, false)), 15, [0, 1, 2, 3, 4, 5, 6, 7, 8, 9, 10, 11, 12, 13, 14]⟩, ⟨(some 146), (.pick (.t 140) (.c (.b true)) (.t 145)), none, 16, [0, 1, 2, 3, 4, 5, 6, 7, 8, 9, 10, 11, 12, 13, 14, 15]⟩, ⟨(some 147), (.mv (.t 146)), none, 17, [0, 1, 2, 3, 4, 5, 6, 7, 8, 9, 10, 11, 12, 13, 14, 15, 16]⟩, ⟨(some 148), (.mv (.t 0)), (some (147, false)), 18, [0, 1, 2, 3, 4, 5, 6, 7, 8, 9, 10, 11, 12, 13, 14, 15, 16, 17]⟩, ⟨(some 149), (.idxs (.t 148) (.c (.i .i64 2))), (some (147, false)), 19, [0, 1, 2, 3, 4, 5, 6, 7, 8, 9, 10, 11, 12, 13, 14, 15, 16, 17, 18]⟩, ⟨(some 150), (.bin .lss (.t 149) (.c (.i .u8 128))), (some (147, false)), 20, [0, 1, 2, 3, 4, 5, 6, 7, 8, 9, 10, 11, 12, 13, 14, 15, 16, 17, 18, 19]⟩, ⟨(some 151), (.pick (.t 147) (.c (.b true)) (.t 150)), none, 21, [0, 1, 2, 3, 4, 5, 6, 7, 8, 9, 10, 11, 12, 13, 14, 15, 16, 17, 18, 19, 20]⟩, ⟨(some 152), (.mv (.t 151)), none, 22, [0, 1, 2, 3, 4, 5, 6, 7, 8, 9, 10, 11, 12, 13, 14, 15, 16, 17, 18, 19, 20, 21]⟩, ⟨(some 153), (.mv (.t 0)), (some (152, false)), 23, [0, 1, 2, 3, 4, 5, 6, 7, 8, 9, 10, 11, 12, 13, 14, 15, 16, 17, 18, 19, 20, 21, 22]⟩, ⟨(some 154), (.idxs (.t 153) (.c (.i .i64 2))), (some (152, false)), 24, [0, 1, 2, 3, 4, 5, 6, 7, 8, 9, 10, 11, 12, 13, 14, 15, 16, 17, 18, 19, 20, 21, 22, 23]⟩, ⟨(some 155), (.bin .lss (.c (.i .u8 191)) (.t 154)), (some (152, false)), 25, [0, 1, 2, 3, 4, 5, 6, 7, 8, 9, 10, 11, 12, 13, 14, 15, 16, 17, 18, 19, 20, 21, 22, 23, 24]⟩, ⟨(some 156), (.pick (.t 152) (.c (.b true)) (.t 155)), none, 26, [0, 1, 2, 3, 4, 5, 6, 7, 8, 9, 10, 11, 12, 13, 14, 15, 16, 17, 18, 19, 20, 21, 22, 23, 24, 25]⟩, ⟨(some 157), (.mv (.t 156)), none, 27, [0, 1, 2, 3, 4, 5, 6, 7, 8, 9, 10, 11, 12, 13, 14, 15, 16, 17, 18, 19, 20, 21, 22, 23, 24, 25, 26]⟩, ⟨(some 158), (.mv (.t 0)), (some (157, false)), 28, [0, 1, 2, 3, 4, 5, 6, 7, 8, 9, 10, 11, 12, 13, 14, 15, 16, 17, 18, 19, 20, 21, 22, 23, 24, 25, 26, 27]⟩, ⟨(some 159), (.idxs (.t 158) (.c (.i .i64 3))), (some (157, false)), 29, [0, 1, 2, 3, 4, 5, 6, 7, 8, 9, 10, 11, 12, 13, 14, 15, 16, 17, 18, 19, 20, 21, 22, 23, 24, 25, 26, 27, 28]⟩, ⟨(some 160), (.bin .lss (.t 159) (.c (.i .u8 128))), (some (157, false)), 30, [0, 1, 2, 3, 4, 5, 6, 7, 8, 9, 10, 11, 12, 13, 14, 15, 16, 17, 18, 19, 20, 21, 22, 23, 24, 25, 26, 27, 28, 29]⟩, ⟨(some 161), (.pick (.t 157) (.c (.b true)) (.t 160)), none, 31, [0, 1, 2, 3, 4, 5, 6, 7, 8, 9, 10, 11, 12, 13, 14, 15, 16, 17, 18, 19, 20, 21, 22, 23, 24, 25, 26, 27, 28, 29, 30]⟩, ⟨(some 162), (.mv (.t 161)), none, 32, [0, 1, 2, 3, 4, 5, 6, 7, 8, 9, 10, 11, 12, 13, 14, 15, 16, 17, 18, 19, 20, 21, 22, 23, 24, 25, 26, 27, 28, 29, 30, 31]⟩, ⟨(some 163), (.mv (.t 0)), (some (162, false)), 33, [0, 1, 2, 3, 4, 5, 6, 7, 8, 9, 10, 11, 12, 13, 14, 15, 16, 17, 18, 19, 20, 21, 22, 23, 24, 25, 26, 27, 28, 29, 30, 31, 32]⟩, ⟨(some 164), (.idxs (.t 163) (.c (.i .i64 3))), (some (162, false)), 34, [0, 1, 2, 3, 4, 5, 6, 7, 8, 9, 10, 11, 12, 13, 14, 15, 16, 17, 18, 19, 20, 21, 22, 23, 24, 25, 26, 27, 28, 29, 30, 31, 32, 33]⟩, ⟨(some 165), (.bin .lss (.c (.i .u8 191)) (.t 164)), (some (162, false)), 35, [0, 1, 2, 3, 4, 5, 6, 7, 8, 9, 10, 11, 12, 13, 14, 15, 16, 17, 18, 19, 20, 21, 22, 23, 24, 25, 26, 27, 28, 29, 30, 31, 32, 33, 34]⟩, ⟨(some 166), (.pick (.t 162) (.c (.b true)) (.t 165)), none, 36, [0, 1, 2, 3, 4, 5, 6, 7, 8, 9, 10, 11, 12, 13, 14, 15, 16, 17, 18, 19, 20, 21, 22, 23, 24, 25, 26, 27, 28, 29, 30, 31, 32, 33, 34, 35]⟩])
  (.cond (.t 166) (.seq (.region [po 2 (.mv (.c (.b false))) 0])
  .ret) .skip))
  (.region [pm 167 0 0, po 168 (.slstr (.t 167) (some (.c (.i .i64 4))) none) 1, pm 0 168 2])) (.seq (.region [po 2 (.mv (.c (.b false))) 0])
  .ret))))))))))))))))))
  (.seq (.region [po 2 (.mv (.c (.b true))) 0])
  .ret)))
def x63 : XFun := ⟨x63b, [(.t 2)]⟩
theorem x63_ok : compF Tryd.prog 63 = some x63 := by kernel_rfl
/-- bollard/octet.with (20) -/
def x64b : XC := (.seq (.region [po 4 (.mv (.c zAD )) 0])
  (.seq (.region [pm 6 0 0, po 7 (.lenx (.t 6)) 1, pm 8 0 2, po 9 (.lenx (.t 8)) 3, pm 10 1 4, po 11 (.lenx (.t 10)) 5, po 12 (.bin .add (.t 9) (.t 11)) 6, po 13 (.mkslice [(.i .u8 0)] 1 (.t 7) (.t 12)) 7, pm 5 13 8])
  (.seq (.region [pm 14 5 0, pm 15 0 1, po 16 (.copy 1 (.t 14) (.t 15)) 2])
  (.seq (.region [pm 17 5 0, pm 18 1 1, po 19 (.append 1 1 (.t 17) (.t 18)) 2, pm 4 19 3])
  .ret))))
def x64 : XFun := ⟨x64b, [(.t 4)]⟩
theorem x64_ok : compF Tryd.prog 64 = some x64 := by kernel_rfl
/-- bollard/bollardref18.valid (14) -/
def x65b : XC := (.seq (.region [po 2 (.mv (.c (.b false))) 0])
  (.seq (.block 0 (.loop (.seq (.seq (.region [pm 4 0 0, po 5 (.lens (.t 4)) 1, po 6 (.bin .gtr (.t 5) (.c (.i .i64 0))) 2])
  (.cond (.t 6) .skip (.exit 0)))
  (.block 1 (.seq (.region [pm 7 0 0, po 8 (.call (.c (.fn (.func 71) [] [])) [(.t 7)]) 1, pm 3 8 2])
  (.seq (.seq (.region [pm 9 3 0, po 10 (.bin .eql (.t 9) (.c (.i .i64 0))) 1])
  (.cond (.t 10) (.seq (.region [po 2 (.mv (.c (.b false))) 0])
  .ret) .skip))
  (.region [pm 11 0 0, pm 12 3 1, po 13 (.slstr (.t 11) (some (.t 12)) none) 2, pm 0 13 3])))))))
  (.seq (.region [po 2 (.mv (.c (.b true))) 0])
  .ret)))
def x65 : XFun := ⟨x65b, [(.t 2)]⟩
theorem x65_ok : compF Tryd.prog 65 = some x65 := by kernel_rfl
/-- (*bollard/octet.Reader).take (39) -/
def x66b : XC := (.seq (.region [po 4 (.mv (.c zAD )) 0, po 5 (.mv (.c (.i .i64 0))) 1])
  (.seq (.block 0 (.seq (.region [pm 8 0 0, po 9 (.nilq 0 false (.t 8)) 1, pm 10 9 2, pg 11 (.mv (.t 1)) 10 false 3, pg 12 (.bin .lss (.t 11) (.c (.i .i64 0))) 10 false 4, po 13 (.pick (.t 10) (.c (.b true)) (.t 12)) 5, pm 7 13 6])
  (.cond (.t 7) (.seq (.region [po 4 (.mv (.c zAD )) 0, po 5 (.mv (.c (.i .i64 1))) 1])
  .ret) (.seq (.region [pm 15 1 0, pm 16 0 1, po 17 (.nilc (.t 16)) 2, po 18 (.fadd 0 (.t 17)) 3, po 19 (.load false 1 (.t 18)) 4, po 20 (.lenx (.t 19)) 5, po 21 (.bin .gtr (.t 15) (.t 20)) 6, pm 14 21 7])
  (.cond (.t 14) (.seq (.region [po 4 (.mv (.c zAD )) 0, po 5 (.mv (.c (.i .i64 2))) 1])
  .ret) .skip)))))
  (.seq (.region [pm 22 0 0, po 23 (.nilc (.t 22)) 1, po 24 (.fadd 0 (.t 23)) 2, po 25 (.load false 1 (.t 24)) 3, pm 26 1 4, pm 27 1 5, po 28 (.slsl 1 (.t 25) none (some (.t 26)) (some (.t 27))) 6, pm 6 28 7])
  (.seq (.region [pm 29 0 0, pm 30 0 1, po 31 (.nilc (.t 30)) 2, po 32 (.fadd 0 (.t 31)) 3, po 33 (.load false 1 (.t 32)) 4, pm 34 1 5, po 35 (.slsl 1 (.t 33) (some (.t 34)) none none) 6, po 36 (.nilc (.t 29)) 7, po 37 (.fadd 0 (.t 36)) 8, ⟨none, (.store 1 (.t 37) (.t 35)), none, 9, []⟩])
  (.seq (.region [pm 38 6 0, pm 4 38 1, po 5 (.mv (.c (.i .i64 0))) 2])
  .ret)))))
def x66 : XFun := ⟨x66b, [(.t 4), (.t 5)]⟩
theorem x66_ok : compF Tryd.prog 66 = some x66 := by kernel_rfl
/-- (*bollard/bollardref18.Table).own (13) -/
def x67b : XC := (.seq (.region [po 4 (.mv (.c (.b false))) 0])
  (.seq (.region [pm 5 1 0, po 6 (.bin .rem (.t 5) (.c (.i .i64 2))) 1, po 7 (.bin .eql (.t 6) (.c (.i .i64 0))) 2, pm 8 0 3, po 9 (.nilc (.t 8)) 4, po 10 (.fadd 1 (.t 9)) 5, po 11 (.load false 1 (.t 10)) 6, po 12 (.beq false (.t 7) (.t 11)) 7, pm 4 12 8])
  .ret))
def x67 : XFun := ⟨x67b, [(.t 4)]⟩
theorem x67_ok : compF Tryd.prog 67 = some x67 := by kernel_rfl
/-- (*bollard/bollardref18.Table).opening (94) -/
def x68b : XC := (.seq (.region [po 3 (.box (.t 1)) 0, ⟨(some 4), (.alloc zAA ), none, 1, []⟩, po 5 (.mv (.c zAD )) 2, po 6 (.mv (.c (.i .i64 0))) 3])
  (.seq (.region [po 10 (.fadd 0 (.t 3)) 0, po 11 (.load false 1 (.t 10)) 1, po 12 (.cint .i64 (.t 11)) 2, pm 7 12 3])
  (.seq (.seq (.region [po 13 (.fadd 3 (.t 3)) 0, po 14 (.load false 1 (.t 13)) 1, po 15 (.lenx (.t 14)) 2, po 16 (.bin .eql (.t 15) (.c (.i .i64 1))) 3, pm 17 16 4, pg 18 (.fadd 3 (.t 3)) 17 true 5, pg 19 (.load false 1 (.t 18)) 17 true 6, pg 20 (.isl 1 (.t 19) (.c (.i .i64 0))) 17 true 7, pg 21 (.load false 1 (.t 20)) 17 true 8, pg 22 (.bin .eql (.t 21) (.c (.i .u8 2))) 17 true 9, po 23 (.pick (.t 17) (.t 22) (.c (.b false))) 10])
  (.cond (.t 23) (.seq (.seq (.region [pm 24 0 0, po 25 (.nilc (.t 24)) 1, po 26 (.fadd 0 (.t 25)) 2, po 27 (.load false 1 (.t 26)) 3, pm 28 7 4, po 29 (.isl 8 (.t 27) (.t 28)) 5, po 30 (.fadd 0 (.t 29)) 6, po 31 (.load false 1 (.t 30)) 7])
  (.block 0 (.seq (.region [po 33 (.bin .eql (.t 31) (.c (.i .i64 0))) 0, pm 32 33 1])
  (.cond (.t 32) (.seq (.region [⟨(some 34), (.build zAA  []), none, 0, []⟩, ⟨none, (.store 9 (.t 4) (.t 34)), none, 1, []⟩, po 5 (.mv (.c zAD )) 2, po 6 (.mv (.c (.i .i64 8))) 3])
  .ret) (.seq (.region [po 36 (.bin .eql (.t 31) (.c (.i .i64 1))) 0, pm 35 36 1])
  (.cond (.t 35) (.seq (.region [pm 37 0 0, po 38 (.nilc (.t 37)) 1, po 39 (.fadd 0 (.t 38)) 2, po 40 (.load false 1 (.t 39)) 3, pm 41 7 4, po 42 (.isl 8 (.t 40) (.t 41)) 5, po 43 (.fadd 0 (.t 42)) 6, ⟨none, (.store 1 (.t 43) (.c (.i .i64 2))), none, 7, []⟩])
  (.seq (.draw [po 44 (.fadd 0 (.t 3)) 0, pm 46 0 2, ⟨(some 47), (.nilc (.t 46)), none, 3, [2]⟩, ⟨(some 48), (.fadd 0 (.t 47)), none, 4, [2, 3]⟩, pm 50 7 6, ⟨(some 45), (.load false 1 (.t 44)), none, 1, [0]⟩, ⟨(some 49), (.load false 1 (.t 48)), none, 5, [2, 3, 4]⟩, ⟨(some 51), (.isl 8 (.t 49) (.t 50)), none, 7, [2, 3, 4, 5, 6]⟩, ⟨(some 52), (.fadd 1 (.t 51)), none, 8, [2, 3, 4, 5, 6, 7]⟩, ⟨(some 53), (.load true 5 (.t 52)), none, 9, [2, 3, 4, 5, 6, 7, 8]⟩, ⟨(some 54), (.build zAA  [(0, 1, (.c (.i .i64 2))), (1, 1, (.t 45)), (2, 5, (.t 53))]), none, 10, [0, 1, 2, 3, 4, 5, 6, 7, 8, 9]⟩, ⟨none, (.store 9 (.t 4) (.t 54)), none, 11, [0, 1, 2, 3, 4, 5, 6, 7, 8, 9, 10]⟩, ⟨(some 5), (.mv (.c zAD )), none, 12, [0, 1, 2, 3, 4, 5, 6, 7, 8, 9, 10, 11]⟩, ⟨(some 6), (.mv (.c (.i .i64 0))), none, 13, [0, 1, 2, 3, 4, 5, 6, 7, 8, 9, 10, 11, 12]⟩])
  .ret)) .skip))))))
  (.seq (.region [⟨(some 55), (.build zAA  []), none, 0, []⟩, ⟨none, (.store 9 (.t 4) (.t 55)), none, 1, []⟩, po 5 (.mv (.c zAD )) 2, po 6 (.mv (.c (.i .i64 0))) 3])
  .ret)) .skip))
  (.seq (.region [po 57 (.fadd 3 (.t 3)) 0, po 58 (.load false 1 (.t 57)) 1, po 59 (.call (.c (.fn (.func 17) [] [])) [(.t 58)]) 2, pm 56 59 3, po 60 (.ext (.t 56) 0) 4, po 61 (.ext (.t 56) 1) 5, ⟨(some 8), (.alloc zAB ), none, 6, []⟩, ⟨none, (.store 5 (.t 8) (.t 60)), none, 7, []⟩, pm 9 61 8])
  (.seq (.seq (.region [pm 62 9 0, po 63 (.bin .neq (.t 62) (.c (.i .i64 0))) 1])
  (.cond (.t 63) (.seq (.region [⟨(some 64), (.build zAA  []), none, 0, []⟩, pm 65 9 1, ⟨none, (.store 9 (.t 4) (.t 64)), none, 2, []⟩, po 5 (.mv (.c zAD )) 3, pm 6 65 4])
  .ret) .skip))
  (.seq (.seq (.region [pm 66 0 0, po 67 (.nilc (.t 66)) 1, po 68 (.fadd 0 (.t 67)) 2, po 69 (.load false 1 (.t 68)) 3, pm 70 7 4, po 71 (.isl 8 (.t 69) (.t 70)) 5, po 72 (.fadd 0 (.t 71)) 6, po 73 (.load false 1 (.t 72)) 7, po 74 (.bin .neq (.t 73) (.c (.i .i64 0))) 8, pm 75 74 9, pg 76 (.mv (.t 0)) 75 false 10, pg 77 (.mv (.t 7)) 75 false 11, pg 78 (.call (.c (.fn (.func 67) [] [])) [(.t 76), (.t 77)]) 75 false 12, po 79 (.pick (.t 75) (.c (.b true)) (.t 78)) 13])
  (.cond (.t 79) (.seq (.region [⟨(some 80), (.build zAA  []), none, 0, []⟩, ⟨none, (.store 9 (.t 4) (.t 80)), none, 1, []⟩, po 5 (.mv (.c zAD )) 2, po 6 (.mv (.c (.i .i64 8))) 3])
  .ret) .skip))
  (.seq (.draw [pm 81 0 0, ⟨(some 82), (.nilc (.t 81)), none, 1, [0]⟩, ⟨(some 83), (.fadd 0 (.t 82)), none, 2, [0, 1]⟩, pm 85 7 4, ⟨(some 84), (.load false 1 (.t 83)), none, 3, [0, 1, 2]⟩, po 86 (.load true 5 (.t 8)) 5, ⟨(some 87), (.build zAC  [(0, 1, (.c (.i .i64 2))), (1, 5, (.t 86))]), none, 6, [5]⟩, ⟨(some 88), (.isl 8 (.t 84) (.t 85)), none, 7, [0, 1, 2, 3, 4, 5, 6]⟩, ⟨none, (.store 8 (.t 88) (.t 87)), none, 8, [0, 1, 2, 3, 4, 5, 6, 7]⟩])
  (.seq (.region [po 89 (.fadd 0 (.t 3)) 0, po 90 (.load false 1 (.t 89)) 1, po 91 (.load true 5 (.t 8)) 2, ⟨(some 92), (.build zAA  [(0, 1, (.c (.i .i64 1))), (1, 1, (.t 90)), (2, 5, (.t 91))]), none, 3, []⟩, po 93 (.bslice [(.i .u8 0)] [(0, 1, (.c (.i .u8 2)))] 1) 4, ⟨none, (.store 9 (.t 4) (.t 92)), none, 5, []⟩, pm 5 93 6, po 6 (.mv (.c (.i .i64 0))) 7])
  .ret))))))))
def x68 : XFun := ⟨x68b, [(.cell 4 true 9), (.t 5), (.t 6)]⟩
theorem x68_ok : compF Tryd.prog 68 = some x68 := by kernel_rfl
/-- (*bollard/bollardref18.Table).free (29) -/
def x69b : XC := (.seq (.region [pm 4 0 0, po 5 (.nilc (.t 4)) 1, po 6 (.fadd 0 (.t 5)) 2, po 7 (.load false 1 (.t 6)) 3, pm 8 1 4, po 9 (.isl 8 (.t 7) (.t 8)) 5, po 10 (.fadd 6 (.t 9)) 6, po 11 (.load false 1 (.t 10)) 7, pm 12 11 8, pg 13 (.mv (.t 0)) 12 true 9, pg 14 (.nilc (.t 13)) 12 true 10, pg 15 (.fadd 0 (.t 14)) 12 true 11, pg 16 (.load false 1 (.t 15)) 12 true 12, pg 17 (.mv (.t 1)) 12 true 13, pg 18 (.isl 8 (.t 16) (.t 17)) 12 true 14, pg 19 (.fadd 7 (.t 18)) 12 true 15, pg 20 (.load false 1 (.t 19)) 12 true 16, po 21 (.pick (.t 12) (.t 20) (.c (.b false))) 17])
  (.cond (.t 21) (.region [pm 22 0 0, po 23 (.nilc (.t 22)) 1, po 24 (.fadd 0 (.t 23)) 2, po 25 (.load false 1 (.t 24)) 3, pm 26 1 4, ⟨(some 27), (.build zAC  []), none, 5, []⟩, po 28 (.isl 8 (.t 25) (.t 26)) 6, ⟨none, (.store 8 (.t 28) (.t 27)), none, 7, []⟩]) .skip))
def x69 : XFun := ⟨x69b, []⟩
theorem x69_ok : compF Tryd.prog 69 = some x69 := by kernel_rfl
/-- unicode/utf8.word[string] (59) -/
def x70b : XC := (.seq (.region [po 2 (.mv (.c (.i .u64 0))) 0])
  (.seq (.cond (.c (.b false)) (.seq (.draw [pm 3 0 0, ⟨(some 4), (.idxs (.t 3) (.c (.i .i64 0))), none, 1, [0]⟩, ⟨(some 5), (.cint .u64 (.t 4)), none, 2, [0, 1]⟩, pm 6 0 3, ⟨(some 7), (.idxs (.t 6) (.c (.i .i64 1))), none, 4, [3]⟩, ⟨(some 8), (.cint .u64 (.t 7)), none, 5, [3, 4]⟩, ⟨(some 9), (.bin .shl (.t 8) (.c (.i .u64 8))), none, 6, [3, 4, 5]⟩, ⟨(some 10), (.bin .or (.t 5) (.t 9)), none, 7, [0, 1, 2, 3, 4, 5, 6]⟩, pm 11 0 8, ⟨(some 12), (.idxs (.t 11) (.c (.i .i64 2))), none, 9, [8]⟩, ⟨(some 13), (.cint .u64 (.t 12)), none, 10, [8, 9]⟩, ⟨(some 14), (.bin .shl (.t 13) (.c (.i .u64 16))), none, 11, [8, 9, 10]⟩, ⟨(some 15), (.bin .or (.t 10) (.t 14)), none, 12, [0, 1, 2, 3, 4, 5, 6, 7, 8, 9, 10, 11]⟩, pm 16 0 13, ⟨(some 17), (.idxs (.t 16) (.c (.i .i64 3))), none, 14, [13]⟩, ⟨(some 18), (.cint .u64 (.t 17)), none, 15, [13, 14]⟩, ⟨(some 19), (.bin .shl (.t 18) (.c (.i .u64 24))), none, 16, [13, 14, 15]⟩, ⟨(some 20), (.bin .or (.t 15) (.t 19)), none, 17, [0, 1, 2, 3, 4, 5, 6, 7, 8, 9, 10, 11, 12, 13, 14, 15, 16]⟩, ⟨(some 2), (.mv (.t 20)), none, 18, [0, 1, 2, 3, 4, 5, 6, 7, 8, 9, 10, 11, 12, 13, 14, 15, 16, 17]⟩])
  .ret) .skip)
  (.seq (.draw [pm 21 0 0, ⟨(some 22), (.idxs (.t 21) (.c (.i .i64 0))), none, 1, [0]⟩, ⟨(some 23), (.cint .u64 (.t 22)), none, 2, [0, 1]⟩, pm 24 0 3, ⟨(some 25), (.idxs (.t 24) (.c (.i .i64 1))), none, 4, [3]⟩, ⟨(some 26), (.cint .u64 (.t 25)), none, 5, [3, 4]⟩, ⟨(some 27), (.bin .shl (.t 26) (.c (.i .u64 8))), none, 6, [3, 4, 5]⟩, ⟨(some 28), (.bin .or (.t 23) (.t 27)), none, 7, [0, 1, 2, 3, 4, 5, 6]⟩, pm 29 0 8, ⟨(some 30), (.idxs (.t 29) (.c (.i .i64 2))), none, 9, [8]⟩, ⟨(some 31), (.cint .u64 (.t 30)), none, 10, [8, 9]⟩, ⟨(some 32), (.bin .shl (.t 31) (.c (.i .u64 16))), none, 11, [8, 9, 10]⟩, ⟨(some 33), (.bin .or (.t 28) (.t 32)), none, 12, [0, 1, 2, 3, 4, 5, 6, 7, 8, 9, 10, 11]⟩, pm 34 0 13, ⟨(some 35), (.idxs (.t 34) (.c (.i .i64 3))), none, 14, [13]⟩, ⟨(some 36), (.cint .u64 (.t 35)), none, 15, [13, 14]⟩, ⟨(some 37), (.bin .shl (.t 36) (.c (.i .u64 24))), none, 16, [13, 14, 15]⟩, ⟨(some 38), (.bin .or (.t 33) (.t 37)), none, 17, [0, 1, 2, 3, 4, 5, 6, 7, 8, 9, 10, 11, 12, 13, 14, 15, 16]⟩, pm 39 0 18, ⟨(some 40), (.idxs (.t 39) (.c (.i .i64 4))), none, 19, [18]⟩, ⟨(some 41), (.cint .u64 (.t 40)), none, 20, [18, 19]⟩, ⟨(some 42), (.bin .shl (.t 41) (.c (.i .u64 32))), none, 21, [18, 19, 20]⟩, ⟨(some 43), (.bin .or (.t 38) (.t 42)), none, 22, [0, 1, 2, 3, 4, 5, 6, 7, 8, 9, 10, 11, 12, 13, 14, 15, 16, 17, 18, 19, 20, 21]⟩, pm 44 0 23, ⟨(some 45), (.idxs (.t 44) (.c (.i .i64 5))), none, 24, [23]⟩, ⟨(some 46), (.cint .u64 (.t 45)), none, 25, [23, 24]⟩, ⟨(some 47), (.bin .shl (.t 46) (.c (.i .u64 40))), none, 26, [23, 24, 25]⟩, ⟨(some 48), (.bin .or (.t 43) (.t 47)), none, 27, [0, 1, 2, 3, 4, 5, 6, 7, 8, 9, 10, 11, 12, 13, 14, 15, 16, 17, 18, 19, 20, 21, 22, 23, 24, 25, 26]⟩, pm 49 0 28, ⟨(some 50), (.idxs (.t 49) (.c (.i .i64 6))), none, 29, [28]⟩, ⟨(some 51), (.cint .u64 (.t 50)), none, 30, [28, 29]⟩, ⟨(some 52), (.bin .shl (.t 51) (.c (.i .u64 48))), none, 31, [28, 29, 30]⟩, ⟨(some 53), (.bin .or (.t 48) (.t 52)), none, 32, [0, 1, 2, 3, 4, 5, 6, 7, 8, 9, 10, 11, 12, 13, 14, 15, 16, 17, 18, 19, 20, 21, 22, 23, 24, 25, 26, 27, 28, 29, 30, 31]⟩, pm 54 0 33, ⟨(some 55), (.idxs (.t 54) (.c (.i .i64 7))), none, 34, [33]⟩, ⟨(some 56), (.cint .u64 (.t 55)), none, 35, [33, 34]⟩, ⟨(some 57), (.bin .shl (.t 56) (.c (.i .u64 56))), none, 36, [33, 34, 35]⟩, ⟨(some 58), (.bin .or (.t 53) (.t 57)), none, 37, [0, 1, 2, 3, 4, 5, 6, 7, 8, 9, 10, 11, 12, 13, 14, 15, 16, 17, 18, 19, 20, 21, 22, 23, 24, 25, 26, 27, 28, 29, 30, 31, 32, 33, 34, 35, 36]⟩, ⟨(some 2), (.mv (.t 58)), none, 38, [0, 1, 2, 3, 4, 5, 6, 7, 8, 9, 10, 11, 12, 13, 14, 15, 16, 17, 18, 19, 20, 21, 22, 23, 24, 25, 26, 27, 28, 29, 30, 31, 32, 33, 34, 35, 36, 37]⟩])
  .ret)))
def x70 : XFun := ⟨x70b, [(.t 2)]⟩
theorem x70_ok : compF Tryd.prog 70 = some x70 := by kernel_rfl
/-- bollard/bollardref18.one (64) -/
def x71b : XC := (.seq (.region [po 2 (.mv (.c (.i .i64 0))) 0])
  (.seq (.block 0 (.seq (.region [pm 4 0 0, po 5 (.call (.c (.fn (.func 72) [] [])) [(.t 4), (.c (.i .i64 0)), (.c (.i .u8 0)), (.c (.i .u8 127))]) 1, pm 3 5 2])
  (.cond (.t 3) (.seq (.region [po 2 (.mv (.c (.i .i64 1))) 0])
  .ret) (.seq (.region [pm 7 0 0, po 8 (.call (.c (.fn (.func 72) [] [])) [(.t 7), (.c (.i .i64 0)), (.c (.i .u8 194)), (.c (.i .u8 223))]) 1, pm 9 8 2, pg 10 (.mv (.t 0)) 9 true 3, pg 11 (.call (.c (.fn (.func 72) [] [])) [(.t 10), (.c (.i .i64 1)), (.c (.i .u8 128)), (.c (.i .u8 191))]) 9 true 4, po 12 (.pick (.t 9) (.t 11) (.c (.b false))) 5, pm 6 12 6])
  (.cond (.t 6) (.seq (.region [po 2 (.mv (.c (.i .i64 2))) 0])
  .ret) (.seq (.region [pm 14 0 0, po 15 (.call (.c (.fn (.func 72) [] [])) [(.t 14), (.c (.i .i64 2)), (.c (.i .u8 128)), (.c (.i .u8 191))]) 1, po 16 (.unx .not (.t 15)) 2, pm 13 16 3])
  (.cond (.t 13) (.seq (.region [po 2 (.mv (.c (.i .i64 0))) 0])
  .ret) (.seq (.seq (.region [pm 18 0 0, po 19 (.call (.c (.fn (.func 72) [] [])) [(.t 18), (.c (.i .i64 0)), (.c (.i .u8 224)), (.c (.i .u8 224))]) 1, pm 20 19 2, pg 21 (.mv (.t 0)) 20 true 3, pg 22 (.call (.c (.fn (.func 72) [] [])) [(.t 21), (.c (.i .i64 1)), (.c (.i .u8 160)), (.c (.i .u8 191))]) 20 true 4, po 23 (.pick (.t 20) (.t 22) (.c (.b false))) 5, pm 17 23 6])
  (.cond (.t 17) .skip (.region [pm 24 0 0, po 25 (.call (.c (.fn (.func 72) [] [])) [(.t 24), (.c (.i .i64 0)), (.c (.i .u8 237)), (.c (.i .u8 237))]) 1, pm 26 25 2, pg 27 (.mv (.t 0)) 26 true 3, pg 28 (.call (.c (.fn (.func 72) [] [])) [(.t 27), (.c (.i .i64 1)), (.c (.i .u8 128)), (.c (.i .u8 159))]) 26 true 4, po 29 (.pick (.t 26) (.t 28) (.c (.b false))) 5, pm 17 29 6])))
  (.cond (.t 17) (.seq (.region [po 2 (.mv (.c (.i .i64 3))) 0])
  .ret) (.seq (.region [pm 31 0 0, po 32 (.call (.c (.fn (.func 72) [] [])) [(.t 31), (.c (.i .i64 0)), (.c (.i .u8 225)), (.c (.i .u8 236))]) 1, pm 33 32 2, pg 34 (.mv (.t 0)) 33 false 3, pg 35 (.call (.c (.fn (.func 72) [] [])) [(.t 34), (.c (.i .i64 0)), (.c (.i .u8 238)), (.c (.i .u8 239))]) 33 false 4, po 36 (.pick (.t 33) (.c (.b true)) (.t 35)) 5, pm 37 36 6, pg 38 (.mv (.t 0)) 37 true 7, pg 39 (.call (.c (.fn (.func 72) [] [])) [(.t 38), (.c (.i .i64 1)), (.c (.i .u8 128)), (.c (.i .u8 191))]) 37 true 8, po 40 (.pick (.t 37) (.t 39) (.c (.b false))) 9, pm 30 40 10])
  (.cond (.t 30) (.seq (.region [po 2 (.mv (.c (.i .i64 3))) 0])
  .ret) (.seq (.region [pm 42 0 0, po 43 (.call (.c (.fn (.func 72) [] [])) [(.t 42), (.c (.i .i64 3)), (.c (.i .u8 128)), (.c (.i .u8 191))]) 1, po 44 (.unx .not (.t 43)) 2, pm 41 44 3])
  (.cond (.t 41) (.seq (.region [po 2 (.mv (.c (.i .i64 0))) 0])
  .ret) (.seq (.seq (.region [pm 46 0 0, po 47 (.call (.c (.fn (.func 72) [] [])) [(.t 46), (.c (.i .i64 0)), (.c (.i .u8 240)), (.c (.i .u8 240))]) 1, pm 48 47 2, pg 49 (.mv (.t 0)) 48 true 3, pg 50 (.call (.c (.fn (.func 72) [] [])) [(.t 49), (.c (.i .i64 1)), (.c (.i .u8 144)), (.c (.i .u8 191))]) 48 true 4, po 51 (.pick (.t 48) (.t 50) (.c (.b false))) 5, pm 45 51 6])
  (.cond (.t 45) .skip (.seq (.region [pm 52 0 0, po 53 (.call (.c (.fn (.func 72) [] [])) [(.t 52), (.c (.i .i64 0)), (.c (.i .u8 241)), (.c (.i .u8 243))]) 1, pm 54 53 2, pg 55 (.mv (.t 0)) 54 true 3, pg 56 (.call (.c (.fn (.func 72) [] [])) [(.t 55), (.c (.i .i64 1)), (.c (.i .u8 128)), (.c (.i .u8 191))]) 54 true 4, po 57 (.pick (.t 54) (.t 56) (.c (.b false))) 5, pm 45 57 6])
  (.cond (.t 45) .skip (.region [pm 58 0 0, po 59 (.call (.c (.fn (.func 72) [] [])) [(.t 58), (.c (.i .i64 0)), (.c (.i .u8 244)), (.c (.i .u8 244))]) 1, pm 60 59 2, pg 61 (.mv (.t 0)) 60 true 3, pg 62 (.call (.c (.fn (.func 72) [] [])) [(.t 61), (.c (.i .i64 1)), (.c (.i .u8 128)), (.c (.i .u8 143))]) 60 true 4, po 63 (.pick (.t 60) (.t 62) (.c (.b false))) 5, pm 45 63 6])))))
  (.cond (.t 45) (.seq (.region [po 2 (.mv (.c (.i .i64 4))) 0])
  .ret) .skip)))))))))))))))
  (.seq (.region [po 2 (.mv (.c (.i .i64 0))) 0])
  .ret)))
def x71 : XFun := ⟨x71b, [(.t 2)]⟩
theorem x71_ok : compF Tryd.prog 71 = some x71 := by kernel_rfl
/-- bollard/bollardref18.between (27) -/
def x72b : XC := (.seq (.region [po 8 (.mv (.c (.b false))) 0])
  (.seq (.region [pm 9 1 0, pm 10 0 1, po 11 (.lens (.t 10)) 2, po 12 (.bin .lss (.t 9) (.t 11)) 3, pm 13 12 4, pg 14 (.mv (.t 0)) 13 true 5, pg 15 (.mv (.t 1)) 13 true 6, pg 16 (.idxs (.t 14) (.t 15)) 13 true 7, pg 17 (.mv (.t 2)) 13 true 8, pg 18 (.bin .geq (.t 16) (.t 17)) 13 true 9, po 19 (.pick (.t 13) (.t 18) (.c (.b false))) 10, pm 20 19 11, pg 21 (.mv (.t 0)) 20 true 12, pg 22 (.mv (.t 1)) 20 true 13, pg 23 (.idxs (.t 21) (.t 22)) 20 true 14, pg 24 (.mv (.t 3)) 20 true 15, pg 25 (.bin .leq (.t 23) (.t 24)) 20 true 16, po 26 (.pick (.t 20) (.t 25) (.c (.b false))) 17, pm 8 26 18])
  .ret))
def x72 : XFun := ⟨x72b, [(.t 8)]⟩
theorem x72_ok : compF Tryd.prog 72 = some x72 := by kernel_rfl
def tab : Nat → Option XFun := fun g => match g with
  | 3 => some x3
  | 4 => some x4
  | 5 => some x5
  | 6 => some x6
  | 7 => some x7
  | 8 => some x8
  | 9 => some x9
  | 10 => some x10
  | 11 => some x11
  | 12 => some x12
  | 13 => some x13
  | 14 => some x14
  | 15 => some x15
  | 16 => some x16
  | 17 => some x17
  | 18 => some x18
  | 19 => some x19
  | 20 => some x20
  | 21 => some x21
  | 22 => some x22
  | 23 => some x23
  | 24 => some x24
  | 25 => some x25
  | 26 => some x26
  | 27 => some x27
  | 28 => some x28
  | 29 => some x29
  | 30 => some x30
  | 31 => some x31
  | 32 => some x32
  | 33 => some x33
  | 34 => some x34
  | 35 => some x35
  | 36 => some x36
  | 37 => some x37
  | 38 => some x38
  | 39 => some x39
  | 40 => some x40
  | 41 => some x41
  | 42 => some x42
  | 43 => some x43
  | 44 => some x44
  | 45 => some x45
  | 46 => some x46
  | 47 => some x47
  | 48 => some x48
  | 49 => some x49
  | 50 => some x50
  | 51 => some x51
  | 52 => some x52
  | 53 => some x53
  | 54 => some x54
  | 55 => some x55
  | 56 => some x56
  | 57 => some x57
  | 58 => some x58
  | 59 => some x59
  | 60 => some x60
  | 61 => some x61
  | 62 => some x62
  | 63 => some x63
  | 64 => some x64
  | 65 => some x65
  | 66 => some x66
  | 67 => some x67
  | 68 => some x68
  | 69 => some x69
  | 70 => some x70
  | 71 => some x71
  | 72 => some x72
  | _ => none
theorem tab_ok : TabOK Tryd.prog tab := by
  intro g F h
  unfold tab at h
  split at h
  · cases h; exact x3_ok
  · cases h; exact x4_ok
  · cases h; exact x5_ok
  · cases h; exact x6_ok
  · cases h; exact x7_ok
  · cases h; exact x8_ok
  · cases h; exact x9_ok
  · cases h; exact x10_ok
  · cases h; exact x11_ok
  · cases h; exact x12_ok
  · cases h; exact x13_ok
  · cases h; exact x14_ok
  · cases h; exact x15_ok
  · cases h; exact x16_ok
  · cases h; exact x17_ok
  · cases h; exact x18_ok
  · cases h; exact x19_ok
  · cases h; exact x20_ok
  · cases h; exact x21_ok
  · cases h; exact x22_ok
  · cases h; exact x23_ok
  · cases h; exact x24_ok
  · cases h; exact x25_ok
  · cases h; exact x26_ok
  · cases h; exact x27_ok
  · cases h; exact x28_ok
  · cases h; exact x29_ok
  · cases h; exact x30_ok
  · cases h; exact x31_ok
  · cases h; exact x32_ok
  · cases h; exact x33_ok
  · cases h; exact x34_ok
  · cases h; exact x35_ok
  · cases h; exact x36_ok
  · cases h; exact x37_ok
  · cases h; exact x38_ok
  · cases h; exact x39_ok
  · cases h; exact x40_ok
  · cases h; exact x41_ok
  · cases h; exact x42_ok
  · cases h; exact x43_ok
  · cases h; exact x44_ok
  · cases h; exact x45_ok
  · cases h; exact x46_ok
  · cases h; exact x47_ok
  · cases h; exact x48_ok
  · cases h; exact x49_ok
  · cases h; exact x50_ok
  · cases h; exact x51_ok
  · cases h; exact x52_ok
  · cases h; exact x53_ok
  · cases h; exact x54_ok
  · cases h; exact x55_ok
  · cases h; exact x56_ok
  · cases h; exact x57_ok
  · cases h; exact x58_ok
  · cases h; exact x59_ok
  · cases h; exact x60_ok
  · cases h; exact x61_ok
  · cases h; exact x62_ok
  · cases h; exact x63_ok
  · cases h; exact x64_ok
  · cases h; exact x65_ok
  · cases h; exact x66_ok
  · cases h; exact x67_ok
  · cases h; exact x68_ok
  · cases h; exact x69_ok
  · cases h; exact x70_ok
  · cases h; exact x71_ok
  · cases h; exact x72_ok
  · cases h
end Go.Proofs.YtfhbdddjclodhaaDoor.E
