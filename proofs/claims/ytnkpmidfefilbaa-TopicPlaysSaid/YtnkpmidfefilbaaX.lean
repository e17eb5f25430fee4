/- The compiled functions of the seat, as told by the evaluator's compiler; written by a program of this session, wip/eng/px.lean. It bears no condition. -/
import Derived.Test.YtnkpmidfefilbaaE0
import Derived.Test.YtnkpmidfefilbaaE19
import Derived.Test.YtnkpmidfefilbaaChecked
namespace Go.Proofs.Ytnkpmidfefilbaa.E
abbrev zAA : List AV := [(.s ⟨#[]⟩), (.i .i64 0), (.i .i64 0), (.b false), (.sl none 0 0 0)]
abbrev zAB : List AV := [(.b false), (.sl none 0 0 0), (.sl none 0 0 0), (.i .i64 0)]

set_option linter.unusedVariables false
/-- bollard/bollardlaw19.TopicRuns (167) -/
def x3b : XC := (.seq (.region [po 6 (.mv (.c (.b false))) 0])
  (.seq (.region [po 21 (.call (.c (.fn (.func 10) [] [])) []) 0, pm 7 21 1])
  (.seq (.region [pm 22 2 0, po 23 (.bin .and (.t 22) (.c (.i .i64 127))) 1, pm 8 23 2])
  (.seq (.seq (.region [pm 24 1 0, po 25 (.lenx (.t 24)) 1, po 26 (.bin .gtr (.t 25) (.c (.i .i64 200))) 2])
  (.cond (.t 26) (.seq (.region [pm 27 7 0, pm 6 27 1])
  .ret) .skip))
  (.seq (.region [pm 28 0 0, po 29 (.call (.c (.fn (.func 11) [] [])) [(.c (.i .i64 3)), (.t 28)]) 1, pm 9 29 2])
  (.seq (.seq (.region [pm 30 9 0, po 31 (.call (.c (.fn (.func 12) [] [])) [(.t 30), (.c (.i .i64 0))]) 1, po 32 (.bin .neq (.t 31) (.c (.i .i64 0))) 2, pm 33 32 3, pg 34 (.mv (.t 9)) 33 false 4, pg 35 (.call (.c (.fn (.func 12) [] [])) [(.t 34), (.c (.i .i64 1))]) 33 false 5, pg 36 (.bin .neq (.t 35) (.c (.i .i64 0))) 33 false 6, po 37 (.pick (.t 33) (.c (.b true)) (.t 36)) 7])
  (.cond (.t 37) (.seq (.region [po 6 (.mv (.c (.b false))) 0])
  .ret) .skip))
  (.seq (.region [pm 38 9 0, po 39 (.bslice [(.i .u8 0)] [(0, 1, (.c (.i .u8 0)))] 1) 1, ⟨(some 40), (.call (.c (.fn (.func 13) [] [])) [(.t 38), (.c (.i .i64 0)), (.c (.s ⟨#[116]⟩)), (.c (.b false)), (.t 39)]), none, 2, []⟩])
  (.seq (.seq (.region [pm 41 9 0, ⟨(some 42), (.call (.c (.fn (.func 14) [] [])) [(.t 41), (.c (.i .i64 1)), (.c (.s ⟨#[116]⟩)), (.c (.i .i64 0))]), none, 1, []⟩, po 43 (.bin .neq (.t 42) (.c (.i .i64 0))) 2])
  (.cond (.t 43) (.seq (.region [po 6 (.mv (.c (.b false))) 0])
  .ret) .skip))
  (.seq (.region [po 10 (.mv (.c (.i .i64 1))) 0])
  (.seq (.region [po 11 (.mv (.c (.i .i64 (-1)))) 0])
  (.seq (.seq (.region [po 12 (.mv (.c (.i .i64 1))) 0])
  (.block 0 (.loop (.seq (.seq (.region [pm 44 12 0, pm 45 8 1, po 46 (.bin .leq (.t 44) (.t 45)) 2])
  (.cond (.t 46) .skip (.exit 0)))
  (.seq (.block 1 (.seq (.region [pm 50 9 0, pm 51 12 1, po 52 (.cint .u8 (.t 51)) 2, po 53 (.bslice [(.i .u8 0)] [(0, 1, (.t 52))] 1) 3, ⟨(some 54), (.call (.c (.fn (.func 13) [] [])) [(.t 50), (.c (.i .i64 0)), (.c (.s ⟨#[116]⟩)), (.c (.b false)), (.t 53)]), none, 4, []⟩, pm 49 54 5, po 55 (.ext (.t 49) 0) 6, po 56 (.ext (.t 49) 1) 7, pm 13 55 8, pm 14 56 9])
  (.seq (.seq (.region [pm 57 14 0, po 58 (.bin .neq (.t 57) (.c (.i .i64 0))) 1, pm 59 58 2, pg 60 (.mv (.t 13)) 59 false 3, pg 61 (.bin .neq (.t 60) (.c (.i .i64 0))) 59 false 4, pg 62 (.mv (.t 61)) 59 false 5, pg 63 (.mv (.t 13)) 62 true 6, pg 64 (.bin .neq (.t 63) (.c (.i .i64 1))) 62 true 7, pg 65 (.pick (.t 62) (.t 64) (.c (.b false))) 59 false 8, po 66 (.pick (.t 59) (.c (.b true)) (.t 65)) 9, pm 67 66 10, pg 68 (.mv (.t 13)) 67 false 11, pg 69 (.bin .eql (.t 68) (.c (.i .i64 0))) 67 false 12, pg 70 (.mv (.t 69)) 67 false 13, pg 71 (.mv (.t 9)) 70 true 14, ⟨(some 72), (.call (.c (.fn (.func 15) [] [])) [(.t 71), (.c (.i .i64 1)), (.c (.s ⟨#[116]⟩))]), (some (70, true)), 15, []⟩, pg 73 (.unx .not (.t 72)) 70 true 16, pg 74 (.pick (.t 70) (.t 73) (.c (.b false))) 67 false 17, po 75 (.pick (.t 67) (.c (.b true)) (.t 74)) 18])
  (.cond (.t 75) (.seq (.region [po 6 (.mv (.c (.b false))) 0])
  .ret) .skip))
  (.seq (.seq (.region [pm 76 13 0, po 77 (.bin .eql (.t 76) (.c (.i .i64 0))) 1, pm 78 77 2, pg 79 (.mv (.t 11)) 78 true 3, pg 80 (.bin .lss (.t 79) (.c (.i .i64 0))) 78 true 4, po 81 (.pick (.t 78) (.t 80) (.c (.b false))) 5])
  (.cond (.t 81) (.region [pm 82 12 0, pm 11 82 1]) .skip))
  (.seq (.seq (.region [pm 83 13 0, po 84 (.bin .eql (.t 83) (.c (.i .i64 1))) 1, pm 85 84 2, pg 86 (.mv (.t 11)) 85 true 3, pg 87 (.bin .geq (.t 86) (.c (.i .i64 0))) 85 true 4, po 88 (.pick (.t 85) (.t 87) (.c (.b false))) 5])
  (.cond (.t 88) (.seq (.region [po 6 (.mv (.c (.b false))) 0])
  .ret) .skip))
  (.seq (.region [po 15 (.mv (.c (.i .i64 0))) 0])
  (.seq (.seq (.region [pm 89 12 0, pm 90 1 1, po 91 (.lenx (.t 90)) 2, po 92 (.bin .leq (.t 89) (.t 91)) 3])
  (.cond (.t 92) (.region [pm 93 1 0, pm 94 12 1, po 95 (.bin .sub (.t 94) (.c (.i .i64 1))) 2, po 96 (.isl 1 (.t 93) (.t 95)) 3, po 97 (.load false 1 (.t 96)) 4, po 98 (.bin .and (.t 97) (.c (.i .i64 3))) 5, pm 15 98 6]) .skip))
  (.seq (.region [po 16 (.mv (.c (.i .i64 0))) 0])
  (.block 2 (.loop (.seq (.seq (.region [pm 99 16 0, pm 100 15 1, po 101 (.bin .lss (.t 99) (.t 100)) 2])
  (.cond (.t 101) .skip (.exit 2)))
  (.seq (.block 3 (.seq (.region [pm 105 9 0, po 106 (.call (.c (.fn (.func 16) [] [])) [(.t 105), (.c (.i .i64 1))]) 1, pm 104 106 2, po 107 (.ext (.t 104) 0) 3, po 108 (.ext (.t 104) 1) 4, ⟨(some 17), (.alloc zAA ), none, 5, []⟩, ⟨none, (.store 5 (.t 17) (.t 107)), none, 6, []⟩, pm 18 108 7])
  (.seq (.seq (.region [pm 109 18 0, po 110 (.unx .not (.t 109)) 1])
  (.cond (.t 110) (.exit 2) .skip))
  (.seq (.seq (.region [po 111 (.fadd 2 (.t 17)) 0, po 112 (.load false 1 (.t 111)) 1, pm 113 10 2, po 114 (.bin .neq (.t 112) (.t 113)) 3, pm 115 114 4, pg 116 (.fadd 4 (.t 17)) 115 false 5, pg 117 (.load false 1 (.t 116)) 115 false 6, pg 118 (.lenx (.t 117)) 115 false 7, pg 119 (.bin .neq (.t 118) (.c (.i .i64 1))) 115 false 8, po 120 (.pick (.t 115) (.c (.b true)) (.t 119)) 9, pm 121 120 10, pg 122 (.fadd 4 (.t 17)) 121 false 11, pg 123 (.load false 1 (.t 122)) 121 false 12, pg 124 (.isl 1 (.t 123) (.c (.i .i64 0))) 121 false 13, pg 125 (.load false 1 (.t 124)) 121 false 14, pg 126 (.mv (.t 10)) 121 false 15, pg 127 (.cint .u8 (.t 126)) 121 false 16, pg 128 (.bin .neq (.t 125) (.t 127)) 121 false 17, po 129 (.pick (.t 121) (.c (.b true)) (.t 128)) 18, pm 130 129 19, pg 131 (.fadd 1 (.t 17)) 130 false 20, pg 132 (.load false 1 (.t 131)) 130 false 21, pg 133 (.bin .neq (.t 132) (.c (.i .i64 0))) 130 false 22, po 134 (.pick (.t 130) (.c (.b true)) (.t 133)) 23])
  (.cond (.t 134) (.seq (.region [po 6 (.mv (.c (.b false))) 0])
  .ret) .skip))
  (.region [pm 135 10 0, po 136 (.bin .add (.t 135) (.c (.i .i64 1))) 1, pm 10 136 2])))))
  (.region [pm 102 16 0, po 103 (.bin .add (.t 102) (.c (.i .i64 1))) 1, pm 16 103 2])))))))))))))
  (.region [pm 47 12 0, po 48 (.bin .add (.t 47) (.c (.i .i64 1))) 1, pm 12 48 2]))))))
  (.seq (.block 4 (.loop (.block 5 (.seq (.region [pm 138 9 0, po 139 (.call (.c (.fn (.func 16) [] [])) [(.t 138), (.c (.i .i64 1))]) 1, pm 137 139 2, po 140 (.ext (.t 137) 0) 3, po 141 (.ext (.t 137) 1) 4, ⟨(some 19), (.alloc zAA ), none, 5, []⟩, ⟨none, (.store 5 (.t 19) (.t 140)), none, 6, []⟩, pm 20 141 7])
  (.seq (.seq (.region [pm 142 20 0, po 143 (.unx .not (.t 142)) 1])
  (.cond (.t 143) (.exit 4) .skip))
  (.seq (.seq (.region [po 144 (.fadd 2 (.t 19)) 0, po 145 (.load false 1 (.t 144)) 1, pm 146 10 2, po 147 (.bin .neq (.t 145) (.t 146)) 3])
  (.cond (.t 147) (.seq (.region [po 6 (.mv (.c (.b false))) 0])
  .ret) .skip))
  (.region [pm 148 10 0, po 149 (.bin .add (.t 148) (.c (.i .i64 1))) 1, pm 10 149 2])))))))
  (.seq (.seq (.region [pm 150 11 0, po 151 (.bin .lss (.t 150) (.c (.i .i64 0))) 1])
  (.cond (.t 151) (.region [pm 152 8 0, po 153 (.bin .add (.t 152) (.c (.i .i64 1))) 1, pm 11 153 2]) .skip))
  (.seq (.region [pm 154 7 0, pm 155 154 1, pg 156 (.mv (.t 10)) 155 true 2, pg 157 (.mv (.t 11)) 155 true 3, pg 158 (.bin .eql (.t 156) (.t 157)) 155 true 4, po 159 (.pick (.t 155) (.t 158) (.c (.b false))) 5, pm 160 159 6, pg 161 (.mv (.t 9)) 160 true 7, ⟨(some 162), (.call (.c (.fn (.func 17) [] [])) [(.t 161), (.c (.s ⟨#[116]⟩))]), (some (160, true)), 8, []⟩, pg 163 (.mv (.t 8)) 160 true 9, pg 164 (.bin .add (.t 163) (.c (.i .i64 1))) 160 true 10, pg 165 (.bin .eql (.t 162) (.t 164)) 160 true 11, po 166 (.pick (.t 160) (.t 165) (.c (.b false))) 12, pm 6 166 13])
  .ret))))))))))))))
def x3 : XFun := ⟨x3b, [(.t 6)]⟩
theorem x3_ok : compF Try.prog 3 = some x3 := by kernel_rfl
/-- bollard/bollardlaw19.TopicMany (99) -/
def x4b : XC := (.seq (.region [po 6 (.mv (.c (.b false))) 0])
  (.seq (.region [po 17 (.call (.c (.fn (.func 10) [] [])) []) 0, pm 7 17 1])
  (.seq (.seq (.region [pm 18 0 0, po 19 (.lenx (.t 18)) 1, po 20 (.bin .gtr (.t 19) (.c (.i .i64 15))) 2, pm 21 20 3, pg 22 (.mv (.t 2)) 21 false 4, pg 23 (.lenx (.t 22)) 21 false 5, pg 24 (.bin .gtr (.t 23) (.c (.i .i64 1000))) 21 false 6, po 25 (.pick (.t 21) (.c (.b true)) (.t 24)) 7])
  (.cond (.t 25) (.seq (.region [pm 26 7 0, pm 6 26 1])
  .ret) .skip))
  (.seq (.region [po 27 (.call (.c (.fn (.func 11) [] [])) [(.c (.i .i64 16)), (.c (.i .i64 64))]) 0, pm 8 27 1])
  (.seq (.region [po 9 (.mv (.c (.i .i64 0))) 0])
  (.seq (.seq (.region [po 10 (.mv (.c (.i .i64 0))) 0])
  (.block 0 (.loop (.seq (.seq (.region [pm 28 10 0, po 29 (.bin .lss (.t 28) (.c (.i .i64 16))) 1])
  (.cond (.t 29) .skip (.exit 0)))
  (.seq (.block 1 (.seq (.seq (.region [pm 32 8 0, pm 33 10 1, po 34 (.call (.c (.fn (.func 12) [] [])) [(.t 32), (.t 33)]) 2, po 35 (.bin .neq (.t 34) (.c (.i .i64 0))) 3])
  (.cond (.t 35) (.seq (.region [po 6 (.mv (.c (.b false))) 0])
  .ret) .skip))
  (.seq (.region [pm 36 10 0, pm 37 0 1, po 38 (.lenx (.t 37)) 2, po 39 (.bin .lss (.t 36) (.t 38)) 3, pm 40 39 4, pg 41 (.mv (.t 0)) 40 true 5, pg 42 (.mv (.t 10)) 40 true 6, pg 43 (.isl 1 (.t 41) (.t 42)) 40 true 7, pg 44 (.load false 1 (.t 43)) 40 true 8, po 45 (.pick (.t 40) (.t 44) (.c (.b false))) 9])
  (.cond (.t 45) (.seq (.seq (.region [pm 46 8 0, pm 47 10 1, ⟨(some 48), (.call (.c (.fn (.func 14) [] [])) [(.t 46), (.t 47), (.c (.s ⟨#[116]⟩)), (.c (.i .i64 0))]), none, 2, []⟩, po 49 (.bin .neq (.t 48) (.c (.i .i64 0))) 3])
  (.cond (.t 49) (.seq (.region [po 6 (.mv (.c (.b false))) 0])
  .ret) .skip))
  (.region [pm 50 9 0, po 51 (.bin .add (.t 50) (.c (.i .i64 1))) 1, pm 9 51 2])) .skip))))
  (.region [pm 30 10 0, po 31 (.bin .add (.t 30) (.c (.i .i64 1))) 1, pm 10 31 2]))))))
  (.seq (.region [pm 52 1 0, po 53 (.bin .and (.t 52) (.c (.i .i64 31))) 1, po 54 (.bin .add (.c (.i .i64 1)) (.t 53)) 2, pm 11 54 3])
  (.seq (.seq (.region [po 12 (.mv (.c (.i .i64 0))) 0])
  (.block 2 (.loop (.seq (.seq (.region [pm 55 12 0, pm 56 11 1, po 57 (.bin .lss (.t 55) (.t 56)) 2])
  (.cond (.t 57) .skip (.exit 2)))
  (.seq (.block 3 (.seq (.region [pm 61 8 0, pm 62 12 1, po 63 (.bin .rem (.t 62) (.c (.i .i64 2))) 2, po 64 (.bin .eql (.t 63) (.c (.i .i64 0))) 3, pm 65 2 4, ⟨(some 66), (.call (.c (.fn (.func 13) [] [])) [(.t 61), (.c (.i .i64 15)), (.c (.s ⟨#[116]⟩)), (.t 64), (.t 65)]), none, 5, []⟩, pm 60 66 6, po 67 (.ext (.t 60) 0) 7, po 68 (.ext (.t 60) 1) 8, pm 13 67 9, pm 14 68 10])
  (.seq (.region [pm 69 13 0, pm 70 9 1, po 71 (.bin .neq (.t 69) (.t 70)) 2, pm 72 71 3, pg 73 (.mv (.t 14)) 72 false 4, pg 74 (.bin .neq (.t 73) (.c (.i .i64 0))) 72 false 5, po 75 (.pick (.t 72) (.c (.b true)) (.t 74)) 6])
  (.cond (.t 75) (.seq (.region [po 6 (.mv (.c (.b false))) 0])
  .ret) .skip))))
  (.region [pm 58 12 0, po 59 (.bin .add (.t 58) (.c (.i .i64 1))) 1, pm 12 59 2]))))))
  (.seq (.region [po 15 (.mv (.c (.i .i64 0))) 0])
  (.seq (.seq (.region [po 16 (.mv (.c (.i .i64 0))) 0])
  (.block 4 (.loop (.seq (.seq (.region [pm 76 16 0, po 77 (.bin .lss (.t 76) (.c (.i .i64 16))) 1])
  (.cond (.t 77) .skip (.exit 4)))
  (.seq (.block 5 (.region [pm 80 15 0, pm 81 8 1, pm 82 16 2, po 83 (.call (.c (.fn (.func 18) [] [])) [(.t 81), (.t 82)]) 3, po 84 (.bin .add (.t 80) (.t 83)) 4, pm 15 84 5]))
  (.region [pm 78 16 0, po 79 (.bin .add (.t 78) (.c (.i .i64 1))) 1, pm 16 79 2]))))))
  (.seq (.region [pm 85 7 0, pm 86 85 1, pg 87 (.mv (.t 15)) 86 true 2, pg 88 (.mv (.t 9)) 86 true 3, pg 89 (.mv (.t 11)) 86 true 4, pg 90 (.bin .mul (.t 88) (.t 89)) 86 true 5, pg 91 (.bin .eql (.t 87) (.t 90)) 86 true 6, po 92 (.pick (.t 86) (.t 91) (.c (.b false))) 7, pm 93 92 8, pg 94 (.mv (.t 8)) 93 true 9, ⟨(some 95), (.call (.c (.fn (.func 17) [] [])) [(.t 94), (.c (.s ⟨#[116]⟩))]), (some (93, true)), 10, []⟩, pg 96 (.mv (.t 11)) 93 true 11, pg 97 (.bin .eql (.t 95) (.t 96)) 93 true 12, po 98 (.pick (.t 93) (.t 97) (.c (.b false))) 13, pm 6 98 14])
  .ret)))))))))))
def x4 : XFun := ⟨x4b, [(.t 6)]⟩
theorem x4_ok : compF Try.prog 4 = some x4 := by kernel_rfl
/-- bollard/bollardlaw19.TopicParts (132) -/
def x5b : XC := (.seq (.region [po 8 (.mv (.c (.b false))) 0])
  (.seq (.region [po 20 (.call (.c (.fn (.func 10) [] [])) []) 0, pm 9 20 1])
  (.seq (.region [pm 21 2 0, po 22 (.bin .and (.t 21) (.c (.i .i64 127))) 1, pm 10 22 2])
  (.seq (.seq (.region [pm 23 1 0, po 24 (.lenx (.t 23)) 1, po 25 (.bin .gtr (.t 24) (.c (.i .i64 200))) 2])
  (.cond (.t 25) (.seq (.region [pm 26 9 0, pm 8 26 1])
  .ret) .skip))
  (.seq (.region [pm 27 0 0, po 28 (.call (.c (.fn (.func 11) [] [])) [(.c (.i .i64 3)), (.t 27)]) 1, pm 11 28 2])
  (.seq (.region [po 12 (.mv (.c (.i .i64 2))) 0])
  (.seq (.seq (.region [pm 29 3 0])
  (.cond (.t 29) (.region [po 12 (.mv (.c (.i .i64 1))) 0]) .skip))
  (.seq (.seq (.region [pm 30 11 0, po 31 (.call (.c (.fn (.func 12) [] [])) [(.t 30), (.c (.i .i64 0))]) 1, po 32 (.bin .neq (.t 31) (.c (.i .i64 0))) 2, pm 33 32 3, pg 34 (.mv (.t 11)) 33 false 4, pg 35 (.call (.c (.fn (.func 12) [] [])) [(.t 34), (.c (.i .i64 1))]) 33 false 5, pg 36 (.bin .neq (.t 35) (.c (.i .i64 0))) 33 false 6, po 37 (.pick (.t 33) (.c (.b true)) (.t 36)) 7, pm 38 37 8, pg 39 (.mv (.t 11)) 38 false 9, pg 40 (.mv (.t 12)) 38 false 10, ⟨(some 41), (.call (.c (.fn (.func 14) [] [])) [(.t 39), (.c (.i .i64 1)), (.c (.s ⟨#[116]⟩)), (.t 40)]), (some (38, false)), 11, []⟩, pg 42 (.bin .neq (.t 41) (.c (.i .i64 0))) 38 false 12, po 43 (.pick (.t 38) (.c (.b true)) (.t 42)) 13])
  (.cond (.t 43) (.seq (.region [po 8 (.mv (.c (.b false))) 0])
  .ret) .skip))
  (.seq (.region [po 13 (.mv (.c (.i .i64 (-1)))) 0])
  (.seq (.region [po 14 (.mv (.c (.i .i64 0))) 0])
  (.seq (.seq (.region [po 15 (.mv (.c (.i .i64 0))) 0])
  (.block 0 (.loop (.seq (.seq (.region [pm 44 15 0, pm 45 10 1, po 46 (.bin .lss (.t 44) (.t 45)) 2])
  (.cond (.t 46) .skip (.exit 0)))
  (.seq (.block 1 (.seq (.region [pm 49 11 0, pm 50 15 1, po 51 (.cint .u8 (.t 50)) 2, po 52 (.bslice [(.i .u8 0)] [(0, 1, (.t 51))] 1) 3, ⟨(some 53), (.call (.c (.fn (.func 13) [] [])) [(.t 49), (.c (.i .i64 0)), (.c (.s ⟨#[116]⟩)), (.c (.b false)), (.t 52)]), none, 4, []⟩])
  (.seq (.region [po 16 (.mv (.c (.i .i64 0))) 0])
  (.seq (.seq (.region [pm 54 15 0, pm 55 1 1, po 56 (.lenx (.t 55)) 2, po 57 (.bin .lss (.t 54) (.t 56)) 3])
  (.cond (.t 57) (.region [pm 58 1 0, pm 59 15 1, po 60 (.isl 1 (.t 58) (.t 59)) 2, po 61 (.load false 1 (.t 60)) 3, po 62 (.bin .and (.t 61) (.c (.i .i64 3))) 4, pm 16 62 5]) .skip))
  (.seq (.region [po 17 (.mv (.c (.i .i64 0))) 0])
  (.block 2 (.loop (.seq (.seq (.region [pm 63 17 0, pm 64 16 1, po 65 (.bin .lss (.t 63) (.t 64)) 2, pm 66 65 3, pg 67 (.mv (.t 15)) 66 false 4, pg 68 (.mv (.t 10)) 66 false 5, pg 69 (.bin .sub (.t 68) (.c (.i .i64 1))) 66 false 6, pg 70 (.bin .eql (.t 67) (.t 69)) 66 false 7, po 71 (.pick (.t 66) (.c (.b true)) (.t 70)) 8])
  (.cond (.t 71) .skip (.exit 2)))
  (.seq (.block 3 (.seq (.region [pm 75 11 0, po 76 (.call (.c (.fn (.func 16) [] [])) [(.t 75), (.c (.i .i64 1))]) 1, pm 74 76 2, po 77 (.ext (.t 74) 0) 3, po 78 (.ext (.t 74) 1) 4, ⟨(some 18), (.alloc zAA ), none, 5, []⟩, ⟨none, (.store 5 (.t 18) (.t 77)), none, 6, []⟩, pm 19 78 7])
  (.seq (.seq (.region [pm 79 19 0, po 80 (.unx .not (.t 79)) 1])
  (.cond (.t 80) (.exit 2) .skip))
  (.seq (.seq (.draw [po 81 (.fadd 2 (.t 18)) 0, pm 83 13 2, ⟨(some 82), (.load false 1 (.t 81)), none, 1, [0]⟩, ⟨(some 84), (.bin .leq (.t 82) (.t 83)), none, 3, [0, 1, 2]⟩, ⟨(some 85), (.mv (.t 84)), none, 4, [0, 1, 2, 3]⟩, ⟨(some 86), (.fadd 4 (.t 18)), (some (85, false)), 5, [0, 1, 2, 3, 4]⟩, ⟨(some 87), (.load false 1 (.t 86)), (some (85, false)), 6, [0, 1, 2, 3, 4, 5]⟩, ⟨(some 88), (.lenx (.t 87)), (some (85, false)), 7, [0, 1, 2, 3, 4, 5, 6]⟩, ⟨(some 89), (.bin .neq (.t 88) (.c (.i .i64 1))), (some (85, false)), 8, [0, 1, 2, 3, 4, 5, 6, 7]⟩, ⟨(some 90), (.pick (.t 85) (.c (.b true)) (.t 89)), none, 9, [0, 1, 2, 3, 4, 5, 6, 7, 8]⟩, ⟨(some 91), (.mv (.t 90)), none, 10, [0, 1, 2, 3, 4, 5, 6, 7, 8, 9]⟩, ⟨(some 92), (.fadd 4 (.t 18)), (some (91, false)), 11, [0, 1, 2, 3, 4, 5, 6, 7, 8, 9, 10]⟩, ⟨(some 96), (.fadd 2 (.t 18)), (some (91, false)), 15, [0, 1, 2, 3, 4, 5, 6, 7, 8, 9, 10]⟩, ⟨(some 93), (.load false 1 (.t 92)), (some (91, false)), 12, [0, 1, 2, 3, 4, 5, 6, 7, 8, 9, 10, 11]⟩, ⟨(some 94), (.isl 1 (.t 93) (.c (.i .i64 0))), (some (91, false)), 13, [0, 1, 2, 3, 4, 5, 6, 7, 8, 9, 10, 11, 12]⟩, ⟨(some 95), (.load false 1 (.t 94)), (some (91, false)), 14, [0, 1, 2, 3, 4, 5, 6, 7, 8, 9, 10, 11, 12, 13]⟩, ⟨(some 97), (.load false 1 (.t 96)), (some (91, false)), 16, [0, 1, 2, 3, 4, 5, 6, 7, 8, 9, 10, 15]⟩, ⟨(some 98), (.cint .u8 (.t 97)), (some (91, false)), 17, [0, 1, 2, 3, 4, 5, 6, 7, 8, 9, 10, 15, 16]⟩, ⟨(some 99), (.bin .neq (.t 95) (.t 98)), (some (91, false)), 18, [0, 1, 2, 3, 4, 5, 6, 7, 8, 9, 10, 11, 12, 13, 14, 15, 16, 17]⟩, ⟨(some 100), (.pick (.t 91) (.c (.b true)) (.t 99)), none, 19, [0, 1, 2, 3, 4, 5, 6, 7, 8, 9, 10, 11, 12, 13, 14, 15, 16, 17, 18]⟩])
  (.cond (.t 100) (.seq (.region [po 8 (.mv (.c (.b false))) 0])
  .ret) .skip))
  (.seq (.region [po 101 (.fadd 2 (.t 18)) 0, po 102 (.load false 1 (.t 101)) 1, pm 13 102 2])
  (.region [pm 103 14 0, po 104 (.bin .add (.t 103) (.c (.i .i64 1))) 1, pm 14 104 2]))))))
  (.region [pm 72 17 0, po 73 (.bin .add (.t 72) (.c (.i .i64 1))) 1, pm 17 73 2]))))))))))
  (.region [pm 47 15 0, po 48 (.bin .add (.t 47) (.c (.i .i64 1))) 1, pm 15 48 2]))))))
  (.seq (.region [pm 105 9 0, pm 106 105 1, pg 107 (.mv (.t 14)) 106 true 2, pg 108 (.mv (.t 11)) 106 true 3, pg 109 (.call (.c (.fn (.func 19) [] [])) [(.t 108), (.c (.i .i64 1))]) 106 true 4, pg 110 (.bin .add (.t 107) (.t 109)) 106 true 5, pg 111 (.mv (.t 10)) 106 true 6, pg 112 (.bin .eql (.t 110) (.t 111)) 106 true 7, po 113 (.pick (.t 106) (.t 112) (.c (.b false))) 8, pm 114 113 9, pg 115 (.mv (.t 11)) 114 true 10, ⟨(some 116), (.call (.c (.fn (.func 15) [] [])) [(.t 115), (.c (.i .i64 1)), (.c (.s ⟨#[116]⟩))]), (some (114, true)), 11, []⟩, pg 117 (.unx .not (.t 116)) 114 true 12, po 118 (.pick (.t 114) (.t 117) (.c (.b false))) 13, pm 119 118 14, pg 120 (.mv (.t 3)) 119 true 15, pg 121 (.mv (.t 120)) 119 true 16, pg 122 (.mv (.t 10)) 121 false 17, pg 123 (.bin .eql (.t 122) (.c (.i .i64 0))) 121 false 18, pg 124 (.pick (.t 121) (.c (.b true)) (.t 123)) 119 true 19, pg 125 (.mv (.t 124)) 119 true 20, pg 126 (.mv (.t 13)) 125 false 21, pg 127 (.mv (.t 10)) 125 false 22, pg 128 (.bin .sub (.t 127) (.c (.i .i64 1))) 125 false 23, pg 129 (.bin .eql (.t 126) (.t 128)) 125 false 24, pg 130 (.pick (.t 125) (.c (.b true)) (.t 129)) 119 true 25, po 131 (.pick (.t 119) (.t 130) (.c (.b false))) 26, pm 8 131 27])
  .ret))))))))))))
def x5 : XFun := ⟨x5b, [(.t 8)]⟩
theorem x5_ok : compF Try.prog 5 = some x5 := by kernel_rfl
/-- bollard/bollardlaw19.TopicOnly (136) -/
def x6b : XC := (.seq (.region [po 6 (.mv (.c (.b false))) 0])
  (.seq (.region [po 16 (.call (.c (.fn (.func 10) [] [])) []) 0, pm 7 16 1])
  (.seq (.seq (.region [pm 17 0 0, pm 18 1 1, po 19 (.bin .eql (.t 17) (.t 18)) 2, pm 20 19 3, pg 21 (.mv (.t 0)) 20 false 4, ⟨(some 22), (.bin .eql (.t 21) (.c (.s ⟨#[]⟩))), (some (20, false)), 5, []⟩, po 23 (.pick (.t 20) (.c (.b true)) (.t 22)) 6, pm 24 23 7, pg 25 (.mv (.t 1)) 24 false 8, ⟨(some 26), (.bin .eql (.t 25) (.c (.s ⟨#[]⟩))), (some (24, false)), 9, []⟩, po 27 (.pick (.t 24) (.c (.b true)) (.t 26)) 10, pm 28 27 11, pg 29 (.mv (.t 0)) 28 false 12, pg 30 (.lens (.t 29)) 28 false 13, pg 31 (.bin .gtr (.t 30) (.c (.i .i64 256))) 28 false 14, po 32 (.pick (.t 28) (.c (.b true)) (.t 31)) 15, pm 33 32 16, pg 34 (.mv (.t 1)) 33 false 17, pg 35 (.lens (.t 34)) 33 false 18, pg 36 (.bin .gtr (.t 35) (.c (.i .i64 256))) 33 false 19, po 37 (.pick (.t 33) (.c (.b true)) (.t 36)) 20, pm 38 37 21, pg 39 (.mv (.t 2)) 38 false 22, pg 40 (.lenx (.t 39)) 38 false 23, pg 41 (.bin .gtr (.t 40) (.c (.i .i64 1000))) 38 false 24, po 42 (.pick (.t 38) (.c (.b true)) (.t 41)) 25])
  (.cond (.t 42) (.seq (.region [pm 43 7 0, pm 6 43 1])
  .ret) .skip))
  (.seq (.region [po 44 (.call (.c (.fn (.func 11) [] [])) [(.c (.i .i64 5)), (.c (.i .i64 9))]) 0, pm 8 44 1])
  (.seq (.seq (.region [po 9 (.mv (.c (.i .i64 0))) 0])
  (.block 0 (.loop (.seq (.seq (.region [pm 45 9 0, po 46 (.bin .lss (.t 45) (.c (.i .i64 5))) 1])
  (.cond (.t 46) .skip (.exit 0)))
  (.seq (.block 1 (.seq (.region [pm 49 8 0, pm 50 9 1, po 51 (.call (.c (.fn (.func 12) [] [])) [(.t 49), (.t 50)]) 2, po 52 (.bin .neq (.t 51) (.c (.i .i64 0))) 3])
  (.cond (.t 52) (.seq (.region [po 6 (.mv (.c (.b false))) 0])
  .ret) .skip)))
  (.region [pm 47 9 0, po 48 (.bin .add (.t 47) (.c (.i .i64 1))) 1, pm 9 48 2]))))))
  (.seq (.region [pm 53 8 0, pm 54 0 1, po 55 (.call (.c (.fn (.func 14) [] [])) [(.t 53), (.c (.i .i64 0)), (.t 54), (.c (.i .i64 0))]) 2])
  (.seq (.region [pm 56 8 0, pm 57 1 1, po 58 (.call (.c (.fn (.func 14) [] [])) [(.t 56), (.c (.i .i64 1)), (.t 57), (.c (.i .i64 0))]) 2])
  (.seq (.region [pm 59 8 0, pm 60 0 1, po 61 (.call (.c (.fn (.func 14) [] [])) [(.t 59), (.c (.i .i64 2)), (.t 60), (.c (.i .i64 0))]) 2])
  (.seq (.region [pm 62 8 0, pm 63 0 1, po 64 (.call (.c (.fn (.func 20) [] [])) [(.t 62), (.c (.i .i64 2)), (.t 63)]) 2, pm 10 64 3])
  (.seq (.region [pm 65 8 0, pm 66 0 1, po 67 (.call (.c (.fn (.func 14) [] [])) [(.t 65), (.c (.i .i64 3)), (.t 66), (.c (.i .i64 0))]) 2])
  (.seq (.region [pm 68 8 0, po 69 (.call (.c (.fn (.func 21) [] [])) [(.t 68), (.c (.i .i64 3))]) 1, pm 11 69 2])
  (.seq (.region [pm 70 8 0, pm 71 0 1, po 72 (.call (.c (.fn (.func 14) [] [])) [(.t 70), (.c (.i .i64 4)), (.t 71), (.c (.i .i64 2))]) 2])
  (.seq (.region [pm 74 8 0, pm 75 0 1, pm 76 2 2, po 77 (.call (.c (.fn (.func 13) [] [])) [(.t 74), (.c (.i .i64 0)), (.t 75), (.c (.b true)), (.t 76)]) 3, pm 73 77 4, po 78 (.ext (.t 73) 0) 5, po 79 (.ext (.t 73) 1) 6, pm 12 78 7, pm 13 79 8])
  (.seq (.region [pm 81 8 0, po 82 (.call (.c (.fn (.func 16) [] [])) [(.t 81), (.c (.i .i64 4))]) 1, pm 80 82 2, po 83 (.ext (.t 80) 0) 3, po 84 (.ext (.t 80) 1) 4, ⟨(some 14), (.alloc zAA ), none, 5, []⟩, ⟨none, (.store 5 (.t 14) (.t 83)), none, 6, []⟩, pm 15 84 7])
  (.seq (.region [pm 85 7 0, pm 86 85 1, pg 87 (.mv (.t 10)) 86 true 2, pg 88 (.bin .eql (.t 87) (.c (.i .i64 0))) 86 true 3, po 89 (.pick (.t 86) (.t 88) (.c (.b false))) 4, pm 90 89 5, pg 91 (.mv (.t 11)) 90 true 6, pg 92 (.bin .eql (.t 91) (.c (.i .i64 0))) 90 true 7, po 93 (.pick (.t 90) (.t 92) (.c (.b false))) 8, pm 94 93 9, pg 95 (.mv (.t 12)) 94 true 10, pg 96 (.bin .eql (.t 95) (.c (.i .i64 1))) 94 true 11, po 97 (.pick (.t 94) (.t 96) (.c (.b false))) 12, pm 98 97 13, pg 99 (.mv (.t 13)) 98 true 14, pg 100 (.bin .eql (.t 99) (.c (.i .i64 0))) 98 true 15, po 101 (.pick (.t 98) (.t 100) (.c (.b false))) 16, pm 102 101 17, pg 103 (.mv (.t 15)) 102 true 18, po 104 (.pick (.t 102) (.t 103) (.c (.b false))) 19, pm 105 104 20, pg 106 (.fadd 0 (.t 14)) 105 true 21, pg 107 (.load false 1 (.t 106)) 105 true 22, pg 108 (.mv (.t 0)) 105 true 23, pg 109 (.bin .eql (.t 107) (.t 108)) 105 true 24, po 110 (.pick (.t 105) (.t 109) (.c (.b false))) 25, pm 111 110 26, pg 112 (.fadd 4 (.t 14)) 111 true 27, pg 113 (.load false 1 (.t 112)) 111 true 28, pg 114 (.cb2s (.t 113)) 111 true 29, pg 115 (.mv (.t 2)) 111 true 30, pg 116 (.cb2s (.t 115)) 111 true 31, pg 117 (.bin .eql (.t 114) (.t 116)) 111 true 32, po 118 (.pick (.t 111) (.t 117) (.c (.b false))) 33, pm 119 118 34, pg 120 (.mv (.t 8)) 119 true 35, pg 121 (.call (.c (.fn (.func 18) [] [])) [(.t 120), (.c (.i .i64 0))]) 119 true 36, pg 122 (.mv (.t 8)) 119 true 37, pg 123 (.call (.c (.fn (.func 18) [] [])) [(.t 122), (.c (.i .i64 1))]) 119 true 38, pg 124 (.bin .add (.t 121) (.t 123)) 119 true 39, pg 125 (.mv (.t 8)) 119 true 40, pg 126 (.call (.c (.fn (.func 18) [] [])) [(.t 125), (.c (.i .i64 2))]) 119 true 41, pg 127 (.bin .add (.t 124) (.t 126)) 119 true 42, pg 128 (.mv (.t 8)) 119 true 43, pg 129 (.call (.c (.fn (.func 18) [] [])) [(.t 128), (.c (.i .i64 3))]) 119 true 44, pg 130 (.bin .add (.t 127) (.t 129)) 119 true 45, pg 131 (.mv (.t 8)) 119 true 46, pg 132 (.call (.c (.fn (.func 18) [] [])) [(.t 131), (.c (.i .i64 4))]) 119 true 47, pg 133 (.bin .add (.t 130) (.t 132)) 119 true 48, pg 134 (.bin .eql (.t 133) (.c (.i .i64 0))) 119 true 49, po 135 (.pick (.t 119) (.t 134) (.c (.b false))) 50, pm 6 135 51])
  .ret)))))))))))))))
def x6 : XFun := ⟨x6b, [(.t 6)]⟩
theorem x6_ok : compF Try.prog 6 = some x6 := by kernel_rfl
/-- bollard/bollardlaw19.TopicBounds (163) -/
def x7b : XC := (.seq (.region [po 4 (.mv (.c (.b false))) 0])
  (.seq (.region [po 12 (.call (.c (.fn (.func 10) [] [])) []) 0, pm 5 12 1])
  (.seq (.seq (.region [pm 13 1 0, po 14 (.call (.c (.fn (.func 22) [] [])) [(.t 13)]) 1, po 15 (.unx .not (.t 14)) 2])
  (.cond (.t 15) (.seq (.region [pm 16 5 0, pm 4 16 1])
  .ret) .skip))
  (.seq (.region [pm 17 0 0, po 18 (.call (.c (.fn (.func 11) [] [])) [(.c (.i .i64 4)), (.t 17)]) 1, pm 6 18 2])
  (.seq (.region [pm 19 0 0, pm 7 19 1])
  (.seq (.seq (.region [pm 20 7 0, po 21 (.bin .lss (.t 20) (.c (.i .i64 1))) 1, pm 22 21 2, pg 23 (.mv (.t 7)) 22 false 3, pg 24 (.bin .gtr (.t 23) (.c (.i .i64 64))) 22 false 4, po 25 (.pick (.t 22) (.c (.b true)) (.t 24)) 5])
  (.cond (.t 25) (.region [po 7 (.mv (.c (.i .i64 64))) 0]) .skip))
  (.seq (.seq (.region [po 8 (.mv (.c (.i .i64 0))) 0])
  (.block 0 (.loop (.seq (.seq (.region [pm 26 8 0, pm 27 1 1, po 28 (.lenx (.t 27)) 2, po 29 (.bin .lss (.t 26) (.t 28)) 3])
  (.cond (.t 29) .skip (.exit 0)))
  (.seq (.block 1 (.seq (.seq (.region [pm 32 1 0, pm 33 8 1, po 34 (.isl 6 (.t 32) (.t 33)) 2, po 35 (.fadd 0 (.t 34)) 3, po 36 (.load false 1 (.t 35)) 4])
  (.block 2 (.seq (.region [po 45 (.bin .eql (.t 36) (.c (.i .i64 0))) 0, pm 44 45 1])
  (.cond (.t 44) (.region [pm 46 6 0, pm 47 1 1, pm 48 8 2, po 49 (.isl 6 (.t 47) (.t 48)) 3, po 50 (.fadd 1 (.t 49)) 4, po 51 (.load false 1 (.t 50)) 5, po 52 (.call (.c (.fn (.func 12) [] [])) [(.t 46), (.t 51)]) 6]) (.seq (.region [po 54 (.bin .eql (.t 36) (.c (.i .i64 1))) 0, pm 53 54 1])
  (.cond (.t 53) (.seq (.region [pm 55 6 0, pm 56 1 1, pm 57 8 2, po 58 (.isl 6 (.t 56) (.t 57)) 3, po 59 (.fadd 1 (.t 58)) 4, po 60 (.load false 1 (.t 59)) 5, po 61 (.call (.c (.fn (.func 21) [] [])) [(.t 55), (.t 60)]) 6, po 62 (.bin .eql (.t 61) (.c (.i .i64 0))) 7, pm 63 62 8, pg 64 (.mv (.t 6)) 63 true 9, pg 65 (.mv (.t 1)) 63 true 10, pg 66 (.mv (.t 8)) 63 true 11, pg 67 (.isl 6 (.t 65) (.t 66)) 63 true 12, pg 68 (.fadd 1 (.t 67)) 63 true 13, pg 69 (.load false 1 (.t 68)) 63 true 14, pg 70 (.call (.c (.fn (.func 18) [] [])) [(.t 64), (.t 69)]) 63 true 15, pg 71 (.bin .neq (.t 70) (.c (.i .i64 0))) 63 true 16, po 72 (.pick (.t 63) (.t 71) (.c (.b false))) 17])
  (.cond (.t 72) (.seq (.region [po 4 (.mv (.c (.b false))) 0])
  .ret) .skip)) (.seq (.region [po 74 (.bin .eql (.t 36) (.c (.i .i64 2))) 0, pm 73 74 1])
  (.cond (.t 73) (.draw [pm 75 6 0, pm 76 1 1, pm 77 8 2, ⟨(some 78), (.isl 6 (.t 76) (.t 77)), none, 3, [1, 2]⟩, ⟨(some 79), (.fadd 1 (.t 78)), none, 4, [1, 2, 3]⟩, pm 81 1 6, pm 82 8 7, ⟨(some 83), (.isl 6 (.t 81) (.t 82)), none, 8, [6, 7]⟩, ⟨(some 84), (.fadd 3 (.t 83)), none, 9, [6, 7, 8]⟩, pm 86 1 11, pm 87 8 12, ⟨(some 88), (.isl 6 (.t 86) (.t 87)), none, 13, [11, 12]⟩, ⟨(some 89), (.fadd 2 (.t 88)), none, 14, [11, 12, 13]⟩, ⟨(some 80), (.load false 1 (.t 79)), none, 5, [1, 2, 3, 4]⟩, ⟨(some 85), (.load false 1 (.t 84)), none, 10, [6, 7, 8, 9]⟩, ⟨(some 90), (.load false 1 (.t 89)), none, 15, [11, 12, 13, 14]⟩, ⟨(some 91), (.call (.c (.fn (.func 14) [] [])) [(.t 75), (.t 80), (.t 85), (.t 90)]), none, 16, [0, 1, 2, 3, 4, 5, 6, 7, 8, 9, 10, 11, 12, 13, 14, 15]⟩]) (.seq (.region [po 93 (.bin .eql (.t 36) (.c (.i .i64 3))) 0, pm 92 93 1])
  (.cond (.t 92) (.draw [pm 94 6 0, pm 95 1 1, pm 96 8 2, ⟨(some 97), (.isl 6 (.t 95) (.t 96)), none, 3, [1, 2]⟩, ⟨(some 98), (.fadd 1 (.t 97)), none, 4, [1, 2, 3]⟩, pm 100 1 6, pm 101 8 7, ⟨(some 102), (.isl 6 (.t 100) (.t 101)), none, 8, [6, 7]⟩, ⟨(some 103), (.fadd 3 (.t 102)), none, 9, [6, 7, 8]⟩, ⟨(some 99), (.load false 1 (.t 98)), none, 5, [1, 2, 3, 4]⟩, ⟨(some 104), (.load false 1 (.t 103)), none, 10, [6, 7, 8, 9]⟩, ⟨(some 105), (.call (.c (.fn (.func 20) [] [])) [(.t 94), (.t 99), (.t 104)]), none, 11, [0, 1, 2, 3, 4, 5, 6, 7, 8, 9, 10]⟩]) (.seq (.region [po 107 (.bin .eql (.t 36) (.c (.i .i64 4))) 0, pm 106 107 1])
  (.cond (.t 106) (.seq (.draw [pm 109 6 0, pm 110 1 1, pm 111 8 2, ⟨(some 112), (.isl 6 (.t 110) (.t 111)), none, 3, [1, 2]⟩, ⟨(some 113), (.fadd 1 (.t 112)), none, 4, [1, 2, 3]⟩, pm 115 1 6, pm 116 8 7, ⟨(some 117), (.isl 6 (.t 115) (.t 116)), none, 8, [6, 7]⟩, ⟨(some 118), (.fadd 3 (.t 117)), none, 9, [6, 7, 8]⟩, pm 120 1 11, pm 121 8 12, ⟨(some 122), (.isl 6 (.t 120) (.t 121)), none, 13, [11, 12]⟩, ⟨(some 123), (.fadd 4 (.t 122)), none, 14, [11, 12, 13]⟩, pm 125 1 16, pm 126 8 17, ⟨(some 127), (.isl 6 (.t 125) (.t 126)), none, 18, [16, 17]⟩, ⟨(some 128), (.fadd 5 (.t 127)), none, 19, [16, 17, 18]⟩, ⟨(some 114), (.load false 1 (.t 113)), none, 5, [1, 2, 3, 4]⟩, ⟨(some 119), (.load false 1 (.t 118)), none, 10, [6, 7, 8, 9]⟩, ⟨(some 124), (.load false 1 (.t 123)), none, 15, [11, 12, 13, 14]⟩, ⟨(some 129), (.load false 1 (.t 128)), none, 20, [16, 17, 18, 19]⟩, ⟨(some 130), (.call (.c (.fn (.func 13) [] [])) [(.t 109), (.t 114), (.t 119), (.t 124), (.t 129)]), none, 21, [0, 1, 2, 3, 4, 5, 6, 7, 8, 9, 10, 11, 12, 13, 14, 15, 16, 17, 18, 19, 20]⟩, ⟨(some 108), (.mv (.t 130)), none, 22, [0, 1, 2, 3, 4, 5, 6, 7, 8, 9, 10, 11, 12, 13, 14, 15, 16, 17, 18, 19, 20, 21]⟩, ⟨(some 131), (.ext (.t 108) 0), none, 23, [0, 1, 2, 3, 4, 5, 6, 7, 8, 9, 10, 11, 12, 13, 14, 15, 16, 17, 18, 19, 20, 21, 22]⟩, ⟨(some 132), (.ext (.t 108) 1), none, 24, [0, 1, 2, 3, 4, 5, 6, 7, 8, 9, 10, 11, 12, 13, 14, 15, 16, 17, 18, 19, 20, 21, 22]⟩, ⟨(some 9), (.mv (.t 131)), none, 25, [0, 1, 2, 3, 4, 5, 6, 7, 8, 9, 10, 11, 12, 13, 14, 15, 16, 17, 18, 19, 20, 21, 22, 23]⟩, ⟨(some 10), (.mv (.t 132)), none, 26, [0, 1, 2, 3, 4, 5, 6, 7, 8, 9, 10, 11, 12, 13, 14, 15, 16, 17, 18, 19, 20, 21, 22, 23, 24, 25]⟩])
  (.seq (.region [pm 133 9 0, po 134 (.bin .lss (.t 133) (.c (.i .i64 0))) 1, pm 135 134 2, pg 136 (.mv (.t 9)) 135 false 3, pg 137 (.bin .gtr (.t 136) (.c (.i .i64 3))) 135 false 4, po 138 (.pick (.t 135) (.c (.b true)) (.t 137)) 5, pm 139 138 6, pg 140 (.mv (.t 10)) 139 false 7, pg 141 (.bin .neq (.t 140) (.c (.i .i64 0))) 139 false 8, pg 142 (.mv (.t 141)) 139 false 9, pg 143 (.mv (.t 9)) 142 true 10, pg 144 (.bin .gtr (.t 143) (.c (.i .i64 0))) 142 true 11, pg 145 (.pick (.t 142) (.t 144) (.c (.b false))) 139 false 12, po 146 (.pick (.t 139) (.c (.b true)) (.t 145)) 13])
  (.cond (.t 146) (.seq (.region [po 4 (.mv (.c (.b false))) 0])
  .ret) .skip))) (.region [pm 37 6 0, pm 38 1 1, pm 39 8 2, po 40 (.isl 6 (.t 38) (.t 39)) 3, po 41 (.fadd 1 (.t 40)) 4, po 42 (.load false 1 (.t 41)) 5, po 43 (.call (.c (.fn (.func 16) [] [])) [(.t 37), (.t 42)]) 6])))))))))))))
  (.seq (.region [po 11 (.mv (.c (.i .i64 0))) 0])
  (.block 3 (.loop (.seq (.seq (.region [pm 147 11 0, po 148 (.bin .lss (.t 147) (.c (.i .i64 4))) 1])
  (.cond (.t 148) .skip (.exit 3)))
  (.seq (.block 4 (.seq (.region [pm 151 6 0, pm 152 11 1, po 153 (.call (.c (.fn (.func 18) [] [])) [(.t 151), (.t 152)]) 2, pm 154 7 3, po 155 (.bin .gtr (.t 153) (.t 154)) 4, pm 156 155 5, pg 157 (.mv (.t 6)) 156 false 6, pg 158 (.mv (.t 11)) 156 false 7, pg 159 (.call (.c (.fn (.func 19) [] [])) [(.t 157), (.t 158)]) 156 false 8, pg 160 (.bin .lss (.t 159) (.c (.i .i64 0))) 156 false 9, po 161 (.pick (.t 156) (.c (.b true)) (.t 160)) 10])
  (.cond (.t 161) (.seq (.region [po 4 (.mv (.c (.b false))) 0])
  .ret) .skip)))
  (.region [pm 149 11 0, po 150 (.bin .add (.t 149) (.c (.i .i64 1))) 1, pm 11 150 2]))))))))
  (.region [pm 30 8 0, po 31 (.bin .add (.t 30) (.c (.i .i64 1))) 1, pm 8 31 2]))))))
  (.seq (.region [pm 162 5 0, pm 4 162 1])
  .ret))))))))
def x7 : XFun := ⟨x7b, [(.t 4)]⟩
theorem x7_ok : compF Try.prog 7 = some x7 := by kernel_rfl
/-- bollard/bollardlaw19.TopicPlays (112) -/
def x8b : XC := (.seq (.region [po 6 (.mv (.c (.b false))) 0])
  (.seq (.region [po 12 (.call (.c (.fn (.func 10) [] [])) []) 0, pm 7 12 1])
  (.seq (.seq (.region [pm 13 2 0, po 14 (.call (.c (.fn (.func 22) [] [])) [(.t 13)]) 1, po 15 (.unx .not (.t 14)) 2])
  (.cond (.t 15) (.seq (.region [pm 16 7 0, pm 6 16 1])
  .ret) .skip))
  (.seq (.region [pm 17 0 0, pm 18 1 1, po 19 (.call (.c (.fn (.func 11) [] [])) [(.t 17), (.t 18)]) 2, pm 8 19 3])
  (.seq (.region [pm 20 0 0, pm 21 1 1, po 22 (.call (.c (.fn (.func 23) [] [])) [(.t 20), (.t 21)]) 2, pm 9 22 3])
  (.seq (.seq (.region [po 10 (.mv (.c (.i .i64 0))) 0])
  (.block 0 (.loop (.seq (.seq (.region [pm 23 10 0, pm 24 2 1, po 25 (.lenx (.t 24)) 2, po 26 (.bin .lss (.t 23) (.t 25)) 3])
  (.cond (.t 26) .skip (.exit 0)))
  (.seq (.block 1 (.seq (.seq (.region [pm 29 8 0, pm 30 9 1, pm 31 2 2, pm 32 10 3, po 33 (.isl 6 (.t 31) (.t 32)) 4, po 34 (.load true 6 (.t 33)) 5, po 35 (.call (.c (.fn (.func 24) [] [])) [(.t 29), (.t 30), (.t 34)]) 6, po 36 (.unx .not (.t 35)) 7])
  (.cond (.t 36) (.seq (.region [po 6 (.mv (.c (.b false))) 0])
  .ret) .skip))
  (.seq (.region [pm 37 9 0, pm 38 2 1, pm 39 10 2, po 40 (.isl 6 (.t 38) (.t 39)) 3, po 41 (.fadd 1 (.t 40)) 4, po 42 (.load false 1 (.t 41)) 5, po 43 (.call (.c (.fn (.func 25) [] [])) [(.t 37), (.t 42)]) 6, po 11 (.alloc zAB ) 7, ⟨none, (.store 4 (.t 11) (.t 43)), none, 8, []⟩])
  (.seq (.draw [pm 44 8 0, pm 45 2 1, pm 46 10 2, ⟨(some 47), (.isl 6 (.t 45) (.t 46)), none, 3, [1, 2]⟩, ⟨(some 48), (.fadd 1 (.t 47)), none, 4, [1, 2, 3]⟩, pm 50 2 6, pm 51 10 7, ⟨(some 52), (.isl 6 (.t 50) (.t 51)), none, 8, [6, 7]⟩, ⟨(some 53), (.fadd 3 (.t 52)), none, 9, [6, 7, 8]⟩, pm 56 9 12, pm 57 2 13, pm 58 10 14, ⟨(some 59), (.isl 6 (.t 57) (.t 58)), none, 15, [13, 14]⟩, ⟨(some 60), (.fadd 1 (.t 59)), none, 16, [13, 14, 15]⟩, pm 62 2 18, pm 63 10 19, ⟨(some 64), (.isl 6 (.t 62) (.t 63)), none, 20, [18, 19]⟩, ⟨(some 65), (.fadd 3 (.t 64)), none, 21, [18, 19, 20]⟩, ⟨(some 49), (.load false 1 (.t 48)), none, 5, [1, 2, 3, 4]⟩, ⟨(some 54), (.load false 1 (.t 53)), none, 10, [6, 7, 8, 9]⟩, ⟨(some 61), (.load false 1 (.t 60)), none, 17, [13, 14, 15, 16]⟩, ⟨(some 66), (.load false 1 (.t 65)), none, 22, [18, 19, 20, 21]⟩, ⟨(some 55), (.call (.c (.fn (.func 15) [] [])) [(.t 44), (.t 49), (.t 54)]), none, 11, [0, 1, 2, 3, 4, 5, 6, 7, 8, 9, 10]⟩, ⟨(some 67), (.call (.c (.fn (.func 26) [] [])) [(.t 56), (.t 61), (.t 66)]), none, 23, [0, 1, 2, 3, 4, 5, 6, 7, 8, 9, 10, 11, 12, 13, 14, 15, 16, 17, 18, 19, 20, 21, 22]⟩, ⟨(some 68), (.beq true (.t 55) (.t 67)), none, 24, [0, 1, 2, 3, 4, 5, 6, 7, 8, 9, 10, 11, 12, 13, 14, 15, 16, 17, 18, 19, 20, 21, 22, 23]⟩, ⟨(some 69), (.mv (.t 68)), none, 25, [0, 1, 2, 3, 4, 5, 6, 7, 8, 9, 10, 11, 12, 13, 14, 15, 16, 17, 18, 19, 20, 21, 22, 23, 24]⟩, ⟨(some 70), (.mv (.t 8)), (some (69, false)), 26, [0, 1, 2, 3, 4, 5, 6, 7, 8, 9, 10, 11, 12, 13, 14, 15, 16, 17, 18, 19, 20, 21, 22, 23, 24, 25]⟩, ⟨(some 71), (.mv (.t 2)), (some (69, false)), 27, [0, 1, 2, 3, 4, 5, 6, 7, 8, 9, 10, 11, 12, 13, 14, 15, 16, 17, 18, 19, 20, 21, 22, 23, 24, 25]⟩, ⟨(some 72), (.mv (.t 10)), (some (69, false)), 28, [0, 1, 2, 3, 4, 5, 6, 7, 8, 9, 10, 11, 12, 13, 14, 15, 16, 17, 18, 19, 20, 21, 22, 23, 24, 25]⟩, ⟨(some 73), (.isl 6 (.t 71) (.t 72)), (some (69, false)), 29, [0, 1, 2, 3, 4, 5, 6, 7, 8, 9, 10, 11, 12, 13, 14, 15, 16, 17, 18, 19, 20, 21, 22, 23, 24, 25, 27, 28]⟩, ⟨(some 74), (.fadd 1 (.t 73)), (some (69, false)), 30, [0, 1, 2, 3, 4, 5, 6, 7, 8, 9, 10, 11, 12, 13, 14, 15, 16, 17, 18, 19, 20, 21, 22, 23, 24, 25, 27, 28, 29]⟩, ⟨(some 77), (.fadd 3 (.t 11)), (some (69, false)), 33, [0, 1, 2, 3, 4, 5, 6, 7, 8, 9, 10, 11, 12, 13, 14, 15, 16, 17, 18, 19, 20, 21, 22, 23, 24, 25]⟩, ⟨(some 75), (.load false 1 (.t 74)), (some (69, false)), 31, [0, 1, 2, 3, 4, 5, 6, 7, 8, 9, 10, 11, 12, 13, 14, 15, 16, 17, 18, 19, 20, 21, 22, 23, 24, 25, 27, 28, 29, 30]⟩, ⟨(some 78), (.load false 1 (.t 77)), (some (69, false)), 34, [0, 1, 2, 3, 4, 5, 6, 7, 8, 9, 10, 11, 12, 13, 14, 15, 16, 17, 18, 19, 20, 21, 22, 23, 24, 25, 33]⟩, ⟨(some 76), (.call (.c (.fn (.func 19) [] [])) [(.t 70), (.t 75)]), (some (69, false)), 32, [0, 1, 2, 3, 4, 5, 6, 7, 8, 9, 10, 11, 12, 13, 14, 15, 16, 17, 18, 19, 20, 21, 22, 23, 24, 25, 26, 27, 28, 29, 30, 31]⟩, ⟨(some 79), (.bin .neq (.t 76) (.t 78)), (some (69, false)), 35, [0, 1, 2, 3, 4, 5, 6, 7, 8, 9, 10, 11, 12, 13, 14, 15, 16, 17, 18, 19, 20, 21, 22, 23, 24, 25, 26, 27, 28, 29, 30, 31, 32, 33, 34]⟩, ⟨(some 80), (.pick (.t 69) (.c (.b true)) (.t 79)), none, 36, [0, 1, 2, 3, 4, 5, 6, 7, 8, 9, 10, 11, 12, 13, 14, 15, 16, 17, 18, 19, 20, 21, 22, 23, 24, 25, 26, 27, 28, 29, 30, 31, 32, 33, 34, 35]⟩, ⟨(some 81), (.mv (.t 80)), none, 37, [0, 1, 2, 3, 4, 5, 6, 7, 8, 9, 10, 11, 12, 13, 14, 15, 16, 17, 18, 19, 20, 21, 22, 23, 24, 25, 26, 27, 28, 29, 30, 31, 32, 33, 34, 35, 36]⟩, ⟨(some 82), (.mv (.t 8)), (some (81, false)), 38, [0, 1, 2, 3, 4, 5, 6, 7, 8, 9, 10, 11, 12, 13, 14, 15, 16, 17, 18, 19, 20, 21, 22, 23, 24, 25, 26, 27, 28, 29, 30, 31, 32, 33, 34, 35, 36, 37]⟩, ⟨(some 83), (.mv (.t 2)), (some (81, false)), 39, [0, 1, 2, 3, 4, 5, 6, 7, 8, 9, 10, 11, 12, 13, 14, 15, 16, 17, 18, 19, 20, 21, 22, 23, 24, 25, 26, 27, 28, 29, 30, 31, 32, 33, 34, 35, 36, 37]⟩, ⟨(some 84), (.mv (.t 10)), (some (81, false)), 40, [0, 1, 2, 3, 4, 5, 6, 7, 8, 9, 10, 11, 12, 13, 14, 15, 16, 17, 18, 19, 20, 21, 22, 23, 24, 25, 26, 27, 28, 29, 30, 31, 32, 33, 34, 35, 36, 37]⟩, ⟨(some 85), (.isl 6 (.t 83) (.t 84)), (some (81, false)), 41, [0, 1, 2, 3, 4, 5, 6, 7, 8, 9, 10, 11, 12, 13, 14, 15, 16, 17, 18, 19, 20, 21, 22, 23, 24, 25, 26, 27, 28, 29, 30, 31, 32, 33, 34, 35, 36, 37, 39, 40]⟩, ⟨(some 86), (.fadd 1 (.t 85)), (some (81, false)), 42, [0, 1, 2, 3, 4, 5, 6, 7, 8, 9, 10, 11, 12, 13, 14, 15, 16, 17, 18, 19, 20, 21, 22, 23, 24, 25, 26, 27, 28, 29, 30, 31, 32, 33, 34, 35, 36, 37, 39, 40, 41]⟩, ⟨(some 89), (.fadd 2 (.t 11)), (some (81, false)), 45, [0, 1, 2, 3, 4, 5, 6, 7, 8, 9, 10, 11, 12, 13, 14, 15, 16, 17, 18, 19, 20, 21, 22, 23, 24, 25, 26, 27, 28, 29, 30, 31, 32, 33, 34, 35, 36, 37]⟩, ⟨(some 87), (.load false 1 (.t 86)), (some (81, false)), 43, [0, 1, 2, 3, 4, 5, 6, 7, 8, 9, 10, 11, 12, 13, 14, 15, 16, 17, 18, 19, 20, 21, 22, 23, 24, 25, 26, 27, 28, 29, 30, 31, 32, 33, 34, 35, 36, 37, 39, 40, 41, 42]⟩, ⟨(some 90), (.load false 1 (.t 89)), (some (81, false)), 46, [0, 1, 2, 3, 4, 5, 6, 7, 8, 9, 10, 11, 12, 13, 14, 15, 16, 17, 18, 19, 20, 21, 22, 23, 24, 25, 26, 27, 28, 29, 30, 31, 32, 33, 34, 35, 36, 37, 45]⟩, ⟨(some 91), (.lenx (.t 90)), (some (81, false)), 47, [0, 1, 2, 3, 4, 5, 6, 7, 8, 9, 10, 11, 12, 13, 14, 15, 16, 17, 18, 19, 20, 21, 22, 23, 24, 25, 26, 27, 28, 29, 30, 31, 32, 33, 34, 35, 36, 37, 45, 46]⟩, ⟨(some 88), (.call (.c (.fn (.func 18) [] [])) [(.t 82), (.t 87)]), (some (81, false)), 44, [0, 1, 2, 3, 4, 5, 6, 7, 8, 9, 10, 11, 12, 13, 14, 15, 16, 17, 18, 19, 20, 21, 22, 23, 24, 25, 26, 27, 28, 29, 30, 31, 32, 33, 34, 35, 36, 37, 38, 39, 40, 41, 42, 43]⟩, ⟨(some 92), (.bin .neq (.t 88) (.t 91)), (some (81, false)), 48, [0, 1, 2, 3, 4, 5, 6, 7, 8, 9, 10, 11, 12, 13, 14, 15, 16, 17, 18, 19, 20, 21, 22, 23, 24, 25, 26, 27, 28, 29, 30, 31, 32, 33, 34, 35, 36, 37, 38, 39, 40, 41, 42, 43, 44, 45, 46, 47]⟩, ⟨(some 93), (.pick (.t 81) (.c (.b true)) (.t 92)), none, 49, [0, 1, 2, 3, 4, 5, 6, 7, 8, 9, 10, 11, 12, 13, 14, 15, 16, 17, 18, 19, 20, 21, 22, 23, 24, 25, 26, 27, 28, 29, 30, 31, 32, 33, 34, 35, 36, 37, 38, 39, 40, 41, 42, 43, 44, 45, 46, 47, 48]⟩, ⟨(some 94), (.mv (.t 93)), none, 50, [0, 1, 2, 3, 4, 5, 6, 7, 8, 9, 10, 11, 12, 13, 14, 15, 16, 17, 18, 19, 20, 21, 22, 23, 24, 25, 26, 27, 28, 29, 30, 31, 32, 33, 34, 35, 36, 37, 38, 39, 40, 41, 42, 43, 44, 45, 46, 47, 48, 49]⟩, ⟨(some 95), (.mv (.t 8)), (some (94, false)), 51, [0, 1, 2, 3, 4, 5, 6, 7, 8, 9, 10, 11, 12, 13, 14, 15, 16, 17, 18, 19, 20, 21, 22, 23, 24, 25, 26, 27, 28, 29, 30, 31, 32, 33, 34, 35, 36, 37, 38, 39, 40, 41, 42, 43, 44, 45, 46, 47, 48, 49, 50]⟩, ⟨(some 96), (.mv (.t 2)), (some (94, false)), 52, [0, 1, 2, 3, 4, 5, 6, 7, 8, 9, 10, 11, 12, 13, 14, 15, 16, 17, 18, 19, 20, 21, 22, 23, 24, 25, 26, 27, 28, 29, 30, 31, 32, 33, 34, 35, 36, 37, 38, 39, 40, 41, 42, 43, 44, 45, 46, 47, 48, 49, 50]⟩, ⟨(some 97), (.mv (.t 10)), (some (94, false)), 53, [0, 1, 2, 3, 4, 5, 6, 7, 8, 9, 10, 11, 12, 13, 14, 15, 16, 17, 18, 19, 20, 21, 22, 23, 24, 25, 26, 27, 28, 29, 30, 31, 32, 33, 34, 35, 36, 37, 38, 39, 40, 41, 42, 43, 44, 45, 46, 47, 48, 49, 50]⟩, ⟨(some 98), (.isl 6 (.t 96) (.t 97)), (some (94, false)), 54, [0, 1, 2, 3, 4, 5, 6, 7, 8, 9, 10, 11, 12, 13, 14, 15, 16, 17, 18, 19, 20, 21, 22, 23, 24, 25, 26, 27, 28, 29, 30, 31, 32, 33, 34, 35, 36, 37, 38, 39, 40, 41, 42, 43, 44, 45, 46, 47, 48, 49, 50, 52, 53]⟩, ⟨(some 99), (.fadd 3 (.t 98)), (some (94, false)), 55, [0, 1, 2, 3, 4, 5, 6, 7, 8, 9, 10, 11, 12, 13, 14, 15, 16, 17, 18, 19, 20, 21, 22, 23, 24, 25, 26, 27, 28, 29, 30, 31, 32, 33, 34, 35, 36, 37, 38, 39, 40, 41, 42, 43, 44, 45, 46, 47, 48, 49, 50, 52, 53, 54]⟩, ⟨(some 102), (.mv (.t 9)), (some (94, false)), 58, [0, 1, 2, 3, 4, 5, 6, 7, 8, 9, 10, 11, 12, 13, 14, 15, 16, 17, 18, 19, 20, 21, 22, 23, 24, 25, 26, 27, 28, 29, 30, 31, 32, 33, 34, 35, 36, 37, 38, 39, 40, 41, 42, 43, 44, 45, 46, 47, 48, 49, 50]⟩, ⟨(some 103), (.mv (.t 2)), (some (94, false)), 59, [0, 1, 2, 3, 4, 5, 6, 7, 8, 9, 10, 11, 12, 13, 14, 15, 16, 17, 18, 19, 20, 21, 22, 23, 24, 25, 26, 27, 28, 29, 30, 31, 32, 33, 34, 35, 36, 37, 38, 39, 40, 41, 42, 43, 44, 45, 46, 47, 48, 49, 50]⟩, ⟨(some 104), (.mv (.t 10)), (some (94, false)), 60, [0, 1, 2, 3, 4, 5, 6, 7, 8, 9, 10, 11, 12, 13, 14, 15, 16, 17, 18, 19, 20, 21, 22, 23, 24, 25, 26, 27, 28, 29, 30, 31, 32, 33, 34, 35, 36, 37, 38, 39, 40, 41, 42, 43, 44, 45, 46, 47, 48, 49, 50]⟩, ⟨(some 105), (.isl 6 (.t 103) (.t 104)), (some (94, false)), 61, [0, 1, 2, 3, 4, 5, 6, 7, 8, 9, 10, 11, 12, 13, 14, 15, 16, 17, 18, 19, 20, 21, 22, 23, 24, 25, 26, 27, 28, 29, 30, 31, 32, 33, 34, 35, 36, 37, 38, 39, 40, 41, 42, 43, 44, 45, 46, 47, 48, 49, 50, 59, 60]⟩, ⟨(some 106), (.fadd 3 (.t 105)), (some (94, false)), 62, [0, 1, 2, 3, 4, 5, 6, 7, 8, 9, 10, 11, 12, 13, 14, 15, 16, 17, 18, 19, 20, 21, 22, 23, 24, 25, 26, 27, 28, 29, 30, 31, 32, 33, 34, 35, 36, 37, 38, 39, 40, 41, 42, 43, 44, 45, 46, 47, 48, 49, 50, 59, 60, 61]⟩, ⟨(some 100), (.load false 1 (.t 99)), (some (94, false)), 56, [0, 1, 2, 3, 4, 5, 6, 7, 8, 9, 10, 11, 12, 13, 14, 15, 16, 17, 18, 19, 20, 21, 22, 23, 24, 25, 26, 27, 28, 29, 30, 31, 32, 33, 34, 35, 36, 37, 38, 39, 40, 41, 42, 43, 44, 45, 46, 47, 48, 49, 50, 52, 53, 54, 55]⟩, ⟨(some 107), (.load false 1 (.t 106)), (some (94, false)), 63, [0, 1, 2, 3, 4, 5, 6, 7, 8, 9, 10, 11, 12, 13, 14, 15, 16, 17, 18, 19, 20, 21, 22, 23, 24, 25, 26, 27, 28, 29, 30, 31, 32, 33, 34, 35, 36, 37, 38, 39, 40, 41, 42, 43, 44, 45, 46, 47, 48, 49, 50, 59, 60, 61, 62]⟩, ⟨(some 101), (.call (.c (.fn (.func 17) [] [])) [(.t 95), (.t 100)]), (some (94, false)), 57, [0, 1, 2, 3, 4, 5, 6, 7, 8, 9, 10, 11, 12, 13, 14, 15, 16, 17, 18, 19, 20, 21, 22, 23, 24, 25, 26, 27, 28, 29, 30, 31, 32, 33, 34, 35, 36, 37, 38, 39, 40, 41, 42, 43, 44, 45, 46, 47, 48, 49, 50, 51, 52, 53, 54, 55, 56]⟩, ⟨(some 108), (.call (.c (.fn (.func 27) [] [])) [(.t 102), (.t 107)]), (some (94, false)), 64, [0, 1, 2, 3, 4, 5, 6, 7, 8, 9, 10, 11, 12, 13, 14, 15, 16, 17, 18, 19, 20, 21, 22, 23, 24, 25, 26, 27, 28, 29, 30, 31, 32, 33, 34, 35, 36, 37, 38, 39, 40, 41, 42, 43, 44, 45, 46, 47, 48, 49, 50, 51, 52, 53, 54, 55, 56, 57, 58, 59, 60, 61, 62, 63]⟩, ⟨(some 109), (.bin .neq (.t 101) (.t 108)), (some (94, false)), 65, [0, 1, 2, 3, 4, 5, 6, 7, 8, 9, 10, 11, 12, 13, 14, 15, 16, 17, 18, 19, 20, 21, 22, 23, 24, 25, 26, 27, 28, 29, 30, 31, 32, 33, 34, 35, 36, 37, 38, 39, 40, 41, 42, 43, 44, 45, 46, 47, 48, 49, 50, 51, 52, 53, 54, 55, 56, 57, 58, 59, 60, 61, 62, 63, 64]⟩, ⟨(some 110), (.pick (.t 94) (.c (.b true)) (.t 109)), none, 66, [0, 1, 2, 3, 4, 5, 6, 7, 8, 9, 10, 11, 12, 13, 14, 15, 16, 17, 18, 19, 20, 21, 22, 23, 24, 25, 26, 27, 28, 29, 30, 31, 32, 33, 34, 35, 36, 37, 38, 39, 40, 41, 42, 43, 44, 45, 46, 47, 48, 49, 50, 51, 52, 53, 54, 55, 56, 57, 58, 59, 60, 61, 62, 63, 64, 65]⟩])
  (.cond (.t 110) (.seq (.region [po 6 (.mv (.c (.b false))) 0])
  .ret) .skip)))))
  (.region [pm 27 10 0, po 28 (.bin .add (.t 27) (.c (.i .i64 1))) 1, pm 10 28 2]))))))
  (.seq (.region [pm 111 7 0, pm 6 111 1])
  .ret)))))))
def x8 : XFun := ⟨x8b, [(.t 6)]⟩
theorem x8_ok : compF Try.prog 8 = some x8 := by kernel_rfl
/-- bollard/bollardlaw19.TopicNone (165) -/
def x9b : XC := (.seq (.region [po 6 (.mv (.c (.b false))) 0])
  (.seq (.region [po 20 (.call (.c (.fn (.func 10) [] [])) []) 0, pm 7 20 1])
  (.seq (.seq (.region [pm 21 1 0, po 22 (.lens (.t 21)) 1, po 23 (.bin .gtr (.t 22) (.c (.i .i64 500))) 2, pm 24 23 3, pg 25 (.mv (.t 2)) 24 false 4, pg 26 (.lenx (.t 25)) 24 false 5, pg 27 (.bin .gtr (.t 26) (.c (.i .i64 1000))) 24 false 6, po 28 (.pick (.t 24) (.c (.b true)) (.t 27)) 7])
  (.cond (.t 28) (.seq (.region [pm 29 7 0, pm 6 29 1])
  .ret) .skip))
  (.seq (.region [po 8 (.mv (.c (.p none))) 0])
  (.seq (.region [pm 31 8 0, pm 32 0 1, pm 33 1 2, pm 34 2 3, po 35 (.call (.c (.fn (.func 13) [] [])) [(.t 31), (.t 32), (.t 33), (.c (.b true)), (.t 34)]) 4, pm 30 35 5, po 36 (.ext (.t 30) 0) 6, po 37 (.ext (.t 30) 1) 7, pm 9 36 8, pm 10 37 9])
  (.seq (.region [pm 39 8 0, pm 40 0 1, po 41 (.call (.c (.fn (.func 16) [] [])) [(.t 39), (.t 40)]) 2, pm 38 41 3, po 42 (.ext (.t 38) 0) 4, po 43 (.ext (.t 38) 1) 5, ⟨(some 11), (.alloc zAA ), none, 6, []⟩, ⟨none, (.store 5 (.t 11) (.t 42)), none, 7, []⟩, pm 12 43 8])
  (.seq (.region [po 44 (.call (.c (.fn (.func 11) [] [])) [(.c (.i .i64 3)), (.c (.i .i64 4))]) 0, pm 13 44 1])
  (.seq (.seq (.region [po 14 (.mv (.c (.i .i64 0))) 0])
  (.block 0 (.loop (.seq (.seq (.region [pm 45 14 0, po 46 (.bin .lss (.t 45) (.c (.i .i64 3))) 1])
  (.cond (.t 46) .skip (.exit 0)))
  (.seq (.block 1 (.seq (.region [pm 49 13 0, pm 50 14 1, po 51 (.call (.c (.fn (.func 12) [] [])) [(.t 49), (.t 50)]) 2])
  (.region [pm 52 13 0, pm 53 14 1, ⟨(some 54), (.call (.c (.fn (.func 14) [] [])) [(.t 52), (.t 53), (.c (.s ⟨#[97]⟩)), (.c (.i .i64 0))]), none, 2, []⟩])))
  (.region [pm 47 14 0, po 48 (.bin .add (.t 47) (.c (.i .i64 1))) 1, pm 14 48 2]))))))
  (.seq (.region [po 55 (.bslice [(.i .u8 0)] [(0, 1, (.c (.i .u8 7)))] 1) 0, pm 15 55 1])
  (.seq (.region [pm 56 13 0, pm 57 15 1, ⟨(some 58), (.call (.c (.fn (.func 13) [] [])) [(.t 56), (.c (.i .i64 0)), (.c (.s ⟨#[97]⟩)), (.c (.b true)), (.t 57)]), none, 2, []⟩])
  (.seq (.region [pm 59 15 0, po 60 (.isl 1 (.t 59) (.c (.i .i64 0))) 1, ⟨none, (.store 1 (.t 60) (.c (.i .u8 8))), none, 2, []⟩])
  (.seq (.region [pm 62 13 0, po 63 (.call (.c (.fn (.func 16) [] [])) [(.t 62), (.c (.i .i64 1))]) 1, pm 61 63 2, po 64 (.ext (.t 61) 0) 3, po 65 (.ext (.t 61) 1) 4, ⟨(some 16), (.alloc zAA ), none, 5, []⟩, ⟨none, (.store 5 (.t 16) (.t 64)), none, 6, []⟩, pm 17 65 7])
  (.seq (.seq (.region [pm 66 17 0, po 67 (.unx .not (.t 66)) 1, pm 68 67 2, pg 69 (.fadd 4 (.t 16)) 68 false 3, pg 70 (.load false 1 (.t 69)) 68 false 4, pg 71 (.lenx (.t 70)) 68 false 5, pg 72 (.bin .neq (.t 71) (.c (.i .i64 1))) 68 false 6, po 73 (.pick (.t 68) (.c (.b true)) (.t 72)) 7, pm 74 73 8, pg 75 (.fadd 4 (.t 16)) 74 false 9, pg 76 (.load false 1 (.t 75)) 74 false 10, pg 77 (.isl 1 (.t 76) (.c (.i .i64 0))) 74 false 11, pg 78 (.load false 1 (.t 77)) 74 false 12, pg 79 (.bin .neq (.t 78) (.c (.i .u8 7))) 74 false 13, po 80 (.pick (.t 74) (.c (.b true)) (.t 79)) 14])
  (.cond (.t 80) (.seq (.region [po 6 (.mv (.c (.b false))) 0])
  .ret) .skip))
  (.seq (.region [po 81 (.fadd 4 (.t 16)) 0, po 82 (.load false 1 (.t 81)) 1, po 83 (.isl 1 (.t 82) (.c (.i .i64 0))) 2, ⟨none, (.store 1 (.t 83) (.c (.i .u8 9))), none, 3, []⟩])
  (.seq (.region [pm 85 13 0, po 86 (.call (.c (.fn (.func 16) [] [])) [(.t 85), (.c (.i .i64 2))]) 1, pm 84 86 2, po 87 (.ext (.t 84) 0) 3, po 88 (.ext (.t 84) 1) 4, ⟨(some 18), (.alloc zAA ), none, 5, []⟩, ⟨none, (.store 5 (.t 18) (.t 87)), none, 6, []⟩, pm 19 88 7])
  (.seq (.region [pm 89 7 0, pm 90 89 1, pg 91 (.mv (.t 9)) 90 true 2, pg 92 (.bin .eql (.t 91) (.c (.i .i64 0))) 90 true 3, po 93 (.pick (.t 90) (.t 92) (.c (.b false))) 4, pm 94 93 5, pg 95 (.mv (.t 10)) 94 true 6, pg 96 (.bin .eql (.t 95) (.c (.i .i64 1))) 94 true 7, po 97 (.pick (.t 94) (.t 96) (.c (.b false))) 8, pm 98 97 9, pg 99 (.mv (.t 12)) 98 true 10, pg 100 (.unx .not (.t 99)) 98 true 11, po 101 (.pick (.t 98) (.t 100) (.c (.b false))) 12, pm 102 101 13, pg 103 (.mv (.t 8)) 102 true 14, pg 104 (.mv (.t 0)) 102 true 15, pg 105 (.call (.c (.fn (.func 12) [] [])) [(.t 103), (.t 104)]) 102 true 16, pg 106 (.bin .eql (.t 105) (.c (.i .i64 1))) 102 true 17, po 107 (.pick (.t 102) (.t 106) (.c (.b false))) 18, pm 108 107 19, pg 109 (.mv (.t 8)) 108 true 20, pg 110 (.mv (.t 0)) 108 true 21, pg 111 (.call (.c (.fn (.func 21) [] [])) [(.t 109), (.t 110)]) 108 true 22, pg 112 (.bin .eql (.t 111) (.c (.i .i64 1))) 108 true 23, po 113 (.pick (.t 108) (.t 112) (.c (.b false))) 24, pm 114 113 25, pg 115 (.mv (.t 8)) 114 true 26, pg 116 (.mv (.t 0)) 114 true 27, pg 117 (.mv (.t 1)) 114 true 28, pg 118 (.call (.c (.fn (.func 14) [] [])) [(.t 115), (.t 116), (.t 117), (.c (.i .i64 0))]) 114 true 29, pg 119 (.bin .eql (.t 118) (.c (.i .i64 1))) 114 true 30, po 120 (.pick (.t 114) (.t 119) (.c (.b false))) 31, pm 121 120 32, pg 122 (.mv (.t 8)) 121 true 33, pg 123 (.mv (.t 0)) 121 true 34, pg 124 (.mv (.t 1)) 121 true 35, pg 125 (.call (.c (.fn (.func 20) [] [])) [(.t 122), (.t 123), (.t 124)]) 121 true 36, pg 126 (.bin .eql (.t 125) (.c (.i .i64 1))) 121 true 37, po 127 (.pick (.t 121) (.t 126) (.c (.b false))) 38, pm 128 127 39, pg 129 (.mv (.t 8)) 128 true 40, pg 130 (.mv (.t 0)) 128 true 41, pg 131 (.mv (.t 1)) 128 true 42, pg 132 (.call (.c (.fn (.func 15) [] [])) [(.t 129), (.t 130), (.t 131)]) 128 true 43, pg 133 (.unx .not (.t 132)) 128 true 44, po 134 (.pick (.t 128) (.t 133) (.c (.b false))) 45, pm 135 134 46, pg 136 (.mv (.t 8)) 135 true 47, pg 137 (.mv (.t 0)) 135 true 48, pg 138 (.call (.c (.fn (.func 19) [] [])) [(.t 136), (.t 137)]) 135 true 49, pg 139 (.mv (.t 8)) 135 true 50, pg 140 (.mv (.t 0)) 135 true 51, pg 141 (.call (.c (.fn (.func 18) [] [])) [(.t 139), (.t 140)]) 135 true 52, pg 142 (.bin .add (.t 138) (.t 141)) 135 true 53, pg 143 (.mv (.t 8)) 135 true 54, pg 144 (.mv (.t 1)) 135 true 55, pg 145 (.call (.c (.fn (.func 17) [] [])) [(.t 143), (.t 144)]) 135 true 56, pg 146 (.bin .add (.t 142) (.t 145)) 135 true 57, pg 147 (.bin .eql (.t 146) (.c (.i .i64 0))) 135 true 58, po 148 (.pick (.t 135) (.t 147) (.c (.b false))) 59, pm 149 148 60, pg 150 (.mv (.t 19)) 149 true 61, po 151 (.pick (.t 149) (.t 150) (.c (.b false))) 62, pm 152 151 63, pg 153 (.fadd 4 (.t 18)) 152 true 64, pg 154 (.load false 1 (.t 153)) 152 true 65, pg 155 (.lenx (.t 154)) 152 true 66, pg 156 (.bin .eql (.t 155) (.c (.i .i64 1))) 152 true 67, po 157 (.pick (.t 152) (.t 156) (.c (.b false))) 68, pm 158 157 69, pg 159 (.fadd 4 (.t 18)) 158 true 70, pg 160 (.load false 1 (.t 159)) 158 true 71, pg 161 (.isl 1 (.t 160) (.c (.i .i64 0))) 158 true 72, pg 162 (.load false 1 (.t 161)) 158 true 73, pg 163 (.bin .eql (.t 162) (.c (.i .u8 7))) 158 true 74, po 164 (.pick (.t 158) (.t 163) (.c (.b false))) 75, pm 6 164 76])
  .ret))))))))))))))))
def x9 : XFun := ⟨x9b, [(.t 6)]⟩
theorem x9_ok : compF Try.prog 9 = some x9 := by kernel_rfl
/-- bollard/bollardlaw19.awake (73) -/
def x10b : XC := (.seq (.region [po 0 (.mv (.c (.b false))) 0])
  (.seq (.region [po 9 (.call (.c (.fn (.func 11) [] [])) [(.c (.i .i64 2)), (.c (.i .i64 4))]) 0, pm 1 9 1])
  (.seq (.region [pm 10 1 0, po 11 (.call (.c (.fn (.func 12) [] [])) [(.t 10), (.c (.i .i64 0))]) 1, pm 2 11 2])
  (.seq (.region [pm 12 1 0, po 13 (.call (.c (.fn (.func 12) [] [])) [(.t 12), (.c (.i .i64 1))]) 1, pm 3 13 2])
  (.seq (.region [pm 14 1 0, ⟨(some 15), (.call (.c (.fn (.func 14) [] [])) [(.t 14), (.c (.i .i64 1)), (.c (.s ⟨#[97]⟩)), (.c (.i .i64 0))]), none, 1, []⟩, pm 4 15 2])
  (.seq (.region [pm 17 1 0, po 18 (.bslice [(.i .u8 0)] [(0, 1, (.c (.i .u8 7)))] 1) 1, ⟨(some 19), (.call (.c (.fn (.func 13) [] [])) [(.t 17), (.c (.i .i64 0)), (.c (.s ⟨#[97]⟩)), (.c (.b true)), (.t 18)]), none, 2, []⟩, pm 16 19 3, po 20 (.ext (.t 16) 0) 4, po 21 (.ext (.t 16) 1) 5, pm 5 20 6, pm 6 21 7])
  (.seq (.region [pm 23 1 0, po 24 (.call (.c (.fn (.func 16) [] [])) [(.t 23), (.c (.i .i64 1))]) 1, pm 22 24 2, po 25 (.ext (.t 22) 0) 3, po 26 (.ext (.t 22) 1) 4, ⟨(some 7), (.alloc zAA ), none, 5, []⟩, ⟨none, (.store 5 (.t 7) (.t 25)), none, 6, []⟩, pm 8 26 7])
  (.seq (.region [pm 27 2 0, po 28 (.bin .eql (.t 27) (.c (.i .i64 0))) 1, pm 29 28 2, pg 30 (.mv (.t 3)) 29 true 3, pg 31 (.bin .eql (.t 30) (.c (.i .i64 0))) 29 true 4, po 32 (.pick (.t 29) (.t 31) (.c (.b false))) 5, pm 33 32 6, pg 34 (.mv (.t 4)) 33 true 7, pg 35 (.bin .eql (.t 34) (.c (.i .i64 0))) 33 true 8, po 36 (.pick (.t 33) (.t 35) (.c (.b false))) 9, pm 37 36 10, pg 38 (.mv (.t 5)) 37 true 11, pg 39 (.bin .eql (.t 38) (.c (.i .i64 1))) 37 true 12, po 40 (.pick (.t 37) (.t 39) (.c (.b false))) 13, pm 41 40 14, pg 42 (.mv (.t 6)) 41 true 15, pg 43 (.bin .eql (.t 42) (.c (.i .i64 0))) 41 true 16, po 44 (.pick (.t 41) (.t 43) (.c (.b false))) 17, pm 45 44 18, pg 46 (.mv (.t 8)) 45 true 19, po 47 (.pick (.t 45) (.t 46) (.c (.b false))) 20, pm 48 47 21, pg 49 (.fadd 1 (.t 7)) 48 true 22, pg 50 (.load false 1 (.t 49)) 48 true 23, pg 51 (.bin .eql (.t 50) (.c (.i .i64 0))) 48 true 24, po 52 (.pick (.t 48) (.t 51) (.c (.b false))) 25, pm 53 52 26, pg 54 (.fadd 2 (.t 7)) 53 true 27, pg 55 (.load false 1 (.t 54)) 53 true 28, pg 56 (.bin .eql (.t 55) (.c (.i .i64 0))) 53 true 29, po 57 (.pick (.t 53) (.t 56) (.c (.b false))) 30, pm 58 57 31, pg 59 (.fadd 3 (.t 7)) 58 true 32, pg 60 (.load false 1 (.t 59)) 58 true 33, po 61 (.pick (.t 58) (.t 60) (.c (.b false))) 34, pm 62 61 35, pg 63 (.fadd 4 (.t 7)) 62 true 36, pg 64 (.load false 1 (.t 63)) 62 true 37, pg 65 (.lenx (.t 64)) 62 true 38, pg 66 (.bin .eql (.t 65) (.c (.i .i64 1))) 62 true 39, po 67 (.pick (.t 62) (.t 66) (.c (.b false))) 40, pm 68 67 41, pg 69 (.mv (.t 1)) 68 true 42, ⟨(some 70), (.call (.c (.fn (.func 17) [] [])) [(.t 69), (.c (.s ⟨#[97]⟩))]), (some (68, true)), 43, []⟩, pg 71 (.bin .eql (.t 70) (.c (.i .i64 1))) 68 true 44, po 72 (.pick (.t 68) (.t 71) (.c (.b false))) 45, pm 0 72 46])
  .ret))))))))
def x10 : XFun := ⟨x10b, [(.t 0)]⟩
theorem x10_ok : compF Try.prog 10 = some x10 := by kernel_rfl
/-- bollard/topic.New (13) -/
def x11b : XC := (.seq (.region [po 4 (.mv (.c (.p none))) 0])
  (.seq (.draw [pm 5 0 0, pm 8 1 3, ⟨(some 6), (.call (.c (.fn (.func 28) [] [])) [(.t 5), (.c (.i .i64 16))]), none, 1, [0]⟩, ⟨(some 9), (.call (.c (.fn (.func 28) [] [])) [(.t 8), (.c (.i .i64 64))]), none, 4, [0, 1, 3]⟩, ⟨(some 7), (.mkslice [(.b false), (.m none), (.sl none 0 0 0), (.i .i64 0)] 48 (.t 6) (.t 6)), none, 2, [0, 1]⟩, ⟨(some 10), .mkmap, none, 5, []⟩, ⟨(some 11), (.build [(.sl none 0 0 0), (.i .i64 0), (.m none)] [(0, 1, (.t 7)), (1, 1, (.t 9)), (2, 1, (.t 10))]), none, 6, [0, 1, 2, 3, 4, 5]⟩, ⟨(some 12), (.box (.t 11)), none, 7, [0, 1, 2, 3, 4, 5, 6]⟩, ⟨(some 4), (.mv (.t 12)), none, 8, [0, 1, 2, 3, 4, 5, 6, 7]⟩])
  .ret))
def x11 : XFun := ⟨x11b, [(.t 4)]⟩
theorem x11_ok : compF Try.prog 11 = some x11 := by kernel_rfl
/-- (*bollard/topic.Relay).Join (21) -/
def x12b : XC := (.seq (.region [po 4 (.mv (.c (.i .i64 0))) 0])
  (.seq (.region [pm 6 0 0, pm 7 1 1, po 8 (.call (.c (.fn (.func 29) [] [])) [(.t 6), (.t 7)]) 2, pm 5 8 3])
  (.seq (.block 0 (.seq (.region [pm 10 5 0, po 11 (.nilq 0 false (.t 10)) 1, pm 9 11 2])
  (.cond (.t 9) (.seq (.region [po 4 (.mv (.c (.i .i64 1))) 0])
  .ret) (.seq (.region [pm 13 5 0, po 14 (.nilc (.t 13)) 1, po 15 (.fadd 0 (.t 14)) 2, po 16 (.load false 1 (.t 15)) 3, pm 12 16 4])
  (.cond (.t 12) (.seq (.region [po 4 (.mv (.c (.i .i64 8))) 0])
  .ret) .skip)))))
  (.seq (.region [pm 17 5 0, ⟨(some 18), .mkmap, none, 1, []⟩, po 19 (.build [(.b false), (.m none), (.sl none 0 0 0), (.i .i64 0)] [(0, 1, (.c (.b true))), (1, 1, (.t 18))]) 2, po 20 (.nilc (.t 17)) 3, ⟨none, (.store 4 (.t 20) (.t 19)), none, 4, []⟩])
  (.seq (.region [po 4 (.mv (.c (.i .i64 0))) 0])
  .ret)))))
def x12 : XFun := ⟨x12b, [(.t 4)]⟩
theorem x12_ok : compF Try.prog 12 = some x12 := by kernel_rfl
/-- (*bollard/topic.Relay).Publish (90) -/
def x13b : XC := (.seq (.region [po 10 (.mv (.c (.i .i64 0))) 0, po 11 (.mv (.c (.i .i64 0))) 1])
  (.seq (.region [pm 16 0 0, pm 17 1 1, po 18 (.call (.c (.fn (.func 29) [] [])) [(.t 16), (.t 17)]) 2, pm 12 18 3])
  (.seq (.block 0 (.seq (.region [pm 20 12 0, po 21 (.nilq 0 false (.t 20)) 1, pm 22 21 2, pg 23 (.mv (.t 2)) 22 false 3, ⟨(some 24), (.bin .eql (.t 23) (.c (.s ⟨#[]⟩))), (some (22, false)), 4, []⟩, po 25 (.pick (.t 22) (.c (.b true)) (.t 24)) 5, pm 19 25 6])
  (.cond (.t 19) (.seq (.region [po 10 (.mv (.c (.i .i64 0))) 0, po 11 (.mv (.c (.i .i64 1))) 1])
  .ret) (.seq (.region [pm 27 2 0, po 28 (.lens (.t 27)) 1, po 29 (.bin .gtr (.t 28) (.c (.i .i64 256))) 2, pm 30 29 3, pg 31 (.mv (.t 4)) 30 false 4, pg 32 (.lenx (.t 31)) 30 false 5, pg 33 (.bin .gtr (.t 32) (.c (.i .i64 16384))) 30 false 6, po 34 (.pick (.t 30) (.c (.b true)) (.t 33)) 7, pm 26 34 8])
  (.cond (.t 26) (.seq (.region [po 10 (.mv (.c (.i .i64 0))) 0, po 11 (.mv (.c (.i .i64 10))) 1])
  .ret) (.seq (.region [pm 36 12 0, po 37 (.nilc (.t 36)) 1, po 38 (.fadd 0 (.t 37)) 2, po 39 (.load false 1 (.t 38)) 3, po 40 (.unx .not (.t 39)) 4, pm 35 40 5])
  (.cond (.t 35) (.seq (.region [po 10 (.mv (.c (.i .i64 0))) 0, po 11 (.mv (.c (.i .i64 11))) 1])
  .ret) .skip)))))))
  (.seq (.region [pm 41 2 0, pm 42 1 1, pm 43 0 2, po 44 (.nilc (.t 43)) 3, po 45 (.fadd 2 (.t 44)) 4, po 46 (.load false 1 (.t 45)) 5, pm 47 2 6, po 48 (.lookup 1 (.i .i64 0) (.t 46) (.t 47) false) 7, pm 49 3 8, ⟨(some 50), (.build zAA  [(0, 1, (.t 41)), (1, 1, (.t 42)), (2, 1, (.t 48)), (3, 1, (.t 49))]), none, 9, []⟩, ⟨(some 13), (.alloc zAA ), none, 10, []⟩, ⟨none, (.store 5 (.t 13) (.t 50)), none, 11, []⟩])
  (.seq (.region [pm 51 0 0, po 52 (.nilc (.t 51)) 1, po 53 (.fadd 2 (.t 52)) 2, po 54 (.load false 1 (.t 53)) 3, pm 55 2 4, po 56 (.lookup 1 (.i .i64 0) (.t 54) (.t 55) false) 5, po 57 (.bin .add (.t 56) (.c (.i .i64 1))) 6, ⟨none, (.mput 1 (.t 54) (.t 55) (.t 57)), none, 7, []⟩])
  (.seq (.region [po 14 (.mv (.c (.i .i64 0))) 0])
  (.seq (.seq (.region [pm 58 0 0, po 59 (.nilc (.t 58)) 1, po 60 (.fadd 0 (.t 59)) 2, po 61 (.load false 1 (.t 60)) 3, po 62 (.lenx (.t 61)) 4, po 63 (.mv (.c (.i .i64 0))) 5])
  (.block 1 (.loop (.seq (.region [po 64 (.bin .lss (.t 63) (.t 62)) 0])
  (.seq (.cond (.t 64) .skip (.exit 1))
  (.seq (.block 2 (.seq (.region [pm 65 63 0, pm 15 65 1])
  (.seq (.region [pm 66 4 0, po 67 (.call (.c (.fn (.func 30) [] [])) [(.t 66)]) 1, po 68 (.fadd 4 (.t 13)) 2, ⟨none, (.store 1 (.t 68) (.t 67)), none, 3, []⟩])
  (.seq (.draw [pm 69 15 0, pm 70 1 1, ⟨(some 71), (.bin .neq (.t 69) (.t 70)), none, 2, [0, 1]⟩, ⟨(some 72), (.mv (.t 71)), none, 3, [0, 1, 2]⟩, ⟨(some 73), (.mv (.t 0)), (some (72, true)), 4, [0, 1, 2, 3]⟩, ⟨(some 74), (.nilc (.t 73)), (some (72, true)), 5, [0, 1, 2, 3, 4]⟩, ⟨(some 75), (.fadd 0 (.t 74)), (some (72, true)), 6, [0, 1, 2, 3, 4, 5]⟩, ⟨(some 77), (.mv (.t 15)), (some (72, true)), 8, [0, 1, 2, 3]⟩, ⟨(some 80), (.mv (.t 0)), (some (72, true)), 11, [0, 1, 2, 3]⟩, ⟨(some 81), (.nilc (.t 80)), (some (72, true)), 12, [0, 1, 2, 3, 11]⟩, ⟨(some 82), (.fadd 1 (.t 81)), (some (72, true)), 13, [0, 1, 2, 3, 11, 12]⟩, ⟨(some 76), (.load false 1 (.t 75)), (some (72, true)), 7, [0, 1, 2, 3, 4, 5, 6]⟩, ⟨(some 78), (.isl 4 (.t 76) (.t 77)), (some (72, true)), 9, [0, 1, 2, 3, 4, 5, 6, 7, 8]⟩, ⟨(some 79), (.load true 5 (.t 13)), (some (72, true)), 10, [0, 1, 2, 3]⟩, ⟨(some 83), (.load false 1 (.t 82)), (some (72, true)), 14, [0, 1, 2, 3, 11, 12, 13]⟩, ⟨(some 84), (.call (.c (.fn (.func 31) [] [])) [(.t 78), (.t 79), (.t 83)]), (some (72, true)), 15, [0, 1, 2, 3, 4, 5, 6, 7, 8, 9, 10, 11, 12, 13, 14]⟩, ⟨(some 85), (.pick (.t 72) (.t 84) (.c (.b false))), none, 16, [0, 1, 2, 3, 4, 5, 6, 7, 8, 9, 10, 11, 12, 13, 14, 15]⟩])
  (.cond (.t 85) (.region [pm 86 14 0, po 87 (.bin .add (.t 86) (.c (.i .i64 1))) 1, pm 14 87 2]) .skip)))))
  (.region [po 88 (.bin .add (.t 63) (.c (.i .i64 1))) 0, pm 63 88 1])))))))
  (.seq (.region [pm 89 14 0, pm 10 89 1, po 11 (.mv (.c (.i .i64 0))) 2])
  .ret))))))))
def x13 : XFun := ⟨x13b, [(.t 10), (.t 11)]⟩
theorem x13_ok : compF Try.prog 13 = some x13 := by kernel_rfl
/-- (*bollard/topic.Relay).Subscribe (73) -/
def x14b : XC := (.seq (.region [po 8 (.mv (.c (.i .i64 0))) 0])
  (.seq (.region [pm 12 0 0, pm 13 1 1, po 14 (.call (.c (.fn (.func 29) [] [])) [(.t 12), (.t 13)]) 2, pm 9 14 3])
  (.seq (.block 0 (.seq (.region [pm 16 9 0, po 17 (.nilq 0 false (.t 16)) 1, pm 18 17 2, pg 19 (.mv (.t 3)) 18 false 3, pg 20 (.bin .lss (.t 19) (.c (.i .i64 0))) 18 false 4, po 21 (.pick (.t 18) (.c (.b true)) (.t 20)) 5, pm 22 21 6, pg 23 (.mv (.t 3)) 22 false 7, pg 24 (.bin .gtr (.t 23) (.c (.i .i64 2))) 22 false 8, po 25 (.pick (.t 22) (.c (.b true)) (.t 24)) 9, pm 26 25 10, pg 27 (.mv (.t 2)) 26 false 11, ⟨(some 28), (.bin .eql (.t 27) (.c (.s ⟨#[]⟩))), (some (26, false)), 12, []⟩, po 29 (.pick (.t 26) (.c (.b true)) (.t 28)) 13, pm 15 29 14])
  (.cond (.t 15) (.seq (.region [po 8 (.mv (.c (.i .i64 1))) 0])
  .ret) (.seq (.region [pm 31 2 0, po 32 (.lens (.t 31)) 1, po 33 (.bin .gtr (.t 32) (.c (.i .i64 256))) 2, pm 30 33 3])
  (.cond (.t 30) (.seq (.region [po 8 (.mv (.c (.i .i64 10))) 0])
  .ret) (.seq (.region [pm 35 9 0, po 36 (.nilc (.t 35)) 1, po 37 (.fadd 0 (.t 36)) 2, po 38 (.load false 1 (.t 37)) 3, po 39 (.unx .not (.t 38)) 4, pm 34 39 5])
  (.cond (.t 34) (.seq (.region [po 8 (.mv (.c (.i .i64 11))) 0])
  .ret) .skip)))))))
  (.seq (.region [pm 41 9 0, po 42 (.nilc (.t 41)) 1, po 43 (.fadd 1 (.t 42)) 2, po 44 (.load false 1 (.t 43)) 3, pm 45 2 4, po 46 (.lookup 1 (.agg [(.i .i64 0), (.b false)]) (.t 44) (.t 45) true) 5, pm 40 46 6, po 47 (.ext (.t 40) 0) 7, po 48 (.ext (.t 40) 1) 8, po 10 (.alloc [(.i .i64 0), (.b false)]) 9, ⟨none, (.store 2 (.t 10) (.t 47)), none, 10, []⟩, pm 11 48 11])
  (.seq (.seq (.region [pm 49 11 0, pm 50 49 1, pg 51 (.fadd 1 (.t 10)) 50 true 2, pg 52 (.load false 1 (.t 51)) 50 true 3, pg 53 (.unx .not (.t 52)) 50 true 4, po 54 (.pick (.t 50) (.t 53) (.c (.b false))) 5])
  (.cond (.t 54) (.seq (.region [po 8 (.mv (.c (.i .i64 8))) 0])
  .ret) .skip))
  (.seq (.region [pm 55 9 0, po 56 (.nilc (.t 55)) 1, po 57 (.fadd 1 (.t 56)) 2, po 58 (.load false 1 (.t 57)) 3, pm 59 2 4, ⟨none, (.del 1 (.t 58) (.t 59)), none, 5, []⟩])
  (.seq (.seq (.region [pm 60 9 0, po 61 (.nilc (.t 60)) 1, po 62 (.fadd 1 (.t 61)) 2, po 63 (.load false 1 (.t 62)) 3, po 64 (.lenm (.t 63)) 4, po 65 (.bin .geq (.t 64) (.c (.i .i64 64))) 5])
  (.cond (.t 65) (.seq (.region [po 8 (.mv (.c (.i .i64 9))) 0])
  .ret) .skip))
  (.seq (.region [pm 66 9 0, po 67 (.nilc (.t 66)) 1, po 68 (.fadd 1 (.t 67)) 2, po 69 (.load false 1 (.t 68)) 3, pm 70 2 4, pm 71 3 5, po 72 (.build [(.i .i64 0), (.b false)] [(0, 1, (.t 71))]) 6, ⟨none, (.mput 1 (.t 69) (.t 70) (.t 72)), none, 7, []⟩])
  (.seq (.region [po 8 (.mv (.c (.i .i64 0))) 0])
  .ret)))))))))
def x14 : XFun := ⟨x14b, [(.t 8)]⟩
theorem x14_ok : compF Try.prog 14 = some x14 := by kernel_rfl
/-- (*bollard/topic.Relay).Failed (22) -/
def x15b : XC := (.seq (.region [po 6 (.mv (.c (.b false))) 0])
  (.seq (.region [pm 8 0 0, pm 9 1 1, po 10 (.call (.c (.fn (.func 29) [] [])) [(.t 8), (.t 9)]) 2, pm 7 10 3])
  (.seq (.region [pm 11 7 0, po 12 (.nilq 0 true (.t 11)) 1, pm 13 12 2, pg 14 (.mv (.t 7)) 13 true 3, pg 15 (.nilc (.t 14)) 13 true 4, pg 16 (.fadd 1 (.t 15)) 13 true 5, pg 17 (.load false 1 (.t 16)) 13 true 6, pg 18 (.mv (.t 2)) 13 true 7, pg 19 (.lookup 1 (.agg [(.i .i64 0), (.b false)]) (.t 17) (.t 18) false) 13 true 8, pg 20 (.fld false 1 1 (.t 19)) 13 true 9, po 21 (.pick (.t 13) (.t 20) (.c (.b false))) 10, pm 6 21 11])
  .ret)))
def x15 : XFun := ⟨x15b, [(.t 6)]⟩
theorem x15_ok : compF Try.prog 15 = some x15 := by kernel_rfl
/-- (*bollard/topic.Relay).Pull (37) -/
def x16b : XC := (.seq (.region [⟨(some 4), (.alloc zAA ), none, 0, []⟩, po 5 (.mv (.c (.b false))) 1])
  (.seq (.region [pm 8 0 0, pm 9 1 1, po 10 (.call (.c (.fn (.func 29) [] [])) [(.t 8), (.t 9)]) 2, pm 6 10 3])
  (.seq (.seq (.region [pm 11 6 0, po 12 (.nilq 0 false (.t 11)) 1, pm 13 12 2, pg 14 (.mv (.t 6)) 13 false 3, pg 15 (.nilc (.t 14)) 13 false 4, pg 16 (.fadd 2 (.t 15)) 13 false 5, pg 17 (.load false 1 (.t 16)) 13 false 6, pg 18 (.lenx (.t 17)) 13 false 7, pg 19 (.bin .eql (.t 18) (.c (.i .i64 0))) 13 false 8, po 20 (.pick (.t 13) (.c (.b true)) (.t 19)) 9])
  (.cond (.t 20) (.seq (.region [⟨(some 21), (.build zAA  []), none, 0, []⟩, ⟨none, (.store 5 (.t 4) (.t 21)), none, 1, []⟩, po 5 (.mv (.c (.b false))) 2])
  .ret) .skip))
  (.seq (.region [pm 22 6 0, po 23 (.nilc (.t 22)) 1, po 24 (.fadd 2 (.t 23)) 2, po 25 (.load false 1 (.t 24)) 3, po 26 (.isl 5 (.t 25) (.c (.i .i64 0))) 4, po 27 (.load true 5 (.t 26)) 5, ⟨(some 7), (.alloc zAA ), none, 6, []⟩, ⟨none, (.store 5 (.t 7) (.t 27)), none, 7, []⟩])
  (.seq (.region [pm 28 6 0, pm 29 6 1, po 30 (.nilc (.t 29)) 2, po 31 (.fadd 2 (.t 30)) 3, po 32 (.load false 1 (.t 31)) 4, po 33 (.call (.c (.fn (.func 32) [] [])) [(.t 32), (.c (.i .i64 0)), (.c (.i .i64 1))]) 5, po 34 (.nilc (.t 28)) 6, po 35 (.fadd 2 (.t 34)) 7, ⟨none, (.store 1 (.t 35) (.t 33)), none, 8, []⟩])
  (.seq (.region [po 36 (.load true 5 (.t 7)) 0, ⟨none, (.store 5 (.t 4) (.t 36)), none, 1, []⟩, po 5 (.mv (.c (.b true))) 2])
  .ret))))))
def x16 : XFun := ⟨x16b, [(.cell 4 true 5), (.t 5)]⟩
theorem x16_ok : compF Try.prog 16 = some x16 := by kernel_rfl
/-- (*bollard/topic.Relay).Count (13) -/
def x17b : XC := (.seq (.region [po 4 (.mv (.c (.i .i64 0))) 0])
  (.seq (.seq (.region [pm 5 0 0, po 6 (.nilq 0 false (.t 5)) 1])
  (.cond (.t 6) (.seq (.region [po 4 (.mv (.c (.i .i64 0))) 0])
  .ret) .skip))
  (.seq (.region [pm 7 0 0, po 8 (.nilc (.t 7)) 1, po 9 (.fadd 2 (.t 8)) 2, po 10 (.load false 1 (.t 9)) 3, pm 11 1 4, po 12 (.lookup 1 (.i .i64 0) (.t 10) (.t 11) false) 5, pm 4 12 6])
  .ret)))
def x17 : XFun := ⟨x17b, [(.t 4)]⟩
theorem x17_ok : compF Try.prog 17 = some x17 := by kernel_rfl
/-- (*bollard/topic.Relay).Waiting (16) -/
def x18b : XC := (.seq (.region [po 4 (.mv (.c (.i .i64 0))) 0])
  (.seq (.seq (.region [pm 6 0 0, pm 7 1 1, po 8 (.call (.c (.fn (.func 29) [] [])) [(.t 6), (.t 7)]) 2, pm 5 8 3])
  (.seq (.region [pm 9 5 0, po 10 (.nilq 0 true (.t 9)) 1])
  (.cond (.t 10) (.seq (.region [pm 11 5 0, po 12 (.nilc (.t 11)) 1, po 13 (.fadd 2 (.t 12)) 2, po 14 (.load false 1 (.t 13)) 3, po 15 (.lenx (.t 14)) 4, pm 4 15 5])
  .ret) .skip)))
  (.seq (.region [po 4 (.mv (.c (.i .i64 0))) 0])
  .ret)))
def x18 : XFun := ⟨x18b, [(.t 4)]⟩
theorem x18_ok : compF Try.prog 18 = some x18 := by kernel_rfl
/-- (*bollard/topic.Relay).Lost (15) -/
def x19b : XC := (.seq (.region [po 4 (.mv (.c (.i .i64 0))) 0])
  (.seq (.seq (.region [pm 6 0 0, pm 7 1 1, po 8 (.call (.c (.fn (.func 29) [] [])) [(.t 6), (.t 7)]) 2, pm 5 8 3])
  (.seq (.region [pm 9 5 0, po 10 (.nilq 0 true (.t 9)) 1])
  (.cond (.t 10) (.seq (.region [pm 11 5 0, po 12 (.nilc (.t 11)) 1, po 13 (.fadd 3 (.t 12)) 2, po 14 (.load false 1 (.t 13)) 3, pm 4 14 4])
  .ret) .skip)))
  (.seq (.region [po 4 (.mv (.c (.i .i64 0))) 0])
  .ret)))
def x19 : XFun := ⟨x19b, [(.t 4)]⟩
theorem x19_ok : compF Try.prog 19 = some x19 := by kernel_rfl
/-- (*bollard/topic.Relay).Drop (47) -/
def x20b : XC := (.seq (.region [po 5 (.box (.t 2)) 0, po 6 (.mv (.c (.i .i64 0))) 1])
  (.seq (.region [pm 10 0 0, pm 11 1 1, po 12 (.call (.c (.fn (.func 29) [] [])) [(.t 10), (.t 11)]) 2, pm 7 12 3])
  (.seq (.block 0 (.seq (.region [pm 14 7 0, po 15 (.nilq 0 false (.t 14)) 1, pm 13 15 2])
  (.cond (.t 13) (.seq (.region [po 6 (.mv (.c (.i .i64 1))) 0])
  .ret) (.seq (.region [pm 17 7 0, po 18 (.nilc (.t 17)) 1, po 19 (.fadd 0 (.t 18)) 2, po 20 (.load false 1 (.t 19)) 3, po 21 (.unx .not (.t 20)) 4, pm 16 21 5])
  (.cond (.t 16) (.seq (.region [po 6 (.mv (.c (.i .i64 11))) 0])
  .ret) .skip)))))
  (.seq (.seq (.draw [pm 23 7 0, ⟨(some 24), (.nilc (.t 23)), none, 1, [0]⟩, ⟨(some 25), (.fadd 1 (.t 24)), none, 2, [0, 1]⟩, ⟨(some 26), (.load false 1 (.t 25)), none, 3, [0, 1, 2]⟩, po 27 (.load false 1 (.t 5)) 4, ⟨(some 28), (.lookup 1 (.agg [(.i .i64 0), (.b false)]) (.t 26) (.t 27) true), none, 5, [0, 1, 2, 3, 4]⟩, ⟨(some 22), (.mv (.t 28)), none, 6, [0, 1, 2, 3, 4, 5]⟩, ⟨(some 29), (.ext (.t 22) 0), none, 7, [0, 1, 2, 3, 4, 5, 6]⟩, ⟨(some 30), (.ext (.t 22) 1), none, 8, [0, 1, 2, 3, 4, 5, 6]⟩, po 8 (.alloc [(.i .i64 0), (.b false)]) 9, ⟨none, (.store 2 (.t 8) (.t 29)), none, 10, [0, 1, 2, 3, 4, 5, 6, 7, 9]⟩, ⟨(some 9), (.mv (.t 30)), none, 11, [0, 1, 2, 3, 4, 5, 6, 7, 8, 9, 10]⟩])
  (.seq (.region [pm 31 9 0, po 32 (.unx .not (.t 31)) 1])
  (.cond (.t 32) (.seq (.region [po 6 (.mv (.c (.i .i64 12))) 0])
  .ret) .skip)))
  (.seq (.draw [pm 33 7 0, ⟨(some 34), (.nilc (.t 33)), none, 1, [0]⟩, ⟨(some 35), (.fadd 1 (.t 34)), none, 2, [0, 1]⟩, ⟨(some 36), (.load false 1 (.t 35)), none, 3, [0, 1, 2]⟩, po 37 (.load false 1 (.t 5)) 4, ⟨none, (.del 1 (.t 36) (.t 37)), none, 5, [0, 1, 2, 3, 4]⟩])
  (.seq (.region [pm 38 7 0, pm 39 7 1, po 40 (.nilc (.t 39)) 2, po 41 (.fadd 2 (.t 40)) 3, po 42 (.load false 1 (.t 41)) 4, po 43 (.mkf (.func 34) [] [(.t 5)]) 5, po 44 (.call (.c (.fn (.func 33) [] [])) [(.t 42), (.t 43)]) 6, po 45 (.nilc (.t 38)) 7, po 46 (.fadd 2 (.t 45)) 8, ⟨none, (.store 1 (.t 46) (.t 44)), none, 9, []⟩])
  (.seq (.region [po 6 (.mv (.c (.i .i64 0))) 0])
  .ret)))))))
def x20 : XFun := ⟨x20b, [(.t 6)]⟩
theorem x20_ok : compF Try.prog 20 = some x20 := by kernel_rfl
/-- (*bollard/topic.Relay).Leave (21) -/
def x21b : XC := (.seq (.region [po 4 (.mv (.c (.i .i64 0))) 0])
  (.seq (.region [pm 6 0 0, pm 7 1 1, po 8 (.call (.c (.fn (.func 29) [] [])) [(.t 6), (.t 7)]) 2, pm 5 8 3])
  (.seq (.block 0 (.seq (.region [pm 10 5 0, po 11 (.nilq 0 false (.t 10)) 1, pm 9 11 2])
  (.cond (.t 9) (.seq (.region [po 4 (.mv (.c (.i .i64 1))) 0])
  .ret) (.seq (.region [pm 13 5 0, po 14 (.nilc (.t 13)) 1, po 15 (.fadd 0 (.t 14)) 2, po 16 (.load false 1 (.t 15)) 3, po 17 (.unx .not (.t 16)) 4, pm 12 17 5])
  (.cond (.t 12) (.seq (.region [po 4 (.mv (.c (.i .i64 11))) 0])
  .ret) .skip)))))
  (.seq (.region [pm 18 5 0, po 19 (.build [(.b false), (.m none), (.sl none 0 0 0), (.i .i64 0)] []) 1, po 20 (.nilc (.t 18)) 2, ⟨none, (.store 4 (.t 20) (.t 19)), none, 3, []⟩])
  (.seq (.region [po 4 (.mv (.c (.i .i64 0))) 0])
  .ret)))))
def x21 : XFun := ⟨x21b, [(.t 4)]⟩
theorem x21_ok : compF Try.prog 21 = some x21 := by kernel_rfl
/-- bollard/bollardlaw19.few (38) -/
def x22b : XC := (.seq (.region [po 2 (.mv (.c (.b false))) 0])
  (.seq (.seq (.region [pm 4 0 0, po 5 (.lenx (.t 4)) 1, po 6 (.bin .gtr (.t 5) (.c (.i .i64 150))) 2])
  (.cond (.t 6) (.seq (.region [po 2 (.mv (.c (.b false))) 0])
  .ret) .skip))
  (.seq (.seq (.region [po 3 (.mv (.c (.i .i64 0))) 0])
  (.block 0 (.loop (.seq (.seq (.region [pm 7 3 0, pm 8 0 1, po 9 (.lenx (.t 8)) 2, po 10 (.bin .lss (.t 7) (.t 9)) 3])
  (.cond (.t 10) .skip (.exit 0)))
  (.seq (.block 1 (.seq (.region [pm 13 0 0, pm 14 3 1, po 15 (.isl 6 (.t 13) (.t 14)) 2, po 16 (.fadd 3 (.t 15)) 3, po 17 (.load false 1 (.t 16)) 4, po 18 (.lens (.t 17)) 5, po 19 (.bin .gtr (.t 18) (.c (.i .i64 300))) 6, pm 20 19 7, pg 21 (.mv (.t 0)) 20 false 8, pg 22 (.mv (.t 3)) 20 false 9, pg 23 (.isl 6 (.t 21) (.t 22)) 20 false 10, pg 24 (.fadd 5 (.t 23)) 20 false 11, pg 25 (.load false 1 (.t 24)) 20 false 12, pg 26 (.lenx (.t 25)) 20 false 13, pg 27 (.bin .gtr (.t 26) (.c (.i .i64 500))) 20 false 14, pg 28 (.mv (.t 27)) 20 false 15, pg 29 (.mv (.t 0)) 28 true 16, pg 30 (.mv (.t 3)) 28 true 17, pg 31 (.isl 6 (.t 29) (.t 30)) 28 true 18, pg 32 (.fadd 5 (.t 31)) 28 true 19, pg 33 (.load false 1 (.t 32)) 28 true 20, pg 34 (.lenx (.t 33)) 28 true 21, pg 35 (.bin .leq (.t 34) (.c (.i .i64 16384))) 28 true 22, pg 36 (.pick (.t 28) (.t 35) (.c (.b false))) 20 false 23, po 37 (.pick (.t 20) (.c (.b true)) (.t 36)) 24])
  (.cond (.t 37) (.seq (.region [po 2 (.mv (.c (.b false))) 0])
  .ret) .skip)))
  (.region [pm 11 3 0, po 12 (.bin .add (.t 11) (.c (.i .i64 1))) 1, pm 3 12 2]))))))
  (.seq (.region [po 2 (.mv (.c (.b true))) 0])
  .ret))))
def x22 : XFun := ⟨x22b, [(.t 2)]⟩
theorem x22_ok : compF Try.prog 22 = some x22 := by kernel_rfl
/-- bollard/bollardref19.New (22) -/
def x23b : XC := (.seq (.region [po 4 (.mv (.c (.p none))) 0])
  (.seq (.seq (.region [pm 5 0 0, po 6 (.bin .lss (.t 5) (.c (.i .i64 1))) 1, pm 7 6 2, pg 8 (.mv (.t 0)) 7 false 3, pg 9 (.bin .gtr (.t 8) (.c (.i .i64 16))) 7 false 4, po 10 (.pick (.t 7) (.c (.b true)) (.t 9)) 5])
  (.cond (.t 10) (.region [po 0 (.mv (.c (.i .i64 16))) 0]) .skip))
  (.seq (.seq (.region [pm 11 1 0, po 12 (.bin .lss (.t 11) (.c (.i .i64 1))) 1, pm 13 12 2, pg 14 (.mv (.t 1)) 13 false 3, pg 15 (.bin .gtr (.t 14) (.c (.i .i64 64))) 13 false 4, po 16 (.pick (.t 13) (.c (.b true)) (.t 15)) 5])
  (.cond (.t 16) (.region [po 1 (.mv (.c (.i .i64 64))) 0]) .skip))
  (.seq (.region [pm 17 0 0, po 18 (.mkslice zAB  64 (.t 17) (.t 17)) 1, pm 19 1 2, po 20 (.build [(.sl none 0 0 0), (.i .i64 0), (.sl none 0 0 0)] [(0, 1, (.t 18)), (1, 1, (.t 19))]) 3, po 21 (.box (.t 20)) 4, pm 4 21 5])
  .ret))))
def x23 : XFun := ⟨x23b, [(.t 4)]⟩
theorem x23_ok : compF Try.prog 23 = some x23 := by kernel_rfl
/-- bollard/bollardlaw19.step (131) -/
def x24b : XC := (.seq (.region [po 5 (.box (.t 2)) 0, po 6 (.mv (.c (.b false))) 1])
  (.seq (.seq (.region [po 15 (.fadd 0 (.t 5)) 0, po 16 (.load false 1 (.t 15)) 1])
  (.block 0 (.seq (.region [po 18 (.bin .eql (.t 16) (.c (.i .i64 0))) 0, pm 17 18 1])
  (.cond (.t 17) (.seq (.draw [pm 19 0 0, po 20 (.fadd 1 (.t 5)) 1, pm 23 1 4, po 24 (.fadd 1 (.t 5)) 5, ⟨(some 21), (.load false 1 (.t 20)), none, 2, [1]⟩, ⟨(some 25), (.load false 1 (.t 24)), none, 6, [5]⟩, ⟨(some 22), (.call (.c (.fn (.func 12) [] [])) [(.t 19), (.t 21)]), none, 3, [0, 1, 2]⟩, ⟨(some 26), (.call (.c (.fn (.func 35) [] [])) [(.t 23), (.t 25)]), none, 7, [0, 1, 2, 3, 4, 5, 6]⟩, ⟨(some 27), (.bin .eql (.t 22) (.t 26)), none, 8, [0, 1, 2, 3, 4, 5, 6, 7]⟩, ⟨(some 6), (.mv (.t 27)), none, 9, [0, 1, 2, 3, 4, 5, 6, 7, 8]⟩])
  .ret) (.seq (.region [po 29 (.bin .eql (.t 16) (.c (.i .i64 1))) 0, pm 28 29 1])
  (.cond (.t 28) (.seq (.draw [pm 30 0 0, po 31 (.fadd 1 (.t 5)) 1, pm 34 1 4, po 35 (.fadd 1 (.t 5)) 5, ⟨(some 32), (.load false 1 (.t 31)), none, 2, [1]⟩, ⟨(some 36), (.load false 1 (.t 35)), none, 6, [5]⟩, ⟨(some 33), (.call (.c (.fn (.func 21) [] [])) [(.t 30), (.t 32)]), none, 3, [0, 1, 2]⟩, ⟨(some 37), (.call (.c (.fn (.func 36) [] [])) [(.t 34), (.t 36)]), none, 7, [0, 1, 2, 3, 4, 5, 6]⟩, ⟨(some 38), (.bin .eql (.t 33) (.t 37)), none, 8, [0, 1, 2, 3, 4, 5, 6, 7]⟩, ⟨(some 6), (.mv (.t 38)), none, 9, [0, 1, 2, 3, 4, 5, 6, 7, 8]⟩])
  .ret) (.seq (.region [po 40 (.bin .eql (.t 16) (.c (.i .i64 2))) 0, pm 39 40 1])
  (.cond (.t 39) (.seq (.draw [pm 41 0 0, po 42 (.fadd 1 (.t 5)) 1, po 44 (.fadd 3 (.t 5)) 3, po 46 (.fadd 2 (.t 5)) 5, pm 49 1 8, po 50 (.fadd 1 (.t 5)) 9, po 52 (.fadd 3 (.t 5)) 11, po 54 (.fadd 2 (.t 5)) 13, ⟨(some 43), (.load false 1 (.t 42)), none, 2, [1]⟩, ⟨(some 45), (.load false 1 (.t 44)), none, 4, [3]⟩, ⟨(some 47), (.load false 1 (.t 46)), none, 6, [5]⟩, ⟨(some 51), (.load false 1 (.t 50)), none, 10, [9]⟩, ⟨(some 53), (.load false 1 (.t 52)), none, 12, [11]⟩, ⟨(some 55), (.load false 1 (.t 54)), none, 14, [13]⟩, ⟨(some 48), (.call (.c (.fn (.func 14) [] [])) [(.t 41), (.t 43), (.t 45), (.t 47)]), none, 7, [0, 1, 2, 3, 4, 5, 6]⟩, ⟨(some 56), (.call (.c (.fn (.func 37) [] [])) [(.t 49), (.t 51), (.t 53), (.t 55)]), none, 15, [0, 1, 2, 3, 4, 5, 6, 7, 8, 9, 10, 11, 12, 13, 14]⟩, ⟨(some 57), (.bin .eql (.t 48) (.t 56)), none, 16, [0, 1, 2, 3, 4, 5, 6, 7, 8, 9, 10, 11, 12, 13, 14, 15]⟩, ⟨(some 6), (.mv (.t 57)), none, 17, [0, 1, 2, 3, 4, 5, 6, 7, 8, 9, 10, 11, 12, 13, 14, 15, 16]⟩])
  .ret) (.seq (.region [po 59 (.bin .eql (.t 16) (.c (.i .i64 3))) 0, pm 58 59 1])
  (.cond (.t 58) (.seq (.draw [pm 60 0 0, po 61 (.fadd 1 (.t 5)) 1, po 63 (.fadd 3 (.t 5)) 3, pm 66 1 6, po 67 (.fadd 1 (.t 5)) 7, po 69 (.fadd 3 (.t 5)) 9, ⟨(some 62), (.load false 1 (.t 61)), none, 2, [1]⟩, ⟨(some 64), (.load false 1 (.t 63)), none, 4, [3]⟩, ⟨(some 68), (.load false 1 (.t 67)), none, 8, [7]⟩, ⟨(some 70), (.load false 1 (.t 69)), none, 10, [9]⟩, ⟨(some 65), (.call (.c (.fn (.func 20) [] [])) [(.t 60), (.t 62), (.t 64)]), none, 5, [0, 1, 2, 3, 4]⟩, ⟨(some 71), (.call (.c (.fn (.func 38) [] [])) [(.t 66), (.t 68), (.t 70)]), none, 11, [0, 1, 2, 3, 4, 5, 6, 7, 8, 9, 10]⟩, ⟨(some 72), (.bin .eql (.t 65) (.t 71)), none, 12, [0, 1, 2, 3, 4, 5, 6, 7, 8, 9, 10, 11]⟩, ⟨(some 6), (.mv (.t 72)), none, 13, [0, 1, 2, 3, 4, 5, 6, 7, 8, 9, 10, 11, 12]⟩])
  .ret) (.seq (.region [po 74 (.bin .eql (.t 16) (.c (.i .i64 4))) 0, pm 73 74 1])
  (.cond (.t 73) (.seq (.region [pm 76 0 0, po 77 (.fadd 1 (.t 5)) 1, po 78 (.load false 1 (.t 77)) 2, po 79 (.fadd 3 (.t 5)) 3, po 80 (.load false 1 (.t 79)) 4, po 81 (.fadd 4 (.t 5)) 5, po 82 (.load false 1 (.t 81)) 6, po 83 (.fadd 5 (.t 5)) 7, po 84 (.load false 1 (.t 83)) 8, po 85 (.call (.c (.fn (.func 13) [] [])) [(.t 76), (.t 78), (.t 80), (.t 82), (.t 84)]) 9, pm 75 85 10, po 86 (.ext (.t 75) 0) 11, po 87 (.ext (.t 75) 1) 12, pm 7 86 13, pm 8 87 14])
  (.seq (.region [pm 89 1 0, po 90 (.fadd 1 (.t 5)) 1, po 91 (.load false 1 (.t 90)) 2, po 92 (.fadd 3 (.t 5)) 3, po 93 (.load false 1 (.t 92)) 4, po 94 (.fadd 4 (.t 5)) 5, po 95 (.load false 1 (.t 94)) 6, po 96 (.fadd 5 (.t 5)) 7, po 97 (.load false 1 (.t 96)) 8, po 98 (.call (.c (.fn (.func 39) [] [])) [(.t 89), (.t 91), (.t 93), (.t 95), (.t 97)]) 9, pm 88 98 10, po 99 (.ext (.t 88) 0) 11, po 100 (.ext (.t 88) 1) 12, pm 9 99 13, pm 10 100 14])
  (.seq (.region [pm 101 7 0, pm 102 9 1, po 103 (.bin .eql (.t 101) (.t 102)) 2, pm 104 103 3, pg 105 (.mv (.t 8)) 104 true 4, pg 106 (.mv (.t 10)) 104 true 5, pg 107 (.bin .eql (.t 105) (.t 106)) 104 true 6, po 108 (.pick (.t 104) (.t 107) (.c (.b false))) 7, pm 6 108 8])
  .ret))) .skip))))))))))))
  (.seq (.region [pm 110 0 0, po 111 (.fadd 1 (.t 5)) 1, po 112 (.load false 1 (.t 111)) 2, po 113 (.call (.c (.fn (.func 16) [] [])) [(.t 110), (.t 112)]) 3, pm 109 113 4, po 114 (.ext (.t 109) 0) 5, po 115 (.ext (.t 109) 1) 6, ⟨(some 11), (.alloc zAA ), none, 7, []⟩, ⟨none, (.store 5 (.t 11) (.t 114)), none, 8, []⟩, pm 12 115 9])
  (.seq (.region [pm 117 1 0, po 118 (.fadd 1 (.t 5)) 1, po 119 (.load false 1 (.t 118)) 2, po 120 (.call (.c (.fn (.func 40) [] [])) [(.t 117), (.t 119)]) 3, pm 116 120 4, po 121 (.ext (.t 116) 0) 5, po 122 (.ext (.t 116) 1) 6, ⟨(some 13), (.alloc zAA ), none, 7, []⟩, ⟨none, (.store 5 (.t 13) (.t 121)), none, 8, []⟩, pm 14 122 9])
  (.seq (.region [po 123 (.load true 5 (.t 11)) 0, po 124 (.load true 5 (.t 13)) 1, po 125 (.call (.c (.fn (.func 41) [] [])) [(.t 123), (.t 124)]) 2, pm 126 125 3, pg 127 (.mv (.t 12)) 126 true 4, pg 128 (.mv (.t 14)) 126 true 5, pg 129 (.beq false (.t 127) (.t 128)) 126 true 6, po 130 (.pick (.t 126) (.t 129) (.c (.b false))) 7, pm 6 130 8])
  .ret)))))
def x24 : XFun := ⟨x24b, [(.t 6)]⟩
theorem x24_ok : compF Try.prog 24 = some x24 := by kernel_rfl
/-- (*bollard/bollardref19.Relay).Of (17) -/
def x25b : XC := (.seq (.region [po 4 (.alloc zAB ) 0])
  (.seq (.seq (.region [pm 5 0 0, pm 6 1 1, po 7 (.call (.c (.fn (.func 42) [] [])) [(.t 5), (.t 6)]) 2, po 8 (.unx .not (.t 7)) 3])
  (.cond (.t 8) (.seq (.region [po 9 (.build zAB  []) 0, ⟨none, (.store 4 (.t 4) (.t 9)), none, 1, []⟩])
  .ret) .skip))
  (.seq (.region [pm 10 0 0, po 11 (.nilc (.t 10)) 1, po 12 (.fadd 0 (.t 11)) 2, po 13 (.load false 1 (.t 12)) 3, pm 14 1 4, po 15 (.isl 4 (.t 13) (.t 14)) 5, po 16 (.load true 4 (.t 15)) 6, ⟨none, (.store 4 (.t 4) (.t 16)), none, 7, []⟩])
  .ret)))
def x25 : XFun := ⟨x25b, [(.cell 4 true 4)]⟩
theorem x25_ok : compF Try.prog 25 = some x25 := by kernel_rfl
/-- (*bollard/bollardref19.Relay).Failed (36) -/
def x26b : XC := (.seq (.region [po 6 (.mv (.c (.b false))) 0])
  (.seq (.seq (.region [pm 8 0 0, pm 9 1 1, po 10 (.call (.c (.fn (.func 42) [] [])) [(.t 8), (.t 9)]) 2, po 11 (.unx .not (.t 10)) 3])
  (.cond (.t 11) (.seq (.region [po 6 (.mv (.c (.b false))) 0])
  .ret) .skip))
  (.seq (.region [pm 12 0 0, po 13 (.nilc (.t 12)) 1, po 14 (.fadd 0 (.t 13)) 2, po 15 (.load false 1 (.t 14)) 3, pm 16 1 4, po 17 (.isl 4 (.t 15) (.t 16)) 5, pm 18 2 6, po 19 (.call (.c (.fn (.func 43) [] [])) [(.t 17), (.t 18)]) 7, pm 7 19 8])
  (.seq (.region [pm 20 7 0, po 21 (.bin .geq (.t 20) (.c (.i .i64 0))) 1, pm 22 21 2, pg 23 (.mv (.t 0)) 22 true 3, pg 24 (.nilc (.t 23)) 22 true 4, pg 25 (.fadd 0 (.t 24)) 22 true 5, pg 26 (.load false 1 (.t 25)) 22 true 6, pg 27 (.mv (.t 1)) 22 true 7, pg 28 (.isl 4 (.t 26) (.t 27)) 22 true 8, pg 29 (.fadd 1 (.t 28)) 22 true 9, pg 30 (.load false 1 (.t 29)) 22 true 10, pg 31 (.mv (.t 7)) 22 true 11, pg 32 (.isl 3 (.t 30) (.t 31)) 22 true 12, pg 33 (.fadd 2 (.t 32)) 22 true 13, pg 34 (.load false 1 (.t 33)) 22 true 14, po 35 (.pick (.t 22) (.t 34) (.c (.b false))) 15, pm 6 35 16])
  .ret))))
def x26 : XFun := ⟨x26b, [(.t 6)]⟩
theorem x26_ok : compF Try.prog 26 = some x26 := by kernel_rfl
/-- (*bollard/bollardref19.Relay).Count (33) -/
def x27b : XC := (.seq (.region [po 4 (.mv (.c (.i .i64 0))) 0])
  (.seq (.seq (.region [po 5 (.mv (.c (.i .i64 0))) 0])
  (.block 0 (.loop (.seq (.seq (.region [pm 6 5 0, pm 7 0 1, po 8 (.nilc (.t 7)) 2, po 9 (.fadd 2 (.t 8)) 3, po 10 (.load false 1 (.t 9)) 4, po 11 (.lenx (.t 10)) 5, po 12 (.bin .lss (.t 6) (.t 11)) 6])
  (.cond (.t 12) .skip (.exit 0)))
  (.seq (.block 1 (.seq (.region [pm 15 0 0, po 16 (.nilc (.t 15)) 1, po 17 (.fadd 2 (.t 16)) 2, po 18 (.load false 1 (.t 17)) 3, pm 19 5 4, po 20 (.isl 2 (.t 18) (.t 19)) 5, po 21 (.fadd 0 (.t 20)) 6, po 22 (.load false 1 (.t 21)) 7, pm 23 1 8, po 24 (.bin .eql (.t 22) (.t 23)) 9])
  (.cond (.t 24) (.seq (.region [pm 25 0 0, po 26 (.nilc (.t 25)) 1, po 27 (.fadd 2 (.t 26)) 2, po 28 (.load false 1 (.t 27)) 3, pm 29 5 4, po 30 (.isl 2 (.t 28) (.t 29)) 5, po 31 (.fadd 1 (.t 30)) 6, po 32 (.load false 1 (.t 31)) 7, pm 4 32 8])
  .ret) .skip)))
  (.region [pm 13 5 0, po 14 (.bin .add (.t 13) (.c (.i .i64 1))) 1, pm 5 14 2]))))))
  (.seq (.region [po 4 (.mv (.c (.i .i64 0))) 0])
  .ret)))
def x27 : XFun := ⟨x27b, [(.t 4)]⟩
theorem x27_ok : compF Try.prog 27 = some x27 := by kernel_rfl
/-- bollard/topic.clamp (14) -/
def x28b : XC := (.seq (.region [po 4 (.mv (.c (.i .i64 0))) 0])
  (.seq (.seq (.region [pm 5 0 0, po 6 (.bin .lss (.t 5) (.c (.i .i64 1))) 1, pm 7 6 2, pg 8 (.mv (.t 0)) 7 false 3, pg 9 (.mv (.t 1)) 7 false 4, pg 10 (.bin .gtr (.t 8) (.t 9)) 7 false 5, po 11 (.pick (.t 7) (.c (.b true)) (.t 10)) 6])
  (.cond (.t 11) (.seq (.region [pm 12 1 0, pm 4 12 1])
  .ret) .skip))
  (.seq (.region [pm 13 0 0, pm 4 13 1])
  .ret)))
def x28 : XFun := ⟨x28b, [(.t 4)]⟩
theorem x28_ok : compF Try.prog 28 = some x28 := by kernel_rfl
/-- (*bollard/topic.Relay).at (26) -/
def x29b : XC := (.seq (.region [po 4 (.mv (.c (.p none))) 0])
  (.seq (.seq (.region [pm 5 0 0, po 6 (.nilq 0 false (.t 5)) 1, pm 7 6 2, pg 8 (.mv (.t 1)) 7 false 3, pg 9 (.bin .lss (.t 8) (.c (.i .i64 0))) 7 false 4, po 10 (.pick (.t 7) (.c (.b true)) (.t 9)) 5, pm 11 10 6, pg 12 (.mv (.t 1)) 11 false 7, pg 13 (.mv (.t 0)) 11 false 8, pg 14 (.nilc (.t 13)) 11 false 9, pg 15 (.fadd 0 (.t 14)) 11 false 10, pg 16 (.load false 1 (.t 15)) 11 false 11, pg 17 (.lenx (.t 16)) 11 false 12, pg 18 (.bin .geq (.t 12) (.t 17)) 11 false 13, po 19 (.pick (.t 11) (.c (.b true)) (.t 18)) 14])
  (.cond (.t 19) (.seq (.region [po 4 (.mv (.c (.p none))) 0])
  .ret) .skip))
  (.seq (.region [pm 20 0 0, po 21 (.nilc (.t 20)) 1, po 22 (.fadd 0 (.t 21)) 2, po 23 (.load false 1 (.t 22)) 3, pm 24 1 4, po 25 (.isl 4 (.t 23) (.t 24)) 5, pm 4 25 6])
  .ret)))
def x29 : XFun := ⟨x29b, [(.t 4)]⟩
theorem x29_ok : compF Try.prog 29 = some x29 := by kernel_rfl
/-- slices.Clone[[]byte,byte] (8) -/
def x30b : XC := (.seq (.region [po 2 (.mv (.c (.sl none 0 0 0))) 0])
  (.seq (.seq (.region [pm 3 0 0, po 4 (.nilq 1 false (.t 3)) 1])
  (.cond (.t 4) (.seq (.region [po 2 (.mv (.c (.sl none 0 0 0))) 0])
  .ret) .skip))
  (.seq (.region [po 5 (.bslice [] [] 0) 0, pm 6 0 1, po 7 (.append 1 1 (.t 5) (.t 6)) 2, pm 2 7 3])
  .ret)))
def x30 : XFun := ⟨x30b, [(.t 2)]⟩
theorem x30_ok : compF Try.prog 30 = some x30 := by kernel_rfl
/-- (*bollard/topic.party).hand (55) -/
def x31b : XC := (.seq (.region [po 4 (.box (.t 1)) 0, po 6 (.mv (.c (.b false))) 1])
  (.seq (.draw [pm 10 0 0, ⟨(some 11), (.nilc (.t 10)), none, 1, [0]⟩, ⟨(some 12), (.fadd 1 (.t 11)), none, 2, [0, 1]⟩, po 14 (.fadd 0 (.t 4)) 4, ⟨(some 13), (.load false 1 (.t 12)), none, 3, [0, 1, 2]⟩, ⟨(some 15), (.load false 1 (.t 14)), none, 5, [4]⟩, ⟨(some 16), (.lookup 1 (.agg [(.i .i64 0), (.b false)]) (.t 13) (.t 15) true), none, 6, [0, 1, 2, 3, 4, 5]⟩, ⟨(some 9), (.mv (.t 16)), none, 7, [0, 1, 2, 3, 4, 5, 6]⟩, ⟨(some 17), (.ext (.t 9) 0), none, 8, [0, 1, 2, 3, 4, 5, 6, 7]⟩, ⟨(some 18), (.ext (.t 9) 1), none, 9, [0, 1, 2, 3, 4, 5, 6, 7]⟩, po 7 (.alloc [(.i .i64 0), (.b false)]) 10, ⟨none, (.store 2 (.t 7) (.t 17)), none, 11, [0, 1, 2, 3, 4, 5, 6, 7, 8, 10]⟩, ⟨(some 8), (.mv (.t 18)), none, 12, [0, 1, 2, 3, 4, 5, 6, 7, 8, 9, 10, 11]⟩])
  (.seq (.block 0 (.seq (.region [pm 20 0 0, po 21 (.nilc (.t 20)) 1, po 22 (.fadd 0 (.t 21)) 2, po 23 (.load false 1 (.t 22)) 3, po 24 (.unx .not (.t 23)) 4, pm 25 24 5, pg 26 (.mv (.t 8)) 25 false 6, pg 27 (.unx .not (.t 26)) 25 false 7, po 28 (.pick (.t 25) (.c (.b true)) (.t 27)) 8, pm 29 28 9, pg 30 (.fadd 1 (.t 7)) 29 false 10, pg 31 (.load false 1 (.t 30)) 29 false 11, po 32 (.pick (.t 29) (.c (.b true)) (.t 31)) 12, pm 19 32 13])
  (.cond (.t 19) (.seq (.region [po 6 (.mv (.c (.b false))) 0])
  .ret) (.seq (.region [pm 34 0 0, po 35 (.nilc (.t 34)) 1, po 36 (.fadd 2 (.t 35)) 2, po 37 (.load false 1 (.t 36)) 3, po 38 (.lenx (.t 37)) 4, pm 39 2 5, po 40 (.bin .geq (.t 38) (.t 39)) 6, pm 33 40 7])
  (.cond (.t 33) (.seq (.region [pm 41 0 0, po 42 (.load true 5 (.t 4)) 1, po 43 (.load true 2 (.t 7)) 2, po 44 (.call (.c (.fn (.func 44) [] [])) [(.t 41), (.t 42), (.t 43)]) 3, pm 6 44 4])
  .ret) .skip)))))
  (.seq (.draw [pm 45 0 0, pm 46 0 1, ⟨(some 47), (.nilc (.t 46)), none, 2, [1]⟩, ⟨(some 48), (.fadd 2 (.t 47)), none, 3, [1, 2]⟩, ⟨(some 49), (.load false 1 (.t 48)), none, 4, [1, 2, 3]⟩, po 50 (.load true 5 (.t 4)) 5, ⟨(some 51), (.bslice zAA  [(0, 5, (.t 50))] 1), none, 6, [5]⟩, ⟨(some 52), (.append 5 64 (.t 49) (.t 51)), none, 7, [1, 2, 3, 4, 5, 6]⟩, ⟨(some 53), (.nilc (.t 45)), none, 8, [0, 1, 2, 3, 4, 5, 6, 7]⟩, ⟨(some 54), (.fadd 2 (.t 53)), none, 9, [0, 1, 2, 3, 4, 5, 6, 7, 8]⟩, ⟨none, (.store 1 (.t 54) (.t 52)), none, 10, [0, 1, 2, 3, 4, 5, 6, 7, 8, 9]⟩])
  (.seq (.region [po 6 (.mv (.c (.b true))) 0])
  .ret)))))
def x31 : XFun := ⟨x31b, [(.t 6)]⟩
theorem x31_ok : compF Try.prog 31 = some x31 := by kernel_rfl
/-- slices.Delete[[]bollard/topic.Item,bollard/topic.Item] (33) -/
def x32b : XC := (.seq (.region [po 6 (.mv (.c (.sl none 0 0 0))) 0])
  (.seq (.region [pm 8 0 0, pm 9 1 1, pm 10 2 2, pm 11 0 3, po 12 (.lenx (.t 11)) 4, po 13 (.slsl 5 (.t 8) (some (.t 9)) (some (.t 10)) (some (.t 12))) 5])
  (.seq (.seq (.region [pm 14 1 0, pm 15 2 1, po 16 (.bin .eql (.t 14) (.t 15)) 2])
  (.cond (.t 16) (.seq (.region [pm 17 0 0, pm 6 17 1])
  .ret) .skip))
  (.seq (.region [pm 18 0 0, po 19 (.lenx (.t 18)) 1, pm 7 19 2])
  (.seq (.draw [pm 20 0 0, pm 21 1 1, ⟨(some 22), (.slsl 5 (.t 20) none (some (.t 21)) none), none, 2, [0, 1]⟩, pm 23 0 3, pm 24 2 4, ⟨(some 25), (.slsl 5 (.t 23) (some (.t 24)) none none), none, 5, [3, 4]⟩, ⟨(some 26), (.append 5 64 (.t 22) (.t 25)), none, 6, [0, 1, 2, 3, 4, 5]⟩, ⟨(some 0), (.mv (.t 26)), none, 7, [0, 1, 2, 3, 4, 5, 6]⟩])
  (.seq (.region [pm 27 0 0, pm 28 0 1, po 29 (.lenx (.t 28)) 2, pm 30 7 3, po 31 (.slsl 5 (.t 27) (some (.t 29)) (some (.t 30)) none) 4, ⟨none, (.clrs zAA  (.t 31)), none, 5, []⟩])
  (.seq (.region [pm 32 0 0, pm 6 32 1])
  .ret)))))))
def x32 : XFun := ⟨x32b, [(.t 6)]⟩
theorem x32_ok : compF Try.prog 32 = some x32 := by kernel_rfl
/-- slices.DeleteFunc[[]bollard/topic.Item,bollard/topic.Item] (42) -/
def x33b : XC := (.seq (.region [po 4 (.mv (.c (.sl none 0 0 0))) 0])
  (.seq (.region [pm 8 0 0, pm 9 1 1, po 10 (.call (.c (.fn (.func 45) [] [])) [(.t 8), (.t 9)]) 2, pm 5 10 3])
  (.seq (.seq (.region [pm 11 5 0, po 12 (.bin .eql (.t 11) (.c (.i .i64 (-1)))) 1])
  (.cond (.t 12) (.seq (.region [pm 13 0 0, pm 4 13 1])
  .ret) .skip))
  (.seq (.seq (.region [pm 14 5 0, po 15 (.bin .add (.t 14) (.c (.i .i64 1))) 1, pm 6 15 2])
  (.block 0 (.loop (.seq (.seq (.region [pm 16 6 0, pm 17 0 1, po 18 (.lenx (.t 17)) 2, po 19 (.bin .lss (.t 16) (.t 18)) 3])
  (.cond (.t 19) .skip (.exit 0)))
  (.seq (.block 1 (.seq (.region [pm 22 0 0, pm 23 6 1, po 24 (.isl 5 (.t 22) (.t 23)) 2, po 25 (.load true 5 (.t 24)) 3, ⟨(some 7), (.alloc zAA ), none, 4, []⟩, ⟨none, (.store 5 (.t 7) (.t 25)), none, 5, []⟩])
  (.seq (.region [pm 26 1 0, po 27 (.load true 5 (.t 7)) 1, po 28 (.call (.t 26) [(.t 27)]) 2, po 29 (.unx .not (.t 28)) 3])
  (.cond (.t 29) (.seq (.region [pm 30 0 0, pm 31 5 1, po 32 (.load true 5 (.t 7)) 2, po 33 (.isl 5 (.t 30) (.t 31)) 3, ⟨none, (.store 5 (.t 33) (.t 32)), none, 4, []⟩])
  (.region [pm 34 5 0, po 35 (.bin .add (.t 34) (.c (.i .i64 1))) 1, pm 5 35 2])) .skip))))
  (.region [pm 20 6 0, po 21 (.bin .add (.t 20) (.c (.i .i64 1))) 1, pm 6 21 2]))))))
  (.seq (.region [pm 36 0 0, pm 37 5 1, po 38 (.slsl 5 (.t 36) (some (.t 37)) none none) 2, ⟨none, (.clrs zAA  (.t 38)), none, 3, []⟩])
  (.seq (.region [pm 39 0 0, pm 40 5 1, po 41 (.slsl 5 (.t 39) none (some (.t 40)) none) 2, pm 4 41 3])
  .ret))))))
def x33 : XFun := ⟨x33b, [(.t 4)]⟩
theorem x33_ok : compF Try.prog 33 = some x33 := by kernel_rfl
/-- (*bollard/topic.Relay).Drop$1 (8) -/
def x34b : XC := (.seq (.region [po 2 (.box (.t 0)) 0, po 3 (.mv (.c (.b false))) 1])
  (.seq (.region [po 4 (.fadd 0 (.t 2)) 0, po 5 (.load false 1 (.t 4)) 1, po 6 (.load false 1 (.t 1)) 2, po 7 (.bin .eql (.t 5) (.t 6)) 3, pm 3 7 4])
  .ret))
def x34 : XFun := ⟨x34b, [(.t 3)]⟩
theorem x34_ok : compF Try.prog 34 = some x34 := by kernel_rfl
/-- (*bollard/bollardref19.Relay).Join (24) -/
def x35b : XC := (.seq (.region [po 4 (.mv (.c (.i .i64 0))) 0])
  (.seq (.seq (.region [pm 5 0 0, pm 6 1 1, po 7 (.call (.c (.fn (.func 42) [] [])) [(.t 5), (.t 6)]) 2, po 8 (.unx .not (.t 7)) 3])
  (.cond (.t 8) (.seq (.region [po 4 (.mv (.c (.i .i64 1))) 0])
  .ret) .skip))
  (.seq (.seq (.region [pm 9 0 0, po 10 (.nilc (.t 9)) 1, po 11 (.fadd 0 (.t 10)) 2, po 12 (.load false 1 (.t 11)) 3, pm 13 1 4, po 14 (.isl 4 (.t 12) (.t 13)) 5, po 15 (.fadd 0 (.t 14)) 6, po 16 (.load false 1 (.t 15)) 7])
  (.cond (.t 16) (.seq (.region [po 4 (.mv (.c (.i .i64 8))) 0])
  .ret) .skip))
  (.seq (.region [pm 17 0 0, po 18 (.nilc (.t 17)) 1, po 19 (.fadd 0 (.t 18)) 2, po 20 (.load false 1 (.t 19)) 3, pm 21 1 4, po 22 (.build zAB  [(0, 1, (.c (.b true)))]) 5, po 23 (.isl 4 (.t 20) (.t 21)) 6, ⟨none, (.store 4 (.t 23) (.t 22)), none, 7, []⟩])
  (.seq (.region [po 4 (.mv (.c (.i .i64 0))) 0])
  .ret)))))
def x35 : XFun := ⟨x35b, [(.t 4)]⟩
theorem x35_ok : compF Try.prog 35 = some x35 := by kernel_rfl
/-- (*bollard/bollardref19.Relay).Leave (25) -/
def x36b : XC := (.seq (.region [po 4 (.mv (.c (.i .i64 0))) 0])
  (.seq (.seq (.region [pm 5 0 0, pm 6 1 1, po 7 (.call (.c (.fn (.func 42) [] [])) [(.t 5), (.t 6)]) 2, po 8 (.unx .not (.t 7)) 3])
  (.cond (.t 8) (.seq (.region [po 4 (.mv (.c (.i .i64 1))) 0])
  .ret) .skip))
  (.seq (.seq (.region [pm 9 0 0, po 10 (.nilc (.t 9)) 1, po 11 (.fadd 0 (.t 10)) 2, po 12 (.load false 1 (.t 11)) 3, pm 13 1 4, po 14 (.isl 4 (.t 12) (.t 13)) 5, po 15 (.fadd 0 (.t 14)) 6, po 16 (.load false 1 (.t 15)) 7, po 17 (.unx .not (.t 16)) 8])
  (.cond (.t 17) (.seq (.region [po 4 (.mv (.c (.i .i64 11))) 0])
  .ret) .skip))
  (.seq (.region [pm 18 0 0, po 19 (.nilc (.t 18)) 1, po 20 (.fadd 0 (.t 19)) 2, po 21 (.load false 1 (.t 20)) 3, pm 22 1 4, po 23 (.build zAB  []) 5, po 24 (.isl 4 (.t 21) (.t 22)) 6, ⟨none, (.store 4 (.t 24) (.t 23)), none, 7, []⟩])
  (.seq (.region [po 4 (.mv (.c (.i .i64 0))) 0])
  .ret)))))
def x36 : XFun := ⟨x36b, [(.t 4)]⟩
theorem x36_ok : compF Try.prog 36 = some x36 := by kernel_rfl
/-- (*bollard/bollardref19.Relay).Subscribe (92) -/
def x37b : XC := (.seq (.region [po 8 (.mv (.c (.i .i64 0))) 0])
  (.seq (.seq (.region [pm 11 0 0, pm 12 1 1, po 13 (.call (.c (.fn (.func 42) [] [])) [(.t 11), (.t 12)]) 2, po 14 (.unx .not (.t 13)) 3, pm 15 14 4, pg 16 (.mv (.t 3)) 15 false 5, pg 17 (.bin .lss (.t 16) (.c (.i .i64 0))) 15 false 6, po 18 (.pick (.t 15) (.c (.b true)) (.t 17)) 7, pm 19 18 8, pg 20 (.mv (.t 3)) 19 false 9, pg 21 (.bin .gtr (.t 20) (.c (.i .i64 2))) 19 false 10, po 22 (.pick (.t 19) (.c (.b true)) (.t 21)) 11, pm 23 22 12, pg 24 (.mv (.t 2)) 23 false 13, ⟨(some 25), (.bin .eql (.t 24) (.c (.s ⟨#[]⟩))), (some (23, false)), 14, []⟩, po 26 (.pick (.t 23) (.c (.b true)) (.t 25)) 15])
  (.cond (.t 26) (.seq (.region [po 8 (.mv (.c (.i .i64 1))) 0])
  .ret) .skip))
  (.seq (.seq (.region [pm 27 2 0, po 28 (.lens (.t 27)) 1, po 29 (.bin .gtr (.t 28) (.c (.i .i64 256))) 2])
  (.cond (.t 29) (.seq (.region [po 8 (.mv (.c (.i .i64 10))) 0])
  .ret) .skip))
  (.seq (.region [pm 30 0 0, po 31 (.nilc (.t 30)) 1, po 32 (.fadd 0 (.t 31)) 2, po 33 (.load false 1 (.t 32)) 3, pm 34 1 4, po 35 (.isl 4 (.t 33) (.t 34)) 5, pm 9 35 6])
  (.seq (.seq (.region [pm 36 9 0, po 37 (.nilc (.t 36)) 1, po 38 (.fadd 0 (.t 37)) 2, po 39 (.load false 1 (.t 38)) 3, po 40 (.unx .not (.t 39)) 4])
  (.cond (.t 40) (.seq (.region [po 8 (.mv (.c (.i .i64 11))) 0])
  .ret) .skip))
  (.seq (.region [pm 41 9 0, pm 42 2 1, po 43 (.call (.c (.fn (.func 43) [] [])) [(.t 41), (.t 42)]) 2, pm 10 43 3])
  (.seq (.seq (.region [pm 44 10 0, po 45 (.bin .geq (.t 44) (.c (.i .i64 0))) 1])
  (.cond (.t 45) (.seq (.seq (.region [pm 46 9 0, po 47 (.nilc (.t 46)) 1, po 48 (.fadd 1 (.t 47)) 2, po 49 (.load false 1 (.t 48)) 3, pm 50 10 4, po 51 (.isl 3 (.t 49) (.t 50)) 5, po 52 (.fadd 2 (.t 51)) 6, po 53 (.load false 1 (.t 52)) 7, po 54 (.unx .not (.t 53)) 8])
  (.cond (.t 54) (.seq (.region [po 8 (.mv (.c (.i .i64 8))) 0])
  .ret) .skip))
  (.draw [pm 55 9 0, pm 57 9 2, ⟨(some 58), (.nilc (.t 57)), none, 3, [2]⟩, ⟨(some 59), (.fadd 1 (.t 58)), none, 4, [2, 3]⟩, pm 61 10 6, pm 64 9 9, ⟨(some 65), (.nilc (.t 64)), none, 10, [9]⟩, ⟨(some 66), (.fadd 1 (.t 65)), none, 11, [9, 10]⟩, pm 68 10 13, ⟨(some 69), (.bin .add (.t 68) (.c (.i .i64 1))), none, 14, [13]⟩, ⟨(some 60), (.load false 1 (.t 59)), none, 5, [2, 3, 4]⟩, ⟨(some 62), (.slsl 3 (.t 60) none (some (.t 61)) none), none, 7, [2, 3, 4, 5, 6]⟩, ⟨(some 67), (.load false 1 (.t 66)), none, 12, [9, 10, 11]⟩, ⟨(some 70), (.slsl 3 (.t 67) (some (.t 69)) none none), none, 15, [9, 10, 11, 12, 13, 14]⟩, po 56 (.bslice [] [] 0) 1, ⟨(some 63), (.append 3 32 (.t 56) (.t 62)), none, 8, [1, 2, 3, 4, 5, 6, 7]⟩, ⟨(some 71), (.append 3 32 (.t 63) (.t 70)), none, 16, [1, 2, 3, 4, 5, 6, 7, 8, 9, 10, 11, 12, 13, 14, 15]⟩, ⟨(some 72), (.nilc (.t 55)), none, 17, [0, 1, 2, 3, 4, 5, 6, 7, 8, 9, 10, 11, 12, 13, 14, 15, 16]⟩, ⟨(some 73), (.fadd 1 (.t 72)), none, 18, [0, 1, 2, 3, 4, 5, 6, 7, 8, 9, 10, 11, 12, 13, 14, 15, 16, 17]⟩, ⟨none, (.store 1 (.t 73) (.t 71)), none, 19, [0, 1, 2, 3, 4, 5, 6, 7, 8, 9, 10, 11, 12, 13, 14, 15, 16, 17, 18]⟩])) .skip))
  (.seq (.seq (.region [pm 74 9 0, po 75 (.nilc (.t 74)) 1, po 76 (.fadd 1 (.t 75)) 2, po 77 (.load false 1 (.t 76)) 3, po 78 (.lenx (.t 77)) 4, po 79 (.bin .geq (.t 78) (.c (.i .i64 64))) 5])
  (.cond (.t 79) (.seq (.region [po 8 (.mv (.c (.i .i64 9))) 0])
  .ret) .skip))
  (.seq (.region [pm 80 9 0, pm 81 9 1, po 82 (.nilc (.t 81)) 2, po 83 (.fadd 1 (.t 82)) 3, po 84 (.load false 1 (.t 83)) 4, pm 85 2 5, pm 86 3 6, ⟨(some 87), (.build [(.s ⟨#[]⟩), (.i .i64 0), (.b false)] [(0, 1, (.t 85)), (1, 1, (.t 86)), (2, 1, (.c (.b false)))]), none, 7, []⟩, ⟨(some 88), (.bslice [(.s ⟨#[]⟩), (.i .i64 0), (.b false)] [(0, 3, (.t 87))] 1), none, 8, []⟩, po 89 (.append 3 32 (.t 84) (.t 88)) 9, po 90 (.nilc (.t 80)) 10, po 91 (.fadd 1 (.t 90)) 11, ⟨none, (.store 1 (.t 91) (.t 89)), none, 12, []⟩])
  (.seq (.region [po 8 (.mv (.c (.i .i64 0))) 0])
  .ret))))))))))
def x37 : XFun := ⟨x37b, [(.t 8)]⟩
theorem x37_ok : compF Try.prog 37 = some x37 := by kernel_rfl
/-- (*bollard/bollardref19.Relay).Drop (83) -/
def x38b : XC := (.seq (.region [po 6 (.mv (.c (.i .i64 0))) 0])
  (.seq (.seq (.region [pm 11 0 0, pm 12 1 1, po 13 (.call (.c (.fn (.func 42) [] [])) [(.t 11), (.t 12)]) 2, po 14 (.unx .not (.t 13)) 3])
  (.cond (.t 14) (.seq (.region [po 6 (.mv (.c (.i .i64 1))) 0])
  .ret) .skip))
  (.seq (.region [pm 15 0 0, po 16 (.nilc (.t 15)) 1, po 17 (.fadd 0 (.t 16)) 2, po 18 (.load false 1 (.t 17)) 3, pm 19 1 4, po 20 (.isl 4 (.t 18) (.t 19)) 5, pm 7 20 6])
  (.seq (.seq (.region [pm 21 7 0, po 22 (.nilc (.t 21)) 1, po 23 (.fadd 0 (.t 22)) 2, po 24 (.load false 1 (.t 23)) 3, po 25 (.unx .not (.t 24)) 4])
  (.cond (.t 25) (.seq (.region [po 6 (.mv (.c (.i .i64 11))) 0])
  .ret) .skip))
  (.seq (.region [pm 26 7 0, pm 27 2 1, po 28 (.call (.c (.fn (.func 43) [] [])) [(.t 26), (.t 27)]) 2, pm 8 28 3])
  (.seq (.seq (.region [pm 29 8 0, po 30 (.bin .lss (.t 29) (.c (.i .i64 0))) 1])
  (.cond (.t 30) (.seq (.region [po 6 (.mv (.c (.i .i64 12))) 0])
  .ret) .skip))
  (.seq (.draw [pm 31 7 0, pm 33 7 2, ⟨(some 34), (.nilc (.t 33)), none, 3, [2]⟩, ⟨(some 35), (.fadd 1 (.t 34)), none, 4, [2, 3]⟩, pm 37 8 6, pm 40 7 9, ⟨(some 41), (.nilc (.t 40)), none, 10, [9]⟩, ⟨(some 42), (.fadd 1 (.t 41)), none, 11, [9, 10]⟩, pm 44 8 13, ⟨(some 45), (.bin .add (.t 44) (.c (.i .i64 1))), none, 14, [13]⟩, ⟨(some 36), (.load false 1 (.t 35)), none, 5, [2, 3, 4]⟩, ⟨(some 38), (.slsl 3 (.t 36) none (some (.t 37)) none), none, 7, [2, 3, 4, 5, 6]⟩, ⟨(some 43), (.load false 1 (.t 42)), none, 12, [9, 10, 11]⟩, ⟨(some 46), (.slsl 3 (.t 43) (some (.t 45)) none none), none, 15, [9, 10, 11, 12, 13, 14]⟩, po 32 (.bslice [] [] 0) 1, ⟨(some 39), (.append 3 32 (.t 32) (.t 38)), none, 8, [1, 2, 3, 4, 5, 6, 7]⟩, ⟨(some 47), (.append 3 32 (.t 39) (.t 46)), none, 16, [1, 2, 3, 4, 5, 6, 7, 8, 9, 10, 11, 12, 13, 14, 15]⟩, ⟨(some 48), (.nilc (.t 31)), none, 17, [0, 1, 2, 3, 4, 5, 6, 7, 8, 9, 10, 11, 12, 13, 14, 15, 16]⟩, ⟨(some 49), (.fadd 1 (.t 48)), none, 18, [0, 1, 2, 3, 4, 5, 6, 7, 8, 9, 10, 11, 12, 13, 14, 15, 16, 17]⟩, ⟨none, (.store 1 (.t 49) (.t 47)), none, 19, [0, 1, 2, 3, 4, 5, 6, 7, 8, 9, 10, 11, 12, 13, 14, 15, 16, 17, 18]⟩])
  (.seq (.region [po 9 (.mv (.c (.sl none 0 0 0))) 0])
  (.seq (.seq (.region [po 10 (.mv (.c (.i .i64 0))) 0])
  (.block 0 (.loop (.seq (.seq (.region [pm 50 10 0, pm 51 7 1, po 52 (.nilc (.t 51)) 2, po 53 (.fadd 2 (.t 52)) 3, po 54 (.load false 1 (.t 53)) 4, po 55 (.lenx (.t 54)) 5, po 56 (.bin .lss (.t 50) (.t 55)) 6])
  (.cond (.t 56) .skip (.exit 0)))
  (.seq (.block 1 (.seq (.region [pm 59 7 0, po 60 (.nilc (.t 59)) 1, po 61 (.fadd 2 (.t 60)) 2, po 62 (.load false 1 (.t 61)) 3, pm 63 10 4, po 64 (.isl 5 (.t 62) (.t 63)) 5, po 65 (.fadd 0 (.t 64)) 6, po 66 (.load false 1 (.t 65)) 7, pm 67 2 8, po 68 (.bin .neq (.t 66) (.t 67)) 9])
  (.cond (.t 68) (.region [pm 69 9 0, pm 70 7 1, po 71 (.nilc (.t 70)) 2, po 72 (.fadd 2 (.t 71)) 3, po 73 (.load false 1 (.t 72)) 4, pm 74 10 5, po 75 (.isl 5 (.t 73) (.t 74)) 6, po 76 (.load true 5 (.t 75)) 7, ⟨(some 77), (.bslice zAA  [(0, 5, (.t 76))] 1), none, 8, []⟩, po 78 (.append 5 64 (.t 69) (.t 77)) 9, pm 9 78 10]) .skip)))
  (.region [pm 57 10 0, po 58 (.bin .add (.t 57) (.c (.i .i64 1))) 1, pm 10 58 2]))))))
  (.seq (.region [pm 79 7 0, pm 80 9 1, po 81 (.nilc (.t 79)) 2, po 82 (.fadd 2 (.t 81)) 3, ⟨none, (.store 1 (.t 82) (.t 80)), none, 4, []⟩])
  (.seq (.region [po 6 (.mv (.c (.i .i64 0))) 0])
  .ret)))))))))))
def x38 : XFun := ⟨x38b, [(.t 6)]⟩
theorem x38_ok : compF Try.prog 38 = some x38 := by kernel_rfl
/-- (*bollard/bollardref19.Relay).Publish (138) -/
def x39b : XC := (.seq (.region [po 10 (.mv (.c (.i .i64 0))) 0, po 11 (.mv (.c (.i .i64 0))) 1])
  (.seq (.seq (.region [pm 16 0 0, pm 17 1 1, po 18 (.call (.c (.fn (.func 42) [] [])) [(.t 16), (.t 17)]) 2, po 19 (.unx .not (.t 18)) 3, pm 20 19 4, pg 21 (.mv (.t 2)) 20 false 5, ⟨(some 22), (.bin .eql (.t 21) (.c (.s ⟨#[]⟩))), (some (20, false)), 6, []⟩, po 23 (.pick (.t 20) (.c (.b true)) (.t 22)) 7])
  (.cond (.t 23) (.seq (.region [po 10 (.mv (.c (.i .i64 0))) 0, po 11 (.mv (.c (.i .i64 1))) 1])
  .ret) .skip))
  (.seq (.seq (.region [pm 24 2 0, po 25 (.lens (.t 24)) 1, po 26 (.bin .gtr (.t 25) (.c (.i .i64 256))) 2, pm 27 26 3, pg 28 (.mv (.t 4)) 27 false 4, pg 29 (.lenx (.t 28)) 27 false 5, pg 30 (.bin .gtr (.t 29) (.c (.i .i64 16384))) 27 false 6, po 31 (.pick (.t 27) (.c (.b true)) (.t 30)) 7])
  (.cond (.t 31) (.seq (.region [po 10 (.mv (.c (.i .i64 0))) 0, po 11 (.mv (.c (.i .i64 10))) 1])
  .ret) .skip))
  (.seq (.seq (.region [pm 32 0 0, po 33 (.nilc (.t 32)) 1, po 34 (.fadd 0 (.t 33)) 2, po 35 (.load false 1 (.t 34)) 3, pm 36 1 4, po 37 (.isl 4 (.t 35) (.t 36)) 5, po 38 (.fadd 0 (.t 37)) 6, po 39 (.load false 1 (.t 38)) 7, po 40 (.unx .not (.t 39)) 8])
  (.cond (.t 40) (.seq (.region [po 10 (.mv (.c (.i .i64 0))) 0, po 11 (.mv (.c (.i .i64 11))) 1])
  .ret) .skip))
  (.seq (.region [pm 41 2 0, pm 42 1 1, pm 43 0 2, pm 44 2 3, po 45 (.call (.c (.fn (.func 27) [] [])) [(.t 43), (.t 44)]) 4, pm 46 3 5, pm 47 4 6, ⟨(some 48), (.build zAA  [(0, 1, (.t 41)), (1, 1, (.t 42)), (2, 1, (.t 45)), (3, 1, (.t 46)), (4, 1, (.t 47))]), none, 7, []⟩, ⟨(some 12), (.alloc zAA ), none, 8, []⟩, ⟨none, (.store 5 (.t 12) (.t 48)), none, 9, []⟩])
  (.seq (.region [po 13 (.mv (.c (.i .i64 0))) 0])
  (.seq (.block 0 (.loop (.seq (.seq (.region [pm 49 13 0, pm 50 0 1, po 51 (.nilc (.t 50)) 2, po 52 (.fadd 2 (.t 51)) 3, po 53 (.load false 1 (.t 52)) 4, po 54 (.lenx (.t 53)) 5, po 55 (.bin .lss (.t 49) (.t 54)) 6, pm 56 55 7, pg 57 (.mv (.t 0)) 56 true 8, pg 58 (.nilc (.t 57)) 56 true 9, pg 59 (.fadd 2 (.t 58)) 56 true 10, pg 60 (.load false 1 (.t 59)) 56 true 11, pg 61 (.mv (.t 13)) 56 true 12, pg 62 (.isl 2 (.t 60) (.t 61)) 56 true 13, pg 63 (.fadd 0 (.t 62)) 56 true 14, pg 64 (.load false 1 (.t 63)) 56 true 15, pg 65 (.mv (.t 2)) 56 true 16, pg 66 (.bin .neq (.t 64) (.t 65)) 56 true 17, po 67 (.pick (.t 56) (.t 66) (.c (.b false))) 18])
  (.cond (.t 67) .skip (.exit 0)))
  (.block 1 (.region [pm 68 13 0, po 69 (.bin .add (.t 68) (.c (.i .i64 1))) 1, pm 13 69 2])))))
  (.seq (.seq (.region [pm 70 13 0, pm 71 0 1, po 72 (.nilc (.t 71)) 2, po 73 (.fadd 2 (.t 72)) 3, po 74 (.load false 1 (.t 73)) 4, po 75 (.lenx (.t 74)) 5, po 76 (.bin .eql (.t 70) (.t 75)) 6])
  (.cond (.t 76) (.region [pm 77 0 0, pm 78 0 1, po 79 (.nilc (.t 78)) 2, po 80 (.fadd 2 (.t 79)) 3, po 81 (.load false 1 (.t 80)) 4, pm 82 2 5, ⟨(some 83), (.build [(.s ⟨#[]⟩), (.i .i64 0)] [(0, 1, (.t 82))]), none, 6, []⟩, ⟨(some 84), (.bslice [(.s ⟨#[]⟩), (.i .i64 0)] [(0, 2, (.t 83))] 1), none, 7, []⟩, po 85 (.append 2 24 (.t 81) (.t 84)) 8, po 86 (.nilc (.t 77)) 9, po 87 (.fadd 2 (.t 86)) 10, ⟨none, (.store 1 (.t 87) (.t 85)), none, 11, []⟩]) .skip))
  (.seq (.region [pm 88 0 0, po 89 (.nilc (.t 88)) 1, po 90 (.fadd 2 (.t 89)) 2, po 91 (.load false 1 (.t 90)) 3, pm 92 13 4, po 93 (.isl 2 (.t 91) (.t 92)) 5, po 94 (.fadd 1 (.t 93)) 6, po 95 (.load false 1 (.t 94)) 7, po 96 (.bin .add (.t 95) (.c (.i .i64 1))) 8, po 97 (.isl 2 (.t 91) (.t 92)) 9, po 98 (.fadd 1 (.t 97)) 10, ⟨none, (.store 1 (.t 98) (.t 96)), none, 11, []⟩])
  (.seq (.region [po 14 (.mv (.c (.i .i64 0))) 0])
  (.seq (.seq (.region [po 15 (.mv (.c (.i .i64 0))) 0])
  (.block 2 (.loop (.seq (.seq (.region [pm 99 15 0, pm 100 0 1, po 101 (.nilc (.t 100)) 2, po 102 (.fadd 0 (.t 101)) 3, po 103 (.load false 1 (.t 102)) 4, po 104 (.lenx (.t 103)) 5, po 105 (.bin .lss (.t 99) (.t 104)) 6])
  (.cond (.t 105) .skip (.exit 2)))
  (.seq (.block 3 (.seq (.draw [pm 108 15 0, pm 109 1 1, ⟨(some 110), (.bin .neq (.t 108) (.t 109)), none, 2, [0, 1]⟩, ⟨(some 111), (.mv (.t 110)), none, 3, [0, 1, 2]⟩, ⟨(some 112), (.mv (.t 0)), (some (111, true)), 4, [0, 1, 2, 3]⟩, ⟨(some 113), (.nilc (.t 112)), (some (111, true)), 5, [0, 1, 2, 3, 4]⟩, ⟨(some 114), (.fadd 0 (.t 113)), (some (111, true)), 6, [0, 1, 2, 3, 4, 5]⟩, ⟨(some 116), (.mv (.t 15)), (some (111, true)), 8, [0, 1, 2, 3]⟩, ⟨(some 115), (.load false 1 (.t 114)), (some (111, true)), 7, [0, 1, 2, 3, 4, 5, 6]⟩, ⟨(some 117), (.isl 4 (.t 115) (.t 116)), (some (111, true)), 9, [0, 1, 2, 3, 4, 5, 6, 7, 8]⟩, ⟨(some 118), (.fadd 0 (.t 117)), (some (111, true)), 10, [0, 1, 2, 3, 4, 5, 6, 7, 8, 9]⟩, ⟨(some 119), (.load false 1 (.t 118)), (some (111, true)), 11, [0, 1, 2, 3, 4, 5, 6, 7, 8, 9, 10]⟩, ⟨(some 120), (.pick (.t 111) (.t 119) (.c (.b false))), none, 12, [0, 1, 2, 3, 4, 5, 6, 7, 8, 9, 10, 11]⟩, ⟨(some 121), (.mv (.t 120)), none, 13, [0, 1, 2, 3, 4, 5, 6, 7, 8, 9, 10, 11, 12]⟩, ⟨(some 122), (.mv (.t 0)), (some (121, true)), 14, [0, 1, 2, 3, 4, 5, 6, 7, 8, 9, 10, 11, 12, 13]⟩, ⟨(some 123), (.nilc (.t 122)), (some (121, true)), 15, [0, 1, 2, 3, 4, 5, 6, 7, 8, 9, 10, 11, 12, 13, 14]⟩, ⟨(some 124), (.fadd 0 (.t 123)), (some (121, true)), 16, [0, 1, 2, 3, 4, 5, 6, 7, 8, 9, 10, 11, 12, 13, 14, 15]⟩, ⟨(some 126), (.mv (.t 15)), (some (121, true)), 18, [0, 1, 2, 3, 4, 5, 6, 7, 8, 9, 10, 11, 12, 13]⟩, ⟨(some 129), (.mv (.t 0)), (some (121, true)), 21, [0, 1, 2, 3, 4, 5, 6, 7, 8, 9, 10, 11, 12, 13]⟩, ⟨(some 130), (.nilc (.t 129)), (some (121, true)), 22, [0, 1, 2, 3, 4, 5, 6, 7, 8, 9, 10, 11, 12, 13, 21]⟩, ⟨(some 131), (.fadd 1 (.t 130)), (some (121, true)), 23, [0, 1, 2, 3, 4, 5, 6, 7, 8, 9, 10, 11, 12, 13, 21, 22]⟩, ⟨(some 125), (.load false 1 (.t 124)), (some (121, true)), 17, [0, 1, 2, 3, 4, 5, 6, 7, 8, 9, 10, 11, 12, 13, 14, 15, 16]⟩, ⟨(some 127), (.isl 4 (.t 125) (.t 126)), (some (121, true)), 19, [0, 1, 2, 3, 4, 5, 6, 7, 8, 9, 10, 11, 12, 13, 14, 15, 16, 17, 18]⟩, ⟨(some 128), (.load true 5 (.t 12)), (some (121, true)), 20, [0, 1, 2, 3, 4, 5, 6, 7, 8, 9, 10, 11, 12, 13]⟩, ⟨(some 132), (.load false 1 (.t 131)), (some (121, true)), 24, [0, 1, 2, 3, 4, 5, 6, 7, 8, 9, 10, 11, 12, 13, 21, 22, 23]⟩, ⟨(some 133), (.call (.c (.fn (.func 46) [] [])) [(.t 127), (.t 128), (.t 132)]), (some (121, true)), 25, [0, 1, 2, 3, 4, 5, 6, 7, 8, 9, 10, 11, 12, 13, 14, 15, 16, 17, 18, 19, 20, 21, 22, 23, 24]⟩, ⟨(some 134), (.pick (.t 121) (.t 133) (.c (.b false))), none, 26, [0, 1, 2, 3, 4, 5, 6, 7, 8, 9, 10, 11, 12, 13, 14, 15, 16, 17, 18, 19, 20, 21, 22, 23, 24, 25]⟩])
  (.cond (.t 134) (.region [pm 135 14 0, po 136 (.bin .add (.t 135) (.c (.i .i64 1))) 1, pm 14 136 2]) .skip)))
  (.region [pm 106 15 0, po 107 (.bin .add (.t 106) (.c (.i .i64 1))) 1, pm 15 107 2]))))))
  (.seq (.region [pm 137 14 0, pm 10 137 1, po 11 (.mv (.c (.i .i64 0))) 2])
  .ret))))))))))))
def x39 : XFun := ⟨x39b, [(.t 10), (.t 11)]⟩
theorem x39_ok : compF Try.prog 39 = some x39 := by kernel_rfl
/-- (*bollard/bollardref19.Relay).Pull (51) -/
def x40b : XC := (.seq (.region [⟨(some 4), (.alloc zAA ), none, 0, []⟩, po 5 (.mv (.c (.b false))) 1])
  (.seq (.seq (.region [pm 7 0 0, pm 8 1 1, po 9 (.call (.c (.fn (.func 42) [] [])) [(.t 7), (.t 8)]) 2, po 10 (.unx .not (.t 9)) 3, pm 11 10 4, pg 12 (.mv (.t 0)) 11 false 5, pg 13 (.nilc (.t 12)) 11 false 6, pg 14 (.fadd 0 (.t 13)) 11 false 7, pg 15 (.load false 1 (.t 14)) 11 false 8, pg 16 (.mv (.t 1)) 11 false 9, pg 17 (.isl 4 (.t 15) (.t 16)) 11 false 10, pg 18 (.fadd 2 (.t 17)) 11 false 11, pg 19 (.load false 1 (.t 18)) 11 false 12, pg 20 (.lenx (.t 19)) 11 false 13, pg 21 (.bin .eql (.t 20) (.c (.i .i64 0))) 11 false 14, po 22 (.pick (.t 11) (.c (.b true)) (.t 21)) 15])
  (.cond (.t 22) (.seq (.region [⟨(some 23), (.build zAA  []), none, 0, []⟩, ⟨none, (.store 5 (.t 4) (.t 23)), none, 1, []⟩, po 5 (.mv (.c (.b false))) 2])
  .ret) .skip))
  (.seq (.region [pm 24 0 0, po 25 (.nilc (.t 24)) 1, po 26 (.fadd 0 (.t 25)) 2, po 27 (.load false 1 (.t 26)) 3, pm 28 1 4, po 29 (.isl 4 (.t 27) (.t 28)) 5, po 30 (.fadd 2 (.t 29)) 6, po 31 (.load false 1 (.t 30)) 7, po 32 (.isl 5 (.t 31) (.c (.i .i64 0))) 8, po 33 (.load true 5 (.t 32)) 9, ⟨(some 6), (.alloc zAA ), none, 10, []⟩, ⟨none, (.store 5 (.t 6) (.t 33)), none, 11, []⟩])
  (.seq (.draw [pm 34 0 0, ⟨(some 35), (.nilc (.t 34)), none, 1, [0]⟩, ⟨(some 36), (.fadd 0 (.t 35)), none, 2, [0, 1]⟩, pm 38 1 4, pm 39 0 5, ⟨(some 40), (.nilc (.t 39)), none, 6, [5]⟩, ⟨(some 41), (.fadd 0 (.t 40)), none, 7, [5, 6]⟩, pm 43 1 9, ⟨(some 37), (.load false 1 (.t 36)), none, 3, [0, 1, 2]⟩, ⟨(some 42), (.load false 1 (.t 41)), none, 8, [5, 6, 7]⟩, ⟨(some 44), (.isl 4 (.t 42) (.t 43)), none, 10, [5, 6, 7, 8, 9]⟩, ⟨(some 45), (.fadd 2 (.t 44)), none, 11, [5, 6, 7, 8, 9, 10]⟩, ⟨(some 46), (.load false 1 (.t 45)), none, 12, [5, 6, 7, 8, 9, 10, 11]⟩, ⟨(some 47), (.slsl 5 (.t 46) (some (.c (.i .i64 1))) none none), none, 13, [5, 6, 7, 8, 9, 10, 11, 12]⟩, ⟨(some 48), (.isl 4 (.t 37) (.t 38)), none, 14, [0, 1, 2, 3, 4, 5, 6, 7, 8, 9, 10, 11, 12, 13]⟩, ⟨(some 49), (.fadd 2 (.t 48)), none, 15, [0, 1, 2, 3, 4, 5, 6, 7, 8, 9, 10, 11, 12, 13, 14]⟩, ⟨none, (.store 1 (.t 49) (.t 47)), none, 16, [0, 1, 2, 3, 4, 5, 6, 7, 8, 9, 10, 11, 12, 13, 14, 15]⟩])
  (.seq (.region [po 50 (.load true 5 (.t 6)) 0, ⟨none, (.store 5 (.t 4) (.t 50)), none, 1, []⟩, po 5 (.mv (.c (.b true))) 2])
  .ret)))))
def x40 : XFun := ⟨x40b, [(.cell 4 true 5), (.t 5)]⟩
theorem x40_ok : compF Try.prog 40 = some x40 := by kernel_rfl
/-- bollard/bollardlaw19.alike (40) -/
def x41b : XC := (.seq (.region [po 2 (.box (.t 0)) 0, po 3 (.box (.t 1)) 1, po 4 (.mv (.c (.b false))) 2])
  (.seq (.region [po 5 (.fadd 0 (.t 2)) 0, po 6 (.load false 1 (.t 5)) 1, po 7 (.fadd 0 (.t 3)) 2, po 8 (.load false 1 (.t 7)) 3, po 9 (.bin .eql (.t 6) (.t 8)) 4, pm 10 9 5, pg 11 (.fadd 1 (.t 2)) 10 true 6, pg 12 (.load false 1 (.t 11)) 10 true 7, pg 13 (.fadd 1 (.t 3)) 10 true 8, pg 14 (.load false 1 (.t 13)) 10 true 9, pg 15 (.bin .eql (.t 12) (.t 14)) 10 true 10, po 16 (.pick (.t 10) (.t 15) (.c (.b false))) 11, pm 17 16 12, pg 18 (.fadd 2 (.t 2)) 17 true 13, pg 19 (.load false 1 (.t 18)) 17 true 14, pg 20 (.fadd 2 (.t 3)) 17 true 15, pg 21 (.load false 1 (.t 20)) 17 true 16, pg 22 (.bin .eql (.t 19) (.t 21)) 17 true 17, po 23 (.pick (.t 17) (.t 22) (.c (.b false))) 18, pm 24 23 19, pg 25 (.fadd 3 (.t 2)) 24 true 20, pg 26 (.load false 1 (.t 25)) 24 true 21, pg 27 (.fadd 3 (.t 3)) 24 true 22, pg 28 (.load false 1 (.t 27)) 24 true 23, pg 29 (.beq false (.t 26) (.t 28)) 24 true 24, po 30 (.pick (.t 24) (.t 29) (.c (.b false))) 25, pm 31 30 26, pg 32 (.fadd 4 (.t 2)) 31 true 27, pg 33 (.load false 1 (.t 32)) 31 true 28, pg 34 (.cb2s (.t 33)) 31 true 29, pg 35 (.fadd 4 (.t 3)) 31 true 30, pg 36 (.load false 1 (.t 35)) 31 true 31, pg 37 (.cb2s (.t 36)) 31 true 32, pg 38 (.bin .eql (.t 34) (.t 37)) 31 true 33, po 39 (.pick (.t 31) (.t 38) (.c (.b false))) 34, pm 4 39 35])
  .ret))
def x41 : XFun := ⟨x41b, [(.t 4)]⟩
theorem x41_ok : compF Try.prog 41 = some x41 := by kernel_rfl
/-- (*bollard/bollardref19.Relay).there (16) -/
def x42b : XC := (.seq (.region [po 4 (.mv (.c (.b false))) 0])
  (.seq (.region [pm 5 1 0, po 6 (.bin .geq (.t 5) (.c (.i .i64 0))) 1, pm 7 6 2, pg 8 (.mv (.t 1)) 7 true 3, pg 9 (.mv (.t 0)) 7 true 4, pg 10 (.nilc (.t 9)) 7 true 5, pg 11 (.fadd 0 (.t 10)) 7 true 6, pg 12 (.load false 1 (.t 11)) 7 true 7, pg 13 (.lenx (.t 12)) 7 true 8, pg 14 (.bin .lss (.t 8) (.t 13)) 7 true 9, po 15 (.pick (.t 7) (.t 14) (.c (.b false))) 10, pm 4 15 11])
  .ret))
def x42 : XFun := ⟨x42b, [(.t 4)]⟩
theorem x42_ok : compF Try.prog 42 = some x42 := by kernel_rfl
/-- (*bollard/bollardref19.Party).at (26) -/
def x43b : XC := (.seq (.region [po 4 (.mv (.c (.i .i64 0))) 0])
  (.seq (.seq (.region [po 5 (.mv (.c (.i .i64 0))) 0])
  (.block 0 (.loop (.seq (.seq (.region [pm 6 5 0, pm 7 0 1, po 8 (.nilc (.t 7)) 2, po 9 (.fadd 1 (.t 8)) 3, po 10 (.load false 1 (.t 9)) 4, po 11 (.lenx (.t 10)) 5, po 12 (.bin .lss (.t 6) (.t 11)) 6])
  (.cond (.t 12) .skip (.exit 0)))
  (.seq (.block 1 (.seq (.region [pm 15 0 0, po 16 (.nilc (.t 15)) 1, po 17 (.fadd 1 (.t 16)) 2, po 18 (.load false 1 (.t 17)) 3, pm 19 5 4, po 20 (.isl 3 (.t 18) (.t 19)) 5, po 21 (.fadd 0 (.t 20)) 6, po 22 (.load false 1 (.t 21)) 7, pm 23 1 8, po 24 (.bin .eql (.t 22) (.t 23)) 9])
  (.cond (.t 24) (.seq (.region [pm 25 5 0, pm 4 25 1])
  .ret) .skip)))
  (.region [pm 13 5 0, po 14 (.bin .add (.t 13) (.c (.i .i64 1))) 1, pm 5 14 2]))))))
  (.seq (.region [po 4 (.mv (.c (.i .i64 (-1)))) 0])
  .ret)))
def x43 : XFun := ⟨x43b, [(.t 4)]⟩
theorem x43_ok : compF Try.prog 43 = some x43 := by kernel_rfl
/-- (*bollard/topic.party).full (53) -/
def x44b : XC := (.seq (.region [po 4 (.box (.t 1)) 0, po 5 (.box (.t 2)) 1, po 6 (.mv (.c (.b false))) 2])
  (.seq (.seq (.region [po 8 (.fadd 0 (.t 5)) 0, po 9 (.load false 1 (.t 8)) 1, po 10 (.bin .eql (.t 9) (.c (.i .i64 0))) 2])
  (.cond (.t 10) (.seq (.region [po 11 (.fadd 1 (.t 5)) 0, ⟨none, (.store 1 (.t 11) (.c (.b true))), none, 1, []⟩])
  (.seq (.draw [pm 12 0 0, ⟨(some 13), (.nilc (.t 12)), none, 1, [0]⟩, ⟨(some 14), (.fadd 1 (.t 13)), none, 2, [0, 1]⟩, po 16 (.fadd 0 (.t 4)) 4, ⟨(some 15), (.load false 1 (.t 14)), none, 3, [0, 1, 2]⟩, ⟨(some 17), (.load false 1 (.t 16)), none, 5, [4]⟩, po 18 (.load true 2 (.t 5)) 6, ⟨none, (.mput 1 (.t 15) (.t 17) (.t 18)), none, 7, [0, 1, 2, 3, 4, 5, 6]⟩])
  (.seq (.region [po 6 (.mv (.c (.b false))) 0])
  .ret))) .skip))
  (.seq (.region [pm 19 0 0, po 20 (.nilc (.t 19)) 1, po 21 (.fadd 3 (.t 20)) 2, po 22 (.load false 1 (.t 21)) 3, po 23 (.bin .add (.t 22) (.c (.i .i64 1))) 4, po 24 (.nilc (.t 19)) 5, po 25 (.fadd 3 (.t 24)) 6, ⟨none, (.store 1 (.t 25) (.t 23)), none, 7, []⟩])
  (.seq (.region [pm 26 0 0, po 27 (.nilc (.t 26)) 1, po 28 (.fadd 2 (.t 27)) 2, po 29 (.load false 1 (.t 28)) 3, po 30 (.mkf (.func 47) [] [(.t 4)]) 4, po 31 (.call (.c (.fn (.func 45) [] [])) [(.t 29), (.t 30)]) 5, pm 7 31 6])
  (.seq (.seq (.region [po 32 (.fadd 0 (.t 5)) 0, po 33 (.load false 1 (.t 32)) 1, po 34 (.bin .eql (.t 33) (.c (.i .i64 1))) 2, pm 35 34 3, pg 36 (.mv (.t 7)) 35 false 4, pg 37 (.bin .lss (.t 36) (.c (.i .i64 0))) 35 false 5, po 38 (.pick (.t 35) (.c (.b true)) (.t 37)) 6])
  (.cond (.t 38) (.seq (.region [po 6 (.mv (.c (.b false))) 0])
  .ret) .skip))
  (.seq (.draw [pm 39 0 0, pm 40 0 1, ⟨(some 41), (.nilc (.t 40)), none, 2, [1]⟩, ⟨(some 42), (.fadd 2 (.t 41)), none, 3, [1, 2]⟩, pm 44 7 5, pm 45 7 6, ⟨(some 46), (.bin .add (.t 45) (.c (.i .i64 1))), none, 7, [6]⟩, ⟨(some 43), (.load false 1 (.t 42)), none, 4, [1, 2, 3]⟩, po 48 (.load true 5 (.t 4)) 9, ⟨(some 47), (.call (.c (.fn (.func 32) [] [])) [(.t 43), (.t 44), (.t 46)]), none, 8, [1, 2, 3, 4, 5, 6, 7]⟩, ⟨(some 49), (.bslice zAA  [(0, 5, (.t 48))] 1), none, 10, [9]⟩, ⟨(some 50), (.append 5 64 (.t 47) (.t 49)), none, 11, [1, 2, 3, 4, 5, 6, 7, 8, 9, 10]⟩, ⟨(some 51), (.nilc (.t 39)), none, 12, [0, 1, 2, 3, 4, 5, 6, 7, 8, 9, 10, 11]⟩, ⟨(some 52), (.fadd 2 (.t 51)), none, 13, [0, 1, 2, 3, 4, 5, 6, 7, 8, 9, 10, 11, 12]⟩, ⟨none, (.store 1 (.t 52) (.t 50)), none, 14, [0, 1, 2, 3, 4, 5, 6, 7, 8, 9, 10, 11, 12, 13]⟩])
  (.seq (.region [po 6 (.mv (.c (.b true))) 0])
  .ret)))))))
def x44 : XFun := ⟨x44b, [(.t 6)]⟩
theorem x44_ok : compF Try.prog 44 = some x44 := by kernel_rfl
/-- slices.IndexFunc[[]bollard/topic.Item,bollard/topic.Item] (19) -/
def x45b : XC := (.seq (.region [po 4 (.mv (.c (.i .i64 0))) 0])
  (.seq (.seq (.region [pm 6 0 0, po 7 (.lenx (.t 6)) 1, po 8 (.mv (.c (.i .i64 0))) 2])
  (.block 0 (.loop (.seq (.region [po 9 (.bin .lss (.t 8) (.t 7)) 0])
  (.seq (.cond (.t 9) .skip (.exit 0))
  (.seq (.block 1 (.seq (.region [pm 10 8 0, pm 5 10 1])
  (.seq (.region [pm 11 1 0, pm 12 0 1, pm 13 5 2, po 14 (.isl 5 (.t 12) (.t 13)) 3, po 15 (.load true 5 (.t 14)) 4, po 16 (.call (.t 11) [(.t 15)]) 5])
  (.cond (.t 16) (.seq (.region [pm 17 5 0, pm 4 17 1])
  .ret) .skip))))
  (.region [po 18 (.bin .add (.t 8) (.c (.i .i64 1))) 0, pm 8 18 1])))))))
  (.seq (.region [po 4 (.mv (.c (.i .i64 (-1)))) 0])
  .ret)))
def x45 : XFun := ⟨x45b, [(.t 4)]⟩
theorem x45_ok : compF Try.prog 45 = some x45 := by kernel_rfl
/-- (*bollard/bollardref19.Party).hand (118) -/
def x46b : XC := (.seq (.region [po 4 (.box (.t 1)) 0, po 6 (.mv (.c (.b false))) 1])
  (.seq (.region [pm 9 0 0, po 10 (.fadd 0 (.t 4)) 1, po 11 (.load false 1 (.t 10)) 2, po 12 (.call (.c (.fn (.func 43) [] [])) [(.t 9), (.t 11)]) 3, pm 7 12 4])
  (.seq (.seq (.region [pm 13 7 0, po 14 (.bin .lss (.t 13) (.c (.i .i64 0))) 1, pm 15 14 2, pg 16 (.mv (.t 0)) 15 false 3, pg 17 (.nilc (.t 16)) 15 false 4, pg 18 (.fadd 1 (.t 17)) 15 false 5, pg 19 (.load false 1 (.t 18)) 15 false 6, pg 20 (.mv (.t 7)) 15 false 7, pg 21 (.isl 3 (.t 19) (.t 20)) 15 false 8, pg 22 (.fadd 2 (.t 21)) 15 false 9, pg 23 (.load false 1 (.t 22)) 15 false 10, po 24 (.pick (.t 15) (.c (.b true)) (.t 23)) 11])
  (.cond (.t 24) (.seq (.region [po 6 (.mv (.c (.b false))) 0])
  .ret) .skip))
  (.seq (.seq (.region [pm 25 0 0, po 26 (.nilc (.t 25)) 1, po 27 (.fadd 2 (.t 26)) 2, po 28 (.load false 1 (.t 27)) 3, po 29 (.lenx (.t 28)) 4, pm 30 2 5, po 31 (.bin .lss (.t 29) (.t 30)) 6])
  (.cond (.t 31) (.seq (.draw [pm 32 0 0, pm 33 0 1, ⟨(some 34), (.nilc (.t 33)), none, 2, [1]⟩, ⟨(some 35), (.fadd 2 (.t 34)), none, 3, [1, 2]⟩, ⟨(some 36), (.load false 1 (.t 35)), none, 4, [1, 2, 3]⟩, po 37 (.load true 5 (.t 4)) 5, ⟨(some 38), (.bslice zAA  [(0, 5, (.t 37))] 1), none, 6, [5]⟩, ⟨(some 39), (.append 5 64 (.t 36) (.t 38)), none, 7, [1, 2, 3, 4, 5, 6]⟩, ⟨(some 40), (.nilc (.t 32)), none, 8, [0, 1, 2, 3, 4, 5, 6, 7]⟩, ⟨(some 41), (.fadd 2 (.t 40)), none, 9, [0, 1, 2, 3, 4, 5, 6, 7, 8]⟩, ⟨none, (.store 1 (.t 41) (.t 39)), none, 10, [0, 1, 2, 3, 4, 5, 6, 7, 8, 9]⟩])
  (.seq (.region [po 6 (.mv (.c (.b true))) 0])
  .ret)) .skip))
  (.seq (.seq (.region [pm 42 0 0, po 43 (.nilc (.t 42)) 1, po 44 (.fadd 1 (.t 43)) 2, po 45 (.load false 1 (.t 44)) 3, pm 46 7 4, po 47 (.isl 3 (.t 45) (.t 46)) 5, po 48 (.fadd 1 (.t 47)) 6, po 49 (.load false 1 (.t 48)) 7, po 50 (.bin .eql (.t 49) (.c (.i .i64 0))) 8])
  (.cond (.t 50) (.seq (.region [pm 51 0 0, po 52 (.nilc (.t 51)) 1, po 53 (.fadd 1 (.t 52)) 2, po 54 (.load false 1 (.t 53)) 3, pm 55 7 4, po 56 (.isl 3 (.t 54) (.t 55)) 5, po 57 (.fadd 2 (.t 56)) 6, ⟨none, (.store 1 (.t 57) (.c (.b true))), none, 7, []⟩])
  (.seq (.region [po 6 (.mv (.c (.b false))) 0])
  .ret)) .skip))
  (.seq (.region [pm 58 0 0, po 59 (.nilc (.t 58)) 1, po 60 (.fadd 3 (.t 59)) 2, po 61 (.load false 1 (.t 60)) 3, po 62 (.bin .add (.t 61) (.c (.i .i64 1))) 4, po 63 (.nilc (.t 58)) 5, po 64 (.fadd 3 (.t 63)) 6, ⟨none, (.store 1 (.t 64) (.t 62)), none, 7, []⟩])
  (.seq (.seq (.region [po 8 (.mv (.c (.i .i64 0))) 0])
  (.block 0 (.loop (.seq (.seq (.region [pm 65 8 0, pm 66 0 1, po 67 (.nilc (.t 66)) 2, po 68 (.fadd 2 (.t 67)) 3, po 69 (.load false 1 (.t 68)) 4, po 70 (.lenx (.t 69)) 5, po 71 (.bin .lss (.t 65) (.t 70)) 6, pm 72 71 7, pg 73 (.mv (.t 0)) 72 true 8, pg 74 (.nilc (.t 73)) 72 true 9, pg 75 (.fadd 1 (.t 74)) 72 true 10, pg 76 (.load false 1 (.t 75)) 72 true 11, pg 77 (.mv (.t 7)) 72 true 12, pg 78 (.isl 3 (.t 76) (.t 77)) 72 true 13, pg 79 (.fadd 1 (.t 78)) 72 true 14, pg 80 (.load false 1 (.t 79)) 72 true 15, pg 81 (.bin .eql (.t 80) (.c (.i .i64 2))) 72 true 16, po 82 (.pick (.t 72) (.t 81) (.c (.b false))) 17])
  (.cond (.t 82) .skip (.exit 0)))
  (.seq (.block 1 (.seq (.draw [pm 85 0 0, ⟨(some 86), (.nilc (.t 85)), none, 1, [0]⟩, ⟨(some 87), (.fadd 2 (.t 86)), none, 2, [0, 1]⟩, pm 89 8 4, po 93 (.fadd 0 (.t 4)) 8, ⟨(some 88), (.load false 1 (.t 87)), none, 3, [0, 1, 2]⟩, ⟨(some 90), (.isl 5 (.t 88) (.t 89)), none, 5, [0, 1, 2, 3, 4]⟩, ⟨(some 91), (.fadd 0 (.t 90)), none, 6, [0, 1, 2, 3, 4, 5]⟩, ⟨(some 92), (.load false 1 (.t 91)), none, 7, [0, 1, 2, 3, 4, 5, 6]⟩, ⟨(some 94), (.load false 1 (.t 93)), none, 9, [8]⟩, ⟨(some 95), (.bin .eql (.t 92) (.t 94)), none, 10, [0, 1, 2, 3, 4, 5, 6, 7, 8, 9]⟩])
  (.cond (.t 95) (.seq (.draw [pm 96 0 0, pm 98 0 2, ⟨(some 99), (.nilc (.t 98)), none, 3, [2]⟩, ⟨(some 100), (.fadd 2 (.t 99)), none, 4, [2, 3]⟩, pm 102 8 6, pm 105 0 9, ⟨(some 106), (.nilc (.t 105)), none, 10, [9]⟩, ⟨(some 107), (.fadd 2 (.t 106)), none, 11, [9, 10]⟩, pm 109 8 13, ⟨(some 110), (.bin .add (.t 109) (.c (.i .i64 1))), none, 14, [13]⟩, ⟨(some 101), (.load false 1 (.t 100)), none, 5, [2, 3, 4]⟩, ⟨(some 103), (.slsl 5 (.t 101) none (some (.t 102)) none), none, 7, [2, 3, 4, 5, 6]⟩, ⟨(some 108), (.load false 1 (.t 107)), none, 12, [9, 10, 11]⟩, ⟨(some 111), (.slsl 5 (.t 108) (some (.t 110)) none none), none, 15, [9, 10, 11, 12, 13, 14]⟩, po 113 (.load true 5 (.t 4)) 17, po 97 (.bslice [] [] 0) 1, ⟨(some 104), (.append 5 64 (.t 97) (.t 103)), none, 8, [1, 2, 3, 4, 5, 6, 7]⟩, ⟨(some 112), (.append 5 64 (.t 104) (.t 111)), none, 16, [1, 2, 3, 4, 5, 6, 7, 8, 9, 10, 11, 12, 13, 14, 15]⟩, ⟨(some 114), (.bslice zAA  [(0, 5, (.t 113))] 1), none, 18, [17]⟩, ⟨(some 115), (.append 5 64 (.t 112) (.t 114)), none, 19, [1, 2, 3, 4, 5, 6, 7, 8, 9, 10, 11, 12, 13, 14, 15, 16, 17, 18]⟩, ⟨(some 116), (.nilc (.t 96)), none, 20, [0, 1, 2, 3, 4, 5, 6, 7, 8, 9, 10, 11, 12, 13, 14, 15, 16, 17, 18, 19]⟩, ⟨(some 117), (.fadd 2 (.t 116)), none, 21, [0, 1, 2, 3, 4, 5, 6, 7, 8, 9, 10, 11, 12, 13, 14, 15, 16, 17, 18, 19, 20]⟩, ⟨none, (.store 1 (.t 117) (.t 115)), none, 22, [0, 1, 2, 3, 4, 5, 6, 7, 8, 9, 10, 11, 12, 13, 14, 15, 16, 17, 18, 19, 20, 21]⟩])
  (.seq (.region [po 6 (.mv (.c (.b true))) 0])
  .ret)) .skip)))
  (.region [pm 83 8 0, po 84 (.bin .add (.t 83) (.c (.i .i64 1))) 1, pm 8 84 2]))))))
  (.seq (.region [po 6 (.mv (.c (.b false))) 0])
  .ret))))))))
def x46 : XFun := ⟨x46b, [(.t 6)]⟩
theorem x46_ok : compF Try.prog 46 = some x46 := by kernel_rfl
/-- (*bollard/topic.party).full$1 (9) -/
def x47b : XC := (.seq (.region [po 2 (.box (.t 0)) 0, po 3 (.mv (.c (.b false))) 1])
  (.seq (.region [po 4 (.fadd 0 (.t 2)) 0, po 5 (.load false 1 (.t 4)) 1, po 6 (.fadd 0 (.t 1)) 2, po 7 (.load false 1 (.t 6)) 3, po 8 (.bin .eql (.t 5) (.t 7)) 4, pm 3 8 5])
  .ret))
def x47 : XFun := ⟨x47b, [(.t 3)]⟩
theorem x47_ok : compF Try.prog 47 = some x47 := by kernel_rfl
def tab : Nat → Option XFun := fun g => match g with
  | 3 => some x3
  | 4 => some x4
  | 5 => some x5
  | 6 => some x6
  | 7 => some x7
  | 8 => some x8
  | 9 => some x9
  | 10 => some x10
  | 11 => some x11
  | 12 => some x12
  | 13 => some x13
  | 14 => some x14
  | 15 => some x15
  | 16 => some x16
  | 17 => some x17
  | 18 => some x18
  | 19 => some x19
  | 20 => some x20
  | 21 => some x21
  | 22 => some x22
  | 23 => some x23
  | 24 => some x24
  | 25 => some x25
  | 26 => some x26
  | 27 => some x27
  | 28 => some x28
  | 29 => some x29
  | 30 => some x30
  | 31 => some x31
  | 32 => some x32
  | 33 => some x33
  | 34 => some x34
  | 35 => some x35
  | 36 => some x36
  | 37 => some x37
  | 38 => some x38
  | 39 => some x39
  | 40 => some x40
  | 41 => some x41
  | 42 => some x42
  | 43 => some x43
  | 44 => some x44
  | 45 => some x45
  | 46 => some x46
  | 47 => some x47
  | _ => none
theorem tab_ok : TabOK Try.prog tab := by
  intro g F h
  unfold tab at h
  split at h
  · cases h; exact x3_ok
  · cases h; exact x4_ok
  · cases h; exact x5_ok
  · cases h; exact x6_ok
  · cases h; exact x7_ok
  · cases h; exact x8_ok
  · cases h; exact x9_ok
  · cases h; exact x10_ok
  · cases h; exact x11_ok
  · cases h; exact x12_ok
  · cases h; exact x13_ok
  · cases h; exact x14_ok
  · cases h; exact x15_ok
  · cases h; exact x16_ok
  · cases h; exact x17_ok
  · cases h; exact x18_ok
  · cases h; exact x19_ok
  · cases h; exact x20_ok
  · cases h; exact x21_ok
  · cases h; exact x22_ok
  · cases h; exact x23_ok
  · cases h; exact x24_ok
  · cases h; exact x25_ok
  · cases h; exact x26_ok
  · cases h; exact x27_ok
  · cases h; exact x28_ok
  · cases h; exact x29_ok
  · cases h; exact x30_ok
  · cases h; exact x31_ok
  · cases h; exact x32_ok
  · cases h; exact x33_ok
  · cases h; exact x34_ok
  · cases h; exact x35_ok
  · cases h; exact x36_ok
  · cases h; exact x37_ok
  · cases h; exact x38_ok
  · cases h; exact x39_ok
  · cases h; exact x40_ok
  · cases h; exact x41_ok
  · cases h; exact x42_ok
  · cases h; exact x43_ok
  · cases h; exact x44_ok
  · cases h; exact x45_ok
  · cases h; exact x46_ok
  · cases h; exact x47_ok
  · cases h
end Go.Proofs.Ytnkpmidfefilbaa.E
