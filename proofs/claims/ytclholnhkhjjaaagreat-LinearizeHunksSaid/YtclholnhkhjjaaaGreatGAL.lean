/-
  Part GAL of this claim's proof. Joined by merge.py from the texts of wip/tpl.
-/
import Derived.Test.YtclholnhkhjjaaaGreatGAJ
import Derived.Test.YtclholnhkhjjaaaGreatProg
import Derived.Test.YtclholnhkhjjaaaGreatGAA
set_option linter.unusedVariables false
set_option linter.unusedSimpArgs false
set_option linter.unnecessarySimpa false
namespace Go.Proofs.Lh
open Go Go.Ab Go.Bb
def k_linMatches : CF := ⟨134,
 (.seq
 (fo [o0 4 (.box (.t 0)), o0 5 (.box (.t 1)), o0 8 (.mov (.c (.nil 3))), o0 9 (.mov (.c (.d (.sc (.bool false)))))])
 (.seq
 (fo [o0 20 (.mkm true), om 10 20])
 (.seq
 (.seq
 (fo [om 21 3, o0 22 (.len 0 (.t 21)), o0 23 (.mov (xi 0))])
 (.block 0
 (.loop
 (.seq
 (fo [o0 24 (.bin .lss (.t 23) (.t 22))])
 (.seq
 (.cond (.t 24)
 .skip
 (.exit 0))
 (.seq
 (.block 1
 (.seq
 (fo [om 25 23, o0 26 (.iad 1 (.t 21) (.t 23)), o0 27 (.ld none (.t 26)), om 11 25, om 12 27])
 (fo [om 28 10, o0 29 (.fad 0 (.t 5)), o0 30 (.ld none (.t 29)), om 31 12, o0 32 (.iad 35 (.t 30) (.t 31)), o0 33 (.fad 0 (.t 32)), o0 34 (.ld (some 33) (.t 33)), om 35 11, oN (.mup true [.i, .i, .i, .i, .i, .i, .i, .i, .i, .i, .i, .i, .i, .i, .i, .i, .i, .i, .i, .i, .i, .i, .i, .i, .i, .i, .i, .i, .i, .i, .i, .i, .i] (.t 28) (.t 34) (.t 35))])))
 (fo [o0 36 (.bin .add (.t 23) (xi 1)), om 23 36])))))))
 (.seq
 (fo [o0 13 (.mov (.c (.nil 3)))])
 (.seq
 (fo [o0 14 (.mov (xi (-1)))])
 (.seq
 (.seq
 (fo [om 37 2, o0 38 (.len 0 (.t 37)), o0 39 (.mov (xi 0))])
 (.block 2
 (.loop
 (.seq
 (fo [o0 40 (.bin .lss (.t 39) (.t 38))])
 (.seq
 (.cond (.t 40)
 .skip
 (.exit 2))
 (.seq
 (.block 3
 (.seq
 (fo [om 41 39, o0 42 (.iad 1 (.t 37) (.t 39)), o0 43 (.ld none (.t 42)), om 15 41, om 16 43])
 (.seq
 (fo [om 45 10, o0 46 (.fad 0 (.t 4)), o0 47 (.ld none (.t 46)), om 48 16, o0 49 (.iad 35 (.t 47) (.t 48)), o0 50 (.fad 0 (.t 49)), o0 51 (.ld (some 33) (.t 50)), o0 52 (.lkp true [.i, .i, .i, .i, .i, .i, .i, .i, .i, .i, .i, .i, .i, .i, .i, .i, .i, .i, .i, .i, .i, .i, .i, .i, .i, .i, .i, .i, .i, .i, .i, .i, .i] (.d (.sc (.int .i64 0))) true (.t 45) (.t 51)), om 44 52, o0 53 (.ext (.t 44) 0), o0 54 (.ext (.t 44) 1), om 17 53, om 18 54])
 (.seq
 (.seq
 (.ops true [0, 1, 3, 7, 15, 7, 63, 127, 255, 7, 519, 7, 7, 6151, 14343, 32263, 65031, 130567, 262143, 524287] [om 55 18, o0 56 (.not (.t 55)), om 57 56, og 58 57 false (.fad 0 (.t 4)), og 59 57 false (.ld none (.t 58)), oh 60 57 false 16, og 61 57 false (.iad 35 (.t 59) (.t 60)), og 62 57 false (.fad 33 (.t 61)), og 63 57 false (.ld none (.t 62)), og 64 57 false (.fad 0 (.t 5)), og 65 57 false (.ld none (.t 64)), oh 66 57 false 3, oh 67 57 false 17, og 68 57 false (.iad 1 (.t 66) (.t 67)), og 69 57 false (.ld none (.t 68)), og 70 57 false (.iad 35 (.t 65) (.t 69)), og 71 57 false (.fad 33 (.t 70)), og 72 57 false (.ld none (.t 71)), og 73 57 false (.bin .neq (.t 63) (.t 72)), o0 74 (.pick (.t 57) (.c (.d (.sc (.bool true)))) (.t 73))])
 (.cond (.t 74)
 (.exit 3)
 .skip))
 (.seq
 (.seq
 (fo [om 75 17, om 76 14, o0 77 (.bin .leq (.t 75) (.t 76))])
 (.cond (.t 77)
 (.seq
 (fo [o0 8 (.mov (.c (.nil 3))), o0 9 (.mov (.c (.d (.sc (.bool false)))))])
 .ret)
 .skip))
 (.seq
 (fo [om 78 17, om 14 78])
 (.seq
 (fo [om 79 13, o0 80 (.len 0 (.t 79)), om 19 80])
 (.seq
 (.ops true [0, 1, 3, 7, 7, 23, 63, 127, 255, 7, 7, 1031, 3591, 7687, 15879, 32767, 7, 131071, 262143, 524287, 1048575, 1048575, 3145727, 8388607, 16777215, 33554431, 1048575, 1048575, 135266303, 470810623, 1007681535, 2081423359, 4294967295, 1048575, 17179869183, 34359738367] [om 81 19, o0 82 (.bin .gtr (.t 81) (xi 0)), om 83 82, oh 84 83 true 13, oh 85 83 true 19, og 86 83 true (.bin .sub (.t 85) (xi 1)), og 87 83 true (.iad 3 (.t 84) (.t 86)), og 88 83 true (.fad 0 (.t 87)), og 89 83 true (.ld none (.t 88)), oh 90 83 true 13, oh 91 83 true 19, og 92 83 true (.bin .sub (.t 91) (xi 1)), og 93 83 true (.iad 3 (.t 90) (.t 92)), og 94 83 true (.fad 2 (.t 93)), og 95 83 true (.ld none (.t 94)), og 96 83 true (.bin .add (.t 89) (.t 95)), oh 97 83 true 15, og 98 83 true (.bin .eql (.t 96) (.t 97)), o0 99 (.pick (.t 83) (.t 98) (.c (.d (.sc (.bool false))))), om 100 99, oh 101 100 true 13, oh 102 100 true 19, og 103 100 true (.bin .sub (.t 102) (xi 1)), og 104 100 true (.iad 3 (.t 101) (.t 103)), og 105 100 true (.fad 1 (.t 104)), og 106 100 true (.ld none (.t 105)), oh 107 100 true 13, oh 108 100 true 19, og 109 100 true (.bin .sub (.t 108) (xi 1)), og 110 100 true (.iad 3 (.t 107) (.t 109)), og 111 100 true (.fad 2 (.t 110)), og 112 100 true (.ld none (.t 111)), og 113 100 true (.bin .add (.t 106) (.t 112)), oh 114 100 true 17, og 115 100 true (.bin .eql (.t 113) (.t 114)), o0 116 (.pick (.t 100) (.t 115) (.c (.d (.sc (.bool false)))))])
 (.cond (.t 116)
 (fo [om 117 13, om 118 19, o0 119 (.bin .sub (.t 118) (xi 1)), o0 120 (.iad 3 (.t 117) (.t 119)), o0 121 (.fad 2 (.t 120)), o0 122 (.ld none (.t 121)), o0 123 (.bin .add (.t 122) (xi 1)), o0 124 (.iad 3 (.t 117) (.t 119)), o0 125 (.fad 2 (.t 124)), oN (.st 1 (.t 125) (.t 123))])
 (fo [om 126 13, om 127 15, om 128 17, o0 129 (.bld [(.d (.sc (.int .i64 0))), (.d (.sc (.int .i64 0))), (.d (.sc (.int .i64 0)))] [(0, 1, (.t 127)), (1, 1, (.t 128)), (2, 1, (xi 1))]), o0 130 (.bsl false 65 3 1 [(.d (.sc (.int .i64 0))), (.d (.sc (.int .i64 0))), (.d (.sc (.int .i64 0)))] [(0, 3, (.t 129))]), o0 131 (.app true 65 3 24 (.t 126) (.t 130)), om 13 131]))))))))))
 (fo [o0 132 (.bin .add (.t 39) (xi 1)), om 39 132])))))))
 (.seq
 (fo [om 133 13, om 8 133, o0 9 (.mov (.c (.d (.sc (.bool true)))))])
 .ret))))))), [.tmp 8, .tmp 9]⟩
theorem okb_linMatches : compFn Tryz.prog [131] 56 = some k_linMatches := by kernel_rfl
def k_hunksOf : CF := ⟨74,
 (.seq
 (fo [o0 6 (.mov (.c (.nil 3))), o0 7 (.mov (xi 0))])
 (.seq
 (.seq
 (fo [om 14 0, om 15 1, om 16 2, o0 17 (.call (.fn 97) [(.t 14), (.t 15), (.t 16)]), om 8 17])
 (.seq
 (fo [om 18 8, o0 19 (.bin .neq (.t 18) (xi 0))])
 (.cond (.t 19)
 (.seq
 (fo [om 20 8, o0 6 (.mov (.c (.nil 3))), om 7 20])
 .ret)
 .skip)))
 (.seq
 (fo [o0 9 (.mov (.c (.nil 3)))])
 (.seq
 (fo [o0 10 (.mov (xi 0)), o0 11 (.mov (xi 0))])
 (.seq
 (.seq
 (fo [om 21 2, o0 22 (.call (.fn 98) [(.t 21)]), om 23 0, o0 24 (.len 0 (.t 23)), om 25 1, o0 26 (.len 0 (.t 25)), o0 27 (.bld [(.d (.sc (.int .i64 0))), (.d (.sc (.int .i64 0))), (.d (.sc (.int .i64 0)))] [(0, 1, (.t 24)), (1, 1, (.t 26))]), o0 28 (.bsl false 65 3 1 [(.d (.sc (.int .i64 0))), (.d (.sc (.int .i64 0))), (.d (.sc (.int .i64 0)))] [(0, 3, (.t 27))]), o0 29 (.app false 65 3 24 (.t 22) (.t 28)), o0 30 (.len 0 (.t 29)), o0 31 (.mov (xi 0))])
 (.block 0
 (.loop
 (.seq
 (fo [o0 32 (.bin .lss (.t 31) (.t 30))])
 (.seq
 (.cond (.t 32)
 .skip
 (.exit 0))
 (.seq
 (.block 1
 (.seq
 (fo [o0 33 (.iad 3 (.t 29) (.t 31)), o0 34 (.ld (some 3) (.t 33)), o0 13 (.box (.c (.agg [(.d (.sc (.int .i64 0))), (.d (.sc (.int .i64 0))), (.d (.sc (.int .i64 0)))]))), oN (.st 3 (.t 13) (.t 34))])
 (.seq
 (.seq
 (fo [o0 35 (.fad 0 (.t 13)), o0 36 (.ld none (.t 35)), om 37 10, o0 38 (.bin .gtr (.t 36) (.t 37)), om 39 38, og 40 39 false (.fad 1 (.t 13)), og 41 39 false (.ld none (.t 40)), oh 42 39 false 11, og 43 39 false (.bin .gtr (.t 41) (.t 42)), o0 44 (.pick (.t 39) (.c (.d (.sc (.bool true)))) (.t 43))])
 (.cond (.t 44)
 (.ops true [0, 0, 0, 0, 0, 16, 60, 124, 0, 0, 0, 1024, 3840, 8188, 16382, 32766, 65535, 131071] [om 45 9, om 46 10, om 47 0, om 48 10, o0 49 (.fad 0 (.t 13)), o0 50 (.ld none (.t 49)), o0 51 (.slc 1 (.t 47) (some (.t 48)) (some (.t 50))), o0 52 (.call (.fn 99) [(.t 51)]), om 53 1, om 54 11, o0 55 (.fad 1 (.t 13)), o0 56 (.ld none (.t 55)), o0 57 (.slc 1 (.t 53) (some (.t 54)) (some (.t 56))), o0 58 (.call (.fn 99) [(.t 57)]), o0 59 (.bld [(.d (.sc (.int .i64 0))), (.nil 1), (.nil 1)] [(0, 1, (.t 46)), (1, 1, (.t 52)), (2, 1, (.t 58))]), o0 60 (.bsl false 109 3 1 [(.d (.sc (.int .i64 0))), (.nil 1), (.nil 1)] [(0, 3, (.t 59))]), o0 61 (.app false 109 3 56 (.t 45) (.t 60)), om 9 61])
 .skip))
 (.ops true [0, 1, 0, 4, 15, 0, 32, 0, 128, 480, 31, 2047] [o0 62 (.fad 0 (.t 13)), o0 63 (.ld none (.t 62)), o0 64 (.fad 2 (.t 13)), o0 65 (.ld none (.t 64)), o0 66 (.bin .add (.t 63) (.t 65)), o0 67 (.fad 1 (.t 13)), o0 68 (.ld none (.t 67)), o0 69 (.fad 2 (.t 13)), o0 70 (.ld none (.t 69)), o0 71 (.bin .add (.t 68) (.t 70)), om 10 66, om 11 71]))))
 (fo [o0 72 (.bin .add (.t 31) (xi 1)), om 31 72])))))))
 (.seq
 (fo [om 73 9, om 6 73, o0 7 (.mov (xi 0))])
 .ret)))))), [.tmp 6, .tmp 7]⟩
theorem okb_hunksOf : compFn Tryz.prog [] 57 = some k_hunksOf := by kernel_rfl
def k_myersCheck : CF := ⟨105,
 (.seq
 (fo [o0 6 (.mov (xi 0))])
 (.seq
 (fo [o0 7 (.mov (xi (-1))), o0 8 (.mov (xi (-1)))])
 (.seq
 (.seq
 (fo [om 11 2, o0 12 (.len 0 (.t 11)), o0 13 (.mov (xi 0))])
 (.block 0
 (.loop
 (.seq
 (fo [o0 14 (.bin .lss (.t 13) (.t 12))])
 (.seq
 (.cond (.t 14)
 .skip
 (.exit 0))
 (.seq
 (.block 1
 (.seq
 (fo [o0 15 (.iad 3 (.t 11) (.t 13)), o0 16 (.ld (some 3) (.t 15)), o0 10 (.box (.c (.agg [(.d (.sc (.int .i64 0))), (.d (.sc (.int .i64 0))), (.d (.sc (.int .i64 0)))]))), oN (.st 3 (.t 10) (.t 16))])
 (.seq
 (.block 2
 (.seq
 (fo [o0 18 (.fad 2 (.t 10)), o0 19 (.ld none (.t 18)), o0 20 (.bin .lss (.t 19) (xi 1)), om 17 20])
 (.cond (.t 17)
 (.seq
 (fo [o0 6 (.mov (xi 1))])
 .ret)
 (.seq
 (fo [o0 22 (.fad 0 (.t 10)), o0 23 (.ld none (.t 22)), o0 24 (.bin .lss (.t 23) (xi 0)), om 25 24, og 26 25 false (.fad 1 (.t 10)), og 27 25 false (.ld none (.t 26)), og 28 25 false (.bin .lss (.t 27) (xi 0)), o0 29 (.pick (.t 25) (.c (.d (.sc (.bool true)))) (.t 28)), om 30 29, og 31 30 false (.fad 0 (.t 10)), og 32 30 false (.ld none (.t 31)), oh 33 30 false 0, og 34 30 false (.len 0 (.t 33)), og 35 30 false (.fad 2 (.t 10)), og 36 30 false (.ld none (.t 35)), og 37 30 false (.bin .sub (.t 34) (.t 36)), og 38 30 false (.bin .gtr (.t 32) (.t 37)), o0 39 (.pick (.t 30) (.c (.d (.sc (.bool true)))) (.t 38)), om 40 39, og 41 40 false (.fad 1 (.t 10)), og 42 40 false (.ld none (.t 41)), oh 43 40 false 1, og 44 40 false (.len 0 (.t 43)), og 45 40 false (.fad 2 (.t 10)), og 46 40 false (.ld none (.t 45)), og 47 40 false (.bin .sub (.t 44) (.t 46)), og 48 40 false (.bin .gtr (.t 42) (.t 47)), o0 49 (.pick (.t 40) (.c (.d (.sc (.bool true)))) (.t 48)), om 21 49])
 (.cond (.t 21)
 (.seq
 (fo [o0 6 (.mov (xi 2))])
 .ret)
 (.seq
 (fo [o0 51 (.fad 0 (.t 10)), o0 52 (.ld none (.t 51)), om 53 7, o0 54 (.bin .lss (.t 52) (.t 53)), om 55 54, og 56 55 false (.fad 1 (.t 10)), og 57 55 false (.ld none (.t 56)), oh 58 55 false 8, og 59 55 false (.bin .lss (.t 57) (.t 58)), o0 60 (.pick (.t 55) (.c (.d (.sc (.bool true)))) (.t 59)), om 61 60, og 62 61 false (.fad 0 (.t 10)), og 63 61 false (.ld none (.t 62)), oh 64 61 false 7, og 65 61 false (.bin .eql (.t 63) (.t 64)), oh 66 61 false 65, og 67 66 true (.fad 1 (.t 10)), og 68 66 true (.ld none (.t 67)), oh 69 66 true 8, og 70 66 true (.bin .eql (.t 68) (.t 69)), og 71 61 false (.pick (.t 66) (.t 70) (.c (.d (.sc (.bool false))))), o0 72 (.pick (.t 61) (.c (.d (.sc (.bool true)))) (.t 71)), om 50 72])
 (.cond (.t 50)
 (.seq
 (fo [o0 6 (.mov (xi 9))])
 .ret)
 (.seq
 (.ops true [0, 0, 2, 0, 8, 0, 32, 120, 255, 0, 0, 1024, 0, 4096, 0, 16384, 61440, 130560, 262143, 524287, 1048575] [om 74 0, o0 75 (.fad 0 (.t 10)), o0 76 (.ld none (.t 75)), o0 77 (.fad 0 (.t 10)), o0 78 (.ld none (.t 77)), o0 79 (.fad 2 (.t 10)), o0 80 (.ld none (.t 79)), o0 81 (.bin .add (.t 78) (.t 80)), o0 82 (.slc 1 (.t 74) (some (.t 76)) (some (.t 81))), om 83 1, o0 84 (.fad 1 (.t 10)), o0 85 (.ld none (.t 84)), o0 86 (.fad 1 (.t 10)), o0 87 (.ld none (.t 86)), o0 88 (.fad 2 (.t 10)), o0 89 (.ld none (.t 88)), o0 90 (.bin .add (.t 87) (.t 89)), o0 91 (.slc 1 (.t 83) (some (.t 85)) (some (.t 90))), o0 92 (.call (.fn 33) [(.t 82), (.t 91)]), o0 93 (.not (.t 92)), om 73 93])
 (.cond (.t 73)
 (.seq
 (fo [o0 6 (.mov (xi 10))])
 .ret)
 .skip)))))))))
 (.ops true [0, 1, 0, 4, 15, 0, 32, 0, 128, 480, 31, 2047] [o0 94 (.fad 0 (.t 10)), o0 95 (.ld none (.t 94)), o0 96 (.fad 2 (.t 10)), o0 97 (.ld none (.t 96)), o0 98 (.bin .add (.t 95) (.t 97)), o0 99 (.fad 1 (.t 10)), o0 100 (.ld none (.t 99)), o0 101 (.fad 2 (.t 10)), o0 102 (.ld none (.t 101)), o0 103 (.bin .add (.t 100) (.t 102)), om 7 98, om 8 103]))))
 (fo [o0 104 (.bin .add (.t 13) (xi 1)), om 13 104])))))))
 (.seq
 (fo [o0 6 (.mov (xi 0))])
 .ret)))), [.tmp 6]⟩
theorem okb_myersCheck : compFn Tryz.prog [] 97 = some k_myersCheck := by kernel_rfl
def k_linHunks : CF := ⟨54,
 (.seq
 (fo [o0 2 (.box (.t 0)), o0 3 (.box (.t 1)), o0 4 (.mov (.c (.nil 3))), o0 5 (.mov (xi 0))])
 (.seq
 (.seq
 (fo [o0 12 (.ld (some 2) (.t 2)), o0 13 (.call (.fn 54) [(.t 12)]), om 6 13])
 (.seq
 (fo [om 14 6, o0 15 (.bin .neq (.t 14) (xi 0))])
 (.cond (.t 15)
 (.seq
 (fo [om 16 6, o0 4 (.mov (.c (.nil 3))), om 5 16])
 .ret)
 .skip)))
 (.seq
 (.seq
 (fo [o0 17 (.ld (some 2) (.t 3)), o0 18 (.call (.fn 54) [(.t 17)]), om 7 18])
 (.seq
 (fo [om 19 7, o0 20 (.bin .neq (.t 19) (xi 0))])
 (.cond (.t 20)
 (.seq
 (fo [om 21 7, o0 4 (.mov (.c (.nil 3))), om 5 21])
 .ret)
 .skip)))
 (.seq
 (.seq
 (fo [o0 22 (.ld (some 2) (.t 2)), o0 23 (.call (.fn 55) [(.t 22)]), o0 24 (.not (.t 23)), om 25 24, og 26 25 false (.ld (some 2) (.t 3)), og 27 25 false (.call (.fn 55) [(.t 26)]), og 28 25 false (.not (.t 27)), o0 29 (.pick (.t 25) (.c (.d (.sc (.bool true)))) (.t 28))])
 (.cond (.t 29)
 (.seq
 (fo [o0 4 (.mov (.c (.nil 3))), o0 5 (.mov (xi 15))])
 .ret)
 .skip))
 (.seq
 (.ops true [0, 1, 0, 7, 15, 31] [o0 30 (.ld (some 2) (.t 2)), o0 31 (.call (.fn 15) [(.t 30)]), o0 32 (.ld (some 2) (.t 3)), o0 33 (.call (.fn 15) [(.t 32)]), om 8 31, om 9 33])
 (.seq
 (fo [o0 35 (.ld (some 2) (.t 2)), o0 36 (.ld (some 2) (.t 3)), om 37 8, om 38 9, o0 39 (.call (.fn 56) [(.t 35), (.t 36), (.t 37), (.t 38)]), om 34 39, o0 40 (.ext (.t 34) 0), o0 41 (.ext (.t 34) 1), om 10 40, om 11 41])
 (.seq
 (.seq
 (fo [om 42 11, o0 43 (.not (.t 42))])
 (.cond (.t 43)
 (.seq
 (fo [o0 4 (.mov (.c (.nil 3))), o0 5 (.mov (xi 9))])
 .ret)
 .skip))
 (.seq
 (.ops true [0, 0, 3, 0, 0, 31, 0, 127, 255, 255, 1023, 2047] [o0 44 (.ld (some 2) (.t 2)), om 45 8, o0 46 (.call (.fn 58) [(.t 44), (.t 45)]), o0 47 (.ld (some 2) (.t 3)), om 48 9, o0 49 (.call (.fn 58) [(.t 47), (.t 48)]), om 50 10, o0 51 (.call (.fn 57) [(.t 46), (.t 49), (.t 50)]), o0 52 (.ext (.t 51) 0), o0 53 (.ext (.t 51) 1), om 4 52, om 5 53])
 .ret)))))))), [.tmp 4, .tmp 5]⟩
theorem okb_linHunks : compFn Tryz.prog [] 20 = some k_linHunks := by kernel_rfl
def k_CloneMatches : CF := ⟨8,
 (.seq
 (fo [o0 2 (.mov (.c (.nil 3)))])
 (.seq
 (.seq
 (fo [om 3 0, o0 4 (.isn false (.t 3))])
 (.cond (.t 4)
 (.seq
 (fo [o0 2 (.mov (.c (.nil 3)))])
 .ret)
 .skip))
 (.seq
 (fo [o0 5 (.bsl false 65 3 0 [] []), om 6 0, o0 7 (.app false 65 3 24 (.t 5) (.t 6)), om 2 7])
 .ret))), [.tmp 2]⟩
theorem okb_CloneMatches : compFn Tryz.prog [] 98 = some k_CloneMatches := by kernel_rfl
def k_CloneStrings : CF := ⟨8,
 (.seq
 (fo [o0 2 (.mov (.c (.nil 1)))])
 (.seq
 (.seq
 (fo [om 3 0, o0 4 (.isn false (.t 3))])
 (.cond (.t 4)
 (.seq
 (fo [o0 2 (.mov (.c (.nil 1)))])
 .ret)
 .skip))
 (.seq
 (fo [o0 5 (.bsl false 9 1 0 [] []), om 6 0, o0 7 (.app false 9 1 16 (.t 5) (.t 6)), om 2 7])
 .ret))), [.tmp 2]⟩
theorem okb_CloneStrings : compFn Tryz.prog [] 99 = some k_CloneStrings := by kernel_rfl
def k_EqualStrings : CF := ⟨26,
 (.seq
 (fo [o0 4 (.mov (.c (.d (.sc (.bool false)))))])
 (.seq
 (.seq
 (fo [om 6 0, o0 7 (.len 0 (.t 6)), om 8 1, o0 9 (.len 0 (.t 8)), o0 10 (.bin .neq (.t 7) (.t 9))])
 (.cond (.t 10)
 (.seq
 (fo [o0 4 (.mov (.c (.d (.sc (.bool false)))))])
 .ret)
 .skip))
 (.seq
 (.seq
 (fo [om 11 0, o0 12 (.len 0 (.t 11)), o0 13 (.mov (xi 0))])
 (.block 0
 (.loop
 (.seq
 (fo [o0 14 (.bin .lss (.t 13) (.t 12))])
 (.seq
 (.cond (.t 14)
 .skip
 (.exit 0))
 (.seq
 (.block 1
 (.seq
 (fo [om 15 13, om 5 15])
 (.seq
 (.ops true [0, 0, 3, 7, 0, 0, 48, 112, 255] [om 16 0, om 17 5, o0 18 (.iad 1 (.t 16) (.t 17)), o0 19 (.ld none (.t 18)), om 20 1, om 21 5, o0 22 (.iad 1 (.t 20) (.t 21)), o0 23 (.ld none (.t 22)), o0 24 (.bin .neq (.t 19) (.t 23))])
 (.cond (.t 24)
 (.seq
 (fo [o0 4 (.mov (.c (.d (.sc (.bool false)))))])
 .ret)
 .skip))))
 (fo [o0 25 (.bin .add (.t 13) (xi 1)), om 13 25])))))))
 (.seq
 (fo [o0 4 (.mov (.c (.d (.sc (.bool true)))))])
 .ret)))), [.tmp 4]⟩
theorem okb_EqualStrings : compFn Tryz.prog [] 33 = some k_EqualStrings := by kernel_rfl
def k_linClean1 : CF := ⟨5,
 (.seq
 (fo [o0 1 (.box (.t 0)), o0 2 (.mov (.c (.d (.sc (.bool false)))))])
 (.seq
 (fo [o0 3 (.fad 0 (.t 1)), o0 4 (.ld none (.t 3)), om 2 4])
 .ret)), [.tmp 2]⟩
theorem okb_linClean1 : compFn Tryz.prog [] 96 = some k_linClean1 := by kernel_rfl
def k_ContainsFuncRegion : CF := ⟨9,
 (.seq
 (fo [o0 4 (.mov (.c (.d (.sc (.bool false)))))])
 (.seq
 (fo [om 5 0, om 6 1, o0 7 (.call (.fn 122) [(.t 5), (.t 6)]), o0 8 (.bin .geq (.t 7) (xi 0)), om 4 8])
 .ret)), [.tmp 4]⟩
theorem okb_ContainsFuncRegion : compFn Tryz.prog [] 95 = some k_ContainsFuncRegion := by kernel_rfl
def k_IndexFuncRegion : CF := ⟨19,
 (.seq
 (fo [o0 4 (.mov (xi 0))])
 (.seq
 (.seq
 (fo [om 6 0, o0 7 (.len 0 (.t 6)), o0 8 (.mov (xi 0))])
 (.block 0
 (.loop
 (.seq
 (fo [o0 9 (.bin .lss (.t 8) (.t 7))])
 (.seq
 (.cond (.t 9)
 .skip
 (.exit 0))
 (.seq
 (.block 1
 (.seq
 (fo [om 10 8, om 5 10])
 (.seq
 (fo [om 11 1, om 12 0, om 13 5, o0 14 (.iad 3 (.t 12) (.t 13)), o0 15 (.ld (some 3) (.t 14)), o0 16 (.call (.val (.t 11)) [(.t 15)])])
 (.cond (.t 16)
 (.seq
 (fo [om 17 5, om 4 17])
 .ret)
 .skip))))
 (fo [o0 18 (.bin .add (.t 8) (xi 1)), om 8 18])))))))
 (.seq
 (fo [o0 4 (.mov (xi (-1)))])
 .ret))), [.tmp 4]⟩
theorem okb_IndexFuncRegion : compFn Tryz.prog [] 122 = some k_IndexFuncRegion := by kernel_rfl
def k_great : CF := ⟨5,
 (.seq
 (fo [o0 2 (.mov (.c (.d (.sc (.bool false)))))])
 (.seq
 (fo [om 3 0, o0 4 (.call (.fn 34) [(.t 3), (.c (.clo 35 [] []))]), om 2 4])
 .ret)), [.tmp 2]⟩
theorem okb_great : compFn Tryz.prog [] 7 = some k_great := by kernel_rfl
def k_ContainsFuncGraph : CF := ⟨9,
 (.seq
 (fo [o0 4 (.mov (.c (.d (.sc (.bool false)))))])
 (.seq
 (fo [om 5 0, om 6 1, o0 7 (.call (.fn 68) [(.t 5), (.t 6)]), o0 8 (.bin .geq (.t 7) (xi 0)), om 4 8])
 .ret)), [.tmp 4]⟩
theorem okb_ContainsFuncGraph : compFn Tryz.prog [] 34 = some k_ContainsFuncGraph := by kernel_rfl
def k_IndexFuncGraph : CF := ⟨19,
 (.seq
 (fo [o0 4 (.mov (xi 0))])
 (.seq
 (.seq
 (fo [om 6 0, o0 7 (.len 0 (.t 6)), o0 8 (.mov (xi 0))])
 (.block 0
 (.loop
 (.seq
 (fo [o0 9 (.bin .lss (.t 8) (.t 7))])
 (.seq
 (.cond (.t 9)
 .skip
 (.exit 0))
 (.seq
 (.block 1
 (.seq
 (fo [om 10 8, om 5 10])
 (.seq
 (fo [om 11 1, om 12 0, om 13 5, o0 14 (.iad 2 (.t 12) (.t 13)), o0 15 (.ld (some 2) (.t 14)), o0 16 (.call (.val (.t 11)) [(.t 15)])])
 (.cond (.t 16)
 (.seq
 (fo [om 17 5, om 4 17])
 .ret)
 .skip))))
 (fo [o0 18 (.bin .add (.t 8) (xi 1)), om 8 18])))))))
 (.seq
 (fo [o0 4 (.mov (xi (-1)))])
 .ret))), [.tmp 4]⟩
theorem okb_IndexFuncGraph : compFn Tryz.prog [] 68 = some k_IndexFuncGraph := by kernel_rfl
def k_Great : CF := ⟨29,
 (.seq
 (fo [o0 1 (.box (.t 0)), o0 2 (.mov (.c (.d (.sc (.bool false)))))])
 (.seq
 (.seq
 (fo [o0 3 (.mov (xi 0))])
 (.block 0
 (.loop
 (.seq
 (.seq
 (fo [om 4 3, o0 5 (.fad 0 (.t 1)), o0 6 (.ld none (.t 5)), o0 7 (.len 0 (.t 6)), o0 8 (.bin .lss (.t 4) (.t 7))])
 (.cond (.t 8)
 .skip
 (.exit 0)))
 (.seq
 (.block 1
 (.seq
 (fo [o0 11 (.fad 0 (.t 1)), o0 12 (.ld none (.t 11)), om 13 3, o0 14 (.iad 35 (.t 12) (.t 13)), o0 15 (.fad 33 (.t 14)), o0 16 (.ld none (.t 15)), o0 17 (.len 1 (.t 16)), o0 18 (.bin .gtr (.t 17) (xi 40))])
 (.cond (.t 18)
 (.seq
 (fo [o0 2 (.mov (.c (.d (.sc (.bool true)))))])
 .ret)
 .skip)))
 (fo [om 9 3, o0 10 (.bin .add (.t 9) (xi 1)), om 3 10]))))))
 (.seq
 (fo [o0 19 (.fad 0 (.t 1)), o0 20 (.ld none (.t 19)), o0 21 (.len 0 (.t 20)), o0 22 (.bin .gtr (.t 21) (xi 16)), om 23 22, og 24 23 false (.fad 1 (.t 1)), og 25 23 false (.ld none (.t 24)), og 26 23 false (.len 0 (.t 25)), og 27 23 false (.bin .gtr (.t 26) (xi 60)), o0 28 (.pick (.t 23) (.c (.d (.sc (.bool true)))) (.t 27)), om 2 28])
 .ret))), [.tmp 2]⟩
theorem okb_Great : compFn Tryz.prog [] 35 = some k_Great := by kernel_rfl
end Go.Proofs.Lh

namespace Go.Proofs.Lg
structure Mt where
 a : Nat
 b : Nat
 len : Nat
structure Hk where
 pos : Nat
 old : List ByteArray
 new : List ByteArray
def mPut (out : List Mt) (i k : Nat) : List Mt :=
 match out.getLast? with
 | some m => if m.a + m.len = i ∧ m.b + m.len = k then out.dropLast ++ [⟨m.a, m.b, m.len + 1⟩] else out ++ [⟨i, k, 1⟩]
 | none => [⟨i, k, 1⟩]
def mGo (f : Nat → Option Nat) : List Nat → Int → List Mt → Option (List Mt)
 | [], _, out => some out
 | i :: is, last, out => match f i with
   | none => mGo f is last out
   | some k => if (k : Int) ≤ last then none else mGo f is k (mPut out i k)
def hGo (a b : List ByteArray) : Nat → Nat → List Mt → List Hk
 | i, k, [] => if a.length > i ∨ b.length > k then [⟨i, a.drop i, b.drop k⟩] else []
 | i, k, m :: l => (if m.a > i ∨ m.b > k then [⟨i, (a.take m.a).drop i, (b.take m.b).drop k⟩] else []) ++ hGo a b (m.a + m.len) (m.b + m.len) l
def MOk (a b : List ByteArray) (m : Mt) : Prop := 1 ≤ m.len ∧ m.a + m.len ≤ a.length ∧ m.b + m.len ≤ b.length ∧ ∀ q, q < m.len → a[m.a + q]? = b[m.b + q]?
def MFrom (a b : List ByteArray) : Nat → Nat → Bool → List Mt → Prop
 | _, _, _, [] => True
 | x, y, first, m :: l => MOk a b m ∧ x ≤ m.a ∧ y ≤ m.b ∧ (first = true ∨ ¬ (m.a = x ∧ m.b = y)) ∧ MFrom a b (m.a + m.len) (m.b + m.len) false l
def mEnd (x y : Nat) (first : Bool) (l : List Mt) : Nat × Nat × Bool := match l.getLast? with
 | some m => (m.a + m.len, m.b + m.len, false)
 | none => (x, y, first)
theorem mEnd_cons (x y : Nat) (first : Bool) (m : Mt) (l : List Mt) : mEnd x y first (m :: l) = mEnd (m.a + m.len) (m.b + m.len) false l := by
 unfold mEnd
 cases l with
 | nil => rfl
 | cons m' l =>
   rw [List.getLast?_cons_cons]
   cases h : (m' :: l).getLast? with
   | none => simp at h
   | some z => rfl
theorem MFrom_snoc {a b : List ByteArray} {m : Mt} : ∀ {l : List Mt} {x y : Nat} {first : Bool}, MFrom a b x y first (l ++ [m]) ↔ MFrom a b x y first l ∧ MOk a b m ∧ (mEnd x y first l).1 ≤ m.a ∧ (mEnd x y first l).2.1 ≤ m.b ∧ ((mEnd x y first l).2.2 = true ∨ ¬ (m.a = (mEnd x y first l).1 ∧ m.b = (mEnd x y first l).2.1))
 | [], x, y, first => by simp [MFrom, mEnd]
 | m' :: l, x, y, first => by
   rw [List.cons_append, MFrom, MFrom, MFrom_snoc (l := l), mEnd_cons]
   constructor
   · rintro ⟨h1, h2, h3, h4, h5, h6⟩; exact ⟨⟨h1, h2, h3, h4, h5⟩, h6⟩
   · rintro ⟨⟨h1, h2, h3, h4, h5⟩, h6⟩; exact ⟨h1, h2, h3, h4, h5, h6⟩
theorem mPut_ok {a b : List ByteArray} {out : List Mt} {i k : Nat} (h : MFrom a b 0 0 true out) (h1 : (mEnd 0 0 true out).1 ≤ i) (h2 : (mEnd 0 0 true out).2.1 ≤ k) (hi : i < a.length) (hk : k < b.length) (hx : a[i]? = b[k]?) :
   MFrom a b 0 0 true (mPut out i k) ∧ mEnd 0 0 true (mPut out i k) = (i + 1, k + 1, false) := by
 have h1k : MOk a b ⟨i, k, 1⟩ := ⟨Nat.le_refl _, by dsimp only; omega, by dsimp only; omega, fun q hq => by
   obtain rfl : q = 0 := by dsimp only at hq; omega
   exact hx⟩
 rcases List.eq_nil_or_concat out with rfl | ⟨l, m, rfl⟩
 · exact ⟨⟨h1k, Nat.zero_le _, Nat.zero_le _, .inl rfl, trivial⟩, rfl⟩
 · rw [List.concat_eq_append] at *
   unfold mPut
   rw [List.getLast?_append]
   simp only [List.getLast?_singleton, Option.some_or, List.dropLast_concat]
   have he : mEnd 0 0 true (l ++ [m]) = (m.a + m.len, m.b + m.len, false) := by unfold mEnd; rw [List.getLast?_append]; rfl
   rw [he] at h1 h2
   dsimp only at h1 h2
   obtain ⟨k1, k2, k3, k4, k5⟩ := MFrom_snoc.1 h
   by_cases hc : m.a + m.len = i ∧ m.b + m.len = k
   · rw [if_pos hc]
     obtain ⟨o1, o2, o3, o4⟩ := k2
     refine ⟨MFrom_snoc.2 ⟨k1, ⟨by dsimp only; omega, by dsimp only; omega, by dsimp only; omega, fun q hq => ?_⟩, k3, k4, k5⟩, ?_⟩
     · dsimp only at hq ⊢
       by_cases hql : q < m.len
       · exact o4 q hql
       · obtain rfl : q = m.len := by omega
         rw [hc.1, hc.2]; exact hx
     · unfold mEnd; rw [List.getLast?_append]
       simp only [List.getLast?_singleton, Option.some_or, Prod.mk.injEq, and_true]
       omega
   · rw [if_neg hc]
     refine ⟨MFrom_snoc.2 ⟨h, h1k, by rw [he]; exact h1, by rw [he]; exact h2, .inr (by rw [he]; dsimp only; omega)⟩, ?_⟩
     unfold mEnd; rw [List.getLast?_append]; rfl
theorem mGo_ok {a b : List ByteArray} {f : Nat → Option Nat} (hf : ∀ i k, f i = some k → i < a.length ∧ k < b.length ∧ a[i]? = b[k]?) :
   ∀ (n i : Nat) (last : Int) (out l : List Mt), MFrom a b 0 0 true out → (mEnd 0 0 true out).1 ≤ i → ((mEnd 0 0 true out).2.1 : Int) ≤ last + 1 → -1 ≤ last → mGo f (List.range' i n) last out = some l → MFrom a b 0 0 true l
 | 0, i, last, out, l, h, _, _, _, hg => by
   simp [mGo] at hg; subst hg; exact h
 | n + 1, i, last, out, l, h, h1, h2, h3, hg => by
   rw [List.range'_succ, mGo] at hg
   cases hfi : f i with
   | none =>
     rw [hfi] at hg
     exact mGo_ok hf n (i + 1) last out l h (by omega) h2 h3 hg
   | some k =>
     rw [hfi] at hg
     dsimp only at hg
     split at hg
     · cases hg
     · obtain ⟨f1, f2, f3⟩ := hf i k hfi
       obtain ⟨p1, p2⟩ := mPut_ok (i := i) (k := k) h (by omega) (by omega) f1 f2 f3
       exact mGo_ok hf n (i + 1) k _ l p1 (by rw [p2]; exact Nat.le_refl _) (by rw [p2]; dsimp only; omega) (by omega) hg
end Go.Proofs.Lg

namespace Go.Proofs.Lh
open Go Go.Ab Go.Bb
def k_linTexts : CF := ⟨25,
 (.seq
 (fo [o0 2 (.box (.t 0)), o0 4 (.mov (.c (.nil 1)))])
 (.seq
 (fo [o0 5 (.mov (.c (.nil 1)))])
 (.seq
 (.seq
 (fo [om 8 1, o0 9 (.len 0 (.t 8)), o0 10 (.mov (xi 0))])
 (.block 0
 (.loop
 (.seq
 (fo [o0 11 (.bin .lss (.t 10) (.t 9))])
 (.seq
 (.cond (.t 11)
 .skip
 (.exit 0))
 (.seq
 (.block 1
 (.seq
 (fo [o0 12 (.iad 1 (.t 8) (.t 10)), o0 13 (.ld none (.t 12)), om 7 13])
 (fo [om 14 5, o0 15 (.fad 0 (.t 2)), o0 16 (.ld none (.t 15)), om 17 7, o0 18 (.iad 35 (.t 16) (.t 17)), o0 19 (.fad 33 (.t 18)), o0 20 (.ld none (.t 19)), o0 21 (.bsl false 9 1 1 [(.d (.sc (.string ⟨#[]⟩)))] [(0, 1, (.t 20))]), o0 22 (.app false 9 1 16 (.t 14) (.t 21)), om 5 22])))
 (fo [o0 23 (.bin .add (.t 10) (xi 1)), om 10 23])))))))
 (.seq
 (fo [om 24 5, om 4 24])
 .ret)))), [.tmp 4]⟩
theorem okb_linTexts : compFn Tryz.prog [] 58 = some k_linTexts := by kernel_rfl
end Go.Proofs.Lh

namespace Go.Proofs.Lh
open Go Go.Ab Go.Bb
end Go.Proofs.Lh

namespace Go.Proofs.Lg
open Go Go.Ab Go.Bb Go.Proofs.Lh
def dNat (n : Nat) : D := .sc (.int .i64 n)
def dBool (b : Bool) : D := .sc (.bool b)
def nrow (j : Nat) : List D := [.sc (.int .i64 j)]
def dNats (l : List Nat) : D := .sl 1 (l.map nrow)
theorem wrapN {n : Int} {m : Nat} (h : n = m) (hm : m < 9223372036854775808) : IntKind.i64.wrap n = (m : Int) := by
 subst h
 simp only [IntKind.wrap, IntKind.bits, IntKind.signed]
 have : ((m : Int) % 2 ^ 64) = m := by omega
 simp only [this]
 simp; omega
end Go.Proofs.Lg
