/-
  Part UF of this claim's proof. Joined by merge.py from the texts of wip/tpl.
-/
import Derived.Test.YtclholnhkhjjaaaGreatGAJ
import Derived.Test.YtclholnhkhjjaaaGreatProg
set_option linter.unusedVariables false
set_option linter.unusedSimpArgs false
set_option linter.unnecessarySimpa false
namespace Go.Proofs.Lh
open Go Go.Ab Go.Bb
def k_refLines : CF := ⟨24,
 (.seq
 (fo [o0 1 (.box (.t 0)), o0 2 (.mov (.c (.nil 1)))])
 (.seq
 (fo [o0 5 (.bsl false 3 1 0 [] []), o0 6 (.fad 1 (.t 1)), o0 7 (.ld none (.t 6)), o0 8 (.app false 3 1 8 (.t 5) (.t 7)), om 3 8])
 (.seq
 (.seq
 (fo [o0 4 (.mov (xi 0))])
 (.block 0
 (.loop
 (.seq
 (.seq
 (fo [om 9 4, o0 10 (.fad 2 (.t 1)), o0 11 (.ld none (.t 10)), o0 12 (.len 0 (.t 11)), o0 13 (.bin .lss (.t 9) (.t 12))])
 (.cond (.t 13)
 .skip
 (.exit 0)))
 (.seq
 (.block 1
 (fo [om 16 3, o0 17 (.fad 2 (.t 1)), o0 18 (.ld none (.t 17)), om 19 4, o0 20 (.iad 1 (.t 18) (.t 19)), o0 21 (.ld none (.t 20)), o0 22 (.app false 3 1 8 (.t 16) (.t 21)), om 3 22]))
 (fo [om 14 4, o0 15 (.bin .add (.t 14) (xi 1)), om 4 15]))))))
 (.seq
 (fo [om 23 3, om 2 23])
 .ret)))), [.tmp 2]⟩
theorem okb_refLines : compFn Tryz.prog [] 47 = some k_refLines := by kernel_rfl
def k_refTexts : CF := ⟨27,
 (.seq
 (fo [o0 2 (.box (.t 0)), o0 4 (.mov (.c (.nil 1)))])
 (.seq
 (fo [o0 7 (.bsl false 9 1 0 [] []), om 5 7])
 (.seq
 (.seq
 (fo [o0 6 (.mov (xi 0))])
 (.block 0
 (.loop
 (.seq
 (.seq
 (fo [om 8 6, om 9 1, o0 10 (.len 0 (.t 9)), o0 11 (.bin .lss (.t 8) (.t 10))])
 (.cond (.t 11)
 .skip
 (.exit 0)))
 (.seq
 (.block 1
 (.ops true [0, 0, 2, 0, 0, 24, 56, 126, 254, 510, 1022, 2047, 4095] [om 14 5, o0 15 (.fad 0 (.t 2)), o0 16 (.ld none (.t 15)), om 17 1, om 18 6, o0 19 (.iad 1 (.t 17) (.t 18)), o0 20 (.ld none (.t 19)), o0 21 (.iad 35 (.t 16) (.t 20)), o0 22 (.fad 33 (.t 21)), o0 23 (.ld none (.t 22)), o0 24 (.bsl false 9 1 1 [(.d (.sc (.string ⟨#[]⟩)))] [(0, 1, (.t 23))]), o0 25 (.app false 9 1 16 (.t 14) (.t 24)), om 5 25]))
 (fo [om 12 6, o0 13 (.bin .add (.t 12) (xi 1)), om 6 13]))))))
 (.seq
 (fo [om 26 5, om 4 26])
 .ret)))), [.tmp 4]⟩
theorem okb_refTexts : compFn Tryz.prog [] 62 = some k_refTexts := by kernel_rfl
def k_refText : CF := ⟨60,
 (.seq
 (fo [o0 1 (.box (.t 0)), o0 2 (.mov (.c (.nil 3)))])
 (.seq
 (fo [o0 8 (.bsl false 107 3 0 [] []), om 3 8])
 (.seq
 (fo [o0 9 (.ld (some 2) (.t 1)), o0 10 (.call (.fn 14) [(.t 9)]), om 4 10])
 (.seq
 (.seq
 (fo [o0 5 (.mov (xi 0))])
 (.block 0
 (.loop
 (.seq
 (.seq
 (fo [om 11 5, om 12 4, o0 13 (.len 0 (.t 12)), o0 14 (.bin .lss (.t 11) (.t 13))])
 (.cond (.t 14)
 .skip
 (.exit 0)))
 (.seq
 (.block 1
 (.seq
 (.ops true [0, 0, 3, 7, 15, 0, 0, 0, 192, 448, 960, 2016, 4095, 0, 16383] [om 17 4, om 18 5, o0 19 (.iad 3 (.t 17) (.t 18)), o0 20 (.fad 0 (.t 19)), o0 21 (.ld none (.t 20)), o0 22 (.ld (some 2) (.t 1)), om 23 4, om 24 5, o0 25 (.iad 3 (.t 23) (.t 24)), o0 26 (.fad 1 (.t 25)), o0 27 (.ld none (.t 26)), o0 28 (.call (.fn 62) [(.t 22), (.t 27)]), o0 29 (.bld [(.d (.sc (.bool false))), (.nil 1), (.nil 1)] [(0, 1, (.t 21)), (1, 1, (.t 28))]), o0 6 (.box (.c (.agg [(.d (.sc (.bool false))), (.nil 1), (.nil 1)]))), oN (.st 3 (.t 6) (.t 29))])
 (.seq
 (.seq
 (fo [o0 7 (.mov (xi 0))])
 (.block 2
 (.loop
 (.seq
 (.seq
 (fo [om 30 7, om 31 4, om 32 5, o0 33 (.iad 3 (.t 31) (.t 32)), o0 34 (.fad 2 (.t 33)), o0 35 (.ld none (.t 34)), o0 36 (.len 0 (.t 35)), o0 37 (.bin .lss (.t 30) (.t 36))])
 (.cond (.t 37)
 .skip
 (.exit 2)))
 (.seq
 (.block 3
 (.ops true [0, 1, 0, 0, 0, 24, 56, 120, 0, 504, 1016, 2044, 4092, 8191, 16383, 32767] [o0 40 (.fad 2 (.t 6)), o0 41 (.ld none (.t 40)), o0 42 (.ld (some 2) (.t 1)), om 43 4, om 44 5, o0 45 (.iad 3 (.t 43) (.t 44)), o0 46 (.fad 2 (.t 45)), o0 47 (.ld none (.t 46)), om 48 7, o0 49 (.iad 1 (.t 47) (.t 48)), o0 50 (.ld none (.t 49)), o0 51 (.call (.fn 62) [(.t 42), (.t 50)]), o0 52 (.bsl false 56 1 1 [(.nil 1)] [(0, 1, (.t 51))]), o0 53 (.app false 56 1 24 (.t 41) (.t 52)), o0 54 (.fad 2 (.t 6)), oN (.st 1 (.t 54) (.t 53))]))
 (fo [om 38 7, o0 39 (.bin .add (.t 38) (xi 1)), om 7 39]))))))
 (fo [om 55 3, o0 56 (.ld (some 3) (.t 6)), o0 57 (.bsl false 107 3 1 [(.d (.sc (.bool false))), (.nil 1), (.nil 1)] [(0, 3, (.t 56))]), o0 58 (.app false 107 3 56 (.t 55) (.t 57)), om 3 58]))))
 (fo [om 15 5, o0 16 (.bin .add (.t 15) (xi 1)), om 5 16]))))))
 (.seq
 (fo [om 59 3, om 2 59])
 .ret))))), [.tmp 2]⟩
theorem okb_refText : compFn Tryz.prog [] 24 = some k_refText := by kernel_rfl
def k_refClean : CF := ⟨18,
 (.seq
 (fo [o0 1 (.box (.t 0)), o0 2 (.mov (.c (.d (.sc (.bool false)))))])
 (.seq
 (fo [o0 5 (.ld (some 2) (.t 1)), o0 6 (.call (.fn 14) [(.t 5)]), om 3 6])
 (.seq
 (.seq
 (fo [o0 4 (.mov (xi 0))])
 (.block 0
 (.loop
 (.seq
 (.seq
 (fo [om 7 4, om 8 3, o0 9 (.len 0 (.t 8)), o0 10 (.bin .lss (.t 7) (.t 9))])
 (.cond (.t 10)
 .skip
 (.exit 0)))
 (.seq
 (.block 1
 (.seq
 (fo [om 13 3, om 14 4, o0 15 (.iad 3 (.t 13) (.t 14)), o0 16 (.fad 0 (.t 15)), o0 17 (.ld none (.t 16))])
 (.cond (.t 17)
 (.seq
 (fo [o0 2 (.mov (.c (.d (.sc (.bool false)))))])
 .ret)
 .skip)))
 (fo [om 11 4, o0 12 (.bin .add (.t 11) (xi 1)), om 4 12]))))))
 (.seq
 (fo [o0 2 (.mov (.c (.d (.sc (.bool true)))))])
 .ret)))), [.tmp 2]⟩
theorem okb_refClean : compFn Tryz.prog [] 59 = some k_refClean := by kernel_rfl
def k_refOf08 : CF := ⟨82,
 (.seq
 (fo [o0 6 (.mov (.c (.nil 3))), o0 7 (.mov (xi 0))])
 (.seq
 (.seq
 (fo [om 16 0, om 17 1, om 18 2, o0 19 (.call (.fn 100) [(.t 16), (.t 17), (.t 18)]), om 8 19])
 (.seq
 (fo [om 20 8, o0 21 (.bin .neq (.t 20) (xi 0))])
 (.cond (.t 21)
 (.seq
 (fo [o0 22 (.bsl false 109 3 0 [] []), om 23 8, om 6 22, om 7 23])
 .ret)
 .skip)))
 (.seq
 (fo [o0 24 (.bsl false 109 3 0 [] []), om 9 24])
 (.seq
 (fo [o0 10 (.mov (xi 0)), o0 11 (.mov (xi 0))])
 (.seq
 (.seq
 (fo [o0 12 (.mov (xi 0))])
 (.block 0
 (.loop
 (.seq
 (.seq
 (fo [om 25 12, om 26 2, o0 27 (.len 0 (.t 26)), o0 28 (.bin .leq (.t 25) (.t 27))])
 (.cond (.t 28)
 .skip
 (.exit 0)))
 (.seq
 (.block 1
 (.seq
 (fo [om 31 0, o0 32 (.len 0 (.t 31)), om 33 1, o0 34 (.len 0 (.t 33)), om 13 32, om 14 34, o0 15 (.mov (xi 0))])
 (.seq
 (.seq
 (fo [om 35 12, om 36 2, o0 37 (.len 0 (.t 36)), o0 38 (.bin .lss (.t 35) (.t 37))])
 (.cond (.t 38)
 (.ops true [0, 0, 3, 7, 15, 0, 0, 96, 224, 480, 0, 0, 3072, 7168, 15360, 31, 33791, 131071] [om 39 2, om 40 12, o0 41 (.iad 3 (.t 39) (.t 40)), o0 42 (.fad 0 (.t 41)), o0 43 (.ld none (.t 42)), om 44 2, om 45 12, o0 46 (.iad 3 (.t 44) (.t 45)), o0 47 (.fad 1 (.t 46)), o0 48 (.ld none (.t 47)), om 49 2, om 50 12, o0 51 (.iad 3 (.t 49) (.t 50)), o0 52 (.fad 2 (.t 51)), o0 53 (.ld none (.t 52)), om 13 43, om 14 48, om 15 53])
 .skip))
 (.seq
 (.seq
 (fo [om 54 13, om 55 10, o0 56 (.bin .gtr (.t 54) (.t 55)), om 57 56, oh 58 57 false 14, oh 59 57 false 11, og 60 57 false (.bin .gtr (.t 58) (.t 59)), o0 61 (.pick (.t 57) (.c (.d (.sc (.bool true)))) (.t 60))])
 (.cond (.t 61)
 (.ops true [0, 0, 0, 0, 0, 28, 0, 0, 0, 448, 1022, 2046, 4095, 8191] [om 62 9, om 63 10, om 64 0, om 65 10, om 66 13, o0 67 (.slc 1 (.t 64) (some (.t 65)) (some (.t 66))), om 68 1, om 69 11, om 70 14, o0 71 (.slc 1 (.t 68) (some (.t 69)) (some (.t 70))), o0 72 (.bld [(.d (.sc (.int .i64 0))), (.nil 1), (.nil 1)] [(0, 1, (.t 63)), (1, 1, (.t 67)), (2, 1, (.t 71))]), o0 73 (.bsl false 109 3 1 [(.d (.sc (.int .i64 0))), (.nil 1), (.nil 1)] [(0, 3, (.t 72))]), o0 74 (.app false 109 3 56 (.t 62) (.t 73)), om 9 74])
 .skip))
 (fo [om 75 13, om 76 15, o0 77 (.bin .add (.t 75) (.t 76)), om 78 14, om 79 15, o0 80 (.bin .add (.t 78) (.t 79)), om 10 77, om 11 80])))))
 (fo [om 29 12, o0 30 (.bin .add (.t 29) (xi 1)), om 12 30]))))))
 (.seq
 (fo [om 81 9, om 6 81, o0 7 (.mov (xi 0))])
 .ret)))))), [.tmp 6, .tmp 7]⟩
theorem okb_refOf08 : compFn Tryz.prog [] 61 = some k_refOf08 := by kernel_rfl
def k_refCheck03 : CF := ⟨124,
 (.seq
 (fo [o0 6 (.mov (xi 0))])
 (.seq
 (fo [o0 7 (.mov (xi 0)), o0 8 (.mov (xi 0))])
 (.seq
 (.seq
 (fo [o0 9 (.mov (xi 0))])
 (.block 0
 (.loop
 (.seq
 (.seq
 (fo [om 12 9, om 13 2, o0 14 (.len 0 (.t 13)), o0 15 (.bin .lss (.t 12) (.t 14))])
 (.cond (.t 15)
 .skip
 (.exit 0)))
 (.seq
 (.block 1
 (.seq
 (fo [om 18 2, om 19 9, o0 20 (.iad 3 (.t 18) (.t 19)), o0 21 (.ld (some 3) (.t 20)), o0 10 (.box (.c (.agg [(.d (.sc (.int .i64 0))), (.d (.sc (.int .i64 0))), (.d (.sc (.int .i64 0)))]))), oN (.st 3 (.t 10) (.t 21))])
 (.seq
 (.seq
 (fo [o0 22 (.fad 2 (.t 10)), o0 23 (.ld none (.t 22)), o0 24 (.bin .lss (.t 23) (xi 1))])
 (.cond (.t 24)
 (.seq
 (fo [o0 6 (.mov (xi 1))])
 .ret)
 .skip))
 (.seq
 (.seq
 (fo [o0 25 (.fad 0 (.t 10)), o0 26 (.ld none (.t 25)), o0 27 (.bin .lss (.t 26) (xi 0)), om 28 27, og 29 28 false (.fad 1 (.t 10)), og 30 28 false (.ld none (.t 29)), og 31 28 false (.bin .lss (.t 30) (xi 0)), o0 32 (.pick (.t 28) (.c (.d (.sc (.bool true)))) (.t 31)), om 33 32, og 34 33 false (.fad 2 (.t 10)), og 35 33 false (.ld none (.t 34)), oh 36 33 false 0, og 37 33 false (.len 0 (.t 36)), og 38 33 false (.bin .gtr (.t 35) (.t 37)), o0 39 (.pick (.t 33) (.c (.d (.sc (.bool true)))) (.t 38)), om 40 39, og 41 40 false (.fad 2 (.t 10)), og 42 40 false (.ld none (.t 41)), oh 43 40 false 1, og 44 40 false (.len 0 (.t 43)), og 45 40 false (.bin .gtr (.t 42) (.t 44)), o0 46 (.pick (.t 40) (.c (.d (.sc (.bool true)))) (.t 45)), om 47 46, og 48 47 false (.fad 0 (.t 10)), og 49 47 false (.ld none (.t 48)), oh 50 47 false 0, og 51 47 false (.len 0 (.t 50)), og 52 47 false (.fad 2 (.t 10)), og 53 47 false (.ld none (.t 52)), og 54 47 false (.bin .sub (.t 51) (.t 53)), og 55 47 false (.bin .gtr (.t 49) (.t 54)), o0 56 (.pick (.t 47) (.c (.d (.sc (.bool true)))) (.t 55)), om 57 56, og 58 57 false (.fad 1 (.t 10)), og 59 57 false (.ld none (.t 58)), oh 60 57 false 1, og 61 57 false (.len 0 (.t 60)), og 62 57 false (.fad 2 (.t 10)), og 63 57 false (.ld none (.t 62)), og 64 57 false (.bin .sub (.t 61) (.t 63)), og 65 57 false (.bin .gtr (.t 59) (.t 64)), o0 66 (.pick (.t 57) (.c (.d (.sc (.bool true)))) (.t 65))])
 (.cond (.t 66)
 (.seq
 (fo [o0 6 (.mov (xi 2))])
 .ret)
 .skip))
 (.seq
 (.seq
 (fo [o0 67 (.fad 0 (.t 10)), o0 68 (.ld none (.t 67)), om 69 7, o0 70 (.bin .lss (.t 68) (.t 69)), om 71 70, og 72 71 false (.fad 1 (.t 10)), og 73 71 false (.ld none (.t 72)), oh 74 71 false 8, og 75 71 false (.bin .lss (.t 73) (.t 74)), o0 76 (.pick (.t 71) (.c (.d (.sc (.bool true)))) (.t 75)), om 77 76, oh 78 77 false 9, og 79 77 false (.bin .gtr (.t 78) (xi 0)), oh 80 77 false 79, og 81 80 true (.fad 0 (.t 10)), og 82 80 true (.ld none (.t 81)), oh 83 80 true 7, og 84 80 true (.bin .eql (.t 82) (.t 83)), og 85 77 false (.pick (.t 80) (.t 84) (.c (.d (.sc (.bool false))))), oh 86 77 false 85, og 87 86 true (.fad 1 (.t 10)), og 88 86 true (.ld none (.t 87)), oh 89 86 true 8, og 90 86 true (.bin .eql (.t 88) (.t 89)), og 91 77 false (.pick (.t 86) (.t 90) (.c (.d (.sc (.bool false))))), o0 92 (.pick (.t 77) (.c (.d (.sc (.bool true)))) (.t 91))])
 (.cond (.t 92)
 (.seq
 (fo [o0 6 (.mov (xi 9))])
 .ret)
 .skip))
 (.seq
 (.seq
 (fo [o0 11 (.mov (xi 0))])
 (.block 2
 (.loop
 (.seq
 (.seq
 (fo [om 93 11, o0 94 (.fad 2 (.t 10)), o0 95 (.ld none (.t 94)), o0 96 (.bin .lss (.t 93) (.t 95))])
 (.cond (.t 96)
 .skip
 (.exit 2)))
 (.seq
 (.block 3
 (.seq
 (.ops true [0, 0, 2, 0, 14, 31, 63, 0, 0, 256, 0, 1792, 3968, 8064, 16383] [om 99 0, o0 100 (.fad 0 (.t 10)), o0 101 (.ld none (.t 100)), om 102 11, o0 103 (.bin .add (.t 101) (.t 102)), o0 104 (.iad 1 (.t 99) (.t 103)), o0 105 (.ld none (.t 104)), om 106 1, o0 107 (.fad 1 (.t 10)), o0 108 (.ld none (.t 107)), om 109 11, o0 110 (.bin .add (.t 108) (.t 109)), o0 111 (.iad 1 (.t 106) (.t 110)), o0 112 (.ld none (.t 111)), o0 113 (.bin .neq (.t 105) (.t 112))])
 (.cond (.t 113)
 (.seq
 (fo [o0 6 (.mov (xi 10))])
 .ret)
 .skip)))
 (fo [om 97 11, o0 98 (.bin .add (.t 97) (xi 1)), om 11 98]))))))
 (.ops true [0, 1, 0, 4, 15, 0, 32, 0, 128, 480, 31, 2047] [o0 114 (.fad 0 (.t 10)), o0 115 (.ld none (.t 114)), o0 116 (.fad 2 (.t 10)), o0 117 (.ld none (.t 116)), o0 118 (.bin .add (.t 115) (.t 117)), o0 119 (.fad 1 (.t 10)), o0 120 (.ld none (.t 119)), o0 121 (.fad 2 (.t 10)), o0 122 (.ld none (.t 121)), o0 123 (.bin .add (.t 120) (.t 122)), om 7 118, om 8 123])))))))
 (fo [om 16 9, o0 17 (.bin .add (.t 16) (xi 1)), om 9 17]))))))
 (.seq
 (fo [o0 6 (.mov (xi 0))])
 .ret)))), [.tmp 6]⟩
theorem okb_refCheck03 : compFn Tryz.prog [] 100 = some k_refCheck03 := by kernel_rfl
def k_refSame04 : CF := ⟨26,
 (.seq
 (fo [o0 4 (.mov (.c (.d (.sc (.bool false)))))])
 (.seq
 (.seq
 (fo [om 6 0, o0 7 (.len 0 (.t 6)), om 8 1, o0 9 (.len 0 (.t 8)), o0 10 (.bin .neq (.t 7) (.t 9))])
 (.cond (.t 10)
 (.seq
 (fo [o0 4 (.mov (.c (.d (.sc (.bool false)))))])
 .ret)
 .skip))
 (.seq
 (.seq
 (fo [o0 5 (.mov (xi 0))])
 (.block 0
 (.loop
 (.seq
 (.seq
 (fo [om 11 5, om 12 0, o0 13 (.len 0 (.t 12)), o0 14 (.bin .lss (.t 11) (.t 13))])
 (.cond (.t 14)
 .skip
 (.exit 0)))
 (.seq
 (.block 1
 (.seq
 (.ops true [0, 0, 3, 7, 0, 0, 48, 112, 255] [om 17 0, om 18 5, o0 19 (.iad 1 (.t 17) (.t 18)), o0 20 (.ld none (.t 19)), om 21 1, om 22 5, o0 23 (.iad 1 (.t 21) (.t 22)), o0 24 (.ld none (.t 23)), o0 25 (.bin .neq (.t 20) (.t 24))])
 (.cond (.t 25)
 (.seq
 (fo [o0 4 (.mov (.c (.d (.sc (.bool false)))))])
 .ret)
 .skip)))
 (fo [om 15 5, o0 16 (.bin .add (.t 15) (xi 1)), om 5 16]))))))
 (.seq
 (fo [o0 4 (.mov (.c (.d (.sc (.bool true)))))])
 .ret)))), [.tmp 4]⟩
theorem okb_refSame04 : compFn Tryz.prog [] 63 = some k_refSame04 := by kernel_rfl
def k_refSame08 : CF := ⟨56,
 (.seq
 (fo [o0 4 (.mov (.c (.d (.sc (.bool false)))))])
 (.seq
 (.seq
 (fo [om 6 0, o0 7 (.len 0 (.t 6)), om 8 1, o0 9 (.len 0 (.t 8)), o0 10 (.bin .neq (.t 7) (.t 9))])
 (.cond (.t 10)
 (.seq
 (fo [o0 4 (.mov (.c (.d (.sc (.bool false)))))])
 .ret)
 .skip))
 (.seq
 (.seq
 (fo [o0 5 (.mov (xi 0))])
 (.block 0
 (.loop
 (.seq
 (.seq
 (fo [om 11 5, om 12 0, o0 13 (.len 0 (.t 12)), o0 14 (.bin .lss (.t 11) (.t 13))])
 (.cond (.t 14)
 .skip
 (.exit 0)))
 (.seq
 (.block 1
 (.seq
 (.ops true [0, 0, 3, 7, 15, 0, 0, 96, 224, 480, 1023, 2047, 4095, 4095, 16383, 32767, 65535, 4095, 4095, 397311, 921599, 1970175, 4194303, 8388607, 16777215, 33554431, 67108863, 67108863, 268435455, 536870911, 1073741823, 67108863, 67108863, 6509559807, 15099494399, 32279363583, 68719476735, 137438953471, 274877906943] [om 17 0, om 18 5, o0 19 (.iad 3 (.t 17) (.t 18)), o0 20 (.fad 0 (.t 19)), o0 21 (.ld none (.t 20)), om 22 1, om 23 5, o0 24 (.iad 3 (.t 22) (.t 23)), o0 25 (.fad 0 (.t 24)), o0 26 (.ld none (.t 25)), o0 27 (.bin .neq (.t 21) (.t 26)), om 28 27, oh 29 28 false 0, oh 30 28 false 5, og 31 28 false (.iad 3 (.t 29) (.t 30)), og 32 28 false (.fad 1 (.t 31)), og 33 28 false (.ld none (.t 32)), oh 34 28 false 1, oh 35 28 false 5, og 36 28 false (.iad 3 (.t 34) (.t 35)), og 37 28 false (.fad 1 (.t 36)), og 38 28 false (.ld none (.t 37)), og 39 28 false (.call (.fn 63) [(.t 33), (.t 38)]), og 40 28 false (.not (.t 39)), o0 41 (.pick (.t 28) (.c (.d (.sc (.bool true)))) (.t 40)), om 42 41, oh 43 42 false 0, oh 44 42 false 5, og 45 42 false (.iad 3 (.t 43) (.t 44)), og 46 42 false (.fad 2 (.t 45)), og 47 42 false (.ld none (.t 46)), oh 48 42 false 1, oh 49 42 false 5, og 50 42 false (.iad 3 (.t 48) (.t 49)), og 51 42 false (.fad 2 (.t 50)), og 52 42 false (.ld none (.t 51)), og 53 42 false (.call (.fn 63) [(.t 47), (.t 52)]), og 54 42 false (.not (.t 53)), o0 55 (.pick (.t 42) (.c (.d (.sc (.bool true)))) (.t 54))])
 (.cond (.t 55)
 (.seq
 (fo [o0 4 (.mov (.c (.d (.sc (.bool false)))))])
 .ret)
 .skip)))
 (fo [om 15 5, o0 16 (.bin .add (.t 15) (xi 1)), om 5 16]))))))
 (.seq
 (fo [o0 4 (.mov (.c (.d (.sc (.bool true)))))])
 .ret)))), [.tmp 4]⟩
theorem okb_refSame08 : compFn Tryz.prog [] 25 = some k_refSame08 := by kernel_rfl
def k_refSame22 : CF := ⟨86,
 (.seq
 (fo [o0 4 (.mov (.c (.d (.sc (.bool false)))))])
 (.seq
 (.seq
 (fo [om 7 0, o0 8 (.len 0 (.t 7)), om 9 1, o0 10 (.len 0 (.t 9)), o0 11 (.bin .neq (.t 8) (.t 10))])
 (.cond (.t 11)
 (.seq
 (fo [o0 4 (.mov (.c (.d (.sc (.bool false)))))])
 .ret)
 .skip))
 (.seq
 (.seq
 (fo [o0 5 (.mov (xi 0))])
 (.block 0
 (.loop
 (.seq
 (.seq
 (fo [om 12 5, om 13 0, o0 14 (.len 0 (.t 13)), o0 15 (.bin .lss (.t 12) (.t 14))])
 (.cond (.t 15)
 .skip
 (.exit 0)))
 (.seq
 (.block 1
 (.seq
 (.seq
 (.ops true [0, 0, 3, 7, 15, 0, 0, 96, 224, 480, 1023, 2047, 4095, 4095, 16383, 32767, 65535, 4095, 4095, 397311, 921599, 1970175, 4194303, 8388607, 16777215, 33554431, 67108863, 67108863, 268435455, 536870911, 1073741823, 2147483647, 67108863, 67108863, 12952010751, 30131879935, 64491618303, 133211095039, 274877906943, 549755813887] [om 18 0, om 19 5, o0 20 (.iad 3 (.t 18) (.t 19)), o0 21 (.fad 0 (.t 20)), o0 22 (.ld none (.t 21)), om 23 1, om 24 5, o0 25 (.iad 3 (.t 23) (.t 24)), o0 26 (.fad 0 (.t 25)), o0 27 (.ld none (.t 26)), o0 28 (.eqa false [.b] true (.t 22) (.t 27)), om 29 28, oh 30 29 false 0, oh 31 29 false 5, og 32 29 false (.iad 3 (.t 30) (.t 31)), og 33 29 false (.fad 1 (.t 32)), og 34 29 false (.ld none (.t 33)), oh 35 29 false 1, oh 36 29 false 5, og 37 29 false (.iad 3 (.t 35) (.t 36)), og 38 29 false (.fad 1 (.t 37)), og 39 29 false (.ld none (.t 38)), og 40 29 false (.call (.fn 63) [(.t 34), (.t 39)]), og 41 29 false (.not (.t 40)), o0 42 (.pick (.t 29) (.c (.d (.sc (.bool true)))) (.t 41)), om 43 42, oh 44 43 false 0, oh 45 43 false 5, og 46 43 false (.iad 3 (.t 44) (.t 45)), og 47 43 false (.fad 2 (.t 46)), og 48 43 false (.ld none (.t 47)), og 49 43 false (.len 0 (.t 48)), oh 50 43 false 1, oh 51 43 false 5, og 52 43 false (.iad 3 (.t 50) (.t 51)), og 53 43 false (.fad 2 (.t 52)), og 54 43 false (.ld none (.t 53)), og 55 43 false (.len 0 (.t 54)), og 56 43 false (.bin .neq (.t 49) (.t 55)), o0 57 (.pick (.t 43) (.c (.d (.sc (.bool true)))) (.t 56))])
 (.cond (.t 57)
 (.seq
 (fo [o0 4 (.mov (.c (.d (.sc (.bool false)))))])
 .ret)
 .skip))
 (.seq
 (fo [o0 6 (.mov (xi 0))])
 (.block 2
 (.loop
 (.seq
 (.seq
 (fo [om 58 6, om 59 0, om 60 5, o0 61 (.iad 3 (.t 59) (.t 60)), o0 62 (.fad 2 (.t 61)), o0 63 (.ld none (.t 62)), o0 64 (.len 0 (.t 63)), o0 65 (.bin .lss (.t 58) (.t 64))])
 (.cond (.t 65)
 .skip
 (.exit 2)))
 (.seq
 (.block 3
 (.seq
 (.ops true [0, 0, 3, 7, 15, 0, 63, 127, 0, 0, 768, 1792, 3840, 0, 16128, 32512, 65535, 131071] [om 68 0, om 69 5, o0 70 (.iad 3 (.t 68) (.t 69)), o0 71 (.fad 2 (.t 70)), o0 72 (.ld none (.t 71)), om 73 6, o0 74 (.iad 1 (.t 72) (.t 73)), o0 75 (.ld none (.t 74)), om 76 1, om 77 5, o0 78 (.iad 3 (.t 76) (.t 77)), o0 79 (.fad 2 (.t 78)), o0 80 (.ld none (.t 79)), om 81 6, o0 82 (.iad 1 (.t 80) (.t 81)), o0 83 (.ld none (.t 82)), o0 84 (.call (.fn 63) [(.t 75), (.t 83)]), o0 85 (.not (.t 84))])
 (.cond (.t 85)
 (.seq
 (fo [o0 4 (.mov (.c (.d (.sc (.bool false)))))])
 .ret)
 .skip)))
 (fo [om 66 6, o0 67 (.bin .add (.t 66) (xi 1)), om 6 67]))))))))
 (fo [om 16 5, o0 17 (.bin .add (.t 16) (xi 1)), om 5 17]))))))
 (.seq
 (fo [o0 4 (.mov (.c (.d (.sc (.bool true)))))])
 .ret)))), [.tmp 4]⟩
theorem okb_refSame22 : compFn Tryz.prog [] 22 = some k_refSame22 := by kernel_rfl
def k_linTexts : CF := ⟨25,
 (.seq
 (fo [o0 2 (.box (.t 0)), o0 4 (.mov (.c (.nil 1)))])
 (.seq
 (fo [o0 5 (.mov (.c (.nil 1)))])
 (.seq
 (.seq
 (fo [om 8 1, o0 9 (.len 0 (.t 8)), o0 10 (.mov (xi 0))])
 (.block 0
 (.loop
 (.seq
 (fo [o0 11 (.bin .lss (.t 10) (.t 9))])
 (.seq
 (.cond (.t 11)
 .skip
 (.exit 0))
 (.seq
 (.block 1
 (.seq
 (fo [o0 12 (.iad 1 (.t 8) (.t 10)), o0 13 (.ld none (.t 12)), om 7 13])
 (fo [om 14 5, o0 15 (.fad 0 (.t 2)), o0 16 (.ld none (.t 15)), om 17 7, o0 18 (.iad 35 (.t 16) (.t 17)), o0 19 (.fad 33 (.t 18)), o0 20 (.ld none (.t 19)), o0 21 (.bsl false 9 1 1 [(.d (.sc (.string ⟨#[]⟩)))] [(0, 1, (.t 20))]), o0 22 (.app false 9 1 16 (.t 14) (.t 21)), om 5 22])))
 (fo [o0 23 (.bin .add (.t 10) (xi 1)), om 10 23])))))))
 (.seq
 (fo [om 24 5, om 4 24])
 .ret)))), [.tmp 4]⟩
theorem okb_linTexts : compFn Tryz.prog [] 58 = some k_linTexts := by kernel_rfl
end Go.Proofs.Lh
