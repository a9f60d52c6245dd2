/-
  Part GAL of this claim's proof. Joined by merge.py from the texts of wip/tpl.
-/
import Derived.Test.YtclholnhkhjjaaaGreatGAJ
import Derived.Test.YtclholnhkhjjaaaGreatProg
import Derived.RangeFuncBox
import Derived.RangeFuncLeaves
import Derived.RangeFuncBound
import Derived.Shelf.Abstract
import Derived.WalkKit
import Derived.OwnWalkIn
import Derived.TacticsInMore
import Derived.LoopNIn
import Derived.LoopIn
import Derived.Maps.AppendAt
import Derived.Test.YtclholnhkhjjaaaGreatGAC
set_option linter.unusedVariables false
set_option linter.unusedSimpArgs false
set_option linter.unnecessarySimpa false
namespace Go.Proofs.Lh
open Go Go.Ab Go.Bb
def k_refBefore : CF := ⟨26,
 (.seq
 (fo [o0 3 (.box (.t 0)), o0 6 (.mov (.c (.d (.sc (.bool false)))))])
 (.seq
 (fo [o0 7 (.fad 2 (.t 3)), o0 8 (.ld none (.t 7)), om 9 1, o0 10 (.iad 1 (.t 8) (.t 9)), o0 11 (.ld none (.t 10)), om 12 2, o0 13 (.iad 1 (.t 11) (.t 12)), o0 14 (.ld none (.t 13)), om 15 14, og 16 15 true (.fad 2 (.t 3)), og 17 15 true (.ld none (.t 16)), oh 18 15 true 2, og 19 15 true (.iad 1 (.t 17) (.t 18)), og 20 15 true (.ld none (.t 19)), oh 21 15 true 1, og 22 15 true (.iad 1 (.t 20) (.t 21)), og 23 15 true (.ld none (.t 22)), og 24 15 true (.not (.t 23)), o0 25 (.pick (.t 15) (.t 24) (.c (.d (.sc (.bool false))))), om 6 25])
 .ret)), [.tmp 6]⟩
theorem okb_refBefore : compFn Tryz.prog [] 86 = some k_refBefore := by kernel_rfl
def k_refTogether : CF := ⟨25,
 (.seq
 (fo [o0 3 (.box (.t 0)), o0 6 (.mov (.c (.d (.sc (.bool false)))))])
 (.seq
 (fo [o0 7 (.fad 2 (.t 3)), o0 8 (.ld none (.t 7)), om 9 1, o0 10 (.iad 1 (.t 8) (.t 9)), o0 11 (.ld none (.t 10)), om 12 2, o0 13 (.iad 1 (.t 11) (.t 12)), o0 14 (.ld none (.t 13)), om 15 14, og 16 15 false (.fad 2 (.t 3)), og 17 15 false (.ld none (.t 16)), oh 18 15 false 2, og 19 15 false (.iad 1 (.t 17) (.t 18)), og 20 15 false (.ld none (.t 19)), oh 21 15 false 1, og 22 15 false (.iad 1 (.t 20) (.t 21)), og 23 15 false (.ld none (.t 22)), o0 24 (.pick (.t 15) (.c (.d (.sc (.bool true)))) (.t 23)), om 6 24])
 .ret)), [.tmp 6]⟩
theorem okb_refTogether : compFn Tryz.prog [] 108 = some k_refTogether := by kernel_rfl
def k_refHas : CF := ⟨18,
 (.seq
 (fo [o0 4 (.mov (.c (.d (.sc (.bool false)))))])
 (.seq
 (.seq
 (fo [o0 5 (.mov (xi 0))])
 (.block 0
 (.loop
 (.seq
 (.seq
 (fo [om 6 5, om 7 0, o0 8 (.len 0 (.t 7)), o0 9 (.bin .lss (.t 6) (.t 8))])
 (.cond (.t 9)
 .skip
 (.exit 0)))
 (.seq
 (.block 1
 (.seq
 (fo [om 12 0, om 13 5, o0 14 (.iad 1 (.t 12) (.t 13)), o0 15 (.ld none (.t 14)), om 16 1, o0 17 (.bin .eql (.t 15) (.t 16))])
 (.cond (.t 17)
 (.seq
 (fo [o0 4 (.mov (.c (.d (.sc (.bool true)))))])
 .ret)
 .skip)))
 (fo [om 10 5, o0 11 (.bin .add (.t 10) (xi 1)), om 5 11]))))))
 (.seq
 (fo [o0 4 (.mov (.c (.d (.sc (.bool false)))))])
 .ret))), [.tmp 4]⟩
theorem okb_refHas : compFn Tryz.prog [] 85 = some k_refHas := by kernel_rfl
def k_refFree : CF := ⟨21,
 (.seq
 (fo [o0 3 (.box (.t 0)), o0 6 (.mov (.c (.d (.sc (.bool false)))))])
 (.seq
 (.seq
 (fo [o0 7 (.mov (xi 0))])
 (.block 0
 (.loop
 (.seq
 (.seq
 (fo [om 8 7, om 9 2, o0 10 (.len 0 (.t 9)), o0 11 (.bin .lss (.t 8) (.t 10))])
 (.cond (.t 11)
 .skip
 (.exit 0)))
 (.seq
 (.block 1
 (.seq
 (.ops true [0, 0, 0, 6, 14, 0, 63] [o0 14 (.ld (some 3) (.t 3)), om 15 2, om 16 7, o0 17 (.iad 1 (.t 15) (.t 16)), o0 18 (.ld none (.t 17)), om 19 1, o0 20 (.call (.fn 86) [(.t 14), (.t 18), (.t 19)])])
 (.cond (.t 20)
 (.seq
 (fo [o0 6 (.mov (.c (.d (.sc (.bool false)))))])
 .ret)
 .skip)))
 (fo [om 12 7, o0 13 (.bin .add (.t 12) (xi 1)), om 7 13]))))))
 (.seq
 (fo [o0 6 (.mov (.c (.d (.sc (.bool true)))))])
 .ret))), [.tmp 6]⟩
theorem okb_refFree : compFn Tryz.prog [] 105 = some k_refFree := by kernel_rfl
def k_refIsSettled : CF := ⟨40,
 (.seq
 (fo [o0 3 (.box (.t 0)), o0 6 (.mov (.c (.d (.sc (.bool false)))))])
 (.seq
 (.seq
 (fo [o0 7 (.mov (xi 0))])
 (.block 0
 (.loop
 (.seq
 (.seq
 (fo [om 8 7, om 9 2, o0 10 (.len 0 (.t 9)), o0 11 (.bin .lss (.t 8) (.t 10))])
 (.cond (.t 11)
 .skip
 (.exit 0)))
 (.seq
 (.block 1
 (.seq
 (.ops true [0, 0, 3, 7, 0, 31, 63, 127, 127, 127, 127, 1663, 3711, 8191, 16383, 32767, 65535, 131071, 131071, 131071, 917503, 1966079, 131071, 8388607, 16777215, 33554431] [om 14 2, om 15 7, o0 16 (.iad 1 (.t 14) (.t 15)), o0 17 (.ld none (.t 16)), om 18 1, o0 19 (.bin .neq (.t 17) (.t 18)), om 20 19, og 21 20 true (.ld (some 3) (.t 3)), oh 22 20 true 1, oh 23 20 true 2, oh 24 20 true 7, og 25 20 true (.iad 1 (.t 23) (.t 24)), og 26 20 true (.ld none (.t 25)), og 27 20 true (.call (.fn 86) [(.t 21), (.t 22), (.t 26)]), og 28 20 true (.not (.t 27)), o0 29 (.pick (.t 20) (.t 28) (.c (.d (.sc (.bool false))))), om 30 29, og 31 30 true (.ld (some 3) (.t 3)), oh 32 30 true 2, oh 33 30 true 7, og 34 30 true (.iad 1 (.t 32) (.t 33)), og 35 30 true (.ld none (.t 34)), oh 36 30 true 1, og 37 30 true (.call (.fn 86) [(.t 31), (.t 35), (.t 36)]), og 38 30 true (.not (.t 37)), o0 39 (.pick (.t 30) (.t 38) (.c (.d (.sc (.bool false)))))])
 (.cond (.t 39)
 (.seq
 (fo [o0 6 (.mov (.c (.d (.sc (.bool false)))))])
 .ret)
 .skip)))
 (fo [om 12 7, o0 13 (.bin .add (.t 12) (xi 1)), om 7 13]))))))
 (.seq
 (fo [o0 6 (.mov (.c (.d (.sc (.bool true)))))])
 .ret))), [.tmp 6]⟩
theorem okb_refIsSettled : compFn Tryz.prog [] 79 = some k_refIsSettled := by kernel_rfl
def k_refLiving : CF := ⟨25,
 (.seq
 (fo [o0 1 (.box (.t 0)), o0 2 (.mov (.c (.nil 1)))])
 (.seq
 (fo [o0 5 (.bsl false 3 1 0 [] []), om 3 5])
 (.seq
 (.seq
 (fo [o0 4 (.mov (xi 0))])
 (.block 0
 (.loop
 (.seq
 (.seq
 (fo [om 6 4, o0 7 (.fad 2 (.t 1)), o0 8 (.ld none (.t 7)), o0 9 (.len 0 (.t 8)), o0 10 (.bin .lss (.t 6) (.t 9))])
 (.cond (.t 10)
 .skip
 (.exit 0)))
 (.seq
 (.block 1
 (.seq
 (fo [o0 13 (.fad 0 (.t 1)), o0 14 (.fad 0 (.t 13)), o0 15 (.ld none (.t 14)), om 16 4, o0 17 (.iad 35 (.t 15) (.t 16)), o0 18 (.fad 34 (.t 17)), o0 19 (.ld none (.t 18))])
 (.cond (.t 19)
 (fo [om 20 3, om 21 4, o0 22 (.bsl false 3 1 1 [(.d (.sc (.int .i64 0)))] [(0, 1, (.t 21))]), o0 23 (.app false 3 1 8 (.t 20) (.t 22)), om 3 23])
 .skip)))
 (fo [om 11 4, o0 12 (.bin .add (.t 11) (xi 1)), om 4 12]))))))
 (.seq
 (fo [om 24 3, om 2 24])
 .ret)))), [.tmp 2]⟩
theorem okb_refLiving : compFn Tryz.prog [] 78 = some k_refLiving := by kernel_rfl
def k_refArranged : CF := ⟨46,
 (.seq
 (fo [o0 2 (.box (.t 0)), o0 4 (.mov (.c (.nil 1)))])
 (.seq
 (fo [o0 7 (.bsl false 3 1 0 [] []), om 5 7])
 (.seq
 (.block 0
 (.loop
 (.seq
 (.seq
 (fo [om 8 1, o0 9 (.len 0 (.t 8)), o0 10 (.bin .gtr (.t 9) (xi 0))])
 (.cond (.t 10)
 .skip
 (.exit 0)))
 (.block 1
 (.seq
 (fo [o0 6 (.mov (xi 0))])
 (.seq
 (.block 2
 (.loop
 (.seq
 (.seq
 (.ops true [0, 1, 0, 4, 15, 31, 63, 63, 63, 447, 959, 63, 4095, 8191, 16383] [om 11 6, o0 12 (.bin .add (.t 11) (xi 1)), om 13 1, o0 14 (.len 0 (.t 13)), o0 15 (.bin .lss (.t 12) (.t 14)), om 16 15, og 17 16 true (.ld (some 3) (.t 2)), oh 18 16 true 1, oh 19 16 true 6, og 20 16 true (.iad 1 (.t 18) (.t 19)), og 21 16 true (.ld none (.t 20)), oh 22 16 true 1, og 23 16 true (.call (.fn 105) [(.t 17), (.t 21), (.t 22)]), og 24 16 true (.not (.t 23)), o0 25 (.pick (.t 16) (.t 24) (.c (.d (.sc (.bool false)))))])
 (.cond (.t 25)
 .skip
 (.exit 2)))
 (.block 3
 (fo [om 26 6, o0 27 (.bin .add (.t 26) (xi 1)), om 6 27])))))
 (.seq
 (fo [om 28 5, om 29 1, om 30 6, o0 31 (.iad 1 (.t 29) (.t 30)), o0 32 (.ld none (.t 31)), o0 33 (.bsl false 3 1 1 [(.d (.sc (.int .i64 0)))] [(0, 1, (.t 32))]), o0 34 (.app false 3 1 8 (.t 28) (.t 33)), om 5 34])
 (.ops true [0, 0, 0, 6, 15, 0, 0, 64, 224, 511, 1023] [o0 35 (.bsl false 3 1 0 [] []), om 36 1, om 37 6, o0 38 (.slc 1 (.t 36) none (some (.t 37))), o0 39 (.app false 3 1 8 (.t 35) (.t 38)), om 40 1, om 41 6, o0 42 (.bin .add (.t 41) (xi 1)), o0 43 (.slc 1 (.t 40) (some (.t 42)) none), o0 44 (.app false 3 1 8 (.t 39) (.t 43)), om 1 44]))))))))
 (.seq
 (fo [om 45 5, om 4 45])
 .ret)))), [.tmp 4]⟩
theorem okb_refArranged : compFn Tryz.prog [] 80 = some k_refArranged := by kernel_rfl
def k_refSettledM : CF := ⟨32,
 (.seq
 (fo [o0 1 (.box (.t 0)), o0 2 (.mov (.c (.nil 1)))])
 (.seq
 (fo [o0 6 (.bsl false 3 1 0 [] []), om 3 6])
 (.seq
 (fo [o0 7 (.ld (some 3) (.t 1)), o0 8 (.call (.fn 78) [(.t 7)]), om 4 8])
 (.seq
 (.seq
 (fo [o0 5 (.mov (xi 0))])
 (.block 0
 (.loop
 (.seq
 (.seq
 (fo [om 9 5, om 10 4, o0 11 (.len 0 (.t 10)), o0 12 (.bin .lss (.t 9) (.t 11))])
 (.cond (.t 12)
 .skip
 (.exit 0)))
 (.seq
 (.block 1
 (.seq
 (.ops true [0, 0, 0, 6, 14, 0, 63] [o0 15 (.ld (some 3) (.t 1)), om 16 4, om 17 5, o0 18 (.iad 1 (.t 16) (.t 17)), o0 19 (.ld none (.t 18)), om 20 4, o0 21 (.call (.fn 79) [(.t 15), (.t 19), (.t 20)])])
 (.cond (.t 21)
 (fo [om 22 3, om 23 4, om 24 5, o0 25 (.iad 1 (.t 23) (.t 24)), o0 26 (.ld none (.t 25)), o0 27 (.bsl false 3 1 1 [(.d (.sc (.int .i64 0)))] [(0, 1, (.t 26))]), o0 28 (.app false 3 1 8 (.t 22) (.t 27)), om 3 28])
 .skip)))
 (fo [om 13 5, o0 14 (.bin .add (.t 13) (xi 1)), om 5 14]))))))
 (.seq
 (fo [o0 29 (.ld (some 3) (.t 1)), om 30 3, o0 31 (.call (.fn 80) [(.t 29), (.t 30)]), om 2 31])
 .ret))))), [.tmp 2]⟩
theorem okb_refSettledM : compFn Tryz.prog [] 40 = some k_refSettledM := by kernel_rfl
def k_refGap : CF := ⟨56,
 (.seq
 (fo [o0 3 (.box (.t 0)), o0 6 (.mov (.c (.nil 1)))])
 (.seq
 (fo [o0 12 (.bsl false 3 1 0 [] []), om 7 12])
 (.seq
 (fo [o0 13 (.ld (some 3) (.t 3)), o0 14 (.call (.fn 78) [(.t 13)]), om 8 14])
 (.seq
 (.seq
 (fo [o0 9 (.mov (xi 0))])
 (.block 0
 (.loop
 (.seq
 (.seq
 (fo [om 15 9, om 16 8, o0 17 (.len 0 (.t 16)), o0 18 (.bin .lss (.t 15) (.t 17))])
 (.cond (.t 18)
 .skip
 (.exit 0)))
 (.seq
 (.block 1
 (.seq
 (.seq
 (fo [om 21 1, om 22 8, om 23 9, o0 24 (.iad 1 (.t 22) (.t 23)), o0 25 (.ld none (.t 24)), o0 26 (.call (.fn 85) [(.t 21), (.t 25)])])
 (.cond (.t 26)
 (.exit 1)
 .skip))
 (.seq
 (fo [o0 10 (.mov (xi 0))])
 (.seq
 (.seq
 (fo [o0 11 (.mov (xi 0))])
 (.block 2
 (.loop
 (.seq
 (.seq
 (fo [om 27 11, om 28 1, o0 29 (.len 0 (.t 28)), o0 30 (.bin .lss (.t 27) (.t 29))])
 (.cond (.t 30)
 .skip
 (.exit 2)))
 (.seq
 (.block 3
 (.seq
 (.ops true [0, 0, 0, 6, 14, 0, 0, 96, 224, 511] [o0 33 (.ld (some 3) (.t 3)), om 34 1, om 35 11, o0 36 (.iad 1 (.t 34) (.t 35)), o0 37 (.ld none (.t 36)), om 38 8, om 39 9, o0 40 (.iad 1 (.t 38) (.t 39)), o0 41 (.ld none (.t 40)), o0 42 (.call (.fn 86) [(.t 33), (.t 37), (.t 41)])])
 (.cond (.t 42)
 (fo [om 43 10, o0 44 (.bin .add (.t 43) (xi 1)), om 10 44])
 .skip)))
 (fo [om 31 11, o0 32 (.bin .add (.t 31) (xi 1)), om 11 32]))))))
 (.seq
 (fo [om 45 10, om 46 2, o0 47 (.bin .eql (.t 45) (.t 46))])
 (.cond (.t 47)
 (fo [om 48 7, om 49 8, om 50 9, o0 51 (.iad 1 (.t 49) (.t 50)), o0 52 (.ld none (.t 51)), o0 53 (.bsl false 3 1 1 [(.d (.sc (.int .i64 0)))] [(0, 1, (.t 52))]), o0 54 (.app false 3 1 8 (.t 48) (.t 53)), om 7 54])
 .skip))))))
 (fo [om 19 9, o0 20 (.bin .add (.t 19) (xi 1)), om 9 20]))))))
 (.seq
 (fo [om 55 7, om 6 55])
 .ret))))), [.tmp 6]⟩
theorem okb_refGap : compFn Tryz.prog [] 44 = some k_refGap := by kernel_rfl
def k_refSide : CF := ⟨57,
 (.seq
 (fo [o0 2 (.box (.t 0)), o0 4 (.mov (.c (.nil 1))), o0 5 (.mov (.c (.nil 1)))])
 (.seq
 (.ops true [0, 1, 3, 7, 0, 16, 15, 127] [om 11 1, o0 12 (.iad 1 (.t 11) (xi 0)), o0 13 (.ld none (.t 12)), o0 14 (.bsl false 3 1 1 [(.d (.sc (.int .i64 0)))] [(0, 1, (.t 13))]), om 15 1, o0 16 (.slc 1 (.t 15) (some (xi 1)) none), om 6 14, om 7 16])
 (.seq
 (.seq
 (fo [o0 8 (.mov (xi 0))])
 (.block 0
 (.loop
 (.seq
 (.seq
 (fo [om 17 8, om 18 6, o0 19 (.len 0 (.t 18)), o0 20 (.bin .lss (.t 17) (.t 19))])
 (.cond (.t 20)
 .skip
 (.exit 0)))
 (.seq
 (.block 1
 (.seq
 (fo [o0 23 (.bsl false 3 1 0 [] []), om 9 23])
 (.seq
 (.seq
 (fo [o0 10 (.mov (xi 0))])
 (.block 2
 (.loop
 (.seq
 (.seq
 (fo [om 24 10, om 25 7, o0 26 (.len 0 (.t 25)), o0 27 (.bin .lss (.t 24) (.t 26))])
 (.cond (.t 27)
 .skip
 (.exit 2)))
 (.seq
 (.block 3
 (.seq
 (.ops true [0, 0, 0, 6, 14, 0, 0, 96, 224, 511] [o0 30 (.ld (some 3) (.t 2)), om 31 6, om 32 8, o0 33 (.iad 1 (.t 31) (.t 32)), o0 34 (.ld none (.t 33)), om 35 7, om 36 10, o0 37 (.iad 1 (.t 35) (.t 36)), o0 38 (.ld none (.t 37)), o0 39 (.call (.fn 108) [(.t 30), (.t 34), (.t 38)])])
 (.cond (.t 39)
 (fo [om 40 6, om 41 7, om 42 10, o0 43 (.iad 1 (.t 41) (.t 42)), o0 44 (.ld none (.t 43)), o0 45 (.bsl false 3 1 1 [(.d (.sc (.int .i64 0)))] [(0, 1, (.t 44))]), o0 46 (.app false 3 1 8 (.t 40) (.t 45)), om 6 46])
 (fo [om 47 9, om 48 7, om 49 10, o0 50 (.iad 1 (.t 48) (.t 49)), o0 51 (.ld none (.t 50)), o0 52 (.bsl false 3 1 1 [(.d (.sc (.int .i64 0)))] [(0, 1, (.t 51))]), o0 53 (.app false 3 1 8 (.t 47) (.t 52)), om 9 53]))))
 (fo [om 28 10, o0 29 (.bin .add (.t 28) (xi 1)), om 10 29]))))))
 (fo [om 54 9, om 7 54]))))
 (fo [om 21 8, o0 22 (.bin .add (.t 21) (xi 1)), om 8 22]))))))
 (.seq
 (fo [om 55 6, om 56 7, om 4 55, om 5 56])
 .ret)))), [.tmp 4, .tmp 5]⟩
theorem okb_refSide : compFn Tryz.prog [] 87 = some k_refSide := by kernel_rfl
def k_refAscending : CF := ⟨48,
 (.seq
 (fo [o0 2 (.mov (.c (.nil 1)))])
 (.seq
 (fo [o0 7 (.bsl false 3 1 0 [] []), om 3 7])
 (.seq
 (.seq
 (fo [o0 4 (.mov (xi 0))])
 (.block 0
 (.loop
 (.seq
 (.seq
 (fo [om 8 4, om 9 0, o0 10 (.len 0 (.t 9)), o0 11 (.bin .lss (.t 8) (.t 10))])
 (.cond (.t 11)
 .skip
 (.exit 0)))
 (.seq
 (.block 1
 (.seq
 (fo [o0 5 (.mov (xi 0))])
 (.seq
 (.block 2
 (.loop
 (.seq
 (.seq
 (.ops true [0, 0, 2, 7, 15, 31, 31, 127, 255, 31, 31, 1567, 3615, 8191, 16383] [om 14 5, om 15 3, o0 16 (.len 0 (.t 15)), o0 17 (.bin .lss (.t 14) (.t 16)), om 18 17, oh 19 18 true 3, oh 20 18 true 5, og 21 18 true (.iad 1 (.t 19) (.t 20)), og 22 18 true (.ld none (.t 21)), oh 23 18 true 0, oh 24 18 true 4, og 25 18 true (.iad 1 (.t 23) (.t 24)), og 26 18 true (.ld none (.t 25)), og 27 18 true (.bin .lss (.t 22) (.t 26)), o0 28 (.pick (.t 18) (.t 27) (.c (.d (.sc (.bool false)))))])
 (.cond (.t 28)
 .skip
 (.exit 2)))
 (.block 3
 (fo [om 29 5, o0 30 (.bin .add (.t 29) (xi 1)), om 5 30])))))
 (.seq
 (.ops true [0, 0, 0, 6, 15, 0, 0, 96, 224, 480, 1023, 2047] [o0 31 (.bsl false 3 1 0 [] []), om 32 3, om 33 5, o0 34 (.slc 1 (.t 32) none (some (.t 33))), o0 35 (.app false 3 1 8 (.t 31) (.t 34)), om 36 0, om 37 4, o0 38 (.iad 1 (.t 36) (.t 37)), o0 39 (.ld none (.t 38)), o0 40 (.bsf 1 1 [(.d (.sc (.int .i64 0)))] [(0, 1, (.t 39))]), o0 41 (.app false 3 1 8 (.t 35) (.t 40)), om 6 41])
 (fo [om 42 6, om 43 3, om 44 5, o0 45 (.slc 1 (.t 43) (some (.t 44)) none), o0 46 (.app false 3 1 8 (.t 42) (.t 45)), om 3 46])))))
 (fo [om 12 4, o0 13 (.bin .add (.t 12) (xi 1)), om 4 13]))))))
 (.seq
 (fo [om 47 3, om 2 47])
 .ret)))), [.tmp 2]⟩
theorem okb_refAscending : compFn Tryz.prog [100040] 88 = some k_refAscending := by kernel_rfl
def k_refConflict : CF := ⟨29,
 (.seq
 (fo [o0 2 (.box (.t 0)), o0 4 (.box (.c (.agg [(.d (.sc (.bool false))), (.nil 1), (.nil 1)])))])
 (.seq
 (fo [o0 8 (.bld [(.d (.sc (.bool false))), (.nil 1), (.nil 1)] [(0, 1, (.c (.d (.sc (.bool true)))))]), o0 5 (.box (.c (.agg [(.d (.sc (.bool false))), (.nil 1), (.nil 1)]))), oN (.st 3 (.t 5) (.t 8))])
 (.seq
 (.block 0
 (.loop
 (.seq
 (.seq
 (fo [om 9 1, o0 10 (.len 0 (.t 9)), o0 11 (.bin .gtr (.t 10) (xi 0))])
 (.cond (.t 11)
 .skip
 (.exit 0)))
 (.block 1
 (.seq
 (fo [o0 13 (.ld (some 3) (.t 2)), om 14 1, o0 15 (.call (.fn 87) [(.t 13), (.t 14)]), om 12 15, o0 16 (.ext (.t 12) 0), o0 17 (.ext (.t 12) 1), om 6 16, om 7 17])
 (.seq
 (.ops true [0, 1, 0, 0, 8, 28, 60, 127, 255, 511] [o0 18 (.fad 2 (.t 5)), o0 19 (.ld none (.t 18)), o0 20 (.ld (some 3) (.t 2)), om 21 6, o0 22 (.call (.fn 88) [(.t 21)]), o0 23 (.call (.fn 80) [(.t 20), (.t 22)]), o0 24 (.bsl false 29 1 1 [(.nil 1)] [(0, 1, (.t 23))]), o0 25 (.app false 29 1 24 (.t 19) (.t 24)), o0 26 (.fad 2 (.t 5)), oN (.st 1 (.t 26) (.t 25))])
 (fo [om 27 7, om 1 27])))))))
 (.seq
 (fo [o0 28 (.ld (some 3) (.t 5)), oN (.st 3 (.t 4) (.t 28))])
 .ret)))), [.cell 4 (some 3)]⟩
theorem okb_refConflict : compFn Tryz.prog [] 45 = some k_refConflict := by kernel_rfl
def k_refRegions : CF := ⟨70,
 (.seq
 (fo [o0 1 (.box (.t 0)), o0 2 (.mov (.c (.nil 3)))])
 (.seq
 (fo [o0 9 (.bsl false 45 3 0 [] []), om 3 9])
 (.seq
 (.seq
 (fo [o0 10 (.ld (some 2) (.t 1)), o0 11 (.call (.fn 38) [(.t 10)]), o0 12 (.bin .neq (.t 11) (xi 0))])
 (.cond (.t 12)
 (.seq
 (fo [om 13 3, om 2 13])
 .ret)
 .skip))
 (.seq
 (fo [o0 14 (.ld (some 2) (.t 1)), o0 15 (.call (.fn 39) [(.t 14)]), o0 4 (.box (.c (.agg [(.nil 35), (.nil 2), (.nil 1)]))), oN (.st 3 (.t 4) (.t 15))])
 (.seq
 (fo [o0 16 (.ld (some 3) (.t 4)), o0 17 (.call (.fn 40) [(.t 16)]), om 5 17])
 (.seq
 (fo [o0 18 (.bsl false 3 1 0 [] []), om 6 18])
 (.seq
 (.seq
 (fo [o0 7 (.mov (xi 0))])
 (.block 0
 (.loop
 (.seq
 (.seq
 (fo [om 19 7, om 20 5, o0 21 (.len 0 (.t 20)), o0 22 (.bin .leq (.t 19) (.t 21))])
 (.cond (.t 22)
 .skip
 (.exit 0)))
 (.seq
 (.block 1
 (.seq
 (fo [o0 25 (.ld (some 3) (.t 4)), om 26 5, om 27 7, o0 28 (.call (.fn 44) [(.t 25), (.t 26), (.t 27)]), om 8 28])
 (.seq
 (.seq
 (fo [om 29 8, o0 30 (.len 0 (.t 29)), o0 31 (.bin .gtr (.t 30) (xi 0)), om 32 31, oh 33 32 false 7, oh 34 32 false 5, og 35 32 false (.len 0 (.t 34)), og 36 32 false (.bin .eql (.t 33) (.t 35)), o0 37 (.pick (.t 32) (.c (.d (.sc (.bool true)))) (.t 36))])
 (.cond (.t 37)
 (.seq
 (.seq
 (fo [om 38 6, o0 39 (.len 0 (.t 38)), o0 40 (.bin .gtr (.t 39) (xi 0))])
 (.cond (.t 40)
 (fo [om 41 3, om 42 6, o0 43 (.bld [(.d (.sc (.bool false))), (.nil 1), (.nil 1)] [(1, 1, (.t 42))]), o0 44 (.bsl false 45 3 1 [(.d (.sc (.bool false))), (.nil 1), (.nil 1)] [(0, 3, (.t 43))]), o0 45 (.app false 45 3 56 (.t 41) (.t 44)), om 3 45])
 .skip))
 (fo [o0 46 (.bsl false 3 1 0 [] []), om 6 46]))
 .skip))
 (.seq
 (.seq
 (fo [om 47 8, o0 48 (.len 0 (.t 47)), o0 49 (.bin .gtr (.t 48) (xi 0))])
 (.cond (.t 49)
 (fo [om 50 3, o0 51 (.ld (some 3) (.t 4)), om 52 8, o0 53 (.call (.fn 45) [(.t 51), (.t 52)]), o0 54 (.bsl false 45 3 1 [(.d (.sc (.bool false))), (.nil 1), (.nil 1)] [(0, 3, (.t 53))]), o0 55 (.app false 45 3 56 (.t 50) (.t 54)), om 3 55])
 .skip))
 (.seq
 (fo [om 56 7, om 57 5, o0 58 (.len 0 (.t 57)), o0 59 (.bin .lss (.t 56) (.t 58))])
 (.cond (.t 59)
 (.ops true [0, 0, 3, 0, 0, 24, 56, 120, 255, 511] [o0 60 (.bsl false 3 1 0 [] []), om 61 6, o0 62 (.app false 3 1 8 (.t 60) (.t 61)), om 63 5, om 64 7, o0 65 (.iad 1 (.t 63) (.t 64)), o0 66 (.ld none (.t 65)), o0 67 (.bsf 1 1 [(.d (.sc (.int .i64 0)))] [(0, 1, (.t 66))]), o0 68 (.app false 3 1 8 (.t 62) (.t 67)), om 6 68])
 .skip))))))
 (fo [om 23 7, o0 24 (.bin .add (.t 23) (xi 1)), om 7 24]))))))
 (.seq
 (fo [om 69 3, om 2 69])
 .ret)))))))), [.tmp 2]⟩
theorem okb_refRegions : compFn Tryz.prog [100067] 14 = some k_refRegions := by kernel_rfl
def k_refSequence : CF := ⟨23,
 (.seq
 (fo [o0 1 (.box (.t 0)), o0 2 (.mov (.c (.nil 1)))])
 (.seq
 (fo [o0 6 (.bsl false 3 1 0 [] []), om 3 6])
 (.seq
 (fo [o0 7 (.ld (some 2) (.t 1)), o0 8 (.call (.fn 14) [(.t 7)]), om 4 8])
 (.seq
 (.seq
 (fo [o0 5 (.mov (xi 0))])
 (.block 0
 (.loop
 (.seq
 (.seq
 (fo [om 9 5, om 10 4, o0 11 (.len 0 (.t 10)), o0 12 (.bin .lss (.t 9) (.t 11))])
 (.cond (.t 12)
 .skip
 (.exit 0)))
 (.seq
 (.block 1
 (fo [om 15 3, om 16 4, om 17 5, o0 18 (.iad 3 (.t 16) (.t 17)), o0 19 (.ld (some 3) (.t 18)), o0 20 (.call (.fn 47) [(.t 19)]), o0 21 (.app false 3 1 8 (.t 15) (.t 20)), om 3 21]))
 (fo [om 13 5, o0 14 (.bin .add (.t 13) (xi 1)), om 5 14]))))))
 (.seq
 (fo [om 22 3, om 2 22])
 .ret))))), [.tmp 2]⟩
theorem okb_refSequence : compFn Tryz.prog [] 16 = some k_refSequence := by kernel_rfl
def k_refOf : CF := ⟨7,
 (.seq
 (fo [o0 1 (.box (.t 0)), o0 2 (.box (.c (.agg [(.nil 35), (.nil 2), (.nil 1)])))])
 (.seq
 (.ops true [0, 0, 2, 7, 15] [o0 3 (.ld (some 2) (.t 1)), o0 4 (.ld (some 2) (.t 1)), o0 5 (.call (.fn 77) [(.t 4)]), o0 6 (.bld [(.nil 35), (.nil 2), (.nil 1)] [(0, 2, (.t 3)), (2, 1, (.t 5))]), oN (.st 3 (.t 2) (.t 6))])
 .ret)), [.cell 2 (some 3)]⟩
theorem okb_refOf : compFn Tryz.prog [] 39 = some k_refOf := by kernel_rfl
def k_refReaches : CF := ⟨104,
 (.seq
 (fo [o0 1 (.box (.t 0)), o0 2 (.mov (.c (.nil 1)))])
 (.seq
 (fo [o0 11 (.bsl true 140 1 0 [] []), om 3 11])
 (.seq
 (.seq
 (fo [o0 12 (.ld (some 2) (.t 1)), o0 13 (.call (.fn 38) [(.t 12)]), o0 14 (.bin .neq (.t 13) (xi 0))])
 (.cond (.t 14)
 (.seq
 (fo [om 15 3, om 2 15])
 .ret)
 .skip))
 (.seq
 (fo [o0 16 (.fad 0 (.t 1)), o0 17 (.ld none (.t 16)), o0 18 (.len 0 (.t 17)), om 4 18])
 (.seq
 (.seq
 (fo [o0 5 (.mov (xi 0))])
 (.block 0
 (.loop
 (.seq
 (.seq
 (fo [om 19 5, om 20 4, o0 21 (.bin .lss (.t 19) (.t 20))])
 (.cond (.t 21)
 .skip
 (.exit 0)))
 (.seq
 (.block 1
 (fo [om 24 3, om 25 4, o0 26 (.mks true 4 1 (.d (.sc (.bool false))) (.t 25) (.t 25)), o0 27 (.bsl true 140 1 1 [(.nil 1)] [(0, 1, (.t 26))]), o0 28 (.app false 140 1 24 (.t 24) (.t 27)), om 3 28]))
 (fo [om 22 5, o0 23 (.bin .add (.t 22) (xi 1)), om 5 23]))))))
 (.seq
 (.seq
 (fo [o0 6 (.mov (xi 0))])
 (.block 2
 (.loop
 (.seq
 (.seq
 (fo [om 29 6, o0 30 (.fad 1 (.t 1)), o0 31 (.ld none (.t 30)), o0 32 (.len 0 (.t 31)), o0 33 (.bin .lss (.t 29) (.t 32))])
 (.cond (.t 33)
 .skip
 (.exit 2)))
 (.seq
 (.block 3
 (.seq
 (fo [o0 36 (.fad 1 (.t 1)), o0 37 (.ld none (.t 36)), om 38 6, o0 39 (.iad 2 (.t 37) (.t 38)), o0 40 (.ld (some 2) (.t 39)), o0 7 (.box (.c (.agg [(.d (.sc (.int .i64 0))), (.d (.sc (.int .i64 0)))]))), oN (.st 2 (.t 7) (.t 40))])
 (.seq
 (fo [o0 41 (.fad 0 (.t 7)), o0 42 (.ld none (.t 41)), o0 43 (.bin .geq (.t 42) (xi 0)), om 44 43, og 45 44 true (.fad 1 (.t 7)), og 46 44 true (.ld none (.t 45)), og 47 44 true (.bin .geq (.t 46) (xi 0)), o0 48 (.pick (.t 44) (.t 47) (.c (.d (.sc (.bool false)))))])
 (.cond (.t 48)
 (.ops true [0, 0, 2, 7, 15, 0, 32, 127, 255] [om 49 3, o0 50 (.fad 0 (.t 7)), o0 51 (.ld none (.t 50)), o0 52 (.iad 1 (.t 49) (.t 51)), o0 53 (.ld none (.t 52)), o0 54 (.fad 1 (.t 7)), o0 55 (.ld none (.t 54)), o0 56 (.iad 1 (.t 53) (.t 55)), oN (.st 1 (.t 56) (.c (.d (.sc (.bool true)))))])
 .skip))))
 (fo [om 34 6, o0 35 (.bin .add (.t 34) (xi 1)), om 6 35]))))))
 (.seq
 (.seq
 (fo [o0 8 (.mov (xi 0))])
 (.block 4
 (.loop
 (.seq
 (.seq
 (fo [om 57 8, om 58 4, o0 59 (.bin .lss (.t 57) (.t 58))])
 (.cond (.t 59)
 .skip
 (.exit 4)))
 (.seq
 (.block 5
 (.seq
 (fo [o0 9 (.mov (xi 0))])
 (.block 6
 (.loop
 (.seq
 (.seq
 (fo [om 62 9, om 63 4, o0 64 (.bin .lss (.t 62) (.t 63))])
 (.cond (.t 64)
 .skip
 (.exit 6)))
 (.seq
 (.block 7
 (.seq
 (fo [o0 10 (.mov (xi 0))])
 (.block 8
 (.loop
 (.seq
 (.seq
 (fo [om 67 10, om 68 4, o0 69 (.bin .lss (.t 67) (.t 68))])
 (.cond (.t 69)
 .skip
 (.exit 8)))
 (.seq
 (.block 9
 (.ops true [0, 0, 3, 7, 0, 0, 0, 96, 224, 0, 992, 2016, 4064, 8160, 8160, 32736, 65504, 8160, 262112, 524256, 1048544, 2097120, 2097120, 8388576, 16777184, 2097120, 67108832, 134217696, 268435424, 536870880, 1073741823, 2147483647] [om 72 3, om 73 9, o0 74 (.iad 1 (.t 72) (.t 73)), o0 75 (.ld none (.t 74)), om 76 10, om 77 3, om 78 9, o0 79 (.iad 1 (.t 77) (.t 78)), o0 80 (.ld none (.t 79)), om 81 10, o0 82 (.iad 1 (.t 80) (.t 81)), o0 83 (.ld none (.t 82)), om 84 83, oh 85 84 false 3, oh 86 84 false 9, og 87 84 false (.iad 1 (.t 85) (.t 86)), og 88 84 false (.ld none (.t 87)), oh 89 84 false 8, og 90 84 false (.iad 1 (.t 88) (.t 89)), og 91 84 false (.ld none (.t 90)), oh 92 84 false 91, oh 93 92 true 3, oh 94 92 true 8, og 95 92 true (.iad 1 (.t 93) (.t 94)), og 96 92 true (.ld none (.t 95)), oh 97 92 true 10, og 98 92 true (.iad 1 (.t 96) (.t 97)), og 99 92 true (.ld none (.t 98)), og 100 84 false (.pick (.t 92) (.t 99) (.c (.d (.sc (.bool false))))), o0 101 (.pick (.t 84) (.c (.d (.sc (.bool true)))) (.t 100)), o0 102 (.iad 1 (.t 75) (.t 76)), oN (.st 1 (.t 102) (.t 101))]))
 (fo [om 70 10, o0 71 (.bin .add (.t 70) (xi 1)), om 10 71])))))))
 (fo [om 65 9, o0 66 (.bin .add (.t 65) (xi 1)), om 9 66])))))))
 (fo [om 60 8, o0 61 (.bin .add (.t 60) (xi 1)), om 8 61]))))))
 (.seq
 (fo [om 103 3, om 2 103])
 .ret)))))))), [.tmp 2]⟩
theorem okb_refReaches : compFn Tryz.prog [11, 26, 27] 77 = some k_refReaches := by kernel_rfl
end Go.Proofs.Lh

namespace Go.Proofs.Lg
open Go Go.Ab Go.Bb Go.Proofs.Lh
def dNat (n : Nat) : D := .sc (.int .i64 n)
def dBool (b : Bool) : D := .sc (.bool b)
def nrow (j : Nat) : List D := [.sc (.int .i64 j)]
def dNats (l : List Nat) : D := .sl 1 (l.map nrow)
theorem wrapN {n : Int} {m : Nat} (h : n = m) (hm : m < 9223372036854775808) : IntKind.i64.wrap n = (m : Int) := by
 subst h
 simp only [IntKind.wrap, IntKind.bits, IntKind.signed]
 have : ((m : Int) % 2 ^ 64) = m := by omega
 simp only [this]
 simp; omega
theorem any_take_end {l : List Nat} {p : Nat → Bool} {k : Nat} (h : (l.take k).any p = false) (hk : l.length ≤ k) : l.any p = false := by rwa [List.take_of_length_le hk] at h
theorem any_take_step {l : List Nat} {p : Nat → Bool} {k : Nat} (h : (l.take k).any p = false) (hk : k < l.length) (hp : p l[k] = false) : (l.take (k + 1)).any p = false := by
 rw [List.take_succ_eq_append_getElem hk, List.any_append, h]; simp [hp]
theorem any_hit {l : List Nat} {p : Nat → Bool} {k : Nat} (hk : k < l.length) (hp : p l[k] = true) : l.any p = true := List.any_eq_true.2 ⟨l[k], List.getElem_mem _, hp⟩
theorem has_fn (l : List Nat) (x : Nat) (hl : l.length ≤ 1000000) : AFn Tryz.prog 85 [dNats l, dNat x] (dBool (l.any fun j => j == x)) := by
 refine AFn_of (F := k_refHas) (okb_refHas.trans (by kernel_rfl)) (by simp [k_refHas]) ?_
 simp only [k_refHas, dNats, dNat, dBool, ↓Both_true, ↓Both_false, wx, reduceCtorEq, reduceIte, Nat.reduceAdd, Nat.reduceEqDiff, Nat.reduceLT, Nat.reduceLeDiff]
 refine LoopK.count (fun k => [(5, .d (.sc (.int .i64 k))), (0, .d (.sl 1 (l.map nrow))), (1, .d (.sc (.int .i64 x)))]) (fun _ => []) (fun k => ((l.take k).any fun j => j == x) = false) l.length (by simp [SubB, Go.Bb.look]) rfl (by simp) fun k hk hi => ?_
 by_cases hlt : k < l.length
 · have h1 : decide ((k : Int) < (l.length : Int)) = true := by simpa using hlt
   have h2 : l[k]? = some l[k] := List.getElem?_eq_getElem hlt
   have h3 : IntKind.i64.wrap ((k : Int) + 1) = ((k + 1 : Nat) : Int) := wrapN (by omega) (by omega)
   have h4 : (l[k] == x) = false → ((l.take (k + 1)).any fun j => j == x) = false := fun h => any_take_step hi hlt h
   have h5 : (l[k] == x) = true → (l.any fun j => j == x) = true := fun h => any_hit hlt h
   generalize l[k] = y at h2 h4 h5
   cases hb : y == x with
   | true =>
     have h6 : ((y : Int) == (x : Int)) = true := by simp at hb ⊢; omega
     simp only [h1, h2, h3, h6, h5 hb, nrow, ↓Both_true, ↓Both_false, wx, reduceCtorEq, reduceIte, Nat.reduceAdd, Nat.reduceEqDiff, Nat.reduceLT, Nat.reduceLeDiff]
   | false =>
     have h6 : ((y : Int) == (x : Int)) = false := by simp at hb ⊢; omega
     simp only [h1, h2, h3, h6, h4 hb, hlt, nrow, ↓Both_true, ↓Both_false, wx, reduceCtorEq, reduceIte, Nat.reduceAdd, Nat.reduceEqDiff, Nat.reduceLT, Nat.reduceLeDiff]
 · have h1 : decide ((k : Int) < (l.length : Int)) = false := by simpa using hlt
   simp only [h1, any_take_end hi (by omega), ↓Both_true, ↓Both_false, wx, reduceCtorEq, reduceIte, Nat.reduceAdd, Nat.reduceEqDiff, Nat.reduceLT, Nat.reduceLeDiff]
end Go.Proofs.Lg

namespace Go.Proofs.Lg
open Go Go.RowKit Go.Shelf
attribute [local go_sem] Oper.semAt_some
def upto {α : Type} (f : Nat → α) (k : Nat) : List α := (List.range k).map f
theorem upto_succ {α : Type} (f : Nat → α) (k : Nat) : upto f (k + 1) = upto f k ++ [f k] := by simp [upto, List.range_succ]
theorem upto_length {α : Type} (f : Nat → α) (k : Nat) : (upto f k).length = k := by simp [upto]
theorem upto_all (zs : List Int) : upto (fun j => zs[j]?.getD 0) zs.length = zs := by
 apply List.ext_getElem
 · simp [upto]
 · intro i h1 h2
   simp [upto, h2]
theorem upto_take (zs : List Int) {k : Nat} (hk : k ≤ zs.length) : upto (fun j => zs[j]?.getD 0) k = zs.take k := by
 apply List.ext_getElem
 · simp [upto, hk]
 · intro i h1 h2
   have : i < zs.length := by simp [upto] at h1; omega
   simp [upto, this]
set_option maxRecDepth 100000 in
set_option maxHeartbeats 2000000 in
theorem values1_in (F : Fence) (n : Nat) (h7 : F.fn 149) (hro : F.round = none) (hn : 1 ≤ n) (l Bs n₀ b off len cap : Nat) (zs : List Int) (hreach : len * 8 ≤ 140737488351232) (hb : b < n₀) (J Jx : List Int → World → Prop)
   (hY : ∀ pre x W, J pre W → pre.length < len → YieldAt F (n - 1) Tryz.prog l #[.int .i64 x] W fun e W' =>
     (e = .returned (.bool true) ∧ J (pre ++ [x]) W' ∧ Below n₀ W W') ∨ (e = .returned (.bool false) ∧ Jx (pre ++ [x]) W'))
   (W : World) (hBs : W.cell? ⟨Bs, 0, none⟩ = some (.slice (some ⟨b, off, none⟩) len cap)) (hc : ∀ j, j < len → W.cell? ⟨b, off + j, none⟩ = some (.int .i64 (zs[j]?.getD 0))) (h0 : J [] W) :
   CallsIn F n Tryz.prog 149 #[.func (.yield l) #[] #[], .pointer (some ⟨Bs, 0, none⟩)] W fun e W' => (∃ v, e = .returned v) ∧
     ((∃ ys, ys = upto (fun j => zs[j]?.getD 0) len ∧ J ys W') ∨ (∃ pre, (∃ k, k ≤ len ∧ pre = upto (fun j => zs[j]?.getD 0) k) ∧ Jx pre W')) := by
 refine callsIn_of_wp Tryz.func149 rfl h7 ?_ hro
 simp only [Tryz.ntmps149, List.size_toArray, List.length_cons, List.length_nil, Nat.reduceAdd, Nat.reduceSub, Array.replicate_succ, Array.replicate_zero, List.push_toArray, List.append_toArray, List.nil_append, List.cons_append]
 gi_wp2
 gi_loopw [7] (fun i wr => ∃ k : Nat, k ≤ len ∧ i = .int .i64 k ∧ J (upto (fun j => zs[j]?.getD 0) k) wr ∧ Below n₀ W wr)
   (fun i _ => len - (intOf i).toNat)
 case atStart => exact ⟨0, Nat.zero_le _, rfl, h0, Below.refl _ _⟩
 case round =>
   obtain ⟨k, hk, rfl, hJs, hnx⟩ := hrel
   have hcx : k < len → wr.cell? ⟨b, off + k, none⟩ = some (.int .i64 (zs[k]?.getD 0)) := fun h => (hnx.cell (p := ⟨b, off + k, none⟩) hb).trans (hc k h)
   by_cases hlt : k < len
   · obtain ⟨fn, tmps, assign, body, hy, hR⟩ := hY _ (zs[k]?.getD 0) wr hJs (by rw [upto_length]; exact hlt)
     have hcx' := hcx hlt
     gi_wp2
     refine hR.mono ?_
     rintro e W3 (⟨rfl, hJ3, hk3⟩ | ⟨rfl, hJx3⟩)
     · gi_wp2
       go_roundw
       case rel => exact ⟨k + 1, by omega, by simp, by rw [upto_succ]; exact hJ3, hnx.trans hk3⟩
       case measure => simp [intOf]; omega
     · gi_wp2
       refine bodyPost_ret (results_none rfl _ _ _) rfl ?_
       exact ⟨⟨_, rfl⟩, .inr ⟨_, ⟨k + 1, by omega, (upto_succ _ _).symm⟩, hJx3⟩⟩
   · obtain rfl : k = len := by omega
     gi_wp2
     go_end0
     exact ⟨⟨_, rfl⟩, .inl ⟨_, rfl, hJs⟩⟩
set_option maxRecDepth 100000 in
set_option maxHeartbeats 1000000 in
theorem values1_none_in (F : Fence) (n : Nat) (h7 : F.fn 149) (hro : F.round = none) (l Bs : Nat) (a : Option Addr) (cap : Nat) (J : List Int → World → Prop) (W : World) (hBs : W.cell? ⟨Bs, 0, none⟩ = some (.slice a 0 cap)) (h0 : J [] W) :
   CallsIn F n Tryz.prog 149 #[.func (.yield l) #[] #[], .pointer (some ⟨Bs, 0, none⟩)] W fun e W' => (∃ v, e = .returned v) ∧ J [] W' := by
 refine callsIn_of_wp Tryz.func149 rfl h7 ?_ hro
 simp only [Tryz.ntmps149, List.size_toArray, List.length_cons, List.length_nil, Nat.reduceAdd, Nat.reduceSub, Array.replicate_succ, Array.replicate_zero, List.push_toArray, List.append_toArray, List.nil_append, List.cons_append]
 gi_wp2
 gi_loopw [7] (fun i wr => i = .int .i64 0 ∧ J [] wr) (fun _ _ => 0)
 case atStart => exact ⟨rfl, h0⟩
 case round =>
   obtain ⟨rfl, hJs⟩ := hrel
   gi_wp2
   go_end0
   exact ⟨⟨_, rfl⟩, hJs⟩
set_option maxHeartbeats 1000000 in
theorem values_in (F : Fence) (n : Nat) (h5 : F.fn 133) (hro : F.round = none) (a : Option Addr) (len cap : Nat) (w : World) :
   CallsIn F n Tryz.prog 133 #[.slice a len cap] w fun e w' => e = .returned (.func (.func 149) #[] #[.pointer (some ⟨w.heap.size, 0, none⟩)]) ∧ w' = w.alloc (.cells #[.slice a len cap] 29) := by
 refine callsIn_of_wp Tryz.func133 rfl h5 ?_ hro
 simp only [Tryz.ntmps133, List.size_toArray, List.length_cons, List.length_nil, Nat.reduceAdd, Nat.reduceSub, Array.replicate_succ, Array.replicate_zero, List.push_toArray, List.append_toArray, List.nil_append, List.cons_append]
 gi_wp2
 go_ret
 exact ⟨rfl, rfl⟩
theorem values_stops (F : Fence) (n : Nat) (h7 : F.fn 149) (hro : F.round = none) (hn : 1 ≤ n) (Bs n₀ : Nat) (sv : Value) (zs : List Int) (hreach : zs.length * 8 ≤ 140737488351232) (w w₀ : World) (hBs : Bs < w.heap.size) (hn₀ : n₀ = w₀.heap.size) (hb0 : Below n₀ w₀ w)
   (hc : w.cell? ⟨Bs, 0, none⟩ = some sv) (hI : SlAt w₀ sv (ints zs)) :
   SeqStopsK F n Tryz.prog 149 #[.pointer (some ⟨Bs, 0, none⟩)] (fun x : Int => #[Value.int .i64 x]) (Below n₀) (fun ys => ys = zs) (fun pre => pre <+: zs) zs.length w := fun l J Jx W hW _ _ hY h0 => by
 have hc' := (hW.cell (p := ⟨Bs, 0, none⟩) hBs).trans hc
 obtain ⟨a, c, rfl, k1, k2, k3⟩ := hI
 rw [ints_length] at hc' k1
 cases zs with
 | nil => exact (values1_none_in F n h7 hro l Bs a c J W hc' h0).mono fun e W' ⟨he, hj⟩ => ⟨he, .inl ⟨_, rfl, hj⟩⟩
 | cons z zs =>
   obtain ⟨b, off, rfl, hcs⟩ := k3 (by simp [ints])
   have hb : b < n₀ := by rw [hn₀]; exact cell_lt (hcs 0 (.int .i64 z) (by simp [ints]))
   have hn1 : n₀ ≤ w.heap.size := by rw [hn₀]; exact hb0.size
   refine (values1_in F n h7 hro hn l Bs n₀ b off (z :: zs).length c (z :: zs) hreach hb J Jx hY W hc' (fun j hj => ?_) h0).mono ?_
   · have h1 := hcs j (.int .i64 ((z :: zs)[j]?.getD 0)) (by unfold ints; rw [List.getElem?_map, List.getElem?_eq_getElem hj]; rfl)
     exact ((hb0.trans (hW.mono hn1)).cell (p := ⟨b, off + j, none⟩) hb).trans h1
   · rintro e W' ⟨he, ⟨ys, rfl, hj⟩ | ⟨pre, ⟨k, hk, rfl⟩, hj⟩⟩
     · exact ⟨he, .inl ⟨_, upto_all _, hj⟩⟩
     · exact ⟨he, .inr ⟨_, by rw [upto_take _ hk]; exact List.take_prefix _ _, hj⟩⟩
theorem info_int3 : (Tryz.prog.info? 3).map (fun i => (i.zero, i.size, i.bytes)) = some (some (.int .i64 0), 1, 8) := by kernel_rfl
set_option maxRecDepth 100000 in
set_option maxHeartbeats 2000000 in
theorem appendSeq_in (F : Fence) (n : Nat) (h3 : F.fn 152) (h5 : F.fn 149) (hro : F.round = none) (hn : 3 ≤ n) (sv : Value) (Bs : Nat) (zs : List Int) (hlen : zs.length ≤ 1000000) (w : World) (hBs : Bs < w.heap.size) (hc : w.cell? ⟨Bs, 0, none⟩ = some sv) (hI : SlAt w sv (ints zs)) :
   CallsIn F n Tryz.prog 152 #[.slice none 0 0, .func (.func 149) #[] #[.pointer (some ⟨Bs, 0, none⟩)]] w fun e W' => ∃ v, e = .returned v ∧ W'.ownsRow w.heap.size 3 1 v zs.length (ints zs) ∧ Below w.heap.size w W' := by
 have h1 : 1 ≤ n := by omega
 obtain ⟨i0, hi, hz0, hz1, hz2⟩ := info_parts info_int3
 refine callsIn_of_wp_marks Tryz.func152 rfl h3 ?_ hro
 simp only [Tryz.ntmps152, List.size_toArray, List.length_cons, List.length_nil, Nat.reduceAdd, Nat.reduceSub, Array.replicate_succ, Array.replicate_zero, List.push_toArray, List.append_toArray, List.nil_append, List.cons_append]
 gi_wp2
 have bO := Boxed.new w 29 (.slice none 0 0)
 have hB0 : Below w.heap.size w (w.alloc (.cells #[.slice none 0 0] 29)) := (Below.refl _ w).alloc (Nat.le_refl _) _
 refine wpIn_rangeFunc_ownG hro h1 (gf := 149) (lb := #[.pointer (some ⟨Bs, 0, none⟩)]) rfl h5 (enters_of Tryz.func149 (by kernel_rfl) rfl)
   (values_stops F (n - 1) h5 hro (by omega) Bs w.heap.size sv zs (by omega) _ w (by simp; omega) rfl hB0 ((hB0.cell (p := ⟨Bs, 0, none⟩) hBs).trans hc) hI) belowK_t (belowK_b (by simp)) (Below.refl _ _) (fun _ => rfl)
   (fun pre W => (∃ v, Boxed W w.heap.size 29 v ∧ W.ownsRow w.heap.size 3 1 v pre.length (ints pre) ∧ True) ∧ Below w.heap.size w W)
   (fun _ _ _ => False)
   (OwnFrom.and (Own.from (holdsRow_own w.heap.size w.heap.size 29 3 1 (fun pre => pre.length) (fun pre => ints pre) (fun _ _ => True)) _) (ownFrom_below (Nat.le_refl _) (by simp)))
   (fun _ _ _ _ _ hs _ _ => hs)
   ⟨⟨_, bO, World.ownsRow_nil _ _ _ _, trivial⟩, hB0⟩
   (fun x => { tmps := #[.slice none 0 0, .func (.func 149) #[] #[.pointer (some ⟨Bs, 0, none⟩)], .pointer (some ⟨w.heap.size, 0, none⟩), undef, .slice none 0 0, .int .i64 x, .func (.func 149) #[] #[.pointer (some ⟨Bs, 0, none⟩)], .int .i64 x, undef, undef, undef, undef, undef], defers := [] }) ?assign ?body ?done ?stop
 case assign =>
   intro l x W K hK
   gi_wp2
   exact hK
 case body =>
   rintro l pre x W ⟨⟨v, hv, hrow, _⟩, hB⟩ hlt
   have hc := hv.cell
   gi_wp2_with (gi_at_builtin; refine wpListIn_append_own _ rfl _ _ 29 rfl w.heap.size 3 i0 (.int .i64 0) 1 8 Tryz.underlying29 hi hz0 hz1 hz2 rfl (by decide) _ _ _ rfl (hrow.alloc _) ⟨W.heap.size, 0, none⟩ 1 1 [.int .i64 x] rfl rfl (cell_one_new _ _ _) (by simp [Value.oneCell']) (by unfold maxLen; omega) (by omega) (by have := hB.size; simp; omega) ?_; intro v' w1 hown' hgrow _; obtain ⟨g', cap', rfl⟩ := ownsRow_succ hown'; obtain ⟨hv1, hv2, hr2, hk2, hb2⟩ := hv.appended (by decide) hrow hB.size (Nat.le_refl _) hown' hgrow; have hc1 := hv1.cell; have hf1 := hv1.frozen)
   exact ⟨hk2.from _, hb2, ⟨_, hv2, by simpa [ints] using hr2, trivial⟩, hB.trans hb2⟩
 case done =>
   rintro D ys W hD rfl ⟨⟨v, hv, hrow, _⟩, hB⟩ hK
   have hc := hv.cell
   gi_wp2
   refine ⟨by simp, .inl ⟨_, _, rfl, run_takeDeferred hK, ?_⟩⟩
   exact ⟨_, results_tmp rfl _ _ _, v, rfl, ownsRow_putObj hrow _ hK rfl, hB.trans (belowK_b (w := w) (Nat.le_refl _) W D _ _ (by simp at hD; omega) hK rfl rfl)⟩
 case stop =>
   rintro D c pre W _ _ h _
   exact h.elim
end Go.Proofs.Lg
