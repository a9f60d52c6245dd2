/-
  Part GAK of this claim's proof. Joined by merge.py from the texts of wip/tpl.
-/
import Derived.Test.YtclholnhkhjjaaaGreatGAJ
import Derived.Test.YtclholnhkhjjaaaGreatProg
set_option linter.unusedVariables false
set_option linter.unusedSimpArgs false
set_option linter.unnecessarySimpa false
namespace Go.Proofs.Lh
open Go Go.Ab Go.Bb
def k_validLaw : CF := ⟨12,
 (.seq
 (fo [o0 1 (.box (.t 0)), o0 2 (.mov (.c (.d (.sc (.bool false)))))])
 (.seq
 (fo [o0 3 (.ld (some 2) (.t 1)), o0 4 (.bsl false 25 2 1 [(.nil 35), (.nil 2)] [(0, 2, (.t 3))]), o0 5 (.call (.fn 7) [(.t 4)]), o0 6 (.not (.t 5)), om 7 6, og 8 7 true (.ld (some 2) (.t 1)), og 9 7 true (.call (.fn 38) [(.t 8)]), og 10 7 true (.bin .eql (.t 9) (xi 0)), o0 11 (.pick (.t 7) (.t 10) (.c (.d (.sc (.bool false))))), om 2 11])
 .ret)), [.tmp 2]⟩
theorem okb_validLaw : compFn Tryz.prog [] 17 = some k_validLaw := by kernel_rfl
def k_lhTexts : CF := ⟨47,
 (.seq
 (fo [o0 2 (.box (.t 0)), o0 4 (.mov (.c (.nil 1))), o0 5 (.mov (.c (.nil 33))), o0 6 (.mov (.c (.d (.sc (.bool false)))))])
 (.seq
 (fo [o0 7 (.mov (.c (.nil 1)))])
 (.seq
 (fo [o0 8 (.mov (.c (.nil 33)))])
 (.seq
 (.seq
 (fo [om 11 1, o0 12 (.len 0 (.t 11)), o0 13 (.mov (xi 0))])
 (.block 0
 (.loop
 (.seq
 (fo [o0 14 (.bin .lss (.t 13) (.t 12))])
 (.seq
 (.cond (.t 14)
 .skip
 (.exit 0))
 (.seq
 (.block 1
 (.seq
 (fo [o0 15 (.iad 1 (.t 11) (.t 13)), o0 16 (.ld none (.t 15)), om 10 16])
 (.seq
 (.seq
 (fo [om 17 10, o0 18 (.bin .lss (.t 17) (xi 0)), om 19 18, oh 20 19 false 10, og 21 19 false (.fad 0 (.t 2)), og 22 19 false (.ld none (.t 21)), og 23 19 false (.len 0 (.t 22)), og 24 19 false (.bin .geq (.t 20) (.t 23)), o0 25 (.pick (.t 19) (.c (.d (.sc (.bool true)))) (.t 24))])
 (.cond (.t 25)
 (.seq
 (fo [o0 4 (.mov (.c (.nil 1))), o0 5 (.mov (.c (.nil 33))), o0 6 (.mov (.c (.d (.sc (.bool false)))))])
 .ret)
 .skip))
 (.ops true [0, 0, 2, 0, 14, 30, 62, 126, 255, 0, 0, 1024, 0, 7168, 15360, 31744, 64512, 131071, 262143, 524287] [om 26 7, o0 27 (.fad 0 (.t 2)), o0 28 (.ld none (.t 27)), om 29 10, o0 30 (.iad 35 (.t 28) (.t 29)), o0 31 (.fad 33 (.t 30)), o0 32 (.ld none (.t 31)), o0 33 (.bsf 1 1 [(.d (.sc (.string ⟨#[]⟩)))] [(0, 1, (.t 32))]), o0 34 (.app false 9 1 16 (.t 26) (.t 33)), om 35 8, o0 36 (.fad 0 (.t 2)), o0 37 (.ld none (.t 36)), om 38 10, o0 39 (.iad 35 (.t 37) (.t 38)), o0 40 (.fad 0 (.t 39)), o0 41 (.ld (some 33) (.t 40)), o0 42 (.bsf 33 1 [(.d (.sc (.int .u8 0))), (.d (.sc (.int .u8 0))), (.d (.sc (.int .u8 0))), (.d (.sc (.int .u8 0))), (.d (.sc (.int .u8 0))), (.d (.sc (.int .u8 0))), (.d (.sc (.int .u8 0))), (.d (.sc (.int .u8 0))), (.d (.sc (.int .u8 0))), (.d (.sc (.int .u8 0))), (.d (.sc (.int .u8 0))), (.d (.sc (.int .u8 0))), (.d (.sc (.int .u8 0))), (.d (.sc (.int .u8 0))), (.d (.sc (.int .u8 0))), (.d (.sc (.int .u8 0))), (.d (.sc (.int .u8 0))), (.d (.sc (.int .u8 0))), (.d (.sc (.int .u8 0))), (.d (.sc (.int .u8 0))), (.d (.sc (.int .u8 0))), (.d (.sc (.int .u8 0))), (.d (.sc (.int .u8 0))), (.d (.sc (.int .u8 0))), (.d (.sc (.int .u8 0))), (.d (.sc (.int .u8 0))), (.d (.sc (.int .u8 0))), (.d (.sc (.int .u8 0))), (.d (.sc (.int .u8 0))), (.d (.sc (.int .u8 0))), (.d (.sc (.int .u8 0))), (.d (.sc (.int .u8 0))), (.d (.sc (.int .i64 0)))] [(0, 33, (.t 41))]), o0 43 (.app false 38 33 40 (.t 35) (.t 42)), om 7 34, om 8 43]))))
 (fo [o0 44 (.bin .add (.t 13) (xi 1)), om 13 44])))))))
 (.seq
 (fo [om 45 7, om 46 8, om 4 45, om 5 46, o0 6 (.mov (.c (.d (.sc (.bool true)))))])
 .ret))))), [.tmp 4, .tmp 5, .tmp 6]⟩
theorem okb_lhTexts : compFn Tryz.prog [100033, 100042] 26 = some k_lhTexts := by kernel_rfl
def k_hkApply : CF := ⟨55,
 (.seq
 (fo [o0 4 (.mov (.c (.nil 1))), o0 5 (.mov (xi 0))])
 (.seq
 (.seq
 (fo [om 11 1, o0 12 (.call (.fn 64) [(.t 11)]), om 6 12])
 (.seq
 (fo [om 13 6, o0 14 (.bin .neq (.t 13) (xi 0))])
 (.cond (.t 14)
 (.seq
 (fo [om 15 6, o0 4 (.mov (.c (.nil 1))), om 5 15])
 .ret)
 .skip)))
 (.seq
 (fo [o0 7 (.mov (.c (.nil 1)))])
 (.seq
 (fo [o0 8 (.mov (xi 0))])
 (.seq
 (.seq
 (fo [om 16 1, o0 17 (.len 0 (.t 16)), o0 18 (.mov (xi 0))])
 (.block 0
 (.loop
 (.seq
 (fo [o0 19 (.bin .lss (.t 18) (.t 17))])
 (.seq
 (.cond (.t 19)
 .skip
 (.exit 0))
 (.seq
 (.block 1
 (.seq
 (fo [o0 20 (.iad 3 (.t 16) (.t 18)), o0 21 (.ld (some 3) (.t 20)), o0 10 (.box (.c (.agg [(.d (.sc (.int .i64 0))), (.nil 1), (.nil 1)]))), oN (.st 3 (.t 10) (.t 21))])
 (.seq
 (.seq
 (fo [o0 22 (.ld (some 3) (.t 10)), o0 23 (.call (.fn 65) [(.t 22)]), om 24 0, o0 25 (.len 0 (.t 24)), o0 26 (.bin .gtr (.t 23) (.t 25))])
 (.cond (.t 26)
 (.seq
 (fo [o0 4 (.mov (.c (.nil 1))), o0 5 (.mov (xi 2))])
 .ret)
 .skip))
 (.seq
 (.seq
 (.ops true [0, 0, 2, 0, 8, 31, 0, 64, 255, 511] [om 27 0, o0 28 (.fad 0 (.t 10)), o0 29 (.ld none (.t 28)), o0 30 (.ld (some 3) (.t 10)), o0 31 (.call (.fn 65) [(.t 30)]), o0 32 (.slc 1 (.t 27) (some (.t 29)) (some (.t 31))), o0 33 (.fad 1 (.t 10)), o0 34 (.ld none (.t 33)), o0 35 (.call (.fn 33) [(.t 32), (.t 34)]), o0 36 (.not (.t 35))])
 (.cond (.t 36)
 (.seq
 (fo [o0 4 (.mov (.c (.nil 1))), o0 5 (.mov (xi 15))])
 .ret)
 .skip))
 (.seq
 (.ops true [0, 0, 0, 0, 8, 30, 63, 0, 128, 511, 1023] [om 37 7, om 38 0, om 39 8, o0 40 (.fad 0 (.t 10)), o0 41 (.ld none (.t 40)), o0 42 (.slc 1 (.t 38) (some (.t 39)) (some (.t 41))), o0 43 (.app false 9 1 16 (.t 37) (.t 42)), o0 44 (.fad 2 (.t 10)), o0 45 (.ld none (.t 44)), o0 46 (.app false 9 1 16 (.t 43) (.t 45)), om 7 46])
 (fo [o0 47 (.ld (some 3) (.t 10)), o0 48 (.call (.fn 65) [(.t 47)]), om 8 48]))))))
 (fo [o0 49 (.bin .add (.t 18) (xi 1)), om 18 49])))))))
 (.seq
 (fo [om 50 7, om 51 0, om 52 8, o0 53 (.slc 1 (.t 51) (some (.t 52)) none), o0 54 (.app false 9 1 16 (.t 50) (.t 53)), om 4 54, o0 5 (.mov (xi 0))])
 .ret)))))), [.tmp 4, .tmp 5]⟩
theorem okb_hkApply : compFn Tryz.prog [] 27 = some k_hkApply := by kernel_rfl
def k_hkMatching : CF := ⟨56,
 (.seq
 (fo [o0 4 (.mov (.c (.nil 3)))])
 (.seq
 (.seq
 (fo [om 11 1, o0 12 (.call (.fn 64) [(.t 11)]), o0 13 (.bin .neq (.t 12) (xi 0)), om 14 13, oh 15 14 false 1, og 16 14 false (.len 0 (.t 15)), og 17 14 false (.bin .gtr (.t 16) (xi 0)), oh 18 14 false 17, oh 19 18 true 1, oh 20 18 true 1, og 21 18 true (.len 0 (.t 20)), og 22 18 true (.bin .sub (.t 21) (xi 1)), og 23 18 true (.iad 3 (.t 19) (.t 22)), og 24 18 true (.ld (some 3) (.t 23)), og 25 18 true (.call (.fn 65) [(.t 24)]), oh 26 18 true 0, og 27 18 true (.bin .gtr (.t 25) (.t 26)), og 28 14 false (.pick (.t 18) (.t 27) (.c (.d (.sc (.bool false))))), o0 29 (.pick (.t 14) (.c (.d (.sc (.bool true)))) (.t 28))])
 (.cond (.t 29)
 (.seq
 (fo [o0 4 (.mov (.c (.nil 3)))])
 .ret)
 .skip))
 (.seq
 (fo [o0 5 (.box (.c (.nil 3)))])
 (.seq
 (fo [o0 6 (.box (xi 0)), o0 7 (.box (xi 0)), oN (.st 1 (.t 6) (xi 0)), oN (.st 1 (.t 7) (xi 0))])
 (.seq
 (fo [o0 30 (.mkf 66 [] [(.t 6), (.t 5), (.t 7)]), om 8 30])
 (.seq
 (.seq
 (fo [om 31 1, o0 32 (.len 0 (.t 31)), o0 33 (.mov (xi 0))])
 (.block 0
 (.loop
 (.seq
 (fo [o0 34 (.bin .lss (.t 33) (.t 32))])
 (.seq
 (.cond (.t 34)
 .skip
 (.exit 0))
 (.seq
 (.block 1
 (.seq
 (fo [o0 35 (.iad 3 (.t 31) (.t 33)), o0 36 (.ld (some 3) (.t 35)), o0 10 (.box (.c (.agg [(.d (.sc (.int .i64 0))), (.nil 1), (.nil 1)]))), oN (.st 3 (.t 10) (.t 36))])
 (.seq
 (fo [om 37 8, o0 38 (.fad 0 (.t 10)), o0 39 (.ld none (.t 38)), o0 40 (.call (.val (.t 37)) [(.t 39)])])
 (.ops true [0, 0, 2, 6, 15, 0, 0, 64, 192, 480, 31, 2047] [o0 41 (.ld none (.t 6)), o0 42 (.fad 1 (.t 10)), o0 43 (.ld none (.t 42)), o0 44 (.len 0 (.t 43)), o0 45 (.bin .add (.t 41) (.t 44)), o0 46 (.ld none (.t 7)), o0 47 (.fad 2 (.t 10)), o0 48 (.ld none (.t 47)), o0 49 (.len 0 (.t 48)), o0 50 (.bin .add (.t 46) (.t 49)), oN (.st 1 (.t 6) (.t 45)), oN (.st 1 (.t 7) (.t 50))]))))
 (fo [o0 51 (.bin .add (.t 33) (xi 1)), om 33 51])))))))
 (.seq
 (fo [om 52 8, om 53 0, o0 54 (.call (.val (.t 52)) [(.t 53)])])
 (.seq
 (fo [o0 55 (.ld none (.t 5)), om 4 55])
 .ret)))))))), [.tmp 4]⟩
theorem okb_hkMatching : compFn Tryz.prog [] 28 = some k_hkMatching := by kernel_rfl
def k_hkKeep : CF := ⟨23,
 (.seq
 (fo [om 5 0, o0 6 (.ld none (.t 1)), o0 7 (.bin .gtr (.t 5) (.t 6))])
 (.cond (.t 7)
 (.seq
 (fo [o0 8 (.ld none (.t 2)), o0 9 (.ld none (.t 1)), o0 10 (.ld none (.t 3)), om 11 0, o0 12 (.ld none (.t 1)), o0 13 (.bin .sub (.t 11) (.t 12)), o0 14 (.bld [(.d (.sc (.int .i64 0))), (.d (.sc (.int .i64 0))), (.d (.sc (.int .i64 0)))] [(0, 1, (.t 9)), (1, 1, (.t 10)), (2, 1, (.t 13))]), o0 15 (.bsl false 65 3 1 [(.d (.sc (.int .i64 0))), (.d (.sc (.int .i64 0))), (.d (.sc (.int .i64 0)))] [(0, 3, (.t 14))]), o0 16 (.app false 65 3 24 (.t 8) (.t 15)), oN (.st 1 (.t 2) (.t 16))])
 (.ops true [0, 0, 0, 6, 0, 30, 17, 127] [om 17 0, o0 18 (.ld none (.t 3)), om 19 0, o0 20 (.bin .add (.t 18) (.t 19)), o0 21 (.ld none (.t 1)), o0 22 (.bin .sub (.t 20) (.t 21)), oN (.st 1 (.t 1) (.t 17)), oN (.st 1 (.t 3) (.t 22))]))
 .skip)), []⟩
theorem okb_hkKeep : compFn Tryz.prog [] 66 = some k_hkKeep := by kernel_rfl
def k_hkCheck : CF := ⟨45,
 (.seq
 (fo [o0 2 (.mov (xi 0))])
 (.seq
 (.seq
 (fo [om 5 0, o0 6 (.len 0 (.t 5)), o0 7 (.mov (xi 0))])
 (.block 0
 (.loop
 (.seq
 (fo [o0 8 (.bin .lss (.t 7) (.t 6))])
 (.seq
 (.cond (.t 8)
 .skip
 (.exit 0))
 (.seq
 (.block 1
 (.seq
 (fo [om 9 7, o0 10 (.iad 3 (.t 5) (.t 7)), o0 11 (.ld (some 3) (.t 10)), o0 4 (.box (.c (.agg [(.d (.sc (.int .i64 0))), (.nil 1), (.nil 1)]))), om 3 9, oN (.st 3 (.t 4) (.t 11))])
 (.block 2
 (.seq
 (fo [o0 13 (.fad 0 (.t 4)), o0 14 (.ld none (.t 13)), o0 15 (.bin .lss (.t 14) (xi 0)), om 16 15, og 17 16 false (.fad 0 (.t 4)), og 18 16 false (.ld none (.t 17)), og 19 16 false (.bin .gtr (.t 18) (xi 1099511627776)), o0 20 (.pick (.t 16) (.c (.d (.sc (.bool true)))) (.t 19)), om 12 20])
 (.cond (.t 12)
 (.seq
 (fo [o0 2 (.mov (xi 2))])
 .ret)
 (.seq
 (fo [o0 22 (.fad 1 (.t 4)), o0 23 (.ld none (.t 22)), o0 24 (.len 0 (.t 23)), o0 25 (.fad 2 (.t 4)), o0 26 (.ld none (.t 25)), o0 27 (.len 0 (.t 26)), o0 28 (.bin .add (.t 24) (.t 27)), o0 29 (.bin .eql (.t 28) (xi 0)), om 21 29])
 (.cond (.t 21)
 (.seq
 (fo [o0 2 (.mov (xi 1))])
 .ret)
 (.seq
 (.ops true [0, 1, 3, 7, 15, 7, 7, 71, 231, 487, 999, 2047, 4095, 8191] [om 31 3, o0 32 (.bin .gtr (.t 31) (xi 0)), om 33 32, og 34 33 true (.fad 0 (.t 4)), og 35 33 true (.ld none (.t 34)), oh 36 33 true 0, oh 37 33 true 3, og 38 33 true (.bin .sub (.t 37) (xi 1)), og 39 33 true (.iad 3 (.t 36) (.t 38)), og 40 33 true (.ld (some 3) (.t 39)), og 41 33 true (.call (.fn 65) [(.t 40)]), og 42 33 true (.bin .leq (.t 35) (.t 41)), o0 43 (.pick (.t 33) (.t 42) (.c (.d (.sc (.bool false))))), om 30 43])
 (.cond (.t 30)
 (.seq
 (fo [o0 2 (.mov (xi 9))])
 .ret)
 .skip)))))))))
 (fo [o0 44 (.bin .add (.t 7) (xi 1)), om 7 44])))))))
 (.seq
 (fo [o0 2 (.mov (xi 0))])
 .ret))), [.tmp 2]⟩
theorem okb_hkCheck : compFn Tryz.prog [] 64 = some k_hkCheck := by kernel_rfl
def k_hkEnd : CF := ⟨9,
 (.seq
 (fo [o0 1 (.box (.t 0)), o0 2 (.mov (xi 0))])
 (.seq
 (fo [o0 3 (.fad 0 (.t 1)), o0 4 (.ld none (.t 3)), o0 5 (.fad 1 (.t 1)), o0 6 (.ld none (.t 5)), o0 7 (.len 0 (.t 6)), o0 8 (.bin .add (.t 4) (.t 7)), om 2 8])
 .ret)), [.tmp 2]⟩
theorem okb_hkEnd : compFn Tryz.prog [] 65 = some k_hkEnd := by kernel_rfl
def k_IndexId : CF := ⟨19,
 (.seq
 (fo [o0 3 (.box (.t 1)), o0 4 (.mov (xi 0))])
 (.seq
 (.seq
 (fo [om 6 0, o0 7 (.len 0 (.t 6)), o0 8 (.mov (xi 0))])
 (.block 0
 (.loop
 (.seq
 (fo [o0 9 (.bin .lss (.t 8) (.t 7))])
 (.seq
 (.cond (.t 9)
 .skip
 (.exit 0))
 (.seq
 (.block 1
 (.seq
 (fo [om 10 8, om 5 10])
 (.seq
 (.ops true [0, 0, 0, 6, 14, 31] [o0 11 (.ld (some 33) (.t 3)), om 12 0, om 13 5, o0 14 (.iad 33 (.t 12) (.t 13)), o0 15 (.ld (some 33) (.t 14)), o0 16 (.eqa true [.i, .i, .i, .i, .i, .i, .i, .i, .i, .i, .i, .i, .i, .i, .i, .i, .i, .i, .i, .i, .i, .i, .i, .i, .i, .i, .i, .i, .i, .i, .i, .i, .i] false (.t 11) (.t 15))])
 (.cond (.t 16)
 (.seq
 (fo [om 17 5, om 4 17])
 .ret)
 .skip))))
 (fo [o0 18 (.bin .add (.t 8) (xi 1)), om 8 18])))))))
 (.seq
 (fo [o0 4 (.mov (xi (-1)))])
 .ret))), [.tmp 4]⟩
theorem okb_IndexId : compFn Tryz.prog [] 29 = some k_IndexId := by kernel_rfl
def k_SortedVtx : CF := ⟨25,
 (.seq
 (fo [o0 4 (.mov (.c (.d (.sc (.bool false)))))])
 (.seq
 (.seq
 (fo [om 6 0, o0 7 (.len 0 (.t 6)), o0 8 (.bin .sub (.t 7) (xi 1)), om 5 8])
 (.block 0
 (.loop
 (.seq
 (.seq
 (fo [om 9 5, o0 10 (.bin .gtr (.t 9) (xi 0))])
 (.cond (.t 10)
 .skip
 (.exit 0)))
 (.seq
 (.block 1
 (.seq
 (.ops true [0, 0, 0, 6, 14, 0, 0, 64, 224, 480, 1023, 2047] [om 13 1, om 14 0, om 15 5, o0 16 (.iad 35 (.t 14) (.t 15)), o0 17 (.ld (some 35) (.t 16)), om 18 0, om 19 5, o0 20 (.bin .sub (.t 19) (xi 1)), o0 21 (.iad 35 (.t 18) (.t 20)), o0 22 (.ld (some 35) (.t 21)), o0 23 (.call (.val (.t 13)) [(.t 17), (.t 22)]), o0 24 (.bin .lss (.t 23) (xi 0))])
 (.cond (.t 24)
 (.seq
 (fo [o0 4 (.mov (.c (.d (.sc (.bool false)))))])
 .ret)
 .skip)))
 (fo [om 11 5, o0 12 (.bin .sub (.t 11) (xi 1)), om 5 12]))))))
 (.seq
 (fo [o0 4 (.mov (.c (.d (.sc (.bool true)))))])
 .ret))), [.tmp 4]⟩
theorem okb_SortedVtx : compFn Tryz.prog [] 30 = some k_SortedVtx := by kernel_rfl
def k_LH1 : CF := ⟨10,
 (.seq
 (fo [o0 2 (.box (.t 0)), o0 3 (.box (.t 1)), o0 4 (.mov (xi 0))])
 (.seq
 (fo [o0 5 (.fad 0 (.t 2)), o0 6 (.ld (some 33) (.t 5)), o0 7 (.fad 0 (.t 3)), o0 8 (.ld (some 33) (.t 7)), o0 9 (.call (.fn 32) [(.t 6), (.t 8)]), om 4 9])
 .ret)), [.tmp 4]⟩
theorem okb_LH1 : compFn Tryz.prog [] 31 = some k_LH1 := by kernel_rfl
def k_LinearizeHunks : CF := ⟨153,
 (.seq
 (fo [o0 2 (.box (.t 0)), o0 3 (.box (.t 1)), o0 4 (.mov (.c (.d (.sc (.bool false)))))])
 (.seq
 (.seq
 (fo [o0 22 (.ld (some 2) (.t 2)), o0 23 (.call (.fn 17) [(.t 22)]), o0 24 (.not (.t 23)), om 25 24, og 26 25 false (.ld (some 2) (.t 3)), og 27 25 false (.call (.fn 17) [(.t 26)]), og 28 25 false (.not (.t 27)), o0 29 (.pick (.t 25) (.c (.d (.sc (.bool true)))) (.t 28))])
 (.cond (.t 29)
 (.seq
 (fo [o0 30 (.call (.fn 8) []), om 4 30])
 .ret)
 .skip))
 (.seq
 (fo [o0 32 (.ld (some 2) (.t 2)), o0 33 (.ld (some 2) (.t 3)), o0 34 (.call (.fn 20) [(.t 32), (.t 33)]), om 31 34, o0 35 (.ext (.t 31) 0), o0 36 (.ext (.t 31) 1), om 5 35, om 6 36])
 (.seq
 (.seq
 (fo [om 37 6, o0 38 (.bin .neq (.t 37) (xi 0))])
 (.cond (.t 38)
 (.seq
 (fo [om 39 5, o0 40 (.len 0 (.t 39)), o0 41 (.bin .eql (.t 40) (xi 0)), om 42 41, oh 43 42 true 6, og 44 42 true (.bin .eql (.t 43) (xi 15)), oh 45 42 true 44, oh 46 45 false 6, og 47 45 false (.bin .eql (.t 46) (xi 9)), og 48 42 true (.pick (.t 45) (.c (.d (.sc (.bool true)))) (.t 47)), o0 49 (.pick (.t 42) (.t 48) (.c (.d (.sc (.bool false))))), om 50 49, og 51 50 true (.call (.fn 8) []), o0 52 (.pick (.t 50) (.t 51) (.c (.d (.sc (.bool false))))), om 4 52])
 .ret)
 .skip))
 (.seq
 (.ops true [0, 0, 2, 7, 15, 31, 31, 31, 63, 383, 1023] [o0 54 (.ld (some 2) (.t 2)), o0 55 (.ld (some 2) (.t 2)), o0 56 (.call (.fn 15) [(.t 55)]), o0 57 (.call (.fn 26) [(.t 54), (.t 56)]), om 53 57, o0 58 (.ext (.t 53) 0), o0 59 (.ext (.t 53) 1), o0 60 (.ext (.t 53) 2), om 7 58, om 8 59, om 9 60])
 (.seq
 (.ops true [0, 0, 2, 7, 15, 31, 31, 31, 63, 383, 1023] [o0 62 (.ld (some 2) (.t 3)), o0 63 (.ld (some 2) (.t 3)), o0 64 (.call (.fn 15) [(.t 63)]), o0 65 (.call (.fn 26) [(.t 62), (.t 64)]), om 61 65, o0 66 (.ext (.t 61) 0), o0 67 (.ext (.t 61) 1), o0 68 (.ext (.t 61) 2), om 10 66, om 11 67, om 12 68])
 (.seq
 (fo [om 70 7, om 71 5, o0 72 (.call (.fn 27) [(.t 70), (.t 71)]), om 69 72, o0 73 (.ext (.t 69) 0), o0 74 (.ext (.t 69) 1), om 13 73, om 14 74])
 (.seq
 (fo [o0 15 (.mov (xi 0))])
 (.seq
 (.seq
 (fo [om 75 7, o0 76 (.len 0 (.t 75)), om 77 5, o0 78 (.call (.fn 28) [(.t 76), (.t 77)]), o0 79 (.len 0 (.t 78)), o0 80 (.mov (xi 0))])
 (.block 0
 (.loop
 (.seq
 (fo [o0 81 (.bin .lss (.t 80) (.t 79))])
 (.seq
 (.cond (.t 81)
 .skip
 (.exit 0))
 (.seq
 (.block 1
 (.seq
 (fo [o0 82 (.iad 3 (.t 78) (.t 80)), o0 83 (.ld (some 3) (.t 82)), o0 17 (.box (.c (.agg [(.d (.sc (.int .i64 0))), (.d (.sc (.int .i64 0))), (.d (.sc (.int .i64 0)))]))), oN (.st 3 (.t 17) (.t 83))])
 (fo [om 84 15, o0 85 (.fad 2 (.t 17)), o0 86 (.ld none (.t 85)), o0 87 (.bin .add (.t 84) (.t 86)), om 15 87])))
 (fo [o0 88 (.bin .add (.t 80) (xi 1)), om 80 88])))))))
 (.seq
 (.seq
 (fo [om 89 8, o0 90 (.len 0 (.t 89)), o0 91 (.mov (xi 0))])
 (.block 2
 (.loop
 (.seq
 (fo [o0 92 (.bin .lss (.t 91) (.t 90))])
 (.seq
 (.cond (.t 92)
 .skip
 (.exit 2))
 (.seq
 (.block 3
 (.seq
 (fo [om 93 91, o0 94 (.iad 33 (.t 89) (.t 91)), o0 95 (.ld (some 33) (.t 94)), o0 19 (.box (.c (.agg [(.d (.sc (.int .u8 0))), (.d (.sc (.int .u8 0))), (.d (.sc (.int .u8 0))), (.d (.sc (.int .u8 0))), (.d (.sc (.int .u8 0))), (.d (.sc (.int .u8 0))), (.d (.sc (.int .u8 0))), (.d (.sc (.int .u8 0))), (.d (.sc (.int .u8 0))), (.d (.sc (.int .u8 0))), (.d (.sc (.int .u8 0))), (.d (.sc (.int .u8 0))), (.d (.sc (.int .u8 0))), (.d (.sc (.int .u8 0))), (.d (.sc (.int .u8 0))), (.d (.sc (.int .u8 0))), (.d (.sc (.int .u8 0))), (.d (.sc (.int .u8 0))), (.d (.sc (.int .u8 0))), (.d (.sc (.int .u8 0))), (.d (.sc (.int .u8 0))), (.d (.sc (.int .u8 0))), (.d (.sc (.int .u8 0))), (.d (.sc (.int .u8 0))), (.d (.sc (.int .u8 0))), (.d (.sc (.int .u8 0))), (.d (.sc (.int .u8 0))), (.d (.sc (.int .u8 0))), (.d (.sc (.int .u8 0))), (.d (.sc (.int .u8 0))), (.d (.sc (.int .u8 0))), (.d (.sc (.int .u8 0))), (.d (.sc (.int .i64 0)))]))), om 18 93, oN (.st 33 (.t 19) (.t 95))])
 (.seq
 (fo [om 96 11, o0 97 (.ld (some 33) (.t 19)), o0 98 (.call (.fn 29) [(.t 96), (.t 97)]), om 20 98])
 (.seq
 (.ops true [0, 1, 3, 7, 7, 23, 63, 127, 255, 511, 511, 1535, 4095, 8191, 16383, 32767, 32767, 131071, 262143, 32767, 32767, 1605631, 3702783, 8388607, 16777215] [om 99 20, o0 100 (.bin .geq (.t 99) (xi 0)), om 101 100, oh 102 101 true 20, oh 103 101 true 10, og 104 101 true (.len 0 (.t 103)), og 105 101 true (.bin .lss (.t 102) (.t 104)), o0 106 (.pick (.t 101) (.t 105) (.c (.d (.sc (.bool false))))), om 107 106, oh 108 107 true 18, oh 109 107 true 7, og 110 107 true (.len 0 (.t 109)), og 111 107 true (.bin .lss (.t 108) (.t 110)), o0 112 (.pick (.t 107) (.t 111) (.c (.d (.sc (.bool false))))), om 113 112, oh 114 113 true 7, oh 115 113 true 18, og 116 113 true (.iad 1 (.t 114) (.t 115)), og 117 113 true (.ld none (.t 116)), oh 118 113 true 10, oh 119 113 true 20, og 120 113 true (.iad 1 (.t 118) (.t 119)), og 121 113 true (.ld none (.t 120)), og 122 113 true (.bin .eql (.t 117) (.t 121)), o0 123 (.pick (.t 113) (.t 122) (.c (.d (.sc (.bool false)))))])
 (.cond (.t 123)
 (fo [om 124 15, o0 125 (.bin .sub (.t 124) (xi 1)), om 15 125])
 .skip)))))
 (fo [o0 126 (.bin .add (.t 91) (xi 1)), om 91 126])))))))
 (.seq
 (fo [o0 127 (.fad 0 (.t 3)), o0 128 (.ld none (.t 127)), o0 129 (.call (.fn 30) [(.t 128), (.c (.clo 31 [] []))]), om 21 129])
 (.seq
 (fo [om 130 9, om 131 130, oh 132 131 true 12, o0 133 (.pick (.t 131) (.t 132) (.c (.d (.sc (.bool false))))), om 134 133, oh 135 134 true 21, o0 136 (.pick (.t 134) (.t 135) (.c (.d (.sc (.bool false))))), om 137 136, oh 138 137 true 14, og 139 137 true (.bin .eql (.t 138) (xi 0)), o0 140 (.pick (.t 137) (.t 139) (.c (.d (.sc (.bool false))))), om 141 140, oh 142 141 true 13, oh 143 141 true 10, og 144 141 true (.call (.fn 33) [(.t 142), (.t 143)]), o0 145 (.pick (.t 141) (.t 144) (.c (.d (.sc (.bool false))))), om 146 145, oh 147 146 true 15, og 148 146 true (.bin .eql (.t 147) (xi 0)), o0 149 (.pick (.t 146) (.t 148) (.c (.d (.sc (.bool false))))), om 150 149, og 151 150 true (.call (.fn 8) []), o0 152 (.pick (.t 150) (.t 151) (.c (.d (.sc (.bool false))))), om 4 152])
 .ret)))))))))))), [.tmp 4]⟩
theorem okb_LinearizeHunks : compFn Tryz.prog [] 6 = some k_LinearizeHunks := by kernel_rfl
end Go.Proofs.Lh

namespace Go.Proofs.Lh
open Go Go.Ab Go.Bb
end Go.Proofs.Lh
