/-
  Part GS of this claim's proof. Joined by merge.py from the texts of wip/tpl.
-/
import Derived.Test.YtjlnniaknfpgiaaGreatDoorGM
set_option linter.unusedVariables false
set_option linter.unusedSimpArgs false
set_option linter.unnecessarySimpa false
namespace Go.Proofs.Lh.EV
open Go Go.Ab Go.Bb
def k_57 : CF := ⟨11,
(.seq
(.ops false [] [
o 3 (.box (t 1)),
o 4 (.mov (.c i0)),
o 5 (.mov (.c bF))])
(.seq
(.ops false [] [
m 6 0,
o 7 (.ld (some 32) (t 3)),
o 8 (.call (.fn 87) [(t 6), (t 7), (.c (.clo 88 [] []))]),
o 9 (.ext (t 8) 0),
o 10 (.ext (t 8) 1),
m 4 9,
m 5 10])
.ret)), [.tmp 4, .tmp 5]⟩
theorem ok_57 : compFn Tryz.prog [] 57 = some (CF.erase k_57) := by kernel_rfl

def k_67 : CF := ⟨9,
(.ops false [] [
m 4 0,
m 5 0,
o 6 (.len 0 (t 5)),
m 7 1,
o 8 (.call (.fn 102) [(t 4), (t 6), (t 7)])]), []⟩
theorem ok_67 : compFn Tryz.prog [] 67 = some (CF.erase k_67) := by kernel_rfl

def k_87 : CF := ⟨49,
(.seq
(.ops false [] [
o 4 (.box (t 1)),
o 6 (.mov (.c i0)),
o 7 (.mov (.c bF))])
(.seq
(.ops false [] [
m 12 0,
o 13 (.len 0 (t 12)),
m 8 13])
(.seq
(.ops false [] [
m 14 8,
o 9 (.mov (.c i0)),
m 10 14])
(.seq
(.block 0
(.loop
(.trim [4, 0, 2, 10, 9, 8]
(.seq
(.seq
(.ops false [] [
m 15 9,
m 16 10,
o 17 (.bin .lss (t 15) (t 16))])
(.cond (t 17)
.skip
(.exit 0)))
(.block 1
(.seq
(.ops false [] [
m 18 9,
m 19 10,
o 20 (.bin .add (t 18) (t 19)),
o 21 (.cnv .u64 (t 20)),
o 22 (.bin .shr (t 21) (.c (.d (.sc (.int .u64 1))))),
o 23 (.cnv .i64 (t 22)),
m 11 23])
(.seq
(.ops true [0, 0, 0, 6, 14, 0, 63, 127] [
m 24 2,
m 25 0,
m 26 11,
o 27 (.iad 37 (t 25) (t 26)),
o 28 (.ld (some 37) (t 27)),
o 29 (.ld (some 32) (t 4)),
o 30 (.call (.val (t 24)) [(t 28), (t 29)]),
o 31 (.bin .lss (t 30) (.c i0))])
(.cond (t 31)
(.ops false [] [
m 32 11,
o 33 (.bin .add (t 32) (.c i1)),
m 9 33])
(.ops false [] [
m 34 11,
m 10 34])))))))))
(.seq
(.ops true [0, 0, 0, 6, 14, 30, 30, 30, 222, 478, 30, 2046, 4094, 8190, 4095, 32767] [
m 35 9,
m 36 9,
m 37 8,
o 38 (.bin .lss (t 36) (t 37)),
m 39 38,
⟨(some 40),(some ((some 39),true)),.mov (t 2)⟩,
⟨(some 41),(some ((some 39),true)),.mov (t 0)⟩,
⟨(some 42),(some ((some 39),true)),.mov (t 9)⟩,
⟨(some 43),(some ((some 39),true)),.iad 37 (t 41) (t 42)⟩,
⟨(some 44),(some ((some 39),true)),.ld (some 37) (t 43)⟩,
⟨(some 45),(some ((some 39),true)),.ld (some 32) (t 4)⟩,
⟨(some 46),(some ((some 39),true)),.call (.val (t 40)) [(t 44), (t 45)]⟩,
⟨(some 47),(some ((some 39),true)),.bin .eql (t 46) (.c i0)⟩,
o 48 (.pick (t 39) (t 47) (.c bF)),
m 6 35,
m 7 48])
.ret))))), [.tmp 6, .tmp 7]⟩
theorem ok_87 : compFn Tryz.prog [] 87 = some (CF.erase k_87) := by kernel_rfl

def k_102 : CF := ⟨63,
(.seq
(.ops false [] [
o 6 (.mov (.c (.d (.sc (.int .i64 20)))))])
(.seq
(.ops false [] [
m 10 6,
o 7 (.mov (.c i0)),
m 8 10])
(.seq
(.block 0
(.loop
(.trim [6, 8, 2, 7, 0, 1]
(.seq
(.seq
(.ops false [] [
m 11 8,
m 12 1,
o 13 (.bin .leq (t 11) (t 12))])
(.cond (t 13)
.skip
(.exit 0)))
(.block 1
(.seq
(.ops false [] [
m 14 0,
m 15 7,
m 16 8,
m 17 2,
o 18 (.call (.fn 157) [(t 14), (t 15), (t 16), (t 17)])])
(.seq
(.ops false [] [
m 19 8,
m 7 19])
(.ops false [] [
m 20 8,
m 21 6,
o 22 (.bin .add (t 20) (t 21)),
m 8 22]))))))))
(.seq
(.ops false [] [
m 23 0,
m 24 7,
m 25 1,
m 26 2,
o 27 (.call (.fn 157) [(t 23), (t 24), (t 25), (t 26)])])
(.block 2
(.loop
(.trim [1, 0, 2, 6]
(.seq
(.seq
(.ops false [] [
m 28 6,
m 29 1,
o 30 (.bin .lss (t 28) (t 29))])
(.cond (t 30)
.skip
(.exit 2)))
(.block 3
(.seq
(.ops false [] [
m 31 6,
o 32 (.bin .mul (.c (.d (.sc (.int .i64 2)))) (t 31)),
o 7 (.mov (.c i0)),
m 8 32])
(.seq
(.block 4
(.loop
(.trim [6, 8, 2, 7, 0, 1]
(.seq
(.seq
(.ops false [] [
m 33 8,
m 34 1,
o 35 (.bin .leq (t 33) (t 34))])
(.cond (t 35)
.skip
(.exit 4)))
(.block 5
(.seq
(.ops false [] [
m 36 0,
m 37 7,
m 38 7,
m 39 6,
o 40 (.bin .add (t 38) (t 39)),
m 41 8,
m 42 2,
o 43 (.call (.fn 158) [(t 36), (t 37), (t 40), (t 41), (t 42)])])
(.seq
(.ops false [] [
m 44 8,
m 7 44])
(.ops false [] [
m 45 8,
m 46 6,
o 47 (.bin .mul (.c (.d (.sc (.int .i64 2)))) (t 46)),
o 48 (.bin .add (t 45) (t 47)),
m 8 48]))))))))
(.seq
(.seq
(.ops false [] [
m 49 7,
m 50 6,
o 51 (.bin .add (t 49) (t 50)),
m 9 51])
(.seq
(.ops false [] [
m 52 9,
m 53 1,
o 54 (.bin .lss (t 52) (t 53))])
(.cond (t 54)
(.ops false [] [
m 55 0,
m 56 7,
m 57 9,
m 58 1,
m 59 2,
o 60 (.call (.fn 158) [(t 55), (t 56), (t 57), (t 58), (t 59)])])
.skip)))
(.ops false [] [
m 61 6,
o 62 (.bin .mul (t 61) (.c (.d (.sc (.int .i64 2))))),
m 6 62]))))))))))))), []⟩
theorem ok_102 : compFn Tryz.prog [] 102 = some (CF.erase k_102) := by kernel_rfl

def k_157 : CF := ⟨53,
(.seq
(.ops false [] [
m 10 1,
o 11 (.bin .add (t 10) (.c i1)),
m 8 11])
(.block 0
(.loop
(.trim [1, 3, 8, 0, 2]
(.seq
(.seq
(.ops false [] [
m 12 8,
m 13 2,
o 14 (.bin .lss (t 12) (t 13))])
(.cond (t 14)
.skip
(.exit 0)))
(.seq
(.block 1
(.seq
(.ops false [] [
m 17 8,
m 9 17])
(.block 2
(.loop
(.trim [9, 0, 8, 1, 3, 2]
(.seq
(.seq
(.ops true [0, 0, 3, 7, 15, 15, 15, 111, 239, 15, 15, 1039, 3599, 7695, 16383, 32767, 65535] [
m 18 9,
m 19 1,
o 20 (.bin .gtr (t 18) (t 19)),
m 21 20,
⟨(some 22),(some ((some 21),true)),.mov (t 3)⟩,
⟨(some 23),(some ((some 21),true)),.mov (t 0)⟩,
⟨(some 24),(some ((some 21),true)),.mov (t 9)⟩,
⟨(some 25),(some ((some 21),true)),.iad 172 (t 23) (t 24)⟩,
⟨(some 26),(some ((some 21),true)),.ld (some 172) (t 25)⟩,
⟨(some 27),(some ((some 21),true)),.mov (t 0)⟩,
⟨(some 28),(some ((some 21),true)),.mov (t 9)⟩,
⟨(some 29),(some ((some 21),true)),.bin .sub (t 28) (.c i1)⟩,
⟨(some 30),(some ((some 21),true)),.iad 172 (t 27) (t 29)⟩,
⟨(some 31),(some ((some 21),true)),.ld (some 172) (t 30)⟩,
⟨(some 32),(some ((some 21),true)),.call (.val (t 22)) [(t 26), (t 31)]⟩,
⟨(some 33),(some ((some 21),true)),.bin .lss (t 32) (.c i0)⟩,
o 34 (.pick (t 21) (t 33) (.c bF))])
(.cond (t 34)
.skip
(.exit 2)))
(.seq
(.block 3
(.ops true [0, 0, 0, 0, 8, 0, 0, 64, 224, 480, 0, 0, 3072, 7168, 16355, 32739, 65535, 131071] [
m 37 0,
m 38 9,
m 39 0,
m 40 9,
o 41 (.bin .sub (t 40) (.c i1)),
m 42 0,
m 43 9,
o 44 (.bin .sub (t 43) (.c i1)),
o 45 (.iad 172 (t 42) (t 44)),
o 46 (.ld (some 172) (t 45)),
m 47 0,
m 48 9,
o 49 (.iad 172 (t 47) (t 48)),
o 50 (.ld (some 172) (t 49)),
o 51 (.iad 172 (t 37) (t 38)),
⟨none,none,.st 172 (t 51) (t 46)⟩,
o 52 (.iad 172 (t 39) (t 41)),
⟨none,none,.st 172 (t 52) (t 50)⟩]))
(.ops false [] [
m 35 9,
o 36 (.bin .sub (t 35) (.c i1)),
m 9 36]))))))))
(.ops false [] [
m 15 8,
o 16 (.bin .add (t 15) (.c i1)),
m 8 16]))))))), []⟩
theorem ok_157 : compFn Tryz.prog [] 157 = some (CF.erase k_157) := by kernel_rfl

def k_30 : CF := ⟨45,
(.seq
(.ops false [] [
o 4 (.mov (.c (.nil 1)))])
(.seq
(.ops false [] [
m 8 0,
o 9 (.len 0 (t 8)),
o 10 (.mks true 4 1 bF (t 9) (t 9)),
m 5 10])
(.seq
(.ops false [] [
m 11 0,
m 12 1,
o 13 (.iad 1 (t 11) (t 12)),
o 14 (.ld none (t 13)),
o 15 (.call (.fn 55) [(t 14)]),
m 6 15])
(.seq
(.block 0
(.loop
(.trim [0, 5, 6]
(.seq
(.seq
(.ops false [] [
m 16 6,
o 17 (.len 0 (t 16)),
o 18 (.bin .gtr (t 17) (.c i0))])
(.cond (t 18)
.skip
(.exit 0)))
(.block 1
(.seq
(.ops false [] [
m 19 6,
m 20 6,
o 21 (.len 0 (t 20)),
o 22 (.bin .sub (t 21) (.c i1)),
o 23 (.iad 1 (t 19) (t 22)),
o 24 (.ld none (t 23)),
m 7 24])
(.seq
(.ops false [] [
m 25 6,
m 26 6,
o 27 (.len 0 (t 26)),
o 28 (.bin .sub (t 27) (.c i1)),
o 29 (.slc 1 (t 25) none (some (t 28))),
m 6 29])
(.seq
(.ops false [] [
m 30 5,
m 31 7,
o 32 (.iad 1 (t 30) (t 31)),
o 33 (.ld none (t 32)),
o 34 (.not (t 33))])
(.cond (t 34)
(.seq
(.ops false [] [
m 35 5,
m 36 7,
o 37 (.iad 1 (t 35) (t 36)),
⟨none,none,.st 1 (t 37) (.c bT)⟩])
(.ops false [] [
m 38 6,
m 39 0,
m 40 7,
o 41 (.iad 1 (t 39) (t 40)),
o 42 (.ld none (t 41)),
o 43 (.app true 3 1 8 (t 38) (t 42)),
m 6 43]))
.skip)))))))))
(.seq
(.ops false [] [
m 44 5,
m 4 44])
.ret))))), [.tmp 4]⟩
theorem ok_30 : compFn Tryz.prog [10, 43] 30 = some (CF.erase k_30) := by kernel_rfl

def k_40 : CF := ⟨26,
(.seq
(.ops false [] [
o 6 (.box (t 0)),
o 7 (.box (t 1)),
o 8 (.box (t 2))])
(.seq
(.ops false [] [
o 10 (.ld none (t 3)),
o 11 (.ld (some 32) (t 6)),
o 12 (.ld (some 33) (t 7)),
o 13 (.ld (some 33) (t 8)),
o 14 (.call (.fn 41) [(t 10), (t 11), (t 12), (t 13)])])
(.cond (t 14)
(.seq
(.ops false [] [
o 15 (.ld (some 33) (t 7)),
o 16 (.ld (some 33) (t 8)),
o 17 (.bsl true 42 33 2 [z, z, z, z, z, z, z, z, z, z, z, z, z, z, z, z, z, z, z, z, z, z, z, z, z, z, z, z, z, z, z, z, i0, z, z, z, z, z, z, z, z, z, z, z, z, z, z, z, z, z, z, z, z, z, z, z, z, z, z, z, z, z, z, z, z, i0] [(0, 33, (t 15)), (33, 33, (t 16))]),
m 9 17])
(.seq
(.ops false [] [
m 18 9,
o 19 (.call (.fn 42) [(t 18), (.c (.clo 24 [] []))])])
(.ops false [] [
o 20 (.ld none (t 4)),
o 21 (.ld (some 33) (t 5)),
m 22 9,
o 23 (.bld [i0, z, z, z, z, z, z, z, z, z, z, z, z, z, z, z, z, z, z, z, z, z, z, z, z, z, z, z, z, z, z, z, z, i0, (.nil 33)] [(0, 1, (.c (.d (.sc (.int .i64 2))))), (1, 33, (t 21)), (34, 1, (t 22))]),
o 24 (.bsl true 59 35 1 [i0, z, z, z, z, z, z, z, z, z, z, z, z, z, z, z, z, z, z, z, z, z, z, z, z, z, z, z, z, z, z, z, z, i0, (.nil 33)] [(0, 35, (t 23))]),
o 25 (.app true 59 35 72 (t 20) (t 24)),
⟨none,none,.st 1 (t 4) (t 25)⟩])))
.skip))), []⟩
theorem ok_40 : compFn Tryz.prog [17, 24, 25] 40 = some (CF.erase k_40) := by kernel_rfl

def k_41 : CF := ⟨53,
(.seq
(.ops false [] [
o 4 (.box (t 0)),
o 5 (.box (t 1)),
o 6 (.box (t 2)),
o 7 (.box (t 3)),
o 8 (.mov (.c bF))])
(.seq
(.seq
(.ops true [0, 0, 2, 6, 14, 31, 63, 127, 255, 511, 1023, 127, 4095, 8191, 16383, 32767, 65535, 131071, 262143, 524287, 65535, 2097151, 4194303] [
o 10 (.ld (some 33) (t 7)),
o 11 (.ld none (t 4)),
o 12 (.nck (t 11)),
o 13 (.fad 1 (t 12)),
o 14 (.ld (some 33) (t 13)),
o 15 (.eqa true [.i, .i, .i, .i, .i, .i, .i, .i, .i, .i, .i, .i, .i, .i, .i, .i, .i, .i, .i, .i, .i, .i, .i, .i, .i, .i, .i, .i, .i, .i, .i, .i, .i] false (t 10) (t 14)),
m 16 15,
⟨(some 17),(some ((some 16),false)),.ld none (t 4)⟩,
⟨(some 18),(some ((some 16),false)),.nck (t 17)⟩,
⟨(some 19),(some ((some 16),false)),.fad 34 (t 18)⟩,
⟨(some 20),(some ((some 16),false)),.ld none (t 19)⟩,
⟨(some 21),(some ((some 16),false)),.ld (some 33) (t 6)⟩,
⟨(some 22),(some ((some 16),false)),.lkp true [.i, .i, .i, .i, .i, .i, .i, .i, .i, .i, .i, .i, .i, .i, .i, .i, .i, .i, .i, .i, .i, .i, .i, .i, .i, .i, .i, .i, .i, .i, .i, .i, .i] bF false (t 20) (t 21)⟩,
⟨(some 23),(some ((some 16),false)),.not (t 22)⟩,
o 24 (.pick (t 16) (.c bT) (t 23)),
m 25 24,
⟨(some 26),(some ((some 25),false)),.ld none (t 4)⟩,
⟨(some 27),(some ((some 25),false)),.nck (t 26)⟩,
⟨(some 28),(some ((some 25),false)),.fad 34 (t 27)⟩,
⟨(some 29),(some ((some 25),false)),.ld none (t 28)⟩,
⟨(some 30),(some ((some 25),false)),.ld (some 33) (t 7)⟩,
⟨(some 31),(some ((some 25),false)),.lkp true [.i, .i, .i, .i, .i, .i, .i, .i, .i, .i, .i, .i, .i, .i, .i, .i, .i, .i, .i, .i, .i, .i, .i, .i, .i, .i, .i, .i, .i, .i, .i, .i, .i] bF false (t 29) (t 30)⟩,
o 32 (.pick (t 25) (.c bT) (t 31))])
(.cond (t 32)
(.seq
(.ops false [] [
o 8 (.mov (.c bF))])
.ret)
.skip))
(.seq
(.ops true [0, 1, 3, 7, 0, 31, 63] [
o 33 (.ld none (t 4)),
o 34 (.nck (t 33)),
o 35 (.fad 0 (t 34)),
o 36 (.ld none (t 35)),
o 37 (.ld (some 33) (t 7)),
o 38 (.call (.fn 73) [(t 36), (t 37)]),
m 9 38])
(.seq
(.seq
(.ops false [] [
m 39 9,
o 40 (.mkf 75 [] [(t 4), (t 5)]),
o 41 (.call (.fn 74) [(t 39), (t 40)])])
(.cond (t 41)
(.seq
(.ops false [] [
o 8 (.mov (.c bF))])
.ret)
.skip))
(.seq
(.ops false [] [
m 42 9,
o 43 (.mkf 77 [] [(t 4), (t 5)]),
o 44 (.call (.fn 74) [(t 42), (t 43)]),
m 45 44,
⟨(some 46),(some ((some 45),true)),.ld none (t 4)⟩,
⟨(some 47),(some ((some 45),true)),.ld (some 33) (t 6)⟩,
⟨(some 48),(some ((some 45),true)),.ld (some 32) (t 5)⟩,
⟨(some 49),(some ((some 45),true)),.mov (t 9)⟩,
⟨(some 50),(some ((some 45),true)),.call (.fn 78) [(t 46), (t 47), (t 48), (t 49)]⟩,
⟨(some 51),(some ((some 45),true)),.not (t 50)⟩,
o 52 (.pick (t 45) (t 51) (.c bF)),
m 8 52])
.ret))))), [.tmp 8]⟩
theorem ok_41 : compFn Tryz.prog [] 41 = some (CF.erase k_41) := by kernel_rfl

def k_64 : CF := ⟨36,
(.seq
(.ops false [] [
o 3 (.box (t 1)),
o 4 (.box (.c (.agg [z, z, z, z, z, z, z, z, z, z, z, z, z, z, z, z, z, z, z, z, z, z, z, z, z, z, z, z, z, z, z, z, i0, i0, z, z, z, z, z, z, z, z, z, z, z, z, z, z, z, z, z, z, z, z, z, z, z, z, z, z, z, z, z, z, z, z, i0, i0, z, z, z, z, z, z, z, z, z, z, z, z, z, z, z, z, z, z, z, z, z, z, z, z, z, z, z, z, z, z, z, z, i0, e0, i0, e0, e0, z, z, z, z, z, z, z, z, z, z, z, z, z, z, z, z, z, z, z, z, z, z, z, z, z, z, z, z, z, z, z, z, i0, z, z, z, z, z, z, z, z, z, z, z, z, z, z, z, z, z, z, z, z, z, z, z, z, z, z, z, z, z, z, z, z, i0, (.nil 33)]))),
o 5 (.mov (.c bF))])
(.seq
(.ops false [] [
m 12 0,
o 13 (.fad 0 (t 3)),
o 14 (.ld (some 32) (t 13)),
o 15 (.call (.fn 97) [(t 12), (t 14)]),
m 11 15,
o 16 (.ext (t 11) 0),
o 17 (.ext (t 11) 1),
o 6 (.box (.c (.agg [e0, e0, i0, (.nil 32), (.nil 139)]))),
⟨none,none,.st 5 (t 6) (t 16)⟩,
m 7 17])
(.seq
(.seq
(.ops false [] [
m 18 7,
o 19 (.not (t 18))])
(.cond (t 19)
(.seq
(.ops false [] [
o 20 (.bld [z, z, z, z, z, z, z, z, z, z, z, z, z, z, z, z, z, z, z, z, z, z, z, z, z, z, z, z, z, z, z, z, i0, i0, z, z, z, z, z, z, z, z, z, z, z, z, z, z, z, z, z, z, z, z, z, z, z, z, z, z, z, z, z, z, z, z, i0, i0, z, z, z, z, z, z, z, z, z, z, z, z, z, z, z, z, z, z, z, z, z, z, z, z, z, z, z, z, z, z, z, z, i0, e0, i0, e0, e0, z, z, z, z, z, z, z, z, z, z, z, z, z, z, z, z, z, z, z, z, z, z, z, z, z, z, z, z, z, z, z, z, i0, z, z, z, z, z, z, z, z, z, z, z, z, z, z, z, z, z, z, z, z, z, z, z, z, z, z, z, z, z, z, z, z, i0, (.nil 33)] []),
⟨none,none,.st 172 (t 4) (t 20)⟩,
o 5 (.mov (.c bF))])
.ret)
.skip))
(.seq
(.ops false [] [
o 22 (.ld (some 5) (t 6)),
o 23 (.call (.fn 66) [(t 22)]),
m 21 23,
o 24 (.ext (t 21) 0),
o 25 (.ext (t 21) 1),
m 8 24,
m 9 25])
(.seq
(.ops false [] [
m 26 8,
o 27 (.mkf 99 [] [(t 3)]),
o 28 (.call (.fn 98) [(t 26), (t 27)]),
m 10 28])
(.seq
(.seq
(.ops false [] [
m 29 10,
o 30 (.bin .lss (t 29) (.c i0))])
(.cond (t 30)
(.seq
(.ops false [] [
o 31 (.bld [z, z, z, z, z, z, z, z, z, z, z, z, z, z, z, z, z, z, z, z, z, z, z, z, z, z, z, z, z, z, z, z, i0, i0, z, z, z, z, z, z, z, z, z, z, z, z, z, z, z, z, z, z, z, z, z, z, z, z, z, z, z, z, z, z, z, z, i0, i0, z, z, z, z, z, z, z, z, z, z, z, z, z, z, z, z, z, z, z, z, z, z, z, z, z, z, z, z, z, z, z, z, i0, e0, i0, e0, e0, z, z, z, z, z, z, z, z, z, z, z, z, z, z, z, z, z, z, z, z, z, z, z, z, z, z, z, z, z, z, z, z, i0, z, z, z, z, z, z, z, z, z, z, z, z, z, z, z, z, z, z, z, z, z, z, z, z, z, z, z, z, z, z, z, z, i0, (.nil 33)] []),
⟨none,none,.st 172 (t 4) (t 31)⟩,
o 5 (.mov (.c bF))])
.ret)
.skip))
(.seq
(.ops false [] [
m 32 8,
m 33 10,
o 34 (.iad 172 (t 32) (t 33)),
o 35 (.ld (some 172) (t 34)),
⟨none,none,.st 172 (t 4) (t 35)⟩,
o 5 (.mov (.c bT))])
.ret))))))), [.cell 4 (some 172), .tmp 5]⟩
theorem ok_64 : compFn Tryz.prog [] 64 = some (CF.erase k_64) := by kernel_rfl

def k_93 : CF := ⟨81,
(.seq
(.ops false [] [
o 2 (.box (t 0)),
o 3 (.box (t 1)),
o 4 (.mov (.c (.nil 34)))])
(.seq
(.ops false [] [
o 13 (.fad 1 (t 3)),
o 14 (.ld (some 33) (t 13)),
o 5 (.box (.c (.agg [z, z, z, z, z, z, z, z, z, z, z, z, z, z, z, z, z, z, z, z, z, z, z, z, z, z, z, z, z, z, z, z, i0]))),
⟨none,none,.st 33 (t 5) (t 14)⟩])
(.seq
(.seq
(.ops false [] [
o 15 (.fad 0 (t 5)),
o 16 (.ld (some 32) (t 15)),
o 17 (.bld [z, z, z, z, z, z, z, z, z, z, z, z, z, z, z, z, z, z, z, z, z, z, z, z, z, z, z, z, z, z, z, z] []),
o 18 (.eqa true [.i, .i, .i, .i, .i, .i, .i, .i, .i, .i, .i, .i, .i, .i, .i, .i, .i, .i, .i, .i, .i, .i, .i, .i, .i, .i, .i, .i, .i, .i, .i, .i] false (t 16) (t 17))])
(.cond (t 18)
(.ops false [] [
o 19 (.ld (some 32) (t 2)),
o 20 (.fad 0 (t 5)),
⟨none,none,.st 32 (t 20) (t 19)⟩])
.skip))
(.seq
(.ops false [] [
o 6 (.box (.c (.nil 34)))])
(.seq
(.ops false [] [
o 21 (.mkf 145 [] [(t 6)]),
m 7 21])
(.seq
(.seq
(.ops false [] [
o 22 (.fad 0 (t 3)),
o 23 (.ld none (t 22)),
o 24 (.bin .neq (t 23) (.c i1)),
m 25 24,
⟨(some 26),(some ((some 25),true)),.fad 0 (t 3)⟩,
⟨(some 27),(some ((some 25),true)),.ld none (t 26)⟩,
⟨(some 28),(some ((some 25),true)),.bin .neq (t 27) (.c (.d (.sc (.int .i64 7))))⟩,
o 29 (.pick (t 25) (t 28) (.c bF))])
(.cond (t 29)
(.ops false [] [
m 30 7,
o 31 (.fad 1 (t 3)),
o 32 (.ld (some 33) (t 31)),
o 33 (.mkf 146 [] [(t 3)]),
o 34 (.call (.val (t 30)) [(t 32), (t 33)])])
.skip))
(.seq
(.seq
(.ops false [] [
o 35 (.fad 0 (t 3)),
o 36 (.ld none (t 35)),
o 37 (.bin .eql (t 36) (.c (.d (.sc (.int .i64 2)))))])
(.cond (t 37)
(.ops false [] [
m 38 7,
o 39 (.fad 35 (t 3)),
o 40 (.ld (some 33) (t 39)),
o 41 (.call (.val (t 38)) [(t 40), (.c (.clo 148 [] []))])])
.skip))
(.seq
(.seq
(.ops false [] [
o 42 (.fad 0 (t 3)),
o 43 (.ld none (t 42)),
o 44 (.bin .eql (t 43) (.c (.d (.sc (.int .i64 5))))),
m 45 44,
⟨(some 46),(some ((some 45),false)),.fad 0 (t 3)⟩,
⟨(some 47),(some ((some 45),false)),.ld none (t 46)⟩,
⟨(some 48),(some ((some 45),false)),.bin .eql (t 47) (.c (.d (.sc (.int .i64 6))))⟩,
o 49 (.pick (t 45) (.c bT) (t 48))])
(.cond (t 49)
(.seq
(.ops false [] [
o 50 (.fad 71 (t 3)),
o 51 (.ld (some 33) (t 50)),
o 52 (.fad 104 (t 3)),
o 53 (.ld (some 33) (t 52)),
o 54 (.bsl false 42 33 2 [z, z, z, z, z, z, z, z, z, z, z, z, z, z, z, z, z, z, z, z, z, z, z, z, z, z, z, z, z, z, z, z, i0, z, z, z, z, z, z, z, z, z, z, z, z, z, z, z, z, z, z, z, z, z, z, z, z, z, z, z, z, z, z, z, z, i0] [(0, 33, (t 51)), (33, 33, (t 53))]),
o 55 (.len 0 (t 54)),
o 56 (.mov (.c i0))])
(.block 0
(.loop
(.trim [56, 3, 5, 7, 54, 6, 55]
(.seq
(.ops false [] [
o 57 (.bin .lss (t 56) (t 55))])
(.seq
(.cond (t 57)
.skip
(.exit 0))
(.seq
(.block 1
(.seq
(.ops false [] [
o 58 (.iad 33 (t 54) (t 56)),
o 59 (.ld (some 33) (t 58)),
o 9 (.box (.c (.agg [z, z, z, z, z, z, z, z, z, z, z, z, z, z, z, z, z, z, z, z, z, z, z, z, z, z, z, z, z, z, z, z, i0]))),
⟨none,none,.st 33 (t 9) (t 59)⟩])
(.ops false [] [
m 60 7,
o 61 (.ld (some 33) (t 9)),
o 62 (.mkf 149 [] [(t 9), (t 3), (t 5)]),
o 63 (.call (.val (t 60)) [(t 61), (t 62)])])))
(.ops false [] [
o 64 (.bin .add (t 56) (.c i1)),
m 56 64]))))))))
.skip))
(.seq
(.ops false [] [
o 65 (.fad 0 (t 3)),
o 66 (.ld none (t 65)),
o 67 (.call (.fn 150) [(t 66)]),
o 10 (.box (.c i0)),
⟨none,none,.st 1 (t 10) (t 67)⟩])
(.seq
(.seq
(.ops false [] [
o 68 (.fad 138 (t 3)),
o 69 (.ld none (t 68)),
o 70 (.len 0 (t 69)),
o 71 (.mov (.c i0))])
(.block 2
(.loop
(.trim [71, 10, 5, 7, 69, 6, 70]
(.seq
(.ops false [] [
o 72 (.bin .lss (t 71) (t 70))])
(.seq
(.cond (t 72)
.skip
(.exit 2))
(.seq
(.block 3
(.seq
(.ops false [] [
o 73 (.iad 33 (t 69) (t 71)),
o 74 (.ld (some 33) (t 73)),
o 12 (.box (.c (.agg [z, z, z, z, z, z, z, z, z, z, z, z, z, z, z, z, z, z, z, z, z, z, z, z, z, z, z, z, z, z, z, z, i0]))),
⟨none,none,.st 33 (t 12) (t 74)⟩])
(.ops false [] [
m 75 7,
o 76 (.ld (some 33) (t 12)),
o 77 (.mkf 151 [] [(t 10), (t 5)]),
o 78 (.call (.val (t 75)) [(t 76), (t 77)])])))
(.ops false [] [
o 79 (.bin .add (t 71) (.c i1)),
m 71 79]))))))))
(.seq
(.ops false [] [
o 80 (.ld none (t 6)),
m 4 80])
.ret))))))))))), [.tmp 4]⟩
theorem ok_93 : compFn Tryz.prog [] 93 = some (CF.erase k_93) := by kernel_rfl

def k_94 : CF := ⟨60,
(.seq
(.ops false [] [
o 3 (.box (t 1)),
o 4 (.box (.c (.agg [z, z, z, z, z, z, z, z, z, z, z, z, z, z, z, z, z, z, z, z, z, z, z, z, z, z, z, z, z, z, z, z, i0, i0, z, z, z, z, z, z, z, z, z, z, z, z, z, z, z, z, z, z, z, z, z, z, z, z, z, z, z, z, z, z, z, z, i0, i0, z, z, z, z, z, z, z, z, z, z, z, z, z, z, z, z, z, z, z, z, z, z, z, z, z, z, z, z, z, z, z, z, i0, e0, i0, e0, e0, z, z, z, z, z, z, z, z, z, z, z, z, z, z, z, z, z, z, z, z, z, z, z, z, z, z, z, z, z, z, z, z, i0, z, z, z, z, z, z, z, z, z, z, z, z, z, z, z, z, z, z, z, z, z, z, z, z, z, z, z, z, z, z, z, z, i0, (.nil 33)]))),
o 5 (.mov (.c bF))])
(.seq
(.ops true [0, 1, 3, 7, 0, 16, 63, 127, 255, 255, 511, 2047] [
m 11 0,
o 12 (.nck (t 11)),
o 13 (.fad 1 (t 12)),
o 14 (.ld none (t 13)),
o 15 (.fad 0 (t 3)),
o 16 (.ld (some 32) (t 15)),
o 17 (.lkp true [.i, .i, .i, .i, .i, .i, .i, .i, .i, .i, .i, .i, .i, .i, .i, .i, .i, .i, .i, .i, .i, .i, .i, .i, .i, .i, .i, .i, .i, .i, .i, .i] (.nil 172) true (t 14) (t 16)),
m 10 17,
o 18 (.ext (t 10) 0),
o 19 (.ext (t 10) 1),
m 6 18,
m 7 19])
(.seq
(.seq
(.ops false [] [
m 20 7,
o 21 (.not (t 20))])
(.cond (t 21)
(.seq
(.ops true [0, 1, 3, 7, 0, 16, 63, 127, 255, 255, 0, 1535, 4095] [
m 23 0,
o 24 (.nck (t 23)),
o 25 (.fad 0 (t 24)),
o 26 (.ld none (t 25)),
o 27 (.fad 0 (t 3)),
o 28 (.ld (some 32) (t 27)),
o 29 (.call (.fn 97) [(t 26), (t 28)]),
m 22 29,
o 30 (.ext (t 22) 0),
o 31 (.ext (t 22) 1),
o 8 (.box (.c (.agg [e0, e0, i0, (.nil 32), (.nil 139)]))),
⟨none,none,.st 5 (t 8) (t 30)⟩,
m 9 31])
(.seq
(.ops false [] [
o 33 (.ld (some 5) (t 8)),
o 34 (.call (.fn 66) [(t 33)]),
m 32 34,
o 35 (.ext (t 32) 0),
o 36 (.ext (t 32) 1),
m 6 35])
(.ops true [0, 1, 3, 7, 0, 16, 0, 127] [
m 37 0,
o 38 (.nck (t 37)),
o 39 (.fad 1 (t 38)),
o 40 (.ld none (t 39)),
o 41 (.fad 0 (t 3)),
o 42 (.ld (some 32) (t 41)),
m 43 6,
⟨none,none,.mup true [.i, .i, .i, .i, .i, .i, .i, .i, .i, .i, .i, .i, .i, .i, .i, .i, .i, .i, .i, .i, .i, .i, .i, .i, .i, .i, .i, .i, .i, .i, .i, .i] (t 40) (t 42) (t 43)⟩])))
.skip))
(.seq
(.seq
(.ops false [] [
o 44 (.fad 32 (t 3)),
o 45 (.ld none (t 44)),
o 46 (.bin .lss (t 45) (.c i0)),
m 47 46,
⟨(some 48),(some ((some 47),false)),.fad 32 (t 3)⟩,
⟨(some 49),(some ((some 47),false)),.ld none (t 48)⟩,
⟨(some 50),(some ((some 47),false)),.mov (t 6)⟩,
⟨(some 51),(some ((some 47),false)),.len 0 (t 50)⟩,
⟨(some 52),(some ((some 47),false)),.bin .geq (t 49) (t 51)⟩,
o 53 (.pick (t 47) (.c bT) (t 52))])
(.cond (t 53)
(.seq
(.ops false [] [
o 54 (.bld [z, z, z, z, z, z, z, z, z, z, z, z, z, z, z, z, z, z, z, z, z, z, z, z, z, z, z, z, z, z, z, z, i0, i0, z, z, z, z, z, z, z, z, z, z, z, z, z, z, z, z, z, z, z, z, z, z, z, z, z, z, z, z, z, z, z, z, i0, i0, z, z, z, z, z, z, z, z, z, z, z, z, z, z, z, z, z, z, z, z, z, z, z, z, z, z, z, z, z, z, z, z, i0, e0, i0, e0, e0, z, z, z, z, z, z, z, z, z, z, z, z, z, z, z, z, z, z, z, z, z, z, z, z, z, z, z, z, z, z, z, z, i0, z, z, z, z, z, z, z, z, z, z, z, z, z, z, z, z, z, z, z, z, z, z, z, z, z, z, z, z, z, z, z, z, i0, (.nil 33)] []),
⟨none,none,.st 172 (t 4) (t 54)⟩,
o 5 (.mov (.c bF))])
.ret)
.skip))
(.seq
(.ops false [] [
m 55 6,
o 56 (.fad 32 (t 3)),
o 57 (.ld none (t 56)),
o 58 (.iad 172 (t 55) (t 57)),
o 59 (.ld (some 172) (t 58)),
⟨none,none,.st 172 (t 4) (t 59)⟩,
o 5 (.mov (.c bT))])
.ret))))), [.cell 4 (some 172), .tmp 5]⟩
theorem ok_94 : compFn Tryz.prog [] 94 = some (CF.erase k_94) := by kernel_rfl

def k_98 : CF := ⟨19,
(.seq
(.ops false [] [
o 4 (.mov (.c i0))])
(.seq
(.seq
(.ops false [] [
m 6 0,
o 7 (.len 0 (t 6)),
o 8 (.mov (.c i0))])
(.block 0
(.loop
(.trim [8, 0, 1, 7]
(.seq
(.ops false [] [
o 9 (.bin .lss (t 8) (t 7))])
(.seq
(.cond (t 9)
.skip
(.exit 0))
(.seq
(.block 1
(.seq
(.ops false [] [
m 10 8,
m 5 10])
(.seq
(.ops false [] [
m 11 1,
m 12 0,
m 13 5,
o 14 (.iad 172 (t 12) (t 13)),
o 15 (.ld (some 172) (t 14)),
o 16 (.call (.val (t 11)) [(t 15)])])
(.cond (t 16)
(.seq
(.ops false [] [
m 17 5,
m 4 17])
.ret)
.skip))))
(.ops false [] [
o 18 (.bin .add (t 8) (.c i1)),
m 8 18]))))))))
(.seq
(.ops false [] [
o 4 (.mov (.c (.d (.sc (.int .i64 (-1))))))])
.ret))), [.tmp 4]⟩
theorem ok_98 : compFn Tryz.prog [] 98 = some (CF.erase k_98) := by kernel_rfl

def k_100 : CF := ⟨40,
(.seq
(.ops false [] [
o 2 (.mov (.c (.d (.sc (.map none)))))])
(.seq
(.ops false [] [
o 8 (.mkm true),
o 3 (.box (.c (.d (.sc (.map none))))),
⟨none,none,.st 1 (t 3) (t 8)⟩])
(.seq
(.ops false [] [
o 9 (.mkm true),
o 4 (.box (.c (.d (.sc (.map none))))),
⟨none,none,.st 1 (t 4) (t 9)⟩])
(.seq
(.seq
(.ops false [] [
m 10 0,
o 11 (.call (.fn 155) [(t 10)])])
(.block 0
(.trim [11, 2, 4, 3]
(.rng 40 (t 11) [12]
(.ops false [] [
o 5 (.box (.c (.agg [z, z, z, z, z, z, z, z, z, z, z, z, z, z, z, z, z, z, z, z, z, z, z, z, z, z, z, z, z, z, z, z, i0, i0, z, z, z, z, z, z, z, z, z, z, z, z, z, z, z, z, z, z, z, z, z, z, z, z, z, z, z, z, z, z, z, z, i0, i0, z, z, z, z, z, z, z, z, z, z, z, z, z, z, z, z, z, z, z, z, z, z, z, z, z, z, z, z, z, z, z, z, i0, e0, i0, e0, e0, z, z, z, z, z, z, z, z, z, z, z, z, z, z, z, z, z, z, z, z, z, z, z, z, z, z, z, z, z, z, z, z, i0, z, z, z, z, z, z, z, z, z, z, z, z, z, z, z, z, z, z, z, z, z, z, z, z, z, z, z, z, z, z, z, z, i0, (.nil 33)]))),
⟨none,none,.st 172 (t 5) (t 12)⟩])
(.block 1
(.seq
(.seq
(.ops false [] [
o 13 (.ld none (t 3)),
o 14 (.fad 0 (t 5)),
o 15 (.ld (some 33) (t 14)),
o 16 (.lkp true [.i, .i, .i, .i, .i, .i, .i, .i, .i, .i, .i, .i, .i, .i, .i, .i, .i, .i, .i, .i, .i, .i, .i, .i, .i, .i, .i, .i, .i, .i, .i, .i, .i] bF false (t 13) (t 15))])
(.cond (t 16)
(.exit 1)
.skip))
(.seq
(.ops false [] [
o 17 (.fad 171 (t 5)),
o 18 (.ld none (t 17)),
o 19 (.len 0 (t 18)),
o 20 (.mov (.c i0))])
(.block 2
(.loop
(.trim [20, 3, 5, 4, 18, 19]
(.seq
(.ops false [] [
o 21 (.bin .lss (t 20) (t 19))])
(.seq
(.cond (t 21)
.skip
(.exit 2))
(.seq
(.block 3
(.seq
(.ops false [] [
o 22 (.iad 33 (t 18) (t 20)),
o 23 (.ld (some 33) (t 22)),
o 7 (.box (.c (.agg [z, z, z, z, z, z, z, z, z, z, z, z, z, z, z, z, z, z, z, z, z, z, z, z, z, z, z, z, z, z, z, z, i0]))),
⟨none,none,.st 33 (t 7) (t 23)⟩])
(.seq
(.ops false [] [
o 24 (.ld none (t 4)),
o 25 (.ld (some 33) (t 7)),
o 27 (.fad 0 (t 5)),
o 28 (.ld (some 33) (t 27)),
o 29 (.bsl false 42 33 1 [z, z, z, z, z, z, z, z, z, z, z, z, z, z, z, z, z, z, z, z, z, z, z, z, z, z, z, z, z, z, z, z, i0] [(0, 33, (t 28))]),
o 30 (.men true [.i, .i, .i, .i, .i, .i, .i, .i, .i, .i, .i, .i, .i, .i, .i, .i, .i, .i, .i, .i, .i, .i, .i, .i, .i, .i, .i, .i, .i, .i, .i, .i, .i] (.nil 33) (t 24) (t 25)),
o 26 (.ext (t 30) 0),
o 31 (.app false 42 33 40 (t 26) (t 29)),
o 32 (.ext (t 30) 1),
⟨none,none,.mst (t 24) (t 32) (t 31)⟩])
(.seq
(.ops false [] [
o 33 (.fad 33 (t 5)),
o 34 (.ld none (t 33)),
o 35 (.bin .eql (t 34) (.c (.d (.sc (.int .i64 7)))))])
(.cond (t 35)
(.ops false [] [
o 36 (.ld none (t 3)),
o 37 (.ld (some 33) (t 7)),
⟨none,none,.mup true [.i, .i, .i, .i, .i, .i, .i, .i, .i, .i, .i, .i, .i, .i, .i, .i, .i, .i, .i, .i, .i, .i, .i, .i, .i, .i, .i, .i, .i, .i, .i, .i, .i] (t 36) (t 37) (.c bT)⟩])
.skip)))))
(.ops false [] [
o 38 (.bin .add (t 20) (.c i1)),
m 20 38]))))))))))))))
(.seq
(.ops false [] [
o 39 (.ld none (t 4)),
m 2 39])
.ret))))), [.tmp 2]⟩
theorem ok_100 : compFn Tryz.prog [] 100 = some (CF.erase k_100) := by kernel_rfl

def k_150 : CF := ⟨12,
(.seq
(.ops false [] [
o 2 (.mov (.c i0))])
(.seq
(.seq
(.ops false [] [
m 3 0])
(.block 0
(.seq
(.ops false [] [
o 5 (.bin .eql (t 3) (.c (.d (.sc (.int .i64 2))))),
m 4 5])
(.cond (t 4)
(.seq
(.ops false [] [
o 2 (.mov (.c (.d (.sc (.int .i64 2)))))])
.ret)
(.seq
(.ops false [] [
o 7 (.bin .eql (t 3) (.c (.d (.sc (.int .i64 3))))),
m 6 7])
(.cond (t 6)
(.seq
(.ops false [] [
o 2 (.mov (.c (.d (.sc (.int .i64 3)))))])
.ret)
(.seq
(.ops false [] [
o 9 (.bin .eql (t 3) (.c (.d (.sc (.int .i64 4))))),
m 8 9])
(.cond (t 8)
(.seq
(.ops false [] [
o 2 (.mov (.c (.d (.sc (.int .i64 4)))))])
.ret)
(.seq
(.ops false [] [
o 11 (.bin .eql (t 3) (.c (.d (.sc (.int .i64 6))))),
m 10 11])
(.cond (t 10)
(.seq
(.ops false [] [
o 2 (.mov (.c (.d (.sc (.int .i64 6)))))])
.ret)
.skip))))))))))
(.seq
(.ops false [] [
o 2 (.mov (.c i0))])
.ret))), [.tmp 2]⟩
theorem ok_150 : compFn Tryz.prog [] 150 = some (CF.erase k_150) := by kernel_rfl

def k_155 : CF := ⟨4,
(.seq
(.ops false [] [
o 1 (.box (t 0)),
o 2 (.mov (.c (.d (.sc .nilFunc))))])
(.seq
(.ops false [] [
o 3 (.mkf 194 [] [(t 1)]),
m 2 3])
.ret)), [.tmp 2]⟩
theorem ok_155 : compFn Tryz.prog [] 155 = some (CF.erase k_155) := by kernel_rfl

def k_194 : CF := ⟨35,
(.seq
(.ops false [] [
o 2 (.box (t 0))])
(.seq
(.ops false [] [
o 11 (.ld none (t 1)),
o 12 (.call (.fn 196) [(t 11)]),
o 13 (.call (.fn 195) [(t 12)])])
(.block 0
(.trim [13, 1, 2]
(.rng 35 (t 13) [14, 15]
(.ops false [] [
o 4 (.box (.c (.agg [z, z, z, z, z, z, z, z, z, z, z, z, z, z, z, z, z, z, z, z, z, z, z, z, z, z, z, z, z, z, z, z]))),
⟨none,none,.st 32 (t 4) (t 15)⟩])
(.block 1
(.seq
(.ops false [] [
o 17 (.ld none (t 1)),
o 18 (.ld (some 32) (t 4)),
o 19 (.call (.fn 97) [(t 17), (t 18)]),
m 16 19,
o 20 (.ext (t 16) 0),
o 21 (.ext (t 16) 1),
o 5 (.box (.c (.agg [e0, e0, i0, (.nil 32), (.nil 139)]))),
⟨none,none,.st 5 (t 5) (t 20)⟩,
m 6 21])
(.seq
(.ops false [] [
o 23 (.ld (some 5) (t 5)),
o 24 (.call (.fn 66) [(t 23)]),
m 22 24,
o 25 (.ext (t 22) 0),
o 26 (.ext (t 22) 1),
m 7 25,
m 8 26])
(.seq
(.ops false [] [
m 27 7,
o 28 (.call (.fn 197) [(t 27)])])
(.block 2
(.trim [28, 2]
(.rng 35 (t 28) [29, 30]
(.ops false [] [
o 10 (.box (.c (.agg [z, z, z, z, z, z, z, z, z, z, z, z, z, z, z, z, z, z, z, z, z, z, z, z, z, z, z, z, z, z, z, z, i0, i0, z, z, z, z, z, z, z, z, z, z, z, z, z, z, z, z, z, z, z, z, z, z, z, z, z, z, z, z, z, z, z, z, i0, i0, z, z, z, z, z, z, z, z, z, z, z, z, z, z, z, z, z, z, z, z, z, z, z, z, z, z, z, z, z, z, z, z, i0, e0, i0, e0, e0, z, z, z, z, z, z, z, z, z, z, z, z, z, z, z, z, z, z, z, z, z, z, z, z, z, z, z, z, z, z, z, z, i0, z, z, z, z, z, z, z, z, z, z, z, z, z, z, z, z, z, z, z, z, z, z, z, z, z, z, z, z, z, z, z, z, i0, (.nil 33)]))),
⟨none,none,.st 172 (t 10) (t 30)⟩])
(.block 3
(.seq
(.ops false [] [
o 31 (.ld none (t 2)),
o 32 (.ld (some 172) (t 10)),
o 33 (.call (.val (t 31)) [(t 32)]),
o 34 (.not (t 33))])
(.cond (t 34)
.ret
.skip))))))))))))))), []⟩
theorem ok_194 : compFn Tryz.prog [] 194 = some (CF.erase k_194) := by kernel_rfl

def k_195 : CF := ⟨4,
(.seq
(.ops false [] [
o 1 (.box (t 0)),
o 2 (.mov (.c (.d (.sc .nilFunc))))])
(.seq
(.ops false [] [
o 3 (.mkf 222 [] [(t 1)]),
m 2 3])
.ret)), [.tmp 2]⟩
theorem ok_195 : compFn Tryz.prog [] 195 = some (CF.erase k_195) := by kernel_rfl

def k_196 : CF := ⟨35,
(.seq
(.ops false [] [
o 2 (.mov (.c (.nil 32)))])
(.seq
(.ops false [] [
m 7 0,
o 8 (.call (.fn 167) [(t 7)]),
o 3 (.box (.c (.d (.sc (.map none))))),
⟨none,none,.st 1 (t 3) (t 8)⟩])
(.seq
(.ops false [] [
o 9 (.mkm true),
o 4 (.box (.c (.d (.sc (.map none))))),
⟨none,none,.st 1 (t 4) (t 9)⟩])
(.seq
(.ops false [] [
o 5 (.mov (.c (.nil 32)))])
(.seq
(.seq
(.ops false [] [
m 10 0,
o 11 (.len 0 (t 10)),
o 12 (.mov (.c i0))])
(.block 0
(.loop
(.trim [5, 4, 0, 12, 3, 11]
(.seq
(.ops false [] [
o 13 (.bin .lss (t 12) (t 11))])
(.seq
(.cond (t 13)
.skip
(.exit 0))
(.seq
(.block 1
(.seq
(.ops false [] [
m 14 0,
o 15 (.mkf 223 [] [(t 4), (t 3)]),
o 16 (.call (.fn 153) [(t 14), (t 15)]),
m 6 16])
(.seq
(.seq
(.ops false [] [
m 17 6,
o 18 (.bin .lss (t 17) (.c i0))])
(.cond (t 18)
(.exit 0)
.skip))
(.seq
(.ops true [0, 0, 0, 6, 14, 30, 63] [
o 19 (.ld none (t 4)),
m 20 0,
m 21 6,
o 22 (.iad 37 (t 20) (t 21)),
o 23 (.fad 0 (t 22)),
o 24 (.ld (some 32) (t 23)),
⟨none,none,.mup true [.i, .i, .i, .i, .i, .i, .i, .i, .i, .i, .i, .i, .i, .i, .i, .i, .i, .i, .i, .i, .i, .i, .i, .i, .i, .i, .i, .i, .i, .i, .i, .i] (t 19) (t 24) (.c bT)⟩])
(.ops false [] [
m 25 5,
m 26 0,
m 27 6,
o 28 (.iad 37 (t 26) (t 27)),
o 29 (.fad 0 (t 28)),
o 30 (.ld (some 32) (t 29)),
o 31 (.bsl false 40 32 1 [z, z, z, z, z, z, z, z, z, z, z, z, z, z, z, z, z, z, z, z, z, z, z, z, z, z, z, z, z, z, z, z] [(0, 32, (t 30))]),
o 32 (.app false 40 32 32 (t 25) (t 31)),
m 5 32])))))
(.ops false [] [
o 33 (.bin .add (t 12) (.c i1)),
m 12 33]))))))))
(.seq
(.ops false [] [
m 34 5,
m 2 34])
.ret)))))), [.tmp 2]⟩
theorem ok_196 : compFn Tryz.prog [] 196 = some (CF.erase k_196) := by kernel_rfl

def k_222 : CF := ⟨19,
(.seq
(.ops false [] [
o 4 (.ld none (t 1)),
o 5 (.len 0 (t 4)),
o 6 (.bin .sub (t 5) (.c i1)),
m 3 6])
(.block 0
(.loop
(.trim [3, 1, 0]
(.seq
(.seq
(.ops false [] [
m 7 3,
o 8 (.bin .geq (t 7) (.c i0))])
(.cond (t 8)
.skip
(.exit 0)))
(.seq
(.block 1
(.seq
(.ops false [] [
m 11 0,
m 12 3,
o 13 (.ld none (t 1)),
m 14 3,
o 15 (.iad 32 (t 13) (t 14)),
o 16 (.ld (some 32) (t 15)),
o 17 (.call (.val (t 11)) [(t 12), (t 16)]),
o 18 (.not (t 17))])
(.cond (t 18)
.ret
.skip)))
(.ops false [] [
m 9 3,
o 10 (.bin .sub (t 9) (.c i1)),
m 3 10]))))))), []⟩
theorem ok_222 : compFn Tryz.prog [] 222 = some (CF.erase k_222) := by kernel_rfl

def k_20 : CF := ⟨8,
(.seq
(.ops false [] [
o 2 (.box (t 0)),
o 3 (.mov (.c i0))])
(.seq
(.ops false [] [
o 4 (.fad 0 (t 1)),
o 5 (.ld none (t 4)),
o 6 (.mkf 22 [] [(t 2)]),
o 7 (.call (.fn 21) [(t 5), (t 6)]),
m 3 7])
.ret)), [.tmp 3]⟩
theorem ok_20 : compFn Tryz.prog [] 20 = some (CF.erase k_20) := by kernel_rfl

def k_21 : CF := ⟨19,
(.seq
(.ops false [] [
o 4 (.mov (.c i0))])
(.seq
(.seq
(.ops false [] [
m 6 0,
o 7 (.len 0 (t 6)),
o 8 (.mov (.c i0))])
(.block 0
(.loop
(.trim [8, 0, 1, 7]
(.seq
(.ops false [] [
o 9 (.bin .lss (t 8) (t 7))])
(.seq
(.cond (t 9)
.skip
(.exit 0))
(.seq
(.block 1
(.seq
(.ops false [] [
m 10 8,
m 5 10])
(.seq
(.ops false [] [
m 11 1,
m 12 0,
m 13 5,
o 14 (.iad 35 (t 12) (t 13)),
o 15 (.ld (some 35) (t 14)),
o 16 (.call (.val (t 11)) [(t 15)])])
(.cond (t 16)
(.seq
(.ops false [] [
m 17 5,
m 4 17])
.ret)
.skip))))
(.ops false [] [
o 18 (.bin .add (t 8) (.c i1)),
m 8 18]))))))))
(.seq
(.ops false [] [
o 4 (.mov (.c (.d (.sc (.int .i64 (-1))))))])
.ret))), [.tmp 4]⟩
theorem ok_21 : compFn Tryz.prog [] 21 = some (CF.erase k_21) := by kernel_rfl

def k_32 : CF := ⟨5,
(.seq
(.ops false [] [
o 2 (.box (.c (.agg [z, z, z, z, z, z, z, z, z, z, z, z, z, z, z, z, z, z, z, z, z, z, z, z, z, z, z, z, z, z, z, z, i0])))])
(.seq
(.ops false [] [
m 3 0,
o 4 (.bld [z, z, z, z, z, z, z, z, z, z, z, z, z, z, z, z, z, z, z, z, z, z, z, z, z, z, z, z, z, z, z, z, i0] [(32, 1, (t 3))]),
⟨none,none,.st 33 (t 2) (t 4)⟩])
.ret)), [.cell 2 (some 33)]⟩
theorem ok_32 : compFn Tryz.prog [] 32 = some (CF.erase k_32) := by kernel_rfl

def k_33 : CF := ⟨70,
(.seq
(.ops false [] [
o 3 (.box (t 1)),
o 4 (.mov (.c (.nil 37))),
o 5 (.box (.c (.agg [z, z, z, z, z, z, z, z, z, z, z, z, z, z, z, z, z, z, z, z, z, z, z, z, z, z, z, z, z, z, z, z]))),
o 6 (.mov (.c i0))])
(.seq
(.ops false [] [
o 12 (.ld (some 5) (t 3)),
o 13 (.call (.fn 56) [(t 12)]),
m 11 13,
o 14 (.ext (t 11) 0),
o 15 (.ext (t 11) 1),
o 7 (.box (.c (.agg [z, z, z, z, z, z, z, z, z, z, z, z, z, z, z, z, z, z, z, z, z, z, z, z, z, z, z, z, z, z, z, z]))),
⟨none,none,.st 32 (t 7) (t 14)⟩,
m 8 15])
(.seq
(.seq
(.ops false [] [
m 16 8,
o 17 (.bin .neq (t 16) (.c i0))])
(.cond (t 17)
(.seq
(.ops false [] [
o 18 (.bld [z, z, z, z, z, z, z, z, z, z, z, z, z, z, z, z, z, z, z, z, z, z, z, z, z, z, z, z, z, z, z, z] []),
m 19 8,
o 4 (.mov (.c (.nil 37))),
⟨none,none,.st 32 (t 5) (t 18)⟩,
m 6 19])
.ret)
.skip))
(.seq
(.ops false [] [
m 21 0,
o 22 (.ld (some 32) (t 7)),
o 23 (.call (.fn 57) [(t 21), (t 22)]),
m 20 23,
o 24 (.ext (t 20) 0),
o 25 (.ext (t 20) 1),
m 9 24,
m 10 25])
(.seq
(.block 0
(.seq
(.ops true [0, 1, 3, 3, 15, 31, 63, 3, 255, 511, 1023, 2047] [
m 33 10,
m 34 33,
⟨(some 35),(some ((some 34),true)),.mov (t 0)⟩,
⟨(some 36),(some ((some 34),true)),.mov (t 9)⟩,
⟨(some 37),(some ((some 34),true)),.iad 37 (t 35) (t 36)⟩,
⟨(some 38),(some ((some 34),true)),.fad 32 (t 37)⟩,
⟨(some 39),(some ((some 34),true)),.ld (some 5) (t 38)⟩,
⟨(some 40),(some ((some 34),true)),.ld (some 5) (t 3)⟩,
⟨(some 41),(some ((some 34),true)),.call (.fn 58) [(t 39), (t 40)]⟩,
⟨(some 42),(some ((some 34),true)),.not (t 41)⟩,
o 43 (.pick (t 34) (t 42) (.c bF)),
m 32 43])
(.cond (t 32)
(.ops false [] [
o 8 (.mov (.c (.d (.sc (.int .i64 14)))))])
(.seq
(.ops false [] [
m 45 10,
m 44 45])
(.cond (t 44)
(.ops false [] [
o 8 (.mov (.c (.d (.sc (.int .i64 6)))))])
(.seq
(.ops false [] [
m 47 0,
o 48 (.ld (some 5) (t 3)),
o 49 (.call (.fn 59) [(t 47), (t 48)]),
m 46 49])
(.cond (t 46)
(.ops false [] [
o 8 (.mov (.c (.d (.sc (.int .i64 19)))))])
(.ops true [0, 1, 0, 0, 12, 31, 63] [
m 26 0,
o 27 (.call (.fn 60) [(t 26)]),
o 28 (.ld (some 32) (t 7)),
o 29 (.ld (some 5) (t 3)),
o 30 (.bld [z, z, z, z, z, z, z, z, z, z, z, z, z, z, z, z, z, z, z, z, z, z, z, z, z, z, z, z, z, z, z, z, e0, e0, i0, (.nil 32), (.nil 139)] [(0, 32, (t 28)), (32, 5, (t 29))]),
o 31 (.call (.fn 61) [(t 27), (t 30)]),
m 8 31]))))))))
(.seq
(.seq
(.ops false [] [
m 50 8,
o 51 (.bin .eql (t 50) (.c i0)),
m 52 51,
⟨(some 53),(some ((some 52),true)),.mov (t 0)⟩,
⟨(some 54),(some ((some 52),true)),.len 0 (t 53)⟩,
⟨(some 55),(some ((some 52),true)),.bin .geq (t 54) (.c (.d (.sc (.int .i64 400))))⟩,
o 56 (.pick (t 52) (t 55) (.c bF))])
(.cond (t 56)
(.ops false [] [
o 8 (.mov (.c (.d (.sc (.int .i64 4)))))])
.skip))
(.seq
(.seq
(.ops false [] [
m 57 8,
o 58 (.bin .neq (t 57) (.c i0))])
(.cond (t 58)
(.seq
(.ops false [] [
o 59 (.bld [z, z, z, z, z, z, z, z, z, z, z, z, z, z, z, z, z, z, z, z, z, z, z, z, z, z, z, z, z, z, z, z] []),
m 60 8,
o 4 (.mov (.c (.nil 37))),
⟨none,none,.st 32 (t 5) (t 59)⟩,
m 6 60])
.ret)
.skip))
(.seq
(.ops true [0, 1, 0, 0, 0, 24, 56, 127, 0, 255, 1023, 2047] [
m 61 0,
o 62 (.call (.fn 63) [(t 61)]),
m 63 9,
o 64 (.ld (some 32) (t 7)),
o 65 (.ld (some 5) (t 3)),
o 66 (.bld [z, z, z, z, z, z, z, z, z, z, z, z, z, z, z, z, z, z, z, z, z, z, z, z, z, z, z, z, z, z, z, z, e0, e0, i0, (.nil 32), (.nil 139)] [(0, 32, (t 64)), (32, 5, (t 65))]),
o 67 (.bsl true 98 37 1 [z, z, z, z, z, z, z, z, z, z, z, z, z, z, z, z, z, z, z, z, z, z, z, z, z, z, z, z, z, z, z, z, e0, e0, i0, (.nil 32), (.nil 139)] [(0, 37, (t 66))]),
o 68 (.call (.fn 62) [(t 62), (t 63), (t 67)]),
o 69 (.ld (some 32) (t 7)),
m 4 68,
⟨none,none,.st 32 (t 5) (t 69)⟩,
o 6 (.mov (.c i0))])
.ret)))))))), [.tmp 4, .cell 5 (some 32), .tmp 6]⟩
theorem ok_33 : compFn Tryz.prog [67] 33 = some (CF.erase k_33) := by kernel_rfl

def k_55 : CF := ⟨8,
(.seq
(.ops false [] [
o 2 (.mov (.c (.nil 1)))])
(.seq
(.seq
(.ops false [] [
m 3 0,
o 4 (.isn false (t 3))])
(.cond (t 4)
(.seq
(.ops false [] [
o 2 (.mov (.c (.nil 1)))])
.ret)
.skip))
(.seq
(.ops false [] [
o 5 (.bsl true 3 1 0 [] []),
m 6 0,
o 7 (.app true 3 1 8 (t 5) (t 6)),
m 2 7])
.ret))), [.tmp 2]⟩
theorem ok_55 : compFn Tryz.prog [5, 7] 55 = some (CF.erase k_55) := by kernel_rfl

def k_59 : CF := ⟨9,
(.seq
(.ops false [] [
o 2 (.box (t 0)),
o 3 (.box (t 1)),
o 4 (.mov (.c bF))])
(.seq
(.ops false [] [
o 5 (.ld (some 5) (t 3)),
o 6 (.call (.fn 91) [(t 5)]),
o 7 (.mkf 92 [] [(t 2)]),
o 8 (.call (.fn 90) [(t 6), (t 7)]),
m 4 8])
.ret)), [.tmp 4]⟩
theorem ok_59 : compFn Tryz.prog [] 59 = some (CF.erase k_59) := by kernel_rfl

def k_60 : CF := ⟨7,
(.seq
(.ops false [] [
o 2 (.mov (.c (.d (.sc (.pointer none)))))])
(.seq
(.ops false [] [
m 3 0,
o 4 (.mkm true),
o 5 (.bld [(.nil 37), (.d (.sc (.map none)))] [(0, 1, (t 3)), (1, 1, (t 4))]),
o 6 (.box (t 5)),
m 2 6])
.ret)), [.tmp 2]⟩
theorem ok_60 : compFn Tryz.prog [] 60 = some (CF.erase k_60) := by kernel_rfl

def k_61 : CF := ⟨44,
(.seq
(.ops false [] [
o 3 (.box (t 1)),
o 4 (.mov (.c i0))])
(.seq
(.seq
(.ops false [] [
o 11 (.fad 32 (t 3)),
o 12 (.fad 4 (t 11)),
o 13 (.ld none (t 12)),
o 14 (.len 0 (t 13)),
o 15 (.mov (.c i0))])
(.block 0
(.loop
(.trim [15, 0, 3, 13, 14]
(.seq
(.ops false [] [
o 16 (.bin .lss (t 15) (t 14))])
(.seq
(.cond (t 16)
.skip
(.exit 0))
(.seq
(.block 1
(.seq
(.ops false [] [
o 17 (.iad 139 (t 13) (t 15)),
o 18 (.ld (some 139) (t 17)),
o 6 (.box (.c (.agg [i0, z, z, z, z, z, z, z, z, z, z, z, z, z, z, z, z, z, z, z, z, z, z, z, z, z, z, z, z, z, z, z, z, i0, i0, z, z, z, z, z, z, z, z, z, z, z, z, z, z, z, z, z, z, z, z, z, z, z, z, z, z, z, z, z, z, z, z, i0, e0, i0, e0, z, z, z, z, z, z, z, z, z, z, z, z, z, z, z, z, z, z, z, z, z, z, z, z, z, z, z, z, z, z, z, z, i0, z, z, z, z, z, z, z, z, z, z, z, z, z, z, z, z, z, z, z, z, z, z, z, z, z, z, z, z, z, z, z, z, i0, (.nil 1), (.nil 33)]))),
⟨none,none,.st 139 (t 6) (t 18)⟩])
(.seq
(.ops false [] [
o 19 (.fad 0 (t 3)),
o 20 (.ld (some 32) (t 19)),
o 21 (.ld (some 139) (t 6)),
o 22 (.call (.fn 93) [(t 20), (t 21)]),
o 23 (.len 0 (t 22)),
o 24 (.mov (.c i0))])
(.block 2
(.loop
(.trim [24, 0, 22, 15, 3, 13, 14, 23]
(.seq
(.ops false [] [
o 25 (.bin .lss (t 24) (t 23))])
(.seq
(.cond (t 25)
.skip
(.exit 2))
(.seq
(.block 3
(.seq
(.ops false [] [
o 26 (.iad 34 (t 22) (t 24)),
o 27 (.ld (some 34) (t 26)),
o 8 (.box (.c (.agg [z, z, z, z, z, z, z, z, z, z, z, z, z, z, z, z, z, z, z, z, z, z, z, z, z, z, z, z, z, z, z, z, i0, (.d (.sc .nilFunc))]))),
⟨none,none,.st 34 (t 8) (t 27)⟩])
(.seq
(.ops false [] [
m 29 0,
o 30 (.fad 0 (t 8)),
o 31 (.ld (some 33) (t 30)),
o 32 (.call (.fn 94) [(t 29), (t 31)]),
m 28 32,
o 33 (.ext (t 28) 0),
o 34 (.ext (t 28) 1),
o 9 (.box (.c (.agg [z, z, z, z, z, z, z, z, z, z, z, z, z, z, z, z, z, z, z, z, z, z, z, z, z, z, z, z, z, z, z, z, i0, i0, z, z, z, z, z, z, z, z, z, z, z, z, z, z, z, z, z, z, z, z, z, z, z, z, z, z, z, z, z, z, z, z, i0, i0, z, z, z, z, z, z, z, z, z, z, z, z, z, z, z, z, z, z, z, z, z, z, z, z, z, z, z, z, z, z, z, z, i0, e0, i0, e0, e0, z, z, z, z, z, z, z, z, z, z, z, z, z, z, z, z, z, z, z, z, z, z, z, z, z, z, z, z, z, z, z, z, i0, z, z, z, z, z, z, z, z, z, z, z, z, z, z, z, z, z, z, z, z, z, z, z, z, z, z, z, z, z, z, z, z, i0, (.nil 33)]))),
⟨none,none,.st 172 (t 9) (t 33)⟩,
m 10 34])
(.seq
(.seq
(.ops false [] [
m 35 10,
o 36 (.not (t 35))])
(.cond (t 36)
(.seq
(.ops false [] [
o 4 (.mov (.c (.d (.sc (.int .i64 7)))))])
.ret)
.skip))
(.seq
(.ops false [] [
o 37 (.fad 33 (t 8)),
o 38 (.ld none (t 37)),
o 39 (.ld (some 172) (t 9)),
o 40 (.call (.val (t 38)) [(t 39)]),
o 41 (.not (t 40))])
(.cond (t 41)
(.seq
(.ops false [] [
o 4 (.mov (.c (.d (.sc (.int .i64 8)))))])
.ret)
.skip))))))
(.ops false [] [
o 42 (.bin .add (t 24) (.c i1)),
m 24 42]))))))))))
(.ops false [] [
o 43 (.bin .add (t 15) (.c i1)),
m 15 43]))))))))
(.seq
(.ops false [] [
o 4 (.mov (.c i0))])
.ret))), [.tmp 4]⟩
theorem ok_61 : compFn Tryz.prog [] 61 = some (CF.erase k_61) := by kernel_rfl

def k_63 : CF := ⟨8,
(.seq
(.ops false [] [
o 2 (.mov (.c (.nil 37)))])
(.seq
(.seq
(.ops false [] [
m 3 0,
o 4 (.isn false (t 3))])
(.cond (t 4)
(.seq
(.ops false [] [
o 2 (.mov (.c (.nil 37)))])
.ret)
.skip))
(.seq
(.ops false [] [
o 5 (.bsl true 98 37 0 [] []),
m 6 0,
o 7 (.app true 98 37 120 (t 5) (t 6)),
m 2 7])
.ret))), [.tmp 2]⟩
theorem ok_63 : compFn Tryz.prog [5, 7] 63 = some (CF.erase k_63) := by kernel_rfl

def k_65 : CF := ⟨29,
(.seq
(.ops false [] [
o 2 (.mov (.c (.nil 33)))])
(.seq
(.ops false [] [
m 7 0,
o 8 (.call (.fn 100) [(t 7)]),
m 3 8])
(.seq
(.ops false [] [
o 4 (.mov (.c (.nil 33)))])
(.seq
(.seq
(.ops false [] [
m 9 0,
o 10 (.call (.fn 36) [(t 9)]),
o 11 (.len 0 (t 10)),
o 12 (.mov (.c i0))])
(.block 0
(.loop
(.trim [12, 4, 3, 10, 11]
(.seq
(.ops false [] [
o 13 (.bin .lss (t 12) (t 11))])
(.seq
(.cond (t 13)
.skip
(.exit 0))
(.seq
(.block 1
(.seq
(.ops false [] [
o 14 (.iad 172 (t 10) (t 12)),
o 15 (.ld (some 172) (t 14)),
o 6 (.box (.c (.agg [z, z, z, z, z, z, z, z, z, z, z, z, z, z, z, z, z, z, z, z, z, z, z, z, z, z, z, z, z, z, z, z, i0, i0, z, z, z, z, z, z, z, z, z, z, z, z, z, z, z, z, z, z, z, z, z, z, z, z, z, z, z, z, z, z, z, z, i0, i0, z, z, z, z, z, z, z, z, z, z, z, z, z, z, z, z, z, z, z, z, z, z, z, z, z, z, z, z, z, z, z, z, i0, e0, i0, e0, e0, z, z, z, z, z, z, z, z, z, z, z, z, z, z, z, z, z, z, z, z, z, z, z, z, z, z, z, z, z, z, z, z, i0, z, z, z, z, z, z, z, z, z, z, z, z, z, z, z, z, z, z, z, z, z, z, z, z, z, z, z, z, z, z, z, z, i0, (.nil 33)]))),
⟨none,none,.st 172 (t 6) (t 15)⟩])
(.seq
(.ops false [] [
m 16 3,
o 17 (.fad 0 (t 6)),
o 18 (.ld (some 33) (t 17)),
o 19 (.lkp true [.i, .i, .i, .i, .i, .i, .i, .i, .i, .i, .i, .i, .i, .i, .i, .i, .i, .i, .i, .i, .i, .i, .i, .i, .i, .i, .i, .i, .i, .i, .i, .i, .i] (.nil 33) false (t 16) (t 18)),
o 20 (.len 0 (t 19)),
o 21 (.bin .eql (t 20) (.c i0))])
(.cond (t 21)
(.ops false [] [
m 22 4,
o 23 (.fad 0 (t 6)),
o 24 (.ld (some 33) (t 23)),
o 25 (.bsl false 42 33 1 [z, z, z, z, z, z, z, z, z, z, z, z, z, z, z, z, z, z, z, z, z, z, z, z, z, z, z, z, z, z, z, z, i0] [(0, 33, (t 24))]),
o 26 (.app false 42 33 40 (t 22) (t 25)),
m 4 26])
.skip))))
(.ops false [] [
o 27 (.bin .add (t 12) (.c i1)),
m 12 27]))))))))
(.seq
(.ops false [] [
m 28 4,
m 2 28])
.ret))))), [.tmp 2]⟩
theorem ok_65 : compFn Tryz.prog [] 65 = some (CF.erase k_65) := by kernel_rfl

def k_74 : CF := ⟨9,
(.seq
(.ops false [] [
o 4 (.mov (.c bF))])
(.seq
(.ops false [] [
m 5 0,
m 6 1,
o 7 (.call (.fn 114) [(t 5), (t 6)]),
o 8 (.bin .geq (t 7) (.c i0)),
m 4 8])
.ret)), [.tmp 4]⟩
theorem ok_74 : compFn Tryz.prog [] 74 = some (CF.erase k_74) := by kernel_rfl

def k_114 : CF := ⟨19,
(.seq
(.ops false [] [
o 4 (.mov (.c i0))])
(.seq
(.seq
(.ops false [] [
m 6 0,
o 7 (.len 0 (t 6)),
o 8 (.mov (.c i0))])
(.block 0
(.loop
(.trim [8, 0, 1, 7]
(.seq
(.ops false [] [
o 9 (.bin .lss (t 8) (t 7))])
(.seq
(.cond (t 9)
.skip
(.exit 0))
(.seq
(.block 1
(.seq
(.ops false [] [
m 10 8,
m 5 10])
(.seq
(.ops false [] [
m 11 1,
m 12 0,
m 13 5,
o 14 (.iad 33 (t 12) (t 13)),
o 15 (.ld (some 33) (t 14)),
o 16 (.call (.val (t 11)) [(t 15)])])
(.cond (t 16)
(.seq
(.ops false [] [
m 17 5,
m 4 17])
.ret)
.skip))))
(.ops false [] [
o 18 (.bin .add (t 8) (.c i1)),
m 8 18]))))))))
(.seq
(.ops false [] [
o 4 (.mov (.c (.d (.sc (.int .i64 (-1))))))])
.ret))), [.tmp 4]⟩
theorem ok_114 : compFn Tryz.prog [] 114 = some (CF.erase k_114) := by kernel_rfl

def k_115 : CF := ⟨18,
(.seq
(.ops false [] [
o 4 (.mov (.c (.nil 32))),
o 5 (.mov (.c i0))])
(.seq
(.ops false [] [
m 9 0,
o 10 (.call (.fn 167) [(t 9)]),
m 11 1,
o 12 (.call (.fn 168) [(t 10), (t 11)]),
m 8 12,
o 13 (.ext (t 8) 0),
o 14 (.ext (t 8) 1),
m 6 13,
m 7 14])
(.seq
(.seq
(.ops false [] [
m 15 7,
o 16 (.not (t 15))])
(.cond (t 16)
(.seq
(.ops false [] [
o 4 (.mov (.c (.nil 32))),
o 5 (.mov (.c (.d (.sc (.int .i64 7)))))])
.ret)
.skip))
(.seq
(.ops false [] [
m 17 6,
m 4 17,
o 5 (.mov (.c i0))])
.ret)))), [.tmp 4, .tmp 5]⟩
theorem ok_115 : compFn Tryz.prog [] 115 = some (CF.erase k_115) := by kernel_rfl

def k_140 : CF := ⟨8,
(.seq
(.ops false [] [
o 2 (.mov (.c (.nil 32)))])
(.seq
(.seq
(.ops false [] [
m 3 0,
o 4 (.isn false (t 3))])
(.cond (t 4)
(.seq
(.ops false [] [
o 2 (.mov (.c (.nil 32)))])
.ret)
.skip))
(.seq
(.ops false [] [
o 5 (.bsl true 40 32 0 [] []),
m 6 0,
o 7 (.app true 40 32 32 (t 5) (t 6)),
m 2 7])
.ret))), [.tmp 2]⟩
theorem ok_140 : compFn Tryz.prog [5, 7] 140 = some (CF.erase k_140) := by kernel_rfl

def k_168 : CF := ⟨33,
(.seq
(.ops false [] [
o 2 (.box (t 0)),
o 4 (.mov (.c (.nil 32))),
o 5 (.mov (.c bF))])
(.seq
(.ops false [] [
o 10 (.mkm true),
o 6 (.box (.c (.d (.sc (.map none))))),
⟨none,none,.st 1 (t 6) (t 10)⟩])
(.seq
(.ops false [] [
o 7 (.box (.c (.nil 32)))])
(.seq
(.ops false [] [
o 11 (.mkf 202 [] [(t 2), (t 6), (t 7)]),
m 8 11])
(.seq
(.seq
(.ops false [] [
m 12 8,
m 13 1,
o 14 (.call (.val (t 12)) [(t 13)]),
o 15 (.not (t 14))])
(.cond (t 15)
(.seq
(.ops false [] [
o 4 (.mov (.c (.nil 32))),
o 5 (.mov (.c bF))])
.ret)
.skip))
(.seq
(.seq
(.ops false [] [
o 9 (.mov (.c i0))])
(.block 0
(.loop
(.trim [9, 7, 2, 8]
(.seq
(.seq
(.ops false [] [
m 16 9,
o 17 (.ld none (t 7)),
o 18 (.len 0 (t 17)),
o 19 (.bin .lss (t 16) (t 18))])
(.cond (t 19)
.skip
(.exit 0)))
(.seq
(.block 1
(.ops true [0, 0, 0, 0, 12, 28, 62, 127] [
m 22 8,
o 23 (.ld none (t 2)),
o 24 (.ld none (t 7)),
m 25 9,
o 26 (.iad 32 (t 24) (t 25)),
o 27 (.ld (some 32) (t 26)),
o 28 (.lkp true [.i, .i, .i, .i, .i, .i, .i, .i, .i, .i, .i, .i, .i, .i, .i, .i, .i, .i, .i, .i, .i, .i, .i, .i, .i, .i, .i, .i, .i, .i, .i, .i] (.nil 32) false (t 23) (t 27)),
o 29 (.call (.val (t 22)) [(t 28)])]))
(.ops false [] [
m 20 9,
o 21 (.bin .add (t 20) (.c i1)),
m 9 21])))))))
(.seq
(.ops false [] [
o 30 (.ld none (t 7)),
o 31 (.call (.fn 143) [(t 30), (.c (.clo 89 [] []))])])
(.seq
(.ops false [] [
o 32 (.ld none (t 7)),
m 4 32,
o 5 (.mov (.c bT))])
.ret)))))))), [.tmp 4, .tmp 5]⟩
theorem ok_168 : compFn Tryz.prog [] 168 = some (CF.erase k_168) := by kernel_rfl

def k_7 : CF := ⟨70,
(.seq
(.ops false [] [
o 1 (.box (t 0)),
o 2 (.mov (.c i0))])
(.seq
(.seq
(.ops false [] [
o 3 (.mov (.c i1))])
(.block 0
(.loop
(.trim [3, 1]
(.seq
(.seq
(.ops false [] [
m 7 3,
o 8 (.fad 0 (t 1)),
o 9 (.ld none (t 8)),
o 10 (.len 0 (t 9)),
o 11 (.bin .lss (t 7) (t 10))])
(.cond (t 11)
.skip
(.exit 0)))
(.seq
(.block 1
(.seq
(.ops true [0, 1, 0, 4, 15, 31, 63, 0, 128, 0, 896, 1920, 3968, 8191, 16383] [
o 14 (.fad 0 (t 1)),
o 15 (.ld none (t 14)),
m 16 3,
o 17 (.bin .sub (t 16) (.c i1)),
o 18 (.iad 35 (t 15) (t 17)),
o 19 (.fad 0 (t 18)),
o 20 (.ld (some 33) (t 19)),
o 21 (.fad 0 (t 1)),
o 22 (.ld none (t 21)),
m 23 3,
o 24 (.iad 35 (t 22) (t 23)),
o 25 (.fad 0 (t 24)),
o 26 (.ld (some 33) (t 25)),
o 27 (.call (.fn 24) [(t 20), (t 26)]),
o 28 (.bin .geq (t 27) (.c i0))])
(.cond (t 28)
(.seq
(.ops false [] [
o 2 (.mov (.c (.d (.sc (.int .i64 9)))))])
.ret)
.skip)))
(.ops false [] [
m 12 3,
o 13 (.bin .add (t 12) (.c i1)),
m 3 13])))))))
(.seq
(.ops false [] [
o 29 (.mkf 25 [] [(t 1)]),
m 4 29])
(.seq
(.seq
(.ops false [] [
o 30 (.fad 1 (t 1)),
o 31 (.ld none (t 30)),
o 32 (.len 0 (t 31)),
o 33 (.mov (.c i0))])
(.block 2
(.loop
(.trim [33, 1, 4, 31, 32]
(.seq
(.ops false [] [
o 34 (.bin .lss (t 33) (t 32))])
(.seq
(.cond (t 34)
.skip
(.exit 2))
(.seq
(.block 3
(.seq
(.ops false [] [
m 35 33,
o 36 (.iad 2 (t 31) (t 33)),
o 37 (.ld (some 2) (t 36)),
o 6 (.box (.c (.agg [i0, i0]))),
m 5 35,
⟨none,none,.st 2 (t 6) (t 37)⟩])
(.block 4
(.seq
(.ops false [] [
m 39 4,
o 40 (.fad 0 (t 6)),
o 41 (.ld none (t 40)),
o 42 (.call (.val (t 39)) [(t 41)]),
m 43 42,
⟨(some 44),(some ((some 43),false)),.mov (t 4)⟩,
⟨(some 45),(some ((some 43),false)),.fad 1 (t 6)⟩,
⟨(some 46),(some ((some 43),false)),.ld none (t 45)⟩,
⟨(some 47),(some ((some 43),false)),.call (.val (t 44)) [(t 46)]⟩,
o 48 (.pick (t 43) (.c bT) (t 47)),
m 38 48])
(.cond (t 38)
(.seq
(.ops false [] [
o 2 (.mov (.c (.d (.sc (.int .i64 2)))))])
.ret)
(.seq
(.ops false [] [
o 50 (.fad 0 (t 6)),
o 51 (.ld none (t 50)),
o 52 (.fad 1 (t 6)),
o 53 (.ld none (t 52)),
o 54 (.bin .eql (t 51) (t 53)),
m 49 54])
(.cond (t 49)
(.seq
(.ops false [] [
o 2 (.mov (.c i1))])
.ret)
(.seq
(.ops true [0, 1, 3, 7, 15, 7, 39, 127, 255, 7, 1023, 2047, 4095, 8191] [
m 56 5,
o 57 (.bin .gtr (t 56) (.c i0)),
m 58 57,
⟨(some 59),(some ((some 58),true)),.fad 1 (t 1)⟩,
⟨(some 60),(some ((some 58),true)),.ld none (t 59)⟩,
⟨(some 61),(some ((some 58),true)),.mov (t 5)⟩,
⟨(some 62),(some ((some 58),true)),.bin .sub (t 61) (.c i1)⟩,
⟨(some 63),(some ((some 58),true)),.iad 2 (t 60) (t 62)⟩,
⟨(some 64),(some ((some 58),true)),.ld (some 2) (t 63)⟩,
⟨(some 65),(some ((some 58),true)),.ld (some 2) (t 6)⟩,
⟨(some 66),(some ((some 58),true)),.call (.fn 26) [(t 64), (t 65)]⟩,
⟨(some 67),(some ((some 58),true)),.bin .geq (t 66) (.c i0)⟩,
o 68 (.pick (t 58) (t 67) (.c bF)),
m 55 68])
(.cond (t 55)
(.seq
(.ops false [] [
o 2 (.mov (.c (.d (.sc (.int .i64 9)))))])
.ret)
.skip)))))))))
(.ops false [] [
o 69 (.bin .add (t 33) (.c i1)),
m 33 69]))))))))
(.seq
(.ops false [] [
o 2 (.mov (.c i0))])
.ret))))), [.tmp 2]⟩
theorem ok_7 : compFn Tryz.prog [] 7 = some (CF.erase k_7) := by kernel_rfl

def k_12 : CF := ⟨50,
(.seq
(.ops false [] [
o 3 (.box (t 0)),
o 6 (.mov (.c bF))])
(.seq
(.seq
(.ops false [] [
m 8 1,
o 9 (.bin .lss (t 8) (.c i0)),
m 10 9,
⟨(some 11),(some ((some 10),false)),.mov (t 2)⟩,
⟨(some 12),(some ((some 10),false)),.bin .lss (t 11) (.c i0)⟩,
o 13 (.pick (t 10) (.c bT) (t 12)),
m 14 13,
⟨(some 15),(some ((some 14),false)),.mov (t 1)⟩,
⟨(some 16),(some ((some 14),false)),.fad 0 (t 3)⟩,
⟨(some 17),(some ((some 14),false)),.ld none (t 16)⟩,
⟨(some 18),(some ((some 14),false)),.len 0 (t 17)⟩,
⟨(some 19),(some ((some 14),false)),.bin .geq (t 15) (t 18)⟩,
o 20 (.pick (t 14) (.c bT) (t 19)),
m 21 20,
⟨(some 22),(some ((some 21),false)),.mov (t 2)⟩,
⟨(some 23),(some ((some 21),false)),.fad 0 (t 3)⟩,
⟨(some 24),(some ((some 21),false)),.ld none (t 23)⟩,
⟨(some 25),(some ((some 21),false)),.len 0 (t 24)⟩,
⟨(some 26),(some ((some 21),false)),.bin .geq (t 22) (t 25)⟩,
o 27 (.pick (t 21) (.c bT) (t 26)),
m 28 27,
⟨(some 29),(some ((some 28),false)),.ld (some 2) (t 3)⟩,
⟨(some 30),(some ((some 28),false)),.call (.fn 7) [(t 29)]⟩,
⟨(some 31),(some ((some 28),false)),.bin .neq (t 30) (.c i0)⟩,
o 32 (.pick (t 28) (.c bT) (t 31))])
(.cond (t 32)
(.seq
(.ops false [] [
o 6 (.mov (.c bF))])
.ret)
.skip))
(.seq
(.ops false [] [
o 33 (.ld (some 2) (t 3)),
o 34 (.call (.fn 29) [(t 33)]),
m 7 34])
(.seq
(.ops false [] [
m 35 7,
m 36 1,
o 37 (.call (.fn 30) [(t 35), (t 36)]),
m 38 2,
o 39 (.iad 1 (t 37) (t 38)),
o 40 (.ld none (t 39)),
m 41 40,
⟨(some 42),(some ((some 41),true)),.mov (t 7)⟩,
⟨(some 43),(some ((some 41),true)),.mov (t 2)⟩,
⟨(some 44),(some ((some 41),true)),.call (.fn 30) [(t 42), (t 43)]⟩,
⟨(some 45),(some ((some 41),true)),.mov (t 1)⟩,
⟨(some 46),(some ((some 41),true)),.iad 1 (t 44) (t 45)⟩,
⟨(some 47),(some ((some 41),true)),.ld none (t 46)⟩,
⟨(some 48),(some ((some 41),true)),.not (t 47)⟩,
o 49 (.pick (t 41) (t 48) (.c bF)),
m 6 49])
.ret)))), [.tmp 6]⟩
theorem ok_12 : compFn Tryz.prog [] 12 = some (CF.erase k_12) := by kernel_rfl

def k_23 : CF := ⟨9,
(.seq
(.ops false [] [
o 3 (.box (t 1)),
o 4 (.mov (.c bF))])
(.seq
(.ops false [] [
m 5 0,
o 6 (.ld (some 33) (t 3)),
o 7 (.call (.fn 50) [(t 5), (t 6)]),
o 8 (.bin .geq (t 7) (.c i0)),
m 4 8])
.ret)), [.tmp 4]⟩
theorem ok_23 : compFn Tryz.prog [] 23 = some (CF.erase k_23) := by kernel_rfl

def k_29 : CF := ⟨40,
(.seq
(.ops false [] [
o 1 (.box (t 0)),
o 2 (.mov (.c (.nil 1)))])
(.seq
(.ops false [] [
o 6 (.fad 0 (t 1)),
o 7 (.ld none (t 6)),
o 8 (.len 0 (t 7)),
o 9 (.mks true 37 24 (.nil 1) (t 8) (t 8)),
m 3 9])
(.seq
(.seq
(.ops false [] [
o 10 (.fad 1 (t 1)),
o 11 (.ld none (t 10)),
o 12 (.len 0 (t 11)),
o 13 (.mov (.c i0))])
(.block 0
(.loop
(.trim [13, 3, 11, 12]
(.seq
(.ops false [] [
o 14 (.bin .lss (t 13) (t 12))])
(.seq
(.cond (t 14)
.skip
(.exit 0))
(.seq
(.block 1
(.seq
(.ops false [] [
o 15 (.iad 2 (t 11) (t 13)),
o 16 (.ld (some 2) (t 15)),
o 5 (.box (.c (.agg [i0, i0]))),
⟨none,none,.st 2 (t 5) (t 16)⟩])
(.seq
(.ops false [] [
o 17 (.fad 0 (t 5)),
o 18 (.ld none (t 17)),
o 19 (.bin .geq (t 18) (.c i0)),
m 20 19,
⟨(some 21),(some ((some 20),true)),.fad 1 (t 5)⟩,
⟨(some 22),(some ((some 20),true)),.ld none (t 21)⟩,
⟨(some 23),(some ((some 20),true)),.bin .geq (t 22) (.c i0)⟩,
o 24 (.pick (t 20) (t 23) (.c bF))])
(.cond (t 24)
(.ops true [0, 0, 2, 0, 0, 16, 56, 120, 0, 256, 768, 2040, 4095, 8191] [
m 25 3,
o 26 (.fad 0 (t 5)),
o 27 (.ld none (t 26)),
m 28 3,
o 29 (.fad 0 (t 5)),
o 30 (.ld none (t 29)),
o 31 (.iad 1 (t 28) (t 30)),
o 32 (.ld none (t 31)),
o 33 (.fad 1 (t 5)),
o 34 (.ld none (t 33)),
o 35 (.bsl true 3 1 1 [i0] [(0, 1, (t 34))]),
o 36 (.app true 3 1 8 (t 32) (t 35)),
o 37 (.iad 1 (t 25) (t 27)),
⟨none,none,.st 1 (t 37) (t 36)⟩])
.skip))))
(.ops false [] [
o 38 (.bin .add (t 13) (.c i1)),
m 13 38]))))))))
(.seq
(.ops false [] [
m 39 3,
m 2 39])
.ret)))), [.tmp 2]⟩
theorem ok_29 : compFn Tryz.prog [9, 35, 36] 29 = some (CF.erase k_29) := by kernel_rfl

def k_34 : CF := ⟨23,
(.seq
(.ops false [] [
o 3 (.box (t 1)),
o 4 (.mov (.c i0))])
(.seq
(.ops false [] [
m 8 0,
o 9 (.ld (some 33) (t 3)),
o 10 (.call (.fn 64) [(t 8), (t 9)]),
m 7 10,
o 11 (.ext (t 7) 0),
o 12 (.ext (t 7) 1),
o 5 (.box (.c (.agg [z, z, z, z, z, z, z, z, z, z, z, z, z, z, z, z, z, z, z, z, z, z, z, z, z, z, z, z, z, z, z, z, i0, i0, z, z, z, z, z, z, z, z, z, z, z, z, z, z, z, z, z, z, z, z, z, z, z, z, z, z, z, z, z, z, z, z, i0, i0, z, z, z, z, z, z, z, z, z, z, z, z, z, z, z, z, z, z, z, z, z, z, z, z, z, z, z, z, z, z, z, z, i0, e0, i0, e0, e0, z, z, z, z, z, z, z, z, z, z, z, z, z, z, z, z, z, z, z, z, z, z, z, z, z, z, z, z, z, z, z, z, i0, z, z, z, z, z, z, z, z, z, z, z, z, z, z, z, z, z, z, z, z, z, z, z, z, z, z, z, z, z, z, z, z, i0, (.nil 33)]))),
⟨none,none,.st 172 (t 5) (t 11)⟩,
m 6 12])
(.seq
(.seq
(.ops false [] [
m 13 6,
o 14 (.not (t 13))])
(.cond (t 14)
(.seq
(.ops false [] [
o 4 (.mov (.c (.d (.sc (.int .i64 7)))))])
.ret)
.skip))
(.seq
(.seq
(.ops false [] [
o 15 (.fad 33 (t 5)),
o 16 (.ld none (t 15)),
o 17 (.bin .neq (t 16) (.c i1)),
m 18 17,
⟨(some 19),(some ((some 18),false)),.fad 67 (t 5)⟩,
⟨(some 20),(some ((some 18),false)),.ld none (t 19)⟩,
⟨(some 21),(some ((some 18),false)),.bin .neq (t 20) (.c i1)⟩,
o 22 (.pick (t 18) (.c bT) (t 21))])
(.cond (t 22)
(.seq
(.ops false [] [
o 4 (.mov (.c (.d (.sc (.int .i64 8)))))])
.ret)
.skip))
(.seq
(.ops false [] [
o 4 (.mov (.c i0))])
.ret))))), [.tmp 4]⟩
theorem ok_34 : compFn Tryz.prog [] 34 = some (CF.erase k_34) := by kernel_rfl

def k_35 : CF := ⟨18,
(.seq
(.ops false [] [
o 2 (.mov (.c (.d (.sc (.map none)))))])
(.seq
(.ops false [] [
o 6 (.mkm true),
m 3 6])
(.seq
(.seq
(.ops false [] [
m 7 0,
o 8 (.call (.fn 65) [(t 7)]),
o 9 (.len 0 (t 8)),
o 10 (.mov (.c i0))])
(.block 0
(.loop
(.trim [10, 3, 8, 9]
(.seq
(.ops false [] [
o 11 (.bin .lss (t 10) (t 9))])
(.seq
(.cond (t 11)
.skip
(.exit 0))
(.seq
(.block 1
(.seq
(.ops false [] [
o 12 (.iad 33 (t 8) (t 10)),
o 13 (.ld (some 33) (t 12)),
o 5 (.box (.c (.agg [z, z, z, z, z, z, z, z, z, z, z, z, z, z, z, z, z, z, z, z, z, z, z, z, z, z, z, z, z, z, z, z, i0]))),
⟨none,none,.st 33 (t 5) (t 13)⟩])
(.ops false [] [
m 14 3,
o 15 (.ld (some 33) (t 5)),
⟨none,none,.mup true [.i, .i, .i, .i, .i, .i, .i, .i, .i, .i, .i, .i, .i, .i, .i, .i, .i, .i, .i, .i, .i, .i, .i, .i, .i, .i, .i, .i, .i, .i, .i, .i, .i] (t 14) (t 15) (.c bT)⟩])))
(.ops false [] [
o 16 (.bin .add (t 10) (.c i1)),
m 10 16]))))))))
(.seq
(.ops false [] [
m 17 3,
m 2 17])
.ret)))), [.tmp 2]⟩
theorem ok_35 : compFn Tryz.prog [] 35 = some (CF.erase k_35) := by kernel_rfl

def k_38 : CF := ⟨61,
(.seq
(.ops false [] [
o 2 (.mov (.c (.nil 2)))])
(.seq
(.seq
(.ops false [] [
m 6 0,
o 7 (.len 0 (t 6)),
o 8 (.bin .lss (t 7) (.c (.d (.sc (.int .i64 2)))))])
(.cond (t 8)
(.seq
(.ops false [] [
m 9 0,
m 2 9])
.ret)
.skip))
(.seq
(.seq
(.ops false [] [
o 3 (.mov (.c i1))])
(.block 0
(.loop
(.trim [0, 3]
(.seq
(.seq
(.ops false [] [
m 10 3,
m 11 0,
o 12 (.len 0 (t 11)),
o 13 (.bin .lss (t 10) (t 12))])
(.cond (t 13)
.skip
(.exit 0)))
(.seq
(.block 1
(.seq
(.ops true [0, 0, 3, 7, 0, 0, 32, 112, 240, 511] [
m 16 0,
m 17 3,
o 18 (.iad 2 (t 16) (t 17)),
o 19 (.ld (some 2) (t 18)),
m 20 0,
m 21 3,
o 22 (.bin .sub (t 21) (.c i1)),
o 23 (.iad 2 (t 20) (t 22)),
o 24 (.ld (some 2) (t 23)),
o 25 (.eqa true [.i, .i] false (t 19) (t 24))])
(.cond (t 25)
(.seq
(.ops false [] [
m 26 0,
m 27 3,
o 28 (.slc 2 (t 26) (some (t 27)) none),
m 4 28])
(.seq
(.seq
(.ops false [] [
o 5 (.mov (.c i1))])
(.block 2
(.loop
(.trim [5, 3, 4, 0]
(.seq
(.seq
(.ops false [] [
m 29 5,
m 30 4,
o 31 (.len 0 (t 30)),
o 32 (.bin .lss (t 29) (t 31))])
(.cond (t 32)
.skip
(.exit 2)))
(.seq
(.block 3
(.seq
(.ops true [0, 0, 3, 7, 0, 0, 32, 112, 240, 511] [
m 35 4,
m 36 5,
o 37 (.iad 2 (t 35) (t 36)),
o 38 (.ld (some 2) (t 37)),
m 39 4,
m 40 5,
o 41 (.bin .sub (t 40) (.c i1)),
o 42 (.iad 2 (t 39) (t 41)),
o 43 (.ld (some 2) (t 42)),
o 44 (.eqa true [.i, .i] true (t 38) (t 43))])
(.cond (t 44)
(.seq
(.ops false [] [
m 45 0,
m 46 3,
m 47 4,
m 48 5,
o 49 (.iad 2 (t 47) (t 48)),
o 50 (.ld (some 2) (t 49)),
o 51 (.iad 2 (t 45) (t 46)),
⟨none,none,.st 2 (t 51) (t 50)⟩])
(.ops false [] [
m 52 3,
o 53 (.bin .add (t 52) (.c i1)),
m 3 53]))
.skip)))
(.ops false [] [
m 33 5,
o 34 (.bin .add (t 33) (.c i1)),
m 5 34])))))))
(.seq
(.ops false [] [
m 54 0,
m 55 3,
o 56 (.slc 2 (t 54) (some (t 55)) none),
⟨none,none,.clr 2 [i0, i0] (t 56)⟩])
(.seq
(.ops false [] [
m 57 0,
m 58 3,
o 59 (.slc 2 (t 57) none (some (t 58))),
m 2 59])
.ret))))
.skip)))
(.ops false [] [
m 14 3,
o 15 (.bin .add (t 14) (.c i1)),
m 3 15])))))))
(.seq
(.ops false [] [
m 60 0,
m 2 60])
.ret)))), [.tmp 2]⟩
theorem ok_38 : compFn Tryz.prog [] 38 = some (CF.erase k_38) := by kernel_rfl

def k_44 : CF := ⟨39,
(.seq
(.ops false [] [
o 2 (.box (t 0)),
o 4 (.mov (.c i0))])
(.seq
(.seq
(.ops false [] [
o 8 (.ld (some 5) (t 2)),
o 9 (.call (.fn 80) [(t 8)]),
o 10 (.bin .neq (t 9) (.c i0)),
m 11 10,
⟨(some 12),(some ((some 11),false)),.mov (t 1)⟩,
⟨(some 13),(some ((some 11),false)),.bin .lss (t 12) (.c i0)⟩,
o 14 (.pick (t 11) (.c bT) (t 13)),
m 15 14,
⟨(some 16),(some ((some 15),false)),.mov (t 1)⟩,
⟨(some 17),(some ((some 15),false)),.fad 4 (t 2)⟩,
⟨(some 18),(some ((some 15),false)),.ld none (t 17)⟩,
⟨(some 19),(some ((some 15),false)),.len 0 (t 18)⟩,
⟨(some 20),(some ((some 15),false)),.bin .geq (t 16) (t 19)⟩,
o 21 (.pick (t 15) (.c bT) (t 20))])
(.cond (t 21)
(.seq
(.ops false [] [
o 4 (.mov (.c i0))])
.ret)
.skip))
(.seq
(.ops false [] [
o 5 (.box (.c i0)),
⟨none,none,.st 1 (t 5) (.c i0)⟩])
(.seq
(.seq
(.ops false [] [
o 22 (.fad 4 (t 2)),
o 23 (.ld none (t 22)),
m 24 1,
o 25 (.slc 139 (t 23) none (some (t 24))),
o 26 (.len 0 (t 25)),
o 27 (.mov (.c i0))])
(.block 0
(.loop
(.trim [5, 27, 4, 25, 26]
(.seq
(.ops false [] [
o 28 (.bin .lss (t 27) (t 26))])
(.seq
(.cond (t 28)
.skip
(.exit 0))
(.seq
(.block 1
(.seq
(.ops false [] [
o 29 (.iad 139 (t 25) (t 27)),
o 30 (.ld (some 139) (t 29)),
o 7 (.box (.c (.agg [i0, z, z, z, z, z, z, z, z, z, z, z, z, z, z, z, z, z, z, z, z, z, z, z, z, z, z, z, z, z, z, z, z, i0, i0, z, z, z, z, z, z, z, z, z, z, z, z, z, z, z, z, z, z, z, z, z, z, z, z, z, z, z, z, z, z, z, z, i0, e0, i0, e0, z, z, z, z, z, z, z, z, z, z, z, z, z, z, z, z, z, z, z, z, z, z, z, z, z, z, z, z, z, z, z, z, i0, z, z, z, z, z, z, z, z, z, z, z, z, z, z, z, z, z, z, z, z, z, z, z, z, z, z, z, z, z, z, z, z, i0, (.nil 1), (.nil 33)]))),
⟨none,none,.st 139 (t 7) (t 30)⟩])
(.seq
(.ops false [] [
o 31 (.ld (some 139) (t 7)),
o 32 (.ld none (t 5)),
o 33 (.call (.fn 81) [(t 31), (t 32)])])
(.block 2
(.trim [33, 26, 25, 4, 27, 5]
(.rng 39 (t 33) [34]
.skip
(.block 3
(.ops false [] [
o 35 (.ld none (t 5)),
o 36 (.bin .add (t 35) (.c i1)),
⟨none,none,.st 1 (t 5) (t 36)⟩]))))))))
(.ops false [] [
o 37 (.bin .add (t 27) (.c i1)),
m 27 37]))))))))
(.seq
(.ops false [] [
o 38 (.ld none (t 5)),
m 4 38])
.ret))))), [.tmp 4]⟩
theorem ok_44 : compFn Tryz.prog [] 44 = some (CF.erase k_44) := by kernel_rfl

def k_50 : CF := ⟨19,
(.seq
(.ops false [] [
o 3 (.box (t 1)),
o 4 (.mov (.c i0))])
(.seq
(.seq
(.ops false [] [
m 6 0,
o 7 (.len 0 (t 6)),
o 8 (.mov (.c i0))])
(.block 0
(.loop
(.trim [8, 0, 3, 7]
(.seq
(.ops false [] [
o 9 (.bin .lss (t 8) (t 7))])
(.seq
(.cond (t 9)
.skip
(.exit 0))
(.seq
(.block 1
(.seq
(.ops false [] [
m 10 8,
m 5 10])
(.seq
(.ops true [0, 0, 0, 6, 14, 31] [
o 11 (.ld (some 33) (t 3)),
m 12 0,
m 13 5,
o 14 (.iad 33 (t 12) (t 13)),
o 15 (.ld (some 33) (t 14)),
o 16 (.eqa true [.i, .i, .i, .i, .i, .i, .i, .i, .i, .i, .i, .i, .i, .i, .i, .i, .i, .i, .i, .i, .i, .i, .i, .i, .i, .i, .i, .i, .i, .i, .i, .i, .i] false (t 11) (t 15))])
(.cond (t 16)
(.seq
(.ops false [] [
m 17 5,
m 4 17])
.ret)
.skip))))
(.ops false [] [
o 18 (.bin .add (t 8) (.c i1)),
m 8 18]))))))))
(.seq
(.ops false [] [
o 4 (.mov (.c (.d (.sc (.int .i64 (-1))))))])
.ret))), [.tmp 4]⟩
theorem ok_50 : compFn Tryz.prog [] 50 = some (CF.erase k_50) := by kernel_rfl

def k_92 : CF := ⟨14,
(.seq
(.ops false [] [
o 2 (.box (t 0)),
o 3 (.mov (.c bF))])
(.seq
(.ops false [] [
o 7 (.ld none (t 1)),
o 8 (.ld (some 32) (t 2)),
o 9 (.call (.fn 57) [(t 7), (t 8)]),
m 6 9,
o 10 (.ext (t 6) 0),
o 11 (.ext (t 6) 1),
m 4 10,
m 5 11])
(.seq
(.ops false [] [
m 12 5,
o 13 (.not (t 12)),
m 3 13])
.ret))), [.tmp 3]⟩
theorem ok_92 : compFn Tryz.prog [] 92 = some (CF.erase k_92) := by kernel_rfl

def k_149 : CF := ⟨21,
(.seq
(.ops false [] [
o 4 (.box (t 0)),
o 5 (.mov (.c bF))])
(.seq
(.ops false [] [
o 6 (.ld (some 33) (t 1)),
o 7 (.fad 1 (t 2)),
o 8 (.ld (some 33) (t 7)),
o 9 (.eqa true [.i, .i, .i, .i, .i, .i, .i, .i, .i, .i, .i, .i, .i, .i, .i, .i, .i, .i, .i, .i, .i, .i, .i, .i, .i, .i, .i, .i, .i, .i, .i, .i, .i] false (t 6) (t 8)),
m 10 9,
⟨(some 11),(some ((some 10),false)),.fad 33 (t 4)⟩,
⟨(some 12),(some ((some 10),false)),.ld none (t 11)⟩,
⟨(some 13),(some ((some 10),false)),.bin .eql (t 12) (.c (.d (.sc (.int .i64 5))))⟩,
⟨(some 14),(some ((some 10),false)),.mov (t 13)⟩,
⟨(some 15),(some ((some 14),true)),.fad 34 (t 4)⟩,
⟨(some 16),(some ((some 14),true)),.ld (some 33) (t 15)⟩,
⟨(some 17),(some ((some 14),true)),.ld (some 33) (t 3)⟩,
⟨(some 18),(some ((some 14),true)),.eqa true [.i, .i, .i, .i, .i, .i, .i, .i, .i, .i, .i, .i, .i, .i, .i, .i, .i, .i, .i, .i, .i, .i, .i, .i, .i, .i, .i, .i, .i, .i, .i, .i, .i] false (t 16) (t 17)⟩,
⟨(some 19),(some ((some 10),false)),.pick (t 14) (t 18) (.c bF)⟩,
o 20 (.pick (t 10) (.c bT) (t 19)),
m 5 20])
.ret)), [.tmp 5]⟩
theorem ok_149 : compFn Tryz.prog [] 149 = some (CF.erase k_149) := by kernel_rfl

def k_6 : CF := ⟨123,
(.seq
(.ops false [] [
o 0 (.mov (.c bF))])
(.seq
(.ops false [] [
o 12 (.call (.fn 17) []),
m 11 12,
o 13 (.ext (t 11) 0),
o 14 (.ext (t 11) 1),
o 2 (.box (.c (.agg [z, z, z, z, z, z, z, z, z, z, z, z, z, z, z, z, z, z, z, z, z, z, z, z, z, z, z, z, z, z, z, z, i0]))),
m 1 13,
⟨none,none,.st 33 (t 2) (t 14)⟩])
(.seq
(.ops false [] [
m 16 1,
o 17 (.ld (some 33) (t 2)),
o 18 (.call (.fn 18) [(t 16), (t 17)]),
m 15 18,
o 19 (.ext (t 15) 0),
o 20 (.ext (t 15) 1),
o 3 (.box (.c (.agg [(.nil 35), (.nil 2)]))),
⟨none,none,.st 2 (t 3) (t 19)⟩,
m 4 20])
(.seq
(.ops false [] [
m 22 1,
o 23 (.ld (some 33) (t 2)),
o 24 (.call (.fn 19) [(t 22), (t 23)]),
m 21 24,
o 25 (.ext (t 21) 0),
o 26 (.ext (t 21) 1),
m 5 25,
m 6 26])
(.seq
(.ops false [] [
o 27 (.mkf 20 [] [(t 3)]),
m 7 27])
(.seq
(.ops false [] [
m 28 7,
⟨(some 29),none,.call (.val (t 28)) [(.c (.d (.sc (.string ⟨#[97]⟩))))]⟩,
m 30 7,
⟨(some 31),none,.call (.val (t 30)) [(.c (.d (.sc (.string ⟨#[98]⟩))))]⟩,
m 32 7,
⟨(some 33),none,.call (.val (t 32)) [(.c (.d (.sc (.string ⟨#[120]⟩))))]⟩,
m 8 29,
m 9 31,
m 10 33])
(.seq
(.seq
(.ops false [] [
m 34 4,
o 35 (.bin .neq (t 34) (.c i0)),
m 36 35,
⟨(some 37),(some ((some 36),false)),.mov (t 6)⟩,
⟨(some 38),(some ((some 36),false)),.bin .neq (t 37) (.c i0)⟩,
o 39 (.pick (t 36) (.c bT) (t 38)),
m 40 39,
⟨(some 41),(some ((some 40),false)),.fad 0 (t 3)⟩,
⟨(some 42),(some ((some 40),false)),.ld none (t 41)⟩,
⟨(some 43),(some ((some 40),false)),.len 0 (t 42)⟩,
⟨(some 44),(some ((some 40),false)),.bin .neq (t 43) (.c (.d (.sc (.int .i64 3))))⟩,
o 45 (.pick (t 40) (.c bT) (t 44)),
m 46 45,
⟨(some 47),(some ((some 46),false)),.mov (t 5)⟩,
⟨(some 48),(some ((some 46),false)),.len 0 (t 47)⟩,
⟨(some 49),(some ((some 46),false)),.bin .neq (t 48) (.c i1)⟩,
o 50 (.pick (t 46) (.c bT) (t 49)),
m 51 50,
⟨(some 52),(some ((some 51),false)),.mov (t 8)⟩,
⟨(some 53),(some ((some 51),false)),.bin .lss (t 52) (.c i0)⟩,
o 54 (.pick (t 51) (.c bT) (t 53)),
m 55 54,
⟨(some 56),(some ((some 55),false)),.mov (t 9)⟩,
⟨(some 57),(some ((some 55),false)),.bin .lss (t 56) (.c i0)⟩,
o 58 (.pick (t 55) (.c bT) (t 57)),
m 59 58,
⟨(some 60),(some ((some 59),false)),.mov (t 10)⟩,
⟨(some 61),(some ((some 59),false)),.bin .lss (t 60) (.c i0)⟩,
o 62 (.pick (t 59) (.c bT) (t 61))])
(.cond (t 62)
(.seq
(.ops false [] [
o 0 (.mov (.c bF))])
.ret)
.skip))
(.seq
(.ops true [0, 0, 0, 7, 15, 31, 31, 31, 255, 511, 1023, 2047, 4095, 2047, 16383, 32767, 65535, 131071, 262143, 524287, 1048575, 524287, 4194303, 8388607, 16777215, 33554431, 67108863, 134217727, 268435455, 536870911, 1073741823, 2147483647, 4294967295, 8589934591, 17179869183, 34359738367, 68719476735, 137438953471, 274877906943, 34359738367, 584115552255, 34359738367, 3882650435583, 8280696946687, 17076789968895, 35184372088831, 70368744177663, 140737488355327, 281474976710655, 562949953421311, 1125899906842623, 2251799813685247, 281474976710655, 4785074604081151, 281474976710655, 31806672368304127, 67835469387268095, 139893063425196031, 288230376151711743, 576460752303423487, 1152921504606846975] [
o 63 (.ld (some 2) (t 3)),
m 64 8,
m 65 10,
o 66 (.call (.fn 12) [(t 63), (t 64), (t 65)]),
m 67 66,
⟨(some 68),(some ((some 67),true)),.ld (some 2) (t 3)⟩,
⟨(some 69),(some ((some 67),true)),.mov (t 10)⟩,
⟨(some 70),(some ((some 67),true)),.mov (t 9)⟩,
⟨(some 71),(some ((some 67),true)),.call (.fn 12) [(t 68), (t 69), (t 70)]⟩,
o 72 (.pick (t 67) (t 71) (.c bF)),
m 73 72,
⟨(some 74),(some ((some 73),true)),.fad 0 (t 3)⟩,
⟨(some 75),(some ((some 73),true)),.ld none (t 74)⟩,
⟨(some 76),(some ((some 73),true)),.mov (t 10)⟩,
⟨(some 77),(some ((some 73),true)),.iad 35 (t 75) (t 76)⟩,
⟨(some 78),(some ((some 73),true)),.fad 34 (t 77)⟩,
⟨(some 79),(some ((some 73),true)),.ld none (t 78)⟩,
o 80 (.pick (t 73) (t 79) (.c bF)),
m 81 80,
⟨(some 82),(some ((some 81),true)),.fad 0 (t 3)⟩,
⟨(some 83),(some ((some 81),true)),.ld none (t 82)⟩,
⟨(some 84),(some ((some 81),true)),.mov (t 9)⟩,
⟨(some 85),(some ((some 81),true)),.iad 35 (t 83) (t 84)⟩,
⟨(some 86),(some ((some 81),true)),.fad 34 (t 85)⟩,
⟨(some 87),(some ((some 81),true)),.ld none (t 86)⟩,
⟨(some 88),(some ((some 81),true)),.not (t 87)⟩,
o 89 (.pick (t 81) (t 88) (.c bF)),
m 90 89,
⟨(some 91),(some ((some 90),true)),.mov (t 5)⟩,
⟨(some 92),(some ((some 90),true)),.iad 35 (t 91) (.c i0)⟩,
⟨(some 93),(some ((some 90),true)),.fad 0 (t 92)⟩,
⟨(some 94),(some ((some 90),true)),.ld none (t 93)⟩,
⟨(some 95),(some ((some 90),true)),.bin .eql (t 94) (.c (.d (.sc (.int .i64 2))))⟩,
o 96 (.pick (t 90) (t 95) (.c bF)),
m 97 96,
⟨(some 98),(some ((some 97),true)),.mov (t 5)⟩,
⟨(some 99),(some ((some 97),true)),.iad 35 (t 98) (.c i0)⟩,
⟨(some 100),(some ((some 97),true)),.fad 34 (t 99)⟩,
⟨(some 101),(some ((some 97),true)),.ld none (t 100)⟩,
⟨(some 102),(some ((some 97),true)),.fad 0 (t 3)⟩,
⟨(some 103),(some ((some 97),true)),.ld none (t 102)⟩,
⟨(some 104),(some ((some 97),true)),.mov (t 10)⟩,
⟨(some 105),(some ((some 97),true)),.iad 35 (t 103) (t 104)⟩,
⟨(some 106),(some ((some 97),true)),.fad 0 (t 105)⟩,
⟨(some 107),(some ((some 97),true)),.ld (some 33) (t 106)⟩,
⟨(some 108),(some ((some 97),true)),.call (.fn 23) [(t 101), (t 107)]⟩,
o 109 (.pick (t 97) (t 108) (.c bF)),
m 110 109,
⟨(some 111),(some ((some 110),true)),.mov (t 5)⟩,
⟨(some 112),(some ((some 110),true)),.iad 35 (t 111) (.c i0)⟩,
⟨(some 113),(some ((some 110),true)),.fad 34 (t 112)⟩,
⟨(some 114),(some ((some 110),true)),.ld none (t 113)⟩,
⟨(some 115),(some ((some 110),true)),.fad 0 (t 3)⟩,
⟨(some 116),(some ((some 110),true)),.ld none (t 115)⟩,
⟨(some 117),(some ((some 110),true)),.mov (t 9)⟩,
⟨(some 118),(some ((some 110),true)),.iad 35 (t 116) (t 117)⟩,
⟨(some 119),(some ((some 110),true)),.fad 0 (t 118)⟩,
⟨(some 120),(some ((some 110),true)),.ld (some 33) (t 119)⟩,
⟨(some 121),(some ((some 110),true)),.call (.fn 23) [(t 114), (t 120)]⟩,
o 122 (.pick (t 110) (t 121) (.c bF)),
m 0 122])
.ret)))))))), [.tmp 0]⟩
theorem ok_6 : compFn Tryz.prog [] 6 = some (CF.erase k_6) := by kernel_rfl

def k_17 : CF := ⟨57,
(.seq
(.ops false [] [
o 0 (.mov (.c (.nil 37))),
o 1 (.box (.c (.agg [z, z, z, z, z, z, z, z, z, z, z, z, z, z, z, z, z, z, z, z, z, z, z, z, z, z, z, z, z, z, z, z, i0])))])
(.seq
(.ops false [] [
o 2 (.mov (.c (.clo 32 [] [])))])
(.seq
(.ops false [] [
o 10 (.bld [i0, z, z, z, z, z, z, z, z, z, z, z, z, z, z, z, z, z, z, z, z, z, z, z, z, z, z, z, z, z, z, z, z, i0, i0, z, z, z, z, z, z, z, z, z, z, z, z, z, z, z, z, z, z, z, z, z, z, z, z, z, z, z, z, z, z, z, z, i0, e0, i0, e0, z, z, z, z, z, z, z, z, z, z, z, z, z, z, z, z, z, z, z, z, z, z, z, z, z, z, z, z, z, z, z, z, i0, z, z, z, z, z, z, z, z, z, z, z, z, z, z, z, z, z, z, z, z, z, z, z, z, z, z, z, z, z, z, z, z, i0, (.nil 1), (.nil 33)] [(0, 1, (.c i1)), (34, 1, (.c i1))]),
m 11 2,
o 12 (.call (.val (t 11)) [(.c i0)]),
m 13 2,
o 14 (.call (.val (t 13)) [(.c i0)]),
m 15 2,
o 16 (.call (.val (t 15)) [(.c i0)]),
⟨(some 17),none,.bsl false 9 1 2 [e0, e0] [(0, 1, (.c (.d (.sc (.string ⟨#[97]⟩))))), (1, 1, (.c (.d (.sc (.string ⟨#[98]⟩)))))]⟩,
o 18 (.bld [i0, z, z, z, z, z, z, z, z, z, z, z, z, z, z, z, z, z, z, z, z, z, z, z, z, z, z, z, z, z, z, z, z, i0, i0, z, z, z, z, z, z, z, z, z, z, z, z, z, z, z, z, z, z, z, z, z, z, z, z, z, z, z, z, z, z, z, z, i0, e0, i0, e0, z, z, z, z, z, z, z, z, z, z, z, z, z, z, z, z, z, z, z, z, z, z, z, z, z, z, z, z, z, z, z, z, i0, z, z, z, z, z, z, z, z, z, z, z, z, z, z, z, z, z, z, z, z, z, z, z, z, z, z, z, z, z, z, z, z, i0, (.nil 1), (.nil 33)] [(0, 1, (.c (.d (.sc (.int .i64 5))))), (1, 33, (t 12)), (71, 33, (t 14)), (104, 33, (t 16)), (137, 1, (t 17))]),
o 19 (.bsl false 74 139 2 [i0, z, z, z, z, z, z, z, z, z, z, z, z, z, z, z, z, z, z, z, z, z, z, z, z, z, z, z, z, z, z, z, z, i0, i0, z, z, z, z, z, z, z, z, z, z, z, z, z, z, z, z, z, z, z, z, z, z, z, z, z, z, z, z, z, z, z, z, i0, e0, i0, e0, z, z, z, z, z, z, z, z, z, z, z, z, z, z, z, z, z, z, z, z, z, z, z, z, z, z, z, z, z, z, z, z, i0, z, z, z, z, z, z, z, z, z, z, z, z, z, z, z, z, z, z, z, z, z, z, z, z, z, z, z, z, z, z, z, z, i0, (.nil 1), (.nil 33), i0, z, z, z, z, z, z, z, z, z, z, z, z, z, z, z, z, z, z, z, z, z, z, z, z, z, z, z, z, z, z, z, z, i0, i0, z, z, z, z, z, z, z, z, z, z, z, z, z, z, z, z, z, z, z, z, z, z, z, z, z, z, z, z, z, z, z, z, i0, e0, i0, e0, z, z, z, z, z, z, z, z, z, z, z, z, z, z, z, z, z, z, z, z, z, z, z, z, z, z, z, z, z, z, z, z, i0, z, z, z, z, z, z, z, z, z, z, z, z, z, z, z, z, z, z, z, z, z, z, z, z, z, z, z, z, z, z, z, z, i0, (.nil 1), (.nil 33)] [(0, 139, (t 10)), (139, 139, (t 18))]),
⟨(some 20),none,.bld [e0, e0, i0, (.nil 32), (.nil 139)] [(0, 1, (.c (.d (.sc (.string ⟨#[97, 110, 110]⟩))))), (4, 1, (t 19))]⟩,
o 21 (.call (.fn 33) [(.c (.nil 37)), (t 20)]),
m 9 21,
o 22 (.ext (t 9) 0),
o 23 (.ext (t 9) 1),
o 24 (.ext (t 9) 2),
o 4 (.box (.c (.agg [z, z, z, z, z, z, z, z, z, z, z, z, z, z, z, z, z, z, z, z, z, z, z, z, z, z, z, z, z, z, z, z]))),
m 3 22,
⟨none,none,.st 32 (t 4) (t 23)⟩,
m 5 24])
(.seq
(.ops true [0, 1, 0, 4, 0, 16, 0, 0, 0, 451, 975, 2047] [
o 25 (.ld (some 32) (t 4)),
o 26 (.bld [z, z, z, z, z, z, z, z, z, z, z, z, z, z, z, z, z, z, z, z, z, z, z, z, z, z, z, z, z, z, z, z, i0] [(0, 32, (t 25))]),
o 27 (.ld (some 32) (t 4)),
o 28 (.bld [z, z, z, z, z, z, z, z, z, z, z, z, z, z, z, z, z, z, z, z, z, z, z, z, z, z, z, z, z, z, z, z, i0] [(0, 32, (t 27)), (32, 1, (.c i1))]),
o 29 (.ld (some 32) (t 4)),
o 30 (.bld [z, z, z, z, z, z, z, z, z, z, z, z, z, z, z, z, z, z, z, z, z, z, z, z, z, z, z, z, z, z, z, z, i0] [(0, 32, (t 29)), (32, 1, (.c (.d (.sc (.int .i64 2)))))]),
o 6 (.box (.c (.agg [z, z, z, z, z, z, z, z, z, z, z, z, z, z, z, z, z, z, z, z, z, z, z, z, z, z, z, z, z, z, z, z, i0]))),
o 7 (.box (.c (.agg [z, z, z, z, z, z, z, z, z, z, z, z, z, z, z, z, z, z, z, z, z, z, z, z, z, z, z, z, z, z, z, z, i0]))),
o 8 (.box (.c (.agg [z, z, z, z, z, z, z, z, z, z, z, z, z, z, z, z, z, z, z, z, z, z, z, z, z, z, z, z, z, z, z, z, i0]))),
⟨none,none,.st 33 (t 6) (t 26)⟩,
⟨none,none,.st 33 (t 7) (t 28)⟩,
⟨none,none,.st 33 (t 8) (t 30)⟩])
(.seq
(.ops false [] [
m 32 3,
o 33 (.ld (some 33) (t 6)),
o 34 (.ld (some 33) (t 7)),
o 35 (.ld (some 33) (t 8)),
⟨(some 36),none,.bsl false 9 1 1 [e0] [(0, 1, (.c (.d (.sc (.string ⟨#[120]⟩)))))]⟩,
o 37 (.bld [i0, z, z, z, z, z, z, z, z, z, z, z, z, z, z, z, z, z, z, z, z, z, z, z, z, z, z, z, z, z, z, z, z, i0, i0, z, z, z, z, z, z, z, z, z, z, z, z, z, z, z, z, z, z, z, z, z, z, z, z, z, z, z, z, z, z, z, z, i0, e0, i0, e0, z, z, z, z, z, z, z, z, z, z, z, z, z, z, z, z, z, z, z, z, z, z, z, z, z, z, z, z, z, z, z, z, i0, z, z, z, z, z, z, z, z, z, z, z, z, z, z, z, z, z, z, z, z, z, z, z, z, z, z, z, z, z, z, z, z, i0, (.nil 1), (.nil 33)] [(0, 1, (.c (.d (.sc (.int .i64 5))))), (1, 33, (t 33)), (71, 33, (t 34)), (104, 33, (t 35)), (137, 1, (t 36))]),
o 38 (.bsl false 74 139 1 [i0, z, z, z, z, z, z, z, z, z, z, z, z, z, z, z, z, z, z, z, z, z, z, z, z, z, z, z, z, z, z, z, z, i0, i0, z, z, z, z, z, z, z, z, z, z, z, z, z, z, z, z, z, z, z, z, z, z, z, z, z, z, z, z, z, z, z, z, i0, e0, i0, e0, z, z, z, z, z, z, z, z, z, z, z, z, z, z, z, z, z, z, z, z, z, z, z, z, z, z, z, z, z, z, z, z, i0, z, z, z, z, z, z, z, z, z, z, z, z, z, z, z, z, z, z, z, z, z, z, z, z, z, z, z, z, z, z, z, z, i0, (.nil 1), (.nil 33)] [(0, 139, (t 37))]),
⟨(some 39),none,.bld [e0, e0, i0, (.nil 32), (.nil 139)] [(0, 1, (.c (.d (.sc (.string ⟨#[98, 111, 98]⟩))))), (4, 1, (t 38))]⟩,
o 40 (.call (.fn 33) [(t 32), (t 39)]),
m 31 40,
o 41 (.ext (t 31) 0),
o 42 (.ext (t 31) 1),
o 43 (.ext (t 31) 2),
m 3 41])
(.seq
(.ops false [] [
m 45 3,
o 46 (.ld (some 33) (t 8)),
o 47 (.bsl false 42 33 1 [z, z, z, z, z, z, z, z, z, z, z, z, z, z, z, z, z, z, z, z, z, z, z, z, z, z, z, z, z, z, z, z, i0] [(0, 33, (t 46))]),
o 48 (.bld [i0, z, z, z, z, z, z, z, z, z, z, z, z, z, z, z, z, z, z, z, z, z, z, z, z, z, z, z, z, z, z, z, z, i0, i0, z, z, z, z, z, z, z, z, z, z, z, z, z, z, z, z, z, z, z, z, z, z, z, z, z, z, z, z, z, z, z, z, i0, e0, i0, e0, z, z, z, z, z, z, z, z, z, z, z, z, z, z, z, z, z, z, z, z, z, z, z, z, z, z, z, z, z, z, z, z, i0, z, z, z, z, z, z, z, z, z, z, z, z, z, z, z, z, z, z, z, z, z, z, z, z, z, z, z, z, z, z, z, z, i0, (.nil 1), (.nil 33)] [(0, 1, (.c (.d (.sc (.int .i64 7))))), (138, 1, (t 47))]),
o 49 (.bsl false 74 139 1 [i0, z, z, z, z, z, z, z, z, z, z, z, z, z, z, z, z, z, z, z, z, z, z, z, z, z, z, z, z, z, z, z, z, i0, i0, z, z, z, z, z, z, z, z, z, z, z, z, z, z, z, z, z, z, z, z, z, z, z, z, z, z, z, z, z, z, z, z, i0, e0, i0, e0, z, z, z, z, z, z, z, z, z, z, z, z, z, z, z, z, z, z, z, z, z, z, z, z, z, z, z, z, z, z, z, z, i0, z, z, z, z, z, z, z, z, z, z, z, z, z, z, z, z, z, z, z, z, z, z, z, z, z, z, z, z, z, z, z, z, i0, (.nil 1), (.nil 33)] [(0, 139, (t 48))]),
⟨(some 50),none,.bld [e0, e0, i0, (.nil 32), (.nil 139)] [(0, 1, (.c (.d (.sc (.string ⟨#[99, 105, 100]⟩))))), (4, 1, (t 49))]⟩,
o 51 (.call (.fn 33) [(t 45), (t 50)]),
m 44 51,
o 52 (.ext (t 44) 0),
o 53 (.ext (t 44) 1),
o 54 (.ext (t 44) 2),
m 3 52])
(.seq
(.ops true [0, 0, 1, 7] [
m 55 3,
o 56 (.ld (some 33) (t 6)),
m 0 55,
⟨none,none,.st 33 (t 1) (t 56)⟩])
.ret))))))), [.tmp 0, .cell 1 (some 33)]⟩
theorem ok_17 : compFn Tryz.prog [] 17 = some (CF.erase k_17) := by kernel_rfl

def k_18 : CF := ⟨109,
(.seq
(.ops false [] [
o 3 (.box (t 1)),
o 4 (.box (.c (.agg [(.nil 35), (.nil 2)]))),
o 5 (.mov (.c i0))])
(.seq
(.seq
(.ops false [] [
m 15 0,
o 16 (.ld (some 33) (t 3)),
o 17 (.call (.fn 34) [(t 15), (t 16)]),
m 6 17])
(.seq
(.ops false [] [
m 18 6,
o 19 (.bin .neq (t 18) (.c i0))])
(.cond (t 19)
(.seq
(.ops false [] [
o 20 (.bld [(.nil 35), (.nil 2)] []),
m 21 6,
⟨none,none,.st 2 (t 4) (t 20)⟩,
m 5 21])
.ret)
.skip)))
(.seq
(.ops false [] [
m 22 0,
o 23 (.call (.fn 35) [(t 22)]),
m 7 23])
(.seq
(.ops false [] [
o 24 (.mkm true),
o 25 (.ld (some 33) (t 3)),
⟨none,none,.mup true [.i, .i, .i, .i, .i, .i, .i, .i, .i, .i, .i, .i, .i, .i, .i, .i, .i, .i, .i, .i, .i, .i, .i, .i, .i, .i, .i, .i, .i, .i, .i, .i, .i] (t 24) (t 25) (.c (.d (.sc (.int .i64 (-1)))))⟩,
m 26 24,
m 8 26])
(.seq
(.ops false [] [
o 9 (.box (.c (.agg [(.nil 35), (.nil 2)])))])
(.seq
(.ops false [] [
m 27 0,
o 28 (.call (.fn 36) [(t 27)]),
m 10 28])
(.seq
(.seq
(.ops false [] [
m 29 10,
o 30 (.len 0 (t 29)),
o 31 (.mov (.c i0))])
(.block 0
(.loop
(.trim [31, 9, 7, 8, 3, 29, 10, 4, 30]
(.seq
(.ops false [] [
o 32 (.bin .lss (t 31) (t 30))])
(.seq
(.cond (t 32)
.skip
(.exit 0))
(.seq
(.block 1
(.seq
(.ops false [] [
o 33 (.iad 172 (t 29) (t 31)),
o 34 (.ld (some 172) (t 33)),
o 12 (.box (.c (.agg [z, z, z, z, z, z, z, z, z, z, z, z, z, z, z, z, z, z, z, z, z, z, z, z, z, z, z, z, z, z, z, z, i0, i0, z, z, z, z, z, z, z, z, z, z, z, z, z, z, z, z, z, z, z, z, z, z, z, z, z, z, z, z, z, z, z, z, i0, i0, z, z, z, z, z, z, z, z, z, z, z, z, z, z, z, z, z, z, z, z, z, z, z, z, z, z, z, z, z, z, z, z, i0, e0, i0, e0, e0, z, z, z, z, z, z, z, z, z, z, z, z, z, z, z, z, z, z, z, z, z, z, z, z, z, z, z, z, z, z, z, z, i0, z, z, z, z, z, z, z, z, z, z, z, z, z, z, z, z, z, z, z, z, z, z, z, z, z, z, z, z, z, z, z, z, i0, (.nil 33)]))),
⟨none,none,.st 172 (t 12) (t 34)⟩])
(.seq
(.ops false [] [
o 35 (.fad 33 (t 12)),
o 36 (.ld none (t 35)),
o 37 (.bin .eql (t 36) (.c (.d (.sc (.int .i64 5))))),
m 38 37,
⟨(some 39),(some ((some 38),true)),.fad 34 (t 12)⟩,
⟨(some 40),(some ((some 38),true)),.ld (some 33) (t 39)⟩,
⟨(some 41),(some ((some 38),true)),.ld (some 33) (t 3)⟩,
⟨(some 42),(some ((some 38),true)),.eqa true [.i, .i, .i, .i, .i, .i, .i, .i, .i, .i, .i, .i, .i, .i, .i, .i, .i, .i, .i, .i, .i, .i, .i, .i, .i, .i, .i, .i, .i, .i, .i, .i, .i] false (t 40) (t 41)⟩,
o 43 (.pick (t 38) (t 42) (.c bF))])
(.cond (t 43)
(.seq
(.ops false [] [
m 44 8,
o 45 (.fad 0 (t 12)),
o 46 (.ld (some 33) (t 45)),
o 47 (.fad 0 (t 9)),
o 48 (.ld none (t 47)),
o 49 (.len 0 (t 48)),
⟨none,none,.mup true [.i, .i, .i, .i, .i, .i, .i, .i, .i, .i, .i, .i, .i, .i, .i, .i, .i, .i, .i, .i, .i, .i, .i, .i, .i, .i, .i, .i, .i, .i, .i, .i, .i] (t 44) (t 46) (t 49)⟩])
(.ops true [0, 1, 0, 4, 0, 16, 0, 0, 128, 448, 1020, 2044, 4095, 8191, 16383] [
o 50 (.fad 0 (t 9)),
o 51 (.ld none (t 50)),
o 52 (.fad 0 (t 12)),
o 53 (.ld (some 33) (t 52)),
o 54 (.fad 104 (t 12)),
o 55 (.ld none (t 54)),
m 56 7,
o 57 (.fad 0 (t 12)),
o 58 (.ld (some 33) (t 57)),
o 59 (.lkp true [.i, .i, .i, .i, .i, .i, .i, .i, .i, .i, .i, .i, .i, .i, .i, .i, .i, .i, .i, .i, .i, .i, .i, .i, .i, .i, .i, .i, .i, .i, .i, .i, .i] bF false (t 56) (t 58)),
o 60 (.bld [z, z, z, z, z, z, z, z, z, z, z, z, z, z, z, z, z, z, z, z, z, z, z, z, z, z, z, z, z, z, z, z, i0, e0, bF] [(0, 33, (t 53)), (33, 1, (t 55)), (34, 1, (t 59))]),
o 61 (.bsl false 44 35 1 [z, z, z, z, z, z, z, z, z, z, z, z, z, z, z, z, z, z, z, z, z, z, z, z, z, z, z, z, z, z, z, z, i0, e0, bF] [(0, 35, (t 60))]),
o 62 (.app false 44 35 64 (t 51) (t 61)),
o 63 (.fad 0 (t 9)),
⟨none,none,.st 1 (t 63) (t 62)⟩]))
.skip))))
(.ops false [] [
o 64 (.bin .add (t 31) (.c i1)),
m 31 64]))))))))
(.seq
(.seq
(.ops false [] [
m 65 10,
o 66 (.len 0 (t 65)),
o 67 (.mov (.c i0))])
(.block 2
(.loop
(.trim [67, 9, 8, 7, 3, 65, 4, 66]
(.seq
(.ops false [] [
o 68 (.bin .lss (t 67) (t 66))])
(.seq
(.cond (t 68)
.skip
(.exit 2))
(.seq
(.block 3
(.seq
(.ops false [] [
o 69 (.iad 172 (t 65) (t 67)),
o 70 (.ld (some 172) (t 69)),
o 14 (.box (.c (.agg [z, z, z, z, z, z, z, z, z, z, z, z, z, z, z, z, z, z, z, z, z, z, z, z, z, z, z, z, z, z, z, z, i0, i0, z, z, z, z, z, z, z, z, z, z, z, z, z, z, z, z, z, z, z, z, z, z, z, z, z, z, z, z, z, z, z, z, i0, i0, z, z, z, z, z, z, z, z, z, z, z, z, z, z, z, z, z, z, z, z, z, z, z, z, z, z, z, z, z, z, z, z, i0, e0, i0, e0, e0, z, z, z, z, z, z, z, z, z, z, z, z, z, z, z, z, z, z, z, z, z, z, z, z, z, z, z, z, z, z, z, z, i0, z, z, z, z, z, z, z, z, z, z, z, z, z, z, z, z, z, z, z, z, z, z, z, z, z, z, z, z, z, z, z, z, i0, (.nil 33)]))),
⟨none,none,.st 172 (t 14) (t 70)⟩])
(.seq
(.ops false [] [
o 71 (.fad 33 (t 14)),
o 72 (.ld none (t 71)),
o 73 (.bin .eql (t 72) (.c (.d (.sc (.int .i64 6))))),
m 74 73,
⟨(some 75),(some ((some 74),true)),.fad 34 (t 14)⟩,
⟨(some 76),(some ((some 74),true)),.ld (some 33) (t 75)⟩,
⟨(some 77),(some ((some 74),true)),.ld (some 33) (t 3)⟩,
⟨(some 78),(some ((some 74),true)),.eqa true [.i, .i, .i, .i, .i, .i, .i, .i, .i, .i, .i, .i, .i, .i, .i, .i, .i, .i, .i, .i, .i, .i, .i, .i, .i, .i, .i, .i, .i, .i, .i, .i, .i] false (t 76) (t 77)⟩,
o 79 (.pick (t 74) (t 78) (.c bF)),
m 80 79,
⟨(some 81),(some ((some 80),true)),.mov (t 7)⟩,
⟨(some 82),(some ((some 80),true)),.fad 0 (t 14)⟩,
⟨(some 83),(some ((some 80),true)),.ld (some 33) (t 82)⟩,
⟨(some 84),(some ((some 80),true)),.lkp true [.i, .i, .i, .i, .i, .i, .i, .i, .i, .i, .i, .i, .i, .i, .i, .i, .i, .i, .i, .i, .i, .i, .i, .i, .i, .i, .i, .i, .i, .i, .i, .i, .i] bF false (t 81) (t 83)⟩,
o 85 (.pick (t 80) (t 84) (.c bF))])
(.cond (t 85)
(.ops true [0, 1, 0, 0, 8, 28, 0, 0, 128, 448, 1020, 2044, 4095, 8191, 16383] [
o 86 (.fad 1 (t 9)),
o 87 (.ld none (t 86)),
m 88 8,
o 89 (.fad 105 (t 14)),
o 90 (.ld (some 33) (t 89)),
o 91 (.lkp true [.i, .i, .i, .i, .i, .i, .i, .i, .i, .i, .i, .i, .i, .i, .i, .i, .i, .i, .i, .i, .i, .i, .i, .i, .i, .i, .i, .i, .i, .i, .i, .i, .i] i0 false (t 88) (t 90)),
m 92 8,
o 93 (.fad 138 (t 14)),
o 94 (.ld (some 33) (t 93)),
o 95 (.lkp true [.i, .i, .i, .i, .i, .i, .i, .i, .i, .i, .i, .i, .i, .i, .i, .i, .i, .i, .i, .i, .i, .i, .i, .i, .i, .i, .i, .i, .i, .i, .i, .i, .i] i0 false (t 92) (t 94)),
o 96 (.bld [i0, i0] [(0, 1, (t 91)), (1, 1, (t 95))]),
o 97 (.bsl true 64 2 1 [i0, i0] [(0, 2, (t 96))]),
o 98 (.app true 64 2 16 (t 87) (t 97)),
o 99 (.fad 1 (t 9)),
⟨none,none,.st 1 (t 99) (t 98)⟩])
.skip))))
(.ops false [] [
o 100 (.bin .add (t 67) (.c i1)),
m 67 100]))))))))
(.seq
(.ops false [] [
o 101 (.fad 1 (t 9)),
o 102 (.ld none (t 101)),
o 103 (.call (.fn 37) [(t 102), (.c (.clo 26 [] []))])])
(.seq
(.ops false [] [
o 104 (.fad 1 (t 9)),
o 105 (.ld none (t 104)),
o 106 (.call (.fn 38) [(t 105)]),
o 107 (.fad 1 (t 9)),
⟨none,none,.st 1 (t 107) (t 106)⟩])
(.seq
(.ops false [] [
o 108 (.ld (some 2) (t 9)),
⟨none,none,.st 2 (t 4) (t 108)⟩,
o 5 (.mov (.c i0))])
.ret))))))))))), [.cell 4 (some 2), .tmp 5]⟩
theorem ok_18 : compFn Tryz.prog [97, 98] 18 = some (CF.erase k_18) := by kernel_rfl

def k_19 : CF := ⟨103,
(.seq
(.ops false [] [
o 3 (.box (t 1)),
o 4 (.mov (.c (.nil 35))),
o 5 (.mov (.c i0))])
(.seq
(.seq
(.ops false [] [
m 16 0,
o 17 (.ld (some 33) (t 3)),
o 18 (.call (.fn 34) [(t 16), (t 17)]),
m 6 18])
(.seq
(.ops false [] [
m 19 6,
o 20 (.bin .neq (t 19) (.c i0))])
(.cond (t 20)
(.seq
(.ops false [] [
m 21 6,
o 4 (.mov (.c (.nil 35))),
m 5 21])
.ret)
.skip)))
(.seq
(.seq
(.ops false [] [
m 22 0,
o 23 (.ld (some 33) (t 3)),
o 24 (.call (.fn 39) [(t 22), (t 23)])])
(.cond (t 24)
(.seq
(.ops false [] [
o 4 (.mov (.c (.nil 35))),
o 5 (.mov (.c i0))])
.ret)
.skip))
(.seq
(.ops true [0, 0, 0, 4, 0, 31, 63, 0, 255] [
m 25 0,
o 26 (.ld (some 33) (t 3)),
m 27 0,
o 28 (.call (.fn 35) [(t 27)]),
o 29 (.mkm true),
o 30 (.bld [(.nil 37), z, z, z, z, z, z, z, z, z, z, z, z, z, z, z, z, z, z, z, z, z, z, z, z, z, z, z, z, z, z, z, z, i0, (.d (.sc (.map none))), (.d (.sc (.map none)))] [(0, 1, (t 25)), (1, 33, (t 26)), (34, 1, (t 28)), (35, 1, (t 29))]),
o 31 (.box (t 30)),
o 7 (.box (.c (.d (.sc (.pointer none))))),
⟨none,none,.st 1 (t 7) (t 31)⟩])
(.seq
(.ops false [] [
o 8 (.box (.c (.nil 35)))])
(.seq
(.ops false [] [
o 32 (.mkf 40 [] [(t 7), (t 8), (t 3)]),
m 9 32])
(.seq
(.seq
(.ops false [] [
m 33 0,
o 34 (.len 0 (t 33)),
o 35 (.mov (.c i0))])
(.block 0
(.loop
(.trim [35, 3, 9, 33, 8, 34]
(.seq
(.ops false [] [
o 36 (.bin .lss (t 35) (t 34))])
(.seq
(.cond (t 36)
.skip
(.exit 0))
(.seq
(.block 1
(.seq
(.ops false [] [
o 37 (.iad 37 (t 33) (t 35)),
o 38 (.ld (some 37) (t 37)),
o 11 (.box (.c (.agg [z, z, z, z, z, z, z, z, z, z, z, z, z, z, z, z, z, z, z, z, z, z, z, z, z, z, z, z, z, z, z, z, e0, e0, i0, (.nil 32), (.nil 139)]))),
⟨none,none,.st 37 (t 11) (t 38)⟩])
(.seq
(.ops false [] [
o 39 (.fad 32 (t 11)),
o 40 (.fad 4 (t 39)),
o 41 (.ld none (t 40)),
o 42 (.len 0 (t 41)),
o 43 (.mov (.c i0))])
(.block 2
(.loop
(.trim [43, 9, 11, 3, 41, 35, 33, 8, 34, 42]
(.seq
(.ops false [] [
o 44 (.bin .lss (t 43) (t 42))])
(.seq
(.cond (t 44)
.skip
(.exit 2))
(.seq
(.block 3
(.seq
(.ops false [] [
m 45 43,
o 46 (.iad 139 (t 41) (t 43)),
o 47 (.ld (some 139) (t 46)),
o 13 (.box (.c (.agg [i0, z, z, z, z, z, z, z, z, z, z, z, z, z, z, z, z, z, z, z, z, z, z, z, z, z, z, z, z, z, z, z, z, i0, i0, z, z, z, z, z, z, z, z, z, z, z, z, z, z, z, z, z, z, z, z, z, z, z, z, z, z, z, z, z, z, z, z, i0, e0, i0, e0, z, z, z, z, z, z, z, z, z, z, z, z, z, z, z, z, z, z, z, z, z, z, z, z, z, z, z, z, z, z, z, z, i0, z, z, z, z, z, z, z, z, z, z, z, z, z, z, z, z, z, z, z, z, z, z, z, z, z, z, z, z, z, z, z, z, i0, (.nil 1), (.nil 33)]))),
m 12 45,
⟨none,none,.st 139 (t 13) (t 47)⟩])
(.seq
(.seq
(.ops true [0, 1, 3, 7, 15, 31, 15, 79, 255, 15, 1023, 2047] [
o 48 (.fad 0 (t 13)),
o 49 (.ld none (t 48)),
o 50 (.bin .neq (t 49) (.c (.d (.sc (.int .i64 5))))),
m 51 50,
⟨(some 52),(some ((some 51),false)),.fad 0 (t 11)⟩,
⟨(some 53),(some ((some 51),false)),.ld (some 32) (t 52)⟩,
⟨(some 54),(some ((some 51),false)),.fad 1 (t 13)⟩,
⟨(some 55),(some ((some 51),false)),.ld (some 33) (t 54)⟩,
⟨(some 56),(some ((some 51),false)),.call (.fn 43) [(t 53), (t 55)]⟩,
⟨(some 57),(some ((some 51),false)),.ld (some 33) (t 3)⟩,
⟨(some 58),(some ((some 51),false)),.eqa true [.i, .i, .i, .i, .i, .i, .i, .i, .i, .i, .i, .i, .i, .i, .i, .i, .i, .i, .i, .i, .i, .i, .i, .i, .i, .i, .i, .i, .i, .i, .i, .i, .i] true (t 56) (t 57)⟩,
o 59 (.pick (t 51) (.c bT) (t 58))])
(.cond (t 59)
(.exit 3)
.skip))
(.seq
(.ops false [] [
o 60 (.fad 32 (t 11)),
o 61 (.ld (some 5) (t 60)),
m 62 12,
o 63 (.call (.fn 44) [(t 61), (t 62)]),
m 14 63])
(.seq
(.ops true [0, 0, 2, 0, 8, 0, 56, 0, 128, 0, 512, 1920, 4095] [
m 64 9,
o 65 (.fad 0 (t 11)),
o 66 (.ld (some 32) (t 65)),
o 67 (.fad 0 (t 11)),
o 68 (.ld (some 32) (t 67)),
m 69 14,
o 70 (.bld [z, z, z, z, z, z, z, z, z, z, z, z, z, z, z, z, z, z, z, z, z, z, z, z, z, z, z, z, z, z, z, z, i0] [(0, 32, (t 68)), (32, 1, (t 69))]),
o 71 (.fad 0 (t 11)),
o 72 (.ld (some 32) (t 71)),
o 73 (.fad 71 (t 13)),
o 74 (.ld (some 33) (t 73)),
o 75 (.call (.fn 43) [(t 72), (t 74)]),
o 76 (.call (.val (t 64)) [(t 66), (t 70), (t 75)])])
(.ops true [0, 0, 2, 0, 8, 0, 0, 64, 192, 480, 992, 2040, 0, 4096, 0, 16384, 61440, 131071] [
m 77 9,
o 78 (.fad 0 (t 11)),
o 79 (.ld (some 32) (t 78)),
o 80 (.fad 0 (t 11)),
o 81 (.ld (some 32) (t 80)),
m 82 14,
o 83 (.fad 137 (t 13)),
o 84 (.ld none (t 83)),
o 85 (.len 0 (t 84)),
o 86 (.bin .add (t 82) (t 85)),
o 87 (.bin .sub (t 86) (.c i1)),
o 88 (.bld [z, z, z, z, z, z, z, z, z, z, z, z, z, z, z, z, z, z, z, z, z, z, z, z, z, z, z, z, z, z, z, z, i0] [(0, 32, (t 81)), (32, 1, (t 87))]),
o 89 (.fad 0 (t 11)),
o 90 (.ld (some 32) (t 89)),
o 91 (.fad 104 (t 13)),
o 92 (.ld (some 33) (t 91)),
o 93 (.call (.fn 43) [(t 90), (t 92)]),
o 94 (.call (.val (t 77)) [(t 79), (t 88), (t 93)])]))))))
(.ops false [] [
o 95 (.bin .add (t 43) (.c i1)),
m 43 95]))))))))))
(.ops false [] [
o 96 (.bin .add (t 35) (.c i1)),
m 35 96]))))))))
(.seq
(.ops false [] [
o 15 (.box (.c (.d (.sc .nilFunc)))),
⟨none,none,.st 1 (t 15) (.c (.clo 45 [] []))⟩])
(.seq
(.ops false [] [
o 97 (.ld none (t 8)),
o 98 (.ld none (t 15)),
o 99 (.call (.fn 47) [(t 97), (t 98)])])
(.seq
(.ops false [] [
o 100 (.ld none (t 8)),
o 101 (.mkf 49 [] [(t 15)]),
o 102 (.call (.fn 48) [(t 100), (t 101)]),
m 4 102,
o 5 (.mov (.c i0))])
.ret)))))))))), [.tmp 4, .tmp 5]⟩
theorem ok_19 : compFn Tryz.prog [] 19 = some (CF.erase k_19) := by kernel_rfl

def k_37 : CF := ⟨14,
(.seq
(.ops false [] [
m 5 0,
o 6 (.len 0 (t 5)),
m 4 6])
(.ops false [] [
m 7 0,
m 8 4,
m 9 4,
o 10 (.cnv .u64 (t 9)),
o 11 (.call (.fn 70) [(t 10)]),
m 12 1,
o 13 (.call (.fn 69) [(t 7), (.c i0), (t 8), (t 11), (t 12)])])), []⟩
theorem ok_37 : compFn Tryz.prog [] 37 = some (CF.erase k_37) := by kernel_rfl

def k_39 : CF := ⟨25,
(.seq
(.ops false [] [
o 3 (.box (t 1)),
o 4 (.mov (.c bF))])
(.seq
(.ops false [] [
m 8 0,
o 9 (.ld (some 33) (t 3)),
o 10 (.call (.fn 64) [(t 8), (t 9)]),
m 7 10,
o 11 (.ext (t 7) 0),
o 12 (.ext (t 7) 1),
o 5 (.box (.c (.agg [z, z, z, z, z, z, z, z, z, z, z, z, z, z, z, z, z, z, z, z, z, z, z, z, z, z, z, z, z, z, z, z, i0, i0, z, z, z, z, z, z, z, z, z, z, z, z, z, z, z, z, z, z, z, z, z, z, z, z, z, z, z, z, z, z, z, z, i0, i0, z, z, z, z, z, z, z, z, z, z, z, z, z, z, z, z, z, z, z, z, z, z, z, z, z, z, z, z, z, z, z, z, i0, e0, i0, e0, e0, z, z, z, z, z, z, z, z, z, z, z, z, z, z, z, z, z, z, z, z, z, z, z, z, z, z, z, z, z, z, z, z, i0, z, z, z, z, z, z, z, z, z, z, z, z, z, z, z, z, z, z, z, z, z, z, z, z, z, z, z, z, z, z, z, z, i0, (.nil 33)]))),
⟨none,none,.st 172 (t 5) (t 11)⟩,
m 6 12])
(.seq
(.ops true [0, 1, 3, 7, 15, 31, 63, 127, 255, 127, 1023, 2047, 4095] [
m 13 6,
m 14 13,
⟨(some 15),(some ((some 14),true)),.fad 33 (t 5)⟩,
⟨(some 16),(some ((some 14),true)),.ld none (t 15)⟩,
⟨(some 17),(some ((some 14),true)),.bin .eql (t 16) (.c i1)⟩,
o 18 (.pick (t 14) (t 17) (.c bF)),
m 19 18,
⟨(some 20),(some ((some 19),true)),.mov (t 0)⟩,
⟨(some 21),(some ((some 19),true)),.call (.fn 71) [(t 20)]⟩,
⟨(some 22),(some ((some 19),true)),.ld (some 33) (t 3)⟩,
⟨(some 23),(some ((some 19),true)),.call (.fn 72) [(t 21), (t 22)]⟩,
o 24 (.pick (t 19) (t 23) (.c bF)),
m 4 24])
.ret))), [.tmp 4]⟩
theorem ok_39 : compFn Tryz.prog [] 39 = some (CF.erase k_39) := by kernel_rfl

def k_47 : CF := ⟨14,
(.seq
(.ops false [] [
m 5 0,
o 6 (.len 0 (t 5)),
m 4 6])
(.ops false [] [
m 7 0,
m 8 4,
m 9 4,
o 10 (.cnv .u64 (t 9)),
o 11 (.call (.fn 70) [(t 10)]),
m 12 1,
o 13 (.call (.fn 82) [(t 7), (.c i0), (t 8), (t 11), (t 12)])])), []⟩
theorem ok_47 : compFn Tryz.prog [] 47 = some (CF.erase k_47) := by kernel_rfl

def k_48 : CF := ⟨66,
(.seq
(.ops false [] [
o 4 (.mov (.c (.nil 35)))])
(.seq
(.seq
(.ops false [] [
m 8 0,
o 9 (.len 0 (t 8)),
o 10 (.bin .lss (t 9) (.c (.d (.sc (.int .i64 2)))))])
(.cond (t 10)
(.seq
(.ops false [] [
m 11 0,
m 4 11])
.ret)
.skip))
(.seq
(.seq
(.ops false [] [
o 5 (.mov (.c i1))])
(.block 0
(.loop
(.trim [1, 0, 5]
(.seq
(.seq
(.ops false [] [
m 12 5,
m 13 0,
o 14 (.len 0 (t 13)),
o 15 (.bin .lss (t 12) (t 14))])
(.cond (t 15)
.skip
(.exit 0)))
(.seq
(.block 1
(.seq
(.ops true [0, 0, 0, 6, 14, 0, 0, 64, 224, 480, 1023] [
m 18 1,
m 19 0,
m 20 5,
o 21 (.iad 35 (t 19) (t 20)),
o 22 (.ld (some 35) (t 21)),
m 23 0,
m 24 5,
o 25 (.bin .sub (t 24) (.c i1)),
o 26 (.iad 35 (t 23) (t 25)),
o 27 (.ld (some 35) (t 26)),
o 28 (.call (.val (t 18)) [(t 22), (t 27)])])
(.cond (t 28)
(.seq
(.ops false [] [
m 29 0,
m 30 5,
o 31 (.slc 35 (t 29) (some (t 30)) none),
m 6 31])
(.seq
(.seq
(.ops false [] [
o 7 (.mov (.c i1))])
(.block 2
(.loop
(.trim [7, 5, 6, 0, 1]
(.seq
(.seq
(.ops false [] [
m 32 7,
m 33 6,
o 34 (.len 0 (t 33)),
o 35 (.bin .lss (t 32) (t 34))])
(.cond (t 35)
.skip
(.exit 2)))
(.seq
(.block 3
(.seq
(.ops true [0, 0, 0, 6, 14, 0, 0, 64, 224, 480, 1023, 2047] [
m 38 1,
m 39 6,
m 40 7,
o 41 (.iad 35 (t 39) (t 40)),
o 42 (.ld (some 35) (t 41)),
m 43 6,
m 44 7,
o 45 (.bin .sub (t 44) (.c i1)),
o 46 (.iad 35 (t 43) (t 45)),
o 47 (.ld (some 35) (t 46)),
o 48 (.call (.val (t 38)) [(t 42), (t 47)]),
o 49 (.not (t 48))])
(.cond (t 49)
(.seq
(.ops false [] [
m 50 0,
m 51 5,
m 52 6,
m 53 7,
o 54 (.iad 35 (t 52) (t 53)),
o 55 (.ld (some 35) (t 54)),
o 56 (.iad 35 (t 50) (t 51)),
⟨none,none,.st 35 (t 56) (t 55)⟩])
(.ops false [] [
m 57 5,
o 58 (.bin .add (t 57) (.c i1)),
m 5 58]))
.skip)))
(.ops false [] [
m 36 7,
o 37 (.bin .add (t 36) (.c i1)),
m 7 37])))))))
(.seq
(.ops false [] [
m 59 0,
m 60 5,
o 61 (.slc 35 (t 59) (some (t 60)) none),
⟨none,none,.clr 35 [i0, z, z, z, z, z, z, z, z, z, z, z, z, z, z, z, z, z, z, z, z, z, z, z, z, z, z, z, z, z, z, z, z, i0, (.nil 33)] (t 61)⟩])
(.seq
(.ops false [] [
m 62 0,
m 63 5,
o 64 (.slc 35 (t 62) none (some (t 63))),
m 4 64])
.ret))))
.skip)))
(.ops false [] [
m 16 5,
o 17 (.bin .add (t 16) (.c i1)),
m 5 17])))))))
(.seq
(.ops false [] [
m 65 0,
m 4 65])
.ret)))), [.tmp 4]⟩
theorem ok_48 : compFn Tryz.prog [] 48 = some (CF.erase k_48) := by kernel_rfl

def k_69 : CF := ⟨148,
(.seq
(.ops false [] [
o 10 (.mov (.c bT))])
(.seq
(.ops false [] [
o 11 (.mov (.c bT))])
(.block 0
(.loop
(.trim [4, 2, 1, 0, 11, 10, 3]
(.block 1
(.seq
(.ops false [] [
m 21 2,
m 22 1,
o 23 (.bin .sub (t 21) (t 22)),
m 12 23])
(.seq
(.seq
(.ops false [] [
m 24 12,
o 25 (.bin .leq (t 24) (.c (.d (.sc (.int .i64 12)))))])
(.cond (t 25)
(.seq
(.ops false [] [
m 26 0,
m 27 1,
m 28 2,
m 29 4,
o 30 (.call (.fn 103) [(t 26), (t 27), (t 28), (t 29)])])
.ret)
.skip))
(.seq
(.seq
(.ops false [] [
m 31 3,
o 32 (.bin .eql (t 31) (.c i0))])
(.cond (t 32)
(.seq
(.ops false [] [
m 33 0,
m 34 1,
m 35 2,
m 36 4,
o 37 (.call (.fn 104) [(t 33), (t 34), (t 35), (t 36)])])
.ret)
.skip))
(.seq
(.seq
(.ops false [] [
m 38 10,
o 39 (.not (t 38))])
(.cond (t 39)
(.seq
(.ops false [] [
m 40 0,
m 41 1,
m 42 2,
m 43 4,
o 44 (.call (.fn 105) [(t 40), (t 41), (t 42), (t 43)])])
(.ops false [] [
m 45 3,
o 46 (.bin .sub (t 45) (.c i1)),
m 3 46]))
.skip))
(.seq
(.ops false [] [
m 48 0,
m 49 1,
m 50 2,
m 51 4,
o 52 (.call (.fn 106) [(t 48), (t 49), (t 50), (t 51)]),
m 47 52,
o 53 (.ext (t 47) 0),
o 54 (.ext (t 47) 1),
m 13 53,
m 14 54])
(.seq
(.seq
(.ops false [] [
m 55 14,
o 56 (.bin .eql (t 55) (.c (.d (.sc (.int .i64 2)))))])
(.cond (t 56)
(.seq
(.ops false [] [
m 57 0,
m 58 1,
m 59 2,
m 60 4,
o 61 (.call (.fn 107) [(t 57), (t 58), (t 59), (t 60)])])
(.seq
(.ops false [] [
m 62 2,
o 63 (.bin .sub (t 62) (.c i1)),
m 64 13,
m 65 1,
o 66 (.bin .sub (t 64) (t 65)),
o 67 (.bin .sub (t 63) (t 66)),
m 13 67])
(.ops false [] [
o 14 (.mov (.c i1))])))
.skip))
(.seq
(.seq
(.ops false [] [
m 68 10,
m 69 68,
⟨(some 70),(some ((some 69),true)),.mov (t 11)⟩,
o 71 (.pick (t 69) (t 70) (.c bF)),
m 72 71,
⟨(some 73),(some ((some 72),true)),.mov (t 14)⟩,
⟨(some 74),(some ((some 72),true)),.bin .eql (t 73) (.c i1)⟩,
o 75 (.pick (t 72) (t 74) (.c bF))])
(.cond (t 75)
(.seq
(.ops false [] [
m 76 0,
m 77 1,
m 78 2,
m 79 4,
o 80 (.call (.fn 108) [(t 76), (t 77), (t 78), (t 79)])])
(.cond (t 80)
.ret
.skip))
.skip))
(.seq
(.seq
(.ops true [0, 1, 3, 7, 7, 7, 39, 119, 247, 7, 7, 1543, 3591, 8191, 16383, 32767, 65535] [
m 81 1,
o 82 (.bin .gtr (t 81) (.c i0)),
m 83 82,
⟨(some 84),(some ((some 83),true)),.mov (t 4)⟩,
⟨(some 85),(some ((some 83),true)),.mov (t 0)⟩,
⟨(some 86),(some ((some 83),true)),.mov (t 1)⟩,
⟨(some 87),(some ((some 83),true)),.bin .sub (t 86) (.c i1)⟩,
⟨(some 88),(some ((some 83),true)),.iad 2 (t 85) (t 87)⟩,
⟨(some 89),(some ((some 83),true)),.ld (some 2) (t 88)⟩,
⟨(some 90),(some ((some 83),true)),.mov (t 0)⟩,
⟨(some 91),(some ((some 83),true)),.mov (t 13)⟩,
⟨(some 92),(some ((some 83),true)),.iad 2 (t 90) (t 91)⟩,
⟨(some 93),(some ((some 83),true)),.ld (some 2) (t 92)⟩,
⟨(some 94),(some ((some 83),true)),.call (.val (t 84)) [(t 89), (t 93)]⟩,
⟨(some 95),(some ((some 83),true)),.bin .lss (t 94) (.c i0)⟩,
⟨(some 96),(some ((some 83),true)),.not (t 95)⟩,
o 97 (.pick (t 83) (t 96) (.c bF))])
(.cond (t 97)
(.seq
(.ops false [] [
m 98 0,
m 99 1,
m 100 2,
m 101 13,
m 102 4,
o 103 (.call (.fn 109) [(t 98), (t 99), (t 100), (t 101), (t 102)]),
m 15 103])
(.seq
(.ops false [] [
m 104 15,
m 1 104])
(.exit 1)))
.skip))
(.seq
(.ops false [] [
m 106 0,
m 107 1,
m 108 2,
m 109 13,
m 110 4,
o 111 (.call (.fn 110) [(t 106), (t 107), (t 108), (t 109), (t 110)]),
m 105 111,
o 112 (.ext (t 105) 0),
o 113 (.ext (t 105) 1),
m 16 112,
m 17 113])
(.seq
(.ops false [] [
m 114 17,
m 11 114])
(.seq
(.ops false [] [
m 115 16,
m 116 1,
o 117 (.bin .sub (t 115) (t 116)),
m 118 2,
m 119 16,
o 120 (.bin .sub (t 118) (t 119)),
m 18 117,
m 19 120])
(.seq
(.ops false [] [
m 121 12,
o 122 (.bin .quo (t 121) (.c (.d (.sc (.int .i64 8))))),
m 20 122])
(.seq
(.ops false [] [
m 123 18,
m 124 19,
o 125 (.bin .lss (t 123) (t 124))])
(.cond (t 125)
(.seq
(.ops false [] [
m 126 18,
m 127 20,
o 128 (.bin .geq (t 126) (t 127)),
m 10 128])
(.seq
(.ops false [] [
m 129 0,
m 130 1,
m 131 16,
m 132 3,
m 133 4,
o 134 (.call (.fn 69) [(t 129), (t 130), (t 131), (t 132), (t 133)])])
(.ops false [] [
m 135 16,
o 136 (.bin .add (t 135) (.c i1)),
m 1 136])))
(.seq
(.ops false [] [
m 137 19,
m 138 20,
o 139 (.bin .geq (t 137) (t 138)),
m 10 139])
(.seq
(.ops false [] [
m 140 0,
m 141 16,
o 142 (.bin .add (t 141) (.c i1)),
m 143 2,
m 144 3,
m 145 4,
o 146 (.call (.fn 69) [(t 140), (t 142), (t 143), (t 144), (t 145)])])
(.ops false [] [
m 147 16,
m 2 147]))))))))))))))))))))))), []⟩
theorem ok_69 : compFn Tryz.prog [] 69 = some (CF.erase k_69) := by kernel_rfl

def k_71 : CF := ⟨63,
(.seq
(.ops false [] [
o 2 (.box (.c (.agg [(.nil 37), (.nil 172), (.d (.sc (.map none))), (.nil 172), (.d (.sc (.map none))), (.d (.sc (.map none))), (.d (.sc (.map none)))])))])
(.seq
(.ops false [] [
m 8 0,
m 9 0,
o 10 (.call (.fn 36) [(t 9)]),
o 11 (.mkm true),
o 12 (.mkm true),
o 13 (.bld [(.nil 37), (.nil 172), (.d (.sc (.map none))), (.nil 172), (.d (.sc (.map none))), (.d (.sc (.map none))), (.d (.sc (.map none)))] [(0, 1, (t 8)), (1, 1, (t 10)), (2, 1, (t 11)), (4, 1, (t 12))]),
o 3 (.box (.c (.agg [(.nil 37), (.nil 172), (.d (.sc (.map none))), (.nil 172), (.d (.sc (.map none))), (.d (.sc (.map none))), (.d (.sc (.map none)))]))),
⟨none,none,.st 7 (t 3) (t 13)⟩])
(.seq
(.seq
(.ops false [] [
m 14 0,
o 15 (.call (.fn 65) [(t 14)]),
o 16 (.len 0 (t 15)),
o 17 (.mov (.c i0))])
(.block 0
(.loop
(.trim [17, 3, 15, 2, 16]
(.seq
(.ops false [] [
o 18 (.bin .lss (t 17) (t 16))])
(.seq
(.cond (t 18)
.skip
(.exit 0))
(.seq
(.block 1
(.seq
(.ops false [] [
o 19 (.iad 33 (t 15) (t 17)),
o 20 (.ld (some 33) (t 19)),
o 5 (.box (.c (.agg [z, z, z, z, z, z, z, z, z, z, z, z, z, z, z, z, z, z, z, z, z, z, z, z, z, z, z, z, z, z, z, z, i0]))),
⟨none,none,.st 33 (t 5) (t 20)⟩])
(.ops false [] [
o 21 (.fad 2 (t 3)),
o 22 (.ld none (t 21)),
o 23 (.ld (some 33) (t 5)),
⟨none,none,.mup true [.i, .i, .i, .i, .i, .i, .i, .i, .i, .i, .i, .i, .i, .i, .i, .i, .i, .i, .i, .i, .i, .i, .i, .i, .i, .i, .i, .i, .i, .i, .i, .i, .i] (t 22) (t 23) (.c bT)⟩])))
(.ops false [] [
o 24 (.bin .add (t 17) (.c i1)),
m 17 24]))))))))
(.seq
(.seq
(.ops false [] [
o 25 (.fad 1 (t 3)),
o 26 (.ld none (t 25)),
o 27 (.len 0 (t 26)),
o 28 (.mov (.c i0))])
(.block 2
(.loop
(.trim [28, 3, 26, 2, 27]
(.seq
(.ops false [] [
o 29 (.bin .lss (t 28) (t 27))])
(.seq
(.cond (t 29)
.skip
(.exit 2))
(.seq
(.block 3
(.seq
(.ops false [] [
o 30 (.iad 172 (t 26) (t 28)),
o 31 (.ld (some 172) (t 30)),
o 7 (.box (.c (.agg [z, z, z, z, z, z, z, z, z, z, z, z, z, z, z, z, z, z, z, z, z, z, z, z, z, z, z, z, z, z, z, z, i0, i0, z, z, z, z, z, z, z, z, z, z, z, z, z, z, z, z, z, z, z, z, z, z, z, z, z, z, z, z, z, z, z, z, i0, i0, z, z, z, z, z, z, z, z, z, z, z, z, z, z, z, z, z, z, z, z, z, z, z, z, z, z, z, z, z, z, z, z, i0, e0, i0, e0, e0, z, z, z, z, z, z, z, z, z, z, z, z, z, z, z, z, z, z, z, z, z, z, z, z, z, z, z, z, z, z, z, z, i0, z, z, z, z, z, z, z, z, z, z, z, z, z, z, z, z, z, z, z, z, z, z, z, z, z, z, z, z, z, z, z, z, i0, (.nil 33)]))),
⟨none,none,.st 172 (t 7) (t 31)⟩])
(.seq
(.seq
(.ops false [] [
o 32 (.fad 33 (t 7)),
o 33 (.ld none (t 32)),
o 34 (.bin .eql (t 33) (.c i1))])
(.cond (t 34)
(.ops false [] [
o 35 (.fad 3 (t 3)),
o 36 (.ld none (t 35)),
o 37 (.ld (some 172) (t 7)),
o 38 (.bsl false 86 172 1 [z, z, z, z, z, z, z, z, z, z, z, z, z, z, z, z, z, z, z, z, z, z, z, z, z, z, z, z, z, z, z, z, i0, i0, z, z, z, z, z, z, z, z, z, z, z, z, z, z, z, z, z, z, z, z, z, z, z, z, z, z, z, z, z, z, z, z, i0, i0, z, z, z, z, z, z, z, z, z, z, z, z, z, z, z, z, z, z, z, z, z, z, z, z, z, z, z, z, z, z, z, z, i0, e0, i0, e0, e0, z, z, z, z, z, z, z, z, z, z, z, z, z, z, z, z, z, z, z, z, z, z, z, z, z, z, z, z, z, z, z, z, i0, z, z, z, z, z, z, z, z, z, z, z, z, z, z, z, z, z, z, z, z, z, z, z, z, z, z, z, z, z, z, z, z, i0, (.nil 33)] [(0, 172, (t 37))]),
o 39 (.app false 86 172 296 (t 36) (t 38)),
o 40 (.fad 3 (t 3)),
⟨none,none,.st 1 (t 40) (t 39)⟩])
.skip))
(.seq
(.ops false [] [
o 41 (.fad 33 (t 7)),
o 42 (.ld none (t 41)),
o 43 (.bin .eql (t 42) (.c (.d (.sc (.int .i64 2))))),
m 44 43,
⟨(some 45),(some ((some 44),true)),.fad 2 (t 3)⟩,
⟨(some 46),(some ((some 44),true)),.ld none (t 45)⟩,
⟨(some 47),(some ((some 44),true)),.fad 0 (t 7)⟩,
⟨(some 48),(some ((some 44),true)),.ld (some 33) (t 47)⟩,
⟨(some 49),(some ((some 44),true)),.lkp true [.i, .i, .i, .i, .i, .i, .i, .i, .i, .i, .i, .i, .i, .i, .i, .i, .i, .i, .i, .i, .i, .i, .i, .i, .i, .i, .i, .i, .i, .i, .i, .i, .i] bF false (t 46) (t 48)⟩,
o 50 (.pick (t 44) (t 49) (.c bF))])
(.cond (t 50)
(.ops false [] [
o 51 (.fad 4 (t 3)),
o 52 (.ld none (t 51)),
o 53 (.fad 34 (t 7)),
o 54 (.ld (some 33) (t 53)),
o 56 (.ld (some 172) (t 7)),
o 57 (.bsl false 86 172 1 [z, z, z, z, z, z, z, z, z, z, z, z, z, z, z, z, z, z, z, z, z, z, z, z, z, z, z, z, z, z, z, z, i0, i0, z, z, z, z, z, z, z, z, z, z, z, z, z, z, z, z, z, z, z, z, z, z, z, z, z, z, z, z, z, z, z, z, i0, i0, z, z, z, z, z, z, z, z, z, z, z, z, z, z, z, z, z, z, z, z, z, z, z, z, z, z, z, z, z, z, z, z, i0, e0, i0, e0, e0, z, z, z, z, z, z, z, z, z, z, z, z, z, z, z, z, z, z, z, z, z, z, z, z, z, z, z, z, z, z, z, z, i0, z, z, z, z, z, z, z, z, z, z, z, z, z, z, z, z, z, z, z, z, z, z, z, z, z, z, z, z, z, z, z, z, i0, (.nil 33)] [(0, 172, (t 56))]),
o 58 (.men true [.i, .i, .i, .i, .i, .i, .i, .i, .i, .i, .i, .i, .i, .i, .i, .i, .i, .i, .i, .i, .i, .i, .i, .i, .i, .i, .i, .i, .i, .i, .i, .i, .i] (.nil 172) (t 52) (t 54)),
o 55 (.ext (t 58) 0),
o 59 (.app false 86 172 296 (t 55) (t 57)),
o 60 (.ext (t 58) 1),
⟨none,none,.mst (t 52) (t 60) (t 59)⟩])
.skip)))))
(.ops false [] [
o 61 (.bin .add (t 28) (.c i1)),
m 28 61]))))))))
(.seq
(.ops false [] [
o 62 (.ld (some 7) (t 3)),
⟨none,none,.st 7 (t 2) (t 62)⟩])
.ret))))), [.cell 2 (some 7)]⟩
theorem ok_71 : compFn Tryz.prog [] 71 = some (CF.erase k_71) := by kernel_rfl

def k_72 : CF := ⟨17,
(.seq
(.ops false [] [
o 2 (.box (t 0)),
o 3 (.box (t 1)),
o 4 (.mov (.c bF))])
(.seq
(.ops false [] [
o 5 (.fad 2 (t 2)),
o 6 (.ld none (t 5)),
o 7 (.ld (some 33) (t 3)),
o 8 (.lkp true [.i, .i, .i, .i, .i, .i, .i, .i, .i, .i, .i, .i, .i, .i, .i, .i, .i, .i, .i, .i, .i, .i, .i, .i, .i, .i, .i, .i, .i, .i, .i, .i, .i] bF false (t 6) (t 7)),
o 9 (.not (t 8)),
m 10 9,
⟨(some 11),(some ((some 10),true)),.ld (some 7) (t 2)⟩,
⟨(some 12),(some ((some 10),true)),.ld (some 33) (t 3)⟩,
⟨(some 13),(some ((some 10),true)),.call (.fn 113) [(t 11), (t 12)]⟩,
⟨(some 14),(some ((some 10),true)),.len 0 (t 13)⟩,
⟨(some 15),(some ((some 10),true)),.bin .eql (t 14) (.c i0)⟩,
o 16 (.pick (t 10) (t 15) (.c bF)),
m 4 16])
.ret)), [.tmp 4]⟩
theorem ok_72 : compFn Tryz.prog [] 72 = some (CF.erase k_72) := by kernel_rfl

def k_73 : CF := ⟨23,
(.seq
(.ops false [] [
o 3 (.box (t 1)),
o 4 (.mov (.c (.nil 33)))])
(.seq
(.seq
(.ops false [] [
m 9 0,
o 10 (.ld (some 33) (t 3)),
o 11 (.call (.fn 64) [(t 9), (t 10)]),
m 8 11,
o 12 (.ext (t 8) 0),
o 13 (.ext (t 8) 1),
o 5 (.box (.c (.agg [z, z, z, z, z, z, z, z, z, z, z, z, z, z, z, z, z, z, z, z, z, z, z, z, z, z, z, z, z, z, z, z, i0, i0, z, z, z, z, z, z, z, z, z, z, z, z, z, z, z, z, z, z, z, z, z, z, z, z, z, z, z, z, z, z, z, z, i0, i0, z, z, z, z, z, z, z, z, z, z, z, z, z, z, z, z, z, z, z, z, z, z, z, z, z, z, z, z, z, z, z, z, i0, e0, i0, e0, e0, z, z, z, z, z, z, z, z, z, z, z, z, z, z, z, z, z, z, z, z, z, z, z, z, z, z, z, z, z, z, z, z, i0, z, z, z, z, z, z, z, z, z, z, z, z, z, z, z, z, z, z, z, z, z, z, z, z, z, z, z, z, z, z, z, z, i0, (.nil 33)]))),
⟨none,none,.st 172 (t 5) (t 12)⟩,
m 6 13])
(.seq
(.ops false [] [
m 14 6,
o 15 (.not (t 14))])
(.cond (t 15)
(.seq
(.ops false [] [
o 4 (.mov (.c (.nil 33)))])
.ret)
.skip)))
(.seq
(.ops true [0, 1, 0, 7, 15] [
m 16 0,
o 17 (.call (.fn 100) [(t 16)]),
o 18 (.ld (some 33) (t 3)),
o 19 (.lkp true [.i, .i, .i, .i, .i, .i, .i, .i, .i, .i, .i, .i, .i, .i, .i, .i, .i, .i, .i, .i, .i, .i, .i, .i, .i, .i, .i, .i, .i, .i, .i, .i, .i] (.nil 33) false (t 17) (t 18)),
m 7 19])
(.seq
(.ops false [] [
m 20 7,
o 21 (.call (.fn 42) [(t 20), (.c (.clo 24 [] []))])])
(.seq
(.ops false [] [
m 22 7,
m 4 22])
.ret))))), [.tmp 4]⟩
theorem ok_73 : compFn Tryz.prog [] 73 = some (CF.erase k_73) := by kernel_rfl

def k_75 : CF := ⟨10,
(.seq
(.ops false [] [
o 3 (.box (t 0)),
o 4 (.mov (.c bF))])
(.seq
(.ops false [] [
o 5 (.ld none (t 1)),
o 6 (.fad 0 (t 3)),
o 7 (.ld (some 32) (t 6)),
o 8 (.ld (some 32) (t 2)),
o 9 (.call (.fn 76) [(t 5), (t 7), (t 8)]),
m 4 9])
.ret)), [.tmp 4]⟩
theorem ok_75 : compFn Tryz.prog [] 75 = some (CF.erase k_75) := by kernel_rfl

def k_77 : CF := ⟨11,
(.seq
(.ops false [] [
o 3 (.box (t 0)),
o 4 (.mov (.c bF))])
(.seq
(.ops false [] [
o 5 (.ld none (t 1)),
o 6 (.ld (some 32) (t 2)),
o 7 (.fad 0 (t 3)),
o 8 (.ld (some 32) (t 7)),
o 9 (.call (.fn 76) [(t 5), (t 6), (t 8)]),
o 10 (.not (t 9)),
m 4 10])
.ret)), [.tmp 4]⟩
theorem ok_77 : compFn Tryz.prog [] 77 = some (CF.erase k_77) := by kernel_rfl

def k_78 : CF := ⟨81,
(.seq
(.ops false [] [
o 4 (.box (t 0)),
o 5 (.box (t 1)),
o 6 (.box (t 2)),
o 8 (.mov (.c bF))])
(.seq
(.seq
(.ops false [] [
o 14 (.ld none (t 4)),
o 15 (.nck (t 14)),
o 16 (.fad 0 (t 15)),
o 17 (.ld none (t 16)),
o 18 (.len 0 (t 17)),
o 19 (.mov (.c i0))])
(.block 0
(.loop
(.trim [19, 5, 4, 3, 6, 17, 18]
(.seq
(.ops false [] [
o 20 (.bin .lss (t 19) (t 18))])
(.seq
(.cond (t 20)
.skip
(.exit 0))
(.seq
(.block 1
(.seq
(.ops false [] [
o 21 (.iad 37 (t 17) (t 19)),
o 22 (.ld (some 37) (t 21)),
o 10 (.box (.c (.agg [z, z, z, z, z, z, z, z, z, z, z, z, z, z, z, z, z, z, z, z, z, z, z, z, z, z, z, z, z, z, z, z, e0, e0, i0, (.nil 32), (.nil 139)]))),
⟨none,none,.st 37 (t 10) (t 22)⟩])
(.seq
(.seq
(.ops false [] [
o 23 (.ld none (t 4)),
o 24 (.fad 0 (t 10)),
o 25 (.ld (some 32) (t 24)),
o 26 (.ld (some 32) (t 6)),
o 27 (.call (.fn 76) [(t 23), (t 25), (t 26)]),
o 28 (.not (t 27)),
m 29 28,
⟨(some 30),(some ((some 29),false)),.mov (t 3)⟩,
⟨(some 31),(some ((some 29),false)),.mkf 116 [] [(t 4), (t 10)]⟩,
⟨(some 32),(some ((some 29),false)),.call (.fn 74) [(t 30), (t 31)]⟩,
o 33 (.pick (t 29) (.c bT) (t 32))])
(.cond (t 33)
(.exit 1)
.skip))
(.seq
(.ops false [] [
o 34 (.fad 32 (t 10)),
o 35 (.fad 4 (t 34)),
o 36 (.ld none (t 35)),
o 37 (.len 0 (t 36)),
o 38 (.mov (.c i0))])
(.block 2
(.loop
(.trim [38, 5, 10, 4, 36, 19, 3, 6, 17, 18, 37]
(.seq
(.ops false [] [
o 39 (.bin .lss (t 38) (t 37))])
(.seq
(.cond (t 39)
.skip
(.exit 2))
(.seq
(.block 3
(.seq
(.ops false [] [
m 40 38,
o 41 (.iad 139 (t 36) (t 38)),
o 42 (.ld (some 139) (t 41)),
o 12 (.box (.c (.agg [i0, z, z, z, z, z, z, z, z, z, z, z, z, z, z, z, z, z, z, z, z, z, z, z, z, z, z, z, z, z, z, z, z, i0, i0, z, z, z, z, z, z, z, z, z, z, z, z, z, z, z, z, z, z, z, z, z, z, z, z, z, z, z, z, z, z, z, z, i0, e0, i0, e0, z, z, z, z, z, z, z, z, z, z, z, z, z, z, z, z, z, z, z, z, z, z, z, z, z, z, z, z, z, z, z, z, i0, z, z, z, z, z, z, z, z, z, z, z, z, z, z, z, z, z, z, z, z, z, z, z, z, z, z, z, z, z, z, z, z, i0, (.nil 1), (.nil 33)]))),
m 11 40,
⟨none,none,.st 139 (t 12) (t 42)⟩])
(.seq
(.ops true [0, 1, 0, 4, 0, 28, 63, 0, 255] [
o 43 (.fad 0 (t 10)),
o 44 (.ld (some 32) (t 43)),
o 45 (.fad 32 (t 10)),
o 46 (.ld (some 5) (t 45)),
m 47 11,
o 48 (.call (.fn 44) [(t 46), (t 47)]),
o 49 (.bld [z, z, z, z, z, z, z, z, z, z, z, z, z, z, z, z, z, z, z, z, z, z, z, z, z, z, z, z, z, z, z, z, i0] [(0, 32, (t 44)), (32, 1, (t 48))]),
o 13 (.box (.c (.agg [z, z, z, z, z, z, z, z, z, z, z, z, z, z, z, z, z, z, z, z, z, z, z, z, z, z, z, z, z, z, z, z, i0]))),
⟨none,none,.st 33 (t 13) (t 49)⟩])
(.seq
(.ops true [0, 1, 3, 7, 15, 31, 63, 127, 15, 511, 1023, 2047, 4095, 8191, 4095, 20479, 65535, 4095, 262143, 524287, 1048575, 2097151, 1048575, 5242879, 16777215, 1048575, 67108863, 134217727, 268435455] [
o 50 (.fad 0 (t 12)),
o 51 (.ld none (t 50)),
o 52 (.bin .eql (t 51) (.c (.d (.sc (.int .i64 6))))),
m 53 52,
⟨(some 54),(some ((some 53),true)),.ld none (t 4)⟩,
⟨(some 55),(some ((some 53),true)),.nck (t 54)⟩,
⟨(some 56),(some ((some 53),true)),.fad 34 (t 55)⟩,
⟨(some 57),(some ((some 53),true)),.ld none (t 56)⟩,
⟨(some 58),(some ((some 53),true)),.ld (some 33) (t 13)⟩,
⟨(some 59),(some ((some 53),true)),.lkp true [.i, .i, .i, .i, .i, .i, .i, .i, .i, .i, .i, .i, .i, .i, .i, .i, .i, .i, .i, .i, .i, .i, .i, .i, .i, .i, .i, .i, .i, .i, .i, .i, .i] bF false (t 57) (t 58)⟩,
o 60 (.pick (t 53) (t 59) (.c bF)),
m 61 60,
⟨(some 62),(some ((some 61),true)),.fad 0 (t 10)⟩,
⟨(some 63),(some ((some 61),true)),.ld (some 32) (t 62)⟩,
⟨(some 64),(some ((some 61),true)),.fad 71 (t 12)⟩,
⟨(some 65),(some ((some 61),true)),.ld (some 33) (t 64)⟩,
⟨(some 66),(some ((some 61),true)),.call (.fn 43) [(t 63), (t 65)]⟩,
⟨(some 67),(some ((some 61),true)),.ld (some 33) (t 5)⟩,
⟨(some 68),(some ((some 61),true)),.eqa true [.i, .i, .i, .i, .i, .i, .i, .i, .i, .i, .i, .i, .i, .i, .i, .i, .i, .i, .i, .i, .i, .i, .i, .i, .i, .i, .i, .i, .i, .i, .i, .i, .i] false (t 66) (t 67)⟩,
⟨(some 69),(some ((some 61),true)),.mov (t 68)⟩,
⟨(some 70),(some ((some 69),false)),.fad 0 (t 10)⟩,
⟨(some 71),(some ((some 69),false)),.ld (some 32) (t 70)⟩,
⟨(some 72),(some ((some 69),false)),.fad 104 (t 12)⟩,
⟨(some 73),(some ((some 69),false)),.ld (some 33) (t 72)⟩,
⟨(some 74),(some ((some 69),false)),.call (.fn 43) [(t 71), (t 73)]⟩,
⟨(some 75),(some ((some 69),false)),.ld (some 33) (t 5)⟩,
⟨(some 76),(some ((some 69),false)),.eqa true [.i, .i, .i, .i, .i, .i, .i, .i, .i, .i, .i, .i, .i, .i, .i, .i, .i, .i, .i, .i, .i, .i, .i, .i, .i, .i, .i, .i, .i, .i, .i, .i, .i] false (t 74) (t 75)⟩,
⟨(some 77),(some ((some 61),true)),.pick (t 69) (.c bT) (t 76)⟩,
o 78 (.pick (t 61) (t 77) (.c bF))])
(.cond (t 78)
(.seq
(.ops false [] [
o 8 (.mov (.c bT))])
.ret)
.skip)))))
(.ops false [] [
o 79 (.bin .add (t 38) (.c i1)),
m 38 79])))))))))))
(.ops false [] [
o 80 (.bin .add (t 19) (.c i1)),
m 19 80]))))))))
(.seq
(.ops false [] [
o 8 (.mov (.c bF))])
.ret))), [.tmp 8]⟩
theorem ok_78 : compFn Tryz.prog [] 78 = some (CF.erase k_78) := by kernel_rfl

def k_82 : CF := ⟨148,
(.seq
(.ops false [] [
o 10 (.mov (.c bT))])
(.seq
(.ops false [] [
o 11 (.mov (.c bT))])
(.block 0
(.loop
(.trim [4, 2, 1, 0, 11, 10, 3]
(.block 1
(.seq
(.ops false [] [
m 21 2,
m 22 1,
o 23 (.bin .sub (t 21) (t 22)),
m 12 23])
(.seq
(.seq
(.ops false [] [
m 24 12,
o 25 (.bin .leq (t 24) (.c (.d (.sc (.int .i64 12)))))])
(.cond (t 25)
(.seq
(.ops false [] [
m 26 0,
m 27 1,
m 28 2,
m 29 4,
o 30 (.call (.fn 128) [(t 26), (t 27), (t 28), (t 29)])])
.ret)
.skip))
(.seq
(.seq
(.ops false [] [
m 31 3,
o 32 (.bin .eql (t 31) (.c i0))])
(.cond (t 32)
(.seq
(.ops false [] [
m 33 0,
m 34 1,
m 35 2,
m 36 4,
o 37 (.call (.fn 129) [(t 33), (t 34), (t 35), (t 36)])])
.ret)
.skip))
(.seq
(.seq
(.ops false [] [
m 38 10,
o 39 (.not (t 38))])
(.cond (t 39)
(.seq
(.ops false [] [
m 40 0,
m 41 1,
m 42 2,
m 43 4,
o 44 (.call (.fn 130) [(t 40), (t 41), (t 42), (t 43)])])
(.ops false [] [
m 45 3,
o 46 (.bin .sub (t 45) (.c i1)),
m 3 46]))
.skip))
(.seq
(.ops false [] [
m 48 0,
m 49 1,
m 50 2,
m 51 4,
o 52 (.call (.fn 131) [(t 48), (t 49), (t 50), (t 51)]),
m 47 52,
o 53 (.ext (t 47) 0),
o 54 (.ext (t 47) 1),
m 13 53,
m 14 54])
(.seq
(.seq
(.ops false [] [
m 55 14,
o 56 (.bin .eql (t 55) (.c (.d (.sc (.int .i64 2)))))])
(.cond (t 56)
(.seq
(.ops false [] [
m 57 0,
m 58 1,
m 59 2,
m 60 4,
o 61 (.call (.fn 132) [(t 57), (t 58), (t 59), (t 60)])])
(.seq
(.ops false [] [
m 62 2,
o 63 (.bin .sub (t 62) (.c i1)),
m 64 13,
m 65 1,
o 66 (.bin .sub (t 64) (t 65)),
o 67 (.bin .sub (t 63) (t 66)),
m 13 67])
(.ops false [] [
o 14 (.mov (.c i1))])))
.skip))
(.seq
(.seq
(.ops false [] [
m 68 10,
m 69 68,
⟨(some 70),(some ((some 69),true)),.mov (t 11)⟩,
o 71 (.pick (t 69) (t 70) (.c bF)),
m 72 71,
⟨(some 73),(some ((some 72),true)),.mov (t 14)⟩,
⟨(some 74),(some ((some 72),true)),.bin .eql (t 73) (.c i1)⟩,
o 75 (.pick (t 72) (t 74) (.c bF))])
(.cond (t 75)
(.seq
(.ops false [] [
m 76 0,
m 77 1,
m 78 2,
m 79 4,
o 80 (.call (.fn 133) [(t 76), (t 77), (t 78), (t 79)])])
(.cond (t 80)
.ret
.skip))
.skip))
(.seq
(.seq
(.ops true [0, 1, 3, 7, 7, 7, 39, 119, 247, 7, 7, 1543, 3591, 8191, 16383, 32767, 65535] [
m 81 1,
o 82 (.bin .gtr (t 81) (.c i0)),
m 83 82,
⟨(some 84),(some ((some 83),true)),.mov (t 4)⟩,
⟨(some 85),(some ((some 83),true)),.mov (t 0)⟩,
⟨(some 86),(some ((some 83),true)),.mov (t 1)⟩,
⟨(some 87),(some ((some 83),true)),.bin .sub (t 86) (.c i1)⟩,
⟨(some 88),(some ((some 83),true)),.iad 35 (t 85) (t 87)⟩,
⟨(some 89),(some ((some 83),true)),.ld (some 35) (t 88)⟩,
⟨(some 90),(some ((some 83),true)),.mov (t 0)⟩,
⟨(some 91),(some ((some 83),true)),.mov (t 13)⟩,
⟨(some 92),(some ((some 83),true)),.iad 35 (t 90) (t 91)⟩,
⟨(some 93),(some ((some 83),true)),.ld (some 35) (t 92)⟩,
⟨(some 94),(some ((some 83),true)),.call (.val (t 84)) [(t 89), (t 93)]⟩,
⟨(some 95),(some ((some 83),true)),.bin .lss (t 94) (.c i0)⟩,
⟨(some 96),(some ((some 83),true)),.not (t 95)⟩,
o 97 (.pick (t 83) (t 96) (.c bF))])
(.cond (t 97)
(.seq
(.ops false [] [
m 98 0,
m 99 1,
m 100 2,
m 101 13,
m 102 4,
o 103 (.call (.fn 134) [(t 98), (t 99), (t 100), (t 101), (t 102)]),
m 15 103])
(.seq
(.ops false [] [
m 104 15,
m 1 104])
(.exit 1)))
.skip))
(.seq
(.ops false [] [
m 106 0,
m 107 1,
m 108 2,
m 109 13,
m 110 4,
o 111 (.call (.fn 135) [(t 106), (t 107), (t 108), (t 109), (t 110)]),
m 105 111,
o 112 (.ext (t 105) 0),
o 113 (.ext (t 105) 1),
m 16 112,
m 17 113])
(.seq
(.ops false [] [
m 114 17,
m 11 114])
(.seq
(.ops false [] [
m 115 16,
m 116 1,
o 117 (.bin .sub (t 115) (t 116)),
m 118 2,
m 119 16,
o 120 (.bin .sub (t 118) (t 119)),
m 18 117,
m 19 120])
(.seq
(.ops false [] [
m 121 12,
o 122 (.bin .quo (t 121) (.c (.d (.sc (.int .i64 8))))),
m 20 122])
(.seq
(.ops false [] [
m 123 18,
m 124 19,
o 125 (.bin .lss (t 123) (t 124))])
(.cond (t 125)
(.seq
(.ops false [] [
m 126 18,
m 127 20,
o 128 (.bin .geq (t 126) (t 127)),
m 10 128])
(.seq
(.ops false [] [
m 129 0,
m 130 1,
m 131 16,
m 132 3,
m 133 4,
o 134 (.call (.fn 82) [(t 129), (t 130), (t 131), (t 132), (t 133)])])
(.ops false [] [
m 135 16,
o 136 (.bin .add (t 135) (.c i1)),
m 1 136])))
(.seq
(.ops false [] [
m 137 19,
m 138 20,
o 139 (.bin .geq (t 137) (t 138)),
m 10 139])
(.seq
(.ops false [] [
m 140 0,
m 141 16,
o 142 (.bin .add (t 141) (.c i1)),
m 143 2,
m 144 3,
m 145 4,
o 146 (.call (.fn 82) [(t 140), (t 142), (t 143), (t 144), (t 145)])])
(.ops false [] [
m 147 16,
m 2 147]))))))))))))))))))))))), []⟩
theorem ok_82 : compFn Tryz.prog [] 82 = some (CF.erase k_82) := by kernel_rfl

def k_103 : CF := ⟨53,
(.seq
(.ops false [] [
m 10 1,
o 11 (.bin .add (t 10) (.c i1)),
m 8 11])
(.block 0
(.loop
(.trim [1, 3, 8, 0, 2]
(.seq
(.seq
(.ops false [] [
m 12 8,
m 13 2,
o 14 (.bin .lss (t 12) (t 13))])
(.cond (t 14)
.skip
(.exit 0)))
(.seq
(.block 1
(.seq
(.ops false [] [
m 17 8,
m 9 17])
(.block 2
(.loop
(.trim [9, 0, 8, 1, 3, 2]
(.seq
(.seq
(.ops true [0, 0, 3, 7, 15, 15, 15, 111, 239, 15, 15, 1039, 3599, 7695, 16383, 32767, 65535] [
m 18 9,
m 19 1,
o 20 (.bin .gtr (t 18) (t 19)),
m 21 20,
⟨(some 22),(some ((some 21),true)),.mov (t 3)⟩,
⟨(some 23),(some ((some 21),true)),.mov (t 0)⟩,
⟨(some 24),(some ((some 21),true)),.mov (t 9)⟩,
⟨(some 25),(some ((some 21),true)),.iad 2 (t 23) (t 24)⟩,
⟨(some 26),(some ((some 21),true)),.ld (some 2) (t 25)⟩,
⟨(some 27),(some ((some 21),true)),.mov (t 0)⟩,
⟨(some 28),(some ((some 21),true)),.mov (t 9)⟩,
⟨(some 29),(some ((some 21),true)),.bin .sub (t 28) (.c i1)⟩,
⟨(some 30),(some ((some 21),true)),.iad 2 (t 27) (t 29)⟩,
⟨(some 31),(some ((some 21),true)),.ld (some 2) (t 30)⟩,
⟨(some 32),(some ((some 21),true)),.call (.val (t 22)) [(t 26), (t 31)]⟩,
⟨(some 33),(some ((some 21),true)),.bin .lss (t 32) (.c i0)⟩,
o 34 (.pick (t 21) (t 33) (.c bF))])
(.cond (t 34)
.skip
(.exit 2)))
(.seq
(.block 3
(.ops true [0, 0, 0, 0, 8, 0, 0, 64, 224, 480, 0, 0, 3072, 7168, 16355, 32739, 65535, 131071] [
m 37 0,
m 38 9,
m 39 0,
m 40 9,
o 41 (.bin .sub (t 40) (.c i1)),
m 42 0,
m 43 9,
o 44 (.bin .sub (t 43) (.c i1)),
o 45 (.iad 2 (t 42) (t 44)),
o 46 (.ld (some 2) (t 45)),
m 47 0,
m 48 9,
o 49 (.iad 2 (t 47) (t 48)),
o 50 (.ld (some 2) (t 49)),
o 51 (.iad 2 (t 37) (t 38)),
⟨none,none,.st 2 (t 51) (t 46)⟩,
o 52 (.iad 2 (t 39) (t 41)),
⟨none,none,.st 2 (t 52) (t 50)⟩]))
(.ops false [] [
m 35 9,
o 36 (.bin .sub (t 35) (.c i1)),
m 9 36]))))))))
(.ops false [] [
m 15 8,
o 16 (.bin .add (t 15) (.c i1)),
m 8 16]))))))), []⟩
theorem ok_103 : compFn Tryz.prog [] 103 = some (CF.erase k_103) := by kernel_rfl

def k_116 : CF := ⟨12,
(.seq
(.ops false [] [
o 3 (.box (t 0)),
o 4 (.mov (.c bF))])
(.seq
(.ops false [] [
o 5 (.ld none (t 1)),
o 6 (.fad 0 (t 2)),
o 7 (.ld (some 32) (t 6)),
o 8 (.fad 0 (t 3)),
o 9 (.ld (some 32) (t 8)),
o 10 (.call (.fn 76) [(t 5), (t 7), (t 9)]),
o 11 (.not (t 10)),
m 4 11])
.ret)), [.tmp 4]⟩
theorem ok_116 : compFn Tryz.prog [] 116 = some (CF.erase k_116) := by kernel_rfl

def k_128 : CF := ⟨53,
(.seq
(.ops false [] [
m 10 1,
o 11 (.bin .add (t 10) (.c i1)),
m 8 11])
(.block 0
(.loop
(.trim [1, 3, 8, 0, 2]
(.seq
(.seq
(.ops false [] [
m 12 8,
m 13 2,
o 14 (.bin .lss (t 12) (t 13))])
(.cond (t 14)
.skip
(.exit 0)))
(.seq
(.block 1
(.seq
(.ops false [] [
m 17 8,
m 9 17])
(.block 2
(.loop
(.trim [9, 0, 8, 1, 3, 2]
(.seq
(.seq
(.ops true [0, 0, 3, 7, 15, 15, 15, 111, 239, 15, 15, 1039, 3599, 7695, 16383, 32767, 65535] [
m 18 9,
m 19 1,
o 20 (.bin .gtr (t 18) (t 19)),
m 21 20,
⟨(some 22),(some ((some 21),true)),.mov (t 3)⟩,
⟨(some 23),(some ((some 21),true)),.mov (t 0)⟩,
⟨(some 24),(some ((some 21),true)),.mov (t 9)⟩,
⟨(some 25),(some ((some 21),true)),.iad 35 (t 23) (t 24)⟩,
⟨(some 26),(some ((some 21),true)),.ld (some 35) (t 25)⟩,
⟨(some 27),(some ((some 21),true)),.mov (t 0)⟩,
⟨(some 28),(some ((some 21),true)),.mov (t 9)⟩,
⟨(some 29),(some ((some 21),true)),.bin .sub (t 28) (.c i1)⟩,
⟨(some 30),(some ((some 21),true)),.iad 35 (t 27) (t 29)⟩,
⟨(some 31),(some ((some 21),true)),.ld (some 35) (t 30)⟩,
⟨(some 32),(some ((some 21),true)),.call (.val (t 22)) [(t 26), (t 31)]⟩,
⟨(some 33),(some ((some 21),true)),.bin .lss (t 32) (.c i0)⟩,
o 34 (.pick (t 21) (t 33) (.c bF))])
(.cond (t 34)
.skip
(.exit 2)))
(.seq
(.block 3
(.ops true [0, 0, 0, 0, 8, 0, 0, 64, 224, 480, 0, 0, 3072, 7168, 16355, 32739, 65535, 131071] [
m 37 0,
m 38 9,
m 39 0,
m 40 9,
o 41 (.bin .sub (t 40) (.c i1)),
m 42 0,
m 43 9,
o 44 (.bin .sub (t 43) (.c i1)),
o 45 (.iad 35 (t 42) (t 44)),
o 46 (.ld (some 35) (t 45)),
m 47 0,
m 48 9,
o 49 (.iad 35 (t 47) (t 48)),
o 50 (.ld (some 35) (t 49)),
o 51 (.iad 35 (t 37) (t 38)),
⟨none,none,.st 35 (t 51) (t 46)⟩,
o 52 (.iad 35 (t 39) (t 41)),
⟨none,none,.st 35 (t 52) (t 50)⟩]))
(.ops false [] [
m 35 9,
o 36 (.bin .sub (t 35) (.c i1)),
m 9 36]))))))))
(.ops false [] [
m 15 8,
o 16 (.bin .add (t 15) (.c i1)),
m 8 16]))))))), []⟩
theorem ok_128 : compFn Tryz.prog [] 128 = some (CF.erase k_128) := by kernel_rfl

def k_146 : CF := ⟨8,
(.seq
(.ops false [] [
o 2 (.box (t 0)),
o 3 (.mov (.c bF))])
(.seq
(.ops false [] [
o 4 (.fad 0 (t 1)),
o 5 (.ld none (t 4)),
o 6 (.ld (some 172) (t 2)),
o 7 (.call (.fn 147) [(t 5), (t 6)]),
m 3 7])
.ret)), [.tmp 3]⟩
theorem ok_146 : compFn Tryz.prog [] 146 = some (CF.erase k_146) := by kernel_rfl

def k_147 : CF := ⟨25,
(.seq
(.ops false [] [
o 3 (.box (t 1)),
o 4 (.mov (.c bF))])
(.seq
(.seq
(.ops false [] [
o 5 (.fad 33 (t 3)),
o 6 (.ld none (t 5)),
o 7 (.bin .neq (t 6) (.c i1))])
(.cond (t 7)
(.seq
(.ops false [] [
o 4 (.mov (.c bF))])
.ret)
.skip))
(.seq
(.seq
(.ops false [] [
m 8 0])
(.block 0
(.seq
(.seq
(.ops false [] [
o 10 (.bin .eql (t 8) (.c (.d (.sc (.int .i64 5))))),
m 9 10])
(.cond (t 9)
.skip
(.ops false [] [
o 11 (.bin .eql (t 8) (.c (.d (.sc (.int .i64 6))))),
m 9 11])))
(.cond (t 9)
(.seq
(.ops false [] [
o 12 (.fad 67 (t 3)),
o 13 (.ld none (t 12)),
o 14 (.bin .eql (t 13) (.c i1)),
m 4 14])
.ret)
(.seq
(.ops false [] [
o 16 (.bin .eql (t 8) (.c (.d (.sc (.int .i64 4))))),
m 15 16])
(.cond (t 15)
(.seq
(.ops false [] [
o 17 (.fad 67 (t 3)),
o 18 (.ld none (t 17)),
o 19 (.bin .eql (t 18) (.c (.d (.sc (.int .i64 2))))),
m 20 19,
⟨(some 21),(some ((some 20),false)),.fad 67 (t 3)⟩,
⟨(some 22),(some ((some 20),false)),.ld none (t 21)⟩,
⟨(some 23),(some ((some 20),false)),.bin .eql (t 22) (.c (.d (.sc (.int .i64 3))))⟩,
o 24 (.pick (t 20) (.c bT) (t 23)),
m 4 24])
.ret)
.skip))))))
(.seq
(.ops false [] [
o 4 (.mov (.c bT))])
.ret)))), [.tmp 4]⟩
theorem ok_147 : compFn Tryz.prog [] 147 = some (CF.erase k_147) := by kernel_rfl

def k_151 : CF := ⟨19,
(.seq
(.ops false [] [
o 3 (.box (t 0)),
o 4 (.mov (.c bF))])
(.seq
(.ops false [] [
o 5 (.ld none (t 1)),
o 6 (.bin .eql (t 5) (.c i0)),
m 7 6,
⟨(some 8),(some ((some 7),false)),.fad 33 (t 3)⟩,
⟨(some 9),(some ((some 7),false)),.ld none (t 8)⟩,
⟨(some 10),(some ((some 7),false)),.ld none (t 1)⟩,
⟨(some 11),(some ((some 7),false)),.bin .eql (t 9) (t 10)⟩,
⟨(some 12),(some ((some 7),false)),.mov (t 11)⟩,
⟨(some 13),(some ((some 12),true)),.fad 34 (t 3)⟩,
⟨(some 14),(some ((some 12),true)),.ld (some 33) (t 13)⟩,
⟨(some 15),(some ((some 12),true)),.ld (some 33) (t 2)⟩,
⟨(some 16),(some ((some 12),true)),.eqa true [.i, .i, .i, .i, .i, .i, .i, .i, .i, .i, .i, .i, .i, .i, .i, .i, .i, .i, .i, .i, .i, .i, .i, .i, .i, .i, .i, .i, .i, .i, .i, .i, .i] false (t 14) (t 15)⟩,
⟨(some 17),(some ((some 7),false)),.pick (t 12) (t 16) (.c bF)⟩,
o 18 (.pick (t 7) (.c bT) (t 17)),
m 4 18])
.ret)), [.tmp 4]⟩
theorem ok_151 : compFn Tryz.prog [] 151 = some (CF.erase k_151) := by kernel_rfl
def tab2 : List (Nat × CF × Nat) := [(57, k_57, 0), (67, k_67, 0), (87, k_87, 0), (102, k_102, 0), (157, k_157, 0), (30, k_30, 0), (40, k_40, 0), (41, k_41, 0), (64, k_64, 0), (93, k_93, 0), (94, k_94, 0), (98, k_98, 0), (100, k_100, 0), (150, k_150, 0), (155, k_155, 0), (194, k_194, 0), (195, k_195, 0), (196, k_196, 0), (222, k_222, 0), (20, k_20, 0), (21, k_21, 0), (32, k_32, 0), (33, k_33, 0), (55, k_55, 1), (59, k_59, 0), (60, k_60, 0), (61, k_61, 0), (63, k_63, 1), (65, k_65, 0), (74, k_74, 0), (114, k_114, 0), (115, k_115, 0), (140, k_140, 1), (168, k_168, 0), (7, k_7, 0), (12, k_12, 0), (23, k_23, 0), (29, k_29, 0), (34, k_34, 0), (35, k_35, 0), (38, k_38, 0), (44, k_44, 0), (50, k_50, 0), (92, k_92, 0), (149, k_149, 0), (6, k_6, 0), (17, k_17, 0), (18, k_18, 0), (19, k_19, 0), (37, k_37, 0), (39, k_39, 0), (47, k_47, 0), (48, k_48, 0), (69, k_69, 0), (71, k_71, 0), (72, k_72, 0), (73, k_73, 0), (75, k_75, 0), (77, k_77, 0), (78, k_78, 0), (82, k_82, 0), (103, k_103, 0), (116, k_116, 0), (128, k_128, 0), (146, k_146, 0), (147, k_147, 0), (151, k_151, 0)]
theorem tab2_ok : TabOk Tryz.prog tab2 := ⟨⟨[], ok_57⟩, ⟨⟨[], ok_67⟩, ⟨⟨[], ok_87⟩, ⟨⟨[], ok_102⟩, ⟨⟨[], ok_157⟩, ⟨⟨[10, 43], ok_30⟩, ⟨⟨[17, 24, 25], ok_40⟩, ⟨⟨[], ok_41⟩, ⟨⟨[], ok_64⟩, ⟨⟨[], ok_93⟩, ⟨⟨[], ok_94⟩, ⟨⟨[], ok_98⟩, ⟨⟨[], ok_100⟩, ⟨⟨[], ok_150⟩, ⟨⟨[], ok_155⟩, ⟨⟨[], ok_194⟩, ⟨⟨[], ok_195⟩, ⟨⟨[], ok_196⟩, ⟨⟨[], ok_222⟩, ⟨⟨[], ok_20⟩, ⟨⟨[], ok_21⟩, ⟨⟨[], ok_32⟩, ⟨⟨[67], ok_33⟩, ⟨⟨[5, 7], ok_55⟩, ⟨⟨[], ok_59⟩, ⟨⟨[], ok_60⟩, ⟨⟨[], ok_61⟩, ⟨⟨[5, 7], ok_63⟩, ⟨⟨[], ok_65⟩, ⟨⟨[], ok_74⟩, ⟨⟨[], ok_114⟩, ⟨⟨[], ok_115⟩, ⟨⟨[5, 7], ok_140⟩, ⟨⟨[], ok_168⟩, ⟨⟨[], ok_7⟩, ⟨⟨[], ok_12⟩, ⟨⟨[], ok_23⟩, ⟨⟨[9, 35, 36], ok_29⟩, ⟨⟨[], ok_34⟩, ⟨⟨[], ok_35⟩, ⟨⟨[], ok_38⟩, ⟨⟨[], ok_44⟩, ⟨⟨[], ok_50⟩, ⟨⟨[], ok_92⟩, ⟨⟨[], ok_149⟩, ⟨⟨[], ok_6⟩, ⟨⟨[], ok_17⟩, ⟨⟨[97, 98], ok_18⟩, ⟨⟨[], ok_19⟩, ⟨⟨[], ok_37⟩, ⟨⟨[], ok_39⟩, ⟨⟨[], ok_47⟩, ⟨⟨[], ok_48⟩, ⟨⟨[], ok_69⟩, ⟨⟨[], ok_71⟩, ⟨⟨[], ok_72⟩, ⟨⟨[], ok_73⟩, ⟨⟨[], ok_75⟩, ⟨⟨[], ok_77⟩, ⟨⟨[], ok_78⟩, ⟨⟨[], ok_82⟩, ⟨⟨[], ok_103⟩, ⟨⟨[], ok_116⟩, ⟨⟨[], ok_128⟩, ⟨⟨[], ok_146⟩, ⟨⟨[], ok_147⟩, ⟨⟨[], ok_151⟩, trivial⟩⟩⟩⟩⟩⟩⟩⟩⟩⟩⟩⟩⟩⟩⟩⟩⟩⟩⟩⟩⟩⟩⟩⟩⟩⟩⟩⟩⟩⟩⟩⟩⟩⟩⟩⟩⟩⟩⟩⟩⟩⟩⟩⟩⟩⟩⟩⟩⟩⟩⟩⟩⟩⟩⟩⟩⟩⟩⟩⟩⟩⟩⟩⟩⟩⟩⟩
end Go.Proofs.Lh.EV

namespace Go.Proofs.Lh.EV
open Go Go.Ab Go.Bb
theorem tab_app {P : Program} : ∀ {l m : List (Nat × CF × Nat)}, TabOk P l → TabOk P m → TabOk P (l ++ m)
  | [], _, _, h => h
  | _ :: _, _, h, g => ⟨h.1, tab_app h.2 g⟩
def tab : List (Nat × CF × Nat) := tab1 ++ (tab2)
theorem tab_ok : TabOk Tryz.prog tab := tab_app tab1_ok (tab2_ok)
end Go.Proofs.Lh.EV
