/-
  Part GM of this claim's proof. Joined by merge.py from the texts of wip/tpl.
-/
import Derived.Test.YtjlnniaknfpgiaaGreatDoorBbV
import Derived.Test.YtjlnniaknfpgiaaGreatDoorProg
set_option linter.unusedVariables false
set_option linter.unusedSimpArgs false
set_option linter.unnecessarySimpa false
namespace Go.Proofs.Lh.EV
open Go Go.Ab Go.Bb
def z : AV := .d (.sc (.int .u8 0))
def i0 : AV := .d (.sc (.int .i64 0))
def i1 : AV := .d (.sc (.int .i64 1))
def e0 : AV := .d (.sc (.string ⟨#[]⟩))
def bF : AV := .d (.sc (.bool false))
def bT : AV := .d (.sc (.bool true))
def t (n : Nat) : X := .t n
def o (d : Nat) (c : CI) : CO := ⟨some d, none, c⟩
def m (d u : Nat) : CO := ⟨some d, none, .mov (.t u)⟩
end Go.Proofs.Lh.EV

namespace Go.Proofs.Lh.EV
open Go Go.Ab Go.Bb
def k_182 : CF := ⟨9,
(.seq
(.ops false [] [
o 4 (.mov (.c (.d (.sc (.int .u32 0)))))])
(.seq
(.ops false [] [
m 5 0,
m 6 1,
o 7 (.un .neg (t 6)),
o 8 (.call (.fn 213) [(t 5), (t 7)]),
m 4 8])
.ret)), [.tmp 4]⟩
theorem ok_182 : compFn Tryz.prog [] 182 = some (CF.erase k_182) := by kernel_rfl

def k_213 : CF := ⟨17,
(.seq
(.ops false [] [
o 4 (.mov (.c (.d (.sc (.int .u32 0)))))])
(.seq
(.ops false [] [
m 6 1,
o 7 (.cnv .u64 (t 6)),
o 8 (.bin .and (t 7) (.c (.d (.sc (.int .u64 31))))),
m 5 8])
(.seq
(.ops false [] [
m 9 0,
m 10 5,
o 11 (.bin .shl (t 9) (t 10)),
m 12 0,
m 13 5,
o 14 (.bin .sub (.c (.d (.sc (.int .u64 32)))) (t 13)),
o 15 (.bin .shr (t 12) (t 14)),
o 16 (.bin .or (t 11) (t 15)),
m 4 16])
.ret))), [.tmp 4]⟩
theorem ok_213 : compFn Tryz.prog [] 213 = some (CF.erase k_213) := by kernel_rfl

def k_251 : CF := ⟨47,
(.seq
(.ops false [] [
o 4 (.box (t 1))])
(.seq
(.ops false [] [
m 8 0,
o 9 (.nck (t 8)),
o 10 (.fad 0 (t 9)),
o 11 (.ld none (t 10)),
o 12 (.bin .add (t 11) (.c i1)),
o 13 (.nck (t 8)),
o 14 (.fad 0 (t 13)),
⟨none,none,.st 1 (t 14) (t 12)⟩])
(.seq
(.seq
(.ops false [] [
m 15 0,
o 16 (.nck (t 15)),
o 17 (.fad 0 (t 16)),
o 18 (.ld none (t 17)),
o 19 (.bin .gtr (t 18) (.c (.d (.sc (.int .i64 20000))))),
m 20 19,
⟨(some 21),(some ((some 20),false)),.mov (t 2)⟩,
⟨(some 22),(some ((some 20),false)),.bin .gtr (t 21) (.c (.d (.sc (.int .i64 12))))⟩,
o 23 (.pick (t 20) (.c bT) (t 22))])
(.cond (t 23)
(.ops false [] [
m 24 0,
o 25 (.nck (t 24)),
o 26 (.fad 1 (t 25)),
⟨none,none,.st 1 (t 26) (.c bT)⟩])
.skip))
(.seq
(.seq
(.ops false [] [
o 27 (.fad 0 (t 4)),
o 28 (.ld none (t 27)),
o 29 (.not (t 28))])
(.cond (t 29)
.ret
.skip))
(.seq
(.ops false [] [
o 30 (.fad 2 (t 4)),
o 31 (.ld none (t 30)),
o 32 (.len 0 (t 31)),
o 33 (.mov (.c i0))])
(.block 0
(.loop
(.trim [0, 2, 33, 31, 32]
(.seq
(.ops false [] [
o 34 (.bin .lss (t 33) (t 32))])
(.seq
(.cond (t 34)
.skip
(.exit 0))
(.seq
(.block 1
(.seq
(.ops false [] [
o 35 (.iad 3 (t 31) (t 33)),
o 36 (.ld (some 3) (t 35)),
o 7 (.box (.c (.agg [bF, e0, (.nil 3)]))),
⟨none,none,.st 3 (t 7) (t 36)⟩])
(.seq
(.seq
(.ops false [] [
m 37 0,
o 38 (.nck (t 37)),
o 39 (.fad 1 (t 38)),
o 40 (.ld none (t 39))])
(.cond (t 40)
.ret
.skip))
(.ops false [] [
m 41 0,
o 42 (.ld (some 3) (t 7)),
m 43 2,
o 44 (.bin .add (t 43) (.c i1)),
o 45 (.call (.fn 251) [(t 41), (t 42), (t 44)])]))))
(.ops false [] [
o 46 (.bin .add (t 33) (.c i1)),
m 33 46])))))))))))), []⟩
theorem ok_251 : compFn Tryz.prog [] 251 = some (CF.erase k_251) := by kernel_rfl

def k_243 : CF := ⟨36,
(.seq
(.ops false [] [
o 3 (.box (t 1))])
(.seq
(.seq
(.ops false [] [
o 6 (.fad 0 (t 3)),
o 7 (.ld none (t 6)),
o 8 (.not (t 7))])
(.cond (t 8)
(.seq
(.ops false [] [
m 9 0,
o 10 (.fad 1 (t 3)),
o 11 (.ld none (t 10)),
o 12 (.len 1 (t 11)),
o 13 (.call (.fn 250) [(t 12)]),
o 14 (.call (.fn 253) [(t 9), (t 13)])])
(.seq
(.ops false [] [
m 15 0,
o 16 (.call (.fn 254) [(t 15), (.c (.d (.sc (.int .u8 58))))])])
(.seq
(.ops false [] [
m 17 0,
o 18 (.fad 1 (t 3)),
o 19 (.ld none (t 18)),
o 20 (.call (.fn 253) [(t 17), (t 19)])])
.ret)))
.skip))
(.seq
(.ops false [] [
m 21 0,
o 22 (.call (.fn 254) [(t 21), (.c (.d (.sc (.int .u8 40))))])])
(.seq
(.seq
(.ops false [] [
o 23 (.fad 2 (t 3)),
o 24 (.ld none (t 23)),
o 25 (.len 0 (t 24)),
o 26 (.mov (.c i0))])
(.block 0
(.loop
(.trim [26, 0, 24, 25]
(.seq
(.ops false [] [
o 27 (.bin .lss (t 26) (t 25))])
(.seq
(.cond (t 27)
.skip
(.exit 0))
(.seq
(.block 1
(.seq
(.ops false [] [
o 28 (.iad 3 (t 24) (t 26)),
o 29 (.ld (some 3) (t 28)),
o 5 (.box (.c (.agg [bF, e0, (.nil 3)]))),
⟨none,none,.st 3 (t 5) (t 29)⟩])
(.ops false [] [
m 30 0,
o 31 (.ld (some 3) (t 5)),
o 32 (.call (.fn 243) [(t 30), (t 31)])])))
(.ops false [] [
o 33 (.bin .add (t 26) (.c i1)),
m 26 33]))))))))
(.ops false [] [
m 34 0,
o 35 (.call (.fn 254) [(t 34), (.c (.d (.sc (.int .u8 41))))])]))))), []⟩
theorem ok_243 : compFn Tryz.prog [] 243 = some (CF.erase k_243) := by kernel_rfl

def k_252 : CF := ⟨43,
(.seq
(.ops false [] [
o 1 (.box (t 0)),
o 2 (.mov (.c i0))])
(.seq
(.block 0
(.seq
(.ops false [] [
o 7 (.fad 0 (t 1)),
o 8 (.ld none (t 7)),
m 9 8,
⟨(some 10),(some ((some 9),true)),.fad 1 (t 1)⟩,
⟨(some 11),(some ((some 9),true)),.ld none (t 10)⟩,
⟨(some 12),(some ((some 9),true)),.bin .neq (t 11) (.c e0)⟩,
o 13 (.pick (t 9) (t 12) (.c bF)),
m 14 13,
⟨(some 15),(some ((some 14),false)),.fad 0 (t 1)⟩,
⟨(some 16),(some ((some 14),false)),.ld none (t 15)⟩,
⟨(some 17),(some ((some 14),false)),.not (t 16)⟩,
⟨(some 18),(some ((some 14),false)),.mov (t 17)⟩,
⟨(some 19),(some ((some 18),true)),.fad 2 (t 1)⟩,
⟨(some 20),(some ((some 18),true)),.ld none (t 19)⟩,
⟨(some 21),(some ((some 18),true)),.len 0 (t 20)⟩,
⟨(some 22),(some ((some 18),true)),.bin .gtr (t 21) (.c i0)⟩,
⟨(some 23),(some ((some 14),false)),.pick (t 18) (t 22) (.c bF)⟩,
o 24 (.pick (t 14) (.c bT) (t 23)),
m 6 24])
(.cond (t 6)
(.seq
(.ops false [] [
o 2 (.mov (.c i1))])
.ret)
(.seq
(.ops false [] [
o 26 (.fad 1 (t 1)),
o 27 (.ld none (t 26)),
o 28 (.len 1 (t 27)),
o 29 (.bin .gtr (t 28) (.c (.d (.sc (.int .i64 65536))))),
m 25 29])
(.cond (t 25)
(.seq
(.ops false [] [
o 2 (.mov (.c (.d (.sc (.int .i64 4)))))])
.ret)
.skip)))))
(.seq
(.seq
(.ops false [] [
o 30 (.fad 2 (t 1)),
o 31 (.ld none (t 30)),
o 32 (.len 0 (t 31)),
o 33 (.mov (.c i0))])
(.block 1
(.loop
(.trim [33, 31, 32]
(.seq
(.ops false [] [
o 34 (.bin .lss (t 33) (t 32))])
(.seq
(.cond (t 34)
.skip
(.exit 1))
(.seq
(.block 2
(.seq
(.ops false [] [
o 35 (.iad 3 (t 31) (t 33)),
o 36 (.ld (some 3) (t 35)),
o 4 (.box (.c (.agg [bF, e0, (.nil 3)]))),
⟨none,none,.st 3 (t 4) (t 36)⟩])
(.seq
(.ops false [] [
o 37 (.ld (some 3) (t 4)),
o 38 (.call (.fn 252) [(t 37)]),
m 5 38])
(.seq
(.ops false [] [
m 39 5,
o 40 (.bin .neq (t 39) (.c i0))])
(.cond (t 40)
(.seq
(.ops false [] [
m 41 5,
m 2 41])
.ret)
.skip)))))
(.ops false [] [
o 42 (.bin .add (t 33) (.c i1)),
m 33 42]))))))))
(.seq
(.ops false [] [
o 2 (.mov (.c i0))])
.ret)))), [.tmp 2]⟩
theorem ok_252 : compFn Tryz.prog [] 252 = some (CF.erase k_252) := by kernel_rfl

def k_250 : CF := ⟨5,
(.seq
(.ops false [] [
o 2 (.mov (.c e0))])
(.seq
(.ops false [] [
m 3 0,
o 4 (.call (.fn 257) [(t 3)]),
m 2 4])
.ret)), [.tmp 2]⟩
theorem ok_250 : compFn Tryz.prog [] 250 = some (CF.erase k_250) := by kernel_rfl

def k_257 : CF := ⟨5,
(.seq
(.ops false [] [
o 2 (.mov (.c e0))])
(.seq
(.ops false [] [
m 3 0,
o 4 (.call (.fn 259) [(t 3), (.c (.d (.sc (.int .i64 10))))]),
m 2 4])
.ret)), [.tmp 2]⟩
theorem ok_257 : compFn Tryz.prog [] 257 = some (CF.erase k_257) := by kernel_rfl

def k_259 : CF := ⟨54,
(.seq
(.ops false [] [
o 4 (.mov (.c e0))])
(.seq
(.seq
(.ops false [] [
m 10 1,
o 11 (.bin .eql (t 10) (.c (.d (.sc (.int .i64 10)))))])
(.cond (t 11)
(.seq
(.seq
(.ops false [] [
m 12 0,
o 13 (.bin .leq (.c i0) (t 12)),
m 14 13,
⟨(some 15),(some ((some 14),true)),.mov (t 0)⟩,
⟨(some 16),(some ((some 14),true)),.bin .lss (t 15) (.c (.d (.sc (.int .i64 100))))⟩,
o 17 (.pick (t 14) (t 16) (.c bF))])
(.cond (t 17)
(.seq
(.ops false [] [
m 18 0,
o 19 (.call (.fn 261) [(t 18)]),
m 4 19])
.ret)
.skip))
(.seq
(.ops false [] [
o 5 (.box (.c (.agg [z, z, z, z, z, z, z, z, z, z, z, z, z, z, z, z, z, z, z, z, z, z, z, z])))])
(.seq
(.ops false [] [
m 20 0,
o 21 (.cnv .u64 (t 20)),
m 6 21])
(.seq
(.seq
(.ops false [] [
m 22 0,
o 23 (.bin .lss (t 22) (.c i0))])
(.cond (t 23)
(.ops false [] [
m 24 6,
o 25 (.un .neg (t 24)),
m 6 25])
.skip))
(.seq
(.ops false [] [
m 26 6,
o 27 (.call (.fn 262) [(t 26)]),
m 7 27])
(.seq
(.ops false [] [
m 28 7,
o 29 (.bin .add (.c i1) (t 28)),
o 30 (.sla 24 1 (t 5) (some (.c i1)) (some (t 29))),
m 31 6,
o 32 (.call (.fn 263) [(t 30), (t 31)])])
(.seq
(.seq
(.ops false [] [
m 33 0,
o 34 (.bin .lss (t 33) (.c i0))])
(.cond (t 34)
(.seq
(.ops false [] [
o 35 (.iap 24 1 (t 5) (.c i0)),
⟨none,none,.st 1 (t 35) (.c (.d (.sc (.int .u8 45))))⟩])
(.seq
(.ops false [] [
m 36 7,
o 37 (.bin .add (.c i1) (t 36)),
o 38 (.sla 24 1 (t 5) none (some (t 37))),
o 39 (.b2s (t 38)),
m 4 39])
.ret))
.skip))
(.seq
(.ops false [] [
m 40 7,
o 41 (.bin .add (.c i1) (t 40)),
o 42 (.sla 24 1 (t 5) (some (.c i1)) (some (t 41))),
o 43 (.b2s (t 42)),
m 4 43])
.ret))))))))
.skip))
(.seq
(.ops false [] [
m 45 0,
o 46 (.cnv .u64 (t 45)),
m 47 1,
m 48 0,
o 49 (.bin .lss (t 48) (.c i0)),
o 50 (.call (.fn 264) [(.c (.nil 1)), (t 46), (t 47), (t 49), (.c bF)]),
m 44 50,
o 51 (.ext (t 44) 0),
o 52 (.ext (t 44) 1),
m 8 51,
m 9 52])
(.seq
(.ops false [] [
m 53 9,
m 4 53])
.ret)))), [.tmp 4]⟩
theorem ok_259 : compFn Tryz.prog [] 259 = some (CF.erase k_259) := by kernel_rfl

def k_261 : CF := ⟨15,
(.seq
(.ops false [] [
o 2 (.mov (.c e0))])
(.seq
(.seq
(.ops false [] [
m 3 0,
o 4 (.bin .lss (t 3) (.c (.d (.sc (.int .i64 10)))))])
(.cond (t 4)
(.seq
(.ops false [] [
m 5 0,
m 6 0,
o 7 (.bin .add (t 6) (.c i1)),
⟨(some 8),none,.sls (.c (.d (.sc (.string ⟨#[48, 49, 50, 51, 52, 53, 54, 55, 56, 57, 97, 98, 99, 100, 101, 102, 103, 104, 105, 106, 107, 108, 109, 110, 111, 112, 113, 114, 115, 116, 117, 118, 119, 120, 121, 122]⟩)))) (some (t 5)) (some (t 7))⟩,
m 2 8])
.ret)
.skip))
(.seq
(.ops false [] [
m 9 0,
o 10 (.bin .mul (t 9) (.c (.d (.sc (.int .i64 2))))),
m 11 0,
o 12 (.bin .mul (t 11) (.c (.d (.sc (.int .i64 2))))),
o 13 (.bin .add (t 12) (.c (.d (.sc (.int .i64 2))))),
⟨(some 14),none,.sls (.c (.d (.sc (.string ⟨#[48, 48, 48, 49, 48, 50, 48, 51, 48, 52, 48, 53, 48, 54, 48, 55, 48, 56, 48, 57, 49, 48, 49, 49, 49, 50, 49, 51, 49, 52, 49, 53, 49, 54, 49, 55, 49, 56, 49, 57, 50, 48, 50, 49, 50, 50, 50, 51, 50, 52, 50, 53, 50, 54, 50, 55, 50, 56, 50, 57, 51, 48, 51, 49, 51, 50, 51, 51, 51, 52, 51, 53, 51, 54, 51, 55, 51, 56, 51, 57, 52, 48, 52, 49, 52, 50, 52, 51, 52, 52, 52, 53, 52, 54, 52, 55, 52, 56, 52, 57, 53, 48, 53, 49, 53, 50, 53, 51, 53, 52, 53, 53, 53, 54, 53, 55, 53, 56, 53, 57, 54, 48, 54, 49, 54, 50, 54, 51, 54, 52, 54, 53, 54, 54, 54, 55, 54, 56, 54, 57, 55, 48, 55, 49, 55, 50, 55, 51, 55, 52, 55, 53, 55, 54, 55, 55, 55, 56, 55, 57, 56, 48, 56, 49, 56, 50, 56, 51, 56, 52, 56, 53, 56, 54, 56, 55, 56, 56, 56, 57, 57, 48, 57, 49, 57, 50, 57, 51, 57, 52, 57, 53, 57, 54, 57, 55, 57, 56, 57, 57]⟩)))) (some (t 10)) (some (t 13))⟩,
m 2 14])
.ret))), [.tmp 2]⟩
theorem ok_261 : compFn Tryz.prog [] 261 = some (CF.erase k_261) := by kernel_rfl

def k_142 : CF := ⟨7,
(.seq
(.ops false [] [
o 1 (.box (t 0)),
o 2 (.mov (.c bF))])
(.seq
(.ops false [] [
o 3 (.fad 0 (t 1)),
o 4 (.ld (some 32) (t 3)),
o 5 (.bld [z, z, z, z, z, z, z, z, z, z, z, z, z, z, z, z, z, z, z, z, z, z, z, z, z, z, z, z, z, z, z, z] []),
o 6 (.eqa true [.i, .i, .i, .i, .i, .i, .i, .i, .i, .i, .i, .i, .i, .i, .i, .i, .i, .i, .i, .i, .i, .i, .i, .i, .i, .i, .i, .i, .i, .i, .i, .i] false (t 4) (t 5)),
m 2 6])
.ret)), [.tmp 2]⟩
theorem ok_142 : compFn Tryz.prog [] 142 = some (CF.erase k_142) := by kernel_rfl

def k_228 : CF := ⟨7,
(.seq
(.ops false [] [
o 3 (.mov (.c bF))])
(.seq
(.ops false [] [
m 4 0,
o 5 (.ld none (t 1)),
o 6 (.call (.fn 229) [(t 4), (t 5)]),
m 3 6])
.ret)), [.tmp 3]⟩
theorem ok_228 : compFn Tryz.prog [] 228 = some (CF.erase k_228) := by kernel_rfl

def k_229 : CF := ⟨9,
(.seq
(.ops false [] [
o 4 (.mov (.c bF))])
(.seq
(.ops false [] [
m 5 0,
m 6 1,
o 7 (.call (.fn 248) [(t 5), (t 6)]),
o 8 (.bin .geq (t 7) (.c i0)),
m 4 8])
.ret)), [.tmp 4]⟩
theorem ok_229 : compFn Tryz.prog [] 229 = some (CF.erase k_229) := by kernel_rfl

def k_248 : CF := ⟨19,
(.seq
(.ops false [] [
o 4 (.mov (.c i0))])
(.seq
(.seq
(.ops false [] [
m 6 0,
o 7 (.len 0 (t 6)),
o 8 (.mov (.c i0))])
(.block 0
(.loop
(.trim [8, 0, 1, 7]
(.seq
(.ops false [] [
o 9 (.bin .lss (t 8) (t 7))])
(.seq
(.cond (t 9)
.skip
(.exit 0))
(.seq
(.block 1
(.seq
(.ops false [] [
m 10 8,
m 5 10])
(.seq
(.ops false [] [
m 11 1,
m 12 0,
m 13 5,
o 14 (.iad 1 (t 12) (t 13)),
o 15 (.ld none (t 14)),
o 16 (.bin .eql (t 11) (t 15))])
(.cond (t 16)
(.seq
(.ops false [] [
m 17 5,
m 4 17])
.ret)
.skip))))
(.ops false [] [
o 18 (.bin .add (t 8) (.c i1)),
m 8 18]))))))))
(.seq
(.ops false [] [
o 4 (.mov (.c (.d (.sc (.int .i64 (-1))))))])
.ret))), [.tmp 4]⟩
theorem ok_248 : compFn Tryz.prog [] 248 = some (CF.erase k_248) := by kernel_rfl

def k_207 : CF := ⟨5,
(.seq
(.ops false [] [
o 2 (.box (.c (.agg [bF, e0, (.nil 3)])))])
(.seq
(.ops false [] [
m 3 0,
o 4 (.bld [bF, e0, (.nil 3)] [(0, 1, (.c bT)), (2, 1, (t 3))]),
⟨none,none,.st 3 (t 2) (t 4)⟩])
.ret)), [.cell 2 (some 3)]⟩
theorem ok_207 : compFn Tryz.prog [] 207 = some (CF.erase k_207) := by kernel_rfl

def k_208 : CF := ⟨5,
(.seq
(.ops false [] [
o 2 (.box (.c (.agg [bF, e0, (.nil 3)])))])
(.seq
(.ops false [] [
m 3 0,
o 4 (.bld [bF, e0, (.nil 3)] [(1, 1, (t 3))]),
⟨none,none,.st 3 (t 2) (t 4)⟩])
.ret)), [.cell 2 (some 3)]⟩
theorem ok_208 : compFn Tryz.prog [] 208 = some (CF.erase k_208) := by kernel_rfl

def k_127 : CF := ⟨8,
(.seq
(.ops false [] [
o 3 (.box (.c (.agg [z, z, z, z, z, z, z, z, z, z, z, z, z, z, z, z, z, z, z, z, z, z, z, z, z, z, z, z, z, z, z, z, i0])))])
(.seq
(.ops false [] [
o 4 (.ld none (t 1)),
m 5 0,
o 6 (.bin .add (t 4) (t 5)),
o 7 (.bld [z, z, z, z, z, z, z, z, z, z, z, z, z, z, z, z, z, z, z, z, z, z, z, z, z, z, z, z, z, z, z, z, i0] [(32, 1, (t 6))]),
⟨none,none,.st 33 (t 3) (t 7)⟩])
.ret)), [.cell 3 (some 33)]⟩
theorem ok_127 : compFn Tryz.prog [] 127 = some (CF.erase k_127) := by kernel_rfl

def k_210 : CF := ⟨11,
(.seq
(.ops false [] [
o 2 (.box (.c (.agg [bF, e0, (.nil 3)])))])
(.seq
(.ops false [] [
m 6 0,
o 7 (.call (.fn 241) [(t 6)]),
m 5 7,
o 8 (.ext (t 5) 0),
o 9 (.ext (t 5) 1),
o 3 (.box (.c (.agg [bF, e0, (.nil 3)]))),
⟨none,none,.st 3 (t 3) (t 8)⟩,
m 4 9])
(.seq
(.ops false [] [
o 10 (.ld (some 3) (t 3)),
⟨none,none,.st 3 (t 2) (t 10)⟩])
.ret))), [.cell 2 (some 3)]⟩
theorem ok_210 : compFn Tryz.prog [] 210 = some (CF.erase k_210) := by kernel_rfl

def k_241 : CF := ⟨14,
(.seq
(.ops false [] [
o 2 (.box (.c (.agg [bF, e0, (.nil 3)]))),
o 3 (.mov (.c i0))])
(.seq
(.seq
(.ops false [] [
m 4 0,
o 5 (.bin .lss (t 4) (.c (.d (.sc (.int .i64 (-1099511627776)))))),
m 6 5,
⟨(some 7),(some ((some 6),false)),.mov (t 0)⟩,
⟨(some 8),(some ((some 6),false)),.bin .gtr (t 7) (.c (.d (.sc (.int .i64 1099511627776))))⟩,
o 9 (.pick (t 6) (.c bT) (t 8))])
(.cond (t 9)
(.seq
(.ops false [] [
o 10 (.bld [bF, e0, (.nil 3)] []),
⟨none,none,.st 3 (t 2) (t 10)⟩,
o 3 (.mov (.c (.d (.sc (.int .i64 2)))))])
.ret)
.skip))
(.seq
(.ops false [] [
m 11 0,
o 12 (.call (.fn 250) [(t 11)]),
o 13 (.bld [bF, e0, (.nil 3)] [(1, 1, (t 12))]),
⟨none,none,.st 3 (t 2) (t 13)⟩,
o 3 (.mov (.c i0))])
.ret))), [.cell 2 (some 3), .tmp 3]⟩
theorem ok_241 : compFn Tryz.prog [] 241 = some (CF.erase k_241) := by kernel_rfl

def k_156 : CF := ⟨14,
(.seq
(.ops false [] [
o 2 (.box (t 0)),
o 3 (.box (.c (.agg [z, z, z, z, z, z, z, z, z, z, z, z, z, z, z, z, z, z, z, z, z, z, z, z, z, z, z, z, z, z, z, z, i0])))])
(.seq
(.seq
(.ops false [] [
o 4 (.ld (some 33) (t 2)),
o 5 (.call (.fn 142) [(t 4)]),
m 6 5,
⟨(some 7),(some ((some 6),true)),.fad 32 (t 2)⟩,
⟨(some 8),(some ((some 6),true)),.ld none (t 7)⟩,
⟨(some 9),(some ((some 6),true)),.bin .geq (t 8) (.c i0)⟩,
o 10 (.pick (t 6) (t 9) (.c bF))])
(.cond (t 10)
(.ops false [] [
o 11 (.ld (some 32) (t 1)),
o 12 (.fad 0 (t 2)),
⟨none,none,.st 32 (t 12) (t 11)⟩])
.skip))
(.seq
(.ops false [] [
o 13 (.ld (some 33) (t 2)),
⟨none,none,.st 33 (t 3) (t 13)⟩])
.ret))), [.cell 3 (some 33)]⟩
theorem ok_156 : compFn Tryz.prog [] 156 = some (CF.erase k_156) := by kernel_rfl

def k_183 : CF := ⟨11,
(.seq
(.ops false [] [
o 3 (.box (t 0))])
(.ops false [] [
o 5 (.ld none (t 2)),
o 6 (.ld (some 33) (t 3)),
m 7 1,
o 8 (.bld [z, z, z, z, z, z, z, z, z, z, z, z, z, z, z, z, z, z, z, z, z, z, z, z, z, z, z, z, z, z, z, z, i0, (.d (.sc .nilFunc))] [(0, 33, (t 6)), (33, 1, (t 7))]),
o 9 (.bsl false 216 34 1 [z, z, z, z, z, z, z, z, z, z, z, z, z, z, z, z, z, z, z, z, z, z, z, z, z, z, z, z, z, z, z, z, i0, (.d (.sc .nilFunc))] [(0, 34, (t 8))]),
o 10 (.app false 216 34 48 (t 5) (t 9)),
⟨none,none,.st 1 (t 2) (t 10)⟩])), []⟩
theorem ok_183 : compFn Tryz.prog [] 183 = some (CF.erase k_183) := by kernel_rfl

def k_233 : CF := ⟨20,
(.seq
(.ops false [] [
o 1 (.box (t 0)),
o 2 (.box (.c (.agg [bF, e0, (.nil 3)])))])
(.seq
(.seq
(.ops false [] [
o 3 (.ld (some 33) (t 1)),
o 4 (.call (.fn 142) [(t 3)])])
(.cond (t 4)
(.seq
(.ops true [0, 0, 2, 7, 15, 31, 63] [
o 5 (.call (.fn 208) [(.c e0)]),
o 6 (.fad 32 (t 1)),
o 7 (.ld none (t 6)),
o 8 (.call (.fn 210) [(t 7)]),
o 9 (.bsl false 273 3 2 [bF, e0, (.nil 3), bF, e0, (.nil 3)] [(0, 3, (t 5)), (3, 3, (t 8))]),
o 10 (.call (.fn 207) [(t 9)]),
⟨none,none,.st 3 (t 2) (t 10)⟩])
.ret)
.skip))
(.seq
(.ops true [0, 1, 3, 7, 0, 16, 63, 127, 255, 511] [
o 11 (.fad 0 (t 1)),
o 12 (.sla 32 1 (t 11) none none),
o 13 (.b2s (t 12)),
o 14 (.call (.fn 208) [(t 13)]),
o 15 (.fad 32 (t 1)),
o 16 (.ld none (t 15)),
o 17 (.call (.fn 210) [(t 16)]),
o 18 (.bsl false 273 3 2 [bF, e0, (.nil 3), bF, e0, (.nil 3)] [(0, 3, (t 14)), (3, 3, (t 17))]),
o 19 (.call (.fn 207) [(t 18)]),
⟨none,none,.st 3 (t 2) (t 19)⟩])
.ret))), [.cell 2 (some 3)]⟩
theorem ok_233 : compFn Tryz.prog [] 233 = some (CF.erase k_233) := by kernel_rfl

def k_141 : CF := ⟨76,
(.seq
(.ops false [] [
o 1 (.box (t 0)),
o 2 (.mov (.c (.nil 34)))])
(.seq
(.ops false [] [
o 3 (.box (.c (.nil 34)))])
(.seq
(.ops false [] [
o 8 (.mkf 183 [] [(t 3)]),
m 4 8])
(.seq
(.seq
(.ops false [] [
o 9 (.fad 0 (t 1)),
o 10 (.ld none (t 9))])
(.block 0
(.seq
(.seq
(.ops false [] [
o 12 (.bin .eql (t 10) (.c (.d (.sc (.int .i64 2))))),
m 11 12])
(.cond (t 11)
.skip
(.ops false [] [
o 13 (.bin .eql (t 10) (.c (.d (.sc (.int .i64 3))))),
m 11 13])))
(.cond (t 11)
(.ops false [] [
m 14 4,
o 15 (.fad 1 (t 1)),
o 16 (.ld (some 33) (t 15)),
o 17 (.call (.val (t 14)) [(t 16), (.c (.clo 184 [] []))])])
(.seq
(.ops false [] [
o 19 (.bin .eql (t 10) (.c (.d (.sc (.int .i64 4))))),
m 18 19])
(.cond (t 18)
(.ops false [] [
m 20 4,
o 21 (.fad 1 (t 1)),
o 22 (.ld (some 33) (t 21)),
o 23 (.call (.val (t 20)) [(t 22), (.c (.clo 185 [] []))])])
(.seq
(.seq
(.ops false [] [
o 25 (.bin .eql (t 10) (.c (.d (.sc (.int .i64 5))))),
m 24 25])
(.cond (t 24)
.skip
(.ops false [] [
o 26 (.bin .eql (t 10) (.c (.d (.sc (.int .i64 6))))),
m 24 26])))
(.cond (t 24)
(.ops false [] [
m 27 4,
o 28 (.fad 1 (t 1)),
o 29 (.ld (some 33) (t 28)),
o 30 (.call (.val (t 27)) [(t 29), (.c (.clo 186 [] []))])])
.skip))))))))
(.seq
(.seq
(.ops true [0, 1, 3, 7, 15, 31, 15, 127, 255] [
o 31 (.fad 0 (t 1)),
o 32 (.ld none (t 31)),
o 33 (.bin .eql (t 32) (.c (.d (.sc (.int .i64 2))))),
m 34 33,
⟨(some 35),(some ((some 34),true)),.fad 35 (t 1)⟩,
⟨(some 36),(some ((some 34),true)),.ld (some 33) (t 35)⟩,
⟨(some 37),(some ((some 34),true)),.call (.fn 187) []⟩,
⟨(some 38),(some ((some 34),true)),.eqa true [.i, .i, .i, .i, .i, .i, .i, .i, .i, .i, .i, .i, .i, .i, .i, .i, .i, .i, .i, .i, .i, .i, .i, .i, .i, .i, .i, .i, .i, .i, .i, .i, .i] true (t 36) (t 37)⟩,
o 39 (.pick (t 34) (t 38) (.c bF))])
(.cond (t 39)
(.ops false [] [
m 40 4,
o 41 (.fad 35 (t 1)),
o 42 (.ld (some 33) (t 41)),
o 43 (.call (.val (t 40)) [(t 42), (.c (.clo 188 [] []))])])
.skip))
(.seq
(.seq
(.ops false [] [
o 44 (.fad 0 (t 1)),
o 45 (.ld none (t 44)),
o 46 (.bin .eql (t 45) (.c (.d (.sc (.int .i64 5))))),
m 47 46,
⟨(some 48),(some ((some 47),false)),.fad 0 (t 1)⟩,
⟨(some 49),(some ((some 47),false)),.ld none (t 48)⟩,
⟨(some 50),(some ((some 47),false)),.bin .eql (t 49) (.c (.d (.sc (.int .i64 6))))⟩,
o 51 (.pick (t 47) (.c bT) (t 50))])
(.cond (t 51)
(.seq
(.ops false [] [
o 52 (.mkf 189 [] [(t 1)]),
m 5 52])
(.seq
(.ops false [] [
m 53 4,
o 54 (.fad 71 (t 1)),
o 55 (.ld (some 33) (t 54)),
m 56 5,
o 57 (.call (.val (t 53)) [(t 55), (t 56)])])
(.ops false [] [
m 58 4,
o 59 (.fad 104 (t 1)),
o 60 (.ld (some 33) (t 59)),
m 61 5,
o 62 (.call (.val (t 58)) [(t 60), (t 61)])])))
.skip))
(.seq
(.seq
(.ops false [] [
o 63 (.fad 138 (t 1)),
o 64 (.ld none (t 63)),
o 65 (.len 0 (t 64)),
o 66 (.mov (.c i0))])
(.block 1
(.loop
(.trim [66, 1, 4, 64, 3, 65]
(.seq
(.ops false [] [
o 67 (.bin .lss (t 66) (t 65))])
(.seq
(.cond (t 67)
.skip
(.exit 1))
(.seq
(.block 2
(.seq
(.ops false [] [
o 68 (.iad 33 (t 64) (t 66)),
o 69 (.ld (some 33) (t 68)),
o 7 (.box (.c (.agg [z, z, z, z, z, z, z, z, z, z, z, z, z, z, z, z, z, z, z, z, z, z, z, z, z, z, z, z, z, z, z, z, i0]))),
⟨none,none,.st 33 (t 7) (t 69)⟩])
(.ops false [] [
m 70 4,
o 71 (.ld (some 33) (t 7)),
o 72 (.mkf 190 [] [(t 1)]),
o 73 (.call (.val (t 70)) [(t 71), (t 72)])])))
(.ops false [] [
o 74 (.bin .add (t 66) (.c i1)),
m 66 74]))))))))
(.seq
(.ops false [] [
o 75 (.ld none (t 3)),
m 2 75])
.ret)))))))), [.tmp 2]⟩
theorem ok_141 : compFn Tryz.prog [] 141 = some (CF.erase k_141) := by kernel_rfl

def k_70 : CF := ⟨8,
(.seq
(.ops false [] [
o 2 (.mov (.c i0))])
(.seq
(.cond (.c bF)
(.seq
(.ops false [] [
m 3 0,
o 4 (.cnv .u32 (t 3)),
o 5 (.call (.fn 111) [(t 4)]),
m 2 5])
.ret)
.skip)
(.seq
(.ops false [] [
m 6 0,
o 7 (.call (.fn 112) [(t 6)]),
m 2 7])
.ret))), [.tmp 2]⟩
theorem ok_70 : compFn Tryz.prog [] 70 = some (CF.erase k_70) := by kernel_rfl

def k_112 : CF := ⟨25,
(.seq
(.ops false [] [
o 2 (.mov (.c i0))])
(.seq
(.seq
(.ops false [] [
m 3 0,
o 4 (.bin .geq (t 3) (.c (.d (.sc (.int .u64 4294967296)))))])
(.cond (t 4)
(.seq
(.ops false [] [
m 5 0,
o 6 (.bin .shr (t 5) (.c (.d (.sc (.int .u64 32))))),
m 0 6])
(.ops false [] [
o 2 (.mov (.c (.d (.sc (.int .i64 32)))))]))
.skip))
(.seq
(.seq
(.ops false [] [
m 7 0,
o 8 (.bin .geq (t 7) (.c (.d (.sc (.int .u64 65536)))))])
(.cond (t 8)
(.seq
(.ops false [] [
m 9 0,
o 10 (.bin .shr (t 9) (.c (.d (.sc (.int .u64 16))))),
m 0 10])
(.ops false [] [
m 11 2,
o 12 (.bin .add (t 11) (.c (.d (.sc (.int .i64 16))))),
m 2 12]))
.skip))
(.seq
(.seq
(.ops false [] [
m 13 0,
o 14 (.bin .geq (t 13) (.c (.d (.sc (.int .u64 256)))))])
(.cond (t 14)
(.seq
(.ops false [] [
m 15 0,
o 16 (.bin .shr (t 15) (.c (.d (.sc (.int .u64 8))))),
m 0 16])
(.ops false [] [
m 17 2,
o 18 (.bin .add (t 17) (.c (.d (.sc (.int .i64 8))))),
m 2 18]))
.skip))
(.seq
(.ops false [] [
m 19 2,
m 20 0,
o 21 (.cnv .u8 (t 20)),
⟨(some 22),none,.six (.c (.d (.sc (.string ⟨#[0, 1, 2, 2, 3, 3, 3, 3, 4, 4, 4, 4, 4, 4, 4, 4, 5, 5, 5, 5, 5, 5, 5, 5, 5, 5, 5, 5, 5, 5, 5, 5, 6, 6, 6, 6, 6, 6, 6, 6, 6, 6, 6, 6, 6, 6, 6, 6, 6, 6, 6, 6, 6, 6, 6, 6, 6, 6, 6, 6, 6, 6, 6, 6, 7, 7, 7, 7, 7, 7, 7, 7, 7, 7, 7, 7, 7, 7, 7, 7, 7, 7, 7, 7, 7, 7, 7, 7, 7, 7, 7, 7, 7, 7, 7, 7, 7, 7, 7, 7, 7, 7, 7, 7, 7, 7, 7, 7, 7, 7, 7, 7, 7, 7, 7, 7, 7, 7, 7, 7, 7, 7, 7, 7, 7, 7, 7, 7, 8, 8, 8, 8, 8, 8, 8, 8, 8, 8, 8, 8, 8, 8, 8, 8, 8, 8, 8, 8, 8, 8, 8, 8, 8, 8, 8, 8, 8, 8, 8, 8, 8, 8, 8, 8, 8, 8, 8, 8, 8, 8, 8, 8, 8, 8, 8, 8, 8, 8, 8, 8, 8, 8, 8, 8, 8, 8, 8, 8, 8, 8, 8, 8, 8, 8, 8, 8, 8, 8, 8, 8, 8, 8, 8, 8, 8, 8, 8, 8, 8, 8, 8, 8, 8, 8, 8, 8, 8, 8, 8, 8, 8, 8, 8, 8, 8, 8, 8, 8, 8, 8, 8, 8, 8, 8, 8, 8, 8, 8, 8, 8, 8, 8, 8, 8, 8, 8, 8, 8, 8, 8, 8, 8, 8, 8, 8, 8]⟩)))) (t 21)⟩,
o 23 (.cnv .i64 (t 22)),
o 24 (.bin .add (t 19) (t 23)),
m 2 24])
.ret))))), [.tmp 2]⟩
theorem ok_112 : compFn Tryz.prog [] 112 = some (CF.erase k_112) := by kernel_rfl

def k_81 : CF := ⟨6,
(.seq
(.ops false [] [
o 2 (.box (t 0)),
o 3 (.box (t 1)),
o 4 (.mov (.c (.d (.sc .nilFunc))))])
(.seq
(.ops false [] [
o 5 (.mkf 126 [] [(t 3), (t 2)]),
m 4 5])
.ret)), [.tmp 4]⟩
theorem ok_81 : compFn Tryz.prog [] 81 = some (CF.erase k_81) := by kernel_rfl

def k_126 : CF := ⟨144,
(.seq
(.ops false [] [
o 11 (.mkf 127 [] [(t 1)]),
m 4 11])
(.seq
(.ops false [] [
o 12 (.fad 0 (t 2)),
o 13 (.ld none (t 12))])
(.block 0
(.seq
(.ops false [] [
o 15 (.bin .eql (t 13) (.c i1)),
m 14 15])
(.cond (t 14)
(.ops true [0, 0, 2, 0, 14, 0, 32, 126, 255] [
m 16 0,
m 17 4,
o 18 (.call (.val (t 17)) [(.c i0)]),
m 19 4,
o 20 (.call (.val (t 19)) [(.c i0)]),
o 21 (.fad 34 (t 2)),
o 22 (.ld none (t 21)),
o 23 (.bld [z, z, z, z, z, z, z, z, z, z, z, z, z, z, z, z, z, z, z, z, z, z, z, z, z, z, z, z, z, z, z, z, i0, i0, z, z, z, z, z, z, z, z, z, z, z, z, z, z, z, z, z, z, z, z, z, z, z, z, z, z, z, z, z, z, z, z, i0, i0, z, z, z, z, z, z, z, z, z, z, z, z, z, z, z, z, z, z, z, z, z, z, z, z, z, z, z, z, z, z, z, z, i0, e0, i0, e0, e0, z, z, z, z, z, z, z, z, z, z, z, z, z, z, z, z, z, z, z, z, z, z, z, z, z, z, z, z, z, z, z, z, i0, z, z, z, z, z, z, z, z, z, z, z, z, z, z, z, z, z, z, z, z, z, z, z, z, z, z, z, z, z, z, z, z, i0, (.nil 33)] [(0, 33, (t 18)), (33, 1, (.c i1)), (34, 33, (t 20)), (67, 1, (t 22))]),
o 24 (.call (.val (t 16)) [(t 23)])])
(.seq
(.ops false [] [
o 26 (.bin .eql (t 13) (.c (.d (.sc (.int .i64 2))))),
m 25 26])
(.cond (t 25)
(.ops true [0, 0, 2, 0, 8, 0, 32, 0, 128, 0, 512, 2046, 4095] [
m 27 0,
m 28 4,
o 29 (.call (.val (t 28)) [(.c i0)]),
o 30 (.fad 1 (t 2)),
o 31 (.ld (some 33) (t 30)),
o 32 (.fad 35 (t 2)),
o 33 (.ld (some 33) (t 32)),
o 34 (.fad 68 (t 2)),
o 35 (.ld none (t 34)),
o 36 (.fad 138 (t 2)),
o 37 (.ld none (t 36)),
o 38 (.bld [z, z, z, z, z, z, z, z, z, z, z, z, z, z, z, z, z, z, z, z, z, z, z, z, z, z, z, z, z, z, z, z, i0, i0, z, z, z, z, z, z, z, z, z, z, z, z, z, z, z, z, z, z, z, z, z, z, z, z, z, z, z, z, z, z, z, z, i0, i0, z, z, z, z, z, z, z, z, z, z, z, z, z, z, z, z, z, z, z, z, z, z, z, z, z, z, z, z, z, z, z, z, i0, e0, i0, e0, e0, z, z, z, z, z, z, z, z, z, z, z, z, z, z, z, z, z, z, z, z, z, z, z, z, z, z, z, z, z, z, z, z, i0, z, z, z, z, z, z, z, z, z, z, z, z, z, z, z, z, z, z, z, z, z, z, z, z, z, z, z, z, z, z, z, z, i0, (.nil 33)] [(0, 33, (t 29)), (33, 1, (.c (.d (.sc (.int .i64 2))))), (34, 33, (t 31)), (68, 33, (t 33)), (101, 1, (t 35)), (171, 1, (t 37))]),
o 39 (.call (.val (t 27)) [(t 38)])])
(.seq
(.ops false [] [
o 41 (.bin .eql (t 13) (.c (.d (.sc (.int .i64 3))))),
m 40 41])
(.cond (t 40)
(.ops true [0, 0, 2, 0, 8, 0, 32, 0, 128, 510, 1023] [
m 42 0,
m 43 4,
o 44 (.call (.val (t 43)) [(.c i0)]),
o 45 (.fad 1 (t 2)),
o 46 (.ld (some 33) (t 45)),
o 47 (.fad 69 (t 2)),
o 48 (.ld none (t 47)),
o 49 (.fad 138 (t 2)),
o 50 (.ld none (t 49)),
o 51 (.bld [z, z, z, z, z, z, z, z, z, z, z, z, z, z, z, z, z, z, z, z, z, z, z, z, z, z, z, z, z, z, z, z, i0, i0, z, z, z, z, z, z, z, z, z, z, z, z, z, z, z, z, z, z, z, z, z, z, z, z, z, z, z, z, z, z, z, z, i0, i0, z, z, z, z, z, z, z, z, z, z, z, z, z, z, z, z, z, z, z, z, z, z, z, z, z, z, z, z, z, z, z, z, i0, e0, i0, e0, e0, z, z, z, z, z, z, z, z, z, z, z, z, z, z, z, z, z, z, z, z, z, z, z, z, z, z, z, z, z, z, z, z, i0, z, z, z, z, z, z, z, z, z, z, z, z, z, z, z, z, z, z, z, z, z, z, z, z, z, z, z, z, z, z, z, z, i0, (.nil 33)] [(0, 33, (t 44)), (33, 1, (.c (.d (.sc (.int .i64 3))))), (34, 33, (t 46)), (102, 1, (t 48)), (171, 1, (t 50))]),
o 52 (.call (.val (t 42)) [(t 51)])])
(.seq
(.ops false [] [
o 54 (.bin .eql (t 13) (.c (.d (.sc (.int .i64 4))))),
m 53 54])
(.cond (t 53)
(.ops true [0, 0, 2, 0, 8, 0, 32, 0, 128, 510, 1023] [
m 55 0,
m 56 4,
o 57 (.call (.val (t 56)) [(.c i0)]),
o 58 (.fad 1 (t 2)),
o 59 (.ld (some 33) (t 58)),
o 60 (.fad 70 (t 2)),
o 61 (.ld none (t 60)),
o 62 (.fad 138 (t 2)),
o 63 (.ld none (t 62)),
o 64 (.bld [z, z, z, z, z, z, z, z, z, z, z, z, z, z, z, z, z, z, z, z, z, z, z, z, z, z, z, z, z, z, z, z, i0, i0, z, z, z, z, z, z, z, z, z, z, z, z, z, z, z, z, z, z, z, z, z, z, z, z, z, z, z, z, z, z, z, z, i0, i0, z, z, z, z, z, z, z, z, z, z, z, z, z, z, z, z, z, z, z, z, z, z, z, z, z, z, z, z, z, z, z, z, i0, e0, i0, e0, e0, z, z, z, z, z, z, z, z, z, z, z, z, z, z, z, z, z, z, z, z, z, z, z, z, z, z, z, z, z, z, z, z, i0, z, z, z, z, z, z, z, z, z, z, z, z, z, z, z, z, z, z, z, z, z, z, z, z, z, z, z, z, z, z, z, z, i0, (.nil 33)] [(0, 33, (t 57)), (33, 1, (.c (.d (.sc (.int .i64 4))))), (34, 33, (t 59)), (103, 1, (t 61)), (171, 1, (t 63))]),
o 65 (.call (.val (t 55)) [(t 64)])])
(.seq
(.ops false [] [
o 67 (.bin .eql (t 13) (.c (.d (.sc (.int .i64 6))))),
m 66 67])
(.cond (t 66)
(.ops true [0, 0, 2, 0, 8, 0, 32, 0, 128, 0, 512, 2046, 4095] [
m 68 0,
m 69 4,
o 70 (.call (.val (t 69)) [(.c i0)]),
o 71 (.fad 1 (t 2)),
o 72 (.ld (some 33) (t 71)),
o 73 (.fad 71 (t 2)),
o 74 (.ld (some 33) (t 73)),
o 75 (.fad 104 (t 2)),
o 76 (.ld (some 33) (t 75)),
o 77 (.fad 138 (t 2)),
o 78 (.ld none (t 77)),
o 79 (.bld [z, z, z, z, z, z, z, z, z, z, z, z, z, z, z, z, z, z, z, z, z, z, z, z, z, z, z, z, z, z, z, z, i0, i0, z, z, z, z, z, z, z, z, z, z, z, z, z, z, z, z, z, z, z, z, z, z, z, z, z, z, z, z, z, z, z, z, i0, i0, z, z, z, z, z, z, z, z, z, z, z, z, z, z, z, z, z, z, z, z, z, z, z, z, z, z, z, z, z, z, z, z, i0, e0, i0, e0, e0, z, z, z, z, z, z, z, z, z, z, z, z, z, z, z, z, z, z, z, z, z, z, z, z, z, z, z, z, z, z, z, z, i0, z, z, z, z, z, z, z, z, z, z, z, z, z, z, z, z, z, z, z, z, z, z, z, z, z, z, z, z, z, z, z, z, i0, (.nil 33)] [(0, 33, (t 70)), (33, 1, (.c (.d (.sc (.int .i64 6))))), (34, 33, (t 72)), (105, 33, (t 74)), (138, 33, (t 76)), (171, 1, (t 78))]),
o 80 (.call (.val (t 68)) [(t 79)])])
(.seq
(.ops false [] [
o 82 (.bin .eql (t 13) (.c (.d (.sc (.int .i64 7))))),
m 81 82])
(.cond (t 81)
(.ops true [0, 0, 2, 0, 8, 30, 63] [
m 83 0,
m 84 4,
o 85 (.call (.val (t 84)) [(.c i0)]),
o 86 (.fad 138 (t 2)),
o 87 (.ld none (t 86)),
o 88 (.bld [z, z, z, z, z, z, z, z, z, z, z, z, z, z, z, z, z, z, z, z, z, z, z, z, z, z, z, z, z, z, z, z, i0, i0, z, z, z, z, z, z, z, z, z, z, z, z, z, z, z, z, z, z, z, z, z, z, z, z, z, z, z, z, z, z, z, z, i0, i0, z, z, z, z, z, z, z, z, z, z, z, z, z, z, z, z, z, z, z, z, z, z, z, z, z, z, z, z, z, z, z, z, i0, e0, i0, e0, e0, z, z, z, z, z, z, z, z, z, z, z, z, z, z, z, z, z, z, z, z, z, z, z, z, z, z, z, z, z, z, z, z, i0, z, z, z, z, z, z, z, z, z, z, z, z, z, z, z, z, z, z, z, z, z, z, z, z, z, z, z, z, z, z, z, z, i0, (.nil 33)] [(0, 33, (t 85)), (33, 1, (.c (.d (.sc (.int .i64 7))))), (171, 1, (t 87))]),
o 89 (.call (.val (t 83)) [(t 88)])])
(.seq
(.ops false [] [
o 91 (.bin .eql (t 13) (.c (.d (.sc (.int .i64 5))))),
m 90 91])
(.cond (t 90)
(.seq
(.seq
(.ops false [] [
o 92 (.fad 137 (t 2)),
o 93 (.ld none (t 92)),
o 94 (.len 0 (t 93)),
o 95 (.mov (.c i0))])
(.block 1
(.loop
(.trim [95, 2, 4, 0, 93, 94]
(.seq
(.ops false [] [
o 96 (.bin .lss (t 95) (t 94))])
(.seq
(.cond (t 96)
.skip
(.exit 1))
(.seq
(.block 2
(.seq
(.ops false [] [
m 97 95,
o 98 (.iad 1 (t 93) (t 95)),
o 99 (.ld none (t 98)),
m 5 97,
m 6 99])
(.seq
(.ops true [0, 0, 0, 6, 0, 16, 0, 126, 255, 511] [
m 100 0,
m 101 4,
m 102 5,
o 103 (.call (.val (t 101)) [(t 102)]),
o 104 (.fad 1 (t 2)),
o 105 (.ld (some 33) (t 104)),
m 106 6,
o 107 (.bld [z, z, z, z, z, z, z, z, z, z, z, z, z, z, z, z, z, z, z, z, z, z, z, z, z, z, z, z, z, z, z, z, i0, i0, z, z, z, z, z, z, z, z, z, z, z, z, z, z, z, z, z, z, z, z, z, z, z, z, z, z, z, z, z, z, z, z, i0, i0, z, z, z, z, z, z, z, z, z, z, z, z, z, z, z, z, z, z, z, z, z, z, z, z, z, z, z, z, z, z, z, z, i0, e0, i0, e0, e0, z, z, z, z, z, z, z, z, z, z, z, z, z, z, z, z, z, z, z, z, z, z, z, z, z, z, z, z, z, z, z, z, i0, z, z, z, z, z, z, z, z, z, z, z, z, z, z, z, z, z, z, z, z, z, z, z, z, z, z, z, z, z, z, z, z, i0, (.nil 33)] [(0, 33, (t 103)), (33, 1, (.c (.d (.sc (.int .i64 5))))), (34, 33, (t 105)), (104, 1, (t 106))]),
o 108 (.call (.val (t 100)) [(t 107)]),
o 109 (.not (t 108))])
(.cond (t 109)
.ret
.skip))))
(.ops false [] [
o 110 (.bin .add (t 95) (.c i1)),
m 95 110]))))))))
(.seq
(.ops false [] [
o 111 (.fad 137 (t 2)),
o 112 (.ld none (t 111)),
o 113 (.len 0 (t 112)),
m 7 113])
(.seq
(.ops false [] [
o 114 (.fad 71 (t 2)),
o 115 (.ld (some 33) (t 114)),
o 8 (.box (.c (.agg [z, z, z, z, z, z, z, z, z, z, z, z, z, z, z, z, z, z, z, z, z, z, z, z, z, z, z, z, z, z, z, z, i0]))),
⟨none,none,.st 33 (t 8) (t 115)⟩])
(.seq
(.ops false [] [
m 116 7,
o 117 (.bin .add (t 116) (.c i1)),
o 118 (.mov (.c i0))])
(.block 3
(.loop
(.trim [8, 118, 2, 7, 4, 0, 117]
(.seq
(.ops false [] [
o 119 (.bin .lss (t 118) (t 117))])
(.seq
(.cond (t 119)
.skip
(.exit 3))
(.seq
(.block 4
(.seq
(.ops false [] [
m 120 118,
m 9 120])
(.seq
(.ops false [] [
o 121 (.fad 104 (t 2)),
o 122 (.ld (some 33) (t 121)),
o 10 (.box (.c (.agg [z, z, z, z, z, z, z, z, z, z, z, z, z, z, z, z, z, z, z, z, z, z, z, z, z, z, z, z, z, z, z, z, i0]))),
⟨none,none,.st 33 (t 10) (t 122)⟩])
(.seq
(.seq
(.ops false [] [
m 123 9,
m 124 7,
o 125 (.bin .lss (t 123) (t 124))])
(.cond (t 125)
(.ops false [] [
m 126 4,
m 127 9,
o 128 (.call (.val (t 126)) [(t 127)]),
⟨none,none,.st 33 (t 10) (t 128)⟩])
.skip))
(.seq
(.seq
(.ops true [0, 0, 0, 0, 12, 30, 0, 64, 0, 0, 1022, 2047, 4095] [
m 129 0,
m 130 4,
m 131 7,
m 132 9,
o 133 (.bin .add (t 131) (t 132)),
o 134 (.call (.val (t 130)) [(t 133)]),
o 135 (.fad 1 (t 2)),
o 136 (.ld (some 33) (t 135)),
o 137 (.ld (some 33) (t 8)),
o 138 (.ld (some 33) (t 10)),
o 139 (.bld [z, z, z, z, z, z, z, z, z, z, z, z, z, z, z, z, z, z, z, z, z, z, z, z, z, z, z, z, z, z, z, z, i0, i0, z, z, z, z, z, z, z, z, z, z, z, z, z, z, z, z, z, z, z, z, z, z, z, z, z, z, z, z, z, z, z, z, i0, i0, z, z, z, z, z, z, z, z, z, z, z, z, z, z, z, z, z, z, z, z, z, z, z, z, z, z, z, z, z, z, z, z, i0, e0, i0, e0, e0, z, z, z, z, z, z, z, z, z, z, z, z, z, z, z, z, z, z, z, z, z, z, z, z, z, z, z, z, z, z, z, z, i0, z, z, z, z, z, z, z, z, z, z, z, z, z, z, z, z, z, z, z, z, z, z, z, z, z, z, z, z, z, z, z, z, i0, (.nil 33)] [(0, 33, (t 134)), (33, 1, (.c (.d (.sc (.int .i64 6))))), (34, 33, (t 136)), (105, 33, (t 137)), (138, 33, (t 138))]),
o 140 (.call (.val (t 129)) [(t 139)]),
o 141 (.not (t 140))])
(.cond (t 141)
.ret
.skip))
(.ops false [] [
o 142 (.ld (some 33) (t 10)),
⟨none,none,.st 33 (t 8) (t 142)⟩]))))))
(.ops false [] [
o 143 (.bin .add (t 118) (.c i1)),
m 118 143])))))))))))
.skip))))))))))))))))), []⟩
theorem ok_126 : compFn Tryz.prog [] 126 = some (CF.erase k_126) := by kernel_rfl

def k_173 : CF := ⟨118,
(.seq
(.ops false [] [
o 1 (.box (t 0)),
o 2 (.mov (.c i0))])
(.seq
(.block 0
(.seq
(.ops false [] [
o 7 (.fad 0 (t 1)),
o 8 (.ld none (t 7)),
o 9 (.bin .lss (t 8) (.c i1)),
m 10 9,
⟨(some 11),(some ((some 10),false)),.fad 0 (t 1)⟩,
⟨(some 12),(some ((some 10),false)),.ld none (t 11)⟩,
⟨(some 13),(some ((some 10),false)),.bin .gtr (t 12) (.c (.d (.sc (.int .i64 7))))⟩,
o 14 (.pick (t 10) (.c bT) (t 13)),
m 6 14])
(.cond (t 6)
(.seq
(.ops false [] [
o 2 (.mov (.c (.d (.sc (.int .i64 8)))))])
.ret)
(.seq
(.ops false [] [
o 16 (.ld (some 139) (t 1)),
o 17 (.call (.fn 205) [(t 16)]),
o 18 (.not (t 17)),
m 15 18])
(.cond (t 15)
(.seq
(.ops false [] [
o 2 (.mov (.c i1))])
.ret)
(.seq
(.ops false [] [
o 20 (.fad 0 (t 1)),
o 21 (.ld none (t 20)),
o 22 (.bin .eql (t 21) (.c i1)),
m 23 22,
⟨(some 24),(some ((some 23),true)),.fad 34 (t 1)⟩,
⟨(some 25),(some ((some 23),true)),.ld none (t 24)⟩,
⟨(some 26),(some ((some 23),true)),.bin .lss (t 25) (.c i1)⟩,
⟨(some 27),(some ((some 23),true)),.mov (t 26)⟩,
⟨(some 28),(some ((some 27),false)),.fad 34 (t 1)⟩,
⟨(some 29),(some ((some 27),false)),.ld none (t 28)⟩,
⟨(some 30),(some ((some 27),false)),.bin .gtr (t 29) (.c (.d (.sc (.int .i64 4))))⟩,
⟨(some 31),(some ((some 23),true)),.pick (t 27) (.c bT) (t 30)⟩,
o 32 (.pick (t 23) (t 31) (.c bF)),
m 19 32])
(.cond (t 19)
(.seq
(.ops false [] [
o 2 (.mov (.c (.d (.sc (.int .i64 8)))))])
.ret)
(.seq
(.ops false [] [
o 34 (.fad 0 (t 1)),
o 35 (.ld none (t 34)),
o 36 (.bin .eql (t 35) (.c (.d (.sc (.int .i64 2))))),
m 37 36,
⟨(some 38),(some ((some 37),true)),.fad 68 (t 1)⟩,
⟨(some 39),(some ((some 37),true)),.ld none (t 38)⟩,
⟨(some 40),(some ((some 37),true)),.call (.fn 204) [(t 39)]⟩,
⟨(some 41),(some ((some 37),true)),.not (t 40)⟩,
o 42 (.pick (t 37) (t 41) (.c bF)),
m 33 42])
(.cond (t 33)
(.seq
(.ops false [] [
o 2 (.mov (.c (.d (.sc (.int .i64 5)))))])
.ret)
(.seq
(.ops false [] [
o 44 (.fad 69 (t 1)),
o 45 (.ld none (t 44)),
o 46 (.bin .lss (t 45) (.c i0)),
m 47 46,
⟨(some 48),(some ((some 47),false)),.fad 69 (t 1)⟩,
⟨(some 49),(some ((some 47),false)),.ld none (t 48)⟩,
⟨(some 50),(some ((some 47),false)),.bin .gtr (t 49) (.c (.d (.sc (.int .i64 511))))⟩,
o 51 (.pick (t 47) (.c bT) (t 50)),
m 43 51])
(.cond (t 43)
(.seq
(.ops false [] [
o 2 (.mov (.c (.d (.sc (.int .i64 2)))))])
.ret)
(.seq
(.ops false [] [
o 53 (.fad 70 (t 1)),
o 54 (.ld none (t 53)),
o 55 (.len 1 (t 54)),
o 56 (.bin .gtr (t 55) (.c (.d (.sc (.int .i64 65536))))),
m 52 56])
(.cond (t 52)
(.seq
(.ops false [] [
o 2 (.mov (.c (.d (.sc (.int .i64 4)))))])
.ret)
(.seq
(.ops false [] [
o 58 (.fad 0 (t 1)),
o 59 (.ld none (t 58)),
o 60 (.bin .eql (t 59) (.c (.d (.sc (.int .i64 5))))),
m 61 60,
⟨(some 62),(some ((some 61),true)),.fad 137 (t 1)⟩,
⟨(some 63),(some ((some 61),true)),.ld none (t 62)⟩,
⟨(some 64),(some ((some 61),true)),.len 0 (t 63)⟩,
⟨(some 65),(some ((some 61),true)),.bin .eql (t 64) (.c i0)⟩,
o 66 (.pick (t 61) (t 65) (.c bF)),
m 57 66])
(.cond (t 57)
(.seq
(.ops false [] [
o 2 (.mov (.c i1))])
.ret)
(.seq
(.ops false [] [
o 68 (.fad 137 (t 1)),
o 69 (.ld none (t 68)),
o 70 (.len 0 (t 69)),
o 71 (.bin .gtr (t 70) (.c (.d (.sc (.int .i64 2000))))),
m 67 71])
(.cond (t 67)
(.seq
(.ops false [] [
o 2 (.mov (.c (.d (.sc (.int .i64 4)))))])
.ret)
.skip)))))))))))))))))
(.seq
(.seq
(.ops false [] [
o 72 (.fad 137 (t 1)),
o 73 (.ld none (t 72)),
o 74 (.len 0 (t 73)),
o 75 (.mov (.c i0))])
(.block 1
(.loop
(.trim [75, 73, 1, 74]
(.seq
(.ops false [] [
o 76 (.bin .lss (t 75) (t 74))])
(.seq
(.cond (t 76)
.skip
(.exit 1))
(.seq
(.block 2
(.seq
(.ops false [] [
o 77 (.iad 1 (t 73) (t 75)),
o 78 (.ld none (t 77)),
m 4 78])
(.seq
(.ops false [] [
m 79 4,
o 80 (.call (.fn 206) [(t 79)]),
o 81 (.not (t 80))])
(.cond (t 81)
(.seq
(.ops false [] [
o 2 (.mov (.c (.d (.sc (.int .i64 3)))))])
.ret)
.skip))))
(.ops false [] [
o 82 (.bin .add (t 75) (.c i1)),
m 75 82]))))))))
(.seq
(.block 3
(.seq
(.ops false [] [
o 84 (.fad 0 (t 1)),
o 85 (.ld none (t 84)),
o 86 (.bin .eql (t 85) (.c (.d (.sc (.int .i64 7))))),
m 87 86,
⟨(some 88),(some ((some 87),true)),.fad 138 (t 1)⟩,
⟨(some 89),(some ((some 87),true)),.ld none (t 88)⟩,
⟨(some 90),(some ((some 87),true)),.len 0 (t 89)⟩,
⟨(some 91),(some ((some 87),true)),.bin .eql (t 90) (.c i0)⟩,
o 92 (.pick (t 87) (t 91) (.c bF)),
m 83 92])
(.cond (t 83)
(.seq
(.ops false [] [
o 2 (.mov (.c i1))])
.ret)
(.seq
(.ops false [] [
o 94 (.fad 138 (t 1)),
o 95 (.ld none (t 94)),
o 96 (.len 0 (t 95)),
o 97 (.bin .gtr (t 96) (.c (.d (.sc (.int .i64 400))))),
m 93 97])
(.cond (t 93)
(.seq
(.ops false [] [
o 2 (.mov (.c (.d (.sc (.int .i64 4)))))])
.ret)
.skip)))))
(.seq
(.seq
(.ops false [] [
o 5 (.mov (.c i1))])
(.block 4
(.loop
(.trim [5, 1]
(.seq
(.seq
(.ops false [] [
m 98 5,
o 99 (.fad 138 (t 1)),
o 100 (.ld none (t 99)),
o 101 (.len 0 (t 100)),
o 102 (.bin .lss (t 98) (t 101))])
(.cond (t 102)
.skip
(.exit 4)))
(.seq
(.block 5
(.seq
(.ops true [0, 1, 0, 4, 15, 31, 0, 64, 0, 448, 960, 2047, 4095] [
o 105 (.fad 138 (t 1)),
o 106 (.ld none (t 105)),
m 107 5,
o 108 (.bin .sub (t 107) (.c i1)),
o 109 (.iad 33 (t 106) (t 108)),
o 110 (.ld (some 33) (t 109)),
o 111 (.fad 138 (t 1)),
o 112 (.ld none (t 111)),
m 113 5,
o 114 (.iad 33 (t 112) (t 113)),
o 115 (.ld (some 33) (t 114)),
o 116 (.call (.fn 24) [(t 110), (t 115)]),
o 117 (.bin .geq (t 116) (.c i0))])
(.cond (t 117)
(.seq
(.ops false [] [
o 2 (.mov (.c (.d (.sc (.int .i64 9)))))])
.ret)
.skip)))
(.ops false [] [
m 103 5,
o 104 (.bin .add (t 103) (.c i1)),
m 5 104])))))))
(.seq
(.ops false [] [
o 2 (.mov (.c i0))])
.ret)))))), [.tmp 2]⟩
theorem ok_173 : compFn Tryz.prog [] 173 = some (CF.erase k_173) := by kernel_rfl

def k_174 : CF := ⟨90,
(.seq
(.ops false [] [
o 2 (.box (t 0)),
o 4 (.mov (.c i0))])
(.seq
(.seq
(.ops false [] [
o 7 (.ld (some 139) (t 2)),
o 8 (.call (.fn 141) [(t 7)]),
o 9 (.len 0 (t 8)),
o 10 (.mov (.c i0))])
(.block 0
(.loop
(.trim [1, 10, 8, 2, 9]
(.seq
(.ops false [] [
o 11 (.bin .lss (t 10) (t 9))])
(.seq
(.cond (t 11)
.skip
(.exit 0))
(.seq
(.block 1
(.seq
(.ops false [] [
o 12 (.iad 34 (t 8) (t 10)),
o 13 (.ld (some 34) (t 12)),
o 6 (.box (.c (.agg [z, z, z, z, z, z, z, z, z, z, z, z, z, z, z, z, z, z, z, z, z, z, z, z, z, z, z, z, z, z, z, z, i0, (.d (.sc .nilFunc))]))),
⟨none,none,.st 34 (t 6) (t 13)⟩])
(.block 2
(.seq
(.seq
(.ops false [] [
o 15 (.fad 0 (t 6)),
o 16 (.fad 32 (t 15)),
o 17 (.ld none (t 16)),
o 18 (.bin .lss (t 17) (.c i0)),
m 14 18])
(.cond (t 14)
.skip
(.seq
(.ops false [] [
o 19 (.fad 0 (t 6)),
o 20 (.ld (some 33) (t 19)),
o 21 (.call (.fn 142) [(t 20)]),
m 22 21,
⟨(some 23),(some ((some 22),true)),.fad 0 (t 6)⟩,
⟨(some 24),(some ((some 22),true)),.fad 32 (t 23)⟩,
⟨(some 25),(some ((some 22),true)),.ld none (t 24)⟩,
⟨(some 26),(some ((some 22),true)),.mov (t 1)⟩,
⟨(some 27),(some ((some 22),true)),.len 0 (t 26)⟩,
⟨(some 28),(some ((some 22),true)),.bin .geq (t 25) (t 27)⟩,
o 29 (.pick (t 22) (t 28) (.c bF)),
m 14 29])
(.cond (t 14)
.skip
(.ops false [] [
o 30 (.fad 0 (t 6)),
o 31 (.fad 32 (t 30)),
o 32 (.ld none (t 31)),
o 33 (.bin .geq (t 32) (.c (.d (.sc (.int .i64 100000))))),
m 14 33])))))
(.cond (t 14)
(.seq
(.ops false [] [
o 4 (.mov (.c (.d (.sc (.int .i64 7)))))])
.ret)
(.seq
(.ops true [0, 1, 3, 7, 15, 31, 15, 15, 143, 399, 975, 1999, 4095, 8191, 16383, 32767] [
o 35 (.fad 0 (t 6)),
o 36 (.ld (some 33) (t 35)),
o 37 (.call (.fn 142) [(t 36)]),
m 38 37,
⟨(some 39),(some ((some 38),true)),.fad 33 (t 6)⟩,
⟨(some 40),(some ((some 38),true)),.ld none (t 39)⟩,
⟨(some 41),(some ((some 38),true)),.mov (t 1)⟩,
⟨(some 42),(some ((some 38),true)),.fad 0 (t 6)⟩,
⟨(some 43),(some ((some 38),true)),.fad 32 (t 42)⟩,
⟨(some 44),(some ((some 38),true)),.ld none (t 43)⟩,
⟨(some 45),(some ((some 38),true)),.iad 172 (t 41) (t 44)⟩,
⟨(some 46),(some ((some 38),true)),.ld (some 172) (t 45)⟩,
⟨(some 47),(some ((some 38),true)),.call (.val (t 40)) [(t 46)]⟩,
⟨(some 48),(some ((some 38),true)),.not (t 47)⟩,
o 49 (.pick (t 38) (t 48) (.c bF)),
m 34 49])
(.cond (t 34)
(.seq
(.ops false [] [
o 4 (.mov (.c (.d (.sc (.int .i64 8)))))])
.ret)
.skip)))))))
(.ops false [] [
o 50 (.bin .add (t 10) (.c i1)),
m 10 50]))))))))
(.seq
(.block 3
(.seq
(.ops false [] [
o 52 (.fad 0 (t 2)),
o 53 (.ld none (t 52)),
o 54 (.bin .eql (t 53) (.c (.d (.sc (.int .i64 2))))),
m 55 54,
⟨(some 56),(some ((some 55),true)),.fad 35 (t 2)⟩,
⟨(some 57),(some ((some 55),true)),.ld (some 33) (t 56)⟩,
⟨(some 58),(some ((some 55),true)),.fad 1 (t 2)⟩,
⟨(some 59),(some ((some 55),true)),.ld (some 33) (t 58)⟩,
⟨(some 60),(some ((some 55),true)),.eqa true [.i, .i, .i, .i, .i, .i, .i, .i, .i, .i, .i, .i, .i, .i, .i, .i, .i, .i, .i, .i, .i, .i, .i, .i, .i, .i, .i, .i, .i, .i, .i, .i, .i] false (t 57) (t 59)⟩,
o 61 (.pick (t 55) (t 60) (.c bF)),
m 51 61])
(.cond (t 51)
(.seq
(.ops false [] [
o 4 (.mov (.c (.d (.sc (.int .i64 20)))))])
.ret)
(.seq
(.seq
(.ops false [] [
o 63 (.fad 0 (t 2)),
o 64 (.ld none (t 63)),
o 65 (.bin .eql (t 64) (.c (.d (.sc (.int .i64 6))))),
m 66 65,
⟨(some 67),(some ((some 66),true)),.fad 71 (t 2)⟩,
⟨(some 68),(some ((some 66),true)),.ld (some 33) (t 67)⟩,
⟨(some 69),(some ((some 66),true)),.fad 104 (t 2)⟩,
⟨(some 70),(some ((some 66),true)),.ld (some 33) (t 69)⟩,
⟨(some 71),(some ((some 66),true)),.eqa true [.i, .i, .i, .i, .i, .i, .i, .i, .i, .i, .i, .i, .i, .i, .i, .i, .i, .i, .i, .i, .i, .i, .i, .i, .i, .i, .i, .i, .i, .i, .i, .i, .i] false (t 68) (t 70)⟩,
o 72 (.pick (t 66) (t 71) (.c bF)),
m 62 72])
(.cond (t 62)
.skip
(.ops false [] [
o 73 (.fad 0 (t 2)),
o 74 (.ld none (t 73)),
o 75 (.bin .eql (t 74) (.c (.d (.sc (.int .i64 5))))),
m 76 75,
⟨(some 77),(some ((some 76),true)),.fad 71 (t 2)⟩,
⟨(some 78),(some ((some 76),true)),.ld (some 33) (t 77)⟩,
⟨(some 79),(some ((some 76),true)),.fad 104 (t 2)⟩,
⟨(some 80),(some ((some 76),true)),.ld (some 33) (t 79)⟩,
⟨(some 81),(some ((some 76),true)),.eqa true [.i, .i, .i, .i, .i, .i, .i, .i, .i, .i, .i, .i, .i, .i, .i, .i, .i, .i, .i, .i, .i, .i, .i, .i, .i, .i, .i, .i, .i, .i, .i, .i, .i] false (t 78) (t 80)⟩,
o 82 (.pick (t 76) (t 81) (.c bF)),
m 83 82,
⟨(some 84),(some ((some 83),true)),.fad 71 (t 2)⟩,
⟨(some 85),(some ((some 83),true)),.ld (some 33) (t 84)⟩,
⟨(some 86),(some ((some 83),true)),.fad 1 (t 2)⟩,
⟨(some 87),(some ((some 83),true)),.ld (some 33) (t 86)⟩,
⟨(some 88),(some ((some 83),true)),.eqa true [.i, .i, .i, .i, .i, .i, .i, .i, .i, .i, .i, .i, .i, .i, .i, .i, .i, .i, .i, .i, .i, .i, .i, .i, .i, .i, .i, .i, .i, .i, .i, .i, .i] true (t 85) (t 87)⟩,
o 89 (.pick (t 83) (t 88) (.c bF)),
m 62 89])))
(.cond (t 62)
(.seq
(.ops false [] [
o 4 (.mov (.c i1))])
.ret)
.skip)))))
(.seq
(.ops false [] [
o 4 (.mov (.c i0))])
.ret)))), [.tmp 4]⟩
theorem ok_174 : compFn Tryz.prog [] 174 = some (CF.erase k_174) := by kernel_rfl

def k_205 : CF := ⟨104,
(.seq
(.ops false [] [
o 1 (.box (t 0)),
o 2 (.mov (.c bF))])
(.seq
(.ops false [] [
o 6 (.fad 0 (t 1)),
o 7 (.ld none (t 6)),
o 3 (.box (.c i0)),
⟨none,none,.st 1 (t 3) (t 7)⟩])
(.seq
(.ops false [] [
o 8 (.mkf 228 [] [(t 3)]),
m 4 8])
(.seq
(.ops false [] [
o 9 (.bld [z, z, z, z, z, z, z, z, z, z, z, z, z, z, z, z, z, z, z, z, z, z, z, z, z, z, z, z, z, z, z, z, i0] []),
o 5 (.box (.c (.agg [z, z, z, z, z, z, z, z, z, z, z, z, z, z, z, z, z, z, z, z, z, z, z, z, z, z, z, z, z, z, z, z, i0]))),
⟨none,none,.st 33 (t 5) (t 9)⟩])
(.seq
(.ops false [] [
m 10 4,
o 11 (.bsl false 3 1 1 [i0] [(0, 1, (.c i1))]),
o 12 (.call (.val (t 10)) [(t 11)]),
m 13 12,
⟨(some 14),(some ((some 13),false)),.fad 34 (t 1)⟩,
⟨(some 15),(some ((some 13),false)),.ld none (t 14)⟩,
⟨(some 16),(some ((some 13),false)),.bin .eql (t 15) (.c i0)⟩,
o 17 (.pick (t 13) (.c bT) (t 16)),
m 18 17,
⟨(some 19),(some ((some 18),true)),.mov (t 4)⟩,
⟨(some 20),(some ((some 18),true)),.bsl false 3 1 5 [i0, i0, i0, i0, i0] [(0, 1, (.c (.d (.sc (.int .i64 2))))), (1, 1, (.c (.d (.sc (.int .i64 3))))), (2, 1, (.c (.d (.sc (.int .i64 4))))), (3, 1, (.c (.d (.sc (.int .i64 5))))), (4, 1, (.c (.d (.sc (.int .i64 6)))))]⟩,
⟨(some 21),(some ((some 18),true)),.call (.val (t 19)) [(t 20)]⟩,
⟨(some 22),(some ((some 18),true)),.mov (t 21)⟩,
⟨(some 23),(some ((some 22),false)),.fad 1 (t 1)⟩,
⟨(some 24),(some ((some 22),false)),.ld (some 33) (t 23)⟩,
⟨(some 25),(some ((some 22),false)),.ld (some 33) (t 5)⟩,
⟨(some 26),(some ((some 22),false)),.eqa true [.i, .i, .i, .i, .i, .i, .i, .i, .i, .i, .i, .i, .i, .i, .i, .i, .i, .i, .i, .i, .i, .i, .i, .i, .i, .i, .i, .i, .i, .i, .i, .i, .i] false (t 24) (t 25)⟩,
⟨(some 27),(some ((some 18),true)),.pick (t 22) (.c bT) (t 26)⟩,
o 28 (.pick (t 18) (t 27) (.c bF)),
m 29 28,
⟨(some 30),(some ((some 29),true)),.mov (t 4)⟩,
⟨(some 31),(some ((some 29),true)),.bsl false 3 1 1 [i0] [(0, 1, (.c (.d (.sc (.int .i64 2)))))]⟩,
⟨(some 32),(some ((some 29),true)),.call (.val (t 30)) [(t 31)]⟩,
⟨(some 33),(some ((some 29),true)),.mov (t 32)⟩,
⟨(some 34),(some ((some 33),false)),.fad 35 (t 1)⟩,
⟨(some 35),(some ((some 33),false)),.ld (some 33) (t 34)⟩,
⟨(some 36),(some ((some 33),false)),.ld (some 33) (t 5)⟩,
⟨(some 37),(some ((some 33),false)),.eqa true [.i, .i, .i, .i, .i, .i, .i, .i, .i, .i, .i, .i, .i, .i, .i, .i, .i, .i, .i, .i, .i, .i, .i, .i, .i, .i, .i, .i, .i, .i, .i, .i, .i] false (t 35) (t 36)⟩,
⟨(some 38),(some ((some 33),false)),.mov (t 37)⟩,
⟨(some 39),(some ((some 38),true)),.fad 68 (t 1)⟩,
⟨(some 40),(some ((some 38),true)),.ld none (t 39)⟩,
⟨(some 41),(some ((some 38),true)),.bin .eql (t 40) (.c e0)⟩,
⟨(some 42),(some ((some 33),false)),.pick (t 38) (t 41) (.c bF)⟩,
⟨(some 43),(some ((some 29),true)),.pick (t 33) (.c bT) (t 42)⟩,
o 44 (.pick (t 29) (t 43) (.c bF)),
m 45 44,
⟨(some 46),(some ((some 45),true)),.mov (t 4)⟩,
⟨(some 47),(some ((some 45),true)),.bsl false 3 1 1 [i0] [(0, 1, (.c (.d (.sc (.int .i64 3)))))]⟩,
⟨(some 48),(some ((some 45),true)),.call (.val (t 46)) [(t 47)]⟩,
⟨(some 49),(some ((some 45),true)),.mov (t 48)⟩,
⟨(some 50),(some ((some 49),false)),.fad 69 (t 1)⟩,
⟨(some 51),(some ((some 49),false)),.ld none (t 50)⟩,
⟨(some 52),(some ((some 49),false)),.bin .eql (t 51) (.c i0)⟩,
⟨(some 53),(some ((some 45),true)),.pick (t 49) (.c bT) (t 52)⟩,
o 54 (.pick (t 45) (t 53) (.c bF)),
m 55 54,
⟨(some 56),(some ((some 55),true)),.mov (t 4)⟩,
⟨(some 57),(some ((some 55),true)),.bsl false 3 1 1 [i0] [(0, 1, (.c (.d (.sc (.int .i64 4)))))]⟩,
⟨(some 58),(some ((some 55),true)),.call (.val (t 56)) [(t 57)]⟩,
⟨(some 59),(some ((some 55),true)),.mov (t 58)⟩,
⟨(some 60),(some ((some 59),false)),.fad 70 (t 1)⟩,
⟨(some 61),(some ((some 59),false)),.ld none (t 60)⟩,
⟨(some 62),(some ((some 59),false)),.bin .eql (t 61) (.c e0)⟩,
⟨(some 63),(some ((some 55),true)),.pick (t 59) (.c bT) (t 62)⟩,
o 64 (.pick (t 55) (t 63) (.c bF)),
m 65 64,
⟨(some 66),(some ((some 65),true)),.mov (t 4)⟩,
⟨(some 67),(some ((some 65),true)),.bsl false 3 1 2 [i0, i0] [(0, 1, (.c (.d (.sc (.int .i64 5))))), (1, 1, (.c (.d (.sc (.int .i64 6)))))]⟩,
⟨(some 68),(some ((some 65),true)),.call (.val (t 66)) [(t 67)]⟩,
⟨(some 69),(some ((some 65),true)),.mov (t 68)⟩,
⟨(some 70),(some ((some 69),false)),.fad 71 (t 1)⟩,
⟨(some 71),(some ((some 69),false)),.ld (some 33) (t 70)⟩,
⟨(some 72),(some ((some 69),false)),.ld (some 33) (t 5)⟩,
⟨(some 73),(some ((some 69),false)),.eqa true [.i, .i, .i, .i, .i, .i, .i, .i, .i, .i, .i, .i, .i, .i, .i, .i, .i, .i, .i, .i, .i, .i, .i, .i, .i, .i, .i, .i, .i, .i, .i, .i, .i] false (t 71) (t 72)⟩,
⟨(some 74),(some ((some 69),false)),.mov (t 73)⟩,
⟨(some 75),(some ((some 74),true)),.fad 104 (t 1)⟩,
⟨(some 76),(some ((some 74),true)),.ld (some 33) (t 75)⟩,
⟨(some 77),(some ((some 74),true)),.ld (some 33) (t 5)⟩,
⟨(some 78),(some ((some 74),true)),.eqa true [.i, .i, .i, .i, .i, .i, .i, .i, .i, .i, .i, .i, .i, .i, .i, .i, .i, .i, .i, .i, .i, .i, .i, .i, .i, .i, .i, .i, .i, .i, .i, .i, .i] false (t 76) (t 77)⟩,
⟨(some 79),(some ((some 69),false)),.pick (t 74) (t 78) (.c bF)⟩,
⟨(some 80),(some ((some 65),true)),.pick (t 69) (.c bT) (t 79)⟩,
o 81 (.pick (t 65) (t 80) (.c bF)),
m 82 81,
⟨(some 83),(some ((some 82),true)),.mov (t 4)⟩,
⟨(some 84),(some ((some 82),true)),.bsl false 3 1 1 [i0] [(0, 1, (.c (.d (.sc (.int .i64 5)))))]⟩,
⟨(some 85),(some ((some 82),true)),.call (.val (t 83)) [(t 84)]⟩,
⟨(some 86),(some ((some 82),true)),.mov (t 85)⟩,
⟨(some 87),(some ((some 86),false)),.fad 137 (t 1)⟩,
⟨(some 88),(some ((some 86),false)),.ld none (t 87)⟩,
⟨(some 89),(some ((some 86),false)),.len 0 (t 88)⟩,
⟨(some 90),(some ((some 86),false)),.bin .eql (t 89) (.c i0)⟩,
⟨(some 91),(some ((some 82),true)),.pick (t 86) (.c bT) (t 90)⟩,
o 92 (.pick (t 82) (t 91) (.c bF)),
m 93 92,
⟨(some 94),(some ((some 93),true)),.mov (t 4)⟩,
⟨(some 95),(some ((some 93),true)),.bsl false 3 1 5 [i0, i0, i0, i0, i0] [(0, 1, (.c (.d (.sc (.int .i64 2))))), (1, 1, (.c (.d (.sc (.int .i64 3))))), (2, 1, (.c (.d (.sc (.int .i64 4))))), (3, 1, (.c (.d (.sc (.int .i64 6))))), (4, 1, (.c (.d (.sc (.int .i64 7)))))]⟩,
⟨(some 96),(some ((some 93),true)),.call (.val (t 94)) [(t 95)]⟩,
⟨(some 97),(some ((some 93),true)),.mov (t 96)⟩,
⟨(some 98),(some ((some 97),false)),.fad 138 (t 1)⟩,
⟨(some 99),(some ((some 97),false)),.ld none (t 98)⟩,
⟨(some 100),(some ((some 97),false)),.len 0 (t 99)⟩,
⟨(some 101),(some ((some 97),false)),.bin .eql (t 100) (.c i0)⟩,
⟨(some 102),(some ((some 93),true)),.pick (t 97) (.c bT) (t 101)⟩,
o 103 (.pick (t 93) (t 102) (.c bF)),
m 2 103])
.ret))))), [.tmp 2]⟩
theorem ok_205 : compFn Tryz.prog [] 205 = some (CF.erase k_205) := by kernel_rfl

def k_42 : CF := ⟨14,
(.seq
(.ops false [] [
m 5 0,
o 6 (.len 0 (t 5)),
m 4 6])
(.ops false [] [
m 7 0,
m 8 4,
m 9 4,
o 10 (.cnv .u64 (t 9)),
o 11 (.call (.fn 70) [(t 10)]),
m 12 1,
o 13 (.call (.fn 79) [(t 7), (.c i0), (t 8), (t 11), (t 12)])])), []⟩
theorem ok_42 : compFn Tryz.prog [] 42 = some (CF.erase k_42) := by kernel_rfl

def k_79 : CF := ⟨148,
(.seq
(.ops false [] [
o 10 (.mov (.c bT))])
(.seq
(.ops false [] [
o 11 (.mov (.c bT))])
(.block 0
(.loop
(.trim [4, 2, 1, 0, 11, 10, 3]
(.block 1
(.seq
(.ops false [] [
m 21 2,
m 22 1,
o 23 (.bin .sub (t 21) (t 22)),
m 12 23])
(.seq
(.seq
(.ops false [] [
m 24 12,
o 25 (.bin .leq (t 24) (.c (.d (.sc (.int .i64 12)))))])
(.cond (t 25)
(.seq
(.ops false [] [
m 26 0,
m 27 1,
m 28 2,
m 29 4,
o 30 (.call (.fn 117) [(t 26), (t 27), (t 28), (t 29)])])
.ret)
.skip))
(.seq
(.seq
(.ops false [] [
m 31 3,
o 32 (.bin .eql (t 31) (.c i0))])
(.cond (t 32)
(.seq
(.ops false [] [
m 33 0,
m 34 1,
m 35 2,
m 36 4,
o 37 (.call (.fn 118) [(t 33), (t 34), (t 35), (t 36)])])
.ret)
.skip))
(.seq
(.seq
(.ops false [] [
m 38 10,
o 39 (.not (t 38))])
(.cond (t 39)
(.seq
(.ops false [] [
m 40 0,
m 41 1,
m 42 2,
m 43 4,
o 44 (.call (.fn 119) [(t 40), (t 41), (t 42), (t 43)])])
(.ops false [] [
m 45 3,
o 46 (.bin .sub (t 45) (.c i1)),
m 3 46]))
.skip))
(.seq
(.ops false [] [
m 48 0,
m 49 1,
m 50 2,
m 51 4,
o 52 (.call (.fn 120) [(t 48), (t 49), (t 50), (t 51)]),
m 47 52,
o 53 (.ext (t 47) 0),
o 54 (.ext (t 47) 1),
m 13 53,
m 14 54])
(.seq
(.seq
(.ops false [] [
m 55 14,
o 56 (.bin .eql (t 55) (.c (.d (.sc (.int .i64 2)))))])
(.cond (t 56)
(.seq
(.ops false [] [
m 57 0,
m 58 1,
m 59 2,
m 60 4,
o 61 (.call (.fn 121) [(t 57), (t 58), (t 59), (t 60)])])
(.seq
(.ops false [] [
m 62 2,
o 63 (.bin .sub (t 62) (.c i1)),
m 64 13,
m 65 1,
o 66 (.bin .sub (t 64) (t 65)),
o 67 (.bin .sub (t 63) (t 66)),
m 13 67])
(.ops false [] [
o 14 (.mov (.c i1))])))
.skip))
(.seq
(.seq
(.ops false [] [
m 68 10,
m 69 68,
⟨(some 70),(some ((some 69),true)),.mov (t 11)⟩,
o 71 (.pick (t 69) (t 70) (.c bF)),
m 72 71,
⟨(some 73),(some ((some 72),true)),.mov (t 14)⟩,
⟨(some 74),(some ((some 72),true)),.bin .eql (t 73) (.c i1)⟩,
o 75 (.pick (t 72) (t 74) (.c bF))])
(.cond (t 75)
(.seq
(.ops false [] [
m 76 0,
m 77 1,
m 78 2,
m 79 4,
o 80 (.call (.fn 122) [(t 76), (t 77), (t 78), (t 79)])])
(.cond (t 80)
.ret
.skip))
.skip))
(.seq
(.seq
(.ops true [0, 1, 3, 7, 7, 7, 39, 119, 247, 7, 7, 1543, 3591, 8191, 16383, 32767, 65535] [
m 81 1,
o 82 (.bin .gtr (t 81) (.c i0)),
m 83 82,
⟨(some 84),(some ((some 83),true)),.mov (t 4)⟩,
⟨(some 85),(some ((some 83),true)),.mov (t 0)⟩,
⟨(some 86),(some ((some 83),true)),.mov (t 1)⟩,
⟨(some 87),(some ((some 83),true)),.bin .sub (t 86) (.c i1)⟩,
⟨(some 88),(some ((some 83),true)),.iad 33 (t 85) (t 87)⟩,
⟨(some 89),(some ((some 83),true)),.ld (some 33) (t 88)⟩,
⟨(some 90),(some ((some 83),true)),.mov (t 0)⟩,
⟨(some 91),(some ((some 83),true)),.mov (t 13)⟩,
⟨(some 92),(some ((some 83),true)),.iad 33 (t 90) (t 91)⟩,
⟨(some 93),(some ((some 83),true)),.ld (some 33) (t 92)⟩,
⟨(some 94),(some ((some 83),true)),.call (.val (t 84)) [(t 89), (t 93)]⟩,
⟨(some 95),(some ((some 83),true)),.bin .lss (t 94) (.c i0)⟩,
⟨(some 96),(some ((some 83),true)),.not (t 95)⟩,
o 97 (.pick (t 83) (t 96) (.c bF))])
(.cond (t 97)
(.seq
(.ops false [] [
m 98 0,
m 99 1,
m 100 2,
m 101 13,
m 102 4,
o 103 (.call (.fn 123) [(t 98), (t 99), (t 100), (t 101), (t 102)]),
m 15 103])
(.seq
(.ops false [] [
m 104 15,
m 1 104])
(.exit 1)))
.skip))
(.seq
(.ops false [] [
m 106 0,
m 107 1,
m 108 2,
m 109 13,
m 110 4,
o 111 (.call (.fn 124) [(t 106), (t 107), (t 108), (t 109), (t 110)]),
m 105 111,
o 112 (.ext (t 105) 0),
o 113 (.ext (t 105) 1),
m 16 112,
m 17 113])
(.seq
(.ops false [] [
m 114 17,
m 11 114])
(.seq
(.ops false [] [
m 115 16,
m 116 1,
o 117 (.bin .sub (t 115) (t 116)),
m 118 2,
m 119 16,
o 120 (.bin .sub (t 118) (t 119)),
m 18 117,
m 19 120])
(.seq
(.ops false [] [
m 121 12,
o 122 (.bin .quo (t 121) (.c (.d (.sc (.int .i64 8))))),
m 20 122])
(.seq
(.ops false [] [
m 123 18,
m 124 19,
o 125 (.bin .lss (t 123) (t 124))])
(.cond (t 125)
(.seq
(.ops false [] [
m 126 18,
m 127 20,
o 128 (.bin .geq (t 126) (t 127)),
m 10 128])
(.seq
(.ops false [] [
m 129 0,
m 130 1,
m 131 16,
m 132 3,
m 133 4,
o 134 (.call (.fn 79) [(t 129), (t 130), (t 131), (t 132), (t 133)])])
(.ops false [] [
m 135 16,
o 136 (.bin .add (t 135) (.c i1)),
m 1 136])))
(.seq
(.ops false [] [
m 137 19,
m 138 20,
o 139 (.bin .geq (t 137) (t 138)),
m 10 139])
(.seq
(.ops false [] [
m 140 0,
m 141 16,
o 142 (.bin .add (t 141) (.c i1)),
m 143 2,
m 144 3,
m 145 4,
o 146 (.call (.fn 79) [(t 140), (t 142), (t 143), (t 144), (t 145)])])
(.ops false [] [
m 147 16,
m 2 147]))))))))))))))))))))))), []⟩
theorem ok_79 : compFn Tryz.prog [] 79 = some (CF.erase k_79) := by kernel_rfl

def k_117 : CF := ⟨53,
(.seq
(.ops false [] [
m 10 1,
o 11 (.bin .add (t 10) (.c i1)),
m 8 11])
(.block 0
(.loop
(.trim [1, 3, 8, 0, 2]
(.seq
(.seq
(.ops false [] [
m 12 8,
m 13 2,
o 14 (.bin .lss (t 12) (t 13))])
(.cond (t 14)
.skip
(.exit 0)))
(.seq
(.block 1
(.seq
(.ops false [] [
m 17 8,
m 9 17])
(.block 2
(.loop
(.trim [9, 0, 8, 1, 3, 2]
(.seq
(.seq
(.ops true [0, 0, 3, 7, 15, 15, 15, 111, 239, 15, 15, 1039, 3599, 7695, 16383, 32767, 65535] [
m 18 9,
m 19 1,
o 20 (.bin .gtr (t 18) (t 19)),
m 21 20,
⟨(some 22),(some ((some 21),true)),.mov (t 3)⟩,
⟨(some 23),(some ((some 21),true)),.mov (t 0)⟩,
⟨(some 24),(some ((some 21),true)),.mov (t 9)⟩,
⟨(some 25),(some ((some 21),true)),.iad 33 (t 23) (t 24)⟩,
⟨(some 26),(some ((some 21),true)),.ld (some 33) (t 25)⟩,
⟨(some 27),(some ((some 21),true)),.mov (t 0)⟩,
⟨(some 28),(some ((some 21),true)),.mov (t 9)⟩,
⟨(some 29),(some ((some 21),true)),.bin .sub (t 28) (.c i1)⟩,
⟨(some 30),(some ((some 21),true)),.iad 33 (t 27) (t 29)⟩,
⟨(some 31),(some ((some 21),true)),.ld (some 33) (t 30)⟩,
⟨(some 32),(some ((some 21),true)),.call (.val (t 22)) [(t 26), (t 31)]⟩,
⟨(some 33),(some ((some 21),true)),.bin .lss (t 32) (.c i0)⟩,
o 34 (.pick (t 21) (t 33) (.c bF))])
(.cond (t 34)
.skip
(.exit 2)))
(.seq
(.block 3
(.ops true [0, 0, 0, 0, 8, 0, 0, 64, 224, 480, 0, 0, 3072, 7168, 16355, 32739, 65535, 131071] [
m 37 0,
m 38 9,
m 39 0,
m 40 9,
o 41 (.bin .sub (t 40) (.c i1)),
m 42 0,
m 43 9,
o 44 (.bin .sub (t 43) (.c i1)),
o 45 (.iad 33 (t 42) (t 44)),
o 46 (.ld (some 33) (t 45)),
m 47 0,
m 48 9,
o 49 (.iad 33 (t 47) (t 48)),
o 50 (.ld (some 33) (t 49)),
o 51 (.iad 33 (t 37) (t 38)),
⟨none,none,.st 33 (t 51) (t 46)⟩,
o 52 (.iad 33 (t 39) (t 41)),
⟨none,none,.st 33 (t 52) (t 50)⟩]))
(.ops false [] [
m 35 9,
o 36 (.bin .sub (t 35) (.c i1)),
m 9 36]))))))))
(.ops false [] [
m 15 8,
o 16 (.bin .add (t 15) (.c i1)),
m 8 16]))))))), []⟩
theorem ok_117 : compFn Tryz.prog [] 117 = some (CF.erase k_117) := by kernel_rfl

def k_84 : CF := ⟨6,
(.seq
(.ops false [] [
o 2 (.mov (.c bF))])
(.seq
(.ops false [] [
m 3 0,
m 4 0,
o 5 (.bin .neq (t 3) (t 4)),
m 2 5])
.ret)), [.tmp 2]⟩
theorem ok_84 : compFn Tryz.prog [] 84 = some (CF.erase k_84) := by kernel_rfl

def k_206 : CF := ⟨16,
(.seq
(.ops false [] [
o 2 (.mov (.c bF))])
(.seq
(.ops false [] [
m 3 0,
o 4 (.len 1 (t 3)),
o 5 (.bin .leq (t 4) (.c (.d (.sc (.int .i64 1000))))),
m 6 5,
⟨(some 7),(some ((some 6),true)),.mov (t 0)⟩,
⟨(some 8),(some ((some 6),true)),.call (.fn 230) [(t 7), (.c (.d (.sc (.int .u8 10))))]⟩,
⟨(some 9),(some ((some 6),true)),.bin .lss (t 8) (.c i0)⟩,
o 10 (.pick (t 6) (t 9) (.c bF)),
m 11 10,
⟨(some 12),(some ((some 11),true)),.mov (t 0)⟩,
⟨(some 13),(some ((some 11),true)),.call (.fn 230) [(t 12), (.c z)]⟩,
⟨(some 14),(some ((some 11),true)),.bin .lss (t 13) (.c i0)⟩,
o 15 (.pick (t 11) (t 14) (.c bF)),
m 2 15])
.ret)), [.tmp 2]⟩
theorem ok_206 : compFn Tryz.prog [] 206 = some (CF.erase k_206) := by kernel_rfl

def k_125 : CF := ⟨61,
(.seq
(.ops false [] [
o 1 (.box (t 0)),
o 2 (.mov (.c (.nil 172))),
o 3 (.mov (.c e0)),
o 4 (.mov (.c i0))])
(.seq
(.seq
(.ops false [] [
o 14 (.ld (some 5) (t 1)),
o 15 (.call (.fn 172) [(t 14)]),
m 5 15])
(.seq
(.ops false [] [
m 16 5,
o 17 (.bin .neq (t 16) (.c i0))])
(.cond (t 17)
(.seq
(.ops false [] [
m 18 5,
o 2 (.mov (.c (.nil 172))),
o 3 (.mov (.c e0)),
m 4 18])
.ret)
.skip)))
(.seq
(.ops false [] [
o 6 (.box (.c (.nil 172)))])
(.seq
(.seq
(.ops false [] [
o 19 (.fad 4 (t 1)),
o 20 (.ld none (t 19)),
o 21 (.len 0 (t 20)),
o 22 (.mov (.c i0))])
(.block 0
(.loop
(.trim [6, 22, 4, 3, 2, 1, 20, 21]
(.seq
(.ops false [] [
o 23 (.bin .lss (t 22) (t 21))])
(.seq
(.cond (t 23)
.skip
(.exit 0))
(.seq
(.block 1
(.seq
(.ops false [] [
o 24 (.iad 139 (t 20) (t 22)),
o 25 (.ld (some 139) (t 24)),
o 8 (.box (.c (.agg [i0, z, z, z, z, z, z, z, z, z, z, z, z, z, z, z, z, z, z, z, z, z, z, z, z, z, z, z, z, z, z, z, z, i0, i0, z, z, z, z, z, z, z, z, z, z, z, z, z, z, z, z, z, z, z, z, z, z, z, z, z, z, z, z, z, z, z, z, i0, e0, i0, e0, z, z, z, z, z, z, z, z, z, z, z, z, z, z, z, z, z, z, z, z, z, z, z, z, z, z, z, z, z, z, z, z, i0, z, z, z, z, z, z, z, z, z, z, z, z, z, z, z, z, z, z, z, z, z, z, z, z, z, z, z, z, z, z, z, z, i0, (.nil 1), (.nil 33)]))),
⟨none,none,.st 139 (t 8) (t 25)⟩])
(.seq
(.seq
(.ops false [] [
o 26 (.ld (some 139) (t 8)),
o 27 (.call (.fn 173) [(t 26)]),
m 9 27])
(.seq
(.ops false [] [
m 28 9,
o 29 (.bin .neq (t 28) (.c i0))])
(.cond (t 29)
(.seq
(.ops false [] [
m 30 9,
o 2 (.mov (.c (.nil 172))),
o 3 (.mov (.c e0)),
m 4 30])
.ret)
.skip)))
(.seq
(.seq
(.ops false [] [
o 31 (.ld (some 139) (t 8)),
o 32 (.ld none (t 6)),
o 33 (.call (.fn 174) [(t 31), (t 32)]),
m 10 33])
(.seq
(.ops false [] [
m 34 10,
o 35 (.bin .neq (t 34) (.c i0))])
(.cond (t 35)
(.seq
(.ops false [] [
m 36 10,
o 2 (.mov (.c (.nil 172))),
o 3 (.mov (.c e0)),
m 4 36])
.ret)
.skip)))
(.seq
(.ops false [] [
o 37 (.ld (some 139) (t 8)),
o 38 (.ld none (t 6)),
o 39 (.len 0 (t 38)),
o 40 (.call (.fn 81) [(t 37), (t 39)])])
(.block 2
(.trim [40, 21, 20, 1, 2, 3, 4, 22, 6]
(.rng 61 (t 40) [41]
(.ops false [] [
o 11 (.box (.c (.agg [z, z, z, z, z, z, z, z, z, z, z, z, z, z, z, z, z, z, z, z, z, z, z, z, z, z, z, z, z, z, z, z, i0, i0, z, z, z, z, z, z, z, z, z, z, z, z, z, z, z, z, z, z, z, z, z, z, z, z, z, z, z, z, z, z, z, z, i0, i0, z, z, z, z, z, z, z, z, z, z, z, z, z, z, z, z, z, z, z, z, z, z, z, z, z, z, z, z, z, z, z, z, i0, e0, i0, e0, e0, z, z, z, z, z, z, z, z, z, z, z, z, z, z, z, z, z, z, z, z, z, z, z, z, z, z, z, z, z, z, z, z, i0, z, z, z, z, z, z, z, z, z, z, z, z, z, z, z, z, z, z, z, z, z, z, z, z, z, z, z, z, z, z, z, z, i0, (.nil 33)]))),
⟨none,none,.st 172 (t 11) (t 41)⟩])
(.block 3
(.ops false [] [
o 42 (.ld none (t 6)),
o 43 (.ld (some 172) (t 11)),
o 44 (.bsl true 86 172 1 [z, z, z, z, z, z, z, z, z, z, z, z, z, z, z, z, z, z, z, z, z, z, z, z, z, z, z, z, z, z, z, z, i0, i0, z, z, z, z, z, z, z, z, z, z, z, z, z, z, z, z, z, z, z, z, z, z, z, z, z, z, z, z, z, z, z, z, i0, i0, z, z, z, z, z, z, z, z, z, z, z, z, z, z, z, z, z, z, z, z, z, z, z, z, z, z, z, z, z, z, z, z, i0, e0, i0, e0, e0, z, z, z, z, z, z, z, z, z, z, z, z, z, z, z, z, z, z, z, z, z, z, z, z, z, z, z, z, z, z, z, z, i0, z, z, z, z, z, z, z, z, z, z, z, z, z, z, z, z, z, z, z, z, z, z, z, z, z, z, z, z, z, z, z, z, i0, (.nil 33)] [(0, 172, (t 43))]),
o 45 (.app true 86 172 296 (t 42) (t 44)),
⟨none,none,.st 1 (t 6) (t 45)⟩]))))))))))
(.ops false [] [
o 46 (.bin .add (t 22) (.c i1)),
m 22 46]))))))))
(.seq
(.ops false [] [
o 48 (.ld (some 5) (t 1)),
o 49 (.call (.fn 175) [(t 48)]),
m 47 49,
o 50 (.ext (t 47) 0),
o 51 (.ext (t 47) 1),
m 12 50,
m 13 51])
(.seq
(.seq
(.ops false [] [
m 52 13,
o 53 (.bin .neq (t 52) (.c i0)),
m 54 53,
⟨(some 55),(some ((some 54),false)),.mov (t 12)⟩,
⟨(some 56),(some ((some 54),false)),.len 1 (t 55)⟩,
⟨(some 57),(some ((some 54),false)),.bin .gtr (t 56) (.c (.d (.sc (.int .i64 65536))))⟩,
o 58 (.pick (t 54) (.c bT) (t 57))])
(.cond (t 58)
(.seq
(.ops false [] [
o 2 (.mov (.c (.nil 172))),
o 3 (.mov (.c e0)),
o 4 (.mov (.c (.d (.sc (.int .i64 4)))))])
.ret)
.skip))
(.seq
(.ops false [] [
o 59 (.ld none (t 6)),
m 60 12,
m 2 59,
m 3 60,
o 4 (.mov (.c i0))])
.ret))))))), [.tmp 2, .tmp 3, .tmp 4]⟩
theorem ok_125 : compFn Tryz.prog [44, 45] 125 = some (CF.erase k_125) := by kernel_rfl

def k_172 : CF := ⟨64,
(.seq
(.ops false [] [
o 1 (.box (t 0)),
o 2 (.mov (.c i0))])
(.seq
(.block 0
(.seq
(.ops false [] [
o 7 (.fad 0 (t 1)),
o 8 (.ld none (t 7)),
o 9 (.call (.fn 204) [(t 8)]),
o 10 (.not (t 9)),
m 6 10])
(.cond (t 6)
(.seq
(.ops false [] [
o 2 (.mov (.c (.d (.sc (.int .i64 5)))))])
.ret)
(.seq
(.ops false [] [
o 12 (.fad 1 (t 1)),
o 13 (.ld none (t 12)),
o 14 (.len 1 (t 13)),
o 15 (.bin .gtr (t 14) (.c (.d (.sc (.int .i64 1000))))),
m 11 15])
(.cond (t 11)
(.seq
(.ops false [] [
o 2 (.mov (.c (.d (.sc (.int .i64 4)))))])
.ret)
(.seq
(.ops false [] [
o 17 (.fad 2 (t 1)),
o 18 (.ld none (t 17)),
o 19 (.bin .lss (t 18) (.c i0)),
m 20 19,
⟨(some 21),(some ((some 20),false)),.fad 2 (t 1)⟩,
⟨(some 22),(some ((some 20),false)),.ld none (t 21)⟩,
⟨(some 23),(some ((some 20),false)),.bin .gtr (t 22) (.c (.d (.sc (.int .i64 1099511627776))))⟩,
o 24 (.pick (t 20) (.c bT) (t 23)),
m 16 24])
(.cond (t 16)
(.seq
(.ops false [] [
o 2 (.mov (.c (.d (.sc (.int .i64 2)))))])
.ret)
(.seq
(.ops false [] [
o 26 (.fad 3 (t 1)),
o 27 (.ld none (t 26)),
o 28 (.len 0 (t 27)),
o 29 (.bin .gtr (t 28) (.c (.d (.sc (.int .i64 100))))),
m 25 29])
(.cond (t 25)
(.seq
(.ops false [] [
o 2 (.mov (.c (.d (.sc (.int .i64 4)))))])
.ret)
.skip)))))))))
(.seq
(.seq
(.ops false [] [
o 30 (.fad 3 (t 1)),
o 31 (.ld none (t 30)),
o 32 (.len 0 (t 31)),
o 33 (.mov (.c i0))])
(.block 1
(.loop
(.trim [1, 33, 31, 32]
(.seq
(.ops false [] [
o 34 (.bin .lss (t 33) (t 32))])
(.seq
(.cond (t 34)
.skip
(.exit 1))
(.seq
(.block 2
(.seq
(.ops false [] [
m 35 33,
o 36 (.iad 32 (t 31) (t 33)),
o 37 (.ld (some 32) (t 36)),
o 4 (.box (.c (.agg [z, z, z, z, z, z, z, z, z, z, z, z, z, z, z, z, z, z, z, z, z, z, z, z, z, z, z, z, z, z, z, z]))),
m 3 35,
⟨none,none,.st 32 (t 4) (t 37)⟩])
(.seq
(.seq
(.ops false [] [
o 38 (.ld (some 32) (t 4)),
o 39 (.bld [z, z, z, z, z, z, z, z, z, z, z, z, z, z, z, z, z, z, z, z, z, z, z, z, z, z, z, z, z, z, z, z] []),
o 40 (.eqa true [.i, .i, .i, .i, .i, .i, .i, .i, .i, .i, .i, .i, .i, .i, .i, .i, .i, .i, .i, .i, .i, .i, .i, .i, .i, .i, .i, .i, .i, .i, .i, .i] false (t 38) (t 39))])
(.cond (t 40)
(.seq
(.ops false [] [
o 2 (.mov (.c i1))])
.ret)
.skip))
(.seq
(.ops true [0, 1, 3, 7, 15, 7, 39, 127, 255, 7, 1023, 2047, 4095] [
m 41 3,
o 42 (.bin .gtr (t 41) (.c i0)),
m 43 42,
⟨(some 44),(some ((some 43),true)),.fad 3 (t 1)⟩,
⟨(some 45),(some ((some 43),true)),.ld none (t 44)⟩,
⟨(some 46),(some ((some 43),true)),.mov (t 3)⟩,
⟨(some 47),(some ((some 43),true)),.bin .sub (t 46) (.c i1)⟩,
⟨(some 48),(some ((some 43),true)),.iad 32 (t 45) (t 47)⟩,
⟨(some 49),(some ((some 43),true)),.ld (some 32) (t 48)⟩,
⟨(some 50),(some ((some 43),true)),.ld (some 32) (t 4)⟩,
⟨(some 51),(some ((some 43),true)),.call (.fn 89) [(t 49), (t 50)]⟩,
⟨(some 52),(some ((some 43),true)),.bin .geq (t 51) (.c i0)⟩,
o 53 (.pick (t 43) (t 52) (.c bF))])
(.cond (t 53)
(.seq
(.ops false [] [
o 2 (.mov (.c (.d (.sc (.int .i64 9)))))])
.ret)
.skip)))))
(.ops false [] [
o 54 (.bin .add (t 33) (.c i1)),
m 33 54]))))))))
(.seq
(.seq
(.ops false [] [
o 55 (.fad 4 (t 1)),
o 56 (.ld none (t 55)),
o 57 (.len 0 (t 56)),
m 5 57])
(.block 3
(.seq
(.ops false [] [
m 59 5,
o 60 (.bin .eql (t 59) (.c i0)),
m 58 60])
(.cond (t 58)
(.seq
(.ops false [] [
o 2 (.mov (.c i1))])
.ret)
(.seq
(.ops false [] [
m 62 5,
o 63 (.bin .gtr (t 62) (.c (.d (.sc (.int .i64 400))))),
m 61 63])
(.cond (t 61)
(.seq
(.ops false [] [
o 2 (.mov (.c (.d (.sc (.int .i64 4)))))])
.ret)
.skip))))))
(.seq
(.ops false [] [
o 2 (.mov (.c i0))])
.ret))))), [.tmp 2]⟩
theorem ok_172 : compFn Tryz.prog [] 172 = some (CF.erase k_172) := by kernel_rfl

def k_175 : CF := ⟨77,
(.seq
(.ops false [] [
o 1 (.box (t 0)),
o 2 (.mov (.c e0)),
o 3 (.mov (.c i0))])
(.seq
(.ops false [] [
o 12 (.call (.fn 207) [(.c (.nil 3))]),
o 13 (.call (.fn 207) [(.c (.nil 3))]),
o 4 (.box (.c (.agg [bF, e0, (.nil 3)]))),
o 5 (.box (.c (.agg [bF, e0, (.nil 3)]))),
⟨none,none,.st 3 (t 4) (t 12)⟩,
⟨none,none,.st 3 (t 5) (t 13)⟩])
(.seq
(.seq
(.ops false [] [
o 14 (.fad 3 (t 1)),
o 15 (.ld none (t 14)),
o 16 (.len 0 (t 15)),
o 17 (.mov (.c i0))])
(.block 0
(.loop
(.trim [17, 4, 15, 5, 1, 16]
(.seq
(.ops false [] [
o 18 (.bin .lss (t 17) (t 16))])
(.seq
(.cond (t 18)
.skip
(.exit 0))
(.seq
(.block 1
(.seq
(.ops false [] [
o 19 (.iad 32 (t 15) (t 17)),
o 20 (.ld (some 32) (t 19)),
o 7 (.box (.c (.agg [z, z, z, z, z, z, z, z, z, z, z, z, z, z, z, z, z, z, z, z, z, z, z, z, z, z, z, z, z, z, z, z]))),
⟨none,none,.st 32 (t 7) (t 20)⟩])
(.ops true [0, 1, 0, 4, 12, 28, 63, 127, 255] [
o 21 (.fad 2 (t 4)),
o 22 (.ld none (t 21)),
o 23 (.sla 32 1 (t 7) none none),
o 24 (.b2s (t 23)),
o 25 (.call (.fn 208) [(t 24)]),
o 26 (.bsl false 273 3 1 [bF, e0, (.nil 3)] [(0, 3, (t 25))]),
o 27 (.app false 273 3 48 (t 22) (t 26)),
o 28 (.fad 2 (t 4)),
⟨none,none,.st 1 (t 28) (t 27)⟩])))
(.ops false [] [
o 29 (.bin .add (t 17) (.c i1)),
m 17 29]))))))))
(.seq
(.ops false [] [
o 30 (.call (.fn 209) []),
m 8 30])
(.seq
(.seq
(.ops false [] [
o 31 (.fad 4 (t 1)),
o 32 (.ld none (t 31)),
o 33 (.len 0 (t 32)),
o 34 (.mov (.c i0))])
(.block 2
(.loop
(.trim [34, 5, 8, 32, 1, 4, 33]
(.seq
(.ops false [] [
o 35 (.bin .lss (t 34) (t 33))])
(.seq
(.cond (t 35)
.skip
(.exit 2))
(.seq
(.block 3
(.seq
(.ops false [] [
o 36 (.iad 139 (t 32) (t 34)),
o 37 (.ld (some 139) (t 36)),
o 10 (.box (.c (.agg [i0, z, z, z, z, z, z, z, z, z, z, z, z, z, z, z, z, z, z, z, z, z, z, z, z, z, z, z, z, z, z, z, z, i0, i0, z, z, z, z, z, z, z, z, z, z, z, z, z, z, z, z, z, z, z, z, z, z, z, z, z, z, z, z, z, z, z, z, i0, e0, i0, e0, z, z, z, z, z, z, z, z, z, z, z, z, z, z, z, z, z, z, z, z, z, z, z, z, z, z, z, z, z, z, z, z, i0, z, z, z, z, z, z, z, z, z, z, z, z, z, z, z, z, z, z, z, z, z, z, z, z, z, z, z, z, z, z, z, z, i0, (.nil 1), (.nil 33)]))),
⟨none,none,.st 139 (t 10) (t 37)⟩])
(.seq
(.ops false [] [
o 38 (.fad 0 (t 10)),
o 39 (.ld none (t 38)),
o 40 (.call (.fn 210) [(t 39)]),
o 41 (.bsl false 273 3 1 [bF, e0, (.nil 3)] [(0, 3, (t 40))]),
o 42 (.call (.fn 207) [(t 41)]),
o 11 (.box (.c (.agg [bF, e0, (.nil 3)]))),
⟨none,none,.st 3 (t 11) (t 42)⟩])
(.seq
(.ops true [0, 1, 0, 0, 8, 28, 0, 124, 255, 511, 1023] [
o 43 (.fad 2 (t 11)),
o 44 (.ld none (t 43)),
m 45 8,
o 46 (.fad 0 (t 10)),
o 47 (.ld none (t 46)),
o 48 (.lkp false [.i] (.d (.sc .nilFunc)) false (t 45) (t 47)),
o 49 (.ld (some 139) (t 10)),
o 50 (.call (.val (t 48)) [(t 49)]),
o 51 (.app false 273 3 48 (t 44) (t 50)),
o 52 (.fad 2 (t 11)),
⟨none,none,.st 1 (t 52) (t 51)⟩])
(.ops false [] [
o 53 (.fad 2 (t 5)),
o 54 (.ld none (t 53)),
o 55 (.ld (some 3) (t 11)),
o 56 (.bsl false 273 3 1 [bF, e0, (.nil 3)] [(0, 3, (t 55))]),
o 57 (.app false 273 3 48 (t 54) (t 56)),
o 58 (.fad 2 (t 5)),
⟨none,none,.st 1 (t 58) (t 57)⟩])))))
(.ops false [] [
o 59 (.bin .add (t 34) (.c i1)),
m 34 59]))))))))
(.seq
(.ops true [0, 0, 2, 7, 0, 16, 63, 0, 128, 511, 0, 0, 4095, 8191, 16383, 32767, 32767, 131071, 262143] [
⟨(some 60),none,.call (.fn 208) [(.c (.d (.sc (.string ⟨#[113, 117, 105, 108, 116, 49]⟩))))]⟩,
o 61 (.fad 0 (t 1)),
o 62 (.ld none (t 61)),
o 63 (.call (.fn 208) [(t 62)]),
o 64 (.fad 1 (t 1)),
o 65 (.ld none (t 64)),
o 66 (.call (.fn 208) [(t 65)]),
o 67 (.fad 2 (t 1)),
o 68 (.ld none (t 67)),
o 69 (.call (.fn 210) [(t 68)]),
o 70 (.ld (some 3) (t 4)),
o 71 (.ld (some 3) (t 5)),
o 72 (.bsl false 273 3 6 [bF, e0, (.nil 3), bF, e0, (.nil 3), bF, e0, (.nil 3), bF, e0, (.nil 3), bF, e0, (.nil 3), bF, e0, (.nil 3)] [(0, 3, (t 60)), (3, 3, (t 63)), (6, 3, (t 66)), (9, 3, (t 69)), (12, 3, (t 70)), (15, 3, (t 71))]),
o 73 (.call (.fn 207) [(t 72)]),
o 74 (.call (.fn 211) [(t 73)]),
o 75 (.ext (t 74) 0),
o 76 (.ext (t 74) 1),
m 2 75,
m 3 76])
.ret)))))), [.tmp 2, .tmp 3]⟩
theorem ok_175 : compFn Tryz.prog [] 175 = some (CF.erase k_175) := by kernel_rfl

def k_204 : CF := ⟨63,
(.seq
(.ops false [] [
o 2 (.mov (.c bF))])
(.seq
(.seq
(.ops false [] [
m 5 0,
o 6 (.len 1 (t 5)),
o 7 (.mov (.c i0))])
(.block 0
(.loop
(.trim [7, 0, 6]
(.seq
(.ops false [] [
o 8 (.bin .lss (t 7) (t 6))])
(.seq
(.cond (t 8)
.skip
(.exit 0))
(.seq
(.block 1
(.seq
(.ops false [] [
m 9 7,
m 3 9])
(.seq
(.ops false [] [
m 10 0,
m 11 3,
o 12 (.six (t 10) (t 11)),
m 4 12])
(.seq
(.ops false [] [
m 13 4,
o 14 (.bin .lss (t 13) (.c (.d (.sc (.int .u8 97))))),
m 15 14,
⟨(some 16),(some ((some 15),false)),.mov (t 4)⟩,
⟨(some 17),(some ((some 15),false)),.bin .gtr (t 16) (.c (.d (.sc (.int .u8 122))))⟩,
o 18 (.pick (t 15) (.c bT) (t 17)),
m 19 18,
⟨(some 20),(some ((some 19),true)),.mov (t 4)⟩,
⟨(some 21),(some ((some 19),true)),.bin .lss (t 20) (.c (.d (.sc (.int .u8 65))))⟩,
⟨(some 22),(some ((some 19),true)),.mov (t 21)⟩,
⟨(some 23),(some ((some 22),false)),.mov (t 4)⟩,
⟨(some 24),(some ((some 22),false)),.bin .gtr (t 23) (.c (.d (.sc (.int .u8 90))))⟩,
⟨(some 25),(some ((some 19),true)),.pick (t 22) (.c bT) (t 24)⟩,
o 26 (.pick (t 19) (t 25) (.c bF)),
m 27 26,
⟨(some 28),(some ((some 27),true)),.mov (t 4)⟩,
⟨(some 29),(some ((some 27),true)),.bin .lss (t 28) (.c (.d (.sc (.int .u8 48))))⟩,
⟨(some 30),(some ((some 27),true)),.mov (t 29)⟩,
⟨(some 31),(some ((some 30),false)),.mov (t 4)⟩,
⟨(some 32),(some ((some 30),false)),.bin .gtr (t 31) (.c (.d (.sc (.int .u8 57))))⟩,
⟨(some 33),(some ((some 27),true)),.pick (t 30) (.c bT) (t 32)⟩,
o 34 (.pick (t 27) (t 33) (.c bF)),
m 35 34,
⟨(some 36),(some ((some 35),true)),.mov (t 4)⟩,
⟨(some 37),(some ((some 35),true)),.bin .neq (t 36) (.c (.d (.sc (.int .u8 46))))⟩,
o 38 (.pick (t 35) (t 37) (.c bF)),
m 39 38,
⟨(some 40),(some ((some 39),true)),.mov (t 4)⟩,
⟨(some 41),(some ((some 39),true)),.bin .neq (t 40) (.c (.d (.sc (.int .u8 95))))⟩,
o 42 (.pick (t 39) (t 41) (.c bF)),
m 43 42,
⟨(some 44),(some ((some 43),true)),.mov (t 4)⟩,
⟨(some 45),(some ((some 43),true)),.bin .neq (t 44) (.c (.d (.sc (.int .u8 45))))⟩,
o 46 (.pick (t 43) (t 45) (.c bF))])
(.cond (t 46)
(.seq
(.ops false [] [
o 2 (.mov (.c bF))])
.ret)
.skip)))))
(.ops false [] [
o 47 (.bin .add (t 7) (.c i1)),
m 7 47]))))))))
(.seq
(.ops false [] [
m 48 0,
o 49 (.bin .neq (t 48) (.c e0)),
m 50 49,
⟨(some 51),(some ((some 50),true)),.mov (t 0)⟩,
⟨(some 52),(some ((some 50),true)),.len 1 (t 51)⟩,
⟨(some 53),(some ((some 50),true)),.bin .leq (t 52) (.c (.d (.sc (.int .i64 40))))⟩,
o 54 (.pick (t 50) (t 53) (.c bF)),
m 55 54,
⟨(some 56),(some ((some 55),true)),.mov (t 0)⟩,
⟨(some 57),(some ((some 55),true)),.bin .neq (t 56) (.c (.d (.sc (.string ⟨#[46]⟩))))⟩,
o 58 (.pick (t 55) (t 57) (.c bF)),
m 59 58,
⟨(some 60),(some ((some 59),true)),.mov (t 0)⟩,
⟨(some 61),(some ((some 59),true)),.bin .neq (t 60) (.c (.d (.sc (.string ⟨#[46, 46]⟩))))⟩,
o 62 (.pick (t 59) (t 61) (.c bF)),
m 2 62])
.ret))), [.tmp 2]⟩
theorem ok_204 : compFn Tryz.prog [] 204 = some (CF.erase k_204) := by kernel_rfl

def k_209 : CF := ⟨3,
(.seq
(.ops false [] [
o 0 (.mov (.c (.d (.sc (.map none)))))])
(.seq
(.ops false [] [
o 1 (.mkm false),
⟨none,none,.mup false [.i] (t 1) (.c i1) (.c (.clo 231 [] []))⟩,
⟨none,none,.mup false [.i] (t 1) (.c (.d (.sc (.int .i64 2)))) (.c (.clo 232 [] []))⟩,
⟨none,none,.mup false [.i] (t 1) (.c (.d (.sc (.int .i64 3)))) (.c (.clo 235 [] []))⟩,
⟨none,none,.mup false [.i] (t 1) (.c (.d (.sc (.int .i64 4)))) (.c (.clo 236 [] []))⟩,
⟨none,none,.mup false [.i] (t 1) (.c (.d (.sc (.int .i64 5)))) (.c (.clo 237 [] []))⟩,
⟨none,none,.mup false [.i] (t 1) (.c (.d (.sc (.int .i64 6)))) (.c (.clo 239 [] []))⟩,
⟨none,none,.mup false [.i] (t 1) (.c (.d (.sc (.int .i64 7)))) (.c (.clo 240 [] []))⟩,
m 2 1,
m 0 2])
.ret)), [.tmp 0]⟩
theorem ok_209 : compFn Tryz.prog [] 209 = some (CF.erase k_209) := by kernel_rfl

def k_211 : CF := ⟨14,
(.seq
(.ops false [] [
o 1 (.box (t 0)),
o 2 (.mov (.c e0)),
o 3 (.mov (.c i0))])
(.seq
(.seq
(.ops false [] [
o 6 (.ld (some 3) (t 1)),
o 7 (.call (.fn 242) [(t 6)]),
m 4 7])
(.seq
(.ops false [] [
m 8 4,
o 9 (.bin .neq (t 8) (.c i0))])
(.cond (t 9)
(.seq
(.ops false [] [
m 10 4,
o 2 (.mov (.c e0)),
m 3 10])
.ret)
.skip)))
(.seq
(.ops false [] [
o 5 (.bxt 301 (.c (.agg [(.d (.sc (.pointer none))), (.nil 1)])))])
(.seq
(.ops false [] [
o 11 (.ld (some 3) (t 1)),
o 12 (.call (.fn 243) [(t 5), (t 11)])])
(.seq
(.ops false [] [
o 13 (.call (.fn 244) [(t 5)]),
m 2 13,
o 3 (.mov (.c i0))])
.ret))))), [.tmp 2, .tmp 3]⟩
theorem ok_211 : compFn Tryz.prog [100005] 211 = some (CF.erase k_211) := by kernel_rfl

def k_242 : CF := ⟨15,
(.seq
(.ops false [] [
o 1 (.box (t 0)),
o 2 (.mov (.c i0))])
(.seq
(.ops false [] [
o 4 (.bld [i0, bF] []),
o 5 (.box (t 4)),
m 3 5])
(.seq
(.seq
(.ops false [] [
m 6 3,
o 7 (.ld (some 3) (t 1)),
o 8 (.call (.fn 251) [(t 6), (t 7), (.c i1)])])
(.seq
(.ops false [] [
m 9 3,
o 10 (.nck (t 9)),
o 11 (.fad 1 (t 10)),
o 12 (.ld none (t 11))])
(.cond (t 12)
(.seq
(.ops false [] [
o 2 (.mov (.c (.d (.sc (.int .i64 4)))))])
.ret)
.skip)))
(.seq
(.ops false [] [
o 13 (.ld (some 3) (t 1)),
o 14 (.call (.fn 252) [(t 13)]),
m 2 14])
.ret)))), [.tmp 2]⟩
theorem ok_242 : compFn Tryz.prog [] 242 = some (CF.erase k_242) := by kernel_rfl

def k_138 : CF := ⟨123,
(.seq
(.ops false [] [
o 2 (.box (t 0)),
o 4 (.box (.c (.agg [(.d (.sc (.int .u32 0))), (.d (.sc (.int .u32 0))), (.d (.sc (.int .u32 0))), (.d (.sc (.int .u32 0))), (.d (.sc (.int .u32 0))), (.d (.sc (.int .u32 0))), (.d (.sc (.int .u32 0))), (.d (.sc (.int .u32 0)))])))])
(.seq
(.ops false [] [
m 20 1,
o 21 (.call (.fn 180) [(t 20)]),
o 22 (.call (.fn 181) []),
o 5 (.box (.c (.agg [(.d (.sc (.int .u32 0))), (.d (.sc (.int .u32 0))), (.d (.sc (.int .u32 0))), (.d (.sc (.int .u32 0))), (.d (.sc (.int .u32 0))), (.d (.sc (.int .u32 0))), (.d (.sc (.int .u32 0))), (.d (.sc (.int .u32 0))), (.d (.sc (.int .u32 0))), (.d (.sc (.int .u32 0))), (.d (.sc (.int .u32 0))), (.d (.sc (.int .u32 0))), (.d (.sc (.int .u32 0))), (.d (.sc (.int .u32 0))), (.d (.sc (.int .u32 0))), (.d (.sc (.int .u32 0))), (.d (.sc (.int .u32 0))), (.d (.sc (.int .u32 0))), (.d (.sc (.int .u32 0))), (.d (.sc (.int .u32 0))), (.d (.sc (.int .u32 0))), (.d (.sc (.int .u32 0))), (.d (.sc (.int .u32 0))), (.d (.sc (.int .u32 0))), (.d (.sc (.int .u32 0))), (.d (.sc (.int .u32 0))), (.d (.sc (.int .u32 0))), (.d (.sc (.int .u32 0))), (.d (.sc (.int .u32 0))), (.d (.sc (.int .u32 0))), (.d (.sc (.int .u32 0))), (.d (.sc (.int .u32 0))), (.d (.sc (.int .u32 0))), (.d (.sc (.int .u32 0))), (.d (.sc (.int .u32 0))), (.d (.sc (.int .u32 0))), (.d (.sc (.int .u32 0))), (.d (.sc (.int .u32 0))), (.d (.sc (.int .u32 0))), (.d (.sc (.int .u32 0))), (.d (.sc (.int .u32 0))), (.d (.sc (.int .u32 0))), (.d (.sc (.int .u32 0))), (.d (.sc (.int .u32 0))), (.d (.sc (.int .u32 0))), (.d (.sc (.int .u32 0))), (.d (.sc (.int .u32 0))), (.d (.sc (.int .u32 0))), (.d (.sc (.int .u32 0))), (.d (.sc (.int .u32 0))), (.d (.sc (.int .u32 0))), (.d (.sc (.int .u32 0))), (.d (.sc (.int .u32 0))), (.d (.sc (.int .u32 0))), (.d (.sc (.int .u32 0))), (.d (.sc (.int .u32 0))), (.d (.sc (.int .u32 0))), (.d (.sc (.int .u32 0))), (.d (.sc (.int .u32 0))), (.d (.sc (.int .u32 0))), (.d (.sc (.int .u32 0))), (.d (.sc (.int .u32 0))), (.d (.sc (.int .u32 0))), (.d (.sc (.int .u32 0)))]))),
o 6 (.box (.c (.agg [(.d (.sc (.int .u32 0))), (.d (.sc (.int .u32 0))), (.d (.sc (.int .u32 0))), (.d (.sc (.int .u32 0))), (.d (.sc (.int .u32 0))), (.d (.sc (.int .u32 0))), (.d (.sc (.int .u32 0))), (.d (.sc (.int .u32 0))), (.d (.sc (.int .u32 0))), (.d (.sc (.int .u32 0))), (.d (.sc (.int .u32 0))), (.d (.sc (.int .u32 0))), (.d (.sc (.int .u32 0))), (.d (.sc (.int .u32 0))), (.d (.sc (.int .u32 0))), (.d (.sc (.int .u32 0))), (.d (.sc (.int .u32 0))), (.d (.sc (.int .u32 0))), (.d (.sc (.int .u32 0))), (.d (.sc (.int .u32 0))), (.d (.sc (.int .u32 0))), (.d (.sc (.int .u32 0))), (.d (.sc (.int .u32 0))), (.d (.sc (.int .u32 0))), (.d (.sc (.int .u32 0))), (.d (.sc (.int .u32 0))), (.d (.sc (.int .u32 0))), (.d (.sc (.int .u32 0))), (.d (.sc (.int .u32 0))), (.d (.sc (.int .u32 0))), (.d (.sc (.int .u32 0))), (.d (.sc (.int .u32 0))), (.d (.sc (.int .u32 0))), (.d (.sc (.int .u32 0))), (.d (.sc (.int .u32 0))), (.d (.sc (.int .u32 0))), (.d (.sc (.int .u32 0))), (.d (.sc (.int .u32 0))), (.d (.sc (.int .u32 0))), (.d (.sc (.int .u32 0))), (.d (.sc (.int .u32 0))), (.d (.sc (.int .u32 0))), (.d (.sc (.int .u32 0))), (.d (.sc (.int .u32 0))), (.d (.sc (.int .u32 0))), (.d (.sc (.int .u32 0))), (.d (.sc (.int .u32 0))), (.d (.sc (.int .u32 0))), (.d (.sc (.int .u32 0))), (.d (.sc (.int .u32 0))), (.d (.sc (.int .u32 0))), (.d (.sc (.int .u32 0))), (.d (.sc (.int .u32 0))), (.d (.sc (.int .u32 0))), (.d (.sc (.int .u32 0))), (.d (.sc (.int .u32 0))), (.d (.sc (.int .u32 0))), (.d (.sc (.int .u32 0))), (.d (.sc (.int .u32 0))), (.d (.sc (.int .u32 0))), (.d (.sc (.int .u32 0))), (.d (.sc (.int .u32 0))), (.d (.sc (.int .u32 0))), (.d (.sc (.int .u32 0)))]))),
⟨none,none,.st 64 (t 5) (t 21)⟩,
⟨none,none,.st 64 (t 6) (t 22)⟩])
(.seq
(.ops true [0, 1, 0, 4, 0, 16, 0, 64, 0, 256, 0, 1024, 0, 4096, 0, 16384, 3, 65551, 196671, 459007, 984063, 2035711, 4145151, 8388607] [
o 23 (.iap 8 1 (t 2) (.c i0)),
o 24 (.ld none (t 23)),
o 25 (.iap 8 1 (t 2) (.c i1)),
o 26 (.ld none (t 25)),
o 27 (.iap 8 1 (t 2) (.c (.d (.sc (.int .i64 2))))),
o 28 (.ld none (t 27)),
o 29 (.iap 8 1 (t 2) (.c (.d (.sc (.int .i64 3))))),
o 30 (.ld none (t 29)),
o 31 (.iap 8 1 (t 2) (.c (.d (.sc (.int .i64 4))))),
o 32 (.ld none (t 31)),
o 33 (.iap 8 1 (t 2) (.c (.d (.sc (.int .i64 5))))),
o 34 (.ld none (t 33)),
o 35 (.iap 8 1 (t 2) (.c (.d (.sc (.int .i64 6))))),
o 36 (.ld none (t 35)),
o 37 (.iap 8 1 (t 2) (.c (.d (.sc (.int .i64 7))))),
o 38 (.ld none (t 37)),
m 7 24,
m 8 26,
m 9 28,
m 10 30,
m 11 32,
m 12 34,
m 13 36,
m 14 38])
(.seq
(.seq
(.ops false [] [
o 39 (.mov (.c i0))])
(.block 0
(.loop
(.trim [39, 13, 12, 11, 10, 9, 8, 7, 5, 6, 14, 2, 4]
(.seq
(.ops false [] [
o 40 (.bin .lss (t 39) (.c (.d (.sc (.int .i64 64)))))])
(.seq
(.cond (t 40)
.skip
(.exit 0))
(.seq
(.block 1
(.seq
(.ops false [] [
m 41 39,
m 15 41])
(.seq
(.ops true [0, 0, 2, 0, 14, 30, 0, 94, 254, 511, 0, 0, 3072, 0, 8192, 0, 57344, 130048, 262143, 0, 524288, 1572864, 4194303, 0, 8388608, 25165824, 67108863, 134217727] [
m 42 14,
m 43 11,
o 44 (.call (.fn 182) [(t 43), (.c (.d (.sc (.int .i64 6))))]),
m 45 11,
o 46 (.call (.fn 182) [(t 45), (.c (.d (.sc (.int .i64 11))))]),
o 47 (.bin .xor (t 44) (t 46)),
m 48 11,
o 49 (.call (.fn 182) [(t 48), (.c (.d (.sc (.int .i64 25))))]),
o 50 (.bin .xor (t 47) (t 49)),
o 51 (.bin .add (t 42) (t 50)),
m 52 11,
m 53 12,
o 54 (.bin .and (t 52) (t 53)),
m 55 11,
o 56 (.un .xor (t 55)),
m 57 13,
o 58 (.bin .and (t 56) (t 57)),
o 59 (.bin .xor (t 54) (t 58)),
o 60 (.bin .add (t 51) (t 59)),
m 61 15,
o 62 (.iap 64 1 (t 6) (t 61)),
o 63 (.ld none (t 62)),
o 64 (.bin .add (t 60) (t 63)),
m 65 15,
o 66 (.iap 64 1 (t 5) (t 65)),
o 67 (.ld none (t 66)),
o 68 (.bin .add (t 64) (t 67)),
m 16 68])
(.seq
(.ops false [] [
m 69 7,
o 70 (.call (.fn 182) [(t 69), (.c (.d (.sc (.int .i64 2))))]),
m 71 7,
o 72 (.call (.fn 182) [(t 71), (.c (.d (.sc (.int .i64 13))))]),
o 73 (.bin .xor (t 70) (t 72)),
m 74 7,
o 75 (.call (.fn 182) [(t 74), (.c (.d (.sc (.int .i64 22))))]),
o 76 (.bin .xor (t 73) (t 75)),
m 77 7,
m 78 8,
o 79 (.bin .and (t 77) (t 78)),
m 80 7,
m 81 9,
o 82 (.bin .and (t 80) (t 81)),
o 83 (.bin .xor (t 79) (t 82)),
m 84 8,
m 85 9,
o 86 (.bin .and (t 84) (t 85)),
o 87 (.bin .xor (t 83) (t 86)),
o 88 (.bin .add (t 76) (t 87)),
m 17 88])
(.ops false [] [
m 89 16,
m 90 17,
o 91 (.bin .add (t 89) (t 90)),
m 92 7,
m 93 8,
m 94 9,
m 95 10,
m 96 16,
o 97 (.bin .add (t 95) (t 96)),
m 98 11,
m 99 12,
m 100 13,
m 7 91,
m 8 92,
m 9 93,
m 10 94,
m 11 97,
m 12 98,
m 13 99,
m 14 100])))))
(.ops false [] [
o 101 (.bin .add (t 39) (.c i1)),
m 39 101]))))))))
(.seq
(.seq
(.ops false [] [
m 102 7,
m 103 8,
m 104 9,
m 105 10,
m 106 11,
m 107 12,
m 108 13,
m 109 14,
o 110 (.bld [(.d (.sc (.int .u32 0))), (.d (.sc (.int .u32 0))), (.d (.sc (.int .u32 0))), (.d (.sc (.int .u32 0))), (.d (.sc (.int .u32 0))), (.d (.sc (.int .u32 0))), (.d (.sc (.int .u32 0))), (.d (.sc (.int .u32 0)))] [(0, 1, (t 102)), (1, 1, (t 103)), (2, 1, (t 104)), (3, 1, (t 105)), (4, 1, (t 106)), (5, 1, (t 107)), (6, 1, (t 108)), (7, 1, (t 109))]),
o 111 (.mov (.c i0))])
(.block 2
(.loop
(.trim [111, 2, 110, 4]
(.seq
(.ops false [] [
o 112 (.bin .lss (t 111) (.c (.d (.sc (.int .i64 8)))))])
(.seq
(.cond (t 112)
.skip
(.exit 2))
(.seq
(.block 3
(.seq
(.ops false [] [
m 113 111,
o 114 (.idx 8 1 none (t 110) (t 111)),
m 18 113,
m 19 114])
(.ops false [] [
m 115 18,
o 116 (.iap 8 1 (t 2) (t 115)),
o 117 (.ld none (t 116)),
m 118 19,
o 119 (.bin .add (t 117) (t 118)),
o 120 (.iap 8 1 (t 2) (t 115)),
⟨none,none,.st 1 (t 120) (t 119)⟩])))
(.ops false [] [
o 121 (.bin .add (t 111) (.c i1)),
m 111 121]))))))))
(.seq
(.ops false [] [
o 122 (.ld (some 8) (t 2)),
⟨none,none,.st 8 (t 4) (t 122)⟩])
.ret)))))), [.cell 4 (some 8)]⟩
theorem ok_138 : compFn Tryz.prog [] 138 = some (CF.erase k_138) := by kernel_rfl

def k_180 : CF := ⟨76,
(.seq
(.ops false [] [
o 2 (.box (.c (.agg [(.d (.sc (.int .u32 0))), (.d (.sc (.int .u32 0))), (.d (.sc (.int .u32 0))), (.d (.sc (.int .u32 0))), (.d (.sc (.int .u32 0))), (.d (.sc (.int .u32 0))), (.d (.sc (.int .u32 0))), (.d (.sc (.int .u32 0))), (.d (.sc (.int .u32 0))), (.d (.sc (.int .u32 0))), (.d (.sc (.int .u32 0))), (.d (.sc (.int .u32 0))), (.d (.sc (.int .u32 0))), (.d (.sc (.int .u32 0))), (.d (.sc (.int .u32 0))), (.d (.sc (.int .u32 0))), (.d (.sc (.int .u32 0))), (.d (.sc (.int .u32 0))), (.d (.sc (.int .u32 0))), (.d (.sc (.int .u32 0))), (.d (.sc (.int .u32 0))), (.d (.sc (.int .u32 0))), (.d (.sc (.int .u32 0))), (.d (.sc (.int .u32 0))), (.d (.sc (.int .u32 0))), (.d (.sc (.int .u32 0))), (.d (.sc (.int .u32 0))), (.d (.sc (.int .u32 0))), (.d (.sc (.int .u32 0))), (.d (.sc (.int .u32 0))), (.d (.sc (.int .u32 0))), (.d (.sc (.int .u32 0))), (.d (.sc (.int .u32 0))), (.d (.sc (.int .u32 0))), (.d (.sc (.int .u32 0))), (.d (.sc (.int .u32 0))), (.d (.sc (.int .u32 0))), (.d (.sc (.int .u32 0))), (.d (.sc (.int .u32 0))), (.d (.sc (.int .u32 0))), (.d (.sc (.int .u32 0))), (.d (.sc (.int .u32 0))), (.d (.sc (.int .u32 0))), (.d (.sc (.int .u32 0))), (.d (.sc (.int .u32 0))), (.d (.sc (.int .u32 0))), (.d (.sc (.int .u32 0))), (.d (.sc (.int .u32 0))), (.d (.sc (.int .u32 0))), (.d (.sc (.int .u32 0))), (.d (.sc (.int .u32 0))), (.d (.sc (.int .u32 0))), (.d (.sc (.int .u32 0))), (.d (.sc (.int .u32 0))), (.d (.sc (.int .u32 0))), (.d (.sc (.int .u32 0))), (.d (.sc (.int .u32 0))), (.d (.sc (.int .u32 0))), (.d (.sc (.int .u32 0))), (.d (.sc (.int .u32 0))), (.d (.sc (.int .u32 0))), (.d (.sc (.int .u32 0))), (.d (.sc (.int .u32 0))), (.d (.sc (.int .u32 0)))])))])
(.seq
(.ops false [] [
o 3 (.box (.c (.agg [(.d (.sc (.int .u32 0))), (.d (.sc (.int .u32 0))), (.d (.sc (.int .u32 0))), (.d (.sc (.int .u32 0))), (.d (.sc (.int .u32 0))), (.d (.sc (.int .u32 0))), (.d (.sc (.int .u32 0))), (.d (.sc (.int .u32 0))), (.d (.sc (.int .u32 0))), (.d (.sc (.int .u32 0))), (.d (.sc (.int .u32 0))), (.d (.sc (.int .u32 0))), (.d (.sc (.int .u32 0))), (.d (.sc (.int .u32 0))), (.d (.sc (.int .u32 0))), (.d (.sc (.int .u32 0))), (.d (.sc (.int .u32 0))), (.d (.sc (.int .u32 0))), (.d (.sc (.int .u32 0))), (.d (.sc (.int .u32 0))), (.d (.sc (.int .u32 0))), (.d (.sc (.int .u32 0))), (.d (.sc (.int .u32 0))), (.d (.sc (.int .u32 0))), (.d (.sc (.int .u32 0))), (.d (.sc (.int .u32 0))), (.d (.sc (.int .u32 0))), (.d (.sc (.int .u32 0))), (.d (.sc (.int .u32 0))), (.d (.sc (.int .u32 0))), (.d (.sc (.int .u32 0))), (.d (.sc (.int .u32 0))), (.d (.sc (.int .u32 0))), (.d (.sc (.int .u32 0))), (.d (.sc (.int .u32 0))), (.d (.sc (.int .u32 0))), (.d (.sc (.int .u32 0))), (.d (.sc (.int .u32 0))), (.d (.sc (.int .u32 0))), (.d (.sc (.int .u32 0))), (.d (.sc (.int .u32 0))), (.d (.sc (.int .u32 0))), (.d (.sc (.int .u32 0))), (.d (.sc (.int .u32 0))), (.d (.sc (.int .u32 0))), (.d (.sc (.int .u32 0))), (.d (.sc (.int .u32 0))), (.d (.sc (.int .u32 0))), (.d (.sc (.int .u32 0))), (.d (.sc (.int .u32 0))), (.d (.sc (.int .u32 0))), (.d (.sc (.int .u32 0))), (.d (.sc (.int .u32 0))), (.d (.sc (.int .u32 0))), (.d (.sc (.int .u32 0))), (.d (.sc (.int .u32 0))), (.d (.sc (.int .u32 0))), (.d (.sc (.int .u32 0))), (.d (.sc (.int .u32 0))), (.d (.sc (.int .u32 0))), (.d (.sc (.int .u32 0))), (.d (.sc (.int .u32 0))), (.d (.sc (.int .u32 0))), (.d (.sc (.int .u32 0)))])))])
(.seq
(.seq
(.ops false [] [
o 9 (.mov (.c i0))])
(.block 0
(.loop
(.trim [9, 3, 0, 2]
(.seq
(.ops false [] [
o 10 (.bin .lss (t 9) (.c (.d (.sc (.int .i64 64)))))])
(.seq
(.cond (t 10)
.skip
(.exit 0))
(.seq
(.block 1
(.seq
(.ops false [] [
m 11 9,
m 4 11])
(.seq
(.seq
(.ops false [] [
m 12 4,
o 13 (.bin .lss (t 12) (.c (.d (.sc (.int .i64 16)))))])
(.cond (t 13)
(.seq
(.seq
(.ops false [] [
m 14 0,
m 15 4,
o 16 (.bin .mul (.c (.d (.sc (.int .i64 4)))) (t 15)),
m 17 4,
o 18 (.bin .mul (.c (.d (.sc (.int .i64 4)))) (t 17)),
o 19 (.bin .add (t 18) (.c (.d (.sc (.int .i64 4))))),
o 20 (.sls (t 14) (some (t 16)) (some (t 19))),
o 21 (.s2b (t 20)),
o 22 (.len 0 (t 21)),
o 23 (.mov (.c i0))])
(.block 2
(.loop
(.trim [23, 3, 4, 21, 9, 0, 2, 22]
(.seq
(.ops false [] [
o 24 (.bin .lss (t 23) (t 22))])
(.seq
(.cond (t 24)
.skip
(.exit 2))
(.seq
(.block 3
(.seq
(.ops false [] [
o 25 (.iad 1 (t 21) (t 23)),
o 26 (.ld none (t 25)),
m 6 26])
(.ops false [] [
m 27 4,
m 28 4,
o 29 (.iap 64 1 (t 3) (t 28)),
o 30 (.ld none (t 29)),
o 31 (.bin .shl (t 30) (.c (.d (.sc (.int .u64 8))))),
m 32 6,
o 33 (.cnv .u32 (t 32)),
o 34 (.bin .or (t 31) (t 33)),
o 35 (.iap 64 1 (t 3) (t 27)),
⟨none,none,.st 1 (t 35) (t 34)⟩])))
(.ops false [] [
o 36 (.bin .add (t 23) (.c i1)),
m 23 36]))))))))
(.exit 1))
.skip))
(.seq
(.ops true [0, 1, 3, 7, 0, 16, 48, 112, 15, 511] [
m 37 4,
o 38 (.bin .sub (t 37) (.c (.d (.sc (.int .i64 15))))),
o 39 (.iap 64 1 (t 3) (t 38)),
o 40 (.ld none (t 39)),
m 41 4,
o 42 (.bin .sub (t 41) (.c (.d (.sc (.int .i64 2))))),
o 43 (.iap 64 1 (t 3) (t 42)),
o 44 (.ld none (t 43)),
m 7 40,
m 8 44])
(.ops true [0, 0, 2, 0, 14, 30, 0, 64, 254, 0, 512, 1536, 3584, 8190, 0, 16414, 0, 114718, 245790, 0, 524288, 2080798, 4194302, 0, 8388608, 25165824, 58720256, 134217726, 268435455, 536870911] [
m 45 4,
m 46 8,
o 47 (.call (.fn 182) [(t 46), (.c (.d (.sc (.int .i64 17))))]),
m 48 8,
o 49 (.call (.fn 182) [(t 48), (.c (.d (.sc (.int .i64 19))))]),
o 50 (.bin .xor (t 47) (t 49)),
m 51 8,
o 52 (.bin .shr (t 51) (.c (.d (.sc (.int .u64 10))))),
o 53 (.bin .xor (t 50) (t 52)),
m 54 4,
o 55 (.bin .sub (t 54) (.c (.d (.sc (.int .i64 7))))),
o 56 (.iap 64 1 (t 3) (t 55)),
o 57 (.ld none (t 56)),
o 58 (.bin .add (t 53) (t 57)),
m 59 7,
o 60 (.call (.fn 182) [(t 59), (.c (.d (.sc (.int .i64 7))))]),
m 61 7,
o 62 (.call (.fn 182) [(t 61), (.c (.d (.sc (.int .i64 18))))]),
o 63 (.bin .xor (t 60) (t 62)),
m 64 7,
o 65 (.bin .shr (t 64) (.c (.d (.sc (.int .u64 3))))),
o 66 (.bin .xor (t 63) (t 65)),
o 67 (.bin .add (t 58) (t 66)),
m 68 4,
o 69 (.bin .sub (t 68) (.c (.d (.sc (.int .i64 16))))),
o 70 (.iap 64 1 (t 3) (t 69)),
o 71 (.ld none (t 70)),
o 72 (.bin .add (t 67) (t 71)),
o 73 (.iap 64 1 (t 3) (t 45)),
⟨none,none,.st 1 (t 73) (t 72)⟩])))))
(.ops false [] [
o 74 (.bin .add (t 9) (.c i1)),
m 9 74]))))))))
(.seq
(.ops false [] [
o 75 (.ld (some 64) (t 3)),
⟨none,none,.st 64 (t 2) (t 75)⟩])
.ret)))), [.cell 2 (some 64)]⟩
theorem ok_180 : compFn Tryz.prog [] 180 = some (CF.erase k_180) := by kernel_rfl

def k_181 : CF := ⟨2,
(.seq
(.ops false [] [
o 0 (.box (.c (.agg [(.d (.sc (.int .u32 0))), (.d (.sc (.int .u32 0))), (.d (.sc (.int .u32 0))), (.d (.sc (.int .u32 0))), (.d (.sc (.int .u32 0))), (.d (.sc (.int .u32 0))), (.d (.sc (.int .u32 0))), (.d (.sc (.int .u32 0))), (.d (.sc (.int .u32 0))), (.d (.sc (.int .u32 0))), (.d (.sc (.int .u32 0))), (.d (.sc (.int .u32 0))), (.d (.sc (.int .u32 0))), (.d (.sc (.int .u32 0))), (.d (.sc (.int .u32 0))), (.d (.sc (.int .u32 0))), (.d (.sc (.int .u32 0))), (.d (.sc (.int .u32 0))), (.d (.sc (.int .u32 0))), (.d (.sc (.int .u32 0))), (.d (.sc (.int .u32 0))), (.d (.sc (.int .u32 0))), (.d (.sc (.int .u32 0))), (.d (.sc (.int .u32 0))), (.d (.sc (.int .u32 0))), (.d (.sc (.int .u32 0))), (.d (.sc (.int .u32 0))), (.d (.sc (.int .u32 0))), (.d (.sc (.int .u32 0))), (.d (.sc (.int .u32 0))), (.d (.sc (.int .u32 0))), (.d (.sc (.int .u32 0))), (.d (.sc (.int .u32 0))), (.d (.sc (.int .u32 0))), (.d (.sc (.int .u32 0))), (.d (.sc (.int .u32 0))), (.d (.sc (.int .u32 0))), (.d (.sc (.int .u32 0))), (.d (.sc (.int .u32 0))), (.d (.sc (.int .u32 0))), (.d (.sc (.int .u32 0))), (.d (.sc (.int .u32 0))), (.d (.sc (.int .u32 0))), (.d (.sc (.int .u32 0))), (.d (.sc (.int .u32 0))), (.d (.sc (.int .u32 0))), (.d (.sc (.int .u32 0))), (.d (.sc (.int .u32 0))), (.d (.sc (.int .u32 0))), (.d (.sc (.int .u32 0))), (.d (.sc (.int .u32 0))), (.d (.sc (.int .u32 0))), (.d (.sc (.int .u32 0))), (.d (.sc (.int .u32 0))), (.d (.sc (.int .u32 0))), (.d (.sc (.int .u32 0))), (.d (.sc (.int .u32 0))), (.d (.sc (.int .u32 0))), (.d (.sc (.int .u32 0))), (.d (.sc (.int .u32 0))), (.d (.sc (.int .u32 0))), (.d (.sc (.int .u32 0))), (.d (.sc (.int .u32 0))), (.d (.sc (.int .u32 0)))])))])
(.seq
(.ops false [] [
o 1 (.bld [(.d (.sc (.int .u32 0))), (.d (.sc (.int .u32 0))), (.d (.sc (.int .u32 0))), (.d (.sc (.int .u32 0))), (.d (.sc (.int .u32 0))), (.d (.sc (.int .u32 0))), (.d (.sc (.int .u32 0))), (.d (.sc (.int .u32 0))), (.d (.sc (.int .u32 0))), (.d (.sc (.int .u32 0))), (.d (.sc (.int .u32 0))), (.d (.sc (.int .u32 0))), (.d (.sc (.int .u32 0))), (.d (.sc (.int .u32 0))), (.d (.sc (.int .u32 0))), (.d (.sc (.int .u32 0))), (.d (.sc (.int .u32 0))), (.d (.sc (.int .u32 0))), (.d (.sc (.int .u32 0))), (.d (.sc (.int .u32 0))), (.d (.sc (.int .u32 0))), (.d (.sc (.int .u32 0))), (.d (.sc (.int .u32 0))), (.d (.sc (.int .u32 0))), (.d (.sc (.int .u32 0))), (.d (.sc (.int .u32 0))), (.d (.sc (.int .u32 0))), (.d (.sc (.int .u32 0))), (.d (.sc (.int .u32 0))), (.d (.sc (.int .u32 0))), (.d (.sc (.int .u32 0))), (.d (.sc (.int .u32 0))), (.d (.sc (.int .u32 0))), (.d (.sc (.int .u32 0))), (.d (.sc (.int .u32 0))), (.d (.sc (.int .u32 0))), (.d (.sc (.int .u32 0))), (.d (.sc (.int .u32 0))), (.d (.sc (.int .u32 0))), (.d (.sc (.int .u32 0))), (.d (.sc (.int .u32 0))), (.d (.sc (.int .u32 0))), (.d (.sc (.int .u32 0))), (.d (.sc (.int .u32 0))), (.d (.sc (.int .u32 0))), (.d (.sc (.int .u32 0))), (.d (.sc (.int .u32 0))), (.d (.sc (.int .u32 0))), (.d (.sc (.int .u32 0))), (.d (.sc (.int .u32 0))), (.d (.sc (.int .u32 0))), (.d (.sc (.int .u32 0))), (.d (.sc (.int .u32 0))), (.d (.sc (.int .u32 0))), (.d (.sc (.int .u32 0))), (.d (.sc (.int .u32 0))), (.d (.sc (.int .u32 0))), (.d (.sc (.int .u32 0))), (.d (.sc (.int .u32 0))), (.d (.sc (.int .u32 0))), (.d (.sc (.int .u32 0))), (.d (.sc (.int .u32 0))), (.d (.sc (.int .u32 0))), (.d (.sc (.int .u32 0)))] [(0, 1, (.c (.d (.sc (.int .u32 1116352408))))), (1, 1, (.c (.d (.sc (.int .u32 1899447441))))), (2, 1, (.c (.d (.sc (.int .u32 3049323471))))), (3, 1, (.c (.d (.sc (.int .u32 3921009573))))), (4, 1, (.c (.d (.sc (.int .u32 961987163))))), (5, 1, (.c (.d (.sc (.int .u32 1508970993))))), (6, 1, (.c (.d (.sc (.int .u32 2453635748))))), (7, 1, (.c (.d (.sc (.int .u32 2870763221))))), (8, 1, (.c (.d (.sc (.int .u32 3624381080))))), (9, 1, (.c (.d (.sc (.int .u32 310598401))))), (10, 1, (.c (.d (.sc (.int .u32 607225278))))), (11, 1, (.c (.d (.sc (.int .u32 1426881987))))), (12, 1, (.c (.d (.sc (.int .u32 1925078388))))), (13, 1, (.c (.d (.sc (.int .u32 2162078206))))), (14, 1, (.c (.d (.sc (.int .u32 2614888103))))), (15, 1, (.c (.d (.sc (.int .u32 3248222580))))), (16, 1, (.c (.d (.sc (.int .u32 3835390401))))), (17, 1, (.c (.d (.sc (.int .u32 4022224774))))), (18, 1, (.c (.d (.sc (.int .u32 264347078))))), (19, 1, (.c (.d (.sc (.int .u32 604807628))))), (20, 1, (.c (.d (.sc (.int .u32 770255983))))), (21, 1, (.c (.d (.sc (.int .u32 1249150122))))), (22, 1, (.c (.d (.sc (.int .u32 1555081692))))), (23, 1, (.c (.d (.sc (.int .u32 1996064986))))), (24, 1, (.c (.d (.sc (.int .u32 2554220882))))), (25, 1, (.c (.d (.sc (.int .u32 2821834349))))), (26, 1, (.c (.d (.sc (.int .u32 2952996808))))), (27, 1, (.c (.d (.sc (.int .u32 3210313671))))), (28, 1, (.c (.d (.sc (.int .u32 3336571891))))), (29, 1, (.c (.d (.sc (.int .u32 3584528711))))), (30, 1, (.c (.d (.sc (.int .u32 113926993))))), (31, 1, (.c (.d (.sc (.int .u32 338241895))))), (32, 1, (.c (.d (.sc (.int .u32 666307205))))), (33, 1, (.c (.d (.sc (.int .u32 773529912))))), (34, 1, (.c (.d (.sc (.int .u32 1294757372))))), (35, 1, (.c (.d (.sc (.int .u32 1396182291))))), (36, 1, (.c (.d (.sc (.int .u32 1695183700))))), (37, 1, (.c (.d (.sc (.int .u32 1986661051))))), (38, 1, (.c (.d (.sc (.int .u32 2177026350))))), (39, 1, (.c (.d (.sc (.int .u32 2456956037))))), (40, 1, (.c (.d (.sc (.int .u32 2730485921))))), (41, 1, (.c (.d (.sc (.int .u32 2820302411))))), (42, 1, (.c (.d (.sc (.int .u32 3259730800))))), (43, 1, (.c (.d (.sc (.int .u32 3345764771))))), (44, 1, (.c (.d (.sc (.int .u32 3516065817))))), (45, 1, (.c (.d (.sc (.int .u32 3600352804))))), (46, 1, (.c (.d (.sc (.int .u32 4094571909))))), (47, 1, (.c (.d (.sc (.int .u32 275423344))))), (48, 1, (.c (.d (.sc (.int .u32 430227734))))), (49, 1, (.c (.d (.sc (.int .u32 506948616))))), (50, 1, (.c (.d (.sc (.int .u32 659060556))))), (51, 1, (.c (.d (.sc (.int .u32 883997877))))), (52, 1, (.c (.d (.sc (.int .u32 958139571))))), (53, 1, (.c (.d (.sc (.int .u32 1322822218))))), (54, 1, (.c (.d (.sc (.int .u32 1537002063))))), (55, 1, (.c (.d (.sc (.int .u32 1747873779))))), (56, 1, (.c (.d (.sc (.int .u32 1955562222))))), (57, 1, (.c (.d (.sc (.int .u32 2024104815))))), (58, 1, (.c (.d (.sc (.int .u32 2227730452))))), (59, 1, (.c (.d (.sc (.int .u32 2361852424))))), (60, 1, (.c (.d (.sc (.int .u32 2428436474))))), (61, 1, (.c (.d (.sc (.int .u32 2756734187))))), (62, 1, (.c (.d (.sc (.int .u32 3204031479))))), (63, 1, (.c (.d (.sc (.int .u32 3329325298)))))]),
⟨none,none,.st 64 (t 0) (t 1)⟩])
.ret)), [.cell 0 (some 64)]⟩
theorem ok_181 : compFn Tryz.prog [] 181 = some (CF.erase k_181) := by kernel_rfl

def k_189 : CF := ⟨21,
(.seq
(.ops false [] [
o 2 (.box (t 0)),
o 3 (.mov (.c bF))])
(.seq
(.ops false [] [
o 4 (.fad 0 (t 2)),
o 5 (.ld (some 33) (t 4)),
o 6 (.fad 1 (t 1)),
o 7 (.ld (some 33) (t 6)),
o 8 (.eqa true [.i, .i, .i, .i, .i, .i, .i, .i, .i, .i, .i, .i, .i, .i, .i, .i, .i, .i, .i, .i, .i, .i, .i, .i, .i, .i, .i, .i, .i, .i, .i, .i, .i] false (t 5) (t 7)),
m 9 8,
⟨(some 10),(some ((some 9),false)),.fad 33 (t 2)⟩,
⟨(some 11),(some ((some 9),false)),.ld none (t 10)⟩,
⟨(some 12),(some ((some 9),false)),.bin .eql (t 11) (.c (.d (.sc (.int .i64 5))))⟩,
⟨(some 13),(some ((some 9),false)),.mov (t 12)⟩,
⟨(some 14),(some ((some 13),true)),.fad 34 (t 2)⟩,
⟨(some 15),(some ((some 13),true)),.ld (some 33) (t 14)⟩,
⟨(some 16),(some ((some 13),true)),.fad 1 (t 1)⟩,
⟨(some 17),(some ((some 13),true)),.ld (some 33) (t 16)⟩,
⟨(some 18),(some ((some 13),true)),.eqa true [.i, .i, .i, .i, .i, .i, .i, .i, .i, .i, .i, .i, .i, .i, .i, .i, .i, .i, .i, .i, .i, .i, .i, .i, .i, .i, .i, .i, .i, .i, .i, .i, .i] false (t 15) (t 17)⟩,
⟨(some 19),(some ((some 9),false)),.pick (t 13) (t 18) (.c bF)⟩,
o 20 (.pick (t 9) (.c bT) (t 19)),
m 3 20])
.ret)), [.tmp 3]⟩
theorem ok_189 : compFn Tryz.prog [] 189 = some (CF.erase k_189) := by kernel_rfl

def k_237 : CF := ⟨16,
(.seq
(.ops false [] [
o 1 (.box (t 0)),
o 2 (.mov (.c (.nil 3)))])
(.seq
(.ops true [0, 1, 3, 0, 8, 31, 0, 64, 255, 0, 512, 2047, 4095, 8191] [
o 3 (.fad 1 (t 1)),
o 4 (.ld (some 33) (t 3)),
o 5 (.call (.fn 233) [(t 4)]),
o 6 (.fad 71 (t 1)),
o 7 (.ld (some 33) (t 6)),
o 8 (.call (.fn 233) [(t 7)]),
o 9 (.fad 104 (t 1)),
o 10 (.ld (some 33) (t 9)),
o 11 (.call (.fn 233) [(t 10)]),
o 12 (.fad 137 (t 1)),
o 13 (.ld none (t 12)),
o 14 (.call (.fn 238) [(t 13)]),
o 15 (.bsl false 273 3 4 [bF, e0, (.nil 3), bF, e0, (.nil 3), bF, e0, (.nil 3), bF, e0, (.nil 3)] [(0, 3, (t 5)), (3, 3, (t 8)), (6, 3, (t 11)), (9, 3, (t 14))]),
m 2 15])
.ret)), [.tmp 2]⟩
theorem ok_237 : compFn Tryz.prog [] 237 = some (CF.erase k_237) := by kernel_rfl

def k_238 : CF := ⟨22,
(.seq
(.ops false [] [
o 2 (.box (.c (.agg [bF, e0, (.nil 3)])))])
(.seq
(.ops false [] [
o 6 (.call (.fn 207) [(.c (.nil 3))]),
o 3 (.box (.c (.agg [bF, e0, (.nil 3)]))),
⟨none,none,.st 3 (t 3) (t 6)⟩])
(.seq
(.seq
(.ops false [] [
m 7 0,
o 8 (.len 0 (t 7)),
o 9 (.mov (.c i0))])
(.block 0
(.loop
(.trim [9, 3, 7, 2, 8]
(.seq
(.ops false [] [
o 10 (.bin .lss (t 9) (t 8))])
(.seq
(.cond (t 10)
.skip
(.exit 0))
(.seq
(.block 1
(.seq
(.ops false [] [
o 11 (.iad 1 (t 7) (t 9)),
o 12 (.ld none (t 11)),
m 5 12])
(.ops true [0, 1, 0, 4, 12, 31, 63, 127] [
o 13 (.fad 2 (t 3)),
o 14 (.ld none (t 13)),
m 15 5,
o 16 (.call (.fn 208) [(t 15)]),
o 17 (.bsl false 273 3 1 [bF, e0, (.nil 3)] [(0, 3, (t 16))]),
o 18 (.app false 273 3 48 (t 14) (t 17)),
o 19 (.fad 2 (t 3)),
⟨none,none,.st 1 (t 19) (t 18)⟩])))
(.ops false [] [
o 20 (.bin .add (t 9) (.c i1)),
m 9 20]))))))))
(.seq
(.ops false [] [
o 21 (.ld (some 3) (t 3)),
⟨none,none,.st 3 (t 2) (t 21)⟩])
.ret)))), [.cell 2 (some 3)]⟩
theorem ok_238 : compFn Tryz.prog [] 238 = some (CF.erase k_238) := by kernel_rfl

def k_52 : CF := ⟨20,
(.seq
(.ops false [] [
o 4 (.mov (.c i0))])
(.seq
(.ops false [] [
m 7 0,
o 8 (.call (.fn 84) [(t 7)]),
m 5 8])
(.seq
(.ops false [] [
m 9 1,
o 10 (.call (.fn 84) [(t 9)]),
m 6 10])
(.seq
(.seq
(.ops false [] [
m 11 5])
(.cond (t 11)
(.seq
(.seq
(.ops false [] [
m 12 6])
(.cond (t 12)
(.seq
(.ops false [] [
o 4 (.mov (.c i0))])
.ret)
.skip))
(.seq
(.ops false [] [
o 4 (.mov (.c (.d (.sc (.int .i64 (-1))))))])
.ret))
.skip))
(.seq
(.seq
(.ops false [] [
m 13 6])
(.cond (t 13)
(.seq
(.ops false [] [
o 4 (.mov (.c i1))])
.ret)
.skip))
(.seq
(.seq
(.ops false [] [
m 14 0,
m 15 1,
o 16 (.bin .lss (t 14) (t 15))])
(.cond (t 16)
(.seq
(.ops false [] [
o 4 (.mov (.c (.d (.sc (.int .i64 (-1))))))])
.ret)
.skip))
(.seq
(.seq
(.ops false [] [
m 17 0,
m 18 1,
o 19 (.bin .gtr (t 17) (t 18))])
(.cond (t 19)
(.seq
(.ops false [] [
o 4 (.mov (.c i1))])
.ret)
.skip))
(.seq
(.ops false [] [
o 4 (.mov (.c i0))])
.ret)))))))), [.tmp 4]⟩
theorem ok_52 : compFn Tryz.prog [] 52 = some (CF.erase k_52) := by kernel_rfl

def k_24 : CF := ⟨19,
(.seq
(.ops false [] [
o 2 (.box (t 0)),
o 3 (.box (t 1)),
o 4 (.mov (.c i0))])
(.seq
(.seq
(.ops true [0, 1, 0, 4, 15, 31] [
o 6 (.fad 0 (t 2)),
o 7 (.sla 32 1 (t 6) none none),
o 8 (.fad 0 (t 3)),
o 9 (.sla 32 1 (t 8) none none),
o 10 (.call (.fn 51) [(t 7), (t 9)]),
m 5 10])
(.seq
(.ops false [] [
m 11 5,
o 12 (.bin .neq (t 11) (.c i0))])
(.cond (t 12)
(.seq
(.ops false [] [
m 13 5,
m 4 13])
.ret)
.skip)))
(.seq
(.ops false [] [
o 14 (.fad 32 (t 2)),
o 15 (.ld none (t 14)),
o 16 (.fad 32 (t 3)),
o 17 (.ld none (t 16)),
o 18 (.call (.fn 52) [(t 15), (t 17)]),
m 4 18])
.ret))), [.tmp 4]⟩
theorem ok_24 : compFn Tryz.prog [] 24 = some (CF.erase k_24) := by kernel_rfl

def k_68 : CF := ⟨10,
(.seq
(.ops false [] [
o 2 (.box (t 0)),
o 3 (.box (t 1)),
o 4 (.mov (.c i0))])
(.seq
(.ops false [] [
o 5 (.fad 0 (t 2)),
o 6 (.ld (some 33) (t 5)),
o 7 (.fad 0 (t 3)),
o 8 (.ld (some 33) (t 7)),
o 9 (.call (.fn 24) [(t 6), (t 8)]),
m 4 9])
.ret)), [.tmp 4]⟩
theorem ok_68 : compFn Tryz.prog [] 68 = some (CF.erase k_68) := by kernel_rfl

def k_144 : CF := ⟨61,
(.seq
(.ops false [] [
o 2 (.mov (.c (.nil 32)))])
(.seq
(.seq
(.ops false [] [
m 6 0,
o 7 (.len 0 (t 6)),
o 8 (.bin .lss (t 7) (.c (.d (.sc (.int .i64 2)))))])
(.cond (t 8)
(.seq
(.ops false [] [
m 9 0,
m 2 9])
.ret)
.skip))
(.seq
(.seq
(.ops false [] [
o 3 (.mov (.c i1))])
(.block 0
(.loop
(.trim [0, 3]
(.seq
(.seq
(.ops false [] [
m 10 3,
m 11 0,
o 12 (.len 0 (t 11)),
o 13 (.bin .lss (t 10) (t 12))])
(.cond (t 13)
.skip
(.exit 0)))
(.seq
(.block 1
(.seq
(.ops true [0, 0, 3, 7, 0, 0, 32, 112, 240, 511] [
m 16 0,
m 17 3,
o 18 (.iad 32 (t 16) (t 17)),
o 19 (.ld (some 32) (t 18)),
m 20 0,
m 21 3,
o 22 (.bin .sub (t 21) (.c i1)),
o 23 (.iad 32 (t 20) (t 22)),
o 24 (.ld (some 32) (t 23)),
o 25 (.eqa true [.i, .i, .i, .i, .i, .i, .i, .i, .i, .i, .i, .i, .i, .i, .i, .i, .i, .i, .i, .i, .i, .i, .i, .i, .i, .i, .i, .i, .i, .i, .i, .i] false (t 19) (t 24))])
(.cond (t 25)
(.seq
(.ops false [] [
m 26 0,
m 27 3,
o 28 (.slc 32 (t 26) (some (t 27)) none),
m 4 28])
(.seq
(.seq
(.ops false [] [
o 5 (.mov (.c i1))])
(.block 2
(.loop
(.trim [5, 3, 4, 0]
(.seq
(.seq
(.ops false [] [
m 29 5,
m 30 4,
o 31 (.len 0 (t 30)),
o 32 (.bin .lss (t 29) (t 31))])
(.cond (t 32)
.skip
(.exit 2)))
(.seq
(.block 3
(.seq
(.ops true [0, 0, 3, 7, 0, 0, 32, 112, 240, 511] [
m 35 4,
m 36 5,
o 37 (.iad 32 (t 35) (t 36)),
o 38 (.ld (some 32) (t 37)),
m 39 4,
m 40 5,
o 41 (.bin .sub (t 40) (.c i1)),
o 42 (.iad 32 (t 39) (t 41)),
o 43 (.ld (some 32) (t 42)),
o 44 (.eqa true [.i, .i, .i, .i, .i, .i, .i, .i, .i, .i, .i, .i, .i, .i, .i, .i, .i, .i, .i, .i, .i, .i, .i, .i, .i, .i, .i, .i, .i, .i, .i, .i] true (t 38) (t 43))])
(.cond (t 44)
(.seq
(.ops false [] [
m 45 0,
m 46 3,
m 47 4,
m 48 5,
o 49 (.iad 32 (t 47) (t 48)),
o 50 (.ld (some 32) (t 49)),
o 51 (.iad 32 (t 45) (t 46)),
⟨none,none,.st 32 (t 51) (t 50)⟩])
(.ops false [] [
m 52 3,
o 53 (.bin .add (t 52) (.c i1)),
m 3 53]))
.skip)))
(.ops false [] [
m 33 5,
o 34 (.bin .add (t 33) (.c i1)),
m 5 34])))))))
(.seq
(.ops false [] [
m 54 0,
m 55 3,
o 56 (.slc 32 (t 54) (some (t 55)) none),
⟨none,none,.clr 32 [z, z, z, z, z, z, z, z, z, z, z, z, z, z, z, z, z, z, z, z, z, z, z, z, z, z, z, z, z, z, z, z] (t 56)⟩])
(.seq
(.ops false [] [
m 57 0,
m 58 3,
o 59 (.slc 32 (t 57) none (some (t 58))),
m 2 59])
.ret))))
.skip)))
(.ops false [] [
m 14 3,
o 15 (.bin .add (t 14) (.c i1)),
m 3 15])))))))
(.seq
(.ops false [] [
m 60 0,
m 2 60])
.ret)))), [.tmp 2]⟩
theorem ok_144 : compFn Tryz.prog [] 144 = some (CF.erase k_144) := by kernel_rfl

def k_186 : CF := ⟨11,
(.seq
(.ops false [] [
o 1 (.box (t 0)),
o 2 (.mov (.c bF))])
(.seq
(.ops false [] [
o 3 (.fad 33 (t 1)),
o 4 (.ld none (t 3)),
o 5 (.bin .eql (t 4) (.c i1)),
m 6 5,
⟨(some 7),(some ((some 6),true)),.fad 67 (t 1)⟩,
⟨(some 8),(some ((some 6),true)),.ld none (t 7)⟩,
⟨(some 9),(some ((some 6),true)),.bin .eql (t 8) (.c i1)⟩,
o 10 (.pick (t 6) (t 9) (.c bF)),
m 2 10])
.ret)), [.tmp 2]⟩
theorem ok_186 : compFn Tryz.prog [] 186 = some (CF.erase k_186) := by kernel_rfl

def k_231 : CF := ⟨7,
(.seq
(.ops false [] [
o 1 (.box (t 0)),
o 2 (.mov (.c (.nil 3)))])
(.seq
(.ops false [] [
o 3 (.fad 34 (t 1)),
o 4 (.ld none (t 3)),
o 5 (.call (.fn 210) [(t 4)]),
o 6 (.bsl false 273 3 1 [bF, e0, (.nil 3)] [(0, 3, (t 5))]),
m 2 6])
.ret)), [.tmp 2]⟩
theorem ok_231 : compFn Tryz.prog [] 231 = some (CF.erase k_231) := by kernel_rfl

def k_56 : CF := ⟨17,
(.seq
(.ops false [] [
o 1 (.box (t 0)),
o 2 (.box (.c (.agg [z, z, z, z, z, z, z, z, z, z, z, z, z, z, z, z, z, z, z, z, z, z, z, z, z, z, z, z, z, z, z, z]))),
o 3 (.mov (.c i0))])
(.seq
(.ops false [] [
o 7 (.ld (some 5) (t 1)),
o 8 (.call (.fn 85) [(t 7)]),
m 6 8,
o 9 (.ext (t 6) 0),
o 10 (.ext (t 6) 1),
m 4 9,
m 5 10])
(.seq
(.seq
(.ops false [] [
m 11 5,
o 12 (.bin .neq (t 11) (.c i0))])
(.cond (t 12)
(.seq
(.ops false [] [
o 13 (.bld [z, z, z, z, z, z, z, z, z, z, z, z, z, z, z, z, z, z, z, z, z, z, z, z, z, z, z, z, z, z, z, z] []),
m 14 5,
⟨none,none,.st 32 (t 2) (t 13)⟩,
m 3 14])
.ret)
.skip))
(.seq
(.ops false [] [
m 15 4,
o 16 (.call (.fn 86) [(t 15)]),
⟨none,none,.st 32 (t 2) (t 16)⟩,
o 3 (.mov (.c i0))])
.ret)))), [.cell 2 (some 32), .tmp 3]⟩
theorem ok_56 : compFn Tryz.prog [] 56 = some (CF.erase k_56) := by kernel_rfl

def k_85 : CF := ⟨15,
(.seq
(.ops false [] [
o 1 (.box (t 0)),
o 2 (.mov (.c e0)),
o 3 (.mov (.c i0))])
(.seq
(.ops false [] [
o 8 (.ld (some 5) (t 1)),
o 9 (.call (.fn 125) [(t 8)]),
m 7 9,
o 10 (.ext (t 7) 0),
o 11 (.ext (t 7) 1),
o 12 (.ext (t 7) 2),
m 4 10,
m 5 11,
m 6 12])
(.seq
(.ops false [] [
m 13 5,
m 14 6,
m 2 13,
m 3 14])
.ret))), [.tmp 2, .tmp 3]⟩
theorem ok_85 : compFn Tryz.prog [] 85 = some (CF.erase k_85) := by kernel_rfl

def k_86 : CF := ⟨38,
(.seq
(.ops false [] [
o 2 (.box (.c (.agg [z, z, z, z, z, z, z, z, z, z, z, z, z, z, z, z, z, z, z, z, z, z, z, z, z, z, z, z, z, z, z, z])))])
(.seq
(.ops false [] [
o 9 (.call (.fn 136) []),
o 3 (.box (.c (.agg [(.d (.sc (.int .u32 0))), (.d (.sc (.int .u32 0))), (.d (.sc (.int .u32 0))), (.d (.sc (.int .u32 0))), (.d (.sc (.int .u32 0))), (.d (.sc (.int .u32 0))), (.d (.sc (.int .u32 0))), (.d (.sc (.int .u32 0)))]))),
⟨none,none,.st 8 (t 3) (t 9)⟩])
(.seq
(.seq
(.ops false [] [
m 10 0,
o 11 (.call (.fn 137) [(t 10)])])
(.block 0
(.trim [11, 2, 3]
(.rng 38 (t 11) [12]
(.ops false [] [
m 4 12])
(.block 1
(.ops false [] [
o 13 (.ld (some 8) (t 3)),
m 14 4,
o 15 (.call (.fn 138) [(t 13), (t 14)]),
⟨none,none,.st 8 (t 3) (t 15)⟩]))))))
(.seq
(.ops false [] [
o 5 (.box (.c (.agg [z, z, z, z, z, z, z, z, z, z, z, z, z, z, z, z, z, z, z, z, z, z, z, z, z, z, z, z, z, z, z, z])))])
(.seq
(.seq
(.ops false [] [
o 16 (.ld (some 8) (t 3)),
o 17 (.mov (.c i0))])
(.block 2
(.loop
(.trim [17, 5, 16, 2]
(.seq
(.ops false [] [
o 18 (.bin .lss (t 17) (.c (.d (.sc (.int .i64 8)))))])
(.seq
(.cond (t 18)
.skip
(.exit 2))
(.seq
(.block 3
(.seq
(.ops false [] [
m 19 17,
o 20 (.idx 8 1 none (t 16) (t 17)),
m 6 19,
m 7 20])
(.seq
(.ops false [] [
o 21 (.mov (.c i0))])
(.block 4
(.loop
(.trim [21, 5, 7, 6, 17, 16, 2]
(.seq
(.ops false [] [
o 22 (.bin .lss (t 21) (.c (.d (.sc (.int .i64 4)))))])
(.seq
(.cond (t 22)
.skip
(.exit 4))
(.seq
(.block 5
(.seq
(.ops false [] [
m 23 21,
m 8 23])
(.ops false [] [
m 24 6,
o 25 (.bin .mul (.c (.d (.sc (.int .i64 4)))) (t 24)),
m 26 8,
o 27 (.bin .add (t 25) (t 26)),
m 28 7,
m 29 8,
o 30 (.bin .mul (.c (.d (.sc (.int .i64 8)))) (t 29)),
o 31 (.bin .sub (.c (.d (.sc (.int .i64 24)))) (t 30)),
o 32 (.bin .shr (t 28) (t 31)),
o 33 (.cnv .u8 (t 32)),
o 34 (.iap 32 1 (t 5) (t 27)),
⟨none,none,.st 1 (t 34) (t 33)⟩])))
(.ops false [] [
o 35 (.bin .add (t 21) (.c i1)),
m 21 35]))))))))))
(.ops false [] [
o 36 (.bin .add (t 17) (.c i1)),
m 17 36]))))))))
(.seq
(.ops false [] [
o 37 (.ld (some 32) (t 5)),
⟨none,none,.st 32 (t 2) (t 37)⟩])
.ret)))))), [.cell 2 (some 32)]⟩
theorem ok_86 : compFn Tryz.prog [] 86 = some (CF.erase k_86) := by kernel_rfl

def k_136 : CF := ⟨2,
(.seq
(.ops false [] [
o 0 (.box (.c (.agg [(.d (.sc (.int .u32 0))), (.d (.sc (.int .u32 0))), (.d (.sc (.int .u32 0))), (.d (.sc (.int .u32 0))), (.d (.sc (.int .u32 0))), (.d (.sc (.int .u32 0))), (.d (.sc (.int .u32 0))), (.d (.sc (.int .u32 0)))])))])
(.seq
(.ops false [] [
o 1 (.bld [(.d (.sc (.int .u32 0))), (.d (.sc (.int .u32 0))), (.d (.sc (.int .u32 0))), (.d (.sc (.int .u32 0))), (.d (.sc (.int .u32 0))), (.d (.sc (.int .u32 0))), (.d (.sc (.int .u32 0))), (.d (.sc (.int .u32 0)))] [(0, 1, (.c (.d (.sc (.int .u32 1779033703))))), (1, 1, (.c (.d (.sc (.int .u32 3144134277))))), (2, 1, (.c (.d (.sc (.int .u32 1013904242))))), (3, 1, (.c (.d (.sc (.int .u32 2773480762))))), (4, 1, (.c (.d (.sc (.int .u32 1359893119))))), (5, 1, (.c (.d (.sc (.int .u32 2600822924))))), (6, 1, (.c (.d (.sc (.int .u32 528734635))))), (7, 1, (.c (.d (.sc (.int .u32 1541459225)))))]),
⟨none,none,.st 8 (t 0) (t 1)⟩])
.ret)), [.cell 0 (some 8)]⟩
theorem ok_136 : compFn Tryz.prog [] 136 = some (CF.erase k_136) := by kernel_rfl

def k_137 : CF := ⟨4,
(.seq
(.ops false [] [
o 1 (.box (t 0)),
o 2 (.mov (.c (.d (.sc .nilFunc))))])
(.seq
(.ops false [] [
o 3 (.mkf 179 [] [(t 1)]),
m 2 3])
.ret)), [.tmp 2]⟩
theorem ok_137 : compFn Tryz.prog [] 137 = some (CF.erase k_137) := by kernel_rfl

def k_179 : CF := ⟨67,
(.seq
(.ops false [] [
o 8 (.ld none (t 1)),
o 9 (.len 1 (t 8)),
o 10 (.bin .quo (t 9) (.c (.d (.sc (.int .i64 64))))),
o 11 (.bin .mul (t 10) (.c (.d (.sc (.int .i64 64))))),
m 3 11])
(.seq
(.seq
(.ops false [] [
o 4 (.mov (.c i0))])
(.block 0
(.loop
(.trim [4, 1, 0, 3]
(.seq
(.seq
(.ops false [] [
m 12 4,
m 13 3,
o 14 (.bin .lss (t 12) (t 13))])
(.cond (t 14)
.skip
(.exit 0)))
(.seq
(.block 1
(.seq
(.ops false [] [
m 17 0,
o 18 (.ld none (t 1)),
m 19 4,
m 20 4,
o 21 (.bin .add (t 20) (.c (.d (.sc (.int .i64 64))))),
o 22 (.sls (t 18) (some (t 19)) (some (t 21))),
o 23 (.call (.val (t 17)) [(t 22)]),
o 24 (.not (t 23))])
(.cond (t 24)
.ret
.skip)))
(.ops false [] [
m 15 4,
o 16 (.bin .add (t 15) (.c (.d (.sc (.int .i64 64))))),
m 4 16])))))))
(.seq
(.ops false [] [
o 25 (.ld none (t 1)),
m 26 3,
o 27 (.sls (t 25) (some (t 26)) none),
o 28 (.s2o 5 (t 27)),
o 29 (.bsl false 5 1 1 [z] [(0, 1, (.c (.d (.sc (.int .u8 128)))))]),
o 30 (.app false 5 1 1 (t 28) (t 29)),
m 5 30])
(.seq
(.block 2
(.loop
(.trim [5, 1, 0]
(.seq
(.seq
(.ops false [] [
m 31 5,
o 32 (.len 0 (t 31)),
o 33 (.bin .rem (t 32) (.c (.d (.sc (.int .i64 64))))),
o 34 (.bin .neq (t 33) (.c (.d (.sc (.int .i64 56)))))])
(.cond (t 34)
.skip
(.exit 2)))
(.block 3
(.ops false [] [
m 35 5,
o 36 (.bsl false 5 1 1 [z] [(0, 1, (.c z))]),
o 37 (.app false 5 1 1 (t 35) (t 36)),
m 5 37]))))))
(.seq
(.seq
(.ops false [] [
o 6 (.mov (.c (.d (.sc (.int .i64 56)))))])
(.block 4
(.loop
(.trim [6, 1, 5, 0]
(.seq
(.seq
(.ops false [] [
m 38 6,
o 39 (.bin .geq (t 38) (.c i0))])
(.cond (t 39)
.skip
(.exit 4)))
(.seq
(.block 5
(.ops false [] [
m 42 5,
o 43 (.ld none (t 1)),
o 44 (.len 1 (t 43)),
o 45 (.cnv .u64 (t 44)),
o 46 (.bin .mul (t 45) (.c (.d (.sc (.int .u64 8))))),
m 47 6,
o 48 (.bin .shr (t 46) (t 47)),
o 49 (.cnv .u8 (t 48)),
o 50 (.bsl false 5 1 1 [z] [(0, 1, (t 49))]),
o 51 (.app false 5 1 1 (t 42) (t 50)),
m 5 51]))
(.ops false [] [
m 40 6,
o 41 (.bin .sub (t 40) (.c (.d (.sc (.int .i64 8))))),
m 6 41])))))))
(.seq
(.ops false [] [
o 7 (.mov (.c i0))])
(.block 6
(.loop
(.trim [7, 5, 0]
(.seq
(.seq
(.ops false [] [
m 52 7,
m 53 5,
o 54 (.len 0 (t 53)),
o 55 (.bin .lss (t 52) (t 54))])
(.cond (t 55)
.skip
(.exit 6)))
(.seq
(.block 7
(.seq
(.ops false [] [
m 58 0,
m 59 5,
m 60 7,
m 61 7,
o 62 (.bin .add (t 61) (.c (.d (.sc (.int .i64 64))))),
o 63 (.slc 1 (t 59) (some (t 60)) (some (t 62))),
o 64 (.b2s (t 63)),
o 65 (.call (.val (t 58)) [(t 64)]),
o 66 (.not (t 65))])
(.cond (t 66)
.ret
.skip)))
(.ops false [] [
m 56 7,
o 57 (.bin .add (t 56) (.c (.d (.sc (.int .i64 64))))),
m 7 57])))))))))))), []⟩
theorem ok_179 : compFn Tryz.prog [28] 179 = some (CF.erase k_179) := by kernel_rfl

def k_66 : CF := ⟨13,
(.seq
(.ops false [] [
o 1 (.box (t 0)),
o 2 (.mov (.c (.nil 172))),
o 3 (.mov (.c i0))])
(.seq
(.ops false [] [
o 7 (.ld (some 5) (t 1)),
o 8 (.call (.fn 101) [(t 7)]),
m 6 8,
o 9 (.ext (t 6) 0),
o 10 (.ext (t 6) 1),
m 4 9,
m 5 10])
(.seq
(.ops false [] [
m 11 4,
m 12 5,
m 2 11,
m 3 12])
.ret))), [.tmp 2, .tmp 3]⟩
theorem ok_66 : compFn Tryz.prog [] 66 = some (CF.erase k_66) := by kernel_rfl

def k_101 : CF := ⟨97,
(.seq
(.ops false [] [
o 1 (.box (t 0)),
o 2 (.mov (.c (.nil 172))),
o 3 (.mov (.c i0))])
(.seq
(.ops false [] [
o 15 (.ld (some 5) (t 1)),
o 16 (.call (.fn 125) [(t 15)]),
m 14 16,
o 17 (.ext (t 14) 0),
o 18 (.ext (t 14) 1),
o 19 (.ext (t 14) 2),
m 4 17,
m 5 18,
m 6 19])
(.seq
(.seq
(.ops false [] [
m 20 6,
o 21 (.bin .neq (t 20) (.c i0))])
(.cond (t 21)
(.seq
(.ops false [] [
m 22 6,
o 2 (.mov (.c (.nil 172))),
m 3 22])
.ret)
.skip))
(.seq
(.ops false [] [
o 24 (.ld (some 5) (t 1)),
o 25 (.call (.fn 56) [(t 24)]),
m 23 25,
o 26 (.ext (t 23) 0),
o 27 (.ext (t 23) 1),
o 7 (.box (.c (.agg [z, z, z, z, z, z, z, z, z, z, z, z, z, z, z, z, z, z, z, z, z, z, z, z, z, z, z, z, z, z, z, z]))),
⟨none,none,.st 32 (t 7) (t 26)⟩,
m 6 27])
(.seq
(.seq
(.ops false [] [
m 28 6,
o 29 (.bin .neq (t 28) (.c i0))])
(.cond (t 29)
(.seq
(.ops false [] [
m 30 6,
o 2 (.mov (.c (.nil 172))),
m 3 30])
.ret)
.skip))
(.seq
(.ops false [] [
o 31 (.mkf 156 [] [(t 7)]),
m 8 31])
(.seq
(.seq
(.ops false [] [
m 32 4,
o 33 (.len 0 (t 32)),
o 34 (.mov (.c i0))])
(.block 0
(.loop
(.trim [34, 4, 8, 32, 33]
(.seq
(.ops false [] [
o 35 (.bin .lss (t 34) (t 33))])
(.seq
(.cond (t 35)
.skip
(.exit 0))
(.seq
(.block 1
(.seq
(.ops false [] [
m 36 34,
o 37 (.iad 172 (t 32) (t 34)),
o 38 (.ld (some 172) (t 37)),
o 10 (.box (.c (.agg [z, z, z, z, z, z, z, z, z, z, z, z, z, z, z, z, z, z, z, z, z, z, z, z, z, z, z, z, z, z, z, z, i0, i0, z, z, z, z, z, z, z, z, z, z, z, z, z, z, z, z, z, z, z, z, z, z, z, z, z, z, z, z, z, z, z, z, i0, i0, z, z, z, z, z, z, z, z, z, z, z, z, z, z, z, z, z, z, z, z, z, z, z, z, z, z, z, z, z, z, z, z, i0, e0, i0, e0, e0, z, z, z, z, z, z, z, z, z, z, z, z, z, z, z, z, z, z, z, z, z, z, z, z, z, z, z, z, z, z, z, z, i0, z, z, z, z, z, z, z, z, z, z, z, z, z, z, z, z, z, z, z, z, z, z, z, z, z, z, z, z, z, z, z, z, i0, (.nil 33)]))),
m 9 36,
⟨none,none,.st 172 (t 10) (t 38)⟩])
(.seq
(.ops false [] [
m 39 8,
o 40 (.fad 0 (t 10)),
o 41 (.ld (some 33) (t 40)),
o 42 (.call (.val (t 39)) [(t 41)]),
o 43 (.fad 0 (t 10)),
⟨none,none,.st 33 (t 43) (t 42)⟩])
(.seq
(.seq
(.ops false [] [
o 44 (.fad 33 (t 10)),
o 45 (.ld none (t 44)),
o 46 (.bin .neq (t 45) (.c (.d (.sc (.int .i64 7)))))])
(.cond (t 46)
(.ops false [] [
m 47 8,
o 48 (.fad 34 (t 10)),
o 49 (.ld (some 33) (t 48)),
o 50 (.call (.val (t 47)) [(t 49)]),
o 51 (.fad 34 (t 10)),
⟨none,none,.st 33 (t 51) (t 50)⟩])
.skip))
(.seq
(.seq
(.ops false [] [
o 52 (.fad 33 (t 10)),
o 53 (.ld none (t 52)),
o 54 (.bin .eql (t 53) (.c (.d (.sc (.int .i64 2)))))])
(.cond (t 54)
(.ops false [] [
m 55 8,
o 56 (.fad 68 (t 10)),
o 57 (.ld (some 33) (t 56)),
o 58 (.call (.val (t 55)) [(t 57)]),
o 59 (.fad 68 (t 10)),
⟨none,none,.st 33 (t 59) (t 58)⟩])
.skip))
(.seq
(.seq
(.ops false [] [
o 60 (.fad 33 (t 10)),
o 61 (.ld none (t 60)),
o 62 (.bin .eql (t 61) (.c (.d (.sc (.int .i64 6)))))])
(.cond (t 62)
(.ops true [0, 0, 2, 7, 0, 0, 32, 127, 111, 511, 1023, 2047] [
m 63 8,
o 64 (.fad 105 (t 10)),
o 65 (.ld (some 33) (t 64)),
o 66 (.call (.val (t 63)) [(t 65)]),
m 67 8,
o 68 (.fad 138 (t 10)),
o 69 (.ld (some 33) (t 68)),
o 70 (.call (.val (t 67)) [(t 69)]),
o 71 (.fad 105 (t 10)),
⟨none,none,.st 33 (t 71) (t 66)⟩,
o 72 (.fad 138 (t 10)),
⟨none,none,.st 33 (t 72) (t 70)⟩])
.skip))
(.seq
(.ops false [] [
o 11 (.mov (.c (.nil 33)))])
(.seq
(.seq
(.ops false [] [
o 73 (.fad 171 (t 10)),
o 74 (.ld none (t 73)),
o 75 (.len 0 (t 74)),
o 76 (.mov (.c i0))])
(.block 2
(.loop
(.trim [76, 8, 11, 74, 9, 10, 34, 4, 32, 33, 75]
(.seq
(.ops false [] [
o 77 (.bin .lss (t 76) (t 75))])
(.seq
(.cond (t 77)
.skip
(.exit 2))
(.seq
(.block 3
(.seq
(.ops false [] [
o 78 (.iad 33 (t 74) (t 76)),
o 79 (.ld (some 33) (t 78)),
o 13 (.box (.c (.agg [z, z, z, z, z, z, z, z, z, z, z, z, z, z, z, z, z, z, z, z, z, z, z, z, z, z, z, z, z, z, z, z, i0]))),
⟨none,none,.st 33 (t 13) (t 79)⟩])
(.ops false [] [
m 80 11,
m 81 8,
o 82 (.ld (some 33) (t 13)),
o 83 (.call (.val (t 81)) [(t 82)]),
o 84 (.bsl true 42 33 1 [z, z, z, z, z, z, z, z, z, z, z, z, z, z, z, z, z, z, z, z, z, z, z, z, z, z, z, z, z, z, z, z, i0] [(0, 33, (t 83))]),
o 85 (.app true 42 33 40 (t 80) (t 84)),
m 11 85])))
(.ops false [] [
o 86 (.bin .add (t 76) (.c i1)),
m 76 86]))))))))
(.seq
(.ops false [] [
m 87 11,
o 88 (.call (.fn 42) [(t 87), (.c (.clo 24 [] []))])])
(.seq
(.ops false [] [
m 89 11,
o 90 (.fad 171 (t 10)),
⟨none,none,.st 1 (t 90) (t 89)⟩])
(.ops false [] [
m 91 4,
m 92 9,
o 93 (.ld (some 172) (t 10)),
o 94 (.iad 172 (t 91) (t 92)),
⟨none,none,.st 172 (t 94) (t 93)⟩])))))))))))
(.ops false [] [
o 95 (.bin .add (t 34) (.c i1)),
m 34 95]))))))))
(.seq
(.ops false [] [
m 96 4,
m 2 96,
o 3 (.mov (.c i0))])
.ret)))))))), [.tmp 2, .tmp 3]⟩
theorem ok_101 : compFn Tryz.prog [84, 85] 101 = some (CF.erase k_101) := by kernel_rfl

def k_153 : CF := ⟨19,
(.seq
(.ops false [] [
o 4 (.mov (.c i0))])
(.seq
(.seq
(.ops false [] [
m 6 0,
o 7 (.len 0 (t 6)),
o 8 (.mov (.c i0))])
(.block 0
(.loop
(.trim [8, 0, 1, 7]
(.seq
(.ops false [] [
o 9 (.bin .lss (t 8) (t 7))])
(.seq
(.cond (t 9)
.skip
(.exit 0))
(.seq
(.block 1
(.seq
(.ops false [] [
m 10 8,
m 5 10])
(.seq
(.ops false [] [
m 11 1,
m 12 0,
m 13 5,
o 14 (.iad 37 (t 12) (t 13)),
o 15 (.ld (some 37) (t 14)),
o 16 (.call (.val (t 11)) [(t 15)])])
(.cond (t 16)
(.seq
(.ops false [] [
m 17 5,
m 4 17])
.ret)
.skip))))
(.ops false [] [
o 18 (.bin .add (t 8) (.c i1)),
m 8 18]))))))))
(.seq
(.ops false [] [
o 4 (.mov (.c (.d (.sc (.int .i64 (-1))))))])
.ret))), [.tmp 4]⟩
theorem ok_153 : compFn Tryz.prog [] 153 = some (CF.erase k_153) := by kernel_rfl

def k_154 : CF := ⟨8,
(.seq
(.ops false [] [
o 2 (.box (t 0)),
o 3 (.mov (.c bF))])
(.seq
(.ops false [] [
o 4 (.fad 0 (t 2)),
o 5 (.ld (some 32) (t 4)),
o 6 (.ld (some 32) (t 1)),
o 7 (.eqa true [.i, .i, .i, .i, .i, .i, .i, .i, .i, .i, .i, .i, .i, .i, .i, .i, .i, .i, .i, .i, .i, .i, .i, .i, .i, .i, .i, .i, .i, .i, .i, .i] false (t 5) (t 6)),
m 3 7])
.ret)), [.tmp 3]⟩
theorem ok_154 : compFn Tryz.prog [] 154 = some (CF.erase k_154) := by kernel_rfl

def k_89 : CF := ⟨8,
(.seq
(.ops false [] [
o 2 (.box (t 0)),
o 3 (.box (t 1)),
o 4 (.mov (.c i0))])
(.seq
(.ops true [0, 0, 3, 7] [
o 5 (.sla 32 1 (t 2) none none),
o 6 (.sla 32 1 (t 3) none none),
o 7 (.call (.fn 51) [(t 5), (t 6)]),
m 4 7])
.ret)), [.tmp 4]⟩
theorem ok_89 : compFn Tryz.prog [] 89 = some (CF.erase k_89) := by kernel_rfl

def k_143 : CF := ⟨14,
(.seq
(.ops false [] [
m 5 0,
o 6 (.len 0 (t 5)),
m 4 6])
(.ops false [] [
m 7 0,
m 8 4,
m 9 4,
o 10 (.cnv .u64 (t 9)),
o 11 (.call (.fn 70) [(t 10)]),
m 12 1,
o 13 (.call (.fn 192) [(t 7), (.c i0), (t 8), (t 11), (t 12)])])), []⟩
theorem ok_143 : compFn Tryz.prog [] 143 = some (CF.erase k_143) := by kernel_rfl

def k_192 : CF := ⟨148,
(.seq
(.ops false [] [
o 10 (.mov (.c bT))])
(.seq
(.ops false [] [
o 11 (.mov (.c bT))])
(.block 0
(.loop
(.trim [4, 2, 1, 0, 11, 10, 3]
(.block 1
(.seq
(.ops false [] [
m 21 2,
m 22 1,
o 23 (.bin .sub (t 21) (t 22)),
m 12 23])
(.seq
(.seq
(.ops false [] [
m 24 12,
o 25 (.bin .leq (t 24) (.c (.d (.sc (.int .i64 12)))))])
(.cond (t 25)
(.seq
(.ops false [] [
m 26 0,
m 27 1,
m 28 2,
m 29 4,
o 30 (.call (.fn 214) [(t 26), (t 27), (t 28), (t 29)])])
.ret)
.skip))
(.seq
(.seq
(.ops false [] [
m 31 3,
o 32 (.bin .eql (t 31) (.c i0))])
(.cond (t 32)
(.seq
(.ops false [] [
m 33 0,
m 34 1,
m 35 2,
m 36 4,
o 37 (.call (.fn 215) [(t 33), (t 34), (t 35), (t 36)])])
.ret)
.skip))
(.seq
(.seq
(.ops false [] [
m 38 10,
o 39 (.not (t 38))])
(.cond (t 39)
(.seq
(.ops false [] [
m 40 0,
m 41 1,
m 42 2,
m 43 4,
o 44 (.call (.fn 216) [(t 40), (t 41), (t 42), (t 43)])])
(.ops false [] [
m 45 3,
o 46 (.bin .sub (t 45) (.c i1)),
m 3 46]))
.skip))
(.seq
(.ops false [] [
m 48 0,
m 49 1,
m 50 2,
m 51 4,
o 52 (.call (.fn 217) [(t 48), (t 49), (t 50), (t 51)]),
m 47 52,
o 53 (.ext (t 47) 0),
o 54 (.ext (t 47) 1),
m 13 53,
m 14 54])
(.seq
(.seq
(.ops false [] [
m 55 14,
o 56 (.bin .eql (t 55) (.c (.d (.sc (.int .i64 2)))))])
(.cond (t 56)
(.seq
(.ops false [] [
m 57 0,
m 58 1,
m 59 2,
m 60 4,
o 61 (.call (.fn 218) [(t 57), (t 58), (t 59), (t 60)])])
(.seq
(.ops false [] [
m 62 2,
o 63 (.bin .sub (t 62) (.c i1)),
m 64 13,
m 65 1,
o 66 (.bin .sub (t 64) (t 65)),
o 67 (.bin .sub (t 63) (t 66)),
m 13 67])
(.ops false [] [
o 14 (.mov (.c i1))])))
.skip))
(.seq
(.seq
(.ops false [] [
m 68 10,
m 69 68,
⟨(some 70),(some ((some 69),true)),.mov (t 11)⟩,
o 71 (.pick (t 69) (t 70) (.c bF)),
m 72 71,
⟨(some 73),(some ((some 72),true)),.mov (t 14)⟩,
⟨(some 74),(some ((some 72),true)),.bin .eql (t 73) (.c i1)⟩,
o 75 (.pick (t 72) (t 74) (.c bF))])
(.cond (t 75)
(.seq
(.ops false [] [
m 76 0,
m 77 1,
m 78 2,
m 79 4,
o 80 (.call (.fn 219) [(t 76), (t 77), (t 78), (t 79)])])
(.cond (t 80)
.ret
.skip))
.skip))
(.seq
(.seq
(.ops true [0, 1, 3, 7, 7, 7, 39, 119, 247, 7, 7, 1543, 3591, 8191, 16383, 32767, 65535] [
m 81 1,
o 82 (.bin .gtr (t 81) (.c i0)),
m 83 82,
⟨(some 84),(some ((some 83),true)),.mov (t 4)⟩,
⟨(some 85),(some ((some 83),true)),.mov (t 0)⟩,
⟨(some 86),(some ((some 83),true)),.mov (t 1)⟩,
⟨(some 87),(some ((some 83),true)),.bin .sub (t 86) (.c i1)⟩,
⟨(some 88),(some ((some 83),true)),.iad 32 (t 85) (t 87)⟩,
⟨(some 89),(some ((some 83),true)),.ld (some 32) (t 88)⟩,
⟨(some 90),(some ((some 83),true)),.mov (t 0)⟩,
⟨(some 91),(some ((some 83),true)),.mov (t 13)⟩,
⟨(some 92),(some ((some 83),true)),.iad 32 (t 90) (t 91)⟩,
⟨(some 93),(some ((some 83),true)),.ld (some 32) (t 92)⟩,
⟨(some 94),(some ((some 83),true)),.call (.val (t 84)) [(t 89), (t 93)]⟩,
⟨(some 95),(some ((some 83),true)),.bin .lss (t 94) (.c i0)⟩,
⟨(some 96),(some ((some 83),true)),.not (t 95)⟩,
o 97 (.pick (t 83) (t 96) (.c bF))])
(.cond (t 97)
(.seq
(.ops false [] [
m 98 0,
m 99 1,
m 100 2,
m 101 13,
m 102 4,
o 103 (.call (.fn 220) [(t 98), (t 99), (t 100), (t 101), (t 102)]),
m 15 103])
(.seq
(.ops false [] [
m 104 15,
m 1 104])
(.exit 1)))
.skip))
(.seq
(.ops false [] [
m 106 0,
m 107 1,
m 108 2,
m 109 13,
m 110 4,
o 111 (.call (.fn 221) [(t 106), (t 107), (t 108), (t 109), (t 110)]),
m 105 111,
o 112 (.ext (t 105) 0),
o 113 (.ext (t 105) 1),
m 16 112,
m 17 113])
(.seq
(.ops false [] [
m 114 17,
m 11 114])
(.seq
(.ops false [] [
m 115 16,
m 116 1,
o 117 (.bin .sub (t 115) (t 116)),
m 118 2,
m 119 16,
o 120 (.bin .sub (t 118) (t 119)),
m 18 117,
m 19 120])
(.seq
(.ops false [] [
m 121 12,
o 122 (.bin .quo (t 121) (.c (.d (.sc (.int .i64 8))))),
m 20 122])
(.seq
(.ops false [] [
m 123 18,
m 124 19,
o 125 (.bin .lss (t 123) (t 124))])
(.cond (t 125)
(.seq
(.ops false [] [
m 126 18,
m 127 20,
o 128 (.bin .geq (t 126) (t 127)),
m 10 128])
(.seq
(.ops false [] [
m 129 0,
m 130 1,
m 131 16,
m 132 3,
m 133 4,
o 134 (.call (.fn 192) [(t 129), (t 130), (t 131), (t 132), (t 133)])])
(.ops false [] [
m 135 16,
o 136 (.bin .add (t 135) (.c i1)),
m 1 136])))
(.seq
(.ops false [] [
m 137 19,
m 138 20,
o 139 (.bin .geq (t 137) (t 138)),
m 10 139])
(.seq
(.ops false [] [
m 140 0,
m 141 16,
o 142 (.bin .add (t 141) (.c i1)),
m 143 2,
m 144 3,
m 145 4,
o 146 (.call (.fn 192) [(t 140), (t 142), (t 143), (t 144), (t 145)])])
(.ops false [] [
m 147 16,
m 2 147]))))))))))))))))))))))), []⟩
theorem ok_192 : compFn Tryz.prog [] 192 = some (CF.erase k_192) := by kernel_rfl

def k_214 : CF := ⟨53,
(.seq
(.ops false [] [
m 10 1,
o 11 (.bin .add (t 10) (.c i1)),
m 8 11])
(.block 0
(.loop
(.trim [1, 3, 8, 0, 2]
(.seq
(.seq
(.ops false [] [
m 12 8,
m 13 2,
o 14 (.bin .lss (t 12) (t 13))])
(.cond (t 14)
.skip
(.exit 0)))
(.seq
(.block 1
(.seq
(.ops false [] [
m 17 8,
m 9 17])
(.block 2
(.loop
(.trim [9, 0, 8, 1, 3, 2]
(.seq
(.seq
(.ops true [0, 0, 3, 7, 15, 15, 15, 111, 239, 15, 15, 1039, 3599, 7695, 16383, 32767, 65535] [
m 18 9,
m 19 1,
o 20 (.bin .gtr (t 18) (t 19)),
m 21 20,
⟨(some 22),(some ((some 21),true)),.mov (t 3)⟩,
⟨(some 23),(some ((some 21),true)),.mov (t 0)⟩,
⟨(some 24),(some ((some 21),true)),.mov (t 9)⟩,
⟨(some 25),(some ((some 21),true)),.iad 32 (t 23) (t 24)⟩,
⟨(some 26),(some ((some 21),true)),.ld (some 32) (t 25)⟩,
⟨(some 27),(some ((some 21),true)),.mov (t 0)⟩,
⟨(some 28),(some ((some 21),true)),.mov (t 9)⟩,
⟨(some 29),(some ((some 21),true)),.bin .sub (t 28) (.c i1)⟩,
⟨(some 30),(some ((some 21),true)),.iad 32 (t 27) (t 29)⟩,
⟨(some 31),(some ((some 21),true)),.ld (some 32) (t 30)⟩,
⟨(some 32),(some ((some 21),true)),.call (.val (t 22)) [(t 26), (t 31)]⟩,
⟨(some 33),(some ((some 21),true)),.bin .lss (t 32) (.c i0)⟩,
o 34 (.pick (t 21) (t 33) (.c bF))])
(.cond (t 34)
.skip
(.exit 2)))
(.seq
(.block 3
(.ops true [0, 0, 0, 0, 8, 0, 0, 64, 224, 480, 0, 0, 3072, 7168, 16355, 32739, 65535, 131071] [
m 37 0,
m 38 9,
m 39 0,
m 40 9,
o 41 (.bin .sub (t 40) (.c i1)),
m 42 0,
m 43 9,
o 44 (.bin .sub (t 43) (.c i1)),
o 45 (.iad 32 (t 42) (t 44)),
o 46 (.ld (some 32) (t 45)),
m 47 0,
m 48 9,
o 49 (.iad 32 (t 47) (t 48)),
o 50 (.ld (some 32) (t 49)),
o 51 (.iad 32 (t 37) (t 38)),
⟨none,none,.st 32 (t 51) (t 46)⟩,
o 52 (.iad 32 (t 39) (t 41)),
⟨none,none,.st 32 (t 52) (t 50)⟩]))
(.ops false [] [
m 35 9,
o 36 (.bin .sub (t 35) (.c i1)),
m 9 36]))))))))
(.ops false [] [
m 15 8,
o 16 (.bin .add (t 15) (.c i1)),
m 8 16]))))))), []⟩
theorem ok_214 : compFn Tryz.prog [] 214 = some (CF.erase k_214) := by kernel_rfl

def k_234 : CF := ⟨22,
(.seq
(.ops false [] [
o 2 (.box (.c (.agg [bF, e0, (.nil 3)])))])
(.seq
(.ops false [] [
o 6 (.call (.fn 207) [(.c (.nil 3))]),
o 3 (.box (.c (.agg [bF, e0, (.nil 3)]))),
⟨none,none,.st 3 (t 3) (t 6)⟩])
(.seq
(.seq
(.ops false [] [
m 7 0,
o 8 (.len 0 (t 7)),
o 9 (.mov (.c i0))])
(.block 0
(.loop
(.trim [9, 3, 7, 2, 8]
(.seq
(.ops false [] [
o 10 (.bin .lss (t 9) (t 8))])
(.seq
(.cond (t 10)
.skip
(.exit 0))
(.seq
(.block 1
(.seq
(.ops false [] [
o 11 (.iad 33 (t 7) (t 9)),
o 12 (.ld (some 33) (t 11)),
o 5 (.box (.c (.agg [z, z, z, z, z, z, z, z, z, z, z, z, z, z, z, z, z, z, z, z, z, z, z, z, z, z, z, z, z, z, z, z, i0]))),
⟨none,none,.st 33 (t 5) (t 12)⟩])
(.ops true [0, 1, 0, 4, 12, 31, 63, 127] [
o 13 (.fad 2 (t 3)),
o 14 (.ld none (t 13)),
o 15 (.ld (some 33) (t 5)),
o 16 (.call (.fn 233) [(t 15)]),
o 17 (.bsl false 273 3 1 [bF, e0, (.nil 3)] [(0, 3, (t 16))]),
o 18 (.app false 273 3 48 (t 14) (t 17)),
o 19 (.fad 2 (t 3)),
⟨none,none,.st 1 (t 19) (t 18)⟩])))
(.ops false [] [
o 20 (.bin .add (t 9) (.c i1)),
m 9 20]))))))))
(.seq
(.ops false [] [
o 21 (.ld (some 3) (t 3)),
⟨none,none,.st 3 (t 2) (t 21)⟩])
.ret)))), [.cell 2 (some 3)]⟩
theorem ok_234 : compFn Tryz.prog [] 234 = some (CF.erase k_234) := by kernel_rfl

def k_240 : CF := ⟨7,
(.seq
(.ops false [] [
o 1 (.box (t 0)),
o 2 (.mov (.c (.nil 3)))])
(.seq
(.ops false [] [
o 3 (.fad 138 (t 1)),
o 4 (.ld none (t 3)),
o 5 (.call (.fn 234) [(t 4)]),
o 6 (.bsl false 273 3 1 [bF, e0, (.nil 3)] [(0, 3, (t 5))]),
m 2 6])
.ret)), [.tmp 2]⟩
theorem ok_240 : compFn Tryz.prog [] 240 = some (CF.erase k_240) := by kernel_rfl

def k_80 : CF := ⟨13,
(.seq
(.ops false [] [
o 1 (.box (t 0)),
o 2 (.mov (.c i0))])
(.seq
(.ops false [] [
o 7 (.ld (some 5) (t 1)),
o 8 (.call (.fn 125) [(t 7)]),
m 6 8,
o 9 (.ext (t 6) 0),
o 10 (.ext (t 6) 1),
o 11 (.ext (t 6) 2),
m 3 9,
m 4 10,
m 5 11])
(.seq
(.ops false [] [
m 12 5,
m 2 12])
.ret))), [.tmp 2]⟩
theorem ok_80 : compFn Tryz.prog [] 80 = some (CF.erase k_80) := by kernel_rfl

def k_91 : CF := ⟨44,
(.seq
(.ops false [] [
o 1 (.box (t 0)),
o 2 (.mov (.c (.nil 32)))])
(.seq
(.seq
(.ops false [] [
o 8 (.ld (some 5) (t 1)),
o 9 (.call (.fn 80) [(t 8)]),
o 10 (.bin .neq (t 9) (.c i0))])
(.cond (t 10)
(.seq
(.ops false [] [
o 2 (.mov (.c (.nil 32)))])
.ret)
.skip))
(.seq
(.ops false [] [
o 11 (.fad 3 (t 1)),
o 12 (.ld none (t 11)),
o 13 (.call (.fn 140) [(t 12)]),
m 3 13])
(.seq
(.seq
(.ops false [] [
o 14 (.fad 4 (t 1)),
o 15 (.ld none (t 14)),
o 16 (.len 0 (t 15)),
o 17 (.mov (.c i0))])
(.block 0
(.loop
(.trim [17, 3, 15, 16]
(.seq
(.ops false [] [
o 18 (.bin .lss (t 17) (t 16))])
(.seq
(.cond (t 18)
.skip
(.exit 0))
(.seq
(.block 1
(.seq
(.ops false [] [
o 19 (.iad 139 (t 15) (t 17)),
o 20 (.ld (some 139) (t 19)),
o 5 (.box (.c (.agg [i0, z, z, z, z, z, z, z, z, z, z, z, z, z, z, z, z, z, z, z, z, z, z, z, z, z, z, z, z, z, z, z, z, i0, i0, z, z, z, z, z, z, z, z, z, z, z, z, z, z, z, z, z, z, z, z, z, z, z, z, z, z, z, z, z, z, z, z, i0, e0, i0, e0, z, z, z, z, z, z, z, z, z, z, z, z, z, z, z, z, z, z, z, z, z, z, z, z, z, z, z, z, z, z, z, z, i0, z, z, z, z, z, z, z, z, z, z, z, z, z, z, z, z, z, z, z, z, z, z, z, z, z, z, z, z, z, z, z, z, i0, (.nil 1), (.nil 33)]))),
⟨none,none,.st 139 (t 5) (t 20)⟩])
(.seq
(.ops false [] [
o 21 (.ld (some 139) (t 5)),
o 22 (.call (.fn 141) [(t 21)]),
o 23 (.len 0 (t 22)),
o 24 (.mov (.c i0))])
(.block 2
(.loop
(.trim [24, 3, 22, 17, 15, 16, 23]
(.seq
(.ops false [] [
o 25 (.bin .lss (t 24) (t 23))])
(.seq
(.cond (t 25)
.skip
(.exit 2))
(.seq
(.block 3
(.seq
(.ops false [] [
o 26 (.iad 34 (t 22) (t 24)),
o 27 (.ld (some 34) (t 26)),
o 7 (.box (.c (.agg [z, z, z, z, z, z, z, z, z, z, z, z, z, z, z, z, z, z, z, z, z, z, z, z, z, z, z, z, z, z, z, z, i0, (.d (.sc .nilFunc))]))),
⟨none,none,.st 34 (t 7) (t 27)⟩])
(.seq
(.ops false [] [
o 28 (.fad 0 (t 7)),
o 29 (.ld (some 33) (t 28)),
o 30 (.call (.fn 142) [(t 29)]),
o 31 (.not (t 30))])
(.cond (t 31)
(.ops false [] [
m 32 3,
o 33 (.fad 0 (t 7)),
o 34 (.fad 0 (t 33)),
o 35 (.ld (some 32) (t 34)),
o 36 (.bsl false 40 32 1 [z, z, z, z, z, z, z, z, z, z, z, z, z, z, z, z, z, z, z, z, z, z, z, z, z, z, z, z, z, z, z, z] [(0, 32, (t 35))]),
o 37 (.app true 40 32 32 (t 32) (t 36)),
m 3 37])
.skip))))
(.ops false [] [
o 38 (.bin .add (t 24) (.c i1)),
m 24 38]))))))))))
(.ops false [] [
o 39 (.bin .add (t 17) (.c i1)),
m 17 39]))))))))
(.seq
(.ops false [] [
m 40 3,
o 41 (.call (.fn 143) [(t 40), (.c (.clo 89 [] []))])])
(.seq
(.ops false [] [
m 42 3,
o 43 (.call (.fn 144) [(t 42)]),
m 2 43])
.ret)))))), [.tmp 2]⟩
theorem ok_91 : compFn Tryz.prog [37] 91 = some (CF.erase k_91) := by kernel_rfl

def k_223 : CF := ⟨19,
(.seq
(.ops false [] [
o 3 (.box (t 0)),
o 4 (.mov (.c bF))])
(.seq
(.ops false [] [
o 5 (.ld none (t 1)),
o 6 (.fad 0 (t 3)),
o 7 (.ld (some 32) (t 6)),
o 8 (.lkp true [.i, .i, .i, .i, .i, .i, .i, .i, .i, .i, .i, .i, .i, .i, .i, .i, .i, .i, .i, .i, .i, .i, .i, .i, .i, .i, .i, .i, .i, .i, .i, .i] bF false (t 5) (t 7)),
o 9 (.not (t 8)),
m 10 9,
⟨(some 11),(some ((some 10),true)),.ld none (t 2)⟩,
⟨(some 12),(some ((some 10),true)),.fad 0 (t 3)⟩,
⟨(some 13),(some ((some 10),true)),.ld (some 32) (t 12)⟩,
⟨(some 14),(some ((some 10),true)),.lkp true [.i, .i, .i, .i, .i, .i, .i, .i, .i, .i, .i, .i, .i, .i, .i, .i, .i, .i, .i, .i, .i, .i, .i, .i, .i, .i, .i, .i, .i, .i, .i, .i] (.nil 32) false (t 11) (t 13)⟩,
⟨(some 15),(some ((some 10),true)),.mkf 224 [] [(t 1)]⟩,
⟨(some 16),(some ((some 10),true)),.call (.fn 90) [(t 14), (t 15)]⟩,
⟨(some 17),(some ((some 10),true)),.not (t 16)⟩,
o 18 (.pick (t 10) (t 17) (.c bF)),
m 4 18])
.ret)), [.tmp 4]⟩
theorem ok_223 : compFn Tryz.prog [] 223 = some (CF.erase k_223) := by kernel_rfl

def k_25 : CF := ⟨13,
(.seq
(.ops false [] [
o 3 (.mov (.c bF))])
(.seq
(.ops false [] [
m 4 0,
o 5 (.bin .lss (t 4) (.c (.d (.sc (.int .i64 (-1)))))),
m 6 5,
⟨(some 7),(some ((some 6),false)),.mov (t 0)⟩,
⟨(some 8),(some ((some 6),false)),.fad 0 (t 1)⟩,
⟨(some 9),(some ((some 6),false)),.ld none (t 8)⟩,
⟨(some 10),(some ((some 6),false)),.len 0 (t 9)⟩,
⟨(some 11),(some ((some 6),false)),.bin .geq (t 7) (t 10)⟩,
o 12 (.pick (t 6) (.c bT) (t 11)),
m 3 12])
.ret)), [.tmp 3]⟩
theorem ok_25 : compFn Tryz.prog [] 25 = some (CF.erase k_25) := by kernel_rfl

def k_97 : CF := ⟨18,
(.seq
(.ops false [] [
o 3 (.box (t 1)),
o 4 (.box (.c (.agg [e0, e0, i0, (.nil 32), (.nil 139)]))),
o 5 (.mov (.c bF))])
(.seq
(.ops false [] [
m 7 0,
o 8 (.mkf 154 [] [(t 3)]),
o 9 (.call (.fn 153) [(t 7), (t 8)]),
m 6 9])
(.seq
(.seq
(.ops false [] [
m 10 6,
o 11 (.bin .lss (t 10) (.c i0))])
(.cond (t 11)
(.seq
(.ops false [] [
o 12 (.bld [e0, e0, i0, (.nil 32), (.nil 139)] []),
⟨none,none,.st 5 (t 4) (t 12)⟩,
o 5 (.mov (.c bF))])
.ret)
.skip))
(.seq
(.ops false [] [
m 13 0,
m 14 6,
o 15 (.iad 37 (t 13) (t 14)),
o 16 (.fad 32 (t 15)),
o 17 (.ld (some 5) (t 16)),
⟨none,none,.st 5 (t 4) (t 17)⟩,
o 5 (.mov (.c bT))])
.ret)))), [.cell 4 (some 5), .tmp 5]⟩
theorem ok_97 : compFn Tryz.prog [] 97 = some (CF.erase k_97) := by kernel_rfl

def k_90 : CF := ⟨9,
(.seq
(.ops false [] [
o 4 (.mov (.c bF))])
(.seq
(.ops false [] [
m 5 0,
m 6 1,
o 7 (.call (.fn 139) [(t 5), (t 6)]),
o 8 (.bin .geq (t 7) (.c i0)),
m 4 8])
.ret)), [.tmp 4]⟩
theorem ok_90 : compFn Tryz.prog [] 90 = some (CF.erase k_90) := by kernel_rfl

def k_139 : CF := ⟨19,
(.seq
(.ops false [] [
o 4 (.mov (.c i0))])
(.seq
(.seq
(.ops false [] [
m 6 0,
o 7 (.len 0 (t 6)),
o 8 (.mov (.c i0))])
(.block 0
(.loop
(.trim [8, 0, 1, 7]
(.seq
(.ops false [] [
o 9 (.bin .lss (t 8) (t 7))])
(.seq
(.cond (t 9)
.skip
(.exit 0))
(.seq
(.block 1
(.seq
(.ops false [] [
m 10 8,
m 5 10])
(.seq
(.ops false [] [
m 11 1,
m 12 0,
m 13 5,
o 14 (.iad 32 (t 12) (t 13)),
o 15 (.ld (some 32) (t 14)),
o 16 (.call (.val (t 11)) [(t 15)])])
(.cond (t 16)
(.seq
(.ops false [] [
m 17 5,
m 4 17])
.ret)
.skip))))
(.ops false [] [
o 18 (.bin .add (t 8) (.c i1)),
m 8 18]))))))))
(.seq
(.ops false [] [
o 4 (.mov (.c (.d (.sc (.int .i64 (-1))))))])
.ret))), [.tmp 4]⟩
theorem ok_139 : compFn Tryz.prog [] 139 = some (CF.erase k_139) := by kernel_rfl

def k_26 : CF := ⟨17,
(.seq
(.ops false [] [
o 2 (.box (t 0)),
o 3 (.box (t 1)),
o 4 (.mov (.c i0))])
(.seq
(.ops true [0, 1, 0, 4, 15, 0, 32, 0, 128, 511, 1023, 2047, 4095] [
o 5 (.fad 0 (t 2)),
o 6 (.ld none (t 5)),
o 7 (.fad 0 (t 3)),
o 8 (.ld none (t 7)),
o 9 (.call (.fn 52) [(t 6), (t 8)]),
o 10 (.fad 1 (t 2)),
o 11 (.ld none (t 10)),
o 12 (.fad 1 (t 3)),
o 13 (.ld none (t 12)),
o 14 (.call (.fn 52) [(t 11), (t 13)]),
o 15 (.bsl false 3 1 2 [i0, i0] [(0, 1, (t 9)), (1, 1, (t 14))]),
o 16 (.call (.fn 53) [(t 15)]),
m 4 16])
.ret)), [.tmp 4]⟩
theorem ok_26 : compFn Tryz.prog [] 26 = some (CF.erase k_26) := by kernel_rfl

def k_53 : CF := ⟨18,
(.seq
(.ops false [] [
o 2 (.mov (.c i0))])
(.seq
(.ops false [] [
o 3 (.mov (.c i0))])
(.seq
(.seq
(.ops false [] [
m 6 0,
o 7 (.len 0 (t 6)),
o 8 (.mov (.c i0))])
(.block 0
(.loop
(.trim [8, 3, 6, 7]
(.seq
(.ops false [] [
o 9 (.bin .lss (t 8) (t 7))])
(.seq
(.cond (t 9)
.skip
(.exit 0))
(.seq
(.block 1
(.seq
(.ops false [] [
o 10 (.iad 1 (t 6) (t 8)),
o 11 (.ld none (t 10)),
m 5 11])
(.seq
(.ops false [] [
m 12 5,
m 13 3,
o 14 (.bin .neq (t 12) (t 13))])
(.cond (t 14)
(.seq
(.ops false [] [
m 15 5,
m 2 15])
.ret)
.skip))))
(.ops false [] [
o 16 (.bin .add (t 8) (.c i1)),
m 8 16]))))))))
(.seq
(.ops false [] [
m 17 3,
m 2 17])
.ret)))), [.tmp 2]⟩
theorem ok_53 : compFn Tryz.prog [] 53 = some (CF.erase k_53) := by kernel_rfl

def k_197 : CF := ⟨4,
(.seq
(.ops false [] [
o 1 (.box (t 0)),
o 2 (.mov (.c (.d (.sc .nilFunc))))])
(.seq
(.ops false [] [
o 3 (.mkf 225 [] [(t 1)]),
m 2 3])
.ret)), [.tmp 2]⟩
theorem ok_197 : compFn Tryz.prog [] 197 = some (CF.erase k_197) := by kernel_rfl

def k_225 : CF := ⟨19,
(.seq
(.ops false [] [
o 4 (.ld none (t 1)),
o 5 (.len 0 (t 4)),
o 6 (.bin .sub (t 5) (.c i1)),
m 3 6])
(.block 0
(.loop
(.trim [3, 1, 0]
(.seq
(.seq
(.ops false [] [
m 7 3,
o 8 (.bin .geq (t 7) (.c i0))])
(.cond (t 8)
.skip
(.exit 0)))
(.seq
(.block 1
(.seq
(.ops false [] [
m 11 0,
m 12 3,
o 13 (.ld none (t 1)),
m 14 3,
o 15 (.iad 172 (t 13) (t 14)),
o 16 (.ld (some 172) (t 15)),
o 17 (.call (.val (t 11)) [(t 12), (t 16)]),
o 18 (.not (t 17))])
(.cond (t 18)
.ret
.skip)))
(.ops false [] [
m 9 3,
o 10 (.bin .sub (t 9) (.c i1)),
m 3 10]))))))), []⟩
theorem ok_225 : compFn Tryz.prog [] 225 = some (CF.erase k_225) := by kernel_rfl

def k_88 : CF := ⟨9,
(.seq
(.ops false [] [
o 2 (.box (t 0)),
o 3 (.box (t 1)),
o 4 (.mov (.c i0))])
(.seq
(.ops false [] [
o 5 (.fad 0 (t 2)),
o 6 (.ld (some 32) (t 5)),
o 7 (.ld (some 32) (t 3)),
o 8 (.call (.fn 89) [(t 6), (t 7)]),
m 4 8])
.ret)), [.tmp 4]⟩
theorem ok_88 : compFn Tryz.prog [] 88 = some (CF.erase k_88) := by kernel_rfl

def k_202 : CF := ⟨35,
(.seq
(.ops false [] [
o 5 (.mov (.c bF))])
(.seq
(.seq
(.ops false [] [
m 10 0,
o 11 (.len 0 (t 10)),
o 12 (.mov (.c i0))])
(.block 0
(.loop
(.trim [2, 3, 12, 1, 10, 11]
(.seq
(.ops false [] [
o 13 (.bin .lss (t 12) (t 11))])
(.seq
(.cond (t 13)
.skip
(.exit 0))
(.seq
(.block 1
(.seq
(.ops false [] [
o 14 (.iad 32 (t 10) (t 12)),
o 15 (.ld (some 32) (t 14)),
o 7 (.box (.c (.agg [z, z, z, z, z, z, z, z, z, z, z, z, z, z, z, z, z, z, z, z, z, z, z, z, z, z, z, z, z, z, z, z]))),
⟨none,none,.st 32 (t 7) (t 15)⟩])
(.seq
(.seq
(.ops false [] [
o 17 (.ld none (t 1)),
o 18 (.ld (some 32) (t 7)),
o 19 (.lkp true [.i, .i, .i, .i, .i, .i, .i, .i, .i, .i, .i, .i, .i, .i, .i, .i, .i, .i, .i, .i, .i, .i, .i, .i, .i, .i, .i, .i, .i, .i, .i, .i] (.nil 32) true (t 17) (t 18)),
m 16 19,
o 20 (.ext (t 16) 0),
o 21 (.ext (t 16) 1),
m 8 20,
m 9 21])
(.seq
(.ops false [] [
m 22 9,
o 23 (.not (t 22))])
(.cond (t 23)
(.seq
(.ops false [] [
o 5 (.mov (.c bF))])
.ret)
.skip)))
(.seq
(.ops false [] [
o 24 (.ld none (t 2)),
o 25 (.ld (some 32) (t 7)),
o 26 (.lkp true [.i, .i, .i, .i, .i, .i, .i, .i, .i, .i, .i, .i, .i, .i, .i, .i, .i, .i, .i, .i, .i, .i, .i, .i, .i, .i, .i, .i, .i, .i, .i, .i] bF false (t 24) (t 25)),
o 27 (.not (t 26))])
(.cond (t 27)
(.seq
(.ops false [] [
o 28 (.ld none (t 2)),
o 29 (.ld (some 32) (t 7)),
⟨none,none,.mup true [.i, .i, .i, .i, .i, .i, .i, .i, .i, .i, .i, .i, .i, .i, .i, .i, .i, .i, .i, .i, .i, .i, .i, .i, .i, .i, .i, .i, .i, .i, .i, .i] (t 28) (t 29) (.c bT)⟩])
(.ops false [] [
o 30 (.ld none (t 3)),
o 31 (.ld (some 32) (t 7)),
o 32 (.bsl true 40 32 1 [z, z, z, z, z, z, z, z, z, z, z, z, z, z, z, z, z, z, z, z, z, z, z, z, z, z, z, z, z, z, z, z] [(0, 32, (t 31))]),
o 33 (.app true 40 32 32 (t 30) (t 32)),
⟨none,none,.st 1 (t 3) (t 33)⟩]))
.skip)))))
(.ops false [] [
o 34 (.bin .add (t 12) (.c i1)),
m 12 34]))))))))
(.seq
(.ops false [] [
o 5 (.mov (.c bT))])
.ret))), [.tmp 5]⟩
theorem ok_202 : compFn Tryz.prog [32, 33] 202 = some (CF.erase k_202) := by kernel_rfl

def k_224 : CF := ⟨8,
(.seq
(.ops false [] [
o 2 (.box (t 0)),
o 3 (.mov (.c bF))])
(.seq
(.ops false [] [
o 4 (.ld none (t 1)),
o 5 (.ld (some 32) (t 2)),
o 6 (.lkp true [.i, .i, .i, .i, .i, .i, .i, .i, .i, .i, .i, .i, .i, .i, .i, .i, .i, .i, .i, .i, .i, .i, .i, .i, .i, .i, .i, .i, .i, .i, .i, .i] bF false (t 4) (t 5)),
o 7 (.not (t 6)),
m 3 7])
.ret)), [.tmp 3]⟩
theorem ok_224 : compFn Tryz.prog [] 224 = some (CF.erase k_224) := by kernel_rfl

def k_145 : CF := ⟨15,
(.seq
(.ops false [] [
o 3 (.box (t 0))])
(.seq
(.ops false [] [
o 5 (.fad 0 (t 3)),
o 6 (.ld (some 32) (t 5)),
o 7 (.bld [z, z, z, z, z, z, z, z, z, z, z, z, z, z, z, z, z, z, z, z, z, z, z, z, z, z, z, z, z, z, z, z] []),
o 8 (.eqa true [.i, .i, .i, .i, .i, .i, .i, .i, .i, .i, .i, .i, .i, .i, .i, .i, .i, .i, .i, .i, .i, .i, .i, .i, .i, .i, .i, .i, .i, .i, .i, .i] true (t 6) (t 7))])
(.cond (t 8)
(.ops false [] [
o 9 (.ld none (t 2)),
o 10 (.ld (some 33) (t 3)),
m 11 1,
o 12 (.bld [z, z, z, z, z, z, z, z, z, z, z, z, z, z, z, z, z, z, z, z, z, z, z, z, z, z, z, z, z, z, z, z, i0, (.d (.sc .nilFunc))] [(0, 33, (t 10)), (33, 1, (t 11))]),
o 13 (.bsl false 166 34 1 [z, z, z, z, z, z, z, z, z, z, z, z, z, z, z, z, z, z, z, z, z, z, z, z, z, z, z, z, z, z, z, z, i0, (.d (.sc .nilFunc))] [(0, 34, (t 12))]),
o 14 (.app false 166 34 48 (t 9) (t 13)),
⟨none,none,.st 1 (t 2) (t 14)⟩])
.skip))), []⟩
theorem ok_145 : compFn Tryz.prog [] 145 = some (CF.erase k_145) := by kernel_rfl

def k_167 : CF := ⟨21,
(.seq
(.ops false [] [
o 2 (.mov (.c (.d (.sc (.map none)))))])
(.seq
(.ops false [] [
o 6 (.mkm true),
m 3 6])
(.seq
(.seq
(.ops false [] [
m 7 0,
o 8 (.len 0 (t 7)),
o 9 (.mov (.c i0))])
(.block 0
(.loop
(.trim [9, 3, 7, 8]
(.seq
(.ops false [] [
o 10 (.bin .lss (t 9) (t 8))])
(.seq
(.cond (t 10)
.skip
(.exit 0))
(.seq
(.block 1
(.seq
(.ops false [] [
o 11 (.iad 37 (t 7) (t 9)),
o 12 (.ld (some 37) (t 11)),
o 5 (.box (.c (.agg [z, z, z, z, z, z, z, z, z, z, z, z, z, z, z, z, z, z, z, z, z, z, z, z, z, z, z, z, z, z, z, z, e0, e0, i0, (.nil 32), (.nil 139)]))),
⟨none,none,.st 37 (t 5) (t 12)⟩])
(.ops true [0, 0, 2, 0, 8, 24, 63] [
m 13 3,
o 14 (.fad 0 (t 5)),
o 15 (.ld (some 32) (t 14)),
o 16 (.fad 32 (t 5)),
o 17 (.ld (some 5) (t 16)),
o 18 (.call (.fn 91) [(t 17)]),
⟨none,none,.mup true [.i, .i, .i, .i, .i, .i, .i, .i, .i, .i, .i, .i, .i, .i, .i, .i, .i, .i, .i, .i, .i, .i, .i, .i, .i, .i, .i, .i, .i, .i, .i, .i] (t 13) (t 15) (t 18)⟩])))
(.ops false [] [
o 19 (.bin .add (t 9) (.c i1)),
m 9 19]))))))))
(.seq
(.ops false [] [
m 20 3,
m 2 20])
.ret)))), [.tmp 2]⟩
theorem ok_167 : compFn Tryz.prog [] 167 = some (CF.erase k_167) := by kernel_rfl

def k_22 : CF := ⟨8,
(.seq
(.ops false [] [
o 2 (.box (t 0)),
o 3 (.mov (.c bF))])
(.seq
(.ops false [] [
o 4 (.fad 33 (t 2)),
o 5 (.ld none (t 4)),
o 6 (.ld none (t 1)),
o 7 (.bin .eql (t 5) (t 6)),
m 3 7])
.ret)), [.tmp 3]⟩
theorem ok_22 : compFn Tryz.prog [] 22 = some (CF.erase k_22) := by kernel_rfl

def k_43 : CF := ⟨17,
(.seq
(.ops false [] [
o 2 (.box (t 0)),
o 3 (.box (t 1)),
o 4 (.box (.c (.agg [z, z, z, z, z, z, z, z, z, z, z, z, z, z, z, z, z, z, z, z, z, z, z, z, z, z, z, z, z, z, z, z, i0])))])
(.seq
(.seq
(.ops false [] [
o 5 (.fad 0 (t 3)),
o 6 (.ld (some 32) (t 5)),
o 7 (.bld [z, z, z, z, z, z, z, z, z, z, z, z, z, z, z, z, z, z, z, z, z, z, z, z, z, z, z, z, z, z, z, z] []),
o 8 (.eqa true [.i, .i, .i, .i, .i, .i, .i, .i, .i, .i, .i, .i, .i, .i, .i, .i, .i, .i, .i, .i, .i, .i, .i, .i, .i, .i, .i, .i, .i, .i, .i, .i] false (t 6) (t 7)),
m 9 8,
⟨(some 10),(some ((some 9),true)),.fad 32 (t 3)⟩,
⟨(some 11),(some ((some 9),true)),.ld none (t 10)⟩,
⟨(some 12),(some ((some 9),true)),.bin .geq (t 11) (.c i0)⟩,
o 13 (.pick (t 9) (t 12) (.c bF))])
(.cond (t 13)
(.ops false [] [
o 14 (.ld (some 32) (t 2)),
o 15 (.fad 0 (t 3)),
⟨none,none,.st 32 (t 15) (t 14)⟩])
.skip))
(.seq
(.ops false [] [
o 16 (.ld (some 33) (t 3)),
⟨none,none,.st 33 (t 4) (t 16)⟩])
.ret))), [.cell 4 (some 33)]⟩
theorem ok_43 : compFn Tryz.prog [] 43 = some (CF.erase k_43) := by kernel_rfl

def k_76 : CF := ⟨53,
(.seq
(.ops false [] [
o 4 (.box (t 1)),
o 5 (.box (t 2)),
o 6 (.mov (.c bF))])
(.seq
(.ops true [0, 1, 3, 7, 0, 31, 63, 127, 127, 255, 1023] [
m 14 0,
o 15 (.nck (t 14)),
o 16 (.fad 35 (t 15)),
o 17 (.ld none (t 16)),
o 18 (.ld (some 32) (t 4)),
o 19 (.lkp true [.i, .i, .i, .i, .i, .i, .i, .i, .i, .i, .i, .i, .i, .i, .i, .i, .i, .i, .i, .i, .i, .i, .i, .i, .i, .i, .i, .i, .i, .i, .i, .i] (.d (.sc (.map none))) true (t 17) (t 18)),
m 13 19,
o 20 (.ext (t 13) 0),
o 21 (.ext (t 13) 1),
m 7 20,
m 8 21])
(.seq
(.seq
(.ops false [] [
m 22 8,
o 23 (.not (t 22))])
(.cond (t 23)
(.seq
(.ops false [] [
o 24 (.mkm true),
m 7 24])
(.seq
(.ops true [0, 1, 3, 7, 0, 16, 63, 127, 255, 255, 511, 2047] [
m 26 0,
o 27 (.nck (t 26)),
o 28 (.fad 0 (t 27)),
o 29 (.ld none (t 28)),
o 30 (.ld (some 32) (t 4)),
o 31 (.bsl false 40 32 1 [z, z, z, z, z, z, z, z, z, z, z, z, z, z, z, z, z, z, z, z, z, z, z, z, z, z, z, z, z, z, z, z] [(0, 32, (t 30))]),
o 32 (.call (.fn 115) [(t 29), (t 31)]),
m 25 32,
o 33 (.ext (t 25) 0),
o 34 (.ext (t 25) 1),
m 9 33,
m 10 34])
(.seq
(.seq
(.ops false [] [
m 35 9,
o 36 (.len 0 (t 35)),
o 37 (.mov (.c i0))])
(.block 0
(.loop
(.trim [37, 7, 35, 0, 4, 5, 36]
(.seq
(.ops false [] [
o 38 (.bin .lss (t 37) (t 36))])
(.seq
(.cond (t 38)
.skip
(.exit 0))
(.seq
(.block 1
(.seq
(.ops false [] [
o 39 (.iad 32 (t 35) (t 37)),
o 40 (.ld (some 32) (t 39)),
o 12 (.box (.c (.agg [z, z, z, z, z, z, z, z, z, z, z, z, z, z, z, z, z, z, z, z, z, z, z, z, z, z, z, z, z, z, z, z]))),
⟨none,none,.st 32 (t 12) (t 40)⟩])
(.ops false [] [
m 41 7,
o 42 (.ld (some 32) (t 12)),
⟨none,none,.mup true [.i, .i, .i, .i, .i, .i, .i, .i, .i, .i, .i, .i, .i, .i, .i, .i, .i, .i, .i, .i, .i, .i, .i, .i, .i, .i, .i, .i, .i, .i, .i, .i] (t 41) (t 42) (.c bT)⟩])))
(.ops false [] [
o 43 (.bin .add (t 37) (.c i1)),
m 37 43]))))))))
(.ops true [0, 1, 3, 7, 0, 0, 63] [
m 44 0,
o 45 (.nck (t 44)),
o 46 (.fad 35 (t 45)),
o 47 (.ld none (t 46)),
o 48 (.ld (some 32) (t 4)),
m 49 7,
⟨none,none,.mup true [.i, .i, .i, .i, .i, .i, .i, .i, .i, .i, .i, .i, .i, .i, .i, .i, .i, .i, .i, .i, .i, .i, .i, .i, .i, .i, .i, .i, .i, .i, .i, .i] (t 47) (t 48) (t 49)⟩]))))
.skip))
(.seq
(.ops false [] [
m 50 7,
o 51 (.ld (some 32) (t 5)),
o 52 (.lkp true [.i, .i, .i, .i, .i, .i, .i, .i, .i, .i, .i, .i, .i, .i, .i, .i, .i, .i, .i, .i, .i, .i, .i, .i, .i, .i, .i, .i, .i, .i, .i, .i] bF false (t 50) (t 51)),
m 6 52])
.ret)))), [.tmp 6]⟩
theorem ok_76 : compFn Tryz.prog [] 76 = some (CF.erase k_76) := by kernel_rfl

def k_99 : CF := ⟨8,
(.seq
(.ops false [] [
o 2 (.box (t 0)),
o 3 (.mov (.c bF))])
(.seq
(.ops false [] [
o 4 (.fad 0 (t 2)),
o 5 (.ld (some 33) (t 4)),
o 6 (.ld (some 33) (t 1)),
o 7 (.eqa true [.i, .i, .i, .i, .i, .i, .i, .i, .i, .i, .i, .i, .i, .i, .i, .i, .i, .i, .i, .i, .i, .i, .i, .i, .i, .i, .i, .i, .i, .i, .i, .i, .i] false (t 5) (t 6)),
m 3 7])
.ret)), [.tmp 3]⟩
theorem ok_99 : compFn Tryz.prog [] 99 = some (CF.erase k_99) := by kernel_rfl

def k_36 : CF := ⟨27,
(.seq
(.ops false [] [
o 2 (.mov (.c (.nil 172)))])
(.seq
(.ops false [] [
o 3 (.mov (.c (.nil 172)))])
(.seq
(.seq
(.ops false [] [
m 8 0,
o 9 (.len 0 (t 8)),
o 10 (.mov (.c i0))])
(.block 0
(.loop
(.trim [10, 3, 8, 9]
(.seq
(.ops false [] [
o 11 (.bin .lss (t 10) (t 9))])
(.seq
(.cond (t 11)
.skip
(.exit 0))
(.seq
(.block 1
(.seq
(.ops false [] [
o 12 (.iad 37 (t 8) (t 10)),
o 13 (.ld (some 37) (t 12)),
o 5 (.box (.c (.agg [z, z, z, z, z, z, z, z, z, z, z, z, z, z, z, z, z, z, z, z, z, z, z, z, z, z, z, z, z, z, z, z, e0, e0, i0, (.nil 32), (.nil 139)]))),
⟨none,none,.st 37 (t 5) (t 13)⟩])
(.seq
(.ops false [] [
o 15 (.fad 32 (t 5)),
o 16 (.ld (some 5) (t 15)),
o 17 (.call (.fn 66) [(t 16)]),
m 14 17,
o 18 (.ext (t 14) 0),
o 19 (.ext (t 14) 1),
m 6 18,
m 7 19])
(.ops false [] [
m 20 3,
m 21 6,
o 22 (.app false 86 172 296 (t 20) (t 21)),
m 3 22]))))
(.ops false [] [
o 23 (.bin .add (t 10) (.c i1)),
m 10 23]))))))))
(.seq
(.ops false [] [
m 24 3,
o 25 (.call (.fn 67) [(t 24), (.c (.clo 68 [] []))])])
(.seq
(.ops false [] [
m 26 3,
m 2 26])
.ret))))), [.tmp 2]⟩
theorem ok_36 : compFn Tryz.prog [] 36 = some (CF.erase k_36) := by kernel_rfl
def tab1 : List (Nat × CF × Nat) := [(182, k_182, 0), (213, k_213, 0), (251, k_251, 0), (243, k_243, 0), (252, k_252, 0), (250, k_250, 0), (257, k_257, 0), (259, k_259, 0), (261, k_261, 0), (142, k_142, 0), (228, k_228, 0), (229, k_229, 0), (248, k_248, 0), (207, k_207, 2), (208, k_208, 0), (127, k_127, 0), (210, k_210, 0), (241, k_241, 0), (156, k_156, 0), (183, k_183, 0), (233, k_233, 0), (141, k_141, 0), (70, k_70, 0), (112, k_112, 0), (81, k_81, 0), (126, k_126, 0), (173, k_173, 0), (174, k_174, 0), (205, k_205, 0), (42, k_42, 0), (79, k_79, 0), (117, k_117, 0), (84, k_84, 0), (206, k_206, 0), (125, k_125, 1), (172, k_172, 0), (175, k_175, 0), (204, k_204, 0), (209, k_209, 0), (211, k_211, 0), (242, k_242, 0), (138, k_138, 0), (180, k_180, 0), (181, k_181, 0), (189, k_189, 0), (237, k_237, 0), (238, k_238, 0), (52, k_52, 0), (24, k_24, 0), (68, k_68, 0), (144, k_144, 0), (186, k_186, 0), (231, k_231, 0), (56, k_56, 0), (85, k_85, 0), (86, k_86, 0), (136, k_136, 0), (137, k_137, 0), (179, k_179, 0), (66, k_66, 0), (101, k_101, 0), (153, k_153, 0), (154, k_154, 0), (89, k_89, 0), (143, k_143, 0), (192, k_192, 0), (214, k_214, 0), (234, k_234, 0), (240, k_240, 0), (80, k_80, 0), (91, k_91, 0), (223, k_223, 0), (25, k_25, 0), (97, k_97, 0), (90, k_90, 0), (139, k_139, 0), (26, k_26, 0), (53, k_53, 0), (197, k_197, 0), (225, k_225, 0), (88, k_88, 0), (202, k_202, 0), (224, k_224, 0), (145, k_145, 0), (167, k_167, 0), (22, k_22, 0), (43, k_43, 0), (76, k_76, 0), (99, k_99, 0), (36, k_36, 0)]
theorem tab1_ok : TabOk Tryz.prog tab1 := ⟨⟨[], ok_182⟩, ⟨⟨[], ok_213⟩, ⟨⟨[], ok_251⟩, ⟨⟨[], ok_243⟩, ⟨⟨[], ok_252⟩, ⟨⟨[], ok_250⟩, ⟨⟨[], ok_257⟩, ⟨⟨[], ok_259⟩, ⟨⟨[], ok_261⟩, ⟨⟨[], ok_142⟩, ⟨⟨[], ok_228⟩, ⟨⟨[], ok_229⟩, ⟨⟨[], ok_248⟩, ⟨⟨[], ok_207⟩, ⟨⟨[], ok_208⟩, ⟨⟨[], ok_127⟩, ⟨⟨[], ok_210⟩, ⟨⟨[], ok_241⟩, ⟨⟨[], ok_156⟩, ⟨⟨[], ok_183⟩, ⟨⟨[], ok_233⟩, ⟨⟨[], ok_141⟩, ⟨⟨[], ok_70⟩, ⟨⟨[], ok_112⟩, ⟨⟨[], ok_81⟩, ⟨⟨[], ok_126⟩, ⟨⟨[], ok_173⟩, ⟨⟨[], ok_174⟩, ⟨⟨[], ok_205⟩, ⟨⟨[], ok_42⟩, ⟨⟨[], ok_79⟩, ⟨⟨[], ok_117⟩, ⟨⟨[], ok_84⟩, ⟨⟨[], ok_206⟩, ⟨⟨[44, 45], ok_125⟩, ⟨⟨[], ok_172⟩, ⟨⟨[], ok_175⟩, ⟨⟨[], ok_204⟩, ⟨⟨[], ok_209⟩, ⟨⟨[100005], ok_211⟩, ⟨⟨[], ok_242⟩, ⟨⟨[], ok_138⟩, ⟨⟨[], ok_180⟩, ⟨⟨[], ok_181⟩, ⟨⟨[], ok_189⟩, ⟨⟨[], ok_237⟩, ⟨⟨[], ok_238⟩, ⟨⟨[], ok_52⟩, ⟨⟨[], ok_24⟩, ⟨⟨[], ok_68⟩, ⟨⟨[], ok_144⟩, ⟨⟨[], ok_186⟩, ⟨⟨[], ok_231⟩, ⟨⟨[], ok_56⟩, ⟨⟨[], ok_85⟩, ⟨⟨[], ok_86⟩, ⟨⟨[], ok_136⟩, ⟨⟨[], ok_137⟩, ⟨⟨[28], ok_179⟩, ⟨⟨[], ok_66⟩, ⟨⟨[84, 85], ok_101⟩, ⟨⟨[], ok_153⟩, ⟨⟨[], ok_154⟩, ⟨⟨[], ok_89⟩, ⟨⟨[], ok_143⟩, ⟨⟨[], ok_192⟩, ⟨⟨[], ok_214⟩, ⟨⟨[], ok_234⟩, ⟨⟨[], ok_240⟩, ⟨⟨[], ok_80⟩, ⟨⟨[37], ok_91⟩, ⟨⟨[], ok_223⟩, ⟨⟨[], ok_25⟩, ⟨⟨[], ok_97⟩, ⟨⟨[], ok_90⟩, ⟨⟨[], ok_139⟩, ⟨⟨[], ok_26⟩, ⟨⟨[], ok_53⟩, ⟨⟨[], ok_197⟩, ⟨⟨[], ok_225⟩, ⟨⟨[], ok_88⟩, ⟨⟨[32, 33], ok_202⟩, ⟨⟨[], ok_224⟩, ⟨⟨[], ok_145⟩, ⟨⟨[], ok_167⟩, ⟨⟨[], ok_22⟩, ⟨⟨[], ok_43⟩, ⟨⟨[], ok_76⟩, ⟨⟨[], ok_99⟩, ⟨⟨[], ok_36⟩, trivial⟩⟩⟩⟩⟩⟩⟩⟩⟩⟩⟩⟩⟩⟩⟩⟩⟩⟩⟩⟩⟩⟩⟩⟩⟩⟩⟩⟩⟩⟩⟩⟩⟩⟩⟩⟩⟩⟩⟩⟩⟩⟩⟩⟩⟩⟩⟩⟩⟩⟩⟩⟩⟩⟩⟩⟩⟩⟩⟩⟩⟩⟩⟩⟩⟩⟩⟩⟩⟩⟩⟩⟩⟩⟩⟩⟩⟩⟩⟩⟩⟩⟩⟩⟩⟩⟩⟩⟩⟩⟩
end Go.Proofs.Lh.EV
