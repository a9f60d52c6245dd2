/-
  Part GK of this claim's proof. Joined by merge.py from the texts of wip/tpl.
-/
import Derived.Test.YtcegniopmpmpiaaGreatDoorGJ
import Derived.Test.YtcegniopmpmpiaaGreatDoorProg
import Derived.Test.YtcegniopmpmpiaaGreatDoorGB
import Derived.Test.YtcegniopmpmpiaaGreatDoorGD
set_option linter.unusedVariables false
set_option linter.unusedSimpArgs false
set_option linter.unnecessarySimpa false
namespace Go.Proofs.Lh
open Go Go.Ab Go.Bb

def k_Great : CF := ⟨29,
 (.seq
 (.ops false [] [
 ⟨(some 1),none,.box (.t 0)⟩,
 ⟨(some 2),none,.mov (.c (.d (.sc (.bool false))))⟩])
 (.seq
 (.seq
 (.ops false [] [
 ⟨(some 3),none,.mov (.c (.d (.sc (.int .i64 0))))⟩])
 (.block 0
 (.loop
 (.seq
 (.seq
 (.ops false [] [
 ⟨(some 4),none,.mov (.t 3)⟩,
 ⟨(some 5),none,.fad 0 (.t 1)⟩,
 ⟨(some 6),none,.ld none (.t 5)⟩,
 ⟨(some 7),none,.len 0 (.t 6)⟩,
 ⟨(some 8),none,.bin .lss (.t 4) (.t 7)⟩])
 (.cond (.t 8)
 .skip
 (.exit 0)))
 (.seq
 (.block 1
 (.seq
 (.ops false [] [
 ⟨(some 11),none,.fad 0 (.t 1)⟩,
 ⟨(some 12),none,.ld none (.t 11)⟩,
 ⟨(some 13),none,.mov (.t 3)⟩,
 ⟨(some 14),none,.iad 35 (.t 12) (.t 13)⟩,
 ⟨(some 15),none,.fad 33 (.t 14)⟩,
 ⟨(some 16),none,.ld none (.t 15)⟩,
 ⟨(some 17),none,.len 1 (.t 16)⟩,
 ⟨(some 18),none,.bin .gtr (.t 17) (.c (.d (.sc (.int .i64 40))))⟩])
 (.cond (.t 18)
 (.seq
 (.ops false [] [
 ⟨(some 2),none,.mov (.c (.d (.sc (.bool true))))⟩])
 .ret)
 .skip)))
 (.ops false [] [
 ⟨(some 9),none,.mov (.t 3)⟩,
 ⟨(some 10),none,.bin .add (.t 9) (.c (.d (.sc (.int .i64 1))))⟩,
 ⟨(some 3),none,.mov (.t 10)⟩]))))))
 (.seq
 (.ops false [] [
 ⟨(some 19),none,.fad 0 (.t 1)⟩,
 ⟨(some 20),none,.ld none (.t 19)⟩,
 ⟨(some 21),none,.len 0 (.t 20)⟩,
 ⟨(some 22),none,.bin .gtr (.t 21) (.c (.d (.sc (.int .i64 16))))⟩,
 ⟨(some 23),none,.mov (.t 22)⟩,
 ⟨(some 24),(some ((some 23),false)),.fad 1 (.t 1)⟩,
 ⟨(some 25),(some ((some 23),false)),.ld none (.t 24)⟩,
 ⟨(some 26),(some ((some 23),false)),.len 0 (.t 25)⟩,
 ⟨(some 27),(some ((some 23),false)),.bin .gtr (.t 26) (.c (.d (.sc (.int .i64 60))))⟩,
 ⟨(some 28),none,.pick (.t 23) (.c (.d (.sc (.bool true)))) (.t 27)⟩,
 ⟨(some 2),none,.mov (.t 28)⟩])
 .ret))), [.tmp 2]⟩
theorem okb_Great : compFn Tryz.prog [] 4 = some k_Great := by kernel_rfl

def k_LinegraphOrder : CF := ⟨146,
 (.seq
 (.ops false [] [
 ⟨(some 2),none,.box (.t 0)⟩,
 ⟨(some 3),none,.box (.t 1)⟩,
 ⟨(some 4),none,.mov (.c (.d (.sc (.bool false))))⟩])
 (.seq
 (.ops false [] [
 ⟨(some 13),none,.fad 0 (.t 2)⟩,
 ⟨(some 14),none,.ld none (.t 13)⟩,
 ⟨(some 15),none,.len 0 (.t 14)⟩,
 ⟨(some 5),none,.mov (.t 15)⟩])
 (.seq
 (.seq
 (.ops false [] [
 ⟨(some 16),none,.ld (some 2) (.t 2)⟩,
 ⟨(some 17),none,.call (.fn 4) [(.t 16)]⟩,
 ⟨(some 18),none,.mov (.t 17)⟩,
 ⟨(some 19),(some ((some 18),false)),.ld (some 2) (.t 2)⟩,
 ⟨(some 20),(some ((some 18),false)),.call (.fn 5) [(.t 19)]⟩,
 ⟨(some 21),(some ((some 18),false)),.bin .neq (.t 20) (.c (.d (.sc (.int .i64 0))))⟩,
 ⟨(some 22),none,.pick (.t 18) (.c (.d (.sc (.bool true)))) (.t 21)⟩,
 ⟨(some 23),none,.mov (.t 22)⟩,
 ⟨(some 24),(some ((some 23),false)),.mov (.t 5)⟩,
 ⟨(some 25),(some ((some 23),false)),.bin .eql (.t 24) (.c (.d (.sc (.int .i64 0))))⟩,
 ⟨(some 26),none,.pick (.t 23) (.c (.d (.sc (.bool true)))) (.t 25)⟩])
 (.cond (.t 26)
 (.seq
 (.ops false [] [
 ⟨(some 27),none,.call (.fn 6) []⟩,
 ⟨(some 4),none,.mov (.t 27)⟩])
 .ret)
 .skip))
 (.seq
 (.ops true [0, 1, 3, 0, 15, 0, 32, 96, 0, 480, 0, 1024, 3072, 0, 15360, 31, 33791, 131071] [
 ⟨(some 28),none,.iap 3 1 (.t 3) (.c (.d (.sc (.int .i64 0))))⟩,
 ⟨(some 29),none,.ld none (.t 28)⟩,
 ⟨(some 30),none,.cnv .i64 (.t 29)⟩,
 ⟨(some 31),none,.mov (.t 5)⟩,
 ⟨(some 32),none,.bin .rem (.t 30) (.t 31)⟩,
 ⟨(some 33),none,.iap 3 1 (.t 3) (.c (.d (.sc (.int .i64 1))))⟩,
 ⟨(some 34),none,.ld none (.t 33)⟩,
 ⟨(some 35),none,.cnv .i64 (.t 34)⟩,
 ⟨(some 36),none,.mov (.t 5)⟩,
 ⟨(some 37),none,.bin .rem (.t 35) (.t 36)⟩,
 ⟨(some 38),none,.iap 3 1 (.t 3) (.c (.d (.sc (.int .i64 2))))⟩,
 ⟨(some 39),none,.ld none (.t 38)⟩,
 ⟨(some 40),none,.cnv .i64 (.t 39)⟩,
 ⟨(some 41),none,.mov (.t 5)⟩,
 ⟨(some 42),none,.bin .rem (.t 40) (.t 41)⟩,
 ⟨(some 6),none,.mov (.t 32)⟩,
 ⟨(some 7),none,.mov (.t 37)⟩,
 ⟨(some 8),none,.mov (.t 42)⟩])
 (.seq
 (.ops false [] [
 ⟨(some 43),none,.mkf 7 [] [(.t 2)]⟩,
 ⟨(some 9),none,.mov (.t 43)⟩])
 (.seq
 (.ops false [] [
 ⟨(some 44),none,.ld (some 2) (.t 2)⟩,
 ⟨(some 45),none,.call (.fn 9) [(.t 44)]⟩,
 ⟨(some 10),none,.mov (.t 45)⟩])
 (.seq
 (.seq
 (.ops false [] [
 ⟨(some 46),none,.fad 1 (.t 2)⟩,
 ⟨(some 47),none,.ld none (.t 46)⟩,
 ⟨(some 48),none,.len 0 (.t 47)⟩,
 ⟨(some 49),none,.mov (.c (.d (.sc (.int .i64 0))))⟩])
 (.block 0
 (.loop
 (.seq
 (.ops false [] [
 ⟨(some 50),none,.bin .lss (.t 49) (.t 48)⟩])
 (.seq
 (.cond (.t 50)
 .skip
 (.exit 0))
 (.seq
 (.block 1
 (.seq
 (.ops false [] [
 ⟨(some 51),none,.iad 2 (.t 47) (.t 49)⟩,
 ⟨(some 52),none,.ld (some 2) (.t 51)⟩,
 ⟨(some 12),none,.box (.c (.agg [(.d (.sc (.int .i64 0))), (.d (.sc (.int .i64 0)))]))⟩,
 ⟨none,none,.st 2 (.t 12) (.t 52)⟩])
 (.seq
 (.ops true [0, 1, 3, 7, 15, 31, 63, 127, 255, 511, 1023, 511, 2559, 8191, 16383, 32767, 65535, 32767, 32767, 294911, 950271, 1998847, 4095999, 8388607, 16777215, 33554431, 67108863, 67108863, 201326591, 536870911, 1073741823, 67108863, 2214592511, 8589934591, 17179869183, 34359738367, 68719476735, 137438953471] [
 ⟨(some 53),none,.fad 0 (.t 12)⟩,
 ⟨(some 54),none,.ld none (.t 53)⟩,
 ⟨(some 55),none,.bin .geq (.t 54) (.c (.d (.sc (.int .i64 0))))⟩,
 ⟨(some 56),none,.mov (.t 55)⟩,
 ⟨(some 57),(some ((some 56),true)),.fad 1 (.t 12)⟩,
 ⟨(some 58),(some ((some 56),true)),.ld none (.t 57)⟩,
 ⟨(some 59),(some ((some 56),true)),.bin .geq (.t 58) (.c (.d (.sc (.int .i64 0))))⟩,
 ⟨(some 60),none,.pick (.t 56) (.t 59) (.c (.d (.sc (.bool false))))⟩,
 ⟨(some 61),none,.mov (.t 60)⟩,
 ⟨(some 62),(some ((some 61),true)),.fad 0 (.t 12)⟩,
 ⟨(some 63),(some ((some 61),true)),.ld none (.t 62)⟩,
 ⟨(some 64),(some ((some 61),true)),.mov (.t 10)⟩,
 ⟨(some 65),(some ((some 61),true)),.len 0 (.t 64)⟩,
 ⟨(some 66),(some ((some 61),true)),.bin .geq (.t 63) (.t 65)⟩,
 ⟨(some 67),(some ((some 61),true)),.mov (.t 66)⟩,
 ⟨(some 68),(some ((some 67),false)),.fad 1 (.t 12)⟩,
 ⟨(some 69),(some ((some 67),false)),.ld none (.t 68)⟩,
 ⟨(some 70),(some ((some 67),false)),.mov (.t 10)⟩,
 ⟨(some 71),(some ((some 67),false)),.fad 0 (.t 12)⟩,
 ⟨(some 72),(some ((some 67),false)),.ld none (.t 71)⟩,
 ⟨(some 73),(some ((some 67),false)),.iad 1 (.t 70) (.t 72)⟩,
 ⟨(some 74),(some ((some 67),false)),.ld none (.t 73)⟩,
 ⟨(some 75),(some ((some 67),false)),.len 0 (.t 74)⟩,
 ⟨(some 76),(some ((some 67),false)),.bin .geq (.t 69) (.t 75)⟩,
 ⟨(some 77),(some ((some 61),true)),.pick (.t 67) (.c (.d (.sc (.bool true)))) (.t 76)⟩,
 ⟨(some 78),(some ((some 61),true)),.mov (.t 77)⟩,
 ⟨(some 79),(some ((some 78),false)),.mov (.t 10)⟩,
 ⟨(some 80),(some ((some 78),false)),.fad 0 (.t 12)⟩,
 ⟨(some 81),(some ((some 78),false)),.ld none (.t 80)⟩,
 ⟨(some 82),(some ((some 78),false)),.iad 1 (.t 79) (.t 81)⟩,
 ⟨(some 83),(some ((some 78),false)),.ld none (.t 82)⟩,
 ⟨(some 84),(some ((some 78),false)),.fad 1 (.t 12)⟩,
 ⟨(some 85),(some ((some 78),false)),.ld none (.t 84)⟩,
 ⟨(some 86),(some ((some 78),false)),.iad 1 (.t 83) (.t 85)⟩,
 ⟨(some 87),(some ((some 78),false)),.ld none (.t 86)⟩,
 ⟨(some 88),(some ((some 78),false)),.not (.t 87)⟩,
 ⟨(some 89),(some ((some 61),true)),.pick (.t 78) (.c (.d (.sc (.bool true)))) (.t 88)⟩,
 ⟨(some 90),none,.pick (.t 61) (.t 89) (.c (.d (.sc (.bool false))))⟩])
 (.cond (.t 90)
 (.seq
 (.ops false [] [
 ⟨(some 4),none,.mov (.c (.d (.sc (.bool false))))⟩])
 .ret)
 .skip))))
 (.ops false [] [
 ⟨(some 91),none,.bin .add (.t 49) (.c (.d (.sc (.int .i64 1))))⟩,
 ⟨(some 49),none,.mov (.t 91)⟩])))))))
 (.seq
 (.ops false [] [
 ⟨(some 92),none,.mov (.t 9)⟩,
 ⟨(some 93),none,.mov (.t 6)⟩,
 ⟨(some 94),none,.mov (.t 6)⟩,
 ⟨(some 95),none,.call (.val (.t 92)) [(.t 93), (.t 94)]⟩,
 ⟨(some 96),none,.not (.t 95)⟩,
 ⟨(some 97),none,.mov (.t 96)⟩,
 ⟨(some 98),(some ((some 97),true)),.mov (.t 9)⟩,
 ⟨(some 99),(some ((some 97),true)),.mov (.t 6)⟩,
 ⟨(some 100),(some ((some 97),true)),.mov (.t 7)⟩,
 ⟨(some 101),(some ((some 97),true)),.call (.val (.t 98)) [(.t 99), (.t 100)]⟩,
 ⟨(some 102),(some ((some 97),true)),.mov (.t 101)⟩,
 ⟨(some 103),(some ((some 102),true)),.mov (.t 9)⟩,
 ⟨(some 104),(some ((some 102),true)),.mov (.t 7)⟩,
 ⟨(some 105),(some ((some 102),true)),.mov (.t 6)⟩,
 ⟨(some 106),(some ((some 102),true)),.call (.val (.t 103)) [(.t 104), (.t 105)]⟩,
 ⟨(some 107),(some ((some 97),true)),.pick (.t 102) (.t 106) (.c (.d (.sc (.bool false))))⟩,
 ⟨(some 108),(some ((some 97),true)),.not (.t 107)⟩,
 ⟨(some 109),none,.pick (.t 97) (.t 108) (.c (.d (.sc (.bool false))))⟩,
 ⟨(some 110),none,.mov (.t 109)⟩,
 ⟨(some 111),(some ((some 110),true)),.mov (.t 9)⟩,
 ⟨(some 112),(some ((some 110),true)),.mov (.t 6)⟩,
 ⟨(some 113),(some ((some 110),true)),.mov (.t 7)⟩,
 ⟨(some 114),(some ((some 110),true)),.call (.val (.t 111)) [(.t 112), (.t 113)]⟩,
 ⟨(some 115),(some ((some 110),true)),.not (.t 114)⟩,
 ⟨(some 116),(some ((some 110),true)),.mov (.t 115)⟩,
 ⟨(some 117),(some ((some 116),false)),.mov (.t 9)⟩,
 ⟨(some 118),(some ((some 116),false)),.mov (.t 7)⟩,
 ⟨(some 119),(some ((some 116),false)),.mov (.t 8)⟩,
 ⟨(some 120),(some ((some 116),false)),.call (.val (.t 117)) [(.t 118), (.t 119)]⟩,
 ⟨(some 121),(some ((some 116),false)),.not (.t 120)⟩,
 ⟨(some 122),(some ((some 110),true)),.pick (.t 116) (.c (.d (.sc (.bool true)))) (.t 121)⟩,
 ⟨(some 123),(some ((some 110),true)),.mov (.t 122)⟩,
 ⟨(some 124),(some ((some 123),false)),.mov (.t 9)⟩,
 ⟨(some 125),(some ((some 123),false)),.mov (.t 6)⟩,
 ⟨(some 126),(some ((some 123),false)),.mov (.t 8)⟩,
 ⟨(some 127),(some ((some 123),false)),.call (.val (.t 124)) [(.t 125), (.t 126)]⟩,
 ⟨(some 128),(some ((some 110),true)),.pick (.t 123) (.c (.d (.sc (.bool true)))) (.t 127)⟩,
 ⟨(some 129),none,.pick (.t 110) (.t 128) (.c (.d (.sc (.bool false))))⟩,
 ⟨(some 130),none,.mov (.t 129)⟩,
 ⟨(some 131),(some ((some 130),true)),.mov (.t 9)⟩,
 ⟨(some 132),(some ((some 130),true)),.mov (.t 6)⟩,
 ⟨(some 133),(some ((some 130),true)),.mov (.t 5)⟩,
 ⟨(some 134),(some ((some 130),true)),.call (.val (.t 131)) [(.t 132), (.t 133)]⟩,
 ⟨(some 135),(some ((some 130),true)),.not (.t 134)⟩,
 ⟨(some 136),none,.pick (.t 130) (.t 135) (.c (.d (.sc (.bool false))))⟩,
 ⟨(some 137),none,.mov (.t 136)⟩,
 ⟨(some 138),(some ((some 137),true)),.mov (.t 9)⟩,
 ⟨(some 139),(some ((some 137),true)),.mov (.t 6)⟩,
 ⟨(some 140),(some ((some 137),true)),.call (.val (.t 138)) [(.c (.d (.sc (.int .i64 (-1))))), (.t 139)]⟩,
 ⟨(some 141),(some ((some 137),true)),.not (.t 140)⟩,
 ⟨(some 142),none,.pick (.t 137) (.t 141) (.c (.d (.sc (.bool false))))⟩,
 ⟨(some 143),none,.mov (.t 142)⟩,
 ⟨(some 144),(some ((some 143),true)),.call (.fn 6) []⟩,
 ⟨(some 145),none,.pick (.t 143) (.t 144) (.c (.d (.sc (.bool false))))⟩,
 ⟨(some 4),none,.mov (.t 145)⟩])
 .ret)))))))), [.tmp 4]⟩
theorem okb_LinegraphOrder : compFn Tryz.prog [] 3 = some k_LinegraphOrder := by kernel_rfl

def k_LinegraphOrder1 : CF := ⟨10,
 (.seq
 (.ops false [] [
 ⟨(some 5),none,.mov (.c (.d (.sc (.bool false))))⟩])
 (.seq
 (.ops false [] [
 ⟨(some 6),none,.ld (some 2) (.t 2)⟩,
 ⟨(some 7),none,.mov (.t 0)⟩,
 ⟨(some 8),none,.mov (.t 1)⟩,
 ⟨(some 9),none,.call (.fn 8) [(.t 6), (.t 7), (.t 8)]⟩,
 ⟨(some 5),none,.mov (.t 9)⟩])
 .ret)), [.tmp 5]⟩
theorem okb_LinegraphOrder1 : compFn Tryz.prog [] 7 = some k_LinegraphOrder1 := by kernel_rfl

end Go.Proofs.Lh

namespace Go.Proofs.Lg
open Go Go.Ab Go.Bb Go.RowKit Go.Proofs.Lh

def vrow (v : Vtx) : List D := v.cells.map .sc
def dLines (ls : List Vtx) : D := .sl 35 (ls.map vrow)
def erow (e : Int × Int) : List D := [.sc (.int .i64 e.1), .sc (.int .i64 e.2)]
def dEdges (es : List (Int × Int)) : D := .sl 2 (es.map erow)
def dGraph (g : Gr) : D := .agg [dLines g.lines, dEdges g.edges]

theorem RD_sc {I : Nat → Nat} {w : World} {u c : Value} (h : RD I w u (.sc c)) : u = c := by cases h; rfl

theorem RDs_sc {I : Nat → Nat} {w : World} {us cs : List Value} (h : RDs I w us (cs.map .sc)) : us = cs := by
  obtain ⟨h1, _, h3⟩ := h
  rw [List.length_map] at h1
  refine List.ext_getElem? fun i => ?_
  by_cases hi : i < us.length
  · have e1 : us[i]? = some us[i] := List.getElem?_eq_getElem hi
    have e2 : cs[i]? = some cs[i] := List.getElem?_eq_getElem (by omega)
    have := RD_sc (h3 i us[i] (.sc cs[i]) e1 (by rw [List.getElem?_map, e2]; rfl))
    rw [e1, e2, this]
  · rw [List.getElem?_eq_none (by omega), List.getElem?_eq_none (by omega)]

theorem flatten_map_sc (xss : List (List Value)) : (xss.map fun xs => xs.map D.sc).flatten = xss.flatten.map D.sc := by
  rw [List.map_flatten]

theorem SlN_of_RD {I : Nat → Nat} {w : World} {v : Value} {sz : Nat} {xss : List (List Value)} (h : RD I w v (.sl sz (xss.map fun xs => xs.map .sc))) : SlN w v sz xss := by
  obtain ⟨a, c, us, rfl, h2, h3, h4, h5, h6⟩ := h.sl_inv
  rw [List.length_map] at h3
  rw [flatten_map_sc] at h5
  have hus := RDs_sc h5
  subst hus
  have hr : ∀ r ∈ xss, r.length = sz := fun r hr => by
    have := h2 (r.map .sc) (List.mem_map.2 ⟨r, hr, rfl⟩)
    rwa [List.length_map] at this
  refine ⟨a, c, by rw [List.length_map], h3, h4, fun hne => ?_⟩
  obtain ⟨b, off, ha, hc⟩ := h6 (by simpa using hne)
  refine ⟨b, off, ha, fun i u hu j x hx => ?_⟩
  have hrow := flatten_row xss hr i u hu
  have hj : j < sz := by rw [← hr u (List.mem_of_getElem? hu)]; exact (List.getElem?_eq_some_iff.1 hx).1
  have hget : xss.flatten[i * sz + j]? = some x := by
    rw [← hrow, List.getElem?_take, if_pos hj, List.getElem?_drop] at hx
    exact hx
  have := (hc (i * sz + j) x hget).2
  rw [← this, Nat.add_assoc]

theorem RD_of_SlN {w : World} {v : Value} {sz : Nat} {xss : List (List Value)} (h : SlN w v sz xss) (hr : ∀ r ∈ xss, r.length = sz ∧ ∀ x ∈ r, x.oneCell' = true) (hsz : 0 < sz) : RD (Go.Bb.cellsIn w) w v (.sl sz (xss.map fun xs => xs.map .sc)) := by
  obtain ⟨a, c, rfl, h3, h4, h6⟩ := h
  have h2 : ∀ r ∈ xss, r.length = sz := fun r h => (hr r h).1
  refine RD.sl_mk (us := xss.flatten) (by simp) (fun r h => ?_) h3 h4 ?_ fun hne => ?_
  · obtain ⟨x, hx, rfl⟩ := List.mem_map.1 h
    rw [List.length_map]; exact h2 x hx
  · rw [flatten_map_sc]
    refine ⟨by rw [List.length_map], fun u hu => ?_, fun i u d hu hd => ?_⟩
    · obtain ⟨r, hr1, hr2⟩ := List.mem_flatten.1 hu
      exact (hr r hr1).2 u hr2
    · rw [List.getElem?_map, hu] at hd
      obtain rfl := Option.some.inj hd
      exact .sc u
  · obtain ⟨b, off, ha, hc⟩ := h6 (by simpa using hne)
    refine ⟨b, off, ha, fun i u hu => ?_⟩
    have hi : i < xss.length * sz := by rw [← flatten_len xss h2]; exact (List.getElem?_eq_some_iff.1 hu).1
    have hq : i / sz < xss.length := Nat.div_lt_of_lt_mul (by rw [Nat.mul_comm]; exact hi)
    have hrow := flatten_row xss h2 (i / sz) xss[i / sz] (List.getElem?_eq_getElem hq)
    have hm : i % sz < sz := Nat.mod_lt _ hsz
    have hdm : i / sz * sz + i % sz = i := by rw [Nat.mul_comm]; exact Nat.div_add_mod i sz
    have hx : xss[i / sz][i % sz]? = some u := by
      rw [← hrow, List.getElem?_take, if_pos hm, List.getElem?_drop, hdm]; exact hu
    have := hc (i / sz) _ (List.getElem?_eq_getElem hq) (i % sz) u hx
    rw [Nat.add_assoc, hdm] at this
    exact ⟨lt_cellsIn this, this⟩

/-- What is asked of a graph's size. -/
structure GrOk (g : Gr) : Prop where
  okl : ∀ x ∈ g.lines, x.ok
  oke : ∀ e ∈ g.edges, I64 e.1 ∧ I64 e.2
  few : g.lines.length ≤ 1000000
  fewe : g.edges.length ≤ 1000000

theorem dGraph_inv {I : Nat → Nat} {w : World} {v : Value} {g : Gr} (hg : GrOk g) (h : RD I w v (dGraph g)) : ∃ vl ve, v = .agg #[vl, ve] ∧ GrAt w vl ve g := by
  unfold dGraph at h
  cases h with
  | agg us ds h1 h2 h3 =>
    match us, h1 with
    | [vl, ve], _ =>
      have e1 := h3 0 vl _ rfl rfl
      have e2 := h3 1 ve _ rfl rfl
      refine ⟨vl, ve, rfl, ⟨SlN_of_RD (I := I) (xss := g.lines.map Vtx.cells) ?_, SlN_of_RD (I := I) (xss := g.edges.map edgeCells) ?_, hg.okl, hg.oke, hg.few, hg.fewe⟩⟩
      · rw [List.map_map]; exact e1
      · rw [List.map_map]; exact e2

theorem enters_fn {P : Program} {f : FuncId} {fn : Func} {c : Code} (hfn : P.funcs[f]? = some fn) (hb : fn.body = some c) (hn : (fn.name == "runtime.NumGoroutine") = false) : Enters P f := fun args w => by
  have hn' : fn.name ≠ "runtime.NumGoroutine" := by simpa using hn
  simp [callFunc, hfn, hn', hb, mark]

end Go.Proofs.Lg
namespace Go.Proofs.Lh
open Go Go.Bb Go.RowKit Go.Proofs.Lg
open Go.Ab (RD RDs D flatten_len flatten_row)
theorem wrapN {n : Int} {m : Nat} (h : n = m) (hm : m < 9223372036854775808) : Go.IntKind.i64.wrap n = (m : Int) := by
  subst h
  simp only [Go.IntKind.wrap, Go.IntKind.bits, Go.IntKind.signed]
  have : ((m : Int) % 2 ^ 64) = m := by omega
  simp only [this]
  simp; omega

def dBool (b : Bool) : D := .sc (.bool b)
theorem any_take_step' {α : Type} {l : List α} {p : α → Bool} {k : Nat} (h : (l.take k).any p = false) (hk : k < l.length) (hp : p l[k] = false) : (l.take (k + 1)).any p = false := by
  rw [List.take_succ_eq_append_getElem hk, List.any_append, h]; simp [hp]
theorem any_hit' {α : Type} {l : List α} {p : α → Bool} {k : Nat} (hk : k < l.length) (hp : p l[k] = true) : l.any p = true := List.any_eq_true.2 ⟨l[k], List.getElem_mem _, hp⟩

theorem vcells_ok {x : Vtx} (h : x.ok) : x.cells.length = 35 ∧ ∀ u ∈ x.cells, u.oneCell' = true := by
  refine ⟨by simp [Vtx.cells, h.1], fun u hu => ?_⟩
  unfold Vtx.cells at hu
  rcases List.mem_append.1 hu with hu | hu
  · obtain ⟨n, _, rfl⟩ := List.mem_map.1 hu; rfl
  · simp at hu; rcases hu with rfl | rfl | rfl <;> rfl

theorem RDs_scs {I : Nat → Nat} {w : World} {cs : List Value} (h : ∀ c ∈ cs, c.oneCell' = true) : RDs I w cs (cs.map .sc) := by
  refine ⟨by rw [List.length_map], h, fun i u d hu hd => ?_⟩
  rw [List.getElem?_map, hu] at hd
  obtain rfl := Option.some.inj hd
  exact .sc u
theorem RDs_flatten {I : Nat → Nat} {w : World} : ∀ {cs : List (List Value)} {rows : List (List D)}, cs.length = rows.length → (∀ (i : Nat) (c : List Value) (r : List D), cs[i]? = some c → rows[i]? = some r → RDs I w c r) → RDs I w cs.flatten rows.flatten
  | [], [], _, _ => ⟨rfl, (fun u hu => by simp at hu), (fun i u d hu hd => by simp at hu)⟩
  | [], _ :: _, h, _ => by simp at h
  | _ :: _, [], h, _ => by simp at h
  | c :: cs, r :: rows, h, hr => by
    rw [List.flatten_cons, List.flatten_cons]
    exact (hr 0 c r rfl rfl).append (RDs_flatten (by simpa using h) fun i c' r' h1 h2 => hr (i + 1) c' r' (by simpa using h1) (by simpa using h2))

theorem RD_of_SlAtP {I : Nat → Nat} {ok : Nat → Prop} {w : World} {v : Value} {us : List Value} {rows : List (List D)} (h : SlAtP ok w v us) (hI : ∀ b o u, ok b → w.cell? ⟨b, o, none⟩ = some u → o < I b) (h5 : RDs I w us rows.flatten) (h1 : us.length = rows.length) (h2 : ∀ r ∈ rows, r.length = 1) : RD I w v (.sl 1 rows) := by
  obtain ⟨a, c, rfl, k1, k2, k3⟩ := h
  refine Go.Ab.RD.sl_mk h1.symm h2 k1 k2 h5 fun hne => ?_
  have hne' : us ≠ [] := fun e => by rw [e] at h1; exact hne (List.eq_nil_of_length_eq_zero h1.symm)
  obtain ⟨b, off, ha, hok, hc⟩ := k3 hne'
  exact ⟨b, off, ha, fun i u hu => ⟨hI b _ u hok (hc i u hu), hc i u hu⟩⟩
theorem RD_of_SlAt {w : World} {v : Value} {us : List Value} {rows : List (List D)} (h : SlAt w v us) (h5 : RDs (Go.Bb.cellsIn w) w us rows.flatten) (h1 : us.length = rows.length) (h2 : ∀ r ∈ rows, r.length = 1) : RD (Go.Bb.cellsIn w) w v (.sl 1 rows) :=
  RD_of_SlAtP (ok := fun _ => True) (h.slAtP_of (ok := fun _ => True) fun _ _ => trivial) (fun _ _ _ _ hc => Go.Bb.lt_cellsIn hc) h5 h1 h2

theorem dGraph_in {w : World} {vl ve : Value} {g : Gr} (h : GrIn w vl ve g) : RD (Go.Bb.cellsIn w) w (.agg #[vl, ve]) (dGraph g) := by
  have h1 := RD_of_SlN h.lines (fun r hr => by obtain ⟨x, hx, rfl⟩ := List.mem_map.1 hr; exact vcells_ok (h.okl x hx)) (by omega)
  have h2 := RD_of_SlN h.edges (fun r hr => by
    obtain ⟨x, hx, rfl⟩ := List.mem_map.1 hr
    exact ⟨rfl, fun u hu => by unfold edgeCells at hu; simp at hu; rcases hu with rfl | rfl <;> rfl⟩) (by omega)
  rw [List.map_map] at h1 h2
  have e : (#[vl, ve] : Array Value) = [vl, ve].toArray := rfl
  rw [e]
  refine .agg [vl, ve] [dLines g.lines, dEdges g.edges] rfl (fun u hu => ?_) fun i u d hu hd => ?_
  · simp at hu
    rcases hu with rfl | rfl
    · exact h1.leaf rfl
    · exact h2.leaf rfl
  · match i with
    | 0 => simp at hu hd; subst hu; subst hd; exact h1
    | 1 => simp at hu hd; subst hu; subst hd; exact h2
    | i + 2 => simp at hu
/-- A contract on graphs in memory as one on data. -/
theorem graph_fn {f : FuncId} {fn : Func} {c : Code} (hfn : Tryz.prog.funcs[f]? = some fn) (hb : fn.body = some c) (hnm : (fn.name == "runtime.NumGoroutine") = false) {g : Gr} (hg : GrOk g) {r : D}
    (h : ∀ (vl ve : Value) (w : World), GrAt w vl ve g → Calls Tryz.prog f #[.agg #[vl, ve]] w fun e w' => ∃ v, e = .returned v ∧ (∀ I, RD (bigI I w.heap.size w') w' v r) ∧ Below w.heap.size w w') : AFn Tryz.prog f [dGraph g] r := by
  refine ⟨enters_fn hfn hb hnm, fun I w vs hl hv => ?_⟩
  match vs, hl with
  | [v], _ =>
    obtain ⟨vl, ve, rfl, hat⟩ := dGraph_inv hg (hv 0 v _ rfl rfl)
    exact (h vl ve w hat).mono fun e w' ⟨v, he, h1, h2⟩ => ⟨v, he, h1 I, h2⟩

theorem vrow_33 {v : Vtx} (h : v.ok) : (vrow v).drop 33 = [.sc (.string v.text), .sc (.bool v.living)] := by
  have h2 : vrow v = (v.id.map (Value.int .u8) ++ [Value.int .i64 v.n]).map .sc ++ [.sc (.string v.text), .sc (.bool v.living)] := by simp [vrow, Vtx.cells]
  have h3 : ((v.id.map (Value.int .u8) ++ [Value.int .i64 v.n]).map Go.Ab.D.sc).length = 33 := by simp [h.1]
  rw [h2, List.drop_append, h3, List.drop_eq_nil_of_le (by omega)]; rfl

structure GrAny (g : Gr) : Prop where
  okl : ∀ x ∈ g.lines, x.ok
  oke : ∀ e ∈ g.edges, I64 e.1 ∧ I64 e.2
  len : g.lines.length ≤ 9223372036854775807
  elen : g.edges.length ≤ 9223372036854775807
theorem GrAny.ok {g : Gr} (h : GrAny g) (hb : g.big = false) : GrOk g := by
  unfold Gr.big at hb
  rw [Bool.or_eq_false_iff, Bool.or_eq_false_iff, decide_eq_false_iff_not, decide_eq_false_iff_not] at hb
  exact ⟨h.okl, h.oke, by omega, by omega⟩
theorem grAny_in {w : World} {vl ve : Value} {g : Gr} (h : GrIn w vl ve g) : GrAny g := by
  obtain ⟨a1, c1, _, k1, k2, _⟩ := h.lines
  obtain ⟨a2, c2, _, k3, k4, _⟩ := h.edges
  rw [List.length_map] at k1 k3
  exact ⟨h.okl, h.oke, by omega, by omega⟩

set_option maxRecDepth 10000 in
theorem Great_fn {g : Gr} (hok : ∀ x ∈ g.lines, x.ok) (h1 : g.lines.length ≤ 9223372036854775807) (h2 : g.edges.length ≤ 9223372036854775807) : AFn Tryz.prog 4 [dGraph g] (dBool g.big) := by
  refine AFn_of (F := k_Great) (okb_Great.trans (by kernel_rfl)) (by simp [k_Great]) ?_
  simp only [k_Great, dGraph, dLines, ↓Both_true, ↓Both_false, wx, reduceCtorEq, reduceIte, Nat.reduceAdd, Nat.reduceEqDiff, Nat.reduceLT, Nat.reduceLeDiff]
  refine LoopK.count (fun k => [(3, .d (.sc (.int .i64 k))), (1, .ptr 0 0)]) (fun _ => [.cells [.d (.sl 35 (g.lines.map vrow)), .d (dEdges g.edges)]]) (fun k => (g.lines.take k).any (fun x => decide (40 < x.text.size)) = false) g.lines.length (by simp [SubB, Go.Bb.look]) rfl rfl fun k hk hi => ?_
  by_cases hlt : k < g.lines.length
  · have f1 : decide ((k : Int) < (g.lines.length : Int)) = true := by simpa using hlt
    have f2 : g.lines[k]? = some g.lines[k] := List.getElem?_eq_getElem hlt
    have f3 : IntKind.i64.wrap ((k : Int) + 1) = ((k + 1 : Nat) : Int) := wrapN (by omega) (by omega)
    have hx := hok g.lines[k] (List.getElem_mem _)
    have h8 : decide (40 < g.lines[k].text.size) = false → (g.lines.take (k + 1)).any (fun x => decide (40 < x.text.size)) = false := fun h => any_take_step' hi hlt h
    have h9 : decide (40 < g.lines[k].text.size) = true → g.big = true := fun h => by
      have : g.lines.any (fun x => decide (40 < x.text.size)) = true := any_hit' hlt h
      unfold Gr.big; rw [this]; rfl
    generalize g.lines[k] = x at f2 hx h8 h9
    have h5 := vrow_33 hx
    have h6 : decide ((x.text.size : Int) > 40) = decide (40 < x.text.size) := by by_cases h : 40 < x.text.size <;> simp [h] <;> omega
    cases hc : decide (40 < x.text.size) with
    | true =>
      simp only [f1, f2, h5, h6, hc, h9 hc, dBool, deepD, AV.toL, ↓Both_true, ↓Both_false, wx, reduceCtorEq, reduceIte, Nat.reduceAdd, Nat.reduceEqDiff, Nat.reduceLT, Nat.reduceLeDiff, wj, ← List.map_take, ← List.map_drop]
    | false =>
      simp only [f1, f2, f3, h5, h6, hc, hlt, h8 hc, dBool, deepD, AV.toL, ↓Both_true, ↓Both_false, wx, reduceCtorEq, reduceIte, Nat.reduceAdd, Nat.reduceEqDiff, Nat.reduceLT, Nat.reduceLeDiff, wj, ← List.map_take, ← List.map_drop]
  · have f1 : decide ((k : Int) < (g.lines.length : Int)) = false := by simpa using hlt
    have h2 : g.lines.take k = g.lines := List.take_of_length_le (by omega)
    rw [h2] at hi
    have hb : g.big = (decide (16 < g.lines.length) || decide (60 < g.edges.length)) := by unfold Gr.big; rw [hi]; rfl
    have h6 : decide ((g.lines.length : Int) > 16) = decide (16 < g.lines.length) := by by_cases h : 16 < g.lines.length <;> simp [h] <;> omega
    have h7 : decide ((g.edges.length : Int) > 60) = decide (60 < g.edges.length) := by by_cases h : 60 < g.edges.length <;> simp [h] <;> omega
    rw [hb]
    cases hc : decide (16 < g.lines.length) with
    | true => simp only [f1, h6, hc, dBool, dEdges, deepD, AV.toL, ↓Both_true, ↓Both_false, wx, reduceCtorEq, reduceIte, Nat.reduceAdd, Nat.reduceEqDiff, Nat.reduceLT, Nat.reduceLeDiff, wj, ← List.map_take, ← List.map_drop]
    | false => simp only [f1, h6, h7, hc, dBool, dEdges, deepD, AV.toL, ↓Both_true, ↓Both_false, wx, reduceCtorEq, reduceIte, Nat.reduceAdd, Nat.reduceEqDiff, Nat.reduceLT, Nat.reduceLeDiff, wj, ← List.map_take, ← List.map_drop]


/-- A contract on a graph in memory and some plain arguments as one on data. -/
theorem graph_fnx {f : FuncId} {fn : Func} {c : Code} (hfn : Tryz.prog.funcs[f]? = some fn) (hb : fn.body = some c) (hnm : (fn.name == "runtime.NumGoroutine") = false) {g : Gr} (hg : GrOk g) (xs : List Value) {r : D}
    (h : ∀ (vl ve : Value) (w : World), GrAt w vl ve g → Calls Tryz.prog f (.agg #[vl, ve] :: xs).toArray w fun e w' => ∃ v, e = .returned v ∧ (∀ I, RD (bigI I w.heap.size w') w' v r) ∧ Below w.heap.size w w') : AFn Tryz.prog f (dGraph g :: xs.map .sc) r := by
  refine ⟨enters_fn hfn hb hnm, fun I w vs hl hv => ?_⟩
  match vs, hl with
  | v :: vs, hl =>
    obtain ⟨vl, ve, rfl, hat⟩ := dGraph_inv hg (hv 0 v _ rfl rfl)
    have hvs : vs = xs := by
      have hlen : vs.length = xs.length := by simpa using hl
      refine List.ext_getElem? fun i => ?_
      by_cases hi : i < vs.length
      · have e1 : vs[i]? = some vs[i] := List.getElem?_eq_getElem hi
        have e2 : xs[i]? = some xs[i] := List.getElem?_eq_getElem (by omega)
        have := RD_sc (hv (i + 1) vs[i] (.sc xs[i]) e1 (by rw [List.getElem?_cons_succ, List.getElem?_map, e2]; rfl))
        rw [e1, e2, this]
      · rw [List.getElem?_eq_none (by omega), List.getElem?_eq_none (by omega)]
    subst hvs
    exact (h vl ve w hat).mono fun e w' ⟨v, he, h1, h2⟩ => ⟨v, he, h1 I, h2⟩

theorem refCheck_fn {g : Gr} (hg : GrOk g) : AFn Tryz.prog 5 [dGraph g] (.sc (.int .i64 g.check)) :=
  graph_fn Tryz.func5 (by rfl) (by rfl) hg fun vl ve w hat => (refCheck_any vl ve g w hat).mono fun e w' ⟨he, hb⟩ => ⟨_, he, fun _ => .sc _, hb⟩

theorem flat_one {α : Type} (l : List α) (f : α → D) : (l.map fun b => [f b]).flatten = l.map f := by
  induction l with
  | nil => rfl
  | cons b l ih => simp [ih]
def lbrow (l : List Bool) : List D := [.sl 1 (l.map fun b => [.sc (.bool b)])]
def dBoolss (l : List (List Bool)) : D := .sl 1 (l.map lbrow)
theorem RD_of_bools {I : Nat → Nat} {ok : Nat → Prop} {w : World} {v : Value} {l : List Bool} (h : SlAtP ok w v (bools l)) (hI : ∀ b o u, ok b → w.cell? ⟨b, o, none⟩ = some u → o < I b) : RD I w v (.sl 1 (l.map fun b => [.sc (.bool b)])) := by
  refine RD_of_SlAtP h hI ?_ (by simp [bools]) fun r hr => ?_
  · rw [flat_one l fun b => D.sc (.bool b)]
    have e : l.map (fun b => D.sc (.bool b)) = (bools l).map .sc := by unfold bools; rw [List.map_map]; rfl
    rw [e]
    exact RDs_scs fun c hc => by obtain ⟨b, _, rfl⟩ := List.mem_map.1 hc; rfl
  · obtain ⟨x, _, rfl⟩ := List.mem_map.1 hr; rfl

theorem Reaches_fn {g : Gr} (hg : GrOk g) : AFn Tryz.prog 9 [dGraph g] (dBoolss g.reach) :=
  graph_fn Tryz.func9 (by rfl) (by rfl) hg fun vl ve w hat => (Reaches_any vl ve g w hat).mono fun e w' ⟨v, he, hs, hb⟩ => ⟨v, he, fun I => by
    obtain ⟨vs, h1, h2, h3⟩ := hs
    rw [List.length_map] at h2
    have hI : ∀ b o u, w.heap.size ≤ b → w'.cell? ⟨b, o, none⟩ = some u → o < bigI I w.heap.size w' b := fun b o u hb hc => by
      unfold bigI; rw [if_neg (by omega)]; exact lt_cellsIn hc
    have hg : ∀ (i : Nat) (u : Value) (s : List Bool), vs[i]? = some u → g.reach[i]? = some s → SlAtP (fun b => w.heap.size ≤ b) w' u (bools s) := fun i u s hu hs => h3 i u _ hu (by rw [List.getElem?_map, hs]; rfl)
    refine RD_of_SlAtP h1 hI ?_ (by rw [List.length_map, h2]) fun r hr => ?_
    · have e : (g.reach.map lbrow).flatten = g.reach.map fun s => D.sl 1 (s.map fun b => [.sc (.bool b)]) := flat_one g.reach fun s => D.sl 1 (s.map fun b => [.sc (.bool b)])
      rw [e]
      refine ⟨by rw [List.length_map, h2], fun u hu => ?_, fun i u d hu hd => ?_⟩
      · obtain ⟨i, hi, rfl⟩ := List.mem_iff_getElem.1 hu
        obtain ⟨a, c, he, _⟩ := hg i vs[i] (g.reach[i]'(by omega)) (List.getElem?_eq_getElem hi) (List.getElem?_eq_getElem (by omega))
        rw [he]; rfl
      · rw [List.getElem?_map] at hd
        obtain ⟨s, hs, rfl⟩ := Option.map_eq_some_iff.1 hd
        exact RD_of_bools (hg i u s hu hs) hI
    · obtain ⟨x, _, rfl⟩ := List.mem_map.1 hr; rfl, hb⟩

/-- What linegraph.Before answers at all indices. -/
def beforeI (g : Gr) (i j : Int) : Bool := if 0 ≤ i ∧ 0 ≤ j ∧ i < g.lines.length ∧ j < g.lines.length then g.before i.toNat j.toNat else false

set_option maxRecDepth 100000 in
theorem Before_out (vl ve : Value) (g : Gr) (i j : Int) (w : World) (hg : GrAt w vl ve g) (h : i < 0 ∨ j < 0 ∨ (g.lines.length : Int) ≤ i ∨ (g.lines.length : Int) ≤ j) :
    Calls Tryz.prog 8 #[.agg #[vl, ve], .int .i64 i, .int .i64 j] w fun e w' => e = .returned (.bool false) ∧ Below w.heap.size w w' := by
  obtain ⟨al, cl, hvl⟩ : ∃ a c, vl = .slice a g.lines.length c := by obtain ⟨a, c, h, _⟩ := hg.lines; exact ⟨a, c, by simpa using h⟩
  subst hvl
  have hb := (Below.refl w.heap.size w).alloc (Nat.le_refl _) (.cells #[.slice al g.lines.length cl, ve] 25)
  have HB := Lib.hid hb
  clear hb hg
  by_cases h1 : i < 0
  · go_enter Tryz.func8, Tryz.ntmps8
    go_wp2
    go_ret
    exact ⟨rfl, HB.out⟩
  · by_cases h2 : j < 0
    · go_enter Tryz.func8, Tryz.ntmps8
      go_wp2
      go_ret
      exact ⟨rfl, HB.out⟩
    · by_cases h3 : (g.lines.length : Int) ≤ i
      · go_enter Tryz.func8, Tryz.ntmps8
        go_wp2
        go_ret
        exact ⟨rfl, HB.out⟩
      · have h4 : (g.lines.length : Int) ≤ j := by omega
        go_enter Tryz.func8, Tryz.ntmps8
        go_wp2
        go_ret
        exact ⟨rfl, HB.out⟩

theorem Before_fn {g : Gr} (hg : GrOk g) (hck : g.check = 0) (i j : Int) : AFn Tryz.prog 8 [dGraph g, .sc (.int .i64 i), .sc (.int .i64 j)] (dBool (beforeI g i j)) :=
  graph_fnx Tryz.func8 (by rfl) (by rfl) hg [.int .i64 i, .int .i64 j] fun vl ve w hat => by
    unfold beforeI
    split
    · rename_i h
      have e1 : i = (i.toNat : Int) := by omega
      have e2 : j = (j.toNat : Int) := by omega
      have := Before_ok vl ve g i.toNat j.toNat w hat hck (by omega) (by omega)
      rw [← e1, ← e2] at this
      exact this.mono fun e w' ⟨he, hb⟩ => ⟨_, he, fun _ => .sc _, hb⟩
    · exact (Before_out vl ve g i j w hat (by omega)).mono fun e w' ⟨he, hb⟩ => ⟨_, he, fun _ => .sc _, hb⟩
end Go.Proofs.Lh
