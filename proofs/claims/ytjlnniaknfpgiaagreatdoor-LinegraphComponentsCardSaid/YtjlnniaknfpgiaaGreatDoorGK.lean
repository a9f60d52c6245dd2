/-
  Part GK of this claim's proof. Joined by merge.py from the texts of wip/tpl.
-/
import Derived.Test.YtjlnniaknfpgiaaGreatDoorGJ
import Derived.Test.YtjlnniaknfpgiaaGreatDoorProg
import Derived.Test.YtjlnniaknfpgiaaGreatDoorGB
import Derived.Test.YtjlnniaknfpgiaaGreatDoorGD
set_option linter.unusedVariables false
set_option linter.unusedSimpArgs false
set_option linter.unnecessarySimpa false
namespace Go.Proofs.Lh
open Go Go.Ab Go.Bb

def k_LinegraphGraph : CF := ⟨43,
 (.seq
 (.ops false [] [
 ⟨(some 3),none,.box (.t 0)⟩,
 ⟨(some 6),none,.mov (.c (.d (.sc (.bool false))))⟩])
 (.seq
 (.seq
 (.ops false [] [
 ⟨(some 7),none,.ld (some 2) (.t 3)⟩,
 ⟨(some 8),none,.call (.fn 5) [(.t 7)]⟩])
 (.cond (.t 8)
 (.seq
 (.ops false [] [
 ⟨(some 9),none,.call (.fn 6) []⟩,
 ⟨(some 6),none,.mov (.t 9)⟩])
 .ret)
 .skip))
 (.seq
 (.ops true [0, 1, 0, 7, 15, 31, 63, 127, 63, 511, 1023, 2047, 4095, 8191, 8191, 8191, 65535, 8191, 8191, 8191, 1048575, 2097151, 4194303, 8388607, 16777215, 33554431, 16777215, 134217727, 268435455, 536870911, 1073741823, 2147483647, 4294967295, 8589934591] [
 ⟨(some 10),none,.ld (some 2) (.t 3)⟩,
 ⟨(some 11),none,.call (.fn 7) [(.t 10)]⟩,
 ⟨(some 12),none,.ld (some 2) (.t 3)⟩,
 ⟨(some 13),none,.call (.fn 8) [(.t 12)]⟩,
 ⟨(some 14),none,.bin .eql (.t 11) (.t 13)⟩,
 ⟨(some 15),none,.mov (.t 14)⟩,
 ⟨(some 16),(some ((some 15),true)),.ld (some 2) (.t 3)⟩,
 ⟨(some 17),(some ((some 15),true)),.call (.fn 10) [(.t 16)]⟩,
 ⟨(some 18),(some ((some 15),true)),.ld (some 2) (.t 3)⟩,
 ⟨(some 19),(some ((some 15),true)),.call (.fn 11) [(.t 18)]⟩,
 ⟨(some 20),(some ((some 15),true)),.call (.fn 9) [(.t 17), (.t 19)]⟩,
 ⟨(some 21),none,.pick (.t 15) (.t 20) (.c (.d (.sc (.bool false))))⟩,
 ⟨(some 22),none,.mov (.t 21)⟩,
 ⟨(some 23),(some ((some 22),true)),.ld (some 2) (.t 3)⟩,
 ⟨(some 24),(some ((some 22),true)),.mov (.t 1)⟩,
 ⟨(some 25),(some ((some 22),true)),.mov (.t 2)⟩,
 ⟨(some 26),(some ((some 22),true)),.call (.fn 12) [(.t 23), (.t 24), (.t 25)]⟩,
 ⟨(some 27),(some ((some 22),true)),.ld (some 2) (.t 3)⟩,
 ⟨(some 28),(some ((some 22),true)),.mov (.t 1)⟩,
 ⟨(some 29),(some ((some 22),true)),.mov (.t 2)⟩,
 ⟨(some 30),(some ((some 22),true)),.call (.fn 13) [(.t 27), (.t 28), (.t 29)]⟩,
 ⟨(some 31),(some ((some 22),true)),.eqa false [.b] false (.t 26) (.t 30)⟩,
 ⟨(some 32),none,.pick (.t 22) (.t 31) (.c (.d (.sc (.bool false))))⟩,
 ⟨(some 33),none,.mov (.t 32)⟩,
 ⟨(some 34),(some ((some 33),true)),.ld (some 2) (.t 3)⟩,
 ⟨(some 35),(some ((some 33),true)),.call (.fn 15) [(.t 34)]⟩,
 ⟨(some 36),(some ((some 33),true)),.ld (some 2) (.t 3)⟩,
 ⟨(some 37),(some ((some 33),true)),.call (.fn 16) [(.t 36)]⟩,
 ⟨(some 38),(some ((some 33),true)),.call (.fn 14) [(.t 35), (.t 37)]⟩,
 ⟨(some 39),none,.pick (.t 33) (.t 38) (.c (.d (.sc (.bool false))))⟩,
 ⟨(some 40),none,.mov (.t 39)⟩,
 ⟨(some 41),(some ((some 40),true)),.call (.fn 6) []⟩,
 ⟨(some 42),none,.pick (.t 40) (.t 41) (.c (.d (.sc (.bool false))))⟩,
 ⟨(some 6),none,.mov (.t 42)⟩])
 .ret))), [.tmp 6]⟩
theorem okb_LinegraphGraph : compFn Tryz.prog [] 3 = some k_LinegraphGraph := by kernel_rfl

def k_LinegraphComponents : CF := ⟨159,
 (.seq
 (.ops false [] [
 ⟨(some 1),none,.box (.t 0)⟩,
 ⟨(some 2),none,.mov (.c (.d (.sc (.bool false))))⟩])
 (.seq
 (.ops false [] [
 ⟨(some 14),none,.fad 0 (.t 1)⟩,
 ⟨(some 15),none,.ld none (.t 14)⟩,
 ⟨(some 16),none,.len 0 (.t 15)⟩,
 ⟨(some 3),none,.mov (.t 16)⟩])
 (.seq
 (.seq
 (.ops false [] [
 ⟨(some 17),none,.ld (some 2) (.t 1)⟩,
 ⟨(some 18),none,.call (.fn 5) [(.t 17)]⟩,
 ⟨(some 19),none,.mov (.t 18)⟩,
 ⟨(some 20),(some ((some 19),false)),.ld (some 2) (.t 1)⟩,
 ⟨(some 21),(some ((some 19),false)),.call (.fn 8) [(.t 20)]⟩,
 ⟨(some 22),(some ((some 19),false)),.bin .neq (.t 21) (.c (.d (.sc (.int .i64 0))))⟩,
 ⟨(some 23),none,.pick (.t 19) (.c (.d (.sc (.bool true)))) (.t 22)⟩])
 (.cond (.t 23)
 (.seq
 (.ops false [] [
 ⟨(some 24),none,.call (.fn 6) []⟩,
 ⟨(some 2),none,.mov (.t 24)⟩])
 .ret)
 .skip))
 (.seq
 (.ops false [] [
 ⟨(some 25),none,.ld (some 2) (.t 1)⟩,
 ⟨(some 26),none,.call (.fn 10) [(.t 25)]⟩,
 ⟨(some 4),none,.mov (.t 26)⟩])
 (.seq
 (.ops false [] [
 ⟨(some 27),none,.mov (.t 3)⟩,
 ⟨(some 28),none,.mks true 3 8 (.d (.sc (.int .i64 0))) (.t 27) (.t 27)⟩,
 ⟨(some 5),none,.mov (.t 28)⟩])
 (.seq
 (.ops false [] [
 ⟨(some 6),none,.mov (.c (.d (.sc (.int .i64 0))))⟩])
 (.seq
 (.ops false [] [
 ⟨(some 29),none,.ld (some 2) (.t 1)⟩,
 ⟨(some 30),none,.call (.fn 15) [(.t 29)]⟩,
 ⟨(some 7),none,.mov (.t 30)⟩])
 (.seq
 (.seq
 (.ops false [] [
 ⟨(some 31),none,.mov (.t 7)⟩,
 ⟨(some 32),none,.len 0 (.t 31)⟩,
 ⟨(some 33),none,.mov (.c (.d (.sc (.int .i64 0))))⟩])
 (.block 0
 (.loop
 (.seq
 (.ops false [] [
 ⟨(some 34),none,.bin .lss (.t 33) (.t 32)⟩])
 (.seq
 (.cond (.t 34)
 .skip
 (.exit 0))
 (.seq
 (.block 1
 (.seq
 (.ops false [] [
 ⟨(some 35),none,.mov (.t 33)⟩,
 ⟨(some 36),none,.iad 1 (.t 31) (.t 33)⟩,
 ⟨(some 37),none,.ld none (.t 36)⟩,
 ⟨(some 8),none,.mov (.t 35)⟩,
 ⟨(some 9),none,.mov (.t 37)⟩])
 (.seq
 (.seq
 (.ops true [0, 1, 3, 7, 15, 31, 63, 127, 127, 383, 1023, 2047, 4095, 8191, 127, 16511, 49279, 131071, 262143, 524287] [
 ⟨(some 38),none,.mov (.t 9)⟩,
 ⟨(some 39),none,.len 0 (.t 38)⟩,
 ⟨(some 40),none,.bin .eql (.t 39) (.c (.d (.sc (.int .i64 0))))⟩,
 ⟨(some 41),none,.mov (.t 40)⟩,
 ⟨(some 42),(some ((some 41),false)),.mov (.t 8)⟩,
 ⟨(some 43),(some ((some 41),false)),.bin .gtr (.t 42) (.c (.d (.sc (.int .i64 0))))⟩,
 ⟨(some 44),(some ((some 41),false)),.mov (.t 43)⟩,
 ⟨(some 45),(some ((some 44),true)),.mov (.t 7)⟩,
 ⟨(some 46),(some ((some 44),true)),.mov (.t 8)⟩,
 ⟨(some 47),(some ((some 44),true)),.bin .sub (.t 46) (.c (.d (.sc (.int .i64 1))))⟩,
 ⟨(some 48),(some ((some 44),true)),.iad 1 (.t 45) (.t 47)⟩,
 ⟨(some 49),(some ((some 44),true)),.ld none (.t 48)⟩,
 ⟨(some 50),(some ((some 44),true)),.iad 1 (.t 49) (.c (.d (.sc (.int .i64 0))))⟩,
 ⟨(some 51),(some ((some 44),true)),.ld none (.t 50)⟩,
 ⟨(some 52),(some ((some 44),true)),.mov (.t 9)⟩,
 ⟨(some 53),(some ((some 44),true)),.iad 1 (.t 52) (.c (.d (.sc (.int .i64 0))))⟩,
 ⟨(some 54),(some ((some 44),true)),.ld none (.t 53)⟩,
 ⟨(some 55),(some ((some 44),true)),.bin .geq (.t 51) (.t 54)⟩,
 ⟨(some 56),(some ((some 41),false)),.pick (.t 44) (.t 55) (.c (.d (.sc (.bool false))))⟩,
 ⟨(some 57),none,.pick (.t 41) (.c (.d (.sc (.bool true)))) (.t 56)⟩])
 (.cond (.t 57)
 (.seq
 (.ops false [] [
 ⟨(some 2),none,.mov (.c (.d (.sc (.bool false))))⟩])
 .ret)
 .skip))
 (.seq
 (.ops false [] [
 ⟨(some 58),none,.mov (.t 9)⟩,
 ⟨(some 59),none,.len 0 (.t 58)⟩,
 ⟨(some 60),none,.mov (.c (.d (.sc (.int .i64 0))))⟩])
 (.block 2
 (.loop
 (.seq
 (.ops false [] [
 ⟨(some 61),none,.bin .lss (.t 60) (.t 59)⟩])
 (.seq
 (.cond (.t 61)
 .skip
 (.exit 2))
 (.seq
 (.block 3
 (.seq
 (.ops false [] [
 ⟨(some 62),none,.mov (.t 60)⟩,
 ⟨(some 63),none,.iad 1 (.t 58) (.t 60)⟩,
 ⟨(some 64),none,.ld none (.t 63)⟩,
 ⟨(some 10),none,.mov (.t 62)⟩,
 ⟨(some 11),none,.mov (.t 64)⟩])
 (.seq
 (.seq
 (.ops false [] [
 ⟨(some 65),none,.mov (.t 11)⟩,
 ⟨(some 66),none,.bin .lss (.t 65) (.c (.d (.sc (.int .i64 0))))⟩,
 ⟨(some 67),none,.mov (.t 66)⟩,
 ⟨(some 68),(some ((some 67),false)),.mov (.t 11)⟩,
 ⟨(some 69),(some ((some 67),false)),.mov (.t 3)⟩,
 ⟨(some 70),(some ((some 67),false)),.bin .geq (.t 68) (.t 69)⟩,
 ⟨(some 71),none,.pick (.t 67) (.c (.d (.sc (.bool true)))) (.t 70)⟩,
 ⟨(some 72),none,.mov (.t 71)⟩,
 ⟨(some 73),(some ((some 72),false)),.mov (.t 5)⟩,
 ⟨(some 74),(some ((some 72),false)),.mov (.t 11)⟩,
 ⟨(some 75),(some ((some 72),false)),.iad 1 (.t 73) (.t 74)⟩,
 ⟨(some 76),(some ((some 72),false)),.ld none (.t 75)⟩,
 ⟨(some 77),(some ((some 72),false)),.bin .neq (.t 76) (.c (.d (.sc (.int .i64 0))))⟩,
 ⟨(some 78),none,.pick (.t 72) (.c (.d (.sc (.bool true)))) (.t 77)⟩,
 ⟨(some 79),none,.mov (.t 78)⟩,
 ⟨(some 80),(some ((some 79),false)),.mov (.t 10)⟩,
 ⟨(some 81),(some ((some 79),false)),.bin .gtr (.t 80) (.c (.d (.sc (.int .i64 0))))⟩,
 ⟨(some 82),(some ((some 79),false)),.mov (.t 81)⟩,
 ⟨(some 83),(some ((some 82),true)),.mov (.t 9)⟩,
 ⟨(some 84),(some ((some 82),true)),.mov (.t 10)⟩,
 ⟨(some 85),(some ((some 82),true)),.bin .sub (.t 84) (.c (.d (.sc (.int .i64 1))))⟩,
 ⟨(some 86),(some ((some 82),true)),.iad 1 (.t 83) (.t 85)⟩,
 ⟨(some 87),(some ((some 82),true)),.ld none (.t 86)⟩,
 ⟨(some 88),(some ((some 82),true)),.mov (.t 11)⟩,
 ⟨(some 89),(some ((some 82),true)),.bin .geq (.t 87) (.t 88)⟩,
 ⟨(some 90),(some ((some 79),false)),.pick (.t 82) (.t 89) (.c (.d (.sc (.bool false))))⟩,
 ⟨(some 91),none,.pick (.t 79) (.c (.d (.sc (.bool true)))) (.t 90)⟩])
 (.cond (.t 91)
 (.seq
 (.ops false [] [
 ⟨(some 2),none,.mov (.c (.d (.sc (.bool false))))⟩])
 .ret)
 .skip))
 (.seq
 (.ops false [] [
 ⟨(some 92),none,.mov (.t 5)⟩,
 ⟨(some 93),none,.mov (.t 11)⟩,
 ⟨(some 94),none,.mov (.t 8)⟩,
 ⟨(some 95),none,.bin .add (.t 94) (.c (.d (.sc (.int .i64 1))))⟩,
 ⟨(some 96),none,.iad 1 (.t 92) (.t 93)⟩,
 ⟨none,none,.st 1 (.t 96) (.t 95)⟩])
 (.ops false [] [
 ⟨(some 97),none,.mov (.t 6)⟩,
 ⟨(some 98),none,.bin .add (.t 97) (.c (.d (.sc (.int .i64 1))))⟩,
 ⟨(some 6),none,.mov (.t 98)⟩])))))
 (.ops false [] [
 ⟨(some 99),none,.bin .add (.t 60) (.c (.d (.sc (.int .i64 1))))⟩,
 ⟨(some 60),none,.mov (.t 99)⟩]))))))))))
 (.ops false [] [
 ⟨(some 100),none,.bin .add (.t 33) (.c (.d (.sc (.int .i64 1))))⟩,
 ⟨(some 33),none,.mov (.t 100)⟩])))))))
 (.seq
 (.seq
 (.ops false [] [
 ⟨(some 101),none,.mov (.t 6)⟩,
 ⟨(some 102),none,.mov (.t 3)⟩,
 ⟨(some 103),none,.bin .neq (.t 101) (.t 102)⟩,
 ⟨(some 104),none,.mov (.t 103)⟩,
 ⟨(some 105),(some ((some 104),false)),.mov (.t 4)⟩,
 ⟨(some 106),(some ((some 104),false)),.len 0 (.t 105)⟩,
 ⟨(some 107),(some ((some 104),false)),.mov (.t 3)⟩,
 ⟨(some 108),(some ((some 104),false)),.bin .neq (.t 106) (.t 107)⟩,
 ⟨(some 109),none,.pick (.t 104) (.c (.d (.sc (.bool true)))) (.t 108)⟩])
 (.cond (.t 109)
 (.seq
 (.ops false [] [
 ⟨(some 2),none,.mov (.c (.d (.sc (.bool false))))⟩])
 .ret)
 .skip))
 (.seq
 (.seq
 (.ops false [] [
 ⟨(some 110),none,.mov (.t 3)⟩,
 ⟨(some 111),none,.mov (.c (.d (.sc (.int .i64 0))))⟩])
 (.block 4
 (.loop
 (.seq
 (.ops false [] [
 ⟨(some 112),none,.bin .lss (.t 111) (.t 110)⟩])
 (.seq
 (.cond (.t 112)
 .skip
 (.exit 4))
 (.seq
 (.block 5
 (.seq
 (.ops false [] [
 ⟨(some 113),none,.mov (.t 111)⟩,
 ⟨(some 12),none,.mov (.t 113)⟩])
 (.seq
 (.seq
 (.ops false [] [
 ⟨(some 114),none,.mov (.t 4)⟩,
 ⟨(some 115),none,.mov (.t 12)⟩,
 ⟨(some 116),none,.iad 1 (.t 114) (.t 115)⟩,
 ⟨(some 117),none,.ld none (.t 116)⟩,
 ⟨(some 118),none,.len 0 (.t 117)⟩,
 ⟨(some 119),none,.mov (.t 3)⟩,
 ⟨(some 120),none,.bin .neq (.t 118) (.t 119)⟩])
 (.cond (.t 120)
 (.seq
 (.ops false [] [
 ⟨(some 2),none,.mov (.c (.d (.sc (.bool false))))⟩])
 .ret)
 .skip))
 (.seq
 (.ops false [] [
 ⟨(some 121),none,.mov (.t 3)⟩,
 ⟨(some 122),none,.mov (.c (.d (.sc (.int .i64 0))))⟩])
 (.block 6
 (.loop
 (.seq
 (.ops false [] [
 ⟨(some 123),none,.bin .lss (.t 122) (.t 121)⟩])
 (.seq
 (.cond (.t 123)
 .skip
 (.exit 6))
 (.seq
 (.block 7
 (.seq
 (.ops false [] [
 ⟨(some 124),none,.mov (.t 122)⟩,
 ⟨(some 13),none,.mov (.t 124)⟩])
 (.seq
 (.ops true [0, 0, 3, 7, 0, 0, 48, 112, 255, 0, 0, 1536, 3584, 7680, 7680, 32256, 65024, 7680, 261632, 523776, 1048064, 2096640, 2096640, 8388096, 16776704, 2096640, 67108352, 134217216, 268434944, 536870400, 1073741823] [
 ⟨(some 125),none,.mov (.t 5)⟩,
 ⟨(some 126),none,.mov (.t 12)⟩,
 ⟨(some 127),none,.iad 1 (.t 125) (.t 126)⟩,
 ⟨(some 128),none,.ld none (.t 127)⟩,
 ⟨(some 129),none,.mov (.t 5)⟩,
 ⟨(some 130),none,.mov (.t 13)⟩,
 ⟨(some 131),none,.iad 1 (.t 129) (.t 130)⟩,
 ⟨(some 132),none,.ld none (.t 131)⟩,
 ⟨(some 133),none,.bin .eql (.t 128) (.t 132)⟩,
 ⟨(some 134),none,.mov (.t 12)⟩,
 ⟨(some 135),none,.mov (.t 13)⟩,
 ⟨(some 136),none,.bin .eql (.t 134) (.t 135)⟩,
 ⟨(some 137),none,.mov (.t 136)⟩,
 ⟨(some 138),(some ((some 137),false)),.mov (.t 4)⟩,
 ⟨(some 139),(some ((some 137),false)),.mov (.t 12)⟩,
 ⟨(some 140),(some ((some 137),false)),.iad 1 (.t 138) (.t 139)⟩,
 ⟨(some 141),(some ((some 137),false)),.ld none (.t 140)⟩,
 ⟨(some 142),(some ((some 137),false)),.mov (.t 13)⟩,
 ⟨(some 143),(some ((some 137),false)),.iad 1 (.t 141) (.t 142)⟩,
 ⟨(some 144),(some ((some 137),false)),.ld none (.t 143)⟩,
 ⟨(some 145),(some ((some 137),false)),.mov (.t 144)⟩,
 ⟨(some 146),(some ((some 145),true)),.mov (.t 4)⟩,
 ⟨(some 147),(some ((some 145),true)),.mov (.t 13)⟩,
 ⟨(some 148),(some ((some 145),true)),.iad 1 (.t 146) (.t 147)⟩,
 ⟨(some 149),(some ((some 145),true)),.ld none (.t 148)⟩,
 ⟨(some 150),(some ((some 145),true)),.mov (.t 12)⟩,
 ⟨(some 151),(some ((some 145),true)),.iad 1 (.t 149) (.t 150)⟩,
 ⟨(some 152),(some ((some 145),true)),.ld none (.t 151)⟩,
 ⟨(some 153),(some ((some 137),false)),.pick (.t 145) (.t 152) (.c (.d (.sc (.bool false))))⟩,
 ⟨(some 154),none,.pick (.t 137) (.c (.d (.sc (.bool true)))) (.t 153)⟩,
 ⟨(some 155),none,.eqa false [.b] true (.t 133) (.t 154)⟩])
 (.cond (.t 155)
 (.seq
 (.ops false [] [
 ⟨(some 2),none,.mov (.c (.d (.sc (.bool false))))⟩])
 .ret)
 .skip))))
 (.ops false [] [
 ⟨(some 156),none,.bin .add (.t 122) (.c (.d (.sc (.int .i64 1))))⟩,
 ⟨(some 122),none,.mov (.t 156)⟩]))))))))))
 (.ops false [] [
 ⟨(some 157),none,.bin .add (.t 111) (.c (.d (.sc (.int .i64 1))))⟩,
 ⟨(some 111),none,.mov (.t 157)⟩])))))))
 (.seq
 (.ops false [] [
 ⟨(some 158),none,.call (.fn 6) []⟩,
 ⟨(some 2),none,.mov (.t 158)⟩])
 .ret))))))))))), [.tmp 2]⟩
theorem okb_LinegraphComponents : compFn Tryz.prog [28] 4 = some k_LinegraphComponents := by kernel_rfl

def k_Great : CF := ⟨29,
 (.seq
 (.ops false [] [
 ⟨(some 1),none,.box (.t 0)⟩,
 ⟨(some 2),none,.mov (.c (.d (.sc (.bool false))))⟩])
 (.seq
 (.seq
 (.ops false [] [
 ⟨(some 3),none,.mov (.c (.d (.sc (.int .i64 0))))⟩])
 (.block 0
 (.loop
 (.seq
 (.seq
 (.ops false [] [
 ⟨(some 4),none,.mov (.t 3)⟩,
 ⟨(some 5),none,.fad 0 (.t 1)⟩,
 ⟨(some 6),none,.ld none (.t 5)⟩,
 ⟨(some 7),none,.len 0 (.t 6)⟩,
 ⟨(some 8),none,.bin .lss (.t 4) (.t 7)⟩])
 (.cond (.t 8)
 .skip
 (.exit 0)))
 (.seq
 (.block 1
 (.seq
 (.ops false [] [
 ⟨(some 11),none,.fad 0 (.t 1)⟩,
 ⟨(some 12),none,.ld none (.t 11)⟩,
 ⟨(some 13),none,.mov (.t 3)⟩,
 ⟨(some 14),none,.iad 35 (.t 12) (.t 13)⟩,
 ⟨(some 15),none,.fad 33 (.t 14)⟩,
 ⟨(some 16),none,.ld none (.t 15)⟩,
 ⟨(some 17),none,.len 1 (.t 16)⟩,
 ⟨(some 18),none,.bin .gtr (.t 17) (.c (.d (.sc (.int .i64 40))))⟩])
 (.cond (.t 18)
 (.seq
 (.ops false [] [
 ⟨(some 2),none,.mov (.c (.d (.sc (.bool true))))⟩])
 .ret)
 .skip)))
 (.ops false [] [
 ⟨(some 9),none,.mov (.t 3)⟩,
 ⟨(some 10),none,.bin .add (.t 9) (.c (.d (.sc (.int .i64 1))))⟩,
 ⟨(some 3),none,.mov (.t 10)⟩]))))))
 (.seq
 (.ops false [] [
 ⟨(some 19),none,.fad 0 (.t 1)⟩,
 ⟨(some 20),none,.ld none (.t 19)⟩,
 ⟨(some 21),none,.len 0 (.t 20)⟩,
 ⟨(some 22),none,.bin .gtr (.t 21) (.c (.d (.sc (.int .i64 16))))⟩,
 ⟨(some 23),none,.mov (.t 22)⟩,
 ⟨(some 24),(some ((some 23),false)),.fad 1 (.t 1)⟩,
 ⟨(some 25),(some ((some 23),false)),.ld none (.t 24)⟩,
 ⟨(some 26),(some ((some 23),false)),.len 0 (.t 25)⟩,
 ⟨(some 27),(some ((some 23),false)),.bin .gtr (.t 26) (.c (.d (.sc (.int .i64 60))))⟩,
 ⟨(some 28),none,.pick (.t 23) (.c (.d (.sc (.bool true)))) (.t 27)⟩,
 ⟨(some 2),none,.mov (.t 28)⟩])
 .ret))), [.tmp 2]⟩
theorem okb_Great : compFn Tryz.prog [] 5 = some k_Great := by kernel_rfl

def k_linComponents : CF := ⟨63,
 (.seq
 (.ops false [] [
 ⟨(some 1),none,.box (.t 0)⟩,
 ⟨(some 2),none,.mov (.c (.nil 1))⟩])
 (.seq
 (.ops false [] [
 ⟨(some 9),none,.ld (some 2) (.t 1)⟩,
 ⟨(some 10),none,.call (.fn 10) [(.t 9)]⟩,
 ⟨(some 3),none,.mov (.t 10)⟩])
 (.seq
 (.ops false [] [
 ⟨(some 11),none,.mov (.t 3)⟩,
 ⟨(some 12),none,.len 0 (.t 11)⟩,
 ⟨(some 13),none,.mks true 4 1 (.d (.sc (.bool false))) (.t 12) (.t 12)⟩,
 ⟨(some 4),none,.mov (.t 13)⟩])
 (.seq
 (.ops false [] [
 ⟨(some 5),none,.mov (.c (.nil 1))⟩])
 (.seq
 (.seq
 (.ops false [] [
 ⟨(some 14),none,.mov (.t 3)⟩,
 ⟨(some 15),none,.len 0 (.t 14)⟩,
 ⟨(some 16),none,.mov (.c (.d (.sc (.int .i64 0))))⟩])
 (.block 0
 (.loop
 (.seq
 (.ops false [] [
 ⟨(some 17),none,.bin .lss (.t 16) (.t 15)⟩])
 (.seq
 (.cond (.t 17)
 .skip
 (.exit 0))
 (.seq
 (.block 1
 (.seq
 (.ops false [] [
 ⟨(some 18),none,.mov (.t 16)⟩,
 ⟨(some 6),none,.mov (.t 18)⟩])
 (.seq
 (.seq
 (.ops false [] [
 ⟨(some 19),none,.mov (.t 4)⟩,
 ⟨(some 20),none,.mov (.t 6)⟩,
 ⟨(some 21),none,.iad 1 (.t 19) (.t 20)⟩,
 ⟨(some 22),none,.ld none (.t 21)⟩])
 (.cond (.t 22)
 (.exit 1)
 .skip))
 (.seq
 (.ops false [] [
 ⟨(some 7),none,.mov (.c (.nil 1))⟩])
 (.seq
 (.seq
 (.ops false [] [
 ⟨(some 23),none,.mov (.t 3)⟩,
 ⟨(some 24),none,.len 0 (.t 23)⟩,
 ⟨(some 25),none,.mov (.c (.d (.sc (.int .i64 0))))⟩])
 (.block 2
 (.loop
 (.seq
 (.ops false [] [
 ⟨(some 26),none,.bin .lss (.t 25) (.t 24)⟩])
 (.seq
 (.cond (.t 26)
 .skip
 (.exit 2))
 (.seq
 (.block 3
 (.seq
 (.ops false [] [
 ⟨(some 27),none,.mov (.t 25)⟩,
 ⟨(some 8),none,.mov (.t 27)⟩])
 (.seq
 (.ops false [] [
 ⟨(some 28),none,.mov (.t 8)⟩,
 ⟨(some 29),none,.mov (.t 6)⟩,
 ⟨(some 30),none,.bin .eql (.t 28) (.t 29)⟩,
 ⟨(some 31),none,.mov (.t 30)⟩,
 ⟨(some 32),(some ((some 31),false)),.mov (.t 3)⟩,
 ⟨(some 33),(some ((some 31),false)),.mov (.t 6)⟩,
 ⟨(some 34),(some ((some 31),false)),.iad 1 (.t 32) (.t 33)⟩,
 ⟨(some 35),(some ((some 31),false)),.ld none (.t 34)⟩,
 ⟨(some 36),(some ((some 31),false)),.mov (.t 8)⟩,
 ⟨(some 37),(some ((some 31),false)),.iad 1 (.t 35) (.t 36)⟩,
 ⟨(some 38),(some ((some 31),false)),.ld none (.t 37)⟩,
 ⟨(some 39),(some ((some 31),false)),.mov (.t 38)⟩,
 ⟨(some 40),(some ((some 39),true)),.mov (.t 3)⟩,
 ⟨(some 41),(some ((some 39),true)),.mov (.t 8)⟩,
 ⟨(some 42),(some ((some 39),true)),.iad 1 (.t 40) (.t 41)⟩,
 ⟨(some 43),(some ((some 39),true)),.ld none (.t 42)⟩,
 ⟨(some 44),(some ((some 39),true)),.mov (.t 6)⟩,
 ⟨(some 45),(some ((some 39),true)),.iad 1 (.t 43) (.t 44)⟩,
 ⟨(some 46),(some ((some 39),true)),.ld none (.t 45)⟩,
 ⟨(some 47),(some ((some 31),false)),.pick (.t 39) (.t 46) (.c (.d (.sc (.bool false))))⟩,
 ⟨(some 48),none,.pick (.t 31) (.c (.d (.sc (.bool true)))) (.t 47)⟩])
 (.cond (.t 48)
 (.seq
 (.ops false [] [
 ⟨(some 49),none,.mov (.t 4)⟩,
 ⟨(some 50),none,.mov (.t 8)⟩,
 ⟨(some 51),none,.iad 1 (.t 49) (.t 50)⟩,
 ⟨none,none,.st 1 (.t 51) (.c (.d (.sc (.bool true))))⟩])
 (.ops false [] [
 ⟨(some 52),none,.mov (.t 7)⟩,
 ⟨(some 53),none,.mov (.t 8)⟩,
 ⟨(some 54),none,.bsl false 3 1 1 [(.d (.sc (.int .i64 0)))] [(0, 1, (.t 53))]⟩,
 ⟨(some 55),none,.app false 3 1 8 (.t 52) (.t 54)⟩,
 ⟨(some 7),none,.mov (.t 55)⟩]))
 .skip))))
 (.ops false [] [
 ⟨(some 56),none,.bin .add (.t 25) (.c (.d (.sc (.int .i64 1))))⟩,
 ⟨(some 25),none,.mov (.t 56)⟩])))))))
 (.ops false [] [
 ⟨(some 57),none,.mov (.t 5)⟩,
 ⟨(some 58),none,.mov (.t 7)⟩,
 ⟨(some 59),none,.bsl false 37 1 1 [(.nil 1)] [(0, 1, (.t 58))]⟩,
 ⟨(some 60),none,.app false 37 1 24 (.t 57) (.t 59)⟩,
 ⟨(some 5),none,.mov (.t 60)⟩]))))))
 (.ops false [] [
 ⟨(some 61),none,.bin .add (.t 16) (.c (.d (.sc (.int .i64 1))))⟩,
 ⟨(some 16),none,.mov (.t 61)⟩])))))))
 (.seq
 (.ops false [] [
 ⟨(some 62),none,.mov (.t 5)⟩,
 ⟨(some 2),none,.mov (.t 62)⟩])
 .ret)))))), [.tmp 2]⟩
theorem okb_linComponents : compFn Tryz.prog [13] 15 = some k_linComponents := by kernel_rfl

def k_refAhead : CF := ⟨44,
 (.seq
 (.ops false [] [
 ⟨(some 6),none,.mov (.c (.d (.sc (.bool false))))⟩])
 (.seq
 (.ops false [] [
 ⟨(some 7),none,.mov (.t 1)⟩,
 ⟨(some 8),none,.bin .geq (.t 7) (.c (.d (.sc (.int .i64 0))))⟩,
 ⟨(some 9),none,.mov (.t 8)⟩,
 ⟨(some 10),(some ((some 9),true)),.mov (.t 1)⟩,
 ⟨(some 11),(some ((some 9),true)),.mov (.t 0)⟩,
 ⟨(some 12),(some ((some 9),true)),.len 0 (.t 11)⟩,
 ⟨(some 13),(some ((some 9),true)),.bin .lss (.t 10) (.t 12)⟩,
 ⟨(some 14),none,.pick (.t 9) (.t 13) (.c (.d (.sc (.bool false))))⟩,
 ⟨(some 15),none,.mov (.t 14)⟩,
 ⟨(some 16),(some ((some 15),true)),.mov (.t 2)⟩,
 ⟨(some 17),(some ((some 15),true)),.bin .geq (.t 16) (.c (.d (.sc (.int .i64 0))))⟩,
 ⟨(some 18),none,.pick (.t 15) (.t 17) (.c (.d (.sc (.bool false))))⟩,
 ⟨(some 19),none,.mov (.t 18)⟩,
 ⟨(some 20),(some ((some 19),true)),.mov (.t 2)⟩,
 ⟨(some 21),(some ((some 19),true)),.mov (.t 0)⟩,
 ⟨(some 22),(some ((some 19),true)),.len 0 (.t 21)⟩,
 ⟨(some 23),(some ((some 19),true)),.bin .lss (.t 20) (.t 22)⟩,
 ⟨(some 24),none,.pick (.t 19) (.t 23) (.c (.d (.sc (.bool false))))⟩,
 ⟨(some 25),none,.mov (.t 24)⟩,
 ⟨(some 26),(some ((some 25),true)),.mov (.t 0)⟩,
 ⟨(some 27),(some ((some 25),true)),.mov (.t 1)⟩,
 ⟨(some 28),(some ((some 25),true)),.iad 1 (.t 26) (.t 27)⟩,
 ⟨(some 29),(some ((some 25),true)),.ld none (.t 28)⟩,
 ⟨(some 30),(some ((some 25),true)),.mov (.t 2)⟩,
 ⟨(some 31),(some ((some 25),true)),.iad 1 (.t 29) (.t 30)⟩,
 ⟨(some 32),(some ((some 25),true)),.ld none (.t 31)⟩,
 ⟨(some 33),none,.pick (.t 25) (.t 32) (.c (.d (.sc (.bool false))))⟩,
 ⟨(some 34),none,.mov (.t 33)⟩,
 ⟨(some 35),(some ((some 34),true)),.mov (.t 0)⟩,
 ⟨(some 36),(some ((some 34),true)),.mov (.t 2)⟩,
 ⟨(some 37),(some ((some 34),true)),.iad 1 (.t 35) (.t 36)⟩,
 ⟨(some 38),(some ((some 34),true)),.ld none (.t 37)⟩,
 ⟨(some 39),(some ((some 34),true)),.mov (.t 1)⟩,
 ⟨(some 40),(some ((some 34),true)),.iad 1 (.t 38) (.t 39)⟩,
 ⟨(some 41),(some ((some 34),true)),.ld none (.t 40)⟩,
 ⟨(some 42),(some ((some 34),true)),.not (.t 41)⟩,
 ⟨(some 43),none,.pick (.t 34) (.t 42) (.c (.d (.sc (.bool false))))⟩,
 ⟨(some 6),none,.mov (.t 43)⟩])
 .ret)), [.tmp 6]⟩
theorem okb_refAhead : compFn Tryz.prog [] 31 = some k_refAhead := by kernel_rfl

def k_refBefore21 : CF := ⟨12,
 (.seq
 (.ops false [] [
 ⟨(some 3),none,.box (.t 0)⟩,
 ⟨(some 6),none,.mov (.c (.d (.sc (.bool false))))⟩])
 (.seq
 (.ops false [] [
 ⟨(some 7),none,.ld (some 2) (.t 3)⟩,
 ⟨(some 8),none,.call (.fn 11) [(.t 7)]⟩,
 ⟨(some 9),none,.mov (.t 1)⟩,
 ⟨(some 10),none,.mov (.t 2)⟩,
 ⟨(some 11),none,.call (.fn 31) [(.t 8), (.t 9), (.t 10)]⟩,
 ⟨(some 6),none,.mov (.t 11)⟩])
 .ret)), [.tmp 6]⟩
theorem okb_refBefore21 : compFn Tryz.prog [] 13 = some k_refBefore21 := by kernel_rfl

def k_refComponents21 : CF := ⟨62,
 (.seq
 (.ops false [] [
 ⟨(some 1),none,.box (.t 0)⟩,
 ⟨(some 2),none,.mov (.c (.nil 1))⟩])
 (.seq
 (.ops false [] [
 ⟨(some 9),none,.ld (some 2) (.t 1)⟩,
 ⟨(some 10),none,.call (.fn 11) [(.t 9)]⟩,
 ⟨(some 3),none,.mov (.t 10)⟩])
 (.seq
 (.ops false [] [
 ⟨(some 11),none,.bsl false 37 1 0 [] []⟩,
 ⟨(some 4),none,.mov (.t 11)⟩])
 (.seq
 (.seq
 (.ops false [] [
 ⟨(some 5),none,.mov (.c (.d (.sc (.int .i64 0))))⟩])
 (.block 0
 (.loop
 (.seq
 (.seq
 (.ops false [] [
 ⟨(some 12),none,.mov (.t 5)⟩,
 ⟨(some 13),none,.mov (.t 3)⟩,
 ⟨(some 14),none,.len 0 (.t 13)⟩,
 ⟨(some 15),none,.bin .lss (.t 12) (.t 14)⟩])
 (.cond (.t 15)
 .skip
 (.exit 0)))
 (.seq
 (.block 1
 (.seq
 (.ops false [] [
 ⟨(some 18),none,.bsl false 3 1 0 [] []⟩,
 ⟨(some 6),none,.mov (.t 18)⟩])
 (.seq
 (.ops false [] [
 ⟨(some 7),none,.mov (.c (.d (.sc (.bool true))))⟩])
 (.seq
 (.seq
 (.ops false [] [
 ⟨(some 8),none,.mov (.c (.d (.sc (.int .i64 0))))⟩])
 (.block 2
 (.loop
 (.seq
 (.seq
 (.ops false [] [
 ⟨(some 19),none,.mov (.t 8)⟩,
 ⟨(some 20),none,.mov (.t 3)⟩,
 ⟨(some 21),none,.len 0 (.t 20)⟩,
 ⟨(some 22),none,.bin .lss (.t 19) (.t 21)⟩])
 (.cond (.t 22)
 .skip
 (.exit 2)))
 (.seq
 (.block 3
 (.seq
 (.ops false [] [
 ⟨(some 25),none,.mov (.t 8)⟩,
 ⟨(some 26),none,.mov (.t 5)⟩,
 ⟨(some 27),none,.bin .eql (.t 25) (.t 26)⟩,
 ⟨(some 28),none,.mov (.t 27)⟩,
 ⟨(some 29),(some ((some 28),false)),.mov (.t 3)⟩,
 ⟨(some 30),(some ((some 28),false)),.mov (.t 5)⟩,
 ⟨(some 31),(some ((some 28),false)),.iad 1 (.t 29) (.t 30)⟩,
 ⟨(some 32),(some ((some 28),false)),.ld none (.t 31)⟩,
 ⟨(some 33),(some ((some 28),false)),.mov (.t 8)⟩,
 ⟨(some 34),(some ((some 28),false)),.iad 1 (.t 32) (.t 33)⟩,
 ⟨(some 35),(some ((some 28),false)),.ld none (.t 34)⟩,
 ⟨(some 36),(some ((some 28),false)),.mov (.t 35)⟩,
 ⟨(some 37),(some ((some 36),true)),.mov (.t 3)⟩,
 ⟨(some 38),(some ((some 36),true)),.mov (.t 8)⟩,
 ⟨(some 39),(some ((some 36),true)),.iad 1 (.t 37) (.t 38)⟩,
 ⟨(some 40),(some ((some 36),true)),.ld none (.t 39)⟩,
 ⟨(some 41),(some ((some 36),true)),.mov (.t 5)⟩,
 ⟨(some 42),(some ((some 36),true)),.iad 1 (.t 40) (.t 41)⟩,
 ⟨(some 43),(some ((some 36),true)),.ld none (.t 42)⟩,
 ⟨(some 44),(some ((some 28),false)),.pick (.t 36) (.t 43) (.c (.d (.sc (.bool false))))⟩,
 ⟨(some 45),none,.pick (.t 28) (.c (.d (.sc (.bool true)))) (.t 44)⟩])
 (.cond (.t 45)
 (.seq
 (.ops false [] [
 ⟨(some 46),none,.mov (.t 6)⟩,
 ⟨(some 47),none,.mov (.t 8)⟩,
 ⟨(some 48),none,.bsl false 3 1 1 [(.d (.sc (.int .i64 0)))] [(0, 1, (.t 47))]⟩,
 ⟨(some 49),none,.app false 3 1 8 (.t 46) (.t 48)⟩,
 ⟨(some 6),none,.mov (.t 49)⟩])
 (.ops false [] [
 ⟨(some 50),none,.mov (.t 7)⟩,
 ⟨(some 51),none,.mov (.t 50)⟩,
 ⟨(some 52),(some ((some 51),true)),.mov (.t 8)⟩,
 ⟨(some 53),(some ((some 51),true)),.mov (.t 5)⟩,
 ⟨(some 54),(some ((some 51),true)),.bin .geq (.t 52) (.t 53)⟩,
 ⟨(some 55),none,.pick (.t 51) (.t 54) (.c (.d (.sc (.bool false))))⟩,
 ⟨(some 7),none,.mov (.t 55)⟩]))
 .skip)))
 (.ops false [] [
 ⟨(some 23),none,.mov (.t 8)⟩,
 ⟨(some 24),none,.bin .add (.t 23) (.c (.d (.sc (.int .i64 1))))⟩,
 ⟨(some 8),none,.mov (.t 24)⟩]))))))
 (.seq
 (.ops false [] [
 ⟨(some 56),none,.mov (.t 7)⟩])
 (.cond (.t 56)
 (.ops false [] [
 ⟨(some 57),none,.mov (.t 4)⟩,
 ⟨(some 58),none,.mov (.t 6)⟩,
 ⟨(some 59),none,.bsl false 37 1 1 [(.nil 1)] [(0, 1, (.t 58))]⟩,
 ⟨(some 60),none,.app false 37 1 24 (.t 57) (.t 59)⟩,
 ⟨(some 4),none,.mov (.t 60)⟩])
 .skip))))))
 (.ops false [] [
 ⟨(some 16),none,.mov (.t 5)⟩,
 ⟨(some 17),none,.bin .add (.t 16) (.c (.d (.sc (.int .i64 1))))⟩,
 ⟨(some 5),none,.mov (.t 17)⟩]))))))
 (.seq
 (.ops false [] [
 ⟨(some 61),none,.mov (.t 4)⟩,
 ⟨(some 2),none,.mov (.t 61)⟩])
 .ret))))), [.tmp 2]⟩
theorem okb_refComponents21 : compFn Tryz.prog [] 16 = some k_refComponents21 := by kernel_rfl

def k_refReaches : CF := ⟨104,
 (.seq
 (.ops false [] [
 ⟨(some 1),none,.box (.t 0)⟩,
 ⟨(some 2),none,.mov (.c (.nil 1))⟩])
 (.seq
 (.ops false [] [
 ⟨(some 11),none,.bsl true 38 1 0 [] []⟩,
 ⟨(some 3),none,.mov (.t 11)⟩])
 (.seq
 (.seq
 (.ops false [] [
 ⟨(some 12),none,.ld (some 2) (.t 1)⟩,
 ⟨(some 13),none,.call (.fn 8) [(.t 12)]⟩,
 ⟨(some 14),none,.bin .neq (.t 13) (.c (.d (.sc (.int .i64 0))))⟩])
 (.cond (.t 14)
 (.seq
 (.ops false [] [
 ⟨(some 15),none,.mov (.t 3)⟩,
 ⟨(some 2),none,.mov (.t 15)⟩])
 .ret)
 .skip))
 (.seq
 (.ops false [] [
 ⟨(some 16),none,.fad 0 (.t 1)⟩,
 ⟨(some 17),none,.ld none (.t 16)⟩,
 ⟨(some 18),none,.len 0 (.t 17)⟩,
 ⟨(some 4),none,.mov (.t 18)⟩])
 (.seq
 (.seq
 (.ops false [] [
 ⟨(some 5),none,.mov (.c (.d (.sc (.int .i64 0))))⟩])
 (.block 0
 (.loop
 (.seq
 (.seq
 (.ops false [] [
 ⟨(some 19),none,.mov (.t 5)⟩,
 ⟨(some 20),none,.mov (.t 4)⟩,
 ⟨(some 21),none,.bin .lss (.t 19) (.t 20)⟩])
 (.cond (.t 21)
 .skip
 (.exit 0)))
 (.seq
 (.block 1
 (.ops false [] [
 ⟨(some 24),none,.mov (.t 3)⟩,
 ⟨(some 25),none,.mov (.t 4)⟩,
 ⟨(some 26),none,.mks true 4 1 (.d (.sc (.bool false))) (.t 25) (.t 25)⟩,
 ⟨(some 27),none,.bsl true 38 1 1 [(.nil 1)] [(0, 1, (.t 26))]⟩,
 ⟨(some 28),none,.app false 38 1 24 (.t 24) (.t 27)⟩,
 ⟨(some 3),none,.mov (.t 28)⟩]))
 (.ops false [] [
 ⟨(some 22),none,.mov (.t 5)⟩,
 ⟨(some 23),none,.bin .add (.t 22) (.c (.d (.sc (.int .i64 1))))⟩,
 ⟨(some 5),none,.mov (.t 23)⟩]))))))
 (.seq
 (.seq
 (.ops false [] [
 ⟨(some 6),none,.mov (.c (.d (.sc (.int .i64 0))))⟩])
 (.block 2
 (.loop
 (.seq
 (.seq
 (.ops false [] [
 ⟨(some 29),none,.mov (.t 6)⟩,
 ⟨(some 30),none,.fad 1 (.t 1)⟩,
 ⟨(some 31),none,.ld none (.t 30)⟩,
 ⟨(some 32),none,.len 0 (.t 31)⟩,
 ⟨(some 33),none,.bin .lss (.t 29) (.t 32)⟩])
 (.cond (.t 33)
 .skip
 (.exit 2)))
 (.seq
 (.block 3
 (.seq
 (.ops false [] [
 ⟨(some 36),none,.fad 1 (.t 1)⟩,
 ⟨(some 37),none,.ld none (.t 36)⟩,
 ⟨(some 38),none,.mov (.t 6)⟩,
 ⟨(some 39),none,.iad 2 (.t 37) (.t 38)⟩,
 ⟨(some 40),none,.ld (some 2) (.t 39)⟩,
 ⟨(some 7),none,.box (.c (.agg [(.d (.sc (.int .i64 0))), (.d (.sc (.int .i64 0)))]))⟩,
 ⟨none,none,.st 2 (.t 7) (.t 40)⟩])
 (.seq
 (.ops false [] [
 ⟨(some 41),none,.fad 0 (.t 7)⟩,
 ⟨(some 42),none,.ld none (.t 41)⟩,
 ⟨(some 43),none,.bin .geq (.t 42) (.c (.d (.sc (.int .i64 0))))⟩,
 ⟨(some 44),none,.mov (.t 43)⟩,
 ⟨(some 45),(some ((some 44),true)),.fad 1 (.t 7)⟩,
 ⟨(some 46),(some ((some 44),true)),.ld none (.t 45)⟩,
 ⟨(some 47),(some ((some 44),true)),.bin .geq (.t 46) (.c (.d (.sc (.int .i64 0))))⟩,
 ⟨(some 48),none,.pick (.t 44) (.t 47) (.c (.d (.sc (.bool false))))⟩])
 (.cond (.t 48)
 (.ops true [0, 0, 2, 7, 15, 0, 32, 127, 255] [
 ⟨(some 49),none,.mov (.t 3)⟩,
 ⟨(some 50),none,.fad 0 (.t 7)⟩,
 ⟨(some 51),none,.ld none (.t 50)⟩,
 ⟨(some 52),none,.iad 1 (.t 49) (.t 51)⟩,
 ⟨(some 53),none,.ld none (.t 52)⟩,
 ⟨(some 54),none,.fad 1 (.t 7)⟩,
 ⟨(some 55),none,.ld none (.t 54)⟩,
 ⟨(some 56),none,.iad 1 (.t 53) (.t 55)⟩,
 ⟨none,none,.st 1 (.t 56) (.c (.d (.sc (.bool true))))⟩])
 .skip))))
 (.ops false [] [
 ⟨(some 34),none,.mov (.t 6)⟩,
 ⟨(some 35),none,.bin .add (.t 34) (.c (.d (.sc (.int .i64 1))))⟩,
 ⟨(some 6),none,.mov (.t 35)⟩]))))))
 (.seq
 (.seq
 (.ops false [] [
 ⟨(some 8),none,.mov (.c (.d (.sc (.int .i64 0))))⟩])
 (.block 4
 (.loop
 (.seq
 (.seq
 (.ops false [] [
 ⟨(some 57),none,.mov (.t 8)⟩,
 ⟨(some 58),none,.mov (.t 4)⟩,
 ⟨(some 59),none,.bin .lss (.t 57) (.t 58)⟩])
 (.cond (.t 59)
 .skip
 (.exit 4)))
 (.seq
 (.block 5
 (.seq
 (.ops false [] [
 ⟨(some 9),none,.mov (.c (.d (.sc (.int .i64 0))))⟩])
 (.block 6
 (.loop
 (.seq
 (.seq
 (.ops false [] [
 ⟨(some 62),none,.mov (.t 9)⟩,
 ⟨(some 63),none,.mov (.t 4)⟩,
 ⟨(some 64),none,.bin .lss (.t 62) (.t 63)⟩])
 (.cond (.t 64)
 .skip
 (.exit 6)))
 (.seq
 (.block 7
 (.seq
 (.ops false [] [
 ⟨(some 10),none,.mov (.c (.d (.sc (.int .i64 0))))⟩])
 (.block 8
 (.loop
 (.seq
 (.seq
 (.ops false [] [
 ⟨(some 67),none,.mov (.t 10)⟩,
 ⟨(some 68),none,.mov (.t 4)⟩,
 ⟨(some 69),none,.bin .lss (.t 67) (.t 68)⟩])
 (.cond (.t 69)
 .skip
 (.exit 8)))
 (.seq
 (.block 9
 (.ops true [0, 0, 3, 7, 0, 0, 0, 96, 224, 0, 992, 2016, 4064, 8160, 8160, 32736, 65504, 8160, 262112, 524256, 1048544, 2097120, 2097120, 8388576, 16777184, 2097120, 67108832, 134217696, 268435424, 536870880, 1073741823, 2147483647] [
 ⟨(some 72),none,.mov (.t 3)⟩,
 ⟨(some 73),none,.mov (.t 9)⟩,
 ⟨(some 74),none,.iad 1 (.t 72) (.t 73)⟩,
 ⟨(some 75),none,.ld none (.t 74)⟩,
 ⟨(some 76),none,.mov (.t 10)⟩,
 ⟨(some 77),none,.mov (.t 3)⟩,
 ⟨(some 78),none,.mov (.t 9)⟩,
 ⟨(some 79),none,.iad 1 (.t 77) (.t 78)⟩,
 ⟨(some 80),none,.ld none (.t 79)⟩,
 ⟨(some 81),none,.mov (.t 10)⟩,
 ⟨(some 82),none,.iad 1 (.t 80) (.t 81)⟩,
 ⟨(some 83),none,.ld none (.t 82)⟩,
 ⟨(some 84),none,.mov (.t 83)⟩,
 ⟨(some 85),(some ((some 84),false)),.mov (.t 3)⟩,
 ⟨(some 86),(some ((some 84),false)),.mov (.t 9)⟩,
 ⟨(some 87),(some ((some 84),false)),.iad 1 (.t 85) (.t 86)⟩,
 ⟨(some 88),(some ((some 84),false)),.ld none (.t 87)⟩,
 ⟨(some 89),(some ((some 84),false)),.mov (.t 8)⟩,
 ⟨(some 90),(some ((some 84),false)),.iad 1 (.t 88) (.t 89)⟩,
 ⟨(some 91),(some ((some 84),false)),.ld none (.t 90)⟩,
 ⟨(some 92),(some ((some 84),false)),.mov (.t 91)⟩,
 ⟨(some 93),(some ((some 92),true)),.mov (.t 3)⟩,
 ⟨(some 94),(some ((some 92),true)),.mov (.t 8)⟩,
 ⟨(some 95),(some ((some 92),true)),.iad 1 (.t 93) (.t 94)⟩,
 ⟨(some 96),(some ((some 92),true)),.ld none (.t 95)⟩,
 ⟨(some 97),(some ((some 92),true)),.mov (.t 10)⟩,
 ⟨(some 98),(some ((some 92),true)),.iad 1 (.t 96) (.t 97)⟩,
 ⟨(some 99),(some ((some 92),true)),.ld none (.t 98)⟩,
 ⟨(some 100),(some ((some 84),false)),.pick (.t 92) (.t 99) (.c (.d (.sc (.bool false))))⟩,
 ⟨(some 101),none,.pick (.t 84) (.c (.d (.sc (.bool true)))) (.t 100)⟩,
 ⟨(some 102),none,.iad 1 (.t 75) (.t 76)⟩,
 ⟨none,none,.st 1 (.t 102) (.t 101)⟩]))
 (.ops false [] [
 ⟨(some 70),none,.mov (.t 10)⟩,
 ⟨(some 71),none,.bin .add (.t 70) (.c (.d (.sc (.int .i64 1))))⟩,
 ⟨(some 10),none,.mov (.t 71)⟩])))))))
 (.ops false [] [
 ⟨(some 65),none,.mov (.t 9)⟩,
 ⟨(some 66),none,.bin .add (.t 65) (.c (.d (.sc (.int .i64 1))))⟩,
 ⟨(some 9),none,.mov (.t 66)⟩])))))))
 (.ops false [] [
 ⟨(some 60),none,.mov (.t 8)⟩,
 ⟨(some 61),none,.bin .add (.t 60) (.c (.d (.sc (.int .i64 1))))⟩,
 ⟨(some 8),none,.mov (.t 61)⟩]))))))
 (.seq
 (.ops false [] [
 ⟨(some 103),none,.mov (.t 3)⟩,
 ⟨(some 2),none,.mov (.t 103)⟩])
 .ret)))))))), [.tmp 2]⟩
theorem okb_refReaches : compFn Tryz.prog [11, 26, 27] 11 = some k_refReaches := by kernel_rfl

def k_refSameBools : CF := ⟨53,
 (.seq
 (.ops false [] [
 ⟨(some 4),none,.mov (.c (.d (.sc (.bool false))))⟩])
 (.seq
 (.seq
 (.ops false [] [
 ⟨(some 7),none,.mov (.t 0)⟩,
 ⟨(some 8),none,.len 0 (.t 7)⟩,
 ⟨(some 9),none,.mov (.t 1)⟩,
 ⟨(some 10),none,.len 0 (.t 9)⟩,
 ⟨(some 11),none,.bin .neq (.t 8) (.t 10)⟩])
 (.cond (.t 11)
 (.seq
 (.ops false [] [
 ⟨(some 4),none,.mov (.c (.d (.sc (.bool false))))⟩])
 .ret)
 .skip))
 (.seq
 (.seq
 (.ops false [] [
 ⟨(some 5),none,.mov (.c (.d (.sc (.int .i64 0))))⟩])
 (.block 0
 (.loop
 (.seq
 (.seq
 (.ops false [] [
 ⟨(some 12),none,.mov (.t 5)⟩,
 ⟨(some 13),none,.mov (.t 0)⟩,
 ⟨(some 14),none,.len 0 (.t 13)⟩,
 ⟨(some 15),none,.bin .lss (.t 12) (.t 14)⟩])
 (.cond (.t 15)
 .skip
 (.exit 0)))
 (.seq
 (.block 1
 (.seq
 (.seq
 (.ops true [0, 0, 3, 7, 15, 0, 0, 96, 224, 480, 1023] [
 ⟨(some 18),none,.mov (.t 0)⟩,
 ⟨(some 19),none,.mov (.t 5)⟩,
 ⟨(some 20),none,.iad 1 (.t 18) (.t 19)⟩,
 ⟨(some 21),none,.ld none (.t 20)⟩,
 ⟨(some 22),none,.len 0 (.t 21)⟩,
 ⟨(some 23),none,.mov (.t 1)⟩,
 ⟨(some 24),none,.mov (.t 5)⟩,
 ⟨(some 25),none,.iad 1 (.t 23) (.t 24)⟩,
 ⟨(some 26),none,.ld none (.t 25)⟩,
 ⟨(some 27),none,.len 0 (.t 26)⟩,
 ⟨(some 28),none,.bin .neq (.t 22) (.t 27)⟩])
 (.cond (.t 28)
 (.seq
 (.ops false [] [
 ⟨(some 4),none,.mov (.c (.d (.sc (.bool false))))⟩])
 .ret)
 .skip))
 (.seq
 (.ops false [] [
 ⟨(some 6),none,.mov (.c (.d (.sc (.int .i64 0))))⟩])
 (.block 2
 (.loop
 (.seq
 (.seq
 (.ops false [] [
 ⟨(some 29),none,.mov (.t 6)⟩,
 ⟨(some 30),none,.mov (.t 0)⟩,
 ⟨(some 31),none,.mov (.t 5)⟩,
 ⟨(some 32),none,.iad 1 (.t 30) (.t 31)⟩,
 ⟨(some 33),none,.ld none (.t 32)⟩,
 ⟨(some 34),none,.len 0 (.t 33)⟩,
 ⟨(some 35),none,.bin .lss (.t 29) (.t 34)⟩])
 (.cond (.t 35)
 .skip
 (.exit 2)))
 (.seq
 (.block 3
 (.seq
 (.ops true [0, 0, 3, 7, 0, 31, 63, 0, 0, 384, 896, 0, 3968, 8064, 16383] [
 ⟨(some 38),none,.mov (.t 0)⟩,
 ⟨(some 39),none,.mov (.t 5)⟩,
 ⟨(some 40),none,.iad 1 (.t 38) (.t 39)⟩,
 ⟨(some 41),none,.ld none (.t 40)⟩,
 ⟨(some 42),none,.mov (.t 6)⟩,
 ⟨(some 43),none,.iad 1 (.t 41) (.t 42)⟩,
 ⟨(some 44),none,.ld none (.t 43)⟩,
 ⟨(some 45),none,.mov (.t 1)⟩,
 ⟨(some 46),none,.mov (.t 5)⟩,
 ⟨(some 47),none,.iad 1 (.t 45) (.t 46)⟩,
 ⟨(some 48),none,.ld none (.t 47)⟩,
 ⟨(some 49),none,.mov (.t 6)⟩,
 ⟨(some 50),none,.iad 1 (.t 48) (.t 49)⟩,
 ⟨(some 51),none,.ld none (.t 50)⟩,
 ⟨(some 52),none,.eqa false [.b] true (.t 44) (.t 51)⟩])
 (.cond (.t 52)
 (.seq
 (.ops false [] [
 ⟨(some 4),none,.mov (.c (.d (.sc (.bool false))))⟩])
 .ret)
 .skip)))
 (.ops false [] [
 ⟨(some 36),none,.mov (.t 6)⟩,
 ⟨(some 37),none,.bin .add (.t 36) (.c (.d (.sc (.int .i64 1))))⟩,
 ⟨(some 6),none,.mov (.t 37)⟩]))))))))
 (.ops false [] [
 ⟨(some 16),none,.mov (.t 5)⟩,
 ⟨(some 17),none,.bin .add (.t 16) (.c (.d (.sc (.int .i64 1))))⟩,
 ⟨(some 5),none,.mov (.t 17)⟩]))))))
 (.seq
 (.ops false [] [
 ⟨(some 4),none,.mov (.c (.d (.sc (.bool true))))⟩])
 .ret)))), [.tmp 4]⟩
theorem okb_refSameBools : compFn Tryz.prog [] 9 = some k_refSameBools := by kernel_rfl

def k_refSameInts21 : CF := ⟨53,
 (.seq
 (.ops false [] [
 ⟨(some 4),none,.mov (.c (.d (.sc (.bool false))))⟩])
 (.seq
 (.seq
 (.ops false [] [
 ⟨(some 7),none,.mov (.t 0)⟩,
 ⟨(some 8),none,.len 0 (.t 7)⟩,
 ⟨(some 9),none,.mov (.t 1)⟩,
 ⟨(some 10),none,.len 0 (.t 9)⟩,
 ⟨(some 11),none,.bin .neq (.t 8) (.t 10)⟩])
 (.cond (.t 11)
 (.seq
 (.ops false [] [
 ⟨(some 4),none,.mov (.c (.d (.sc (.bool false))))⟩])
 .ret)
 .skip))
 (.seq
 (.seq
 (.ops false [] [
 ⟨(some 5),none,.mov (.c (.d (.sc (.int .i64 0))))⟩])
 (.block 0
 (.loop
 (.seq
 (.seq
 (.ops false [] [
 ⟨(some 12),none,.mov (.t 5)⟩,
 ⟨(some 13),none,.mov (.t 0)⟩,
 ⟨(some 14),none,.len 0 (.t 13)⟩,
 ⟨(some 15),none,.bin .lss (.t 12) (.t 14)⟩])
 (.cond (.t 15)
 .skip
 (.exit 0)))
 (.seq
 (.block 1
 (.seq
 (.seq
 (.ops true [0, 0, 3, 7, 15, 0, 0, 96, 224, 480, 1023] [
 ⟨(some 18),none,.mov (.t 0)⟩,
 ⟨(some 19),none,.mov (.t 5)⟩,
 ⟨(some 20),none,.iad 1 (.t 18) (.t 19)⟩,
 ⟨(some 21),none,.ld none (.t 20)⟩,
 ⟨(some 22),none,.len 0 (.t 21)⟩,
 ⟨(some 23),none,.mov (.t 1)⟩,
 ⟨(some 24),none,.mov (.t 5)⟩,
 ⟨(some 25),none,.iad 1 (.t 23) (.t 24)⟩,
 ⟨(some 26),none,.ld none (.t 25)⟩,
 ⟨(some 27),none,.len 0 (.t 26)⟩,
 ⟨(some 28),none,.bin .neq (.t 22) (.t 27)⟩])
 (.cond (.t 28)
 (.seq
 (.ops false [] [
 ⟨(some 4),none,.mov (.c (.d (.sc (.bool false))))⟩])
 .ret)
 .skip))
 (.seq
 (.ops false [] [
 ⟨(some 6),none,.mov (.c (.d (.sc (.int .i64 0))))⟩])
 (.block 2
 (.loop
 (.seq
 (.seq
 (.ops false [] [
 ⟨(some 29),none,.mov (.t 6)⟩,
 ⟨(some 30),none,.mov (.t 0)⟩,
 ⟨(some 31),none,.mov (.t 5)⟩,
 ⟨(some 32),none,.iad 1 (.t 30) (.t 31)⟩,
 ⟨(some 33),none,.ld none (.t 32)⟩,
 ⟨(some 34),none,.len 0 (.t 33)⟩,
 ⟨(some 35),none,.bin .lss (.t 29) (.t 34)⟩])
 (.cond (.t 35)
 .skip
 (.exit 2)))
 (.seq
 (.block 3
 (.seq
 (.ops true [0, 0, 3, 7, 0, 31, 63, 0, 0, 384, 896, 0, 3968, 8064, 16383] [
 ⟨(some 38),none,.mov (.t 0)⟩,
 ⟨(some 39),none,.mov (.t 5)⟩,
 ⟨(some 40),none,.iad 1 (.t 38) (.t 39)⟩,
 ⟨(some 41),none,.ld none (.t 40)⟩,
 ⟨(some 42),none,.mov (.t 6)⟩,
 ⟨(some 43),none,.iad 1 (.t 41) (.t 42)⟩,
 ⟨(some 44),none,.ld none (.t 43)⟩,
 ⟨(some 45),none,.mov (.t 1)⟩,
 ⟨(some 46),none,.mov (.t 5)⟩,
 ⟨(some 47),none,.iad 1 (.t 45) (.t 46)⟩,
 ⟨(some 48),none,.ld none (.t 47)⟩,
 ⟨(some 49),none,.mov (.t 6)⟩,
 ⟨(some 50),none,.iad 1 (.t 48) (.t 49)⟩,
 ⟨(some 51),none,.ld none (.t 50)⟩,
 ⟨(some 52),none,.bin .neq (.t 44) (.t 51)⟩])
 (.cond (.t 52)
 (.seq
 (.ops false [] [
 ⟨(some 4),none,.mov (.c (.d (.sc (.bool false))))⟩])
 .ret)
 .skip)))
 (.ops false [] [
 ⟨(some 36),none,.mov (.t 6)⟩,
 ⟨(some 37),none,.bin .add (.t 36) (.c (.d (.sc (.int .i64 1))))⟩,
 ⟨(some 6),none,.mov (.t 37)⟩]))))))))
 (.ops false [] [
 ⟨(some 16),none,.mov (.t 5)⟩,
 ⟨(some 17),none,.bin .add (.t 16) (.c (.d (.sc (.int .i64 1))))⟩,
 ⟨(some 5),none,.mov (.t 17)⟩]))))))
 (.seq
 (.ops false [] [
 ⟨(some 4),none,.mov (.c (.d (.sc (.bool true))))⟩])
 .ret)))), [.tmp 4]⟩
theorem okb_refSameInts21 : compFn Tryz.prog [] 14 = some k_refSameInts21 := by kernel_rfl

end Go.Proofs.Lh

namespace Go.Proofs.Lg
open Go Go.Ab Go.Bb Go.RowKit Go.Proofs.Lh

def vrow (v : Vtx) : List D := v.cells.map .sc
def dLines (ls : List Vtx) : D := .sl 35 (ls.map vrow)
def erow (e : Int × Int) : List D := [.sc (.int .i64 e.1), .sc (.int .i64 e.2)]
def dEdges (es : List (Int × Int)) : D := .sl 2 (es.map erow)
def dGraph (g : Gr) : D := .agg [dLines g.lines, dEdges g.edges]

def brow (l : List Bool) : List D := [.sl 1 (l.map fun b => [.sc (.bool b)])]
def dRows (l : List (List Bool)) : D := .sl 1 (l.map brow)
def nrow (n : Nat) : List D := [.sc (.int .i64 n)]
def dNat (n : Nat) : D := .sc (.int .i64 n)
def dBool (b : Bool) : D := .sc (.bool b)
def dNats (l : List Nat) : D := .sl 1 (l.map nrow)

theorem RD_sc {I : Nat → Nat} {w : World} {u c : Value} (h : RD I w u (.sc c)) : u = c := by cases h; rfl

theorem RDs_sc {I : Nat → Nat} {w : World} {us cs : List Value} (h : RDs I w us (cs.map .sc)) : us = cs := by
  obtain ⟨h1, _, h3⟩ := h
  rw [List.length_map] at h1
  refine List.ext_getElem? fun i => ?_
  by_cases hi : i < us.length
  · have e1 : us[i]? = some us[i] := List.getElem?_eq_getElem hi
    have e2 : cs[i]? = some cs[i] := List.getElem?_eq_getElem (by omega)
    have := RD_sc (h3 i us[i] (.sc cs[i]) e1 (by rw [List.getElem?_map, e2]; rfl))
    rw [e1, e2, this]
  · rw [List.getElem?_eq_none (by omega), List.getElem?_eq_none (by omega)]

theorem flatten_map_sc (xss : List (List Value)) : (xss.map fun xs => xs.map D.sc).flatten = xss.flatten.map D.sc := by
  rw [List.map_flatten]

theorem SlN_of_RD {I : Nat → Nat} {w : World} {v : Value} {sz : Nat} {xss : List (List Value)} (h : RD I w v (.sl sz (xss.map fun xs => xs.map .sc))) : SlN w v sz xss := by
  obtain ⟨a, c, us, rfl, h2, h3, h4, h5, h6⟩ := h.sl_inv
  rw [List.length_map] at h3
  rw [flatten_map_sc] at h5
  have hus := RDs_sc h5
  subst hus
  have hr : ∀ r ∈ xss, r.length = sz := fun r hr => by
    have := h2 (r.map .sc) (List.mem_map.2 ⟨r, hr, rfl⟩)
    rwa [List.length_map] at this
  refine ⟨a, c, by rw [List.length_map], h3, h4, fun hne => ?_⟩
  obtain ⟨b, off, ha, hc⟩ := h6 (by simpa using hne)
  refine ⟨b, off, ha, fun i u hu j x hx => ?_⟩
  have hrow := flatten_row xss hr i u hu
  have hj : j < sz := by rw [← hr u (List.mem_of_getElem? hu)]; exact (List.getElem?_eq_some_iff.1 hx).1
  have hget : xss.flatten[i * sz + j]? = some x := by
    rw [← hrow, List.getElem?_take, if_pos hj, List.getElem?_drop] at hx
    exact hx
  have := (hc (i * sz + j) x hget).2
  rw [← this, Nat.add_assoc]

theorem RD_of_SlN {w : World} {v : Value} {sz : Nat} {xss : List (List Value)} (h : SlN w v sz xss) (hr : ∀ r ∈ xss, r.length = sz ∧ ∀ x ∈ r, x.oneCell' = true) (hsz : 0 < sz) : RD (Go.Bb.cellsIn w) w v (.sl sz (xss.map fun xs => xs.map .sc)) := by
  obtain ⟨a, c, rfl, h3, h4, h6⟩ := h
  have h2 : ∀ r ∈ xss, r.length = sz := fun r h => (hr r h).1
  refine RD.sl_mk (us := xss.flatten) (by simp) (fun r h => ?_) h3 h4 ?_ fun hne => ?_
  · obtain ⟨x, hx, rfl⟩ := List.mem_map.1 h
    rw [List.length_map]; exact h2 x hx
  · rw [flatten_map_sc]
    refine ⟨by rw [List.length_map], fun u hu => ?_, fun i u d hu hd => ?_⟩
    · obtain ⟨r, hr1, hr2⟩ := List.mem_flatten.1 hu
      exact (hr r hr1).2 u hr2
    · rw [List.getElem?_map, hu] at hd
      obtain rfl := Option.some.inj hd
      exact .sc u
  · obtain ⟨b, off, ha, hc⟩ := h6 (by simpa using hne)
    refine ⟨b, off, ha, fun i u hu => ?_⟩
    have hi : i < xss.length * sz := by rw [← flatten_len xss h2]; exact (List.getElem?_eq_some_iff.1 hu).1
    have hq : i / sz < xss.length := Nat.div_lt_of_lt_mul (by rw [Nat.mul_comm]; exact hi)
    have hrow := flatten_row xss h2 (i / sz) xss[i / sz] (List.getElem?_eq_getElem hq)
    have hm : i % sz < sz := Nat.mod_lt _ hsz
    have hdm : i / sz * sz + i % sz = i := by rw [Nat.mul_comm]; exact Nat.div_add_mod i sz
    have hx : xss[i / sz][i % sz]? = some u := by
      rw [← hrow, List.getElem?_take, if_pos hm, List.getElem?_drop, hdm]; exact hu
    have := hc (i / sz) _ (List.getElem?_eq_getElem hq) (i % sz) u hx
    rw [Nat.add_assoc, hdm] at this
    exact ⟨lt_cellsIn this, this⟩

/-- What is asked of a graph's size. -/
structure GrOk (g : Gr) : Prop where
  okl : ∀ x ∈ g.lines, x.ok
  oke : ∀ e ∈ g.edges, I64 e.1 ∧ I64 e.2
  few : g.lines.length ≤ 1000000
  fewe : g.edges.length ≤ 1000000

theorem dGraph_inv {I : Nat → Nat} {w : World} {v : Value} {g : Gr} (hg : GrOk g) (h : RD I w v (dGraph g)) : ∃ vl ve, v = .agg #[vl, ve] ∧ GrAt w vl ve g := by
  unfold dGraph at h
  cases h with
  | agg us ds h1 h2 h3 =>
    match us, h1 with
    | [vl, ve], _ =>
      have e1 := h3 0 vl _ rfl rfl
      have e2 := h3 1 ve _ rfl rfl
      refine ⟨vl, ve, rfl, ⟨SlN_of_RD (I := I) (xss := g.lines.map Vtx.cells) ?_, SlN_of_RD (I := I) (xss := g.edges.map edgeCells) ?_, hg.okl, hg.oke, hg.few, hg.fewe⟩⟩
      · rw [List.map_map]; exact e1
      · rw [List.map_map]; exact e2

theorem enters_fn {P : Program} {f : FuncId} {fn : Func} {c : Code} (hfn : P.funcs[f]? = some fn) (hb : fn.body = some c) (hn : (fn.name == "runtime.NumGoroutine") = false) : Enters P f := fun args w => by
  have hn' : fn.name ≠ "runtime.NumGoroutine" := by simpa using hn
  simp [callFunc, hfn, hn', hb, mark]

end Go.Proofs.Lg
namespace Go.Proofs.Lh
open Go Go.Bb Go.RowKit Go.Proofs.Lg
open Go.Ab (RD RDs D flatten_len flatten_row)
theorem wrapN {n : Int} {m : Nat} (h : n = m) (hm : m < 9223372036854775808) : Go.IntKind.i64.wrap n = (m : Int) := by
  subst h
  simp only [Go.IntKind.wrap, Go.IntKind.bits, Go.IntKind.signed]
  have : ((m : Int) % 2 ^ 64) = m := by omega
  simp only [this]
  simp; omega

theorem any_take_step' {α : Type} {l : List α} {p : α → Bool} {k : Nat} (h : (l.take k).any p = false) (hk : k < l.length) (hp : p l[k] = false) : (l.take (k + 1)).any p = false := by
  rw [List.take_succ_eq_append_getElem hk, List.any_append, h]; simp [hp]
theorem any_hit' {α : Type} {l : List α} {p : α → Bool} {k : Nat} (hk : k < l.length) (hp : p l[k] = true) : l.any p = true := List.any_eq_true.2 ⟨l[k], List.getElem_mem _, hp⟩

theorem vcells_ok {x : Vtx} (h : x.ok) : x.cells.length = 35 ∧ ∀ u ∈ x.cells, u.oneCell' = true := by
  refine ⟨by simp [Vtx.cells, h.1], fun u hu => ?_⟩
  unfold Vtx.cells at hu
  rcases List.mem_append.1 hu with hu | hu
  · obtain ⟨n, _, rfl⟩ := List.mem_map.1 hu; rfl
  · simp at hu; rcases hu with rfl | rfl | rfl <;> rfl

theorem RDs_scs {I : Nat → Nat} {w : World} {cs : List Value} (h : ∀ c ∈ cs, c.oneCell' = true) : RDs I w cs (cs.map .sc) := by
  refine ⟨by rw [List.length_map], h, fun i u d hu hd => ?_⟩
  rw [List.getElem?_map, hu] at hd
  obtain rfl := Option.some.inj hd
  exact .sc u
theorem RDs_flatten {I : Nat → Nat} {w : World} : ∀ {cs : List (List Value)} {rows : List (List D)}, cs.length = rows.length → (∀ (i : Nat) (c : List Value) (r : List D), cs[i]? = some c → rows[i]? = some r → RDs I w c r) → RDs I w cs.flatten rows.flatten
  | [], [], _, _ => ⟨rfl, (fun u hu => by simp at hu), (fun i u d hu hd => by simp at hu)⟩
  | [], _ :: _, h, _ => by simp at h
  | _ :: _, [], h, _ => by simp at h
  | c :: cs, r :: rows, h, hr => by
    rw [List.flatten_cons, List.flatten_cons]
    exact (hr 0 c r rfl rfl).append (RDs_flatten (by simpa using h) fun i c' r' h1 h2 => hr (i + 1) c' r' (by simpa using h1) (by simpa using h2))

theorem RD_of_SlAtP {I : Nat → Nat} {ok : Nat → Prop} {w : World} {v : Value} {us : List Value} {rows : List (List D)} (h : SlAtP ok w v us) (hI : ∀ b o u, ok b → w.cell? ⟨b, o, none⟩ = some u → o < I b) (h5 : RDs I w us rows.flatten) (h1 : us.length = rows.length) (h2 : ∀ r ∈ rows, r.length = 1) : RD I w v (.sl 1 rows) := by
  obtain ⟨a, c, rfl, k1, k2, k3⟩ := h
  refine Go.Ab.RD.sl_mk h1.symm h2 k1 k2 h5 fun hne => ?_
  have hne' : us ≠ [] := fun e => by rw [e] at h1; exact hne (List.eq_nil_of_length_eq_zero h1.symm)
  obtain ⟨b, off, ha, hok, hc⟩ := k3 hne'
  exact ⟨b, off, ha, fun i u hu => ⟨hI b _ u hok (hc i u hu), hc i u hu⟩⟩
theorem RD_of_SlAt {w : World} {v : Value} {us : List Value} {rows : List (List D)} (h : SlAt w v us) (h5 : RDs (Go.Bb.cellsIn w) w us rows.flatten) (h1 : us.length = rows.length) (h2 : ∀ r ∈ rows, r.length = 1) : RD (Go.Bb.cellsIn w) w v (.sl 1 rows) :=
  RD_of_SlAtP (ok := fun _ => True) (h.slAtP_of (ok := fun _ => True) fun _ _ => trivial) (fun _ _ _ _ hc => Go.Bb.lt_cellsIn hc) h5 h1 h2

theorem dGraph_in {w : World} {vl ve : Value} {g : Gr} (h : GrIn w vl ve g) : RD (Go.Bb.cellsIn w) w (.agg #[vl, ve]) (dGraph g) := by
  have h1 := RD_of_SlN h.lines (fun r hr => by obtain ⟨x, hx, rfl⟩ := List.mem_map.1 hr; exact vcells_ok (h.okl x hx)) (by omega)
  have h2 := RD_of_SlN h.edges (fun r hr => by
    obtain ⟨x, hx, rfl⟩ := List.mem_map.1 hr
    exact ⟨rfl, fun u hu => by unfold edgeCells at hu; simp at hu; rcases hu with rfl | rfl <;> rfl⟩) (by omega)
  rw [List.map_map] at h1 h2
  have e : (#[vl, ve] : Array Value) = [vl, ve].toArray := rfl
  rw [e]
  refine .agg [vl, ve] [dLines g.lines, dEdges g.edges] rfl (fun u hu => ?_) fun i u d hu hd => ?_
  · simp at hu
    rcases hu with rfl | rfl
    · exact h1.leaf rfl
    · exact h2.leaf rfl
  · match i with
    | 0 => simp at hu hd; subst hu; subst hd; exact h1
    | 1 => simp at hu hd; subst hu; subst hd; exact h2
    | i + 2 => simp at hu
/-- A contract on graphs in memory as one on data. -/
theorem graph_fn {f : FuncId} {fn : Func} {c : Code} (hfn : Tryz.prog.funcs[f]? = some fn) (hb : fn.body = some c) (hnm : (fn.name == "runtime.NumGoroutine") = false) {g : Gr} (hg : GrOk g) {r : D}
    (h : ∀ (vl ve : Value) (w : World), GrAt w vl ve g → Calls Tryz.prog f #[.agg #[vl, ve]] w fun e w' => ∃ v, e = .returned v ∧ (∀ I, RD (bigI I w.heap.size w') w' v r) ∧ Below w.heap.size w w') : AFn Tryz.prog f [dGraph g] r := by
  refine ⟨enters_fn hfn hb hnm, fun I w vs hl hv => ?_⟩
  match vs, hl with
  | [v], _ =>
    obtain ⟨vl, ve, rfl, hat⟩ := dGraph_inv hg (hv 0 v _ rfl rfl)
    exact (h vl ve w hat).mono fun e w' ⟨v, he, h1, h2⟩ => ⟨v, he, h1 I, h2⟩

theorem vrow_33 {v : Vtx} (h : v.ok) : (vrow v).drop 33 = [.sc (.string v.text), .sc (.bool v.living)] := by
  have h2 : vrow v = (v.id.map (Value.int .u8) ++ [Value.int .i64 v.n]).map .sc ++ [.sc (.string v.text), .sc (.bool v.living)] := by simp [vrow, Vtx.cells]
  have h3 : ((v.id.map (Value.int .u8) ++ [Value.int .i64 v.n]).map Go.Ab.D.sc).length = 33 := by simp [h.1]
  rw [h2, List.drop_append, h3, List.drop_eq_nil_of_le (by omega)]; rfl

structure GrAny (g : Gr) : Prop where
  okl : ∀ x ∈ g.lines, x.ok
  oke : ∀ e ∈ g.edges, I64 e.1 ∧ I64 e.2
  len : g.lines.length ≤ 9223372036854775807
  elen : g.edges.length ≤ 9223372036854775807
theorem GrAny.ok {g : Gr} (h : GrAny g) (hb : g.big = false) : GrOk g := by
  unfold Gr.big at hb
  rw [Bool.or_eq_false_iff, Bool.or_eq_false_iff, decide_eq_false_iff_not, decide_eq_false_iff_not] at hb
  exact ⟨h.okl, h.oke, by omega, by omega⟩
theorem grAny_in {w : World} {vl ve : Value} {g : Gr} (h : GrIn w vl ve g) : GrAny g := by
  obtain ⟨a1, c1, _, k1, k2, _⟩ := h.lines
  obtain ⟨a2, c2, _, k3, k4, _⟩ := h.edges
  rw [List.length_map] at k1 k3
  exact ⟨h.okl, h.oke, by omega, by omega⟩

set_option maxRecDepth 10000 in
theorem Great_fn {g : Gr} (hok : ∀ x ∈ g.lines, x.ok) (h1 : g.lines.length ≤ 9223372036854775807) (h2 : g.edges.length ≤ 9223372036854775807) : AFn Tryz.prog 5 [dGraph g] (dBool g.big) := by
  refine AFn_of (F := k_Great) (okb_Great.trans (by kernel_rfl)) (by simp [k_Great]) ?_
  simp only [k_Great, dGraph, dLines, ↓Both_true, ↓Both_false, wx, reduceCtorEq, reduceIte, Nat.reduceAdd, Nat.reduceEqDiff, Nat.reduceLT, Nat.reduceLeDiff]
  refine LoopK.count (fun k => [(3, .d (.sc (.int .i64 k))), (1, .ptr 0 0)]) (fun _ => [.cells [.d (.sl 35 (g.lines.map vrow)), .d (dEdges g.edges)]]) (fun k => (g.lines.take k).any (fun x => decide (40 < x.text.size)) = false) g.lines.length (by simp [SubB, Go.Bb.look]) rfl rfl fun k hk hi => ?_
  by_cases hlt : k < g.lines.length
  · have f1 : decide ((k : Int) < (g.lines.length : Int)) = true := by simpa using hlt
    have f2 : g.lines[k]? = some g.lines[k] := List.getElem?_eq_getElem hlt
    have f3 : IntKind.i64.wrap ((k : Int) + 1) = ((k + 1 : Nat) : Int) := wrapN (by omega) (by omega)
    have hx := hok g.lines[k] (List.getElem_mem _)
    have h8 : decide (40 < g.lines[k].text.size) = false → (g.lines.take (k + 1)).any (fun x => decide (40 < x.text.size)) = false := fun h => any_take_step' hi hlt h
    have h9 : decide (40 < g.lines[k].text.size) = true → g.big = true := fun h => by
      have : g.lines.any (fun x => decide (40 < x.text.size)) = true := any_hit' hlt h
      unfold Gr.big; rw [this]; rfl
    generalize g.lines[k] = x at f2 hx h8 h9
    have h5 := vrow_33 hx
    have h6 : decide ((x.text.size : Int) > 40) = decide (40 < x.text.size) := by by_cases h : 40 < x.text.size <;> simp [h] <;> omega
    cases hc : decide (40 < x.text.size) with
    | true =>
      simp only [f1, f2, h5, h6, hc, h9 hc, dBool, deepD, AV.toL, ↓Both_true, ↓Both_false, wx, reduceCtorEq, reduceIte, Nat.reduceAdd, Nat.reduceEqDiff, Nat.reduceLT, Nat.reduceLeDiff, wj, ← List.map_take, ← List.map_drop]
    | false =>
      simp only [f1, f2, f3, h5, h6, hc, hlt, h8 hc, dBool, deepD, AV.toL, ↓Both_true, ↓Both_false, wx, reduceCtorEq, reduceIte, Nat.reduceAdd, Nat.reduceEqDiff, Nat.reduceLT, Nat.reduceLeDiff, wj, ← List.map_take, ← List.map_drop]
  · have f1 : decide ((k : Int) < (g.lines.length : Int)) = false := by simpa using hlt
    have h2 : g.lines.take k = g.lines := List.take_of_length_le (by omega)
    rw [h2] at hi
    have hb : g.big = (decide (16 < g.lines.length) || decide (60 < g.edges.length)) := by unfold Gr.big; rw [hi]; rfl
    have h6 : decide ((g.lines.length : Int) > 16) = decide (16 < g.lines.length) := by by_cases h : 16 < g.lines.length <;> simp [h] <;> omega
    have h7 : decide ((g.edges.length : Int) > 60) = decide (60 < g.edges.length) := by by_cases h : 60 < g.edges.length <;> simp [h] <;> omega
    rw [hb]
    cases hc : decide (16 < g.lines.length) with
    | true => simp only [f1, h6, hc, dBool, dEdges, deepD, AV.toL, ↓Both_true, ↓Both_false, wx, reduceCtorEq, reduceIte, Nat.reduceAdd, Nat.reduceEqDiff, Nat.reduceLT, Nat.reduceLeDiff, wj, ← List.map_take, ← List.map_drop]
    | false => simp only [f1, h6, h7, hc, dBool, dEdges, deepD, AV.toL, ↓Both_true, ↓Both_false, wx, reduceCtorEq, reduceIte, Nat.reduceAdd, Nat.reduceEqDiff, Nat.reduceLT, Nat.reduceLeDiff, wj, ← List.map_take, ← List.map_drop]


/-- A contract on a graph in memory and some plain arguments as one on data. -/
theorem graph_fnx {f : FuncId} {fn : Func} {c : Code} (hfn : Tryz.prog.funcs[f]? = some fn) (hb : fn.body = some c) (hnm : (fn.name == "runtime.NumGoroutine") = false) {g : Gr} (hg : GrOk g) (xs : List Value) {r : D}
    (h : ∀ (vl ve : Value) (w : World), GrAt w vl ve g → Calls Tryz.prog f (.agg #[vl, ve] :: xs).toArray w fun e w' => ∃ v, e = .returned v ∧ (∀ I, RD (bigI I w.heap.size w') w' v r) ∧ Below w.heap.size w w') : AFn Tryz.prog f (dGraph g :: xs.map .sc) r := by
  refine ⟨enters_fn hfn hb hnm, fun I w vs hl hv => ?_⟩
  match vs, hl with
  | v :: vs, hl =>
    obtain ⟨vl, ve, rfl, hat⟩ := dGraph_inv hg (hv 0 v _ rfl rfl)
    have hvs : vs = xs := by
      have hlen : vs.length = xs.length := by simpa using hl
      refine List.ext_getElem? fun i => ?_
      by_cases hi : i < vs.length
      · have e1 : vs[i]? = some vs[i] := List.getElem?_eq_getElem hi
        have e2 : xs[i]? = some xs[i] := List.getElem?_eq_getElem (by omega)
        have := RD_sc (hv (i + 1) vs[i] (.sc xs[i]) e1 (by rw [List.getElem?_cons_succ, List.getElem?_map, e2]; rfl))
        rw [e1, e2, this]
      · rw [List.getElem?_eq_none (by omega), List.getElem?_eq_none (by omega)]
    subst hvs
    exact (h vl ve w hat).mono fun e w' ⟨v, he, h1, h2⟩ => ⟨v, he, h1 I, h2⟩

theorem refCheck_fn {g : Gr} (hg : GrOk g) : AFn Tryz.prog 8 [dGraph g] (.sc (.int .i64 g.check)) :=
  graph_fn Tryz.func8 (by rfl) (by rfl) hg fun vl ve w hat => (refCheck_any vl ve g w hat).mono fun e w' ⟨he, hb⟩ => ⟨_, he, fun _ => .sc _, hb⟩

theorem flat_one {α : Type} (l : List α) (f : α → D) : (l.map fun b => [f b]).flatten = l.map f := by
  induction l with
  | nil => rfl
  | cons b l ih => simp [ih]
theorem RD_of_bools {I : Nat → Nat} {ok : Nat → Prop} {w : World} {v : Value} {l : List Bool} (h : SlAtP ok w v (bools l)) (hI : ∀ b o u, ok b → w.cell? ⟨b, o, none⟩ = some u → o < I b) : RD I w v (.sl 1 (l.map fun b => [.sc (.bool b)])) := by
  refine RD_of_SlAtP h hI ?_ (by simp [bools]) fun r hr => ?_
  · rw [flat_one l fun b => D.sc (.bool b)]
    have e : l.map (fun b => D.sc (.bool b)) = (bools l).map .sc := by unfold bools; rw [List.map_map]; rfl
    rw [e]
    exact RDs_scs fun c hc => by obtain ⟨b, _, rfl⟩ := List.mem_map.1 hc; rfl
  · obtain ⟨x, _, rfl⟩ := List.mem_map.1 hr; rfl

theorem linReaches_fn {g : Gr} (hg : GrOk g) : AFn Tryz.prog 10 [dGraph g] (dRows g.reach) :=
  graph_fn Tryz.func10 (by rfl) (by rfl) hg fun vl ve w hat => (Reaches_any vl ve g w hat).mono fun e w' ⟨v, he, hs, hb⟩ => ⟨v, he, fun I => by
    obtain ⟨vs, h1, h2, h3⟩ := hs
    rw [List.length_map] at h2
    have hI : ∀ b o u, w.heap.size ≤ b → w'.cell? ⟨b, o, none⟩ = some u → o < bigI I w.heap.size w' b := fun b o u hb hc => by
      unfold bigI; rw [if_neg (by omega)]; exact lt_cellsIn hc
    have hg : ∀ (i : Nat) (u : Value) (s : List Bool), vs[i]? = some u → g.reach[i]? = some s → SlAtP (fun b => w.heap.size ≤ b) w' u (bools s) := fun i u s hu hs => h3 i u _ hu (by rw [List.getElem?_map, hs]; rfl)
    refine RD_of_SlAtP h1 hI ?_ (by rw [List.length_map, h2]) fun r hr => ?_
    · have e : (g.reach.map brow).flatten = g.reach.map fun s => D.sl 1 (s.map fun b => [.sc (.bool b)]) := flat_one g.reach fun s => D.sl 1 (s.map fun b => [.sc (.bool b)])
      rw [e]
      refine ⟨by rw [List.length_map, h2], fun u hu => ?_, fun i u d hu hd => ?_⟩
      · obtain ⟨i, hi, rfl⟩ := List.mem_iff_getElem.1 hu
        obtain ⟨a, c, he, _⟩ := hg i vs[i] (g.reach[i]'(by omega)) (List.getElem?_eq_getElem hi) (List.getElem?_eq_getElem (by omega))
        rw [he]; rfl
      · rw [List.getElem?_map] at hd
        obtain ⟨s, hs, rfl⟩ := Option.map_eq_some_iff.1 hd
        exact RD_of_bools (hg i u s hu hs) hI
    · obtain ⟨x, _, rfl⟩ := List.mem_map.1 hr; rfl, hb⟩

/-- What linegraph.Before answers at all indices. -/
def beforeI (g : Gr) (i j : Int) : Bool := if 0 ≤ i ∧ 0 ≤ j ∧ i < g.lines.length ∧ j < g.lines.length then g.before i.toNat j.toNat else false

set_option maxRecDepth 100000 in
theorem Before_out (vl ve : Value) (g : Gr) (i j : Int) (w : World) (hg : GrAt w vl ve g) (h : i < 0 ∨ j < 0 ∨ (g.lines.length : Int) ≤ i ∨ (g.lines.length : Int) ≤ j) :
    Calls Tryz.prog 12 #[.agg #[vl, ve], .int .i64 i, .int .i64 j] w fun e w' => e = .returned (.bool false) ∧ Below w.heap.size w w' := by
  obtain ⟨al, cl, hvl⟩ : ∃ a c, vl = .slice a g.lines.length c := by obtain ⟨a, c, h, _⟩ := hg.lines; exact ⟨a, c, by simpa using h⟩
  subst hvl
  have hb := (Below.refl w.heap.size w).alloc (Nat.le_refl _) (.cells #[.slice al g.lines.length cl, ve] 25)
  have HB := Lib.hid hb
  clear hb hg
  by_cases h1 : i < 0
  · go_enter Tryz.func12, Tryz.ntmps12
    go_wp2
    go_ret
    exact ⟨rfl, HB.out⟩
  · by_cases h2 : j < 0
    · go_enter Tryz.func12, Tryz.ntmps12
      go_wp2
      go_ret
      exact ⟨rfl, HB.out⟩
    · by_cases h3 : (g.lines.length : Int) ≤ i
      · go_enter Tryz.func12, Tryz.ntmps12
        go_wp2
        go_ret
        exact ⟨rfl, HB.out⟩
      · have h4 : (g.lines.length : Int) ≤ j := by omega
        go_enter Tryz.func12, Tryz.ntmps12
        go_wp2
        go_ret
        exact ⟨rfl, HB.out⟩

theorem Before_fn {g : Gr} (hg : GrOk g) (hck : g.check = 0) (i j : Int) : AFn Tryz.prog 12 [dGraph g, .sc (.int .i64 i), .sc (.int .i64 j)] (dBool (beforeI g i j)) :=
  graph_fnx Tryz.func12 (by rfl) (by rfl) hg [.int .i64 i, .int .i64 j] fun vl ve w hat => by
    unfold beforeI
    split
    · rename_i h
      have e1 : i = (i.toNat : Int) := by omega
      have e2 : j = (j.toNat : Int) := by omega
      have := Before_ok vl ve g i.toNat j.toNat w hat hck (by omega) (by omega)
      rw [← e1, ← e2] at this
      exact this.mono fun e w' ⟨he, hb⟩ => ⟨_, he, fun _ => .sc _, hb⟩
    · exact (Before_out vl ve g i j w hat (by omega)).mono fun e w' ⟨he, hb⟩ => ⟨_, he, fun _ => .sc _, hb⟩
end Go.Proofs.Lh

namespace Go.Proofs.Lg
open Go Go.Ab Go.Bb Go.RowKit Go.Proofs.Lh

theorem rel_get {n : Nat} {rows : List (List Bool)} (hq : Sq n rows) {i j : Nat} (hi : i < n) (hj : j < n) : ∃ r, rows[i]? = some r ∧ r[j]? = some (rel rows i j) := by
  have hil : i < rows.length := by rw [hq.1]; exact hi
  have hr : rows[i]? = some rows[i] := List.getElem?_eq_getElem hil
  have hl : rows[i].length = n := hq.2 _ (List.getElem_mem _)
  refine ⟨_, hr, ?_⟩
  have : rows[i][j]? = some rows[i][j] := List.getElem?_eq_getElem (by omega)
  rw [this]
  unfold rel
  simp [List.getD_eq_getElem?_getD, hr, this]

def rblk (r : List Bool) : AObj := .vec 4 1 (r.map fun b => .d (.sc (.bool b)))
def hands (n m : Nat) : List AV := (List.range m).map fun i => .vec (2 + 2 * i) n 1

/-- The own blocks of Reaches: so many rows of the table being laid. -/
structure Tab (A : AObj) (n m : Nat) (R : List (List Bool)) (s : List AObj) : Prop where
  a : s[0]? = some A
  v : s[1]? = some (.vec 38 1 (hands n m))
  r : ∀ (i : Nat) (r : List Bool), R[i]? = some r → s[2 + 2 * i]? = some (rblk r)
  len : R.length = m
  row : ∀ r ∈ R, r.length = n

theorem hands_len (n m : Nat) : (hands n m).length = m := by simp [hands]
theorem hands_get {n m i : Nat} (h : i < m) : (hands n m)[i]? = some (.vec (2 + 2 * i) n 1) := by simp [hands, h]

theorem Tab.lt {A : AObj} {n m : Nat} {R : List (List Bool)} {s : List AObj} (h : Tab A n m R s) : 1 < s.length := (List.getElem?_eq_some_iff.1 h.v).1
theorem Tab.app {A : AObj} {n m : Nat} {R : List (List Bool)} {s : List AObj} (h : Tab A n m R s) (K : List AObj) : Tab A n m R (s ++ K) where
  a := by rw [List.getElem?_append_left (by have := h.lt; omega)]; exact h.a
  v := by rw [List.getElem?_append_left h.lt]; exact h.v
  r i r hr := by rw [List.getElem?_append_left (List.getElem?_eq_some_iff.1 (h.r i r hr)).1]; exact h.r i r hr
  len := h.len
  row := h.row
theorem Tab.row_get {A : AObj} {n m : Nat} {R : List (List Bool)} {s : List AObj} (h : Tab A n m R s) {i : Nat} (hi : i < m) : ∃ r, R[i]? = some r ∧ r.length = n ∧ s[2 + 2 * i]? = some (rblk r) ∧ R.getD i [] = r := by
  have hil : i < R.length := by rw [h.len]; exact hi
  have hr : R[i]? = some R[i] := List.getElem?_eq_getElem hil
  exact ⟨_, hr, h.row _ (List.getElem_mem _), h.r i _ hr, by simp [List.getD_eq_getElem?_getD, hr]⟩
theorem Tab.sq {A : AObj} {n : Nat} {R : List (List Bool)} {s : List AObj} (h : Tab A n n R s) : Sq n R := ⟨h.len, h.row⟩

theorem rblk_set (r : List Bool) (j : Nat) (b : Bool) (hj : j < r.length) : AObj.vec 4 1 ((r.map fun b => AV.d (.sc (.bool b))).take j ++ [.d (.sc (.bool b))] ++ (r.map fun b => AV.d (.sc (.bool b))).drop (j + 1)) = rblk (r.set j b) := by
  unfold rblk
  congr 1
  rw [List.map_set, List.set_eq_take_append_cons_drop, if_pos (by simpa using hj)]
  simp

/-- A cell of the table is written. -/
theorem Tab.put {A : AObj} {n : Nat} {R : List (List Bool)} {s : List AObj} (h : Tab A n n R s) {i j : Nat} (hi : i < n) (b : Bool) : Tab A n n (putR R i j b) (s.set (2 + 2 * i) (rblk ((R.getD i []).set j b))) where
  a := by rw [List.getElem?_set_ne (by omega)]; exact h.a
  v := by rw [List.getElem?_set_ne (by omega)]; exact h.v
  r x r hr := by
    unfold putR at hr
    by_cases hx : x = i
    · subst hx
      have hlt := (List.getElem?_eq_some_iff.1 (h.row_get hi).choose_spec.2.2.1).1
      rw [List.getElem?_set_self hlt]
      rw [List.getElem?_set_self (by rw [h.len]; exact hi)] at hr
      obtain rfl := Option.some.inj hr
      rfl
    · rw [List.getElem?_set_ne (by omega)] at hr ⊢
      exact h.r x r hr
  len := by unfold putR; rw [List.length_set]; exact h.len
  row r hr := (sq_putR h.sq hi b).2 r hr

theorem Tab.row_rel {A : AObj} {n : Nat} {R : List (List Bool)} {s : List AObj} (h : Tab A n n R s) {i j : Nat} (hi : i < n) (hj : j < n) :
    ∃ r, r.length = n ∧ s[2 + 2 * i]? = some (rblk r) ∧ R.getD i [] = r ∧ r[j]? = some (rel R i j) := by
  obtain ⟨r, h1, h2, h3, h4⟩ := h.row_get hi
  obtain ⟨r', g1, g2⟩ := rel_get h.sq hi hj
  rw [h1] at g1; obtain rfl := Option.some.inj g1
  exact ⟨r, h2, h3, h4, g2⟩

theorem mapO_map {α β γ : Type} {g : β → Option γ} (f : α → β) (k : α → γ) : ∀ (l : List α), (∀ x ∈ l, g (f x) = some (k x)) → mapO g (l.map f) = some (l.map k)
  | [], _ => rfl
  | x :: l, h => by
    rw [List.map_cons, mapO, h x (by simp), mapO_map f k l fun y hy => h y (by simp [hy])]
    rfl
theorem chunk_one {α β : Type} (f : α → β) : ∀ (l : List α), chunk 1 l.length (l.map f) = l.map fun x => [f x]
  | [] => rfl
  | x :: l => by
    rw [List.length_cons, chunk, List.map_cons, List.drop_succ_cons, List.drop_zero, chunk_one f l]
    rfl

theorem deep_rblk (s : List AObj) {i f : Nat} {r : List Bool} (h : s[i]? = some (rblk r)) : deepD s (f + 2) (.vec i r.length 1) = some (.sl 1 (r.map fun b => [.sc (.bool b)])) := by
  rw [deepD, h]
  simp only [rblk, List.length_map, Nat.mul_one]
  rw [if_pos ⟨trivial, by omega, trivial⟩, mapO_map (fun b => AV.d (.sc (.bool b))) (fun b => D.sc (.bool b)) r (fun b _ => rfl)]
  rw [Option.map_some]
  rw [chunk_one]

theorem Tab.deep {A : AObj} {n : Nat} {R : List (List Bool)} {s : List AObj} (h : Tab A n n R s) : deepD s 5 (.vec 1 n 1) = some (dRows R) := by
  rw [deepD, h.v]
  have hm : mapO (deepD s 4) (hands n n) = some (R.map fun r => .sl 1 (r.map fun b => [.sc (.bool b)])) := by
    have e : hands n n = (List.range n).map fun i => AV.vec (2 + 2 * i) n 1 := rfl
    have e2 : (R.map fun r => D.sl 1 (r.map fun b => [.sc (.bool b)])) = (List.range n).map fun i => D.sl 1 ((R.getD i []).map fun b => [.sc (.bool b)]) := by
      refine List.ext_getElem? fun i => ?_
      rw [List.getElem?_map, List.getElem?_map]
      by_cases hi : i < n
      · obtain ⟨r, h1, _, _, h4⟩ := h.row_get hi
        rw [h1, List.getElem?_range hi]; simp only [Option.map_some, h4]
      · rw [List.getElem?_eq_none (by rw [h.len]; omega), List.getElem?_eq_none (by simpa using hi)]; rfl
    rw [e, e2]
    refine mapO_map _ _ _ fun i hi => ?_
    obtain ⟨r, h1, h2, h3, h4⟩ := h.row_get (List.mem_range.1 hi)
    rw [h4, ← h2]
    exact deep_rblk s h3
  dsimp only
  rw [if_pos ⟨rfl, by omega, by rw [hands_len]; omega⟩, hm]
  rw [Option.map_some]
  have : n = R.length := h.len.symm
  subst this
  rw [chunk_one]
  rfl

end Go.Proofs.Lg

namespace Go.Proofs.Lg
open Go Go.Ab Go.Bb Go.RowKit Go.Proofs.Lh

theorem Tab.more {A : AObj} {n m : Nat} {R : List (List Bool)} {s : List AObj} (h : Tab A n m R s) (hs : s.length = 2 + 2 * m) {y : AObj} : Tab A n (m + 1) (R ++ [List.replicate n false]) ((s ++ [.vec 4 1 (List.replicate n (.d (.sc (.bool false)))), y]).set 1 (.vec 38 1 (hands n m ++ [.vec s.length n 1]))) where
  a := by
    rw [List.getElem?_set_ne (by omega)]
    exact (h.app _).a
  v := by
    rw [List.getElem?_set_self (by simp)]
    unfold hands
    rw [List.range_succ, List.map_append, hs]; rfl
  r i r hr := by
    rw [List.getElem?_set_ne (by omega)]
    rw [List.getElem?_append] at hr
    split at hr
    · exact (h.app _).r i r hr
    · rename_i hi
      have hi2 : i = m := by
        have := (List.getElem?_eq_some_iff.1 hr).1
        have := h.len
        simp at *; omega
      subst hi2
      have : r = List.replicate n false := by rw [h.len] at hr; simpa using hr.symm
      subst this
      rw [← hs]
      rw [List.getElem?_append_right (Nat.le_refl _)]
      simp [rblk]
  len := by simp [h.len]
  row r hr := by
    rcases List.mem_append.1 hr with hr | hr
    · exact h.row r hr
    · simp at hr; subst hr; simp

theorem rblk_set' (r : List Bool) (j : Nat) (b : Bool) (hj : j < r.length) : rblk (r.set j b) = .vec 4 1 ((r.take j).map (fun b => AV.d (.sc (.bool b))) ++ AV.d (.sc (.bool b)) :: (r.drop (j + 1)).map fun b => AV.d (.sc (.bool b))) := by
  rw [← rblk_set r j b hj]
  simp [List.map_take, List.map_drop]

theorem repl_snoc (n k : Nat) : List.replicate k (List.replicate n false) ++ [List.replicate n false] = List.replicate (k + 1) (List.replicate n false) := by
  rw [← List.replicate_succ']

set_option maxHeartbeats 1000000 in
theorem Reaches_fn {g : Gr} (hg : GrOk g) (hc : g.check = 0) : AFn Tryz.prog 11 [dGraph g] (dRows (war g.lines.length (edgeT g.lines.length g.edges) g.lines.length)) := by
  have hck := refCheck_fn hg
  rw [hc] at hck
  have hfew := hg.few
  have hrange : ∀ e ∈ g.edges, e.1 < (g.lines.length : Int) ∧ e.2 < (g.lines.length : Int) := fun e he => by have := (Gr.check_ok hc).2 e he; exact ⟨this.1.2, this.2.1.2⟩
  have hfewe := hg.fewe
  have hlen : (g.lines.map vrow).length = g.lines.length := List.length_map _
  refine AFn_of (F := k_refReaches) (okb_refReaches.trans (by kernel_rfl)) (by simp [k_refReaches]) ?_
  have q1 : ((0 : Int) != 0) = false := by decide
  simp only [k_refReaches, dGraph, dLines, dEdges, dNat, dBool, ↓Both_true, ↓Both_false, wx, reduceCtorEq, reduceIte, Nat.reduceAdd, Nat.reduceEqDiff, Nat.reduceLT, Nat.reduceLeDiff, wj, ← List.map_take, ← List.map_drop]
  refine CallM.data hck rfl ?_
  simp only [q1, ↓Both_true, ↓Both_false, wx, reduceCtorEq, reduceIte, Nat.reduceAdd, Nat.reduceEqDiff, Nat.reduceLT, Nat.reduceLeDiff, wj, ← List.map_take, ← List.map_drop]
  generalize hls : (g.lines.map vrow) = L at hlen
  generalize g.lines.length = n at *
  refine LoopK.at (fun b : Nat × List AObj => [(5, .d (.sc (.int .i64 b.1))), (4, .d (.sc (.int .i64 n))), (1, .ptr 0 0), (3, .vec 1 b.1 1)]) (fun b => b.2)
    (fun m b => m + b.1 = n ∧ b.2.length = 2 + 2 * b.1 ∧ Tab (.cells [.d (.sl 35 L), .d (.sl 2 (g.edges.map erow))]) n b.1 (List.replicate b.1 (List.replicate n false)) b.2) n (0, [.cells [.d (.sl 35 L), .d (.sl 2 (g.edges.map erow))], .vec 38 1 []]) (by simp [SubB, Go.Bb.look, hlen]) rfl ⟨rfl, rfl, ⟨rfl, rfl, by simp, rfl, by simp⟩⟩ ?_
  rintro m ⟨k, s⟩ ⟨hm, hsl, ht⟩
  dsimp only at hm hsl ht ⊢
  by_cases hlt : k < n
  · have h1 : decide ((k : Int) < (n : Int)) = true := by simpa using hlt
    have h3 : IntKind.i64.wrap ((k : Int) + 1) = ((k + 1 : Nat) : Int) := wrapN (by omega) (by omega)
    have n1 : (n : Int) * ((1 : Nat) : Int) ≤ 140737488355328 := by omega
    have n2 : (n : Int) ≤ 140737488355328 := by omega
    have hV : ∀ K, (s ++ K)[1]? = some (.vec 38 1 (hands n k)) := fun K => (ht.app K).v
    have n3 : (k + 1) * 24 ≤ 140737488355328 := by omega
    have n4 : k ≤ 9223372036854775806 := by omega
    have hh := hands_len n k
    have hmore := ht.more hsl (y := .vec 38 1 [.vec s.length n 1])
    rw [repl_snoc] at hmore
    simp only [roomOk, h1, h3, n1, n2, n3, n4, hV, hh, Nat.mul_one, ↓Both_true, ↓Both_false, wx, reduceCtorEq, reduceIte, Nat.reduceAdd, Nat.reduceEqDiff, Nat.reduceLT, Nat.reduceLeDiff, wj, ← List.map_take, ← List.map_drop]
    refine ⟨m - 1, (k + 1, _), by omega, ⟨rfl, rfl⟩, rfl, by dsimp only; omega, ?_, hmore⟩
    simp only [List.length_set, List.length_append, List.length_cons, List.length_nil]; omega
  · have hk : k = n := by omega
    subst hk
    have h1 : decide ((k : Int) < (k : Int)) = false := by simp
    simp only [h1, ↓Both_true, ↓Both_false, wx, reduceCtorEq, reduceIte, Nat.reduceAdd, Nat.reduceEqDiff, Nat.reduceLT, Nat.reduceLeDiff, wj, ← List.map_take, ← List.map_drop]
    clear hm h1 hlt
    refine LoopK.at (fun b : Nat × List AObj => [(6, .d (.sc (.int .i64 b.1))), (4, .d (.sc (.int .i64 k))), (1, .ptr 0 0), (3, .vec 1 k 1)]) (fun b => b.2)
      (fun m b => m + b.1 = g.edges.length ∧ Tab (.cells [.d (.sl 35 L), .d (.sl 2 (g.edges.map erow))]) k k (edgeT k (g.edges.take b.1)) b.2) g.edges.length (0, s) (by simp [SubB, Go.Bb.look]) rfl ⟨rfl, ht⟩ ?_
    clear hsl ht s m
    rintro m ⟨q, s⟩ ⟨hm, ht⟩
    dsimp only at hm ht ⊢
    have hA : s[0]? = some (.cells [.d (.sl 35 L), .d (.sl 2 (g.edges.map erow))]) := ht.a
    by_cases hlt : q < g.edges.length
    · have h1 : decide ((q : Int) < (g.edges.length : Int)) = true := by simpa using hlt
      have h2 : g.edges[q]? = some g.edges[q] := List.getElem?_eq_getElem hlt
      have h3 : IntKind.i64.wrap ((q : Int) + 1) = ((q + 1 : Nat) : Int) := wrapN (by omega) (by omega)
      have h4 := edgeT_take (n := k) hlt
      have hin := hrange g.edges[q] (List.getElem_mem _)
      generalize g.edges[q] = e at h2 h4 hin
      obtain ⟨e1, e2⟩ := e
      dsimp only at hin
      have hA' : ∀ K, (s ++ K)[0]? = some (.cells [.d (.sl 35 L), .d (.sl 2 (g.edges.map erow))]) := fun K => (ht.app K).a
      have hV : ∀ K, (s ++ K)[1]? = some (.vec 38 1 (hands k k)) := fun K => (ht.app K).v
      have hh := hands_len k k
      have hfin : ∀ {s' : List AObj}, Tab (.cells [.d (.sl 35 L), .d (.sl 2 (g.edges.map erow))]) k k (addE (edgeT k (g.edges.take q)) (e1, e2)) s' → ∃ (m' : Nat) (b' : Nat × List AObj), m' < m ∧ ((q + 1 : Nat) : Int) = (b'.1 : Int) ∧ s' = b'.2 ∧ m' + b'.1 = g.edges.length ∧ Tab (.cells [.d (.sl 35 L), .d (.sl 2 (g.edges.map erow))]) k k (edgeT k (g.edges.take b'.1)) b'.2 := fun {s'} h =>
        ⟨m - 1, (q + 1, s'), by omega, rfl, rfl, by dsimp only; omega, by dsimp only; rw [h4]; exact h⟩
      cases g1 : decide (e1 ≥ 0) with
      | false =>
        have hadd : addE (edgeT k (g.edges.take q)) (e1, e2) = edgeT k (g.edges.take q) := if_neg (by simp at g1 ⊢; omega)
        rw [hadd] at hfin
        simp only [hA, hA', h1, h2, h3, g1, erow, ↓Both_true, ↓Both_false, wx, reduceCtorEq, reduceIte, Nat.reduceAdd, Nat.reduceEqDiff, Nat.reduceLT, Nat.reduceLeDiff, wj, ← List.map_take, ← List.map_drop]
        exact hfin (ht.app _)
      | true =>
        cases g2 : decide (e2 ≥ 0) with
        | false =>
          have hadd : addE (edgeT k (g.edges.take q)) (e1, e2) = edgeT k (g.edges.take q) := if_neg (by simp at g2 ⊢; omega)
          rw [hadd] at hfin
          simp only [hA, hA', h1, h2, h3, g1, g2, erow, ↓Both_true, ↓Both_false, wx, reduceCtorEq, reduceIte, Nat.reduceAdd, Nat.reduceEqDiff, Nat.reduceLT, Nat.reduceLeDiff, wj, ← List.map_take, ← List.map_drop]
          exact hfin (ht.app _)
        | true =>
          obtain ⟨i, rfl⟩ : ∃ i : Nat, e1 = (i : Int) := ⟨e1.toNat, by simp at g1; omega⟩
          obtain ⟨j, rfl⟩ : ∃ j : Nat, e2 = (j : Int) := ⟨e2.toNat, by simp at g2; omega⟩
          have hik : i < k := by omega
          have hjk : j < k := by omega
          have hadd : addE (edgeT k (g.edges.take q)) ((i : Int), (j : Int)) = putR (edgeT k (g.edges.take q)) i j true := if_pos ⟨by dsimp only; omega, by dsimp only; omega⟩
          rw [hadd] at hfin
          have hhi := hands_get (n := k) hik
          obtain ⟨r, r1, r2, r3⟩ := ht.row_rel hik hjk
          have hr : ∀ K, (s ++ K)[2 + 2 * i]? = some (.vec 4 1 (r.map fun b => .d (.sc (.bool b)))) := fun K => by
            obtain ⟨x, x1, x2, x3⟩ := (ht.app K).row_get hik
            rw [x3.1, ← x3.2, r3.1]; rfl
          have hjr : j + 1 ≤ k := by omega
          have hput := rblk_set' r j true (by omega)
          simp only [hA, hA', hV, h1, h2, h3, g1, g2, hh, hik, hjk, hhi, hr, r1, hjr, erow, Nat.mul_one, decide_true, ↓Both_true, ↓Both_false, wx, reduceCtorEq, reduceIte, Nat.reduceAdd, Nat.reduceEqDiff, Nat.reduceLT, Nat.reduceLeDiff, wj, ← List.map_take, ← List.map_drop]
          rw [← hput, ← r3.1]
          exact ⟨(ordF_coarse (by simp only [List.map_cons, List.map_nil, coarse_rd, coarse_wr]; rfl)), hfin ((ht.app _).put hik true)⟩
    · have hq : g.edges.take q = g.edges := List.take_of_length_le (by omega)
      rw [hq] at ht
      have h1 : decide ((q : Int) < (g.edges.length : Int)) = false := by simpa using hlt
      simp only [hA, h1, ↓Both_true, ↓Both_false, wx, reduceCtorEq, reduceIte, Nat.reduceAdd, Nat.reduceEqDiff, Nat.reduceLT, Nat.reduceLeDiff, wj, ← List.map_take, ← List.map_drop]
      clear hm hq h1 hlt hA
      generalize edgeT k g.edges = R at ht ⊢
      refine LoopK.at (fun b : Nat × List AObj => [(8, .d (.sc (.int .i64 b.1))), (4, .d (.sc (.int .i64 k))), (3, .vec 1 k 1)]) (fun b => b.2)
        (fun m b => m + b.1 = k ∧ Tab (.cells [.d (.sl 35 L), .d (.sl 2 (g.edges.map erow))]) k k (war k R b.1) b.2) k (0, s) (by simp [SubB, Go.Bb.look]) rfl ⟨rfl, ht⟩ ?_
      clear ht s m
      rintro m ⟨x, s⟩ ⟨hm, ht⟩
      dsimp only at hm ht ⊢
      by_cases hxk : x < k
      · have h1 : decide ((x : Int) < (k : Int)) = true := by simpa using hxk
        have h3 : IntKind.i64.wrap ((x : Int) + 1) = ((x + 1 : Nat) : Int) := wrapN (by omega) (by omega)
        have hws := war_succ k R x
        generalize war k R x = R1 at ht hws
        simp only [h1, ↓Both_true, ↓Both_false, wx, reduceCtorEq, reduceIte, Nat.reduceAdd, Nat.reduceEqDiff, Nat.reduceLT, Nat.reduceLeDiff, wj, ← List.map_take, ← List.map_drop]
        refine LoopK.at (fun b : Nat × List AObj => [(9, .d (.sc (.int .i64 b.1))), (8, .d (.sc (.int .i64 x))), (4, .d (.sc (.int .i64 k))), (3, .vec 1 k 1)]) (fun b => b.2)
          (fun m b => m + b.1 = k ∧ Tab (.cells [.d (.sl 35 L), .d (.sl 2 (g.edges.map erow))]) k k (warI k x R1 b.1) b.2) k (0, s) (by simp [SubB, Go.Bb.look]) rfl ⟨rfl, ht⟩ ?_
        clear ht s
        rintro m1 ⟨i, s⟩ ⟨hm1, ht⟩
        dsimp only at hm1 ht ⊢
        by_cases hik : i < k
        · have g1 : decide ((i : Int) < (k : Int)) = true := by simpa using hik
          have g3 : IntKind.i64.wrap ((i : Int) + 1) = ((i + 1 : Nat) : Int) := wrapN (by omega) (by omega)
          have hwi := warI_succ k x R1 i
          generalize warI k x R1 i = R2 at ht hwi
          simp only [g1, ↓Both_true, ↓Both_false, wx, reduceCtorEq, reduceIte, Nat.reduceAdd, Nat.reduceEqDiff, Nat.reduceLT, Nat.reduceLeDiff, wj, ← List.map_take, ← List.map_drop]
          refine LoopK.at (fun b : Nat × List AObj => [(10, .d (.sc (.int .i64 b.1))), (9, .d (.sc (.int .i64 i))), (8, .d (.sc (.int .i64 x))), (4, .d (.sc (.int .i64 k))), (3, .vec 1 k 1)]) (fun b => b.2)
            (fun m b => m + b.1 = k ∧ Tab (.cells [.d (.sl 35 L), .d (.sl 2 (g.edges.map erow))]) k k (warJ x i R2 b.1) b.2) k (0, s) (by simp [SubB, Go.Bb.look]) rfl ⟨rfl, ht⟩ ?_
          clear ht s
          rintro m2 ⟨j, s⟩ ⟨hm2, ht⟩
          dsimp only at hm2 ht ⊢
          by_cases hjk : j < k
          · have f1 : decide ((j : Int) < (k : Int)) = true := by simpa using hjk
            have f3 : IntKind.i64.wrap ((j : Int) + 1) = ((j + 1 : Nat) : Int) := wrapN (by omega) (by omega)
            have hwj := warJ_succ x i R2 j
            generalize warJ x i R2 j = R3 at ht hwj
            have hV := ht.v
            have hh := hands_len k k
            have hhi := hands_get (n := k) hik
            have hhx := hands_get (n := k) hxk
            obtain ⟨r, r1, r2, r3, r4⟩ := ht.row_rel hik hjk
            obtain ⟨r', r1', r2', r3', r4'⟩ := ht.row_rel hik hxk
            obtain rfl : r = r' := r3.symm.trans r3'
            obtain ⟨u, u1, u2, u3, u4⟩ := ht.row_rel hxk hjk
            unfold rblk at r2 u2
            have hjr : j + 1 ≤ k := by omega
            have hfin : ∀ {s' : List AObj}, Tab (.cells [.d (.sl 35 L), .d (.sl 2 (g.edges.map erow))]) k k (wput R3 x i j) s' → ∃ (m' : Nat) (b' : Nat × List AObj), m' < m2 ∧ ((j + 1 : Nat) : Int) = (b'.1 : Int) ∧ s' = b'.2 ∧ m' + b'.1 = k ∧ Tab (.cells [.d (.sl 35 L), .d (.sl 2 (g.edges.map erow))]) k k (warJ x i R2 b'.1) b'.2 := fun {s'} h =>
              ⟨m2 - 1, (j + 1, s'), by omega, rfl, rfl, by dsimp only; omega, by dsimp only; rw [hwj]; exact h⟩
            unfold wput at hfin
            have hput := fun b => rblk_set' r j b (by omega)
            cases b1 : rel R3 i j with
            | true =>
              rw [b1] at r4 hfin
              simp only [hV, f1, f3, hh, hik, hjk, hxk, hhi, hhx, r1, r2, r4, hjr, Nat.mul_one, undef, ↓Both_true, ↓Both_false, wx, reduceCtorEq, reduceIte, Nat.reduceAdd, Nat.reduceEqDiff, Nat.reduceLT, Nat.reduceLeDiff, wj, ← List.map_take, ← List.map_drop]
              rw [← hput, ← r3]
              exact ⟨(ordF_coarse (by simp only [List.map_cons, List.map_nil, coarse_rd, coarse_wr]; rfl)), hfin (ht.put hik true)⟩
            | false =>
              cases b2 : rel R3 i x with
              | false =>
                rw [b1] at r4
                rw [b2] at r4'
                rw [b1, b2] at hfin
                simp only [hV, f1, f3, hh, hik, hjk, hxk, hhi, hhx, r1, r2, r4, r4', hjr, Nat.mul_one, ↓Both_true, ↓Both_false, wx, reduceCtorEq, reduceIte, Nat.reduceAdd, Nat.reduceEqDiff, Nat.reduceLT, Nat.reduceLeDiff, wj, ← List.map_take, ← List.map_drop]
                rw [← hput, ← r3]
                exact ⟨(ordF_coarse (by simp only [List.map_cons, List.map_nil, coarse_rd, coarse_wr]; rfl)), hfin (ht.put hik false)⟩
              | true =>
                rw [b1] at r4
                rw [b2] at r4'
                rw [b1, b2] at hfin
                simp only [hV, f1, f3, hh, hik, hjk, hxk, hhi, hhx, r1, r2, r4, r4', u1, u2, u4, hjr, Nat.mul_one, ↓Both_true, ↓Both_false, wx, reduceCtorEq, reduceIte, Nat.reduceAdd, Nat.reduceEqDiff, Nat.reduceLT, Nat.reduceLeDiff, wj, ← List.map_take, ← List.map_drop]
                rw [← hput, ← r3]
                exact ⟨(ordF_coarse (by simp only [List.map_cons, List.map_nil, coarse_rd, coarse_wr]; rfl)), hfin (ht.put hik (rel R3 x j))⟩
          · have hj : j = k := by omega
            subst hj
            have f1 : decide ((j : Int) < (j : Int)) = false := by simp
            simp only [f1, g3, ↓Both_true, ↓Both_false, wx, reduceCtorEq, reduceIte, Nat.reduceAdd, Nat.reduceEqDiff, Nat.reduceLT, Nat.reduceLeDiff, wj, ← List.map_take, ← List.map_drop]
            refine ⟨m1 - 1, (i + 1, s), by omega, rfl, rfl, by dsimp only; omega, by dsimp only; rw [hwi]; exact ht⟩
        · have hj : i = k := by omega
          subst hj
          have g1 : decide ((i : Int) < (i : Int)) = false := by simp
          simp only [g1, h3, ↓Both_true, ↓Both_false, wx, reduceCtorEq, reduceIte, Nat.reduceAdd, Nat.reduceEqDiff, Nat.reduceLT, Nat.reduceLeDiff, wj, ← List.map_take, ← List.map_drop]
          refine ⟨m - 1, (x + 1, s), by omega, rfl, rfl, by dsimp only; omega, by dsimp only; rw [hws]; exact ht⟩
      · have hj : x = k := by omega
        subst hj
        have g1 : decide ((x : Int) < (x : Int)) = false := by simp
        have hd := ht.deep
        simp only [g1, ↓hd, ↓Both_true, ↓Both_false, wx, reduceCtorEq, reduceIte, Nat.reduceAdd, Nat.reduceEqDiff, Nat.reduceLT, Nat.reduceLeDiff, wj, ← List.map_take, ← List.map_drop]
end Go.Proofs.Lg
