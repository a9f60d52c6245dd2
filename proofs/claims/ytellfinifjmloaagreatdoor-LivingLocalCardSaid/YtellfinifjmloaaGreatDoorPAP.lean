/- Lemmas. -/
import Derived.Shelf.Strings.Builder1
import Derived.Shelf.Small.Bits
import Derived.Shelf.Small.Strs
import Derived.Shelf.Strconv.Itoa0
import Derived.Shelf.Strconv.Itoa1
import Derived.Shelf.LaysM
import Derived.Shelf.Strconv.Itoa2
import Derived.Shelf.Strconv.Itoa3
import Derived.Shelf.Strings.Search1
import Derived.Shelf.Slices.Turned
import Derived.Ground.Names2Prog
import Derived.Shelf.Slices.SearchI
import Derived.Test.YtellfinifjmloaaGreatDoorPAO
import Derived.Ground.SlsfProg
import Derived.Shelf.SlSortCmp.NoneTotal
set_option linter.unusedVariables false
set_option linter.unusedSimpArgs false
namespace Go.Proofs.Q
open Go Go.Ab Go.Bb
def CL:CF:=⟨16, (kq [o0 2 (.box (.t 0)),ox 3 1,kB 4 cQ] (.seq (kq [o1 5 0 2,o2 6 32 5,o6 7 119 [.t 6],om 8 7,kF 9 8 true 32 2,kL 10 8 true 9,kG 11 8 true .geq (.t 10) (xi 0),kP 12 8 11] (kd 12 (fo [o2 13 32 3,o1 14 0 2,o8 32 14 13]) .skip)) (kq [o2 15 33 2,o8 33 4 15] .ret))),[.cell 4 (some 33)]⟩
theorem Yh:aN Tryz.prog [100003] 77=some CL.erase:=by kernel_rfl
def tg:CF:=⟨94, (kq [ox 1 0,kM 2 (.c (.nil 172)),o7 3 0] (kq [o2 14 5 1,o6 15 69 [.t 14],om 13 15,oe 16 13 0,oe 17 13 1,kB 4 ej,o8 32 4 16,om 5 17] (.seq (kq [om 18 5,o5 19 .neq 18 0] (kd 19 (kq [o0 20 (.bsf 172 0 [] []),om 21 5,om 2 20,om 3 21] .ret) .skip)) (kq [o2 23 5 1,o6 24 76 [.t 23],om 22 24,oe 25 22 0,oe 26 22 1,om 6 25,om 7 26] (kq [o0 27 (.bsl false 32 172 0 [] []),om 8 27] (.seq (kq [o7 9 0] (.block 0 (.loop (.trim [9,8,4,6] (.seq (kq [om 28 9,om 29 6,o9 30 0 29,o4 31 .lss 28 30] (kd 31 .skip (.exit 0))) (.seq (.block 1 (kq [om 34 6,om 35 9,oi 36 172 34 35,o2 37 172 36,kB 10 dZ,o8 172 10 37] (kq [o2 38 32 4,o1 39 0 10,o1 40 0 39,o8 32 40 38] (.seq (kq [o1 41 33 10,o3 42 41,o5 43 .neq 42 7] (kd 43 (fo [o1 44 34 10,o2 45 33 44,o2 46 32 4,o6 47 77 [.t 45,.t 46],o1 48 34 10,o8 33 48 47]) .skip)) (.seq (kq [o1 49 33 10,o3 50 49,o5 51 .eql 50 2] (kd 51 (fo [o1 52 68 10,o2 53 33 52,o2 54 32 4,o6 55 77 [.t 53,.t 54],o1 56 68 10,o8 33 56 55]) .skip)) (.seq (kq [o1 57 33 10,o3 58 57,o5 59 .eql 58 6] (kd 59 (.ops true [0,1,0,7,0,16,0,127,63,511,1023,2047] [o1 60 105 10,o2 61 33 60,o2 62 32 4,o6 63 77 [.t 61,.t 62],o1 64 138 10,o2 65 33 64,o2 66 32 4,o6 67 77 [.t 65,.t 66],o1 68 105 10,o8 33 68 63,o1 69 138 10,o8 33 69 67]) .skip)) (kq [o0 70 (.bsf 33 0 [] []),om 11 70] (.seq (kq [o7 12 0] (.block 2 (.loop (.trim [12,4,10,11,8,9,6] (.seq (kq [om 71 12,o1 72 171 10,o3 73 72,o9 74 0 73,o4 75 .lss 71 74] (kd 75 .skip (.exit 2)))
 (.seq (.block 3 (.ops true [0,0,2,0,14,30,0,126,255,511] [om 78 11,o1 79 171 10,o3 80 79,om 81 12,oi 82 33 80 81,o2 83 33 82,o2 84 32 4,o6 85 77 [.t 83,.t 84],o6 86 78 [.t 78,.t 85],om 11 86])) (fo [om 76 12,o5 77 .add 76 1,om 12 77]))))))) (kq [om 87 11,o1 88 171 10,o8 1 88 87] (fo [om 89 8,o2 90 172 10,o0 91 (.bsf 172 1 ee [(0,172,(.t 90))]),o0 92 (.app false 32 172 296 (.t 89) (.t 91)),om 8 92])))))))))) (fo [om 32 9,o5 33 .add 32 1,om 9 33]))))))) (kq [om 93 8,om 2 93,o7 3 0] .ret))))))),[.tmp 2,.tmp 3]⟩
theorem Mq:aN Tryz.prog [100001,100020,100070,100091] 30=some tg.erase:=by kernel_rfl
def Cn:CF:=⟨49, (kq [ox 3 1,kM 4 (.c (.nil 32))] (kq [o7 5 0] (.seq (.block 0 (.loop (.trim [5,3,0] (.seq (.seq (.ops true [0,0,2,7,15,31,31,127,255,31,1023,2047,4095] [om 7 5,om 8 0,o9 9 0 8,o4 10 .lss 7 9,om 11 10,oh 12 11 true 0,oh 13 11 true 5,og 14 11 true (.iad 32 (.t 12) (.t 13)),og 15 11 true (.ld (some 32) (.t 14)),og 16 11 true (.ld (some 32) (.t 3)),og 17 11 true (.call (.fn 70) [.t 15,.t 16]),kG 18 11 true .lss (.t 17) (xi 0),kP 19 11 18]) (kd 19 .skip (.exit 0))) (.block 1 (fo [om 20 5,o5 21 .add 20 1,om 5 21])))))) (.seq (.seq (.ops true [0,0,2,7,15,31,31,127,255,31,1023,2047] [om 22 5,om 23 0,o9 24 0 23,o4 25 .lss 22 24,om 26 25,oh 27 26 true 0,oh 28 26 true 5,og 29 26 true (.iad 32 (.t 27) (.t 28)),og 30 26 true (.ld (some 32) (.t 29)),og 31 26 true (.ld (some 32) (.t 3)),og 32 26 true (.eqa true eV false (.t 30) (.t 31)),kP 33 26 32]) (kd 33 (kq [om 34 0,om 4 34] .ret) .skip)) (kq [o0 35 (.bsl false 25 32 0 [] []),om 36 0,om 37 5,o0 38 (.slc 32 (.t 36) none (some (.t 37))),o0 39 (.app false 25 32 32 (.t 35) (.t 38)),om 6 39] (kq [om 40 6,o2 41 32 3,o0 42 (.bsf 32 1 ej [(0,32,(.t 41))]),o0 43 (.app false 25 32 32 (.t 40) (.t 42)),om 6 43] (kq [om 44 6,om 45 0,om 46 5,o0 47 (.slc 32 (.t 45) (some (.t 46)) none),o0 48 (.app false 25 32 32 (.t 44) (.t 47)),om 4 48] .ret))))))),[.tmp 4]⟩
theorem XY:aN Tryz.prog [100003,100042] 118=some Cn.erase:=by kernel_rfl
def tq:CF:=⟨73, (kq [ox 1 0,kM 2 (.c (.nil 32))] (kq [o0 9 (.bsf 32 0 [] []),om 3 9] (.seq (kq [o2 10 5 1,o6 11 64 [.t 10],o5 12 .neq 11 0] (kd 12 (kq [om 13 3,om 2 13] .ret) .skip)) (.seq (kq [o7 4 0] (.block 0 (.loop (.trim [4,1,3] (.seq (kq [om 14 4,o1 15 3 1,o3 16 15,o9 17 0 16,o4 18 .lss 14 17] (kd 18 .skip (.exit 0))) (.seq (.block 1 (fo [om 21 3,o1 22 3 1,o3 23 22,om 24 4,oi 25 32 23 24,o2 26 32 25,o6 27 118 [.t 21,.t 26],om 3 27])) (fo [om 19 4,o5 20 .add 19 1,om 4 20]))))))) (.seq (kq [o7 5 0] (.block 2 (.loop (.trim [5,3,1] (.seq (kq [om 28 5,o1 29 4 1,o3 30 29,o9 31 0 30,o4 32 .lss 28 31] (kd 32 .skip (.exit 2))) (.seq (.block 3 (kq [o1 35 4 1,o3 36 35,om 37 5,oi 38 139 36 37,o2 39 139 38,kB 6 oH,o8 139 6 39] (kq [o1 40 1 6,o2 41 33 40,o1 42 35 6,o2 43 33 42,o1 44 71 6,o2 45 33 44,o1 46 104 6,o2 47 33 46,o0 48 (.bsl false 27 33 4 PJ [(0,33,(.t 41)),(33,33,(.t 43)),(66,33,(.t 45)),(99,33,(.t 47))]),o1 49 138 6,o3 50 49,o0 51 (.app false 27 33 40 (.t 48) (.t 50)),om 7 51] (kq [o7 8 0] (.block 4 (.loop (.trim [8,7,3,5,1] (.seq (kq [om 52 8,om 53 7,o9 54 0 53,o4 55 .lss 52 54] (kd 55 .skip (.exit 4))) (.seq (.block 5 (kq [om 58 7,om 59 8,oi 60 33 58 59,o1 61 0 60,o2 62 32 61,o6 63 119 [.t 62],o0 64 (.not (.t 63))] (kd 64 (fo [om 65 3,om 66 7,om 67 8,oi 68 33 66 67,o1 69 0 68,o2 70 32 69,o6 71 118 [.t 65,.t 70],om 3 71]) .skip))) (fo [om 56 8,o5 57 .add 56 1,om 8 57])))))))))) (fo [om 33 5,o5 34 .add 33 1,om 5 34])))))))
 (kq [om 72 3,om 2 72] .ret)))))),[.tmp 2]⟩
theorem Mv:aN Tryz.prog [100001,100009] 73=some tq.erase:=by kernel_rfl
def Cm:CF:=⟨26, (kq [kM 4 xF] (.seq (kq [om 6 0,o9 7 0 6,om 8 1,o9 9 0 8,o4 10 .neq 7 9] (kd 10 (kq [kM 4 xF] .ret) .skip)) (.seq (kq [o7 5 0] (.block 0 (.loop (.trim [5,1,0] (.seq (kq [om 11 5,om 12 0,o9 13 0 12,o4 14 .lss 11 13] (kd 14 .skip (.exit 0))) (.seq (.block 1 (.seq (.ops true [0,0,3,7,0,0,48,112,255] [om 17 0,om 18 5,oi 19 33 17 18,o2 20 33 19,om 21 1,om 22 5,oi 23 33 21 22,o2 24 33 23,o0 25 (.eqa true cJ true (.t 20) (.t 24))]) (kd 25 (kq [kM 4 xF] .ret) .skip))) (fo [om 15 5,o5 16 .add 15 1,om 5 16]))))))) (kq [kM 4 xT] .ret)))),[.tmp 4]⟩
theorem Mx:aN Tryz.prog [] 18=some Cm.erase:=by kernel_rfl
def Ch:CF:=⟨57, (kq [ox 1 0,kM 2 xF] (kq [o1 6 0 1,o3 7 6,o9 8 1 7,o1 9 1 1,o3 10 9,o9 11 1 10,o4 12 .add 8 11,om 3 12] (.seq (kq [o7 4 0] (.block 0 (.loop (.trim [3,4,1] (.seq (kq [om 13 4,o1 14 4 1,o3 15 14,o9 16 0 15,o4 17 .lss 13 16] (kd 17 .skip (.exit 0))) (.seq (.block 1 (kq [o1 20 4 1,o3 21 20,om 22 4,oi 23 139 21 22,o2 24 139 23,kB 5 oH,o8 139 5 24] (.seq (kq [o1 25 137 5,o3 26 25,o6 27 79 [.t 26],om 28 27,kF 29 28 false 138 5,kL 30 28 false 29,og 31 28 false (.len 0 (.t 30)),kG 32 28 false .gtr (.t 31) (xi 40),kR 33 28 32] (kd 33 (kq [kM 2 xT] .ret) .skip)) (fo [om 34 3,o1 35 68 5,o3 36 35,o9 37 1 36,o4 38 .add 34 37,o1 39 70 5,o3 40 39,o9 41 1 40,o4 42 .add 38 41,om 3 42])))) (fo [om 18 4,o5 19 .add 18 1,om 4 19]))))))) (kq [om 43 3,o5 44 .gtr 43 3000,om 45 44,kF 46 45 false 3 1,kL 47 45 false 46,og 48 45 false (.len 0 (.t 47)),kG 49 45 false .gtr (.t 48) (xi 20),kR 50 45 49,om 51 50,kF 52 51 false 4 1,kL 53 51 false 52,og 54 51 false (.len 0 (.t 53)),kG 55 51 false .gtr (.t 54) (xi 20),kR 56 51 55,om 2 56] .ret)))),[.tmp 2]⟩
theorem XV:aN Tryz.prog [100001] 31=some Ch.erase:=by kernel_rfl
end Go.Proofs.Q
namespace Go.Proofs.Q
open Go Go.Bb Go.Proofs.Lg
open Go.Ab (D)
def nD:List AV:=(aj .zero).map .d++[.d (.sc .nilFunc)]
def cy(x:af)(a:AV):List AV:=(aj x).map .d++[a]
theorem ey(x:af)(a:AV):(cy x a).length=34:=by simp[cy,az]
theorem yK:nD.length=34:=by simp[nD,az]
theorem EC(x:af):b8 nD 0 33 ((aj x).map .d)=some (cy x (.d (.sc .nilFunc))):=by
 unfold b8 nD cy;rw[if_pos ⟨by simp[az],by simp[az]⟩];simp[az,gB,gC]
theorem E5(x:af)(a b:AV):b8 (cy x a) 33 1 [b]=some (cy x b):=by
 unfold b8 cy;rw[if_pos ⟨rfl,by simp[az]⟩];simp[az,List.take_append,dq,gB,gC]
end Go.Proofs.Q
namespace Go.Proofs
open Go.Shelf
def Tryz.lays125_ren:Go.Shelf.Ren:=⟨fun|125=>91|128=>145|129=>146|n=>n,fun|46=>124|3=>3|51=>174|53=>176|4=>4|5=>5|9=>9|n=>n,fun|n=>n⟩
theorem Tryz.lays125:Go.Proofs.Lays.n125 Tryz.prog Tryz.lays125_ren:={
 mixed:=by kernel_rfl
 f125:=Tryz.func91.trans (congrArg some (by kernel_rfl))
 f128:=Tryz.func145.trans (congrArg some (by kernel_rfl))
 f129:=Tryz.func146.trans (congrArg some (by kernel_rfl))
 t3:=Tryz.underlying3
 a3:=Tryz.isAgg3
 z3:=Tryz.sizeOf3
 v3:=Tryz.zeroValue3
 t4:=Tryz.underlying4
 a4:=Tryz.isAgg4
 z4:=Tryz.sizeOf4
 v4:=Tryz.zeroValue4
 t5:=Tryz.underlying5
 a5:=Tryz.isAgg5
 z5:=Tryz.sizeOf5
 v5:=Tryz.zeroValue5
 t9:=Tryz.underlying9
 a9:=Tryz.isAgg9
 z9:=Tryz.sizeOf9
 v9:=Tryz.zeroValue9
 t46:=Tryz.underlying124
 a46:=Tryz.isAgg124
 z46:=Tryz.sizeOf124
 v46:=Tryz.zeroValue124
 t51:=Tryz.underlying174
 a51:=Tryz.isAgg174
 z51:=Tryz.sizeOf174
 v51:=Tryz.zeroValue174
 t53:=Tryz.underlying176
 a53:=Tryz.isAgg176
 z53:=Tryz.sizeOf176
 v53:=Tryz.zeroValue176}
theorem Tryz.bits_Len(x:Int)(w:World)(a:0≤x)(b:x≤18446744073709551615):
 Calls Tryz.prog 91 #[.int .u64 x] w fun e w'=>e= .returned (.int .i64 (Lib.bitLen x.toNat))∧w'=w:=Any.bits_Len Tryz.lays125 x w a b
def Tryz.lays137_ren:Go.Shelf.Ren:=⟨fun|137=>242|217=>283|266=>302|n=>n,fun|9=>9|5=>5|3=>3|n=>n,fun|n=>n⟩
theorem Tryz.lays137:Go.Proofs.Lays.n137 Tryz.prog Tryz.lays137_ren:={
 mixed:=by kernel_rfl
 f137:=Tryz.func242.trans (congrArg some (by kernel_rfl))
 f217:=Tryz.func283.trans (congrArg some (by kernel_rfl))
 f266:=Tryz.func302.trans (congrArg some (by kernel_rfl))
 t3:=Tryz.underlying3
 a3:=Tryz.isAgg3
 z3:=Tryz.sizeOf3
 v3:=Tryz.zeroValue3
 t5:=Tryz.underlying5
 a5:=Tryz.isAgg5
 z5:=Tryz.sizeOf5
 v5:=Tryz.zeroValue5
 t9:=Tryz.underlying9
 a9:=Tryz.isAgg9
 z9:=Tryz.sizeOf9
 v9:=Tryz.zeroValue9}
open Go.RowKit in
theorem Tryz.strings_IndexByte(s:ByteArray)(c:Int)(w:World):
 Calls Tryz.prog 242 #[.string s,.int .u8 c] w fun e w'=>e= .returned (.int .i64 (Lib.indexByte s.data.toList c.toNat.toUInt8))∧w'=w:=Any.strings_IndexByte Tryz.lays137 s c w
def Tryz.laysM171_ren:Go.Shelf.Ren:=⟨fun|171=>284|243=>303|246=>308|283=>311|284=>312|285=>313|286=>314|129=>146|317=>315|318=>316|319=>317|320=>318|337=>319|338=>320|n=>n,fun|3=>3|9=>9|2=>2|4=>4|171=>307|0=>0|53=>176|37=>126|5=>5|173=>309|212=>312|51=>174|20=>20|213=>313|46=>124|232=>24|233=>314|n=>n,fun|17=>1|18=>2|19=>3|n=>n⟩
theorem Tryz.laysM171:Go.Proofs.LaysM.n171 Tryz.prog Tryz.laysM171_ren:={
 mixed:=by kernel_rfl
 f129:=Tryz.func146.trans (congrArg some (by kernel_rfl))
 f171:=Tryz.func284.trans (congrArg some (by kernel_rfl))
 f243:=Tryz.func303.trans (congrArg some (by kernel_rfl))
 f246:=Tryz.func308.trans (congrArg some (by kernel_rfl))
 f283:=Tryz.func311.trans (congrArg some (by kernel_rfl))
 f284:=Tryz.func312.trans (congrArg some (by kernel_rfl))
 f285:=Tryz.func313.trans (congrArg some (by kernel_rfl))
 f286:=Tryz.func314.trans (congrArg some (by kernel_rfl))
 f317:=Tryz.func315.trans (congrArg some (by kernel_rfl))
 f318:=Tryz.func316.trans (congrArg some (by kernel_rfl))
 f319:=Tryz.func317.trans (congrArg some (by kernel_rfl))
 f320:=Tryz.func318.trans (congrArg some (by kernel_rfl))
 f337:=Tryz.func319.trans (congrArg some (by kernel_rfl))
 f338:=Tryz.func320.trans (congrArg some (by kernel_rfl))
 t0:=Tryz.underlying0
 a0:=Tryz.isAgg0
 z0:=Tryz.sizeOf0
 v0:=Tryz.zeroValue0
 t2:=Tryz.underlying2
 a2:=Tryz.isAgg2
 z2:=Tryz.sizeOf2
 v2:=Tryz.zeroValue2
 t3:=Tryz.underlying3
 a3:=Tryz.isAgg3
 z3:=Tryz.sizeOf3
 v3:=Tryz.zeroValue3
 t4:=Tryz.underlying4
 a4:=Tryz.isAgg4
 z4:=Tryz.sizeOf4
 v4:=Tryz.zeroValue4
 t5:=Tryz.underlying5
 a5:=Tryz.isAgg5
 z5:=Tryz.sizeOf5
 v5:=Tryz.zeroValue5
 t9:=Tryz.underlying9
 a9:=Tryz.isAgg9
 z9:=Tryz.sizeOf9
 v9:=Tryz.zeroValue9
 t20:=Tryz.underlying20
 a20:=Tryz.isAgg20
 z20:=Tryz.sizeOf20
 v20:=Tryz.zeroValue20
 t37:=Tryz.underlying126
 a37:=Tryz.isAgg126
 z37:=Tryz.sizeOf126
 v37:=Tryz.zeroValue126
 t46:=Tryz.underlying124
 a46:=Tryz.isAgg124
 z46:=Tryz.sizeOf124
 v46:=Tryz.zeroValue124
 t51:=Tryz.underlying174
 a51:=Tryz.isAgg174
 z51:=Tryz.sizeOf174
 v51:=Tryz.zeroValue174
 t53:=Tryz.underlying176
 a53:=Tryz.isAgg176
 z53:=Tryz.sizeOf176
 v53:=Tryz.zeroValue176
 t171:=Tryz.underlying307
 a171:=Tryz.isAgg307
 z171:=Tryz.sizeOf307
 v171:=Tryz.zeroValue307
 t173:=Tryz.underlying309
 a173:=Tryz.isAgg309
 z173:=Tryz.sizeOf309
 v173:=Tryz.zeroValue309
 t212:=Tryz.underlying312
 a212:=Tryz.isAgg312
 z212:=Tryz.sizeOf312
 v212:=Tryz.zeroValue312
 t213:=Tryz.underlying313
 a213:=Tryz.isAgg313
 z213:=Tryz.sizeOf313
 t232:=Tryz.underlying24
 a232:=Tryz.isAgg24
 z232:=Tryz.sizeOf24
 v232:=Tryz.zeroValue24
 t233:=Tryz.underlying314
 a233:=Tryz.isAgg314
 z233:=Tryz.sizeOf314
 v233:=Tryz.zeroValue314
 g17:=by kernel_rfl
 g18:=by kernel_rfl
 g19:=by kernel_rfl
 i0:=by kernel_rfl
 i2:=by kernel_rfl
 i3:=by kernel_rfl
 i4:=by kernel_rfl
 i5:=by kernel_rfl
 i9:=by kernel_rfl
 i20:=by kernel_rfl
 i37:=by kernel_rfl
 i46:=by kernel_rfl
 i51:=by kernel_rfl
 i53:=by kernel_rfl
 i171:=by kernel_rfl
 i173:=by kernel_rfl
 i212:=by kernel_rfl
 i232:=by kernel_rfl
 i233:=by kernel_rfl
 m17:=by kernel_rfl
 m18:=by kernel_rfl
 m19:=by kernel_rfl}
open Go.RowKit Go.Sort Go.Lib in
theorem Tryz.strconv_Itoa(n:Int)(b: -9223372036854775808≤n)(c:n≤9223372036854775807)(w:World)(a:Lib.TabIs Tryz.prog w "internal/strconv.uint64pow10" .u64 Lib.pow10Tab):
 Calls Tryz.prog 284 #[.int .i64 n] w fun e w'=>e= .returned (.string ⟨(Lib.itoa n).toArray⟩)∧ ∃k os,w'=grow (w.drewN k) os:=Any.strconv_Itoa Tryz.laysM171 n b c w a
end Go.Proofs
namespace Go.Proofs.Q
open Go Go.Ab Go.Bb
def Bq:CF:=⟨76, (kq [ox 1 0,kM 2 (.c (.nil 34))] (kq [o0 3 (.box (.c (.nil 34)))] (kq [o0 8 (.mkf 243 [] [.t 3]),om 4 8] (.seq (kq [o1 9 0 1,o3 10 9] (.block 0 (.seq (kq [o5 12 .eql 10 2,om 11 12] (kd 11 .skip (fo [o5 13 .eql 10 3,om 11 13]))) (kd 11 (fo [om 14 4,o1 15 1 1,o2 16 33 15,o0 17 (.call (.val (.t 14)) [.t 16,(.c (.clo 244 [] []))])]) (kq [o5 19 .eql 10 4,om 18 19] (kd 18 (fo [om 20 4,o1 21 1 1,o2 22 33 21,o0 23 (.call (.val (.t 20)) [.t 22,(.c (.clo 245 [] []))])]) (.seq (kq [o5 25 .eql 10 5,om 24 25] (kd 24 .skip (fo [o5 26 .eql 10 6,om 24 26]))) (kd 24 (fo [om 27 4,o1 28 1 1,o2 29 33 28,o0 30 (.call (.val (.t 27)) [.t 29,(.c (.clo 246 [] []))])]) .skip)))))))) (.seq (.seq (.ops true [0,1,3,7,15,31,15,127,255] [o1 31 0 1,o3 32 31,o5 33 .eql 32 2,om 34 33,kF 35 34 true 35 1,og 36 34 true (.ld (some 33) (.t 35)),og 37 34 true (.call (.fn 44) []),og 38 34 true (.eqa true cJ true (.t 36) (.t 37)),kP 39 34 38]) (kd 39 (fo [om 40 4,o1 41 35 1,o2 42 33 41,o0 43 (.call (.val (.t 40)) [.t 42,(.c (.clo 247 [] []))])]) .skip)) (.seq (kq [o1 44 0 1,o3 45 44,o5 46 .eql 45 5,om 47 46,kF 48 47 false 0 1,kL 49 47 false 48,kG 50 47 false .eql (.t 49) (xi 6),kR 51 47 50] (kd 51 (kq [o0 52 (.mkf 248 [] [.t 1]),om 5 52] (kq [om 53 4,o1 54 71 1,o2 55 33 54,om 56 5,o0 57 (.call (.val (.t 53)) [.t 55,.t 56])] (fo [om 58 4,o1 59 104 1,o2 60 33 59,om 61 5,o0 62 (.call (.val (.t 58)) [.t 60,.t 61])]))) .skip))
 (.seq (kq [o1 63 138 1,o3 64 63,o9 65 0 64,o7 66 0] (.block 1 (.loop (.trim [66,1,4,64,3,65] (kq [o4 67 .lss 66 65] (.seq (kd 67 .skip (.exit 1)) (.seq (.block 2 (kq [oi 68 33 64 66,o2 69 33 68,kB 7 cQ,o8 33 7 69] (fo [om 70 4,o2 71 33 7,o0 72 (.mkf 249 [] [.t 1]),o0 73 (.call (.val (.t 70)) [.t 71,.t 72])]))) (fo [o5 74 .add 66 1,om 66 74])))))))) (kq [o3 75 3,om 2 75] .ret)))))))),[.tmp 2]⟩
theorem X6:aN Tryz.prog [100001] 187=some Bq.erase:=by kernel_rfl
def sW:CF:=⟨11, (kq [ox 3 0] (fo [o3 5 2,o2 6 33 3,om 7 1,o0 8 (.bld nD [(0,33,(.t 6)),(33,1,(.t 7))]),o0 9 (.bsl false 213 34 1 nD [(0,34,(.t 8))]),o0 10 (.app false 213 34 48 (.t 5) (.t 9)),o8 1 2 10])),[]⟩
theorem Mj:aN Tryz.prog [100003,300008] 243=some sW.erase:=by kernel_rfl
def Br:CF:=⟨6, (kq [ox 1 0,kM 2 xF] (kq [o1 3 33 1,o3 4 3,o5 5 .eql 4 1,om 2 5] .ret)),[.tmp 2]⟩
theorem X7:aN Tryz.prog [100001] 244=some Br.erase:=by kernel_rfl
def Bs:CF:=⟨16, (kq [ox 1 0,kM 2 xF] (kq [o1 3 33 1,o3 4 3,o5 5 .eql 4 1,om 6 5,kF 7 6 true 67 1,kL 8 6 true 7,kG 9 6 true .eql (.t 8) (xi 2),oh 10 6 true 9,kF 11 10 false 67 1,kL 12 10 false 11,kG 13 10 false .eql (.t 12) (xi 3),og 14 6 true (.pick (.t 10) xT (.t 13)),kP 15 6 14,om 2 15] .ret)),[.tmp 2]⟩
theorem X8:aN Tryz.prog [100001] 245=some Bs.erase:=by kernel_rfl
def Bt:CF:=⟨11, (kq [ox 1 0,kM 2 xF] (kq [o1 3 33 1,o3 4 3,o5 5 .eql 4 1,om 6 5,kF 7 6 true 67 1,kL 8 6 true 7,kG 9 6 true .eql (.t 8) (xi 1),kP 10 6 9,om 2 10] .ret)),[.tmp 2]⟩
theorem X9:aN Tryz.prog [100001] 246=some Bt.erase:=by kernel_rfl
def Bu:CF:=⟨11, (kq [ox 1 0,kM 2 xF] (kq [o1 3 33 1,o3 4 3,o5 5 .eql 4 1,om 6 5,kF 7 6 true 67 1,kL 8 6 true 7,kG 9 6 true .eql (.t 8) (xi 4),kP 10 6 9,om 2 10] .ret)),[.tmp 2]⟩
theorem Xa:aN Tryz.prog [100001] 247=some Bu.erase:=by kernel_rfl
def Bv:CF:=⟨21, (kq [ox 2 0,kM 3 xF] (kq [o1 4 0 2,o2 5 33 4,o1 6 1 1,o2 7 33 6,o0 8 (.eqa true cJ false (.t 5) (.t 7)),om 9 8,kF 10 9 false 33 2,kL 11 9 false 10,kG 12 9 false .eql (.t 11) (xi 5),oh 13 9 false 12,kF 14 13 true 34 2,og 15 13 true (.ld (some 33) (.t 14)),kF 16 13 true 1 1,og 17 13 true (.ld (some 33) (.t 16)),og 18 13 true (.eqa true cJ false (.t 15) (.t 17)),og 19 9 false (.pick (.t 13) (.t 18) xF),kR 20 9 19,om 3 20] .ret)),[.tmp 3]⟩
theorem Xb:aN Tryz.prog [100002] 248=some Bv.erase:=by kernel_rfl
def Bw:CF:=⟨22, (kq [ox 2 0,kM 3 xF] (.seq (.ops true [0,1,3,7,15,31,15,79,207,511,1023,2047,4095,2047,10239,32767,65535,131071,262143] [o1 4 0 1,o3 5 4,o5 6 .eql 5 7,om 7 6,kF 8 7 false 33 2,kL 9 7 false 8,kF 10 7 false 0 1,kL 11 7 false 10,og 12 7 false (.call (.fn 250) [.t 11]),kG 13 7 false .eql (.t 9) (.t 12),oh 14 7 false 13,kF 15 14 true 34 2,og 16 14 true (.ld (some 33) (.t 15)),kF 17 14 true 1 1,og 18 14 true (.ld (some 33) (.t 17)),og 19 14 true (.eqa true cJ false (.t 16) (.t 18)),og 20 7 false (.pick (.t 14) (.t 19) xF),kR 21 7 20,om 3 21]) .ret)),[.tmp 3]⟩
theorem Xc:aN Tryz.prog [100002] 249=some Bw.erase:=by kernel_rfl
def B5:CF:=⟨90, (kq [ox 2 0,o7 4 0] (.seq (kq [o2 7 139 2,o6 8 187 [.t 7],o9 9 0 8,o7 10 0] (.block 0 (.loop (.trim [1,10,8,2,9] (kq [o4 11 .lss 10 9] (.seq (kd 11 .skip (.exit 0)) (.seq (.block 1 (kq [oi 12 34 8 10,o2 13 34 12,kB 6 nD,o8 34 6 13] (.block 2 (.seq (kq [o1 15 0 6,o1 16 32 15,o3 17 16,o5 18 .lss 17 0,om 14 18] (kd 14 .skip (kq [o1 19 0 6,o2 20 33 19,o6 21 132 [.t 20],om 22 21,kF 23 22 true 0 6,kF 24 22 true 32 23,kL 25 22 true 24,oh 26 22 true 1,og 27 22 true (.len 0 (.t 26)),kG 28 22 true .geq (.t 25) (.t 27),kP 29 22 28,om 14 29] (kd 14 .skip (fo [o1 30 0 6,o1 31 32 30,o3 32 31,o5 33 .geq 32 100000,om 14 33]))))) (kd 14 (kz 4 7) (.seq (.ops true [0,1,3,7,15,31,15,15,143,399,975,1999,4095,8191,16383,32767] [o1 35 0 6,o2 36 33 35,o6 37 132 [.t 36],om 38 37,kF 39 38 true 33 6,kL 40 38 true 39,oh 41 38 true 1,kF 42 38 true 0 6,kF 43 38 true 32 42,kL 44 38 true 43,og 45 38 true (.iad 172 (.t 41) (.t 44)),og 46 38 true (.ld (some 172) (.t 45)),og 47 38 true (.call (.val (.t 40)) [.t 46]),og 48 38 true (.not (.t 47)),kP 49 38 48,om 34 49]) (kd 34 (kz 4 8) .skip))))))) (fo [o5 50 .add 10 1,om 10 50])))))))) (.seq (.block 3 (kq [o1 52 0 2,o3 53 52,o5 54 .eql 53 2,om 55 54,kF 56 55 true 35 2,og 57 55 true (.ld (some 33) (.t 56)),kF 58 55 true 1 2,og 59 55 true (.ld (some 33) (.t 58)),og 60 55 true (.eqa true cJ false (.t 57) (.t 59)),kP 61 55 60,om 51 61] (kd 51 (kz 4 20)
 (.seq (kq [o1 63 0 2,o3 64 63,o5 65 .eql 64 6,om 66 65,kF 67 66 true 71 2,og 68 66 true (.ld (some 33) (.t 67)),kF 69 66 true 104 2,og 70 66 true (.ld (some 33) (.t 69)),og 71 66 true (.eqa true cJ false (.t 68) (.t 70)),kP 72 66 71,om 62 72] (kd 62 .skip (fo [o1 73 0 2,o3 74 73,o5 75 .eql 74 5,om 76 75,kF 77 76 true 71 2,og 78 76 true (.ld (some 33) (.t 77)),kF 79 76 true 104 2,og 80 76 true (.ld (some 33) (.t 79)),og 81 76 true (.eqa true cJ false (.t 78) (.t 80)),kP 82 76 81,om 83 82,kF 84 83 true 71 2,og 85 83 true (.ld (some 33) (.t 84)),kF 86 83 true 1 2,og 87 83 true (.ld (some 33) (.t 86)),og 88 83 true (.eqa true cJ true (.t 85) (.t 87)),kP 89 83 88,om 62 89]))) (kd 62 (kz 4 1) .skip))))) (kz 4 0)))),[.tmp 4]⟩
theorem WL:aN Tryz.prog [100002] 128=some B5.erase:=by kernel_rfl
def sV:CF:=⟨7, (kq [o7 2 0] (kq [o0 3 (.mkm false),oN (.mup false [.i] (.t 3) (xi 2) (xi 2)),oN (.mup false [.i] (.t 3) (xi 3) (xi 3)),oN (.mup false [.i] (.t 3) (xi 4) (xi 4)),oN (.mup false [.i] (.t 3) (xi 6) (xi 6)),om 4 3,om 5 0,o0 6 (.lkp false [.i] (.d (.sc (.int .i64 0))) false (.t 4) (.t 5)),om 2 6] .ret)),[.tmp 2]⟩
theorem Mi:aN Tryz.prog [] 250=some sV.erase:=by kernel_rfl
end Go.Proofs.Q
namespace Go.Proofs.Q
open Go Go.Bb Go.Proofs.Lg
open Go.Ab (D)
theorem OO: ∀{a b:List Dg},dQ a→dQ b→(∀x,x∈a↔x∈b)→a=b
 |[],[],_,_,_=>rfl
 |[],y::b,_,_,h=>absurd ((h y).2 (by simp)) (by simp)
 |x::a,[],_,_,h=>absurd ((h x).1 (by simp)) (by simp)
 |x::a,y::b,ha,hb,h=>by
  obtain⟨f,i⟩:=gY.1 ha;obtain⟨g,j⟩:=gY.1 hb;have e:x=y:=by
   apply iy;intro hne;have k:x∈b:=by
    rcases bM.1 ((h x).1 (by simp))with e|e
    ·exact absurd e hne
    ·exact e
   have l:y∈a:=by
    rcases bM.1 ((h y).2 (by simp))with e|e
    ·exact absurd e.symm hne
    ·exact e
   exact qX _ (n0 (f y l) (g x k))
  subst e;congr 1;refine OO i j fun z=> ?_;have d:=h z;simp only[bM]at d;constructor
  ·intro c;rcases d.1 (.inr c)with e|e
   ·subst e;exact absurd (f z c) (qX _)
   ·exact e
  ·intro c;rcases d.2 (.inr c)with e|e
   ·subst e;exact absurd (g z c) (qX _)
   ·exact e
theorem mf: ∀{s:aD},(bs s).Nodup→ ∀x∈s,ch s x.id=some x.pat
 |[],_,x,a=>by cases a
 |y::s,h,x,a=>by
  rw[ch];split
  ·rename_i e;rw[xh h y (by simp) x a e]
  ·rename_i e;rcases bM.1 a with h1|h1
   ·exact absurd (by rw[h1]) e
   ·exact mf (qD.1 (show(y.id::bs s).Nodup from h)).2 x h1
theorem uU: ∀{s:aD} {d:Dg},ch s d=none↔d∉bs s
 |[],d=>by simp[ch,bs]
 |y::s,d=>by
  rw[ch];by_cases e:y.id=d
  ·rw[if_pos e];simp[bs,e]
  ·rw[if_neg e,uU];have: ¬d=y.id:=fun h=>e h.symm;simp[bs,this]
end Go.Proofs.Q
namespace Go.Proofs
open Go.Shelf
def Tryz.laysSortIds_ren:Go.Shelf.Ren:=⟨fun|6=>51|15=>91|14=>90|28=>145|29=>146|20=>137|21=>138|22=>139|23=>140|24=>141|25=>142|26=>143|27=>144|46=>199|47=>200|48=>201|49=>202|50=>203|57=>265|n=>n,fun|22=>30|24=>27|25=>84|3=>3|39=>124|0=>0|53=>174|55=>176|4=>4|46=>168|45=>167|50=>140|5=>5|9=>9|66=>227|70=>231|76=>273|77=>274|n=>n,fun|n=>n⟩
theorem Tryz.laysSortIds:Go.Proofs.SlLaysF0.n6 Tryz.prog Tryz.laysSortIds_ren:={
 mixed:=by kernel_rfl
 f6:=⟨Tryz.f51.name,by decide,Tryz.func51.trans (congrArg some (by kernel_rfl))⟩
 f14:=⟨Tryz.f90.name,by decide,Tryz.func90.trans (congrArg some (by kernel_rfl))⟩
 f15:=Tryz.func91.trans (congrArg some (by kernel_rfl))
 f20:=⟨Tryz.f137.name,by decide,Tryz.func137.trans (congrArg some (by kernel_rfl))⟩
 f21:=⟨Tryz.f138.name,by decide,Tryz.func138.trans (congrArg some (by kernel_rfl))⟩
 f22:=⟨Tryz.f139.name,by decide,Tryz.func139.trans (congrArg some (by kernel_rfl))⟩
 f23:=⟨Tryz.f140.name,by decide,Tryz.func140.trans (congrArg some (by kernel_rfl))⟩
 f24:=⟨Tryz.f141.name,by decide,Tryz.func141.trans (congrArg some (by kernel_rfl))⟩
 f25:=⟨Tryz.f142.name,by decide,Tryz.func142.trans (congrArg some (by kernel_rfl))⟩
 f26:=⟨Tryz.f143.name,by decide,Tryz.func143.trans (congrArg some (by kernel_rfl))⟩
 f27:=⟨Tryz.f144.name,by decide,Tryz.func144.trans (congrArg some (by kernel_rfl))⟩
 f28:=Tryz.func145.trans (congrArg some (by kernel_rfl))
 f29:=Tryz.func146.trans (congrArg some (by kernel_rfl))
 f46:=⟨Tryz.f199.name,by decide,Tryz.func199.trans (congrArg some (by kernel_rfl))⟩
 f47:=Tryz.func200.trans (congrArg some (by kernel_rfl))
 f48:=Tryz.func201.trans (congrArg some (by kernel_rfl))
 f49:=⟨Tryz.f202.name,by decide,Tryz.func202.trans (congrArg some (by kernel_rfl))⟩
 f50:=⟨Tryz.f203.name,by decide,Tryz.func203.trans (congrArg some (by kernel_rfl))⟩
 f57:=⟨Tryz.f265.name,by decide,Tryz.func265.trans (congrArg some (by kernel_rfl))⟩
 t0:=Tryz.underlying0
 a0:=Tryz.isAgg0
 z0:=Tryz.sizeOf0
 v0:=Tryz.zeroValue0
 t3:=Tryz.underlying3
 a3:=Tryz.isAgg3
 z3:=Tryz.sizeOf3
 v3:=Tryz.zeroValue3
 t4:=Tryz.underlying4
 a4:=Tryz.isAgg4
 z4:=Tryz.sizeOf4
 v4:=Tryz.zeroValue4
 t5:=Tryz.underlying5
 a5:=Tryz.isAgg5
 z5:=Tryz.sizeOf5
 v5:=Tryz.zeroValue5
 t9:=Tryz.underlying9
 a9:=Tryz.isAgg9
 z9:=Tryz.sizeOf9
 v9:=Tryz.zeroValue9
 t22:=Tryz.underlying30
 a22:=Tryz.isAgg30
 z22:=Tryz.sizeOf30
 v22:=Tryz.zeroValue30
 t25:=Tryz.underlying84
 a25:=Tryz.isAgg84
 z25:=Tryz.sizeOf84
 v25:=Tryz.zeroValue84
 t39:=Tryz.underlying124
 a39:=Tryz.isAgg124
 z39:=Tryz.sizeOf124
 v39:=Tryz.zeroValue124
 t45:=Tryz.underlying167
 a45:=Tryz.isAgg167
 z45:=Tryz.sizeOf167
 v45:=Tryz.zeroValue167
 t46:=Tryz.underlying168
 a46:=Tryz.isAgg168
 z46:=Tryz.sizeOf168
 v46:=Tryz.zeroValue168
 t50:=Tryz.underlying140
 a50:=Tryz.isAgg140
 z50:=Tryz.sizeOf140
 v50:=Tryz.zeroValue140
 t53:=Tryz.underlying174
 a53:=Tryz.isAgg174
 z53:=Tryz.sizeOf174
 v53:=Tryz.zeroValue174
 t55:=Tryz.underlying176
 a55:=Tryz.isAgg176
 z55:=Tryz.sizeOf176
 v55:=Tryz.zeroValue176
 t66:=Tryz.underlying227
 a66:=Tryz.isAgg227
 z66:=Tryz.sizeOf227
 v66:=Tryz.zeroValue227
 t70:=Tryz.underlying231
 a70:=Tryz.isAgg231
 z70:=Tryz.sizeOf231
 v70:=Tryz.zeroValue231
 t76:=Tryz.underlying273
 a76:=Tryz.isAgg273
 z76:=Tryz.sizeOf273
 v76:=Tryz.zeroValue273
 t77:=Tryz.underlying274
 a77:=Tryz.isAgg274
 z77:=Tryz.sizeOf274
 v77:=Tryz.zeroValue274}
end Go.Proofs
namespace Go.Proofs.Q
open Go Go.Bb Go.RowKit Go.Proofs.Lg
open Go.Ab (D RD)
theorem kb{α:Type}{l:List α}{i:Nat}(h:i<l.length): ∃x,l[i]?=some x:=⟨_,bN h⟩
theorem uX{i j:Nat}(h:i+j≤2000000000):IntKind.i64.wrap ((i:Int)+(j:Int))=((i+j:Nat):Int)∧IntKind.u64.wrap ((i+j:Nat):Int)=((i+j:Nat):Int)∧(((i+j:Nat):Int).fdiv (2^min (Int.toNat 1) IntKind.u64.bits))=(((i+j)/2:Nat):Int)∧IntKind.i64.wrap (((i+j)/2:Nat):Int)=(((i+j)/2:Nat):Int):=by
 refine⟨bE a8 a8,?_,?_,bE rfl a8⟩
 ·simp only[Go.IntKind.wrap,Go.IntKind.bits,Go.IntKind.signed];simp;omega
 ·show((i+j:Nat):Int).fdiv 2=_;rw[Int.fdiv_eq_ediv_of_nonneg _ a8];omega
end Go.Proofs.Q
