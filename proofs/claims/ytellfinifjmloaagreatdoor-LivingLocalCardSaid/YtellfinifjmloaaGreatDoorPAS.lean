/- Lemmas. -/
import Derived.Test.YtellfinifjmloaaGreatDoorPAQ
set_option linter.unusedVariables false
set_option linter.unusedSimpArgs false
namespace Go.Proofs.Q
open Go Go.Ab Go.Bb
def AB:CF:=⟨15, (kq [ox 1 0,o7 2 0] (kq [o0 4 (.bld [(.d (.sc (.int .i64 0))),(.d (.sc (.bool false)))] []),o0 5 (.box (.t 4)),om 3 5] (.seq (kq [om 6 3,o2 7 3 1,o6 8 285 [.t 6,.t 7,(xi 1)]] (kq [om 9 3,o0 10 (.nck (.t 9)),o1 11 1 10,o3 12 11] (kd 12 (kz 2 4) .skip))) (kq [o2 13 3 1,o6 14 286 [.t 13],om 2 14] .ret)))),[.tmp 2]⟩
theorem Wk:aN Tryz.prog [100001] 262=some AB.erase:=by kernel_rfl
def AD:CF:=⟨14, (kq [ox 1 0,kM 2 (.c (.d (.sc (.string ⟨#[]⟩)))),o7 3 0] (.seq (kq [o2 6 3 1,o6 7 262 [.t 6],om 4 7] (kq [om 8 4,o5 9 .neq 8 0] (kd 9 (kq [om 10 4,kM 2 (.c (.d (.sc (.string ⟨#[]⟩)))),om 3 10] .ret) .skip))) (kq [o0 5 (.bxt 270 (.c (.agg [(.d (.sc (.pointer none))),(.nil 1)])))] (kq [o2 11 3 1,o6 12 263 [.t 5,.t 11]] (kq [o6 13 264 [.t 5],om 2 13,o7 3 0] .ret))))),[.tmp 2,.tmp 3]⟩
theorem Wl:aN Tryz.prog [100001,100005] 194=some AD.erase:=by kernel_rfl
def sK:CF:=⟨36, (kq [ox 3 1] (.seq (kq [o1 6 0 3,o3 7 6,o0 8 (.not (.t 7))] (kd 8 (kq [om 9 0,o1 10 1 3,o3 11 10,o9 12 1 11,o6 13 284 [.t 12],o6 14 287 [.t 9,.t 13]] (kq [om 15 0,o6 16 288 [.t 15,(.c (.d (.sc (.int .u8 58))))]] (kq [om 17 0,o1 18 1 3,o3 19 18,o6 20 287 [.t 17,.t 19]] .ret))) .skip)) (kq [om 21 0,o6 22 288 [.t 21,(.c (.d (.sc (.int .u8 40))))]] (.seq (kq [o1 23 2 3,o3 24 23,o9 25 0 24,o7 26 0] (.block 0 (.loop (.trim [26,0,24,25] (kq [o4 27 .lss 26 25] (.seq (kd 27 .skip (.exit 0)) (.seq (.block 1 (kq [oi 28 3 24 26,o2 29 3 28,kB 5 ep,o8 3 5 29] (fo [om 30 0,o2 31 3 5,o6 32 263 [.t 30,.t 31]]))) (fo [o5 33 .add 26 1,om 26 33])))))))) (fo [om 34 0,o6 35 288 [.t 34,(.c (.d (.sc (.int .u8 41))))]]))))),[]⟩
theorem M8:aN Tryz.prog [100003] 263=some sK.erase:=by kernel_rfl
def sL:CF:=⟨43, (kq [ox 1 0,o7 2 0] (.seq (.block 0 (kq [o1 7 0 1,o3 8 7,om 9 8,kF 10 9 true 1 1,kL 11 9 true 10,kG 12 9 true .neq (.t 11) (.c (.d (.sc (.string ⟨#[]⟩)))),kP 13 9 12,om 14 13,kF 15 14 false 0 1,kL 16 14 false 15,og 17 14 false (.not (.t 16)),oh 18 14 false 17,kF 19 18 true 2 1,kL 20 18 true 19,og 21 18 true (.len 0 (.t 20)),kG 22 18 true .gtr (.t 21) (xi 0),og 23 14 false (.pick (.t 18) (.t 22) xF),kR 24 14 23,om 6 24] (kd 6 (kz 2 1) (kq [o1 26 1 1,o3 27 26,o9 28 1 27,o5 29 .gtr 28 65536,om 25 29] (kd 25 (kz 2 4) .skip))))) (.seq (kq [o1 30 2 1,o3 31 30,o9 32 0 31,o7 33 0] (.block 1 (.loop (.trim [33,31,32] (kq [o4 34 .lss 33 32] (.seq (kd 34 .skip (.exit 1)) (.seq (.block 2 (kq [oi 35 3 31 33,o2 36 3 35,kB 4 ep,o8 3 4 36] (kq [o2 37 3 4,o6 38 286 [.t 37],om 5 38] (kq [om 39 5,o5 40 .neq 39 0] (kd 40 (kq [om 41 5,om 2 41] .ret) .skip))))) (fo [o5 42 .add 33 1,om 33 42])))))))) (kz 2 0)))),[.tmp 2]⟩
theorem M9:aN Tryz.prog [100001] 286=some sL.erase:=by kernel_rfl
def sJ:CF:=⟨14, (kq [kB 2 ep,o7 3 0] (.seq (kq [om 4 0,o0 5 (.bin .lss (.t 4) (xi (-1099511627776))),om 6 5,oh 7 6 false 0,kG 8 6 false .gtr (.t 7) (xi 1099511627776),kR 9 6 8] (kd 9 (kq [o0 10 (.bld fR []),o8 3 2 10,o7 3 2] .ret) .skip)) (kq [om 11 0,o6 12 284 [.t 11],o0 13 (.bld fR [(1,1,(.t 12))]),o8 3 2 13,o7 3 0] .ret))),[.cell 2 (some 3),.tmp 3]⟩
theorem M7:aN Tryz.prog [300010,300013] 261=some sJ.erase:=by kernel_rfl
def AE:CF:=⟨47, (kq [ox 4 1] (kq [om 8 0,o0 9 (.nck (.t 8)),o1 10 0 9,o3 11 10,o5 12 .add 11 1,o0 13 (.nck (.t 8)),o1 14 0 13,o8 1 14 12] (.seq (kq [om 15 0,o0 16 (.nck (.t 15)),o1 17 0 16,o3 18 17,o5 19 .gtr 18 20000,om 20 19,oh 21 20 false 2,kG 22 20 false .gtr (.t 21) (xi 12),kR 23 20 22] (kd 23 (fo [om 24 0,o0 25 (.nck (.t 24)),o1 26 1 25,oN (.st 1 (.t 26) xT)]) .skip)) (.seq (kq [o1 27 0 4,o3 28 27,o0 29 (.not (.t 28))] (kd 29 .ret .skip)) (kq [o1 30 2 4,o3 31 30,o9 32 0 31,o7 33 0] (.block 0 (.loop (.trim [0,2,33,31,32] (kq [o4 34 .lss 33 32] (.seq (kd 34 .skip (.exit 0)) (.seq (.block 1 (kq [oi 35 3 31 33,o2 36 3 35,kB 7 ep,o8 3 7 36] (.seq (kq [om 37 0,o0 38 (.nck (.t 37)),o1 39 1 38,o3 40 39] (kd 40 .ret .skip)) (fo [om 41 0,o2 42 3 7,om 43 2,o5 44 .add 43 1,o6 45 285 [.t 41,.t 42,.t 44]])))) (fo [o5 46 .add 33 1,om 33 46])))))))))))),[]⟩
theorem Wm:aN Tryz.prog [100004] 285=some AE.erase:=by kernel_rfl
def Bz:CF:=⟨148, (kq [kM 10 xT] (kq [kM 11 xT] (.block 0 (.loop (.trim [4,2,1,0,11,10,3] (.block 1 (kq [om 21 2,om 22 1,o4 23 .sub 21 22,om 12 23] (.seq (kq [om 24 12,o5 25 .leq 24 12] (kd 25 (kq [om 26 0,om 27 1,om 28 2,om 29 4,o6 30 289 [.t 26,.t 27,.t 28,.t 29]] .ret) .skip)) (.seq (kq [om 31 3,o5 32 .eql 31 0] (kd 32 (kq [om 33 0,om 34 1,om 35 2,om 36 4,o6 37 290 [.t 33,.t 34,.t 35,.t 36]] .ret) .skip)) (.seq (kq [om 38 10,o0 39 (.not (.t 38))] (kd 39 (kq [om 40 0,om 41 1,om 42 2,om 43 4,o6 44 291 [.t 40,.t 41,.t 42,.t 43]] (fo [om 45 3,o5 46 .sub 45 1,om 3 46])) .skip)) (kq [om 48 0,om 49 1,om 50 2,om 51 4,o6 52 292 [.t 48,.t 49,.t 50,.t 51],om 47 52,oe 53 47 0,oe 54 47 1,om 13 53,om 14 54] (.seq (kq [om 55 14,o5 56 .eql 55 2] (kd 56 (kq [om 57 0,om 58 1,om 59 2,om 60 4,o6 61 293 [.t 57,.t 58,.t 59,.t 60]] (kq [om 62 2,o5 63 .sub 62 1,om 64 13,om 65 1,o4 66 .sub 64 65,o4 67 .sub 63 66,om 13 67] (fo [o7 14 1]))) .skip)) (.seq (kq [om 68 10,om 69 68,oh 70 69 true 11,kP 71 69 70,om 72 71,oh 73 72 true 14,kG 74 72 true .eql (.t 73) (xi 1),kP 75 72 74] (kd 75 (kq [om 76 0,om 77 1,om 78 2,om 79 4,o6 80 294 [.t 76,.t 77,.t 78,.t 79]] (kd 80 .ret .skip)) .skip))
 (.seq (.seq (.ops true [0,1,3,7,7,7,39,119,247,7,7,1543,3591,8191,16383,32767,65535] [om 81 1,o5 82 .gtr 81 0,om 83 82,oh 84 83 true 4,oh 85 83 true 0,oh 86 83 true 1,kG 87 83 true .sub (.t 86) (xi 1),og 88 83 true (.iad 32 (.t 85) (.t 87)),og 89 83 true (.ld (some 32) (.t 88)),oh 90 83 true 0,oh 91 83 true 13,og 92 83 true (.iad 32 (.t 90) (.t 91)),og 93 83 true (.ld (some 32) (.t 92)),og 94 83 true (.call (.val (.t 84)) [.t 89,.t 93]),kG 95 83 true .lss (.t 94) (xi 0),og 96 83 true (.not (.t 95)),kP 97 83 96]) (kd 97 (kq [om 98 0,om 99 1,om 100 2,om 101 13,om 102 4,o6 103 295 [.t 98,.t 99,.t 100,.t 101,.t 102],om 15 103] (kq [om 104 15,om 1 104] (.exit 1))) .skip)) (kq [om 106 0,om 107 1,om 108 2,om 109 13,om 110 4,o6 111 296 [.t 106,.t 107,.t 108,.t 109,.t 110],om 105 111,oe 112 105 0,oe 113 105 1,om 16 112,om 17 113] (kq [om 114 17,om 11 114] (kq [om 115 16,om 116 1,o4 117 .sub 115 116,om 118 2,om 119 16,o4 120 .sub 118 119,om 18 117,om 19 120] (kq [om 121 12,o5 122 .quo 121 8,om 20 122] (kq [om 123 18,om 124 19,o4 125 .lss 123 124] (kd 125 (kq [om 126 18,om 127 20,o4 128 .geq 126 127,om 10 128] (kq [om 129 0,om 130 1,om 131 16,om 132 3,om 133 4,o6 134 266 [.t 129,.t 130,.t 131,.t 132,.t 133]] (fo [om 135 16,o5 136 .add 135 1,om 1 136]))) (kq [om 137 19,om 138 20,o4 139 .geq 137 138,om 10 139] (kq [om 140 0,om 141 16,o5 142 .add 141 1,om 143 2,om 144 3,om 145 4,o6 146 266 [.t 140,.t 142,.t 143,.t 144,.t 145]] (fo [om 147 16,om 2 147]))))))))))))))))))))))),[]⟩
theorem Xf:aN Tryz.prog [] 266=some Bz.erase:=by kernel_rfl
def AG:CF:=⟨53, (kq [om 10 1,o5 11 .add 10 1,om 8 11] (.block 0 (.loop (.trim [1,3,8,0,2] (.seq (kq [om 12 8,om 13 2,o4 14 .lss 12 13] (kd 14 .skip (.exit 0))) (.seq (.block 1 (kq [om 17 8,om 9 17] (.block 2 (.loop (.trim [9,0,8,1,3,2] (.seq (.seq (.ops true [0,0,3,7,15,15,15,111,239,15,15,1039,3599,7695,16383,32767,65535] [om 18 9,om 19 1,o4 20 .gtr 18 19,om 21 20,oh 22 21 true 3,oh 23 21 true 0,oh 24 21 true 9,og 25 21 true (.iad 32 (.t 23) (.t 24)),og 26 21 true (.ld (some 32) (.t 25)),oh 27 21 true 0,oh 28 21 true 9,kG 29 21 true .sub (.t 28) (xi 1),og 30 21 true (.iad 32 (.t 27) (.t 29)),og 31 21 true (.ld (some 32) (.t 30)),og 32 21 true (.call (.val (.t 22)) [.t 26,.t 31]),kG 33 21 true .lss (.t 32) (xi 0),kP 34 21 33]) (kd 34 .skip (.exit 2))) (.seq (.block 3 (.ops true [0,0,0,0,8,0,0,64,224,480,0,0,3072,7168,16355,32739,65535,131071] [om 37 0,om 38 9,om 39 0,om 40 9,o5 41 .sub 40 1,om 42 0,om 43 9,o5 44 .sub 43 1,oi 45 32 42 44,o2 46 32 45,om 47 0,om 48 9,oi 49 32 47 48,o2 50 32 49,oi 51 32 37 38,o8 32 51 46,oi 52 32 39 41,o8 32 52 50])) (fo [om 35 9,o5 36 .sub 35 1,om 9 36])))))))) (fo [om 15 8,o5 16 .add 15 1,om 8 16]))))))),[]⟩
theorem Wo:aN Tryz.prog [] 289=some AG.erase:=by kernel_rfl
def Aw:CF:=⟨14, (kq [om 5 0,o9 6 0 5,om 4 6] (fo [om 7 0,om 8 4,om 9 4,o0 10 (.cnv .u64 (.t 9)),o6 11 91 [.t 10],om 12 1,o6 13 266 [.t 7,(xi 0),.t 8,.t 11,.t 12]])),[]⟩
theorem Wf:aN Tryz.prog [] 205=some Aw.erase:=by kernel_rfl
def Am:CF:=⟨8, (kq [kM 2 (.c (.nil 32))] (.seq (kq [om 3 0,o0 4 (.isn false (.t 3))] (kd 4 (kq [kM 2 (.c (.nil 32))] .ret) .skip)) (kq [o0 5 (.bsl true 25 32 0 [] []),om 6 0,o0 7 (.app true 25 32 32 (.t 5) (.t 6)),om 2 7] .ret))),[.tmp 2]⟩
theorem W7:aN Tryz.prog [5,7] 204=some Am.erase:=by kernel_rfl
def sI:CF:=⟨61, (kq [kM 2 (.c (.nil 32))] (.seq (kq [om 6 0,o9 7 0 6,o5 8 .lss 7 2] (kd 8 (kq [om 9 0,om 2 9] .ret) .skip)) (.seq (kq [o7 3 1] (.block 0 (.loop (.trim [0,3] (.seq (kq [om 10 3,om 11 0,o9 12 0 11,o4 13 .lss 10 12] (kd 13 .skip (.exit 0))) (.seq (.block 1 (.seq (.ops true [0,0,3,7,0,0,32,112,240,511] [om 16 0,om 17 3,oi 18 32 16 17,o2 19 32 18,om 20 0,om 21 3,o5 22 .sub 21 1,oi 23 32 20 22,o2 24 32 23,o0 25 (.eqa true eV false (.t 19) (.t 24))]) (kd 25 (kq [om 26 0,om 27 3,o0 28 (.slc 32 (.t 26) (some (.t 27)) none),om 4 28] (.seq (kq [o7 5 1] (.block 2 (.loop (.trim [5,3,4,0] (.seq (kq [om 29 5,om 30 4,o9 31 0 30,o4 32 .lss 29 31] (kd 32 .skip (.exit 2))) (.seq (.block 3 (.seq (.ops true [0,0,3,7,0,0,32,112,240,511] [om 35 4,om 36 5,oi 37 32 35 36,o2 38 32 37,om 39 4,om 40 5,o5 41 .sub 40 1,oi 42 32 39 41,o2 43 32 42,o0 44 (.eqa true eV true (.t 38) (.t 43))]) (kd 44 (kq [om 45 0,om 46 3,om 47 4,om 48 5,oi 49 32 47 48,o2 50 32 49,oi 51 32 45 46,o8 32 51 50] (fo [om 52 3,o5 53 .add 52 1,om 3 53])) .skip))) (fo [om 33 5,o5 34 .add 33 1,om 5 34]))))))) (kq [om 54 0,om 55 3,o0 56 (.slc 32 (.t 54) (some (.t 55)) none),oN (.clr 32 ej (.t 56))] (kq [om 57 0,om 58 3,o0 59 (.slc 32 (.t 57) none (some (.t 58))),om 2 59] .ret)))) .skip))) (fo [om 14 3,o5 15 .add 14 1,om 3 15]))))))) (kq [om 60 0,om 2 60] .ret)))),[.tmp 2]⟩
theorem M5:aN Tryz.prog [] 206=some sI.erase:=by kernel_rfl
def sS:CF:=⟨44, (kq [ox 1 0,kM 2 (.c (.nil 32))] (.seq (kq [o2 8 5 1,o6 9 61 [.t 8],o5 10 .neq 9 0] (kd 10 (kq [kM 2 (.c (.nil 32))] .ret) .skip)) (kq [o1 11 3 1,o3 12 11,o6 13 204 [.t 12],om 3 13] (.seq (kq [o1 14 4 1,o3 15 14,o9 16 0 15,o7 17 0] (.block 0 (.loop (.trim [17,3,15,16] (kq [o4 18 .lss 17 16] (.seq (kd 18 .skip (.exit 0)) (.seq (.block 1 (kq [oi 19 139 15 17,o2 20 139 19,kB 5 oH,o8 139 5 20] (kq [o2 21 139 5,o6 22 187 [.t 21],o9 23 0 22,o7 24 0] (.block 2 (.loop (.trim [24,3,22,17,15,16,23] (kq [o4 25 .lss 24 23] (.seq (kd 25 .skip (.exit 2)) (.seq (.block 3 (kq [oi 26 34 22 24,o2 27 34 26,kB 7 nD,o8 34 7 27] (kq [o1 28 0 7,o2 29 33 28,o6 30 132 [.t 29],o0 31 (.not (.t 30))] (kd 31 (fo [om 32 3,o1 33 0 7,o1 34 0 33,o2 35 32 34,o0 36 (.bsf 32 1 ej [(0,32,(.t 35))]),o0 37 (.app true 25 32 32 (.t 32) (.t 36)),om 3 37]) .skip)))) (fo [o5 38 .add 24 1,om 24 38])))))))))) (fo [o5 39 .add 17 1,om 17 39])))))))) (kq [om 40 3,o0 41 (.call (.fn 205) [.t 40,(.c (.clo 163 [] []))])] (kq [om 42 3,o6 43 206 [.t 42],om 2 43] .ret)))))),[.tmp 2]⟩
theorem Mg:aN Tryz.prog [100001,100036,37] 151=some sS.erase:=by kernel_rfl
end Go.Proofs.Q
namespace Go.Proofs.Q
open Go Go.Bb Go.RowKit Go.Proofs.Lg
open Go.Ab (D RD)
theorem xj(l:List af)(x:af):(nX l x).length≤l.length+1:=by
 unfold nX;split
 ·omega
 ·have:=KE x l 0;simp;omega
def jB(d:Dg)(x:au):au:=
 let x:={x with id:={x.id with p:=d}}
 let x:=if x.kind≠7 then{x with file:=whole x.file d}else x;let x:=if x.kind=2 then{x with parent:=whole x.parent d}else x
 if x.kind=6 then{x with fro:=whole x.fro d,til:=whole x.til d}else x
theorem uT(d:Dg)(x:au):r8 d x={jB d x with over:=fF (x.over.map (whole · d)) []}:=by
 unfold r8 jB;dsimp only;by_cases c:x.kind=7
 ·simp[c]
 ·by_cases a:x.kind=2
  ·simp[a]
  ·by_cases b:x.kind=6
   ·simp[b]
   ·simp[c,a,b]
theorem SU(d:Dg)(x:au):(jB d x).over=x.over:=by
 unfold jB;dsimp only;by_cases c:x.kind=7
 ·simp[c]
 ·by_cases a:x.kind=2
  ·simp[a]
  ·by_cases b:x.kind=6
   ·simp[b]
   ·simp[c,a,b]
theorem xU(x:au)(d:Dg):b8 ((aI x).map .d) 0 32 ((aP d).map .d)=some ((aI {x with id:={x.id with p:=d}}).map .d):=by
 obtain⟨C,a⟩: ∃C:List D,C=[.sc (.int .i64 x.id.n)]++(aI x).drop 33:=⟨_,rfl⟩
 refine cj (A:=[]) (B:=aP x.id.p) (C:=C) (B':=aP d) ?_ rfl (ba _) (ba _) ?_
 ·rw[a];simp only[aI,aj,bj,bm];rw[gB,gC (by rw[ba];decide),ba];rfl
 ·rw[a];simp only[aI,aj,bj,bm];rw[gB,gC (by rw[ba];decide),ba];rfl
theorem Ej{b:List au}{A:au}{R rest:List au}{id sz e n m:Nat}{X:aa}{c:List aa}(d:R=b++A::rest)(hm:b.length+1=m): ∃a:List au×List aa,AV.tsl id sz (b.map aI++[aI A])=AV.tsl id sz (a.1.map aI)∧X::aa.row e n (b.length+1)::c=X::aa.row e n a.1.length::a.2∧R=a.1++rest∧a.1.length=m:=⟨(b++[A],c),by simp,by simp,by simp[d],by simp[hm]⟩
set_option maxHeartbeats 4000000 in
theorem Nq(p:aX)(I:cz p):aG Tryz.prog 30 [.agg (bc p)] (.tup [.sl 172 ((cT ar p).1.map aI),dI (cT ar p).2]):=by
 have s:=Ns p I;have A:=Nx p I.z;unfold cT;by_cases h:(bq ar p).2=0
 ·rw[h]at s;have B:(dw p).2=0:=by
   unfold bq at h;split at h
   ·rename_i D;exact absurd h D
   ·rename_i D;exact uH (p:=p) (by simpa[iZ]using D)
  rw[if_neg (by simpa using h)];obtain⟨_,G,_,v,_⟩:=jy B;have q: ∀x∈(dw p).1,x.over.length≤400:=by rw[v];exact F6 (by simp)
  have f:(dw p).1.length≤1604400:=by have:=zw (l:=p.changes) (own:=[]);rw[←v]at this;simp at this;omega
  obtain⟨d,K⟩: ∃d,d=(bq ar p).1:=⟨_,rfl⟩
  obtain⟨own,t⟩: ∃own,own=(dw p).1:=⟨_,rfl⟩
  rw[←K]at s⊢;rw[←t]at A q f⊢;clear h B v G I K t;refine aM (F:=tg) Mq (by simp[tg]) ?_;simp only[tg];refine aO (ga @eo @ba) (ga @s @A) ?_
  refine aZ.overI own (fun k (b:List au×List aa)=>[(9,iN k),(8,.tsl 1 172 (b.1.map aI))]) (fun k b=>[.cells ((aP d).map .d),.row 32 172 b.1.length]++b.2) (fun r b=>b.1++r.map (r8 d)) (own.map (r8 d)) (fun k b=>b.1.length=k) ([],[]) a8 aB aB rfl rfl rfl (fun k b x hg hk o u i E=> ?_) (fun b o i E=> ?_)
  ·obtain⟨b,J⟩:=b;have P:=q x (bX hg);have C:bw (b.length+1) 296=true:=by simp only[bw,decide_eq_true_eq];dsimp only at E;omega
   rw[bV,uT]at i;dsimp only at E;obtain w|hk2|hk6|⟨n7,n2,n6⟩:x.kind=7∨x.kind=2∨x.kind=6∨(x.kind≠7∧x.kind≠2∧x.kind≠6):=by omega
   ·have e:jB d x={x with id:={x.id with p:=d}}:=by simp[jB,w]
    refine aO (ga @o (ga @u (ga @hg (ga @w (ga @xU (ga @bz (ga @bb @wj))))))) @rD ?_
    refine aZ.overI x.over (fun m (l:List af)=>[(12,iN m),(11,.d (.sl 33 (l.map aj)))]) (fun _ _=>_) (fun r l=>fF (r.map (whole · d)) l) (fF (x.over.map (whole · d)) []) (fun m l=>l.length≤m) [] a8 aB aB rfl rfl (by simp) (fun m l y j hm c n a g=> ?_) (fun l c a g=> ?_)
    ·have ci:=xS l (whole y d) a8;have H:=xj l (whole y d);rw[bV,fF]at a;refine aO (ga @c (ga @n (ga @j @wj))) (ga @rD @ci) ?_;exact⟨_,rfl,a,by omega⟩
    ·rw[e8,fF]at a;rw[a,e]at i;clear a e q f s A;refine aO (ga @c (ga @u (ga @C @wj))) ab ?_;rw[w]at i;exact Ej i a8
   ·have e:jB d x={x with id:={x.id with p:=d},file:=whole x.file d,parent:=whole x.parent d}:=by simp[jB,hk2]
    refine aO (ga @o (ga @u (ga @hg (ga @hk2 (ga @xU (ga @bz (ga @bb @wj))))))) @rD ?_
    refine aZ.overI x.over (fun m (l:List af)=>[(12,iN m),(11,.d (.sl 33 (l.map aj)))]) (fun _ _=>_) (fun r l=>fF (r.map (whole · d)) l) (fF (x.over.map (whole · d)) []) (fun m l=>l.length≤m) [] a8 aB aB rfl rfl (by simp) (fun m l y j hm c n a g=> ?_) (fun l c a g=> ?_)
    ·have ci:=xS l (whole y d) a8;have H:=xj l (whole y d);rw[bV,fF]at a;refine aO (ga @c (ga @n (ga @j @wj))) (ga @rD @ci) ?_;exact⟨_,rfl,a,by omega⟩
    ·rw[e8,fF]at a;rw[a,e]at i;clear a e q f s A;refine aO (ga @c (ga @u (ga @C @wj))) ab ?_;rw[hk2]at i;exact Ej i a8
   ·have e:jB d x={x with id:={x.id with p:=d},file:=whole x.file d,fro:=whole x.fro d,til:=whole x.til d}:=by simp[jB,hk6]
    refine aO (ga @o (ga @u (ga @hg (ga @hk6 (ga @xU (ga @bz (ga @bb @wj))))))) @rD ?_
    refine aZ.overI x.over (fun m (l:List af)=>[(12,iN m),(11,.d (.sl 33 (l.map aj)))]) (fun _ _=>_) (fun r l=>fF (r.map (whole · d)) l) (fF (x.over.map (whole · d)) []) (fun m l=>l.length≤m) [] a8 aB aB rfl rfl (by simp) (fun m l y j hm c n a g=> ?_) (fun l c a g=> ?_)
    ·have ci:=xS l (whole y d) a8;have H:=xj l (whole y d);rw[bV,fF]at a;refine aO (ga @c (ga @n (ga @j @wj))) (ga @rD @ci) ?_;exact⟨_,rfl,a,by omega⟩
    ·rw[e8,fF]at a;rw[a,e]at i;clear a e q f s A;refine aO (ga @c (ga @u (ga @C @wj))) ab ?_;rw[hk6]at i;exact Ej i a8
   ·have e:jB d x={x with id:={x.id with p:=d},file:=whole x.file d}:=by simp[jB,n7,n2,n6]
    have O:(x.kind !=7)=true:=by simpa using n7
    have M:(x.kind==2)=false:=by simpa using n2
    have N:(x.kind==6)=false:=by simpa using n6
    refine aO (ga @o (ga @u (ga @hg (ga @O (ga @M (ga @N (ga @xU (ga @bz (ga @bb @wj))))))))) @rD ?_
    refine aZ.overI x.over (fun m (l:List af)=>[(12,iN m),(11,.d (.sl 33 (l.map aj)))]) (fun _ _=>_) (fun r l=>fF (r.map (whole · d)) l) (fF (x.over.map (whole · d)) []) (fun m l=>l.length≤m) [] a8 aB aB rfl rfl (by simp) (fun m l y j hm c n a g=> ?_) (fun l c a g=> ?_)
    ·have ci:=xS l (whole y d) a8;have H:=xj l (whole y d);rw[bV,fF]at a;refine aO (ga @c (ga @n (ga @j @wj))) (ga @rD @ci) ?_;exact⟨_,rfl,a,by omega⟩
    ·rw[e8,fF]at a;rw[a,e]at i;clear a e q f s A;refine aO (ga @c (ga @u (ga @C @wj))) ab ?_;exact Ej i a8
  ·rw[e8,bg]at i;refine aO @o ab ?_;rw[i]
 ·have L:((bq ar p).2 !=0)=true:=by simpa using h
  rw[if_pos h];refine aM (F:=tg) Mq (by simp[tg]) ?_;simp only[tg];exact bU (ga @L (ga @eo @ba)) @s
theorem qe{d:Nat}{a:bh}(h:a.size≤65536):fj (d+1) (dE a):= .inl ⟨rfl,rfl,h⟩
theorem sE{d:Nat}{l:List Sx}(h: ∀x∈l,fj d x):fj (d+1) (cP l):= .inr ⟨rfl,rfl,h⟩
theorem Jw(n:Int):(dec n).size≤21:=by
 unfold dec;split
 ·rw[qu];have:=wR 19 (-n).toNat;simp;omega
 ·rw[qu];have:=wR 19 n.toNat;omega
theorem xe{d:Nat}(n:Int):fj (d+1) (cp n):=by
 unfold cp;split
 ·exact .inl ⟨rfl,rfl,by decide⟩
 ·exact qe (by have:=Jw n;omega)
theorem Se(d:Dg):(zO d).size=32:=by unfold zO;rw[qu,aQ,d.len]
theorem Kp{d:Nat}(x:Dg):fj (d+1) (gm x):=by
 unfold gm;split
 ·exact qe (by decide)
 ·exact qe (by rw[Se];decide)
theorem A6{d:Nat}(x:af):fj (d+2) (bH x):=sE fun y a=>by
 simp only[bM,List.not_mem_nil,or_false]at a;rcases a with rfl|rfl
 ·exact Kp _
 ·exact xe _
theorem T3{d:Nat}(l:List af):fj (d+3) (eH l):=sE fun y a=>by
 obtain⟨x,_,rfl⟩:=bR.1 a;exact A6 x
structure EO(c:aC):Prop where
 name:c.kind=2→c.name.size≤65536
 data:c.data.size≤65536
 line:c.kind=5→ ∀s∈c.lines,ByteArray.size s≤65536
theorem T1{d:Nat}{c:aC}(h:EO c):fj (d+4) (bY c):=sE fun y a=>by
 simp only[eJ]at a;rcases a with((a|a)|a)|a
 ·simp at a;subst a;exact xe _
 ·split at a
  ·simp at a;subst a;exact A6 _
  ·cases a
 ·split at a
  ·simp at a;subst a;exact xe _
  split at a
  ·rename_i b;simp at a;rcases a with rfl|rfl
   ·exact A6 _
   ·exact qe (h.name b)
  split at a
  ·simp at a;subst a;exact xe _
  split at a
  ·simp at a;subst a;exact qe h.data
  split at a
  ·simp at a;rcases a with rfl|rfl<;>exact A6 _
  ·cases a
 ·split at a
  ·rename_i e;simp at a;subst a;refine sE fun z g=> ?_;obtain⟨s,f,rfl⟩:=bR.1 g;exact qe (h.line e s f)
  split at a
  ·cases a
  ·simp at a;subst a;exact T3 _
theorem T4{p:aX}(ha:p.author.size≤65536)(hm:p.message.size≤65536)(hc: ∀c∈p.changes,EO c):fj 6 (ll p):=sE fun y e=>by
 simp only[bM,List.not_mem_nil,or_false]at e;rcases e with rfl|rfl|rfl|rfl|rfl|rfl
 ·exact qe (by decide)
 ·exact qe ha
 ·exact qe hm
 ·exact xe _
 ·refine sE fun z b=> ?_;obtain⟨d,_,rfl⟩:=bR.1 b;exact Kp d
 ·refine sE fun z b=> ?_;obtain⟨c,a,rfl⟩:=bR.1 b;exact T1 (hc c a)
theorem qi(d:Nat)(a:bh):bJ d (dE a)≤1:=by
 cases d with
 |zero=>exact fy _
 |succ d=>exact bk _
theorem tF(d:Nat)(l:List Sx):bJ d (cP l)≤1+(l.map (bJ (d-1))).sum:=by
 cases d with
 |zero=>exact fy _
 |succ d=>exact bk _
theorem xB(d:Nat)(n:Int):bJ d (cp n)≤1:=by
 unfold cp;split
 ·exact qi d ⟨#[]⟩
 ·exact qi d _
theorem LV(d:Nat)(x:Dg):bJ d (gm x)≤1:=by
 unfold gm;split<;>exact qi d _
theorem xC(d:Nat)(x:af):bJ d (bH x)≤3:=by
 have h:=tF d [gm x.p,cp x.n];have a:=LV (d-1) x.p;have b:=xB (d-1) x.n;simp only[bV,e8,sb,List.sum_nil]at h;unfold bH;omega
theorem yw{α:Type}(f:α→Nat)(b:Nat): ∀(l:List α),(∀x∈l,f x≤b)→(l.map f).sum≤b*l.length
 |[],_=>by simp
 |x::l,h=>by
  have:=yw f b l fun y a=>h y (eQ _ a);have:=h x (by simp);simp only[bV,sb,aY];rw[Nat.mul_add];omega
theorem Vk(d:Nat)(l:List af):bJ d (eH l)≤1+3*l.length:=by
 have h:=tF d (l.map bH);have a:=yw (bJ (d-1)) 3 (l.map bH) fun x b=>by
  obtain⟨y,_,rfl⟩:=bR.1 b;exact xC _ y
 rw[aQ]at a;unfold eH;omega
theorem Vj(d:Nat)(c:aC):bJ d (bY c)≤20+c.lines.length+3*c.over.length:=by
 unfold bY;refine ef (tF d _) ?_;rw[fp,fp,fp,List.sum_append,List.sum_append,List.sum_append];have e:(([cp c.kind]:List Sx).map (bJ (d-1))).sum≤1:=by
  have:=xB (d-1) c.kind;simpa using this
 have a2:((if 2≤c.kind∧c.kind≤6 then[bH c.file]else[]).map (bJ (d-1))).sum≤3:=by
  split
  ·have:=xC (d-1) c.file;simpa using this
  ·simp
 have a3:((if c.kind=1 then[cp c.type]else if c.kind=2 then[bH c.parent,dE c.name]else if c.kind=3 then[cp c.mode]else if c.kind=4 then[dE c.data]else if c.kind=5∨c.kind=6 then[bH c.after,bH c.before]else[]).map (bJ (d-1))).sum≤6:=by
  have f:=xB (d-1) c.type;have g:=xC (d-1) c.parent;have i:=qi (d-1) c.name;have j:=xB (d-1) c.mode;have k:=qi (d-1) c.data;have l:=xC (d-1) c.after;have m:=xC (d-1) c.before
  repeat' split
  all_goals(simp only[bV,e8,sb,List.sum_nil];omega)
 have a4:((if c.kind=5 then[cP (c.lines.map dE)]else if c.kind=1 then[]else[eH c.over]).map (bJ (d-1))).sum≤1+c.lines.length+3*c.over.length:=by
  split
  ·have h:=tF (d-1) (c.lines.map dE);have a:=yw (bJ (d-1-1)) 1 (c.lines.map dE) fun x b=>by
    obtain⟨y,_,rfl⟩:=bR.1 b;exact qi _ y
   rw[aQ]at a;simp only[bV,e8,sb,List.sum_nil];omega
  split
  ·simp
  ·have h:=Vk (d-1) c.over;simp only[bV,e8,sb,List.sum_nil];omega
 omega
theorem Vl(p:aX)(b:Nat)(hb: ∀c∈p.changes,20+c.lines.length+3*c.over.length≤b):bJ 6 (ll p)≤10+p.deps.length+b*p.changes.length:=by
 unfold ll;refine ef (tF 6 _) ?_;have g:=qi 5 (str [113,117,105,108,116,49]);have h:=qi 5 p.author;have i:=qi 5 p.message;have j:=xB 5 p.time;have k:=tF 5 (p.deps.map gm);have l:=tF 5 (p.changes.map bY);have d:=yw (bJ 4) 1 (p.deps.map gm) fun x a=>by
  obtain⟨y,_,rfl⟩:=bR.1 a;exact LV _ y
 have e:=yw (bJ 4) b (p.changes.map bY) fun x a=>by
  obtain⟨y,f,rfl⟩:=bR.1 a;exact ef (Vj _ y) (hb y f)
 rw[aQ]at d e;simp only[bV,e8,sb,List.sum_nil];simp only[Nat.reduceSub]at*;omega
theorem JO: ∀(d:Nat) (x:Sx),fj d x→(fZ d x).size≤100000*bJ d x
 |0,_,h=>h.elim
 |d+1,.mk b a l,h=>by
  rcases h with⟨rfl,rfl,ha⟩|⟨rfl,rfl,hl⟩
  ·show(dec a.size++str [58]++a).size≤100000*1;rw[kQ,kQ,qu];have:=Jw a.size;simp;omega
  ·show(l.foldl (fun s x=>s++fZ d x) (str [40])++str [41]).size≤100000*(1+(l.map (bJ d)).sum);rw[kQ,FA,qu,qu];have: ∀l:List Sx,(∀x∈l,fj d x)→(l.map fun x=>(fZ d x).size).sum≤100000*(l.map (bJ d)).sum:=by
    intro l
    induction l with
    |nil=>intro _;simp
    |cons x l e=>
     intro h;have f:=JO d x (h x (by simp));have g:=e fun y c=>h y (eQ _ c);simp only[bV,sb];rw[Nat.mul_add];omega
   have:=this l hl;simp only[aY,b6];rw[Nat.mul_add];omega
theorem vz(l:List Dg)(d:Dg):aG Tryz.prog 117 [.sl 32 (l.map aP),.agg (aP d)] (dB (cW l d)):=by
 refine aG.big (enters_of MF) 0 rfl fun b=> ?_;rw[aQ]at b;refine aM (F:=CQ) MF (by simp[CQ]) ?_;simp only[CQ];refine aO ab ab ?_;refine aZ.over l (fun k (_:Unit)=>[(5,iN k)]) (fun _ _=>[]) (fun r _=>cW r d) (cW l d) () b aB aB rfl rfl (fun k _ x hg hk a c e=> ?_) (fun _ a e=> ?_)
 ·repeat' first|refine ae (fun _=> ?_) fun _=> ?_|refine ay (ga @a (ga @c @hg)) ab ?_|exact ax (ga @a (ga @c @hg)) ab|fail
  all_goals(simp_all[cW,cG];try exact cB)
 ·refine aO @a ab ?_
  all_goals(simp_all[cW,cG];try exact cB)
theorem vA(l m:List Dg):aG Tryz.prog 72 [.sl 32 (l.map aP),.sl 32 (m.map aP)] (dB (gZ l m)):=by
 refine aG.big (enters_of MH) 1 rfl fun b=> ?_;rw[aQ]at b;refine aM (F:=CV) MH (by simp[CV]) ?_;simp only[CV];refine aO ab ab ?_;refine aZ.over m (fun k (_:Unit)=>[(5,iN k)]) (fun _ _=>[]) (fun r _=>gZ l r) (gZ l m) () b aB aB rfl rfl (fun k _ x hg hk a c d=> ?_) (fun _ a d=> ?_)
 ·repeat' first|refine ae (fun _=> ?_) fun _=> ?_|refine ay (ga @a (ga @c @hg)) @vz ?_|exact ax (ga @a (ga @c @hg)) @vz|fail
  all_goals(simp_all[gZ,cG];try exact cB)
 ·refine aO @a ab ?_
  all_goals(simp_all[gZ,cG];try exact cB)
theorem NA(s:aD)(d:Dg):aG Tryz.prog 28 [.sl 37 (s.map b5),.agg (aP d)] (.tup [.agg (bc ((ch s d).getD .zero)),dB (ch s d).isSome]):=by
 refine aG.big (enters_of ME) 0 rfl fun e=> ?_;rw[aQ]at e;obtain⟨R,a⟩: ∃R,R=ch s d:=⟨_,rfl⟩
 rw[←a];refine aM (F:=CN) ME (by simp[CN]) ?_;simp only[CN];refine aO ab ab ?_;refine aZ.over s (fun k (_:Unit)=>[(6,iN k)]) (fun _ _=>[.cells mH]) (fun r _=>ch r d) R () e aB aB rfl a (fun k _ x hg hk c f b=> ?_) (fun _ c b=> ?_)
 ·rw[ch]at b;clear a
  repeat' first|refine ae (fun _=> ?_) fun _=> ?_|refine ay (ga @c (ga @f (ga @hg (ga @fJ @br)))) ab ?_|exact ax (ga @c (ga @f (ga @hg (ga @fJ @br)))) ab|fail
  ·rename_i h;rw[b,if_pos h];rfl
  ·rename_i h;rw[if_neg h]at b;exact⟨(),b⟩
 ·repeat' first|refine ae (fun _=> ?_) fun _=> ?_|refine aL ?_|simp only[c,gy,fJ,br,aQ,wy,qg,aH,simprocAttr,aA,aF,aE,aw]
  rw[b];rfl
theorem NB(s:aD)(g:s.length≤1000000000):aG Tryz.prog 71 [.sl 37 (s.map b5)] (.sl 32 ((bs s).map aP)):=by
 refine aM (F:=CT) Yk (by simp[CT]) ?_;simp only[CT];refine aO ab ab ?_;refine aZ.overI s (fun k (b:List Dg)=>[(4,iN k),(3,.tsl 0 32 (b.map aP))]) (fun k b=>[.row 25 32 b.length]) (fun r b=>b++r.map (·.id)) (bs s) (fun k b=>b.length=k) [] a8 aB aB rfl rfl rfl (fun k b x hg hk c f a d=> ?_) (fun b c a d=> ?_)
 ·have e:bw (b.length+1) 32=true:=by simp only[bw,decide_eq_true_eq];omega
  refine aO (ga @c (ga @f (ga @hg (ga @e (ga @eo @ba))))) ab ?_;exact⟨b++[x.id],by simp,by simp,by simpa using a,by simp[d]⟩
 ·simp at a;refine aO @c ab ?_;rw[a]
theorem rE(x:af):aG Tryz.prog 172 [.agg (aj x)] (dB (!isZero x.p)):=by
 refine aM (F:=D0) Yq (by simp[D0]) ?_;simp only[D0]
 repeat' first|refine ae (fun _=> ?_) fun _=> ?_|refine ay ab ab ?_|exact ax ab ab|fail
 all_goals(simp_all[isZero,cG];try exact cB)
theorem ND(x:au):aG Tryz.prog 175 [.agg (aI x)] (dB (lX x)):=by
 refine aM (F:=CY) Yo (by simp[CY]) ?_;simp only[CY]
 repeat' first|refine ae (fun _=> ?_) fun _=> ?_|refine ay ab ab ?_|exact ax ab ab|fail
 all_goals(simp_all[lX,cG];try exact cB)
theorem DU(x:af)(d:Dg):aG Tryz.prog 178 [.agg (aj x),.agg (aP d)] (.agg (aj (whole x d))):=by
 refine aM (F:=CX) Yn (by simp[CX]) ?_;simp only[CX]
 repeat' first|refine ae (fun _=> ?_) fun _=> ?_|refine ay ab ab ?_|exact ax ab ab|fail
 all_goals(unfold whole isZero;first|(rw[if_pos (by simp_all)];done)|(rw[if_neg (by simp_all)];done))
structure gE(s:aD):Prop where
 len:s.length≤1000000
 pat: ∀x∈s,cz x.pat
theorem RG:(dw .zero).2=5:=by rfl
theorem cz.zero:cz .zero:=⟨⟨fy _,by simp[aX.zero]⟩,fun h=>by rw[RG]at h;omega⟩
theorem xd{P:aX→Prop}(a:P .zero)(d:Dg): ∀{s:aD},(∀x∈s,P x.pat)→P ((ch s d).getD .zero)
 |[],_=>a
 |x::s,h=>by
  unfold ch;split
  ·exact h x (by simp)
  ·exact xd a d fun y b=>h y (eQ _ b)
theorem gE.get{s:aD}(h:gE s)(d:Dg):cz ((ch s d).getD .zero):=xd cz.zero d h.pat
theorem DT(s:aD)(x:af)(d:gE s):aG Tryz.prog 173 [.sl 37 (s.map b5),.agg (aj x)] (.tup [.agg (aI ((oR ar s x).getD .zero)),dB (oR ar s x).isSome]):=by
 have b:=NA s x.p;have a:=Nq _ (d.get x.p);unfold oR;obtain⟨L,c⟩: ∃L,L=(cT ar ((ch s x.p).getD .zero)).1:=⟨_,rfl⟩
 rw[←c]at a⊢;clear c d;by_cases h:x.n<0∨(L.length:Int)≤x.n
 ·rw[if_pos h];refine aM (F:=tz) MJ (by simp[tz]) ?_;simp only[tz]
  repeat' first|refine ae (fun _=> ?_) fun _=> ?_|refine ay (ga @fJ (ga @bz (ga @bb @br))) (ga @b @a) ?_|exact ax (ga @fJ (ga @bz (ga @bb @br))) (ga @b @a)|fail
  all_goals first|rfl|omega
 ·rw[if_neg h];have e:decide (x.n<0)=false:=by simp;omega
  have f:decide (x.n≥(L.length:Int))=false:=by simp;omega
  have g:(0≤x.n)=True:=by simp;omega
  have hg:L[x.n.toNat]?=some L[x.n.toNat]:=bN a8;rw[hg];refine aM (F:=tz) MJ (by simp[tz]) ?_;simp only[tz];exact bU (ga @e (ga @f (ga @g (ga @hg (ga @fJ (ga @bz (ga @bb @br))))))) (ga @b @a)
  all_goals rfl
theorem DX(s:aD)(x:af)(f:au→Bool):iV ar s x f=if isZero x.p=true then 0 else if(oR ar s x).isSome=false then 7 else if f ((oR ar s x).getD .zero)=true then 0 else 8:=by
 unfold iV;cases oR ar s x<;>simp
theorem NF(s:aD)(x file:af)(id:Dg)(b:gE s):aG Tryz.prog 176 [.sl 37 (s.map b5),.agg (aj x),.agg (aj file),.agg (aP id)] (dI (nb ar s x file id)):=by
 have a:=DT s x b;unfold nb;rw[DX];clear b;refine aM (F:=CZ) Yp (by simp[CZ]) ?_;simp only[CZ]
 repeat' first|refine ae (fun _=> ?_) fun _=> ?_|refine ay (ga @bz @bb) (ga @rE (ga @a (ga @DU @DO))) ?_|exact ax (ga @bz @bb) (ga @rE (ga @a (ga @DU @DO)))|fail
 all_goals(clear a;simp_all)
set_option maxHeartbeats 4000000 in
theorem a0o(s:aD)(c:aC)(id:Dg)(g:gE s)(n:c.over.length≤9223372036854775807):aG Tryz.prog 120 [.sl 37 (s.map b5),.agg (aV c),.agg (aP id)] (dI (oY ar s c id)):=by
 refine qx (F:=CW) Ym (by simp[CW]) ?_;simp only[CW];refine AC.cut [0,5,4] [(0,.d (.sl 37 (s.map b5))),(5,.d (.ref (aP id))),(4,.d (.ref (aV c)))] [] True ?_ fun J _=> ?_
 ·refine aO ab ab ?_
  all_goals exact⟨_,rfl⟩
 refine AC.cut [0,5,4] [(0,.d (.sl 37 (s.map b5))),(5,.d (.ref (aP id))),(4,.d (.ref (aV c)))] [] (iV ar s c.file (fE c.kind)=0) ?_ fun J f=> ?_
 ·have ca:=DT s c.file g;have e:=DX s c.file (fE c.kind)
  repeat' first|refine ae (fun _=> ?_) fun _=> ?_|refine ay (ga @bz (ga @bb @wj)) (ga @rE (ga @ca @DP)) ?_|exact ax (ga @bz (ga @bb @wj)) (ga @rE (ga @ca @DP))|fail
  all_goals first
   |(refine⟨⟨_,rfl⟩,?_⟩;rw[e];simp_all;done)
   |(rw[oY,bQ];simp_all;done)
 refine AC.cut [0,5,4] [(0,.d (.sl 37 (s.map b5))),(5,.d (.ref (aP id))),(4,.d (.ref (aV c)))] [] (iV ar s c.parent lX=0) ?_ fun J h=> ?_
 ·have ca:=DT s c.parent g;have e:=DX s c.parent lX
  repeat' first|refine ae (fun _=> ?_) fun _=> ?_|refine ay (ga @bz (ga @bb @wj)) (ga @rE (ga @ca @ND)) ?_|exact ax (ga @bz (ga @bb @wj)) (ga @rE (ga @ca @ND))|fail
  all_goals first
   |(refine⟨⟨_,rfl⟩,?_⟩;rw[e];simp_all;done)
   |(rw[oY,f];simp_all[bQ];done)
 refine AC.cut [0,5,4] [(0,.d (.sl 37 (s.map b5))),(5,.d (.ref (aP id))),(4,.d (.ref (aV c)))] [] (nb ar s c.after c.file id=0) ?_ fun J m=> ?_
 ·have ca:=NF s c.after c.file id g
  repeat' first|refine ae (fun _=> ?_) fun _=> ?_|refine ay ab @ca ?_|exact ax ab @ca|fail
  all_goals first
   |(refine⟨⟨_,rfl⟩,?_⟩;simp_all;done)
   |(rw[oY,f,h];simp_all[bQ];done)
 refine AC.cut [0,5,4] [(0,.d (.sl 37 (s.map b5))),(5,.d (.ref (aP id))),(4,.d (.ref (aV c)))] [] (nb ar s c.before c.file id=0) ?_ fun J o=> ?_
 ·have ca:=NF s c.before c.file id g
  repeat' first|refine ae (fun _=> ?_) fun _=> ?_|refine ay ab @ca ?_|exact ax ab @ca|fail
  all_goals first
   |(refine⟨⟨_,rfl⟩,?_⟩;simp_all;done)
   |(rw[oY,f,h,m];simp_all[bQ];done)
 have e:oY ar s c id=px ar s c id c.over:=by simp[oY,bQ,f,h,m,o]
 rw[e];clear e f h m o;refine bD ?_;refine aO ab ab ?_;obtain⟨R,a⟩: ∃R,R=px ar s c id c.over:=⟨_,rfl⟩
 rw[←a];refine aZ.over c.over (fun k (b:List aa)=>[(13,iN k)]) (fun _ b=>b) (fun l _=>px ar s c id l) R ([]++J) n aB aB rfl a (fun k b x hg hk j p i=> ?_) (fun b j i=> ?_)
 ·have ca:=DT s x g;rw[px,DX,bQ]at i;clear a
  repeat' first|refine ae (fun _=> ?_) fun _=> ?_|refine ay (ga @j (ga @hg (ga @p (ga @bz (ga @bb @wj))))) (ga @rE (ga @ca (ga @DU @DQ))) ?_|exact ax (ga @j (ga @hg (ga @p (ga @bz (ga @bb @wj))))) (ga @rE (ga @ca (ga @DU @DQ)))|fail
  all_goals(clear ca;simp_all)
 ·rw[px]at i;refine aO @j ab ?_;rw[i]
structure ub(l:List aC):Prop where
 len:l.length≤9223372036854775807
 over: ∀c∈l,c.over.length≤9223372036854775807
theorem a0p(s:aD)(p:aX)(id:Dg)(e:gE s)(hp:ub p.changes):aG Tryz.prog 75 [.sl 37 (s.map b5),.agg (bc p),.agg (aP id)] (dI (np ar s id p.changes)):=by
 refine aM (F:=D1) Yr (by simp[D1]) ?_;simp only[D1];refine aO ab ab ?_;refine aZ.over p.changes (fun k (_:Unit)=>[(7,iN k)]) (fun _ _=>[]) (fun l _=>np ar s id l) (np ar s id p.changes) () hp.len aB aB rfl rfl (fun k b x hg hk c d a=> ?_) (fun b c a=> ?_)
 ·have ca:=a0o s x id e (hp.over x (bX hg));rw[np,bQ]at a
  repeat' first|refine ae (fun _=> ?_) fun _=> ?_|refine ay (ga @c (ga @hg @d)) @ca ?_|exact ax (ga @c (ga @hg @d)) @ca|fail
  all_goals(clear ca;simp_all)
 ·rw[np]at a;refine aO @c ab ?_;rw[a]
end Go.Proofs.Q
