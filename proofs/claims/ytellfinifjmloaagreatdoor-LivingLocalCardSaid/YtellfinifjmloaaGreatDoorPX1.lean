/- Lemmas. -/
import Derived.Test.YtellfinifjmloaaGreatDoorPBJ
set_option linter.unusedVariables false
set_option linter.unusedSimpArgs false
namespace Go.Proofs.Q
open Go Go.Ab Go.Bb
def Ay:CF:=⟨9, (fo [om 4 0,om 5 0,o9 6 0 5,om 7 1,o6 8 125 [.t 4,.t 6,.t 7]]),[]⟩
theorem Wh:aN Tryz.prog [] 80=some Ay.erase:=by kernel_rfl
def Dk:CF:=⟨63, (kq [o7 6 20] (kq [om 10 6,o7 7 0,om 8 10] (.seq (.block 0 (.loop (.trim [6,8,2,7,0,1] (.seq (kq [om 11 8,om 12 1,o4 13 .leq 11 12] (kd 13 .skip (.exit 0))) (.block 1 (kq [om 14 0,om 15 7,om 16 8,om 17 2,o6 18 182 [.t 14,.t 15,.t 16,.t 17]] (kq [om 19 8,om 7 19] (fo [om 20 8,om 21 6,o4 22 .add 20 21,om 8 22])))))))) (kq [om 23 0,om 24 7,om 25 1,om 26 2,o6 27 182 [.t 23,.t 24,.t 25,.t 26]] (.block 2 (.loop (.trim [1,0,2,6] (.seq (kq [om 28 6,om 29 1,o4 30 .lss 28 29] (kd 30 .skip (.exit 2))) (.block 3 (kq [om 31 6,o0 32 (.bin .mul (xi 2) (.t 31)),o7 7 0,om 8 32] (.seq (.block 4 (.loop (.trim [6,8,2,7,0,1] (.seq (kq [om 33 8,om 34 1,o4 35 .leq 33 34] (kd 35 .skip (.exit 4))) (.block 5 (kq [om 36 0,om 37 7,om 38 7,om 39 6,o4 40 .add 38 39,om 41 8,om 42 2,o6 43 183 [.t 36,.t 37,.t 40,.t 41,.t 42]] (kq [om 44 8,om 7 44] (fo [om 45 8,om 46 6,o0 47 (.bin .mul (xi 2) (.t 46)),o4 48 .add 45 47,om 8 48])))))))) (.seq (kq [om 49 7,om 50 6,o4 51 .add 49 50,om 9 51] (kq [om 52 9,om 53 1,o4 54 .lss 52 53] (kd 54 (fo [om 55 0,om 56 7,om 57 9,om 58 1,om 59 2,o6 60 183 [.t 55,.t 56,.t 57,.t 58,.t 59]]) .skip))) (fo [om 61 6,o5 62 .mul 61 2,om 6 62]))))))))))))),[]⟩
theorem YJ:aN Tryz.prog [] 125=some Dk.erase:=by kernel_rfl
def AF:CF:=⟨53, (kq [om 10 1,o5 11 .add 10 1,om 8 11] (.block 0 (.loop (.trim [1,3,8,0,2] (.seq (kq [om 12 8,om 13 2,o4 14 .lss 12 13] (kd 14 .skip (.exit 0))) (.seq (.block 1 (kq [om 17 8,om 9 17] (.block 2 (.loop (.trim [9,0,8,1,3,2] (.seq (.seq (.ops true [0,0,3,7,15,15,15,111,239,15,15,1039,3599,7695,16383,32767,65535] [om 18 9,om 19 1,o4 20 .gtr 18 19,om 21 20,oh 22 21 true 3,oh 23 21 true 0,oh 24 21 true 9,og 25 21 true (.iad 172 (.t 23) (.t 24)),og 26 21 true (.ld (some 172) (.t 25)),oh 27 21 true 0,oh 28 21 true 9,kG 29 21 true .sub (.t 28) (xi 1),og 30 21 true (.iad 172 (.t 27) (.t 29)),og 31 21 true (.ld (some 172) (.t 30)),og 32 21 true (.call (.val (.t 22)) [.t 26,.t 31]),kG 33 21 true .lss (.t 32) (xi 0),kP 34 21 33]) (kd 34 .skip (.exit 2))) (.seq (.block 3 (.ops true [0,0,0,0,8,0,0,64,224,480,0,0,3072,7168,16355,32739,65535,131071] [om 37 0,om 38 9,om 39 0,om 40 9,o5 41 .sub 40 1,om 42 0,om 43 9,o5 44 .sub 43 1,oi 45 172 42 44,o2 46 172 45,om 47 0,om 48 9,oi 49 172 47 48,o2 50 172 49,oi 51 172 37 38,o8 172 51 46,oi 52 172 39 41,o8 172 52 50])) (fo [om 35 9,o5 36 .sub 35 1,om 9 36])))))))) (fo [om 15 8,o5 16 .add 15 1,om 8 16]))))))),[]⟩
theorem Wn:aN Tryz.prog [] 182=some AF.erase:=by kernel_rfl
def Dl:CF:=⟨220, (.seq (kq [om 25 2,om 26 1,o4 27 .sub 25 26,o5 28 .eql 27 1] (kd 28 (kq [om 29 2,om 10 29] (kq [om 30 3,om 11 30] (.seq (.block 0 (.loop (.trim [1,0,4,11,10] (.seq (kq [om 31 10,om 32 11,o4 33 .lss 31 32] (kd 33 .skip (.exit 0))) (.block 1 (kq [om 34 10,om 35 11,o4 36 .add 34 35,o0 37 (.cnv .u64 (.t 36)),o0 38 (.bin .shr (.t 37) (.c (.d (.sc (.int .u64 1))))),o0 39 (.cnv .i64 (.t 38)),om 12 39] (.seq (.ops true [0,0,0,6,14,0,0,96,224,511,1023] [om 40 4,om 41 0,om 42 12,oi 43 172 41 42,o2 44 172 43,om 45 0,om 46 1,oi 47 172 45 46,o2 48 172 47,o0 49 (.call (.val (.t 40)) [.t 44,.t 48]),o5 50 .lss 49 0]) (kd 50 (fo [om 51 12,o5 52 .add 51 1,om 10 52]) (fo [om 53 12,om 11 53]))))))))) (.seq (kq [om 54 1,om 13 54] (.block 2 (.loop (.trim [13,0,10] (.seq (kq [om 55 13,om 56 10,o5 57 .sub 56 1,o4 58 .lss 55 57] (kd 58 .skip (.exit 2))) (.seq (.block 3 (.ops true [0,0,0,0,8,0,0,64,224,480,0,0,3072,7168,16355,32739,65535,131071] [om 61 0,om 62 13,om 63 0,om 64 13,o5 65 .add 64 1,om 66 0,om 67 13,o5 68 .add 67 1,oi 69 172 66 68,o2 70 172 69,om 71 0,om 72 13,oi 73 172 71 72,o2 74 172 73,oi 75 172 61 62,o8 172 75 70,oi 76 172 63 65,o8 172 76 74])) (fo [om 59 13,o5 60 .add 59 1,om 13 60]))))))) .ret)))) .skip))
 (.seq (kq [om 77 3,om 78 2,o4 79 .sub 77 78,o5 80 .eql 79 1] (kd 80 (kq [om 81 1,om 14 81] (kq [om 82 2,om 15 82] (.seq (.block 4 (.loop (.trim [0,2,4,15,14] (.seq (kq [om 83 14,om 84 15,o4 85 .lss 83 84] (kd 85 .skip (.exit 4))) (.block 5 (kq [om 86 14,om 87 15,o4 88 .add 86 87,o0 89 (.cnv .u64 (.t 88)),o0 90 (.bin .shr (.t 89) (.c (.d (.sc (.int .u64 1))))),o0 91 (.cnv .i64 (.t 90)),om 16 91] (.seq (.ops true [0,0,0,6,14,0,0,96,224,511,1023,2047] [om 92 4,om 93 0,om 94 2,oi 95 172 93 94,o2 96 172 95,om 97 0,om 98 16,oi 99 172 97 98,o2 100 172 99,o0 101 (.call (.val (.t 92)) [.t 96,.t 100]),o5 102 .lss 101 0,o0 103 (.not (.t 102))]) (kd 103 (fo [om 104 16,o5 105 .add 104 1,om 14 105]) (fo [om 106 16,om 15 106]))))))))) (.seq (kq [om 107 2,om 17 107] (.block 6 (.loop (.trim [17,0,14] (.seq (kq [om 108 17,om 109 14,o4 110 .gtr 108 109] (kd 110 .skip (.exit 6))) (.seq (.block 7 (.ops true [0,0,0,0,8,0,0,64,224,480,0,0,3072,7168,16355,32739,65535,131071] [om 113 0,om 114 17,om 115 0,om 116 17,o5 117 .sub 116 1,om 118 0,om 119 17,o5 120 .sub 119 1,oi 121 172 118 120,o2 122 172 121,om 123 0,om 124 17,oi 125 172 123 124,o2 126 172 125,oi 127 172 113 114,o8 172 127 122,oi 128 172 115 117,o8 172 128 126])) (fo [om 111 17,o5 112 .sub 111 1,om 17 112]))))))) .ret)))) .skip))
 (kq [om 129 1,om 130 3,o4 131 .add 129 130,o0 132 (.cnv .u64 (.t 131)),o0 133 (.bin .shr (.t 132) (.c (.d (.sc (.int .u64 1))))),o0 134 (.cnv .i64 (.t 133)),om 18 134] (kq [om 135 18,om 136 2,o4 137 .add 135 136,om 19 137] (kq [o7 20 0,o7 21 0] (.seq (kq [om 138 2,om 139 18,o4 140 .gtr 138 139] (kd 140 (kq [om 141 19,om 142 3,o4 143 .sub 141 142,om 20 143] (fo [om 144 18,om 21 144])) (kq [om 145 1,om 20 145] (fo [om 146 2,om 21 146])))) (kq [om 147 19,o5 148 .sub 147 1,om 22 148] (.seq (.block 8 (.loop (.trim [0,22,4,21,20,19,2,1,18,3] (.seq (kq [om 149 20,om 150 21,o4 151 .lss 149 150] (kd 151 .skip (.exit 8))) (.block 9 (kq [om 152 20,om 153 21,o4 154 .add 152 153,o0 155 (.cnv .u64 (.t 154)),o0 156 (.bin .shr (.t 155) (.c (.d (.sc (.int .u64 1))))),o0 157 (.cnv .i64 (.t 156)),om 23 157] (.seq (.ops true [0,0,0,0,12,30,62,0,0,384,896,2047,4095,8191] [om 158 4,om 159 0,om 160 22,om 161 23,o4 162 .sub 160 161,oi 163 172 159 162,o2 164 172 163,om 165 0,om 166 23,oi 167 172 165 166,o2 168 172 167,o0 169 (.call (.val (.t 158)) [.t 164,.t 168]),o5 170 .lss 169 0,o0 171 (.not (.t 170))]) (kd 171 (fo [om 172 23,o5 173 .add 172 1,om 20 173]) (fo [om 174 23,om 21 174])))))))))
 (kq [om 175 19,om 176 20,o4 177 .sub 175 176,om 24 177] (.seq (kq [om 178 20,om 179 2,o4 180 .lss 178 179,om 181 180,oh 182 181 true 2,oh 183 181 true 24,kG 184 181 true .lss (.t 182) (.t 183),kP 185 181 184] (kd 185 (fo [om 186 0,om 187 20,om 188 2,om 189 24,om 190 4,o6 191 239 [.t 186,.t 187,.t 188,.t 189,.t 190]]) .skip)) (.seq (kq [om 192 1,om 193 20,o4 194 .lss 192 193,om 195 194,oh 196 195 true 20,oh 197 195 true 18,kG 198 195 true .lss (.t 196) (.t 197),kP 199 195 198] (kd 199 (fo [om 200 0,om 201 1,om 202 20,om 203 18,om 204 4,o6 205 183 [.t 200,.t 201,.t 202,.t 203,.t 204]]) .skip)) (kq [om 206 18,om 207 24,o4 208 .lss 206 207,om 209 208,oh 210 209 true 24,oh 211 209 true 3,kG 212 209 true .lss (.t 210) (.t 211),kP 213 209 212] (kd 213 (fo [om 214 0,om 215 18,om 216 24,om 217 3,om 218 4,o6 219 183 [.t 214,.t 215,.t 216,.t 217,.t 218]]) .skip))))))))))))),[]⟩
theorem YK:aN Tryz.prog [] 183=some Dl.erase:=by kernel_rfl
def AP:CF:=⟨27, (kq [kM 2 (.c (.nil 172))] (kq [o0 3 (.nlr 32 172)] (.seq (kq [om 8 0,o9 9 0 8,o7 10 0] (.block 0 (.loop (.trim [10,3,8,9] (kq [o4 11 .lss 10 9] (.seq (kd 11 .skip (.exit 0)) (.seq (.block 1 (kq [oi 12 37 8 10,o2 13 37 12,kB 5 vY,o8 37 5 13] (kq [o1 15 32 5,o2 16 5 15,o6 17 47 [.t 16],om 14 17,oe 18 14 0,oe 19 14 1,om 6 18,om 7 19] (fo [om 20 3,om 21 6,o0 22 (.app false 32 172 296 (.t 20) (.t 21)),om 3 22])))) (fo [o5 23 .add 10 1,om 10 23])))))))) (kq [om 24 3,o0 25 (.call (.fn 80) [.t 24,(.c (.clo 81 [] []))])] (kq [om 26 3,om 2 26] .ret))))),[.tmp 2]⟩
theorem Wx:aN Tryz.prog [200003] 33=some AP.erase:=by kernel_rfl
def AQ:CF:=⟨10, (kq [ox 2 0,ox 3 1,o7 4 0] (kq [o1 5 0 2,o2 6 33 5,o1 7 0 3,o2 8 33 7,o6 9 52 [.t 6,.t 8],om 4 9] .ret)),[.tmp 4]⟩
theorem Wy:aN Tryz.prog [100002,100003] 81=some AQ.erase:=by kernel_rfl
def AS:CF:=⟨29, (kq [kM 2 (.c (.nil 33))] (kq [om 7 0,o6 8 50 [.t 7],om 3 8] (kq [o0 4 (.nlr 27 33)] (.seq (kq [om 9 0,o6 10 33 [.t 9],o9 11 0 10,o7 12 0] (.block 0 (.loop (.trim [12,4,3,10,11] (kq [o4 13 .lss 12 11] (.seq (kd 13 .skip (.exit 0)) (.seq (.block 1 (kq [oi 14 172 10 12,o2 15 172 14,kB 6 dZ,o8 172 6 15] (kq [om 16 3,o1 17 0 6,o2 18 33 17,o0 19 (.lkp true cJ (.nil 33) false (.t 16) (.t 18)),o9 20 0 19,o5 21 .eql 20 0] (kd 21 (fo [om 22 4,o1 23 0 6,o2 24 33 23,o0 25 (.bsf 33 1 cQ [(0,33,(.t 24))]),o0 26 (.app false 27 33 40 (.t 22) (.t 25)),om 4 26]) .skip)))) (fo [o5 27 .add 12 1,om 12 27])))))))) (kq [om 28 4,om 2 28] .ret))))),[.tmp 2]⟩
theorem WA:aN Tryz.prog [200004,100025] 41=some AS.erase:=by kernel_rfl
end Go.Proofs.Q
namespace Go.Proofs.Q
open Go Go.Bb Go.RowKit Go.Proofs.Lg
open Go.Ab (D RD)
def uq(l:List au):Prop:= ∀(i j:Nat) (x y:au),l[i]?=some x→l[j]?=some y→i≤j→decide (cY y.id x.id<0)=false
def wa(P:Program)(g:FuncId)(a cs:List AV)(s:List aa):Prop:= ∀(x y:au) (K:AV→List aa→Nat→Prop),K (.d (dI (cY x.id y.id))) s 0→aq P (.clo g a cs) [.d (.agg (aI x)),.d (.agg (aI y))] s K
set_option maxHeartbeats 1000000 in
theorem Tj(l:List au)(v:l.length≤1000000000)(p:uq l)(g:FuncId)(e cs:List AV)(s:List aa)(hc:wa Tryz.prog g e cs s)(a b:Nat)(n:a≤b)(hb:b≤l.length):
  b7 Tryz.prog 182 [.d (.sl 172 (l.map aI)),iN a,iN b,.clo g e cs] s fun d q=>d= .tup []∧q=s:=by
 refine b7.of (F:=AF) Wn (by simp[AF]) ?_;simp only[AF];have r:IntKind.i64.wrap ((a:Int)+1)=((a+1:Nat):Int):=bE a8 a8
 repeat' first|refine ae (fun _=> ?_) fun _=> ?_|refine aL ?_|simp only[r,wj,wy,qg,aH,reduceCtorEq,reduceIte,Nat.reduceAdd,Nat.reduceMul,Nat.reduceEqDiff,Nat.reduceLT,Nat.reduceLeDiff,Nat.reduceSub,aA,aF,aE,aw]
 refine aZ.tr (fun(i:Nat)=>[(8,iN i)]) (fun _=>s) (fun m i=>m+i=l.length+1∧a<i) (l.length-a) (a+1) aB aB rfl ⟨by omega,by omega⟩ ?_;rintro m i ⟨hm,hi⟩;by_cases o:i<b
 ·have c:decide ((i:Int)<(b:Int))=true:=by simp;omega
  have t:IntKind.i64.wrap ((i:Int)+1)=((i+1:Nat):Int):=bE a8 a8;obtain⟨x,f⟩:=kb (l:=l) (i:=i-1) a8;obtain⟨y,h⟩:=kb (l:=l) (i:=i) a8;have k:=p (i-1) i x y f h a8;have u:IntKind.i64.wrap ((i:Int)-1)=((i-1:Nat):Int):=bE a8 a8;have j:decide ((i:Int)>(a:Int))=true:=by simp;omega
  repeat' first|refine ae (fun _=> ?_) fun _=> ?_|refine aL ?_|simp only[c,wj,wy,qg,aH,reduceCtorEq,reduceIte,Nat.reduceAdd,Nat.reduceMul,Nat.reduceEqDiff,Nat.reduceLT,Nat.reduceLeDiff,Nat.reduceSub,aA,aF,aE,aw]
  refine aZ.tr (fun(_:Unit)=>[(9,iN i)]) (fun _=>s) (fun _ _=>True) 0 () aB aB rfl trivial ?_;rintro w _ _
  repeat' first|refine ae (fun _=> ?_) fun _=> ?_|refine aL ?_|(refine hc _ _ _ ?_)|simp only[j,f,h,t,u,k,wj,wy,qg,aH,reduceCtorEq,reduceIte,Nat.reduceAdd,Nat.reduceMul,Nat.reduceEqDiff,Nat.reduceLT,Nat.reduceLeDiff,Nat.reduceSub,aA,aF,aE,aw]
  exact⟨m-1,i+1,by omega,rfl,by omega,by omega⟩
 ·have c:decide ((i:Int)<(b:Int))=false:=by simp;omega
  repeat' first|refine ae (fun _=> ?_) fun _=> ?_|refine aL ?_|simp only[c,wj,wy,qg,aH,reduceCtorEq,reduceIte,Nat.reduceAdd,Nat.reduceMul,Nat.reduceEqDiff,Nat.reduceLT,Nat.reduceLeDiff,Nat.reduceSub,aA,aF,aE,aw]
  all_goals first|rfl|trace_state
set_option maxHeartbeats 4000000 in
set_option maxRecDepth 20000 in
theorem P4(l:List au)(hl:l.length≤1000000000)(E:uq l)(g:FuncId)(O cs:List AV)(s:List aa)(hc:wa Tryz.prog g O cs s): ∀(n a m b:Nat),b-a≤n→a<m→m<b→b≤l.length→
  b7 Tryz.prog 183 [.d (.sl 172 (l.map aI)),iN a,iN m,iN b,.clo g O cs] s fun d V=>d= .tup []∧V=s
 |0,a,m,b,h,h1,h2,_=>by omega
 |n+1,a,m,b,hn,h1,h2,h3=>by
  have L:=P4 l hl E g O cs s hc n;refine b7.of (F:=Dl) YK (by simp[Dl]) ?_;simp only[Dl];have M:IntKind.i64.wrap ((m:Int)-(a:Int))=((m-a:Nat):Int):=bE a8 a8;have w2:IntKind.i64.wrap ((b:Int)-(m:Int))=((b-m:Nat):Int):=bE a8 a8;by_cases R:m-a=1
  ·have C:(((m-a:Nat):Int)==1)=true:=by rw[R];rfl
   repeat' first|refine ae (fun _=> ?_) fun _=> ?_|refine aL ?_|simp only[M,C,wj,wy,qg,aH,reduceCtorEq,reduceIte,Nat.reduceAdd,Nat.reduceMul,Nat.reduceEqDiff,Nat.reduceLT,Nat.reduceLeDiff,Nat.reduceSub,aA,aF,aE,aw]
   refine aZ.tr (fun(q:Nat)=>[(10,iN m),(11,iN q)]) (fun _=>s) (fun k q=>k+m=q∧q≤b) (b-m) b aB aB rfl ⟨by omega,by omega⟩ ?_;rintro k q ⟨hk,S⟩;by_cases w:m<q
   ·obtain⟨A,v2,v3,v4⟩:=uX (i:=m) (j:=q) a8;obtain⟨x,e⟩:=kb (l:=l) (i:=a) a8;obtain⟨y,f⟩:=kb (l:=l) (i:=(m+q)/2) a8;have v:=E a ((m+q)/2) x y e f a8;have c:decide ((m:Int)<(q:Int))=true:=by simp;omega
    repeat' first|refine ae (fun _=> ?_) fun _=> ?_|refine aL ?_|(refine hc _ _ _ ?_)|simp only[c,A,v2,v3,v4,e,f,v,Int.reduceLE,wj,wy,qg,aH,reduceCtorEq,reduceIte,Nat.reduceAdd,Nat.reduceMul,Nat.reduceEqDiff,Nat.reduceLT,Nat.reduceLeDiff,Nat.reduceSub,aA,aF,aE,aw]
    exact⟨(m+q)/2-m,(m+q)/2,by omega,rfl,by omega,by omega⟩
   ·have c:decide ((m:Int)<(q:Int))=false:=by simp;omega
    have w4:IntKind.i64.wrap ((m:Int)-1)=((m-1:Nat):Int):=bE a8 a8;have t:decide ((a:Int)<((m-1:Nat):Int))=false:=by simp;omega
    repeat' first|refine ae (fun _=> ?_) fun _=> ?_|refine aL ?_|simp only[c,wj,wy,qg,aH,reduceCtorEq,reduceIte,Nat.reduceAdd,Nat.reduceMul,Nat.reduceEqDiff,Nat.reduceLT,Nat.reduceLeDiff,Nat.reduceSub,aA,aF,aE,aw]
    refine aZ.tr (fun(_:Unit)=>[(13,iN a)]) (fun _=>s) (fun _ _=>True) 0 () aB aB rfl trivial ?_;rintro m2 _ _
    repeat' first|refine ae (fun _=> ?_) fun _=> ?_|refine aL ?_|simp only[w4,t,wj,wy,qg,aH,reduceCtorEq,reduceIte,Nat.reduceAdd,Nat.reduceMul,Nat.reduceEqDiff,Nat.reduceLT,Nat.reduceLeDiff,Nat.reduceSub,aA,aF,aE,aw]
    all_goals first|rfl|trace_state
  ·have C:(((m-a:Nat):Int)==1)=false:=by rw[beq_eq_false_iff_ne];omega
   by_cases P:b-m=1
   ·have I:(((b-m:Nat):Int)==1)=true:=by rw[P];rfl
    repeat' first|refine ae (fun _=> ?_) fun _=> ?_|refine aL ?_|simp only[M,C,w2,I,wj,wy,qg,aH,reduceCtorEq,reduceIte,Nat.reduceAdd,Nat.reduceMul,Nat.reduceEqDiff,Nat.reduceLT,Nat.reduceLeDiff,Nat.reduceSub,aA,aF,aE,aw]
    refine aZ.tr (fun(q:Nat)=>[(14,iN q),(15,iN m)]) (fun _=>s) (fun k q=>k+q=m∧a≤q) (m-a) a aB aB rfl ⟨by omega,by omega⟩ ?_;rintro k q ⟨hk,S⟩;by_cases w:q<m
    ·obtain⟨A,v2,v3,v4⟩:=uX (i:=q) (j:=m) a8;obtain⟨x,e⟩:=kb (l:=l) (i:=(q+m)/2) a8;obtain⟨y,f⟩:=kb (l:=l) (i:=m) a8;have v:=E ((q+m)/2) m x y e f a8;have c:decide ((q:Int)<(m:Int))=true:=by simp;omega
     have v5:IntKind.i64.wrap ((((q+m)/2:Nat):Int)+1)=(((q+m)/2+1:Nat):Int):=bE a8 a8
     repeat' first|refine ae (fun _=> ?_) fun _=> ?_|refine aL ?_|(refine hc _ _ _ ?_)|simp only[c,A,v2,v3,v4,v5,e,f,v,Int.reduceLE,wj,wy,qg,aH,reduceCtorEq,reduceIte,Nat.reduceAdd,Nat.reduceMul,Nat.reduceEqDiff,Nat.reduceLT,Nat.reduceLeDiff,Nat.reduceSub,aA,aF,aE,aw]
     exact⟨m-((q+m)/2+1),(q+m)/2+1,by omega,rfl,by omega,by omega⟩
    ·have c:decide ((q:Int)<(m:Int))=false:=by simp;omega
     have t:decide ((m:Int)>(q:Int))=false:=by simp;omega
     repeat' first|refine ae (fun _=> ?_) fun _=> ?_|refine aL ?_|simp only[c,wj,wy,qg,aH,reduceCtorEq,reduceIte,Nat.reduceAdd,Nat.reduceMul,Nat.reduceEqDiff,Nat.reduceLT,Nat.reduceLeDiff,Nat.reduceSub,aA,aF,aE,aw]
     refine aZ.tr (fun(_:Unit)=>[(17,iN m)]) (fun _=>s) (fun _ _=>True) 0 () aB aB rfl trivial ?_;rintro m2 _ _
     repeat' first|refine ae (fun _=> ?_) fun _=> ?_|refine aL ?_|simp only[t,wj,wy,qg,aH,reduceCtorEq,reduceIte,Nat.reduceAdd,Nat.reduceMul,Nat.reduceEqDiff,Nat.reduceLT,Nat.reduceLeDiff,Nat.reduceSub,aA,aF,aE,aw]
     all_goals first|rfl|trace_state
   ·have I:(((b-m:Nat):Int)==1)=false:=by rw[beq_eq_false_iff_ne];omega
    obtain⟨A,v2,v3,v4⟩:=uX (i:=a) (j:=b) a8;obtain⟨mid,D⟩: ∃q,q=(a+b)/2:=⟨_,rfl⟩
    have v5:IntKind.i64.wrap ((mid:Int)+(m:Int))=((mid+m:Nat):Int):=bE a8 a8;have v6:IntKind.i64.wrap (((mid+m:Nat):Int)-1)=((mid+m-1:Nat):Int):=bE a8 a8;rw[←D]at v3 v4;obtain⟨st,r,p,K,a0,hD⟩: ∃st r:Nat,(if mid<m then st=mid+m-b else st=a)∧(if mid<m then r=mid else r=m)∧st≤r∧True:=by
     by_cases h:mid<m
     ·exact⟨mid+m-b,mid,by rw[if_pos h],by rw[if_pos h],by omega,trivial⟩
     ·exact⟨a,m,by rw[if_neg h],by rw[if_neg h],by omega,trivial⟩
    have v7:mid<m→IntKind.i64.wrap (((mid+m:Nat):Int)-(b:Int))=(st:Int):=fun h=>by rw[if_pos h]at p;exact bE a8 a8
    have Q: ∀J:List aa,J=s→True:=fun _ _=>trivial;by_cases o:mid<m
    ·have N:decide ((m:Int)>(mid:Int))=true:=by simp;omega
     rw[if_pos o]at p K;have v8:=v7 o;have z:=L mid m b a8 o h2 h3;clear L v7
     repeat' first|refine ae (fun _=> ?_) fun _=> ?_|refine aL ?_|simp only[M,C,w2,I,A,v2,v3,v4,v5,v6,v8,N,Int.reduceLE,wj,wy,qg,aH,reduceCtorEq,reduceIte,Nat.reduceAdd,Nat.reduceMul,Nat.reduceEqDiff,Nat.reduceLT,Nat.reduceLeDiff,Nat.reduceSub,aA,aF,aE,aw]
     refine aZ.tr (fun(q:Nat)=>[(20,iN q),(21,iN r)]) (fun _=>s) (fun k q=>k+q=r∧st≤q) (r-st) st aB (by rw[K];simp only[wy,qg,aH,reduceCtorEq,reduceIte,Nat.reduceAdd,Nat.reduceMul,Nat.reduceEqDiff,Nat.reduceLT,Nat.reduceLeDiff,Nat.reduceSub,aA,aF,aE,aw]) rfl ⟨by omega,by omega⟩ ?_;rintro k q ⟨hk,S⟩;by_cases w:q<r
     ·obtain⟨u,W,X,Y⟩:=uX (i:=q) (j:=r) a8;obtain⟨x,e⟩:=kb (l:=l) (i:=(q+r)/2) a8;obtain⟨y,f⟩:=kb (l:=l) (i:=mid+m-1-(q+r)/2) a8;have v:=E ((q+r)/2) (mid+m-1-(q+r)/2) x y e f a8;have c:decide ((q:Int)<(r:Int))=true:=by simp;omega
      have Z:IntKind.i64.wrap (((mid+m-1:Nat):Int)-(((q+r)/2:Nat):Int))=((mid+m-1-(q+r)/2:Nat):Int):=bE a8 a8;have u6:IntKind.i64.wrap ((((q+r)/2:Nat):Int)+1)=(((q+r)/2+1:Nat):Int):=bE a8 a8
      repeat' first|refine ae (fun _=> ?_) fun _=> ?_|refine aL ?_|(refine hc _ _ _ ?_)|simp only[c,u,W,X,Y,Z,u6,e,f,v,Int.reduceLE,wj,wy,qg,aH,reduceCtorEq,reduceIte,Nat.reduceAdd,Nat.reduceMul,Nat.reduceEqDiff,Nat.reduceLT,Nat.reduceLeDiff,Nat.reduceSub,aA,aF,aE,aw]
      exact⟨r-((q+r)/2+1),(q+r)/2+1,by omega,rfl,by omega,by omega⟩
     ·have c:decide ((q:Int)<(r:Int))=false:=by simp;omega
      have eq:q=mid:=by omega
      have u:IntKind.i64.wrap (((mid+m:Nat):Int)-(q:Int))=((m:Nat):Int):=bE a8 a8;have t:decide ((q:Int)<(m:Int))=true:=by simp;omega
      have d4:decide ((m:Int)<(m:Int))=false:=by simp
      have B:decide ((q:Int)<(mid:Int))=false:=by simp;omega
      have G:decide ((mid:Int)<(m:Int))=true:=by simp;omega
      have d7:decide ((m:Int)<(b:Int))=true:=by simp;omega
      have H:decide ((a:Int)<(q:Int))=true:=by simp;omega
      repeat' first|refine ae (fun _=> ?_) fun _=> ?_|refine aL ?_|(refine aq.fn (z.mono ?_);rintro _ V ⟨rfl,rfl⟩)|simp only[c,u,t,d4,B,G,d7,H,wj,wy,qg,aH,reduceCtorEq,reduceIte,Nat.reduceAdd,Nat.reduceMul,Nat.reduceEqDiff,Nat.reduceLT,Nat.reduceLeDiff,Nat.reduceSub,aA,aF,aE,aw]
      all_goals first|rfl|trace_state
    ·have N:decide ((m:Int)>(mid:Int))=false:=by simp;omega
     rw[if_neg o]at p K;have z:=fun h=>L a m mid a8 h1 h a8;clear L v7
     repeat' first|refine ae (fun _=> ?_) fun _=> ?_|refine aL ?_|simp only[M,C,w2,I,A,v2,v3,v4,v5,v6,N,Int.reduceLE,wj,wy,qg,aH,reduceCtorEq,reduceIte,Nat.reduceAdd,Nat.reduceMul,Nat.reduceEqDiff,Nat.reduceLT,Nat.reduceLeDiff,Nat.reduceSub,aA,aF,aE,aw]
     refine aZ.tr (fun(q:Nat)=>[(20,iN q),(21,iN r)]) (fun _=>s) (fun k q=>k+q=r∧st≤q) (r-st) st aB (by rw[K,p];simp only[wy,qg,aH,reduceCtorEq,reduceIte,Nat.reduceAdd,Nat.reduceMul,Nat.reduceEqDiff,Nat.reduceLT,Nat.reduceLeDiff,Nat.reduceSub,aA,aF,aE,aw]) rfl ⟨by omega,by omega⟩ ?_;rintro k q ⟨hk,S⟩;by_cases w:q<r
     ·obtain⟨u,W,X,Y⟩:=uX (i:=q) (j:=r) a8;obtain⟨x,e⟩:=kb (l:=l) (i:=(q+r)/2) a8;obtain⟨y,f⟩:=kb (l:=l) (i:=mid+m-1-(q+r)/2) a8;have v:=E ((q+r)/2) (mid+m-1-(q+r)/2) x y e f a8;have c:decide ((q:Int)<(r:Int))=true:=by simp;omega
      have Z:IntKind.i64.wrap (((mid+m-1:Nat):Int)-(((q+r)/2:Nat):Int))=((mid+m-1-(q+r)/2:Nat):Int):=bE a8 a8;have u6:IntKind.i64.wrap ((((q+r)/2:Nat):Int)+1)=(((q+r)/2+1:Nat):Int):=bE a8 a8
      repeat' first|refine ae (fun _=> ?_) fun _=> ?_|refine aL ?_|(refine hc _ _ _ ?_)|simp only[c,u,W,X,Y,Z,u6,e,f,v,Int.reduceLE,wj,wy,qg,aH,reduceCtorEq,reduceIte,Nat.reduceAdd,Nat.reduceMul,Nat.reduceEqDiff,Nat.reduceLT,Nat.reduceLeDiff,Nat.reduceSub,aA,aF,aE,aw]
      exact⟨r-((q+r)/2+1),(q+r)/2+1,by omega,rfl,by omega,by omega⟩
     ·have c:decide ((q:Int)<(r:Int))=false:=by simp;omega
      have eq:q=m:=by omega
      subst eq;have u:IntKind.i64.wrap (((mid+q:Nat):Int)-(q:Int))=((mid:Nat):Int):=bE a8 a8;have t:decide ((q:Int)<(q:Int))=false:=by simp
      have G:decide ((mid:Int)<(mid:Int))=false:=by simp
      have H:decide ((a:Int)<(q:Int))=true:=by simp;omega
      by_cases T:q<mid
      ·have B:decide ((q:Int)<(mid:Int))=true:=by simp;omega
       have U:=z T
       repeat' first|refine ae (fun _=> ?_) fun _=> ?_|refine aL ?_|(refine aq.fn (U.mono ?_);rintro _ V ⟨rfl,rfl⟩)|simp only[c,u,t,B,G,H,wj,wy,qg,aH,reduceCtorEq,reduceIte,Nat.reduceAdd,Nat.reduceMul,Nat.reduceEqDiff,Nat.reduceLT,Nat.reduceLeDiff,Nat.reduceSub,aA,aF,aE,aw]
       all_goals first|rfl|trace_state
      ·have B:decide ((q:Int)<(mid:Int))=false:=by simp;omega
       repeat' first|refine ae (fun _=> ?_) fun _=> ?_|refine aL ?_|simp only[c,u,t,B,G,H,wj,wy,qg,aH,reduceCtorEq,reduceIte,Nat.reduceAdd,Nat.reduceMul,Nat.reduceEqDiff,Nat.reduceLT,Nat.reduceLeDiff,Nat.reduceSub,aA,aF,aE,aw]
       all_goals first|rfl|trace_state
set_option maxHeartbeats 4000000 in
set_option maxRecDepth 20000 in
theorem a3z(l:List au)(t:l.length≤1000000000)(u:uq l)(g:FuncId)(o cs:List AV)(s:List aa)(hc:wa Tryz.prog g o cs s):
  b7 Tryz.prog 125 [.d (.sl 172 (l.map aI)),iN l.length,.clo g o cs] s fun d j=>d= .tup []∧j=s:=by
 have ci:=Tj l t u g o cs s hc;have r:=fun a m b=>P4 l t u g o cs s hc (b-a) a m b (bk _);refine b7.of (F:=Dk) YJ (by simp[Dk]) ?_;simp only[Dk]
 repeat' first|refine ae (fun _=> ?_) fun _=> ?_|refine aL ?_|simp only[wj,wy,qg,aH,simprocAttr,aA,aF,aE,aw]
 refine aZ.tr (fun(a:Nat)=>[(7,iN a),(8,iN (a+20))]) (fun _=>s) (fun m a=>m+a=l.length) l.length 0 aB aB rfl a8 ?_;rintro m a hm;have k:IntKind.i64.wrap (((a+20:Nat):Int)+20)=((a+20+20:Nat):Int):=bE a8 a8;by_cases f:a+20≤l.length
 ·have e:decide (((a+20:Nat):Int)≤(l.length:Int))=true:=by simp;omega
  have c:=ci a (a+20) a8 f
  repeat' first|refine ae (fun _=> ?_) fun _=> ?_|refine aL ?_|(refine aq.fn (c.mono ?_);rintro _ j ⟨rfl,rfl⟩)|simp only[e,k,wj,wy,qg,aH,simprocAttr,aA,aF,aE,aw]
  exact⟨m-20,a+20,by omega,⟨rfl,rfl⟩,by omega⟩
 ·have e:decide (((a+20:Nat):Int)≤(l.length:Int))=false:=by simp;omega
  have c:=ci a l.length a8 (bk _);clear k
  repeat' first|refine ae (fun _=> ?_) fun _=> ?_|refine aL ?_|(refine aq.fn (c.mono ?_);rintro _ j ⟨rfl,rfl⟩)|simp only[e,wj,wy,qg,aH,simprocAttr,aA,aF,aE,aw]
  clear c e f hm;refine aZ.tr (fun(z:Nat)=>[(6,iN z)]) (fun _=>_) (fun m z=>m=l.length-z∧20≤z∧z≤4000000000) (l.length-20) 20 aB aB rfl ⟨rfl,by omega,by omega⟩ ?_;rintro m z ⟨hm,C,x⟩;by_cases f:z<l.length
  ·have e:decide ((z:Int)<(l.length:Int))=true:=by simp;omega
   have k:IntKind.i64.wrap (2*(z:Int))=((0+2*z:Nat):Int):=bE a8 a8;have A:IntKind.i64.wrap (2*(z:Int))=((2*z:Nat):Int):=bE a8 a8;have v:IntKind.i64.wrap ((z:Int)*2)=((2*z:Nat):Int):=bE a8 a8
   repeat' first|refine ae (fun _=> ?_) fun _=> ?_|refine aL ?_|simp only[e,k,wj,wy,qg,aH,simprocAttr,aA,aF,aE,aw]
   refine aZ.tr (fun(a:Nat)=>[(7,iN a),(8,iN (a+2*z))]) (fun _=>_) (fun m a=>m+a=l.length) l.length 0 aB aB rfl a8 ?_;rintro y a w;have q:IntKind.i64.wrap ((a:Int)+(z:Int))=((a+z:Nat):Int):=bE a8 a8;have B:IntKind.i64.wrap (((a+2*z:Nat):Int)+((2*z:Nat):Int))=((a+2*z+2*z:Nat):Int):=bE a8 a8;clear k;by_cases h:a+2*z≤l.length
   ·have n:decide (((a+2*z:Nat):Int)≤(l.length:Int))=true:=by simp;omega
    have c:=r a (a+z) (a+2*z) a8 a8 h
    repeat' first|refine ae (fun _=> ?_) fun _=> ?_|refine aL ?_|(refine aq.fn (c.mono ?_);rintro _ j ⟨rfl,rfl⟩)|simp only[n,A,q,B,wj,wy,qg,aH,simprocAttr,aA,aF,aE,aw]
    exact⟨y-2*z,a+2*z,by omega,⟨rfl,rfl⟩,by omega⟩
   ·have n:decide (((a+2*z:Nat):Int)≤(l.length:Int))=false:=by simp;omega
    by_cases i:a+z<l.length
    ·have p:decide (((a+z:Nat):Int)<(l.length:Int))=true:=by simp;omega
     have c:=r a (a+z) l.length a8 i (bk _)
     repeat' first|refine ae (fun _=> ?_) fun _=> ?_|refine aL ?_|(refine aq.fn (c.mono ?_);rintro _ j ⟨rfl,rfl⟩)|simp only[n,v,q,p,wj,wy,qg,aH,simprocAttr,aA,aF,aE,aw]
     exact⟨l.length-2*z,2*z,by omega,rfl,rfl,by omega,by omega⟩
    ·have p:decide (((a+z:Nat):Int)<(l.length:Int))=false:=by simp;omega
     repeat' first|refine ae (fun _=> ?_) fun _=> ?_|refine aL ?_|simp only[n,v,q,p,wj,wy,qg,aH,simprocAttr,aA,aF,aE,aw]
     exact⟨l.length-2*z,2*z,by omega,rfl,rfl,by omega,by omega⟩
  ·have e:decide ((z:Int)<(l.length:Int))=false:=by simp;omega
   repeat' first|refine ae (fun _=> ?_) fun _=> ?_|refine aL ?_|simp only[e,wj,wy,qg,aH,simprocAttr,aA,aF,aE,aw]
   all_goals first|rfl|trace_state
theorem a3u(l:List au)(e:l.length≤1000000000)(f:uq l)(g:FuncId)(a cs:List AV)(s:List aa)(hc:wa Tryz.prog g a cs s):
  b7 Tryz.prog 80 [.d (.sl 172 (l.map aI)),.clo g a cs] s fun d b=>d= .tup []∧b=s:=by
 have c:=a3z l e f g a cs s hc;refine b7.of (F:=Ay) Wh (by simp[Ay]) ?_;simp only[Ay]
 repeat' first|refine ae (fun _=> ?_) fun _=> ?_|refine aL ?_|(refine aq.fn (c.mono ?_);rintro _ b ⟨rfl,rfl⟩)|simp only[wj,wy,qg,aH,simprocAttr,aA,aF,aE,aw]
 all_goals first|rfl|trace_state
theorem U5(x y:au):aG Tryz.prog 81 [.agg (aI x),.agg (aI y)] (dI (cY x.id y.id)):=by
 refine aM (F:=AQ) Wy (by simp[AQ]) ?_;simp only[AQ]
 repeat' first|refine ae (fun _=> ?_) fun _=> ?_|refine ay @wj @Gm ?_|exact ax @wj @Gm|fail
 all_goals first|rfl|trace_state
theorem RQ(s:List aa):wa Tryz.prog 81 [] [] s:=fun x y K a=>aq.data (U5 x y) rfl a
set_option maxHeartbeats 1000000 in
theorem U6(l:aD)(B:l.length≤1000)(F:aX→List au)(E:aX→Int)(j: ∀x∈l,(F x.pat).length≤100000)(o: ∀x∈l,aG Tryz.prog 47 [.agg (bc x.pat)] (.tup [.sl 172 ((F x.pat).map aI),dI (E x.pat)]))(v:uq (l.flatMap fun x=>F x.pat)):
  aG Tryz.prog 33 [.sl 37 (l.map b5)] (.sl 172 ((l.flatMap fun x=>F x.pat).map aI)):=by
 have f: ∀r:aD,(∀x∈r,x∈l)→(r.flatMap fun x=>F x.pat).length≤r.length*100000:=fun r i=>by
  induction r with
  |nil=>simp
  |cons x r z=>
   have u:=j x (i x (by simp));have A:=z fun y w=>i y (by simp[w]);rw[lR,aR,aY];omega
 have p:=f l fun x h=>h;refine qx (F:=AP) Wx (by simp[AP]) ?_;simp only[AP];refine AC.seq (bD ?_)
 repeat' first|refine ae (fun _=> ?_) fun _=> ?_|refine ay @wj ab ?_|exact ax @wj ab|fail
 refine AC.seq (bD ?_)
 repeat' first|refine ae (fun _=> ?_) fun _=> ?_|refine ay @wj ab ?_|exact ax @wj ab|fail
 refine AC.seq (bD ?_)
 repeat' first|refine ae (fun _=> ?_) fun _=> ?_|refine ay @wj ab ?_|exact ax @wj ab|fail
 refine aZ.overI l (fun k (b:List au×List aa)=>[(10,iN k),(3,.tsl 0 172 (b.1.map aI))]) (fun _ b=> .row 32 172 b.1.length::b.2) (fun r b=>b.1++r.flatMap fun x=>F x.pat) (l.flatMap fun x=>F x.pat) (fun k b=>b.1.length≤k*100000) ([],[]) a8 aB aB rfl (by simp) (by simp) (fun k b x hg hk g q a m=> ?_) (fun b g a m=> ?_)
 ·obtain⟨b,J⟩:=b;dsimp only at a m;have c:=bX hg;have n:=o x c;have u:=j x c;have i:bw (b.length+(F x.pat).length) 296=true:=room_le a8 a8;rw[lR]at a;clear o j f
  repeat' first|refine ae (fun _=> ?_) fun _=> ?_|refine ay (ga @g (ga @q (ga @hg (ga @i (ga @yM (ga @fH @wj)))))) @n ?_|exact ax (ga @g (ga @q (ga @hg (ga @i (ga @yM (ga @fH @wj)))))) @n|fail
  exact⟨(b++F x.pat,J++[aa.cells ((b5 x).map .d)]),by simp,by simp,by rw[a,bj],by simp;omega⟩
 ·obtain⟨b,J⟩:=b;dsimp only at a m;rw[List.flatMap_nil,bg]at a;subst a
  repeat' first|refine ae (fun _=> ?_) fun _=> ?_|refine ay (ga @g @wj) ab ?_|exact ax (ga @g @wj) ab|fail
  refine AC.toD (fr':=[(3,.d (.sl 172 ((l.flatMap fun x=>F x.pat).map aI)))]) (fun t x c=> ?_) ?_
  ·unfold Bb.look at c;split at c
   ·rename_i e;subst e;cases c;exact .inr ⟨_,_,rfl,rfl,rfl⟩
   ·cases c
  have cs:=fun s=>a3u _ a8 v 81 [] [] s (RQ s);refine AC.seq (bD ?_)
  repeat' first|refine ae (fun _=> ?_) fun _=> ?_|refine ay @wj @cs ?_|exact ax @wj @cs|fail
  refine bD ?_
  repeat' first|refine ae (fun _=> ?_) fun _=> ?_|refine ay @wj ab ?_|exact ax @wj ab|fail
  all_goals first|rfl|trace_state
theorem QU{l:aD}(h:dD ar l):uq (ff l):=by
 have hp:(ff l).Pairwise fun a b=> ¬cY b.id a.id<0:=by
  unfold ff;rw[List.pairwise_flatMap];refine⟨fun x e=>qE.2 fun i j hi d c=> ?_,?_⟩
  ·rw[wD x.pat i _ (bN hi),wD x.pat j _ (bN d)];exact Ta a8
  ·have g:l.Pairwise fun x y=>bS x.id y.id<0:=List.pairwise_map.1 h.sorted;refine List.Pairwise.imp_of_mem (fun{x y} e f hxy a ha b hb=> ?_) g;obtain⟨i,hi⟩:=fU ha;obtain⟨j,d⟩:=fU hb;rw[wD x.pat i a hi,wD y.pat j b d,(h.id x e).2,(h.id y f).2];exact T9 hxy
 intro i j x y e f c;rw[decide_eq_false_iff_not];rcases Nat.lt_or_eq_of_le c with h1|h1
 ·obtain⟨hi,rfl⟩:=b9.1 e;obtain⟨d,rfl⟩:=b9.1 f;exact qE.1 hp i j hi d h1
 ·subst h1;rw[e]at f;obtain rfl:=aJ f;rw[Tb];decide
theorem L7(l:aD)(c:l.length≤1000)(b: ∀x∈l,cz x.pat∧du x.pat)(d:dD ar l):aG Tryz.prog 33 [.sl 37 (l.map b5)] (.sl 172 ((ff l).map aI)):=
 U6 l c (fun p=>(dR p).1) (fun p=>(dR p).2) (fun x a=>by have:=ER (b x a).2;omega) (fun x a=>DJ x.pat (b x a).1 (b x a).2) (QU d)
theorem Uy{n:Nat}{M:MI}{V:en}{s:List aa}(h:TI n M V s)(i:af):(gp i M 0=none∧ec V i=[])∨ ∃j v,gp i M 0=some (j,v)∧((v= .nil 33∧ec V i=[])∨ ∃r,v= .vec r (ec V i).length 33):=by
 rcases h.find i with⟨a,b⟩|⟨j,v,l,a,b,h3,h4⟩
 ·exact .inl ⟨a,xt b⟩
 ·refine .inr ⟨j,v,a,?_⟩;rw[FZ h.nd h3];rcases h4 with⟨rfl,rfl⟩|⟨r,rfl,_⟩
  ·exact .inl ⟨rfl,rfl⟩
  ·exact .inr ⟨r,rfl⟩
set_option maxHeartbeats 2000000 in
set_option maxRecDepth 20000 in
theorem U8(l:aD)(K:l.length≤1000)(D: ∀x∈l,cz x.pat∧du x.pat)(B: ∀x∈l,(cD x.pat).length≤1000000)(R:dD ar l):aG Tryz.prog 41 [.sl 37 (l.map b5)] (.sl 33 ((Dr l).map aj)):=by
 have G:=fun s=>FP l K D B R.sorted.nodup s;have H:=L7 l K D R;have T:(ff l).length≤1000*80040:=by
  exact ef (uR (fun x:bT=>(dR x.pat).1) 80040 l fun x W=>ER (D x W).2) (iP _ K)
 unfold Dr;obtain⟨V,O⟩: ∃V,V=(kj l).2:=⟨_,rfl⟩
 obtain⟨A,y⟩: ∃A,A=ff l:=⟨_,rfl⟩
 rw[←O]at G⊢;rw[←y]at H T⊢;clear O y D B;refine aM (F:=AS) WA (by simp[AS]) ?_;simp only[AS]
 repeat' first|refine ae (fun _=> ?_) fun _=> ?_|refine aL ?_|(refine aq.fn ((G _).mono ?_);rintro _ N ⟨rfl,M,I⟩)|refine aq.data (H) rfl ?_|simp only[wj,wy,qg,aH,simprocAttr,aA,aF,aE,aw]
 have hm:N[2]?=some (.map true (cI M)):=I.map;have z:=Uy I;have U:=(b9.1 hm).1;obtain⟨q,Q⟩: ∃q,q=N.length:=⟨_,rfl⟩
 rw[←Q];refine aZ.overI A (fun k (b:List af×List aa)=>[(12,iN k),(4,.tsl q 33 (b.1.map aj))]) (fun _ b=>b.2) (fun r b=>b.1++oc V r) (oc V A) (fun k b=>b.2[2]?=some (.map true (cI M))∧b.2[q]?=some (.row 27 33 b.1.length)∧b.1.length≤k) ([],N++[.row 27 33 0]) a8 aB aB rfl (by simp) ⟨bG hm _,by rw[Q];simp,by simp⟩ (fun k b x hg hk n E f C=> ?_) (fun b n f C=> ?_)
 ·obtain⟨b,J⟩:=b;dsimp only at f C;obtain⟨X,Y,Z⟩:=C;rw[U3]at f;have a:=sA x.id M 0;have i:=bG X [aa.cells ((aI x).map .d)];have m:=bG Y [aa.cells ((aI x).map .d)];have L:bw (b.length+1) 40=true:=room_le a8 a8;have hne:(2:Nat)≠q:=by omega
  have P: ∀o,(J++[aa.cells ((aI x).map .d)]).set q o=(J++[aa.cells ((aI x).map .d)]).set q o:=fun _=>rfl;clear G H I;by_cases h:ec V x.id=[]
  ·rw[if_pos h]at f;have e: ∃c:List af×List aa,c.1.map aj=b.map aj++[aj x.id]∧c.2=(J++[aa.cells ((aI x).map .d)]).set q (.row 27 33 (b.length+1))∧oc V A=c.1++oc V (A.drop (k+1))∧c.2[2]?=some (.map true (cI M))∧c.2[q]?=some (.row 27 33 c.1.length)∧c.1.length≤k+1:=
    ⟨(b++[x.id],_),by simp,rfl,by rw[f];simp,getSet i (Ne.symm hne),by rw[fA m];simp,by simp;omega⟩
   rcases z x.id with⟨g,p⟩|⟨j,v,g,⟨rfl,p⟩|⟨r,rfl⟩⟩
   ·rw[g]at a
    repeat' first|refine ae (fun _=> ?_) fun _=> ?_|refine aL ?_|simp only[n,E,hg,i,m,a,L,bz,bb,az,pT,mS,Int.reduceBEq,aQ,wj,wy,qg,aH,simprocAttr,aA,aF,aE,aw]
    all_goals(obtain⟨c,t,u,w⟩:=e;exact⟨c,by rw[t],u.symm,w⟩)
   ·rw[g]at a
    repeat' first|refine ae (fun _=> ?_) fun _=> ?_|refine aL ?_|simp only[n,E,hg,i,m,a,L,bz,bb,az,eZ,ek,Int.reduceBEq,aQ,wj,wy,qg,aH,simprocAttr,aA,aF,aE,aw]
    all_goals(obtain⟨c,t,u,w⟩:=e;exact⟨c,by rw[t],u.symm,w⟩)
   ·rw[g,h]at a
    repeat' first|refine ae (fun _=> ?_) fun _=> ?_|refine aL ?_|simp only[n,E,hg,i,m,a,L,bz,bb,az,eZ,ek,Int.reduceBEq,aQ,b6,wj,wy,qg,aH,simprocAttr,aA,aF,aE,aw]
    all_goals(obtain⟨c,t,u,w⟩:=e;exact⟨c,by rw[t],u.symm,w⟩)
  ·rw[if_neg h]at f;rcases z x.id with⟨g,p⟩|⟨j,v,g,⟨rfl,p⟩|⟨r,rfl⟩⟩
   ·exact absurd p h
   ·exact absurd p h
   ·rw[g]at a;have S:(((ec V x.id).length:Int)==0)=false:=by
     have:=List.length_pos_iff.2 h;rw[beq_eq_false_iff_ne];omega
    repeat' first|refine ae (fun _=> ?_) fun _=> ?_|refine aL ?_|simp only[n,E,hg,i,m,a,S,bz,bb,az,eZ,ek,aQ,wj,wy,qg,aH,simprocAttr,aA,aF,aE,aw]
    exact⟨(b,_),rfl,rfl,f,i,m,by dsimp only;omega⟩
 ·obtain⟨b,J⟩:=b;dsimp only at f C;rw[show oc V []=[]from rfl,bg]at f;subst f
  repeat' first|refine ae (fun _=> ?_) fun _=> ?_|refine aL ?_|simp only[n,wj,wy,qg,aH,simprocAttr,aA,aF,aE,aw]
  all_goals first|rfl|trace_state
end Go.Proofs.Q
