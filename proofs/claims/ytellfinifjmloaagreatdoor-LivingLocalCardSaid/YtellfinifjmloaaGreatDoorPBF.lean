/- Lemmas. -/
import Derived.Test.YtellfinifjmloaaGreatDoorPBE
set_option linter.unusedVariables false
set_option linter.unusedSimpArgs false
namespace Go.Proofs.Q
open Go Go.Bb Go.RowKit Go.Proofs.Lg
open Go.Ab (D RD)
def c9(l:List af):List AV:=(l.map df).flatten.map fun v=> .d (.sc v)
theorem pY(l:List af):c9 l=((l.map aj).flatten).map .d:=by
 unfold c9
 induction l with
 |nil=>rfl
 |cons x l a=>
  simp only[bV,fL,fp];rw[a,NT,nJ];rfl
theorem ON{s:List aa}{i:Nat}{l:List af}(C:s[i]?=some (.vec 27 33 (c9 l)))(p:l≠[])(z:l.length≤1000000):
  b7 Tryz.prog 51 [.vec i l.length 33,.clo 52 [] []] s fun d D=>d= .tup []∧D=s.set i (.vec 27 33 (c9 (l.mergeSort eN))):=by
 refine⟨.tup [],_,⟨enters_fn' Tryz.func51 rfl (by rfl),fun B k w vs n a=> ?_⟩,rfl,rfl⟩
 match vs,a with
 |[v,f],a=>
  obtain⟨hk,b,t⟩:=n.vecSc C (yD l) a8 (a.2 0 v _ rfl rfl);obtain⟨us,vs,rfl,q,r⟩:=(a.2 1 f _ rfl rfl).clo_inv;obtain rfl:us=[]:=fK q.1;obtain rfl:vs=[]:=fK r.1;rcases b.2 with⟨_,h⟩|⟨g,c,cur,hvv,_⟩
  ·exact absurd (fK h) p
  ·subst hvv;refine(QD l g c B w z p b).mono ?_;rintro e w' ⟨rfl,m,o⟩;have y:(l.mergeSort eN).length=l.length:=mP _;obtain⟨x,A⟩:=n.vecPut hk t rfl (by rw[yD,y]) (Ph _) m o;exact⟨_,k,rfl,.tup (us:=[]) rfl (fun j u c h=>by simp at h),x,A⟩
theorem Tl(f:AV)(s:List aa):b7 Tryz.prog 137 [.nil 33,.d (dI 0),.d (dI 0),f] s fun d c=>d= .tup []∧c=s:=by
 have b:IntKind.i64.wrap (0+1)=1:=by rfl
 have a:decide ((1:Int)<0)=false:=by decide
 refine b7.of (F:=AH) Wp (by simp[AH]) ?_;simp only[AH];refine aO (ga @b @wj) ab ?_;refine aZ.tr (fun(_:Unit)=>[(8,.d (dI 1))]) (fun _=>s) (fun _ _=>True) 0 () aB aB rfl trivial ?_;intro m _ _;exact bU (ga @a @wj) ab
 all_goals first|rfl|exact⟨rfl,rfl⟩
theorem Zo(f:FuncId)(s:List aa):b7 Tryz.prog 90 [.nil 33,.d (dI 0),.d (dI 0),.d (dI 0),.clo f [] []] s fun d e=>d= .tup []∧e=s:=by
 have a:=Tl (.clo f [] []) s;have c:IntKind.i64.wrap (0-0)=0:=by rfl
 have b:decide ((0:Int)≤12)=true:=by decide
 refine b7.of (F:=BA) Xg (by simp[BA]) ?_;simp only[BA];refine aO @wj ab ?_;refine aZ.tr (fun(_:Unit)=>[]) (fun _=>s) (fun _ _=>True) 0 () aB aB rfl trivial ?_;intro m _ _;exact FF (ga @c (ga @b @wj)) @a
 all_goals first|rfl|exact⟨rfl,rfl⟩
theorem Hv(f:FuncId)(s:List aa):b7 Tryz.prog 51 [.nil 33,.clo f [] []] s fun d c=>d= .tup []∧c=s:=by
 have a:=Zo f s;refine b7.of (F:=Ax) Wg (by simp[Ax]) ?_;simp only[Ax];have b:IntKind.u64.wrap 0=0:=by rfl
 repeat' first|refine ae (fun _=> ?_) fun _=> ?_|refine ay (ga @b @wj) (ga @zj @a) ?_|exact ax (ga @b @wj) (ga @zj @a)|fail
 all_goals first|rfl|exact⟨rfl,rfl⟩
theorem Z8(x:af)(d:Dg):aG Tryz.prog 131 [.agg (aj x),.ref (aP d)] (.agg (aj (whole x d))):=by
 have a:=DK x;unfold whole;by_cases h:isZero x.p=true
 ·by_cases b:0≤x.n
  ·have c:decide (x.n≥0)=true:=by simpa using b
   rw[if_pos ⟨h,b⟩];rw[h]at a;refine aM (F:=pn) Ge (by simp[pn]) ?_;simp only[pn];exact bU (ga @c (ga @ba (ga @az @wj))) @a
   all_goals first|rfl|trace_state
  ·have c:decide (x.n≥0)=false:=by simpa using b
   rw[if_neg (fun h=>b h.2)];rw[h]at a;refine aM (F:=pn) Ge (by simp[pn]) ?_;simp only[pn];exact bU (ga @c (ga @ba (ga @az @wj))) @a
   all_goals first|rfl|trace_state
 ·rw[if_neg (fun e=>h e.1)];have f:isZero x.p=false:=by simpa using h
  rw[f]at a;refine aM (F:=pn) Ge (by simp[pn]) ?_;simp only[pn];exact bU (ga @ba (ga @az @wj)) @a
  all_goals first|rfl|trace_state
end Go.Proofs.Q
namespace Go.Proofs.Q
open Go Go.Ab Go.Bb
def Aj:CF:=⟨4, (kq [ox 1 0,kM 2 (.c (.d (.sc .nilFunc)))] (kq [o0 3 (.mkf 195 [] [.t 1]),om 2 3] .ret)),[.tmp 2]⟩
theorem W4:aN Tryz.prog [100001] 134=some Aj.erase:=by kernel_rfl
def Ak:CF:=⟨19, (kq [o3 4 1,o9 5 0 4,o5 6 .sub 5 1,om 3 6] (.block 0 (.loop (.trim [3,1,0] (.seq (kq [om 7 3,o5 8 .geq 7 0] (kd 8 .skip (.exit 0))) (.seq (.block 1 (kq [om 11 0,om 12 3,o3 13 1,om 14 3,oi 15 32 13 14,o2 16 32 15,o0 17 (.call (.val (.t 11)) [.t 12,.t 16]),o0 18 (.not (.t 17))] (kd 18 .ret .skip))) (fo [om 9 3,o5 10 .sub 9 1,om 3 10]))))))),[]⟩
theorem W5:aN Tryz.prog [] 195=some Ak.erase:=by kernel_rfl
def Ah:CF:=⟨4, (kq [ox 1 0,kM 2 (.c (.d (.sc .nilFunc)))] (kq [o0 3 (.mkf 198 [] [.t 1]),om 2 3] .ret)),[.tmp 2]⟩
theorem W2:aN Tryz.prog [100001] 136=some Ah.erase:=by kernel_rfl
def Ai:CF:=⟨19, (kq [o3 4 1,o9 5 0 4,o5 6 .sub 5 1,om 3 6] (.block 0 (.loop (.trim [3,1,0] (.seq (kq [om 7 3,o5 8 .geq 7 0] (kd 8 .skip (.exit 0))) (.seq (.block 1 (kq [om 11 0,om 12 3,o3 13 1,om 14 3,oi 15 172 13 14,o2 16 172 15,o0 17 (.call (.val (.t 11)) [.t 12,.t 16]),o0 18 (.not (.t 17))] (kd 18 .ret .skip))) (fo [om 9 3,o5 10 .sub 9 1,om 3 10]))))))),[]⟩
theorem W3:aN Tryz.prog [] 198=some Ai.erase:=by kernel_rfl
def AU:CF:=⟨4, (kq [ox 1 0,kM 2 (.c (.d (.sc .nilFunc)))] (kq [o0 3 (.mkf 133 [] [.t 1]),om 2 3] .ret)),[.tmp 2]⟩
theorem WC:aN Tryz.prog [100001] 89=some AU.erase:=by kernel_rfl
def AX:CF:=⟨35, (kq [o0 2 (.box (.t 0))] (kq [o3 11 1,o6 12 135 [.t 11],o6 13 134 [.t 12]] (.block 0 (.trim [13,1,2] (.rng 35 (.t 13) [14,15] (fo [kB 4 ej,o8 32 4 15]) (.block 1 (kq [o3 17 1,o2 18 32 4,o6 19 46 [.t 17,.t 18],om 16 19,oe 20 16 0,oe 21 16 1,kB 5 mH,o8 5 5 20,om 6 21] (kq [o2 23 5 5,o6 24 47 [.t 23],om 22 24,oe 25 22 0,oe 26 22 1,om 7 25,om 8 26] (kq [om 27 7,o6 28 136 [.t 27]] (.block 2 (.trim [28,2] (.rng 35 (.t 28) [29,30] (fo [kB 10 dZ,o8 172 10 30]) (.block 3 (kq [o3 31 2,o2 32 172 10,o0 33 (.call (.val (.t 31)) [.t 32]),o0 34 (.not (.t 33))] (kd 34 .ret .skip))))))))))))))),[]⟩
theorem WD:aN Tryz.prog [] 133=some AX.erase:=by kernel_rfl
def AT:CF:=⟨40, (kq [kM 2 (.c (.d (.sc (.map none))))] (kq [o0 8 (.mkm true),o0 3 (.box (.c (.d (.sc (.map none))))),o8 1 3 8] (kq [o0 9 (.mkm true),o0 4 (.box (.c (.d (.sc (.map none))))),o8 1 4 9] (.seq (kq [om 10 0,o6 11 89 [.t 10]] (.block 0 (.trim [11,2,4,3] (.rng 40 (.t 11) [12] (fo [kB 5 dZ,o8 172 5 12]) (.block 1 (.seq (kq [o3 13 3,o1 14 0 5,o2 15 33 14,o0 16 (.lkp true cJ (.d (.sc (.bool false))) false (.t 13) (.t 15))] (kd 16 (.exit 1) .skip)) (kq [o1 17 171 5,o3 18 17,o9 19 0 18,o7 20 0] (.block 2 (.loop (.trim [20,3,5,4,18,19] (kq [o4 21 .lss 20 19] (.seq (kd 21 .skip (.exit 2)) (.seq (.block 3 (kq [oi 22 33 18 20,o2 23 33 22,kB 7 cQ,o8 33 7 23] (kq [o3 24 4,o2 25 33 7,o1 27 0 5,o2 28 33 27,o0 29 (.bsf 33 1 cQ [(0,33,(.t 28))]),o0 30 (.men true cJ (.nil 33) (.t 24) (.t 25)),oe 26 30 0,o0 31 (.app true 27 33 40 (.t 26) (.t 29)),oe 32 30 1,oN (.mst (.t 24) (.t 32) (.t 31))] (kq [o1 33 33 5,o3 34 33,o5 35 .eql 34 7] (kd 35 (fo [o3 36 3,o2 37 33 7,oN (.mup true cJ (.t 36) (.t 37) xT)]) .skip))))) (fo [o5 38 .add 20 1,om 20 38])))))))))))))) (kq [o3 39 4,om 2 39] .ret))))),[.tmp 2]⟩
theorem WB:aN Tryz.prog [100029,31] 50=some AT.erase:=by kernel_rfl
def pj:CF:=⟨36, (kq [ox 3 1,kB 4 dZ,kM 5 xF] (kq [om 12 0,o1 13 0 3,o2 14 32 13,o6 15 46 [.t 12,.t 14],om 11 15,oe 16 11 0,oe 17 11 1,kB 6 mH,o8 5 6 16,om 7 17] (.seq (kq [om 18 7,o0 19 (.not (.t 18))] (kd 19 (kq [o0 20 (.bld ee []),o8 172 4 20,kM 5 xF] .ret) .skip)) (kq [o2 22 5 6,o6 23 47 [.t 22],om 21 23,oe 24 21 0,oe 25 21 1,om 8 24,om 9 25] (kq [om 26 8,o0 27 (.mkf 49 [] [.t 3]),o6 28 48 [.t 26,.t 27],om 10 28] (.seq (kq [om 29 10,o5 30 .lss 29 0] (kd 30 (kq [o0 31 (.bld ee []),o8 172 4 31,kM 5 xF] .ret) .skip)) (kq [om 32 8,om 33 10,oi 34 172 32 33,o2 35 172 34,o8 172 4 35,kM 5 xT] .ret))))))),[.cell 4 (some 172),.tmp 5]⟩
theorem Gc:aN Tryz.prog [100003,300020,300031] 13=some pj.erase:=by kernel_rfl
def AR:CF:=⟨8, (kq [ox 2 0,kM 3 xF] (kq [o1 4 0 2,o2 5 33 4,o2 6 33 1,o0 7 (.eqa true cJ false (.t 5) (.t 6)),om 3 7] .ret)),[.tmp 3]⟩
theorem Wz:aN Tryz.prog [100002] 49=some AR.erase:=by kernel_rfl
def Aq:CF:=⟨19, (kq [o7 4 0] (.seq (kq [om 6 0,o9 7 0 6,o7 8 0] (.block 0 (.loop (.trim [8,0,1,7] (kq [o4 9 .lss 8 7] (.seq (kd 9 .skip (.exit 0)) (.seq (.block 1 (kq [om 10 8,om 5 10] (kq [om 11 1,om 12 0,om 13 5,oi 14 172 12 13,o2 15 172 14,o0 16 (.call (.val (.t 11)) [.t 15])] (kd 16 (kq [om 17 5,om 4 17] .ret) .skip)))) (fo [o5 18 .add 8 1,om 8 18])))))))) (kq [kM 4 (xi (-1))] .ret))),[.tmp 4]⟩
theorem Wb:aN Tryz.prog [] 48=some Aq.erase:=by kernel_rfl
def sP:CF:=⟨22, (kq [ox 3 1,kM 4 xF] (kq [om 8 0,o2 9 33 3,o6 10 13 [.t 8,.t 9],om 7 10,oe 11 7 0,oe 12 7 1,kB 5 dZ,o8 172 5 11,om 6 12] (.seq (.ops true [0,1,3,7,3,31,63,127,255,511] [om 13 6,om 14 13,oh 15 14 true 0,og 16 14 true (.call (.fn 50) [.t 15]),og 17 14 true (.ld (some 33) (.t 3)),og 18 14 true (.lkp true cJ (.nil 33) false (.t 16) (.t 17)),og 19 14 true (.len 0 (.t 18)),kG 20 14 true .eql (.t 19) (xi 0),kP 21 14 20,om 4 21]) .ret))),[.tmp 4]⟩
theorem Md:aN Tryz.prog [100003] 16=some sP.erase:=by kernel_rfl
def BM:CF:=⟨7, (kq [kM 2 (.c (.d (.sc (.pointer none))))] (kq [om 3 0,o0 4 (.mkm true),o0 5 (.bld [(.nil 37),(.d (.sc (.map none)))] [(0,1,(.t 3)),(1,1,(.t 4))]),o0 6 (.box (.t 5)),om 2 6] .ret)),[.tmp 2]⟩
theorem Xs:aN Tryz.prog [] 109=some BM.erase:=by kernel_rfl
def BC:CF:=⟨60, (kq [ox 3 1,kB 4 dZ,kM 5 xF] (.seq (.ops true [0,1,3,7,0,16,63,127,255,255,511,2047] [om 11 0,o0 12 (.nck (.t 11)),o1 13 1 12,o3 14 13,o1 15 0 3,o2 16 32 15,o0 17 (.lkp true eV (.nil 172) true (.t 14) (.t 16)),om 10 17,oe 18 10 0,oe 19 10 1,om 6 18,om 7 19]) (.seq (kq [om 20 7,o0 21 (.not (.t 20))] (kd 21 (.seq (.ops true [0,1,3,7,0,16,63,127,255,255,0,1535,4095] [om 23 0,o0 24 (.nck (.t 23)),o1 25 0 24,o3 26 25,o1 27 0 3,o2 28 32 27,o6 29 46 [.t 26,.t 28],om 22 29,oe 30 22 0,oe 31 22 1,kB 8 mH,o8 5 8 30,om 9 31]) (kq [o2 33 5 8,o6 34 47 [.t 33],om 32 34,oe 35 32 0,oe 36 32 1,om 6 35] (.ops true [0,1,3,7,0,16,0,127] [om 37 0,o0 38 (.nck (.t 37)),o1 39 1 38,o3 40 39,o1 41 0 3,o2 42 32 41,om 43 6,oN (.mup true eV (.t 40) (.t 42) (.t 43))]))) .skip)) (.seq (kq [o1 44 32 3,o3 45 44,o5 46 .lss 45 0,om 47 46,kF 48 47 false 32 3,kL 49 47 false 48,oh 50 47 false 6,og 51 47 false (.len 0 (.t 50)),kG 52 47 false .geq (.t 49) (.t 51),kR 53 47 52] (kd 53 (kq [o0 54 (.bld ee []),o8 172 4 54,kM 5 xF] .ret) .skip)) (kq [om 55 6,o1 56 32 3,o3 57 56,oi 58 172 55 57,o2 59 172 58,o8 172 4 59,kM 5 xT] .ret))))),[.cell 4 (some 172),.tmp 5]⟩
theorem Xi:aN Tryz.prog [100003,300054] 167=some BC.erase:=by kernel_rfl
def BD:CF:=⟨44, (kq [ox 3 1,o7 4 0] (.seq (kq [o1 11 32 3,o1 12 4 11,o3 13 12,o9 14 0 13,o7 15 0] (.block 0 (.loop (.trim [15,0,3,13,14] (kq [o4 16 .lss 15 14] (.seq (kd 16 .skip (.exit 0)) (.seq (.block 1 (kq [oi 17 139 13 15,o2 18 139 17,kB 6 oH,o8 139 6 18] (kq [o1 19 0 3,o2 20 32 19,o2 21 139 6,o6 22 166 [.t 20,.t 21],o9 23 0 22,o7 24 0] (.block 2 (.loop (.trim [24,0,22,15,3,13,14,23] (kq [o4 25 .lss 24 23] (.seq (kd 25 .skip (.exit 2)) (.seq (.block 3 (kq [oi 26 34 22 24,o2 27 34 26,kB 8 nD,o8 34 8 27] (kq [om 29 0,o1 30 0 8,o2 31 33 30,o6 32 167 [.t 29,.t 31],om 28 32,oe 33 28 0,oe 34 28 1,kB 9 dZ,o8 172 9 33,om 10 34] (.seq (kq [om 35 10,o0 36 (.not (.t 35))] (kd 36 (kz 4 7) .skip)) (kq [o1 37 33 8,o3 38 37,o2 39 172 9,o0 40 (.call (.val (.t 38)) [.t 39]),o0 41 (.not (.t 40))] (kd 41 (kz 4 8) .skip)))))) (fo [o5 42 .add 24 1,om 24 42])))))))))) (fo [o5 43 .add 15 1,om 15 43])))))))) (kz 4 0))),[.tmp 4]⟩
theorem Xj:aN Tryz.prog [100003] 110=some BD.erase:=by kernel_rfl
def BS:CF:=⟨11, (kq [ox 3 1,o7 4 0,kM 5 xF] (kq [om 6 0,o2 7 32 3,o0 8 (.call (.fn 161) [.t 6,.t 7,(.c (.clo 162 [] []))]),oe 9 8 0,oe 10 8 1,om 4 9,om 5 10] .ret)),[.tmp 4,.tmp 5]⟩
theorem Xy:aN Tryz.prog [100003] 106=some BS.erase:=by kernel_rfl
def BT:CF:=⟨9, (kq [ox 2 0,ox 3 1,o7 4 0] (kq [o1 5 0 2,o2 6 32 5,o2 7 32 3,o6 8 163 [.t 6,.t 7],om 4 8] .ret)),[.tmp 4]⟩
theorem Xz:aN Tryz.prog [100002,100003] 162=some BT.erase:=by kernel_rfl
def Al:CF:=⟨49, (kq [ox 4 1,o7 6 0,kM 7 xF] (kq [om 12 0,o9 13 0 12,om 8 13] (kq [om 14 8,o7 9 0,om 10 14] (.seq (.block 0 (.loop (.trim [4,0,2,10,9,8] (.seq (kq [om 15 9,om 16 10,o4 17 .lss 15 16] (kd 17 .skip (.exit 0))) (.block 1 (kq [om 18 9,om 19 10,o4 20 .add 18 19,o0 21 (.cnv .u64 (.t 20)),o0 22 (.bin .shr (.t 21) (.c (.d (.sc (.int .u64 1))))),o0 23 (.cnv .i64 (.t 22)),om 11 23] (.seq (.ops true [0,0,0,6,14,0,63,127] [om 24 2,om 25 0,om 26 11,oi 27 37 25 26,o2 28 37 27,o2 29 32 4,o0 30 (.call (.val (.t 24)) [.t 28,.t 29]),o5 31 .lss 30 0]) (kd 31 (fo [om 32 11,o5 33 .add 32 1,om 9 33]) (fo [om 34 11,om 10 34]))))))))) (.seq (.ops true [0,0,0,6,14,30,30,30,222,478,30,2046,4094,8190,4095,32767] [om 35 9,om 36 9,om 37 8,o4 38 .lss 36 37,om 39 38,oh 40 39 true 2,oh 41 39 true 0,oh 42 39 true 9,og 43 39 true (.iad 37 (.t 41) (.t 42)),og 44 39 true (.ld (some 37) (.t 43)),og 45 39 true (.ld (some 32) (.t 4)),og 46 39 true (.call (.val (.t 40)) [.t 44,.t 45]),kG 47 39 true .eql (.t 46) (xi 0),kP 48 39 47,om 6 35,om 7 48]) .ret))))),[.tmp 6,.tmp 7]⟩
theorem W6:aN Tryz.prog [100004] 161=some Al.erase:=by kernel_rfl
def BK:CF:=⟨9, (kq [ox 2 0,ox 3 1,kM 4 xF] (kq [o2 5 5 3,o6 6 151 [.t 5],o0 7 (.mkf 165 [] [.t 2]),o6 8 164 [.t 6,.t 7],om 4 8] .ret)),[.tmp 4]⟩
theorem Xq:aN Tryz.prog [100002,100003] 108=some BK.erase:=by kernel_rfl
def BL:CF:=⟨14, (kq [ox 2 0,kM 3 xF] (kq [o3 7 1,o2 8 32 2,o6 9 106 [.t 7,.t 8],om 6 9,oe 10 6 0,oe 11 6 1,om 4 10,om 5 11] (kq [om 12 5,o0 13 (.not (.t 12)),om 3 13] .ret))),[.tmp 3]⟩
theorem Xr:aN Tryz.prog [100002] 165=some BL.erase:=by kernel_rfl
end Go.Proofs.Q
namespace Go.Proofs.Q
open Go Go.Bb Go.RowKit Go.Proofs.Lg
open Go.Ab (D RD)
set_option maxHeartbeats 2000000 in
theorem a0k(s:aD)(w:gE s)(Q: ∀x∈s,ub x.pat.changes):aG Tryz.prog 29 [.sl 37 (s.map b5)] (dI (oZ ar s)):=by
 have O:=w.len;by_cases R:s.length≤400
 ·have D:decide ((s.length:Int)>400)=false:=by simp;omega
  obtain⟨A,o⟩: ∃A,A=qR ar none s:=⟨_,rfl⟩
  obtain⟨B,i⟩: ∃B,B=qW (bs s) s:=⟨_,rfl⟩
  obtain⟨C,l⟩: ∃C,C=vI ar s s:=⟨_,rfl⟩
  have m:oZ ar s=bQ A (bQ B (if(dN s).length<s.length then 20 else C)):=by
   unfold oZ;rw[if_neg a8,o,i,l]
  obtain⟨X,u⟩: ∃X,X=oZ ar s:=⟨_,rfl⟩
  rw[←u]at m⊢;clear u;have cI:=NB s a8;have L:=NC s w;refine aM (F:=tu) MB (by simp[tu]) ?_;simp only[tu];refine aO @D ab ?_
  refine aZ.overI s (fun k (b:Option Dg×List aa)=>[(3,iN k)]) (fun _ b=>b.2) (fun r b=>qR ar b.1 r) A (fun k b=>b.1=if k=0 then none else(s[k-1]?).map (·.id)) (none,[]) a8 aB aB rfl o rfl (fun k b x hg hk c d a E=> ?_) (fun b c a E=> ?_)
  ·obtain⟨q,J⟩:=b;have f:=Ns x.pat (w.pat x (bX hg));dsimp only at a E;rw[qR]at a;by_cases g:(bq ar x.pat).2=0
   ·rw[if_neg (by simpa using g)]at a;rw[g]at f;by_cases n:(bq ar x.pat).1=x.id
    ·rw[if_neg (by simpa using n)]at a;rw[n]at f;cases k with
     |zero=>
      obtain rfl:q=none:=E;have G:decide ((0:Int)<(s.length:Int))=true:=decide_eq_true a8;have I:IntKind.i64.wrap ((0:Int)+1)=1:=by rfl
      have H:s[0]?=some x:=hg;clear g n o i l c d
      repeat' first|refine ae (fun _=> ?_) fun _=> ?_|refine aL ?_|refine aq.data (f) rfl ?_|refine aq.data (ot _ _) rfl ?_|simp only[G,I,H,eo,ba,aQ,lP,lO,lQ,gt_iff_lt,bne_self_eq_false,decide_false,wj,wy,qg,aH,reduceCtorEq,reduceIte,Nat.reduceAdd,Nat.reduceMul,Nat.reduceEqDiff,Nat.reduceLT,Nat.reduceLeDiff,Nat.reduceSub,aA,aF,aE,aw]
      rw[if_neg (by simp)]at a;exact⟨(some x.id,_),rfl,a,rfl⟩
     |succ j=>
      obtain⟨y,K⟩: ∃y,s[j]?=some y:=⟨_,bN a8⟩
      obtain rfl:q=some y.id:=by rw[E,if_neg a8];simp[K]
      have z:IntKind.i64.wrap (((j+1:Nat):Int)-1)=(j:Int):=bE a8 a8;have v:decide (((j+1:Nat):Int)>0)=true:=decide_eq_true a8;clear g n o i l
      repeat' first|refine ae (fun _=> ?_) fun _=> ?_|refine ay (ga @c (ga @d (ga @hg (ga @K (ga @z (ga @v (ga @eo (ga @ba @wj)))))))) (ga @f @ot) ?_|exact ax (ga @c (ga @d (ga @hg (ga @K (ga @z (ga @v (ga @eo (ga @ba @wj)))))))) (ga @f @ot)|fail
      ·rename_i h;rw[if_pos (by simpa using h)]at a;rw[m,a];simp[bQ]
      ·rename_i h;rw[if_neg (by simpa using h)]at a;exact⟨(some x.id,_),rfl,a,by simp[hg]⟩
    ·rw[if_pos (by simpa using n)]at a;clear g o i l
     repeat' first|refine ae (fun _=> ?_) fun _=> ?_|refine ay (ga @c (ga @d (ga @hg (ga @eo (ga @ba @wj))))) @f ?_|exact ax (ga @c (ga @d (ga @hg (ga @eo (ga @ba @wj))))) @f|fail
     all_goals first
      |(rw[m,a];simp[bQ];done)
      |(rename_i h _;exact absurd h n)
      |(rename_i h;exact absurd h n)
   ·rw[if_pos (by simpa using g)]at a;have t:((bq ar x.pat).2 !=0)=true:=by simpa using g
    clear o i l;refine aO (ga @c (ga @d (ga @hg (ga @t (ga @eo (ga @ba @wj)))))) @f ?_;rw[m,a,bQ,if_pos g]
  ·rw[qR]at a;subst a;have p:X=bQ B (if(dN s).length<s.length then 20 else C):=by rw[m];simp[bQ]
   clear m o;refine aO @c @cI ?_;refine aZ.over s (fun k (_:Unit)=>[(7,iN k)]) (fun _ _=>b.2) (fun r _=>qW (bs s) r) B () a8 aB aB rfl i (fun k _ x hg hk c d a=> ?_) (fun _ c a=> ?_)
   ·have M:=Nt x.pat (w.pat x (bX hg));rw[qW]at a;clear i l
    repeat' first|refine ae (fun _=> ?_) fun _=> ?_|refine ay (ga @c (ga @d @hg)) (ga @M @vA) ?_|exact ax (ga @c (ga @d @hg)) (ga @M @vA)|fail
    ·rename_i h;rw[if_pos h]at a;exact⟨(),a⟩
    ·rename_i h;rw[if_neg (by simp[h])]at a;rw[p,a];simp[bQ]
   ·rw[qW]at a;subst a;have e:X=if(dN s).length<s.length then 20 else C:=by rw[p];simp[bQ]
    clear p i;by_cases P:(dN s).length<s.length
    ·have t:decide (((dN s).length:Int)<(s.length:Int))=true:=by simp;omega
     rw[if_pos P]at e;refine aO (ga @c @t) @L ?_;rw[e]
    ·have t:decide (((dN s).length:Int)<(s.length:Int))=false:=by simp;omega
     rw[if_neg P]at e;subst e;refine aO (ga @c @t) @L ?_;refine aZ.over s (fun k (_:Unit)=>[(8,iN k)]) (fun _ _=>b.2) (fun r _=>vI ar s r) X () a8 aB aB rfl l (fun k _ x hg hk c d a=> ?_) (fun _ c a=> ?_)
     ·have N:=a0p s x.pat x.id w (Q x (bX hg));rw[vI,bQ]at a;clear l
      repeat' first|refine ae (fun _=> ?_) fun _=> ?_|refine ay (ga @c (ga @d @hg)) @N ?_|exact ax (ga @c (ga @d @hg)) @N|fail
      ·rename_i h;rw[a,if_pos (by simpa using h)]
      ·rename_i h;rw[if_neg (by simpa using h)]at a;exact⟨(),a⟩
     ·rw[vI]at a;refine aO @c ab ?_;rw[a]
 ·have D:decide ((s.length:Int)>400)=true:=by simp;omega
  have m:oZ ar s=4:=by unfold oZ;rw[if_pos a8]
  rw[m];refine aM (F:=tu) MB (by simp[tu]) ?_;simp only[tu]
  repeat' first|refine ae (fun _=> ?_) fun _=> ?_|refine ay @D ab ?_|exact ax @D ab|fail
def OL(c:aC):Bool:=decide (c.name.size≤100)&&(decide (c.data.size≤100)&&(decide (c.lines.length≤100)&&(decide (c.over.length≤40)&&c.lines.all fun s=>decide (s.size≤100))))
def vQ(p:aX):Bool:=decide (p.author.size≤100)&&(decide (p.message.size≤100)&&(decide (p.deps.length≤20)&&(decide (p.changes.length≤20)&&(p.changes.all OL&& !jC p))))
theorem rQ{p:aX}(h:vQ p=true):(cz p∧du p)∧ub p.changes:=by
 have hm:(1000:Nat)≤maxLen:=by unfold maxLen;omega
 simp only[vQ,er,decide_eq_true_eq,jX,rZ]at h;obtain⟨g,i,j,k,d,b⟩:=h;have hc: ∀c∈p.changes,yQ c:=fun c hc=>by
  have:=d c hc;simp only[OL,er,decide_eq_true_eq,jX]at this;obtain⟨l,m,n,o,f⟩:=this;exact⟨by omega,by omega,by omega,fun s e=>by have:=f s e;omega,by omega⟩
 have a:jn p:=⟨by omega,by omega,by omega,by omega,hc⟩
 exact⟨⟨ur a b,wu b⟩,HX a⟩
end Go.Proofs.Q
