/- Part of a proof. -/
import Derived.Test.YtfoljakejdgfcaaGreatDoorPBN
set_option linter.unusedVariables false
set_option linter.unusedSimpArgs false
namespace Go.Proofs.Q
open Go Go.Bb Go.RowKit Go.Proofs.Lg
open Go.Ab (D RD)
def k9(l:List ar):List AV:=(l.map cJ).flatten.map fun v=> .d (.sc v)
theorem xt(l:List ar):k9 l=((l.map ab).flatten).map .d:=by
 unfold k9
 induction l with
 |nil=>rfl
 |cons x l a=>
  simp only[bO,fA,eX];rw[a,Kn,lk];rfl
theorem Yt{s:List aa}{i:Nat}{l:List ar}(C:s[i]?=some (.vec 60 33 (k9 l)))(h0:l≠[])(z:l.length≤1000000):
  aT Tryz.prog 194 [.vec i l.length 33,.clo 97 [] []] s fun d D=>d= .tup []∧D=s.set i (.vec 60 33 (k9 (l.mergeSort fP))):=by
 refine⟨.tup [],_,⟨enters_fn' Tryz.func194 rfl (by rfl),fun B k w vs n a=> ?_⟩,rfl,rfl⟩
 match vs,a with
 |[v,f],a=>
  obtain⟨x,b,r⟩:=n.vecSc C (wG l) a8 (a.2 0 v _ rfl rfl);obtain⟨us,vs,rfl,p,q⟩:=(a.2 1 f _ rfl rfl).clo_inv;obtain rfl:us=[]:=fx p.1;obtain rfl:vs=[]:=fx q.1;rcases b.2 with⟨_,h⟩|⟨g,c,cur,hvv,_⟩
  ·exact absurd (fx h) h0
  ·subst hvv;refine(MY l g c B w z h0 b).mono ?_;rintro e w' ⟨rfl,m,o⟩;have y:(l.mergeSort fP).length=l.length:=kJ _;obtain⟨t,A⟩:=n.vecPut x r rfl (by rw[wG,y]) (LP _) m o;exact⟨_,k,rfl,.tup (us:=[]) rfl (fun j u c h=>by simp at h),t,A⟩
theorem PE(f:AV)(s:List aa):aT Tryz.prog 275 [.nil 33,.d (dI 0),.d (dI 0),f] s fun d c=>d= .tup []∧c=s:=by
 have b:IntKind.i64.wrap (0+1)=1:=by rfl
 have a:decide ((1:Int)<0)=false:=by decide
 refine aT.of (F:=yM) RF (by simp[yM]) ?_;simp only[yM];refine aw (ga @b @wj) trivial ?_;refine aX.tr (fun(_:Unit)=>[(8,.d (dI 1))]) (fun _=>s) (fun _ _=>True) 0 () aA aA rfl trivial ?_;intro m _ _;exact bx (ga @a @wj) trivial
 all_goals first|rfl|exact⟨rfl,rfl⟩
theorem UA(f:FuncId)(s:List aa):aT Tryz.prog 250 [.nil 33,.d (dI 0),.d (dI 0),.d (dI 0),.clo f [] []] s fun d e=>d= .tup []∧e=s:=by
 have a:=PE (.clo f [] []) s;have c:IntKind.i64.wrap (0-0)=0:=by rfl
 have b:decide ((0:Int)≤12)=true:=by decide
 refine aT.of (F:=zF) Sr (by simp[zF]) ?_;simp only[zF];refine aw @wj trivial ?_;refine aX.tr (fun(_:Unit)=>[]) (fun _=>s) (fun _ _=>True) 0 () aA aA rfl trivial ?_;intro m _ _;exact vr (ga @c (ga @b @wj)) @a
 all_goals first|rfl|exact⟨rfl,rfl⟩
theorem Ys(f:FuncId)(s:List aa):aT Tryz.prog 194 [.nil 33,.clo f [] []] s fun d c=>d= .tup []∧c=s:=by
 have a:=UA f s;refine aT.of (F:=yG) Rx (by simp[yG]) ?_;simp only[yG];have b:IntKind.u64.wrap 0=0:=by rfl
 repeat' first|refine ak (fun _=> ?_) fun _=> ?_|refine bb (ga @b @wj) (ga @tk @a) ?_|exact ba (ga @b @wj) (ga @tk @a)|fail
 all_goals first|rfl|exact⟨rfl,rfl⟩
end Go.Proofs.Q
namespace Go.Proofs.Q
open Go Go.Ab Go.Bb
def nj:CF:=⟨19, (.seq (fo [o7 4 0]) (.seq (.seq (fo [om 6 0,o9 7 0 6,o7 8 0]) (.block 0 (.loop (.trim [8,0,1,7] (.seq (fo [o4 9 .lss 8 7]) (.seq (.cond (.t 9) .skip (.exit 0)) (.seq (.block 1 (.seq (fo [om 10 8,om 5 10]) (.seq (fo [om 11 1,om 12 0,om 13 5,oi 14 37 12 13,o2 15 37 14,o0 16 (.call (.val (.t 11)) [.t 15])]) (.cond (.t 16) (.seq (fo [om 17 5,om 4 17]) .ret) .skip)))) (fo [o5 18 .add 8 1,om 8 18])))))))) (.seq (fo [o0 4 (.mov (xi (-1)))]) .ret))),[.tmp 4]⟩
theorem DV:aG Tryz.prog [] 72=some nj.erase:=by kernel_rfl
def yz:CF:=⟨9, (.seq (fo [o0 4 (.mov xF)]) (.seq (fo [om 5 0,om 6 1,o6 7 72 [.t 5,.t 6],o5 8 .geq 7 0,om 4 8]) .ret)),[.tmp 4]⟩
theorem Rs:aG Tryz.prog [] 74=some yz.erase:=by kernel_rfl
def yx:CF:=⟨9, (.seq (fo [ox 3 1,o0 4 (.mov xF)]) (.seq (fo [om 5 0,o2 6 32 3,o6 7 85 [.t 5,.t 6],o5 8 .geq 7 0,om 4 8]) .ret)),[.tmp 4]⟩
theorem Rq:aG Tryz.prog [100003] 46=some yx.erase:=by kernel_rfl
def yB:CF:=⟨19, (.seq (fo [ox 3 1,o7 4 0]) (.seq (.seq (fo [om 6 0,o9 7 0 6,o7 8 0]) (.block 0 (.loop (.trim [8,0,3,7] (.seq (fo [o4 9 .lss 8 7]) (.seq (.cond (.t 9) .skip (.exit 0)) (.seq (.block 1 (.seq (fo [om 10 8,om 5 10]) (.seq (.ops true [0,0,0,6,14,31] [o2 11 32 3,om 12 0,om 13 5,oi 14 32 12 13,o2 15 32 14,o0 16 (.eqa true dD false (.t 11) (.t 15))]) (.cond (.t 16) (.seq (fo [om 17 5,om 4 17]) .ret) .skip)))) (fo [o5 18 .add 8 1,om 8 18])))))))) (.seq (fo [o0 4 (.mov (xi (-1)))]) .ret))),[.tmp 4]⟩
theorem IL:aG Tryz.prog [100003] 85=some yB.erase:=by kernel_rfl
def rK:CF:=⟨18, (.seq (fo [ox 3 1,o0 4 (.box (.c (.agg iY))),o0 5 (.mov xF)]) (.seq (fo [om 7 0,o0 8 (.mkf 73 [] [.t 3]),o6 9 72 [.t 7,.t 8],om 6 9]) (.seq (.seq (fo [om 10 6,o5 11 .lss 10 0]) (.cond (.t 11) (.seq (fo [o0 12 (.bld l9 []),o8 5 4 12,o0 5 (.mov xF)]) .ret) .skip)) (.seq (fo [om 13 0,om 14 6,oi 15 37 13 14,o1 16 32 15,o2 17 5 16,o8 5 4 17,o0 5 (.mov xT)]) .ret)))),[.cell 4 (some 5),.tmp 5]⟩
theorem J1:aG Tryz.prog [100003,300012] 37=some rK.erase:=by kernel_rfl
def zG:CF:=⟨8, (.seq (fo [ox 2 0,o0 3 (.mov xF)]) (.seq (fo [o1 4 0 2,o2 5 32 4,o2 6 32 1,o0 7 (.eqa true dD false (.t 5) (.t 6)),om 3 7]) .ret)),[.tmp 3]⟩
theorem Ss:aG Tryz.prog [100002] 73=some zG.erase:=by kernel_rfl
def Bj:CF:=⟨8, (.seq (fo [ox 3 1,o0 4 (.mov xF)]) (.seq (fo [om 5 0,o0 6 (.mkf 75 [] [.t 3]),o6 7 74 [.t 5,.t 6],om 4 7]) .ret)),[.tmp 4]⟩
theorem TO:aG Tryz.prog [100003] 38=some Bj.erase:=by kernel_rfl
def Bk:CF:=⟨15, (.seq (fo [ox 2 0,o0 3 (.mov xF)]) (.seq (.ops true [0,1,0,7,15,31,63,127,31,511,1023,2047] [o1 4 0 2,o2 5 32 4,o2 6 32 1,o0 7 (.eqa true dD true (.t 5) (.t 6)),om 8 7,og 9 8 true (.fad 32 (.t 2)),og 10 8 true (.ld (some 5) (.t 9)),og 11 8 true (.call (.fn 76) [.t 10]),og 12 8 true (.ld (some 32) (.t 1)),og 13 8 true (.call (.fn 46) [.t 11,.t 12]),o0 14 (.pick (.t 8) (.t 13) xF),om 3 14]) .ret)),[.tmp 3]⟩
theorem TP:aG Tryz.prog [100002] 75=some Bk.erase:=by kernel_rfl
def s7:CF:=⟨9, (.seq (fo [o0 3 (.box (.t 1)),o0 4 (.mov (.c (.nil 37)))]) (.seq (fo [om 5 0,o6 6 78 [.t 5],o0 7 (.mkf 79 [] [.t 3]),o6 8 77 [.t 6,.t 7],om 4 8]) .ret)),[.tmp 4]⟩
theorem Jx:aG Tryz.prog [] 39=some s7.erase:=by kernel_rfl
def Bl:CF:=⟨8, (.seq (fo [ox 2 0,o0 3 (.mov xF)]) (.seq (fo [o3 4 1,o1 5 0 2,o2 6 32 5,o0 7 (.call (.val (.t 4)) [.t 6]),om 3 7]) .ret)),[.tmp 3]⟩
theorem TQ:aG Tryz.prog [100002] 79=some Bl.erase:=by kernel_rfl
def rq:CF:=⟨42, (.seq (fo [o0 4 (.mov (.c (.nil 37)))]) (.seq (fo [om 8 0,om 9 1,o6 10 72 [.t 8,.t 9],om 5 10]) (.seq (.seq (fo [om 11 5,o0 12 (.bin .eql (.t 11) (xi (-1)))]) (.cond (.t 12) (.seq (fo [om 13 0,om 4 13]) .ret) .skip)) (.seq (.seq (fo [om 14 5,o5 15 .add 14 1,om 6 15]) (.block 0 (.loop (.trim [6,5,0,1] (.seq (.seq (fo [om 16 6,om 17 0,o9 18 0 17,o4 19 .lss 16 18]) (.cond (.t 19) .skip (.exit 0))) (.seq (.block 1 (.seq (fo [om 22 0,om 23 6,oi 24 37 22 23,o2 25 37 24,o0 7 (.box (.c (.agg lV))),o8 37 7 25]) (.seq (fo [om 26 1,o2 27 37 7,o0 28 (.call (.val (.t 26)) [.t 27]),o0 29 (.not (.t 28))]) (.cond (.t 29) (.seq (fo [om 30 0,om 31 5,o2 32 37 7,oi 33 37 30 31,o8 37 33 32]) (fo [om 34 5,o5 35 .add 34 1,om 5 35])) .skip)))) (fo [om 20 6,o5 21 .add 20 1,om 6 21]))))))) (.seq (fo [om 36 0,om 37 5,o0 38 (.slc 37 (.t 36) (some (.t 37)) none),oN (.clr 37 lV (.t 38))]) (.seq (fo [om 39 0,om 40 5,o0 41 (.slc 37 (.t 39) none (some (.t 40))),om 4 41]) .ret)))))),[.tmp 4]⟩
theorem IK:aG Tryz.prog [] 77=some rq.erase:=by kernel_rfl
def yu:CF:=⟨8, (.seq (fo [o0 2 (.mov (.c (.nil 37)))]) (.seq (.seq (fo [om 3 0,o0 4 (.isn false (.t 3))]) (.cond (.t 4) (.seq (fo [o0 2 (.mov (.c (.nil 37)))]) .ret) .skip)) (.seq (fo [o0 5 (.bsl true 44 37 0 [] []),om 6 0,o0 7 (.app true 44 37 120 (.t 5) (.t 6)),om 2 7]) .ret))),[.tmp 2]⟩
theorem Ro:aG Tryz.prog [5,7] 78=some yu.erase:=by kernel_rfl
def nv:CF:=⟨22, (.seq (fo [ox 3 1,o0 4 (.mov (.c (.nil 37))),o7 5 0]) (.seq (.seq (fo [om 9 0,o2 10 32 3,o6 11 37 [.t 9,.t 10],om 8 11,oe 12 8 0,oe 13 8 1,o0 6 (.box (.c (.agg iY))),o8 5 6 12,om 7 13]) (.seq (fo [om 14 7,o0 15 (.not (.t 14))]) (.cond (.t 15) (.seq (fo [o0 4 (.mov (.c (.nil 37))),o7 5 7]) .ret) .skip))) (.seq (.seq (fo [om 16 0,o2 17 32 3,o6 18 38 [.t 16,.t 17]]) (.cond (.t 18) (.seq (fo [o0 4 (.mov (.c (.nil 37))),o7 5 19]) .ret) .skip)) (.seq (fo [om 19 0,o0 20 (.mkf 40 [] [.t 3]),o6 21 39 [.t 19,.t 20],om 4 21,o7 5 0]) .ret)))),[.tmp 4,.tmp 5]⟩
theorem E4:aG Tryz.prog [100003] 12=some nv.erase:=by kernel_rfl
def Bg:CF:=⟨7, (.seq (fo [ox 2 0,o0 3 (.mov xF)]) (.seq (fo [o2 4 32 2,o2 5 32 1,o0 6 (.eqa true dD false (.t 4) (.t 5)),om 3 6]) .ret)),[.tmp 3]⟩
theorem TL:aG Tryz.prog [100002] 40=some Bg.erase:=by kernel_rfl
def s5:CF:=⟨22, (.seq (fo [o0 4 (.mov (.c (.nil 37))),o0 5 (.mov (.c (.nil 32))),o7 6 0]) (.seq (fo [om 10 0,om 11 1,o6 12 44 [.t 10,.t 11],om 9 12,oe 13 9 0,oe 14 9 1,o0 7 (.box (.c (.nil 32))),o8 1 7 13,om 8 14]) (.seq (.seq (fo [om 15 8,o5 16 .neq 15 0]) (.cond (.t 16) (.seq (fo [om 17 8,o0 4 (.mov (.c (.nil 37))),o0 5 (.mov (.c (.nil 32))),om 6 17]) .ret) .skip)) (.seq (.ops true [0,0,3,0,7,31,63] [om 18 0,o0 19 (.mkf 45 [] [.t 7]),o6 20 39 [.t 18,.t 19],o3 21 7,om 4 20,om 5 21,o7 6 0]) .ret)))),[.tmp 4,.tmp 5,.tmp 6]⟩
theorem Jv:aG Tryz.prog [] 14=some s5.erase:=by kernel_rfl
def Bf:CF:=⟨7, (.seq (fo [ox 2 0,o0 3 (.mov xF)]) (.seq (fo [o3 4 1,o2 5 32 2,o6 6 46 [.t 4,.t 5],om 3 6]) .ret)),[.tmp 3]⟩
theorem TK:aG Tryz.prog [100002] 45=some Bf.erase:=by kernel_rfl
def zK:CF:=⟨21, (.seq (fo [o0 2 (.mov (.c (.d (.sc (.map none)))))]) (.seq (fo [o0 6 (.mkm true),om 3 6]) (.seq (.seq (fo [om 7 0,o9 8 0 7,o7 9 0]) (.block 0 (.loop (.trim [9,3,7,8] (.seq (fo [o4 10 .lss 9 8]) (.seq (.cond (.t 10) .skip (.exit 0)) (.seq (.block 1 (.seq (fo [oi 11 37 7 9,o2 12 37 11,o0 5 (.box (.c (.agg lV))),o8 37 5 12]) (.ops true [0,0,2,0,8,24,63] [om 13 3,o1 14 0 5,o2 15 32 14,o1 16 32 5,o2 17 5 16,o6 18 76 [.t 17],oN (.mup true dD (.t 13) (.t 15) (.t 18))]))) (fo [o5 19 .add 9 1,om 9 19])))))))) (.seq (fo [om 20 3,om 2 20]) .ret)))),[.tmp 2]⟩
theorem Sy:aG Tryz.prog [] 82=some zK.erase:=by kernel_rfl
def zL:CF:=⟨33, (.seq (fo [o0 2 (.box (.t 0)),o0 4 (.mov (.c (.nil 32))),o0 5 (.mov xF)]) (.seq (fo [o0 10 (.mkm true),o0 6 (.box (.c (.d (.sc (.map none))))),o8 1 6 10]) (.seq (fo [o0 7 (.box (.c (.nil 32)))]) (.seq (fo [o0 11 (.mkf 119 [] [.t 2,.t 6,.t 7]),om 8 11]) (.seq (.seq (fo [om 12 8,om 13 1,o0 14 (.call (.val (.t 12)) [.t 13]),o0 15 (.not (.t 14))]) (.cond (.t 15) (.seq (fo [o0 4 (.mov (.c (.nil 32))),o0 5 (.mov xF)]) .ret) .skip)) (.seq (.seq (fo [o7 9 0]) (.block 0 (.loop (.trim [9,7,2,8] (.seq (.seq (fo [om 16 9,o3 17 7,o9 18 0 17,o4 19 .lss 16 18]) (.cond (.t 19) .skip (.exit 0))) (.seq (.block 1 (.ops true [0,0,0,0,12,28,62,127] [om 22 8,o3 23 2,o3 24 7,om 25 9,oi 26 32 24 25,o2 27 32 26,o0 28 (.lkp true dD (.nil 32) false (.t 23) (.t 27)),o0 29 (.call (.val (.t 22)) [.t 28])])) (fo [om 20 9,o5 21 .add 20 1,om 9 21]))))))) (.seq (fo [o3 30 7,o0 31 (.call (.fn 116) [.t 30,(.c (.clo 117 [] []))])]) (.seq (fo [o3 32 7,om 4 32,o0 5 (.mov xT)]) .ret)))))))),[.tmp 4,.tmp 5]⟩
theorem Sz:aG Tryz.prog [] 84=some zL.erase:=by kernel_rfl
def zM:CF:=⟨35, (.seq (fo [o0 5 (.mov xF)]) (.seq (.seq (fo [om 10 0,o9 11 0 10,o7 12 0]) (.block 0 (.loop (.trim [2,3,12,1,10,11] (.seq (fo [o4 13 .lss 12 11]) (.seq (.cond (.t 13) .skip (.exit 0)) (.seq (.block 1 (.seq (fo [oi 14 32 10 12,o2 15 32 14,o0 7 (.box (.c (.agg cN))),o8 32 7 15]) (.seq (.seq (fo [o3 17 1,o2 18 32 7,o0 19 (.lkp true dD (.nil 32) true (.t 17) (.t 18)),om 16 19,oe 20 16 0,oe 21 16 1,om 8 20,om 9 21]) (.seq (fo [om 22 9,o0 23 (.not (.t 22))]) (.cond (.t 23) (.seq (fo [o0 5 (.mov xF)]) .ret) .skip))) (.seq (fo [o3 24 2,o2 25 32 7,o0 26 (.lkp true dD (.d (.sc (.bool false))) false (.t 24) (.t 25)),o0 27 (.not (.t 26))]) (.cond (.t 27) (.seq (fo [o3 28 2,o2 29 32 7,oN (.mup true dD (.t 28) (.t 29) xT)]) (fo [o3 30 3,o2 31 32 7,o0 32 (.bsf 32 1 cN [(0,32,(.t 31))]),o0 33 (.app true 25 32 32 (.t 30) (.t 32)),o8 1 3 33])) .skip))))) (fo [o5 34 .add 12 1,om 12 34])))))))) (.seq (fo [o0 5 (.mov xT)]) .ret))),[.tmp 5]⟩
theorem SA:aG Tryz.prog [100032,33] 119=some zM.erase:=by kernel_rfl
def yq:CF:=⟨4, (.seq (fo [ox 1 0,o0 2 (.mov (.c (.d (.sc .nilFunc))))]) (.seq (fo [o0 3 (.mkf 189 [] [.t 1]),om 2 3]) .ret)),[.tmp 2]⟩
theorem Rl:aG Tryz.prog [100001] 136=some yq.erase:=by kernel_rfl
def yr:CF:=⟨19, (.seq (fo [o3 4 1,o9 5 0 4,o5 6 .sub 5 1,om 3 6]) (.block 0 (.loop (.trim [3,1,0] (.seq (.seq (fo [om 7 3,o5 8 .geq 7 0]) (.cond (.t 8) .skip (.exit 0))) (.seq (.block 1 (.seq (fo [om 11 0,om 12 3,o3 13 1,om 14 3,oi 15 32 13 14,o2 16 32 15,o0 17 (.call (.val (.t 11)) [.t 12,.t 16]),o0 18 (.not (.t 17))]) (.cond (.t 18) .ret .skip))) (fo [om 9 3,o5 10 .sub 9 1,om 3 10]))))))),[]⟩
theorem Rm:aG Tryz.prog [] 189=some yr.erase:=by kernel_rfl
def yo:CF:=⟨4, (.seq (fo [ox 1 0,o0 2 (.mov (.c (.d (.sc .nilFunc))))]) (.seq (fo [o0 3 (.mkf 192 [] [.t 1]),om 2 3]) .ret)),[.tmp 2]⟩
theorem Rj:aG Tryz.prog [100001] 138=some yo.erase:=by kernel_rfl
def yp:CF:=⟨19, (.seq (fo [o3 4 1,o9 5 0 4,o5 6 .sub 5 1,om 3 6]) (.block 0 (.loop (.trim [3,1,0] (.seq (.seq (fo [om 7 3,o5 8 .geq 7 0]) (.cond (.t 8) .skip (.exit 0))) (.seq (.block 1 (.seq (fo [om 11 0,om 12 3,o3 13 1,om 14 3,oi 15 172 13 14,o2 16 172 15,o0 17 (.call (.val (.t 11)) [.t 12,.t 16]),o0 18 (.not (.t 17))]) (.cond (.t 18) .ret .skip))) (fo [om 9 3,o5 10 .sub 9 1,om 3 10]))))))),[]⟩
theorem Rk:aG Tryz.prog [] 192=some yp.erase:=by kernel_rfl
def yT:CF:=⟨4, (.seq (fo [ox 1 0,o0 2 (.mov (.c (.d (.sc .nilFunc))))]) (.seq (fo [o0 3 (.mkf 135 [] [.t 1]),om 2 3]) .ret)),[.tmp 2]⟩
theorem RN:aG Tryz.prog [100001] 93=some yT.erase:=by kernel_rfl
def yU:CF:=⟨35, (.seq (fo [o0 2 (.box (.t 0))]) (.seq (fo [o3 11 1,o6 12 137 [.t 11],o6 13 136 [.t 12]]) (.block 0 (.trim [13,1,2] (.rng 35 (.t 13) [14,15] (fo [o0 4 (.box (.c (.agg cN))),o8 32 4 15]) (.block 1 (.seq (fo [o3 17 1,o2 18 32 4,o6 19 37 [.t 17,.t 18],om 16 19,oe 20 16 0,oe 21 16 1,o0 5 (.box (.c (.agg iY))),o8 5 5 20,om 6 21]) (.seq (fo [o2 23 5 5,o6 24 94 [.t 23],om 22 24,oe 25 22 0,oe 26 22 1,om 7 25,om 8 26]) (.seq (fo [om 27 7,o6 28 138 [.t 27]]) (.block 2 (.trim [28,2] (.rng 35 (.t 28) [29,30] (fo [o0 10 (.box (.c (.agg gG))),o8 172 10 30]) (.block 3 (.seq (fo [o3 31 2,o2 32 172 10,o0 33 (.call (.val (.t 31)) [.t 32]),o0 34 (.not (.t 33))]) (.cond (.t 34) .ret .skip))))))))))))))),[]⟩
theorem RO:aG Tryz.prog [] 135=some yU.erase:=by kernel_rfl
def yS:CF:=⟨40, (.seq (fo [o0 2 (.mov (.c (.d (.sc (.map none)))))]) (.seq (fo [o0 8 (.mkm true),o0 3 (.box (.c (.d (.sc (.map none))))),o8 1 3 8]) (.seq (fo [o0 9 (.mkm true),o0 4 (.box (.c (.d (.sc (.map none))))),o8 1 4 9]) (.seq (.seq (fo [om 10 0,o6 11 93 [.t 10]]) (.block 0 (.trim [11,2,4,3] (.rng 40 (.t 11) [12] (fo [o0 5 (.box (.c (.agg gG))),o8 172 5 12]) (.block 1 (.seq (.seq (fo [o3 13 3,o1 14 0 5,o2 15 33 14,o0 16 (.lkp true dv (.d (.sc (.bool false))) false (.t 13) (.t 15))]) (.cond (.t 16) (.exit 1) .skip)) (.seq (fo [o1 17 171 5,o3 18 17,o9 19 0 18,o7 20 0]) (.block 2 (.loop (.trim [20,3,5,4,18,19] (.seq (fo [o4 21 .lss 20 19]) (.seq (.cond (.t 21) .skip (.exit 2)) (.seq (.block 3 (.seq (fo [oi 22 33 18 20,o2 23 33 22,o0 7 (.box (.c (.agg dW))),o8 33 7 23]) (.seq (fo [o3 24 4,o2 25 33 7,o1 27 0 5,o2 28 33 27,o0 29 (.bsf 33 1 dW [(0,33,(.t 28))]),o0 30 (.men true dv (.nil 33) (.t 24) (.t 25)),oe 26 30 0,o0 31 (.app false 60 33 40 (.t 26) (.t 29)),oe 32 30 1,oN (.mst (.t 24) (.t 32) (.t 31))]) (.seq (fo [o1 33 33 5,o3 34 33,o5 35 .eql 34 7]) (.cond (.t 35) (fo [o3 36 3,o2 37 33 7,oN (.mup true dv (.t 36) (.t 37) xT)]) .skip))))) (fo [o5 38 .add 20 1,om 20 38])))))))))))))) (.seq (fo [o3 39 4,om 2 39]) .ret))))),[.tmp 2]⟩
theorem RM:aG Tryz.prog [100029] 60=some yS.erase:=by kernel_rfl
def nn:CF:=⟨36, (.seq (fo [ox 3 1,o0 4 (.box (.c (.agg gG))),o0 5 (.mov xF)]) (.seq (fo [om 12 0,o1 13 0 3,o2 14 32 13,o6 15 37 [.t 12,.t 14],om 11 15,oe 16 11 0,oe 17 11 1,o0 6 (.box (.c (.agg iY))),o8 5 6 16,om 7 17]) (.seq (.seq (fo [om 18 7,o0 19 (.not (.t 18))]) (.cond (.t 19) (.seq (fo [o0 20 (.bld eu []),o8 172 4 20,o0 5 (.mov xF)]) .ret) .skip)) (.seq (fo [o2 22 5 6,o6 23 94 [.t 22],om 21 23,oe 24 21 0,oe 25 21 1,om 8 24,om 9 25]) (.seq (fo [om 26 8,o0 27 (.mkf 112 [] [.t 3]),o6 28 111 [.t 26,.t 27],om 10 28]) (.seq (.seq (fo [om 29 10,o5 30 .lss 29 0]) (.cond (.t 30) (.seq (fo [o0 31 (.bld eu []),o8 172 4 31,o0 5 (.mov xF)]) .ret) .skip)) (.seq (fo [om 32 8,om 33 10,oi 34 172 32 33,o2 35 172 34,o8 172 4 35,o0 5 (.mov xT)]) .ret))))))),[.cell 4 (some 172),.tmp 5]⟩
theorem DX:aG Tryz.prog [100003,300020,300031] 70=some nn.erase:=by kernel_rfl
def yR:CF:=⟨8, (.seq (fo [ox 2 0,o0 3 (.mov xF)]) (.seq (fo [o1 4 0 2,o2 5 33 4,o2 6 33 1,o0 7 (.eqa true dv false (.t 5) (.t 6)),om 3 7]) .ret)),[.tmp 3]⟩
theorem RL:aG Tryz.prog [100002] 112=some yR.erase:=by kernel_rfl
def yC:CF:=⟨19, (.seq (fo [o7 4 0]) (.seq (.seq (fo [om 6 0,o9 7 0 6,o7 8 0]) (.block 0 (.loop (.trim [8,0,1,7] (.seq (fo [o4 9 .lss 8 7]) (.seq (.cond (.t 9) .skip (.exit 0)) (.seq (.block 1 (.seq (fo [om 10 8,om 5 10]) (.seq (fo [om 11 1,om 12 0,om 13 5,oi 14 172 12 13,o2 15 172 14,o0 16 (.call (.val (.t 11)) [.t 15])]) (.cond (.t 16) (.seq (fo [om 17 5,om 4 17]) .ret) .skip)))) (fo [o5 18 .add 8 1,om 8 18])))))))) (.seq (fo [o0 4 (.mov (xi (-1)))]) .ret))),[.tmp 4]⟩
theorem Ru:aG Tryz.prog [] 111=some yC.erase:=by kernel_rfl
def rD:CF:=⟨22, (.seq (fo [ox 3 1,o0 4 (.mov xF)]) (.seq (fo [om 8 0,o2 9 33 3,o6 10 70 [.t 8,.t 9],om 7 10,oe 11 7 0,oe 12 7 1,o0 5 (.box (.c (.agg gG))),o8 172 5 11,om 6 12]) (.seq (.ops true [0,1,3,7,3,31,63,127,255,511] [om 13 6,om 14 13,oh 15 14 true 0,og 16 14 true (.call (.fn 60) [.t 15]),og 17 14 true (.ld (some 33) (.t 3)),og 18 14 true (.lkp true dv (.nil 33) false (.t 16) (.t 17)),og 19 14 true (.len 0 (.t 18)),og 20 14 true (.bin .eql (.t 19) (xi 0)),o0 21 (.pick (.t 14) (.t 20) xF),om 4 21]) .ret))),[.tmp 4]⟩
theorem IU:aG Tryz.prog [100003] 34=some rD.erase:=by kernel_rfl
end Go.Proofs.Q
namespace Go.Proofs.Q
open Go Go.Bb Go.RowKit Go.Proofs.Lg
open Go.Ab (D RD)
def Kw(r:aP×List Dg×Int):D:= .tup [.sl 37 (r.1.map b8),.sl 32 (r.2.1.map aq),dI r.2.2]
def sn(s:aP):List Dg→Bool
 |[]=>false
 |d::l=>if(bM s d).isSome=true then sn s l else true
theorem JQ(s:aP): ∀l:List Dg,(l.any fun d=>decide (bM s d=none))=sn s l
 |[]=>rfl
 |d::l=>by
  rw[List.any_cons,JQ s l,sn];cases h:bM s d<;>simp
set_option maxHeartbeats 1000000 in
theorem Vo(s:aP)(ids:List Dg)(m:iC s)(i:s.length≤1000)(g:ids.length≤1000000):aE Tryz.prog 15 [.sl 37 (s.map b8),.sl 32 (ids.map aq)] (Kw (ji s ids)):=by
 have d:=Vl s ids m i g;have l:=Kf s (ej s ids).1 m.len;unfold ji;rw[JQ];obtain⟨B,f⟩: ∃B,B=sn s ids:=⟨_,rfl⟩
 rw[←f];refine aI (F:=B1) Ty (by simp[B1]) ?_;simp only[B1];refine aw trivial trivial ?_;refine aX.over ids (fun k (b:List aa)=>[(7,iN k)]) (fun _ b=>b) (fun r _=>sn s r) B [] a8 aA aA rfl f (fun k b x hg p c n a=> ?_) (fun b c a=> ?_)
 ·have j:=vQ s x;rw[sn]at a;clear f d l
  repeat' first|refine ak (fun _=> ?_) fun _=> ?_|refine bb (ga @c (ga @n (ga @hg (ga @ew (ga @c9 @wj))))) @j ?_|exact ba (ga @c (ga @n (ga @hg (ga @ew (ga @c9 @wj))))) @j|fail
  ·rename_i h;rw[if_pos h]at a;exact a
  ·rename_i h;rw[if_neg (by simp[h])]at a;rw[a,if_pos rfl];rfl
 ·rw[sn]at a;subst a;by_cases e:(ej s ids).2=0
  ·rw[e]at d;refine aw @c (ga @d @l) ?_;rw[if_neg (by simpa using e)];rfl
  ·have o:((ej s ids).2 !=0)=true:=by simpa using e
   refine aw (ga @c @o) @d ?_;rw[if_pos e];rfl
end Go.Proofs.Q
namespace Go.Proofs.Q
open Go Go.Ab Go.Bb
def Bh:CF:=⟨6, (.seq (fo [ox 2 0,ox 3 1,o0 4 (.mov (.c (.d (.sc .nilFunc))))]) (.seq (fo [o0 5 (.mkf 90 [] [.t 3,.t 2]),om 4 5]) .ret)),[.tmp 4]⟩
theorem TM:aG Tryz.prog [100002,100003] 58=some Bh.erase:=by kernel_rfl
def Bi:CF:=⟨17, (.seq (fo [o2 5 5 1,o6 6 91 [.t 5],o7 7 0]) (.block 0 (.loop (.trim [7,2,0,6] (.seq (fo [o4 8 .lss 7 6]) (.seq (.cond (.t 8) .skip (.exit 0)) (.seq (.block 1 (.seq (fo [om 9 7,om 4 9]) (.seq (fo [om 10 0,o2 11 32 2,om 12 4,o0 13 (.bld dW [(0,32,(.t 11)),(32,1,(.t 12))]),o0 14 (.call (.val (.t 10)) [.t 13]),o0 15 (.not (.t 14))]) (.cond (.t 15) .ret .skip)))) (fo [o5 16 .add 7 1,om 7 16])))))))),[]⟩
theorem TN:aG Tryz.prog [300013] 90=some Bi.erase:=by kernel_rfl
def yw:CF:=⟨5, (.seq (fo [o0 2 (.mov (.c (.nil 33)))]) (.seq (fo [om 3 0,o6 4 89 [(.c (.nil 33)),.t 3],om 2 4]) .ret)),[.tmp 2]⟩
theorem Rp:aG Tryz.prog [] 57=some yw.erase:=by kernel_rfl
def yn:CF:=⟨13, (.seq (fo [o0 2 (.box (.t 0)),o0 4 (.mov (.c (.nil 33)))]) (.seq (.seq (fo [om 6 1]) (.block 0 (.trim [6,4,2] (.rng 13 (.t 6) [7] (fo [o0 5 (.box (.c (.agg dW))),o8 33 5 7]) (.block 1 (fo [o3 8 2,o2 9 33 5,o0 10 (.bsf 33 1 dW [(0,33,(.t 9))]),o0 11 (.app false 60 33 40 (.t 8) (.t 10)),o8 1 2 11])))))) (.seq (fo [o3 12 2,om 4 12]) .ret))),[.tmp 4]⟩
theorem Ri:aG Tryz.prog [100010] 89=some yn.erase:=by kernel_rfl
def s6:CF:=⟨47, (.seq (fo [ox 4 1,ox 5 2,o0 6 (.box (.c (.agg iY))),o7 7 0]) (.seq (fo [om 14 0,o2 15 32 4,o6 16 37 [.t 14,.t 15],om 13 16,oe 17 13 0,oe 18 13 1,o0 8 (.box (.c (.agg iY))),o8 5 8 17,om 9 18]) (.seq (.seq (fo [om 19 9,o0 20 (.not (.t 19))]) (.cond (.t 20) (.seq (fo [o0 21 (.bld l9 []),o8 5 6 21,o7 7 7]) .ret) .skip)) (.seq (fo [o2 22 32 4,o2 23 5 8,o6 24 58 [.t 22,.t 23],o6 25 57 [.t 24],om 10 25]) (.seq (.seq (fo [om 26 10,o9 27 0 26,o5 28 .gtr 27 400]) (.cond (.t 28) (.seq (fo [o0 29 (.bld l9 []),o8 5 6 29,o7 7 4]) .ret) .skip)) (.seq (fo [o1 30 0 5,o3 31 30,o1 32 1 5,o3 33 32,o1 34 2 5,o3 35 34,om 36 10,o0 37 (.bld nO [(0,1,(xi 7)),(138,1,(.t 36))]),o0 38 (.bsf 139 1 nO [(0,139,(.t 37))]),o0 39 (.bld l9 [(0,1,(.t 31)),(1,1,(.t 33)),(2,1,(.t 35)),(4,1,(.t 38))]),o0 11 (.box (.c (.agg iY))),o8 5 11 39]) (.seq (.seq (fo [o2 40 5 11,o6 41 59 [.t 40],om 12 41]) (.seq (fo [om 42 12,o5 43 .neq 42 0]) (.cond (.t 43) (.seq (fo [o0 44 (.bld l9 []),om 45 12,o8 5 6 44,om 7 45]) .ret) .skip))) (.seq (fo [o2 46 5 11,o8 5 6 46,o7 7 0]) .ret)))))))),[.cell 6 (some 5),.tmp 7]⟩
theorem Jw:aG Tryz.prog [100004,100005,300021,300029,300037,100038,300039,300044] 24=some s6.erase:=by kernel_rfl
end Go.Proofs.Q
