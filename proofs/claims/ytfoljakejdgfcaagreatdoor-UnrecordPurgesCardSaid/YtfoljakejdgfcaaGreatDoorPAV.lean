/- Part of a proof. -/
import Derived.Test.YtfoljakejdgfcaaGreatDoorPAU
set_option linter.unusedVariables false
set_option linter.unusedSimpArgs false
namespace Go.Proofs.Q
open Go Go.Bb Go.RowKit Go.Proofs.Lg
open Go.Ab (D RD)
theorem Lu(m:aZ): ∀(l:List Nat) (h:List Int),h.length=8→(l.foldl (fun h k=>gQ h (m.extract (64*k) (64*k+64))) h).length=8
 |[],h,hh=>hh
 |k::l,h,hh=>by rw[gz];exact Lu m l _ (by rw[gQ,uP];exact hh)
theorem extract_size(b:ByteArray)(i j:Nat)(a:j≤b.size):(b.extract i j).size=j-i:=by
 rw[ByteArray.size_extract];omega
theorem Lt(s:aZ):(lP s).length=8:=by unfold lP;generalize jh s=m;exact Lu m _ iE (by decide)
theorem Ls(s m:aZ)(h:m=jh s):lP s=(List.range (m.size/64)).foldl (fun h k=>gQ h (m.extract (64*k) (64*k+64))) iE:=by subst h;unfold lP;rfl
theorem Kl(s:aZ):aq (bE s)=bp .u8 (lA (lP s)):=by rw[WA,Y9]
set_option maxRecDepth 20000 in
set_option maxHeartbeats 1000000 in
theorem UP(s:aZ)(M:s.size≤1000000000):aE Tryz.prog 87 [dS s] (.agg (aq (bE s))):=by
 have C:=UR s M;have L:=JE s;obtain⟨m,hm⟩: ∃m,m=jh s:=⟨_,rfl⟩
 have E:((((((((List.replicate 8 (0:Int)).set 0 1779033703).set 1 3144134277).set 2 1013904242).set 3 2773480762).set 4 1359893119).set 5 2600822924).set 6 528734635).set 7 1541459225=iE:=by rfl
 have a: ∀vs:List AV,vs.length=8→aV ((bp .u32 (List.replicate 8 0)).map .d) 0 8 vs=some vs:=fun vs h=>kp (k:= .u32) (by rfl) h;have u:iE.length=8:=rfl;refine aI (F:=zU) SG (by simp[zU]) ?_;simp only[zU]
 repeat' first|refine ak (fun _=> ?_) fun _=> ?_|refine aD ?_|refine aj.data (C) rfl ?_|simp only[z8,lJ,a,aL,dY,iB,fh,Nat.zero_lt_succ,E,u,←hm,Int.reduceLE,Int.reduceLT,Int.reduceGE,Int.reduceGT,Int.reduceEq,Int.reduceNe,Int.reduceBEq,Int.reduceBNe,decide_true,decide_false,wy,qg,aC,reduceCtorEq,reduceIte,Nat.reduceAdd,Nat.reduceMul,Nat.reduceEqDiff,Nat.reduceLT,Nat.reduceLeDiff,Nat.reduceSub,ax,aB,ay,au]
 clear C E a;rw[←hm]at L;obtain⟨H,D⟩: ∃H,H=lP s:=⟨_,rfl⟩
 have g:=Ls s m hm;have t:=Lt s;have e:=Kl s;rw[←D]at g t e;rw[e];clear D e hm
 refine aX.overI (List.range (m.size/64)) (fun k (h:List Int)=>[(5,iN (64*k))]) (fun k h=>[.cells ((aq .zero).map .d),.cells ((bp .u32 h).map .d)]) (fun r h=>r.foldl (fun h k=>gQ h (m.extract (64*k) (64*k+64))) h) H (fun k h=>h.length=8) iE (by simp;omega) aA aA rfl g rfl (fun k h x hg v j z f c=> ?_) (fun h j f c=> ?_)
 ·rw[dX]at v;obtain rfl:k=x:=by rw[nV a8]at hg;simpa using hg
  have p:IntKind.i64.wrap (((64*k:Nat):Int)+64)=((64*k+64:Nat):Int):=ck a8 a8;have q:decide (((64*k+64:Nat):Int)≤(m.size:Int))=true:=by simp;omega
  have A:(((64*k:Nat):Int)≤((64*k+64:Nat):Int))=True:=by simp;omega
  have B:(((64*k+64:Nat):Int)≤(m.size:Int))=True:=by simp;omega
  have cs:=UT h (m.extract (64*k) (64*k+64)) c (by rw[extract_size _ _ _ a8];omega);have a: ∀vs:List AV,vs.length=8→aV ((bp .u32 h).map .d) 0 8 vs=some vs:=fun vs h=>kp (k:= .u32) c h;have n:(gQ h (m.extract (64*k) (64*k+64))).length=8:=by rw[gQ,uP];exact c
  have G:(bp .u32 h).take 8=bp .u32 h:=dm (by rw[dY,c];decide);rw[gz]at f;clear j hg z g;refine aw (ga @p (ga @q (ga @A (ga @B (ga @a (ga @n (ga @G (ga @c @dY)))))))) @cs ?_;exact⟨_,by rw[Nat.mul_add],rfl,f,n⟩
 ·rw[dX];have y:H=h:=f;subst y;have p:IntKind.i64.wrap (((64*(m.size/64):Nat):Int)+64)=((64*(m.size/64)+64:Nat):Int):=ck a8 a8;have q:decide (((64*(m.size/64)+64:Nat):Int)≤(m.size:Int))=false:=by simp;omega
  clear g f;refine aw (ga @p (ga @q (ga @eV @bc))) trivial ?_
  refine aX.overI (List.range 32) (fun k (b:List Int)=>[(7,iN k)]) (fun k b=>[.cells ((aq .zero).map .d),.cells ((bp .u32 H).map .d),.cells ((bp .u8 b).map .d)]) (fun r b=>r.foldl (fun b i=>b.set i (nb H i)) b) (lA H) (fun k b=>b.length=32) (List.replicate 32 0) (by decide) aA aA rfl rfl (by simp) (fun k b x hg v j z f c=> ?_) (fun b j f c=> ?_)
  ·rw[dX]at v;obtain rfl:k=x:=by rw[nV a8]at hg;simpa using hg
   have K:((4:Int)≠0)=True:=by simp
   have N:((k:Int)<32)=True:=by simp;omega
   have p:IntKind.i64.wrap (Int.tdiv (k:Int) 4)=((k/4:Nat):Int):=ck (by rw[Int.tdiv_eq_ediv_of_nonneg a8];omega) a8;have q:Int.tmod (k:Int) 4=((k % 4:Nat):Int):=by rw[uI a8];omega
   have A:IntKind.i64.wrap (8*((k % 4:Nat):Int))=((8*(k % 4):Nat):Int):=ck a8 a8;have B:IntKind.i64.wrap (24-((8*(k % 4):Nat):Int))=((24-8*(k % 4):Nat):Int):=ck a8 a8;have O:IntKind.u64.wrap ((24-8*(k % 4):Nat):Int)=((24-8*(k % 4):Nat):Int):=Ci rfl a8;have P:(((k/4:Nat):Int)<8)=True:=by simp;omega
   have J:=fD (w:=H) (i:=k/4) a8;have o:=fun x=>lJ (k:= .u8) (l:=b) (i:=k) a8 x;rw[gz]at f;clear j hg;refine aw (ga @K (ga @N (ga @p (ga @q (ga @A (ga @B (ga @O (ga @P (ga @J (ga @o (ga @z @mH))))))))))) trivial ?_;exact⟨_,rfl,f,by simp[c]⟩
  ·have y:lA H=b:=f;have I:(bp .u8 b).take 32=bp .u8 b:=dm (by rw[dY,c];decide);have a: ∀vs:List AV,vs.length=32→aV ((aq .zero).map .d) 0 32 vs=some vs:=fun vs h=>gp (by rw[aL,bc]) h;refine aw (ga @I (ga @a (ga @dY @c))) trivial ?_;rw[y]
end Go.Proofs.Q
namespace Go.Proofs.Q
open Go Go.Ab Go.Bb
def zF:CF:=⟨148, (.seq (fo [o0 10 (.mov xT)]) (.seq (fo [o0 11 (.mov xT)]) (.block 0 (.loop (.trim [4,2,1,0,11,10,3] (.block 1 (.seq (fo [om 21 2,om 22 1,o4 23 .sub 21 22,om 12 23]) (.seq (.seq (fo [om 24 12,o5 25 .leq 24 12]) (.cond (.t 25) (.seq (fo [om 26 0,om 27 1,om 28 2,om 29 4,o6 30 275 [.t 26,.t 27,.t 28,.t 29]]) .ret) .skip)) (.seq (.seq (fo [om 31 3,o5 32 .eql 31 0]) (.cond (.t 32) (.seq (fo [om 33 0,om 34 1,om 35 2,om 36 4,o6 37 276 [.t 33,.t 34,.t 35,.t 36]]) .ret) .skip)) (.seq (.seq (fo [om 38 10,o0 39 (.not (.t 38))]) (.cond (.t 39) (.seq (fo [om 40 0,om 41 1,om 42 2,om 43 4,o6 44 277 [.t 40,.t 41,.t 42,.t 43]]) (fo [om 45 3,o5 46 .sub 45 1,om 3 46])) .skip)) (.seq (fo [om 48 0,om 49 1,om 50 2,om 51 4,o6 52 278 [.t 48,.t 49,.t 50,.t 51],om 47 52,oe 53 47 0,oe 54 47 1,om 13 53,om 14 54]) (.seq (.seq (fo [om 55 14,o5 56 .eql 55 2]) (.cond (.t 56) (.seq (fo [om 57 0,om 58 1,om 59 2,om 60 4,o6 61 279 [.t 57,.t 58,.t 59,.t 60]]) (.seq (fo [om 62 2,o5 63 .sub 62 1,om 64 13,om 65 1,o4 66 .sub 64 65,o4 67 .sub 63 66,om 13 67]) (fo [o7 14 1]))) .skip)) (.seq (.seq (fo [om 68 10,om 69 68,oh 70 69 true 11,o0 71 (.pick (.t 69) (.t 70) xF),om 72 71,oh 73 72 true 14,og 74 72 true (.bin .eql (.t 73) (xi 1)),o0 75 (.pick (.t 72) (.t 74) xF)]) (.cond (.t 75) (.seq (fo [om 76 0,om 77 1,om 78 2,om 79 4,o6 80 280 [.t 76,.t 77,.t 78,.t 79]]) (.cond (.t 80) .ret .skip)) .skip))
 (.seq (.seq (.ops true [0,1,3,7,7,7,39,119,247,7,7,1543,3591,8191,16383,32767,65535] [om 81 1,o5 82 .gtr 81 0,om 83 82,oh 84 83 true 4,oh 85 83 true 0,oh 86 83 true 1,og 87 83 true (.bin .sub (.t 86) (xi 1)),og 88 83 true (.iad 33 (.t 85) (.t 87)),og 89 83 true (.ld (some 33) (.t 88)),oh 90 83 true 0,oh 91 83 true 13,og 92 83 true (.iad 33 (.t 90) (.t 91)),og 93 83 true (.ld (some 33) (.t 92)),og 94 83 true (.call (.val (.t 84)) [.t 89,.t 93]),og 95 83 true (.bin .lss (.t 94) (xi 0)),og 96 83 true (.not (.t 95)),o0 97 (.pick (.t 83) (.t 96) xF)]) (.cond (.t 97) (.seq (fo [om 98 0,om 99 1,om 100 2,om 101 13,om 102 4,o6 103 281 [.t 98,.t 99,.t 100,.t 101,.t 102],om 15 103]) (.seq (fo [om 104 15,om 1 104]) (.exit 1))) .skip)) (.seq (fo [om 106 0,om 107 1,om 108 2,om 109 13,om 110 4,o6 111 282 [.t 106,.t 107,.t 108,.t 109,.t 110],om 105 111,oe 112 105 0,oe 113 105 1,om 16 112,om 17 113]) (.seq (fo [om 114 17,om 11 114]) (.seq (fo [om 115 16,om 116 1,o4 117 .sub 115 116,om 118 2,om 119 16,o4 120 .sub 118 119,om 18 117,om 19 120]) (.seq (fo [om 121 12,o5 122 .quo 121 8,om 20 122]) (.seq (fo [om 123 18,om 124 19,o4 125 .lss 123 124]) (.cond (.t 125) (.seq (fo [om 126 18,om 127 20,o4 128 .geq 126 127,om 10 128]) (.seq (fo [om 129 0,om 130 1,om 131 16,om 132 3,om 133 4,o6 134 250 [.t 129,.t 130,.t 131,.t 132,.t 133]]) (fo [om 135 16,o5 136 .add 135 1,om 1 136]))) (.seq (fo [om 137 19,om 138 20,o4 139 .geq 137 138,om 10 139])
 (.seq (fo [om 140 0,om 141 16,o5 142 .add 141 1,om 143 2,om 144 3,om 145 4,o6 146 250 [.t 140,.t 142,.t 143,.t 144,.t 145]]) (fo [om 147 16,om 2 147]))))))))))))))))))))))),[]⟩
theorem Sr:aG Tryz.prog [] 250=some zF.erase:=by kernel_rfl
def yM:CF:=⟨53, (.seq (fo [om 10 1,o5 11 .add 10 1,om 8 11]) (.block 0 (.loop (.trim [1,3,8,0,2] (.seq (.seq (fo [om 12 8,om 13 2,o4 14 .lss 12 13]) (.cond (.t 14) .skip (.exit 0))) (.seq (.block 1 (.seq (fo [om 17 8,om 9 17]) (.block 2 (.loop (.trim [9,0,8,1,3,2] (.seq (.seq (.ops true [0,0,3,7,15,15,15,111,239,15,15,1039,3599,7695,16383,32767,65535] [om 18 9,om 19 1,o4 20 .gtr 18 19,om 21 20,oh 22 21 true 3,oh 23 21 true 0,oh 24 21 true 9,og 25 21 true (.iad 33 (.t 23) (.t 24)),og 26 21 true (.ld (some 33) (.t 25)),oh 27 21 true 0,oh 28 21 true 9,og 29 21 true (.bin .sub (.t 28) (xi 1)),og 30 21 true (.iad 33 (.t 27) (.t 29)),og 31 21 true (.ld (some 33) (.t 30)),og 32 21 true (.call (.val (.t 22)) [.t 26,.t 31]),og 33 21 true (.bin .lss (.t 32) (xi 0)),o0 34 (.pick (.t 21) (.t 33) xF)]) (.cond (.t 34) .skip (.exit 2))) (.seq (.block 3 (.ops true [0,0,0,0,8,0,0,64,224,480,0,0,3072,7168,16355,32739,65535,131071] [om 37 0,om 38 9,om 39 0,om 40 9,o5 41 .sub 40 1,om 42 0,om 43 9,o5 44 .sub 43 1,oi 45 33 42 44,o2 46 33 45,om 47 0,om 48 9,oi 49 33 47 48,o2 50 33 49,oi 51 33 37 38,o8 33 51 46,oi 52 33 39 41,o8 33 52 50])) (fo [om 35 9,o5 36 .sub 35 1,om 9 36])))))))) (fo [om 15 8,o5 16 .add 15 1,om 8 16]))))))),[]⟩
theorem RF:aG Tryz.prog [] 275=some yM.erase:=by kernel_rfl
def yG:CF:=⟨14, (.seq (fo [om 5 0,o9 6 0 5,om 4 6]) (fo [om 7 0,om 8 4,om 9 4,o0 10 (.cnv .u64 (.t 9)),o6 11 165 [.t 10],om 12 1,o6 13 250 [.t 7,(xi 0),.t 8,.t 11,.t 12]])),[]⟩
theorem Rx:aG Tryz.prog [] 194=some yG.erase:=by kernel_rfl
def ze:CF:=⟨61, (.seq (fo [ox 1 0,o0 2 (.mov (.c (.nil 172))),o0 3 (.mov (.c (.d (.sc (.string ⟨#[]⟩))))),o7 4 0]) (.seq (.seq (fo [o2 14 5 1,o6 15 130 [.t 14],om 5 15]) (.seq (fo [om 16 5,o5 17 .neq 16 0]) (.cond (.t 17) (.seq (fo [om 18 5,o0 2 (.mov (.c (.nil 172))),o0 3 (.mov (.c (.d (.sc (.string ⟨#[]⟩))))),om 4 18]) .ret) .skip))) (.seq (fo [o0 6 (.box (.c (.nil 172)))]) (.seq (.seq (fo [o1 19 4 1,o3 20 19,o9 21 0 20,o7 22 0]) (.block 0 (.loop (.trim [6,22,4,3,2,1,20,21] (.seq (fo [o4 23 .lss 22 21]) (.seq (.cond (.t 23) .skip (.exit 0)) (.seq (.block 1 (.seq (fo [oi 24 139 20 22,o2 25 139 24,o0 8 (.box (.c (.agg pf))),o8 139 8 25]) (.seq (.seq (fo [o2 26 139 8,o6 27 131 [.t 26],om 9 27]) (.seq (fo [om 28 9,o5 29 .neq 28 0]) (.cond (.t 29) (.seq (fo [om 30 9,o0 2 (.mov (.c (.nil 172))),o0 3 (.mov (.c (.d (.sc (.string ⟨#[]⟩))))),om 4 30]) .ret) .skip))) (.seq (.seq (fo [o2 31 139 8,o3 32 6,o6 33 132 [.t 31,.t 32],om 10 33]) (.seq (fo [om 34 10,o5 35 .neq 34 0]) (.cond (.t 35) (.seq (fo [om 36 10,o0 2 (.mov (.c (.nil 172))),o0 3 (.mov (.c (.d (.sc (.string ⟨#[]⟩))))),om 4 36]) .ret) .skip))) (.seq (fo [o2 37 139 8,o3 38 6,o9 39 0 38,o6 40 133 [.t 37,.t 39]]) (.block 2 (.trim [40,21,20,1,2,3,4,22,6] (.rng 61 (.t 40) [41] (fo [o0 11 (.box (.c (.agg gG))),o8 172 11 41]) (.block 3 (fo [o3 42 6,o2 43 172 11,o0 44 (.bsf 172 1 eu [(0,172,(.t 43))]),o0 45 (.app true 71 172 296 (.t 42) (.t 44)),o8 1 6 45])))))))))) (fo [o5 46 .add 22 1,om 22 46]))))))))
 (.seq (fo [o2 48 5 1,o6 49 134 [.t 48],om 47 49,oe 50 47 0,oe 51 47 1,om 12 50,om 13 51]) (.seq (.seq (fo [om 52 13,o5 53 .neq 52 0,om 54 53,oh 55 54 false 12,og 56 54 false (.len 1 (.t 55)),og 57 54 false (.bin .gtr (.t 56) (xi 65536)),o0 58 (.pick (.t 54) xT (.t 57))]) (.cond (.t 58) (.seq (fo [o0 2 (.mov (.c (.nil 172))),o0 3 (.mov (.c (.d (.sc (.string ⟨#[]⟩))))),o7 4 4]) .ret) .skip)) (.seq (fo [o3 59 6,om 60 12,om 2 59,om 3 60,o7 4 0]) .ret))))))),[.tmp 2,.tmp 3,.tmp 4]⟩
theorem S1:aG Tryz.prog [100001,100044,45] 92=some ze.erase:=by kernel_rfl
def za:CF:=⟨97, (.seq (fo [ox 1 0,o0 2 (.mov (.c (.nil 172))),o7 3 0]) (.seq (fo [o2 15 5 1,o6 16 92 [.t 15],om 14 16,oe 17 14 0,oe 18 14 1,oe 19 14 2,om 4 17,om 5 18,om 6 19]) (.seq (.seq (fo [om 20 6,o5 21 .neq 20 0]) (.cond (.t 21) (.seq (fo [om 22 6,o0 2 (.mov (.c (.nil 172))),om 3 22]) .ret) .skip)) (.seq (fo [o2 24 5 1,o6 25 99 [.t 24],om 23 25,oe 26 23 0,oe 27 23 1,o0 7 (.box (.c (.agg cN))),o8 32 7 26,om 6 27]) (.seq (.seq (fo [om 28 6,o5 29 .neq 28 0]) (.cond (.t 29) (.seq (fo [om 30 6,o0 2 (.mov (.c (.nil 172))),om 3 30]) .ret) .skip)) (.seq (fo [o0 31 (.mkf 193 [] [.t 7]),om 8 31]) (.seq (.seq (fo [om 32 4,o9 33 0 32,o7 34 0]) (.block 0 (.loop (.trim [34,4,8,32,33] (.seq (fo [o4 35 .lss 34 33]) (.seq (.cond (.t 35) .skip (.exit 0)) (.seq (.block 1 (.seq (fo [om 36 34,oi 37 172 32 34,o2 38 172 37,o0 10 (.box (.c (.agg gG))),om 9 36,o8 172 10 38]) (.seq (fo [om 39 8,o1 40 0 10,o2 41 33 40,o0 42 (.call (.val (.t 39)) [.t 41]),o1 43 0 10,o8 33 43 42]) (.seq (.seq (fo [o1 44 33 10,o3 45 44,o5 46 .neq 45 7]) (.cond (.t 46) (fo [om 47 8,o1 48 34 10,o2 49 33 48,o0 50 (.call (.val (.t 47)) [.t 49]),o1 51 34 10,o8 33 51 50]) .skip)) (.seq (.seq (fo [o1 52 33 10,o3 53 52,o5 54 .eql 53 2]) (.cond (.t 54) (fo [om 55 8,o1 56 68 10,o2 57 33 56,o0 58 (.call (.val (.t 55)) [.t 57]),o1 59 68 10,o8 33 59 58]) .skip))
 (.seq (.seq (fo [o1 60 33 10,o3 61 60,o5 62 .eql 61 6]) (.cond (.t 62) (.ops true [0,0,2,7,0,0,32,127,111,511,1023,2047] [om 63 8,o1 64 105 10,o2 65 33 64,o0 66 (.call (.val (.t 63)) [.t 65]),om 67 8,o1 68 138 10,o2 69 33 68,o0 70 (.call (.val (.t 67)) [.t 69]),o1 71 105 10,o8 33 71 66,o1 72 138 10,o8 33 72 70]) .skip)) (.seq (fo [o0 11 (.mov (.c (.nil 33)))]) (.seq (.seq (fo [o1 73 171 10,o3 74 73,o9 75 0 74,o7 76 0]) (.block 2 (.loop (.trim [76,8,11,74,9,10,34,4,32,33,75] (.seq (fo [o4 77 .lss 76 75]) (.seq (.cond (.t 77) .skip (.exit 2)) (.seq (.block 3 (.seq (fo [oi 78 33 74 76,o2 79 33 78,o0 13 (.box (.c (.agg dW))),o8 33 13 79]) (fo [om 80 11,om 81 8,o2 82 33 13,o0 83 (.call (.val (.t 81)) [.t 82]),o0 84 (.bsf 33 1 dW [(0,33,(.t 83))]),o0 85 (.app true 60 33 40 (.t 80) (.t 84)),om 11 85]))) (fo [o5 86 .add 76 1,om 76 86])))))))) (.seq (fo [om 87 11,o0 88 (.call (.fn 194) [.t 87,(.c (.clo 97 [] []))])]) (.seq (fo [om 89 11,o1 90 171 10,o8 1 90 89]) (fo [om 91 4,om 92 9,o2 93 172 10,oi 94 172 91 92,o8 172 94 93]))))))))))) (fo [o5 95 .add 34 1,om 34 95])))))))) (.seq (fo [om 96 4,om 2 96,o7 3 0]) .ret)))))))),[.tmp 2,.tmp 3]⟩
theorem RX:aG Tryz.prog [100001,100084,85] 139=some za.erase:=by kernel_rfl
def nr:CF:=⟨14, (.seq (fo [o0 2 (.box (.t 0)),o0 3 (.box (.c (.agg dW)))]) (.seq (.seq (fo [o2 4 33 2,o6 5 115 [.t 4],om 6 5,og 7 6 true (.fad 32 (.t 2)),og 8 6 true (.ld none (.t 7)),og 9 6 true (.bin .geq (.t 8) (xi 0)),o0 10 (.pick (.t 6) (.t 9) xF)]) (.cond (.t 10) (fo [o2 11 32 1,o1 12 0 2,o8 32 12 11]) .skip)) (.seq (fo [o2 13 33 2,o8 33 3 13]) .ret))),[.cell 3 (some 33)]⟩
theorem DZ:aG Tryz.prog [] 193=some nr.erase:=by kernel_rfl
def yV:CF:=⟨13, (.seq (fo [ox 1 0,o0 2 (.mov (.c (.nil 172))),o7 3 0]) (.seq (fo [o2 7 5 1,o6 8 139 [.t 7],om 6 8,oe 9 6 0,oe 10 6 1,om 4 9,om 5 10]) (.seq (fo [om 11 4,om 12 5,om 2 11,om 3 12]) .ret))),[.tmp 2,.tmp 3]⟩
theorem RP:aG Tryz.prog [100001] 94=some yV.erase:=by kernel_rfl
end Go.Proofs.Q
namespace Go.Bb
open Go Go.RowKit Go.Ab Go.Proofs.Lg
theorem AC.freezeV{P:Program}{N:Nat}{cc:CC}{Q:Exit→Fr→List aa→Prop}{fr fr':Fr}{s:List aa}{i e sz n:Nat}{rows:List (List D)}(Z:s[i]?=some (.vec e sz (rows.flatten.map .d)))(T:0<sz)(Y:rows.length=n)(a3:0<n)(G: ∀r∈rows,r.length=sz)
  (R: ∀t x,Bb.look fr' t=some x→Bb.look fr t=some x∨(Bb.look fr t=some (.vec i n sz)∧x= .d (.sl sz rows))) (h:AC P N none cc Q fr' (s.set i .junk)):AC P N none cc Q fr s:=by
 obtain⟨e',H,s1,hq,hr⟩:=h;refine⟨e',H,s1,hq,fun c hc B k a w r h0 h1 W m=> ?_⟩;obtain⟨v,n2,xs,hb,b,hI,X,z⟩:=m.vec Z;have O:rows.flatten.length=n*sz:=by rw[Go.Ab.flatten_len rows G,Y]
 rw[aL,O]at X;obtain rfl:n=n2:=kK T X;rcases b.2 with⟨_,hz⟩|⟨g,cap,cur,hv,hbg,hg,hnc,hcm,hcs,htake⟩
 ·omega
 have K:k.I g=0:=hI g (by rw[hv];rfl);have hm:Mono k w ⟨dH k.I g (n*sz),k.own⟩ w:=⟨fun C o u f L=>by
  refine⟨?_,L⟩;show o<dH k.I g (n*sz) C;by_cases e:C=g
  ·subst e;rw[K]at f;omega
  ·rw[gT _ _ e];exact f,fun id o f=>⟨o,f,de.refl o⟩⟩
 have y:(Own.row v n).block=some g:=by rw[hv];rfl
 have hx:Ext B k w ⟨dH k.I g (n*sz),k.own⟩ w:=⟨hm,Below.refl _ _,fun C a0=>gT _ _ a8,fun _ _ _=>rfl,fun id o C f y _=>⟨o,f,y⟩⟩
 have S:St (dx P) B ⟨dH k.I g (n*sz),k.own⟩ (s.set i .junk) w:=by
  refine⟨m.base,by simp[m.len],fun id x o l f=> ?_,m.lies,m.apart,m.glob⟩;by_cases e:id=i
  ·subst e;rw[dJ (aR.1 Z).1]at l;obtain rfl:=az l;cases o<;>trivial
  ·rw[bs (Ne.symm e)]at l;refine(m.obj id x o l f).same hm fun C p=>⟨rfl,gT _ _ ?_⟩
   intro V;rw[V]at p;exact m.apart id i o _ g e f hb p y
 have q: ∀(j:Nat) (u:Value),xs[j]?=some u→w.cell? ⟨g,j,none⟩=some u:=fun j u A=>by
  have:=b.cells (g:=g) (by rw[hv];rfl) j u A;rw[fJ]at this;simpa using this
 have a4:xs.length=n*sz:=b.1;have hf:FR ⟨dH k.I g (n*sz),k.own⟩ w a fr':=fun t x U=>by
  rcases R t x U with h4|⟨h4,rfl⟩
  ·exact(W t x h4).mono hm
  ·obtain⟨_,u,n',E,a1,M⟩:=(W t _ h4).vec_inv;rw[hb]at E;cases E;rw[M rfl,hv];have F:=z.mono hm;refine .d (RD.sl_mk Y G hnc (by unfold maxLen at hcm;omega) ⟨z.1.trans (aL ..),z.2.1,fun j u d A hd=>(F.2.2 j u (.d d) A (by rw[cC,hd];rfl)).d_inv⟩ fun _=>⟨g,0,rfl,fun j u A=>⟨?_,?_⟩⟩)
   ·show 0+j<dH k.I g (n*sz) g;rw[fH];have:=(aR.1 A).1;omega
   ·rw[au];exact q j u A
 have J:pF ⟨dH k.I g (n*sz),k.own⟩ none r:=by cases r<;>exact h0
 exact wpIn_mono (hr c hc B _ a w r J h1 hf S) fun V a2 w2 hh=>hh.trans (Marks.refl _ _ _ _) hx
theorem AC.toD{P:Program}{N:Nat}{cc:CC}{Q:Exit→Fr→List aa→Prop}{fr fr':Fr}{s:List aa}
  (e: ∀t x,Bb.look fr' t=some x→Bb.look fr t=some x∨ ∃y d,Bb.look fr t=some y∧y.toD=some d∧x= .d d) (h:AC P N none cc Q fr' s):AC P N none cc Q fr s:=by
 obtain⟨i,b,p,n,o⟩:=h;refine⟨i,b,p,n,fun c hc B k a w r h0 j g l=> ?_⟩;have m:FR k w a fr':=fun t x f=>by
  rcases e t x f with h4|⟨y,d,h4,h5,rfl⟩
  ·exact g t x h4
  ·exact .d ((g t y h4).toD h5)
 exact o c hc B k a w r h0 j m l
end Go.Bb
namespace Go.Proofs.Q
open Go Go.Bb Go.RowKit Go.Proofs.Lg
open Go.Ab (D RD)
theorem AC.overI{P:Program}{N:Nat}{rd:Option Nat}{keep:List Nat}{c:CC}{Q:Exit→Fr→List aa→Prop}{fr fr0:Fr}{s:List aa}{α β γ:Type}(l:List α)(F:Nat→β→Fr)(S:Nat→β→List aa)(g:List α→β→γ)(R:γ)(J:Nat→β→Prop)(b:β)(x:l.length≤9223372036854775807)
  (w:dV keep fr=fr0) (h0:iP keep (F 0 b++fr0) fr0) (v:s=S 0 b) (u:R=g l b) (t:J 0 b)
  (h: ∀k b y,l[k]?=some y→k<l.length→decide ((k:Int)<(l.length:Int))=true→IntKind.i64.wrap ((k:Int)+1)=((k+1:Nat):Int)→R=g (y::l.drop (k+1)) b→J k b→
   AC P N rd c (fp (fun fr' j=> ∃d,iP keep (F (k+1) d++fr0) fr'∧j=S (k+1) d∧R=g (l.drop (k+1)) d∧J (k+1) d) Q) (dV keep (F k b++fr0)) (S k b))
  (a: ∀b,decide ((l.length:Int)<(l.length:Int))=false→R=g [] b→J l.length b→AC P N rd c (fp (fun _ _=>False) Q) (dV keep (F l.length b++fr0)) (S l.length b)):AC P N rd (.loop (.trim keep c)) Q fr s:=by
 refine AC.loop (fun m fr s=> ∃k b,fr=dV keep (F k b++fr0)∧s=S k b∧m+k=l.length∧R=g (l.drop k) b∧J k b) (m:=l.length) (fr0:=dV keep (F 0 b++fr0)) (h0.sub.trans (by rw[←w];exact BQ keep fr)) ⟨0,b,rfl,v,rfl,u,t⟩ ?_;rintro m _ _ ⟨k,b,rfl,rfl,hm,hi,n⟩;refine AC.trim ?_;rw[KJ];by_cases i:k<l.length
 ·have hg:l[k]?=some l[k]:=bV i;rw[js i]at hi;refine(h k b _ hg i (by simpa using i) (ck a8 a8) hi n).mono fun e fr' j f=> ?_;cases e with
  |normal=>obtain⟨d,o,p,q,r⟩:=f;exact⟨m-1,_,by omega,o.sub,k+1,d,rfl,p,by omega,q,r⟩
  |_=>exact f
 ·obtain rfl:k=l.length:=by omega
  rw[sO]at hi;refine(a b (by simp) hi n).mono fun e fr' j f=> ?_;cases e with
  |normal=>exact f.elim
  |_=>exact f
end Go.Proofs.Q
