/- Part of a proof. -/
import Derived.Test.YtfoljakejdgfcaaGreatDoorPBI
set_option linter.unusedVariables false
set_option linter.unusedSimpArgs false
namespace Go.Proofs.Q
open Go Go.Bb Go.RowKit Go.Proofs.Lg
open Go.Ab (D RD)
theorem C8(d:D):nM ([]++[AV.d d]++[])=some [d]:=rfl
theorem LA(d e:D):nM ([]++[AV.d d]++[.d e])=some [d,e]:=rfl
theorem Gx{c:af}{t:Nat}(e:2≤t∧t≤7){a:aJ}{s:List aa}{K:AV→List aa→Nat→Prop}(b:K (.d (dB (lD c t a))) s 0):aj Tryz.prog (.clo (fT t) [] (na c t)) [.d (.agg (aO a))] s K:=by
 obtain h|h|h|h|h|h:t=2∨t=3∨t=4∨t=5∨t=6∨t=7:=by omega
 all_goals subst h
 ·exact aj.data (Uq a) (C8 _) b
 ·exact aj.data (Ur a) (C8 _) b
 ·exact aj.data (Us a) (C8 _) b
 ·exact aj.data (Ut a) (C8 _) b
 ·exact aj.data (Uu a c) (LA _ _) b
 ·exact aj.data (Uv a c) (LA _ _) b
theorem Xy(c:af): ∀x∈eP c,2≤x.2∧x.2≤7:=by
 intro x a;unfold eP at a;simp only[fL,cy]at a;rcases a with((a|a)|a)|⟨y,_,rfl⟩
 ·repeat' split at a
  all_goals simp at a
  all_goals(subst a;simp)
 ·split at a
  ·simp at a;subst a;simp
  ·simp at a
 ·split at a
  ·simp at a;rcases a with rfl|rfl<;>simp
  ·simp at a
 ·simp
theorem ET(c:af):(eP c).length≤c.over.length+4:=by
 unfold eP;simp only[aN,aL]
 repeat' split
 all_goals simp
 all_goals omega
abbrev lv(c:af)(t:Nat):AV:= .clo (fT t) [] (na c t)
def rowsC(c:af)(l:List (ar×Nat)):List AV:=l.flatMap fun p=>dZ p.1 (lv c p.2)
theorem EZ(c:af): ∀l:List (ar×Nat),(rowsC c l).length=l.length*34
 |[]=>rfl
 |p::l=>by
  show(dZ p.1 (lv c p.2)++rowsC c l).length=_;rw[aN,ix,EZ c l,aU];omega
theorem EY(c:af): ∀(l:List (ar×Nat)) (k:Nat) (x:ar×Nat),l[k]?=some x→((rowsC c l).drop (k*34)).take 34=dZ x.1 (lv c x.2)
 |p::l,0,x,h=>by
  simp at h;subst h;show((dZ p.1 (lv c p.2)++rowsC c l).drop (0*34)).take 34=_;rw[od,jQ,gf (by rw[ix];omega),dm (by rw[ix];omega)]
 |p::l,k+1,x,h=>by
  show((dZ p.1 (lv c p.2)++rowsC c l).drop ((k+1)*34)).take 34=_;rw[gx,gy (by rw[ix];omega),bn,ix,show(k+1)*34-34=k*34 by omega];exact EY c l k x (by simpa using h)
theorem ou.rowsC{v:AV}{J:List aa}{c:af}{l:List (ar×Nat)}(h:ou v J (l.map (BP c))):(v= .nil 34∧l=[])∨ ∃r,v= .vec (r+1) l.length 34∧J[r]?=some (.vec 154 34 (rowsC c l)):=by
 rcases h with⟨a,b⟩|⟨r,a,b⟩
 ·exact .inl ⟨a,by simpa using b⟩
 ·refine .inr ⟨r,by simpa using a,?_⟩;rw[b];unfold Q.rowsC;rw[List.flatMap_map];rfl
theorem nE(x:ar)(c:af)(t:Nat):kb (dZ x (lv c t))=none:=EU ..
theorem nH(x:ar)(a:AV):(dZ x a)[32]?=some (.d (dI x.n)):=by
 unfold dZ;rw[eQ (by rw[aL,aM];omega),cC,mG];rfl
theorem nF(x:ar)(a:AV):(dZ x a)[33]?=some a:=by
 unfold dZ;rw[gZ (by rw[aL,aM];omega),aL,aM];rfl
theorem nG(x:ar)(a:AV):(dZ x a).take 33=(ab x).map .d:=by
 unfold dZ;rw[gf (by rw[aL,aM];omega),dm (by rw[aL,aM];omega)]
set_option maxHeartbeats 4000000 in
theorem Uh(c:af)(own:List aJ)(X:c.over.length≤100000)(Z:own.length≤100000):aE Tryz.prog 132 [.agg (aQ c),.sl 172 (own.map aO)] (dI (qB c own)):=by
 have cR:=JN c X;have V:=ET c;refine ph (F:=z7) RW (by simp[z7]) ?_;simp only[z7];refine AC.cutJ [1,2] [(1,.d (.sl 172 (own.map aO))),(2,.d (.ref (aQ c)))] (fun s=>s=[]) ?_ fun s K=> ?_
 ·exact bx trivial trivial
 subst K;refine AC.cutJ [2] [(2,.d (.ref (aQ c)))] (fun _=>fG c own (eP c)=0) ?_ fun s K=> ?_
 ·repeat' first|refine ak (fun _=> ?_) fun _=> ?_|refine aD ?_|(refine aj.fn (cR.mono ?_);rintro d s' ⟨J,rfl,U⟩)|simp only[wj,wy,qg,aC,reduceCtorEq,reduceIte,Nat.reduceAdd,Nat.reduceMul,Nat.reduceEqDiff,Nat.reduceLT,Nat.reduceLeDiff,Nat.reduceSub,ax,aB,ay,au]
  rcases U.rowsC with⟨rfl,W⟩|⟨r,rfl,hr⟩
  ·rw[W];refine aw @wj trivial ?_;refine aX.overI ([]:List Nat) (fun k (b:List aa)=>[(10,iN k)]) (fun _ b=> .cells [.nil 34]::J) (fun _ _=>()) () (fun _ _=>True) ([]:List aa) (by simp) aA aA rfl rfl trivial (fun k b x hg=>by cases hg) (fun b y w _=> ?_);refine aw @wj trivial ?_
   all_goals rfl
  ·have e:=EZ c (eP c);obtain⟨m,hcells⟩: ∃m,m=rowsC c (eP c):=⟨_,rfl⟩
   rw[←hcells]at hr e;obtain⟨Y,L⟩: ∃Y,Y=fG c own (eP c):=⟨_,rfl⟩
   rw[←L];have H:Y≠0→qB c own=Y:=fun h=>by unfold qB cF;rw[←L,if_pos h]
   refine aw (ga @hr @wj) trivial ?_;refine aX.overI (eP c) (fun k (b:List aa)=>[(10,iN k)]) (fun _ b=> .cells [.vec (r+1) (eP c).length 34]::(J++b)) (fun l b=>fG c own l) Y (fun _ _=>True) ([]:List aa) a8 aA aA (by simp) L trivial (fun k b x hg C y E w _=> ?_) (fun b y w _=> ?_)
   ·have a:=EY c (eP c) k x hg;rw[←hcells]at a;have u:=Xy c x (bT hg);have i:=bP hr;have g:k*34+34≤(eP c).length*34:=by omega
    obtain⟨x,t⟩:=x;rw[fG]at w;dsimp only at a u w;have z:=Bv x;have o: ∀{I:List aa},I=aa.cells [.vec (r+1) (eP c).length 34]::(J++(b++[aa.cells (dZ x (lv c t))]))→gP c own x t=0→ ∃S,I=aa.cells [.vec (r+1) (eP c).length 34]::(J++S)∧Y=fG c own (List.drop (k+1) (eP c)):=fun j T=>⟨_,j,by rw[w,T];simp⟩
    have f:gP c own x t≠0→qB c own=gP c own x t:=fun h=>by rw[H (by rw[w,if_pos h];exact h),w,if_pos h]
    clear H w hg;by_cases G:isZero x.p=true
    ·rw[G]at z;by_cases h0:x.n<0
     ·rw[f (by unfold gP;rw[if_pos h0];decide)];have v:decide (x.n<0)=true:=by simpa using h0
      repeat' first|refine ak (fun _=> ?_) fun _=> ?_|refine aD ?_|refine aj.data (z) rfl ?_|simp only[v,y,E,C,hr,i,e,a,g,nE,lM,ix,nH,nF,nG,gW,wj,wy,qg,aC,reduceCtorEq,reduceIte,Nat.reduceAdd,Nat.reduceMul,Nat.reduceEqDiff,Nat.reduceLT,Nat.reduceLeDiff,Nat.reduceSub,ax,aB,ay,au]
      unfold gP;rw[if_pos h0]
     have v:decide (x.n<0)=false:=by simpa using h0
     by_cases j:(own.length:Int)≤x.n
     ·rw[f (by unfold gP;rw[if_neg h0,if_pos ⟨G,j⟩];decide)];have A:decide (x.n≥(own.length:Int))=true:=by simpa using j
      repeat' first|refine ak (fun _=> ?_) fun _=> ?_|refine aD ?_|refine aj.data (z) rfl ?_|simp only[v,A,y,E,C,hr,i,e,a,g,nE,lM,ix,nH,nF,nG,gW,wj,wy,qg,aC,reduceCtorEq,reduceIte,Nat.reduceAdd,Nat.reduceMul,Nat.reduceEqDiff,Nat.reduceLT,Nat.reduceLeDiff,Nat.reduceSub,ax,aB,ay,au]
      unfold gP;rw[if_neg h0,if_pos ⟨G,j⟩]
     have A:decide (x.n≥(own.length:Int))=false:=by simpa using j
     have P:decide (x.n≥100000)=false:=by simp;omega
     have N:x.n.toNat<own.length:=by omega
     have ha:own[x.n.toNat]?=some own[x.n.toNat]:=bV N;have Q:(0≤x.n)=True:=eq_true a8;have q:gP c own x t=if lD c t own[x.n.toNat]=false then 8 else 0:=by
      unfold gP;rw[if_neg h0,if_neg (fun h=>j h.2),if_neg a8,ha,ic];simp[G]
     by_cases M:lD c t own[x.n.toNat]=true
     ·repeat' first|refine ak (fun _=> ?_) fun _=> ?_|refine aD ?_|refine aj.data (z) rfl ?_|(refine Gx u ?_;rw[M])|simp only[v,A,P,ha,Q,y,E,C,hr,i,e,a,g,nE,lM,ix,nH,nF,nG,gW,wj,wy,qg,aC,reduceCtorEq,reduceIte,Nat.reduceAdd,Nat.reduceMul,Nat.reduceEqDiff,Nat.reduceLT,Nat.reduceLeDiff,Nat.reduceSub,ax,aB,ay,au]
      all_goals exact o rfl (by rw[q,M];rfl)
     ·have B:lD c t own[x.n.toNat]=false:=by simpa using M
      rw[f (by rw[q,B];decide),q,B]
      repeat' first|refine ak (fun _=> ?_) fun _=> ?_|refine aD ?_|refine aj.data (z) rfl ?_|(refine Gx u ?_;rw[B])|simp only[v,A,P,ha,Q,y,E,C,hr,i,e,a,g,nE,lM,ix,nH,nF,nG,gW,wj,wy,qg,aC,reduceCtorEq,reduceIte,Nat.reduceAdd,Nat.reduceMul,Nat.reduceEqDiff,Nat.reduceLT,Nat.reduceLeDiff,Nat.reduceSub,ax,aB,ay,au]
    ·have O:isZero x.p=false:=by simpa using G
     rw[O]at z;by_cases h0:x.n<0
     ·rw[f (by unfold gP;rw[if_pos h0];decide)];have v:decide (x.n<0)=true:=by simpa using h0
      repeat' first|refine ak (fun _=> ?_) fun _=> ?_|refine aD ?_|refine aj.data (z) rfl ?_|simp only[v,y,E,C,hr,i,e,a,g,nE,lM,ix,nH,nF,nG,gW,wj,wy,qg,aC,reduceCtorEq,reduceIte,Nat.reduceAdd,Nat.reduceMul,Nat.reduceEqDiff,Nat.reduceLT,Nat.reduceLeDiff,Nat.reduceSub,ax,aB,ay,au]
      unfold gP;rw[if_pos h0]
     have v:decide (x.n<0)=false:=by simpa using h0
     have D: ¬(isZero x.p=true∧(own.length:Int)≤x.n):=fun h=>G h.1;by_cases j:100000≤x.n
     ·rw[f (by unfold gP;rw[if_neg h0,if_neg D,if_pos j];decide)];have A:decide (x.n≥100000)=true:=by simpa using j
      repeat' first|refine ak (fun _=> ?_) fun _=> ?_|refine aD ?_|refine aj.data (z) rfl ?_|simp only[v,A,y,E,C,hr,i,e,a,g,nE,lM,ix,nH,nF,nG,gW,wj,wy,qg,aC,reduceCtorEq,reduceIte,Nat.reduceAdd,Nat.reduceMul,Nat.reduceEqDiff,Nat.reduceLT,Nat.reduceLeDiff,Nat.reduceSub,ax,aB,ay,au]
      unfold gP;rw[if_neg h0,if_neg D,if_pos j]
     have A:decide (x.n≥100000)=false:=by simpa using j
     repeat' first|refine ak (fun _=> ?_) fun _=> ?_|refine aD ?_|refine aj.data (z) rfl ?_|simp only[v,A,y,E,C,hr,i,e,a,g,nE,lM,ix,nH,nF,nG,gW,wj,wy,qg,aC,reduceCtorEq,reduceIte,Nat.reduceAdd,Nat.reduceMul,Nat.reduceEqDiff,Nat.reduceLT,Nat.reduceLeDiff,Nat.reduceSub,ax,aB,ay,au]
     all_goals exact o rfl (by unfold gP;rw[if_neg h0,if_neg D,if_neg j,if_neg (fun h=>G h.1)])
   ·rw[fG]at w;refine aw (ga @y @wj) trivial ?_
    all_goals exact w
 have R:qB c own=tN c:=by unfold qB;rw[K];exact TU _
 rw[R];clear R K cR;refine bL ?_
 repeat' first|refine ak (fun _=> ?_) fun _=> ?_|refine bb trivial trivial ?_|exact ba trivial trivial|fail
 all_goals first|(unfold tN;simp_all;done)|(unfold tN;simp_all;omega)|trace_state
end Go.Proofs.Q
namespace Go.Proofs.Q
open Go Go.Ab Go.Bb
def rV:CF:=⟨72, (.seq (fo [o0 4 (.mov (.c (.nil 32))),o7 5 0]) (.seq (.seq (fo [om 15 0,o6 16 51 [.t 15],om 17 1,o6 18 50 [.t 16,.t 17],o0 19 (.not (.t 18))]) (.cond (.t 19) (.seq (fo [o0 20 (.bsf 32 0 [] []),om 4 20,o7 5 7]) .ret) .skip)) (.seq (fo [o0 21 (.bsf 32 0 [] []),om 6 21]) (.seq (.seq (fo [o7 7 0]) (.block 0 (.loop (.trim [7,1,6,0] (.seq (.seq (fo [om 22 7,om 23 1,o9 24 0 23,o4 25 .lss 22 24]) (.cond (.t 25) .skip (.exit 0))) (.seq (.block 1 (fo [om 28 6,om 29 1,om 30 7,oi 31 32 29 30,o2 32 32 31,o6 33 80 [.t 28,.t 32],om 6 33])) (fo [om 26 7,o5 27 .add 26 1,om 7 27]))))))) (.seq (.seq (fo [o7 8 0]) (.block 2 (.loop (.trim [8,0,6] (.seq (.seq (fo [om 34 8,om 35 0,o9 36 0 35,o4 37 .lss 34 36]) (.cond (.t 37) .skip (.exit 2))) (.seq (.block 3 (.seq (fo [om 40 6,om 9 40]) (.seq (.seq (fo [o7 10 0]) (.block 4 (.loop (.trim [10,9,6,0,8] (.seq (.seq (fo [om 41 10,om 42 6,o9 43 0 42,o4 44 .lss 41 43]) (.cond (.t 44) .skip (.exit 4))) (.seq (.block 5 (.seq (fo [om 48 0,om 49 6,om 50 10,oi 51 32 49 50,o2 52 32 51,o6 53 21 [.t 48,.t 52],om 47 53,oe 54 47 0,oe 55 47 1,o0 11 (.box (.c (.agg iY))),o8 5 11 54,om 12 55]) (.seq (fo [o2 56 5 11,o6 57 42 [.t 56],om 13 57]) (.seq (fo [o7 14 0]) (.block 6 (.loop (.trim [14,13,9,10,6,0,8] (.seq (.seq (fo [om 58 14,om 59 13,o9 60 0 59,o4 61 .lss 58 60]) (.cond (.t 61) .skip (.exit 6)))
 (.seq (.block 7 (fo [om 64 9,om 65 13,om 66 14,oi 67 32 65 66,o2 68 32 67,o6 69 80 [.t 64,.t 68],om 9 69])) (fo [om 62 14,o5 63 .add 62 1,om 14 63])))))))))) (fo [om 45 10,o5 46 .add 45 1,om 10 46]))))))) (fo [om 70 9,om 6 70])))) (fo [om 38 8,o5 39 .add 38 1,om 8 39]))))))) (.seq (fo [om 71 6,om 4 71,o7 5 0]) .ret)))))),[.tmp 4,.tmp 5]⟩
theorem Jk:aG Tryz.prog [100020,100021] 56=some rV.erase:=by kernel_rfl
def rX:CF:=⟨55, (.seq (fo [o0 4 (.mov (.c (.nil 32))),o7 5 0]) (.seq (.seq (fo [om 11 0,o6 12 51 [.t 11],om 13 1,o6 14 50 [.t 12,.t 13],o0 15 (.not (.t 14))]) (.cond (.t 15) (.seq (fo [o0 16 (.bsf 32 0 [] []),om 4 16,o7 5 7]) .ret) .skip)) (.seq (fo [o0 17 (.bsf 32 0 [] []),om 6 17]) (.seq (.seq (fo [o7 7 0]) (.block 0 (.loop (.trim [1,6,0,7] (.seq (.seq (fo [om 18 7,om 19 0,o9 20 0 19,o4 21 .lss 18 20]) (.cond (.t 21) .skip (.exit 0))) (.seq (.block 1 (.seq (fo [om 25 0,om 26 0,om 27 7,oi 28 37 26 27,o1 29 0 28,o2 30 32 29,o0 31 (.bsf 32 1 cN [(0,32,(.t 30))]),o6 32 56 [.t 25,.t 31],om 24 32,oe 33 24 0,oe 34 24 1,om 8 33,om 9 34]) (.seq (fo [o7 10 0]) (.block 2 (.loop (.trim [10,7,0,6,1,8] (.seq (.seq (fo [om 35 10,om 36 1,o9 37 0 36,o4 38 .lss 35 37]) (.cond (.t 38) .skip (.exit 2))) (.seq (.block 3 (.seq (fo [om 41 8,om 42 1,om 43 10,oi 44 32 42 43,o2 45 32 44,o6 46 23 [.t 41,.t 45]]) (.cond (.t 46) (fo [om 47 6,om 48 0,om 49 7,oi 50 37 48 49,o1 51 0 50,o2 52 32 51,o6 53 80 [.t 47,.t 52],om 6 53]) .skip))) (fo [om 39 10,o5 40 .add 39 1,om 10 40]))))))))) (fo [om 22 7,o5 23 .add 22 1,om 7 23]))))))) (.seq (fo [om 54 6,om 4 54,o7 5 0]) .ret))))),[.tmp 4,.tmp 5]⟩
theorem Jq:aG Tryz.prog [100016,100017,100031] 47=some rX.erase:=by kernel_rfl
def AQ:CF:=⟨42, (.seq (fo [o0 4 (.mov xF)]) (.seq (.seq (fo [om 6 0,o9 7 0 6,om 8 1,o9 9 0 8,o4 10 .neq 7 9]) (.cond (.t 10) (.seq (fo [o0 4 (.mov xF)]) .ret) .skip)) (.seq (.seq (fo [o7 5 0]) (.block 0 (.loop (.trim [5,1,0] (.seq (.seq (fo [om 11 5,om 12 0,o9 13 0 12,o4 14 .lss 11 13]) (.cond (.t 14) .skip (.exit 0))) (.seq (.block 1 (.seq (.ops true [0,0,3,7,15,0,0,96,224,480,1023,2047,4095,4095,16383,32767,65535,4095,4095,397311,921599,1970175,4194303,8388607,16777215] [om 17 0,om 18 5,oi 19 37 17 18,o1 20 0 19,o2 21 32 20,om 22 1,om 23 5,oi 24 37 22 23,o1 25 0 24,o2 26 32 25,o0 27 (.eqa true dD true (.t 21) (.t 26)),om 28 27,oh 29 28 false 0,oh 30 28 false 5,og 31 28 false (.iad 37 (.t 29) (.t 30)),og 32 28 false (.fad 32 (.t 31)),og 33 28 false (.ld (some 5) (.t 32)),oh 34 28 false 1,oh 35 28 false 5,og 36 28 false (.iad 37 (.t 34) (.t 35)),og 37 28 false (.fad 32 (.t 36)),og 38 28 false (.ld (some 5) (.t 37)),og 39 28 false (.call (.fn 32) [.t 33,.t 38]),og 40 28 false (.not (.t 39)),o0 41 (.pick (.t 28) xT (.t 40))]) (.cond (.t 41) (.seq (fo [o0 4 (.mov xF)]) .ret) .skip))) (fo [om 15 5,o5 16 .add 15 1,om 5 16]))))))) (.seq (fo [o0 4 (.mov xT)]) .ret)))),[.tmp 4]⟩
theorem Jp:aG Tryz.prog [] 16=some AQ.erase:=by kernel_rfl
def AL:CF:=⟨5, (.seq (fo [o0 2 (.mov xF)]) (.seq (fo [om 3 0,o6 4 71 [.t 3,(xi 8)],om 2 4]) .ret)),[.tmp 2]⟩
theorem To:aG Tryz.prog [] 35=some AL.erase:=by kernel_rfl
def AN:CF:=⟨70, (.seq (fo [o0 4 (.mov xF)]) (.seq (fo [o7 5 0]) (.seq (.seq (fo [o7 6 0]) (.block 0 (.loop (.trim [6,0,5,1] (.seq (.seq (fo [om 8 6,om 9 0,o9 10 0 9,o4 11 .lss 8 10,om 12 11,oh 13 12 true 6,oh 14 12 true 1,og 15 12 true (.bin .leq (.t 13) (.t 14)),o0 16 (.pick (.t 12) (.t 15) xF)]) (.cond (.t 16) .skip (.exit 0))) (.seq (.block 1 (.seq (.seq (fo [om 19 0,om 20 6,oi 21 37 19 20,o1 22 32 21,o2 23 5 22,o6 24 18 [.t 23]]) (.cond (.t 24) (.seq (fo [o0 4 (.mov xT)]) .ret) .skip)) (.seq (fo [o7 7 0]) (.block 2 (.loop (.trim [7,6,0,5,1] (.seq (.seq (fo [om 25 7,om 26 0,om 27 6,oi 28 37 26 27,o1 29 32 28,o1 30 4 29,o3 31 30,o9 32 0 31,o4 33 .lss 25 32]) (.cond (.t 33) .skip (.exit 2))) (.seq (.block 3 (.ops true [0,1,0,0,12,28,60,124,0,508,1020,2044,4092,8191,0,0,49152,114688,245760,507904,0,2080768,4177920,8372224,16760832,33554431,67108863] [om 36 5,o5 37 .add 36 1,om 38 0,om 39 6,oi 40 37 38 39,o1 41 32 40,o1 42 4 41,o3 43 42,om 44 7,oi 45 139 43 44,o1 46 137 45,o3 47 46,o9 48 0 47,o4 49 .add 37 48,om 50 0,om 51 6,oi 52 37 50 51,o1 53 32 52,o1 54 4 53,o3 55 54,om 56 7,oi 57 139 55 56,o1 58 138 57,o3 59 58,o9 60 0 59,o4 61 .add 49 60,om 5 61])) (fo [om 34 7,o5 35 .add 34 1,om 7 35]))))))))) (fo [om 17 6,o5 18 .add 17 1,om 6 18]))))))) (.seq (fo [om 62 0,o9 63 0 62,om 64 1,o4 65 .gtr 63 64,om 66 65,oh 67 66 false 5,og 68 66 false (.bin .gtr (.t 67) (xi 300)),o0 69 (.pick (.t 66) xT (.t 68)),om 4 69]) .ret)))),[.tmp 4]⟩
theorem Jo:aG Tryz.prog [] 71=some AN.erase:=by kernel_rfl
def rW:CF:=⟨11, (.seq (fo [o0 2 (.mov xF)]) (.seq (fo [om 3 0,o6 4 35 [.t 3],o0 5 (.not (.t 4)),om 6 5,oh 7 6 true 0,og 8 6 true (.call (.fn 20) [.t 7]),og 9 6 true (.bin .eql (.t 8) (xi 0)),o0 10 (.pick (.t 6) (.t 9) xF),om 2 10]) .ret)),[.tmp 2]⟩
theorem Jl:aG Tryz.prog [] 10=some rW.erase:=by kernel_rfl
def B3:CF:=⟨18, (.seq (fo [ox 3 1,o0 4 (.mov xF)]) (.seq (.seq (fo [o7 5 0]) (.block 0 (.loop (.trim [5,3,0] (.seq (.seq (fo [om 6 5,om 7 0,o9 8 0 7,o4 9 .lss 6 8]) (.cond (.t 9) .skip (.exit 0))) (.seq (.block 1 (.seq (.ops true [0,0,3,7,0,31] [om 12 0,om 13 5,oi 14 32 12 13,o2 15 32 14,o2 16 32 3,o0 17 (.eqa true dD false (.t 15) (.t 16))]) (.cond (.t 17) (.seq (fo [o0 4 (.mov xT)]) .ret) .skip))) (fo [om 10 5,o5 11 .add 10 1,om 5 11]))))))) (.seq (fo [o0 4 (.mov xF)]) .ret))),[.tmp 4]⟩
theorem Ju:aG Tryz.prog [100003] 41=some B3.erase:=by kernel_rfl
def B4:CF:=⟨30, (.seq (fo [o0 4 (.mov (.c (.nil 37)))]) (.seq (fo [o0 7 (.bsl false 44 37 0 [] []),om 5 7]) (.seq (.seq (fo [o7 6 0]) (.block 0 (.loop (.trim [6,0,5,1] (.seq (.seq (fo [om 8 6,om 9 0,o9 10 0 9,o4 11 .lss 8 10]) (.cond (.t 11) .skip (.exit 0))) (.seq (.block 1 (.seq (fo [om 14 1,om 15 0,om 16 6,oi 17 37 15 16,o1 18 0 17,o2 19 32 18,o6 20 41 [.t 14,.t 19],o0 21 (.not (.t 20))]) (.cond (.t 21) (fo [om 22 5,om 23 0,om 24 6,oi 25 37 23 24,o2 26 37 25,o0 27 (.bsf 37 1 sJ [(0,37,(.t 26))]),o0 28 (.app false 44 37 120 (.t 22) (.t 27)),om 5 28]) .skip))) (fo [om 12 6,o5 13 .add 12 1,om 6 13]))))))) (.seq (fo [om 29 5,om 4 29]) .ret)))),[.tmp 4]⟩
theorem Tz:aG Tryz.prog [100027] 43=some B4.erase:=by kernel_rfl
def rZ:CF:=⟨37, (.seq (fo [ox 3 1,o0 4 (.mov (.c (.nil 37))),o7 5 0]) (.seq (.seq (fo [om 10 0,o2 11 32 3,o6 12 21 [.t 10,.t 11],om 9 12,oe 13 9 0,oe 14 9 1,o0 6 (.box (.c (.agg iY))),o8 5 6 13,om 7 14]) (.seq (fo [om 15 7,o0 16 (.not (.t 15))]) (.cond (.t 16) (.seq (fo [o0 17 (.bsf 37 0 [] []),om 4 17,o7 5 7]) .ret) .skip))) (.seq (.seq (fo [o7 8 0]) (.block 0 (.loop (.trim [8,3,0] (.seq (.seq (fo [om 18 8,om 19 0,o9 20 0 19,o4 21 .lss 18 20]) (.cond (.t 21) .skip (.exit 0))) (.seq (.block 1 (.seq (.ops true [0,0,3,7,15,31,0,127] [om 24 0,om 25 8,oi 26 37 24 25,o1 27 32 26,o2 28 5 27,o6 29 42 [.t 28],o2 30 32 3,o6 31 41 [.t 29,.t 30]]) (.cond (.t 31) (.seq (fo [o0 32 (.bsf 37 0 [] []),om 4 32,o7 5 19]) .ret) .skip))) (fo [om 22 8,o5 23 .add 22 1,om 8 23]))))))) (.seq (fo [om 33 0,o2 34 32 3,o0 35 (.bsf 32 1 cN [(0,32,(.t 34))]),o6 36 43 [.t 33,.t 35],om 4 36,o7 5 0]) .ret)))),[.tmp 4,.tmp 5]⟩
theorem Jt:aG Tryz.prog [100003,100017,100032,100035] 13=some rZ.erase:=by kernel_rfl
def B1:CF:=⟨46, (.seq (fo [o0 4 (.mov (.c (.nil 37))),o0 5 (.mov (.c (.nil 32))),o7 6 0]) (.seq (.seq (fo [o7 7 0]) (.block 0 (.loop (.trim [7,1,0] (.seq (.seq (fo [om 12 7,om 13 1,o9 14 0 13,o4 15 .lss 12 14]) (.cond (.t 15) .skip (.exit 0))) (.seq (.block 1 (.seq (fo [om 19 0,om 20 1,om 21 7,oi 22 32 20 21,o2 23 32 22,o6 24 21 [.t 19,.t 23],om 18 24,oe 25 18 0,oe 26 18 1,o0 8 (.box (.c (.agg iY))),o8 5 8 25,om 9 26]) (.seq (fo [om 27 9,o0 28 (.not (.t 27))]) (.cond (.t 28) (.seq (fo [o0 29 (.bsf 37 0 [] []),o0 30 (.bsf 32 0 [] []),om 4 29,om 5 30,o7 6 7]) .ret) .skip)))) (fo [om 16 7,o5 17 .add 16 1,om 7 17]))))))) (.seq (fo [om 32 0,om 33 1,o6 34 47 [.t 32,.t 33],om 31 34,oe 35 31 0,oe 36 31 1,om 10 35,om 11 36]) (.seq (.seq (fo [om 37 11,o5 38 .neq 37 0]) (.cond (.t 38) (.seq (fo [o0 39 (.bsf 37 0 [] []),o0 40 (.bsf 32 0 [] []),om 41 11,om 4 39,om 5 40,om 6 41]) .ret) .skip)) (.seq (fo [om 42 0,om 43 10,o6 44 43 [.t 42,.t 43],om 45 10,om 4 44,om 5 45,o7 6 0]) .ret))))),[.tmp 4,.tmp 5,.tmp 6]⟩
theorem Ty:aG Tryz.prog [100029,100030,100039,100040] 15=some B1.erase:=by kernel_rfl
end Go.Proofs.Q
