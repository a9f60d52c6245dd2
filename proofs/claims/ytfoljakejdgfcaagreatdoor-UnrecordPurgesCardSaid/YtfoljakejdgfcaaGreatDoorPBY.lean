/- Part of a proof. -/
import Derived.Test.YtfoljakejdgfcaaGreatDoorPBX
import Derived.Test.YtfoljakejdgfcaaGreatDoorPBW
set_option linter.unusedVariables false
set_option linter.unusedSimpArgs false
namespace Go.Proofs.Q
open Go Go.Bb Go.RowKit Go.Proofs.Lg
open Go.Ab (D RD)
def jf:CC:=(fo [o0 5 (.box (.c (.agg gG))),oN (.st 172 (.t 5) (.t 12))])
def iS:CC:=(.block 1
 (.seq
 (.seq
 (fo [o0 13 (.ld none (.t 3)),o0 14 (.fad 0 (.t 5)),o0 15 (.ld (some 33) (.t 14)),o0 16 (.lkp true dv (.d (.sc (.bool false))) false (.t 13) (.t 15))])
 (.cond (.t 16)
 (.exit 1)
 .skip))
 (.seq
 (fo [o0 17 (.fad 171 (.t 5)),o0 18 (.ld none (.t 17)),o0 19 (.len 0 (.t 18)),o0 20 (.mov (xi 0))])
 (.block 2
 (.loop
 (.trim [20,3,5,4,18,19]
 (.seq
 (fo [o0 21 (.bin .lss (.t 20) (.t 19))])
 (.seq
 (.cond (.t 21)
 .skip
 (.exit 2))
 (.seq
 (.block 3
 (.seq
 (fo [o0 22 (.iad 33 (.t 18) (.t 20)),o0 23 (.ld (some 33) (.t 22)),o0 7 (.box (.c (.agg dW))),oN (.st 33 (.t 7) (.t 23))])
 (.seq
 (fo [o0 24 (.ld none (.t 4)),o0 25 (.ld (some 33) (.t 7)),o0 27 (.fad 0 (.t 5)),o0 28 (.ld (some 33) (.t 27)),o0 29 (.bsf 33 1 dW [(0,33,(.t 28))]),o0 30 (.men true dv (.nil 33) (.t 24) (.t 25)),o0 26 (.ext (.t 30) 0),o0 31 (.app false 60 33 40 (.t 26) (.t 29)),o0 32 (.ext (.t 30) 1),oN (.mst (.t 24) (.t 32) (.t 31))])
 (.seq
 (fo [o0 33 (.fad 33 (.t 5)),o0 34 (.ld none (.t 33)),o0 35 (.bin .eql (.t 34) (xi 7))])
 (.cond (.t 35)
 (fo [o0 36 (.ld none (.t 3)),o0 37 (.ld (some 33) (.t 7)),oN (.mup true dv (.t 36) (.t 37) xT)])
 .skip)))))
 (fo [o0 38 (.bin .add (.t 20) (xi 1)),om 20 38]))))))))))
structure KS(n:Nat)(b:List ar×fe)(M:MI)(c:Nat)(s:List aa):Prop where
 b3:s[n+1]?=some (.cells [.mp n])
 m0:s[n]?=some (.map true (cI (iF b.1)))
 b4:s[n+3]?=some (.cells [.mp (n+2)])
 t:TI (n+2) M b.2 s
 bd: ∀e∈b.2,e.2.length≤c
theorem KS.app{n:Nat}{b:List ar×fe}{M:MI}{c:Nat}{s:List aa}(h:KS n b M c s)(J:List aa):KS n b M c (s++J):=⟨bt h.b3 J,bt h.m0 J,bt h.b4 J,h.t.app J,h.bd⟩
theorem KS.set{n:Nat}{b:List ar×fe}{M:MI}{c:Nat}{s:List aa}(h:KS n b M c s){j:Nat}{o o':aa}(a:s[j]?=some o)(f:n+4≤j)(d:(∃cs,o= .cells cs)∨ ∃L,o= .loop L):KS n b M c (s.set j o'):=
 ⟨getSet h.b3 a8,getSet h.m0 a8,getSet h.b4 a8,h.t.setC a a8 (by rintro e z n rfl;rcases d with⟨_,h⟩|⟨_,h⟩<;>cases h),h.bd⟩
set_option maxHeartbeats 4000000 in
theorem PR{n i:Nat}{x:aJ}(c6:x.over.length≤1000){fr:Fr}{s:List aa}(hi:n+4≤i){X:List ar×fe}{M0:MI}{c:Nat}(hc:c≤1000000000000)(b9:KS n X M0 c s)(hL:s[i]?=some (.loop ⟨.ready,none,fr,[12],40,jf,iS⟩)){K:AV→List aa→Prop}
  (f3:Bb.look fr 3=some (.ptr (n+1) 0)) (f4:Bb.look fr 4=some (.ptr (n+3) 0))
  (hK: ∀M' s',KS n (if gC X.1 x.id=true then X else oL x x.over X) M' (c+x.over.length) s'→s'[i]?=some (.loop ⟨.ready,none,fr,[12],40,jf,iS⟩)→gJ (i+1) s s'→K (.d (dB true)) s'):gh Tryz.prog i [.d (.agg (aO x))] s K:=by
 have c1:=(aR.1 hL).1;unfold gh;rw[hL];refine⟨rfl,rfl,?_⟩;simp only[jf,putL,mc,uK]
 repeat' first|refine ak (fun _=> ?_) fun _=> ?_|refine aD ?_|simp only[cG,bJ,jI,ef,aL,wj,wy,qg,aC,reduceCtorEq,reduceIte,Nat.reduceAdd,Nat.reduceMul,Nat.reduceEqDiff,Nat.reduceLT,Nat.reduceLeDiff,Nat.reduceSub,ax,aB,ay,au]
 unfold jn;rw[bt hL];refine⟨rfl,?_⟩;have hT:=(b9.app [.cells ((aO x).map .d)]).set (o':= .loop ⟨.busy,none,fr,[12],40,jf,iS⟩) (bt hL _) hi (.inr ⟨_,rfl⟩);have a0:((s++[aa.cells (List.map AV.d (aO x))]).set i (.loop ⟨.busy,none,fr,[12],40,jf,iS⟩))[s.length]?=some (.cells ((aO x).map .d)):=getSet (by simp) a8
 have a5:((s++[aa.cells (List.map AV.d (aO x))]).set i (.loop ⟨.busy,none,fr,[12],40,jf,iS⟩))[i]?=some (.loop ⟨.busy,none,fr,[12],40,jf,iS⟩):=ed (bt hL _);have b2:gJ (i+1) s ((s++[aa.cells (List.map AV.d (aO x))]).set i (.loop ⟨.busy,none,fr,[12],40,jf,iS⟩)):=((gJ.refl _ s).app _).set (bt hL _) (.inl a8);dsimp only
 change bR _ _ iS _ _ ((s++[aa.cells (List.map AV.d (aO x))]).set i (.loop ⟨.busy,none,fr,[12],40,jf,iS⟩));generalize(s++[aa.cells (List.map AV.d (aO x))]).set i (.loop ⟨.busy,none,fr,[12],40,jf,iS⟩)=T at hT a0 a5 b2⊢;obtain⟨n5,c3⟩: ∃n5,n5=s.length:=⟨_,rfl⟩
 rw[←c3]at a0 c1⊢;have a9:=vi x.id (iF X.1) 0;have hq:=OY X.1 x.id;obtain⟨q,c0⟩: ∃q,q=gB x.id (iF X.1) 0:=⟨_,rfl⟩
 rw[←c0]at a9 hq;have h3:=hT.b3;have h0:=hT.m0;simp only[iS];have Z: ∀(M':MI) (s':List aa),KS n (if gC X.1 x.id=true then X else oL x x.over X) M' (c+x.over.length) s'→s'[i]?=some (.loop ⟨.busy,none,fr,[12],40,jf,iS⟩)→gJ (i+1) s s'→jW i K .normal s':=fun M' s' k1 k2 k3=>by
  unfold jW;rw[k2];exact hK M' _ (k1.set k2 hi (.inr ⟨_,rfl⟩)) (ed k2) (k3.set k2 (.inl a8))
 by_cases b1:gC X.1 x.id=true
 ·rw[b1]at hq
  repeat' first|refine ak (fun _=> ?_) fun _=> ?_|refine aD ?_|simp only[cG,f3,h3,a0,h0,a9,hq,bJ,aL,wj,wy,qg,aC,reduceCtorEq,reduceIte,Nat.reduceAdd,Nat.reduceMul,Nat.reduceEqDiff,Nat.reduceLT,Nat.reduceLeDiff,Nat.reduceSub,ax,aB,ay,au]
  refine Z M0 T ?_ a5 b2;rw[if_pos b1];exact⟨hT.b3,hT.m0,hT.b4,hT.t,fun e he=>by have:=hT.bd e he;omega⟩
 ·rw[show gC X.1 x.id=false by simpa using b1]at hq;rw[if_neg b1]at Z
  repeat' first|refine ak (fun _=> ?_) fun _=> ?_|refine aD ?_|simp only[cG,f3,f4,h3,a0,h0,a9,hq,bJ,aL,wj,wy,qg,aC,reduceCtorEq,reduceIte,Nat.reduceAdd,Nat.reduceMul,Nat.reduceEqDiff,Nat.reduceLT,Nat.reduceLeDiff,Nat.reduceSub,ax,aB,ay,au]
  refine aX.overI x.over (fun k (b:(List ar×fe)×MI×List aa)=>[(20,iN k)]) (fun _ b=>b.2.2) (fun r b=>oL x r b.1) (oL x x.over X) (fun k b=>KS n b.1 b.2.1 (c+k) b.2.2∧b.2.2[n5]?=some (.cells ((aO x).map .d))∧b.2.2[i]?=some (.loop ⟨.busy,none,fr,[12],40,jf,iS⟩)∧gJ (i+1) s b.2.2) (X,M0,T) a8 (fr0:=[(20,iN 0),(3,.ptr (n+1) 0),(5,.ptr n5 0),(4,.ptr (n+3) 0),(18,.d (.sl 33 (x.over.map ab))),(19,.d (dI x.over.length))]) ?_ aA rfl rfl ⟨hT,a0,a5,b2⟩ (fun k b y a2 hk hd hw Y hJ=> ?_) (fun b hd Y hJ=> ?_)
  ·simp only[dV,List.filterMap_cons,List.filterMap_nil,Bb.look,f3,f4,eY,if_true,if_false,reduceIte,Nat.reduceEqDiff];rfl
  ·obtain⟨b,M,st⟩:=b;obtain⟨⟨B,A,C,E,a6⟩,m,G,H⟩:=hJ;dsimp only at Y B A C E a6 m G H;clear hT a0 a5 b2 h3 h0 a9 hq c0 Z hK hL b9;rw[oL]at Y;have I:(st++[aa.cells ((ab y).map .d)])[st.length]?=some (.cells ((ab y).map .d)):=by simp
   have E:=E.app [aa.cells ((ab y).map .d)];have B:=bt B [aa.cells ((ab y).map .d)];have A:=bt A [aa.cells ((ab y).map .d)];have C:=bt C [aa.cells ((ab y).map .d)];have c5:n5<st.length:=(aR.1 m).1;have m:=bt m [aa.cells ((ab y).map .d)];have G:=bt G [aa.cells ((ab y).map .d)]
   have H:=H.app [aa.cells ((ab y).map .d)];have a1: ∀e∈iQ b.2 y [x.id],e.2.length≤c+(k+1):=fun e he=>by have:=N3 (news:=[x.id]) a6 e he;simpa[jv]using this
   have b5:br 1 40=true:=by decide
   have a7:[ab x.id].flatten=ab x.id:=by simp
   have P:dC dv (cJ y) (cI M) 0=some (gB y M 0):=vi y M 0;have V:=vi y (iF b.1) 0;have N:=Y1 b.1 y;obtain⟨q2,c4⟩: ∃q2,q2=gB y (iF b.1) 0:=⟨_,rfl⟩
   rw[←c4]at V N;obtain⟨g,W⟩: ∃g,g=st++[aa.cells ((ab y).map .d)]:=⟨_,rfl⟩
   rw[←W]at E B A C m G H I;have p:=E.map;by_cases h7:x.kind=7
   ·rw[if_pos h7]at Y;rcases E.find y with⟨h1,U⟩|⟨j,v,l,h1,U,h3,h4⟩
    ·rw[h1]at P;have f:=E.new1 (x:=x.id) (M':=M++[(y,.tsl g.length 33 [ab x.id])]) (o:= .map true (cI (M++[(y,.nil 33)]))) ⟨_,rfl⟩ (.inl ⟨U,rfl⟩);have w:(g.set (n+2) (.map true (cI (M++[(y,.nil 33)])))++[aa.row 60 33 1])[n+2]?=some (.map true (cI (M++[(y,.nil 33)]))):=bt (ed p) _;have Q:(cI (M++[(y,.nil 33)]))[M.length]?=some (cJ y,.nil 33):=xr (by simp)
     have O:(cI (M++[(y,.nil 33)])).set M.length (cJ y,.tsl g.length 33 [ab x.id])=cI (M++[(y,.tsl g.length 33 [ab x.id])]):=by rw[ow];simp
     have a: ∀(j:Nat) (o:aa),j≠n+2→g[j]?=some o→((g.set (n+2) (.map true (cI (M++[(y,.nil 33)])))++[aa.row 60 33 1]).set (n+2) (.map true (cI (M++[(y,.tsl g.length 33 [ab x.id])]))))[j]?=some o:=fun j o hj h=>getSet (bt (getSet h (Ne.symm hj)) _) (Ne.symm hj)
     have u:gJ (i+1) s ((g.set (n+2) (.map true (cI (M++[(y,.nil 33)])))++[aa.row 60 33 1]).set (n+2) (.map true (cI (M++[(y,.tsl g.length 33 [ab x.id])])))):=((H.set p (.inl a8)).app _).set w (.inl a8)
     obtain⟨F,J⟩: ∃F,F=((g.set (n+2) (.map true (cI (M++[(y,.nil 33)])))++[aa.row 60 33 1]).set (n+2) (.map true (cI (M++[(y,.tsl g.length 33 [ab x.id])])))):=⟨_,rfl⟩
     rw[←J]at f u;simp only[←J]at a;have o0:=a n _ a8 A;have o1:=a (n+1) _ a8 B;have o3:=a (n+3) _ a8 C;have o5:=a n5 _ a8 m;have oi:=a i _ a8 G;have o7:=a st.length _ a8 I
     repeat' first|refine ak (fun _=> ?_) fun _=> ?_|refine aD ?_|simp only[hd,hw,a2,h7,beq_self_eq_true,V,N,fS,aM,bJ,aL,←W,←J,I,A,B,C,m,p,P,CT,Gp,w,Q,O,b5,a7,iB,o0,o1,o3,o5,o7,wj,wy,qg,aC,reduceCtorEq,reduceIte,Nat.reduceAdd,Nat.reduceMul,Nat.reduceEqDiff,Nat.reduceLT,Nat.reduceLeDiff,Nat.reduceSub,ax,aB,ay,au]
     exact⟨((tc b.1 y,iQ b.2 y [x.id]),_,_),rfl,Y,⟨getSet o1 a8,ed o0,getSet o3 a8,f.setC o0 a8 (by intro e z n h;cases h),a1⟩,getSet o5 a8,getSet oi a8,u.set o0 (.inl a8)⟩
    ·rw[h1]at P;have a4:(cI M).set j (cJ y,v)=cI M:=by
      rw[ow];congr 1;apply fy;intro i;by_cases e:i=j
      ·subst e;rw[dJ (aR.1 U).1,U]
      ·rw[bs (Ne.symm e)]
     have D:g.set (n+2) (.map true (cI M))=g:=wv p;have Q:=xr U;rcases h4 with⟨rfl,rfl⟩|⟨r,rfl,S⟩
     ·have f:=E.new1 (x:=x.id) (M':=M.set j (y,.tsl g.length 33 [ab x.id])) (o:= .map true (cI M)) ⟨_,rfl⟩ (.inr ⟨j,_,U,h3,rfl⟩);rw[D]at f;have w:(g++[aa.row 60 33 1])[n+2]?=some (.map true (cI M)):=bt p _;have O:(cI M).set j (cJ y,.tsl g.length 33 [ab x.id])=cI (M.set j (y,.tsl g.length 33 [ab x.id])):=ow _ _ _ _
      have a: ∀(R:Nat) (o:aa),R≠n+2→g[R]?=some o→((g++[aa.row 60 33 1]).set (n+2) (.map true (cI (M.set j (y,.tsl g.length 33 [ab x.id])))))[R]?=some o:=fun R o hj h=>getSet (bt h _) (Ne.symm hj);have u:gJ (i+1) s ((g++[aa.row 60 33 1]).set (n+2) (.map true (cI (M.set j (y,.tsl g.length 33 [ab x.id]))))):=(H.app _).set w (.inl a8)
      obtain⟨F,J⟩: ∃F,F=((g++[aa.row 60 33 1]).set (n+2) (.map true (cI (M.set j (y,.tsl g.length 33 [ab x.id]))))):=⟨_,rfl⟩
      rw[←J]at f u;simp only[←J]at a;have o0:=a n _ a8 A;have o1:=a (n+1) _ a8 B;have o3:=a (n+3) _ a8 C;have o5:=a n5 _ a8 m;have oi:=a i _ a8 G;have o7:=a st.length _ a8 I
      repeat' first|refine ak (fun _=> ?_) fun _=> ?_|refine aD ?_|simp only[hd,hw,a2,h7,beq_self_eq_true,V,N,fS,aM,bJ,aL,←W,←J,I,A,B,C,m,p,P,a4,D,w,Q,O,b5,a7,o0,o1,o3,o5,o7,wj,wy,qg,aC,reduceCtorEq,reduceIte,Nat.reduceAdd,Nat.reduceMul,Nat.reduceEqDiff,Nat.reduceLT,Nat.reduceLeDiff,Nat.reduceSub,ax,aB,ay,au]
      exact⟨((tc b.1 y,iQ b.2 y [x.id]),_,_),rfl,Y,⟨getSet o1 a8,ed o0,getSet o3 a8,f.setC o0 a8 (by intro e z n h;cases h),a1⟩,getSet o5 a8,getSet oi a8,u.set o0 (.inl a8)⟩
     ·have f:=E.grow (news:=[x.id]) U h3 S;have c2:l.length≤c+k:=a6 (y,l) (bT h3);have b6:br (l.length+1) 40=true:=room_le a8 a8;have b7:r≠n+2:=fun e=>by subst e;rw[p]at S;cases S
      have b8:fc 60 33 l.length g[r]?=true:=by rw[S];simp[fc]
      have w:(g.set r (.row 60 33 (l.length+1)))[n+2]?=some (.map true (cI M)):=getSet p b7;have O:(cI M).set j (cJ y,.tsl r 33 (l.map ab++[ab x.id]))=cI (M.set j (y,.tsl r 33 (l.map ab++[ab x.id]))):=ow _ _ _ _;rw[eX,bO,eg,qP]at f
      have a: ∀(R:Nat) (o:aa),R≠n+2→(∀e z n,o≠ .row e z n)→g[R]?=some o→((g.set r (.row 60 33 (l.length+1))).set (n+2) (.map true (cI (M.set j (y,.tsl r 33 (l.map ab++[ab x.id]))))))[R]?=some o:=fun R o hj ho h=>getSet (getSet h (fun e=>by subst e;rw[h]at S;exact ho _ _ _ (az S))) (Ne.symm hj)
      have u:gJ (i+1) s ((g.set r (.row 60 33 (l.length+1))).set (n+2) (.map true (cI (M.set j (y,.tsl r 33 (l.map ab++[ab x.id])))))):=(H.set S (.inr ⟨fun cs e=>(by cases e),fun L e=>(by cases e)⟩)).set w (.inl a8);obtain⟨F,J⟩: ∃F,F=((g.set r (.row 60 33 (l.length+1))).set (n+2) (.map true (cI (M.set j (y,.tsl r 33 (l.map ab++[ab x.id])))))):=⟨_,rfl⟩
      rw[←J]at f u;simp only[←J]at a;have o0:=a n _ a8 (by intro e z n h;cases h) A;have o1:=a (n+1) _ a8 (by intro e z n h;cases h) B;have o3:=a (n+3) _ a8 (by intro e z n h;cases h) C;have o5:=a n5 _ a8 (by intro e z n h;cases h) m;have oi:=a i _ a8 (by intro e z n h;cases h) G
      have o7:=a st.length _ a8 (by intro e z n h;cases h) I
      repeat' first|refine ak (fun _=> ?_) fun _=> ?_|refine aD ?_|simp only[hd,hw,a2,h7,beq_self_eq_true,V,N,fS,aM,bJ,aL,←W,←J,I,A,B,C,m,p,P,a4,D,w,Q,O,S,b8,b6,o0,o1,o3,o5,o7,wj,wy,qg,aC,reduceCtorEq,reduceIte,Nat.reduceAdd,Nat.reduceMul,Nat.reduceEqDiff,Nat.reduceLT,Nat.reduceLeDiff,Nat.reduceSub,ax,aB,ay,au]
      exact⟨((tc b.1 y,iQ b.2 y [x.id]),_,_),rfl,Y,⟨getSet o1 a8,ed o0,getSet o3 a8,f.setC o0 a8 (by intro e z n h;cases h),a1⟩,getSet o5 a8,getSet oi a8,u.set o0 (.inl a8)⟩
   ·rw[if_neg h7]at Y;have e7:(x.kind==7)=false:=by simpa using h7
    rcases E.find y with⟨h1,U⟩|⟨j,v,l,h1,U,h3,h4⟩
    ·rw[h1]at P;have f:=E.new1 (x:=x.id) (M':=M++[(y,.tsl g.length 33 [ab x.id])]) (o:= .map true (cI (M++[(y,.nil 33)]))) ⟨_,rfl⟩ (.inl ⟨U,rfl⟩);have w:(g.set (n+2) (.map true (cI (M++[(y,.nil 33)])))++[aa.row 60 33 1])[n+2]?=some (.map true (cI (M++[(y,.nil 33)]))):=bt (ed p) _;have Q:(cI (M++[(y,.nil 33)]))[M.length]?=some (cJ y,.nil 33):=xr (by simp)
     have O:(cI (M++[(y,.nil 33)])).set M.length (cJ y,.tsl g.length 33 [ab x.id])=cI (M++[(y,.tsl g.length 33 [ab x.id])]):=by rw[ow];simp
     have a: ∀(j:Nat) (o:aa),j≠n+2→g[j]?=some o→((g.set (n+2) (.map true (cI (M++[(y,.nil 33)])))++[aa.row 60 33 1]).set (n+2) (.map true (cI (M++[(y,.tsl g.length 33 [ab x.id])]))))[j]?=some o:=fun j o hj h=>getSet (bt (getSet h (Ne.symm hj)) _) (Ne.symm hj)
     have u:gJ (i+1) s ((g.set (n+2) (.map true (cI (M++[(y,.nil 33)])))++[aa.row 60 33 1]).set (n+2) (.map true (cI (M++[(y,.tsl g.length 33 [ab x.id])])))):=((H.set p (.inl a8)).app _).set w (.inl a8)
     obtain⟨F,J⟩: ∃F,F=((g.set (n+2) (.map true (cI (M++[(y,.nil 33)])))++[aa.row 60 33 1]).set (n+2) (.map true (cI (M++[(y,.tsl g.length 33 [ab x.id])])))):=⟨_,rfl⟩
     rw[←J]at f u;simp only[←J]at a;have o0:=a n _ a8 A;have o1:=a (n+1) _ a8 B;have o3:=a (n+3) _ a8 C;have o5:=a n5 _ a8 m;have oi:=a i _ a8 G;have o7:=a st.length _ a8 I
     repeat' first|refine ak (fun _=> ?_) fun _=> ?_|refine aD ?_|simp only[hd,hw,a2,e7,V,N,fS,aM,bJ,aL,←W,←J,I,A,B,C,m,p,P,CT,Gp,w,Q,O,b5,a7,iB,o0,o1,o3,o5,o7,wj,wy,qg,aC,reduceCtorEq,reduceIte,Nat.reduceAdd,Nat.reduceMul,Nat.reduceEqDiff,Nat.reduceLT,Nat.reduceLeDiff,Nat.reduceSub,ax,aB,ay,au]
     exact⟨((b.1,iQ b.2 y [x.id]),_,F),rfl,Y,⟨o1,o0,o3,f,a1⟩,o5,oi,u⟩
    ·rw[h1]at P;have a4:(cI M).set j (cJ y,v)=cI M:=by
      rw[ow];congr 1;apply fy;intro i;by_cases e:i=j
      ·subst e;rw[dJ (aR.1 U).1,U]
      ·rw[bs (Ne.symm e)]
     have D:g.set (n+2) (.map true (cI M))=g:=wv p;have Q:=xr U;rcases h4 with⟨rfl,rfl⟩|⟨r,rfl,S⟩
     ·have f:=E.new1 (x:=x.id) (M':=M.set j (y,.tsl g.length 33 [ab x.id])) (o:= .map true (cI M)) ⟨_,rfl⟩ (.inr ⟨j,_,U,h3,rfl⟩);rw[D]at f;have w:(g++[aa.row 60 33 1])[n+2]?=some (.map true (cI M)):=bt p _;have O:(cI M).set j (cJ y,.tsl g.length 33 [ab x.id])=cI (M.set j (y,.tsl g.length 33 [ab x.id])):=ow _ _ _ _
      have a: ∀(R:Nat) (o:aa),R≠n+2→g[R]?=some o→((g++[aa.row 60 33 1]).set (n+2) (.map true (cI (M.set j (y,.tsl g.length 33 [ab x.id])))))[R]?=some o:=fun R o hj h=>getSet (bt h _) (Ne.symm hj);have u:gJ (i+1) s ((g++[aa.row 60 33 1]).set (n+2) (.map true (cI (M.set j (y,.tsl g.length 33 [ab x.id]))))):=(H.app _).set w (.inl a8)
      obtain⟨F,J⟩: ∃F,F=((g++[aa.row 60 33 1]).set (n+2) (.map true (cI (M.set j (y,.tsl g.length 33 [ab x.id]))))):=⟨_,rfl⟩
      rw[←J]at f u;simp only[←J]at a;have o0:=a n _ a8 A;have o1:=a (n+1) _ a8 B;have o3:=a (n+3) _ a8 C;have o5:=a n5 _ a8 m;have oi:=a i _ a8 G;have o7:=a st.length _ a8 I
      repeat' first|refine ak (fun _=> ?_) fun _=> ?_|refine aD ?_|simp only[hd,hw,a2,e7,V,N,fS,aM,bJ,aL,←W,←J,I,A,B,C,m,p,P,a4,D,w,Q,O,b5,a7,o0,o1,o3,o5,o7,wj,wy,qg,aC,reduceCtorEq,reduceIte,Nat.reduceAdd,Nat.reduceMul,Nat.reduceEqDiff,Nat.reduceLT,Nat.reduceLeDiff,Nat.reduceSub,ax,aB,ay,au]
      exact⟨((b.1,iQ b.2 y [x.id]),_,F),rfl,Y,⟨o1,o0,o3,f,a1⟩,o5,oi,u⟩
     ·have f:=E.grow (news:=[x.id]) U h3 S;have c2:l.length≤c+k:=a6 (y,l) (bT h3);have b6:br (l.length+1) 40=true:=room_le a8 a8;have b7:r≠n+2:=fun e=>by subst e;rw[p]at S;cases S
      have b8:fc 60 33 l.length g[r]?=true:=by rw[S];simp[fc]
      have w:(g.set r (.row 60 33 (l.length+1)))[n+2]?=some (.map true (cI M)):=getSet p b7;have O:(cI M).set j (cJ y,.tsl r 33 (l.map ab++[ab x.id]))=cI (M.set j (y,.tsl r 33 (l.map ab++[ab x.id]))):=ow _ _ _ _;rw[eX,bO,eg,qP]at f
      have a: ∀(R:Nat) (o:aa),R≠n+2→(∀e z n,o≠ .row e z n)→g[R]?=some o→((g.set r (.row 60 33 (l.length+1))).set (n+2) (.map true (cI (M.set j (y,.tsl r 33 (l.map ab++[ab x.id]))))))[R]?=some o:=fun R o hj ho h=>getSet (getSet h (fun e=>by subst e;rw[h]at S;exact ho _ _ _ (az S))) (Ne.symm hj)
      have u:gJ (i+1) s ((g.set r (.row 60 33 (l.length+1))).set (n+2) (.map true (cI (M.set j (y,.tsl r 33 (l.map ab++[ab x.id])))))):=(H.set S (.inr ⟨fun cs e=>(by cases e),fun L e=>(by cases e)⟩)).set w (.inl a8);obtain⟨F,J⟩: ∃F,F=((g.set r (.row 60 33 (l.length+1))).set (n+2) (.map true (cI (M.set j (y,.tsl r 33 (l.map ab++[ab x.id])))))):=⟨_,rfl⟩
      rw[←J]at f u;simp only[←J]at a;have o0:=a n _ a8 (by intro e z n h;cases h) A;have o1:=a (n+1) _ a8 (by intro e z n h;cases h) B;have o3:=a (n+3) _ a8 (by intro e z n h;cases h) C;have o5:=a n5 _ a8 (by intro e z n h;cases h) m;have oi:=a i _ a8 (by intro e z n h;cases h) G
      have o7:=a st.length _ a8 (by intro e z n h;cases h) I
      repeat' first|refine ak (fun _=> ?_) fun _=> ?_|refine aD ?_|simp only[hd,hw,a2,e7,V,N,fS,aM,bJ,aL,←W,←J,I,A,B,C,m,p,P,a4,D,w,Q,O,S,b8,b6,o0,o1,o3,o5,o7,wj,wy,qg,aC,reduceCtorEq,reduceIte,Nat.reduceAdd,Nat.reduceMul,Nat.reduceEqDiff,Nat.reduceLT,Nat.reduceLeDiff,Nat.reduceSub,ax,aB,ay,au]
      exact⟨((b.1,iQ b.2 y [x.id]),_,F),rfl,Y,⟨o1,o0,o3,f,a1⟩,o5,oi,u⟩
  ·obtain⟨b,M,st⟩:=b;obtain⟨a3,m,G,H⟩:=hJ;dsimp only at Y a3 m G H;rw[oL]at Y;rw[←Y]at a3;refine aw (ga @hd @wj) trivial ?_;exact Z M st a3 G H
theorem KS.le{n:Nat}{b:List ar×fe}{M:MI}{c a:Nat}{s:List aa}(h:KS n b M c s)(hc:c≤a):KS n b M a s:=⟨h.b3,h.m0,h.b4,h.t,fun e d=>eS (h.bd e d) hc⟩
theorem PO{n i:Nat}{A:List aJ}(w:A.length≤1000000000)(c: ∀x∈A,x.over.length≤1000)(hi:n+4≤i){fr:Fr}(g:Bb.look fr 3=some (.ptr (n+1) 0))(l:Bb.look fr 4=some (.ptr (n+3) 0)):
  Cons i (i+1) A fun k s=>(∃M,KS n (nw (A.take k) ([],[])) M (1000*k) s)∧s[i]?=some (.loop ⟨.ready,none,fr,[12],40,jf,iS⟩):=by
 refine⟨fun k s o h=> ?_,fun k s j o o' h y q hc=> ?_,fun k s h=> ?_,fun k x s K d h m=> ?_⟩
 ·obtain⟨⟨M,a⟩,b⟩:=h;exact⟨⟨M,a.app _⟩,bt b _⟩
 ·obtain⟨⟨M,a⟩,b⟩:=h;exact⟨⟨M,a.set q a8 hc⟩,getSet b a8⟩
 ·exact(aR.1 h.2).1
 ·obtain⟨⟨M,a⟩,b⟩:=h;have p:=(aR.1 d).1;have f:=c x (bT d);refine PR f hi a8 a b g l fun M' v r t u=>m v ⟨⟨M',?_⟩,t⟩ u;have e:A.take (k+1)=A.take k++[x]:=by rw[qS p];congr 2;exact(aR.1 d).2
  rw[e,I6];exact r.le a8
theorem Oz{p:b9}(e:e8 p):(dq p).length≤80040:=by
 have h: ∀(l:List af) (own:List aJ),(∀c∈l,c.lines.length≤1000)→(eU l own).1.length≤own.length+2001*l.length:=by
  intro l
  induction l with
  |nil=>intro own _;simp[eU]
  |cons c l i=>
   intro own f;rw[eU];have j:=DK (c:=c) (n:=own.length) (f c (by simp));split
   ·simp
   ·split
    ·simp
    ·have:=i (own++fF c own.length) fun c hc=>f c (by simp[hc]);rw[aN]at this;rw[aU];omega
 unfold dq;split
 ·exact fM _
 ·rename_i h0;have b:(dT p).2=0:=by
   unfold dK at h0;by_cases a:(dT p).2=0
   ·exact a
   ·rw[if_pos a]at h0;exact absurd a h0
  obtain⟨_,g,_,d,_⟩:=mY b;rw[d];have:=h p.changes [] fun c hc=>(e.line c hc).1;have:=e.chg;simp at*;omega
theorem Na{p:b9}: ∀x∈(ft p).1,x.over.length≤1000:=by
 intro x a;unfold ft at a;split at a
 ·cases a
 ·obtain⟨y,b,rfl⟩:=cy.1 a;have:=Hj p y b;show((y.over.map _).mergeSort fP).length≤1000;rw[kJ,aL];omega
theorem PT{l:aP}(g:l.length≤1000)(f: ∀x∈l,cV x.pat∧e8 x.pat):(kW l).length≤1000000000∧ ∀x∈kW l,x.over.length≤1000:=by
 have c:=E7 l l.length [] (fun d e=>by cases e);have a:=E6 l l.length [];constructor
 ·unfold kW;have:=Di (kx l) 80040 (jG l l.length []).reverse fun d e=>by
   obtain⟨x,b,hg⟩:=Dn (c d (by simpa using e));unfold kx;rw[pr,hg];show(ft x.pat).1.length≤_;unfold ft;split
   ·exact fM _
   ·rw[aL];exact Oz (f x b).2
  rw[pr]at this;simp at a;omega
 ·intro x b;unfold kW at b;obtain⟨d,_,b⟩:=List.mem_flatMap.1 b;unfold kx at b;exact Na x (List.mem_reverse.1 b)
def oK(l:aP):List ar×fe:=nw (kW l) ([],[])
set_option maxHeartbeats 2000000 in
theorem PQ(l:aP)(E:l.length≤1000)(A: ∀x∈l,cV x.pat∧e8 x.pat)(p: ∀x∈l,(bB x.pat).length≤1000000)(o:(bA l).Nodup)(s:List aa):
  aT Tryz.prog 60 [.d (.sl 37 (l.map b8))] s fun d G=>d= .mp (s.length+2)∧ ∃M,TI (s.length+2) M (oK l).2 G:=by
 have z:=PT E A;have B:=fun s=>PU l s;refine aT.of (F:=yS) RM (by simp[yS]) ?_;simp only[yS];refine pY @wj @B ?_;change bR Tryz.prog none (.rng 40 (.t 11) [12] jf iS) _ _ _;obtain⟨n,b⟩: ∃n,n=s.length:=⟨_,rfl⟩
 have g:(s++[aa.map true [],aa.cells [AV.mp s.length],aa.map true [],aa.cells [AV.mp (s.length+2)]])[n+2]?=some (.map true (cI [])):=by rw[b];simp[cI]
 have c:KS n ([],[]) [] (1000*0) (s++[aa.map true [],aa.cells [AV.mp s.length],aa.map true [],aa.cells [AV.mp (s.length+2)]]):=
  ⟨by rw[b];simp,by rw[b];simp[iF,cI],by rw[b];simp,⟨g,rfl,by simp,fun j k v h=>by simp at h,fun i j e I r _ h=>by simp at h⟩,fun e D=>by cases D⟩
 have f:(s++[aa.map true [],aa.cells [AV.mp s.length],aa.map true [],aa.cells [AV.mp (s.length+2)]]).length=n+4:=by rw[b];simp
 rw[←b]at*;generalize s++[aa.map true [],aa.cells [AV.mp n],aa.map true [],aa.cells [AV.mp (n+2)]]=s0 at c f⊢;clear g;have a:=PO (n:=n) (i:=s0.length) z.1 z.2 a8 (fr:=[(11,.clo 135 [] [.d (.ref [.sl 37 (l.map b8)])]),(2,.d (.sc (.map none))),(4,.ptr (n+3) 0),(3,.ptr (n+1) 0)]) rfl rfl;rw[Ch]
 refine⟨trivial,_,_,_,rfl,jP.fn (aT.mono (PS l a8 A p o s0.length (s0.length+1) _ a _ ⟨⟨[],c.app _⟩,by simp⟩) ?_)⟩;rintro _ H ⟨_,⟨M,u⟩,w⟩;rw[dm (bh _)]at u;unfold kH;rw[w];refine⟨by simp,?_⟩
 have m:=u.set (o':= .loop ⟨.exhausted,none,[(11,.clo 135 [] [.d (.ref [.sl 37 (l.map b8)])]),(2,.d (.sc (.map none))),(4,.ptr (n+3) 0),(3,.ptr (n+1) 0)],[12],40,jf,iS⟩) w a8 (.inr ⟨_,rfl⟩);have y:=m.b4;have C:(oK l)=nw (kW l) ([],[]):=rfl;rw[←C]at m;have q:=m.t;dsimp only
 generalize H.set s0.length (.loop ⟨.exhausted,none,[(11,.clo 135 [] [.d (.ref [.sl 37 (l.map b8)])]),(2,.d (.sc (.map none))),(4,.ptr (n+3) 0),(3,.ptr (n+1) 0)],[12],40,jf,iS⟩)=s4 at y q⊢;refine aw (ga @y @wj) trivial ?_
 all_goals first|exact⟨M,q⟩|exact⟨rfl,M,q⟩|trace_state
theorem Pw(l:List aJ)(t:l.length≤100000000)(g:FuncId)(j cs:List AV)(a:aJ→Bool)(s:List aa)(e: ∀(x:aJ) (K:AV→List aa→Nat→Prop),x∈l→(∀i,K (.d (dB (a x))) s i)→aj Tryz.prog (.clo g j cs) [.d (.agg (aO x))] s K):
  aT Tryz.prog 111 [.d (.sl 172 (l.map aO)),.clo g j cs] s fun d p=>d= .d (dI (dU a l 0))∧p=s:=by
 refine aT.of (F:=yC) Ru (by simp[yC]) ?_;simp only[yC];refine aw @wj trivial ?_;refine aX.overI l (fun k (b:Unit)=>[(8,iN k)]) (fun _ _=>s) (fun r _=>dU a r (l.length-r.length)) (dU a l 0) (fun _ _=>True) () a8 aA aA rfl (by rw[ia]) trivial (fun k _ x hg q f m c _=> ?_) (fun _ f c _=> ?_)
 ·have n:l.length-(x::l.drop (k+1)).length=k:=by rw[aU,ax];omega
  have o:l.length-(l.length-(k+1))=k+1:=by omega
  rw[n,dU]at c;have hc:=e x;by_cases h:a x=true
  ·rw[if_pos h]at c;rw[h]at hc
   repeat' first|refine ak (fun _=> ?_) fun _=> ?_|refine aD ?_|(refine hc _ (bT hg) (fun i=> ?_))|simp only[f,m,hg,wj,wy,qg,aC,reduceCtorEq,reduceIte,Nat.reduceAdd,Nat.reduceMul,Nat.reduceEqDiff,Nat.reduceLT,Nat.reduceLeDiff,Nat.reduceSub,ax,aB,ay,au]
   all_goals rw[c]
  ·rw[if_neg h]at c;rw[show a x=false by simpa using h]at hc
   repeat' first|refine ak (fun _=> ?_) fun _=> ?_|refine aD ?_|(refine hc _ (bT hg) (fun i=> ?_))|simp only[f,m,hg,wj,wy,qg,aC,reduceCtorEq,reduceIte,Nat.reduceAdd,Nat.reduceMul,Nat.reduceEqDiff,Nat.reduceLT,Nat.reduceLeDiff,Nat.reduceSub,ax,aB,ay,au]
   all_goals exact⟨(),by rw[o];exact c⟩
 ·rw[dU]at c;refine aw (ga @f @wj) trivial ?_
  all_goals rw[c]
theorem Q8(x:aJ)(i:ar):aE Tryz.prog 112 [.agg (aO x),.ref (ab i)] (dB (decide (x.id=i))):=by
 refine aI (F:=yR) RL (by simp[yR]) ?_;simp only[yR]
 repeat' first|refine ak (fun _=> ?_) fun _=> ?_|refine bb (ga @aM (ga @bJ @wj)) trivial ?_|exact ba (ga @aM (ga @bJ @wj)) trivial|fail
 all_goals first|rfl|(simp_all;done)|trace_state
def oF(l:aP)(i:ar):Option aJ:=match bM l i.p with
 |none=>none
 |some p=>(ft p).1.find? fun x=>decide (x.id=i)
theorem Hw{α:Type}(p:α→Bool): ∀(l:List α) (j:Nat) (x:α),l[j]?=some x→p x=true→(∀y∈l.take j,p y=false)→l.find? p=some x
 |[],j,x,h,_,_=>by simp at h
 |y::l,0,x,h,hp,_=>by simp at h;subst h;rw[List.find?_cons,hp]
 |y::l,j+1,x,h,hp,ht=>by
  rw[jT]at ht;rw[List.find?_cons,ht y (by simp)];exact Hw p l j x (by simpa using h) hp fun z a=>ht z (by simp[a])
set_option maxHeartbeats 1000000 in
theorem Q9(l:aP)(B:l.length≤1000)(w: ∀x∈l,cV x.pat∧e8 x.pat)(i:ar):aE Tryz.prog 70 [.sl 37 (l.map b8),.agg (ab i)] (.tup [.agg (aO ((oF l i).getD .zero)),dB (oF l i).isSome]):=by
 have c:=Bx l a8 i.p;unfold oF;cases hg:bM l i.p with
 |none=>
  rw[hg]at c;refine aI (F:=nn) DX (by simp[nn]) ?_;simp only[nn];exact bx (ga @bc (ga @aM (ga @bJ (ga @ew (ga @ef @wj))))) @c
  all_goals first|rfl|trace_state
 |some p=>
  rw[hg]at c;obtain⟨x,r,v⟩: ∃x∈l,x.pat=p:=by
   by_cases h:i.p∈bA l
   ·obtain⟨x,r,b⟩:=Dn h;rw[hg]at b;exact⟨x,r,(az b).symm⟩
   ·exfalso;have: ∀l:aP,i.p∉bA l→bM l i.p=none:=by
     intro l
     induction l with
     |nil=>intro _;rfl
     |cons y l A=>
      intro h;unfold bA at h;rw[bO,bY]at h;rw[bM,if_neg fun e=>h (.inl e.symm)];exact A fun b=>h (.inr b)
    rw[this l h]at hg;cases hg
  have q:=w x r;rw[v]at q;have f:=JG p q.1 q.2;have n:=G2 p;obtain⟨a,ha⟩: ∃a,a=(ft p).1:=⟨_,rfl⟩
  obtain⟨e,t⟩: ∃a,a=(ft p).2:=⟨_,rfl⟩
  dsimp only;rw[←ha]at f n⊢;rw[←t]at f;have g:=fun s=>Pw a a8 112 [] [.d (.ref (ab i))] (fun x=>decide (x.id=i)) s (fun x K _ u=>aj.data (Q8 x i) rfl (u 0));clear ha t;rcases vw (fun x:aJ=>decide (x.id=i)) a 0 with⟨m,b⟩|⟨j,y,m,b,h3,h4⟩
  ·rw[m]at g;have o:a.find? (fun x=>decide (x.id=i))=none:=List.find?_eq_none.2 fun y z=>by rw[b y z];simp
   rw[o];refine aI (F:=nn) DX (by simp[nn]) ?_;simp only[nn]
   repeat' first|refine ak (fun _=> ?_) fun _=> ?_|refine bb (ga @bc (ga @aM (ga @bJ (ga @c9 (ga @ew (ga @ef @wj)))))) (ga @c (ga @f @g)) ?_|exact ba (ga @bc (ga @aM (ga @bJ (ga @c9 (ga @ew (ga @ef @wj)))))) (ga @c (ga @f @g))|fail
   all_goals first|rfl|trace_state
  ·rw[m,au]at g;have o:=Hw _ a j y b h3 h4;rw[o];have k:decide ((j:Int)<0)=false:=by simp
   refine aI (F:=nn) DX (by simp[nn]) ?_;simp only[nn]
   repeat' first|refine ak (fun _=> ?_) fun _=> ?_|refine bb (ga @k (ga @b (ga @bc (ga @aM (ga @bJ (ga @c9 (ga @ew (ga @ef @wj)))))))) (ga @c (ga @f @g)) ?_|exact ba (ga @k (ga @b (ga @bc (ga @aM (ga @bJ (ga @c9 (ga @ew (ga @ef @wj)))))))) (ga @c (ga @f @g))|fail
   all_goals first|rfl|trace_state
def oM:fe→ar→List ar
 |[],_=>[]
 |e::V,i=>if e.1=i then e.2 else oM V i
theorem Qa{V:fe}{i:ar}{j:Nat}{l:List ar}(a:(V.map (·.1)).Nodup)(h:V[j]?=some (i,l)):oM V i=l:=by
 induction V generalizing j with
 |nil=>simp at h
 |cons e V c=>
  rw[bO,mb]at a;rw[oM];cases j with
  |zero=>simp at h;subst h;rw[if_pos rfl]
  |succ j=>
   have h:V[j]?=some (i,l):=by simpa using h
   rw[if_neg fun b=>a.1 (by rw[b];exact j3 (f:=Prod.fst) (bT h))];exact c a.2 h
theorem Qb{V:fe}{i:ar}(h:i∉V.map (·.1)):oM V i=[]:=by
 induction V with
 |nil=>rfl
 |cons e V c=>
  rw[bO,bY]at h;rw[oM,if_neg fun a=>h (.inl a.symm)];exact c fun b=>h (.inr b)
def tg(l:aP)(i:ar):Bool:=(oF l i).isSome&&decide (oM (oK l).2 i=[])
set_option maxHeartbeats 1000000 in
theorem Ic(l:aP)(p:l.length≤1000)(t: ∀x∈l,cV x.pat∧e8 x.pat)(m: ∀x∈l,(bB x.pat).length≤1000000)(k:(bA l).Nodup)(i:ar):aE Tryz.prog 34 [.sl 37 (l.map b8),.agg (ab i)] (dB (tg l i)):=by
 have b:=Q9 l p t i;have n:=fun s=>PQ l p t m k s;unfold tg;by_cases h:(oF l i).isSome=true
 ·rw[h]at b⊢;obtain⟨at_,c⟩: ∃q,q=(oF l i).getD .zero:=⟨_,rfl⟩
  rw[←c]at b;obtain⟨A,d⟩: ∃q,q=(oK l).2:=⟨_,rfl⟩
  rw[←d]at n⊢;clear c d;refine aI (F:=rD) IU (by simp[rD]) ?_;simp only[rD]
  repeat' first|refine ak (fun _=> ?_) fun _=> ?_|(refine aj.fn ((n _).mono ?_);rintro _ z ⟨rfl,M,g⟩)|refine bb (ga @aM (ga @bJ (ga @ef @wj))) @b ?_|exact ba (ga @aM (ga @bJ (ga @ef @wj))) @b|fail
  have hm:z[3]?=some (.map true (cI M)):=g.map;have a:=vi i M 0;rcases g.find i with⟨f,o⟩|⟨j,v,r,f,o,h3,h4⟩
  ·rw[f]at a;rw[Qb o]
   repeat' first|simp only[sV]|refine ak (fun _=> ?_) fun _=> ?_|refine bb (ga @hm (ga @a (ga @aM @wj))) trivial ?_|exact ba (ga @hm (ga @a (ga @aM @wj))) trivial|fail
   all_goals first|rfl|trace_state
  ·rw[f]at a;rw[Qa g.nd h3];rcases h4 with⟨rfl,rfl⟩|⟨rr,rfl,hr⟩
   ·repeat' first|simp only[eY]|refine ak (fun _=> ?_) fun _=> ?_|refine bb (ga @hm (ga @a (ga @aM @wj))) trivial ?_|exact ba (ga @hm (ga @a (ga @aM @wj))) trivial|fail
    all_goals first|rfl|trace_state
   ·have e:((r.length:Int)==0)=decide (r=[]):=by
     cases r with
     |nil=>rfl
     |cons y r=>rw[show decide (y::r=[])=false by simp];simp;omega
    obtain⟨q,w⟩: ∃q,q=decide (r=[]):=⟨_,rfl⟩
    rw[←w]at e⊢
    repeat' first|simp only[eY]|refine ak (fun _=> ?_) fun _=> ?_|refine bb (ga @hm (ga @a (ga @e (ga @aM @wj)))) trivial ?_|exact ba (ga @hm (ga @a (ga @e (ga @aM @wj)))) trivial|fail
    all_goals first|rfl|(rename_i u;exact u.symm)|trace_state
 ·have h:(oF l i).isSome=false:=by simpa using h
  rw[h]at b⊢;refine aI (F:=rD) IU (by simp[rD]) ?_;simp only[rD];exact bx (ga @aM (ga @bJ (ga @ef @wj))) @b
  all_goals first|rfl|trace_state
end Go.Proofs.Q
