/- Lemmas. -/
import Derived.Test.YtellfinifjmloaaGreatDoorPBI
set_option linter.unusedVariables false
set_option linter.unusedSimpArgs false
namespace Go.Proofs.Q
open Go Go.Bb Go.RowKit Go.Proofs.Lg
open Go.Ab (D RD)
def jJ:CC:=(fo [o0 5 (.box (.c (.agg dZ))),oN (.st 172 (.t 5) (.t 12))])
def j8:CC:=(.block 1
 (.seq
 (.seq
 (fo [o0 13 (.ld none (.t 3)),o0 14 (.fad 0 (.t 5)),o0 15 (.ld (some 33) (.t 14)),o0 16 (.lkp true cJ (.d (.sc (.bool false))) false (.t 13) (.t 15))])
 (.cond (.t 16)
 (.exit 1)
 .skip))
 (.seq
 (fo [o0 17 (.fad 171 (.t 5)),o0 18 (.ld none (.t 17)),o0 19 (.len 0 (.t 18)),o0 20 (.mov (xi 0))])
 (.block 2
 (.loop
 (.trim [20,3,5,4,18,19]
 (.seq
 (fo [o0 21 (.bin .lss (.t 20) (.t 19))])
 (.seq
 (.cond (.t 21)
 .skip
 (.exit 2))
 (.seq
 (.block 3
 (.seq
 (fo [o0 22 (.iad 33 (.t 18) (.t 20)),o0 23 (.ld (some 33) (.t 22)),o0 7 (.box (.c (.agg cQ))),oN (.st 33 (.t 7) (.t 23))])
 (.seq
 (fo [o0 24 (.ld none (.t 4)),o0 25 (.ld (some 33) (.t 7)),o0 27 (.fad 0 (.t 5)),o0 28 (.ld (some 33) (.t 27)),o0 29 (.bsf 33 1 cQ [(0,33,(.t 28))]),o0 30 (.men true cJ (.nil 33) (.t 24) (.t 25)),o0 26 (.ext (.t 30) 0),o0 31 (.app true 27 33 40 (.t 26) (.t 29)),o0 32 (.ext (.t 30) 1),oN (.mst (.t 24) (.t 32) (.t 31))])
 (.seq
 (fo [o0 33 (.fad 33 (.t 5)),o0 34 (.ld none (.t 33)),o0 35 (.bin .eql (.t 34) (xi 7))])
 (.cond (.t 35)
 (fo [o0 36 (.ld none (.t 3)),o0 37 (.ld (some 33) (.t 7)),oN (.mup true cJ (.t 36) (.t 37) xT)])
 .skip)))))
 (fo [o0 38 (.bin .add (.t 20) (xi 1)),om 20 38]))))))))))
structure KS(n:Nat)(b:List af×en)(M:MI)(c:Nat)(s:List aa):Prop where
 b3:s[n+1]?=some (.cells [.mp n])
 m0:s[n]?=some (.map true (cI (iT b.1)))
 b4:s[n+3]?=some (.cells [.mp (n+2)])
 t:TI (n+2) M b.2 s
 bd: ∀e∈b.2,e.2.length≤c
theorem KS.app{n:Nat}{b:List af×en}{M:MI}{c:Nat}{s:List aa}(h:KS n b M c s)(J:List aa):KS n b M c (s++J):=⟨bG h.b3 J,bG h.m0 J,bG h.b4 J,h.t.app J,h.bd⟩
theorem KS.set{n:Nat}{b:List af×en}{M:MI}{c:Nat}{s:List aa}(h:KS n b M c s){j:Nat}{o o':aa}(a:s[j]?=some o)(f:n+4≤j)(d:(∃cs,o= .cells cs)∨ ∃L,o= .loop L):KS n b M c (s.set j o'):=
 ⟨getSet h.b3 a8,getSet h.m0 a8,getSet h.b4 a8,h.t.setC a a8 (by rintro e z n rfl;rcases d with⟨_,h⟩|⟨_,h⟩<;>cases h),h.bd⟩
set_option maxHeartbeats 4000000 in
theorem Ty{n i:Nat}{x:au}(d0:x.over.length≤1000){fr:Fr}{s:List aa}(hi:n+4≤i){X:List af×en}{M0:MI}{c:Nat}(hc:c≤1000000000000)(c2:KS n X M0 c s)(hL:s[i]?=some (.loop ⟨.ready,none,fr,[12],40,jJ,j8⟩)){K:AV→List aa→Prop}
  (f3:Bb.look fr 3=some (.ptr (n+1) 0)) (f4:Bb.look fr 4=some (.ptr (n+3) 0))
  (hK: ∀M' s',KS n (if dh X.1 x.id=true then X else j7 x x.over X) M' (c+x.over.length) s'→s'[i]?=some (.loop ⟨.ready,none,fr,[12],40,jJ,j8⟩)→gX (i+1) s s'→K (.d (dB true)) s'):iD Tryz.prog i [.d (.agg (aI x))] s K:=by
 have c4:=(b9.1 hL).1;unfold iD;rw[hL];refine⟨rfl,rfl,?_⟩;simp only[jJ,putL,oM,List.zip_nil_right]
 repeat' first|refine ae (fun _=> ?_) fun _=> ?_|refine aL ?_|simp only[dC,bb,kI,bz,aQ,wj,wy,qg,aH,simprocAttr,aA,aF,aE,aw]
 unfold kN;rw[bG hL];refine⟨rfl,?_⟩;have hT:=(c2.app [.cells ((aI x).map .d)]).set (o':= .loop ⟨.busy,none,fr,[12],40,jJ,j8⟩) (bG hL _) hi (.inr ⟨_,rfl⟩);have a0:((s++[aa.cells (List.map AV.d (aI x))]).set i (.loop ⟨.busy,none,fr,[12],40,jJ,j8⟩))[s.length]?=some (.cells ((aI x).map .d)):=getSet (by simp) a8
 have a7:((s++[aa.cells (List.map AV.d (aI x))]).set i (.loop ⟨.busy,none,fr,[12],40,jJ,j8⟩))[i]?=some (.loop ⟨.busy,none,fr,[12],40,jJ,j8⟩):=fA (bG hL _);have b5:gX (i+1) s ((s++[aa.cells (List.map AV.d (aI x))]).set i (.loop ⟨.busy,none,fr,[12],40,jJ,j8⟩)):=((gX.refl _ s).app _).set (bG hL _) (.inl a8);dsimp only
 change cF _ _ j8 _ _ ((s++[aa.cells (List.map AV.d (aI x))]).set i (.loop ⟨.busy,none,fr,[12],40,jJ,j8⟩));generalize(s++[aa.cells (List.map AV.d (aI x))]).set i (.loop ⟨.busy,none,fr,[12],40,jJ,j8⟩)=T at hT a0 a7 b5⊢;obtain⟨n5,c6⟩: ∃n5,n5=s.length:=⟨_,rfl⟩
 rw[←c6]at a0 c4⊢;have b1:=sA x.id (iT X.1) 0;have hq:=SG X.1 x.id;obtain⟨q,c3⟩: ∃q,q=gp x.id (iT X.1) 0:=⟨_,rfl⟩
 rw[←c3]at b1 hq;have h3:=hT.b3;have h0:=hT.m0;simp only[j8];have Z: ∀(M':MI) (s':List aa),KS n (if dh X.1 x.id=true then X else j7 x x.over X) M' (c+x.over.length) s'→s'[i]?=some (.loop ⟨.busy,none,fr,[12],40,jJ,j8⟩)→gX (i+1) s s'→mV i K .normal s':=fun M' s' k1 k2 k3=>by
  unfold mV;rw[k2];exact hK M' _ (k1.set k2 hi (.inr ⟨_,rfl⟩)) (fA k2) (k3.set k2 (.inl a8))
 by_cases b2:dh X.1 x.id=true
 ·rw[b2]at hq
  repeat' first|refine ae (fun _=> ?_) fun _=> ?_|refine aL ?_|simp only[dC,f3,h3,a0,h0,b1,hq,bb,aQ,wj,wy,qg,aH,simprocAttr,aA,aF,aE,aw]
  refine Z M0 T ?_ a7 b5;rw[if_pos b2];exact⟨hT.b3,hT.m0,hT.b4,hT.t,fun e he=>by have:=hT.bd e he;omega⟩
 ·rw[show dh X.1 x.id=false by simpa using b2]at hq;rw[if_neg b2]at Z
  repeat' first|refine ae (fun _=> ?_) fun _=> ?_|refine aL ?_|simp only[dC,f3,f4,h3,a0,h0,b1,hq,bb,aQ,wj,wy,qg,aH,simprocAttr,aA,aF,aE,aw]
  refine aZ.overI x.over (fun k (b:(List af×en)×MI×List aa)=>[(20,iN k)]) (fun _ b=>b.2.2) (fun r b=>j7 x r b.1) (j7 x x.over X) (fun k b=>KS n b.1 b.2.1 (c+k) b.2.2∧b.2.2[n5]?=some (.cells ((aI x).map .d))∧b.2.2[i]?=some (.loop ⟨.busy,none,fr,[12],40,jJ,j8⟩)∧gX (i+1) s b.2.2) (X,M0,T) a8 (fr0:=[(20,iN 0),(3,.ptr (n+1) 0),(5,.ptr n5 0),(4,.ptr (n+3) 0),(18,.d (.sl 33 (x.over.map aj))),(19,.d (dI x.over.length))]) ?_ aB rfl rfl ⟨hT,a0,a7,b5⟩ (fun k b y a4 hk hd hw Y hJ=> ?_) (fun b hd Y hJ=> ?_)
  ·simp only[dY,List.filterMap_cons,List.filterMap_nil,Bb.look,f3,f4,eZ,if_true,if_false,reduceIte,Nat.reduceEqDiff];rfl
  ·obtain⟨b,M,st⟩:=b;obtain⟨⟨B,A,C,E,a9⟩,m,G,H⟩:=hJ;dsimp only at Y B A C E a9 m G H;clear hT a0 a7 b5 h3 h0 b1 hq c3 Z hK hL c2;rw[j7]at Y;have I:(st++[aa.cells ((aj y).map .d)])[st.length]?=some (.cells ((aj y).map .d)):=by simp
   have E:=E.app [aa.cells ((aj y).map .d)];have B:=bG B [aa.cells ((aj y).map .d)];have A:=bG A [aa.cells ((aj y).map .d)];have C:=bG C [aa.cells ((aj y).map .d)];have c8:n5<st.length:=(b9.1 m).1;have m:=bG m [aa.cells ((aj y).map .d)];have G:=bG G [aa.cells ((aj y).map .d)]
   have H:=H.app [aa.cells ((aj y).map .d)];have a1: ∀e∈iR b.2 y [x.id],e.2.length≤c+(k+1):=fun e he=>by have:=QK (news:=[x.id]) a9 e he;simpa[kW]using this
   have b6:bw 1 40=true:=by decide
   have a2:(c9 [x.id]).length=33:=wJ [x.id];have a3:([aj x.id].flatten).map AV.d=c9 [x.id]:=(pY [x.id]).symm;have P:e9 cJ (df y) (cI M) 0=some (gp y M 0):=sA y M 0;have U:=sA y (iT b.1) 0;have N:=a29 b.1 y;obtain⟨q2,c7⟩: ∃q2,q2=gp y (iT b.1) 0:=⟨_,rfl⟩
   rw[←c7]at U N;obtain⟨g,W⟩: ∃g,g=st++[aa.cells ((aj y).map .d)]:=⟨_,rfl⟩
   rw[←W]at E B A C m G H I;have p:=E.map;by_cases h7:x.kind=7
   ·rw[if_pos h7]at Y;rcases E.find y with⟨h1,S⟩|⟨j,v,l,h1,S,h3,h4⟩
    ·rw[h1]at P;have f:=E.new1 (x:=x.id) (M':=M++[(y,.vec g.length 1 33)]) (o:= .map true (cI (M++[(y,.nil 33)]))) ⟨_,rfl⟩ (.inl ⟨S,rfl⟩);have w:(g.set (n+2) (.map true (cI (M++[(y,.nil 33)])))++[aa.vec 27 33 (c9 [x.id])])[n+2]?=some (.map true (cI (M++[(y,.nil 33)]))):=bG (fA p) _;have Q:(cI (M++[(y,.nil 33)]))[M.length]?=some (df y,.nil 33):=zp (by simp)
     have O:(cI (M++[(y,.nil 33)])).set M.length (df y,.vec g.length 1 33)=cI (M++[(y,.vec g.length 1 33)]):=by rw[pX];simp
     have a: ∀(j:Nat) (o:aa),j≠n+2→g[j]?=some o→((g.set (n+2) (.map true (cI (M++[(y,.nil 33)])))++[aa.vec 27 33 (c9 [x.id])]).set (n+2) (.map true (cI (M++[(y,.vec g.length 1 33)]))))[j]?=some o:=fun j o hj h=>getSet (bG (getSet h (Ne.symm hj)) _) (Ne.symm hj)
     have u:gX (i+1) s ((g.set (n+2) (.map true (cI (M++[(y,.nil 33)])))++[aa.vec 27 33 (c9 [x.id])]).set (n+2) (.map true (cI (M++[(y,.vec g.length 1 33)])))):=((H.set p (.inl a8)).app _).set w (.inl a8)
     obtain⟨F,J⟩: ∃F,F=((g.set (n+2) (.map true (cI (M++[(y,.nil 33)])))++[aa.vec 27 33 (c9 [x.id])]).set (n+2) (.map true (cI (M++[(y,.vec g.length 1 33)])))):=⟨_,rfl⟩
     rw[←J]at f u;simp only[←J]at a;have o0:=a n _ a8 A;have o1:=a (n+1) _ a8 B;have o3:=a (n+3) _ a8 C;have o5:=a n5 _ a8 m;have oi:=a i _ a8 G;have o7:=a st.length _ a8 I
     repeat' first|refine ae (fun _=> ?_) fun _=> ?_|refine aL ?_|simp only[hd,hw,a4,h7,beq_self_eq_true,U,N,da,az,bb,aQ,←W,←J,I,A,B,C,m,p,P,F4,IV,w,Q,O,b6,a3,a2,jh,o0,o1,o3,o5,o7,wj,wy,qg,aH,simprocAttr,aA,aF,aE,aw]
     exact⟨((qK b.1 y,iR b.2 y [x.id]),_,_),rfl,Y,⟨getSet o1 a8,fA o0,getSet o3 a8,f.setC o0 a8 (by intro e z n h;cases h),a1⟩,getSet o5 a8,getSet oi a8,u.set o0 (.inl a8)⟩
    ·rw[h1]at P;have a6:(cI M).set j (df y,v)=cI M:=by
      rw[pX];congr 1;apply iX;intro i;by_cases e:i=j
      ·subst e;rw[fx (b9.1 S).1,S]
      ·rw[bC (Ne.symm e)]
     have D:g.set (n+2) (.map true (cI M))=g:=OD p;have Q:=zp S;rcases h4 with⟨rfl,rfl⟩|⟨r,rfl,V⟩
     ·have f:=E.new1 (x:=x.id) (M':=M.set j (y,.vec g.length 1 33)) (o:= .map true (cI M)) ⟨_,rfl⟩ (.inr ⟨j,_,S,h3,rfl⟩);rw[D]at f;have w:(g++[aa.vec 27 33 (c9 [x.id])])[n+2]?=some (.map true (cI M)):=bG p _;have O:(cI M).set j (df y,.vec g.length 1 33)=cI (M.set j (y,.vec g.length 1 33)):=pX _ _ _ _
      have a: ∀(R:Nat) (o:aa),R≠n+2→g[R]?=some o→((g++[aa.vec 27 33 (c9 [x.id])]).set (n+2) (.map true (cI (M.set j (y,.vec g.length 1 33)))))[R]?=some o:=fun R o hj h=>getSet (bG h _) (Ne.symm hj);have u:gX (i+1) s ((g++[aa.vec 27 33 (c9 [x.id])]).set (n+2) (.map true (cI (M.set j (y,.vec g.length 1 33))))):=(H.app _).set w (.inl a8)
      obtain⟨F,J⟩: ∃F,F=((g++[aa.vec 27 33 (c9 [x.id])]).set (n+2) (.map true (cI (M.set j (y,.vec g.length 1 33))))):=⟨_,rfl⟩
      rw[←J]at f u;simp only[←J]at a;have o0:=a n _ a8 A;have o1:=a (n+1) _ a8 B;have o3:=a (n+3) _ a8 C;have o5:=a n5 _ a8 m;have oi:=a i _ a8 G;have o7:=a st.length _ a8 I
      repeat' first|refine ae (fun _=> ?_) fun _=> ?_|refine aL ?_|simp only[hd,hw,a4,h7,beq_self_eq_true,U,N,da,az,bb,aQ,←W,←J,I,A,B,C,m,p,P,a6,D,w,Q,O,b6,a3,a2,o0,o1,o3,o5,o7,wj,wy,qg,aH,simprocAttr,aA,aF,aE,aw]
      exact⟨((qK b.1 y,iR b.2 y [x.id]),_,_),rfl,Y,⟨getSet o1 a8,fA o0,getSet o3 a8,f.setC o0 a8 (by intro e z n h;cases h),a1⟩,getSet o5 a8,getSet oi a8,u.set o0 (.inl a8)⟩
     ·have f:=E.grow (news:=[x.id]) S h3 V;have c5:l.length≤c+k:=a9 (y,l) (bX h3);have c0:bw (l.length+1) 40=true:=room_le a8 a8;have c1:r≠n+2:=fun e=>by subst e;rw[p]at V;cases V
      have b8:(c9 l).length=l.length*33:=wJ l;have b7:c9 l++c9 [x.id]=c9 (l++[x.id]):=IW l [x.id];have w:(g.set r (.vec 27 33 (c9 (l++[x.id]))))[n+2]?=some (.map true (cI M)):=getSet p c1;have O:(cI M).set j (df y,.vec r (l.length+1) 33)=cI (M.set j (y,.vec r (l.length+1) 33)):=pX _ _ _ _;rw[aR,qC]at f
      have a: ∀(R:Nat) (o:aa),R≠n+2→(∀e z n,o≠ .vec e z n)→g[R]?=some o→((g.set r (.vec 27 33 (c9 (l++[x.id])))).set (n+2) (.map true (cI (M.set j (y,.vec r (l.length+1) 33)))))[R]?=some o:=fun R o hj ho h=>getSet (getSet h (fun e=>by subst e;rw[h]at V;exact ho _ _ _ (aJ V))) (Ne.symm hj)
      have u:gX (i+1) s ((g.set r (.vec 27 33 (c9 (l++[x.id])))).set (n+2) (.map true (cI (M.set j (y,.vec r (l.length+1) 33))))):=(H.set V (.inr ⟨fun cs e=>(by cases e),fun L e=>(by cases e)⟩)).set w (.inl a8);obtain⟨F,J⟩: ∃F,F=((g.set r (.vec 27 33 (c9 (l++[x.id])))).set (n+2) (.map true (cI (M.set j (y,.vec r (l.length+1) 33))))):=⟨_,rfl⟩
      rw[←J]at f u;simp only[←J]at a;have o0:=a n _ a8 (by intro e z n h;cases h) A;have o1:=a (n+1) _ a8 (by intro e z n h;cases h) B;have o3:=a (n+3) _ a8 (by intro e z n h;cases h) C;have o5:=a n5 _ a8 (by intro e z n h;cases h) m;have oi:=a i _ a8 (by intro e z n h;cases h) G
      have o7:=a st.length _ a8 (by intro e z n h;cases h) I
      repeat' first|refine ae (fun _=> ?_) fun _=> ?_|refine aL ?_|simp only[hd,hw,a4,h7,beq_self_eq_true,U,N,da,az,bb,aQ,←W,←J,I,A,B,C,m,p,P,a6,D,w,Q,O,V,a3,a2,b8,b7,c0,o0,o1,o3,o5,o7,wj,wy,qg,aH,simprocAttr,aA,aF,aE,aw]
      exact⟨((qK b.1 y,iR b.2 y [x.id]),_,_),rfl,Y,⟨getSet o1 a8,fA o0,getSet o3 a8,f.setC o0 a8 (by intro e z n h;cases h),a1⟩,getSet o5 a8,getSet oi a8,u.set o0 (.inl a8)⟩
   ·rw[if_neg h7]at Y;have e7:(x.kind==7)=false:=by simpa using h7
    rcases E.find y with⟨h1,S⟩|⟨j,v,l,h1,S,h3,h4⟩
    ·rw[h1]at P;have f:=E.new1 (x:=x.id) (M':=M++[(y,.vec g.length 1 33)]) (o:= .map true (cI (M++[(y,.nil 33)]))) ⟨_,rfl⟩ (.inl ⟨S,rfl⟩);have w:(g.set (n+2) (.map true (cI (M++[(y,.nil 33)])))++[aa.vec 27 33 (c9 [x.id])])[n+2]?=some (.map true (cI (M++[(y,.nil 33)]))):=bG (fA p) _;have Q:(cI (M++[(y,.nil 33)]))[M.length]?=some (df y,.nil 33):=zp (by simp)
     have O:(cI (M++[(y,.nil 33)])).set M.length (df y,.vec g.length 1 33)=cI (M++[(y,.vec g.length 1 33)]):=by rw[pX];simp
     have a: ∀(j:Nat) (o:aa),j≠n+2→g[j]?=some o→((g.set (n+2) (.map true (cI (M++[(y,.nil 33)])))++[aa.vec 27 33 (c9 [x.id])]).set (n+2) (.map true (cI (M++[(y,.vec g.length 1 33)]))))[j]?=some o:=fun j o hj h=>getSet (bG (getSet h (Ne.symm hj)) _) (Ne.symm hj)
     have u:gX (i+1) s ((g.set (n+2) (.map true (cI (M++[(y,.nil 33)])))++[aa.vec 27 33 (c9 [x.id])]).set (n+2) (.map true (cI (M++[(y,.vec g.length 1 33)])))):=((H.set p (.inl a8)).app _).set w (.inl a8)
     obtain⟨F,J⟩: ∃F,F=((g.set (n+2) (.map true (cI (M++[(y,.nil 33)])))++[aa.vec 27 33 (c9 [x.id])]).set (n+2) (.map true (cI (M++[(y,.vec g.length 1 33)])))):=⟨_,rfl⟩
     rw[←J]at f u;simp only[←J]at a;have o0:=a n _ a8 A;have o1:=a (n+1) _ a8 B;have o3:=a (n+3) _ a8 C;have o5:=a n5 _ a8 m;have oi:=a i _ a8 G;have o7:=a st.length _ a8 I
     repeat' first|refine ae (fun _=> ?_) fun _=> ?_|refine aL ?_|simp only[hd,hw,a4,e7,U,N,da,az,bb,aQ,←W,←J,I,A,B,C,m,p,P,F4,IV,w,Q,O,b6,a3,a2,jh,o0,o1,o3,o5,o7,wj,wy,qg,aH,simprocAttr,aA,aF,aE,aw]
     exact⟨((b.1,iR b.2 y [x.id]),_,F),rfl,Y,⟨o1,o0,o3,f,a1⟩,o5,oi,u⟩
    ·rw[h1]at P;have a6:(cI M).set j (df y,v)=cI M:=by
      rw[pX];congr 1;apply iX;intro i;by_cases e:i=j
      ·subst e;rw[fx (b9.1 S).1,S]
      ·rw[bC (Ne.symm e)]
     have D:g.set (n+2) (.map true (cI M))=g:=OD p;have Q:=zp S;rcases h4 with⟨rfl,rfl⟩|⟨r,rfl,V⟩
     ·have f:=E.new1 (x:=x.id) (M':=M.set j (y,.vec g.length 1 33)) (o:= .map true (cI M)) ⟨_,rfl⟩ (.inr ⟨j,_,S,h3,rfl⟩);rw[D]at f;have w:(g++[aa.vec 27 33 (c9 [x.id])])[n+2]?=some (.map true (cI M)):=bG p _;have O:(cI M).set j (df y,.vec g.length 1 33)=cI (M.set j (y,.vec g.length 1 33)):=pX _ _ _ _
      have a: ∀(R:Nat) (o:aa),R≠n+2→g[R]?=some o→((g++[aa.vec 27 33 (c9 [x.id])]).set (n+2) (.map true (cI (M.set j (y,.vec g.length 1 33)))))[R]?=some o:=fun R o hj h=>getSet (bG h _) (Ne.symm hj);have u:gX (i+1) s ((g++[aa.vec 27 33 (c9 [x.id])]).set (n+2) (.map true (cI (M.set j (y,.vec g.length 1 33))))):=(H.app _).set w (.inl a8)
      obtain⟨F,J⟩: ∃F,F=((g++[aa.vec 27 33 (c9 [x.id])]).set (n+2) (.map true (cI (M.set j (y,.vec g.length 1 33))))):=⟨_,rfl⟩
      rw[←J]at f u;simp only[←J]at a;have o0:=a n _ a8 A;have o1:=a (n+1) _ a8 B;have o3:=a (n+3) _ a8 C;have o5:=a n5 _ a8 m;have oi:=a i _ a8 G;have o7:=a st.length _ a8 I
      repeat' first|refine ae (fun _=> ?_) fun _=> ?_|refine aL ?_|simp only[hd,hw,a4,e7,U,N,da,az,bb,aQ,←W,←J,I,A,B,C,m,p,P,a6,D,w,Q,O,b6,a3,a2,o0,o1,o3,o5,o7,wj,wy,qg,aH,simprocAttr,aA,aF,aE,aw]
      exact⟨((b.1,iR b.2 y [x.id]),_,F),rfl,Y,⟨o1,o0,o3,f,a1⟩,o5,oi,u⟩
     ·have f:=E.grow (news:=[x.id]) S h3 V;have c5:l.length≤c+k:=a9 (y,l) (bX h3);have c0:bw (l.length+1) 40=true:=room_le a8 a8;have c1:r≠n+2:=fun e=>by subst e;rw[p]at V;cases V
      have b8:(c9 l).length=l.length*33:=wJ l;have b7:c9 l++c9 [x.id]=c9 (l++[x.id]):=IW l [x.id];have w:(g.set r (.vec 27 33 (c9 (l++[x.id]))))[n+2]?=some (.map true (cI M)):=getSet p c1;have O:(cI M).set j (df y,.vec r (l.length+1) 33)=cI (M.set j (y,.vec r (l.length+1) 33)):=pX _ _ _ _;rw[aR,qC]at f
      have a: ∀(R:Nat) (o:aa),R≠n+2→(∀e z n,o≠ .vec e z n)→g[R]?=some o→((g.set r (.vec 27 33 (c9 (l++[x.id])))).set (n+2) (.map true (cI (M.set j (y,.vec r (l.length+1) 33)))))[R]?=some o:=fun R o hj ho h=>getSet (getSet h (fun e=>by subst e;rw[h]at V;exact ho _ _ _ (aJ V))) (Ne.symm hj)
      have u:gX (i+1) s ((g.set r (.vec 27 33 (c9 (l++[x.id])))).set (n+2) (.map true (cI (M.set j (y,.vec r (l.length+1) 33))))):=(H.set V (.inr ⟨fun cs e=>(by cases e),fun L e=>(by cases e)⟩)).set w (.inl a8);obtain⟨F,J⟩: ∃F,F=((g.set r (.vec 27 33 (c9 (l++[x.id])))).set (n+2) (.map true (cI (M.set j (y,.vec r (l.length+1) 33))))):=⟨_,rfl⟩
      rw[←J]at f u;simp only[←J]at a;have o0:=a n _ a8 (by intro e z n h;cases h) A;have o1:=a (n+1) _ a8 (by intro e z n h;cases h) B;have o3:=a (n+3) _ a8 (by intro e z n h;cases h) C;have o5:=a n5 _ a8 (by intro e z n h;cases h) m;have oi:=a i _ a8 (by intro e z n h;cases h) G
      have o7:=a st.length _ a8 (by intro e z n h;cases h) I
      repeat' first|refine ae (fun _=> ?_) fun _=> ?_|refine aL ?_|simp only[hd,hw,a4,e7,U,N,da,az,bb,aQ,←W,←J,I,A,B,C,m,p,P,a6,D,w,Q,O,V,a3,a2,b8,b7,c0,o0,o1,o3,o5,o7,wj,wy,qg,aH,simprocAttr,aA,aF,aE,aw]
      exact⟨((b.1,iR b.2 y [x.id]),_,F),rfl,Y,⟨o1,o0,o3,f,a1⟩,o5,oi,u⟩
  ·obtain⟨b,M,st⟩:=b;obtain⟨a5,m,G,H⟩:=hJ;dsimp only at Y a5 m G H;rw[j7]at Y;rw[←Y]at a5;refine aO (ga @hd @wj) ab ?_;exact Z M st a5 G H
theorem KS.le{n:Nat}{b:List af×en}{M:MI}{c a:Nat}{s:List aa}(h:KS n b M c s)(hc:c≤a):KS n b M a s:=⟨h.b3,h.m0,h.b4,h.t,fun e d=>ef (h.bd e d) hc⟩
theorem Tx{n i:Nat}{A:List au}(v:A.length≤1000000000)(c: ∀x∈A,x.over.length≤1000)(hi:n+4≤i){fr:Fr}(g:Bb.look fr 3=some (.ptr (n+1) 0))(l:Bb.look fr 4=some (.ptr (n+3) 0)):
  Cons i (i+1) A fun k s=>(∃M,KS n (lf (A.take k) ([],[])) M (1000*k) s)∧s[i]?=some (.loop ⟨.ready,none,fr,[12],40,jJ,j8⟩):=by
 refine⟨fun k s o h=> ?_,fun k s j o o' h w p hc=> ?_,fun k s h=> ?_,fun k x s K d h m=> ?_⟩
 ·obtain⟨⟨M,a⟩,b⟩:=h;exact⟨⟨M,a.app _⟩,bG b _⟩
 ·obtain⟨⟨M,a⟩,b⟩:=h;exact⟨⟨M,a.set p a8 hc⟩,getSet b a8⟩
 ·exact(b9.1 h.2).1
 ·obtain⟨⟨M,a⟩,b⟩:=h;have hk:=(b9.1 d).1;have f:=c x (bX d);refine Ty f hi a8 a b g l fun M' u q r t=>m u ⟨⟨M',?_⟩,r⟩ t;have e:A.take (k+1)=A.take k++[x]:=by rw[ui hk];congr 2;exact(b9.1 d).2
  rw[e,KO];exact q.le a8
theorem zW{p:aX}(f:du p):(eG p).length≤80040:=by
 have h: ∀(l:List aC) (own:List au),(∀c∈l,c.lines.length≤1000)→(dW l own).1.length≤own.length+2001*l.length:=by
  intro l
  induction l with
  |nil=>intro own _;simp[dW]
  |cons c l j=>
   intro own g;rw[dW];have k:=G4 (c:=c) (n:=own.length) (g c (by simp));split
   ·simp
   ·split
    ·simp
    ·have:=j (own++fh c own.length) fun c hc=>g c (by simp[hc]);rw[aR]at this;rw[aY];omega
 unfold eG;split
 ·exact fy _
 ·rename_i a;have d:(dw p).2=0:=by
   unfold cV at a;by_cases b:(dw p).2=0
   ·exact b
   ·rw[if_pos b]at a;exact absurd b a
  obtain⟨_,i,_,e,_⟩:=jy d;rw[e];have:=h p.changes [] fun c hc=>(f.line c hc).1;have:=f.chg;simp at*;omega
theorem It{p:aX}: ∀x∈(dR p).1,x.over.length≤1000:=by
 intro x a;unfold dR at a;split at a
 ·cases a
 ·obtain⟨y,b,rfl⟩:=bR.1 a;have:=JU p y b;show((y.over.map _).mergeSort eN).length≤1000;rw[mP,aQ];omega
theorem TA{l:aD}(g:l.length≤1000)(f: ∀x∈l,cz x.pat∧du x.pat):(mj l).length≤1000000000∧ ∀x∈mj l,x.over.length≤1000:=by
 have c:=Gj l l.length [] (fun d e=>by cases e);have a:=Gi l l.length [];constructor
 ·unfold mj;have:=uR (lu l) 80040 (jM l l.length []).reverse fun d e=>by
   obtain⟨x,b,hg⟩:=FD (c d (by simpa using e));unfold lu;rw[nI,hg];show(dR x.pat).1.length≤_;unfold dR;split
   ·exact fy _
   ·rw[aQ];exact zW (f x b).2
  rw[nI]at this;simp at a;omega
 ·intro x b;unfold mj at b;obtain⟨d,_,b⟩:=uh.1 b;unfold lu at b;exact It x (wh.1 b)
def kj(l:aD):List af×en:=lf (mj l) ([],[])
set_option maxHeartbeats 2000000 in
theorem FP(l:aD)(E:l.length≤1000)(A: ∀x∈l,cz x.pat∧du x.pat)(p: ∀x∈l,(cD x.pat).length≤1000000)(o:(bs l).Nodup)(s:List aa):
  b7 Tryz.prog 50 [.d (.sl 37 (l.map b5))] s fun d G=>d= .mp (s.length+2)∧ ∃M,TI (s.length+2) M (kj l).2 G:=by
 have z:=TA E A;have B:=fun s=>TC l s;refine b7.of (F:=AT) WB (by simp[AT]) ?_;simp only[AT];refine uV @wj @B ?_;change cF Tryz.prog none (.rng 40 (.t 11) [12] jJ j8) _ _ _;obtain⟨n,b⟩: ∃n,n=s.length:=⟨_,rfl⟩
 have g:(s++[aa.map true [],aa.cells [AV.mp s.length],aa.map true [],aa.cells [AV.mp (s.length+2)]])[n+2]?=some (.map true (cI [])):=by rw[b];simp[cI]
 have c:KS n ([],[]) [] (1000*0) (s++[aa.map true [],aa.cells [AV.mp s.length],aa.map true [],aa.cells [AV.mp (s.length+2)]]):=
  ⟨by rw[b];simp,by rw[b];simp[iT,cI],by rw[b];simp,⟨g,rfl,by simp,fun j k v h=>by simp at h,fun i j e I r _ h=>by simp at h⟩,fun e D=>by cases D⟩
 have f:(s++[aa.map true [],aa.cells [AV.mp s.length],aa.map true [],aa.cells [AV.mp (s.length+2)]]).length=n+4:=by rw[b];simp
 rw[←b]at*;generalize s++[aa.map true [],aa.cells [AV.mp n],aa.map true [],aa.cells [AV.mp (n+2)]]=s0 at c f⊢;clear g;have a:=Tx (n:=n) (i:=s0.length) z.1 z.2 a8 (fr:=[(11,.clo 133 [] [.d (.ref [.sl 37 (l.map b5)])]),(2,.d (.sc (.map none))),(4,.ptr (n+3) 0),(3,.ptr (n+1) 0)]) rfl rfl;rw[HO]
 refine⟨trivial,_,_,_,rfl,lN.fn (b7.mono (Tz l a8 A p o s0.length (s0.length+1) _ a _ ⟨⟨[],c.app _⟩,by simp⟩) ?_)⟩;rintro _ H ⟨_,⟨M,u⟩,w⟩;rw[dq (bk _)]at u;unfold mL;rw[w];refine⟨by simp,?_⟩
 have m:=u.set (o':= .loop ⟨.exhausted,none,[(11,.clo 133 [] [.d (.ref [.sl 37 (l.map b5)])]),(2,.d (.sc (.map none))),(4,.ptr (n+3) 0),(3,.ptr (n+1) 0)],[12],40,jJ,j8⟩) w a8 (.inr ⟨_,rfl⟩);have y:=m.b4;have C:(kj l)=lf (mj l) ([],[]):=rfl;rw[←C]at m;have q:=m.t;dsimp only
 generalize H.set s0.length (.loop ⟨.exhausted,none,[(11,.clo 133 [] [.d (.ref [.sl 37 (l.map b5)])]),(2,.d (.sc (.map none))),(4,.ptr (n+3) 0),(3,.ptr (n+1) 0)],[12],40,jJ,j8⟩)=s4 at y q⊢;refine aO (ga @y @wj) ab ?_
 all_goals first|exact⟨M,q⟩|exact⟨rfl,M,q⟩|trace_state
theorem Te(l:List au)(p:l.length≤100000000)(g:FuncId)(i cs:List AV)(a:au→Bool)(s:List aa)(e: ∀(x:au) (K:AV→List aa→Nat→Prop),x∈l→(∀h,K (.d (dB (a x))) s h)→aq Tryz.prog (.clo g i cs) [.d (.agg (aI x))] s K):
  b7 Tryz.prog 48 [.d (.sl 172 (l.map aI)),.clo g i cs] s fun d o=>d= .d (dI (eT a l 0))∧o=s:=by
 refine b7.of (F:=Aq) Wb (by simp[Aq]) ?_;simp only[Aq];refine aO @wj ab ?_;refine aZ.overI l (fun k (b:Unit)=>[(8,iN k)]) (fun _ _=>s) (fun r _=>eT a r (l.length-r.length)) (eT a l 0) (fun _ _=>True) () a8 aB aB rfl (by rw[jl]) trivial (fun k _ x hg hk f j c _=> ?_) (fun _ f c _=> ?_)
 ·have m:l.length-(x::l.drop (k+1)).length=k:=by rw[aY,aA];omega
  have n:l.length-(l.length-(k+1))=k+1:=by omega
  rw[m,eT]at c;have hc:=e x;by_cases hp:a x=true
  ·rw[if_pos hp]at c;rw[hp]at hc
   repeat' first|refine ae (fun _=> ?_) fun _=> ?_|refine aL ?_|(refine hc _ (bX hg) (fun h=> ?_))|simp only[f,j,hg,wj,wy,qg,aH,simprocAttr,aA,aF,aE,aw]
   all_goals rw[c]
  ·rw[if_neg hp]at c;rw[show a x=false by simpa using hp]at hc
   repeat' first|refine ae (fun _=> ?_) fun _=> ?_|refine aL ?_|(refine hc _ (bX hg) (fun h=> ?_))|simp only[f,j,hg,wj,wy,qg,aH,simprocAttr,aA,aF,aE,aw]
   all_goals exact⟨(),by rw[n];exact c⟩
 ·rw[eT]at c;refine aO (ga @f @wj) ab ?_
  all_goals rw[c]
theorem U7(x:au)(i:af):aG Tryz.prog 49 [.agg (aI x),.ref (aj i)] (dB (decide (x.id=i))):=by
 refine aM (F:=AR) Wz (by simp[AR]) ?_;simp only[AR]
 repeat' first|refine ae (fun _=> ?_) fun _=> ?_|refine ay (ga @az (ga @bb @wj)) ab ?_|exact ax (ga @az (ga @bb @wj)) ab|fail
 all_goals first|rfl|(simp_all;done)|trace_state
def me(l:aD)(i:af):Option au:=match ch l i.p with
 |none=>none
 |some p=>(dR p).1.find? fun x=>decide (x.id=i)
theorem Ka{α:Type}(p:α→Bool): ∀(l:List α) (j:Nat) (x:α),l[j]?=some x→p x=true→(∀y∈l.take j,p y=false)→l.find? p=some x
 |[],j,x,h,_,_=>by simp at h
 |y::l,0,x,h,hp,_=>by simp at h;subst h;rw[List.find?_cons,hp]
 |y::l,j+1,x,h,hp,ht=>by
  rw[jj]at ht;rw[List.find?_cons,ht y (by simp)];exact Ka p l j x (by simpa using h) hp fun z a=>ht z (by simp[a])
set_option maxHeartbeats 1000000 in
theorem FY(l:aD)(A:l.length≤1000)(v: ∀x∈l,cz x.pat∧du x.pat)(i:af):aG Tryz.prog 13 [.sl 37 (l.map b5),.agg (aj i)] (.tup [.agg (aI ((me l i).getD .zero)),dB (me l i).isSome]):=by
 have c:=Gs l a8 i.p;unfold me;cases hg:ch l i.p with
 |none=>
  rw[hg]at c;refine aM (F:=pj) Gc (by simp[pj]) ?_;simp only[pj];exact bU (ga @ba (ga @az (ga @bb (ga @fJ (ga @bz @wj))))) @c
  all_goals first|rfl|trace_state
 |some p=>
  rw[hg]at c;obtain⟨x,r,hp⟩: ∃x∈l,x.pat=p:=by
   by_cases h:i.p∈bs l
   ·obtain⟨x,r,b⟩:=FD h;rw[hg]at b;exact⟨x,r,(aJ b).symm⟩
   ·exfalso;have: ∀l:aD,i.p∉bs l→ch l i.p=none:=by
     intro l
     induction l with
     |nil=>intro _;rfl
     |cons y l z=>
      intro h;unfold bs at h;rw[bV,bM]at h;rw[ch,if_neg fun e=>h (.inl e.symm)];exact z fun b=>h (.inr b)
    rw[this l h]at hg;cases hg
  have q:=v x r;rw[hp]at q;have f:=DJ p q.1 q.2;have n:=Is p;obtain⟨a,ha⟩: ∃a,a=(dR p).1:=⟨_,rfl⟩
  obtain⟨e,t⟩: ∃a,a=(dR p).2:=⟨_,rfl⟩
  dsimp only;rw[←ha]at f n⊢;rw[←t]at f;have g:=fun s=>Te a a8 49 [] [.d (.ref (aj i))] (fun x=>decide (x.id=i)) s (fun x K _ u=>aq.data (U7 x i) rfl (u 0));clear ha t;rcases Ad (fun x:au=>decide (x.id=i)) a 0 with⟨m,b⟩|⟨j,y,m,b,h3,h4⟩
  ·rw[m]at g;have o:a.find? (fun x=>decide (x.id=i))=none:=List.find?_eq_none.2 fun y w=>by rw[b y w];simp
   rw[o];refine aM (F:=pj) Gc (by simp[pj]) ?_;simp only[pj]
   repeat' first|refine ae (fun _=> ?_) fun _=> ?_|refine ay (ga @ba (ga @az (ga @bb (ga @br (ga @fJ (ga @bz @wj)))))) (ga @c (ga @f @g)) ?_|exact ax (ga @ba (ga @az (ga @bb (ga @br (ga @fJ (ga @bz @wj)))))) (ga @c (ga @f @g))|fail
   all_goals first|rfl|trace_state
  ·rw[m,aw]at g;have o:=Ka _ a j y b h3 h4;rw[o];have k:decide ((j:Int)<0)=false:=by simp
   refine aM (F:=pj) Gc (by simp[pj]) ?_;simp only[pj]
   repeat' first|refine ae (fun _=> ?_) fun _=> ?_|refine ay (ga @k (ga @b (ga @ba (ga @az (ga @bb (ga @br (ga @fJ (ga @bz @wj)))))))) (ga @c (ga @f @g)) ?_|exact ax (ga @k (ga @b (ga @ba (ga @az (ga @bb (ga @br (ga @fJ (ga @bz @wj)))))))) (ga @c (ga @f @g))|fail
   all_goals first|rfl|trace_state
def ec:en→af→List af
 |[],_=>[]
 |e::V,i=>if e.1=i then e.2 else ec V i
theorem FZ{V:en}{i:af}{j:Nat}{l:List af}(a:(V.map (·.1)).Nodup)(h:V[j]?=some (i,l)):ec V i=l:=by
 induction V generalizing j with
 |nil=>simp at h
 |cons e V c=>
  rw[bV,qD]at a;rw[ec];cases j with
  |zero=>simp at h;subst h;rw[if_pos rfl]
  |succ j=>
   have h:V[j]?=some (i,l):=by simpa using h
   rw[if_neg fun b=>a.1 (by rw[b];exact fV (f:=Prod.fst) (bX h))];exact c a.2 h
theorem xt{V:en}{i:af}(h:i∉V.map (·.1)):ec V i=[]:=by
 induction V with
 |nil=>rfl
 |cons e V c=>
  rw[bV,bM]at h;rw[ec,if_neg fun a=>h (.inl a.symm)];exact c fun b=>h (.inr b)
def eE(l:aD)(i:af):Bool:=(me l i).isSome&&decide (ec (kj l).2 i=[])
set_option maxHeartbeats 1000000 in
theorem U4(l:aD)(p:l.length≤1000)(t: ∀x∈l,cz x.pat∧du x.pat)(k: ∀x∈l,(cD x.pat).length≤1000000)(g:(bs l).Nodup)(i:af):aG Tryz.prog 16 [.sl 37 (l.map b5),.agg (aj i)] (dB (eE l i)):=by
 have b:=FY l p t i;have m:=fun s=>FP l p t k g s;unfold eE;by_cases h:(me l i).isSome=true
 ·rw[h]at b⊢;obtain⟨at_,c⟩: ∃q,q=(me l i).getD .zero:=⟨_,rfl⟩
  rw[←c]at b;obtain⟨A,d⟩: ∃q,q=(kj l).2:=⟨_,rfl⟩
  rw[←d]at m⊢;clear c d;refine aM (F:=sP) Md (by simp[sP]) ?_;simp only[sP]
  repeat' first|refine ae (fun _=> ?_) fun _=> ?_|refine aL ?_|refine aq.data (b) rfl ?_|(refine aq.fn ((m _).mono ?_);rintro _ z ⟨rfl,M,f⟩)|simp only[az,bb,bz,aQ,wj,wy,qg,aH,simprocAttr,aA,aF,aE,aw]
  have hm:z[3]?=some (.map true (cI M)):=f.map;have a:=sA i M 0;rcases f.find i with⟨e,o⟩|⟨j,v,r,e,o,h3,h4⟩
  ·rw[e]at a;rw[xt o]
   repeat' first|refine ae (fun _=> ?_) fun _=> ?_|refine aL ?_|simp only[hm,a,az,pT,mS,Int.reduceBEq,wj,wy,qg,aH,simprocAttr,aA,aF,aE,aw]
   all_goals first|rfl|trace_state
  ·rw[e]at a;rw[FZ f.nd h3];rcases h4 with⟨rfl,rfl⟩|⟨rr,rfl,hr⟩
   ·repeat' first|refine ae (fun _=> ?_) fun _=> ?_|refine aL ?_|simp only[hm,a,az,eZ,ek,Int.reduceBEq,wj,wy,qg,aH,simprocAttr,aA,aF,aE,aw]
    all_goals first|rfl|trace_state
   ·have n:((r.length:Int)==0)=decide (r=[]):=by
     cases r with
     |nil=>rfl
     |cons y r=>rw[show decide (y::r=[])=false by simp];simp;omega
    obtain⟨q,w⟩: ∃q,q=decide (r=[]):=⟨_,rfl⟩
    rw[←w]at n⊢
    repeat' first|refine ae (fun _=> ?_) fun _=> ?_|refine aL ?_|simp only[hm,a,n,az,eZ,ek,aQ,wj,wy,qg,aH,simprocAttr,aA,aF,aE,aw]
    all_goals first|rfl|(rename_i u;exact u.symm)|trace_state
 ·have h:(me l i).isSome=false:=by simpa using h
  rw[h]at b⊢;refine aM (F:=sP) Md (by simp[sP]) ?_;simp only[sP];exact bU (ga @az (ga @bb (ga @bz @wj))) @b
  all_goals first|rfl|trace_state
theorem wD(p:aX): ∀(i:Nat) (x:au),(dR p).1[i]?=some x→x.id=⟨(bq ar p).1,i⟩:=by
 intro i x h;unfold dR at h;split at h
 ·simp at h
 ·rw[dL,dt]at h;obtain⟨y,c,rfl⟩:=h;have a:=JT p i y c;have b:(nf (bq ar p).1 y).id={y.id with p:=(bq ar p).1}:=by
   unfold nf jB;dsimp only
   repeat' split
   all_goals rfl
  rw[b,a];rfl
theorem Tb(a:af):cY a a=0:=by
 unfold cY;have h:bS a.p a.p=0:=(jz a.p a.p).2 rfl;rw[if_neg (by rw[h];simp),if_neg a8,if_neg a8]
theorem Ta{d:Dg}{i j:Nat}(h:i≤j): ¬cY ⟨d,j⟩ ⟨d,i⟩<0:=by
 unfold cY;have a:bS d d=0:=(jz d d).2 rfl;dsimp only;rw[if_neg (by rw[a];simp)];split
 ·omega
 ·split<;>omega
theorem T9{a b:af}(h:bS a.p b.p<0): ¬cY b a<0:=by
 unfold cY;have c:=uO a.p b.p;rw[if_pos a8];omega
def ff(l:aD):List au:=l.flatMap fun x=>(dR x.pat).1
theorem ER{p:aX}(a:du p):(dR p).1.length≤80040:=by
 unfold dR;split
 ·exact fy _
 ·rw[aQ];exact zW a
def oc(V:en)(A:List au):List af:=(A.filter fun x=>decide (ec V x.id=[])).map (·.id)
theorem U3(V:en)(x:au)(A:List au):oc V (x::A)=if ec V x.id=[]then x.id::oc V A else oc V A:=by
 unfold oc;by_cases h:ec V x.id=[]
 ·rw[List.filter_cons_of_pos (by simpa using h),if_pos h,bV]
 ·rw[List.filter_cons_of_neg (by simpa using h),if_neg h]
def Dr(l:aD):List af:=oc (kj l).2 (ff l)
end Go.Proofs.Q
