/- Lemmas. -/
import Derived.Test.YtikhfhjohjfamaaGreatDoorPBM
import Derived.Test.YtikhfhjohjfamaaGreatDoorPBL
set_option linter.unusedVariables false
set_option linter.unusedSimpArgs false
set_option maxRecDepth 100000
namespace Go.Proofs.Q
open Go Go.Bb Go.RowKit Go.Proofs.Lg
open Go.Ab (D RD)
def kR:CC:=(fo [o0 5 (.box (.c (.agg qC))),oN (.st 172 (.t 5) (.t 12))])
def ki:CC:=(.block 1
 (.seq
 (.seq
 (fo [o0 13 (.ld none (.t 3)),o0 14 (.fad 0 (.t 5)),o0 15 (.ld (some 33) (.t 14)),o0 16 (.lkp true qd (.d (.sc (.bool false))) false (.t 13) (.t 15))])
 (.cond (.t 16)
 (.exit 1)
 .skip))
 (.seq
 (fo [o0 17 (.fad 171 (.t 5)),o0 18 (.ld none (.t 17)),o0 19 (.len 0 (.t 18)),o0 20 (.mov (xi 0))])
 (.block 2
 (.loop
 (.trim [20,3,5,4,18,19]
 (.seq
 (fo [o0 21 (.bin .lss (.t 20) (.t 19))])
 (.seq
 (.cond (.t 21)
 .skip
 (.exit 2))
 (.seq
 (.block 3
 (.seq
 (fo [o0 22 (.iad 33 (.t 18) (.t 20)),o0 23 (.ld (some 33) (.t 22)),o0 7 (.box (.c (.agg vk))),oN (.st 33 (.t 7) (.t 23))])
 (.seq
 (fo [o0 24 (.ld none (.t 4)),o0 25 (.ld (some 33) (.t 7)),o0 27 (.fad 0 (.t 5)),o0 28 (.ld (some 33) (.t 27)),o0 29 (.bsf 33 1 vk [(0,33,(.t 28))]),o0 30 (.men true qd (.nil 33) (.t 24) (.t 25)),o0 26 (.ext (.t 30) 0),o0 31 (.app true 32 33 40 (.t 26) (.t 29)),o0 32 (.ext (.t 30) 1),oN (.mst (.t 24) (.t 32) (.t 31))])
 (.seq
 (fo [o0 33 (.fad 33 (.t 5)),o0 34 (.ld none (.t 33)),o0 35 (.bin .eql (.t 34) (xi 7))])
 (.cond (.t 35)
 (fo [o0 36 (.ld none (.t 3)),o0 37 (.ld (some 33) (.t 7)),oN (.mup true qd (.t 36) (.t 37) xT)])
 .skip)))))
 (fo [o0 38 (.bin .add (.t 20) (xi 1)),om 20 38]))))))))))
structure KS(n:Nat)(b:List ak×eU)(M:MI)(c:Nat)(s:List aa):Prop where
 b3:s[n+1]?=some (.cells [.mp n])
 m0:s[n]?=some (.map true (cI (jP b.1)))
 b4:s[n+3]?=some (.cells [.mp (n+2)])
 t:TI (n+2) M b.2 s
 bd: ∀e∈b.2,e.2.length<=c
theorem KS.app{n:Nat}{b:List ak×eU}{M:MI}{c:Nat}{s:List aa}(h:KS n b M c s)(J:List aa):KS n b M c (s++J):=⟨bz h.b3 J,bz h.m0 J,bz h.b4 J,h.t.app J,h.bd⟩
theorem KS.set{n:Nat}{b:List ak×eU}{M:MI}{c:Nat}{s:List aa}(h:KS n b M c s){j:Nat}{o o':aa}(a:s[j]?=some o)(f:n+4<=j)(d:(∃cs,o= .cells cs)\/ ∃L,o= .loop L):KS n b M c (s.set j o'):=
 ⟨getSet h.b3 a8,getSet h.m0 a8,getSet h.b4 a8,h.t.setC a a8 (by rintro e z n rfl;rcases d with⟨_,h⟩|⟨_,h⟩<;>cases h),h.bd⟩
set_option maxHeartbeats 4000000 in
theorem SG{n i:Nat}{x:ay}(c9:x.over.length<=1000){fr:Fr}{s:List aa}(hi:n+4<=i){b0:List ak×eU}{M0:MI}{c:Nat}(hc:c<=1000000000000)(c2:KS n b0 M0 c s)(hL:s[i]?=some (.loop ⟨.ready,none,fr,[12],40,kR,ki⟩)){K:AV->List aa->Prop}
  (f3:Bb.look fr 3=some (.ptr (n+1) 0)) (f4:Bb.look fr 4=some (.ptr (n+3) 0))
  (hK: ∀M' s',KS n (if eW b0.1 x.id=true then b0 else kh x x.over b0) M' (c+x.over.length) s'->s'[i]?=some (.loop ⟨.ready,none,fr,[12],40,kR,ki⟩)->ja (i+1) s s'->K (.d (dB true)) s'):iQ Tryz.prog i [.d (.agg (aO x))] s K:=by
 have c4:=(aV.1 hL).1;unfold iQ;rw[hL];refine⟨rfl,rfl,?_⟩;simp only[kR,putL,oK,xJ]
 repeat' first|refine ab (λ_=> ?_) λ_=> ?_|refine aH ?_|simp only[dt,bB,lR,cG,aM,wj,wy,qg,aE,simprocAttr,ax,aD,aB,aw]
 unfold kZ;rw[bz hL];refine⟨rfl,?_⟩;have hT:=(c2.app [.cells ((aO x).map .d)]).set (o':= .loop ⟨.busy,none,fr,[12],40,kR,ki⟩) (bz hL _) hi (.inr ⟨_,rfl⟩);have a1:((s++[aa.cells (List.map AV.d (aO x))]).set i (.loop ⟨.busy,none,fr,[12],40,kR,ki⟩))[s.length]?=some (.cells ((aO x).map .d)):=getSet (by simp) a8
 have a9:((s++[aa.cells (List.map AV.d (aO x))]).set i (.loop ⟨.busy,none,fr,[12],40,kR,ki⟩))[i]?=some (.loop ⟨.busy,none,fr,[12],40,kR,ki⟩):=eg (bz hL _);have b6:ja (i+1) s ((s++[aa.cells (List.map AV.d (aO x))]).set i (.loop ⟨.busy,none,fr,[12],40,kR,ki⟩)):=((ja.refl _ s).app _).set (bz hL _) (.inl a8);dsimp only
 change cy _ _ ki _ _ ((s++[aa.cells (List.map AV.d (aO x))]).set i (.loop ⟨.busy,none,fr,[12],40,kR,ki⟩));generalize(s++[aa.cells (List.map AV.d (aO x))]).set i (.loop ⟨.busy,none,fr,[12],40,kR,ki⟩)=T at hT a1 a9 b6⊢;obtain⟨n5,c6⟩: ∃n5,n5=s.length:=⟨_,rfl⟩
 rw[<-c6]at a1 c4⊢;have b2:=uo x.id (jP b0.1) 0;have hq:=Rz b0.1 x.id;obtain⟨q,c3⟩: ∃q,q=iB x.id (jP b0.1) 0:=⟨_,rfl⟩
 rw[<-c3]at b2 hq;have h3:=hT.b3;have h0:=hT.m0;simp only[ki];have a0: ∀(M':MI) (s':List aa),KS n (if eW b0.1 x.id=true then b0 else kh x x.over b0) M' (c+x.over.length) s'->s'[i]?=some (.loop ⟨.busy,none,fr,[12],40,kR,ki⟩)->ja (i+1) s s'->mh i K .normal s':=λM' s' k1 k2 k3=>by
  unfold mh;rw[k2];exact hK M' _ (k1.set k2 hi (.inr ⟨_,rfl⟩)) (eg k2) (k3.set k2 (.inl a8))
 by_cases b5:eW b0.1 x.id=true
 .rw[b5]at hq
  repeat' first|refine ab (λ_=> ?_) λ_=> ?_|refine aH ?_|simp only[dt,f3,h3,a1,h0,b2,hq,bB,aM,wj,wy,qg,aE,simprocAttr,ax,aD,aB,aw]
  refine a0 M0 T ?_ a9 b6;rw[if_pos b5];exact⟨hT.b3,hT.m0,hT.b4,hT.t,λe he=>by have:=hT.bd e he;omega⟩
 .rw[show eW b0.1 x.id=false by simpa using b5]at hq;rw[if_neg b5]at a0
  repeat' first|refine ab (λ_=> ?_) λ_=> ?_|refine aH ?_|simp only[dt,f3,f4,h3,a1,h0,b2,hq,bB,aM,wj,wy,qg,aE,simprocAttr,ax,aD,aB,aw]
  refine aZ.overI x.over (λk (b:(List ak×eU)×MI×List aa)=>[(20,iN k)]) (λ_ b=>b.2.2) (λr b=>kh x r b.1) (kh x x.over b0) (λk b=>KS n b.1 b.2.1 (c+k) b.2.2/\b.2.2[n5]?=some (.cells ((aO x).map .d))/\b.2.2[i]?=some (.loop ⟨.busy,none,fr,[12],40,kR,ki⟩)/\ja (i+1) s b.2.2) (b0,M0,T) a8 (fr0:=[(20,iN 0),(3,.ptr (n+1) 0),(5,.ptr n5 0),(4,.ptr (n+3) 0),(18,.d (.sl 33 (x.over.map ae))),(19,.d (dI x.over.length))]) ?_ aA rfl rfl ⟨hT,a1,a9,b6⟩ (λk b y a5 hk hd hw hR hJ=> ?_) (λb hd hR hJ=> ?_)
  .simp only[eQ,List.filterMap_cons,List.filterMap_nil,Bb.look,f3,f4,eY,if_true,if_false,reduceIte,Nat.reduceEqDiff];rfl
  .obtain⟨b,M,st⟩:=b;obtain⟨⟨B,A,C,E,b1⟩,m,G,H⟩:=hJ;dsimp only at hR B A C E b1 m G H;clear hT a1 a9 b6 h3 h0 b2 hq c3 a0 hK hL c2;rw[kh]at hR;have I:(st++[aa.cells ((ae y).map .d)])[st.length]?=some (.cells ((ae y).map .d)):=by simp
   have E:=E.app [aa.cells ((ae y).map .d)];have B:=bz B [aa.cells ((ae y).map .d)];have A:=bz A [aa.cells ((ae y).map .d)];have C:=bz C [aa.cells ((ae y).map .d)];have c8:n5<st.length:=(aV.1 m).1;have m:=bz m [aa.cells ((ae y).map .d)];have G:=bz G [aa.cells ((ae y).map .d)]
   have H:=H.app [aa.cells ((ae y).map .d)];have a2: ∀e∈jd b.2 y [x.id],e.2.length<=c+(k+1):=λe he=>by have:=Pe (news:=[x.id]) b1 e he;simpa[lq]using this
   have b7:bw 1 40=true:=by decide
   have a3:(cV [x.id]).length=33:=xY [x.id];have a4:([ae x.id].flatten).map AV.d=cV [x.id]:=(r8 [x.id]).symm;have P:ey qd (dF y) (cI M) 0=some (iB y M 0):=uo y M 0;have X:=uo y (jP b.1) 0;have N:=YE b.1 y;obtain⟨q2,c7⟩: ∃q2,q2=iB y (jP b.1) 0:=⟨_,rfl⟩
   rw[<-c7]at X N;obtain⟨g,Z⟩: ∃g,g=st++[aa.cells ((ae y).map .d)]:=⟨_,rfl⟩
   rw[<-Z]at E B A C m G H I;have p:=E.map;by_cases h7:x.kind=7
   .rw[if_pos h7]at hR;rcases E.find y with⟨h1,W⟩|⟨j,v,l,h1,W,h3,h4⟩
    .rw[h1]at P;have f:=E.new1 (x:=x.id) (M':=M++[(y,.vec g.length 1 33)]) (o:= .map true (cI (M++[(y,.nil 33)]))) ⟨_,rfl⟩ (.inl ⟨W,rfl⟩);have w:(g.set (n+2) (.map true (cI (M++[(y,.nil 33)])))++[aa.vec 32 33 (cV [x.id])])[n+2]?=some (.map true (cI (M++[(y,.nil 33)]))):=bz (eg p) _;have Q:(cI (M++[(y,.nil 33)]))[M.length]?=some (dF y,.nil 33):=AD (by simp)
     have O:(cI (M++[(y,.nil 33)])).set M.length (dF y,.vec g.length 1 33)=cI (M++[(y,.vec g.length 1 33)]):=by rw[qZ];simp
     have a: ∀(j:Nat) (o:aa),j≠n+2->g[j]?=some o->((g.set (n+2) (.map true (cI (M++[(y,.nil 33)])))++[aa.vec 32 33 (cV [x.id])]).set (n+2) (.map true (cI (M++[(y,.vec g.length 1 33)]))))[j]?=some o:=λj o hj h=>getSet (bz (getSet h (Ne.symm hj)) _) (Ne.symm hj)
     have u:ja (i+1) s ((g.set (n+2) (.map true (cI (M++[(y,.nil 33)])))++[aa.vec 32 33 (cV [x.id])]).set (n+2) (.map true (cI (M++[(y,.vec g.length 1 33)])))):=((H.set p (.inl a8)).app _).set w (.inl a8)
     obtain⟨F,J⟩: ∃F,F=((g.set (n+2) (.map true (cI (M++[(y,.nil 33)])))++[aa.vec 32 33 (cV [x.id])]).set (n+2) (.map true (cI (M++[(y,.vec g.length 1 33)])))):=⟨_,rfl⟩
     rw[<-J]at f u;simp only[<-J]at a;have o0:=a n _ a8 A;have S:=a (n+1) _ a8 B;have U:=a (n+3) _ a8 C;have V:=a n5 _ a8 m;have oi:=a i _ a8 G;have o7:=a st.length _ a8 I
     repeat' first|refine ab (λ_=> ?_) λ_=> ?_|refine aH ?_|simp only[hd,hw,a5,h7,beq_self_eq_true,X,N,fe,aN,bB,aM,<-Z,<-J,I,A,B,C,m,p,P,DE,Hz,w,Q,O,b7,a4,a3,jU,o0,S,U,V,o7,wj,wy,qg,aE,simprocAttr,ax,aD,aB,aw]
     exact⟨((sj b.1 y,jd b.2 y [x.id]),_,_),rfl,hR,⟨getSet S a8,eg o0,getSet U a8,f.setC o0 a8 (by intro e z n h;cases h),a2⟩,getSet V a8,getSet oi a8,u.set o0 (.inl a8)⟩
    .rw[h1]at P;have a7:(cI M).set j (dF y,v)=cI M:=by
      rw[qZ];congr 1;apply gW;intro i;by_cases e:i=j
      .subst e;rw[ej (aV.1 W).1,W]
      .rw[bC (Ne.symm e)]
     have D:g.set (n+2) (.map true (cI M))=g:=zA p;have Q:=AD W;rcases h4 with⟨rfl,rfl⟩|⟨r,rfl,Y⟩
     .have f:=E.new1 (x:=x.id) (M':=M.set j (y,.vec g.length 1 33)) (o:= .map true (cI M)) ⟨_,rfl⟩ (.inr ⟨j,_,W,h3,rfl⟩);rw[D]at f;have w:(g++[aa.vec 32 33 (cV [x.id])])[n+2]?=some (.map true (cI M)):=bz p _;have O:(cI M).set j (dF y,.vec g.length 1 33)=cI (M.set j (y,.vec g.length 1 33)):=qZ _ _ _ _
      have a: ∀(R:Nat) (o:aa),R≠n+2->g[R]?=some o->((g++[aa.vec 32 33 (cV [x.id])]).set (n+2) (.map true (cI (M.set j (y,.vec g.length 1 33)))))[R]?=some o:=λR o hj h=>getSet (bz h _) (Ne.symm hj);have u:ja (i+1) s ((g++[aa.vec 32 33 (cV [x.id])]).set (n+2) (.map true (cI (M.set j (y,.vec g.length 1 33))))):=(H.app _).set w (.inl a8)
      obtain⟨F,J⟩: ∃F,F=((g++[aa.vec 32 33 (cV [x.id])]).set (n+2) (.map true (cI (M.set j (y,.vec g.length 1 33))))):=⟨_,rfl⟩
      rw[<-J]at f u;simp only[<-J]at a;have o0:=a n _ a8 A;have S:=a (n+1) _ a8 B;have U:=a (n+3) _ a8 C;have V:=a n5 _ a8 m;have oi:=a i _ a8 G;have o7:=a st.length _ a8 I
      repeat' first|refine ab (λ_=> ?_) λ_=> ?_|refine aH ?_|simp only[hd,hw,a5,h7,beq_self_eq_true,X,N,fe,aN,bB,aM,<-Z,<-J,I,A,B,C,m,p,P,a7,D,w,Q,O,b7,a4,a3,o0,S,U,V,o7,wj,wy,qg,aE,simprocAttr,ax,aD,aB,aw]
      exact⟨((sj b.1 y,jd b.2 y [x.id]),_,_),rfl,hR,⟨getSet S a8,eg o0,getSet U a8,f.setC o0 a8 (by intro e z n h;cases h),a2⟩,getSet V a8,getSet oi a8,u.set o0 (.inl a8)⟩
     .have f:=E.grow (news:=[x.id]) W h3 Y;have c5:l.length<=c+k:=b1 (y,l) (bR h3);have c0:bw (l.length+1) 40=true:=room_le a8 a8;have c1:r≠n+2:=λe=>by subst e;rw[p]at Y;cases Y
      have b9:(cV l).length=l.length*33:=xY l;have b8:cV l++cV [x.id]=cV (l++[x.id]):=HA l [x.id];have w:(g.set r (.vec 32 33 (cV (l++[x.id]))))[n+2]?=some (.map true (cI M)):=getSet p c1;have O:(cI M).set j (dF y,.vec r (l.length+1) 33)=cI (M.set j (y,.vec r (l.length+1) 33)):=qZ _ _ _ _;rw[aQ,oJ]at f
      have a: ∀(R:Nat) (o:aa),R≠n+2->(∀e z n,o≠ .vec e z n)->g[R]?=some o->((g.set r (.vec 32 33 (cV (l++[x.id])))).set (n+2) (.map true (cI (M.set j (y,.vec r (l.length+1) 33)))))[R]?=some o:=λR o hj ho h=>getSet (getSet h (λe=>by subst e;rw[h]at Y;exact ho _ _ _ (aJ Y))) (Ne.symm hj)
      have u:ja (i+1) s ((g.set r (.vec 32 33 (cV (l++[x.id])))).set (n+2) (.map true (cI (M.set j (y,.vec r (l.length+1) 33))))):=(H.set Y (.inr ⟨λcs e=>(by cases e),λL e=>(by cases e)⟩)).set w (.inl a8);obtain⟨F,J⟩: ∃F,F=((g.set r (.vec 32 33 (cV (l++[x.id])))).set (n+2) (.map true (cI (M.set j (y,.vec r (l.length+1) 33))))):=⟨_,rfl⟩
      rw[<-J]at f u;simp only[<-J]at a;have o0:=a n _ a8 (by intro e z n h;cases h) A;have S:=a (n+1) _ a8 (by intro e z n h;cases h) B;have U:=a (n+3) _ a8 (by intro e z n h;cases h) C;have V:=a n5 _ a8 (by intro e z n h;cases h) m;have oi:=a i _ a8 (by intro e z n h;cases h) G
      have o7:=a st.length _ a8 (by intro e z n h;cases h) I
      repeat' first|refine ab (λ_=> ?_) λ_=> ?_|refine aH ?_|simp only[hd,hw,a5,h7,beq_self_eq_true,X,N,fe,aN,bB,aM,<-Z,<-J,I,A,B,C,m,p,P,a7,D,w,Q,O,Y,a4,a3,b9,b8,c0,o0,S,U,V,o7,wj,wy,qg,aE,simprocAttr,ax,aD,aB,aw]
      exact⟨((sj b.1 y,jd b.2 y [x.id]),_,_),rfl,hR,⟨getSet S a8,eg o0,getSet U a8,f.setC o0 a8 (by intro e z n h;cases h),a2⟩,getSet V a8,getSet oi a8,u.set o0 (.inl a8)⟩
   .rw[if_neg h7]at hR;have e7:(x.kind==7)=false:=by simpa using h7
    rcases E.find y with⟨h1,W⟩|⟨j,v,l,h1,W,h3,h4⟩
    .rw[h1]at P;have f:=E.new1 (x:=x.id) (M':=M++[(y,.vec g.length 1 33)]) (o:= .map true (cI (M++[(y,.nil 33)]))) ⟨_,rfl⟩ (.inl ⟨W,rfl⟩);have w:(g.set (n+2) (.map true (cI (M++[(y,.nil 33)])))++[aa.vec 32 33 (cV [x.id])])[n+2]?=some (.map true (cI (M++[(y,.nil 33)]))):=bz (eg p) _;have Q:(cI (M++[(y,.nil 33)]))[M.length]?=some (dF y,.nil 33):=AD (by simp)
     have O:(cI (M++[(y,.nil 33)])).set M.length (dF y,.vec g.length 1 33)=cI (M++[(y,.vec g.length 1 33)]):=by rw[qZ];simp
     have a: ∀(j:Nat) (o:aa),j≠n+2->g[j]?=some o->((g.set (n+2) (.map true (cI (M++[(y,.nil 33)])))++[aa.vec 32 33 (cV [x.id])]).set (n+2) (.map true (cI (M++[(y,.vec g.length 1 33)]))))[j]?=some o:=λj o hj h=>getSet (bz (getSet h (Ne.symm hj)) _) (Ne.symm hj)
     have u:ja (i+1) s ((g.set (n+2) (.map true (cI (M++[(y,.nil 33)])))++[aa.vec 32 33 (cV [x.id])]).set (n+2) (.map true (cI (M++[(y,.vec g.length 1 33)])))):=((H.set p (.inl a8)).app _).set w (.inl a8)
     obtain⟨F,J⟩: ∃F,F=((g.set (n+2) (.map true (cI (M++[(y,.nil 33)])))++[aa.vec 32 33 (cV [x.id])]).set (n+2) (.map true (cI (M++[(y,.vec g.length 1 33)])))):=⟨_,rfl⟩
     rw[<-J]at f u;simp only[<-J]at a;have o0:=a n _ a8 A;have S:=a (n+1) _ a8 B;have U:=a (n+3) _ a8 C;have V:=a n5 _ a8 m;have oi:=a i _ a8 G;have o7:=a st.length _ a8 I
     repeat' first|refine ab (λ_=> ?_) λ_=> ?_|refine aH ?_|simp only[hd,hw,a5,e7,X,N,fe,aN,bB,aM,<-Z,<-J,I,A,B,C,m,p,P,DE,Hz,w,Q,O,b7,a4,a3,jU,o0,S,U,V,o7,wj,wy,qg,aE,simprocAttr,ax,aD,aB,aw]
     exact⟨((b.1,jd b.2 y [x.id]),_,F),rfl,hR,⟨S,o0,U,f,a2⟩,V,oi,u⟩
    .rw[h1]at P;have a7:(cI M).set j (dF y,v)=cI M:=by
      rw[qZ];congr 1;apply gW;intro i;by_cases e:i=j
      .subst e;rw[ej (aV.1 W).1,W]
      .rw[bC (Ne.symm e)]
     have D:g.set (n+2) (.map true (cI M))=g:=zA p;have Q:=AD W;rcases h4 with⟨rfl,rfl⟩|⟨r,rfl,Y⟩
     .have f:=E.new1 (x:=x.id) (M':=M.set j (y,.vec g.length 1 33)) (o:= .map true (cI M)) ⟨_,rfl⟩ (.inr ⟨j,_,W,h3,rfl⟩);rw[D]at f;have w:(g++[aa.vec 32 33 (cV [x.id])])[n+2]?=some (.map true (cI M)):=bz p _;have O:(cI M).set j (dF y,.vec g.length 1 33)=cI (M.set j (y,.vec g.length 1 33)):=qZ _ _ _ _
      have a: ∀(R:Nat) (o:aa),R≠n+2->g[R]?=some o->((g++[aa.vec 32 33 (cV [x.id])]).set (n+2) (.map true (cI (M.set j (y,.vec g.length 1 33)))))[R]?=some o:=λR o hj h=>getSet (bz h _) (Ne.symm hj);have u:ja (i+1) s ((g++[aa.vec 32 33 (cV [x.id])]).set (n+2) (.map true (cI (M.set j (y,.vec g.length 1 33))))):=(H.app _).set w (.inl a8)
      obtain⟨F,J⟩: ∃F,F=((g++[aa.vec 32 33 (cV [x.id])]).set (n+2) (.map true (cI (M.set j (y,.vec g.length 1 33))))):=⟨_,rfl⟩
      rw[<-J]at f u;simp only[<-J]at a;have o0:=a n _ a8 A;have S:=a (n+1) _ a8 B;have U:=a (n+3) _ a8 C;have V:=a n5 _ a8 m;have oi:=a i _ a8 G;have o7:=a st.length _ a8 I
      repeat' first|refine ab (λ_=> ?_) λ_=> ?_|refine aH ?_|simp only[hd,hw,a5,e7,X,N,fe,aN,bB,aM,<-Z,<-J,I,A,B,C,m,p,P,a7,D,w,Q,O,b7,a4,a3,o0,S,U,V,o7,wj,wy,qg,aE,simprocAttr,ax,aD,aB,aw]
      exact⟨((b.1,jd b.2 y [x.id]),_,F),rfl,hR,⟨S,o0,U,f,a2⟩,V,oi,u⟩
     .have f:=E.grow (news:=[x.id]) W h3 Y;have c5:l.length<=c+k:=b1 (y,l) (bR h3);have c0:bw (l.length+1) 40=true:=room_le a8 a8;have c1:r≠n+2:=λe=>by subst e;rw[p]at Y;cases Y
      have b9:(cV l).length=l.length*33:=xY l;have b8:cV l++cV [x.id]=cV (l++[x.id]):=HA l [x.id];have w:(g.set r (.vec 32 33 (cV (l++[x.id]))))[n+2]?=some (.map true (cI M)):=getSet p c1;have O:(cI M).set j (dF y,.vec r (l.length+1) 33)=cI (M.set j (y,.vec r (l.length+1) 33)):=qZ _ _ _ _;rw[aQ,oJ]at f
      have a: ∀(R:Nat) (o:aa),R≠n+2->(∀e z n,o≠ .vec e z n)->g[R]?=some o->((g.set r (.vec 32 33 (cV (l++[x.id])))).set (n+2) (.map true (cI (M.set j (y,.vec r (l.length+1) 33)))))[R]?=some o:=λR o hj ho h=>getSet (getSet h (λe=>by subst e;rw[h]at Y;exact ho _ _ _ (aJ Y))) (Ne.symm hj)
      have u:ja (i+1) s ((g.set r (.vec 32 33 (cV (l++[x.id])))).set (n+2) (.map true (cI (M.set j (y,.vec r (l.length+1) 33))))):=(H.set Y (.inr ⟨λcs e=>(by cases e),λL e=>(by cases e)⟩)).set w (.inl a8);obtain⟨F,J⟩: ∃F,F=((g.set r (.vec 32 33 (cV (l++[x.id])))).set (n+2) (.map true (cI (M.set j (y,.vec r (l.length+1) 33))))):=⟨_,rfl⟩
      rw[<-J]at f u;simp only[<-J]at a;have o0:=a n _ a8 (by intro e z n h;cases h) A;have S:=a (n+1) _ a8 (by intro e z n h;cases h) B;have U:=a (n+3) _ a8 (by intro e z n h;cases h) C;have V:=a n5 _ a8 (by intro e z n h;cases h) m;have oi:=a i _ a8 (by intro e z n h;cases h) G
      have o7:=a st.length _ a8 (by intro e z n h;cases h) I
      repeat' first|refine ab (λ_=> ?_) λ_=> ?_|refine aH ?_|simp only[hd,hw,a5,e7,X,N,fe,aN,bB,aM,<-Z,<-J,I,A,B,C,m,p,P,a7,D,w,Q,O,Y,a4,a3,b9,b8,c0,o0,S,U,V,o7,wj,wy,qg,aE,simprocAttr,ax,aD,aB,aw]
      exact⟨((b.1,jd b.2 y [x.id]),_,F),rfl,hR,⟨S,o0,U,f,a2⟩,V,oi,u⟩
  .obtain⟨b,M,st⟩:=b;obtain⟨a6,m,G,H⟩:=hJ;dsimp only at hR a6 m G H;rw[kh]at hR;rw[<-hR]at a6;refine aC (ga @hd @wj) trivial ?_;exact a0 M st a6 G H
theorem KS.le{n:Nat}{b:List ak×eU}{M:MI}{c a:Nat}{s:List aa}(h:KS n b M c s)(hc:c<=a):KS n b M a s:=⟨h.b3,h.m0,h.b4,h.t,λe d=>ez (h.bd e d) hc⟩
theorem SF{n i:Nat}{A:List ay}(v:A.length<=1000000000)(c: ∀x∈A,x.over.length<=1000)(hi:n+4<=i){fr:Fr}(g:Bb.look fr 3=some (.ptr (n+1) 0))(l:Bb.look fr 4=some (.ptr (n+3) 0)):
  Cons i (i+1) A λk s=>(∃M,KS n (mG (A.take k) ([],[])) M (1000*k) s)/\s[i]?=some (.loop ⟨.ready,none,fr,[12],40,kR,ki⟩):=by
 refine⟨λk s o h=> ?_,λk s j o o' h w p hc=> ?_,λk s h=> ?_,λk x s K d h m=> ?_⟩
 .obtain⟨⟨M,a⟩,b⟩:=h;exact⟨⟨M,a.app _⟩,bz b _⟩
 .obtain⟨⟨M,a⟩,b⟩:=h;exact⟨⟨M,a.set p a8 hc⟩,getSet b a8⟩
 .exact(aV.1 h.2).1
 .obtain⟨⟨M,a⟩,b⟩:=h;have hk:=(aV.1 d).1;have f:=c x (bR d);refine SG f hi a8 a b g l λM' u q r t=>m u ⟨⟨M',?_⟩,r⟩ t;have e:A.take (k+1)=A.take k++[x]:=by rw[s9 hk];congr 2;exact(aV.1 d).2
  rw[e,JN];exact q.le a8
theorem E5{p:aU}(e:db p):(dp p).length<=80040:=by
 have h: ∀(l:List az) (own:List ay),(∀c∈l,c.lines.length<=1000)->(eH l own).1.length<=own.length+2001*l.length:=by
  intro l
  induction l with
  |nil=>intro own _;simp[eH]
  |cons c l i=>
   intro own f;rw[eH];have j:=EH (c:=c) (n:=own.length) (f c (by simp));split
   .simp
   .split
    .simp
    .have:=i (own++fK c own.length) λc hc=>f c (by simp[hc]);rw[aQ]at this;rw[aY];omega
 unfold dp;split
 .exact fG _
 .rename_i h0;have b:(dN p).2=0:=by
   unfold cQ at h0;by_cases a:(dN p).2=0
   .exact a
   .rw[if_pos a]at h0;exact absurd a h0
  obtain⟨_,g,_,d,_⟩:=jx b;rw[d];have:=h p.changes [] λc hc=>(e.line c hc).1;have:=e.chg;simp at*;omega
theorem Pv{p:aU}: ∀x∈(ee p).1,x.over.length<=1000:=by
 intro x a;unfold ee at a;split at a
 .cases a
 .obtain⟨y,b,rfl⟩:=bM.1 a;have:=IM p y b;show((y.over.map _).mergeSort ft).length<=1000;rw[lj,aM];omega
theorem SI{l:ar}(g:l.length<=1000)(f: ∀x∈l,bS x.pat/\db x.pat):(lI l).length<=1000000000/\ ∀x∈lI l,x.over.length<=1000:=by
 have c:=EW l l.length [] (λd e=>by cases e);have a:=EV l l.length [];constructor
 .unfold lI;have:=wg (lV l) 80040 (ko l l.length []).reverse λd e=>by
   obtain⟨x,b,hg⟩:=Eh (c d (by simpa using e));unfold lV;rw[oI,hg];show(ee x.pat).1.length<=_;unfold ee;split
   .exact fG _
   .rw[aM];exact E5 (f x b).2
  rw[oI]at this;simp at a;omega
 .intro x b;unfold lI at b;obtain⟨d,_,b⟩:=vu.1 b;unfold lV at b;exact Pv x (vw.1 b)
def jh(l:ar):List ak×eU:=mG (lI l) ([],[])
set_option maxHeartbeats 2000000 in
theorem Ev(l:ar)(E:l.length<=1000)(A: ∀x∈l,bS x.pat/\db x.pat)(p: ∀x∈l,(bu x.pat).length<=1000000)(o:(b8 l).Nodup)(s:List aa):
  bs Tryz.prog 110 [.d (.sl 37 (l.map aX))] s λd F=>d= .mp (s.length+2)/\ ∃M,TI (s.length+2) M (jh l).2 F:=by
 have z:=SI E A;have B:=λs=>SL l s;refine cz Tryz.f110 ?_ [100029,31] [[11,2,4,3],[20,3,5,4,18,19]];refine sH @wj @B ?_;change cy Tryz.prog none (.rng 40 (.t 11) [12] kR ki) _ _ _;obtain⟨n,b⟩: ∃n,n=s.length:=⟨_,rfl⟩
 have g:(s++[aa.map true [],aa.cells [AV.mp s.length],aa.map true [],aa.cells [AV.mp (s.length+2)]])[n+2]?=some (.map true (cI [])):=by rw[b];simp[cI]
 have c:KS n ([],[]) [] (1000*0) (s++[aa.map true [],aa.cells [AV.mp s.length],aa.map true [],aa.cells [AV.mp (s.length+2)]]):=
  ⟨by rw[b];simp,by rw[b];simp[jP,cI],by rw[b];simp,⟨g,rfl,by simp,λj k v h=>by simp at h,λi j e H r _ h=>by simp at h⟩,λe D=>by cases D⟩
 have f:(s++[aa.map true [],aa.cells [AV.mp s.length],aa.map true [],aa.cells [AV.mp (s.length+2)]]).length=n+4:=by rw[b];simp
 rw[<-b]at*;generalize s++[aa.map true [],aa.cells [AV.mp n],aa.map true [],aa.cells [AV.mp (n+2)]]=s0 at c f⊢;clear g;have a:=SF (n:=n) (i:=s0.length) z.1 z.2 a8 (fr:=[(11,.clo 250 [] [.d (.ref [.sl 37 (l.map aX)])]),(2,.d (.sc (.map none))),(4,.ptr (n+3) 0),(3,.ptr (n+1) 0)]) rfl rfl;rw[CW]
 refine⟨trivial,_,_,_,rfl,mc.fn (bs.mono (SH l a8 A p o s0.length (s0.length+1) _ a _ ⟨⟨[],c.app _⟩,by simp⟩) ?_)⟩;rintro _ G ⟨_,⟨M,u⟩,w⟩;rw[dL (bg _)]at u;unfold mZ;rw[w];refine⟨by simp,?_⟩
 have m:=u.set (o':= .loop ⟨.exhausted,none,[(11,.clo 250 [] [.d (.ref [.sl 37 (l.map aX)])]),(2,.d (.sc (.map none))),(4,.ptr (n+3) 0),(3,.ptr (n+1) 0)],[12],40,kR,ki⟩) w a8 (.inr ⟨_,rfl⟩);have y:=m.b4;have C:(jh l)=mG (lI l) ([],[]):=rfl;rw[<-C]at m;have q:=m.t;dsimp only
 generalize G.set s0.length (.loop ⟨.exhausted,none,[(11,.clo 250 [] [.d (.ref [.sl 37 (l.map aX)])]),(2,.d (.sc (.map none))),(4,.ptr (n+3) 0),(3,.ptr (n+1) 0)],[12],40,kR,ki⟩)=s4 at y q⊢;refine aC (ga @y @wj) trivial ?_
 all_goals first|exact⟨M,q⟩|exact⟨rfl,M,q⟩|trace_state
theorem Sf(l:List ay)(p:l.length<=100000000)(g:FuncId)(i cs:List AV)(a:ay->Bool)(s:List aa)(e: ∀(x:ay) (K:AV->List aa->Nat->Prop),x∈l->(∀h,K (.d (dB (a x))) s h)->af Tryz.prog (.clo g i cs) [.d (.agg (aO x))] s K):
  bs Tryz.prog 75 [.d (.sl 172 (l.map aO)),.clo g i cs] s λd o=>d= .d (dI (eI a l 0))/\o=s:=by
 refine cz Tryz.f75 ?_ [] [[8,0,1,7]];refine aC @wj trivial ?_;refine aZ.overI l (λk (b:Unit)=>[(8,iN k)]) (λ_ _=>s) (λr _=>eI a r (l.length-r.length)) (eI a l 0) (λ_ _=>True) () a8 aA aA rfl (by rw[jc]) trivial (λk _ x hg hk f j c _=> ?_) (λ_ f c _=> ?_)
 .have m:l.length-(x::l.drop (k+1)).length=k:=by rw[aY,ax];omega
  have n:l.length-(l.length-(k+1))=k+1:=by omega
  rw[m,eI]at c;have hc:=e x;by_cases hp:a x=true
  .rw[if_pos hp]at c;rw[hp]at hc
   repeat' first|refine ab (λ_=> ?_) λ_=> ?_|refine aH ?_|(refine hc _ (bR hg) (λh=> ?_))|simp only[f,j,hg,wj,wy,qg,aE,simprocAttr,ax,aD,aB,aw]
   all_goals rw[c]
  .rw[if_neg hp]at c;rw[show a x=false by simpa using hp]at hc
   repeat' first|refine ab (λ_=> ?_) λ_=> ?_|refine aH ?_|(refine hc _ (bR hg) (λh=> ?_))|simp only[f,j,hg,wj,wy,qg,aE,simprocAttr,ax,aD,aB,aw]
   all_goals exact⟨(),by rw[n];exact c⟩
 .rw[eI]at c;refine aC (ga @f @wj) trivial ?_
  all_goals rw[c]
theorem T3(x:ay)(i:ak):aI Tryz.prog 76 [.agg (aO x),.ref (ae i)] (dB (decide (x.id=i))):=by
 refine aL Tryz.f76 ?_ [100002]
 repeat' first|refine ab (λ_=> ?_) λ_=> ?_|refine aG (ga @aN (ga @bB @wj)) trivial ?_|exact aF (ga @aN (ga @bB @wj)) trivial|fail
 all_goals first|rfl|(simp_all;done)|trace_state
def lG(l:ar)(i:ak):Option ay:=match bh l i.p with
 |none=>none
 |some p=>(ee p).1.find? λx=>decide (x.id=i)
theorem J6{α:Type}(p:α->Bool): ∀(l:List α) (j:Nat) (x:α),l[j]?=some x->p x=true->(∀y∈l.take j,p y=false)->l.find? p=some x
 |[],j,x,h,_,_=>by simp at h
 |y::l,0,x,h,hp,_=>by simp at h;subst h;rw[List.find?_cons,hp]
 |y::l,j+1,x,h,hp,ht=>by
  rw[jW]at ht;rw[List.find?_cons,ht y (by simp)];exact J6 p l j x (by simpa using h) hp λz a=>ht z (by simp[a])
set_option maxHeartbeats 1000000 in
theorem K4(l:ar)(A:l.length<=1000)(v: ∀x∈l,bS x.pat/\db x.pat)(i:ak):aI Tryz.prog 25 [.sl 37 (l.map aX),.agg (ae i)] (.tup [.agg (aO ((lG l i).getD .zero)),dB (lG l i).isSome]):=by
 have c:=wO l a8 i.p;unfold lG;cases hg:bh l i.p with
 |none=>
  rw[hg]at c;refine aL Tryz.f25 ?_ [100003,300020,300031];exact bL (ga @b9 (ga @aN (ga @bB (ga @dG (ga @cG @wj))))) @c
  all_goals first|rfl|trace_state
 |some p=>
  rw[hg]at c;obtain⟨x,r,hp⟩: ∃x∈l,x.pat=p:=by
   by_cases h:i.p∈b8 l
   .obtain⟨x,r,b⟩:=Eh h;rw[hg]at b;exact⟨x,r,(aJ b).symm⟩
   .exfalso;have: ∀l:ar,i.p∉b8 l->bh l i.p=none:=by
     intro l
     induction l with
     |nil=>intro _;rfl
     |cons y l z=>
      intro h;unfold b8 at h;rw[bX,bF]at h;rw[bh,if_neg λe=>h (.inl e.symm)];exact z λb=>h (.inr b)
    rw[this l h]at hg;cases hg
  have q:=v x r;rw[hp]at q;have f:=BX p q.1 q.2;have n:=Hb p;obtain⟨a,ha⟩: ∃a,a=(ee p).1:=⟨_,rfl⟩
  obtain⟨e,t⟩: ∃a,a=(ee p).2:=⟨_,rfl⟩
  dsimp only;rw[<-ha]at f n⊢;rw[<-t]at f;have g:=λs=>Sf a a8 76 [] [.d (.ref (ae i))] (λx=>decide (x.id=i)) s (λx K _ u=>af.data (T3 x i) rfl (u 0));clear ha t;rcases yD (λx:ay=>decide (x.id=i)) a 0 with⟨m,b⟩|⟨j,y,m,b,h3,h4⟩
  .rw[m]at g;have o:a.find? (λx=>decide (x.id=i))=none:=List.find?_eq_none.2 λy w=>by rw[b y w];simp
   rw[o];refine aL Tryz.f25 ?_ [100003,300020,300031]
   repeat' first|refine ab (λ_=> ?_) λ_=> ?_|refine aG (ga @b9 (ga @aN (ga @bB (ga @bH (ga @dG (ga @cG @wj)))))) (ga @c (ga @f @g)) ?_|exact aF (ga @b9 (ga @aN (ga @bB (ga @bH (ga @dG (ga @cG @wj)))))) (ga @c (ga @f @g))|fail
   all_goals first|rfl|trace_state
  .rw[m,aw]at g;have o:=J6 _ a j y b h3 h4;rw[o];have k:decide ((j:Int)<0)=false:=by simp
   refine aL Tryz.f25 ?_ [100003,300020,300031]
   repeat' first|refine ab (λ_=> ?_) λ_=> ?_|refine aG (ga @k (ga @b (ga @b9 (ga @aN (ga @bB (ga @bH (ga @dG (ga @cG @wj)))))))) (ga @c (ga @f @g)) ?_|exact aF (ga @k (ga @b (ga @b9 (ga @aN (ga @bB (ga @bH (ga @dG (ga @cG @wj)))))))) (ga @c (ga @f @g))|fail
   all_goals first|rfl|trace_state
def eN:eU->ak->List ak
 |[],_=>[]
 |e::V,i=>if e.1=i then e.2 else eN V i
theorem EC{V:eU}{i:ak}{j:Nat}{l:List ak}(a:(V.map (·.1)).Nodup)(h:V[j]?=some (i,l)):eN V i=l:=by
 induction V generalizing j with
 |nil=>simp at h
 |cons e V c=>
  rw[bX,nP]at a;rw[eN];cases j with
  |zero=>simp at h;subst h;rw[if_pos rfl]
  |succ j=>
   have h:V[j]?=some (i,l):=by simpa using h
   rw[if_neg λb=>a.1 (by rw[b];exact eR (f:=Prod.fst) (bR h))];exact c a.2 h
theorem yM{V:eU}{i:ak}(h:i∉V.map (·.1)):eN V i=[]:=by
 induction V with
 |nil=>rfl
 |cons e V c=>
  rw[bX,bF]at h;rw[eN,if_neg λa=>h (.inl a.symm)];exact c λb=>h (.inr b)
def qV(l:ar)(i:ak):Bool:=(lG l i).isSome&&decide (eN (jh l).2 i=[])
set_option maxHeartbeats 1000000 in
theorem EB(l:ar)(p:l.length<=1000)(t: ∀x∈l,bS x.pat/\db x.pat)(k: ∀x∈l,(bu x.pat).length<=1000000)(g:(b8 l).Nodup)(i:ak):aI Tryz.prog 43 [.sl 37 (l.map aX),.agg (ae i)] (dB (qV l i)):=by
 have b:=K4 l p t i;have m:=λs=>Ev l p t k g s;unfold qV;by_cases h:(lG l i).isSome=true
 .rw[h]at b⊢;obtain⟨at_,c⟩: ∃q,q=(lG l i).getD .zero:=⟨_,rfl⟩
  rw[<-c]at b;obtain⟨A,d⟩: ∃q,q=(jh l).2:=⟨_,rfl⟩
  rw[<-d]at m⊢;clear c d;refine aL Tryz.f43 ?_ [100003]
  repeat' first|refine ab (λ_=> ?_) λ_=> ?_|refine aH ?_|refine af.data (b) rfl ?_|(refine af.fn ((m _).mono ?_);rintro _ z ⟨rfl,M,f⟩)|simp only[aN,bB,cG,aM,wj,wy,qg,aE,simprocAttr,ax,aD,aB,aw]
  have hm:z[3]?=some (.map true (cI M)):=f.map;have a:=uo i M 0;rcases f.find i with⟨e,o⟩|⟨j,v,r,e,o,h3,h4⟩
  .rw[e]at a;rw[yM o]
   repeat' first|refine ab (λ_=> ?_) λ_=> ?_|refine aH ?_|simp only[hm,a,aN,qR,jY,Int.reduceBEq,wj,wy,qg,aE,simprocAttr,ax,aD,aB,aw]
   all_goals first|rfl|trace_state
  .rw[e]at a;rw[EC f.nd h3];rcases h4 with⟨rfl,rfl⟩|⟨rr,rfl,hr⟩
   .repeat' first|refine ab (λ_=> ?_) λ_=> ?_|refine aH ?_|simp only[hm,a,aN,eY,eF,Int.reduceBEq,wj,wy,qg,aE,simprocAttr,ax,aD,aB,aw]
    all_goals first|rfl|trace_state
   .have n:((r.length:Int)==0)=decide (r=[]):=by
     cases r with
     |nil=>rfl
     |cons y r=>rw[show decide (y::r=[])=false by simp];simp;omega
    obtain⟨q,w⟩: ∃q,q=decide (r=[]):=⟨_,rfl⟩
    rw[<-w]at n⊢
    repeat' first|refine ab (λ_=> ?_) λ_=> ?_|refine aH ?_|simp only[hm,a,n,aN,eY,eF,aM,wj,wy,qg,aE,simprocAttr,ax,aD,aB,aw]
    all_goals first|rfl|(rename_i u;exact u.symm)|trace_state
 .have h:(lG l i).isSome=false:=by simpa using h
  rw[h]at b⊢;refine aL Tryz.f43 ?_ [100003];exact bL (ga @aN (ga @bB (ga @cG @wj))) @b
  all_goals first|rfl|trace_state
end Go.Proofs.Q
